/- Lemmas. -/
import Derived.Shelf.Slices.CompactI
import Derived.Ground.Names2Prog
import Derived.Test.YthcmboepffiliaaGreatProg
import Derived.Test.YthcmboepffiliaaGreatvG9
set_option maxRecDepth 4000
set_option linter.all false
namespace Go.Proofs.YthcmboepffiliaaGreat
open Go.RowKit Go.Proofs.Tryz
def akS:=@List.flatMap_singleton
def zM:=@underlying59
def DV:=@underlying82
section
variable {l:List aI}{es:oh}{c:Int}{pre:List (aI × Bool)}{x:aI × Bool}{S S0:Nat->Prop}{F:List kF}{oz jK:Nat}{wP jL:ah}{D bX:List Int}{aX ls:List fJ}
def qC(l:List aI)(es:oh)(c:Int):List (BitVec 8) × Int × Int:=match (Bn l es).find? (fun(p:aI × Bool)=>decide (p.1.X=c)) with
  | none=>([],0,5)
  | some p=>if p.2=true then([],0,4) else((fU (⟨c,false⟩:bP) es).2.2,p.1.E,0)
def Oz(h:∀ y∈Bn l es,y.1.X≠c):qC l es c=([],0,5):=by
 unfold qC; rw [EZ.2 (λy hy=>by simpa using h y hy)]
abbrev OA(gX:Int)(iP:oh):=fU (⟨gX,false⟩:bP) iP
def rd_some(h:pre++[x] <+: Bn l es)(hno:∀ y∈pre,y.1.X≠c)(hx:x.1.X=c):qC l es c=if x.2=true then([],0,4) else((OA c es).2.2,x.1.E,0):=by
 obtain⟨t,ht⟩:=h;unfold qC;rw [<- ht,MS,MS,EZ.2 (λy hy=>by simpa using hno y hy)]
 simp [hx]
def ay6:∀ w,(zeroValue 27).run prog w=.ok (O 0) w:=ay
def auj:bC prog 163:=ay
def aBq:kW prog 42:=ay
def ahZ{b w:World}(H0:Hp b S w F)  : bM prog 88 #[fK oz] w λv w'=>∃ agD,v=.func (.func 163) #[] #[fK agD]/\Hp b S w' (dJ agD 84 [fK oz]::F):=by
 refine qN func88 ntmps88 Y<|rg<|bx Y Y H0 λg1 w1 K1=>fE Y<|rg<|ev (rZ Y)<|fE Y<|iU Y ?_
 exact⟨g1,Y,K1⟩
abbrev aeF:=bP × Option Addr × Nat × List (BitVec 8)
def ah0{b w:World}{gm:Nat}{A:ah}{c:Nat}{bB:Int}{es:V aeF}(H0:Hp b S w (dJ oz 152 [O bB,.slice A l.length c,.map (some gm)]::dI bg A c l::rV yw xF gm es::fH fP 5 (es.map Prod.snd)::F))(aN:Int)(hl:l.length<=100000)(hb:(fU ⟨aN,false⟩ es).2.2.length<=1000):bM prog 40 #[fK oz,O aN] w λv w'=>∃ A0 c0,v=.tuple #[.slice A0 (((qC l es aN).1).length) c0,O ((qC l es aN).2.1),O ((qC l es aN).2.2)]/\Hp b S w' (aR fP 5 A0 c0 ((qC l es aN).1)::dJ oz 152 [O bB,.slice A l.length c,.map (some gm)]::dI bg A c l::rV yw xF gm es::fH fP 5 (es.map Prod.snd)::F):=by
 refine aGx func40 ntmps40 Y<|rg<|bx Y Y H0 λg1 w1 K1=>bx Y Y K1 λg2 w2 K2=>al Oy Y K2 λg3 w3 K3=>al akg Y K3 λg4 w4 K4=>al ay6 Y K4 λg5 w5 K5=>dn<|aZ<|rg<|lY K5 s4 Y<|gu Y (ahZ K5 ) ?_
 rintro _ w6 ⟨QA,rfl,K6⟩;refine dn<|dF<|WP.range Y auj (aco aj) (Hp.aBp (L:=[dJ g3 42 [.slice none 0 0],dJ g4 3 [O 0],dJ g5 27 [O 0],dJ g2 3 [O aN],dJ g1 84 [fK oz]]) (aYa:=[dJ QA 84 [fK oz],dJ oz 152 [O bB,.slice A l.length c,.map (some gm)],dI bg A c l,rV yw xF gm es,fH fP 5 (es.map Prod.snd)]) (F:=F) (((((K6.sel U).mV 4 2).sel s3).sel s4).sel s5)) (λ_=>Y) Y (λpre Fj=>Fj=(dJ g3 42 [.slice none 0 0]::dJ g4 3 [O 0]::dJ g5 27 [O 0]::dJ g2 3 [O aN]::dJ g1 84 [fK oz]::F)/\(∀ y∈pre,y.1.X≠aN)) (λc pre Fj=>(c=.ret/\∃(A:ah)(c:Nat)(xs:V (BitVec 8))(z:Int)(e:Int),Fj=(dJ g3 42 [.slice A xs.length c]::dJ g4 3 [O z]::dJ g5 27 [O e]::aR fP 5 A c xs::dJ g2 3 [O aN]::dJ g1 84 [fK oz]::F)/\(qC l es aN=(xs,z,e)))) (λpre x l1 Fj=>∃ V3,l1=[(2,fK g1),(3,fK g2),(4,fK g3),(5,fK g4),(6,fK g5),(7,fK V3),(8,.bool x.2)]/\Fj=(dJ V3 140 [O x.1.X,O x.1.E,gP x.1.Sum,.bool x.1.fZ,.bool x.1.Bad]::dJ g3 42 [.slice none 0 0]::dJ g4 3 [O 0]::dJ g5 27 [O 0]::dJ g2 3 [O aN]::dJ g1 84 [fK oz]::F)/\(∀ y∈pre,y.1.X≠aN)) ⟨Y,av⟩ ?_ ?_ ?_ ?_
 ·rintro lr pre x _ G w7 ⟨rfl,hno⟩ hpre K7;have H1:=Hp.tin (L:=[dJ g3 42 [.slice none 0 0],dJ g4 3 [O 0],dJ g5 27 [O 0],dJ g2 3 [O aN],dJ g1 84 [fK oz]]) (X1:=[dJ QA 84 [fK oz],dJ oz 152 [O bB,.slice A l.length c,.map (some gm)],dI bg A c l,rV yw xF gm es,fH fP 5 (es.map Prod.snd)]) (F:=F) K7;refine rg<|al yP Y H1 λg6 w8 K8=>sty Y K8 U Y λw9 K9=>dn<|jN<|oJ Y<|jO<|l7.ap ⟨g6,Y,Y,hno⟩ Y (Qz (L:=[dJ g6 140 [O x.1.X,O x.1.E,gP x.1.Sum,.bool x.1.fZ,.bool x.1.Bad],dJ g3 42 [.slice none 0 0],dJ g4 3 [O 0],dJ g5 27 [O 0],dJ g2 3 [O aN],dJ g1 84 [fK oz]]) (X1:=[dJ QA 84 [fK oz],dJ oz 152 [O bB,.slice A l.length c,.map (some gm)],dI bg A c l,rV yw xF gm es,fH fP 5 (es.map Prod.snd)]) (F:=F) K9)
 ·rintro lr pre x _ _ G PE ⟨V3,rfl,rfl,hno⟩ hpre K10;have H2:=Hp.tin (L:=[dJ V3 140 [O x.1.X,O x.1.E,gP x.1.Sum,.bool x.1.fZ,.bool x.1.Bad],dJ g3 42 [.slice none 0 0],dJ g4 3 [O 0],dJ g5 27 [O 0],dJ g2 3 [O aN],dJ g1 84 [fK oz]]) (X1:=[dJ QA 84 [fK oz],dJ oz 152 [O bB,.slice A l.length c,.map (some gm)],dI bg A c l,rV yw xF gm es,fH fP 5 (es.map Prod.snd)]) (F:=F) K10;refine dF<|dF<|rg<|jP V3 0 mI H2 U Y<|lY H2 s4 Y<|pA 3 Y<|bS Y (λuQ=>?_) (λuQ=>?_)
  ·replace uQ:=oL uQ;refine yC (iF (iF ?_));exact l7.rn ⟨Y,by intro y hy; rcases j5.1 hy with h | h; exact hno y h; rw [mU.1 h]; exact uQ⟩ (Qz (L:=[dJ g3 42 [.slice none 0 0],dJ g4 3 [O 0],dJ g5 27 [O 0],dJ g2 3 [O aN],dJ g1 84 [fK oz]]) (X1:=[dJ QA 84 [fK oz],dJ oz 152 [O bB,.slice A l.length c,.map (some gm)],dI bg A c l,rV yw xF gm es,fH fP 5 (es.map Prod.snd)]) (F:=F) (H2.rm U))
  replace uQ:=oM uQ;refine gD Y<|fE Y<|bS Y (λhc28=>?_) (λhc28=>?_)
  ·refine rg<|xD Y H2 s1 Y λVY vF=>xD Y vF s2 Y λUy uR=>xD Y uR s3 Y λYX xk=>dn<|jE (jM (jM ?_))
   have H3:=xk.nil fP 5;exact l7.rr ⟨Y,none,0,([]:V (BitVec 8)),0,4,Y,by rw [rd_some hpre hno aj,aS hc28]⟩ (Qz (L:=[dJ g3 42 [.slice none (([]:V (BitVec 8)).length) 0],dJ g4 3 [O 0],dJ g5 27 [O 4],aR fP 5 none 0 [],dJ g2 3 [O aN],dJ g1 84 [fK oz]]) (X1:=[dJ QA 84 [fK oz],dJ oz 152 [O bB,.slice A l.length c,.map (some gm)],dI bg A c l,rV yw xF gm es,fH fP 5 (es.map Prod.snd)]) (F:=F) (((((H3.rm s4).sel U).sel s1).sel s2).sel s3))
  refine HeR H2 (λ_ K=>(K.cU 1 3)) (λl0 rk lJ wJ=>∃ jG jr,lJ=l0/\Hp b S wJ (dJ g5 27 [O 0]::dJ g4 3 [O x.1.E]::dJ g3 42 [.slice jG (((OA aN es).2.2).length) jr]::aR fP 5 jG jr ((OA aN es).2.2)::rk)) (λhns H4=>?_) ?_
  ·have k1:=(H4.cU 1 3);refine xS 0 s2 Y k1<|JG 1 oz 2 yR Y k1<|xS 3 s4 Y k1<|xS 4 s1 Y k1<|kI 5 Y (λ_ _=>iT (vs:=[(0,O aN),(1,.bool false)]) (cs:=[O aN,.bool false]) Y (by apply qx)) k1<|kI 6 rfl (λ_ hK=>Ev.ahS (z:=(⟨aN,false⟩:bP)) hK s6 vW FM Oy rfl rfl) k1<|mK 8 9 V3 1 sJ U rfl k1<|O1 7 rfl<|gu rfl (Bl _ (H4.atZ s10 (⟨aN,false⟩:bP)) aj) ?_
   rintro _ w14 ⟨aue,auf,rfl,h14⟩;have wF:=H4.f1 h14;have k2:=((wF.cU 2 3).rm U);refine aO k2<|O1 10 Y<|xD Y wF s2 Y λw15 zI=>?_
   have k3:=((zI.cU 3 2).cU 0 2);refine aO k3<|O1 11 Y<|xD Y zI s3 Y λw16 BZ=>?_
   have k4:=((BZ.rm s4).cU 0 3);refine aO k4<|O1 12 Y<|xD Y BZ s4 Y λw17 zT=>?_
   have k5:=(zT.cU 0 4);refine aO k5<|Dn ⟨aue,auf,Y,zT⟩ Y
  rintro _ w18 ⟨jG,jr,rfl,EL⟩;refine jE (jM (jM ?_));exact l7.rr ⟨Y,jG,jr,((OA aN es).2.2),x.1.E,0,Y,by rw [rd_some hpre hno aj,aQ (by rw [hc28]; decide)]⟩ (Qz (L:=[dJ g3 42 [.slice jG (((OA aN es).2.2).length) jr],dJ g4 3 [O x.1.E],dJ g5 27 [O 0],aR fP 5 jG jr ((OA aN es).2.2),dJ g2 3 [O aN],dJ g1 84 [fK oz]]) (X1:=[dJ QA 84 [fK oz],dJ oz 152 [O bB,.slice A l.length c,.map (some gm)],dI bg A c l,rV yw xF gm es,fH fP 5 (es.map Prod.snd)]) (F:=F) ((((EL.rm s4).sel U).sel s1).sel s2))
 ·rintro aYb _ w19 ⟨rfl,hno⟩ Ai;refine iF (fV ?_);refine rg<|xD Y Ai s6 Y λw20 Fg=>xD Y Fg s7 Y λw21 IJ=>xD Y IJ s8 Y λw22 Hy=>dn<|jE (l7.an6 ((Hy.mV 0 3).sel s3) Y λw23 Le=>⟨_,⟨_,_,Y,⟨_,Y,Cj aBq (((Le.x s2).cell 0).trans Y)⟩,⟨_,_,Y,⟨_,Y,Cj jF (((Le.x s1).cell 0).trans Y)⟩,⟨_,_,Y,⟨_,Y,Cj aBj (((Le.x U).cell 0).trans Y)⟩,Y⟩⟩⟩,?_⟩)
  have H5:=Le.nil fP 5;have gy:(([]:V (BitVec 8)):V (BitVec 8))=((qC l es aN).1):=by first | rw [Oz hno] | rw [hrd]
  have gH:(0:Int)=((qC l es aN).2.1):=by first | rw [Oz hno] | rw [hrd]
  have kN:(5:Int)=((qC l es aN).2.2):=by first | rw [Oz hno] | rw [hrd]
  exact⟨none,0,by rw [<- gH,<- kN,<- gy] <;> rfl,by rw [<- gy]; exact((H5.cU 9 2).cU 1 4)⟩
 ·rintro aYb c pre F w24 (⟨rfl,A,c,xs,z,e,rfl,hrd⟩) pz;refine jE (jM (gG (l7.an6 pz Y λw25 DU=>⟨_,⟨_,_,Y,⟨_,Y,Cj aBq (((DU.x s5).cell 0).trans Y)⟩,⟨_,_,Y,⟨_,Y,Cj jF (((DU.x s6).cell 0).trans Y)⟩,⟨_,_,Y,⟨_,Y,Cj aBj (((DU.x s7).cell 0).trans Y)⟩,Y⟩⟩⟩,?_⟩)));have nM:(xs:V (BitVec 8))=((qC l es aN).1):=by first | rw [Oz hno] | rw [hrd]
  have uO:(z:Int)=((qC l es aN).2.1):=by first | rw [Oz hno] | rw [hrd]
  have zC:(e:Int)=((qC l es aN).2.2):=by first | rw [Oz hno] | rw [hrd]
  exact⟨A,c,by rw [<- uO,<- zC,<- nM] <;> rfl,by rw [<- nM]; exact(((((DU.cU 9 2).cU 5 3).rm U).mV 0 4).sel s4)⟩
def uM(pre:List (aI × Bool)):List Int:=(pre.filter fun(p:aI × Bool)=>p.2).map fun(p:aI × Bool)=>p.1.X
def FR(l:List aI)(es:oh):List Int:=uM (Bn l es)
def amF(h:x.2=true):uM pre++[x.1.X]=uM (pre++[x]):=by unfold uM; rw [CB,sU]; simp [h]
def auk(h:x.2=false):uM pre=uM (pre++[x]):=by unfold uM; rw [CB,sU]; simp [h]
def ah1(pre:V (aI × Bool)):(uM pre).length<=pre.length:=by unfold uM; rw [jW]; exact mW _ _
def aps(l:V aI)(es:oh):(Bn l es).length<=l.length:=by unfold Bn; rw [jW]; exact EP l
def ay7(s:List aI × oh)(c:Int):List aI × oh:=(DC s.1 c,Qw s.1 c s.2)
def uU(l:List aI)(es:oh)(k:Nat):List aI × oh:=((FR l es).take k).foldl ay7 (l,es)
def SQ{k:Nat}(h:(FR l es)[k]? = some c):uU l es (k+1)=(DC (uU l es k).1 c,Qw (uU l es k).1 c (uU l es k).2):=by
 unfold uU; rw [eO h,AP]; rfl
def aul(l:V aI)(c:Int):(DC l c).length<=l.length:=by
 unfold DC; split
 ·unfold oZ; split
  ·exact lG (mW _ _) (xL l)
  ·simp
 ·exact j4 _
def ah2(l:V aI)(es:oh):∀ k,(uU l es k).1.length<=l.length
 | 0=>j4 _
 | k+1=>by
  have h:=ah2 l es k
  rcases G6 k (FR l es).length with hk | hk
  ·obtain⟨x,hx⟩:=bH hk
   rw [SQ hx]; exact lG (aul _ _) h
  ·unfold uU at h ⊢
   rw [gY aj] at h ⊢; exact h
def apt{b w:World}{gm:Nat}{A:ah}{c:Nat}{bB:Int}{es:V aeF}(H0:Hp b S w (dJ oz 152 [O bB,.slice A l.length c,.map (some gm)]::dI bg A c l::rV yw xF gm es::fH fP 5 (es.map Prod.snd)::F))(hl:l.length<=100000):bM prog 83 #[fK oz] w λv w'=>∃ A0 c0 A1 c1,v=.slice A0 ((uM (Bn l es)).length) c0/\Hp b S w' (aR dN 3 A0 c0 (uM (Bn l es))::dJ oz 152 [O bB,.slice A1 (((uU l es (FR l es).length).1).length) c1,.map (some gm)]::dI bg A1 c1 ((uU l es (FR l es).length).1)::rV yw xF gm ((uU l es (FR l es).length).2)::fH fP 5 (((uU l es (FR l es).length).2).map Prod.snd)::F):=by
 refine aGx func83 ntmps83 Y ?_;have hhl:=aps l es;have hgl:=ah1 (Bn l es);refine kX Y<|rg<|al adF Y H0 λg1 w1 K1=>dn<|aZ<|gD Y<|gu Y (ahZ K1 ) ?_
 rintro _ w2 ⟨Qd,rfl,K2⟩;refine dn<|dF ?_
 have H1:=K2.nil dN 3;refine WP.range Y auj (aco aj) (Hp.aBp (L:=[dJ g1 46 [.slice none ((uM []).length) 0],aR dN 3 none 0 []]) (aYa:=[dJ Qd 84 [fK oz],dJ oz 152 [O bB,.slice A l.length c,.map (some gm)],dI bg A c l,rV yw xF gm es,fH fP 5 (es.map Prod.snd)]) (F:=F) ((H1.mV 0 2).sel s2)) (λ_=>Y) Y (λpre Fj=>∃ Ag cg,Fj=(dJ g1 46 [.slice Ag ((uM pre).length) cg]::aR dN 3 Ag cg (uM pre)::F)) (λc pre Fj=>False) (λpre x l1 Fj=>∃ Ag cg V3,l1=[(3,fK g1),(4,fK V3),(5,.bool x.2)]/\Fj=(dJ V3 140 [O x.1.X,O x.1.E,gP x.1.Sum,.bool x.1.fZ,.bool x.1.Bad]::dJ g1 46 [.slice Ag ((uM pre).length) cg]::aR dN 3 Ag cg (uM pre)::F)) ⟨none,0,Y⟩ ?_ ?_ ?_ ?_
 ·rintro lr pre x _ G w3 ⟨Ag,cg,rfl⟩ hpre K3;have H2:=Hp.tin (L:=[dJ g1 46 [.slice Ag ((uM pre).length) cg],aR dN 3 Ag cg (uM pre)]) (X1:=[dJ Qd 84 [fK oz],dJ oz 152 [O bB,.slice A l.length c,.map (some gm)],dI bg A c l,rV yw xF gm es,fH fP 5 (es.map Prod.snd)]) (F:=F) K3;refine rg<|al yP Y H2 λg2 w4 K4=>sty Y K4 U Y λw5 K5=>dn<|jN<|oJ Y<|jO<|l7.ap ⟨Ag,cg,g2,Y,Y⟩ Y (Qz (L:=[dJ g2 140 [O x.1.X,O x.1.E,gP x.1.Sum,.bool x.1.fZ,.bool x.1.Bad],dJ g1 46 [.slice Ag ((uM pre).length) cg],aR dN 3 Ag cg (uM pre)]) (X1:=[dJ Qd 84 [fK oz],dJ oz 152 [O bB,.slice A l.length c,.map (some gm)],dI bg A c l,rV yw xF gm es,fH fP 5 (es.map Prod.snd)]) (F:=F) K5)
 ·rintro lr pre x _ _ G w6 ⟨Ag,cg,V3,rfl,rfl⟩ hpre K6;have H3:=Hp.tin (L:=[dJ V3 140 [O x.1.X,O x.1.E,gP x.1.Sum,.bool x.1.fZ,.bool x.1.Bad],dJ g1 46 [.slice Ag ((uM pre).length) cg],aR dN 3 Ag cg (uM pre)]) (X1:=[dJ Qd 84 [fK oz],dJ oz 152 [O bB,.slice A l.length c,.map (some gm)],dI bg A c l,rV yw xF gm es,fH fP 5 (es.map Prod.snd)]) (F:=F) K6;have hpl:=ah1 pre;have aOx:=hpre.length_le;rw [jH] at aOx;refine dF<|gD Y<|dn<|bS Y (λoD=>?_) (λoD=>?_)
  ·refine jN<|lY H3 s1 Y<|jP V3 0 mI H3 U Y<|yV (τ:=dN) (x:=x.1.X) Y (by intro _; apply pI) rfl H3 (λ_ _=>rfl) λg3 w7 K7=>ap (ys:=([x.1.X]:V Int)) K7 s3 rfl rfl (K7.o U) gq LB aj av rfl λsQ sS w8 K8=>xD rfl K8 s3 rfl λw9 K9=>jO<|iF ?_
   have gy:(((uM pre)++([x.1.X]:V Int)):V Int)=(uM (pre++[x])):=by first | exact amF oD | exact auk oD
   rw [gy] at K9;exact l7.rn ⟨sQ,sS,Y⟩ (Qz (L:=[dJ g1 46 [.slice sQ ((uM (pre++[x])).length) sS],aR dN 3 sQ sS (uM (pre++[x]))]) (X1:=[dJ Qd 84 [fK oz],dJ oz 152 [O bB,.slice A l.length c,.map (some gm)],dI bg A c l,rV yw xF gm es,fH fP 5 (es.map Prod.snd)]) (F:=F) (K9.cU 2 2))
  refine yC (iF ?_);have gH:((uM pre):V Int)=(uM (pre++[x])):=by first | exact amF oD | exact auk oD
  rw [gH] at H3;exact l7.rn ⟨Ag,cg,Y⟩ (Qz (L:=[dJ g1 46 [.slice Ag ((uM (pre++[x])).length) cg],aR dN 3 Ag cg (uM (pre++[x]))]) (X1:=[dJ Qd 84 [fK oz],dJ oz 152 [O bB,.slice A l.length c,.map (some gm)],dI bg A c l,rV yw xF gm es,fH fP 5 (es.map Prod.snd)]) (F:=F) (H3.rm U))
 ·rintro aYb _ PE ⟨Ag,cg,rfl⟩ K10;refine iF (fV ?_);refine aZ ?_;have hgx:(FR l es).length<=l.length:=lG hgl hhl;refine rg<|lY K10 s6 Y<|pA 3 Y<|dF ?_
  have kN:(l:V aI)=(uU l es 0).1:=by rfl
  rw [kN] at K10;have nM:(.slice A l.length c:Value)=.slice A (((uU l es 0).1).length) c:=by rfl
  try rw [nM] at K10
  have uO:es=(uU l es 0).2:=by rfl
  rw [uO] at K10;refine Lp (K10.cU 2 4) (λl0 rk mJ lJ wJ=>∃ k A1 c1,lJ=(20,O ((k:Nat):Int))::l0/\mJ=(uM (Bn l es)).length - k/\k<=(uM (Bn l es)).length/\Hp b S wJ (dI bg A1 c1 ((uU l es k).1)::dJ oz 152 [O bB,.slice A1 (((uU l es k).1).length) c1,.map (some gm)]::rV yw xF gm ((uU l es k).2)::fH fP 5 (((uU l es k).2).map Prod.snd)::rk)) ⟨0,A,c,Y,Y,fI _,((((K10.mV 0 2).mV 4 2).sel s4).sel s5)⟩ Y ?_;rintro _ _ VY ⟨k,A1,c1,rfl,rfl,hk,vF⟩;refine rg<|ev (iH Y Y)<|dn<|r9 Y (λhc21=>?_) (λhc21=>?_)
  ·refine jQ ?_;refine aZ<|dF ?_
   have hsl:=ah2 l es k;refine rg ?_;obtain⟨x1,bT⟩:=bH (xs:=(uM (Bn l es))) (i:=k) aj;refine ev (d9 (i:=k) gq wX Y Y Y (aP bT) ((vF.o s7).some_ bT))<|ev (kG jF Y ((vF.o s7).eZ (j:=0) bT Y))<|fE Y<|jN<|pq 2 Y<|gu Y (ZW ((vF.sel U).sel s1) x1 aj) ?_
   rintro _ Uy ⟨aum,aun,rfl,uR⟩;refine jO<|iF (fV ?_)
   refine jN<|ev (eG Y Y)<|mv Y<|jO ?_
   have zC:((DC ((uU l es k).1) x1):V aI)=(uU l es (k+1)).1:=by rw [SQ bT]
   rw [zC] at uR;have BO:(.slice aum ((DC ((uU l es k).1) x1).length) aun:Value)=.slice aum (((uU l es (k+1)).1).length) aun:=by rw [SQ bT]
   try rw [BO] at uR
   have hq8:(Qw ((uU l es k).1) x1 ((uU l es k).2))=(uU l es (k+1)).2:=by rw [SQ bT]
   rw [hq8] at uR;exact dX ⟨(k+1),aum,aun,Y,Y,aj,((uR.sel U).sel s1)⟩ rfl aj
  refine BU ?_;refine rg<|lY vF s6 Y<|fE Y<|jE (l7.an6 ((vF.mV 0 4).sel s4) Y λYX xk=>⟨_,⟨_,_,Y,Y,Y⟩,?_⟩)
  have Aa:((uU l es k).1:V aI)=((uU l es (FR l es).length).1):=by first | rw [show k=(FR l es).length from by show k=(uM (Bn l es)).length; omega] | rfl
  have vL:((uU l es k).2:V aeF)=((uU l es (FR l es).length).2):=by first | rw [show k=(FR l es).length from by show k=(uM (Bn l es)).length; omega] | rfl
  exact⟨Ag,cg,A1,c1,Y,by rw [<- Aa,<- vL]; exact(((((xk.cU 4 2).mV 2 2).sel s2).sel s3).sel s4)⟩
 ·rintro aYb c pre F w h _;exact h.elim
def aEd:bC prog 232:=ay
def aEe:wT prog 162 2 16:=by
 obtain⟨i,h1,h2,h3,h4⟩:=qo (show(prog.info? 162).map (λi=>(i.zero,i.size,i.bytes))=some (some (.agg #[O 0,O 0]),2,16) by kernel_rfl);exact⟨i,_,h1,h2,h3,h4,Y,λv hv=>mD.1 (show(Value.cells (.agg #[O 0,O 0])).toList.all (λv=>v.oneCell')=true from Y) v hv⟩
def aeG(a0:Int)(a1:Int):prog.built 162 [(0,O a0),(1,O a1)]=some #[O a0,O a1]:=ak
def akT(a0:Int)(a1:Int):∀ w,(Instr.buildSlice 60 1 (List.toArray [(0,.agg #[O a0,O a1])])).run prog w=.ok (.slice (some ⟨w.heap.size,0,none⟩) 1 1) (w.alloc (.cells (List.toArray [O a0,O a1]) 162)):=ay
def ah3(a0:ah)(a0n a0c:Nat)(a1:ah)(a1n a1c:Nat):∀ w,(Instr.buildSlice 418 2 (List.toArray [(0,.slice a0 a0n a0c),(1,.slice a1 a1n a1c)])).run prog w=.ok (.slice (some ⟨w.heap.size,0,none⟩) 2 2) (w.alloc (.cells (List.toArray [.slice a0 a0n a0c,.slice a1 a1n a1c]) 61)):=ay
def apu  : ∀ w,(Instr.buildSlice 131 0 (List.toArray [])).run prog w=.ok (.slice (some ⟨w.heap.size,0,none⟩) 0 0) (w.alloc (.cells (List.toArray []) 221)):=ay
def ZY(w:World){vk:Nat}{s:V eP}(sP:Sl iG S0 w wP vk s)(target:Int){CK:FuncId}{Hr:V Value}(VR:bC prog CK)(f:eP->Int->Int)(VT:∀(w':World)(x:eP)(t:Int),Ext w w'->True->bM prog CK (([.agg #[O x.Node,O x.At],O t]:V Value)++Hr).toArray w' λv w''=>v=O (f x t)/\Ext w' w'')(hm:ac1 (fun(y:eP)=>f y target) s)(hn:s.length<=1000000):bM prog 231 #[.slice wP s.length vk,O target,.func (.func CK) #[] Hr.toArray] w λv w'=>v=.tuple #[O ((low (fun(y:eP)=>f y target) s:Nat):Int),.bool (hits (fun(y:eP)=>f y target) s)]/\Hp w S0 w' []:=by
 refine lg S0 func231 ntmps231 Y λH0=>?_;have qU:=M0;have qZ:=Qc;have qG:=M9;exact mBS
def apv(w:World)(b:eP)(bF:Int):bM prog 232 #[.agg #[O b.Node,O b.At],O bF] w λv w'=>v=O (bL b.Node bF)/\Hp w S0 w' []:=by
 refine lg S0 func232 ntmps232 Y λH0=>rg<|bx Y Y H0 λg1 w1 K1=>fE Y<|rg<|jP g1 0 IL K1 U Y<|mv Y<|mX K1 Y (nV (S0:=Any) _ b.Node bF) λw2 K2=>fE Y<|iU Y ?_
 exact⟨Y,(K2.rm U)⟩
def auo(w:World){l:V eP}(jq:Sl iG S0 w jL jK l)(bF:Int)(hu:Up eP.Node l)(hn:l.length<=1000000):bM prog 149 #[.slice jL l.length jK,O bF] w λv w'=>v=.tuple #[O ((low (fun(y:eP)=>bL y.Node bF) l:Nat):Int),.bool (hits (fun(y:eP)=>bL y.Node bF) l)]/\Hp w S0 w' []:=by
 refine lg S0 func149 ntmps149 Y λH0=>pC 7 Y<|mX H0 Y (ZY _ (H0.a jq).any bF aEd (fun(x:eP) (t:Int)=>bL x.Node t) (λw' x t e hm=>(apv (S0:=Any) w' x t).mono (by rintro _ _ ⟨rfl,gH⟩; exact⟨rfl,gH.ext⟩)) (hu.mono bF) aj) λw1 K1=>pA 5 rfl<|iU rfl ?_
 exact⟨Y,K1⟩
def ay8:ags 150 233 234 60 162 2 16 Tryz.f150.name:=⟨func150.trans (aY some ak),⟨_,func233,ak,ak,ak,ak⟩,M0,ig,Qc,ak,asz,aEe⟩
def abp:=@Ux _ _ _ _ _ _ _ _ iG ay8
def uN(l:List eP)(bF Z:Int):List eP:=if M7 ⟨bF,Z⟩ then(if hits (fun(y:eP)=>bL y.Node bF) (jw l) then(match (jw l)[low (fun(y:eP)=>bL y.Node bF) (jw l)]? with | some b=>(jw l).set (low (fun(y:eP)=>bL y.Node bF) (jw l)) { b with At:=if Z>b.At then Z else b.At } | none=>[]) else(jw l).take (low (fun(y:eP)=>bL y.Node bF) (jw l))++[⟨bF,Z⟩]++(jw l).drop (low (fun(y:eP)=>bL y.Node bF) (jw l))) else jw l
def ah4:∀(l:V eP)(z:Int),lZ z l=true->∀ b∈l,z<b.Node
 | [],_,_,b,hb=>by simp at hb
 | c::l,z,h,b,hb=>by
  simp only [lZ,bK,bN] at h
  rcases gW.1 hb with rfl | hb
  ·exact h.1.2
  ·have:=ah4 l _ h.2 b hb; omega
theorem Z0:∀(l:V eP)(z:Int),lZ z l=true->Up eP.Node l
 | [],_,_=>List.Pairwise.nil
 | c::l,z,h=>by
  simp only [lZ,bK,bN] at h
  exact nT.2 ⟨λb hb=>ah4 l _ h.2 b hb,Z0 l _ h.2⟩
def aup(l:V eP):Up eP.Node (jw l):=by
 unfold jw; split
 ·rename_i h; exact Z0 l 0 h
 ·exact List.Pairwise.nil
def auq(w:World){l:V eP}(jq:Sl iG S0 w jL jK l)(bF:Int)(Z:Int)(hn:l.length<=800000):bM prog 76 #[.slice jL l.length jK,O bF,O Z] w λv w'=>∃ A0 c0,v=.slice A0 ((uN l bF Z).length) c0/\Hp w S0 w' [aR iG 162 A0 c0 (uN l bF Z)]:=by
 refine lg S0 func76 ntmps76 Y λH0=>?_;have Iz:=jq.bI;have hf:=IQ l;have hlow:=G8 (fun(y:eP)=>bL y.Node bF) (jw l);refine pC 5 Y<|gu Y (agL _ (H0.a jq).any aj) ?_
 rintro _ w1 ⟨jT,jU,rfl,h1⟩;have K1:=H0.f1 h1;have La:=(K1.o U).bI;refine pB 5 Y<|ev (iT (vs:=[(0,O bF),(1,O Z)]) (cs:=[O bF,O Z]) Y (by apply aeG))<|al RF rfl K1 λg1 w2 K2=>sty rfl K2 U rfl λw3 K3=>dn<|aZ<|rg<|ev (fA M9 rfl rfl (K3.x U))<|mX K3 rfl (amc (S0:=Any) _ (⟨bF,Z⟩:eP)) λw4 K4=>pA 2 rfl<|bS rfl (λhc17=>?_) (λhc17=>?_)
 ·try simp only [aA] at hc17
  refine gD Y<|fE Y<|Aw Y ?_
  have gy:(jw l:V eP)=(uN l bF Z):=by unfold uN; rw [aQ (by rw [hc17]; decide)]
  rw [gy] at K4;exact⟨jT,jU,by rw [gy] <;> rfl,(K4.rm U)⟩
 try simp only [aA] at hc17
 refine jQ ?_;refine pC 3 Y<|mX K4 Y (auo _ (K4.o s1) bF (aup l) aj) λw5 K5=>pA 6 Y<|aZ<|gD Y<|ev (wC Y)<|dn<|bS Y (λPg=>?_) (λPg=>?_)
 ·try simp only [aA] at Pg
  refine pC 3 Y<|ev (fA M9 Y Y (K5.x U))<|yV (τ:=iG) (x:=(⟨bF,Z⟩:eP)) Y (by intro _; apply akT) rfl K5 (λ_ _=>rfl) λg2 w6 K6=>gu rfl (abp (i:=low (fun(y:eP)=>bL y.Node bF) (jw l)) K6 s2 U aj aj) ?_
  rintro _ w7 ⟨sQ,sS,rfl,K7⟩;refine fE Y<|Aw Y ?_
  have gH:(((jw l).take (low (fun(y:eP)=>bL y.Node bF) (jw l))++[(⟨bF,Z⟩:eP)]++(jw l).drop (low (fun(y:eP)=>bL y.Node bF) (jw l))):V eP)=(uN l bF Z):=by unfold uN; rw [aS hc17,aQ (by rw [Pg]; decide)]
  rw [gH] at K7;exact⟨sQ,sS,by rw [gH] <;> rfl,(K7.rm s1)⟩
 try simp only [aA] at Pg
 obtain⟨xb,hxb,hkb⟩:=qc (key:=eP.Node) Pg;have adl:=aP hxb;refine jQ ?_;refine pC 5 Y ?_;obtain⟨x1,bT⟩:=bH (xs:=jw l) aj;refine ev (d9 M0 Qc Y Y Y (aP bT) ((K5.o s1).some_ bT))<|ev (fq M8 Y (fD _ _ _))<|ev (kG jF Y ((K5.o s1).eZ bT Y))<|pq 2 Y<|ev (d9 M0 Qc Y Y Y (aP bT) ((K5.o s1).some_ bT))<|ev (fq M8 Y (fD _ _ _))<|se (x':={ x1 with At:=(if Z>x1.At then Z else x1.At) }) K5 s1 Y Y Y bT Y wX (nU Y) Y (by rintro _ _ _ ⟨⟩; rfl) λw8 K8=>?_
 have hl1:((jw l).set (low (fun(y:eP)=>bL y.Node bF) (jw l)) ({ x1 with At:=(if Z>x1.At then Z else x1.At) })).length=(jw l).length:=iC ..;refine gZ (t:=0) (u:=.slice jT ((jw l).length) jU) (v:=.slice jT (((jw l).set (low (fun(y:eP)=>bL y.Node bF) (jw l)) ({ x1 with At:=(if Z>x1.At then Z else x1.At) })).length) jU) Y (by rw [hl1])<|gZ (t:=11) (u:=.slice jT ((jw l).length) jU) (v:=.slice jT (((jw l).set (low (fun(y:eP)=>bL y.Node bF) (jw l)) ({ x1 with At:=(if Z>x1.At then Z else x1.At) })).length) jU) rfl (by rw [hl1])<|gZ (t:=20) (u:=.slice jT ((jw l).length) jU) (v:=.slice jT (((jw l).set (low (fun(y:eP)=>bL y.Node bF) (jw l)) ({ x1 with At:=(if Z>x1.At then Z else x1.At) })).length) jU) rfl (by rw [hl1])<|gZ (t:=32) (u:=.slice jT ((jw l).length) jU) (v:=.slice jT (((jw l).set (low (fun(y:eP)=>bL y.Node bF) (jw l)) ({ x1 with At:=(if Z>x1.At then Z else x1.At) })).length) jU) rfl (by rw [hl1])<|gZ (t:=34) (u:=.slice jT ((jw l).length) jU) (v:=.slice jT (((jw l).set (low (fun(y:eP)=>bL y.Node bF) (jw l)) ({ x1 with At:=(if Z>x1.At then Z else x1.At) })).length) jU) rfl (by rw [hl1])<|pA 5 rfl<|iU rfl ?_
 have kN:(((jw l).set (low (fun(y:eP)=>bL y.Node bF) (jw l)) ({ x1 with At:=(if Z>x1.At then Z else x1.At) })):V eP)=(uN l bF Z):=by unfold uN; rw [aS hc17,aS Pg,bT]
 rw [kN] at K8;exact⟨jT,jU,by rw [kN] <;> rfl,(K8.rm s1)⟩
def tL(l:List aT)(D:List Int):Nat->List fJ->List Int->List Int
  | 0,_,_=>[]
  | n+1,aX,hs=>match vB l D aX hs l with
    | none=>[]
    | some t=>t.ID::tL l D n (⟨t.ID,nX aX t.ID+1⟩::aX) (hs++[t.ID])
def amG{l:V aT}{hs:V Int}(h:(vB l D aX hs l).isSome=false):∀ n,tL l D n aX hs=[]
 | 0=>rfl
 | n+1=>by
  unfold tL
  cases ht:vB l D aX hs l with
  | none=>rfl
  | some t=>rw [ht] at h; cases h
def ah5{l:V aT}{hs:V Int}(h:(vB l D aX hs l).isSome=true)(n:Nat):tL l D (n+1) aX hs=yY (vB l D aX hs l)::tL l D n ((⟨yY (vB l D aX hs l),nX aX (yY (vB l D aX hs l))+1⟩:fJ)::aX) (hs++[yY (vB l D aX hs l)]):=by
 cases ht:vB l D aX hs l with
 | none=>rw [ht] at h; cases h
 | some t=>
  show(match vB l D aX hs l with | none=>[] | some t=>t.ID::tL l D n (⟨t.ID,nX aX t.ID+1⟩::aX) (hs++[t.ID]))=_;rw [ht]; rfl
def ah6(l:V aT)(D:V Int):∀(n:Nat)(aX:V fJ)(hs:V Int),(tL l D n aX hs).length<=n
 | 0,_,_=>j4 _
 | n+1,aX,hs=>by
  cases h:(vB l D aX hs l).isSome with
  | false=>rw [amG h]; simp
  | true=>rw [ah5 h]; have:=ah6 l D n ((⟨yY (vB l D aX hs l),nX aX (yY (vB l D aX hs l))+1⟩:fJ)::aX) (hs++[yY (vB l D aX hs l)]); simp only [oO]; omega
def akU{N:Int}(h0:0<=N)(h:∀ x∈ls,0<=x.N/\x.N<=N)(id:Int):0<=nX ls id/\nX ls id<=N:=by
 unfold nX
 split
 ·rename_i x hx; exact h x (YU hx)
 ·omega
def Lx(l:List bq)(c t:Int):Int:=if Cb l c t<0 then 5 else 0
def zX(l:List bq)(c t:Int):List bq:=if Cb l c t<0 then[] else l.take (Cb l c t).toNat++l.drop ((Cb l c t).toNat+1)
def aur{l:V bq}{t:Int}(h:¬ Cb l c t<0):(Cb l c t).toNat<l.length:=by
 have h1:=L9 (p:=fun(x:bq)=>decide (x.X=c)&&decide (x.To=t)) l;unfold Cb at h ⊢;omega
def abq(w:World)(n:Nat)(hn:n<=1000000):bM prog 340 #[.slice none 0 0,O ((n:Nat):Int)] w λv w'=>∃ A0 c0,v=.slice A0 (([]:V bq).length) c0/\Hp w S0 w' [aR dB 165 A0 c0 ([]:V bq)]:=by
 refine lg S0 func340 ntmps340 Y λH0=>kX Y<|aZ<|gD Y<|ev (iH Y Y)<|dn<|o8 Y (λhc6=>?_) (λhc6=>?_)
 ·omega
 refine jQ ?_;refine aZ<|pC 3 Y<|ev (Ev.cap vw Y)<|pq 2 Y<|ev (VO Y Y)<|ev (VO Y Y)<|pA 6 Y<|o8 Y (λhc16=>?_) (λhc16=>?_)
 ·refine jN<|pq 2 Y<|ev (Ev.cap vw Y)<|ev (Ev.WY vw Hz Y Y Y)<|mv Y<|apz dB Y Y vw ig UN aj aj Y H0 λg1 cz1 w1 K1=>pq 2 Y<|ev (Ev.WY vw Hz Y Y Y)<|oJ Y<|jO<|fV<|gD Y<|fE Y<|iU Y ?_
  exact⟨(some ⟨g1,0,none⟩),cz1,Y,K1⟩
 refine jQ ?_;refine gD Y<|fE Y<|iU Y ?_
 have H1:=H0.nil dB 165;exact⟨none,0,Y,H1⟩
def Z4(w:World){ag9:ah}{aha:Nat}{xss:V (V bq)}(abG:Sl (Ty.list dB) S0 w ag9 aha xss)(hn:(xss).flatten.length<=1000000):bM prog 272 #[.slice ag9 xss.length aha] w λv w'=>∃ A0 c0,v=.slice A0 (((xss).flatten).length) c0/\Hp w S0 w' [aR dB 165 A0 c0 ((xss).flatten)]:=by
 refine lg S0 func272 ntmps272 Y λH0=>?_;have qU:=underlying418;have qU1:=vw;have qZ:=aHi;have qG:=aAO;have qI:=UN;have qW:=@abq;exact mCC
abbrev Xz(gX:List bq)(iP:Nat):=([(gX.take iP),(gX.drop (iP+1))]:List (List bq))
def apw(w:World){l:V bq}(jq:Sl dB S0 w jL jK l)(aN:Int)(nZ:Int)(hn:l.length<=100000):bM prog 203 #[.slice jL l.length jK,O aN,O nZ] w λv w'=>∃ A0 c0,v=.tuple #[.slice A0 ((zX l aN nZ).length) c0,O (Lx l aN nZ)]/\Hp w S0 w' [aR dB 165 A0 c0 (zX l aN nZ)]:=by
 refine lg S0 func203 ntmps203 Y λH0=>pC 8 Y<|mX H0 Y (abW _ (H0.a jq).any aN nZ) λw1 K1=>fE Y<|aZ<|gD Y<|ev (iH Y Y)<|dn<|o8 Y (λrR=>?_) (λrR=>?_)
 ·refine rg<|oJ Y<|fE Y<|Aw Y ?_
  have H1:=K1.nil dB 165;have gy:(([]:V bq):V bq)=(zX l aN nZ):=by unfold zX; rw [aS rR]
  have H2:=(gy▸H1:Hp w S0 w1 (aR dB 165 none 0 (zX l aN nZ)::[]));exact⟨none,0,by unfold Lx; rw [<- gy,aS rR] <;> rfl,H2⟩
 refine jQ ?_;have hlt:=aur aj;obtain⟨i,hi⟩:∃ i:Nat,Cb l aN nZ=((i:Nat):Int):=⟨(Cb l aN nZ).toNat,aj⟩;rw [hi] at hlt;refine mP (t:=8) Y (aY (Value.int .i64) hi)<|He K1 (λ_ K=>K) (λl0 rk lJ wJ=>∃ jG jr,lJ=(6,.slice jG ((((Xz l i)).flatten).length) jr)::l0/\Hp w S0 wJ (aR dB 165 jG jr (((Xz l i)).flatten)::rk)) (λhns H3=>?_) ?_
 ·refine lF 0 Y Y H3<|lF 1 Y Y H3<|kI 2 Y (λ_ hK=>Ev.VN (hi:=i) (xs:=l) vw Hz Y Y Y aj (hK.a jq).cap) H3<|lF 3 Y Y H3<|lF 4 Y Y H3<|kI 5 Y (λ_ _=>eG Y Y) H3<|kI 6 Y (λ_ hK=>Yj (lo:=i+1) (xs:=l) vw Hz Y Y Y aj (hK.a jq).cap) H3<|O1 7 Y<|bsn (τ:=(Ty.list dB)) (xs:=(Xz l i)) (vs:=[(0,.slice jL ((l.take i).length) jK),(1,.slice (vK jL jK (i+1) 5) ((l.drop (i+1)).length) (jK - (i+1)))]) (css:=[[.slice jL ((l.take i).length) jK],[.slice (vK jL jK (i+1) 5) ((l.drop (i+1)).length) (jK - (i+1))]]) Y (by intro _; apply ah3) rfl rfl H3 (λ_ e=>⟨⟨_,_,rfl,((H3.a jq).VN aj).ext e⟩,⟨_,_,rfl,((H3.a jq).cutFrom aj).ext e⟩,trivial⟩) λg1 w2 K2=>?_
  have k1:=(K2.rm U);refine aO k1<|O1 8 Y<|gu Y (Z4 _ (K2.o U) (by simp only [VH,List.flatten_nil,Aj,jH,iX,uj]; omega)) ?_
  rintro _ w3 ⟨rE,rF,rfl,h3⟩;have K3:=K2.f1 h3;have k2:=(K3.cU 0 2);refine aO k2<|xC 9 Y Y k2<|xC 10 Y Y k2<|Dn ⟨rE,rF,Y,(K3.rm s1)⟩ Y
 rintro _ w4 ⟨jG,jr,rfl,K4⟩;refine iU Y ?_;have kN:(((Xz l i)).flatten:V bq)=(zX l aN nZ):=by unfold zX; rw [aQ rR,hi]; simp
 rw [kN] at K4;exact⟨jG,jr,by unfold Lx; rw [kN,aQ rR] <;> rfl,K4⟩
def aeH(w:World){vk:Nat}{s:V fJ}(sP:Sl nW S0 w wP vk s)(hn:s.length<=1000000):bM prog 141 #[.slice wP s.length vk] w λv w'=>∃ A0 c0,v=.slice A0 s.length c0/\Hp w S0 w' [aR nW 221 A0 c0 s]:=by
 refine lg S0 func141 ntmps141 Y λH0=>?_;have qU:=YM;have qI:=ajW;have qB:=@apu;exact mCL
abbrev aeI(gX:List aT)(iP:List Int)(xE:List fJ)(AU:List Int):=(⟨yY (vB gX iP xE AU gX),nX xE (yY (vB gX iP xE AU gX))+1⟩:fJ)
def apx{l:V aT}{n:Nat}{hq td:V Int}(h:tL l D n aX bX=td++tL l D (n - td.length) ls hq)(hs:(vB l D ls hq l).isSome=true)(hl:td.length<n):tL l D n aX bX=(td++[yY (vB l D ls hq l)])++tL l D (n - (td++[yY (vB l D ls hq l)]).length) ([(aeI l D ls hq)]++ls) (hq++[yY (vB l D ls hq l)]):=by
 rw [h];obtain⟨m,hm⟩:∃ m,n - td.length=m+1:=⟨n - td.length - 1,aj⟩;rw [hm,ah5 hs,show n - (td++[yY (vB l D ls hq l)]).length=m from by simp only [jH,oO,u6]; omega]
 simp
def ay9{td:V Int}{t z:Int}(h:∀ x∈ls,0<=x.N/\x.N<=1000000+(td.length:Int))(u:Int):∀ x∈[(⟨t,nX ls u+1⟩:fJ)]++ls,0<=x.N/\x.N<=1000000+((td++[z]).length:Int):=by
 intro x hx;have hp:=akU aj h u;rw [jH,oO,u6]
 rcases j5.1 hx with h1 | h1
 ·rw [mU.1 h1]; simp only; omega
 ·have:=h x h1; omega
def aza(w:World){l:V aT}(jq:Sl bW S0 w jL jK l){j3:ah}{jZ:Nat}(kQ:Sl dN S0 w j3 jZ D){nu:ah}{nk:Nat}(oC:Sl nW S0 w nu nk aX){vT:ah}{vU:Nat}(EM:Sl dN S0 w vT vU bX)(n:Int)(hn:l.length<=100000)(hl:aX.length<=1000)(hh:bX.length<=1000)(hz:n<=1000)(h0:∀ x∈aX,0<=x.N/\x.N<=1000000):bM prog 72 #[.slice jL l.length jK,.slice j3 D.length jZ,.slice nu aX.length nk,.slice vT bX.length vU,O n] w λv w'=>∃ A0 c0,v=.slice A0 ((tL l D n.toNat aX bX).length) c0/\Hp w S0 w' [aR dN 3 A0 c0 (tL l D n.toNat aX bX)]:=by
 refine lg S0 func72 ntmps72 Y λH0=>pC 5 Y<|gu Y (sw _ (H0.a EM).any aj) ?_
 rintro _ w1 ⟨jT,jU,rfl,h1⟩;have K1:=H0.f1 h1;refine pA 5 Y<|aZ<|dF ?_
 have H1:=K1.nil dN 3;have gy:(([]:V Int):V Int)=[]:=by simp
 refine mP (t:=11) Y (aY (λz=>Value.slice none (List.length z) 0) gy) ?_;have H2:=H1.nil dN 3;have H3:=H2.push (H2.a oC);refine Lp (H3.cU 0 4) (λl0 rk mJ lJ wJ=>∃(Aq:ah)(cq:Nat)(At:ah)(ct:Nat)(Al:ah)(cl:Nat)(td hq:V Int)(ls:V fJ),lJ=(2,.slice Al ls.length cl)::(3,.slice Aq hq.length cq)::(11,.slice At td.length ct)::l0/\mJ=n.toNat - td.length/\(tL l D n.toNat aX bX=td++tL l D (n.toNat - td.length) ls hq)/\((td.length:Int)<=(n.toNat:Int)/\hq.length=bX.length+td.length/\ls.length=aX.length+td.length)/\(∀ x∈ls,0<=x.N/\x.N<=1000000+(td.length:Int))/\Hp w S0 wJ (aR dN 3 At ct td::aR dN 3 Aq cq hq::dI nW Al cl ls::rk)) ⟨jT,jU,none,0,nu,nk,[],bX,aX,Y,Y,av,by simp; omega,by intro x hx; have:=h0 x hx; simp; omega,(((H3.rm s2).sel U).mV 1 2)⟩ rfl ?_;rintro _ _ w2 ⟨Aq,cq,At,ct,Al,cl,td,hq,ls,rfl,rfl,hM,hB,hN,K2⟩;refine aZ<|gD Y<|ev (jf gq Y)<|mv Y<|ev (iH Y Y)<|dn<|o8 Y (λhc19=>?_) (λhc19=>?_)
 ·refine jQ ?_;refine dF<|pC 5 Y<|mX K2 Y (abX _ (K2.a jq).any (K2.a kQ).any (K2.s s2).any (K2.o s1) aj (λx hx=>(hN x hx).1)) λw3 K3=>pA 6 Y<|aZ<|gD Y<|ev (wC Y)<|dn<|bS Y (λhc29=>?_) (λhc29=>?_)
  ·try simp only [aA] at hc29
   refine tu (mG (LY Y (mG (tZ (fV ?_)))));refine gD Y<|fE Y<|iU Y ?_
   have gH:(td:V Int)=(tL l D n.toNat aX bX):=by rw [hM,amG (by simpa using hc29)]; simp
   have H4:=(gH▸K3:Hp w S0 w3 [aR dN 3 At ct (tL l D n.toNat aX bX),aR dN 3 Aq cq hq,dI nW Al cl ls]);exact⟨At,ct,by rw [<- gH] <;> rfl,(H4.cU 1 2)⟩
  try simp only [aA] at hc29
  refine jQ ?_;refine pC 3 Y<|yV (τ:=dN) (x:=(yY (vB l D ls hq l))) Y (by intro _; apply pI) rfl K3 (λ_ _=>rfl) λg1 w4 K4=>ap (ys:=([yY (vB l D ls hq l)]:V Int)) K4 s1 rfl rfl (K4.o U) gq LB (by first | omega | (simp; omega) | (simp; done)) av rfl λsQ sS w5 K5=>pq 2 rfl<|yV rfl (by intro _; apply pI) rfl K5 (λ_ _=>rfl) λg2 w6 K6=>ap K6 s3 rfl rfl (K6.o U) gq LB (by first | omega | (simp; omega) | (simp; done)) av rfl λWO cp2 w7 K7=>pA 3 rfl<|jN<|mv rfl<|gu rfl (aeH _ (K7.s s4).any aj) ?_
  rintro _ w8 ⟨JQ,JR,rfl,h8⟩;have K8:=K7.f1 h8;refine pq 3 Y<|mX K8 Y (vM _ (K8.s s5).any (yY (vB l D ls hq l))) λw9 K9=>ev (L6 Y Y (xR (by have hp:=akU aj hN (yY (vB l D ls hq l)); omega) (by have hp:=akU aj hN (yY (vB l D ls hq l)); omega)))<|ev (iT rfl (by apply JM))<|yV (x:=(aeI l D ls hq)) rfl (by intro _; apply MX) rfl K9 (λ_ _=>rfl) λg3 PE K10=>gu rfl (PN (i:=0) K10 s1 U aj aj) ?_
  rintro _ VY ⟨Ap3,cp3,rfl,vF⟩;refine oJ Y<|jO<|iF ?_
  have H5:=vF.fz U;exact dX ⟨WO,cp2,sQ,sS,Ap3,cp3,(td++([yY (vB l D ls hq l)]:V Int)),(hq++([yY (vB l D ls hq l)]:V Int)),(ls.take 0++[(aeI l D ls hq)]++ls.drop 0),Y,Y,by have hst:=apx hM hc29 aj; simpa using hst,by simp only [jH,oO,u6,iX,uj]; omega,by have hbd:=ay9 (t:=yY (vB l D ls hq l)) (z:=yY (vB l D ls hq l)) hN (yY (vB l D ls hq l)); simpa using hbd,(((((H5.cU 4 2).rm s2).sel U).sel s1).sel s2)⟩ rfl (by simp only [jH,oO,u6]; omega)
 refine BU ?_;refine gD Y<|fE Y<|iU Y ?_
 have kN:(td:V Int)=(tL l D n.toNat aX bX):=by rw [hM,show n.toNat - td.length=0 from by omega]; simp [tL]
 have H6:=(kN▸K2:Hp w S0 w2 [aR dN 3 At ct (tL l D n.toNat aX bX),aR dN 3 Aq cq hq,dI nW Al cl ls]);exact⟨At,ct,by rw [<- kN] <;> rfl,(H6.cU 1 2)⟩
end
section
open Go.Shelf Go.Proofs.Tryz
def Tryz.laysNm220_ren:Go.Shelf.Ren:=⟨λ| 20=>157 | n=>n,λ| 22=>46 | 3=>3 | 4=>4 | 0=>0 | n=>n,λ| n=>n⟩
def Tryz.laysNm220:Go.Proofs.Lays2.n20 prog Tryz.laysNm220_ren:={
 mixed:=ak
 f20:=func157.trans (aY some ak)
 t0:=underlying0
 a0:=Tryz.isAgg0
 z0:=Tryz.sizeOf0
 v0:=Tryz.zeroValue0
 t3:=ig
 a3:=Tryz.isAgg3
 z3:=Tryz.sizeOf3
 v3:=Tryz.zeroValue3
 t4:=Uo
 a4:=Tryz.isAgg4
 z4:=Tryz.sizeOf4
 v4:=Tryz.zeroValue4
 t22:=gq
 a22:=Tryz.isAgg46
 z22:=Tryz.sizeOf46
 v22:=Tryz.zeroValue46
 i3:=by kernel_rfl }
end
section
variable {S0 S:Nat->Prop}{Dq jL FT A1 A2 A3 A4 A5 A6 A7:ah}{iy FU c1 c2 c3 c4 c5 c6 c7:Nat}{report:List aI}{t et kt:TypeId}{ky:Operand}{o:aL}{b w:World}{F:List kF}
def aEf:bC prog 153:=λ_ _=>by rfl
def aEg:bC prog 152:=λ_ _=>by rfl
def ru(a0:Int)(a1:Int)(a2:Int)(a3:Int):prog.built 118 [(2,O a0),(3,O a1),(4,O a2),(5,O a3)]=some #[O 0,O 0,O a0,O a1,O a2,O a3]:=ak
def Bo(x:aI)(c:aH):Bool:=((!x.fZ&&decide (x.X=c.ID))&&decide (x.E=c.E))&&decide (x.Sum=c.Sum)
def recC(bF:Int)(report:List aI)(c:aH):List eU:=
  if(report.any (fun(x:aI)=>Bo x c)&&!c.aD.contains bF)=true then[⟨0,0,5,c.ID,bF,c.E⟩] else if(!report.any (fun(x:aI)=>Bo x c)&&c.aD.contains bF)=true then[⟨0,0,6,c.ID,bF,0⟩] else[]
def jS(l:List aH)(bF:Int)(report:List aI):List eU:=if ku l=true/\1<=bF/\bF<=16 then l.flatMap (recC bF report) else[]
def aus(bF:Int)(report:V aI)(c:aH):(recC bF report c).length<=1:=by grind [recC]
theorem Z5(bF:Int)(report:V aI):∀(l:V aH),(l.flatMap (recC bF report)).length<=l.length
 | []=>by simp
 | c::l=>by
  have h1:=Z5 bF report l;have h2:=aus bF report c
  simp only [List.flatMap_cons,jH,oO]; omega
def aut(l:V aH)(bF:Int)(report:V aI):(jS l bF report).length<=l.length:=by
 grind [jS,Z5]
def amH(w:World)(x:aI)(c:aH){CO:Nat}(IE:Sl dN S0 w Dq CO c.aD):bM prog 153 #[.agg #[O x.X,O x.E,gP x.Sum,.bool x.fZ,.bool x.Bad],.agg #[O c.ID,O c.E,gP c.Sum,.slice Dq c.aD.length CO]] w λv w'=>v=.bool (Bo x c)/\Hp w S0 w' []:=by
 refine lg S0 func153 ntmps153 Y λH0=>rg<|bx Y Y H0 λg1 w1 K1=>bx Y Y K1 λg2 w2 K2=>fE Y<|rg<|jP g1 3 uL K2 s1 Y<|pq 2 Y<|iJ 6 14 ((!x.fZ)&&(decide (x.X=c.ID))) ?_ ?_
 ·cases hb8:(!x.fZ) with
  | true=>
   refine wW g1 0 mI K2 s1 Y<|wW g2 0 pG K2 U Y<|pq 2 Y<|dK Y
  | false=>
   refine pq 6 Y<|dK Y
 refine mv Y<|iJ 6 21 (((!x.fZ)&&(decide (x.X=c.ID)))&&(decide (x.E=c.E))) ?_ ?_
 ·cases WJ:((!x.fZ)&&(decide (x.X=c.ID))) with
  | true=>
   have ame:=WJ
   try simp only [aA] at ame
   refine wW g1 1 sJ K2 s1 Y<|wW g2 1 tO K2 U Y<|pq 2 Y<|dK Y
  | false=>
   refine pq 6 Y<|dK Y
 refine mv Y<|iJ 6 28 ((((!x.fZ)&&(decide (x.X=c.ID)))&&(decide (x.E=c.E)))&&(decide (x.Sum=c.Sum))) ?_ ?_
 ·cases aOy:(((!x.fZ)&&(decide (x.X=c.ID)))&&(decide (x.E=c.E))) with
  | true=>
   have aIh:=aOy
   try simp only [aA] at aIh
   refine wW g1 2 SI K2 s1 Y<|wW g2 2 JH K2 U Y<|pq 2 Y<|dK Y
  | false=>
   refine pq 6 Y<|dK Y
 refine fE Y<|iU Y ?_
 exact⟨by skip <;> rfl,K2.z⟩
def azb(w:World)(x:aI)(c:aH){CO:Nat}(h_c:Bx w iy 48 [O c.ID,O c.E,gP c.Sum,.slice Dq c.aD.length CO])(IE:Sl dN S0 w Dq CO c.aD):bM prog 152 #[.agg #[O x.X,O x.E,gP x.Sum,.bool x.fZ,.bool x.Bad],fK iy] w λv w'=>v=.bool (Bo x c)/\Hp w S0 w' []:=by
 refine lg S0 func152 ntmps152 Y λH0=>rg<|bx Y Y H0 λg1 w1 K1=>fE Y<|rg<|ev (fA pU Y Y (K1.x U))<|ev (fA p8 Y Y (h_c.ext K1.ext))<|mX K1 Y (amH _ x c (K1.a IE).any) λw2 K2=>fE Y<|iU Y ?_
 exact⟨Y,(K2.rm U)⟩
def aeJ(w:World){jK:Nat}{l:V aH}(jq:Sl bD S0 w jL jK l)(bF:Int)(DF:Sl bg S0 w FT FU report)(hn:l.length<=100000):bM prog 78 #[.slice jL l.length jK,O bF,.slice FT report.length FU] w λv w'=>∃ A0 c0,v=.slice A0 ((jS l bF report).length) c0/\Hp w S0 w' [aR BP 118 A0 c0 (jS l bF report)]:=by
 refine lg S0 func78 ntmps78 Y λH0=>?_;have hq:=λk=>Z5 bF report (l.take k)
 simp only [iX] at hq
 refine kX Y<|aZ<|gD Y<|mX H0 Y (Oa _ (H0.a jq).any aj) λw1 K1=>pq 2 Y<|iJ 3 18 ((!(ku l))||(decide (bF<1))) ?_ ?_
 ·cases WJ:(!(ku l)) with
  | true=>
   refine pq 3 Y<|dK Y
  | false=>
   refine pq 3 Y<|dK Y
 refine mv Y<|iJ 3 22 (((!(ku l))||(decide (bF<1)))||(decide (16<bF))) ?_ ?_
 ·cases abd:((!(ku l))||(decide (bF<1))) with
  | true=>
   refine pq 3 Y<|dK Y
  | false=>
   have asB:=abd
   try simp only [aA] at asB
   refine pq 3 Y<|dK Y
 refine dn<|bS Y (λhc22=>?_) (λhc22=>?_)
 ·try simp only [aA] at hc22
  refine kX Y<|Aw Y ?_
  have H1:=K1.nil BP 118;have gy:(([]:V eU):V eU)=(jS l bF report):=by unfold jS; rw [aQ (by rcases hc22 with (h | h) | h; simp [h]; omega; omega)]
  have H2:=(gy▸H1:Hp w S0 w1 (aR BP 118 none 0 (jS l bF report)::[]));exact⟨none,0,by rw [<- gy] <;> rfl,H2⟩
 try simp only [aA] at hc22
 refine jQ ?_;refine kX Y<|aZ<|gD Y<|ev (jf lT Y)<|mv Y<|dn<|dF ?_
 have H3:=K1.nil BP 118;have gH:(([]:V eU):V eU)=((l.take 0).flatMap (recC bF report)):=by rfl
 refine mP (t:=7) Y (aY (λz=>Value.slice none (List.length z) 0) gH) ?_;have H4:=H3.nil BP 118;have H5:=(gH▸H4:Hp w S0 w1 (aR BP 118 none 0 ((l.take 0).flatMap (recC bF report))::[aR BP 118 none 0 []]));refine Lp (H5.cU 0 2) (λl0 rk mJ lJ wJ=>∃ k A7 c7,lJ=(7,.slice A7 (((l.take k).flatMap (recC bF report)).length) c7)::(25,O ((k:Nat):Int))::l0/\mJ=l.length - k/\k<=l.length/\Hp w S0 wJ (aR BP 118 A7 c7 ((l.take k).flatMap (recC bF report))::rk)) ⟨0,none,0,Y,Y,fI _,(H5.rm s1)⟩ Y ?_;rintro _ _ w2 ⟨k,A7,c7,rfl,rfl,hk,K2⟩;refine rg<|ev (iH Y Y)<|dn<|r9 Y (λPg=>?_) (λPg=>?_)
 ·refine jQ ?_;refine aZ<|dF<|rg ?_
  obtain⟨x1,bT⟩:=bH (xs:=l) (i:=k) aj;refine ev (d9 lT tH Y Y Y (aP bT) ((K2.a jq).some_ bT)) ?_;obtain⟨B1,d1,yG,hi1⟩:=CG (jq.row bT);refine ev (iR p8 Y Y (Gu (λj u hu=>K2.ext.cell (yG j u hu))))<|al lX Y K2 λg1 w3 K3=>sty Y K3 U Y λw4 K4=>dn<|gD Y<|ev (rZ Y)<|mX K4 Y (FN _ (K4.a DF).any aEg (fun(x:aI)=>Bo x x1) (λw' x e hm=>(azb w' x x1 ((K4.x U).ext e) ((K4.a hi1).any.ext e)).mono (by rintro _ _ ⟨rfl,gH⟩; exact⟨rfl,gH.ext⟩))) λw5 K5=>fE rfl<|rg<|jP g1 3 kr K5 U rfl<|mv rfl<|mX K5 rfl (kJ _ (K5.a hi1).any bF) λw6 K6=>fE rfl<|dF<|pC 3 rfl<|iJ 3 41 ((report.any (fun(x:aI)=>Bo x x1))&&(!(x1.aD.contains bF))) ?_ ?_
  ·cases aCu:report.any (fun(x:aI)=>Bo x x1) with
   | true=>
    refine pq 3 Y<|dK Y
   | false=>
    refine pq 3 Y<|dK Y
  refine fE Y<|bS Y (λadE=>?_) (λadE=>?_)
  ·refine jN<|mv Y<|jP g1 0 pG K6 U Y<|mv Y<|jP g1 1 tO K6 U Y<|ev (iT Y (by apply ru))<|yV rfl (by intro _; apply Bd) rfl K6 (λ_ _=>rfl) λg2 w7 K7=>ap (ys:=([(⟨0,0,5,x1.ID,bF,x1.E⟩:eU)]:V eU)) K7 s2 rfl rfl (K7.o U) Qj akt (by have:=hq k; omega) av rfl λsQ sS w8 K8=>oJ rfl<|jO<|iF (iF (fV ?_))
   refine jN<|ev (eG Y Y)<|mv Y<|jO ?_
   have kN:((((l.take k).flatMap (recC bF report))++([(⟨0,0,5,x1.ID,bF,x1.E⟩:eU)]:V eU)):V eU)=((l.take (k+1)).flatMap (recC bF report)):=by rw [eO bT,ad1,akS]; unfold recC; first | rw [aS adE] | (rw [aQ (by rw [adE]; decide)]; first | rw [aS akV] | (rw [aQ (by rw [akV]; decide)]; simp))
   refine ji (t:=7) Y (aY (λz=>Value.slice sQ (List.length z) sS) kN) ?_;rw [kN] at K8;exact dX ⟨(k+1),sQ,sS,Y,Y,aj,(K8.cU 1 2)⟩ rfl aj
  refine pC 4 Y<|iJ 2 56 ((!(report.any (fun(x:aI)=>Bo x x1)))&&(x1.aD.contains bF)) ?_ ?_
  ·cases aUM:(!(report.any (fun(x:aI)=>Bo x x1))) with
   | true=>
    refine pq 2 Y<|dK Y
   | false=>
    refine pq 2 Y<|dK Y
  refine fE Y<|bS Y (λakV=>?_) (λakV=>?_)
  ·refine jN<|mv Y<|jP g1 0 pG K6 U Y<|mv Y<|ev (iT Y (by apply y7))<|yV rfl (by intro _; apply Bd) rfl K6 (λ_ _=>rfl) λg3 w9 K9=>ap (ys:=([(⟨0,0,6,x1.ID,bF,0⟩:eU)]:V eU)) K9 s2 rfl rfl (K9.o U) Qj akt (by have:=hq k; omega) av rfl λWO cp2 PE K10=>oJ rfl<|jO<|iF (iF (fV ?_))
   refine jN<|ev (eG Y Y)<|mv Y<|jO ?_
   have nM:((((l.take k).flatMap (recC bF report))++([(⟨0,0,6,x1.ID,bF,0⟩:eU)]:V eU)):V eU)=((l.take (k+1)).flatMap (recC bF report)):=by rw [eO bT,ad1,akS]; unfold recC; first | rw [aS adE] | (rw [aQ (by rw [adE]; decide)]; first | rw [aS akV] | (rw [aQ (by rw [akV]; decide)]; simp))
   refine ji (t:=7) Y (aY (λz=>Value.slice WO (List.length z) cp2) nM) ?_;rw [nM] at K10;exact dX ⟨(k+1),WO,cp2,Y,Y,aj,(K10.cU 1 2)⟩ rfl aj
  refine yC (iF (iF (fV ?_)));refine jN<|ev (eG Y Y)<|mv Y<|jO ?_
  have uO:(((l.take k).flatMap (recC bF report)):V eU)=((l.take (k+1)).flatMap (recC bF report)):=by rw [eO bT,ad1,akS]; unfold recC; first | rw [aS adE] | (rw [aQ (by rw [adE]; decide)]; first | rw [aS akV] | (rw [aQ (by rw [akV]; decide)]; simp))
  refine ji (t:=7) Y (aY (λz=>Value.slice A7 (List.length z) c7) uO) ?_;rw [uO] at K6;exact dX ⟨(k+1),A7,c7,Y,Y,aj,(K6.rm U)⟩ rfl aj
 refine BU ?_;refine gD Y<|fE Y<|iU Y ?_
 have zC:(((l.take k).flatMap (recC bF report)):V eU)=(jS l bF report):=by unfold jS; rw [aS ⟨by first | exact hc22.1.1 | simp_all,aj,aj⟩,gY aj]
 rw [zC] at K2;exact⟨A7,c7,by rw [zC] <;> rfl,K2⟩
def sZ(l:List aH)(x:aI):Bool:=!x.fZ&&!(gQ l x.X&&Bo x (aV l x.X))
def aeK(l:List aH)(report:List aI):List Int:=(report.filter (sZ l)).map aI.X
def lK(l:List aH)(report:List aI):List Int:=if ku l=true then Lib.compact ((aeK l report).mergeSort fun(x y:Int)=>decide (x<=y)) else[]
def auu(w:World){jK:Nat}{l:V aH}(jq:Sl bD S0 w jL jK l)(DF:Sl bg S0 w FT FU report)(hn:l.length<=100000)(hh:∀ x∈l,x.aD.length<=100000)(hr:report.length<=100000):bM prog 80 #[.slice jL l.length jK,.slice FT report.length FU] w λv w'=>∃ A0 c0,v=.slice A0 ((lK l report).length) c0/\Hp w S0 w' [aR dN 3 A0 c0 (lK l report)]:=by
 refine lg S0 func80 ntmps80 Y λH0=>?_;have hq:=λk=>mW (sZ l) (report.take k)
 simp only [iX] at hq
 refine kX Y<|aZ<|gD Y<|mX H0 Y (Oa _ (H0.a jq).any aj) λw1 K1=>pA 2 Y<|bS Y (λoD=>?_) (λoD=>?_)
 ·try simp only [aA] at oD
  refine kX Y<|Aw Y ?_
  have H1:=K1.nil dN 3;have gy:(([]:V Int):V Int)=(lK l report):=by unfold lK; rw [aQ (by simp_all)]
  have H2:=(gy▸H1:Hp w S0 w1 (aR dN 3 none 0 (lK l report)::[]));exact⟨none,0,by rw [<- gy] <;> rfl,H2⟩
 try simp only [aA] at oD
 refine jQ ?_;refine kX Y<|aZ<|gD Y<|ev (jf pE Y)<|mv Y<|dn<|dF ?_
 have H3:=K1.nil dN 3;have gH:(([]:V Int):V Int)=(((report.take 0).filter (sZ l)).map aI.X):=by rfl
 refine mP (t:=5) Y (aY (λz=>Value.slice none (List.length z) 0) gH) ?_;have H4:=H3.nil dN 3;have H5:=(gH▸H4:Hp w S0 w1 (aR dN 3 none 0 (((report.take 0).filter (sZ l)).map aI.X)::[aR dN 3 none 0 []]));refine Lp (H5.cU 0 2) (λl0 rk mJ lJ wJ=>∃ k A5 c5,lJ=(5,.slice A5 ((((report.take k).filter (sZ l)).map aI.X).length) c5)::(15,O ((k:Nat):Int))::l0/\mJ=report.length - k/\k<=report.length/\Hp w S0 wJ (aR dN 3 A5 c5 (((report.take k).filter (sZ l)).map aI.X)::rk)) ⟨0,none,0,Y,Y,fI _,(H5.rm s1)⟩ Y ?_;rintro _ _ w2 ⟨k,A5,c5,rfl,rfl,hk,K2⟩;refine rg<|ev (iH Y Y)<|dn<|r9 Y (λhc16=>?_) (λhc16=>?_)
 ·refine jQ ?_;refine aZ<|dF<|rg ?_
  obtain⟨x1,bT⟩:=bH (xs:=report) (i:=k) aj;refine ev (d9 pE pR Y Y Y (aP bT) ((K2.a DF).some_ bT))<|ev (iR pU Y Y ((K2.a DF).fF bT))<|al yP Y K2 λg1 w3 K3=>sty Y K3 U Y λw4 K4=>dn<|gD Y<|jP g1 0 mI K4 U Y<|gu Y (find_ok _ (K4.a jq) x1.X aj hh) ?_
  rintro _ w5 ⟨Zt,Zu,rfl,h5⟩;have K5:=K4.c1 h5;refine pq 3 Y<|al lX Y K5 λg2 w6 K6=>sty Y K6 U Y λw7 K7=>fE Y<|rg<|jP g1 3 uL K7 s2 Y<|pq 2 Y<|qg 8 37 ((!x1.fZ)&&(!((gQ l x1.X)&&(Bo x1 (aV l x1.X))))) ?_ ?_
  ·cases aUN:(!x1.fZ) with
   | true=>
    refine pq 2 Y<|qg 4 35 ((gQ l x1.X)&&(Bo x1 (aV l x1.X))) ?_ ?_
    ·cases aUO:gQ l x1.X with
     | true=>
      refine uf Y (fA pU Y Y (K7.x s2)) Y<|uf Y (fA p8 Y Y (K7.x U)) Y<|om Y Y Y Y aEf (amH _ x1 (aV l x1.X) (K7.s s1).any) Y ?_
      rintro _ w8 ⟨rfl,h8⟩;refine pq 1 Y<|jI Y h8.ext
     | false=>
      refine pq 4 Y<|jI Y (oW _)
    intro w9 e9;refine pq 2 Y<|jI Y e9
   | false=>
    refine pq 8 Y<|jI Y (oW _)
  intro PE e10;have K10:=K7.grow e10;refine dn<|bS Y (λakF=>?_) (λakF=>?_)
  ·refine jN<|mv Y<|jP g1 0 mI K10 s2 Y<|yV Y (by intro _; apply pI) rfl K10 (λ_ _=>rfl) λg3 VY vF=>ap (ys:=([x1.X]:V Int)) vF s4 rfl rfl (vF.o U) gq LB (by have:=hq k; simp only [jW]; omega) av rfl λsQ sS Uy uR=>oJ rfl<|jO<|iF (fV ?_)
   refine jN<|ev (eG Y Y)<|mv Y<|jO ?_
   have kN:(((((report.take k).filter (sZ l)).map aI.X)++([x1.X]:V Int)):V Int)=(((report.take (k+1)).filter (sZ l)).map aI.X):=by rw [nL bT,show sZ l x1=_ from akF]; simp
   refine ji (t:=5) Y (aY (λz=>Value.slice sQ (List.length z) sS) kN) ?_;rw [kN] at uR;exact dX ⟨(k+1),sQ,sS,Y,Y,aj,(uR.cU 1 4)⟩ rfl aj
  refine Gw ?_;refine jN<|ev (eG Y Y)<|mv Y<|jO ?_
  have nM:((((report.take k).filter (sZ l)).map aI.X):V Int)=(((report.take (k+1)).filter (sZ l)).map aI.X):=by rw [nL bT,show sZ l x1=_ from akF]; simp
  refine ji (t:=5) Y (aY (λz=>Value.slice A5 (List.length z) c5) nM) ?_;rw [nM] at K10;exact dX ⟨(k+1),A5,c5,Y,Y,aj,(K10.cU 0 3)⟩ rfl aj
 refine BU ?_;refine gD Y<|gu Y (sorti Tryz.lays189 (K2.sel U) (by have:=hq k; simp only [jW]; omega)) ?_
 rintro _ YX ⟨rfl,xk⟩;have hl1:((((report.take k).filter (sZ l)).map aI.X).mergeSort fun(x y:Int)=>decide (x<=y)).length=(((report.take k).filter (sZ l)).map aI.X).length:=MH _;refine gZ (t:=5) (u:=.slice A5 ((((report.take k).filter (sZ l)).map aI.X).length) c5) (v:=.slice A5 (((((report.take k).filter (sZ l)).map aI.X).mergeSort fun(x y:Int)=>decide (x<=y)).length) c5) Y (by rw [hl1])<|gZ (t:=44) (u:=.slice A5 ((((report.take k).filter (sZ l)).map aI.X).length) c5) (v:=.slice A5 (((((report.take k).filter (sZ l)).map aI.X).mergeSort fun(x y:Int)=>decide (x<=y)).length) c5) rfl (by rw [hl1])<|dn<|gD rfl<|gu rfl (aGl Tryz.laysNm220 (xk.sel U) (by rw [MH]; have:=hq k; simp only [jW]; omega)) ?_
 rintro _ w14 ⟨rfl,wF⟩;refine fE Y<|iU Y ?_
 have uO:((Lib.compact ((((report.take k).filter (sZ l)).map aI.X).mergeSort fun(x y:Int)=>decide (x<=y))):V Int)=(lK l report):=by unfold lK aeK; rw [aS (by simpa using oD),gY (show report.length<=k by omega)]
 rw [uO] at wF;exact⟨A5,c5,by rw [uO] <;> rfl,wF⟩
structure l6 where
  gh:Nat
  gs:Nat
  gm:Nat
  A:Option Addr
  c:Nat
  up:Bool
  bB:Int
  l:List aI
  es:oh
abbrev kg:=List (Int × l6)
abbrev ekZ(z:Int):Value:=.int .i64 z
abbrev evH(g:Nat):Value:=.pointer (some ⟨g,0,none⟩)
def FV:Ns prog 3 ekZ:=by simp [ayW]
def Bq(h:l6):List kF:=[dJ h.gh 86 [.pointer (some ⟨h.gs,0,none⟩),.bool h.up],dJ h.gs 152 [.int .i64 h.bB,.slice h.A h.l.length h.c,.map (some h.gm)],dI bg h.A h.c h.l,rV yw xF h.gm h.es,fH fP 5 (h.es.map Prod.snd)]
def uZ(hs:kg):List (Int × Nat):=hs.map λp=>(p.1,p.2.gh)
def rHk(g:Nat)(ks:List (Int × Nat))(hs:kg):kF:=abn (rV ekZ evH g ks::hs.flatMap λp=>Bq p.2)
abbrev jD(g:Nat)(hs:kg):kF:=rHk g (uZ hs) hs
section
variable {b w:World}{S:Nat->Prop}{rs rest:List kF}{g:Nat}{ks:List (Int × Nat)}{hs:kg}{z:Int}{h:l6}
def Hp.ah8(H:Hp b S w rs)(s:nY rs (rHk g ks hs) rest):Hp b S w (rV ekZ evH g ks::((hs.flatMap λp=>Bq p.2)++rest)):=(H.sel s).allOut
def Hp.amJ(H:Hp b S w rs)(s:nY rs (rHk g ks hs) rest):(ks.map Prod.fst).Nodup:=((H.ah8 s).mp .h).1
def Jd(hs:kg):(uZ hs).map Prod.fst=hs.map Prod.fst:=by simp [uZ]
def Hp.aOz(H:Hp b S w rs)(s:nY rs (jD g hs) rest):(hs.map Prod.fst).Nodup:=Jd hs▸H.amJ s
def Vh(z:Int)(hs:kg):cZ z (uZ hs)=(cZ z hs).map l6.gh:=SK l6.gh z hs
theorem Ev.hN{n:Cx}{l:V (Nat × Value)}{m:Operand}(H:Hp b S w rs)(s:nY rs (jD g hs) rest)(hg:cZ z hs=none)(hk:Ns prog kt ekZ)(hm:prog.underlying t=some (.map kt et))(hz:∀ w,(zeroValue et).run prog w=.ok (.pointer none) w)(hx:fM l m=some (.map (some g)))(hkey:fM l ky=some (ekZ z)):Ev prog n l w (.lookup t m ky false) (.pointer none):=by
 have h1:=Ev.atY (H.ah8 s) .h hk hm hz hx hkey (n:=n);rw [Vh,hg] at h1; exact h1
def Ev.hS{gh gs gm:Nat}{A:ah}{c:Nat}{up:Bool}{bB:Int}{l':V aI}{es:oh}{n:Cx}{l:V (Nat × Value)}{m:Operand}(H:Hp b S w rs)(s:nY rs (jD g hs) rest)(hg:cZ z hs=some ⟨gh,gs,gm,A,c,up,bB,l',es⟩)(hk:Ns prog kt ekZ)(hm:prog.underlying t=some (.map kt et))(hz:∀ w,(zeroValue et).run prog w=.ok (.pointer none) w)(hx:fM l m=some (.map (some g)))(hkey:fM l ky=some (ekZ z)):Ev prog n l w (.lookup t m ky false) (fK gh):=by
 have h1:=Ev.atY (H.ah8 s) .h hk hm hz hx hkey (n:=n);rw [Vh,hg] at h1; exact h1
def aeL(hn:(hs.map Prod.fst).Nodup)(hg:cZ z hs=some h):(hs.flatMap λp=>Bq p.2).Perm (Bq h++(ou z hs).flatMap λp=>Bq p.2):=(apr hn hg).flatMap_right _
def Hp.aBr(H:Hp b S w rs)(s:nY rs (jD g hs) rest)(hg:cZ z hs=some h):Hp b S w (dJ h.gh 86 [fK h.gs,.bool h.up]::dJ h.gs 152 [O h.bB,.slice h.A h.l.length h.c,.map (some h.gm)]::dI bg h.A h.c h.l::rV yw xF h.gm h.es::fH fP 5 (h.es.map Prod.snd)::rHk g (uZ hs) (ou z hs)::rest):=by
 have hn:=H.aOz s;have H1:=H.ah8 s
 have H2:Hp b S w (Bq h++((rV ekZ evH g (uZ hs)::(ou z hs).flatMap λp=>Bq p.2)++rest)):=H1.perm (by
  refine(((aeL hn hg).append_right rest).cons _).trans ?_;rw [o9]
  exact HY.symm)
 have H3:=vg H2;rw [o9] at H3
 exact(FQ H3).perm (by
  refine((Ar).cons _).trans<|HY.symm)
def Hp.xM{gh gs gm:Nat}{A:ah}{c:Nat}{up:Bool}{bB:Int}{l:V aI}{es:oh}(H:Hp b S w rs)(s:nY rs (jD g hs) rest)(hg:cZ z hs=some ⟨gh,gs,gm,A,c,up,bB,l,es⟩):Hp b S w (dJ gh 86 [fK gs,.bool up]::dJ gs 152 [O bB,.slice A l.length c,.map (some gm)]::dI bg A c l::rV yw xF gm es::fH fP 5 (es.map Prod.snd)::rHk g (uZ hs) (ou z hs)::rest):=H.aBr s hg
def Hp.FW(H:Hp b S w rs)(s:nY rs (jD g hs) rest)(hg:cZ z hs=some h):Bx w h.gh 86 [fK h.gs,.bool h.up]:=(H.aBr s hg).x U
def Hp.aEh{gs gm:Nat}{A:ah}{c:Nat}{up:Bool}{bB:Int}{l:V aI}{es:oh}(hg:cZ z hs=some h)(H:Hp b S w (dJ h.gh 86 [fK gs,.bool up]::dJ gs 152 [O bB,.slice A l.length c,.map (some gm)]::dI bg A c l::rV yw xF gm es::fH fP 5 (es.map Prod.snd)::rHk g (uZ hs) (ou z hs)::rest)):Hp b S w (jD g (fO z ⟨h.gh,gs,gm,A,c,up,bB,l,es⟩ hs)::rest):=by
 have hn:(hs.map Prod.fst).Nodup:=Jd hs▸H.amJ (.t (.t (.t (.t (.t .h)))));obtain⟨h',hh'⟩:∃ h':l6,h'=⟨h.gh,gs,gm,A,c,up,bB,l,es⟩:=⟨_,rfl⟩;have hgh:h'.gh=h.gh:=by rw [hh']
 have H1:Hp b S w (Bq h'++(rHk g (uZ hs) (ou z hs)::rest)):=by rw [hh']; exact H
 rw [<- hh'];have hput:=ahY (v':=h') (k:=z) hn;have hn2:((fO z h' hs).map Prod.fst).Nodup:=Nu hn
 have hkeys:uZ (fO z h' hs)=uZ hs:=by
  unfold uZ;rw [SL l6.gh z h' hs];have h2:=Vh z hs;rw [hg] at h2;obtain⟨j,hj⟩:=zW (show cZ z (uZ hs)=some h.gh from h2);rw [hgh];show fO z h.gh (uZ hs)=_;rw [I7 (by rw [Jd]; exact hn) hj];exact Vf hj
 have H2:Hp b S w (rHk g (uZ hs) (ou z hs)::(Bq h'++rest)):=H1.perm HY;have H3:=H2.allOut;have hp:=aeL hn2 hput;rw [ahX hg] at hp
 have H4:Hp b S w ((rV ekZ evH g (uZ (fO z h' hs))::(fO z h' hs).flatMap λp=>Bq p.2)++rest):=by
  rw [hkeys];refine H3.perm ?_;show(rV ekZ evH g (uZ hs)::(((ou z hs).flatMap λp=>Bq p.2)++(Bq h'++rest))).Perm (rV ekZ evH g (uZ hs)::(((fO z h' hs).flatMap λp=>Bq p.2)++rest));refine List.Perm.cons _ ?_;rw [<- o9];exact(Ar.trans hp.symm).append_right rest
 exact H4.allIn
def Kz:=@Hp.aEh
theorem apy{κ ν:Type}[DecidableEq κ]{k:κ}{v:ν}{es:V (κ × ν)}(hn:(es.map Prod.fst).Nodup)(h:cZ k es=some v):fO k v es=es:=by
 obtain⟨j,hj⟩:=zW h;rw [I7 hn hj]; exact Vf hj
def Hp.auw{gh gs gm:Nat}{A:ah}{c:Nat}{up:Bool}{bB:Int}{l:V aI}{es:oh}(hg:cZ z hs=some ⟨gh,gs,gm,A,c,up,bB,l,es⟩)(H:Hp b S w (dJ gh 86 [fK gs,.bool up]::dJ gs 152 [O bB,.slice A l.length c,.map (some gm)]::dI bg A c l::rV yw xF gm es::fH fP 5 (es.map Prod.snd)::rHk g (uZ hs) (ou z hs)::rest)):Hp b S w (jD g hs::rest):=by
 have hn:(hs.map Prod.fst).Nodup:=Jd hs▸H.amJ (.t (.t (.t (.t (.t .h)))));have H1:=Kz hg H
 grind [apy]
def Z7:=@Hp.auw
def Hp.aEi(H:Hp b S w (rV ekZ evH g ([]:V (Int × Nat))::rest)):Hp b S w (jD g []::rest):=FQ H
def aOA{Q:Exit->Act->World->Prop}{K:Act->World->Prop}{M:Array Oper}{os:V Oper}{n:Cx}{l:V (Nat × Value)}{ty:TypeId}{pos:String}{lN:Array Go.Edge}{m vy:Operand}{v:Nat}(H:Hp b S w rs)(s:nY rs (rHk g ks hs) rest)(hk:Ns prog kt ekZ)(hm:prog.underlying t=some (.map kt et))(hx:fM l m=some (.map (some g)))(hkey:fM l ky=some (ekZ z))(hv:fM l vy=some (evH v))
  (k:∀ w',Hp b S w' (rHk g (fO z v ks) hs::rest)->WL prog n M Q K os l w'):WL prog n M Q K (⟨none,.mapUpdate t m ky vy,ty,pos,lN,none⟩::os) l w:=
 aDZ (H.ah8 s) .h hk hm hx hkey hv λw' H'=>k w' (FQ H')
def Hp.iL{L L':V kF}(h:L'.Sublist L):∀ {rs:V kF},Hp b S w (L++rs)->Hp b S w (L'++rs):=by
 induction h with
 | slnil=>simp
 | cons a _ ih=>exact λH=>ih (H.rm U)
 | cons_cons a h ih=>
  intro rs H
  rename_i l1 l2
  have H1:Hp b S w (l2++(a::rs)):=H.perm HY.symm;exact(ih H1).perm HY
def amK{κ ν β:Type}[DecidableEq κ](f:κ × ν->V β)(k:κ):∀ es:V (κ × ν),((ou k es).flatMap f).Sublist (es.flatMap f)
 | []=>List.Sublist.refl _
 | p::es=>by
  have ih:=amK f k es;unfold ou at ih ⊢;rw [MO,List.flatMap_cons]
  split
  ·rw [List.flatMap_cons]; exact ih.append_left _
  ·exact ih.trans (List.sublist_append_right _ _)
def Hp.azc(H:Hp b S w (dJ h.gh 86 [fK h.gs,.bool h.up]::dJ h.gs 152 [O h.bB,.slice h.A h.l.length h.c,.map (some h.gm)]::dI bg h.A h.c h.l::rV yw xF h.gm h.es::fH fP 5 (h.es.map Prod.snd)::rHk g (fO z h.gh (uZ hs)) hs::rest)):Hp b S w (jD g (fO z h hs)::rest):=by
 have hk:uZ (fO z h hs)=fO z h.gh (uZ hs):=SL l6.gh z h hs;have hn1:=H.amJ (.t (.t (.t (.t (.t .h)))));rw [<- hk,Jd] at hn1;have hn:=ZR hn1;have H1:Hp b S w (Bq h++(rHk g (fO z h.gh (uZ hs)) hs::rest)):=H;rw [<- hk] at H1;have H2:Hp b S w (rHk g (uZ (fO z h hs)) hs::(Bq h++rest)):=H1.perm HY;have H3:Hp b S w ((hs.flatMap λp=>Bq p.2)++(rV ekZ evH g (uZ (fO z h hs))::(Bq h++rest))):=H2.allOut.perm HY.symm;have H4:=Hp.iL (L':=(ou z hs).flatMap λp=>Bq p.2) (amK _ z hs) H3;have hp:=aeL hn1 (ahY (v':=h) hn)
 have hd:ou z (fO z h hs)=ou z hs:=by
  cases hg:cZ z hs with
  | some h0=>exact ahX hg
  | none=>
   grind [fO,ou]
 rw [hd] at hp
 have H5:Hp b S w ((rV ekZ evH g (uZ (fO z h hs))::(fO z h hs).flatMap λp=>Bq p.2)++rest):=by
  refine H4.perm<|HY.trans<|List.Perm.cons _ ?_
  rw [<- o9];exact(Ar.trans hp.symm).append_right rest
 exact H5.allIn
end
structure AItem where
  Kind:Int
  A:Int
  B:Int
  C:Int
  deriving DecidableEq
def AItem.enc(x:AItem):List Value:=[.int .i64 x.Kind,.int .i64 x.A,.int .i64 x.B,.int .i64 x.C]
def AItem.kP(x:AItem):∀ u∈x.enc,u.oneCell'=true:=by
 intro u hu
 simp only [AItem.enc,gW,lH,qM] at hu
 rcases hu with rfl | rfl | rfl | rfl <;> rfl
def AItem.wf(x:AItem):Prop:=vJ x.Kind/\vJ x.A/\vJ x.B/\vJ x.C
def tItem:Ty AItem:=Ty.flat 4 AItem.enc au (λ_=>rfl) AItem.kP
instance:Flat tItem:=⟨λh=>h⟩
structure kV where
  up:Bool
  bB:Int
  l:List aI
  d:List (bP × List (BitVec 8))
abbrev qD:=List (bP × List (BitVec 8))
abbrev jc:=List (Int × kV)
def Nv(es:oh):qD:=es.map λp=>(p.1,p.2.2.2)
def l6.pl(h:l6):kV:=⟨h.up,h.bB,h.l,Nv h.es⟩
def kR(hs:kg):jc:=hs.map λp=>(p.1,p.2.pl)
theorem jg(z:Int)(hs:kg):cZ z (kR hs)=(cZ z hs).map l6.pl:=SK l6.pl z hs
def Br(z:Int)(h:l6)(hs:kg):kR (fO z h hs)=fO z h.pl (kR hs):=SL l6.pl z h hs
def oH(k:bP)(d:qD):List (BitVec 8):=(cZ k d).getD []
theorem OB(k:bP)(es:oh):oH k (Nv es)=(fU k es).2.2:=by
 unfold oH fU Nv;rw [SK (fun(x:Option Addr × Nat × V (BitVec 8))=>x.2.2)]
 cases cZ k es <;> rfl
theorem aeM(k:bP)(v:Option Addr × Nat × V (BitVec 8))(es:oh):Nv (fO k v es)=fO k v.2.2 (Nv es):=SL (fun(x:Option Addr × Nat × V (BitVec 8))=>x.2.2) k v es
theorem aeN(k:bP)(es:oh):Nv (ou k es)=ou k (Nv es):=aui (fun(x:Option Addr × Nat × V (BitVec 8))=>x.2.2) k es
def apA(l:List aI)(bB c v sum:Int)(data:List (BitVec 8))(d:qD):qD:=if rH l bB c v sum data=0 then fO ⟨c,true⟩ data d else d
theorem aEj(l:V aI)(bB c v sum:Int)(data:V (BitVec 8))(B:ah)(n:Nat)(es:oh):Nv (Jb l bB c v sum data B n es)=apA l bB c v sum data (Nv es):=by
 grind [Jb,apA,rH,gI,kU,aeM]
def azd(l:List aI)(c v:Int)(d:qD):qD:=if(mR l c v).2=0 then ou ⟨c,true⟩ (fO ⟨c,false⟩ (oH ⟨c,true⟩ d) d) else d
theorem aEk(l:V aI)(c v:Int)(es:oh):Nv (WT l c v es)=azd l c v (Nv es):=by
 grind [WT,azd,aeN,aeM,OB]
def WU(l:List aI)(c:Int)(d:qD):qD:=if(oZ l c).2=0 then ou ⟨c,false⟩ d else d
theorem auy(l:V aI)(c:Int)(es:oh):Nv (Qw l c es)=WU l c (Nv es):=by
 grind [Qw,WU,aeN]
def SS(l:List aI)(bB c v sum:Int)(data:List (BitVec 8)):Bool:=decide (rH l bB c v sum data=0)&&decide ((mR (BQ l bB c v sum data) c v).2=0)
def Ig(l:List aI)(bB c v sum:Int)(data:List (BitVec 8)):List aI:=if rH l bB c v sum data=0 then Vg (BQ l bB c v sum data) c v else BQ l bB c v sum data
def tkM(l:List aI)(bB c v sum:Int)(data:List (BitVec 8))(B:ah)(n:Nat)(es:oh):oh:=if rH l bB c v sum data=0 then WT (BQ l bB c v sum data) c v (Jb l bB c v sum data B n es) else Jb l bB c v sum data B n es
def tkD(l:List aI)(bB c v sum:Int)(data:List (BitVec 8))(d:qD):qD:=if rH l bB c v sum data=0 then azd (BQ l bB c v sum data) c v (apA l bB c v sum data d) else apA l bB c v sum data d
def amL(l:V aI)(bB c v sum:Int)(data:V (BitVec 8))(B:ah)(n:Nat)(es:oh):Nv (tkM l bB c v sum data B n es)=tkD l bB c v sum data (Nv es):=by
 grind [tkM,tkD,aEk,aEj]
def Nw(l:List aI)(d:qD):List (aI × Bool):=(dL l).map λx=>(x,!decide (((gI (oH (⟨x.X,false⟩:bP) d)).toNat:Int)=x.Sum))
theorem amM(l:V aI)(es:oh):Nw l (Nv es)=Bn l es:=by
 simp [Nw,Bn,Wn,ZO,OB]
def rT(l:List aI)(d:qD)(c:Int):List (BitVec 8) × Int × Int:=match (Nw l d).find? (fun(p:aI × Bool)=>decide (p.1.X=c)) with
  | none=>([],0,5)
  | some p=>if p.2=true then([],0,4) else(oH (⟨c,false⟩:bP) d,p.1.E,0)
def ah9(l:V aI)(es:oh)(c:Int):rT l (Nv es) c=qC l es c:=by
 grind [rT,qC,amM,OB]
def aeO(c bit:Int)(d:qD):qD:=if(oH ⟨c,false⟩ d).length=0 then d else fO ⟨c,false⟩ (ay3 (oH ⟨c,false⟩ d) (vQ bit (oH ⟨c,false⟩ d).length)) d
def aEl(c bit:Int)(es:oh):Nv (SH c bit es)=aeO c bit (Nv es):=by
 grind [SH,aeO,OB,aeM]
def aia(s:List aI × qD)(x:aI):List aI × qD:=if x.fZ=true then(FK s.1 x.X,ou ⟨x.X,true⟩ s.2) else s
def abt(l:List aI)(d:qD):List aI × qD:=l.foldl aia (l,d)
def aEm(l:V aI)(es:oh):abt l (Nv es)=((qY l es l.length).1,Nv (qY l es l.length).2):=by
 unfold abt qY;rw [HZ]
 suffices h:∀(q:V aI)(s:V aI × oh),q.foldl aia (s.1,Nv s.2)=((q.foldl ahU s).1,Nv (q.foldl ahU s).2) from h l (l,es)
 intro q
 induction q <;> grind [aia,ahU,aeN]
def SV(s:List aI × qD)(c:Int):List aI × qD:=(DC s.1 c,WU s.1 c s.2)
def Ih(l:List aI)(d:qD):List aI × qD:=(uM (Nw l d)).foldl SV (l,d)
def aEn(l:V aI)(es:oh):Ih l (Nv es)=((uU l es (FR l es).length).1,Nv (uU l es (FR l es).length).2):=by
 unfold Ih uU;rw [HZ,amM];show(FR l es).foldl SV _=_
 suffices h:∀(q:V Int)(s:V aI × oh),q.foldl SV (s.1,Nv s.2)=((q.foldl ay7 s).1,Nv (q.foldl ay7 s).2) from h _ (l,es)
 intro q
 induction q <;> grind [SV,ay7,auy]
structure PC where
  m:bY
  s:fQ
  r:ARules
  Z:Int
  I:List aL
  hs:jc
def uP(hs:jc)(z:Int):Bool:=match cZ z hs with | some h=>h.up | none=>false
def Pq(hs:jc)(z:Int):List aI:=match cZ z hs with | some h=>dL h.l | none=>[]
def knE(m:bY)(x:eU):Int:=if(dS m x).2<0 then -(dS m x).2 else 0
def rJ(m:bY)(x:eU):bY:=if(dS m x).2<0 then m else(dS m x).1
def CW(m:bY)(l:List eU):bY:=l.foldl rJ m
def wo(s:fQ)(Z c n:Int):Bool:=(eT s Z).bn.any fun(o:aL)=>decide (o.X=c)&&decide (o.To=n)
abbrev vR(c n v:Int):eU:=⟨0,0,5,c,n,v⟩
def Gm(s:fQ)(Z bF:Int)(m:bY)(x:eU):bY:=if(!decide (x.Kind=5)||!wo s Z x.A bF)=true then rJ m x else m
def lM(s:fQ)(Z bF:Int)(m:bY)(l:List eU):bY:=l.foldl (Gm s Z bF) m
def uV(l:List aI)(st:List Int)(bF till:Int):List aL:=(l.filter fun(x:aI)=>st.contains x.X).map fun(x:aI)=>⟨1,x.X,x.E,x.Sum,bF,bF,till⟩
def j6(c:PC)(o:aL):PC:=
  match cZ o.jm c.hs with
  | none=>c
  | some f=>if(!f.up||wo c.s c.Z o.X o.To)=true then c else
    if ¬ ((rT f.l f.d o.X).2.2=0/\(rT f.l f.d o.X).2.1=o.E/\((gI (rT f.l f.d o.X).1).toNat:Int)=o.Sum) then c else
    match cZ o.To c.hs with
    | none=>c
    | some t=>if SS t.l t.bB o.X (rT f.l f.d o.X).2.1 o.Sum (rT f.l f.d o.X).1=false then { c with hs:=fO o.To ⟨t.up,t.bB,Ig t.l t.bB o.X (rT f.l f.d o.X).2.1 o.Sum (rT f.l f.d o.X).1,tkD t.l t.bB o.X (rT f.l f.d o.X).2.1 o.Sum (rT f.l f.d o.X).1 t.d⟩ c.hs } else
      { c with m:=rJ c.m (vR o.X o.To (rT f.l f.d o.X).2.1),s:=⟨c.s.bZ,if Lx c.s.bG o.X o.To=0 then zX c.s.bG o.X o.To else c.s.bG,c.s.bn⟩,hs:=fO o.To ⟨t.up,t.bB,Ig t.l t.bB o.X (rT f.l f.d o.X).2.1 o.Sum (rT f.l f.d o.X).1,tkD t.l t.bB o.X (rT f.l f.d o.X).2.1 o.Sum (rT f.l f.d o.X).1 t.d⟩ c.hs }
def SX{c:PC}(h:cZ o.jm c.hs=none):j6 c o=c:=by grind [j6]
def Ny{c:PC}{f:kV}(h:cZ o.jm c.hs=some f)(hb:(!f.up||wo c.s c.Z o.X o.To)=true):j6 c o=c:=by grind [j6]
def XA{c:PC}{f:kV}(h:cZ o.jm c.hs=some f)(hr:¬ ((rT f.l f.d o.X).2.2=0/\(rT f.l f.d o.X).2.1=o.E/\((gI (rT f.l f.d o.X).1).toNat:Int)=o.Sum)):j6 c o=c:=by
 grind [wo,j6]
def SY{c:PC}{f t:kV}(h:cZ o.jm c.hs=some f)(hb:(!f.up||wo c.s c.Z o.X o.To)=false)(hr:(rT f.l f.d o.X).2.2=0/\(rT f.l f.d o.X).2.1=o.E/\((gI (rT f.l f.d o.X).1).toNat:Int)=o.Sum)(ht:cZ o.To c.hs=some t)(hk:SS t.l t.bB o.X (rT f.l f.d o.X).2.1 o.Sum (rT f.l f.d o.X).1=false):j6 c o={ c with hs:=fO o.To ⟨t.up,t.bB,Ig t.l t.bB o.X (rT f.l f.d o.X).2.1 o.Sum (rT f.l f.d o.X).1,tkD t.l t.bB o.X (rT f.l f.d o.X).2.1 o.Sum (rT f.l f.d o.X).1 t.d⟩ c.hs }:=by
 grind [j6]
theorem Nz{c:PC}{f t:kV}(h:cZ o.jm c.hs=some f)(hb:(!f.up||wo c.s c.Z o.X o.To)=false)(hr:(rT f.l f.d o.X).2.2=0/\(rT f.l f.d o.X).2.1=o.E/\((gI (rT f.l f.d o.X).1).toNat:Int)=o.Sum)(ht:cZ o.To c.hs=some t)(hk:SS t.l t.bB o.X (rT f.l f.d o.X).2.1 o.Sum (rT f.l f.d o.X).1=true):j6 c o={ c with m:=rJ c.m (vR o.X o.To (rT f.l f.d o.X).2.1),s:=⟨c.s.bZ,if Lx c.s.bG o.X o.To=0 then zX c.s.bG o.X o.To else c.s.bG,c.s.bn⟩,hs:=fO o.To ⟨t.up,t.bB,Ig t.l t.bB o.X (rT f.l f.d o.X).2.1 o.Sum (rT f.l f.d o.X).1,tkD t.l t.bB o.X (rT f.l f.d o.X).2.1 o.Sum (rT f.l f.d o.X).1 t.d⟩ c.hs }:=by
 grind [j6]
def Z8(o:aL)(x:aI):Bool:=decide (x.X=o.X)&&decide (x.E=o.E)
def mZ(c:PC)(o:aL):PC:=
  if o.Kind=0 then j6 c o else
  match cZ o.To c.hs with
  | none=>c
  | some t=>if(dL t.l).any (Z8 o)=true then { c with hs:=fO o.To ⟨t.up,t.bB,DC t.l o.X,WU t.l o.X t.d⟩ c.hs } else c
def NA{c:PC}{t:kV}(h0:¬ o.Kind=0)(ht:cZ o.To c.hs=some t)(hb:(dL t.l).any (Z8 o)=true):mZ c o={ c with hs:=fO o.To ⟨t.up,t.bB,DC t.l o.X,WU t.l o.X t.d⟩ c.hs }:=by
 grind [mZ]
theorem Z9{c:PC}{t:kV}(h0:¬ o.Kind=0)(ht:cZ o.To c.hs=some t)(hb:(dL t.l).any (Z8 o)=false):mZ c o=c:=by
 grind [mZ]
def kM(c:PC)(it:AItem):PC × Int:=
  if it.A<0∨(c.I.length:Int)<=it.A then(c,5) else
  match c.I[it.A.toNat]? with
  | none=>(c,5)
  | some o=>if it.Kind=8 then({ c with I:=c.I++[o] },0) else
    (if it.Kind=6/\c.Z<=o.iK/\uP c.hs o.To=true then mZ { c with I:=c.I.take it.A.toNat++c.I.drop (it.A.toNat+1) } o else { c with I:=c.I.take it.A.toNat++c.I.drop (it.A.toNat+1) },0)
def nD(c n:Int):List (BitVec 8):=[BitVec.ofInt 8 c,BitVec.ofInt 8 (c / 2 ^ 8),BitVec.ofInt 8 n,BitVec.ofInt 8 (n / 2 ^ 8)]
def sM(c v sum:Int)(data:List (BitVec 8))(q:jc × List Int)(z:Int):jc × List Int:=
  match cZ z q.1 with
  | none=>q
  | some h=>(fO z ⟨h.up,h.bB,Ig h.l h.bB c v sum data,tkD h.l h.bB c v sum data h.d⟩ q.1,if SS h.l h.bB c v sum data=true then q.2++[z] else q.2)
def FX(c n:Int):Int:=((gI (nD c n)).toNat:Int)
def qy(m:bY)(it:AItem):eU:=⟨0,0,if gQ m.J it.A=true then 4 else 3,it.A,FX it.A it.B,0⟩
def aOB(c:PC):List Int:=((Lj c.s.bZ c.Z c.r.lD).map eP.Node).filter fun(x:Int)=>!(!uP c.hs x)
def S9(c:PC)(m:bY):List Int:=tL m.aM (aOB c) c.r.je.toNat (oq c.m.J m.aM) []
def FY(c:PC)(it:AItem):jc × List Int:=(S9 c (dS c.m (qy c.m it)).1).foldl (sM it.A (dS c.m (qy c.m it)).2 (FX it.A it.B) (nD it.A it.B)) (c.hs,[])
def rz(c:PC)(it:AItem):PC × Int:=
  if(dS c.m (qy c.m it)).2<0 then(c,-(dS c.m (qy c.m it)).2) else
  if(FY c it).2=[] then({ c with hs:=(FY c it).1 },7) else
  ({ c with m:=CW (dS c.m (qy c.m it)).1 ((FY c it).2.map λz=>vR it.A z (dS c.m (qy c.m it)).2),hs:=(FY c it).1 },0)
def DW(it:AItem):eU:=⟨0,0,1,it.A,it.B,it.C⟩
def apB(c:PC)(it:AItem):PC × Int:=({ c with m:=rJ c.m (DW it),hs:=if knE c.m (DW it)=0 then fO it.A ⟨true,Ja it.C,[],[]⟩ c.hs else c.hs },knE c.m (DW it))
def tq(c:PC):PC:={ c with m:=CW c.m (mM c.m c.s c.r c.Z),s:=iM c.m c.s c.r c.Z,I:=c.I++pF c.m c.s c.r c.Z }
def LU(c:PC)(it:AItem)(h:kV):PC:=
  { c with m:=lM c.s c.Z it.A c.m (jS c.m.J it.A (dL h.l)),I:=c.I++uV (dL h.l) (lK (lM c.s c.Z it.A c.m (jS c.m.J it.A (dL h.l))).J (dL h.l)) it.A (c.Z+c.r.gV) }
def Il(c:PC)(it:AItem)(h:kV):PC × Int:=
  if it.Kind=3 then({ c with s:=⟨uN c.s.bZ it.A c.Z,c.s.bG,c.s.bn⟩ },0) else
  if it.Kind=4 then(LU c it h,0) else
  if it.Kind=9 then({ c with hs:=fO it.A { h with up:=false } c.hs },0) else
  if it.Kind=10 then({ c with hs:=fO it.A ⟨true,h.bB,(abt h.l h.d).1,(abt h.l h.d).2⟩ c.hs },0) else
  if it.Kind=12 then({ c with hs:=fO it.A ⟨h.up,h.bB,(Ih h.l h.d).1,(Ih h.l h.d).2⟩ c.hs },0) else
  if it.Kind=13 then({ c with hs:=fO it.A { h with d:=aeO it.B it.C h.d } c.hs },if(oH ⟨it.B,false⟩ h.d).length=0 then 5 else 0) else
  ({ c with hs:=fO it.A ⟨h.up,h.bB,[],[]⟩ c.hs },0)
def vD(k:Int):Option Bool:=if k=10 then some false else if k=13∨k=14 then none else some true
def nJ(c:PC)(it:AItem):PC × Int:=
  if it.Kind=0 then(if it.A<0∨100<it.A then(c,1) else({ c with Z:=c.Z+it.A },0)) else
  if it.Kind=1 then apB c it else
  if it.Kind=2 then({ c with m:=rJ c.m ⟨0,0,2,it.A,it.B,0⟩ },knE c.m ⟨0,0,2,it.A,it.B,0⟩) else
  if it.Kind=5 then(tq c,0) else
  if it.Kind=6∨it.Kind=7∨it.Kind=8 then kM c it else
  if it.Kind=11 then rz c it else
  if it.Kind<0∨14<it.Kind then(c,1) else
  match cZ it.A c.hs with
  | none=>(c,5)
  | some h=>if vD it.Kind=some (!h.up) then(c,8) else Il c it h
def BR(hs:jc)(x:aH)(z:Int):List Int->List (BitVec 8) × Int
  | []=>([],8)
  | n::l=>match cZ n hs with
    | none=>BR hs x z l
    | some h=>if h.up=true/\(rT h.l h.d z).2.2=0/\(rT h.l h.d z).2.1=x.E/\((gI (rT h.l h.d z).1).toNat:Int)=x.Sum then((rT h.l h.d z).1,0) else BR hs x z l
def uW(c:PC)(z:Int):List (BitVec 8) × Int:=if gQ c.m.J z=false then([],5) else BR c.hs (aV c.m.J z) z (aV c.m.J z).aD
abbrev Io(iy:Nat)(A1:ah)(c1:Nat)(A2:ah)(c2:Nat)(A3:ah)(c3:Nat)(A4:ah)(c4:Nat)(A5:ah)(c5:Nat)(A6:ah)(c6:Nat)(A7:ah)(c7:Nat)(m:bY)(s:fQ)(r:ARules)(Z:Int)(gm:Nat)(I:List aL):kF:=dJ iy 66 [.slice A1 m.aM.length c1,.slice A2 m.J.length c2,.slice A3 m.aU.length c3,.slice A4 s.bZ.length c4,.slice A5 s.bG.length c5,.slice A6 s.bn.length c6,.int .i64 r.lD,.int .i64 r.l9,.int .i64 r.All,.int .i64 r.je,.int .i64 r.gV,.int .i64 r.eF,.int .i64 Z,.map (some gm),.slice A7 I.length c7]
def apC{l:V aH}(h:ku l=true)(id:Int):0<=(aV l id).E:=by
 cases hb:gQ l id with
 | false=>grind [abP]
 | true=>have:=rU (tQ h _ (vv h hb)); omega
def aIi(m:bY)(c:eU):0<=(yN m c).2.2.1/\(yN m c).2.2.1<=10:=by
 rcases kinds c.Kind with h | h | h | h | h | h | h | h | h
 ·grind [ahy]
 ·simp_all [ahz,atw]
 ·grind [ahA,atx]
 ·simp_all [ace,aty]
 ·simp_all [acf,atz]
 all_goals simp_all [ZH,atA,ZI,atB,ahB,atC,ahC]
def aIj{m:bY}(hm:lU m=true)(c:eU):0<=(yN m c).2.2.2:=by
 have hc:ku (yN m c).2.1=true:=(dD.1 (U8 hm c)).2.1
 have hw:∀ put,(yN m c).2.1=(uT put m.J c).1->0<=(uT put m.J c).2.2:=λput h=>by
  rw [h] at hc;unfold uT at hc ⊢
  split
  all_goals simp_all [FB,aQ,apC]
 rcases kinds c.Kind with h | h | h | h | h | h | h | h | h
 ·grind [ahy]
 ·grind [ahz]
 ·grind [ahA]
 ·grind [ace]
 ·grind [acf]
 ·grind [ZH]
 ·grind [ZI]
 ·grind [ahB]
 grind [ahC]
def amN{m:bY}(hm:lU m=true){x:eU}(hx:x.Client=0):dS m x=uK m x:=by
 grind [dS]
def OC{m:bY}(hm:lU m=true){x:eU}(hx:x.Client=0):-10<=(dS m x).2:=by
 rw [amN hm hx];have h1:=aIi m x; have h2:=aIj hm x;show -10<=Ie _ _
 grind [Ie]
theorem nP{m:bY}(hm:lU m=true)(x:eU):lU (rJ m x)=true:=by
 grind [rJ,FJ]
def Ta{m:bY}(hm:lU m=true)(l:V eU):lU (CW m l)=true:=by
 unfold CW
 induction l generalizing m <;> grind [nP]
def auz{m:bY}{l:V eU}{k:Nat}{x:eU}(h:l[k]? = some x):CW m (l.take (k+1))=rJ (CW m (l.take k)) x:=by
 simp_all [CW,eO,AP]
def Df:bU prog 66 3 12:=λ_ _=>by rfl
def Bt:bU prog 66 5 14:=λ_ _=>by rfl
def vE:bU prog 66 4 13:=λ_ _=>by rfl
def Wq:kW prog 59:=λ_=>by rfl
def wI:∀ w,(zeroValue 82).run prog w=.ok (.pointer none) w:=by simp
def KD:bU prog 86 1 1:=λ_ _=>by rfl
def zk:bU prog 86 0 0:=λ_ _=>by rfl
def Bv:bU prog 66 0 0:=λ_ _=>by rfl
def Bw:bU prog 66 1 3:=λ_ _=>by rfl
def aEo:bC prog 154:=λ_ _=>by rfl
def nA:bU prog 32 1 1:=λ_ _=>by rfl
def XB:bU prog 32 2 2:=λ_ _=>by rfl
abbrev GY(gX:Nat)(iP:ah)(xE:Nat)(AU:ah)(Gg:Nat)(R5:ah)(V9:Nat)(y7z:ah)(y8z:Nat)(y9z:ah)(Tc:Nat)(Td:ah)(Tf:Nat)(Ti:ah)(Tj:Nat)(EB:bY)(EC:fQ)(aeP:ARules)(aeQ:Int)(Tn:Nat)(Tq:List aL)(aeR:kg)(aeS:List kF):=Io gX iP xE AU Gg R5 V9 y7z y8z y9z Tc Td Tf Ti Tj EB EC aeP aeQ Tn Tq::dI bW iP xE EB.aM::dI bD AU Gg EB.J::dI cB R5 V9 EB.aU::dI iG y7z y8z EC.bZ::dI dB y9z Tc EC.bG::dI bA Td Tf EC.bn::aR bA 121 Ti Tj Tq::jD Tn aeR::aeS
def auA{gm:Nat}{m:bY}{s:fQ}{r:ARules}{Z:Int}{I:V aL}{hs:kg}(H0:Hp b S w (GY iy A1 c1 A2 c2 A3 c3 A4 c4 A5 c5 A6 c6 A7 c7 m s r Z gm I hs F))(bF:Int):bM prog 17 #[fK iy,O bF] w λv w'=>v=.bool (uP (kR hs) bF)/\Hp b S w' (GY iy A1 c1 A2 c2 A3 c3 A4 c4 A5 c5 A6 c6 A7 c7 m s r Z gm I hs F):=by
 refine qN func17 ntmps17 Y<|kX Y ?_
 rcases hg1:cZ bF hs with _ | ⟨gh1,gs1,gm1,Ah1,ch1,up1,rm1,l1,es1⟩
 ·refine pC 3 Y<|jP iy 13 vE H0 U Y<|mv Y<|ev (Ev.hN H0 s8 hg1 FV zM wI Y Y)<|pB 4 Y<|ev (Ev.pnn DV Y Y)<|pA 8 Y<|iU Y ?_
  have gy:(false:Bool)=(uP (kR hs) bF):=by grind [uP,jg]
  exact⟨by rw [<- gy] <;> rfl,H0⟩
 ·refine pC 3 Y<|jP iy 13 vE H0 U Y<|mv Y<|ev (Ev.hS H0 s8 hg1 FV zM wI Y Y)<|pB 4 Y<|ev (Ev.pnn DV Y Y)<|pq 3 Y<|gfy gh1 1 KD Y<|uf Y (dU akD Y (H0.FW s8 hg1) Y) Y<|pA 3 Y<|iU Y ?_
  have gH:(up1:Bool)=(uP (kR hs) bF):=by unfold uP; rw [jg,hg1]; rfl
  exact⟨by rw [<- gH] <;> rfl,H0⟩
def akW{gm:Nat}{m:bY}{s:fQ}{r:ARules}{Z:Int}{I:V aL}{hs:kg}(H0:Hp b S w (GY iy A1 c1 A2 c2 A3 c3 A4 c4 A5 c5 A6 c6 A7 c7 m s r Z gm I hs F))(bF:Int)(hL:∀ h,cZ bF hs=some h->h.l.length<=1000):bM prog 104 #[fK iy,O bF] w λv w'=>∃ A0 c0,v=.slice A0 ((Pq (kR hs) bF).length) c0/\Hp b S w' (aR bg 140 A0 c0 (Pq (kR hs) bF)::Io iy A1 c1 A2 c2 A3 c3 A4 c4 A5 c5 A6 c6 A7 c7 m s r Z gm I::dI bW A1 c1 m.aM::dI bD A2 c2 m.J::dI cB A3 c3 m.aU::dI iG A4 c4 s.bZ::dI dB A5 c5 s.bG::dI bA A6 c6 s.bn::aR bA 121 A7 c7 I::jD gm hs::F):=by
 refine qN func104 ntmps104 Y<|kX Y<|aZ ?_
 rcases hg1:cZ bF hs with _ | ⟨gh1,gs1,gm1,Ah1,ch1,up1,rm1,l1,es1⟩
 ·refine pC 3 Y<|jP iy 13 vE H0 U Y<|mv Y<|ev (Ev.hN H0 s8 hg1 FV zM wI Y Y)<|pB 4 Y<|ev (Ev.pnn DV Y Y)<|dn<|bS Y nofun (λ_h=>?_)
  refine jQ ?_;refine kX Y<|iU Y ?_
  have H1:=H0.nil bg 140;have gy:(([]:V aI):V aI)=(Pq (kR hs) bF):=by unfold Pq; rw [jg,hg1]; rfl
  exact⟨none,0,by rw [<- gy] <;> rfl,by rw [<- gy]; exact H1⟩
 ·have hlb:l1.length<=1000:=hL _ hg1;refine pC 3 Y<|jP iy 13 vE H0 U Y<|mv Y<|ev (Ev.hS H0 s8 hg1 FV zM wI Y Y)<|pB 4 Y<|ev (Ev.pnn DV Y Y)<|dn<|bS Y (λ_h=>?_) nofun
  refine pC 3 Y<|zA gh1 0 zk Y<|ev (dU Wp Y (H0.FW s8 hg1) Y) ?_
  have H2:=H0.xM s8 hg1;refine gu Y (Qx ((H2.sel U).mV 1 4) aj) ?_;rintro _ w1 ⟨jT,jU,rfl,K1⟩;have H3:=Z7 hg1 ((((K1.sel U).sel s6).mV 2 4).sel s6);refine fE Y<|Aw Y ?_
  have gH:(dL l1:V aI)=(Pq (kR hs) bF):=by unfold Pq; rw [jg,hg1]; rfl
  exact⟨jT,jU,by rw [<- gH] <;> rfl,by rw [<- gH]; exact((H3.sel U).mV 1 9)⟩
abbrev aeU(gX:bY)(iP:eU):=(((dS gX iP).1).aM).length
abbrev aeV(gX:bY)(iP:eU):=(((dS gX iP).1).J).length
abbrev aeW(gX:bY)(iP:eU):=(((dS gX iP).1).aU).length
def zY{gm:Nat}{m:bY}{s:fQ}{r:ARules}{Z:Int}{I:V aL}{hs:kg}(H0:Hp b S w (GY iy A1 c1 A2 c2 A3 c3 A4 c4 A5 c5 A6 c6 A7 c7 m s r Z gm I hs F))(x:eU)(hm:lU m=true)(hx:x.Client=0):bM prog 62 #[fK iy,.agg #[O x.Client,O x.Seq,O x.Kind,O x.A,O x.B,O x.C]] w λv w'=>∃ B1 d1 B2 d2 B3 d3,v=O (knE m x)/\Hp b S w' (Io iy B1 d1 B2 d2 B3 d3 A4 c4 A5 c5 A6 c6 A7 c7 (rJ m x) s r Z gm I::dI bW B1 d1 ((rJ m x).aM)::dI bD B2 d2 ((rJ m x).J)::dI cB B3 d3 ((rJ m x).aU)::dI iG A4 c4 s.bZ::dI dB A5 c5 s.bG::dI bA A6 c6 s.bn::aR bA 121 A7 c7 I::jD gm hs::F):=by
 refine qN func62 ntmps62 Y<|rg<|bx Y Y H0 λg1 w1 K1=>fE Y<|He K1 (λ_ K=>K) (λl0 rk lJ wJ=>∃ qF jG jr oV cj2 wH vG,lJ=(5,fK qF)::(6,O ((dS m x).2))::l0/\Hp b S wJ (dJ qF 37 [.slice jG (aeU m x) jr,.slice oV (aeV m x) cj2,.slice wH (aeW m x) vG]::dI bW jG jr (((dS m x).1).aM)::dI bD oV cj2 (((dS m x).1).J)::dI cB wH vG (((dS m x).1).aU)::rk)) (λhns H1=>?_) ?_
 ·refine qp 0 iy 0 Bv Y H1<|kI 3 Y (λ_ hK=>wD (cs':=[.slice A1 m.aM.length c1,.slice A2 m.J.length c2,.slice A3 m.aU.length c3]) xW Y Y (hK.x s1) Y) H1<|kI 4 Y (λ_ hK=>fA Bg Y Y (hK.x U)) H1<|Jn H1 (λl0 rk lJ wJ=>∃ g2 Bz BA BD BF BG BH,lJ=(5,fK g2)::(15,O ((dS m x).2))::l0/\Hp b S wJ (dJ g2 37 [.slice Bz (aeU m x) BA,.slice BD (aeV m x) BF,.slice BG (aeW m x) BH]::dI bW Bz BA (((dS m x).1).aM)::dI bD BD BF (((dS m x).1).J)::dI cB BG BH (((dS m x).1).aU)::rk)) 1 2047 ?_ λhS1=>?_
  ·rintro _ w8 ⟨g2,Bz,BA,BD,BF,BG,BH,rfl,K8⟩;have k6:=(K8.cU 0 4);refine xC 11 Y Y k6<|Dn ⟨g2,Bz,BA,BD,BF,BG,BH,Y,K8⟩ Y
  refine O2 5 9 Y Y ?_ ?_
  ·refine gu Y (Sv _ m (H1.s s2) (H1.s s3) (H1.s s4) x (GU hm) hx) ?_;rintro _ w9 ⟨aeX,aeY,aeZ,ae0,ae1,ae2,rfl,h9⟩;have K9:=H1.c3 h9;have k7:=(K9.cU 0 3);refine aO k7<|lF 6 Y Y k7<|yj 7 Y Y Y k7<|yj 8 Y Y Y k7<|O1 9 Y<|al xK Y K9 λg4 PE K10=>?_
   have k8:=(K10.cU 0 4);refine aO k8<|O1 10 Y<|sty Y K10 U Y λVY vF=>?_
   have k9:=(vF.cU 0 4);exact Kj hS1 k9 ⟨g4,aeX,aeY,aeZ,ae0,ae1,ae2,Y,vF⟩ Y
  ·refine al xK Y H1 λg5 Uy uR=>?_;have k10:=(uR.rm U);refine aO k10<|O1 5 Y<|gu Y (Sv _ m (uR.s s3) (uR.s s4) (uR.s s5) x (GU hm) hx) ?_
   rintro _ YX ⟨tV,tX,y8,za,ze,zf,rfl,h13⟩;have xk:=uR.c3 h13;have k11:=(xk.cU 0 4);refine aO k11<|lF 6 Y Y k11<|yj 7 Y Y Y k11<|yj 8 Y (vs:=[.agg #[.slice tV (aeU m x) tX,.slice y8 (aeV m x) za,.slice ze (aeW m x) zf],O ((dS m x).2)]) Y Y k11<|O1 10 Y<|sty Y xk s3 Y λw14 wF=>?_
   have k12:=(wF.cU 0 4);exact Kj hS1 k12 ⟨g5,tV,tX,y8,za,ze,zf,Y,wF⟩ Y
 rintro _ w15 ⟨qF,jG,jr,oV,cj2,wH,vG,rfl,zI⟩;refine aZ<|gD Y<|ev (iH Y Y)<|dn<|o8 Y (λhc17=>?_) (λhc17=>?_)
 ·refine gD Y<|ev (Ev.neg Y (xR (by have hxx:=OC hm hx; omega) (by have hxx:=OC hm hx; omega)))<|fE rfl<|Aw rfl ?_
  rw [show(rJ m x)=m from by unfold rJ; rw [aS hc17]];have gy:(-((dS m x).2):Int)=(knE m x):=by unfold knE; rw [aS hc17]
  exact⟨A1,c1,A2,c2,A3,c3,by rw [<- gy] <;> rfl,(zI.cU 0 5)⟩
 refine jQ ?_;refine gD Y<|ev (fA xW Y Y (zI.x U))<|pq 1 Y<|zA iy 0 Bv Y<|stp Y Y Y as8 zI s5 Y Y Y λw16 BZ=>dn<|kX Y<|iU Y ?_
 rw [show(rJ m x)=((dS m x).1) from by unfold rJ; rw [aQ hc17]];have gH:(0:Int)=(knE m x):=by unfold knE; rw [aQ hc17]
 exact⟨jG,jr,oV,cj2,wH,vG,by rw [<- gH] <;> rfl,((BZ.cU 5 4).rm s1)⟩
def NC(w:World){wP:ah}{vk:Nat}{s:V aL}(sP:Sl bA S0 w wP vk s){CK:FuncId}{Hr:V Value}(VR:bC prog CK)(f:aL->Bool)(VT:∀(w':World)(x:aL),Ext w w'->x∈s->bM prog CK (([.agg #[O x.Kind,O x.X,O x.E,gP x.Sum,O x.jm,O x.To,O x.iK]]:V Value)++Hr).toArray w' λv w''=>v=.bool (f x)/\Ext w' w''):bM prog 155 #[.slice wP s.length vk,.func (.func CK) #[] Hr.toArray] w λv w'=>v=.bool (s.any f)/\Hp w S0 w' []:=by
 refine lg S0 func155 ntmps155 Y λH0=>pC 6 Y<|mX H0 Y (GK _ (H0.a sP).any VR f (λw' x e hm=>VT w' x (H0.ext.trans e) hm)) λw1 K1=>pA 3 Y<|iU Y ?_
 exact⟨by rw [Xt f s] <;> rfl,K1⟩
def apD(w:World)(o:aL){Ry:Nat}(aN:Int)(ady:Bx w Ry 3 [O aN]){E5:Nat}(bF:Int)(MV:Bx w E5 3 [O bF]):bM prog 154 #[.agg #[O o.Kind,O o.X,O o.E,gP o.Sum,O o.jm,O o.To,O o.iK],fK Ry,fK E5] w λv w'=>v=.bool (decide (o.X=aN)&&decide (o.To=bF))/\Hp w S0 w' []:=by
 refine lg S0 func154 ntmps154 Y λH0=>rg<|bx Y Y H0 λg1 w1 K1=>fE Y<|rg<|jP g1 1 uF K1 U Y<|ev (dU jF Y (ady.ext K1.ext) Y)<|pq 2 Y<|iJ 5 14 ((decide (o.X=aN))&&(decide (o.To=bF))) ?_ ?_
 ·cases hb9:decide (o.X=aN) with
  | true=>
   refine wW g1 5 AY K1 U Y<|uf Y (dU jF Y (MV.ext K1.ext) Y) Y<|pq 2 Y<|dK Y
  | false=>
   refine pq 5 Y<|dK Y
 refine fE Y<|iU Y ?_
 exact⟨by skip <;> rfl,(K1.rm U)⟩
def aib{gm:Nat}{m:bY}{s:fQ}{r:ARules}{Z:Int}{I:V aL}{hs:kg}(H0:Hp b S w (GY iy A1 c1 A2 c2 A3 c3 A4 c4 A5 c5 A6 c6 A7 c7 m s r Z gm I hs F))(aN:Int)(bF:Int)(hb:s.bZ.length<=1000)(hl:s.bG.length<=64)(hd:s.bn.length<=50000):bM prog 79 #[fK iy,O aN,O bF] w λv w'=>v=.bool (wo s Z aN bF)/\Hp b S w' (GY iy A1 c1 A2 c2 A3 c3 A4 c4 A5 c5 A6 c6 A7 c7 m s r Z gm I hs F):=by
 refine qN func79 ntmps79 Y<|rg<|bx Y Y H0 λg1 w1 K1=>bx Y Y K1 λg2 w2 K2=>fE Y<|rg<|ev (rZ Y)<|fE Y<|He K2 (λ_ K=>K) (λl0 rk lJ wJ=>lJ=(6,.bool (((eT s Z).bn).any (fun(x:aL)=>decide (x.X=aN)&&decide (x.To=bF))))::l0/\Hp b S wJ rk) (λhns H1=>?_) ?_
 ·refine qp 0 iy 3 Bw Y H1<|kI 3 Y (λ_ hK=>wD (cs':=[.slice A4 s.bZ.length c4,.slice A5 s.bG.length c5,.slice A6 s.bn.length c6]) Lm Y Y (hK.x s2) Y) H1<|qp 4 iy 12 Df Y H1<|xS 7 s2 Y H1<|lF 10 Y Y H1<|O1 8 Y<|gu Y (ag2 _ s (H1.s s6).any (H1.s s7).any (H1.s s8).any Z aj aj aj) ?_
  rintro _ w3 ⟨aOC,aOD,aOE,aOF,aOG,aOH,rfl,h3⟩;have K3:=H1.f3 h3;have k1:=(K3.cU 0 3);refine aO k1<|kI 9 Y (λ_ _=>Ev.fld underlying64 Y Y aAP Y Y) k1<|O1 11 Y<|mX K3 Y (NC _ (K3.o s2) aEo (fun(x:aL)=>decide (x.X=aN)&&decide (x.To=bF)) (λw' x e hm=>(apD (S0:=Any) w' x aN ((K3.x s4).ext e) bF ((K3.x s3).ext e)).mono (by rintro _ _ ⟨rfl,gH⟩; exact⟨rfl,gH.ext⟩))) λw4 K4=>?_
  have k2:=(K4.cU 0 3);refine aO k2<|xC 12 Y Y k2<|Dn ⟨Y,(K4.cU 0 3)⟩ Y
 rintro _ w5 ⟨rfl,K5⟩;refine iU Y ?_;exact⟨by skip <;> rfl,(K5.cU 0 2)⟩
def auB{gm:Nat}{m:bY}{s:fQ}{r:ARules}{Z:Int}{I:V aL}{hs:kg}(H0:Hp b S w (GY iy A1 c1 A2 c2 A3 c3 A4 c4 A5 c5 A6 c6 A7 c7 m s r Z gm I hs F))(it:AItem)(hu:0<=Z/\Z<=549755813888):bM prog 20 #[fK iy,.agg #[O it.Kind,O it.A,O it.B,O it.C]] w λv w'=>v=O (if it.A<0∨100<it.A then 1 else 0)/\Hp b S w' (Io iy A1 c1 A2 c2 A3 c3 A4 c4 A5 c5 A6 c6 A7 c7 m s r (if it.A<0∨100<it.A then Z else Z+it.A) gm I::dI bW A1 c1 m.aM::dI bD A2 c2 m.J::dI cB A3 c3 m.aU::dI iG A4 c4 s.bZ::dI dB A5 c5 s.bG::dI bA A6 c6 s.bn::aR bA 121 A7 c7 I::jD gm hs::F):=by
 refine qN func20 ntmps20 Y<|rg<|bx Y Y H0 λg1 w1 K1=>fE Y<|aZ<|rg<|jP g1 1 nA K1 U Y<|pq 2 Y<|iJ 4 12 ((decide (it.A<0))||(decide (100<it.A))) ?_ ?_
 ·cases hb8:decide (it.A<0) with
  | true=>
   refine pq 4 Y<|dK Y
  | false=>
   refine wW g1 1 nA K1 U Y<|pq 2 Y<|dK Y
 refine dn<|bS Y (λoD=>?_) (λoD=>?_)
 ·try simp only [aA] at oD
  refine kX Y<|Aw Y ?_
  exact⟨by rw [aS aj] <;> rfl,by rw [aS aj]; exact(K1.rm U)⟩
 try simp only [aA] at oD
 refine jQ ?_;refine He K1 (λ_ K=>(K.rm s1)) (λl0 rk lJ wJ=>lJ=l0/\Hp b S wJ (Io iy A1 c1 A2 c2 A3 c3 A4 c4 A5 c5 A6 c6 A7 c7 m s r (Z+it.A) gm I::rk)) (λhns H1=>?_) ?_
 ·have k1:=(H1.rm s1);refine qp 0 iy 12 Df Y k1<|mK 4 5 g1 1 nA U Y k1<|O1 3 Y<|lY H1 s1 Y<|aO k1<|kI 6 Y (λ_ _=>eG Y Y) k1<|JG 7 iy 12 Df Y k1<|O1 9 Y<|xD Y H1 s1 Y λw2 K2=>?_
  have k2:=(K2.rm U);refine aO k2<|Dn ⟨Y,K2⟩ Y
 rintro _ w3 ⟨rfl,K3⟩;refine kX Y<|iU Y ?_
 exact⟨by rw [aQ aj] <;> rfl,by rw [aQ aj]; exact(K3.rm s1)⟩
abbrev OD(gX:AItem):=(⟨0,0,2,gX.A,gX.B,0⟩:eU)
def aze{gm:Nat}{m:bY}{s:fQ}{r:ARules}{Z:Int}{I:V aL}{hs:kg}(H0:Hp b S w (GY iy A1 c1 A2 c2 A3 c3 A4 c4 A5 c5 A6 c6 A7 c7 m s r Z gm I hs F))(it:AItem)(hm:lU m=true):bM prog 22 #[fK iy,.agg #[O it.Kind,O it.A,O it.B,O it.C]] w λv w'=>∃ B1 d1 B2 d2 B3 d3,v=O (knE m (OD it))/\Hp b S w' (Io iy B1 d1 B2 d2 B3 d3 A4 c4 A5 c5 A6 c6 A7 c7 (rJ m (OD it)) s r Z gm I::dI bW B1 d1 ((rJ m (OD it)).aM)::dI bD B2 d2 ((rJ m (OD it)).J)::dI cB B3 d3 ((rJ m (OD it)).aU)::dI iG A4 c4 s.bZ::dI dB A5 c5 s.bG::dI bA A6 c6 s.bn::aR bA 121 A7 c7 I::jD gm hs::F):=by
 refine qN func22 ntmps22 Y<|rg<|bx Y Y H0 λg1 w1 K1=>pB 4 Y<|jP g1 1 nA K1 U Y<|jP g1 2 XB K1 U Y<|ev (iT Y (by apply y7))<|gu rfl (zY ((K1.sel U).mV 1 9) (OD it) aj rfl) ?_
 rintro _ w2 ⟨apE,apF,apG,apH,apI,apJ,rfl,K2⟩;refine fE Y<|iU Y ?_
 exact⟨apE,apF,apG,apH,apI,apJ,Y,(K2.rm s9)⟩
end
end Go.Proofs.YthcmboepffiliaaGreat
