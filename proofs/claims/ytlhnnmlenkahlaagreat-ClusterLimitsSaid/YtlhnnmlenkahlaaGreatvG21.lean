/- Lemmas. -/
import Derived.Test.YtlhnnmlenkahlaaGreatvG20
set_option maxRecDepth 4000
set_option linter.all false
namespace Go.Proofs.YtlhnnmlenkahlaaGreat
open Go.RowKit Go.Proofs.Tryz
def Dr:=@underlying167
variable {b w:World}{S:Nat->Prop}{F L:List lC}{mH gm c:Nat}{A:ah}{bJ:Int}{l:List aH}{x:aH}{bT:Array Oper}{aT full:Array Bool}{ν':Type}{K0:Act->World->Prop}
structure bV where
  aL:Int
  temp:Bool
  deriving DecidableEq
def bV.enc(x:bV):List Value:=[.int .i64 x.aL,.bool x.temp]
theorem bV.kC(x:bV):∀ u∈x.enc,u.oneCell'=true:=by
  intro u hu
  simp only [bV.enc,iN,kY,qW] at hu
  rcases hu with rfl | rfl <;> rfl
def avN:Ty bV:=Ty.flat 2 bV.enc au (λ_=>rfl) bV.kC
instance:Flat avN:=⟨λh=>h⟩
theorem vv:dH prog 169 1 1:=ay
theorem aaG(a0:Int)(a1:Option Nat):prog.built 169 [(0,aD a0),(2,.map a1)]=some #[aD a0,.slice none 0 0,.map a1]:=ak
theorem an0:bI prog 55:=ay
theorem Si(a0:Int)(a1:Int)(a2:Int):prog.built 132 [(0,aD a0),(1,aD a1),(2,fT a2)]=some #[aD a0,aD a1,fT a2,.bool false,.bool false]:=ak
theorem an1:dH prog 169 0 0:=ay
theorem azj:kW prog 70:=ay
theorem wN:dH prog 169 2 2:=ay
theorem o8(a0:Int)(a1:Bool):prog.built 171 [(0,aD a0),(1,.bool a1)]=some #[aD a0,.bool a1]:=ak
theorem avO:kW prog 167:=ay
theorem KG:∀ w,(zeroValue 33).run prog w=.ok (.slice none 0 0) w:=ay
theorem avP:bI prog 141:=ay
abbrev uT(p:bV):Value:=.agg p.enc.toArray
theorem aj7(x y:bV)(w:World):(Op.equalIn 10000 171 (.agg x.enc.toArray) (.agg y.enc.toArray)).run prog w=.ok (decide (x=y)) w:=by
  obtain⟨a0,a1⟩:=x; obtain⟨b0,b1⟩:=y
  simp only [bV.enc,bV.mk.injEq]
  simp [go_sem]
  repeat' split
  all_goals simp_all
theorem uD:JR prog 171 uT:=key_eq underlying171 (λ_ _=>rfl) (λa b w=>aj7 a b w) (λw e a=>by
  obtain⟨c,t⟩:=a
  kernel_rfl) (λa=>by
  obtain⟨c,t⟩:=a;show((_ == _)&&((_&&(c == c))&&((t == t)&&true)))=true
  simp)
def FJ(r:Int):Int:=(if 16<(if 0>r then 0 else r) then 16 else(if 0>r then 0 else r))
def yL(l:List aH)(bJ c v sum:Int)(gH:List (BitVec 8)):List aH:=if 64<gH.length then l else if ¬ ((iV gH).toNat:Int)=sum then l else if(jY l ⟨c,v,sum,false,false⟩ bJ).2=0 then(jY l ⟨c,v,sum,false,false⟩ bJ).1 else l
def FK(l:List aH)(bJ c v sum:Int)(gH:List (BitVec 8))(B:ah)(d:Nat)(es:List (bV × Option Addr × Nat × List (BitVec 8))):List (bV × Option Addr × Nat × List (BitVec 8)):=if 64<gH.length then es else if ¬ ((iV gH).toNat:Int)=sum then es else if(jY l ⟨c,v,sum,false,false⟩ bJ).2=0 then gV ⟨c,true⟩ (B,d,gH) es else es
def Rb(l:List aH)(c v:Int):List aH:=if(lu l c v).2=0 then(lu l c v).1 else l
abbrev nJ:=List (bV × Option Addr × Nat × List (BitVec 8))
def Sj(l:List aH)(c v:Int)(es:nJ):nJ:=if(lu l c v).2=0 then nH ⟨c,true⟩ (gV ⟨c,false⟩ (fU ⟨c,true⟩ es) es) else es
def AJ(l:List aH)(c:Int):List aH:=if(oo l c).2=0 then(oo l c).1 else l
def M5(l:List aH)(c:Int)(es:nJ):nJ:=if(oo l c).2=0 then nH ⟨c,false⟩ es else es
def qw(l:List aH)(bJ c v sum:Int)(gH:List (BitVec 8)):Int:=if 64<gH.length then 7 else if ¬ ((iV gH).toNat:Int)=sum then 4 else(jY l ⟨c,v,sum,false,false⟩ bJ).2
theorem aaH{Av:ah}{nv cv:Nat}{u0 u1 u2:Value}(H0:Hp b S w (dJ mH 169 [u0,u1,u2]::F))(e:Int) :
    bO prog 249 #[fP mH,.slice Av nv cv,aD e] w λv w'=>v=aD e/\Hp b S w' (dJ mH 169 [u0,(if e=0 then .slice Av nv cv else u1),u2]::F):=by
 refine sF func249 ntmps249 Y<|iY Y<|aZ<|bQ Y<|ev (iP Y Y)<|dn<|kX Y (λhc8=>?_) (λhc8=>?_)
 ·refine jr<|mv Y<|mv Y<|ev (dS Y)<|wC mH 1 vv Y<|wD Y H0 s0 Y λw1 K1=>jv<|gB<|bQ Y<|bS Y<|iI Y ?_
  exact⟨Y,by rw [aO hc8]; exact K1⟩
 refine jh ?_;refine bQ Y<|bS Y<|iI Y ?_
 exact⟨Y,by rw [aK hc8]; exact H0⟩
abbrev aaI(gJ:Int):=if 16<(if 0>gJ then 0 else gJ) then 16 else(if 0>gJ then 0 else gJ)
theorem arz (H0:Hp b S w F)(bJ:Int) :
    bO prog 96 #[aD bJ] w λv w'=>∃(gs gm:Nat),v=fP gs/\Hp b S w' (dJ gs 169 [aD (FJ bJ),.slice none 0 0,.map (some gm)]::pz uT uh gm ([]:nJ)::fD gu 5 (([]:nJ).map Prod.snd)::F):=by
 refine sF func96 ntmps96 Y<|iY Y<|bQ Y<|ev (Ev.max2 Y Y)<|ev (Ev.min2 Y Y)<|mkA uT (uh (α:=BitVec 8)) H0 λg1 w1 K1=>?_
 have H1:=K1.abW gu 5;refine ev (iE (vs:=[(0,aD (aaI bJ)),(2,.map (some g1))]) (cs:=[aD (aaI bJ),.slice none 0 0,.map (some g1)]) Y (by apply aaG))<|bx rfl rfl H1 λg2 w2 K2=>bS rfl<|iI rfl ?_
 have d9:((aaI bJ):Int)=(FJ bJ):=by rfl
 exact⟨g2,g1,Y,by rw [<- d9]; exact((K2.sel s1).mV 1 2)⟩
abbrev o9:=bV × Option Addr × Nat × List (BitVec 8)
abbrev mg(gJ:Int):=(⟨gJ,true⟩:bV)
abbrev uN(gJ:List aH)(iK tF vP DI:Int):=jY gJ (⟨iK,tF,vP,false,false⟩:aH) DI
theorem aj8{Wh:ah}{Wi:Nat}{gH:List (BitVec 8)}{es:List o9}(H0:Hp b S w (dJ mH 169 [aD bJ,.slice A l.length c,.map (some gm)]::dP bf A c l::pz uT uh gm es::fD gu 5 (es.map Prod.snd)::dP gu Wh Wi gH::F))(aL:Int)(bM:Int)(sum:Int)(hl:l.length<=100000) :
    bO prog 179 #[fP mH,aD aL,aD bM,fT sum,.slice Wh gH.length Wi] w λv w'=>∃(A1:ah)(c1:Nat)(B1:ah)(d1:Nat),v=aD (qw l bJ aL bM sum gH)/\Hp b S w' (dJ mH 169 [aD bJ,.slice A1 ((yL l bJ aL bM sum gH).length) c1,.map (some gm)]::dP bf A1 c1 (yL l bJ aL bM sum gH)::pz uT uh gm (FK l bJ aL bM sum gH B1 d1 es)::fD gu 5 ((FK l bJ aL bM sum gH B1 d1 es).map Prod.snd)::F):=by
 refine sF func179 ntmps179 Y<|iY Y<|aZ<|cZ<|bQ Y<|ev (eY GV Y)<|ev (pJ Y Y)<|bS Y<|kX Y (λnQ=>?_) (λnQ=>?_)
 ·refine iY Y<|LA Y ?_
  have d9:(7:Int)=(qw l bJ aL bM sum gH):=by first | (unfold qw; rw [aO aj]; done) | (unfold yL; rw [aO aj]; done) | (unfold FK; rw [aO aj]; done) | (unfold qw; rw [aO aj])
  have fG:(l:List aH)=(yL l bJ aL bM sum gH):=by first | (unfold qw; rw [aO aj]; done) | (unfold yL; rw [aO aj]; done) | (unfold FK; rw [aO aj]; done) | (unfold qw; rw [aO aj])
  have jQ:(es:List o9)=(FK l bJ aL bM sum gH none 0 es):=by first | (unfold qw; rw [aO aj]; done) | (unfold yL; rw [aO aj]; done) | (unfold FK; rw [aO aj]; done) | (unfold qw; rw [aO aj])
  exact⟨A,c,none,0,by rw [<- d9] <;> rfl,by rw [<- fG,<- jQ]; exact(H0.rm s4)⟩
 refine bQ Y<|lF H0 Y (V9 _ (H0.s s4).any) λw1 K1=>mv Y<|ev (rz Y Y)<|bS Y<|bR Y (λhc16=>?_) (λhc16=>?_)
 ·replace hc16:=nS hc16;refine iY Y<|LA Y ?_
  have lV:(4:Int)=(qw l bJ aL bM sum gH):=by first | (unfold qw; rw [aK aj,aO hc16]; done) | (unfold yL; rw [aK aj,aO hc16]; done) | (unfold FK; rw [aK aj,aO hc16]; done) | (unfold qw; rw [aK aj,aO hc16])
  have qU:(l:List aH)=(yL l bJ aL bM sum gH):=by first | (unfold qw; rw [aK aj,aO hc16]; done) | (unfold yL; rw [aK aj,aO hc16]; done) | (unfold FK; rw [aK aj,aO hc16]; done) | (unfold qw; rw [aK aj,aO hc16])
  have vY:(es:List o9)=(FK l bJ aL bM sum gH none 0 es):=by first | (unfold qw; rw [aK aj,aO hc16]; done) | (unfold yL; rw [aK aj,aO hc16]; done) | (unfold FK; rw [aK aj,aO hc16]; done) | (unfold qw; rw [aK aj,aO hc16])
  exact⟨A,c,none,0,by rw [<- lV] <;> rfl,by rw [<- qU,<- vY]; exact(K1.rm s4)⟩
 replace hc16:=nT hc16;refine zF ?_;refine He K1 (λ_ K=>(K.rm s0)) (λl0 rk lJ wJ=>∃(jE:ah)(jB:Nat),lJ=(11,aD ((uN l aL bM sum bJ).2))::l0/\Hp b S wJ (dJ mH 169 [aD bJ,(if((uN l aL bM sum bJ).2)=0 then .slice jE (((uN l aL bM sum bJ).1).length) jB else .slice A l.length c),.map (some gm)]::aR bf 132 jE jB ((uN l aL bM sum bJ).1)::rk)) (λhns H1=>?_) ?_
 ·have k1:=(H1.rm s0);refine kT 0 Y Y k1<|sw 1 mH 1 vv Y k1<|kT 5 Y Y k1<|kT 6 Y Y k1<|kT 7 Y Y k1<|lH 8 Y (λ_ _=>iE (vs:=[(0,aD aL),(1,aD bM),(2,fT sum)]) (cs:=[aD aL,aD bM,fT sum,.bool false,.bool false]) Y (by apply Si)) k1<|sw 9 mH 0 an1 rfl k1<|Jn H1 (λl0 rk lJ wJ=>lJ=(25,.slice A l.length c)::(33,aD bJ)::l0/\Hp b S wJ rk) 5 8191 ?_ λhS1=>?_
  ·rintro _ w4 ⟨rfl,K4⟩;refine O1 13 Y<|gW Y (aj4 _ (K4.s s1).any (⟨aL,bM,sum,false,false⟩:aH) bJ aj) ?_
   rintro _ w5 ⟨xA,xB,rfl,h5⟩;have K5:=K4.f1 h5;have k4:=(K5.cU 0 2);refine aP k4<|yj 14 Y (vs:=[.slice xA (((uN l aL bM sum bJ).1).length) xB,aD ((uN l aL bM sum bJ).2)]) Y Y k4<|yj 15 Y (vs:=[.slice xA (((uN l aL bM sum bJ).1).length) xB,aD ((uN l aL bM sum bJ).2)]) Y Y k4<|O1 16 Y<|gW Y (aaH ((K5.sel s0).sel s1) ((uN l aL bM sum bJ).2)) ?_
   rintro _ w6 ⟨rfl,K6⟩;have k5:=(K6.cU 0 2);refine aP k5<|xJ 17 Y Y k5<|Dn ⟨xA,xB,Y,K6⟩ Y
  refine O2 4 12 Y Y ?_ ?_
  ·refine mK H1 s0 Y<|aP k1<|O1 12 Y<|mK H1 s0 Y<|Kj hS1 k1 ⟨Y,H1⟩ Y
  ·refine mK H1 s0 Y<|aP k1<|O1 4 Y<|mK H1 s0 Y<|Kj hS1 k1 ⟨Y,H1⟩ Y
 rintro _ w7 ⟨jE,jB,rfl,K7⟩;refine aZ<|bQ Y<|ev (iP Y Y)<|dn<|kX Y (λhc39=>?_) (λhc39=>?_)
 ·rw [aO hc39] at K7;refine Hf K7 (λ_ K=>((K.cU 3 2).cU 0 2)) (λl0 rk lJ wJ=>∃(oQ:ah)(cj2:Nat),lJ=l0/\Hp b S wJ (fD gu 5 ((gV (mg aL) (oQ,cj2,gH) es).map Prod.snd)::pz uT uh gm (gV (mg aL) (oQ,cj2,gH) es)::dJ mH 169 [aD bJ,.slice jE (((uN l aL bM sum bJ).1).length) jB,.map (some gm)]::aR bf 132 jE jB ((uN l aL bM sum bJ).1)::rk)) (λhns H2=>?_) ?_
  ·have k6:=((H2.cU 3 2).cU 0 2);refine sw 0 mH 2 wN Y k6<|kT 4 Y Y k6<|lH 5 Y (λ_ _=>iE (vs:=[(0,aD aL),(1,.bool true)]) (cs:=[aD aL,.bool true]) Y (by apply o8)) k6<|kT 6 rfl rfl k6<|Jn H2 (λl0 rk lJ wJ=>∃(E8:ah)(E9:Nat),lJ=(43,.map (some gm))::(47,.slice E8 gH.length E9)::l0/\Hp b S wJ (aR gu 5 E8 E9 gH::rk)) 1 255 ?_ λhS2=>?_
   ·rintro _ RG ⟨E8,E9,rfl,tO⟩;refine O1 8 Y ?_;have hn2:=(tO.mp s4).1;refine avF (z:=(mg aL)) (v:=(E8,E9,gH)) tO s4 uD Dr Y Y Y λQp rW=>?_;have H4:=rW.aaE hn2 s1 s4 (mg aL);have k10:=(H4.cU 0 4);refine aP k10<|Dn ⟨E8,E9,Y,H4⟩ Y
   refine O2 3 7 Y Y ?_ ?_
   ·refine mK H2 s0 Y<|aP k6<|O1 7 Y<|gW Y (GX _ (H2.s s5).any aj) ?_
    rintro _ WO ⟨ahj,ahk,rfl,h13⟩;have vC:=H2.f1 h13;have k11:=((vC.cU 4 2).cU 0 3);exact Kj hS2 k11 ⟨ahj,ahk,Y,vC⟩ Y
   ·refine gW Y (GX _ (H2.s s5).any aj) ?_;rintro _ Xv ⟨an2,an3,rfl,h14⟩;have vo:=H2.f1 h14;have k12:=((vo.cU 4 2).cU 0 3);refine aP k12<|O1 3 Y<|mK vo s1 Y<|Kj hS2 k12 ⟨an2,an3,Y,vo⟩ Y
  rintro _ Yg ⟨oQ,cj2,rfl,yX⟩;refine gB<|bQ Y<|bS Y<|iI Y ?_
  have xZ:(((uN l aL bM sum bJ).2):Int)=(qw l bJ aL bM sum gH):=by unfold qw; rw [aK aj,aK aj]
  have H5:=yX.fz s3;have hq8:((uN l aL bM sum bJ).1:List aH)=(yL l bJ aL bM sum gH):=by unfold yL; rw [aK aj,aK aj,aO hc39]
  have yT:((gV (mg aL) (oQ,cj2,gH) es):List o9)=(FK l bJ aL bM sum gH oQ cj2 es):=by unfold FK; rw [aK aj,aK aj,aO hc39]
  exact⟨jE,jB,oQ,cj2,by rw [<- xZ] <;> rfl,by rw [<- hq8,<- yT]; exact((((H5.cU 4 2).sel s1).mV 1 2).sel s3)⟩
 rw [aK hc39] at K7;refine jh ?_;refine bQ Y<|bS Y<|iI Y ?_
 have qI:(((uN l aL bM sum bJ).2):Int)=(qw l bJ aL bM sum gH):=by unfold qw; rw [aK aj,aK aj]
 have hq11:(l:List aH)=(yL l bJ aL bM sum gH):=by unfold yL; rw [aK aj,aK aj,aK hc39]
 have hq12:(es:List o9)=(FK l bJ aL bM sum gH none 0 es):=by unfold FK; rw [aK aj,aK aj,aK hc39]
 exact⟨A,c,none,0,by rw [<- qI] <;> rfl,by rw [<- hq11,<- hq12]; exact((K7.rm s5).rm s1)⟩
abbrev GY(gJ:Int):=(⟨gJ,false⟩:bV)
theorem agz{es:List o9}(H0:Hp b S w (dJ mH 169 [aD bJ,.slice A l.length c,.map (some gm)]::dP bf A c l::pz uT uh gm es::fD gu 5 (es.map Prod.snd)::F))(aL:Int)(bM:Int)(hl:l.length<=100000) :
    bO prog 180 #[fP mH,aD aL,aD bM] w λv w'=>∃(A1:ah)(c1:Nat),v=aD ((lu l aL bM).2)/\Hp b S w' (dJ mH 169 [aD bJ,.slice A1 ((Rb l aL bM).length) c1,.map (some gm)]::dP bf A1 c1 (Rb l aL bM)::pz uT uh gm (Sj l aL bM es)::fD gu 5 ((Sj l aL bM es).map Prod.snd)::F):=by
 refine sF func180 ntmps180 Y<|iY Y<|bQ Y<|mv Y<|ev (dS Y)<|jD mH 1 vv H0 s0 Y<|mv Y<|mv Y<|gW Y (agv _ (H0.s s1).any aL bM aj) ?_
 rintro _ w1 ⟨jK,jL,rfl,h1⟩;have K1:=H0.f1 h1;refine xt Y Y<|xt Y Y<|gW Y (aaH ((K1.sel s0).sel s1) ((lu l aL bM).2)) ?_
 rintro _ w2 ⟨rfl,K2⟩;refine bS Y<|aZ<|bQ Y<|ev (iP Y Y)<|dn<|kX Y (λkJ=>?_) (λkJ=>?_)
 ·rw [aO kJ] at K2;refine He K2 (λ_ K=>((K.cU 3 2).cU 0 2)) (λl0 rk lJ wJ=>lJ=l0/\Hp b S wJ (pz uT uh gm (gV (GY aL) ((fU (mg aL) es).1,(fU (mg aL) es).2.1,(fU (mg aL) es).2.2) es)::dJ mH 169 [aD bJ,.slice jK (((lu l aL bM).1).length) jL,.map (some gm)]::aR bf 132 jK jL ((lu l aL bM).1)::fD gu 5 (es.map Prod.snd)::rk)) (λhns H1=>?_) ?_
  ·have k1:=((H1.cU 3 2).cU 0 2);refine sw 0 mH 2 wN Y k1<|kT 4 Y Y k1<|lH 5 Y (λ_ _=>iE (vs:=[(0,aD aL),(1,.bool false)]) (cs:=[aD aL,.bool false]) Y (by apply o8)) k1<|sw 6 mH 2 wN rfl k1<|kT 10 rfl rfl k1<|lH 11 rfl (λ_ _=>iE (vs:=[(0,aD aL),(1,.bool true)]) (cs:=[aD aL,.bool true]) rfl (by apply o8)) k1<|Jn H1 (λl0 rk lJ wJ=>lJ=(24,.map (some gm))::(33,.slice ((fU (mg aL) es).1) (((fU (mg aL) es).2.2).length) ((fU (mg aL) es).2.1))::l0/\Hp b S wJ rk) 1 8191 ?_ λhS1=>?_
   ·rintro _ w4 ⟨rfl,K4⟩;refine O1 13 Y ?_;refine avF (z:=(GY aL)) (v:=((fU (mg aL) es).1,(fU (mg aL) es).2.1,(fU (mg aL) es).2.2)) K4 s3 uD Dr Y Y Y λw5 K5=>?_;have k3:=((K5.rm s4).cU 0 3);refine aP k3<|Dn ⟨Y,((K5.sel s3).mV 1 4)⟩ Y
   refine Jn H1 (λl0 rk lJ wJ=>lJ=(24,.map (some gm))::(30,.map (some gm))::l0/\Hp b S wJ rk) 2 4095 ?_ λhS2=>?_
   ·rintro _ w6 ⟨rfl,K6⟩;refine O1 12 Y<|ev (Ev.adW (z:=(mg aL)) K6 s3 uD Dr KG Y Y) ?_
    have k4:=((K6.cU 3 2).cU 0 2);exact Kj hS1 k4 ⟨Y,K6⟩ Y
   refine O2 3 9 Y Y ?_ ?_
   ·refine mK H1 s0 Y<|aP k1<|O1 9 Y<|mK H1 s0 Y<|Kj hS2 k1 ⟨Y,H1⟩ Y
   ·refine mK H1 s0 Y<|aP k1<|O2 3 12 Y Y ?_ ?_
    ·refine mK H1 s0 Y<|Kj hS2 k1 ⟨Y,H1⟩ Y
    ·refine ev (Ev.adW (z:=(mg aL)) H1 s3 uD Dr KG Y Y)<|aP k1<|O1 3 Y<|mK H1 s0 Y<|Kj hS1 k1 ⟨Y,H1⟩ Y
  rintro _ w7 ⟨rfl,K7⟩;refine jr<|mv Y<|ev (dS Y)<|jD mH 2 wN K7 s1 Y<|mv Y<|ev (iE (vs:=[(0,aD aL),(1,.bool true)]) (cs:=[aD aL,.bool true]) Y (by apply o8)) ?_
  have hn3:=V7 (K7.mp s0).1;refine avG (z:=(mg aL)) K7 s0 uD Dr Y Y λw8 K8=>?_;have H2:=K8.anW (k2:=(GY aL)) (k:=(mg aL)) hn3 s3 (by intro h; cases h);refine jv<|gB<|bQ Y<|bS Y<|iI Y ?_
  have H3:=H2.fz s3;have d9:((lu l aL bM).1:List aH)=(Rb l aL bM):=by first | (unfold Rb; rw [aO kJ]; done) | (unfold Sj; rw [aO kJ])
  have fG:((nH (mg aL) (gV (GY aL) ((fU (mg aL) es).1,(fU (mg aL) es).2.1,(fU (mg aL) es).2.2) es)):List o9)=(Sj l aL bM es):=by first | (unfold Rb; rw [aO kJ]; done) | (unfold Sj; rw [aO kJ])
  exact⟨jK,jL,Y,by rw [<- d9,<- fG]; exact((((H3.rm s4).sel s1).mV 1 2).sel s3)⟩
 rw [aK kJ] at K2;refine jh ?_;refine bQ Y<|bS Y<|iI Y ?_
 have jQ:(l:List aH)=(Rb l aL bM):=by first | (unfold Rb; rw [aK kJ]; done) | (unfold Sj; rw [aK kJ])
 have lV:(es:List o9)=(Sj l aL bM es):=by first | (unfold Rb; rw [aK kJ]; done) | (unfold Sj; rw [aK kJ])
 exact⟨A,c,Y,by rw [<- jQ,<- lV]; exact(K2.rm s1)⟩
theorem Wj{es:List o9}(H0:Hp b S w (dJ mH 169 [aD bJ,.slice A l.length c,.map (some gm)]::dP bf A c l::pz uT uh gm es::fD gu 5 (es.map Prod.snd)::F))(aL:Int)(hl:l.length<=100000) :
    bO prog 165 #[fP mH,aD aL] w λv w'=>∃(A1:ah)(c1:Nat),v=aD ((oo l aL).2)/\Hp b S w' (dJ mH 169 [aD bJ,.slice A1 ((AJ l aL).length) c1,.map (some gm)]::dP bf A1 c1 (AJ l aL)::pz uT uh gm (M5 l aL es)::fD gu 5 ((M5 l aL es).map Prod.snd)::F):=by
 refine sF func165 ntmps165 Y<|iY Y<|bQ Y<|mv Y<|ev (dS Y)<|jD mH 1 vv H0 s0 Y<|mv Y<|gW Y (aro _ (H0.s s1).any aL aj) ?_
 rintro _ w1 ⟨jK,jL,rfl,h1⟩;have K1:=H0.f1 h1;refine xt Y Y<|xt Y Y<|gW Y (aaH ((K1.sel s0).sel s1) ((oo l aL).2)) ?_
 rintro _ w2 ⟨rfl,K2⟩;refine bS Y<|aZ<|bQ Y<|ev (iP Y Y)<|dn<|kX Y (λhc17=>?_) (λhc17=>?_)
 ·rw [aO hc17] at K2;refine jr<|mv Y<|ev (dS Y)<|jD mH 2 wN K2 s0 Y<|mv Y<|ev (iE (vs:=[(0,aD aL),(1,.bool false)]) (cs:=[aD aL,.bool false]) Y (by apply o8))<|avG (z:=(GY aL)) K2 s3 uD Dr rfl rfl λw3 K3=>?_
  have H1:=K3.ahR s4 (GY aL);refine jv<|gB<|bQ Y<|bS Y<|iI Y ?_
  have H2:=H1.fz s3;have d9:((oo l aL).1:List aH)=(AJ l aL):=by first | (unfold AJ; rw [aO hc17]; done) | (unfold M5; rw [aO hc17])
  have fG:((nH (GY aL) es):List o9)=(M5 l aL es):=by first | (unfold AJ; rw [aO hc17]; done) | (unfold M5; rw [aO hc17])
  exact⟨jK,jL,Y,by rw [<- d9,<- fG]; exact((((H2.rm s4).sel s1).mV 1 2).sel s3)⟩
 rw [aK hc17] at K2;refine jh ?_;refine bQ Y<|bS Y<|iI Y ?_
 have jQ:(l:List aH)=(AJ l aL):=by first | (unfold AJ; rw [aK hc17]; done) | (unfold M5; rw [aK hc17])
 have lV:(es:List o9)=(M5 l aL es):=by first | (unfold AJ; rw [aK hc17]; done) | (unfold M5; rw [aK hc17])
 exact⟨A,c,Y,by rw [<- jQ,<- lV]; exact(K2.rm s1)⟩
theorem aj9{es:List o9}(H0:Hp b S w (dJ mH 169 [aD bJ,.slice A l.length c,.map (some gm)]::dP bf A c l::pz uT uh gm es::fD gu 5 (es.map Prod.snd)::F))(aL:Int)(hl:l.length<=100000) :
    bO prog 192 #[fP mH,aD aL] w λv w'=>∃(A1:ah)(c1:Nat),v=.tuple #[]/\Hp b S w' (dJ mH 169 [aD bJ,.slice A1 ((Dp l aL).length) c1,.map (some gm)]::dP bf A1 c1 (Dp l aL)::pz uT uh gm (nH ⟨aL,true⟩ es)::fD gu 5 ((nH ⟨aL,true⟩ es).map Prod.snd)::F):=by
 refine sF func192 ntmps192 Y<|bQ Y<|mv Y<|ev (dS Y)<|jD mH 1 vv H0 s0 Y<|mv Y<|gW Y (aj3 _ (H0.s s1).any aL aj) ?_
 rintro _ w1 ⟨jK,jL,rfl,h1⟩;have K1:=H0.f1 h1;refine ev (dS Y)<|wC mH 1 vv Y<|wD Y K1 s1 Y λw2 K2=>dn<|jr<|mv Y<|ev (dS Y)<|jD mH 2 wN K2 s0 Y<|mv Y<|ev (iE (vs:=[(0,aD aL),(1,.bool true)]) (cs:=[aD aL,.bool true]) Y (by apply o8))<|avG (z:=(mg aL)) K2 s3 uD Dr rfl rfl λw3 K3=>?_
 have H1:=K3.ahR s4 (mg aL);refine jv<|qA (zD Y ?_)
 have H2:=H1.fz s3;have d9:((nH (mg aL) es):List o9)=(nH ⟨aL,true⟩ es):=by rfl
 exact⟨jK,jL,Y,by rw [<- d9]; exact((((H2.rm s4).sel s1).mV 1 2).sel s3)⟩
theorem an4{es:List o9}(H0:Hp b S w (dJ mH 169 [aD bJ,.slice A l.length c,.map (some gm)]::dP bf A c l::pz uT uh gm es::fD gu 5 (es.map Prod.snd)::F))  :
    bO prog 115 #[fP mH] w λv w'=>v=.tuple #[]/\Hp b S w' (dJ mH 169 [aD bJ,.slice none (([]:List aH).length) 0,.map (some gm)]::dP bf none 0 ([]:List aH)::pz uT uh gm ([]:nJ)::fD gu 5 (([]:nJ).map Prod.snd)::F):=by
 refine sF func115 ntmps115 Y<|bQ Y<|ev (dS Y)<|wC mH 1 vv Y<|wD Y H0 s0 Y λw1 K1=>dn<|jr<|mv Y<|ev (dS Y)<|jD mH 2 wN K1 s0 Y<|aDW K1 s2 Dr Y λw2 K2=>?_
 have H1:=K2.ahQ s3 (List.nil_sublist _);refine jv<|qA (zD Y ?_)
 have H2:=H1.push (Cb bf _ _);exact⟨Y,((((H2.rm s4).sel s1).mV 1 2).sel s3)⟩
theorem arA{es:List o9}(H0:Hp b S w (dJ mH 169 [aD bJ,.slice A l.length c,.map (some gm)]::dP bf A c l::pz uT uh gm es::fD gu 5 (es.map Prod.snd)::F))  :
    bO prog 93 #[fP mH] w λv w'=>v=aD ((l.length:Nat):Int)/\Hp b S w' (dJ mH 169 [aD bJ,.slice A l.length c,.map (some gm)]::dP bf A c l::pz uT uh gm es::fD gu 5 (es.map Prod.snd)::F):=by
 refine sF func93 ntmps93 Y<|iY Y<|bQ Y<|ev (dS Y)<|jD mH 1 vv H0 s0 Y<|ev (eY jo Y)<|bS Y<|iI Y ?_
 exact⟨Y,H0⟩
theorem M6{es:List o9}(H0:Hp b S w (dJ mH 169 [aD bJ,.slice A l.length c,.map (some gm)]::dP bf A c l::pz uT uh gm es::fD gu 5 (es.map Prod.snd)::F))(hl:l.length<=100000) :
    bO prog 81 #[fP mH] w λv w'=>∃(A0:ah)(c0:Nat),v=.slice A0 ((eT l).length) c0/\Hp b S w' (aR bf 132 A0 c0 (eT l)::dJ mH 169 [aD bJ,.slice A l.length c,.map (some gm)]::dP bf A c l::pz uT uh gm es::fD gu 5 (es.map Prod.snd)::F):=by
 refine sF func81 ntmps81 Y<|iY Y<|bQ Y<|ev (dS Y)<|jD mH 1 vv H0 s0 Y<|gW Y (adT _ (H0.s s1).any aj) ?_
 rintro _ w1 ⟨jK,jL,rfl,h1⟩;have K1:=H0.f1 h1;refine bS Y<|iI Y ?_
 exact⟨jK,jL,Y,K1⟩
def adY(s:List aH × nJ)(x:aH):List aH × nJ:=if x.fO=true then(Dp s.1 x.aB,nH ⟨x.aB,true⟩ s.2) else s
def pX(l:List aH)(es:nJ)(k:Nat):List aH × nJ:=(l.take k).foldl adY (l,es)
theorem GZ{es:nJ}{k:Nat}(hx:l[k]? = some x)(ht:x.fO=true):pX l es (k+1)=(Dp (pX l es k).1 x.aB,nH ⟨x.aB,true⟩ (pX l es k).2):=by
  unfold pX; rw [fI hx,xD];show adY _ x=_;unfold adY; rw [aO ht]
theorem M7{es:nJ}{k:Nat}(hx:l[k]? = some x)(ht:x.fO=false):pX l es (k+1)=pX l es k:=by
  unfold pX; rw [fI hx,xD];show adY _ x=_;unfold adY; rw [aK (by rw [ht]; decide)]
theorem agA(l:List aH)(c:Int):(Dp l c).length<=l.length:=lG (lX _ _) (vI l)
theorem adZ(l:List aH)(es:nJ):∀ k,(pX l es k).1.length<=l.length
  | 0=>kH _
  | k+1=>by
    have h:=adZ l es k
    rcases Nr k l.length with hk | hk
    · obtain⟨x,hx⟩:=bC hk
      cases ht:x.fO with
      | true=>rw [GZ hx ht]; exact lG (agA _ _) h
      | false=>rw [M7 hx ht]; exact h
    · unfold pX at h ⊢
      rw [iD aj] at h ⊢; exact h
def uj(bit:Int)(n:Nat):Nat:=(if 0>bit then(0:Int) else bit).toNat % (8*n)
def arB(xs:List (BitVec 8))(b:Nat):List (BitVec 8):=xs.set (b / 8) (xs.getD (b / 8) 0#8 ^^^ (1#8 <<< (b % 8)))
def O9(c bit:Int)(es:nJ):nJ:=if(fU ⟨c,false⟩ es).2.2.length=0 then es else gV ⟨c,false⟩ ((fU ⟨c,false⟩ es).1,(fU ⟨c,false⟩ es).2.1,arB (fU ⟨c,false⟩ es).2.2 (uj bit (fU ⟨c,false⟩ es).2.2.length)) es
theorem ad1{es:List o9}(H0:Hp b S w (dJ mH 169 [aD bJ,.slice A l.length c,.map (some gm)]::dP bf A c l::pz uT uh gm es::fD gu 5 (es.map Prod.snd)::F))(hl:l.length<=100000) :
    bO prog 112 #[fP mH] w λv w'=>∃(A1:ah)(c1:Nat),v=.tuple #[]/\Hp b S w' (dJ mH 169 [aD bJ,.slice A1 (((pX l es l.length).1).length) c1,.map (some gm)]::dP bf A1 c1 ((pX l es l.length).1)::pz uT uh gm ((pX l es l.length).2)::fD gu 5 (((pX l es l.length).2).map Prod.snd)::F):=by
 refine sF func112 ntmps112 Y ?_;have H1:=H0.push (H0.s s1);refine bQ Y<|ev (dS Y)<|jD mH 1 vv H1 s1 Y<|ev (eY jo Y)<|mv Y<|dn<|cZ ?_
 have d9:(l:List aH)=(pX l es 0).1:=by rfl
 rw [d9] at H1;have fG:(.slice A l.length c:Value)=.slice A (((pX l es 0).1).length) c:=by rfl
 try rw [fG] at H1
 have jQ:es=(pX l es 0).2:=by rfl
 rw [jQ] at H1;refine Lp ((H1.cU 3 2).cU 0 2) (λl0 rk mJ lJ wJ=>∃(k:Nat)(A1:ah)(c1:Nat),lJ=(9,aD ((k:Nat):Int))::l0/\mJ=l.length - k/\k<=l.length/\Hp b S wJ (dP bf A1 c1 ((pX l es k).1)::dJ mH 169 [aD bJ,.slice A1 (((pX l es k).1).length) c1,.map (some gm)]::pz uT uh gm ((pX l es k).2)::fD gu 5 (((pX l es k).2).map Prod.snd)::rk)) ⟨0,A,c,Y,Y,fK _,((H1.sel s2).mV 1 4)⟩ Y ?_;rintro _ _ w1 ⟨k,A1,c1,rfl,rfl,hk,K1⟩;refine rg<|ev (fB Y Y)<|dn<|oC Y (λZx=>?_) (λZx=>?_)
 ·refine jh ?_;refine aZ<|cZ<|rg ?_
  obtain⟨x1,bP⟩:=bC (xs:=l) (i:=k) aj;refine ev (eU (i:=k) jo lQ Y Y Y (aJ bP) ((K1.s s4).some_ bP))<|ev (fV oF Y Y ((K1.s s4).eX bP))<|al yK Y K1 λg1 w2 K2=>sty Y K2 s0 Y λw3 K3=>dn<|rg<|jD g1 3 ug K3 s0 Y<|dn<|bR Y (λtC=>?_) (λtC=>?_)
  ·have hrl:=adZ l es k;refine jr<|mv Y<|jD g1 0 lZ K3 s0 Y<|gW Y (aj9 ((((K3.sel s0).mV 3 2).sel s3).sel s4) x1.aB aj) ?_
   rintro _ w4 ⟨avQ,avR,rfl,K4⟩;refine jv<|ig (gB ?_)
   refine jr<|ev (dW Y Y)<|mv Y<|jv ?_
   have lV:((Dp ((pX l es k).1) x1.aB):List aH)=(pX l es (k+1)).1:=by first | rw [GZ bP tC] | rw [M7 bP tC]
   rw [lV] at K4;have qU:(.slice avQ ((Dp ((pX l es k).1) x1.aB).length) avR:Value)=.slice avQ (((pX l es (k+1)).1).length) avR:=by first | rw [GZ bP tC] | rw [M7 bP tC]
   try rw [qU] at K4
   have vY:(nH ⟨x1.aB,true⟩ ((pX l es k).2))=(pX l es (k+1)).2:=by first | rw [GZ bP tC] | rw [M7 bP tC]
   rw [vY] at K4;exact dQ ⟨(k+1),avQ,avR,Y,Y,aj,(((K4.rm s4).sel s0).sel s1)⟩ rfl aj
  refine zF ?_;refine jr<|ev (dW Y Y)<|mv Y<|jv ?_
  have xZ:((pX l es k).1:List aH)=(pX l es (k+1)).1:=by first | rw [GZ bP tC] | rw [M7 bP tC]
  rw [xZ] at K3;have hq8:(.slice A1 (((pX l es k).1).length) c1:Value)=.slice A1 (((pX l es (k+1)).1).length) c1:=by first | rw [GZ bP tC] | rw [M7 bP tC]
  try rw [hq8] at K3
  have yT:(pX l es k).2=(pX l es (k+1)).2:=by first | rw [GZ bP tC] | rw [M7 bP tC]
  rw [yT] at K3;exact dQ ⟨(k+1),A1,c1,Y,Y,aj,(K3.rm s0)⟩ rfl aj
 refine uU (oz (oz (vK (qA (zD Y ?_)))));have qI:((pX l es k).1:List aH)=((pX l es l.length).1):=by rw [show k=l.length from by omega]
 have hq11:((pX l es k).2:List o9)=((pX l es l.length).2):=by rw [show k=l.length from by omega]
 exact⟨A1,c1,Y,by rw [<- qI,<- hq11]; exact(((K1.rm s4).sel s0).sel s1)⟩
theorem akb{es:List (bV × Option Addr × Nat × List (BitVec 8))}(H0:Hp b S w (dJ mH 169 [aD bJ,.slice A l.length c,.map (some gm)]::dP bf A c l::pz uT uh gm es::fD gu 5 (es.map Prod.snd)::F))(aL:Int)(bit:Int)(hb:(fU ⟨aL,false⟩ es).2.2.length<=1000)(hi:uJ bit) :
    bO prog 114 #[fP mH,aD aL,aD bit] w λv w'=>v=aD (if(fU ⟨aL,false⟩ es).2.2.length=0 then 5 else 0)/\Hp b S w' (dJ mH 169 [aD bJ,.slice A l.length c,.map (some gm)]::dP bf A c l::pz uT uh gm (O9 aL bit es)::fD gu 5 ((O9 aL bit es).map Prod.snd)::F):=by
 refine sF func114 ntmps114 Y ?_;have hi2:bit<=9223372036854775807:=hi.2;have hi3:(if 0>bit then(0:Int) else bit).toNat<=9223372036854775807:=by split <;> omega
 refine iY Y<|bQ Y<|ev (dS Y)<|jD mH 2 wN H0 s0 Y<|mv Y<|ev (iE (vs:=[(0,aD aL),(1,.bool false)]) (cs:=[aD aL,.bool false]) Y (by apply o8))<|ev (Ev.adW (z:=(⟨aL,false⟩:bV)) H0 s2 uD Dr KG rfl rfl)<|bS rfl<|aZ<|bQ rfl<|ev (eY GV rfl)<|ev (iP rfl rfl)<|dn<|kX rfl (λhc17=>?_) (λhc17=>?_)
 ·refine iY Y<|vG Y ?_
  have d9:(5:Int)=(if(fU ⟨aL,false⟩ es).2.2.length=0 then 5 else 0):=by rw [aO aj]
  have fG:(es:List (bV × Option Addr × Nat × List (BitVec 8)))=(O9 aL bit es):=by unfold O9; rw [aO aj]
  exact⟨by rw [<- d9] <;> rfl,by rw [<- fG]; exact H0⟩
 have hlt:=Nat.mod_lt (if 0>bit then(0:Int) else bit).toNat (y:=8*(fU (⟨aL,false⟩:bV) es).2.2.length) aj;have hsb:uj bit (fU (⟨aL,false⟩:bV) es).2.2.length<8*(fU (⟨aL,false⟩:bV) es).2.2.length:=hlt;refine jh ?_;refine bQ Y<|ev (Ev.max2 Y Y)<|fJ (t:=19) Y (aS (Value.int .i64) (show((if 0>bit then 0 else bit):Int)=(((if 0>bit then(0:Int) else bit).toNat:Nat):Int) by split <;> omega))<|mv rfl<|ev (eY GV rfl)<|ev (Ev.mul rfl rfl (vM aj aj))<|ev (Ev.ay6 (a:=(if 0>bit then(0:Int) else bit).toNat) (c:=8*((fU (⟨aL,false⟩:bV) es).2.2).length) rfl rfl rfl aj aj)<|fJ (t:=23) rfl (aS (Value.int .i64) (show(((((if 0>bit then(0:Int) else bit).toNat) % (8*((fU (⟨aL,false⟩:bV) es).2.2).length):Nat):Int):Int)=((uj bit (fU (⟨aL,false⟩:bV) es).2.2.length:Nat):Int) by rfl))<|bS rfl ?_
 obtain⟨j,hj⟩:=aru (k:=(⟨aL,false⟩:bV)) (es:=es) aj;have H1:=H0.avI s3 hj;obtain⟨x1,bP⟩:=bC (xs:=(fU (⟨aL,false⟩:bV) es).2.2) (i:=(uj bit (fU (⟨aL,false⟩:bV) es).2.2.length) / 8) aj;refine He H1 (λ_ K=>((K.rm s4).cU 0 3)) (λl0 rk lJ wJ=>lJ=(7,.slice ((fU (⟨aL,false⟩:bV) es).1) ((((fU (⟨aL,false⟩:bV) es).2.2).set ((uj bit (fU (⟨aL,false⟩:bV) es).2.2.length) / 8) (x1 ^^^ (1#8 <<< ((uj bit (fU (⟨aL,false⟩:bV) es).2.2.length) % 8)))).length) ((fU (⟨aL,false⟩:bV) es).2.1))::(14,.slice ((fU (⟨aL,false⟩:bV) es).1) ((((fU (⟨aL,false⟩:bV) es).2.2).set ((uj bit (fU (⟨aL,false⟩:bV) es).2.2.length) / 8) (x1 ^^^ (1#8 <<< ((uj bit (fU (⟨aL,false⟩:bV) es).2.2.length) % 8)))).length) ((fU (⟨aL,false⟩:bV) es).2.1))::(15,.slice ((fU (⟨aL,false⟩:bV) es).1) ((((fU (⟨aL,false⟩:bV) es).2.2).set ((uj bit (fU (⟨aL,false⟩:bV) es).2.2.length) / 8) (x1 ^^^ (1#8 <<< ((uj bit (fU (⟨aL,false⟩:bV) es).2.2.length) % 8)))).length) ((fU (⟨aL,false⟩:bV) es).2.1))::(20,.slice ((fU (⟨aL,false⟩:bV) es).1) ((((fU (⟨aL,false⟩:bV) es).2.2).set ((uj bit (fU (⟨aL,false⟩:bV) es).2.2.length) / 8) (x1 ^^^ (1#8 <<< ((uj bit (fU (⟨aL,false⟩:bV) es).2.2.length) % 8)))).length) ((fU (⟨aL,false⟩:bV) es).2.1))::l0/\Hp b S wJ (aR gu 5 ((fU (⟨aL,false⟩:bV) es).1) ((fU (⟨aL,false⟩:bV) es).2.1) (((fU (⟨aL,false⟩:bV) es).2.2).set ((uj bit (fU (⟨aL,false⟩:bV) es).2.2.length) / 8) (x1 ^^^ (1#8 <<< ((uj bit (fU (⟨aL,false⟩:bV) es).2.2.length) % 8))))::fD gu 5 ((es.map Prod.snd).eraseIdx j)::dJ mH 169 [aD bJ,.slice A l.length c,.map (some gm)]::pz uT uh gm es::rk)) (λhns H2=>?_) ?_
 ·have k1:=((H2.rm s4).cU 0 3);refine kT 0 Y Y k1<|kT 1 Y Y k1<|lH 2 Y (λ_ _=>Ev.aDR (a:=uj bit (fU (⟨aL,false⟩:bV) es).2.2.length) (c:=8) Y Y Y aj aj) k1<|kT 5 Y Y k1<|lH 6 Y (λ_ _=>Ev.ay6 (a:=uj bit (fU (⟨aL,false⟩:bV) es).2.2.length) (c:=8) Y Y Y aj aj) k1<|lH 7 Y (λ_ _=>Ev.aDQ (a:=1#8) (c:=(uj bit (fU (⟨aL,false⟩:bV) es).2.2.length) % 8) Y Y aj) k1<|O1 3 Y<|ev (eU (i:=(uj bit (fU (⟨aL,false⟩:bV) es).2.2.length) / 8) GV arw Y Y Y (aJ bP) ((H2.o s0).some_ bP))<|aP k1<|O1 4 Y<|ev (jq azh Y ((H2.o s0).fZ (j:=0) bP Y))<|aP k1<|lH 8 Y (λ_ _=>Ev.aDP (a:=x1) (b:=(1#8 <<< ((uj bit (fU (⟨aL,false⟩:bV) es).2.2.length) % 8))) Y Y) k1<|O1 9 Y<|ev (eU (i:=(uj bit (fU (⟨aL,false⟩:bV) es).2.2.length) / 8) GV arw Y Y Y (aJ bP) ((H2.o s0).some_ bP))<|aP k1<|O1 10 Y<|se (i:=(uj bit (fU (⟨aL,false⟩:bV) es).2.2.length) / 8) (f:=0) (x:=x1) (x':=(x1 ^^^ (1#8 <<< ((uj bit (fU (⟨aL,false⟩:bV) es).2.2.length) % 8)))) (ds:=[.int .u8 (((x1 ^^^ (1#8 <<< ((uj bit (fU (⟨aL,false⟩:bV) es).2.2.length) % 8)))).toNat:Int)]) H2 s0 Y Y Y bP Y arw (oJ Y) Y (by rintro _ _ _ ⟨⟩; rfl) λw1 K1=>?_
  have hl1:(((fU (⟨aL,false⟩:bV) es).2.2).set ((uj bit (fU (⟨aL,false⟩:bV) es).2.2.length) / 8) (x1 ^^^ (1#8 <<< ((uj bit (fU (⟨aL,false⟩:bV) es).2.2.length) % 8)))).length=((fU (⟨aL,false⟩:bV) es).2.2).length:=fQ ..;refine fJ (t:=14) (u:=.slice ((fU (⟨aL,false⟩:bV) es).1) (((fU (⟨aL,false⟩:bV) es).2.2).length) ((fU (⟨aL,false⟩:bV) es).2.1)) (v:=.slice ((fU (⟨aL,false⟩:bV) es).1) ((((fU (⟨aL,false⟩:bV) es).2.2).set ((uj bit (fU (⟨aL,false⟩:bV) es).2.2.length) / 8) (x1 ^^^ (1#8 <<< ((uj bit (fU (⟨aL,false⟩:bV) es).2.2.length) % 8)))).length) ((fU (⟨aL,false⟩:bV) es).2.1)) Y (by rw [hl1])<|fJ (t:=7) (u:=.slice ((fU (⟨aL,false⟩:bV) es).1) (((fU (⟨aL,false⟩:bV) es).2.2).length) ((fU (⟨aL,false⟩:bV) es).2.1)) (v:=.slice ((fU (⟨aL,false⟩:bV) es).1) ((((fU (⟨aL,false⟩:bV) es).2.2).set ((uj bit (fU (⟨aL,false⟩:bV) es).2.2.length) / 8) (x1 ^^^ (1#8 <<< ((uj bit (fU (⟨aL,false⟩:bV) es).2.2.length) % 8)))).length) ((fU (⟨aL,false⟩:bV) es).2.1)) rfl (by rw [hl1])<|fJ (t:=15) (u:=.slice ((fU (⟨aL,false⟩:bV) es).1) (((fU (⟨aL,false⟩:bV) es).2.2).length) ((fU (⟨aL,false⟩:bV) es).2.1)) (v:=.slice ((fU (⟨aL,false⟩:bV) es).1) ((((fU (⟨aL,false⟩:bV) es).2.2).set ((uj bit (fU (⟨aL,false⟩:bV) es).2.2.length) / 8) (x1 ^^^ (1#8 <<< ((uj bit (fU (⟨aL,false⟩:bV) es).2.2.length) % 8)))).length) ((fU (⟨aL,false⟩:bV) es).2.1)) rfl (by rw [hl1])<|fJ (t:=20) (u:=.slice ((fU (⟨aL,false⟩:bV) es).1) (((fU (⟨aL,false⟩:bV) es).2.2).length) ((fU (⟨aL,false⟩:bV) es).2.1)) (v:=.slice ((fU (⟨aL,false⟩:bV) es).1) ((((fU (⟨aL,false⟩:bV) es).2.2).set ((uj bit (fU (⟨aL,false⟩:bV) es).2.2.length) / 8) (x1 ^^^ (1#8 <<< ((uj bit (fU (⟨aL,false⟩:bV) es).2.2.length) % 8)))).length) ((fU (⟨aL,false⟩:bV) es).2.1)) rfl (by rw [hl1]) ?_
  refine fJ (t:=24) (u:=.slice ((fU (⟨aL,false⟩:bV) es).1) (((fU (⟨aL,false⟩:bV) es).2.2).length) ((fU (⟨aL,false⟩:bV) es).2.1)) (v:=.slice ((fU (⟨aL,false⟩:bV) es).1) ((((fU (⟨aL,false⟩:bV) es).2.2).set ((uj bit (fU (⟨aL,false⟩:bV) es).2.2.length) / 8) (x1 ^^^ (1#8 <<< ((uj bit (fU (⟨aL,false⟩:bV) es).2.2.length) % 8)))).length) ((fU (⟨aL,false⟩:bV) es).2.1)) Y (by rw [hl1]) ?_;have k2:=((K1.rm s4).cU 0 3);refine aP k2<|Dn ⟨Y,((K1.sel s3).mV 1 4)⟩ Y
 rintro _ w2 ⟨rfl,K2⟩;have H3:=K2.aza hj av s0 s0 s1;refine iY Y<|iI Y ?_
 have jQ:(0:Int)=(if(fU ⟨aL,false⟩ es).2.2.length=0 then 5 else 0):=by rw [aK aj]
 have lV:((gV (⟨aL,false⟩:bV) ((fU (⟨aL,false⟩:bV) es).1,(fU (⟨aL,false⟩:bV) es).2.1,(((fU (⟨aL,false⟩:bV) es).2.2).set ((uj bit (fU (⟨aL,false⟩:bV) es).2.2.length) / 8) (x1 ^^^ (1#8 <<< ((uj bit (fU (⟨aL,false⟩:bV) es).2.2.length) % 8))))) es):List (bV × Option Addr × Nat × List (BitVec 8)))=(O9 aL bit es):=by unfold O9 arB; rw [aK aj,arv bP]
 exact⟨by rw [<- jQ] <;> rfl,by rw [<- lV]; exact((H3.mV 0 2).mV 2 2)⟩
def reqs(bT:Array Oper)(i:Nat):List Nat:=match bT[i]? with
  | some o=>(o.after.toList.filter λe=>Region.binds .any e).map (·.on)
  | none=>[]
def akc(bT:Array Oper)(ids:List Nat)(full:Array Bool):Bool:=
  (nodupB ids&&(full.size == bT.size&&(List.range bT.size).all λi=>full.getD i false == ids.contains i))&&((ids.all λi=>decide (i<bT.size)&&(reqs bT i).all λj=>decide (j<i)&&ids.contains j)&&
  ((List.range bT.size).all λr=>ids.contains r||((reqs bT r).any (λj=>!ids.contains j)||ids.all λi=>(reqs bT r).contains i||ids.any λj=>(reqs bT j).contains i)))
theorem G5(hs:aT.size=bT.size)(i:Nat):i∈Region.ready .any bT aT↔i<bT.size/\aT.getD i false=false/\∀ j∈reqs bT i,aT.getD j false=true:=by
  rw [mem_ready]
  by_cases hi:i<bT.size
  · have h1:aT.getD i true=aT.getD i false:=by
      rw [BX,BX,IV aj]; rfl
    have h2:bT[i]? = some bT[i]:=IV hi;rw [h1]
    constructor
    · rintro⟨h3,o,h4,h5⟩
      refine⟨hi,h3,λj hj=>?_⟩;unfold reqs at hj;rw [h4] at hj;obtain⟨e,he,rfl⟩:=jI.1 hj;obtain⟨he1,he2⟩:=zk.1 he;exact h5 e (by simpa using he1) he2
    · rintro⟨_,h3,h5⟩
      refine⟨h3,bT[i],h2,λe he hb=>h5 e.on ?_⟩;unfold reqs;rw [h2];exact jI.2 ⟨e,zk.2 ⟨by simpa using he,hb⟩,rfl⟩
  · constructor
    · rintro⟨_,o,h4,_⟩
      exact absurd (uZ.1 h4).1 hi
    · rintro⟨h,_⟩; exact absurd h hi
theorem Wm:∀ {l:List Nat},nodupB l=true->l.Nodup
  | [],_=>List.nodup_nil
  | x::l,h=>by
    simp only [nodupB,bK,eu] at h
    exact M4.2 ⟨λhm=>(by rw [sU.2 hm] at h; cases h.1),Wm h.2⟩
theorem FL{r i:Nat}(hr:r<aT.size):(aT.setIfInBounds r true).getD i false=if i=r then true else aT.getD i false:=by
  rw [BX,BX,Array.getElem?_setIfInBounds]
  by_cases h:r=i
  · subst h; simp [hr]
  · rw [aK h,aK (λe=>h e.symm)]
theorem arC{l:List Nat}{r:Nat}(hn:l.Nodup)(hr:r∈l)(hs:r<aT.size)(hu:aT.getD r false=false) :
    (l.filter λi=>!(aT.setIfInBounds r true).getD i false).length+1=(l.filter λi=>!aT.getD i false).length:=by
  induction l with
  | nil=>cases hr
  | cons x l ih=>
    obtain⟨h1,h2⟩:=M4.1 hn
    rcases iN.1 hr with rfl | hr'
    · have e:(l.filter λi=>!(aT.setIfInBounds r true).getD i false)=l.filter λi=>!aT.getD i false:=List.filter_congr λi hi=>by
        rw [FL hs,aK (fun(e:i=r)=>h1 (e▸hi))]
      rw [agw (by rw [FL hs,aO rfl]; simp),agx (by rw [hu]; rfl),e]; rfl
    · have hne:x≠r:=λe=>h1 (e▸hr')
      have:=ih h2 hr';rw [I9,I9,FL hs,aK hne]
      split <;> (try simp only [oI]) <;> omega
theorem ahS{ids:List Nat}(h:akc bT ids full=true)(rest:Nat):∀(fuel:Nat)(aT:Array Bool),aT.size=bT.size->(∀ i,aT.getD i false=true->i∈ids)->
    (∀ i,aT.getD i false=true->∀ j∈reqs bT i,aT.getD j false=true)->fuel=rest+(ids.filter λi=>!aT.getD i false).length->p8 bT ids rest full fuel aT=true:=by
  simp only [akc,bK,Mc,mZ,List.mem_range,bL,eO,sU,IZ,eu] at h
  obtain⟨⟨hn,hfs,hfull⟩,arD,hoth⟩:=h;have hnd:=Wm hn;have hlt:∀ i∈ids,i<bT.size:=λi hi=>(arD i hi).1
  -- all aT: the array is the full one
  have hfl:∀ {aT:Array Bool},aT.size=bT.size->(∀ i,aT.getD i false=true->i∈ids)->(∀ i∈ids,aT.getD i false=true)->aT=full:=by
    intro aT hs h1 h2;refine Array.ext aj λi hi1 hi2=>?_;have e1:aT.getD i false=aT[i]:=by rw [BX,IV hi1]; rfl
    have e2:full.getD i false=full[i]:=by rw [BX,IV hi2]; rfl
    rw [<- e1,<- e2,hfull i aj]
    by_cases hm:i∈ids
    · rw [h2 i hm,sU.2 hm]
    · rw [ED.2 (λe=>hm (h1 i e)),ED.2 (λe=>hm (sU.1 e))]
  have hcz:∀ {aT:Array Bool},(ids.filter λi=>!aT.getD i false).length=0↔∀ i∈ids,aT.getD i false=true:=by
    intro aT;rw [List.length_eq_zero_iff,List.filter_eq_nil_iff]
    simp
  intro fuel
  induction fuel with
  | zero=>
    intro aT hs h1 h2 hf;have hz:=hcz.1 (by omega:(ids.filter λi=>!aT.getD i false).length=0);have hr0:rest=0:=aj;unfold p8;rw [hfl hs h1 hz,hr0]; simp
  | succ f ih=>
    intro aT hs h1 h2 hf;unfold p8
    by_cases he:aT=full
    · have hz:(ids.filter λi=>!aT.getD i false).length=0:=hcz.2 λi hi=>by rw [he,hfull i (hlt i hi)]; exact sU.2 hi
      rw [aO (by rw [he]; simp)]
      simp only [Mc]; omega
    · rw [aK (by simpa using he)]
      have hun:∃ i∈ids,aT.getD i false=false:=by
        by_cases hh:∀ i∈ids,aT.getD i false=true
        · exact absurd (hfl hs h1 hh) he
        · simp only [Classical.not_forall] at hh
          obtain⟨i,hi,hx⟩:=hh;exact⟨i,hi,ED.2 hx⟩
      have hmin:∀ m i,i<=m->i∈ids->aT.getD i false=false->∃ i∈ids,aT.getD i false=false/\∀ j∈reqs bT i,aT.getD j false=true:=by
        intro m
        induction m with
        | zero=>
          intro i hi hm hu;refine⟨i,hm,hu,λj hj=>?_⟩;have:=((arD i hm).2 j hj).1;omega
        | succ m ihm=>
          intro i hi hm hu
          by_cases hall:∀ j∈reqs bT i,aT.getD j false=true
          · exact⟨i,hm,hu,hall⟩
          · simp only [Classical.not_forall] at hall
            obtain⟨j,hj,hx⟩:=hall;obtain⟨hj1,hj2⟩:=(arD i hm).2 j hj;exact ihm j aj hj2 (ED.2 hx)
      obtain⟨i0,hi0,hu0⟩:=hun;obtain⟨i1,hi1,hu1,hr1⟩:=hmin i0 i0 (kH _) hi0 hu0
      have hin:∀ r∈Region.ready .any bT aT,r∈ids:=by
        intro r hr;obtain⟨hr1,hr2,hr3⟩:=(G5 hs r).1 hr
        rcases hoth r hr1 with h3 | ⟨j,hj,hj2⟩ | h3
        · exact h3
        · exact absurd (h1 j (hr3 j hj)) (λhm=>(by rw [sU.2 hm] at hj2; cases hj2))
        · exfalso
          have hall:∀ m i,bT.size<=i+m->i∈ids->aT.getD i false=true:=by
            intro m
            induction m with
            | zero=>intro i hi hm; have:=hlt i hm; omega
            | succ m ihm=>
              intro i hi hm
              rcases h3 i hm with h4 | ⟨j,hj,hj2⟩
              · exact hr3 i h4
              · have hij:=((arD j hj).2 i hj2).1
                exact h2 j (ihm j aj hj) i hj2
          have:=hall bT.size i0 aj hi0;rw [this] at hu0; cases hu0
      simp only [bK,eu,mZ]
      refine⟨?_,λr hr=>⟨sU.2 (hin r hr),?_⟩⟩
      · have:i1∈Region.ready .any bT aT:=(G5 hs i1).2 ⟨hlt i1 hi1,hu1,hr1⟩
        cases hq:Region.ready .any bT aT with
        | nil=>rw [hq] at this; cases this
        | cons _ _=>rfl
      · obtain⟨hr1,hr2,hr3⟩:=(G5 hs r).1 hr
        have hrs:r<aT.size:=aj;refine ih _ (by simpa using hs) (λi hi=>?_) (λi hi j hj=>?_) ?_
        · rw [FL hrs] at hi
          split at hi
          · rename_i e; rw [e]; exact hin r hr
          · exact h1 i hi
        · rw [FL hrs] at hi ⊢
          split
          · rfl
          · split at hi
            · rename_i e; subst e; exact hr3 j hj
            · exact h2 i hi j hj
        · have:=arC hnd (hin r hr) hrs hr2
          omega
theorem avS{ids:List Nat}{rest fuel n:Nat}(h:(akc bT ids full&&(n == bT.size&&fuel == rest+ids.length))=true):p8 bT ids rest full fuel (List.replicate n false).toArray=true:=by
  simp only [bK,Mc] at h
  have h0:∀ i,(List.replicate n false).toArray.getD i false=false:=λi=>by
    rw [BX]
    by_cases hi:i<n <;> simp [hi]
  refine ahS h.1 rest fuel _ (by simpa using h.2.1) (λi hi=>?_) (λi hi=>?_) ?_
  · rw [h0] at hi; cases hi
  · rw [h0] at hi; cases hi
  · rw [h.2.2]
    congr 1
    symm
    rw [MC.2 (λi _=>by rw [h0]; rfl)]
def RV(es:nJ)(x:aH):Bool:=!decide (((iV (fU (⟨x.aB,false⟩:bV) es).2.2).toNat:Int)=x.Sum)
def wO(l:List aH)(es:nJ):List (aH × Bool):=(eT l).map λx=>(x,RV es x)
theorem an5{es:nJ}{k:Nat}(h:(eT l)[k]? = some x):((eT l).take k).map (fun(x:aH)=>(x,RV es x))++[(x,RV es x)] <+: wO l es:=by
  refine⟨((eT l).drop (k+1)).map (fun(x:aH)=>(x,RV es x)),?_⟩;unfold wO
  conv=>rhs; rw [<- sJ (k+1) (eT l)]
  rw [pR,fI h,pR]; rfl
theorem KH(l:List aH):(eT l).length<=l.length:=lG (lX _ _) (vI l)
theorem Pg:kW prog 93:=ay
theorem Wn:dH prog 132 2 2:=ay
abbrev ahT:=List.toArray [true,true,true,true,true,true,true,true,true,true,true,true,true,true,true,true]
theorem YK{gp:Nat}{es:List o9}(hn:l.length<=100000) :
    Iter prog 196 [fP gp] (fun(x:aH × Bool)=>[.agg #[aD x.1.aB,aD x.1.aC,fT x.1.Sum,.bool x.1.fO,.bool x.1.Bad],.bool x.2]) (wO l es) b S [dJ gp 93 [fP mH],dJ mH 169 [aD bJ,.slice A l.length c,.map (some gm)],dP bf A c l,pz uT uh gm es,fD gu 5 (es.map Prod.snd)]:=by
 intro lr Jf Jx w F0 H0 h0 hY;refine WP.ae5 func196 Y ntmps196 Y ?_;have K0:=sW (F:=F0) H0;have hrl:=KH l;refine rg<|ev (cu Pg Y (K0.x s0) Y)<|ev (dS Y)<|ev (eF (q:=⟨mH,1,none⟩) vv Y Y)<|ev (cu azj Y (K0.x s1) Y)<|wo Y Y Y avP (adT _ (K0.s s2).any aj) Y ?_
 rintro _ w1 ⟨jK,jL,rfl,h1⟩;have K1:=K0.f1 h1;have LC:=(K1.o s0).bN;refine ev (eY jo Y)<|mv Y<|dn<|cZ<|rR (λmJ lJ wJ=>∃(k:Nat)(F:List lC),lJ=[(0,.func (.yield lr) #[] #[]),(1,fP gp),(9,.slice jK ((eT l).length) jL),(10,aD (((eT l).length:Nat):Int)),(11,aD ((k:Nat):Int))]/\mJ=(eT l).length - k/\k<=(eT l).length/\(Jf (((eT l).take k).map fun(x:aH)=>(x,RV es x)) F)/\Hp b S wJ (aR bf 132 jK jL (eT l)::dJ gp 93 [fP mH]::dJ mH 169 [aD bJ,.slice A l.length c,.map (some gm)]::dP bf A c l::pz uT uh gm es::fD gu 5 (es.map Prod.snd)::F)) ⟨0,F0,Y,Y,fK _,by simpa using h0,K1⟩ rfl ?_
 rintro _ _ w2 ⟨k,F,rfl,rfl,hk,hJt,K2⟩;refine rg<|ev (fB Y Y)<|dn<|oC Y (λnQ=>?_) (λnQ=>?_)
 ·refine xH (gB ?_);refine aZ<|cZ<|rg ?_
  obtain⟨x1,bP⟩:=bC (xs:=eT l) (i:=k) aj;refine ev (eU (i:=k) jo lQ Y Y Y (aJ bP) ((K2.o s0).some_ bP))<|ev (fV oF Y Y ((K2.o s0).eX bP))<|al yK Y K2 λg1 w3 K3=>stw Y Y Y lQ K3 s0 Y Y λw4 K4=>dn<|WP.dr ak ?_
  have H1:=K4.grow (om w4).drew;refine WI.block (S:=λwK=>Hp b S wK (dJ g1 132 [aD x1.aB,aD x1.aC,fT x1.Sum,.bool x1.fO,.bool x1.Bad]::aR bf 132 jK jL (eT l)::dJ gp 93 [fP mH]::dJ mH 169 [aD bJ,.slice A l.length c,.map (some gm)]::dP bf A c l::pz uT uh gm es::fD gu 5 (es.map Prod.snd)::F)) [(0,15,.func (.yield lr) #[] #[]),(1,16,.agg #[aD x1.aB,aD x1.aC,fT x1.Sum,.bool x1.fO,.bool x1.Bad]),(2,17,fP mH),(6,21,fP g1),(11,26,.pointer (some ⟨g1,2,none⟩)),(3,18,fP mH),(7,22,aD x1.aB),(12,27,fT x1.Sum),(4,19,.pointer (some ⟨mH,2,none⟩)),(8,23,.agg #[aD x1.aB,.bool false]),(5,20,.map (some gm)),(9,24,.slice ((fU (⟨x1.aB,false⟩:bV) es).1) (((fU (⟨x1.aB,false⟩:bV) es).2.2).length) ((fU (⟨x1.aB,false⟩:bV) es).2.1)),(10,25,fT ((iV ((fU (⟨x1.aB,false⟩:bV) es).2.2)).toNat:Int)),(13,28,.bool (!decide (((iV ((fU (⟨x1.aB,false⟩:bV) es).2.2)).toNat:Int)=x1.Sum)))] 2 (List.toArray [true,true,true,true,true,true,true,true,true,true,true,true,true,true,false,false]) (avS ak) Y Y Y ?_ H1 ?_
  ·simp only [vV,kY,vW,vX,tq]
   refine⟨?_,?_,?_,?_,?_,?_,?_,?_,?_,?_,?_,?_,?_,?_⟩
   ·exact⟨_,Y,Y,Y,Y,vT (λ_ hK=>(bA Y))⟩
   ·exact⟨_,Y,Y,Y,Y,vT (λ_ hK=>(dK oF Y Y (hK.x s0)))⟩
   ·exact⟨_,Y,Y,Y,Y,vT (λ_ hK=>(cu Pg Y (hK.x s2) Y))⟩
   ·exact⟨_,Y,Y,Y,Y,vT (λ_ hK=>(eF (q:=⟨g1,0,none⟩) lZ Y Y))⟩
   ·exact⟨_,Y,Y,Y,Y,vT (λ_ hK=>(eF (q:=⟨g1,2,none⟩) Wn Y Y))⟩
   ·exact⟨_,Y,Y,Y,Y,vT (λ_ hK=>(dS Y))⟩
   ·exact⟨_,Y,Y,Y,Y,vT (λ_ hK=>(cu jG Y (hK.x s0) Y))⟩
   ·exact⟨_,Y,Y,Y,Y,vT (λ_ hK=>(cu UH Y (hK.x s0) Y))⟩
   ·exact⟨_,Y,Y,Y,Y,vT (λ_ hK=>(eF (q:=⟨mH,2,none⟩) wN Y Y))⟩
   ·exact⟨_,Y,Y,Y,Y,vT (λ_ hK=>(iE (vs:=[(0,aD x1.aB),(1,.bool false)]) (cs:=[aD x1.aB,.bool false]) Y (by apply o8)))⟩
   ·exact⟨_,Y,Y,Y,Y,vT (λ_ hK=>(cu avO Y (hK.x s3) Y))⟩
   ·exact⟨_,Y,Y,Y,Y,vT (λ_ hK=>(Ev.adW (z:=(⟨x1.aB,false⟩:bV)) hK s5 uD Dr KG Y Y))⟩
   ·exact⟨_,Y,Y,Y,Y,Qi.call Y Y Y an0 (λ_ hK=>(V9 _ (hK.anV s6 (⟨x1.aB,false⟩:bV))).mono (by rintro _ _ ⟨rfl,fG⟩; exact⟨rfl,hK.grow fG.ext⟩))⟩
   ·exact⟨_,Y,Y,Y,Y,vT (λ_ hK=>(rz Y Y))⟩
  intro w5 K5;refine WI.one 14 ak Y ?_;have hy1:=hY ((((eT l).take k).map fun(x:aH)=>(x,RV es x))) (x1,RV es x1) _ _ [dJ g1 132 [aD x1.aB,aD x1.aC,fT x1.Sum,.bool x1.fO,.bool x1.Bad],aR bf 132 jK jL (eT l)] hJt (an5 bP) (sW (F:=[dJ gp 93 [fP mH],dJ mH 169 [aD bJ,.slice A l.length c,.map (some gm)],dP bf A c l,pz uT uh gm es,fD gu 5 (es.map Prod.snd),dJ g1 132 [aD x1.aB,aD x1.aC,fT x1.Sum,.bool x1.fO,.bool x1.Bad],aR bf 132 jK jL (eT l)]) ((K5.mV 0 2).mV 2 5));refine WL.yield trivial Y Y hy1 (by rintro e w' (⟨rfl,_⟩ | ⟨rfl,_⟩) <;> exact⟨_,rfl⟩) rfl rfl rfl ?_;rintro v w6 (⟨hv,F1,hJ1,K6⟩ | ⟨hv,F1,hJ1,K6⟩)
  ·cases hv
   have K6c:=sW (F:=F1) K6;refine WI.nx<|WI.block (S:=λwK=>Hp b S wK (dJ gp 93 [fP mH]::dJ mH 169 [aD bJ,.slice A l.length c,.map (some gm)]::dP bf A c l::pz uT uh gm es::fD gu 5 (es.map Prod.snd)::dJ g1 132 [aD x1.aB,aD x1.aC,fT x1.Sum,.bool x1.fO,.bool x1.Bad]::aR bf 132 jK jL (eT l)::F1)) [(15,30,.bool false)] 0 ahT ak Y Y Y ?_ K6c ?_
   ·simp only [vV,kY,vW,vX,tq]
    exact⟨_,Y,Y,Y,Y,vT (λ_ hK=>(gZ (b:=true) Y))⟩
   intro w7 K7;refine WI.dn ak<|bR Y (λ_h=>absurd _h au) (λ_h=>?_)
   refine xH (ig (gB ?_));refine jr<|ev (dW Y Y)<|mv Y<|jv<|dQ ⟨(k+1),F1,Y,Y,aj,by rw [fI bP,pR]; assumption,(((K7.rm s5).mV 0 5).sel s5)⟩ rfl aj
  ·cases hv
   have K6c:=sW (F:=F1) K6;refine WI.nx<|WI.block (S:=λwK=>Hp b S wK (dJ gp 93 [fP mH]::dJ mH 169 [aD bJ,.slice A l.length c,.map (some gm)]::dP bf A c l::pz uT uh gm es::fD gu 5 (es.map Prod.snd)::dJ g1 132 [aD x1.aB,aD x1.aC,fT x1.Sum,.bool x1.fO,.bool x1.Bad]::aR bf 132 jK jL (eT l)::F1)) [(15,30,.bool true)] 0 ahT ak Y Y Y ?_ K6c ?_
   ·simp only [vV,kY,vW,vX,tq]
    exact⟨_,Y,Y,Y,Y,vT (λ_ hK=>(gZ (b:=false) Y))⟩
   intro w8 K8;refine WI.dn ak<|bR Y (λ_h=>?_) (λ_h=>absurd _h au)
   exact je (jH (gL (gL (jH (kV.aiR Y ⟨⟨_,Y⟩,.inr ⟨_,_,hJ1,(sW (F:=[dJ gp 93 [fP mH],dJ mH 169 [aD bJ,.slice A l.length c,.map (some gm)],dP bf A c l,pz uT uh gm es,fD gu 5 (es.map Prod.snd)]) (K8.cU 5 2))⟩⟩)))))
 exact uU (oz (oz (vK (kV.alo (kV.aiR Y ⟨⟨_,Y⟩,.inl ⟨_,by rw [iD aj] at hJt; exact hJt,(sW (F:=[dJ gp 93 [fP mH],dJ mH 169 [aD bJ,.slice A l.length c,.map (some gm)],dP bf A c l,pz uT uh gm es,fD gu 5 (es.map Prod.snd)]) (K2.rm s0))⟩⟩)))))
def XH(L:List lC):lC where
  W:=λg=>∃ r∈L,r.W g
  ok:=λS w=>(∀ r∈L,r.ok S w)/\L.Pairwise fun(r s:lC)=>∀(g:Nat),r.W g->¬ s.W g
  sub:=λhs h=>⟨λr hr=>r.sub hs (h.1 r hr),h.2⟩
  keep:=λhm h=>⟨λr hr=>r.keep (λg hg=>hm g (hg.imp (λh=>⟨r,hr,h⟩) id)) (h.1 r hr),h.2⟩
section
variable {b w:World}{S:Nat->Prop}{rs rest L L':List lC}
theorem Hp.allOut(H:Hp b S w (XH L::rs)):Hp b S w (L++rs) where
  ext:=H.ext
  ok r hr:=by
    have hS:∀ g,Rd b S (XH L::rs) w g->Rd b S (L++rs) w g:=by
      rintro g (h | ⟨h1,h2,h3⟩)
      · exact .inl h
      · refine .inr ⟨h1,h2,λr hr hw=>?_⟩
        rcases kU.1 hr with h | h
        · exact h3 (XH L) av ⟨r,h,hw⟩
        · exact h3 r (by simp [h]) hw
    rcases kU.1 hr with h | h
    · exact r.sub hS ((H.ok (XH L) av).1 r h)
    · exact r.sub hS (H.ok r (by simp [h]))
  lo r hr g hg:=by
    rcases kU.1 hr with h | h
    · exact H.lo (XH L) av g ⟨r,h,hg⟩
    · exact H.lo r (by simp [h]) g hg
  Y4:=by
    have hd:=oU.1 H.Y4;exact x8.2 ⟨(H.ok (XH L) av).2,hd.2,λa ha c hc g hg=>hd.1 c hc g ⟨a,ha,hg⟩⟩
theorem Hp.allIn(H:Hp b S w (L++rs)):Hp b S w (XH L::rs) where
  ext:=H.ext
  ok r hr:=by
    have hS:∀ g,Rd b S (L++rs) w g->Rd b S (XH L::rs) w g:=by
      rintro g (h | ⟨h1,h2,h3⟩)
      · exact .inl h
      · refine .inr ⟨h1,h2,λr hr hw=>?_⟩
        rcases iN.1 hr with h | h
        · subst h; obtain⟨q,hq,hw⟩:=hw; exact h3 q (kU.2 (.inl hq)) hw
        · exact h3 r (kU.2 (.inr h)) hw
    rcases iN.1 hr with h | h
    · subst h
      exact⟨λq hq=>q.sub hS (H.ok q (kU.2 (.inl hq))),(x8.1 H.Y4).1⟩
    · exact r.sub hS (H.ok r (kU.2 (.inr h)))
  lo r hr g hg:=by
    rcases iN.1 hr with h | h
    · subst h; obtain⟨q,hq,hw⟩:=hg; exact H.lo q (kU.2 (.inl hq)) g hw
    · exact H.lo r (kU.2 (.inr h)) g hg
  Y4:=by
    have hd:=x8.1 H.Y4;exact oU.2 ⟨λc hc g ⟨a,ha,hg⟩=>hd.2.2 a ha c hc g hg,hd.2.1⟩
def EO:=@Hp.allIn
end
section
variable {κ ν:Type}[DecidableEq κ]
theorem Ph(f:ν->ν')(k:κ)(es:List (κ × ν)):fH k (es.map λp=>(p.1,f p.2))=(fH k es).map f:=by
  unfold fH;rw [List.find?_map];show Option.map _ (Option.map _ (es.find? λp=>decide (p.1=k)))=_
  cases es.find? (λp=>decide (p.1=k)) <;> rfl
theorem Pj(f:ν->ν')(k:κ)(v:ν)(es:List (κ × ν)):(gV k v es).map (λp=>(p.1,f p.2))=gV k (f v) (es.map λp=>(p.1,f p.2)):=by
  unfold gV;rw [Ph,Option.isSome_map]
  split
  · rw [GU,GU]
    refine Q8 λp _=>?_
    simp only [Function.comp]
    split <;> rfl
  · rw [pR]; rfl
theorem an6(f:ν->ν')(k:κ)(es:List (κ × ν)):(nH k es).map (λp=>(p.1,f p.2))=nH k (es.map λp=>(p.1,f p.2)):=by
  unfold nH;rw [List.filter_map]; rfl
theorem akd{k:κ}{v:ν}{es:List (κ × ν)}(hn:(es.map Prod.fst).Nodup)(h:fH k es=some v):es.Perm ((k,v)::nH k es):=by
  obtain⟨j,hj⟩:=xM h;rw [<- erase_filter hn hj];obtain⟨hl,he⟩:=mM.1 hj;rw [Md];have h1:es=es.take j++((k,v)::es.drop (j+1)):=by rw [<- he,<- yu hl,sJ]
  conv=>lhs; rw [h1]
  exact EK
theorem ad2{k:κ}{v v':ν}{es:List (κ × ν)}(h:fH k es=some v):nH k (gV k v' es)=nH k es:=by
  unfold gV nH;rw [h,aO (show(some v).isSome=true from rfl),List.filter_map]
  have:(λp:κ × ν=>!decide (p.1=k)) ∘ (λp=>if p.1=k then(k,v') else p)=λp=>!decide (p.1=k):=by
    funext p; simp only [Function.comp]; split
    · rename_i hp; simp [hp]
    · rfl
  rw [this];refine(Q8 λp hp=>?_).trans (List.map_id _);have:=(zk.1 hp).2;rw [aK (by simpa using this)]; rfl
theorem ad3{k:κ}{v':ν}{es:List (κ × ν)}(hn:(es.map Prod.fst).Nodup):fH k (gV k v' es)=some v':=by
  have h2:=JU (k:=k) (v:=v') hn
  cases hg:fH k es with
  | none=>
    have e:gV k v' es=es++[(k,v')]:=by unfold gV; rw [hg]; rfl
    rw [e] at h2 ⊢;exact Ef h2 (j:=es.length) av
  | some v=>
    obtain⟨j,hj⟩:=xM hg;rw [FI hn hj] at h2 ⊢;exact Ef h2 (j:=j) (pQ (aJ hj))
theorem G6{k k2:κ}{v':ν}(h:k2≠k):∀(es:List (κ × ν)),(es.map λp=>if p.1=k then(k,v') else p).find? (λp=>decide (p.1=k2))=es.find? λp=>decide (p.1=k2)
  | []=>rfl
  | p::es=>by
    rw [mO]
    by_cases hp:p.1=k
    · rw [aO hp,u6 (by simpa using Ne.symm h),u6 (by rw [hp]; simpa using Ne.symm h)]
      exact G6 h es
    · rw [aK hp]
      by_cases hq:p.1=k2
      · rw [F4 (by simpa using hq),F4 (by simpa using hq)]
      · rw [u6 (by simpa using hq),u6 (by simpa using hq)]
        exact G6 h es
theorem Eh{k k2:κ}{v':ν}{es:List (κ × ν)}(h:k2≠k):fH k2 (gV k v' es)=fH k2 es:=by
  unfold gV
  split
  · unfold fH; rw [G6 h]
  · unfold fH
    rw [Gg,u6 (by simpa using Ne.symm h),List.find?_nil,Option.or_none]
end
def ahU(ol:List Oper):Bool:=ol.all λo=>match o.op with | .defer _=>false | _=>true
section
variable {P:Program}{n:Cx}{l:List (Nat × Value)}{b w:World}{S:Nat->Prop}{rs rk:List lC}{Q:Exit->Act->World->Prop}{bT:Array Oper}
theorem ahV(h:LetsOut (Only K0)):False:=by
  obtain⟨_,_,hq⟩:=h; exact hq.elim
theorem arE{o:Oper}{a:Act}{K:Act->World->Prop}(hnd:∀ c,o.op≠.defer c)(h:o.wp P a w K (Only K0)):o.wpIn n.fence 0 P a w K Q:=by
  refine⟨λ_ _=>trivial,?_⟩;rw [Oper.semAt_eq _ _ _ hnd];unfold Oper.wp at h
  generalize (execOp a.eval o).run P w=r at h ⊢
  cases r with
  | ok x w'=>
    cases x with
    | value v=>exact h
    | skip=>exact h
    | defer d=>exact h
    | enter f args=>
      refine⟨λhd=>(by cases hd),TS _ (DR h ?_)⟩;intro e w'' he
      cases e with
      | returned v=>exact he
      | panicked c=>exact he.elim
      | outgrown=>exact(ahV he).elim
    | row row args=>exact⟨λhd=>(by cases hd),λc cs _=>let ⟨v,w',r,s⟩:=h c cs; ⟨v,w',r,stepsIn_wide.2 s⟩⟩
    | _=>exact h.elim
  | halt x w'=>
    cases x <;> exact h.elim
theorem Pm(hnd:∀(i:Nat)(o:Oper),bT[i]? = some o->∀ c,o.op≠.defer c)(hK:∀ a w,K0 a w->Q .normal a w):∀(fuel:Nat)(aT:Array Bool)(a:Act)(w:World),wpAny P .any bT (Only K0) fuel aT a w->wpAnyIn n.fence 0 P .any bT Q fuel aT a w
  | 0,_,_,_,h=>⟨h.1,hK _ _ h.2⟩
  | f+1,aT,a,w,h=>by
    refine⟨λh0=>hK _ _ (h.1 h0),λi hi=>?_⟩;have h1:=h.2 i hi;unfold wpOp at h1;unfold wpOpIn
    cases ho:bT[i]? with
    | none=>rw [ho] at h1; exact Pm hnd hK f _ _ _ h1
    | some o=>
      rw [ho] at h1
      simp only at h1 ⊢
      split
      · rename_i hw
        rw [aO hw] at h1
        rcases h1 with h1 | ⟨_,h1⟩
        · exact Oper.wpIn_mono (λa w h=>Pm hnd hK f _ _ _ h) (arE (hnd i o ho) h1)
        · exact(ahV h1).elim
      · rename_i hw
        rw [aK hw] at h1;exact⟨λ_ _=>trivial,Pm hnd hK f _ _ _ h1⟩
theorem agB{ol:List Oper}(h:ahU ol=true):∀(i:Nat)(o:Oper),ol.toArray[i]? = some o->∀ c,o.op≠.defer c:=λi o ho c e=>by
  have h1:=mZ.1 h o (xk (by simpa using ho));rw [e] at h1; cases h1
theorem HeR{ol:List Oper}{id:Nat}{y:Code}(H:Hp b S w rs)(_:∀ w',Hp b S w' rs->Hp b S w' rk)(J:List (Nat × Value)->List lC->List (Nat × Value)->World->Prop)
    (h:Region.noSelect ol.toArray=true->Hp b S w.drew rs->WH P n ol.toArray (JK n (J l rk)) (λw'=>Hp b S w' rk) ol.length (List.replicate ol.length false).toArray l w.drew) (k:∀ l' w',J l rk l' w'->WP P n y l' w' Q)
    (hm:P.follows .mixedOrders=true:=by kernel_rfl) (hs:Region.noSelect ol.toArray=true:=by kernel_rfl) (hnd:ahU ol=true:=by kernel_rfl):WP P n (.seq (.region id ol.toArray true) y) l w Q:=λa ha=>by
  refine Rx (wpIn_region_any (Q:=Exit.then (Ls P n y Q) Q) hm ?_);have h1:=Pm (n:=n) (Q:=Exit.then (Ls P n y Q) Q) (agB hnd) (λa' w' ⟨l',h1,h2⟩=>k l' w' h2 a' h1) _ _ _ _ (wpAny_of_held _ _ _ _ (h hs (H.grow (om w).drew) a ha))
  simpa using h1
theorem Hp.tin{X1 X2:List lC}(H:Hp b S w ((L++F)++(X1++X2))):Hp b S w (L++(X1++(X2++F))):=H.perm (by
  rw [nU,<- nU X1]
  exact yc.append_left L)
theorem Hp.azk{X1 X2:List lC}(H:Hp b S w (L++(X1++(X2++F)))):Hp b S w ((L++F)++(X1++X2)):=H.perm (by
  rw [nU,<- nU X1]
  exact yc.append_left L)
def M8:=@Hp.azk
theorem Hp.att{X:List lC}(H:Hp b S w (L++(X++F))):Hp b S w ((L++F)++X):=H.perm (by
  rw [nU]
  exact yc.append_left L)
end
end Go.Proofs.YtlhnnmlenkahlaaGreat
