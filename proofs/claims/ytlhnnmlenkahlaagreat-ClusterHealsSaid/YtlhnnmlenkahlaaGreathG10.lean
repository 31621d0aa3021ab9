/- Lemmas. -/
import Derived.Shelf.Slices.CompactI
import Derived.Ground.Names2Prog
import Derived.Test.YtlhnnmlenkahlaaGreatProg
import Derived.Test.YtlhnnmlenkahlaaGreathG9
set_option maxRecDepth 4000
set_option linter.all false
namespace Go.Proofs.YtlhnnmlenkahlaaGreat
open Go.RowKit Go.Proofs.Tryz
def ES:=@underlying167
def TI:=@List.filter_eq_nil_iff
def ac1:=@underlying379
section
variable {b w:World}{S:Nat->Prop}{F L:List lG}{ou gm c:Nat}{A:ah}{bG:Int}{l:List aG}{x:aG}{bY:Array Oper}{aW full:Array Bool}{ν':Type}{K0:Act->World->Prop}
structure bT where
  aN:Int
  temp:Bool
  deriving DecidableEq
def bT.enc(x:bT):List Value:=[.int .i64 x.aN,.bool x.temp]
theorem bT.mD(x:bT):∀ u∈x.enc,u.oneCell'=true:=by
  intro u hu
  simp only [bT.enc,iR,mP,tq] at hu
  rcases hu with rfl | rfl <;> rfl
theorem yw:dL prog 169 1 1:=ay
theorem ac2(a0:Int)(a1:Option Nat):prog.built 169 [(0,aI a0),(2,.map a1)]=some #[aI a0,.slice none 0 0,.map a1]:=ak
theorem arf:bJ prog 55:=ay
theorem Vf(a0:Int)(a1:Int)(a2:Int):prog.built 132 [(0,aI a0),(1,aI a1),(2,gP a2)]=some #[aI a0,aI a1,gP a2,.bool false,.bool false]:=ak
theorem arh:dL prog 169 0 0:=ay
theorem aDW:mg prog 70:=ay
theorem yx:dL prog 169 2 2:=ay
theorem qw(a0:Int)(a1:Bool):prog.built 171 [(0,aI a0),(1,.bool a1)]=some #[aI a0,.bool a1]:=ak
theorem aAi:mg prog 167:=ay
theorem Na:∀ w,(zeroValue 33).run prog w=.ok (.slice none 0 0) w:=ay
theorem aAj:bJ prog 141:=ay
abbrev xA(p:bT):Value:=.agg p.enc.toArray
theorem am0(x y:bT)(w:World):(Op.equalIn 10000 171 (.agg x.enc.toArray) (.agg y.enc.toArray)).run prog w=.ok (decide (x=y)) w:=by
  obtain⟨a0,a1⟩:=x; obtain⟨b0,b1⟩:=y
  simp only [bT.enc,bT.mk.injEq]
  simp [go_sem]
  repeat' split
  all_goals simp_all
theorem vL:LV prog 171 xA:=key_eq underlying171 (λ_ _=>rfl) (λa b w=>am0 a b w) (λw e a=>by
  obtain⟨c,t⟩:=a
  kernel_rfl) (λa=>by
  obtain⟨c,t⟩:=a;show((_ == _)&&((_&&(c == c))&&((t == t)&&true)))=true
  simp)
def J4(r:Int):Int:=(if 16<(if 0>r then 0 else r) then 16 else(if 0>r then 0 else r))
def Bj(l:List aG)(bG c v sum:Int)(fG:List (BitVec 8)):List aG:=if 64<fG.length then l else if ¬ ((iQ fG).toNat:Int)=sum then l else if(kS l ⟨c,v,sum,false,false⟩ bG).2=0 then(kS l ⟨c,v,sum,false,false⟩ bG).1 else l
def Hr(l:List aG)(bG c v sum:Int)(fG:List (BitVec 8))(B:ah)(d:Nat)(es:List (bT × Option Addr × Nat × List (BitVec 8))):List (bT × Option Addr × Nat × List (BitVec 8)):=if 64<fG.length then es else if ¬ ((iQ fG).toNat:Int)=sum then es else if(kS l ⟨c,v,sum,false,false⟩ bG).2=0 then gK ⟨c,true⟩ (B,d,fG) es else es
def TJ(l:List aG)(c v:Int):List aG:=if(mW l c v).2=0 then(mW l c v).1 else l
abbrev oz:=List (bT × Option Addr × Nat × List (BitVec 8))
def Vg(l:List aG)(c v:Int)(es:oz):oz:=if(mW l c v).2=0 then oJ ⟨c,true⟩ (gK ⟨c,false⟩ (gD ⟨c,true⟩ es) es) else es
def Df(l:List aG)(c:Int):List aG:=if(o7 l c).2=0 then(o7 l c).1 else l
def OT(l:List aG)(c:Int)(es:oz):oz:=if(o7 l c).2=0 then oJ ⟨c,false⟩ es else es
def qX(l:List aG)(bG c v sum:Int)(fG:List (BitVec 8)):Int:=if 64<fG.length then 7 else if ¬ ((iQ fG).toNat:Int)=sum then 4 else(kS l ⟨c,v,sum,false,false⟩ bG).2
theorem ac3{Av:ah}{nv cv:Nat}{u0 u1 u2:Value}(H0:Hp b S w (dW ou 169 [u0,u1,u2]::F))(e:Int) :
    bO prog 249 #[gI ou,.slice Av nv cv,aI e] w λv w'=>v=aI e/\Hp b S w' (dW ou 169 [u0,(if e=0 then .slice Av nv cv else u1),u2]::F):=by
 refine rU func249 ntmps249 Y<|iT Y<|aY<|bQ Y<|ev (iM Y Y)<|dn<|mZ Y (λhc8=>?_) (λhc8=>?_)
 ·refine jC<|mv Y<|mv Y<|ev (d9 Y)<|yV ou 1 yw Y<|yD Y H0 s0 Y λw1 K1=>jD<|gy<|bQ Y<|bX Y<|iP Y ?_
  exact⟨Y,by rw [aS hc8]; exact K1⟩
 refine jy ?_;refine bQ Y<|bX Y<|iP Y ?_
 exact⟨Y,by rw [aP hc8]; exact H0⟩
theorem avL (H0:Hp b S w F)(bG:Int) :
    bO prog 96 #[aI bG] w λv w'=>∃(gs gm:Nat),v=gI gs/\Hp b S w' (dW gs 169 [aI (J4 bG),.slice none 0 0,.map (some gm)]::rA xA wI gm ([]:oz)::fU gQ 5 (([]:oz).map Prod.snd)::F):=by
 refine rU func96 ntmps96 Y<|iT Y<|bQ Y<|ev (Ev.max2 Y Y)<|ev (Ev.min2 Y Y)<|mkA xA (wI (α:=BitVec 8)) H0 λg1 w1 K1=>?_
 have H1:=K1.aev gQ 5;refine ev (jX Y (by apply ac2))<|bx rfl rfl H1 λg2 w2 K2=>bX rfl<|iP rfl ?_
 exact⟨g2,g1,Y,by skip; exact((K2.sel s1).mV 1 2)⟩
abbrev rM:=bT × Option Addr × Nat × List (BitVec 8)
abbrev nQ(iE:Int):=(⟨iE,true⟩:bT)
abbrev BU(iE:List aG)(je wP zZ Fh:Int):=kS iE (⟨je,wP,zZ,false,false⟩:aG) Fh
theorem am1{YA:ah}{YB:Nat}{fG:List (BitVec 8)}{es:List rM}(H0:Hp b S w (dW ou 169 [aI bG,.slice A l.length c,.map (some gm)]::dH aZ A c l::rA xA wI gm es::fU gQ 5 (es.map Prod.snd)::dH gQ YA YB fG::F))(aN:Int)(bU:Int)(sum:Int)(hl:l.length<=100000) :
    bO prog 179 #[gI ou,aI aN,aI bU,gP sum,.slice YA fG.length YB] w λv w'=>∃(A1:ah)(c1:Nat)(B1:ah)(d1:Nat),v=aI (qX l bG aN bU sum fG)/\Hp b S w' (dW ou 169 [aI bG,.slice A1 ((Bj l bG aN bU sum fG).length) c1,.map (some gm)]::dH aZ A1 c1 (Bj l bG aN bU sum fG)::rA xA wI gm (Hr l bG aN bU sum fG B1 d1 es)::fU gQ 5 ((Hr l bG aN bU sum fG B1 d1 es).map Prod.snd)::F):=by
 refine rU func179 ntmps179 Y<|iT Y<|aY<|cB<|bQ Y<|ev (eX Ji Y)<|ev (sQ Y Y)<|bX Y<|mZ Y (λnN=>?_) (λnN=>?_)
 ·refine iT Y<|Xb Y ?_
  have fT:(7:Int)=(qX l bG aN bU sum fG):=by first | (unfold qX; rw [aS aj]; done) | (unfold Bj; rw [aS aj]; done) | (unfold Hr; rw [aS aj]; done) | (unfold qX; rw [aS aj])
  have gu:(l:List aG)=(Bj l bG aN bU sum fG):=by first | (unfold qX; rw [aS aj]; done) | (unfold Bj; rw [aS aj]; done) | (unfold Hr; rw [aS aj]; done) | (unfold qX; rw [aS aj])
  have kC:(es:List rM)=(Hr l bG aN bU sum fG none 0 es):=by first | (unfold qX; rw [aS aj]; done) | (unfold Bj; rw [aS aj]; done) | (unfold Hr; rw [aS aj]; done) | (unfold qX; rw [aS aj])
  exact⟨A,c,none,0,by rw [<- fT] <;> rfl,by rw [<- gu,<- kC]; exact(H0.rm s4)⟩
 refine bQ Y<|nD H0 Y (Yz _ (H0.s s4).any) λw1 K1=>mv Y<|ev (rY Y Y)<|bX Y<|bP Y (λhc16=>?_) (λhc16=>?_)
 ·replace hc16:=oO hc16;refine iT Y<|Xb Y ?_
  have nC:(4:Int)=(qX l bG aN bU sum fG):=by first | (unfold qX; rw [aP aj,aS hc16]; done) | (unfold Bj; rw [aP aj,aS hc16]; done) | (unfold Hr; rw [aP aj,aS hc16]; done) | (unfold qX; rw [aP aj,aS hc16])
  have rV:(l:List aG)=(Bj l bG aN bU sum fG):=by first | (unfold qX; rw [aP aj,aS hc16]; done) | (unfold Bj; rw [aP aj,aS hc16]; done) | (unfold Hr; rw [aP aj,aS hc16]; done) | (unfold qX; rw [aP aj,aS hc16])
  have xW:(es:List rM)=(Hr l bG aN bU sum fG none 0 es):=by first | (unfold qX; rw [aP aj,aS hc16]; done) | (unfold Bj; rw [aP aj,aS hc16]; done) | (unfold Hr; rw [aP aj,aS hc16]; done) | (unfold qX; rw [aP aj,aS hc16])
  exact⟨A,c,none,0,by rw [<- nC] <;> rfl,by rw [<- rV,<- xW]; exact(K1.rm s4)⟩
 replace hc16:=oP hc16;refine Ci ?_;refine He K1 (λ_ K=>(K.rm s0)) (λl0 rk lJ wJ=>∃(jW:ah)(jT:Nat),lJ=(11,aI ((BU l aN bU sum bG).2))::l0/\Hp b S wJ (dW ou 169 [aI bG,(if((BU l aN bU sum bG).2)=0 then .slice jW (((BU l aN bU sum bG).1).length) jT else .slice A l.length c),.map (some gm)]::aQ aZ 132 jW jT ((BU l aN bU sum bG).1)::rk)) (λhns H1=>?_) ?_
 ·have k1:=(H1.rm s0);refine lQ 0 Y Y k1<|tZ 1 ou 1 yw Y k1<|lQ 5 Y Y k1<|lQ 6 Y Y k1<|lQ 7 Y Y k1<|l9 8 Y (λ_ _=>jX Y (by apply Vf)) k1<|tZ 9 ou 0 arh rfl k1<|Jn H1 (λl0 rk lJ wJ=>lJ=(25,.slice A l.length c)::(33,aI bG)::l0/\Hp b S wJ rk) 5 8191 ?_ λhS1=>?_
  ·rintro _ w4 ⟨rfl,K4⟩;refine O1 13 Y<|gU Y (amX _ (K4.s s1).any (⟨aN,bU,sum,false,false⟩:aG) bG aj) ?_
   rintro _ w5 ⟨CG,CJ,rfl,h5⟩;have K5:=K4.f1 h5;have k4:=(K5.cU 0 2);refine aO k4<|xU 14 Y Y Y k4<|xU 15 Y Y Y k4<|O1 16 Y<|gU Y (ac3 ((K5.sel s0).sel s1) ((BU l aN bU sum bG).2)) ?_
   rintro _ w6 ⟨rfl,K6⟩;have k5:=(K6.cU 0 2);refine aO k5<|xL 17 Y Y k5<|Dn ⟨CG,CJ,Y,K6⟩ Y
  refine O2 4 12 Y Y ?_ ?_
  ·refine nL H1 s0 Y<|aO k1<|O1 12 Y<|nL H1 s0 Y<|Kj hS1 k1 ⟨Y,H1⟩ Y
  ·refine nL H1 s0 Y<|aO k1<|O1 4 Y<|nL H1 s0 Y<|Kj hS1 k1 ⟨Y,H1⟩ Y
 rintro _ w7 ⟨jW,jT,rfl,K7⟩;refine aY<|bQ Y<|ev (iM Y Y)<|dn<|mZ Y (λhc39=>?_) (λhc39=>?_)
 ·rw [aS hc39] at K7;refine Hf K7 (λ_ K=>((K.cU 3 2).cU 0 2)) (λl0 rk lJ wJ=>∃(pO:ah)(cj2:Nat),lJ=l0/\Hp b S wJ (fU gQ 5 ((gK (nQ aN) (pO,cj2,fG) es).map Prod.snd)::rA xA wI gm (gK (nQ aN) (pO,cj2,fG) es)::dW ou 169 [aI bG,.slice jW (((BU l aN bU sum bG).1).length) jT,.map (some gm)]::aQ aZ 132 jW jT ((BU l aN bU sum bG).1)::rk)) (λhns H2=>?_) ?_
  ·have k6:=((H2.cU 3 2).cU 0 2);refine tZ 0 ou 2 yx Y k6<|lQ 4 Y Y k6<|l9 5 Y (λ_ _=>jX Y (by apply qw)) k6<|lQ 6 rfl rfl k6<|Jn H2 (λl0 rk lJ wJ=>∃(IQ:ah)(IU:Nat),lJ=(43,.map (some gm))::(47,.slice IQ fG.length IU)::l0/\Hp b S wJ (aQ gQ 5 IQ IU fG::rk)) 1 255 ?_ λhS2=>?_
   ·rintro _ Va ⟨IQ,IU,rfl,vM⟩;refine O1 8 Y ?_;have hn2:=(vM.mp s4).1;refine aAa (z:=(nQ aN)) (v:=(IQ,IU,fG)) vM s4 vL ES Y Y Y λVb vH=>?_;have H4:=vH.acY hn2 s1 s4 (nQ aN);have k10:=(H4.cU 0 4);refine aO k10<|Dn ⟨IQ,IU,Y,H4⟩ Y
   refine O2 3 7 Y Y ?_ ?_
   ·refine nL H2 s0 Y<|aO k6<|O1 7 Y<|gU Y (Jl _ (H2.s s5).any aj) ?_
    rintro _ w13 ⟨apt,apu,rfl,h13⟩;have Bf:=H2.f1 h13;have k11:=((Bf.cU 4 2).cU 0 3);exact Kj hS2 k11 ⟨apt,apu,Y,Bf⟩ Y
   ·refine gU Y (Jl _ (H2.s s5).any aj) ?_;rintro _ w14 ⟨ari,arj,rfl,h14⟩;have xM:=H2.f1 h14;have k12:=((xM.cU 4 2).cU 0 3);refine aO k12<|O1 3 Y<|nL xM s1 Y<|Kj hS2 k12 ⟨ari,arj,Y,xM⟩ Y
  rintro _ w15 ⟨pO,cj2,rfl,BI⟩;refine gy<|bQ Y<|bX Y<|iP Y ?_
  have zX:(((BU l aN bU sum bG).2):Int)=(qX l bG aN bU sum fG):=by unfold qX; rw [aP aj,aP aj]
  have H5:=BI.fz s3;have hq8:((BU l aN bU sum bG).1:List aG)=(Bj l bG aN bU sum fG):=by unfold Bj; rw [aP aj,aP aj,aS hc39]
  have zG:((gK (nQ aN) (pO,cj2,fG) es):List rM)=(Hr l bG aN bU sum fG pO cj2 es):=by unfold Hr; rw [aP aj,aP aj,aS hc39]
  exact⟨jW,jT,pO,cj2,by rw [<- zX] <;> rfl,by rw [<- hq8,<- zG]; exact((((H5.cU 4 2).sel s1).mV 1 2).sel s3)⟩
 rw [aP hc39] at K7;refine jy ?_;refine bQ Y<|bX Y<|iP Y ?_
 have vg:(((BU l aN bU sum bG).2):Int)=(qX l bG aN bU sum fG):=by unfold qX; rw [aP aj,aP aj]
 have hq11:(l:List aG)=(Bj l bG aN bU sum fG):=by unfold Bj; rw [aP aj,aP aj,aP hc39]
 have hq12:(es:List rM)=(Hr l bG aN bU sum fG none 0 es):=by unfold Hr; rw [aP aj,aP aj,aP hc39]
 exact⟨A,c,none,0,by rw [<- vg] <;> rfl,by rw [<- hq11,<- hq12]; exact((K7.rm s5).rm s1)⟩
abbrev Jm(iE:Int):=(⟨iE,false⟩:bT)
theorem aiU{es:List rM}(H0:Hp b S w (dW ou 169 [aI bG,.slice A l.length c,.map (some gm)]::dH aZ A c l::rA xA wI gm es::fU gQ 5 (es.map Prod.snd)::F))(aN:Int)(bU:Int)(hl:l.length<=100000) :
    bO prog 180 #[gI ou,aI aN,aI bU] w λv w'=>∃(A1:ah)(c1:Nat),v=aI ((mW l aN bU).2)/\Hp b S w' (dW ou 169 [aI bG,.slice A1 ((TJ l aN bU).length) c1,.map (some gm)]::dH aZ A1 c1 (TJ l aN bU)::rA xA wI gm (Vg l aN bU es)::fU gQ 5 ((Vg l aN bU es).map Prod.snd)::F):=by
 refine rU func180 ntmps180 Y<|iT Y<|bQ Y<|mv Y<|ev (d9 Y)<|j6 ou 1 yw H0 s0 Y<|mv Y<|mv Y<|gU Y (aiT _ (H0.s s1).any aN bU aj) ?_
 rintro _ w1 ⟨jZ,j3,rfl,h1⟩;have K1:=H0.f1 h1;refine xt Y Y<|xt Y Y<|gU Y (ac3 ((K1.sel s0).sel s1) ((mW l aN bU).2)) ?_
 rintro _ w2 ⟨rfl,K2⟩;refine bX Y<|aY<|bQ Y<|ev (iM Y Y)<|dn<|mZ Y (λlW=>?_) (λlW=>?_)
 ·rw [aS lW] at K2;refine He K2 (λ_ K=>((K.cU 3 2).cU 0 2)) (λl0 rk lJ wJ=>lJ=l0/\Hp b S wJ (rA xA wI gm (gK (Jm aN) ((gD (nQ aN) es).1,(gD (nQ aN) es).2.1,(gD (nQ aN) es).2.2) es)::dW ou 169 [aI bG,.slice jZ (((mW l aN bU).1).length) j3,.map (some gm)]::aQ aZ 132 jZ j3 ((mW l aN bU).1)::fU gQ 5 (es.map Prod.snd)::rk)) (λhns H1=>?_) ?_
  ·have k1:=((H1.cU 3 2).cU 0 2);refine tZ 0 ou 2 yx Y k1<|lQ 4 Y Y k1<|l9 5 Y (λ_ _=>jX Y (by apply qw)) k1<|tZ 6 ou 2 yx rfl k1<|lQ 10 rfl rfl k1<|l9 11 rfl (λ_ _=>jX rfl (by apply qw)) k1<|Jn H1 (λl0 rk lJ wJ=>lJ=(24,.map (some gm))::(33,.slice ((gD (nQ aN) es).1) (((gD (nQ aN) es).2.2).length) ((gD (nQ aN) es).2.1))::l0/\Hp b S wJ rk) 1 8191 ?_ λhS1=>?_
   ·rintro _ w4 ⟨rfl,K4⟩;refine O1 13 Y ?_;refine aAa (z:=(Jm aN)) (v:=((gD (nQ aN) es).1,(gD (nQ aN) es).2.1,(gD (nQ aN) es).2.2)) K4 s3 vL ES Y Y Y λw5 K5=>?_;have k3:=((K5.rm s4).cU 0 3);refine aO k3<|Dn ⟨Y,((K5.sel s3).mV 1 4)⟩ Y
   refine Jn H1 (λl0 rk lJ wJ=>lJ=(24,.map (some gm))::(30,.map (some gm))::l0/\Hp b S wJ rk) 2 4095 ?_ λhS2=>?_
   ·rintro _ w6 ⟨rfl,K6⟩;refine O1 12 Y<|ev (Ev.af7 (z:=(nQ aN)) K6 s3 vL ES Na Y Y) ?_
    have k4:=((K6.cU 3 2).cU 0 2);exact Kj hS1 k4 ⟨Y,K6⟩ Y
   refine O2 3 9 Y Y ?_ ?_
   ·refine nL H1 s0 Y<|aO k1<|O1 9 Y<|nL H1 s0 Y<|Kj hS2 k1 ⟨Y,H1⟩ Y
   ·refine nL H1 s0 Y<|aO k1<|O2 3 12 Y Y ?_ ?_
    ·refine nL H1 s0 Y<|Kj hS2 k1 ⟨Y,H1⟩ Y
    ·refine ev (Ev.af7 (z:=(nQ aN)) H1 s3 vL ES Na Y Y)<|aO k1<|O1 3 Y<|nL H1 s0 Y<|Kj hS1 k1 ⟨Y,H1⟩ Y
  rintro _ w7 ⟨rfl,K7⟩;refine jC<|mv Y<|ev (d9 Y)<|j6 ou 2 yx K7 s1 Y<|mv Y<|ev (jX Y (by apply qw)) ?_
  have hn3:=Yx (K7.mp s0).1;refine aAb (z:=(nQ aN)) K7 s0 vL ES Y Y λw8 K8=>?_;have H2:=K8.aq9 (k2:=(Jm aN)) (k:=(nQ aN)) hn3 s3 (by intro h; cases h);refine jD<|gy<|bQ Y<|bX Y<|iP Y ?_
  have H3:=H2.fz s3;have fT:((mW l aN bU).1:List aG)=(TJ l aN bU):=by first | (unfold TJ; rw [aS lW]; done) | (unfold Vg; rw [aS lW])
  have gu:((oJ (nQ aN) (gK (Jm aN) ((gD (nQ aN) es).1,(gD (nQ aN) es).2.1,(gD (nQ aN) es).2.2) es)):List rM)=(Vg l aN bU es):=by first | (unfold TJ; rw [aS lW]; done) | (unfold Vg; rw [aS lW])
  exact⟨jZ,j3,Y,by rw [<- fT,<- gu]; exact((((H3.rm s4).sel s1).mV 1 2).sel s3)⟩
 rw [aP lW] at K2;refine jy ?_;refine bQ Y<|bX Y<|iP Y ?_
 have kC:(l:List aG)=(TJ l aN bU):=by first | (unfold TJ; rw [aP lW]; done) | (unfold Vg; rw [aP lW])
 have nC:(es:List rM)=(Vg l aN bU es):=by first | (unfold TJ; rw [aP lW]; done) | (unfold Vg; rw [aP lW])
 exact⟨A,c,Y,by rw [<- kC,<- nC]; exact(K2.rm s1)⟩
theorem YC{es:List rM}(H0:Hp b S w (dW ou 169 [aI bG,.slice A l.length c,.map (some gm)]::dH aZ A c l::rA xA wI gm es::fU gQ 5 (es.map Prod.snd)::F))(aN:Int)(hl:l.length<=100000) :
    bO prog 165 #[gI ou,aI aN] w λv w'=>∃(A1:ah)(c1:Nat),v=aI ((o7 l aN).2)/\Hp b S w' (dW ou 169 [aI bG,.slice A1 ((Df l aN).length) c1,.map (some gm)]::dH aZ A1 c1 (Df l aN)::rA xA wI gm (OT l aN es)::fU gQ 5 ((OT l aN es).map Prod.snd)::F):=by
 refine rU func165 ntmps165 Y<|iT Y<|bQ Y<|mv Y<|ev (d9 Y)<|j6 ou 1 yw H0 s0 Y<|mv Y<|gU Y (avD _ (H0.s s1).any aN aj) ?_
 rintro _ w1 ⟨jZ,j3,rfl,h1⟩;have K1:=H0.f1 h1;refine xt Y Y<|xt Y Y<|gU Y (ac3 ((K1.sel s0).sel s1) ((o7 l aN).2)) ?_
 rintro _ w2 ⟨rfl,K2⟩;refine bX Y<|aY<|bQ Y<|ev (iM Y Y)<|dn<|mZ Y (λhc17=>?_) (λhc17=>?_)
 ·rw [aS hc17] at K2;refine jC<|mv Y<|ev (d9 Y)<|j6 ou 2 yx K2 s0 Y<|mv Y<|ev (jX Y (by apply qw))<|aAb (z:=(Jm aN)) K2 s3 vL ES rfl rfl λw3 K3=>?_
  have H1:=K3.akl s4 (Jm aN);refine jD<|gy<|bQ Y<|bX Y<|iP Y ?_
  have H2:=H1.fz s3;have fT:((o7 l aN).1:List aG)=(Df l aN):=by first | (unfold Df; rw [aS hc17]; done) | (unfold OT; rw [aS hc17])
  have gu:((oJ (Jm aN) es):List rM)=(OT l aN es):=by first | (unfold Df; rw [aS hc17]; done) | (unfold OT; rw [aS hc17])
  exact⟨jZ,j3,Y,by rw [<- fT,<- gu]; exact((((H2.rm s4).sel s1).mV 1 2).sel s3)⟩
 rw [aP hc17] at K2;refine jy ?_;refine bQ Y<|bX Y<|iP Y ?_
 have kC:(l:List aG)=(Df l aN):=by first | (unfold Df; rw [aP hc17]; done) | (unfold OT; rw [aP hc17])
 have nC:(es:List rM)=(OT l aN es):=by first | (unfold Df; rw [aP hc17]; done) | (unfold OT; rw [aP hc17])
 exact⟨A,c,Y,by rw [<- kC,<- nC]; exact(K2.rm s1)⟩
theorem am2{es:List rM}(H0:Hp b S w (dW ou 169 [aI bG,.slice A l.length c,.map (some gm)]::dH aZ A c l::rA xA wI gm es::fU gQ 5 (es.map Prod.snd)::F))(aN:Int)(hl:l.length<=100000) :
    bO prog 192 #[gI ou,aI aN] w λv w'=>∃(A1:ah)(c1:Nat),v=.tuple #[]/\Hp b S w' (dW ou 169 [aI bG,.slice A1 ((EO l aN).length) c1,.map (some gm)]::dH aZ A1 c1 (EO l aN)::rA xA wI gm (oJ ⟨aN,true⟩ es)::fU gQ 5 ((oJ ⟨aN,true⟩ es).map Prod.snd)::F):=by
 refine rU func192 ntmps192 Y<|bQ Y<|mv Y<|ev (d9 Y)<|j6 ou 1 yw H0 s0 Y<|mv Y<|gU Y (amW _ (H0.s s1).any aN aj) ?_
 rintro _ w1 ⟨jZ,j3,rfl,h1⟩;have K1:=H0.f1 h1;refine ev (d9 Y)<|yV ou 1 yw Y<|yD Y K1 s1 Y λw2 K2=>dn<|jC<|mv Y<|ev (d9 Y)<|j6 ou 2 yx K2 s0 Y<|mv Y<|ev (jX Y (by apply qw))<|aAb (z:=(nQ aN)) K2 s3 vL ES rfl rfl λw3 K3=>?_
 have H1:=K3.akl s4 (nQ aN);refine jD<|qc (xV Y ?_)
 have H2:=H1.fz s3;exact⟨jZ,j3,Y,by skip; exact((((H2.rm s4).sel s1).mV 1 2).sel s3)⟩
theorem ark{es:List rM}(H0:Hp b S w (dW ou 169 [aI bG,.slice A l.length c,.map (some gm)]::dH aZ A c l::rA xA wI gm es::fU gQ 5 (es.map Prod.snd)::F))  :
    bO prog 115 #[gI ou] w λv w'=>v=.tuple #[]/\Hp b S w' (dW ou 169 [aI bG,.slice none (([]:List aG).length) 0,.map (some gm)]::dH aZ none 0 ([]:List aG)::rA xA wI gm ([]:oz)::fU gQ 5 (([]:oz).map Prod.snd)::F):=by
 refine rU func115 ntmps115 Y<|bQ Y<|ev (d9 Y)<|yV ou 1 yw Y<|yD Y H0 s0 Y λw1 K1=>dn<|jC<|mv Y<|ev (d9 Y)<|j6 ou 2 yx K1 s0 Y<|aI8 K1 s2 ES Y λw2 K2=>?_
 have H1:=K2.akk s3 (List.nil_sublist _);refine jD<|qc (xV Y ?_)
 have H2:=H1.push (RV aZ _ _);exact⟨Y,((((H2.rm s4).sel s1).mV 1 2).sel s3)⟩
theorem OU{es:List rM}(H0:Hp b S w (dW ou 169 [aI bG,.slice A l.length c,.map (some gm)]::dH aZ A c l::rA xA wI gm es::fU gQ 5 (es.map Prod.snd)::F))(hl:l.length<=100000) :
    bO prog 81 #[gI ou] w λv w'=>∃(A0:ah)(c0:Nat),v=.slice A0 ((dK l).length) c0/\Hp b S w' (aQ aZ 132 A0 c0 (dK l)::dW ou 169 [aI bG,.slice A l.length c,.map (some gm)]::dH aZ A c l::rA xA wI gm es::fU gQ 5 (es.map Prod.snd)::F):=by
 refine rU func81 ntmps81 Y<|iT Y<|bQ Y<|ev (d9 Y)<|j6 ou 1 yw H0 s0 Y<|gU Y (af4 _ (H0.s s1).any aj) ?_
 rintro _ w1 ⟨jZ,j3,rfl,h1⟩;have K1:=H0.f1 h1;refine bX Y<|iP Y ?_
 exact⟨jZ,j3,Y,K1⟩
def af9(s:List aG × oz)(x:aG):List aG × oz:=if x.gH=true then(EO s.1 x.aD,oJ ⟨x.aD,true⟩ s.2) else s
def qJ(l:List aG)(es:oz)(k:Nat):List aG × oz:=(l.take k).foldl af9 (l,es)
theorem Jo{es:oz}{k:Nat}(hx:l[k]? = some x)(ht:x.gH=true):qJ l es (k+1)=(EO (qJ l es k).1 x.aD,oJ ⟨x.aD,true⟩ (qJ l es k).2):=by
  unfold qJ; rw [fC hx,zY];show af9 _ x=_;unfold af9; rw [aS ht]
theorem OV{es:oz}{k:Nat}(hx:l[k]? = some x)(ht:x.gH=false):qJ l es (k+1)=qJ l es k:=by
  unfold qJ; rw [fC hx,zY];show af9 _ x=_;unfold af9; rw [aP (by rw [ht]; decide)]
theorem aiV(l:List aG)(c:Int):(EO l c).length<=l.length:=lI (ni _ _) (wY l)
theorem aga(l:List aG)(es:oz):∀ k,(qJ l es k).1.length<=l.length
  | 0=>kJ _
  | k+1=>by
    have h:=aga l es k
    rcases F6 k l.length with hk | hk
    · obtain⟨x,hx⟩:=bn hk
      cases ht:x.gH with
      | true=>rw [Jo hx ht]; exact lI (aiV _ _) h
      | false=>rw [OV hx ht]; exact h
    · unfold qJ at h ⊢
      rw [gV aj] at h ⊢; exact h
def vB(bit:Int)(n:Nat):Nat:=(if 0>bit then(0:Int) else bit).toNat % (8*n)
def avM(xs:List (BitVec 8))(b:Nat):List (BitVec 8):=xs.set (b / 8) (xs.getD (b / 8) 0#8 ^^^ (1#8 <<< (b % 8)))
def QY(c bit:Int)(es:oz):oz:=if(gD ⟨c,false⟩ es).2.2.length=0 then es else gK ⟨c,false⟩ ((gD ⟨c,false⟩ es).1,(gD ⟨c,false⟩ es).2.1,avM (gD ⟨c,false⟩ es).2.2 (vB bit (gD ⟨c,false⟩ es).2.2.length)) es
theorem agb{es:List rM}(H0:Hp b S w (dW ou 169 [aI bG,.slice A l.length c,.map (some gm)]::dH aZ A c l::rA xA wI gm es::fU gQ 5 (es.map Prod.snd)::F))(hl:l.length<=100000) :
    bO prog 112 #[gI ou] w λv w'=>∃(A1:ah)(c1:Nat),v=.tuple #[]/\Hp b S w' (dW ou 169 [aI bG,.slice A1 (((qJ l es l.length).1).length) c1,.map (some gm)]::dH aZ A1 c1 ((qJ l es l.length).1)::rA xA wI gm ((qJ l es l.length).2)::fU gQ 5 (((qJ l es l.length).2).map Prod.snd)::F):=by
 refine rU func112 ntmps112 Y ?_;have H1:=H0.push (H0.s s1);refine bQ Y<|ev (d9 Y)<|j6 ou 1 yw H1 s1 Y<|ev (eX jK Y)<|mv Y<|dn<|cB ?_
 have fT:(l:List aG)=(qJ l es 0).1:=by rfl
 rw [fT] at H1;have gu:(.slice A l.length c:Value)=.slice A (((qJ l es 0).1).length) c:=by rfl
 try rw [gu] at H1
 have kC:es=(qJ l es 0).2:=by rfl
 rw [kC] at H1;refine Lp ((H1.cU 3 2).cU 0 2) (λl0 rk mJ lJ wJ=>∃(k:Nat)(A1:ah)(c1:Nat),lJ=(9,aI ((k:Nat):Int))::l0/\mJ=l.length - k/\k<=l.length/\Hp b S wJ (dH aZ A1 c1 ((qJ l es k).1)::dW ou 169 [aI bG,.slice A1 (((qJ l es k).1).length) c1,.map (some gm)]::rA xA wI gm ((qJ l es k).2)::fU gQ 5 (((qJ l es k).2).map Prod.snd)::rk)) ⟨0,A,c,Y,Y,fE _,((H1.sel s2).mV 1 4)⟩ Y ?_;rintro _ _ w1 ⟨k,A1,c1,rfl,rfl,hk,K1⟩;refine rg<|ev (fD Y Y)<|dn<|pG Y (λOq=>?_) (λOq=>?_)
 ·refine jy ?_;refine aY<|cB<|rg ?_
  obtain⟨x1,bN⟩:=bn (xs:=l) (i:=k) aj;refine ev (eP (i:=k) jK mH Y Y Y (aM bN) ((K1.s s4).some_ bN))<|ev (iU oU Y Y ((K1.s s4).fF bN))<|al yu Y K1 λg1 w2 K2=>sty Y K2 s0 Y λw3 K3=>dn<|rg<|j6 g1 3 tV K3 s0 Y<|dn<|bP Y (λrz=>?_) (λrz=>?_)
  ·have hrl:=aga l es k;refine jC<|mv Y<|j6 g1 0 mM K3 s0 Y<|gU Y (am2 ((((K3.sel s0).mV 3 2).sel s3).sel s4) x1.aD aj) ?_
   rintro _ w4 ⟨aAk,aAl,rfl,K4⟩;refine jD<|iw (gy ?_)
   refine jC<|ev (dP Y Y)<|mv Y<|jD ?_
   have nC:((EO ((qJ l es k).1) x1.aD):List aG)=(qJ l es (k+1)).1:=by first | rw [Jo bN rz] | rw [OV bN rz]
   rw [nC] at K4;have rV:(.slice aAk ((EO ((qJ l es k).1) x1.aD).length) aAl:Value)=.slice aAk (((qJ l es (k+1)).1).length) aAl:=by first | rw [Jo bN rz] | rw [OV bN rz]
   try rw [rV] at K4
   have xW:(oJ ⟨x1.aD,true⟩ ((qJ l es k).2))=(qJ l es (k+1)).2:=by first | rw [Jo bN rz] | rw [OV bN rz]
   rw [xW] at K4;exact dG ⟨(k+1),aAk,aAl,Y,Y,aj,(((K4.rm s4).sel s0).sel s1)⟩ rfl aj
  refine Ci ?_;refine jC<|ev (dP Y Y)<|mv Y<|jD ?_
  have zX:((qJ l es k).1:List aG)=(qJ l es (k+1)).1:=by first | rw [Jo bN rz] | rw [OV bN rz]
  rw [zX] at K3;have hq8:(.slice A1 (((qJ l es k).1).length) c1:Value)=.slice A1 (((qJ l es (k+1)).1).length) c1:=by first | rw [Jo bN rz] | rw [OV bN rz]
  try rw [hq8] at K3
  have zG:(qJ l es k).2=(qJ l es (k+1)).2:=by first | rw [Jo bN rz] | rw [OV bN rz]
  rw [zG] at K3;exact dG ⟨(k+1),A1,c1,Y,Y,aj,(K3.rm s0)⟩ rfl aj
 refine sP (mY (mY (um (qc (xV Y ?_)))));have vg:((qJ l es k).1:List aG)=((qJ l es l.length).1):=by rw [show k=l.length from by omega]
 have hq11:((qJ l es k).2:List rM)=((qJ l es l.length).2):=by rw [show k=l.length from by omega]
 exact⟨A1,c1,Y,by rw [<- vg,<- hq11]; exact(((K1.rm s4).sel s0).sel s1)⟩
theorem am3{es:List (bT × Option Addr × Nat × List (BitVec 8))}(H0:Hp b S w (dW ou 169 [aI bG,.slice A l.length c,.map (some gm)]::dH aZ A c l::rA xA wI gm es::fU gQ 5 (es.map Prod.snd)::F))(aN:Int)(bit:Int)(hb:(gD ⟨aN,false⟩ es).2.2.length<=1000)(hi:qC bit) :
    bO prog 114 #[gI ou,aI aN,aI bit] w λv w'=>v=aI (if(gD ⟨aN,false⟩ es).2.2.length=0 then 5 else 0)/\Hp b S w' (dW ou 169 [aI bG,.slice A l.length c,.map (some gm)]::dH aZ A c l::rA xA wI gm (QY aN bit es)::fU gQ 5 ((QY aN bit es).map Prod.snd)::F):=by
 refine rU func114 ntmps114 Y ?_;have hi2:bit<=9223372036854775807:=hi.2;have hi3:(if 0>bit then(0:Int) else bit).toNat<=9223372036854775807:=by split <;> omega
 refine iT Y<|bQ Y<|ev (d9 Y)<|j6 ou 2 yx H0 s0 Y<|mv Y<|ev (jX (vs:=[(0,aI aN),(1,.bool false)]) (cs:=[aI aN,.bool false]) Y (by apply qw))<|ev (Ev.af7 (z:=(⟨aN,false⟩:bT)) H0 s2 vL ES Na rfl rfl)<|bX rfl<|aY<|bQ rfl<|ev (eX Ji rfl)<|ev (iM rfl rfl)<|dn<|mZ rfl (λhc17=>?_) (λhc17=>?_)
 ·refine iT Y<|wO Y ?_
  have fT:(5:Int)=(if(gD ⟨aN,false⟩ es).2.2.length=0 then 5 else 0):=by rw [aS aj]
  have gu:(es:List (bT × Option Addr × Nat × List (BitVec 8)))=(QY aN bit es):=by unfold QY; rw [aS aj]
  exact⟨by rw [<- fT] <;> rfl,by rw [<- gu]; exact H0⟩
 have hlt:=Nat.mod_lt (if 0>bit then(0:Int) else bit).toNat (y:=8*(gD (⟨aN,false⟩:bT) es).2.2.length) aj;have hsb:vB bit (gD (⟨aN,false⟩:bT) es).2.2.length<8*(gD (⟨aN,false⟩:bT) es).2.2.length:=hlt;refine jy ?_;refine bQ Y<|ev (Ev.max2 Y Y)<|gJ (t:=19) Y (aV (Value.int .i64) (show((if 0>bit then 0 else bit):Int)=(((if 0>bit then(0:Int) else bit).toNat:Nat):Int) by split <;> omega))<|mv rfl<|ev (eX Ji rfl)<|ev (Ev.mul rfl rfl (zP aj aj))<|ev (Ev.aDJ (a:=(if 0>bit then(0:Int) else bit).toNat) (c:=8*((gD (⟨aN,false⟩:bT) es).2.2).length) rfl rfl rfl aj aj)<|gJ (t:=23) rfl (aV (Value.int .i64) (show(((((if 0>bit then(0:Int) else bit).toNat) % (8*((gD (⟨aN,false⟩:bT) es).2.2).length):Nat):Int):Int)=((vB bit (gD (⟨aN,false⟩:bT) es).2.2.length:Nat):Int) by rfl))<|bX rfl ?_
 obtain⟨j,hj⟩:=avH (k:=(⟨aN,false⟩:bT)) (es:=es) aj;have H1:=H0.aAd s3 hj;obtain⟨x1,bN⟩:=bn (xs:=(gD (⟨aN,false⟩:bT) es).2.2) (i:=(vB bit (gD (⟨aN,false⟩:bT) es).2.2.length) / 8) aj;refine He H1 (λ_ K=>((K.rm s4).cU 0 3)) (λl0 rk lJ wJ=>lJ=(7,.slice ((gD (⟨aN,false⟩:bT) es).1) ((((gD (⟨aN,false⟩:bT) es).2.2).set ((vB bit (gD (⟨aN,false⟩:bT) es).2.2.length) / 8) (x1 ^^^ (1#8 <<< ((vB bit (gD (⟨aN,false⟩:bT) es).2.2.length) % 8)))).length) ((gD (⟨aN,false⟩:bT) es).2.1))::(14,.slice ((gD (⟨aN,false⟩:bT) es).1) ((((gD (⟨aN,false⟩:bT) es).2.2).set ((vB bit (gD (⟨aN,false⟩:bT) es).2.2.length) / 8) (x1 ^^^ (1#8 <<< ((vB bit (gD (⟨aN,false⟩:bT) es).2.2.length) % 8)))).length) ((gD (⟨aN,false⟩:bT) es).2.1))::(15,.slice ((gD (⟨aN,false⟩:bT) es).1) ((((gD (⟨aN,false⟩:bT) es).2.2).set ((vB bit (gD (⟨aN,false⟩:bT) es).2.2.length) / 8) (x1 ^^^ (1#8 <<< ((vB bit (gD (⟨aN,false⟩:bT) es).2.2.length) % 8)))).length) ((gD (⟨aN,false⟩:bT) es).2.1))::(20,.slice ((gD (⟨aN,false⟩:bT) es).1) ((((gD (⟨aN,false⟩:bT) es).2.2).set ((vB bit (gD (⟨aN,false⟩:bT) es).2.2.length) / 8) (x1 ^^^ (1#8 <<< ((vB bit (gD (⟨aN,false⟩:bT) es).2.2.length) % 8)))).length) ((gD (⟨aN,false⟩:bT) es).2.1))::l0/\Hp b S wJ (aQ gQ 5 ((gD (⟨aN,false⟩:bT) es).1) ((gD (⟨aN,false⟩:bT) es).2.1) (((gD (⟨aN,false⟩:bT) es).2.2).set ((vB bit (gD (⟨aN,false⟩:bT) es).2.2.length) / 8) (x1 ^^^ (1#8 <<< ((vB bit (gD (⟨aN,false⟩:bT) es).2.2.length) % 8))))::fU gQ 5 ((es.map Prod.snd).eraseIdx j)::dW ou 169 [aI bG,.slice A l.length c,.map (some gm)]::rA xA wI gm es::rk)) (λhns H2=>?_) ?_
 ·have k1:=((H2.rm s4).cU 0 3);refine lQ 0 Y Y k1<|lQ 1 Y Y k1<|l9 2 Y (λ_ _=>Ev.aI3 (a:=vB bit (gD (⟨aN,false⟩:bT) es).2.2.length) (c:=8) Y Y Y aj aj) k1<|lQ 5 Y Y k1<|l9 6 Y (λ_ _=>Ev.aDJ (a:=vB bit (gD (⟨aN,false⟩:bT) es).2.2.length) (c:=8) Y Y Y aj aj) k1<|l9 7 Y (λ_ _=>Ev.aI2 (a:=1#8) (c:=(vB bit (gD (⟨aN,false⟩:bT) es).2.2.length) % 8) Y Y aj) k1<|O1 3 Y<|ev (eP (i:=(vB bit (gD (⟨aN,false⟩:bT) es).2.2.length) / 8) Ji avJ Y Y Y (aM bN) ((H2.o s0).some_ bN))<|aO k1<|O1 4 Y<|ev (kP aDU Y ((H2.o s0).fJ (j:=0) bN Y))<|aO k1<|l9 8 Y (λ_ _=>Ev.aI1 (a:=x1) (b:=(1#8 <<< ((vB bit (gD (⟨aN,false⟩:bT) es).2.2.length) % 8))) Y Y) k1<|O1 9 Y<|ev (eP (i:=(vB bit (gD (⟨aN,false⟩:bT) es).2.2.length) / 8) Ji avJ Y Y Y (aM bN) ((H2.o s0).some_ bN))<|aO k1<|O1 10 Y<|se (i:=(vB bit (gD (⟨aN,false⟩:bT) es).2.2.length) / 8) (f:=0) (x:=x1) (x':=(x1 ^^^ (1#8 <<< ((vB bit (gD (⟨aN,false⟩:bT) es).2.2.length) % 8)))) (ds:=[.int .u8 (((x1 ^^^ (1#8 <<< ((vB bit (gD (⟨aN,false⟩:bT) es).2.2.length) % 8)))).toNat:Int)]) H2 s0 Y Y Y bN Y avJ (nX Y) Y (by rintro _ _ _ ⟨⟩; rfl) λw1 K1=>?_
  have hl1:(((gD (⟨aN,false⟩:bT) es).2.2).set ((vB bit (gD (⟨aN,false⟩:bT) es).2.2.length) / 8) (x1 ^^^ (1#8 <<< ((vB bit (gD (⟨aN,false⟩:bT) es).2.2.length) % 8)))).length=((gD (⟨aN,false⟩:bT) es).2.2).length:=gW ..;refine gJ (t:=14) (u:=.slice ((gD (⟨aN,false⟩:bT) es).1) (((gD (⟨aN,false⟩:bT) es).2.2).length) ((gD (⟨aN,false⟩:bT) es).2.1)) (v:=.slice ((gD (⟨aN,false⟩:bT) es).1) ((((gD (⟨aN,false⟩:bT) es).2.2).set ((vB bit (gD (⟨aN,false⟩:bT) es).2.2.length) / 8) (x1 ^^^ (1#8 <<< ((vB bit (gD (⟨aN,false⟩:bT) es).2.2.length) % 8)))).length) ((gD (⟨aN,false⟩:bT) es).2.1)) Y (by rw [hl1])<|gJ (t:=7) (u:=.slice ((gD (⟨aN,false⟩:bT) es).1) (((gD (⟨aN,false⟩:bT) es).2.2).length) ((gD (⟨aN,false⟩:bT) es).2.1)) (v:=.slice ((gD (⟨aN,false⟩:bT) es).1) ((((gD (⟨aN,false⟩:bT) es).2.2).set ((vB bit (gD (⟨aN,false⟩:bT) es).2.2.length) / 8) (x1 ^^^ (1#8 <<< ((vB bit (gD (⟨aN,false⟩:bT) es).2.2.length) % 8)))).length) ((gD (⟨aN,false⟩:bT) es).2.1)) rfl (by rw [hl1])<|gJ (t:=15) (u:=.slice ((gD (⟨aN,false⟩:bT) es).1) (((gD (⟨aN,false⟩:bT) es).2.2).length) ((gD (⟨aN,false⟩:bT) es).2.1)) (v:=.slice ((gD (⟨aN,false⟩:bT) es).1) ((((gD (⟨aN,false⟩:bT) es).2.2).set ((vB bit (gD (⟨aN,false⟩:bT) es).2.2.length) / 8) (x1 ^^^ (1#8 <<< ((vB bit (gD (⟨aN,false⟩:bT) es).2.2.length) % 8)))).length) ((gD (⟨aN,false⟩:bT) es).2.1)) rfl (by rw [hl1])<|gJ (t:=20) (u:=.slice ((gD (⟨aN,false⟩:bT) es).1) (((gD (⟨aN,false⟩:bT) es).2.2).length) ((gD (⟨aN,false⟩:bT) es).2.1)) (v:=.slice ((gD (⟨aN,false⟩:bT) es).1) ((((gD (⟨aN,false⟩:bT) es).2.2).set ((vB bit (gD (⟨aN,false⟩:bT) es).2.2.length) / 8) (x1 ^^^ (1#8 <<< ((vB bit (gD (⟨aN,false⟩:bT) es).2.2.length) % 8)))).length) ((gD (⟨aN,false⟩:bT) es).2.1)) rfl (by rw [hl1]) ?_
  refine gJ (t:=24) (u:=.slice ((gD (⟨aN,false⟩:bT) es).1) (((gD (⟨aN,false⟩:bT) es).2.2).length) ((gD (⟨aN,false⟩:bT) es).2.1)) (v:=.slice ((gD (⟨aN,false⟩:bT) es).1) ((((gD (⟨aN,false⟩:bT) es).2.2).set ((vB bit (gD (⟨aN,false⟩:bT) es).2.2.length) / 8) (x1 ^^^ (1#8 <<< ((vB bit (gD (⟨aN,false⟩:bT) es).2.2.length) % 8)))).length) ((gD (⟨aN,false⟩:bT) es).2.1)) Y (by rw [hl1]) ?_;have k2:=((K1.rm s4).cU 0 3);refine aO k2<|Dn ⟨Y,((K1.sel s3).mV 1 4)⟩ Y
 rintro _ w2 ⟨rfl,K2⟩;have H3:=K2.aDN hj av s0 s0 s1;refine iT Y<|iP Y ?_
 have kC:(0:Int)=(if(gD ⟨aN,false⟩ es).2.2.length=0 then 5 else 0):=by rw [aP aj]
 have nC:((gK (⟨aN,false⟩:bT) ((gD (⟨aN,false⟩:bT) es).1,(gD (⟨aN,false⟩:bT) es).2.1,(((gD (⟨aN,false⟩:bT) es).2.2).set ((vB bit (gD (⟨aN,false⟩:bT) es).2.2.length) / 8) (x1 ^^^ (1#8 <<< ((vB bit (gD (⟨aN,false⟩:bT) es).2.2.length) % 8))))) es):List (bT × Option Addr × Nat × List (BitVec 8)))=(QY aN bit es):=by unfold QY avM; rw [aP aj,avI bN]
 exact⟨by rw [<- kC] <;> rfl,by rw [<- nC]; exact((H3.mV 0 2).mV 2 2)⟩
def reqs(bY:Array Oper)(i:Nat):List Nat:=match bY[i]? with
  | some o=>(o.after.toList.filter λe=>Region.binds .any e).map (·.on)
  | none=>[]
def am4(bY:Array Oper)(ids:List Nat)(full:Array Bool):Bool:=
  (nodupB ids&&(full.size == bY.size&&(List.range bY.size).all λi=>full.getD i false == ids.contains i))&&((ids.all λi=>decide (i<bY.size)&&(reqs bY i).all λj=>decide (j<i)&&ids.contains j)&&
  ((List.range bY.size).all λr=>ids.contains r||((reqs bY r).any (λj=>!ids.contains j)||ids.all λi=>(reqs bY r).contains i||ids.any λj=>(reqs bY j).contains i)))
theorem Jp(hs:aW.size=bY.size)(i:Nat):i∈Region.ready .any bY aW↔i<bY.size/\aW.getD i false=false/\∀ j∈reqs bY i,aW.getD j false=true:=by
  rw [mem_ready]
  by_cases hi:i<bY.size
  · have h1:aW.getD i true=aW.getD i false:=by
      rw [JN,JN,abt aj]; rfl
    have h2:bY[i]? = some bY[i]:=abt hi;rw [h1]
    constructor
    · rintro⟨h3,o,h4,h5⟩
      refine⟨hi,h3,λj hj=>?_⟩;unfold reqs at hj;rw [h4] at hj;obtain⟨e,he,rfl⟩:=gB.1 hj;obtain⟨he1,he2⟩:=jV.1 he;exact h5 e (by simpa using he1) he2
    · rintro⟨_,h3,h5⟩
      refine⟨h3,bY[i],h2,λe he hb=>h5 e.on ?_⟩;unfold reqs;rw [h2];exact gB.2 ⟨e,jV.2 ⟨by simpa using he,hb⟩,rfl⟩
  · constructor
    · rintro⟨_,o,h4,_⟩
      exact absurd (yU.1 h4).1 hi
    · rintro⟨h,_⟩; exact absurd h hi
theorem YD:∀ {l:List Nat},nodupB l=true->l.Nodup
  | [],_=>List.nodup_nil
  | x::l,h=>by
    simp only [nodupB,bK,dZ] at h
    exact EN.2 ⟨λhm=>(by rw [nR.2 hm] at h; cases h.1),YD h.2⟩
theorem Ht{r i:Nat}(hr:r<aW.size):(aW.setIfInBounds r true).getD i false=if i=r then true else aW.getD i false:=by
  rw [JN,JN,Array.getElem?_setIfInBounds]
  by_cases h:r=i
  · subst h; simp [hr]
  · rw [aP h,aP (λe=>h e.symm)]
theorem avN{l:List Nat}{r:Nat}(hn:l.Nodup)(hr:r∈l)(hs:r<aW.size)(hu:aW.getD r false=false) :
    (l.filter λi=>!(aW.setIfInBounds r true).getD i false).length+1=(l.filter λi=>!aW.getD i false).length:=by
  induction l with
  | nil=>cases hr
  | cons x l ih=>
    obtain⟨h1,h2⟩:=EN.1 hn
    rcases iR.1 hr with rfl | hr'
    · have e:(l.filter λi=>!(aW.setIfInBounds r true).getD i false)=l.filter λi=>!aW.getD i false:=List.filter_congr λi hi=>by
        rw [Ht hs,aP (fun(e:i=r)=>h1 (e▸hi))]
      rw [List.filter_cons_of_neg (by rw [Ht hs,aS rfl]; simp),aiM (by rw [hu]; rfl),e]; rfl
    · have hne:x≠r:=λe=>h1 (e▸hr')
      have:=ih h2 hr';rw [KQ,KQ,Ht hs,aP hne]
      split <;> (try simp only [oV]) <;> omega
theorem akm{ids:List Nat}(h:am4 bY ids full=true)(rest:Nat):∀(fuel:Nat)(aW:Array Bool),aW.size=bY.size->(∀ i,aW.getD i false=true->i∈ids)->
    (∀ i,aW.getD i false=true->∀ j∈reqs bY i,aW.getD j false=true)->fuel=rest+(ids.filter λi=>!aW.getD i false).length->qM bY ids rest full fuel aW=true:=by
  simp only [am4,bK,R3,ng,List.mem_range,bM,eT,nR,KP,dZ] at h
  obtain⟨⟨hn,hfs,hfull⟩,am5,hoth⟩:=h;have hnd:=YD hn;have hlt:∀ i∈ids,i<bY.size:=λi hi=>(am5 i hi).1
  -- all aW: the array is the full one
  have hfl:∀ {aW:Array Bool},aW.size=bY.size->(∀ i,aW.getD i false=true->i∈ids)->(∀ i∈ids,aW.getD i false=true)->aW=full:=by
    intro aW hs h1 h2;refine Array.ext aj λi hi1 hi2=>?_;have e1:aW.getD i false=aW[i]:=by rw [JN,abt hi1]; rfl
    have e2:full.getD i false=full[i]:=by rw [JN,abt hi2]; rfl
    rw [<- e1,<- e2,hfull i aj]
    by_cases hm:i∈ids
    · rw [h2 i hm,nR.2 hm]
    · rw [Bw.2 (λe=>hm (h1 i e)),Bw.2 (λe=>hm (nR.1 e))]
  have hcz:∀ {aW:Array Bool},(ids.filter λi=>!aW.getD i false).length=0↔∀ i∈ids,aW.getD i false=true:=by
    intro aW;rw [List.length_eq_zero_iff,TI]
    simp
  intro fuel
  induction fuel with
  | zero=>
    intro aW hs h1 h2 hf;have hz:=hcz.1 (by omega:(ids.filter λi=>!aW.getD i false).length=0);have hr0:rest=0:=aj;unfold qM;rw [hfl hs h1 hz,hr0]; simp
  | succ f ih=>
    intro aW hs h1 h2 hf;unfold qM
    by_cases he:aW=full
    · have hz:(ids.filter λi=>!aW.getD i false).length=0:=hcz.2 λi hi=>by rw [he,hfull i (hlt i hi)]; exact nR.2 hi
      rw [aS (by rw [he]; simp)]
      simp only [R3]; omega
    · rw [aP (by simpa using he)]
      have hun:∃ i∈ids,aW.getD i false=false:=by
        by_cases hh:∀ i∈ids,aW.getD i false=true
        · exact absurd (hfl hs h1 hh) he
        · simp only [Classical.not_forall] at hh
          obtain⟨i,hi,hx⟩:=hh;exact⟨i,hi,Bw.2 hx⟩
      have hmin:∀ m i,i<=m->i∈ids->aW.getD i false=false->∃ i∈ids,aW.getD i false=false/\∀ j∈reqs bY i,aW.getD j false=true:=by
        intro m
        induction m with
        | zero=>
          intro i hi hm hu;refine⟨i,hm,hu,λj hj=>?_⟩;have:=((am5 i hm).2 j hj).1;omega
        | succ m ihm=>
          intro i hi hm hu
          by_cases hall:∀ j∈reqs bY i,aW.getD j false=true
          · exact⟨i,hm,hu,hall⟩
          · simp only [Classical.not_forall] at hall
            obtain⟨j,hj,hx⟩:=hall;obtain⟨hj1,hj2⟩:=(am5 i hm).2 j hj;exact ihm j aj hj2 (Bw.2 hx)
      obtain⟨i0,hi0,hu0⟩:=hun;obtain⟨i1,hi1,hu1,hr1⟩:=hmin i0 i0 (kJ _) hi0 hu0
      have hin:∀ r∈Region.ready .any bY aW,r∈ids:=by
        intro r hr;obtain⟨hr1,hr2,hr3⟩:=(Jp hs r).1 hr
        rcases hoth r hr1 with h3 | ⟨j,hj,hj2⟩ | h3
        · exact h3
        · exact absurd (h1 j (hr3 j hj)) (λhm=>(by rw [nR.2 hm] at hj2; cases hj2))
        · exfalso
          have hall:∀ m i,bY.size<=i+m->i∈ids->aW.getD i false=true:=by
            intro m
            induction m with
            | zero=>intro i hi hm; have:=hlt i hm; omega
            | succ m ihm=>
              intro i hi hm
              rcases h3 i hm with h4 | ⟨j,hj,hj2⟩
              · exact hr3 i h4
              · have hij:=((am5 j hj).2 i hj2).1
                exact h2 j (ihm j aj hj) i hj2
          have:=hall bY.size i0 aj hi0;rw [this] at hu0; cases hu0
      simp only [bK,dZ,ng]
      refine⟨?_,λr hr=>⟨nR.2 (hin r hr),?_⟩⟩
      · have:i1∈Region.ready .any bY aW:=(Jp hs i1).2 ⟨hlt i1 hi1,hu1,hr1⟩
        cases hq:Region.ready .any bY aW with
        | nil=>rw [hq] at this; cases this
        | cons _ _=>rfl
      · obtain⟨hr1,hr2,hr3⟩:=(Jp hs r).1 hr
        have hrs:r<aW.size:=aj;refine ih _ (by simpa using hs) (λi hi=>?_) (λi hi j hj=>?_) ?_
        · rw [Ht hrs] at hi
          split at hi
          · rename_i e; rw [e]; exact hin r hr
          · exact h1 i hi
        · rw [Ht hrs] at hi ⊢
          split
          · rfl
          · split at hi
            · rename_i e; subst e; exact hr3 j hj
            · exact h2 i hi j hj
        · have:=avN hnd (hin r hr) hrs hr2
          omega
theorem aAm{ids:List Nat}{rest fuel n:Nat}(h:(am4 bY ids full&&(n == bY.size&&fuel == rest+ids.length))=true):qM bY ids rest full fuel (List.replicate n false).toArray=true:=by
  simp only [bK,R3] at h
  have h0:∀ i,(List.replicate n false).toArray.getD i false=false:=λi=>by
    rw [JN]
    by_cases hi:i<n <;> simp [hi]
  refine akm h.1 rest fuel _ (by simpa using h.2.1) (λi hi=>?_) (λi hi=>?_) ?_
  · rw [h0] at hi; cases hi
  · rw [h0] at hi; cases hi
  · rw [h.2.2]
    congr 1
    symm
    rw [Gm.2 (λi _=>by rw [h0]; rfl)]
def UM(es:oz)(x:aG):Bool:=!decide (((iQ (gD (⟨x.aD,false⟩:bT) es).2.2).toNat:Int)=x.Sum)
def Ao(l:List aG)(es:oz):List (aG × Bool):=(dK l).map λx=>(x,UM es x)
theorem arl{es:oz}{k:Nat}(h:(dK l)[k]? = some x):((dK l).take k).map (fun(x:aG)=>(x,UM es x))++[(x,UM es x)] <+: Ao l es:=by
  refine⟨((dK l).drop (k+1)).map (fun(x:aG)=>(x,UM es x)),?_⟩;unfold Ao
  conv=>rhs; rw [<- FC (k+1) (dK l)]
  rw [tu,fC h,tu]; rfl
theorem Ee(l:List aG):(dK l).length<=l.length:=lI (ni _ _) (wY l)
theorem UN:mg prog 93:=ay
theorem QZ:dL prog 132 2 2:=ay
abbrev akn:=List.toArray [true,true,true,true,true,true,true,true,true,true,true,true,true,true,true,true]
theorem aaQ{gp:Nat}{es:List rM}(hn:l.length<=100000) :
    Iter prog 196 [gI gp] (fun(x:aG × Bool)=>[.agg #[aI x.1.aD,aI x.1.aB,gP x.1.Sum,.bool x.1.gH,.bool x.1.Bad],.bool x.2]) (Ao l es) b S [dW gp 93 [gI ou],dW ou 169 [aI bG,.slice A l.length c,.map (some gm)],dH aZ A c l,rA xA wI gm es,fU gQ 5 (es.map Prod.snd)]:=by
 intro lr Jf Jx w F0 H0 h0 hY;refine WP.ahK func196 Y ntmps196 Y ?_;have K0:=uI (F:=F0) H0;have hrl:=Ee l;refine rg<|ev (eF UN Y (K0.x s0) Y)<|ev (d9 Y)<|ev (fQ (q:=⟨ou,1,none⟩) yw Y Y)<|ev (eF aDW Y (K0.x s1) Y)<|zq Y Y Y aAj (af4 _ (K0.s s2).any aj) Y ?_
 rintro _ w1 ⟨jZ,j3,rfl,h1⟩;have K1:=K0.f1 h1;have JO:=(K1.o s0).bC;refine ev (eX jK Y)<|mv Y<|dn<|cB<|qZ (λmJ lJ wJ=>∃(k:Nat)(F:List lG),lJ=[(0,.func (.yield lr) #[] #[]),(1,gI gp),(9,.slice jZ ((dK l).length) j3),(10,aI (((dK l).length:Nat):Int)),(11,aI ((k:Nat):Int))]/\mJ=(dK l).length - k/\k<=(dK l).length/\(Jf (((dK l).take k).map fun(x:aG)=>(x,UM es x)) F)/\Hp b S wJ (aQ aZ 132 jZ j3 (dK l)::dW gp 93 [gI ou]::dW ou 169 [aI bG,.slice A l.length c,.map (some gm)]::dH aZ A c l::rA xA wI gm es::fU gQ 5 (es.map Prod.snd)::F)) ⟨0,F0,Y,Y,fE _,by simpa using h0,K1⟩ rfl ?_
 rintro _ _ w2 ⟨k,F,rfl,rfl,hk,hJt,K2⟩;refine rg<|ev (fD Y Y)<|dn<|pG Y (λnN=>?_) (λnN=>?_)
 ·refine zo (gy ?_);refine aY<|cB<|rg ?_
  obtain⟨x1,bN⟩:=bn (xs:=dK l) (i:=k) aj;refine ev (eP (i:=k) jK mH Y Y Y (aM bN) ((K2.o s0).some_ bN))<|ev (iU oU Y Y ((K2.o s0).fF bN))<|al yu Y K2 λg1 w3 K3=>stw Y Y Y mH K3 s0 Y Y λw4 K4=>dn<|WP.dr ak ?_
  have H1:=K4.grow (pW w4).drew;refine WI.block (S:=λwK=>Hp b S wK (dW g1 132 [aI x1.aD,aI x1.aB,gP x1.Sum,.bool x1.gH,.bool x1.Bad]::aQ aZ 132 jZ j3 (dK l)::dW gp 93 [gI ou]::dW ou 169 [aI bG,.slice A l.length c,.map (some gm)]::dH aZ A c l::rA xA wI gm es::fU gQ 5 (es.map Prod.snd)::F)) [(0,15,.func (.yield lr) #[] #[]),(1,16,.agg #[aI x1.aD,aI x1.aB,gP x1.Sum,.bool x1.gH,.bool x1.Bad]),(2,17,gI ou),(6,21,gI g1),(11,26,.pointer (some ⟨g1,2,none⟩)),(3,18,gI ou),(7,22,aI x1.aD),(12,27,gP x1.Sum),(4,19,.pointer (some ⟨ou,2,none⟩)),(8,23,.agg #[aI x1.aD,.bool false]),(5,20,.map (some gm)),(9,24,.slice ((gD (⟨x1.aD,false⟩:bT) es).1) (((gD (⟨x1.aD,false⟩:bT) es).2.2).length) ((gD (⟨x1.aD,false⟩:bT) es).2.1)),(10,25,gP ((iQ ((gD (⟨x1.aD,false⟩:bT) es).2.2)).toNat:Int)),(13,28,.bool (!decide (((iQ ((gD (⟨x1.aD,false⟩:bT) es).2.2)).toNat:Int)=x1.Sum)))] 2 (List.toArray [true,true,true,true,true,true,true,true,true,true,true,true,true,true,false,false]) (aAm ak) Y Y Y ?_ H1 ?_
  ·simp only [wC,mP,xF,xG,uK]
   refine⟨?_,?_,?_,?_,?_,?_,?_,?_,?_,?_,?_,?_,?_,?_⟩
   ·exact⟨_,Y,Y,Y,Y,xD (λ_ hK=>(bq Y))⟩
   ·exact⟨_,Y,Y,Y,Y,xD (λ_ hK=>(fK oU Y Y (hK.x s0)))⟩
   ·exact⟨_,Y,Y,Y,Y,xD (λ_ hK=>(eF UN Y (hK.x s2) Y))⟩
   ·exact⟨_,Y,Y,Y,Y,xD (λ_ hK=>(fQ (q:=⟨g1,0,none⟩) mM Y Y))⟩
   ·exact⟨_,Y,Y,Y,Y,xD (λ_ hK=>(fQ (q:=⟨g1,2,none⟩) QZ Y Y))⟩
   ·exact⟨_,Y,Y,Y,Y,xD (λ_ hK=>(d9 Y))⟩
   ·exact⟨_,Y,Y,Y,Y,xD (λ_ hK=>(eF jN Y (hK.x s0) Y))⟩
   ·exact⟨_,Y,Y,Y,Y,xD (λ_ hK=>(eF Xo Y (hK.x s0) Y))⟩
   ·exact⟨_,Y,Y,Y,Y,xD (λ_ hK=>(fQ yx Y Y))⟩
   ·exact⟨_,Y,Y,Y,Y,xD (λ_ hK=>(jX Y (by apply qw)))⟩
   ·exact⟨_,Y,Y,Y,Y,xD (λ_ hK=>(eF aAi Y (hK.x s3) Y))⟩
   ·exact⟨_,Y,Y,Y,Y,xD (λ_ hK=>(Ev.af7 hK s5 vL ES Na Y Y))⟩
   ·exact⟨_,Y,Y,Y,Y,Qi.call Y Y Y arf (λ_ hK=>(Yz _ (hK.aq8 s6 (⟨x1.aD,false⟩:bT))).mono (by rintro _ _ ⟨rfl,gu⟩; exact⟨rfl,hK.grow gu.ext⟩))⟩
   ·exact⟨_,Y,Y,Y,Y,xD (λ_ hK=>(rY Y Y))⟩
  intro w5 K5;refine WI.one 14 ak Y ?_;have hy1:=hY ((((dK l).take k).map fun(x:aG)=>(x,UM es x))) (x1,UM es x1) _ _ [dW g1 132 [aI x1.aD,aI x1.aB,gP x1.Sum,.bool x1.gH,.bool x1.Bad],aQ aZ 132 jZ j3 (dK l)] hJt (arl bN) (uI (F:=[dW gp 93 [gI ou],dW ou 169 [aI bG,.slice A l.length c,.map (some gm)],dH aZ A c l,rA xA wI gm es,fU gQ 5 (es.map Prod.snd),dW g1 132 [aI x1.aD,aI x1.aB,gP x1.Sum,.bool x1.gH,.bool x1.Bad],aQ aZ 132 jZ j3 (dK l)]) ((K5.mV 0 2).mV 2 5));refine WL.yield trivial Y Y hy1 (by rintro e w' (⟨rfl,_⟩ | ⟨rfl,_⟩) <;> exact⟨_,rfl⟩) rfl rfl rfl ?_;rintro v w6 (⟨hv,F1,hJ1,K6⟩ | ⟨hv,F1,hJ1,K6⟩)
  ·cases hv
   have K6c:=uI (F:=F1) K6;refine WI.nx<|WI.block (S:=λwK=>Hp b S wK (dW gp 93 [gI ou]::dW ou 169 [aI bG,.slice A l.length c,.map (some gm)]::dH aZ A c l::rA xA wI gm es::fU gQ 5 (es.map Prod.snd)::dW g1 132 [aI x1.aD,aI x1.aB,gP x1.Sum,.bool x1.gH,.bool x1.Bad]::aQ aZ 132 jZ j3 (dK l)::F1)) [(15,30,.bool false)] 0 akn ak Y Y Y ?_ K6c ?_
   ·simp only [wC,mP,xF,xG,uK]
    exact⟨_,Y,Y,Y,Y,xD (λ_ hK=>(iG (b:=true) Y))⟩
   intro w7 K7;refine WI.dn ak<|bP Y (λ_h=>absurd _h au) (λ_h=>?_)
   refine zo (iw (gy ?_));refine jC<|ev (dP Y Y)<|mv Y<|jD<|dG ⟨(k+1),F1,Y,Y,aj,by rw [fC bN,tu]; assumption,(((K7.rm s5).mV 0 5).sel s5)⟩ rfl aj
  ·cases hv
   have K6c:=uI (F:=F1) K6;refine WI.nx<|WI.block (S:=λwK=>Hp b S wK (dW gp 93 [gI ou]::dW ou 169 [aI bG,.slice A l.length c,.map (some gm)]::dH aZ A c l::rA xA wI gm es::fU gQ 5 (es.map Prod.snd)::dW g1 132 [aI x1.aD,aI x1.aB,gP x1.Sum,.bool x1.gH,.bool x1.Bad]::aQ aZ 132 jZ j3 (dK l)::F1)) [(15,30,.bool true)] 0 akn ak Y Y Y ?_ K6c ?_
   ·simp only [wC,mP,xF,xG,uK]
    exact⟨_,Y,Y,Y,Y,xD (λ_ hK=>(iG (b:=false) Y))⟩
   intro w8 K8;refine WI.dn ak<|bP Y (λ_h=>?_) (λ_h=>absurd _h au)
   exact jf (iX (fO (fO (iX (l8.alK Y ⟨⟨_,Y⟩,.inr ⟨_,_,hJ1,(uI (F:=[dW gp 93 [gI ou],dW ou 169 [aI bG,.slice A l.length c,.map (some gm)],dH aZ A c l,rA xA wI gm es,fU gQ 5 (es.map Prod.snd)]) (K8.cU 5 2))⟩⟩)))))
 exact sP (mY (mY (um (l8.aoB (l8.alK Y ⟨⟨_,Y⟩,.inl ⟨_,by rw [gV aj] at hJt; exact hJt,(uI (F:=[dW gp 93 [gI ou],dW ou 169 [aI bG,.slice A l.length c,.map (some gm)],dH aZ A c l,rA xA wI gm es,fU gQ 5 (es.map Prod.snd)]) (K2.rm s0))⟩⟩)))))
def ZO(L:List lG):lG where
  W:=λg=>∃ r∈L,r.W g
  ok:=λS w=>(∀ r∈L,r.ok S w)/\L.Pairwise fun(r s:lG)=>∀(g:Nat),r.W g->¬ s.W g
  sub:=λhs h=>⟨λr hr=>r.sub hs (h.1 r hr),h.2⟩
  keep:=λhm h=>⟨λr hr=>r.keep (λg hg=>hm g (hg.imp (λh=>⟨r,hr,h⟩) id)) (h.1 r hr),h.2⟩
section
variable {b w:World}{S:Nat->Prop}{rs rest L L':List lG}
theorem Hp.allOut(H:Hp b S w (ZO L::rs)):Hp b S w (L++rs) where
  ext:=H.ext
  ok r hr:=by
    have hS:∀ g,Rd b S (ZO L::rs) w g->Rd b S (L++rs) w g:=by
      rintro g (h | ⟨h1,h2,h3⟩)
      · exact .inl h
      · refine .inr ⟨h1,h2,λr hr hw=>?_⟩
        rcases kX.1 hr with h | h
        · exact h3 (ZO L) av ⟨r,h,hw⟩
        · exact h3 r (by simp [h]) hw
    rcases kX.1 hr with h | h
    · exact r.sub hS ((H.ok (ZO L) av).1 r h)
    · exact r.sub hS (H.ok r (by simp [h]))
  lo r hr g hg:=by
    rcases kX.1 hr with h | h
    · exact H.lo (ZO L) av g ⟨r,h,hg⟩
    · exact H.lo r (by simp [h]) g hg
  dis:=by
    have hd:=nW.1 H.dis;exact zk.2 ⟨(H.ok (ZO L) av).2,hd.2,λa ha c hc g hg=>hd.1 c hc g ⟨a,ha,hg⟩⟩
theorem Hp.allIn(H:Hp b S w (L++rs)):Hp b S w (ZO L::rs) where
  ext:=H.ext
  ok r hr:=by
    have hS:∀ g,Rd b S (L++rs) w g->Rd b S (ZO L::rs) w g:=by
      rintro g (h | ⟨h1,h2,h3⟩)
      · exact .inl h
      · refine .inr ⟨h1,h2,λr hr hw=>?_⟩
        rcases iR.1 hr with h | h
        · subst h; obtain⟨q,hq,hw⟩:=hw; exact h3 q (kX.2 (.inl hq)) hw
        · exact h3 r (kX.2 (.inr h)) hw
    rcases iR.1 hr with h | h
    · subst h
      exact⟨λq hq=>q.sub hS (H.ok q (kX.2 (.inl hq))),(zk.1 H.dis).1⟩
    · exact r.sub hS (H.ok r (kX.2 (.inr h)))
  lo r hr g hg:=by
    rcases iR.1 hr with h | h
    · subst h; obtain⟨q,hq,hw⟩:=hg; exact H.lo q (kX.2 (.inl hq)) g hw
    · exact H.lo r (kX.2 (.inr h)) g hg
  dis:=by
    have hd:=zk.1 H.dis;exact nW.2 ⟨λc hc g ⟨a,ha,hg⟩=>hd.2.2 a ha c hc g hg,hd.2.1⟩
def ET:=@Hp.allIn
end
section
variable {κ ν:Type}[DecidableEq κ]
theorem Q5(f:ν->ν')(k:κ)(es:List (κ × ν)):dY k (es.map λp=>(p.1,f p.2))=(dY k es).map f:=by
  unfold dY;rw [List.find?_map];show Option.map _ (Option.map _ (es.find? λp=>decide (p.1=k)))=_
  cases es.find? (λp=>decide (p.1=k)) <;> rfl
theorem Q7(f:ν->ν')(k:κ)(v:ν)(es:List (κ × ν)):(gK k v es).map (λp=>(p.1,f p.2))=gK k (f v) (es.map λp=>(p.1,f p.2)):=by
  unfold gK;rw [Q5,Option.isSome_map]
  split
  · rw [OP,OP]
    refine Yq λp _=>?_
    simp only [Function.comp]
    split <;> rfl
  · rw [tu]; rfl
theorem arn(f:ν->ν')(k:κ)(es:List (κ × ν)):(oJ k es).map (λp=>(p.1,f p.2))=oJ k (es.map λp=>(p.1,f p.2)):=by
  unfold oJ;rw [List.filter_map]; rfl
theorem am6{k:κ}{v:ν}{es:List (κ × ν)}(hn:(es.map Prod.fst).Nodup)(h:dY k es=some v):es.Perm ((k,v)::oJ k es):=by
  obtain⟨j,hj⟩:=zA h;rw [<- erase_filter hn hj];obtain⟨hl,he⟩:=sN.1 hj;rw [R5];have h1:es=es.take j++((k,v)::es.drop (j+1)):=by rw [<- he,<- BA hl,FC]
  conv=>lhs; rw [h1]
  exact Gs
theorem agc{k:κ}{v v':ν}{es:List (κ × ν)}(h:dY k es=some v):oJ k (gK k v' es)=oJ k es:=by
  unfold gK oJ;rw [h,aS (show(some v).isSome=true from rfl),List.filter_map]
  have:(λp:κ × ν=>!decide (p.1=k)) ∘ (λp=>if p.1=k then(k,v') else p)=λp=>!decide (p.1=k):=by
    funext p; simp only [Function.comp]; split
    · rename_i hp; simp [hp]
    · rfl
  rw [this];refine(Yq λp hp=>?_).trans (List.map_id _);have:=(jV.1 hp).2;rw [aP (by simpa using this)]; rfl
theorem agd{k:κ}{v':ν}{es:List (κ × ν)}(hn:(es.map Prod.fst).Nodup):dY k (gK k v' es)=some v':=by
  have h2:=LW (k:=k) (v:=v') hn
  cases hg:dY k es with
  | none=>
    have e:gK k v' es=es++[(k,v')]:=by unfold gK; rw [hg]; rfl
    rw [e] at h2 ⊢;exact FW h2 (j:=es.length) av
  | some v=>
    obtain⟨j,hj⟩:=zA hg;rw [Hq hn hj] at h2 ⊢;exact FW h2 (j:=j) (rT (aM hj))
theorem Jq{k k2:κ}{v':ν}(h:k2≠k):∀(es:List (κ × ν)),(es.map λp=>if p.1=k then(k,v') else p).find? (λp=>decide (p.1=k2))=es.find? λp=>decide (p.1=k2)
  | []=>rfl
  | p::es=>by
    rw [mR]
    by_cases hp:p.1=k
    · rw [aS hp,zU (by simpa using Ne.symm h),zU (by rw [hp]; simpa using Ne.symm h)]
      exact Jq h es
    · rw [aP hp]
      by_cases hq:p.1=k2
      · rw [SV (by simpa using hq),SV (by simpa using hq)]
      · rw [zU (by simpa using hq),zU (by simpa using hq)]
        exact Jq h es
theorem FX{k k2:κ}{v':ν}{es:List (κ × ν)}(h:k2≠k):dY k2 (gK k v' es)=dY k2 es:=by
  unfold gK
  split
  · unfold dY; rw [Jq h]
  · unfold dY
    rw [KX,zU (by simpa using Ne.symm h),List.find?_nil,Option.or_none]
end
def ako(ol:List Oper):Bool:=ol.all λo=>match o.op with | .defer _=>false | _=>true
section
variable {P:Program}{n:Cx}{l:List (Nat × Value)}{b w:World}{S:Nat->Prop}{rs rk:List lG}{Q:Exit->Act->World->Prop}{bY:Array Oper}
theorem akp(h:LetsOut (Only K0)):False:=by
  obtain⟨_,_,hq⟩:=h; exact hq.elim
theorem avO{o:Oper}{a:Act}{K:Act->World->Prop}(hnd:∀ c,o.op≠.defer c)(h:o.wp P a w K (Only K0)):o.wpIn n.fence 0 P a w K Q:=by
  refine⟨λ_ _=>trivial,?_⟩;rw [Oper.semAt_eq _ _ _ hnd];unfold Oper.wp at h
  generalize (execOp a.eval o).run P w=r at h ⊢
  cases r with
  | ok x w'=>
    cases x with
    | value v=>exact h
    | skip=>exact h
    | defer d=>exact h
    | enter f args=>
      refine⟨λhd=>(by cases hd),WA _ (FB h ?_)⟩;intro e w'' he
      cases e with
      | returned v=>exact he
      | panicked c=>exact he.elim
      | outgrown=>exact(akp he).elim
    | row row args=>exact⟨λhd=>(by cases hd),λc cs _=>let ⟨v,w',r,s⟩:=h c cs; ⟨v,w',r,stepsIn_wide.2 s⟩⟩
    | _=>exact h.elim
  | halt x w'=>
    cases x <;> exact h.elim
theorem Q8(hnd:∀(i:Nat)(o:Oper),bY[i]? = some o->∀ c,o.op≠.defer c)(hK:∀ a w,K0 a w->Q .normal a w):∀(fuel:Nat)(aW:Array Bool)(a:Act)(w:World),wpAny P .any bY (Only K0) fuel aW a w->wpAnyIn n.fence 0 P .any bY Q fuel aW a w
  | 0,_,_,_,h=>⟨h.1,hK _ _ h.2⟩
  | f+1,aW,a,w,h=>by
    refine⟨λh0=>hK _ _ (h.1 h0),λi hi=>?_⟩;have h1:=h.2 i hi;unfold wpOp at h1;unfold wpOpIn
    cases ho:bY[i]? with
    | none=>rw [ho] at h1; exact Q8 hnd hK f _ _ _ h1
    | some o=>
      rw [ho] at h1
      simp only at h1 ⊢
      split
      · rename_i hw
        rw [aS hw] at h1
        rcases h1 with h1 | ⟨_,h1⟩
        · exact Oper.wpIn_mono (λa w h=>Q8 hnd hK f _ _ _ h) (avO (hnd i o ho) h1)
        · exact(akp h1).elim
      · rename_i hw
        rw [aP hw] at h1;exact⟨λ_ _=>trivial,Q8 hnd hK f _ _ _ h1⟩
theorem aiW{ol:List Oper}(h:ako ol=true):∀(i:Nat)(o:Oper),ol.toArray[i]? = some o->∀ c,o.op≠.defer c:=λi o ho c e=>by
  have h1:=ng.1 h o (yS (by simpa using ho));rw [e] at h1; cases h1
theorem HeR{ol:List Oper}{id:Nat}{y:Code}(H:Hp b S w rs)(_:∀ w',Hp b S w' rs->Hp b S w' rk)(J:List (Nat × Value)->List lG->List (Nat × Value)->World->Prop)
    (h:Region.noSelect ol.toArray=true->Hp b S w.drew rs->WH P n ol.toArray (JK n (J l rk)) (λw'=>Hp b S w' rk) ol.length (List.replicate ol.length false).toArray l w.drew) (k:∀ l' w',J l rk l' w'->WP P n y l' w' Q)
    (hm:P.follows .mixedOrders=true:=by kernel_rfl) (hs:Region.noSelect ol.toArray=true:=by kernel_rfl) (hnd:ako ol=true:=by kernel_rfl):WP P n (.seq (.region id ol.toArray true) y) l w Q:=λa ha=>by
  refine Us (wpIn_region_any (Q:=Exit.then (NU P n y Q) Q) hm ?_);have h1:=Q8 (n:=n) (Q:=Exit.then (NU P n y Q) Q) (aiW hnd) (λa' w' ⟨l',h1,h2⟩=>k l' w' h2 a' h1) _ _ _ _ (wpAny_of_held _ _ _ _ (h hs (H.grow (pW w).drew) a ha))
  simpa using h1
theorem Hp.tin{X1 X2:List lG}(H:Hp b S w ((L++F)++(X1++X2))):Hp b S w (L++(X1++(X2++F))):=H.perm (by
  rw [pE,<- pE X1]
  exact zQ.append_left L)
theorem Hp.aDY{X1 X2:List lG}(H:Hp b S w (L++(X1++(X2++F)))):Hp b S w ((L++F)++(X1++X2)):=H.perm (by
  rw [pE,<- pE X1]
  exact zQ.append_left L)
def OW:=@Hp.aDY
theorem Hp.axO{X:List lG}(H:Hp b S w (L++(X++F))):Hp b S w ((L++F)++X):=H.perm (by
  rw [pE]
  exact zQ.append_left L)
end
end
section
variable {l:List aG}{es:oz}{c:Int}{pre:List (aG × Bool)}{x:aG × Bool}{S S0:Nat->Prop}{F:List lG}{ou jR:Nat}{wT jU:ah}{aH cu:List Int}{aX ls:List fP}
def qx(l:List aG)(es:oz)(c:Int):List (BitVec 8) × Int × Int:=match (Ao l es).find? (fun(p:aG × Bool)=>decide (p.1.aD=c)) with
  | none=>([],0,5)
  | some p=>if p.2=true then([],0,4) else((gD (⟨c,false⟩:bT) es).2.2,p.1.aB,0)
theorem Nb(h:∀ y∈Ao l es,y.1.aD≠c):qx l es c=([],0,5):=by
  unfold qx; rw [Gl.2 (λy hy=>by simpa using h y hy)]
abbrev Nc(iE:Int)(je:oz):=gD (⟨iE,false⟩:bT) je
theorem rd_some(h:pre++[x] <+: Ao l es)(hno:∀ y∈pre,y.1.aD≠c)(hx:x.1.aD=c):qx l es c=if x.2=true then([],0,4) else((Nc c es).2.2,x.1.aB,0):=by
  obtain⟨t,ht⟩:=h;unfold qx;rw [<- ht,KX,KX,Gl.2 (λy hy=>by simpa using hno y hy)]
  simp [hx]
theorem avP:∀ w,(zeroValue 27).run prog w=.ok (aI 0) w:=ay
theorem aro:bJ prog 196:=ay
theorem axP:mg prog 33:=ay
theorem agf{b w:World}(H0:Hp b S w F)  :
    bO prog 118 #[gI ou] w λv w'=>∃(aeT:Nat),v=.func (.func 196) #[] #[gI aeT]/\Hp b S w' (dW aeT 93 [gI ou]::F):=by
 refine rU func118 ntmps118 Y<|rg<|bx Y Y H0 λg1 w1 K1=>bX Y<|rg<|ev (rE Y)<|bX Y<|iP Y ?_
 exact⟨g1,Y,K1⟩
abbrev ac4:=bT × Option Addr × Nat × List (BitVec 8)
theorem agh{b w:World}{gm:Nat}{A:ah}{c:Nat}{bG:Int}{es:List ac4}(H0:Hp b S w (dW ou 169 [aI bG,.slice A l.length c,.map (some gm)]::dH aZ A c l::rA xA wI gm es::fU gQ 5 (es.map Prod.snd)::F))(aN:Int)(hl:l.length<=100000)(hb:(gD ⟨aN,false⟩ es).2.2.length<=1000) :
    bO prog 54 #[gI ou,aI aN] w λv w'=>∃(A0:ah)(c0:Nat),v=.tuple #[.slice A0 (((qx l es aN).1).length) c0,aI ((qx l es aN).2.1),aI ((qx l es aN).2.2)]/\Hp b S w' (aQ gQ 5 A0 c0 ((qx l es aN).1)::dW ou 169 [aI bG,.slice A l.length c,.map (some gm)]::dH aZ A c l::rA xA wI gm es::fU gQ 5 (es.map Prod.snd)::F):=by
 refine aCb func54 ntmps54 Y<|rg<|bx Y Y H0 λg1 w1 K1=>bx Y Y K1 λg2 w2 K2=>al Na Y K2 λg3 w3 K3=>al ain Y K3 λg4 w4 K4=>al avP Y K4 λg5 w5 K5=>dn<|aY<|rg<|nL K5 s4 Y<|gU Y (agf K5 ) ?_
 rintro _ w6 ⟨OX,rfl,K6⟩;refine dn<|cB<|WP.range Y aro (aaQ aj) (Hp.axO (L:=[dW g3 33 [.slice none 0 0],dW g4 3 [aI 0],dW g5 27 [aI 0],dW g2 3 [aI aN],dW g1 93 [gI ou]]) (X:=[dW OX 93 [gI ou],dW ou 169 [aI bG,.slice A l.length c,.map (some gm)],dH aZ A c l,rA xA wI gm es,fU gQ 5 (es.map Prod.snd)]) (F:=F) (((((K6.sel s0).mV 4 2).sel s3).sel s4).sel s5)) (λ_=>Y) Y (λpre Fj=>Fj=(dW g3 33 [.slice none 0 0]::dW g4 3 [aI 0]::dW g5 27 [aI 0]::dW g2 3 [aI aN]::dW g1 93 [gI ou]::F)/\(∀ y∈pre,y.1.aD≠aN)) (λc pre Fj=>(c=.ret/\∃(A:ah)(c:Nat)(xs:List (BitVec 8))(z:Int)(e:Int),Fj=(dW g3 33 [.slice A xs.length c]::dW g4 3 [aI z]::dW g5 27 [aI e]::aQ gQ 5 A c xs::dW g2 3 [aI aN]::dW g1 93 [gI ou]::F)/\(qx l es aN=(xs,z,e)))) (λpre x l1 Fj=>∃(UC:Nat),l1=[(2,gI g1),(3,gI g2),(4,gI g3),(5,gI g4),(6,gI g5),(7,gI UC),(8,.bool x.2)]/\Fj=(dW UC 132 [aI x.1.aD,aI x.1.aB,gP x.1.Sum,.bool x.1.gH,.bool x.1.Bad]::dW g3 33 [.slice none 0 0]::dW g4 3 [aI 0]::dW g5 27 [aI 0]::dW g2 3 [aI aN]::dW g1 93 [gI ou]::F)/\(∀ y∈pre,y.1.aD≠aN)) ⟨Y,av⟩ ?_ ?_ ?_ ?_
 ·rintro lr pre x _ G w7 ⟨rfl,hno⟩ hpre K7;have H1:=Hp.tin (L:=[dW g3 33 [.slice none 0 0],dW g4 3 [aI 0],dW g5 27 [aI 0],dW g2 3 [aI aN],dW g1 93 [gI ou]]) (X1:=[dW OX 93 [gI ou],dW ou 169 [aI bG,.slice A l.length c,.map (some gm)],dH aZ A c l,rA xA wI gm es,fU gQ 5 (es.map Prod.snd)]) (F:=F) K7;refine rg<|al yu Y H1 λg6 w8 K8=>sty Y K8 s0 Y λw9 K9=>dn<|jC<|jk Y<|jD<|l8.ap ⟨g6,Y,Y,hno⟩ Y (OW (L:=[dW g6 132 [aI x.1.aD,aI x.1.aB,gP x.1.Sum,.bool x.1.gH,.bool x.1.Bad],dW g3 33 [.slice none 0 0],dW g4 3 [aI 0],dW g5 27 [aI 0],dW g2 3 [aI aN],dW g1 93 [gI ou]]) (X1:=[dW OX 93 [gI ou],dW ou 169 [aI bG,.slice A l.length c,.map (some gm)],dH aZ A c l,rA xA wI gm es,fU gQ 5 (es.map Prod.snd)]) (F:=F) K9)
 ·rintro lr pre x _ _ G Om ⟨UC,rfl,rfl,hno⟩ hpre K10;have H2:=Hp.tin (L:=[dW UC 132 [aI x.1.aD,aI x.1.aB,gP x.1.Sum,.bool x.1.gH,.bool x.1.Bad],dW g3 33 [.slice none 0 0],dW g4 3 [aI 0],dW g5 27 [aI 0],dW g2 3 [aI aN],dW g1 93 [gI ou]]) (X1:=[dW OX 93 [gI ou],dW ou 169 [aI bG,.slice A l.length c,.map (some gm)],dH aZ A c l,rA xA wI gm es,fU gQ 5 (es.map Prod.snd)]) (F:=F) K10;refine cB<|cB<|rg<|j6 UC 0 mM H2 s0 Y<|nL H2 s4 Y<|ev (rY Y Y)<|bX Y<|bP Y (λqP=>?_) (λqP=>?_)
  ·replace qP:=oO qP;refine zo (iw (iw ?_));exact l8.rn ⟨Y,by intro y hy; rcases kX.1 hy with h | h; exact hno y h; rw [oG.1 h]; exact qP⟩ (OW (L:=[dW g3 33 [.slice none 0 0],dW g4 3 [aI 0],dW g5 27 [aI 0],dW g2 3 [aI aN],dW g1 93 [gI ou]]) (X1:=[dW OX 93 [gI ou],dW ou 169 [aI bG,.slice A l.length c,.map (some gm)],dH aZ A c l,rA xA wI gm es,fU gQ 5 (es.map Prod.snd)]) (F:=F) (H2.rm s0))
  replace qP:=oP qP;refine bQ Y<|bX Y<|bP Y (λhc28=>?_) (λhc28=>?_)
  ·refine rg<|yD Y H2 s1 Y λVa vM=>yD Y vM s2 Y λVb vH=>yD Y vH s3 Y λw13 Bf=>dn<|jf (iX (iX ?_))
   have H3:=Bf.nil gQ 5;exact l8.rr ⟨Y,none,0,([]:List (BitVec 8)),0,4,Y,by rw [rd_some hpre hno aj,aS hc28]⟩ (OW (L:=[dW g3 33 [.slice none (([]:List (BitVec 8)).length) 0],dW g4 3 [aI 0],dW g5 27 [aI 4],aQ gQ 5 none 0 [],dW g2 3 [aI aN],dW g1 93 [gI ou]]) (X1:=[dW OX 93 [gI ou],dW ou 169 [aI bG,.slice A l.length c,.map (some gm)],dH aZ A c l,rA xA wI gm es,fU gQ 5 (es.map Prod.snd)]) (F:=F) (((((H3.rm s4).sel s0).sel s1).sel s2).sel s3))
  refine HeR H2 (λ_ K=>(K.cU 1 3)) (λl0 rk lJ wJ=>∃(jW:ah)(jT:Nat),lJ=l0/\Hp b S wJ (dW g5 27 [aI 0]::dW g4 3 [aI x.1.aB]::dW g3 33 [.slice jW (((Nc aN es).2.2).length) jT]::aQ gQ 5 jW jT ((Nc aN es).2.2)::rk)) (λhns H4=>?_) ?_
  ·have k1:=(H4.cU 1 3);refine Db 0 s2 Y k1<|Sr 1 ou 2 yx Y k1<|Db 3 s4 Y k1<|Db 4 s1 Y k1<|l9 5 Y (λ_ _=>jX (vs:=[(0,aI aN),(1,.bool false)]) (cs:=[aI aN,.bool false]) Y (by apply qw)) k1<|l9 6 rfl (λ_ hK=>Ev.af7 (z:=(⟨aN,false⟩:bT)) hK s6 vL ES Na rfl rfl) k1<|nJ 8 9 UC 1 rJ s0 rfl k1<|O1 7 rfl<|gU rfl (Jl _ (H4.aq8 s10 (⟨aN,false⟩:bT)) aj) ?_
   rintro _ w14 ⟨ari,arj,rfl,h14⟩;have xM:=H4.f1 h14;have k2:=((xM.cU 2 3).rm s0);refine aO k2<|O1 10 Y<|yD Y xM s2 Y λw15 BI=>?_
   have k3:=((BI.cU 3 2).cU 0 2);refine aO k3<|O1 11 Y<|yD Y BI s3 Y λw16 EB=>?_
   have k4:=((EB.rm s4).cU 0 3);refine aO k4<|O1 12 Y<|yD Y EB s4 Y λw17 BJ=>?_
   have k5:=(BJ.cU 0 4);refine aO k5<|Dn ⟨ari,arj,Y,BJ⟩ Y
  rintro _ w18 ⟨jW,jT,rfl,JR⟩;refine jf (iX (iX ?_));exact l8.rr ⟨Y,jW,jT,((Nc aN es).2.2),x.1.aB,0,Y,by rw [rd_some hpre hno aj,aP (by rw [hc28]; decide)]⟩ (OW (L:=[dW g3 33 [.slice jW (((Nc aN es).2.2).length) jT],dW g4 3 [aI x.1.aB],dW g5 27 [aI 0],aQ gQ 5 jW jT ((Nc aN es).2.2),dW g2 3 [aI aN],dW g1 93 [gI ou]]) (X1:=[dW OX 93 [gI ou],dW ou 169 [aI bG,.slice A l.length c,.map (some gm)],dH aZ A c l,rA xA wI gm es,fU gQ 5 (es.map Prod.snd)]) (F:=F) ((((JR.rm s4).sel s0).sel s1).sel s2))
 ·rintro D _ w19 ⟨rfl,hno⟩ EC;refine iw (gy ?_);refine rg<|yD Y EC s6 Y λw20 Gy=>yD Y Gy s7 Y λw21 IV=>yD Y IV s8 Y λw22 GR=>dn<|jf (l8.alJ ((GR.mV 0 3).sel s3) Y λw23 JU=>⟨_,⟨_,_,Y,⟨_,Y,Bv axP (((JU.x s2).cell 0).trans Y)⟩,⟨_,_,Y,⟨_,Y,Bv jN (((JU.x s1).cell 0).trans Y)⟩,⟨_,_,Y,⟨_,Y,Bv axH (((JU.x s0).cell 0).trans Y)⟩,Y⟩⟩⟩,?_⟩)
  have H5:=JU.nil gQ 5;have fT:(([]:List (BitVec 8)):List (BitVec 8))=((qx l es aN).1):=by first | rw [Nb hno] | rw [hrd]
  have gu:(0:Int)=((qx l es aN).2.1):=by first | rw [Nb hno] | rw [hrd]
  have kC:(5:Int)=((qx l es aN).2.2):=by first | rw [Nb hno] | rw [hrd]
  exact⟨none,0,by rw [<- gu,<- kC,<- fT] <;> rfl,by rw [<- fT]; exact((H5.cU 9 2).cU 1 4)⟩
 ·rintro D c pre F w24 (⟨rfl,A,c,xs,z,e,rfl,hrd⟩) pK;refine jf (iX (fO (l8.alJ pK Y λw25 Ea=>⟨_,⟨_,_,Y,⟨_,Y,Bv axP (((Ea.x s5).cell 0).trans Y)⟩,⟨_,_,Y,⟨_,Y,Bv jN (((Ea.x s6).cell 0).trans Y)⟩,⟨_,_,Y,⟨_,Y,Bv axH (((Ea.x s7).cell 0).trans Y)⟩,Y⟩⟩⟩,?_⟩)));have nC:(xs:List (BitVec 8))=((qx l es aN).1):=by first | rw [Nb hno] | rw [hrd]
  have rV:(z:Int)=((qx l es aN).2.1):=by first | rw [Nb hno] | rw [hrd]
  have xW:(e:Int)=((qx l es aN).2.2):=by first | rw [Nb hno] | rw [hrd]
  exact⟨A,c,by rw [<- rV,<- xW,<- nC] <;> rfl,by rw [<- nC]; exact(((((Ea.cU 9 2).cU 5 3).rm s0).mV 0 4).sel s4)⟩
def vC(pre:List (aG × Bool)):List Int:=(pre.filter fun(p:aG × Bool)=>p.2).map fun(p:aG × Bool)=>p.1.aD
def EU(l:List aG)(es:oz):List Int:=vC (Ao l es)
theorem akq(h:x.2=true):vC pre++[x.1.aD]=vC (pre++[x]):=by unfold vC; rw [Bz,tu]; simp [h]
theorem arp(h:x.2=false):vC pre=vC (pre++[x]):=by unfold vC; rw [Bz,tu]; simp [h]
theorem agi(pre:List (aG × Bool)):(vC pre).length<=pre.length:=by unfold vC; rw [kF]; exact ni _ _
theorem am7(l:List aG)(es:oz):(Ao l es).length<=l.length:=by unfold Ao; rw [kF]; exact Ee l
def avQ(s:List aG × oz)(c:Int):List aG × oz:=(Df s.1 c,OT s.1 c s.2)
def uj(l:List aG)(es:oz)(k:Nat):List aG × oz:=((EU l es).take k).foldl avQ (l,es)
theorem Q9{k:Nat}(h:(EU l es)[k]? = some c):uj l es (k+1)=(Df (uj l es k).1 c,OT (uj l es k).1 c (uj l es k).2):=by
  unfold uj; rw [fC h,zY]; rfl
theorem arq(l:List aG)(c:Int):(Df l c).length<=l.length:=by
  unfold Df; split
  · unfold o7; split
    · exact lI (ni _ _) (wY l)
    · simp
  · exact kJ _
theorem agj(l:List aG)(es:oz):∀ k,(uj l es k).1.length<=l.length
  | 0=>kJ _
  | k+1=>by
    have h:=agj l es k
    rcases F6 k (EU l es).length with hk | hk
    · obtain⟨x,hx⟩:=bn hk
      rw [Q9 hx]; exact lI (arq _ _) h
    · unfold uj at h ⊢
      rw [gV aj] at h ⊢; exact h
theorem am8{b w:World}{gm:Nat}{A:ah}{c:Nat}{bG:Int}{es:List ac4}(H0:Hp b S w (dW ou 169 [aI bG,.slice A l.length c,.map (some gm)]::dH aZ A c l::rA xA wI gm es::fU gQ 5 (es.map Prod.snd)::F))(hl:l.length<=100000) :
    bO prog 113 #[gI ou] w λv w'=>∃(A0:ah)(c0:Nat)(A1:ah)(c1:Nat),v=.slice A0 ((vC (Ao l es)).length) c0/\Hp b S w' (aQ dQ 3 A0 c0 (vC (Ao l es))::dW ou 169 [aI bG,.slice A1 (((uj l es (EU l es).length).1).length) c1,.map (some gm)]::dH aZ A1 c1 ((uj l es (EU l es).length).1)::rA xA wI gm ((uj l es (EU l es).length).2)::fU gQ 5 (((uj l es (EU l es).length).2).map Prod.snd)::F):=by
 refine aCb func113 ntmps113 Y ?_;have hhl:=am7 l es;have hgl:=agi (Ao l es);refine iT Y<|rg<|al ab0 Y H0 λg1 w1 K1=>dn<|aY<|bQ Y<|gU Y (agf K1 ) ?_
 rintro _ w2 ⟨Oz,rfl,K2⟩;refine dn<|cB ?_
 have H1:=K2.nil dQ 3;refine WP.range Y aro (aaQ aj) (Hp.axO (L:=[dW g1 55 [.slice none ((vC []).length) 0],aQ dQ 3 none 0 []]) (X:=[dW Oz 93 [gI ou],dW ou 169 [aI bG,.slice A l.length c,.map (some gm)],dH aZ A c l,rA xA wI gm es,fU gQ 5 (es.map Prod.snd)]) (F:=F) ((H1.mV 0 2).sel s2)) (λ_=>Y) Y (λpre Fj=>∃(Ag:ah)(cg:Nat),Fj=(dW g1 55 [.slice Ag ((vC pre).length) cg]::aQ dQ 3 Ag cg (vC pre)::F)) (λc pre Fj=>False) (λpre x l1 Fj=>∃(Ag:ah)(cg:Nat)(UC:Nat),l1=[(3,gI g1),(4,gI UC),(5,.bool x.2)]/\Fj=(dW UC 132 [aI x.1.aD,aI x.1.aB,gP x.1.Sum,.bool x.1.gH,.bool x.1.Bad]::dW g1 55 [.slice Ag ((vC pre).length) cg]::aQ dQ 3 Ag cg (vC pre)::F)) ⟨none,0,Y⟩ ?_ ?_ ?_ ?_
 ·rintro lr pre x _ G w3 ⟨Ag,cg,rfl⟩ hpre K3;have H2:=Hp.tin (L:=[dW g1 55 [.slice Ag ((vC pre).length) cg],aQ dQ 3 Ag cg (vC pre)]) (X1:=[dW Oz 93 [gI ou],dW ou 169 [aI bG,.slice A l.length c,.map (some gm)],dH aZ A c l,rA xA wI gm es,fU gQ 5 (es.map Prod.snd)]) (F:=F) K3;refine rg<|al yu Y H2 λg2 w4 K4=>sty Y K4 s0 Y λw5 K5=>dn<|jC<|jk Y<|jD<|l8.ap ⟨Ag,cg,g2,Y,Y⟩ Y (OW (L:=[dW g2 132 [aI x.1.aD,aI x.1.aB,gP x.1.Sum,.bool x.1.gH,.bool x.1.Bad],dW g1 55 [.slice Ag ((vC pre).length) cg],aQ dQ 3 Ag cg (vC pre)]) (X1:=[dW Oz 93 [gI ou],dW ou 169 [aI bG,.slice A l.length c,.map (some gm)],dH aZ A c l,rA xA wI gm es,fU gQ 5 (es.map Prod.snd)]) (F:=F) K5)
 ·rintro lr pre x _ _ G w6 ⟨Ag,cg,UC,rfl,rfl⟩ hpre K6;have H3:=Hp.tin (L:=[dW UC 132 [aI x.1.aD,aI x.1.aB,gP x.1.Sum,.bool x.1.gH,.bool x.1.Bad],dW g1 55 [.slice Ag ((vC pre).length) cg],aQ dQ 3 Ag cg (vC pre)]) (X1:=[dW Oz 93 [gI ou],dW ou 169 [aI bG,.slice A l.length c,.map (some gm)],dH aZ A c l,rA xA wI gm es,fU gQ 5 (es.map Prod.snd)]) (F:=F) K6;have hpl:=agi pre;have aJg:=hpre.length_le;rw [jG] at aJg;refine cB<|bQ Y<|dn<|bP Y (λnN=>?_) (λnN=>?_)
  ·refine jC<|nL H3 s1 Y<|j6 UC 0 mM H3 s0 Y<|Bh (τ:=dQ) (x:=x.1.aD) Y (by intro _; apply pR) rfl H3 (λ_ _=>rfl) λg3 w7 K7=>ap (ys:=([x.1.aD]:List Int)) K7 s3 rfl rfl (K7.o s0) fA KU aj av rfl λpU pV w8 K8=>yD rfl K8 s3 rfl λw9 K9=>jD<|iw ?_
   have fT:(((vC pre)++([x.1.aD]:List Int)):List Int)=(vC (pre++[x])):=by first | exact akq nN | exact arp nN
   rw [fT] at K9;exact l8.rn ⟨pU,pV,Y⟩ (OW (L:=[dW g1 55 [.slice pU ((vC (pre++[x])).length) pV],aQ dQ 3 pU pV (vC (pre++[x]))]) (X1:=[dW Oz 93 [gI ou],dW ou 169 [aI bG,.slice A l.length c,.map (some gm)],dH aZ A c l,rA xA wI gm es,fU gQ 5 (es.map Prod.snd)]) (F:=F) (K9.cU 2 2))
  refine zo (iw ?_);have gu:((vC pre):List Int)=(vC (pre++[x])):=by first | exact akq nN | exact arp nN
  rw [gu] at H3;exact l8.rn ⟨Ag,cg,Y⟩ (OW (L:=[dW g1 55 [.slice Ag ((vC (pre++[x])).length) cg],aQ dQ 3 Ag cg (vC (pre++[x]))]) (X1:=[dW Oz 93 [gI ou],dW ou 169 [aI bG,.slice A l.length c,.map (some gm)],dH aZ A c l,rA xA wI gm es,fU gQ 5 (es.map Prod.snd)]) (F:=F) (H3.rm s0))
 ·rintro D _ Om ⟨Ag,cg,rfl⟩ K10;refine iw (gy ?_);refine aY ?_;have hgx:(EU l es).length<=l.length:=lI hgl hhl;refine rg<|nL K10 s6 Y<|ev (eX fA Y)<|mv Y<|dn<|cB ?_
  have kC:(l:List aG)=(uj l es 0).1:=by rfl
  rw [kC] at K10;have nC:(.slice A l.length c:Value)=.slice A (((uj l es 0).1).length) c:=by rfl
  try rw [nC] at K10
  have rV:es=(uj l es 0).2:=by rfl
  rw [rV] at K10;refine Lp (K10.cU 2 4) (λl0 rk mJ lJ wJ=>∃(k:Nat)(A1:ah)(c1:Nat),lJ=(20,aI ((k:Nat):Int))::l0/\mJ=(vC (Ao l es)).length - k/\k<=(vC (Ao l es)).length/\Hp b S wJ (dH aZ A1 c1 ((uj l es k).1)::dW ou 169 [aI bG,.slice A1 (((uj l es k).1).length) c1,.map (some gm)]::rA xA wI gm ((uj l es k).2)::fU gQ 5 (((uj l es k).2).map Prod.snd)::rk)) ⟨0,A,c,Y,Y,fE _,((((K10.mV 0 2).mV 4 2).sel s4).sel s5)⟩ Y ?_;rintro _ _ Va ⟨k,A1,c1,rfl,rfl,hk,vM⟩;refine rg<|ev (fD Y Y)<|dn<|pG Y (λhc21=>?_) (λhc21=>?_)
  ·refine jy ?_;refine aY<|cB ?_
   have hsl:=agj l es k;refine rg ?_;obtain⟨x1,bN⟩:=bn (xs:=(vC (Ao l es))) (i:=k) aj;refine ev (eP (i:=k) fA uf Y Y Y (aM bN) ((vM.o s7).some_ bN))<|ev (kP jN Y ((vM.o s7).fJ (j:=0) bN Y))<|bX Y<|jC<|mv Y<|mv Y<|gU Y (YC ((vM.sel s0).sel s1) x1 aj) ?_
   rintro _ Vb ⟨ars,aru,rfl,vH⟩;refine jD<|iw (gy ?_)
   refine jC<|ev (dP Y Y)<|mv Y<|jD ?_
   have xW:((Df ((uj l es k).1) x1):List aG)=(uj l es (k+1)).1:=by rw [Q9 bN]
   rw [xW] at vH;have zX:(.slice ars ((Df ((uj l es k).1) x1).length) aru:Value)=.slice ars (((uj l es (k+1)).1).length) aru:=by rw [Q9 bN]
   try rw [zX] at vH
   have hq8:(OT ((uj l es k).1) x1 ((uj l es k).2))=(uj l es (k+1)).2:=by rw [Q9 bN]
   rw [hq8] at vH;exact dG ⟨(k+1),ars,aru,Y,Y,aj,((vH.sel s0).sel s1)⟩ rfl aj
  refine xq ?_;refine rg<|nL vM s6 Y<|bX Y<|jf (l8.alJ ((vM.mV 0 4).sel s4) Y λw13 Bf=>⟨_,⟨_,_,Y,Y,Y⟩,?_⟩)
  have zG:((uj l es k).1:List aG)=((uj l es (EU l es).length).1):=by first | rw [show k=(EU l es).length from by show k=(vC (Ao l es)).length; omega] | rfl
  have vg:((uj l es k).2:List ac4)=((uj l es (EU l es).length).2):=by first | rw [show k=(EU l es).length from by show k=(vC (Ao l es)).length; omega] | rfl
  exact⟨Ag,cg,A1,c1,Y,by rw [<- zG,<- vg]; exact(((((Bf.cU 4 2).mV 2 2).sel s2).sel s3).sel s4)⟩
 ·rintro D c pre F w h _;exact h.elim
theorem aAn:bJ prog 276:=ay
theorem aAo:wz prog 107 2 16:=by
  obtain⟨i,h1,h2,h3,h4⟩:=uJ (show(prog.info? 107).map (λi=>(i.zero,i.size,i.bytes))=some (some (.agg #[aI 0,aI 0]),2,16) by kernel_rfl);exact⟨i,_,h1,h2,h3,h4,Y,λv hv=>ng.1 (show(Value.cells (.agg #[aI 0,aI 0])).toList.all (λv=>v.oneCell')=true from Y) v hv⟩
theorem ac5(a0:Int)(a1:Int):prog.built 107 [(0,aI a0),(1,aI a1)]=some #[aI a0,aI a1]:=ak
theorem aiX(a0:Int)(a1:Int):∀ w,(Instr.buildSlice 47 1 (List.toArray [(0,.agg #[aI a0,aI a1])])).run prog w=.ok (.slice (some ⟨w.heap.size,0,none⟩) 1 1) (w.alloc (.cells (List.toArray [aI a0,aI a1]) 107)):=ay
theorem agk(a0:ah)(a0n a0c:Nat)(a1:ah)(a1n a1c:Nat):∀ w,(Instr.buildSlice 379 2 (List.toArray [(0,.slice a0 a0n a0c),(1,.slice a1 a1n a1c)])).run prog w=.ok (.slice (some ⟨w.heap.size,0,none⟩) 2 2) (w.alloc (.cells (List.toArray [.slice a0 a0n a0c,.slice a1 a1n a1c]) 48)):=ay
theorem am9  : ∀ w,(Instr.buildSlice 154 0 (List.toArray [])).run prog w=.ok (.slice (some ⟨w.heap.size,0,none⟩) 0 0) (w.alloc (.cells (List.toArray []) 219)):=ay
theorem YE(w:World){vF:Nat}{s:List eY}(nA:Sl iK S0 w wT vF s)(target:Int){BF:FuncId}{Fz:List Value}(NH:bJ prog BF)(f:eY->Int->Int)(NI:∀(w':World)(x:eY)(t:Int),Ext w w'->True->bO prog BF (([.agg #[aI x.Node,aI x.At],aI t]:List Value)++Fz).toArray w' λv w''=>v=aI (f x t)/\Ext w' w'')(hm:abr (fun(y:eY)=>f y target) s)(hn:s.length<=1000000) :
    bO prog 275 #[.slice wT s.length vF,aI target,.func (.func BF) #[] Fz.toArray] w λv w'=>v=.tuple #[aI ((low (fun(y:eY)=>f y target) s:Nat):Int),.bool (hits (fun(y:eY)=>f y target) s)]/\Hp w S0 w' []:=by
 refine lg S0 func275 ntmps275 Y λH0=>?_;have Sv:=nA.bC;refine rg<|jk Y<|bX Y<|bQ Y<|ev (eX Dc Y)<|bX Y<|bQ Y<|jk Y<|bX Y<|aY<|cB<|Lp H0 (λl0 rk mJ lJ wJ=>∃(i j:Nat),lJ=(9,aI ((i:Nat):Int))::(10,aI ((j:Nat):Int))::l0/\mJ=j - i/\(i<=j/\j<=s.length)/\(∀(a:Nat)(y:eY),a<i->s[a]? = some y->f y target<0)/\(∀(a:Nat)(y:eY),j<=a->s[a]? = some y->¬ f y target<0)/\Hp w S0 wJ rk) ⟨0,s.length,Y,Y,by exact⟨fE _,kJ _⟩,by intro a y ha; omega,by intro a y ha hy; have:=aM hy; omega,H0⟩ rfl ?_
 rintro _ _ w1 ⟨i,j,rfl,rfl,hij,hlo,hhi,K1⟩;refine aY<|bQ Y<|mv Y<|ev (fD Y Y)<|dn<|mZ Y (λhc17=>?_) (λhc17=>?_)
 ·refine jy ?_;refine cB<|bQ Y<|mv Y<|ev (dP Y Y)<|ev (Ep (m:=i+j) uL.1 uL.2.1 uL.2.2 Y (zT aj))<|ev (Ev.aox (m:=i+j) Y Y)<|ev (Ep (m:=((i+j) / 2)) uM.1 uM.2.1 uM.2.2 Y (wQ aj))<|bX Y<|bQ Y<|mv Y<|mv Y ?_
  obtain⟨x1,bN⟩:=bn (xs:=s) (i:=((i+j) / 2)) aj;refine ev (eP (i:=((i+j) / 2)) Dc Lm Y Y Y (aM bN) ((K1.a nA).some_ bN))<|ev (iU I5 Y Y ((K1.a nA).fF bN))<|mv Y<|zq Y Y Y NH (NI _ x1 target K1.ext trivial) Y ?_
  rintro _ w2 ⟨rfl,e2⟩;have K2:=K1.grow e2;refine ev (fD Y Y)<|dn<|mZ Y (λhc31=>?_) (λhc31=>?_)
  ·refine jC<|mv Y<|ev (dP Y Y)<|jk Y<|jD<|iw<|dG ⟨(((i+j) / 2)+1),j,Y,Y,aj,by first | exact hlo | exact λa y ha hy=>hm a _ y x1 aj hy bN hc31,by first | exact hhi | exact λa y ha hy hlt=>hc31 (hm _ a x1 y aj bN hy hlt),K2⟩ rfl aj
  refine jC<|mv Y<|jk Y<|jD<|iw<|dG ⟨i,((i+j) / 2),Y,Y,aj,by first | exact hlo | exact λa y ha hy=>hm a _ y x1 aj hy bN hc31,by first | exact hhi | exact λa y ha hy hlt=>hc31 (hm _ a x1 y aj bN hy hlt),K2⟩ rfl aj
 refine xq ?_;refine bQ Y<|mv Y<|mv Y<|ev (fD Y Y)<|mv Y<|pF 9 48 (hits (λy=>f y target) s) ?_ ?_
 ·cases Xl:decide (((i:Nat):Int)<((s.length:Nat):Int)) with
  | true=>
   have aoQ:=iY Xl;refine bE Y (bq Y) Y<|bE Y (bq Y) Y<|bE Y (bq Y) Y ?_
   obtain⟨x2,lN⟩:=bn (xs:=s) (i:=i) aj;refine bE Y (eP (i:=i) Dc Lm Y Y Y (aM lN) ((K1.a nA).some_ lN)) Y<|bE Y (iU I5 Y Y ((K1.a nA).fF lN)) Y<|bE Y (bq Y) Y<|oD Y Y Y Y NH (NI _ x2 target K1.ext trivial) Y ?_
   rintro _ w3 ⟨rfl,e3⟩;refine bE Y (iM Y Y) Y<|ev (dM Y Y)<|gJ (t:=48) (u:=.bool (decide (f x2 target=0))) (v:=.bool (hits (λy=>f y target) s)) Y (aV Value.bool (by have hl:=xB (g:=λy=>f y target) (s:=s) (i:=i) aj hlo (λa y ha=>hhi a y aj); unfold hits; rw [hl,lN]))<|jo rfl e3
  | false=>
   refine dN<|dN<|dN<|dN<|dN<|dN<|dN<|dN<|ev (dS Y Y)<|gJ (t:=48) (u:=.bool false) (v:=.bool (hits (λy=>f y target) s)) Y (aV Value.bool (by have hl:=xB (g:=λy=>f y target) (s:=s) (i:=i) aj hlo (λa y ha=>hhi a y aj); unfold hits; rw [hl,Oj (by have:=jS Xl; omega)])) ?_
   exact jo Y (pW _)
 intro w4 e4;have K4:=K1.grow e4;refine jk Y<|bX Y<|iP Y ?_
 have fT:(i:Nat)=(low (fun(y:eY)=>f y target) s):=by exact(xB (g:=λy=>f y target) aj hlo (λa y ha=>hhi a y aj)).symm
 have gu:(hits (λy=>f y target) s:Bool)=(hits (fun(y:eY)=>f y target) s):=by rfl
 exact⟨by rw [gu,<- fT] <;> rfl,K4⟩
theorem ana(w:World)(b:eY)(bH:Int) :
    bO prog 276 #[.agg #[aI b.Node,aI b.At],aI bH] w λv w'=>v=aI (bL b.Node bH)/\Hp w S0 w' []:=by
 refine lg S0 func276 ntmps276 Y λH0=>rg<|bx Y Y H0 λg1 w1 K1=>bX Y<|rg<|j6 g1 0 GX K1 s0 Y<|mv Y<|nD K1 Y (nZ (S0:=Any) _ b.Node bH) λw2 K2=>bX Y<|iP Y ?_
 exact⟨Y,(K2.rm s0)⟩
theorem arv(w:World){l:List eY}(jE:Sl iK S0 w jU jR l)(bH:Int)(hu:Up eY.Node l)(hn:l.length<=1000000) :
    bO prog 183 #[.slice jU l.length jR,aI bH] w λv w'=>v=.tuple #[aI ((low (fun(y:eY)=>bL y.Node bH) l:Nat):Int),.bool (hits (fun(y:eY)=>bL y.Node bH) l)]/\Hp w S0 w' []:=by
 refine lg S0 func183 ntmps183 Y λH0=>rg<|jk Y<|bX Y<|bQ Y<|mv Y<|nD H0 Y (YE _ (H0.a jE).any bH aAn (fun(x:eY) (t:Int)=>bL x.Node t) (λw' x t e hm=>(ana (S0:=Any) w' x t).mono (by rintro _ _ ⟨rfl,gu⟩; exact⟨rfl,gu.ext⟩)) (hu.mono bH) aj) λw1 K1=>xt rfl rfl<|xt rfl rfl<|jk rfl<|bX rfl<|iP rfl ?_
 exact⟨Y,K1⟩
theorem avR:aeI 184 277 278 47 107 2 16 Tryz.f184.name:=⟨func184.trans (aV some ak),⟨_,func277,ak,ak,ak,ak⟩,Dc,iJ,Lm,ak,apL,aAo⟩
def ZP:=@SC _ _ _ _ _ _ _ _ iK avR
def tX(l:List eY)(bH aJ:Int):List eY:=if Lj ⟨bH,aJ⟩ then(if hits (fun(y:eY)=>bL y.Node bH) (jF l) then(match (jF l)[low (fun(y:eY)=>bL y.Node bH) (jF l)]? with | some b=>(jF l).set (low (fun(y:eY)=>bL y.Node bH) (jF l)) { b with At:=if aJ>b.At then aJ else b.At } | none=>[]) else(jF l).take (low (fun(y:eY)=>bL y.Node bH) (jF l))++[⟨bH,aJ⟩]++(jF l).drop (low (fun(y:eY)=>bL y.Node bH) (jF l))) else jF l
theorem agl:∀(l:List eY)(z:Int),lZ z l=true->∀ b∈l,z<b.Node
  | [],_,_,b,hb=>by simp at hb
  | c::l,z,h,b,hb=>by
    simp only [lZ,bK,bM] at h
    rcases iR.1 hb with rfl | hb
    · exact h.1.2
    · have:=agl l _ h.2 b hb; omega
theorem YF:∀(l:List eY)(z:Int),lZ z l=true->Up eY.Node l
  | [],_,_=>List.Pairwise.nil
  | c::l,z,h=>by
    simp only [lZ,bK,bM] at h
    exact nW.2 ⟨λb hb=>agl l _ h.2 b hb,YF l _ h.2⟩
theorem arw(l:List eY):Up eY.Node (jF l):=by
  unfold jF; split
  · rename_i h; exact YF l 0 h
  · exact List.Pairwise.nil
theorem arx(w:World){l:List eY}(jE:Sl iK S0 w jU jR l)(bH:Int)(aJ:Int)(hn:l.length<=800000) :
    bO prog 107 #[.slice jU l.length jR,aI bH,aI aJ] w λv w'=>∃(A0:ah)(c0:Nat),v=.slice A0 ((tX l bH aJ).length) c0/\Hp w S0 w' [aQ iK 107 A0 c0 (tX l bH aJ)]:=by
 refine lg S0 func107 ntmps107 Y λH0=>?_;have GJ:=jE.bC;have hf:=GY l;have hlow:=F9 (fun(y:eY)=>bL y.Node bH) (jF l);refine iT Y<|bQ Y<|gU Y (aeZ _ (H0.a jE).any aj) ?_
 rintro _ w1 ⟨jZ,j3,rfl,h1⟩;have K1:=H0.f1 h1;have JO:=(K1.o s0).bC;refine bX Y<|bQ Y<|mv Y<|ev (jX (vs:=[(0,aI bH),(1,aI aJ)]) (cs:=[aI bH,aI aJ]) Y (by apply ac5))<|al Qn rfl K1 λg1 w2 K2=>sty rfl K2 s0 rfl λw3 K3=>dn<|aY<|rg<|ev (fK I5 rfl rfl (K3.x s0))<|nD K3 rfl (ajZ (S0:=Any) _ (⟨bH,aJ⟩:eY)) λw4 K4=>ev (iG rfl)<|dn<|bP rfl (λhc17=>?_) (λhc17=>?_)
 ·try simp only [eT,dO,bK,eu,dZ,fI,bM,bV] at hc17
  refine bQ Y<|bX Y<|wO Y ?_
  have fT:(jF l:List eY)=(tX l bH aJ):=by unfold tX; rw [aP (by rw [hc17]; decide)]
  rw [fT] at K4;exact⟨jZ,j3,by rw [fT] <;> rfl,(K4.rm s0)⟩
 try simp only [eT,dO,bK,eu,dZ,fI,bM,bV] at hc17
 refine jy ?_;refine bQ Y<|mv Y<|nD K4 Y (arv _ (K4.o s1) bH (arw l) aj) λw5 K5=>mv Y<|xt Y Y<|xt Y Y<|jk Y<|bX Y<|aY<|bQ Y<|ev (iG Y)<|dn<|bP Y (λNJ=>?_) (λNJ=>?_)
 ·try simp only [eT,dO,bK,eu,dZ,fI,bM,bV] at NJ
  refine bQ Y<|mv Y<|ev (fK I5 Y Y (K5.x s0))<|Bh (τ:=iK) (x:=(⟨bH,aJ⟩:eY)) Y (by intro _; apply aiX) rfl K5 (λ_ _=>rfl) λg2 w6 K6=>gU rfl (ZP (i:=low (fun(y:eY)=>bL y.Node bH) (jF l)) K6 s2 s0 aj aj) ?_
  rintro _ w7 ⟨pU,pV,rfl,K7⟩;refine bX Y<|wO Y ?_
  have gu:(((jF l).take (low (fun(y:eY)=>bL y.Node bH) (jF l))++[(⟨bH,aJ⟩:eY)]++(jF l).drop (low (fun(y:eY)=>bL y.Node bH) (jF l))):List eY)=(tX l bH aJ):=by unfold tX; rw [aS hc17,aP (by rw [NJ]; decide)]
  rw [gu] at K7;exact⟨pU,pV,by rw [gu] <;> rfl,(K7.rm s1)⟩
 try simp only [eT,dO,bK,eu,dZ,fI,bM,bV] at NJ
 obtain⟨xb,hxb,hkb⟩:=qh (key:=eY.Node) NJ;have abH:=aM hxb;refine jy ?_;refine bQ Y<|mv Y<|mv Y<|mv Y ?_
 obtain⟨x1,bN⟩:=bn (xs:=jF l) aj;refine ev (eP Dc Lm Y Y Y (aM bN) ((K5.o s1).some_ bN))<|ev (fQ Ll Y (fV _ _ _))<|ev (kP jN Y ((K5.o s1).fJ bN Y))<|mv Y<|ev (Ev.max2 Y Y)<|ev (eP Dc Lm Y Y Y (aM bN) ((K5.o s1).some_ bN))<|ev (fQ Ll Y (fV _ _ _))<|se (x':={ x1 with At:=(if aJ>x1.At then aJ else x1.At) }) K5 s1 Y Y Y bN Y uf (nX Y) Y (by rintro _ _ _ ⟨⟩; rfl) λw8 K8=>?_
 have hl1:((jF l).set (low (fun(y:eY)=>bL y.Node bH) (jF l)) ({ x1 with At:=(if aJ>x1.At then aJ else x1.At) })).length=(jF l).length:=gW ..;refine gJ (t:=0) (u:=.slice jZ ((jF l).length) j3) (v:=.slice jZ (((jF l).set (low (fun(y:eY)=>bL y.Node bH) (jF l)) ({ x1 with At:=(if aJ>x1.At then aJ else x1.At) })).length) j3) Y (by rw [hl1])<|gJ (t:=11) (u:=.slice jZ ((jF l).length) j3) (v:=.slice jZ (((jF l).set (low (fun(y:eY)=>bL y.Node bH) (jF l)) ({ x1 with At:=(if aJ>x1.At then aJ else x1.At) })).length) j3) rfl (by rw [hl1])<|gJ (t:=20) (u:=.slice jZ ((jF l).length) j3) (v:=.slice jZ (((jF l).set (low (fun(y:eY)=>bL y.Node bH) (jF l)) ({ x1 with At:=(if aJ>x1.At then aJ else x1.At) })).length) j3) rfl (by rw [hl1])<|gJ (t:=32) (u:=.slice jZ ((jF l).length) j3) (v:=.slice jZ (((jF l).set (low (fun(y:eY)=>bL y.Node bH) (jF l)) ({ x1 with At:=(if aJ>x1.At then aJ else x1.At) })).length) j3) rfl (by rw [hl1])<|gJ (t:=34) (u:=.slice jZ ((jF l).length) j3) (v:=.slice jZ (((jF l).set (low (fun(y:eY)=>bL y.Node bH) (jF l)) ({ x1 with At:=(if aJ>x1.At then aJ else x1.At) })).length) j3) rfl (by rw [hl1])<|dn<|bQ rfl<|bX rfl<|iP rfl ?_
 have kC:(((jF l).set (low (fun(y:eY)=>bL y.Node bH) (jF l)) ({ x1 with At:=(if aJ>x1.At then aJ else x1.At) })):List eY)=(tX l bH aJ):=by unfold tX; rw [aS hc17,aS NJ,bN]
 rw [kC] at K8;exact⟨jZ,j3,by rw [kC] <;> rfl,(K8.rm s1)⟩
def r9(l:List aR)(aH:List Int):Nat->List fP->List Int->List Int
  | 0,_,_=>[]
  | n+1,aX,hs=>match uR l aH aX hs l with
    | none=>[]
    | some t=>t.ID::r9 l aH n (⟨t.ID,nU aX t.ID+1⟩::aX) (hs++[t.ID])
theorem akr{l:List aR}{hs:List Int}(h:(uR l aH aX hs l).isSome=false):∀ n,r9 l aH n aX hs=[]
  | 0=>rfl
  | n+1=>by
    unfold r9
    cases ht:uR l aH aX hs l with
    | none=>rfl
    | some t=>rw [ht] at h; cases h
theorem agm{l:List aR}{hs:List Int}(h:(uR l aH aX hs l).isSome=true)(n:Nat):r9 l aH (n+1) aX hs=yF (uR l aH aX hs l)::r9 l aH n ((⟨yF (uR l aH aX hs l),nU aX (yF (uR l aH aX hs l))+1⟩:fP)::aX) (hs++[yF (uR l aH aX hs l)]):=by
  cases ht:uR l aH aX hs l with
  | none=>rw [ht] at h; cases h
  | some t=>
    show(match uR l aH aX hs l with | none=>[] | some t=>t.ID::r9 l aH n (⟨t.ID,nU aX t.ID+1⟩::aX) (hs++[t.ID]))=_;rw [ht]; rfl
theorem agn(l:List aR)(aH:List Int):∀(n:Nat)(aX:List fP)(hs:List Int),(r9 l aH n aX hs).length<=n
  | 0,_,_=>kJ _
  | n+1,aX,hs=>by
    cases h:(uR l aH aX hs l).isSome with
    | false=>rw [akr h]; simp
    | true=>rw [agm h]; have:=agn l aH n ((⟨yF (uR l aH aX hs l),nU aX (yF (uR l aH aX hs l))+1⟩:fP)::aX) (hs++[yF (uR l aH aX hs l)]); simp only [oV]; omega
theorem aiY{N:Int}(h0:0<=N)(h:∀ x∈ls,0<=x.N/\x.N<=N)(id:Int):0<=nU ls id/\nU ls id<=N:=by
  unfold nU
  split
  · rename_i x hx; exact h x (Xw hx)
  · omega
def J5(l:List bf)(c t:Int):Int:=if Bo l c t<0 then 5 else 0
def zB(l:List bf)(c t:Int):List bf:=if Bo l c t<0 then[] else l.take (Bo l c t).toNat++l.drop ((Bo l c t).toNat+1)
theorem arz{l:List bf}{t:Int}(h:¬ Bo l c t<0):(Bo l c t).toNat<l.length:=by
  have h1:=Em (p:=fun(x:bf)=>decide (x.aD=c)&&decide (x.To=t)) l;unfold Bo at h ⊢;omega
theorem ZQ(w:World)(n:Nat)(hn:n<=1000000) :
    bO prog 412 #[.slice none 0 0,aI ((n:Nat):Int)] w λv w'=>∃(A0:ah)(c0:Nat),v=.slice A0 (([]:List bf).length) c0/\Hp w S0 w' [aQ dz 117 A0 c0 ([]:List bf)]:=by
 refine lg S0 func412 ntmps412 Y λH0=>iT Y<|aY<|bQ Y<|ev (fD Y Y)<|dn<|mZ Y (λhc6=>?_) (λhc6=>?_)
 ·omega
 refine jy ?_;refine aY<|bQ Y<|mv Y<|ev (Ev.cap oI Y)<|mv Y<|ev (eX oI Y)<|ev (Uw Y Y)<|ev (Uw Y Y)<|bX Y<|bQ Y<|ev (sQ Y Y)<|dn<|mZ Y (λhc16=>?_) (λhc16=>?_)
 ·refine jC<|mv Y<|mv Y<|ev (Ev.cap oI Y)<|ev (Ev.Vi oI Gp Y Y Y)<|mv Y<|apz dz Y Y oI iJ SX aj aj Y H0 λg1 cz1 w1 K1=>mv Y<|ev (eX oI Y)<|ev (Ev.Vi oI Gp Y Y Y)<|jk Y<|jD<|gy<|bQ Y<|bX Y<|iP Y ?_
  exact⟨(some ⟨g1,0,none⟩),cz1,Y,K1⟩
 refine jy ?_;refine bQ Y<|bX Y<|iP Y ?_
 have H1:=H0.nil dz 117;exact⟨none,0,Y,H1⟩
theorem YG(w:World){afo:ah}{afp:Nat}{xss:List (List bf)}(LB:Sl (Ty.list dz) S0 w afo afp xss)(hn:(xss).flatten.length<=1000000) :
    bO prog 341 #[.slice afo xss.length afp] w λv w'=>∃(A0:ah)(c0:Nat),v=.slice A0 (((xss).flatten).length) c0/\Hp w S0 w' [aQ dz 117 A0 c0 ((xss).flatten)]:=by
 refine lg S0 func341 ntmps341 Y λH0=>?_;have azt:=LB.bC;refine iT Y<|iT Y<|aY<|bQ Y<|ev (eX ac1 Y)<|mv Y<|dn<|cB ?_
 have fT:(0:Int)=((Cc xss 0:Nat):Int):=by rfl
 refine lF (t:=3) Y (aV (Value.int .i64) fT)<|Lp H0 (λl0 rk mJ lJ wJ=>∃(k:Nat),lJ=(3,aI ((Cc xss k:Nat):Int))::(11,aI ((k:Nat):Int))::l0/\mJ=xss.length - k/\k<=xss.length/\Hp w S0 wJ rk) ⟨0,Y,Y,fE _,H0⟩ Y ?_
 rintro _ _ w1 ⟨k,rfl,rfl,hk,K1⟩;refine rg<|ev (fD Y Y)<|dn<|pG Y (λnN=>?_) (λnN=>?_)
 ·refine jy ?_;refine aY<|cB<|rg ?_
  obtain⟨x1,bN⟩:=bn (xs:=xss) (i:=k) aj;refine ev (eP (i:=k) ac1 axf Y Y Y (aM bN) ((K1.a LB).some_ bN)) ?_;obtain⟨B1,d1,zF,hi1⟩:=Vk (LB.row bN);refine ev (kP ap5 Y (K1.ext.cell zF))<|bX Y<|bQ Y<|mv Y<|ev (eX oI Y)<|ev (Ev.add Y Y (zP (by have:=wu bN; have:=xQ xss (k+1); omega) (by have:=wu bN; have:=xQ xss (k+1); omega)))<|bX rfl<|bQ rfl<|ev (fD rfl rfl)<|dn<|mZ rfl (λlW=>?_) (λlW=>?_)
  ·omega
  refine Ci ?_;refine jC<|ev (dP Y Y)<|mv Y<|jD ?_
  have gu:(((Cc xss k+x1.length:Nat):Int):Int)=((Cc xss (k+1):Nat):Int):=by have:=wu bN; omega
  refine jq (t:=3) Y (aV (Value.int .i64) gu)<|dG ⟨(k+1),Y,Y,aj,K1⟩ rfl aj
 refine xq ?_;refine bQ Y<|gU Y (ZQ (S0:=Any) _ (Cc xss k) (by have:=xQ xss k; omega)) ?_
 rintro _ w2 ⟨pI,pJ,rfl,h2⟩;have K2:=K1.f1 h2;refine bX Y<|aY<|bQ Y<|ev (eX ac1 Y)<|mv Y<|dn<|cB ?_
 have kC:(([]:List bf):List bf)=((xss.take 0).flatten):=by simp
 refine lF (t:=6) Y (aV (λz=>Value.slice pI (List.length z) pJ) kC) ?_;rw [kC] at K2;refine Lp (K2.rm s0) (λl0 rk mJ lJ wJ=>∃(k:Nat)(A6:ah)(c6:Nat),lJ=(6,.slice A6 (((xss.take k).flatten).length) c6)::(27,aI ((k:Nat):Int))::l0/\mJ=xss.length - k/\k<=xss.length/\Hp w S0 wJ (aQ dz 117 A6 c6 ((xss.take k).flatten)::rk)) ⟨0,pI,pJ,Y,Y,fE _,K2⟩ Y ?_;rintro _ _ w3 ⟨k,A6,c6,rfl,rfl,hk,K3⟩;refine rg<|ev (fD Y Y)<|dn<|pG Y (λhc28=>?_) (λhc28=>?_)
 ·refine jy ?_;refine aY<|cB<|rg ?_
  obtain⟨x2,lN⟩:=bn (xs:=xss) (i:=k) aj;refine ev (eP (i:=k) ac1 axf Y Y Y (aM lN) ((K3.a LB).some_ lN)) ?_;obtain⟨B2,d2,aoR,hi2⟩:=Vk (LB.row lN);refine ev (kP ap5 Y (K3.ext.cell aoR))<|bX Y<|jC<|mv Y<|mv Y<|ap (ys:=x2) K3 s0 Y Y (K3.a hi2).any oI SX (by have:=xQ xss k; simp only [Cc] at this; omega) (by have:=wu lN; have:=xQ xss (k+1); omega) rfl λpU pV w4 K4=>jk rfl<|jD<|iw (gy ?_)
  refine jC<|ev (dP Y Y)<|mv Y<|jD ?_
  have nC:((((xss.take k).flatten)++x2):List bf)=((xss.take (k+1)).flatten):=by exact Pz lN
  refine jq (t:=6) Y (aV (λz=>Value.slice pU (List.length z) pV) nC) ?_;rw [nC] at K4;exact dG ⟨(k+1),pU,pV,Y,Y,aj,K4⟩ rfl aj
 refine xq ?_;refine bQ Y<|bX Y<|iP Y ?_
 have rV:(((xss.take k).flatten):List bf)=((xss).flatten):=by rw [gV aj]
 rw [rV] at K3;exact⟨A6,c6,by rw [rV] <;> rfl,K3⟩
abbrev VJ(iE:List bf)(je:Nat):=([(iE.take je),(iE.drop (je+1))]:List (List bf))
theorem anb(w:World){l:List bf}(jE:Sl dz S0 w jU jR l)(aN:Int)(nV:Int)(hn:l.length<=100000) :
    bO prog 247 #[.slice jU l.length jR,aI aN,aI nV] w λv w'=>∃(A0:ah)(c0:Nat),v=.tuple #[.slice A0 ((zB l aN nV).length) c0,aI (J5 l aN nV)]/\Hp w S0 w' [aQ dz 117 A0 c0 (zB l aN nV)]:=by
 refine lg S0 func247 ntmps247 Y λH0=>rg<|jk Y<|bX Y<|bQ Y<|mv Y<|mv Y<|nD H0 Y (aav _ (H0.a jE).any aN nV) λw1 K1=>bX Y<|aY<|bQ Y<|ev (fD Y Y)<|dn<|mZ Y (λrz=>?_) (λrz=>?_)
 ·refine rg<|jk Y<|bX Y<|wO Y ?_
  have H1:=K1.nil dz 117;have fT:(([]:List bf):List bf)=(zB l aN nV):=by unfold zB; rw [aS rz]
  have H2:=(fT▸H1:Hp w S0 w1 (aQ dz 117 none 0 (zB l aN nV)::[]));exact⟨none,0,by unfold J5; rw [<- fT,aS rz] <;> rfl,H2⟩
 refine jy ?_;have hlt:=arz (l:=l) (c:=aN) (t:=nV) aj;obtain⟨i,hi⟩:∃ i:Nat,Bo l aN nV=((i:Nat):Int):=⟨(Bo l aN nV).toNat,aj⟩;rw [hi] at hlt;refine lF (t:=8) Y (aV (Value.int .i64) hi)<|He K1 (λ_ K=>K) (λl0 rk lJ wJ=>∃(jW:ah)(jT:Nat),lJ=(6,.slice jW ((((VJ l i)).flatten).length) jT)::l0/\Hp w S0 wJ (aQ dz 117 jW jT (((VJ l i)).flatten)::rk)) (λhns H3=>?_) ?_
 ·refine lQ 0 Y Y H3<|lQ 1 Y Y H3<|l9 2 Y (λ_ hK=>F7 (hi:=i) (xs:=l) oI Gp Y Y Y aj (hK.a jE).cap) H3<|lQ 3 Y Y H3<|lQ 4 Y Y H3<|l9 5 Y (λ_ _=>dP Y Y) H3<|l9 6 Y (λ_ hK=>F8 (lo:=i+1) (xs:=l) oI Gp Y Y Y aj (hK.a jE).cap) H3<|O1 7 Y<|bsn (τ:=(Ty.list dz)) (xs:=(VJ l i)) (vs:=[(0,.slice jU ((l.take i).length) jR),(1,.slice (sS jU jR (i+1) 5) ((l.drop (i+1)).length) (jR - (i+1)))]) (css:=[[.slice jU ((l.take i).length) jR],[.slice (sS jU jR (i+1) 5) ((l.drop (i+1)).length) (jR - (i+1))]]) Y (by intro _; apply agk) rfl rfl H3 (λ_ e=>⟨⟨_,_,rfl,((H3.a jE).ajv aj).ext e⟩,⟨_,_,rfl,((H3.a jE).cutFrom aj).ext e⟩,trivial⟩) λg1 w2 K2=>?_
  have k1:=(K2.rm s0);refine aO k1<|O1 8 Y<|gU Y (YG _ (K2.o s0) (by simp only [aee,List.flatten_nil,zM,jG,iF,rR]; omega)) ?_
  rintro _ w3 ⟨qQ,qR,rfl,h3⟩;have K3:=K2.f1 h3;have k2:=(K3.cU 0 2);refine aO k2<|xL 9 Y Y k2<|xL 10 Y Y k2<|Dn ⟨qQ,qR,Y,(K3.rm s1)⟩ Y
 rintro _ w4 ⟨jW,jT,rfl,K4⟩;refine iP Y ?_;have kC:(((VJ l i)).flatten:List bf)=(zB l aN nV):=by unfold zB; rw [aP rz,hi]; simp
 rw [kC] at K4;exact⟨jW,jT,by unfold J5; rw [kC,aP rz] <;> rfl,K4⟩
theorem ac6(w:World){vF:Nat}{s:List fP}(nA:Sl nO S0 w wT vF s)(hn:s.length<=1000000) :
    bO prog 175 #[.slice wT s.length vF] w λv w'=>∃(A0:ah)(c0:Nat),v=.slice A0 s.length c0/\Hp w S0 w' [aQ nO 219 A0 c0 s]:=by
 refine lg S0 func175 ntmps175 Y λH0=>iT Y<|aY<|bQ Y<|ev (NW Oo Y Y)<|dn<|bP Y (λhc4=>?_) (λhc4=>?_)
 ·refine iT Y<|wO Y ?_
  have H1:=H0.nil nO 219;have fT:(([]:List fP):List fP)=s:=by have h1:=nA.nil (by simpa using hc4); have h2:=nA.cap; exact(qF aj).symm
  have H2:=(fT▸H1:Hp w S0 w (aQ nO 219 none 0 s::[]));exact⟨none,0,by rw [<- fT] <;> rfl,H2⟩
 refine jy ?_;refine rg<|bs0 Y (by intro _; apply am9) rfl H0 λg1 w1 K1=>mv rfl<|ap K1 s0 rfl rfl (K1.a nA).any Oo ahZ av (by first | omega | (simp; omega) | (simp; done)) rfl λpU pV w2 K2=>bX rfl<|iP rfl ?_
 have gu:((([]:List fP)++s):List fP)=s:=by simp
 rw [gu] at K2;exact⟨pU,pV,by rw [gu] <;> rfl,K2⟩
abbrev ac7(iE:List aR)(je:List Int)(wP:List fP)(zZ:List Int):=(⟨yF (uR iE je wP zZ iE),nU wP (yF (uR iE je wP zZ iE))+1⟩:fP)
theorem anc{l:List aR}{n:Nat}{hq td:List Int}(h:r9 l aH n aX cu=td++r9 l aH (n - td.length) ls hq)(hs:(uR l aH ls hq l).isSome=true)(hl:td.length<n) :
    r9 l aH n aX cu=(td++[yF (uR l aH ls hq l)])++r9 l aH (n - (td++[yF (uR l aH ls hq l)]).length) ([(ac7 l aH ls hq)]++ls) (hq++[yF (uR l aH ls hq l)]):=by
  rw [h];obtain⟨m,hm⟩:∃ m,n - td.length=m+1:=⟨n - td.length - 1,aj⟩;rw [hm,agm hs,show n - (td++[yF (uR l aH ls hq l)]).length=m from by simp only [jG,oV,uE]; omega]
  simp
theorem avS{td:List Int}{t z:Int}(h:∀ x∈ls,0<=x.N/\x.N<=1000000+(td.length:Int))(u:Int):∀ x∈[(⟨t,nU ls u+1⟩:fP)]++ls,0<=x.N/\x.N<=1000000+((td++[z]).length:Int):=by
  intro x hx;have hp:=aiY aj h u;rw [jG,oV,uE]
  rcases kX.1 hx with h1 | h1
  · rw [oG.1 h1]; simp only; omega
  · have:=h x h1; omega
theorem avT(w:World){l:List aR}(jE:Sl bW S0 w jU jR l){ku:ah}{kr:Nat}(kQ:Sl dQ S0 w ku kr aH){nH:ah}{nG:Nat}(oK:Sl nO S0 w nH nG aX){vI:ah}{vJ:Nat}(Eb:Sl dQ S0 w vI vJ cu)(n:Int)(hn:l.length<=100000)(hl:aX.length<=1000)(hh:cu.length<=1000)(hz:n<=1000)(h0:∀ x∈aX,0<=x.N/\x.N<=1000000) :
    bO prog 103 #[.slice jU l.length jR,.slice ku aH.length kr,.slice nH aX.length nG,.slice vI cu.length vJ,aI n] w λv w'=>∃(A0:ah)(c0:Nat),v=.slice A0 ((r9 l aH n.toNat aX cu).length) c0/\Hp w S0 w' [aQ dQ 3 A0 c0 (r9 l aH n.toNat aX cu)]:=by
 refine lg S0 func103 ntmps103 Y λH0=>iT Y<|bQ Y<|gU Y (uq _ (H0.a Eb).any aj) ?_
 rintro _ w1 ⟨jZ,j3,rfl,h1⟩;have K1:=H0.f1 h1;refine bX Y<|iT Y<|aY<|cB ?_
 have H1:=K1.nil dQ 3;have fT:(([]:List Int):List Int)=[]:=by simp
 refine lF (t:=11) Y (aV (λz=>Value.slice none (List.length z) 0) fT) ?_;have H2:=H1.nil dQ 3;have H3:=H2.push (H2.a oK);refine Lp (H3.cU 0 4) (λl0 rk mJ lJ wJ=>∃(Aq:ah)(cq:Nat)(At:ah)(ct:Nat)(Al:ah)(cl:Nat)(td hq:List Int)(ls:List fP),lJ=(2,.slice Al ls.length cl)::(3,.slice Aq hq.length cq)::(11,.slice At td.length ct)::l0/\mJ=n.toNat - td.length/\(r9 l aH n.toNat aX cu=td++r9 l aH (n.toNat - td.length) ls hq)/\((td.length:Int)<=(n.toNat:Int)/\hq.length=cu.length+td.length/\ls.length=aX.length+td.length)/\(∀ x∈ls,0<=x.N/\x.N<=1000000+(td.length:Int))/\Hp w S0 wJ (aQ dQ 3 At ct td::aQ dQ 3 Aq cq hq::dH nO Al cl ls::rk)) ⟨jZ,j3,none,0,nH,nG,[],cu,aX,Y,Y,av,by simp; omega,by intro x hx; have:=h0 x hx; simp; omega,(((H3.rm s2).sel s0).mV 1 2)⟩ rfl ?_;rintro _ _ w2 ⟨Aq,cq,At,ct,Al,cl,td,hq,ls,rfl,rfl,hM,hB,hN,K2⟩;refine aY<|bQ Y<|ev (eX fA Y)<|mv Y<|ev (fD Y Y)<|dn<|mZ Y (λhc19=>?_) (λhc19=>?_)
 ·refine jy ?_;refine cB<|bQ Y<|mv Y<|mv Y<|mv Y<|nD K2 Y (aaw _ (K2.a jE).any (K2.a kQ).any (K2.s s2).any (K2.o s1) aj (λx hx=>(hN x hx).1)) λw3 K3=>mv Y<|xt Y Y<|xt Y Y<|jk Y<|bX Y<|aY<|bQ Y<|ev (iG Y)<|dn<|bP Y (λhc29=>?_) (λhc29=>?_)
  ·try simp only [eT,dO,bK,eu,dZ,fI,bM,bV] at hc29
   refine sP (mY (NV Y (mY (um (gy ?_)))));refine bQ Y<|bX Y<|iP Y ?_
   have gu:(td:List Int)=(r9 l aH n.toNat aX cu):=by rw [hM,akr (by simpa using hc29)]; simp
   have H4:=(gu▸K3:Hp w S0 w3 [aQ dQ 3 At ct (r9 l aH n.toNat aX cu),aQ dQ 3 Aq cq hq,dH nO Al cl ls]);exact⟨At,ct,by rw [<- gu] <;> rfl,(H4.cU 1 2)⟩
  try simp only [eT,dO,bK,eu,dZ,fI,bM,bV] at hc29
  refine jy ?_;refine bQ Y<|mv Y<|Bh (τ:=dQ) (x:=(yF (uR l aH ls hq l))) Y (by intro _; apply pR) rfl K3 (λ_ _=>rfl) λg1 w4 K4=>ap (ys:=([yF (uR l aH ls hq l)]:List Int)) K4 s1 rfl rfl (K4.o s0) fA KU (by first | omega | (simp; omega) | (simp; done)) av rfl λpU pV w5 K5=>mv rfl<|mv rfl<|Bh rfl (by intro _; apply pR) rfl K5 (λ_ _=>rfl) λg2 w6 K6=>ap K6 s3 rfl rfl (K6.o s0) fA KU (by first | omega | (simp; omega) | (simp; done)) av rfl λXp cp2 w7 K7=>jk rfl<|bX rfl<|jC<|mv rfl<|gU rfl (ac6 _ (K7.s s4).any aj) ?_
  rintro _ w8 ⟨IQ,IU,rfl,h8⟩;have K8:=K7.f1 h8;refine mv Y<|mv Y<|mv Y<|nD K8 Y (vk _ (K8.s s5).any (yF (uR l aH ls hq l))) λw9 K9=>ev (Ev.add Y Y (zP (by have hp:=aiY aj hN (yF (uR l aH ls hq l)); omega) (by have hp:=aiY aj hN (yF (uR l aH ls hq l)); omega)))<|ev (jX rfl (by apply II))<|Bh (x:=(ac7 l aH ls hq)) rfl (by intro _; apply Lc) rfl K9 (λ_ _=>rfl) λg3 Om K10=>gU rfl (Oe (i:=0) K10 s1 s0 aj aj) ?_
  rintro _ Va ⟨Ap3,cp3,rfl,vM⟩;refine jk Y<|jD<|iw ?_
  have H5:=vM.fz s0;exact dG ⟨Xp,cp2,pU,pV,Ap3,cp3,(td++([yF (uR l aH ls hq l)]:List Int)),(hq++([yF (uR l aH ls hq l)]:List Int)),(ls.take 0++[(ac7 l aH ls hq)]++ls.drop 0),Y,Y,by have hst:=anc hM hc29 aj; simpa using hst,by simp only [jG,oV,uE,iF,rR]; omega,by have hbd:=avS (t:=yF (uR l aH ls hq l)) (z:=yF (uR l aH ls hq l)) hN (yF (uR l aH ls hq l)); simpa using hbd,(((((H5.cU 4 2).rm s2).sel s0).sel s1).sel s2)⟩ rfl (by simp only [jG,oV,uE]; omega)
 refine xq ?_;refine bQ Y<|bX Y<|iP Y ?_
 have kC:(td:List Int)=(r9 l aH n.toNat aX cu):=by rw [hM,show n.toNat - td.length=0 from by omega]; simp [r9]
 have H6:=(kC▸K2:Hp w S0 w2 [aQ dQ 3 At ct (r9 l aH n.toNat aX cu),aQ dQ 3 Aq cq hq,dH nO Al cl ls]);exact⟨At,ct,by rw [<- kC] <;> rfl,(H6.cU 1 2)⟩
end
section
open Go.Shelf Go.Proofs.Tryz
def Tryz.laysNm220_ren:Go.Shelf.Ren:=⟨λ| 20=>190 | n=>n,λ| 22=>55 | 3=>3 | 4=>4 | 0=>0 | n=>n,λ| n=>n⟩
theorem Tryz.laysNm220:Go.Proofs.Lays2.n20 prog Tryz.laysNm220_ren:={
  mixed:=ak
  f20:=func190.trans (aV some ak)
  t0:=underlying0
  a0:=Tryz.isAgg0
  z0:=Tryz.sizeOf0
  v0:=Tryz.zeroValue0
  t3:=iJ
  a3:=Tryz.isAgg3
  z3:=Tryz.sizeOf3
  v3:=Tryz.zeroValue3
  t4:=Sm
  a4:=Tryz.isAgg4
  z4:=Tryz.sizeOf4
  v4:=Tryz.zeroValue4
  t22:=fA
  a22:=Tryz.isAgg55
  z22:=Tryz.sizeOf55
  v22:=Tryz.zeroValue55
  i3:=by kernel_rfl }
end
end Go.Proofs.YtlhnnmlenkahlaaGreat
