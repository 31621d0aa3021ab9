/- Lemmas. -/
import Derived.Test.YtlhnnmlenkahlaaGreatrG20
set_option maxRecDepth 4000
set_option linter.all false
namespace Go.Proofs.YtlhnnmlenkahlaaGreat
open Go.RowKit Go.Proofs.Tryz
def EF:=@underlying167
def YD:=@List.filter_eq_nil_iff
variable {b w:World}{S:Nat->Prop}{F L:List lH}{nZ gm c:Nat}{A:ah}{bM:Int}{l:List aI}{x:aI}{dh:Array Oper}{aX full:Array Bool}{ν':Type}{K0:Act->World->Prop}
structure bZ where
  aL:Int
  temp:Bool
  deriving DecidableEq
def bZ.enc(x:bZ):List Value:=[.int .i64 x.aL,.bool x.temp]
theorem bZ.lF(x:bZ):∀ u∈x.enc,u.oneCell'=true:=by
  intro u hu
  simp only [bZ.enc,iX,lM,sN] at hu
  rcases hu with rfl | rfl <;> rfl
def aAb:Ty bZ:=Ty.flat 2 bZ.enc au (λ_=>rfl) bZ.lF
instance:Flat aAb:=⟨λh=>h⟩
theorem yt:eu prog 169 1 1:=ay
theorem adq(a0:Int)(a1:Option Nat):prog.built 169 [(0,aF a0),(2,.map a1)]=some #[aF a0,.slice none 0 0,.map a1]:=ak
theorem arH:bF prog 55:=ay
theorem Vj(a0:Int)(a1:Int)(a2:Int):prog.built 132 [(0,aF a0),(1,aF a1),(2,gK a2)]=some #[aF a0,aF a1,gK a2,.bool false,.bool false]:=ak
theorem arI:eu prog 169 0 0:=ay
theorem aDq:l9 prog 70:=ay
theorem yu:eu prog 169 2 2:=ay
theorem qE(a0:Int)(a1:Bool):prog.built 171 [(0,aF a0),(1,.bool a1)]=some #[aF a0,.bool a1]:=ak
theorem aAc:l9 prog 167:=ay
theorem NM:∀ w,(zeroValue 33).run prog w=.ok (.slice none 0 0) w:=ay
theorem aAd:bF prog 141:=ay
abbrev wG(p:bZ):Value:=.agg p.enc.toArray
theorem anv(x y:bZ)(w:World):(Op.equalIn 10000 171 (.agg x.enc.toArray) (.agg y.enc.toArray)).run prog w=.ok (decide (x=y)) w:=by
  obtain⟨a0,a1⟩:=x; obtain⟨b0,b1⟩:=y
  simp only [bZ.enc,bZ.mk.injEq]
  simp [go_sem]
  repeat' split
  all_goals simp_all
theorem vF:MN prog 171 wG:=key_eq underlying171 (λ_ _=>rfl) (λa b w=>anv a b w) (λw e a=>by
  obtain⟨c,t⟩:=a
  kernel_rfl) (λa=>by
  obtain⟨c,t⟩:=a;show((_ == _)&&((_&&(c == c))&&((t == t)&&true)))=true
  simp)
def Ia(r:Int):Int:=(if 16<(if 0>r then 0 else r) then 16 else(if 0>r then 0 else r))
def Af(l:List aI)(bM c v sum:Int)(fG:List (BitVec 8)):List aI:=if 64<fG.length then l else if ¬ ((iM fG).toNat:Int)=sum then l else if(kN l ⟨c,v,sum,false,false⟩ bM).2=0 then(kN l ⟨c,v,sum,false,false⟩ bM).1 else l
def Ib(l:List aI)(bM c v sum:Int)(fG:List (BitVec 8))(B:ah)(d:Nat)(es:List (bZ × Option Addr × Nat × List (BitVec 8))):List (bZ × Option Addr × Nat × List (BitVec 8)):=if 64<fG.length then es else if ¬ ((iM fG).toNat:Int)=sum then es else if(kN l ⟨c,v,sum,false,false⟩ bM).2=0 then iy ⟨c,true⟩ (B,d,fG) es else es
def Uf(l:List aI)(c v:Int):List aI:=if(mF l c v).2=0 then(mF l c v).1 else l
abbrev oF:=List (bZ × Option Addr × Nat × List (BitVec 8))
def Vk(l:List aI)(c v:Int)(es:oF):oF:=if(mF l c v).2=0 then oC ⟨c,true⟩ (iy ⟨c,false⟩ (gL ⟨c,true⟩ es) es) else es
def CP(l:List aI)(c:Int):List aI:=if(pz l c).2=0 then(pz l c).1 else l
def PI(l:List aI)(c:Int)(es:oF):oF:=if(pz l c).2=0 then oC ⟨c,false⟩ es else es
def rF(l:List aI)(bM c v sum:Int)(fG:List (BitVec 8)):Int:=if 64<fG.length then 7 else if ¬ ((iM fG).toNat:Int)=sum then 4 else(kN l ⟨c,v,sum,false,false⟩ bM).2
theorem ads{Av:ah}{nv cv:Nat}{u0 u1 u2:Value}(H0:Hp b S w (dY nZ 169 [u0,u1,u2]::F))(e:Int) :
    bS prog 249 #[gD nZ,.slice Av nv cv,aF e] w λv w'=>v=aF e/\Hp b S w' (dY nZ 169 [u0,(if e=0 then .slice Av nv cv else u1),u2]::F):=by
 refine sV func249 ntmps249 Y<|iZ Y<|aW<|bQ Y<|ev (iA Y Y)<|dn<|mQ Y (λhc8=>?_) (λhc8=>?_)
 ·refine jy<|mv Y<|mv Y<|ev (eX Y)<|yA nZ 1 yt Y<|xP Y H0 s0 Y λw1 K1=>jA<|gG<|bQ Y<|bU Y<|jc Y ?_
  exact⟨Y,by rw [aO hc8]; exact K1⟩
 refine jm ?_;refine bQ Y<|bU Y<|jc Y ?_
 exact⟨Y,by rw [aK hc8]; exact H0⟩
abbrev adt(iD:Int):=if 16<(if 0>iD then 0 else iD) then 16 else(if 0>iD then 0 else iD)
theorem avT (H0:Hp b S w F)(bM:Int) :
    bS prog 96 #[aF bM] w λv w'=>∃(gs gm:Nat),v=gD gs/\Hp b S w' (dY gs 169 [aF (Ia bM),.slice none 0 0,.map (some gm)]::qH wG vK gm ([]:oF)::fZ gV 5 (([]:oF).map Prod.snd)::F):=by
 refine sV func96 ntmps96 Y<|iZ Y<|bQ Y<|ev (Ev.max2 Y Y)<|ev (Ev.min2 Y Y)<|mkA wG (vK (α:=BitVec 8)) H0 λg1 w1 K1=>?_
 have H1:=K1.aeS gV 5;refine ev (iY (vs:=[(0,aF (adt bM)),(2,.map (some g1))]) (cs:=[aF (adt bM),.slice none 0 0,.map (some g1)]) Y (by apply adq))<|bx rfl rfl H1 λg2 w2 K2=>bU rfl<|jc rfl ?_
 have eO:((adt bM):Int)=(Ia bM):=by rfl
 exact⟨g2,g1,Y,by rw [<- eO]; exact((K2.sel s1).mV 1 2)⟩
abbrev qY:=bZ × Option Addr × Nat × List (BitVec 8)
abbrev nD(iD:Int):=(⟨iD,true⟩:bZ)
abbrev vN(iD:List aI)(ji uS wV ES:Int):=kN iD (⟨ji,uS,wV,false,false⟩:aI) ES
theorem anw{YE:ah}{YF:Nat}{fG:List (BitVec 8)}{es:List qY}(H0:Hp b S w (dY nZ 169 [aF bM,.slice A l.length c,.map (some gm)]::dP bq A c l::qH wG vK gm es::fZ gV 5 (es.map Prod.snd)::dP gV YE YF fG::F))(aL:Int)(bR:Int)(sum:Int)(hl:l.length<=100000) :
    bS prog 179 #[gD nZ,aF aL,aF bR,gK sum,.slice YE fG.length YF] w λv w'=>∃(A1:ah)(c1:Nat)(B1:ah)(d1:Nat),v=aF (rF l bM aL bR sum fG)/\Hp b S w' (dY nZ 169 [aF bM,.slice A1 ((Af l bM aL bR sum fG).length) c1,.map (some gm)]::dP bq A1 c1 (Af l bM aL bR sum fG)::qH wG vK gm (Ib l bM aL bR sum fG B1 d1 es)::fZ gV 5 ((Ib l bM aL bR sum fG B1 d1 es).map Prod.snd)::F):=by
 refine sV func179 ntmps179 Y<|iZ Y<|aW<|cB<|bQ Y<|ev (eU EC Y)<|ev (pV Y Y)<|bU Y<|mQ Y (λoN=>?_) (λoN=>?_)
 ·refine iZ Y<|Ox Y ?_
  have eO:(7:Int)=(rF l bM aL bR sum fG):=by first | (unfold rF; rw [aO aj]; done) | (unfold Af; rw [aO aj]; done) | (unfold Ib; rw [aO aj]; done) | (unfold rF; rw [aO aj])
  have fQ:(l:List aI)=(Af l bM aL bR sum fG):=by first | (unfold rF; rw [aO aj]; done) | (unfold Af; rw [aO aj]; done) | (unfold Ib; rw [aO aj]; done) | (unfold rF; rw [aO aj])
  have jW:(es:List qY)=(Ib l bM aL bR sum fG none 0 es):=by first | (unfold rF; rw [aO aj]; done) | (unfold Af; rw [aO aj]; done) | (unfold Ib; rw [aO aj]; done) | (unfold rF; rw [aO aj])
  exact⟨A,c,none,0,by rw [<- eO] <;> rfl,by rw [<- fQ,<- jW]; exact(H0.rm s4)⟩
 refine bQ Y<|mU H0 Y (YC _ (H0.s s4).any) λw1 K1=>mv Y<|ev (nQ Y Y)<|bU Y<|bK Y (λhc16=>?_) (λhc16=>?_)
 ·replace hc16:=oQ hc16;refine iZ Y<|Ox Y ?_
  have mH:(4:Int)=(rF l bM aL bR sum fG):=by first | (unfold rF; rw [aK aj,aO hc16]; done) | (unfold Af; rw [aK aj,aO hc16]; done) | (unfold Ib; rw [aK aj,aO hc16]; done) | (unfold rF; rw [aK aj,aO hc16])
  have rR:(l:List aI)=(Af l bM aL bR sum fG):=by first | (unfold rF; rw [aK aj,aO hc16]; done) | (unfold Af; rw [aK aj,aO hc16]; done) | (unfold Ib; rw [aK aj,aO hc16]; done) | (unfold rF; rw [aK aj,aO hc16])
  have wM:(es:List qY)=(Ib l bM aL bR sum fG none 0 es):=by first | (unfold rF; rw [aK aj,aO hc16]; done) | (unfold Af; rw [aK aj,aO hc16]; done) | (unfold Ib; rw [aK aj,aO hc16]; done) | (unfold rF; rw [aK aj,aO hc16])
  exact⟨A,c,none,0,by rw [<- mH] <;> rfl,by rw [<- rR,<- wM]; exact(K1.rm s4)⟩
 replace hc16:=oU hc16;refine xQ ?_;refine He K1 (λ_ K=>(K.rm s0)) (λl0 rk lJ wJ=>∃(jR:ah)(jO:Nat),lJ=(11,aF ((vN l aL bR sum bM).2))::l0/\Hp b S wJ (dY nZ 169 [aF bM,(if((vN l aL bR sum bM).2)=0 then .slice jR (((vN l aL bR sum bM).1).length) jO else .slice A l.length c),.map (some gm)]::aS bq 132 jR jO ((vN l aL bR sum bM).1)::rk)) (λhns H1=>?_) ?_
 ·have k1:=(H1.rm s0);refine kX 0 Y Y k1<|uw 1 nZ 1 yt Y k1<|kX 5 Y Y k1<|kX 6 Y Y k1<|kX 7 Y Y k1<|lD 8 Y (λ_ _=>iY (vs:=[(0,aF aL),(1,aF bR),(2,gK sum)]) (cs:=[aF aL,aF bR,gK sum,.bool false,.bool false]) Y (by apply Vj)) k1<|uw 9 nZ 0 arI rfl k1<|Jn H1 (λl0 rk lJ wJ=>lJ=(25,.slice A l.length c)::(33,aF bM)::l0/\Hp b S wJ rk) 5 8191 ?_ λhS1=>?_
  ·rintro _ w4 ⟨rfl,K4⟩;refine O1 13 Y<|gX Y (ant _ (K4.s s1).any (⟨aL,bR,sum,false,false⟩:aI) bM aj) ?_
   rintro _ w5 ⟨yS,yT,rfl,h5⟩;have K5:=K4.f1 h5;have k4:=(K5.cU 0 2);refine aQ k4<|zL 14 Y (vs:=[.slice yS (((vN l aL bR sum bM).1).length) yT,aF ((vN l aL bR sum bM).2)]) Y Y k4<|zL 15 Y (vs:=[.slice yS (((vN l aL bR sum bM).1).length) yT,aF ((vN l aL bR sum bM).2)]) Y Y k4<|O1 16 Y<|gX Y (ads ((K5.sel s0).sel s1) ((vN l aL bR sum bM).2)) ?_
   rintro _ w6 ⟨rfl,K6⟩;have k5:=(K6.cU 0 2);refine aQ k5<|xI 17 Y Y k5<|Dn ⟨yS,yT,Y,K6⟩ Y
  refine O2 4 12 Y Y ?_ ?_
  ·refine nO H1 s0 Y<|aQ k1<|O1 12 Y<|nO H1 s0 Y<|Kj hS1 k1 ⟨Y,H1⟩ Y
  ·refine nO H1 s0 Y<|aQ k1<|O1 4 Y<|nO H1 s0 Y<|Kj hS1 k1 ⟨Y,H1⟩ Y
 rintro _ w7 ⟨jR,jO,rfl,K7⟩;refine aW<|bQ Y<|ev (iA Y Y)<|dn<|mQ Y (λhc39=>?_) (λhc39=>?_)
 ·rw [aO hc39] at K7;refine Hf K7 (λ_ K=>((K.cU 3 2).cU 0 2)) (λl0 rk lJ wJ=>∃(ql:ah)(cj2:Nat),lJ=l0/\Hp b S wJ (fZ gV 5 ((iy (nD aL) (ql,cj2,fG) es).map Prod.snd)::qH wG vK gm (iy (nD aL) (ql,cj2,fG) es)::dY nZ 169 [aF bM,.slice jR (((vN l aL bR sum bM).1).length) jO,.map (some gm)]::aS bq 132 jR jO ((vN l aL bR sum bM).1)::rk)) (λhns H2=>?_) ?_
  ·have k6:=((H2.cU 3 2).cU 0 2);refine uw 0 nZ 2 yu Y k6<|kX 4 Y Y k6<|lD 5 Y (λ_ _=>iY (vs:=[(0,aF aL),(1,.bool true)]) (cs:=[aF aL,.bool true]) Y (by apply qE)) k6<|kX 6 rfl rfl k6<|Jn H2 (λl0 rk lJ wJ=>∃(EZ:ah)(E5:Nat),lJ=(43,.map (some gm))::(47,.slice EZ fG.length E5)::l0/\Hp b S wJ (aS gV 5 EZ E5 fG::rk)) 1 255 ?_ λhS2=>?_
   ·rintro _ Ti ⟨EZ,E5,rfl,tZ⟩;refine O1 8 Y ?_;have hn2:=(tZ.mp s4).1;refine az3 (z:=(nD aL)) (v:=(EZ,E5,fG)) tZ s4 vF EF Y Y Y λSm sJ=>?_;have H4:=sJ.ado hn2 s1 s4 (nD aL);have k10:=(H4.cU 0 4);refine aQ k10<|Dn ⟨EZ,E5,Y,H4⟩ Y
   refine O2 3 7 Y Y ?_ ?_
   ·refine nO H2 s0 Y<|aQ k6<|O1 7 Y<|gX Y (Jw _ (H2.s s5).any aj) ?_
    rintro _ Xu ⟨aki,akj,rfl,h13⟩;have wz:=H2.f1 h13;have k11:=((wz.cU 4 2).cU 0 3);exact Kj hS2 k11 ⟨aki,akj,Y,wz⟩ Y
   ·refine gX Y (Jw _ (H2.s s5).any aj) ?_;rintro _ Z0 ⟨arJ,arK,rfl,h14⟩;have wB:=H2.f1 h14;have k12:=((wB.cU 4 2).cU 0 3);refine aQ k12<|O1 3 Y<|nO wB s1 Y<|Kj hS2 k12 ⟨arJ,arK,Y,wB⟩ Y
  rintro _ Z4 ⟨ql,cj2,rfl,zB⟩;refine gG<|bQ Y<|bU Y<|jc Y ?_
  have zk:(((vN l aL bR sum bM).2):Int)=(rF l bM aL bR sum fG):=by unfold rF; rw [aK aj,aK aj]
  have H5:=zB.fz s3;have hq8:((vN l aL bR sum bM).1:List aI)=(Af l bM aL bR sum fG):=by unfold Af; rw [aK aj,aK aj,aO hc39]
  have AJ:((iy (nD aL) (ql,cj2,fG) es):List qY)=(Ib l bM aL bR sum fG ql cj2 es):=by unfold Ib; rw [aK aj,aK aj,aO hc39]
  exact⟨jR,jO,ql,cj2,by rw [<- zk] <;> rfl,by rw [<- hq8,<- AJ]; exact((((H5.cU 4 2).sel s1).mV 1 2).sel s3)⟩
 rw [aK hc39] at K7;refine jm ?_;refine bQ Y<|bU Y<|jc Y ?_
 have r9:(((vN l aL bR sum bM).2):Int)=(rF l bM aL bR sum fG):=by unfold rF; rw [aK aj,aK aj]
 have hq11:(l:List aI)=(Af l bM aL bR sum fG):=by unfold Af; rw [aK aj,aK aj,aK hc39]
 have hq12:(es:List qY)=(Ib l bM aL bR sum fG none 0 es):=by unfold Ib; rw [aK aj,aK aj,aK hc39]
 exact⟨A,c,none,0,by rw [<- r9] <;> rfl,by rw [<- hq11,<- hq12]; exact((K7.rm s5).rm s1)⟩
abbrev Jy(iD:Int):=(⟨iD,false⟩:bZ)
theorem ajq{es:List qY}(H0:Hp b S w (dY nZ 169 [aF bM,.slice A l.length c,.map (some gm)]::dP bq A c l::qH wG vK gm es::fZ gV 5 (es.map Prod.snd)::F))(aL:Int)(bR:Int)(hl:l.length<=100000) :
    bS prog 180 #[gD nZ,aF aL,aF bR] w λv w'=>∃(A1:ah)(c1:Nat),v=aF ((mF l aL bR).2)/\Hp b S w' (dY nZ 169 [aF bM,.slice A1 ((Uf l aL bR).length) c1,.map (some gm)]::dP bq A1 c1 (Uf l aL bR)::qH wG vK gm (Vk l aL bR es)::fZ gV 5 ((Vk l aL bR es).map Prod.snd)::F):=by
 refine sV func180 ntmps180 Y<|iZ Y<|bQ Y<|mv Y<|ev (eX Y)<|jT nZ 1 yt H0 s0 Y<|mv Y<|mv Y<|gX Y (ajo _ (H0.s s1).any aL bR aj) ?_
 rintro _ w1 ⟨j6,kg,rfl,h1⟩;have K1:=H0.f1 h1;refine xt Y Y<|xt Y Y<|gX Y (ads ((K1.sel s0).sel s1) ((mF l aL bR).2)) ?_
 rintro _ w2 ⟨rfl,K2⟩;refine bU Y<|aW<|bQ Y<|ev (iA Y Y)<|dn<|mQ Y (λlN=>?_) (λlN=>?_)
 ·rw [aO lN] at K2;refine He K2 (λ_ K=>((K.cU 3 2).cU 0 2)) (λl0 rk lJ wJ=>lJ=l0/\Hp b S wJ (qH wG vK gm (iy (Jy aL) ((gL (nD aL) es).1,(gL (nD aL) es).2.1,(gL (nD aL) es).2.2) es)::dY nZ 169 [aF bM,.slice j6 (((mF l aL bR).1).length) kg,.map (some gm)]::aS bq 132 j6 kg ((mF l aL bR).1)::fZ gV 5 (es.map Prod.snd)::rk)) (λhns H1=>?_) ?_
  ·have k1:=((H1.cU 3 2).cU 0 2);refine uw 0 nZ 2 yu Y k1<|kX 4 Y Y k1<|lD 5 Y (λ_ _=>iY (vs:=[(0,aF aL),(1,.bool false)]) (cs:=[aF aL,.bool false]) Y (by apply qE)) k1<|uw 6 nZ 2 yu rfl k1<|kX 10 rfl rfl k1<|lD 11 rfl (λ_ _=>iY (vs:=[(0,aF aL),(1,.bool true)]) (cs:=[aF aL,.bool true]) rfl (by apply qE)) k1<|Jn H1 (λl0 rk lJ wJ=>lJ=(24,.map (some gm))::(33,.slice ((gL (nD aL) es).1) (((gL (nD aL) es).2.2).length) ((gL (nD aL) es).2.1))::l0/\Hp b S wJ rk) 1 8191 ?_ λhS1=>?_
   ·rintro _ w4 ⟨rfl,K4⟩;refine O1 13 Y ?_;refine az3 (z:=(Jy aL)) (v:=((gL (nD aL) es).1,(gL (nD aL) es).2.1,(gL (nD aL) es).2.2)) K4 s3 vF EF Y Y Y λw5 K5=>?_;have k3:=((K5.rm s4).cU 0 3);refine aQ k3<|Dn ⟨Y,((K5.sel s3).mV 1 4)⟩ Y
   refine Jn H1 (λl0 rk lJ wJ=>lJ=(24,.map (some gm))::(30,.map (some gm))::l0/\Hp b S wJ rk) 2 4095 ?_ λhS2=>?_
   ·rintro _ w6 ⟨rfl,K6⟩;refine O1 12 Y<|ev (Ev.agD (z:=(nD aL)) K6 s3 vF EF NM Y Y) ?_
    have k4:=((K6.cU 3 2).cU 0 2);exact Kj hS1 k4 ⟨Y,K6⟩ Y
   refine O2 3 9 Y Y ?_ ?_
   ·refine nO H1 s0 Y<|aQ k1<|O1 9 Y<|nO H1 s0 Y<|Kj hS2 k1 ⟨Y,H1⟩ Y
   ·refine nO H1 s0 Y<|aQ k1<|O2 3 12 Y Y ?_ ?_
    ·refine nO H1 s0 Y<|Kj hS2 k1 ⟨Y,H1⟩ Y
    ·refine ev (Ev.agD (z:=(nD aL)) H1 s3 vF EF NM Y Y)<|aQ k1<|O1 3 Y<|nO H1 s0 Y<|Kj hS1 k1 ⟨Y,H1⟩ Y
  rintro _ w7 ⟨rfl,K7⟩;refine jy<|mv Y<|ev (eX Y)<|jT nZ 2 yu K7 s1 Y<|mv Y<|ev (iY (vs:=[(0,aF aL),(1,.bool true)]) (cs:=[aF aL,.bool true]) Y (by apply qE)) ?_
  have hn3:=YA (K7.mp s0).1;refine az4 (z:=(nD aL)) K7 s0 vF EF Y Y λw8 K8=>?_;have H2:=K8.arD (k2:=(Jy aL)) (k:=(nD aL)) hn3 s3 (by intro h; cases h);refine jA<|gG<|bQ Y<|bU Y<|jc Y ?_
  have H3:=H2.fz s3;have eO:((mF l aL bR).1:List aI)=(Uf l aL bR):=by first | (unfold Uf; rw [aO lN]; done) | (unfold Vk; rw [aO lN])
  have fQ:((oC (nD aL) (iy (Jy aL) ((gL (nD aL) es).1,(gL (nD aL) es).2.1,(gL (nD aL) es).2.2) es)):List qY)=(Vk l aL bR es):=by first | (unfold Uf; rw [aO lN]; done) | (unfold Vk; rw [aO lN])
  exact⟨j6,kg,Y,by rw [<- eO,<- fQ]; exact((((H3.rm s4).sel s1).mV 1 2).sel s3)⟩
 rw [aK lN] at K2;refine jm ?_;refine bQ Y<|bU Y<|jc Y ?_
 have jW:(l:List aI)=(Uf l aL bR):=by first | (unfold Uf; rw [aK lN]; done) | (unfold Vk; rw [aK lN])
 have mH:(es:List qY)=(Vk l aL bR es):=by first | (unfold Uf; rw [aK lN]; done) | (unfold Vk; rw [aK lN])
 exact⟨A,c,Y,by rw [<- jW,<- mH]; exact(K2.rm s1)⟩
theorem YG{es:List qY}(H0:Hp b S w (dY nZ 169 [aF bM,.slice A l.length c,.map (some gm)]::dP bq A c l::qH wG vK gm es::fZ gV 5 (es.map Prod.snd)::F))(aL:Int)(hl:l.length<=100000) :
    bS prog 165 #[gD nZ,aF aL] w λv w'=>∃(A1:ah)(c1:Nat),v=aF ((pz l aL).2)/\Hp b S w' (dY nZ 169 [aF bM,.slice A1 ((CP l aL).length) c1,.map (some gm)]::dP bq A1 c1 (CP l aL)::qH wG vK gm (PI l aL es)::fZ gV 5 ((PI l aL es).map Prod.snd)::F):=by
 refine sV func165 ntmps165 Y<|iZ Y<|bQ Y<|mv Y<|ev (eX Y)<|jT nZ 1 yt H0 s0 Y<|mv Y<|gX Y (avL _ (H0.s s1).any aL aj) ?_
 rintro _ w1 ⟨j6,kg,rfl,h1⟩;have K1:=H0.f1 h1;refine xt Y Y<|xt Y Y<|gX Y (ads ((K1.sel s0).sel s1) ((pz l aL).2)) ?_
 rintro _ w2 ⟨rfl,K2⟩;refine bU Y<|aW<|bQ Y<|ev (iA Y Y)<|dn<|mQ Y (λhc17=>?_) (λhc17=>?_)
 ·rw [aO hc17] at K2;refine jy<|mv Y<|ev (eX Y)<|jT nZ 2 yu K2 s0 Y<|mv Y<|ev (iY (vs:=[(0,aF aL),(1,.bool false)]) (cs:=[aF aL,.bool false]) Y (by apply qE))<|az4 (z:=(Jy aL)) K2 s3 vF EF rfl rfl λw3 K3=>?_
  have H1:=K3.akP s4 (Jy aL);refine jA<|gG<|bQ Y<|bU Y<|jc Y ?_
  have H2:=H1.fz s3;have eO:((pz l aL).1:List aI)=(CP l aL):=by first | (unfold CP; rw [aO hc17]; done) | (unfold PI; rw [aO hc17])
  have fQ:((oC (Jy aL) es):List qY)=(PI l aL es):=by first | (unfold CP; rw [aO hc17]; done) | (unfold PI; rw [aO hc17])
  exact⟨j6,kg,Y,by rw [<- eO,<- fQ]; exact((((H2.rm s4).sel s1).mV 1 2).sel s3)⟩
 rw [aK hc17] at K2;refine jm ?_;refine bQ Y<|bU Y<|jc Y ?_
 have jW:(l:List aI)=(CP l aL):=by first | (unfold CP; rw [aK hc17]; done) | (unfold PI; rw [aK hc17])
 have mH:(es:List qY)=(PI l aL es):=by first | (unfold CP; rw [aK hc17]; done) | (unfold PI; rw [aK hc17])
 exact⟨A,c,Y,by rw [<- jW,<- mH]; exact(K2.rm s1)⟩
theorem anx{es:List qY}(H0:Hp b S w (dY nZ 169 [aF bM,.slice A l.length c,.map (some gm)]::dP bq A c l::qH wG vK gm es::fZ gV 5 (es.map Prod.snd)::F))(aL:Int)(hl:l.length<=100000) :
    bS prog 192 #[gD nZ,aF aL] w λv w'=>∃(A1:ah)(c1:Nat),v=.tuple #[]/\Hp b S w' (dY nZ 169 [aF bM,.slice A1 ((EA l aL).length) c1,.map (some gm)]::dP bq A1 c1 (EA l aL)::qH wG vK gm (oC ⟨aL,true⟩ es)::fZ gV 5 ((oC ⟨aL,true⟩ es).map Prod.snd)::F):=by
 refine sV func192 ntmps192 Y<|bQ Y<|mv Y<|ev (eX Y)<|jT nZ 1 yt H0 s0 Y<|mv Y<|gX Y (anr _ (H0.s s1).any aL aj) ?_
 rintro _ w1 ⟨j6,kg,rfl,h1⟩;have K1:=H0.f1 h1;refine ev (eX Y)<|yA nZ 1 yt Y<|xP Y K1 s1 Y λw2 K2=>dn<|jy<|mv Y<|ev (eX Y)<|jT nZ 2 yu K2 s0 Y<|mv Y<|ev (iY (vs:=[(0,aF aL),(1,.bool true)]) (cs:=[aF aL,.bool true]) Y (by apply qE))<|az4 (z:=(nD aL)) K2 s3 vF EF rfl rfl λw3 K3=>?_
 have H1:=K3.akP s4 (nD aL);refine jA<|rU (zA Y ?_)
 have H2:=H1.fz s3;have eO:((oC (nD aL) es):List qY)=(oC ⟨aL,true⟩ es):=by rfl
 exact⟨j6,kg,Y,by rw [<- eO]; exact((((H2.rm s4).sel s1).mV 1 2).sel s3)⟩
theorem arL{es:List qY}(H0:Hp b S w (dY nZ 169 [aF bM,.slice A l.length c,.map (some gm)]::dP bq A c l::qH wG vK gm es::fZ gV 5 (es.map Prod.snd)::F))  :
    bS prog 115 #[gD nZ] w λv w'=>v=.tuple #[]/\Hp b S w' (dY nZ 169 [aF bM,.slice none (([]:List aI).length) 0,.map (some gm)]::dP bq none 0 ([]:List aI)::qH wG vK gm ([]:oF)::fZ gV 5 (([]:oF).map Prod.snd)::F):=by
 refine sV func115 ntmps115 Y<|bQ Y<|ev (eX Y)<|yA nZ 1 yt Y<|xP Y H0 s0 Y λw1 K1=>dn<|jy<|mv Y<|ev (eX Y)<|jT nZ 2 yu K1 s0 Y<|aHV K1 s2 EF Y λw2 K2=>?_
 have H1:=K2.akO s3 (List.nil_sublist _);refine jA<|rU (zA Y ?_)
 have H2:=H1.push (DV bq _ _);exact⟨Y,((((H2.rm s4).sel s1).mV 1 2).sel s3)⟩
theorem PK{es:List qY}(H0:Hp b S w (dY nZ 169 [aF bM,.slice A l.length c,.map (some gm)]::dP bq A c l::qH wG vK gm es::fZ gV 5 (es.map Prod.snd)::F))(hl:l.length<=100000) :
    bS prog 81 #[gD nZ] w λv w'=>∃(A0:ah)(c0:Nat),v=.slice A0 ((eY l).length) c0/\Hp b S w' (aS bq 132 A0 c0 (eY l)::dY nZ 169 [aF bM,.slice A l.length c,.map (some gm)]::dP bq A c l::qH wG vK gm es::fZ gV 5 (es.map Prod.snd)::F):=by
 refine sV func81 ntmps81 Y<|iZ Y<|bQ Y<|ev (eX Y)<|jT nZ 1 yt H0 s0 Y<|gX Y (agz _ (H0.s s1).any aj) ?_
 rintro _ w1 ⟨j6,kg,rfl,h1⟩;have K1:=H0.f1 h1;refine bU Y<|jc Y ?_
 exact⟨j6,kg,Y,K1⟩
def agF(s:List aI × oF)(x:aI):List aI × oF:=if x.gB=true then(EA s.1 x.aC,oC ⟨x.aC,true⟩ s.2) else s
def qP(l:List aI)(es:oF)(k:Nat):List aI × oF:=(l.take k).foldl agF (l,es)
theorem Jz{es:oF}{k:Nat}(hx:l[k]? = some x)(ht:x.gB=true):qP l es (k+1)=(EA (qP l es k).1 x.aC,oC ⟨x.aC,true⟩ (qP l es k).2):=by
  unfold qP; rw [fD hx,yU];show agF _ x=_;unfold agF; rw [aO ht]
theorem PL{es:oF}{k:Nat}(hx:l[k]? = some x)(ht:x.gB=false):qP l es (k+1)=qP l es k:=by
  unfold qP; rw [fD hx,yU];show agF _ x=_;unfold agF; rw [aK (by rw [ht]; decide)]
theorem ajr(l:List aI)(c:Int):(EA l c).length<=l.length:=lV (mR _ _) (wN l)
theorem agG(l:List aI)(es:oF):∀ k,(qP l es k).1.length<=l.length
  | 0=>kV _
  | k+1=>by
    have h:=agG l es k
    rcases P8 k l.length with hk | hk
    · obtain⟨x,hx⟩:=bC hk
      cases ht:x.gB with
      | true=>rw [Jz hx ht]; exact lV (ajr _ _) h
      | false=>rw [PL hx ht]; exact h
    · unfold qP at h ⊢
      rw [iH aj] at h ⊢; exact h
def vv(bit:Int)(n:Nat):Nat:=(if 0>bit then(0:Int) else bit).toNat % (8*n)
def avU(xs:List (BitVec 8))(b:Nat):List (BitVec 8):=xs.set (b / 8) (xs.getD (b / 8) 0#8 ^^^ (1#8 <<< (b % 8)))
def RG(c bit:Int)(es:oF):oF:=if(gL ⟨c,false⟩ es).2.2.length=0 then es else iy ⟨c,false⟩ ((gL ⟨c,false⟩ es).1,(gL ⟨c,false⟩ es).2.1,avU (gL ⟨c,false⟩ es).2.2 (vv bit (gL ⟨c,false⟩ es).2.2.length)) es
theorem agH{es:List qY}(H0:Hp b S w (dY nZ 169 [aF bM,.slice A l.length c,.map (some gm)]::dP bq A c l::qH wG vK gm es::fZ gV 5 (es.map Prod.snd)::F))(hl:l.length<=100000) :
    bS prog 112 #[gD nZ] w λv w'=>∃(A1:ah)(c1:Nat),v=.tuple #[]/\Hp b S w' (dY nZ 169 [aF bM,.slice A1 (((qP l es l.length).1).length) c1,.map (some gm)]::dP bq A1 c1 ((qP l es l.length).1)::qH wG vK gm ((qP l es l.length).2)::fZ gV 5 (((qP l es l.length).2).map Prod.snd)::F):=by
 refine sV func112 ntmps112 Y ?_;have H1:=H0.push (H0.s s1);refine bQ Y<|ev (eX Y)<|jT nZ 1 yt H1 s1 Y<|ev (eU jK Y)<|mv Y<|dn<|cB ?_
 have eO:(l:List aI)=(qP l es 0).1:=by rfl
 rw [eO] at H1;have fQ:(.slice A l.length c:Value)=.slice A (((qP l es 0).1).length) c:=by rfl
 try rw [fQ] at H1
 have jW:es=(qP l es 0).2:=by rfl
 rw [jW] at H1;refine Lp ((H1.cU 3 2).cU 0 2) (λl0 rk mJ lJ wJ=>∃(k:Nat)(A1:ah)(c1:Nat),lJ=(9,aF ((k:Nat):Int))::l0/\mJ=l.length - k/\k<=l.length/\Hp b S wJ (dP bq A1 c1 ((qP l es k).1)::dY nZ 169 [aF bM,.slice A1 (((qP l es k).1).length) c1,.map (some gm)]::qH wG vK gm ((qP l es k).2)::fZ gV 5 (((qP l es k).2).map Prod.snd)::rk)) ⟨0,A,c,Y,Y,fJ _,((H1.sel s2).mV 1 4)⟩ Y ?_;rintro _ _ w1 ⟨k,A1,c1,rfl,rfl,hk,K1⟩;refine rg<|ev (fC Y Y)<|dn<|pQ Y (λGm=>?_) (λGm=>?_)
 ·refine jm ?_;refine aW<|cB<|rg ?_
  obtain⟨x1,bP⟩:=bC (xs:=l) (i:=k) aj;refine ev (cu (i:=k) jK mG Y Y Y (aJ bP) ((K1.s s4).some_ bP))<|ev (gI oZ Y Y ((K1.s s4).fE bP))<|al yj Y K1 λg1 w2 K2=>sty Y K2 s0 Y λw3 K3=>dn<|rg<|jT g1 3 uo K3 s0 Y<|dn<|bK Y (λrM=>?_) (λrM=>?_)
  ·have hrl:=agG l es k;refine jy<|mv Y<|jT g1 0 mM K3 s0 Y<|gX Y (anx ((((K3.sel s0).mV 3 2).sel s3).sel s4) x1.aC aj) ?_
   rintro _ w4 ⟨aAe,aAf,rfl,K4⟩;refine jA<|iE (gG ?_)
   refine jy<|ev (dO Y Y)<|mv Y<|jA ?_
   have mH:((EA ((qP l es k).1) x1.aC):List aI)=(qP l es (k+1)).1:=by first | rw [Jz bP rM] | rw [PL bP rM]
   rw [mH] at K4;have rR:(.slice aAe ((EA ((qP l es k).1) x1.aC).length) aAf:Value)=.slice aAe (((qP l es (k+1)).1).length) aAf:=by first | rw [Jz bP rM] | rw [PL bP rM]
   try rw [rR] at K4
   have wM:(oC ⟨x1.aC,true⟩ ((qP l es k).2))=(qP l es (k+1)).2:=by first | rw [Jz bP rM] | rw [PL bP rM]
   rw [wM] at K4;exact dI ⟨(k+1),aAe,aAf,Y,Y,aj,(((K4.rm s4).sel s0).sel s1)⟩ rfl aj
  refine xQ ?_;refine jy<|ev (dO Y Y)<|mv Y<|jA ?_
  have zk:((qP l es k).1:List aI)=(qP l es (k+1)).1:=by first | rw [Jz bP rM] | rw [PL bP rM]
  rw [zk] at K3;have hq8:(.slice A1 (((qP l es k).1).length) c1:Value)=.slice A1 (((qP l es (k+1)).1).length) c1:=by first | rw [Jz bP rM] | rw [PL bP rM]
  try rw [hq8] at K3
  have AJ:(qP l es k).2=(qP l es (k+1)).2:=by first | rw [Jz bP rM] | rw [PL bP rM]
  rw [AJ] at K3;exact dI ⟨(k+1),A1,c1,Y,Y,aj,(K3.rm s0)⟩ rfl aj
 refine qJ (lu (lu (rE (rU (zA Y ?_)))));have r9:((qP l es k).1:List aI)=((qP l es l.length).1):=by rw [show k=l.length from by omega]
 have hq11:((qP l es k).2:List qY)=((qP l es l.length).2):=by rw [show k=l.length from by omega]
 exact⟨A1,c1,Y,by rw [<- r9,<- hq11]; exact(((K1.rm s4).sel s0).sel s1)⟩
theorem anz{es:List (bZ × Option Addr × Nat × List (BitVec 8))}(H0:Hp b S w (dY nZ 169 [aF bM,.slice A l.length c,.map (some gm)]::dP bq A c l::qH wG vK gm es::fZ gV 5 (es.map Prod.snd)::F))(aL:Int)(bit:Int)(hb:(gL ⟨aL,false⟩ es).2.2.length<=1000)(hi:qm bit) :
    bS prog 114 #[gD nZ,aF aL,aF bit] w λv w'=>v=aF (if(gL ⟨aL,false⟩ es).2.2.length=0 then 5 else 0)/\Hp b S w' (dY nZ 169 [aF bM,.slice A l.length c,.map (some gm)]::dP bq A c l::qH wG vK gm (RG aL bit es)::fZ gV 5 ((RG aL bit es).map Prod.snd)::F):=by
 refine sV func114 ntmps114 Y ?_;have hi2:bit<=9223372036854775807:=hi.2;have hi3:(if 0>bit then(0:Int) else bit).toNat<=9223372036854775807:=by split <;> omega
 refine iZ Y<|bQ Y<|ev (eX Y)<|jT nZ 2 yu H0 s0 Y<|mv Y<|ev (iY (vs:=[(0,aF aL),(1,.bool false)]) (cs:=[aF aL,.bool false]) Y (by apply qE))<|ev (Ev.agD (z:=(⟨aL,false⟩:bZ)) H0 s2 vF EF NM rfl rfl)<|bU rfl<|aW<|bQ rfl<|ev (eU EC rfl)<|ev (iA rfl rfl)<|dn<|mQ rfl (λhc17=>?_) (λhc17=>?_)
 ·refine iZ Y<|uX Y ?_
  have eO:(5:Int)=(if(gL ⟨aL,false⟩ es).2.2.length=0 then 5 else 0):=by rw [aO aj]
  have fQ:(es:List (bZ × Option Addr × Nat × List (BitVec 8)))=(RG aL bit es):=by unfold RG; rw [aO aj]
  exact⟨by rw [<- eO] <;> rfl,by rw [<- fQ]; exact H0⟩
 have hlt:=Nat.mod_lt (if 0>bit then(0:Int) else bit).toNat (y:=8*(gL (⟨aL,false⟩:bZ) es).2.2.length) aj;have hsb:vv bit (gL (⟨aL,false⟩:bZ) es).2.2.length<8*(gL (⟨aL,false⟩:bZ) es).2.2.length:=hlt;refine jm ?_;refine bQ Y<|ev (Ev.max2 Y Y)<|fU (t:=19) Y (aR (Value.int .i64) (show((if 0>bit then 0 else bit):Int)=(((if 0>bit then(0:Int) else bit).toNat:Nat):Int) by split <;> omega))<|mv rfl<|ev (eU EC rfl)<|ev (Ev.mul rfl rfl (wQ aj aj))<|ev (Ev.aDe (a:=(if 0>bit then(0:Int) else bit).toNat) (c:=8*((gL (⟨aL,false⟩:bZ) es).2.2).length) rfl rfl rfl aj aj)<|fU (t:=23) rfl (aR (Value.int .i64) (show(((((if 0>bit then(0:Int) else bit).toNat) % (8*((gL (⟨aL,false⟩:bZ) es).2.2).length):Nat):Int):Int)=((vv bit (gL (⟨aL,false⟩:bZ) es).2.2.length:Nat):Int) by rfl))<|bU rfl ?_
 obtain⟨j,hj⟩:=avP (k:=(⟨aL,false⟩:bZ)) (es:=es) aj;have H1:=H0.az6 s3 hj;obtain⟨x1,bP⟩:=bC (xs:=(gL (⟨aL,false⟩:bZ) es).2.2) (i:=(vv bit (gL (⟨aL,false⟩:bZ) es).2.2.length) / 8) aj;refine He H1 (λ_ K=>((K.rm s4).cU 0 3)) (λl0 rk lJ wJ=>lJ=(7,.slice ((gL (⟨aL,false⟩:bZ) es).1) ((((gL (⟨aL,false⟩:bZ) es).2.2).set ((vv bit (gL (⟨aL,false⟩:bZ) es).2.2.length) / 8) (x1 ^^^ (1#8 <<< ((vv bit (gL (⟨aL,false⟩:bZ) es).2.2.length) % 8)))).length) ((gL (⟨aL,false⟩:bZ) es).2.1))::(14,.slice ((gL (⟨aL,false⟩:bZ) es).1) ((((gL (⟨aL,false⟩:bZ) es).2.2).set ((vv bit (gL (⟨aL,false⟩:bZ) es).2.2.length) / 8) (x1 ^^^ (1#8 <<< ((vv bit (gL (⟨aL,false⟩:bZ) es).2.2.length) % 8)))).length) ((gL (⟨aL,false⟩:bZ) es).2.1))::(15,.slice ((gL (⟨aL,false⟩:bZ) es).1) ((((gL (⟨aL,false⟩:bZ) es).2.2).set ((vv bit (gL (⟨aL,false⟩:bZ) es).2.2.length) / 8) (x1 ^^^ (1#8 <<< ((vv bit (gL (⟨aL,false⟩:bZ) es).2.2.length) % 8)))).length) ((gL (⟨aL,false⟩:bZ) es).2.1))::(20,.slice ((gL (⟨aL,false⟩:bZ) es).1) ((((gL (⟨aL,false⟩:bZ) es).2.2).set ((vv bit (gL (⟨aL,false⟩:bZ) es).2.2.length) / 8) (x1 ^^^ (1#8 <<< ((vv bit (gL (⟨aL,false⟩:bZ) es).2.2.length) % 8)))).length) ((gL (⟨aL,false⟩:bZ) es).2.1))::l0/\Hp b S wJ (aS gV 5 ((gL (⟨aL,false⟩:bZ) es).1) ((gL (⟨aL,false⟩:bZ) es).2.1) (((gL (⟨aL,false⟩:bZ) es).2.2).set ((vv bit (gL (⟨aL,false⟩:bZ) es).2.2.length) / 8) (x1 ^^^ (1#8 <<< ((vv bit (gL (⟨aL,false⟩:bZ) es).2.2.length) % 8))))::fZ gV 5 ((es.map Prod.snd).eraseIdx j)::dY nZ 169 [aF bM,.slice A l.length c,.map (some gm)]::qH wG vK gm es::rk)) (λhns H2=>?_) ?_
 ·have k1:=((H2.rm s4).cU 0 3);refine kX 0 Y Y k1<|kX 1 Y Y k1<|lD 2 Y (λ_ _=>Ev.aHQ (a:=vv bit (gL (⟨aL,false⟩:bZ) es).2.2.length) (c:=8) Y Y Y aj aj) k1<|kX 5 Y Y k1<|lD 6 Y (λ_ _=>Ev.aDe (a:=vv bit (gL (⟨aL,false⟩:bZ) es).2.2.length) (c:=8) Y Y Y aj aj) k1<|lD 7 Y (λ_ _=>Ev.aHP (a:=1#8) (c:=(vv bit (gL (⟨aL,false⟩:bZ) es).2.2.length) % 8) Y Y aj) k1<|O1 3 Y<|ev (cu (i:=(vv bit (gL (⟨aL,false⟩:bZ) es).2.2.length) / 8) EC avR Y Y Y (aJ bP) ((H2.o s0).some_ bP))<|aQ k1<|O1 4 Y<|ev (iL aDo Y ((H2.o s0).fF (j:=0) bP Y))<|aQ k1<|lD 8 Y (λ_ _=>Ev.aHO (a:=x1) (b:=(1#8 <<< ((vv bit (gL (⟨aL,false⟩:bZ) es).2.2.length) % 8))) Y Y) k1<|O1 9 Y<|ev (cu (i:=(vv bit (gL (⟨aL,false⟩:bZ) es).2.2.length) / 8) EC avR Y Y Y (aJ bP) ((H2.o s0).some_ bP))<|aQ k1<|O1 10 Y<|se (i:=(vv bit (gL (⟨aL,false⟩:bZ) es).2.2.length) / 8) (f:=0) (x:=x1) (x':=(x1 ^^^ (1#8 <<< ((vv bit (gL (⟨aL,false⟩:bZ) es).2.2.length) % 8)))) (ds:=[.int .u8 (((x1 ^^^ (1#8 <<< ((vv bit (gL (⟨aL,false⟩:bZ) es).2.2.length) % 8)))).toNat:Int)]) H2 s0 Y Y Y bP Y avR (pU Y) Y (by rintro _ _ _ ⟨⟩; rfl) λw1 K1=>?_
  have hl1:(((gL (⟨aL,false⟩:bZ) es).2.2).set ((vv bit (gL (⟨aL,false⟩:bZ) es).2.2.length) / 8) (x1 ^^^ (1#8 <<< ((vv bit (gL (⟨aL,false⟩:bZ) es).2.2.length) % 8)))).length=((gL (⟨aL,false⟩:bZ) es).2.2).length:=gJ ..;refine fU (t:=14) (u:=.slice ((gL (⟨aL,false⟩:bZ) es).1) (((gL (⟨aL,false⟩:bZ) es).2.2).length) ((gL (⟨aL,false⟩:bZ) es).2.1)) (v:=.slice ((gL (⟨aL,false⟩:bZ) es).1) ((((gL (⟨aL,false⟩:bZ) es).2.2).set ((vv bit (gL (⟨aL,false⟩:bZ) es).2.2.length) / 8) (x1 ^^^ (1#8 <<< ((vv bit (gL (⟨aL,false⟩:bZ) es).2.2.length) % 8)))).length) ((gL (⟨aL,false⟩:bZ) es).2.1)) Y (by rw [hl1])<|fU (t:=7) (u:=.slice ((gL (⟨aL,false⟩:bZ) es).1) (((gL (⟨aL,false⟩:bZ) es).2.2).length) ((gL (⟨aL,false⟩:bZ) es).2.1)) (v:=.slice ((gL (⟨aL,false⟩:bZ) es).1) ((((gL (⟨aL,false⟩:bZ) es).2.2).set ((vv bit (gL (⟨aL,false⟩:bZ) es).2.2.length) / 8) (x1 ^^^ (1#8 <<< ((vv bit (gL (⟨aL,false⟩:bZ) es).2.2.length) % 8)))).length) ((gL (⟨aL,false⟩:bZ) es).2.1)) rfl (by rw [hl1])<|fU (t:=15) (u:=.slice ((gL (⟨aL,false⟩:bZ) es).1) (((gL (⟨aL,false⟩:bZ) es).2.2).length) ((gL (⟨aL,false⟩:bZ) es).2.1)) (v:=.slice ((gL (⟨aL,false⟩:bZ) es).1) ((((gL (⟨aL,false⟩:bZ) es).2.2).set ((vv bit (gL (⟨aL,false⟩:bZ) es).2.2.length) / 8) (x1 ^^^ (1#8 <<< ((vv bit (gL (⟨aL,false⟩:bZ) es).2.2.length) % 8)))).length) ((gL (⟨aL,false⟩:bZ) es).2.1)) rfl (by rw [hl1])<|fU (t:=20) (u:=.slice ((gL (⟨aL,false⟩:bZ) es).1) (((gL (⟨aL,false⟩:bZ) es).2.2).length) ((gL (⟨aL,false⟩:bZ) es).2.1)) (v:=.slice ((gL (⟨aL,false⟩:bZ) es).1) ((((gL (⟨aL,false⟩:bZ) es).2.2).set ((vv bit (gL (⟨aL,false⟩:bZ) es).2.2.length) / 8) (x1 ^^^ (1#8 <<< ((vv bit (gL (⟨aL,false⟩:bZ) es).2.2.length) % 8)))).length) ((gL (⟨aL,false⟩:bZ) es).2.1)) rfl (by rw [hl1]) ?_
  refine fU (t:=24) (u:=.slice ((gL (⟨aL,false⟩:bZ) es).1) (((gL (⟨aL,false⟩:bZ) es).2.2).length) ((gL (⟨aL,false⟩:bZ) es).2.1)) (v:=.slice ((gL (⟨aL,false⟩:bZ) es).1) ((((gL (⟨aL,false⟩:bZ) es).2.2).set ((vv bit (gL (⟨aL,false⟩:bZ) es).2.2.length) / 8) (x1 ^^^ (1#8 <<< ((vv bit (gL (⟨aL,false⟩:bZ) es).2.2.length) % 8)))).length) ((gL (⟨aL,false⟩:bZ) es).2.1)) Y (by rw [hl1]) ?_;have k2:=((K1.rm s4).cU 0 3);refine aQ k2<|Dn ⟨Y,((K1.sel s3).mV 1 4)⟩ Y
 rintro _ w2 ⟨rfl,K2⟩;have H3:=K2.aDi hj av s0 s0 s1;refine iZ Y<|jc Y ?_
 have jW:(0:Int)=(if(gL ⟨aL,false⟩ es).2.2.length=0 then 5 else 0):=by rw [aK aj]
 have mH:((iy (⟨aL,false⟩:bZ) ((gL (⟨aL,false⟩:bZ) es).1,(gL (⟨aL,false⟩:bZ) es).2.1,(((gL (⟨aL,false⟩:bZ) es).2.2).set ((vv bit (gL (⟨aL,false⟩:bZ) es).2.2.length) / 8) (x1 ^^^ (1#8 <<< ((vv bit (gL (⟨aL,false⟩:bZ) es).2.2.length) % 8))))) es):List (bZ × Option Addr × Nat × List (BitVec 8)))=(RG aL bit es):=by unfold RG avU; rw [aK aj,avQ bP]
 exact⟨by rw [<- jW] <;> rfl,by rw [<- mH]; exact((H3.mV 0 2).mV 2 2)⟩
def reqs(dh:Array Oper)(i:Nat):List Nat:=match dh[i]? with
  | some o=>(o.after.toList.filter λe=>Region.binds .any e).map (·.on)
  | none=>[]
def anA(dh:Array Oper)(ids:List Nat)(full:Array Bool):Bool:=
  (nodupB ids&&(full.size == dh.size&&(List.range dh.size).all λi=>full.getD i false == ids.contains i))&&((ids.all λi=>decide (i<dh.size)&&(reqs dh i).all λj=>decide (j<i)&&ids.contains j)&&
  ((List.range dh.size).all λr=>ids.contains r||((reqs dh r).any (λj=>!ids.contains j)||ids.all λi=>(reqs dh r).contains i||ids.any λj=>(reqs dh j).contains i)))
theorem JA(hs:aX.size=dh.size)(i:Nat):i∈Region.ready .any dh aX↔i<dh.size/\aX.getD i false=false/\∀ j∈reqs dh i,aX.getD j false=true:=by
  rw [mem_ready]
  by_cases hi:i<dh.size
  · have h1:aX.getD i true=aX.getD i false:=by
      rw [DT,DT,KR aj]; rfl
    have h2:dh[i]? = some dh[i]:=KR hi;rw [h1]
    constructor
    · rintro⟨h3,o,h4,h5⟩
      refine⟨hi,h3,λj hj=>?_⟩;unfold reqs at hj;rw [h4] at hj;obtain⟨e,he,rfl⟩:=gQ.1 hj;obtain⟨he1,he2⟩:=nJ.1 he;exact h5 e (by simpa using he1) he2
    · rintro⟨_,h3,h5⟩
      refine⟨h3,dh[i],h2,λe he hb=>h5 e.on ?_⟩;unfold reqs;rw [h2];exact gQ.2 ⟨e,nJ.2 ⟨by simpa using he,hb⟩,rfl⟩
  · constructor
    · rintro⟨_,o,h4,_⟩
      exact absurd (vW.1 h4).1 hi
    · rintro⟨h,_⟩; exact absurd h hi
theorem YH:∀ {l:List Nat},nodupB l=true->l.Nodup
  | [],_=>List.nodup_nil
  | x::l,h=>by
    simp only [nodupB,bN,eG] at h
    exact PE.2 ⟨λhm=>(by rw [nI.2 hm] at h; cases h.1),YH h.2⟩
theorem Ic{r i:Nat}(hr:r<aX.size):(aX.setIfInBounds r true).getD i false=if i=r then true else aX.getD i false:=by
  rw [DT,DT,Array.getElem?_setIfInBounds]
  by_cases h:r=i
  · subst h; simp [hr]
  · rw [aK h,aK (λe=>h e.symm)]
theorem avV{l:List Nat}{r:Nat}(hn:l.Nodup)(hr:r∈l)(hs:r<aX.size)(hu:aX.getD r false=false) :
    (l.filter λi=>!(aX.setIfInBounds r true).getD i false).length+1=(l.filter λi=>!aX.getD i false).length:=by
  induction l with
  | nil=>cases hr
  | cons x l ih=>
    obtain⟨h1,h2⟩:=PE.1 hn
    rcases iX.1 hr with rfl | hr'
    · have e:(l.filter λi=>!(aX.setIfInBounds r true).getD i false)=l.filter λi=>!aX.getD i false:=List.filter_congr λi hi=>by
        rw [Ic hs,aK (fun(e:i=r)=>h1 (e▸hi))]
      rw [adi (by rw [Ic hs,aO rfl]; simp),adk (by rw [hu]; rfl),e]; rfl
    · have hne:x≠r:=λe=>h1 (e▸hr')
      have:=ih h2 hr';rw [Iz,Iz,Ic hs,aK hne]
      split <;> (try simp only [pF]) <;> omega
theorem akQ{ids:List Nat}(h:anA dh ids full=true)(rest:Nat):∀(fuel:Nat)(aX:Array Bool),aX.size=dh.size->(∀ i,aX.getD i false=true->i∈ids)->
    (∀ i,aX.getD i false=true->∀ j∈reqs dh i,aX.getD j false=true)->fuel=rest+(ids.filter λi=>!aX.getD i false).length->qV dh ids rest full fuel aX=true:=by
  simp only [anA,bN,OT,lI,List.mem_range,bO,fq,nI,Ed,eG] at h
  obtain⟨⟨hn,hfs,hfull⟩,ajs,hoth⟩:=h;have hnd:=YH hn;have hlt:∀ i∈ids,i<dh.size:=λi hi=>(ajs i hi).1
  -- all aX: the array is the full one
  have hfl:∀ {aX:Array Bool},aX.size=dh.size->(∀ i,aX.getD i false=true->i∈ids)->(∀ i∈ids,aX.getD i false=true)->aX=full:=by
    intro aX hs h1 h2;refine Array.ext aj λi hi1 hi2=>?_;have e1:aX.getD i false=aX[i]:=by rw [DT,KR hi1]; rfl
    have e2:full.getD i false=full[i]:=by rw [DT,KR hi2]; rfl
    rw [<- e1,<- e2,hfull i aj]
    by_cases hm:i∈ids
    · rw [h2 i hm,nI.2 hm]
    · rw [xA.2 (λe=>hm (h1 i e)),xA.2 (λe=>hm (nI.1 e))]
  have hcz:∀ {aX:Array Bool},(ids.filter λi=>!aX.getD i false).length=0↔∀ i∈ids,aX.getD i false=true:=by
    intro aX;rw [List.length_eq_zero_iff,YD]
    simp
  intro fuel
  induction fuel with
  | zero=>
    intro aX hs h1 h2 hf;have hz:=hcz.1 (by omega:(ids.filter λi=>!aX.getD i false).length=0);have hr0:rest=0:=aj;unfold qV;rw [hfl hs h1 hz,hr0]; simp
  | succ f ih=>
    intro aX hs h1 h2 hf;unfold qV
    by_cases he:aX=full
    · have hz:(ids.filter λi=>!aX.getD i false).length=0:=hcz.2 λi hi=>by rw [he,hfull i (hlt i hi)]; exact nI.2 hi
      rw [aO (by rw [he]; simp)]
      simp only [OT]; omega
    · rw [aK (by simpa using he)]
      have hun:∃ i∈ids,aX.getD i false=false:=by
        by_cases hh:∀ i∈ids,aX.getD i false=true
        · exact absurd (hfl hs h1 hh) he
        · simp only [Classical.not_forall] at hh
          obtain⟨i,hi,hx⟩:=hh;exact⟨i,hi,xA.2 hx⟩
      have hmin:∀ m i,i<=m->i∈ids->aX.getD i false=false->∃ i∈ids,aX.getD i false=false/\∀ j∈reqs dh i,aX.getD j false=true:=by
        intro m
        induction m with
        | zero=>
          intro i hi hm hu;refine⟨i,hm,hu,λj hj=>?_⟩;have:=((ajs i hm).2 j hj).1;omega
        | succ m ihm=>
          intro i hi hm hu
          by_cases hall:∀ j∈reqs dh i,aX.getD j false=true
          · exact⟨i,hm,hu,hall⟩
          · simp only [Classical.not_forall] at hall
            obtain⟨j,hj,hx⟩:=hall;obtain⟨hj1,hj2⟩:=(ajs i hm).2 j hj;exact ihm j aj hj2 (xA.2 hx)
      obtain⟨i0,hi0,hu0⟩:=hun;obtain⟨i1,hi1,hu1,hr1⟩:=hmin i0 i0 (kV _) hi0 hu0
      have hin:∀ r∈Region.ready .any dh aX,r∈ids:=by
        intro r hr;obtain⟨hr1,hr2,hr3⟩:=(JA hs r).1 hr
        rcases hoth r hr1 with h3 | ⟨j,hj,hj2⟩ | h3
        · exact h3
        · exact absurd (h1 j (hr3 j hj)) (λhm=>(by rw [nI.2 hm] at hj2; cases hj2))
        · exfalso
          have hall:∀ m i,dh.size<=i+m->i∈ids->aX.getD i false=true:=by
            intro m
            induction m with
            | zero=>intro i hi hm; have:=hlt i hm; omega
            | succ m ihm=>
              intro i hi hm
              rcases h3 i hm with h4 | ⟨j,hj,hj2⟩
              · exact hr3 i h4
              · have hij:=((ajs j hj).2 i hj2).1
                exact h2 j (ihm j aj hj) i hj2
          have:=hall dh.size i0 aj hi0;rw [this] at hu0; cases hu0
      simp only [bN,eG,lI]
      refine⟨?_,λr hr=>⟨nI.2 (hin r hr),?_⟩⟩
      · have:i1∈Region.ready .any dh aX:=(JA hs i1).2 ⟨hlt i1 hi1,hu1,hr1⟩
        cases hq:Region.ready .any dh aX with
        | nil=>rw [hq] at this; cases this
        | cons _ _=>rfl
      · obtain⟨hr1,hr2,hr3⟩:=(JA hs r).1 hr
        have hrs:r<aX.size:=aj;refine ih _ (by simpa using hs) (λi hi=>?_) (λi hi j hj=>?_) ?_
        · rw [Ic hrs] at hi
          split at hi
          · rename_i e; rw [e]; exact hin r hr
          · exact h1 i hi
        · rw [Ic hrs] at hi ⊢
          split
          · rfl
          · split at hi
            · rename_i e; subst e; exact hr3 j hj
            · exact h2 i hi j hj
        · have:=avV hnd (hin r hr) hrs hr2
          omega
theorem aAg{ids:List Nat}{rest fuel n:Nat}(h:(anA dh ids full&&(n == dh.size&&fuel == rest+ids.length))=true):qV dh ids rest full fuel (List.replicate n false).toArray=true:=by
  simp only [bN,OT] at h
  have h0:∀ i,(List.replicate n false).toArray.getD i false=false:=λi=>by
    rw [DT]
    by_cases hi:i<n <;> simp [hi]
  refine akQ h.1 rest fuel _ (by simpa using h.2.1) (λi hi=>?_) (λi hi=>?_) ?_
  · rw [h0] at hi; cases hi
  · rw [h0] at hi; cases hi
  · rw [h.2.2]
    congr 1
    symm
    rw [Ep.2 (λi _=>by rw [h0]; rfl)]
def UW(es:oF)(x:aI):Bool:=!decide (((iM (gL (⟨x.aC,false⟩:bZ) es).2.2).toNat:Int)=x.Sum)
def yw(l:List aI)(es:oF):List (aI × Bool):=(eY l).map λx=>(x,UW es x)
theorem arM{es:oF}{k:Nat}(h:(eY l)[k]? = some x):((eY l).take k).map (fun(x:aI)=>(x,UW es x))++[(x,UW es x)] <+: yw l es:=by
  refine⟨((eY l).drop (k+1)).map (fun(x:aI)=>(x,UW es x)),?_⟩;unfold yw
  conv=>rhs; rw [<- uF (k+1) (eY l)]
  rw [qc,fD h,qc]; rfl
theorem NP(l:List aI):(eY l).length<=l.length:=lV (mR _ _) (wN l)
theorem UY:l9 prog 93:=ay
theorem RH:eu prog 132 2 2:=ay
abbrev akR:=List.toArray [true,true,true,true,true,true,true,true,true,true,true,true,true,true,true,true]
theorem abj{gp:Nat}{es:List qY}(hn:l.length<=100000) :
    Iter prog 196 [gD gp] (fun(x:aI × Bool)=>[.agg #[aF x.1.aC,aF x.1.aB,gK x.1.Sum,.bool x.1.gB,.bool x.1.Bad],.bool x.2]) (yw l es) b S [dY gp 93 [gD nZ],dY nZ 169 [aF bM,.slice A l.length c,.map (some gm)],dP bq A c l,qH wG vK gm es,fZ gV 5 (es.map Prod.snd)]:=by
 intro lr Jf Jx w F0 H0 h0 hY;refine WP.ah3 func196 Y ntmps196 Y ?_;have K0:=uN (F:=F0) H0;have hrl:=NP l;refine rg<|ev (dx UY Y (K0.x s0) Y)<|ev (eX Y)<|ev (dW (q:=⟨nZ,1,none⟩) yt Y Y)<|ev (dx aDq Y (K0.x s1) Y)<|xK Y Y Y aAd (agz _ (K0.s s2).any aj) Y ?_
 rintro _ w1 ⟨j6,kg,rfl,h1⟩;have K1:=K0.f1 h1;have Lj:=(K1.o s0).bH;refine ev (eU jK Y)<|mv Y<|dn<|cB<|pK (λmJ lJ wJ=>∃(k:Nat)(F:List lH),lJ=[(0,.func (.yield lr) #[] #[]),(1,gD gp),(9,.slice j6 ((eY l).length) kg),(10,aF (((eY l).length:Nat):Int)),(11,aF ((k:Nat):Int))]/\mJ=(eY l).length - k/\k<=(eY l).length/\(Jf (((eY l).take k).map fun(x:aI)=>(x,UW es x)) F)/\Hp b S wJ (aS bq 132 j6 kg (eY l)::dY gp 93 [gD nZ]::dY nZ 169 [aF bM,.slice A l.length c,.map (some gm)]::dP bq A c l::qH wG vK gm es::fZ gV 5 (es.map Prod.snd)::F)) ⟨0,F0,Y,Y,fJ _,by simpa using h0,K1⟩ rfl ?_
 rintro _ _ w2 ⟨k,F,rfl,rfl,hk,hJt,K2⟩;refine rg<|ev (fC Y Y)<|dn<|pQ Y (λoN=>?_) (λoN=>?_)
 ·refine ze (gG ?_);refine aW<|cB<|rg ?_
  obtain⟨x1,bP⟩:=bC (xs:=eY l) (i:=k) aj;refine ev (cu (i:=k) jK mG Y Y Y (aJ bP) ((K2.o s0).some_ bP))<|ev (gI oZ Y Y ((K2.o s0).fE bP))<|al yj Y K2 λg1 w3 K3=>stw Y Y Y mG K3 s0 Y Y λw4 K4=>dn<|WP.dr ak ?_
  have H1:=K4.grow (pI w4).drew;refine WI.block (S:=λwK=>Hp b S wK (dY g1 132 [aF x1.aC,aF x1.aB,gK x1.Sum,.bool x1.gB,.bool x1.Bad]::aS bq 132 j6 kg (eY l)::dY gp 93 [gD nZ]::dY nZ 169 [aF bM,.slice A l.length c,.map (some gm)]::dP bq A c l::qH wG vK gm es::fZ gV 5 (es.map Prod.snd)::F)) [(0,15,.func (.yield lr) #[] #[]),(1,16,.agg #[aF x1.aC,aF x1.aB,gK x1.Sum,.bool x1.gB,.bool x1.Bad]),(2,17,gD nZ),(6,21,gD g1),(11,26,.pointer (some ⟨g1,2,none⟩)),(3,18,gD nZ),(7,22,aF x1.aC),(12,27,gK x1.Sum),(4,19,.pointer (some ⟨nZ,2,none⟩)),(8,23,.agg #[aF x1.aC,.bool false]),(5,20,.map (some gm)),(9,24,.slice ((gL (⟨x1.aC,false⟩:bZ) es).1) (((gL (⟨x1.aC,false⟩:bZ) es).2.2).length) ((gL (⟨x1.aC,false⟩:bZ) es).2.1)),(10,25,gK ((iM ((gL (⟨x1.aC,false⟩:bZ) es).2.2)).toNat:Int)),(13,28,.bool (!decide (((iM ((gL (⟨x1.aC,false⟩:bZ) es).2.2)).toNat:Int)=x1.Sum)))] 2 (List.toArray [true,true,true,true,true,true,true,true,true,true,true,true,true,true,false,false]) (aAg ak) Y Y Y ?_ H1 ?_
  ·simp only [xB,lM,xC,xD,uO]
   refine⟨?_,?_,?_,?_,?_,?_,?_,?_,?_,?_,?_,?_,?_,?_⟩
   ·exact⟨_,Y,Y,Y,Y,xu (λ_ hK=>(bf Y))⟩
   ·exact⟨_,Y,Y,Y,Y,xu (λ_ hK=>(dU oZ Y Y (hK.x s0)))⟩
   ·exact⟨_,Y,Y,Y,Y,xu (λ_ hK=>(dx UY Y (hK.x s2) Y))⟩
   ·exact⟨_,Y,Y,Y,Y,xu (λ_ hK=>(dW (q:=⟨g1,0,none⟩) mM Y Y))⟩
   ·exact⟨_,Y,Y,Y,Y,xu (λ_ hK=>(dW (q:=⟨g1,2,none⟩) RH Y Y))⟩
   ·exact⟨_,Y,Y,Y,Y,xu (λ_ hK=>(eX Y))⟩
   ·exact⟨_,Y,Y,Y,Y,xu (λ_ hK=>(dx jD Y (hK.x s0) Y))⟩
   ·exact⟨_,Y,Y,Y,Y,xu (λ_ hK=>(dx Xh Y (hK.x s0) Y))⟩
   ·exact⟨_,Y,Y,Y,Y,xu (λ_ hK=>(dW (q:=⟨nZ,2,none⟩) yu Y Y))⟩
   ·exact⟨_,Y,Y,Y,Y,xu (λ_ hK=>(iY (vs:=[(0,aF x1.aC),(1,.bool false)]) (cs:=[aF x1.aC,.bool false]) Y (by apply qE)))⟩
   ·exact⟨_,Y,Y,Y,Y,xu (λ_ hK=>(dx aAc Y (hK.x s3) Y))⟩
   ·exact⟨_,Y,Y,Y,Y,xu (λ_ hK=>(Ev.agD (z:=(⟨x1.aC,false⟩:bZ)) hK s5 vF EF NM Y Y))⟩
   ·exact⟨_,Y,Y,Y,Y,Qi.call Y Y Y arH (λ_ hK=>(YC _ (hK.arC s6 (⟨x1.aC,false⟩:bZ))).mono (by rintro _ _ ⟨rfl,fQ⟩; exact⟨rfl,hK.grow fQ.ext⟩))⟩
   ·exact⟨_,Y,Y,Y,Y,xu (λ_ hK=>(nQ Y Y))⟩
  intro w5 K5;refine WI.one 14 ak Y ?_;have hy1:=hY ((((eY l).take k).map fun(x:aI)=>(x,UW es x))) (x1,UW es x1) _ _ [dY g1 132 [aF x1.aC,aF x1.aB,gK x1.Sum,.bool x1.gB,.bool x1.Bad],aS bq 132 j6 kg (eY l)] hJt (arM bP) (uN (F:=[dY gp 93 [gD nZ],dY nZ 169 [aF bM,.slice A l.length c,.map (some gm)],dP bq A c l,qH wG vK gm es,fZ gV 5 (es.map Prod.snd),dY g1 132 [aF x1.aC,aF x1.aB,gK x1.Sum,.bool x1.gB,.bool x1.Bad],aS bq 132 j6 kg (eY l)]) ((K5.mV 0 2).mV 2 5));refine WL.yield trivial Y Y hy1 (by rintro e w' (⟨rfl,_⟩ | ⟨rfl,_⟩) <;> exact⟨_,rfl⟩) rfl rfl rfl ?_;rintro v w6 (⟨hv,F1,hJ1,K6⟩ | ⟨hv,F1,hJ1,K6⟩)
  ·cases hv
   have K6c:=uN (F:=F1) K6;refine WI.nx<|WI.block (S:=λwK=>Hp b S wK (dY gp 93 [gD nZ]::dY nZ 169 [aF bM,.slice A l.length c,.map (some gm)]::dP bq A c l::qH wG vK gm es::fZ gV 5 (es.map Prod.snd)::dY g1 132 [aF x1.aC,aF x1.aB,gK x1.Sum,.bool x1.gB,.bool x1.Bad]::aS bq 132 j6 kg (eY l)::F1)) [(15,30,.bool false)] 0 akR ak Y Y Y ?_ K6c ?_
   ·simp only [xB,lM,xC,xD,uO]
    exact⟨_,Y,Y,Y,Y,xu (λ_ hK=>(iB (b:=true) Y))⟩
   intro w7 K7;refine WI.dn ak<|bK Y (λ_h=>absurd _h au) (λ_h=>?_)
   refine ze (iE (gG ?_));refine jy<|ev (dO Y Y)<|mv Y<|jA<|dI ⟨(k+1),F1,Y,Y,aj,by rw [fD bP,qc]; assumption,(((K7.rm s5).mV 0 5).sel s5)⟩ rfl aj
  ·cases hv
   have K6c:=uN (F:=F1) K6;refine WI.nx<|WI.block (S:=λwK=>Hp b S wK (dY gp 93 [gD nZ]::dY nZ 169 [aF bM,.slice A l.length c,.map (some gm)]::dP bq A c l::qH wG vK gm es::fZ gV 5 (es.map Prod.snd)::dY g1 132 [aF x1.aC,aF x1.aB,gK x1.Sum,.bool x1.gB,.bool x1.Bad]::aS bq 132 j6 kg (eY l)::F1)) [(15,30,.bool true)] 0 akR ak Y Y Y ?_ K6c ?_
   ·simp only [xB,lM,xC,xD,uO]
    exact⟨_,Y,Y,Y,Y,xu (λ_ hK=>(iB (b:=false) Y))⟩
   intro w8 K8;refine WI.dn ak<|bK Y (λ_h=>?_) (λ_h=>absurd _h au)
   exact jf (jg (fT (fT (jg (l8.amf Y ⟨⟨_,Y⟩,.inr ⟨_,_,hJ1,(uN (F:=[dY gp 93 [gD nZ],dY nZ 169 [aF bM,.slice A l.length c,.map (some gm)],dP bq A c l,qH wG vK gm es,fZ gV 5 (es.map Prod.snd)]) (K8.cU 5 2))⟩⟩)))))
 exact qJ (lu (lu (rE (l8.aoY (l8.amf Y ⟨⟨_,Y⟩,.inl ⟨_,by rw [iH aj] at hJt; exact hJt,(uN (F:=[dY gp 93 [gD nZ],dY nZ 169 [aF bM,.slice A l.length c,.map (some gm)],dP bq A c l,qH wG vK gm es,fZ gV 5 (es.map Prod.snd)]) (K2.rm s0))⟩⟩)))))
def aak(L:List lH):lH where
  W:=λg=>∃ r∈L,r.W g
  ok:=λS w=>(∀ r∈L,r.ok S w)/\L.Pairwise fun(r s:lH)=>∀(g:Nat),r.W g->¬ s.W g
  sub:=λhs h=>⟨λr hr=>r.sub hs (h.1 r hr),h.2⟩
  keep:=λhm h=>⟨λr hr=>r.keep (λg hg=>hm g (hg.imp (λh=>⟨r,hr,h⟩) id)) (h.1 r hr),h.2⟩
section
variable {b w:World}{S:Nat->Prop}{rs rest L L':List lH}
theorem Hp.allOut(H:Hp b S w (aak L::rs)):Hp b S w (L++rs) where
  ext:=H.ext
  ok r hr:=by
    have hS:∀ g,Rd b S (aak L::rs) w g->Rd b S (L++rs) w g:=by
      rintro g (h | ⟨h1,h2,h3⟩)
      · exact .inl h
      · refine .inr ⟨h1,h2,λr hr hw=>?_⟩
        rcases jN.1 hr with h | h
        · exact h3 (aak L) av ⟨r,h,hw⟩
        · exact h3 r (by simp [h]) hw
    rcases jN.1 hr with h | h
    · exact r.sub hS ((H.ok (aak L) av).1 r h)
    · exact r.sub hS (H.ok r (by simp [h]))
  lo r hr g hg:=by
    rcases jN.1 hr with h | h
    · exact H.lo (aak L) av g ⟨r,h,hg⟩
    · exact H.lo r (by simp [h]) g hg
  dis:=by
    have hd:=pG.1 H.dis;exact y8.2 ⟨(H.ok (aak L) av).2,hd.2,λa ha c hc g hg=>hd.1 c hc g ⟨a,ha,hg⟩⟩
theorem Hp.allIn(H:Hp b S w (L++rs)):Hp b S w (aak L::rs) where
  ext:=H.ext
  ok r hr:=by
    have hS:∀ g,Rd b S (L++rs) w g->Rd b S (aak L::rs) w g:=by
      rintro g (h | ⟨h1,h2,h3⟩)
      · exact .inl h
      · refine .inr ⟨h1,h2,λr hr hw=>?_⟩
        rcases iX.1 hr with h | h
        · subst h; obtain⟨q,hq,hw⟩:=hw; exact h3 q (jN.2 (.inl hq)) hw
        · exact h3 r (jN.2 (.inr h)) hw
    rcases iX.1 hr with h | h
    · subst h
      exact⟨λq hq=>q.sub hS (H.ok q (jN.2 (.inl hq))),(y8.1 H.dis).1⟩
    · exact r.sub hS (H.ok r (jN.2 (.inr h)))
  lo r hr g hg:=by
    rcases iX.1 hr with h | h
    · subst h; obtain⟨q,hq,hw⟩:=hg; exact H.lo q (jN.2 (.inl hq)) g hw
    · exact H.lo r (jN.2 (.inr h)) g hg
  dis:=by
    have hd:=y8.1 H.dis;exact pG.2 ⟨λc hc g ⟨a,ha,hg⟩=>hd.2.2 a ha c hc g hg,hd.2.1⟩
def GA:=@Hp.allIn
end
section
variable {κ ν:Type}[DecidableEq κ]
theorem RI(f:ν->ν')(k:κ)(es:List (κ × ν)):fI k (es.map λp=>(p.1,f p.2))=(fI k es).map f:=by
  unfold fI;rw [List.find?_map];show Option.map _ (Option.map _ (es.find? λp=>decide (p.1=k)))=_
  cases es.find? (λp=>decide (p.1=k)) <;> rfl
theorem RJ(f:ν->ν')(k:κ)(v:ν)(es:List (κ × ν)):(iy k v es).map (λp=>(p.1,f p.2))=iy k (f v) (es.map λp=>(p.1,f p.2)):=by
  unfold iy;rw [RI,Option.isSome_map]
  split
  · rw [Gz,Gz]
    refine Uc λp _=>?_
    simp only [Function.comp]
    split <;> rfl
  · rw [qc]; rfl
theorem arN(f:ν->ν')(k:κ)(es:List (κ × ν)):(oC k es).map (λp=>(p.1,f p.2))=oC k (es.map λp=>(p.1,f p.2)):=by
  unfold oC;rw [List.filter_map]; rfl
theorem anB{k:κ}{v:ν}{es:List (κ × ν)}(hn:(es.map Prod.fst).Nodup)(h:fI k es=some v):es.Perm ((k,v)::oC k es):=by
  obtain⟨j,hj⟩:=zw h;rw [<- erase_filter hn hj];obtain⟨hl,he⟩:=nP.1 hj;rw [OV];have h1:es=es.take j++((k,v)::es.drop (j+1)):=by rw [<- he,<- zO hl,uF]
  conv=>lhs; rw [h1]
  exact Gt
theorem agI{k:κ}{v v':ν}{es:List (κ × ν)}(h:fI k es=some v):oC k (iy k v' es)=oC k es:=by
  unfold iy oC;rw [h,aO (show(some v).isSome=true from rfl),List.filter_map]
  have:(λp:κ × ν=>!decide (p.1=k)) ∘ (λp=>if p.1=k then(k,v') else p)=λp=>!decide (p.1=k):=by
    funext p; simp only [Function.comp]; split
    · rename_i hp; simp [hp]
    · rfl
  rw [this];refine(Uc λp hp=>?_).trans (List.map_id _);have:=(nJ.1 hp).2;rw [aK (by simpa using this)]; rfl
theorem agJ{k:κ}{v':ν}{es:List (κ × ν)}(hn:(es.map Prod.fst).Nodup):fI k (iy k v' es)=some v':=by
  have h2:=MO (k:=k) (v:=v') hn
  cases hg:fI k es with
  | none=>
    have e:iy k v' es=es++[(k,v')]:=by unfold iy; rw [hg]; rfl
    rw [e] at h2 ⊢;exact FT h2 (j:=es.length) av
  | some v=>
    obtain⟨j,hj⟩:=zw hg;rw [HY hn hj] at h2 ⊢;exact FT h2 (j:=j) (qb (aJ hj))
theorem JB{k k2:κ}{v':ν}(h:k2≠k):∀(es:List (κ × ν)),(es.map λp=>if p.1=k then(k,v') else p).find? (λp=>decide (p.1=k2))=es.find? λp=>decide (p.1=k2)
  | []=>rfl
  | p::es=>by
    rw [nG]
    by_cases hp:p.1=k
    · rw [aO hp,vI (by simpa using Ne.symm h),vI (by rw [hp]; simpa using Ne.symm h)]
      exact JB h es
    · rw [aK hp]
      by_cases hq:p.1=k2
      · rw [Gj (by simpa using hq),Gj (by simpa using hq)]
      · rw [vI (by simpa using hq),vI (by simpa using hq)]
        exact JB h es
theorem FU{k k2:κ}{v':ν}{es:List (κ × ν)}(h:k2≠k):fI k2 (iy k v' es)=fI k2 es:=by
  unfold iy
  split
  · unfold fI; rw [JB h]
  · unfold fI
    rw [IJ,vI (by simpa using Ne.symm h),List.find?_nil,Option.or_none]
end
def akS(ol:List Oper):Bool:=ol.all λo=>match o.op with | .defer _=>false | _=>true
section
variable {P:Program}{n:Cx}{l:List (Nat × Value)}{b w:World}{S:Nat->Prop}{rs rk:List lH}{Q:Exit->Act->World->Prop}{dh:Array Oper}
theorem akT(h:LetsOut (Only K0)):False:=by
  obtain⟨_,_,hq⟩:=h; exact hq.elim
theorem avW{o:Oper}{a:Act}{K:Act->World->Prop}(hnd:∀ c,o.op≠.defer c)(h:o.wp P a w K (Only K0)):o.wpIn n.fence 0 P a w K Q:=by
  refine⟨λ_ _=>trivial,?_⟩;rw [Oper.semAt_eq _ _ _ hnd];unfold Oper.wp at h
  generalize (execOp a.eval o).run P w=r at h ⊢
  cases r with
  | ok x w'=>
    cases x with
    | value v=>exact h
    | skip=>exact h
    | defer d=>exact h
    | enter f args=>
      refine⟨λhd=>(by cases hd),Wi _ (Fq h ?_)⟩;intro e w'' he
      cases e with
      | returned v=>exact he
      | panicked c=>exact he.elim
      | outgrown=>exact(akT he).elim
    | row row args=>exact⟨λhd=>(by cases hd),λc cs _=>let ⟨v,w',r,s⟩:=h c cs; ⟨v,w',r,stepsIn_wide.2 s⟩⟩
    | _=>exact h.elim
  | halt x w'=>
    cases x <;> exact h.elim
theorem RL(hnd:∀(i:Nat)(o:Oper),dh[i]? = some o->∀ c,o.op≠.defer c)(hK:∀ a w,K0 a w->Q .normal a w):∀(fuel:Nat)(aX:Array Bool)(a:Act)(w:World),wpAny P .any dh (Only K0) fuel aX a w->wpAnyIn n.fence 0 P .any dh Q fuel aX a w
  | 0,_,_,_,h=>⟨h.1,hK _ _ h.2⟩
  | f+1,aX,a,w,h=>by
    refine⟨λh0=>hK _ _ (h.1 h0),λi hi=>?_⟩;have h1:=h.2 i hi;unfold wpOp at h1;unfold wpOpIn
    cases ho:dh[i]? with
    | none=>rw [ho] at h1; exact RL hnd hK f _ _ _ h1
    | some o=>
      rw [ho] at h1
      simp only at h1 ⊢
      split
      · rename_i hw
        rw [aO hw] at h1
        rcases h1 with h1 | ⟨_,h1⟩
        · exact Oper.wpIn_mono (λa w h=>RL hnd hK f _ _ _ h) (avW (hnd i o ho) h1)
        · exact(akT h1).elim
      · rename_i hw
        rw [aK hw] at h1;exact⟨λ_ _=>trivial,RL hnd hK f _ _ _ h1⟩
theorem ajt{ol:List Oper}(h:akS ol=true):∀(i:Nat)(o:Oper),ol.toArray[i]? = some o->∀ c,o.op≠.defer c:=λi o ho c e=>by
  have h1:=lI.1 h o (xg (by simpa using ho));rw [e] at h1; cases h1
theorem HeR{ol:List Oper}{id:Nat}{y:Code}(H:Hp b S w rs)(_:∀ w',Hp b S w' rs->Hp b S w' rk)(J:List (Nat × Value)->List lH->List (Nat × Value)->World->Prop)
    (h:Region.noSelect ol.toArray=true->Hp b S w.drew rs->WH P n ol.toArray (JK n (J l rk)) (λw'=>Hp b S w' rk) ol.length (List.replicate ol.length false).toArray l w.drew) (k:∀ l' w',J l rk l' w'->WP P n y l' w' Q)
    (hm:P.follows .mixedOrders=true:=by kernel_rfl) (hs:Region.noSelect ol.toArray=true:=by kernel_rfl) (hnd:akS ol=true:=by kernel_rfl):WP P n (.seq (.region id ol.toArray true) y) l w Q:=λa ha=>by
  refine Uz (wpIn_region_any (Q:=Exit.then (Ot P n y Q) Q) hm ?_);have h1:=RL (n:=n) (Q:=Exit.then (Ot P n y Q) Q) (ajt hnd) (λa' w' ⟨l',h1,h2⟩=>k l' w' h2 a' h1) _ _ _ _ (wpAny_of_held _ _ _ _ (h hs (H.grow (pI w).drew) a ha))
  simpa using h1
theorem Hp.tin{X1 X2:List lH}(H:Hp b S w ((L++F)++(X1++X2))):Hp b S w (L++(X1++(X2++F))):=H.perm (by
  rw [oV,<- oV X1]
  exact zK.append_left L)
theorem Hp.aDr{X1 X2:List lH}(H:Hp b S w (L++(X1++(X2++F)))):Hp b S w ((L++F)++(X1++X2)):=H.perm (by
  rw [oV,<- oV X1]
  exact zK.append_left L)
def PN:=@Hp.aDr
theorem Hp.axY{X:List lH}(H:Hp b S w (L++(X++F))):Hp b S w ((L++F)++X):=H.perm (by
  rw [oV]
  exact zK.append_left L)
end
end Go.Proofs.YtlhnnmlenkahlaaGreat
