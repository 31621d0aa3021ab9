/- Lemmas. -/
import Derived.Test.YthcmboepffiliaaGreatvG10
set_option maxRecDepth 4000
set_option linter.all false
namespace Go.Proofs.YthcmboepffiliaaGreat
open Go.RowKit Go.Proofs.Tryz
def QB:=@List.mem_append_left
section
variable {b w:World}{S:Nat->Prop}{F:List kF}{Ws gs BN c iy c1 c2 c3 c4 c5 c6 c7 gm:Nat}{A A1 A2 A3 A4 A5 A6 A7:ah}{up:Bool}{bB Z n:Int}{l:List aI}{es:List (bP × Option Addr × Nat × List (BitVec 8))}{cv:Value}{m:bY}{s:fQ}{r:ARules}{I:List aL}{hs:kg}
def aEp:bC prog 146:=ay
def ae3:bU prog 32 3 3:=ay
def aic(l:V aI)(bB c v sum:Int)(data:V (BitVec 8)):(BQ l bB c v sum data).length<=l.length+1:=by
 unfold BQ
 split
 ·omega
 ·split
  ·omega
  ·split
   ·rename_i h
    unfold kU at h ⊢
    split
    ·simp
    ·split
     ·simp
     ·split
      ·simp
      ·split
       ·simp
       ·exact lG (ahL _ _) (by have:=xL l; omega)
   ·omega
def acp{ZU:ah}{ZV:Nat}{data:V (BitVec 8)}(H0:Hp b S w (dJ Ws 86 [fK gs,.bool up]::dJ gs 152 [O bB,.slice A l.length c,.map (some BN)]::dI bg A c l::rV yw xF BN es::fH fP 5 (es.map Prod.snd)::dI fP ZU ZV data::F))(aN:Int)(bR:Int)(sum:Int)(hl:l.length<=1000):bM prog 74 #[fK Ws,O aN,O bR,gP sum,.slice ZU data.length ZV] w λv w'=>∃ A1 c1 B1 d1,v=.bool (SS l bB aN bR sum data)/\Hp b S w' (dJ Ws 86 [fK gs,.bool up]::dJ gs 152 [O bB,.slice A1 ((Ig l bB aN bR sum data).length) c1,.map (some BN)]::dI bg A1 c1 (Ig l bB aN bR sum data)::rV yw xF BN (tkM l bB aN bR sum data B1 d1 es)::fH fP 5 ((tkM l bB aN bR sum data B1 d1 es).map Prod.snd)::F):=by
 refine qN func74 ntmps74 Y<|pC 6 Y<|jP Ws 0 zk H0 U Y<|pq 4 Y ?_
 have H1:=H0.push (H0.s s5);refine gu Y (apl ((H1.mV 0 2).mV 2 4) aN bR sum (lG hl au)) ?_;rintro _ w1 ⟨aOI,aOJ,apK,apL,rfl,K1⟩;have aBs:=(K1.s s1).bI;refine pq 2 Y ?_
 cases WM:decide (rH l bB aN bR sum data=0) with
 | true=>
  have hd:=iY WM;have hbl:=aic l bB aN bR sum data;refine pq 2 Y<|wW Ws 0 zk K1 s4 Y<|pq 2 Y<|om Y Y Y Y aEp (akP K1 aN bR aj) Y ?_
  rintro _ w2 ⟨abu,abv,rfl,K2⟩;refine pA 4 Y<|iU Y ?_
  have gH:((Vg (BQ l bB aN bR sum data) aN bR):V aI)=(Ig l bB aN bR sum data):=by unfold Ig; rw [aS hd]
  have kN:((WT (BQ l bB aN bR sum data) aN bR (Jb l bB aN bR sum data apK apL es)):V (bP × Option Addr × Nat × V (BitVec 8)))=(tkM l bB aN bR sum data apK apL es):=by unfold tkM; rw [aS hd]
  exact⟨abu,abv,apK,apL,by unfold SS; rw [WM,Bool.true_and] <;> rfl,by rw [<- gH,<- kN]; exact(((K2.rm s5).mV 0 4).sel s4)⟩
 | false=>
  have hd:=jX WM;refine pA 11 Y<|iU Y ?_
  have nM:(false:Bool)=(SS l bB aN bR sum data):=by unfold SS; rw [WM,Bool.false_and]
  have uO:((BQ l bB aN bR sum data):V aI)=(Ig l bB aN bR sum data):=by unfold Ig; rw [aQ hd]
  have zC:((Jb l bB aN bR sum data apK apL es):V (bP × Option Addr × Nat × V (BitVec 8)))=(tkM l bB aN bR sum data apK apL es):=by unfold tkM; rw [aQ hd]
  exact⟨aOI,aOJ,apK,apL,by rw [<- nM] <;> rfl,by rw [<- uO,<- zC]; exact(((K1.rm s5).mV 0 4).sel s4)⟩
def auC(H0:Hp b S w (dJ Ws 86 [fK gs,.bool up]::dJ gs 152 [O bB,.slice A l.length c,.map (some BN)]::dI bg A c l::rV yw xF BN es::fH fP 5 (es.map Prod.snd)::F))(it:AItem):bM prog 29 #[cv,.agg #[O it.Kind,O it.A,O it.B,O it.C],fK Ws] w λv w'=>v=O 0/\Hp b S w' (dJ Ws 86 [fK gs,.bool false]::dJ gs 152 [O bB,.slice A l.length c,.map (some BN)]::dI bg A c l::rV yw xF BN es::fH fP 5 (es.map Prod.snd)::F):=by
 refine qN func29 ntmps29 Y<|rg<|bx Y Y H0 λg1 w1 K1=>pB 5 Y<|zA Ws 1 KD Y<|xD Y K1 s1 Y λw2 K2=>dn<|kX Y<|iU Y ?_
 exact⟨Y,(K2.rm s1)⟩
def auD(H0:Hp b S w (dJ Ws 86 [fK gs,.bool up]::dJ gs 152 [O bB,.slice A l.length c,.map (some BN)]::dI bg A c l::rV yw xF BN es::fH fP 5 (es.map Prod.snd)::F))(it:AItem)(hl:l.length<=1000):bM prog 30 #[cv,.agg #[O it.Kind,O it.A,O it.B,O it.C],fK Ws] w λv w'=>∃ A1 c1,v=O 0/\Hp b S w' (dJ Ws 86 [fK gs,.bool true]::dJ gs 152 [O bB,.slice A1 (((qY l es l.length).1).length) c1,.map (some BN)]::dI bg A1 c1 ((qY l es l.length).1)::rV yw xF BN ((qY l es l.length).2)::fH fP 5 (((qY l es l.length).2).map Prod.snd)::F):=by
 refine qN func30 ntmps30 Y<|rg<|bx Y Y H0 λg1 w1 K1=>pB 5 Y<|jP Ws 0 zk K1 s1 Y<|gu Y (ahW ((K1.mV 0 2).mV 2 4) (lG hl au)) ?_
 rintro _ w2 ⟨abu,abv,rfl,K2⟩;refine pB 4 Y<|zA Ws 1 KD Y<|xD Y K2 s5 Y λw3 K3=>dn<|kX Y<|iU Y ?_
 exact⟨abu,abv,Y,(K3.rm s5)⟩
def apM(H0:Hp b S w (dJ Ws 86 [fK gs,.bool up]::dJ gs 152 [O bB,.slice A l.length c,.map (some BN)]::dI bg A c l::rV yw xF BN es::fH fP 5 (es.map Prod.snd)::F))(it:AItem)(hl:l.length<=1000):bM prog 31 #[cv,.agg #[O it.Kind,O it.A,O it.B,O it.C],fK Ws] w λv w'=>∃ A1 c1,v=O 0/\Hp b S w' (dJ Ws 86 [fK gs,.bool up]::dJ gs 152 [O bB,.slice A1 (((uU l es (FR l es).length).1).length) c1,.map (some BN)]::dI bg A1 c1 ((uU l es (FR l es).length).1)::rV yw xF BN ((uU l es (FR l es).length).2)::fH fP 5 (((uU l es (FR l es).length).2).map Prod.snd)::F):=by
 refine qN func31 ntmps31 Y<|rg<|bx Y Y H0 λg1 w1 K1=>pB 5 Y<|jP Ws 0 zk K1 s1 Y<|gu Y (apt ((K1.mV 0 2).mV 2 4) (lG hl au)) ?_
 rintro _ w2 ⟨qj,ql,abu,abv,rfl,K2⟩;refine dn<|kX Y<|iU Y ?_
 exact⟨abu,abv,Y,((((K2.rm s5).rm U).mV 0 4).sel s4)⟩
def apN(H0:Hp b S w (dJ Ws 86 [fK gs,.bool up]::dJ gs 152 [O bB,.slice A l.length c,.map (some BN)]::dI bg A c l::rV yw xF BN es::fH fP 5 (es.map Prod.snd)::F))(it:AItem)(hb:(fU ⟨it.B,false⟩ es).2.2.length<=1000)(hi:vJ it.C):bM prog 32 #[cv,.agg #[O it.Kind,O it.A,O it.B,O it.C],fK Ws] w λv w'=>v=O (if(fU ⟨it.B,false⟩ es).2.2.length=0 then 5 else 0)/\Hp b S w' (dJ Ws 86 [fK gs,.bool up]::dJ gs 152 [O bB,.slice A l.length c,.map (some BN)]::dI bg A c l::rV yw xF BN (SH it.B it.C es)::fH fP 5 ((SH it.B it.C es).map Prod.snd)::F):=by
 refine qN func32 ntmps32 Y<|rg<|bx Y Y H0 λg1 w1 K1=>fE Y<|He K1 (λ_ K=>((K.cU 4 2).rm s2)) (λl0 rk lJ wJ=>lJ=(6,O (if(fU ⟨it.B,false⟩ es).2.2.length=0 then 5 else 0))::l0/\Hp b S wJ (rV yw xF BN (SH it.B it.C es)::fH fP 5 ((SH it.B it.C es).map Prod.snd)::dJ gs 152 [O bB,.slice A l.length c,.map (some BN)]::rk)) (λhns H1=>?_) ?_
 ·have k1:=((H1.cU 4 2).rm s2);refine qp 0 Ws 0 zk Y k1<|xS 3 s1 Y k1<|mK 4 5 g1 2 XB U Y k1<|mK 6 7 g1 3 ae3 U Y k1<|O1 8 Y<|gu Y (apn ((H1.mV 0 2).mV 2 4) it.B it.C hb hi) ?_
  rintro _ w2 ⟨rfl,K2⟩;have k2:=((((K2.cU 2 2).rm U).sel U).mV 1 2);refine aO k2<|xC 9 Y Y k2<|Dn ⟨Y,((((K2.sel s1).mV 4 2).sel s3).mV 4 2)⟩ Y
 rintro _ w3 ⟨rfl,K3⟩;refine iU Y ?_;exact⟨Y,(((((K3.rm s3).mV 0 2).sel s4).sel s3).sel s4)⟩
def auE(H0:Hp b S w (dJ Ws 86 [fK gs,.bool up]::dJ gs 152 [O bB,.slice A l.length c,.map (some BN)]::dI bg A c l::rV yw xF BN es::fH fP 5 (es.map Prod.snd)::F))(it:AItem):bM prog 33 #[cv,.agg #[O it.Kind,O it.A,O it.B,O it.C],fK Ws] w λv w'=>v=O 0/\Hp b S w' (dJ Ws 86 [fK gs,.bool up]::dJ gs 152 [O bB,.slice none (([]:V aI).length) 0,.map (some BN)]::dI bg none 0 ([]:V aI)::rV yw xF BN ([]:oh)::fH fP 5 (([]:oh).map Prod.snd)::F):=by
 refine qN func33 ntmps33 Y<|rg<|bx Y Y H0 λg1 w1 K1=>pB 5 Y<|jP Ws 0 zk K1 s1 Y<|gu Y (aug ((K1.mV 0 2).mV 2 4) ) ?_
 rintro _ w2 ⟨rfl,K2⟩;refine dn<|kX Y<|iU Y ?_
 have H1:=K2.push (O8 bg _ _);exact⟨Y,((((((H1.rm s5).rm s2).mV 2 2).sel s2).sel s3).sel s4)⟩
def aie(a0:ah)(a1:Bool):prog.built 86 [(0,.pointer a0),(1,.bool a1)]=some #[.pointer a0,.bool a1]:=ak
def XC:bU prog 66 2 6:=ay
def ND:∀ w,(zeroValue 118).run prog w=.ok (.agg #[O 0,O 0,O 0,O 0,O 0,O 0]) w:=ay
def aBt:bC prog 79:=ay
abbrev KE(gX:AItem):=(⟨0,0,1,gX.A,gX.B,gX.C⟩:eU)
abbrev ae4(gX:Nat)(iP:ah)(xE:Nat)(AU:ah)(Gg:Nat)(R5:ah)(V9:Nat)(y7z:ah)(y8z:Nat)(y9z:ah)(Tc:Nat)(Td:ah)(Tf:Nat)(Ti:ah)(Tj:Nat)(EB:bY)(EC:fQ)(aeP:ARules)(aeQ:Int)(Tn:Nat)(Tq:List aL)(aeR:kg)(aeS:List kF):=Io gX iP xE AU Gg R5 V9 y7z y8z y9z Tc Td Tf Ti Tj EB EC aeP aeQ Tn Tq::dI bW iP xE EB.aM::dI bD AU Gg EB.J::dI cB R5 V9 EB.aU::dI iG y7z y8z EC.bZ::dI dB y9z Tc EC.bG::dI bA Td Tf EC.bn::aR bA 121 Ti Tj Tq::jD Tn aeR::aeS
def azf(H0:Hp b S w (ae4 iy A1 c1 A2 c2 A3 c3 A4 c4 A5 c5 A6 c6 A7 c7 m s r Z gm I hs F))(it:AItem)(hm:lU m=true):bM prog 21 #[fK iy,.agg #[O it.Kind,O it.A,O it.B,O it.C]] w λv w'=>∃(B1:ah)(d1:Nat)(B2:ah)(d2:Nat)(B3:ah)(d3:Nat)(hs1:kg),v=O (knE m (KE it))/\(kR hs1=if knE m (KE it)=0 then fO it.A ⟨true,Ja it.C,[],[]⟩ (kR hs) else kR hs)/\Hp b S w' (Io iy B1 d1 B2 d2 B3 d3 A4 c4 A5 c5 A6 c6 A7 c7 (rJ m (KE it)) s r Z gm I::dI bW B1 d1 ((rJ m (KE it)).aM)::dI bD B2 d2 ((rJ m (KE it)).J)::dI cB B3 d3 ((rJ m (KE it)).aU)::dI iG A4 c4 s.bZ::dI dB A5 c5 s.bG::dI bA A6 c6 s.bn::aR bA 121 A7 c7 I::jD gm hs1::F):=by
 refine qN func21 ntmps21 Y<|rg<|bx Y Y H0 λg1 w1 K1=>pB 4 Y<|jP g1 1 nA K1 U Y<|jP g1 2 XB K1 U Y<|jP g1 3 ae3 K1 U Y<|ev (iT Y (by apply ru))<|gu rfl (zY ((K1.sel U).mV 1 9) (KE it) aj rfl) ?_
 rintro _ w2 ⟨apE,apF,apG,apH,apI,apJ,rfl,K2⟩;refine fE Y<|aZ<|gD Y<|ev (wQ Y Y)<|dn<|o8 Y (λhc16=>?_) (λhc16=>?_)
 ·refine Hf K2 (λ_ K=>(K.rm s8)) (λl0 rk lJ wJ=>∃ jr cj2 vG,lJ=l0/\Hp b S wJ (jD gm (fO it.A (⟨jr,cj2,vG,none,0,true,(Ja it.C),[],([]:oh)⟩:l6) hs)::rk)) (λhns H1=>?_) ?_
  ·have k1:=(H1.rm s8);refine qp 0 iy 13 vE Y k1<|xS 3 U Y k1<|mK 4 5 g1 1 nA s8 Y k1<|mK 6 7 g1 3 ae3 s8 Y k1<|O1 8 Y<|gu Y (ay2 H1 it.C) ?_
   rintro _ w3 ⟨aIk,aIl,rfl,K3⟩;have k2:=((K3.rm s11).cU 0 3);refine aO k2<|kI 9 Y (λ_ _=>iT Y (by apply aie)) k2<|O1 10 rfl<|bx rfl rfl K3 λg2 w4 K4=>?_
   have k3:=((K4.rm s12).cU 0 4);refine aO k3<|O1 11 Y<|aOA K4 s12 FV zM Y Y Y λw5 K5=>?_
   have H2:=K5.push (O8 bg _ _);have H3:=Hp.azc (h:=⟨g2,aIk,aIl,none,0,true,(Ja it.C),[],([]:oh)⟩) ((((H2.sel s1).mV 4 2).sel s3).mV 4 2);have k4:=(H3.rm U);refine aO k4<|Dn ⟨g2,aIk,aIl,Y,H3⟩ Y
  rintro _ w6 ⟨jr,cj2,vG,rfl,K6⟩;refine fV<|gD Y<|fE Y<|iU Y ?_
  exact⟨apE,apF,apG,apH,apI,apJ,(fO it.A (⟨jr,cj2,vG,none,0,true,(Ja it.C),[],([]:oh)⟩:l6) hs),Y,(by rw [aS hc16,Br]; rfl),(((K6.rm s9).sel U).mV 1 8)⟩
 refine jQ ?_;refine gD Y<|fE Y<|iU Y ?_
 exact⟨apE,apF,apG,apH,apI,apJ,hs,Y,(by rw [aQ hc16]),(K2.rm s9)⟩
abbrev OE(gX:fQ)(iP:AItem)(xE:Int):=(⟨uN gX.bZ iP.A xE,gX.bG,gX.bn⟩:fQ)
def auF{hv:Value}(H0:Hp b S w (ae4 iy A1 c1 A2 c2 A3 c3 A4 c4 A5 c5 A6 c6 A7 c7 m s r Z gm I hs F))(it:AItem)(hb:s.bZ.length<=1000):bM prog 27 #[fK iy,.agg #[O it.Kind,O it.A,O it.B,O it.C],hv] w λv w'=>∃ B4 d4,v=O 0/\Hp b S w' (Io iy A1 c1 A2 c2 A3 c3 B4 d4 A5 c5 A6 c6 A7 c7 m (OE s it Z) r Z gm I::dI bW A1 c1 m.aM::dI bD A2 c2 m.J::dI cB A3 c3 m.aU::dI iG B4 d4 ((OE s it Z).bZ)::dI dB A5 c5 ((OE s it Z).bG)::dI bA A6 c6 ((OE s it Z).bn)::aR bA 121 A7 c7 I::jD gm hs::F):=by
 refine qN func27 ntmps27 Y<|rg<|bx Y Y H0 λg1 w1 K1=>fE Y<|He K1 (λ_ K=>(K.rm s1)) (λl0 rk lJ wJ=>∃ jG jr,lJ=l0/\Hp b S wJ (dJ iy 66 [.slice A1 m.aM.length c1,.slice A2 m.J.length c2,.slice A3 m.aU.length c3,.slice jG ((uN s.bZ it.A Z).length) jr,.slice A5 s.bG.length c5,.slice A6 s.bn.length c6,O r.lD,O r.l9,O r.All,O r.je,O r.gV,O r.eF,O Z,.map (some gm),.slice A7 I.length c7]::aR iG 162 jG jr (uN s.bZ it.A Z)::rk)) (λhns H1=>?_) ?_
 ·have k1:=(H1.rm s1);refine lF 0 Y Y k1<|qp 1 iy 3 Bw Y k1<|Iy 4 iy 3 GJ Y k1<|mK 6 7 g1 1 nA U Y k1<|qp 8 iy 12 Df Y k1<|Jn H1 (λl0 rk lJ wJ=>lJ=(12,.slice A4 s.bZ.length c4)::(18,O Z)::l0/\Hp b S wJ rk) 5 4095 ?_ λhS1=>?_
  ·rintro _ w4 ⟨rfl,K4⟩;refine O1 12 Y<|gu Y (auq _ (K4.s s5).any it.A Z (lG hb au)) ?_
   rintro _ w5 ⟨Du,Dv,rfl,h5⟩;have K5:=K4.f1 h5;have k4:=((K5.rm s2).rm U);refine aO k4<|JG 13 iy 3 Bw Y k4<|Iy 15 iy 3 GJ Y k4<|O1 16 Y<|xD Y K5 s2 Y λw6 K6=>?_
   have k5:=(K6.cU 0 2);refine aO k5<|Dn ⟨Du,Dv,Y,K6⟩ Y
  refine O2 5 11 Y Y ?_ ?_
  ·refine lY H1 s1 Y<|aO k1<|O1 11 Y<|lY H1 s1 Y<|Kj hS1 k1 ⟨Y,H1⟩ Y
  ·refine lY H1 s1 Y<|aO k1<|O1 5 Y<|lY H1 s1 Y<|Kj hS1 k1 ⟨Y,H1⟩ Y
 rintro _ w7 ⟨jG,jr,rfl,K7⟩;refine kX Y<|iU Y ?_
 have H2:=K7.fz s1;have gH:(s.bG:V bq)=((OE s it Z).bG):=by rfl
 have kN:(s.bn:V aL)=((OE s it Z).bn):=by rfl
 exact⟨jG,jr,Y,by rw [<- gH,<- kN]; exact((((H2.rm s6).rm s2).sel U).mV 1 4)⟩
def azg(m:bY)(s:fQ)(r:ARules)(Z:Int):∀ x∈mM m s r Z,x.Client=0:=by
 intro x hx;unfold mM at hx
 split at hx
 ·obtain⟨o,_,rfl⟩:=eX.1 hx; rfl
 ·simp at hx
def auG(ls:V bq)(os:V aL)(ks dH:V aH)(ns:V aT)(D:V Int)(lq dG all u:Int):(RX ls os ks dH ns D lq dG all u).length<=os.length+1:=by
 unfold RX
 split
 ·unfold xV; split <;> simp
 ·omega
def aif(m:bY)(s:fQ)(r:ARules)(Z:Int):(mM m s r Z).length<=m.J.length:=by
 unfold mM
 split
 ·rw [jW]
  have hsl:(FE m s Z).length=m.J.length:=CU _ _;rw [<- hsl]; exact IX _ _ _ _ _ _ _
 ·simp
def aad(hl:s.bG.length<=64):(pF m s r Z).length<=200+m.J.length:=by
 unfold pF rdO
 split
 ·rename_i h
  have hmay:l5 r=true:=by unfold rdB at h; revert h; cases l5 r <;> simp
  have hbd:=og hmay;have hpl:=EO s Z;have hsl:(FE m s Z).length=m.J.length:=CU _ _;have hrl:=R6 (x:=Eb m s r Z) hbd.2.2.2.1.2 (TY m s r Z) ((eT s Z).bG,[]) (lG hpl.1 hl)
  have hrl2:(uH m s r Z).2.length<=64:=by
   have h2:=hrl.2; have h3:(uH m s r Z).1.length<=64:=hrl.1; simp only [u6] at h2;show(qH (Eb m s r Z) (TY m s r Z) ((eT s Z).bG,[])).2.length<=64;have h4:(qH (Eb m s r Z) (TY m s r Z) ((eT s Z).bG,[])).1.length<=64:=hrl.1;omega
  have htl:(uY m s r Z).length<=(FE m s Z).length:=IX _ _ _ _ _ _ _;have hba:=auG (uH m s r Z).1 ((uH m s r Z).2++uY m s r Z) m.J (FE m s Z) m.aM (vV s r Z) r.eF r.l9 r.All (Z+r.gV)
  split <;> simp only [jH] at hba ⊢ <;> omega
 ·simp
abbrev XD(gX:bY)(iP:fQ)(xE:ARules)(AU:Int):=((iM gX iP xE AU).bZ).length
abbrev XE(gX:bY)(iP:fQ)(xE:ARules)(AU:Int):=((iM gX iP xE AU).bG).length
abbrev XF(gX:bY)(iP:fQ)(xE:ARules)(AU:Int):=((iM gX iP xE AU).bn).length
def apO(H0:Hp b S w (ae4 iy A1 c1 A2 c2 A3 c3 A4 c4 A5 c5 A6 c6 A7 c7 m s r Z gm I hs F))(it:AItem)(hm:lU m=true)(hb:s.bZ.length<=1000)(hl:s.bG.length<=64)(hd:s.bn.length<=50000)(hu:0<=Z/\Z<=549755813888)(hw:I.length<=500000):bM prog 23 #[fK iy,.agg #[O it.Kind,O it.A,O it.B,O it.C]] w λv w'=>∃ B1 d1 B2 d2 B3 d3 B4 d4 B5 d5 B6 d6 B7 d7,v=O 0/\Hp b S w' (Io iy B1 d1 B2 d2 B3 d3 B4 d4 B5 d5 B6 d6 B7 d7 (CW m (mM m s r Z)) (iM m s r Z) r Z gm (I++pF m s r Z)::dI bW B1 d1 ((CW m (mM m s r Z)).aM)::dI bD B2 d2 ((CW m (mM m s r Z)).J)::dI cB B3 d3 ((CW m (mM m s r Z)).aU)::dI iG B4 d4 ((iM m s r Z).bZ)::dI dB B5 d5 ((iM m s r Z).bG)::dI bA B6 d6 ((iM m s r Z).bn)::aR bA 121 B7 d7 (I++pF m s r Z)::jD gm hs::F):=by
 refine qN func23 ntmps23 Y ?_;have hz:=GU hm;have hzc:=(vo (dD.1 hm).2.1).1;have hro:=aad (m:=m) (r:=r) (Z:=Z) hl;have aOK:=aif m s r Z;refine rg<|bx Y Y H0 λg1 w1 K1=>fE Y<|He K1 (λ_ K=>K) (λl0 rk lJ wJ=>∃ qF jG jr oV cj2 wH vG BL BM Aj5 cj5,lJ=(5,fK qF)::(6,.slice BL ((pF m s r Z).length) BM)::(7,.slice Aj5 ((mM m s r Z).length) cj5)::l0/\Hp b S wJ (dJ qF 64 [.slice jG (XD m s r Z) jr,.slice oV (XE m s r Z) cj2,.slice wH (XF m s r Z) vG]::aR iG 162 jG jr ((iM m s r Z).bZ)::aR dB 165 oV cj2 ((iM m s r Z).bG)::aR bA 121 wH vG ((iM m s r Z).bn)::aR bA 121 BL BM (pF m s r Z)::aR BP 118 Aj5 cj5 (mM m s r Z)::rk)) (λhns H1=>?_) ?_
 ·refine qp 0 iy 0 Bv Y H1<|kI 3 Y (λ_ hK=>wD (cs':=[.slice A1 m.aM.length c1,.slice A2 m.J.length c2,.slice A3 m.aU.length c3]) xW Y Y (hK.x s1) Y) H1<|qp 4 iy 3 Bw Y H1<|kI 7 Y (λ_ hK=>wD (cs':=[.slice A4 s.bZ.length c4,.slice A5 s.bG.length c5,.slice A6 s.bn.length c6]) Lm Y Y (hK.x s1) Y) H1<|qp 8 iy 6 XC Y H1<|kI 11 Y (λ_ hK=>wD (cs':=[O r.lD,O r.l9,O r.All,O r.je,O r.gV,O r.eF]) Ls Y Y (hK.x s1) Y) H1<|qp 12 iy 12 Df Y H1<|xS 15 s1 Y H1<|Jn H1 (λl0 rk lJ wJ=>∃ g2 Bz BA BD BF BG BH abu abv azh azi,lJ=(5,fK g2)::(29,.slice abu ((pF m s r Z).length) abv)::(30,.slice azh ((mM m s r Z).length) azi)::l0/\Hp b S wJ (dJ g2 64 [.slice Bz (XD m s r Z) BA,.slice BD (XE m s r Z) BF,.slice BG (XF m s r Z) BH]::aR iG 162 Bz BA ((iM m s r Z).bZ)::aR dB 165 BD BF ((iM m s r Z).bG)::aR bA 121 BG BH ((iM m s r Z).bn)::aR bA 121 abu abv (pF m s r Z)::aR BP 118 azh azi (mM m s r Z)::rk)) 2 8388607 ?_ λhS1=>?_
  ·rintro _ w8 ⟨g2,Bz,BA,BD,BF,BG,BH,abu,abv,azh,azi,rfl,K8⟩;have k6:=(K8.cU 0 6);refine xC 23 Y Y k6<|xC 24 Y Y k6<|Dn ⟨g2,Bz,BA,BD,BF,BG,BH,abu,abv,azh,azi,Y,K8⟩ Y
  refine O2 16 21 Y Y ?_ ?_
  ·refine gu Y (R7 _ m (H1.s s2).any (H1.s s3).any (H1.s s4).any s (H1.s s5).any (H1.s s6).any (H1.s s7).any r Z aj aj aj (lG (yO (dD.1 hm).1) au) (lG hzc au) aj) ?_;rintro _ w9 ⟨aeX,aeY,aeZ,ae0,ae1,ae2,aIm,aIn,aIo,aIp,rfl,h9⟩;have K9:=H1.f5 h9;have aIq:=(K9.o U).bI;have aRW:=(K9.o s1).bI;have aRX:=(K9.o s2).bI;have aRY:=(K9.o s3).bI;have aRZ:=(K9.o s4).bI;have k7:=(K9.cU 0 5);refine aO k7<|lF 17 Y Y k7<|yj 18 Y (vs:=[.agg #[.slice aeX (XD m s r Z) aeY,.slice aeZ (XE m s r Z) ae0,.slice ae1 (XF m s r Z) ae2],.slice aIm ((pF m s r Z).length) aIn,.slice aIo ((mM m s r Z).length) aIp]) Y Y k7<|yj 19 Y Y Y k7<|yj 20 Y Y Y k7<|O1 21 Y<|al Et Y K9 λg4 PE K10=>?_
   have k8:=(K10.cU 0 6);refine aO k8<|O1 22 Y<|sty Y K10 U Y λVY vF=>?_
   have k9:=(vF.cU 0 6);exact Kj hS1 k9 ⟨g4,aeX,aeY,aeZ,ae0,ae1,ae2,aIm,aIn,aIo,aIp,Y,vF⟩ Y
  ·refine al Et Y H1 λg5 Uy uR=>?_;have k10:=(uR.rm U);refine aO k10<|O1 16 Y<|gu Y (R7 _ m (uR.s s3).any (uR.s s4).any (uR.s s5).any s (uR.s s6).any (uR.s s7).any (uR.s s8).any r Z aj aj aj (lG (yO (dD.1 hm).1) au) (lG hzc au) aj) ?_
   rintro _ YX ⟨tV,tX,y8,za,ze,zf,aae,aaf,aag,aah,rfl,h13⟩;have xk:=uR.f5 h13;have aOL:=(xk.o U).bI;have aOM:=(xk.o s1).bI;have aON:=(xk.o s2).bI;have aOO:=(xk.o s3).bI;have aOP:=(xk.o s4).bI;have k11:=(xk.cU 0 6);refine aO k11<|lF 17 Y Y k11<|yj 18 Y Y Y k11<|yj 19 Y Y Y k11<|yj 20 Y (vs:=[.agg #[.slice tV (XD m s r Z) tX,.slice y8 (XE m s r Z) za,.slice ze (XF m s r Z) zf],.slice aae ((pF m s r Z).length) aaf,.slice aag ((mM m s r Z).length) aah]) Y Y k11<|O1 22 Y<|sty Y xk s5 Y λw14 wF=>?_
   have k12:=(wF.cU 0 6);exact Kj hS1 k12 ⟨g5,tV,tX,y8,za,ze,zf,aae,aaf,aag,aah,Y,wF⟩ Y
 rintro _ w15 ⟨qF,jG,jr,oV,cj2,wH,vG,BL,BM,Aj5,cj5,rfl,zI⟩;refine gD Y<|ev (fA Lm Y Y (zI.x U))<|pq 1 Y<|zA iy 3 Bw Y<|stp Y Y Y aAQ zI s7 Y Y Y λw16 BZ=>dn<|aZ ?_
 have H2:=BZ.fz s2;have H3:=H2.fz s3;have H4:=H3.fz s4;refine gD Y<|ev (jf Qj Y)<|mv Y<|dn<|dF<|Lp ((H4.cU 8 3).rm s3) (λl0 rk mJ lJ wJ=>∃ k B1 d1 B2 d2 B3 d3,lJ=(37,O ((k:Nat):Int))::l0/\mJ=(mM m s r Z).length - k/\k<=(mM m s r Z).length/\Hp b S wJ (dI bW B1 d1 ((CW m ((mM m s r Z).take k)).aM)::dI bD B2 d2 ((CW m ((mM m s r Z).take k)).J)::dI cB B3 d3 ((CW m ((mM m s r Z).take k)).aU)::Io iy B1 d1 B2 d2 B3 d3 jG jr oV cj2 wH vG A7 c7 (CW m ((mM m s r Z).take k)) (iM m s r Z) r Z gm I::rk)) ⟨0,A1,c1,A2,c2,A3,c3,Y,Y,fI _,((((H4.mV 4 4).mV 4 3).sel s7).mV 8 3)⟩ Y ?_
 rintro _ _ w17 ⟨k,B1,d1,B2,d2,B3,d3,rfl,rfl,hk,zT⟩;refine rg<|ev (iH Y Y)<|dn<|r9 Y (λhc38=>?_) (λhc38=>?_)
 ·refine jQ ?_;refine aZ<|dF<|rg ?_
  obtain⟨x1,bT⟩:=bH (xs:=(mM m s r Z)) (i:=k) aj;refine ev (d9 (i:=k) Qj aky Y Y Y (aP bT) ((zT.o s9).some_ bT))<|ev (iR Bg Y Y ((zT.o s9).fF bT))<|al ND Y zT λg6 w18 EL=>sty Y EL U Y λw19 Ai=>dn<|jN<|mv Y<|ev (fA Bg Y Y (Ai.x U))<|gu Y (zY ((((((((Ai.mV 8 7).sel s7).mV 15 2).sel s14).sel s15).sel (sx 16)).mV 13 3).sel (sx 16)) x1 (Ta hm _) (azg _ _ _ _ _ (dz bT))) ?_
  rintro _ w20 ⟨auH,auI,auJ,auK,auL,auM,rfl,Fg⟩;have aOQ:=(Fg.s s1).bI;have aOR:=(Fg.s s2).bI;have aOS:=(Fg.s s3).bI;have aOT:=(Fg.s s4).bI;have aOU:=(Fg.s s5).bI;have aOV:=(Fg.s s6).bI;refine jO<|iF (fV ?_)
  refine jN<|ev (eG Y Y)<|mv Y<|jO ?_
  have H5:=Fg;rw [show(rJ (CW m ((mM m s r Z).take k)) x1)=(CW m ((mM m s r Z).take (k+1))) from by rw [auz bT]] at H5;exact dX ⟨(k+1),auH,auI,auJ,auK,auL,auM,Y,Y,aj,((((((((H5.rm s9).mV 7 2).mV 9 7).sel s13).sel s14).sel s15).sel s12).mV 13 3)⟩ rfl aj
 refine BU ?_;refine pC 4 Y<|jP iy 14 Bt zT s3 Y<|mv Y<|ap zT s14 Y Y (zT.o s8) xq FC aj aj Y λsQ sS w21 IJ=>pq 1 Y<|zA iy 14 Bt Y<|xD Y IJ s4 Y λw22 Hy=>dn<|kX Y<|iU Y ?_
 have H6:=Hy;rw [show(CW m ((mM m s r Z).take k))=(CW m (mM m s r Z)) from by rw [gY aj]] at H6;have gy:((I++(pF m s r Z)):V aL)=(I++pF m s r Z):=by simp
 exact⟨B1,d1,B2,d2,B3,d3,jG,jr,oV,cj2,wH,vG,sQ,sS,Y,by rw [<- gy]; exact(((((H6.cU 8 7).sel s1).sel s5).sel s6).mV 3 5)⟩
def aai{l:V eU}{k:Nat}{x:eU}(h:l[k]? = some x):lM s Z n m (l.take (k+1))=Gm s Z n (lM s Z n m (l.take k)) x:=by
 unfold lM; rw [eO h,AP]; rfl
def FZ(hm:lU m=true)(l:V eU):lU (lM s Z n m l)=true:=by
 unfold lM
 induction l generalizing m with
 | nil=>exact hm
 | cons x l ih=>
  refine ih ?_;unfold Gm; split
  ·exact nP hm x
  ·exact hm
def amO(l:V aH)(bF:Int)(report:V aI):∀ x∈jS l bF report,x.Client=0:=by
 intro x hx;unfold jS at hx
 split at hx
 ·obtain⟨c,_,hc⟩:=ML.1 hx
  unfold recC at hc
  split at hc
  ·rw [mU.1 hc]
  ·split at hc
   ·rw [mU.1 hc]
   ·simp at hc
 ·simp at hx
def aii{st:V Int}{u:Int}{k:Nat}{x:aI}(h:l[k]? = some x)(hb:st.contains x.X=true):uV (l.take (k+1)) st n u=uV (l.take k) st n u++[⟨1,x.X,x.E,x.Sum,n,n,u⟩]:=by
 unfold uV; rw [eO h,CB,sU]; simp only [MO,hb,if_true,List.filter_nil,mg,wB]
def amP{st:V Int}{u:Int}{k:Nat}{x:aI}(h:l[k]? = some x)(hb:st.contains x.X=false):uV (l.take (k+1)) st n u=uV (l.take k) st n u:=by
 unfold uV; rw [eO h,CB,sU]; simp only [MO,hb,aew,if_false,List.filter_nil,wB,Aj]
def auN(l:V aI)(st:V Int)(n u:Int):(uV l st n u).length<=l.length:=by unfold uV; rw [jW]; exact mW _ _
abbrev XG(gX:List aL)(iP:List aI)(xE:Nat)(AU:fQ)(Gg:Int)(R5:AItem)(V9:bY)(y7z:ARules):=(gX++uV ((dL iP).take xE) (lK (lM AU Gg R5.A V9 (jS V9.J R5.A (dL iP))).J (dL iP)) R5.A (Gg+y7z.gV)).length
def akX{gh:Nat}{Ah:ah}{ch:Nat}(H0:Hp b S w (Io iy A1 c1 A2 c2 A3 c3 A4 c4 A5 c5 A6 c6 A7 c7 m s r Z gm I::dI bW A1 c1 m.aM::dI bD A2 c2 m.J::dI cB A3 c3 m.aU::dI iG A4 c4 s.bZ::dI dB A5 c5 s.bG::dI bA A6 c6 s.bn::aR bA 121 A7 c7 I::jD gm hs::F))(it:AItem)(hm:lU m=true)(hb:s.bZ.length<=1000)(hl:s.bG.length<=64)(hd:s.bn.length<=50000)(hu:0<=Z/\Z<=549755813888)(hw:I.length<=500000)(hr:l5 r=true)(hg:cZ it.A hs=some ⟨gh,gs,BN,Ah,ch,up,bB,l,es⟩)(hz:l.length<=1000):bM prog 28 #[fK iy,.agg #[O it.Kind,O it.A,O it.B,O it.C],fK gh] w λv w'=>∃ B1 d1 B2 d2 B3 d3 B7 d7,v=O 0/\Hp b S w' (Io iy B1 d1 B2 d2 B3 d3 A4 c4 A5 c5 A6 c6 B7 d7 (lM s Z it.A m (jS m.J it.A (dL l))) s r Z gm (I++uV (dL l) (lK (lM s Z it.A m (jS m.J it.A (dL l))).J (dL l)) it.A (Z+r.gV))::dI bW B1 d1 ((lM s Z it.A m (jS m.J it.A (dL l))).aM)::dI bD B2 d2 ((lM s Z it.A m (jS m.J it.A (dL l))).J)::dI cB B3 d3 ((lM s Z it.A m (jS m.J it.A (dL l))).aU)::dI iG A4 c4 s.bZ::dI dB A5 c5 s.bG::dI bA A6 c6 s.bn::aR bA 121 B7 d7 (I++uV (dL l) (lK (lM s Z it.A m (jS m.J it.A (dL l))).J (dL l)) it.A (Z+r.gV))::jD gm hs::F):=by
 refine qN func28 ntmps28 Y ?_;have hrl:=EP l;have aR0:=(vo (dD.1 hm).2.1).1;have aOK:=aut m.J it.A (dL l);have hbd:=og hr;have hzs:=GU hm;have hmr:=GU (FZ (s:=s) (Z:=Z) (n:=it.A) hm (jS m.J it.A (dL l)));have hqn:=λk=>auN ((dL l).take k) (lK (lM s Z it.A m (jS m.J it.A (dL l))).J (dL l)) it.A (Z+r.gV)
 simp only [iX] at hqn
 refine rg<|bx Y Y H0 λg1 w1 K1=>pB 5 Y<|zA gh 0 zk Y<|ev (dU Wp Y (K1.FW s9 hg) Y) ?_
 have H1:=K1.xM s9 hg;refine gu Y (Qx ((H1.sel U).mV 1 4) (lG hz au)) ?_;rintro _ w2 ⟨qj,ql,rfl,K2⟩;have VX:=(K2.o U).bI;have H2:=Z7 hg ((((K2.sel U).sel s6).mV 2 4).sel s6);refine fE Y<|aZ<|He H2 (λ_ K=>K) (λl0 rk lJ wJ=>∃ jG jr,lJ=(26,.slice jG ((jS m.J it.A (dL l)).length) jr)::(27,O (((jS m.J it.A (dL l)).length:Nat):Int))::(28,O 0)::l0/\Hp b S wJ (aR BP 118 jG jr (jS m.J it.A (dL l))::rk)) (λhns H3=>?_) ?_
 ·refine qp 0 iy 0 Bv Y H3<|mK 3 4 iy 1 jC s3 Y H3<|mK 5 6 g1 1 nA s2 Y H3<|lF 7 Y Y H3<|lF 10 Y Y H3<|O1 8 Y<|gu Y (aeJ _ (H3.s s5).any it.A (H3.o s1) hzs.2.1) ?_
  rintro _ w3 ⟨rE,rF,rfl,h3⟩;have K3:=H3.f1 h3;have arD:=(K3.o U).bI;have k1:=(K3.rm U);refine aO k1<|kI 9 Y (λ_ _=>jf Qj Y) k1<|Dn ⟨rE,rF,Y,K3⟩ Y
 rintro _ w4 ⟨jG,jr,rfl,K4⟩;refine dF<|Lp (K4.cU 4 4) (λl0 rk mJ lJ wJ=>∃ k B1 d1 B2 d2 B3 d3,lJ=(28,O ((k:Nat):Int))::l0/\mJ=(jS m.J it.A (dL l)).length - k/\k<=(jS m.J it.A (dL l)).length/\Hp b S wJ (dI bW B1 d1 ((lM s Z it.A m ((jS m.J it.A (dL l)).take k)).aM)::dI bD B2 d2 ((lM s Z it.A m ((jS m.J it.A (dL l)).take k)).J)::dI cB B3 d3 ((lM s Z it.A m ((jS m.J it.A (dL l)).take k)).aU)::Io iy B1 d1 B2 d2 B3 d3 A4 c4 A5 c5 A6 c6 A7 c7 (lM s Z it.A m ((jS m.J it.A (dL l)).take k)) s r Z gm I::rk)) ⟨0,A1,c1,A2,c2,A3,c3,Y,Y,fI _,(((K4.mV 0 4).sel s4).mV 5 3)⟩ Y ?_
 rintro _ _ w5 ⟨k,B1,d1,B2,d2,B3,d3,rfl,rfl,hk,K5⟩;refine rg<|ev (iH Y Y)<|dn<|r9 Y (λhc29=>?_) (λhc29=>?_)
 ·refine jQ ?_;refine aZ<|dF<|rg ?_
  obtain⟨x1,bT⟩:=bH (xs:=jS m.J it.A (dL l)) (i:=k) aj;refine ev (d9 (i:=k) Qj aky Y Y Y (aP bT) ((K5.o s4).some_ bT))<|ev (iR Bg Y Y ((K5.o s4).fF bT))<|al ND Y K5 λg2 w6 K6=>sty Y K6 U Y λw7 K7=>dn<|rg<|jP g2 2 ZG K7 U Y<|pq 2 Y ?_
  cases Ut:(!decide (x1.Kind=5)) with
  | true=>
   refine pA 9 Y<|bS Y (λ_h=>?_) nofun
   refine jN<|mv Y<|ev (fA Bg Y Y (K7.x U))<|gu Y (zY (((((((K7.mV 7 2).sel s7).sel s3).sel s8).mV 9 4).mV 9 3).sel s12) x1 (FZ hm _) (amO _ _ _ _ (dz bT))) ?_
   rintro _ w8 ⟨aOW,aOX,aOY,aOZ,aO0,aO1,rfl,K8⟩;have aGQ:=(K8.s s1).bI;have aR2:=(K8.s s2).bI;have aR3:=(K8.s s3).bI;have aR4:=(K8.s s4).bI;have aR5:=(K8.s s5).bI;have aR6:=(K8.s s6).bI;refine jO<|iF (fV ?_)
   refine jN<|ev (eG Y Y)<|mv Y<|jO ?_
   have H4:=K8;rw [show(rJ (lM s Z it.A m ((jS m.J it.A (dL l)).take k)) x1)=(lM s Z it.A m ((jS m.J it.A (dL l)).take (k+1))) from by rw [aai bT]; unfold Gm; first | rw [aS (by rw [Ut]; rfl)] | rw [aS (by rw [Ut,yt]; rfl)] | rw [aQ (by rw [Ut,yt]; decide)]] at H4;exact dX ⟨(k+1),aOW,aOX,aOY,aOZ,aO0,aO1,Y,Y,aj,(((((((H4.rm s9).mV 4 4).mV 10 2).sel s10).sel s11).sel s8).mV 9 3)⟩ rfl aj
  | false=>
   refine pq 1 Y<|wW g2 3 vP K7 U Y<|wW g1 1 nA K7 s8 Y<|om Y Y Y Y aBt (aib (((((((K7.mV 7 2).sel s7).sel s3).sel s8).mV 9 4).mV 9 3).sel s12) x1.A it.A hb hl hd) Y ?_
   rintro _ w9 ⟨rfl,K9⟩;refine pA 3 Y<|bS Y (λyt=>?_) (λyt=>?_)
   ·refine jN<|mv Y<|ev (fA Bg Y Y (K9.x s9))<|gu Y (zY (s:=s) (r:=r) K9 x1 (FZ hm _) (amO _ _ _ _ (dz bT))) ?_
    rintro _ PE ⟨aIr,aIs,aIt,aIu,aIv,aIw,rfl,K10⟩;refine jO<|iF (fV ?_)
    refine jN<|ev (eG Y Y)<|mv Y<|jO ?_
    have H5:=K10;rw [show(rJ (lM s Z it.A m ((jS m.J it.A (dL l)).take k)) x1)=(lM s Z it.A m ((jS m.J it.A (dL l)).take (k+1))) from by rw [aai bT]; unfold Gm; first | rw [aS (by rw [Ut]; rfl)] | rw [aS (by rw [Ut,yt]; rfl)] | rw [aQ (by rw [Ut,yt]; decide)]] at H5;exact dX ⟨(k+1),aIr,aIs,aIt,aIu,aIv,aIw,Y,Y,aj,(((((((H5.rm s9).mV 4 4).mV 10 2).sel s10).sel s11).sel s8).mV 9 3)⟩ rfl aj
   refine Gw ?_;refine jN<|ev (eG Y Y)<|mv Y<|jO ?_
   have H6:=K9;rw [show(lM s Z it.A m ((jS m.J it.A (dL l)).take k))=(lM s Z it.A m ((jS m.J it.A (dL l)).take (k+1))) from by rw [aai bT]; unfold Gm; first | rw [aS (by rw [Ut]; rfl)] | rw [aS (by rw [Ut,yt]; rfl)] | rw [aQ (by rw [Ut,yt]; decide)]] at H6;exact dX ⟨(k+1),B1,d1,B2,d2,B3,d3,Y,Y,aj,(((((((H6.rm s9).mV 4 4).mV 10 2).sel s10).sel s11).sel s8).mV 9 3)⟩ rfl aj
 refine BU ?_;have H7:=K5;rw [show(lM s Z it.A m ((jS m.J it.A (dL l)).take k))=(lM s Z it.A m (jS m.J it.A (dL l))) from by rw [gY aj]] at H7;refine pC 3 Y<|zA iy 0 Bv Y<|jP iy 1 jC H7 s3 Y<|mv Y<|gu Y (auu _ (H7.s s1).any (H7.o s6) hmr.2.1 hmr.2.2.1 aj) ?_
 rintro _ VY ⟨atn,ato,rfl,h11⟩;have vF:=H7.f1 h11;refine fE Y<|aZ<|gD Y<|ev (jf pE Y)<|mv Y<|dn<|dF ?_
 have gy:(I:V aL)=(I++uV ((dL l).take 0) (lK (lM s Z it.A m (jS m.J it.A (dL l))).J (dL l)) it.A (Z+r.gV)):=by simp [uV]
 rw [gy] at vF;refine qh (λmJ lJ wJ=>∃ kb A9 c9,lJ=[(0,fK iy),(4,fK g1),(10,.slice atn ((lK ((lM s Z it.A m (jS m.J it.A (dL l))).J) (dL l)).length) ato),(55,.slice qj ((dL l).length) ql),(56,O (((dL l).length:Nat):Int)),(57,O ((kb:Nat):Int))]/\mJ=(dL l).length - kb/\kb<=(dL l).length/\Hp b S wJ (aR bA 121 A9 c9 (I++uV ((dL l).take kb) (lK (lM s Z it.A m (jS m.J it.A (dL l))).J (dL l)) it.A (Z+r.gV))::Io iy B1 d1 B2 d2 B3 d3 A4 c4 A5 c5 A6 c6 A9 c9 (lM s Z it.A m (jS m.J it.A (dL l))) s r Z gm (I++uV ((dL l).take kb) (lK (lM s Z it.A m (jS m.J it.A (dL l))).J (dL l)) it.A (Z+r.gV))::aR dN 3 atn ato (lK ((lM s Z it.A m (jS m.J it.A (dL l))).J) (dL l))::dI bW B1 d1 ((lM s Z it.A m (jS m.J it.A (dL l))).aM)::dI bD B2 d2 ((lM s Z it.A m (jS m.J it.A (dL l))).J)::dI cB B3 d3 ((lM s Z it.A m (jS m.J it.A (dL l))).aU)::aR BP 118 jG jr (jS m.J it.A (dL l))::jD gm hs::aR bg 140 qj ql (dL l)::dJ g1 32 [O it.Kind,O it.A,O it.B,O it.C]::dI iG A4 c4 s.bZ::dI dB A5 c5 s.bG::dI bA A6 c6 s.bn::F)) ⟨0,A7,c7,Y,Y,fI _,((((vF.mV 5 7).mV 7 4).sel s11).sel s12)⟩ Y ?_;rintro _ _ Uy ⟨kb,A9,c9,rfl,rfl,hkb,uR⟩;refine rg<|ev (iH Y Y)<|dn<|r9 Y (λaO2=>?_) (λaO2=>?_)
 ·refine jQ ?_;refine aZ<|dF<|rg ?_
  obtain⟨x2,nE⟩:=bH (xs:=dL l) (i:=kb) aj;refine ev (d9 (i:=kb) pE pR Y Y Y (aP nE) ((uR.o s8).some_ nE))<|ev (iR pU Y Y ((uR.o s8).fF nE))<|al yP Y uR λg3 YX xk=>sty Y xk U Y λw14 wF=>dn<|gD Y<|jP g3 0 mI wF U Y<|mX wF Y (kJ _ (wF.o s3) x2.X) λw15 zI=>dn<|bS Y (λauO=>?_) (λauO=>?_)
  ·refine Hf zI (λ_ K=>(K.cU 1 2)) (λl0 rk lJ wJ=>∃ oV cj2,lJ=l0/\Hp b S wJ (Io iy B1 d1 B2 d2 B3 d3 A4 c4 A5 c5 A6 c6 oV cj2 (lM s Z it.A m (jS m.J it.A (dL l))) s r Z gm ((I++uV ((dL l).take kb) (lK (lM s Z it.A m (jS m.J it.A (dL l))).J (dL l)) it.A (Z+r.gV))++([(⟨1,x2.X,x2.E,x2.Sum,it.A,it.A,Z+r.gV⟩:aL)]:V aL))::aR bA 121 oV cj2 ((I++uV ((dL l).take kb) (lK (lM s Z it.A m (jS m.J it.A (dL l))).J (dL l)) it.A (Z+r.gV))++([(⟨1,x2.X,x2.E,x2.Sum,it.A,it.A,Z+r.gV⟩:aL)]:V aL))::rk)) (λhns H8=>?_) ?_
   ·have k2:=(H8.cU 1 2);refine lF 0 Y Y k2<|qp 1 iy 14 Bt Y k2<|mK 5 6 g3 0 mI U Y k2<|mK 7 8 g3 1 sJ U Y k2<|mK 9 10 g3 2 SI U Y k2<|mK 11 12 g1 1 nA s8 Y k2<|mK 13 14 g1 1 nA s8 Y k2<|qp 15 iy 12 Df Y k2<|qp 19 iy 6 XC Y k2<|Iy 22 iy 10 RQ Y k2<|Jn H8 (λl0 rk lJ wJ=>∃ g4,lJ=(69,.slice A9 (XG I l kb s Z it m r) c9)::(91,.slice (some ⟨g4,0,none⟩) (([(⟨1,x2.X,x2.E,x2.Sum,it.A,it.A,Z+r.gV⟩:aL)]:V aL).length) 1)::l0/\Hp b S wJ (aR bA 121 (some ⟨g4,0,none⟩) 1 ([(⟨1,x2.X,x2.E,x2.Sum,it.A,it.A,Z+r.gV⟩:aL)]:V aL)::rk)) 4 134217727 ?_ λhS1=>?_
    ·rintro _ w21 ⟨g4,rfl,IJ⟩;refine O1 27 Y<|ap (ys:=([(⟨1,x2.X,x2.E,x2.Sum,it.A,it.A,Z+r.gV⟩:aL)]:V aL)) IJ s2 Y Y (IJ.o U) xq FC (by have:=hqn kb; rw [jH]; omega) av rfl λWO cp2 w22 Hy=>?_
     have k7:=((Hy.rm s3).cU 0 2);refine aO k7<|JG 28 iy 14 Bt Y k7<|O1 30 Y<|xD Y Hy s3 Y λw23 Le=>?_
     have k8:=(Le.cU 0 3);refine aO k8<|Dn ⟨WO,cp2,Y,(Le.rm s2)⟩ Y
    refine Jn H8 (λl0 rk lJ wJ=>lJ=(69,.slice A9 (XG I l kb s Z it m r) c9)::(83,O Z)::(88,O r.gV)::l0/\Hp b S wJ rk) 7 16777215 ?_ λhS2=>?_
    ·rintro _ w24 ⟨rfl,pz⟩;have k9:=(pz.cU 1 2);refine kI 24 Y (λ_ _=>eG Y Y) k9<|kI 25 Y (λ_ _=>iT (vs:=[(0,O 1),(1,O x2.X),(2,O x2.E),(3,gP x2.Sum),(4,O it.A),(5,O it.A),(6,O (Z+r.gV))]) (cs:=[O 1,O x2.X,O x2.E,gP x2.Sum,O it.A,O it.A,O (Z+r.gV)]) Y (by apply nN)) k9<|O1 26 rfl<|yV (τ:=bA) (x:=(⟨1,x2.X,x2.E,x2.Sum,it.A,it.A,Z+r.gV⟩:aL)) rfl (by intro _; apply fC) rfl pz (λ_ _=>rfl) λg7 w25 DU=>?_
     have k10:=((DU.cU 2 2).rm U);exact Kj hS1 k10 ⟨g7,Y,DU⟩ Y
    refine Jn H8 (λl0 rk lJ wJ=>lJ=(69,.slice A9 (XG I l kb s Z it m r) c9)::(83,O Z)::l0/\Hp b S wJ rk) 8 8388607 ?_ λhS3=>?_
    ·rintro _ w26 ⟨rfl,JU⟩;refine O1 23 Y<|lY JU s2 Y ?_
     have k11:=(JU.cU 1 2);exact Kj hS2 k11 ⟨Y,JU⟩ Y
    refine Jn H8 (λl0 rk lJ wJ=>lJ=(69,.slice A9 (XG I l kb s Z it m r) c9)::(88,O r.gV)::l0/\Hp b S wJ rk) 8 16515071 ?_ λhS4=>?_
    ·rintro _ w27 ⟨rfl,LG⟩;refine O1 18 Y<|lY LG s2 Y ?_
     have k12:=(LG.cU 1 2);exact Kj hS2 k12 ⟨Y,LG⟩ Y
    refine Jn H8 (λl0 rk lJ wJ=>lJ=(83,O Z)::(88,O r.gV)::l0/\Hp b S wJ rk) 8 16777199 ?_ λhS5=>?_
    ·rintro _ w28 ⟨rfl,Fh⟩;have k13:=(Fh.cU 1 2);refine kI 24 Y (λ_ _=>eG Y Y) k13<|kI 25 Y (λ_ _=>iT (vs:=[(0,O 1),(1,O x2.X),(2,O x2.E),(3,gP x2.Sum),(4,O it.A),(5,O it.A),(6,O (Z+r.gV))]) (cs:=[O 1,O x2.X,O x2.E,gP x2.Sum,O it.A,O it.A,O (Z+r.gV)]) Y (by apply nN)) k13<|O2 4 26 rfl rfl ?_ ?_
     ·refine lY Fh s2 Y<|aO k13<|O1 26 Y<|yV (τ:=bA) (x:=(⟨1,x2.X,x2.E,x2.Sum,it.A,it.A,Z+r.gV⟩:aL)) Y (by intro _; apply fC) rfl Fh (λ_ _=>rfl) λg8 w29 Fp=>?_
      have k14:=((Fp.cU 2 2).rm U);exact Kj hS1 k14 ⟨g8,Y,Fp⟩ Y
     ·refine yV (τ:=bA) (x:=(⟨1,x2.X,x2.E,x2.Sum,it.A,it.A,Z+r.gV⟩:aL)) Y (by intro _; apply fC) rfl Fh (λ_ _=>rfl) λg9 w30 Fq=>?_;have k15:=((Fq.cU 2 2).rm U);refine aO k15<|O1 4 Y<|lY Fq s3 Y<|Kj hS1 k15 ⟨g9,Y,Fq⟩ Y
    refine xX (fuel:=9) (rs:=[4,18,23]) ak au ?_
    simp only [rP,lH,wU,wV,uw]
    refine⟨?_,?_,?_⟩
    ·refine⟨_,Y,?_⟩;refine lY H8 s2 Y<|aO k2<|O2 18 23 Y Y ?_ ?_
     ·refine lY H8 s2 Y<|Kj hS3 k2 ⟨Y,H8⟩ Y
     ·refine lY H8 s2 Y<|Kj hS4 k2 ⟨Y,H8⟩ Y
    ·refine⟨_,Y,?_⟩;refine lY H8 s2 Y<|aO k2<|O2 4 23 Y Y ?_ ?_
     ·refine lY H8 s2 Y<|Kj hS3 k2 ⟨Y,H8⟩ Y
     ·refine lY H8 s2 Y<|Kj hS5 k2 ⟨Y,H8⟩ Y
    ·refine⟨_,Y,?_⟩;refine lY H8 s2 Y<|aO k2<|O2 4 18 Y Y ?_ ?_
     ·refine lY H8 s2 Y<|Kj hS4 k2 ⟨Y,H8⟩ Y
     ·refine lY H8 s2 Y<|Kj hS5 k2 ⟨Y,H8⟩ Y
   rintro _ w31 ⟨oV,cj2,rfl,Lh⟩;refine iF (fV ?_);refine jN<|ev (eG Y Y)<|mv Y<|jO ?_
   have gH:(((I++uV ((dL l).take kb) (lK (lM s Z it.A m (jS m.J it.A (dL l))).J (dL l)) it.A (Z+r.gV))++([(⟨1,x2.X,x2.E,x2.Sum,it.A,it.A,Z+r.gV⟩:aL)]:V aL)):V aL)=(I++uV ((dL l).take (kb+1)) (lK (lM s Z it.A m (jS m.J it.A (dL l))).J (dL l)) it.A (Z+r.gV)):=by first | (rw [aii nE auO,o9]; done) | (rw [amP nE (by simpa using auO)]; done)
   rw [gH] at Lh;exact dX ⟨(kb+1),oV,cj2,Y,Y,aj,(((Lh.rm s2).sel U).sel s1)⟩ rfl aj
  refine Gw ?_;refine jN<|ev (eG Y Y)<|mv Y<|jO ?_
  have kN:((I++uV ((dL l).take kb) (lK (lM s Z it.A m (jS m.J it.A (dL l))).J (dL l)) it.A (Z+r.gV)):V aL)=(I++uV ((dL l).take (kb+1)) (lK (lM s Z it.A m (jS m.J it.A (dL l))).J (dL l)) it.A (Z+r.gV)):=by first | (rw [aii nE auO,o9]; done) | (rw [amP nE (by simpa using auO)]; done)
  rw [kN] at zI;exact dX ⟨(kb+1),A9,c9,Y,Y,aj,(zI.rm U)⟩ rfl aj
 refine BU ?_;refine kX Y<|iU Y ?_
 have nM:((I++uV ((dL l).take kb) (lK (lM s Z it.A m (jS m.J it.A (dL l))).J (dL l)) it.A (Z+r.gV)):V aL)=(I++uV (dL l) (lK (lM s Z it.A m (jS m.J it.A (dL l))).J (dL l)) it.A (Z+r.gV)):=by rw [gY aj]
 exact⟨B1,d1,B2,d2,B3,d3,A9,c9,Y,by rw [<- nM]; exact((((((uR.cU 8 2).rm s6).rm s2).sel s5).sel s1).mV 2 7)⟩
end
section
variable {M:Array Oper}{full:Array Bool}{F:l6}{b w:World}{S S0 S1:Nat->Prop}{es:List (bP × Option Addr × Nat × List (BitVec 8))}{iy c1 c2 c3 c4 c5 c6 c7 gm i:Nat}{A1 A2 A3 A4 A5 A6 A7:ah}{m:bY}{s:fQ}{r:ARules}{Z:Int}{I:List aL}{hs:kg}{c:PC}{it:AItem}{o:aL}{D:List Int}
def aij:bU prog 121 2 2:=ay
def aik:bU prog 121 3 3:=ay
def aIx:bC prog 74:=ay
def auP:bU prog 121 0 0:=ay
def aEq:bC prog 129:=ay
def amQ{pre ids:V Nat}{rest:Nat}:∀(fuel:Nat)(aW:Array Bool),aW.size=M.size->(∀ i∈pre,aW.getD i false=true)->rC M (pre++ids) rest full fuel aW=true->rC M ids rest full fuel aW=true
 | 0,aW,_,_,h=>by unfold rC at h ⊢; exact h
 | f+1,aW,hs,hp,h=>by
  unfold rC at h ⊢
  split at h
  ·rename_i he; rw [aS he]; exact h
  ·rename_i he; rw [aQ he]
   simp only [bK,mD,nG,j5] at h ⊢
   refine⟨h.1,λr hr=>?_⟩;obtain⟨h1,h2⟩:=h.2 r hr;obtain⟨hr1,hr2,_⟩:=(Kv hs r).1 hr;refine⟨h1.resolve_left (λhm=>by rw [hp r hm] at hr2; cases hr2),amQ f _ (by simpa using hs) (λi hi=>?_) h2⟩;rw [Jc aj]; split
   ·rfl
   ·exact hp i hi
def OG{ids:V Nat}{rest fuel:Nat}{aW:Array Bool}(pre:V Nat)
  (h:(apo M (pre++ids) full&&((aW.size == M.size&&fuel == rest+ids.length)&&(((List.range M.size).all λi=>aW.getD i false == pre.contains i)&&pre.all λi=>(reqs M i).all λj=>pre.contains j)))=true):rC M ids rest full fuel aW=true:=by
 simp only [bK,Uh,mD,List.mem_range] at h
 obtain⟨h1,⟨h2,h3⟩,h4,h5⟩:=h
 have hlt:∀ i,aW.getD i false=true->i<M.size:=λi hi=>by
  rw [<- h2]
  by_cases hl:i<aW.size
  ·exact hl
  ·rw [KX,Array.getElem?_eq_none aj] at hi; cases hi
 have hin:∀ i∈pre++ids,i<M.size:=by
  have h6:=h1
  simp only [apo,bK,mD,bN] at h6
  exact λi hi=>(h6.2.1 i hi).1
 have hnd:(pre++ids).Nodup:=by
  have h6:=h1
  simp only [apo,bK] at h6
  exact ZX h6.1.1
 have hp:∀ i∈pre,aW.getD i false=true:=λi hi=>by rw [h4 i (hin i (QB _ hi))]; exact nG.2 hi
 have hm:∀ i,aW.getD i false=true->i∈pre:=λi hi=>by have:=h4 i (hlt i hi); rw [hi] at this; exact nG.1 this.symm
 refine amQ fuel aW h2 hp (amB h1 rest fuel aW h2 (λi hi=>QB _ (hm i hi)) (λi hi j hj=>hp j (nG.1 (h5 i (hm i hi) j hj))) ?_);rw [h3]; congr 1;rw [CB,Vd.2 (λi hi=>by rw [hp i hi]; simp),MB];rw [DT.2 (λi hi=>?_)];have:i∉pre:=λh=>(List.nodup_append.1 hnd).2.2 i h i hi rfl;rw [Cm.2 (λh=>this (hm i h))]; rfl
def hSz(hs:kg):Prop:=∀ z h,cZ z hs=some h->h.l.length<=1000/\∀ k,(fU k h.es).2.2.length<=1000
section
variable {m:bY}{s:fQ}{r:ARules}{Z:Int}{I:List aL}{hs:kg}{o:aL}{gh gs gm1 gh2 gs2 BN:Nat}{A1 A2 A3 B:ah}{n2 n3 nB:Nat}{up1 up:Bool}{c1:Nat}{aR7 bB:Int}{l1 l:List aI}{es1 es:oh}
def apP(h:cZ o.jm hs=none):j6 ⟨m,s,r,Z,I,kR hs⟩ o=⟨m,s,r,Z,I,kR hs⟩:=
 SX (by show cZ o.jm (kR hs)=none; rw [jg,h]; rfl)
def gF{z:Int}(h:cZ z hs=some F):cZ z (kR hs)=some F.pl:=by rw [jg,h]; rfl
def apQ(h:cZ o.jm hs=some F)(hb:(!F.up)=true):j6 ⟨m,s,r,Z,I,kR hs⟩ o=⟨m,s,r,Z,I,kR hs⟩:=
 Ny (gF h) (by show(!F.up||_)=true; rw [hb]; rfl)
def auQ(h:cZ o.jm hs=some F)(hb:wo s Z o.X o.To=true):j6 ⟨m,s,r,Z,I,kR hs⟩ o=⟨m,s,r,Z,I,kR hs⟩:=
 Ny (gF h) (by show(_||wo s Z o.X o.To)=true; rw [hb,Bool.or_true])
abbrev rD(gX:l6)(iP:aL):=qC gX.l gX.es iP.X
def aaj(h:cZ o.jm hs=some F)(hr:¬ ((rD F o).2.2=0/\(rD F o).2.1=o.E/\((gI (rD F o).1).toNat:Int)=o.Sum)):j6 ⟨m,s,r,Z,I,kR hs⟩ o=⟨m,s,r,Z,I,kR hs⟩:=
 XA (gF h) (by rw [show rT F.pl.l F.pl.d o.X=qC F.l F.es o.X from ah9 _ _ _]; exact hr)
abbrev amR(gX:l6)(iP:ah)(xE:Nat)(AU:aL)(Gg:l6)(R5:ah)(V9:Nat):=(⟨gX.gh,gX.gs,gX.gm,iP,xE,gX.up,gX.bB,Ig gX.l gX.bB AU.X (rD Gg AU).2.1 AU.Sum (rD Gg AU).1,tkM gX.l gX.bB AU.X (rD Gg AU).2.1 AU.Sum (rD Gg AU).1 R5 V9 gX.es⟩:l6)
def apR{T:l6}(h:cZ o.jm hs=some F)(hb:(!F.up)=false)(ht:wo s Z o.X o.To=false)(h1:(rD F o).2.2=0)(h2:(rD F o).2.1=o.E)(h3:((gI (rD F o).1).toNat:Int)=o.Sum)
  (hg:cZ o.To hs=some T) (hk:SS T.l T.bB o.X (rD F o).2.1 o.Sum (rD F o).1=false) :
  j6 ⟨m,s,r,Z,I,kR hs⟩ o=⟨m,s,r,Z,I,kR (fO o.To (amR T A1 n2 o F B nB) hs)⟩:=by
 have hR:rT F.pl.l F.pl.d o.X=qC F.l F.es o.X:=ah9 _ _ _;have:=SY (c:=⟨m,s,r,Z,I,kR hs⟩) (gF h) (by show(!F.up||wo s Z o.X o.To)=false; rw [hb,ht]; rfl) (by rw [hR]; exact⟨h1,h2,h3⟩) (gF hg) (by rw [hR]; exact hk);rw [this,hR,Br]; unfold l6.pl; simp only; rw [amL]
def acr{T:l6}(L2:V bq)(h:cZ o.jm hs=some F)(hb:(!F.up)=false)(ht:wo s Z o.X o.To=false)(h1:(rD F o).2.2=0)(h2:(rD F o).2.1=o.E)(h3:((gI (rD F o).1).toNat:Int)=o.Sum)
  (hg:cZ o.To hs=some T) (hk:SS T.l T.bB o.X (rD F o).2.1 o.Sum (rD F o).1=true) (hL:(if Lx s.bG o.X o.To=0 then zX s.bG o.X o.To else s.bG)=L2) :
  j6 ⟨m,s,r,Z,I,kR hs⟩ o=⟨rJ m ⟨0,0,5,o.X,o.To,(rD F o).2.1⟩,⟨s.bZ,L2,s.bn⟩,r,Z,I,kR (fO o.To (amR T A1 n2 o F B nB) hs)⟩:=by
 have hR:rT F.pl.l F.pl.d o.X=qC F.l F.es o.X:=ah9 _ _ _;have:=Nz (c:=⟨m,s,r,Z,I,kR hs⟩) (gF h) (by show(!F.up||wo s Z o.X o.To)=false; rw [hb,ht]; rfl) (by rw [hR]; exact⟨h1,h2,h3⟩) (gF hg) (by rw [hR]; exact hk);rw [this,hR,Br,<- hL]; unfold l6.pl; simp only; rw [amL]
end
abbrev dx(gX:bY)(iP:fQ)(xE:ARules)(AU:Int)(Gg:List aL)(R5:kg):=(⟨gX,iP,xE,AU,Gg,kR R5⟩:PC)
abbrev XH(gX:Nat)(iP:ah)(xE:Nat)(AU:ah)(Gg:Nat)(R5:ah)(V9:Nat)(y7z:ah)(y8z:Nat)(y9z:ah)(Tc:Nat)(Td:ah)(Tf:Nat)(Ti:ah)(Tj:Nat)(EB:bY)(EC:fQ)(aeP:ARules)(aeQ:Int)(Tn:Nat)(Tq:List aL)(aeR:kg)(aeS:List kF):=Io gX iP xE AU Gg R5 V9 y7z y8z y9z Tc Td Tf Ti Tj EB EC aeP aeQ Tn Tq::dI bW iP xE EB.aM::dI bD AU Gg EB.J::dI cB R5 V9 EB.aU::dI iG y7z y8z EC.bZ::dI dB y9z Tc EC.bG::dI bA Td Tf EC.bn::aR bA 121 Ti Tj Tq::jD Tn aeR::aeS
abbrev Tt(gX:fQ):=(⟨gX.bZ,gX.bG,gX.bn⟩:fQ)
def ail{F:V kF}{gh gs BN:Nat}{Ah:ah}{ch:Nat}{up:Bool}{bB:Int}{l:V aI}(H0:Hp b S w (XH iy A1 c1 A2 c2 A3 c3 A4 c4 A5 c5 A6 c6 A7 c7 m s r Z gm I hs F))(o:aL)(hm:lU m=true)(hb:s.bZ.length<=1000)(hl:s.bG.length<=64)(hd:s.bn.length<=50000)(hz:hSz hs)(hg:cZ o.To hs=some ⟨gh,gs,BN,Ah,ch,up,bB,l,es⟩):bM prog 128 #[fK iy,.agg #[O o.Kind,O o.X,O o.E,gP o.Sum,O o.jm,O o.To,O o.iK],fK gh] w λv w'=>∃(B1:ah)(d1:Nat)(B2:ah)(d2:Nat)(B3:ah)(d3:Nat)(B5:ah)(d5:Nat)(hs1:kg),v=.tuple #[]/\kR hs1=(j6 (dx m s r Z I hs) o).hs/\Hp b S w' (Io iy B1 d1 B2 d2 B3 d3 A4 c4 B5 d5 A6 c6 A7 c7 ((j6 (dx m s r Z I hs) o).m) ((j6 (dx m s r Z I hs) o).s) r Z gm I::dI bW B1 d1 (((j6 (dx m s r Z I hs) o).m).aM)::dI bD B2 d2 (((j6 (dx m s r Z I hs) o).m).J)::dI cB B3 d3 (((j6 (dx m s r Z I hs) o).m).aU)::dI iG A4 c4 (((j6 (dx m s r Z I hs) o).s).bZ)::dI dB B5 d5 (((j6 (dx m s r Z I hs) o).s).bG)::dI bA A6 c6 (((j6 (dx m s r Z I hs) o).s).bn)::aR bA 121 A7 c7 I::jD gm hs1::F):=by
 refine qN func128 ntmps128 Y<|rg<|bx Y Y H0 λg1 w1 K1=>dn ?_
 rcases hg1:cZ o.jm hs with _ | ⟨gh1,gs1,gm1,Ah1,ch1,up1,rm1,l1,es1⟩
 ·refine pW ak ak<|bf (dP Y) Y<|bf (nH Y) Y<|bf (fq vE Y Y) Y<|bf (dU Wq Y (K1.x s1) Y) Y<|bf (fq Zr Y Y) Y<|bf (dU jF Y (K1.x U) Y) Y<|bf (Ev.hN K1 s9 hg1 FV zM wI Y Y) Y<|bf (tF Y) Y<|pX λw2 e2=>?_
  have K2:=K1.grow e2;refine aZ<|gD Y<|ev (Ev.an9 DV Y Y)<|pA 16 Y<|bS Y (λ_h=>?_) nofun
  refine Aw Y ?_;have hcp:j6 (dx m s r Z I hs) o=(dx m s r Z I hs):=apP hg1;rw [show(j6 (dx m s r Z I hs) o).m=m from by rw [hcp]];rw [show(j6 (dx m s r Z I hs) o).s=s from by rw [hcp]];exact⟨A1,c1,A2,c2,A3,c3,A5,c5,hs,Y,(by rw [hcp]),(K2.rm U)⟩
 ·have hzf:=hz _ _ hg1;refine pW ak ak<|bf (dP Y) Y<|bf (nH Y) Y<|bf (fq vE Y Y) Y<|bf (dU Wq Y (K1.x s1) Y) Y<|bf (fq Zr Y Y) Y<|bf (dU jF Y (K1.x U) Y) Y<|bf (Ev.hS K1 s9 hg1 FV zM wI Y Y) Y<|bf (tF Y) Y<|pX λw3 e3=>?_
  have K3:=K1.grow e3;refine aZ<|gD Y<|ev (Ev.an9 DV Y Y)<|pq 3 Y<|gfy gh1 1 KD Y<|uf Y (dU akD Y (K3.FW s9 hg1) Y) Y<|pq 3 Y ?_
  cases aoE:(!up1) with
  | true=>
   refine pA 8 Y<|bS Y (λ_h=>?_) nofun
   refine Aw Y ?_;have hcp:j6 (dx m s r Z I hs) o=(dx m s r Z I hs):=apQ hg1 aoE;rw [show(j6 (dx m s r Z I hs) o).m=m from by rw [hcp]];rw [show(j6 (dx m s r Z I hs) o).s=s from by rw [hcp]];exact⟨A1,c1,A2,c2,A3,c3,A5,c5,hs,Y,(by rw [hcp]),(K3.rm U)⟩
  | false=>
   refine pq 1 Y<|wW g1 1 uF K3 U Y<|wW g1 5 AY K3 U Y<|om Y Y Y Y aBt (aib ((K3.sel U).mV 1 9) o.X o.To hb hl hd) Y ?_
   rintro _ w4 ⟨rfl,K4⟩;refine pA 2 Y<|bS Y (λIa=>?_) (λIa=>?_)
   ·refine Aw Y ?_;have hcp:j6 (dx m s r Z I hs) o=(dx m s r Z I hs):=auQ hg1 Ia;rw [show(j6 (dx m s r Z I hs) o).m=m from by rw [hcp]];rw [show(j6 (dx m s r Z I hs) o).s=s from by rw [hcp]];exact⟨A1,c1,A2,c2,A3,c3,A5,c5,hs,Y,(by rw [hcp]),(K4.rm s9)⟩
   refine jQ ?_;refine He K4 (λ_ K=>K) (λl0 rk lJ wJ=>∃ jG jr,lJ=(7,.slice jG (((qC l1 es1 o.X).1).length) jr)::(8,O ((qC l1 es1 o.X).2.1))::(9,O ((qC l1 es1 o.X).2.2))::l0/\Hp b S wJ (aR fP 5 jG jr ((qC l1 es1 o.X).1)::rk)) (λhns H1=>?_) ?_
   ·refine qp 0 gh1 0 zk Y H1<|kI 3 Y (λ_ hK=>dU Wp Y (hK.FW s8 hg1) Y) H1<|mK 4 5 g1 1 uF s9 Y H1<|O1 6 Y ?_
    have H2:=H1.xM s8 hg1;refine gu Y (ah0 ((H2.sel U).mV 1 4) o.X (lG hzf.1 au) (hzf.2 _)) ?_;rintro _ w5 ⟨Du,Dv,rfl,K5⟩;have H3:=Z7 hg1 ((((K5.sel U).sel s6).mV 2 4).sel s6);have k1:=(((H3.rm s1).sel U).mV 1 8);refine aO k1<|lF 7 Y Y k1<|yj 8 Y Y Y k1<|yj 9 Y Y Y k1<|yj 10 Y Y Y k1<|xC 11 Y Y k1<|xC 12 Y Y k1<|xC 13 Y Y k1<|Dn ⟨Du,Dv,Y,((H3.sel U).mV 1 9)⟩ Y
   rintro _ w6 ⟨jG,jr,rfl,K6⟩;refine aZ<|WP.dr ak ?_
   have H4:=K6.grow (oW w6).drew;refine wiz H4 [(0,47,O ((qC l1 es1 o.X).2.2)),(1,48,.bool (!decide ((qC l1 es1 o.X).2.2=0))),(2,49,.bool (!decide ((qC l1 es1 o.X).2.2=0)))] 23 ak (Ik Y (λ_ hK=>(dP Y))<|Ik Y (λ_ hK=>(Gq Y Y))<|Ik Y (λ_ hK=>(dP Y))<|qnz) λw7 K7=>?_
   cases apS:(!decide ((qC l1 es1 o.X).2.2=0)) with
   | true=>
    have aIz:=oL apS;refine wiz K7 [(3,50,undef),(4,51,undef),(5,52,undef),(6,53,undef),(7,54,.bool true),(8,55,.bool true),(9,56,undef),(11,58,undef),(10,57,undef),(12,59,undef),(13,60,undef),(14,61,.bool true),(15,62,.bool true),(16,63,undef),(17,64,undef),(19,66,undef),(20,67,undef),(22,69,undef),(18,65,undef),(21,68,undef),(23,70,undef),(24,71,undef),(25,72,.bool true)] 0 (OG [0,1,2] ak) (AA Y<|AA Y<|AA Y<|AA Y<|Ik Y (λ_ hK=>(oP Y Y))<|Ik Y (λ_ hK=>(dP Y))<|AA Y<|AA Y<|AA Y<|AA Y<|AA Y<|Ik Y (λ_ hK=>(oP Y Y))<|Ik Y (λ_ hK=>(dP Y))<|AA Y<|AA Y<|AA Y<|AA Y<|AA Y<|AA Y<|AA Y<|AA Y<|AA Y<|Ik Y (λ_ hK=>(oP Y Y))<|qnz) λw8 K8=>?_;refine WI.dn ak<|bS Y (λ_h=>?_) nofun
    refine Aw Y ?_;have hcp:j6 (dx m s r Z I hs) o=(dx m s r Z I hs):=aaj hg1 (by rintro⟨h1,h2,h3⟩; simp [h1] at apS);rw [show(j6 (dx m s r Z I hs) o).m=m from by rw [hcp]];rw [show(j6 (dx m s r Z I hs) o).s=s from by rw [hcp]];exact⟨A1,c1,A2,c2,A3,c3,A5,c5,hs,Y,(by rw [hcp]),((K8.rm s10).rm U)⟩
   | false=>
    have aIz:=oM apS;refine wiz K7 [(3,50,O ((qC l1 es1 o.X).2.1)),(4,51,.pointer (some ⟨g1,2,none⟩)),(5,52,O o.E),(6,53,.bool (!decide ((qC l1 es1 o.X).2.1=o.E))),(7,54,.bool (!decide ((qC l1 es1 o.X).2.1=o.E))),(8,55,.bool (!decide ((qC l1 es1 o.X).2.1=o.E)))] 17 (OG [0,1,2] ak) (O9 Y (λ_ hK=>(dP Y))<|O9 Y (λ_ hK=>(fq aij Y Y))<|O9 Y (λ_ hK=>(dU jF Y (hK.x s10) Y))<|O9 Y (λ_ hK=>(Gq Y Y))<|Ik Y (λ_ hK=>(oU Y Y))<|Ik Y (λ_ hK=>(dP Y))<|qnz) λw9 K9=>?_
    cases apT:(!decide ((qC l1 es1 o.X).2.1=o.E)) with
    | true=>
     have aIA:=oL apT;refine wiz K9 [(9,56,undef),(11,58,undef),(10,57,undef),(12,59,undef),(13,60,undef),(14,61,.bool true),(15,62,.bool true),(16,63,undef),(17,64,undef),(19,66,undef),(20,67,undef),(22,69,undef),(18,65,undef),(21,68,undef),(23,70,undef),(24,71,undef),(25,72,.bool true)] 0 (OG [0,1,2,3,4,5,6,7,8] ak) (AA Y<|AA Y<|AA Y<|AA Y<|AA Y<|Ik Y (λ_ hK=>(oP Y Y))<|Ik Y (λ_ hK=>(dP Y))<|AA Y<|AA Y<|AA Y<|AA Y<|AA Y<|AA Y<|AA Y<|AA Y<|AA Y<|Ik Y (λ_ hK=>(oP Y Y))<|qnz) λPE K10=>?_;refine WI.dn ak<|bS Y (λ_h=>?_) nofun
     refine Aw Y ?_;have hcp:j6 (dx m s r Z I hs) o=(dx m s r Z I hs):=aaj hg1 (by rintro⟨h1,h2,h3⟩; simp [h2] at apT);rw [show(j6 (dx m s r Z I hs) o).m=m from by rw [hcp]];rw [show(j6 (dx m s r Z I hs) o).s=s from by rw [hcp]];exact⟨A1,c1,A2,c2,A3,c3,A5,c5,hs,Y,(by rw [hcp]),((K10.rm s10).rm U)⟩
    | false=>
     have aIA:=oM apT;refine wiz K9 [(9,56,.slice jG (((qC l1 es1 o.X).1).length) jr),(11,58,.pointer (some ⟨g1,3,none⟩)),(10,57,gP ((gI ((qC l1 es1 o.X).1)).toNat:Int)),(12,59,gP o.Sum),(13,60,.bool (!decide (((gI ((qC l1 es1 o.X).1)).toNat:Int)=o.Sum))),(14,61,.bool (!decide (((gI ((qC l1 es1 o.X).1)).toNat:Int)=o.Sum))),(15,62,.bool (!decide (((gI ((qC l1 es1 o.X).1)).toNat:Int)=o.Sum)))] 10 (OG [0,1,2,3,4,5,6,7,8] ak) (O9 Y (λ_ hK=>(dP Y))<|O9 Y (λ_ hK=>(fq aik Y Y))<|qcz Y (Qi.afY Y Y Y Y auc (λ_ hK=>(Qv _ (hK.o U)).mono (by rintro _ _ ⟨rfl,gH⟩; exact⟨rfl,hK.grow gH.ext⟩)))<|O9 rfl (λ_ hK=>(dU YN rfl (hK.x s10) rfl))<|O9 rfl (λ_ hK=>(Gq rfl rfl))<|Ik rfl (λ_ hK=>(oU rfl rfl))<|Ik rfl (λ_ hK=>(dP rfl))<|qnz) λVY vF=>?_
     cases apU:(!decide (((gI ((qC l1 es1 o.X).1)).toNat:Int)=o.Sum)) with
     | true=>
      have aIB:=oL apU;refine wiz vF [(16,63,undef),(17,64,undef),(19,66,undef),(20,67,undef),(22,69,undef),(18,65,undef),(21,68,undef),(23,70,undef),(24,71,undef),(25,72,.bool true)] 0 (OG [0,1,2,3,4,5,6,7,8,9,10,11,12,13,14,15] ak) (AA Y<|AA Y<|AA Y<|AA Y<|AA Y<|AA Y<|AA Y<|AA Y<|AA Y<|Ik Y (λ_ hK=>(oP Y Y))<|qnz) λUy uR=>?_;refine WI.dn ak<|bS Y (λ_h=>?_) nofun
      refine Aw Y ?_;have hcp:j6 (dx m s r Z I hs) o=(dx m s r Z I hs):=aaj hg1 (by rintro⟨h1,h2,h3⟩; simp [h3] at apU);rw [show(j6 (dx m s r Z I hs) o).m=m from by rw [hcp]];rw [show(j6 (dx m s r Z I hs) o).s=s from by rw [hcp]];exact⟨A1,c1,A2,c2,A3,c3,A5,c5,hs,Y,(by rw [hcp]),((uR.rm s10).rm U)⟩
     | false=>
      have aIB:=oM apU;refine wiz vF [(16,63,fK gh),(17,64,.pointer (some ⟨g1,1,none⟩)),(19,66,O ((qC l1 es1 o.X).2.1)),(20,67,.pointer (some ⟨g1,3,none⟩)),(22,69,.slice jG (((qC l1 es1 o.X).1).length) jr),(18,65,O o.X),(21,68,gP o.Sum)] 3 (OG [0,1,2,3,4,5,6,7,8,9,10,11,12,13,14,15] ak) (O9 Y (λ_ hK=>(dP Y))<|O9 Y (λ_ hK=>(fq uF Y Y))<|O9 Y (λ_ hK=>(dP Y))<|O9 Y (λ_ hK=>(fq aik Y Y))<|O9 Y (λ_ hK=>(dP Y))<|O9 Y (λ_ hK=>(dU jF Y (hK.x s10) Y))<|O9 Y (λ_ hK=>(dU YN Y (hK.x s10) Y))<|qnz) λYX xk=>?_;refine WI.one 23 ak Y ?_;have H5:=xk.xM s9 hg;have H6:=H5.fz s6;have H7:=H6.push (H6.s U);refine om Y Y Y Y aIx (acp ((H7.mV 0 2).mV 2 5) o.X ((qC l1 es1 o.X).2.1) o.Sum (hz _ _ hg).1) Y ?_;rintro _ w14 ⟨acs,acu,acv,acw,rfl,wF⟩;have H8:=Kz hg ((wF.sel s5).mV 1 6);refine WI.nx<|wiz H8 [(24,71,.bool (!(SS l bB o.X ((qC l1 es1 o.X).2.1) o.Sum ((qC l1 es1 o.X).1)))),(25,72,.bool (!(SS l bB o.X ((qC l1 es1 o.X).2.1) o.Sum ((qC l1 es1 o.X).1))))] 0 ak (O9 Y (λ_ hK=>(wC Y))<|Ik Y (λ_ hK=>(oU Y Y))<|qnz) λw15 zI=>?_
      refine WI.dn ak<|bS Y (λazj=>?_) (λazj=>?_)
      ·refine Aw Y ?_;have hcp:j6 (dx m s r Z I hs) o=(⟨m,s,r,Z,I,kR (fO o.To (⟨gh,gs,BN,acs,acu,up,bB,(Ig l bB o.X ((qC l1 es1 o.X).2.1) o.Sum ((qC l1 es1 o.X).1)),(tkM l bB o.X ((qC l1 es1 o.X).2.1) o.Sum ((qC l1 es1 o.X).1) acv acw es)⟩:l6) hs)⟩:PC):=apR hg1 aoE Ia (by simpa using apS) (by simpa using apT) (by simpa using apU) hg (by simpa using azj);rw [show(j6 (dx m s r Z I hs) o).m=m from by rw [hcp]];rw [show(j6 (dx m s r Z I hs) o).s=s from by rw [hcp]];exact⟨A1,c1,A2,c2,A3,c3,A5,c5,(fO o.To (⟨gh,gs,BN,acs,acu,up,bB,(Ig l bB o.X ((qC l1 es1 o.X).2.1) o.Sum ((qC l1 es1 o.X).1)),(tkM l bB o.X ((qC l1 es1 o.X).2.1) o.Sum ((qC l1 es1 o.X).1) acv acw es)⟩:l6) hs),Y,(by rw [hcp]),((((zI.rm s10).rm s1).sel U).mV 1 8)⟩
      refine jQ ?_;refine aZ<|He zI (λ_ K=>K) (λl0 rk lJ wJ=>∃ oV cj2,lJ=(10,.slice oV ((zX s.bG o.X o.To).length) cj2)::(11,O (Lx s.bG o.X o.To))::l0/\Hp b S wJ (aR dB 165 oV cj2 (zX s.bG o.X o.To)::rk)) (λhns H9=>?_) ?_
      ·refine qp 0 iy 3 Bw Y H9<|mK 3 4 iy 4 yZ s2 Y H9<|mK 5 6 g1 1 uF s10 Y H9<|mK 7 8 g1 5 AY s10 Y H9<|O1 9 Y<|gu Y (apw _ (H9.s s7).any o.X o.To (lG hl au)) ?_
       rintro _ w16 ⟨Y3,Y4,rfl,h16⟩;have BZ:=H9.f1 h16;have k2:=(BZ.rm U);refine aO k2<|lF 10 Y Y k2<|yj 11 Y Y Y k2<|yj 12 Y Y Y k2<|xC 13 Y Y k2<|xC 14 Y Y k2<|Dn ⟨Y3,Y4,Y,BZ⟩ Y
      rintro _ w17 ⟨oV,cj2,rfl,zT⟩;refine gD Y<|ev (wQ Y Y)<|dn<|o8 Y (λaEr=>?_) (λaEr=>?_)
      ·refine jN<|pq 3 Y<|zA iy 3 Bw Y<|zA iy 4 yZ Y<|xD Y zT s3 Y λw18 EL=>jO<|fV<|jN<|mv Y<|jP g1 1 uF EL s11 Y<|jP g1 5 AY EL s11 Y<|mv Y<|ev (iT Y (by apply ru)) ?_
       have H10:=EL.fz s1;refine gu Y (zY (m:=m) (s:=(⟨s.bZ,zX s.bG o.X o.To,s.bn⟩:fQ)) (r:=r) (((((H10.sel s8).mV 3 2).mV 9 2).sel s5).mV 6 5) (⟨0,0,5,o.X,o.To,(qC l1 es1 o.X).2.1⟩:eU) hm Y) ?_;rintro _ w19 ⟨aIC,aID,aIE,aIF,aIG,aIH,rfl,Ai⟩;refine jO<|o7 (uo Y ?_)
       have hcp:j6 (dx m s r Z I hs) o=(⟨(rJ m (⟨0,0,5,o.X,o.To,(qC l1 es1 o.X).2.1⟩:eU)),(⟨s.bZ,zX s.bG o.X o.To,s.bn⟩:fQ),r,Z,I,kR (fO o.To (⟨gh,gs,BN,acs,acu,up,bB,(Ig l bB o.X ((qC l1 es1 o.X).2.1) o.Sum ((qC l1 es1 o.X).1)),(tkM l bB o.X ((qC l1 es1 o.X).2.1) o.Sum ((qC l1 es1 o.X).1) acv acw es)⟩:l6) hs)⟩:PC):=acr (F:=⟨gh1,gs1,gm1,Ah1,ch1,up1,rm1,l1,es1⟩) (T:=⟨gh,gs,BN,Ah,ch,up,bB,l,es⟩) _ hg1 aoE Ia (by simpa using apS) (by simpa using apT) (by simpa using apU) hg (by simpa using azj) (aS aEr);rw [show(j6 (dx m s r Z I hs) o).m=(rJ m (⟨0,0,5,o.X,o.To,(qC l1 es1 o.X).2.1⟩:eU)) from by rw [hcp]];rw [show(j6 (dx m s r Z I hs) o).s=(⟨s.bZ,zX s.bG o.X o.To,s.bn⟩:fQ) from by rw [hcp]];exact⟨aIC,aID,aIE,aIF,aIG,aIH,oV,cj2,(fO o.To (⟨gh,gs,BN,acs,acu,up,bB,(Ig l bB o.X ((qC l1 es1 o.X).2.1) o.Sum ((qC l1 es1 o.X).1)),(tkM l bB o.X ((qC l1 es1 o.X).2.1) o.Sum ((qC l1 es1 o.X).1) acv acw es)⟩:l6) hs),Y,(by rw [hcp]),(Ai.cU 9 3)⟩
      refine jQ ?_;refine jN<|mv Y<|jP g1 1 uF zT s11 Y<|jP g1 5 AY zT s11 Y<|mv Y<|ev (iT (vs:=[(2,O 5),(3,O o.X),(4,O o.To),(5,O ((qC l1 es1 o.X).2.1))]) Y (by apply ru))<|gu rfl (zY (r:=r) ((((zT.sel s2).sel s1).sel s2).mV 3 8) (⟨0,0,5,o.X,o.To,(qC l1 es1 o.X).2.1⟩:eU) hm rfl) ?_
      rintro _ w20 ⟨auH,auI,auJ,auK,auL,auM,rfl,Fg⟩;refine jO<|o7 (uo Y ?_)
      have hcp:j6 (dx m s r Z I hs) o=(⟨(rJ m (⟨0,0,5,o.X,o.To,(qC l1 es1 o.X).2.1⟩:eU)),(Tt s),r,Z,I,kR (fO o.To (⟨gh,gs,BN,acs,acu,up,bB,(Ig l bB o.X ((qC l1 es1 o.X).2.1) o.Sum ((qC l1 es1 o.X).1)),(tkM l bB o.X ((qC l1 es1 o.X).2.1) o.Sum ((qC l1 es1 o.X).1) acv acw es)⟩:l6) hs)⟩:PC):=acr (F:=⟨gh1,gs1,gm1,Ah1,ch1,up1,rm1,l1,es1⟩) (T:=⟨gh,gs,BN,Ah,ch,up,bB,l,es⟩) _ hg1 aoE Ia (by simpa using apS) (by simpa using apT) (by simpa using apU) hg (by simpa using azj) (aQ aEr);rw [show(j6 (dx m s r Z I hs) o).m=(rJ m (⟨0,0,5,o.X,o.To,(qC l1 es1 o.X).2.1⟩:eU)) from by rw [hcp]];rw [show(j6 (dx m s r Z I hs) o).s=(Tt s) from by rw [hcp]];have gy:(s.bZ:V eP)=((Tt s).bZ):=by simp
      have gH:(s.bG:V bq)=((Tt s).bG):=by simp
      have kN:(s.bn:V aL)=((Tt s).bn):=by simp
      exact⟨auH,auI,auJ,auK,auL,auM,A5,c5,(fO o.To (⟨gh,gs,BN,acs,acu,up,bB,(Ig l bB o.X ((qC l1 es1 o.X).2.1) o.Sum ((qC l1 es1 o.X).1)),(tkM l bB o.X ((qC l1 es1 o.X).2.1) o.Sum ((qC l1 es1 o.X).1) acv acw es)⟩:l6) hs),Y,(by rw [hcp]),by rw [<- gy,<- gH,<- kN]; exact(Fg.cU 9 3)⟩
def apV(w:World)(x:aI){g_o:Nat}(o:aL)(h_o:Bx w g_o 121 [O o.Kind,O o.X,O o.E,gP o.Sum,O o.jm,O o.To,O o.iK]):bM prog 129 #[.agg #[O x.X,O x.E,gP x.Sum,.bool x.fZ,.bool x.Bad],fK g_o] w λv w'=>v=.bool (Z8 o x)/\Hp w S0 w' []:=by
 refine lg S0 func129 ntmps129 Y λH0=>rg<|bx Y Y H0 λg1 w1 K1=>fE Y<|rg<|jP g1 0 mI K1 U Y<|zA g_o 1 uF Y<|ev (dU jF Y (h_o.ext K1.ext) Y)<|pq 2 Y<|iJ 6 15 ((decide (x.X=o.X))&&(decide (x.E=o.E))) ?_ ?_
 ·cases hb9:decide (x.X=o.X) with
  | true=>
   refine wW g1 1 sJ K1 U Y<|gfy g_o 2 aij Y<|uf Y (dU jF Y (h_o.ext K1.ext) Y) Y<|pq 2 Y<|dK Y
  | false=>
   refine pq 6 Y<|dK Y
 refine fE Y<|iU Y ?_
 exact⟨by skip <;> rfl,(K1.rm U)⟩
def auR{F:V kF}{gh gs BN:Nat}{Ah:ah}{ch:Nat}{up:Bool}{bB:Int}{l:V aI}(H0:Hp b S w (XH iy A1 c1 A2 c2 A3 c3 A4 c4 A5 c5 A6 c6 A7 c7 m s r Z gm I hs F))(o:aL)(hm:lU m=true)(hb:s.bZ.length<=1000)(hl:s.bG.length<=64)(hd:s.bn.length<=50000)(hz:hSz hs)(hg:cZ o.To hs=some ⟨gh,gs,BN,Ah,ch,up,bB,l,es⟩):bM prog 66 #[fK iy,.agg #[O o.Kind,O o.X,O o.E,gP o.Sum,O o.jm,O o.To,O o.iK],fK gh] w λv w'=>∃(B1:ah)(d1:Nat)(B2:ah)(d2:Nat)(B3:ah)(d3:Nat)(B5:ah)(d5:Nat)(hs1:kg),v=.tuple #[]/\kR hs1=(mZ (dx m s r Z I hs) o).hs/\Hp b S w' (Io iy B1 d1 B2 d2 B3 d3 A4 c4 B5 d5 A6 c6 A7 c7 ((mZ (dx m s r Z I hs) o).m) ((mZ (dx m s r Z I hs) o).s) r Z gm I::dI bW B1 d1 (((mZ (dx m s r Z I hs) o).m).aM)::dI bD B2 d2 (((mZ (dx m s r Z I hs) o).m).J)::dI cB B3 d3 (((mZ (dx m s r Z I hs) o).m).aU)::dI iG A4 c4 (((mZ (dx m s r Z I hs) o).s).bZ)::dI dB B5 d5 (((mZ (dx m s r Z I hs) o).s).bG)::dI bA A6 c6 (((mZ (dx m s r Z I hs) o).s).bn)::aR bA 121 A7 c7 I::jD gm hs1::F):=by
 refine qN func66 ntmps66 Y<|rg<|bx Y Y H0 λg1 w1 K1=>dn<|aZ<|rg<|jP g1 0 auP K1 U Y<|pA 2 Y<|o8 Y (λN8=>?_) (λN8=>?_)
 ·refine gD Y<|ev (fA zH Y Y (K1.x U))<|mv Y<|gu Y (ail ((K1.sel U).mV 1 9) o hm hb hl hd hz hg) ?_
  rintro _ w2 ⟨apE,apF,apG,apH,apI,apJ,aO3,aO4,aII,rfl,aO5,K2⟩;refine dn<|Aw Y ?_
  have hcp:mZ (dx m s r Z I hs) o=j6 (dx m s r Z I hs) o:=by unfold mZ; rw [aS N8]
  rw [show(mZ (dx m s r Z I hs) o).m=(j6 (dx m s r Z I hs) o).m from by rw [hcp]];rw [show(mZ (dx m s r Z I hs) o).s=(j6 (dx m s r Z I hs) o).s from by rw [hcp]];exact⟨apE,apF,apG,apH,apI,apJ,aO3,aO4,aII,Y,(by rw [hcp]; exact aO5),(K2.rm s9)⟩
 refine jQ ?_;refine rg<|ev (rZ Y)<|pB 5 Y<|zA gh 0 zk Y<|ev (dU Wp Y (K1.FW s9 hg) Y) ?_
 have H1:=K1.xM s9 hg;refine gu Y (Qx ((H1.sel U).mV 1 4) (lG (hz _ _ hg).1 au)) ?_;rintro _ w3 ⟨rE,rF,rfl,K3⟩;have H2:=Z7 hg ((((K3.sel U).sel s6).mV 2 4).sel s6);refine mv Y<|mX H2 Y (FN _ (H2.o s1) (Hr:=[fK g1]) aEq (fun(x:aI)=>Z8 o x) (λw' x e hm=>(apV (S0:=Any) w' x o ((H2.x s2).ext e)).mono (by rintro _ _ ⟨rfl,gH⟩; exact⟨rfl,gH.ext⟩))) λw4 K4=>dn<|bS rfl (λhc21=>?_) (λhc21=>?_)
 ·refine Hf K4 (λ_ K=>(K.rm U)) (λl0 rk lJ wJ=>∃ jG jr,lJ=l0/\Hp b S wJ (jD gm (fO o.To (⟨gh,gs,BN,jG,jr,up,bB,(DC l o.X),(Qw l o.X es)⟩:l6) hs)::rk)) (λhns H3=>?_) ?_
  ·have k1:=(H3.rm U);refine qp 0 gh 0 zk Y k1<|mK 4 5 g1 1 uF s1 Y k1<|O1 3 Y<|ev (dU Wp Y (H3.FW U hg) Y)<|aO k1<|O1 6 Y ?_
   have H4:=H3.xM U hg;refine gu Y (ZW ((H4.sel U).mV 1 4) o.X (lG (hz _ _ hg).1 au)) ?_;rintro _ w5 ⟨aO6,aO7,rfl,K5⟩;have H5:=Kz hg ((K5.mV 0 4).sel s4);have k2:=(H5.rm U);refine aO k2<|Dn ⟨aO6,aO7,Y,H5⟩ Y
  rintro _ w6 ⟨jG,jr,rfl,K6⟩;refine o7 (uo Y ?_);have hcp:mZ (dx m s r Z I hs) o=_:=NA N8 (gF hg) (by rw [<- hc21]; rfl);rw [show(mZ (dx m s r Z I hs) o).m=m from by rw [hcp]];rw [show(mZ (dx m s r Z I hs) o).s=s from by rw [hcp]];exact⟨A1,c1,A2,c2,A3,c3,A5,c5,(fO o.To (⟨gh,gs,BN,jG,jr,up,bB,(DC l o.X),(Qw l o.X es)⟩:l6) hs),Y,(by rw [hcp,Br]; show fO o.To (l6.pl _) _=fO o.To _ _; unfold l6.pl; simp only; rw [auy]),(((K6.cU 1 2).sel U).mV 1 8)⟩
 refine yC (o7 (uo Y ?_));have hcp:mZ (dx m s r Z I hs) o=_:=Z9 N8 (gF hg) (by rw [<- hc21]; rfl);rw [show(mZ (dx m s r Z I hs) o).m=m from by rw [hcp]];rw [show(mZ (dx m s r Z I hs) o).s=s from by rw [hcp]];exact⟨A1,c1,A2,c2,A3,c3,A5,c5,hs,Y,(by rw [hcp]),(((K4.cU 1 2).sel U).mV 1 8)⟩
def qz:bU prog 32 0 0:=ay
def aak{F:V kF}{A:ah}{c:Nat}{xs:V aL}(H0:Hp b S w (aR bA 121 A c xs::F)){j:Nat}(hij:i<j)(hj:j<=xs.length):bM prog 64 #[.slice A xs.length c,O (i:Int),O (j:Int)] w λv w'=>v=.slice A (xs.take i++xs.drop j).length c/\Hp b S w' (aR bA 121 A c (xs.take i++xs.drop j)::F):=by
 refine qN func64 ntmps64 Y ?_;have qU:=xq;have qZ:=UM;have qE:=asT;have qI:=FC;exact mDE
def auS(h:it.A<0∨(c.I.length:Int)<=it.A):kM c it=(c,5):=by unfold kM; rw [aS h]
def akY(hi:it.A=((i:Nat):Int))(ho:c.I[i]? = some o)(h8:it.Kind=8):kM c it=({ c with I:=c.I++[o] },0):=by
 have hl:=aP ho;unfold kM; rw [aQ aj,hi,PU,ho]; simp only; rw [aS h8]
def auT(hi:it.A=((i:Nat):Int))(ho:c.I[i]? = some o)(h8:¬ it.Kind=8)(h6:it.Kind=6/\c.Z<=o.iK/\uP c.hs o.To=true):kM c it=(mZ { c with I:=c.I.take i++c.I.drop (i+1) } o,0):=by
 have hl:=aP ho;unfold kM; rw [aQ aj,hi,PU,ho]; simp only; rw [aQ h8,aS h6]
def ain(hi:it.A=((i:Nat):Int))(ho:c.I[i]? = some o)(h8:¬ it.Kind=8)(h6:¬ (it.Kind=6/\c.Z<=o.iK/\uP c.hs o.To=true)):kM c it=({ c with I:=c.I.take i++c.I.drop (i+1) },0):=by
 have hl:=aP ho;unfold kM; rw [aQ aj,hi,PU,ho]; simp only; rw [aQ h8,aQ h6]
def amS(c:PC)(o:aL):(mZ c o).I=c.I/\(mZ c o).Z=c.Z/\(mZ c o).r=c.r:=by
 unfold mZ
 split
 ·unfold j6
  split
  ·exact⟨rfl,rfl,rfl⟩
  ·split
   ·exact⟨rfl,rfl,rfl⟩
   ·split
    ·exact⟨rfl,rfl,rfl⟩
    ·split
     ·exact⟨rfl,rfl,rfl⟩
     ·split <;> exact⟨rfl,rfl,rfl⟩
 ·split
  ·exact⟨rfl,rfl,rfl⟩
  ·split <;> exact⟨rfl,rfl,rfl⟩
abbrev ED(gX:List aL)(iP:Nat):=gX.take iP++gX.drop (iP+1)
def Vi{F:V kF}(H0:Hp b S w (XH iy A1 c1 A2 c2 A3 c3 A4 c4 A5 c5 A6 c6 A7 c7 m s r Z gm I hs F))(it:AItem)(hm:lU m=true)(hb:s.bZ.length<=1000)(hl:s.bG.length<=64)(hd:s.bn.length<=50000)(hz:hSz hs)(hw:I.length<=500000):bM prog 24 #[fK iy,.agg #[O it.Kind,O it.A,O it.B,O it.C]] w λv w'=>∃(B1:ah)(d1:Nat)(B2:ah)(d2:Nat)(B3:ah)(d3:Nat)(B5:ah)(d5:Nat)(B7:ah)(d7:Nat)(hs1:kg),v=O ((kM (dx m s r Z I hs) it).2)/\kR hs1=(kM (dx m s r Z I hs) it).1.hs/\Hp b S w' (Io iy B1 d1 B2 d2 B3 d3 A4 c4 B5 d5 A6 c6 B7 d7 ((kM (dx m s r Z I hs) it).1.m) ((kM (dx m s r Z I hs) it).1.s) r Z gm ((kM (dx m s r Z I hs) it).1.I)::dI bW B1 d1 (((kM (dx m s r Z I hs) it).1.m).aM)::dI bD B2 d2 (((kM (dx m s r Z I hs) it).1.m).J)::dI cB B3 d3 (((kM (dx m s r Z I hs) it).1.m).aU)::dI iG A4 c4 (((kM (dx m s r Z I hs) it).1.s).bZ)::dI dB B5 d5 (((kM (dx m s r Z I hs) it).1.s).bG)::dI bA A6 c6 (((kM (dx m s r Z I hs) it).1.s).bn)::aR bA 121 B7 d7 ((kM (dx m s r Z I hs) it).1.I)::jD gm hs1::F):=by
 refine qN func24 ntmps24 Y<|rg<|bx Y Y H0 λg1 w1 K1=>fE Y<|aZ<|pW ak ak<|bf (fq nA Y Y) Y<|bf (dU jF Y (K1.x U) Y) Y<|bf (iH Y Y) Y<|bf (dP Y) Y<|rO 9 19 ((decide (it.A<0))||(decide (((I.length:Nat):Int)<=it.A))) ?_ ?_
 ·cases aGJ:decide (it.A<0) with
  | true=>
   refine dw Y Y Y<|dw Y Y Y<|dw Y Y Y<|dw Y Y Y<|dw Y Y Y<|dw Y Y Y<|dw Y Y Y<|dw Y Y Y<|bf (oP Y Y) Y<|jR Y
  | false=>
   refine dM Y (fq nA Y Y) Y<|dM Y (dU jF Y (K1.x U) Y) Y<|dM Y (dP Y) Y<|dM Y (nH Y) Y<|dM Y (fq Bt Y Y) Y<|dM Y (dU aAP Y (K1.x s1) Y) Y<|dM Y (jf xq Y) Y<|dM Y (Ev.geq Y Y) Y<|bf (oU Y Y) Y<|jR Y
 refine pX λw2 e2=>?_;have K2:=K1.grow e2;refine bS Y (λhc19=>?_) (λhc19=>?_)
 ·try simp only [aA] at hc19
  refine kX Y<|Aw Y ?_
  have hop:kM (dx m s r Z I hs) it=_:=auS (by show it.A<0∨(I.length:Int)<=it.A; omega);rw [show(kM (dx m s r Z I hs) it).1.m=m from by rw [hop]];rw [show(kM (dx m s r Z I hs) it).1.s=s from by rw [hop]];rw [show(kM (dx m s r Z I hs) it).1.I=I from by rw [hop]];rw [show(kM (dx m s r Z I hs) it).2=5 from by rw [hop]];exact⟨A1,c1,A2,c2,A3,c3,A5,c5,A7,c7,hs,Y,(by rw [hop]),(K2.rm U)⟩
 try simp only [aA] at hc19
 refine jQ ?_;obtain⟨i,hi⟩:∃ i:Nat,it.A=((i:Nat):Int):=⟨(it.A).toNat,aj⟩;have iq:=hi;have H1:=K2;rw [hi] at H1;obtain⟨x1,bT⟩:=bH (xs:=I) (i:=i) aj;refine He H1 (λ_ K=>K) (λl0 rk lJ wJ=>∃ qF,lJ=(5,fK qF)::l0/\Hp b S wJ (dJ qF 121 [O x1.Kind,O x1.X,O x1.E,gP x1.Sum,O x1.jm,O x1.To,O x1.iK]::rk)) (λhns H2=>?_) ?_
 ·refine qp 0 iy 14 Bt Y H2<|xS 3 s1 Y H2<|mK 4 5 g1 1 nA U Y H2<|kI 6 Y (λ_ hK=>d9 (i:=i) xq UM Y Y Y (aP bT) ((hK.o s8).some_ bT)) H2<|kI 7 Y (λ_ hK=>iR zH Y Y ((hK.o s8).fF bT)) H2<|O1 8 Y<|al Dw Y H2 λg2 w3 K3=>?_
  have k1:=(K3.rm U);refine aO k1<|O1 9 Y<|sty Y K3 U Y λw4 K4=>?_
  have k2:=(K4.rm U);refine aO k2<|Dn ⟨g2,Y,K4⟩ Y
 rintro _ w5 ⟨qF,rfl,K5⟩;refine aZ<|rg<|jP g1 0 qz K5 s1 Y<|pA 2 Y<|o8 Y (λaal=>?_) (λaal=>?_)
 ·refine He K5 (λ_ K=>((K.rm s9).rm s2)) (λl0 rk lJ wJ=>∃ jG jr,lJ=l0/\Hp b S wJ (Io iy A1 c1 A2 c2 A3 c3 A4 c4 A5 c5 A6 c6 jG jr m s r Z gm (I++([x1]:V aL))::aR bA 121 jG jr (I++([x1]:V aL))::rk)) (λhns H3=>?_) ?_
  ·have k3:=((H3.rm s9).rm s2);refine lF 0 Y Y k3<|qp 1 iy 14 Bt Y k3<|kI 5 Y (λ_ hK=>fA zH Y Y (hK.x U)) k3<|Jn H3 (λl0 rk lJ wJ=>∃ g3,lJ=(35,.slice A7 I.length c7)::(37,.slice (some ⟨g3,0,none⟩) (([x1]:V aL).length) 1)::l0/\Hp b S wJ (aR bA 121 (some ⟨g3,0,none⟩) 1 ([x1]:V aL)::rk)) 4 127 ?_ λhS1=>?_
   ·rintro _ PE ⟨g3,rfl,K10⟩;refine O1 7 Y<|ap (ys:=([x1]:V aL)) K10 s10 Y Y (K10.o U) xq FC aj av Y λWO cp2 VY vF=>?_
    have k8:=((vF.rm s4).cU 0 2);refine aO k8<|JG 8 iy 14 Bt Y k8<|O1 10 Y<|xD Y vF s4 Y λUy uR=>?_
    have k9:=(uR.cU 0 3);refine aO k9<|Dn ⟨WO,cp2,Y,(uR.rm s2)⟩ Y
   refine O2 4 6 Y Y ?_ ?_
   ·refine lY H3 s2 Y<|aO k3<|O1 6 Y<|yV (τ:=bA) (x:=x1) Y (by intro _; apply fC) rfl H3 (λ_ _=>rfl) λg5 YX xk=>?_
    have k10:=(((xk.rm s10).rm s3).rm U);exact Kj hS1 k10 ⟨g5,Y,xk⟩ Y
   ·refine yV (τ:=bA) (x:=x1) Y (by intro _; apply fC) rfl H3 (λ_ _=>rfl) λg6 w14 wF=>?_;have k11:=(((wF.rm s10).rm s3).rm U);refine aO k11<|O1 4 Y<|lY wF s3 Y<|Kj hS1 k11 ⟨g6,Y,wF⟩ Y
  rintro _ w15 ⟨jG,jr,rfl,zI⟩;refine kX Y<|Aw Y ?_
  have hop:kM (dx m s r Z I hs) it=_:=akY iq bT aal;rw [show(kM (dx m s r Z I hs) it).1.m=m from by rw [hop]];rw [show(kM (dx m s r Z I hs) it).1.s=s from by rw [hop]];rw [show(kM (dx m s r Z I hs) it).1.I=(I++([x1]:V aL)) from by rw [hop]];rw [show(kM (dx m s r Z I hs) it).2=0 from by rw [hop]];exact⟨A1,c1,A2,c2,A3,c3,A5,c5,jG,jr,hs,Y,(by rw [hop]),(((zI.cU 2 2).sel s1).mV 1 7)⟩
 refine jQ ?_;refine He K5 (λ_ K=>((K.rm s9).rm s2)) (λl0 rk lJ wJ=>∃ oV cj2,lJ=l0/\Hp b S wJ (Io iy A1 c1 A2 c2 A3 c3 A4 c4 A5 c5 A6 c6 oV cj2 m s r Z gm (ED I i)::aR bA 121 oV cj2 (ED I i)::aR bA 121 A7 c7 I::rk)) (λhns H4=>?_) ?_
 ·have k12:=((H4.rm s9).rm s2);refine lF 0 Y Y k12<|qp 1 iy 14 Bt Y k12<|mK 6 7 g1 1 nA s1 Y k12<|mK 8 9 g1 1 nA s1 Y k12<|kI 10 Y (λ_ _=>eG Y Y) k12<|O1 4 Y<|lY H4 s2 Y<|aO k12<|O1 5 Y<|gu Y (Db _ (H4.o s9) aj) ?_
  rintro _ w16 ⟨Y3,Y4,rfl,h16⟩;have BZ:=H4.f1 h16;have k13:=(((BZ.rm s10).rm s3).rm U);refine aO k13<|O1 11 Y<|gu Y (aak (i:=i) (j:=i+1) (BZ.sel U) aj aj) ?_
  rintro _ w17 ⟨rfl,zT⟩;have k14:=(((zT.rm s10).rm s3).rm U);refine aO k14<|JG 12 iy 14 Bt Y k14<|O1 14 Y<|xD Y zT s3 Y λw18 EL=>?_
  have k15:=((EL.rm s10).cU 0 2);refine aO k15<|Dn ⟨Y3,Y4,Y,((EL.mV 2 8).mV 8 3)⟩ Y
 rintro _ w19 ⟨oV,cj2,rfl,Ai⟩;refine aZ ?_
 rcases hg1:cZ x1.To hs with _ | ⟨gh1,gs1,gm1,Ah1,ch1,up1,rm1,l1,es1⟩
 ·refine pW ak ak<|bf (dP Y) Y<|bf (nH Y) Y<|bf (fq (q:=⟨iy,13,none⟩) vE Y Y) Y<|bf (dU Wq Y (Ai.x U) Y) Y<|bf (fq (q:=⟨qF,5,none⟩) AY Y Y) Y<|bf (dU jF Y (Ai.x s3) Y) Y<|bf (Ev.hN Ai s11 hg1 FV zM wI Y Y) Y<|bf (tF Y) Y<|pX λw20 e20=>?_
  have Fg:=Ai.grow e20;refine pW ak ak<|bf (fq (q:=⟨g1,0,none⟩) qz Y Y) Y<|bf (dU jF Y (Fg.x s4) Y) Y<|bf (wQ Y Y) Y<|bf (dP Y) Y<|rO 8 73 ((decide (it.Kind=6))&&(decide (Z<=x1.iK))) ?_ ?_
  ·cases aEs:decide (it.Kind=6) with
   | true=>
    have aIJ:=iY aEs;refine dM Y (dP Y) Y<|dM Y (nH Y) Y<|dM Y (fq (q:=⟨iy,12,none⟩) Df Y Y) Y<|dM Y (dU jF Y (Fg.x U) Y) Y<|dM Y (fq (q:=⟨qF,6,none⟩) Zp Y Y) Y<|dM Y (dU jF Y (Fg.x s3) Y) Y<|dM Y (Ev.leq Y Y) Y<|bf (oP Y Y) Y<|jR Y
   | false=>
    refine dw Y Y Y<|dw Y Y Y<|dw Y Y Y<|dw Y Y Y<|dw Y Y Y<|dw Y Y Y<|dw Y Y Y<|bf (oU Y Y) Y<|jR Y
  refine bf (dP Y) Y<|rO 3 77 false ?_ ?_
  ·cases aEt:((decide (it.Kind=6))&&(decide (Z<=x1.iK))) with
   | true=>
    have auU:=aEt
    try simp only [aA] at auU
    refine dM Y (dP Y) Y<|dM Y (Ev.pnn DV Y Y) Y<|bf (oP Y Y) Y<|D6 (t:=77) (u:=.bool false) (v:=.bool false) Y (aY Value.bool (by rfl))<|jR rfl
   | false=>
    refine dw Y Y Y<|dw Y Y Y<|bf (oU Y Y) Y<|D6 (t:=77) (u:=.bool false) (v:=.bool false) Y (aY Value.bool (by rfl))<|jR rfl
  refine bf (dP Y) Y<|dw Y Y Y<|dw Y Y Y<|dw Y Y Y<|dw Y Y Y<|bf (oU Y Y) Y<|pX λw21 e21=>?_
  have IJ:=Fg.grow e21;refine bS Y nofun (λ_h=>?_);refine jQ ?_;refine kX Y<|iU Y ?_
  have hop:kM (dx m s r Z I hs) it=_:=ain iq bT aal (by rintro⟨h1,h2,h3⟩; have h3':uP (kR hs) _=true:=h3; unfold uP at h3'; rw [jg,hg1] at h3'; cases h3');rw [show(kM (dx m s r Z I hs) it).1.m=m from by rw [hop]];rw [show(kM (dx m s r Z I hs) it).1.s=s from by rw [hop]];rw [show(kM (dx m s r Z I hs) it).1.I=(ED I i) from by rw [hop]];rw [show(kM (dx m s r Z I hs) it).2=0 from by rw [hop]];exact⟨A1,c1,A2,c2,A3,c3,A5,c5,oV,cj2,hs,Y,(by rw [hop]),(((IJ.cU 2 3).sel s1).mV 1 7)⟩
 ·skip
  refine pW ak ak<|bf (dP Y) Y<|bf (nH Y) Y<|bf (fq vE Y Y) Y<|bf (dU Wq Y (Ai.x U) Y) Y<|bf (fq AY Y Y) Y<|bf (dU jF Y (Ai.x s3) Y) Y<|bf (Ev.hS Ai s11 hg1 FV zM wI Y Y) Y<|bf (tF Y) Y<|pX λw22 e22=>?_
  have Hy:=Ai.grow e22;refine pW ak ak<|bf (fq qz Y Y) Y<|bf (dU jF Y (Hy.x s4) Y) Y<|bf (wQ Y Y) Y<|bf (dP Y) Y<|rO 8 73 ((decide (it.Kind=6))&&(decide (Z<=x1.iK))) ?_ ?_
  ·cases aEs:decide (it.Kind=6) with
   | true=>
    have aIJ:=iY aEs;refine dM Y (dP Y) Y<|dM Y (nH Y) Y<|dM Y (fq Df Y Y) Y<|dM Y (dU jF Y (Hy.x U) Y) Y<|dM Y (fq Zp Y Y) Y<|dM Y (dU jF Y (Hy.x s3) Y) Y<|dM Y (Ev.leq Y Y) Y<|bf (oP Y Y) Y<|jR Y
   | false=>
    refine dw Y Y Y<|dw Y Y Y<|dw Y Y Y<|dw Y Y Y<|dw Y Y Y<|dw Y Y Y<|dw Y Y Y<|bf (oU Y Y) Y<|jR Y
  refine bf (dP Y) Y<|rO 3 77 (((decide (it.Kind=6))&&(decide (Z<=x1.iK)))&&true) ?_ ?_
  ·cases aEt:((decide (it.Kind=6))&&(decide (Z<=x1.iK))) with
   | true=>
    have auU:=aEt
    try simp only [aA] at auU
    refine dM Y (dP Y) Y<|dM Y (Ev.pnn DV Y Y) Y<|bf (oP Y Y) Y<|jR Y
   | false=>
    refine dw Y Y Y<|dw Y Y Y<|bf (oU Y Y) Y<|jR Y
  refine bf (dP Y) Y<|rO 5 83 ((((decide (it.Kind=6))&&(decide (Z<=x1.iK)))&&true)&&up1) ?_ ?_
  ·cases aO8:(((decide (it.Kind=6))&&(decide (Z<=x1.iK)))&&true) with
   | true=>
    have aIK:=aO8
    try simp only [bK,eD,bN,bV,aew,false_or,qM,true_and,uw] at aIK
    refine dM Y (dP Y) Y<|dM Y (nH Y) Y<|dM Y (fq KD Y Y) Y<|dM Y (dU akD Y (Hy.FW s11 hg1) Y) Y<|bf (oP Y Y) Y<|jR Y
   | false=>
    refine dw Y Y Y<|dw Y Y Y<|dw Y Y Y<|dw Y Y Y<|bf (oU Y Y) Y<|jR Y
  refine pX λw23 e23=>?_;have Le:=Hy.grow e23;refine bS Y (λapW=>?_) (λapW=>?_)
  ·have aEu:(it.Kind=6/\Z<=x1.iK)/\up1=true:=by simpa using apW
   refine jN<|mv Y<|ev (fA zH Y Y (Le.x s3))<|mv Y<|gu Y (auR ((((Le.mV 2 3).sel s11).sel s5).mV 5 7) x1 hm hb hl hd hz aj) ?_
   rintro _ w24 ⟨aIL,aIM,aIN,aIO,aIP,aIQ,aIR,aIS,aEv,rfl,aIT,pz⟩;refine jO<|fV<|kX Y<|iU Y ?_
   have hop:kM (dx m s r Z I hs) it=(mZ (⟨m,s,r,Z,(ED I i),kR hs⟩:PC) x1,0):=auT iq bT aal ⟨aEu.1.1,aEu.1.2,by show uP (kR hs) _=true; unfold uP; rw [jg,hg1]; exact aEu.2⟩;have hdn:=amS (⟨m,s,r,Z,(ED I i),kR hs⟩:PC) x1;rw [show(kM (dx m s r Z I hs) it).1.m=(mZ (⟨m,s,r,Z,(ED I i),kR hs⟩:PC) x1).m from by rw [hop]];rw [show(kM (dx m s r Z I hs) it).1.s=(mZ (⟨m,s,r,Z,(ED I i),kR hs⟩:PC) x1).s from by rw [hop]];rw [show(kM (dx m s r Z I hs) it).1.I=(ED I i) from by rw [hop]; exact hdn.1];rw [show(kM (dx m s r Z I hs) it).2=0 from by rw [hop]];exact⟨aIL,aIM,aIN,aIO,aIP,aIQ,aIR,aIS,oV,cj2,aEv,Y,(by rw [hop]; exact aIT),(pz.cU 9 3)⟩
  refine jQ ?_;refine kX Y<|iU Y ?_
  have hop:kM (dx m s r Z I hs) it=_:=ain iq bT aal (by rintro⟨h1,h2,h3⟩; have h3':uP (kR hs) _=true:=h3; unfold uP at h3'; rw [jg,hg1] at h3'; have h4:up1=true:=h3'; simp [h1,h2,h4] at apW);rw [show(kM (dx m s r Z I hs) it).1.m=m from by rw [hop]];rw [show(kM (dx m s r Z I hs) it).1.s=s from by rw [hop]];rw [show(kM (dx m s r Z I hs) it).1.I=(ED I i) from by rw [hop]];rw [show(kM (dx m s r Z I hs) it).2=0 from by rw [hop]];exact⟨A1,c1,A2,c2,A3,c3,A5,c5,oV,cj2,hs,Y,(by rw [hop]),(((Le.cU 2 3).sel s1).mV 1 7)⟩
def DX:(prog.underlying 3).isSome=true/\prog.underlying 5=some (.int (prog.intKind 5))/\prog.intKind 5=.u8:=⟨ak,ak,ak⟩
def KF(a0:Int)(a1:Int)(a2:Int)(a3:Int):∀ w,(Instr.buildSlice 42 4 (List.toArray [(0,.int .u8 a0),(1,.int .u8 a1),(2,.int .u8 a2),(3,.int .u8 a3)])).run prog w=.ok (.slice (some ⟨w.heap.size,0,none⟩) 4 4) (w.alloc (.cells (List.toArray [.int .u8 a0,.int .u8 a1,.int .u8 a2,.int .u8 a3]) 5)):=ay
def auV:kW prog 26:=ay
def amT(z:Int):IntKind.u8.wrap z=(((BitVec.ofInt 8 z).toNat:Nat):Int):=by
 rw [BitVec.toNat_ofInt];show z % 256=_;have:0<=z % ((2 ^ 8:Nat):Int):=Int.emod_nonneg _ au;rw [Int.toNat_of_nonneg this]; rfl
def azk{l:V aT}{aX:V fJ}{hs:V Int}{t:aT}(h:vB l D aX hs l=some t):t∈l:=by
 suffices g:∀(aYc:V aT)(b:Option aT),(∀ x,b=some x->x∈l)->(∀ x∈aYc,x∈l)->∀ x,aYc.foldl (tgF l D aX hs) b=some x->x∈l from g l none (λx h=>by cases h) (λx h=>h) t h
 intro aYc
 induction aYc with
 | nil=>intro b hb _ x hx; exact hb x hx
 | cons n aYc ih=>
  intro b hb hM x hx;refine ih _ ?_ (λy hy=>hM y (by simp [hy])) x hx;intro y hy;unfold tgF at hy
  split at hy
  ·split at hy
   ·cases hy; exact hM _ av
   ·split at hy
    ·cases hy; exact hM _ av
    ·cases hy; exact hb _ rfl
  ·exact hb y hy
def aio{l:V aT}:∀(n:Nat)(aX:V fJ)(hs:V Int),∀ z∈tL l D n aX hs,∃ x∈l,x.ID=z
 | 0,_,_,z,h=>by simp [tL] at h
 | n+1,aX,hs,z,h=>by
  unfold tL at h
  cases ht:vB l D aX hs l with
  | none=>rw [ht] at h; simp at h
  | some t=>
   rw [ht] at h
   rcases gW.1 h with rfl | h
   ·exact⟨t,azk ht,rfl⟩
   ·exact aio n _ _ z h
def acy{c v sum:Int}{data:V (BitVec 8)}{q:jc × V Int}{z:Int}{h:kV}(hg:cZ z q.1=some h):sM c v sum data q z=(fO z ⟨h.up,h.bB,Ig h.l h.bB c v sum data,tkD h.l h.bB c v sum data h.d⟩ q.1,if SS h.l h.bB c v sum data=true then q.2++[z] else q.2):=by unfold sM; rw [hg]
def aam{hs:jc}{x:aH}{z:Int}{k:Nat}{n:Int}{H:V Int}(h:H[k]? = some n):BR hs x z (H.drop k)=match cZ n hs with
  | none=>BR hs x z (H.drop (k+1))
  | some h=>if h.up=true/\(rT h.l h.d z).2.2=0/\(rT h.l h.d z).2.1=x.E/\((gI (rT h.l h.d z).1).toNat:Int)=x.Sum then((rT h.l h.d z).1,0) else BR hs x z (H.drop (k+1)):=by
 obtain⟨hk,he⟩:=rG.1 h;rw [CF hk,he]; rfl
abbrev OH(gX:Int):=BitVec.ofInt 8 (gX / 2 ^ 8)
abbrev OI(gX:Int):=BitVec.ofInt 8 gX
def auW(w:World)(aN:Int)(number:Int):bM prog 67 #[O aN,O number] w λv w'=>∃ A0 c0,v=.slice A0 ((nD aN number).length) c0/\Hp w S0 w' [aR fP 5 A0 c0 (nD aN number)]:=by
 refine lg S0 func67 ntmps67 Y λH0=>pC 5 Y<|ev (Pz DX.1 DX.2.1 DX.2.2 Y)<|gZ (t:=6) Y (aY (Value.int .u8) (amT aN))<|mv Y<|ev (Ev.aH4 (c:=8) Y Y aj)<|ev (Pz DX.1 DX.2.1 DX.2.2 Y)<|gZ (t:=9) Y (aY (Value.int .u8) (amT (aN / 2 ^ 8)))<|mv Y<|ev (Pz DX.1 DX.2.1 DX.2.2 Y)<|gZ (t:=11) Y (aY (Value.int .u8) (amT number))<|mv Y<|ev (Ev.aH4 (c:=8) Y Y aj)<|ev (Pz DX.1 DX.2.1 DX.2.2 Y)<|gZ (t:=14) Y (aY (Value.int .u8) (amT (number / 2 ^ 8)))<|bsn (τ:=fP) (xs:=([(OI aN),(OH aN),(OI number),(OH number)]:V (BitVec 8))) (css:=[[.int .u8 (((OI aN)).toNat:Int)],[.int .u8 (((OH aN)).toNat:Int)],[.int .u8 (((OI number)).toNat:Int)],[.int .u8 (((OH number)).toNat:Int)]]) Y (by intro _; apply KF) rfl rfl H0 (λ_ e=>⟨rfl,rfl,rfl,rfl,trivial⟩) λg1 w1 K1=>fE rfl<|iU rfl ?_
 have gy:(([(OI aN),(OH aN),(OI number),(OH number)]:V (BitVec 8)):V (BitVec 8))=(nD aN number):=by rfl
 rw [gy] at K1;exact⟨(some ⟨g1,0,none⟩),4,by rw [gy] <;> rfl,K1⟩
def azl(w:World){b0:World}{F0:V kF}(hH:Hp b0 S1 w (XH iy A1 c1 A2 c2 A3 c3 A4 c4 A5 c5 A6 c6 A7 c7 m s r Z gm I hs F0))(bF:Int):bM prog 17 #[fK iy,O bF] w λv w'=>v=.bool (uP (kR hs) bF)/\Hp w S0 w' []:=by
 refine lg S0 func17 ntmps17 Y λH0=>kX Y ?_
 rcases hg1:cZ bF hs with _ | ⟨gh1,gs1,gm1,Ah1,ch1,up1,rm1,l1,es1⟩
 ·refine pC 3 Y<|zA iy 13 vE Y<|ev (dU Wq Y ((hH.x U).ext H0.ext) Y)<|mv Y<|ev (Ev.hN (hH.grow H0.ext) s8 hg1 FV zM wI Y Y)<|pB 4 Y<|ev (Ev.pnn DV Y Y)<|pA 8 Y<|iU Y ?_
  have gy:(false:Bool)=(uP (kR hs) bF):=by unfold uP; rw [jg,hg1]; rfl
  exact⟨by rw [<- gy] <;> rfl,H0⟩
 ·refine pC 3 Y<|zA iy 13 vE Y<|ev (dU Wq Y ((hH.x U).ext H0.ext) Y)<|mv Y<|ev (Ev.hS (hH.grow H0.ext) s8 hg1 FV zM wI Y Y)<|pB 4 Y<|ev (Ev.pnn DV Y Y)<|pq 3 Y<|gfy gh1 1 KD Y<|uf Y (dU akD Y ((hH.grow H0.ext).FW s8 hg1) Y) Y<|pA 3 Y<|iU Y ?_
  have gH:(up1:Bool)=(uP (kR hs) bF):=by unfold uP; rw [jg,hg1]; rfl
  exact⟨by rw [<- gH] <;> rfl,H0⟩
def akZ(w:World)(id:Int){b0:World}{F0:V kF}{g2:Nat}(hH:Hp b0 S1 w (dJ g2 26 [fK iy]::Io iy A1 c1 A2 c2 A3 c3 A4 c4 A5 c5 A6 c6 A7 c7 m s r Z gm I::dI bW A1 c1 m.aM::dI bD A2 c2 m.J::dI cB A3 c3 m.aU::dI iG A4 c4 s.bZ::dI dB A5 c5 s.bG::dI bA A6 c6 s.bn::aR bA 121 A7 c7 I::jD gm hs::F0)):bM prog 69 #[O id,fK g2] w λv w'=>v=.bool (!uP (kR hs) id)/\Hp w S0 w' []:=by
 refine lg S0 func69 ntmps69 Y λH0=>kX Y<|rg<|ev (dU auV Y ((hH.x U).ext H0.ext) Y)<|mv Y<|mX H0 Y (azl (S0:=Any) _ ((hH.grow H0.ext).rm U) id) λw1 K1=>pA 3 Y<|iU Y ?_
 exact⟨by skip <;> rfl,K1⟩
end
section
variable {κ ν:Type}{m:bY}{it:AItem}{aYa:eU}{q:jc × List Int}{s:fQ}{r:ARules}{Z:Int}{I:List aL}{hs:jc}{es:List (κ × ν)}
def ae5:(prog.underlying 45).isSome=true/\prog.underlying 3=some (.int (prog.intKind 3))/\prog.intKind 3=.i64:=⟨ak,ak,ak⟩
def aIU:bC prog 69:=ay
def auX{cs:V aH}{ns:V aT}(h:tN ns=true):(oq cs ns).length<=1000:=by
 unfold oq; rw [aS h,jW]; have:=yO h; omega
def azm{cs:V aH}{ns:V aT}(h:ku cs=true):∀ x∈oq cs ns,0<=x.N/\x.N<=1000000:=by
 intro x hx; unfold oq at hx; split at hx
 ·obtain⟨n,_,rfl⟩:=eX.1 hx
  have h1:=Rk cs n.ID; have h2:=(kK.1 h).2.1;show 0<=((pJ cs n.ID:Nat):Int)/\((pJ cs n.ID:Nat):Int)<=1000000; omega
 ·exact absurd hx av
def acz[DecidableEq κ](k:κ)(v:ν)(es:V (κ × ν)):cZ k (fO k v es)=some v:=by
 unfold fO
 split
 ·rename_i h
  unfold cZ at h ⊢
  have:(es.map λp=>if p.1=k then(k,v) else p).find? (λp=>decide (p.1=k))=some (k,v):=by
   induction es with
   | nil=>simp at h
   | cons p es ih=>
    rw [mg]
    by_cases hp:p.1=k
    ·rw [aS hp,UL av]
    ·rw [aQ hp,Az (by simpa using hp)]
     refine ih ?_
     rwa [Az (by simpa using hp)] at h
  rw [this]; rfl
 ·rename_i h
  unfold cZ at h ⊢;rw [MS]
  cases hf:es.find? (λp=>decide (p.1=k)) with
  | none=>simp
  | some q=>rw [hf] at h; exact absurd rfl h
def amU[DecidableEq κ]{k:κ}{v:ν}{Q:ν->Prop}(h:∀ z x,cZ z es=some x->Q x)(hv:Q v):∀ z x,cZ z (fO k v es)=some x->Q x:=λz x hx=>by
 by_cases e:z=k
 ·subst e; rw [acz] at hx; cases hx; exact hv
 ·rw [GX e] at hx; exact h z x hx
def aip[DecidableEq κ]{k z:κ}{v:ν}(h:(cZ z es).isSome=true):(cZ z (fO k v es)).isSome=true:=by
 by_cases e:z=k
 ·subst e; rw [acz]; rfl
 ·rw [GX e]; exact h
def auY(l:V aI)(c v:Int):(Vg l c v).length<=l.length:=by
 unfold Vg
 split
 ·rename_i h
  unfold mR at h ⊢
  split
  ·simp
  ·rename_i ho
   rw [aQ ho] at h;obtain⟨y,h1,h2,_,_⟩:=ahK (by simpa using ho);have hl:=aP h2;refine lG (ahL _ _) ?_;have:=xL l
   simp only [jH,iX,uj]; omega
 ·exact j4 _
def amV(l:V aI)(bB c v sum:Int)(data:V (BitVec 8)):(Ig l bB c v sum data).length<=l.length+1:=by
 have h:=aic l bB c v sum data;unfold Ig; split
 ·exact lG (auY _ _ _) h
 ·exact h
def aiq(hm:lU m=true){x:eU}(hx:x.Client=0)(hk:x.Kind=3∨x.Kind=4):(dS m x).1.aM=m.aM:=by
 rw [amN hm hx];show(yN m x).1=_
 rcases hk with h | h
 ·rw [ace h]
 ·rw [acf h]
def apX{l:V Int}{f:Int->eU}{k:Nat}{z:Int}(h:l[k]? = some z):CW m ((l.take (k+1)).map f)=rJ (CW m ((l.take k).map f)) (f z):=by
 unfold CW; rw [eO h,sU,AP]; rfl
def azn{c:PC}(hX:qy c.m it=aYa)(h:(dS c.m aYa).2<0):rz c it=(c,-(dS c.m aYa).2):=by
 unfold rz; rw [hX,aS h]
def auZ{c:PC}(hX:qy c.m it=aYa)(h:¬ (dS c.m aYa).2<0)(hq:q=(S9 c (dS c.m aYa).1).foldl (sM it.A (dS c.m aYa).2 (FX it.A it.B) (nD it.A it.B)) (c.hs,[]))(h0:q.2=[]):rz c it=({ c with hs:=q.1 },7):=by
 have:FY c it=q:=by unfold FY; rw [hX,hq]
 unfold rz; rw [this,hX,aQ h,aS h0]
def au6{c:PC}(hX:qy c.m it=aYa)(h:¬ (dS c.m aYa).2<0)(hq:q=(S9 c (dS c.m aYa).1).foldl (sM it.A (dS c.m aYa).2 (FX it.A it.B) (nD it.A it.B)) (c.hs,[]))(h0:¬ q.2=[]):rz c it=({ c with m:=CW (dS c.m aYa).1 (q.2.map λz=>vR it.A z (dS c.m aYa).2),hs:=q.1 },0):=by
 have:FY c it=q:=by unfold FY; rw [hX,hq]
 unfold rz; rw [this,hX,aQ h,aQ h0]
def au7{m1:bY}{e1:Int}(hX:qy m it=aYa)(h1:(dS m aYa).1=m1)(h2:(dS m aYa).2=e1)(h:e1<0):rz ⟨m,s,r,Z,I,hs⟩ it=(⟨m,s,r,Z,I,hs⟩,-e1):=by subst h2; exact azn hX h
def apY{q:jc}{tg td:V Int}{m1:bY}{e1:Int}(hX:qy m it=aYa)(h1:(dS m aYa).1=m1)(h2:(dS m aYa).2=e1)(h:¬ e1<0)(htg:S9 ⟨m,s,r,Z,I,hs⟩ m1=tg)
  (hf:(q,td)=tg.foldl (sM it.A e1 (FX it.A it.B) (nD it.A it.B)) (hs,[])) (h0:td=[]):rz ⟨m,s,r,Z,I,hs⟩ it=(⟨m,s,r,Z,I,q⟩,7):=by subst h1 h2; exact auZ (q:=(q,td)) hX h (by subst htg; exact hf) h0
def apZ{q:jc}{tg td:V Int}{m1:bY}{e1:Int}(hX:qy m it=aYa)(h1:(dS m aYa).1=m1)(h2:(dS m aYa).2=e1)(h:¬ e1<0)(htg:S9 ⟨m,s,r,Z,I,hs⟩ m1=tg)
  (hf:(q,td)=tg.foldl (sM it.A e1 (FX it.A it.B) (nD it.A it.B)) (hs,[])) (h0:¬ td=[]):rz ⟨m,s,r,Z,I,hs⟩ it=(⟨CW m1 (td.map fun(z:Int)=>vR it.A z e1),s,r,Z,I,q⟩,0):=by subst h1 h2; exact au6 (q:=(q,td)) hX h (by subst htg; exact hf) h0
def ap0{b w:World}{S:Nat->Prop}{F:V kF}{iy:Nat}{A1 A2 A3 A4 A5 A6 A7:ah}{c1 c2 c3 c4 c5 c6 c7 gm:Nat}{hs:kg}(H0:Hp b S w (Io iy A1 c1 A2 c2 A3 c3 A4 c4 A5 c5 A6 c6 A7 c7 m s r Z gm I::dI bW A1 c1 m.aM::dI bD A2 c2 m.J::dI cB A3 c3 m.aU::dI iG A4 c4 s.bZ::dI dB A5 c5 s.bG::dI bA A6 c6 s.bn::aR bA 121 A7 c7 I::jD gm hs::F))(it:AItem)(hm:lU m=true)(hu:0<=Z/\Z<=549755813888)(hb:s.bZ.length<=1000)(hr:l5 r=true)(hz:∀ z h,cZ z hs=some h->h.l.length<=900)(hN:∀ n∈m.aM,(cZ n.ID hs).isSome=true):bM prog 25 #[fK iy,.agg #[O it.Kind,O it.A,O it.B,O it.C]] w λv w'=>∃(B1:ah)(d1:Nat)(B2:ah)(d2:Nat)(B3:ah)(d3:Nat)(hs1:kg),v=O ((rz (⟨m,s,r,Z,I,kR hs⟩:PC) it).2)/\kR hs1=(rz (⟨m,s,r,Z,I,kR hs⟩:PC) it).1.hs/\Hp b S w' (Io iy B1 d1 B2 d2 B3 d3 A4 c4 A5 c5 A6 c6 A7 c7 ((rz (⟨m,s,r,Z,I,kR hs⟩:PC) it).1.m) s r Z gm I::dI bW B1 d1 (((rz (⟨m,s,r,Z,I,kR hs⟩:PC) it).1.m).aM)::dI bD B2 d2 (((rz (⟨m,s,r,Z,I,kR hs⟩:PC) it).1.m).J)::dI cB B3 d3 (((rz (⟨m,s,r,Z,I,kR hs⟩:PC) it).1.m).aU)::dI iG A4 c4 s.bZ::dI dB A5 c5 s.bG::dI bA A6 c6 s.bn::aR bA 121 A7 c7 I::jD gm hs1::F):=by
 refine qN func25 ntmps25 Y ?_;have hbd:=og hr;have hzs:=GU hm;have hdl:((Lj s.bZ Z r.lD).map eP.Node).length<=1000:=by rw [jW]; unfold Lj; exact lG (mW _ _) (lG (IQ _) hb)
 refine rg<|bx Y Y H0 λg1 w1 K1=>bx Y Y K1 λg2 w2 K2=>fE Y<|rg<|jP g2 1 nA K2 U Y<|jP g2 2 XB K2 U Y<|gu Y (auW (S0:=Any) _ it.A it.B) ?_
 rintro _ w3 ⟨rE,rF,rfl,h3⟩;have K3:=K2.f1 h3;have arD:=(K3.o U).bI;refine pB 4 Y<|mX K3 Y (Qv _ (K3.o U)) λw4 K4=>fE Y<|rg<|jP g2 1 nA K4 s1 Y<|mv Y<|ev (PX (m:=(gI (nD it.A it.B)).toNat) ae5.1 ae5.2.1 ae5.2.2 Y (Ei (by have:=(gI (nD it.A it.B)).isLt; omega)))<|ev (iT (vs:=[(2,O 3),(3,O it.A),(4,O (((gI (nD it.A it.B)).toNat:Nat):Int))]) (cs:=[O 0,O 0,O 3,O it.A,O (((gI (nD it.A it.B)).toNat:Nat):Int),O 0]) rfl (by apply y7))<|al ND rfl K4 λg3 w5 K5=>sty rfl K5 U rfl λw6 K6=>dn<|aZ<|He K6 (λ_ K=>K) (λl0 rk lJ wJ=>∃ qF jG jr,lJ=(9,.bool (gQ m.J it.A))::l0/\Hp b S wJ (dJ qF 48 [O ((aV m.J it.A).ID),O ((aV m.J it.A).E),gP ((aV m.J it.A).Sum),.slice jG (((aV m.J it.A).aD).length) jr]::dI dN jG jr ((aV m.J it.A).aD)::rk)) (λhns H1=>?_) ?_
 ·refine xS 0 s3 Y H1<|JG 1 iy 0 Bv Y H1<|mK 3 4 iy 1 jC s4 Y H1<|mK 5 6 g2 1 nA s2 Y H1<|Jn H1 (λl0 rk lJ wJ=>∃ g4 ae6 ae7,lJ=(41,.bool (gQ m.J it.A))::l0/\Hp b S wJ (dJ g4 48 [O ((aV m.J it.A).ID),O ((aV m.J it.A).E),gP ((aV m.J it.A).Sum),.slice ae6 (((aV m.J it.A).aD).length) ae7]::dI dN ae6 ae7 ((aV m.J it.A).aD)::rk)) 1 8191 ?_ λhS1=>?_
  ·rintro _ YX ⟨g4,ae6,ae7,rfl,xk⟩;have k6:=(xk.cU 0 2);refine xC 13 Y Y k6<|Dn ⟨g4,ae6,ae7,Y,xk⟩ Y
  refine O2 7 11 Y Y ?_ ?_
  ·refine gu Y (find_ok _ (H1.s s6) it.A hzs.2.1 hzs.2.2.1) ?_;rintro _ w14 ⟨ae8,ae9,rfl,h14⟩;have wF:=H1.c1 h14;have aO9:=(wF.s U).bI;have k7:=(wF.rm U);refine aO k7<|lF 8 Y Y k7<|yj 9 Y (vs:=[.agg #[O ((aV m.J it.A).ID),O ((aV m.J it.A).E),gP ((aV m.J it.A).Sum),.slice ae8 (((aV m.J it.A).aD).length) ae9],.bool (gQ m.J it.A)]) Y Y k7<|yj 10 Y (vs:=[.agg #[O ((aV m.J it.A).ID),O ((aV m.J it.A).E),gP ((aV m.J it.A).Sum),.slice ae8 (((aV m.J it.A).aD).length) ae9],.bool (gQ m.J it.A)]) Y Y k7<|O1 11 Y<|al lX Y wF λg6 w15 zI=>?_
   have k8:=(zI.cU 0 2);refine aO k8<|O1 12 Y<|sty Y zI U Y λw16 BZ=>?_
   have k9:=(BZ.cU 0 2);exact Kj hS1 k9 ⟨g6,ae8,ae9,Y,BZ⟩ Y
  ·refine al lX Y H1 λg7 w17 zT=>?_;have k10:=(zT.rm U);refine aO k10<|O1 7 Y<|gu Y (find_ok _ (zT.s s7) it.A hzs.2.1 hzs.2.2.1) ?_
   rintro _ w18 ⟨azp,azq,rfl,h18⟩;have EL:=zT.c1 h18;have aPa:=(EL.s U).bI;have k11:=(EL.cU 0 2);refine aO k11<|lF 8 Y Y k11<|yj 9 Y Y Y k11<|yj 10 Y Y Y k11<|O1 12 Y<|sty Y EL s1 Y λw19 Ai=>?_
   have k12:=(Ai.cU 0 2);exact Kj hS1 k12 ⟨g7,azp,azq,Y,Ai⟩ Y
 rintro _ w20 ⟨qF,jG,jr,rfl,Fg⟩;refine gD Y<|dn<|cjz Fg (λ_ K=>K.rm s2) (λl0 rk lJ wJ=>lJ=l0/\∃(x:eU),x.Client=0/\(x.Kind=3∨x.Kind=4)/\qy m it=x/\Hp b S wJ (dJ g3 118 [O x.Client,O x.Seq,O x.Kind,O x.A,O x.B,O x.C]::rk)) ?_ λtl=>bS Y (λU5=>?_) (λU5=>?_)
 ·rintro _ _ ⟨rfl,x,hx0,hxk,hX,IJ⟩;obtain⟨m1,h1⟩:∃ y,(dS m x).1=y:=⟨_,rfl⟩;obtain⟨e1,h2⟩:∃ y,(dS m x).2=y:=⟨_,rfl⟩;have hnd:m1.aM=m.aM:=h1▸aiq hm hx0 hxk;have hm2:lU m1=true:=h1▸FJ hm _;obtain⟨al9,hal⟩:∃ y,(((Lj s.bZ Z r.lD).map eP.Node).filter fun(x:Int)=>!(!uP (kR hs) x))=y:=⟨_,rfl⟩;obtain⟨tg,htg⟩:∃ y,tL m1.aM al9 r.je.toNat (oq m.J m1.aM) []=y:=⟨_,rfl⟩;refine He IJ (λ_ K=>K) (λl0 rk lJ wJ=>∃ gj2 oV cj2 wH vG BL BM,lJ=(10,fK gj2)::(11,O e1)::l0/\Hp b S wJ (dJ gj2 37 [.slice oV (m1.aM.length) cj2,.slice wH (m1.J.length) vG,.slice BL (m1.aU.length) BM]::dI bW oV cj2 m1.aM::dI bD wH vG m1.J::dI cB BL BM m1.aU::rk)) (λhns H2=>?_) ?_
  ·refine xS 0 s5 Y H2<|JG 1 iy 0 Bv Y H2<|kI 3 Y (λ_ hK=>wD (cs':=[.slice A1 m.aM.length c1,.slice A2 m.J.length c2,.slice A3 m.aU.length c3]) xW Y Y (hK.x s6) Y) H2<|kI 4 Y (λ_ hK=>fA Bg Y Y (hK.x U)) H2<|Jn H2 (λl0 rk lJ wJ=>∃ g8 Oj Ol XI XJ XK XL,lJ=(10,fK g8)::(52,O e1)::l0/\Hp b S wJ (dJ g8 37 [.slice Oj (m1.aM.length) Ol,.slice XI (m1.J.length) XJ,.slice XK (m1.aU.length) XL]::dI bW Oj Ol m1.aM::dI bD XI XJ m1.J::dI cB XK XL m1.aU::rk)) 1 2047 ?_ λhS2=>?_
   ·rintro _ w28 ⟨g8,Oj,Ol,XI,XJ,XK,XL,rfl,Fh⟩;have k18:=(Fh.cU 0 4);refine xC 11 Y Y k18<|Dn ⟨g8,Oj,Ol,XI,XJ,XK,XL,Y,Fh⟩ Y
   refine O2 5 9 Y Y ?_ ?_
   ·refine gu Y (by have h:=Sv _ m (H2.s s7) (H2.s s8) (H2.s s9) x hzs hx0; rwa [h1,h2] at h) ?_;rintro _ w29 ⟨OJ,OL,OM,OO,OP,OQ,rfl,h29⟩;have Fp:=H2.c3 h29;have au8:=(Fp.s U).bI;have aEw:=(Fp.s s1).bI;have aEx:=(Fp.s s2).bI;have k19:=(Fp.cU 0 3);refine aO k19<|lF 6 Y Y k19<|kI 7 Y (λ_ _=>yE Y Y) k19<|kI 8 Y (λ_ _=>yE (vs:=[.agg #[.slice OJ (m1.aM.length) OL,.slice OM (m1.J.length) OO,.slice OP (m1.aU.length) OQ],O e1]) Y Y) k19<|O1 9 Y<|al xK Y Fp λg10 w30 Fq=>?_
    have k20:=(Fq.cU 0 4);refine aO k20<|O1 10 Y<|sty Y Fq U Y λw31 Lh=>?_
    have k21:=(Lh.cU 0 4);exact Kj hS2 k21 ⟨g10,OJ,OL,OM,OO,OP,OQ,Y,Lh⟩ Y
   ·refine al xK Y H2 λg11 w32 M4=>?_;have k22:=(M4.rm U);refine aO k22<|O1 5 Y<|gu Y (by have h:=Sv _ m (M4.s s8) (M4.s s9) (M4.s s10) x hzs hx0; rwa [h1,h2] at h) ?_
    rintro _ w33 ⟨afa,afb,afc,afd,afe,aff,rfl,h33⟩;have P7:=M4.c3 h33;have aEy:=(P7.s U).bI;have aPe:=(P7.s s1).bI;have aPf:=(P7.s s2).bI;have k23:=(P7.cU 0 4);refine aO k23<|lF 6 Y Y k23<|kI 7 Y (λ_ _=>yE (vs:=[.agg #[.slice afa (m1.aM.length) afb,.slice afc (m1.J.length) afd,.slice afe (m1.aU.length) aff],O e1]) Y Y) k23<|kI 8 Y (λ_ _=>yE (vs:=[.agg #[.slice afa (m1.aM.length) afb,.slice afc (m1.J.length) afd,.slice afe (m1.aU.length) aff],O e1]) Y Y) k23<|O1 10 Y<|sty Y P7 s3 Y λw34 Xd=>?_
    have k24:=(Xd.cU 0 4);exact Kj hS2 k24 ⟨g11,afa,afb,afc,afd,afe,aff,Y,Xd⟩ Y
  rintro _ w35 ⟨gj2,oV,cj2,wH,vG,BL,BM,rfl,K35⟩;refine aZ<|gD Y<|ev (iH Y Y)<|dn<|bS Y (λair=>?_) (λair=>?_)
  ·replace air:=iY air;refine gD Y<|ev (Ev.neg Y (xR (by have:=OC hm hx0; omega) (by have:=OC hm hx0; omega)))<|fE rfl<|Aw rfl ?_
   have hop:rz (⟨m,s,r,Z,I,kR hs⟩:PC) it=((⟨m,s,r,Z,I,kR hs⟩:PC),-e1):=au7 hX h1 h2 air;rw [show(rz (⟨m,s,r,Z,I,kR hs⟩:PC) it).1.m=m from by rw [hop]];rw [show(rz (⟨m,s,r,Z,I,kR hs⟩:PC) it).2=-e1 from by rw [hop]];exact⟨A1,c1,A2,c2,A3,c3,hs,Y,(by rw [hop]),(K35.cU 0 10)⟩
  replace air:=jX air;refine jQ ?_;refine rg<|ev (rZ Y)<|fE Y<|He K35 (λ_ K=>K) (λl0 rk lJ wJ=>∃ Aj5 cj5,lJ=(13,.slice Aj5 (al9.length) cj5)::l0/\Hp b S wJ (aR dN 3 Aj5 cj5 al9::rk)) (λhns H3=>?_) ?_
  ·refine xS 0 s9 Y H3<|JG 1 iy 3 Bw Y H3<|mK 3 4 iy 3 GJ s10 Y H3<|xS 5 s9 Y H3<|JG 6 iy 12 Df Y H3<|xS 8 s10 Y H3<|xS 9 s9 Y H3<|JG 10 iy 6 XC Y H3<|mK 12 13 iy 6 adP s10 Y H3<|lF 15 Y Y H3<|O1 14 Y<|gu Y (PI _ (H3.s s14).any Z r.lD (lG hb au)) ?_
   rintro _ w36 ⟨aIV,aIW,rfl,h36⟩;have K36:=H3.f1 h36;have aPg:=(K36.o U).bI;have k25:=(K36.rm U);refine aO k25<|O1 16 Y<|gu Y (by have h:=oN (kd:=[fK g1]) K36 aIU (fun(x:Int)=>!uP (kR hs) x) (λw9 ys x9 _ K9=>(akZ (S0:=Any) w9 x9 ((K9.mV 0 10).mV 10 10)).mono (by rintro _ _ ⟨rfl,h8⟩; exact⟨rfl,h8.ext⟩)) aj; rwa [hal] at h) ?_
   rintro _ w37 ⟨rfl,V8⟩;have k26:=(V8.rm U);refine aO k26<|xC 17 Y Y k26<|Dn ⟨aIV,aIW,Y,V8⟩ Y
  rintro _ w38 ⟨Aj5,cj5,rfl,K38⟩;refine kX Y<|aZ ?_
  have H4:=K38.fz s8;refine He H4 (λ_ K=>K) (λl0 rk lJ wJ=>∃ Aj6 cj6,lJ=(91,.slice Aj6 (tg.length) cj6)::(92,O ((tg.length:Nat):Int))::(93,O 0)::l0/\Hp b S wJ (aR dN 3 Aj6 cj6 tg::rk)) (λhns H5=>?_) ?_
  ·refine mK 0 1 gj2 0 lQ s2 Y H5<|lF 2 Y Y H5<|xS 3 s10 Y H5<|JG 4 iy 0 Bv Y H5<|mK 6 7 iy 1 jC s11 Y H5<|mK 8 9 gj2 0 lQ s2 Y H5<|xS 11 s10 Y H5<|JG 12 iy 6 XC Y H5<|mK 14 15 iy 9 GI s11 Y H5<|lF 18 Y Y H5<|O1 10 Y<|gu Y (UG _ (H5.s s13).any (H5.s s3).any (by rw [hnd]; exact lG (yO (dD.1 hm).1) au)) ?_
   rintro _ w39 ⟨aR9,aSa,rfl,h39⟩;have K39:=H5.f1 h39;have k27:=(K39.rm U);refine aO k27<|O1 16 Y<|gu Y (by have h:=aza _ (K39.s s4).any (K39.o s2) (K39.o U) (vT:=none) (vU:=0) (bX:=([]:V Int)) (O8 dN Any _) r.je (by rw [hnd]; exact lG (yO (dD.1 hm).1) au) (auX (by rw [hnd]; exact(dD.1 hm).1)) av aj (azm (dD.1 hm).2.1); rwa [htg] at h) ?_
   rintro _ w40 ⟨as6,as7,rfl,h40⟩;have K40:=K39.f1 h40;have k28:=(K40.cU 0 2);refine aO k28<|kI 17 Y (λ_ _=>jf gq Y) k28<|Dn ⟨as6,as7,Y,(K40.rm s1)⟩ Y
  rintro _ w41 ⟨Aj6,cj6,rfl,K41⟩;refine dF ?_;have H6:=K41.nil dN 3;have gy:(([]:V Int):V Int)=[]:=by rfl
  refine mP (t:=14) Y (aY (λz=>Value.slice none (List.length z) 0) gy) ?_;have H7:=H6.nil dN 3;refine Lp ((H7.rm (sx 22)).cU 0 2) (λl0 rk mJ lJ wJ=>∃(k:Nat)(hs1:kg)(td:V Int)(A14:ah)(c14:Nat),lJ=(14,.slice A14 td.length c14)::(93,O ((k:Nat):Int))::l0/\mJ=tg.length - k/\k<=tg.length/\((kR hs1,td)=(tg.take k).foldl (sM it.A e1 (FX it.A it.B) (nD it.A it.B)) (kR hs,[]))/\(∀ z h,cZ z hs1=some h->h.l.length<=900+k)/\(∀ z,(cZ z hs).isSome=true->(cZ z hs1).isSome=true)/\(td.length<=k)/\Hp b S wJ (aR dN 3 A14 c14 td::jD gm hs1::rk)) ⟨0,hs,[],none,0,Y,Y,fI _,by rfl,by intro z h hh; have:=hz z h hh; omega,by intro z hz; exact hz,av,(((H7.rm s1).mV 1 20).mV 20 2)⟩ rfl ?_;rintro _ _ w42 ⟨k,hs1,td,A14,c14,rfl,rfl,hk,hf,hzl,hns,htl,K42⟩;refine rg<|ev (iH Y Y)<|dn<|WP.cond Y (λau9=>?_) (λau9=>?_)
  ·replace au9:=iY au9;refine jQ ?_;refine aZ<|dF<|rg ?_
   obtain⟨x1,bT⟩:=bH (xs:=tg) (i:=k) aj;refine ev (d9 (i:=k) gq wX Y Y Y (aP bT) ((K42.o s2).some_ bT))<|ev (kG jF Y ((K42.o s2).eZ (j:=0) bT Y))<|fE Y ?_
   rcases hg1:cZ x1 hs1 with _ | ⟨gh1,gs1,gm1,Ah1,ch1,up1,rm1,l1,es1⟩
   ·exfalso; obtain⟨nd,aIX,hid⟩:=aio _ _ _ _ (htg▸dz bT); rw [hnd] at aIX; have h5:=hns _ (hN nd aIX); rw [hid,hg1] at h5; cases h5
   ·have aUS:tg.length<=r.je.toNat:=htg▸ah6 _ _ _ _ _;refine He K42 (λ_ K=>(K.rm s1)) (λl0 rk lJ wJ=>∃ Aj8 cj8 Aj9 cj9,lJ=(108,.bool (SS l1 rm1 it.A e1 ((gI (nD it.A it.B)).toNat:Int) (nD it.A it.B)))::l0/\Hp b S wJ (jD gm (fO x1 (⟨gh1,gs1,gm1,Aj8,cj8,up1,rm1,(Ig l1 rm1 it.A e1 ((gI (nD it.A it.B)).toNat:Int) (nD it.A it.B)),(tkM l1 rm1 it.A e1 ((gI (nD it.A it.B)).toNat:Int) (nD it.A it.B) Aj9 cj9 es1)⟩:l6) hs1)::rk)) (λhns H8=>?_) ?_
    ·have k29:=(H8.rm s1);refine xS 0 s12 Y k29<|JG 1 iy 13 vE Y k29<|xS 3 s13 Y k29<|lF 4 Y Y k29<|mK 6 7 g2 1 nA s11 Y k29<|lF 8 Y Y k29<|lF 9 Y Y k29<|lF 10 Y Y k29<|O1 5 Y<|ev (Ev.hS H8 s1 hg1 FV zM wI Y Y)<|aO k29<|O1 11 Y ?_
     have H9:=H8.xM s1 hg1;have H10:=H9.push (H9.s s8);refine gu Y (acp ((H10.sel U).mV 1 5) it.A e1 ((gI (nD it.A it.B)).toNat:Int) (by have h9:=hzl _ _ hg1; have h8:=aP bT; simp only at h9; omega)) ?_;rintro _ w43 ⟨aIY,aIZ,aI0,aI1,rfl,K43⟩;have H11:=Kz hg1 K43;have k30:=(H11.rm U);refine aO k30<|Dn ⟨aIY,aIZ,aI0,aI1,Y,H11⟩ Y
    rintro _ w44 ⟨Aj8,cj8,Aj9,cj9,rfl,K44⟩;refine bS Y (λais=>?_) (λais=>?_)
    ·refine jN<|pq 2 Y<|yV (τ:=dN) (x:=x1) Y (by intro _; apply pI) rfl K44 (λ_ _=>rfl) λg12 w45 K45=>ap (ys:=([x1]:V Int)) K45 s2 rfl rfl (K45.o U) gq LB aj av rfl λsQ sS w46 K46=>oJ rfl<|jO<|iF (fV ?_)
     refine jN<|ev (eG Y Y)<|mv Y<|jO<|dX ⟨(k+1),(fO x1 (⟨gh1,gs1,gm1,Aj8,cj8,up1,rm1,(Ig l1 rm1 it.A e1 ((gI (nD it.A it.B)).toNat:Int) (nD it.A it.B)),(tkM l1 rm1 it.A e1 ((gI (nD it.A it.B)).toNat:Int) (nD it.A it.B) Aj9 cj9 es1)⟩:l6) hs1),(td++([x1]:V Int)),sQ,sS,Y,Y,aj,by rw [eO bT,AP,<- hf]; show _=sM _ _ _ _ _ _; rw [acy (show cZ x1 (kR hs1)=some _ from by rw [jg,hg1]; rfl),Br]; unfold l6.pl; simp only; rw [amL,show FX it.A it.B=((gI (nD it.A it.B)).toNat:Int) from rfl]; first | rw [aS ais] | rw [aQ (by rw [ais]; decide)],by intro z h hh; exact amU (Q:=λh=>h.l.length<=900+(k+1)) (λz h hh=>by have:=hzl z h hh; omega) (by have h1:=hzl _ _ hg1; have h2:=amV l1 rm1 it.A e1 (FX it.A it.B) (nD it.A it.B); simp only at h1; show(Ig _ _ _ _ _ _).length<=_; first | exact lG h2 aj | omega) z h hh,by intro z hz; exact aip (hns z hz),by first | (rw [jH]; simp only [oO,u6]; omega) | omega,(K46.rm s1)⟩ rfl aj
    refine Gw ?_;refine jN<|ev (eG Y Y)<|mv Y<|jO<|dX ⟨(k+1),(fO x1 (⟨gh1,gs1,gm1,Aj8,cj8,up1,rm1,(Ig l1 rm1 it.A e1 ((gI (nD it.A it.B)).toNat:Int) (nD it.A it.B)),(tkM l1 rm1 it.A e1 ((gI (nD it.A it.B)).toNat:Int) (nD it.A it.B) Aj9 cj9 es1)⟩:l6) hs1),td,A14,c14,Y,Y,aj,by rw [eO bT,AP,<- hf]; show _=sM _ _ _ _ _ _; rw [acy (show cZ x1 (kR hs1)=some _ from by rw [jg,hg1]; rfl),Br]; unfold l6.pl; simp only; rw [amL,show FX it.A it.B=((gI (nD it.A it.B)).toNat:Int) from rfl]; first | rw [aS ais] | rw [aQ (by rw [ais]; decide)],by intro z h hh; exact amU (Q:=λh=>h.l.length<=900+(k+1)) (λz h hh=>by have:=hzl z h hh; omega) (by have h1:=hzl _ _ hg1; have h2:=amV l1 rm1 it.A e1 (FX it.A it.B) (nD it.A it.B); simp only at h1; show(Ig _ _ _ _ _ _).length<=_; first | exact lG h2 aj | omega) z h hh,by intro z hz; exact aip (hns z hz),by first | (rw [jH]; simp only [oO,u6]; omega) | omega,((K44.sel U).sel s1)⟩ rfl aj
  replace au9:=jX au9;refine BU ?_;refine aZ<|gD Y<|ev (jf gq Y)<|ev (wQ Y Y)<|dn<|bS Y (λaan=>?_) (λaan=>?_)
  ·replace aan:=iY aan;refine kX Y<|Aw Y ?_
   have hf2:=hf;rw [gY aj] at hf2;have hop:rz (⟨m,s,r,Z,I,kR hs⟩:PC) it=((⟨m,s,r,Z,I,kR hs1⟩:PC),7):=apY (tg:=tg) hX h1 h2 air (by rw [<- htg,<- hal]; rfl) hf2 (xY aj);rw [show(rz (⟨m,s,r,Z,I,kR hs⟩:PC) it).1.m=m from by rw [hop]];rw [show(rz (⟨m,s,r,Z,I,kR hs⟩:PC) it).2=7 from by rw [hop]];exact⟨A1,c1,A2,c2,A3,c3,hs1,Y,(by rw [hop]),((((K42.cU 2 12).rm U).sel U).mV 1 8)⟩
  replace aan:=jX aan;refine jQ ?_;refine rg<|lY K42 s13 Y<|ev (fA xW Y Y (K42.x s5))<|pq 1 Y<|zA iy 0 Bv Y<|stp Y Y Y as8 K42 s14 Y Y Y λw47 K47=>dn<|aZ<|gD Y<|ev (jf gq Y)<|mv Y<|dn<|dF ?_
  have aUT:=(K47.o s1).bI;refine Lp ((K47.cU 7 3).rm U) (λl0 rk mJ lJ wJ=>∃ kb B1 d1 B2 d2 B3 d3,lJ=(123,O ((kb:Nat):Int))::l0/\mJ=td.length - kb/\kb<=td.length/\Hp b S wJ (dI bW B1 d1 ((CW m1 ((td.take kb).map fun(z:Int)=>vR it.A z e1)).aM)::dI bD B2 d2 ((CW m1 ((td.take kb).map fun(z:Int)=>vR it.A z e1)).J)::dI cB B3 d3 ((CW m1 ((td.take kb).map fun(z:Int)=>vR it.A z e1)).aU)::Io iy B1 d1 B2 d2 B3 d3 A4 c4 A5 c5 A6 c6 A7 c7 (CW m1 ((td.take kb).map fun(z:Int)=>vR it.A z e1)) s r Z gm I::rk)) ⟨0,oV,cj2,wH,vG,BL,BM,Y,Y,fI _,((K47.mV 0 7).mV 7 3)⟩ Y ?_;rintro _ _ w48 ⟨kb,B1,d1,B2,d2,B3,d3,rfl,rfl,hkb,K48⟩;refine rg<|ev (iH Y Y)<|dn<|WP.cond Y (λait=>?_) (λait=>?_)
  ·replace ait:=iY ait;refine jQ ?_;refine aZ<|dF<|rg ?_
   obtain⟨x2,nE⟩:=bH (xs:=td) (i:=kb) aj;refine ev (d9 (i:=kb) gq wX Y Y Y (aP nE) ((K48.o s4).some_ nE))<|ev (kG jF Y ((K48.o s4).eZ (j:=0) nE Y))<|fE Y<|jN<|lY K48 s14 Y<|jP g2 1 nA K48 s13 Y<|pq 2 Y<|ev (iT (vs:=[(2,O 5),(3,O it.A),(4,O x2),(5,O e1)]) (cs:=[O 0,O 0,O 5,O it.A,O x2,O e1]) Y (by apply ru))<|gu rfl (zY (m:=(CW m1 ((td.take kb).map fun(z:Int)=>vR it.A z e1))) (s:=s) (r:=r) ((((((K48.mV 6 12).sel (sx 16)).sel (sx 17)).mV 18 4).mV 18 3).sel (sx 21)) (⟨0,0,5,it.A,x2,e1⟩:eU) (Ta hm2 _) rfl) ?_
   rintro _ w49 ⟨aI2,aI3,aI4,aI5,aI6,aI7,rfl,K49⟩;refine jO<|iF (fV ?_)
   refine jN<|ev (eG Y Y)<|mv Y<|jO ?_
   have H12:=K49;rw [show(rJ (CW m1 ((td.take kb).map fun(z:Int)=>vR it.A z e1)) (⟨0,0,5,it.A,x2,e1⟩:eU))=(CW m1 ((td.take (kb+1)).map fun(z:Int)=>vR it.A z e1)) from by rw [apX nE]] at H12;exact dX ⟨(kb+1),aI2,aI3,aI4,aI5,aI6,aI7,Y,Y,aj,((((((H12.mV 4 4).mV 10 12).sel (sx 20)).sel (sx 21)).sel (sx 18)).mV 19 3)⟩ rfl aj
  replace ait:=jX ait;refine BU ?_;refine kX Y<|iU Y ?_
  have hf2:=hf;rw [gY aj] at hf2;have hop:rz (⟨m,s,r,Z,I,kR hs⟩:PC) it=((⟨(CW m1 (td.map fun(z:Int)=>vR it.A z e1)),s,r,Z,I,kR hs1⟩:PC),0):=apZ (tg:=tg) hX h1 h2 air (by rw [<- htg,<- hal]; rfl) hf2 (λh0=>by have h1:td=[]:=h0; rw [h1] at aan; exact aan rfl);have Wj:=K48;rw [show(CW m1 ((td.take kb).map fun(z:Int)=>vR it.A z e1))=(CW m1 (td.map fun(z:Int)=>vR it.A z e1)) from by rw [gY aj]] at Wj;rw [show(rz (⟨m,s,r,Z,I,kR hs⟩:PC) it).1.m=(CW m1 (td.map fun(z:Int)=>vR it.A z e1)) from by rw [hop]];rw [show(rz (⟨m,s,r,Z,I,kR hs⟩:PC) it).2=0 from by rw [hop]];exact⟨B1,d1,B2,d2,B3,d3,hs1,Y,(by rw [hop]),((((((Wj.cU 6 12).rm s4).sel s4).mV 5 4).mV 5 3).sel s8)⟩
 ·refine jN<|zA g3 2 ZG Y<|xD Y Fg s2 Y λw21 IJ=>jO<|fV ?_
  exact(tl _ _ ⟨Y,⟨0,0,4,it.A,(((gI (nD it.A it.B)).toNat:Nat):Int),0⟩,Y,.inr Y,by unfold qy; rw [aS U5]; rfl,IJ⟩).kz rfl
 exact yC (fV (tl _ _ ⟨Y,⟨0,0,3,it.A,(((gI (nD it.A it.B)).toNat:Nat):Int),0⟩,Y,.inl Y,by unfold qy; rw [aQ (by simpa using U5)]; rfl,Fg.sel s2⟩))
end
end Go.Proofs.YthcmboepffiliaaGreat
