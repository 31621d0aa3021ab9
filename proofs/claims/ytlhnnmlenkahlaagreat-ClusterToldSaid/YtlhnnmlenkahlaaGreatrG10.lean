/- Lemmas. -/
import Derived.Test.YtlhnnmlenkahlaaGreatrG9
set_option maxRecDepth 4000
set_option linter.all false
namespace Go.Proofs.YtlhnnmlenkahlaaGreat
open Go.RowKit Go.Proofs.Tryz
def yU:=@List.foldl_append
def XC:=@Bool.not_not
def XD:=@Bool.and_assoc
def Cj:=@underlying47
variable {l:List aV}{aG dw:List Int}{aZ:List gq}{k jk ku nA IV Bq g_l:Nat}{n:aV}{S0:Nat->Prop}{jl kC nC BO vY:ah}{s:List (Int × Int)}{cf:Int->Int->Int}{c:aH}{bW:Int}
def bt(x y u z:Nat):Bool:=if x≠u then decide (x<u) else decide (y<z)
abbrev zN(aZ:List gq)(n:aV):Nat:=(nL aZ n.ID).toNat
def tgF(l:List aV)(aG:List Int)(aZ:List gq)(dw:List Int)(b:Option aV)(n:aV):Option aV:=if Da l aG aZ dw n.ID=true then(match b with | none=>some n | some m=>if bt (wR (kU l dw) n) (zN aZ n) (wR (kU l dw) m) (zN aZ m)=true then some n else some m) else b
def tL(l:List aV)(aG:List Int)(aZ:List gq)(dw:List Int)(M:List aV):Option aV:=M.foldl (tgF l aG aZ dw) none
def Bv(b:Option aV):Int:=match b with | none=>0 | some m=>m.ID
theorem getD_some{b:Option aV}(h:(!b.isSome)=false):b=some (b.getD ⟨0,0,0,0⟩):=by
  cases b with
  | none=>cases h
  | some m=>rfl
theorem TK(l:List aV)(aG:List Int)(aZ:List gq)(dw:List Int)(b:Option aV)(n:aV):tgF l aG aZ dw b n=if(Da l aG aZ dw n.ID&&(!b.isSome||bt (wR (kU l dw) n) (zN aZ n) (wR (kU l dw) (b.getD ⟨0,0,0,0⟩)) (zN aZ (b.getD ⟨0,0,0,0⟩))))=true then some n else b:=by
  unfold tgF
  cases hp:Da l aG aZ dw n.ID with
  | false=>rfl
  | true=>
    cases b with
    | none=>rfl
    | some m=>
      show(if bt _ _ _ _=true then some n else some m)=if(true&&(false||bt _ _ _ _))=true then some n else some m;rw [Bool.true_and,Bool.false_or]; rfl
def TL(old:List Int)(aZ:List gq)(b:Option aV):Value:=match b with | none=>.complex .f64 0 0 | some m=>.complex .f64 (fb (wR old m)) (wIm (old.contains m.lT) (wZ aZ m))
theorem G7{M:List aV}(hn:M[k]? = some n):tL l aG aZ dw (M.take (k+1))=tgF l aG aZ dw (tL l aG aZ dw (M.take k)) n:=by
  unfold tL; rw [fD hn,yU]; rfl
theorem XE(hn:n∈l)(h:Da l aG aZ dw n.ID=true):uy l=true/\gU l n.ID=n/\n.gP=0/\aG.contains n.ID=true/\dw.contains n.ID=false/\nL aZ n.ID<n.l6/\n.l6<=16:=by
  simp only [Da,bN,bO,eG] at h
  obtain⟨⟨⟨⟨h1,h2⟩,h3⟩,h4⟩,h5⟩:=h
  have hm:uy l=true:=by
    cases hb:uy l with
    | true=>rfl
    | false=>unfold jU at h1; rw [aaL hb] at h1; cases h1
  have h6:gU l n.ID=n:=by
    unfold jU at h1;obtain⟨x,hx,hk⟩:=qU (key:=aV.ID) h1;rw [qM h1 hx];have h3:=bT hx;rw [wh hm] at h3;exact QB (Em _ 0 hm) h3 hn hk
  rw [h6] at h2 h5;have h7:=(Qt _ _ hm n hn).2
  simp only [Ky,bN,bO] at h7
  exact⟨hm,h6,h2,h3,h4,h5,h7.1.2.2⟩
theorem Vw(h:∀ x∈aZ,0<=x.N)(id:Int):0<=nL aZ id:=by
  unfold nL; split
  · rename_i x hx; exact h x (Gn hx)
  · omega
theorem aCn(h0:∀ x∈aZ,0<=x.N)(h:nL aZ n.ID<n.l6):wZ aZ n=(zN aZ n:Int):=by
  have:=Vw h0 n.ID;unfold wZ zN; rw [aK aj]; omega
theorem apI{old:List Int}(h0:∀ x∈aZ,0<=x.N)(h:nL aZ n.ID<n.l6)(h1:n.l6<=16):Value.complex .f64 (fb (wR old n)) (wIm (old.contains n.lT) (wZ aZ n))=.complex .f64 (fb (wR old n)) (fb (zN aZ n)):=by
  have:=Vw h0 n.ID;rw [aCn h0 h,ays _ (by unfold zN; omega)]
theorem axq(old:List Int)(n:aV):wR old n<70:=by unfold wR; split <;> omega
theorem akm:∀(M:List aV)(b:Option aV),(∀ n∈M,n∈l)->(∀ m,b=some m->m∈l/\Da l aG aZ dw m.ID=true)->∀ m,M.foldl (tgF l aG aZ dw) b=some m->m∈l/\Da l aG aZ dw m.ID=true
  | [],b,_,hb,m,h=>hb m h
  | n::M,b,hM,hb,m,h=>by
    refine akm M _ (λx hx=>hM x (by simp [hx])) (λx hx=>?_) m h;unfold tgF at hx
    by_cases hp:Da l aG aZ dw n.ID=true
    · rw [aO hp] at hx
      cases b with
      | none=>cases hx; exact⟨hM _ av,hp⟩
      | some q=>
        simp only at hx
        split at hx
        · cases hx; exact⟨hM _ av,hp⟩
        · cases hx; exact hb _ rfl
    · rw [aK hp] at hx; exact hb x hx
theorem amT{old:List Int}(h0:∀ x∈aZ,0<=x.N){m:aV}(h:tL l aG aZ dw (l.take k)=some m) :
    TL old aZ (tL l aG aZ dw (l.take k))=.complex .f64 (fb (wR old m)) (fb (zN aZ m))/\zN aZ m<70:=by
  have hm:=akm (l.take k) none (λn hn=>List.mem_of_mem_take hn) (λm e=>by cases e) m h;have h1:=XE hm.1 hm.2;have:=Vw h0 m.ID;rw [h];exact⟨apI h0 h1.2.2.2.2.2.1 h1.2.2.2.2.2.2,by unfold zN; omega⟩
theorem ay5:bF prog 267:=ay
theorem afn(w:World){x y:Nat}{u z:Nat}(hb:(x<70/\y<70)/\u<70/\z<70) :
    bS prog 267 #[.complex .f64 (fb x) (fb y),.complex .f64 (fb u) (fb z)] w λv w'=>v=.bool (bt x y u z)/\Hp w S0 w' []:=by
 refine kP S0 func267 ntmps267 Y λH0=>iZ Y<|aW<|bQ Y<|ev (Ev.real Y)<|mv Y<|ev (Ev.real Y)<|ev (Ev.aGU aj aj Y Y)<|dn<|bK Y (λER=>?_) (λER=>?_)
 ·replace ER:=oQ ER;refine bQ Y<|ev (Ev.real Y)<|mv Y<|ev (Ev.real Y)<|ev (Ev.aBO aj aj Y Y)<|bU Y<|uX Y ?_
  have eO:(decide (x<u):Bool)=(bt x y u z):=by unfold bt; rw [aO (by simpa using ER)]
  exact⟨by rw [eO] <;> rfl,H0⟩
 replace ER:=oU ER;refine jm ?_;refine bQ Y<|ev (Ev.imag Y)<|mv Y<|ev (Ev.imag Y)<|ev (Ev.aBO aj aj Y Y)<|bU Y<|jc Y ?_
 have fQ:(decide (y<z):Bool)=(bt x y u z):=by unfold bt; rw [aK (by simpa using ER)]
 exact⟨by rw [fQ] <;> rfl,H0⟩
theorem aiK(w:World){a b:Value}(x y u z:Nat)(e1:a=.complex .f64 (fb x) (fb y))(e2:b=.complex .f64 (fb u) (fb z))(hb:(x<70/\y<70)/\u<70/\z<70) :
    bS prog 267 #[a,b] w λv w'=>v=.bool (bt x y u z)/\Hp w S0 w' []:=by subst e1 e2; exact afn w hb
abbrev zB10x1z(iD:List aV)(ji:List Int)(uS:List gq)(wV:List Int)(ES:Nat):=(tL iD ji uS wV (iD.take ES)).getD ⟨0,0,0,0⟩
theorem aaQ(w:World)(jo:Sl cZ S0 w jl jk l)(kM:Sl dQ S0 w kC ku aG)(oJ:Sl mX S0 w nC nA aZ){vC:ah}{vD:Nat}(DN:Sl dQ S0 w vC vD dw)(hn:l.length<=100000)(h0:∀ x∈aZ,0<=x.N) :
    bS prog 173 #[.slice jl l.length jk,.slice kC aG.length ku,.slice nC aZ.length nA,.slice vC dw.length vD] w λv w'=>v=.tuple #[aF (Bv (tL l aG aZ dw l)),.bool ((tL l aG aZ dw l).isSome)]/\Hp w S0 w' []:=by
 refine kP S0 func173 ntmps173 Y λH0=>rg<|iI Y<|bU Y<|bQ Y<|mv Y<|gX Y (amR _ (H0.a jo).any (H0.a DN).any aj) ?_
 rintro _ w1 ⟨afi,rfl,h1⟩;have K1:=H0.f1 h1;refine bU Y<|rg<|iI Y<|iI Y<|bU Y<|aW<|bQ Y<|ev (eU nW Y)<|mv Y<|dn<|cB ?_
 have eO:(0:Int)=Bv (tL l aG aZ dw (l.take 0)):=by rfl
 refine lC (t:=11) Y (aR (Value.int .i64) eO) ?_;have fQ:(.complex .f64 0 0:Value)=TL (kU l dw) aZ (tL l aG aZ dw (l.take 0)):=by rfl
 refine lC (t:=12) Y fQ ?_;have jW:(false:Bool)=(tL l aG aZ dw (l.take 0)).isSome:=by rfl
 refine lC (t:=13) Y (aR Value.bool jW) ?_;have mH:(0:Int)=((0:Nat):Int):=by simp
 refine lC (t:=22) Y (aR (Value.int .i64) mH)<|pK (λmJ lJ wJ=>∃(k:Nat),lJ=[(0,.slice jl l.length jk),(1,.slice kC aG.length ku),(2,.slice nC aZ.length nA),(3,.slice vC dw.length vD),(10,.map (some afi)),(11,aF (Bv (tL l aG aZ dw (l.take k)))),(12,TL (kU l dw) aZ (tL l aG aZ dw (l.take k))),(13,.bool ((tL l aG aZ dw (l.take k)).isSome)),(20,.slice jl l.length jk),(21,aF ((l.length:Nat):Int)),(22,aF ((k:Nat):Int))]/\mJ=l.length - k/\k<=l.length/\Hp w S0 wJ [ao1 afi (kU l dw)]) ⟨0,Y,Y,fJ _,K1⟩ Y ?_
 rintro _ _ w2 ⟨k,rfl,rfl,hk,K2⟩;refine rg<|ev (fC Y Y)<|dn<|pQ Y (λrz=>?_) (λrz=>?_)
 ·refine jm ?_;refine aW<|cB<|rg ?_
  obtain⟨x1,bP⟩:=bC (xs:=l) (i:=k) aj;refine ev (cu (i:=k) nW wT Y Y Y (aJ bP) ((K2.a jo).some_ bP))<|ev (gI wU Y Y ((K2.a jo).fE bP))<|al tJ Y K2 λg1 w3 K3=>sty Y K3 s0 Y λw4 K4=>dn<|rg<|ev (dU wU Y Y (K4.x s0))<|mv Y<|mv Y<|mU K4 Y (amS _ x1 (K4.a oJ).any (K4.obj s1)) λw5 K5=>bU Y<|bQ Y<|mv Y<|mv Y<|mv Y<|jT g1 0 nk K5 s0 Y<|mU K5 Y (auR _ (K5.a jo).any (K5.a kM).any (K5.a oJ).any (K5.a DN).any x1.ID aj) λw6 K6=>mv Y<|oG 8 45 ((Da l aG aZ dw x1.ID)&&((!((tL l aG aZ dw (l.take k)).isSome))||(bt (wR (kU l dw) x1) (zN aZ x1) (wR (kU l dw) (zB10x1z l aG aZ dw k)) (zN aZ (zB10x1z l aG aZ dw k))))) ?_ ?_
  ·cases aHd:Da l aG aZ dw x1.ID with
   | true=>
    have hp1:=XE (bT bP) aHd;have hzn:zN aZ x1<70:=by have h1:=Vw h0 x1.ID; have h2:=hp1.2.2.2.2.2; unfold zN; omega
    refine bn Y (bf Y) Y<|bn Y (iB Y) Y<|bn Y (bf Y) Y<|oG 4 44 ((!((tL l aG aZ dw (l.take k)).isSome))||(bt (wR (kU l dw) x1) (zN aZ x1) (wR (kU l dw) (zB10x1z l aG aZ dw k)) (zN aZ (zB10x1z l aG aZ dw k)))) ?_ ?_
    ·cases amU:(!((tL l aG aZ dw (l.take k)).isSome)) with
     | true=>
      refine dN<|dN<|dN<|bn Y (dH Y Y) Y<|jh Y (pI _)
     | false=>
      have hlv:=amT (old:=kU l dw) h0 (k:=k) (getD_some amU);refine bn Y (bf Y) Y<|bn Y (bf Y) Y<|oh Y Y Y Y ay5 (aiK (S0:=Any) _ (wR (kU l dw) x1) (zN aZ x1) (wR (kU l dw) (zB10x1z l aG aZ dw k)) (zN aZ (zB10x1z l aG aZ dw k)) (apI h0 hp1.2.2.2.2.2.1 hp1.2.2.2.2.2.2) hlv.1 ⟨⟨axq _ _,hzn⟩,axq _ _,hlv.2⟩) Y ?_
      rintro _ w7 ⟨rfl,h7⟩;refine bn Y (dL Y Y) Y<|jh Y h7.ext
    intro w8 e8;refine ev (dH Y Y)<|jh Y e8
   | false=>
    refine dN<|dN<|dN<|dN<|dN<|dN<|dN<|ev (dL Y Y)<|jh Y (pI _)
  intro w9 e9;have K9:=K6.grow e9;refine dn<|bK Y (λCm=>?_) (λCm=>?_)
  ·refine jy<|jT g1 0 nk K9 s0 Y<|mv Y<|iI Y<|iI Y<|iI Y<|jA<|iE (gG ?_)
   refine jy<|ev (dO Y Y)<|mv Y<|jA ?_
   have rR:(x1.ID:Int)=Bv (tL l aG aZ dw (l.take (k+1))):=by rw [G7 bP,TK]; first | (rw [aO Cm]; rfl) | rw [aK (by rw [Cm]; decide)]
   refine jq (t:=11) Y (aR (Value.int .i64) rR) ?_;have wM:(.complex .f64 (fb (wR (kU l dw) x1)) (wIm ((kU l dw).contains x1.lT) (wZ aZ x1)):Value)=TL (kU l dw) aZ (tL l aG aZ dw (l.take (k+1))):=by rw [G7 bP,TK]; first | (rw [aO Cm]; rfl) | rw [aK (by rw [Cm]; decide)]
   refine jq (t:=12) Y wM ?_;have zk:(true:Bool)=(tL l aG aZ dw (l.take (k+1))).isSome:=by rw [G7 bP,TK]; first | (rw [aO Cm]; rfl) | rw [aK (by rw [Cm]; decide)]
   refine jq (t:=13) Y (aR Value.bool zk) ?_;have hq8:(((k+1:Nat):Int):Int)=(((k+1):Nat):Int):=by simp
   refine jq (t:=22) Y (aR (Value.int .i64) hq8)<|dI ⟨(k+1),Y,Y,aj,(K9.rm s0)⟩ rfl aj
  refine xQ ?_;refine jy<|ev (dO Y Y)<|mv Y<|jA ?_
  have AJ:(Bv (tL l aG aZ dw (l.take k)):Int)=Bv (tL l aG aZ dw (l.take (k+1))):=by rw [G7 bP,TK]; first | (rw [aO Cm]; rfl) | rw [aK (by rw [Cm]; decide)]
  refine jq (t:=11) Y (aR (Value.int .i64) AJ) ?_;have r9:(TL (kU l dw) aZ (tL l aG aZ dw (l.take k)):Value)=TL (kU l dw) aZ (tL l aG aZ dw (l.take (k+1))):=by rw [G7 bP,TK]; first | (rw [aO Cm]; rfl) | rw [aK (by rw [Cm]; decide)]
  refine jq (t:=12) Y r9 ?_;have hq11:((tL l aG aZ dw (l.take k)).isSome:Bool)=(tL l aG aZ dw (l.take (k+1))).isSome:=by rw [G7 bP,TK]; first | (rw [aO Cm]; rfl) | rw [aK (by rw [Cm]; decide)]
  refine jq (t:=13) Y (aR Value.bool hq11) ?_;have hq12:(((k+1:Nat):Int):Int)=(((k+1):Nat):Int):=by simp
  refine jq (t:=22) Y (aR (Value.int .i64) hq12)<|dI ⟨(k+1),Y,Y,aj,(K9.rm s0)⟩ rfl aj
 refine wE ?_;refine bQ Y<|mv Y<|iI Y<|bU Y<|jc Y ?_
 have TG:(Bv (tL l aG aZ dw (l.take k)):Int)=(Bv (tL l aG aZ dw l)):=by rw [iH aj]
 have TH:((tL l aG aZ dw (l.take k)).isSome:Bool)=((tL l aG aZ dw l).isSome):=by rw [iH aj]
 exact⟨by rw [TG,TH] <;> rfl,(K2.rm s0)⟩
def E8(c:aH)(aG:List Int):List Int:=c.aD.filter fun(id:Int)=>aG.contains id
def UJ(l:List aV)(id:Int):Bool:=jU l id&&decide ((gU l id).gP=0)
def jH(c:aH)(l:List aV)(aG:List Int):List Int:=(E8 c aG).filter fun(id:Int)=>UJ l id
def aiL(l:List aV)(aG:List Int)(id:Int):Bool:=(jU l id&&!decide ((gU l id).gP=0))&&aG.contains id
def O7(c:aH)(l:List aV)(aG:List Int):List Int:=c.aD.filter fun(id:Int)=>aiL l aG id
theorem apJ(c:aH)(aG:List Int):(E8 c aG).length<=c.aD.length:=mR _ _
theorem amV(c:aH)(l:List aV)(aG:List Int):(jH c l aG).length<=(E8 c aG).length:=mR _ _
theorem ay6:bF prog 230:=ay
theorem ay7:bF prog 150:=ay
theorem ay8:bF prog 403:=ay
theorem apK(w:World)(id:Int)(kM:Bx w IV 55 [.slice kC aG.length ku])(Qz:Sl dQ S0 w kC ku aG) :
    bS prog 230 #[aF id,gD IV] w λv w'=>v=.bool (!(aG.contains id))/\Hp w S0 w' []:=by
 refine kP S0 func230 ntmps230 Y λH0=>iZ Y<|rg<|ev (dx Bf Y (kM.ext H0.ext) Y)<|mv Y<|mU H0 Y (kJ _ (H0.a Qz).any id) λw1 K1=>ev (iB Y)<|bU Y<|jc Y ?_
 exact⟨Y,K1⟩
theorem Vx(w:World)(c:aH)(GZ:Sl dQ S0 w BO Bq c.aD)(kM:Sl dQ S0 w kC ku aG)(hh:c.aD.length<=100000) :
    bS prog 149 #[.agg #[aF c.ID,aF c.aB,gK c.Sum,.slice BO c.aD.length Bq],.slice kC aG.length ku] w λv w'=>∃(A0:ah)(c0:Nat),v=.slice A0 ((E8 c aG).length) c0/\Hp w S0 w' [aS dQ 3 A0 c0 (E8 c aG)]:=by
 refine kP S0 func149 ntmps149 Y λH0=>rg<|bx Y Y H0 λg1 w1 K1=>bx Y Y K1 λg2 w2 K2=>bU Y<|rg<|jT g1 3 j5 K2 s1 Y<|gX Y (uH _ (K2.a GZ).any aj) ?_
 rintro _ w3 ⟨nR,nS,rfl,h3⟩;have K3:=K2.f1 h3;refine ev (rW Y)<|gX Y (oW (kd:=[gD g2]) (K3.sel s0) ay6 (λx9=>!(aG.contains x9)) (λw9 ys x9 hl9 K9=>(apK (S0:=Any) w9 x9 (K9.x s1) (K9.a kM).any).mono (by rintro _ w8 ⟨rfl,K8⟩; exact⟨rfl,K8.ext⟩)) aj) ?_
 rintro _ w4 ⟨rfl,K4⟩;refine bU Y<|jc Y ?_
 have eO:((c.aD.filter λx9=>!(!(aG.contains x9))):List Int)=(E8 c aG):=by unfold E8; simp only [XC]
 rw [eO] at K4;exact⟨nR,nS,by rw [eO] <;> rfl,(K4.cU 1 2)⟩
theorem amW(w:World)(id:Int)(jo:Bx w g_l 41 [.slice jl l.length jk])(k_l:Sl cZ S0 w jl jk l)(hn:l.length<=100000) :
    bS prog 150 #[aF id,gD g_l] w λv w'=>v=.bool (!(UJ l id))/\Hp w S0 w' []:=by
 refine kP S0 func150 ntmps150 Y λH0=>iZ Y<|rg<|ev (dx aff Y (jo.ext H0.ext) Y)<|mv Y<|mU H0 Y (Eo _ (H0.a k_l).any id aj) λw1 K1=>mv Y<|xt Y Y<|xt Y Y<|al tJ Y K1 λg1 w2 K2=>sty Y K2 s0 Y λw3 K3=>bU Y<|bQ Y<|ev (iB Y)<|mv Y<|iP 4 18 ((!(jU l id))||(!decide ((gU l id).gP=0))) ?_ ?_
 ·cases aHe:(!(jU l id)) with
  | true=>
   refine dN<|dN<|dN<|ev (dH Y Y)<|dM Y
  | false=>
   refine wL g1 3 zS K3 s0 Y<|bn Y (nQ Y Y) Y<|ev (dL Y Y)<|dM Y
 refine bU Y<|jc Y ?_
 have eO:(((!(jU l id))||(!decide ((gU l id).gP=0))):Bool)=(!(UJ l id)):=by unfold UJ; cases jU l id <;> simp
 exact⟨by rw [eO] <;> rfl,(K3.rm s0)⟩
theorem XF(w:World)(c:aH)(GZ:Sl dQ S0 w BO Bq c.aD)(jo:Sl cZ S0 w jl jk l)(kM:Sl dQ S0 w kC ku aG)(hh:c.aD.length<=100000)(hn:l.length<=100000) :
    bS prog 88 #[.agg #[aF c.ID,aF c.aB,gK c.Sum,.slice BO c.aD.length Bq],.slice jl l.length jk,.slice kC aG.length ku] w λv w'=>∃(A0:ah)(c0:Nat),v=.slice A0 ((jH c l aG).length) c0/\Hp w S0 w' [aS dQ 3 A0 c0 (jH c l aG)]:=by
 refine kP S0 func88 ntmps88 Y λH0=>?_;have hll:=apJ c aG;refine rg<|bx Y Y H0 λg1 w1 K1=>bx Y Y K1 λg2 w2 K2=>bU Y<|rg<|ev (dU qw Y Y (K2.x s1))<|mv Y<|gX Y (Vx _ c (K2.a GZ).any (K2.a kM).any aj) ?_
 rintro _ w3 ⟨nR,nS,rfl,h3⟩;have K3:=K2.f1 h3;have apk:=(K3.o s0).bH;refine ev (rW Y)<|gX Y (oW (kd:=[gD g2]) (K3.sel s0) ay7 (λx9=>!(UJ l x9)) (λw9 ys x9 hl9 K9=>(amW (S0:=Any) w9 x9 (K9.x s1) (K9.a jo).any aj).mono (by rintro _ w8 ⟨rfl,K8⟩; exact⟨rfl,K8.ext⟩)) aj) ?_
 rintro _ w4 ⟨rfl,K4⟩;refine bU Y<|jc Y ?_
 have eO:(((E8 c aG).filter λx9=>!(!(UJ l x9))):List Int)=(jH c l aG):=by unfold jH; simp only [XC]
 rw [eO] at K4;exact⟨nR,nS,by rw [eO] <;> rfl,(K4.cU 1 2)⟩
theorem amX(w:World)(id:Int)(jo:Bx w g_l 41 [.slice jl l.length jk])(k_l:Sl cZ S0 w jl jk l)(kM:Bx w IV 55 [.slice kC aG.length ku])(Qz:Sl dQ S0 w kC ku aG)(hn:l.length<=100000) :
    bS prog 403 #[aF id,gD g_l,gD IV] w λv w'=>v=.bool (!(aiL l aG id))/\Hp w S0 w' []:=by
 refine kP S0 func403 ntmps403 Y λH0=>iZ Y<|rg<|ev (dx aff Y (jo.ext H0.ext) Y)<|mv Y<|mU H0 Y (Eo _ (H0.a k_l).any id aj) λw1 K1=>mv Y<|xt Y Y<|xt Y Y<|al tJ Y K1 λg1 w2 K2=>sty Y K2 s0 Y λw3 K3=>bU Y<|bQ Y<|ev (iB Y)<|mv Y<|iP 4 19 ((!(jU l id))||(decide ((gU l id).gP=0))) ?_ ?_
 ·cases Tc:(!(jU l id)) with
  | true=>
   refine dN<|dN<|dN<|ev (dH Y Y)<|dM Y
  | false=>
   refine wL g1 3 zS K3 s0 Y<|bn Y (iA Y Y) Y<|ev (dL Y Y)<|dM Y
 refine mv Y<|oG 5 25 (((!(jU l id))||(decide ((gU l id).gP=0)))||(!(aG.contains id))) ?_ ?_
 ·cases ab6:((!(jU l id))||(decide ((gU l id).gP=0))) with
  | true=>
   refine dN<|dN<|dN<|dN<|ev (dH Y Y)<|jh Y (pI _)
  | false=>
   have ae0:=ab6
   try simp only [fq,dX,bN,eH,eG,fP,bO,bV] at ae0
   refine bn Y (dx Bf Y (kM.ext K3.ext) Y) Y<|bn Y (bf Y) Y<|oh Y Y Y Y WV (kJ _ (K3.a Qz).any id) Y ?_
   rintro _ w4 ⟨rfl,h4⟩;refine bn Y (iB Y) Y<|ev (dL Y Y)<|jh Y h4.ext
 intro w5 e5;have K5:=K3.grow e5;refine bU Y<|jc Y ?_
 have eO:((((!(jU l id))||(decide ((gU l id).gP=0)))||(!(aG.contains id))):Bool)=(!(aiL l aG id)):=by unfold aiL; cases jU l id <;> simp
 exact⟨by rw [eO] <;> rfl,(K5.rm s0)⟩
theorem apM(w:World)(c:aH)(GZ:Sl dQ S0 w BO Bq c.aD)(jo:Sl cZ S0 w jl jk l)(kM:Sl dQ S0 w kC ku aG)(hh:c.aD.length<=100000)(hn:l.length<=100000) :
    bS prog 332 #[.agg #[aF c.ID,aF c.aB,gK c.Sum,.slice BO c.aD.length Bq],.slice jl l.length jk,.slice kC aG.length ku] w λv w'=>∃(A0:ah)(c0:Nat),v=.slice A0 ((O7 c l aG).length) c0/\Hp w S0 w' [aS dQ 3 A0 c0 (O7 c l aG)]:=by
 refine kP S0 func332 ntmps332 Y λH0=>rg<|bx Y Y H0 λg1 w1 K1=>bx Y Y K1 λg2 w2 K2=>bx Y Y K2 λg3 w3 K3=>bU Y<|rg<|jT g1 3 j5 K3 s2 Y<|gX Y (uH _ (K3.a GZ).any aj) ?_
 rintro _ w4 ⟨sO,sP,rfl,h4⟩;have K4:=K3.f1 h4;refine ev (rW Y)<|gX Y (oW (kd:=[gD g2,gD g3]) (K4.sel s0) ay8 (λx9=>!(aiL l aG x9)) (λw9 ys x9 hl9 K9=>(amX (S0:=Any) w9 x9 (K9.x s2) (K9.a jo).any (K9.x s1) (K9.a kM).any aj).mono (by rintro _ w8 ⟨rfl,K8⟩; exact⟨rfl,K8.ext⟩)) aj) ?_
 rintro _ w5 ⟨rfl,K5⟩;refine bU Y<|jc Y ?_
 have eO:((c.aD.filter λx9=>!(!(aiL l aG x9))):List Int)=(O7 c l aG):=by unfold O7; simp only [XC]
 rw [eO] at K5;exact⟨sO,sP,by rw [eO] <;> rfl,(K5.cU 1 3)⟩
theorem afo(w:World)(jo:Sl cZ S0 w jl jk l)(id:Int)(hn:l.length<=100000) :
    bS prog 333 #[.slice jl l.length jk,aF id] w λv w'=>v=aF ((gU l id).lT)/\Hp w S0 w' []:=by
 refine kP S0 func333 ntmps333 Y λH0=>iZ Y<|bQ Y<|mv Y<|mU H0 Y (Eo _ (H0.a jo).any id aj) λw1 K1=>mv Y<|xt Y Y<|xt Y Y<|al tJ Y K1 λg1 w2 K2=>sty Y K2 s0 Y λw3 K3=>bU Y<|rg<|jT g1 1 Qv K3 s0 Y<|bU Y<|jc Y ?_
 exact⟨Y,(K3.rm s0)⟩
theorem amY{z v y:Int}:(IC s z v).find? (λp=>decide (p.1=y))=if y=z then some (z,v) else s.find? (λp=>decide (p.1=y)):=by
  have hA:y≠z->∀ s:List (Int × Int),(s.map (λp=>if p.1=z then(z,v) else p)).find? (λp=>decide (p.1=y))=s.find? (λp=>decide (p.1=y)):=by
    intro hy s
    induction s with
    | nil=>rfl
    | cons p s ih=>
      rw [nG]
      by_cases e:p.1=z
      · rw [aO e,vI (by simp; omega),vI (by simp; omega),ih]
      · rw [aK e]
        by_cases e2:p.1=y
        · rw [Gj (by simpa using e2),Gj (by simpa using e2)]
        · rw [vI (by simpa using e2),vI (by simpa using e2),ih]
  have hB:∀ s:List (Int × Int),s.any (λp=>decide (p.1=z))=true->(s.map (λp=>if p.1=z then(z,v) else p)).find? (λp=>decide (p.1=z))=some (z,v):=by
    intro s
    induction s with
    | nil=>intro h; cases h
    | cons p s ih=>
      intro h;rw [nG]
      by_cases e:p.1=z
      · rw [aO e,Gj av]
      · rw [aK e,vI (by simpa using e)]
        exact ih (by simpa [e] using h)
  unfold IC
  split
  · rename_i h
    by_cases hy:y=z
    · subst hy; rw [aO rfl,hB s h]
    · rw [aK hy,hA hy s]
  · rename_i h
    have hn:∀ p∈s,¬ p.1=z:=λp hp e=>h (Ed.2 ⟨p,hp,by simpa using e⟩);rw [IJ]
    by_cases hy:y=z
    · subst hy; rw [aO rfl,Ce.2 (λp hp=>by simpa using hn p hp)]; simp
    · rw [aK hy]
      cases hf:s.find? (λp=>decide (p.1=y)) with
      | some p=>rfl
      | none=>simp; omega
theorem apN(s:List (Int × Int))(z v y:Int):EX (IC s z v) y=if y=z then v else EX s y:=by
  unfold EX; rw [amY]
  by_cases hy:y=z
  · rw [aO hy,aO hy]
  · rw [aK hy,aK hy]
abbrev rkN(l:List aV)(id:Int):Int:=(gU l id).lT
def cntF(l:List aV)(s:List (Int × Int))(id:Int):List (Int × Int):=IC s (rkN l id) (EX s (rkN l id)+1)
def Gs(l:List aV)(ids:List Int):List (Int × Int):=ids.foldl (cntF l) []
theorem amZ{ids:List Int}{x:Int}(hx:ids[k]? = some x):Gs l (ids.take (k+1))=cntF l (Gs l (ids.take k)) x:=by
  unfold Gs; rw [fD hx,yU]; rfl
theorem TM(l:List aV):∀(ids:List Int)(s:List (Int × Int)),wI s->wI (ids.foldl (cntF l) s)/\∀ r,EX (ids.foldl (cntF l) s) r=EX s r+((ids.filter fun(id:Int)=>decide (rkN l id=r)).length:Int)
  | [],s,h=>⟨h,λr=>by simp⟩
  | id::ids,s,h=>by
    have ih:=TM l ids (cntF l s id) (amn h _ _);refine⟨ih.1,λr=>?_⟩;rw [sK,ih.2 r];unfold cntF;rw [apN,Iz]
    by_cases e:r=rkN l id
    · rw [aO e,aO (by simpa using e.symm),pF,e]; omega
    · rw [aK e,aK (by simpa using λh=>e h.symm)]
theorem TN(l:List aV)(ids:List Int):wI (Gs l ids):=(TM l ids [] List.Pairwise.nil).1
theorem apO(l:List aV)(ids:List Int)(r:Int):EX (Gs l ids) r=((ids.filter fun(id:Int)=>decide (rkN l id=r)).length:Int):=by
  have:=(TM l ids [] List.Pairwise.nil).2 r;show EX (ids.foldl (cntF l) []) r=_;rw [this]; show(0:Int)+_=_; omega
theorem auS(l:List aV)(ids:List Int)(r:Int):0<=EX (Gs l ids) r/\EX (Gs l ids) r<=ids.length:=by
  rw [apO]; have:=mR (fun(id:Int)=>decide (rkN l id=r)) ids; omega
def Mp(w:World)(g:Nat)(s:List (Int × Int)):Prop:=w.heap[g]? = some (.map (Dl s) s.length)
theorem Mp.ext{w w':World}{g:Nat}(h:Mp w g s)(e:Ext w w'):Mp w' g s:=(e.block g (vW.1 h).1).trans h
def shB(on:List (Int × Int))(l:List aV)(id:Int):Bool:=decide (1<EX on (rkN l id))
def exC(on:List (Int × Int))(l:List aV)(aZ:List gq)(a b:Int):Int:=if(shB on l a != shB on l b)&&shB on l a then 1 else if shB on l a != shB on l b then -1 else OA [bB (nL aZ a) (nL aZ b),bB a b]
def I6(cf:Int->Int->Int):List Int->Int
  | []=>0
  | x::l=>l.foldl (λm y=>if 0<cf y m then y else m) x
theorem apQ{l:List Int}{x:Int}(hx:l[0]? = some x):I6 cf (l.take 1)=x:=by
  cases l with
  | nil=>simp at hx
  | cons y l=>simp at hx; subst hx; simp [I6]
theorem aaR{l:List Int}{x:Int}(hk:1<=k)(hx:l[k]? = some x):I6 cf (l.take (k+1))=if 0<cf x (I6 cf (l.take k)) then x else I6 cf (l.take k):=by
  rw [fD hx]
  cases hl:l.take k with
  | nil=>have h1:=aR List.length hl; have h2:=aJ hx; simp only [fO,rH] at h1; omega
  | cons y m=>simp [I6]; rfl
def Ve(c:aH)(l:List aV)(aG:List Int)(aZ:List gq)(bW:Int):Int × Bool:=
  if bW<1∨((jH c l aG).length:Int)<bW then(0,false) else
  match O7 c l aG with
  | i::_=>(i,true)
  | []=>if((jH c l aG).length:Int)=bW then(0,false) else(I6 (exC (Gs l (jH c l aG)) l aZ) (jH c l aG),true)
theorem aza:l9 prog 338:=ay
theorem azb:bF prog 333:=ay
theorem aiM:∀ w,(zeroValue 3).run prog w=.ok (aF 0) w:=ay
theorem aaS:l9 prog 80:=ay
theorem XG:bF prog 334:=ay
theorem XH(w:World)(id:Int){apR g_m:Nat}(on:List (Int × Int))(ko:wI on)(aiN:Bx w apR 338 [.map (some g_m)])(h_m:Mp w g_m on)(jo:Bx w g_l 41 [.slice jl l.length jk])(k_l:Sl cZ S0 w jl jk l)(hn:l.length<=100000) :
    bS prog 334 #[aF id,gD apR,gD g_l] w λv w'=>v=.bool (shB on l id)/\Hp w S0 w' []:=by
 refine kP S0 func334 ntmps334 Y λH0=>iZ Y<|qo ak ak<|bA (dx aza Y (aiN.ext H0.ext) Y) Y<|bA (dx aff Y (jo.ext H0.ext) Y) Y<|bA (bf Y) Y<|Fv (v:=aF ((gU l id).lT)) Y Y Y azb (λwq eq=>(afo wq ((H0.a k_l).any.ext eq) id aj).mono (by rintro _ _ ⟨rfl,fQ⟩; exact⟨rfl,fQ.ext⟩)) rfl<|bA (Ev.axd (H0.was h_m) ko underlying338 iQ aiM rfl rfl) rfl<|bA (pV rfl rfl) rfl<|bA (om rfl) rfl<|qp λw1 e1=>?_
 have K1:=H0.grow e1;refine jc Y ?_;have eO:(decide (1<(EX on ((gU l id).lT))):Bool)=(shB on l id):=by rfl
 exact⟨by rw [eO] <;> rfl,K1⟩
theorem auT(w:World)(a:Int)(b:Int){apR g_m:Nat}(on:List (Int × Int))(ko:wI on)(aiN:Bx w apR 338 [.map (some g_m)])(h_m:Mp w g_m on)(jo:Bx w g_l 41 [.slice jl l.length jk])(k_l:Sl cZ S0 w jl jk l){aCo:Nat}(apT:Bx w aCo 80 [.func (.func 334) #[] #[gD apR,gD g_l]]){IK:Nat}(oJ:Bx w IK 154 [.slice nC aZ.length nA])(Dr:Sl mX S0 w nC nA aZ)(hn:l.length<=100000) :
    bS prog 336 #[aF a,aF b,gD aCo,gD IK] w λv w'=>v=aF (exC on l aZ a b)/\Hp w S0 w' []:=by
 refine kP S0 func336 ntmps336 Y λH0=>iZ Y<|aW<|cB<|qo ak ak<|bA (dx aaS Y (apT.ext H0.ext) Y) Y<|bA (bf Y) Y<|Fv (v:=.bool (shB on l a)) Y Y Y XG (λwq eq=>(XH wq a on ko ((aiN.ext H0.ext).ext eq) ((h_m.ext H0.ext).ext eq) ((jo.ext H0.ext).ext eq) ((H0.a k_l).any.ext eq) aj).mono (by rintro _ _ ⟨rfl,fQ⟩; exact⟨rfl,fQ.ext⟩)) rfl<|bA (dx aaS rfl (apT.ext H0.ext) rfl) rfl<|bA (bf rfl) rfl<|Fv (v:=.bool (shB on l b)) rfl rfl rfl XG (λwq eq=>(XH wq b on ko ((aiN.ext H0.ext).ext eq) ((h_m.ext H0.ext).ext eq) ((jo.ext H0.ext).ext eq) ((H0.a k_l).any.ext eq) aj).mono (by rintro _ _ ⟨rfl,fQ⟩; exact⟨rfl,fQ.ext⟩)) rfl<|bA (Ev.neb SS rfl rfl) rfl<|bA (bf rfl) rfl<|rJ 4 19 ((!((shB on l a) == (shB on l b)))&&(shB on l a)) ?_ ?_
 ·cases Tc:(!((shB on l a) == (shB on l b))) with
  | true=>
   refine eT Y (dx aaS Y (apT.ext H0.ext) Y) Y<|eT Y (bf Y) Y<|Qg Y (v:=.bool (shB on l a)) Y Y Y XG (λwq eq=>(XH wq a on ko ((aiN.ext H0.ext).ext eq) ((h_m.ext H0.ext).ext eq) ((jo.ext H0.ext).ext eq) ((H0.a k_l).any.ext eq) aj).mono (by rintro _ _ ⟨rfl,fQ⟩; exact⟨rfl,fQ.ext⟩)) rfl<|bA (dH rfl rfl) rfl<|j3 rfl
  | false=>
   refine dZ Y Y Y<|dZ Y Y Y<|dZ Y Y Y<|bA (dL Y Y) Y<|j3 Y
 refine bA (om Y) Y<|qp λw1 e1=>?_
 have K1:=H0.grow e1;refine bK Y (λhc7=>?_) (λhc7=>?_)
 ·refine iZ Y<|Ox Y ?_
  have eO:(1:Int)=(exC on l aZ a b):=by unfold exC; rw [aO (by simpa using hc7)]
  exact⟨by rw [<- eO] <;> rfl,K1⟩
 refine qo ak ak<|bA (dx aaS Y (apT.ext K1.ext) Y) Y<|bA (bf Y) Y<|Fv (v:=.bool (shB on l a)) Y Y Y XG (λwq eq=>(XH wq a on ko ((aiN.ext K1.ext).ext eq) ((h_m.ext K1.ext).ext eq) ((jo.ext K1.ext).ext eq) ((K1.a k_l).any.ext eq) aj).mono (by rintro _ _ ⟨rfl,fQ⟩; exact⟨rfl,fQ.ext⟩)) rfl<|bA (dx aaS rfl (apT.ext K1.ext) rfl) rfl<|bA (bf rfl) rfl<|Fv (v:=.bool (shB on l b)) rfl rfl rfl XG (λwq eq=>(XH wq b on ko ((aiN.ext K1.ext).ext eq) ((h_m.ext K1.ext).ext eq) ((jo.ext K1.ext).ext eq) ((K1.a k_l).any.ext eq) aj).mono (by rintro _ _ ⟨rfl,fQ⟩; exact⟨rfl,fQ.ext⟩)) rfl<|bA (Ev.neb SS rfl rfl) rfl<|bA (om rfl) rfl<|qp λw2 e2=>?_
 have K2:=K1.grow e2;refine bK Y (λlN=>?_) (λlN=>?_)
 ·refine iZ Y<|Ox Y ?_
  have fQ:((-1):Int)=(exC on l aZ a b):=by unfold exC; rw [aK (by simpa using hc7),aO (by simpa using lN)]
  exact⟨by rw [<- fQ] <;> rfl,K2⟩
 refine xQ ?_;refine He K2 (λ_ K=>K) (λl0 rk lJ wJ=>lJ=(6,aF (OA ([bB (nL aZ a) (nL aZ b),bB a b]:List Int)))::l0/\Hp w S0 wJ rk) (λhns H1=>?_) ?_
 ·refine lD 0 Y (λ_ hK=>dx O4 Y (oJ.ext hK.ext) Y) H1<|kX 1 Y Y H1<|lD 3 Y (λ_ hK=>dx O4 Y (oJ.ext hK.ext) Y) H1<|kX 4 Y Y H1<|kX 7 Y Y H1<|kX 8 Y Y H1<|O1 2 Y<|mU H1 Y (u7 _ (H1.a Dr).any a) λw3 K3=>aQ K3<|O1 5 Y<|mU K3 Y (u7 _ (K3.a Dr).any b) λw4 K4=>aQ K4<|O1 6 Y<|mU K4 Y (nK (S0:=Any) _ (nL aZ a) (nL aZ b)) λw5 K5=>aQ K5<|O1 9 Y<|mU K5 Y (nK (S0:=Any) _ a b) λw6 K6=>aQ K6<|O1 10 Y<|bsn (τ:=dQ) (xs:=([bB (nL aZ a) (nL aZ b),bB a b]:List Int)) (vs:=[(0,aF (bB (nL aZ a) (nL aZ b))),(1,aF (bB a b))]) (css:=[[aF (bB (nL aZ a) (nL aZ b))],[aF (bB a b)]]) Y (by intro _; apply IW) rfl rfl K6 (λ_ e=>⟨rfl,rfl,trivial⟩) λg1 w7 K7=>?_
  have k1:=(K7.rm s0);refine aQ k1<|O1 11 Y<|mU K7 Y (afg _ (K7.o s0)) λw8 K8=>?_
  have k2:=(K8.rm s0);refine aQ k2<|xI 12 Y Y k2<|Dn ⟨Y,(K8.rm s0)⟩ Y
 rintro _ w9 ⟨rfl,K9⟩;refine jc Y ?_;have jW:(OA ([bB (nL aZ a) (nL aZ b),bB a b]:List Int):Int)=(exC on l aZ a b):=by unfold exC; rw [aK (by simp_all),aK (by simpa using lN)]
 exact⟨by rw [jW] <;> rfl,K9⟩
theorem Z8(w:World){uY:Nat}{s:List Int}(mP:Sl dQ S0 w vY uY s){apU:FuncId}{apV:List Value}(aCp:bF prog apU)(cmp:Int->Int->Int)(h_cmp:∀(w':World)(x:Int)(t:Int),Ext w w'->True->bS prog apU (([aF x,aF t]:List Value)++apV).toArray w' λv w''=>v=aF (cmp x t)/\Ext w' w'')(hne:1<=s.length) :
    bS prog 335 #[.slice vY s.length uY,.func (.func apU) #[] apV.toArray] w λv w'=>v=aF (I6 cmp s)/\Hp w S0 w' []:=by
 refine kP S0 func335 ntmps335 Y λH0=>?_;have Qm:=mP.bH;refine iZ Y<|aW<|bQ Y<|ev (eU fB Y)<|ev (fC Y Y)<|dn<|mQ Y (λER=>?_) (λER=>?_)
 ·omega
 refine jm ?_;refine bQ Y ?_;obtain⟨x1,bP⟩:=bC (xs:=s) (i:=0) aj;refine ev (cu (i:=0) fB rZ Y Y Y (aJ bP) ((H0.a mP).some_ bP))<|ev (iL jD Y ((H0.a mP).fF (j:=0) bP Y))<|bU Y<|aW<|iZ Y<|cB ?_
 have eO:(x1:Int)=(I6 cmp (s.take 1)):=by exact(apQ bP).symm
 refine lC (t:=5) Y (aR (Value.int .i64) eO)<|Lp H0 (λl0 rk mJ lJ wJ=>∃(j:Nat),lJ=(5,aF (I6 cmp (s.take j)))::(6,aF ((j:Nat):Int))::l0/\mJ=s.length - j/\(1<=j/\j<=s.length)/\Hp w S0 wJ rk) ⟨1,Y,Y,aj,H0⟩ rfl ?_
 rintro _ _ w1 ⟨j,rfl,rfl,hj,K1⟩;refine aW<|bQ Y<|mv Y<|ev (eU fB Y)<|ev (fC Y Y)<|dn<|mQ Y (λhc17=>?_) (λhc17=>?_)
 ·refine jm ?_;refine aW<|cB<|bQ Y<|mv Y<|mv Y ?_
  obtain⟨x2,kZ⟩:=bC (xs:=s) (i:=j) aj;refine ev (cu (i:=j) fB rZ Y Y Y (aJ kZ) ((K1.a mP).some_ kZ))<|ev (iL jD Y ((K1.a mP).fF (j:=0) kZ Y))<|mv Y<|xK Y Y Y aCp (h_cmp _ x2 (I6 cmp (s.take j)) K1.ext trivial) Y ?_
  rintro _ w2 ⟨rfl,e2⟩;have K2:=K1.grow e2;refine ev (pV Y Y)<|dn<|mQ Y (λhc27=>?_) (λhc27=>?_)
  ·refine jy<|mv Y<|mv Y<|ev (cu (i:=j) fB rZ Y Y Y (aJ kZ) ((K2.a mP).some_ kZ))<|ev (iL jD Y ((K2.a mP).fF (j:=0) kZ Y))<|iI Y<|jA<|iE (gG ?_)
   refine jy<|mv Y<|ev (dO Y Y)<|iI Y<|jA ?_
   have fQ:(x2:Int)=(I6 cmp (s.take (j+1))):=by rw [aaR hj.1 kZ]; first | rw [aO hc27] | rw [aK hc27]
   refine jq (t:=5) Y (aR (Value.int .i64) fQ)<|dI ⟨(j+1),Y,Y,aj,K2⟩ rfl aj
  refine xQ ?_;refine jy<|mv Y<|ev (dO Y Y)<|iI Y<|jA ?_
  have jW:((I6 cmp (s.take j)):Int)=(I6 cmp (s.take (j+1))):=by rw [aaR hj.1 kZ]; first | rw [aO hc27] | rw [aK hc27]
  refine jq (t:=5) Y (aR (Value.int .i64) jW)<|dI ⟨(j+1),Y,Y,aj,K2⟩ rfl aj
 refine wE ?_;refine bQ Y<|bU Y<|jc Y ?_
 have mH:((I6 cmp (s.take j)):Int)=(I6 cmp s):=by rw [iH aj]
 exact⟨by rw [mH] <;> rfl,K1⟩
theorem akn(h:bW<1∨((jH c l aG).length:Int)<bW):Ve c l aG aZ bW=(0,false):=aO h
theorem afq{i:Int}(h:¬ (bW<1∨((jH c l aG).length:Int)<bW))(hx:(O7 c l aG)[0]? = some i):Ve c l aG aZ bW=(i,true):=by
  unfold Ve; rw [aK h]
  cases hi:O7 c l aG with
  | nil=>rw [hi] at hx; simp at hx
  | cons j t=>rw [hi] at hx; simp at hx; subst hx; rfl
theorem afr(h:¬ (bW<1∨((jH c l aG).length:Int)<bW))(hi:¬ 0<(O7 c l aG).length)(he:((jH c l aG).length:Int)=bW):Ve c l aG aZ bW=(0,false):=by
  have e:O7 c l aG=[]:=uE aj;unfold Ve; rw [aK h,e]; exact aO he
theorem ako(h:¬ (bW<1∨((jH c l aG).length:Int)<bW))(hi:¬ 0<(O7 c l aG).length)(he:¬ ((jH c l aG).length:Int)=bW):Ve c l aG aZ bW=(I6 (exC (Gs l (jH c l aG)) l aZ) (jH c l aG),true):=by
  have e:O7 c l aG=[]:=uE aj;unfold Ve; rw [aK h,e]; exact aK he
theorem apW:∀ w,(zeroValue 338).run prog w=.ok (.map none) w:=ay
theorem akp:∀ w,(zeroValue 80).run prog w=.ok (.nilFunc) w:=ay
theorem azc:bF prog 336:=ay
theorem aiO(w:World)(c:aH)(GZ:Sl dQ S0 w BO Bq c.aD)(jo:Sl cZ S0 w jl jk l)(kM:Sl dQ S0 w kC ku aG)(oJ:Sl mX S0 w nC nA aZ)(bW:Int)(hh:c.aD.length<=100000)(hn:l.length<=100000) :
    bS prog 245 #[.agg #[aF c.ID,aF c.aB,gK c.Sum,.slice BO c.aD.length Bq],.slice jl l.length jk,.slice kC aG.length ku,.slice nC aZ.length nA,aF bW] w λv w'=>v=.tuple #[aF ((Ve c l aG aZ bW).1),.bool ((Ve c l aG aZ bW).2)]/\Hp w S0 w' []:=by
 refine kP S0 func245 ntmps245 Y λH0=>?_;have hgl:=amV c l aG;refine rg<|bx Y Y H0 λg1 w1 K1=>bx Y Y K1 λg2 w2 K2=>bx Y Y K2 λg3 w3 K3=>iI Y<|bU Y<|rg<|ev (dU qw Y Y (K3.x s2))<|nO K3 s1 Y<|mv Y<|gX Y (XF _ c (K3.a GZ).any (K3.a jo).any (K3.a kM).any aj aj) ?_
 rintro _ w4 ⟨sO,sP,rfl,h4⟩;have K4:=K3.f1 h4;have aJB:=(K4.o s0).bH;refine bU Y<|aW<|bQ Y<|ev (fC Y Y)<|mv Y<|iP 5 29 ((decide (bW<1))||(decide ((((jH c l aG).length:Nat):Int)<bW))) ?_ ?_
 ·cases auV:decide (bW<1) with
  | true=>
   refine dN<|dN<|dN<|dN<|ev (dH Y Y)<|dM Y
  | false=>
   have aCq:=iJ auV;refine bn Y (bf Y) Y<|bn Y (eU fB Y) Y<|bn Y (bf Y) Y<|bn Y (fC Y Y) Y<|ev (dL Y Y)<|dM Y
 refine dn<|bK Y (λhc29=>?_) (λhc29=>?_)
 ·try simp only [fq,dX,bO,bV] at hc29
  refine rg<|iI Y<|bU Y<|uX Y ?_
  have eO:(0:Int)=((Ve c l aG aZ bW).1):=by rw [akn aj]
  have fQ:(false:Bool)=((Ve c l aG aZ bW).2):=by rw [akn aj]
  exact⟨by rw [<- eO,<- fQ] <;> rfl,K4.z⟩
 try simp only [fq,dX,bO,bV] at hc29
 refine jm ?_;refine aW<|rg<|ev (dU qw Y Y (K4.x s3))<|nO K4 s2 Y<|mv Y<|gX Y (apM _ c (K4.a GZ).any (K4.a jo).any (K4.a kM).any aj aj) ?_
 rintro _ w5 ⟨yS,yT,rfl,h5⟩;have K5:=K4.f1 h5;have axr:=(K5.o s0).bH;refine bU Y<|bQ Y<|ev (eU fB Y)<|ev (pV Y Y)<|dn<|mQ Y (λO8=>?_) (λO8=>?_)
 ·refine bQ Y ?_;obtain⟨x1,bP⟩:=bC (xs:=O7 c l aG) (i:=0) aj;refine ev (cu (i:=0) fB rZ Y Y Y (aJ bP) ((K5.o s0).some_ bP))<|ev (iL jD Y ((K5.o s0).fF (j:=0) bP Y))<|iI Y<|bU Y<|uX Y ?_
  have jW:(x1:Int)=((Ve c l aG aZ bW).1):=by rw [afq aj bP]
  have mH:(true:Bool)=((Ve c l aG aZ bW).2):=by rw [afq aj bP]
  exact⟨by rw [<- jW,<- mH] <;> rfl,K5.z⟩
 refine jm ?_;refine aW<|bQ Y<|ev (eU fB Y)<|mv Y<|ev (iA Y Y)<|dn<|mQ Y (λxE=>?_) (λxE=>?_)
 ·refine rg<|iI Y<|bU Y<|uX Y ?_
  have rR:(0:Int)=((Ve c l aG aZ bW).1):=by rw [afr aj aj aj]
  have wM:(false:Bool)=((Ve c l aG aZ bW).2):=by rw [afr aj aj aj]
  exact⟨by rw [<- rR,<- wM] <;> rfl,K5.z⟩
 refine jm ?_;refine rg<|mkc K5 Y λg4 w6 K6=>al apW Y K6 λg5 w7 K7=>xP Y K7 s0 Y λw8 K8=>dn<|aW<|bQ Y<|ev (eU fB Y)<|mv Y<|dn<|cB ?_
 have zk:[]=(Gs l ((jH c l aG).take 0)):=by rfl
 rw [zk] at K8;refine pK (λmJ lJ wJ=>∃(k:Nat),lJ=[(6,gD g2),(8,gD g3),(12,.slice sO ((jH c l aG).length) sP),(14,gD g5),(45,.slice sO ((jH c l aG).length) sP),(46,aF (((jH c l aG).length:Nat):Int)),(47,aF ((k:Nat):Int))]/\mJ=(jH c l aG).length - k/\k<=(jH c l aG).length/\Hp w S0 wJ [ao2 g4 (Gs l ((jH c l aG).take k)),dY g5 338 [.map (some g4)],aS dQ 3 yS yT (O7 c l aG),aS dQ 3 sO sP (jH c l aG),dY g3 154 [.slice nC aZ.length nA],dY g2 41 [.slice jl l.length jk],dY g1 59 [aF c.ID,aF c.aB,gK c.Sum,.slice BO c.aD.length Bq]]) ⟨0,Y,Y,fJ _,((K8.sel s0).sel s1)⟩ Y ?_;rintro _ _ w9 ⟨k,rfl,rfl,hk,K9⟩;refine rg<|ev (fC Y Y)<|dn<|pQ Y (λaiP=>?_) (λaiP=>?_)
 ·refine jm ?_;refine aW<|cB<|rg ?_
  obtain⟨x2,kZ⟩:=bC (xs:=jH c l aG) (i:=k) aj;refine ev (cu (i:=k) fB rZ Y Y Y (aJ kZ) ((K9.o s3).some_ kZ))<|ev (iL jD Y ((K9.o s3).fF (j:=0) kZ Y))<|bU Y ?_
  have hcb:0<=EX (Gs l ((jH c l aG).take k)) ((gU l x2).lT)/\EX (Gs l ((jH c l aG).take k)) ((gU l x2).lT)<=((jH c l aG).take k).length:=auS l _ _
  simp only [fO] at hcb
  refine Hf K9 (λ_ K=>(K.rm s0)) (λl0 rk lJ wJ=>lJ=l0/\Hp w S0 wJ (ao2 g4 (IC (Gs l ((jH c l aG).take k)) ((gU l x2).lT) ((EX (Gs l ((jH c l aG).take k)) ((gU l x2).lT))+1))::rk)) (λhns H1=>?_) ?_
  ·have k1:=(H1.rm s0);refine Ci 0 s0 Y k1<|Ci 1 s4 Y k1<|kX 2 Y Y k1<|O1 3 Y<|mU H1 Y (afo _ (H1.a jo).any x2 aj) λOz K10=>?_
   have k2:=(K10.rm s0);refine aQ k2<|O1 4 Y<|ev (Ev.axd (K10.obj s0) (TN _ _) underlying338 iQ aiM Y Y)<|aQ k2<|lD 5 Y (λ_ _=>dO Y Y) k2<|O1 6 Y<|aGT (TN _ _) K10 s0 Y Y Y underlying338 iQ λTi tZ=>?_
   have k3:=(tZ.rm s0);refine aQ k3<|Dn ⟨Y,tZ⟩ Y
  rintro _ Sm ⟨rfl,sJ⟩;refine iE (gG ?_);refine jy<|ev (dO Y Y)<|mv Y<|jA ?_
  have hq8:(IC (Gs l ((jH c l aG).take k)) ((gU l x2).lT) ((EX (Gs l ((jH c l aG).take k)) ((gU l x2).lT))+1))=(Gs l ((jH c l aG).take (k+1))):=by rw [amZ kZ]; rfl
  rw [hq8] at sJ;exact dI ⟨(k+1),Y,Y,aj,sJ⟩ rfl aj
 refine wE ?_;refine rg<|ev (rW Y)<|al akp Y K9 λg6 Xu wz=>xP Y wz s0 Y λZ0 wB=>dn<|bQ Y<|ev (rW Y)<|mU wB Y (Z8 _ (wB.o s4) (apV:=[gD g6,gD g3]) azc (fun(x:Int) (t:Int)=>exC (Gs l ((jH c l aG).take k)) l aZ x t) (λw' x t e hm=>(auT w' x t (Gs l ((jH c l aG).take k)) (TN _ _) ((wB.x s2).ext e) ((show Mp _ _ _ from wB.obj s1).ext e) ((wB.x s6).ext e) ((wB.a jo).any.ext e) ((wB.x s0).ext e) ((wB.x s5).ext e) ((wB.a oJ).any.ext e) aj).mono (by rintro _ _ ⟨rfl,fQ⟩; exact⟨rfl,fQ.ext⟩)) aj) λZ4 zB=>iI rfl<|bU rfl<|jc rfl ?_
 have AJ:((I6 (fun(x:Int) (t:Int)=>exC (Gs l ((jH c l aG).take k)) l aZ x t) (jH c l aG)):Int)=((Ve c l aG aZ bW).1):=by rw [ako aj aj aj,iH (show(jH c l aG).length<=k by omega)]
 have r9:(true:Bool)=((Ve c l aG aZ bW).2):=by rw [ako aj aj aj]
 exact⟨by rw [AJ,<- r9] <;> rfl,zB.z⟩
structure fK where
  Node:Int
  At:Int
  deriving DecidableEq
def fK.enc(x:fK):List Value:=[.int .i64 x.Node,.int .i64 x.At]
theorem fK.lF(x:fK):∀ u∈x.enc,u.oneCell'=true:=by
  intro u hu
  simp only [fK.enc,iX,lM,sN] at hu
  rcases hu with rfl | rfl <;> rfl
def iO:Ty fK:=Ty.flat 2 fK.enc au (λ_=>rfl) fK.lF
instance:Flat iO:=⟨λh=>h⟩
def XI(b:fK):Bool:=decide (1<=b.Node)&&decide (b.Node<=16)&&decide (0<=b.At)&&decide (b.At<=1099511627776)
def xU:Int->List fK->Bool
  | _,[]=>true
  | last,b::l=>XI b&&decide (last<b.Node)&&xU b.Node l
def jB(l:List fK):List fK:=if xU 0 l then l else[]
def OD(l:List fK)(k:Nat):Int:=match (l.take k).getLast? with | some b=>b.Node | none=>0
theorem XJ:∀(l:List fK)(b:fK)(z:Int),xU z (l++[b])=(xU z l&&XI b&&decide ((match l.getLast? with | some c=>c.Node | none=>z)<b.Node))
  | [],b,z=>by simp [xU]; try rfl
  | c::l,b,z=>by
    have ih:=XJ l b c.Node
    simp only [aax,xU,ih]
    cases l with
    | nil=>simp [XD]; try rfl
    | cons d l=>simp [XD,List.getLast?_cons_cons]; cases hl:(d::l).getLast? <;> simp_all
theorem XK{l:List fK}{b:fK}(h:xU 0 (l.take k)=true)(hx:l[k]? = some b):xU 0 (l.take (k+1))=(XI b&&decide (OD l k<b.Node)):=by
  rw [fD hx,XJ,h]; simp [OD]; try rfl
theorem aaT:∀(l m:List fK)(z:Int),xU z (l++m)=true->xU z l=true
  | [],m,z,_=>rfl
  | b::l,m,z,h=>by
    simp only [aax,xU,bN] at h ⊢
    exact⟨h.1,aaT l m _ h.2⟩
theorem aiQ{l:List fK}{b:fK}(hx:l[k]? = some b):OD l (k+1)=b.Node:=by
  unfold OD; rw [fD hx]; simp
theorem am1{l:List fK}{b:fK}(h:xU 0 (l.take k)=true)(hx:l[k]? = some b)(hb:(XI b&&decide (OD l k<b.Node))=false):jB l=[]:=by
  unfold jB;rw [aK];intro h1;have h2:=aaT (l.take (k+1)) (l.drop (k+1)) 0 (by rw [uF]; exact h1);rw [XK h hx,hb] at h2
  cases h2
theorem apX{l:List fK}(h:xU 0 l=true):jB l=l:=by unfold jB; rw [aO h]
theorem G8:eu prog 107 0 0:=ay
theorem LG:eu prog 107 1 1:=ay
theorem apY  : ∀ w,(Instr.buildSlice 47 0 (List.toArray [])).run prog w=.ok (.slice (some ⟨w.heap.size,0,none⟩) 0 0) (w.alloc (.cells (List.toArray []) 107)):=ay
theorem apZ:lW prog 107 2 16:=by
  obtain⟨i,h1,h2,h3,h4⟩:=tX (show(prog.info? 107).map (λi=>(i.zero,i.size,i.bytes))=some (some (.agg #[aF 0,aF 0]),2,16) by kernel_rfl);exact⟨i,_,h1,h2,h3,h4,Y⟩
theorem LH:Size prog 107 2:=ay
theorem I7:Agg prog 107 2:=⟨λ_=>by kernel_rfl,LH⟩
theorem QM:∀ w,(zeroValue 107).run prog w=.ok (.agg #[aF 0,aF 0]) w:=ay
theorem akq(w:World)(b:fK) :
    bS prog 182 #[.agg #[aF b.Node,aF b.At]] w λv w'=>v=.bool (XI b)/\Hp w S0 w' []:=by
 refine kP S0 func182 ntmps182 Y λH0=>rg<|bx Y Y H0 λg1 w1 K1=>bU Y<|rg<|jT g1 0 G8 K1 s0 Y<|ev (qK Y Y)<|mv Y<|iP 4 10 ((decide (1<=b.Node))&&(decide (b.Node<=16))) ?_ ?_
 ·cases hb6:decide (1<=b.Node) with
  | true=>
   refine wL g1 0 G8 K1 s0 Y<|bn Y (vS Y Y) Y<|ev (dH Y Y)<|dM Y
  | false=>
   refine dN<|dN<|dN<|ev (dL Y Y)<|dM Y
 refine mv Y<|iP 4 15 (((decide (1<=b.Node))&&(decide (b.Node<=16)))&&(decide (0<=b.At))) ?_ ?_
 ·cases Tv:((decide (1<=b.Node))&&(decide (b.Node<=16))) with
  | true=>
   have Lm:=Tv
   try simp only [bN,eH,bO,bV] at Lm
   refine wL g1 1 LG K1 s0 Y<|bn Y (qK Y Y) Y<|ev (dH Y Y)<|dM Y
  | false=>
   refine dN<|dN<|dN<|ev (dL Y Y)<|dM Y
 refine mv Y<|iP 4 20 ((((decide (1<=b.Node))&&(decide (b.Node<=16)))&&(decide (0<=b.At)))&&(decide (b.At<=1099511627776))) ?_ ?_
 ·cases Vd:(((decide (1<=b.Node))&&(decide (b.Node<=16)))&&(decide (0<=b.At))) with
  | true=>
   have Qw:=Vd
   try simp only [bN,eH,bO,bV] at Qw
   refine wL g1 1 LG K1 s0 Y<|bn Y (vS Y Y) Y<|ev (dH Y Y)<|dM Y
  | false=>
   refine dN<|dN<|dN<|ev (dL Y Y)<|dM Y
 refine bU Y<|jc Y ?_
 have eO:(((((decide (1<=b.Node))&&(decide (b.Node<=16)))&&(decide (0<=b.At)))&&(decide (b.At<=1099511627776))):Bool)=(XI b):=by rfl
 exact⟨by rw [eO] <;> rfl,(K1.rm s0)⟩
theorem Dt(w:World){uY:Nat}{s:List fK}(mP:Sl iO S0 w vY uY s)(hn:s.length<=1000000) :
    bS prog 61 #[.slice vY s.length uY] w λv w'=>∃(A0:ah)(c0:Nat),v=.slice A0 s.length c0/\Hp w S0 w' [aS iO 107 A0 c0 s]:=by
 refine kP S0 func61 ntmps61 Y λH0=>iZ Y<|aW<|bQ Y<|ev (Ov Cj Y Y)<|dn<|bK Y (λhc4=>?_) (λhc4=>?_)
 ·refine iZ Y<|uX Y ?_
  have H1:=H0.nil iO 107;have eO:(([]:List fK):List fK)=s:=by have h1:=mP.nil (by simpa using hc4); have h2:=mP.cap; exact(uE aj).symm
  have H2:=(eO▸H1:Hp w S0 w (aS iO 107 none 0 s::[]));exact⟨none,0,by rw [<- eO] <;> rfl,H2⟩
 refine jm ?_;refine rg<|bs0 (τ:=iO) (vs:=[]) Y (by intro _; apply apY) rfl H0 λg1 w1 K1=>mv rfl<|ap (ys:=s) K1 s0 rfl rfl (K1.a mP).any Cj apZ av (by first | omega | (simp; omega) | (simp; done)) rfl λoL oM w2 K2=>bU rfl<|jc rfl ?_
 have fQ:((([]:List fK)++s):List fK)=s:=by simp
 rw [fQ] at K2;exact⟨oL,oM,by rw [fQ] <;> rfl,K2⟩
theorem afs(w:World){l:List fK}(jo:Sl iO S0 w jl jk l)(hn:l.length<=800000) :
    bS prog 181 #[.slice jl l.length jk] w λv w'=>∃(A0:ah)(c0:Nat),v=.slice A0 ((jB l).length) c0/\Hp w S0 w' [aS iO 107 A0 c0 (jB l)]:=by
 refine kP S0 func181 ntmps181 Y λH0=>iZ Y<|iZ Y<|aW<|bQ Y<|ev (eU Cj Y)<|mv Y<|dn<|cB ?_
 have eO:(0:Int)=OD l 0:=by simp [OD]
 refine lC (t:=3) Y (aR (Value.int .i64) eO)<|Lp H0 (λl0 rk mJ lJ wJ=>∃(k:Nat),lJ=(3,aF (OD l k))::(8,aF ((k:Nat):Int))::l0/\mJ=l.length - k/\k<=l.length/\(xU 0 (l.take k)=true)/\Hp w S0 wJ rk) ⟨0,Y,Y,fJ _,by simp [xU],H0⟩ rfl ?_
 rintro _ _ w1 ⟨k,rfl,rfl,hk,hrise,K1⟩;refine rg<|ev (fC Y Y)<|dn<|pQ Y (λER=>?_) (λER=>?_)
 ·refine jm ?_;refine aW<|cB<|rg ?_
  obtain⟨x1,bP⟩:=bC (xs:=l) (i:=k) aj;refine ev (cu (i:=k) Cj LH Y Y Y (aJ bP) ((K1.a jo).some_ bP))<|ev (gI I7 Y Y ((K1.a jo).fE bP))<|al QM Y K1 λg1 w2 K2=>sty Y K2 s0 Y λw3 K3=>dn<|aW<|rg<|ev (dU I7 Y Y (K3.x s0))<|mU K3 Y (akq (S0:=Any) _ x1) λw4 K4=>ev (iB Y)<|mv Y<|iP 5 20 ((!(XI x1))||(decide (x1.Node<=OD l k))) ?_ ?_
  ·cases Tc:(!(XI x1)) with
   | true=>
    refine dN<|dN<|dN<|dN<|ev (dH Y Y)<|dM Y
   | false=>
    refine wL g1 0 G8 K4 s0 Y<|bn Y (bf Y) Y<|bn Y (vS Y Y) Y<|ev (dL Y Y)<|dM Y
  refine dn<|bK Y (λlN=>?_) (λlN=>?_)
  ·try simp only [fq,dX,bN,eH,eG,fP,bO,bV] at lN
   refine iZ Y<|jf (fT (jg (fT (fT (jg (fT (zA Y ?_)))))))
   have H1:=K4.nil iO 107;have fQ:(([]:List fK):List fK)=(jB l):=by refine(am1 hrise bP ?_).symm; rcases lN with h1 | h1; simp [h1]; simp; intro _; omega
   have H2:=(fQ▸H1:Hp w S0 w4 (aS iO 107 none 0 (jB l)::[dY g1 107 [aF x1.Node,aF x1.At]]));exact⟨none,0,by rw [<- fQ] <;> rfl,(H2.rm s1)⟩
  try simp only [fq,dX,bN,eH,eG,fP,bO,bV] at lN
  refine jm ?_;refine jy<|jT g1 0 G8 K4 s0 Y<|iI Y<|jA<|iE (gG ?_)
  refine jy<|ev (dO Y Y)<|mv Y<|jA ?_
  have jW:(x1.Node:Int)=OD l (k+1):=by exact(aiQ bP).symm
  refine jq (t:=3) Y (aR (Value.int .i64) jW)<|dI ⟨(k+1),Y,Y,aj,by rw [XK hrise bP]; obtain⟨h1,h2⟩:=lN; simp [h1]; omega,(K4.rm s0)⟩ rfl aj
 refine wE ?_;refine bQ Y<|gX Y (Dt _ (K1.a jo).any aj) ?_
 rintro _ w5 ⟨yS,yT,rfl,h5⟩;have K5:=K1.f1 h5;refine bU Y<|jc Y ?_
 have mH:(l:List fK)=(jB l):=by rw [iH aj] at hrise; exact(apX hrise).symm
 have H3:=(mH▸K5:Hp w S0 w5 [aS iO 107 yS yT (jB l)]);exact⟨yS,yT,by rw [<- mH] <;> rfl,H3⟩
theorem G9(l:List fK):(jB l).length<=l.length:=by unfold jB; split <;> simp
def XL(b:fK)(lG:Int):Int:=b.At+(if(1099511627776:Int)<(if 0>lG then 0 else lG) then 1099511627776 else(if 0>lG then 0 else lG))
def OE(aN lG:Int)(b:fK):Bool:=decide (aN<=XL b lG)
def LJ(l:List fK)(aN lG:Int):List fK:=(jB l).filter (OE aN lG)
theorem aaU:∀(l:List fK)(z:Int),xU z l=true->∀ b∈l,XI b=true
  | [],_,_,b,hb=>by simp at hb
  | c::l,z,h,b,hb=>by
    simp only [xU,bN] at h
    rcases iX.1 hb with rfl | hb
    · exact h.1.1
    · exact aaU l _ h.2 b hb
theorem ap0{l:List fK}{b:fK}(hb:b∈jB l):1<=b.Node/\b.Node<=16/\0<=b.At/\b.At<=1099511627776:=by
  unfold jB at hb; split at hb
  · rename_i h; have:=aaU l 0 h b hb; simp only [XI,bN,bO] at this; exact⟨this.1.1.1,this.1.1.2,this.1.2,this.2⟩
  · simp at hb
theorem aiR{α:Type}{p:α->Bool}{l:List α}{x:α}(hx:l[k]? = some x)(hp:p x=true):(l.take k).filter p++[x] <+: l.filter p:=by
  refine⟨(l.drop (k+1)).filter p,?_⟩;have h1:=lX (p:=p) hx;rw [aO hp] at h1;rw [<- h1,<- vX,uF]
theorem azd:bF prog 263:=ay
theorem acy:∀ w,(zeroValue 55).run prog w=.ok (.slice none 0 0) w:=ay
theorem aze:bF prog 262:=ay
theorem auW(w:World)(b:fK)(lG:Int)(hA:0<=b.At/\b.At<=1099511627776) :
    bS prog 263 #[.agg #[aF b.Node,aF b.At],aF lG] w λv w'=>v=aF (XL b lG)/\Hp w S0 w' []:=by
 refine kP S0 func263 ntmps263 Y λH0=>rg<|bx Y Y H0 λg1 w1 K1=>bU Y<|rg<|jT g1 1 LG K1 s0 Y<|mv Y<|ev (Ev.max2 Y Y)<|ev (Ev.min2 Y Y)<|ev (Ev.add Y Y (wQ (by split <;> (try split) <;> omega) (by split <;> (try split) <;> omega)))<|bU rfl<|jc rfl ?_
 have eO:(b.At+(if 1099511627776<(if 0>lG then 0 else lG) then 1099511627776 else(if 0>lG then 0 else lG)):Int)=(XL b lG):=by rfl
 exact⟨by rw [eO] <;> rfl,(K1.rm s0)⟩
abbrev zB10x2z(iD:ah)(ji:List fK)(uS:Nat):List Value:=[.slice iD ji.length uS]
theorem acz{b:World}{S:Nat->Prop}{gl gn gt:Nat}{l:List fK}{aN lG:Int}(hn:l.length<=800000) :
    Iter prog 262 [gD gl,gD gn,gD gt] (fun(x:fK)=>[.agg #[aF x.Node,aF x.At]]) (LJ l aN lG) b S [dY gl 47 (zB10x2z jl l jk),dY gn 3 [aF aN],dY gt 3 [aF lG],dP iO jl jk l]:=by
 intro lr Jf Jx w F0 H0 h0 hY;refine WP.ah3 func262 Y ntmps262 Y ?_;have K0:=uN (F:=F0) H0;have hf:=G9 l;refine rg<|nO K0 s0 Y<|gX Y (afs _ (K0.s s3).any aj) ?_
 rintro _ w1 ⟨j6,kg,rfl,h1⟩;have K1:=K0.f1 h1;have Lj:=(K1.o s0).bH;refine ev (eU Cj Y)<|mv Y<|dn<|cB<|pK (λmJ lJ wJ=>∃(k:Nat)(F:List lH),lJ=[(0,.func (.yield lr) #[] #[]),(2,gD gn),(3,gD gt),(8,.slice j6 ((jB l).length) kg),(9,aF (((jB l).length:Nat):Int)),(10,aF ((k:Nat):Int))]/\mJ=(jB l).length - k/\k<=(jB l).length/\(Jf (((jB l).take k).filter (OE aN lG)) F)/\Hp b S wJ (aS iO 107 j6 kg (jB l)::dY gl 47 (zB10x2z jl l jk)::dY gn 3 [aF aN]::dY gt 3 [aF lG]::dP iO jl jk l::F)) ⟨0,F0,Y,Y,fJ _,by simpa using h0,K1⟩ rfl ?_
 rintro _ _ w2 ⟨k,F,rfl,rfl,hk,hJt,K2⟩;refine rg<|ev (fC Y Y)<|dn<|pQ Y (λIQ=>?_) (λIQ=>?_)
 ·refine jm ?_;refine aW<|cB<|rg ?_
  obtain⟨x1,bP⟩:=bC (xs:=jB l) (i:=k) aj;refine ev (cu (i:=k) Cj LH Y Y Y (aJ bP) ((K2.o s0).some_ bP))<|ev (gI I7 Y Y ((K2.o s0).fE bP))<|al QM Y K2 λg1 w3 K3=>sty Y K3 s0 Y λw4 K4=>dn<|WP.dr ak ?_
  have H1:=K4.grow (pI w4).drew;refine wiz H1 [(0,14,aF aN),(1,15,.agg #[aF x1.Node,aF x1.At]),(2,16,aF lG),(3,17,aF (XL x1 lG)),(4,18,.bool (decide (aN<=XL x1 lG))),(5,19,.bool (decide (aN<=XL x1 lG)))] 5 (abZ ak) (GL Y (λ_ hK=>(dx jD Y (hK.x s3) Y))<|GL Y (λ_ hK=>(dU I7 Y Y (hK.x s0)))<|GL Y (λ_ hK=>(dx jD Y (hK.x s4) Y))<|qcz Y (Qi.call Y Y Y azd (λ_ hK=>(auW (S0:=Any) _ x1 lG (ap0 (bT bP)).2.2).mono (by rintro _ _ ⟨rfl,fQ⟩; exact⟨rfl,hK.grow fQ.ext⟩)))<|GL rfl (λ_ hK=>(vS rfl rfl))<|GL rfl (λ_ hK=>(bf rfl))<|qnz) λw5 K5=>?_
  cases Z9:decide (aN<=XL x1 lG) with
  | true=>
   have ap1:=gW Z9;refine wiz K5 [(6,20,.func (.yield lr) #[] #[]),(7,21,.agg #[aF x1.Node,aF x1.At])] 3 ak (Oh Y (λ_ hK=>(bf Y))<|Oh Y (λ_ hK=>(dU I7 Y Y (hK.x s0)))<|qnz) λw6 K6=>?_;refine WI.one 8 ak Y ?_;have hy1:=hY (((jB l).take k).filter (OE aN lG)) x1 _ _ [dY g1 107 [aF x1.Node,aF x1.At],aS iO 107 j6 kg (jB l)] hJt (aiR bP (by exact Z9)) (uN (F:=[dY gl 47 (zB10x2z jl l jk),dY gn 3 [aF aN],dY gt 3 [aF lG],dP iO jl jk l,dY g1 107 [aF x1.Node,aF x1.At],aS iO 107 j6 kg (jB l)]) ((K6.mV 0 2).mV 2 4));refine WL.yield Y Y Y hy1 (by rintro e w' (⟨rfl,_⟩ | ⟨rfl,_⟩) <;> exact⟨_,rfl⟩) rfl rfl rfl ?_;rintro v w7 (⟨hv,F1,hJ1,K7⟩ | ⟨hv,F1,hJ1,K7⟩)
   ·cases hv
    have K7c:=uN (F:=F1) K7;refine WI.nx<|wiz K7c [(9,23,.bool false),(10,24,.bool false)] 0 ak (Oh Y (λ_ hK=>(iB (b:=true) Y))<|GL Y (λ_ hK=>(dH Y Y))<|qnz) λw8 K8=>?_
    refine WI.dn ak<|bK Y nofun (λ_h=>?_)
    refine xQ ?_;refine jy<|ev (dO Y Y)<|mv Y<|jA<|dI ⟨(k+1),F1,Y,Y,aj,by rw [lX bP]; first | (rw [aO (show OE aN lG x1=true from Z9)]; assumption) | (rw [aK (show ¬ OE aN lG x1=true by rw [show OE aN lG x1=false from Z9]; decide),yN]; exact hJt),(((K8.rm s4).mV 0 4).sel s4)⟩ rfl aj
   ·cases hv
    have K7c:=uN (F:=F1) K7;refine WI.nx<|wiz K7c [(9,23,.bool true),(10,24,.bool true)] 0 ak (Oh Y (λ_ hK=>(iB (b:=false) Y))<|GL Y (λ_ hK=>(dH Y Y))<|qnz) λw9 K9=>?_
    refine WI.dn ak<|bK Y (λ_h=>?_) nofun
    exact jf (jg (fT (fT (jg (l8.amf Y ⟨⟨_,Y⟩,.inr ⟨_,_,hJ1,(uN (F:=[dY gl 47 (zB10x2z jl l jk),dY gn 3 [aF aN],dY gt 3 [aF lG],dP iO jl jk l]) (K9.cU 4 2))⟩⟩)))))
  | false=>
   have ap1:=iJ Z9;refine wiz K5 [(6,20,undef),(7,21,undef),(8,22,undef),(9,23,undef),(10,24,.bool false)] 0 ak (zM Y<|zM Y<|zM Y<|zM Y<|GL Y (λ_ hK=>(dL Y Y))<|qnz) λOz K10=>?_;refine WI.dn ak<|bK Y nofun (λ_h=>?_)
   refine xQ ?_;refine jy<|ev (dO Y Y)<|mv Y<|jA<|dI ⟨(k+1),F,Y,Y,aj,by rw [lX bP]; first | (rw [aO (show OE aN lG x1=true from Z9)]; assumption) | (rw [aK (show ¬ OE aN lG x1=true by rw [show OE aN lG x1=false from Z9]; decide),yN]; exact hJt),(K10.rm s0)⟩ rfl aj
 exact qJ (lu (lu (rE (l8.aoY (l8.amf Y ⟨⟨_,Y⟩,.inl ⟨_,by rw [iH aj] at hJt; exact hJt,(uN (F:=[dY gl 47 (zB10x2z jl l jk),dY gn 3 [aF aN],dY gt 3 [aF lG],dP iO jl jk l]) (K2.rm s0))⟩⟩)))))
theorem am2(w:World){l:List fK}(jo:Sl iO S0 w jl jk l)(aN:Int)(lG:Int) :
    bS prog 172 #[.slice jl l.length jk,aF aN,aF lG] w λv w'=>∃(afh:Nat)(afi:Nat)(aCr:Nat),v=.func (.func 262) #[] #[gD afh,gD afi,gD aCr]/\Hp w S0 w' [dY afh 47 [.slice jl l.length jk],dY afi 3 [aF aN],dY aCr 3 [aF lG]]:=by
 refine kP S0 func172 ntmps172 Y λH0=>rg<|bx Y Y H0 λg1 w1 K1=>bx Y Y K1 λg2 w2 K2=>bx Y Y K2 λg3 w3 K3=>bU Y<|rg<|ev (rW Y)<|bU Y<|jc Y ?_
 exact⟨g1,g2,g3,Y,(((K3.sel s0).sel s1).sel s2)⟩
theorem OG(w:World){l:List fK}(jo:Sl iO S0 w jl jk l)(aN:Int)(lG:Int)(hn:l.length<=800000) :
    bS prog 102 #[.slice jl l.length jk,aF aN,aF lG] w λv w'=>∃(A0:ah)(c0:Nat),v=.slice A0 (((LJ l aN lG).map fK.Node).length) c0/\Hp w S0 w' [aS dQ 3 A0 c0 ((LJ l aN lG).map fK.Node)]:=by
 refine aBS S0 func102 ntmps102 Y λH0=>?_;have hlv:(LJ l aN lG).length<=800000:=by have h1:=mR (OE aN lG) (jB l); have h2:=G9 l; unfold LJ; omega
 refine iZ Y<|rg<|al acy Y H0 λg1 w1 K1=>dn<|aW<|bQ Y<|mv Y<|mv Y<|gX Y (am2 _ (K1.a jo).any aN lG) ?_
 rintro _ w2 ⟨I8,azf,azg,rfl,h2⟩;have K2:=K1.f3 h2;refine dn<|cB ?_
 have H1:=K2.push (K2.a jo);have H2:=H1.nil dQ 3;refine WP.range (enc:=fun(x:fK)=>[.agg #[aF x.Node,aF x.At]]) (ys:=LJ l aN lG) (F0:=[dY g1 55 [.slice none (([].map fK.Node).length) 0],aS dQ 3 none 0 []]) (G0:=[dY I8 47 [.slice jl l.length jk],dY azf 3 [aF aN],dY azg 3 [aF lG],dP iO jl jk l]) Y aze (acz aj) (((H2.sel s1).mV 1 4).sel s5) (λ_=>Y) Y (λpre Fj=>∃(A:ah)(c:Nat),Fj=[dY g1 55 [.slice A ((pre.map fK.Node).length) c],aS dQ 3 A c (pre.map fK.Node)]) (λc pre Fj=>False) (λpre x l1 Fj=>∃(A:ah)(c:Nat)(UH:Nat),l1=[(7,gD g1),(8,gD UH)]/\Fj=[dY UH 107 [aF x.Node,aF x.At],dY g1 55 [.slice A ((pre.map fK.Node).length) c],aS dQ 3 A c (pre.map fK.Node)]) ⟨none,0,Y⟩ ?_ ?_ ?_ ?_
 ·rintro lr pre x _ G w3 ⟨A,c,rfl⟩ hpre K3;refine jy<|al QM Y K3 λg2 w4 K4=>sty Y K4 s0 Y λw5 K5=>jA<|l8.ap ⟨A,c,g2,Y,Y⟩ Y K5
 ·rintro lr pre x _ _ G w6 ⟨A,c,UH,rfl,rfl⟩ hpre K6;have hpl:(pre.map fK.Node).length<=800000:=by have h1:=hpre.length_le; simp at h1 ⊢; omega
  refine cB<|jy<|nO K6 s1 Y<|jT UH 0 G8 K6 s0 Y<|Az (τ:=dQ) (x:=x.Node) Y (by intro _; apply pW) rfl K6 (λ_ _=>rfl) λg3 w7 K7=>ap (ys:=([x.Node]:List Int)) K7 s3 rfl rfl (K7.o s0) fB Lh aj av rfl λoL oM w8 K8=>xP rfl K8 s3 rfl λw9 K9=>jA<|iE ?_
  have eO:(((pre.map fK.Node)++([x.Node]:List Int)):List Int)=((pre++[x]).map fK.Node):=by simp
  rw [eO] at K9;exact l8.rn ⟨oL,oM,Y⟩ (K9.cU 2 2)
 ·rintro D _ Oz ⟨A,c,rfl⟩ K10;refine iE (gG ?_);refine rg<|nO K10 s5 Y<|bU Y<|jf (l8.ame K10 Y λTi tZ=>⟨_,⟨_,_,Y,Y,Y⟩,?_⟩)
  exact⟨A,c,Y,(tZ.cU 0 5)⟩
 ·rintro D c pre F w h _;exact h.elim
end Go.Proofs.YtlhnnmlenkahlaaGreat
