/- Lemmas. -/
import Derived.Test.YtlhnnmlenkahlaaGreatvG9
set_option maxRecDepth 4000
set_option linter.all false
namespace Go.Proofs.YtlhnnmlenkahlaaGreat
open Go.RowKit Go.Proofs.Tryz
def xD:=@List.foldl_append
def U4:=@Bool.and_assoc
def Ao:=@underlying47
variable {l:List aW}{aG dw:List Int}{aX:List gq}{k jg jO l8 Gm Br g_l:Nat}{n:aW}{S0:Nat->Prop}{jl jP l9 CW u7:ah}{s:List (Int × Int)}{cf:Int->Int->Int}{c:aI}{bW:Int}
def bt(x y u z:Nat):Bool:=if x≠u then decide (x<u) else decide (y<z)
abbrev zN(aX:List gq)(n:aW):Nat:=(nK aX n.ID).toNat
def tgF(l:List aW)(aG:List Int)(aX:List gq)(dw:List Int)(b:Option aW)(n:aW):Option aW:=if Ih l aG aX dw n.ID=true then(match b with | none=>some n | some m=>if bt (wR (kr l dw) n) (zN aX n) (wR (kr l dw) m) (zN aX m)=true then some n else some m) else b
def sD(l:List aW)(aG:List Int)(aX:List gq)(dw:List Int)(M:List aW):Option aW:=M.foldl (tgF l aG aX dw) none
def zR(b:Option aW):Int:=match b with | none=>0 | some m=>m.ID
theorem getD_some{b:Option aW}(h:(!b.isSome)=false):b=some (b.getD ⟨0,0,0,0⟩):=by
  cases b with
  | none=>cases h
  | some m=>rfl
theorem QH(l:List aW)(aG:List Int)(aX:List gq)(dw:List Int)(b:Option aW)(n:aW):tgF l aG aX dw b n=if(Ih l aG aX dw n.ID&&(!b.isSome||bt (wR (kr l dw) n) (zN aX n) (wR (kr l dw) (b.getD ⟨0,0,0,0⟩)) (zN aX (b.getD ⟨0,0,0,0⟩))))=true then some n else b:=by
  unfold tgF
  cases hp:Ih l aG aX dw n.ID with
  | false=>rfl
  | true=>
    cases b with
    | none=>rfl
    | some m=>
      show(if bt _ _ _ _=true then some n else some m)=if(true&&(false||bt _ _ _ _))=true then some n else some m;rw [Bool.true_and,Bool.false_or]; rfl
def QI(old:List Int)(aX:List gq)(b:Option aW):Value:=match b with | none=>.complex .f64 0 0 | some m=>.complex .f64 (fb (wR old m)) (wIm (old.contains m.kM) (wZ aX m))
theorem Fe{M:List aW}(hn:M[k]? = some n):sD l aG aX dw (M.take (k+1))=tgF l aG aX dw (sD l aG aX dw (M.take k)) n:=by
  unfold sD; rw [fI hn,xD]; rfl
theorem acD(hn:n∈l)(h:Ih l aG aX dw n.ID=true):uR l=true/\gP l n.ID=n/\n.gG=0/\aG.contains n.ID=true/\dw.contains n.ID=false/\nK aX n.ID<n.lW/\n.lW<=16:=by
  simp only [Ih,bK,bL,eu] at h
  obtain⟨⟨⟨⟨h1,h2⟩,h3⟩,h4⟩,h5⟩:=h
  have hm:uR l=true:=by
    cases hb:uR l with
    | true=>rfl
    | false=>unfold jU at h1; rw [Ye hb] at h1; cases h1
  have h6:gP l n.ID=n:=by
    unfold jU at h1;obtain⟨x,hx,hk⟩:=qE (key:=aW.ID) h1;rw [qX h1 hx];have h3:=dA hx;rw [yw hm] at h3;exact UW (Je _ 0 hm) h3 hn hk
  rw [h6] at h2 h5;have h7:=(NS _ _ hm n hn).2
  simp only [Iw,bK,bL] at h7
  exact⟨hm,h6,h2,h3,h4,h5,h7.1.2.2⟩
theorem SH(h:∀ x∈aX,0<=x.N)(id:Int):0<=nK aX id:=by
  unfold nK; split
  · rename_i x hx; exact h x (QA hx)
  · omega
theorem ax3(h0:∀ x∈aX,0<=x.N)(h:nK aX n.ID<n.lW):wZ aX n=(zN aX n:Int):=by
  have:=SH h0 n.ID;unfold wZ zN; rw [aK aj]; omega
theorem amb{old:List Int}(h0:∀ x∈aX,0<=x.N)(h:nK aX n.ID<n.lW)(h1:n.lW<=16):Value.complex .f64 (fb (wR old n)) (wIm (old.contains n.kM) (wZ aX n))=.complex .f64 (fb (wR old n)) (fb (zN aX n)):=by
  have:=SH h0 n.ID;rw [ax3 h0 h,atZ _ (by unfold zN; omega)]
theorem asV(old:List Int)(n:aW):wR old n<70:=by unfold wR; split <;> omega
theorem ahn:∀(M:List aW)(b:Option aW),(∀ n∈M,n∈l)->(∀ m,b=some m->m∈l/\Ih l aG aX dw m.ID=true)->∀ m,M.foldl (tgF l aG aX dw) b=some m->m∈l/\Ih l aG aX dw m.ID=true
  | [],b,_,hb,m,h=>hb m h
  | n::M,b,hM,hb,m,h=>by
    refine ahn M _ (λx hx=>hM x (by simp [hx])) (λx hx=>?_) m h;unfold tgF at hx
    by_cases hp:Ih l aG aX dw n.ID=true
    · rw [aO hp] at hx
      cases b with
      | none=>cases hx; exact⟨hM _ av,hp⟩
      | some q=>
        simp only at hx
        split at hx
        · cases hx; exact⟨hM _ av,hp⟩
        · cases hx; exact hb _ rfl
    · rw [aK hp] at hx; exact hb x hx
theorem ajt{old:List Int}(h0:∀ x∈aX,0<=x.N){m:aW}(h:sD l aG aX dw (l.take k)=some m) :
    QI old aX (sD l aG aX dw (l.take k))=.complex .f64 (fb (wR old m)) (fb (zN aX m))/\zN aX m<70:=by
  have hm:=ahn (l.take k) none (λn hn=>List.mem_of_mem_take hn) (λm e=>by cases e) m h;have h1:=acD hm.1 hm.2;have:=SH h0 m.ID;rw [h];exact⟨amb h0 h1.2.2.2.2.2.1 h1.2.2.2.2.2.2,by unfold zN; omega⟩
theorem auI:bI prog 267:=ay
theorem acE(w:World){x y:Nat}{u z:Nat}(hb:(x<70/\y<70)/\u<70/\z<70) :
    bO prog 267 #[.complex .f64 (fb x) (fb y),.complex .f64 (fb u) (fb z)] w λv w'=>v=.bool (bt x y u z)/\Hp w S0 w' []:=by
 refine j4 S0 func267 ntmps267 Y λH0=>iY Y<|aZ<|bQ Y<|ev (Ev.real Y)<|mv Y<|ev (Ev.real Y)<|ev (Ev.aCP aj aj Y Y)<|dn<|bR Y (λFQ=>?_) (λFQ=>?_)
 ·replace FQ:=nS FQ;refine bQ Y<|ev (Ev.real Y)<|mv Y<|ev (Ev.real Y)<|ev (Ev.axt aj aj Y Y)<|bS Y<|vG Y ?_
  have d9:(decide (x<u):Bool)=(bt x y u z):=by unfold bt; rw [aO (by simpa using FQ)]
  exact⟨by rw [d9] <;> rfl,H0⟩
 replace FQ:=nT FQ;refine jh ?_;refine bQ Y<|ev (Ev.imag Y)<|mv Y<|ev (Ev.imag Y)<|ev (Ev.axt aj aj Y Y)<|bS Y<|iI Y ?_
 have fG:(decide (y<z):Bool)=(bt x y u z):=by unfold bt; rw [aK (by simpa using FQ)]
 exact⟨by rw [fG] <;> rfl,H0⟩
theorem afN(w:World){a b:Value}(x y u z:Nat)(e1:a=.complex .f64 (fb x) (fb y))(e2:b=.complex .f64 (fb u) (fb z))(hb:(x<70/\y<70)/\u<70/\z<70) :
    bO prog 267 #[a,b] w λv w'=>v=.bool (bt x y u z)/\Hp w S0 w' []:=by subst e1 e2; exact acE w hb
abbrev zB10x1z(gJ:List aW)(iK:List Int)(tF:List gq)(vP:List Int)(DI:Nat):=(sD gJ iK tF vP (gJ.take DI)).getD ⟨0,0,0,0⟩
theorem Yj(w:World)(iR:Sl bX S0 w jl jg l)(jX:Sl dL S0 w jP jO aG)(nN:Sl lU S0 w l9 l8 aX){uy:ah}{uz:Nat}(BR:Sl dL S0 w uy uz dw)(hn:l.length<=100000)(h0:∀ x∈aX,0<=x.N) :
    bO prog 173 #[.slice jl l.length jg,.slice jP aG.length jO,.slice l9 aX.length l8,.slice uy dw.length uz] w λv w'=>v=.tuple #[aD (zR (sD l aG aX dw l)),.bool ((sD l aG aX dw l).isSome)]/\Hp w S0 w' []:=by
 refine j4 S0 func173 ntmps173 Y λH0=>rg<|iA Y<|bS Y<|bQ Y<|mv Y<|gW Y (ajr _ (H0.a iR).any (H0.a BR).any aj) ?_
 rintro _ w1 ⟨acw,rfl,h1⟩;have K1:=H0.f1 h1;refine bS Y<|rg<|iA Y<|iA Y<|bS Y<|aZ<|bQ Y<|ev (eY lM Y)<|mv Y<|dn<|cZ ?_
 have d9:(0:Int)=zR (sD l aG aX dw (l.take 0)):=by rfl
 refine kP (t:=11) Y (aS (Value.int .i64) d9) ?_;have fG:(.complex .f64 0 0:Value)=QI (kr l dw) aX (sD l aG aX dw (l.take 0)):=by rfl
 refine kP (t:=12) Y fG ?_;have jQ:(false:Bool)=(sD l aG aX dw (l.take 0)).isSome:=by rfl
 refine kP (t:=13) Y (aS Value.bool jQ) ?_;have lV:(0:Int)=((0:Nat):Int):=by simp
 refine kP (t:=22) Y (aS (Value.int .i64) lV)<|rR (λmJ lJ wJ=>∃(k:Nat),lJ=[(0,.slice jl l.length jg),(1,.slice jP aG.length jO),(2,.slice l9 aX.length l8),(3,.slice uy dw.length uz),(10,.map (some acw)),(11,aD (zR (sD l aG aX dw (l.take k)))),(12,QI (kr l dw) aX (sD l aG aX dw (l.take k))),(13,.bool ((sD l aG aX dw (l.take k)).isSome)),(20,.slice jl l.length jg),(21,aD ((l.length:Nat):Int)),(22,aD ((k:Nat):Int))]/\mJ=l.length - k/\k<=l.length/\Hp w S0 wJ [alr acw (kr l dw)]) ⟨0,Y,Y,fK _,K1⟩ Y ?_
 rintro _ _ w2 ⟨k,rfl,rfl,hk,K2⟩;refine rg<|ev (fB Y Y)<|dn<|oC Y (λsG=>?_) (λsG=>?_)
 ·refine jh ?_;refine aZ<|cZ<|rg ?_
  obtain⟨x1,bP⟩:=bC (xs:=l) (i:=k) aj;refine ev (eU (i:=k) lM uL Y Y Y (aJ bP) ((K2.a iR).some_ bP))<|ev (fV vO Y Y ((K2.a iR).eX bP))<|al rG Y K2 λg1 w3 K3=>sty Y K3 s0 Y λw4 K4=>dn<|rg<|ev (dK vO Y Y (K4.x s0))<|mv Y<|mv Y<|lF K4 Y (ajs _ x1 (K4.a nN).any (K4.obj s1)) λw5 K5=>bS Y<|bQ Y<|mv Y<|mv Y<|mv Y<|jD g1 0 lT K5 s0 Y<|lF K5 Y (aqt _ (K5.a iR).any (K5.a jX).any (K5.a nN).any (K5.a BR).any x1.ID aj) λw6 K6=>mv Y<|nA 8 45 ((Ih l aG aX dw x1.ID)&&((!((sD l aG aX dw (l.take k)).isSome))||(bt (wR (kr l dw) x1) (zN aX x1) (wR (kr l dw) (zB10x1z l aG aX dw k)) (zN aX (zB10x1z l aG aX dw k))))) ?_ ?_
  ·cases axX:Ih l aG aX dw x1.ID with
   | true=>
    have hp1:=acD (dA bP) axX;have hzn:zN aX x1<70:=by have h1:=SH h0 x1.ID; have h2:=hp1.2.2.2.2.2; unfold zN; omega
    refine bG Y (bA Y) Y<|bG Y (gZ Y) Y<|bG Y (bA Y) Y<|nA 4 44 ((!((sD l aG aX dw (l.take k)).isSome))||(bt (wR (kr l dw) x1) (zN aX x1) (wR (kr l dw) (zB10x1z l aG aX dw k)) (zN aX (zB10x1z l aG aX dw k)))) ?_ ?_
    ·cases amc:(!((sD l aG aX dw (l.take k)).isSome)) with
     | true=>
      refine eB<|eB<|eB<|bG Y (dY Y Y) Y<|iH Y (om _)
     | false=>
      have hlv:=ajt (old:=kr l dw) h0 (k:=k) (getD_some amc);refine bG Y (bA Y) Y<|bG Y (bA Y) Y<|nu Y Y Y Y auI (afN (S0:=Any) _ (wR (kr l dw) x1) (zN aX x1) (wR (kr l dw) (zB10x1z l aG aX dw k)) (zN aX (zB10x1z l aG aX dw k)) (amb h0 hp1.2.2.2.2.2.1 hp1.2.2.2.2.2.2) hlv.1 ⟨⟨asV _ _,hzn⟩,asV _ _,hlv.2⟩) Y ?_
      rintro _ w7 ⟨rfl,h7⟩;refine bG Y (eG Y Y) Y<|iH Y h7.ext
    intro w8 e8;refine ev (dY Y Y)<|iH Y e8
   | false=>
    refine eB<|eB<|eB<|eB<|eB<|eB<|eB<|ev (eG Y Y)<|iH Y (om _)
  intro w9 e9;have K9:=K6.grow e9;refine dn<|bR Y (λAr=>?_) (λAr=>?_)
  ·refine jr<|jD g1 0 lT K9 s0 Y<|mv Y<|iA Y<|iA Y<|iA Y<|jv<|ig (gB ?_)
   refine jr<|ev (dW Y Y)<|mv Y<|jv ?_
   have qU:(x1.ID:Int)=zR (sD l aG aX dw (l.take (k+1))):=by rw [Fe bP,QH]; first | (rw [aO Ar]; rfl) | rw [aK (by rw [Ar]; decide)]
   refine ji (t:=11) Y (aS (Value.int .i64) qU) ?_;have vY:(.complex .f64 (fb (wR (kr l dw) x1)) (wIm ((kr l dw).contains x1.kM) (wZ aX x1)):Value)=QI (kr l dw) aX (sD l aG aX dw (l.take (k+1))):=by rw [Fe bP,QH]; first | (rw [aO Ar]; rfl) | rw [aK (by rw [Ar]; decide)]
   refine ji (t:=12) Y vY ?_;have xZ:(true:Bool)=(sD l aG aX dw (l.take (k+1))).isSome:=by rw [Fe bP,QH]; first | (rw [aO Ar]; rfl) | rw [aK (by rw [Ar]; decide)]
   refine ji (t:=13) Y (aS Value.bool xZ) ?_;have hq8:(((k+1:Nat):Int):Int)=(((k+1):Nat):Int):=by simp
   refine ji (t:=22) Y (aS (Value.int .i64) hq8)<|dQ ⟨(k+1),Y,Y,aj,(K9.rm s0)⟩ rfl aj
  refine zF ?_;refine jr<|ev (dW Y Y)<|mv Y<|jv ?_
  have yT:(zR (sD l aG aX dw (l.take k)):Int)=zR (sD l aG aX dw (l.take (k+1))):=by rw [Fe bP,QH]; first | (rw [aO Ar]; rfl) | rw [aK (by rw [Ar]; decide)]
  refine ji (t:=11) Y (aS (Value.int .i64) yT) ?_;have qI:(QI (kr l dw) aX (sD l aG aX dw (l.take k)):Value)=QI (kr l dw) aX (sD l aG aX dw (l.take (k+1))):=by rw [Fe bP,QH]; first | (rw [aO Ar]; rfl) | rw [aK (by rw [Ar]; decide)]
  refine ji (t:=12) Y qI ?_;have hq11:((sD l aG aX dw (l.take k)).isSome:Bool)=(sD l aG aX dw (l.take (k+1))).isSome:=by rw [Fe bP,QH]; first | (rw [aO Ar]; rfl) | rw [aK (by rw [Ar]; decide)]
  refine ji (t:=13) Y (aS Value.bool hq11) ?_;have hq12:(((k+1:Nat):Int):Int)=(((k+1):Nat):Int):=by simp
  refine ji (t:=22) Y (aS (Value.int .i64) hq12)<|dQ ⟨(k+1),Y,Y,aj,(K9.rm s0)⟩ rfl aj
 refine wQ ?_;refine bQ Y<|mv Y<|iA Y<|bS Y<|iI Y ?_
 have QB:(zR (sD l aG aX dw (l.take k)):Int)=(zR (sD l aG aX dw l)):=by rw [iD aj]
 have QC:((sD l aG aX dw (l.take k)).isSome:Bool)=((sD l aG aX dw l).isSome):=by rw [iD aj]
 exact⟨by rw [QB,QC] <;> rfl,(K2.rm s0)⟩
def EI(c:aI)(aG:List Int):List Int:=c.aF.filter fun(id:Int)=>aG.contains id
def Yk(l:List aW)(id:Int):Bool:=jU l id&&decide ((gP l id).gG=0)
def j3(c:aI)(l:List aW)(aG:List Int):List Int:=(EI c aG).filter fun(id:Int)=>Yk l id
def aju(l:List aW)(aG:List Int)(id:Int):Bool:=(jU l id&&!decide ((gP l id).gG=0))&&aG.contains id
def QJ(c:aI)(l:List aW)(aG:List Int):List Int:=c.aF.filter fun(id:Int)=>aju l aG id
theorem amd(c:aI)(aG:List Int):(EI c aG).length<=c.aF.length:=lX _ _
theorem ajv(c:aI)(l:List aW)(aG:List Int):(j3 c l aG).length<=(EI c aG).length:=lX _ _
theorem auJ:bI prog 230:=ay
theorem auK:bI prog 150:=ay
theorem auL:bI prog 403:=ay
theorem ame(w:World)(id:Int)(jX:Bx w Gm 55 [.slice jP aG.length jO])(N7:Sl dL S0 w jP jO aG) :
    bO prog 230 #[aD id,fP Gm] w λv w'=>v=.bool (!(aG.contains id))/\Hp w S0 w' []:=by
 refine j4 S0 func230 ntmps230 Y λH0=>iY Y<|rg<|ev (cu CQ Y (jX.ext H0.ext) Y)<|mv Y<|lF H0 Y (jT _ (H0.a N7).any id) λw1 K1=>ev (gZ Y)<|bS Y<|iI Y ?_
 exact⟨Y,K1⟩
theorem SI(w:World)(c:aI)(F7:Sl dL S0 w CW Br c.aF)(jX:Sl dL S0 w jP jO aG)(hh:c.aF.length<=100000) :
    bO prog 149 #[.agg #[aD c.ID,aD c.aC,fT c.Sum,.slice CW c.aF.length Br],.slice jP aG.length jO] w λv w'=>∃(A0:ah)(c0:Nat),v=.slice A0 ((EI c aG).length) c0/\Hp w S0 w' [aR dL 3 A0 c0 (EI c aG)]:=by
 refine j4 S0 func149 ntmps149 Y λH0=>rg<|bx Y Y H0 λg1 w1 K1=>bx Y Y K1 λg2 w2 K2=>bS Y<|rg<|jD g1 3 kD K2 s1 Y<|gW Y (sM _ (K2.a F7).any aj) ?_
 rintro _ w3 ⟨mR,mU,rfl,h3⟩;have K3:=K2.f1 h3;refine ev (qC Y)<|gW Y (nV (kd:=[fP g2]) (K3.sel s0) auJ (λx9=>!(aG.contains x9)) (λw9 ys x9 hl9 K9=>(ame (S0:=Any) w9 x9 (K9.x s1) (K9.a jX).any).mono (by rintro _ w8 ⟨rfl,K8⟩; exact⟨rfl,K8.ext⟩)) aj) ?_
 rintro _ w4 ⟨rfl,K4⟩;refine bS Y<|iI Y ?_
 have d9:((c.aF.filter λx9=>!(!(aG.contains x9))):List Int)=(EI c aG):=by unfold EI; simp only [Bool.not_not]
 rw [d9] at K4;exact⟨mR,mU,by rw [d9] <;> rfl,(K4.cU 1 2)⟩
theorem ajw(w:World)(id:Int)(iR:Bx w g_l 41 [.slice jl l.length jg])(k_l:Sl bX S0 w jl jg l)(hn:l.length<=100000) :
    bO prog 150 #[aD id,fP g_l] w λv w'=>v=.bool (!(Yk l id))/\Hp w S0 w' []:=by
 refine j4 S0 func150 ntmps150 Y λH0=>iY Y<|rg<|ev (cu acs Y (iR.ext H0.ext) Y)<|mv Y<|lF H0 Y (C8 _ (H0.a k_l).any id aj) λw1 K1=>mv Y<|xt Y Y<|xt Y Y<|al rG Y K1 λg1 w2 K2=>sty Y K2 s0 Y λw3 K3=>bS Y<|bQ Y<|ev (gZ Y)<|mv Y<|iG 4 18 ((!(jU l id))||(!decide ((gP l id).gG=0))) ?_ ?_
 ·cases aDa:(!(jU l id)) with
  | true=>
   refine eB<|eB<|eB<|ev (dY Y Y)<|dI Y
  | false=>
   refine wP g1 3 yx K3 s0 Y<|bG Y (rz Y Y) Y<|ev (eG Y Y)<|dI Y
 refine bS Y<|iI Y ?_
 have d9:(((!(jU l id))||(!decide ((gP l id).gG=0))):Bool)=(!(Yk l id)):=by unfold Yk; cases jU l id <;> simp
 exact⟨by rw [d9] <;> rfl,(K3.rm s0)⟩
theorem U5(w:World)(c:aI)(F7:Sl dL S0 w CW Br c.aF)(iR:Sl bX S0 w jl jg l)(jX:Sl dL S0 w jP jO aG)(hh:c.aF.length<=100000)(hn:l.length<=100000) :
    bO prog 88 #[.agg #[aD c.ID,aD c.aC,fT c.Sum,.slice CW c.aF.length Br],.slice jl l.length jg,.slice jP aG.length jO] w λv w'=>∃(A0:ah)(c0:Nat),v=.slice A0 ((j3 c l aG).length) c0/\Hp w S0 w' [aR dL 3 A0 c0 (j3 c l aG)]:=by
 refine j4 S0 func88 ntmps88 Y λH0=>?_;have hll:=amd c aG;refine rg<|bx Y Y H0 λg1 w1 K1=>bx Y Y K1 λg2 w2 K2=>bS Y<|rg<|ev (dK pU Y Y (K2.x s1))<|mv Y<|gW Y (SI _ c (K2.a F7).any (K2.a jX).any aj) ?_
 rintro _ w3 ⟨mR,mU,rfl,h3⟩;have K3:=K2.f1 h3;have alL:=(K3.o s0).bN;refine ev (qC Y)<|gW Y (nV (kd:=[fP g2]) (K3.sel s0) auK (λx9=>!(Yk l x9)) (λw9 ys x9 hl9 K9=>(ajw (S0:=Any) w9 x9 (K9.x s1) (K9.a iR).any aj).mono (by rintro _ w8 ⟨rfl,K8⟩; exact⟨rfl,K8.ext⟩)) aj) ?_
 rintro _ w4 ⟨rfl,K4⟩;refine bS Y<|iI Y ?_
 have d9:(((EI c aG).filter λx9=>!(!(Yk l x9))):List Int)=(j3 c l aG):=by unfold j3; simp only [Bool.not_not]
 rw [d9] at K4;exact⟨mR,mU,by rw [d9] <;> rfl,(K4.cU 1 2)⟩
theorem ajx(w:World)(id:Int)(iR:Bx w g_l 41 [.slice jl l.length jg])(k_l:Sl bX S0 w jl jg l)(jX:Bx w Gm 55 [.slice jP aG.length jO])(N7:Sl dL S0 w jP jO aG)(hn:l.length<=100000) :
    bO prog 403 #[aD id,fP g_l,fP Gm] w λv w'=>v=.bool (!(aju l aG id))/\Hp w S0 w' []:=by
 refine j4 S0 func403 ntmps403 Y λH0=>iY Y<|rg<|ev (cu acs Y (iR.ext H0.ext) Y)<|mv Y<|lF H0 Y (C8 _ (H0.a k_l).any id aj) λw1 K1=>mv Y<|xt Y Y<|xt Y Y<|al rG Y K1 λg1 w2 K2=>sty Y K2 s0 Y λw3 K3=>bS Y<|bQ Y<|ev (gZ Y)<|mv Y<|iG 4 19 ((!(jU l id))||(decide ((gP l id).gG=0))) ?_ ?_
 ·cases Qm:(!(jU l id)) with
  | true=>
   refine eB<|eB<|eB<|ev (dY Y Y)<|dI Y
  | false=>
   refine wP g1 3 yx K3 s0 Y<|bG Y (iP Y Y) Y<|ev (eG Y Y)<|dI Y
 refine mv Y<|nA 5 25 (((!(jU l id))||(decide ((gP l id).gG=0)))||(!(aG.contains id))) ?_ ?_
 ·cases ab4:((!(jU l id))||(decide ((gP l id).gG=0))) with
  | true=>
   refine eB<|eB<|eB<|eB<|ev (dY Y Y)<|iH Y (om _)
  | false=>
   have ab5:=ab4
   try simp only [eO,dN,bK,dZ,eu,fC,bL,bU] at ab5
   refine bG Y (cu CQ Y (jX.ext K3.ext) Y) Y<|bG Y (bA Y) Y<|nu Y Y Y Y Uu (jT _ (K3.a N7).any id) Y ?_
   rintro _ w4 ⟨rfl,h4⟩;refine bG Y (gZ Y) Y<|ev (eG Y Y)<|iH Y h4.ext
 intro w5 e5;have K5:=K3.grow e5;refine bS Y<|iI Y ?_
 have d9:((((!(jU l id))||(decide ((gP l id).gG=0)))||(!(aG.contains id))):Bool)=(!(aju l aG id)):=by unfold aju; cases jU l id <;> simp
 exact⟨by rw [d9] <;> rfl,(K5.rm s0)⟩
theorem amg(w:World)(c:aI)(F7:Sl dL S0 w CW Br c.aF)(iR:Sl bX S0 w jl jg l)(jX:Sl dL S0 w jP jO aG)(hh:c.aF.length<=100000)(hn:l.length<=100000) :
    bO prog 332 #[.agg #[aD c.ID,aD c.aC,fT c.Sum,.slice CW c.aF.length Br],.slice jl l.length jg,.slice jP aG.length jO] w λv w'=>∃(A0:ah)(c0:Nat),v=.slice A0 ((QJ c l aG).length) c0/\Hp w S0 w' [aR dL 3 A0 c0 (QJ c l aG)]:=by
 refine j4 S0 func332 ntmps332 Y λH0=>rg<|bx Y Y H0 λg1 w1 K1=>bx Y Y K1 λg2 w2 K2=>bx Y Y K2 λg3 w3 K3=>bS Y<|rg<|jD g1 3 kD K3 s2 Y<|gW Y (sM _ (K3.a F7).any aj) ?_
 rintro _ w4 ⟨qY,qZ,rfl,h4⟩;have K4:=K3.f1 h4;refine ev (qC Y)<|gW Y (nV (kd:=[fP g2,fP g3]) (K4.sel s0) auL (λx9=>!(aju l aG x9)) (λw9 ys x9 hl9 K9=>(ajx (S0:=Any) w9 x9 (K9.x s2) (K9.a iR).any (K9.x s1) (K9.a jX).any aj).mono (by rintro _ w8 ⟨rfl,K8⟩; exact⟨rfl,K8.ext⟩)) aj) ?_
 rintro _ w5 ⟨rfl,K5⟩;refine bS Y<|iI Y ?_
 have d9:((c.aF.filter λx9=>!(!(aju l aG x9))):List Int)=(QJ c l aG):=by unfold QJ; simp only [Bool.not_not]
 rw [d9] at K5;exact⟨qY,qZ,by rw [d9] <;> rfl,(K5.cU 1 3)⟩
theorem acF(w:World)(iR:Sl bX S0 w jl jg l)(id:Int)(hn:l.length<=100000) :
    bO prog 333 #[.slice jl l.length jg,aD id] w λv w'=>v=aD ((gP l id).kM)/\Hp w S0 w' []:=by
 refine j4 S0 func333 ntmps333 Y λH0=>iY Y<|bQ Y<|mv Y<|lF H0 Y (C8 _ (H0.a iR).any id aj) λw1 K1=>mv Y<|xt Y Y<|xt Y Y<|al rG Y K1 λg1 w2 K2=>sty Y K2 s0 Y λw3 K3=>bS Y<|rg<|jD g1 1 NU K3 s0 Y<|bS Y<|iI Y ?_
 exact⟨Y,(K3.rm s0)⟩
theorem ajy{z v y:Int}:(F6 s z v).find? (λp=>decide (p.1=y))=if y=z then some (z,v) else s.find? (λp=>decide (p.1=y)):=by
  have hA:y≠z->∀ s:List (Int × Int),(s.map (λp=>if p.1=z then(z,v) else p)).find? (λp=>decide (p.1=y))=s.find? (λp=>decide (p.1=y)):=by
    intro hy s
    induction s with
    | nil=>rfl
    | cons p s ih=>
      rw [mO]
      by_cases e:p.1=z
      · rw [aO e,u6 (by simp; omega),u6 (by simp; omega),ih]
      · rw [aK e]
        by_cases e2:p.1=y
        · rw [F4 (by simpa using e2),F4 (by simpa using e2)]
        · rw [u6 (by simpa using e2),u6 (by simpa using e2),ih]
  have hB:∀ s:List (Int × Int),s.any (λp=>decide (p.1=z))=true->(s.map (λp=>if p.1=z then(z,v) else p)).find? (λp=>decide (p.1=z))=some (z,v):=by
    intro s
    induction s with
    | nil=>intro h; cases h
    | cons p s ih=>
      intro h;rw [mO]
      by_cases e:p.1=z
      · rw [aO e,F4 av]
      · rw [aK e,u6 (by simpa using e)]
        exact ih (by simpa [e] using h)
  unfold F6
  split
  · rename_i h
    by_cases hy:y=z
    · subst hy; rw [aO rfl,hB s h]
    · rw [aK hy,hA hy s]
  · rename_i h
    have hn:∀ p∈s,¬ p.1=z:=λp hp e=>h (IZ.2 ⟨p,hp,by simpa using e⟩);rw [Gg]
    by_cases hy:y=z
    · subst hy; rw [aO rfl,Af.2 (λp hp=>by simpa using hn p hp)]; simp
    · rw [aK hy]
      cases hf:s.find? (λp=>decide (p.1=y)) with
      | some p=>rfl
      | none=>simp; omega
theorem amh(s:List (Int × Int))(z v y:Int):DK (F6 s z v) y=if y=z then v else DK s y:=by
  unfold DK; rw [ajy]
  by_cases hy:y=z
  · rw [aO hy,aO hy]
  · rw [aK hy,aK hy]
abbrev rkN(l:List aW)(id:Int):Int:=(gP l id).kM
def cntF(l:List aW)(s:List (Int × Int))(id:Int):List (Int × Int):=F6 s (rkN l id) (DK s (rkN l id)+1)
def EJ(l:List aW)(ids:List Int):List (Int × Int):=ids.foldl (cntF l) []
theorem ajz{ids:List Int}{x:Int}(hx:ids[k]? = some x):EJ l (ids.take (k+1))=cntF l (EJ l (ids.take k)) x:=by
  unfold EJ; rw [fI hx,xD]; rfl
theorem QK(l:List aW):∀(ids:List Int)(s:List (Int × Int)),vF s->vF (ids.foldl (cntF l) s)/\∀ r,DK (ids.foldl (cntF l) s) r=DK s r+((ids.filter fun(id:Int)=>decide (rkN l id=r)).length:Int)
  | [],s,h=>⟨h,λr=>by simp⟩
  | id::ids,s,h=>by
    have ih:=QK l ids (cntF l s id) (aiZ h _ _);refine⟨ih.1,λr=>?_⟩;rw [Ae,ih.2 r];unfold cntF;rw [amh,I9]
    by_cases e:r=rkN l id
    · rw [aO e,aO (by simpa using e.symm),oI,e]; omega
    · rw [aK e,aK (by simpa using λh=>e h.symm)]
theorem QL(l:List aW)(ids:List Int):vF (EJ l ids):=(QK l ids [] List.Pairwise.nil).1
theorem ami(l:List aW)(ids:List Int)(r:Int):DK (EJ l ids) r=((ids.filter fun(id:Int)=>decide (rkN l id=r)).length:Int):=by
  have:=(QK l ids [] List.Pairwise.nil).2 r;show DK (ids.foldl (cntF l) []) r=_;rw [this]; show(0:Int)+_=_; omega
theorem aqu(l:List aW)(ids:List Int)(r:Int):0<=DK (EJ l ids) r/\DK (EJ l ids) r<=ids.length:=by
  rw [ami]; have:=lX (fun(id:Int)=>decide (rkN l id=r)) ids; omega
def Mp(w:World)(g:Nat)(s:List (Int × Int)):Prop:=w.heap[g]? = some (.map (Bq s) s.length)
theorem Mp.ext{w w':World}{g:Nat}(h:Mp w g s)(e:Ext w w'):Mp w' g s:=(e.block g (uZ.1 h).1).trans h
def shB(on:List (Int × Int))(l:List aW)(id:Int):Bool:=decide (1<DK on (rkN l id))
def exC(on:List (Int × Int))(l:List aW)(aX:List gq)(a b:Int):Int:=if(shB on l a != shB on l b)&&shB on l a then 1 else if shB on l a != shB on l b then -1 else LD [bn (nK aX a) (nK aX b),bn a b]
def Iy(cf:Int->Int->Int):List Int->Int
  | []=>0
  | x::l=>l.foldl (λm y=>if 0<cf y m then y else m) x
theorem amk{l:List Int}{x:Int}(hx:l[0]? = some x):Iy cf (l.take 1)=x:=by
  cases l with
  | nil=>simp at hx
  | cons y l=>simp at hx; subst hx; simp [Iy]
theorem Yl{l:List Int}{x:Int}(hk:1<=k)(hx:l[k]? = some x):Iy cf (l.take (k+1))=if 0<cf x (Iy cf (l.take k)) then x else Iy cf (l.take k):=by
  rw [fI hx]
  cases hl:l.take k with
  | nil=>have h1:=aS List.length hl; have h2:=aJ hx; simp only [fE,qx] at h1; omega
  | cons y m=>simp [Iy]; rfl
def ZI(c:aI)(l:List aW)(aG:List Int)(aX:List gq)(bW:Int):Int × Bool:=
  if bW<1∨((j3 c l aG).length:Int)<bW then(0,false) else
  match QJ c l aG with
  | i::_=>(i,true)
  | []=>if((j3 c l aG).length:Int)=bW then(0,false) else(Iy (exC (EJ l (j3 c l aG)) l aX) (j3 c l aG),true)
theorem auN:kW prog 338:=ay
theorem auO:bI prog 333:=ay
theorem afO:∀ w,(zeroValue 3).run prog w=.ok (aD 0) w:=ay
theorem Ym:kW prog 80:=ay
theorem U6:bI prog 334:=ay
theorem U7(w:World)(id:Int){aml g_m:Nat}(on:List (Int × Int))(ko:vF on)(afP:Bx w aml 338 [.map (some g_m)])(h_m:Mp w g_m on)(iR:Bx w g_l 41 [.slice jl l.length jg])(k_l:Sl bX S0 w jl jg l)(hn:l.length<=100000) :
    bO prog 334 #[aD id,fP aml,fP g_l] w λv w'=>v=.bool (shB on l id)/\Hp w S0 w' []:=by
 refine j4 S0 func334 ntmps334 Y λH0=>iY Y<|qo ak ak<|bD (cu auN Y (afP.ext H0.ext) Y) Y<|bD (cu acs Y (iR.ext H0.ext) Y) Y<|bD (bA Y) Y<|IU (v:=aD ((gP l id).kM)) Y Y Y auO (λwq eq=>(acF wq ((H0.a k_l).any.ext eq) id aj).mono (by rintro _ _ ⟨rfl,fG⟩; exact⟨rfl,fG.ext⟩)) rfl<|bD (Ev.asE (H0.was h_m) ko underlying338 iw afO rfl rfl) rfl<|bD (pJ rfl rfl) rfl<|bD (nP rfl) rfl<|qp λw1 e1=>?_
 have K1:=H0.grow e1;refine iI Y ?_;have d9:(decide (1<(DK on ((gP l id).kM))):Bool)=(shB on l id):=by rfl
 exact⟨by rw [d9] <;> rfl,K1⟩
theorem aqv(w:World)(a:Int)(b:Int){aml g_m:Nat}(on:List (Int × Int))(ko:vF on)(afP:Bx w aml 338 [.map (some g_m)])(h_m:Mp w g_m on)(iR:Bx w g_l 41 [.slice jl l.length jg])(k_l:Sl bX S0 w jl jg l){ax4:Nat}(amn:Bx w ax4 80 [.func (.func 334) #[] #[fP aml,fP g_l]]){Gh:Nat}(nN:Bx w Gh 154 [.slice l9 aX.length l8])(Bt:Sl lU S0 w l9 l8 aX)(hn:l.length<=100000) :
    bO prog 336 #[aD a,aD b,fP ax4,fP Gh] w λv w'=>v=aD (exC on l aX a b)/\Hp w S0 w' []:=by
 refine j4 S0 func336 ntmps336 Y λH0=>iY Y<|aZ<|cZ<|qo ak ak<|bD (cu Ym Y (amn.ext H0.ext) Y) Y<|bD (bA Y) Y<|IU (v:=.bool (shB on l a)) Y Y Y U6 (λwq eq=>(U7 wq a on ko ((afP.ext H0.ext).ext eq) ((h_m.ext H0.ext).ext eq) ((iR.ext H0.ext).ext eq) ((H0.a k_l).any.ext eq) aj).mono (by rintro _ _ ⟨rfl,fG⟩; exact⟨rfl,fG.ext⟩)) rfl<|bD (cu Ym rfl (amn.ext H0.ext) rfl) rfl<|bD (bA rfl) rfl<|IU (v:=.bool (shB on l b)) rfl rfl rfl U6 (λwq eq=>(U7 wq b on ko ((afP.ext H0.ext).ext eq) ((h_m.ext H0.ext).ext eq) ((iR.ext H0.ext).ext eq) ((H0.a k_l).any.ext eq) aj).mono (by rintro _ _ ⟨rfl,fG⟩; exact⟨rfl,fG.ext⟩)) rfl<|bD (Ev.neb Qh rfl rfl) rfl<|bD (bA rfl) rfl<|qy 4 19 ((!((shB on l a) == (shB on l b)))&&(shB on l a)) ?_ ?_
 ·cases Qm:(!((shB on l a) == (shB on l b))) with
  | true=>
   refine dV Y (cu Ym Y (amn.ext H0.ext) Y) Y<|dV Y (bA Y) Y<|NA Y (v:=.bool (shB on l a)) Y Y Y U6 (λwq eq=>(U7 wq a on ko ((afP.ext H0.ext).ext eq) ((h_m.ext H0.ext).ext eq) ((iR.ext H0.ext).ext eq) ((H0.a k_l).any.ext eq) aj).mono (by rintro _ _ ⟨rfl,fG⟩; exact⟨rfl,fG.ext⟩)) rfl<|bD (dY rfl rfl) rfl<|jJ rfl
  | false=>
   refine dF Y Y Y<|dF Y Y Y<|dF Y Y Y<|bD (eG Y Y) Y<|jJ Y
 refine bD (nP Y) Y<|qp λw1 e1=>?_
 have K1:=H0.grow e1;refine bR Y (λhc7=>?_) (λhc7=>?_)
 ·refine iY Y<|LA Y ?_
  have d9:(1:Int)=(exC on l aX a b):=by unfold exC; rw [aO (by simpa using hc7)]
  exact⟨by rw [<- d9] <;> rfl,K1⟩
 refine qo ak ak<|bD (cu Ym Y (amn.ext K1.ext) Y) Y<|bD (bA Y) Y<|IU (v:=.bool (shB on l a)) Y Y Y U6 (λwq eq=>(U7 wq a on ko ((afP.ext K1.ext).ext eq) ((h_m.ext K1.ext).ext eq) ((iR.ext K1.ext).ext eq) ((K1.a k_l).any.ext eq) aj).mono (by rintro _ _ ⟨rfl,fG⟩; exact⟨rfl,fG.ext⟩)) rfl<|bD (cu Ym rfl (amn.ext K1.ext) rfl) rfl<|bD (bA rfl) rfl<|IU (v:=.bool (shB on l b)) rfl rfl rfl U6 (λwq eq=>(U7 wq b on ko ((afP.ext K1.ext).ext eq) ((h_m.ext K1.ext).ext eq) ((iR.ext K1.ext).ext eq) ((K1.a k_l).any.ext eq) aj).mono (by rintro _ _ ⟨rfl,fG⟩; exact⟨rfl,fG.ext⟩)) rfl<|bD (Ev.neb Qh rfl rfl) rfl<|bD (nP rfl) rfl<|qp λw2 e2=>?_
 have K2:=K1.grow e2;refine bR Y (λkJ=>?_) (λkJ=>?_)
 ·refine iY Y<|LA Y ?_
  have fG:((-1):Int)=(exC on l aX a b):=by unfold exC; rw [aK (by simpa using hc7),aO (by simpa using kJ)]
  exact⟨by rw [<- fG] <;> rfl,K2⟩
 refine zF ?_;refine He K2 (λ_ K=>K) (λl0 rk lJ wJ=>lJ=(6,aD (LD ([bn (nK aX a) (nK aX b),bn a b]:List Int)))::l0/\Hp w S0 wJ rk) (λhns H1=>?_) ?_
 ·refine lH 0 Y (λ_ hK=>cu MG Y (nN.ext hK.ext) Y) H1<|kT 1 Y Y H1<|lH 3 Y (λ_ hK=>cu MG Y (nN.ext hK.ext) Y) H1<|kT 4 Y Y H1<|kT 7 Y Y H1<|kT 8 Y Y H1<|O1 2 Y<|lF H1 Y (tV _ (H1.a Bt).any a) λw3 K3=>aP K3<|O1 5 Y<|lF K3 Y (tV _ (K3.a Bt).any b) λw4 K4=>aP K4<|O1 6 Y<|lF K4 Y (mF (S0:=Any) _ (nK aX a) (nK aX b)) λw5 K5=>aP K5<|O1 9 Y<|lF K5 Y (mF (S0:=Any) _ a b) λw6 K6=>aP K6<|O1 10 Y<|bsn (τ:=dL) (xs:=([bn (nK aX a) (nK aX b),bn a b]:List Int)) (vs:=[(0,aD (bn (nK aX a) (nK aX b))),(1,aD (bn a b))]) (css:=[[aD (bn (nK aX a) (nK aX b))],[aD (bn a b)]]) Y (by intro _; apply Gn) rfl rfl K6 (λ_ e=>⟨rfl,rfl,trivial⟩) λg1 w7 K7=>?_
  have k1:=(K7.rm s0);refine aP k1<|O1 11 Y<|lF K7 Y (acu _ (K7.o s0)) λw8 K8=>?_
  have k2:=(K8.rm s0);refine aP k2<|xJ 12 Y Y k2<|Dn ⟨Y,(K8.rm s0)⟩ Y
 rintro _ w9 ⟨rfl,K9⟩;refine iI Y ?_;have jQ:(LD ([bn (nK aX a) (nK aX b),bn a b]:List Int):Int)=(exC on l aX a b):=by unfold exC; rw [aK (by simp_all),aK (by simpa using kJ)]
 exact⟨by rw [jQ] <;> rfl,K9⟩
theorem XA(w:World){tN:Nat}{s:List Int}(lK:Sl dL S0 w u7 tN s){amo:FuncId}{amq:List Value}(ax5:bI prog amo)(cmp:Int->Int->Int)(h_cmp:∀(w':World)(x:Int)(t:Int),Ext w w'->True->bO prog amo (([aD x,aD t]:List Value)++amq).toArray w' λv w''=>v=aD (cmp x t)/\Ext w' w'')(hne:1<=s.length) :
    bO prog 335 #[.slice u7 s.length tN,.func (.func amo) #[] amq.toArray] w λv w'=>v=aD (Iy cmp s)/\Hp w S0 w' []:=by
 refine j4 S0 func335 ntmps335 Y λH0=>?_;have NI:=lK.bN;refine iY Y<|aZ<|bQ Y<|ev (eY fq Y)<|ev (fB Y Y)<|dn<|kX Y (λFQ=>?_) (λFQ=>?_)
 ·omega
 refine jh ?_;refine bQ Y ?_;obtain⟨x1,bP⟩:=bC (xs:=s) (i:=0) aj;refine ev (eU (i:=0) fq sZ Y Y Y (aJ bP) ((H0.a lK).some_ bP))<|ev (jq jG Y ((H0.a lK).fZ (j:=0) bP Y))<|bS Y<|aZ<|iY Y<|cZ ?_
 have d9:(x1:Int)=(Iy cmp (s.take 1)):=by exact(amk bP).symm
 refine kP (t:=5) Y (aS (Value.int .i64) d9)<|Lp H0 (λl0 rk mJ lJ wJ=>∃(j:Nat),lJ=(5,aD (Iy cmp (s.take j)))::(6,aD ((j:Nat):Int))::l0/\mJ=s.length - j/\(1<=j/\j<=s.length)/\Hp w S0 wJ rk) ⟨1,Y,Y,aj,H0⟩ rfl ?_
 rintro _ _ w1 ⟨j,rfl,rfl,hj,K1⟩;refine aZ<|bQ Y<|mv Y<|ev (eY fq Y)<|ev (fB Y Y)<|dn<|kX Y (λhc17=>?_) (λhc17=>?_)
 ·refine jh ?_;refine aZ<|cZ<|bQ Y<|mv Y<|mv Y ?_
  obtain⟨x2,kK⟩:=bC (xs:=s) (i:=j) aj;refine ev (eU (i:=j) fq sZ Y Y Y (aJ kK) ((K1.a lK).some_ kK))<|ev (jq jG Y ((K1.a lK).fZ (j:=0) kK Y))<|mv Y<|wo Y Y Y ax5 (h_cmp _ x2 (Iy cmp (s.take j)) K1.ext trivial) Y ?_
  rintro _ w2 ⟨rfl,e2⟩;have K2:=K1.grow e2;refine ev (pJ Y Y)<|dn<|kX Y (λhc27=>?_) (λhc27=>?_)
  ·refine jr<|mv Y<|mv Y<|ev (eU (i:=j) fq sZ Y Y Y (aJ kK) ((K2.a lK).some_ kK))<|ev (jq jG Y ((K2.a lK).fZ (j:=0) kK Y))<|iA Y<|jv<|ig (gB ?_)
   refine jr<|mv Y<|ev (dW Y Y)<|iA Y<|jv ?_
   have fG:(x2:Int)=(Iy cmp (s.take (j+1))):=by rw [Yl hj.1 kK]; first | rw [aO hc27] | rw [aK hc27]
   refine ji (t:=5) Y (aS (Value.int .i64) fG)<|dQ ⟨(j+1),Y,Y,aj,K2⟩ rfl aj
  refine zF ?_;refine jr<|mv Y<|ev (dW Y Y)<|iA Y<|jv ?_
  have jQ:((Iy cmp (s.take j)):Int)=(Iy cmp (s.take (j+1))):=by rw [Yl hj.1 kK]; first | rw [aO hc27] | rw [aK hc27]
  refine ji (t:=5) Y (aS (Value.int .i64) jQ)<|dQ ⟨(j+1),Y,Y,aj,K2⟩ rfl aj
 refine wQ ?_;refine bQ Y<|bS Y<|iI Y ?_
 have lV:((Iy cmp (s.take j)):Int)=(Iy cmp s):=by rw [iD aj]
 exact⟨by rw [lV] <;> rfl,K1⟩
theorem aho(h:bW<1∨((j3 c l aG).length:Int)<bW):ZI c l aG aX bW=(0,false):=aO h
theorem acH{i:Int}(h:¬ (bW<1∨((j3 c l aG).length:Int)<bW))(hx:(QJ c l aG)[0]? = some i):ZI c l aG aX bW=(i,true):=by
  unfold ZI; rw [aK h]
  cases hi:QJ c l aG with
  | nil=>rw [hi] at hx; simp at hx
  | cons j t=>rw [hi] at hx; simp at hx; subst hx; rfl
theorem acI(h:¬ (bW<1∨((j3 c l aG).length:Int)<bW))(hi:¬ 0<(QJ c l aG).length)(he:((j3 c l aG).length:Int)=bW):ZI c l aG aX bW=(0,false):=by
  have e:QJ c l aG=[]:=uI aj;unfold ZI; rw [aK h,e]; exact aO he
theorem ahp(h:¬ (bW<1∨((j3 c l aG).length:Int)<bW))(hi:¬ 0<(QJ c l aG).length)(he:¬ ((j3 c l aG).length:Int)=bW):ZI c l aG aX bW=(Iy (exC (EJ l (j3 c l aG)) l aX) (j3 c l aG),true):=by
  have e:QJ c l aG=[]:=uI aj;unfold ZI; rw [aK h,e]; exact aK he
theorem amr:∀ w,(zeroValue 338).run prog w=.ok (.map none) w:=ay
theorem ahq:∀ w,(zeroValue 80).run prog w=.ok (.nilFunc) w:=ay
theorem auP:bI prog 336:=ay
theorem afQ(w:World)(c:aI)(F7:Sl dL S0 w CW Br c.aF)(iR:Sl bX S0 w jl jg l)(jX:Sl dL S0 w jP jO aG)(nN:Sl lU S0 w l9 l8 aX)(bW:Int)(hh:c.aF.length<=100000)(hn:l.length<=100000) :
    bO prog 245 #[.agg #[aD c.ID,aD c.aC,fT c.Sum,.slice CW c.aF.length Br],.slice jl l.length jg,.slice jP aG.length jO,.slice l9 aX.length l8,aD bW] w λv w'=>v=.tuple #[aD ((ZI c l aG aX bW).1),.bool ((ZI c l aG aX bW).2)]/\Hp w S0 w' []:=by
 refine j4 S0 func245 ntmps245 Y λH0=>?_;have hgl:=ajv c l aG;refine rg<|bx Y Y H0 λg1 w1 K1=>bx Y Y K1 λg2 w2 K2=>bx Y Y K2 λg3 w3 K3=>iA Y<|bS Y<|rg<|ev (dK pU Y Y (K3.x s2))<|mK K3 s1 Y<|mv Y<|gW Y (U5 _ c (K3.a F7).any (K3.a iR).any (K3.a jX).any aj aj) ?_
 rintro _ w4 ⟨qY,qZ,rfl,h4⟩;have K4:=K3.f1 h4;have aFo:=(K4.o s0).bN;refine bS Y<|aZ<|bQ Y<|ev (fB Y Y)<|mv Y<|iG 5 29 ((decide (bW<1))||(decide ((((j3 c l aG).length:Nat):Int)<bW))) ?_ ?_
 ·cases ajB:decide (bW<1) with
  | true=>
   refine eB<|eB<|eB<|eB<|ev (dY Y Y)<|dI Y
  | false=>
   have ax6:=kg ajB;refine bG Y (bA Y) Y<|bG Y (eY fq Y) Y<|bG Y (bA Y) Y<|bG Y (fB Y Y) Y<|ev (eG Y Y)<|dI Y
 refine dn<|bR Y (λhc29=>?_) (λhc29=>?_)
 ·try simp only [eO,dN,bL,bU] at hc29
  refine rg<|iA Y<|bS Y<|vG Y ?_
  have d9:(0:Int)=((ZI c l aG aX bW).1):=by rw [aho aj]
  have fG:(false:Bool)=((ZI c l aG aX bW).2):=by rw [aho aj]
  exact⟨by rw [<- d9,<- fG] <;> rfl,K4.z⟩
 try simp only [eO,dN,bL,bU] at hc29
 refine jh ?_;refine aZ<|rg<|ev (dK pU Y Y (K4.x s3))<|mK K4 s2 Y<|mv Y<|gW Y (amg _ c (K4.a F7).any (K4.a iR).any (K4.a jX).any aj aj) ?_
 rintro _ w5 ⟨xA,xB,rfl,h5⟩;have K5:=K4.f1 h5;have ax7:=(K5.o s0).bN;refine bS Y<|bQ Y<|ev (eY fq Y)<|ev (pJ Y Y)<|dn<|kX Y (λJr=>?_) (λJr=>?_)
 ·refine bQ Y ?_;obtain⟨x1,bP⟩:=bC (xs:=QJ c l aG) (i:=0) aj;refine ev (eU (i:=0) fq sZ Y Y Y (aJ bP) ((K5.o s0).some_ bP))<|ev (jq jG Y ((K5.o s0).fZ (j:=0) bP Y))<|iA Y<|bS Y<|vG Y ?_
  have jQ:(x1:Int)=((ZI c l aG aX bW).1):=by rw [acH aj bP]
  have lV:(true:Bool)=((ZI c l aG aX bW).2):=by rw [acH aj bP]
  exact⟨by rw [<- jQ,<- lV] <;> rfl,K5.z⟩
 refine jh ?_;refine aZ<|bQ Y<|ev (eY fq Y)<|mv Y<|ev (iP Y Y)<|dn<|kX Y (λDf=>?_) (λDf=>?_)
 ·refine rg<|iA Y<|bS Y<|vG Y ?_
  have qU:(0:Int)=((ZI c l aG aX bW).1):=by rw [acI aj aj aj]
  have vY:(false:Bool)=((ZI c l aG aX bW).2):=by rw [acI aj aj aj]
  exact⟨by rw [<- qU,<- vY] <;> rfl,K5.z⟩
 refine jh ?_;refine rg<|mkc K5 Y λg4 w6 K6=>al amr Y K6 λg5 w7 K7=>wD Y K7 s0 Y λw8 K8=>dn<|aZ<|bQ Y<|ev (eY fq Y)<|mv Y<|dn<|cZ ?_
 have xZ:[]=(EJ l ((j3 c l aG).take 0)):=by rfl
 rw [xZ] at K8;refine rR (λmJ lJ wJ=>∃(k:Nat),lJ=[(6,fP g2),(8,fP g3),(12,.slice qY ((j3 c l aG).length) qZ),(14,fP g5),(45,.slice qY ((j3 c l aG).length) qZ),(46,aD (((j3 c l aG).length:Nat):Int)),(47,aD ((k:Nat):Int))]/\mJ=(j3 c l aG).length - k/\k<=(j3 c l aG).length/\Hp w S0 wJ [als g4 (EJ l ((j3 c l aG).take k)),dJ g5 338 [.map (some g4)],aR dL 3 xA xB (QJ c l aG),aR dL 3 qY qZ (j3 c l aG),dJ g3 154 [.slice l9 aX.length l8],dJ g2 41 [.slice jl l.length jg],dJ g1 59 [aD c.ID,aD c.aC,fT c.Sum,.slice CW c.aF.length Br]]) ⟨0,Y,Y,fK _,((K8.sel s0).sel s1)⟩ Y ?_;rintro _ _ w9 ⟨k,rfl,rfl,hk,K9⟩;refine rg<|ev (fB Y Y)<|dn<|oC Y (λaDc=>?_) (λaDc=>?_)
 ·refine jh ?_;refine aZ<|cZ<|rg ?_
  obtain⟨x2,kK⟩:=bC (xs:=j3 c l aG) (i:=k) aj;refine ev (eU (i:=k) fq sZ Y Y Y (aJ kK) ((K9.o s3).some_ kK))<|ev (jq jG Y ((K9.o s3).fZ (j:=0) kK Y))<|bS Y ?_
  have hcb:0<=DK (EJ l ((j3 c l aG).take k)) ((gP l x2).kM)/\DK (EJ l ((j3 c l aG).take k)) ((gP l x2).kM)<=((j3 c l aG).take k).length:=aqu l _ _
  simp only [fE] at hcb
  refine Hf K9 (λ_ K=>(K.rm s0)) (λl0 rk lJ wJ=>lJ=l0/\Hp w S0 wJ (als g4 (F6 (EJ l ((j3 c l aG).take k)) ((gP l x2).kM) ((DK (EJ l ((j3 c l aG).take k)) ((gP l x2).kM))+1))::rk)) (λhns H1=>?_) ?_
  ·have k1:=(H1.rm s0);refine Ai 0 s0 Y k1<|Ai 1 s4 Y k1<|kT 2 Y Y k1<|O1 3 Y<|lF H1 Y (acF _ (H1.a iR).any x2 aj) λNn K10=>?_
   have k2:=(K10.rm s0);refine aP k2<|O1 4 Y<|ev (Ev.asE (K10.obj s0) (QL _ _) underlying338 iw afO Y Y)<|aP k2<|lH 5 Y (λ_ _=>dW Y Y) k2<|O1 6 Y<|aCO (QL _ _) K10 s0 Y Y Y underlying338 iw λRG tO=>?_
   have k3:=(tO.rm s0);refine aP k3<|Dn ⟨Y,tO⟩ Y
  rintro _ Qp ⟨rfl,rW⟩;refine ig (gB ?_);refine jr<|ev (dW Y Y)<|mv Y<|jv ?_
  have hq8:(F6 (EJ l ((j3 c l aG).take k)) ((gP l x2).kM) ((DK (EJ l ((j3 c l aG).take k)) ((gP l x2).kM))+1))=(EJ l ((j3 c l aG).take (k+1))):=by rw [ajz kK]; rfl
  rw [hq8] at rW;exact dQ ⟨(k+1),Y,Y,aj,rW⟩ rfl aj
 refine wQ ?_;refine rg<|ev (qC Y)<|al ahq Y K9 λg6 WO vC=>wD Y vC s0 Y λXv vo=>dn<|bQ Y<|ev (qC Y)<|lF vo Y (XA _ (vo.o s4) (amq:=[fP g6,fP g3]) auP (fun(x:Int) (t:Int)=>exC (EJ l ((j3 c l aG).take k)) l aX x t) (λw' x t e hm=>(aqv w' x t (EJ l ((j3 c l aG).take k)) (QL _ _) ((vo.x s2).ext e) ((show Mp _ _ _ from vo.obj s1).ext e) ((vo.x s6).ext e) ((vo.a iR).any.ext e) ((vo.x s0).ext e) ((vo.x s5).ext e) ((vo.a nN).any.ext e) aj).mono (by rintro _ _ ⟨rfl,fG⟩; exact⟨rfl,fG.ext⟩)) aj) λYg yX=>iA rfl<|bS rfl<|iI rfl ?_
 have yT:((Iy (fun(x:Int) (t:Int)=>exC (EJ l ((j3 c l aG).take k)) l aX x t) (j3 c l aG)):Int)=((ZI c l aG aX bW).1):=by rw [ahp aj aj aj,iD (show(j3 c l aG).length<=k by omega)]
 have qI:(true:Bool)=((ZI c l aG aX bW).2):=by rw [ahp aj aj aj]
 exact⟨by rw [yT,<- qI] <;> rfl,yX.z⟩
structure eZ where
  Node:Int
  At:Int
  deriving DecidableEq
def eZ.enc(x:eZ):List Value:=[.int .i64 x.Node,.int .i64 x.At]
theorem eZ.kC(x:eZ):∀ u∈x.enc,u.oneCell'=true:=by
  intro u hu
  simp only [eZ.enc,iN,kY,qW] at hu
  rcases hu with rfl | rfl <;> rfl
def iL:Ty eZ:=Ty.flat 2 eZ.enc au (λ_=>rfl) eZ.kC
instance:Flat iL:=⟨λh=>h⟩
def U8(b:eZ):Bool:=decide (1<=b.Node)&&decide (b.Node<=16)&&decide (0<=b.At)&&decide (b.At<=1099511627776)
def wF:Int->List eZ->Bool
  | _,[]=>true
  | last,b::l=>U8 b&&decide (last<b.Node)&&wF b.Node l
def iX(l:List eZ):List eZ:=if wF 0 l then l else[]
def LJ(l:List eZ)(k:Nat):Int:=match (l.take k).getLast? with | some b=>b.Node | none=>0
theorem U9:∀(l:List eZ)(b:eZ)(z:Int),wF z (l++[b])=(wF z l&&U8 b&&decide ((match l.getLast? with | some c=>c.Node | none=>z)<b.Node))
  | [],b,z=>by simp [wF]; try rfl
  | c::l,b,z=>by
    have ih:=U9 l b c.Node
    simp only [XW,wF,ih]
    cases l with
    | nil=>simp [U4]; try rfl
    | cons d l=>simp [U4,List.getLast?_cons_cons]; cases hl:(d::l).getLast? <;> simp_all
theorem Va{l:List eZ}{b:eZ}(h:wF 0 (l.take k)=true)(hx:l[k]? = some b):wF 0 (l.take (k+1))=(U8 b&&decide (LJ l k<b.Node)):=by
  rw [fI hx,U9,h]; simp [LJ]; try rfl
theorem Yn:∀(l m:List eZ)(z:Int),wF z (l++m)=true->wF z l=true
  | [],m,z,_=>rfl
  | b::l,m,z,h=>by
    simp only [XW,wF,bK] at h ⊢
    exact⟨h.1,Yn l m _ h.2⟩
theorem afR{l:List eZ}{b:eZ}(hx:l[k]? = some b):LJ l (k+1)=b.Node:=by
  unfold LJ; rw [fI hx]; simp
theorem ajC{l:List eZ}{b:eZ}(h:wF 0 (l.take k)=true)(hx:l[k]? = some b)(hb:(U8 b&&decide (LJ l k<b.Node))=false):iX l=[]:=by
  unfold iX;rw [aK];intro h1;have h2:=Yn (l.take (k+1)) (l.drop (k+1)) 0 (by rw [sJ]; exact h1);rw [Va h hx,hb] at h2
  cases h2
theorem ams{l:List eZ}(h:wF 0 l=true):iX l=l:=by unfold iX; rw [aO h]
theorem Fg:dH prog 107 0 0:=ay
theorem Js:dH prog 107 1 1:=ay
theorem amu  : ∀ w,(Instr.buildSlice 47 0 (List.toArray [])).run prog w=.ok (.slice (some ⟨w.heap.size,0,none⟩) 0 0) (w.alloc (.cells (List.toArray []) 107)):=ay
theorem amv:kQ prog 107 2 16:=by
  obtain⟨i,h1,h2,h3,h4⟩:=rT (show(prog.info? 107).map (λi=>(i.zero,i.size,i.bytes))=some (some (.agg #[aD 0,aD 0]),2,16) by kernel_rfl);exact⟨i,_,h1,h2,h3,h4,Y⟩
theorem Jt:Size prog 107 2:=ay
theorem Gu:XY prog 107 2:=⟨λ_=>by kernel_rfl,Jt⟩
theorem Oj:∀ w,(zeroValue 107).run prog w=.ok (.agg #[aD 0,aD 0]) w:=ay
theorem ahr(w:World)(b:eZ) :
    bO prog 182 #[.agg #[aD b.Node,aD b.At]] w λv w'=>v=.bool (U8 b)/\Hp w S0 w' []:=by
 refine j4 S0 func182 ntmps182 Y λH0=>rg<|bx Y Y H0 λg1 w1 K1=>bS Y<|rg<|jD g1 0 Fg K1 s0 Y<|ev (pK Y Y)<|mv Y<|iG 4 10 ((decide (1<=b.Node))&&(decide (b.Node<=16))) ?_ ?_
 ·cases hb6:decide (1<=b.Node) with
  | true=>
   refine wP g1 0 Fg K1 s0 Y<|bG Y (uK Y Y) Y<|ev (dY Y Y)<|dI Y
  | false=>
   refine eB<|eB<|eB<|ev (eG Y Y)<|dI Y
 refine mv Y<|iG 4 15 (((decide (1<=b.Node))&&(decide (b.Node<=16)))&&(decide (0<=b.At))) ?_ ?_
 ·cases Qu:((decide (1<=b.Node))&&(decide (b.Node<=16))) with
  | true=>
   have Jg:=Qu
   try simp only [bK,dZ,bL,bU] at Jg
   refine wP g1 1 Js K1 s0 Y<|bG Y (pK Y Y) Y<|ev (dY Y Y)<|dI Y
  | false=>
   refine eB<|eB<|eB<|ev (eG Y Y)<|dI Y
 refine mv Y<|iG 4 20 ((((decide (1<=b.Node))&&(decide (b.Node<=16)))&&(decide (0<=b.At)))&&(decide (b.At<=1099511627776))) ?_ ?_
 ·cases UN:(((decide (1<=b.Node))&&(decide (b.Node<=16)))&&(decide (0<=b.At))) with
  | true=>
   have NW:=UN
   try simp only [bK,dZ,bL,bU] at NW
   refine wP g1 1 Js K1 s0 Y<|bG Y (uK Y Y) Y<|ev (dY Y Y)<|dI Y
  | false=>
   refine eB<|eB<|eB<|ev (eG Y Y)<|dI Y
 refine bS Y<|iI Y ?_
 have d9:(((((decide (1<=b.Node))&&(decide (b.Node<=16)))&&(decide (0<=b.At)))&&(decide (b.At<=1099511627776))):Bool)=(U8 b):=by rfl
 exact⟨by rw [d9] <;> rfl,(K1.rm s0)⟩
theorem Bw(w:World){tN:Nat}{s:List eZ}(lK:Sl iL S0 w u7 tN s)(hn:s.length<=1000000) :
    bO prog 61 #[.slice u7 s.length tN] w λv w'=>∃(A0:ah)(c0:Nat),v=.slice A0 s.length c0/\Hp w S0 w' [aR iL 107 A0 c0 s]:=by
 refine j4 S0 func61 ntmps61 Y λH0=>iY Y<|aZ<|bQ Y<|ev (Lx Ao Y Y)<|dn<|bR Y (λhc4=>?_) (λhc4=>?_)
 ·refine iY Y<|vG Y ?_
  have H1:=H0.nil iL 107;have d9:(([]:List eZ):List eZ)=s:=by have h1:=lK.nil (by simpa using hc4); have h2:=lK.cap; exact(uI aj).symm
  have H2:=(d9▸H1:Hp w S0 w (aR iL 107 none 0 s::[]));exact⟨none,0,by rw [<- d9] <;> rfl,H2⟩
 refine jh ?_;refine rg<|bs0 (τ:=iL) (vs:=[]) Y (by intro _; apply amu) rfl H0 λg1 w1 K1=>mv rfl<|ap (ys:=s) K1 s0 rfl rfl (K1.a lK).any Ao amv av (by first | omega | (simp; omega) | (simp; done)) rfl λnY nZ w2 K2=>bS rfl<|iI rfl ?_
 have fG:((([]:List eZ)++s):List eZ)=s:=by simp
 rw [fG] at K2;exact⟨nY,nZ,by rw [fG] <;> rfl,K2⟩
theorem acJ(w:World){l:List eZ}(iR:Sl iL S0 w jl jg l)(hn:l.length<=800000) :
    bO prog 181 #[.slice jl l.length jg] w λv w'=>∃(A0:ah)(c0:Nat),v=.slice A0 ((iX l).length) c0/\Hp w S0 w' [aR iL 107 A0 c0 (iX l)]:=by
 refine j4 S0 func181 ntmps181 Y λH0=>iY Y<|iY Y<|aZ<|bQ Y<|ev (eY Ao Y)<|mv Y<|dn<|cZ ?_
 have d9:(0:Int)=LJ l 0:=by simp [LJ]
 refine kP (t:=3) Y (aS (Value.int .i64) d9)<|Lp H0 (λl0 rk mJ lJ wJ=>∃(k:Nat),lJ=(3,aD (LJ l k))::(8,aD ((k:Nat):Int))::l0/\mJ=l.length - k/\k<=l.length/\(wF 0 (l.take k)=true)/\Hp w S0 wJ rk) ⟨0,Y,Y,fK _,by simp [wF],H0⟩ rfl ?_
 rintro _ _ w1 ⟨k,rfl,rfl,hk,hrise,K1⟩;refine rg<|ev (fB Y Y)<|dn<|oC Y (λFQ=>?_) (λFQ=>?_)
 ·refine jh ?_;refine aZ<|cZ<|rg ?_
  obtain⟨x1,bP⟩:=bC (xs:=l) (i:=k) aj;refine ev (eU (i:=k) Ao Jt Y Y Y (aJ bP) ((K1.a iR).some_ bP))<|ev (fV Gu Y Y ((K1.a iR).eX bP))<|al Oj Y K1 λg1 w2 K2=>sty Y K2 s0 Y λw3 K3=>dn<|aZ<|rg<|ev (dK Gu Y Y (K3.x s0))<|lF K3 Y (ahr (S0:=Any) _ x1) λw4 K4=>ev (gZ Y)<|mv Y<|iG 5 20 ((!(U8 x1))||(decide (x1.Node<=LJ l k))) ?_ ?_
  ·cases Qm:(!(U8 x1)) with
   | true=>
    refine eB<|eB<|eB<|eB<|ev (dY Y Y)<|dI Y
   | false=>
    refine wP g1 0 Fg K4 s0 Y<|bG Y (bA Y) Y<|bG Y (uK Y Y) Y<|ev (eG Y Y)<|dI Y
  refine dn<|bR Y (λkJ=>?_) (λkJ=>?_)
  ·try simp only [eO,dN,bK,dZ,eu,fC,bL,bU] at kJ
   refine iY Y<|je (gL (jH (gL (gL (jH (gL (zD Y ?_)))))))
   have H1:=K4.nil iL 107;have fG:(([]:List eZ):List eZ)=(iX l):=by refine(ajC hrise bP ?_).symm; rcases kJ with h1 | h1; simp [h1]; simp; intro _; omega
   have H2:=(fG▸H1:Hp w S0 w4 (aR iL 107 none 0 (iX l)::[dJ g1 107 [aD x1.Node,aD x1.At]]));exact⟨none,0,by rw [<- fG] <;> rfl,(H2.rm s1)⟩
  try simp only [eO,dN,bK,dZ,eu,fC,bL,bU] at kJ
  refine jh ?_;refine jr<|jD g1 0 Fg K4 s0 Y<|iA Y<|jv<|ig (gB ?_)
  refine jr<|ev (dW Y Y)<|mv Y<|jv ?_
  have jQ:(x1.Node:Int)=LJ l (k+1):=by exact(afR bP).symm
  refine ji (t:=3) Y (aS (Value.int .i64) jQ)<|dQ ⟨(k+1),Y,Y,aj,by rw [Va hrise bP]; obtain⟨h1,h2⟩:=kJ; simp [h1]; omega,(K4.rm s0)⟩ rfl aj
 refine wQ ?_;refine bQ Y<|gW Y (Bw _ (K1.a iR).any aj) ?_
 rintro _ w5 ⟨xA,xB,rfl,h5⟩;have K5:=K1.f1 h5;refine bS Y<|iI Y ?_
 have lV:(l:List eZ)=(iX l):=by rw [iD aj] at hrise; exact(ams hrise).symm
 have H3:=(lV▸K5:Hp w S0 w5 [aR iL 107 xA xB (iX l)]);exact⟨xA,xB,by rw [<- lV] <;> rfl,H3⟩
theorem Fh(l:List eZ):(iX l).length<=l.length:=by unfold iX; split <;> simp
def Vb(b:eZ)(kF:Int):Int:=b.At+(if(1099511627776:Int)<(if 0>kF then 0 else kF) then 1099511627776 else(if 0>kF then 0 else kF))
def LK(aN kF:Int)(b:eZ):Bool:=decide (aN<=Vb b kF)
def Ju(l:List eZ)(aN kF:Int):List eZ:=(iX l).filter (LK aN kF)
theorem Yo:∀(l:List eZ)(z:Int),wF z l=true->∀ b∈l,U8 b=true
  | [],_,_,b,hb=>by simp at hb
  | c::l,z,h,b,hb=>by
    simp only [wF,bK] at h
    rcases iN.1 hb with rfl | hb
    · exact h.1.1
    · exact Yo l _ h.2 b hb
theorem amw{l:List eZ}{b:eZ}(hb:b∈iX l):1<=b.Node/\b.Node<=16/\0<=b.At/\b.At<=1099511627776:=by
  unfold iX at hb; split at hb
  · rename_i h; have:=Yo l 0 h b hb; simp only [U8,bK,bL] at this; exact⟨this.1.1.1,this.1.1.2,this.1.2,this.2⟩
  · simp at hb
theorem afS{α:Type}{p:α->Bool}{l:List α}{x:α}(hx:l[k]? = some x)(hp:p x=true):(l.take k).filter p++[x] <+: l.filter p:=by
  refine⟨(l.drop (k+1)).filter p,?_⟩;have h1:=mP (p:=p) hx;rw [aO hp] at h1;rw [<- h1,<- yg,sJ]
theorem auQ:bI prog 263:=ay
theorem ZJ:∀ w,(zeroValue 55).run prog w=.ok (.slice none 0 0) w:=ay
theorem auR:bI prog 262:=ay
theorem aqw(w:World)(b:eZ)(kF:Int)(hA:0<=b.At/\b.At<=1099511627776) :
    bO prog 263 #[.agg #[aD b.Node,aD b.At],aD kF] w λv w'=>v=aD (Vb b kF)/\Hp w S0 w' []:=by
 refine j4 S0 func263 ntmps263 Y λH0=>rg<|bx Y Y H0 λg1 w1 K1=>bS Y<|rg<|jD g1 1 Js K1 s0 Y<|mv Y<|ev (Ev.max2 Y Y)<|ev (Ev.min2 Y Y)<|ev (Ev.add Y Y (vM (by split <;> (try split) <;> omega) (by split <;> (try split) <;> omega)))<|bS rfl<|iI rfl ?_
 have d9:(b.At+(if 1099511627776<(if 0>kF then 0 else kF) then 1099511627776 else(if 0>kF then 0 else kF)):Int)=(Vb b kF):=by rfl
 exact⟨by rw [d9] <;> rfl,(K1.rm s0)⟩
abbrev zB10x0z:=List.toArray [true,true,true,true,true,true,true,true,true,true,true]
abbrev zB10x2z(gJ:ah)(iK:List eZ)(tF:Nat):List Value:=[.slice gJ iK.length tF]
theorem ZK{b:World}{S:Nat->Prop}{gl gn gt:Nat}{l:List eZ}{aN kF:Int}(hn:l.length<=800000) :
    Iter prog 262 [fP gl,fP gn,fP gt] (fun(x:eZ)=>[.agg #[aD x.Node,aD x.At]]) (Ju l aN kF) b S [dJ gl 47 (zB10x2z jl l jg),dJ gn 3 [aD aN],dJ gt 3 [aD kF],dP iL jl jg l]:=by
 intro lr Jf Jx w F0 H0 h0 hY;refine WP.ae5 func262 Y ntmps262 Y ?_;have K0:=sW (F:=F0) H0;have hf:=Fh l;refine rg<|mK K0 s0 Y<|gW Y (acJ _ (K0.s s3).any aj) ?_
 rintro _ w1 ⟨jK,jL,rfl,h1⟩;have K1:=K0.f1 h1;have LC:=(K1.o s0).bN;refine ev (eY Ao Y)<|mv Y<|dn<|cZ<|rR (λmJ lJ wJ=>∃(k:Nat)(F:List lC),lJ=[(0,.func (.yield lr) #[] #[]),(2,fP gn),(3,fP gt),(8,.slice jK ((iX l).length) jL),(9,aD (((iX l).length:Nat):Int)),(10,aD ((k:Nat):Int))]/\mJ=(iX l).length - k/\k<=(iX l).length/\(Jf (((iX l).take k).filter (LK aN kF)) F)/\Hp b S wJ (aR iL 107 jK jL (iX l)::dJ gl 47 (zB10x2z jl l jg)::dJ gn 3 [aD aN]::dJ gt 3 [aD kF]::dP iL jl jg l::F)) ⟨0,F0,Y,Y,fK _,by simpa using h0,K1⟩ rfl ?_
 rintro _ _ w2 ⟨k,F,rfl,rfl,hk,hJt,K2⟩;refine rg<|ev (fB Y Y)<|dn<|oC Y (λGj=>?_) (λGj=>?_)
 ·refine jh ?_;refine aZ<|cZ<|rg ?_
  obtain⟨x1,bP⟩:=bC (xs:=iX l) (i:=k) aj;refine ev (eU (i:=k) Ao Jt Y Y Y (aJ bP) ((K2.o s0).some_ bP))<|ev (fV Gu Y Y ((K2.o s0).eX bP))<|al Oj Y K2 λg1 w3 K3=>sty Y K3 s0 Y λw4 K4=>dn<|WP.dr ak ?_
  have H1:=K4.grow (om w4).drew;refine X7 H1 [(0,14,aD aN),(1,15,.agg #[aD x1.Node,aD x1.At]),(2,16,aD kF),(3,17,aD (Vb x1 kF)),(4,18,.bool (decide (aN<=Vb x1 kF))),(5,19,.bool (decide (aN<=Vb x1 kF)))] 5 (Zi ak) (ER Y (λ_ hK=>(cu jG Y (hK.x s3) Y))<|ER Y (λ_ hK=>(dK Gu Y Y (hK.x s0)))<|ER Y (λ_ hK=>(cu jG Y (hK.x s4) Y))<|qcz Y (Qi.call Y Y Y auQ (λ_ hK=>(aqw (S0:=Any) _ x1 kF (amw (dA bP)).2.2).mono (by rintro _ _ ⟨rfl,fG⟩; exact⟨rfl,hK.grow fG.ext⟩)))<|ER rfl (λ_ hK=>(uK rfl rfl))<|ER rfl (λ_ hK=>(bA rfl))<|X8) λw5 K5=>?_
  cases XB:decide (aN<=Vb x1 kF) with
  | true=>
   have amx:=jC XB;refine X7 K5 [(6,20,.func (.yield lr) #[] #[]),(7,21,.agg #[aD x1.Node,aD x1.At])] 3 ak (KX Y (λ_ hK=>(bA Y))<|KX Y (λ_ hK=>(dK Gu Y Y (hK.x s0)))<|X8) λw6 K6=>?_;refine WI.one 8 ak Y ?_;have hy1:=hY (((iX l).take k).filter (LK aN kF)) x1 _ _ [dJ g1 107 [aD x1.Node,aD x1.At],aR iL 107 jK jL (iX l)] hJt (afS bP (by exact XB)) (sW (F:=[dJ gl 47 (zB10x2z jl l jg),dJ gn 3 [aD aN],dJ gt 3 [aD kF],dP iL jl jg l,dJ g1 107 [aD x1.Node,aD x1.At],aR iL 107 jK jL (iX l)]) ((K6.mV 0 2).mV 2 4));refine WL.yield Y Y Y hy1 (by rintro e w' (⟨rfl,_⟩ | ⟨rfl,_⟩) <;> exact⟨_,rfl⟩) rfl rfl rfl ?_;rintro v w7 (⟨hv,F1,hJ1,K7⟩ | ⟨hv,F1,hJ1,K7⟩)
   ·cases hv
    have K7c:=sW (F:=F1) K7;refine WI.nx<|X7 K7c [(9,23,.bool false),(10,24,.bool false)] 0 ak (KX Y (λ_ hK=>(gZ (b:=true) Y))<|ER Y (λ_ hK=>(dY Y Y))<|X8) λw8 K8=>?_
    refine WI.dn ak<|bR Y nofun (λ_h=>?_)
    refine zF ?_;refine jr<|ev (dW Y Y)<|mv Y<|jv<|dQ ⟨(k+1),F1,Y,Y,aj,by rw [mP bP]; first | (rw [aO (show LK aN kF x1=true from XB)]; assumption) | (rw [aK (show ¬ LK aN kF x1=true by rw [show LK aN kF x1=false from XB]; decide),Ad]; exact hJt),(((K8.rm s4).mV 0 4).sel s4)⟩ rfl aj
   ·cases hv
    have K7c:=sW (F:=F1) K7;refine WI.nx<|X7 K7c [(9,23,.bool true),(10,24,.bool true)] 0 ak (KX Y (λ_ hK=>(gZ (b:=false) Y))<|ER Y (λ_ hK=>(dY Y Y))<|X8) λw9 K9=>?_
    refine WI.dn ak<|bR Y (λ_h=>?_) nofun
    exact je (jH (gL (gL (jH (kV.aiR Y ⟨⟨_,Y⟩,.inr ⟨_,_,hJ1,(sW (F:=[dJ gl 47 (zB10x2z jl l jg),dJ gn 3 [aD aN],dJ gt 3 [aD kF],dP iL jl jg l]) (K9.cU 4 2))⟩⟩)))))
  | false=>
   have amx:=kg XB;refine X7 K5 [(6,20,undef),(7,21,undef),(8,22,undef),(9,23,undef),(10,24,.bool false)] 0 ak (yt Y<|yt Y<|yt Y<|yt Y<|ER Y (λ_ hK=>(eG Y Y))<|X8) λNn K10=>?_;refine WI.dn ak<|bR Y nofun (λ_h=>?_)
   refine zF ?_;refine jr<|ev (dW Y Y)<|mv Y<|jv<|dQ ⟨(k+1),F,Y,Y,aj,by rw [mP bP]; first | (rw [aO (show LK aN kF x1=true from XB)]; assumption) | (rw [aK (show ¬ LK aN kF x1=true by rw [show LK aN kF x1=false from XB]; decide),Ad]; exact hJt),(K10.rm s0)⟩ rfl aj
 exact uU (oz (oz (vK (kV.alo (kV.aiR Y ⟨⟨_,Y⟩,.inl ⟨_,by rw [iD aj] at hJt; exact hJt,(sW (F:=[dJ gl 47 (zB10x2z jl l jg),dJ gn 3 [aD aN],dJ gt 3 [aD kF],dP iL jl jg l]) (K2.rm s0))⟩⟩)))))
theorem ajD(w:World){l:List eZ}(iR:Sl iL S0 w jl jg l)(aN:Int)(kF:Int) :
    bO prog 172 #[.slice jl l.length jg,aD aN,aD kF] w λv w'=>∃(acv:Nat)(acw:Nat)(ax8:Nat),v=.func (.func 262) #[] #[fP acv,fP acw,fP ax8]/\Hp w S0 w' [dJ acv 47 [.slice jl l.length jg],dJ acw 3 [aD aN],dJ ax8 3 [aD kF]]:=by
 refine j4 S0 func172 ntmps172 Y λH0=>rg<|bx Y Y H0 λg1 w1 K1=>bx Y Y K1 λg2 w2 K2=>bx Y Y K2 λg3 w3 K3=>bS Y<|rg<|ev (qC Y)<|bS Y<|iI Y ?_
 exact⟨g1,g2,g3,Y,(((K3.sel s0).sel s1).sel s2)⟩
theorem LP(w:World){l:List eZ}(iR:Sl iL S0 w jl jg l)(aN:Int)(kF:Int)(hn:l.length<=800000) :
    bO prog 102 #[.slice jl l.length jg,aD aN,aD kF] w λv w'=>∃(A0:ah)(c0:Nat),v=.slice A0 (((Ju l aN kF).map eZ.Node).length) c0/\Hp w S0 w' [aR dL 3 A0 c0 ((Ju l aN kF).map eZ.Node)]:=by
 refine axx S0 func102 ntmps102 Y λH0=>?_;have hlv:(Ju l aN kF).length<=800000:=by have h1:=lX (LK aN kF) (iX l); have h2:=Fh l; unfold Ju; omega
 refine iY Y<|rg<|al ZJ Y H0 λg1 w1 K1=>dn<|aZ<|bQ Y<|mv Y<|mv Y<|gW Y (ajD _ (K1.a iR).any aN kF) ?_
 rintro _ w2 ⟨Gv,auS,auT,rfl,h2⟩;have K2:=K1.f3 h2;refine dn<|cZ ?_
 have H1:=K2.push (K2.a iR);have H2:=H1.nil dL 3;refine WP.range (enc:=fun(x:eZ)=>[.agg #[aD x.Node,aD x.At]]) (ys:=Ju l aN kF) (F0:=[dJ g1 55 [.slice none (([].map eZ.Node).length) 0],aR dL 3 none 0 []]) (G0:=[dJ Gv 47 [.slice jl l.length jg],dJ auS 3 [aD aN],dJ auT 3 [aD kF],dP iL jl jg l]) Y auR (ZK aj) (((H2.sel s1).mV 1 4).sel s5) (λ_=>Y) Y (λpre Fj=>∃(A:ah)(c:Nat),Fj=[dJ g1 55 [.slice A ((pre.map eZ.Node).length) c],aR dL 3 A c (pre.map eZ.Node)]) (λc pre Fj=>False) (λpre x l1 Fj=>∃(A:ah)(c:Nat)(RH:Nat),l1=[(7,fP g1),(8,fP RH)]/\Fj=[dJ RH 107 [aD x.Node,aD x.At],dJ g1 55 [.slice A ((pre.map eZ.Node).length) c],aR dL 3 A c (pre.map eZ.Node)]) ⟨none,0,Y⟩ ?_ ?_ ?_ ?_
 ·rintro lr pre x _ G w3 ⟨A,c,rfl⟩ hpre K3;refine jr<|al Oj Y K3 λg2 w4 K4=>sty Y K4 s0 Y λw5 K5=>jv<|kV.ap ⟨A,c,g2,Y,Y⟩ Y K5
 ·rintro lr pre x _ _ G w6 ⟨A,c,RH,rfl,rfl⟩ hpre K6;have hpl:(pre.map eZ.Node).length<=800000:=by have h1:=hpre.length_le; simp at h1 ⊢; omega
  refine cZ<|jr<|mK K6 s1 Y<|jD RH 0 Fg K6 s0 Y<|yU (τ:=dL) (x:=x.Node) Y (by intro _; apply pE) rfl K6 (λ_ _=>rfl) λg3 w7 K7=>ap (ys:=([x.Node]:List Int)) K7 s3 rfl rfl (K7.o s0) fq KY aj av rfl λnY nZ w8 K8=>wD rfl K8 s3 rfl λw9 K9=>jv<|ig ?_
  have d9:(((pre.map eZ.Node)++([x.Node]:List Int)):List Int)=((pre++[x]).map eZ.Node):=by simp
  rw [d9] at K9;exact kV.rn ⟨nY,nZ,Y⟩ (K9.cU 2 2)
 ·rintro D _ Nn ⟨A,c,rfl⟩ K10;refine ig (gB ?_);refine rg<|mK K10 s5 Y<|bS Y<|je (kV.aiQ K10 Y λRG tO=>⟨_,⟨_,_,Y,Y,Y⟩,?_⟩)
  exact⟨A,c,Y,(tO.cU 0 5)⟩
 ·rintro D c pre F w h _;exact h.elim
end Go.Proofs.YtlhnnmlenkahlaaGreat
