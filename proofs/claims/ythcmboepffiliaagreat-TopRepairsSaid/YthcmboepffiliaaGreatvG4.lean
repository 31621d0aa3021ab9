/- Lemmas. -/
import Derived.Test.YthcmboepffiliaaGreatvG3
set_option maxRecDepth 4000
set_option linter.all false
namespace Go.Proofs.YthcmboepffiliaaGreat
open Go.RowKit Go.Proofs.Tryz
def adn:=@Nat.lt_trichotomy
def aCm:=@List.mem_or_eq_of_mem_set
def YL:=@List.getElem?_take_of_lt
def EZ:=@List.find?_eq_none
def MS:=@List.find?_append
def DT:=@List.filter_eq_self
def YM:=@underlying131
def PY:=@underlying188
section
variable {l:List aH}{id most sum bF bR j:Int}{f:aH->aH × Int}{c:aH}{α:Type}{i jK:Nat}{S S0:Nat->Prop}{F:List kF}{A jL:ah}{ks:List bE}{k:bE}{h:List Int}
def YN:kW prog 45:=λ_=>by rfl
def JH:bU prog 48 2 2:=λ_ _=>by rfl
def alQ:Size prog 45 1:=λ_=>by rfl
def arz:bC prog 350:=λ_ _=>by rfl
def aCn:bC prog 348:=λ_ _=>by rfl
def aCo:bC prog 349:=λ_ _=>by rfl
def aCp:bC prog 352:=λ_ _=>by rfl
def aCq:ags 351 376 377 46 3 1 8 Tryz.f351.name:=⟨by rfl,⟨_,func376,by rfl,by rfl,ak,ak⟩,gq,ig,wX,by rfl,LB,aCj⟩
def ado:=@Ux _ _ _ _ _ _ _ _ dN aCq
def eu(sum:Int)(c:aH):aH × Int:=if 1073741824<=c.E then(c,7) else({ c with E:=c.E+1,Sum:=sum,aD:=[] },0)
def pK(bF bR:Int)(c:aH):aH × Int:=if bR≠c.E then(c,9) else if hits (fun(y:Int)=>bL y bF) c.aD=true then(c,6) else({ c with aD:=c.aD.take (low (fun(y:Int)=>bL y bF) c.aD)++[bF]++c.aD.drop (low (fun(y:Int)=>bL y bF) c.aD) },0)
def jk(bF:Int)(c:aH):aH × Int:=if hits (fun(y:Int)=>bL y bF) c.aD=true then({ c with aD:=c.aD.take (low (fun(y:Int)=>bL y bF) c.aD)++c.aD.drop (low (fun(y:Int)=>bL y bF) c.aD+1) },0) else(c,5)
def QY(ks:V bE):(ks.map bE.c).length=ks.length:=jW _
def gU(l:List aH)(id:Int)(f:aH->aH × Int):List aH × Int:=
  if hits (fun(y:aH)=>bL y.ID id) (dV l)=true then
    match (dV l)[low (fun(y:aH)=>bL y.ID id) (dV l)]? with
    | some c=>if(f c).2=0 then((dV l).set (low (fun(y:aH)=>bL y.ID id) (dV l)) (f c).1,0) else([],(f c).2)
    | none=>([],5)
  else([],5)
def Xb(h:hits (fun(y:aH)=>bL y.ID id) (dV l)=true)(hc:(dV l)[low (fun(y:aH)=>bL y.ID id) (dV l)]? = some c):gU l id f=if(f c).2=0 then((dV l).set (low (fun(y:aH)=>bL y.ID id) (dV l)) (f c).1,0) else([],(f c).2):=by
 grind [gU]
def alR(h:hits (fun(y:aH)=>bL y.ID id) (dV l)=false):gU l id f=([],5):=by
 grind [gU]
def JI:∀(l:V Int)(z:Int),nQ most z l=true->l=[]∨(l.length:Int)<=most+1 - z
 | [],_,_=>.inl rfl
 | y::l,z,h=>by
  simp only [nQ,bK,dZ,dQ,bV] at h
  right
  rcases JI l _ h.2 with rfl | h1
  ·simp; omega
  ·simp only [oO]; omega
theorem rU(h:oF c=true):1<=c.E/\c.E<=1073741824/\nQ 16 1 c.aD=true:=by
 grind [oF]
theorem QZ(h:oF c=true):c.aD.length<=16:=by
 rcases JI _ _ (rU h).2.2 with h1 | h1
 all_goals grind
def Ob(h:oF c=true):Up (fun(x:Int)=>x) c.aD:=EK _ _ (rU h).2.2
theorem II{l:V α}{x:α}(h:l[i]? = some x):l.set i x=l:=by
 apply Ho; grind
def aGE(w:World)(f:FuncId)(kf:List Value)(dof:aH->aH × Int):Prop:=
  ∀(S:Nat->Prop)(w':World)(F:List kF)(A:ah)(c:Nat)(ks:List bE)(i:Nat)(k:bE),Hp w S w' (aR tK 48 A c ks::fH dN 3 (ks.map rQ)::F)->ks[i]? = some k->oF k.c=true->
    bM prog f (([.pointer (some ((Gh A).add (i*4)))]:List Value)++kf).toArray w' λv w''=>∃ k':bE,k'.c=(dof k.c).1/\v=.int .i64 (dof k.c).2/\Hp w S w'' (aR tK 48 A c (ks.set i k')::fH dN 3 ((ks.set i k').map rQ)::F)
theorem abN(l:V aH):∀ x∈dV l,oF x=true:=(kK.1 (zS l)).1
def aon{b w:World}{c:Nat}{aAD:Nat}(aGF:Bx b aAD 45 [.int .u32 sum])(H0:Hp b S w (aR tK 48 A c ks::fH dN 3 (ks.map rQ)::F))(hx:ks[i]? = some k)(ho:oF k.c=true):bM prog 348 #[.pointer (some ((Gh A).add (i*4))),.pointer (some ⟨aAD,0,none⟩)] w λv w'=>∃ k':bE,k'.c=(eu sum k.c).1/\v=.int .i64 (eu sum k.c).2/\Hp b S w' (aR tK 48 A c (ks.set i k')::fH dN 3 ((ks.set i k').map rQ)::F):=by
 refine qN func348 ntmps348 Y ?_;have hr:(ks.map rQ)[i]? = some (k.B,k.d,k.c.aD):=by rw [rM,hx]; rfl
 have H1:=(H0.Dm s1 hr).sel U;have hlen:=QZ ho;have hup:=(Ob ho);have aGG:=rU ho;refine kX Y<|aZ<|pC 3 Y<|ev (fq tO Y (fD _ _ _))<|ev (kG jF Y ((H1.o s2).eZ hx Y))<|pA 2 Y<|bS Y (λhc8=>?_) (λhc8=>?_)
 ·replace hc8:=iY hc8;refine kX Y<|Aw Y ?_
  have hd:eu sum k.c=(k.c,7):=by exact aS hc8
  have hs:ks=ks.set i k:=(II hx).symm;have KZ:=((((H1.mV 0 2).sel s2)).Ej hr s1 s1).sel s1;exact⟨k,(aY Prod.fst hd).symm,aY (Value.int .i64) (aY Prod.snd hd).symm,by rw [EY,<- hs]; exact KZ⟩
 replace hc8:=jX hc8;refine jQ ?_;refine pC 3 Y<|ev (fq tO Y (fD _ _ _))<|ev (kG jF Y ((H1.o s2).eZ hx Y))<|ev (L6 Y Y (xR aj aj))<|pq 1 Y<|ev (fq tO Y (fD _ _ _))<|se (x':=(⟨{ k.c with E:=k.c.E+1 },k.B,k.d⟩:bE)) H1 s2 Y Y Y hx Y wX (nU Y) Y (by rintro _ _ _ ⟨⟩; rfl) λw1 K1=>?_
 have hl1:(ks.set i (⟨{ k.c with E:=k.c.E+1 },k.B,k.d⟩:bE)).length=ks.length:=iC ..;have bT:(ks.set i (⟨{ k.c with E:=k.c.E+1 },k.B,k.d⟩:bE))[i]? = some (⟨{ k.c with E:=k.c.E+1 },k.B,k.d⟩:bE):=u7 (aP hx);refine pB 4 Y<|ev (dU YN Y (aGF.ext K1.ext) Y)<|pq 1 Y<|ev (fq JH Y (fD _ _ _))<|se (x':=(⟨{ (⟨{ k.c with E:=k.c.E+1 },k.B,k.d⟩:bE).c with Sum:=sum },(⟨{ k.c with E:=k.c.E+1 },k.B,k.d⟩:bE).B,(⟨{ k.c with E:=k.c.E+1 },k.B,k.d⟩:bE).d⟩:bE)) K1 U Y Y Y bT Y alQ (nU Y) Y (by rintro _ _ _ ⟨⟩; rfl) λw2 K2=>?_
 have hl2:((ks.set i (⟨{ k.c with E:=k.c.E+1 },k.B,k.d⟩:bE)).set i (⟨{ (⟨{ k.c with E:=k.c.E+1 },k.B,k.d⟩:bE).c with Sum:=sum },(⟨{ k.c with E:=k.c.E+1 },k.B,k.d⟩:bE).B,(⟨{ k.c with E:=k.c.E+1 },k.B,k.d⟩:bE).d⟩:bE)).length=(ks.set i (⟨{ k.c with E:=k.c.E+1 },k.B,k.d⟩:bE)).length:=iC ..;have nE:((ks.set i (⟨{ k.c with E:=k.c.E+1 },k.B,k.d⟩:bE)).set i (⟨{ (⟨{ k.c with E:=k.c.E+1 },k.B,k.d⟩:bE).c with Sum:=sum },(⟨{ k.c with E:=k.c.E+1 },k.B,k.d⟩:bE).B,(⟨{ k.c with E:=k.c.E+1 },k.B,k.d⟩:bE).d⟩:bE))[i]? = some (⟨{ (⟨{ k.c with E:=k.c.E+1 },k.B,k.d⟩:bE).c with Sum:=sum },(⟨{ k.c with E:=k.c.E+1 },k.B,k.d⟩:bE).B,(⟨{ k.c with E:=k.c.E+1 },k.B,k.d⟩:bE).d⟩:bE):=u7 (aP bT);refine pq 1 Y<|ev (fq kr Y (fD _ _ _))<|se (x':=(⟨{ (⟨{ (⟨{ k.c with E:=k.c.E+1 },k.B,k.d⟩:bE).c with Sum:=sum },(⟨{ k.c with E:=k.c.E+1 },k.B,k.d⟩:bE).B,(⟨{ k.c with E:=k.c.E+1 },k.B,k.d⟩:bE).d⟩:bE).c with aD:=[] },none,0⟩:bE)) K2 U Y Y Y nE Y VU (nU Y) Y (by rintro _ _ _ ⟨⟩; rfl) λw3 K3=>?_
 have hl3:(((ks.set i (⟨{ k.c with E:=k.c.E+1 },k.B,k.d⟩:bE)).set i (⟨{ (⟨{ k.c with E:=k.c.E+1 },k.B,k.d⟩:bE).c with Sum:=sum },(⟨{ k.c with E:=k.c.E+1 },k.B,k.d⟩:bE).B,(⟨{ k.c with E:=k.c.E+1 },k.B,k.d⟩:bE).d⟩:bE)).set i (⟨{ (⟨{ (⟨{ k.c with E:=k.c.E+1 },k.B,k.d⟩:bE).c with Sum:=sum },(⟨{ k.c with E:=k.c.E+1 },k.B,k.d⟩:bE).B,(⟨{ k.c with E:=k.c.E+1 },k.B,k.d⟩:bE).d⟩:bE).c with aD:=[] },none,0⟩:bE)).length=((ks.set i (⟨{ k.c with E:=k.c.E+1 },k.B,k.d⟩:bE)).set i (⟨{ (⟨{ k.c with E:=k.c.E+1 },k.B,k.d⟩:bE).c with Sum:=sum },(⟨{ k.c with E:=k.c.E+1 },k.B,k.d⟩:bE).B,(⟨{ k.c with E:=k.c.E+1 },k.B,k.d⟩:bE).d⟩:bE)).length:=iC ..;have hx3:(((ks.set i (⟨{ k.c with E:=k.c.E+1 },k.B,k.d⟩:bE)).set i (⟨{ (⟨{ k.c with E:=k.c.E+1 },k.B,k.d⟩:bE).c with Sum:=sum },(⟨{ k.c with E:=k.c.E+1 },k.B,k.d⟩:bE).B,(⟨{ k.c with E:=k.c.E+1 },k.B,k.d⟩:bE).d⟩:bE)).set i (⟨{ (⟨{ (⟨{ k.c with E:=k.c.E+1 },k.B,k.d⟩:bE).c with Sum:=sum },(⟨{ k.c with E:=k.c.E+1 },k.B,k.d⟩:bE).B,(⟨{ k.c with E:=k.c.E+1 },k.B,k.d⟩:bE).d⟩:bE).c with aD:=[] },none,0⟩:bE))[i]? = some (⟨{ (⟨{ (⟨{ k.c with E:=k.c.E+1 },k.B,k.d⟩:bE).c with Sum:=sum },(⟨{ k.c with E:=k.c.E+1 },k.B,k.d⟩:bE).B,(⟨{ k.c with E:=k.c.E+1 },k.B,k.d⟩:bE).d⟩:bE).c with aD:=[] },none,0⟩:bE):=u7 (aP nE);refine dn<|kX Y<|iU Y ?_
 have H1:=K3.nil dN 3;have hd:eu sum k.c=((⟨{ (⟨{ (⟨{ k.c with E:=k.c.E+1 },k.B,k.d⟩:bE).c with Sum:=sum },(⟨{ k.c with E:=k.c.E+1 },k.B,k.d⟩:bE).B,(⟨{ k.c with E:=k.c.E+1 },k.B,k.d⟩:bE).d⟩:bE).c with aD:=[] },none,0⟩:bE).c,0):=by exact aQ hc8
 have hs:(((ks.set i (⟨{ k.c with E:=k.c.E+1 },k.B,k.d⟩:bE)).set i (⟨{ (⟨{ k.c with E:=k.c.E+1 },k.B,k.d⟩:bE).c with Sum:=sum },(⟨{ k.c with E:=k.c.E+1 },k.B,k.d⟩:bE).B,(⟨{ k.c with E:=k.c.E+1 },k.B,k.d⟩:bE).d⟩:bE)).set i (⟨{ (⟨{ (⟨{ k.c with E:=k.c.E+1 },k.B,k.d⟩:bE).c with Sum:=sum },(⟨{ k.c with E:=k.c.E+1 },k.B,k.d⟩:bE).B,(⟨{ k.c with E:=k.c.E+1 },k.B,k.d⟩:bE).d⟩:bE).c with aD:=[] },none,0⟩:bE))=ks.set i (⟨{ (⟨{ (⟨{ k.c with E:=k.c.E+1 },k.B,k.d⟩:bE).c with Sum:=sum },(⟨{ k.c with E:=k.c.E+1 },k.B,k.d⟩:bE).B,(⟨{ k.c with E:=k.c.E+1 },k.B,k.d⟩:bE).d⟩:bE).c with aD:=[] },none,0⟩:bE):=(by simp only [List.set_set]);have KZ:=(((((H1.rm s2).sel U).sel s1)).Ej hr s1 s1).sel s1;exact⟨(⟨{ (⟨{ (⟨{ k.c with E:=k.c.E+1 },k.B,k.d⟩:bE).c with Sum:=sum },(⟨{ k.c with E:=k.c.E+1 },k.B,k.d⟩:bE).B,(⟨{ k.c with E:=k.c.E+1 },k.B,k.d⟩:bE).d⟩:bE).c with aD:=[] },none,0⟩:bE),(aY Prod.fst hd).symm,aY (Value.int .i64) (aY Prod.snd hd).symm,by rw [EY,<- hs]; exact KZ⟩
def aoo{b w:World}{c:Nat}{E5:Nat}(MV:Bx b E5 3 [.int .i64 bF]){abO:Nat}(aop:Bx b abO 3 [.int .i64 bR])(H0:Hp b S w (aR tK 48 A c ks::fH dN 3 (ks.map rQ)::F))(hx:ks[i]? = some k)(ho:oF k.c=true):bM prog 349 #[.pointer (some ((Gh A).add (i*4))),.pointer (some ⟨E5,0,none⟩),.pointer (some ⟨abO,0,none⟩)] w λv w'=>∃ k':bE,k'.c=(pK bF bR k.c).1/\v=.int .i64 (pK bF bR k.c).2/\Hp b S w' (aR tK 48 A c (ks.set i k')::fH dN 3 ((ks.set i k').map rQ)::F):=by
 refine qN func349 ntmps349 Y ?_;have hr:(ks.map rQ)[i]? = some (k.B,k.d,k.c.aD):=by rw [rM,hx]; rfl
 have H1:=(H0.Dm s1 hr).sel U;have hlen:=QZ ho;have hup:=(Ob ho);have aGG:=rU ho;have hlow:=G8 (fun(y:Int)=>bL y bF) k.c.aD;refine kX Y<|pW ak ak<|bf (dP Y) Y<|bf (nH Y) Y<|bf (fq kr Y (fD _ _ _)) Y<|bf (kG EX Y ((H1.o s2).eZ hx Y)) Y<|bf (dU jF Y (MV.ext H1.ext) Y) Y<|LZ Y Y Y arz (λwq eq=>(PD wq ((H1.o U).ext eq) bF (Up.mono hup bF) aj).mono (by rintro _ _ ⟨rfl,gH⟩; exact⟨rfl,gH.ext⟩)) rfl<|bf (dP rfl) rfl<|bf (yE rfl rfl) rfl<|bf (yE rfl rfl) rfl<|bf (tF rfl) rfl<|bf (tF rfl) rfl<|pX λw1 e1=>?_
 have K1:=H1.grow e1;refine aZ<|dF<|pW ak ak<|bf (dU jF Y (aop.ext K1.ext) Y) Y<|bf (dP Y) Y<|bf (nH Y) Y<|bf (fq tO Y (fD _ _ _)) Y<|bf (kG jF Y ((K1.o s2).eZ hx Y)) Y<|bf (Gq Y Y) Y<|bf (tF Y) Y<|pX λw2 e2=>?_
 have K2:=K1.grow e2;refine bS Y (λhc16=>?_) (λhc16=>?_)
 ·replace hc16:=oL hc16;refine kX Y<|YC Y ?_
  have hd:pK bF bR k.c=(k.c,9):=by exact aS (by simpa using hc16)
  have hs:ks=ks.set i k:=(II hx).symm;have KZ:=((((K2.mV 0 2).sel s2)).Ej hr s1 s1).sel s1;exact⟨k,(aY Prod.fst hd).symm,aY (Value.int .i64) (aY Prod.snd hd).symm,by rw [EY,<- hs]; exact KZ⟩
 replace hc16:=oM hc16;refine gD Y<|fE Y<|bS Y (λuQ=>?_) (λuQ=>?_)
 ·refine kX Y<|YC Y ?_
  have hd:pK bF bR k.c=(k.c,6):=by exact(aQ (by simpa using hc16)).trans (aS uQ)
  have hs:ks=ks.set i k:=(II hx).symm;have KZ:=((((K2.mV 0 2).sel s2)).Ej hr s1 s1).sel s1;exact⟨k,(aY Prod.fst hd).symm,aY (Value.int .i64) (aY Prod.snd hd).symm,by rw [EY,<- hs]; exact KZ⟩
 refine Gw ?_;refine He K2 (λ_ K=>((K.rm s2).rm U)) (λl0 rk lJ wJ=>∃ jG jr,lJ=l0/\Hp b S wJ (aR tK 48 A c (ks.set i (⟨{ k.c with aD:=(k.c.aD.take (low (fun(y:Int)=>bL y bF) k.c.aD)++[bF]++k.c.aD.drop (low (fun(y:Int)=>bL y bF) k.c.aD)) },jG,jr⟩:bE))::aR dN 3 jG jr (k.c.aD.take (low (fun(y:Int)=>bL y bF) k.c.aD)++[bF]++k.c.aD.drop (low (fun(y:Int)=>bL y bF) k.c.aD))::rk)) (λhns H1=>?_) ?_
 ·have k1:=((H1.rm s2).rm U);refine lF 0 Y Y k1<|lF 1 Y Y k1<|tcz 2 Y Y k1<|kI 3 Y (λ_ _=>fq kr Y (fD _ _ _)) k1<|lF 5 Y Y k1<|kI 6 Y (λ_ hK=>dU jF Y (MV.ext hK.ext) Y) k1<|Jn H1 (λl0 rk lJ wJ=>∃ g1,lJ=(29,.slice k.B k.c.aD.length k.d)::(32,.slice (some ⟨g1,0,none⟩) (([bF]:V Int).length) 1)::l0/\Hp b S wJ (aR dN 3 (some ⟨g1,0,none⟩) 1 ([bF]:V Int)::rk)) 4 255 ?_ λhS1=>?_
  ·rintro _ w7 ⟨g1,rfl,K7⟩;refine O1 8 Y<|gu Y (ado K7 s1 U aj aj) ?_
   rintro _ w8 ⟨WO,cp2,rfl,K8⟩;have k6:=((K8.rm s2).rm U);refine aO k6<|tcz 9 Y Y k6<|kI 10 Y (λ_ _=>fq kr Y (fD _ _ _)) k6<|O1 11 Y<|se (x':=(⟨{ k.c with aD:=(k.c.aD.take (low (fun(y:Int)=>bL y bF) k.c.aD)++[bF]++k.c.aD.drop (low (fun(y:Int)=>bL y bF) k.c.aD)) },WO,cp2⟩:bE)) K8 s2 Y Y Y hx Y VU (nU Y) Y (by rintro _ _ _ ⟨⟩; rfl) λw9 K9=>?_
   have hl2:(ks.set i (⟨{ k.c with aD:=(k.c.aD.take (low (fun(y:Int)=>bL y bF) k.c.aD)++[bF]++k.c.aD.drop (low (fun(y:Int)=>bL y bF) k.c.aD)) },WO,cp2⟩:bE)).length=ks.length:=iC ..;have nE:(ks.set i (⟨{ k.c with aD:=(k.c.aD.take (low (fun(y:Int)=>bL y bF) k.c.aD)++[bF]++k.c.aD.drop (low (fun(y:Int)=>bL y bF) k.c.aD)) },WO,cp2⟩:bE))[i]? = some (⟨{ k.c with aD:=(k.c.aD.take (low (fun(y:Int)=>bL y bF) k.c.aD)++[bF]++k.c.aD.drop (low (fun(y:Int)=>bL y bF) k.c.aD)) },WO,cp2⟩:bE):=u7 (aP hx);have k7:=(K9.cU 0 2);refine aO k7<|Dn ⟨WO,cp2,Y,K9⟩ Y
  refine O2 4 7 Y Y ?_ ?_
  ·refine ev (kG EX Y ((H1.o s2).eZ hx Y))<|aO k1<|O1 7 Y<|yV (τ:=dN) (x:=bF) Y (by intro _; apply pI) rfl H1 (λ_ _=>rfl) λg3 PE K10=>?_
   have k8:=((K10.rm s3).cU 0 2);exact Kj hS1 k8 ⟨g3,Y,K10⟩ Y
  ·refine yV (τ:=dN) Y (by intro _; apply pI) rfl H1 (λ_ _=>rfl) λg4 VY vF=>?_;have k9:=((vF.rm s3).cU 0 2);refine aO k9<|O1 4 Y<|ev (kG EX Y ((vF.o s3).eZ hx Y))<|Kj hS1 k9 ⟨g4,Y,vF⟩ Y
 rintro _ Uy ⟨jG,jr,rfl,uR⟩;refine kX Y<|iU Y ?_
 have hd:pK bF bR k.c=((⟨{ k.c with aD:=(k.c.aD.take (low (fun(y:Int)=>bL y bF) k.c.aD)++[bF]++k.c.aD.drop (low (fun(y:Int)=>bL y bF) k.c.aD)) },jG,jr⟩:bE).c,0):=by exact(aQ (by simpa using hc16)).trans (aQ (by rw [uQ]; decide))
 have hs:(ks.set i (⟨{ k.c with aD:=(k.c.aD.take (low (fun(y:Int)=>bL y bF) k.c.aD)++[bF]++k.c.aD.drop (low (fun(y:Int)=>bL y bF) k.c.aD)) },jG,jr⟩:bE))=ks.set i (⟨{ k.c with aD:=(k.c.aD.take (low (fun(y:Int)=>bL y bF) k.c.aD)++[bF]++k.c.aD.drop (low (fun(y:Int)=>bL y bF) k.c.aD)) },jG,jr⟩:bE):=(by simp only [List.set_set]);have KZ:=((uR).Ej hr s1 s1).sel s1;exact⟨(⟨{ k.c with aD:=(k.c.aD.take (low (fun(y:Int)=>bL y bF) k.c.aD)++[bF]++k.c.aD.drop (low (fun(y:Int)=>bL y bF) k.c.aD)) },jG,jr⟩:bE),(aY Prod.fst hd).symm,aY (Value.int .i64) (aY Prod.snd hd).symm,by rw [EY,<- hs]; exact KZ⟩
def agt{b w:World}{c:Nat}{E5:Nat}(MV:Bx b E5 3 [.int .i64 bF])(H0:Hp b S w (aR tK 48 A c ks::fH dN 3 (ks.map rQ)::F))(hx:ks[i]? = some k)(ho:oF k.c=true):bM prog 352 #[.pointer (some ((Gh A).add (i*4))),.pointer (some ⟨E5,0,none⟩)] w λv w'=>∃ k':bE,k'.c=(jk bF k.c).1/\v=.int .i64 (jk bF k.c).2/\Hp b S w' (aR tK 48 A c (ks.set i k')::fH dN 3 ((ks.set i k').map rQ)::F):=by
 refine qN func352 ntmps352 Y ?_;have hr:(ks.map rQ)[i]? = some (k.B,k.d,k.c.aD):=by rw [rM,hx]; rfl
 have H1:=(H0.Dm s1 hr).sel U;have hlen:=QZ ho;have hup:=(Ob ho);have aGG:=rU ho;have hlow:=G8 (fun(y:Int)=>bL y bF) k.c.aD;refine kX Y<|pW ak ak<|bf (dP Y) Y<|bf (nH Y) Y<|bf (fq kr Y (fD _ _ _)) Y<|bf (kG EX Y ((H1.o s2).eZ hx Y)) Y<|bf (dU jF Y (MV.ext H1.ext) Y) Y<|LZ Y Y Y arz (λwq eq=>(PD wq ((H1.o U).ext eq) bF (Up.mono hup bF) aj).mono (by rintro _ _ ⟨rfl,gH⟩; exact⟨rfl,gH.ext⟩)) rfl<|bf (dP rfl) rfl<|bf (yE rfl rfl) rfl<|bf (yE rfl rfl) rfl<|bf (tF rfl) rfl<|bf (tF rfl) rfl<|pX λw1 e1=>?_
 have K1:=H1.grow e1;refine aZ<|gD Y<|ev (wC Y)<|dn<|bS Y (λhc16=>?_) (λhc16=>?_)
 ·try simp only [aA] at hc16
  refine kX Y<|Aw Y ?_
  have hd:jk bF k.c=(k.c,5):=by exact aQ (by rw [hc16]; decide)
  have hs:ks=ks.set i k:=(II hx).symm;have KZ:=((((K1.mV 0 2).sel s2)).Ej hr s1 s1).sel s1;exact⟨k,(aY Prod.fst hd).symm,aY (Value.int .i64) (aY Prod.snd hd).symm,by rw [EY,<- hs]; exact KZ⟩
 try simp only [aA] at hc16
 have hc16:hits (fun(y:Int)=>bL y bF) k.c.aD=true:=by simpa using hc16
 obtain⟨xb,hxb,hkb⟩:=qc hc16;have adl:=aP hxb;refine jQ ?_;refine pC 4 Y<|ev (fq kr Y (fD _ _ _))<|ev (kG EX Y ((K1.o s2).eZ hx Y))<|pq 2 Y<|ev (L6 Y Y (xR aj aj))<|gu Y (adh (j:=low (fun(y:Int)=>bL y bF) k.c.aD+1) (K1.sel U) aj aj) ?_
 rintro _ w2 ⟨rfl,K2⟩;refine pq 1 Y<|ev (fq kr Y (fD _ _ _))<|se (x':=(⟨{ k.c with aD:=(k.c.aD.take (low (fun(y:Int)=>bL y bF) k.c.aD)++k.c.aD.drop (low (fun(y:Int)=>bL y bF) k.c.aD+1)) },k.B,k.d⟩:bE)) K2 s2 Y Y Y hx Y VU (nU Y) Y (by rintro _ _ _ ⟨⟩; rfl) λw3 K3=>?_
 have hl1:(ks.set i (⟨{ k.c with aD:=(k.c.aD.take (low (fun(y:Int)=>bL y bF) k.c.aD)++k.c.aD.drop (low (fun(y:Int)=>bL y bF) k.c.aD+1)) },k.B,k.d⟩:bE)).length=ks.length:=iC ..;have bT:(ks.set i (⟨{ k.c with aD:=(k.c.aD.take (low (fun(y:Int)=>bL y bF) k.c.aD)++k.c.aD.drop (low (fun(y:Int)=>bL y bF) k.c.aD+1)) },k.B,k.d⟩:bE))[i]? = some (⟨{ k.c with aD:=(k.c.aD.take (low (fun(y:Int)=>bL y bF) k.c.aD)++k.c.aD.drop (low (fun(y:Int)=>bL y bF) k.c.aD+1)) },k.B,k.d⟩:bE):=u7 (aP hx);refine dn<|kX Y<|iU Y ?_
 have hd:jk bF k.c=((⟨{ k.c with aD:=(k.c.aD.take (low (fun(y:Int)=>bL y bF) k.c.aD)++k.c.aD.drop (low (fun(y:Int)=>bL y bF) k.c.aD+1)) },k.B,k.d⟩:bE).c,0):=by exact aS hc16
 have hs:(ks.set i (⟨{ k.c with aD:=(k.c.aD.take (low (fun(y:Int)=>bL y bF) k.c.aD)++k.c.aD.drop (low (fun(y:Int)=>bL y bF) k.c.aD+1)) },k.B,k.d⟩:bE))=ks.set i (⟨{ k.c with aD:=(k.c.aD.take (low (fun(y:Int)=>bL y bF) k.c.aD)++k.c.aD.drop (low (fun(y:Int)=>bL y bF) k.c.aD+1)) },k.B,k.d⟩:bE):=(by simp only [List.set_set]);have KZ:=((K3).Ej hr s1 s1).sel s1;exact⟨(⟨{ k.c with aD:=(k.c.aD.take (low (fun(y:Int)=>bL y bF) k.c.aD)++k.c.aD.drop (low (fun(y:Int)=>bL y bF) k.c.aD+1)) },k.B,k.d⟩:bE),(aY Prod.fst hd).symm,aY (Value.int .i64) (aY Prod.snd hd).symm,by rw [EY,<- hs]; exact KZ⟩
def Uz(w:World)(jq:Sl bD S0 w jL jK l)(id:Int){arA:FuncId}{aAE:V Value}(aGH:bC prog arA)(dof:aH->aH × Int)(aGI:aGE w arA aAE dof)(hn:l.length<=100000)(hh:∀ x∈l,x.aD.length<=100000):bM prog 347 #[.slice jL l.length jK,.int .i64 id,.func (.func arA) #[] aAE.toArray] w λv w'=>∃ A0 c0,v=.tuple #[.slice A0 (((gU l id dof).1).length) c0,.int .i64 ((gU l id dof).2)]/\Hp w S0 w' [aR bD 48 A0 c0 ((gU l id dof).1)]:=by
 refine lg S0 func347 ntmps347 Y λH0=>?_;have Iz:=jq.bI;have hf:=EJ l;refine pC 6 Y<|gu Y (YI (S0:=Rd w S0 [] _) _ (H0.a jq) hn hh) ?_
 rintro _ w1 ⟨A,c,ks,rfl,hkc,h9⟩;have K1:=H0.c2 h9;have hkl:ks.length=(dV l).length:=by rw [<- hkc,jW]
 refine fE Y ?_;have hrd:=K1.rdK U U;refine mP (t:=0) Y (aY (λz=>Value.slice A z c) (QY ks).symm)<|pC 3 Y<|mX K1 Y (IG _ hrd id (by rw [hkc]; exact Dp l) (by rw [jW]; omega)) λw2 K2=>pA 6 rfl<|aZ<|gD rfl<|ev (wC rfl)<|dn<|bS rfl (λl8=>?_) (λl8=>?_)
 ·try simp only [aA] at l8
  refine rg<|oJ Y<|fE Y<|Aw Y ?_
  have hch:=alR (f:=dof) (by rw [<- hkc]; simpa using l8);have H1:=K2.nil bD 48;have gy:(([]:V aH):V aH)=((gU l id dof).1):=by rw [hch]
  have H2:=(gy▸H1:Hp w S0 w2 (aR bD 48 none 0 ((gU l id dof).1)::[aR tK 48 A c ks,fH dN 3 (ks.map rQ)]));have gH:(5:Int)=((gU l id dof).2):=by rw [hch]
  exact⟨none,0,by rw [<- gy,<- gH] <;> rfl,(H2.cU 1 2)⟩
 try simp only [aA] at l8
 have l8:hits (fun(y:aH)=>bL y.ID id) (ks.map bE.c)=true:=by simpa using l8
 obtain⟨xb,hxb,hkb⟩:=qc (key:=aH.ID) l8;have adl:=aP hxb;rw [jW] at adl;refine jQ ?_;refine aZ<|mP (t:=0) Y (aY (λz=>Value.slice A z c) (QY ks))<|pC 4 Y ?_
 obtain⟨x1,bT⟩:=bH (xs:=ks) (i:=low (fun(y:aH)=>bL y.ID id) (ks.map bE.c)) aj;refine ev (d9 (i:=low (fun(y:aH)=>bL y.ID id) (ks.map bE.c)) lT tH Y Y Y (aP bT) ((K2.o U).some_ bT)) ?_;have ho:oF x1.c=true:=abN l _ (by rw [<- hkc]; exact eX.2 ⟨x1,dz bT,rfl⟩);refine KY Y Y Y aGH (aGI _ _ _ _ _ _ _ _ K2 bT ho) Y ?_;rintro _ w3 ⟨k1,hk1,rfl,K3⟩;refine pA 6 Y<|bS Y (λhc27=>?_) (λhc27=>?_)
 ·replace hc27:=oL hc27;refine gD Y<|oJ Y<|fE Y<|Aw Y ?_
  have hkx:(dV l)[low (fun(y:aH)=>bL y.ID id) (dV l)]? = some x1.c:=by rw [<- hkc,rM,bT]; rfl
  have hch:=Xb (f:=dof) (by rw [<- hkc]; exact l8) hkx;rw [aQ (by simpa using hc27)] at hch;have H3:=K3.nil bD 48;have kN:(([]:V aH):V aH)=((gU l id dof).1):=by rw [hch]
  have H4:=(kN▸H3:Hp w S0 w3 (aR bD 48 none 0 ((gU l id dof).1)::[aR tK 48 A c (ks.set (low (fun(y:aH)=>bL y.ID id) (ks.map bE.c)) k1),fH dN 3 ((ks.set (low (fun(y:aH)=>bL y.ID id) (ks.map bE.c)) k1).map rQ)]));have nM:((dof x1.c).2:Int)=((gU l id dof).2):=by rw [hch]
  exact⟨none,0,by rw [nM,<- kN] <;> rfl,(H4.cU 1 2)⟩
 replace hc27:=oM hc27;refine jQ ?_;refine gD Y<|oJ Y<|fE Y<|iU Y ?_
 have hkx:(dV l)[low (fun(y:aH)=>bL y.ID id) (dV l)]? = some x1.c:=by rw [<- hkc,rM,bT]; rfl
 have hch:=Xb (f:=dof) (by rw [<- hkc]; exact l8) hkx;rw [aS (by simpa using hc27)] at hch;have he:gU l id dof=((ks.set (low (fun(y:aH)=>bL y.ID id) (ks.map bE.c)) k1).map bE.c,0):=by rw [hch,aok,hk1,hkc]
 have KZ:=(K3.Yu s1).ofK s1 U;exact⟨A,c,by rw [he,jW,iC] <;> rfl,by rw [he]; exact KZ⟩
def arB(w:World)(jq:Sl bD S0 w jL jK l)(id:Int)(sum:Int)(hn:l.length<=100000)(hh:∀ x∈l,x.aD.length<=100000):bM prog 288 #[.slice jL l.length jK,.int .i64 id,.int .u32 sum] w λv w'=>∃ A0 c0,v=.tuple #[.slice A0 (((gU l id (eu sum)).1).length) c0,.int .i64 ((gU l id (eu sum)).2)]/\Hp w S0 w' [aR bD 48 A0 c0 ((gU l id (eu sum)).1)]:=by
 refine lg S0 func288 ntmps288 Y λH0=>?_;have Iz:=jq.bI;refine rg<|bx Y Y H0 λg1 w1 K1=>pB 6 Y<|ev (rZ Y)<|gu Y (Uz _ (K1.a jq) id aCn (eu sum) (λ_ _ _ _ _ _ _ _ H hx ho=>aon (K1.x U) H hx ho) aj hh) ?_
 rintro _ w2 ⟨qj,ql,rfl,h2⟩;have K2:=K1.c1 h2;have VX:=(K2.o U).bI;refine pA 5 Y<|iU Y ?_
 exact⟨qj,ql,Y,(K2.rm s1)⟩
def lu(l:List aH)(id bF bR:Int):List aH × Int:=if bF<1∨16<bF then([],1) else gU l id (pK bF bR)
def arC(w:World)(jq:Sl bD S0 w jL jK l)(id:Int)(bF:Int)(bR:Int)(hn:l.length<=100000)(hh:∀ x∈l,x.aD.length<=100000):bM prog 291 #[.slice jL l.length jK,.int .i64 id,.int .i64 bF,.int .i64 bR] w λv w'=>∃ A0 c0,v=.tuple #[.slice A0 (((lu l id bF bR).1).length) c0,.int .i64 ((lu l id bF bR).2)]/\Hp w S0 w' [aR bD 48 A0 c0 ((lu l id bF bR).1)]:=by
 refine lg S0 func291 ntmps291 Y λH0=>?_;have Iz:=jq.bI;refine rg<|bx Y Y H0 λg1 w1 K1=>bx Y Y K1 λg2 w2 K2=>pA 3 Y<|aZ<|rg<|lY K2 s1 Y<|pq 2 Y<|iJ 3 15 ((decide (bF<1))||(decide (16<bF))) ?_ ?_
 ·cases aNf:decide (bF<1) with
  | true=>
   refine pq 3 Y<|dK Y
  | false=>
   have aQ6:=jX aNf;refine gby K2 s1 Y<|pq 2 Y<|dK Y
 refine dn<|bS Y (λzB=>?_) (λzB=>?_)
 ·try simp only [aA] at zB
  refine rg<|oJ Y<|fE Y<|Aw Y ?_
  have H1:=K2.nil bD 48;have gy:(([]:V aH):V aH)=((lu l id bF bR).1):=by grind [lu]
  have H2:=(gy▸H1:Hp w S0 w2 (aR bD 48 none 0 ((lu l id bF bR).1)::[dJ g2 3 [.int .i64 bR],dJ g1 3 [.int .i64 bF]]));have gH:(1:Int)=((lu l id bF bR).2):=by grind [lu]
  exact⟨none,0,by rw [<- gy,<- gH] <;> rfl,(H2.cU 1 2)⟩
 try simp only [aA] at zB
 refine jQ ?_;refine pC 3 Y<|ev (rZ Y)<|gu Y (Uz _ (K2.a jq) id aCo (pK bF bR) (λ_ _ _ _ _ _ _ _ H hx ho=>aoo (K2.x s1) (K2.x U) H hx ho) aj hh) ?_
 rintro _ w3 ⟨rE,rF,rfl,h3⟩;have K3:=K2.c1 h3;have arD:=(K3.o U).bI;refine pA 5 Y<|iU Y ?_
 have kN:((gU l id (pK bF bR)).1:V aH)=((lu l id bF bR).1):=by grind [lu]
 rw [kN] at K3;have nM:((gU l id (pK bF bR)).2:Int)=((lu l id bF bR).2):=by grind [lu]
 exact⟨rE,rF,by rw [kN,nM] <;> rfl,(K3.cU 1 2)⟩
def ajO(w:World)(jq:Sl bD S0 w jL jK l)(id:Int)(bF:Int)(hn:l.length<=100000)(hh:∀ x∈l,x.aD.length<=100000):bM prog 293 #[.slice jL l.length jK,.int .i64 id,.int .i64 bF] w λv w'=>∃ A0 c0,v=.tuple #[.slice A0 (((gU l id (jk bF)).1).length) c0,.int .i64 ((gU l id (jk bF)).2)]/\Hp w S0 w' [aR bD 48 A0 c0 ((gU l id (jk bF)).1)]:=by
 refine lg S0 func293 ntmps293 Y λH0=>?_;have Iz:=jq.bI;refine rg<|bx Y Y H0 λg1 w1 K1=>pB 6 Y<|ev (rZ Y)<|gu Y (Uz _ (K1.a jq) id aCp (jk bF) (λ_ _ _ _ _ _ _ _ H hx ho=>agt (K1.x U) H hx ho) aj hh) ?_
 rintro _ w2 ⟨qj,ql,rfl,h2⟩;have K2:=K1.c1 h2;have VX:=(K2.o U).bI;refine pA 5 Y<|iU Y ?_
 exact⟨qj,ql,Y,(K2.rm s1)⟩
theorem lI{key:α->Int}{l:V α}(hu:Up key l){x y:α}(hx:x∈l)(hy:y∈l)(h:key x=key y):x=y:=by
 obtain⟨i,hi⟩:=uq hx;obtain⟨j,hj⟩:=uq hy
 rcases adn i j with h1 | h1 | h1
 ·have:=hu.get h1 hi hj; omega
 ·grind
 ·have:=hu.get h1 hj hi; omega
def adp(h:ku l=true):Up aH.ID l:=by have:=Dp l; rwa [wY h] at this
theorem tQ(h:ku l=true):∀ x∈l,oF x=true:=(kK.1 h).1
def vo(h:ku l=true):l.length<=32/\∀ x∈l,x.aD.length<=16:=by grind [kK,QZ,tQ]
def yI(h:ku l=true)(hb:gQ l j=true):l[low (fun(y:aH)=>bL y.ID j) l]? = some (aV l j)/\(aV l j).ID=j:=by
 unfold gQ at hb;obtain⟨x,hx,hk⟩:=qc hb
 grind [Uw,wY]
theorem Dr(h:ku l=true):gQ l j=true↔∃ c∈l,c.ID=j:=by
 simp_all [gQ,wY,uh,adp]
theorem vv(h:ku l=true)(hb:gQ l j=true):aV l j∈l:=dz (yI h hb).1
theorem uy(h:ku l=true)(hc:c∈l):gQ l c.ID=true/\aV l c.ID=c:=by
 have h1:=(Dr h).2 ⟨c,hc,rfl⟩;exact⟨h1,lI (adp h) (vv h h1) hc (yI h h1).2⟩
theorem abP(h:ku l=true)(hb:gQ l j=false):(∀ c∈l,c.ID≠j)/\aV l j=⟨0,0,0,[]⟩:=by
 refine⟨λc hc e=>?_,YJ hb⟩
 grind [Dr]
theorem axE{c':aH}(hx:l[i]? = some c)(hid:c'.ID=c.ID):(l.set i c').map aH.ID=l.map aH.ID:=by
 grind [List.map_set,II]
theorem axF(h:ku l=true){c':aH}(hx:l[i]? = some c)(hid:c'.ID=c.ID)(ho:oF c'=true):ku (l.set i c')=true:=by
 grind [kK,List.length_set,axE,List.mem_or_eq_of_mem_set]
theorem adq(h:ku l=true)(hb:gQ l id=true)(f:aH->aH × Int):gU l id f=if(f (aV l id)).2=0 then(l.set (low (fun(y:aH)=>bL y.ID id) l) (f (aV l id)).1,0) else([],(f (aV l id)).2):=by
 have h1:=yI h hb;have h2:=Xb (f:=f) hb (by rw [wY h]; exact h1.1);rw [h2,wY h]
theorem ajP(hb:gQ l id=false)(f:aH->aH × Int):gU l id f=([],5):=alR hb
theorem Q5(ho:oF c=true)(n:Int):hits (fun(y:Int)=>bL y n) c.aD=true↔n∈c.aD:=by
 simp_all [uh,Ob]
theorem ajQ(h:oF c=true)(hv:c.E<1073741824)(sum:Int):oF { c with E:=c.E+1,Sum:=sum,aD:=[] }=true:=by
 grind [oF,nQ]
def aCr(hu:Up aH.ID l){n:Nat}{x:aH}(hx:l[n]? = some x)(hid:x.ID=id):low (fun(y:aH)=>bL y.ID id) l=n:=by
 refine G9 (by grind) (λa y ha hy=>?_) (λa y ha hy=>?_)
 ·rw [qK]; have:=hu.get ha hy hx; omega
 ·rw [qK]
  rcases G6 n a with h1 | h1
  ·have:=hu.get h1 hx hy; omega
  grind
def Oc(l:V aH)(id:Int):aV (dV l) id=aV l id/\gQ (dV l) id=gQ l id:=by
 unfold aV gQ; rw [wY (zS l)]; exact⟨rfl,rfl⟩
def alS(l:V aH)(id:Int):(idxOf (fun(y:aH)=>decide (y.ID=id)) (dV l)=-1/\gQ l id=false)∨∃(n:Nat)(x:aH),idxOf (fun(y:aH)=>decide (y.ID=id)) (dV l)=(n:Int)/\(dV l)[n]? = some x/\x.ID=id/\gQ l id=true/\aV l id=x/\low (fun(y:aH)=>bL y.ID id) (dV l)=n:=by
 rcases wS (fun(y:aH)=>decide (y.ID=id)) (dV l) with ⟨h1,h2⟩ | ⟨n,x,h1,h2,h3,_⟩
 ·left; refine⟨h1,?_⟩
  cases hb:gQ l id with
  | false=>rfl
  | true=>
   rw [<- (Oc l id).2] at hb;have h3:=yI (zS l) hb
   grind
 ·right
  have h4:x.ID=id:=by grind
  have h5:=uy (zS l) (dz h2);rw [h4,(Oc l id).1,(Oc l id).2] at h5;exact⟨n,x,h1,h2,h4,h5.1,h5.2,aCr (Dp l) h2 h4⟩
def axG{n:Nat}{x:aH}(h3:gQ l id=true)(hx:(dV l)[n]? = some x)(h5:low (fun(y:aH)=>bL y.ID id) (dV l)=n)(f:aH->aH × Int):gU l id f=if(f x).2=0 then((dV l).set n (f x).1,0) else([],(f x).2):=by
 rw [Xb h3 (by rw [h5]; exact hx),h5]
def ajR{n:Nat}(h3:gQ l id=true)(h5:low (fun(y:aH)=>bL y.ID id) (dV l)=n):iN l id=((dV l).take n++(dV l).drop (n+1),0):=by
 unfold iN; rw [aS (show hits (fun(y:aH)=>bL y.ID id) (dV l)=true from h3),h5]
def aoq(h:gQ l id=false):iN l id=([],5):=by
 grind [iN,gQ]
def aor(hu:h.Pairwise (λx y=>x<y))(n:Int):(∀ x∈h.take (low (fun(y:Int)=>bL y n) h),x<n)/\(∀ x∈h.drop (low (fun(y:Int)=>bL y n) h),n<=x):=by
 have key:∀(h:V Int),h.Pairwise (λx y=>x<y)->(∀ x∈h.take (low (fun(y:Int)=>bL y n) h),x<n)/\(∀ x∈h.drop (low (fun(y:Int)=>bL y n) h),n<=x):=by
  intro h
  induction h with
  | nil=>simp
  | cons a h ih=>
   intro hu;have h1:=nT.1 hu;have ih:=ih h1.2
   by_cases ha:a<n
   ·have e:low (fun(y:Int)=>bL y n) (a::h)=low (fun(y:Int)=>bL y n) h+1:=by grind [low,List.countP_cons_of_pos,qK]
    grind
   ·have e:low (fun(y:Int)=>bL y n) (a::h)=0:=by
     unfold low;rw [List.countP_eq_zero];intro x hx
     simp only [bN,qK]
     rcases gW.1 hx with rfl | hx
     ·exact ha
     ·grind
    grind
 grind
def arE(hu:h.Pairwise (λx y=>x<y)){n:Int}(hn:n∉h):(h.take (low (fun(y:Int)=>bL y n) h)++[n]++h.drop (low (fun(y:Int)=>bL y n) h)).Pairwise (λx y=>x<y)/\∀ x,x∈(h.take (low (fun(y:Int)=>bL y n) h)++[n]++h.drop (low (fun(y:Int)=>bL y n) h))↔x=n∨x∈h:=by
 obtain⟨h1,h2⟩:=aor hu n;have h2':∀ x∈h.drop (low (fun(y:Int)=>bL y n) h),n<x:=by grind
 have h5:(h.take (low (fun(y:Int)=>bL y n) h)++h.drop (low (fun(y:Int)=>bL y n) h)).Pairwise (λx y=>x<y):=by grind
 have h6:=zO.1 h5
 constructor
 ·grind
 ·intro x
  have:x∈h↔x∈h.take (low (fun(y:Int)=>bL y n) h)∨x∈h.drop (low (fun(y:Int)=>bL y n) h):=by rw [<- j5,Gp]
  grind
def ajS:(id<1∨1048576<id->dO l id sum=([],1))/\(¬ (id<1∨1048576<id)->gQ l id=true->dO l id sum=([],6))/\(¬ (id<1∨1048576<id)->gQ l id=false->32<=(dV l).length->dO l id sum=([],7))/\
  (¬ (id<1∨1048576<id)->gQ l id=false->(dV l).length<32->dO l id sum=((dV l).take (low (fun(y:aH)=>bL y.ID id) (dV l))++[⟨id,1,sum,[]⟩]++(dV l).drop (low (fun(y:aH)=>bL y.ID id) (dV l)),0)):=by
 grind [dO,gQ]
theorem CP:∀(l:V Int)(z:Int),nQ most z l=true↔l.Pairwise (λx y=>x<y)/\∀ x∈l,z<=x/\x<=most
 | [],z=>by simp [nQ]
 | y::l,z=>by
  constructor
  ·intro h; exact⟨EK _ _ h,CJ _ _ h⟩
  ·rintro⟨h1,h2⟩
   have h3:=nT.1 h1;have h4:=h2 y av
   simp only [nQ,bK,dZ,dQ,bV]
   refine⟨⟨aj,aj⟩,(CP l (y+1)).2 ⟨h3.2,λx hx=>?_⟩⟩;have h5:=h3.1 x hx;have h6:=h2 x (by simp [hx]);omega
theorem UA{z:Int}{l m:V Int}(h:nQ most z l=true)(s:m.Sublist l):nQ most z m=true:=by
 grind [CP]
def axH{m:V aH}(h:ku l=true)(s:m.Sublist l):ku m=true:=by
 grind [kK,Nat.le_trans,UA]
theorem ads(l:V α)(i:Nat):(l.take i++l.drop (i+1)).Sublist l:=by
 rw [<- Uj]; grind
def agu(ho:oF c=true)(hr:nQ 16 1 h=true):oF { c with aD:=h }=true:=by
 grind [oF]
def agv(ho:oF c=true):oF { c with aD:=c.aD.take i++c.aD.drop (i+1) }=true:=agu ho (UA (rU ho).2.2 (ads _ _))
theorem aos(ho:oF c=true)(h1:1<=bF)(h2:bF<=16)(hn:bF∉c.aD):oF { c with aD:=c.aD.take (low (fun(y:Int)=>bL y bF) c.aD)++[bF]++c.aD.drop (low (fun(y:Int)=>bL y bF) c.aD) }=true:=by
 refine agu ho ((CP _ _).2 ?_);obtain⟨h3,h4⟩:=arE (Ob ho) hn;refine⟨h3,λx hx=>?_⟩
 rcases(h4 x).1 hx with rfl | hx
 ·grind
 ·exact CJ _ _ (rU ho).2.2 x hx
def abQ(l:V aH)(id:Int)(f:aH->aH × Int):(gQ l id=false/\gU l id f=([],5))∨(gQ l id=true/\(f (aV l id)).2≠0/\gU l id f=([],(f (aV l id)).2))∨
  (gQ l id=true/\(f (aV l id)).2=0/\∃ n,(dV l)[n]? = some (aV l id)/\(aV l id).ID=id/\gU l id f=((dV l).set n (f (aV l id)).1,0)):=by
 rcases alS l id with ⟨_,h⟩ | ⟨n,x,_,h1,h2,h3,h4,h5⟩
 ·grind [ajP]
 ·subst h4
  have h6:=axG h3 h1 h5 f
  grind
theorem Oe(ho:oF c=true)(he:(eu sum c).2=0):(eu sum c).1={ c with E:=c.E+1,Sum:=sum,aD:=[] }/\oF (eu sum c).1=true/\(eu sum c).1.ID=c.ID:=by
 unfold eu at he ⊢
 grind [ajQ]
def Og(ho:oF c=true)(h1:1<=bF)(h2:bF<=16)(he:(pK bF bR c).2=0):bR=c.E/\bF∉c.aD/\(pK bF bR c).1={ c with aD:=c.aD.take (low (fun(y:Int)=>bL y bF) c.aD)++[bF]++c.aD.drop (low (fun(y:Int)=>bL y bF) c.aD) }/\oF (pK bF bR c).1=true/\(pK bF bR c).1.ID=c.ID:=by
 unfold pK at he ⊢
 by_cases h:bR≠c.E
 ·grind
 ·rw [aQ h] at he ⊢
  by_cases h3:hits (fun(y:Int)=>bL y bF) c.aD=true
  ·grind
  ·have h4:bF∉c.aD:=by grind [Q5]
   grind [aos]
def GA(ho:oF c=true)(he:(jk bF c).2=0):bF∈c.aD/\(jk bF c).1={ c with aD:=c.aD.take (low (fun(y:Int)=>bL y bF) c.aD)++c.aD.drop (low (fun(y:Int)=>bL y bF) c.aD+1) }/\oF (jk bF c).1=true/\(jk bF c).1.ID=c.ID:=by
 unfold jk at he ⊢
 by_cases h3:hits (fun(y:Int)=>bL y bF) c.aD=true
 all_goals simp_all [aS,Q5,agv,aQ]
def Good(f:aH->aH × Int):Prop:=∀ c,oF c=true->(f c).2=0->oF (f c).1=true/\(f c).1.ID=c.ID
def zD(sum:Int):Good (eu sum):=λ_ ho he=>(Oe ho he).2
theorem YO(bR:Int)(h1:1<=bF)(h2:bF<=16):Good (pK bF bR):=λ_ ho he=>(Og ho h1 h2 he).2.2.2
def Q7(bF:Int):Good (jk bF):=λ_ ho he=>(GA ho he).2.2
theorem JJ(l:V aH)(id:Int)(hf:Good f):ku (gU l id f).1=true/\((gU l id f).2≠0->(gU l id f).1=[]):=by
 rcases abQ l id f with ⟨_,h⟩ | ⟨_,h1,h⟩ | ⟨h0,h1,n,h2,h3,h⟩
 ·rw [h]; decide
 ·rw [h]; exact⟨rfl,λ_=>rfl⟩
 ·rw [h]
  have h4:=hf _ (by grind [abN]) h1
  grind [axF,zS]
def axI(l:V aH)(id:Int):low (fun(y:Int)=>bL y id) (l.map aH.ID)=low (fun(y:aH)=>bL y.ID id) l:=by
 simp only [low]; rw [List.countP_map]; rfl
theorem Eo(l:V aH)(id sum:Int):((dO l id sum).1=[]/\(dO l id sum).2≠0)∨(1<=id/\id<=1048576/\gQ l id=false/\(dV l).length<32/\dO l id sum=((dV l).take (low (fun(y:aH)=>bL y.ID id) (dV l))++[⟨id,1,sum,[]⟩]++(dV l).drop (low (fun(y:aH)=>bL y.ID id) (dV l)),0)):=by
 obtain⟨h1,h2,h3,h4⟩:=ajS (l:=l) (id:=id) (sum:=sum)
 by_cases a:id<1∨1048576<id
 ·grind
 ·cases b:gQ l id <;> grind
theorem E8(l:V aH)(id sum:Int):ku (dO l id sum).1=true/\((dO l id sum).2≠0->(dO l id sum).1=[])/\((dO l id sum).2=0->gQ l id=false/\∀ c:aH,c.ID≠id->(c∈(dO l id sum).1↔c∈dV l)):=by
 rcases Eo l id sum with ⟨h1,h2⟩ | ⟨h1,h2,h3,h4,h5⟩
 ·rw [h1]; exact⟨rfl,λ_=>rfl,λh=>absurd h h2⟩
 ·rw [h5]
  have hm:=zS l;obtain⟨m1,m2,m3⟩:=kK.1 hm;obtain⟨r1,r2⟩:=(CP _ _).1 m3;have hno:∀ c∈dV l,c.ID≠id:=(abP hm (by simp_all [Oc])).1;have hni:id∉(dV l).map aH.ID:=by grind
  obtain⟨i1,i2⟩:=arE r1 hni
  have hmem:∀ c:aH,c∈((dV l).take (low (fun(y:aH)=>bL y.ID id) (dV l))++[(⟨id,1,sum,[]⟩:aH)]++(dV l).drop (low (fun(y:aH)=>bL y.ID id) (dV l)))↔c=⟨id,1,sum,[]⟩∨c∈dV l:=λc=>by
   have:c∈dV l↔c∈(dV l).take (low (fun(y:aH)=>bL y.ID id) (dV l))∨c∈(dV l).drop (low (fun(y:aH)=>bL y.ID id) (dV l)):=by rw [<- j5,Gp]
   grind
  refine⟨kK.2 ⟨λc hc=>?_,?_,?_⟩,λh=>absurd Y h,λ_=>⟨h3,λc hc=>?_⟩⟩
  ·rcases(hmem c).1 hc with rfl | hc
   ·rfl
   grind
  ·grind
  ·simp_all [CP,axI,sU,List.map_take,List.map_drop]
  grind
theorem ajT(l:V aH)(id:Int):ku (iN l id).1=true/\((iN l id).2≠0->(iN l id).1=[])/\((iN l id).2=0->gQ l id=true/\gQ (iN l id).1 id=false/\(iN l id).1.length+1=(dV l).length/\∀ c:aH,c.ID≠id->(c∈(iN l id).1↔c∈dV l)):=by
 rcases alS l id with ⟨_,h⟩ | ⟨n,x,_,h1,h2,h3,h4,h5⟩
 ·rw [aoq h]; exact⟨rfl,λ_=>rfl,λh=>by simp at h⟩
 ·rw [ajR h3 h5]
  have hm:=axH (zS l) (ads (dV l) n);have hlt:=aP h1
  have hmem:∀ c,c∈dV l↔c=x∨c∈(dV l).take n++(dV l).drop (n+1):=λc=>by
   have e:dV l=(dV l).take n++x::(dV l).drop (n+1):=by grind [List.drop_eq_getElem_cons,List.getElem?_eq_some_iff,List.take_append_drop]
   grind
  have hu:=adp (zS l)
  have aQ7:∀ c∈(dV l).take n++(dV l).drop (n+1),c.ID≠id:=λc hc e=>by
   rcases j5.1 hc with h | h
   ·obtain⟨a,ha⟩:=uq h
    have h6:=aP ha
    simp only [iX] at h6
    rw [YL aj] at ha;have:=hu.get (by omega:a<n) ha h1; omega
   ·obtain⟨a,ha⟩:=uq h
    rw [G5] at ha;have:=hu.get (by omega:n<n+1+a) h1 ha; omega
  refine⟨hm,av,λ_=>⟨h3,?_,?_,λc hc=>?_⟩⟩
  ·cases hb:gQ ((dV l).take n++(dV l).drop (n+1)) id with
   | false=>rfl
   | true=>exact absurd (yI hm hb).2 (by grind [vv])
  all_goals grind
theorem aot(l:V aH)(id bF bR:Int):ku (lu l id bF bR).1=true/\((lu l id bF bR).2≠0->(lu l id bF bR).1=[]):=by
 unfold lu
 split
 ·decide
 grind [JJ,YO]
end
section
variable {S0:Nat->Prop}{jL wP:ah}{jK:Nat}
structure aT where
  ID:Int
  mY:Int
  lV:Int
  fT:Int
  deriving DecidableEq
def aT.enc(x:aT):List Value:=[.int .i64 x.ID,.int .i64 x.mY,.int .i64 x.lV,.int .i64 x.fT]
def aT.kP(x:aT):∀ u∈x.enc,u.oneCell'=true:=by
 intro u hu
 simp only [aT.enc,gW,lH,qM] at hu
 rcases hu with rfl | rfl | rfl | rfl <;> rfl
def bW:Ty aT:=Ty.flat 4 aT.enc au (λ_=>rfl) aT.kP
instance:Flat bW:=⟨λh=>h⟩
def LC(n:aT):Bool:=(((decide (1<=n.ID)&&decide (n.ID<=16))&&(decide (1<=n.mY)&&decide (n.mY<=8)))&&(decide (1<=n.lV)&&decide (n.lV<=16)))&&(decide (0<=n.fT)&&decide (n.fT<=2))
def Dt:Int->List aT->Bool
  | _,[]=>true
  | z,n::l=>!(!LC n||decide (n.ID<=z))&&Dt n.ID l
def tN(l:List aT):Bool:=Dt 0 l
def iD(l:List aT):List aT:=if tN l then l else[]
def YP{z:Int}{l:V aT}{k:Nat}{x:aT}(hx:l[k]? = some x):Dt z (l.drop k)=(!(!LC x||decide (x.ID<=z))&&Dt x.ID (l.drop (k+1))):=by
 rw [CF (aP hx),(rG.1 hx).2]; rfl
def Q8:∀(l:V aT)(z:Int),Dt z l=true->∀ n∈l,z<n.ID/\LC n=true
 | [],_,_,n,hn=>by simp at hn
 | m::l,z,h,n,hn=>by
  simp only [Dt,bK,dZ,dQ,fG,bV] at h
  rcases gW.1 hn with rfl | hn
  ·exact⟨aj,h.1.1⟩
  ·have:=Q8 l _ h.2 n hn; exact⟨aj,this.2⟩
def E9:∀(l:V aT)(z:Int),Dt z l=true->Up aT.ID l
 | [],_,_=>List.Pairwise.nil
 | m::l,z,h=>by
  simp only [Dt,bK,dZ,dQ,fG,bV] at h
  exact nT.2 ⟨λx hx=>(Q8 l _ h.2 x hx).1,E9 l _ h.2⟩
def UC(l:V aT):(iD l).length<=l.length:=by unfold iD; split <;> simp
def aou(l:V aT):tN (iD l)=true:=by
 unfold iD; split
 ·assumption
 ·rfl
def Q9(l:V aT):Up aT.ID (iD l):=E9 _ 0 (aou l)
theorem xg{l:V aT}(h:tN l=true):iD l=l:=by unfold iD; rw [aS h]
def abR{l:V aT}(h:tN l=false):iD l=[]:=by unfold iD; rw [h]; rfl
def gJ(l:List aT)(id:Int):aT:=match (iD l)[low (fun(y:aT)=>bL y.ID id) (iD l)]? with | some c=>if c.ID=id then c else⟨0,0,0,0⟩ | none=>⟨0,0,0,0⟩
def jY(l:List aT)(id:Int):Bool:=hits (fun(y:aT)=>bL y.ID id) (iD l)
def aov{l:V aT}{id:Int}(h:hits (fun(y:aT)=>bL y.ID id) (iD l)=false):gJ l id=⟨0,0,0,0⟩:=by
 unfold gJ; split
 ·rename_i c hc
  rw [aQ];intro e;have:=(uh (Q9 l) id).2 ⟨c,dz hc,e⟩;rw [h] at this; cases this
 ·rfl
theorem qP{l:V aT}{id:Int}{c:aT}(h:hits (fun(y:aT)=>bL y.ID id) (iD l)=true)(hc:(iD l)[low (fun(y:aT)=>bL y.ID id) (iD l)]? = some c):gJ l id=c:=by
 unfold gJ; rw [hc];obtain⟨x,hx,hk⟩:=qc h;rw [hc] at hx; cases hx;exact aS hk
def oG(l:List aT)(n:aT):List aT × Int:=if LC n=false∨n.fT≠0 then([],1) else if hits (fun(y:aT)=>bL y.ID n.ID) (iD l)=true then([],6) else((iD l).take (low (fun(y:aT)=>bL y.ID n.ID) (iD l))++[n]++(iD l).drop (low (fun(y:aT)=>bL y.ID n.ID) (iD l)),0)
def lW(l:List aT)(id state:Int):List aT × Int:=if hits (fun(y:aT)=>bL y.ID id) (iD l)=true then
    (if 0<=state/\state<=2 then(if(gJ l id).fT=2∨(gJ l id).fT=0/\state=2 then([],8) else((iD l).set (low (fun(y:aT)=>bL y.ID id) (iD l)) { gJ l id with fT:=state },0)) else([],1)) else([],5)
def mF:bU prog 72 0 0:=ay
def ajU:bC prog 301:=ay
def Rb:bU prog 72 1 1:=ay
def Oh:bU prog 72 2 2:=ay
def yX:bU prog 72 3 3:=ay
def xU:Size prog 72 4:=ay
def AJ:WC prog 72 4:=⟨λ_=>by kernel_rfl,xU⟩
def tT:∀ w,(zeroValue 72).run prog w=.ok (.agg #[O 0,O 0,O 0,O 0]) w:=ay
def arF  : ∀ w,(Instr.buildSlice 33 0 (List.toArray [])).run prog w=.ok (.slice (some ⟨w.heap.size,0,none⟩) 0 0) (w.alloc (.cells (List.toArray []) 72)):=ay
def aAF:kH prog 72 4 32:=by
 obtain⟨i,h1,h2,h3,h4⟩:=qo (show(prog.info? 72).map (λi=>(i.zero,i.size,i.bytes))=some (some (.agg #[O 0,O 0,O 0,O 0]),4,32) by kernel_rfl);exact⟨i,_,h1,h2,h3,h4,Y⟩
def aCs:bC prog 243:=ay
def aCt  : prog.built 72 []=some #[O 0,O 0,O 0,O 0]:=ak
def aAG:wT prog 72 4 32:=by
 obtain⟨i,h1,h2,h3,h4⟩:=qo (show(prog.info? 72).map (λi=>(i.zero,i.size,i.bytes))=some (some (.agg #[O 0,O 0,O 0,O 0]),4,32) by kernel_rfl);exact⟨i,_,h1,h2,h3,h4,Y,λv hv=>mD.1 (show(Value.cells (.agg #[O 0,O 0,O 0,O 0])).toList.all (λv=>v.oneCell')=true from Y) v hv⟩
def adt(a0:Int)(a1:Int)(a2:Int)(a3:Int):∀ w,(Instr.buildSlice 33 1 (List.toArray [(0,.agg #[O a0,O a1,O a2,O a3])])).run prog w=.ok (.slice (some ⟨w.heap.size,0,none⟩) 1 1) (w.alloc (.cells (List.toArray [O a0,O a1,O a2,O a3]) 72)):=ay
def Fa(w:World)(n:Int)(Ee:Int)(most:Int):bM prog 301 #[O n,O Ee,O most] w λv w'=>v=.bool (decide (Ee<=n)&&decide (n<=most))/\Hp w S0 w' []:=by
 refine lg S0 func301 ntmps301 Y λH0=>pC 8 Y<|iJ 4 14 ((decide (Ee<=n))&&(decide (n<=most))) ?_ ?_
 ·cases aGJ:decide (Ee<=n) with
  | true=>
   refine pq 4 Y<|dK Y
  | false=>
   refine pq 4 Y<|dK Y
 refine fE Y<|iU Y ?_
 have gy:(((decide (Ee<=n))&&(decide (n<=most))):Bool)=(decide (Ee<=n)&&decide (n<=most)):=by first | with_reducible rfl | (simp; done) | omega
 exact⟨by rw [gy] <;> rfl,H0⟩
def alT(w:World)(n:aT):bM prog 228 #[.agg #[O n.ID,O n.mY,O n.lV,O n.fT]] w λv w'=>v=.bool (LC n)/\Hp w S0 w' []:=by
 refine lg S0 func228 ntmps228 Y λH0=>rg<|bx Y Y H0 λg1 w1 K1=>fE Y<|rg<|jP g1 0 mF K1 U Y<|mX K1 Y (Fa (S0:=Any) _ n.ID 1 16) λw2 K2=>mv Y<|qg 4 10 ((decide (1<=n.ID)&&decide (n.ID<=16))&&(decide (1<=n.mY)&&decide (n.mY<=8))) ?_ ?_
 ·cases hb6:(decide (1<=n.ID)&&decide (n.ID<=16)) with
  | true=>
   have aNg:=hb6
   try simp only [aA] at aNg
   refine wW g1 1 Rb K2 U Y<|om Y Y Y Y ajU (Fa (S0:=Any) _ n.mY 1 8) Y ?_
   rintro _ w3 ⟨rfl,h3⟩;refine pq 1 Y<|jI Y h3.ext
  | false=>
   refine pq 4 Y<|jI Y (oW _)
 intro w4 e4;have K4:=K2.grow e4;refine mv Y<|qg 4 15 (((decide (1<=n.ID)&&decide (n.ID<=16))&&(decide (1<=n.mY)&&decide (n.mY<=8)))&&(decide (1<=n.lV)&&decide (n.lV<=16))) ?_ ?_
 ·cases UD:((decide (1<=n.ID)&&decide (n.ID<=16))&&(decide (1<=n.mY)&&decide (n.mY<=8))) with
  | true=>
   have MW:=UD
   try simp only [aA] at MW
   refine wW g1 2 Oh K4 U Y<|om Y Y Y Y ajU (Fa (S0:=Any) _ n.lV 1 16) Y ?_
   rintro _ w5 ⟨rfl,h5⟩;refine pq 1 Y<|jI Y h5.ext
  | false=>
   refine pq 4 Y<|jI Y (oW _)
 intro w6 e6;have K6:=K4.grow e6;refine mv Y<|qg 4 20 ((((decide (1<=n.ID)&&decide (n.ID<=16))&&(decide (1<=n.mY)&&decide (n.mY<=8)))&&(decide (1<=n.lV)&&decide (n.lV<=16)))&&(decide (0<=n.fT)&&decide (n.fT<=2))) ?_ ?_
 ·cases YQ:(((decide (1<=n.ID)&&decide (n.ID<=16))&&(decide (1<=n.mY)&&decide (n.mY<=8)))&&(decide (1<=n.lV)&&decide (n.lV<=16))) with
  | true=>
   have Rf:=YQ
   try simp only [aA] at Rf
   refine wW g1 3 yX K6 U Y<|om Y Y Y Y ajU (Fa (S0:=Any) _ n.fT 0 2) Y ?_
   rintro _ w7 ⟨rfl,h7⟩;refine pq 1 Y<|jI Y h7.ext
  | false=>
   refine pq 4 Y<|jI Y (oW _)
 intro w8 e8;have K8:=K6.grow e8;refine fE Y<|iU Y ?_
 have gy:(((((decide (1<=n.ID)&&decide (n.ID<=16))&&(decide (1<=n.mY)&&decide (n.mY<=8)))&&(decide (1<=n.lV)&&decide (n.lV<=16)))&&(decide (0<=n.fT)&&decide (n.fT<=2))):Bool)=(LC n):=by rfl
 exact⟨by rw [gy] <;> rfl,(K8.rm U)⟩
def Xc(w:World){l:V aT}(jq:Sl bW S0 w jL jK l):bM prog 143 #[.slice jL l.length jK] w λv w'=>v=.bool (tN l)/\Hp w S0 w' []:=by
 refine lg S0 func143 ntmps143 Y λH0=>?_;have Iz:=jq.bI;refine kX Y<|kX Y<|aZ<|gD Y<|ev (jf qm Y)<|mv Y<|dn<|dF<|Lp H0 (λl0 rk mJ lJ wJ=>∃(k:Nat)(z:Int),lJ=(3,O z)::(8,O ((k:Nat):Int))::l0/\mJ=l.length - k/\k<=l.length/\(Dt 0 l=Dt z (l.drop k))/\Hp w S0 wJ rk) ⟨0,0,Y,Y,fI _,av,H0⟩ rfl ?_
 rintro _ _ w1 ⟨k,z,rfl,rfl,hk,hz,K1⟩;refine rg<|ev (iH Y Y)<|dn<|r9 Y (λN8=>?_) (λN8=>?_)
 ·refine jQ ?_;refine aZ<|dF<|rg ?_
  obtain⟨x1,bT⟩:=bH (xs:=l) (i:=k) aj;refine ev (d9 qm xU Y Y Y (aP bT) ((K1.a jq).some_ bT))<|ev (iR AJ Y Y ((K1.a jq).fF bT))<|al tT Y K1 λg1 w2 K2=>sty Y K2 U Y λw3 K3=>dn<|aZ<|rg<|ev (fA AJ Y Y (K3.x U))<|mX K3 Y (alT (S0:=Any) _ x1) λw4 K4=>pq 2 Y<|iJ 5 20 ((!(LC x1))||(decide (x1.ID<=z))) ?_ ?_
  ·cases WJ:(!(LC x1)) with
   | true=>
    refine pq 5 Y<|dK Y
   | false=>
    refine wW g1 0 mF K4 U Y<|pq 3 Y<|dK Y
  refine dn<|bS Y (λl8=>?_) (λl8=>?_)
  ·refine kX Y<|jE (gG (jM (gG (gG (jM (gG (uo Y ?_)))))))
   have gy:(false:Bool)=(tN l):=by symm; unfold tN; rw [hz,YP bT,l8]; rfl
   exact⟨by rw [<- gy] <;> rfl,(K4.rm U)⟩
  refine jQ ?_;refine jN<|jP g1 0 mF K4 U Y<|oJ Y<|jO<|iF (fV ?_)
  refine jN<|ev (eG Y Y)<|mv Y<|jO<|dX ⟨(k+1),x1.ID,Y,Y,aj,by rw [hz,YP bT,l8]; rfl,(K4.rm U)⟩ rfl aj
 refine BU ?_;refine kX Y<|iU Y ?_
 have gH:(true:Bool)=(tN l):=by symm; unfold tN; rw [hz,Hg aj]; rfl
 exact⟨by rw [<- gH] <;> rfl,K1⟩
abbrev PZ:=(([]:List aT):List aT)
def ni(w:World){vk:Nat}{s:V aT}(sP:Sl bW S0 w wP vk s)(hn:s.length<=1000000):bM prog 34 #[.slice wP s.length vk] w λv w'=>∃ A0 c0,v=.slice A0 s.length c0/\Hp w S0 w' [aR bW 72 A0 c0 s]:=by
 refine lg S0 func34 ntmps34 Y λH0=>?_;have qU:=qm;have qI:=aAF;have qB:=@arF;exact mCL
def YR(w:World){l:V aT}(jq:Sl bW S0 w jL jK l)(hn:l.length<=100000):bM prog 166 #[.slice jL l.length jK] w λv w'=>∃ A0 c0,v=.slice A0 ((iD l).length) c0/\Hp w S0 w' [aR bW 72 A0 c0 (iD l)]:=by
 refine lg S0 func166 ntmps166 Y λH0=>kX Y<|aZ<|gD Y<|mX H0 Y (Xc _ (H0.a jq).any) λw1 K1=>pA 2 Y<|bS Y (λhc5=>?_) (λhc5=>?_)
 ·try simp only [aA] at hc5
  refine kX Y<|Aw Y ?_
  have H1:=K1.nil bW 72;have gy:PZ=(iD l):=by exact(abR hc5).symm
  have H2:=(gy▸H1:Hp w S0 w1 (aR bW 72 none 0 (iD l)::[]));exact⟨none,0,by rw [<- gy] <;> rfl,H2⟩
 try simp only [aA] at hc5
 refine jQ ?_;refine gD Y<|gu Y (ni _ (K1.a jq).any aj) ?_
 rintro _ w2 ⟨qj,ql,rfl,h2⟩;have K2:=K1.f1 h2;refine fE Y<|iU Y ?_
 have gH:(l:V aT)=(iD l):=by exact(xg hc5).symm
 have H3:=(gH▸K2:Hp w S0 w2 [aR bW 72 qj ql (iD l)]);exact⟨qj,ql,by rw [<- gH] <;> rfl,H3⟩
def YS(w:World){vk:Nat}{s:V aT}(sP:Sl bW S0 w wP vk s)(target:Int){CK:FuncId}{Hr:V Value}(VR:bC prog CK)(f:aT->Int->Int)(VT:∀(w':World)(x:aT)(t:Int),Ext w w'->True->bM prog CK (([.agg #[O x.ID,O x.mY,O x.lV,O x.fT],O t]:V Value)++Hr).toArray w' λv w''=>v=O (f x t)/\Ext w' w'')(hm:ac1 (fun(y:aT)=>f y target) s)(hn:s.length<=1000000):bM prog 242 #[.slice wP s.length vk,O target,.func (.func CK) #[] Hr.toArray] w λv w'=>v=.tuple #[O ((low (fun(y:aT)=>f y target) s:Nat):Int),.bool (hits (fun(y:aT)=>f y target) s)]/\Hp w S0 w' []:=by
 refine lg S0 func242 ntmps242 Y λH0=>?_;have qU:=qm;have qZ:=xU;have qG:=AJ;exact mBS
def ajV(w:World)(n:aT)(id:Int):bM prog 243 #[.agg #[O n.ID,O n.mY,O n.lV,O n.fT],O id] w λv w'=>v=O (bL n.ID id)/\Hp w S0 w' []:=by
 refine lg S0 func243 ntmps243 Y λH0=>rg<|bx Y Y H0 λg1 w1 K1=>fE Y<|rg<|jP g1 0 mF K1 U Y<|mv Y<|mX K1 Y (nV (S0:=Any) _ n.ID id) λw2 K2=>fE Y<|iU Y ?_
 exact⟨Y,(K2.rm U)⟩
def UE(w:World){l:V aT}(jq:Sl bW S0 w jL jK l)(id:Int)(hu:Up aT.ID l)(hn:l.length<=1000000):bM prog 167 #[.slice jL l.length jK,O id] w λv w'=>v=.tuple #[O ((low (fun(y:aT)=>bL y.ID id) l:Nat):Int),.bool (hits (fun(y:aT)=>bL y.ID id) l)]/\Hp w S0 w' []:=by
 refine lg S0 func167 ntmps167 Y λH0=>pC 7 Y<|mX H0 Y (YS _ (H0.a jq).any id aCs (fun(x:aT) (t:Int)=>bL x.ID t) (λw' x t e hm=>(ajV (S0:=Any) w' x t).mono (by rintro _ _ ⟨rfl,gH⟩; exact⟨rfl,gH.ext⟩)) (hu.mono id) aj) λw1 K1=>pA 5 rfl<|iU rfl ?_
 exact⟨Y,K1⟩
def Fb(w:World){l:V aT}(jq:Sl bW S0 w jL jK l)(id:Int)(hn:l.length<=100000):bM prog 93 #[.slice jL l.length jK,O id] w λv w'=>v=.tuple #[.agg #[O ((gJ l id).ID),O ((gJ l id).mY),O ((gJ l id).lV),O ((gJ l id).fT)],.bool (jY l id)]/\Hp w S0 w' []:=by
 refine lg S0 func93 ntmps93 Y λH0=>?_;have Iz:=jq.bI;have hf:=UC l;have hlow:=G8 (fun(y:aT)=>bL y.ID id) (iD l);refine rg<|al tT Y H0 λg1 w1 K1=>pB 4 Y<|gu Y (YR _ (K1.a jq).any aj) ?_
 rintro _ w2 ⟨qj,ql,rfl,h2⟩;have K2:=K1.f1 h2;have VX:=(K2.o U).bI;refine pB 5 Y<|mX K2 Y (UE _ (K2.o U) id (Q9 l) aj) λw3 K3=>pA 6 Y<|aZ<|gD Y<|ev (wC Y)<|dn<|bS Y (λhc17=>?_) (λhc17=>?_)
 ·try simp only [aA] at hc17
  refine rg<|ev (iT Y (by apply aCt))<|sty rfl K3 s1 rfl λw4 K4=>fE rfl<|jE (gG (qL rfl ⟨_,_,rfl,⟨_,rfl,jo AJ rfl (K4.x U)⟩,⟨_,_,rfl,rfl,rfl⟩⟩ ?_))
  have gy:((⟨0,0,0,0⟩:aT):aT)=(gJ l id):=by exact(aov hc17).symm
  have gH:(0:Int)=(gJ l id).ID:=by rw [<- gy]
  have kN:(0:Int)=(gJ l id).mY:=by rw [<- gy]
  have nM:(0:Int)=(gJ l id).lV:=by rw [<- gy]
  have uO:(0:Int)=(gJ l id).fT:=by rw [<- gy]
  have zC:(false:Bool)=(jY l id):=by unfold jY; rw [hc17]
  exact⟨by rw [<- gH,<- kN,<- nM,<- uO,<- zC] <;> rfl,K4.z⟩
 try simp only [aA] at hc17
 have hc17:hits (fun(y:aT)=>bL y.ID id) (iD l)=true:=by simpa using hc17
 obtain⟨xb,hxb,hkb⟩:=qc hc17;have adl:=aP hxb;refine jQ ?_;refine pC 3 Y ?_;obtain⟨x1,bT⟩:=bH aj;refine ev (d9 qm xU Y Y Y (aP bT) ((K3.o U).some_ bT))<|ev (iR AJ Y Y ((K3.o U).fF bT))<|sty Y K3 s1 Y λw5 K5=>fE Y<|jE (qL Y ⟨_,_,Y,⟨_,Y,jo (cs:=[O x1.ID,O x1.mY,O x1.lV,O x1.fT]) AJ Y (K5.x U)⟩,⟨_,_,Y,Y,Y⟩⟩ ?_)
 have BO:(x1:aT)=(gJ l id):=by exact(qP hc17 bT).symm
 have hq8:(x1.ID:Int)=(gJ l id).ID:=by rw [<- BO]
 have Aa:(x1.mY:Int)=(gJ l id).mY:=by rw [<- BO]
 have vL:(x1.lV:Int)=(gJ l id).lV:=by rw [<- BO]
 have hq11:(x1.fT:Int)=(gJ l id).fT:=by rw [<- BO]
 exact⟨by unfold jY; rw [hq8,Aa,vL,hq11,hc17] <;> rfl,K5.z⟩
def axJ:ags 345 371 372 33 72 4 32 Tryz.f345.name:=⟨func345.trans (aY some ak),⟨_,func371,ak,ak,ak,ak⟩,qm,ig,xU,ak,aAF,aAG⟩
def aa8:=@Ux _ _ _ _ _ _ _ _ bW axJ
def axK(w:World){l:V aT}(jq:Sl bW S0 w jL jK l)(n:aT)(hn:l.length<=100000):bM prog 280 #[.slice jL l.length jK,.agg #[O n.ID,O n.mY,O n.lV,O n.fT]] w λv w'=>∃ A0 c0,v=.tuple #[.slice A0 (((oG l n).1).length) c0,O ((oG l n).2)]/\Hp w S0 w' [aR bW 72 A0 c0 ((oG l n).1)]:=by
 refine lg S0 func280 ntmps280 Y λH0=>?_;have Iz:=jq.bI;have hf:=UC l;have hlow:=G8 (fun(y:aT)=>bL y.ID n.ID) (iD l);refine rg<|bx Y Y H0 λg1 w1 K1=>pB 5 Y<|gu Y (YR _ (K1.a jq).any aj) ?_
 rintro _ w2 ⟨qj,ql,rfl,h2⟩;have K2:=K1.f1 h2;have VX:=(K2.o U).bI;refine pB 4 Y<|jP g1 0 mF K2 s1 Y<|mX K2 Y (UE _ (K2.o U) n.ID (Q9 l) aj) λw3 K3=>pA 6 Y<|aZ<|dF<|rg<|ev (fA AJ Y Y (K3.x s1))<|mX K3 Y (alT (S0:=Any) _ n) λw4 K4=>pq 2 Y<|iJ 4 25 ((!(LC n))||(!decide (n.fT=0))) ?_ ?_
 ·cases WM:(!(LC n)) with
  | true=>
   refine pq 4 Y<|dK Y
  | false=>
   refine wW g1 3 yX K4 s1 Y<|pq 2 Y<|dK Y
 refine fE Y<|bS Y (λhc17=>?_) (λhc17=>?_)
 ·try simp only [aA] at hc17
  refine rg<|oJ Y<|fE Y<|YC Y ?_
  have H1:=K4.nil bW 72;have gy:PZ=((oG l n).1):=by unfold oG; rw [aS (by simpa using hc17)]
  have H2:=(gy▸H1:Hp w S0 w4 (aR bW 72 none 0 ((oG l n).1)::[aR bW 72 qj ql (iD l),dJ g1 72 [O n.ID,O n.mY,O n.lV,O n.fT]]));have gH:(1:Int)=((oG l n).2):=by unfold oG; rw [aS (by simpa using hc17)]
  exact⟨none,0,by rw [<- gy,<- gH] <;> rfl,(H2.cU 1 2)⟩
 try simp only [aA] at hc17
 refine gD Y<|fE Y<|bS Y (λPg=>?_) (λPg=>?_)
 ·refine rg<|oJ Y<|fE Y<|YC Y ?_
  have H3:=K4.nil bW 72;have kN:PZ=((oG l n).1):=by unfold oG; rw [aQ (by simpa using hc17),aS Pg]
  have H4:=(kN▸H3:Hp w S0 w4 (aR bW 72 none 0 ((oG l n).1)::[aR bW 72 qj ql (iD l),dJ g1 72 [O n.ID,O n.mY,O n.lV,O n.fT]]));have nM:(6:Int)=((oG l n).2):=by unfold oG; rw [aQ (by simpa using hc17),aS Pg]
  exact⟨none,0,by rw [<- kN,<- nM] <;> rfl,(H4.cU 1 2)⟩
 refine Gw ?_;refine pC 3 Y<|ev (fA AJ Y Y (K4.x s1))<|yV Y (by intro _; apply adt) rfl K4 (λ_ _=>rfl) λg2 w5 K5=>gu rfl (aa8 (i:=low (fun(y:aT)=>bL y.ID n.ID) (iD l)) K5 s1 U aj aj) ?_
 rintro _ w6 ⟨sQ,sS,rfl,K6⟩;refine pA 3 Y<|iU Y ?_
 have uO:(((iD l).take (low (fun(y:aT)=>bL y.ID n.ID) (iD l))++[n]++(iD l).drop (low (fun(y:aT)=>bL y.ID n.ID) (iD l))):V aT)=((oG l n).1):=by unfold oG; rw [aQ (by simpa using hc17),aQ (by rw [Pg]; decide)]
 rw [uO] at K6;have zC:(0:Int)=((oG l n).2):=by unfold oG; rw [aQ (by simpa using hc17),aQ (by rw [Pg]; decide)]
 exact⟨sQ,sS,by rw [uO,<- zC] <;> rfl,(K6.rm s1)⟩
abbrev zF(gX:Int)(iP:List aT):=low (fun(y:aT)=>bL y.ID gX) (iD iP)
def alU(w:World){l:V aT}(jq:Sl bW S0 w jL jK l)(id:Int)(state:Int)(hn:l.length<=100000):bM prog 283 #[.slice jL l.length jK,O id,O state] w λv w'=>∃ A0 c0,v=.tuple #[.slice A0 (((lW l id state).1).length) c0,O ((lW l id state).2)]/\Hp w S0 w' [aR bW 72 A0 c0 ((lW l id state).1)]:=by
 refine lg S0 func283 ntmps283 Y λH0=>?_;have Iz:=jq.bI;have hf:=UC l;have hlow:=G8 (fun(y:aT)=>bL y.ID id) (iD l);refine pC 6 Y<|gu Y (YR _ (H0.a jq).any aj) ?_
 rintro _ w1 ⟨jT,jU,rfl,h1⟩;have K1:=H0.f1 h1;have La:=(K1.o U).bI;refine pB 5 Y<|mX K1 Y (UE _ (K1.o U) id (Q9 l) aj) λw2 K2=>pA 6 Y<|aZ<|dF<|gD Y<|ev (wC Y)<|fE Y<|bS Y (λhc18=>?_) (λhc18=>?_)
 ·try simp only [aA] at hc18
  refine rg<|oJ Y<|fE Y<|YC Y ?_
  have H1:=K2.nil bW 72;have gy:PZ=((lW l id state).1):=by unfold lW; rw [aQ (by simp_all)]
  have H2:=(gy▸H1:Hp w S0 w2 (aR bW 72 none 0 ((lW l id state).1)::[aR bW 72 jT jU (iD l)]));have gH:(5:Int)=((lW l id state).2):=by unfold lW; rw [aQ (by simp_all)]
  exact⟨none,0,by rw [<- gy,<- gH] <;> rfl,(H2.rm s1)⟩
 try simp only [aA] at hc18
 have hc18:hits (fun(y:aT)=>bL y.ID id) (iD l)=true:=by simpa using hc18
 obtain⟨xb,hxb,hkb⟩:=qc (key:=aT.ID) hc18;have adl:=aP hxb;refine gD Y<|mX K2 Y (Fa (S0:=Any) _ state 0 2) λw3 K3=>pA 3 Y<|bS Y (λhc21=>?_) (λhc21=>?_)
 ·try simp only [aA] at hc21
  refine rg<|oJ Y<|fE Y<|YC Y ?_
  have H3:=K3.nil bW 72;have kN:PZ=((lW l id state).1):=by unfold lW; rw [aS hc18,aQ (by simp_all)]
  have H4:=(kN▸H3:Hp w S0 w3 (aR bW 72 none 0 ((lW l id state).1)::[aR bW 72 jT jU (iD l)]));have nM:(1:Int)=((lW l id state).2):=by unfold lW; rw [aS hc18,aQ (by simp_all)]
  exact⟨none,0,by rw [<- kN,<- nM] <;> rfl,(H4.rm s1)⟩
 try simp only [aA] at hc21
 refine aZ<|pC 3 Y ?_
 obtain⟨x1,bT⟩:=bH (xs:=iD l) aj;refine ev (d9 qm xU Y Y Y (aP bT) ((K3.o U).some_ bT))<|ev (fq yX Y (fD _ _ _))<|ev (kG jF Y ((K3.o U).eZ bT Y))<|pA 3 Y<|bS Y (λhc25=>?_) (λhc25=>?_)
 ·replace hc25:=iY hc25;refine jQ ?_;refine bS Y (λhc25=>?_) (λhc25=>?_)
  ·replace hc25:=iY hc25;refine rg<|oJ Y<|fE Y<|YC Y ?_
   have H5:=K3.nil bW 72;have uO:PZ=((lW l id state).1):=by unfold lW; rw [aS hc18,aS hc21,qP hc18 bT,aS (by first | exact .inl hc25 | exact .inr hc25)]
   have H6:=(uO▸H5:Hp w S0 w3 (aR bW 72 none 0 ((lW l id state).1)::[aR bW 72 jT jU (iD l)]));have zC:(8:Int)=((lW l id state).2):=by unfold lW; rw [aS hc18,aS hc21,qP hc18 bT,aS (by first | exact .inl hc25 | exact .inr hc25)]
   exact⟨none,0,by rw [<- uO,<- zC] <;> rfl,(H6.rm s1)⟩
  replace hc25:=jX hc25;refine Gw ?_;refine pC 4 Y<|ev (d9 (i:=low (fun(y:aT)=>bL y.ID id) (iD l)) qm xU Y Y Y (aP bT) ((K3.o U).some_ bT))<|ev (fq yX Y (fD _ _ _))<|se (i:=low (fun(y:aT)=>bL y.ID id) (iD l)) (f:=3) (x:=x1) (x':={ x1 with fT:=state }) (ds:=[O state]) K3 U Y Y Y bT Y wX (nU Y) Y (by rintro _ _ _ ⟨⟩; rfl) λw4 K4=>?_
  have hl1:((iD l).set (zF id l) ({ x1 with fT:=state })).length=(iD l).length:=iC ..;refine gZ (t:=0) (u:=.slice jT ((iD l).length) jU) (v:=.slice jT (((iD l).set (zF id l) ({ x1 with fT:=state })).length) jU) Y (by rw [hl1])<|gZ (t:=11) (u:=.slice jT ((iD l).length) jU) (v:=.slice jT (((iD l).set (zF id l) ({ x1 with fT:=state })).length) jU) rfl (by rw [hl1])<|gZ (t:=13) (u:=.slice jT ((iD l).length) jU) (v:=.slice jT (((iD l).set (zF id l) ({ x1 with fT:=state })).length) jU) rfl (by rw [hl1])<|gZ (t:=26) (u:=.slice jT ((iD l).length) jU) (v:=.slice jT (((iD l).set (zF id l) ({ x1 with fT:=state })).length) jU) rfl (by rw [hl1])<|gZ (t:=42) (u:=.slice jT ((iD l).length) jU) (v:=.slice jT (((iD l).set (zF id l) ({ x1 with fT:=state })).length) jU) rfl (by rw [hl1])<|pA 6 rfl<|iU rfl ?_
  have BO:(((iD l).set (zF id l) ({ x1 with fT:=state })):V aT)=((lW l id state).1):=by exact absurd ‹x1.fT=2› hc25
  rw [BO] at K4;have hq8:(0:Int)=((lW l id state).2):=by exact absurd ‹x1.fT=2› hc25
  exact⟨jT,jU,by rw [BO,<- hq8] <;> rfl,K4⟩
 replace hc25:=jX hc25;refine jN<|pq 2 Y<|ev (d9 (i:=low (fun(y:aT)=>bL y.ID id) (iD l)) qm xU Y Y Y (aP bT) ((K3.o U).some_ bT))<|ev (fq yX Y (fD _ _ _))<|ev (kG jF Y ((K3.o U).eZ (j:=3) bT Y))<|pq 2 Y<|iJ 3 41 ((decide (x1.fT=0))&&(decide (state=2))) ?_ ?_
 ·cases aCu:decide (x1.fT=0) with
  | true=>
   refine pq 3 Y<|dK Y
  | false=>
   refine pq 3 Y<|dK Y
 refine oJ Y<|jO<|fV<|bS Y (λhc25=>?_) (λhc25=>?_)
 ·try simp only [aA] at hc25
  refine rg<|oJ Y<|fE Y<|YC Y ?_
  have H7:=K3.nil bW 72;have Aa:PZ=((lW l id state).1):=by unfold lW; rw [aS hc18,aS hc21,qP hc18 bT,aS (by first | exact .inl hc25 | exact .inr hc25)]
  have H8:=(Aa▸H7:Hp w S0 w3 (aR bW 72 none 0 ((lW l id state).1)::[aR bW 72 jT jU (iD l)]));have vL:(8:Int)=((lW l id state).2):=by unfold lW; rw [aS hc18,aS hc21,qP hc18 bT,aS (by first | exact .inl hc25 | exact .inr hc25)]
  exact⟨none,0,by rw [<- Aa,<- vL] <;> rfl,(H8.rm s1)⟩
 try simp only [aA] at hc25
 refine Gw ?_;refine pC 4 Y<|ev (d9 (i:=low (fun(y:aT)=>bL y.ID id) (iD l)) qm xU Y Y Y (aP bT) ((K3.o U).some_ bT))<|ev (fq yX Y (fD _ _ _))<|se (i:=low (fun(y:aT)=>bL y.ID id) (iD l)) (f:=3) (x:=x1) (x':={ x1 with fT:=state }) (ds:=[O state]) K3 U Y Y Y bT Y wX (nU Y) Y (by rintro _ _ _ ⟨⟩; rfl) λw5 K5=>?_
 have hl2:((iD l).set (zF id l) ({ x1 with fT:=state })).length=(iD l).length:=iC ..;refine gZ (t:=0) (u:=.slice jT ((iD l).length) jU) (v:=.slice jT (((iD l).set (zF id l) ({ x1 with fT:=state })).length) jU) Y (by rw [hl2])<|gZ (t:=11) (u:=.slice jT ((iD l).length) jU) (v:=.slice jT (((iD l).set (zF id l) ({ x1 with fT:=state })).length) jU) rfl (by rw [hl2])<|gZ (t:=13) (u:=.slice jT ((iD l).length) jU) (v:=.slice jT (((iD l).set (zF id l) ({ x1 with fT:=state })).length) jU) rfl (by rw [hl2])<|gZ (t:=26) (u:=.slice jT ((iD l).length) jU) (v:=.slice jT (((iD l).set (zF id l) ({ x1 with fT:=state })).length) jU) rfl (by rw [hl2])<|gZ (t:=32) (u:=.slice jT ((iD l).length) jU) (v:=.slice jT (((iD l).set (zF id l) ({ x1 with fT:=state })).length) jU) rfl (by rw [hl2])<|gZ (t:=42) (u:=.slice jT ((iD l).length) jU) (v:=.slice jT (((iD l).set (zF id l) ({ x1 with fT:=state })).length) jU) rfl (by rw [hl2])<|pA 6 rfl<|iU rfl ?_
 have hq11:(((iD l).set (zF id l) ({ x1 with fT:=state })):V aT)=((lW l id state).1):=by unfold lW; rw [aS hc18,aS hc21,qP hc18 bT,aQ (by rintro(h | h); contradiction; exact hc25 h.1 h.2)]
 rw [hq11] at K5;have hq12:(0:Int)=((lW l id state).2):=by unfold lW; rw [aS hc18,aS hc21,qP hc18 bT,aQ (by rintro(h | h); contradiction; exact hc25 h.1 h.2)]
 exact⟨jT,jU,by rw [hq11,<- hq12] <;> rfl,K5⟩
end
section
variable {k vk jK uz jZ JL nk:Nat}{xs l ys:List aT}{S0 S:Nat->Prop}{wP jL uD j3 nu:ah}{CK:FuncId}{Hr:List Value}{dh:List aH}{D:List Int}
structure fJ where
  Node:Int
  N:Int
  deriving DecidableEq
def fJ.enc(x:fJ):List Value:=[.int .i64 x.Node,.int .i64 x.N]
def fJ.kP(x:fJ):∀ u∈x.enc,u.oneCell'=true:=by
 intro u hu
 simp only [fJ.enc,gW,lH,qM] at hu
 rcases hu with rfl | rfl <;> rfl
def nW:Ty fJ:=Ty.flat 2 fJ.enc au (λ_=>rfl) fJ.kP
instance:Flat nW:=⟨λh=>h⟩
structure aL where
  Kind:Int
  X:Int
  E:Int
  Sum:Int
  jm:Int
  To:Int
  iK:Int
  deriving DecidableEq
def aL.enc(x:aL):List Value:=[.int .i64 x.Kind,.int .i64 x.X,.int .i64 x.E,.int .u32 x.Sum,.int .i64 x.jm,.int .i64 x.To,.int .i64 x.iK]
def aL.kP(x:aL):∀ u∈x.enc,u.oneCell'=true:=by
 intro u hu
 simp only [aL.enc,gW,lH,qM] at hu
 rcases hu with rfl | rfl | rfl | rfl | rfl | rfl | rfl <;> rfl
def bA:Ty aL:=Ty.flat 7 aL.enc au (λ_=>rfl) aL.kP
instance:Flat bA:=⟨λh=>h⟩
def pJ(cs:List aH)(id:Int):Nat:=(cs.filter fun(c:aH)=>c.aD.contains id).length
def oq(cs:List aH)(l:List aT):List fJ:=if tN l=true then l.map fun(n:aT)=>⟨n.ID,(pJ cs n.ID:Int)⟩ else[]
def arG(D:List Int)(n:aT):Bool:=!decide (n.fT=0)||!D.contains n.ID
def xH(l:List aT)(D:List Int):List aT:=if tN l=true then l.filter fun(n:aT)=>!arG D n else[]
def nX(aX:List fJ)(id:Int):Int:=match aX.find? (fun(x:fJ)=>decide (x.Node=id)) with | some x=>x.N | none=>0
def aCv{aX:V fJ}{id:Int}(h:idxOf (fun(x:fJ)=>decide (x.Node=id)) aX<0):nX aX id=0:=by
 rcases wS (fun(x:fJ)=>decide (x.Node=id)) aX with ⟨_,h2⟩ | ⟨k,x,h1,_,_,_⟩
 ·unfold nX; rw [EZ.2 (λx hx=>by simp [h2 x hx])]
 ·omega
def axL{aX:V fJ}{id:Int}{x:fJ}(h:idxOf (fun(x:fJ)=>decide (x.Node=id)) aX=(k:Int))(hx:aX[k]? = some x):nX aX id=x.N:=by
 rcases wS (fun(x:fJ)=>decide (x.Node=id)) aX with ⟨h1,_⟩ | ⟨k',x',h1,h2,h3,h4⟩
 ·omega
 ·have:k=k':=aj
  subst this;rw [hx] at h2; cases h2
  have hs:aX=aX.take k++x::aX.drop (k+1):=by
   conv=>lhs; rw [<- Gp k aX]
   rw [CF (aP hx),(rG.1 hx).2]
  unfold nX;rw [hs,MS,EZ.2 (λy hy=>by simp [h4 y hy])]
  simp only [Option.none_or,List.find?_cons,h3]
def gK(cs:List aH)(l:List aT)(D:List Int):List fJ:=oq cs (xH l D)
def adu:Size prog 221 2:=ay
def aCw:WC prog 221 2:=⟨λ_=>by kernel_rfl,adu⟩
def arH:bU prog 221 0 0:=ay
def aCx:bC prog 227:=ay
def arI:bU prog 221 1 1:=ay
def JM(a0:Int)(a1:Int):prog.built 221 [(0,O a0),(1,O a1)]=some #[O a0,O a1]:=ak
def MX(a0:Int)(a1:Int):∀ w,(Instr.buildSlice 131 1 (List.toArray [(0,.agg #[O a0,O a1])])).run prog w=.ok (.slice (some ⟨w.heap.size,0,none⟩) 1 1) (w.alloc (.cells (List.toArray [O a0,O a1]) 221)):=ay
def ajW:kH prog 221 2 16:=by
 obtain⟨i,h1,h2,h3,h4⟩:=qo (show(prog.info? 221).map (λi=>(i.zero,i.size,i.bytes))=some (some (.agg #[O 0,O 0]),2,16) by kernel_rfl);exact⟨i,_,h1,h2,h3,h4,Y⟩
def aCy:bC prog 323:=ay
def agc{α:Type}{p:α->Bool}{xs:V α}(h:idxOf p xs<0):(xs.filter λx=>!p x)=xs:=by
 rcases wS p xs with ⟨_,h2⟩ | ⟨k,x,h1,_⟩
 ·exact DT.2 (λx hx=>by simp [h2 x hx])
 ·omega
def agd{α:Type}{p:α->Bool}{xs:V α}(h:idxOf p xs=(k:Int)):xs.take k=(xs.take (k+1)).filter (λx=>!p x)/\k<xs.length:=by
 rcases wS p xs with ⟨h1,_⟩ | ⟨k',x,h1,h2,h3,h4⟩
 ·omega
 ·have:k=k':=aj
  subst this;refine⟨?_,aP h2⟩;rw [eO h2,CB,DT.2 (λx hx=>by simp [h4 x hx])]
  simp [h3]
def UF(w:World){s:V fJ}(sP:Sl nW S0 w wP vk s)(VR:bC prog CK)(f:fJ->Bool)(VT:∀(w':World)(x:fJ),Ext w w'->x∈s->bM prog CK (([.agg #[O x.Node,O x.N]]:V Value)++Hr).toArray w' λv w''=>v=.bool (f x)/\Ext w' w''):bM prog 226 #[.slice wP s.length vk,.func (.func CK) #[] Hr.toArray] w λv w'=>v=O (idxOf f s)/\Hp w S0 w' []:=by
 refine lg S0 func226 ntmps226 Y λH0=>?_;have qU:=YM;have qZ:=adu;have qG:=aCw;exact mIF
def aow(w:World)(x:fJ){E5:Nat}(bF:Int)(MV:Bx w E5 3 [O bF]):bM prog 227 #[.agg #[O x.Node,O x.N],fK E5] w λv w'=>v=.bool (decide (x.Node=bF))/\Hp w S0 w' []:=by
 refine lg S0 func227 ntmps227 Y λH0=>rg<|bx Y Y H0 λg1 w1 K1=>fE Y<|rg<|jP g1 0 arH K1 U Y<|ev (dU jF Y (MV.ext K1.ext) Y)<|pA 3 Y<|iU Y ?_
 exact⟨Y,(K1.rm U)⟩
def vM(w:World){l:V fJ}(jq:Sl nW S0 w jL jK l)(bF:Int):bM prog 142 #[.slice jL l.length jK,O bF] w λv w'=>v=O (nX l bF)/\Hp w S0 w' []:=by
 refine lg S0 func142 ntmps142 Y λH0=>?_;have hge:=QT (p:=fun(x:fJ)=>decide (x.Node=bF)) l;have hlt:=L9 (p:=fun(x:fJ)=>decide (x.Node=bF)) l;refine rg<|bx Y Y H0 λg1 w1 K1=>pB 4 Y<|ev (rZ Y)<|mX K1 Y (UF _ (K1.a jq).any (Hr:=[fK g1]) aCx (fun(x:fJ)=>decide (x.Node=bF)) (λw' x e hm=>(aow (S0:=Any) w' x bF ((K1.x U).ext e)).mono (by rintro _ _ ⟨rfl,gH⟩; exact⟨rfl,gH.ext⟩))) λw2 K2=>fE rfl<|aZ<|gD rfl<|ev (iH rfl rfl)<|dn<|o8 rfl (λP5=>?_) (λP5=>?_)
 ·refine kX Y<|Aw Y ?_
  exact⟨by rw [aCv aj] <;> rfl,(K2.rm U)⟩
 refine jQ ?_;obtain⟨k0,hk0,hkl⟩:∃ k0:Nat,idxOf (fun(x:fJ)=>decide (x.Node=bF)) l=(k0:Int)/\k0<l.length:=⟨(idxOf (fun(x:fJ)=>decide (x.Node=bF)) l).toNat,aj,aj⟩;refine mP (t:=5) Y (aY (Value.int .i64) hk0)<|pC 3 Y ?_
 obtain⟨x1,bT⟩:=bH (xs:=l) aj;refine ev (d9 YM adu Y Y Y (aP bT) ((K2.a jq).some_ bT))<|ev (fq arI Y (fD _ _ _))<|ev (kG jF Y ((K2.a jq).eZ bT Y))<|fE Y<|iU Y ?_
 exact⟨by rw [<- axL hk0 bT] <;> rfl,(K2.rm U)⟩
def arJ(w:World)(uE:Sl bD S0 w uD uz dh)(id:Int):bM prog 144 #[.slice uD dh.length uz,O id] w λv w'=>v=O ((pJ dh id:Nat):Int)/\Hp w S0 w' []:=by
 refine lg S0 func144 ntmps144 Y λH0=>?_;have aox:=uE.bI;have hq:=λk=>mW (fun(c:aH)=>c.aD.contains id) (dh.take k)
 simp only [iX] at hq
 refine kX Y<|kX Y<|aZ<|gD Y<|ev (jf lT Y)<|mv Y<|dn<|dF ?_
 have gy:(0:Int)=((((dh.take 0).filter fun(c:aH)=>c.aD.contains id).length:Nat):Int):=by rfl
 refine mP (t:=5) Y (aY (Value.int .i64) gy)<|Lp H0 (λl0 rk mJ lJ wJ=>∃ k,lJ=(5,O ((((dh.take k).filter fun(c:aH)=>c.aD.contains id).length:Nat):Int))::(10,O ((k:Nat):Int))::l0/\mJ=dh.length - k/\k<=dh.length/\Hp w S0 wJ rk) ⟨0,Y,Y,fI _,H0⟩ Y ?_
 rintro _ _ w1 ⟨k,rfl,rfl,hk,K1⟩;refine rg<|ev (iH Y Y)<|dn<|r9 Y (λzG=>?_) (λzG=>?_)
 ·refine jQ ?_;refine aZ<|dF<|rg ?_
  obtain⟨x1,bT⟩:=bH (xs:=dh) (i:=k) aj;refine ev (d9 lT tH Y Y Y (aP bT) ((K1.a uE).some_ bT)) ?_;obtain⟨B1,d1,yG,hi1⟩:=CG (uE.row bT);refine ev (iR p8 Y Y (Gu (λj u hu=>K1.ext.cell (yG j u hu))))<|al lX Y K1 λg1 w2 K2=>sty Y K2 U Y λw3 K3=>dn ?_
  have hqk:=hq k;refine rg<|jP g1 3 kr K3 U Y<|mv Y<|mX K3 Y (kJ _ (K3.a hi1).any id) λw4 K4=>dn<|bS Y (λhc17=>?_) (λhc17=>?_)
  ·refine jN<|mv Y<|ev (eG Y Y)<|oJ Y<|jO<|iF (fV ?_)
   refine jN<|ev (eG Y Y)<|mv Y<|jO ?_
   have gH:(((((dh.take k).filter fun(c:aH)=>c.aD.contains id).length+1:Nat):Int):Int)=((((dh.take (k+1)).filter fun(c:aH)=>c.aD.contains id).length:Nat):Int):=by rw [nL bT]; first | (rw [aS hc17]; simp; done) | (rw [aQ (by rw [hc17]; decide)]; simp)
   refine ji (t:=5) Y (aY (Value.int .i64) gH)<|dX ⟨(k+1),Y,Y,aj,(K4.rm U)⟩ rfl aj
  refine Gw ?_;refine jN<|ev (eG Y Y)<|mv Y<|jO ?_
  have kN:(((((dh.take k).filter fun(c:aH)=>c.aD.contains id).length:Nat):Int):Int)=((((dh.take (k+1)).filter fun(c:aH)=>c.aD.contains id).length:Nat):Int):=by rw [nL bT]; first | (rw [aS hc17]; simp; done) | (rw [aQ (by rw [hc17]; decide)]; simp)
  refine ji (t:=5) Y (aY (Value.int .i64) kN)<|dX ⟨(k+1),Y,Y,aj,(K4.rm U)⟩ rfl aj
 refine BU ?_;refine gD Y<|fE Y<|iU Y ?_
 have nM:(((dh.take k).filter fun(c:aH)=>c.aD.contains id).length:Nat)=(pJ dh id):=by rw [gY aj]; rfl
 exact⟨by rw [nM] <;> rfl,K1⟩
abbrev JN(gX:aT)(iP:List aH):=(⟨gX.ID,(pJ iP gX.ID:Int)⟩:fJ)
def UG(w:World)(uE:Sl bD S0 w uD uz dh)(jq:Sl bW S0 w jL jK l)(hn:l.length<=100000):bM prog 73 #[.slice uD dh.length uz,.slice jL l.length jK] w λv w'=>∃ A0 c0,v=.slice A0 ((oq dh l).length) c0/\Hp w S0 w' [aR nW 221 A0 c0 (oq dh l)]:=by
 refine lg S0 func73 ntmps73 Y λH0=>kX Y<|aZ<|gD Y<|mX H0 Y (Xc _ (H0.a jq).any) λw1 K1=>pA 2 Y<|bS Y (λP5=>?_) (λP5=>?_)
 ·try simp only [aA] at P5
  refine kX Y<|Aw Y ?_
  have H1:=K1.nil nW 221;have gy:(([]:V fJ):V fJ)=(oq dh l):=by unfold oq; rw [aQ (by rw [P5]; decide)]
  have H2:=(gy▸H1:Hp w S0 w1 (aR nW 221 none 0 (oq dh l)::[]));exact⟨none,0,by rw [<- gy] <;> rfl,H2⟩
 try simp only [aA] at P5
 refine jQ ?_;refine kX Y<|aZ<|gD Y<|ev (jf qm Y)<|mv Y<|dn<|dF ?_
 have H3:=K1.nil nW 221;have gH:(([]:V fJ):V fJ)=((l.take 0).map fun(n:aT)=>(JN n dh)):=by rfl
 refine mP (t:=5) Y (aY (λz=>Value.slice none (List.length z) 0) gH) ?_;have H4:=H3.nil nW 221;have H5:=(gH▸H4:Hp w S0 w1 (aR nW 221 none 0 ((l.take 0).map fun(n:aT)=>(JN n dh))::[aR nW 221 none 0 []]));refine qh (λmJ lJ wJ=>∃ k A5 c5,lJ=[(0,.slice uD dh.length uz),(5,.slice A5 (((l.take k).map fun(n:aT)=>(JN n dh)).length) c5),(11,.slice jL l.length jK),(12,O ((l.length:Nat):Int)),(13,O ((k:Nat):Int))]/\mJ=l.length - k/\k<=l.length/\Hp w S0 wJ [aR nW 221 A5 c5 ((l.take k).map fun(n:aT)=>(JN n dh))]) ⟨0,none,0,Y,Y,fI _,(H5.rm s1)⟩ Y ?_;rintro _ _ w2 ⟨k,A5,c5,rfl,rfl,hk,K2⟩;refine rg<|ev (iH Y Y)<|dn<|r9 Y (λrR=>?_) (λrR=>?_)
 ·refine jQ ?_;refine aZ<|dF<|rg ?_
  obtain⟨x1,bT⟩:=bH (xs:=l) (i:=k) aj;refine ev (d9 qm xU Y Y Y (aP bT) ((K2.a jq).some_ bT))<|ev (iR AJ Y Y ((K2.a jq).fF bT))<|al tT Y K2 λg1 w3 K3=>sty Y K3 U Y λw4 K4=>dn<|Hf K4 (λ_ K=>(K.rm s1)) (λl0 rk lJ wJ=>∃ jG jr,lJ=(5,.slice jG ((((l.take k).map fun(n:aT)=>(JN n dh))++([(⟨x1.ID,((pJ dh x1.ID:Nat):Int)⟩:fJ)]:V fJ)).length) jr)::l0/\Hp w S0 wJ (aR nW 221 jG jr (((l.take k).map fun(n:aT)=>(JN n dh))++([(⟨x1.ID,((pJ dh x1.ID:Nat):Int)⟩:fJ)]:V fJ))::rk)) (λhns H6=>?_) ?_
  ·have k1:=(H6.rm s1);refine lF 0 Y Y k1<|mK 1 2 g1 0 mF U Y k1<|lF 3 Y Y k1<|mK 4 5 g1 0 mF U Y k1<|O1 6 Y<|mX H6 Y (arJ _ (H6.a uE).any x1.ID) λw5 K5=>?_
   have k2:=(K5.rm s1);refine aO k2<|kI 7 Y (λ_ _=>iT Y (by apply JM)) k2<|O1 8 rfl<|yV (τ:=nW) (x:=(⟨x1.ID,((pJ dh x1.ID:Nat):Int)⟩:fJ)) rfl (by intro _; apply MX) rfl K5 (λ_ _=>rfl) λg2 w6 K6=>?_
   have k3:=((K6.rm s2).rm U);refine aO k3<|O1 9 Y<|ap K6 s2 Y Y (K6.o U) YM ajW (by first | omega | (simp; omega) | (simp; done)) av rfl λsQ sS w7 K7=>?_
   have k4:=(K7.cU 0 2);refine aO k4<|xC 10 Y Y k4<|Dn ⟨sQ,sS,Y,(K7.rm s1)⟩ Y
  rintro _ w8 ⟨jG,jr,rfl,K8⟩;refine iF (fV ?_);refine jN<|ev (eG Y Y)<|mv Y<|jO ?_
  have kN:((((l.take k).map fun(n:aT)=>(JN n dh))++([(⟨x1.ID,((pJ dh x1.ID:Nat):Int)⟩:fJ)]:V fJ)):V fJ)=((l.take (k+1)).map fun(n:aT)=>(JN n dh)):=by rw [eO bT,sU]; rfl
  refine ji (t:=5) Y (aY (λz=>Value.slice jG (List.length z) jr) kN) ?_;rw [kN] at K8;exact dX ⟨(k+1),jG,jr,Y,Y,aj,(K8.rm s1)⟩ rfl aj
 refine BU ?_;refine gD Y<|fE Y<|iU Y ?_
 have nM:(((l.take k).map fun(n:aT)=>(JN n dh)):V fJ)=(oq dh l):=by rw [gY aj]; unfold oq; rw [aS P5]
 rw [nM] at K2;exact⟨A5,c5,by rw [nM] <;> rfl,K2⟩
def axM(w:World)(n:aT){JO:Nat}(kQ:Bx w JO 46 [.slice j3 D.length jZ])(Ri:Sl dN S0 w j3 jZ D):bM prog 323 #[.agg #[O n.ID,O n.mY,O n.lV,O n.fT],fK JO] w λv w'=>v=.bool (arG D n)/\Hp w S0 w' []:=by
 refine lg S0 func323 ntmps323 Y λH0=>rg<|bx Y Y H0 λg1 w1 K1=>fE Y<|rg<|jP g1 3 yX K1 U Y<|pq 2 Y<|qg 6 13 ((!decide (n.fT=0))||(!(D.contains n.ID))) ?_ ?_
 ·cases hb7:(!decide (n.fT=0)) with
  | true=>
   refine pq 6 Y<|jI Y (oW _)
  | false=>
   refine uf Y (dU EX Y (kQ.ext K1.ext) Y) Y<|wW g1 0 mF K1 U Y<|om Y Y Y Y agj (kJ _ (K1.a Ri).any n.ID) Y ?_
   rintro _ w2 ⟨rfl,h2⟩;refine pq 2 Y<|jI Y h2.ext
 intro w3 e3;have K3:=K1.grow e3;refine fE Y<|iU Y ?_
 exact⟨by skip <;> rfl,(K3.rm U)⟩
def UH(w:World){s:V aT}(sP:Sl bW S0 w wP vk s)(VR:bC prog CK)(f:aT->Bool)(VT:∀(w':World)(x:aT),Ext w w'->x∈s->bM prog CK (([.agg #[O x.ID,O x.mY,O x.lV,O x.fT]]:V Value)++Hr).toArray w' λv w''=>v=.bool (f x)/\Ext w' w''):bM prog 365 #[.slice wP s.length vk,.func (.func CK) #[] Hr.toArray] w λv w'=>v=O (idxOf f s)/\Hp w S0 w' []:=by
 refine lg S0 func365 ntmps365 Y λH0=>?_;have qU:=qm;have qZ:=xU;have qG:=AJ;exact mIF
def Rj{b w:World}{F:V kF}{A:ah}{c:Nat}(H0:Hp b S w (aR bW 72 A c xs::F)){fd:FuncId}{kd:V Value}(qd:bC prog fd)(p:aT->Bool)
    (hd:∀(w':World)(ys:V aT)(x:aT),ys.length=xs.length->Hp b S w' (aR bW 72 A c ys::F)->bM prog fd (([.agg #[O x.ID,O x.mY,O x.lV,O x.fT]]:V Value)++kd).toArray w' λv w''=>v=.bool (p x)/\Ext w' w'') (hn:xs.length<=1000000) :
    bM prog 324 #[.slice A xs.length c,.func (.func fd) #[] kd.toArray] w λv w'=>v=.slice A (xs.filter λx=>!p x).length c/\Hp b S w' (aR bW 72 A c (xs.filter λx=>!p x)::F):=by
 refine qN func324 ntmps324 Y ?_;have qU:=qm;have qZ:=xU;have qG:=AJ;have qO:=tT;have qE:=aAG;have qX:=@UH;exact mDF
def aCz(w:World)(uE:Sl bD S0 w uD uz dh)(jq:Sl bW S0 w jL jK l)(kQ:Sl dN S0 w j3 jZ D)(hn:l.length<=100000):bM prog 256 #[.slice uD dh.length uz,.slice jL l.length jK,.slice j3 D.length jZ] w λv w'=>∃ A0 c0 A1 c1,v=.tuple #[.slice A0 ((xH l D).length) c0,.slice A1 ((gK dh l D).length) c1]/\Hp w S0 w' [aR bW 72 A0 c0 (xH l D),aR nW 221 A1 c1 (gK dh l D)]:=by
 refine lg S0 func256 ntmps256 Y λH0=>?_;have arK:=kQ.bI;refine rg<|bx Y Y H0 λg1 w1 K1=>pA 3 Y<|aZ<|gD Y<|mX K1 Y (Xc _ (K1.a jq).any) λw2 K2=>pA 2 Y<|bS Y (λzG=>?_) (λzG=>?_)
 ·try simp only [aA] at zG
  refine rg<|oJ Y<|fE Y<|Aw Y ?_
  have H1:=K2.nil bW 72;have gy:(([]:V aT):V aT)=(xH l D):=by unfold xH; rw [aQ (by rw [zG]; decide)]
  have H2:=(gy▸H1:Hp w S0 w2 (aR bW 72 none 0 (xH l D)::[dJ g1 46 [.slice j3 D.length jZ]]));have H3:=H2.nil nW 221;have gH:(([]:V fJ):V fJ)=(gK dh l D):=by unfold gK xH; rw [aQ (by rw [zG]; decide)]; rfl
  have H4:=(gH▸H3:Hp w S0 w2 (aR nW 221 none 0 (gK dh l D)::[aR bW 72 none 0 (xH l D),dJ g1 46 [.slice j3 D.length jZ]]));exact⟨none,0,none,0,by rw [<- gy,<- gH] <;> rfl,(((H4.rm s2).sel U).sel s1)⟩
 try simp only [aA] at zG
 refine jQ ?_;refine rg<|ev (rZ Y)<|pB 4 Y<|gu Y (ni _ (K2.a jq).any aj) ?_
 rintro _ w3 ⟨rE,rF,rfl,h3⟩;have K3:=K2.f1 h3;refine mv Y<|gu Y (Rj (K3.sel U) aCy (λx9=>arG D x9) (λw9 ys x9 hl9 K9=>(axM w9 x9 (K9.x s1) (K9.a kQ).any).mono (by rintro _ w8 ⟨rfl,K8⟩; exact⟨rfl,K8.ext⟩)) aj) ?_
 rintro _ w4 ⟨rfl,K4⟩;refine fE Y ?_;have hfl:(xH l D).length<=l.length:=by unfold xH; rw [aS zG]; exact mW _ _
 have hfe:((l.filter λx9=>!(arG D x9)):V aT)=xH l D:=by unfold xH; rw [aS zG]
 rw [hfe] at K4;refine mP (t:=1) Y (aY (fun(z:V aT)=>Value.slice rE z.length rF) hfe)<|pC 4 Y<|gu Y (UG _ (K4.a uE).any (K4.o U) aj) ?_
 rintro _ w5 ⟨Du,Dv,rfl,h5⟩;have K5:=K4.f1 h5;refine pA 3 Y<|iU Y ?_
 have kN:(oq dh (xH l D):V fJ)=(gK dh l D):=by rfl
 rw [kN] at K5;exact⟨rE,rF,Du,Dv,by rw [kN] <;> rfl,(((K5.rm s2).sel U).sel s1)⟩
def Rk(cs:V aH)(id:Int):pJ cs id<=cs.length:=mW _ _
def ajX{cs:V aH}{x:fJ}(h:x∈gK cs l D):0<=x.N/\x.N<=cs.length:=by
 unfold gK oq at h
 split at h
 ·obtain⟨n,_,rfl⟩:=eX.1 h
  have:=Rk cs n.ID;exact⟨Int.natCast_nonneg _,by simp only; omega⟩
 ·simp at h
def agw(h:List Int)(fr nZ:Int):List Int:=((h.filter fun(x9:Int)=>!(decide (x9=fr)))++[nZ]).mergeSort fun(x y:Int)=>decide (x<=y)
def abS(l:List aT)(s:List Int)(id:Int):List Int:=if jY l id=true then Us s (gJ l id).mY else s
def kY(l:List aT)(ids:List Int):List Int:=ids.foldl (abS l) []
def UJ(l:List aT)(ids:List Int):Nat:=(kY l ids).length
def GD{ids:V Int}{x:Int}(hx:ids[k]? = some x):kY l (ids.take (k+1))=abS l (kY l (ids.take k)) x:=by
 rw [eO hx]; simp [kY]
def BX(c:aH)(l:List aT)(fr nZ:Int):Bool:=c.aD.contains fr&&!c.aD.contains nZ&&decide (UJ l c.aD<=UJ l (agw c.aD fr nZ))
def aCA:bC prog 367:=ay
def aCB:bC prog 330:=ay
def arL:bC prog 329:=ay
def Ld(w:World){s:V Int}(sP:Sl dN S0 w wP vk s)(VR:bC prog CK)(f:Int->Bool)(VT:∀(w':World)(x:Int),Ext w w'->x∈s->bM prog CK (([O x]:V Value)++Hr).toArray w' λv w''=>v=.bool (f x)/\Ext w' w''):bM prog 137 #[.slice wP s.length vk,.func (.func CK) #[] Hr.toArray] w λv w'=>v=O (idxOf f s)/\Hp w S0 w' []:=by
 refine lg S0 func137 ntmps137 Y λH0=>?_;have qU:=gq;have qZ:=wX;have qG:=jF;exact mIF
def oN{b w:World}{F:V kF}{A:ah}{c:Nat}{xs:V Int}(H0:Hp b S w (aR dN 3 A c xs::F)){fd:FuncId}{kd:V Value}(qd:bC prog fd)(p:Int->Bool)
    (hd:∀(w':World)(ys:V Int)(x:Int),ys.length=xs.length->Hp b S w' (aR dN 3 A c ys::F)->bM prog fd (([O x]:V Value)++kd).toArray w' λv w''=>v=.bool (p x)/\Ext w' w'') (hn:xs.length<=1000000) :
    bM prog 70 #[.slice A xs.length c,.func (.func fd) #[] kd.toArray] w λv w'=>v=.slice A (xs.filter λx=>!p x).length c/\Hp b S w' (aR dN 3 A c (xs.filter λx=>!p x)::F):=by
 refine qN func70 ntmps70 Y ?_;have aAx:=(H0.o U).bI;have hcap0:=(H0.o U).cap;have hlt:=L9 (p:=p) xs;have hge:=QT (p:=p) xs;refine pC 6 Y<|gu Y (Ld (S0:=Any) (Hr:=kd) w ((H0.o U)) qd p (λw' x ex _=>hd w' xs x Y (H0.grow ex))) ?_
 rintro _ w1 ⟨rfl,e1⟩;have K1:=H0.grow e1.ext;refine fE Y<|aZ<|gD Y<|ev (wQ Y Y)<|dn<|o8 Y (λoD=>?_) (λoD=>?_)
 ·refine gD Y<|fE Y<|Aw Y ?_
  have hall:=agc (p:=p) (xs:=xs) aj;exact⟨by rw [hall]; rfl,by rw [hall]; exact K1⟩
 refine jQ ?_;refine aZ ?_;obtain⟨k0,hk0,hkl⟩:∃ k0:Nat,idxOf p xs=(k0:Int)/\k0<xs.length:=⟨(idxOf p xs).toNat,aj,aj⟩;have aCf:=agd hk0;refine mP (t:=5) Y (aY (Value.int .i64) hk0)<|gD Y<|ev (eG Y Y)<|fE Y<|dF<|Lp (K1.rm U) (λl0 rk mJ lJ wJ=>∃(i j:Nat)(ys:V Int),lJ=(0,.slice A ys.length c)::(5,O ((i:Nat):Int))::(6,O ((j:Nat):Int))::l0/\mJ=xs.length - j/\(ys.length=xs.length)/\(i<j/\j<=xs.length)/\(ys.take i=(xs.take j).filter λx=>!p x)/\(ys.drop j=xs.drop j)/\Hp b S wJ (aR dN 3 A c ys::rk)) ⟨k0,(k0+1),xs,Y,Y,by rfl,aj,by exact aCf.1,by rfl,K1⟩ rfl ?_
 rintro _ _ w2 ⟨i,j,ys,rfl,rfl,hys,hij,htk,hdr,K2⟩;refine aZ<|gD Y<|mv Y<|ev (jf gq Y)<|ev (iH Y Y)<|dn<|o8 Y (λhc19=>?_) (λhc19=>?_)
 ·refine jQ ?_;refine aZ<|dF<|pC 3 Y ?_
  obtain⟨x1,bT⟩:=bH (xs:=ys) (i:=j) aj;refine ev (d9 (i:=j) gq wX Y Y Y (aP bT) ((K2.o U).some_ bT))<|ev (kG jF Y ((K2.o U).eZ (j:=0) bT Y))<|pB 5 Y<|KY Y Y Y qd (hd _ _ x1 (by first | exact hys | omega) K2) rfl ?_
  rintro _ w3 ⟨rfl,e3⟩;have K3:=K2.grow e3;refine pA 2 Y<|bS Y (λhc29=>?_) (λhc29=>?_)
  ·try simp only [aA] at hc29
   refine pC 4 Y ?_;obtain⟨x2,nE⟩:=bH (xs:=ys) (i:=i) aj;refine ev (d9 (i:=i) gq wX Y Y Y (aP nE) ((K3.o U).some_ nE))<|se (i:=i) (f:=0) (x:=x2) (x':=x1) (ds:=[O x1]) K3 U Y Y Y nE Y wX (nU Y) Y (by rintro _ _ _ ⟨⟩; rfl) λw4 K4=>?_
   have hl1:(ys.set i x1).length=ys.length:=iC ..;refine gZ (t:=0) (u:=.slice A ys.length c) (v:=.slice A ((ys.set i x1).length) c) Y (by rw [hl1])<|gZ (t:=17) (u:=.slice A ys.length c) (v:=.slice A ((ys.set i x1).length) c) rfl (by rw [hl1])<|gZ (t:=22) (u:=.slice A ys.length c) (v:=.slice A ((ys.set i x1).length) c) rfl (by rw [hl1])<|gZ (t:=30) (u:=.slice A ys.length c) (v:=.slice A ((ys.set i x1).length) c) rfl (by rw [hl1]) ?_
   have hx3:(ys.set i x1)[i]? = some x1:=u7 (aP nE);refine dn<|jN<|mv Y<|ev (eG Y Y)<|oJ Y<|jO<|iF (fV ?_)
   refine jN<|mv Y<|ev (eG Y Y)<|oJ Y<|jO<|dX ⟨(i+1),(j+1),(ys.set i x1),Y,Y,by first | exact hys | (rw [iC]; exact hys),aj,by first | exact(Gx hij.1 htk hdr bT (by simp [hc29])).1 | exact(Gy htk hdr bT (by simp [hc29])).1,by first | exact(Gx hij.1 htk hdr bT (by simp [hc29])).2 | exact(Gy htk hdr bT (by simp [hc29])).2,K4⟩ rfl aj
  try simp only [aA] at hc29
  refine Gw ?_;refine jN<|mv Y<|ev (eG Y Y)<|oJ Y<|jO<|dX ⟨i,(j+1),ys,Y,Y,by first | exact hys | (rw [iC]; exact hys),aj,by first | exact(Gx hij.1 htk hdr bT (by simp [hc29])).1 | exact(Gy htk hdr bT (by simp [hc29])).1,by first | exact(Gx hij.1 htk hdr bT (by simp [hc29])).2 | exact(Gy htk hdr bT (by simp [hc29])).2,K3⟩ rfl aj
 refine BU ?_;have hcap:ys.length<=c:=aj;have hil:(ys.take i).length=i:=by simp only [iX]; omega
 have hfin:ys.take i=xs.filter λx=>!p x:=by rw [htk,gY aj]
 refine mP (t:=5) (u:=O ((i:Nat):Int)) (v:=O (((ys.take i).length:Nat):Int)) Y (by rw [hil]) ?_;have H1:=K2.ajG (hi:=i) U aj;refine pC 3 Y<|ev (Jy (lo:=(ys.take i).length) gq wX Y Y Y (by first | omega | (simp only [iX]; omega)) hcap)<|aB3 (τ:=dN) (m:=ys.length - (ys.take i).length) H1 U rfl gq aCj (by simp only [iX]; omega) λw5 K5=>pB 4 rfl<|ev (Ev.ac4 (hi:=(ys.take i).length) gq wX rfl rfl rfl (by simp only [iX]; omega))<|fE rfl<|iU rfl ?_
 exact⟨by rw [<- hfin]; rfl,by rw [<- hfin]; exact K5⟩
def agx(w:World)(n:Int){aGL:Nat}(fr:Int)(aNh:Bx w aGL 3 [O fr]):bM prog 367 #[O n,fK aGL] w λv w'=>v=.bool (decide (n=fr))/\Hp w S0 w' []:=by
 refine lg S0 func367 ntmps367 Y λH0=>pC 5 Y<|ev (dU jF Y (aNh.ext H0.ext) Y)<|pA 3 Y<|iU Y ?_
 exact⟨Y,H0⟩
def ajY(w:World){A_h:ah}{c_h:Nat}{h:V Int}(h_h:Sl dN S0 w A_h c_h h)(fr:Int)(nZ:Int)(hn:h.length<=100000):bM prog 330 #[.slice A_h h.length c_h,O fr,O nZ] w λv w'=>∃ A0 c0,v=.slice A0 ((agw h fr nZ).length) c0/\Hp w S0 w' [aR dN 3 A0 c0 (agw h fr nZ)]:=by
 refine lg S0 func330 ntmps330 Y λH0=>?_;have aTH:=h_h.bI;refine rg<|bx Y Y H0 λg1 w1 K1=>pB 4 Y<|gu Y (sw _ (K1.a h_h).any aj) ?_
 rintro _ w2 ⟨qj,ql,rfl,h2⟩;have K2:=K1.f1 h2;refine ev (rZ Y)<|gu Y (oN (kd:=[fK g1]) (K2.sel U) aCA (λx9=>decide (x9=fr)) (λw9 ys x9 hl9 K9=>(agx (S0:=Any) w9 x9 fr (K9.x s1)).mono (by rintro _ w8 ⟨rfl,K8⟩; exact⟨rfl,K8.ext⟩)) aj) ?_
 rintro _ w3 ⟨rfl,K3⟩;refine fE Y ?_;have hfl:=mW (fun(x9:Int)=>!(decide (x9=fr))) h;refine pC 3 Y<|yV Y (by intro _; apply pI) rfl K3 (λ_ _=>rfl) λg2 w4 K4=>ap (ys:=([nZ]:V Int)) K4 s1 rfl rfl (K4.o U) gq LB aj av rfl λsQ sS w5 K5=>pB 4 rfl<|gu rfl (sorti Tryz.lays189 (K5.sel U) (by simp only [jH,oO,u6]; omega)) ?_
 rintro _ w6 ⟨rfl,K6⟩;have hl1:(((h.filter λx9=>!(decide (x9=fr)))++([nZ]:V Int)).mergeSort fun(x y:Int)=>decide (x<=y)).length=((h.filter λx9=>!(decide (x9=fr)))++([nZ]:V Int)).length:=MH _;refine gZ (t:=0) (u:=.slice sQ (((h.filter λx9=>!(decide (x9=fr)))++([nZ]:V Int)).length) sS) (v:=.slice sQ ((((h.filter λx9=>!(decide (x9=fr)))++([nZ]:V Int)).mergeSort fun(x y:Int)=>decide (x<=y)).length) sS) Y (by rw [hl1])<|gZ (t:=14) (u:=.slice sQ (((h.filter λx9=>!(decide (x9=fr)))++([nZ]:V Int)).length) sS) (v:=.slice sQ ((((h.filter λx9=>!(decide (x9=fr)))++([nZ]:V Int)).mergeSort fun(x y:Int)=>decide (x<=y)).length) sS) rfl (by rw [hl1])<|gZ (t:=15) (u:=.slice sQ (((h.filter λx9=>!(decide (x9=fr)))++([nZ]:V Int)).length) sS) (v:=.slice sQ ((((h.filter λx9=>!(decide (x9=fr)))++([nZ]:V Int)).mergeSort fun(x y:Int)=>decide (x<=y)).length) sS) rfl (by rw [hl1])<|pA 5 rfl<|iU rfl ?_
 have gy:((((h.filter λx9=>!(decide (x9=fr)))++([nZ]:V Int)).mergeSort fun(x y:Int)=>decide (x<=y)):V Int)=(agw h fr nZ):=by rfl
 rw [gy] at K6;exact⟨sQ,sS,by rw [gy] <;> rfl,(K6.cU 1 2)⟩
def agy(w:World)(jq:Sl bW S0 w jL jK l){agz:ah}{agA:Nat}{ids:V Int}(YT:Sl dN S0 w agz agA ids)(hn:l.length<=100000):bM prog 329 #[.slice jL l.length jK,.slice agz ids.length agA] w λv w'=>v=O ((UJ l ids:Nat):Int)/\Hp w S0 w' []:=by
 refine lg S0 func329 ntmps329 Y λH0=>?_;have Iz:=jq.bI;have aCC:=YT.bI;refine kX Y<|rg<|mks H0 Y λg1 w1 K1=>fE Y<|aZ<|gD Y<|ev (jf gq Y)<|mv Y<|dn<|dF ?_
 have gy:[]=(kY l (ids.take 0)):=by rfl
 rw [gy] at K1;refine Lp (K1.rm U) (λl0 rk mJ lJ wJ=>∃ k,lJ=(13,O ((k:Nat):Int))::l0/\mJ=ids.length - k/\k<=ids.length/\Hp w S0 wJ (ark g1 (kY l (ids.take k))::rk)) ⟨0,Y,Y,fI _,K1⟩ Y ?_;rintro _ _ w2 ⟨k,rfl,rfl,hk,K2⟩;refine rg<|ev (iH Y Y)<|dn<|r9 Y (λrR=>?_) (λrR=>?_)
 ·refine jQ ?_;refine aZ<|dF<|rg ?_
  obtain⟨x1,bT⟩:=bH (xs:=ids) (i:=k) aj;refine ev (d9 gq wX Y Y Y (aP bT) ((K2.a YT).some_ bT))<|ev (kG jF Y ((K2.a YT).eZ (j:=0) bT Y))<|pB 5 Y<|mX K2 Y (Fb _ (K2.a jq).any x1 aj) λw3 K3=>pq 3 Y<|al tT Y K3 λg2 w4 K4=>sty Y K4 U Y λw5 K5=>pA 5 Y<|bS Y (λuQ=>?_) (λuQ=>?_)
  ·refine jN<|mv Y<|jP g2 1 Rb K5 U Y<|aGr K5 s1 Y Y Y PY ig λw6 K6=>jO<|iF (fV ?_)
   refine jN<|ev (eG Y Y)<|mv Y<|jO ?_
   have gH:(Us (kY l (ids.take k)) ((gJ l x1).mY))=(kY l (ids.take (k+1))):=by rw [GD bT]; unfold abS; first | rw [aS uQ] | rw [aQ (by rw [uQ]; decide)]
   rw [gH] at K6;exact dX ⟨(k+1),Y,Y,aj,(K6.rm s1)⟩ rfl aj
  refine Gw ?_;refine jN<|ev (eG Y Y)<|mv Y<|jO ?_
  have kN:(kY l (ids.take k))=(kY l (ids.take (k+1))):=by rw [GD bT]; unfold abS; first | rw [aS uQ] | rw [aQ (by rw [uQ]; decide)]
  rw [kN] at K5;exact dX ⟨(k+1),Y,Y,aj,(K5.rm U)⟩ rfl aj
 refine BU ?_;refine gD Y<|ev (Ev.aM4 K2 U PY Y)<|fE Y<|iU Y ?_
 have nM:(((kY l (ids.take k))).length:Nat)=(UJ l ids):=by rw [gY aj]; rfl
 exact⟨by rw [nM] <;> rfl,(K2.rm U)⟩
def axO(w:World)(c:aH){Dq:ah}{CO:Nat}(IE:Sl dN S0 w Dq CO c.aD)(jq:Sl bW S0 w jL jK l)(fr:Int)(nZ:Int)(hn:l.length<=100000)(hh:c.aD.length<=100000):bM prog 258 #[.agg #[O c.ID,O c.E,gP c.Sum,.slice Dq c.aD.length CO],.slice jL l.length jK,O fr,O nZ] w λv w'=>v=.bool (BX c l fr nZ)/\Hp w S0 w' []:=by
 refine lg S0 func258 ntmps258 Y λH0=>rg<|bx Y Y H0 λg1 w1 K1=>fE Y<|He K1 (λ_ K=>K) (λl0 rk lJ wJ=>lJ=(8,.bool (BX c l fr nZ))::l0/\Hp w S0 wJ rk) (λhns H1=>?_) ?_
 ·refine mK 0 1 g1 3 kr U Y H1<|lF 2 Y Y H1<|O1 3 Y<|mX H1 Y (kJ _ (H1.a IE).any fr) λw2 K2=>aO K2<|lF 4 Y Y K2 ?_
  cases aTI:c.aD.contains fr with
  | true=>
   refine tgz 5 Y Y (λ_ _=>fq kr Y Y) K2<|tgz 6 Y Y (λ_ hK=>dU EX Y (hK.x U) Y) K2<|tgz 7 Y Y (λ_ _=>dP Y) K2<|O1 8 Y<|om Y Y Y Y agj (kJ _ (K2.a IE).any nZ) Y ?_
   rintro _ w3 ⟨rfl,h3⟩;have K3:=K2.c0 h3;refine aO K3<|tgz 9 Y Y (λ_ _=>wC Y) K3<|kI 10 Y (λ_ _=>oP Y Y) K3<|lF 11 Y Y K3 ?_
   cases adk:(!(c.aD.contains nZ)) with
   | true=>
    refine tgz 12 Y Y (λ_ _=>dP Y) K3<|tgz 13 Y Y (λ_ _=>fq kr Y Y) K3<|tgz 14 Y Y (λ_ hK=>dU EX Y (hK.x U) Y) K3<|tgz 15 Y Y (λ_ _=>dP Y) K3<|tgz 16 Y Y (λ_ _=>dP Y) K3<|tgz 19 Y Y (λ_ _=>dP Y) K3<|tgz 20 Y Y (λ_ _=>fq kr Y Y) K3<|tgz 21 Y Y (λ_ hK=>dU EX Y (hK.x U) Y) K3<|O1 17 Y<|om Y Y Y Y aCB (ajY _ (K3.a IE).any fr nZ aj) Y ?_
    rintro _ w4 ⟨sG,sH,rfl,h4⟩;have K4:=K3.f1 h4;have k1:=(K4.rm U);refine aO k1<|O1 18 Y<|om Y Y Y Y arL (agy _ (K4.a jq).any (K4.o U) aj) Y ?_
    rintro _ w5 ⟨rfl,h5⟩;have K5:=K4.c0 h5;have k2:=(K5.rm U);refine aO k2<|O1 22 Y<|om Y Y Y Y arL (agy _ (K5.a jq).any (K5.a IE).any aj) Y ?_
    rintro _ w6 ⟨rfl,h6⟩;have K6:=K5.c0 h6;have k3:=(K6.rm U);refine aO k3<|tgz 23 Y Y (λ_ _=>Ev.geq Y Y) k3<|kI 24 Y (λ_ _=>oP Y Y) k3<|xC 25 Y Y k3 ?_
    have gy:(decide (((UJ l c.aD:Nat):Int)<=((UJ l (agw c.aD fr nZ):Nat):Int)):Bool)=BX c l fr nZ:=by unfold BX; simp_all
    refine WH.re2 (t:=8) Y (aY Value.bool gy)<|Dn ⟨Y,(K6.rm U)⟩ Y
   | false=>
    refine N9 12 Y Y Y K3<|N9 13 Y Y Y K3<|N9 14 Y Y Y K3<|N9 15 Y Y Y K3<|N9 16 Y Y Y K3<|N9 19 Y Y Y K3<|N9 20 Y Y Y K3<|N9 21 Y Y Y K3<|O1 17 Y<|paz<|aO K3<|O1 18 Y<|paz<|aO K3<|O1 22 Y<|paz<|aO K3<|N9 23 Y Y Y K3<|kI 24 Y (λ_ _=>oU Y Y) K3<|xC 25 Y Y K3 ?_
    have gH:(false:Bool)=BX c l fr nZ:=by unfold BX; simp_all
    refine WH.re2 (t:=8) Y (aY Value.bool gH)<|Dn ⟨Y,K3⟩ Y
  | false=>
   refine N9 5 Y Y Y K2<|N9 6 Y Y Y K2<|N9 7 Y Y Y K2<|O1 8 Y<|paz<|aO K2<|N9 9 Y Y Y K2<|kI 10 Y (λ_ _=>oU Y Y) K2<|lF 11 Y Y K2<|N9 12 Y Y Y K2<|N9 13 Y Y Y K2<|N9 14 Y Y Y K2<|N9 15 Y Y Y K2<|N9 16 Y Y Y K2<|N9 19 Y Y Y K2<|N9 20 Y Y Y K2<|N9 21 Y Y Y K2<|O1 17 Y<|paz<|aO K2<|O1 18 Y<|paz<|aO K2<|O1 22 Y<|paz<|aO K2<|N9 23 Y Y Y K2 ?_
   refine kI 24 Y (λ_ _=>oU Y Y) K2<|xC 25 Y Y K2 ?_
   have kN:(false:Bool)=BX c l fr nZ:=by unfold BX; simp_all
   refine WH.re2 (t:=8) Y (aY Value.bool kN)<|Dn ⟨Y,K2⟩ Y
 rintro _ w7 ⟨rfl,K7⟩;refine iU Y ?_;exact⟨Y,(K7.rm U)⟩
def VZ(l:List Int):Int:=(l.find? (fun(x:Int)=>!decide (x=0))).getD 0
def aCD{l:V Int}{x:Int}(h:∀ y∈l.take k,y=0)(hx:l[k]? = some x)(h0:x≠0):VZ l=x:=by
 have hs:l=l.take k++x::l.drop (k+1):=by
  conv=>lhs; rw [<- Gp k l]
  rw [CF (aP hx),(rG.1 hx).2]
 unfold VZ;rw [hs,MS,EZ.2 (λy hy=>by simp [h y hy])]
 simp [h0]
def aCE{l:V Int}(h:∀ y∈l,y=0):VZ l=0:=by unfold VZ; rw [EZ.2 (λy hy=>by simp [h y hy])]; rfl
def toC(aX:List fJ)(a b:aT):Int:=VZ [bL (nX aX a.ID) (nX aX b.ID),bL a.ID b.ID]
def frC(aX:List fJ)(a b:aT):Int:=-(toC aX a b)
def MZ{aX:V fJ}{a b:aT}:toC aX a b<0↔nX aX a.ID<nX aX b.ID∨nX aX a.ID=nX aX b.ID/\a.ID<b.ID:=by
 unfold toC VZ
 by_cases h1:bL (nX aX a.ID) (nX aX b.ID)=0
 ·have h2:=zR.1 h1
  by_cases h3:bL a.ID b.ID=0
  ·have h4:=zR.1 h3
   simp [h1,h3]; omega
  ·simp [h1,h3,qK]; omega
 ·simp [h1,qK]
  have h2:nX aX a.ID≠nX aX b.ID:=λe=>h1 (zR.2 e);omega
def agB{aX:V fJ}{a b:aT}:toC aX b a=-(toC aX a b):=by
 have h:∀ x y:Int,bL y x=-(bL x y):=by intro x y; unfold bL; split <;> (try split) <;> (try split) <;> omega
 unfold toC VZ;rw [h (nX aX a.ID) (nX aX b.ID),h a.ID b.ID]
 by_cases h1:bL (nX aX a.ID) (nX aX b.ID)=0
 ·by_cases h3:bL a.ID b.ID=0 <;> simp [h1,h3]
 ·simp [h1]
def alV(x y:Int):-1<=bL x y/\bL x y<=1:=by unfold bL; split <;> (try split) <;> omega
def aCF(x y:Int)(h1:-1<=x/\x<=1)(h2:-1<=y/\y<=1):-1<=VZ [x,y]/\VZ [x,y]<=1:=by
 unfold VZ
 by_cases a:x=0
 ·by_cases b:y=0
  ·simp [a,b]
  ·simp [a,b]; omega
 ·simp [a]; omega
open Go.Sort in
def aCG(aX:V fJ):SWO (ltOf (toC aX)):=by
 refine⟨λx=>?_,λx y z h1 h2=>?_,λx y z h1 h2=>?_⟩
 ·simp only [ltOf,bV,MZ]; omega
 ·simp only [ltOf,bN,MZ] at h1 h2 ⊢; omega
 ·simp only [ltOf,bV,MZ] at h1 h2 ⊢; omega
open Go.Sort in
def aCH(aX:V fJ):SWO (ltOf (frC aX)):=by
 have e:∀ a b,frC aX a b=toC aX b a:=λa b=>agB.symm;refine⟨λx=>?_,λx y z h1 h2=>?_,λx y z h1 h2=>?_⟩
 ·simp only [ltOf,bV,e,MZ]; omega
 ·simp only [ltOf,bN,e,MZ] at h1 h2 ⊢; omega
 ·simp only [ltOf,bV,e,MZ] at h1 h2 ⊢; omega
def Rl(hu:Up aT.ID l){x y:aT}(hx:x∈l)(hy:y∈l)(h:x.ID=y.ID):x=y:=by
 obtain⟨i,hi⟩:=uq hx;obtain⟨j,hj⟩:=uq hy
 rcases adn i j with h1 | h1 | h1
 ·have:=hu.get h1 hi hj; omega
 ·subst h1; rw [hi] at hj; cases hj; rfl
 ·have:=hu.get h1 hj hi; omega
def axP{aX:V fJ}(hu:Up aT.ID l):∀ x∈l,∀ y∈l,¬ toC aX x y<0->¬ toC aX y x<0->x=y:=by
 intro x hx y hy h1 h2;rw [MZ] at h1 h2;exact Rl hu hx hy aj
def axQ{aX:V fJ}(hu:Up aT.ID l):∀ x∈l,∀ y∈l,¬ frC aX x y<0->¬ frC aX y x<0->x=y:=by
 intro x hx y hy h1 h2;have e:∀ a b,frC aX a b=toC aX b a:=λa b=>agB.symm;rw [e,MZ] at h1 h2;exact Rl hu hx hy aj
instance:Inhabited aT:=⟨⟨0,0,0,0⟩⟩
def LD(cf:aT->aT->Int)(l:List aT):List aT:=l.mergeSort λx y=>!decide (cf y x<0)
def vZ(xs ys:List aT):List (aT × aT):=xs.flatMap λx=>ys.map λy=>(x,y)
def aoz{j:Nat}{x y:aT}(hx:xs[k]? = some x)(hy:ys[j]? = some y):vZ (xs.take k) ys++(ys.take j).map (λy=>(x,y))++[(x,y)] <+: vZ xs ys:=by
 have hs:xs=xs.take k++x::xs.drop (k+1):=by
  conv=>lhs; rw [<- Gp k xs]
  rw [CF (aP hx),(rG.1 hx).2]
 have ht:ys=ys.take j++y::ys.drop (j+1):=by
  conv=>lhs; rw [<- Gp j ys]
  rw [CF (aP hy),(rG.1 hy).2]
 refine⟨(ys.drop (j+1)).map (λy=>(x,y))++vZ (xs.drop (k+1)) ys,?_⟩
 have h1:vZ xs ys=vZ (xs.take k) ys++(ys.map (λy=>(x,y))++vZ (xs.drop (k+1)) ys):=by
  conv=>lhs; rw [hs]
  simp [vZ]
 have h2:ys.map (λy=>(x,y))=(ys.take j).map (λy=>(x,y))++(x,y)::(ys.drop (j+1)).map (λy=>(x,y)):=by
  conv=>lhs; rw [ht]
  simp
 rw [h1,h2]; simp
def ajZ{x:aT}(hx:xs[k]? = some x):vZ (xs.take (k+1)) ys=vZ (xs.take k) ys++ys.map (λy=>(x,y)):=by
 rw [eO hx]; simp [vZ]
def P6:kW prog 131:=ay
def aj0:bC prog 142:=ay
def Fe(a0:Int)(a1:Int):∀ w,(Instr.buildSlice 46 2 (List.toArray [(0,O a0),(1,O a1)])).run prog w=.ok (.slice (some ⟨w.heap.size,0,none⟩) 2 2) (w.alloc (.cells (List.toArray [O a0,O a1]) 3)):=ay
def alW:∀ w,(zeroValue 33).run prog w=.ok (.slice none 0 0) w:=ay
def abT:kW prog 33:=ay
def aCI:bC prog 326:=ay
def aCJ:bC prog 327:=ay
def agC(w:World){arM:ah}{arN:Nat}{vals:V Int}(aj1:Sl dN S0 w arM arN vals):bM prog 255 #[.slice arM vals.length arN] w λv w'=>v=O (VZ vals)/\Hp w S0 w' []:=by
 refine lg S0 func255 ntmps255 Y λH0=>?_;have aLL:=aj1.bI;refine kX Y<|kX Y<|aZ<|gD Y<|ev (jf gq Y)<|mv Y<|dn<|dF<|Lp H0 (λl0 rk mJ lJ wJ=>∃ k,lJ=(8,O ((k:Nat):Int))::l0/\mJ=vals.length - k/\k<=vals.length/\(∀ y∈vals.take k,y=0)/\Hp w S0 wJ rk) ⟨0,Y,Y,fI _,av,H0⟩ rfl ?_
 rintro _ _ w1 ⟨k,rfl,rfl,hk,hno,K1⟩;refine rg<|ev (iH Y Y)<|dn<|r9 Y (λN8=>?_) (λN8=>?_)
 ·refine jQ ?_;refine aZ<|dF<|rg ?_
  obtain⟨x1,bT⟩:=bH (xs:=vals) (i:=k) aj;refine ev (d9 (i:=k) gq wX Y Y Y (aP bT) ((K1.a aj1).some_ bT))<|ev (kG jF Y ((K1.a aj1).eZ (j:=0) bT Y))<|pA 7 Y<|bS Y (λrR=>?_) (λrR=>?_)
  ·replace rR:=oL rR;refine gD Y<|fE Y<|jE (jM (gG (gG (jM (gG (uo Y ?_))))))
   have gy:(x1:Int)=(VZ vals):=by exact(aCD hno bT aj).symm
   exact⟨by rw [<- gy] <;> rfl,K1⟩
  replace rR:=oM rR;refine Gw ?_;refine jN<|ev (eG Y Y)<|mv Y<|jO<|dX ⟨(k+1),Y,Y,aj,by exact ug (q:=λy=>y=0) hno bT aj,K1⟩ rfl aj
 refine BU ?_;refine gD Y<|fE Y<|iU Y ?_
 exact⟨by rw [aCE (Mc hno aj)] <;> rfl,K1⟩
def aoA(w:World)(a:aT)(b:aT){aX:V fJ}(oC:Bx w JL 131 [.slice nu aX.length nk])(Ep:Sl nW S0 w nu nk aX):bM prog 326 #[.agg #[O a.ID,O a.mY,O a.lV,O a.fT],.agg #[O b.ID,O b.mY,O b.lV,O b.fT],fK JL] w λv w'=>v=O (frC aX a b)/\Hp w S0 w' []:=by
 refine lg S0 func326 ntmps326 Y λH0=>?_;have aGM:=Ep.bI;have hbd:=aCF (bL (nX aX a.ID) (nX aX b.ID)) (bL a.ID b.ID) (alV _ _) (alV _ _);refine rg<|bx Y Y H0 λg1 w1 K1=>bx Y Y K1 λg2 w2 K2=>fE Y<|He K2 (λ_ K=>K) (λl0 rk lJ wJ=>lJ=(5,O (-(VZ ([bL (nX aX a.ID) (nX aX b.ID),bL a.ID b.ID]:V Int))))::l0/\Hp w S0 wJ rk) (λhns H1=>?_) ?_
 ·refine kI 0 Y (λ_ hK=>dU P6 Y (oC.ext hK.ext) Y) H1<|mK 1 2 g1 0 mF s1 Y H1<|kI 4 Y (λ_ hK=>dU P6 Y (oC.ext hK.ext) Y) H1<|mK 5 6 g2 0 mF U Y H1<|mK 9 10 g1 0 mF s1 Y H1<|mK 11 12 g2 0 mF U Y H1<|O1 3 Y<|mX H1 Y (vM _ (H1.a Ep).any a.ID) λw3 K3=>aO K3<|O1 7 Y<|mX K3 Y (vM _ (K3.a Ep).any b.ID) λw4 K4=>aO K4<|O1 8 Y<|mX K4 Y (nV (S0:=Any) _ (nX aX a.ID) (nX aX b.ID)) λw5 K5=>aO K5<|O1 13 Y<|mX K5 Y (nV (S0:=Any) _ a.ID b.ID) λw6 K6=>aO K6<|O1 14 Y<|bsn (τ:=dN) (xs:=([bL (nX aX a.ID) (nX aX b.ID),bL a.ID b.ID]:V Int)) (vs:=[(0,O (bL (nX aX a.ID) (nX aX b.ID))),(1,O (bL a.ID b.ID))]) (css:=[[O (bL (nX aX a.ID) (nX aX b.ID))],[O (bL a.ID b.ID)]]) Y (by intro _; apply Fe) rfl rfl K6 (λ_ e=>⟨rfl,rfl,trivial⟩) λg3 w7 K7=>?_
  have k1:=(K7.rm U);refine aO k1<|O1 15 Y<|mX K7 Y (agC _ (K7.o U)) λw8 K8=>?_
  have k2:=(K8.rm U);refine aO k2<|kI 16 Y (λ_ _=>Ev.neg Y (xR aj aj)) k2<|xC 17 Y Y k2<|Dn ⟨Y,(K8.rm U)⟩ Y
 rintro _ w9 ⟨rfl,K9⟩;refine iU Y ?_;exact⟨by skip <;> rfl,K9.z⟩
abbrev arO(gX:List fJ)(iP xE:aT):=([bL (nX gX iP.ID) (nX gX xE.ID),bL iP.ID xE.ID]:List Int)
def aoB(w:World)(a:aT)(b:aT){aX:V fJ}(oC:Bx w JL 131 [.slice nu aX.length nk])(Ep:Sl nW S0 w nu nk aX):bM prog 327 #[.agg #[O a.ID,O a.mY,O a.lV,O a.fT],.agg #[O b.ID,O b.mY,O b.lV,O b.fT],fK JL] w λv w'=>v=O (toC aX a b)/\Hp w S0 w' []:=by
 refine lg S0 func327 ntmps327 Y λH0=>rg<|bx Y Y H0 λg1 w1 K1=>bx Y Y K1 λg2 w2 K2=>fE Y<|He K2 (λ_ K=>K) (λl0 rk lJ wJ=>lJ=(5,O (VZ (arO aX a b)))::l0/\Hp w S0 wJ rk) (λhns H1=>?_) ?_
 ·refine kI 0 Y (λ_ hK=>dU P6 Y (oC.ext hK.ext) Y) H1<|mK 1 2 g1 0 mF s1 Y H1<|kI 4 Y (λ_ hK=>dU P6 Y (oC.ext hK.ext) Y) H1<|mK 5 6 g2 0 mF U Y H1<|mK 9 10 g1 0 mF s1 Y H1<|mK 11 12 g2 0 mF U Y H1<|O1 3 Y<|mX H1 Y (vM _ (H1.a Ep).any a.ID) λw3 K3=>aO K3<|O1 7 Y<|mX K3 Y (vM _ (K3.a Ep).any b.ID) λw4 K4=>aO K4<|O1 8 Y<|mX K4 Y (nV (S0:=Any) _ (nX aX a.ID) (nX aX b.ID)) λw5 K5=>aO K5<|O1 13 Y<|mX K5 Y (nV (S0:=Any) _ a.ID b.ID) λw6 K6=>aO K6<|O1 14 Y<|bsn (τ:=dN) (xs:=(arO aX a b)) (vs:=[(0,O (bL (nX aX a.ID) (nX aX b.ID))),(1,O (bL a.ID b.ID))]) (css:=[[O (bL (nX aX a.ID) (nX aX b.ID))],[O (bL a.ID b.ID)]]) Y (by intro _; apply Fe) rfl rfl K6 (λ_ e=>⟨rfl,rfl,trivial⟩) λg3 w7 K7=>?_
  have k1:=(K7.rm U);refine aO k1<|O1 15 Y<|mX K7 Y (agC _ (K7.o U)) λw8 K8=>?_
  have k2:=(K8.rm U);refine aO k2<|xC 16 Y Y k2<|Dn ⟨Y,(K8.rm U)⟩ Y
 rintro _ w9 ⟨rfl,K9⟩;refine iU Y ?_;exact⟨by skip <;> rfl,K9.z⟩
def arP(w:World)(jq:Sl bW S0 w jL jK l){aX:V fJ}(oC:Sl nW S0 w nu nk aX)(hn:l.length<=100000)(hu:Up aT.ID l):bM prog 257 #[.slice jL l.length jK,.slice nu aX.length nk] w λv w'=>∃ agD aGN aGO agE jT jU,v=.func (.func 328) #[] #[fK agD,fK agE]/\Hp w S0 w' [dJ agD 33 [.slice aGN ((LD (frC aX) l).length) aGO],dJ agE 33 [.slice jT ((LD (toC aX) l).length) jU],aR bW 72 aGN aGO (LD (frC aX) l),aR bW 72 jT jU (LD (toC aX) l)]:=by
 refine lg S0 func257 ntmps257 Y λH0=>rg<|bx Y Y H0 λg1 w1 K1=>pB 4 Y<|gu Y (ni _ (K1.a jq).any aj) ?_
 rintro _ w2 ⟨qj,ql,rfl,h2⟩;have K2:=K1.f1 h2;refine mv Y<|gu Y (ni _ (K2.a jq).any aj) ?_
 rintro _ w3 ⟨rE,rF,rfl,h3⟩;have K3:=K2.f1 h3;refine al alW Y K3 λg2 w4 K4=>al alW Y K4 λg3 w5 K5=>xD Y K5 s1 Y λw6 K6=>xD Y K6 s1 Y λw7 K7=>dn<|rg<|lY K7 s1 Y<|ev (rZ Y)<|gu Y (aAu Tryz.laysF6 AJ.1 xU (aCH aX) (K7.sel s3) aCI aj (axQ hu) (λw9 ys hl9 K9 x9 y9=>(aoA w9 x9 y9 (K9.x s4) (K9.a oC).any).mono (by rintro _ w8 ⟨rfl,K8⟩; exact⟨rfl,K8.ext⟩))) ?_
 rintro _ w8 ⟨rfl,K8⟩;refine dn<|rg<|lY K8 s1 Y<|ev (rZ Y)<|gu Y (aAu Tryz.laysF6 AJ.1 xU (aCG aX) (K8.sel s3) aCJ aj (axP hu) (λw9 ys hl9 K9 x9 y9=>(aoB w9 x9 y9 (K9.x s4) (K9.a oC).any).mono (by rintro _ w8 ⟨rfl,K8⟩; exact⟨rfl,K8.ext⟩))) ?_
 rintro _ w9 ⟨rfl,K9⟩;refine dn<|rg<|ev (rZ Y)<|fE Y<|iU Y ?_
 have hl1:(LD (frC aX) l).length=l.length:=MH _;have hl2:(LD (toC aX) l).length=l.length:=MH _;have H1:Hp w S0 w9 [aR bW 72 rE rF (LD (toC aX) l),aR bW 72 qj ql (LD (frC aX) l),dJ g3 33 [.slice rE ((LD (toC aX) l).length) rF],dJ g2 33 [.slice qj ((LD (frC aX) l).length) ql],dJ g1 131 [.slice nu aX.length nk]]:=by rw [hl1,hl2]; exact K9
 exact⟨g2,qj,ql,g3,rE,rF,Y,(((((H1.rm s4).sel U).sel s1).sel s2).sel s3)⟩
def agF{b:World}{gp1 gp2:Nat}{A_1 A_2:ah}{c_1 c_2:Nat}(hn1:xs.length<=1000000)(hn2:ys.length<=1000000):Iter prog 328 [fK gp1,fK gp2] (fun(x:aT × aT)=>[.agg #[O x.1.ID,O x.1.mY,O x.1.lV,O x.1.fT],.agg #[O x.2.ID,O x.2.mY,O x.2.lV,O x.2.fT]]) (vZ xs ys) b S [dJ gp1 33 [.slice A_1 xs.length c_1],dJ gp2 33 [.slice A_2 ys.length c_2],aR bW 72 A_1 c_1 xs,aR bW 72 A_2 c_2 ys]:=by
 intro lr Jf Jx w F0 H0 h0 hY;refine WP.ajI func328 Y ntmps328 Y ?_;have K0:=vg (F:=F0) H0;refine rg<|lY K0 U Y<|pA 3 Y<|dF<|qh (λmJ lJ wJ=>∃(k:Nat)(F:V kF),lJ=[(0,.func (.yield lr) #[] #[]),(2,fK gp2),(8,.slice A_1 xs.length c_1),(9,O ((xs.length:Nat):Int)),(10,O ((k:Nat):Int))]/\mJ=xs.length - k/\k<=xs.length/\(Jf (vZ (xs.take k) ys) F)/\Hp b S wJ (dJ gp1 33 [.slice A_1 xs.length c_1]::dJ gp2 33 [.slice A_2 ys.length c_2]::aR bW 72 A_1 c_1 xs::aR bW 72 A_2 c_2 ys::F)) ⟨0,F0,Y,Y,fI _,by simpa [vZ] using h0,K0⟩ rfl ?_
 rintro _ _ w1 ⟨k,F,rfl,rfl,hk,hJt,K1⟩;refine rg<|ev (iH Y Y)<|dn<|r9 Y (λzG=>?_) (λzG=>?_)
 ·refine jQ ?_;refine aZ<|dF<|rg ?_
  obtain⟨x1,bT⟩:=bH (xs:=xs) (i:=k) aj;refine ev (d9 (i:=k) qm xU Y Y Y (aP bT) ((K1.o s2).some_ bT))<|ev (iR AJ Y Y ((K1.o s2).fF bT))<|al tT Y K1 λg1 w2 K2=>sty Y K2 U Y λw3 K3=>dn<|rg<|lY K3 s2 Y<|pA 3 Y<|dF<|qh (λmJ lJ wJ=>∃(k2:Nat)(F2:V kF),lJ=[(0,.func (.yield lr) #[] #[]),(2,fK gp2),(5,fK g1),(8,.slice A_1 xs.length c_1),(9,O ((xs.length:Nat):Int)),(10,O ((k:Nat):Int)),(14,.slice A_2 ys.length c_2),(15,O ((ys.length:Nat):Int)),(16,O ((k2:Nat):Int))]/\mJ=ys.length - k2/\k2<=ys.length/\(Jf (vZ (xs.take k) ys++(ys.take k2).map (λy=>(x1,y))) F2)/\Hp b S wJ (dJ g1 72 [O x1.ID,O x1.mY,O x1.lV,O x1.fT]::dJ gp1 33 [.slice A_1 xs.length c_1]::dJ gp2 33 [.slice A_2 ys.length c_2]::aR bW 72 A_1 c_1 xs::aR bW 72 A_2 c_2 ys::F2)) ⟨0,F,Y,Y,fI _,by simpa using hJt,K3⟩ rfl ?_
  rintro _ _ w4 ⟨k2,F2,rfl,rfl,hk2,aCK,K4⟩;refine rg<|ev (iH Y Y)<|dn<|r9 Y (λhc17=>?_) (λhc17=>?_)
  ·refine jQ ?_;refine aZ<|dF<|rg ?_
   obtain⟨x2,nE⟩:=bH (xs:=ys) (i:=k2) aj;refine ev (d9 qm xU Y Y Y (aP nE) ((K4.o s4).some_ nE))<|ev (iR AJ Y Y ((K4.o s4).fF nE))<|al tT Y K4 λg2 w5 K5=>sty Y K5 U Y λw6 K6=>dn<|gD Y<|ev (fA AJ Y Y (K6.x s1))<|ev (fA AJ Y Y (K6.x U)) ?_
   have hy1:=hY (vZ (xs.take k) ys++(ys.take k2).map (λy=>(x1,y))) (x1,x2) _ _ [dJ g2 72 [O x2.ID,O x2.mY,O x2.lV,O x2.fT],dJ g1 72 [O x1.ID,O x1.mY,O x1.lV,O x1.fT]] aCK (aoz bT nE) (vg ((K6.mV 0 2).mV 2 4));refine WL.yield trivial Y Y hy1 (by rintro e w' (⟨rfl,_⟩ | ⟨rfl,_⟩) <;> exact⟨_,rfl⟩) rfl rfl rfl ?_;rintro v w7 (⟨hv,F1,hJ1,K7⟩ | ⟨hv,F1,hJ1,K7⟩)
   ·cases hv
    have K7c:=vg K7;refine pA 2 Y<|bS Y nofun (λ_h=>?_)
    refine Gw ?_;refine jN<|ev (eG Y Y)<|mv Y<|jO<|dX ⟨(k2+1),F1,Y,Y,aj,by rw [eO nE,sU,<- o9]; assumption,(((K7c.rm s4).mV 0 4).sel s4)⟩ rfl aj
   ·cases hv
    have K7c:=vg K7;refine pA 2 Y<|bS Y (λ_h=>?_) nofun
    exact jE (jM (gG (gG (jM (jM (gG (gG (jM (l7.an7 Y ⟨⟨_,Y⟩,.inr ⟨_,_,hJ1,(vg (K7c.cU 4 2))⟩⟩)))))))))
  refine tu (mG (mG (tZ (iF (fV ?_)))));refine jN<|ev (eG Y Y)<|mv Y<|jO<|dX ⟨(k+1),F2,Y,Y,aj,by rw [ajZ bT]; rw [gY (show ys.length<=k2 by omega)] at aCK; exact aCK,(K4.rm U)⟩ rfl aj
 exact tu (mG (mG (tZ (l7.aq1 (l7.an7 Y ⟨⟨_,Y⟩,.inl ⟨_,by rw [gY aj] at hJt; exact hJt,(vg K1)⟩⟩)))))
end
end Go.Proofs.YthcmboepffiliaaGreat
