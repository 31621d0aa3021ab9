/- Lemmas. -/
import Derived.Test.YtlhnnmlenkahlaaGreatvG5
set_option maxRecDepth 4000
set_option linter.all false
namespace Go.Proofs.YtlhnnmlenkahlaaGreat
open Go.RowKit Go.Proofs.Tryz
def UG:=@Nat.lt_trichotomy
def Zp:=@List.mem_or_eq_of_mem_set
def Zq:=@List.mem_of_mem_drop
def afc:=@List.eraseIdx_sublist
variable {l:List aI}{id most sum bq bM j:Int}{f:aI->aI × Int}{c:aI}{α:Type}{i jg:Nat}{S S0:Nat->Prop}{F:List lC}{A jl:ah}{ks:List bE}{k:bE}{h:List Int}
theorem UH:kW prog 57:=ay
theorem Kt:dH prog 59 2 2:=ay
theorem ag4:Size prog 57 1:=ay
theorem alH:bI prog 420:=ay
theorem aub:bI prog 418:=ay
theorem auc:bI prog 419:=ay
theorem aud:bI prog 422:=ay
theorem aue:Zo 421 444 445 55 3 1 8 Tryz.f421.name:=⟨func421.trans (aS some ak),⟨_,func444,ak,ak,ak,ak⟩,fq,iw,sZ,ak,KY,at6⟩
def Zr:=@MB _ _ _ _ _ _ _ _ dL aue
def dz(sum:Int)(c:aI):aI × Int:=if 1073741824<=c.aC then(c,7) else({ c with aC:=c.aC+1,Sum:=sum,aF:=[] },0)
def uF(bq bM:Int)(c:aI):aI × Int:=if bM≠c.aC then(c,9) else if hits (fun(y:Int)=>bn y bq) c.aF=true then(c,6) else({ c with aF:=c.aF.take (low (fun(y:Int)=>bn y bq) c.aF)++[bq]++c.aF.drop (low (fun(y:Int)=>bn y bq) c.aF) },0)
def jZ(bq:Int)(c:aI):aI × Int:=if hits (fun(y:Int)=>bn y bq) c.aF=true then({ c with aF:=c.aF.take (low (fun(y:Int)=>bn y bq) c.aF)++c.aF.drop (low (fun(y:Int)=>bn y bq) c.aF+1) },0) else(c,5)
theorem NK(ks:List bE):(ks.map bE.c).length=ks.length:=jN _
def gy(l:List aI)(id:Int)(f:aI->aI × Int):List aI × Int:=
  if hits (fun(y:aI)=>bn y.ID id) (dG l)=true then
    match (dG l)[low (fun(y:aI)=>bn y.ID id) (dG l)]? with
    | some c=>if(f c).2=0 then((dG l).set (low (fun(y:aI)=>bn y.ID id) (dG l)) (f c).1,0) else([],(f c).2)
    | none=>([],5)
  else([],5)
theorem SB(h:hits (fun(y:aI)=>bn y.ID id) (dG l)=true)(hc:(dG l)[low (fun(y:aI)=>bn y.ID id) (dG l)]? = some c) :
    gy l id f=if(f c).2=0 then((dG l).set (low (fun(y:aI)=>bn y.ID id) (dG l)) (f c).1,0) else([],(f c).2):=by
  unfold gy; rw [aO h,hc]
theorem ag5(h:hits (fun(y:aI)=>bn y.ID id) (dG l)=false):gy l id f=([],5):=by
  unfold gy; rw [aK (by rw [h]; decide)]
theorem F8:∀(l:List Int)(z:Int),nC most z l=true->l=[]∨(l.length:Int)<=most+1 - z
  | [],_,_=>.inl rfl
  | y::l,z,h=>by
    simp only [nC,bK,eu,dN,bU] at h
    right
    rcases F8 l _ h.2 with rfl | h1
    · simp; omega
    · simp only [oI]; omega
theorem rV(h:pF c=true):1<=c.aC/\c.aC<=1073741824/\nC 16 1 c.aF=true:=by
  simp only [pF,eu,dN,bU,fC] at h
  exact⟨aj,aj,h.2⟩
theorem NM(h:pF c=true):c.aF.length<=16:=by
  rcases F8 _ _ (rV h).2.2 with h1 | h1
  · rw [h1]; simp
  · omega
theorem NP(h:pF c=true):Up (fun(x:Int)=>x) c.aF:=BQ _ _ (rV h).2.2
theorem EZ{l:List α}{x:α}(h:l[i]? = some x):l.set i x=l:=by
  apply EB; intro j
  by_cases e:i=j
  · subst e; rw [pQ (aJ h),h]
  · rw [CJ e]
def axD(w:World)(f:FuncId)(kf:List Value)(dof:aI->aI × Int):Prop:=
  ∀(S:Nat->Prop)(w':World)(F:List lC)(A:ah)(c:Nat)(ks:List bE)(i:Nat)(k:bE),Hp w S w' (aR tK 59 A c ks::fD dL 3 (ks.map qg)::F)->ks[i]? = some k->pF k.c=true->
    bO prog f (([.pointer (some ((ET A).add (i*4)))]:List Value)++kf).toArray w' λv w''=>∃ k':bE,k'.c=(dof k.c).1/\v=.int .i64 (dof k.c).2/\Hp w S w'' (aR tK 59 A c (ks.set i k')::fD dL 3 ((ks.set i k').map qg)::F)
theorem X9(l:List aI):∀ x∈dG l,pF x=true:=(mQ.1 (xK l)).1
theorem ai5{b w:World}{c:Nat}{asI:Nat}(axE:Bx b asI 57 [.int .u32 sum])(H0:Hp b S w (aR tK 59 A c ks::fD dL 3 (ks.map qg)::F))(hx:ks[i]? = some k)(ho:pF k.c=true) :
    bO prog 418 #[.pointer (some ((ET A).add (i*4))),.pointer (some ⟨asI,0,none⟩)] w λv w'=>∃ k':bE,k'.c=(dz sum k.c).1/\v=.int .i64 (dz sum k.c).2/\Hp b S w' (aR tK 59 A c (ks.set i k')::fD dL 3 ((ks.set i k').map qg)::F):=by
 refine sF func418 ntmps418 Y ?_;have hr:(ks.map qg)[i]? = some (k.B,k.d,k.c.aF):=by rw [kI,hx]; rfl
 have H1:=(H0.zM s1 hr).sel s0;have hlen:=NM ho;have hup:=(NP ho);have axF:=rV ho;refine iY Y<|aZ<|bQ Y<|ev (dS Y)<|ev (eF tu Y (gI _ _ _))<|ev (jq jG Y ((H1.o s2).fZ (j:=1) hx Y))<|ev (pK Y Y)<|dn<|bR Y (λhc8=>?_) (λhc8=>?_)
 ·replace hc8:=jC hc8;refine iY Y<|vG Y ?_
  have hd:dz sum k.c=(k.c,7):=by exact aO hc8
  have hs:ks=ks.set i k:=(EZ hx).symm;have KZ:=((((H1.mV 0 2).sel s2)).Bo hr s1 s1).sel s1;exact⟨k,(aS Prod.fst hd).symm,aS (Value.int .i64) (aS Prod.snd hd).symm,by rw [CS,<- hs]; exact KZ⟩
 replace hc8:=kg hc8;refine jh ?_;refine bQ Y<|ev (dS Y)<|ev (eF tu Y (gI _ _ _))<|ev (jq jG Y ((H1.o s2).fZ (j:=1) hx Y))<|ev (Ev.add Y Y (vM aj aj))<|ev (dS Y)<|ev (eF tu Y (gI _ _ _))<|se (i:=i) (f:=1) (x:=k) (x':=(⟨{ k.c with aC:=k.c.aC+1 },k.B,k.d⟩:bE)) (ds:=[.int .i64 (k.c.aC+1)]) H1 s2 Y Y Y hx Y sZ (oJ Y) Y (by rintro _ _ _ ⟨⟩; rfl) λw1 K1=>?_
 have hl1:(ks.set i (⟨{ k.c with aC:=k.c.aC+1 },k.B,k.d⟩:bE)).length=ks.length:=fQ ..;have bP:(ks.set i (⟨{ k.c with aC:=k.c.aC+1 },k.B,k.d⟩:bE))[i]? = some (⟨{ k.c with aC:=k.c.aC+1 },k.B,k.d⟩:bE):=pQ (aJ hx);refine dn<|bQ Y<|mv Y<|ev (cu UH Y (axE.ext K1.ext) Y)<|ev (dS Y)<|ev (eF Kt Y (gI _ _ _))<|se (i:=i) (f:=2) (x:=(⟨{ k.c with aC:=k.c.aC+1 },k.B,k.d⟩:bE)) (x':=(⟨{ (⟨{ k.c with aC:=k.c.aC+1 },k.B,k.d⟩:bE).c with Sum:=sum },(⟨{ k.c with aC:=k.c.aC+1 },k.B,k.d⟩:bE).B,(⟨{ k.c with aC:=k.c.aC+1 },k.B,k.d⟩:bE).d⟩:bE)) (ds:=[.int .u32 sum]) K1 s0 Y Y Y bP Y ag4 (oJ Y) Y (by rintro _ _ _ ⟨⟩; rfl) λw2 K2=>?_
 have hl2:((ks.set i (⟨{ k.c with aC:=k.c.aC+1 },k.B,k.d⟩:bE)).set i (⟨{ (⟨{ k.c with aC:=k.c.aC+1 },k.B,k.d⟩:bE).c with Sum:=sum },(⟨{ k.c with aC:=k.c.aC+1 },k.B,k.d⟩:bE).B,(⟨{ k.c with aC:=k.c.aC+1 },k.B,k.d⟩:bE).d⟩:bE)).length=(ks.set i (⟨{ k.c with aC:=k.c.aC+1 },k.B,k.d⟩:bE)).length:=fQ ..;have kK:((ks.set i (⟨{ k.c with aC:=k.c.aC+1 },k.B,k.d⟩:bE)).set i (⟨{ (⟨{ k.c with aC:=k.c.aC+1 },k.B,k.d⟩:bE).c with Sum:=sum },(⟨{ k.c with aC:=k.c.aC+1 },k.B,k.d⟩:bE).B,(⟨{ k.c with aC:=k.c.aC+1 },k.B,k.d⟩:bE).d⟩:bE))[i]? = some (⟨{ (⟨{ k.c with aC:=k.c.aC+1 },k.B,k.d⟩:bE).c with Sum:=sum },(⟨{ k.c with aC:=k.c.aC+1 },k.B,k.d⟩:bE).B,(⟨{ k.c with aC:=k.c.aC+1 },k.B,k.d⟩:bE).d⟩:bE):=pQ (aJ bP);refine ev (dS Y)<|ev (eF kD Y (gI _ _ _))<|se (i:=i) (f:=3) (x:=(⟨{ (⟨{ k.c with aC:=k.c.aC+1 },k.B,k.d⟩:bE).c with Sum:=sum },(⟨{ k.c with aC:=k.c.aC+1 },k.B,k.d⟩:bE).B,(⟨{ k.c with aC:=k.c.aC+1 },k.B,k.d⟩:bE).d⟩:bE)) (x':=(⟨{ (⟨{ (⟨{ k.c with aC:=k.c.aC+1 },k.B,k.d⟩:bE).c with Sum:=sum },(⟨{ k.c with aC:=k.c.aC+1 },k.B,k.d⟩:bE).B,(⟨{ k.c with aC:=k.c.aC+1 },k.B,k.d⟩:bE).d⟩:bE).c with aF:=[] },none,0⟩:bE)) (ds:=[.slice none 0 0]) K2 s0 Y Y Y kK Y NH (oJ Y) Y (by rintro _ _ _ ⟨⟩; rfl) λw3 K3=>?_
 have hl3:(((ks.set i (⟨{ k.c with aC:=k.c.aC+1 },k.B,k.d⟩:bE)).set i (⟨{ (⟨{ k.c with aC:=k.c.aC+1 },k.B,k.d⟩:bE).c with Sum:=sum },(⟨{ k.c with aC:=k.c.aC+1 },k.B,k.d⟩:bE).B,(⟨{ k.c with aC:=k.c.aC+1 },k.B,k.d⟩:bE).d⟩:bE)).set i (⟨{ (⟨{ (⟨{ k.c with aC:=k.c.aC+1 },k.B,k.d⟩:bE).c with Sum:=sum },(⟨{ k.c with aC:=k.c.aC+1 },k.B,k.d⟩:bE).B,(⟨{ k.c with aC:=k.c.aC+1 },k.B,k.d⟩:bE).d⟩:bE).c with aF:=[] },none,0⟩:bE)).length=((ks.set i (⟨{ k.c with aC:=k.c.aC+1 },k.B,k.d⟩:bE)).set i (⟨{ (⟨{ k.c with aC:=k.c.aC+1 },k.B,k.d⟩:bE).c with Sum:=sum },(⟨{ k.c with aC:=k.c.aC+1 },k.B,k.d⟩:bE).B,(⟨{ k.c with aC:=k.c.aC+1 },k.B,k.d⟩:bE).d⟩:bE)).length:=fQ ..;have hx3:(((ks.set i (⟨{ k.c with aC:=k.c.aC+1 },k.B,k.d⟩:bE)).set i (⟨{ (⟨{ k.c with aC:=k.c.aC+1 },k.B,k.d⟩:bE).c with Sum:=sum },(⟨{ k.c with aC:=k.c.aC+1 },k.B,k.d⟩:bE).B,(⟨{ k.c with aC:=k.c.aC+1 },k.B,k.d⟩:bE).d⟩:bE)).set i (⟨{ (⟨{ (⟨{ k.c with aC:=k.c.aC+1 },k.B,k.d⟩:bE).c with Sum:=sum },(⟨{ k.c with aC:=k.c.aC+1 },k.B,k.d⟩:bE).B,(⟨{ k.c with aC:=k.c.aC+1 },k.B,k.d⟩:bE).d⟩:bE).c with aF:=[] },none,0⟩:bE))[i]? = some (⟨{ (⟨{ (⟨{ k.c with aC:=k.c.aC+1 },k.B,k.d⟩:bE).c with Sum:=sum },(⟨{ k.c with aC:=k.c.aC+1 },k.B,k.d⟩:bE).B,(⟨{ k.c with aC:=k.c.aC+1 },k.B,k.d⟩:bE).d⟩:bE).c with aF:=[] },none,0⟩:bE):=pQ (aJ kK);refine dn<|iY Y<|iI Y ?_
 have H1:=K3.nil dL 3;have hd:dz sum k.c=((⟨{ (⟨{ (⟨{ k.c with aC:=k.c.aC+1 },k.B,k.d⟩:bE).c with Sum:=sum },(⟨{ k.c with aC:=k.c.aC+1 },k.B,k.d⟩:bE).B,(⟨{ k.c with aC:=k.c.aC+1 },k.B,k.d⟩:bE).d⟩:bE).c with aF:=[] },none,0⟩:bE).c,0):=by exact aK hc8
 have hs:(((ks.set i (⟨{ k.c with aC:=k.c.aC+1 },k.B,k.d⟩:bE)).set i (⟨{ (⟨{ k.c with aC:=k.c.aC+1 },k.B,k.d⟩:bE).c with Sum:=sum },(⟨{ k.c with aC:=k.c.aC+1 },k.B,k.d⟩:bE).B,(⟨{ k.c with aC:=k.c.aC+1 },k.B,k.d⟩:bE).d⟩:bE)).set i (⟨{ (⟨{ (⟨{ k.c with aC:=k.c.aC+1 },k.B,k.d⟩:bE).c with Sum:=sum },(⟨{ k.c with aC:=k.c.aC+1 },k.B,k.d⟩:bE).B,(⟨{ k.c with aC:=k.c.aC+1 },k.B,k.d⟩:bE).d⟩:bE).c with aF:=[] },none,0⟩:bE))=ks.set i (⟨{ (⟨{ (⟨{ k.c with aC:=k.c.aC+1 },k.B,k.d⟩:bE).c with Sum:=sum },(⟨{ k.c with aC:=k.c.aC+1 },k.B,k.d⟩:bE).B,(⟨{ k.c with aC:=k.c.aC+1 },k.B,k.d⟩:bE).d⟩:bE).c with aF:=[] },none,0⟩:bE):=(by simp only [List.set_set]);have KZ:=(((((H1.rm s2).sel s0).sel s1)).Bo hr s1 s1).sel s1;exact⟨(⟨{ (⟨{ (⟨{ k.c with aC:=k.c.aC+1 },k.B,k.d⟩:bE).c with Sum:=sum },(⟨{ k.c with aC:=k.c.aC+1 },k.B,k.d⟩:bE).B,(⟨{ k.c with aC:=k.c.aC+1 },k.B,k.d⟩:bE).d⟩:bE).c with aF:=[] },none,0⟩:bE),(aS Prod.fst hd).symm,aS (Value.int .i64) (aS Prod.snd hd).symm,by rw [CS,<- hs]; exact KZ⟩
theorem ai6{b w:World}{c:Nat}{CX:Nat}(Jc:Bx b CX 3 [.int .i64 bq]){Ya:Nat}(ai7:Bx b Ya 3 [.int .i64 bM])(H0:Hp b S w (aR tK 59 A c ks::fD dL 3 (ks.map qg)::F))(hx:ks[i]? = some k)(ho:pF k.c=true) :
    bO prog 419 #[.pointer (some ((ET A).add (i*4))),.pointer (some ⟨CX,0,none⟩),.pointer (some ⟨Ya,0,none⟩)] w λv w'=>∃ k':bE,k'.c=(uF bq bM k.c).1/\v=.int .i64 (uF bq bM k.c).2/\Hp b S w' (aR tK 59 A c (ks.set i k')::fD dL 3 ((ks.set i k').map qg)::F):=by
 refine sF func419 ntmps419 Y ?_;have hr:(ks.map qg)[i]? = some (k.B,k.d,k.c.aF):=by rw [kI,hx]; rfl
 have H1:=(H0.zM s1 hr).sel s0;have hlen:=NM ho;have hup:=(NP ho);have axF:=rV ho;have hlow:=CF (fun(y:Int)=>bn y bq) k.c.aF;refine iY Y<|qo ak ak<|bD (bA Y) Y<|bD (dS Y) Y<|bD (eF kD Y (gI _ _ _)) Y<|bD (jq CQ Y ((H1.o s2).fZ (j:=3) hx Y)) Y<|bD (cu jG Y (Jc.ext H1.ext) Y) Y<|IU (v:=.tuple #[.int .i64 ((low (fun(y:Int)=>bn y bq) k.c.aF:Nat):Int),.bool (hits (fun(y:Int)=>bn y bq) k.c.aF)]) Y Y Y alH (λwq eq=>(LB wq ((H1.o s0).ext eq) bq (Up.mono (key:=fun(x:Int)=>x) hup bq) aj).mono (by rintro _ _ ⟨rfl,fG⟩; exact⟨rfl,fG.ext⟩)) rfl<|bD (bA rfl) rfl<|bD (vN (vs:=[.int .i64 ((low (fun(y:Int)=>bn y bq) k.c.aF:Nat):Int),.bool (hits (fun(y:Int)=>bn y bq) k.c.aF)]) rfl rfl) rfl<|bD (vN (vs:=[.int .i64 ((low (fun(y:Int)=>bn y bq) k.c.aF:Nat):Int),.bool (hits (fun(y:Int)=>bn y bq) k.c.aF)]) rfl rfl) rfl<|bD (nP rfl) rfl<|bD (nP rfl) rfl<|qp λw1 e1=>?_
 have K1:=H1.grow e1;refine aZ<|cZ<|qo ak ak<|bD (cu jG Y (ai7.ext K1.ext) Y) Y<|bD (bA Y) Y<|bD (dS Y) Y<|bD (eF tu Y (gI _ _ _)) Y<|bD (jq jG Y ((K1.o s2).fZ (j:=1) hx Y)) Y<|bD (rz Y Y) Y<|bD (nP Y) Y<|qp λw2 e2=>?_
 have K2:=K1.grow e2;refine bR Y (λhc16=>?_) (λhc16=>?_)
 ·replace hc16:=nS hc16;refine iY Y<|LA Y ?_
  have hd:uF bq bM k.c=(k.c,9):=by exact aO (by simpa using hc16)
  have hs:ks=ks.set i k:=(EZ hx).symm;have KZ:=((((K2.mV 0 2).sel s2)).Bo hr s1 s1).sel s1;exact⟨k,(aS Prod.fst hd).symm,aS (Value.int .i64) (aS Prod.snd hd).symm,by rw [CS,<- hs]; exact KZ⟩
 replace hc16:=nT hc16;refine bQ Y<|bS Y<|bR Y (λsG=>?_) (λsG=>?_)
 ·refine iY Y<|LA Y ?_
  have hd:uF bq bM k.c=(k.c,6):=by exact(aK (by simpa using hc16)).trans (aO sG)
  have hs:ks=ks.set i k:=(EZ hx).symm;have KZ:=((((K2.mV 0 2).sel s2)).Bo hr s1 s1).sel s1;exact⟨k,(aS Prod.fst hd).symm,aS (Value.int .i64) (aS Prod.snd hd).symm,by rw [CS,<- hs]; exact KZ⟩
 refine zF ?_;refine He K2 (λ_ K=>((K.rm s2).rm s0)) (λl0 rk lJ wJ=>∃(jE:ah)(jB:Nat),lJ=l0/\Hp b S wJ (aR tK 59 A c (ks.set i (⟨{ k.c with aF:=(k.c.aF.take (low (fun(y:Int)=>bn y bq) k.c.aF)++[bq]++k.c.aF.drop (low (fun(y:Int)=>bn y bq) k.c.aF)) },jE,jB⟩:bE))::aR dL 3 jE jB (k.c.aF.take (low (fun(y:Int)=>bn y bq) k.c.aF)++[bq]++k.c.aF.drop (low (fun(y:Int)=>bn y bq) k.c.aF))::rk)) (λhns H1=>?_) ?_
 ·have k1:=((H1.rm s2).rm s0);refine kT 0 Y Y k1<|kT 1 Y Y k1<|tcz 2 Y Y k1<|lH 3 Y (λ_ _=>eF kD Y (gI _ _ _)) k1<|kT 5 Y Y k1<|lH 6 Y (λ_ hK=>cu jG Y (Jc.ext hK.ext) Y) k1<|Jn H1 (λl0 rk lJ wJ=>∃(g1:Nat),lJ=(29,.slice k.B k.c.aF.length k.d)::(32,.slice (some ⟨g1,0,none⟩) (([bq]:List Int).length) 1)::l0/\Hp b S wJ (aR dL 3 (some ⟨g1,0,none⟩) 1 ([bq]:List Int)::rk)) 4 255 ?_ λhS1=>?_
  ·rintro _ w7 ⟨g1,rfl,K7⟩;refine O1 8 Y<|gW Y (Zr (i:=low (fun(y:Int)=>bn y bq) k.c.aF) K7 s1 s0 aj aj) ?_
   rintro _ w8 ⟨SC,cp2,rfl,K8⟩;have k6:=((K8.rm s2).rm s0);refine aP k6<|tcz 9 Y Y k6<|lH 10 Y (λ_ _=>eF kD Y (gI _ _ _)) k6<|O1 11 Y<|se (i:=i) (f:=3) (x:=k) (x':=(⟨{ k.c with aF:=(k.c.aF.take (low (fun(y:Int)=>bn y bq) k.c.aF)++[bq]++k.c.aF.drop (low (fun(y:Int)=>bn y bq) k.c.aF)) },SC,cp2⟩:bE)) (ds:=[.slice SC ((k.c.aF.take (low (fun(y:Int)=>bn y bq) k.c.aF)++[bq]++k.c.aF.drop (low (fun(y:Int)=>bn y bq) k.c.aF)).length) cp2]) K8 s2 Y Y Y hx Y NH (oJ Y) Y (by rintro _ _ _ ⟨⟩; rfl) λw9 K9=>?_
   have hl2:(ks.set i (⟨{ k.c with aF:=(k.c.aF.take (low (fun(y:Int)=>bn y bq) k.c.aF)++[bq]++k.c.aF.drop (low (fun(y:Int)=>bn y bq) k.c.aF)) },SC,cp2⟩:bE)).length=ks.length:=fQ ..;have kK:(ks.set i (⟨{ k.c with aF:=(k.c.aF.take (low (fun(y:Int)=>bn y bq) k.c.aF)++[bq]++k.c.aF.drop (low (fun(y:Int)=>bn y bq) k.c.aF)) },SC,cp2⟩:bE))[i]? = some (⟨{ k.c with aF:=(k.c.aF.take (low (fun(y:Int)=>bn y bq) k.c.aF)++[bq]++k.c.aF.drop (low (fun(y:Int)=>bn y bq) k.c.aF)) },SC,cp2⟩:bE):=pQ (aJ hx);have k7:=(K9.cU 0 2);refine aP k7<|Dn ⟨SC,cp2,Y,K9⟩ Y
  refine O2 4 7 Y Y ?_ ?_
  ·refine ev (jq CQ Y ((H1.o s2).fZ (j:=3) hx Y))<|aP k1<|O1 7 Y<|yU (τ:=dL) (x:=bq) Y (by intro _; apply pE) rfl H1 (λ_ _=>rfl) λg3 Nn K10=>?_
   have k8:=((K10.rm s3).cU 0 2);exact Kj hS1 k8 ⟨g3,Y,K10⟩ Y
  ·refine yU (τ:=dL) (x:=bq) Y (by intro _; apply pE) rfl H1 (λ_ _=>rfl) λg4 RG tO=>?_;have k9:=((tO.rm s3).cU 0 2);refine aP k9<|O1 4 Y<|ev (jq CQ Y ((tO.o s3).fZ (j:=3) hx Y))<|Kj hS1 k9 ⟨g4,Y,tO⟩ Y
 rintro _ Qp ⟨jE,jB,rfl,rW⟩;refine iY Y<|iI Y ?_
 have hd:uF bq bM k.c=((⟨{ k.c with aF:=(k.c.aF.take (low (fun(y:Int)=>bn y bq) k.c.aF)++[bq]++k.c.aF.drop (low (fun(y:Int)=>bn y bq) k.c.aF)) },jE,jB⟩:bE).c,0):=by exact(aK (by simpa using hc16)).trans (aK (by rw [sG]; decide))
 have hs:(ks.set i (⟨{ k.c with aF:=(k.c.aF.take (low (fun(y:Int)=>bn y bq) k.c.aF)++[bq]++k.c.aF.drop (low (fun(y:Int)=>bn y bq) k.c.aF)) },jE,jB⟩:bE))=ks.set i (⟨{ k.c with aF:=(k.c.aF.take (low (fun(y:Int)=>bn y bq) k.c.aF)++[bq]++k.c.aF.drop (low (fun(y:Int)=>bn y bq) k.c.aF)) },jE,jB⟩:bE):=(by simp only [List.set_set]);have KZ:=((rW).Bo hr s1 s1).sel s1;exact⟨(⟨{ k.c with aF:=(k.c.aF.take (low (fun(y:Int)=>bn y bq) k.c.aF)++[bq]++k.c.aF.drop (low (fun(y:Int)=>bn y bq) k.c.aF)) },jE,jB⟩:bE),(aS Prod.fst hd).symm,aS (Value.int .i64) (aS Prod.snd hd).symm,by rw [CS,<- hs]; exact KZ⟩
theorem acd{b w:World}{c:Nat}{CX:Nat}(Jc:Bx b CX 3 [.int .i64 bq])(H0:Hp b S w (aR tK 59 A c ks::fD dL 3 (ks.map qg)::F))(hx:ks[i]? = some k)(ho:pF k.c=true) :
    bO prog 422 #[.pointer (some ((ET A).add (i*4))),.pointer (some ⟨CX,0,none⟩)] w λv w'=>∃ k':bE,k'.c=(jZ bq k.c).1/\v=.int .i64 (jZ bq k.c).2/\Hp b S w' (aR tK 59 A c (ks.set i k')::fD dL 3 ((ks.set i k').map qg)::F):=by
 refine sF func422 ntmps422 Y ?_;have hr:(ks.map qg)[i]? = some (k.B,k.d,k.c.aF):=by rw [kI,hx]; rfl
 have H1:=(H0.zM s1 hr).sel s0;have hlen:=NM ho;have hup:=(NP ho);have axF:=rV ho;have hlow:=CF (fun(y:Int)=>bn y bq) k.c.aF;refine iY Y<|qo ak ak<|bD (bA Y) Y<|bD (dS Y) Y<|bD (eF kD Y (gI _ _ _)) Y<|bD (jq CQ Y ((H1.o s2).fZ (j:=3) hx Y)) Y<|bD (cu jG Y (Jc.ext H1.ext) Y) Y<|IU (v:=.tuple #[.int .i64 ((low (fun(y:Int)=>bn y bq) k.c.aF:Nat):Int),.bool (hits (fun(y:Int)=>bn y bq) k.c.aF)]) Y Y Y alH (λwq eq=>(LB wq ((H1.o s0).ext eq) bq (Up.mono (key:=fun(x:Int)=>x) hup bq) aj).mono (by rintro _ _ ⟨rfl,fG⟩; exact⟨rfl,fG.ext⟩)) rfl<|bD (bA rfl) rfl<|bD (vN (vs:=[.int .i64 ((low (fun(y:Int)=>bn y bq) k.c.aF:Nat):Int),.bool (hits (fun(y:Int)=>bn y bq) k.c.aF)]) rfl rfl) rfl<|bD (vN (vs:=[.int .i64 ((low (fun(y:Int)=>bn y bq) k.c.aF:Nat):Int),.bool (hits (fun(y:Int)=>bn y bq) k.c.aF)]) rfl rfl) rfl<|bD (nP rfl) rfl<|bD (nP rfl) rfl<|qp λw1 e1=>?_
 have K1:=H1.grow e1;refine aZ<|bQ Y<|ev (gZ Y)<|dn<|bR Y (λhc16=>?_) (λhc16=>?_)
 ·try simp only [eO,dN,bK,dZ,eu,fC,bL,bU] at hc16
  refine iY Y<|vG Y ?_
  have hd:jZ bq k.c=(k.c,5):=by exact aK (by rw [hc16]; decide)
  have hs:ks=ks.set i k:=(EZ hx).symm;have KZ:=((((K1.mV 0 2).sel s2)).Bo hr s1 s1).sel s1;exact⟨k,(aS Prod.fst hd).symm,aS (Value.int .i64) (aS Prod.snd hd).symm,by rw [CS,<- hs]; exact KZ⟩
 try simp only [eO,dN,bK,dZ,eu,fC,bL,bU] at hc16
 have hc16:hits (fun(y:Int)=>bn y bq) k.c.aF=true:=by simpa using hc16
 obtain⟨xb,hxb,hkb⟩:=qE (key:=fun(x:Int)=>x) hc16;have UE:=aJ hxb;refine jh ?_;refine bQ Y<|mv Y<|ev (dS Y)<|ev (eF kD Y (gI _ _ _))<|ev (jq CQ Y ((K1.o s2).fZ (j:=3) hx Y))<|mv Y<|mv Y<|ev (Ev.add Y Y (vM aj aj))<|gW Y (Zm (i:=low (fun(y:Int)=>bn y bq) k.c.aF) (j:=low (fun(y:Int)=>bn y bq) k.c.aF+1) (K1.sel s0) aj aj) ?_
 rintro _ w2 ⟨rfl,K2⟩;refine ev (dS Y)<|ev (eF kD Y (gI _ _ _))<|se (i:=i) (f:=3) (x:=k) (x':=(⟨{ k.c with aF:=(k.c.aF.take (low (fun(y:Int)=>bn y bq) k.c.aF)++k.c.aF.drop (low (fun(y:Int)=>bn y bq) k.c.aF+1)) },k.B,k.d⟩:bE)) (ds:=[.slice k.B ((k.c.aF.take (low (fun(y:Int)=>bn y bq) k.c.aF)++k.c.aF.drop (low (fun(y:Int)=>bn y bq) k.c.aF+1)).length) k.d]) K2 s2 Y Y Y hx Y NH (oJ Y) Y (by rintro _ _ _ ⟨⟩; rfl) λw3 K3=>?_
 have hl1:(ks.set i (⟨{ k.c with aF:=(k.c.aF.take (low (fun(y:Int)=>bn y bq) k.c.aF)++k.c.aF.drop (low (fun(y:Int)=>bn y bq) k.c.aF+1)) },k.B,k.d⟩:bE)).length=ks.length:=fQ ..;have bP:(ks.set i (⟨{ k.c with aF:=(k.c.aF.take (low (fun(y:Int)=>bn y bq) k.c.aF)++k.c.aF.drop (low (fun(y:Int)=>bn y bq) k.c.aF+1)) },k.B,k.d⟩:bE))[i]? = some (⟨{ k.c with aF:=(k.c.aF.take (low (fun(y:Int)=>bn y bq) k.c.aF)++k.c.aF.drop (low (fun(y:Int)=>bn y bq) k.c.aF+1)) },k.B,k.d⟩:bE):=pQ (aJ hx);refine dn<|iY Y<|iI Y ?_
 have hd:jZ bq k.c=((⟨{ k.c with aF:=(k.c.aF.take (low (fun(y:Int)=>bn y bq) k.c.aF)++k.c.aF.drop (low (fun(y:Int)=>bn y bq) k.c.aF+1)) },k.B,k.d⟩:bE).c,0):=by exact aO hc16
 have hs:(ks.set i (⟨{ k.c with aF:=(k.c.aF.take (low (fun(y:Int)=>bn y bq) k.c.aF)++k.c.aF.drop (low (fun(y:Int)=>bn y bq) k.c.aF+1)) },k.B,k.d⟩:bE))=ks.set i (⟨{ k.c with aF:=(k.c.aF.take (low (fun(y:Int)=>bn y bq) k.c.aF)++k.c.aF.drop (low (fun(y:Int)=>bn y bq) k.c.aF+1)) },k.B,k.d⟩:bE):=(by simp only [List.set_set]);have KZ:=((K3).Bo hr s1 s1).sel s1;exact⟨(⟨{ k.c with aF:=(k.c.aF.take (low (fun(y:Int)=>bn y bq) k.c.aF)++k.c.aF.drop (low (fun(y:Int)=>bn y bq) k.c.aF+1)) },k.B,k.d⟩:bE),(aS Prod.fst hd).symm,aS (Value.int .i64) (aS Prod.snd hd).symm,by rw [CS,<- hs]; exact KZ⟩
theorem Qq(w:World)(iR:Sl bH S0 w jl jg l)(id:Int){alI:FuncId}{ace:List Value}(axG:bI prog alI)(dof:aI->aI × Int)(axH:axD w alI ace dof)(hn:l.length<=100000)(hh:∀ x∈l,x.aF.length<=100000) :
    bO prog 417 #[.slice jl l.length jg,.int .i64 id,.func (.func alI) #[] ace.toArray] w λv w'=>∃(A0:ah)(c0:Nat),v=.tuple #[.slice A0 (((gy l id dof).1).length) c0,.int .i64 ((gy l id dof).2)]/\Hp w S0 w' [aR bH 59 A0 c0 ((gy l id dof).1)]:=by
 refine j4 S0 func417 ntmps417 Y λH0=>?_;have EG:=iR.bN;have hf:=BP l;refine rg<|iA Y<|bS Y<|bQ Y<|gW Y (UA (S0:=Rd w S0 [] _) _ (H0.a iR) hn hh) ?_
 rintro _ w1 ⟨A,c,ks,rfl,hkc,h9⟩;have K1:=H0.c2 h9;have hkl:ks.length=(dG l).length:=by rw [<- hkc,jN]
 refine bS Y ?_;have hrd:=K1.rdK s0 s0;refine kP (t:=0) Y (aS (λz=>Value.slice A z c) (NK ks).symm)<|bQ Y<|mv Y<|lF K1 Y (EY _ hrd id (by rw [hkc]; exact zO l) (by rw [jN]; omega)) λw2 K2=>mv rfl<|xt rfl rfl<|xt rfl rfl<|iA rfl<|bS rfl<|aZ<|bQ rfl<|ev (gZ rfl)<|dn<|bR rfl (λkJ=>?_) (λkJ=>?_)
 ·try simp only [eO,dN,bK,dZ,eu,fC,bL,bU] at kJ
  refine rg<|iA Y<|bS Y<|vG Y ?_
  have hch:=ag5 (l:=l) (id:=id) (f:=dof) (by rw [<- hkc]; simpa using kJ);have H1:=K2.nil bH 59;have d9:(([]:List aI):List aI)=((gy l id dof).1):=by rw [hch]
  have H2:=(d9▸H1:Hp w S0 w2 (aR bH 59 none 0 ((gy l id dof).1)::[aR tK 59 A c ks,fD dL 3 (ks.map qg)]));have fG:(5:Int)=((gy l id dof).2):=by rw [hch]
  exact⟨none,0,by rw [<- d9,<- fG] <;> rfl,(H2.cU 1 2)⟩
 try simp only [eO,dN,bK,dZ,eu,fC,bL,bU] at kJ
 have kJ:hits (fun(y:aI)=>bn y.ID id) (ks.map bE.c)=true:=by simpa using kJ
 obtain⟨xb,hxb,hkb⟩:=qE (key:=aI.ID) kJ;have UE:=aJ hxb;rw [jN] at UE;refine jh ?_;refine aZ<|kP (t:=0) Y (aS (λz=>Value.slice A z c) (NK ks))<|bQ Y<|mv Y<|mv Y ?_
 obtain⟨x1,bP⟩:=bC (xs:=ks) (i:=low (fun(y:aI)=>bn y.ID id) (ks.map bE.c)) aj;refine ev (eU (i:=low (fun(y:aI)=>bn y.ID id) (ks.map bE.c)) jf qG Y Y Y (aJ bP) ((K2.o s0).some_ bP)) ?_;have ho:pF x1.c=true:=X9 l _ (by rw [<- hkc]; exact jI.2 ⟨x1,dA bP,rfl⟩);refine wo Y Y Y axG (axH _ _ _ _ _ _ _ _ K2 bP ho) Y ?_;rintro _ w3 ⟨k1,hk1,rfl,K3⟩;refine bS Y<|bQ Y<|ev (rz Y Y)<|dn<|bR Y (λhc27=>?_) (λhc27=>?_)
 ·replace hc27:=nS hc27;refine bQ Y<|iA Y<|bS Y<|vG Y ?_
  have hkx:(dG l)[low (fun(y:aI)=>bn y.ID id) (dG l)]? = some x1.c:=by rw [<- hkc,kI,bP]; rfl
  have hch:=SB (f:=dof) (by rw [<- hkc]; exact kJ) hkx;rw [aK (by simpa using hc27)] at hch;have H3:=K3.nil bH 59;have jQ:(([]:List aI):List aI)=((gy l id dof).1):=by rw [hch]
  have H4:=(jQ▸H3:Hp w S0 w3 (aR bH 59 none 0 ((gy l id dof).1)::[aR tK 59 A c (ks.set (low (fun(y:aI)=>bn y.ID id) (ks.map bE.c)) k1),fD dL 3 ((ks.set (low (fun(y:aI)=>bn y.ID id) (ks.map bE.c)) k1).map qg)]));have lV:((dof x1.c).2:Int)=((gy l id dof).2):=by rw [hch]
  exact⟨none,0,by rw [lV,<- jQ] <;> rfl,(H4.cU 1 2)⟩
 replace hc27:=nT hc27;refine jh ?_;refine bQ Y<|iA Y<|bS Y<|iI Y ?_
 have hkx:(dG l)[low (fun(y:aI)=>bn y.ID id) (dG l)]? = some x1.c:=by rw [<- hkc,kI,bP]; rfl
 have hch:=SB (f:=dof) (by rw [<- hkc]; exact kJ) hkx;rw [aO (by simpa using hc27)] at hch;have he:gy l id dof=((ks.set (low (fun(y:aI)=>bn y.ID id) (ks.map bE.c)) k1).map bE.c,0):=by rw [hch,ai2,hk1,hkc]
 have KZ:=(K3.Uk s1).ofK s1 s0;exact⟨A,c,by rw [he,jN,fQ] <;> rfl,by rw [he]; exact KZ⟩
theorem alJ(w:World)(iR:Sl bH S0 w jl jg l)(id:Int)(sum:Int)(hn:l.length<=100000)(hh:∀ x∈l,x.aF.length<=100000) :
    bO prog 356 #[.slice jl l.length jg,.int .i64 id,.int .u32 sum] w λv w'=>∃(A0:ah)(c0:Nat),v=.tuple #[.slice A0 (((gy l id (dz sum)).1).length) c0,.int .i64 ((gy l id (dz sum)).2)]/\Hp w S0 w' [aR bH 59 A0 c0 ((gy l id (dz sum)).1)]:=by
 refine j4 S0 func356 ntmps356 Y λH0=>?_;have EG:=iR.bN;refine rg<|bx Y Y H0 λg1 w1 K1=>iA Y<|bS Y<|bQ Y<|mv Y<|ev (qC Y)<|gW Y (Qq _ (K1.a iR) id (ace:=[.pointer (some ⟨g1,0,none⟩)]) aub (dz sum) (λ_ _ _ _ _ _ _ _ H hx ho=>ai5 (K1.x s0) H hx ho) aj hh) ?_
 rintro _ w2 ⟨ni,nk,rfl,h2⟩;have K2:=K1.c1 h2;have UD:=(K2.o s0).bN;refine xt Y Y<|xt Y Y<|iA Y<|bS Y<|iI Y ?_
 exact⟨ni,nk,Y,(K2.rm s1)⟩
def lN(l:List aI)(id bq bM:Int):List aI × Int:=if bq<1∨16<bq then([],1) else gy l id (uF bq bM)
theorem alK(w:World)(iR:Sl bH S0 w jl jg l)(id:Int)(bq:Int)(bM:Int)(hn:l.length<=100000)(hh:∀ x∈l,x.aF.length<=100000) :
    bO prog 359 #[.slice jl l.length jg,.int .i64 id,.int .i64 bq,.int .i64 bM] w λv w'=>∃(A0:ah)(c0:Nat),v=.tuple #[.slice A0 (((lN l id bq bM).1).length) c0,.int .i64 ((lN l id bq bM).2)]/\Hp w S0 w' [aR bH 59 A0 c0 ((lN l id bq bM).1)]:=by
 refine j4 S0 func359 ntmps359 Y λH0=>?_;have EG:=iR.bN;refine rg<|bx Y Y H0 λg1 w1 K1=>bx Y Y K1 λg2 w2 K2=>iA Y<|bS Y<|aZ<|rg<|mK K2 s1 Y<|ev (fB Y Y)<|mv Y<|iG 3 15 ((decide (bq<1))||(decide (16<bq))) ?_ ?_
 ·cases aCX:decide (bq<1) with
  | true=>
   refine eB<|eB<|ev (dY Y Y)<|dI Y
  | false=>
   have aFh:=kg aCX;refine gby K2 s1 Y<|bG Y (pJ Y Y) Y<|ev (eG Y Y)<|dI Y
 refine dn<|bR Y (λrU=>?_) (λrU=>?_)
 ·try simp only [eO,dN,bL,bU] at rU
  refine rg<|iA Y<|bS Y<|vG Y ?_
  have H1:=K2.nil bH 59;have d9:(([]:List aI):List aI)=((lN l id bq bM).1):=by unfold lN; rw [aO rU]
  have H2:=(d9▸H1:Hp w S0 w2 (aR bH 59 none 0 ((lN l id bq bM).1)::[dJ g2 3 [.int .i64 bM],dJ g1 3 [.int .i64 bq]]));have fG:(1:Int)=((lN l id bq bM).2):=by unfold lN; rw [aO rU]
  exact⟨none,0,by rw [<- d9,<- fG] <;> rfl,(H2.cU 1 2)⟩
 try simp only [eO,dN,bL,bU] at rU
 refine jh ?_;refine bQ Y<|mv Y<|ev (qC Y)<|gW Y (Qq _ (K2.a iR) id (ace:=[.pointer (some ⟨g1,0,none⟩),.pointer (some ⟨g2,0,none⟩)]) auc (uF bq bM) (λ_ _ _ _ _ _ _ _ H hx ho=>ai6 (K2.x s1) (K2.x s0) H hx ho) aj hh) ?_
 rintro _ w3 ⟨mR,mU,rfl,h3⟩;have K3:=K2.c1 h3;have alL:=(K3.o s0).bN;refine xt Y Y<|xt Y Y<|iA Y<|bS Y<|iI Y ?_
 have jQ:((gy l id (uF bq bM)).1:List aI)=((lN l id bq bM).1):=by unfold lN; rw [aK aj]
 rw [jQ] at K3;have lV:((gy l id (uF bq bM)).2:Int)=((lN l id bq bM).2):=by unfold lN; rw [aK aj]
 exact⟨mR,mU,by rw [jQ,lV] <;> rfl,(K3.cU 1 2)⟩
theorem afd(w:World)(iR:Sl bH S0 w jl jg l)(id:Int)(bq:Int)(hn:l.length<=100000)(hh:∀ x∈l,x.aF.length<=100000) :
    bO prog 361 #[.slice jl l.length jg,.int .i64 id,.int .i64 bq] w λv w'=>∃(A0:ah)(c0:Nat),v=.tuple #[.slice A0 (((gy l id (jZ bq)).1).length) c0,.int .i64 ((gy l id (jZ bq)).2)]/\Hp w S0 w' [aR bH 59 A0 c0 ((gy l id (jZ bq)).1)]:=by
 refine j4 S0 func361 ntmps361 Y λH0=>?_;have EG:=iR.bN;refine rg<|bx Y Y H0 λg1 w1 K1=>iA Y<|bS Y<|bQ Y<|mv Y<|ev (qC Y)<|gW Y (Qq _ (K1.a iR) id (ace:=[.pointer (some ⟨g1,0,none⟩)]) aud (jZ bq) (λ_ _ _ _ _ _ _ _ H hx ho=>acd (K1.x s0) H hx ho) aj hh) ?_
 rintro _ w2 ⟨ni,nk,rfl,h2⟩;have K2:=K1.c1 h2;have UD:=(K2.o s0).bN;refine xt Y Y<|xt Y Y<|iA Y<|bS Y<|iI Y ?_
 exact⟨ni,nk,Y,(K2.rm s1)⟩
theorem UJ{key:α->Int}{l:List α}(hu:Up key l){x y:α}(hx:x∈l)(hy:y∈l)(h:key x=key y):x=y:=by
  obtain⟨i,hi⟩:=qV hx;obtain⟨j,hj⟩:=qV hy
  rcases UG i j with h1 | h1 | h1
  · have:=hu.get h1 hi hj; omega
  · subst h1; rw [hi] at hj; exact Ze hj
  · have:=hu.get h1 hj hi; omega
theorem afe(h:lY l=true):Up aI.ID l:=by have:=zO l; rwa [wE h] at this
theorem Zt(h:lY l=true):∀ x∈l,pF x=true:=(mQ.1 h).1
theorem zq(h:lY l=true):l.length<=32/\∀ x∈l,x.aF.length<=16:=⟨(mQ.1 h).2.1,λx hx=>NM (Zt h x hx)⟩
theorem zP(h:lY l=true)(hb:gU l j=true):l[low (fun(y:aI)=>bn y.ID j) l]? = some (aV l j)/\(aV l j).ID=j:=by
  unfold gU at hb;obtain⟨x,hx,hk⟩:=qE (key:=aI.ID) hb;have h1:=Qo hb hx;rw [wE h] at hx;rw [h1]; exact⟨hx,hk⟩
theorem UK(h:lY l=true):gU l j=true↔∃ c∈l,c.ID=j:=by
  unfold gU; rw [wE h]; exact uY (afe h) j
theorem DW(h:lY l=true)(hb:gU l j=true):aV l j∈l:=dA (zP h hb).1
theorem alM(h:lY l=true)(hc:c∈l):gU l c.ID=true/\aV l c.ID=c:=by
  have h1:=(UK h).2 ⟨c,hc,rfl⟩;exact⟨h1,UJ (afe h) (DW h h1) hc (zP h h1).2⟩
theorem Yb(h:lY l=true)(hb:gU l j=false):(∀ c∈l,c.ID≠j)/\aV l j=⟨0,0,0,[]⟩:=by
  refine⟨λc hc e=>?_,UC hb⟩;rw [(UK h).2 ⟨c,hc,e⟩] at hb; cases hb
theorem ap5{c':aI}(hx:l[i]? = some c)(hid:c'.ID=c.ID):(l.set i c').map aI.ID=l.map aI.ID:=by
  rw [EF,hid];exact EZ (by rw [kI,hx]; rfl)
theorem ap6(h:lY l=true){c':aI}(hx:l[i]? = some c)(hid:c'.ID=c.ID)(ho:pF c'=true):lY (l.set i c')=true:=by
  obtain⟨h1,h2,h3⟩:=mQ.1 h;refine mQ.2 ⟨λx hm=>?_,by rw [fQ]; exact h2,by rw [ap5 hx hid]; exact h3⟩
  rcases Zp hm with h4 | rfl
  · exact h1 x h4
  · exact ho
theorem alN(h:lY l=true)(hb:gU l id=true)(f:aI->aI × Int):gy l id f=if(f (aV l id)).2=0 then(l.set (low (fun(y:aI)=>bn y.ID id) l) (f (aV l id)).1,0) else([],(f (aV l id)).2):=by
  have h1:=zP h hb;have h2:=SB (l:=l) (id:=id) (f:=f) (c:=aV l id) hb (by rw [wE h]; exact h1.1);rw [h2,wE h]
theorem aff(hb:gU l id=false)(f:aI->aI × Int):gy l id f=([],5):=ag5 hb
theorem acf(ho:pF c=true)(n:Int):hits (fun(y:Int)=>bn y n) c.aF=true↔n∈c.aF:=by
  have h:=uY (key:=fun(x:Int)=>x) (NP ho) n;rw [h]; simp
theorem afg(h:pF c=true)(hv:c.aC<1073741824)(sum:Int):pF { c with aC:=c.aC+1,Sum:=sum,aF:=[] }=true:=by
  have:=rV h
  simp [pF,nC]; omega
theorem auf(hu:Up aI.ID l){n:Nat}{x:aI}(hx:l[n]? = some x)(hid:x.ID=id):low (fun(y:aI)=>bn y.ID id) l=n:=by
  refine vR (by have:=aJ hx; omega) (λa y ha hy=>?_) (λa y ha hy=>?_)
  · rw [pO]; have:=hu.get ha hy hx; omega
  · rw [pO]
    rcases Nr n a with h1 | h1
    · have:=hu.get h1 hx hy; omega
    · have:n=a:=aj
      subst this; rw [hx] at hy; cases hy; omega
theorem Ku(l:List aI)(id:Int):aV (dG l) id=aV l id/\gU (dG l) id=gU l id:=by
  unfold aV gU; rw [wE (xK l)]; exact⟨rfl,rfl⟩
theorem ag6(l:List aI)(id:Int):(idxOf (fun(y:aI)=>decide (y.ID=id)) (dG l)=-1/\gU l id=false)∨∃(n:Nat)(x:aI),idxOf (fun(y:aI)=>decide (y.ID=id)) (dG l)=(n:Int)/\(dG l)[n]? = some x/\x.ID=id/\gU l id=true/\aV l id=x/\low (fun(y:aI)=>bn y.ID id) (dG l)=n:=by
  rcases uV (fun(y:aI)=>decide (y.ID=id)) (dG l) with ⟨h1,h2⟩ | ⟨n,x,h1,h2,h3,_⟩
  · left; refine⟨h1,?_⟩
    cases hb:gU l id with
    | false=>rfl
    | true=>
      rw [<- (Ku l id).2] at hb;have h3:=zP (xK l) hb;have h4:=h2 _ (dA h3.1)
      simp [h3.2] at h4
  · right
    have h4:x.ID=id:=by simpa using h3
    have h5:=alM (xK l) (dA h2);rw [h4,(Ku l id).1,(Ku l id).2] at h5;exact⟨n,x,h1,h2,h4,h5.1,h5.2,auf (zO l) h2 h4⟩
theorem ap7{n:Nat}{x:aI}(h3:gU l id=true)(hx:(dG l)[n]? = some x)(h5:low (fun(y:aI)=>bn y.ID id) (dG l)=n)(f:aI->aI × Int):gy l id f=if(f x).2=0 then((dG l).set n (f x).1,0) else([],(f x).2):=by
  rw [SB (c:=x) h3 (by rw [h5]; exact hx),h5]
theorem afh{n:Nat}(h3:gU l id=true)(h5:low (fun(y:aI)=>bn y.ID id) (dG l)=n):iB l id=((dG l).take n++(dG l).drop (n+1),0):=by
  unfold iB; rw [aO (show hits (fun(y:aI)=>bn y.ID id) (dG l)=true from h3),h5]
theorem ai8(h:gU l id=false):iB l id=([],5):=by
  unfold iB; rw [aK (by unfold gU at h; rw [h]; decide)]
def ag7(f:Int->Bool):Nat->List Int
  | 0=>[]
  | n+1=>ag7 f n++(if f ((n+1:Nat):Int) then[((n+1:Nat):Int)] else[])
theorem ai9(f:Int->Bool):∀(n:Nat)(x:Int),x∈ag7 f n↔1<=x/\x<=n/\f x=true
  | 0,x=>by simp [ag7]; omega
  | n+1,x=>by
    simp only [ag7,kU,ai9 f n]
    split
    · rename_i h
      simp only [nL]
      constructor
      · rintro(h1 | h1)
        · exact⟨h1.1,aj,h1.2.2⟩
        · subst h1; exact⟨aj,aj,h⟩
      · rintro⟨h1,h2,h3⟩
        by_cases e:x=((n+1:Nat):Int)
        · exact .inr e
        · exact .inl ⟨h1,aj,h3⟩
    · rename_i h
      simp only [kY,qW]
      constructor
      · rintro h1; exact⟨h1.1,aj,h1.2.2⟩
      · rintro⟨h1,h2,h3⟩
        refine⟨h1,?_,h3⟩
        rcases(by omega:(n:Int)<x∨x<=n) with h4 | h4
        · have:x=((n+1:Nat):Int):=aj
          subst this; exact absurd h3 h
        · exact h4
theorem aja(hu:h.Pairwise (λx y=>x<y))(n:Int):(∀ x∈h.take (low (fun(y:Int)=>bn y n) h),x<n)/\(∀ x∈h.drop (low (fun(y:Int)=>bn y n) h),n<=x):=by
  have key:∀(h:List Int),h.Pairwise (λx y=>x<y)->(∀ x∈h.take (low (fun(y:Int)=>bn y n) h),x<n)/\(∀ x∈h.drop (low (fun(y:Int)=>bn y n) h),n<=x):=by
    intro h
    induction h with
    | nil=>intro _; simp
    | cons a h ih=>
      intro hu;have h1:=oU.1 hu;have ih:=ih h1.2
      by_cases ha:a<n
      · have e:low (fun(y:Int)=>bn y n) (a::h)=low (fun(y:Int)=>bn y n) h+1:=by
          unfold low; rw [List.countP_cons_of_pos]; simpa [pO] using ha
        rw [e];refine⟨λx hx=>?_,λx hx=>ih.2 x (by simpa using hx)⟩;rw [Y8] at hx
        rcases iN.1 hx with rfl | hx
        · exact ha
        · exact ih.1 x hx
      · have e:low (fun(y:Int)=>bn y n) (a::h)=0:=by
          unfold low;rw [List.countP_eq_zero];intro x hx
          simp only [bL,pO]
          rcases iN.1 hx with rfl | hx
          · exact ha
          · have:=h1.1 x hx; omega
        rw [e];refine⟨λx hx=>by simp at hx,λx hx=>?_⟩
        rcases iN.1 hx with rfl | hx
        · omega
        · have:=h1.1 x hx; omega
  exact key h hu
theorem alO(hu:h.Pairwise (λx y=>x<y)){n:Int}(hn:n∉h):(h.take (low (fun(y:Int)=>bn y n) h)++[n]++h.drop (low (fun(y:Int)=>bn y n) h)).Pairwise (λx y=>x<y)/\∀ x,x∈(h.take (low (fun(y:Int)=>bn y n) h)++[n]++h.drop (low (fun(y:Int)=>bn y n) h))↔x=n∨x∈h:=by
  obtain⟨h1,h2⟩:=aja hu n
  have h2':∀ x∈h.drop (low (fun(y:Int)=>bn y n) h),n<x:=λx hx=>by
    have h3:=h2 x hx;have h4:x≠n:=λe=>hn (e▸Zq hx);omega
  have h5:(h.take (low (fun(y:Int)=>bn y n) h)++h.drop (low (fun(y:Int)=>bn y n) h)).Pairwise (λx y=>x<y):=by rw [sJ]; exact hu
  have h6:=x8.1 h5
  constructor
  · rw [nU]
    refine x8.2 ⟨h6.1,x8.2 ⟨Qb _ _,h6.2.1,λx hx y hy=>?_⟩,λx hx y hy=>?_⟩
    · rw [nL.1 hx]; exact h2' y hy
    · rcases kU.1 hy with hy | hy
      · rw [nL.1 hy]; exact h1 x hx
      · exact h6.2.2 x hx y hy
  · intro x
    have:x∈h↔x∈h.take (low (fun(y:Int)=>bn y n) h)∨x∈h.drop (low (fun(y:Int)=>bn y n) h):=by rw [<- kU,sJ]
    simp only [kU,nL,this]
    constructor
    · rintro((h7 | h7) | h7)
      · exact .inr (.inl h7)
      · exact .inl h7
      · exact .inr (.inr h7)
    · rintro(h7 | h7 | h7)
      · exact .inl (.inr h7)
      · exact .inl (.inl h7)
      · exact .inr h7
theorem afi:(id<1∨1048576<id->eD l id sum=([],1))/\(¬ (id<1∨1048576<id)->gU l id=true->eD l id sum=([],6))/\(¬ (id<1∨1048576<id)->gU l id=false->32<=(dG l).length->eD l id sum=([],7))/\
    (¬ (id<1∨1048576<id)->gU l id=false->(dG l).length<32->eD l id sum=((dG l).take (low (fun(y:aI)=>bn y.ID id) (dG l))++[⟨id,1,sum,[]⟩]++(dG l).drop (low (fun(y:aI)=>bn y.ID id) (dG l)),0)):=by
  unfold eD gU;refine⟨λh=>aO h,λh1 h2=>(aK h1).trans (aO h2),λh1 h2 h3=>(aK h1).trans ((aK (by rw [h2]; decide)).trans (aO h3)),λh1 h2 h3=>(aK h1).trans ((aK (by rw [h2]; decide)).trans (aK aj))⟩
theorem zu:∀(l:List Int)(z:Int),nC most z l=true↔l.Pairwise (λx y=>x<y)/\∀ x∈l,z<=x/\x<=most
  | [],z=>by simp [nC]
  | y::l,z=>by
    constructor
    · intro h; exact⟨BQ _ _ h,Kq _ _ h⟩
    · rintro⟨h1,h2⟩
      have h3:=oU.1 h1;have h4:=h2 y av
      simp only [nC,bK,eu,dN,bU]
      refine⟨⟨aj,aj⟩,(zu l (y+1)).2 ⟨h3.2,λx hx=>?_⟩⟩;have h5:=h3.1 x hx;have h6:=h2 x (by simp [hx]);omega
theorem Yc{z:Int}{l m:List Int}(h:nC most z l=true)(s:m.Sublist l):nC most z m=true:=by
  obtain⟨h1,h2⟩:=(zu l z).1 h;exact(zu m z).2 ⟨h1.sublist s,λx hx=>h2 x (s.subset hx)⟩
theorem ap8{m:List aI}(h:lY l=true)(s:m.Sublist l):lY m=true:=by
  obtain⟨h1,h2,h3⟩:=mQ.1 h;exact mQ.2 ⟨λx hx=>h1 x (s.subset hx),lG s.length_le h2,Yc h3 (s.map _)⟩
theorem NQ(l:List α)(i:Nat):(l.take i++l.drop (i+1)).Sublist l:=by
  rw [<- Md]; exact afc ..
theorem acg(ho:pF c=true)(hr:nC 16 1 h=true):pF { c with aF:=h }=true:=by
  have:=rV ho
  simp [pF,hr]; omega
theorem ach(ho:pF c=true):pF { c with aF:=c.aF.take i++c.aF.drop (i+1) }=true:=acg ho (Yc (rV ho).2.2 (NQ _ _))
theorem ajb(ho:pF c=true)(h1:1<=bq)(h2:bq<=16)(hn:bq∉c.aF):pF { c with aF:=c.aF.take (low (fun(y:Int)=>bn y bq) c.aF)++[bq]++c.aF.drop (low (fun(y:Int)=>bn y bq) c.aF) }=true:=by
  refine acg ho ((zu _ _).2 ?_);obtain⟨h3,h4⟩:=alO (NP ho) hn;refine⟨h3,λx hx=>?_⟩
  rcases(h4 x).1 hx with rfl | hx
  · exact⟨h1,h2⟩
  · exact Kq _ _ (rV ho).2.2 x hx
theorem Yd(l:List aI)(id:Int)(f:aI->aI × Int):(gU l id=false/\gy l id f=([],5))∨(gU l id=true/\(f (aV l id)).2≠0/\gy l id f=([],(f (aV l id)).2))∨
    (gU l id=true/\(f (aV l id)).2=0/\∃ n,(dG l)[n]? = some (aV l id)/\(aV l id).ID=id/\gy l id f=((dG l).set n (f (aV l id)).1,0)):=by
  rcases ag6 l id with ⟨_,h⟩ | ⟨n,x,_,h1,h2,h3,h4,h5⟩
  · exact .inl ⟨h,aff h f⟩
  · subst h4
    have h6:=ap7 h3 h1 h5 f
    by_cases h7:(f (aV l id)).2=0
    · rw [aO h7] at h6
      exact .inr (.inr ⟨h3,h7,n,h1,h2,h6⟩)
    · rw [aK h7] at h6
      exact .inr (.inl ⟨h3,h7,h6⟩)
theorem Qr(ho:pF c=true)(he:(dz sum c).2=0):(dz sum c).1={ c with aC:=c.aC+1,Sum:=sum,aF:=[] }/\pF (dz sum c).1=true/\(dz sum c).1.ID=c.ID:=by
  unfold dz at he ⊢
  by_cases h:1073741824<=c.aC
  · rw [aO h] at he; simp at he
  · rw [aK h]; exact⟨rfl,afg ho aj sum,rfl⟩
theorem Qs(ho:pF c=true)(h1:1<=bq)(h2:bq<=16)(he:(uF bq bM c).2=0):bM=c.aC/\bq∉c.aF/\(uF bq bM c).1={ c with aF:=c.aF.take (low (fun(y:Int)=>bn y bq) c.aF)++[bq]++c.aF.drop (low (fun(y:Int)=>bn y bq) c.aF) }/\pF (uF bq bM c).1=true/\(uF bq bM c).1.ID=c.ID:=by
  unfold uF at he ⊢
  by_cases h:bM≠c.aC
  · rw [aO h] at he; simp at he
  · rw [aK h] at he ⊢
    by_cases h3:hits (fun(y:Int)=>bn y bq) c.aF=true
    · rw [aO h3] at he; simp at he
    · have h4:bq∉c.aF:=λhm=>h3 ((acf ho bq).2 hm)
      rw [aK h3]; exact⟨aj,h4,rfl,ajb ho h1 h2 h4,rfl⟩
theorem Jd(ho:pF c=true)(he:(jZ bq c).2=0):bq∈c.aF/\(jZ bq c).1={ c with aF:=c.aF.take (low (fun(y:Int)=>bn y bq) c.aF)++c.aF.drop (low (fun(y:Int)=>bn y bq) c.aF+1) }/\pF (jZ bq c).1=true/\(jZ bq c).1.ID=c.ID:=by
  unfold jZ at he ⊢
  by_cases h3:hits (fun(y:Int)=>bn y bq) c.aF=true
  · rw [aO h3]; exact⟨(acf ho bq).1 h3,rfl,ach ho,rfl⟩
  · rw [aK h3] at he; simp at he
def Good(f:aI->aI × Int):Prop:=∀ c,pF c=true->(f c).2=0->pF (f c).1=true/\(f c).1.ID=c.ID
theorem zw(sum:Int):Good (dz sum):=λ_ ho he=>(Qr ho he).2
theorem UL(bM:Int)(h1:1<=bq)(h2:bq<=16):Good (uF bq bM):=λ_ ho he=>(Qs ho h1 h2 he).2.2.2
theorem NR(bq:Int):Good (jZ bq):=λ_ ho he=>(Jd ho he).2.2
theorem F9(l:List aI)(id:Int)(hf:Good f):lY (gy l id f).1=true/\((gy l id f).2≠0->(gy l id f).1=[]):=by
  rcases Yd l id f with ⟨_,h⟩ | ⟨_,h1,h⟩ | ⟨h0,h1,n,h2,h3,h⟩
  · rw [h]; exact⟨rfl,λ_=>rfl⟩
  · rw [h]; exact⟨rfl,λ_=>rfl⟩
  · rw [h]
    have h4:=hf _ (X9 l _ (dA h2)) h1;exact⟨ap6 (xK l) h2 h4.2 h4.1,λh=>absurd Y h⟩
theorem ap9(l:List aI)(id:Int):low (fun(y:Int)=>bn y id) (l.map aI.ID)=low (fun(y:aI)=>bn y.ID id) l:=by
  simp only [low]; rw [List.countP_map]; rfl
theorem Gf(l:List aI)(id sum:Int):((eD l id sum).1=[]/\(eD l id sum).2≠0)∨(1<=id/\id<=1048576/\gU l id=false/\(dG l).length<32/\eD l id sum=((dG l).take (low (fun(y:aI)=>bn y.ID id) (dG l))++[⟨id,1,sum,[]⟩]++(dG l).drop (low (fun(y:aI)=>bn y.ID id) (dG l)),0)):=by
  obtain⟨h1,h2,h3,h4⟩:=afi (l:=l) (id:=id) (sum:=sum)
  by_cases a:id<1∨1048576<id
  · left; rw [h1 a]; exact⟨rfl,au⟩
  · cases b:gU l id with
    | true=>left; rw [h2 a b]; exact⟨rfl,au⟩
    | false=>
      by_cases c:32<=(dG l).length
      · left; rw [h3 a b c]; exact⟨rfl,au⟩
      · right; exact⟨aj,aj,rfl,aj,h4 a b aj⟩
theorem CY(l:List aI)(id sum:Int):lY (eD l id sum).1=true/\((eD l id sum).2≠0->(eD l id sum).1=[])/\((eD l id sum).2=0->gU l id=false/\∀ c:aI,c.ID≠id->(c∈(eD l id sum).1↔c∈dG l)):=by
  rcases Gf l id sum with ⟨h1,h2⟩ | ⟨h1,h2,h3,h4,h5⟩
  · rw [h1]; exact⟨rfl,λ_=>rfl,λh=>absurd h h2⟩
  · rw [h5]
    have hm:=xK l;obtain⟨m1,m2,m3⟩:=mQ.1 hm;obtain⟨r1,r2⟩:=(zu _ _).1 m3;have hno:∀ c∈dG l,c.ID≠id:=(Yb hm (by rw [(Ku l id).2]; exact h3)).1
    have hni:id∉(dG l).map aI.ID:=λh=>by
      obtain⟨c,hc,e⟩:=jI.1 h; exact hno c hc e
    obtain⟨i1,i2⟩:=alO r1 hni
    have hmem:∀ c:aI,c∈((dG l).take (low (fun(y:aI)=>bn y.ID id) (dG l))++[(⟨id,1,sum,[]⟩:aI)]++(dG l).drop (low (fun(y:aI)=>bn y.ID id) (dG l)))↔c=⟨id,1,sum,[]⟩∨c∈dG l:=λc=>by
      have:c∈dG l↔c∈(dG l).take (low (fun(y:aI)=>bn y.ID id) (dG l))∨c∈(dG l).drop (low (fun(y:aI)=>bn y.ID id) (dG l)):=by rw [<- kU,sJ]
      simp only [kU,nL,this]
      constructor
      · rintro((h7 | h7) | h7)
        · exact .inr (.inl h7)
        · exact .inl h7
        · exact .inr (.inr h7)
      · rintro(h7 | h7 | h7)
        · exact .inl (.inr h7)
        · exact .inl (.inl h7)
        · exact .inr h7
    refine⟨mQ.2 ⟨λc hc=>?_,?_,?_⟩,λh=>absurd Y h,λ_=>⟨h3,λc hc=>?_⟩⟩
    · rcases(hmem c).1 hc with rfl | hc
      · rfl
      · exact m1 c hc
    · have:=CF (fun(y:aI)=>bn y.ID id) (dG l)
      simp only [iO,fE,kN,oI,qx]; omega
    · rw [zu]
      have e:(((dG l).take (low (fun(y:aI)=>bn y.ID id) (dG l))++[(⟨id,1,sum,[]⟩:aI)]++(dG l).drop (low (fun(y:aI)=>bn y.ID id) (dG l))).map aI.ID)=((dG l).map aI.ID).take (low (fun(y:Int)=>bn y id) ((dG l).map aI.ID))++[id]++((dG l).map aI.ID).drop (low (fun(y:Int)=>bn y id) ((dG l).map aI.ID)):=by
        rw [ap9,pR,pR,List.map_take,List.map_drop]; rfl
      rw [e];refine⟨i1,λx hx=>?_⟩
      rcases(i2 x).1 hx with rfl | hx
      · exact⟨h1,h2⟩
      · exact r2 x hx
    · rw [hmem]
      constructor
      · rintro(rfl | h)
        · exact absurd Y hc
        · exact h
      · exact .inr
theorem afj(l:List aI)(id:Int):lY (iB l id).1=true/\((iB l id).2≠0->(iB l id).1=[])/\((iB l id).2=0->gU l id=true/\gU (iB l id).1 id=false/\(iB l id).1.length+1=(dG l).length/\∀ c:aI,c.ID≠id->(c∈(iB l id).1↔c∈dG l)):=by
  rcases ag6 l id with ⟨_,h⟩ | ⟨n,x,_,h1,h2,h3,h4,h5⟩
  · rw [ai8 h]; exact⟨rfl,λ_=>rfl,λh=>by simp at h⟩
  · rw [afh h3 h5]
    have hm:=ap8 (xK l) (NQ (dG l) n);have hlt:=aJ h1
    have hmem:∀ c,c∈dG l↔c=x∨c∈(dG l).take n++(dG l).drop (n+1):=λc=>by
      have e:dG l=(dG l).take n++x::(dG l).drop (n+1):=by
        rw [show x::(dG l).drop (n+1)=(dG l).drop n from by rw [yu hlt,(mM.1 h1).2],sJ]
      constructor
      · intro h; rw [e] at h
        rcases kU.1 h with h | h
        · exact .inr (kU.2 (.inl h))
        · rcases iN.1 h with h | h
          · exact .inl h
          · exact .inr (kU.2 (.inr h))
      · rintro(h | h)
        · rw [h]; exact dA h1
        · exact(NQ (dG l) n).subset h
    have hu:=afe (xK l)
    have axI:∀ c∈(dG l).take n++(dG l).drop (n+1),c.ID≠id:=λc hc e=>by
      rcases kU.1 hc with h | h
      · obtain⟨a,ha⟩:=qV h
        have h6:=aJ ha
        simp only [fE] at h6
        rw [Qc aj] at ha;have:=hu.get (by omega:a<n) ha h1; omega
      · obtain⟨a,ha⟩:=qV h
        rw [Cc] at ha;have:=hu.get (by omega:n<n+1+a) h1 ha; omega
    refine⟨hm,λh=>absurd Y h,λ_=>⟨h3,?_,?_,λc hc=>?_⟩⟩
    · cases hb:gU ((dG l).take n++(dG l).drop (n+1)) id with
      | false=>rfl
      | true=>exact absurd (zP hm hb).2 (axI _ (DW hm hb))
    · simp only [iO,fE,kN]; omega
    · rw [hmem c]
      constructor
      · exact .inr
      · rintro(h | h)
        · subst h; exact absurd h2 hc
        · exact h
theorem ajc(l:List aI)(id bq bM:Int):lY (lN l id bq bM).1=true/\((lN l id bq bM).2≠0->(lN l id bq bM).1=[]):=by
  unfold lN
  split
  · exact⟨Y,λ_=>Y⟩
  · exact F9 l id (UL bM aj aj)
end Go.Proofs.YtlhnnmlenkahlaaGreat
