/- Lemmas. -/
import Derived.Test.YtlhnnmlenkahlaaGreatrG5
set_option maxRecDepth 4000
set_option linter.all false
namespace Go.Proofs.YtlhnnmlenkahlaaGreat
open Go.RowKit Go.Proofs.Tryz
def Xf:=@Nat.lt_trichotomy
def ab8:=@List.mem_or_eq_of_mem_set
def Xg:=@List.mem_of_mem_drop
def aib:=@List.eraseIdx_sublist
variable {l:List aH}{id most sum bE bR j:Int}{f:aH->aH × Int}{c:aH}{α:Type}{i jk:Nat}{S S0:Nat->Prop}{F:List lH}{A jl:ah}{ks:List bI}{k:bI}{h:List Int}
theorem Xh:l9 prog 57:=ay
theorem IE:eu prog 59 2 2:=ay
theorem aj2:Size prog 57 1:=ay
theorem apf:bF prog 420:=ay
theorem ayx:bF prog 418:=ay
theorem ayy:bF prog 419:=ay
theorem ayz:bF prog 422:=ay
theorem ayA:ab7 421 444 445 55 3 1 8 Tryz.f421.name:=⟨func421.trans (aR some ak),⟨_,func444,ak,ak,ak,ak⟩,fB,iQ,rZ,ak,Lh,ayu⟩
def ab9:=@OY _ _ _ _ _ _ _ _ dQ ayA
def dB(sum:Int)(c:aH):aH × Int:=if 1073741824<=c.aB then(c,7) else({ c with aB:=c.aB+1,Sum:=sum,aD:=[] },0)
def qg(bE bR:Int)(c:aH):aH × Int:=if bR≠c.aB then(c,9) else if hits (fun(y:Int)=>bB y bE) c.aD=true then(c,6) else({ c with aD:=c.aD.take (low (fun(y:Int)=>bB y bE) c.aD)++[bE]++c.aD.drop (low (fun(y:Int)=>bB y bE) c.aD) },0)
def jw(bE:Int)(c:aH):aH × Int:=if hits (fun(y:Int)=>bB y bE) c.aD=true then({ c with aD:=c.aD.take (low (fun(y:Int)=>bB y bE) c.aD)++c.aD.drop (low (fun(y:Int)=>bB y bE) c.aD+1) },0) else(c,5)
theorem Qo(ks:List bI):(ks.map bI.c).length=ks.length:=jY _
def gy(l:List aH)(id:Int)(f:aH->aH × Int):List aH × Int:=
  if hits (fun(y:aH)=>bB y.ID id) (d9 l)=true then
    match (d9 l)[low (fun(y:aH)=>bB y.ID id) (d9 l)]? with
    | some c=>if(f c).2=0 then((d9 l).set (low (fun(y:aH)=>bB y.ID id) (d9 l)) (f c).1,0) else([],(f c).2)
    | none=>([],5)
  else([],5)
theorem Vr(h:hits (fun(y:aH)=>bB y.ID id) (d9 l)=true)(hc:(d9 l)[low (fun(y:aH)=>bB y.ID id) (d9 l)]? = some c) :
    gy l id f=if(f c).2=0 then((d9 l).set (low (fun(y:aH)=>bB y.ID id) (d9 l)) (f c).1,0) else([],(f c).2):=by
  unfold gy; rw [aO h,hc]
theorem aj3(h:hits (fun(y:aH)=>bB y.ID id) (d9 l)=false):gy l id f=([],5):=by
  unfold gy; rw [aK (by rw [h]; decide)]
theorem IG:∀(l:List Int)(z:Int),nX most z l=true->l=[]∨(l.length:Int)<=most+1 - z
  | [],_,_=>.inl rfl
  | y::l,z,h=>by
    simp only [nX,bN,eG,dX,bV] at h
    right
    rcases IG l _ h.2 with rfl | h1
    · simp; omega
    · simp only [pF]; omega
theorem rT(h:qx c=true):1<=c.aB/\c.aB<=1073741824/\nX 16 1 c.aD=true:=by
  simp only [qx,eG,dX,bV,fP] at h
  exact⟨aj,aj,h.2⟩
theorem Qp(h:qx c=true):c.aD.length<=16:=by
  rcases IG _ _ (rT h).2.2 with h1 | h1
  · rw [h1]; simp
  · omega
theorem Nr(h:qx c=true):Up (fun(x:Int)=>x) c.aD:=DL _ _ (rT h).2.2
theorem G6{l:List α}{x:α}(h:l[i]? = some x):l.set i x=l:=by
  apply Gg; intro j
  by_cases e:i=j
  · subst e; rw [qb (aJ h),h]
  · rw [Ea e]
def aBY(w:World)(f:FuncId)(kf:List Value)(dof:aH->aH × Int):Prop:=
  ∀(S:Nat->Prop)(w':World)(F:List lH)(A:ah)(c:Nat)(ks:List bI)(i:Nat)(k:bI),Hp w S w' (aS tK 59 A c ks::fZ dQ 3 (ks.map ru)::F)->ks[i]? = some k->qx k.c=true->
    bS prog f (([.pointer (some ((GN A).add (i*4)))]:List Value)++kf).toArray w' λv w''=>∃ k':bI,k'.c=(dof k.c).1/\v=.int .i64 (dof k.c).2/\Hp w S w'' (aS tK 59 A c (ks.set i k')::fZ dQ 3 ((ks.set i k').map ru)::F)
theorem aaH(l:List aH):∀ x∈d9 l,qx x=true:=(kF.1 (zi l)).1
theorem amv{b w:World}{c:Nat}{axh:Nat}(aBZ:Bx b axh 57 [.int .u32 sum])(H0:Hp b S w (aS tK 59 A c ks::fZ dQ 3 (ks.map ru)::F))(hx:ks[i]? = some k)(ho:qx k.c=true) :
    bS prog 418 #[.pointer (some ((GN A).add (i*4))),.pointer (some ⟨axh,0,none⟩)] w λv w'=>∃ k':bI,k'.c=(dB sum k.c).1/\v=.int .i64 (dB sum k.c).2/\Hp b S w' (aS tK 59 A c (ks.set i k')::fZ dQ 3 ((ks.set i k').map ru)::F):=by
 refine sV func418 ntmps418 Y ?_;have hr:(ks.map ru)[i]? = some (k.B,k.d,k.c.aD):=by rw [lK,hx]; rfl
 have H1:=(H0.BM s1 hr).sel s0;have hlen:=Qp ho;have hup:=(Nr ho);have aB0:=rT ho;refine iZ Y<|aW<|bQ Y<|ev (eX Y)<|ev (dW tH Y (fH _ _ _))<|ev (iL jD Y ((H1.o s2).fF (j:=1) hx Y))<|ev (qK Y Y)<|dn<|bK Y (λhc8=>?_) (λhc8=>?_)
 ·replace hc8:=gW hc8;refine iZ Y<|uX Y ?_
  have hd:dB sum k.c=(k.c,7):=by exact aO hc8
  have hs:ks=ks.set i k:=(G6 hx).symm;have KZ:=((((H1.mV 0 2).sel s2)).Dk hr s1 s1).sel s1;exact⟨k,(aR Prod.fst hd).symm,aR (Value.int .i64) (aR Prod.snd hd).symm,by rw [Ef,<- hs]; exact KZ⟩
 replace hc8:=iJ hc8;refine jm ?_;refine bQ Y<|ev (eX Y)<|ev (dW tH Y (fH _ _ _))<|ev (iL jD Y ((H1.o s2).fF (j:=1) hx Y))<|ev (Ev.add Y Y (wQ aj aj))<|ev (eX Y)<|ev (dW tH Y (fH _ _ _))<|se (i:=i) (f:=1) (x:=k) (x':=(⟨{ k.c with aB:=k.c.aB+1 },k.B,k.d⟩:bI)) (ds:=[.int .i64 (k.c.aB+1)]) H1 s2 Y Y Y hx Y rZ (pU Y) Y (by rintro _ _ _ ⟨⟩; rfl) λw1 K1=>?_
 have hl1:(ks.set i (⟨{ k.c with aB:=k.c.aB+1 },k.B,k.d⟩:bI)).length=ks.length:=gJ ..;have bP:(ks.set i (⟨{ k.c with aB:=k.c.aB+1 },k.B,k.d⟩:bI))[i]? = some (⟨{ k.c with aB:=k.c.aB+1 },k.B,k.d⟩:bI):=qb (aJ hx);refine dn<|bQ Y<|mv Y<|ev (dx Xh Y (aBZ.ext K1.ext) Y)<|ev (eX Y)<|ev (dW IE Y (fH _ _ _))<|se (i:=i) (f:=2) (x:=(⟨{ k.c with aB:=k.c.aB+1 },k.B,k.d⟩:bI)) (x':=(⟨{ (⟨{ k.c with aB:=k.c.aB+1 },k.B,k.d⟩:bI).c with Sum:=sum },(⟨{ k.c with aB:=k.c.aB+1 },k.B,k.d⟩:bI).B,(⟨{ k.c with aB:=k.c.aB+1 },k.B,k.d⟩:bI).d⟩:bI)) (ds:=[.int .u32 sum]) K1 s0 Y Y Y bP Y aj2 (pU Y) Y (by rintro _ _ _ ⟨⟩; rfl) λw2 K2=>?_
 have hl2:((ks.set i (⟨{ k.c with aB:=k.c.aB+1 },k.B,k.d⟩:bI)).set i (⟨{ (⟨{ k.c with aB:=k.c.aB+1 },k.B,k.d⟩:bI).c with Sum:=sum },(⟨{ k.c with aB:=k.c.aB+1 },k.B,k.d⟩:bI).B,(⟨{ k.c with aB:=k.c.aB+1 },k.B,k.d⟩:bI).d⟩:bI)).length=(ks.set i (⟨{ k.c with aB:=k.c.aB+1 },k.B,k.d⟩:bI)).length:=gJ ..;have kZ:((ks.set i (⟨{ k.c with aB:=k.c.aB+1 },k.B,k.d⟩:bI)).set i (⟨{ (⟨{ k.c with aB:=k.c.aB+1 },k.B,k.d⟩:bI).c with Sum:=sum },(⟨{ k.c with aB:=k.c.aB+1 },k.B,k.d⟩:bI).B,(⟨{ k.c with aB:=k.c.aB+1 },k.B,k.d⟩:bI).d⟩:bI))[i]? = some (⟨{ (⟨{ k.c with aB:=k.c.aB+1 },k.B,k.d⟩:bI).c with Sum:=sum },(⟨{ k.c with aB:=k.c.aB+1 },k.B,k.d⟩:bI).B,(⟨{ k.c with aB:=k.c.aB+1 },k.B,k.d⟩:bI).d⟩:bI):=qb (aJ bP);refine ev (eX Y)<|ev (dW j5 Y (fH _ _ _))<|se (i:=i) (f:=3) (x:=(⟨{ (⟨{ k.c with aB:=k.c.aB+1 },k.B,k.d⟩:bI).c with Sum:=sum },(⟨{ k.c with aB:=k.c.aB+1 },k.B,k.d⟩:bI).B,(⟨{ k.c with aB:=k.c.aB+1 },k.B,k.d⟩:bI).d⟩:bI)) (x':=(⟨{ (⟨{ (⟨{ k.c with aB:=k.c.aB+1 },k.B,k.d⟩:bI).c with Sum:=sum },(⟨{ k.c with aB:=k.c.aB+1 },k.B,k.d⟩:bI).B,(⟨{ k.c with aB:=k.c.aB+1 },k.B,k.d⟩:bI).d⟩:bI).c with aD:=[] },none,0⟩:bI)) (ds:=[.slice none 0 0]) K2 s0 Y Y Y kZ Y Ql (pU Y) Y (by rintro _ _ _ ⟨⟩; rfl) λw3 K3=>?_
 have hl3:(((ks.set i (⟨{ k.c with aB:=k.c.aB+1 },k.B,k.d⟩:bI)).set i (⟨{ (⟨{ k.c with aB:=k.c.aB+1 },k.B,k.d⟩:bI).c with Sum:=sum },(⟨{ k.c with aB:=k.c.aB+1 },k.B,k.d⟩:bI).B,(⟨{ k.c with aB:=k.c.aB+1 },k.B,k.d⟩:bI).d⟩:bI)).set i (⟨{ (⟨{ (⟨{ k.c with aB:=k.c.aB+1 },k.B,k.d⟩:bI).c with Sum:=sum },(⟨{ k.c with aB:=k.c.aB+1 },k.B,k.d⟩:bI).B,(⟨{ k.c with aB:=k.c.aB+1 },k.B,k.d⟩:bI).d⟩:bI).c with aD:=[] },none,0⟩:bI)).length=((ks.set i (⟨{ k.c with aB:=k.c.aB+1 },k.B,k.d⟩:bI)).set i (⟨{ (⟨{ k.c with aB:=k.c.aB+1 },k.B,k.d⟩:bI).c with Sum:=sum },(⟨{ k.c with aB:=k.c.aB+1 },k.B,k.d⟩:bI).B,(⟨{ k.c with aB:=k.c.aB+1 },k.B,k.d⟩:bI).d⟩:bI)).length:=gJ ..;have hx3:(((ks.set i (⟨{ k.c with aB:=k.c.aB+1 },k.B,k.d⟩:bI)).set i (⟨{ (⟨{ k.c with aB:=k.c.aB+1 },k.B,k.d⟩:bI).c with Sum:=sum },(⟨{ k.c with aB:=k.c.aB+1 },k.B,k.d⟩:bI).B,(⟨{ k.c with aB:=k.c.aB+1 },k.B,k.d⟩:bI).d⟩:bI)).set i (⟨{ (⟨{ (⟨{ k.c with aB:=k.c.aB+1 },k.B,k.d⟩:bI).c with Sum:=sum },(⟨{ k.c with aB:=k.c.aB+1 },k.B,k.d⟩:bI).B,(⟨{ k.c with aB:=k.c.aB+1 },k.B,k.d⟩:bI).d⟩:bI).c with aD:=[] },none,0⟩:bI))[i]? = some (⟨{ (⟨{ (⟨{ k.c with aB:=k.c.aB+1 },k.B,k.d⟩:bI).c with Sum:=sum },(⟨{ k.c with aB:=k.c.aB+1 },k.B,k.d⟩:bI).B,(⟨{ k.c with aB:=k.c.aB+1 },k.B,k.d⟩:bI).d⟩:bI).c with aD:=[] },none,0⟩:bI):=qb (aJ kZ);refine dn<|iZ Y<|jc Y ?_
 have H1:=K3.nil dQ 3;have hd:dB sum k.c=((⟨{ (⟨{ (⟨{ k.c with aB:=k.c.aB+1 },k.B,k.d⟩:bI).c with Sum:=sum },(⟨{ k.c with aB:=k.c.aB+1 },k.B,k.d⟩:bI).B,(⟨{ k.c with aB:=k.c.aB+1 },k.B,k.d⟩:bI).d⟩:bI).c with aD:=[] },none,0⟩:bI).c,0):=by exact aK hc8
 have hs:(((ks.set i (⟨{ k.c with aB:=k.c.aB+1 },k.B,k.d⟩:bI)).set i (⟨{ (⟨{ k.c with aB:=k.c.aB+1 },k.B,k.d⟩:bI).c with Sum:=sum },(⟨{ k.c with aB:=k.c.aB+1 },k.B,k.d⟩:bI).B,(⟨{ k.c with aB:=k.c.aB+1 },k.B,k.d⟩:bI).d⟩:bI)).set i (⟨{ (⟨{ (⟨{ k.c with aB:=k.c.aB+1 },k.B,k.d⟩:bI).c with Sum:=sum },(⟨{ k.c with aB:=k.c.aB+1 },k.B,k.d⟩:bI).B,(⟨{ k.c with aB:=k.c.aB+1 },k.B,k.d⟩:bI).d⟩:bI).c with aD:=[] },none,0⟩:bI))=ks.set i (⟨{ (⟨{ (⟨{ k.c with aB:=k.c.aB+1 },k.B,k.d⟩:bI).c with Sum:=sum },(⟨{ k.c with aB:=k.c.aB+1 },k.B,k.d⟩:bI).B,(⟨{ k.c with aB:=k.c.aB+1 },k.B,k.d⟩:bI).d⟩:bI).c with aD:=[] },none,0⟩:bI):=(by simp only [List.set_set]);have KZ:=(((((H1.rm s2).sel s0).sel s1)).Dk hr s1 s1).sel s1;exact⟨(⟨{ (⟨{ (⟨{ k.c with aB:=k.c.aB+1 },k.B,k.d⟩:bI).c with Sum:=sum },(⟨{ k.c with aB:=k.c.aB+1 },k.B,k.d⟩:bI).B,(⟨{ k.c with aB:=k.c.aB+1 },k.B,k.d⟩:bI).d⟩:bI).c with aD:=[] },none,0⟩:bI),(aR Prod.fst hd).symm,aR (Value.int .i64) (aR Prod.snd hd).symm,by rw [Ef,<- hs]; exact KZ⟩
theorem amw{b w:World}{c:Nat}{Eh:Nat}(Ll:Bx b Eh 3 [.int .i64 bE]){aaI:Nat}(amx:Bx b aaI 3 [.int .i64 bR])(H0:Hp b S w (aS tK 59 A c ks::fZ dQ 3 (ks.map ru)::F))(hx:ks[i]? = some k)(ho:qx k.c=true) :
    bS prog 419 #[.pointer (some ((GN A).add (i*4))),.pointer (some ⟨Eh,0,none⟩),.pointer (some ⟨aaI,0,none⟩)] w λv w'=>∃ k':bI,k'.c=(qg bE bR k.c).1/\v=.int .i64 (qg bE bR k.c).2/\Hp b S w' (aS tK 59 A c (ks.set i k')::fZ dQ 3 ((ks.set i k').map ru)::F):=by
 refine sV func419 ntmps419 Y ?_;have hr:(ks.map ru)[i]? = some (k.B,k.d,k.c.aD):=by rw [lK,hx]; rfl
 have H1:=(H0.BM s1 hr).sel s0;have hlen:=Qp ho;have hup:=(Nr ho);have aB0:=rT ho;have hlow:=D8 (fun(y:Int)=>bB y bE) k.c.aD;refine iZ Y<|qo ak ak<|bA (bf Y) Y<|bA (eX Y) Y<|bA (dW j5 Y (fH _ _ _)) Y<|bA (iL Bf Y ((H1.o s2).fF (j:=3) hx Y)) Y<|bA (dx jD Y (Ll.ext H1.ext) Y) Y<|Fv (v:=.tuple #[.int .i64 ((low (fun(y:Int)=>bB y bE) k.c.aD:Nat):Int),.bool (hits (fun(y:Int)=>bB y bE) k.c.aD)]) Y Y Y apf (λwq eq=>(Oy wq ((H1.o s0).ext eq) bE (Up.mono (key:=fun(x:Int)=>x) hup bE) aj).mono (by rintro _ _ ⟨rfl,fQ⟩; exact⟨rfl,fQ.ext⟩)) rfl<|bA (bf rfl) rfl<|bA (wS (vs:=[.int .i64 ((low (fun(y:Int)=>bB y bE) k.c.aD:Nat):Int),.bool (hits (fun(y:Int)=>bB y bE) k.c.aD)]) rfl rfl) rfl<|bA (wS (vs:=[.int .i64 ((low (fun(y:Int)=>bB y bE) k.c.aD:Nat):Int),.bool (hits (fun(y:Int)=>bB y bE) k.c.aD)]) rfl rfl) rfl<|bA (om rfl) rfl<|bA (om rfl) rfl<|qp λw1 e1=>?_
 have K1:=H1.grow e1;refine aW<|cB<|qo ak ak<|bA (dx jD Y (amx.ext K1.ext) Y) Y<|bA (bf Y) Y<|bA (eX Y) Y<|bA (dW tH Y (fH _ _ _)) Y<|bA (iL jD Y ((K1.o s2).fF (j:=1) hx Y)) Y<|bA (nQ Y Y) Y<|bA (om Y) Y<|qp λw2 e2=>?_
 have K2:=K1.grow e2;refine bK Y (λhc16=>?_) (λhc16=>?_)
 ·replace hc16:=oQ hc16;refine iZ Y<|Ox Y ?_
  have hd:qg bE bR k.c=(k.c,9):=by exact aO (by simpa using hc16)
  have hs:ks=ks.set i k:=(G6 hx).symm;have KZ:=((((K2.mV 0 2).sel s2)).Dk hr s1 s1).sel s1;exact⟨k,(aR Prod.fst hd).symm,aR (Value.int .i64) (aR Prod.snd hd).symm,by rw [Ef,<- hs]; exact KZ⟩
 replace hc16:=oU hc16;refine bQ Y<|bU Y<|bK Y (λrz=>?_) (λrz=>?_)
 ·refine iZ Y<|Ox Y ?_
  have hd:qg bE bR k.c=(k.c,6):=by exact(aK (by simpa using hc16)).trans (aO rz)
  have hs:ks=ks.set i k:=(G6 hx).symm;have KZ:=((((K2.mV 0 2).sel s2)).Dk hr s1 s1).sel s1;exact⟨k,(aR Prod.fst hd).symm,aR (Value.int .i64) (aR Prod.snd hd).symm,by rw [Ef,<- hs]; exact KZ⟩
 refine xQ ?_;refine He K2 (λ_ K=>((K.rm s2).rm s0)) (λl0 rk lJ wJ=>∃(jR:ah)(jO:Nat),lJ=l0/\Hp b S wJ (aS tK 59 A c (ks.set i (⟨{ k.c with aD:=(k.c.aD.take (low (fun(y:Int)=>bB y bE) k.c.aD)++[bE]++k.c.aD.drop (low (fun(y:Int)=>bB y bE) k.c.aD)) },jR,jO⟩:bI))::aS dQ 3 jR jO (k.c.aD.take (low (fun(y:Int)=>bB y bE) k.c.aD)++[bE]++k.c.aD.drop (low (fun(y:Int)=>bB y bE) k.c.aD))::rk)) (λhns H1=>?_) ?_
 ·have k1:=((H1.rm s2).rm s0);refine kX 0 Y Y k1<|kX 1 Y Y k1<|tcz 2 Y Y k1<|lD 3 Y (λ_ _=>dW j5 Y (fH _ _ _)) k1<|kX 5 Y Y k1<|lD 6 Y (λ_ hK=>dx jD Y (Ll.ext hK.ext) Y) k1<|Jn H1 (λl0 rk lJ wJ=>∃(g1:Nat),lJ=(29,.slice k.B k.c.aD.length k.d)::(32,.slice (some ⟨g1,0,none⟩) (([bE]:List Int).length) 1)::l0/\Hp b S wJ (aS dQ 3 (some ⟨g1,0,none⟩) 1 ([bE]:List Int)::rk)) 4 255 ?_ λhS1=>?_
  ·rintro _ w7 ⟨g1,rfl,K7⟩;refine O1 8 Y<|gX Y (ab9 (i:=low (fun(y:Int)=>bB y bE) k.c.aD) K7 s1 s0 aj aj) ?_
   rintro _ w8 ⟨Vs,cp2,rfl,K8⟩;have k6:=((K8.rm s2).rm s0);refine aQ k6<|tcz 9 Y Y k6<|lD 10 Y (λ_ _=>dW j5 Y (fH _ _ _)) k6<|O1 11 Y<|se (i:=i) (f:=3) (x:=k) (x':=(⟨{ k.c with aD:=(k.c.aD.take (low (fun(y:Int)=>bB y bE) k.c.aD)++[bE]++k.c.aD.drop (low (fun(y:Int)=>bB y bE) k.c.aD)) },Vs,cp2⟩:bI)) (ds:=[.slice Vs ((k.c.aD.take (low (fun(y:Int)=>bB y bE) k.c.aD)++[bE]++k.c.aD.drop (low (fun(y:Int)=>bB y bE) k.c.aD)).length) cp2]) K8 s2 Y Y Y hx Y Ql (pU Y) Y (by rintro _ _ _ ⟨⟩; rfl) λw9 K9=>?_
   have hl2:(ks.set i (⟨{ k.c with aD:=(k.c.aD.take (low (fun(y:Int)=>bB y bE) k.c.aD)++[bE]++k.c.aD.drop (low (fun(y:Int)=>bB y bE) k.c.aD)) },Vs,cp2⟩:bI)).length=ks.length:=gJ ..;have kZ:(ks.set i (⟨{ k.c with aD:=(k.c.aD.take (low (fun(y:Int)=>bB y bE) k.c.aD)++[bE]++k.c.aD.drop (low (fun(y:Int)=>bB y bE) k.c.aD)) },Vs,cp2⟩:bI))[i]? = some (⟨{ k.c with aD:=(k.c.aD.take (low (fun(y:Int)=>bB y bE) k.c.aD)++[bE]++k.c.aD.drop (low (fun(y:Int)=>bB y bE) k.c.aD)) },Vs,cp2⟩:bI):=qb (aJ hx);have k7:=(K9.cU 0 2);refine aQ k7<|Dn ⟨Vs,cp2,Y,K9⟩ Y
  refine O2 4 7 Y Y ?_ ?_
  ·refine ev (iL Bf Y ((H1.o s2).fF (j:=3) hx Y))<|aQ k1<|O1 7 Y<|Az (τ:=dQ) (x:=bE) Y (by intro _; apply pW) rfl H1 (λ_ _=>rfl) λg3 Oz K10=>?_
   have k8:=((K10.rm s3).cU 0 2);exact Kj hS1 k8 ⟨g3,Y,K10⟩ Y
  ·refine Az (τ:=dQ) (x:=bE) Y (by intro _; apply pW) rfl H1 (λ_ _=>rfl) λg4 Ti tZ=>?_;have k9:=((tZ.rm s3).cU 0 2);refine aQ k9<|O1 4 Y<|ev (iL Bf Y ((tZ.o s3).fF (j:=3) hx Y))<|Kj hS1 k9 ⟨g4,Y,tZ⟩ Y
 rintro _ Sm ⟨jR,jO,rfl,sJ⟩;refine iZ Y<|jc Y ?_
 have hd:qg bE bR k.c=((⟨{ k.c with aD:=(k.c.aD.take (low (fun(y:Int)=>bB y bE) k.c.aD)++[bE]++k.c.aD.drop (low (fun(y:Int)=>bB y bE) k.c.aD)) },jR,jO⟩:bI).c,0):=by exact(aK (by simpa using hc16)).trans (aK (by rw [rz]; decide))
 have hs:(ks.set i (⟨{ k.c with aD:=(k.c.aD.take (low (fun(y:Int)=>bB y bE) k.c.aD)++[bE]++k.c.aD.drop (low (fun(y:Int)=>bB y bE) k.c.aD)) },jR,jO⟩:bI))=ks.set i (⟨{ k.c with aD:=(k.c.aD.take (low (fun(y:Int)=>bB y bE) k.c.aD)++[bE]++k.c.aD.drop (low (fun(y:Int)=>bB y bE) k.c.aD)) },jR,jO⟩:bI):=(by simp only [List.set_set]);have KZ:=((sJ).Dk hr s1 s1).sel s1;exact⟨(⟨{ k.c with aD:=(k.c.aD.take (low (fun(y:Int)=>bB y bE) k.c.aD)++[bE]++k.c.aD.drop (low (fun(y:Int)=>bB y bE) k.c.aD)) },jR,jO⟩:bI),(aR Prod.fst hd).symm,aR (Value.int .i64) (aR Prod.snd hd).symm,by rw [Ef,<- hs]; exact KZ⟩
theorem ae5{b w:World}{c:Nat}{Eh:Nat}(Ll:Bx b Eh 3 [.int .i64 bE])(H0:Hp b S w (aS tK 59 A c ks::fZ dQ 3 (ks.map ru)::F))(hx:ks[i]? = some k)(ho:qx k.c=true) :
    bS prog 422 #[.pointer (some ((GN A).add (i*4))),.pointer (some ⟨Eh,0,none⟩)] w λv w'=>∃ k':bI,k'.c=(jw bE k.c).1/\v=.int .i64 (jw bE k.c).2/\Hp b S w' (aS tK 59 A c (ks.set i k')::fZ dQ 3 ((ks.set i k').map ru)::F):=by
 refine sV func422 ntmps422 Y ?_;have hr:(ks.map ru)[i]? = some (k.B,k.d,k.c.aD):=by rw [lK,hx]; rfl
 have H1:=(H0.BM s1 hr).sel s0;have hlen:=Qp ho;have hup:=(Nr ho);have aB0:=rT ho;have hlow:=D8 (fun(y:Int)=>bB y bE) k.c.aD;refine iZ Y<|qo ak ak<|bA (bf Y) Y<|bA (eX Y) Y<|bA (dW j5 Y (fH _ _ _)) Y<|bA (iL Bf Y ((H1.o s2).fF (j:=3) hx Y)) Y<|bA (dx jD Y (Ll.ext H1.ext) Y) Y<|Fv (v:=.tuple #[.int .i64 ((low (fun(y:Int)=>bB y bE) k.c.aD:Nat):Int),.bool (hits (fun(y:Int)=>bB y bE) k.c.aD)]) Y Y Y apf (λwq eq=>(Oy wq ((H1.o s0).ext eq) bE (Up.mono (key:=fun(x:Int)=>x) hup bE) aj).mono (by rintro _ _ ⟨rfl,fQ⟩; exact⟨rfl,fQ.ext⟩)) rfl<|bA (bf rfl) rfl<|bA (wS (vs:=[.int .i64 ((low (fun(y:Int)=>bB y bE) k.c.aD:Nat):Int),.bool (hits (fun(y:Int)=>bB y bE) k.c.aD)]) rfl rfl) rfl<|bA (wS (vs:=[.int .i64 ((low (fun(y:Int)=>bB y bE) k.c.aD:Nat):Int),.bool (hits (fun(y:Int)=>bB y bE) k.c.aD)]) rfl rfl) rfl<|bA (om rfl) rfl<|bA (om rfl) rfl<|qp λw1 e1=>?_
 have K1:=H1.grow e1;refine aW<|bQ Y<|ev (iB Y)<|dn<|bK Y (λhc16=>?_) (λhc16=>?_)
 ·try simp only [fq,dX,bN,eH,eG,fP,bO,bV] at hc16
  refine iZ Y<|uX Y ?_
  have hd:jw bE k.c=(k.c,5):=by exact aK (by rw [hc16]; decide)
  have hs:ks=ks.set i k:=(G6 hx).symm;have KZ:=((((K1.mV 0 2).sel s2)).Dk hr s1 s1).sel s1;exact⟨k,(aR Prod.fst hd).symm,aR (Value.int .i64) (aR Prod.snd hd).symm,by rw [Ef,<- hs]; exact KZ⟩
 try simp only [fq,dX,bN,eH,eG,fP,bO,bV] at hc16
 have hc16:hits (fun(y:Int)=>bB y bE) k.c.aD=true:=by simpa using hc16
 obtain⟨xb,hxb,hkb⟩:=qU (key:=fun(x:Int)=>x) hc16;have Xd:=aJ hxb;refine jm ?_;refine bQ Y<|mv Y<|ev (eX Y)<|ev (dW j5 Y (fH _ _ _))<|ev (iL Bf Y ((K1.o s2).fF (j:=3) hx Y))<|mv Y<|mv Y<|ev (Ev.add Y Y (wQ aj aj))<|gX Y (ab4 (i:=low (fun(y:Int)=>bB y bE) k.c.aD) (j:=low (fun(y:Int)=>bB y bE) k.c.aD+1) (K1.sel s0) aj aj) ?_
 rintro _ w2 ⟨rfl,K2⟩;refine ev (eX Y)<|ev (dW j5 Y (fH _ _ _))<|se (i:=i) (f:=3) (x:=k) (x':=(⟨{ k.c with aD:=(k.c.aD.take (low (fun(y:Int)=>bB y bE) k.c.aD)++k.c.aD.drop (low (fun(y:Int)=>bB y bE) k.c.aD+1)) },k.B,k.d⟩:bI)) (ds:=[.slice k.B ((k.c.aD.take (low (fun(y:Int)=>bB y bE) k.c.aD)++k.c.aD.drop (low (fun(y:Int)=>bB y bE) k.c.aD+1)).length) k.d]) K2 s2 Y Y Y hx Y Ql (pU Y) Y (by rintro _ _ _ ⟨⟩; rfl) λw3 K3=>?_
 have hl1:(ks.set i (⟨{ k.c with aD:=(k.c.aD.take (low (fun(y:Int)=>bB y bE) k.c.aD)++k.c.aD.drop (low (fun(y:Int)=>bB y bE) k.c.aD+1)) },k.B,k.d⟩:bI)).length=ks.length:=gJ ..;have bP:(ks.set i (⟨{ k.c with aD:=(k.c.aD.take (low (fun(y:Int)=>bB y bE) k.c.aD)++k.c.aD.drop (low (fun(y:Int)=>bB y bE) k.c.aD+1)) },k.B,k.d⟩:bI))[i]? = some (⟨{ k.c with aD:=(k.c.aD.take (low (fun(y:Int)=>bB y bE) k.c.aD)++k.c.aD.drop (low (fun(y:Int)=>bB y bE) k.c.aD+1)) },k.B,k.d⟩:bI):=qb (aJ hx);refine dn<|iZ Y<|jc Y ?_
 have hd:jw bE k.c=((⟨{ k.c with aD:=(k.c.aD.take (low (fun(y:Int)=>bB y bE) k.c.aD)++k.c.aD.drop (low (fun(y:Int)=>bB y bE) k.c.aD+1)) },k.B,k.d⟩:bI).c,0):=by exact aO hc16
 have hs:(ks.set i (⟨{ k.c with aD:=(k.c.aD.take (low (fun(y:Int)=>bB y bE) k.c.aD)++k.c.aD.drop (low (fun(y:Int)=>bB y bE) k.c.aD+1)) },k.B,k.d⟩:bI))=ks.set i (⟨{ k.c with aD:=(k.c.aD.take (low (fun(y:Int)=>bB y bE) k.c.aD)++k.c.aD.drop (low (fun(y:Int)=>bB y bE) k.c.aD+1)) },k.B,k.d⟩:bI):=(by simp only [List.set_set]);have KZ:=((K3).Dk hr s1 s1).sel s1;exact⟨(⟨{ k.c with aD:=(k.c.aD.take (low (fun(y:Int)=>bB y bE) k.c.aD)++k.c.aD.drop (low (fun(y:Int)=>bB y bE) k.c.aD+1)) },k.B,k.d⟩:bI),(aR Prod.fst hd).symm,aR (Value.int .i64) (aR Prod.snd hd).symm,by rw [Ef,<- hs]; exact KZ⟩
theorem Tj(w:World)(jo:Sl bJ S0 w jl jk l)(id:Int){apg:FuncId}{ae6:List Value}(aB1:bF prog apg)(dof:aH->aH × Int)(aB2:aBY w apg ae6 dof)(hn:l.length<=100000)(hh:∀ x∈l,x.aD.length<=100000) :
    bS prog 417 #[.slice jl l.length jk,.int .i64 id,.func (.func apg) #[] ae6.toArray] w λv w'=>∃(A0:ah)(c0:Nat),v=.tuple #[.slice A0 (((gy l id dof).1).length) c0,.int .i64 ((gy l id dof).2)]/\Hp w S0 w' [aS bJ 59 A0 c0 ((gy l id dof).1)]:=by
 refine kP S0 func417 ntmps417 Y λH0=>?_;have EY:=jo.bH;have hf:=DK l;refine rg<|iI Y<|bU Y<|bQ Y<|gX Y (W9 (S0:=Rd w S0 [] _) _ (H0.a jo) hn hh) ?_
 rintro _ w1 ⟨A,c,ks,rfl,hkc,h9⟩;have K1:=H0.c2 h9;have hkl:ks.length=(d9 l).length:=by rw [<- hkc,jY]
 refine bU Y ?_;have hrd:=K1.rdK s0 s0;refine lC (t:=0) Y (aR (λz=>Value.slice A z c) (Qo ks).symm)<|bQ Y<|mv Y<|mU K1 Y (G5 _ hrd id (by rw [hkc]; exact BN l) (by rw [jY]; omega)) λw2 K2=>mv rfl<|xt rfl rfl<|xt rfl rfl<|iI rfl<|bU rfl<|aW<|bQ rfl<|ev (iB rfl)<|dn<|bK rfl (λlN=>?_) (λlN=>?_)
 ·try simp only [fq,dX,bN,eH,eG,fP,bO,bV] at lN
  refine rg<|iI Y<|bU Y<|uX Y ?_
  have hch:=aj3 (l:=l) (id:=id) (f:=dof) (by rw [<- hkc]; simpa using lN);have H1:=K2.nil bJ 59;have eO:(([]:List aH):List aH)=((gy l id dof).1):=by rw [hch]
  have H2:=(eO▸H1:Hp w S0 w2 (aS bJ 59 none 0 ((gy l id dof).1)::[aS tK 59 A c ks,fZ dQ 3 (ks.map ru)]));have fQ:(5:Int)=((gy l id dof).2):=by rw [hch]
  exact⟨none,0,by rw [<- eO,<- fQ] <;> rfl,(H2.cU 1 2)⟩
 try simp only [fq,dX,bN,eH,eG,fP,bO,bV] at lN
 have lN:hits (fun(y:aH)=>bB y.ID id) (ks.map bI.c)=true:=by simpa using lN
 obtain⟨xb,hxb,hkb⟩:=qU (key:=aH.ID) lN;have Xd:=aJ hxb;rw [jY] at Xd;refine jm ?_;refine aW<|lC (t:=0) Y (aR (λz=>Value.slice A z c) (Qo ks))<|bQ Y<|mv Y<|mv Y ?_
 obtain⟨x1,bP⟩:=bC (xs:=ks) (i:=low (fun(y:aH)=>bB y.ID id) (ks.map bI.c)) aj;refine ev (cu (i:=low (fun(y:aH)=>bB y.ID id) (ks.map bI.c)) iN o9 Y Y Y (aJ bP) ((K2.o s0).some_ bP)) ?_;have ho:qx x1.c=true:=aaH l _ (by rw [<- hkc]; exact gQ.2 ⟨x1,bT bP,rfl⟩);refine xK Y Y Y aB1 (aB2 _ _ _ _ _ _ _ _ K2 bP ho) Y ?_;rintro _ w3 ⟨k1,hk1,rfl,K3⟩;refine bU Y<|bQ Y<|ev (nQ Y Y)<|dn<|bK Y (λhc27=>?_) (λhc27=>?_)
 ·replace hc27:=oQ hc27;refine bQ Y<|iI Y<|bU Y<|uX Y ?_
  have hkx:(d9 l)[low (fun(y:aH)=>bB y.ID id) (d9 l)]? = some x1.c:=by rw [<- hkc,lK,bP]; rfl
  have hch:=Vr (f:=dof) (by rw [<- hkc]; exact lN) hkx;rw [aK (by simpa using hc27)] at hch;have H3:=K3.nil bJ 59;have jW:(([]:List aH):List aH)=((gy l id dof).1):=by rw [hch]
  have H4:=(jW▸H3:Hp w S0 w3 (aS bJ 59 none 0 ((gy l id dof).1)::[aS tK 59 A c (ks.set (low (fun(y:aH)=>bB y.ID id) (ks.map bI.c)) k1),fZ dQ 3 ((ks.set (low (fun(y:aH)=>bB y.ID id) (ks.map bI.c)) k1).map ru)]));have mH:((dof x1.c).2:Int)=((gy l id dof).2):=by rw [hch]
  exact⟨none,0,by rw [mH,<- jW] <;> rfl,(H4.cU 1 2)⟩
 replace hc27:=oU hc27;refine jm ?_;refine bQ Y<|iI Y<|bU Y<|jc Y ?_
 have hkx:(d9 l)[low (fun(y:aH)=>bB y.ID id) (d9 l)]? = some x1.c:=by rw [<- hkc,lK,bP]; rfl
 have hch:=Vr (f:=dof) (by rw [<- hkc]; exact lN) hkx;rw [aO (by simpa using hc27)] at hch;have he:gy l id dof=((ks.set (low (fun(y:aH)=>bB y.ID id) (ks.map bI.c)) k1).map bI.c,0):=by rw [hch,amr,hk1,hkc]
 have KZ:=(K3.WJ s1).ofK s1 s0;exact⟨A,c,by rw [he,jY,gJ] <;> rfl,by rw [he]; exact KZ⟩
theorem aph(w:World)(jo:Sl bJ S0 w jl jk l)(id:Int)(sum:Int)(hn:l.length<=100000)(hh:∀ x∈l,x.aD.length<=100000) :
    bS prog 356 #[.slice jl l.length jk,.int .i64 id,.int .u32 sum] w λv w'=>∃(A0:ah)(c0:Nat),v=.tuple #[.slice A0 (((gy l id (dB sum)).1).length) c0,.int .i64 ((gy l id (dB sum)).2)]/\Hp w S0 w' [aS bJ 59 A0 c0 ((gy l id (dB sum)).1)]:=by
 refine kP S0 func356 ntmps356 Y λH0=>?_;have EY:=jo.bH;refine rg<|bx Y Y H0 λg1 w1 K1=>iI Y<|bU Y<|bQ Y<|mv Y<|ev (rW Y)<|gX Y (Tj _ (K1.a jo) id (ae6:=[.pointer (some ⟨g1,0,none⟩)]) ayx (dB sum) (λ_ _ _ _ _ _ _ _ H hx ho=>amv (K1.x s0) H hx ho) aj hh) ?_
 rintro _ w2 ⟨oo,oq,rfl,h2⟩;have K2:=K1.c1 h2;have Xc:=(K2.o s0).bH;refine xt Y Y<|xt Y Y<|iI Y<|bU Y<|jc Y ?_
 exact⟨oo,oq,Y,(K2.rm s1)⟩
def kS(l:List aH)(id bE bR:Int):List aH × Int:=if bE<1∨16<bE then([],1) else gy l id (qg bE bR)
theorem apj(w:World)(jo:Sl bJ S0 w jl jk l)(id:Int)(bE:Int)(bR:Int)(hn:l.length<=100000)(hh:∀ x∈l,x.aD.length<=100000) :
    bS prog 359 #[.slice jl l.length jk,.int .i64 id,.int .i64 bE,.int .i64 bR] w λv w'=>∃(A0:ah)(c0:Nat),v=.tuple #[.slice A0 (((kS l id bE bR).1).length) c0,.int .i64 ((kS l id bE bR).2)]/\Hp w S0 w' [aS bJ 59 A0 c0 ((kS l id bE bR).1)]:=by
 refine kP S0 func359 ntmps359 Y λH0=>?_;have EY:=jo.bH;refine rg<|bx Y Y H0 λg1 w1 K1=>bx Y Y K1 λg2 w2 K2=>iI Y<|bU Y<|aW<|rg<|nO K2 s1 Y<|ev (fC Y Y)<|mv Y<|iP 3 15 ((decide (bE<1))||(decide (16<bE))) ?_ ?_
 ·cases aG2:decide (bE<1) with
  | true=>
   refine dN<|dN<|ev (dH Y Y)<|dM Y
  | false=>
   have aJw:=iJ aG2;refine gby K2 s1 Y<|bn Y (pV Y Y) Y<|ev (dL Y Y)<|dM Y
 refine dn<|bK Y (λtY=>?_) (λtY=>?_)
 ·try simp only [fq,dX,bO,bV] at tY
  refine rg<|iI Y<|bU Y<|uX Y ?_
  have H1:=K2.nil bJ 59;have eO:(([]:List aH):List aH)=((kS l id bE bR).1):=by unfold kS; rw [aO tY]
  have H2:=(eO▸H1:Hp w S0 w2 (aS bJ 59 none 0 ((kS l id bE bR).1)::[dY g2 3 [.int .i64 bR],dY g1 3 [.int .i64 bE]]));have fQ:(1:Int)=((kS l id bE bR).2):=by unfold kS; rw [aO tY]
  exact⟨none,0,by rw [<- eO,<- fQ] <;> rfl,(H2.cU 1 2)⟩
 try simp only [fq,dX,bO,bV] at tY
 refine jm ?_;refine bQ Y<|mv Y<|ev (rW Y)<|gX Y (Tj _ (K2.a jo) id (ae6:=[.pointer (some ⟨g1,0,none⟩),.pointer (some ⟨g2,0,none⟩)]) ayy (qg bE bR) (λ_ _ _ _ _ _ _ _ H hx ho=>amw (K2.x s1) (K2.x s0) H hx ho) aj hh) ?_
 rintro _ w3 ⟨nR,nS,rfl,h3⟩;have K3:=K2.c1 h3;have apk:=(K3.o s0).bH;refine xt Y Y<|xt Y Y<|iI Y<|bU Y<|jc Y ?_
 have jW:((gy l id (qg bE bR)).1:List aH)=((kS l id bE bR).1):=by unfold kS; rw [aK aj]
 rw [jW] at K3;have mH:((gy l id (qg bE bR)).2:Int)=((kS l id bE bR).2):=by unfold kS; rw [aK aj]
 exact⟨nR,nS,by rw [jW,mH] <;> rfl,(K3.cU 1 2)⟩
theorem aic(w:World)(jo:Sl bJ S0 w jl jk l)(id:Int)(bE:Int)(hn:l.length<=100000)(hh:∀ x∈l,x.aD.length<=100000) :
    bS prog 361 #[.slice jl l.length jk,.int .i64 id,.int .i64 bE] w λv w'=>∃(A0:ah)(c0:Nat),v=.tuple #[.slice A0 (((gy l id (jw bE)).1).length) c0,.int .i64 ((gy l id (jw bE)).2)]/\Hp w S0 w' [aS bJ 59 A0 c0 ((gy l id (jw bE)).1)]:=by
 refine kP S0 func361 ntmps361 Y λH0=>?_;have EY:=jo.bH;refine rg<|bx Y Y H0 λg1 w1 K1=>iI Y<|bU Y<|bQ Y<|mv Y<|ev (rW Y)<|gX Y (Tj _ (K1.a jo) id (ae6:=[.pointer (some ⟨g1,0,none⟩)]) ayz (jw bE) (λ_ _ _ _ _ _ _ _ H hx ho=>ae5 (K1.x s0) H hx ho) aj hh) ?_
 rintro _ w2 ⟨oo,oq,rfl,h2⟩;have K2:=K1.c1 h2;have Xc:=(K2.o s0).bH;refine xt Y Y<|xt Y Y<|iI Y<|bU Y<|jc Y ?_
 exact⟨oo,oq,Y,(K2.rm s1)⟩
theorem uQ{key:α->Int}{l:List α}(hu:Up key l){x y:α}(hx:x∈l)(hy:y∈l)(h:key x=key y):x=y:=by
  obtain⟨i,hi⟩:=sM hx;obtain⟨j,hj⟩:=sM hy
  rcases Xf i j with h1 | h1 | h1
  · have:=hu.get h1 hi hj; omega
  · subst h1; rw [hi] at hj; exact abU hj
  · have:=hu.get h1 hj hi; omega
theorem acd(h:kR l=true):Up aH.ID l:=by have:=BN l; rwa [vZ h] at this
theorem Vt(h:kR l=true):∀ x∈l,qx x=true:=(kF.1 h).1
theorem zQ(h:kR l=true):l.length<=32/\∀ x∈l,x.aD.length<=16:=⟨(kF.1 h).2.1,λx hx=>Qp (Vt h x hx)⟩
theorem xR(h:kR l=true)(hb:gY l j=true):l[low (fun(y:aH)=>bB y.ID j) l]? = some (aU l j)/\(aU l j).ID=j:=by
  unfold gY at hb;obtain⟨x,hx,hk⟩:=qU (key:=aH.ID) hb;have h1:=Tf hb hx;rw [vZ h] at hx;rw [h1]; exact⟨hx,hk⟩
theorem zR(h:kR l=true):gY l j=true↔∃ c∈l,c.ID=j:=by
  unfold gY; rw [vZ h]; exact uZ (acd h) j
theorem BD(h:kR l=true)(hb:gY l j=true):aU l j∈l:=bT (xR h hb).1
theorem Ei(h:kR l=true)(hc:c∈l):gY l c.ID=true/\aU l c.ID=c:=by
  have h1:=(zR h).2 ⟨c,hc,rfl⟩;exact⟨h1,uQ (acd h) (BD h h1) hc (xR h h1).2⟩
theorem aaJ(h:kR l=true)(hb:gY l j=false):(∀ c∈l,c.ID≠j)/\aU l j=⟨0,0,0,[]⟩:=by
  refine⟨λc hc e=>?_,Xa hb⟩;rw [(zR h).2 ⟨c,hc,e⟩] at hb; cases hb
theorem auu{c':aH}(hx:l[i]? = some c)(hid:c'.ID=c.ID):(l.set i c').map aH.ID=l.map aH.ID:=by
  rw [Gl,hid];exact G6 (by rw [lK,hx]; rfl)
theorem auv(h:kR l=true){c':aH}(hx:l[i]? = some c)(hid:c'.ID=c.ID)(ho:qx c'=true):kR (l.set i c')=true:=by
  obtain⟨h1,h2,h3⟩:=kF.1 h;refine kF.2 ⟨λx hm=>?_,by rw [gJ]; exact h2,by rw [auu hx hid]; exact h3⟩
  rcases ab8 hm with h4 | rfl
  · exact h1 x h4
  · exact ho
theorem Xi(h:kR l=true)(hb:gY l id=true)(f:aH->aH × Int):gy l id f=if(f (aU l id)).2=0 then(l.set (low (fun(y:aH)=>bB y.ID id) l) (f (aU l id)).1,0) else([],(f (aU l id)).2):=by
  have h1:=xR h hb;have h2:=Vr (l:=l) (id:=id) (f:=f) (c:=aU l id) hb (by rw [vZ h]; exact h1.1);rw [h2,vZ h]
theorem ace(hb:gY l id=false)(f:aH->aH × Int):gy l id f=([],5):=aj3 hb
theorem Qq(ho:qx c=true)(n:Int):hits (fun(y:Int)=>bB y n) c.aD=true↔n∈c.aD:=by
  have h:=uZ (key:=fun(x:Int)=>x) (Nr ho) n;rw [h]; simp
theorem aie(h:qx c=true)(hv:c.aB<1073741824)(sum:Int):qx { c with aB:=c.aB+1,Sum:=sum,aD:=[] }=true:=by
  have:=rT h
  simp [qx,nX]; omega
theorem ayB(hu:Up aH.ID l){n:Nat}{x:aH}(hx:l[n]? = some x)(hid:x.ID=id):low (fun(y:aH)=>bB y.ID id) l=n:=by
  refine xk (by have:=aJ hx; omega) (λa y ha hy=>?_) (λa y ha hy=>?_)
  · rw [qL]; have:=hu.get ha hy hx; omega
  · rw [qL]
    rcases P8 n a with h1 | h1
    · have:=hu.get h1 hx hy; omega
    · have:n=a:=aj
      subst this; rw [hx] at hy; cases hy; omega
theorem Ns(l:List aH)(id:Int):aU (d9 l) id=aU l id/\gY (d9 l) id=gY l id:=by
  unfold aU gY; rw [vZ (zi l)]; exact⟨rfl,rfl⟩
theorem aj4(l:List aH)(id:Int):(idxOf (fun(y:aH)=>decide (y.ID=id)) (d9 l)=-1/\gY l id=false)∨∃(n:Nat)(x:aH),idxOf (fun(y:aH)=>decide (y.ID=id)) (d9 l)=(n:Int)/\(d9 l)[n]? = some x/\x.ID=id/\gY l id=true/\aU l id=x/\low (fun(y:aH)=>bB y.ID id) (d9 l)=n:=by
  rcases vT (fun(y:aH)=>decide (y.ID=id)) (d9 l) with ⟨h1,h2⟩ | ⟨n,x,h1,h2,h3,_⟩
  · left; refine⟨h1,?_⟩
    cases hb:gY l id with
    | false=>rfl
    | true=>
      rw [<- (Ns l id).2] at hb;have h3:=xR (zi l) hb;have h4:=h2 _ (bT h3.1)
      simp [h3.2] at h4
  · right
    have h4:x.ID=id:=by simpa using h3
    have h5:=Ei (zi l) (bT h2);rw [h4,(Ns l id).1,(Ns l id).2] at h5;exact⟨n,x,h1,h2,h4,h5.1,h5.2,ayB (BN l) h2 h4⟩
theorem auw{n:Nat}{x:aH}(h3:gY l id=true)(hx:(d9 l)[n]? = some x)(h5:low (fun(y:aH)=>bB y.ID id) (d9 l)=n)(f:aH->aH × Int):gy l id f=if(f x).2=0 then((d9 l).set n (f x).1,0) else([],(f x).2):=by
  rw [Vr (c:=x) h3 (by rw [h5]; exact hx),h5]
theorem aif{n:Nat}(h3:gY l id=true)(h5:low (fun(y:aH)=>bB y.ID id) (d9 l)=n):iV l id=((d9 l).take n++(d9 l).drop (n+1),0):=by
  unfold iV; rw [aO (show hits (fun(y:aH)=>bB y.ID id) (d9 l)=true from h3),h5]
theorem amy(h:gY l id=false):iV l id=([],5):=by
  unfold iV; rw [aK (by unfold gY at h; rw [h]; decide)]
def aj5(f:Int->Bool):Nat->List Int
  | 0=>[]
  | n+1=>aj5 f n++(if f ((n+1:Nat):Int) then[((n+1:Nat):Int)] else[])
theorem amA(f:Int->Bool):∀(n:Nat)(x:Int),x∈aj5 f n↔1<=x/\x<=n/\f x=true
  | 0,x=>by simp [aj5]; omega
  | n+1,x=>by
    simp only [aj5,jN,amA f n]
    split
    · rename_i h
      simp only [j4]
      constructor
      · rintro(h1 | h1)
        · exact⟨h1.1,aj,h1.2.2⟩
        · subst h1; exact⟨aj,aj,h⟩
      · rintro⟨h1,h2,h3⟩
        by_cases e:x=((n+1:Nat):Int)
        · exact .inr e
        · exact .inl ⟨h1,aj,h3⟩
    · rename_i h
      simp only [lM,sN]
      constructor
      · rintro h1; exact⟨h1.1,aj,h1.2.2⟩
      · rintro⟨h1,h2,h3⟩
        refine⟨h1,?_,h3⟩
        rcases(by omega:(n:Int)<x∨x<=n) with h4 | h4
        · have:x=((n+1:Nat):Int):=aj
          subst this; exact absurd h3 h
        · exact h4
theorem amB(hu:h.Pairwise (λx y=>x<y))(n:Int):(∀ x∈h.take (low (fun(y:Int)=>bB y n) h),x<n)/\(∀ x∈h.drop (low (fun(y:Int)=>bB y n) h),n<=x):=by
  have key:∀(h:List Int),h.Pairwise (λx y=>x<y)->(∀ x∈h.take (low (fun(y:Int)=>bB y n) h),x<n)/\(∀ x∈h.drop (low (fun(y:Int)=>bB y n) h),n<=x):=by
    intro h
    induction h with
    | nil=>intro _; simp
    | cons a h ih=>
      intro hu;have h1:=pG.1 hu;have ih:=ih h1.2
      by_cases ha:a<n
      · have e:low (fun(y:Int)=>bB y n) (a::h)=low (fun(y:Int)=>bB y n) h+1:=by
          unfold low; rw [List.countP_cons_of_pos]; simpa [qL] using ha
        rw [e];refine⟨λx hx=>?_,λx hx=>ih.2 x (by simpa using hx)⟩;rw [abN] at hx
        rcases iX.1 hx with rfl | hx
        · exact ha
        · exact ih.1 x hx
      · have e:low (fun(y:Int)=>bB y n) (a::h)=0:=by
          unfold low;rw [List.countP_eq_zero];intro x hx
          simp only [bO,qL]
          rcases iX.1 hx with rfl | hx
          · exact ha
          · have:=h1.1 x hx; omega
        rw [e];refine⟨λx hx=>by simp at hx,λx hx=>?_⟩
        rcases iX.1 hx with rfl | hx
        · omega
        · have:=h1.1 x hx; omega
  exact key h hu
theorem apl(hu:h.Pairwise (λx y=>x<y)){n:Int}(hn:n∉h):(h.take (low (fun(y:Int)=>bB y n) h)++[n]++h.drop (low (fun(y:Int)=>bB y n) h)).Pairwise (λx y=>x<y)/\∀ x,x∈(h.take (low (fun(y:Int)=>bB y n) h)++[n]++h.drop (low (fun(y:Int)=>bB y n) h))↔x=n∨x∈h:=by
  obtain⟨h1,h2⟩:=amB hu n
  have h2':∀ x∈h.drop (low (fun(y:Int)=>bB y n) h),n<x:=λx hx=>by
    have h3:=h2 x hx;have h4:x≠n:=λe=>hn (e▸Xg hx);omega
  have h5:(h.take (low (fun(y:Int)=>bB y n) h)++h.drop (low (fun(y:Int)=>bB y n) h)).Pairwise (λx y=>x<y):=by rw [uF]; exact hu
  have h6:=y8.1 h5
  constructor
  · rw [oV]
    refine y8.2 ⟨h6.1,y8.2 ⟨OU _ _,h6.2.1,λx hx y hy=>?_⟩,λx hx y hy=>?_⟩
    · rw [j4.1 hx]; exact h2' y hy
    · rcases jN.1 hy with hy | hy
      · rw [j4.1 hy]; exact h1 x hx
      · exact h6.2.2 x hx y hy
  · intro x
    have:x∈h↔x∈h.take (low (fun(y:Int)=>bB y n) h)∨x∈h.drop (low (fun(y:Int)=>bB y n) h):=by rw [<- jN,uF]
    simp only [jN,j4,this]
    constructor
    · rintro((h7 | h7) | h7)
      · exact .inr (.inl h7)
      · exact .inl h7
      · exact .inr (.inr h7)
    · rintro(h7 | h7 | h7)
      · exact .inl (.inr h7)
      · exact .inl (.inl h7)
      · exact .inr h7
theorem aii:(id<1∨1048576<id->eB l id sum=([],1))/\(¬ (id<1∨1048576<id)->gY l id=true->eB l id sum=([],6))/\(¬ (id<1∨1048576<id)->gY l id=false->32<=(d9 l).length->eB l id sum=([],7))/\
    (¬ (id<1∨1048576<id)->gY l id=false->(d9 l).length<32->eB l id sum=((d9 l).take (low (fun(y:aH)=>bB y.ID id) (d9 l))++[⟨id,1,sum,[]⟩]++(d9 l).drop (low (fun(y:aH)=>bB y.ID id) (d9 l)),0)):=by
  unfold eB gY;refine⟨λh=>aO h,λh1 h2=>(aK h1).trans (aO h2),λh1 h2 h3=>(aK h1).trans ((aK (by rw [h2]; decide)).trans (aO h3)),λh1 h2 h3=>(aK h1).trans ((aK (by rw [h2]; decide)).trans (aK aj))⟩
theorem zn:∀(l:List Int)(z:Int),nX most z l=true↔l.Pairwise (λx y=>x<y)/\∀ x∈l,z<=x/\x<=most
  | [],z=>by simp [nX]
  | y::l,z=>by
    constructor
    · intro h; exact⟨DL _ _ h,GY _ _ h⟩
    · rintro⟨h1,h2⟩
      have h3:=pG.1 h1;have h4:=h2 y av
      simp only [nX,bN,eG,dX,bV]
      refine⟨⟨aj,aj⟩,(zn l (y+1)).2 ⟨h3.2,λx hx=>?_⟩⟩;have h5:=h3.1 x hx;have h6:=h2 x (by simp [hx]);omega
theorem Tq{z:Int}{l m:List Int}(h:nX most z l=true)(s:m.Sublist l):nX most z m=true:=by
  obtain⟨h1,h2⟩:=(zn l z).1 h;exact(zn m z).2 ⟨h1.sublist s,λx hx=>h2 x (s.subset hx)⟩
theorem auy{m:List aH}(h:kR l=true)(s:m.Sublist l):kR m=true:=by
  obtain⟨h1,h2,h3⟩:=kF.1 h;exact kF.2 ⟨λx hx=>h1 x (s.subset hx),lV s.length_le h2,Tq h3 (s.map _)⟩
theorem Qr(l:List α)(i:Nat):(l.take i++l.drop (i+1)).Sublist l:=by
  rw [<- OV]; exact aib ..
theorem ae7(ho:qx c=true)(hr:nX 16 1 h=true):qx { c with aD:=h }=true:=by
  have:=rT ho
  simp [qx,hr]; omega
theorem ae8(ho:qx c=true):qx { c with aD:=c.aD.take i++c.aD.drop (i+1) }=true:=ae7 ho (Tq (rT ho).2.2 (Qr _ _))
theorem amC(ho:qx c=true)(h1:1<=bE)(h2:bE<=16)(hn:bE∉c.aD):qx { c with aD:=c.aD.take (low (fun(y:Int)=>bB y bE) c.aD)++[bE]++c.aD.drop (low (fun(y:Int)=>bB y bE) c.aD) }=true:=by
  refine ae7 ho ((zn _ _).2 ?_);obtain⟨h3,h4⟩:=apl (Nr ho) hn;refine⟨h3,λx hx=>?_⟩
  rcases(h4 x).1 hx with rfl | hx
  · exact⟨h1,h2⟩
  · exact GY _ _ (rT ho).2.2 x hx
theorem aaK(l:List aH)(id:Int)(f:aH->aH × Int):(gY l id=false/\gy l id f=([],5))∨(gY l id=true/\(f (aU l id)).2≠0/\gy l id f=([],(f (aU l id)).2))∨
    (gY l id=true/\(f (aU l id)).2=0/\∃ n,(d9 l)[n]? = some (aU l id)/\(aU l id).ID=id/\gy l id f=((d9 l).set n (f (aU l id)).1,0)):=by
  rcases aj4 l id with ⟨_,h⟩ | ⟨n,x,_,h1,h2,h3,h4,h5⟩
  · exact .inl ⟨h,ace h f⟩
  · subst h4
    have h6:=auw h3 h1 h5 f
    by_cases h7:(f (aU l id)).2=0
    · rw [aO h7] at h6
      exact .inr (.inr ⟨h3,h7,n,h1,h2,h6⟩)
    · rw [aK h7] at h6
      exact .inr (.inl ⟨h3,h7,h6⟩)
theorem Nu(ho:qx c=true)(he:(dB sum c).2=0):(dB sum c).1={ c with aB:=c.aB+1,Sum:=sum,aD:=[] }/\qx (dB sum c).1=true/\(dB sum c).1.ID=c.ID:=by
  unfold dB at he ⊢
  by_cases h:1073741824<=c.aB
  · rw [aO h] at he; simp at he
  · rw [aK h]; exact⟨rfl,aie ho aj sum,rfl⟩
theorem Nv(ho:qx c=true)(h1:1<=bE)(h2:bE<=16)(he:(qg bE bR c).2=0):bR=c.aB/\bE∉c.aD/\(qg bE bR c).1={ c with aD:=c.aD.take (low (fun(y:Int)=>bB y bE) c.aD)++[bE]++c.aD.drop (low (fun(y:Int)=>bB y bE) c.aD) }/\qx (qg bE bR c).1=true/\(qg bE bR c).1.ID=c.ID:=by
  unfold qg at he ⊢
  by_cases h:bR≠c.aB
  · rw [aO h] at he; simp at he
  · rw [aK h] at he ⊢
    by_cases h3:hits (fun(y:Int)=>bB y bE) c.aD=true
    · rw [aO h3] at he; simp at he
    · have h4:bE∉c.aD:=λhm=>h3 ((Qq ho bE).2 hm)
      rw [aK h3]; exact⟨aj,h4,rfl,amC ho h1 h2 h4,rfl⟩
theorem FD(ho:qx c=true)(he:(jw bE c).2=0):bE∈c.aD/\(jw bE c).1={ c with aD:=c.aD.take (low (fun(y:Int)=>bB y bE) c.aD)++c.aD.drop (low (fun(y:Int)=>bB y bE) c.aD+1) }/\qx (jw bE c).1=true/\(jw bE c).1.ID=c.ID:=by
  unfold jw at he ⊢
  by_cases h3:hits (fun(y:Int)=>bB y bE) c.aD=true
  · rw [aO h3]; exact⟨(Qq ho bE).1 h3,rfl,ae8 ho,rfl⟩
  · rw [aK h3] at he; simp at he
def Good(f:aH->aH × Int):Prop:=∀ c,qx c=true->(f c).2=0->qx (f c).1=true/\(f c).1.ID=c.ID
theorem yQ(sum:Int):Good (dB sum):=λ_ ho he=>(Nu ho he).2
theorem Xj(bR:Int)(h1:1<=bE)(h2:bE<=16):Good (qg bE bR):=λ_ ho he=>(Nv ho h1 h2 he).2.2.2
theorem Qs(bE:Int):Good (jw bE):=λ_ ho he=>(FD ho he).2.2
theorem II(l:List aH)(id:Int)(hf:Good f):kR (gy l id f).1=true/\((gy l id f).2≠0->(gy l id f).1=[]):=by
  rcases aaK l id f with ⟨_,h⟩ | ⟨_,h1,h⟩ | ⟨h0,h1,n,h2,h3,h⟩
  · rw [h]; exact⟨rfl,λ_=>rfl⟩
  · rw [h]; exact⟨rfl,λ_=>rfl⟩
  · rw [h]
    have h4:=hf _ (aaH l _ (bT h2)) h1;exact⟨auv (zi l) h2 h4.2 h4.1,λh=>absurd Y h⟩
theorem auz(l:List aH)(id:Int):low (fun(y:Int)=>bB y id) (l.map aH.ID)=low (fun(y:aH)=>bB y.ID id) l:=by
  simp only [low]; rw [List.countP_map]; rfl
theorem Dq(l:List aH)(id sum:Int):((eB l id sum).1=[]/\(eB l id sum).2≠0)∨(1<=id/\id<=1048576/\gY l id=false/\(d9 l).length<32/\eB l id sum=((d9 l).take (low (fun(y:aH)=>bB y.ID id) (d9 l))++[⟨id,1,sum,[]⟩]++(d9 l).drop (low (fun(y:aH)=>bB y.ID id) (d9 l)),0)):=by
  obtain⟨h1,h2,h3,h4⟩:=aii (l:=l) (id:=id) (sum:=sum)
  by_cases a:id<1∨1048576<id
  · left; rw [h1 a]; exact⟨rfl,au⟩
  · cases b:gY l id with
    | true=>left; rw [h2 a b]; exact⟨rfl,au⟩
    | false=>
      by_cases c:32<=(d9 l).length
      · left; rw [h3 a b c]; exact⟨rfl,au⟩
      · right; exact⟨aj,aj,rfl,aj,h4 a b aj⟩
theorem Ej(l:List aH)(id sum:Int):kR (eB l id sum).1=true/\((eB l id sum).2≠0->(eB l id sum).1=[])/\((eB l id sum).2=0->gY l id=false/\∀ c:aH,c.ID≠id->(c∈(eB l id sum).1↔c∈d9 l)):=by
  rcases Dq l id sum with ⟨h1,h2⟩ | ⟨h1,h2,h3,h4,h5⟩
  · rw [h1]; exact⟨rfl,λ_=>rfl,λh=>absurd h h2⟩
  · rw [h5]
    have hm:=zi l;obtain⟨m1,m2,m3⟩:=kF.1 hm;obtain⟨r1,r2⟩:=(zn _ _).1 m3;have hno:∀ c∈d9 l,c.ID≠id:=(aaJ hm (by rw [(Ns l id).2]; exact h3)).1
    have hni:id∉(d9 l).map aH.ID:=λh=>by
      obtain⟨c,hc,e⟩:=gQ.1 h; exact hno c hc e
    obtain⟨i1,i2⟩:=apl r1 hni
    have hmem:∀ c:aH,c∈((d9 l).take (low (fun(y:aH)=>bB y.ID id) (d9 l))++[(⟨id,1,sum,[]⟩:aH)]++(d9 l).drop (low (fun(y:aH)=>bB y.ID id) (d9 l)))↔c=⟨id,1,sum,[]⟩∨c∈d9 l:=λc=>by
      have:c∈d9 l↔c∈(d9 l).take (low (fun(y:aH)=>bB y.ID id) (d9 l))∨c∈(d9 l).drop (low (fun(y:aH)=>bB y.ID id) (d9 l)):=by rw [<- jN,uF]
      simp only [jN,j4,this]
      constructor
      · rintro((h7 | h7) | h7)
        · exact .inr (.inl h7)
        · exact .inl h7
        · exact .inr (.inr h7)
      · rintro(h7 | h7 | h7)
        · exact .inl (.inr h7)
        · exact .inl (.inl h7)
        · exact .inr h7
    refine⟨kF.2 ⟨λc hc=>?_,?_,?_⟩,λh=>absurd Y h,λ_=>⟨h3,λc hc=>?_⟩⟩
    · rcases(hmem c).1 hc with rfl | hc
      · rfl
      · exact m1 c hc
    · have:=D8 (fun(y:aH)=>bB y.ID id) (d9 l)
      simp only [jd,fO,kW,pF,rH]; omega
    · rw [zn]
      have e:(((d9 l).take (low (fun(y:aH)=>bB y.ID id) (d9 l))++[(⟨id,1,sum,[]⟩:aH)]++(d9 l).drop (low (fun(y:aH)=>bB y.ID id) (d9 l))).map aH.ID)=((d9 l).map aH.ID).take (low (fun(y:Int)=>bB y id) ((d9 l).map aH.ID))++[id]++((d9 l).map aH.ID).drop (low (fun(y:Int)=>bB y id) ((d9 l).map aH.ID)):=by
        rw [auz,qc,qc,List.map_take,List.map_drop]; rfl
      rw [e];refine⟨i1,λx hx=>?_⟩
      rcases(i2 x).1 hx with rfl | hx
      · exact⟨h1,h2⟩
      · exact r2 x hx
    · rw [hmem]
      constructor
      · rintro(rfl | h)
        · exact absurd Y hc
        · exact h
      · exact .inr
theorem aij(l:List aH)(id:Int):kR (iV l id).1=true/\((iV l id).2≠0->(iV l id).1=[])/\((iV l id).2=0->gY l id=true/\gY (iV l id).1 id=false/\(iV l id).1.length+1=(d9 l).length/\∀ c:aH,c.ID≠id->(c∈(iV l id).1↔c∈d9 l)):=by
  rcases aj4 l id with ⟨_,h⟩ | ⟨n,x,_,h1,h2,h3,h4,h5⟩
  · rw [amy h]; exact⟨rfl,λ_=>rfl,λh=>by simp at h⟩
  · rw [aif h3 h5]
    have hm:=auy (zi l) (Qr (d9 l) n);have hlt:=aJ h1
    have hmem:∀ c,c∈d9 l↔c=x∨c∈(d9 l).take n++(d9 l).drop (n+1):=λc=>by
      have e:d9 l=(d9 l).take n++x::(d9 l).drop (n+1):=by
        rw [show x::(d9 l).drop (n+1)=(d9 l).drop n from by rw [zO hlt,(nP.1 h1).2],uF]
      constructor
      · intro h; rw [e] at h
        rcases jN.1 h with h | h
        · exact .inr (jN.2 (.inl h))
        · rcases iX.1 h with h | h
          · exact .inl h
          · exact .inr (jN.2 (.inr h))
      · rintro(h | h)
        · rw [h]; exact bT h1
        · exact(Qr (d9 l) n).subset h
    have hu:=acd (zi l)
    have aB3:∀ c∈(d9 l).take n++(d9 l).drop (n+1),c.ID≠id:=λc hc e=>by
      rcases jN.1 hc with h | h
      · obtain⟨a,ha⟩:=sM h
        have h6:=aJ ha
        simp only [fO] at h6
        rw [OW aj] at ha;have:=hu.get (by omega:a<n) ha h1; omega
      · obtain⟨a,ha⟩:=sM h
        rw [DW] at ha;have:=hu.get (by omega:n<n+1+a) h1 ha; omega
    refine⟨hm,λh=>absurd Y h,λ_=>⟨h3,?_,?_,λc hc=>?_⟩⟩
    · cases hb:gY ((d9 l).take n++(d9 l).drop (n+1)) id with
      | false=>rfl
      | true=>exact absurd (xR hm hb).2 (aB3 _ (BD hm hb))
    · simp only [jd,fO,kW]; omega
    · rw [hmem c]
      constructor
      · exact .inr
      · rintro(h | h)
        · subst h; exact absurd h2 hc
        · exact h
theorem amD(l:List aH)(id bE bR:Int):kR (kS l id bE bR).1=true/\((kS l id bE bR).2≠0->(kS l id bE bR).1=[]):=by
  unfold kS
  split
  · exact⟨Y,λ_=>Y⟩
  · exact II l id (Xj bR aj aj)
end Go.Proofs.YtlhnnmlenkahlaaGreat
