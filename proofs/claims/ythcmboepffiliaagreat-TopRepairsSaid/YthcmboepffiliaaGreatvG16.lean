/- Lemmas. -/
import Derived.Test.YthcmboepffiliaaGreatvG15
set_option maxRecDepth 4000
set_option maxHeartbeats 4000000
set_option linter.all false
namespace Go.Proofs.YthcmboepffiliaaGreat
open Go.RowKit Go.Proofs.Tryz
def KU:=@underlying94
def aaH:=@underlying189
def Gf:=@underlying56
section
def eW(l:List aH)(hs:jc):Prop:=∀ z h,cZ z hs=some h->∀ y∈h.l,TJ l y
structure Kw (c:PC):Prop where
  e:eW c.m.J c.hs
  t:kT c.m.J c.s.bn c.Z
  d:kD c.m.J c.I c.s.bn c.Z
def Keep.w{c:PC}(K:Keep c):Kw c:=⟨λz h hg y hy=>(K.e z h hg y hy).1,K.t,K.d⟩
def eW.same{l q:V aH}(hs:kS l q){H:jc}(h:eW l H):eW q H:=λz u hg y hy=>(h z u hg y hy).same hs
def eW.put{l:V aH}{hs:jc}(he:eW l hs){z:Int}{h2:kV}(hh:∀ y∈h2.l,TJ l y):eW l (fO z h2 hs):=λu h hg y hy=>by
 rw [lC] at hg; split at hg
 ·injection hg with hg; subst hg; exact hh y hy
 ·exact he u h hg y hy
def awt(aYb:List aL)(Z:Int)(l:List aH)(x:eU):Prop:=
  x.Client=0/\(x.Kind=1∨x.Kind=2∨x.Kind=5∨x.Kind=6)/\(x.Kind=5->∀ c∈l,c.ID=x.A->c.E=x.C->∀ p∈aYb,Z<=p.iK->p.X=c.ID->p.To=x.B->p.E≠c.E)
def awt.same{aYb:V aL}{Z:Int}{l q:V aH}{x:eU}(hs3:kS l q)(h:awt aYb Z l x):awt aYb Z q x:=⟨h.1,h.2.1,λh5 c hc hi hv p hp1 hp2 hp3 hp4=>by
 obtain⟨c0,hc0,e1,e2,e3⟩:=hs3.2 c hc
 rw [e2]; exact h.2.2 h5 c0 hc0 (e1.symm.trans hi) (e2.symm.trans hv) p hp1 hp2 (hp3.trans e1) hp4⟩
def ajh{m:bY}(hm:lU m=true){x:eU}{aYb:V aL}{Z:Int}(hx:awt aYb Z m.J x)(ht:kT m.J aYb Z):kT (rJ m x).J aYb Z:=by
 have hk:=hx.2.1;have hu:=lS (dD.1 hm).2.1
 rcases(wL hm aj hx.1).1 with h | ⟨hk',_,_,_⟩ | ⟨c,hk',_,_,_⟩ | ⟨c,H,hk',hc,hi,hv,hs',hn,hH,hl,h⟩ | ⟨c,H,hk',hc,hi,hn,hH,hl,h⟩
 ·rw [h]; exact ht
 ·omega
 ·omega
 ·have hq:=hx.2.2 hk' c hc hi hv.symm
  intro p hp Vu;obtain⟨x0,hx0,e1,e2,e3⟩:=ht p hp Vu
  by_cases he:x0.ID=x.A
  ·have:=lI hu hx0 hc (he.trans hi.symm); subst this
   refine⟨_,(h _).2 (.inl Y),e1,e2,λhv2 hm2=>?_⟩
   rcases(hH _).1 hm2 with h2 | h2
   ·exact hq p hp Vu e1.symm h2 hv2
   ·exact e3 hv2 h2
  ·exact⟨x0,(h _).2 (.inr ⟨hx0,he⟩),e1,e2,e3⟩
 ·intro p hp Vu
  obtain⟨x0,hx0,e1,e2,e3⟩:=ht p hp Vu
  by_cases he:x0.ID=x.A
  ·have:=lI hu hx0 hc (he.trans hi.symm); subst this
   exact⟨_,(h _).2 (.inl Y),e1,e2,λhv2 hm2=>e3 hv2 ((hH _).1 hm2).2⟩
  ·exact⟨x0,(h _).2 (.inr ⟨hx0,he⟩),e1,e2,e3⟩
def awu{aYb:V aL}{Z:Int}:∀(l:V eU){m:bY},lU m=true->(∀ x∈l,awt aYb Z m.J x)->kT m.J aYb Z->kT (CW m l).J aYb Z
 | [],m,_,_,ht=>ht
 | x::l,m,hm,hl,ht=>by
  have hx:=hl x mO;exact awu l (nP hm x) (λy hy=>(hl y (kL _ hy)).same (sN hm hx.1 hx.2.1)) (ajh hm hx ht)
def afI{s:fQ}{Z n:Int}:∀(l:V eU){m:bY},lU m=true->(∀ x∈l,x.Client=0/\(x.Kind=5∨x.Kind=6)/\x.B=n)->kT m.J s.bn Z->kT (lM s Z n m l).J s.bn Z
 | [],m,_,_,ht=>ht
 | x::l,m,hm,hl,ht=>by
  have hx:=hl x mO;have hr:=λy hy=>hl y (kL x hy);show kT (lM s Z n (Gm s Z n m x) l).J s.bn Z;unfold Gm; split
  ·rename_i hc
   refine afI l (nP hm x) hr (ajh hm ⟨hx.1,aj,λh5 c _ hi _ p hp Vu hpc hpt=>?_⟩ ht);rw [h5] at hc; simp at hc;exact absurd ⟨hpc.trans hi,hpt.trans hx.2.2⟩ (Vt.1 hc p (qb.2 ⟨hp,Vu⟩))
  ·exact afI l hm hr ht
def anF{l:V aH}{hs:jc}(hz:Je hs){z:Int}{h:kV}(hg:cZ z hs=some h){c v sum:Int}{data:V (BitVec 8)}(hl:TJ l ⟨c,v,sum,false,false⟩)(he:eW l hs):eW l (fO z ⟨h.up,h.bB,Ig h.l h.bB c v sum data,tkD h.l h.bB c v sum data h.d⟩ hs):=by
 have hO:=(hz z h hg).l;refine he.put λy hy=>?_;have hy:y∈Ig h.l h.bB c v sum data:=hy
 cases hk:SS h.l h.bB c v sum data with
 | false=>rw [(aiy hO hk (d:=h.d)).1] at hy; exact he z h hg y hy
 | true=>
  rcases((aar hO hk (d:=h.d)).2.1 y).1 hy with rfl | ⟨hy,_⟩
  ·exact hl
  ·exact he z h hg y hy
def aFg{c:PC}{k:Nat}(H:Inv c k)(K:Kw c)(o:aL):Kw (j6 c o):=by
 cases hf:cZ o.jm c.hs with
 | none=>rw [SX hf]; exact K
 | some f=>
 cases hb:(!f.up||wo c.s c.Z o.X o.To) with
 | true=>rw [Ny hf hb]; exact K
 | false=>
 by_cases hr:¬ ((rT f.l f.d o.X).2.2=0/\(rT f.l f.d o.X).2.1=o.E/\((gI (rT f.l f.d o.X).1).toNat:Int)=o.Sum)
 ·rw [XA hf hr]; exact K
 replace hr:=Ii.1 hr
 cases ht:cZ o.To c.hs with
 | none=>
  have e:j6 c o=c:=by unfold j6; rw [hf]; simp only; rw [aQ (by rw [hb]; decide),aQ (λh=>h hr),ht]
  rw [e]; exact K
 | some t=>
 obtain⟨x,hx,x1,x2,x3,x4⟩:=aiA (H.hz _ _ hf).l hr.1;obtain⟨x0,hx0,a1,a2,a3⟩:=K.e _ _ hf x hx;have hsum:x.Sum=o.Sum:=by rw [<- x2,<- x3]; exact hr.2.2
 have hl:TJ c.m.J ⟨o.X,(rT f.l f.d o.X).2.1,o.Sum,false,false⟩:=
  ⟨x0,hx0,a1.trans x1,by show(rT f.l f.d o.X).2.1<=_; rw [x4]; exact a2,λh=>by show o.Sum=_; rw [<- hsum]; exact a3 (by rw [<- x4]; exact h)⟩
 have hE:=anF H.hz ht hl K.e (data:=(rT f.l f.d o.X).1)
 cases hk:SS t.l t.bB o.X (rT f.l f.d o.X).2.1 o.Sum (rT f.l f.d o.X).1 with
 | false=>rw [SY hf hb hr ht hk]; exact⟨hE,K.t,K.d⟩
 | true=>
  rw [Nz hf hb hr ht hk];have hno:=Vt.1 (dQ.1 hb).2;have hs3:kS c.m.J (rJ c.m (vR o.X o.To (rT f.l f.d o.X).2.1)).J:=sN H.hm rfl (.inr (.inr (.inl rfl)));exact⟨hE.same hs3,ajh H.hm ⟨Y,.inr (.inr (.inl Y)),λ_ y hy yi _ p hp Vu hpc hpt=>absurd ⟨hpc.trans yi,hpt⟩ (hno p (qb.2 ⟨hp,Vu⟩))⟩ K.t,K.d.same hs3⟩
def aFh{c:PC}{k:Nat}(H:Inv c k)(K:Kw c)(o:aL):Kw (mZ c o):=by
 by_cases h0:o.Kind=0
 ·unfold mZ; rw [aS h0]; exact aFg H K o
 cases ht:cZ o.To c.hs with
 | none=>
      have e:mZ c o=c:=by unfold mZ; rw [aQ h0,ht]
      rw [e]; exact K
 | some t=>
 cases hb:(dL t.l).any (Z8 o) with
 | false=>rw [Z9 h0 ht hb]; exact K
 | true=>
  rw [NA h0 ht hb];obtain⟨r1,r2,r3,r4⟩:=OV (H.hz _ _ ht).l o.X (d:=t.d);exact⟨K.e.put λy hy=>K.e _ _ ht y ((r2 y).1 hy).1,K.t,K.d⟩
def aFi{c:PC}{k:Nat}(H:Inv c k)(K:Kw c)(it:AItem):Kw (kM c it).1:=by
 have hw:=H.hw;unfold kM; split
 ·exact K
 split
 ·exact K
 rename_i o ho
 have hmem:=dz ho
 split
 ·refine⟨K.e,K.t,λp hp=>?_⟩
  rcases j5.1 hp with hp | hp
  ·exact K.d p hp
  ·rw [mU.1 hp]; exact K.d o hmem
 ·have hs:∀ p∈c.I.take it.A.toNat++c.I.drop (it.A.toNat+1),p∈c.I:=λp hp=>by
   rcases j5.1 hp with hp | hp
   ·exact List.mem_of_mem_take hp
   ·exact List.mem_of_mem_drop hp
  have K2:Kw { c with I:=c.I.take it.A.toNat++c.I.drop (it.A.toNat+1) }:=⟨K.e,K.t,λp hp=>K.d p (hs p hp)⟩;show Kw (if _ then _ else _)
  split
  ·exact aFh (GZ (k:=k) H (by rw [jH,iX,uj]; omega)) K2 o
  ·exact K2
def aFj{c:PC}{k:Nat}(H:Inv c k)(K:Kw c):Kw (tq c):=by
 have hs3:kS c.m.J (tq c).m.J:=xQ _ H.hm OZ
 have hD:∀ p∈c.s.bn,c.Z<=p.iK->p∈(tq c).s.bn:=λp hp hu=>by
  show p∈(iM _ _ _ _).bn; unfold iM; split
  ·exact QB _ (qb.2 ⟨hp,hu⟩)
  ·exact hp
 refine⟨K.e.same hs3,λp hp hu=>?_,λo ho h0=>?_⟩
 ·have hp':p∈(iM c.m c.s c.r c.Z).bn:=hp
  have old:p∈c.s.bn->∃ x∈(tq c).m.J,x.ID=p.X/\p.E<=x.E/\(p.E=x.E->p.To∉x.aD):=λhp=>by
   obtain⟨y,hy,f1,f2,f3⟩:=K.t p hp hu;obtain⟨z,hz,e1,e2,e3,e4⟩:=Jq H.hm KP y hy;exact⟨z,hz,e1.trans f1,aj,λhv hn=>f3 aj ((e4 _).1 hn).1⟩
  unfold iM at hp'
  split at hp'
  ·rename_i hb
   rcases j5.1 hp' with hp' | hp'
   ·exact old (qb.1 hp').1
   ·obtain⟨_,hf,_,y,hy,f1,f2,f3⟩:=CY hp'
    obtain⟨z,hz,e1,e2,e3,e4⟩:=Jq H.hm KP y hy;refine⟨z,hz,e1.trans f1.symm,aj,λhv hn=>?_⟩;refine((e4 _).1 hn).2 (wG p) ?_ ⟨f1,hf⟩;unfold mM; rw [aS hb]; exact eX.2 ⟨p,hp',rfl⟩
  ·exact old hp'
 ·rcases j5.1 (show o∈c.I++pF c.m c.s c.r c.Z from ho) with ho | ho
  ·obtain⟨x,hx,f1,f2,f3⟩:=(K.d o ho h0).same hs3
   refine⟨x,hx,f1,f2,λhv=>?_⟩
   rcases f3 hv with h1 | h1
   ·exact .inl h1
   ·by_cases hu:c.Z<=o.iK
    ·exact .inr (hD o h1 hu)
    ·exact .inl (show o.iK<c.Z by omega)
  ·obtain⟨hb,⟨_,h1⟩ | ⟨hT,_⟩⟩:=anc ho
   ·exact absurd h1 h0
   ·obtain⟨_,hf,_,y,hy,f1,f2,f3⟩:=CY hT
    obtain⟨z,hz,e1,e2,e3⟩:=hs3.1 y hy;refine⟨z,hz,e1.trans f1.symm,aj,λ_=>.inr ?_⟩;show o∈(iM _ _ _ _).bn; unfold iM; rw [aS hb]; exact NM _ hT
def aFk{c:PC}{k:Nat}(H:Inv c k)(K:Kw c)(it:AItem){h:kV}(hg:cZ it.A c.hs=some h):Kw (LU c it h):=by
 have hO:=(H.hz _ _ hg).l;have hs3:kS c.m.J (lM c.s c.Z it.A c.m (jS c.m.J it.A (dL h.l))).J:=CX _ H.hm XP;refine⟨K.e.same hs3,afI _ H.hm (λx hx=>?_) K.t,λo ho h0=>?_⟩
 ·have:=QG x hx
  exact⟨this.2.1,this.2.2.imp (λh=>h.1) (λh=>h.1),this.1⟩
 ·rcases j5.1 (show o∈c.I++uV _ _ _ _ from ho) with ho | ho
  ·exact(K.d o ho h0).same hs3
  ·unfold uV at ho
   obtain⟨y,hy,rfl⟩:=eX.1 ho;have hy:=jJ.1 hy;have hyl:y∈h.l:=by have:=hy.1; rwa [hO.rest] at this
   have hys:y.X∈lK (lM c.s c.Z it.A c.m (jS c.m.J it.A (dL h.l))).J h.l:=by have:=nG.1 hy.2; rw [hO.rest] at this ⊢; exact this
   obtain⟨x,hx,e1,e2⟩:=Vw (dD.1 (FZ H.hm _)).2.1 hO (λy hy=>((K.e _ _ hg y hy).same hs3)) hyl hys;exact⟨x,hx,e1,Int.le_of_lt e2,λh=>absurd h (Int.ne_of_lt e2)⟩
def awv{l0:V aH}{c v sum:Int}{data:V (BitVec 8)}(hd:data.length=4)(hl:TJ l0 ⟨c,v,sum,false,false⟩):∀(l:V Int){q:jc × V Int},Je q.1->eW l0 q.1->eW l0 (l.foldl (sM c v sum data) q).1
 | [],_,_,he=>he
 | n::l,q,hz,he=>by
  rw [vY]
  have key:Je (sM c v sum data q n).1/\eW l0 (sM c v sum data q n).1:=by
   unfold sM; split
   ·exact⟨hz,he⟩
   ·rename_i t hg
    exact⟨hz.put ((hz _ _ hg).take c v sum hd),anF hz hg hl he⟩
  exact awv hd hl l key.1 key.2
def aFl{c:PC}{k:Nat}(H:Inv c k)(K:Kw c)(it:AItem):Kw (rz c it).1:=by
 have hc:=(dD.1 H.hm).2.1;have hu:=lS hc;have hw:=Jg c.m it;have hk:(qy c.m it).Kind=3∨(qy c.m it).Kind=4:=by show(if _ then(4:Int) else 3)=3∨(if _ then(4:Int) else 3)=4; split <;> simp
 unfold rz
 by_cases hp:(dS c.m (qy c.m it)).2<0
 ·rw [aS hp]; exact K
 rw [aQ hp];have hm2:=FJ H.hm (qy c.m it);have hu2:=lS (dD.1 hm2).2.1;obtain⟨hN,v,hv,hv1,_,hmem,_,dY⟩:=am5 H.hm hk hw.2.1 hp;have hA:(qy c.m it).A=it.A:=rfl;have hB:(qy c.m it).B=FX it.A it.B:=rfl;rw [hA,hB] at hmem; rw [hA] at dY
 have hlt:∀ x∈c.m.J,x.ID=it.A->x.E<v:=λx hx he=>by
  rcases dY with ⟨_,h⟩ | ⟨d,hd,h1,h2⟩
  ·exact absurd he (h x hx)
  ·have:=lI hu hx hd (he.trans h1.symm); subst this; omega
 by_cases he:(FY c it).2=[]
 ·rw [aS he]
  have hg:=aay (c:=it.A) (v:=(dS c.m (qy c.m it)).2) (sum:=FX it.A it.B) (data:=nD it.A it.B) (S9 c (dS c.m (qy c.m it)).1) (q:=(c.hs,[])) H.hz he;exact⟨λz h hz=>K.e z h ((hg z).symm.trans hz),K.t,K.d⟩
 rw [aQ he];have hT:FY c it=(S9 c (dS c.m (qy c.m it)).1).foldl (sM it.A v (FX it.A it.B) (nD it.A it.B)) (c.hs,[]):=by unfold FY; rw [hv]
 generalize hm':(dS c.m (qy c.m it)).1=m' at *
 rw [hv] at *;have hnew:(⟨it.A,v,FX it.A it.B,[]⟩:aH)∈m'.J:=(hmem _).2 (.inl rfl)
 have up:∀ {z w:Int} {P:aH->Prop},(∃ x∈c.m.J,x.ID=z/\w<=x.E/\(w=x.E->P x))->(∃ x∈m'.J,x.ID=z/\w<=x.E/\(w=x.E->P x)):=λ{z w P} ⟨x,hx,a1,a2,a3⟩=>by
  by_cases hxa:x.ID=it.A
  ·have:=hlt x hx hxa
   exact⟨_,hnew,hxa.symm.trans a1,by show w<=v; omega,λh=>by have h':w=v:=h; omega⟩
  ·exact⟨x,(hmem x).2 (.inr ⟨hx,hxa⟩),a1,a2,a3⟩
 have e2:eW m'.J c.hs:=λz h hg y hy=>up (K.e z h hg y hy);have t2:kT m'.J c.s.bn c.Z:=λp hp Vu=>up (K.t p hp Vu);have d2:kD m'.J c.I c.s.bn c.Z:=λp hp Vu=>up (K.d p hp Vu);have w2:=awv (l0:=m'.J) (c:=it.A) (v:=v) (sum:=FX it.A it.B) (data:=nD it.A it.B) rfl ⟨_,hnew,rfl,FB _,λ_=>rfl⟩ (S9 c m') (q:=(c.hs,[])) H.hz e2;rw [<- hT] at w2;have hs3:kS m'.J (CW m' ((FY c it).2.map λz=>vR it.A z v)).J:=xQ _ hm2 avz;refine⟨w2.same hs3,awu _ hm2 (λx hx=>?_) t2,d2.same hs3⟩;obtain⟨z,hz,rfl⟩:=eX.1 hx;refine⟨Y,.inr (.inr (.inl Y)),λ_ y hy yi yv p hp Vu hpc _ hpv=>?_⟩;have:=lI hu2 hy hnew yi; subst this;obtain⟨x,hx,a1,a2,_⟩:=K.t p hp Vu;have:=hlt x hx (a1.trans hpc);have h':p.E=v:=hpv;omega
def anG:∀(q:V Int){h:kV},HOk h->∀ y∈(q.foldl SV (h.l,h.d)).1,y∈h.l
 | [],_,_,y,hy=>hy
 | c::q,h,H,y,hy=>by
  obtain⟨r1,r2,r3,r4⟩:=OV H.l c (d:=h.d);have:=anG q (H.rmv c) y hy;exact((r2 y).1 this).1
def TQ{c:PC}(K:Kw c){z:Int}{h h2:kV}(hg:cZ z c.hs=some h)(hl:∀ y∈h2.l,y∈h.l):Kw { c with hs:=fO z h2 c.hs }:=
 ⟨K.e.put λy hy=>K.e z h hg y (hl y hy),K.t,K.d⟩
def aww{c:PC}{k:Nat}(H:Inv c k)(K:Kw c)(it:AItem):Kw (nJ c it).1:=by
 have hmay:=dD.1 H.hm;unfold nJ
 split
 ·split
  ·exact K
  ·refine⟨K.e,λp hp hu=>K.t p hp (by have hu:c.Z+it.A<=p.iK:=hu; omega),λo ho h0=>?_⟩
   obtain⟨x,hx,h1,h2,h3⟩:=K.d o ho h0;refine⟨x,hx,h1,h2,λhv=>?_⟩
   rcases h3 hv with h | h
   ·exact .inl (show o.iK<c.Z+it.A by omega)
   ·exact .inr h
 split
 ·unfold apB
  have hs3:kS c.m.J (rJ c.m (DW it)).J:=sN H.hm rfl (.inl rfl);have ht:=ajh H.hm (x:=DW it) ⟨rfl,.inl rfl,λh=>absurd (show(1:Int)=5 from h) au⟩ K.t;refine⟨?_,ht,K.d.same hs3⟩;show eW (rJ c.m (DW it)).J (if _ then _ else _)
  split
  ·exact(K.e.same hs3).put λy hy=>absurd hy av
  ·exact K.e.same hs3
 split
 ·have hs3:kS c.m.J (rJ c.m ⟨0,0,2,it.A,it.B,0⟩).J:=sN H.hm rfl (.inr (.inl rfl))
  exact⟨K.e.same hs3,ajh H.hm (x:=⟨0,0,2,it.A,it.B,0⟩) ⟨Y,.inr (.inl Y),λh=>absurd (show(2:Int)=5 from h) au⟩ K.t,K.d.same hs3⟩
 split
 ·exact aFj H K
 split
 ·exact aFi H K it
 split
 ·exact aFl H K it
 split
 ·exact K
 split
 ·exact K
 ·rename_i h hg
  split
  ·exact K
  unfold Il
  split
  ·exact⟨K.e,K.t,K.d⟩
  split
  ·exact aFk H K it hg
  split
  ·exact TQ K hg λy hy=>hy
  split
  ·rw [Tz (H.hz _ _ hg).l]; exact TQ K hg λy hy=>hy
  split
  ·exact TQ K hg (anG _ (H.hz _ _ hg))
  split
  ·exact TQ K hg λy hy=>hy
  ·exact TQ K hg λy hy=>absurd hy av
def HN(c:PC):Prop:=∀ z h,cZ z c.hs=some h->∃ n∈c.m.aM,n.ID=z
def EG{hs:jc}{z:Int}{h h0:kV}(hg:cZ z hs=some h0){z2:Int}{h2:kV}(h9:cZ z2 (fO z h hs)=some h2):∃ h3,cZ z2 hs=some h3:=by
 rw [lC] at h9; split at h9
 ·rename_i e; rw [e]; exact⟨h0,hg⟩
 ·exact⟨h2,h9⟩
def az8{c:PC}(o:aL){z:Int}{h:kV}(h9:cZ z (j6 c o).hs=some h):∃ h3,cZ z c.hs=some h3:=by
 unfold j6 at h9; split at h9
 ·exact⟨_,h9⟩
 split at h9
 ·exact⟨_,h9⟩
 split at h9
 ·exact⟨_,h9⟩
 split at h9
 ·exact⟨_,h9⟩
 rename_i t ht
 split at h9
 ·exact EG ht h9
 ·exact EG ht h9
def az9{c:PC}(o:aL){z:Int}{h:kV}(h9:cZ z (mZ c o).hs=some h):∃ h3,cZ z c.hs=some h3:=by
 unfold mZ at h9; split at h9
 ·exact az8 o h9
 split at h9
 ·exact⟨_,h9⟩
 rename_i t ht
 split at h9
 ·exact EG ht h9
 ·exact⟨_,h9⟩
def afJ{c v sum:Int}{data:V (BitVec 8)}:∀(l:V Int){q:jc × V Int}{z:Int}{h:kV},cZ z (l.foldl (sM c v sum data) q).1=some h->∃ h3,cZ z q.1=some h3
 | [],_,_,h,h9=>⟨h,h9⟩
 | n::l,q,z,h,h9=>by
  rw [vY] at h9;obtain⟨h3,h4⟩:=afJ l h9;unfold sM at h4; split at h4
  ·exact⟨h3,h4⟩
  ·rename_i t ht; exact EG ht h4
def aFm{c:PC}{it:AItem}{t:kV}(ht:cZ it.A c.hs=some t){z:Int}{h:kV}(h9:cZ z (Il c it t).1.hs=some h):∃ h3,cZ z c.hs=some h3:=by
 unfold Il at h9
 split at h9
 ·exact⟨_,h9⟩
 split at h9
 ·exact⟨_,h9⟩
 split at h9
 ·exact EG ht h9
 split at h9
 ·exact EG ht h9
 split at h9
 ·exact EG ht h9
 split at h9
 ·exact EG ht h9
 ·exact EG ht h9
def aFo{c:PC}{it:AItem}{z:Int}{h:kV}(h9:cZ z (nJ c it).1.hs=some h):(∃ h3,cZ z c.hs=some h3)∨(it.Kind=1/\knE c.m (DW it)=0/\z=it.A):=by
 unfold nJ at h9
 split at h9
 ·split at h9 <;> exact .inl ⟨_,h9⟩
 split at h9
 ·rename_i k1
  unfold apB at h9;have h9:cZ z (if knE c.m (DW it)=0 then fO it.A ⟨true,Ja it.C,[],[]⟩ c.hs else c.hs)=some h:=h9
  split at h9
  ·rename_i h0
   rw [lC] at h9; split at h9
   ·rename_i e; exact .inr ⟨k1,h0,e⟩
   ·exact .inl ⟨_,h9⟩
  ·exact .inl ⟨_,h9⟩
 split at h9
 ·exact .inl ⟨_,h9⟩
 split at h9
 ·exact .inl ⟨_,h9⟩
 split at h9
 ·unfold kM at h9
  split at h9
  ·exact .inl ⟨_,h9⟩
  split at h9
  ·exact .inl ⟨_,h9⟩
  split at h9
  ·exact .inl ⟨_,h9⟩
  ·have h9:cZ z (if _ then _ else _:PC).hs=some h:=h9
   split at h9
   ·exact .inl (az9 (c:={ c with I:=c.I.take it.A.toNat++c.I.drop (it.A.toNat+1) }) _ h9)
   ·exact .inl ⟨_,h9⟩
 split at h9
 ·unfold rz at h9
  split at h9
  ·exact .inl ⟨_,h9⟩
  split at h9
  ·exact .inl (afJ _ h9)
  ·exact .inl (afJ _ h9)
 split at h9
 ·exact .inl ⟨_,h9⟩
 split at h9
 ·exact .inl ⟨_,h9⟩
 rename_i t ht
 split at h9
 ·exact .inl ⟨_,h9⟩
 ·exact .inl (aFm ht h9)
def awx{m:bY}(hm:lU m=true){x:eU}(h7:x.Kind≠7)(h0:x.Client=0):∀ n∈m.aM,∃ n'∈(rJ m x).aM,n'.ID=n.ID:=by
 intro n hn
 rcases(wL hm h7 h0).2 with h | ⟨_,_,h⟩ | ⟨n0,_,hn0,hi,_,_,h⟩
 ·exact⟨n,by rw [h]; exact hn,rfl⟩
 ·exact⟨n,(h n).2 (.inr hn),rfl⟩
 ·by_cases he:n.ID=x.A
  ·exact⟨_,(h _).2 (.inl rfl),hi.trans he.symm⟩
  ·exact⟨n,(h n).2 (.inr ⟨hn,he⟩),rfl⟩
def aFp{c:PC}{k:Nat}(aYd:Inv c k)(it:AItem):∀ n∈c.m.aM,∃ n'∈(nJ c it).1.m.aM,n'.ID=n.ID:=by
 intro n hn
 by_cases h1:it.Kind=1
 ·have e:(nJ c it).1.m=rJ c.m (DW it):=by unfold nJ; rw [aQ aj,aS h1]; rfl
  rw [e]; exact awx aYd.hm (by show(1:Int)≠7; decide) rfl n hn
 by_cases h2:it.Kind=2
 ·have e:(nJ c it).1.m=rJ c.m ⟨0,0,2,it.A,it.B,0⟩:=by unfold nJ; rw [aQ aj,aQ h1,aS h2]
  rw [e]; exact awx aYd.hm (by show(2:Int)≠7; decide) rfl n hn
 by_cases h11:it.Kind=11
 ·have e:nJ c it=rz c it:=by unfold nJ; rw [h11]; rfl
  rw [e]; unfold rz
  split
  ·exact⟨n,hn,rfl⟩
  rename_i hp
  split
  ·exact⟨n,hn,rfl⟩
  ·have hw:=Jg c.m it
   have hk:(qy c.m it).Kind=3∨(qy c.m it).Kind=4:=by show(if _ then(4:Int) else 3)=3∨(if _ then(4:Int) else 3)=4; split <;> simp
   refine⟨n,?_,Y⟩;show n∈(CW (dS c.m (qy c.m it)).1 _).aM;rw [afl hp,afw _ (nP aYd.hm _) (λx hx=>by obtain⟨z,_,rfl⟩:=eX.1 hx; exact⟨rfl,.inl rfl⟩),acN aYd.hm aj hw.2.1];exact hn
 ·exact⟨n,by rw [aBC aYd h1 h2 h11]; exact hn,rfl⟩
def aLb{c:PC}{k:Nat}(aYd:Inv c k)(N:HN c)(it:AItem):HN (nJ c it).1:=by
 intro z h h9
 rcases aFo h9 with ⟨h3,h4⟩ | ⟨h1,h0,rfl⟩
 ·obtain⟨n,hn,rfl⟩:=N z h3 h4
  exact aFp aYd it n hn
 ·have e:(nJ c it).1.m=rJ c.m (DW it):=by unfold nJ; rw [aQ aj,aS h1]; rfl
  rcases ak2 aYd.hm it with ⟨_,_,h2,_,_⟩ | ⟨h0',_⟩
  ·exact⟨_,by rw [e]; exact(h2 _).2 (.inl rfl),rfl⟩
  ·exact absurd h0 h0'
def awy{r:ARules}(hr:l5 r=true)(l:V AItem):∀ k,k<=l.length->HN (xO (Jh r) (l.take k))
 | 0,_=>by rw [U4]; exact λz h hg=>absurd (show cZ z []=some h from hg) (by simp [cZ])
 | k+1,hk=>by
  obtain⟨x,hx⟩:∃ x,l[k]? = some x:=⟨_,Ip aj⟩;rw [eO hx,OW];exact aLb (OX hr (l:=l) (k:=k) aj) (awy hr l k aj) x
def awz{r:ARules}(hr:l5 r=true)(l:V AItem):∀ k,k<=l.length->Kw (xO (Jh r) (l.take k))
 | 0,_=>by rw [U4]; exact(aET r).w
 | k+1,hk=>by
  obtain⟨x,hx⟩:∃ x,l[k]? = some x:=⟨_,Ip aj⟩;rw [eO hx,OW];exact aww (OX hr (l:=l) (k:=k) aj) (awz hr l k aj) x
def anH:∀(n:Nat)(c:PC),∃ L,LW 7 n c={ c with I:=L }/\L.length<=c.I.length/\∀ p∈L,p∈c.I
 | 0,c=>⟨c.I,rfl,j4 _,λp hp=>hp⟩
 | n+1,c=>by
  by_cases h:c.I.length=0
  ·rw [ai6 h]; exact⟨c.I,rfl,j4 _,λp hp=>hp⟩
  ·rw [afv h]
   have e:(nJ c ⟨7,0,0,0⟩).1={ c with I:=c.I.drop 1 }:=by
    have e0:nJ c ⟨7,0,0,0⟩=kM c ⟨7,0,0,0⟩:=by unfold nJ; rw [aQ au,aQ au,aQ au,aQ au,aS au]
    rw [e0]; unfold kM;rw [aQ (by show ¬ ((0:Int)<0∨(c.I.length:Int)<=0); omega)]
    cases hn:c.I with
    | nil=>rw [hn] at h; exact absurd rfl h
    | cons o rest=>rfl
   rw [e];obtain⟨L,h1,h2,h3⟩:=anH n { c with I:=c.I.drop 1 };refine⟨L,h1,?_,λp hp=>List.mem_of_mem_drop (h3 p hp)⟩;have:(c.I.drop 1).length<=c.I.length:=by rw [uj]; omega
   exact lG h2 this
def anI:∀(q:V Int){h:kV},HOk h->(∀ y,y∈(q.foldl SV (h.l,h.d)).1↔y∈h.l/\y.X∉q)/\∀ z,z∉q->oH (⟨z,false⟩:bP) (q.foldl SV (h.l,h.d)).2=oH ⟨z,false⟩ h.d
 | [],_,_=>⟨λy=>⟨λh=>⟨h,av⟩,λh=>h.1⟩,λ_ _=>rfl⟩
 | c::q,h,H=>by
  obtain⟨r1,r2,r3,r4⟩:=OV H.l c (d:=h.d);obtain⟨i1,i2⟩:=anI q (H.rmv c);refine⟨λy=>?_,λz hz=>?_⟩
  ·rw [vY]
   refine(i1 y).trans ?_;show y∈DC h.l c/\_↔_;rw [r2,gW,not_or];exact⟨λh=>⟨h.1.1,h.1.2,h.2⟩,λh=>⟨⟨h.1,h.2.1⟩,h.2.2⟩⟩
  ·rw [gW,not_or] at hz
   rw [vY];refine(i2 z hz.2).trans ?_;show oH ⟨z,false⟩ (WU h.l c h.d)=_
   rcases r4 ⟨z,false⟩ with e | ⟨e,_⟩
   ·exact e
   ·injection e with e _; exact absurd e hz.1
def anJ{l:V aI}(hO:LA l){d:qD}{z:Int}:z∈uM (Nw l d)↔∃ y∈l,y.X=z/\((gI (oH (⟨y.X,false⟩:bP) d)).toNat:Int)≠y.Sum:=by
 unfold uM Nw;rw [hO.rest,eX]
 constructor
 ·rintro⟨p,hp,rfl⟩
  have hp:=jJ.1 hp;obtain⟨y,hy,rfl⟩:=eX.1 hp.1;exact⟨y,hy,Y,by have:=hp.2; simpa using this⟩
 ·rintro⟨y,hy,rfl,h⟩
  exact⟨(y,!decide (((gI (oH (⟨y.X,false⟩:bP) d)).toNat:Int)=y.Sum)),jJ.2 ⟨eX.2 ⟨y,hy,Y⟩,by simpa using h⟩,rfl⟩
def DL(h:kV)(y:aI):Prop:=((gI (oH (⟨y.X,false⟩:bP) h.d)).toNat:Int)=y.Sum
structure Scr (c:PC) (ids:List Int) (c1:PC):Prop where
  inv:∃ k,Inv c1 k
  m:c1.m=c.m
  s:c1.s=c.s
  Z:c1.Z=c.Z
  r:c1.r=c.r
  I:c1.I=c.I
  up:∀ z,uP c1.hs z=uP c.hs z
  fw:∀ z h,cZ z c.hs=some h->∃ h1,cZ z c1.hs=some h1/\∀ y∈h.l,DL h y->y∈h1.l/\DL h1 y
  bw:∀ z h1,cZ z c1.hs=some h1->∃ h,cZ z c.hs=some h/\(∀ y∈h1.l,y∈h.l/\(DL h y->DL h1 y))/\(z∈ids->∀ y∈h1.l,DL h1 y)
def anK:∀(ids:V Int){c:PC}{k:Nat},Inv c k->(∀ z∈ids,uP c.hs z=true)->Scr c ids (rA 12 ids c)
 | [],c,k,aYd,_=>⟨⟨k,aYd⟩,rfl,rfl,rfl,rfl,rfl,λ_=>rfl,λz h hg=>⟨h,hg,λy hy hc=>⟨hy,hc⟩⟩,λz h hg=>⟨h,hg,λy hy=>⟨hy,id⟩,λhz=>absurd hz av⟩⟩
 | z::ids,c,k,aYd,hup=>by
  obtain⟨h,hg,hu⟩:=KO (hup z mO);have hO:=aYd.hz _ _ hg;have I2:=xB aYd ⟨12,z,0,0⟩
  have e:(nJ c ⟨12,z,0,0⟩).1={ c with hs:=fO z ⟨h.up,h.bB,(Ih h.l h.d).1,(Ih h.l h.d).2⟩ c.hs }:=by
   rw [awf au hg hu];unfold Il; rw [aQ (by show ¬ (12:Int)=3; decide),aQ (by show ¬ (12:Int)=4; decide),aQ (by show ¬ (12:Int)=9; decide),aQ (by show ¬ (12:Int)=10; decide),aS rfl]
  rw [e] at I2;have hall:rA 12 (z::ids) c=rA 12 ids { c with hs:=fO z ⟨h.up,h.bB,(Ih h.l h.d).1,(Ih h.l h.d).2⟩ c.hs }:=by show rA 12 ids (nJ c ⟨12,z,0,0⟩).1=_; rw [e]
  obtain⟨s1,s2⟩:=anI (uM (Nw h.l h.d)) hO
  have u1:∀ n,uP (fO z ⟨h.up,h.bB,(Ih h.l h.d).1,(Ih h.l h.d).2⟩ c.hs) n=uP c.hs n:=λn=>by
   rw [TN]; split
   ·rename_i hz; subst hz; unfold uP; rw [hg]
   ·rfl
  have ok1:∀ y∈(Ih h.l h.d).1,y∈h.l/\DL ⟨h.up,h.bB,(Ih h.l h.d).1,(Ih h.l h.d).2⟩ y:=λy hy=>by
   have hy2:=(s1 y).1 hy;refine⟨hy2.1,?_⟩;have hc:DL h y:=Classical.byContradiction λhno=>hy2.2 ((anJ hO.l).2 ⟨y,hy2.1,rfl,hno⟩);unfold DL at hc ⊢;rw [show oH (⟨y.X,false⟩:bP) (Ih h.l h.d).2=_ from s2 y.X hy2.2]; exact hc
  have ok2:∀ y∈h.l,DL h y->y∈(Ih h.l h.d).1:=λy hy hc=>(s1 y).2 ⟨hy,λhs=>by
   obtain⟨w,hw,h1,h2⟩:=(anJ hO.l).1 hs;have:=hO.l.inj hw hy h1; subst this
   exact h2 hc⟩
  have ih:=anK ids I2 (λn hn=>by show uP (fO z _ c.hs) n=true; rw [u1]; exact hup n (kL _ hn));rw [hall];refine⟨ih.inv,ih.m,ih.s,ih.Z,ih.r,ih.I,λn=>(ih.up n).trans (u1 n),λn u hu'=>?_,λn u1' aPZ=>?_⟩
  ·by_cases hn:n=z
   ·subst hn; rw [hg] at hu'; injection hu' with hu'; subst hu'
    obtain⟨v,hv,hv2⟩:=ih.fw n _ (by show cZ n (fO n _ c.hs)=_; rw [lC,aS rfl]);refine⟨v,hv,λy hy hc=>?_⟩;have:=ok2 y hy hc;exact hv2 y this (ok1 y this).2
   ·exact ih.fw n u (by show cZ n (fO z _ c.hs)=_; rw [lC,aQ hn]; exact hu')
  ·obtain⟨v,hv,hv2,hv3⟩:=ih.bw n u1' aPZ
   have hv:cZ n (fO z _ c.hs)=some v:=hv
   by_cases hn:n=z
   ·subst hn
    rw [lC,aS rfl] at hv; injection hv with hv; subst hv;refine⟨h,hg,λy hy=>?_,λ_ y hy=>?_⟩
    ·have h1:=hv2 y hy
     exact⟨(ok1 y h1.1).1,λ_=>h1.2 (ok1 y h1.1).2⟩
    ·have h1:=hv2 y hy
     exact h1.2 (ok1 y h1.1).2
   ·rw [lC,aQ hn] at hv
    exact⟨v,hv,hv2,λhz=>hv3 ((gW.1 hz).resolve_left hn)⟩
def als{hs:jc}(H:Je hs){x:aH}{z:Int}:∀(l:V Int),(BR hs x z l).2=0->∃ n∈l,∃ h,cZ n hs=some h/\h.up=true/\∃ y∈h.l,y.X=z/\y.E=x.E/\y.Sum=x.Sum/\DL h y
 | [],h=>absurd (show(8:Int)=0 from h) au
 | n::l,h=>by
  unfold BR at h
  cases hg:cZ n hs with
  | none=>
   rw [hg] at h;obtain⟨m,hm,r⟩:=als H l h;exact⟨m,kL _ hm,r⟩
  | some u=>
   rw [hg] at h; simp only at h
   split at h
   ·rename_i hc
    obtain⟨y,hy,y1,y2,y3,y4⟩:=aiA (H n u hg).l hc.2.1;refine⟨n,mO,u,hg,hc.1,y,hy,y1,y4.symm.trans hc.2.2.1,?_,?_⟩
    ·rw [<- y2,<- y3]; exact hc.2.2.2
    ·unfold DL; rw [y1]; exact y2
   ·obtain⟨m,hm,r⟩:=als H l h
    exact⟨m,kL _ hm,r⟩
def awC{hs:jc}(H:Je hs){x:aH}{z:Int}{n:Int}{h:kV}(hg:cZ n hs=some h)(hu:h.up=true){y:aI}(hy:y∈h.l)(h1:y.X=z)(h2:y.E=x.E)(h3:y.Sum=x.Sum)(h4:DL h y):∀(l:V Int),n∈l->(BR hs x z l).2=0
 | m::l,hm=>by
  have hrd:rT h.l h.d z=(oH ⟨y.X,false⟩ h.d,y.E,0):=by rw [<- h1]; exact avw (H n h hg).l hy h4
  unfold BR
  by_cases he:n=m
  ·subst he; rw [hg]; simp only
   rw [aS ⟨hu,by rw [hrd],by rw [hrd]; exact h2,by rw [hrd,<- h3]; exact h4⟩]
  ·have ih:=awC H hg hu hy h1 h2 h3 h4 l ((gW.1 hm).resolve_left he)
   cases cZ m hs with
   | none=>exact ih
   | some u=>
    simp only
    split
    ·rfl
    ·exact ih
def awD{c:PC}{k:Nat}(aYd:Inv c k)(K:Kw c)(aX8:Un c)(hb:lZ 0 c.s.bZ=true)(he:qA c.m c.r=true)(hn:c.Z<=1000000)(hup:∀ n∈c.m.aM,uP c.hs n.ID=true)
  (azV:∀ n∈c.m.aM,∀ h,cZ n.ID c.hs=some h->∀ y∈h.l,DL h y) (hall:∀ z h,cZ z c.hs=some h->z∈oI c) (hrd:∀ x∈c.m.J,∃ n∈x.aD,hst c.hs n x):Hl (F9 c)/\(F9 c).I.length<=c.I.length+128/\(F9 c).Z=c.Z+1/\kS c.m.J (F9 c).m.J:=by
 have hm:=dD.1 aYd.hm;unfold qA at he
 simp only [bK,bN,mD] at he
 have hid:∀ z∈oI c,(1<=z/\z<=16)/\uP c.hs z=true:=λz hz=>by
  obtain⟨n,hn,rfl⟩:=eX.1 hz;exact⟨Ou ((qV.1 hm.1).2 n hn),hup n hn⟩
 have eA:=anB c;have iA:oI (hlA c)=oI c:=by rw [eA]; rfl
 obtain⟨B,eB,B1,_,_⟩:=aaE (oI (hlA c)) (c:=hlA c) (λz hz=>by
  rw [iA] at hz; rw [eA];refine⟨(hid z hz).2,KQ.2 ⟨(hid z hz).1.1,(hid z hz).1.2,?_,?_⟩⟩
  ·have:=aYd.hu; show 0<=c.Z+1; omega
  ·show c.Z+1<=_; omega) (by rw [eA]; exact hb)
 have eB':hlB c={ c with Z:=c.Z+1,s:=⟨B,c.s.bG,c.s.bn⟩ }:=by unfold hlB; rw [eB,eA]
 have anL:∀(kind:Int)(ids:V Int){c:PC},(∃ k,Inv c k)->∃ k,Inv (rA kind ids c) k:=λkind ids=>by
  induction ids with
  | nil=>exact λh=>h
  | cons z ids ih=>intro c ⟨k,h⟩; exact ih ⟨_,xB h ⟨kind,z,0,0⟩⟩
 have awE:∀(kind:Int)(ids:V Int){c:PC}{k:Nat},Inv c k->Kw c->Kw (rA kind ids c):=λkind ids=>by
  induction ids with
  | nil=>exact λ_ h=>h
  | cons z ids ih=>intro c k h K; exact ih (xB h ⟨kind,z,0,0⟩) (aww h K ⟨kind,z,0,0⟩)
 have IA:=xB aYd ⟨0,1,0,0⟩;have KA:Kw (hlA c):=aww aYd K _;obtain⟨kB,IB⟩:∃ k,Inv (hlB c) k:=anL 3 _ ⟨_,IA⟩;have KB:Kw (hlB c):=awE 3 _ IA KA;obtain⟨kC,IC⟩:∃ k,Inv (F9 c) k:=anL 4 _ ⟨_,IB⟩;have KC:Kw (F9 c):=awE 4 _ IB KB;have iB:oI (hlB c)=oI c:=by rw [eB']; rfl
 have R:aE0 (hlB c) (oI (hlB c)) (F9 c):=afz (oI (hlB c)) IB (λz hz=>by rw [iB] at hz; refine⟨(hid z hz).1,?_⟩; rw [eB']; exact(hid z hz).2) KB.e
 generalize hC:F9 c=c1 at *
 rw [iB,eB'] at R;have Rns:c1.m.aM=c.m.aM:=R.ns;have Rh:c1.hs=c.hs:=R.hs;have Rs:c1.s=⟨B,c.s.bG,c.s.bn⟩:=R.s;have Rn:c1.Z=c.Z+1:=R.Z;have Rr:c1.r=c.r:=R.r;have m1:=dD.1 IC.hm;have h8:c1.m.J.length=c.m.J.length:=Vz hm.2.1 m1.2.1 R.s3;obtain⟨S,S1,S2,_⟩:=R.I;refine⟨⟨⟨_,IC⟩,⟨λy hy=>?_,λy hy n hn'=>?_,λz h hg y hy=>⟨KC.e z h hg y hy,?_⟩,KC.t,KC.d⟩,λn hn'=>?_,by rw [Rns]; exact he.1,by rw [Rns,Rr]; exact he.2.1.1.1,by rw [h8]; exact he.2.1.1.2,by rw [Rr]; exact he.2.1.2,by rw [Rr]; exact he.2.2,⟨λx hx=>?_,λo ho=>?_⟩,by rw [Rs]; exact B1⟩,?_,Rn,R.s3⟩
 ·obtain⟨w,hw,a1,a2,a3,_,r2,_,_⟩:=R.ch y hy
  obtain⟨n,hn1,hn2⟩:=hrd w hw;exact⟨n,r2 n hn1 λ_=>hn2⟩
 ·obtain⟨w,hw,a1,a2,a3,r1,_⟩:=R.ch y hy
  obtain⟨nd,hnd,hni,_⟩:=m1.2.2.2 y hy n hn';have:hst c.hs n w:=r1 n (eX.2 ⟨nd,by rw [<- Rns]; exact hnd,hni⟩) hn';rw [Rh]; exact(BI a1 a2 a3).2 this
 ·rw [Rh] at hg
  obtain⟨nd,hnd,hni⟩:=eX.1 (hall z h hg);exact azV nd hnd h (by rw [hni]; exact hg) y hy
 ·rw [Rns] at hn'; rw [Rh]; exact hup n hn'
 ·rw [Rs] at hx; rw [Rn,Rr]; have:=aX8.l x hx; omega
 ·rw [Rs] at ho; rw [Rn,Rr]; have:=aX8.d o ho; omega
 ·have h1:(oI c).length<=16:=by unfold oI; rw [jW]; exact yO hm.1
  have h2:c.m.J.length*(oI c).length<=8*16:=LX he.2.1.1.2 h1;have S2':S.length<=c.m.J.length*(oI c).length:=S2;rw [S1,jH];show c.I.length+_<=_;omega
def Ris.hn{c c1:PC}(R:Ris c c1)(hb:∀ z h1,cZ z c1.hs=some h1->∃ h,cZ z c.hs=some h/\h1.l=h.l/\h1.d=h.d)(N:HN c):HN c1:=λz h hg=>by
 obtain⟨h0,hg0,_⟩:=hb z h hg;rw [R.ns]; exact N z h0 hg0
def alu{kind:Int}(hk:kind≠11):∀(ids:V Int){c:PC},(∃ k,Inv c k)->(∃ k,Inv (rA kind ids c) k)/\kS c.m.J (rA kind ids c).m.J
 | [],c,aYd=>⟨aYd,QF _⟩
 | z::ids,c,⟨k,aYd⟩=>by
  obtain⟨h1,h2⟩:=alu hk ids ⟨_,xB aYd ⟨kind,z,0,0⟩⟩;exact⟨h1,(Jk aYd ⟨kind,z,0,0⟩ hk).trans h2⟩
def aBJ{kind:Int}(hk:kind≠11):∀(n:Nat){c:PC},(∃ k,Inv c k)->(∃ k,Inv (LW kind n c) k)/\kS c.m.J (LW kind n c).m.J
 | 0,c,aYd=>⟨aYd,QF _⟩
 | n+1,c,⟨k,aYd⟩=>by
  unfold LW; split
  ·exact⟨⟨k,aYd⟩,QF _⟩
  ·obtain⟨h1,h2⟩:=aBJ hk n ⟨_,xB aYd ⟨kind,0,0,0⟩⟩
   exact⟨h1,(Jk aYd ⟨kind,0,0,0⟩ hk).trans h2⟩
def aFq{c:PC}(aYd:∃ k,Inv c k):(∃ k,Inv (DN c) k)/\kS c.m.J (DN c).m.J:=by
 obtain⟨k,aYd⟩:=aYd;have a:(∃ k,Inv (hlA c) k)/\kS c.m.J (hlA c).m.J:=⟨⟨_,xB aYd ⟨0,1,0,0⟩⟩,Jk aYd ⟨0,1,0,0⟩ (by show(0:Int)≠11; decide)⟩;have b:=alu (kind:=3) au (oI (hlA c)) a.1;have d:=alu (kind:=4) au (oI (hlB c)) b.1;obtain⟨kd,Id⟩:=d.1;have e:(∃ k,Inv (hlD c) k)/\kS (F9 c).m.J (hlD c).m.J:=⟨⟨_,xB Id ⟨5,0,0,0⟩⟩,Jk Id ⟨5,0,0,0⟩ (by show(5:Int)≠11; decide)⟩;have f:=aBJ (kind:=6) au 500 e.1;exact⟨f.1,(((a.2.trans b.2).trans d.2).trans e.2).trans f.2⟩
def awF{c:PC}(aYd:∃ k,Inv c k):∀ n,(∃ k,Inv (vH n c) k)/\kS c.m.J (vH n c).m.J
 | 0=>⟨aYd,QF _⟩
 | n+1=>by
  obtain⟨h1,h2⟩:=awF aYd n;obtain⟨h3,h4⟩:=aFq h1;exact⟨h3,h2.trans h4⟩
def aAa{h h1:kV}(e:h1.d=h.d)(y:aI):DL h1 y↔DL h y:=by unfold DL; rw [e]
def abx(c:PC):PC:=rA 10 (oI (LW 7 500 c)) (LW 7 500 c)
def aAb(c:PC):PC:=anj 120 (rA 12 (oI (abx c)) (abx c))
def aji{r:ARules}{l:V AItem}(hr:l5 r=true)(aFr:l.length<=100)(he:qA (xO (Jh r) l).m r=true)(hrd:∀ x∈(xO (Jh r) l).m.J,(uW (abx (xO (Jh r) l)) x.ID).2=0):CZ (aAb (xO (Jh r) l)) r=true/\∀ x∈(xO (Jh r) l).m.J,uW (aAb (xO (Jh r) l)) x.ID=uW (abx (xO (Jh r) l)) x.ID:=by
 obtain⟨aYd,hrr,aX8,hb,aja⟩:=az7 hr (l:=l);have K:Kw (xO (Jh r) l):=by have:=awz hr l l.length (j4 _); rwa [HZ] at this
 have N:HN (xO (Jh r) l):=by have:=awy hr l l.length (j4 _); rwa [HZ] at this
 generalize xO (Jh r) l=c at *
 rw [<- hrr] at he;have m0:=dD.1 aYd.hm
 have h8:c.m.J.length<=8:=by
  unfold qA at he; simp only [bK,bN] at he; exact he.2.1.1.2
 have hw:c.I.length<=7200:=by
  have:l.length*(64+c.m.J.length)<=100*72:=LX aFr aj;omega
 -- orders are lost
 obtain⟨L,eL,L1,L2⟩:=anH 500 c;have hA:abx c=rA 10 (oI c) { c with I:=L }:=by unfold abx; rw [eL]; rfl
 have I1:Inv { c with I:=L } l.length:=GZ aYd (by have:=aYd.hw; omega);have K1:Kw { c with I:=L }:=⟨K.e,K.t,λo ho=>K.d o (L2 o ho)⟩
 -- all come up
 obtain⟨R2,up2⟩:=aaG (oI c) I1;have bk2:=VE (oI c) I1;have hB:aAb c=anj 120 (rA 12 (oI (abx c)) (abx c)):=rfl;rw [hB];rw [<- hA] at R2 up2 bk2
 generalize abx c=c2 at *
 obtain⟨k2,I2⟩:=R2.inv;have hm2:c2.m=c.m:=R2.m;have hr2:c2.r=c.r:=R2.r;have hn2:c2.Z=c.Z:=R2.Z;have hs2:c2.s=c.s:=R2.s
 have K2e:eW c.m.J c2.hs:=λz h hg y hy=>by
  obtain⟨h0,hg0,e1,_⟩:=bk2 z h hg;rw [e1] at hy; exact K.e z h0 hg0 y hy
 have N2:HN c2:=R2.hn bk2 N
 have all2:∀ z∈oI c2,uP c2.hs z=true:=λz hz=>by
  obtain⟨n,hn,rfl⟩:=eX.1 hz;rw [hm2] at hn;obtain⟨h,hg,_⟩:=aYd.hN n hn;exact up2 n.ID (eX.2 ⟨n,hn,Y⟩) (by show(cZ n.ID c.hs).isSome=true; rw [hg]; rfl)
 -- all are aLc
 have S3:=anK (oI c2) I2 all2
 generalize rA 12 (oI c2) c2=c3 at *
 obtain⟨k3,I3⟩:=S3.inv
 -- all come up once more
 obtain⟨R4,_⟩:=aaG (oI c3) I3;have bk4:=VE (oI c3) I3;have hB4:anj 120 c3=vH 120 (rA 10 (oI c3) c3):=rfl;rw [hB4]
 generalize rA 10 (oI c3) c3=c4 at *
 obtain⟨k4,I4⟩:=R4.inv;have hm4:c4.m=c.m:=R4.m.trans (S3.m.trans hm2);have hr4:c4.r=c.r:=R4.r.trans (S3.r.trans hr2);have hn4:c4.Z=c.Z:=R4.Z.trans (S3.Z.trans hn2);have hs4:c4.s=c.s:=R4.s.trans (S3.s.trans hs2);have aBK:c4.I=L:=R4.I.trans (S3.I.trans R2.I)
 have bk:∀ z h4,cZ z c4.hs=some h4->∃ h3 h2,cZ z c3.hs=some h3/\cZ z c2.hs=some h2/\h4.l=h3.l/\h4.d=h3.d/\(∀ y∈h3.l,y∈h2.l)/\(z∈oI c2->∀ y∈h3.l,DL h3 y):=λz h4 hg=>by
  obtain⟨h3,hg3,e1,e2⟩:=bk4 z h4 hg;obtain⟨h2,hg2,a1,a2⟩:=S3.bw z h3 hg3;exact⟨h3,h2,hg3,hg2,e1,e2,λy hy=>(a1 y hy).1,a2⟩
 have K4:Kw c4:=⟨λz h hg y hy=>by
   obtain⟨h3,h2,_,hg2,e1,_,a1,_⟩:=bk z h hg
   rw [e1] at hy; rw [hm4]; exact K2e z h2 hg2 y (a1 y hy),by rw [hm4,hs4,hn4]; exact K.t,by rw [hm4,hs4,hn4,aBK]; exact K1.d⟩
 have N4:∀ z h,cZ z c4.hs=some h->z∈oI c4:=λz h hg=>by
  obtain⟨_,h2,_,hg2,_⟩:=bk z h hg;obtain⟨n,hn,hi⟩:=N2 z h2 hg2;rw [hm2] at hn;exact eX.2 ⟨n,by rw [hm4]; exact hn,hi⟩
 have aP0:∀ x∈c4.m.J,∃ n∈x.aD,hst c4.hs n x:=λx hx=>by
  rw [hm4] at hx;have h:=hrd x hx;have hf:=uy m0.2.1 hx;unfold uW at h;rw [hm2,hf.1,aQ au,hf.2] at h;obtain⟨n,hn,h2,hg2,_,y,hy,y1,y2,y3,y4⟩:=als I2.hz x.aD h;obtain⟨h3,hg3,f3⟩:=S3.fw n h2 hg2;obtain⟨h4,hg4,e1,_⟩:=R4.hs n h3 hg3;exact⟨n,hn,h4,hg4,y,by rw [e1]; exact(f3 y hy y4).1,y1,y2,y3⟩
 have hu:=aYd.hu
 obtain⟨HC,nC,tC,sC⟩:=awD I4 K4 ⟨by rw [hs4,hn4,hr4]; exact aX8.l,by rw [hs4,hn4,hr4]; exact aX8.d⟩ (by rw [hs4]; exact hb) (by rw [hm4,hr4]; exact he) (by rw [hn4]; omega) (λn hn=>by
   rw [hm4] at hn;refine R4.up _ ?_;rw [S3.up]
   exact all2 n.ID (eX.2 ⟨n,by rw [hm2]; exact hn,rfl⟩)) (λn hn h hg y hy=>by
   obtain⟨h3,h2,_,_,e1,e2,_,a2⟩:=bk n.ID h hg;rw [e1] at hy;rw [hm4] at hn
   exact(aAa e2 y).2 (a2 (eX.2 ⟨n,by rw [hm2]; exact hn,rfl⟩) y hy)) N4 aP0
 obtain⟨HD,d1,d2⟩:=awp HC;obtain⟨HP,p1,p2⟩:=alq 500 HD;rw [<- alp] at HP p1 p2;rw [aBK] at nC;have hfin:vH 120 c4=vH 119 (DN c4):=afH 1 c4 119;obtain⟨W,HF⟩:=aqs HP (by rw [p2,d2,tC,hn4]; omega) (by rw [p1]; omega) (N:=119) au au;rw [aBI,hr4,hrr] at W;rw [<- hfin] at W HF;have sF:=(awF ⟨k4,I4⟩ 120).2
 generalize vH 120 c4=cf at *
 rw [hm4] at sF;refine⟨W,λx hx=>?_⟩;obtain⟨kf,If⟩:=HF.inv;have mf:=dD.1 If.hm;obtain⟨z,hz,z1,z2,z3⟩:=sF.1 x hx;have hfz:=uy mf.2.1 hz;have hfx:=uy m0.2.1 hx;rw [z1] at hfz
 have hgo:(BR cf.hs z x.ID z.aD).2=0:=by
  obtain⟨n,hn⟩:=HF.k.a z hz;obtain⟨h,hg,y,hy,y1,y2,y3⟩:=HF.k.b z hz n hn;obtain⟨nd,hnd,hni,_⟩:=mf.2.2.2 z hz n hn;have hup:=HF.up nd hnd;rw [hni] at hup; unfold uP at hup; rw [hg] at hup;exact awC If.hz hg hup hy (y1.trans z1) y2 y3 (HF.k.e n h hg y hy).2 z.aD hn
 have aLd:=hrd x hx;have e1:uW cf x.ID=BR cf.hs z x.ID z.aD:=by unfold uW; rw [hfz.1,aQ au,hfz.2]
 have e2:uW c2 x.ID=BR c2.hs x x.ID x.aD:=by unfold uW; rw [hm2,hfx.1,aQ au,hfx.2]
 rw [e2] at aLd;rw [e1,e2]
 rcases afn If.hz z x.ID z.aD with ⟨h,_⟩ | ⟨_,a1,a2⟩
 ·omega
 rcases afn I2.hz x x.ID x.aD with ⟨h,_⟩ | ⟨_,b1,b2⟩
 ·omega
 refine Prod.ext (avy a1 b1 (ak5 ?_)) (hgo.trans aLd.symm);omega
end
section
section
variable {P:Program}{n:Cx}{l:List (Nat × Value)}{b w:World}{S:Nat->Prop}{rs rest:List kF}{Q:Exit->Act->World->Prop}{K:Act->World->Prop}{M:Array Oper}{os:List Oper}{ty:TypeId}{pos:String}{lN:Array Go.Edge}{d:Nat}
def mkz{t e:TypeId}{m:Nat}{z:Int}{cs:V Value}{x y:Operand}(hx:fM l x=some (O z))(hy:fM l y=some (O z))(hb:∀ w,(Instr.makeSlice t (O z) (O z)).run P w=.ok (.slice (some ⟨w.heap.size,0,none⟩) m m) (w.alloc (.cells cs.toArray e)))(H:Hp b S w rs)
  (k:∀ g w',Hp b S w' (dJ g e cs::rs)->WL P n M Q K os ((d,.slice (some ⟨g,0,none⟩) m m)::l) w') (hd:Nat.blt d n.size=true:=by rfl):WL P n M Q K (⟨some d,.makeSlice t x y,ty,pos,lN,none⟩::os) l w:=
 yD (v:=.slice (some ⟨w.heap.size,0,none⟩) m m) (λa _=>eY a) rfl hd (R:=λw2=>w2=w.alloc (.cells cs.toArray e)) (λa ha=>⟨_,by unfold execOp; simp [ha.eval hx,ha.eval hy,hb],rfl⟩) λw2 e2=>by
  subst e2;exact k _ _ (H.new (r:=dJ w.heap.size e cs) (anQ w _) (λg hg=>by show _/\_; rw [show g=w.heap.size from hg]; simp) (Bx.new w e cs))
def upd{t kt et:TypeId}{m ky vy:Operand}{z:Int}{g BK:Nat}{es:Array MapEntry}{v:Value}(H:Hp b S w rs)(s:nY rs (nK g (.map es BK)) rest)(hx:fM l m=some (.map (some g)))(hkey:fM l ky=some (O z))(hv:fM l vy=some v)
  (hm:P.underlying t=some (.map kt et)) (hk:P.underlying kt=some (.int .i64)) (hf:Instr.findNow (.int .i64) (O z) es.toList 0=some none)
  (k:∀ w',Hp b S w' (nK g (.map (es.push ⟨O z,v,BK⟩) (BK+1))::rest)->WL P n M Q K os l w'):WL P n M Q K (⟨none,.mapUpdate t m ky vy,ty,pos,lN,none⟩::os) l w:=
 Py (λa _=>eY a) rfl (R:=λw'=>w'=w.putObj g (.map (es.push ⟨O z,v,BK⟩) (BK+1))) (λa ha=>⟨_,by
  unfold execOp; simp [ha.eval hx,ha.eval hkey,ha.eval hv,Yw hm hk (H.obj s) hf],rfl⟩) λw' e=>by
  subst e; exact k _ (H.putObj s _)
def Ev.aP2{t kt et:TypeId}{m:Operand}{g BK:Nat}{es:Array MapEntry}(H:Hp b S w rs)(sl:nY rs (nK g (.map es BK)) rest)(hm:P.underlying t=some (.map kt et))(hx:fM l m=some (.map (some g))):Ev P n l w (.call ⟨.builtin .len,#[m],#[t]⟩) (O (es.size:Int)):=λo a w' ho ha ex=>by
 have hb:w'.heap[g]? = some (.map es BK):=(ex.block g (vX.1 (H.obj sl)).1).trans (H.obj sl)
 have h1:(Builtin.len_ #[t] o.type #[.map (some g)]).run P w'=.ok (O (es.size:Int)) w':=by
  simp only [Builtin.len_]
  simp [jV hm,sO hb,Result.andThen]
  rfl
 unfold execOp; rw [ho]
 simp only [resolve,jh,kZ,jv,invoke,builtin,vI,mg,wB,ha.eval hx,h1]
def aP3{t kt et:TypeId}{m:Operand}{g BK:Nat}{es:Array MapEntry}(H:Hp b S w rs)(sl:nY rs (nK g (.map es BK)) rest)(hm:P.underlying t=some (.map kt et))(hx:fM l m=some (.map (some g)))
  (k:∀ w',Hp b S w' (nK g (.map #[] BK)::rest)->WL P n M Q K os l w'):WL P n M Q K (⟨none,.call ⟨.builtin .clear,#[m],#[t]⟩,ty,pos,lN,none⟩::os) l w:=
 WL.ayV (v:=.tuple #[]) (λa _=>eY a) rfl (R:=λw'=>w'=w.putObj g (.map #[] BK)) (λa ha=>⟨_,by
  have h1:(Builtin.clear_ #[t] ty #[.map (some g)]).run P w=.ok (.tuple #[]) (w.putObj g (.map #[] BK)):=by
   simp only [Builtin.clear_]
   simp [jV hm,sO (H.obj sl),EU _ (H.obj sl),Result.andThen]
   rfl
  unfold execOp
  simp only [resolve,jh,kZ,jv,invoke,builtin,vI,mg,wB,ha.eval hx,h1],rfl⟩) λw' e=>by
  subst e; exact k _ (H.putObj sl _)
end
section
variable {P:Program}{n:Cx}{l:List (Nat × Value)}{w:World}{t ty:TypeId}{x y:Operand}
def Ev.neS{xs ys:Array Value}{b:Bool}(hx:fM l x=some (.agg xs))(hy:fM l y=some (.agg ys))(heq:∀ w,(Op.equalIn 10000 t (.agg xs) (.agg ys)).run P w=.ok b w)(hm:P.eqGuardType P.depth t=false):Ev P n l w (.binOp .neq t x y ty) (.bool (!b)):=λo a w' ho ha _=>by
 unfold execOp; rw [ho]
 simp [ha.eval hx,ha.eval hy,run_eqGuard_agg w' .neq t x y xs ys hm,run_neq_struct,heq]
end
structure yA where
  Term:Int
  Cmd:eU
  deriving DecidableEq
def yA.enc(x:yA):List Value:=[.int .i64 x.Term,.int .i64 x.Cmd.Client,.int .i64 x.Cmd.Seq,.int .i64 x.Cmd.Kind,.int .i64 x.Cmd.A,.int .i64 x.Cmd.B,.int .i64 x.Cmd.C]
def yA.kP(x:yA):∀ u∈x.enc,u.oneCell'=true:=by
 intro u hu
 simp only [yA.enc,gW,lH,qM] at hu
 rcases hu with rfl | rfl | rfl | rfl | rfl | rfl | rfl <;> rfl
def pV:Ty yA:=Ty.flat 7 yA.enc au (λ_=>rfl) yA.kP
instance:Flat pV:=⟨λh=>h⟩
structure Di where
  Term:Int
  aP4:Int
  deriving DecidableEq
def Di.enc(x:Di):List Value:=[.int .i64 x.Term,.int .i64 x.aP4]
def Di.kP(x:Di):∀ u∈x.enc,u.oneCell'=true:=by
 intro u hu
 simp only [Di.enc,gW,lH,qM] at hu
 rcases hu with rfl | rfl <;> rfl
structure WW where
  Kind:Int
  jm:Int
  To:Int
  Term:Int
  Index:Int
  aAd:Int
  aFs:Int
  Yes:Bool
  L:List yA
  deriving DecidableEq
def WW.enc(x:WW)(B0:ah)(d0:Nat):List Value:=[.int .i64 x.Kind,.int .i64 x.jm,.int .i64 x.To,.int .i64 x.Term,.int .i64 x.Index,.int .i64 x.aAd,.int .i64 x.aFs,.bool x.Yes,.slice B0 x.L.length d0]
def WW.kP(x:WW)(B0:ah)(d0:Nat):∀ u∈x.enc B0 d0,u.oneCell'=true:=by
 intro u hu
 simp only [WW.enc,gW,lH,qM] at hu
 rcases hu with rfl | rfl | rfl | rfl | rfl | rfl | rfl | rfl | rfl <;> rfl
def aAe:Ty WW where
  k:=9
  pos:=au
  R:=λS w x cs=>∃(B0:ah)(d0:Nat),cs=x.enc B0 d0/\Sl pV S w B0 d0 x.L
  len:=by rintro S w x cs ⟨B0,d0,rfl,h0⟩; rfl
  one:=by rintro S w x cs ⟨B0,d0,rfl,h0⟩; exact WW.kP x B0 d0
  keep:=by rintro S w w' x cs m ⟨B0,d0,rfl,h0⟩; exact⟨B0,d0,rfl,h0.keep m⟩
  sub:=by rintro S S' w x cs n ⟨B0,d0,rfl,h0⟩; exact⟨B0,d0,rfl,h0.sub n⟩
  bd:=by rintro S w x cs ⟨B0,d0,rfl,h0⟩; exact⟨B0,d0,rfl,h0.bd⟩
def acR(a0:Int):∀ w,(Instr.buildSlice 42 1 (List.toArray [(0,.int .u8 a0)])).run prog w=.ok (.slice (some ⟨w.heap.size,0,none⟩) 1 1) (w.alloc (.cells (List.toArray [.int .u8 a0]) 5)):=ay
def awG  : ∀ w,(Instr.buildSlice 56 0 (List.toArray [])).run prog w=.ok (.slice (some ⟨w.heap.size,0,none⟩) 0 0) (w.alloc (.cells (List.toArray []) 265)):=ay
def awH:kH prog 265 7 56:=by
 obtain⟨i,h1,h2,h3,h4⟩:=qo (show(prog.info? 265).map (λi=>(i.zero,i.size,i.bytes))=some (some (.agg #[O 0,O 0,O 0,O 0,O 0,O 0,O 0]),7,56) by kernel_rfl);exact⟨i,_,h1,h2,h3,h4,Y⟩
def aAf:∀ w,(Instr.makeSlice 94 (O 1) (O 1)).run prog w=.ok (.slice (some ⟨w.heap.size,0,none⟩) 1 1) (w.alloc (.cells (List.toArray [.pointer none,.pointer none]) 102)):=λw=>by
 obtain⟨i,h1,h2,h3,h4⟩:=qo (show(prog.info? 102).map (λi=>(i.zero,i.size,i.bytes))=some (some (.agg #[.pointer none,.pointer none]),2,16) by kernel_rfl);have h:=run_make (P:=prog) w 94 102 i _ KU h1 h2 .i64 .i64 1 1 au (FB _) (by rw [h4]; decide) au;rw [h3,show madeCells (Value.cells (.agg #[.pointer none,.pointer none])) (Int.toNat 1*2)=List.toArray [.pointer none,.pointer none] by kernel_rfl] at h;exact h
def awI(a0:ah)(a0n a0c:Nat):prog.built 97 [(0,.slice a0 a0n a0c)]=some #[.slice a0 a0n a0c,.slice none 0 0]:=ak
def anM:bU prog 97 0 0:=ay
def aAg  : prog.built 181 []=some #[.slice none 0 0,O 0,O 0,O 0,.slice none 0 0]:=ak
def QI:Size prog 102 2:=ay
def ajj:bU prog 102 1 1:=ay
def aaI:∀ w,(zeroValue 177).run prog w=.ok (.agg #[O 0,O 0]) w:=ay
def yT:∀ w,(zeroValue 183).run prog w=.ok (.agg #[O 0,O 0,.slice none 0 0]) w:=ay
def NU:bU prog 181 2 2:=ay
def ajk:bU prog 179 0 0:=ay
def alv:Size prog 177 2:=ay
def KW:WC prog 177 2:=⟨λ_=>by kernel_rfl,alv⟩
def ajl:bU prog 179 1 2:=ay
def awJ:kW prog 56:=ay
def aqt(a0:ah)(a0n a0c:Nat):prog.built 183 [(2,.slice a0 a0n a0c)]=some #[O 0,O 0,.slice a0 a0n a0c]:=ak
def aFt:Size prog 183 3:=ay
def DY:WC prog 183 3:=⟨λ_=>by kernel_rfl,aFt⟩
def TR:bU prog 183 2 2:=ay
def awK:bC prog 187:=ay
def aaJ:bU prog 177 0 0:=ay
def ajm:∀ w,(Instr.makeSlice 189 (O 1) (O 1)).run prog w=.ok (.slice (some ⟨w.heap.size,0,none⟩) 1 1) (w.alloc (.cells (List.toArray [O 0,O 0]) 270)):=λw=>by
 obtain⟨i,h1,h2,h3,h4⟩:=qo (show(prog.info? 270).map (λi=>(i.zero,i.size,i.bytes))=some (some (.agg #[O 0,O 0]),2,16) by kernel_rfl);have h:=run_make (P:=prog) w 189 270 i _ aaH h1 h2 .i64 .i64 1 1 au (FB _) (by rw [h4]; decide) au;rw [h3,show madeCells (Value.cells (.agg #[O 0,O 0])) (Int.toNat 1*2)=List.toArray [O 0,O 0] by kernel_rfl] at h;exact h
def LV(a0:Int)(ahn:Int)(aho:Int)(ata:Int)(atb:Int)(atc:ah)(aBL aBM:Nat)(a3:Option Nat)(a4:ah)(a4n a4c:Nat):prog.built 191 [(0,O a0),(1,.agg #[O ahn,O aho]),(2,.agg #[O ata,O atb,.slice atc aBL aBM]),(5,.map a3),(6,.slice a4 a4n a4c)]=some #[O a0,O ahn,O aho,O ata,O atb,.slice atc aBL aBM,O 0,O 0,.map a3,.slice a4 a4n a4c]:=ak
def TS:bU prog 102 0 0:=ay
def aFu:kW prog 100:=ay
def NV:bU prog 191 1 1:=ay
def aaK:bU prog 191 0 0:=ay
def TT(a0:Int)(a1:Int):prog.built 177 [(0,O a0),(1,O a1)]=some #[O a0,O a1]:=ak
def ajn:bU prog 191 5 8:=ay
def aaL:bU prog 191 6 9:=ay
def aaM:bU prog 191 2 3:=ay
def aqu(a0:Int):prog.built 270 [(1,O a0)]=some #[O 0,O a0]:=ak
def alx:Size prog 270 2:=ay
def aAh  : prog.built 118 []=some #[O 0,O 0,O 0,O 0,O 0,O 0]:=ak
def TU(a0:Int)(ahn:Int)(aho:Int)(as9:Int)(aLe:Int)(aLf:Int)(aLg:Int):prog.built 265 [(0,O a0),(1,.agg #[O ahn,O aho,O as9,O aLe,O aLf,O aLg])]=some #[O a0,O ahn,O aho,O as9,O aLe,O aLf,O aLg]:=ak
def DZ(a0:Int)(a1:Int)(a2:Int)(a3:Int)(a4:Int)(a5:Int)(a6:Int):∀ w,(Instr.buildSlice 56 1 (List.toArray [(0,.agg #[O a0,O a1,O a2,O a3,O a4,O a5,O a6])])).run prog w=.ok (.slice (some ⟨w.heap.size,0,none⟩) 1 1) (w.alloc (.cells (List.toArray [O a0,O a1,O a2,O a3,O a4,O a5,O a6]) 265)):=ay
def QJ:Size prog 265 7:=ay
def aly:WC prog 265 7:=⟨λ_=>by kernel_rfl,QJ⟩
def ajo:∀ w,(zeroValue 265).run prog w=.ok (.agg #[O 0,O 0,O 0,O 0,O 0,O 0,O 0]) w:=ay
def awL:bU prog 265 0 0:=ay
def awM:bU prog 270 0 0:=ay
def awN:∀ w,(zeroValue 270).run prog w=.ok (.agg #[O 0,O 0]) w:=ay
def ajp:bU prog 191 4 7:=ay
def Jr(a0:Int)(a1:Int)(a2:Int)(a3:Int)(a4:Int)(a5:Int)(a6:Int)(a7:Int):∀ w,(Instr.buildSlice 46 8 (List.toArray [(0,O a0),(1,O a1),(2,O a2),(3,O a3),(4,O a4),(5,O a5),(6,O a6),(7,O a7)])).run prog w=.ok (.slice (some ⟨w.heap.size,0,none⟩) 8 8) (w.alloc (.cells (List.toArray [O a0,O a1,O a2,O a3,O a4,O a5,O a6,O a7]) 3)):=ay
def awO:bU prog 181 0 0:=ay
def aAi:prog.eqGuardType prog.depth 177=false:=ak
def aAj(x y:Di)(w:World):(Op.equalIn 10000 177 (.agg x.enc.toArray) (.agg y.enc.toArray)).run prog w=.ok (decide (x=y)) w:=by
 obtain⟨a0,a1⟩:=x; obtain⟨b0,b1⟩:=y
 simp only [Di.enc,Di.mk.injEq]
 simp [go_sem]
 repeat' split
 all_goals simp_all
def acS(a0:ah)(a0n a0c:Nat):prog.built 358 [(0,.slice a0 a0n a0c)]=some #[.slice a0 a0n a0c,.slice none 0 0]:=ak
def TV:bU prog 358 1 1:=ay
def TW(a0:Int)(a1:ah)(a1n a1c:Nat):prog.built 361 [(0,O a0),(1,.slice a1 a1n a1c)]=some #[O a0,.slice a1 a1n a1c]:=ak
def afK(RJ:Int)(Zv:Int)(a1:ah)(a1n a1c:Nat):prog.built 179 [(0,.agg #[O RJ,O Zv]),(1,.slice a1 a1n a1c)]=some #[O RJ,O Zv,.slice a1 a1n a1c]:=ak
def aFv:Size prog 179 3:=ay
def aFw:kH prog 110 9 88:=by
 obtain⟨i,h1,h2,h3,h4⟩:=qo (show(prog.info? 110).map (λi=>(i.zero,i.size,i.bytes))=some (some (.agg #[O 0,O 0,O 0,O 0,O 0,O 0,O 0,.bool false,.slice none 0 0]),9,88) by kernel_rfl);exact⟨i,_,h1,h2,h3,h4,Y⟩
def Ij{S0:Nat->Prop}(w:World){wP:ah}{vk:Nat}{s:V yA}(sP:Sl pV S0 w wP vk s)(hn:s.length<=1000000):bM prog 185 #[.slice wP s.length vk] w λv w'=>∃ A0 c0,v=.slice A0 s.length c0/\Hp w S0 w' [aR pV 265 A0 c0 s]:=by
 refine lg S0 func185 ntmps185 Y λH0=>?_;have aoa:=sP.bI;refine kX Y<|aZ<|gD Y<|ev (Ev.alF Gf Y Y)<|dn<|bS Y (λhc4=>?_) (λhc4=>?_)
 ·refine kX Y<|Aw Y ?_
  have H1:=H0.nil pV 265;have gy:(([]:V yA):V yA)=s:=by have h1:=sP.nil (by simpa using hc4); have h2:=sP.cap; exact(xY aj).symm
  have H2:=(gy▸H1:Hp w S0 w (aR pV 265 none 0 s::[]));exact⟨none,0,by rw [<- gy] <;> rfl,H2⟩
 refine jQ ?_;refine rg<|bs0 (τ:=pV) (vs:=[]) Y (by intro _; apply awG) rfl H0 λg1 w1 K1=>mv rfl<|ap (ys:=s) K1 U rfl rfl (K1.a sP).any Gf awH av (by first | omega | (simp; omega) | (simp; done)) rfl λsQ sS w2 K2=>fE rfl<|iU rfl ?_
 have gH:((([]:V yA)++s):V yA)=s:=by simp
 rw [gH] at K2;exact⟨sQ,sS,by rw [gH] <;> rfl,K2⟩
abbrev eL:List yA:=[⟨1,0,0,0,0,0,0⟩]
abbrev e1:yA:=⟨1,0,0,0,0,0,0⟩
abbrev i0L:List Int:=[0,1,0,0,0,0,0,0]
abbrev i1L:List Int:=[1,1,0,0,0,0,0,0]
abbrev bb1:List (BitVec 8):=[83#8,1#8,0#8,7#8,2#8,1#8,1#8,1#8,1#8,0#8,0#8,128#8,142#8,1#8,183#8,83#8,2#8,0#8,13#8,8#8,1#8,1#8,1#8,1#8,0#8,0#8,0#8,0#8,0#8,0#8,0#8,0#8,55#8,60#8,169#8,24#8]
abbrev bb2:List (BitVec 8):=[2#8,1#8,1#8,1#8,1#8,0#8,0#8]
abbrev bb3:List (BitVec 8):=[8#8,1#8,1#8,1#8,1#8,0#8,0#8,0#8,0#8,0#8,0#8,0#8,0#8]
abbrev gA(p0 p1 p2 p3 p4 p5:Nat)(F:List kF):List kF:=dJ p0 97 [.slice (some ⟨p1,0,none⟩) 1 1,.slice none 0 0]::dJ p1 102 [.pointer (some ⟨p2,0,none⟩),.pointer (some ⟨p3,0,none⟩)]::dJ p2 191 [.int .i64 1,.int .i64 0,.int .i64 0,.int .i64 0,.int .i64 0,.slice none 0 0,.int .i64 0,.int .i64 0,.map (some p4),.slice (some ⟨p5,0,none⟩) 1 1]::nK p4 (.map (#[]:Array MapEntry) 0)::dJ p5 270 [.int .i64 0,.int .i64 0]::dJ p3 181 [.slice none 0 0,.int .i64 0,.int .i64 0,.int .i64 0,.slice none 0 0]::F
abbrev gB(p0 p1 p2 p3 p4 p5:Nat)(qP0:ah)(qp1:Nat)(qP2:ah)(qp3:Nat)(qP4:ah)(qp5:Nat)(qP6:ah)(qp7:Nat)(F:List kF):List kF:=dJ p0 97 [.slice (some ⟨p1,0,none⟩) 1 1,.slice qP0 (([]:List WW).length) qp1]::dJ p1 102 [.pointer (some ⟨p2,0,none⟩),.pointer (some ⟨p3,0,none⟩)]::dJ p2 191 [.int .i64 1,.int .i64 1,.int .i64 1,.int .i64 0,.int .i64 0,.slice qP2 (eL.length) qp3,.int .i64 2,.int .i64 1,.map (some p4),.slice (some ⟨p5,0,none⟩) 1 1]::nK p4 (.map (Array.push (#[]:Array MapEntry) ⟨.int .i64 1,.bool true,0⟩) 1)::dJ p5 270 [.int .i64 1,.int .i64 1]::dJ p3 181 [.slice qP4 (bb1.length) qp5,.int .i64 36,.int .i64 1,.int .i64 1,.slice qP6 (eL.length) qp7]::aR pV 265 qP2 qp3 eL::aR fP 5 qP4 qp5 bb1::aR pV 265 qP6 qp7 eL::aR aAe 110 qP0 qp1 ([]:List WW)::F
def aBN(P:Program)(f:Nat):Bool:=match P.funcs[f]? with
  | some fn=>!(fn.name == "runtime.NumGoroutine")&&fn.body.isSome
  | none=>false
def VF:List Nat:=[47,48,49,50,51,52,57,59,60,105,106,107,108,109,110,123,124,125,127,137,156,186,188,189,190,191,192,198,199,200,201,210,238,239,259,260,261,264,265,266,267,268,307,317,331,332,333,334]
def awP:VF.all (aBN prog)=true:=ak
def BJ(f:Nat)(hf:VF.contains f=true):bC prog f:=by
 have h:=mD.1 awP f (by simpa using hf);unfold aBN at h
 split at h
 ·rename_i fn hfn
  cases hb:fn.body with
  | none=>simp [hb] at h
  | some c=>simp [hb] at h; exact ara hfn hb (by simpa using h)
 ·cases h
section
variable {n n':Cx}{Q Q':Qt}{fs fs':List FrD}{W9:CuD}{l l':Lc}{w:World}{K:Act->World->Prop}{M:Array Oper}{os:List Oper}{y:Option Code}
def nS(h:JB prog VF 999 ⟨n,fs,.o M os y,l⟩=⟨n',fs',W9,l'⟩)(k:Gs prog Q ⟨n',fs',W9,l'⟩ w):WL prog n M (oQ prog n (sj prog Q n fs) y) (oK prog n (sj prog Q n fs) y) os l w:=su BJ 999 ⟨n,fs,.o M os y,l⟩ (h▸k)
def dvc{x:Code}(h:JB prog VF 999 ⟨n,fs,.c x,l⟩=⟨n',fs',W9,l'⟩)(k:Gs prog Q ⟨n',fs',W9,l'⟩ w):WP prog n x l w (sj prog Q n fs):=su BJ 999 ⟨n,fs,.c x,l⟩ (h▸k)
def dv0{x:Code}(h:JB prog VF 999 ⟨n,[],.c x,l⟩=⟨n',fs',W9,l'⟩)(k:Gs prog Q ⟨n',fs',W9,l'⟩ w):WP prog n x l w Q:=su BJ 999 ⟨n,[],.c x,l⟩ (h▸k)
def dve{x:Exit}(h:JB prog VF 999 ⟨n,fs,.e x,l⟩=⟨n',fs',W9,l'⟩)(k:Gs prog Q ⟨n',fs',W9,l'⟩ w):l7 n (sj prog Q n fs) x l w:=su BJ 999 ⟨n,fs,.e x,l⟩ (h▸k)
def rtk{P:Program}{k:Nat}{fn:Func}{rs:V ResultVar}{vs:V Value}{d:Nat}(hr:fn.results=⟨rs⟩)(h:ac6 P l w rs vs)(k2:Gs P Q ⟨n',fs,.o M os y,(d,rW vs)::l'⟩ w):Gs P Q ⟨.bare k,.call n' fn M os y d l'::fs,.e .ret,l⟩ w:=qL hr h k2
def ci{Iq:Operand}{args:V Operand}{tys:Array TypeId}{ty:TypeId}{pos:String}{lN:Array Go.Edge}{d f:Nat}{as0 caps vs:V Value}{fn:Func}{c:Code}(he:(fM l Iq,Ef l args,prog.funcs[f]?,fn.body)=(some (.func (.func f) ⟨as0⟩ ⟨caps⟩),some vs,some fn,some c))
  (hr:(agb SdD 0 (as0++vs++caps) λr=>JB prog VF 999 ⟨.bare fn.ntmps,[],.c c,r⟩)=⟨n',fs',W9,l'⟩)
  (h:Gs prog (bodyPost prog fn (RR λv w=>WL prog n M Q K os ((d,v)::l) w)) ⟨n',fs',W9,l'⟩ w) (hc:(Nat.ble (as0++vs++caps).length fn.ntmps,Nat.blt d n.size)=(true,true):=by rfl) (Ir:bC prog f:=by intro _ _; kernel_rfl) :
  WL prog n M Q K (⟨some d,.call ⟨.value Iq,args.toArray,tys⟩,ty,pos,lN,none⟩::os) l w:=by
 simp only [KN] at he hc
 rw [Yx] at hr;exact Hq he.1 he.2.1 Y Ir (Yg he.2.2.1 he.2.2.2 Y hc.1 (su BJ 999 ⟨.bare fn.ntmps,[],.c c,enum 0 (as0++vs++caps)⟩ (hr▸h))) hc.2 λ_ _ h=>h
end
section
variable {n n':Cx}{Q:Qt}{fs fs':List FrD}{W9:CuD}{l l' l2:Lc}{b w:World}{S:Nat->Prop}{rs rest:List kF}{M:Array Oper}{os:List Oper}{y:Option Code}{ty t t' e:TypeId}{pos:String}{lN:Array Go.Edge}{d d2 g i:Nat}{x x2 s:Operand}{v:Value}{cs ds:List Value}{gd:Option (Nat × Bool)}
def lb(H:Hp b S w rs)(sl:nY rs (dJ g t' cs) rest)(h:(QW M l gd,fM l x,cs[i]?,JB prog VF 999 ⟨n,fs,.o M os y,(d,v)::l⟩)=(some true,some (.pointer (some ⟨g,i,none⟩)),some v,⟨n',fs',W9,l'⟩))(k:Gs prog Q ⟨n',fs',W9,l'⟩ w)(hn:kW prog t:=by intro _; kernel_rfl)(hd:Nat.blt d n.size=true:=by rfl):WL prog n M (oQ prog n (sj prog Q n fs) y) (oK prog n (sj prog Q n fs) y) (⟨some d,.load t x,ty,pos,lN,gd⟩::os) l w:=by
 simp only [KN] at h
 exact yD (N7 h.1) Y hd (λa ha=>⟨w,dU hn h.2.1 (H.x sl) h.2.2.1 _ a w Y ha (oW w),Y⟩) (λ_ e=>e▸su BJ 999 ⟨n,fs,.o M os y,(d,v)::l⟩ (h.2.2.2▸k))
def lc(H:Hp b S w rs)(sl:nY rs (dJ g t' cs) rest)(h:(QW M l gd,fM l x,JB prog VF 999 ⟨n,fs,.o M os y,(d,.agg ⟨cs⟩)::l⟩)=(some true,some (fK g),⟨n',fs',W9,l'⟩))(k:Gs prog Q ⟨n',fs',W9,l'⟩ w)(hn:WC prog t cs.length:=by constructor <;> (intro _; kernel_rfl))(hd:Nat.blt d n.size=true:=by rfl):WL prog n M (oQ prog n (sj prog Q n fs) y) (oK prog n (sj prog Q n fs) y) (⟨some d,.load t x,ty,pos,lN,gd⟩::os) l w:=by
 simp only [KN] at h
 exact yD (N7 h.1) Y hd (λa ha=>⟨w,fA hn h.2.1 Y (H.x sl) _ a w Y ha (oW w),Y⟩) (λ_ e=>e▸su BJ 999 ⟨n,fs,.o M os y,(d,.agg ⟨cs⟩)::l⟩ (h.2.2▸k))
def sd(H:Hp b S w rs)(sl:nY rs (dJ g t' cs) rest)(h:(fM l x,fM l x2,v.cells,cs.length,ds.all (λu=>u.oneCell'),JB prog VF 999 ⟨n,fs,.o M os y,l⟩)=(some (fK g),some v,⟨ds⟩,ds.length,true,⟨n',fs',W9,l'⟩))(k:∀ w',Hp b S w' (dJ g t' ds::rest)->Gs prog Q ⟨n',fs',W9,l'⟩ w')(hs:Size prog t ds.length:=by intro _; kernel_rfl):WL prog n M (oQ prog n (sj prog Q n fs) y) (oK prog n (sj prog Q n fs) y) (⟨none,.store t x x2,ty,pos,lN,none⟩::os) l w:=by
 simp only [KN] at h
 exact stw h.1 h.2.1 h.2.2.1 hs H sl h.2.2.2.1 h.2.2.2.2.1 λw' K=>su BJ 999 ⟨n,fs,.o M os y,l⟩ (h.2.2.2.2.2▸k w' K)
def sc(H:Hp b S w rs)(sl:nY rs (dJ g t' cs) rest)(h:(fM l x,fM l x2,v.oneCell',Nat.blt i cs.length,JB prog VF 999 ⟨n,fs,.o M os y,l⟩)=(some (.pointer (some ⟨g,i,none⟩)),some v,true,true,⟨n',fs',W9,l'⟩))(k:∀ w',Hp b S w' (dJ g t' (cs.set i v)::rest)->Gs prog Q ⟨n',fs',W9,l'⟩ w')(hs:Size prog t 1:=by intro _; kernel_rfl):WL prog n M (oQ prog n (sj prog Q n fs) y) (oK prog n (sj prog Q n fs) y) (⟨none,.store t x x2,ty,pos,lN,none⟩::os) l w:=by
 simp only [KN] at h
 exact stc h.1 h.2.1 h.2.2.1 hs H sl h.2.2.2.1 λw' K=>su BJ 999 ⟨n,fs,.o M os y,l⟩ (h.2.2.2.2▸k w' K)
def aFx(d:Nat):Operand->Bool
  | .tmp j=>!Nat.beq d j
  | _=>true
def awR{o:Operand}{u:Value}(h:aFx d o=true):fM ((d,u)::l) o=fM l o:=by
 cases o with
 | tmp j=>simp only [aFx,dZ] at h; simp [fM,look,h]
 | _=>rfl
def a1{α:Type}{τ:Ty α}[Flat τ]{A:ah}{c m bytes:Nat}{xs:V α}{T t2:TypeId}{vs:V (Nat × Value)}{parts:V (Nat × Operand)}{ty2:TypeId}{pos2:String}{ade:Array Go.Edge}(H:Hp b S w rs)(sl:nY rs (aR τ e A c xs) rest)(z:α)(hI:kH prog e τ.k bytes)
  (h:(m,PV l parts,fM l s,aFx d s,Nat.ble bytes 1000,Nat.ble xs.length 1000,Nat.blt d2 n.size)=(1,some vs,some (.slice A xs.length c),true,true,true,true))
  (k:∀ A' c' g w',Hp b S w' (aR τ e A' c' (xs++[z])::rest)->WL prog n M (oQ prog n (sj prog Q n fs) y) (oK prog n (sj prog Q n fs) y) os ((d2,.slice A' (xs++[z]).length c')::(d,.slice (some ⟨g,0,none⟩) [z].length 1)::l) w')
  (hR:∀ w',τ.R (Rd b S rs w) w' z cs:=by exact λ_=>rfl) (hb:∀ w,(Instr.buildSlice T m ⟨vs⟩).run prog w=.ok (.slice (some ⟨w.heap.size,0,none⟩) m m) (w.alloc (.cells ⟨cs⟩ e)):=by intro _; kernel_rfl) (hT:prog.underlying t2=some (.slice e):=by kernel_rfl) (hd:Nat.blt d n.size=true:=by rfl) :
  WL prog n M (oQ prog n (sj prog Q n fs) y) (oK prog n (sj prog Q n fs) y) (⟨some d,.buildSlice T m ⟨parts⟩,ty,pos,lN,none⟩::⟨some d2,.call ⟨.builtin .append,#[s,.tmp d],#[t2,t2]⟩,ty2,pos2,ade,none⟩::os) l w:=by
 simp only [KN] at h
 obtain⟨h1,h2,h3,h4,h5,h6,h7⟩:=h;refine yV (τ:=τ) h2 hb h1 H (λw' _=>hR w') (λg w1 K1=>?_) hd;have hl:=nU h6;refine ap (ys:=[z]) K1 (.t sl) (by unfold evd; rw [h7,awR h4]; exact h3) (by simp [fM,look]) (K1.o U) hT hI aj av h5 λA' c' w' K=>k A' c' g w' (K.rm s1)
def ix{α:Type}{k:Nat}{enc:α->V Value}{aP5:0<k}{hl0:∀ x,(enc x).length=k}{h10:∀ x,∀ v∈enc x,v.oneCell'=true}{A:ah}{c:Nat}{xs:V α}{z:α}{kd:IntKind}{zi:Int}{T t2:TypeId}{x3:Operand}{gd2:Option (Nat × Bool)}{ty2:TypeId}{pos2:String}{ade:Array Go.Edge}(H:Hp b S w rs)(sl:nY rs (aR (Ty.flat k enc aP5 hl0 h10) e A c xs) rest)(i:Nat)
  (h:(QW M l gd,fM l x,fM l x2,xs[i]?,QW M ((d,.pointer (some ((Gh A).add (i*k))))::l) gd2,(enc z)[0]?,fM ((d,.pointer (some ((Gh A).add (i*k))))::l) x3,JB prog VF 999 ⟨n,fs,.o M os y,(d2,v)::(d,.pointer (some ((Gh A).add (i*k))))::l⟩)=(some true,some (.slice A xs.length c),some (.int kd zi),some z,some true,some v,some (.pointer (some ((Gh A).add (i*k)))),⟨n',fs',W9,l'⟩))
  (kk:Gs prog Q ⟨n',fs',W9,l'⟩ w) (hz:zi=(i:Int):=by rfl) (hT:prog.underlying T=some (.slice e):=by kernel_rfl) (hs:Size prog e k:=by intro _; kernel_rfl) (hn:kW prog t2:=by intro _; kernel_rfl) (hd:(Nat.blt d n.size,Nat.blt d2 n.size)=(true,true):=by rfl) :
  WL prog n M (oQ prog n (sj prog Q n fs) y) (oK prog n (sj prog Q n fs) y) (⟨some d,.indexAddr T x x2,ty,pos,lN,gd⟩::⟨some d2,.load t2 x3,ty2,pos2,ade,gd2⟩::os) l w:=by
 simp only [KN] at h hd
 obtain⟨h1,h2,h3,h4,h5,h6,h7,h8⟩:=h;have ho:=H.o sl;refine yD (N7 h1) Y hd.1 (λa ha=>⟨w,d9 hT hs h2 h3 hz (aP h4) (ho.some_ h4) _ a w Y ha (oW w),Y⟩) (λ_ e=>e▸?_);exact yD (N7 h5) Y hd.2 (λa ha=>⟨w,kG hn h7 (ho.eZ (j:=0) h4 h6) _ a w Y ha (oW w),Y⟩) (λ_ e=>e▸su BJ 999 ⟨n,fs,.o M os y,(d2,v)::(d,.pointer (some ((Gh A).add (i*k))))::l⟩ (h8▸kk))
def r1{k a:Nat}{fn:Func}(H:Hp b S w rs)(sl:nY rs (dJ g t' cs) rest)(h:(fn.results,look l a,JB prog VF 999 ⟨n,fs,.o M os y,(d,.agg ⟨cs⟩)::l'⟩)=(⟨[.cell a t]⟩,some (fK g),⟨n',fs',W9,l2⟩))(kk:Gs prog Q ⟨n',fs',W9,l2⟩ w)(hn:WC prog t cs.length:=by constructor <;> (intro _; kernel_rfl)):Gs prog Q ⟨.bare k,.call n fn M os y d l'::fs,.e .ret,l⟩ w:=by
 simp only [KN] at h
 exact rtk h.1 (vs:=[.agg ⟨cs⟩]) ⟨_,_,Y,⟨_,h.2.1,jo hn Y (H.x sl)⟩,Y⟩ (su BJ 999 ⟨n,fs,.o M os y,(d,.agg ⟨cs⟩)::l'⟩ (h.2.2▸kk))
end
def au1{b w:World}{S:Nat->Prop}{F:V kF}(H0:Hp b S w F):bM prog 187 #[.agg #[O 0,O 0,.slice none 0 0]] w λv w'=>v=.bool true/\Hp b S w' F:=by
 refine qN func187 ntmps187 Y<|dv0 Y<|bx Y Y H0 λg1 w1 K1=>nS Y<|lb K1 U Y<|lb K1 U Y<|lb K1 U Y<|lb K1 U Y<|lb K1 U Y<|lb K1 U Y<|lb K1 U Y<|lb K1 U Y<|lb K1 U Y<|uo Y ?_
 exact⟨Y,(K1.rm U)⟩
def au2{b w:World}{S:Nat->Prop}{F:V kF}(H0:Hp b S w F):bM prog 193 #[.agg #[O 0,O 0,.slice none 0 0],O 0] w λv w'=>v=.tuple #[O 0,.bool true]/\Hp b S w' F:=by
 refine qN func193 ntmps193 Y<|dv0 Y<|bx Y Y H0 λg1 w1 K1=>nS Y<|lc K1 U Y<|bx Y Y K1 λg2 w2 K2=>al yT Y K2 λg3 w3 K3=>nS Y<|lc K3 s1 Y<|gu Y (au1 K3) ?_
 rintro _ w4 ⟨rfl,K4⟩;refine nS Y<|lc K4 s1 Y<|sd K4 U Y λw5 K5=>r1 K5 U Y ?_
 have H1:=(K5.rm s1).rm U;refine sd H1 U Y λw6 K6=>lb K6 U Y<|lb K6 U Y<|uo Y ?_
 exact⟨Y,(K6.rm U)⟩
def au0{b w:World}{S:Nat->Prop}{F:V kF}(H0:Hp b S w F):bM prog 113 #[.agg #[O 0,O 0,.slice none 0 0]] w λv w'=>v=.tuple #[O 0,O 0]/\Hp b S w' F:=by
 refine qN func113 ntmps113 Y<|dv0 Y<|bx Y Y H0 λg1 w1 K1=>nS Y<|lc K1 U Y<|bx Y Y K1 λg2 w2 K2=>al yT Y K2 λg3 w3 K3=>nS Y<|lc K3 s1 Y<|gu Y (au1 K3) ?_
 rintro _ w4 ⟨rfl,K4⟩;refine nS Y<|lc K4 s1 Y<|sd K4 U Y λw5 K5=>r1 K5 U Y ?_
 have H1:=(K5.rm s1).rm U;refine sd H1 U Y λw6 K6=>lb K6 U Y<|lb K6 U Y<|lc K6 U Y<|gu Y (au2 K6) ?_
 rintro _ w7 ⟨rfl,K7⟩;refine nS Y<|uo Y ?_
 exact⟨Y,(K7.rm U)⟩
def au4{b w:World}{S:Nat->Prop}{F:V kF}{P0:ah}{p1:Nat}(H0:Hp b S w (aR pV 265 P0 p1 eL::F)):bM prog 187 #[.agg #[O 0,O 0,.slice P0 (eL.length) p1]] w λv w'=>v=.bool true/\Hp b S w' (aR pV 265 P0 p1 eL::F):=by
 refine qN func187 ntmps187 Y<|dv0 Y<|bx Y Y H0 λg1 w1 K1=>nS Y<|lb K1 U Y<|lb K1 U Y<|lb K1 U Y<|lb K1 U Y<|lb K1 U Y<|lb K1 U Y<|lb K1 U Y<|lb K1 U Y<|lb K1 U Y ?_
 have bT:(eL)[0]? = some e1:=rfl;refine ev (d9 (i:=0) Gf QJ Y Y Y (aP bT) ((K1.o s1).some_ bT))<|ev (iR aly Y Y ((K1.o s1).fF bT))<|al ajo Y K1 λg2 w2 K2=>sd K2 U Y λw3 K3=>lb K3 U Y<|lb K3 U Y<|lb K3 U Y ?_
 have H1:=K3.rm U;refine uo Y ?_;exact⟨Y,(H1.rm U)⟩
def au5{b w:World}{S:Nat->Prop}{F:V kF}{P0:ah}{p1:Nat}(H0:Hp b S w (aR pV 265 P0 p1 eL::F)):bM prog 193 #[.agg #[O 0,O 0,.slice P0 (eL.length) p1],O 1] w λv w'=>v=.tuple #[O 1,.bool true]/\Hp b S w' (aR pV 265 P0 p1 eL::F):=by
 refine qN func193 ntmps193 Y<|dv0 Y<|bx Y Y H0 λg1 w1 K1=>nS Y<|lc K1 U Y<|bx Y Y K1 λg2 w2 K2=>al yT Y K2 λg3 w3 K3=>nS Y<|lc K3 s1 Y<|gu Y (au4 ((K3.mV 0 3).sel s3)) ?_
 rintro _ w4 ⟨rfl,K4⟩;refine nS Y<|lc K4 s2 Y<|sd K4 s1 Y λw5 K5=>r1 K5 U Y ?_
 have H1:=(K5.rm s2).rm U;refine sd H1 s1 Y λw6 K6=>lb K6 U Y<|lb K6 U Y<|lb K6 U Y<|lb K6 U Y<|lb K6 U Y<|lb K6 U Y ?_
 have bT:(eL)[0]? = some e1:=rfl;refine ev (d9 (i:=0) Gf QJ Y Y Y (aP bT) ((K6.o s1).some_ bT))<|ev (fq awL Y (fD _ _ _))<|ev (kG jF Y ((K6.o s1).eZ (j:=0) bT Y))<|nS Y<|uo Y ?_
 exact⟨Y,(K6.rm U)⟩
def au3{b w:World}{S:Nat->Prop}{F:V kF}{P0:ah}{p1:Nat}(H0:Hp b S w (aR pV 265 P0 p1 eL::F)):bM prog 113 #[.agg #[O 0,O 0,.slice P0 (eL.length) p1]] w λv w'=>v=.tuple #[O 1,O 1]/\Hp b S w' (aR pV 265 P0 p1 eL::F):=by
 refine qN func113 ntmps113 Y<|dv0 Y<|bx Y Y H0 λg1 w1 K1=>nS Y<|lc K1 U Y<|bx Y Y K1 λg2 w2 K2=>al yT Y K2 λg3 w3 K3=>nS Y<|lc K3 s1 Y<|gu Y (au4 ((K3.mV 0 3).sel s3)) ?_
 rintro _ w4 ⟨rfl,K4⟩;refine nS Y<|lc K4 s2 Y<|sd K4 s1 Y λw5 K5=>r1 K5 U Y ?_
 have H1:=(K5.rm s2).rm U;refine sd H1 s1 Y λw6 K6=>lb K6 U Y<|lb K6 U Y<|lc K6 U Y<|gu Y (au5 ((K6.sel U).sel s1)) ?_
 rintro _ w7 ⟨rfl,K7⟩;refine nS Y<|uo Y ?_
 exact⟨Y,(K7.rm s1)⟩
def aAl{b w:World}{S:Nat->Prop}{F:V kF}(H0:Hp b S w F):bM prog 15 #[O 1] w λv w'=>∃ g2 g1 gj5 qF gj7 gj6,v=.tuple #[fK g2,O 0]/\Hp b S w' (gA g2 g1 gj5 qF gj7 gj6 F):=by
 refine qN func15 ntmps15 Y<|dv0 Y<|mkz Y Y aAf H0 λg1 w1 K1=>ev (iT (vs:=[(0,.slice (some ⟨g1,0,none⟩) 1 1)]) (cs:=[.slice (some ⟨g1,0,none⟩) 1 1,.slice none 0 0]) Y (by apply awI))<|bx rfl rfl K1 λg2 w2 K2=>nS rfl<|lb K2 U rfl<|He K2 (λ_ K=>(K.rm s1)) (λl0 rk lJ wJ=>∃ qF,lJ=l0/\Hp b S wJ (dJ g1 102 [.pointer none,fK qF]::dJ qF 181 [.slice none 0 0,O 0,O 0,O 0,.slice none 0 0]::rk)) (λhns H1=>?_) ?_
 ·have k1:=(H1.rm s1);refine qp 0 g2 0 anM Y k1<|xS 3 U Y k1<|lF 4 Y Y k1<|O1 5 Y<|ci Y Y<|ev (iT (vs:=[]) (cs:=[.slice none 0 0,O 0,O 0,O 0,.slice none 0 0]) Y (by apply aAg))<|bx rfl rfl H1 λg3 w3 K3=>nS rfl<|uo rfl ?_
  have k2:=((K3.rm s2).rm U);refine aO k2<|kI 6 Y (λ_ _=>d9 (i:=0) KU QI Y Y Y au Y) k2<|Iy 7 g1 1 ajj Y k2<|O1 8 Y<|xD Y K3 s2 Y λw4 K4=>?_
  have k3:=(K4.cU 0 2);refine aO k3<|Dn ⟨g3,Y,K4⟩ Y
 rintro _ w5 ⟨qF,rfl,K5⟩;refine dvc Y<|lb K5 s2 Y<|ev (d9 (i:=0) KU QI Y Y Y au Y)<|nS Y<|lb K5 U Y<|al aaI Y K5 λg4 w6 K6=>al yT Y K6 λg5 w7 K7=>nS Y<|He K7 (λ_ K=>(K.cU 0 2)) (λl0 rk lJ wJ=>lJ=l0/\Hp b S wJ (dJ g5 183 [O 0,O 0,.slice none 0 0]::dJ g4 177 [O 0,O 0]::rk)) (λhns H2=>?_) ?_
 ·have k4:=(H2.cU 0 2);refine qp 0 qF 2 NU Y k4<|Iy 3 qF 2 ajk Y k4<|kI 4 Y (λ_ hK=>wD (cs':=[O 0,O 0]) KW Y Y (hK.x s1) Y) k4<|qp 5 qF 2 NU Y k4<|mK 8 9 qF 4 ajl s1 Y k4<|O1 10 Y<|ci Y Y<|uo Y<|aO k4<|kI 11 Y (λ_ _=>iT (vs:=[(2,.slice none 0 0)]) (cs:=[O 0,O 0,.slice none 0 0]) Y (by apply aqt)) k4<|O1 12 rfl<|sty rfl H2 s1 rfl λw8 K8=>?_
  have k5:=(K8.cU 0 2);refine aO k5<|O1 13 Y<|sty Y K8 s1 Y λw9 K9=>?_
  have k6:=(K9.cU 0 2);refine aO k6<|Dn ⟨Y,K9⟩ Y
 rintro _ PE ⟨rfl,K10⟩;refine dvc Y<|rtk Y ⟨_,_,Y,⟨_,Y,jo (cs:=[O 0,O 0]) KW Y (K10.x s1)⟩,⟨_,_,Y,⟨_,Y,jo (cs:=[O 0,O 0,.slice none 0 0]) DY Y (K10.x U)⟩,Y⟩⟩ ?_
 have H3:=(K10.rm s1).rm U;refine nS Y<|al aaI Y H3 λg6 VY vF=>al yT Y vF λg7 Uy uR=>sd uR s1 Y λYX xk=>sd xk s1 Y λw14 wF=>Hf wF (λ_ K=>(K.rm s2)) (λl0 rk lJ wJ=>∃ gj5 gj6 gj7,lJ=l0/\Hp b S wJ (dJ g1 102 [fK gj5,fK qF]::dJ gj5 191 [O 1,O 0,O 0,O 0,O 0,.slice none 0 0,O 0,O 0,.map (some gj7),.slice (some ⟨gj6,0,none⟩) 1 1]::dJ gj6 270 [O 0,O 0]::nK gj7 (.map (#[]:Array MapEntry) 0)::rk)) (λhns H4=>?_) ?_
 ·have k7:=(H4.rm s2);refine lF 0 Y Y k7<|lF 1 Y Y k7<|qp 2 g2 0 anM Y k7<|xS 5 s3 Y k7<|kI 6 Y (λ_ _=>jf KU Y) k7<|kI 7 Y (λ_ hK=>fA KW Y Y (hK.x s1)) k7<|kI 8 Y (λ_ hK=>fA DY Y Y (hK.x U)) k7<|O1 9 Y<|ci Y Y<|bx Y Y H4 λg8 w15 zI=>bx Y Y zI λg9 w16 BZ=>nS Y<|lc BZ U Y<|gu Y (au0 BZ) ?_
  rintro _ w17 ⟨rfl,zT⟩;refine nS Y<|lc zT s1 Y<|bx Y Y zT λg10 w18 EL=>nS Y<|lb EL U Y<|lb EL U Y<|lb EL U Y ?_
  have H5:=EL.rm U;refine lc H5 U Y<|om Y Y Y Y awK (au1 H5) Y ?_
  rintro _ w19 ⟨rfl,Ai⟩;refine nS Y<|lb Ai U Y<|lb Ai s1 Y<|lb Ai U Y<|ci Y Y<|uo Y<|nS Y<|sc Ai U Y λw20 Fg=>He Fg (λ_ K=>K) (λl0 rk lJ wJ=>∃ gj2 gj3 gj4,lJ=(8,fK gj2)::(9,O 0)::l0/\Hp b S wJ (dJ gj2 191 [O 1,O 0,O 0,O 0,O 0,.slice none 0 0,O 0,O 0,.map (some gj4),.slice (some ⟨gj3,0,none⟩) 1 1]::dJ gj3 270 [O 0,O 0]::nK gj4 (.map (#[]:Array MapEntry) 0)::rk)) (λhns H6=>?_) ?_
  ·refine lF 0 Y Y H6<|kI 1 Y (λ_ hK=>fA KW Y Y (hK.x s1)) H6<|kI 2 Y (λ_ hK=>fA DY Y Y (hK.x U)) H6<|lF 4 Y Y H6<|Jn H6 (λl0 rk lJ wJ=>∃ g12 g11,lJ=(60,.map (some g11))::(62,.slice (some ⟨g12,0,none⟩) 1 1)::l0/\Hp b S wJ (dJ g12 270 [O 0,O 0]::nK g11 (.map (#[]:Array MapEntry) 0)::rk)) 4 63 ?_ λhS1=>?_
   ·rintro _ w26 ⟨g12,g11,rfl,JU⟩;have k12:=(JU.cU 0 2);refine kI 6 Y (λ_ _=>iT (vs:=[(0,O 1),(1,.agg #[O 0,O 0]),(2,.agg #[O 0,O 0,.slice none 0 0]),(5,.map (some g11)),(6,.slice (some ⟨g12,0,none⟩) 1 1)]) (cs:=[O 1,O 0,O 0,O 0,O 0,.slice none 0 0,O 0,O 0,.map (some g11),.slice (some ⟨g12,0,none⟩) 1 1]) Y (by apply LV)) k12<|O1 7 rfl<|bx rfl rfl JU λg16 w27 LG=>?_
    have k13:=(LG.cU 0 3);refine aO k13<|xC 8 Y Y k13<|xC 9 Y Y k13<|Dn ⟨g16,g12,g11,Y,LG⟩ Y
   refine O2 3 5 Y Y ?_ ?_
   ·refine mkm H6 Y λg17 w28 Fh=>?_;have k14:=(Fh.rm U);refine aO k14<|O1 5 Y<|mkz Y Y ajm Fh λg18 w29 Fp=>?_
    have k15:=(Fp.cU 0 2);exact Kj hS1 k15 ⟨g18,g17,Y,Fp⟩ Y
   ·refine mkz Y Y ajm H6 λg19 w30 Fq=>?_;have k16:=(Fq.rm U);refine aO k16<|O1 3 Y<|mkm Fq Y λg20 w31 Lh=>?_
    have k17:=(Lh.cU 0 2);exact Kj hS1 k17 ⟨g19,g20,Y,((Lh.sel U).sel s1)⟩ Y
  rintro _ w32 ⟨gj2,gj3,gj4,rfl,M4⟩;refine dvc Y<|uo Y ?_
  have H7:=(M4.rm s4).rm s3;have k18:=((H7.rm s5).cU 0 3);refine aO k18<|lF 10 Y Y k18<|yj 11 Y (vs:=[fK gj2,O 0]) Y Y k18<|yj 12 Y (vs:=[fK gj2,O 0]) Y Y k18<|JG 13 g1 0 TS Y k18<|O1 15 Y<|xD Y H7 s5 Y λw33 P7=>?_
  have k19:=(P7.cU 0 4);refine aO k19<|Dn ⟨gj2,gj3,gj4,Y,P7⟩ Y
 rintro _ w34 ⟨gj5,gj6,gj7,rfl,Xd⟩;have H8:=(Xd.rm s5).rm s4;refine dve Y<|uo Y ?_
 exact⟨g2,g1,gj5,qF,gj7,gj6,Y,((((H8.sel s4).sel s3).mV 2 3).sel s5)⟩
def aFy{b w:World}{S:Nat->Prop}{F:V kF}{p0 p1 p2 p3 p4 p5:Nat}(H0:Hp b S w (gA p0 p1 p2 p3 p4 p5 F)):bM prog 16 #[fK p0,.agg #[O 0,O 1,O 0,O 0]] w λv w'=>∃(Aj8:ah)(cj8:Nat)(aqv:ah)(aqw:Nat)(aqx:ah)(aqy:Nat)(Aj9:ah)(cj9:Nat),v=O 0/\Hp b S w' (gB p0 p1 p2 p3 p4 p5 Aj8 cj8 aqv aqw aqx aqy Aj9 cj9 F):=by
 refine qN func16 ntmps16 Y<|dv0 Y<|bx Y Y H0 λg1 w1 K1=>nS Y<|lc K1 U Y<|bx Y Y K1 λg2 w2 K2=>nS Y<|lb K2 U Y<|lb K2 U Y<|lb K2 s2 Y ?_
 have H1:=K2.rm U;refine lb H1 U Y<|He H1 (λ_ K=>((K.cU 3 4).rm s1)) (λl0 rk lJ wJ=>∃(Aj8:ah)(cj8:Nat)(Aj9:ah)(cj9:Nat)(aqx:ah)(aqy:Nat)(aqv:ah)(aqw:Nat),lJ=l0/\Hp b S wJ (dJ p0 97 [.slice (some ⟨p1,0,none⟩) 1 1,.slice Aj8 (([]:V WW).length) cj8]::aR aAe 110 Aj8 cj8 ([]:V WW)::dJ p3 181 [.slice aqx (bb1.length) aqy,O 36,O 1,O 1,.slice Aj9 (eL.length) cj9]::aR pV 265 Aj9 cj9 eL::aR fP 5 aqx aqy bb1::dJ p2 191 [O 1,O 1,O 1,O 0,O 0,.slice aqv (eL.length) aqw,O 2,O 1,.map (some p4),.slice (some ⟨p5,0,none⟩) 1 1]::dJ p5 270 [O 1,O 1]::aR pV 265 aqv aqw eL::nK p4 (.map (Array.push (#[]:Array MapEntry) ⟨O 1,.bool true,0⟩) 1)::rk)) (λhns H2=>?_) ?_
 ·have k1:=((H2.cU 3 4).rm s1);refine lF 0 Y Y k1<|mK 1 2 g1 1 nA U Y k1<|lF 3 Y Y k1<|mK 4 5 g1 1 nA U Y k1<|O1 6 Y<|ci Y Y<|lb H2 s1 Y<|ev (d9 (i:=0) KU QI Y Y Y au Y)<|nS Y<|uo Y<|aO k1<|JG 7 p1 0 TS Y k1<|xS 9 s1 Y k1<|O1 10 Y<|ci Y Y<|bx Y Y H2 λg3 w3 K3=>nS Y<|lb K3 U Y<|lb K3 s4 Y<|lb K3 U Y<|lb K3 s4 Y<|He K3 (λ_ K=>(K.rm s4)) (λl0 rk lJ wJ=>lJ=l0/\Hp b S wJ (dJ p2 191 [O 1,O 1,O 1,O 0,O 0,.slice none 0 0,O 0,O 0,.map (some p4),.slice (some ⟨p5,0,none⟩) 1 1]::rk)) (λhns H3=>?_) ?_
  ·have k2:=(H3.rm s4);refine xS 0 U Y k2<|xS 1 U Y k2<|JG 2 p2 1 NV Y k2<|tfz 4 Y (q:=⟨p2,1,none⟩) aaJ Y Y k2<|tlz 7 Y aFu Y U Y k2<|JG 8 p2 0 aaK Y k2<|O2 5 10 Y Y ?_ ?_
   ·refine lY H3 s4 Y<|aO k2<|kI 6 Y (λ_ _=>L6 Y Y (xR au au)) k2<|O1 10 Y<|lY H3 s4 Y<|aO k2<|kI 11 Y (λ_ _=>iT (vs:=[(0,O 1),(1,O 1)]) (cs:=[O 1,O 1]) Y (by apply TT)) k2<|JG 12 p2 1 NV rfl k2<|O1 14 rfl<|stp rfl rfl rfl alv H3 s4 rfl rfl rfl λw6 K6=>?_
    have k4:=(K6.rm U);refine aO k4<|Dn ⟨Y,K6⟩ Y
   ·refine lY H3 s4 Y<|aO k2<|O1 5 Y<|lY H3 s4 Y<|aO k2<|kI 6 Y (λ_ _=>L6 Y Y (xR au au)) k2<|kI 11 Y (λ_ _=>iT (vs:=[(0,O 1),(1,O 1)]) (cs:=[O 1,O 1]) Y (by apply TT)) k2<|JG 12 p2 1 NV rfl k2<|O1 14 rfl<|stp rfl rfl rfl alv H3 s4 rfl rfl rfl λw7 K7=>?_
    have k5:=(K7.rm U);refine aO k5<|Dn ⟨Y,K7⟩ Y
  rintro _ w8 ⟨rfl,K8⟩;refine dvc Y<|lb K8 s1 Y<|sc K8 U Y λw9 K9=>lb K9 s1 Y<|lb K9 U Y<|aP3 K9 s5 PY Y λPE K10=>nS Y<|He K10 (λ_ K=>(K.rm U)) (λl0 rk lJ wJ=>lJ=l0/\Hp b S wJ (nK p4 (.map (Array.push (#[]:Array MapEntry) ⟨O 1,.bool true,0⟩) 1)::rk)) (λhns H4=>?_) ?_
  ·have k6:=(H4.rm U);refine xS 0 s1 Y k6<|JG 1 p2 8 ajn Y k6<|xS 3 U Y k6<|xS 4 s1 Y k6<|JG 5 p2 0 aaK Y k6<|xS 7 U Y k6<|O1 8 Y<|upd H4 U Y Y Y PY ig Y λVY vF=>?_
   have k7:=(vF.rm U);refine aO k7<|Dn ⟨Y,vF⟩ Y
  rintro _ Uy ⟨rfl,uR⟩;refine dvc Y<|lb uR s2 Y<|He uR (λ_ K=>K) (λl0 rk lJ wJ=>lJ=(2,.bool true)::l0/\Hp b S wJ rk) (λhns H5=>?_) ?_
  ·refine qp 0 p2 8 ajn Y H5<|xS 3 s1 Y H5<|kI 4 Y (λ_ hK=>Ev.aP2 hK U PY Y) H5<|qp 5 p2 9 aaL Y H5<|xS 8 s1 Y H5<|kI 9 Y (λ_ _=>jf aaH Y) H5<|O1 10 Y<|ci Y Y<|uo Y<|aO H5<|kI 11 Y (λ_ _=>Ev.geq Y Y) H5<|xC 12 Y Y H5<|Dn ⟨Y,H5⟩ Y
  rintro _ YX ⟨rfl,xk⟩;refine dvc Y<|lb xk s2 Y<|sc xk s1 Y λw14 wF=>lb wF U Y<|Hf wF (λ_ K=>(K.rm s6)) (λl0 rk lJ wJ=>lJ=l0/\Hp b S wJ (dJ p5 270 [O 0,O 1]::rk)) (λhns H6=>?_) ?_
  ·have k8:=(H6.rm s6);refine qp 0 p2 9 aaL Y k8<|xS 3 U Y k8<|lF 4 Y Y k8<|lF 5 Y Y k8<|O1 6 Y<|ci Y Y<|nS Y<|ev (wD (cs':=[O 0,O 0,.slice none 0 0]) DY Y Y (H6.x U) Y)<|gu Y (au0 H6) ?_
   rintro _ w15 ⟨rfl,zI⟩;refine nS Y<|uo Y ?_
   have k9:=(zI.rm s6);refine aO k9<|kI 7 Y (λ_ _=>L6 Y Y (xR au au)) k9<|kI 8 Y (λ_ _=>iT (vs:=[(1,O 1)]) (cs:=[O 0,O 1]) Y (by apply aqu)) k9<|kI 9 rfl (λ_ _=>d9 (i:=0) aaH alx rfl rfl rfl au rfl) k9<|O1 10 rfl<|sty rfl zI s6 rfl λw16 BZ=>?_
   have k10:=(BZ.rm U);refine aO k10<|Dn ⟨Y,BZ⟩ Y
  rintro _ w17 ⟨rfl,zT⟩;refine dve Y<|ev (iT (vs:=[]) (cs:=[O 0,O 0,O 0,O 0,O 0,O 0]) Y (by apply aAh))<|nS rfl<|bx rfl rfl zT λg4 w18 EL=>nS rfl<|lb EL s2 rfl<|He EL (λ_ K=>(K.rm s2)) (λl0 rk lJ wJ=>∃(jG:ah)(jr:Nat),lJ=l0/\Hp b S wJ (dJ p2 191 [O 1,O 1,O 1,O 0,O 0,.slice jG (eL.length) jr,O 2,O 0,.map (some p4),.slice (some ⟨p5,0,none⟩) 1 1]::aR pV 265 jG jr eL::rk)) (λhns H7=>?_) ?_
  ·have k11:=(H7.rm s2);refine lF 0 Y Y k11<|qp 1 p2 3 aaM Y k11<|Iy 4 p2 5 TR Y k11<|qp 6 p2 1 NV Y k11<|Iy 9 p2 1 aaJ Y k11<|kI 11 Y (λ_ hK=>fA Bg Y Y (hK.x U)) k11<|Jn H7 (λl0 rk lJ wJ=>∃(g5:Nat),lJ=(17,.slice none 0 0)::(25,.slice (some ⟨g5,0,none⟩) (eL.length) 1)::l0/\Hp b S wJ (aR pV 265 (some ⟨g5,0,none⟩) 1 eL::rk)) 5 16383 ?_ λhS1=>?_
   ·rintro _ w24 ⟨g5,rfl,pz⟩;refine O1 14 Y ?_;have H9:=pz.nil pV 265;refine ap (ys:=eL) H9 U Y Y (H9.o s1) Gf awH av av Y λWO cp2 w25 DU=>?_;have k16:=((DU.rm s4).cU 0 2);refine aO k16<|JG 15 p2 3 aaM Y k16<|Iy 17 p2 5 TR Y k16<|O1 18 Y<|xD Y DU s4 Y λw26 JU=>?_
    have k17:=(JU.cU 0 3);refine aO k17<|Dn ⟨WO,cp2,Y,(JU.rm s2)⟩ Y
   refine O2 5 10 Y Y ?_ ?_
   ·refine lY H7 s2 Y<|aO k11<|O1 10 Y<|lY H7 s2 Y<|aO k11<|kI 12 Y (λ_ _=>iT (vs:=[(0,O 1),(1,.agg #[O 0,O 0,O 0,O 0,O 0,O 0])]) (cs:=[O 1,O 0,O 0,O 0,O 0,O 0,O 0]) Y (by apply TU)) k11<|O1 13 rfl<|yV (τ:=pV) (x:=e1) rfl (by intro _; apply DZ) rfl H7 (λ_ _=>rfl) λg8 w27 LG=>?_
    have k18:=((LG.rm s3).rm U);exact Kj hS1 k18 ⟨g8,Y,LG⟩ Y
   ·refine lY H7 s2 Y<|aO k11<|kI 12 Y (λ_ _=>iT (vs:=[(0,O 1),(1,.agg #[O 0,O 0,O 0,O 0,O 0,O 0])]) (cs:=[O 1,O 0,O 0,O 0,O 0,O 0,O 0]) Y (by apply TU)) k11<|O2 5 13 rfl rfl ?_ ?_
    ·refine lY H7 s2 Y<|aO k11<|O1 13 Y<|yV (τ:=pV) (x:=e1) Y (by intro _; apply DZ) rfl H7 (λ_ _=>rfl) λg9 w28 Fh=>?_
     have k19:=((Fh.rm s3).rm U);exact Kj hS1 k19 ⟨g9,Y,Fh⟩ Y
    ·refine yV (τ:=pV) (x:=e1) Y (by intro _; apply DZ) rfl H7 (λ_ _=>rfl) λg10 w29 Fp=>?_;have k20:=((Fp.rm s3).rm U);refine aO k20<|O1 5 Y<|lY Fp s3 Y<|Kj hS1 k20 ⟨g10,Y,Fp⟩ Y
  rintro _ w30 ⟨jG,jr,rfl,Fq⟩;have H10:=Fq.rm s2;refine dvc Y<|He H10 (λ_ K=>(K.rm s2)) (λl0 rk lJ wJ=>lJ=l0/\Hp b S wJ (dJ p5 270 [O 1,O 1]::rk)) (λhns H11=>?_) ?_
  ·have k21:=(H11.rm s2);refine qp 0 p2 9 aaL Y k21<|xS 3 U Y k21<|qp 4 p2 0 aaK Y k21<|xS 7 U Y k21<|kI 8 Y (λ_ _=>Ev.sub Y Y (xR au au)) k21<|lF 9 Y Y k21<|O1 10 Y<|ci Y Y<|ev (wD (cs':=[O 0,O 0,.slice jG (eL.length) jr]) DY Y Y (H11.x U) Y)<|gu Y (au3 ((H11.sel U).sel s1)) ?_
   rintro _ w31 ⟨rfl,Lh⟩;refine nS Y<|uo Y ?_
   have k22:=(((Lh.rm s2).sel U).sel s1);refine aO k22<|kI 11 Y (λ_ _=>d9 (i:=0) aaH alx Y Y Y au Y) k22<|Iy 12 p5 0 awM Y k22<|O1 13 Y<|xD Y Lh s2 Y λw32 M4=>?_
   have k23:=(((M4.rm U).sel U).sel s1);refine aO k23<|Dn ⟨Y,((M4.sel s1).mV 1 2)⟩ Y
  rintro _ w33 ⟨rfl,P7⟩;refine dvc Y<|lb P7 s1 Y<|ev (d9 (i:=0) aaH alx Y Y Y au Y)<|lc P7 U Y<|al awN Y P7 λg11 w34 Xd=>sd Xd U Y λw35 K35=>lb K35 U Y ?_
  have H12:=K35.nil dN 3;refine a1 H12 U 1 LB Y λAp3 cp3 g12 w37 V8=>nS Y<|Hf V8 (λ_ K=>(K.rm s3)) (λl0 rk lJ wJ=>lJ=l0/\Hp b S wJ (dJ p2 191 [O 1,O 1,O 1,O 0,O 0,.slice jG (eL.length) jr,O 2,O 1,.map (some p4),.slice (some ⟨p5,0,none⟩) 1 1]::rk)) (λhns Wj=>?_) ?_
  ·have k24:=(Wj.rm s3);refine lF 0 Y Y k24<|qp 1 p2 3 aaM Y k24<|lF 5 Y Y k24<|qp 6 p2 1 NV Y k24<|Iy 9 p2 1 aaJ Y k24<|qp 11 p2 7 ajp Y k24<|Jn Wj (λl0 rk lJ wJ=>lJ=(24,.agg #[O 0,O 0,.slice jG (eL.length) jr])::(30,O 1)::(34,O 0)::l0/\Hp b S wJ rk) 4 32767 ?_ λhS2=>?_
   ·rintro _ w43 ⟨rfl,K43⟩;refine O1 15 Y<|ci Y Y<|bx Y Y K43 λg14 w44 K44=>nS Y<|WP.sc<|dv0 Y<|lc K44 U Y<|gu Y (au3 ((K44.mV 0 5).sel s5)) ?_
    rintro _ w45 ⟨rfl,K45⟩;refine nS Y<|gu Y (sw _ (K45.o s2) (by first | omega | (simp; done) | decide)) ?_
    rintro _ w46 ⟨aS7,aS8,rfl,h46⟩;have K46:=K45.f1 h46;have aP8:=(K46.o U).bI;have nE:(([1]:V Int))[0]? = some 1:=rfl;refine nS Y<|ix K46 U 0 Y ?_
    have H16:=K46.rm U;refine WP.lab<|dve Y<|lc H16 s1 Y<|gu Y (au5 H16) ?_
    rintro _ w47 ⟨rfl,K47⟩;refine nS Y<|l7.adb<|uo Y ?_
    have H17:=K47.rm s1;have k27:=(((H17.rm s4).sel U).mV 1 3);refine aO k27<|JG 16 p2 7 ajp Y k27<|O1 18 Y<|xD Y H17 s4 Y λw48 K48=>?_
    have k28:=(((K48.rm U).sel U).mV 1 3);refine aO k28<|Dn ⟨Y,((K48.sel s1).mV 1 4)⟩ Y
   refine Jn Wj (λl0 rk lJ wJ=>lJ=(24,.agg #[O 0,O 0,.slice jG (eL.length) jr])::(30,O 1)::l0/\Hp b S wJ rk) 5 16383 ?_ λhS3=>?_
   ·rintro _ w49 ⟨rfl,K49⟩;refine O1 14 Y<|lY K49 s3 Y ?_
    have k29:=(K49.rm s3);exact Kj hS2 k29 ⟨Y,K49⟩ Y
   refine Jn Wj (λl0 rk lJ wJ=>lJ=(24,.agg #[O 0,O 0,.slice jG (eL.length) jr])::(34,O 0)::l0/\Hp b S wJ rk) 5 31743 ?_ λhS4=>?_
   ·rintro _ w50 ⟨rfl,K50⟩;refine O1 10 Y<|lY K50 s3 Y ?_
    have k30:=(K50.rm s3);exact Kj hS2 k30 ⟨Y,K50⟩ Y
   refine Jn Wj (λl0 rk lJ wJ=>lJ=(30,O 1)::(34,O 0)::l0/\Hp b S wJ rk) 5 32751 ?_ λhS5=>?_
   ·rintro _ w51 ⟨rfl,K51⟩;refine O1 4 Y<|ev (wD (cs':=[O 0,O 0,.slice jG (eL.length) jr]) DY Y Y (K51.x s3) Y) ?_
    have k31:=(K51.rm s3);exact Kj hS2 k31 ⟨Y,K51⟩ Y
   refine xX (fuel:=6) (rs:=[4,10,14]) ak au ?_
   simp only [rP,lH,wU,wV,uw]
   refine⟨?_,?_,?_⟩
   ·refine⟨_,Y,?_⟩;refine ev (wD (cs':=[O 0,O 0,.slice jG (eL.length) jr]) DY Y Y (Wj.x s3) Y)<|aO k24<|O2 10 14 Y Y ?_ ?_
    ·refine lY Wj s3 Y<|Kj hS3 k24 ⟨Y,Wj⟩ Y
    ·refine lY Wj s3 Y<|Kj hS4 k24 ⟨Y,Wj⟩ Y
   ·refine⟨_,Y,?_⟩;refine lY Wj s3 Y<|aO k24<|O2 4 14 Y Y ?_ ?_
    ·refine ev (wD (cs':=[O 0,O 0,.slice jG (eL.length) jr]) DY Y Y (Wj.x s3) Y)<|Kj hS3 k24 ⟨Y,Wj⟩ Y
    ·refine lY Wj s3 Y<|Kj hS5 k24 ⟨Y,Wj⟩ Y
   ·refine⟨_,Y,?_⟩;refine lY Wj s3 Y<|aO k24<|O2 4 10 Y Y ?_ ?_
    ·refine ev (wD (cs':=[O 0,O 0,.slice jG (eL.length) jr]) DY Y Y (Wj.x s3) Y)<|Kj hS4 k24 ⟨Y,Wj⟩ Y
    ·refine lY Wj s3 Y<|Kj hS5 k24 ⟨Y,Wj⟩ Y
  rintro _ w52 ⟨rfl,K52⟩;have H18:=(K52.rm s2).rm s1;refine dve Y<|ev (yg Y Y)<|nS Y<|lb H18 U Y<|lb H18 U Y<|uo Y ?_
  have H19:=H18.rm s4;have k32:=(((H19.rm s7).rm s5).cU 0 4);refine aO k32<|O1 11 Y<|ci Y Y<|lb H19 s5 Y<|ev (d9 (i:=0) KU QI Y Y Y au Y)<|nS Y<|He H19 (λ_ K=>(K.rm s7)) (λl0 rk lJ wJ=>∃(Aj5:ah)(cj5:Nat)(Aj6:ah)(cj6:Nat),lJ=l0/\Hp b S wJ (dJ p3 181 [.slice Aj6 (bb1.length) cj6,O 0,O 1,O 1,.slice Aj5 (eL.length) cj5]::aR pV 265 Aj5 cj5 eL::aR fP 5 Aj6 cj6 bb1::rk)) (λhns H20=>?_) ?_
  ·have k33:=(H20.rm s7);refine qp 0 p1 1 ajj Y k33<|xS 3 s6 Y k33<|qp 4 p1 0 TS Y k33<|xS 7 s6 Y k33<|qp 9 p1 0 TS Y k33<|xS 12 s6 Y k33<|O1 8 Y<|ci Y Y<|al aaI Y H20 λg15 w53 K53=>nS Y<|ev (wD (cs':=[O 1,O 1]) KW Y Y (K53.x s1) Y)<|sd K53 U Y λw54 K54=>qL Y ⟨_,_,Y,⟨_,Y,jo (cs:=[O 1,O 1]) KW Y (K54.x U)⟩,Y⟩ ?_
   have H21:=K54.rm U;have k34:=(H21.rm s7);refine aO k34<|O1 13 Y<|ci Y Y<|al yT Y H21 λg16 w55 K55=>nS Y<|ev (wD (cs':=[O 0,O 0,.slice jG (eL.length) jr]) DY Y Y (K55.x s1) Y)<|al yT Y K55 λg17 w56 K56=>sd K56 U Y λw57 K57=>lb K57 U Y<|gu Y (Ij _ (K57.o s4) (by first | omega | (simp; done) | decide)) ?_
   rintro _ w58 ⟨aLj,aLk,rfl,h58⟩;have K58:=K57.f1 h58;have aQa:=(K58.o U).bI;refine nS Y<|sc K58 s1 Y λw59 K59=>lc K59 U Y<|sd K59 s2 Y λw60 K60=>qL Y ⟨_,_,Y,⟨_,Y,jo (cs:=[O 0,O 0,.slice aLj (eL.length) aLk]) DY Y (K60.x U)⟩,Y⟩ ?_
   have H22:=(K60.rm s1).rm U;have k35:=((H22.rm s8).rm U);refine aO k35<|O1 14 Y<|ci Y Y<|bx Y Y H22 λg18 w61 K61=>bx Y Y K61 λg19 w62 K62=>nS Y<|lc K62 s1 Y<|bx Y Y K62 λg20 w63 K63=>nS Y<|lb K63 U Y<|lb K63 U Y<|lb K63 U Y<|lb K63 U Y ?_
   have H23:=K63.rm U;refine lc H23 U Y<|om Y Y Y Y awK (au4 ((H23.mV 0 2).sel s2)) Y ?_
   rintro _ w64 ⟨rfl,K64⟩;refine nS Y<|lb K64 s1 Y<|lb K64 s1 Y ?_
   have hx3:(eL)[0]? = some e1:=rfl;refine ev (d9 (i:=0) Gf QJ Y Y Y (aP hx3) ((K64.o U).some_ hx3))<|ev (iR aly Y Y ((K64.o U).fF hx3))<|nS Y<|bx Y Y K64 λg21 w65 K65=>nS Y<|lc K65 U Y<|bx Y Y K65 λg22 w66 K66=>nS Y<|ev (wD (cs':=[O 0,O 0,O 0,O 0,O 0,O 0]) Bg Y Y (K66.x U) Y)<|al ND Y K66 λg23 w67 K67=>sd K67 U Y λw68 K68=>lb K68 s1 Y<|lb K68 U Y<|lb K68 U Y<|lb K68 U Y<|lb K68 U Y<|lb K68 U Y<|lb K68 U Y<|bsn (τ:=dN) (xs:=i0L) (vs:=[(0,O 0),(1,O 1),(2,O 0),(3,O 0),(4,O 0),(5,O 0),(6,O 0),(7,O 0)]) (css:=[[O 0],[O 1],[O 0],[O 0],[O 0],[O 0],[O 0],[O 0]]) Y (by intro _; apply Jr) rfl rfl K68 (λ_ e=>⟨rfl,rfl,rfl,rfl,rfl,rfl,rfl,rfl,trivial⟩) λg24 w69 K69=>?_
   have H24:=(K69.rm s2).rm s1;have hx4:(i0L)[0]? = some 0:=rfl;refine nS Y<|ix H24 U 0 Y ?_
   have hx5:(i0L)[1]? = some 1:=rfl;refine ix H24 U 1 Y ?_;have hx6:(i0L)[2]? = some 0:=rfl;refine ix H24 U 2 Y ?_;have hx7:(i0L)[3]? = some 0:=rfl;refine ix H24 U 3 Y ?_;have hx8:(i0L)[4]? = some 0:=rfl;refine ix H24 U 4 Y ?_;have hx9:(i0L)[5]? = some 0:=rfl;refine ix H24 U 5 Y ?_;have aVm:(i0L)[6]? = some 0:=rfl;refine ix H24 U 6 Y ?_;have aVn:(i0L)[7]? = some 0:=rfl;refine ix H24 U 7 Y ?_;have H25:=(H24.rm s1).rm U;refine lb H25 s10 Y<|ci Y Y<|uo Y<|nS Y<|pW ak ak<|bf (fA KW Y Y (H25.x s2)) Y<|bf (dP Y) Y<|bf (nH Y) Y<|bf (fq (q:=⟨p3,2,none⟩) NU Y Y) Y<|bf (fq (q:=⟨p3,2,none⟩) ajk Y Y) Y<|bf (wD (cs':=[O 0,O 0]) KW Y Y (H25.x s10) Y) Y<|bf (Ev.neS Y Y (aAj (⟨1,1⟩:Di) (⟨0,0⟩:Di)) aAi) Y<|pX λw70 e70=>?_
   have K70:=H25.grow e70;refine dvc Y<|lb K70 s2 Y<|lb K70 s2 Y<|bsn (τ:=dN) (xs:=([1,1]:V Int)) (vs:=[(0,O 1),(1,O 1)]) (css:=[[O 1],[O 1]]) Y (by intro _; apply Fe) rfl rfl K70 (λ_ e=>⟨rfl,rfl,trivial⟩) λg25 w71 K71=>nS rfl<|ev (iT (vs:=[(0,.slice (some ⟨g25,0,none⟩) (([1,1]:V Int).length) 2)]) (cs:=[.slice (some ⟨g25,0,none⟩) (([1,1]:V Int).length) 2,.slice none 0 0]) rfl (by apply acS))<|nS rfl<|bx rfl rfl K71 λg26 w72 K72=>nS rfl<|lb K72 U rfl<|lb K72 U rfl<|lb K72 U rfl ?_
   have aVp:(([1,1]:V Int))[0]? = some 1:=rfl;refine ix K72 s1 0 Y ?_;have aVq:(([1,1]:V Int))[1]? = some 1:=rfl;refine ix K72 s1 1 Y<|lb K72 U Y<|yV (τ:=fP) (x:=(2#8)) Y (by intro _; apply acR) rfl K72 (λ_ _=>rfl) λg27 w73 K73=>nS rfl<|lb K73 s1 rfl ?_
   have aVr:(([1,1]:V Int))[0]? = some 1:=rfl;refine ix K73 s2 0 Y<|a1 K73 U (1#8) yu Y λAp4 cp4 g28 w75 K75=>nS Y<|a1 K75 U (1#8) yu Y λAp5 cp5 g29 w77 K77=>?_
   have aVs:(([1,1]:V Int))[1]? = some 1:=rfl;refine nS Y<|ix K77 s2 1 Y<|a1 K77 U (1#8) yu Y λAp6 cp6 g30 w79 K79=>nS Y<|a1 K79 U (1#8) yu Y λAp7 cp7 g31 w81 K81=>nS Y<|He K81 (λ_ K=>(K.rm U)) (λl0 rk lJ wJ=>∃(oV:ah)(cj2:Nat),lJ=(2,.slice oV (bb2.length) cj2)::(3,O 0)::l0/\Hp b S wJ (aR fP 5 oV cj2 bb2::rk)) (λhns H26=>?_) ?_
   ·have k36:=(H26.rm U);refine lF 0 Y Y k36<|mK 1 2 g26 1 TV U Y k36<|kI 3 Y (λ_ _=>jf zK Y) k36<|mK 5 6 g26 1 TV U Y k36<|O1 4 Y<|ci Y Y<|a1 H26 U (0#8) yu Y λAp8 cp8 g32 w83 K83=>nS Y<|a1 K83 U (0#8) yu Y λAp9 cp9 g33 w85 K85=>nS Y<|uo Y ?_
    have k37:=(K85.rm U);refine aO k37<|O1 7 Y<|ap (ys:=([]:V (BitVec 8))) K85 U Y Y (O8 fP Any _) zK yu av av Y λayl aym w86 K86=>?_
    have k38:=(K86.rm U);refine aO k38<|xC 8 Y Y k38<|xC 9 Y Y k38<|Dn ⟨ayl,aym,Y,K86⟩ Y
   rintro _ w87 ⟨oV,cj2,rfl,K87⟩;have H27:=K87.rm s1;refine dvc Y<|ev (iT (vs:=[(0,O 1),(1,.slice oV (bb2.length) cj2)]) (cs:=[O 1,.slice oV (bb2.length) cj2]) Y (by apply TW))<|nS rfl<|bx rfl rfl H27 λg34 w88 K88=>nS rfl<|lb K88 U rfl<|lb K88 U rfl<|lb K88 U rfl<|lb K88 U rfl<|lb K88 U rfl<|bsn (τ:=fP) (xs:=([83#8,1#8,0#8,7#8]:V (BitVec 8))) (vs:=[(0,.int .u8 83),(1,.int .u8 1),(2,.int .u8 0),(3,.int .u8 7)]) (css:=[[.int .u8 83],[.int .u8 1],[.int .u8 0],[.int .u8 7]]) rfl (by intro _; apply KF) rfl rfl K88 (λ_ e=>⟨rfl,rfl,rfl,rfl,trivial⟩) λg35 w89 K89=>nS rfl<|lb K89 s1 rfl<|ap (ys:=bb2) K89 U rfl rfl (K89.o s2) zK yu av av rfl λaVw aVx w90 K90=>nS rfl<|mX K90 rfl (Qv _ (K90.o U)) λw91 K91=>?_
   have gy:(((gI ([83#8,1#8,0#8,7#8,2#8,1#8,1#8,1#8,1#8,0#8,0#8]:V (BitVec 8))).toNat:Int):Int)=3070332544:=by decide +kernel
   refine gZ (t:=7) Y (aY (Value.int .u32) gy)<|nS Y<|gu Y (Bl _ (K91.o U) (by first | omega | (simp; done) | decide)) ?_
   rintro _ w92 ⟨aTi,aTj,rfl,h92⟩;have K92:=K91.f1 h92;have aQc:=(K92.o U).bI;refine nS Y<|a1 K92 U (128#8) yu Y λaHD aHE g36 w94 K94=>nS Y<|a1 K94 U (142#8) yu Y λaVA aVB g37 w96 K96=>nS Y<|a1 K96 U (1#8) yu Y λaVD aVE g38 w98 K98=>nS Y<|a1 K98 U (183#8) yu Y λaVG aVH g39 aVI aQd=>?_
   have H28:=(aQd.rm s2).rm s1;have H29:=H28.nil fP 5;refine nS Y<|ap (ys:=([83#8,1#8,0#8,7#8,2#8,1#8,1#8,1#8,1#8,0#8,0#8,128#8,142#8,1#8,183#8]:V (BitVec 8))) H29 U Y Y (H29.o s1) zK yu av av Y λaVK aVL aVM aQe=>?_
   have H30:=(aQe.rm s2).rm s1;refine nS Y<|pW ak ak<|bf (dP Y) Y<|bf (fq (q:=⟨g19,2,none⟩) TR Y Y) Y<|bf (dU awJ Y (H30.x s3) Y) Y<|bf (jf Gf Y) Y<|bf (dP Y) Y<|bf (nH Y) Y<|bf (fq (q:=⟨p3,2,none⟩) NU Y Y) Y<|bf (fq (q:=⟨p3,4,none⟩) ajl Y Y) Y<|bf (dU awJ Y (H30.x s12) Y) Y<|bf (jf Gf Y) Y<|bf (Ev.min2 Y Y) Y<|bf (iH Y Y) Y<|bf (dP Y) Y<|dw Y Y Y<|dw Y Y Y<|dw Y Y Y<|dw Y Y Y<|dw Y Y Y<|dw Y Y Y<|dw Y Y Y<|dw Y Y Y<|dw Y Y Y<|dw Y Y Y<|dw Y Y Y<|dw Y Y Y<|dw Y Y Y<|dw Y Y Y<|bf (oU Y Y) Y ?_
   refine pX λaVN aQg=>?_;have aqz:=H30.grow aQg;refine dvc Y<|lb aqz s12 Y<|lb aqz s3 Y<|ev (Yj (lo:=0) (xs:=eL) Gf QJ Y Y Y (by first | omega | (simp; done) | decide) (aqz.o s2).cap) ?_
   have hx16:(eL)[0]? = some e1:=rfl;refine nS Y<|ev (d9 (i:=0) Gf QJ Y Y Y (aP hx16) (((aqz.o s2).cutFrom (lo:=0) (by first | omega | (simp; done) | decide)).some_ hx16))<|ev (iR aly rfl rfl (((aqz.o s2).cutFrom (lo:=0) (by first | omega | (simp; done) | decide)).fF hx16))<|al ajo rfl aqz λg40 aVO aQh=>nS rfl<|sd aQh U rfl λaVP aLl=>lc aLl U rfl<|bx rfl rfl aLl λg41 aVQ aLm=>nS rfl<|ev (wD (cs':=[O 0,O 0,O 0,O 0,O 0,O 0]) Bg rfl rfl (aLm.x U) rfl)<|al ND rfl aLm λg42 aVR aQi=>sd aQi U rfl λaVS ajq=>lb ajq s1 rfl<|lb ajq U rfl<|lb ajq U rfl<|lb ajq U rfl<|lb ajq U rfl<|lb ajq U rfl<|lb ajq U rfl<|bsn (τ:=dN) (xs:=i1L) (vs:=[(0,O 1),(1,O 1),(2,O 0),(3,O 0),(4,O 0),(5,O 0),(6,O 0),(7,O 0)]) (css:=[[O 1],[O 1],[O 0],[O 0],[O 0],[O 0],[O 0],[O 0]]) rfl (by intro _; apply Jr) rfl rfl ajq (λ_ e=>⟨rfl,rfl,rfl,rfl,rfl,rfl,rfl,rfl,trivial⟩) λg43 aVT aQj=>?_
   have H31:=(aQj.rm s2).rm s1;refine nS Y<|ev (iT (vs:=[(0,.slice (some ⟨g43,0,none⟩) (i1L.length) 8)]) (cs:=[.slice (some ⟨g43,0,none⟩) (i1L.length) 8,.slice none 0 0]) Y (by apply acS))<|nS rfl<|bx rfl rfl H31 λg44 aVV VG=>nS rfl<|lb VG U rfl<|lb VG U rfl<|lb VG U rfl ?_
   have aVW:(i1L)[0]? = some 1:=rfl;refine ix VG s1 0 Y ?_;have aVX:(i1L)[1]? = some 1:=rfl;refine ix VG s1 1 Y ?_;have aVY:(i1L)[2]? = some 0:=rfl;refine ix VG s1 2 Y ?_;have aVZ:(i1L)[3]? = some 0:=rfl;refine ix VG s1 3 Y ?_;have aV0:(i1L)[4]? = some 0:=rfl;refine ix VG s1 4 Y ?_;have aV1:(i1L)[5]? = some 0:=rfl;refine ix VG s1 5 Y ?_;have aV2:(i1L)[6]? = some 0:=rfl;refine ix VG s1 6 Y ?_;have hx24:(i1L)[7]? = some 0:=rfl;refine ix VG s1 7 Y<|lb VG U Y<|yV (τ:=fP) (x:=(8#8)) Y (by intro _; apply acR) rfl VG (λ_ _=>rfl) λg45 aV3 aFz=>nS rfl<|lb aFz s1 rfl ?_
   have hx25:(i1L)[0]? = some 1:=rfl;refine ix aFz s2 0 Y<|a1 aFz U (1#8) yu Y λaV4 aV5 g46 aV6 aQk=>nS Y<|a1 aQk U (1#8) yu Y λaV7 aV8 g47 aV9 aLn=>?_
   have aWa:(i1L)[1]? = some 1:=rfl;refine nS Y<|ix aLn s2 1 Y<|a1 aLn U (1#8) yu Y λaWb aWc g48 aWd aQl=>nS Y<|a1 aQl U (1#8) yu Y λaWe aWf g49 aWg aLo=>?_
   have hx27:(i1L)[2]? = some 0:=rfl;refine nS Y<|ix aLo s2 2 Y<|a1 aLo U (0#8) yu Y λaWh aWi g50 aWj aLp=>?_
   have hx28:(i1L)[3]? = some 0:=rfl;refine nS Y<|ix aLp s2 3 Y<|a1 aLp U (0#8) yu Y λaWk aWl g51 aWm aLq=>?_
   have hx29:(i1L)[4]? = some 0:=rfl;refine nS Y<|ix aLq s2 4 Y<|a1 aLq U (0#8) yu Y λaWn aWo g52 aWp aLr=>?_
   have aWq:(i1L)[5]? = some 0:=rfl;refine nS Y<|ix aLr s2 5 Y<|a1 aLr U (0#8) yu Y λaWr aWs g53 aWt aLs=>?_
   have hx31:(i1L)[6]? = some 0:=rfl;refine nS Y<|ix aLs s2 6 Y<|a1 aLs U (0#8) yu Y λaWu aWv g54 aWw aLt=>?_
   have hx32:(i1L)[7]? = some 0:=rfl;refine nS Y<|ix aLt s2 7 Y<|a1 aLt U (0#8) yu Y λaWx aWy g55 aWz aQm=>nS Y<|He aQm (λ_ K=>(K.rm U)) (λl0 rk lJ wJ=>∃(wH:ah)(vG:Nat),lJ=(2,.slice wH (bb3.length) vG)::(3,O 0)::l0/\Hp b S wJ (aR fP 5 wH vG bb3::rk)) (λhns H32=>?_) ?_
   ·have k39:=(H32.rm U);refine lF 0 Y Y k39<|mK 1 2 g44 1 TV U Y k39<|kI 3 Y (λ_ _=>jf zK Y) k39<|mK 5 6 g44 1 TV U Y k39<|O1 4 Y<|ci Y Y<|a1 H32 U (0#8) yu Y λaWA aWB g56 aWC aQn=>nS Y<|a1 aQn U (0#8) yu Y λaWD aWE g57 aWF aLu=>nS Y<|uo Y ?_
    have k40:=(aLu.rm U);refine aO k40<|O1 7 Y<|ap (ys:=([]:V (BitVec 8))) aLu U Y Y (O8 fP Any _) zK yu av av Y λaQo aQp aWG aLv=>?_
    have k41:=(aLv.rm U);refine aO k41<|xC 8 Y Y k41<|xC 9 Y Y k41<|Dn ⟨aQo,aQp,Y,aLv⟩ Y
   rintro _ aWH ⟨wH,vG,rfl,aQq⟩;have H33:=aQq.rm s1;refine dvc Y<|ev (iT (vs:=[(0,O 2),(1,.slice wH (bb3.length) vG)]) (cs:=[O 2,.slice wH (bb3.length) vG]) Y (by apply TW))<|nS rfl<|bx rfl rfl H33 λg58 aWJ aqA=>nS rfl<|lb aqA U rfl<|lb aqA U rfl<|lb aqA U rfl<|lb aqA U rfl<|lb aqA U rfl<|bsn (τ:=fP) (xs:=([83#8,2#8,0#8,13#8]:V (BitVec 8))) (vs:=[(0,.int .u8 83),(1,.int .u8 2),(2,.int .u8 0),(3,.int .u8 13)]) (css:=[[.int .u8 83],[.int .u8 2],[.int .u8 0],[.int .u8 13]]) rfl (by intro _; apply KF) rfl rfl aqA (λ_ e=>⟨rfl,rfl,rfl,rfl,trivial⟩) λg59 aWK aFA=>nS rfl<|lb aFA s1 rfl<|ap (ys:=bb3) aFA U rfl rfl (aFA.o s2) zK yu av av rfl λaWL aWM aWN aLw=>nS rfl<|mX aLw rfl (Qv _ (aLw.o U)) λaWO aLx=>?_
   have gH:(((gI ([83#8,2#8,0#8,13#8,8#8,1#8,1#8,1#8,1#8,0#8,0#8,0#8,0#8,0#8,0#8,0#8,0#8]:V (BitVec 8))).toNat:Int):Int)=413744183:=by decide +kernel
   refine gZ (t:=7) Y (aY (Value.int .u32) gH)<|nS Y<|gu Y (Bl _ (aLx.o U) (by first | omega | (simp; done) | decide)) ?_
   rintro _ aWP ⟨aQr,aQs,rfl,aQt⟩;have aLy:=aLx.f1 aQt;have aMr:=(aLy.o U).bI;refine nS Y<|a1 aLy U (55#8) yu Y λaWQ aWR g60 aWS aQu=>nS Y<|a1 aQu U (60#8) yu Y λaWT aWU g61 aWV aQv=>nS Y<|a1 aQv U (169#8) yu Y λaWW aWX g62 aWY aQw=>nS Y<|a1 aQw U (24#8) yu Y λaWZ aW0 g63 aW1 aQx=>?_
   have H34:=(aQx.rm s2).rm s1;refine nS Y<|ap (ys:=([83#8,2#8,0#8,13#8,8#8,1#8,1#8,1#8,1#8,0#8,0#8,0#8,0#8,0#8,0#8,0#8,0#8,55#8,60#8,169#8,24#8]:V (BitVec 8))) H34 s4 Y Y (H34.o U) zK yu av av Y λaLz aLA aW2 aQy=>?_
   have H35:=(aQy.rm s2).rm s1;refine nS Y<|He H35 (λ_ K=>(K.rm s14)) (λl0 rk lJ wJ=>∃(BL:ah)(BM:Nat),lJ=l0/\Hp b S wJ (dJ p3 181 [.slice aLz (bb1.length) aLA,O 0,O 1,O 1,.slice BL (eL.length) BM]::aR pV 265 BL BM eL::rk)) (λhns H36=>?_) ?_
   ·have k42:=(H36.rm s14);refine lF 0 Y Y k42<|lF 1 Y Y k42<|lF 2 Y Y k42<|kI 3 Y (λ_ hK=>fA KW Y Y (hK.x s6)) k42<|mK 4 5 g19 2 TR s5 Y k42<|O1 6 Y<|gu Y (Ij _ (H36.o s4) (by first | omega | (simp; done) | decide)) ?_
    rintro _ aW4 ⟨alA,alB,rfl,aQA⟩;have aFB:=H36.f1 aQA;have aMs:=(aFB.o U).bI;have k43:=((aFB.rm s15).rm U);refine aO k43<|kI 7 Y (λ_ _=>iT (vs:=[(0,.agg #[O 1,O 1]),(1,.slice alA (eL.length) alB)]) (cs:=[O 1,O 1,.slice alA (eL.length) alB]) Y (by apply afK)) k43<|JG 8 p3 0 awO rfl k43<|O1 10 rfl<|xD rfl aFB s15 rfl λaW5 aLB=>?_
    have k44:=(aLB.cU 0 2);refine aO k44<|JG 11 p3 2 NU Y k44<|O1 13 Y<|stp Y Y Y aFv aLB U Y Y Y λaW6 aLC=>?_
    have k45:=(aLC.cU 0 2);refine aO k45<|Dn ⟨alA,alB,Y,aLC⟩ Y
   rintro _ aW7 ⟨BL,BM,rfl,aQB⟩;refine dvc Y<|uo Y ?_
   have H37:=((aQB.cU 7 2).cU 4 2).rm s3;have k46:=(H37.cU 0 4);refine aO k46<|xC 15 Y Y k46<|Dn ⟨BL,BM,aLz,aLA,Y,(H37.rm s3)⟩ Y
  rintro _ aW8 ⟨Aj5,cj5,Aj6,cj6,rfl,aAn⟩;refine dvc Y<|lb aAn s8 Y<|ev (d9 (i:=0) KU QI Y Y Y au Y)<|nS Y<|lb aAn s9 Y<|lb aAn U Y<|sc aAn U Y λaW9 aLD=>lb aLD s8 Y ?_
  have H38:=aLD.nil aAe 110;refine apd (ys:=([]:V WW)) H38 U Y Y (O8 aAe _ _) underlying95 aFw av av Y λaQC aQD aXb aQE=>nS Y<|sc aQE s9 Y λaXc aLE=>o7 (uo Y ?_)
  have k47:=(aLE.cU 0 9);refine aO k47<|Dn ⟨aQC,aQD,Aj5,cj5,Aj6,cj6,jG,jr,Y,aLE⟩ Y
 rintro _ aXd ⟨Aj8,cj8,Aj9,cj9,aqx,aqy,aqv,aqw,rfl,aQF⟩;refine dvc Y<|uo Y ?_
 exact⟨Aj8,cj8,aqv,aqw,aqx,aqy,Aj9,cj9,Y,(((((((((aQF.rm s9).sel s1).sel s3).sel s4).sel s7).sel s5).sel s7).mV 7 2).mV 8 2)⟩
def aAo{b w:World}{S:Nat->Prop}{F:V kF}{p0 p1 p2 p3 p4 p5:Nat}{qP0:ah}{qp1:Nat}{qP2:ah}{qp3:Nat}{qP4:ah}{qp5:Nat}{qP6:ah}{qp7:Nat}(H0:Hp b S w (gB p0 p1 p2 p3 p4 p5 qP0 qp1 qP2 qp3 qP4 qp5 qP6 qp7 F)):bM prog 18 #[fK p0,O 1] w λv w'=>∃ sG sH,v=.slice sG (eL.length) sH/\Hp b S w' F:=by
 refine qN func18 ntmps18 Y<|dv0 Y<|lb H0 U Y<|lb H0 U Y<|ev (d9 (i:=0) KU QI Y Y Y au Y)<|nS Y<|lb H0 s1 Y<|al yT Y H0 λg1 w1 K1=>nS Y<|ev (wD (cs':=[O 0,O 0,.slice qP2 (eL.length) qp3]) DY Y Y (K1.x s3) Y)<|al yT Y K1 λg2 w2 K2=>sd K2 U Y λw3 K3=>lb K3 U Y<|gu Y (Ij _ (K3.o s8) (by first | omega | (simp; done) | decide)) ?_
 rintro _ w4 ⟨sG,sH,rfl,h4⟩;have K4:=K3.f1 h4;have aG8:=(K4.o U).bI;refine nS Y<|sc K4 s1 Y λw5 K5=>lc K5 U Y<|sd K5 s2 Y λw6 K6=>r1 K6 U Y ?_
 have H1:=(K6.rm s1).rm U;refine ev (Ev.fld (cs:=[O 0,O 0,.slice sG (eL.length) sH]) underlying183 Y Y awJ Y Y)<|nS Y<|lb H1 s1 Y<|ev (d9 (i:=0) KU QI Y Y Y au Y)<|nS Y<|lb H1 s2 Y<|lb H1 s3 Y<|ev (Ev.VN (hi:=1) (xs:=eL) Gf QJ Y Y Y (by first | omega | (simp; done) | decide) (H1.o U).cap)<|nS rfl<|uo rfl ?_
 exact⟨sG,sH,Y,(H1.cU 0 11)⟩
end
section
def acT{b w:World}{S:Nat->Prop}{F:V kF}(H0:Hp b S w F):bM prog 4 #[] w λv w'=>v=.bool true/\Hp b S w' F:=by
 refine qN func4 ntmps4 Y<|dv0 Y<|gu Y (avv H0) ?_
 rintro _ w1 ⟨rfl,K1⟩;refine gu Y (am2 K1 zB30x0z au) ?_;rintro _ w2 ⟨gc,G1,rfl,hG1,K2⟩;refine nS Y<|gu Y (aAl K2) ?_
 rintro _ w3 ⟨p0,p1,p2,p3,p4,p5,rfl,K3⟩;refine nS Y<|ev (iT (vs:=[(0,O 1),(1,O 1),(2,O 1),(3,O 4)]) (cs:=[O 1,O 1,O 1,O 4]) Y (by apply TD)) ?_
 have hI1:Inv G1.pl 0:=by rw [hG1]; exact aBz au
 refine gu Y (Vp (K3.sel s6) (⟨1,1,1,4⟩:AItem) (hI1.ok au) (by simp [vJ])) ?_;rintro _ w4 ⟨G2,rfl,hG2,K4⟩;rw [show(nJ G1.pl (⟨1,1,1,4⟩:AItem)).2=0 from by rw [hG1]; decide +kernel];have H1:=K4.mV 1 6;refine nS Y<|ev (iT (vs:=[(0,O 0),(1,O 1)]) (cs:=[O 0,O 1,O 0,O 0]) Y (by apply NK))<|gu rfl (aFy H1) ?_
 rintro _ w5 ⟨A1,c1,A2,c2,A3,c3,A4,c4,rfl,K5⟩;refine nS Y<|om Y Y Y Y (λ_ _=>by kernel_rfl) (aEQ (K5.sel s10) 1) rfl ?_
 rintro _ w6 ⟨rfl,K6⟩;rw [show uP G2.pl.hs 1=true from by rw [hG2,hG1]; decide +kernel];have H2:=K6.mV 1 10;refine nS Y<|om Y Y Y Y (λ_ _=>by kernel_rfl) (aAo H2) rfl ?_
 rintro _ w7 ⟨A5,c5,rfl,K7⟩;refine nS Y<|uo Y ⟨Y,K7.rm U⟩
def aAp{b w:World}{S:Nat->Prop}{F:V kF}{jL:ah}{jK:Nat}{l:V AItem}(H0:Hp b S w (dI tItem jL jK l::F))(r:ARules)(hr:l5 r=false):bM prog 3 #[.agg #[O r.lD,O r.l9,O r.All,O r.je,O r.gV,O r.eF],.slice jL l.length jK] w λv w'=>v=.bool true/\Hp b S w' F:=by
 refine qN func3 ntmps3 Y<|rg<|bx Y Y H0 λg1 w1 K1=>fE Y<|rg<|gu Y (acT K1) ?_
 rintro _ w2 ⟨rfl,K2⟩;refine fE Y<|rg<|ev (fA Ls Y Y (K2.x U))<|gu Y (azs K2 r hr) ?_
 rintro _ w3 ⟨rfl,K3⟩;refine pA 6 Y<|aZ<|pC 9 Y ?_
 cases apf:decide (100<((l.length:Nat):Int)) with
 | true=>
  refine pA 8 Y<|bS Y (λ_h=>?_) nofun
  refine gD Y<|fE Y<|Aw Y ?_
  exact⟨Y,(K3.cU 0 2)⟩
 | false=>
  refine pA 8 Y<|bS Y (λ_h=>?_) nofun
  refine gD Y<|fE Y<|Aw Y ?_
  exact⟨Y,(K3.cU 0 2)⟩
def aAq:∀(x:ByteArray),∀ v∈[Value.string x],v.oneCell'=true:=by simp [Value.oneCell']
def awS:Ty ByteArray:=Ty.flat 1 (λx=>[.string x]) au av aAq
instance:Flat awS:=⟨λh=>h⟩
def aqB(x:ByteArray):∀ w,(Instr.buildSlice 41 1 (List.toArray [(0,.string x)])).run prog w=.ok (.slice (some ⟨w.heap.size,0,none⟩) 1 1) (w.alloc (.cells (List.toArray [.string x]) 9)):=ay
def aQG:kH prog 9 1 16:=by
 obtain⟨i,h1,h2,h3,h4⟩:=qo (show(prog.info? 9).map (λi=>(i.zero,i.size,i.bytes))=some (some (.string ⟨#[]⟩),1,16) by kernel_rfl);exact⟨i,_,h1,h2,h3,h4,Y⟩
def aQH:Size prog 9 1:=ay
def aQI:kW prog 9:=ay
def awT{b w:World}{S:Nat->Prop}{F:V kF}{jL:ah}{jK:Nat}{l:V AItem}(H0:Hp b S w (dI tItem jL jK l::F))(r:ARules)(hr:l5 r=true)(hwf:∀ x∈l,vJ x.C):bM prog 3 #[.agg #[O r.lD,O r.l9,O r.All,O r.je,O r.gV,O r.eF],.slice jL l.length jK] w λv w'=>v=.bool true/\Hp b S w' F:=by
 refine qN func3 ntmps3 Y<|rg<|bx Y Y H0 λg1 w1 K1=>fE Y<|rg<|gu Y (acT K1) ?_
 rintro _ w2 ⟨rfl,K2⟩;refine fE Y<|rg<|ev (fA Ls Y Y (K2.x U))<|gu Y (am2 K2 r hr) ?_
 rintro _ w4 ⟨aqC,ale,rfl,aqi,K4⟩;refine pA 6 Y<|aZ<|pC 9 Y ?_
 cases apf:decide (100<((l.length:Nat):Int)) with
 | true=>
  refine pA 8 Y<|bS Y (λ_h=>?_) nofun
  refine gD Y<|fE Y<|Aw Y ?_
  exact⟨Y,(K4.cU 0 3)⟩
 | false=>
  refine pq 5 Y<|uf Y (Ev.an9 underlying26 Y Y) Y<|pA 2 Y<|bS Y nofun (λ_h=>?_)
  refine jQ<|aZ ?_
  have aFr:l.length<=100:=by have h9:¬ (100:Int)<((l.length:Nat):Int):=jX (by assumption); omega
  refine kX Y<|dF<|qh (λmJ lJ wJ=>∃(k:Nat)(Gk:GC),lJ=[(1,.slice jL l.length jK),(2,fK g1),(6,fK aqC),(8,O ((k:Nat):Int))]/\mJ=l.length - k/\k<=l.length/\(Gk.pl=xO (Jh r) (l.take k))/\Hp b S wJ (wu aqC Gk::dJ g1 23 [O r.lD,O r.l9,O r.All,O r.je,O r.gV,O r.eF]::dI tItem jL jK l::F)) ⟨0,ale,Y,Y,fI _,by rw [aqi]; rfl,K4⟩ rfl ?_
  rintro _ _ w5 ⟨k,Gk,rfl,rfl,hk,hG,K5⟩;refine aZ<|gD Y<|mv Y<|ev (jf underlying24 Y)<|ev (iH Y Y)<|dn<|bS Y (λyt=>?_) (λyt=>?_)
  ·replace yt:=iY yt;refine jQ<|aZ<|dF ?_
   have hI:Inv Gk.pl k:=by rw [hG]; exact OX hr aj
   refine jN<|pq 3 Y ?_
   obtain⟨x1,bT⟩:=bH (xs:=l) (i:=k) aj;refine ev (d9 (i:=k) underlying24 aBw Y Y Y (aP bT) ((K5.s s2).some_ bT))<|ev (iR DI Y Y ((K5.s s2).fF bT))<|gu Y (Vp K5 x1 (hI.ok aj) (hwf _ (dz bT))) ?_
   rintro _ w6 ⟨aEV,rfl,aEW,K6⟩;refine jO<|iF (fV ?_)
   refine jN<|mv Y<|ev (eG Y Y)<|oJ Y<|jO<|dX ⟨(k+1),aEV,Y,Y,aj,by rw [eO bT,OW,<- hG]; exact aEW,K6⟩ rfl aj
  replace yt:=jX yt;refine BU ?_;have hkl:k=l.length:=aj;subst hkl;rw [HZ] at hG;have hF:Fine Gk.pl l.length 0:=by have h9:=av2 hr (l:=l) (j4 _); rw [HZ,<- hG] at h9; exact h9
  refine gD Y<|gu Y (TF K5 (hF.ok aj aj)) ?_
  rintro _ w7 ⟨B0,d0,B1,d1,B2,d2,rfl,K7⟩;refine al xK Y K7 λg2 w8 K8=>sty Y K8 U Y λw9 K9=>dn<|rg<|ev (fA xW Y Y (K9.x U))<|ev (fA Ls Y Y (K9.x s5))<|mX K9 Y (aqj _ Gk.pl.m (K9.s s1).any (K9.s s2).any (K9.s s3).any r) λPE K10=>fE Y<|aZ<|gD Y<|ev (wC Y)<|dn<|bS Y (λaLF=>?_) (λaLF=>?_)
  ·refine kX Y<|Aw Y ?_
   exact⟨Y,(K10.cU 0 7)⟩
  have he:qA Gk.pl.m r=true:=by simpa using aLF
  have h8:Gk.pl.m.J.length<=8:=by have h9:=he; unfold qA at h9; simp only [bK,bN] at h9; exact h9.2.1.1.2
  refine jQ<|gD Y<|gu Y (acM (K10.sel s4) 7 (.inr Y) hF aj aj) ?_
  rintro _ VY ⟨G1,rfl,hG1,vF⟩;have hF1:Fine G1.pl l.length 0:=by rw [hG1]; exact afu (.inr rfl) 500 hF
  refine dn<|gD Y<|gu Y (TL vF 10 au hF1 aj aj) ?_
  rintro _ Uy ⟨G2,rfl,hG2,uR⟩;have hF2:Fine G2.pl l.length 16:=by rw [hG2]; exact(F8 (.inr (.inr (.inr (.inl rfl)))) _ hF1).mono (j4 _) (by have:=KR hF1; omega)
  have hA:G2.pl=abx (xO (Jh r) l):=by rw [hG2,hG1,hG]; rfl
  refine dn<|kX Y<|aZ<|kX Y<|dF<|qh (λmJ lJ wJ=>∃ k A c,lJ=[(2,fK g1),(6,fK aqC),(9,fK g2),(11,.slice A ((Gk.pl.m.J.take k).map λx=>TG (uW G2.pl x.ID).1).length c),(12,O ((k:Nat):Int))]/\mJ=Gk.pl.m.J.length - k/\k<=Gk.pl.m.J.length/\(∀ x∈Gk.pl.m.J.take k,(uW G2.pl x.ID).2=0)/\Hp b S wJ (aR awS 9 A c ((Gk.pl.m.J.take k).map λx=>TG (uW G2.pl x.ID).1)::wu aqC G2::dJ g2 37 [.slice B0 Gk.pl.m.aM.length d0,.slice B1 Gk.pl.m.J.length d1,.slice B2 Gk.pl.m.aU.length d2]::dI bW B0 d0 Gk.pl.m.aM::dI bD B1 d1 Gk.pl.m.J::dI cB B2 d2 Gk.pl.m.aU::dJ g1 23 [O r.lD,O r.l9,O r.All,O r.je,O r.gV,O r.eF]::dI tItem jL jK l::F)) ⟨0,none,0,Y,Y,fI _,av,uR.nil awS 9⟩ rfl ?_
  rintro _ _ YX ⟨k,A,c,rfl,rfl,hk2,hrd,xk⟩;refine aZ<|gD Y<|jP g2 1 jC xk s2 Y<|pA 3 Y<|bS Y (λawU=>?_) (λawU=>?_)
  ·replace awU:=iY awU;refine jQ<|aZ<|dF<|gD Y<|jP g2 1 jC xk s2 Y<|mv Y ?_
   obtain⟨x1,bT⟩:=bH (xs:=Gk.pl.m.J) (i:=k) aj;obtain⟨D1,e1,yG,hi1⟩:=CG (xk.is s4 bT);refine ev (d9 (i:=k) lT tH Y Y Y (aP bT) ((xk.s s4).some_ bT))<|ev (fq pG Y (fD _ _ _))<|ev (kG jF Y (yG 0 _ Y))<|gu Y (aiI (xk.sel s1) x1.ID (hF2.ok aj aj)) ?_
   rintro _ w14 ⟨A0,c0,rfl,wF⟩;refine pA 6 Y<|aZ<|gD Y<|ev (Gq Y Y)<|dn<|bS Y (λapW=>?_) (λapW=>?_)
   ·refine kX Y<|jE (gG (jM (gG (gG (jM (gG (uo Y ?_)))))))
    exact⟨Y,(wF.cU 0 9)⟩
   have hz:(uW G2.pl x1.ID).2=0:=by simpa using apW
   refine jQ ?_;have H1:=wF.fz U;refine jN<|pq 2 Y<|ev (Ev.b2s (e:=5) (H1.s U) ak ak ak Y)<|yV (τ:=awS) (x:=TG (uW G2.pl x1.ID).1) Y (by intro _; apply aqB) rfl H1 (λ_ _=>rfl) λg3 w15 zI=>ap (ys:=[TG (uW G2.pl x1.ID).1]) zI s3 rfl rfl (zI.o U) underlying41 aQG (by simp; omega) av rfl λA2 c2 w16 BZ=>oJ rfl<|jO<|iF (fV ?_)
   have hq:((Gk.pl.m.J.take k).map λx=>TG (uW G2.pl x.ID).1)++[TG (uW G2.pl x1.ID).1]=(Gk.pl.m.J.take (k+1)).map λx=>TG (uW G2.pl x.ID).1:=by rw [eO bT,sU]; rfl
   rw [hq] at BZ ⊢;refine jN<|mv Y<|ev (eG Y Y)<|oJ Y<|jO<|dX ⟨(k+1),A2,c2,Y,Y,aj,ug (q:=fun(x:aH)=>(uW G2.pl x.ID).2=0) hrd bT hz,BZ.cU 1 2⟩ rfl aj
  replace awU:=jX awU;refine BU ?_;have hkl:k=Gk.pl.m.J.length:=aj;subst hkl;rw [HZ] at hrd xk ⊢;have hF3:Fine (rA 12 (oI G2.pl) G2.pl) l.length 32:=(F8 (.inr (.inr (.inr (.inr rfl)))) _ hF2).mono (j4 _) (by have:=KR hF2; omega);refine gD Y<|gu Y (TL (xk.sel s1) 12 au hF2 aj aj) ?_
  rintro _ w17 ⟨G3,rfl,hG3,zT⟩;rw [<- hG3] at hF3;refine dn<|gD Y<|gu Y (av5 zT 120 hF3 aj aj aj) ?_
  rintro _ w18 ⟨G4,rfl,hG4,EL⟩;have hF4:Fine G4.pl (l.length+240) 3888:=by rw [hG4]; exact(QH ((F8 (.inr (.inr (.inr (.inl rfl)))) _ hF3).mono (j4 _) (by have:=KR hF3; omega:_<=48)) 120).mono aj aj
  have hB:G4.pl=aAb (xO (Jh r) l):=by rw [hG4,hG3,hA]; rfl
  obtain⟨hW,hR⟩:=aji hr aFr (by rw [<- hG]; exact he) (by rw [<- hA,<- hG]; exact hrd);rw [<- hB] at hW hR;rw [<- hA,<- hG] at hR;refine dn<|aZ<|kX Y<|dF<|qh (λmJ lJ wJ=>∃ k,lJ=[(2,fK g1),(6,fK aqC),(9,fK g2),(11,.slice A (Gk.pl.m.J.map λx=>TG (uW G2.pl x.ID).1).length c),(15,O ((k:Nat):Int))]/\mJ=Gk.pl.m.J.length - k/\k<=Gk.pl.m.J.length/\Hp b S wJ (wu aqC G4::aR awS 9 A c (Gk.pl.m.J.map λx=>TG (uW G2.pl x.ID).1)::dJ g2 37 [.slice B0 Gk.pl.m.aM.length d0,.slice B1 Gk.pl.m.J.length d1,.slice B2 Gk.pl.m.aU.length d2]::dI bW B0 d0 Gk.pl.m.aM::dI bD B1 d1 Gk.pl.m.J::dI cB B2 d2 Gk.pl.m.aU::dJ g1 23 [O r.lD,O r.l9,O r.All,O r.je,O r.gV,O r.eF]::dI tItem jL jK l::F)) (m0:=Gk.pl.m.J.length - 0) ⟨0,Y,Y,fI _,EL⟩ Y ?_
  rintro _ _ w19 ⟨k,rfl,rfl,hk3,Ai⟩;refine aZ<|gD Y<|jP g2 1 jC Ai s2 Y<|pA 3 Y<|bS Y (λaFC=>?_) (λaFC=>?_)
  ·replace aFC:=iY aFC;refine jQ<|aZ<|dF<|gD Y<|jP g2 1 jC Ai s2 Y<|mv Y ?_
   obtain⟨x1,bT⟩:=bH (xs:=Gk.pl.m.J) (i:=k) aj;obtain⟨D1,e1,yG,hi1⟩:=CG (Ai.is s4 bT);refine ev (d9 (i:=k) lT tH Y Y Y (aP bT) ((Ai.s s4).some_ bT))<|ev (fq pG Y (fD _ _ _))<|ev (kG jF Y (yG 0 _ Y))<|gu Y (aiI Ai x1.ID (hF4.ok aj aj)) ?_
   rintro _ w20 ⟨A0,c0,rfl,Fg⟩;have hm1:=dz bT;rw [hR x1 hm1] at Fg ⊢;rw [hrd x1 hm1];have nE:(Gk.pl.m.J.map λx=>TG (uW G2.pl x.ID).1)[k]? = some (TG (uW G2.pl x1.ID).1):=by rw [rM,bT]; rfl
   have H1:=Fg.fz U;refine pA 6 Y<|pW ak ak<|bf (dP Y) Y<|bf (Gq Y Y) Y<|bf (dP Y) Y<|dM Y (dP Y) Y<|dM Y (Ev.b2s (e:=5) (H1.s U) ak ak ak Y) Y<|dM Y (dP Y) Y<|dM Y (dP Y) Y<|dM Y (d9 (i:=k) underlying41 aQH Y Y Y (aP nE) ((H1.o s2).some_ nE)) Y<|dM Y (kG aQI Y ((H1.o s2).eZ (j:=0) nE Y)) Y<|dM Y (Ev.avB Y Y) Y<|bf (oU Y Y) Y<|pX λw21 e21=>?_
   have IJ:=H1.grow e21;refine bS Y nofun (λ_h=>?_);refine Gw<|jN<|mv Y<|ev (eG Y Y)<|oJ Y<|jO<|dX ⟨(k+1),Y,Y,aj,IJ.rm U⟩ rfl aj
  refine BU<|gD Y<|ev (fA Ls Y Y (Ai.x s6))<|gu Y (av7 Ai r (hF4.ok aj aj)) ?_
  rintro _ w22 ⟨rfl,Hy⟩;refine pA 6 Y<|iU Y ?_
  exact⟨by rw [hW] <;> rfl,(Hy.cU 0 8)⟩
def trep_true{S0:Nat->Prop}(w:World)(r:ARules){A:ah}{c:Nat}{l:V AItem}(jq:Sl tItem S0 w A c l)(hwf:∀ x∈l,x.wf):bM prog 3 #[.agg #[O r.lD,O r.l9,O r.All,O r.je,O r.gV,O r.eF],.slice A l.length c] w λv w'=>v=.bool true/\Hp w S0 w' []:=by
 have H0:=(Hp.init w S0).push ((Hp.init w S0).a jq);have hC:∀ x∈l,vJ x.C:=λx hx=>(hwf x hx).2.2.2
 cases hr:l5 r with
 | false=>exact aAp (F:=[]) H0 r hr
 | true=>exact awT (F:=[]) H0 r hr hC
end
end Go.Proofs.YthcmboepffiliaaGreat
