/- Lemmas. -/
import Derived.Test.YtlhnnmlenkahlaaGreatrG30
import Derived.Test.YtlhnnmlenkahlaaGreatrG35
import Derived.Test.YtlhnnmlenkahlaaGreatrG38
import Derived.Test.YtlhnnmlenkahlaaGreatrG41
set_option maxRecDepth 4000
set_option linter.all false
namespace Go.Proofs.YtlhnnmlenkahlaaGreat
open Go.RowKit Go.Proofs.Tryz
def aej(D:List aM)(l:List aH):Prop:=∀ o∈D,∀ y∈l,y.ID=o.aC->o.To∉y.aD
def aF1(D:List aM)(x:fV):Prop:=x.Kind≠7/\x.Client=0/\(x.Kind=5->∀ o∈D,¬ (o.aC=x.A/\o.To=x.B))
theorem Zd{m:dF}(hm:mD m=true){x:fV}{D:List aM}(hx:aF1 D x)(hD:aej D m.aA):aej D (uD m x).aA:=by
  intro o ho y hy he
  rcases(BK hm hx.1 hx.2.1).1 with h | ⟨hk,h1,h2,h⟩ | ⟨c,hk,hc,hi,h⟩ | ⟨c,H,hk,hc,hi,hv,hs,hn,hH,hl,h⟩ | ⟨c,H,hk,hc,hi,hn,hH,hl,h⟩
  · rw [h] at hy; exact hD o ho y hy he
  · rcases(h y).1 hy with rfl | hy
    · exact lM
    · exact hD o ho y hy he
  · rcases(h y).1 hy with rfl | ⟨hy,_⟩
    · exact lM
    · exact hD o ho y hy he
  · rcases(h y).1 hy with rfl | ⟨hy,_⟩
    · intro hm; rcases(hH _).1 hm with e | e
      · exact hx.2.2 hk o ho ⟨he.symm.trans hi,e⟩
      · exact hD o ho c hc he e
    · exact hD o ho y hy he
  · rcases(h y).1 hy with rfl | ⟨hy,_⟩
    · intro hm; exact hD o ho c hc he ((hH _).1 hm).2
    · exact hD o ho y hy he
theorem Ze{m:dF}(hm:mD m=true){x:fV}(h7:x.Kind≠7)(h0:x.Client=0):∀ y∈m.aA,∃ z∈(uD m x).aA,z.ID=y.ID:=by
  intro y hy
  rcases(BK hm h7 h0).1 with h | ⟨hk,h1,h2,h⟩ | ⟨c,hk,hc,hi,h⟩ | ⟨c,H,hk,hc,hi,hv,hs,hn,hH,hl,h⟩ | ⟨c,H,hk,hc,hi,hn,hH,hl,h⟩
  · exact⟨y,by rw [h]; exact hy,rfl⟩
  · exact⟨y,(h y).2 (.inr hy),Y⟩
  all_goals
    by_cases he:y.ID=x.A
    · exact⟨_,(h _).2 (.inl Y),hi.trans he.symm⟩
    · exact⟨y,(h y).2 (.inr ⟨hy,he⟩),Y⟩
theorem V6{D:List aM}:∀(l:List fV){m:dF},mD m=true->(∀ x∈l,aF1 D x)->aej D m.aA->aej D (AP m l).aA
  | [],m,_,_,h=>h
  | x::l,m,hm,hl,h=>V6 l (mY hm x) (λy hy=>hl y (ou _ hy)) (Zd hm (hl x qF) h)
theorem V7:∀(l:List fV){m:dF},mD m=true->(∀ x∈l,x.Kind≠7/\x.Client=0)->∀ y∈m.aA,∃ z∈(AP m l).aA,z.ID=y.ID
  | [],m,_,_=>λy hy=>⟨y,hy,rfl⟩
  | x::l,m,hm,hl=>λy hy=>by
    have hx:=hl x qF;obtain⟨z,hz,h1⟩:=Ze hm hx.1 hx.2 y hy;obtain⟨u,hu,h2⟩:=V7 l (mY hm x) (λy hy=>hl y (ou _ hy)) z hz;exact⟨u,hu,h2.trans h1⟩
theorem alG{m:dF}(hm:mD m=true){x:fV}(h6:x.Kind=6)(h0:x.Client=0):∀ y∈(uD m x).aA,y.ID=x.A->x.B∉y.aD:=by
  intro y hy he hb;have hc:=(iU.1 hm).2.1
  rcases(BK hm aj h0).1 with h | ⟨hk,_,_,_⟩ | ⟨c,hk,_,_,_⟩ | ⟨c,H,hk,_,_,_,_,_,_,_,_⟩ | ⟨c,H,hk,hc',hi,hn,hH,hl,h⟩
  · have hy':=hy
    rw [h] at hy';have ho:=(kF.1 hc).1 _ hy';have hf:=Ei hc hy';have hz:(jw x.B y).2=0:=by unfold jw; rw [aO ((Qq ho _).2 hb)]
    have hg:gy m.aA x.A (jw x.B)=(m.aA.set (low (fun(y:aH)=>bB y.ID x.A) m.aA) (jw x.B y).1,0):=by
      rw [<- he,Xi hc hf.1,hf.2,aO hz]
    have e:(uD m x).aA=m.aA.set (low (fun(y:aH)=>bB y.ID x.A) m.aA) (jw x.B y).1:=by
      have e1:(xJ m x).2.1=m.aA.set (low (fun(y:aH)=>bB y.ID x.A) m.aA) (jw x.B y).1:=by
        rw [UU h6]; show(if(gy m.aA x.A (jw x.B)).2=0 then(gy m.aA x.A (jw x.B)).1 else m.aA)=_;rw [hg,aO rfl]
      have e2:¬ (dD m x).2<0:=by
        unfold dD; rw [aK (by rw [hm]; decide),aO h0]; show ¬ Gy (xJ m x).2.2.1 _<0;rw [UU h6]; show ¬ Gy (gy m.aA x.A (jw x.B)).2 0<0;rw [hg]; show ¬ (if(0:Int)≠0 then -(0:Int) else 0)<0; decide
      unfold uD; rw [aK e2];unfold dD; rw [aK (by rw [hm]; decide),aO h0]; exact e1
    have hi:=(xR hc hf.1).1;rw [hf.2,he] at hi;rw [h] at e;have h9:=aR (fun(q:List aH)=>q[low (fun(y:aH)=>bB y.ID x.A) m.aA]?) e;rw [qb (aJ hi),hi] at h9; injection h9 with h9;have hw:=(FD ho hz).2.1;have hn:=(abz ho hb x.B);rw [h9,hw] at hb;exact(hn.1 hb).1 Y
  · omega
  · omega
  · omega
  · rcases(h y).1 hy with rfl | ⟨_,h2⟩
    · exact((hH _).1 hb).1 Y
    · exact h2 he
theorem ahB:∀(l:List fV){m:dF},mD m=true->(∀ x∈l,x.Kind=6/\x.Client=0)->∀ x∈l,∀ y∈(AP m l).aA,y.ID=x.A->x.B∉y.aD
  | [],_,_,_,x,hx=>absurd hx av
  | x0::l,m,hm,hl,x,hx=>by
    rcases iX.1 hx with rfl | hx
    · have h0:=hl x qF
      have:=V6 (D:=[⟨1,x.A,0,0,0,x.B,0⟩]) l (mY hm x) (λz hz=>⟨by have:=(hl z (ou _ hz)).1; omega,(hl z (ou _ hz)).2,λh5=>by have:=(hl z (ou _ hz)).1; omega⟩)
        (λo ho y hy he=>by rw [j4.1 ho] at he ⊢; exact alG hm h0.1 h0.2 y hy he)
      exact λy hy he=>this _ (List.mem_singleton.2 Y) y hy he
    · exact ahB l (mY hm x0) (λz hz=>hl z (ou _ hz)) x hx
theorem Aw{s:iF}{aN:Int}{o:aM}:o∈(dS s aN).bL↔o∈s.bL/\aN<=o.jS:=by
  show o∈s.bL.filter _↔_;rw [nJ]; unfold UN; simp
theorem aek{s:iF}{aN c n:Int}:Ih s aN c n=false↔∀ o∈(dS s aN).bL,¬ (o.aC=c/\o.To=n):=by
  unfold Ih; rw [TW]; simp
theorem Zf{s:iF}{aN n:Int}:∀(l:List fV){m:dF},mD m=true->(∀ x∈l,x.Kind≠7/\x.Client=0/\(x.Kind=5->x.B=n))->aej (dS s aN).bL m.aA->aej (dS s aN).bL (mW s aN n m l).aA
  | [],m,_,_,h=>h
  | x::l,m,hm,hl,h=>by
    have hx:=hl x qF;show aej _ (mW s aN n (KG s aN n m x) l).aA;unfold KG; split
    · rename_i hc
      refine Zf l (mY hm x) (λy hy=>hl y (ou _ hy)) (Zd hm ⟨hx.1,hx.2.1,λh5 o ho=>?_⟩ h);rw [h5] at hc; simp at hc;rw [hx.2.2 h5]; exact aek.1 hc o ho
    · exact Zf l hm (λy hy=>hl y (ou _ hy)) h
theorem Zg{s:iF}{aN n:Int}:∀(l:List fV){m:dF},mD m=true->(∀ x∈l,x.Kind≠7/\x.Client=0)->∀ y∈m.aA,∃ z∈(mW s aN n m l).aA,z.ID=y.ID
  | [],m,_,_=>λy hy=>⟨y,hy,rfl⟩
  | x::l,m,hm,hl=>λy hy=>by
    have hx:=hl x qF;show ∃ z∈(mW s aN n (KG s aN n m x) l).aA,_;unfold KG; split
    · obtain⟨z,hz,h1⟩:=Ze hm hx.1 hx.2 y hy
      obtain⟨u,hu,h2⟩:=Zg l (mY hm x) (λy hy=>hl y (ou _ hy)) z hz;exact⟨u,hu,h2.trans h1⟩
    · exact Zg l hm (λy hy=>hl y (ou _ hy)) y hy
theorem atg{cs:List aH}{n:Int}{l:List aI}:∀ x∈lg cs n l,x.B=n/\x.Client=0/\((x.Kind=5/\∃ c∈cs,x.A=c.ID/\x.C=c.aB/\ahs l c=true)∨(x.Kind=6/\∃ c∈cs,x.A=c.ID/\ahs l c=false/\n∈c.aD)):=by
  intro x hx; unfold lg at hx; split at hx
  · obtain⟨c,hcs,hc⟩:=SQ.1 hx
    unfold recC at hc
    split at hc
    · rename_i h1; rw [j4.1 hc]; simp at h1
      exact⟨Y,Y,.inl ⟨Y,c,hcs,Y,Y,by unfold ahs; simpa using h1.1⟩⟩
    · split at hc
      · rename_i h1; rw [j4.1 hc]; simp at h1
        exact⟨Y,Y,.inr ⟨Y,c,hcs,Y,by unfold ahs; simpa using h1.1,h1.2⟩⟩
      · exact absurd hc av
  · exact absurd hx av
theorem Zh{m:dF}{s:iF}{r:ARules}{aN:Int}{o:aM}(h:o∈AZ m s r aN):o.Kind=1/\o.jM=o.To/\o.jS=aN+r.jr/\∃ c∈m.aA,o.aC=c.ID/\o.aB=c.aB/\o.Sum=c.Sum:=by
  obtain⟨c,hc,_,_,rfl⟩:=Oe h;obtain⟨c0,h0,rfl⟩:=gQ.1 hc;exact⟨Y,Y,Y,c0,h0,Y,Y,Y⟩
structure Told (c:PC):Prop where
  t:aej (dS c.s c.aN).bL c.m.aA
  k:∀ o∈c.s.bL,∃ y∈c.m.aA,y.ID=o.aC
theorem aA9(r:ARules):Told (V3 r):=⟨λo ho=>absurd ho (by simp [V3,dS]),λo ho=>absurd ho (by simp [V3])⟩
theorem ath{c:PC}{k:Nat}(H:Inv c k)(T:Told c):Told (YP c):=by
  have h6:∀ x∈nY c.m c.s c.r c.aN,x.Kind=6/\x.Client=0:=by
    intro x hx; unfold nY at hx; split at hx
    · obtain⟨o,_,rfl⟩:=gQ.1 hx; exact⟨rfl,rfl⟩
    · exact absurd hx av
  have ajs:=V7 _ H.hm (λx hx=>⟨by have:=(h6 x hx).1; omega,(h6 x hx).2⟩:∀ x∈nY c.m c.s c.r c.aN,x.Kind≠7/\x.Client=0);have aIW:=V6 (D:=(dS c.s c.aN).bL) (nY c.m c.s c.r c.aN) H.hm (λx hx=>⟨by have:=(h6 x hx).1; omega,(h6 x hx).2,λh5=>by have:=(h6 x hx).1; omega⟩) T.t
  by_cases hb:rdB c.m c.r=true
  · have hD:(YP c).s.bL=(dS c.s c.aN).bL++AZ c.m c.s c.r c.aN:=by show(mZ _ _ _ _).bL=_; unfold mZ; rw [aO hb]
    have hC:nY c.m c.s c.r c.aN=(AZ c.m c.s c.r c.aN).map wC:=by unfold nY; rw [aO hb]
    refine⟨λo ho y hy he=>?_,λo ho=>?_⟩
    · have ho:=(Aw.1 ho).1
      rw [hD] at ho
      rcases jN.1 ho with ho | ho
      · exact aIW o ho y hy he
      · have hi:=Zh ho
        have:=ahB _ H.hm h6 (wC o) (by rw [hC]; exact gQ.2 ⟨o,ho,rfl⟩) y hy he;rw [<- hi.2.1]; exact this
    · rw [hD] at ho
      rcases jN.1 ho with ho | ho
      · obtain⟨y,hy,h1⟩:=T.k o (Aw.1 ho).1
        obtain⟨z,hz,h2⟩:=ajs y hy;exact⟨z,hz,h2.trans h1⟩
      · obtain⟨_,_,_,y,hy,h1,_⟩:=Zh ho
        obtain⟨z,hz,h2⟩:=ajs y hy;exact⟨z,hz,h2.trans h1.symm⟩
  · have hD:(YP c).s=c.s:=by show mZ _ _ _ _=_; unfold mZ; rw [aK hb]
    have hC:(YP c).m=c.m:=by show AP c.m (nY _ _ _ _)=_; unfold nY; rw [aK hb]; rfl
    exact⟨by rw [hD,hC]; exact T.t,by rw [hD,hC]; exact T.k⟩
theorem ati{c:PC}{k:Nat}(H:Inv c k)(T:Told c)(o:aM):Told (l5 c o):=by
  cases hf:fI o.jM c.hs with
  | none=>rw [RP hf]; exact T
  | some f=>
  cases hb:(!f.up||Ih c.s c.aN o.aC o.To) with
  | true=>rw [Ii hf hb]; exact T
  | false=>
  by_cases hr:¬ ((uq f.l f.d o.aC).2.2=0/\(uq f.l f.d o.aC).2.1=o.aB/\((iM (uq f.l f.d o.aC).1).toNat:Int)=o.Sum)
  · rw [VQ hf hr]; exact T
  replace hr:=JW.1 hr
  cases ht:fI o.To c.hs with
  | none=>
    have e:l5 c o=c:=by unfold l5; rw [hf]; simp only; rw [aK (by rw [hb]; decide),aK (λh=>h hr),ht]
    rw [e]; exact T
  | some t=>
  cases hk:Sn t.l t.bM o.aC (uq f.l f.d o.aC).2.1 o.Sum (uq f.l f.d o.aC).1 with
  | false=>rw [RQ hf hb hr ht hk]; exact⟨T.t,T.k⟩
  | true=>
    rw [RS hf hb hr ht hk];have hno:=aek.1 (dX.1 hb).2;refine⟨Zd H.hm ⟨by show(5:Int)≠7; decide,rfl,λ_ p hp=>hno p hp⟩ T.t,λp hp=>?_⟩;obtain⟨y,hy,h1⟩:=T.k p hp;obtain⟨z,hz,h2⟩:=Ze H.hm (x:=y7 o.aC o.To (uq f.l f.d o.aC).2.1) (by show(5:Int)≠7; decide) rfl y hy;exact⟨z,hz,h2.trans h1⟩
theorem atj{c:PC}{k:Nat}(H:Inv c k)(T:Told c)(o:aM):Told (rA c o):=by
  unfold rA; split
  · exact ati H T o
  split
  · exact T
  split
  · exact⟨T.t,T.k⟩
  · exact T
theorem atl{c:PC}{k:Nat}(H:Inv c k)(T:Told c)(it:AItem):Told (mO c it).1:=by
  have hw:=H.hw;unfold mO; split
  · exact T
  split
  · exact T
  split
  · exact⟨T.t,T.k⟩
  · show Told (if _ then _ else _)
    split
    · exact atj (c:={ c with eD:=c.eD.take it.A.toNat++c.eD.drop (it.A.toNat+1) }) (N9 (k:=k) H (by rw [jd,fO,kW]; omega)) ⟨T.t,T.k⟩ _
    · exact⟨T.t,T.k⟩
theorem ael{l:List aH}(hl:kR l=true){id:Int}{f:aH->aH × Int}:(if(gy l id f).2=0 then(gy l id f).1 else l).length=l.length:=by
  split
  · rename_i h
    cases hb:gY l id with
    | false=>rw [ace hb] at h; exact absurd (show(5:Int)=0 from h) au
    | true=>
      rw [Xi hl hb] at h ⊢
      split
      · exact gJ
      · rename_i h2; rw [aK h2] at h; exact absurd h h2
  · rfl
theorem atm{m:dF}(hm:mD m=true){x:fV}(hk:x.Kind=4∨x.Kind=5∨x.Kind=6)(h0:x.Client=0):(uD m x).aA.length=m.aA.length:=by
  have hc:=(iU.1 hm).2.1;unfold uD; split
  · rfl
  · unfold dD; rw [aK (by rw [hm]; decide),aO h0]
    show(xJ m x).2.1.length=_
    rcases hk with hk | hk | hk
    · rw [UQ hk]; show(um _ m.aA x).1.length=_
      unfold um; split
      · rfl
      · exact ael hc
    · rw [UR hk]; show(if _ then if _ then _ else _ else _:List aH).length=_
      split
      · unfold kS; split
        · rfl
        · exact ael hc
      · rfl
    · rw [UU hk]; exact ael hc
theorem alH:∀(l:List fV){m:dF},mD m=true->(∀ x∈l,(x.Kind=4∨x.Kind=5∨x.Kind=6)/\x.Client=0)->(AP m l).aA.length=m.aA.length
  | [],_,_,_=>rfl
  | x::l,m,hm,hl=>by
    have hx:=hl x qF;exact(alH l (mY hm x) (λy hy=>hl y (ou _ hy))).trans (atm hm hx.1 hx.2)
theorem atn{c:PC}{k:Nat}(H:Inv c k)(T:Told c)(it:AItem)(hw:¬ ((rC c it).2=0/\(rC c it).1.m.aA.length=c.m.aA.length)):Told (rC c it).1:=by
  have hc:=(iU.1 H.hm).2.1
  revert hw
  unfold rC; split
  · exact λ_=>T
  rename_i hp
  split
  · exact λ_=>⟨T.t,T.k⟩
  intro hw
  have hno:∀ y∈c.m.aA,y.ID≠it.A:=by
    intro y hy he;refine hw ⟨Y,?_⟩;show(AP (dD c.m (rO c.m it)).1 _).aA.length=_;rw [Y4 hp,alH _ (mY H.hm _) (λx hx=>by obtain⟨z,_,rfl⟩:=gQ.1 hx; exact⟨.inr (.inl rfl),rfl⟩)];exact atm H.hm (.inl (by show(if _ then(4:Int) else 3)=4; exact aO ((zR hc).2 ⟨y,hy,he⟩))) rfl
  have hk:=Oa c.m it;have hq:∀ o∈c.s.bL,o.aC≠it.A:=λo ho he=>by obtain⟨y,hy,h1⟩:=T.k o ho; exact hno y hy (h1.trans he)
  have h5:(rO c.m it).Kind≠5:=by show(if _ then(4:Int) else 3)≠5; split <;> decide
  have h1:=Zd H.hm (x:=rO c.m it) (D:=(dS c.s c.aN).bL) ⟨hk.1,hk.2.1,λh=>absurd h h5⟩ T.t;refine⟨?_,λo ho=>?_⟩
  · show aej (dS c.s c.aN).bL (AP (dD c.m (rO c.m it)).1 _).aA
    rw [Y4 hp];refine V6 _ (mY H.hm _) (λx hx=>?_) h1;obtain⟨z,_,rfl⟩:=gQ.1 hx;exact⟨by show(5:Int)≠7; decide,rfl,λ_ o ho h=>hq o (Aw.1 ho).1 h.1⟩
  · show ∃ y∈(AP (dD c.m (rO c.m it)).1 _).aA,_
    rw [Y4 hp];obtain⟨y,hy,h2⟩:=T.k o ho;obtain⟨z,hz,h3⟩:=Ze H.hm hk.1 hk.2.1 y hy;obtain⟨u,hu,h4⟩:=V7 ((Ij c it).2.map λz=>y7 it.A z (dD c.m (rO c.m it)).2) (mY H.hm _) (λx hx=>by obtain⟨z,_,rfl⟩:=gQ.1 hx; exact⟨by show(5:Int)≠7; decide,rfl⟩) z hz;exact⟨u,hu,h4.trans (h3.trans h2)⟩
theorem awM{c:PC}{k:Nat}(H:Inv c k)(T:Told c)(it:AItem)(h:rG):Told (U0 c it h).1:=by
  unfold U0
  split
  · exact⟨T.t,T.k⟩
  split
  · have hl:∀ x∈lg c.m.aA it.A (eY h.l),x.Kind≠7/\x.Client=0/\(x.Kind=5->x.B=it.A):=λx hx=>⟨(Y3 x hx).1,(Y3 x hx).2.1,λ_=>(atg x hx).1⟩
    refine⟨Zf _ H.hm hl T.t,λo ho=>?_⟩;obtain⟨y,hy,h1⟩:=T.k o ho;obtain⟨z,hz,h2⟩:=Zg (s:=c.s) (aN:=c.aN) (n:=it.A) _ H.hm (λx hx=>⟨(hl x hx).1,(hl x hx).2.1⟩) y hy;exact⟨z,hz,h2.trans h1⟩
  split
  · exact⟨T.t,T.k⟩
  split
  · exact⟨T.t,T.k⟩
  split
  · exact⟨T.t,T.k⟩
  split <;> exact⟨T.t,T.k⟩
theorem aem{c:PC}{k:Nat}(H:Inv c k)(T:Told c)(it:AItem)(hw:¬ (it.Kind=11/\(AU c it).2=0/\(AU c it).1.m.aA.length=c.m.aA.length)):Told (AU c it).1:=by
  by_cases h11:it.Kind=11
  · have e:AU c it=rC c it:=by unfold AU; rw [h11]; rfl
    rw [e] at hw ⊢;exact atn H T it (λh=>hw ⟨h11,h⟩)
  have kn1:∀ x:fV,x.Kind≠7->x.Client=0->x.Kind≠5->Told { c with m:=uD c.m x }:=λx h7 h0 h5=>by
    refine⟨Zd H.hm ⟨h7,h0,λh=>absurd h h5⟩ T.t,λo ho=>?_⟩;obtain⟨y,hy,h1⟩:=T.k o ho;obtain⟨z,hz,h2⟩:=Ze H.hm h7 h0 y hy;exact⟨z,hz,h2.trans h1⟩
  unfold AU
  split
  · split
    · exact T
    · refine⟨λo ho=>T.t o ?_,T.k⟩
      have:=Aw.1 ho;exact Aw.2 ⟨this.1,by have h9:c.aN+it.A<=o.jS:=this.2; omega⟩
  split
  · have:=kn1 (Ik it) (by show(1:Int)≠7; decide) rfl (by show(1:Int)≠5; decide)
    exact⟨this.t,this.k⟩
  split
  · exact kn1 ⟨0,0,2,it.A,it.B,0⟩ (by show(2:Int)≠7; decide) rfl (by show(2:Int)≠5; decide)
  split
  · exact ath H T
  split
  · exact atl H T it
  split
  · exact T
  split
  · exact T
  split
  · exact T
  · exact awM H T it _
theorem Zi{c:PC}(T:Told c){x:aH}(hx:x∈c.m.aA){n:Int}(hn:n∈kG (dS c.s c.aN).bL x.ID):x.aD.contains n=false:=by
  obtain⟨o,ho,rfl⟩:=gQ.1 hn;have:=nJ.1 ho;exact xA.2 λh=>T.t o this.1 x hx (gW this.2).symm (nI.1 h)
end Go.Proofs.YtlhnnmlenkahlaaGreat
