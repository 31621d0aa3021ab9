/- Lemmas. -/
import Derived.Test.YtlhnnmlenkahlaaGreatrG30
import Derived.Test.YtlhnnmlenkahlaaGreatrG35
import Derived.Test.YtlhnnmlenkahlaaGreatrG37
import Derived.Test.YtlhnnmlenkahlaaGreatrG38
import Derived.Test.YtlhnnmlenkahlaaGreatrG41
import Derived.Test.YtlhnnmlenkahlaaGreatrG42
import Derived.Test.YtlhnnmlenkahlaaGreatrG44
set_option maxRecDepth 4000
set_option linter.all false
namespace Go.Proofs.YtlhnnmlenkahlaaGreat
open Go.RowKit Go.Proofs.Tryz
def aos(l:List aI)(x:aH):Prop:=∃ y∈l,y.aC=x.ID/\y.aB=x.aB/\y.Sum=x.Sum
def kA(l:List aH):Prop:=∀ x∈l,∃ n,n∈x.aD
def kB(l:List aH)(hs:lq):Prop:=∀ x∈l,∀ n∈x.aD,∃ h,fI n hs=some h/\aos h.l x
def ajO(l:List aH)(y:aI):Prop:=∃ x∈l,x.ID=y.aC/\y.aB<=x.aB/\(y.aB=x.aB->y.Sum=x.Sum)
def kE(l:List aH)(hs:lq):Prop:=∀ z h,fI z hs=some h->∀ y∈h.l,ajO l y/\((iM (sU (⟨y.aC,false⟩:bZ) h.d)).toNat:Int)=y.Sum
def kT(l:List aH)(D:List aM)(aN:Int):Prop:=∀ p∈D,aN<=p.jS->∃ x∈l,x.ID=p.aC/\p.aB<=x.aB/\(p.aB=x.aB->p.To∉x.aD)
def ahE(l:List aH)(D:List aM)(aN:Int)(o:aM):Prop:=∃ x∈l,x.ID=o.aC/\o.aB<=x.aB/\(o.aB=x.aB->o.jS<aN∨o∈D)
def kD(l:List aH)(eD D:List aM)(aN:Int):Prop:=∀ o∈eD,o.Kind≠0->ahE l D aN o
structure Keep (c:PC):Prop where
  a:kA c.m.aA
  b:kB c.m.aA c.hs
  e:kE c.m.aA c.hs
  t:kT c.m.aA c.s.bL c.aN
  d:kD c.m.aA c.eD c.s.bL c.aN
theorem aBa(r:ARules):Keep (V3 r):=
  ⟨λx hx=>absurd hx (by simp [V3]),λx hx=>absurd hx (by simp [V3]),λz h hg=>absurd hg (by simp [V3,fI]),λp hp=>absurd hp (by simp [V3]),λp hp=>absurd hp (by simp [V3])⟩
theorem ajO.same{l q:List aH}(hs:sZ l q){y:aI}(h:ajO l y):ajO q y:=by
  obtain⟨x,hx,h1,h2,h3⟩:=h; obtain⟨z,hz,a1,a2,a3⟩:=hs.1 x hx;exact⟨z,hz,a1.trans h1,aj,λh=>by rw [a3]; exact h3 aj⟩
theorem kE.same{l q:List aH}(hs:sZ l q){H:lq}(h:kE l H):kE q H:=λz u hg y hy=>⟨(h z u hg y hy).1.same hs,(h z u hg y hy).2⟩
theorem ahE.same{l q:List aH}(hs:sZ l q){D:List aM}{aN:Int}{o:aM}(h:ahE l D aN o):ahE q D aN o:=by
  obtain⟨x,hx,h1,h2,h3⟩:=h; obtain⟨z,hz,a1,a2,a3⟩:=hs.1 x hx;exact⟨z,hz,a1.trans h1,aj,λh=>h3 aj⟩
theorem kD.same{l q:List aH}(hs:sZ l q){eD D:List aM}{aN:Int}(h:kD l eD D aN):kD q eD D aN:=λo ho h0=>(h o ho h0).same hs
def aat(hs:lq)(D:List aM)(aN:Int)(l:List aH)(x:fV):Prop:=
  x.Client=0/\(x.Kind=1∨x.Kind=2∨x.Kind=5)/\(x.Kind=5->∀ c∈l,c.ID=x.A->c.aB=x.C->(∃ h,fI x.B hs=some h/\aos h.l c)/\∀ p∈D,aN<=p.jS->p.aC=c.ID->p.To=x.B->p.aB≠c.aB)
theorem aat.same{hs:lq}{D:List aM}{aN:Int}{l q:List aH}{x:fV}(hs3:sZ l q)(h:aat hs D aN l x):aat hs D aN q x:=⟨h.1,h.2.1,λh5 c hc hi hv=>by
  obtain⟨c0,hc0,e1,e2,e3⟩:=hs3.2 c hc;obtain⟨⟨h',hg,y,hy,y1,y2,y3⟩,hp⟩:=h.2.2 h5 c0 hc0 (e1.symm.trans hi) (e2.symm.trans hv)
  exact⟨⟨h',hg,y,hy,y1.trans e1.symm,y2.trans e2.symm,y3.trans e3.symm⟩,λp hp1 hp2 hp3 hp4=>by rw [e2]; exact hp p hp1 hp2 (hp3.trans e1) hp4⟩⟩
theorem aat.k{hs:lq}{D:List aM}{aN:Int}{l:List aH}{x:fV}(h:aat hs D aN l x):x.Kind=1∨x.Kind=2∨x.Kind=5∨x.Kind=6:=by have:=h.2.1; omega
theorem atu{m:dF}(hm:mD m=true){x:fV}{hs:lq}{D:List aM}{aN:Int}(hx:aat hs D aN m.aA x)(hb:kB m.aA hs)(ht:kT m.aA D aN):kB (uD m x).aA hs/\kT (uD m x).aA D aN:=by
  have hk:=hx.2.1;have hu:=wD (iU.1 hm).2.1
  rcases(BK hm aj hx.1).1 with h | ⟨hk',_,_,_⟩ | ⟨c,hk',_,_,_⟩ | ⟨c,H,hk',hc,hi,hv,hs',hn,hH,hl,h⟩ | ⟨c,H,hk',_,_,_,_,_,_⟩
  · rw [h]; exact⟨hb,ht⟩
  · omega
  · omega
  · have hq:=hx.2.2 hk' c hc hi hv.symm
    refine⟨λy hy n hn'=>?_,λp hp hpu=>?_⟩
    · rcases(h y).1 hy with rfl | ⟨hy,_⟩
      · rcases(hH n).1 hn' with rfl | h2
        · exact hq.1
        · exact hb c hc n h2
      · exact hb y hy n hn'
    · obtain⟨x0,hx0,e1,e2,e3⟩:=ht p hp hpu
      by_cases he:x0.ID=x.A
      · have:=uQ hu hx0 hc (he.trans hi.symm); subst this
        refine⟨_,(h _).2 (.inl Y),e1,e2,λhv2 hm2=>?_⟩
        rcases(hH _).1 hm2 with h2 | h2
        · exact hq.2 p hp hpu e1.symm h2 hv2
        · exact e3 hv2 h2
      · exact⟨x0,(h _).2 (.inr ⟨hx0,he⟩),e1,e2,e3⟩
  · omega
theorem atv{hs:lq}{D:List aM}{aN:Int}:∀(l:List fV){m:dF},mD m=true->(∀ x∈l,aat hs D aN m.aA x)->kB m.aA hs->kT m.aA D aN->kB (AP m l).aA hs/\kT (AP m l).aA D aN
  | [],m,_,_,hb,ht=>⟨hb,ht⟩
  | x::l,m,hm,hl,hb,ht=>by
    have hx:=hl x qF;have h1:=atu hm hx hb ht;exact atv l (mY hm x) (λy hy=>(hl y (ou _ hy)).same (Au hm hx.1 hx.k)) h1.1 h1.2
theorem V8{m:dF}(hm:mD m=true){x:fV}(h0:x.Client=0)(hk:x.Kind=1∨x.Kind=2∨x.Kind=5):∀ y∈(uD m x).aA,∃ c∈m.aA,y.ID=c.ID/\y.aB=c.aB/\y.Sum=c.Sum/\∀ n∈c.aD,n∈y.aD:=by
  rcases(BK hm aj h0).1 with h | ⟨hk',_,_,_⟩ | ⟨c,hk',_,_,_⟩ | ⟨c,H,hk',hc,hi,hv,hs',hn,hH,hl,h⟩ | ⟨c,H,hk',_,_,_,_,_,_⟩
  · rw [h]; exact λy hy=>⟨y,hy,rfl,rfl,rfl,λn hn=>hn⟩
  · omega
  · omega
  · intro y hy
    rcases(h y).1 hy with rfl | ⟨hy,_⟩
    · exact⟨c,hc,Y,Y,Y,λn hn=>(hH n).2 (.inr hn)⟩
    · exact⟨y,hy,Y,Y,Y,λn hn=>hn⟩
  · omega
theorem ahF:∀(l:List fV){m:dF},mD m=true->(∀ x∈l,x.Client=0/\(x.Kind=1∨x.Kind=2∨x.Kind=5))->∀ y∈(AP m l).aA,∃ c∈m.aA,y.ID=c.ID/\y.aB=c.aB/\y.Sum=c.Sum/\∀ n∈c.aD,n∈y.aD
  | [],m,_,_,y,hy=>⟨y,hy,rfl,rfl,rfl,λn hn=>hn⟩
  | x::l,m,hm,hl,y,hy=>by
    have hx:=hl x qF;obtain⟨c,hc,e1,e2,e3,e4⟩:=ahF l (mY hm x) (λy hy=>hl y (ou _ hy)) y hy;obtain⟨d,hd,f1,f2,f3,f4⟩:=V8 hm hx.1 hx.2 c hc;exact⟨d,hd,e1.trans f1,e2.trans f2,e3.trans f3,λn hn=>e4 n (f4 n hn)⟩
theorem kA.grow{l q:List aH}(h:kA l)(hg:∀ y∈q,∃ c∈l,y.ID=c.ID/\y.aB=c.aB/\y.Sum=c.Sum/\∀ n∈c.aD,n∈y.aD):kA q:=λy hy=>by
  obtain⟨c,hc,_,_,_,h4⟩:=hg y hy;obtain⟨n,hn⟩:=h c hc;exact⟨n,h4 n hn⟩
theorem aBb{m:dF}(hm:mD m=true){x:fV}(h5:x.Kind=5)(h0:x.Client=0)(hst:kI m.aT x.B=true){c:aH}(hc:c∈m.aA)(hi:c.ID=x.A)(hv:c.aB=x.C):∀ y∈(uD m x).aA,y.ID=x.A->x.B∈y.aD:=by
  intro y hy he;have hcm:=(iU.1 hm).2.1;have hu:=wD hcm
  rcases(BK hm aj h0).1 with h | ⟨hk',_,_,_⟩ | ⟨c,hk',_,_,_⟩ | ⟨d,H,hk',hd,hdi,_,_,hn,hH,hl,h⟩ | ⟨c,H,hk',_,_,_,_,_,_⟩
  · by_cases hb:x.B∈y.aD
    · exact hb
    exfalso
    have hy':=hy;rw [h] at hy';have hyc:=uQ hu hy' hc (he.trans hi.symm); subst hyc;have ho:=(kF.1 hcm).1 _ hy';have hf:=Ei hcm hy';obtain⟨n,hn,hni,_⟩:=(Js (iU.1 hm).1).1 hst;have hr:=ac7 ((yg.1 (iU.1 hm).1).2 n hn);have hz:(qg x.B x.C y).2=0:=by unfold qg; rw [aK (by rw [hv]; simp),aK (λh=>hb ((Qq ho _).1 h))]
    have hg:gy m.aA x.A (qg x.B x.C)=(m.aA.set (low (fun(y:aH)=>bB y.ID x.A) m.aA) (qg x.B x.C y).1,0):=by
      rw [<- he,Xi hcm hf.1,hf.2,aO hz]
    have hg2:kS m.aA x.A x.B x.C=(m.aA.set (low (fun(y:aH)=>bB y.ID x.A) m.aA) (qg x.B x.C y).1,0):=by
      unfold kS; rw [aK aj,hg]
    have e:(uD m x).aA=m.aA.set (low (fun(y:aH)=>bB y.ID x.A) m.aA) (qg x.B x.C y).1:=by
      have e1:(xJ m x).2.1=m.aA.set (low (fun(y:aH)=>bB y.ID x.A) m.aA) (qg x.B x.C y).1:=by
        rw [UR h5]; show(if kI m.aT x.B=true then if(kS m.aA x.A x.B x.C).2=0 then(kS m.aA x.A x.B x.C).1 else m.aA else m.aA)=_;rw [aO hst,hg2,aO rfl]
      have e2:¬ (dD m x).2<0:=by
        unfold dD; rw [aK (by rw [hm]; decide),aO h0]; show ¬ Gy (xJ m x).2.2.1 _<0;rw [UR h5]; show ¬ Gy (if kI m.aT x.B=true then(kS m.aA x.A x.B x.C).2 else 5) 0<0;rw [aO hst,hg2]; show ¬ (if(0:Int)≠0 then -(0:Int) else 0)<0; decide
      unfold uD; rw [aK e2];unfold dD; rw [aK (by rw [hm]; decide),aO h0]; exact e1
    have hi:=(xR hcm hf.1).1;rw [hf.2,he] at hi;rw [h] at e;have h9:=aR (fun(q:List aH)=>q[low (fun(y:aH)=>bB y.ID x.A) m.aA]?) e;rw [qb (aJ hi),hi] at h9; injection h9 with h9;have hw:=Nv ho (show 1<=x.B by omega) (show x.B<=16 by omega) hz;exact hb (by rw [h9,hw.2.2.1]; exact(alm ho hb x.B).2 (.inl rfl))
  · omega
  · omega
  · rcases(h y).1 hy with rfl | ⟨_,h2⟩
    · exact(hH _).2 (.inl Y)
    · exact absurd he h2
  · omega
theorem atw{m:dF}(hm:mD m=true){x:fV}(h6:x.Kind=6)(h0:x.Client=0):∀ y∈(uD m x).aA,∃ w∈m.aA,y.ID=w.ID/\y.aB=w.aB/\y.Sum=w.Sum/\∀ n,n∈y.aD↔n∈w.aD/\¬ (x.A=w.ID/\x.B=n):=by
  intro y hy;have hun:=alG hm h6 h0 y hy
  rcases(BK hm aj h0).1 with h | ⟨hk',_,_,_⟩ | ⟨c,hk',_,_,_⟩ | ⟨d,H,hk',_,_,_,_,_,_,_,_⟩ | ⟨c,H,hk',hc,hi,hn,hH,hl,h⟩
  · rw [h] at hy
    exact⟨y,hy,Y,Y,Y,λn=>⟨λhn=>⟨hn,λhb=>hun hb.1.symm (by rw [hb.2]; exact hn)⟩,λhn=>hn.1⟩⟩
  · omega
  · omega
  · omega
  · rcases(h y).1 hy with rfl | ⟨hy,hne⟩
    · exact⟨c,hc,Y,Y,Y,λn=>(hH n).trans ⟨λhb=>⟨hb.2,λh=>hb.1 h.2.symm⟩,λhb=>⟨λh=>hb.2 ⟨hi.symm,h.symm⟩,hb.1⟩⟩⟩
    · exact⟨y,hy,Y,Y,Y,λn=>⟨λhn=>⟨hn,λhb=>hne hb.1.symm⟩,λhn=>hn.1⟩⟩
theorem Sj:∀(l:List fV){m:dF},mD m=true->(∀ x∈l,x.Kind=6/\x.Client=0)->∀ z∈(AP m l).aA,∃ y∈m.aA,z.ID=y.ID/\z.aB=y.aB/\z.Sum=y.Sum/\∀ n,n∈z.aD↔n∈y.aD/\∀ x∈l,¬ (x.A=y.ID/\x.B=n)
  | [],m,_,_,z,hz=>⟨z,hz,rfl,rfl,rfl,λn=>⟨λh=>⟨h,λx hx=>absurd hx av⟩,λh=>h.1⟩⟩
  | x::l,m,hm,hl,z,hz=>by
    have hx:=hl x qF;obtain⟨y,hy,e1,e2,e3,e4⟩:=Sj l (mY hm x) (λy hy=>hl y (ou _ hy)) z hz;obtain⟨w,hw,f1,f2,f3,f4⟩:=atw hm hx.1 hx.2 y hy;refine⟨w,hw,e1.trans f1,e2.trans f2,e3.trans f3,λn=>?_⟩;rw [e4,f4]
    constructor
    · rintro⟨⟨h1,h2⟩,h3⟩
      refine⟨h1,λu hu=>?_⟩
      rcases iX.1 hu with rfl | hu
      · exact h2
      · rw [<- f1]; exact h3 u hu
    · rintro⟨h1,h2⟩
      exact⟨⟨h1,h2 x qF⟩,λu hu=>by rw [f1]; exact h2 u (ou _ hu)⟩
theorem abG{l:List fV}{m:dF}(hm:mD m=true)(hl:∀ x∈l,x.Kind=6/\x.Client=0):∀ y∈m.aA,∃ z∈(AP m l).aA,z.ID=y.ID/\z.aB=y.aB/\z.Sum=y.Sum/\∀ n,n∈z.aD↔n∈y.aD/\∀ x∈l,¬ (x.A=y.ID/\x.B=n):=by
  intro y hy;obtain⟨z,hz,e1⟩:=V7 l hm (λx hx=>⟨by have:=(hl x hx).1; omega,(hl x hx).2⟩) y hy;obtain⟨w,hw,f1,f2,f3,f4⟩:=Sj l hm hl z hz;have:=uQ (wD (iU.1 hm).2.1) hw hy (f1.symm.trans e1); subst this;exact⟨z,hz,f1,f2,f3,f4⟩
theorem aex{m:dF}{s:iF}{r:ARules}{aN:Int}:∀ x∈nY m s r aN,x.Kind=6/\x.Client=0:=by
  intro x hx; unfold nY at hx; split at hx
  · obtain⟨o,_,rfl⟩:=gQ.1 hx; exact⟨rfl,rfl⟩
  · exact absurd hx av
theorem aot{m:dF}(hm:mD m=true){s:iF}{r:ARules}{aN:Int}(ha:kA m.aA):kA (AP m (nY m s r aN)).aA:=by
  intro z hz;have hc:=(iU.1 hm).2.1;obtain⟨y,hy,e1,e2,e3,e4⟩:=Sj _ hm aex z hz
  by_cases hb:rdB m r=true
  · have hC:nY m s r aN=(AZ m s r aN).map wC:=by unfold nY; rw [aO hb]
    by_cases hp:∃ p∈AZ m s r aN,p.aC=y.ID
    · obtain⟨p,hp,hpi⟩:=hp
      have hd:=awL hb hp
      obtain⟨g,hg⟩:∃ g,g∈jH (aU (zq m.aA (mZ m s r aN).bL) p.aC) m.aT (Ey s r aN):=by
        cases hq:jH (aU (zq m.aA (mZ m s r aN).bL) p.aC) m.aT (Ey s r aN) with
        | nil=>have h1:=hd.many; have h2:=hd.bW; rw [hq] at h1; simp at h1; omega
        | cons g l=>exact⟨g,qF⟩
      rw [hpi,(Oc hc _ hy).2] at hg;have h1:=(nJ.1 (nJ.1 (nJ.1 hg).1).1);refine⟨g,(e4 g).2 ⟨h1.1,λx hx hb2=>?_⟩⟩;rw [hC] at hx;obtain⟨q,hq,rfl⟩:=gQ.1 hx;have hD:(mZ m s r aN).bL=(dS s aN).bL++AZ m s r aN:=by unfold mZ; rw [aO hb]
      have h2:g∈kG (mZ m s r aN).bL y.ID:=by
        rw [hD]; refine gQ.2 ⟨q,nJ.2 ⟨List.mem_append_right _ hq,F8 hb2.1⟩,?_⟩;rw [<- (Zh hq).2.1]; exact hb2.2
      have h3:=h1.2;rw [nI.2 h2] at h3; exact absurd h3 au
    · obtain⟨n,hn⟩:=ha y hy
      refine⟨n,(e4 n).2 ⟨hn,λx hx hb2=>?_⟩⟩;rw [hC] at hx;obtain⟨q,hq,rfl⟩:=gQ.1 hx;exact hp ⟨q,hq,hb2.1⟩
  · obtain⟨n,hn⟩:=ha y hy
    refine⟨n,(e4 n).2 ⟨hn,λx hx=>?_⟩⟩;unfold nY at hx; rw [aK hb] at hx; exact absurd hx av
theorem atx{c:PC}{k:Nat}(H:Inv c k)(K:Keep c):Keep (YP c):=by
  have hs3:sZ c.m.aA (YP c).m.aA:=Ip _ H.hm alv
  have hD:∀ p∈c.s.bL,c.aN<=p.jS->p∈(YP c).s.bL:=λp hp hu=>by
    show p∈(mZ _ _ _ _).bL; unfold mZ; split
    · exact List.mem_append_left _ (Aw.2 ⟨hp,hu⟩)
    · exact hp
  refine⟨aot H.hm K.a,λz hz n hn=>?_,K.e.same hs3,λp hp hu=>?_,λo ho h0=>?_⟩
  · obtain⟨y,hy,e1,e2,e3,e4⟩:=Sj _ H.hm aex z hz
    obtain⟨h,hg,w,hw,f1,f2,f3⟩:=K.b y hy n ((e4 n).1 hn).1;exact⟨h,hg,w,hw,f1.trans e1.symm,f2.trans e2.symm,f3.trans e3.symm⟩
  · have hp':p∈(mZ c.m c.s c.r c.aN).bL:=hp
    have old:p∈c.s.bL->∃ x∈(YP c).m.aA,x.ID=p.aC/\p.aB<=x.aB/\(p.aB=x.aB->p.To∉x.aD):=λhp=>by
      obtain⟨y,hy,f1,f2,f3⟩:=K.t p hp hu;obtain⟨z,hz,e1,e2,e3,e4⟩:=abG H.hm aex y hy;exact⟨z,hz,e1.trans f1,aj,λhv hn=>f3 aj ((e4 _).1 hn).1⟩
    unfold mZ at hp'
    split at hp'
    · rename_i hb
      rcases jN.1 hp' with hp' | hp'
      · exact old (Aw.1 hp').1
      · obtain⟨_,hf,_,y,hy,f1,f2,f3⟩:=Zh hp'
        obtain⟨z,hz,e1,e2,e3,e4⟩:=abG H.hm aex y hy;refine⟨z,hz,e1.trans f1.symm,aj,λhv hn=>?_⟩;refine((e4 _).1 hn).2 (wC p) ?_ ⟨f1,hf⟩;unfold nY; rw [aO hb]; exact gQ.2 ⟨p,hp',rfl⟩
    · exact old hp'
  · rcases jN.1 (show o∈c.eD++xF c.m c.s c.r c.aN from ho) with ho | ho
    · obtain⟨x,hx,f1,f2,f3⟩:=(K.d o ho h0).same hs3
      refine⟨x,hx,f1,f2,λhv=>?_⟩
      rcases f3 hv with h1 | h1
      · exact .inl h1
      · by_cases hu:c.aN<=o.jS
        · exact .inr (hD o h1 hu)
        · exact .inl (show o.jS<c.aN by omega)
    · obtain⟨hb,⟨_,h1⟩ | ⟨hT,_⟩⟩:=awK ho
      · exact absurd h1 h0
      · obtain⟨_,hf,_,y,hy,f1,f2,f3⟩:=Zh hT
        obtain⟨z,hz,e1,e2,e3⟩:=hs3.1 y hy;refine⟨z,hz,e1.trans f1.symm,aj,λ_=>.inr ?_⟩;show o∈(mZ _ _ _ _).bL; unfold mZ; rw [aO hb]; exact List.mem_append_right _ hT
theorem alS{l:List aH}{hs:lq}{z:Int}{h h2:rG}(hg:fI z hs=some h)(hh:∀ x∈l,z∈x.aD->aos h.l x->aos h2.l x)(hb:kB l hs):kB l (iy z h2 hs):=λx hx n hn=>by
  obtain⟨h',hg',hc⟩:=hb x hx n hn;rw [yx]; split
  · rename_i he; subst he; rw [hg] at hg'; injection hg' with hg'; subst hg'; exact⟨h2,rfl,hh x hx hn hc⟩
  · exact⟨h',hg',hc⟩
theorem ahG{l:List aH}{hs:lq}{z:Int}{h2:rG}(hh:∀ y∈h2.l,ajO l y/\((iM (sU (⟨y.aC,false⟩:bZ) h2.d)).toNat:Int)=y.Sum)(he:kE l hs):kE l (iy z h2 hs):=λu h hg y hy=>by
  rw [yx] at hg; split at hg
  · injection hg with hg; subst hg; exact hh y hy
  · exact he u h hg y hy
theorem alT{l:List aH}(hu:Up aH.ID l){hs:lq}(hz:PW hs){z:Int}{h:rG}(hg:fI z hs=some h){c v sum:Int}{fG:List (BitVec 8)}(hl:∃ x∈l,x.ID=c/\v<=x.aB/\(v=x.aB->sum=x.Sum))(hb:kB l hs)(he:kE l hs) :
    kB l (iy z ⟨h.up,h.bM,Ig h.l h.bM c v sum fG,tkD h.l h.bM c v sum fG h.d⟩ hs)/\kE l (iy z ⟨h.up,h.bM,Ig h.l h.bM c v sum fG,tkD h.l h.bM c v sum fG h.d⟩ hs):=by
  have hO:=(hz z h hg).l
  cases hk:Sn h.l h.bM c v sum fG with
  | false=>
    obtain⟨e1,e2⟩:=alj hO hk (d:=h.d);rw [e1,e2];exact⟨alS hg (λx hx hn hc=>hc) hb,ahG (λy hy=>he z h hg y hy) he⟩
  | true=>
    obtain⟨h1,h2,h3,h4⟩:=ajF hO hk (d:=h.d);obtain⟨t1,t2,t3,t4,t5⟩:=(ajE hO).1 hk;obtain⟨x0,hx0,a1,a2,a3⟩:=hl;refine⟨alS hg (λx hx hn hc=>?_) hb,ahG (λy hy=>?_) he⟩
    · obtain⟨y,hy,b1,b2,b3⟩:=hc
      refine⟨y,(h2 y).2 (.inr ⟨hy,λhyc=>?_⟩),b1,b2,b3⟩;have:=t4 y hy hyc;have:=uQ hu hx hx0 (b1.symm.trans (hyc.trans a1.symm)); subst this;omega
    · have hy':y∈Ig h.l h.bM c v sum fG:=hy
      show ajO l y/\((iM (sU (⟨y.aC,false⟩:bZ) (tkD h.l h.bM c v sum fG h.d))).toNat:Int)=y.Sum;rw [h4,aK av]
      rcases(h2 y).1 hy' with rfl | ⟨hy2,hc⟩
      · rw [aO rfl]; exact⟨⟨x0,hx0,a1,a2,a3⟩,t2⟩
      · rw [aK (by simp; exact hc)]; exact he z h hg y hy2
theorem ahH{hs:lq}(hz:PW hs){z:Int}{h:rG}(hg:fI z hs=some h){c v sum:Int}{fG:List (BitVec 8)}(hk:Sn h.l h.bM c v sum fG=true):(⟨c,v,sum,false,false⟩:aI)∈Ig h.l h.bM c v sum fG:=((ajF (hz z h hg).l hk (d:=h.d)).2.1 _).2 (.inl rfl)
theorem aty{c:PC}{k:Nat}(H:Inv c k)(K:Keep c)(o:aM):Keep (l5 c o):=by
  have hu:=wD (iU.1 H.hm).2.1
  cases hf:fI o.jM c.hs with
  | none=>rw [RP hf]; exact K
  | some f=>
  cases hb:(!f.up||Ih c.s c.aN o.aC o.To) with
  | true=>rw [Ii hf hb]; exact K
  | false=>
  by_cases hr:¬ ((uq f.l f.d o.aC).2.2=0/\(uq f.l f.d o.aC).2.1=o.aB/\((iM (uq f.l f.d o.aC).1).toNat:Int)=o.Sum)
  · rw [VQ hf hr]; exact K
  replace hr:=JW.1 hr
  cases ht:fI o.To c.hs with
  | none=>
    have e:l5 c o=c:=by unfold l5; rw [hf]; simp only; rw [aK (by rw [hb]; decide),aK (λh=>h hr),ht]
    rw [e]; exact K
  | some t=>
  obtain⟨x,hx,x1,x2,x3,x4⟩:=asU (H.hz _ _ hf).l hr.1;obtain⟨x0,hx0,a1,a2,a3⟩:=(K.e _ _ hf x hx).1;have hsum:x.Sum=o.Sum:=by rw [<- x2,<- x3]; exact hr.2.2
  have hl:∃ y∈c.m.aA,y.ID=o.aC/\(uq f.l f.d o.aC).2.1<=y.aB/\((uq f.l f.d o.aC).2.1=y.aB->o.Sum=y.Sum):=
    ⟨x0,hx0,a1.trans x1,by rw [x4]; exact a2,λh=>by rw [<- hsum]; exact a3 (by rw [<- x4]; exact h)⟩
  have hbe:=alT hu H.hz ht hl K.b K.e (fG:=(uq f.l f.d o.aC).1)
  cases hk:Sn t.l t.bM o.aC (uq f.l f.d o.aC).2.1 o.Sum (uq f.l f.d o.aC).1 with
  | false=>rw [RQ hf hb hr ht hk]; exact⟨K.a,hbe.1,hbe.2,K.t,K.d⟩
  | true=>
    rw [RS hf hb hr ht hk];have hno:=aek.1 (dX.1 hb).2
    have hC:aat (iy o.To ⟨t.up,t.bM,Ig t.l t.bM o.aC (uq f.l f.d o.aC).2.1 o.Sum (uq f.l f.d o.aC).1,tkD t.l t.bM o.aC (uq f.l f.d o.aC).2.1 o.Sum (uq f.l f.d o.aC).1 t.d⟩ c.hs) c.s.bL c.aN c.m.aA (y7 o.aC o.To (uq f.l f.d o.aC).2.1):=by
      refine⟨Y,.inr (.inr Y),λ_ y hy yi yv=>⟨⟨_,by rw [yx,aO rfl],_,ahH H.hz ht hk,yi.symm,yv.symm,?_⟩,λp hp hpu hpc hpt=>absurd ⟨hpc.trans yi,hpt⟩ (hno p (Aw.2 ⟨hp,hpu⟩))⟩⟩;obtain⟨y0,hy0,b1,b2,b3⟩:=hl;have:=uQ hu hy hy0 (yi.trans b1.symm); subst this;exact b3 yv.symm
    have hs3:sZ c.m.aA (uD c.m (y7 o.aC o.To (uq f.l f.d o.aC).2.1)).aA:=Au H.hm rfl hC.k;have hbt:=atu H.hm hC hbe.1 K.t;exact⟨K.a.grow (V8 H.hm Y hC.2.1),hbt.1,hbe.2.same hs3,hbt.2,K.d.same hs3⟩
theorem atz{c:PC}{k:Nat}(H:Inv c k)(K:Keep c){o:aM}(hd:o.Kind≠0->ahE c.m.aA c.s.bL c.aN o)(hn:c.aN<=o.jS):Keep (rA c o):=by
  have hu:=wD (iU.1 H.hm).2.1
  by_cases h0:o.Kind=0
  · unfold rA; rw [aO h0]; exact aty H K o
  cases ht:fI o.To c.hs with
  | none=>
            have e:rA c o=c:=by unfold rA; rw [aK h0,ht]
            rw [e]; exact K
  | some t=>
  cases hb:(eY t.l).any (adF o) with
  | false=>rw [ajy h0 ht hb]; exact K
  | true=>
    rw [YN h0 ht hb];have hO:=(H.hz _ _ ht).l;obtain⟨r1,r2,r3,r4⟩:=alk hO o.aC (d:=t.d);rw [hO.rest,Ed] at hb;obtain⟨y0,hy0,hb⟩:=hb;unfold adF at hb; simp at hb;refine⟨K.a,alS ht (λx hx hn2 hc=>?_) K.b,ahG (λy hy=>?_) K.e,K.t,K.d⟩
    · obtain⟨y,hy,b1,b2,b3⟩:=hc
      refine⟨y,(r2 y).2 ⟨hy,λhyc=>?_⟩,b1,b2,b3⟩;have:=hO.inj hy hy0 (hyc.trans hb.1.symm); subst this;obtain⟨x0,hx0,a1,a2,a3⟩:=hd h0;have:=uQ hu hx hx0 (b1.symm.trans (hyc.trans a1.symm)); subst this
      rcases a3 aj with h | h
      · omega
      · obtain⟨x1,bP,c1,c2,c3⟩:=K.t o h hn
        have:=uQ hu hx bP (a1.trans c1.symm); subst this;exact c3 aj hn2
    · have hy':=(r2 y).1 hy
      have he:=K.e _ _ ht y hy'.1
      rcases r4 ⟨y.aC,false⟩ with h | ⟨h,_⟩
      · exact⟨he.1,by show((iM (sU _ (aan t.l o.aC t.d))).toNat:Int)=_; rw [h]; exact he.2⟩
      · injection h with h _; exact absurd h hy'.2
theorem ahI{c:PC}(K:Keep c){eD:List aM}(h:∀ o∈eD,o∈c.eD):Keep { c with eD:=eD }:=⟨K.a,K.b,K.e,K.t,λo ho=>K.d o (h o ho)⟩
theorem atA{c:PC}{k:Nat}(H:Inv c k)(K:Keep c)(it:AItem):Keep (mO c it).1:=by
  have hw:=H.hw;unfold mO; split
  · exact K
  split
  · exact K
  rename_i o ho
  have hmem:=bT ho
  split
  · refine⟨K.a,K.b,K.e,K.t,λp hp=>?_⟩
    rcases jN.1 hp with hp | hp
    · exact K.d p hp
    · rw [j4.1 hp]; exact K.d o hmem
  · have hs:∀ p∈c.eD.take it.A.toNat++c.eD.drop (it.A.toNat+1),p∈c.eD:=λp hp=>by
      rcases jN.1 hp with hp | hp
      · exact List.mem_of_mem_take hp
      · exact Xg hp
    show Keep (if _ then _ else _)
    split
    · rename_i hc
      exact atz (N9 (k:=k) H (by rw [jd,fO,kW]; omega)) (ahI K hs) (K.d o hmem) hc.2.1
    · exact ahI K hs
theorem Ux{s:iF}{aN n:Int}{hs:lq}:∀(l:List fV){m:dF},mD m=true->(∀ x∈l,x.Client=0/\x.Kind=5/\(Ih s aN x.A n=false->aat hs s.bL aN m.aA x))->kA m.aA->kB m.aA hs->kT m.aA s.bL aN->
    kA (mW s aN n m l).aA/\kB (mW s aN n m l).aA hs/\kT (mW s aN n m l).aA s.bL aN
  | [],m,_,_,ha,hb,ht=>⟨ha,hb,ht⟩
  | x::l,m,hm,hl,ha,hb,ht=>by
    have hx:=hl x qF;have hr:=λy hy=>hl y (ou x hy);show kA (mW s aN n (KG s aN n m x) l).aA/\kB (mW s aN n (KG s aN n m x) l).aA hs/\kT (mW s aN n (KG s aN n m x) l).aA s.bL aN;unfold KG; split
    · rename_i hc
      rw [hx.2.1] at hc; simp at hc;have hC:=hx.2.2 hc;have hs3:=Au hm hx.1 hC.k;have hbt:=atu hm hC hb ht;exact Ux l (mY hm x) (λy hy=>⟨(hr y hy).1,(hr y hy).2.1,λh=>((hr y hy).2.2 h).same hs3⟩) (ha.grow (V8 hm hx.1 hC.2.1)) hbt.1 hbt.2
    · exact Ux l hm hr ha hb ht
theorem Zj{l:List aI}{x:aH}(h:PV l):ahs l x=true↔aos l x:=by
  unfold ahs aos; rw [Ed]
  constructor
  · rintro⟨y,hy,hf⟩; unfold zI at hf; simp at hf; exact⟨y,hy,hf.1.1.2,hf.1.2,hf.2⟩
  · rintro⟨y,hy,h1,h2,h3⟩; refine⟨y,hy,?_⟩; unfold zI; simp [h1,h2,h3,h.2 y hy]
theorem aou{l:List aH}(hl:kR l=true){r:List aI}{z:Int}:z∈nM l r↔∃ y∈r,sS l y=true/\y.aC=z:=by
  unfold nM; rw [aO hl]
  have hs:((YL l r).mergeSort fun(x y:Int)=>decide (x<=y)).Pairwise (λx y=>x<=y):=by
    have:=List.pairwise_mergeSort (le:=fun(x y:Int)=>decide (x<=y)) (λa b c h1 h2=>by simp at *; omega) (λa b=>by simp; omega) (YL l r);exact this.imp (λh=>by simpa using h)
  rw [(ajI hs).2,List.mem_mergeSort];unfold YL; rw [gQ]
  constructor
  · rintro⟨y,hy,rfl⟩; exact⟨y,(nJ.1 hy).1,(nJ.1 hy).2,rfl⟩
  · rintro⟨y,hy,h,rfl⟩; exact⟨y,nJ.2 ⟨hy,h⟩,rfl⟩
theorem aov{l:List aH}(hl:kR l=true){h:rG}(hO:PV h.l)(he:∀ y∈h.l,ajO l y){y:aI}(hy:y∈h.l)(hs:y.aC∈nM l h.l):∃ x∈l,x.ID=y.aC/\y.aB<x.aB:=by
  obtain⟨w,hw,h1,h2⟩:=(aou hl).1 hs;have:=hO.inj hw hy h2; subst this;obtain⟨x,hx,a1,a2,a3⟩:=he w hw;refine⟨x,hx,a1,?_⟩
  by_cases hv:w.aB=x.aB
  · exfalso
    have hf:=Ei hl hx;unfold sS at h1; rw [a1] at hf; rw [hf.1,hf.2] at h1;unfold zI at h1; rw [hO.2 w hy] at h1; simp [a1,hv,a3 hv] at h1
  · omega
theorem atB{c:PC}{k:Nat}(H:Inv c k)(K:Keep c)(it:AItem){h:rG}(hg:fI it.A c.hs=some h):Keep (av6 c it h):=by
  have hc:=(iU.1 H.hm).2.1;have hu:=wD hc;have hO:=(H.hz _ _ hg).l;have hr:=hO.rest;have hs3:sZ c.m.aA (mW c.s c.aN it.A c.m (lg c.m.aA it.A (eY h.l))).aA:=J4 _ H.hm alx;have key:=Ux (s:=c.s) (aN:=c.aN) (n:=it.A) (hs:=c.hs) (lg c.m.aA it.A (eY h.l)) H.hm (λx hx=>?_) K.a K.b K.t
  · refine⟨key.1,key.2.1,K.e.same hs3,key.2.2,λo ho h0=>?_⟩
    rcases jN.1 (show o∈c.eD++zJ _ _ _ _ from ho) with ho | ho
    · exact(K.d o ho h0).same hs3
    · unfold zJ at ho
      obtain⟨y,hy,rfl⟩:=gQ.1 ho;have hy:=nJ.1 hy;have hyl:y∈h.l:=by have:=hy.1; rwa [hr] at this
      have hys:y.aC∈nM (mW c.s c.aN it.A c.m (lg c.m.aA it.A (eY h.l))).aA h.l:=by have:=nI.1 hy.2; rw [hr] at this ⊢; exact this
      obtain⟨x,hx,e1,e2⟩:=aov (iU.1 (M5 H.hm _)).2.1 hO (λy hy=>((K.e _ _ hg y hy).1.same hs3)) hyl hys;exact⟨x,hx,e1,Int.le_of_lt e2,λh=>absurd h (Int.ne_of_lt e2)⟩
  · have hi:=atg x hx
    rw [hr] at hi
    rcases hi.2.2 with ⟨h5,d,hd,dA,dC,dR⟩ | ⟨h6,d,hd,dA,dR,dn⟩
    · refine⟨hi.2.1,h5,λht=>⟨hi.2.1,.inr (.inr h5),λ_ y hy yi yv=>?_⟩⟩
      have:=uQ hu hy hd (yi.trans dA); subst this;rw [hi.1];exact⟨⟨h,hg,(Zj hO).1 dR⟩,λp hp hpu hpc hpt=>absurd ⟨hpc.trans dA.symm,hpt⟩ (aek.1 ht p (Aw.2 ⟨hp,hpu⟩))⟩
    · obtain⟨h',hg',hh⟩:=K.b d hd _ dn
      rw [hg] at hg'; injection hg' with hg'; subst hg';rw [(Zj hO).2 hh] at dR; exact absurd dR au
theorem U8{l:List aV}{aG:List Int}:∀(n:Nat)(aZ:List gq)(hs:List Int),∀ z∈sW l aG n aZ hs,kI l z=true/\aG.contains z=true
  | 0,_,_,z,hz=>absurd hz (by simp [sW])
  | n+1,aZ,hs,z,hz=>by
    unfold sW at hz
    split at hz
    · exact absurd hz av
    · rename_i t ht
      rcases iX.1 hz with rfl | hz
      · have h:=(alC ht).2
        unfold Da at h; simp at h;exact⟨by unfold kI; simp [h.1.1.1.1,h.1.1.1.2],by simp [h.1.1.2]⟩
      · exact U8 n _ _ z hz
theorem ahJ{c v sum:Int}{fG:List (BitVec 8)}:∀(l:List Int)(q:lq × List Int),q.2.length<=(l.foldl (vL c v sum fG) q).2.length
  | [],q=>kV _
  | z::l,q=>by
    rw [sK];refine lV ?_ (ahJ l _);unfold vL; split
    · exact kV _
    · show q.2.length<=(if _ then _ else _:List Int).length
      split
      · rw [jd]; omega
      · exact kV _
theorem ahK{c v sum:Int}{fG:List (BitVec 8)}:∀(l:List Int){q:lq × List Int},PW q.1->(l.foldl (vL c v sum fG) q).2=q.2->∀ z,fI z (l.foldl (vL c v sum fG) q).1=fI z q.1
  | [],q,_,_,z=>rfl
  | n::l,q,hz,h,z=>by
    rw [sK] at h ⊢;have hm:=ahJ (c:=c) (v:=v) (sum:=sum) (fG:=fG) l (vL c v sum fG q n)
    have key:(vL c v sum fG q n).2=q.2/\∀ z,fI z (vL c v sum fG q n).1=fI z q.1:=by
      rw [h] at hm
      revert hm
      unfold vL
      split
      · exact λ_=>⟨Y,λ_=>Y⟩
      · rename_i t ht
        intro hm
        cases hk:Sn t.l t.bM c v sum fG with
        | true=>rw [hk] at hm; simp at hm; omega
        | false=>
          obtain⟨e1,e2⟩:=alj (hz _ _ ht).l hk (d:=t.d);refine⟨Y,λz=>?_⟩;rw [e1,e2,yx]; split
          · rename_i he; rw [he,ht]
          · rfl
    have hz2:PW (vL c v sum fG q n).1:=λu t hg=>hz u t (by rw [<- key.2]; exact hg);rw [ahK l hz2 (by rw [h,key.1]) z,key.2]
theorem atC{l0:List aH}(hu:Up aH.ID l0){c v sum:Int}{fG:List (BitVec 8)}(hd:fG.length=4)(hl:∃ x∈l0,x.ID=c/\v<=x.aB/\(v=x.aB->sum=x.Sum)):∀(l:List Int){q:lq × List Int},PW q.1->kB l0 q.1->kE l0 q.1->(∀ z∈q.2,∃ h,fI z q.1=some h/\(⟨c,v,sum,false,false⟩:aI)∈h.l)->
    kB l0 (l.foldl (vL c v sum fG) q).1/\kE l0 (l.foldl (vL c v sum fG) q).1/\(∀ z∈(l.foldl (vL c v sum fG) q).2,∃ h,fI z (l.foldl (vL c v sum fG) q).1=some h/\(⟨c,v,sum,false,false⟩:aI)∈h.l)/\∀ z∈(l.foldl (vL c v sum fG) q).2,z∈q.2∨z∈l
  | [],q,hz,hb,he,ht=>⟨hb,he,ht,λz hz=>.inl hz⟩
  | n::l,q,hz,hb,he,ht=>by
    rw [sK]
    have key:PW (vL c v sum fG q n).1/\kB l0 (vL c v sum fG q n).1/\kE l0 (vL c v sum fG q n).1/\(∀ z∈(vL c v sum fG q n).2,∃ h,fI z (vL c v sum fG q n).1=some h/\(⟨c,v,sum,false,false⟩:aI)∈h.l)/\∀ z∈(vL c v sum fG q n).2,z∈q.2∨z=n:=by
      unfold vL
      split
      · exact⟨hz,hb,he,ht,λz hz=>.inl hz⟩
      · rename_i t hg
        have hbe:=alT hu hz hg hl hb he (fG:=fG);refine⟨hz.put ((hz _ _ hg).take c v sum hd),hbe.1,hbe.2,λz ZK=>?_,λz ZK=>?_⟩
        · cases hk:Sn t.l t.bM c v sum fG with
          | false=>
            obtain⟨e1,e2⟩:=alj (hz _ _ hg).l hk (d:=t.d);have ZK:z∈q.2:=by simpa [hk] using ZK
            obtain⟨h,hg2,h2⟩:=ht z ZK;show ∃ h,fI z (iy n ⟨t.up,t.bM,Ig t.l t.bM c v sum fG,tkD t.l t.bM c v sum fG t.d⟩ q.1)=some h/\_;rw [e1,e2,yx]; split
            · rename_i hzn; subst hzn; rw [hg] at hg2; injection hg2 with hg2; subst hg2; exact⟨_,rfl,h2⟩
            · exact⟨h,hg2,h2⟩
          | true=>
            show ∃ h,fI z (iy n ⟨t.up,t.bM,Ig t.l t.bM c v sum fG,tkD t.l t.bM c v sum fG t.d⟩ q.1)=some h/\_;rw [yx]; split
            · exact⟨_,Y,ahH hz hg hk⟩
            · rename_i hne
              have ZK:z∈q.2++[n]:=by simpa [hk] using ZK
              rcases jN.1 ZK with ZK | ZK
              · exact ht z ZK
              · exact absurd (j4.1 ZK) hne
        · have ZK:z∈(if Sn t.l t.bM c v sum fG=true then q.2++[n] else q.2):=ZK
          split at ZK
          · rcases jN.1 ZK with ZK | ZK
            · exact .inl ZK
            · exact .inr (j4.1 ZK)
          · exact .inl ZK
    obtain⟨k1,k2,k3,k4,k5⟩:=key;obtain⟨r1,r2,r3,r4⟩:=atC hu hd hl l k1 k2 k3 k4;refine⟨r1,r2,r3,λz ZK=>?_⟩
    rcases r4 z ZK with h | h
    · rcases k5 z h with h | rfl
      · exact .inl h
      · exact .inr qF
    · exact .inr (ou _ h)
theorem atD{c:PC}{k:Nat}(H:Inv c k)(K:Keep c)(it:AItem):Keep (rC c it).1:=by
  have hc:=(iU.1 H.hm).2.1;have hu:=wD hc;have hw:=Oa c.m it;have hk:(rO c.m it).Kind=3∨(rO c.m it).Kind=4:=by show(if _ then(4:Int) else 3)=3∨(if _ then(4:Int) else 3)=4; split <;> simp
  unfold rC
  by_cases hp:(dD c.m (rO c.m it)).2<0
  · rw [aO hp]; exact K
  rw [aK hp];have hm2:=Ez H.hm (rO c.m it);have hc2:=(iU.1 hm2).2.1;have hu2:=wD hc2;obtain⟨hN,v,hv,hv1,_,hmem,_,eZ⟩:=aly H.hm hk hw.2.1 hp;have hA:(rO c.m it).A=it.A:=rfl;have hB:(rO c.m it).B=E9 it.A it.B:=rfl;rw [hA,hB] at hmem; rw [hA] at eZ
  have hlt:∀ x∈c.m.aA,x.ID=it.A->x.aB<v:=λx hx he=>by
    rcases eZ with ⟨_,h⟩ | ⟨d,hd,h1,h2⟩
    · exact absurd he (h x hx)
    · have:=uQ hu hx hd (he.trans h1.symm); subst this; omega
  by_cases he:(Ij c it).2=[]
  · rw [aO he]
    have hg:=ahK (c:=it.A) (v:=(dD c.m (rO c.m it)).2) (sum:=E9 it.A it.B) (fG:=nH it.A it.B) (YO c (dD c.m (rO c.m it)).1) (q:=(c.hs,[])) H.hz he;exact⟨K.a,λx hx n hn=>by obtain⟨h,h1,h2⟩:=K.b x hx n hn; exact⟨h,(hg n).trans h1,h2⟩,λz h hz=>K.e z h ((hg z).symm.trans hz),K.t,K.d⟩
  rw [aK he];have hT:Ij c it=(YO c (dD c.m (rO c.m it)).1).foldl (vL it.A v (E9 it.A it.B) (nH it.A it.B)) (c.hs,[]):=by unfold Ij; rw [hv]
  generalize hm':(dD c.m (rO c.m it)).1=m' at *
  rw [hv] at *;have hnew:(⟨it.A,v,E9 it.A it.B,[]⟩:aH)∈m'.aA:=(hmem _).2 (.inl rfl)
  have b2:kB m'.aA c.hs:=λx hx n hn=>by
    rcases(hmem x).1 hx with rfl | ⟨hx,_⟩
    · exact absurd hn av
    · exact K.b x hx n hn
  have e2:kE m'.aA c.hs:=λz h hg y hy=>by
    obtain⟨⟨x,hx,a1,a2,a3⟩,h2⟩:=K.e z h hg y hy;refine⟨?_,h2⟩
    by_cases hxa:x.ID=it.A
    · have:=hlt x hx hxa
      exact⟨_,hnew,hxa.symm.trans a1,by show y.aB<=v; omega,λh=>by have h':y.aB=v:=h; omega⟩
    · exact⟨x,(hmem x).2 (.inr ⟨hx,hxa⟩),a1,a2,a3⟩
  have t2:kT m'.aA c.s.bL c.aN:=λp hp hpu=>by
    obtain⟨x,hx,a1,a2,a3⟩:=K.t p hp hpu
    by_cases hxa:x.ID=it.A
    · have:=hlt x hx hxa
      exact⟨_,hnew,hxa.symm.trans a1,by show p.aB<=v; omega,λ_=>by simp⟩
    · exact⟨x,(hmem x).2 (.inr ⟨hx,hxa⟩),a1,a2,a3⟩
  have d2:kD m'.aA c.eD c.s.bL c.aN:=λp hp hpu=>by
    obtain⟨x,hx,a1,a2,a3⟩:=K.d p hp hpu
    by_cases hxa:x.ID=it.A
    · have:=hlt x hx hxa
      exact⟨_,hnew,hxa.symm.trans a1,by show p.aB<=v; omega,λh=>by have h':p.aB=v:=h; omega⟩
    · exact⟨x,(hmem x).2 (.inr ⟨hx,hxa⟩),a1,a2,a3⟩
  obtain⟨w1,w2,w3,w4⟩:=atC hu2 (c:=it.A) (v:=v) (sum:=E9 it.A it.B) (fG:=nH it.A it.B) rfl ⟨_,hnew,rfl,yV _,λ_=>rfl⟩ (YO c m') (q:=(c.hs,[])) H.hz b2 e2 (λz hz=>absurd hz av);rw [<- hT] at w1 w2 w3 w4
  have hcl:∀ x∈(Ij c it).2.map (λz=>y7 it.A z v),aat (Ij c it).1 c.s.bL c.aN m'.aA x:=λx hx=>by
    obtain⟨z,hz,rfl⟩:=gQ.1 hx;refine⟨Y,.inr (.inr Y),λ_ y hy yi yv=>?_⟩;have:=uQ hu2 hy hnew yi; subst this;obtain⟨h,hg,hin⟩:=w3 z hz;refine⟨⟨h,hg,_,hin,Y,Y,Y⟩,λp hp hpu hpc _ hpv=>?_⟩;obtain⟨x,hx,a1,a2,_⟩:=K.t p hp hpu;have:=hlt x hx (a1.trans hpc);have h':p.aB=v:=hpv;omega
  have hs3:sZ m'.aA (AP m' ((Ij c it).2.map λz=>y7 it.A z v)).aA:=Ip _ hm2 as6;have hbt:=atv _ hm2 hcl w1 t2;refine⟨?_,hbt.1,w2.same hs3,hbt.2,d2.same hs3⟩;show kA (AP m' ((Ij c it).2.map λz=>y7 it.A z v)).aA
  cases hq:(Ij c it).2 with
  | nil=>exact absurd hq he
  | cons z q=>
    rw [nG];show kA (AP (uD m' (y7 it.A z v)) (q.map λz=>y7 it.A z v)).aA;have hz:=w4 z (by rw [hq]; exact qF);have hz:z∈YO c m':=hz.resolve_left av;have hst:kI m'.aT z=true:=(U8 _ _ _ z hz).1
    have h1:kA (uD m' (y7 it.A z v)).aA:=λy hy=>by
      by_cases hya:y.ID=it.A
      · exact⟨z,aBb hm2 (x:=y7 it.A z v) Y Y hst hnew Y Y y hy hya⟩
      · obtain⟨d,hd,f1,_,_,f4⟩:=V8 hm2 (x:=y7 it.A z v) rfl (.inr (.inr rfl)) y hy
        rcases(hmem d).1 hd with rfl | ⟨hd,_⟩
        · exact absurd f1 hya
        · obtain⟨n,hn⟩:=K.a d hd; exact⟨n,f4 n hn⟩
    exact h1.grow (ahF _ (mY hm2 _) (λx hx=>by obtain⟨z,_,rfl⟩:=gQ.1 hx; exact⟨rfl,.inr (.inr rfl)⟩))
theorem atE{l:List aI}{d:qR}(h:∀ y∈eY l,((iM (sU (⟨y.aC,false⟩:bZ) d)).toNat:Int)=y.Sum):aaq l d=(l,d):=by
  unfold aaq
  have:uV (UZ l d)=[]:=by
    unfold uV UZ;rw [List.map_eq_nil_iff,YD];intro p hp;obtain⟨y,hy,rfl⟩:=gQ.1 hp
    simp [h y hy]
  rw [this]; rfl
theorem Uy{c:PC}(K:Keep c){z:Int}{h h2:rG}(hg:fI z c.hs=some h)(hl:h2.l=h.l)(hd:h2.d=h.d):Keep { c with hs:=iy z h2 c.hs }:=
  ⟨K.a,alS hg (λx _ _ hc=>by rw [hl]; exact hc) K.b,ahG (λy hy=>by rw [hl] at hy; rw [hd]; exact K.e z h hg y hy) K.e,K.t,K.d⟩
def Calm(it:AItem):Prop:=it.Kind≠13/\it.Kind≠14
theorem aw3{c:PC}{k:Nat}(H:Inv c k)(K:Keep c){it:AItem}(hn:Calm it)(h0:0<=it.Kind/\it.Kind<=14)(hs:it.Kind≠0/\it.Kind≠1/\it.Kind≠2/\it.Kind≠5/\¬ (it.Kind=6∨it.Kind=7∨it.Kind=8)/\it.Kind≠11){h:rG}(hg:fI it.A c.hs=some h):Keep (U0 c it h).1:=by
  have hO:=(H.hz _ _ hg).l;unfold Calm at hn;unfold U0
  split
  · exact⟨K.a,K.b,K.e,K.t,K.d⟩
  split
  · exact atB H K it hg
  split
  · exact Uy K hg Y Y
  split
  · rw [ahg hO]; exact Uy K hg rfl rfl
  split
  · rw [atE (λy hy=>(K.e _ _ hg y (by rw [hO.rest] at hy; exact hy)).2)]; exact Uy K hg rfl rfl
  split
  · omega
  · omega
theorem aw4{c:PC}{k:Nat}(H:Inv c k)(K:Keep c){it:AItem}(hn:Calm it):Keep (AU c it).1:=by
  have hmay:=iU.1 H.hm;unfold AU
  split
  · split
    · exact K
    · refine⟨K.a,K.b,K.e,λp hp hu=>K.t p hp (by have hu:c.aN+it.A<=p.jS:=hu; omega),λo ho h0=>?_⟩
      obtain⟨x,hx,h1,h2,h3⟩:=K.d o ho h0;refine⟨x,hx,h1,h2,λhv=>?_⟩
      rcases h3 hv with h | h
      · exact .inl (show o.jS<c.aN+it.A by omega)
      · exact .inr h
  split
  · unfold av5
    have hs3:sZ c.m.aA (uD c.m (Ik it)).aA:=Au H.hm rfl (.inl rfl)
    rcases as2 H.hm it with ⟨h0,hch,h2,h3,h4⟩ | ⟨h0,h1⟩
    · rw [aO h0]
      refine⟨by show kA (uD c.m (Ik it)).aA; rw [hch]; exact K.a,?_,?_,by show kT (uD c.m (Ik it)).aA _ _; rw [hch]; exact K.t,K.d.same hs3⟩
      · show kB (uD c.m (Ik it)).aA _
        rw [hch];intro x hx n hn2;obtain⟨nd,hnd,hni,_⟩:=hmay.2.2.2 x hx n hn2;rw [yx,aK (λhe=>h4 nd hnd (hni.trans he))];exact K.b x hx n hn2
      · show kE (uD c.m (Ik it)).aA _
        rw [hch];exact ahG (λy hy=>absurd hy av) K.e
    · rw [aK h0,h1]; exact⟨K.a,K.b,K.e,K.t,K.d⟩
  split
  · have hch:(uD c.m ⟨0,0,2,it.A,it.B,0⟩).aA=c.m.aA:=by
      rcases(BK H.hm (x:=⟨0,0,2,it.A,it.B,0⟩) (by show(2:Int)≠7; decide) rfl).1 with h | ⟨hk',_,_,_⟩ | ⟨c,hk',_,_,_⟩ | ⟨d,H,hk',_,_,_,_,_,_,_,_⟩ | ⟨c,H,hk',_,_,_,_,_,_⟩
      · exact h
      · exact absurd (show(2:Int)=3 from hk') au
      · exact absurd (show(2:Int)=4 from hk') au
      · exact absurd (show(2:Int)=5 from hk') au
      · exact absurd (show(2:Int)=6 from hk') au
    refine⟨?_,?_,?_,?_,?_⟩
    · show kA (uD c.m ⟨0,0,2,it.A,it.B,0⟩).aA; rw [hch]; exact K.a
    · show kB (uD c.m ⟨0,0,2,it.A,it.B,0⟩).aA _; rw [hch]; exact K.b
    · show kE (uD c.m ⟨0,0,2,it.A,it.B,0⟩).aA _; rw [hch]; exact K.e
    · show kT (uD c.m ⟨0,0,2,it.A,it.B,0⟩).aA _ _; rw [hch]; exact K.t
    · show kD (uD c.m ⟨0,0,2,it.A,it.B,0⟩).aA _ _ _; rw [hch]; exact K.d
  split
  · exact atx H K
  split
  · exact atA H K it
  split
  · exact atD H K it
  split
  · exact K
  split
  · exact K
  · rename_i h hg
    split
    · exact K
    · rename_i a0 a1 a2 a5 a6 a11 a14 _ _
      exact aw3 H K hn aj ⟨a0,a1,a2,a5,a6,a11⟩ hg
theorem atF{c:PC}{k:Nat}(H:Inv c k)(K:Keep c){x:aH}(hx:x∈c.m.aA){n:Int}(hn:n∈x.aD):ahs (KF c.hs n) x=true:=by
  obtain⟨h,hg,hc⟩:=K.b x hx n hn;have hO:=(H.hz _ _ hg).l;unfold KF; rw [hg]; show ahs (eY h.l) x=true;rw [hO.rest]; exact(Zj hO).2 hc
theorem ajP{c:PC}{k:Nat}(H:Inv c k)(K:Keep c):GK c=true:=by
  unfold GK; rw [lI];intro x hx;refine ahD (λh0=>?_) (λn hn=>atF H K hx hn);obtain⟨n,hn⟩:=K.a x hx;rw [uE h0] at hn; exact absurd hn av
theorem atG{l:List AItem}:Nj l=true↔∀ x∈l,Calm x:=by
  unfold Nj; rw [lI];refine forall_congr' λx=>forall_congr' λ_=>?_;unfold U6 Calm; simp
end Go.Proofs.YtlhnnmlenkahlaaGreat
