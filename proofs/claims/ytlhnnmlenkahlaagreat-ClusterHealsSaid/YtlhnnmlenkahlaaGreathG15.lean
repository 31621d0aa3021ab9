/- Lemmas. -/
import Derived.Test.YtlhnnmlenkahlaaGreathG14
set_option maxRecDepth 4000
set_option linter.all false
namespace Go.Proofs.YtlhnnmlenkahlaaGreat
open Go.RowKit Go.Proofs.Tryz
section
def hst(hs:kN)(n:Int)(x:aF):Prop:=∃ h,dY n hs=some h/\ag7 h.l x
theorem CZ{hs:kN}{n:Int}{x y:aF}(h1:y.ID=x.ID)(h2:y.aB=x.aB)(h3:y.Sum=x.Sum):hst hs n y↔hst hs n x:=by
  grind [hst,ag7]
theorem yB:∀(l q:List Int),l.Nodup->(∀ x∈l,x∈q)->l.length<=q.length
  | [],_,_,_=>fE _
  | a::l,q,hn,h=>by
    have hn:=EN.1 hn;have ih:=yB l (q.erase a) hn.2 (λx hx=>(List.mem_erase_of_ne (λe=>hn.1 (by rw [<- e]; exact hx))).2 (h x (lS _ hx)))
    grind
theorem RL{α:Type}{key:α->Int}:∀ {l:List α},Up key l->(l.map key).Nodup
  | [],_=>List.nodup_nil
  | a::l,h=>by
    have h1:=nW.1 h;rw [mR,EN];refine⟨λhm=>?_,RL h1.2⟩;obtain⟨b,hb,e⟩:=gB.1 hm;have:=h1.1 b hb; omega
theorem ajh{l q:List aF}(hl:kI l=true)(h:∀ y∈l,∃ z∈q,z.ID=y.ID):l.length<=q.length:=by
  have:=yB (l.map aF.ID) (q.map aF.ID) (RL (nk hl)) (λx hx=>by
    obtain⟨y,hy,rfl⟩:=gB.1 hx;obtain⟨z,hz,e⟩:=h y hy
    exact gB.2 ⟨z,hz,e⟩)
  grind
theorem abe{l q:List aF}(hl:kI l=true)(hq:kI q=true)(h:nI l q):q.length=l.length:=
  Nat.le_antisymm (ajh hq λy hy=>by obtain⟨x,hx,e,_⟩:=h.2 y hy; grind) (ajh hl λy hy=>by obtain⟨x,hx,e,_⟩:=h.1 y hy; grind)
theorem ati{l:List aG}(h:Kz l):(l.map aG.aD).Nodup:=by
  have:Up aG.aD l:=List.Pairwise.imp_of_mem (λ{a b} ha hb hab=>by
    have h1:=h.2 a ha; have h2:=h.2 b hb; grind) h.up
  exact RL this
theorem atj{l:List aG}(h:Kz l){cs:List aF}(he:∀ y∈l,adW cs y):l.length<=cs.length:=by
  have:=yB (l.map aG.aD) (cs.map aF.ID) (ati h) (λx hx=>by
    obtain⟨y,hy,rfl⟩:=gB.1 hx;obtain⟨z,hz,e,_⟩:=he y hy
    exact gB.2 ⟨z,hz,e⟩)
  grind
theorem ahk{m:dh}(hm:mG m=true){x:fH}(hk:x.Kind=3∨x.Kind=4∨x.Kind=5∨x.Kind=6)(h0:x.Client=0):(tY m x).aL=m.aL:=by
  rcases(yL hm aj h0).2 with h | ⟨hk',_,_⟩ | ⟨n0,hk',_,_,_,_,_⟩
  all_goals grind
theorem aji:∀(l:List fH){m:dh},mG m=true->(∀ x∈l,x.Client=0/\(x.Kind=5∨x.Kind=6))->(C9 m l).aL=m.aL
  | [],_,_,_=>rfl
  | x::l,m,hm,hl=>by
    have hx:=hl x oo;exact(aji l (o8 hm x) (λy hy=>hl y (lS _ hy))).trans (ahk hm aj hx.1)
theorem alf{m:dh}(hm:mG m=true){x:fH}(h5:x.Kind=5)(h0:x.Client=0)(hv:∀ c∈m.aA,c.ID=x.A->c.aB=x.C):∀ y∈(tY m x).aA,∃ w∈m.aA,y.ID=w.ID/\y.aB=w.aB/\y.Sum=w.Sum/\∀ n,n∈y.aC↔n∈w.aC∨(w.ID=x.A/\n=x.B/\jv m.aL x.B=true):=by
  intro y hy
  rcases(yL hm aj h0).1 with h | ⟨hk',_,_,_⟩ | ⟨c,hk',_,_,_⟩ | ⟨c,H,hk',hc,hi,_,hs,hn,hH,hl,h⟩ | ⟨c,H,hk',_,_,_,_,_,_⟩
  all_goals grind [asW]
structure adY (s:gG) (aJ z:Int) (l:List fH) (ns:List aR) (w y:aF):Prop where
  id:y.ID=w.ID
  ver:y.aB=w.aB
  sum:y.Sum=w.Sum
  ne:∀ n,n≠z->(n∈y.aC↔n∈w.aC)
  inn:z∈y.aC->z∈w.aC∨∃ x∈l,x.Kind=5/\x.A=w.ID/\vW s aJ w.ID z=false
  out:(∃ x∈l,x.Kind=6/\x.A=w.ID)->(∀ x∈l,x.A=w.ID->x.Kind=6)->z∉y.aC
  stay:z∈w.aC->(∀ x∈l,x.A=w.ID->x.Kind=5)->z∈y.aC
  add:(∃ x∈l,x.Kind=5/\x.A=w.ID)->(∀ x∈l,x.A=w.ID->x.Kind=5)->vW s aJ w.ID z=false->jv ns z=true->z∈y.aC
theorem adY.nil{s:gG}{aJ z:Int}{ns:List aR}(w:aF):adY s aJ z [] ns w w:=
  ⟨rfl,rfl,rfl,av,.inl,av,λh _=>h,av⟩
theorem adY.cons{s:gG}{aJ z:Int}{ns:List aR}{x:fH}{l:List fH}{w y1 y:aF}(h1:adY s aJ z [x] ns w y1)(h2:adY s aJ z l ns y1 y):adY s aJ z (x::l) ns w y:=by
  have a2:=fun(P:fH->Prop)=>(wC (p:=P) (a:=x) (l:=l)).1;refine⟨h2.id.trans h1.id,h2.ver.trans h1.ver,h2.sum.trans h1.sum,λn hn=>(h2.ne n hn).trans (h1.ne n hn),λh=>?_,fun⟨u,hu,k6,hA⟩ hall=>?_,λh hall=>?_,fun⟨u,hu,k5,hA⟩ hall ht hs=>?_⟩
  · rcases h2.inn h with h | ⟨u,hu,k,a,t⟩
    · rcases h1.inn h with h | ⟨u,hu,k,a,t⟩
      · exact .inl h
      · exact .inr ⟨u,by rw [oG.1 hu]; exact oo,k,a,t⟩
    · rw [h1.id] at a t; exact .inr ⟨u,lS _ hu,k,a,t⟩
  · by_cases hl:∃ u∈l,u.Kind=6/\u.A=w.ID
    · obtain⟨v,hv,b1,b2⟩:=hl
      exact h2.out ⟨v,hv,b1,b2.trans h1.id.symm⟩ (λt ht e=>hall t (lS _ ht) (e.trans h1.id))
    · rcases iR.1 hu with rfl | hu
      · intro hy
        rcases h2.inn hy with h | ⟨t,ht,k,a,_⟩
        · exact h1.out ⟨u,List.mem_singleton.2 Y,k6,hA⟩ (λt ht _=>by rw [oG.1 ht]; exact k6) h
        · have:=hall t (lS _ ht) (a.trans h1.id); omega
      · exact absurd ⟨u,hu,k6,hA⟩ hl
  · exact h2.stay (h1.stay h λt ht e=>hall t (by rw [oG.1 ht]; exact oo) e) (λt ht e=>hall t (lS _ ht) (e.trans h1.id))
  · have hr:∀ t∈l,t.A=y1.ID->t.Kind=5:=λt ht e=>hall t (lS _ ht) (e.trans h1.id)
    rcases iR.1 hu with rfl | hu
    · exact h2.stay (h1.add ⟨u,List.mem_singleton.2 Y,k5,hA⟩ (λt ht _=>by rw [oG.1 ht]; exact k5) ht hs) hr
    · exact h2.add ⟨u,hu,k5,hA.trans h1.id.symm⟩ hr (by rw [h1.id]; exact ht) hs
theorem atl{s:gG}{aJ z:Int}{m:dh}{x:fH}(hm:mG m=true)(h0:x.Client=0)(hB:x.B=z)(hk:x.Kind=6∨(x.Kind=5/\∀ c∈m.aA,c.ID=x.A->c.aB=x.C)) :
    (Hz s aJ z m x).aL=m.aL/\mG (Hz s aJ z m x)=true/\∀ y∈(Hz s aJ z m x).aA,∃ w∈m.aA,adY s aJ z [x] m.aL w y:=by
  have one:∀ {P:fH->Prop},P x->∀ t∈[x],P t:=by simp
  unfold Hz
  by_cases hc:(!decide (x.Kind=5)||!vW s aJ x.A z)=true
  · rw [aS hc]
    refine⟨by grind [ahk],o8 hm x,λy hy=>?_⟩
    rcases hk with h6 | ⟨h5,hv⟩
    · obtain⟨w,hw,e1,e2,e3,e4⟩:=aha hm h6 h0 y hy
      refine⟨w,hw,e1,e2,e3,by grind,by grind,λ_ hall h=>?_,λh hall=>?_,fun⟨u,hu,k5,_⟩=>?_⟩
      all_goals grind
    · obtain⟨w,hw,e1,e2,e3,e4⟩:=alf hm h5 h0 hv y hy
      have ht:vW s aJ x.A z=false:=by grind
      refine⟨w,hw,e1,e2,e3,by grind,λh=>?_,fun⟨u,hu,k6,_⟩=>?_,by grind,fun⟨u,hu,_,hA⟩ _ _ hs=>?_⟩
      all_goals grind
  · rw [aP hc]
    have hc:x.Kind=5/\vW s aJ x.A z=true:=by grind
    refine⟨Y,hm,λy hy=>⟨y,hy,Y,Y,Y,av,.inl,fun⟨u,hu,k6,_⟩=>?_,λh _=>h,fun⟨u,hu,_,hA⟩ _ ht=>?_⟩⟩
    all_goals grind
theorem alg{s:gG}{aJ z:Int}:∀(l:List fH){m:dh},mG m=true->(∀ x∈l,x.Client=0/\x.B=z/\(x.Kind=6∨(x.Kind=5/\∀ c∈m.aA,c.ID=x.A->c.aB=x.C)))->
    (lU s aJ z m l).aL=m.aL/\∀ y∈(lU s aJ z m l).aA,∃ w∈m.aA,adY s aJ z l m.aL w y
  | [],m,_,_=>⟨rfl,λy hy=>⟨y,hy,adY.nil y⟩⟩
  | x::l,m,hm,hl=>by
    have hx:=hl x oo;obtain⟨n1,m1,e1⟩:=atl (s:=s) (aJ:=aJ) (z:=z) hm hx.1 hx.2.1 hx.2.2
    obtain⟨n2,e2⟩:=alg (s:=s) (aJ:=aJ) (z:=z) l m1 (λu hu=>by
      have h:=hl u (lS _ hu);refine⟨h.1,h.2.1,h.2.2.imp id λh=>⟨h.1,λc hc hi=>?_⟩⟩;obtain⟨w,hw,e⟩:=e1 c hc
      rw [e.ver]; exact h.2 w hw (e.id.symm.trans hi))
    refine⟨n2.trans n1,λy hy=>?_⟩;obtain⟨y1,hy1,e⟩:=e2 y hy;obtain⟨w,hw,f⟩:=e1 y1 hy1;rw [n1] at e;exact⟨w,hw,f.cons e⟩
theorem atm{cs:List aF}(hm:kI cs=true){n:Int}(hz:1<=n/\n<=16){l:List aG}{w:aF}(hw:w∈cs) :
    (Ia l w=true->n∉w.aC->(⟨0,0,5,w.ID,n,w.aB⟩:fH)∈j5 cs n l)/\(Ia l w=false->n∈w.aC->(⟨0,0,6,w.ID,n,0⟩:fH)∈j5 cs n l):=by
  grind [recC,j5,Ia]
structure aKq (s:gG) (aJ z:Int) (rl:List aG) (ns:List aR) (w y:aF):Prop where
  id:y.ID=w.ID
  ver:y.aB=w.aB
  sum:y.Sum=w.Sum
  ne:∀ n,n≠z->(n∈y.aC↔n∈w.aC)
  no:Ia rl w=false->z∉y.aC
  st:Ia rl w=true->z∈w.aC->z∈y.aC
  inn:z∈y.aC->z∈w.aC∨(Ia rl w=true/\vW s aJ w.ID z=false)
  add:Ia rl w=true->vW s aJ w.ID z=false->jv ns z=true->z∈y.aC
theorem awI{m:dh}(hm:mG m=true){z:Int}(hz:1<=z/\z<=16){s:gG}{aJ:Int}(rl:List aG) :
    (lU s aJ z m (j5 m.aA z rl)).aL=m.aL/\∀ y∈(lU s aJ z m (j5 m.aA z rl)).aA,∃ w∈m.aA,aKq s aJ z rl m.aL w y:=by
  have hc:=(dV.1 hm).2.1;have hu:=nk hc
  obtain⟨hn,he⟩:=alg (s:=s) (aJ:=aJ) (z:=z) (j5 m.aA z rl) hm (λx hx=>by
    obtain⟨h1,h2,h3⟩:=Uf x hx;refine⟨h2,h1,?_⟩
    rcases h3 with ⟨h5,c,hc',hA,hC,_⟩ | ⟨h6,_⟩
    · exact .inr ⟨h5,λd hd hi=>by have:=mQ hu hd hc' (hi.trans hA); subst this; exact hC.symm⟩
    · exact .inl h6)
  refine⟨hn,λy hy=>?_⟩;obtain⟨w,hw,e⟩:=he y hy
  have k5:∀ x∈j5 m.aA z rl,x.A=w.ID->x.Kind=5->Ia rl w=true:=λx hx hA h5=>by
    rcases(Uf x hx).2.2 with ⟨_,c,hc',hA',_,hR⟩ | ⟨h6,_⟩
    · have:=mQ hu hw hc' (hA.symm.trans hA'); subst this; exact hR
    · omega
  have k6:∀ x∈j5 m.aA z rl,x.A=w.ID->x.Kind=6->Ia rl w=false:=λx hx hA h6=>by
    rcases(Uf x hx).2.2 with ⟨h5,_⟩ | ⟨_,c,hc',hA',hR,_⟩
    · omega
    · have:=mQ hu hw hc' (hA.symm.trans hA'); subst this; exact hR
  have kk:∀ x∈j5 m.aA z rl,x.Kind=5∨x.Kind=6:=λx hx=>(Uf x hx).2.2.imp (λh=>h.1) (λh=>h.1);have aBd:Ia rl w=true->∀ x∈j5 m.aA z rl,x.A=w.ID->x.Kind=5:=λhR x hx hA=>(kk x hx).elim id λh=>by rw [k6 x hx hA h] at hR; exact absurd hR au
  have aKr:Ia rl w=false->∀ x∈j5 m.aA z rl,x.A=w.ID->x.Kind=6:=λhR x hx hA=>(kk x hx).elim (λh=>by rw [k5 x hx hA h] at hR; exact absurd hR au) id;refine⟨w,hw,e.id,e.ver,e.sum,e.ne,λhR hy=>?_,λhR h=>e.stay h (aBd hR),λh=>?_,λhR ht hs=>?_⟩
  · by_cases hz':z∈w.aC
    · exact e.out ⟨_,(atm hc hz hw).2 hR hz',Y,Y⟩ (aKr hR) hy
    · rcases e.inn hy with h | ⟨x,hx,h5,hA,_⟩
      · exact hz' h
      · rw [k5 x hx hA h5] at hR; exact absurd hR au
  · rcases e.inn h with h | ⟨x,hx,h5,hA,ht⟩
    · exact .inl h
    · exact .inr ⟨k5 x hx hA h5,ht⟩
  · by_cases hz':z∈w.aC
    · exact e.stay hz' (aBd hR)
    · exact e.add ⟨_,(atm hc hz hw).1 hR hz',Y,Y⟩ (aBd hR) ht hs
structure aGN (c:PC) (ids:List Int) (c1:PC):Prop where
  hs:c1.hs=c.hs
  s:c1.s=c.s
  aJ:c1.aJ=c.aJ
  r:c1.r=c.r
  ns:c1.m.aL=c.m.aL
  s3:nI c.m.aA c1.m.aA
  ch:∀ y∈c1.m.aA,∃ w∈c.m.aA,y.ID=w.ID/\y.aB=w.aB/\y.Sum=w.Sum/\
    (∀ n∈ids,n∈y.aC->hst c.hs n w)/\
    (∀ n,n∈w.aC->(n∈ids->hst c.hs n w)->n∈y.aC)/\
    (∀ n,n∈y.aC->n∈w.aC∨(hst c.hs n w/\vW c.s c.aJ w.ID n=false))/\
    (∀ n∈ids,hst c.hs n w->vW c.s c.aJ w.ID n=false->jv c.m.aL n=true->n∈y.aC)
  bR:∃ S,c1.bR=c.bR++S/\S.length<=c.m.aA.length*ids.length/\∀ o∈S,o.Kind=1/\o.ji=c.aJ+c.r.iD/\o.To∈ids/\∃ x∈c.m.aA,x.ID=o.aD/\o.aB<x.aB
theorem adZ{c:PC}{k z:Int}(hk:k=3∨k=4∨k=9∨k=10∨k=12):oC c ⟨k,z,0,0⟩=match dY z c.hs with | none=>(c,5) | some h=>if uZ k=some (!h.up) then(c,8) else J6 c ⟨k,z,0,0⟩ h:=by
  unfold oC;rw [aP (by grind),aP (by grind),aP (by grind),aP (by grind),aP (by grind),aP (by grind),aP (by grind)]
  rfl
theorem ax0{c:PC}{k z:Int}{h:oZ}(hk:k=3∨k=4∨k=9∨k=12)(hg:dY z c.hs=some h)(hu:h.up=true):oC c ⟨k,z,0,0⟩=J6 c ⟨k,z,0,0⟩ h:=by
  rw [adZ aj,hg]
  grind [uZ]
theorem aBe{c:PC}{z:Int}{h:oZ}(hg:dY z c.hs=some h)(hu:h.up=true):oC c ⟨4,z,0,0⟩=(LY c ⟨4,z,0,0⟩ h,0):=by
  rw [ax0 au hg hu];unfold J6; rw [aP (by show ¬ (4:Int)=3; decide),aS rfl]
theorem alh:∀(ids:List Int){c:PC}{k:Nat},Inv c k->(∀ z∈ids,(1<=z/\z<=16)/\wL c.hs z=true)->(∀ z h,dY z c.hs=some h->∀ y∈h.l,adW c.m.aA y)->aGN c ids (xK 4 ids c)
  | [],c,k,H,_,_=>⟨rfl,rfl,rfl,rfl,rfl,nI.rfl' _,λy hy=>⟨y,hy,rfl,rfl,rfl,λn hn=>absurd hn av,λn h _=>h,λn h=>.inl h,λn hn=>absurd hn av⟩,[],by show c.bR=_; simp,av,λo ho=>absurd ho av⟩
  | z::ids,c,k,H,hid,hE=>by
    obtain⟨hz,hup⟩:=hid z oo;obtain⟨h,hg,hu⟩:=O7 hup;have hO:=(H.hz _ _ hg).l;have hinv:=xJ H ⟨4,z,0,0⟩;have e:(oC c ⟨4,z,0,0⟩).1=LY c ⟨4,z,0,0⟩ h:=by grind [aBe]
    rw [e] at hinv;have hall:xK 4 (z::ids) c=xK 4 ids (LY c ⟨4,z,0,0⟩ h):=by grind [xK,oC]
    rw [hall];obtain⟨hns,hch⟩:=awI H.hm hz (s:=c.s) (aJ:=c.aJ) (dK h.l);have hs3:nI c.m.aA (LY c ⟨4,z,0,0⟩ h).m.aA:=E9 _ H.hm adP;have hlen:(LY c ⟨4,z,0,0⟩ h).m.aA.length=c.m.aA.length:=abe (dV.1 H.hm).2.1 (dV.1 hinv.hm).2.1 hs3;have ih:=alh ids hinv (λn hn=>hid n (lS _ hn)) (λz' h' hg' y hy=>(hE z' h' hg' y hy).same hs3)
    generalize hc1:xK 4 ids (LY c ⟨4,z,0,0⟩ h)=c1 at *
    have aKs:(LY c ⟨4,z,0,0⟩ h).m.aL=c.m.aL:=hns;obtain⟨S,hS1,hS2,hS3⟩:=ih.bR;refine⟨ih.hs,ih.s,ih.aJ,ih.r,ih.ns.trans aKs,hs3.trans ih.s3,λy hy=>?_,?_⟩
    · obtain⟨w',hw',a1,a2,a3,i1,i2,i3,i4⟩:=ih.ch y hy
      obtain⟨w,hw,E⟩:=hch w' hw';have hst':∀ n,hst c.hs n w'↔hst c.hs n w:=λn=>CZ E.id E.ver E.sum
      have hR:Ia (dK h.l) w=true↔hst c.hs z w:=by
        rw [hO.rest,RI hO];exact⟨λhc=>⟨h,hg,hc⟩,fun⟨h',hg',hc⟩=>by rw [hg] at hg'; injection hg' with hg'; subst hg'; exact hc⟩
      have aOX:∀ n,hst (LY c ⟨4,z,0,0⟩ h).hs n w'↔hst c.hs n w:=hst';have aOY:∀ n,vW (LY c ⟨4,z,0,0⟩ h).s (LY c ⟨4,z,0,0⟩ h).aJ w'.ID n=vW c.s c.aJ w.ID n:=λn=>by rw [E.id]; rfl
      refine⟨w,hw,a1.trans E.id,a2.trans E.ver,a3.trans E.sum,λn hn hy=>?_,λn hn hh=>?_,λn hn=>?_,λn hn hh ht hs=>?_⟩
      · by_cases hni:n∈ids
        · grind
        · have hnz:n=z:=by grind
          rcases i3 n hy with h1 | ⟨h1,_⟩
          · rw [hnz] at h1 ⊢
            refine hR.1 (Bool.not_eq_false _ |>.mp λhf=>E.no hf h1)
          grind
      · refine i2 n ?_ (by grind)
        by_cases hnz:n=z
        · rw [hnz] at hn hh ⊢
          exact E.st (by grind) hn
        · exact(E.ne n hnz).2 hn
      · rcases i3 n hn with h1 | ⟨h1,h2⟩
        · by_cases hnz:n=z
          · rw [hnz] at h1 ⊢
            rcases E.inn h1 with h1 | ⟨h1,h2⟩
            all_goals grind
          · exact .inl ((E.ne n hnz).1 h1)
        grind
      · by_cases hni:n∈ids
        · grind
        · have hnz:n=z:=by grind
          rw [hnz] at hh ht hs ⊢;refine i2 z (E.add (hR.2 hh) ht hs) (by grind)
    · have hrn:(LY c ⟨4,z,0,0⟩ h).bR=c.bR++vD (dK h.l) (lT (lU c.s c.aJ z c.m (j5 c.m.aA z (dK h.l))).aA (dK h.l)) z (c.aJ+c.r.iD):=rfl
      refine⟨vD (dK h.l) (lT (lU c.s c.aJ z c.m (j5 c.m.aA z (dK h.l))).aA (dK h.l)) z (c.aJ+c.r.iD)++S,by rw [hS1,hrn,pE],?_,λo ho=>?_⟩
      · have h1:(vD (dK h.l) (lT (lU c.s c.aJ z c.m (j5 c.m.aA z (dK h.l))).aA (dK h.l)) z (c.aJ+c.r.iD)).length<=h.l.length:=by grind [vD,List.length_map,Nat.le_trans,List.length_filter_le,Ee]
        have h2:=atj hO (hE _ _ hg)
        grind [Nat.mul_succ]
      · rcases kX.1 ho with ho | ho
        · unfold vD at ho
          obtain⟨y,hy,rfl⟩:=gB.1 ho;have hy:=jV.1 hy;have hyl:y∈h.l:=by have:=hy.1; rwa [hO.rest] at this
          have hys:y.aD∈lT (lU c.s c.aJ z c.m (j5 c.m.aA z (dK h.l))).aA h.l:=by have:=nR.1 hy.2; rw [hO.rest] at this ⊢; exact this
          obtain⟨x,hx,e1,e2⟩:=aa9 (dV.1 (HY H.hm _)).2.1 hO (λy hy=>(hE _ _ hg y hy).same hs3) hyl hys;obtain⟨x0,hx0,b1,b2,b3⟩:=hs3.2 x hx
          grind
        · obtain⟨b1,b2,b3,x,hx,b4,b5⟩:=hS3 o ho
          obtain⟨x0,hx0,d1,d2,d3⟩:=hs3.2 x hx;exact⟨b1,b2,lS _ b3,x0,hx0,d1.symm.trans b4,aj⟩
theorem aBf{c:PC}{k:Nat}(H:Inv c k)(it:AItem):∀ y∈c.m.aA,∃ z∈(oC c it).1.m.aA,z.ID=y.ID:=by
  by_cases h11:it.Kind=11
  · have e:oC c it=sF c it:=by grind [oC]
    rw [e]; unfold sF; intro y hy
    split
    · grind
    rename_i hp
    split
    · grind
    · show ∃ z∈(C9 (eH c.m (vY c.m it)).1 _).aA,z.ID=y.ID
      rw [ai7 hp];have hk:=Ub c.m it;obtain⟨z,hz,h1⟩:=asQ H.hm hk.1 hk.2.1 y hy;obtain⟨u,hu,h2⟩:=adU ((Jt c it).2.map λz=>vX it.A z (eH c.m (vY c.m it)).2) (o8 H.hm _) av z hz
      grind
  · intro y hy
    obtain⟨z,hz,e,_⟩:=(ag0 H it h11).1 y hy
    grind
theorem an0{c:PC}{k:Nat}(H:Inv c k)(it:AItem):c.m.aA.length<=(oC c it).1.m.aA.length:=ajh (dV.1 H.hm).2.1 (aBf H it)
theorem an1{c:PC}{k:Nat}(H:Inv c k)(it:AItem)(h11:it.Kind≠11):(oC c it).1.m.aA.length=c.m.aA.length:=
  abe (dV.1 H.hm).2.1 (dV.1 (xJ H it).hm).2.1 (ag0 H it h11)
def Zf(o:aK):bf:=⟨o.aD,o.aB,o.jM,o.To,o.ji⟩
theorem Zg{x:Gv}{c d:aF}{h:Int}:∀(f:Nat)(l:List bf)(o:List aK),∃ q,(Kt x c d h f (l,o)).2=o++q/\(Kt x c d h f (l,o)).1=l++q.map Zf/\∀ p∈q,p.Kind=0/\p.ji=x.u
  | 0,l,o=>⟨[],by show o=_; simp,by show l=_; simp,λp hp=>absurd hp av⟩
  | f+1,l,o=>by
    unfold Kt
    split
    · rename_i hc
      have hg:Du l x.dD x.all c (uw x d l) (yF (rZ x c l)) x.u=true:=by
        have:=hc.2; unfold wH at this; simp only [bK] at this; exact this.2
      have e1:yc l x.dD x.all c (uw x d l) (yF (rZ x c l)) x.u=l++[Ae c (uw x d l) (yF (rZ x c l)) x.u]:=aS hg;have e2:xw l o x.dD x.all c (uw x d l) (yF (rZ x c l)) x.u=o++[DR c (uw x d l) (yF (rZ x c l)) x.u]:=aS hg;obtain⟨q,h1,h2,h3⟩:=Zg (x:=x) (c:=c) (d:=d) (h:=h) f (yc l x.dD x.all c (uw x d l) (yF (rZ x c l)) x.u) (xw l o x.dD x.all c (uw x d l) (yF (rZ x c l)) x.u);refine⟨DR c (uw x d l) (yF (rZ x c l)) x.u::q,?_,?_,?_⟩
      · rw [h1,e2,pE]; rfl
      · rw [h2,e1,pE]; rfl
      · intro p hp
        rcases iR.1 hp with rfl | hp
        · exact⟨Y,Y⟩
        · exact h3 p hp
    · exact⟨[],by show o=_; simp,by show l=_; simp,λp hp=>absurd hp av⟩
theorem MH{x:Gv}:∀(M:List eG)(s:List bf × List aK),∃ q,(qz x M s).2=s.2++q/\(qz x M s).1=s.1++q.map Zf/\∀ p∈q,p.Kind=0/\p.ji=x.u
  | [],s=>⟨[],by show s.2=_; simp,by show s.1=_; simp,λp hp=>absurd hp av⟩
  | n::M,s=>by
    obtain⟨q1,a1,a2,a3⟩:=Zg (x:=x) (c:=aU x.ks n.aD) (d:=aU x.dF n.aD) (h:=n.Have) 100 s.1 s.2;obtain⟨q2,b1,b2,b3⟩:=MH (x:=x) M (Jb x s n);refine⟨q1++q2,?_,?_,λp hp=>?_⟩
    · show(qz x M (Jb x s n)).2=_
      rw [b1,show(Jb x s n).2=s.2++q1 from a1,pE]
    · show(qz x M (Jb x s n)).1=_
      rw [b2,show(Jb x s n).1=s.1++q1.map Zf from a2,pE,tu]
    · rcases kX.1 hp with hp | hp
      · exact a3 p hp
      · exact b3 p hp
theorem Uk{m:dh}{s:gG}{r:ARules}{aJ:Int}(hl:s.bI.length<=64):(qb m s r aJ).length<=64+m.aA.length:=by
  unfold qb; split
  · rename_i hb
    have hm:l5 r=true/\kI m.aA=true:=by grind [rdB]
    have h1:=QB (x:=Dv m s r aJ) (oq hm.1).2.2.2.1.2 (RP m s r aJ) ((fq s aJ).bI,[]) (by grind [Ed]);have h2:(tO m s r aJ).1.length<=64:=h1.1;have h3:(tO m s r aJ).2.length+(fq s aJ).bI.length=0+(tO m s r aJ).1.length:=h1.2;have h4:(uy m s r aJ).length<=(EJ m s aJ).length:=G7 _ _ _ _ _ _ _;have h5:(EJ m s aJ).length=m.aA.length:=BM _ _
    grind [rdO,rdQ,Qw,xw]
  · simp
theorem aBg{c:PC}{k:Nat}(H:Inv c k)(it:AItem):(oC c it).1.bR.length<=c.bR.length+(64+c.m.aA.length):=by
  unfold oC
  split
  · grind
  split
  · show c.bR.length<=_; omega
  split
  · simp
  split
  · have:=Uk (m:=c.m) (r:=c.r) (aJ:=c.aJ) H.Mc
    show(c.bR++qb _ _ _ _).length<=_
    grind
  split
  · grind [lC,List.length_append,List.length_singleton,List.length_take,List.length_drop,Fe]
  split
  all_goals grind [sF,J6,LY,ak2]
theorem ali{r:ARules}(hr:l5 r=true)(l:List AItem):∀ k,k<=l.length->(Dj (KC r) (l.take k)).bR.length<=k*(64+(Dj (KC r) (l.take k)).m.aA.length)
  | 0,_=>by rw [X7]; exact fE _
  | k+1,hk=>by
    have ih:=ali hr l k aj;have H:=RD hr (l:=l) (k:=k) aj;obtain⟨x,hx⟩:∃ x,l[k]? = some x:=⟨_,Ij aj⟩;rw [fC hx,Ud];have h1:=aBg H x;have h2:=an0 H x;have h3:k*(64+(Dj (KC r) (l.take k)).m.aA.length)<=k*(64+(oC (Dj (KC r) (l.take k)) x).1.m.aA.length):=Nat.mul_le_mul_left _ aj;rw [Nat.succ_mul]; omega
theorem Ws(hs:kN)(z z2:Int)(h:oZ):wL (gK z h hs) z2=if z2=z then h.up else wL hs z2:=by
  unfold wL; grind [oN]
theorem ad1{hs:kN}{z:Int}{h h0:oZ}(hg:dY z hs=some h0)(hu:h.up=h0.up∨h.up=true){z2:Int}(h2:wL hs z2=true):wL (gK z h hs) z2=true:=by
  grind [wL,Ws]
theorem aBh{c:PC}(o:aK){z:Int}(h:wL c.hs z=true):wL (kU c o).hs z=true:=by
  grind [kU,ad1]
theorem aBi{c:PC}(o:aK){z:Int}(h:wL c.hs z=true):wL (og c o).hs z=true:=by
  grind [og,aBh,ad1]
def U3(it:AItem):Prop:=(it.Kind=0/\0<=it.A)∨it.Kind=3∨it.Kind=4∨it.Kind=5∨it.Kind=6∨it.Kind=7∨it.Kind=10∨it.Kind=12
theorem aGO{c:PC}{it:AItem}(hk:U3 it){z:Int}(h:wL c.hs z=true):wL (oC c it).1.hs z=true:=by
  unfold U3 at hk;unfold oC
  split
  · grind
  split
  · omega
  split
  · exact h
  split
  · exact h
  split
  · grind [lC,wL,aBi]
  split
  · omega
  split
  · exact h
  split
  · exact h
  rename_i t ht
  split
  · exact h
  unfold J6
  split
  · exact h
  split
  · exact h
  grind [ad1]
theorem aBj{c:PC}{k:Nat}(H:Inv c k)(o:aK):(kU c o).m.aL=c.m.aL:=by
  unfold kU; split
  · rfl
  split
  · rfl
  split
  · rfl
  split
  · rfl
  split
  · rfl
  · exact ahk H.hm av Y
theorem aBk{c:PC}{k:Nat}(H:Inv c k)(o:aK):(og c o).m.aL=c.m.aL:=by
  grind [og,aBj]
theorem alj{m:dh}{s:gG}{r:ARules}{aJ:Int}:∀ x∈mX m s r aJ,x.Client=0/\(x.Kind=5∨x.Kind=6):=by grind [O9]
theorem ad2{s:gG}{aJ z:Int}:∀(l:List fH){m:dh},mG m=true->(∀ x∈l,x.Client=0/\(x.Kind=5∨x.Kind=6))->(lU s aJ z m l).aL=m.aL
  | [],_,_,_=>rfl
  | x::l,m,hm,hl=>by
    have hx:=hl x oo;show(lU s aJ z (Hz s aJ z m x) l).aL=_;unfold Hz; split
    · exact(ad2 l (o8 hm x) (λy hy=>hl y (lS _ hy))).trans (ahk hm aj hx.1)
    · exact ad2 l hm (λy hy=>hl y (lS _ hy))
theorem aGP{c:PC}{k:Nat}(H:Inv c k){it:AItem}(h1:it.Kind≠1)(h2:it.Kind≠2)(h11:it.Kind≠11):(oC c it).1.m.aL=c.m.aL:=by
  unfold oC
  split
  · grind
  split
  · exact aji _ H.hm alj
  split
  · unfold lC
    split
    · rfl
    split
    · rfl
    split
    · rfl
    · show(if _ then _ else _:PC).m.aL=_
      split
      · exact aBk (c:={ c with bR:=c.bR.take it.A.toNat++c.bR.drop (it.A.toNat+1) }) (k:=k) (Nw H (by have:=H.hw; grind)) _
      · rfl
  split
  · rfl
  split
  · rfl
  split
  · rfl
  unfold J6
  split
  · rfl
  split
  · exact ad2 _ H.hm (λx hx=>by have h:=Uf x hx; grind)
  grind
structure Un (c:PC):Prop where
  l:∀ x∈c.s.bI,x.ji<=c.aJ+c.r.iD
  d:∀ o∈c.s.bA,o.ji<=c.aJ+c.r.iD
theorem an2{m:dh}{s:gG}{r:ARules}{aJ:Int}:(∀ x∈(jr m s r aJ).bI,x∈s.bI∨x.ji=aJ+r.iD)/\∀ o∈(jr m s r aJ).bA,o∈s.bA∨o.ji=aJ+r.iD:=by
  unfold jr; split
  · obtain⟨q,h1,h2,h3⟩:=MH (x:=Dv m s r aJ) (RP m s r aJ) ((fq s aJ).bI,[])
    have hR:∀ x∈(tO m s r aJ).1,x∈s.bI∨x.ji=aJ+r.iD:=λx hx=>by
      rw [show(tO m s r aJ).1=_ from h2] at hx
      rcases kX.1 hx with hx | hx
      · exact .inl (jV.1 hx).1
      · obtain⟨p,hp,rfl⟩:=gB.1 hx
        exact .inr (h3 p hp).2
    refine⟨λx hx=>?_,λo ho=>?_⟩
    · have hx:x∈rdL m s r aJ:=hx
      unfold rdL at hx
      split at hx
      · unfold Qv at hx
        split at hx
        · unfold yc at hx
          grind
        grind
      grind
    grind [vE,Fa]
  grind
theorem aBl{c:PC}(U:Un c)(o:aK):Un (kU c o):=by
  unfold kU; split
  · exact U
  split
  · exact U
  split
  · exact U
  split
  · exact U
  split
  · exact⟨U.l,U.d⟩
  · refine⟨λx hx=>?_,U.d⟩
    have hx:x∈(if _ then _ else _:List bf):=hx
    split at hx
    · exact U.l x (by grind [aa7])
    · exact U.l x hx
theorem aBm{c:PC}(U:Un c)(o:aK):Un (og c o):=by
  unfold og; split
  · exact aBl U o
  split
  · exact U
  split
  · exact⟨U.l,U.d⟩
  grind
theorem ax1{c:PC}(U:Un c)(it:AItem):Un (oC c it).1:=by
  unfold oC
  split
  · split
    · exact U
    · rename_i h
      exact⟨λx hx=>by have:=U.l x hx; grind,λo ho=>by have:=U.d o ho; grind⟩
  split
  · exact⟨U.l,U.d⟩
  split
  · exact⟨U.l,U.d⟩
  split
  · have h:=an2 (m:=c.m) (s:=c.s) (r:=c.r) (aJ:=c.aJ)
    refine⟨λx hx=>?_,λo ho=>?_⟩
    · rcases h.1 x hx with h | h
      · exact U.l x h
      · exact Int.le_of_eq h
    · rcases h.2 o ho with h | h
      · exact U.d o h
      · exact Int.le_of_eq h
  split
  · unfold lC
    split
    · exact U
    split
    · exact U
    split
    · exact⟨U.l,U.d⟩
    · show Un (if _ then _ else _:PC)
      split
      · exact aBm (c:={ c with bR:=c.bR.take it.A.toNat++c.bR.drop (it.A.toNat+1) }) ⟨U.l,U.d⟩ _
      · exact⟨U.l,U.d⟩
  split
  · unfold sF
    split
    · exact U
    split <;> exact⟨U.l,U.d⟩
  split
  · exact U
  split
  · exact U
  split
  · exact U
  unfold J6
  split
  · exact⟨U.l,U.d⟩
  split
  · exact⟨U.l,U.d⟩
  split
  · exact⟨U.l,U.d⟩
  split
  · exact⟨U.l,U.d⟩
  split
  · exact⟨U.l,U.d⟩
  split <;> exact⟨U.l,U.d⟩
theorem atn:∀(l:List AItem){c:PC},Un c->Un (Dj c l)
  | [],_,U=>U
  | it::l,_,U=>atn l (ax1 U it)
theorem aKt(r:ARules):Un (KC r):=⟨by simp [absurd,KC],by simp [absurd,KC]⟩
structure Hl (c:PC):Prop where
  inv:∃ k,Inv c k
  k:Keep c
  up:∀ n∈c.m.aL,wL c.hs n.ID=true
  bG:∀ n∈c.m.aL,n.lD=16
  aGR:c.r.jw<=(Dx c.m.aL:Int)
  few:c.m.aA.length<=8
  eO:c.r.iD<=8
  kZ:c.r.eZ=16
  un:Un c
  bt:lZ 0 c.s.cZ=true
theorem U3.calm{it:AItem}(h:U3 it):Calm it:=by grind [U3,Calm]
theorem abf{c:PC}(H:Hl c){it:AItem}(hk:U3 it):Hl (oC c it).1:=by
  obtain⟨k,I⟩:=H.inv;have h9:=hk;unfold U3 at h9;have hn:=aGP I (it:=it) aj aj aj;refine⟨⟨_,xJ I it⟩,ak0 I H.k hk.calm,λn hn'=>?_,?_,?_,?_,?_,?_,ax1 H.un it,ak6 H.bt it⟩
  · rw [hn] at hn'; exact aGO hk (H.up n hn')
  · rw [hn]; exact H.bG
  · rw [hn,agU]; exact H.aGR
  · rw [an1 I it aj]; exact H.few
  · rw [agU]; exact H.eO
  · rw [agU]; exact H.kZ
def Pd(bR:List aK)(x:aF)(n:Int):Prop:=∃ p∈bR,p.Kind≠0/\p.aD=x.ID/\p.To=n/\p.aB=x.aB
def gL(ns:List aR)(x:aF):List Int:=x.aC.filter fun(n:Int)=>Bt ns n
def ax2(c:PC)(o:aK):Prop:=∀ x∈c.m.aA,x.ID=o.aD->o.To∉x.aC/\(hst c.hs o.To x->Pd c.bR x o.To)/\c.r.jw<=((gL c.m.aL x).length:Int)
structure J (T:Int) (c:PC):Prop where
  jl:∀ x∈c.s.bI,x.ji<=T∨∃ p∈c.bR,p.Kind=0/\p.aD=x.aD/\p.To=x.To
  jd:∀ o∈c.s.bA,c.aJ<=o.ji->o.ji<=T∨ax2 c o
def Qh(c:PC):Prop:=∀ n,jv c.m.aL n=true->∀ x∈c.m.aA,hst c.hs n x->n∈x.aC∨Pd c.bR x n
structure PdC (c:PC) (o:aK) (x:aF):Prop where
  xm:x∈c.m.aA
  id:x.ID=o.aD
  ver:o.aB=x.aB
  sum:o.Sum=x.Sum
  fr:o.jM∈x.aC
  fu:wL c.hs o.jM=true
  nV:∃ t,dY o.To c.hs=some t/\t.bG=16/\∀ y∈t.l,y.aD=x.ID->y.aB<x.aB
  st:jv c.m.aL o.To=true
  nt:vW c.s c.aJ o.aD o.To=false
structure ahl (c:PC) (o:aK):Prop where
  up:wL c.hs o.To=true
  tm:c.aJ<=o.ji
  cp:o.Kind=0->∃ x,PdC c o x
def ato(a b:aK):Prop:=¬ (a.Kind=0/\b.Kind=0/\a.aD=b.aD/\a.To=b.To)
theorem MI{l:List Int}(h:l.Pairwise λx y=>x<y):l.Nodup:=h.imp (by grind)
theorem ahm{ns:List aR}{x:aF}(h:oL x=true):(gL ns x).Nodup:=MI ((E5 h).filter _)
theorem D5{ns:List aR}{x y:aF}(hx:oL x=true)(h:∀ n∈x.aC,n∈y.aC):(gL ns x).length<=(gL ns y).length:=
  yB _ _ (ahm hx) λn hn=>by
    have:=jV.1 hn;exact jV.2 (by grind)
structure Dlv (c:PC) (os:List aK) (c1:PC):Prop where
  ns:c1.m.aL=c.m.aL
  aJ:c1.aJ=c.aJ
  r:c1.r=c.r
  dr:c1.s.bA=c.s.bA
  bt:c1.s.cZ=c.s.cZ
  s3:nI c.m.aA c1.m.aA
  ch:∀ y∈c1.m.aA,∃ w∈c.m.aA,y.ID=w.ID/\y.aB=w.aB/\y.Sum=w.Sum/\∀ n,n∈y.aC↔n∈w.aC∨∃ o∈os,o.Kind=0/\o.aD=w.ID/\n=o.To
theorem Dlv.nil(c:PC):Dlv c [] c:=⟨rfl,rfl,rfl,rfl,rfl,nI.rfl' _,by grind⟩
theorem Dlv.cons{c c1 c2:PC}{o:aK}{os:List aK}(h1:Dlv c [o] c1)(h2:Dlv c1 os c2):Dlv c (o::os) c2:=by
  refine⟨h2.ns.trans h1.ns,h2.aJ.trans h1.aJ,h2.r.trans h1.r,h2.dr.trans h1.dr,h2.bt.trans h1.bt,h1.s3.trans h2.s3,λy hy=>?_⟩;obtain⟨v,hv,a1,a2,a3,a4⟩:=h2.ch y hy;obtain⟨w,hw,b1,b2,b3,b4⟩:=h1.ch v hv
  grind
theorem atq{c:PC}{o:aK}{rest:List aK}(hn:c.bR=o::rest)(ht:c.aJ<=o.ji)(hu:wL c.hs o.To=true):(oC c ⟨6,0,0,0⟩).1=og { c with bR:=rest } o:=by
  have e:oC c ⟨6,0,0,0⟩=lC c ⟨6,0,0,0⟩:=by unfold oC; rw [aP au,aP au,aP au,aP au,aS au]
  rw [e];unfold lC;rw [aP (by show ¬ ((0:Int)<0∨(c.bR.length:Int)<=0); rw [hn,oV]; omega)];have e2:c.bR[(0:Int).toNat]? = some o:=by rw [hn]; rfl
  have e3:c.bR.take (0:Int).toNat++c.bR.drop ((0:Int).toNat+1)=rest:=by rw [hn]; rfl
  show(match c.bR[(0:Int).toNat]? with | none=>(c,(5:Int)) | some o=>if(6:Int)=8 then({ c with bR:=c.bR++[o] },0) else(if(6:Int)=6/\c.aJ<=o.ji/\wL c.hs o.To=true then og { c with bR:=c.bR.take (0:Int).toNat++c.bR.drop ((0:Int).toNat+1) } o else { c with bR:=c.bR.take (0:Int).toNat++c.bR.drop ((0:Int).toNat+1) },0)).1=_;rw [e2]; simp only;rw [aP au]; simp only;rw [aS (by first | exact⟨rfl,ht,hu⟩ | exact⟨trivial,ht,hu⟩),e3]
theorem awJ{l:List bf}{dD c t:Int}(h:OKl l dD):∀ x∈(if J5 l c t=0 then zB l c t else l),x∈l/\¬ (x.aD=c/\x.To=t):=by
  intro x hx
  rcases Rz (l:=l) (c:=c) (t:=t) with ⟨h1,h2⟩ | ⟨k,y,h1,h2,h3,h4⟩
  · grind [J5]
  · have e:J5 l c t=0:=by grind [J5]
    rw [aS e] at hx;unfold zB at hx;rw [h1,aP aj,RS] at hx
    rcases kX.1 hx with hx | hx
    · grind
    · refine⟨List.mem_of_mem_drop hx,λhe=>?_⟩
      obtain⟨i,hi,hix⟩:=List.mem_iff_getElem.1 hx;rw [List.getElem_drop] at hix;rw [rR] at hi;obtain⟨hk,hky⟩:=sN.1 h2;have:=(Eh.1 h.dif) k (k+1+i) hk aj aj
      grind
theorem atr{T:Int}{c:PC}{o:aK}{rest:List aK}(H:Hl c)(hJ:J T c)(hn:c.bR=o::rest)(hp:∀ p∈c.bR,ahl c p)(h0:o.Kind≠0) :
    J T (oC c ⟨6,0,0,0⟩).1/\(oC c ⟨6,0,0,0⟩).1.bR=rest/\(∀ p∈rest,ahl (oC c ⟨6,0,0,0⟩).1 p)/\(Qh c->Qh (oC c ⟨6,0,0,0⟩).1)/\Dlv c [o] (oC c ⟨6,0,0,0⟩).1:=by
  obtain⟨k,I⟩:=H.inv;have hpo:=hp o (by rw [hn]; exact oo);have e:=atq hn hpo.tm hpo.up;obtain⟨t,ht,htu⟩:=O7 hpo.up;have hO:=(I.hz _ _ ht).l
  -- what changes: the servers alone
  obtain⟨hs1,e1,F1,F2,F3,F4⟩:∃ hs1,(oC c ⟨6,0,0,0⟩).1={ c with bR:=rest,hs:=hs1 }/\(∀ n x,hst hs1 n x->hst c.hs n x)/\(∀ x:aF,x.ID=o.aD->o.aB=x.aB->¬ hst hs1 o.To x)/\(∀ z u,dY z c.hs=some u->∃ u1,dY z hs1=some u1/\u1.bG=u.bG/\∀ y∈u1.l,y∈u.l)/\∀ z,wL hs1 z=wL c.hs z:=by
    rw [e]
    cases hb:(dK t.l).any (ZU o) with
    | false=>
      refine⟨c.hs,adh (c:={ c with bR:=rest }) h0 ht hb,λ_ _ h=>h,λx hx hv h=>?_,λz u hu=>⟨u,hu,Y,λy hy=>hy⟩,λ_=>Y⟩;obtain⟨t',ht',y,hy,b1,b2,_⟩:=h;rw [ht] at ht'; injection ht' with ht'; subst ht';rw [hO.rest,acJ] at hb;refine hb y hy ?_;unfold ZU; rw [b1,b2,hx,hv]; simp
    | true=>
      obtain⟨r1,r2,r3,r4⟩:=adL hO o.aD (d:=t.d);refine⟨gK o.To ⟨t.up,t.bG,Df t.l o.aD,YJ t.l o.aD t.d⟩ c.hs,Ri (c:={ c with bR:=rest }) h0 ht hb,λn x h=>?_,λx hx hv h=>?_,λz u hu=>?_,λz=>?_⟩
      · obtain⟨u,hu,y,hy,b⟩:=h
        rw [oN] at hu; split at hu
        · rename_i hz; injection hu with hu; subst hu; rw [hz]; exact⟨t,ht,y,((r2 y).1 hy).1,b⟩
        · exact⟨u,hu,y,hy,b⟩
      · obtain⟨u,hu,y,hy,b1,_⟩:=h
        rw [oN,aS rfl] at hu; injection hu with hu; subst hu;exact((r2 y).1 hy).2 (b1.trans hx)
      · rw [oN]; split
        · rename_i hz; subst hz; rw [ht] at hu; injection hu with hu; subst hu
          exact⟨_,Y,Y,λy hy=>((r2 y).1 hy).1⟩
        · exact⟨u,hu,Y,λy hy=>hy⟩
      · rw [Ws]; split
        · rename_i hz; subst hz; unfold wL; rw [ht]
        · rfl
  rw [e1];have hmem:∀ p,p∈rest->p∈c.bR:=λp hp=>by rw [hn]; exact lS _ hp
  have hpd:∀(x:aF)(n:Int),hst hs1 n x->Pd c.bR x n->Pd rest x n:=λx n hh ⟨p,hp,a1,a2,a3,a4⟩=>by
    rw [hn] at hp
    rcases iR.1 hp with rfl | hp
    · rw [<- a3] at hh; exact absurd hh (F2 x a2.symm a4)
    · exact⟨p,hp,a1,a2,a3,a4⟩
  refine⟨⟨λx hx=>?_,λd hd hu=>?_⟩,Y,λp hpr=>?_,λQ n hs x hx hh=>?_,⟨Y,Y,Y,Y,Y,nI.rfl' _,λy hy=>⟨y,hy,Y,Y,Y,λn=>⟨.inl,λh=>h.elim id fun⟨p,hp,k0,_⟩=>by rw [oG.1 hp] at k0; exact absurd k0 h0⟩⟩⟩⟩
  · rcases hJ.jl x hx with h | ⟨p,hp,a1,a2,a3⟩
    · exact .inl h
    · rw [hn] at hp
      rcases iR.1 hp with rfl | hp
      · exact absurd a1 h0
      · exact .inr ⟨p,hp,a1,a2,a3⟩
  · refine(hJ.jd d hd hu).imp id λh x hx hi=>?_
    obtain⟨a1,a2,a3⟩:=h x hx hi;exact⟨a1,λhh=>hpd x _ hh (a2 (F1 _ _ hh)),a3⟩
  · have hq:=hp p (hmem p hpr)
    refine⟨by show wL hs1 p.To=true; rw [F4]; exact hq.up,hq.tm,λk0=>?_⟩;obtain⟨x,X⟩:=hq.cp k0;obtain⟨u,hu,hr,hl⟩:=X.nV;obtain⟨u1,hu1,hr1,hl1⟩:=F3 _ _ hu;exact⟨x,X.xm,X.id,X.ver,X.sum,X.fr,by show wL hs1 p.jM=true; rw [F4]; exact X.fu,⟨u1,hu1,hr1.trans hr,λy hy=>hl y (hl1 y hy)⟩,X.st,X.nt⟩
  · exact(Q n hs x hx (F1 _ _ hh)).imp id (hpd x n hh)
theorem aBn{c:PC}{o:aK}{f t:oZ}{fG:List (BitVec 8)}(hf:dY o.jM c.hs=some f)(hu:f.up=true)(hn:vW c.s c.aJ o.aD o.To=false)(hrd:uD f.l f.d o.aD=(fG,o.aB,0))(hs:((iQ fG).toNat:Int)=o.Sum)(ht:dY o.To c.hs=some t)(hk:TL t.l t.bG o.aD o.aB o.Sum fG=true) :
    kU c o={ c with m:=tY c.m (vX o.aD o.To o.aB),s:=⟨c.s.cZ,if J5 c.s.bI o.aD o.To=0 then zB c.s.bI o.aD o.To else c.s.bI,c.s.bA⟩,hs:=gK o.To ⟨t.up,t.bG,Hy t.l t.bG o.aD o.aB o.Sum fG,tkD t.l t.bG o.aD o.aB o.Sum fG t.d⟩ c.hs }:=by
  grind [Rf]
theorem aBo{y:aG}{c v s:Int}(h:NS y=true)(hc:y.aD=c)(hv:y.aB=v):NS ⟨c,v,s,false,false⟩=true:=by
  grind [NS]
theorem att{T:Int}{c:PC}{o:aK}{rest:List aK}(H:Hl c)(hJ:J T c)(hn:c.bR=o::rest)(hp:∀ p∈c.bR,ahl c p)(hcf:c.bR.Pairwise ato)(h0:o.Kind=0) :
    J T (oC c ⟨6,0,0,0⟩).1/\(oC c ⟨6,0,0,0⟩).1.bR=rest/\(∀ p∈rest,ahl (oC c ⟨6,0,0,0⟩).1 p)/\(Qh c->Qh (oC c ⟨6,0,0,0⟩).1)/\Dlv c [o] (oC c ⟨6,0,0,0⟩).1:=by
  obtain⟨k,I⟩:=H.inv;have hc:=(dV.1 I.hm).2.1;have hu:=nk hc;have hpo:=hp o (by rw [hn]; exact oo);obtain⟨x,X⟩:=hpo.cp h0;obtain⟨t,ht,hroom,hl⟩:=X.nV;obtain⟨f,hf,y,hy,y1,y2,y3⟩:=H.k.b x X.xm o.jM X.fr;have hfu:f.up=true:=by have:=X.fu; unfold wL at this; rw [hf] at this; exact this
  have hOf:=(I.hz _ _ hf).l;have hOt:=(I.hz _ _ ht).l;have aGS:=(H.k.e _ _ hf y hy).2;have hch:y.aD=o.aD:=y1.trans X.id;have hrd:uD f.l f.d o.aD=(qA ⟨y.aD,false⟩ f.d,o.aB,0):=by rw [<- hch,aA4 hOf hy aGS,y2,<- X.ver]
  have hsum:((iQ (qA (⟨y.aD,false⟩:bT) f.d)).toNat:Int)=o.Sum:=by rw [aGS,y3,X.sum]
  have hln:t.l.length<=8:=lI (atj hOt (λy hy=>(H.k.e _ _ ht y hy).1)) H.few
  have hk:TL t.l t.bG o.aD o.aB o.Sum (qA ⟨y.aD,false⟩ f.d)=true:=
    (adJ hOt).2 ⟨by have:=(I.hz _ _ hf).w y hy; omega,hsum,aBo (hOf.nam hy) hch (y2.trans X.ver.symm),λv hv hvc=>by rw [X.ver]; exact hl v hv (hvc.trans X.id.symm),by rw [hroom]; omega⟩
  obtain⟨_,t2,_,_⟩:=adK hOt hk (d:=t.d);have e:(oC c ⟨6,0,0,0⟩).1=_:=atq hn hpo.tm hpo.up;rw [show og { c with bR:=rest } o=kU { c with bR:=rest } o by unfold og; rw [aS h0],aBn (c:={ c with bR:=rest }) hf hfu X.nt hrd hsum ht hk] at e
  have hc1:=alf I.hm (x:=vX o.aD o.To o.aB) rfl rfl (λd hd hi=>by
    have:=mQ hu hd X.xm (hi.trans X.id.symm); subst this; exact X.ver.symm)
  have hns:(tY c.m (vX o.aD o.To o.aB)).aL=c.m.aL:=ahk I.hm (.inr (.inr (.inl rfl))) rfl;have hs3:nI c.m.aA (tY c.m (vX o.aD o.To o.aB)).aA:=yA I.hm rfl (.inr (.inr (.inl rfl)))
  have hH:∀ y∈(tY c.m (vX o.aD o.To o.aB)).aA,∃ w∈c.m.aA,y.ID=w.ID/\y.aB=w.aB/\y.Sum=w.Sum/\∀ n,n∈y.aC↔n∈w.aC∨(o.aD=w.ID/\n=o.To):=λy hy=>by
    obtain⟨w,hw,a1,a2,a3,a4⟩:=hc1 y hy;exact⟨w,hw,a1,a2,a3,λn=>(a4 n).trans ⟨λh=>h.imp id λh=>⟨h.1.symm,h.2.1⟩,λh=>h.imp id λh=>⟨h.1.symm,h.2,X.st⟩⟩⟩
  generalize hm1:tY c.m (vX o.aD o.To o.aB)=m1 at *
  generalize hh1:gK o.To (⟨t.up,t.bG,Hy t.l t.bG o.aD o.aB o.Sum (qA ⟨y.aD,false⟩ f.d),tkD t.l t.bG o.aD o.aB o.Sum (qA ⟨y.aD,false⟩ f.d) t.d⟩:oZ) c.hs=hs1 at *
  have G1:∀ n z,hst hs1 n z->(n=o.To/\z.ID=o.aD)∨hst c.hs n z:=λn z ⟨u,hu,v,hv,b⟩=>by
    rw [<- hh1,oN] at hu; split at hu
    · rename_i hz; injection hu with hu; subst hu
      rcases(t2 v).1 hv with rfl | ⟨hv,_⟩
      · exact .inl ⟨hz,b.1.symm⟩
      · rw [hz]; exact .inr ⟨t,ht,v,hv,b⟩
    · exact .inr ⟨u,hu,v,hv,b⟩
  have G3:∀ z u,dY z c.hs=some u->∃ u1,dY z hs1=some u1/\u1.bG=u.bG/\∀ v∈u1.l,v∈u.l∨(z=o.To/\v.aD=o.aD):=λz u hu=>by
    rw [<- hh1,oN]; split
    · rename_i hz; subst hz; rw [ht] at hu; injection hu with hu; subst hu
      refine⟨_,Y,Y,λv hv=>?_⟩
      rcases(t2 v).1 hv with rfl | ⟨hv,_⟩
      · exact .inr ⟨Y,Y⟩
      · exact .inl hv
    · exact⟨u,hu,Y,λv hv=>.inl hv⟩
  have G4:∀ z,wL hs1 z=wL c.hs z:=λz=>by
    rw [<- hh1,Ws]; split
    · rename_i hz; subst hz; unfold wL; rw [ht]
    · rfl
  have hpd:∀(x:aF)(n:Int),Pd c.bR x n->Pd rest x n:=λx n ⟨p,hp,a1,a2⟩=>by
    rw [hn] at hp
    rcases iR.1 hp with rfl | hp
    · exact absurd h0 a1
    · exact⟨p,hp,a1,a2⟩
  have aGT:∀ {x y:aF} {n:Int} {q:List aK},y.ID=x.ID->y.aB=x.aB->Pd q x n->Pd q y n:=λa1 a2 ⟨p,hp,b1,b2,b3,b4⟩=>⟨p,hp,b1,b2.trans a1.symm,b3,b4.trans a2.symm⟩;rw [e];have hnt:=adV.1 X.nt;refine⟨⟨λq hq=>?_,λd hd hdu=>(hJ.jd d hd hdu).imp id λhF v hv hi=>?_⟩,Y,λp hpr=>?_,λQ n hs v hv hh=>?_,⟨hns,Y,Y,Y,Y,hs3,λv hv=>?_⟩⟩
  · have hq:=awJ (wM.1 I.hl).1 q hq
    rcases hJ.jl q hq.1 with h | ⟨p,hp,a1,a2,a3⟩
    · exact .inl h
    · rw [hn] at hp
      rcases iR.1 hp with rfl | hp
      · exact absurd ⟨a2.symm,a3.symm⟩ hq.2
      · exact .inr ⟨p,hp,a1,a2,a3⟩
  · obtain⟨w,hw,a1,a2,a3,a4⟩:=hH v hv
    obtain⟨b1,b2,b3⟩:=hF w hw (a1.symm.trans hi);have htold:=hnt d (vE.2 ⟨hd,hdu⟩);refine⟨λhm=>?_,λhh=>?_,?_⟩
    · rcases(a4 _).1 hm with h | ⟨h,h'⟩
      · exact b1 h
      · exact htold ⟨hi.symm.trans (a1.trans h.symm),h'⟩
    · rcases G1 _ _ hh with ⟨h1,h2⟩ | h
      · exact absurd ⟨hi.symm.trans h2,h1⟩ htold
      · exact aGT a1 a2 (hpd w _ (b2 ((CZ a1 a2 a3).1 h)))
    · show c.r.jw<=((gL m1.aL v).length:Int)
      rw [hns];exact Int.le_trans b3 (Int.ofNat_le.2 (D5 (sK hc w hw) λn hn=>(a4 n).2 (.inl hn)))
  · have hq:=hp p (by rw [hn]; exact lS _ hpr)
    refine⟨by show wL hs1 p.To=true; rw [G4]; exact hq.up,hq.tm,λk0=>?_⟩;obtain⟨x',X'⟩:=hq.cp k0;obtain⟨v,hv,v1,v2,v3⟩:=hs3.1 x' X'.xm;obtain⟨w,hw,a1,a2,a3,a4⟩:=hH v hv;have:=mQ hu hw X'.xm (a1.symm.trans v1); subst this;obtain⟨u,hu',hr,hl'⟩:=X'.nV;obtain⟨u1,hu1,hr1,hl1⟩:=G3 _ _ hu';refine⟨v,hv,a1.trans X'.id,X'.ver.trans a2.symm,X'.sum.trans a3.symm,(a4 _).2 (.inl X'.fr),by show wL hs1 p.jM=true; rw [G4]; exact X'.fu,⟨u1,hu1,hr1.trans hr,λz hz hzc=>?_⟩,by show jv m1.aL p.To=true; rw [hns]; exact X'.st,X'.nt⟩
    rcases hl1 z hz with h | ⟨h1,h2⟩
    · rw [a2]; exact hl' z h (hzc.trans a1)
    · rw [hn] at hcf
      exact absurd ⟨h0,k0,h2.symm.trans (hzc.trans (a1.trans X'.id)),h1.symm⟩ ((nW.1 hcf).1 p hpr)
  · have hs':jv m1.aL n=true:=hs
    rw [hns] at hs';obtain⟨w,hw,a1,a2,a3,a4⟩:=hH v hv
    rcases G1 _ _ hh with ⟨h1,h2⟩ | h
    · exact .inl ((a4 n).2 (.inr ⟨h2.symm.trans a1,h1⟩))
    · exact(Q n hs' w hw ((CZ a1 a2 a3).1 h)).imp (λh=>(a4 n).2 (.inl h)) (λh=>aGT a1 a2 (hpd w n h))
  · obtain⟨w,hw,a1,a2,a3,a4⟩:=hH v hv
    exact⟨w,hw,a1,a2,a3,λn=>(a4 n).trans ⟨λh=>h.imp id λh=>⟨o,List.mem_singleton.2 Y,h0,h.1,h.2⟩,λh=>h.imp id fun⟨p,hp,_,b1,b2⟩=>by rw [oG.1 hp] at b1 b2; exact⟨b1,b2⟩⟩⟩
theorem dlv{T:Int}{c:PC}{o:aK}{rest:List aK}(H:Hl c)(hJ:J T c)(hn:c.bR=o::rest)(hp:∀ p∈c.bR,ahl c p)(hcf:c.bR.Pairwise ato) :
    Hl (oC c ⟨6,0,0,0⟩).1/\J T (oC c ⟨6,0,0,0⟩).1/\(oC c ⟨6,0,0,0⟩).1.bR=rest/\(∀ p∈rest,ahl (oC c ⟨6,0,0,0⟩).1 p)/\(Qh c->Qh (oC c ⟨6,0,0,0⟩).1)/\Dlv c [o] (oC c ⟨6,0,0,0⟩).1:=by
  have h1:=abf H (it:=⟨6,0,0,0⟩) (.inr av)
  grind [att,atr]
theorem abg{T:Int}:∀(L:List aK)(n:Nat){c:PC},L.length<=n->c.bR=L->Hl c->J T c->(∀ p∈L,ahl c p)->L.Pairwise ato->
    Hl (Pm 6 n c)/\J T (Pm 6 n c)/\(Pm 6 n c).bR=[]/\(Qh c->Qh (Pm 6 n c))/\Dlv c L (Pm 6 n c)
  | [],n,c,_,hn,H,hJ,_,_=>by
    rw [ak5 (by rw [hn]; rfl)]; exact⟨H,hJ,hn,id,Dlv.nil c⟩
  | o::L,0,c,hl,_,_,_,_,_=>by rw [oV] at hl; omega
  | o::L,n+1,c,hl,hn,H,hJ,hp,hcf=>by
    rw [aje (by rw [hn,oV]; omega)];obtain⟨a1,a2,a3,a4,a5,a6⟩:=dlv H hJ hn (by rw [hn]; exact hp) (by rw [hn]; exact hcf);obtain⟨b1,b2,b3,b4,b5⟩:=abg L n (by rw [oV] at hl; omega) a3 a1 a2 a4 (nW.1 hcf).2;exact⟨b1,b2,b3,λQ=>b4 (a5 Q),a6.cons b5⟩
theorem Zh{s:gG}{aJ c n:Int}:vW s aJ c n=true↔n∈mU (fq s aJ).bA c:=by
  unfold vW mU; grind
theorem awK{ns:List aR}(hn:sj ns=true){id:Int}(h:Bt ns id=true):∃ n∈ns,n.ID=id/\n.gq=0:=by
  unfold Bt at h; grind [EM]
theorem awL{ns:List aR}(hn:sj ns=true){n:aR}(h:n∈ns)(hs:n.gq=0):Bt ns n.ID=true:=by
  grind [Bt,Ib]
theorem C8{ns:List aR}(hn:sj ns=true){aH:List Int}(ha:∀ n∈ns,n.ID∈aH)(x:aF):jg x ns aH=gL ns x:=by
  unfold jg EG gL;rw [List.filter_filter]
  grind [awK]
theorem ad3{c:PC}{k:Nat}(I:Inv c k):rdB c.m c.r=true:=by unfold rdB; rw [I.hr,(dV.1 I.hm).2.1]; rfl
theorem awM{c:PC}(H:Hl c):moveB (EJ c.m c.s c.aJ) c.m.aL (vK c.s c.r c.aJ) c.r.eZ=false:=by
  rcases UZ (EJ c.m c.s c.aJ) c.m.aL (vK c.s c.r c.aJ) c.r.eZ with h | ⟨⟨_,x,y,_,hx,hy,_,h4,_⟩,_⟩
  · exact h.2
  · exfalso
    have h1:=P6 (EJ c.m c.s c.aJ) x.ID;have h2:(EJ c.m c.s c.aJ).length=c.m.aA.length:=BM _ _;have:=H.few; have:=H.kZ; omega
theorem atu{c:PC}(H:Hl c):rdO c.m c.s c.r c.aJ=(tO c.m c.s c.r c.aJ).2++uy c.m c.s c.r c.aJ/\rdL c.m c.s c.r c.aJ=(tO c.m c.s c.r c.aJ).1:=by
  grind [NM,EJ,vK,rdO,Qw,rdL,Qv,awM]
structure Pre (T:Int) (c:PC):Prop where
  H:Hl c
  J:J T c
  bR:∀ o∈c.bR,o.Kind=1/\c.aJ<=o.ji/\wL c.hs o.To=true/\∃ x∈c.m.aA,x.ID=o.aD/\o.aB<x.aB
  nl:c.bR.length<=128
  al:∀ n∈c.m.aL,n.ID∈vK c.s c.r c.aJ
  rep:∀ n,jv c.m.aL n=true->∀ x∈c.m.aA,hst c.hs n x->vW c.s c.aJ x.ID n=false->n∈x.aC
theorem ajj{c:PC}{k:Nat}(I:Inv c k):∀ y∈(uY c).m.aA,∃ w∈c.m.aA,y.ID=w.ID/\y.aB=w.aB/\y.Sum=w.Sum/\∀ n,n∈y.aC↔n∈w.aC/\¬ ∃ o∈uy c.m c.s c.r c.aJ,o.aD=w.ID/\o.To=n:=by
  intro y hy;obtain⟨w,hw,a1,a2,a3,a4⟩:=MF _ I.hm O9 y hy;have hC:mX c.m c.s c.r c.aJ=(uy c.m c.s c.r c.aJ).map wG:=by unfold mX; grind [ad3]
  refine⟨w,hw,a1,a2,a3,λn=>(a4 n).trans ⟨λh=>⟨h.1,fun⟨o,ho,b1,b2⟩=>h.2 (wG o) (by grind) ⟨b1,(Fa ho).2.1.trans b2⟩⟩,λh=>⟨h.1,λx hx b=>h.2 ?_⟩⟩⟩;rw [hC] at hx;obtain⟨o,ho,rfl⟩:=gB.1 hx;exact⟨o,ho,b.1,(Fa ho).2.1.symm.trans b.2⟩
theorem Ul{c:PC}{k:Nat}(I:Inv c k)(ha:∀ n∈c.m.aL,n.ID∈vK c.s c.r c.aJ){o:aK}(ho:o∈uy c.m c.s c.r c.aJ){y:aF}(hy:y∈(uY c).m.aA)(hi:y.ID=o.aD):c.r.jw<=((gL c.m.aL y).length:Int)/\∃ w∈c.m.aA,w.ID=y.ID/\c.r.jw<=((gL c.m.aL w).length:Int):=by
  have hm:=dV.1 I.hm;obtain⟨w,hw,a1,a2,a3,a4⟩:=ajj I y hy;have hd:=adT (ad3 I) ho;have aGU:=hd.many;rw [<- hi,a1,(Ie hm.2.1 _ hw).2,C8 hm.1 ha] at aGU;have hD:(jr c.m c.s c.r c.aJ).bA=(fq c.s c.aJ).bA++uy c.m c.s c.r c.aJ:=by unfold jr; rw [aS (ad3 I)]
  have hsub:∀ n∈(oF (jr c.m c.s c.r c.aJ).bA w).aC,n∈y.aC:=λn hn=>by
    have:=Ny.1 hn;refine(a4 n).2 ⟨this.1,fun⟨p,hp,b1,b2⟩=>?_⟩
    have h9:n∈mU (jr c.m c.s c.r c.aJ).bA w.ID:=by
      rw [hD]; exact gB.2 ⟨p,jV.2 ⟨List.mem_append_right _ hp,sO b1⟩,b2⟩
    have h8:=this.2;rw [nR.2 h9] at h8; exact absurd h8 au
  have hone:oL (oF (jr c.m c.s c.r c.aJ).bA w)=true:=sK (Ic hm.2.1 _) _ (gB.2 ⟨w,hw,rfl⟩);have h1:=D5 (ns:=c.m.aL) (y:=y) hone hsub;have h2:=D5 (ns:=c.m.aL) (y:=w) hone (λn hn=>(Ny.1 hn).1);exact⟨aj,w,hw,a1.symm,aj⟩
theorem JL{c:PC}{o d:aK}(ho:o∈(tO c.m c.s c.r c.aJ).2)(hd:d∈uy c.m c.s c.r c.aJ):d.aD≠o.aD:=by
  obtain⟨x,hx,_,h0,rfl⟩:=Ig hd;obtain⟨q,h1,h2,h3⟩:=MH (x:=Dv c.m c.s c.r c.aJ) (RP c.m c.s c.r c.aJ) ((fq c.s c.aJ).bI,[]);intro he;have he:x.ID=o.aD:=he;rw [show(tO c.m c.s c.r c.aJ).2=[]++q from h1,KG] at ho
  have:o.To∈jJ (tO c.m c.s c.r c.aJ).1 x.ID:=by
    refine gB.2 ⟨Zf o,jV.2 ⟨?_,sO he.symm⟩,Y⟩;rw [show(tO c.m c.s c.r c.aJ).1=_ from h2]; exact by grind
  grind
theorem ad4{c:PC}{k:Nat}(I:Inv c k){o:aK}(ho:o∈(tO c.m c.s c.r c.aJ).2):adS c.m c.s c.r c.aJ o/\o.Kind=0:=by
  rcases adR _ _ o ho with h | h
  · grind
  · exact asN (dV.1 I.hm).2.1 h
theorem ad5{l:List Int}{x:Int}(h:l.contains x=false):x∉l:=by grind
theorem alk(c:PC):∃ q,(tO c.m c.s c.r c.aJ).2=q/\(tO c.m c.s c.r c.aJ).1=(fq c.s c.aJ).bI++q.map Zf:=by
  obtain⟨q,h1,h2,_⟩:=MH (x:=Dv c.m c.s c.r c.aJ) (RP c.m c.s c.r c.aJ) ((fq c.s c.aJ).bI,[])
  grind [tO]
theorem awN{c:PC}{k:Nat}(I:Inv c k):(tO c.m c.s c.r c.aJ).2.Pairwise ato:=by
  obtain⟨q,h1,h2⟩:=alk c
  have h0:IY (fq c.s c.aJ).bI c.r.l7 c.r.All=true:=by
    have h:=wM.1 I.hl;exact wM.2 ⟨h.1.fil _,by grind [Ed]⟩
  have h3:IY (tO c.m c.s c.r c.aJ).1 c.r.l7 c.r.All=true:=Y8 (x:=Dv c.m c.s c.r c.aJ) _ _ h0;have h4:=(wM.1 h3).1.dif;rw [h2] at h4;have h5:=(zk.1 h4).2.1;rw [Ir] at h5;rw [h1];exact h5.imp λh hc=>h ⟨hc.2.2.1,hc.2.2.2⟩
structure awO (c c1:PC):Prop where
  ns:c1.m.aL=c.m.aL
  aJ:c1.aJ=c.aJ
  r:c1.r=c.r
  bt:c1.s.cZ=c.s.cZ
  s3:nI c.m.aA c1.m.aA
  ch:∀ y∈c1.m.aA,∃ w∈c.m.aA,y.ID=w.ID/\y.aB=w.aB/\y.Sum=w.Sum/\∀ n,n∈y.aC↔(n∈w.aC/\¬ ∃ o∈uy c.m c.s c.r c.aJ,o.aD=w.ID/\o.To=n)∨∃ o∈(tO c.m c.s c.r c.aJ).2,o.aD=w.ID/\o.To=n
theorem Um{α:Type}{R:α->α->Prop}:∀ {l:List α},(∀ a∈l,∀ b,R a b)->l.Pairwise R
  | [],_=>List.Pairwise.nil
  | a::l,h=>nW.2 ⟨λb _=>h a oo b,Um λx hx=>h x (lS _ hx)⟩
theorem atv{T:Int}{c:PC}(P:Pre T c):Hl (Pm 6 500 (uY c))/\J T (Pm 6 500 (uY c))/\(Pm 6 500 (uY c)).bR=[]/\(Qh c->Qh (Pm 6 500 (uY c)))/\awO c (Pm 6 500 (uY c)):=by
  have H:=P.H;obtain⟨k,I⟩:=H.inv;have hm:=dV.1 I.hm;have hu:=nk hm.2.1;have hB:=ad3 I;obtain⟨hO,hL⟩:=atu H;obtain⟨q,gu,fT⟩:=alk c;have hrO:qb c.m c.s c.r c.aJ=(tO c.m c.s c.r c.aJ).2++uy c.m c.s c.r c.aJ:=by unfold qb; rw [aS hB,hO]
  have ahn:(uY c).bR=c.bR++((tO c.m c.s c.r c.aJ).2++uy c.m c.s c.r c.aJ):=by show c.bR++qb _ _ _ _=_; rw [hrO]
  have hs:(uY c).s=⟨(fq c.s c.aJ).cZ,(tO c.m c.s c.r c.aJ).1,(fq c.s c.aJ).bA++uy c.m c.s c.r c.aJ⟩:=by show jr _ _ _ _=_; unfold jr; rw [aS hB,hL]
  have hns:(uY c).m.aL=c.m.aL:=aji _ I.hm alj;have hch:=ajj I;have hs3:nI c.m.aA (uY c).m.aA:=BO _ I.hm RH;have e5:(oC c ⟨5,0,0,0⟩).1=uY c:=by unfold oC; rw [aP au,aP au,aP au,aS au]
  have H1:Hl (uY c):=by rw [<- e5]; exact abf H (.inr (.inr (.inr (.inl rfl))))
  have hlen:(uY c).bR.length<=500:=by
    have h1:=Uk (m:=c.m) (r:=c.r) (aJ:=c.aJ) I.Mc;show(c.bR++qb _ _ _ _).length<=500;have:=P.nl; have:=H.few;rw [jG]; omega
  have hpd:∀ {x y:aF} {n:Int},y.ID=x.ID->y.aB=x.aB->Pd c.bR x n->Pd (uY c).bR y n:=λa1 a2 ⟨p,hp,b1,b2,b3,b4⟩=>⟨p,by rw [ahn]; exact TT _ hp,b1,b2.trans a1.symm,b3,b4.trans a2.symm⟩
  have hpT:∀ {w y:aF} {o:aK},w∈c.m.aA->y.ID=w.ID->y.aB=w.aB->o∈uy c.m c.s c.r c.aJ->o.aD=w.ID->Pd (uY c).bR y o.To:=λ{w y o} hw a1 a2 ho hc=>by
    obtain⟨b1,b2,b3,v,hv,b4,b5,b6⟩:=Fa ho;have:=mQ hu hv hw (b4.symm.trans hc); subst this;exact⟨o,by rw [ahn]; exact List.mem_append_right _ (List.mem_append_right _ ho),by rw [b1]; decide,hc.trans a1.symm,rfl,b5.trans a2.symm⟩
  have J1:J T (uY c):=by
    refine⟨λx hx=>?_,λo ho hou=>?_⟩
    · rw [hs] at hx
      have hx:x∈(tO c.m c.s c.r c.aJ).1:=hx;rw [fT] at hx
      rcases kX.1 hx with hx | hx
      · rcases P.J.jl x (jV.1 hx).1 with h | ⟨p,hp,k0,_⟩
        · exact .inl h
        · have:=(P.bR p hp).1; omega
      · obtain⟨p,hp,rfl⟩:=gB.1 hx
        rw [<- gu] at hp;exact .inr ⟨p,by rw [ahn]; exact List.mem_append_right _ (TT _ hp),(ad4 I hp).2,rfl,rfl⟩
    · rw [hs] at ho
      have ho:o∈(fq c.s c.aJ).bA++uy c.m c.s c.r c.aJ:=ho
      have key:∀ {y w:aF},y∈(uY c).m.aA->w∈c.m.aA->y.ID=w.ID->(∀ n,n∈y.aC↔n∈w.aC/\¬ ∃ o∈uy c.m c.s c.r c.aJ,o.aD=w.ID/\o.To=n)->c.r.jw<=((gL c.m.aL w).length:Int)∨(∃ d∈uy c.m c.s c.r c.aJ,d.aD=w.ID)->c.r.jw<=((gL (uY c).m.aL y).length:Int):=λ{y w} hy hw a1 a4 hh=>by
        rw [hns]
        by_cases hd:∃ d∈uy c.m c.s c.r c.aJ,d.aD=w.ID
        · obtain⟨d,hd,hdc⟩:=hd
          exact(Ul I P.al hd hy (a1.trans hdc.symm)).1
        · have h1:=hh.resolve_right hd
          exact Int.le_trans h1 (Int.ofNat_le.2 (D5 (sK hm.2.1 w hw) λn hn=>(a4 n).2 ⟨hn,fun⟨d,hd',b,_⟩=>hd ⟨d,hd',b⟩⟩))
      rcases kX.1 ho with ho | ho
      · refine(P.J.jd o (vE.1 ho).1 (vE.1 ho).2).imp id λhF y hy hi=>?_
        obtain⟨w,hw,a1,a2,a3,a4⟩:=hch y hy;obtain⟨b1,b2,b3⟩:=hF w hw (a1.symm.trans hi);exact⟨λhn=>b1 ((a4 _).1 hn).1,λhh=>hpd a1 a2 (b2 ((CZ a1 a2 a3).1 hh)),key hy hw a1 a4 (.inl b3)⟩
      · refine .inr λy hy hi=>?_
        obtain⟨w,hw,a1,a2,a3,a4⟩:=hch y hy;have hoc:o.aD=w.ID:=hi.symm.trans a1;exact⟨λhn=>((a4 _).1 hn).2 ⟨o,ho,hoc,Y⟩,λ_=>hpT hw a1 a2 ho hoc,key hy hw a1 a4 (.inr ⟨o,ho,hoc⟩)⟩
  have Pe:∀ p∈(uY c).bR,ahl (uY c) p:=by
    intro p hp;rw [ahn] at hp
    rcases kX.1 hp with hp | hp
    · have:=P.bR p hp
      exact⟨this.2.2.1,this.2.1,λk0=>by omega⟩
    rcases kX.1 hp with hp | hp
    · obtain⟨C,k0⟩:=ad4 I hp
      have hb:=(oq I.hr).2.1;have hn9:=EM hm.1 C.there;have hto:wL c.hs p.To=true:=by have:=H.up _ hn9.1; rwa [hn9.2] at this
      refine⟨hto,by rw [C.til]; show c.aJ<=c.aJ+c.r.iD; omega,λ_=>?_⟩;have hx:=uO hm.2.1 C.is_;have hxi:=BZ hm.2.1 C.is_;obtain⟨y,hy,a1,a2,a3,a4⟩:=Ug I.hm O9 (m:=c.m) (l:=mX c.m c.s c.r c.aJ) _ hx;obtain⟨w,hw,b1,b2,b3,b4⟩:=hch y hy;have hwx:=mQ hu hw hx (b1.symm.trans a1);have hnd:∀ n,¬ ∃ o∈uy c.m c.s c.r c.aJ,o.aD=w.ID/\o.To=n:=λn ⟨o,ho,e1,_⟩=>JL hp ho (e1.trans (by rw [hwx]; exact hxi));have hst:jv c.m.aL p.To=true:=(za hm.1).2 ⟨_,hn9.1,hn9.2,by rw [C.st]; decide⟩;have hfr:p.jM∈(aU c.m.aA p.aD).aC:=nR.1 C.fr;have hnt:vW c.s c.aJ p.aD p.To=false:=Bw.2 λht=>ad5 C.gt (Zh.1 ht);refine⟨y,hy,a1.trans hxi,C.ver.trans a2.symm,C.sum.trans a3.symm,(b4 _).2 ⟨by rw [hwx]; exact hfr,hnd _⟩,?_,?_,by rw [hns]; exact hst,?_⟩
      · obtain⟨nd,hnd',e1,_⟩:=hm.2.2.2 _ hx _ hfr
        have:=H.up nd hnd'; rw [e1] at this; exact this
      · obtain⟨t,ht,hr⟩:=I.hN _ hn9.1
        rw [hn9.2] at ht;refine⟨t,ht,hr.trans (H.bG _ hn9.1),λv hv hvc=>?_⟩;obtain⟨⟨x',hx',d1,d2,d3⟩,_⟩:=H.k.e _ _ ht v hv;have:=mQ hu hx' hx (d1.trans (hvc.trans a1)); rw [this] at d2 d3;rw [a2]
        rcases Int.lt_or_eq_of_le d2 with h | h
        · exact h
        · exfalso
          refine ad5 C.nV (P.rep _ hst _ hx ⟨t,ht,v,hv,hvc.trans a1,h,d3 h⟩ ?_);rw [hxi]; exact hnt
      · refine Bw.2 λht=>?_
        have hg:=Zh.1 ht;obtain⟨o,ho,e1⟩:=gB.1 hg;have ho:=jV.1 ho;have ho2:=(vE.1 ho.1);have hoD:o∈(uY c).s.bA:=ho2.1;rw [hs] at hoD;have hoD:o∈(fq c.s c.aJ).bA++uy c.m c.s c.r c.aJ:=hoD
        rcases kX.1 hoD with h | h
        · exact ad5 C.gt (gB.2 ⟨o,jV.2 ⟨h,ho.2⟩,e1⟩)
        · exact JL hp h (iY ho.2)
    · obtain⟨b1,b2,b3,v,hv,b4,_⟩:=Fa hp
      have hd:=adT hB hp;have hb:=(oq I.hr).2.1;refine⟨?_,by rw [b3]; show c.aJ<=c.aJ+c.r.iD; omega,λk0=>by omega⟩;have hin:=uO (Ic hm.2.1 _) hd.is_;have hid:=BZ (Ic hm.2.1 _) hd.is_;obtain⟨w,hw,hwe⟩:=gB.1 hin
      have h9:p.To∈w.aC:=by
        have:=nR.1 hd.holds;rw [show aU (EJ c.m c.s c.aJ) p.aD=_ from hwe.symm] at this;exact(Ny.1 this).1
      obtain⟨nd,hnd',e1,_⟩:=hm.2.2.2 _ hw _ h9;have:=H.up nd hnd'; rw [e1] at this; exact this
  have Cf:(uY c).bR.Pairwise ato:=by
    rw [ahn];refine zk.2 ⟨Um λa ha b hc=>by have:=(P.bR a ha).1; have:=hc.1; omega,zk.2 ⟨awN I,Um λa ha b hc=>by have:=(Fa ha).1; have:=hc.1; omega,λa _ b hb hc=>by have:=(Fa hb).1; have:=hc.2.1; omega⟩,λa ha b _ hc=>by have:=(P.bR a ha).1; have:=hc.1; omega⟩
  obtain⟨r1,r2,r3,r4,r5⟩:=abg (T:=T) (uY c).bR 500 hlen rfl H1 J1 Pe Cf;refine⟨r1,r2,r3,λQ=>r4 λn hst y hy hh=>?_,r5.ns.trans hns,r5.aJ,r5.r,r5.bt.trans (by rw [hs]; rfl),hs3.trans r5.s3,λy hy=>?_⟩
  · rw [hns] at hst
    obtain⟨w,hw,a1,a2,a3,a4⟩:=hch y hy
    rcases Q n hst w hw ((CZ a1 a2 a3).1 hh) with h | h
    · by_cases hd:∃ o∈uy c.m c.s c.r c.aJ,o.aD=w.ID/\o.To=n
      · obtain⟨o,ho,b1,rfl⟩:=hd
        exact .inr (hpT hw a1 a2 ho b1)
      · exact .inl ((a4 n).2 ⟨h,hd⟩)
    · exact .inr (hpd a1 a2 h)
  · obtain⟨v,hv,b1,b2,b3,b4⟩:=r5.ch y hy
    obtain⟨w,hw,a1,a2,a3,a4⟩:=hch v hv;refine⟨w,hw,b1.trans a1,b2.trans a2,b3.trans a3,λn=>?_⟩;rw [b4,a4,a1];refine or_congr Iff.rfl ⟨fun⟨o,ho,k0,c1,c2⟩=>?_,fun⟨o,ho,c1,c2⟩=>⟨o,by rw [ahn]; exact List.mem_append_right _ (TT _ ho),(ad4 I ho).2,c1,c2.symm⟩⟩;rw [ahn] at ho
    rcases kX.1 ho with ho | ho
    · have:=(P.bR o ho).1; omega
    rcases kX.1 ho with ho | ho
    · exact⟨o,ho,c1,c2.symm⟩
    · have:=(Fa ho).1; omega
theorem awP{c:PC}{z:Int}(hu:wL c.hs z=true):(oC c ⟨3,z,0,0⟩).1={ c with s:=⟨tX c.s.cZ z c.aJ,c.s.bI,c.s.bA⟩ }:=by
  obtain⟨h,hg,hb⟩:=O7 hu;rw [ax0 au hg hb];unfold J6; rw [aS rfl]
theorem aho:∀(ids:List Int){c:PC},(∀ z∈ids,wL c.hs z=true/\Lj ⟨z,c.aJ⟩=true)->lZ 0 c.s.cZ=true->
    ∃ B,xK 3 ids c={ c with s:=⟨B,c.s.bI,c.s.bA⟩ }/\lZ 0 B=true/\(∀ z∈ids,heard B c.aJ z)/\∀ z,heard c.s.cZ c.aJ z->heard B c.aJ z
  | [],c,_,hb=>⟨c.s.cZ,rfl,hb,λz hz=>absurd hz av,λz h=>h⟩
  | z::ids,c,h,hb=>by
    have hz:=h z oo;obtain⟨h1,h2,h3⟩:=ak1 hb hz.2;have e:xK 3 (z::ids) c=xK 3 ids { c with s:=⟨tX c.s.cZ z c.aJ,c.s.bI,c.s.bA⟩ }:=by show xK 3 ids (oC c ⟨3,z,0,0⟩).1=_; rw [awP hz.1]
    obtain⟨B,e1,b1,b2,b3⟩:=aho ids (c:={ c with s:=⟨tX c.s.cZ z c.aJ,c.s.bI,c.s.bA⟩ }) (λy hy=>h y (lS _ hy)) h1;refine⟨B,by rw [e,e1],b1,λy hy=>?_,λy ⟨b,hb1,hb2,hb3⟩=>?_⟩
    · rcases iR.1 hy with rfl | hy
      · exact b3 _ h2
      · exact b2 y hy
    · obtain⟨b',q1,q2,q3⟩:=h3 b hb1
      exact b3 _ ⟨b',q1,q2.trans hb2,by show c.aJ<=b'.At; omega⟩
theorem ajk{kind:Int}(hk:∀ z,U3 ⟨kind,z,0,0⟩):∀(ids:List Int){c:PC},Hl c->Hl (xK kind ids c)
  | [],_,H=>H
  | z::ids,_,H=>ajk hk ids (abf H (hk z))
theorem awQ(c:PC):hlA c={ c with aJ:=c.aJ+1 }:=by rfl
structure Rdy (c c1:PC):Prop where
  ns:c1.m.aL=c.m.aL
  aJ:c1.aJ=c.aJ+1
  r:c1.r=c.r
  s3:nI c.m.aA c1.m.aA
  le:c1.s.bI=c.s.bI
  dr:c1.s.bA=c.s.bA
  hs:c1.hs=c.hs
  bR:∃ S,c1.bR=c.bR++S/\S.length<=128
  ch:∀ y∈c1.m.aA,∃ w∈c.m.aA,y.ID=w.ID/\y.aB=w.aB/\y.Sum=w.Sum/\(∀ n∈w.aC,n∈y.aC)/\∀ n∈y.aC,n∈w.aC∨hst c.hs n w
theorem atw{T:Int}{c:PC}(H:Hl c)(hn:c.aJ<=1000000)(hJ:J T c):Hl (J7 c)/\J T (J7 c)/\Rdy c (J7 c)/\(Qh c->Qh (J7 c))/\(c.bR=[]->Pre T (J7 c)):=by
  obtain⟨k,I⟩:=H.inv;have hm:=dV.1 I.hm
  have hid:∀ z∈zL c,(1<=z/\z<=16)/\wL c.hs z=true:=λz hz=>by
    obtain⟨n,hn,rfl⟩:=gB.1 hz;exact⟨by simp_all [QM,rH],H.up n hn⟩
  have eA:=awQ c;have HA:Hl (hlA c):=abf H (.inl av);have iA:zL (hlA c)=zL c:=by rfl
  obtain⟨B,eB,B1,B2,_⟩:=aho (zL (hlA c)) (c:=hlA c) (λz hz=>by
    rw [iA] at hz; rw [eA];refine⟨(hid z hz).2,Nz.2 ⟨by grind,by grind,?_,?_⟩⟩
    · have:=I.hu; grind
    grind) HA.bt
  have HB:Hl (hlB c):=ajk (λz=>.inr (.inl rfl)) _ HA;have eB':hlB c={ c with aJ:=c.aJ+1,s:=⟨B,c.s.bI,c.s.bA⟩ }:=by grind [hlB]
  have HC:Hl (J7 c):=ajk (λz=>.inr av) _ HB;have iB:zL (hlB c)=zL c:=by rw [eB']; rfl
  obtain⟨kB,IB⟩:=HB.inv;have R:aGN (hlB c) (zL (hlB c)) (J7 c):=alh (zL (hlB c)) IB (λz hz=>by rw [iB] at hz; refine⟨(hid z hz).1,?_⟩; rw [eB']; exact(hid z hz).2) (λz h hg y hy=>(HB.k.e z h hg y hy).1)
  generalize hC:J7 c=c1 at *
  rw [iB,eB'] at R;obtain⟨S,S1,S2,S3⟩:=R.bR
  have S2':S.length<=128:=by
    have h1:(zL c).length<=16:=by grind [zL,List.length_map,Ak]
    have h2:c.m.aA.length*(zL c).length<=8*16:=Oh H.few h1;exact lI S2 h2
  have Rs:c1.s=⟨B,c.s.bI,c.s.bA⟩:=R.s;have Rn:c1.aJ=c.aJ+1:=R.aJ;have Rh:c1.hs=c.hs:=R.hs;have Rr:c1.r=c.r:=R.r;have Rns:c1.m.aL=c.m.aL:=R.ns;have aBp:c1.bR=c.bR++S:=S1;have hpd:∀ {x y:aF} {n:Int},y.ID=x.ID->y.aB=x.aB->Pd c.bR x n->Pd c1.bR y n:=λa1 a2 ⟨p,hp,b1,b2,b3,b4⟩=>⟨p,by rw [aBp]; exact TT _ hp,b1,b2.trans a1.symm,b3,b4.trans a2.symm⟩;have hkeep:∀ w∈c.m.aA,∀ n∈w.aC,hst c.hs n w:=λw hw n hn=>H.k.b w hw n hn
  have hJ1:J T c1:=by
    refine⟨λx hx=>?_,λo ho hou=>?_⟩
    · rw [Rs] at hx
      rcases hJ.jl x hx with h | ⟨p,hp,a⟩
      all_goals grind
    · rw [Rs] at ho; rw [Rn] at hou
      have ho:o∈c.s.bA:=ho;refine(hJ.jd o ho aj).imp id λhF y hy hi=>?_;obtain⟨w,hw,a1,a2,a3,_,r2,r3,_⟩:=R.ch y hy;obtain⟨b1,b2,b3⟩:=hF w hw (by grind);refine⟨λhn=>?_,λhh=>?_,?_⟩
      · grind [adV,vE]
      · grind [CZ]
      · rw [Rr,Rns]
        exact Int.le_trans b3 (Int.ofNat_le.2 (D5 (sK hm.2.1 w hw) (by grind)))
  refine⟨HC,hJ1,⟨Rns,Rn,Rr,R.s3,by rw [Rs],by rw [Rs],Rh,by grind,λy hy=>?_⟩,λQ n hs y hy hh=>?_,λh0=>?_⟩
  · obtain⟨w,hw,a1,a2,a3,_,r2,r3,_⟩:=R.ch y hy
    grind
  · rw [Rns] at hs; rw [Rh] at hh
    obtain⟨w,hw,a1,a2,a3,_,r2,r3,_⟩:=R.ch y hy;exact(Q n hs w hw (by grind [CZ])).imp (by grind) (hpd a1 a2)
  · have aBp:c1.bR=S:=by grind
    have hb:=(oq I.hr).2.1;refine⟨HC,hJ1,λo ho=>?_,by grind,λn hn=>?_,λn hs y hy hh ht=>?_⟩
    · rw [aBp] at ho
      obtain⟨b1,b2,b3,x,hx,b4,b5⟩:=S3 o ho;obtain⟨v,hv,d1,d2,d3⟩:=R.s3.1 x hx
      grind
    · rw [Rns] at hn
      have h9:heard B (c.aJ+1) n.ID:=by
        have:=B2 n.ID (by rw [iA]; exact gB.2 ⟨n,hn,rfl⟩)
        grind
      unfold vK;rw [Rs,Rn,Rr];exact ahh B1 (by have:=(oq I.hr).1; omega) h9
    · rw [Rns] at hs; rw [Rh] at hh
      obtain⟨w,hw,a1,a2,a3,_,r2,r3,r4⟩:=R.ch y hy;obtain⟨nd,hnd,hni,_⟩:=(za hm.1).1 hs;refine r4 n (gB.2 (by grind)) (by grind [CZ]) ?_ hs
      grind
theorem aGW{T:Int}{c:PC}(P:Pre T c)(hT:T<c.aJ):Qh c:=by
  intro n hs x hx hh;obtain⟨k,I⟩:=P.H.inv;have hu:=nk (dV.1 I.hm).2.1
  cases ht:vW c.s c.aJ x.ID n with
  | false=>exact .inl (P.rep n hs x hx hh ht)
  | true=>
    obtain⟨o,ho,rfl⟩:=gB.1 (Zh.1 ht);have ho:=jV.1 ho;have ho2:=vE.1 ho.1
    rcases P.J.jd o ho2.1 ho2.2 with h | h
    · omega
    · obtain⟨p,hp,_,p2,_,p4⟩:=(h x hx (by grind)).2.1 hh
      obtain⟨_,_,_,v,hv,v1,v2⟩:=P.bR p hp
      grind [mQ]
structure Late (T:Int) (c:PC):Prop where
  H:Hl c
  J:J T c
  T:T<c.aJ
  bR:∀ p∈c.bR,p.Kind=0->False
  al:∀ n∈c.m.aL,n.ID∈vK c.s c.r c.aJ
theorem Pre.late{T:Int}{c:PC}(P:Pre T c)(hT:T<c.aJ):Late T c:=⟨P.H,P.J,hT,λp hp k0=>by have:=(P.bR p hp).1; omega,P.al⟩
theorem ad6{T:Int}{c:PC}(L:Late T c):(fq c.s c.aJ).bI=[]:=by
  show c.s.bI.filter _=[];rw [TI];intro x hx
  rcases L.J.jl x hx with h | ⟨p,hp,k0,_⟩
  · have:=L.T; grind [inB]
  · exact(L.bR p hp k0).elim
theorem Zi{T:Int}{c:PC}(L:Late T c){o:aK}(ho:o∈(fq c.s c.aJ).bA):ax2 c o:=by
  have h:=vE.1 ho;exact(L.J.jd o h.1 h.2).resolve_left (by have:=L.T; omega)
theorem NA{T:Int}{c:PC}(L:Late T c):EJ c.m c.s c.aJ=c.m.aA:=by
  show c.m.aA.map (oF (fq c.s c.aJ).bA)=_
  have:∀ x∈c.m.aA,oF (fq c.s c.aJ).bA x=x:=λx hx=>by
    have hf:x.aC.filter (fun(x9:Int)=>!((mU (fq c.s c.aJ).bA x.ID).contains x9))=x.aC:=by
      rw [List.filter_eq_self];intro n hn;rw [MB]; · rfl
      intro hg;obtain⟨o,ho,rfl⟩:=gB.1 hg;have ho:=jV.1 ho;exact(Zi L ho.1 x hx (by grind)).1 hn
    unfold oF; rw [hf]
  rw [Yq this]; simp
theorem an3{T:Int}{c:PC}(L:Late T c){x:aF}(hx:x∈c.m.aA)(hg:((gL c.m.aL x).length:Int)<c.r.jw):mU (fq c.s c.aJ).bA x.ID=[]:=by
  refine List.eq_nil_iff_forall_not_mem.2 λn hn=>?_;obtain⟨o,ho,rfl⟩:=gB.1 hn;have ho:=jV.1 ho;have:=(Zi L ho.1 x hx (iY ho.2).symm).2.2; omega
theorem NC{T:Int}{c:PC}(L:Late T c)(n:eG):n∈RP c.m c.s c.r c.aJ↔∃ x∈c.m.aA,N9 c.m.aL (vK c.s c.r c.aJ) c.r.jw x=true/\n=Lu c.m.aL (vK c.s c.r c.aJ) x:=by
  grind [RP,OC,NA]
theorem JM{T:Int}{c:PC}(L:Late T c){x:aF}(hx:x∈c.m.aA):N9 c.m.aL (vK c.s c.r c.aJ) c.r.jw x=true↔((gL c.m.aL x).length:Int)<c.r.jw:=by
  obtain⟨k,I⟩:=L.H.inv;have hm:=dV.1 I.hm;unfold N9;rw [C8 hm.1 L.al,bK,bM,bM];refine⟨λh=>h.2,λh=>⟨?_,h⟩⟩;obtain⟨n,hn⟩:=L.H.k.a x hx;obtain⟨nd,hnd,hni,_⟩:=hm.2.2.2 x hx n hn;have:n∈EG x (vK c.s c.r c.aJ):=jV.2 ⟨hn,nR.2 (by rw [<- hni]; exact L.al nd hnd)⟩
  grind
theorem ahp{l:List aR}{aH:List Int}{aX:List fP}{hs:List Int}:∀(M:List aR)(b:Option aR),b.isSome=true->(M.foldl (tgF l aH aX hs) b).isSome=true
  | [],b,h=>h
  | n::M,b,h=>by
    rw [Gh];refine ahp M _ ?_;unfold tgF; split
    · split
      · rfl
      · split <;> rfl
    · exact h
theorem alm{l:List aR}{aH:List Int}{aX:List fP}{hs:List Int}:∀(M:List aR)(b:Option aR){n:aR},n∈M->Br l aH aX hs n.ID=true->(M.foldl (tgF l aH aX hs) b).isSome=true
  | m::M,b,n,hn,hp=>by
    rw [Gh]
    rcases iR.1 hn with rfl | hn
    · refine ahp M _ ?_
      unfold tgF; rw [aS hp]
      split
      · rfl
      · split <;> rfl
    · exact alm M _ hn hp
theorem ad7{c:PC}(H:Hl c){x:aF}(hg:((gL c.m.aL x).length:Int)<c.r.jw):∃ n∈c.m.aL,n.gq=0/\n.ID∉x.aC:=by
  obtain⟨k,I⟩:=H.inv;have hm:=dV.1 I.hm;refine Decidable.byContradiction λhno=>?_
  have h1:∀ z∈(c.m.aL.filter fun(n:aR)=>decide (n.gq=0)).map aR.ID,z∈gL c.m.aL x:=λz hz=>by
    obtain⟨n,hn,rfl⟩:=gB.1 hz;have hn:=jV.1 hn;have hs:n.gq=0:=iY hn.2;refine jV.2 (by grind [awL])
  have hu:Up aR.ID (c.m.aL.filter fun(n:aR)=>decide (n.gq=0)):=(rH.1 hm.1).1.filter _;have h2:=yB _ _ (RL hu) h1;have h3:=H.aGR
  grind [Dx]
theorem an4{x:aF}(hx:oL x=true)(hi:1<=x.ID){a b u:Int}(ha:1<=a/\a<=16)(hb:1<=b/\b<=16)(hab:a≠b)(hu:0<=u/\u<=1099511627776):Ov (Ae x a b u)=true:=by
  simp_all [Ov,tN,Ae,rC]
theorem ajl{x:aF}(hx:oL x=true)(hi:1<=x.ID){a b u dD all:Int}(ha:1<=a/\a<=16)(hb:1<=b/\b<=16)(hab:a≠b)(hu:0<=u/\u<=1099511627776)(he:1<=dD)(hl:1<=all):Du [] dD all x a b u=true:=by
  unfold Du; refine sO ?_;unfold p8;rw [an4 hx hi ha hb hab hu,aP au,aP (by show ¬ (0:Int)<=-1; decide),aP (by simp [sends,takes]; omega)]
theorem an5{T:Int}{c:PC}(L:Late T c)(awS:c.aJ<=2000000)(h:∃ x∈c.m.aA,((gL c.m.aL x).length:Int)<c.r.jw) :
    ∃ o∈(tO c.m c.s c.r c.aJ).2,∃ x∈c.m.aA,x.ID=o.aD/\((gL c.m.aL x).length:Int)<c.r.jw:=by
  obtain⟨k,I⟩:=L.H.inv;have hm:=dV.1 I.hm;have hbd:=oq I.hr;obtain⟨x0,hx0,hg0⟩:=h;have hn0:=(NC L _).2 ⟨x0,hx0,(JM L hx0).2 hg0,rfl⟩
  cases hq:RP c.m c.s c.r c.aJ with
  | nil=>rw [hq] at hn0; exact absurd hn0 av
  | cons n M=>
    obtain⟨x,hx,hb,hn⟩:=(NC L n).1 (by grind);have hg:=(JM L hx).1 hb;have hone:=sK hm.2.1 x hx;have hid:1<=x.ID:=(BD _ _ (kM.1 hm.2.1).2.2 x.ID (gB.2 ⟨x,hx,rfl⟩)).1;have e1:aU (Dv c.m c.s c.r c.aJ).ks n.aD=x:=by rw [hn]; exact(xY hm.2.1 hx).2
    have e2:aU (Dv c.m c.s c.r c.aJ).dF n.aD=x:=by grind [NA]
    have hav:n.Have=((gL c.m.aL x).length:Int):=by rw [hn]; show((jg x c.m.aL (vK c.s c.r c.aJ)).length:Int)=_; rw [C8 hm.1 L.al]
    -- where it goes
    obtain⟨nd,hnd,hst,hno⟩:=ad7 L.H hg;have hone':=(rH.1 hm.1).2 nd hnd
    have hld:nU (jh c.m.aA c.m.aL []) nd.ID<nd.lD:=by
      have h1:=Tq c.m.aA c.m.aL [];have h2:0<=nU (jh c.m.aA c.m.aL []) nd.ID/\nU (jh c.m.aA c.m.aL []) nd.ID<=8:=acr (P:=λz=>0<=z/\z<=8) aj (λy hy=>by have h9:=h1.1 y hy; have:=L.H.few; simp only [uE] at h9; omega) _;have:=L.H.bG nd hnd; omega
    have hnot:(Ja (Dv c.m c.s c.r c.aJ) x []).contains nd.ID=false:=MB (by
      unfold Ja
      simp only [aee,List.flatten_nil,zM,kX,not_or]
      grind [jJ,mU,fq,an3])
    have hpl:Br c.m.aL (vK c.s c.r c.aJ) (jh c.m.aA c.m.aL []) (Ja (Dv c.m c.s c.r c.aJ) x []) nd.ID=true:=by
      have hf:=Ib hm.1 hnd;unfold Br;rw [hf.1,hf.2,hnot,nR.2 (L.al nd hnd),sO hst,sO hld]; rfl
    have hto:(rZ (Dv c.m c.s c.r c.aJ) x []).isSome=true:=alm c.m.aL none hnd hpl;obtain⟨t,ht⟩:=Option.isSome_iff_exists.1 hto;have ht2:=adQ (show uR c.m.aL (vK c.s c.r c.aJ) (jh c.m.aA c.m.aL []) (Ja (Dv c.m c.s c.r c.aJ) x []) c.m.aL=some t from ht);have ht3:=Qk ht2.1 ht2.2;have htx:t.ID∉x.aC:=by grind [Ja]
    -- where it comes from
    obtain⟨z,hz⟩:=L.H.k.a x hx
    have aKw:∀ z∈x.aC,z∈I9 (vK c.s c.r c.aJ) x:=λz hz=>by
      obtain⟨m9,hm9,hi9,_⟩:=hm.2.2.2 x hx z hz;exact jV.2 ⟨hz,by rw [nR.2 (by rw [<- hi9]; exact L.al m9 hm9)]; rfl⟩
    have hfree:EF [] (I9 (vK c.s c.r c.aJ) x) c.r.l7=true:=by
      unfold EF; rw [List.find?_isSome];exact⟨z,aKw z hz,by unfold Lh; exact sO (by show((0:Nat):Int)<_; omega)⟩
    have hfr:=ag3 hfree;have hfx:Bq [] (I9 (vK c.s c.r c.aJ) x) c.r.l7∈x.aC:=(jV.1 hfr).1;have hu:=I.hu
    have hcb:Du [] c.r.l7 c.r.All x (uw (Dv c.m c.s c.r c.aJ) x []) (yF (rZ (Dv c.m c.s c.r c.aJ) x [])) (c.aJ+c.r.iD)=true:=by
      rw [ht];have hrf:=BD _ _ (rC hone).2.2 _ hfx;have:=L.H.eO;exact ajl hone hid ⟨hrf.1,hrf.2⟩ (QM (by grind [rH])) (λe=>htx (by rw [show t.ID=Bq [] (I9 (vK c.s c.r c.aJ) x) c.r.l7 from e.symm]; exact hfx)) aj hbd.2.2.1.1 hbd.2.2.2.1.1
    have hgo:wH (Dv c.m c.s c.r c.aJ) x x []=true:=by simp_all [wH,EF,I9,Dv]
    have hs0:Kt (Dv c.m c.s c.r c.aJ) x x n.Have 100 ([],[])=_:=(aj7 (x:=Dv c.m c.s c.r c.aJ) (c:=x) (d:=x) (h:=n.Have) (f:=100) (l:=[]) (o:=[]) au (by show n.Have+((0:Nat):Int)<c.r.jw; omega) hgo).symm;have hco:xw [] [] c.r.l7 c.r.All x (uw (Dv c.m c.s c.r c.aJ) x []) (yF (rZ (Dv c.m c.s c.r c.aJ) x [])) (c.aJ+c.r.iD)=[DR x (uw (Dv c.m c.s c.r c.aJ) x []) (yF (rZ (Dv c.m c.s c.r c.aJ) x [])) (c.aJ+c.r.iD)]:=by grind [xw]
    obtain⟨q1,a1,_,_⟩:=Zg (x:=Dv c.m c.s c.r c.aJ) (c:=x) (d:=x) (h:=n.Have) 99 (yc [] c.r.l7 c.r.All x (uw (Dv c.m c.s c.r c.aJ) x []) (yF (rZ (Dv c.m c.s c.r c.aJ) x [])) (c.aJ+c.r.iD)) (xw [] [] c.r.l7 c.r.All x (uw (Dv c.m c.s c.r c.aJ) x []) (yF (rZ (Dv c.m c.s c.r c.aJ) x [])) (c.aJ+c.r.iD));obtain⟨q2,b1,_,_⟩:=MH (x:=Dv c.m c.s c.r c.aJ) M (Jb (Dv c.m c.s c.r c.aJ) ([],[]) n)
    have hR:(tO c.m c.s c.r c.aJ).2=(qz (Dv c.m c.s c.r c.aJ) M (Jb (Dv c.m c.s c.r c.aJ) ([],[]) n)).2:=by
      unfold tO; rw [ad6 L,hq]; rfl
    have hF:(Jb (Dv c.m c.s c.r c.aJ) ([],[]) n).2=[DR x (uw (Dv c.m c.s c.r c.aJ) x []) (yF (rZ (Dv c.m c.s c.r c.aJ) x [])) (c.aJ+c.r.iD)]++q1:=by grind [Jb]
    refine⟨DR x (uw (Dv c.m c.s c.r c.aJ) x []) (yF (rZ (Dv c.m c.s c.r c.aJ) x [])) (c.aJ+c.r.iD),?_,x,hx,Y,hg⟩
    grind
theorem awT{c:PC}{k:Nat}(I:Inv c k)(ha:∀ n∈c.m.aL,n.ID∈vK c.s c.r c.aJ){w:aF}(hw:w∈c.m.aA)(hg:((gL c.m.aL w).length:Int)<c.r.jw):¬ ∃ o∈uy c.m c.s c.r c.aJ,o.aD=w.ID:=by
  rintro⟨o,ho,hc⟩;obtain⟨y,hy,a1,_⟩:=(BO _ I.hm RH:nI c.m.aA (uY c).m.aA).1 w hw;obtain⟨_,v,hv,hvi,h⟩:=Ul I ha ho hy (by grind);have:=mQ (nk (dV.1 I.hm).2.1) hv hw (hvi.trans a1); grind
theorem ajm{T:Int}{c c2:PC}(P:Pre T c)(D:awO c c2)(hc2:∃ k,Inv c2 k){w y:aF}(hw:w∈c.m.aA)(hy:y∈c2.m.aA)(hi:y.ID=w.ID) :
    (((gL c.m.aL w).length:Int)<c.r.jw->(gL c.m.aL w).length<=(gL c2.m.aL y).length)/\(c.r.jw<=((gL c.m.aL w).length:Int)->c.r.jw<=((gL c2.m.aL y).length:Int))/\
    ((∃ o∈(tO c.m c.s c.r c.aJ).2,w.ID=o.aD)->(gL c.m.aL w).length+1<=(gL c2.m.aL y).length):=by
  obtain⟨k,I⟩:=P.H.inv;have hm:=dV.1 I.hm;have hu:=nk hm.2.1;obtain⟨v,hv,a1,a2,a3,a4⟩:=D.ch y hy;have:=mQ hu hv hw (a1.symm.trans hi); subst this;rw [D.ns];have hone:=sK hm.2.1 v hv;have nod:(¬ ∃ o∈uy c.m c.s c.r c.aJ,o.aD=v.ID)->∀ n∈v.aC,n∈y.aC:=λh n hn=>(a4 n).2 (.inl ⟨hn,fun⟨o,ho,b,_⟩=>h ⟨o,ho,b⟩⟩);refine⟨λhg=>D5 hone (nod (awT I P.al hv hg)),λhg=>?_,fun⟨o,ho,hoc⟩=>?_⟩
  · by_cases hd:∃ o∈uy c.m c.s c.r c.aJ,o.aD=v.ID
    · obtain⟨o,ho,hoc⟩:=hd
      obtain⟨z,hz,b1,_⟩:=(BO _ I.hm RH:nI c.m.aA (uY c).m.aA).1 v hv;obtain⟨w',hw',c1,c2',c3,c4⟩:=ajj I z hz;have:=mQ hu hw' hv (c1.symm.trans b1); subst this;have h1:=(Ul I P.al ho hz (b1.trans hoc.symm)).1;have hz1:oL z=true:=sK (dV.1 (Rj I.hm _)).2.1 z hz;exact Int.le_trans h1 (Int.ofNat_le.2 (D5 hz1 λn hn=>(a4 n).2 (.inl ((c4 n).1 hn))))
    · exact Int.le_trans hg (Int.ofNat_le.2 (D5 hone (nod hd)))
  · have hd:¬ ∃ d∈uy c.m c.s c.r c.aJ,d.aD=v.ID:=fun⟨d,hd,e⟩=>JL ho hd (e.trans hoc)
    obtain⟨C,_⟩:=ad4 I ho;have hn9:=EM hm.1 C.there;have hgo:Bt c.m.aL o.To=true:=by unfold Bt; rw [C.there,C.st]; rfl
    have hto:o.To∉v.aC:=by
      have:=ad5 C.nV;rw [<- hoc,(xY hm.2.1 hv).2] at this; exact this
    have h1:=yB (o.To::gL c.m.aL v) (gL c.m.aL y) (EN.2 ⟨λh=>hto (jV.1 h).1,ahm hone⟩) (λn hn=>by
      rcases iR.1 hn with rfl | hn
      · exact jV.2 ⟨(a4 _).2 (.inr ⟨o,ho,hoc.symm,Y⟩),hgo⟩
      · have:=jV.1 hn
        exact jV.2 ⟨nod hd n this.1,this.2⟩)
    rw [oV] at h1; exact h1
theorem ajn{T:Int}{c c2:PC}(P:Pre T c)(hT:T<c.aJ)(D:awO c c2)(hc2:∃ k,Inv c2 k)(hall:∀ x∈c.m.aA,c.r.jw<=((gL c.m.aL x).length:Int)){w y:aF}(hw:w∈c.m.aA)(hy:y∈c2.m.aA)(hi:y.ID=w.ID) :
    y.aC.length<=w.aC.length/\(c.r.jw<(w.aC.length:Int)->y.aC.length+1<=w.aC.length):=by
  have L:=P.late hT;obtain⟨k,I⟩:=P.H.inv;obtain⟨k2,I2⟩:=hc2;have hm:=dV.1 I.hm;have hu:=nk hm.2.1;obtain⟨v,hv,a1,a2,a3,a4⟩:=D.ch y hy;have:=mQ hu hv hw (a1.symm.trans hi); subst this
  have hN:RP c.m c.s c.r c.aJ=[]:=List.eq_nil_iff_forall_not_mem.2 λn hn=>by
    obtain⟨x,hx,hb,_⟩:=(NC L n).1 hn;have:=(JM L hx).1 hb; have:=hall x hx; omega
  have hR:tO c.m c.s c.r c.aJ=([],[]):=by unfold tO; rw [hN,ad6 L]; rfl
  have hone:=sK hm.2.1 v hv;have hy1:oL y=true:=sK (dV.1 I2.hm).2.1 y hy
  have hsub:∀ n∈y.aC,n∈v.aC:=λn hn=>by
    rcases(a4 n).1 hn with h | ⟨o,ho,_⟩
    · exact h.1
    · rw [hR] at ho; exact absurd ho av
  refine⟨yB _ _ (MI (E5 hy1)) hsub,λhlt=>?_⟩;have hgood:=hall v hv;have hbd:=(oq I.hr).2.2.2.2.1
  obtain⟨id,hE⟩:∃ id,trE (tO c.m c.s c.r c.aJ).1 c.m.aA c.m.aL (vK c.s c.r c.aJ) c.r.jw v=(id,true):=by
    have hneg:¬ (c.r.jw<1∨((jg v c.m.aL (vK c.s c.r c.aJ)).length:Int)<c.r.jw):=by rw [C8 hm.1 P.al]; omega
    unfold trE
    cases hid:Kq v c.m.aL (vK c.s c.r c.aJ) with
    | cons i l=>exact⟨i,XH hneg (by rw [hid]; rfl)⟩
    | nil=>
      refine⟨_,abY hneg (by rw [hid]; simp) ?_⟩;rw [C8 hm.1 P.al]
      have hfull:gL c.m.aL v=v.aC:=Gm.2 λn hn=>by
        obtain⟨nd,hnd,hni,_⟩:=hm.2.2.2 v hv n hn;have hf:=Ib hm.1 hnd;rw [hni] at hf;have hnot:n∉Kq v c.m.aL (vK c.s c.r c.aJ):=by rw [hid]; simp
        refine Decidable.byContradiction λhb=>hnot (jV.2 ⟨hn,?_⟩);unfold Bt at hb; unfold abX;rw [hf.1] at hb ⊢;rw [nR.2 (by rw [<- hni]; exact P.al nd hnd)]
        simp at hb ⊢; exact hb
      rw [hfull]; omega
  have hin:Tz v id (c.aJ+c.r.iD)∈uy c.m c.s c.r c.aJ:=by
    unfold uy wV;refine Ol.2 ⟨v,by rw [NA L]; exact hv,?_⟩;unfold NP;rw [aP (by rw [hR]; simp [jJ]),hE]; simp
  have aKy:id∈v.aC:=by
    have hE':UD v c.m.aL (vK c.s c.r c.aJ) (jh c.m.aA c.m.aL (tO c.m c.s c.r c.aJ).1) c.r.jw=(id,true):=hE;have h:=(asP (show(UD v c.m.aL (vK c.s c.r c.aJ) (jh c.m.aA c.m.aL (tO c.m c.s c.r c.aJ).1) c.r.jw).2=true by rw [hE'])).2.2;rw [hE'] at h
    rcases h with h | ⟨_,h⟩
    · exact(jV.1 h).1
    · exact(jV.1 (jV.1 h).1).1
  have aKz:id∉y.aC:=λh=>by
    rcases(a4 id).1 h with h | ⟨o,ho,_⟩
    · exact h.2 ⟨_,hin,Y,Y⟩
    · rw [hR] at ho; exact absurd ho av
  have:=yB (id::y.aC) v.aC (EN.2 ⟨aKz,MI (E5 hy1)⟩) (λn hn=>by
    rcases iR.1 hn with rfl | hn
    · exact aKy
    · exact hsub n hn)
  rw [oV] at this; exact this
theorem ajo{T:Int}{c:PC}(L:Late T c)(hall:∀ x∈c.m.aA,c.r.jw<=((gL c.m.aL x).length:Int)/\(x.aC.length:Int)<=c.r.jw):qb c.m c.s c.r c.aJ=[]/\mX c.m c.s c.r c.aJ=[]:=by
  obtain⟨k,I⟩:=L.H.inv;have hm:=dV.1 I.hm;have hN:RP c.m c.s c.r c.aJ=[]:=List.eq_nil_iff_forall_not_mem.2 (by grind [NC,JM]);have hR:tO c.m c.s c.r c.aJ=([],[]):=by unfold tO; rw [hN,ad6 L]; rfl
  have hT:uy c.m c.s c.r c.aJ=[]:=by
    unfold uy wV;rw [NA L,List.flatMap_eq_nil_iff];intro x hx;have h1:=hall x hx;have h2:(gL c.m.aL x).length<=x.aC.length:=ni _ _
    have hfull:∀ n∈x.aC,Bt c.m.aL n=true:=by
      have:(gL c.m.aL x).length=x.aC.length:=aj;exact List.filter_eq_self.1 (List.filter_sublist.eq_of_length this)
    have aO6:Kq x c.m.aL (vK c.s c.r c.aJ)=[]:=by simp_all [Kq,Bt,abX]
    have hbd:=(oq I.hr).2.2.2.2.1;have he:=XI (c:=x) (l:=c.m.aL) (aH:=vK c.s c.r c.aJ) (aX:=jh c.m.aA c.m.aL (tO c.m c.s c.r c.aJ).1) (bS:=c.r.jw) (by rw [C8 hm.1 L.al]; omega) (by grind) (by rw [C8 hm.1 L.al]; omega);unfold NP trE; rw [he]; simp
  obtain⟨hO,_⟩:=atu L.H
  grind [qb,mX]
theorem atx(c:PC):DZ c=Pm 6 500 (uY (J7 c)):=by
  rfl
theorem awU{c:PC}(h:¬ c.bR.length=0):(oC c ⟨6,0,0,0⟩).1.bR.length+1=c.bR.length/\(oC c ⟨6,0,0,0⟩).1.aJ=c.aJ:=by
  cases hn:c.bR with
  | nil=>grind
  | cons o rest=>
    have e:oC c ⟨6,0,0,0⟩=lC c ⟨6,0,0,0⟩:=by rfl
    have e2:c.bR[(0:Int).toNat]? = some o:=by grind
    have e3:c.bR.take (0:Int).toNat++c.bR.drop ((0:Int).toNat+1)=rest:=by grind
    rw [e]; unfold lC
    grind [Fe]
theorem aty:∀(n:Nat){c:PC},Hl c->Hl (Pm 6 n c)/\(Pm 6 n c).bR.length=c.bR.length - n/\(Pm 6 n c).aJ=c.aJ
  | 0,c,H=>⟨H,rfl,rfl⟩
  | n+1,c,H=>by
    by_cases h:c.bR.length=0
    · rw [ak5 h]; exact⟨H,aj,rfl⟩
    · rw [aje h]
      obtain⟨h1,h2⟩:=awU h;obtain⟨a1,a2,a3⟩:=aty n (abf H (it:=⟨6,0,0,0⟩) (.inr (.inr (.inr (.inr (.inl rfl))))));exact⟨a1,aj,a3.trans h2⟩
theorem aGX{c:PC}(H:Hl c):J (c.aJ+c.r.iD) c:=⟨λx hx=>.inl (H.un.l x hx),λo ho _=>.inl (H.un.d o ho)⟩
theorem aBq{c:PC}(H:Hl c):Hl (uY c)/\(uY c).bR.length<=c.bR.length+72/\(uY c).aJ=c.aJ:=by
  have e5:(oC c ⟨5,0,0,0⟩).1=uY c:=by rfl
  obtain⟨k,I⟩:=H.inv;refine⟨by rw [<- e5]; exact abf H (.inr av),?_,rfl⟩;have h1:=Uk (m:=c.m) (r:=c.r) (aJ:=c.aJ) I.Mc;have:=H.few;show(c.bR++qb _ _ _ _).length<=_
  grind
theorem wet{c:PC}(H:Hl c)(hn:c.aJ<=1000000):Hl (DZ c)/\(DZ c).aJ=c.aJ+1/\(DZ c).bR.length<=c.bR.length - 300:=by
  obtain⟨HC,_,R,_,_⟩:=atw H hn (aGX H);obtain⟨HD,d1,d2⟩:=aBq HC;obtain⟨HP,p1,p2⟩:=aty 500 HD;obtain⟨S,s1,s2⟩:=R.bR;rw [atx];refine⟨HP,p2.trans (d2.trans R.aJ),?_⟩
  grind
theorem ax4{c:PC}(H:Hl c)(hn:c.aJ<=900000):∀ n:Nat,n<=1000->Hl (vZ n c)/\(vZ n c).aJ=c.aJ+n/\(vZ n c).bR.length<=c.bR.length - 300*n
  | 0,_=>⟨H,by show c.aJ=c.aJ+((0:Nat):Int); omega,by show c.bR.length<=_; omega⟩
  | n+1,h=>by
    obtain⟨a1,a2,a3⟩:=ax4 H hn n aj;obtain⟨b1,b2,b3⟩:=wet a1 aj;refine⟨b1,?_,?_⟩
    · show(DZ (vZ n c)).aJ=_; rw [b2,a2]; omega
    · show(DZ (vZ n c)).bR.length<=_; omega
structure Dry (T:Int) (c:PC):Prop where
  H:Hl c
  J:J T c
  bR:c.bR=[]
theorem RO{T:Int}{c:PC}(D:Dry T c)(hn:c.aJ<=1000000):Dry T (DZ c)/\(DZ c).aJ=c.aJ+1/\Pre T (J7 c)/\awO (J7 c) (DZ c)/\Rdy c (J7 c)/\(Qh (J7 c)->Qh (DZ c))/\∀ n∈(DZ c).m.aL,n.ID∈vK (DZ c).s (DZ c).r (DZ c).aJ:=by
  obtain⟨HC,JC,R,_,P⟩:=atw D.H hn D.J;have P:=P D.bR;obtain⟨r1,r2,r3,r4,r5⟩:=atv P;rw [<- atx] at r1 r2 r3 r4 r5;refine⟨⟨r1,r2,r3⟩,r5.aJ.trans R.aJ,P,r5,R,r4,λn hn=>?_⟩;rw [r5.ns] at hn;have:=P.al n hn;unfold vK at this ⊢;rw [r5.aJ,r5.r,show(fq (DZ c).s (J7 c).aJ).cZ=(fq (J7 c).s (J7 c).aJ).cZ from r5.bt]
  grind
def gN(c:PC)(id:Int):Nat:=(gL c.m.aL (aU c.m.aA id)).length
def hN(c:PC)(id:Int):Nat:=(aU c.m.aA id).aC.length
def abh(ids:List Int)(c:PC):Prop:=(∀ id∈ids,gZ c.m.aA id=true)/\∀ x∈c.m.aA,x.ID∈ids
theorem abh.same{ids:List Int}{c c2:PC}(h:abh ids c)(hm:kI c.m.aA=true)(hm2:kI c2.m.aA=true)(hs:nI c.m.aA c2.m.aA):abh ids c2:=by
  refine⟨λid hid=>?_,λx hx=>?_⟩
  · obtain⟨x,hx,rfl⟩:=(CB hm).1 (h.1 id hid)
    obtain⟨y,hy,e,_⟩:=hs.1 x hx
    grind [CB]
  · obtain⟨y,hy,e,_⟩:=hs.2 x hx
    rw [e]; exact h.2 y hy
theorem ahq{T:Int}{c:PC}{ids:List Int}(D:Dry T c)(hn:c.aJ<=1000000)(hT:T<=c.aJ)(hI:abh ids c){W:Nat}(hW:c.r.jw=(W:Int)) :
    abh ids (DZ c)/\(DZ c).r=c.r/\(∀ id∈ids,W - gN (DZ c) id<=W - gN c id)/\((∃ id∈ids,gN (DZ c) id<W)->∃ id∈ids,W - gN (DZ c) id<W - gN c id)/\
    (Qh c->(∀ id∈ids,W<=gN c id)->∀ id∈ids,hN (DZ c) id<=hN c id/\(W<hN c id->hN (DZ c) id+1<=hN c id))/\Qh (DZ c):=by
  obtain⟨D2,awS,P,R2,R1,hQ,_⟩:=RO D hn;have hT1:T<(J7 c).aJ:=by rw [R1.aJ]; omega
  have Q1:=aGW P hT1;obtain⟨k0,I0⟩:=D.H.inv; obtain⟨k1,I1⟩:=P.H.inv; obtain⟨k2,I2⟩:=D2.H.inv;have m0:=dV.1 I0.hm; have m1:=dV.1 I1.hm; have m2:=dV.1 I2.hm;have u0:=nk m0.2.1; have u1:=nk m1.2.1;have hI1:=hI.same m0.2.1 m1.2.1 R1.s3;have hI2:=hI1.same m1.2.1 m2.2.1 R2.s3;have hW1:(J7 c).r.jw=(W:Int):=by rw [R1.r]; exact hW
  have at0:∀ id∈ids,aU c.m.aA id∈c.m.aA/\(aU c.m.aA id).ID=id:=λid h=>⟨uO m0.2.1 (hI.1 id h),BZ m0.2.1 (hI.1 id h)⟩;have at1:∀ id∈ids,aU (J7 c).m.aA id∈(J7 c).m.aA/\(aU (J7 c).m.aA id).ID=id:=λid h=>⟨uO m1.2.1 (hI1.1 id h),BZ m1.2.1 (hI1.1 id h)⟩;have at2:∀ id∈ids,aU (DZ c).m.aA id∈(DZ c).m.aA/\(aU (DZ c).m.aA id).ID=id:=λid h=>⟨uO m2.2.1 (hI2.1 id h),BZ m2.2.1 (hI2.1 id h)⟩
  have aBr:∀ id∈ids,(∀ n∈(aU c.m.aA id).aC,n∈(aU (J7 c).m.aA id).aC)/\∀ n∈(aU (J7 c).m.aA id).aC,n∈(aU c.m.aA id).aC∨hst c.hs n (aU c.m.aA id):=λid h=>by
    obtain⟨w,hw,a1,_,_,a4,a5⟩:=R1.ch _ (at1 id h).1;have:=mQ u0 hw (at0 id h).1 (a1.symm.trans ((at1 id h).2.trans (at0 id h).2.symm)); subst this;exact⟨a4,a5⟩
  have g01:∀ id∈ids,gN c id<=gN (J7 c) id:=λid h=>by
    unfold gN; rw [R1.ns]; exact D5 (sK m0.2.1 _ (at0 id h).1) (aBr id h).1
  have g12:=λid (h:id∈ids)=>ajm P R2 ⟨k2,I2⟩ (at1 id h).1 (at2 id h).1 ((at2 id h).2.trans (at1 id h).2.symm)
  have aBs:∀ id∈ids,W - gN (DZ c) id<=W - gN (J7 c) id:=λid h=>by
    obtain⟨b1,b2,_⟩:=g12 id h;rw [hW1] at b1 b2;unfold gN
    by_cases hlt:(gL (J7 c).m.aL (aU (J7 c).m.aA id)).length<W
    · have:=b1 aj; omega
    · have:=b2 aj; omega
  refine⟨hI2,R2.r.trans R1.r,λid h=>by have:=aBs id h; have:=g01 id h; omega,fun⟨id,h,hlt⟩=>?_,λQ0 hall id h=>?_,hQ Q1⟩
  · have hex:∃ x∈(J7 c).m.aA,((gL (J7 c).m.aL x).length:Int)<(J7 c).r.jw:=by
      refine⟨_,(at1 id h).1,?_⟩;rw [hW1];obtain⟨_,b2,_⟩:=g12 id h;rw [hW1] at b2;unfold gN at hlt
      by_cases hlt2:(gL (J7 c).m.aL (aU (J7 c).m.aA id)).length<W
      · omega
      · have:=b2 aj; omega
    obtain⟨o,ho,x,hx,hxo,hxg⟩:=an5 (P.late hT1) (by rw [R1.aJ]; omega) hex;have hxi:=hI1.2 x hx;have hxe:aU (J7 c).m.aA x.ID=x:=RG m1.2.1 hx;obtain⟨_,_,b3⟩:=g12 x.ID hxi;have b3:=b3 ⟨o,ho,(at1 x.ID hxi).2.trans hxo⟩;rw [hW1] at hxg;refine⟨x.ID,hxi,?_⟩;have h01:=g01 x.ID hxi;unfold gN at h01 ⊢;rw [hxe] at b3 h01;omega
  · have hsub:∀ n∈(aU (J7 c).m.aA id).aC,n∈(aU c.m.aA id).aC:=λn hn=>by
      rcases(aBr id h).2 n hn with h1 | h1
      · exact h1
      · obtain⟨nd,hnd,hni,hst⟩:=m1.2.2.2 _ (at1 id h).1 n hn
        have hs:jv c.m.aL n=true:=(za m0.1).2 ⟨nd,by rw [<- R1.ns]; exact hnd,hni,hst⟩
        rcases Q0 n hs _ (at0 id h).1 h1 with h2 | ⟨p,hp,_⟩
        · exact h2
        · rw [D.bR] at hp; exact absurd hp av
    have l1:=yB _ _ (MI (E5 (sK m1.2.1 _ (at1 id h).1))) hsub;have l2:=yB _ _ (MI (E5 (sK m0.2.1 _ (at0 id h).1))) (aBr id h).1
    have t:=ajn P hT1 R2 ⟨k2,I2⟩ (λx hx=>by
      have hxi:=hI1.2 x hx;have h1:=hall x.ID hxi; have h2:=g01 x.ID hxi;unfold gN at h2;rw [RG m1.2.1 hx] at h2;unfold gN at h1
      rw [hW1]; omega) (at1 id h).1 (at2 id h).1 ((at2 id h).2.trans (at1 id h).2.symm)
    rw [hW1] at t;unfold hN;refine⟨aj,λhlt=>?_⟩;have:=t.2 aj; omega
theorem ahr{f g:Int->Nat}:∀ {l:List Int},(∀ i∈l,f i<=g i)->(l.map f).sum<=(l.map g).sum
  | [],_=>kJ _
  | a::l,h=>by
    have h1:=h a oo;have h2:=ahr (l:=l) (λi hi=>h i (lS _ hi))
    simp only [mR,List.sum_cons]; omega
theorem ahs{f g:Int->Nat}:∀ {l:List Int},(∀ i∈l,f i<=g i)->(∃ i∈l,f i<g i)->(l.map f).sum+1<=(l.map g).sum
  | [],_,⟨i,hi,_⟩=>absurd hi av
  | a::l,h,⟨i,hi,hlt⟩=>by
    have h1:=h a oo;have hr:=λi hi=>h i (lS a hi)
    simp only [mR,List.sum_cons]
    rcases iR.1 hi with rfl | hi
    · have h2:=ahr hr; omega
    · have h2:=ahs hr ⟨i,hi,hlt⟩; omega
theorem aht{f:Int->Nat}:∀ {l:List Int},(l.map f).sum=0->∀ i∈l,f i=0
  | a::l,h,i,hi=>by
    simp only [mR,List.sum_cons] at h
    rcases iR.1 hi with rfl | hi
    · omega
    · exact aht aj i hi
theorem ajp{f:Int->Nat}{m:Nat}:∀ {l:List Int},(∀ i∈l,f i<=m)->(l.map f).sum<=l.length*m
  | [],_=>fE _
  | a::l,h=>by
    have h1:=h a oo;have h2:=ajp (l:=l) (λi hi=>h i (lS _ hi))
    simp only [mR,List.sum_cons,oV,Nat.succ_mul]; omega
def sD(W:Nat)(ids:List Int)(c:PC):Nat:=(ids.map λid=>W - gN c id).sum
structure Lt (T:Int) (ids:List Int) (W:Nat) (c:PC):Prop where
  D:Dry T c
  T:T<=c.aJ
  ids:abh ids c
  W:c.r.jw=(W:Int)
theorem aln{T:Int}{ids:List Int}{W:Nat}{c:PC}(L:Lt T ids W c)(hn:c.aJ<=1000000):Lt T ids W (DZ c)/\(DZ c).aJ=c.aJ+1/\(sD W ids (DZ c)+1<=sD W ids c∨sD W ids (DZ c)=0)/\Qh (DZ c):=by
  obtain⟨h1,h2,h3,h4,_,h6⟩:=ahq L.D hn L.T L.ids L.W;obtain⟨D2,awS,_⟩:=RO L.D hn;refine⟨⟨D2,by rw [awS]; have:=L.T; omega,h1,by rw [h2]; exact L.W⟩,awS,?_,h6⟩
  by_cases hz:sD W ids (DZ c)=0
  · grind
  · refine .inl (ahs h3 (h4 (Decidable.byContradiction λhno=>hz ?_)))
    have:∀ i∈ids,W - gN (DZ c) i<=0:=by grind
    have:=ajp this
    grind [sD]
theorem lt_n{T:Int}{ids:List Int}{W:Nat}{c:PC}(L:Lt T ids W c)(hn:c.aJ<=900000):∀ n:Nat,n<=1000->Lt T ids W (vZ n c)/\(vZ n c).aJ=c.aJ+n/\(sD W ids (vZ n c)+n<=sD W ids c∨sD W ids (vZ n c)=0)/\(0<n->Qh (vZ n c))
  | 0,_=>⟨L,by show c.aJ=c.aJ+((0:Nat):Int); omega,.inl (kJ _),λh=>absurd h au⟩
  | n+1,h=>by
    obtain⟨a1,a2,a3,_⟩:=lt_n L hn n aj;obtain⟨b1,b2,b3,b4⟩:=aln a1 aj;refine⟨b1,?_,?_,λ_=>b4⟩
    · show(DZ (vZ n c)).aJ=_; rw [b2,a2]; omega
    · show sD W ids (DZ (vZ n c))+(n+1)<=_∨sD W ids (DZ (vZ n c))=0
      rcases b3 with b3 | b3
      · rcases a3 with a3 | a3
        · exact .inl aj
        · omega
      · exact .inr b3
structure Ful (T:Int) (ids:List Int) (W:Nat) (c:PC):Prop where
  L:Lt T ids W c
  Q:Qh c
  g:∀ id∈ids,W<=gN c id
theorem atz{T:Int}{ids:List Int}{W:Nat}{c:PC}(F:Ful T ids W c)(hn:c.aJ<=900000):∀ n:Nat,n<=1000->Ful T ids W (vZ n c)/\(vZ n c).aJ=c.aJ+n/\∀ id∈ids,hN (vZ n c) id<=W∨hN (vZ n c) id+n<=hN c id
  | 0,_=>⟨F,by show c.aJ=c.aJ+((0:Nat):Int); omega,λid _=>.inr (kJ _)⟩
  | n+1,h=>by
    obtain⟨a1,a2,a3⟩:=atz F hn n aj;obtain⟨b1,b2,_,b4⟩:=aln a1.L aj;obtain⟨_,_,c3,_,c5,_⟩:=ahq a1.L.D aj a1.L.T a1.L.ids a1.L.W;have c5:=c5 a1.Q a1.g;refine⟨⟨b1,b4,λid hid=>by have:=c3 id hid; have:=a1.g id hid; show W<=gN (DZ (vZ n c)) id; omega⟩,?_,λid hid=>?_⟩
    · show(DZ (vZ n c)).aJ=_; rw [b2,a2]; omega
    · show hN (DZ (vZ n c)) id<=W∨hN (DZ (vZ n c)) id+(n+1)<=_
      have:=c5 id hid
      rcases a3 id hid with h1 | h1
      · exact .inl aj
      · by_cases h2:W<hN (vZ n c) id
        · have:=this.2 h2; exact .inr aj
        · exact .inl aj
theorem alo(a:Nat)(c:PC):∀ b,vZ (a+b) c=vZ b (vZ a c)
  | 0=>rfl
  | b+1=>by show DZ (vZ (a+b) c)=DZ (vZ b (vZ a c)); rw [alo a c b]
theorem atA(kind:Int):∀(ids:List Int)(c:PC),(xK kind ids c).r=c.r
  | [],_=>rfl
  | z::ids,c=>(atA kind ids _).trans (agU c _)
theorem ax5(kind:Int):∀(n:Nat)(c:PC),(Pm kind n c).r=c.r
  | 0,_=>rfl
  | n+1,c=>by
    unfold Pm; split
    · rfl
    · exact(ax5 kind n _).trans (agU c _)
theorem aGZ(c:PC):(DZ c).r=c.r:=by
  simp [DZ,hlD,J7,hlB,hlA,ax5,agU,atA]
theorem alp(c:PC):∀ n,(vZ n c).r=c.r
  | 0=>rfl
  | n+1=>(aGZ _).trans (alp c n)
theorem an6{c:PC}(H:Hl c)(hn:c.aJ<=800000)(hw:c.bR.length<=7200){N:Nat}(hNl:112<=N)(hNu:N<=900):Bd (vZ N c) c.r=true/\Hl (vZ N c):=by
  -- the bR runs dry
  obtain⟨a1,a2,a3⟩:=ax4 H aj 24 au;have aO8:(vZ 24 c).r=c.r:=alp c 24;have aKC:(vZ 24 c).bR=[]:=qF aj;have D:Dry ((vZ 24 c).aJ+(vZ 24 c).r.iD) (vZ 24 c):=⟨a1,aGX a1,aKC⟩
  generalize hc24:vZ 24 c=c24 at *
  -- what was known passes
  have dn:∀ n:Nat,n<=100->Dry (c24.aJ+c24.r.iD) (vZ n c24)/\(vZ n c24).aJ=c24.aJ+n:=λn=>by
    induction n <;> grind [DZ,vZ,RO]
  obtain⟨D33,n33⟩:=dn 9 au;have aKE:(vZ 9 c24).r=c.r:=by grind [alp]
  obtain⟨k,I⟩:=D33.H.inv;have m33:=dV.1 I.hm;have hbd:=(oq I.hr).2.2.2.2.1;rw [aKE] at hbd;obtain⟨W,hW⟩:∃ W:Nat,c.r.jw=(W:Int):=⟨c.r.jw.toNat,aj⟩
  have L:Lt (c24.aJ+c24.r.iD) ((vZ 9 c24).m.aA.map aF.ID) W (vZ 9 c24):=by
    refine⟨D33,by rw [n33]; have:=a1.eO; omega,⟨λid hid=>?_,by grind⟩,by grind⟩;obtain⟨x,hx,rfl⟩:=gB.1 hid;exact by grind [xY]
  generalize am5:(vZ 9 c24).m.aA.map aF.ID=ids at *
  have hil:ids.length<=8:=by rw [<- am5,kF]; exact D33.H.few
  generalize aO9:vZ 9 c24=c33 at *
  -- copies
  obtain⟨L97,n97,s97,q97⟩:=lt_n L aj 64 au
  have hs:sD W ids c33<=64:=by
    have h1:sD W ids c33<=ids.length*W:=ajp av;have h2:ids.length*W<=8*8:=Oh hil aj;omega
  have hz:sD W ids (vZ 64 c33)=0:=aj;have F:Ful (c24.aJ+c24.r.iD) ids W (vZ 64 c33):=⟨L97,by grind,λid hid=>by have:=aht hz id hid; omega⟩
  -- whoever is too many goes
  obtain⟨b,hb⟩:∃ b,N=24+(9+(64+(b+1))):=⟨N - 98,aj⟩;obtain⟨F1,n1,h1⟩:=atz F aj b aj;obtain⟨F2,n2,h2⟩:=atz F aj (b+1) aj;have hfin:vZ N c=vZ (b+1) (vZ 64 c33):=by simp_all [alo]
  have al:∀ n∈(vZ (b+1) (vZ 64 c33)).m.aL,n.ID∈vK (vZ (b+1) (vZ 64 c33)).s (vZ (b+1) (vZ 64 c33)).r (vZ (b+1) (vZ 64 c33)).aJ:=(RO F1.L.D aj).2.2.2.2.2.2;rw [hfin];have hrf:(vZ (b+1) (vZ 64 c33)).r=c.r:=by grind [alp]
  generalize hcf:vZ (b+1) (vZ 64 c33)=cf at *
  obtain⟨kf,If⟩:=F2.L.D.H.inv;have mf:=dV.1 If.hm;have k97:=(dV.1 L97.D.H.inv.choose_spec.hm).2.1
  have hall:∀ x∈cf.m.aA,cf.r.jw<=((gL cf.m.aL x).length:Int)/\(x.aC.length:Int)<=cf.r.jw:=λx hx=>by
    have hid:=F2.L.ids.2 x hx;have g1:=F2.g x.ID hid;have g2:=h2 x.ID hid
    have g3:hN (vZ 64 c33) x.ID<=16:=by
      unfold hN; exact(uN k97).2 _ (uO k97 (L97.ids.1 x.ID hid))
    grind [gN,hN,RG]
  have Lf:Late (c24.aJ+c24.r.iD) cf:=⟨F2.L.D.H,F2.L.D.J,by have:=L97.T; omega,λp hp=>by rw [F2.L.D.bR] at hp; grind,al⟩;obtain⟨q1,q2⟩:=ajo Lf hall;refine⟨?_,F2.L.D.H⟩;unfold Bd;rw [<- hrf,q1,q2,ajd If F2.L.D.H.k]
  have:cf.m.aA.all (vR cf.m cf.r)=true:=by
    rw [ng];intro x hx;obtain⟨e1,e2⟩:=hall x hx;have e3:(gL cf.m.aL x).length<=x.aC.length:=ni _ _;unfold vR;rw [C8 mf.1 (by grind),sO (by grind),sO aj]; rfl
  grind
theorem ahu{r:ARules}(hr:l5 r=true){l:List AItem}(hl:∀ x∈l,Calm x):∀ k,k<=l.length->Keep (Dj (KC r) (l.take k))
  | 0,_=>by rw [X7]; exact aA8 r
  | k+1,hk=>by
    obtain⟨x,hx⟩:∃ x,l[k]? = some x:=⟨_,Ij aj⟩;rw [fC hx,Ud];exact ak0 (RD hr (l:=l) (k:=k) aj) (ahu hr hl k aj) (hl x (bZ hx))
structure Ris (c c1:PC):Prop where
  inv:∃ k,Inv c1 k
  m:c1.m=c.m
  s:c1.s=c.s
  aJ:c1.aJ=c.aJ
  r:c1.r=c.r
  bR:c1.bR=c.bR
  up:∀ z,wL c.hs z=true->wL c1.hs z=true
  hs:∀ z h,dY z c.hs=some h->∃ h1,dY z c1.hs=some h1/\h1.l=h.l/\h1.d=h.d
theorem Ris.ns{c c1:PC}(R:Ris c c1):c1.m.aL=c.m.aL:=by rw [R.m]
theorem Ris.ch{c c1:PC}(R:Ris c c1):c1.m.aA=c.m.aA:=by rw [R.m]
theorem ahv{c:PC}{k:Nat}(I:Inv c k)(z:Int):Ris c (oC c ⟨10,z,0,0⟩).1/\((dY z c.hs).isSome=true->wL (oC c ⟨10,z,0,0⟩).1.hs z=true):=by
  have I2:=xJ I ⟨10,z,0,0⟩
  revert I2
  rw [adZ (k:=10) au]
  cases hg:dY z c.hs with
  | none=>exact λI2=>⟨⟨⟨_,I⟩,rfl,rfl,rfl,rfl,rfl,λ_ h=>h,by grind⟩,av⟩
  | some h=>
    simp only
    by_cases hu:h.up=true
    · rw [aS (by rw [hu]; rfl)]
      exact λI2=>⟨⟨⟨_,I⟩,Y,Y,Y,Y,Y,λ_ h=>h,by grind⟩,by grind [wL]⟩
    · have hf:h.up=false:=by grind
      rw [aP (by rw [hf]; decide)]
      have ea:J6 c ⟨10,z,0,0⟩ h=({ c with hs:=gK z ⟨true,h.bG,h.l,h.d⟩ c.hs },0):=by
        unfold J6; rw [aP (by show ¬ (10:Int)=3; decide),aP (by show ¬ (10:Int)=4; decide),aP (by show ¬ (10:Int)=9; decide),aS rfl,Y6 (I.hz _ _ hg).l]
      rw [ea];intro I2;refine⟨⟨⟨_,I2⟩,Y,Y,Y,Y,Y,by grind [ad1],λy u hy=>?_⟩,by grind [Ws]⟩
      grind [oN]
theorem Ris.trans{a b c:PC}(h1:Ris a b)(h2:Ris b c):Ris a c:=
  ⟨h2.inv,h2.m.trans h1.m,h2.s.trans h1.s,h2.aJ.trans h1.aJ,h2.r.trans h1.r,h2.bR.trans h1.bR,λz h=>h2.up z (h1.up z h),λz h hz=>by
    obtain⟨u,hu,a1,a2⟩:=h1.hs z h hz;obtain⟨v,hv,b1,b2⟩:=h2.hs z u hu
    grind⟩
theorem Zj:∀(ids:List Int){c:PC}{k:Nat},Inv c k->Ris c (xK 10 ids c)/\∀ z∈ids,(dY z c.hs).isSome=true->wL (xK 10 ids c).hs z=true
  | [],c,k,I=>⟨⟨⟨k,I⟩,rfl,rfl,rfl,rfl,rfl,λ_ h=>h,λy h hy=>⟨h,hy,rfl,rfl⟩⟩,λz hz=>absurd hz av⟩
  | z::ids,c,k,I=>by
    obtain⟨R1,h1⟩:=ahv I z;obtain⟨k2,I2⟩:=R1.inv;obtain⟨R2,h2⟩:=Zj ids I2;refine⟨R1.trans R2,λy hy hs=>?_⟩
    rcases iR.1 hy with rfl | hy
    · exact R2.up _ (h1 hs)
    · refine h2 y hy ?_
      obtain⟨h,hh⟩:=Option.isSome_iff_exists.1 hs;obtain⟨u,hu,_⟩:=R1.hs y h hh;rw [hu]; rfl
theorem atC{c c1:PC}(R:Ris c c1)(hall:∀ z h1,dY z c1.hs=some h1->∃ h,dY z c.hs=some h/\h1.l=h.l/\h1.d=h.d)(K:Keep c):Keep c1:=by
  refine⟨by rw [R.ch]; exact K.a,?_,?_,by rw [R.ch,R.s,R.aJ]; exact K.t,by rw [R.ch,R.s,R.aJ,R.bR]; exact K.d⟩
  · rw [R.ch]
    intro x hx n hn;obtain⟨h,hg,hc⟩:=K.b x hx n hn;obtain⟨u,hu,e1,_⟩:=R.hs n h hg
    grind
  · rw [R.ch]
    intro z u hu y hy;obtain⟨h,hg,e1,e2⟩:=hall z u hu;rw [e1] at hy; rw [e2]; exact K.e z h hg y hy
theorem abj:∀(ids:List Int){c:PC}{k:Nat},Inv c k->∀ z h1,dY z (xK 10 ids c).hs=some h1->∃ h,dY z c.hs=some h/\h1.l=h.l/\h1.d=h.d
  | [],c,k,I,z,h1,hz=>⟨h1,hz,rfl,rfl⟩
  | n::ids,c,k,I,z,h1,hz=>by
    obtain⟨R1,_⟩:=ahv I n;obtain⟨k2,I2⟩:=R1.inv;obtain⟨u,hu,e1,e2⟩:=abj ids I2 z h1 hz
    have key:∃ h,dY z c.hs=some h:=by
      cases hg:dY z c.hs with
      | some h=>exact⟨h,rfl⟩
      | none=>
        exfalso
        revert hu
        rw [adZ (k:=10) au];show dY z (match dY n c.hs with | none=>(c,(5:Int)) | some h=>if uZ 10=some (!h.up) then(c,8) else J6 c ⟨10,n,0,0⟩ h).1.hs=some u->False
        cases hn:dY n c.hs with
        | none=>intro hu; rw [show dY z c.hs=some u from hu] at hg; exact absurd hg av
        | some h=>
          simp only
          split
          · intro hu; rw [show dY z c.hs=some u from hu] at hg; exact absurd hg av
          · unfold J6; rw [aP (by show ¬ (10:Int)=3; decide),aP (by show ¬ (10:Int)=4; decide),aP (by show ¬ (10:Int)=9; decide),aS rfl]
            show dY z (gK n _ c.hs)=some u->False;rw [oN]; split
            · rename_i he; rw [he,hn] at hg; exact absurd hg av
            · intro hu; rw [hu] at hg; exact absurd hg av
    obtain⟨h,hg⟩:=key;obtain⟨v,hv,b1,b2⟩:=R1.hs z h hg;rw [hu] at hv; injection hv with hv; subst hv;exact⟨h,hg,e1.trans b1,e2.trans b2⟩
theorem atD{c:PC}{k:Nat}(I:Inv c k)(K:Keep c)(U:Un c)(hb:lZ 0 c.s.cZ=true)(he:rP c.m c.r=true):Hl (xK 10 (zL c) c):=by
  obtain⟨R,hup⟩:=Zj (zL c) I;have hk:=atC R (abj (zL c) I) K;unfold rP at he
  simp only [bK,bM,ng] at he
  refine⟨R.inv,hk,λn hn=>?_,by rw [R.ns]; grind,by rw [R.ns,R.r]; grind,by rw [R.ch]; grind,by rw [R.r]; grind,by rw [R.r]; grind,⟨by rw [R.s,R.aJ,R.r]; exact U.l,by rw [R.s,R.aJ,R.r]; exact U.d⟩,by rw [R.s]; exact hb⟩;rw [R.ns] at hn;obtain⟨h,hg,_⟩:=I.hN n hn;exact hup n.ID (gB.2 (by grind)) (by grind)
theorem awV{r:ARules}(hr:l5 r=true){l:List AItem}:Inv (Dj (KC r) l) l.length/\(Dj (KC r) l).r=r/\Un (Dj (KC r) l)/\lZ 0 (Dj (KC r) l).s.cZ=true/\(Dj (KC r) l).bR.length<=l.length*(64+(Dj (KC r) l).m.aA.length):=by
  have h1:=RD hr (l:=l) (kJ _);have h2:=ali hr l l.length (kJ _);rw [OB] at h1 h2;exact⟨h1,asE l (KC r),atn l (aKt r),Ze l Y,h2⟩
theorem an7{r:ARules}{l:List AItem}(hr:l5 r=true)(aBt:l.length<=100)(hcalm:∀ x∈l,Calm x)(he:rP (Dj (KC r) l).m r=true):Bd (axZ 120 (Dj (KC r) l)) r=true:=by
  obtain⟨I,hrr,U,hb,ahn⟩:=awV hr (l:=l);have K:Keep (Dj (KC r) l):=by have:=ahu hr hcalm l.length (kJ _); grind
  generalize hc:Dj (KC r) l=c at *
  rw [<- hrr] at he;have H:=atD I K U hb he;obtain⟨R,_⟩:=Zj (zL c) I;have hu:=I.hu;have h8:c.m.aA.length<=8:=by rw [<- R.ch]; exact H.few
  have hw:(xK 10 (zL c) c).bR.length<=7200:=by
    rw [R.bR];have:l.length*(64+c.m.aA.length)<=100*72:=Oh aBt aj;omega
  have:=(an6 H (by rw [R.aJ]; omega) hw (N:=120) au au).1;rw [R.r,hrr] at this;exact this
end
section
theorem an8{b w:World}{S:Nat->Prop}{F:List lG}{jU:ah}{jR:Nat}{l:List AItem}(H0:Hp b S w (dH tItem jU jR l::F))(r:ARules)(hr:l5 r=false)(hwf:∀ x∈l,qC x.C) :
    bO prog 7 #[.agg #[aI r.kY,aI r.l7,aI r.All,aI r.jw,aI r.iD,aI r.eZ],.slice jU l.length jR] w λv w'=>v=.bool true/\Hp b S w' F:=by
 refine rU func7 ntmps7 Y<|rg<|bx Y Y H0 λg1 w1 K1=>bX Y<|rg<|gU Y (agW K1 ) ?_
 rintro _ w2 ⟨rfl,K2⟩;refine bX Y<|rg<|ev (fK JZ Y Y (K2.x s0))<|gU Y (awc K2 r hr) ?_
 rintro _ w3 ⟨rfl,K3⟩;refine mv Y<|xt Y Y<|xt Y Y<|jk Y<|bX Y<|bQ Y ?_
 have H1:=K3.push (K3.s s1);refine gU Y (U1 H1 ) ?_;rintro _ w4 ⟨rfl,K4⟩;refine bX Y<|aY<|bQ Y<|ev (iG Y)<|mv Y<|bE Y (bq Y) Y<|bE Y (eX O8 Y) Y<|bE Y (sQ Y Y) Y<|ev (dS Y Y)<|mv Y ?_
 cases amU:decide (100<((l.length:Nat):Int)) with
 | true=>
  refine dN<|dN<|ev (dM Y Y)<|mv Y<|dN<|dN<|ev (dM Y Y)<|mv Y<|dN<|dN<|ev (dM Y Y)<|dn<|bP Y (λ_h=>?_) nofun
  refine bQ Y<|bX Y<|wO Y ?_
  exact⟨Y,(K4.cU 0 2)⟩
 | false=>
  refine bE Y (bq Y) Y<|bE Y (iG Y) Y<|ev (dS Y Y)<|mv Y ?_
  cases aD0:(!(MC l)) with
  | true=>
   refine dN<|dN<|ev (dM Y Y)<|mv Y<|dN<|dN<|ev (dM Y Y)<|dn<|bP Y (λ_h=>?_) nofun
   refine bQ Y<|bX Y<|wO Y ?_
   exact⟨Y,(K4.cU 0 2)⟩
  | false=>
   refine bE Y (bq Y) Y<|bE Y (rY Y Y) Y<|ev (dS Y Y)<|mv Y<|dN<|dN<|ev (dM Y Y)<|dn<|bP Y (λ_h=>?_) nofun
   refine bQ Y<|bX Y<|wO Y ?_
   exact⟨Y,(K4.cU 0 2)⟩
theorem ajq{b w:World}{S:Nat->Prop}{F:List lG}{jU:ah}{jR:Nat}{l:List AItem}(H0:Hp b S w (dH tItem jU jR l::F))(r:ARules)(hr:l5 r=true)(hwf:∀ x∈l,qC x.C) :
    bO prog 7 #[.agg #[aI r.kY,aI r.l7,aI r.All,aI r.jw,aI r.iD,aI r.eZ],.slice jU l.length jR] w λv w'=>v=.bool true/\Hp b S w' F:=by
 refine rU func7 ntmps7 Y<|rg<|bx Y Y H0 λg1 w1 K1=>bX Y<|rg<|gU Y (agW K1 ) ?_
 rintro _ w2 ⟨rfl,K2⟩;refine bX Y<|rg<|ev (fK JZ Y Y (K2.x s0))<|gU Y (akQ K2 r hr) ?_
 rintro _ w3 ⟨aG0,ZX,rfl,adN,K3⟩;refine mv Y<|xt Y Y<|xt Y Y<|jk Y<|bX Y<|bQ Y ?_
 have H1:=K3.push (K3.s s2);refine gU Y (U1 H1 ) ?_;rintro _ w4 ⟨rfl,K4⟩;refine bX Y<|aY<|bQ Y<|ev (iG Y)<|mv Y<|bE Y (bq Y) Y<|bE Y (eX O8 Y) Y<|bE Y (sQ Y Y) Y<|ev (dS Y Y)<|mv Y ?_
 cases amU:decide (100<((l.length:Nat):Int)) with
 | true=>
  refine dN<|dN<|ev (dM Y Y)<|mv Y<|dN<|dN<|ev (dM Y Y)<|mv Y<|dN<|dN<|ev (dM Y Y)<|dn<|bP Y (λ_h=>?_) nofun
  refine bQ Y<|bX Y<|wO Y ?_
  exact⟨Y,(K4.cU 0 3)⟩
 | false=>
  refine bE Y (bq Y) Y<|bE Y (iG Y) Y<|ev (dS Y Y)<|mv Y ?_
  cases aD0:(!(MC l)) with
  | true=>
   refine dN<|dN<|ev (dM Y Y)<|mv Y<|dN<|dN<|ev (dM Y Y)<|dn<|bP Y (λ_h=>?_) nofun
   refine bQ Y<|bX Y<|wO Y ?_
   exact⟨Y,(K4.cU 0 3)⟩
  | false=>
   refine bE Y (bq Y) Y<|bE Y (rY Y Y) Y<|ev (dS Y Y)<|mv Y<|bE Y (bq Y) Y<|bE Y (Ev.amY underlying26 Y Y) Y<|ev (dS Y Y)<|dn<|bP Y nofun (λ_h=>?_)
   refine jy ?_;refine aY ?_;have aBt:l.length<=100:=by have h9:¬ (100:Int)<((l.length:Nat):Int):=jS (by assumption); omega
   have hcalm:∀ x∈l,Calm x:=as6.1 (by simp_all);refine iT Y<|cB<|qZ (λmJ lJ wJ=>∃(k:Nat)(Gk:GC),lJ=[(1,.slice jU l.length jR),(2,gI g1),(6,gI aG0),(9,aI ((k:Nat):Int))]/\mJ=l.length - k/\k<=l.length/\(Gk.pl=Dj (KC r) (l.take k))/\Hp b S wJ (wN aG0 Gk::dW g1 23 [aI r.kY,aI r.l7,aI r.All,aI r.jw,aI r.iD,aI r.eZ]::dH tItem jU jR l::F)) ⟨0,ZX,Y,Y,fE _,by rw [adN]; rfl,K4⟩ rfl ?_
   rintro _ _ w5 ⟨k,Gk,rfl,rfl,hk,hG,K5⟩;refine aY<|bQ Y<|mv Y<|ev (eX O8 Y)<|ev (fD Y Y)<|dn<|bP Y (λxH=>?_) (λxH=>?_)
   ·replace xH:=iY xH;refine jy ?_;refine aY<|cB ?_
    have hI:Inv Gk.pl k:=by rw [hG]; exact RD hr aj
    refine jC<|mv Y<|mv Y<|mv Y ?_
    obtain⟨x1,bN⟩:=bn (xs:=l) (i:=k) aj;refine ev (eP (i:=k) O8 akH Y Y Y (aM bN) ((K5.s s2).some_ bN))<|ev (iU CW Y Y ((K5.s s2).fF bN))<|gU Y (E8 K5 x1 (hI.ok aj) (hwf _ (bZ bN))) ?_
    rintro _ w6 ⟨adO,rfl,agY,K6⟩;have hI2:Inv adO.pl (k+1):=by rw [agY]; exact xJ hI _
    have hr9:adO.pl.r=r:=by rw [agY,agU,hG,asE]; rfl
    skip
    refine jD<|iw (gy ?_)
    refine jC<|mv Y<|ev (dP Y Y)<|jk Y<|jD<|dG ⟨(k+1),adO,Y,Y,aj,by rw [fC bN,Ud,<- hG]; exact agY,K6⟩ rfl aj
   replace xH:=jS xH;refine xq ?_;have hkl:k=l.length:=aj;subst hkl;rw [OB] at hG;have hF:Fine Gk.pl l.length 0:=by have h9:=atc hr (l:=l) (kJ _); rw [OB,<- hG] at h9; exact h9
   refine He K5 (λ_ K=>K) (λl0 rk lJ wJ=>lJ=(10,.bool (rP Gk.pl.m r))::l0/\Hp b S wJ rk) (λhns H2=>?_) ?_
   ·refine lQ 0 Y Y H2<|l9 2 Y (λ_ hK=>fK JZ Y Y (hK.x s1)) H2<|O1 1 Y<|gU Y (RF H2 (hF.ok aj aj)) ?_
    rintro _ w7 ⟨Y0,Y1,aKF,aKG,aKH,aKI,rfl,K7⟩;have aMW:=(K7.s s0).bC;have aMX:=(K7.s s1).bC;have aMY:=(K7.s s2).bC;have k1:=(K7.cU 0 3);refine aO k1<|O1 3 Y<|nD K7 Y (anY _ Gk.pl.m (K7.s s0).any (K7.s s1).any (K7.s s2).any r) λw8 K8=>?_
    have k2:=(K8.cU 0 3);refine aO k2<|xL 4 Y Y k2<|Dn ⟨Y,(K8.cU 0 3)⟩ Y
   rintro _ w9 ⟨rfl,K9⟩;refine aY<|bQ Y<|ev (iG Y)<|dn<|bP Y (λaBu=>?_) (λaBu=>?_)
   ·try simp only [eT,dO,bK,eu,dZ,fI,bM,bV] at aBu
    refine iT Y<|wO Y ?_
    exact⟨Y,(K9.cU 0 3)⟩
   try simp only [eT,dO,bK,eu,dZ,fI,bM,bV] at aBu
   refine jy ?_;refine bQ Y<|gU Y (ate K9 120 hF aj aj aj) ?_
   rintro _ Om ⟨ax6,rfl,ax7,K10⟩;refine dn ?_;have hF3:Fine ax6.pl (l.length+240) 3856:=by rw [ax7]; exact(Pg ((MG (.inr (.inr (.inr (.inl rfl)))) _ hF).mono (kJ _) (by have:=RJ hF; omega:_<=16)) 120).mono aj aj
   refine bQ Y<|ev (fK JZ Y Y (K10.x s1))<|gU Y (atg K10 r (hF3.ok aj aj)) ?_
   rintro _ Va ⟨rfl,vM⟩;refine bX Y<|bQ Y<|bX Y<|iP Y ?_
   have fT:(Bd ax6.pl r:Bool)=true:=by rw [ax7,hG]; exact an7 hr aBt hcalm (by rw [<- hG]; simp_all)
   exact⟨by rw [<- fT] <;> rfl,(vM.cU 0 3)⟩
theorem cheals_true{S0:Nat->Prop}(w:World)(r:ARules){A:ah}{c:Nat}{l:List AItem}(jE:Sl tItem S0 w A c l)(hwf:∀ x∈l,x.wf) :
    bO prog 7 #[.agg #[aI r.kY,aI r.l7,aI r.All,aI r.jw,aI r.iD,aI r.eZ],.slice A l.length c] w λv w'=>v=.bool true/\Hp w S0 w' []:=by
  have H0:=(Hp.init w S0).push ((Hp.init w S0).a jE);have hC:∀ x∈l,qC x.C:=λx hx=>(hwf x hx).2.2.2
  cases hr:l5 r with
  | false=>exact an8 (F:=[]) H0 r hr hC
  | true=>exact ajq (F:=[]) H0 r hr hC
end
end Go.Proofs.YtlhnnmlenkahlaaGreat
