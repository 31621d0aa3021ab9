/- Lemmas. -/
import Derived.Test.YthcmboepffiliaaGreatvG14
set_option maxRecDepth 4000
set_option linter.all false
namespace Go.Proofs.YthcmboepffiliaaGreat
open Go.RowKit Go.Proofs.Tryz
def aaA:=@Int.ofNat_le
def alf:=@List.eq_nil_iff_forall_not_mem
def alg:=@Decidable.byContradiction
section
def hst(hs:jc)(n:Int)(x:aH):Prop:=∃ h,cZ n hs=some h/\aiV h.l x
theorem BI{hs:jc}{n:Int}{x y:aH}(h1:y.ID=x.ID)(h2:y.E=x.E)(h3:y.Sum=x.Sum):hst hs n y↔hst hs n x:=by
 grind [hst,aiV]
def yS:∀(l q:V Int),l.Nodup->(∀ x∈l,x∈q)->l.length<=q.length
 | [],_,_,_=>fI _
 | a::l,q,hn,h=>by
  have hn:=FL.1 hn;have ih:=yS l (q.erase a) hn.2 (λx hx=>(List.mem_erase_of_ne (λe=>hn.1 (by rw [<- e]; exact hx))).2 (h x (kL _ hx)))
  grind
def TM{α:Type}{key:α->Int}:∀ {l:V α},Up key l->(l.map key).Nodup
 | [],_=>List.nodup_nil
 | a::l,h=>by
  have h1:=nT.1 h;rw [mg,FL];refine⟨λhm=>?_,TM h1.2⟩;obtain⟨b,hb,e⟩:=eX.1 hm;have:=h1.1 b hb; omega
def alh{l q:V aH}(hl:ku l=true)(h:∀ y∈l,∃ z∈q,z.ID=y.ID):l.length<=q.length:=by
 have:=yS (l.map aH.ID) (q.map aH.ID) (TM (lS hl)) (λx hx=>by
  obtain⟨y,hy,rfl⟩:=eX.1 hx;obtain⟨z,hz,e⟩:=h y hy
  exact eX.2 ⟨z,hz,e⟩)
 grind
def Vz{l q:V aH}(hl:ku l=true)(hq:ku q=true)(h:kS l q):q.length=l.length:=
 Nat.le_antisymm (alh hq λy hy=>by obtain⟨x,hx,e,_⟩:=h.2 y hy; grind) (alh hl λy hy=>by obtain⟨x,hx,e,_⟩:=h.1 y hy; grind)
def av9{l:V aI}(h:LA l):(l.map aI.X).Nodup:=by
 have:Up aI.X l:=List.Pairwise.imp_of_mem (λ{a b} ha hb hab=>by
  have h1:=h.2 a ha; have h2:=h.2 b hb; grind) h.up
 exact TM this
def awc{l:V aI}(h:LA l){cs:V aH}(he:∀ y∈l,TJ cs y):l.length<=cs.length:=by
 have:=yS (l.map aI.X) (cs.map aH.ID) (av9 h) (λx hx=>by
  obtain⟨y,hy,rfl⟩:=eX.1 hx;obtain⟨z,hz,e,_⟩:=he y hy
  exact eX.2 ⟨z,hz,e⟩)
 grind
theorem acN{m:bY}(hm:lU m=true){x:eU}(hk:x.Kind=3∨x.Kind=4∨x.Kind=5∨x.Kind=6)(h0:x.Client=0):(rJ m x).aM=m.aM:=by
 rcases(wL hm aj h0).2 with h | ⟨hk',_,_⟩ | ⟨n0,hk',_,_,_,_,_⟩
 all_goals grind
def afw:∀(l:V eU){m:bY},lU m=true->(∀ x∈l,x.Client=0/\(x.Kind=5∨x.Kind=6))->(CW m l).aM=m.aM
 | [],_,_,_=>rfl
 | x::l,m,hm,hl=>by
  have hx:=hl x mO;exact(afw l (nP hm x) (λy hy=>hl y (kL _ hy))).trans (acN hm aj hx.1)
def anv{m:bY}(hm:lU m=true){x:eU}(h5:x.Kind=5)(h0:x.Client=0)(hv:∀ c∈m.J,c.ID=x.A->c.E=x.C):∀ y∈(rJ m x).J,∃ w∈m.J,y.ID=w.ID/\y.E=w.E/\y.Sum=w.Sum/\∀ n,n∈y.aD↔n∈w.aD∨(w.ID=x.A/\n=x.B/\iZ m.aM x.B=true):=by
 intro y hy
 rcases(wL hm aj h0).1 with h | ⟨hk',_,_,_⟩ | ⟨c,hk',_,_,_⟩ | ⟨c,H,hk',hc,hi,_,hs,hn,hH,hl,h⟩ | ⟨c,H,hk',_,_,_,_,_,_⟩
 all_goals grind [avN]
structure afx (s:fQ) (Z z:Int) (l:List eU) (ns:List aT) (w y:aH):Prop where
  id:y.ID=w.ID
  ver:y.E=w.E
  sum:y.Sum=w.Sum
  ne:∀ n,n≠z->(n∈y.aD↔n∈w.aD)
  inn:z∈y.aD->z∈w.aD∨∃ x∈l,x.Kind=5/\x.A=w.ID/\wo s Z w.ID z=false
  out:(∃ x∈l,x.Kind=6/\x.A=w.ID)->(∀ x∈l,x.A=w.ID->x.Kind=6)->z∉y.aD
  stay:z∈w.aD->(∀ x∈l,x.A=w.ID->x.Kind=5)->z∈y.aD
  add:(∃ x∈l,x.Kind=5/\x.A=w.ID)->(∀ x∈l,x.A=w.ID->x.Kind=5)->wo s Z w.ID z=false->iZ ns z=true->z∈y.aD
def afx.nil{s:fQ}{Z z:Int}{ns:V aT}(w:aH):afx s Z z [] ns w w:=
 ⟨rfl,rfl,rfl,av,.inl,av,λh _=>h,av⟩
def afx.cons{s:fQ}{Z z:Int}{ns:V aT}{x:eU}{l:V eU}{w y1 y:aH}(h1:afx s Z z [x] ns w y1)(h2:afx s Z z l ns y1 y):afx s Z z (x::l) ns w y:=by
 have a2:=fun(P:eU->Prop)=>(rP (p:=P) (a:=x) (l:=l)).1;refine⟨h2.id.trans h1.id,h2.ver.trans h1.ver,h2.sum.trans h1.sum,λn hn=>(h2.ne n hn).trans (h1.ne n hn),λh=>?_,fun⟨u,hu,k6,hA⟩ hall=>?_,λh hall=>?_,fun⟨u,hu,k5,hA⟩ hall ht hs=>?_⟩
 ·rcases h2.inn h with h | ⟨u,hu,k,a,t⟩
  ·rcases h1.inn h with h | ⟨u,hu,k,a,t⟩
   ·exact .inl h
   ·exact .inr ⟨u,by rw [mU.1 hu]; exact mO,k,a,t⟩
  ·rw [h1.id] at a t; exact .inr ⟨u,kL _ hu,k,a,t⟩
 ·by_cases hl:∃ u∈l,u.Kind=6/\u.A=w.ID
  ·obtain⟨v,hv,b1,b2⟩:=hl
   exact h2.out ⟨v,hv,b1,b2.trans h1.id.symm⟩ (λt ht e=>hall t (kL _ ht) (e.trans h1.id))
  ·rcases gW.1 hu with rfl | hu
   ·intro hy
    rcases h2.inn hy with h | ⟨t,ht,k,a,_⟩
    ·exact h1.out ⟨u,mU.2 rfl,k6,hA⟩ (λt ht _=>by rw [mU.1 ht]; exact k6) h
    ·have:=hall t (kL _ ht) (a.trans h1.id); omega
   ·exact absurd ⟨u,hu,k6,hA⟩ hl
 ·exact h2.stay (h1.stay h λt ht e=>hall t (by rw [mU.1 ht]; exact mO) e) (λt ht e=>hall t (kL _ ht) (e.trans h1.id))
 ·have hr:∀ t∈l,t.A=y1.ID->t.Kind=5:=λt ht e=>hall t (kL _ ht) (e.trans h1.id)
  rcases gW.1 hu with rfl | hu
  ·exact h2.stay (h1.add ⟨u,mU.2 rfl,k5,hA⟩ (λt ht _=>by rw [mU.1 ht]; exact k5) ht hs) hr
  ·exact h2.add ⟨u,hu,k5,hA.trans h1.id.symm⟩ hr (by rw [h1.id]; exact ht) hs
def awd{s:fQ}{Z z:Int}{m:bY}{x:eU}(hm:lU m=true)(h0:x.Client=0)(hB:x.B=z)(hk:x.Kind=6∨(x.Kind=5/\∀ c∈m.J,c.ID=x.A->c.E=x.C)):(Gm s Z z m x).aM=m.aM/\lU (Gm s Z z m x)=true/\∀ y∈(Gm s Z z m x).J,∃ w∈m.J,afx s Z z [x] m.aM w y:=by
 have one:∀ {P:eU->Prop},P x->∀ t∈[x],P t:=by simp
 unfold Gm
 by_cases hc:(!decide (x.Kind=5)||!wo s Z x.A z)=true
 ·rw [aS hc]
  refine⟨by grind [acN],nP hm x,λy hy=>?_⟩
  rcases hk with h6 | ⟨h5,hv⟩
  ·obtain⟨w,hw,e1,e2,e3,e4⟩:=aiY hm h6 h0 y hy
   refine⟨w,hw,e1,e2,e3,by grind,by grind,λ_ hall h=>?_,λh hall=>?_,fun⟨u,hu,k5,_⟩=>?_⟩
   all_goals grind
  ·obtain⟨w,hw,e1,e2,e3,e4⟩:=anv hm h5 h0 hv y hy
   have ht:wo s Z x.A z=false:=by grind
   refine⟨w,hw,e1,e2,e3,by grind,λh=>?_,fun⟨u,hu,k6,_⟩=>?_,by grind,fun⟨u,hu,_,hA⟩ _ _ hs=>?_⟩
   all_goals grind
 ·rw [aQ hc]
  have hc:x.Kind=5/\wo s Z x.A z=true:=by grind
  refine⟨Y,hm,λy hy=>⟨y,hy,Y,Y,Y,av,.inl,fun⟨u,hu,k6,_⟩=>?_,λh _=>h,fun⟨u,hu,_,hA⟩ _ ht=>?_⟩⟩
  all_goals grind
def anw{s:fQ}{Z z:Int}:∀(l:V eU){m:bY},lU m=true->(∀ x∈l,x.Client=0/\x.B=z/\(x.Kind=6∨(x.Kind=5/\∀ c∈m.J,c.ID=x.A->c.E=x.C)))->
  (lM s Z z m l).aM=m.aM/\∀ y∈(lM s Z z m l).J,∃ w∈m.J,afx s Z z l m.aM w y
 | [],m,_,_=>⟨rfl,λy hy=>⟨y,hy,afx.nil y⟩⟩
 | x::l,m,hm,hl=>by
  have hx:=hl x mO;obtain⟨n1,m1,e1⟩:=awd (s:=s) (Z:=Z) (z:=z) hm hx.1 hx.2.1 hx.2.2
  obtain⟨n2,e2⟩:=anw (s:=s) (Z:=Z) (z:=z) l m1 (λu hu=>by
   have h:=hl u (kL _ hu);refine⟨h.1,h.2.1,h.2.2.imp id λh=>⟨h.1,λc hc hi=>?_⟩⟩;obtain⟨w,hw,e⟩:=e1 c hc
   rw [e.ver]; exact h.2 w hw (e.id.symm.trans hi))
  refine⟨n2.trans n1,λy hy=>?_⟩;obtain⟨y1,hy1,e⟩:=e2 y hy;obtain⟨w,hw,f⟩:=e1 y1 hy1;rw [n1] at e;exact⟨w,hw,f.cons e⟩
def awe{cs:V aH}(hm:ku cs=true){n:Int}(hz:1<=n/\n<=16){l:V aI}{w:aH}(hw:w∈cs):(Jj l w=true->n∉w.aD->(⟨0,0,5,w.ID,n,w.E⟩:eU)∈jS cs n l)/\(Jj l w=false->n∈w.aD->(⟨0,0,6,w.ID,n,0⟩:eU)∈jS cs n l):=by
 grind [recC,jS,Jj]
structure aPK (s:fQ) (Z z:Int) (rl:List aI) (ns:List aT) (w y:aH):Prop where
  id:y.ID=w.ID
  ver:y.E=w.E
  sum:y.Sum=w.Sum
  ne:∀ n,n≠z->(n∈y.aD↔n∈w.aD)
  no:Jj rl w=false->z∉y.aD
  st:Jj rl w=true->z∈w.aD->z∈y.aD
  inn:z∈y.aD->z∈w.aD∨(Jj rl w=true/\wo s Z w.ID z=false)
  add:Jj rl w=true->wo s Z w.ID z=false->iZ ns z=true->z∈y.aD
def azT{m:bY}(hm:lU m=true){z:Int}(hz:1<=z/\z<=16){s:fQ}{Z:Int}(rl:V aI):(lM s Z z m (jS m.J z rl)).aM=m.aM/\∀ y∈(lM s Z z m (jS m.J z rl)).J,∃ w∈m.J,aPK s Z z rl m.aM w y:=by
 have hc:=(dD.1 hm).2.1;have hu:=lS hc
 obtain⟨hn,he⟩:=anw (s:=s) (Z:=Z) (z:=z) (jS m.J z rl) hm (λx hx=>by
  obtain⟨h1,h2,h3⟩:=QG x hx;refine⟨h2,h1,?_⟩
  rcases h3 with ⟨h5,c,hc',hA,hC,_⟩ | ⟨h6,_⟩
  ·exact .inr ⟨h5,λd hd hi=>by have:=lI hu hd hc' (hi.trans hA); subst this; exact hC.symm⟩
  ·exact .inl h6)
 refine⟨hn,λy hy=>?_⟩;obtain⟨w,hw,e⟩:=he y hy
 have k5:∀ x∈jS m.J z rl,x.A=w.ID->x.Kind=5->Jj rl w=true:=λx hx hA h5=>by
  rcases(QG x hx).2.2 with ⟨_,c,hc',hA',_,hR⟩ | ⟨h6,_⟩
  ·have:=lI hu hw hc' (hA.symm.trans hA'); subst this; exact hR
  ·omega
 have k6:∀ x∈jS m.J z rl,x.A=w.ID->x.Kind=6->Jj rl w=false:=λx hx hA h6=>by
  rcases(QG x hx).2.2 with ⟨h5,_⟩ | ⟨_,c,hc',hA',hR,_⟩
  ·omega
  ·have:=lI hu hw hc' (hA.symm.trans hA'); subst this; exact hR
 have kk:∀ x∈jS m.J z rl,x.Kind=5∨x.Kind=6:=λx hx=>(QG x hx).2.2.imp (λh=>h.1) (λh=>h.1);have aEZ:Jj rl w=true->∀ x∈jS m.J z rl,x.A=w.ID->x.Kind=5:=λhR x hx hA=>(kk x hx).elim id λh=>by rw [k6 x hx hA h] at hR; exact absurd hR au
 have aPL:Jj rl w=false->∀ x∈jS m.J z rl,x.A=w.ID->x.Kind=6:=λhR x hx hA=>(kk x hx).elim (λh=>by rw [k5 x hx hA h] at hR; exact absurd hR au) id;refine⟨w,hw,e.id,e.ver,e.sum,e.ne,λhR hy=>?_,λhR h=>e.stay h (aEZ hR),λh=>?_,λhR ht hs=>?_⟩
 ·by_cases hz':z∈w.aD
  ·exact e.out ⟨_,(awe hc hz hw).2 hR hz',rfl,rfl⟩ (aPL hR) hy
  ·rcases e.inn hy with h | ⟨x,hx,h5,hA,_⟩
   ·exact hz' h
   ·rw [k5 x hx hA h5] at hR; exact absurd hR au
 ·rcases e.inn h with h | ⟨x,hx,h5,hA,ht⟩
  ·exact .inl h
  ·exact .inr ⟨k5 x hx hA h5,ht⟩
 ·by_cases hz':z∈w.aD
  ·exact e.stay hz' (aEZ hR)
  ·exact e.add ⟨_,(awe hc hz hw).1 hR hz',rfl,rfl⟩ (aEZ hR) ht hs
structure aE0 (c:PC) (ids:List Int) (c1:PC):Prop where
  hs:c1.hs=c.hs
  s:c1.s=c.s
  Z:c1.Z=c.Z
  r:c1.r=c.r
  ns:c1.m.aM=c.m.aM
  s3:kS c.m.J c1.m.J
  ch:∀ y∈c1.m.J,∃ w∈c.m.J,y.ID=w.ID/\y.E=w.E/\y.Sum=w.Sum/\
    (∀ n∈ids,n∈y.aD->hst c.hs n w)/\
    (∀ n,n∈w.aD->(n∈ids->hst c.hs n w)->n∈y.aD)/\
    (∀ n,n∈y.aD->n∈w.aD∨(hst c.hs n w/\wo c.s c.Z w.ID n=false))/\
    (∀ n∈ids,hst c.hs n w->wo c.s c.Z w.ID n=false->iZ c.m.aM n=true->n∈y.aD)
  I:∃ S,c1.I=c.I++S/\S.length<=c.m.J.length*ids.length/\∀ o∈S,o.Kind=1/\o.iK=c.Z+c.r.gV/\o.To∈ids/\∃ x∈c.m.J,x.ID=o.X/\o.E<x.E
def afy{c:PC}{k z:Int}(hk:k=3∨k=4∨k=9∨k=10∨k=12):nJ c ⟨k,z,0,0⟩=match cZ z c.hs with | none=>(c,5) | some h=>if vD k=some (!h.up) then(c,8) else Il c ⟨k,z,0,0⟩ h:=by
 unfold nJ;rw [aQ (by grind),aQ (by grind),aQ (by grind),aQ (by grind),aQ (by grind),aQ (by grind),aQ (by grind)]
 rfl
def awf{c:PC}{k z:Int}{h:kV}(hk:k=3∨k=4∨k=9∨k=12)(hg:cZ z c.hs=some h)(hu:h.up=true):nJ c ⟨k,z,0,0⟩=Il c ⟨k,z,0,0⟩ h:=by
 rw [afy aj,hg]
 grind [vD]
theorem aE1{c:PC}{z:Int}{h:kV}(hg:cZ z c.hs=some h)(hu:h.up=true):nJ c ⟨4,z,0,0⟩=(LU c ⟨4,z,0,0⟩ h,0):=by
 rw [awf au hg hu];unfold Il; rw [aQ (by show ¬ (4:Int)=3; decide),aS rfl]
def afz:∀(ids:V Int){c:PC}{k:Nat},Inv c k->(∀ z∈ids,(1<=z/\z<=16)/\uP c.hs z=true)->(∀ z h,cZ z c.hs=some h->∀ y∈h.l,TJ c.m.J y)->aE0 c ids (rA 4 ids c)
 | [],c,k,H,_,_=>⟨rfl,rfl,rfl,rfl,rfl,QF _,λy hy=>⟨y,hy,rfl,rfl,rfl,λn hn=>absurd hn av,λn h _=>h,λn h=>.inl h,λn hn=>absurd hn av⟩,[],by show c.I=_; simp,av,λo ho=>absurd ho av⟩
 | z::ids,c,k,H,hid,hE=>by
  obtain⟨hz,hup⟩:=hid z mO;obtain⟨h,hg,hu⟩:=KO hup;have hO:=(H.hz _ _ hg).l;have hinv:=xB H ⟨4,z,0,0⟩;have e:(nJ c ⟨4,z,0,0⟩).1=LU c ⟨4,z,0,0⟩ h:=by grind [aE1]
  rw [e] at hinv;have hall:rA 4 (z::ids) c=rA 4 ids (LU c ⟨4,z,0,0⟩ h):=by grind [rA,nJ]
  rw [hall];obtain⟨hns,hch⟩:=azT H.hm hz (s:=c.s) (Z:=c.Z) (dL h.l);have hs3:kS c.m.J (LU c ⟨4,z,0,0⟩ h).m.J:=CX _ H.hm XP;have hlen:(LU c ⟨4,z,0,0⟩ h).m.J.length=c.m.J.length:=Vz (dD.1 H.hm).2.1 (dD.1 hinv.hm).2.1 hs3;have ih:=afz ids hinv (λn hn=>hid n (kL _ hn)) (λz' h' hg' y hy=>(hE z' h' hg' y hy).same hs3)
  generalize hc1:rA 4 ids (LU c ⟨4,z,0,0⟩ h)=c1 at *
  have aPM:(LU c ⟨4,z,0,0⟩ h).m.aM=c.m.aM:=hns;obtain⟨S,hS1,hS2,hS3⟩:=ih.I;refine⟨ih.hs,ih.s,ih.Z,ih.r,ih.ns.trans aPM,hs3.trans ih.s3,λy hy=>?_,?_⟩
  ·obtain⟨w',hw',a1,a2,a3,i1,i2,i3,i4⟩:=ih.ch y hy
   obtain⟨w,hw,aYe⟩:=hch w' hw';have hst':∀ n,hst c.hs n w'↔hst c.hs n w:=λn=>BI aYe.id aYe.ver aYe.sum
   have hR:Jj (dL h.l) w=true↔hst c.hs z w:=by
    rw [hO.rest,TK hO];exact⟨λhc=>⟨h,hg,hc⟩,fun⟨h',hg',hc⟩=>by rw [hg] at hg'; injection hg' with hg'; subst hg'; exact hc⟩
   have aU1:∀ n,hst (LU c ⟨4,z,0,0⟩ h).hs n w'↔hst c.hs n w:=hst';have aU2:∀ n,wo (LU c ⟨4,z,0,0⟩ h).s (LU c ⟨4,z,0,0⟩ h).Z w'.ID n=wo c.s c.Z w.ID n:=λn=>by rw [aYe.id]; rfl
   refine⟨w,hw,a1.trans aYe.id,a2.trans aYe.ver,a3.trans aYe.sum,λn hn hy=>?_,λn hn hh=>?_,λn hn=>?_,λn hn hh ht hs=>?_⟩
   ·by_cases hni:n∈ids
    ·grind
    ·have hnz:n=z:=by grind
     rcases i3 n hy with h1 | ⟨h1,_⟩
     ·rw [hnz] at h1 ⊢
      refine hR.1 (Bool.not_eq_false _ |>.mp λhf=>aYe.no hf h1)
     grind
   ·refine i2 n ?_ (by grind)
    by_cases hnz:n=z
    ·rw [hnz] at hn hh ⊢
     exact aYe.st (by grind) hn
    ·exact(aYe.ne n hnz).2 hn
   ·rcases i3 n hn with h1 | ⟨h1,h2⟩
    ·by_cases hnz:n=z
     ·rw [hnz] at h1 ⊢
      rcases aYe.inn h1 with h1 | ⟨h1,h2⟩
      all_goals grind
     ·exact .inl ((aYe.ne n hnz).1 h1)
    grind
   ·by_cases hni:n∈ids
    ·grind
    ·have hnz:n=z:=by grind
     rw [hnz] at hh ht hs ⊢;refine i2 z (aYe.add (hR.2 hh) ht hs) (by grind)
  ·have hrn:(LU c ⟨4,z,0,0⟩ h).I=c.I++uV (dL h.l) (lK (lM c.s c.Z z c.m (jS c.m.J z (dL h.l))).J (dL h.l)) z (c.Z+c.r.gV):=rfl
   refine⟨uV (dL h.l) (lK (lM c.s c.Z z c.m (jS c.m.J z (dL h.l))).J (dL h.l)) z (c.Z+c.r.gV)++S,by rw [hS1,hrn,o9],?_,λo ho=>?_⟩
   ·have h1:(uV (dL h.l) (lK (lM c.s c.Z z c.m (jS c.m.J z (dL h.l))).J (dL h.l)) z (c.Z+c.r.gV)).length<=h.l.length:=by grind [uV,List.length_map,Nat.le_trans,List.length_filter_le,EP]
    have h2:=awc hO (hE _ _ hg)
    grind [Nat.mul_succ]
   ·rcases j5.1 ho with ho | ho
    ·unfold uV at ho
     obtain⟨y,hy,rfl⟩:=eX.1 ho;have hy:=jJ.1 hy;have hyl:y∈h.l:=by have:=hy.1; rwa [hO.rest] at this
     have hys:y.X∈lK (lM c.s c.Z z c.m (jS c.m.J z (dL h.l))).J h.l:=by have:=nG.1 hy.2; rw [hO.rest] at this ⊢; exact this
     obtain⟨x,hx,e1,e2⟩:=Vw (dD.1 (FZ H.hm _)).2.1 hO (λy hy=>(hE _ _ hg y hy).same hs3) hyl hys;obtain⟨x0,hx0,b1,b2,b3⟩:=hs3.2 x hx
     grind
    ·obtain⟨b1,b2,b3,x,hx,b4,b5⟩:=hS3 o ho
     obtain⟨x0,hx0,d1,d2,d3⟩:=hs3.2 x hx;exact⟨b1,b2,kL _ b3,x0,hx0,d1.symm.trans b4,aj⟩
def aE2{c:PC}{k:Nat}(H:Inv c k)(it:AItem):∀ y∈c.m.J,∃ z∈(nJ c it).1.m.J,z.ID=y.ID:=by
 by_cases h11:it.Kind=11
 ·have e:nJ c it=rz c it:=by grind [nJ]
  rw [e]; unfold rz; intro y hy
  split
  ·grind
  rename_i hp
  split
  ·grind
  ·show ∃ z∈(CW (dS c.m (qy c.m it)).1 _).J,z.ID=y.ID
   rw [afl hp];have hk:=Jg c.m it;obtain⟨z,hz,h1⟩:=avI H.hm hk.1 hk.2.1 y hy;obtain⟨u,hu,h2⟩:=afs ((FY c it).2.map λz=>vR it.A z (dS c.m (qy c.m it)).2) (nP H.hm _) av z hz
   grind
 ·intro y hy
  obtain⟨z,hz,e,_⟩:=(Jk H it h11).1 y hy
  grind
def aql{c:PC}{k:Nat}(H:Inv c k)(it:AItem):c.m.J.length<=(nJ c it).1.m.J.length:=alh (dD.1 H.hm).2.1 (aE2 H it)
def aqm{c:PC}{k:Nat}(H:Inv c k)(it:AItem)(h11:it.Kind≠11):(nJ c it).1.m.J.length=c.m.J.length:=
 Vz (dD.1 H.hm).2.1 (dD.1 (xB H it).hm).2.1 (Jk H it h11)
def aaB(o:aL):bq:=⟨o.X,o.E,o.jm,o.To,o.iK⟩
def aaC{x:Ic}{c d:aH}{h:Int}:∀(f:Nat)(l:V bq)(o:V aL),∃ q,(LK x c d h f (l,o)).2=o++q/\(LK x c d h f (l,o)).1=l++q.map aaB/\∀ p∈q,p.Kind=0/\p.iK=x.u
 | 0,l,o=>⟨[],by show o=_; simp,by show l=_; simp,λp hp=>absurd hp av⟩
 | f+1,l,o=>by
  unfold LK
  split
  ·rename_i hc
   have hg:Ea l x.dG x.all c (uX x d l) (yY (tJ x c l)) x.u=true:=by
    have:=hc.2; unfold xu at this; simp only [bK] at this; exact this.2
   have e1:yL l x.dG x.all c (uX x d l) (yY (tJ x c l)) x.u=l++[AZ c (uX x d l) (yY (tJ x c l)) x.u]:=aS hg;have e2:xV l o x.dG x.all c (uX x d l) (yY (tJ x c l)) x.u=o++[Ew c (uX x d l) (yY (tJ x c l)) x.u]:=aS hg;obtain⟨q,h1,h2,h3⟩:=aaC (x:=x) (c:=c) (d:=d) (h:=h) f (yL l x.dG x.all c (uX x d l) (yY (tJ x c l)) x.u) (xV l o x.dG x.all c (uX x d l) (yY (tJ x c l)) x.u);refine⟨Ew c (uX x d l) (yY (tJ x c l)) x.u::q,?_,?_,?_⟩
   ·rw [h1,e2,o9]; rfl
   ·rw [h2,e1,o9]; rfl
   ·intro p hp
    rcases gW.1 hp with rfl | hp
    ·exact⟨rfl,rfl⟩
    ·exact h3 p hp
  ·exact⟨[],by show o=_; simp,by show l=_; simp,λp hp=>absurd hp av⟩
def NS{x:Ic}:∀(aYc:V dW)(s:V bq × V aL),∃ q,(qH x aYc s).2=s.2++q/\(qH x aYc s).1=s.1++q.map aaB/\∀ p∈q,p.Kind=0/\p.iK=x.u
 | [],s=>⟨[],by show s.2=_; simp,by show s.1=_; simp,λp hp=>absurd hp av⟩
 | n::aYc,s=>by
  obtain⟨q1,a1,a2,a3⟩:=aaC (x:=x) (c:=aV x.ks n.X) (d:=aV x.dH n.X) (h:=n.Have) 100 s.1 s.2;obtain⟨q2,b1,b2,b3⟩:=NS (x:=x) aYc (J8 x s n);refine⟨q1++q2,?_,?_,λp hp=>?_⟩
  ·show(qH x aYc (J8 x s n)).2=_
   rw [b1,show(J8 x s n).2=s.2++q1 from a1,o9]
  ·show(qH x aYc (J8 x s n)).1=_
   rw [b2,show(J8 x s n).1=s.1++q1.map aaB from a2,o9,sU]
  ·rcases j5.1 hp with hp | hp
   ·exact a3 p hp
   ·exact b3 p hp
def VA{m:bY}{s:fQ}{r:ARules}{Z:Int}(hl:s.bG.length<=64):(pF m s r Z).length<=64+m.J.length:=by
 unfold pF; split
 ·rename_i hb
  have hm:l5 r=true/\ku m.J=true:=by grind [rdB]
  have h1:=R6 (x:=Eb m s r Z) (og hm.1).2.2.2.1.2 (TY m s r Z) ((eT s Z).bG,[]) (by grind [EO]);have h2:(uH m s r Z).1.length<=64:=h1.1;have h3:(uH m s r Z).2.length+(eT s Z).bG.length=0+(uH m s r Z).1.length:=h1.2;have h4:(uY m s r Z).length<=(FE m s Z).length:=IX _ _ _ _ _ _ _;have h5:(FE m s Z).length=m.J.length:=CU _ _
  grind [rdO,rdQ,RX,xV]
 ·simp
def aE3{c:PC}{k:Nat}(H:Inv c k)(it:AItem):(nJ c it).1.I.length<=c.I.length+(64+c.m.J.length):=by
 unfold nJ
 split
 ·grind
 split
 ·show c.I.length<=_; omega
 split
 ·simp
 split
 ·have:=VA (m:=c.m) (r:=c.r) (Z:=c.Z) H.NI
  show(c.I++pF _ _ _ _).length<=_
  grind
 split
 ·grind [kM,List.length_append,List.length_singleton,List.length_take,List.length_drop,F7]
 split
 all_goals grind [rz,Il,LU,anh]
def anx{r:ARules}(hr:l5 r=true)(l:V AItem):∀ k,k<=l.length->(xO (Jh r) (l.take k)).I.length<=k*(64+(xO (Jh r) (l.take k)).m.J.length)
 | 0,_=>by rw [U4]; exact fI _
 | k+1,hk=>by
  have ih:=anx hr l k aj;have H:=OX hr (l:=l) (k:=k) aj;obtain⟨x,hx⟩:∃ x,l[k]? = some x:=⟨_,Ip aj⟩;rw [eO hx,OW];have h1:=aE3 H x;have h2:=aql H x;have h3:k*(64+(xO (Jh r) (l.take k)).m.J.length)<=k*(64+(nJ (xO (Jh r) (l.take k)) x).1.m.J.length):=Nat.mul_le_mul_left _ aj;rw [Nat.succ_mul]; omega
theorem TN(hs:jc)(z z2:Int)(h:kV):uP (fO z h hs) z2=if z2=z then h.up else uP hs z2:=by
 unfold uP; grind [lC]
theorem afA{hs:jc}{z:Int}{h h0:kV}(hg:cZ z hs=some h0)(hu:h.up=h0.up∨h.up=true){z2:Int}(h2:uP hs z2=true):uP (fO z h hs) z2=true:=by
 grind [uP,TN]
theorem aE4{c:PC}(o:aL){z:Int}(h:uP c.hs z=true):uP (j6 c o).hs z=true:=by
 grind [j6,afA]
theorem aE5{c:PC}(o:aL){z:Int}(h:uP c.hs z=true):uP (mZ c o).hs z=true:=by
 grind [mZ,aE4,afA]
def Wz(it:AItem):Prop:=(it.Kind=0/\0<=it.A)∨it.Kind=3∨it.Kind=4∨it.Kind=5∨it.Kind=6∨it.Kind=7∨it.Kind=10∨it.Kind=12
def aK3{c:PC}{it:AItem}(hk:Wz it){z:Int}(h:uP c.hs z=true):uP (nJ c it).1.hs z=true:=by
 unfold Wz at hk;unfold nJ
 split
 ·grind
 split
 ·omega
 split
 ·exact h
 split
 ·exact h
 split
 ·grind [kM,uP,aE5]
 split
 ·omega
 split
 ·exact h
 split
 ·exact h
 rename_i t ht
 split
 ·exact h
 unfold Il
 split
 ·exact h
 split
 ·exact h
 grind [afA]
theorem aE6{c:PC}{k:Nat}(H:Inv c k)(o:aL):(j6 c o).m.aM=c.m.aM:=by
 unfold j6; split
 ·rfl
 split
 ·rfl
 split
 ·rfl
 split
 ·rfl
 split
 ·rfl
 ·exact acN H.hm av rfl
def aE7{c:PC}{k:Nat}(H:Inv c k)(o:aL):(mZ c o).m.aM=c.m.aM:=by
 grind [mZ,aE6]
def anz{m:bY}{s:fQ}{r:ARules}{Z:Int}:∀ x∈mM m s r Z,x.Client=0/\(x.Kind=5∨x.Kind=6):=by grind [KP]
def afB{s:fQ}{Z z:Int}:∀(l:V eU){m:bY},lU m=true->(∀ x∈l,x.Client=0/\(x.Kind=5∨x.Kind=6))->(lM s Z z m l).aM=m.aM
 | [],_,_,_=>rfl
 | x::l,m,hm,hl=>by
  have hx:=hl x mO;show(lM s Z z (Gm s Z z m x) l).aM=_;unfold Gm; split
  ·exact(afB l (nP hm x) (λy hy=>hl y (kL _ hy))).trans (acN hm aj hx.1)
  ·exact afB l hm (λy hy=>hl y (kL _ hy))
def aBC{c:PC}{k:Nat}(H:Inv c k){it:AItem}(h1:it.Kind≠1)(h2:it.Kind≠2)(h11:it.Kind≠11):(nJ c it).1.m.aM=c.m.aM:=by
 unfold nJ
 split
 ·grind
 split
 ·exact afw _ H.hm anz
 split
 ·unfold kM
  split
  ·rfl
  split
  ·rfl
  split
  ·rfl
  ·show(if _ then _ else _:PC).m.aM=_
   split
   ·exact aE7 (c:={ c with I:=c.I.take it.A.toNat++c.I.drop (it.A.toNat+1) }) (k:=k) (GZ H (by have:=H.hw; grind)) _
   ·rfl
 split
 ·rfl
 split
 ·rfl
 split
 ·rfl
 unfold Il
 split
 ·rfl
 split
 ·exact afB _ H.hm (λx hx=>by have h:=QG x hx; grind)
 grind
structure Un (c:PC):Prop where
  l:∀ x∈c.s.bG,x.iK<=c.Z+c.r.gV
  d:∀ o∈c.s.bn,o.iK<=c.Z+c.r.gV
def aqn{m:bY}{s:fQ}{r:ARules}{Z:Int}:(∀ x∈(iM m s r Z).bG,x∈s.bG∨x.iK=Z+r.gV)/\∀ o∈(iM m s r Z).bn,o∈s.bn∨o.iK=Z+r.gV:=by
 unfold iM; split
 ·obtain⟨q,h1,h2,h3⟩:=NS (x:=Eb m s r Z) (TY m s r Z) ((eT s Z).bG,[])
  have hR:∀ x∈(uH m s r Z).1,x∈s.bG∨x.iK=Z+r.gV:=λx hx=>by
   rw [show(uH m s r Z).1=_ from h2] at hx
   rcases j5.1 hx with hx | hx
   ·exact .inl (jJ.1 hx).1
   ·obtain⟨p,hp,rfl⟩:=eX.1 hx
    exact .inr (h3 p hp).2
  refine⟨λx hx=>?_,λo ho=>?_⟩
  ·have hx:x∈rdL m s r Z:=hx
   unfold rdL at hx
   split at hx
   ·unfold RV at hx
    split at hx
    ·unfold yL at hx
     grind
    grind
   grind
  grind [qb,CY]
 grind
def aE8{c:PC}(aX8:Un c)(o:aL):Un (j6 c o):=by
 unfold j6; split
 ·exact aX8
 split
 ·exact aX8
 split
 ·exact aX8
 split
 ·exact aX8
 split
 ·exact⟨aX8.l,aX8.d⟩
 ·refine⟨λx hx=>?_,aX8.d⟩
  have hx:x∈(if _ then _ else _:V bq):=hx
  split at hx
  ·exact aX8.l x (by grind [acG])
  ·exact aX8.l x hx
def aE9{c:PC}(aX8:Un c)(o:aL):Un (mZ c o):=by
 unfold mZ; split
 ·exact aE8 aX8 o
 split
 ·exact aX8
 split
 ·exact⟨aX8.l,aX8.d⟩
 grind
def aBD{c:PC}(aX8:Un c)(it:AItem):Un (nJ c it).1:=by
 unfold nJ
 split
 ·split
  ·exact aX8
  ·rename_i h
   exact⟨λx hx=>by have:=aX8.l x hx; grind,λo ho=>by have:=aX8.d o ho; grind⟩
 split
 ·exact⟨aX8.l,aX8.d⟩
 split
 ·exact⟨aX8.l,aX8.d⟩
 split
 ·have h:=aqn (m:=c.m) (s:=c.s) (r:=c.r) (Z:=c.Z)
  refine⟨λx hx=>?_,λo ho=>?_⟩
  ·rcases h.1 x hx with h | h
   ·exact aX8.l x h
   ·exact Int.le_of_eq h
  ·rcases h.2 o ho with h | h
   ·exact aX8.d o h
   ·exact Int.le_of_eq h
 split
 ·unfold kM
  split
  ·exact aX8
  split
  ·exact aX8
  split
  ·exact⟨aX8.l,aX8.d⟩
  ·show Un (if _ then _ else _:PC)
   split
   ·exact aE9 (c:={ c with I:=c.I.take it.A.toNat++c.I.drop (it.A.toNat+1) }) ⟨aX8.l,aX8.d⟩ _
   ·exact⟨aX8.l,aX8.d⟩
 split
 ·unfold rz
  split
  ·exact aX8
  split <;> exact⟨aX8.l,aX8.d⟩
 split
 ·exact aX8
 split
 ·exact aX8
 split
 ·exact aX8
 unfold Il
 split
 ·exact⟨aX8.l,aX8.d⟩
 split
 ·exact⟨aX8.l,aX8.d⟩
 split
 ·exact⟨aX8.l,aX8.d⟩
 split
 ·exact⟨aX8.l,aX8.d⟩
 split
 ·exact⟨aX8.l,aX8.d⟩
 split <;> exact⟨aX8.l,aX8.d⟩
def awg:∀(l:V AItem){c:PC},Un c->Un (xO c l)
 | [],_,aX8=>aX8
 | it::l,_,aX8=>awg l (aBD aX8 it)
def aPN(r:ARules):Un (Jh r):=⟨by simp [absurd,Jh],by simp [absurd,Jh]⟩
structure Hl (c:PC):Prop where
  inv:∃ k,Inv c k
  k:Keep c
  up:∀ n∈c.m.aM,uP c.hs n.ID=true
  bB:∀ n∈c.m.aM,n.lV=16
  aK5:c.r.je<=(Ed c.m.aM:Int)
  few:c.m.J.length<=8
  dY:c.r.gV<=8
  lq:c.r.eF=16
  un:Un c
  bt:lZ 0 c.s.bZ=true
def Wz.calm{it:AItem}(h:Wz it):Calm it:=by grind [Wz,Calm]
def acO{c:PC}(H:Hl c){it:AItem}(hk:Wz it):Hl (nJ c it).1:=by
 obtain⟨k,aYd⟩:=H.inv;have h9:=hk;unfold Wz at h9;have hn:=aBC aYd (it:=it) aj aj aj;refine⟨⟨_,xB aYd it⟩,azJ aYd H.k hk.calm,λn hn'=>?_,?_,?_,?_,?_,?_,aBD H.un it,ank H.bt it⟩
 ·rw [hn] at hn'; exact aK3 hk (H.up n hn')
 ·rw [hn]; exact H.bB
 ·rw [hn,ak3]; exact H.aK5
 ·rw [aqm aYd it aj]; exact H.few
 ·rw [ak3]; exact H.dY
 ·rw [ak3]; exact H.lq
def Pd(I:List aL)(x:aH)(n:Int):Prop:=∃ p∈I,p.Kind≠0/\p.X=x.ID/\p.To=n/\p.E=x.E
def gL(ns:List aT)(x:aH):List Int:=x.aD.filter fun(n:Int)=>Ci ns n
def aBE(c:PC)(o:aL):Prop:=∀ x∈c.m.J,x.ID=o.X->o.To∉x.aD/\(hst c.hs o.To x->Pd c.I x o.To)/\c.r.je<=((gL c.m.aM x).length:Int)
structure aX9 (T:Int) (c:PC):Prop where
  jl:∀ x∈c.s.bG,x.iK<=T∨∃ p∈c.I,p.Kind=0/\p.X=x.X/\p.To=x.To
  jd:∀ o∈c.s.bn,c.Z<=o.iK->o.iK<=T∨aBE c o
def Qh(c:PC):Prop:=∀ n,iZ c.m.aM n=true->∀ x∈c.m.J,hst c.hs n x->n∈x.aD∨Pd c.I x n
structure PdC (c:PC) (o:aL) (x:aH):Prop where
  xm:x∈c.m.J
  id:x.ID=o.X
  ver:o.E=x.E
  sum:o.Sum=x.Sum
  fr:o.jm∈x.aD
  fu:uP c.hs o.jm=true
  nZ:∃ t,cZ o.To c.hs=some t/\t.bB=16/\∀ y∈t.l,y.X=x.ID->y.E<x.E
  st:iZ c.m.aM o.To=true
  nt:wo c.s c.Z o.X o.To=false
structure ai8 (c:PC) (o:aL):Prop where
  up:uP c.hs o.To=true
  tm:c.Z<=o.iK
  cp:o.Kind=0->∃ x,PdC c o x
def awh(a b:aL):Prop:=¬ (a.Kind=0/\b.Kind=0/\a.X=b.X/\a.To=b.To)
def NT{l:V Int}(h:l.Pairwise λx y=>x<y):l.Nodup:=h.imp (by grind)
def ai9{ns:V aT}{x:aH}(h:oF x=true):(gL ns x).Nodup:=NT ((F5 h).filter _)
def EF{ns:V aT}{x y:aH}(hx:oF x=true)(h:∀ n∈x.aD,n∈y.aD):(gL ns x).length<=(gL ns y).length:=
 yS _ _ (ai9 hx) λn hn=>by
  have:=jJ.1 hn;exact jJ.2 (by grind)
structure Dlv (c:PC) (os:List aL) (c1:PC):Prop where
  ns:c1.m.aM=c.m.aM
  Z:c1.Z=c.Z
  r:c1.r=c.r
  dr:c1.s.bn=c.s.bn
  bt:c1.s.bZ=c.s.bZ
  s3:kS c.m.J c1.m.J
  ch:∀ y∈c1.m.J,∃ w∈c.m.J,y.ID=w.ID/\y.E=w.E/\y.Sum=w.Sum/\∀ n,n∈y.aD↔n∈w.aD∨∃ o∈os,o.Kind=0/\o.X=w.ID/\n=o.To
def Dlv.nil(c:PC):Dlv c [] c:=⟨rfl,rfl,rfl,rfl,rfl,QF _,by grind⟩
def Dlv.cons{c c1 c2:PC}{o:aL}{os:V aL}(h1:Dlv c [o] c1)(h2:Dlv c1 os c2):Dlv c (o::os) c2:=by
 refine⟨h2.ns.trans h1.ns,h2.Z.trans h1.Z,h2.r.trans h1.r,h2.dr.trans h1.dr,h2.bt.trans h1.bt,h1.s3.trans h2.s3,λy hy=>?_⟩;obtain⟨v,hv,a1,a2,a3,a4⟩:=h2.ch y hy;obtain⟨w,hw,b1,b2,b3,b4⟩:=h1.ch v hv
 grind
def awj{c:PC}{o:aL}{rest:V aL}(hn:c.I=o::rest)(ht:c.Z<=o.iK)(hu:uP c.hs o.To=true):(nJ c ⟨6,0,0,0⟩).1=mZ { c with I:=rest } o:=by
 have e:nJ c ⟨6,0,0,0⟩=kM c ⟨6,0,0,0⟩:=by unfold nJ; rw [aQ au,aQ au,aQ au,aQ au,aS au]
 rw [e];unfold kM;rw [aQ (by show ¬ ((0:Int)<0∨(c.I.length:Int)<=0); rw [hn,oO]; omega)];have e2:c.I[(0:Int).toNat]? = some o:=by rw [hn]; rfl
 have e3:c.I.take (0:Int).toNat++c.I.drop ((0:Int).toNat+1)=rest:=by rw [hn]; rfl
 show(match c.I[(0:Int).toNat]? with | none=>(c,(5:Int)) | some o=>if(6:Int)=8 then({ c with I:=c.I++[o] },0) else(if(6:Int)=6/\c.Z<=o.iK/\uP c.hs o.To=true then mZ { c with I:=c.I.take (0:Int).toNat++c.I.drop ((0:Int).toNat+1) } o else { c with I:=c.I.take (0:Int).toNat++c.I.drop ((0:Int).toNat+1) },0)).1=_;rw [e2]; simp only;rw [aQ au]; simp only;rw [aS (by first | exact⟨rfl,ht,hu⟩ | exact⟨trivial,ht,hu⟩),e3]
def azU{l:V bq}{dG c t:Int}(h:OKl l dG):∀ x∈(if Lx l c t=0 then zX l c t else l),x∈l/\¬ (x.X=c/\x.To=t):=by
 intro x hx
 rcases TA (l:=l) (c:=c) (t:=t) with ⟨h1,h2⟩ | ⟨k,y,h1,h2,h3,h4⟩
 ·grind [Lx]
 ·have e:Lx l c t=0:=by grind [Lx]
  rw [aS e] at hx;unfold zX at hx;rw [h1,aQ aj,PU] at hx
  rcases j5.1 hx with hx | hx
  ·grind
  ·refine⟨List.mem_of_mem_drop hx,λhe=>?_⟩
   obtain⟨i,hi,hix⟩:=List.mem_iff_getElem.1 hx;rw [List.getElem_drop] at hix;rw [uj] at hi;obtain⟨hk,hky⟩:=rG.1 h2;have:=(ER.1 h.dif) k (k+1+i) hk aj aj
   grind
theorem awk{T:Int}{c:PC}{o:aL}{rest:V aL}(H:Hl c)(hJ:aX9 T c)(hn:c.I=o::rest)(hp:∀ p∈c.I,ai8 c p)(h0:o.Kind≠0):aX9 T (nJ c ⟨6,0,0,0⟩).1/\(nJ c ⟨6,0,0,0⟩).1.I=rest/\(∀ p∈rest,ai8 (nJ c ⟨6,0,0,0⟩).1 p)/\(Qh c->Qh (nJ c ⟨6,0,0,0⟩).1)/\Dlv c [o] (nJ c ⟨6,0,0,0⟩).1:=by
 obtain⟨k,aYd⟩:=H.inv;have hpo:=hp o (by rw [hn]; exact mO);have e:=awj hn hpo.tm hpo.up;obtain⟨t,ht,htu⟩:=KO hpo.up;have hO:=(aYd.hz _ _ ht).l
 -- what changes: the servers alone
 obtain⟨hs1,e1,F1,F2,F3,F4⟩:∃ hs1,(nJ c ⟨6,0,0,0⟩).1={ c with I:=rest,hs:=hs1 }/\(∀ n x,hst hs1 n x->hst c.hs n x)/\(∀ x:aH,x.ID=o.X->o.E=x.E->¬ hst hs1 o.To x)/\(∀ z u,cZ z c.hs=some u->∃ u1,cZ z hs1=some u1/\u1.bB=u.bB/\∀ y∈u1.l,y∈u.l)/\∀ z,uP hs1 z=uP c.hs z:=by
  rw [e]
  cases hb:(dL t.l).any (Z8 o) with
  | false=>
   refine⟨c.hs,Z9 (c:={ c with I:=rest }) h0 ht hb,λ_ _ h=>h,λx hx hv h=>?_,λz u hu=>⟨u,hu,Y,λy hy=>hy⟩,λ_=>Y⟩;obtain⟨t',ht',y,hy,b1,b2,_⟩:=h;rw [ht] at ht'; injection ht' with ht'; subst ht';rw [hO.rest,aen] at hb;refine hb y hy ?_;unfold Z8; rw [b1,b2,hx,hv]; simp
  | true=>
   obtain⟨r1,r2,r3,r4⟩:=OV hO o.X (d:=t.d);refine⟨fO o.To ⟨t.up,t.bB,DC t.l o.X,WU t.l o.X t.d⟩ c.hs,NA (c:={ c with I:=rest }) h0 ht hb,λn x h=>?_,λx hx hv h=>?_,λz u hu=>?_,λz=>?_⟩
   ·obtain⟨u,hu,y,hy,b⟩:=h
    rw [lC] at hu; split at hu
    ·rename_i hz; injection hu with hu; subst hu; rw [hz]; exact⟨t,ht,y,((r2 y).1 hy).1,b⟩
    ·exact⟨u,hu,y,hy,b⟩
   ·obtain⟨u,hu,y,hy,b1,_⟩:=h
    rw [lC,aS rfl] at hu; injection hu with hu; subst hu;exact((r2 y).1 hy).2 (b1.trans hx)
   ·rw [lC]; split
    ·rename_i hz; subst hz; rw [ht] at hu; injection hu with hu; subst hu
     exact⟨_,Y,Y,λy hy=>((r2 y).1 hy).1⟩
    ·exact⟨u,hu,rfl,λy hy=>hy⟩
   ·rw [TN]; split
    ·rename_i hz; subst hz; unfold uP; rw [ht]
    ·rfl
 rw [e1];have hmem:∀ p,p∈rest->p∈c.I:=λp hp=>by rw [hn]; exact kL _ hp
 have hpd:∀(x:aH)(n:Int),hst hs1 n x->Pd c.I x n->Pd rest x n:=λx n hh ⟨p,hp,a1,a2,a3,a4⟩=>by
  rw [hn] at hp
  rcases gW.1 hp with rfl | hp
  ·rw [<- a3] at hh; exact absurd hh (F2 x a2.symm a4)
  ·exact⟨p,hp,a1,a2,a3,a4⟩
 refine⟨⟨λx hx=>?_,λd hd hu=>?_⟩,Y,λp hpr=>?_,λQ n hs x hx hh=>?_,⟨Y,Y,Y,Y,Y,QF _,λy hy=>⟨y,hy,Y,Y,Y,λn=>⟨.inl,λh=>h.elim id fun⟨p,hp,k0,_⟩=>by rw [mU.1 hp] at k0; exact absurd k0 h0⟩⟩⟩⟩
 ·rcases hJ.jl x hx with h | ⟨p,hp,a1,a2,a3⟩
  ·exact .inl h
  ·rw [hn] at hp
   rcases gW.1 hp with rfl | hp
   ·exact absurd a1 h0
   ·exact .inr ⟨p,hp,a1,a2,a3⟩
 ·refine(hJ.jd d hd hu).imp id λh x hx hi=>?_
  obtain⟨a1,a2,a3⟩:=h x hx hi;exact⟨a1,λhh=>hpd x _ hh (a2 (F1 _ _ hh)),a3⟩
 ·have hq:=hp p (hmem p hpr)
  refine⟨by show uP hs1 p.To=true; rw [F4]; exact hq.up,hq.tm,λk0=>?_⟩;obtain⟨x,aYa⟩:=hq.cp k0;obtain⟨u,hu,hr,hl⟩:=aYa.nZ;obtain⟨u1,hu1,hr1,hl1⟩:=F3 _ _ hu;exact⟨x,aYa.xm,aYa.id,aYa.ver,aYa.sum,aYa.fr,by show uP hs1 p.jm=true; rw [F4]; exact aYa.fu,⟨u1,hu1,hr1.trans hr,λy hy=>hl y (hl1 y hy)⟩,aYa.st,aYa.nt⟩
 ·exact(Q n hs x hx (F1 _ _ hh)).imp id (hpd x n hh)
def aFa{c:PC}{o:aL}{f t:kV}{data:V (BitVec 8)}(hf:cZ o.jm c.hs=some f)(hu:f.up=true)(hn:wo c.s c.Z o.X o.To=false)(hrd:rT f.l f.d o.X=(data,o.E,0))(hs:((gI data).toNat:Int)=o.Sum)(ht:cZ o.To c.hs=some t)(hk:SS t.l t.bB o.X o.E o.Sum data=true):j6 c o={ c with m:=rJ c.m (vR o.X o.To o.E),s:=⟨c.s.bZ,if Lx c.s.bG o.X o.To=0 then zX c.s.bG o.X o.To else c.s.bG,c.s.bn⟩,hs:=fO o.To ⟨t.up,t.bB,Ig t.l t.bB o.X o.E o.Sum data,tkD t.l t.bB o.X o.E o.Sum data t.d⟩ c.hs }:=by
 grind [Nz]
def aFb{y:aI}{c v s:Int}(h:Po y=true)(hc:y.X=c)(hv:y.E=v):Po ⟨c,v,s,false,false⟩=true:=by
 grind [Po]
theorem awl{T:Int}{c:PC}{o:aL}{rest:V aL}(H:Hl c)(hJ:aX9 T c)(hn:c.I=o::rest)(hp:∀ p∈c.I,ai8 c p)(hcf:c.I.Pairwise awh)(h0:o.Kind=0):aX9 T (nJ c ⟨6,0,0,0⟩).1/\(nJ c ⟨6,0,0,0⟩).1.I=rest/\(∀ p∈rest,ai8 (nJ c ⟨6,0,0,0⟩).1 p)/\(Qh c->Qh (nJ c ⟨6,0,0,0⟩).1)/\Dlv c [o] (nJ c ⟨6,0,0,0⟩).1:=by
 obtain⟨k,aYd⟩:=H.inv;have hc:=(dD.1 aYd.hm).2.1;have hu:=lS hc;have hpo:=hp o (by rw [hn]; exact mO);obtain⟨x,aYa⟩:=hpo.cp h0;obtain⟨t,ht,hroom,hl⟩:=aYa.nZ;obtain⟨f,hf,y,hy,y1,y2,y3⟩:=H.k.b x aYa.xm o.jm aYa.fr;have hfu:f.up=true:=by have:=aYa.fu; unfold uP at this; rw [hf] at this; exact this
 have hOf:=(aYd.hz _ _ hf).l;have hOt:=(aYd.hz _ _ ht).l;have azV:=(H.k.e _ _ hf y hy).2;have hch:y.X=o.X:=y1.trans aYa.id;have hrd:rT f.l f.d o.X=(oH ⟨y.X,false⟩ f.d,o.E,0):=by rw [<- hch,avw hOf hy azV,y2,<- aYa.ver]
 have hsum:((gI (oH (⟨y.X,false⟩:bP) f.d)).toNat:Int)=o.Sum:=by rw [azV,y3,aYa.sum]
 have hln:t.l.length<=8:=lG (awc hOt (λy hy=>(H.k.e _ _ ht y hy).1)) H.few
 have hk:SS t.l t.bB o.X o.E o.Sum (oH ⟨y.X,false⟩ f.d)=true:=
  (afk hOt).2 ⟨by have:=(aYd.hz _ _ hf).w y hy; omega,hsum,aFb (hOf.nam hy) hch (y2.trans aYa.ver.symm),λv hv hvc=>by rw [aYa.ver]; exact hl v hv (hvc.trans aYa.id.symm),by rw [hroom]; omega⟩
 obtain⟨_,t2,_,_⟩:=aar hOt hk (d:=t.d);have e:(nJ c ⟨6,0,0,0⟩).1=_:=awj hn hpo.tm hpo.up;rw [show mZ { c with I:=rest } o=j6 { c with I:=rest } o by unfold mZ; rw [aS h0],aFa (c:={ c with I:=rest }) hf hfu aYa.nt hrd hsum ht hk] at e
 have hc1:=anv aYd.hm (x:=vR o.X o.To o.E) rfl rfl (λd hd hi=>by
  have:=lI hu hd aYa.xm (hi.trans aYa.id.symm); subst this; exact aYa.ver.symm)
 have hns:(rJ c.m (vR o.X o.To o.E)).aM=c.m.aM:=acN aYd.hm (.inr (.inr (.inl rfl))) rfl;have hs3:kS c.m.J (rJ c.m (vR o.X o.To o.E)).J:=sN aYd.hm rfl (.inr (.inr (.inl rfl)))
 have hH:∀ y∈(rJ c.m (vR o.X o.To o.E)).J,∃ w∈c.m.J,y.ID=w.ID/\y.E=w.E/\y.Sum=w.Sum/\∀ n,n∈y.aD↔n∈w.aD∨(o.X=w.ID/\n=o.To):=λy hy=>by
  obtain⟨w,hw,a1,a2,a3,a4⟩:=hc1 y hy;exact⟨w,hw,a1,a2,a3,λn=>(a4 n).trans ⟨λh=>h.imp id λh=>⟨h.1.symm,h.2.1⟩,λh=>h.imp id λh=>⟨h.1.symm,h.2,aYa.st⟩⟩⟩
 generalize hm1:rJ c.m (vR o.X o.To o.E)=m1 at *
 generalize hh1:fO o.To (⟨t.up,t.bB,Ig t.l t.bB o.X o.E o.Sum (oH ⟨y.X,false⟩ f.d),tkD t.l t.bB o.X o.E o.Sum (oH ⟨y.X,false⟩ f.d) t.d⟩:kV) c.hs=hs1 at *
 have G1:∀ n z,hst hs1 n z->(n=o.To/\z.ID=o.X)∨hst c.hs n z:=λn z ⟨u,hu,v,hv,b⟩=>by
  rw [<- hh1,lC] at hu; split at hu
  ·rename_i hz; injection hu with hu; subst hu
   rcases(t2 v).1 hv with rfl | ⟨hv,_⟩
   ·exact .inl ⟨hz,b.1.symm⟩
   ·rw [hz]; exact .inr ⟨t,ht,v,hv,b⟩
  ·exact .inr ⟨u,hu,v,hv,b⟩
 have G3:∀ z u,cZ z c.hs=some u->∃ u1,cZ z hs1=some u1/\u1.bB=u.bB/\∀ v∈u1.l,v∈u.l∨(z=o.To/\v.X=o.X):=λz u hu=>by
  rw [<- hh1,lC]; split
  ·rename_i hz; subst hz; rw [ht] at hu; injection hu with hu; subst hu
   refine⟨_,Y,Y,λv hv=>?_⟩
   rcases(t2 v).1 hv with rfl | ⟨hv,_⟩
   ·exact .inr ⟨rfl,rfl⟩
   ·exact .inl hv
  ·exact⟨u,hu,rfl,λv hv=>.inl hv⟩
 have G4:∀ z,uP hs1 z=uP c.hs z:=λz=>by
  rw [<- hh1,TN]; split
  ·rename_i hz; subst hz; unfold uP; rw [ht]
  ·rfl
 have hpd:∀(x:aH)(n:Int),Pd c.I x n->Pd rest x n:=λx n ⟨p,hp,a1,a2⟩=>by
  rw [hn] at hp
  rcases gW.1 hp with rfl | hp
  ·exact absurd h0 a1
  ·exact⟨p,hp,a1,a2⟩
 have aK6:∀ {x y:aH} {n:Int} {q:V aL},y.ID=x.ID->y.E=x.E->Pd q x n->Pd q y n:=λa1 a2 ⟨p,hp,b1,b2,b3,b4⟩=>⟨p,hp,b1,b2.trans a1.symm,b3,b4.trans a2.symm⟩;rw [e];have hnt:=Vt.1 aYa.nt;refine⟨⟨λq hq=>?_,λd hd hdu=>(hJ.jd d hd hdu).imp id λhF v hv hi=>?_⟩,Y,λp hpr=>?_,λQ n hs v hv hh=>?_,⟨hns,Y,Y,Y,Y,hs3,λv hv=>?_⟩⟩
 ·have hq:=azU (xA.1 aYd.hl).1 q hq
  rcases hJ.jl q hq.1 with h | ⟨p,hp,a1,a2,a3⟩
  ·exact .inl h
  ·rw [hn] at hp
   rcases gW.1 hp with rfl | hp
   ·exact absurd ⟨a2.symm,a3.symm⟩ hq.2
   ·exact .inr ⟨p,hp,a1,a2,a3⟩
 ·obtain⟨w,hw,a1,a2,a3,a4⟩:=hH v hv
  obtain⟨b1,b2,b3⟩:=hF w hw (a1.symm.trans hi);have htold:=hnt d (qb.2 ⟨hd,hdu⟩);refine⟨λhm=>?_,λhh=>?_,?_⟩
  ·rcases(a4 _).1 hm with h | ⟨h,h'⟩
   ·exact b1 h
   ·exact htold ⟨hi.symm.trans (a1.trans h.symm),h'⟩
  ·rcases G1 _ _ hh with ⟨h1,h2⟩ | h
   ·exact absurd ⟨hi.symm.trans h2,h1⟩ htold
   ·exact aK6 a1 a2 (hpd w _ (b2 ((BI a1 a2 a3).1 h)))
  ·show c.r.je<=((gL m1.aM v).length:Int)
   rw [hns];exact Vq b3 (aaA.2 (EF (tQ hc w hw) λn hn=>(a4 n).2 (.inl hn)))
 ·have hq:=hp p (by rw [hn]; exact kL _ hpr)
  refine⟨by show uP hs1 p.To=true; rw [G4]; exact hq.up,hq.tm,λk0=>?_⟩;obtain⟨x',X'⟩:=hq.cp k0;obtain⟨v,hv,v1,v2,v3⟩:=hs3.1 x' X'.xm;obtain⟨w,hw,a1,a2,a3,a4⟩:=hH v hv;have:=lI hu hw X'.xm (a1.symm.trans v1); subst this;obtain⟨u,hu',hr,hl'⟩:=X'.nZ;obtain⟨u1,hu1,hr1,hl1⟩:=G3 _ _ hu';refine⟨v,hv,a1.trans X'.id,X'.ver.trans a2.symm,X'.sum.trans a3.symm,(a4 _).2 (.inl X'.fr),by show uP hs1 p.jm=true; rw [G4]; exact X'.fu,⟨u1,hu1,hr1.trans hr,λz hz hzc=>?_⟩,by show iZ m1.aM p.To=true; rw [hns]; exact X'.st,X'.nt⟩
  rcases hl1 z hz with h | ⟨h1,h2⟩
  ·rw [a2]; exact hl' z h (hzc.trans a1)
  ·rw [hn] at hcf
   exact absurd ⟨h0,k0,h2.symm.trans (hzc.trans (a1.trans X'.id)),h1.symm⟩ ((nT.1 hcf).1 p hpr)
 ·have hs':iZ m1.aM n=true:=hs
  rw [hns] at hs';obtain⟨w,hw,a1,a2,a3,a4⟩:=hH v hv
  rcases G1 _ _ hh with ⟨h1,h2⟩ | h
  ·exact .inl ((a4 n).2 (.inr ⟨h2.symm.trans a1,h1⟩))
  ·exact(Q n hs' w hw ((BI a1 a2 a3).1 h)).imp (λh=>(a4 n).2 (.inl h)) (λh=>aK6 a1 a2 (hpd w n h))
 ·obtain⟨w,hw,a1,a2,a3,a4⟩:=hH v hv
  exact⟨w,hw,a1,a2,a3,λn=>(a4 n).trans ⟨λh=>h.imp id λh=>⟨o,mU.2 Y,h0,h.1,h.2⟩,λh=>h.imp id fun⟨p,hp,_,b1,b2⟩=>by rw [mU.1 hp] at b1 b2; exact⟨b1,b2⟩⟩⟩
def dlv{T:Int}{c:PC}{o:aL}{rest:V aL}(H:Hl c)(hJ:aX9 T c)(hn:c.I=o::rest)(hp:∀ p∈c.I,ai8 c p)(hcf:c.I.Pairwise awh):Hl (nJ c ⟨6,0,0,0⟩).1/\aX9 T (nJ c ⟨6,0,0,0⟩).1/\(nJ c ⟨6,0,0,0⟩).1.I=rest/\(∀ p∈rest,ai8 (nJ c ⟨6,0,0,0⟩).1 p)/\(Qh c->Qh (nJ c ⟨6,0,0,0⟩).1)/\Dlv c [o] (nJ c ⟨6,0,0,0⟩).1:=by
 have h1:=acO H (it:=⟨6,0,0,0⟩) (.inr av)
 grind [awl,awk]
def acP{T:Int}:∀(L:V aL)(n:Nat){c:PC},L.length<=n->c.I=L->Hl c->aX9 T c->(∀ p∈L,ai8 c p)->L.Pairwise awh->
  Hl (LW 6 n c)/\aX9 T (LW 6 n c)/\(LW 6 n c).I=[]/\(Qh c->Qh (LW 6 n c))/\Dlv c L (LW 6 n c)
 | [],n,c,_,hn,H,hJ,_,_=>by
  rw [ai6 (by rw [hn]; rfl)]; exact⟨H,hJ,hn,id,Dlv.nil c⟩
 | o::L,0,c,hl,_,_,_,_,_=>by rw [oO] at hl; omega
 | o::L,n+1,c,hl,hn,H,hJ,hp,hcf=>by
  rw [afv (by rw [hn,oO]; omega)];obtain⟨a1,a2,a3,a4,a5,a6⟩:=dlv H hJ hn (by rw [hn]; exact hp) (by rw [hn]; exact hcf);obtain⟨b1,b2,b3,b4,b5⟩:=acP L n (by rw [oO] at hl; omega) a3 a1 a2 a4 (nT.1 hcf).2;exact⟨b1,b2,b3,λQ=>b4 (a5 Q),a6.cons b5⟩
def aaD{s:fQ}{Z c n:Int}:wo s Z c n=true↔n∈mQ (eT s Z).bn c:=by
 unfold wo mQ; grind
theorem azW{ns:V aT}(hn:tN ns=true){id:Int}(h:Ci ns id=true):∃ n∈ns,n.ID=id/\n.fT=0:=by
 unfold Ci at h; grind [FI]
theorem azX{ns:V aT}(hn:tN ns=true){n:aT}(h:n∈ns)(hs:n.fT=0):Ci ns n.ID=true:=by
 grind [Ci,Jl]
theorem DK{ns:V aT}(hn:tN ns=true){D:V Int}(ha:∀ n∈ns,n.ID∈D)(x:aH):iW x ns D=gL ns x:=by
 unfold iW Gl gL;rw [Vr]
 grind [azW]
theorem afC{c:PC}{k:Nat}(aYd:Inv c k):rdB c.m c.r=true:=by unfold rdB; rw [aYd.hr,(dD.1 aYd.hm).2.1]; rfl
theorem azY{c:PC}(H:Hl c):moveB (FE c.m c.s c.Z) c.m.aM (vV c.s c.r c.Z) c.r.eF=false:=by
 rcases Wx (FE c.m c.s c.Z) c.m.aM (vV c.s c.r c.Z) c.r.eF with h | ⟨⟨_,x,y,_,hx,hy,_,h4,_⟩,_⟩
 ·exact h.2
 ·exfalso
  have h1:=Rk (FE c.m c.s c.Z) x.ID;have h2:(FE c.m c.s c.Z).length=c.m.J.length:=CU _ _;have:=H.few; have:=H.lq; omega
def awm{c:PC}(H:Hl c):rdO c.m c.s c.r c.Z=(uH c.m c.s c.r c.Z).2++uY c.m c.s c.r c.Z/\rdL c.m c.s c.r c.Z=(uH c.m c.s c.r c.Z).1:=by
 grind [Ph,FE,vV,rdO,RX,rdL,RV,azY]
structure Pre (T:Int) (c:PC):Prop where
  H:Hl c
  aX9:aX9 T c
  I:∀ o∈c.I,o.Kind=1/\c.Z<=o.iK/\uP c.hs o.To=true/\∃ x∈c.m.J,x.ID=o.X/\o.E<x.E
  nl:c.I.length<=128
  al:∀ n∈c.m.aM,n.ID∈vV c.s c.r c.Z
  rep:∀ n,iZ c.m.aM n=true->∀ x∈c.m.J,hst c.hs n x->wo c.s c.Z x.ID n=false->n∈x.aD
def ali{c:PC}{k:Nat}(aYd:Inv c k):∀ y∈(tq c).m.J,∃ w∈c.m.J,y.ID=w.ID/\y.E=w.E/\y.Sum=w.Sum/\∀ n,n∈y.aD↔n∈w.aD/\¬ ∃ o∈uY c.m c.s c.r c.Z,o.X=w.ID/\o.To=n:=by
 intro y hy;obtain⟨w,hw,a1,a2,a3,a4⟩:=NR _ aYd.hm KP y hy;have hC:mM c.m c.s c.r c.Z=(uY c.m c.s c.r c.Z).map wG:=by unfold mM; grind [afC]
 refine⟨w,hw,a1,a2,a3,λn=>(a4 n).trans ⟨λh=>⟨h.1,fun⟨o,ho,b1,b2⟩=>h.2 (wG o) (by grind) ⟨b1,(CY ho).2.1.trans b2⟩⟩,λh=>⟨h.1,λx hx b=>h.2 ?_⟩⟩⟩;rw [hC] at hx;obtain⟨o,ho,rfl⟩:=eX.1 hx;exact⟨o,ho,b.1,(CY ho).2.1.symm.trans b.2⟩
def VB{c:PC}{k:Nat}(aYd:Inv c k)(ha:∀ n∈c.m.aM,n.ID∈vV c.s c.r c.Z){o:aL}(ho:o∈uY c.m c.s c.r c.Z){y:aH}(hy:y∈(tq c).m.J)(hi:y.ID=o.X):c.r.je<=((gL c.m.aM y).length:Int)/\∃ w∈c.m.J,w.ID=y.ID/\c.r.je<=((gL c.m.aM w).length:Int):=by
 have hm:=dD.1 aYd.hm;obtain⟨w,hw,a1,a2,a3,a4⟩:=ali aYd y hy;have hd:=afr (afC aYd) ho;have aK7:=hd.many;rw [<- hi,a1,(Jo hm.2.1 _ hw).2,DK hm.1 ha] at aK7;have hD:(iM c.m c.s c.r c.Z).bn=(eT c.s c.Z).bn++uY c.m c.s c.r c.Z:=by unfold iM; rw [aS (afC aYd)]
 have hsub:∀ n∈(oo (iM c.m c.s c.r c.Z).bn w).aD,n∈y.aD:=λn hn=>by
  have:=O4.1 hn;refine(a4 n).2 ⟨this.1,fun⟨p,hp,b1,b2⟩=>?_⟩
  have h9:n∈mQ (iM c.m c.s c.r c.Z).bn w.ID:=by
   rw [hD]; exact eX.2 ⟨p,jJ.2 ⟨NM _ hp,tY b1⟩,b2⟩
  have h8:=this.2;rw [nG.2 h9] at h8; exact absurd h8 au
 have hone:oF (oo (iM c.m c.s c.r c.Z).bn w)=true:=tQ (Jm hm.2.1 _) _ (eX.2 ⟨w,hw,rfl⟩);have h1:=EF (ns:=c.m.aM) (y:=y) hone hsub;have h2:=EF (ns:=c.m.aM) (y:=w) hone (λn hn=>(O4.1 hn).1);exact⟨aj,w,hw,a1.symm,aj⟩
def KS{c:PC}{o d:aL}(ho:o∈(uH c.m c.s c.r c.Z).2)(hd:d∈uY c.m c.s c.r c.Z):d.X≠o.X:=by
 obtain⟨x,hx,_,h0,rfl⟩:=Jp hd;obtain⟨q,h1,h2,h3⟩:=NS (x:=Eb c.m c.s c.r c.Z) (TY c.m c.s c.r c.Z) ((eT c.s c.Z).bG,[]);intro he;have he:x.ID=o.X:=he;rw [show(uH c.m c.s c.r c.Z).2=[]++q from h1,MB] at ho
 have:o.To∈jB (uH c.m c.s c.r c.Z).1 x.ID:=by
  refine eX.2 ⟨aaB o,jJ.2 ⟨?_,tY he.symm⟩,Y⟩;rw [show(uH c.m c.s c.r c.Z).1=_ from h2]; exact by grind
 grind
def afD{c:PC}{k:Nat}(aYd:Inv c k){o:aL}(ho:o∈(uH c.m c.s c.r c.Z).2):afq c.m c.s c.r c.Z o/\o.Kind=0:=by
 rcases afp _ _ o ho with h | h
 ·grind
 ·exact avF (dD.1 aYd.hm).2.1 h
def afE{l:V Int}{x:Int}(h:l.contains x=false):x∉l:=by grind
def anA(c:PC):∃ q,(uH c.m c.s c.r c.Z).2=q/\(uH c.m c.s c.r c.Z).1=(eT c.s c.Z).bG++q.map aaB:=by
 obtain⟨q,h1,h2,_⟩:=NS (x:=Eb c.m c.s c.r c.Z) (TY c.m c.s c.r c.Z) ((eT c.s c.Z).bG,[])
 grind [uH]
def azZ{c:PC}{k:Nat}(aYd:Inv c k):(uH c.m c.s c.r c.Z).2.Pairwise awh:=by
 obtain⟨q,h1,h2⟩:=anA c
 have h0:JX (eT c.s c.Z).bG c.r.l9 c.r.All=true:=by
  have h:=xA.1 aYd.hl;exact xA.2 ⟨h.1.fil _,by grind [EO]⟩
 have h3:JX (uH c.m c.s c.r c.Z).1 c.r.l9 c.r.All=true:=aat (x:=Eb c.m c.s c.r c.Z) _ _ h0;have h4:=(xA.1 h3).1.dif;rw [h2] at h4;have h5:=(zO.1 h4).2.1;rw [JD] at h5;rw [h1];exact h5.imp λh hc=>h ⟨hc.2.2.1,hc.2.2.2⟩
structure az0 (c c1:PC):Prop where
  ns:c1.m.aM=c.m.aM
  Z:c1.Z=c.Z
  r:c1.r=c.r
  bt:c1.s.bZ=c.s.bZ
  s3:kS c.m.J c1.m.J
  ch:∀ y∈c1.m.J,∃ w∈c.m.J,y.ID=w.ID/\y.E=w.E/\y.Sum=w.Sum/\∀ n,n∈y.aD↔(n∈w.aD/\¬ ∃ o∈uY c.m c.s c.r c.Z,o.X=w.ID/\o.To=n)∨∃ o∈(uH c.m c.s c.r c.Z).2,o.X=w.ID/\o.To=n
def VD{α:Type}{R:α->α->Prop}:∀ {l:V α},(∀ a∈l,∀ b,R a b)->l.Pairwise R
 | [],_=>List.Pairwise.nil
 | a::l,h=>nT.2 ⟨λb _=>h a mO b,VD λx hx=>h x (kL _ hx)⟩
def awn{T:Int}{c:PC}(P:Pre T c):Hl (LW 6 500 (tq c))/\aX9 T (LW 6 500 (tq c))/\(LW 6 500 (tq c)).I=[]/\(Qh c->Qh (LW 6 500 (tq c)))/\az0 c (LW 6 500 (tq c)):=by
 have H:=P.H;obtain⟨k,aYd⟩:=H.inv;have hm:=dD.1 aYd.hm;have hu:=lS hm.2.1;have hB:=afC aYd;obtain⟨hO,hL⟩:=awm H;obtain⟨q,gH,gy⟩:=anA c;have hrO:pF c.m c.s c.r c.Z=(uH c.m c.s c.r c.Z).2++uY c.m c.s c.r c.Z:=by unfold pF; rw [aS hB,hO]
 have aja:(tq c).I=c.I++((uH c.m c.s c.r c.Z).2++uY c.m c.s c.r c.Z):=by show c.I++pF _ _ _ _=_; rw [hrO]
 have hs:(tq c).s=⟨(eT c.s c.Z).bZ,(uH c.m c.s c.r c.Z).1,(eT c.s c.Z).bn++uY c.m c.s c.r c.Z⟩:=by show iM _ _ _ _=_; unfold iM; rw [aS hB,hL]
 have hns:(tq c).m.aM=c.m.aM:=afw _ aYd.hm anz;have hch:=ali aYd;have hs3:kS c.m.J (tq c).m.J:=xQ _ aYd.hm OZ;have e5:(nJ c ⟨5,0,0,0⟩).1=tq c:=by unfold nJ; rw [aQ au,aQ au,aQ au,aS au]
 have H1:Hl (tq c):=by rw [<- e5]; exact acO H (.inr (.inr (.inr (.inl rfl))))
 have hlen:(tq c).I.length<=500:=by
  have h1:=VA (m:=c.m) (r:=c.r) (Z:=c.Z) aYd.NI;show(c.I++pF _ _ _ _).length<=500;have:=P.nl; have:=H.few;rw [jH]; omega
 have hpd:∀ {x y:aH} {n:Int},y.ID=x.ID->y.E=x.E->Pd c.I x n->Pd (tq c).I y n:=λa1 a2 ⟨p,hp,b1,b2,b3,b4⟩=>⟨p,by rw [aja]; exact QB _ hp,b1,b2.trans a1.symm,b3,b4.trans a2.symm⟩
 have hpT:∀ {w y:aH} {o:aL},w∈c.m.J->y.ID=w.ID->y.E=w.E->o∈uY c.m c.s c.r c.Z->o.X=w.ID->Pd (tq c).I y o.To:=λ{w y o} hw a1 a2 ho hc=>by
  obtain⟨b1,b2,b3,v,hv,b4,b5,b6⟩:=CY ho;have:=lI hu hv hw (b4.symm.trans hc); subst this;exact⟨o,by rw [aja]; exact NM _ (NM _ ho),by rw [b1]; decide,hc.trans a1.symm,rfl,b5.trans a2.symm⟩
 have J1:aX9 T (tq c):=by
  refine⟨λx hx=>?_,λo ho hou=>?_⟩
  ·rw [hs] at hx
   have hx:x∈(uH c.m c.s c.r c.Z).1:=hx;rw [gy] at hx
   rcases j5.1 hx with hx | hx
   ·rcases P.aX9.jl x (jJ.1 hx).1 with h | ⟨p,hp,k0,_⟩
    ·exact .inl h
    ·have:=(P.I p hp).1; omega
   ·obtain⟨p,hp,rfl⟩:=eX.1 hx
    rw [<- gH] at hp;exact .inr ⟨p,by rw [aja]; exact NM _ (QB _ hp),(afD aYd hp).2,rfl,rfl⟩
  ·rw [hs] at ho
   have ho:o∈(eT c.s c.Z).bn++uY c.m c.s c.r c.Z:=ho
   have key:∀ {y w:aH},y∈(tq c).m.J->w∈c.m.J->y.ID=w.ID->(∀ n,n∈y.aD↔n∈w.aD/\¬ ∃ o∈uY c.m c.s c.r c.Z,o.X=w.ID/\o.To=n)->c.r.je<=((gL c.m.aM w).length:Int)∨(∃ d∈uY c.m c.s c.r c.Z,d.X=w.ID)->c.r.je<=((gL (tq c).m.aM y).length:Int):=λ{y w} hy hw a1 a4 hh=>by
    rw [hns]
    by_cases hd:∃ d∈uY c.m c.s c.r c.Z,d.X=w.ID
    ·obtain⟨d,hd,hdc⟩:=hd
     exact(VB aYd P.al hd hy (a1.trans hdc.symm)).1
    ·have h1:=hh.resolve_right hd
     exact Vq h1 (aaA.2 (EF (tQ hm.2.1 w hw) λn hn=>(a4 n).2 ⟨hn,fun⟨d,hd',b,_⟩=>hd ⟨d,hd',b⟩⟩))
   rcases j5.1 ho with ho | ho
   ·refine(P.aX9.jd o (qb.1 ho).1 (qb.1 ho).2).imp id λhF y hy hi=>?_
    obtain⟨w,hw,a1,a2,a3,a4⟩:=hch y hy;obtain⟨b1,b2,b3⟩:=hF w hw (a1.symm.trans hi);exact⟨λhn=>b1 ((a4 _).1 hn).1,λhh=>hpd a1 a2 (b2 ((BI a1 a2 a3).1 hh)),key hy hw a1 a4 (.inl b3)⟩
   ·refine .inr λy hy hi=>?_
    obtain⟨w,hw,a1,a2,a3,a4⟩:=hch y hy;have hoc:o.X=w.ID:=hi.symm.trans a1;exact⟨λhn=>((a4 _).1 hn).2 ⟨o,ho,hoc,Y⟩,λ_=>hpT hw a1 a2 ho hoc,key hy hw a1 a4 (.inr ⟨o,ho,hoc⟩)⟩
 have Pe:∀ p∈(tq c).I,ai8 (tq c) p:=by
  intro p hp;rw [aja] at hp
  rcases j5.1 hp with hp | hp
  ·have:=P.I p hp
   exact⟨this.2.2.1,this.2.1,λk0=>by omega⟩
  rcases j5.1 hp with hp | hp
  ·obtain⟨C,k0⟩:=afD aYd hp
   have hb:=(og aYd.hr).2.1;have hn9:=FI hm.1 C.there;have hto:uP c.hs p.To=true:=by have:=H.up _ hn9.1; rwa [hn9.2] at this
   refine⟨hto,by rw [C.til]; show c.Z<=c.Z+c.r.gV; omega,λ_=>?_⟩;have hx:=vv hm.2.1 C.is_;have hxi:=Dh hm.2.1 C.is_;obtain⟨y,hy,a1,a2,a3,a4⟩:=Jq aYd.hm KP (m:=c.m) (l:=mM c.m c.s c.r c.Z) _ hx;obtain⟨w,hw,b1,b2,b3,b4⟩:=hch y hy;have hwx:=lI hu hw hx (b1.symm.trans a1);have hnd:∀ n,¬ ∃ o∈uY c.m c.s c.r c.Z,o.X=w.ID/\o.To=n:=λn ⟨o,ho,e1,_⟩=>KS hp ho (e1.trans (by rw [hwx]; exact hxi));have hst:iZ c.m.aM p.To=true:=(zJ hm.1).2 ⟨_,hn9.1,hn9.2,by rw [C.st]; decide⟩;have hfr:p.jm∈(aV c.m.J p.X).aD:=nG.1 C.fr;have hnt:wo c.s c.Z p.X p.To=false:=Cm.2 λht=>afE C.gt (aaD.1 ht);refine⟨y,hy,a1.trans hxi,C.ver.trans a2.symm,C.sum.trans a3.symm,(b4 _).2 ⟨by rw [hwx]; exact hfr,hnd _⟩,?_,?_,by rw [hns]; exact hst,?_⟩
   ·obtain⟨nd,hnd',e1,_⟩:=hm.2.2.2 _ hx _ hfr
    have:=H.up nd hnd'; rw [e1] at this; exact this
   ·obtain⟨t,ht,hr⟩:=aYd.hN _ hn9.1
    rw [hn9.2] at ht;refine⟨t,ht,hr.trans (H.bB _ hn9.1),λv hv hvc=>?_⟩;obtain⟨⟨x',hx',d1,d2,d3⟩,_⟩:=H.k.e _ _ ht v hv;have:=lI hu hx' hx (d1.trans (hvc.trans a1)); rw [this] at d2 d3;rw [a2]
    rcases Int.lt_or_eq_of_le d2 with h | h
    ·exact h
    ·exfalso
     refine afE C.nZ (P.rep _ hst _ hx ⟨t,ht,v,hv,hvc.trans a1,h,d3 h⟩ ?_);rw [hxi]; exact hnt
   ·refine Cm.2 λht=>?_
    have hg:=aaD.1 ht;obtain⟨o,ho,e1⟩:=eX.1 hg;have ho:=jJ.1 ho;have ho2:=(qb.1 ho.1);have hoD:o∈(tq c).s.bn:=ho2.1;rw [hs] at hoD;have hoD:o∈(eT c.s c.Z).bn++uY c.m c.s c.r c.Z:=hoD
    rcases j5.1 hoD with h | h
    ·exact afE C.gt (eX.2 ⟨o,jJ.2 ⟨h,ho.2⟩,e1⟩)
    ·exact KS hp h (iY ho.2)
  ·obtain⟨b1,b2,b3,v,hv,b4,_⟩:=CY hp
   have hd:=afr hB hp;have hb:=(og aYd.hr).2.1;refine⟨?_,by rw [b3]; show c.Z<=c.Z+c.r.gV; omega,λk0=>by omega⟩;have hin:=vv (Jm hm.2.1 _) hd.is_;have hid:=Dh (Jm hm.2.1 _) hd.is_;obtain⟨w,hw,hwe⟩:=eX.1 hin
   have h9:p.To∈w.aD:=by
    have:=nG.1 hd.holds;rw [show aV (FE c.m c.s c.Z) p.X=_ from hwe.symm] at this;exact(O4.1 this).1
   obtain⟨nd,hnd',e1,_⟩:=hm.2.2.2 _ hw _ h9;have:=H.up nd hnd'; rw [e1] at this; exact this
 have Cf:(tq c).I.Pairwise awh:=by
  rw [aja];refine zO.2 ⟨VD λa ha b hc=>by have:=(P.I a ha).1; have:=hc.1; omega,zO.2 ⟨azZ aYd,VD λa ha b hc=>by have:=(CY ha).1; have:=hc.1; omega,λa _ b hb hc=>by have:=(CY hb).1; have:=hc.2.1; omega⟩,λa ha b _ hc=>by have:=(P.I a ha).1; have:=hc.1; omega⟩
 obtain⟨r1,r2,r3,r4,r5⟩:=acP (T:=T) (tq c).I 500 hlen rfl H1 J1 Pe Cf;refine⟨r1,r2,r3,λQ=>r4 λn hst y hy hh=>?_,r5.ns.trans hns,r5.Z,r5.r,r5.bt.trans (by rw [hs]; rfl),hs3.trans r5.s3,λy hy=>?_⟩
 ·rw [hns] at hst
  obtain⟨w,hw,a1,a2,a3,a4⟩:=hch y hy
  rcases Q n hst w hw ((BI a1 a2 a3).1 hh) with h | h
  ·by_cases hd:∃ o∈uY c.m c.s c.r c.Z,o.X=w.ID/\o.To=n
   ·obtain⟨o,ho,b1,rfl⟩:=hd
    exact .inr (hpT hw a1 a2 ho b1)
   ·exact .inl ((a4 n).2 ⟨h,hd⟩)
  ·exact .inr (hpd a1 a2 h)
 ·obtain⟨v,hv,b1,b2,b3,b4⟩:=r5.ch y hy
  obtain⟨w,hw,a1,a2,a3,a4⟩:=hch v hv;refine⟨w,hw,b1.trans a1,b2.trans a2,b3.trans a3,λn=>?_⟩;rw [b4,a4,a1];refine or_congr Iff.rfl ⟨fun⟨o,ho,k0,c1,c2⟩=>?_,fun⟨o,ho,c1,c2⟩=>⟨o,by rw [aja]; exact NM _ (QB _ ho),(afD aYd ho).2,c1,c2.symm⟩⟩;rw [aja] at ho
  rcases j5.1 ho with ho | ho
  ·have:=(P.I o ho).1; omega
  rcases j5.1 ho with ho | ho
  ·exact⟨o,ho,c1,c2.symm⟩
  ·have:=(CY ho).1; omega
def az1{c:PC}{z:Int}(hu:uP c.hs z=true):(nJ c ⟨3,z,0,0⟩).1={ c with s:=⟨uN c.s.bZ z c.Z,c.s.bG,c.s.bn⟩ }:=by
 obtain⟨h,hg,hb⟩:=KO hu;rw [awf au hg hb];unfold Il; rw [aS rfl]
def aaE:∀(ids:V Int){c:PC},(∀ z∈ids,uP c.hs z=true/\M7 ⟨z,c.Z⟩=true)->lZ 0 c.s.bZ=true->
  ∃ B,rA 3 ids c={ c with s:=⟨B,c.s.bG,c.s.bn⟩ }/\lZ 0 B=true/\(∀ z∈ids,heard B c.Z z)/\∀ z,heard c.s.bZ c.Z z->heard B c.Z z
 | [],c,_,hb=>⟨c.s.bZ,rfl,hb,λz hz=>absurd hz av,λz h=>h⟩
 | z::ids,c,h,hb=>by
  have hz:=h z mO;obtain⟨h1,h2,h3⟩:=ang hb hz.2;have e:rA 3 (z::ids) c=rA 3 ids { c with s:=⟨uN c.s.bZ z c.Z,c.s.bG,c.s.bn⟩ }:=by show rA 3 ids (nJ c ⟨3,z,0,0⟩).1=_; rw [az1 hz.1]
  obtain⟨B,e1,b1,b2,b3⟩:=aaE ids (c:={ c with s:=⟨uN c.s.bZ z c.Z,c.s.bG,c.s.bn⟩ }) (λy hy=>h y (kL _ hy)) h1;refine⟨B,by rw [e,e1],b1,λy hy=>?_,λy ⟨b,hb1,hb2,hb3⟩=>?_⟩
  ·rcases gW.1 hy with rfl | hy
   ·exact b3 _ h2
   ·exact b2 y hy
  ·obtain⟨b',q1,q2,q3⟩:=h3 b hb1
   exact b3 _ ⟨b',q1,q2.trans hb2,by show c.Z<=b'.At; omega⟩
def alj{kind:Int}(hk:∀ z,Wz ⟨kind,z,0,0⟩):∀(ids:V Int){c:PC},Hl c->Hl (rA kind ids c)
 | [],_,H=>H
 | z::ids,_,H=>alj hk ids (acO H (hk z))
def anB(c:PC):hlA c={ c with Z:=c.Z+1 }:=by rfl
structure Rdy (c c1:PC):Prop where
  ns:c1.m.aM=c.m.aM
  Z:c1.Z=c.Z+1
  r:c1.r=c.r
  s3:kS c.m.J c1.m.J
  le:c1.s.bG=c.s.bG
  dr:c1.s.bn=c.s.bn
  hs:c1.hs=c.hs
  I:∃ S,c1.I=c.I++S/\S.length<=128
  ch:∀ y∈c1.m.J,∃ w∈c.m.J,y.ID=w.ID/\y.E=w.E/\y.Sum=w.Sum/\(∀ n∈w.aD,n∈y.aD)/\∀ n∈y.aD,n∈w.aD∨hst c.hs n w
def awo{T:Int}{c:PC}(H:Hl c)(hn:c.Z<=1000000)(hJ:aX9 T c):Hl (F9 c)/\aX9 T (F9 c)/\Rdy c (F9 c)/\(Qh c->Qh (F9 c))/\(c.I=[]->Pre T (F9 c)):=by
 obtain⟨k,aYd⟩:=H.inv;have hm:=dD.1 aYd.hm
 have hid:∀ z∈oI c,(1<=z/\z<=16)/\uP c.hs z=true:=λz hz=>by
  obtain⟨n,hn,rfl⟩:=eX.1 hz;exact⟨by simp_all [Ou,qV],H.up n hn⟩
 have eA:=anB c;have HA:Hl (hlA c):=acO H (.inl av);have iA:oI (hlA c)=oI c:=by rfl
 obtain⟨B,eB,B1,B2,_⟩:=aaE (oI (hlA c)) (c:=hlA c) (λz hz=>by
  rw [iA] at hz; rw [eA];refine⟨(hid z hz).2,KQ.2 ⟨by grind,by grind,?_,?_⟩⟩
  ·have:=aYd.hu; grind
  grind) HA.bt
 have HB:Hl (hlB c):=alj (λz=>.inr (.inl rfl)) _ HA;have eB':hlB c={ c with Z:=c.Z+1,s:=⟨B,c.s.bG,c.s.bn⟩ }:=by grind [hlB]
 have HC:Hl (F9 c):=alj (λz=>.inr av) _ HB;have iB:oI (hlB c)=oI c:=by rw [eB']; rfl
 obtain⟨kB,IB⟩:=HB.inv;have R:aE0 (hlB c) (oI (hlB c)) (F9 c):=afz (oI (hlB c)) IB (λz hz=>by rw [iB] at hz; refine⟨(hid z hz).1,?_⟩; rw [eB']; exact(hid z hz).2) (λz h hg y hy=>(HB.k.e z h hg y hy).1)
 generalize hC:F9 c=c1 at *
 rw [iB,eB'] at R;obtain⟨S,S1,S2,S3⟩:=R.I
 have S2':S.length<=128:=by
  have h1:(oI c).length<=16:=by grind [oI,List.length_map,yO]
  have h2:c.m.J.length*(oI c).length<=8*16:=LX H.few h1;exact lG S2 h2
 have Rs:c1.s=⟨B,c.s.bG,c.s.bn⟩:=R.s;have Rn:c1.Z=c.Z+1:=R.Z;have Rh:c1.hs=c.hs:=R.hs;have Rr:c1.r=c.r:=R.r;have Rns:c1.m.aM=c.m.aM:=R.ns;have aFd:c1.I=c.I++S:=S1;have hpd:∀ {x y:aH} {n:Int},y.ID=x.ID->y.E=x.E->Pd c.I x n->Pd c1.I y n:=λa1 a2 ⟨p,hp,b1,b2,b3,b4⟩=>⟨p,by rw [aFd]; exact QB _ hp,b1,b2.trans a1.symm,b3,b4.trans a2.symm⟩;have hkeep:∀ w∈c.m.J,∀ n∈w.aD,hst c.hs n w:=λw hw n hn=>H.k.b w hw n hn
 have hJ1:aX9 T c1:=by
  refine⟨λx hx=>?_,λo ho hou=>?_⟩
  ·rw [Rs] at hx
   rcases hJ.jl x hx with h | ⟨p,hp,a⟩
   all_goals grind
  ·rw [Rs] at ho; rw [Rn] at hou
   have ho:o∈c.s.bn:=ho;refine(hJ.jd o ho aj).imp id λhF y hy hi=>?_;obtain⟨w,hw,a1,a2,a3,_,r2,r3,_⟩:=R.ch y hy;obtain⟨b1,b2,b3⟩:=hF w hw (by grind);refine⟨λhn=>?_,λhh=>?_,?_⟩
   ·grind [Vt,qb]
   ·grind [BI]
   ·rw [Rr,Rns]
    exact Vq b3 (aaA.2 (EF (tQ hm.2.1 w hw) (by grind)))
 refine⟨HC,hJ1,⟨Rns,Rn,Rr,R.s3,by rw [Rs],by rw [Rs],Rh,by grind,λy hy=>?_⟩,λQ n hs y hy hh=>?_,λh0=>?_⟩
 ·obtain⟨w,hw,a1,a2,a3,_,r2,r3,_⟩:=R.ch y hy
  grind
 ·rw [Rns] at hs; rw [Rh] at hh
  obtain⟨w,hw,a1,a2,a3,_,r2,r3,_⟩:=R.ch y hy;exact(Q n hs w hw (by grind [BI])).imp (by grind) (hpd a1 a2)
 ·have aFd:c1.I=S:=by grind
  have hb:=(og aYd.hr).2.1;refine⟨HC,hJ1,λo ho=>?_,by grind,λn hn=>?_,λn hs y hy hh ht=>?_⟩
  ·rw [aFd] at ho
   obtain⟨b1,b2,b3,x,hx,b4,b5⟩:=S3 o ho;obtain⟨v,hv,d1,d2,d3⟩:=R.s3.1 x hx
   grind
  ·rw [Rns] at hn
   have h9:heard B (c.Z+1) n.ID:=by
    have:=B2 n.ID (by rw [iA]; exact eX.2 ⟨n,hn,rfl⟩)
    grind
   unfold vV;rw [Rs,Rn,Rr];exact ai4 B1 (by have:=(og aYd.hr).1; omega) h9
  ·rw [Rns] at hs; rw [Rh] at hh
   obtain⟨w,hw,a1,a2,a3,_,r2,r3,r4⟩:=R.ch y hy;obtain⟨nd,hnd,hni,_⟩:=(zJ hm.1).1 hs;refine r4 n (eX.2 (by grind)) (by grind [BI]) ?_ hs
   grind
def aK8{T:Int}{c:PC}(P:Pre T c)(hT:T<c.Z):Qh c:=by
 intro n hs x hx hh;obtain⟨k,aYd⟩:=P.H.inv;have hu:=lS (dD.1 aYd.hm).2.1
 cases ht:wo c.s c.Z x.ID n with
 | false=>exact .inl (P.rep n hs x hx hh ht)
 | true=>
  obtain⟨o,ho,rfl⟩:=eX.1 (aaD.1 ht);have ho:=jJ.1 ho;have ho2:=qb.1 ho.1
  rcases P.aX9.jd o ho2.1 ho2.2 with h | h
  ·omega
  ·obtain⟨p,hp,_,p2,_,p4⟩:=(h x hx (by grind)).2.1 hh
   obtain⟨_,_,_,v,hv,v1,v2⟩:=P.I p hp
   grind [lI]
structure Late (T:Int) (c:PC):Prop where
  H:Hl c
  aX9:aX9 T c
  T:T<c.Z
  I:∀ p∈c.I,p.Kind=0->False
  al:∀ n∈c.m.aM,n.ID∈vV c.s c.r c.Z
def Pre.late{T:Int}{c:PC}(P:Pre T c)(hT:T<c.Z):Late T c:=⟨P.H,P.aX9,hT,λp hp k0=>by have:=(P.I p hp).1; omega,P.al⟩
def afF{T:Int}{c:PC}(L:Late T c):(eT c.s c.Z).bG=[]:=by
 show c.s.bG.filter _=[];rw [Vd];intro x hx
 rcases L.aX9.jl x hx with h | ⟨p,hp,k0,_⟩
 ·have:=L.T; grind [inB]
 ·exact(L.I p hp k0).elim
def aaF{T:Int}{c:PC}(L:Late T c){o:aL}(ho:o∈(eT c.s c.Z).bn):aBE c o:=by
 have h:=qb.1 ho;exact(L.aX9.jd o h.1 h.2).resolve_left (by have:=L.T; omega)
theorem O5{T:Int}{c:PC}(L:Late T c):FE c.m c.s c.Z=c.m.J:=by
 show c.m.J.map (oo (eT c.s c.Z).bn)=_
 have:∀ x∈c.m.J,oo (eT c.s c.Z).bn x=x:=λx hx=>by
  have hf:x.aD.filter (fun(x9:Int)=>!((mQ (eT c.s c.Z).bn x.ID).contains x9))=x.aD:=by
   rw [DT];intro n hn;rw [NQ]; · rfl
   intro hg;obtain⟨o,ho,rfl⟩:=eX.1 hg;have ho:=jJ.1 ho;exact(aaF L ho.1 x hx (by grind)).1 hn
  unfold oo; rw [hf]
 rw [ZO this]; simp
theorem aqo{T:Int}{c:PC}(L:Late T c){x:aH}(hx:x∈c.m.J)(hg:((gL c.m.aM x).length:Int)<c.r.je):mQ (eT c.s c.Z).bn x.ID=[]:=by
 refine alf.2 λn hn=>?_;obtain⟨o,ho,rfl⟩:=eX.1 hn;have ho:=jJ.1 ho;have:=(aaF L ho.1 x hx (iY ho.2).symm).2.2; omega
theorem O6{T:Int}{c:PC}(L:Late T c)(n:dW):n∈TY c.m c.s c.r c.Z↔∃ x∈c.m.J,PK c.m.aM (vV c.s c.r c.Z) c.r.je x=true/\n=Nb c.m.aM (vV c.s c.r c.Z) x:=by
 grind [TY,Qf,O5]
theorem KT{T:Int}{c:PC}(L:Late T c){x:aH}(hx:x∈c.m.J):PK c.m.aM (vV c.s c.r c.Z) c.r.je x=true↔((gL c.m.aM x).length:Int)<c.r.je:=by
 obtain⟨k,aYd⟩:=L.H.inv;have hm:=dD.1 aYd.hm;unfold PK;rw [DK hm.1 L.al,bK,bN,bN];refine⟨λh=>h.2,λh=>⟨?_,h⟩⟩;obtain⟨n,hn⟩:=L.H.k.a x hx;obtain⟨nd,hnd,hni,_⟩:=hm.2.2.2 x hx n hn;have:n∈Gl x (vV c.s c.r c.Z):=jJ.2 ⟨hn,nG.2 (by rw [<- hni]; exact L.al nd hnd)⟩
 grind
def ajb{l:V aT}{D:V Int}{aX:V fJ}{hs:V Int}:∀(aYc:V aT)(b:Option aT),b.isSome=true->(aYc.foldl (tgF l D aX hs) b).isSome=true
 | [],b,h=>h
 | n::aYc,b,h=>by
  rw [vY];refine ajb aYc _ ?_;unfold tgF; split
  ·split
   ·rfl
   ·split <;> rfl
  ·exact h
def anC{l:V aT}{D:V Int}{aX:V fJ}{hs:V Int}:∀(aYc:V aT)(b:Option aT){n:aT},n∈aYc->Ce l D aX hs n.ID=true->(aYc.foldl (tgF l D aX hs) b).isSome=true
 | m::aYc,b,n,hn,hp=>by
  rw [vY]
  rcases gW.1 hn with rfl | hn
  ·refine ajb aYc _ ?_
   unfold tgF; rw [aS hp]
   split
   ·rfl
   ·split <;> rfl
  ·exact anC aYc _ hn hp
def afG{c:PC}(H:Hl c){x:aH}(hg:((gL c.m.aM x).length:Int)<c.r.je):∃ n∈c.m.aM,n.fT=0/\n.ID∉x.aD:=by
 obtain⟨k,aYd⟩:=H.inv;have hm:=dD.1 aYd.hm;refine alg λhno=>?_
 have h1:∀ z∈(c.m.aM.filter fun(n:aT)=>decide (n.fT=0)).map aT.ID,z∈gL c.m.aM x:=λz hz=>by
  obtain⟨n,hn,rfl⟩:=eX.1 hz;have hn:=jJ.1 hn;have hs:n.fT=0:=iY hn.2;refine jJ.2 (by grind [azX])
 have hu:Up aT.ID (c.m.aM.filter fun(n:aT)=>decide (n.fT=0)):=(qV.1 hm.1).1.filter _;have h2:=yS _ _ (TM hu) h1;have h3:=H.aK5
 grind [Ed]
def aqp{x:aH}(hx:oF x=true)(hi:1<=x.ID){a b u:Int}(ha:1<=a/\a<=16)(hb:1<=b/\b<=16)(hab:a≠b)(hu:0<=u/\u<=1099511627776):P8 (AZ x a b u)=true:=by
 simp_all [P8,uG,AZ,rU]
def alk{x:aH}(hx:oF x=true)(hi:1<=x.ID){a b u dG all:Int}(ha:1<=a/\a<=16)(hb:1<=b/\b<=16)(hab:a≠b)(hu:0<=u/\u<=1099511627776)(he:1<=dG)(hl:1<=all):Ea [] dG all x a b u=true:=by
 unfold Ea; refine tY ?_;unfold pO;rw [aqp hx hi ha hb hab hu,aQ au,aQ (by show ¬ (0:Int)<=-1; decide),aQ (by simp [sends,takes]; omega)]
def aqr{T:Int}{c:PC}(L:Late T c)(az3:c.Z<=2000000)(h:∃ x∈c.m.J,((gL c.m.aM x).length:Int)<c.r.je):∃ o∈(uH c.m c.s c.r c.Z).2,∃ x∈c.m.J,x.ID=o.X/\((gL c.m.aM x).length:Int)<c.r.je:=by
 obtain⟨k,aYd⟩:=L.H.inv;have hm:=dD.1 aYd.hm;have hbd:=og aYd.hr;obtain⟨x0,hx0,hg0⟩:=h;have hn0:=(O6 L _).2 ⟨x0,hx0,(KT L hx0).2 hg0,rfl⟩
 cases hq:TY c.m c.s c.r c.Z with
 | nil=>rw [hq] at hn0; exact absurd hn0 av
 | cons n aYc=>
  obtain⟨x,hx,hb,hn⟩:=(O6 L n).1 (by grind);have hg:=(KT L hx).1 hb;have hone:=tQ hm.2.1 x hx;have hid:1<=x.ID:=(CJ _ _ (kK.1 hm.2.1).2.2 x.ID (eX.2 ⟨x,hx,rfl⟩)).1;have e1:aV (Eb c.m c.s c.r c.Z).ks n.X=x:=by rw [hn]; exact(uy hm.2.1 hx).2
  have e2:aV (Eb c.m c.s c.r c.Z).dH n.X=x:=by grind [O5]
  have hav:n.Have=((gL c.m.aM x).length:Int):=by rw [hn]; show((iW x c.m.aM (vV c.s c.r c.Z)).length:Int)=_; rw [DK hm.1 L.al]
  -- where it goes
  obtain⟨nd,hnd,hst,hno⟩:=afG L.H hg;have hone':=(qV.1 hm.1).2 nd hnd
  have hld:nX (iQ c.m.J c.m.aM []) nd.ID<nd.lV:=by
   have h1:=U2 c.m.J c.m.aM [];have h2:0<=nX (iQ c.m.J c.m.aM []) nd.ID/\nX (iQ c.m.J c.m.aM []) nd.ID<=8:=adZ (P:=λz=>0<=z/\z<=8) aj (λy hy=>by have h9:=h1.1 y hy; have:=L.H.few; simp only [u6] at h9; omega) _;have:=L.H.bB nd hnd; omega
  have hnot:(J7 (Eb c.m c.s c.r c.Z) x []).contains nd.ID=false:=NQ (by
   unfold J7
   simp only [VH,List.flatten_nil,Aj,j5,not_or]
   grind [jB,mQ,eT,aqo])
  have hpl:Ce c.m.aM (vV c.s c.r c.Z) (iQ c.m.J c.m.aM []) (J7 (Eb c.m c.s c.r c.Z) x []) nd.ID=true:=by
   have hf:=Jl hm.1 hnd;unfold Ce;rw [hf.1,hf.2,hnot,nG.2 (L.al nd hnd),tY hst,tY hld]; rfl
  have hto:(tJ (Eb c.m c.s c.r c.Z) x []).isSome=true:=anC c.m.aM none hnd hpl;obtain⟨t,ht⟩:=Option.isSome_iff_exists.1 hto;have ht2:=afo (show vB c.m.aM (vV c.s c.r c.Z) (iQ c.m.J c.m.aM []) (J7 (Eb c.m c.s c.r c.Z) x []) c.m.aM=some t from ht);have ht3:=RA ht2.1 ht2.2;have htx:t.ID∉x.aD:=by grind [J7]
  -- where it comes from
  obtain⟨z,hz⟩:=L.H.k.a x hx
  have aPP:∀ z∈x.aD,z∈J6 (vV c.s c.r c.Z) x:=λz hz=>by
   obtain⟨m9,hm9,hi9,_⟩:=hm.2.2.2 x hx z hz;exact jJ.2 ⟨hz,by rw [nG.2 (by rw [<- hi9]; exact L.al m9 hm9)]; rfl⟩
  have hfree:Fz [] (J6 (vV c.s c.r c.Z) x) c.r.l9=true:=by
   unfold Fz; rw [List.find?_isSome];exact⟨z,aPP z hz,by unfold M6; exact tY (by show((0:Nat):Int)<_; omega)⟩
  have hfr:=aiR hfree;have hfx:Cc [] (J6 (vV c.s c.r c.Z) x) c.r.l9∈x.aD:=(jJ.1 hfr).1;have hu:=aYd.hu
  have hcb:Ea [] c.r.l9 c.r.All x (uX (Eb c.m c.s c.r c.Z) x []) (yY (tJ (Eb c.m c.s c.r c.Z) x [])) (c.Z+c.r.gV)=true:=by
   rw [ht];have hrf:=CJ _ _ (rU hone).2.2 _ hfx;have:=L.H.dY;exact alk hone hid ⟨hrf.1,hrf.2⟩ (Ou (by grind [qV])) (λe=>htx (by rw [show t.ID=Cc [] (J6 (vV c.s c.r c.Z) x) c.r.l9 from e.symm]; exact hfx)) aj hbd.2.2.1.1 hbd.2.2.2.1.1
  have hgo:xu (Eb c.m c.s c.r c.Z) x x []=true:=by simp_all [xu,Fz,J6,Eb]
  have hs0:LK (Eb c.m c.s c.r c.Z) x x n.Have 100 ([],[])=_:=(amj (x:=Eb c.m c.s c.r c.Z) (c:=x) (d:=x) (h:=n.Have) (f:=100) (l:=[]) (o:=[]) au (by show n.Have+((0:Nat):Int)<c.r.je; omega) hgo).symm;have hco:xV [] [] c.r.l9 c.r.All x (uX (Eb c.m c.s c.r c.Z) x []) (yY (tJ (Eb c.m c.s c.r c.Z) x [])) (c.Z+c.r.gV)=[Ew x (uX (Eb c.m c.s c.r c.Z) x []) (yY (tJ (Eb c.m c.s c.r c.Z) x [])) (c.Z+c.r.gV)]:=by grind [xV]
  obtain⟨q1,a1,_,_⟩:=aaC (x:=Eb c.m c.s c.r c.Z) (c:=x) (d:=x) (h:=n.Have) 99 (yL [] c.r.l9 c.r.All x (uX (Eb c.m c.s c.r c.Z) x []) (yY (tJ (Eb c.m c.s c.r c.Z) x [])) (c.Z+c.r.gV)) (xV [] [] c.r.l9 c.r.All x (uX (Eb c.m c.s c.r c.Z) x []) (yY (tJ (Eb c.m c.s c.r c.Z) x [])) (c.Z+c.r.gV));obtain⟨q2,b1,_,_⟩:=NS (x:=Eb c.m c.s c.r c.Z) aYc (J8 (Eb c.m c.s c.r c.Z) ([],[]) n)
  have hR:(uH c.m c.s c.r c.Z).2=(qH (Eb c.m c.s c.r c.Z) aYc (J8 (Eb c.m c.s c.r c.Z) ([],[]) n)).2:=by
   unfold uH; rw [afF L,hq]; rfl
  have hF:(J8 (Eb c.m c.s c.r c.Z) ([],[]) n).2=[Ew x (uX (Eb c.m c.s c.r c.Z) x []) (yY (tJ (Eb c.m c.s c.r c.Z) x [])) (c.Z+c.r.gV)]++q1:=by grind [J8]
  refine⟨Ew x (uX (Eb c.m c.s c.r c.Z) x []) (yY (tJ (Eb c.m c.s c.r c.Z) x [])) (c.Z+c.r.gV),?_,x,hx,Y,hg⟩
  grind
def az4{c:PC}{k:Nat}(aYd:Inv c k)(ha:∀ n∈c.m.aM,n.ID∈vV c.s c.r c.Z){w:aH}(hw:w∈c.m.J)(hg:((gL c.m.aM w).length:Int)<c.r.je):¬ ∃ o∈uY c.m c.s c.r c.Z,o.X=w.ID:=by
 rintro⟨o,ho,hc⟩;obtain⟨y,hy,a1,_⟩:=(xQ _ aYd.hm OZ:kS c.m.J (tq c).m.J).1 w hw;obtain⟨_,v,hv,hvi,h⟩:=VB aYd ha ho hy (by grind);have:=lI (lS (dD.1 aYd.hm).2.1) hv hw (hvi.trans a1); grind
def alm{T:Int}{c c2:PC}(P:Pre T c)(aYb:az0 c c2)(hc2:∃ k,Inv c2 k){w y:aH}(hw:w∈c.m.J)(hy:y∈c2.m.J)(hi:y.ID=w.ID):(((gL c.m.aM w).length:Int)<c.r.je->(gL c.m.aM w).length<=(gL c2.m.aM y).length)/\(c.r.je<=((gL c.m.aM w).length:Int)->c.r.je<=((gL c2.m.aM y).length:Int))/\
  ((∃ o∈(uH c.m c.s c.r c.Z).2,w.ID=o.X)->(gL c.m.aM w).length+1<=(gL c2.m.aM y).length):=by
 obtain⟨k,aYd⟩:=P.H.inv;have hm:=dD.1 aYd.hm;have hu:=lS hm.2.1;obtain⟨v,hv,a1,a2,a3,a4⟩:=aYb.ch y hy;have:=lI hu hv hw (a1.symm.trans hi); subst this;rw [aYb.ns];have hone:=tQ hm.2.1 v hv;have nod:(¬ ∃ o∈uY c.m c.s c.r c.Z,o.X=v.ID)->∀ n∈v.aD,n∈y.aD:=λh n hn=>(a4 n).2 (.inl ⟨hn,fun⟨o,ho,b,_⟩=>h ⟨o,ho,b⟩⟩);refine⟨λhg=>EF hone (nod (az4 aYd P.al hv hg)),λhg=>?_,fun⟨o,ho,hoc⟩=>?_⟩
 ·by_cases hd:∃ o∈uY c.m c.s c.r c.Z,o.X=v.ID
  ·obtain⟨o,ho,hoc⟩:=hd
   obtain⟨z,hz,b1,_⟩:=(xQ _ aYd.hm OZ:kS c.m.J (tq c).m.J).1 v hv;obtain⟨w',hw',c1,c2',c3,c4⟩:=ali aYd z hz;have:=lI hu hw' hv (c1.symm.trans b1); subst this;have h1:=(VB aYd P.al ho hz (b1.trans hoc.symm)).1;have hz1:oF z=true:=tQ (dD.1 (Ta aYd.hm _)).2.1 z hz;exact Vq h1 (aaA.2 (EF hz1 λn hn=>(a4 n).2 (.inl ((c4 n).1 hn))))
  ·exact Vq hg (aaA.2 (EF hone (nod hd)))
 ·have hd:¬ ∃ d∈uY c.m c.s c.r c.Z,d.X=v.ID:=fun⟨d,hd,e⟩=>KS ho hd (e.trans hoc)
  obtain⟨C,_⟩:=afD aYd ho;have hn9:=FI hm.1 C.there;have hgo:Ci c.m.aM o.To=true:=by unfold Ci; rw [C.there,C.st]; rfl
  have hto:o.To∉v.aD:=by
   have:=afE C.nZ;rw [<- hoc,(uy hm.2.1 hv).2] at this; exact this
  have h1:=yS (o.To::gL c.m.aM v) (gL c.m.aM y) (FL.2 ⟨λh=>hto (jJ.1 h).1,ai9 hone⟩) (λn hn=>by
   rcases gW.1 hn with rfl | hn
   ·exact jJ.2 ⟨(a4 _).2 (.inr ⟨o,ho,hoc.symm,rfl⟩),hgo⟩
   ·have:=jJ.1 hn
    exact jJ.2 ⟨nod hd n this.1,this.2⟩)
  rw [oO] at h1; exact h1
def aln{T:Int}{c c2:PC}(P:Pre T c)(hT:T<c.Z)(aYb:az0 c c2)(hc2:∃ k,Inv c2 k)(hall:∀ x∈c.m.J,c.r.je<=((gL c.m.aM x).length:Int)){w y:aH}(hw:w∈c.m.J)(hy:y∈c2.m.J)(hi:y.ID=w.ID):y.aD.length<=w.aD.length/\(c.r.je<(w.aD.length:Int)->y.aD.length+1<=w.aD.length):=by
 have L:=P.late hT;obtain⟨k,aYd⟩:=P.H.inv;obtain⟨k2,I2⟩:=hc2;have hm:=dD.1 aYd.hm;have hu:=lS hm.2.1;obtain⟨v,hv,a1,a2,a3,a4⟩:=aYb.ch y hy;have:=lI hu hv hw (a1.symm.trans hi); subst this
 have hN:TY c.m c.s c.r c.Z=[]:=alf.2 λn hn=>by
  obtain⟨x,hx,hb,_⟩:=(O6 L n).1 hn;have:=(KT L hx).1 hb; have:=hall x hx; omega
 have hR:uH c.m c.s c.r c.Z=([],[]):=by unfold uH; rw [hN,afF L]; rfl
 have hone:=tQ hm.2.1 v hv;have hy1:oF y=true:=tQ (dD.1 I2.hm).2.1 y hy
 have hsub:∀ n∈y.aD,n∈v.aD:=λn hn=>by
  rcases(a4 n).1 hn with h | ⟨o,ho,_⟩
  ·exact h.1
  ·rw [hR] at ho; exact absurd ho av
 refine⟨yS _ _ (NT (F5 hy1)) hsub,λhlt=>?_⟩;have hgood:=hall v hv;have hbd:=(og aYd.hr).2.2.2.2.1
 obtain⟨id,hE⟩:∃ id,trE (uH c.m c.s c.r c.Z).1 c.m.J c.m.aM (vV c.s c.r c.Z) c.r.je v=(id,true):=by
  have hneg:¬ (c.r.je<1∨((iW v c.m.aM (vV c.s c.r c.Z)).length:Int)<c.r.je):=by rw [DK hm.1 P.al]; omega
  unfold trE
  cases hid:LH v c.m.aM (vV c.s c.r c.Z) with
  | cons i l=>exact⟨i,Y7 hneg (by rw [hid]; rfl)⟩
  | nil=>
   refine⟨_,adD hneg (by rw [hid]; simp) ?_⟩;rw [DK hm.1 P.al]
   have hfull:gL c.m.aM v=v.aD:=DT.2 λn hn=>by
    obtain⟨nd,hnd,hni,_⟩:=hm.2.2.2 v hv n hn;have hf:=Jl hm.1 hnd;rw [hni] at hf;have hnot:n∉LH v c.m.aM (vV c.s c.r c.Z):=by rw [hid]; simp
    refine alg λhb=>hnot (jJ.2 ⟨hn,?_⟩);unfold Ci at hb; unfold adC;rw [hf.1] at hb ⊢;rw [nG.2 (by rw [<- hni]; exact P.al nd hnd)]
    simp at hb ⊢; exact hb
   rw [hfull]; omega
 have hin:U6 v id (c.Z+c.r.gV)∈uY c.m c.s c.r c.Z:=by
  unfold uY xI;refine ML.2 ⟨v,by rw [O5 L]; exact hv,?_⟩;unfold Pj;rw [aQ (by rw [hR]; simp [jB]),hE]; simp
 have aPR:id∈v.aD:=by
  have hE':V4 v c.m.aM (vV c.s c.r c.Z) (iQ c.m.J c.m.aM (uH c.m c.s c.r c.Z).1) c.r.je=(id,true):=hE;have h:=(avH (show(V4 v c.m.aM (vV c.s c.r c.Z) (iQ c.m.J c.m.aM (uH c.m c.s c.r c.Z).1) c.r.je).2=true by rw [hE'])).2.2;rw [hE'] at h
  rcases h with h | ⟨_,h⟩
  ·exact(jJ.1 h).1
  ·exact(jJ.1 (jJ.1 h).1).1
 have aPS:id∉y.aD:=λh=>by
  rcases(a4 id).1 h with h | ⟨o,ho,_⟩
  ·exact h.2 ⟨_,hin,rfl,rfl⟩
  ·rw [hR] at ho; exact absurd ho av
 have:=yS (id::y.aD) v.aD (FL.2 ⟨aPS,NT (F5 hy1)⟩) (λn hn=>by
  rcases gW.1 hn with rfl | hn
  ·exact aPR
  ·exact hsub n hn)
 rw [oO] at this; exact this
def alo{T:Int}{c:PC}(L:Late T c)(hall:∀ x∈c.m.J,c.r.je<=((gL c.m.aM x).length:Int)/\(x.aD.length:Int)<=c.r.je):pF c.m c.s c.r c.Z=[]/\mM c.m c.s c.r c.Z=[]:=by
 obtain⟨k,aYd⟩:=L.H.inv;have hm:=dD.1 aYd.hm;have hN:TY c.m c.s c.r c.Z=[]:=alf.2 (by grind [O6,KT]);have hR:uH c.m c.s c.r c.Z=([],[]):=by unfold uH; rw [hN,afF L]; rfl
 have hT:uY c.m c.s c.r c.Z=[]:=by
  unfold uY xI;rw [O5 L,List.flatMap_eq_nil_iff];intro x hx;have h1:=hall x hx;have h2:(gL c.m.aM x).length<=x.aD.length:=mW _ _
  have hfull:∀ n∈x.aD,Ci c.m.aM n=true:=by
   have:(gL c.m.aM x).length=x.aD.length:=aj;exact DT.1 (Vb.eq_of_length this)
  have aVa:LH x c.m.aM (vV c.s c.r c.Z)=[]:=by simp_all [LH,Ci,adC]
  have hbd:=(og aYd.hr).2.2.2.2.1;have he:=Y8 (c:=x) (l:=c.m.aM) (D:=vV c.s c.r c.Z) (aX:=iQ c.m.J c.m.aM (uH c.m c.s c.r c.Z).1) (bQ:=c.r.je) (by rw [DK hm.1 L.al]; omega) (by grind) (by rw [DK hm.1 L.al]; omega);unfold Pj trE; rw [he]; simp
 obtain⟨hO,_⟩:=awm L.H
 grind [pF,mM]
def alp(c:PC):DN c=LW 6 500 (tq (F9 c)):=by
 rfl
def az5{c:PC}(h:¬ c.I.length=0):(nJ c ⟨6,0,0,0⟩).1.I.length+1=c.I.length/\(nJ c ⟨6,0,0,0⟩).1.Z=c.Z:=by
 cases hn:c.I with
 | nil=>grind
 | cons o rest=>
  have e:nJ c ⟨6,0,0,0⟩=kM c ⟨6,0,0,0⟩:=by rfl
  have e2:c.I[(0:Int).toNat]? = some o:=by grind
  have e3:c.I.take (0:Int).toNat++c.I.drop ((0:Int).toNat+1)=rest:=by grind
  rw [e]; unfold kM
  grind [F7]
def alq:∀(n:Nat){c:PC},Hl c->Hl (LW 6 n c)/\(LW 6 n c).I.length=c.I.length - n/\(LW 6 n c).Z=c.Z
 | 0,c,H=>⟨H,rfl,rfl⟩
 | n+1,c,H=>by
  by_cases h:c.I.length=0
  ·rw [ai6 h]; exact⟨H,aj,rfl⟩
  ·rw [afv h]
   obtain⟨h1,h2⟩:=az5 h;obtain⟨a1,a2,a3⟩:=alq n (acO H (it:=⟨6,0,0,0⟩) (.inr (.inr (.inr (.inr (.inl rfl))))));exact⟨a1,aj,a3.trans h2⟩
def aK9{c:PC}(H:Hl c):aX9 (c.Z+c.r.gV) c:=⟨λx hx=>.inl (H.un.l x hx),λo ho _=>.inl (H.un.d o ho)⟩
def awp{c:PC}(H:Hl c):Hl (tq c)/\(tq c).I.length<=c.I.length+72/\(tq c).Z=c.Z:=by
 have e5:(nJ c ⟨5,0,0,0⟩).1=tq c:=by rfl
 obtain⟨k,aYd⟩:=H.inv;refine⟨by rw [<- e5]; exact acO H (.inr av),?_,rfl⟩;have h1:=VA (m:=c.m) (r:=c.r) (Z:=c.Z) aYd.NI;have:=H.few;show(c.I++pF _ _ _ _).length<=_
 grind
def wet{c:PC}(H:Hl c)(hn:c.Z<=1000000):Hl (DN c)/\(DN c).Z=c.Z+1/\(DN c).I.length<=c.I.length - 300:=by
 obtain⟨HC,_,R,_,_⟩:=awo H hn (aK9 H);obtain⟨HD,d1,d2⟩:=awp HC;obtain⟨HP,p1,p2⟩:=alq 500 HD;obtain⟨S,s1,s2⟩:=R.I;rw [alp];refine⟨HP,p2.trans (d2.trans R.Z),?_⟩
 grind
def aBG{c:PC}(H:Hl c)(hn:c.Z<=900000):∀ n:Nat,n<=1000->Hl (vH n c)/\(vH n c).Z=c.Z+n/\(vH n c).I.length<=c.I.length - 300*n
 | 0,_=>⟨H,by show c.Z=c.Z+((0:Nat):Int); omega,by show c.I.length<=_; omega⟩
 | n+1,h=>by
  obtain⟨a1,a2,a3⟩:=aBG H hn n aj;obtain⟨b1,b2,b3⟩:=wet a1 aj;refine⟨b1,?_,?_⟩
  ·show(DN (vH n c)).Z=_; rw [b2,a2]; omega
  ·show(DN (vH n c)).I.length<=_; omega
structure Dry (T:Int) (c:PC):Prop where
  H:Hl c
  aX9:aX9 T c
  I:c.I=[]
theorem TP{T:Int}{c:PC}(aYb:Dry T c)(hn:c.Z<=1000000):Dry T (DN c)/\(DN c).Z=c.Z+1/\Pre T (F9 c)/\az0 (F9 c) (DN c)/\Rdy c (F9 c)/\(Qh (F9 c)->Qh (DN c))/\∀ n∈(DN c).m.aM,n.ID∈vV (DN c).s (DN c).r (DN c).Z:=by
 obtain⟨HC,JC,R,_,P⟩:=awo aYb.H hn aYb.aX9;have P:=P aYb.I;obtain⟨r1,r2,r3,r4,r5⟩:=awn P;rw [<- alp] at r1 r2 r3 r4 r5;refine⟨⟨r1,r2,r3⟩,r5.Z.trans R.Z,P,r5,R,r4,λn hn=>?_⟩;rw [r5.ns] at hn;have:=P.al n hn;unfold vV at this ⊢;rw [r5.Z,r5.r,show(eT (DN c).s (F9 c).Z).bZ=(eT (F9 c).s (F9 c).Z).bZ from r5.bt]
 grind
def gN(c:PC)(id:Int):Nat:=(gL c.m.aM (aV c.m.J id)).length
def hN(c:PC)(id:Int):Nat:=(aV c.m.J id).aD.length
def acQ(ids:List Int)(c:PC):Prop:=(∀ id∈ids,gQ c.m.J id=true)/\∀ x∈c.m.J,x.ID∈ids
def acQ.same{ids:V Int}{c c2:PC}(h:acQ ids c)(hm:ku c.m.J=true)(hm2:ku c2.m.J=true)(hs:kS c.m.J c2.m.J):acQ ids c2:=by
 refine⟨λid hid=>?_,λx hx=>?_⟩
 ·obtain⟨x,hx,rfl⟩:=(Dr hm).1 (h.1 id hid)
  obtain⟨y,hy,e,_⟩:=hs.1 x hx
  grind [Dr]
 ·obtain⟨y,hy,e,_⟩:=hs.2 x hx
  rw [e]; exact h.2 y hy
def ajc{T:Int}{c:PC}{ids:V Int}(aYb:Dry T c)(hn:c.Z<=1000000)(hT:T<=c.Z)(hI:acQ ids c){W:Nat}(hW:c.r.je=(W:Int)):acQ ids (DN c)/\(DN c).r=c.r/\(∀ id∈ids,W - gN (DN c) id<=W - gN c id)/\((∃ id∈ids,gN (DN c) id<W)->∃ id∈ids,W - gN (DN c) id<W - gN c id)/\
  (Qh c->(∀ id∈ids,W<=gN c id)->∀ id∈ids,hN (DN c) id<=hN c id/\(W<hN c id->hN (DN c) id+1<=hN c id))/\Qh (DN c):=by
 obtain⟨D2,az3,P,R2,R1,hQ,_⟩:=TP aYb hn;have hT1:T<(F9 c).Z:=by rw [R1.Z]; omega
 have Q1:=aK8 P hT1;obtain⟨k0,I0⟩:=aYb.H.inv; obtain⟨k1,I1⟩:=P.H.inv; obtain⟨k2,I2⟩:=D2.H.inv;have m0:=dD.1 I0.hm; have m1:=dD.1 I1.hm; have m2:=dD.1 I2.hm;have u0:=lS m0.2.1; have u1:=lS m1.2.1;have hI1:=hI.same m0.2.1 m1.2.1 R1.s3;have hI2:=hI1.same m1.2.1 m2.2.1 R2.s3;have hW1:(F9 c).r.je=(W:Int):=by rw [R1.r]; exact hW
 have at0:∀ id∈ids,aV c.m.J id∈c.m.J/\(aV c.m.J id).ID=id:=λid h=>⟨vv m0.2.1 (hI.1 id h),Dh m0.2.1 (hI.1 id h)⟩;have at1:∀ id∈ids,aV (F9 c).m.J id∈(F9 c).m.J/\(aV (F9 c).m.J id).ID=id:=λid h=>⟨vv m1.2.1 (hI1.1 id h),Dh m1.2.1 (hI1.1 id h)⟩;have at2:∀ id∈ids,aV (DN c).m.J id∈(DN c).m.J/\(aV (DN c).m.J id).ID=id:=λid h=>⟨vv m2.2.1 (hI2.1 id h),Dh m2.2.1 (hI2.1 id h)⟩
 have aFe:∀ id∈ids,(∀ n∈(aV c.m.J id).aD,n∈(aV (F9 c).m.J id).aD)/\∀ n∈(aV (F9 c).m.J id).aD,n∈(aV c.m.J id).aD∨hst c.hs n (aV c.m.J id):=λid h=>by
  obtain⟨w,hw,a1,_,_,a4,a5⟩:=R1.ch _ (at1 id h).1;have:=lI u0 hw (at0 id h).1 (a1.symm.trans ((at1 id h).2.trans (at0 id h).2.symm)); subst this;exact⟨a4,a5⟩
 have g01:∀ id∈ids,gN c id<=gN (F9 c) id:=λid h=>by
  unfold gN; rw [R1.ns]; exact EF (tQ m0.2.1 _ (at0 id h).1) (aFe id h).1
 have g12:=λid (h:id∈ids)=>alm P R2 ⟨k2,I2⟩ (at1 id h).1 (at2 id h).1 ((at2 id h).2.trans (at1 id h).2.symm)
 have aFf:∀ id∈ids,W - gN (DN c) id<=W - gN (F9 c) id:=λid h=>by
  obtain⟨b1,b2,_⟩:=g12 id h;rw [hW1] at b1 b2;unfold gN
  by_cases hlt:(gL (F9 c).m.aM (aV (F9 c).m.J id)).length<W
  ·have:=b1 aj; omega
  ·have:=b2 aj; omega
 refine⟨hI2,R2.r.trans R1.r,λid h=>by have:=aFf id h; have:=g01 id h; omega,fun⟨id,h,hlt⟩=>?_,λQ0 hall id h=>?_,hQ Q1⟩
 ·have hex:∃ x∈(F9 c).m.J,((gL (F9 c).m.aM x).length:Int)<(F9 c).r.je:=by
   refine⟨_,(at1 id h).1,?_⟩;rw [hW1];obtain⟨_,b2,_⟩:=g12 id h;rw [hW1] at b2;unfold gN at hlt
   by_cases hlt2:(gL (F9 c).m.aM (aV (F9 c).m.J id)).length<W
   ·omega
   ·have:=b2 aj; omega
  obtain⟨o,ho,x,hx,hxo,hxg⟩:=aqr (P.late hT1) (by rw [R1.Z]; omega) hex;have hxi:=hI1.2 x hx;have hxe:aV (F9 c).m.J x.ID=x:=TH m1.2.1 hx;obtain⟨_,_,b3⟩:=g12 x.ID hxi;have b3:=b3 ⟨o,ho,(at1 x.ID hxi).2.trans hxo⟩;rw [hW1] at hxg;refine⟨x.ID,hxi,?_⟩;have h01:=g01 x.ID hxi;unfold gN at h01 ⊢;rw [hxe] at b3 h01;omega
 ·have hsub:∀ n∈(aV (F9 c).m.J id).aD,n∈(aV c.m.J id).aD:=λn hn=>by
   rcases(aFe id h).2 n hn with h1 | h1
   ·exact h1
   ·obtain⟨nd,hnd,hni,hst⟩:=m1.2.2.2 _ (at1 id h).1 n hn
    have hs:iZ c.m.aM n=true:=(zJ m0.1).2 ⟨nd,by rw [<- R1.ns]; exact hnd,hni,hst⟩
    rcases Q0 n hs _ (at0 id h).1 h1 with h2 | ⟨p,hp,_⟩
    ·exact h2
    ·rw [aYb.I] at hp; exact absurd hp av
  have l1:=yS _ _ (NT (F5 (tQ m1.2.1 _ (at1 id h).1))) hsub;have l2:=yS _ _ (NT (F5 (tQ m0.2.1 _ (at0 id h).1))) (aFe id h).1
  have t:=aln P hT1 R2 ⟨k2,I2⟩ (λx hx=>by
   have hxi:=hI1.2 x hx;have h1:=hall x.ID hxi; have h2:=g01 x.ID hxi;unfold gN at h2;rw [TH m1.2.1 hx] at h2;unfold gN at h1
   rw [hW1]; omega) (at1 id h).1 (at2 id h).1 ((at2 id h).2.trans (at1 id h).2.symm)
  rw [hW1] at t;unfold hN;refine⟨aj,λhlt=>?_⟩;have:=t.2 aj; omega
def ajd{f g:Int->Nat}:∀ {l:V Int},(∀ i∈l,f i<=g i)->(l.map f).sum<=(l.map g).sum
 | [],_=>j4 _
 | a::l,h=>by
  have h1:=h a mO;have h2:=ajd (l:=l) (λi hi=>h i (kL _ hi))
  simp only [mg,List.sum_cons]; omega
def aje{f g:Int->Nat}:∀ {l:V Int},(∀ i∈l,f i<=g i)->(∃ i∈l,f i<g i)->(l.map f).sum+1<=(l.map g).sum
 | [],_,⟨i,hi,_⟩=>absurd hi av
 | a::l,h,⟨i,hi,hlt⟩=>by
  have h1:=h a mO;have hr:=λi hi=>h i (kL a hi)
  simp only [mg,List.sum_cons]
  rcases gW.1 hi with rfl | hi
  ·have h2:=ajd hr; omega
  ·have h2:=aje hr ⟨i,hi,hlt⟩; omega
def ajf{f:Int->Nat}:∀ {l:V Int},(l.map f).sum=0->∀ i∈l,f i=0
 | a::l,h,i,hi=>by
  simp only [mg,List.sum_cons] at h
  rcases gW.1 hi with rfl | hi
  ·omega
  ·exact ajf aj i hi
def alr{f:Int->Nat}{m:Nat}:∀ {l:V Int},(∀ i∈l,f i<=m)->(l.map f).sum<=l.length*m
 | [],_=>fI _
 | a::l,h=>by
  have h1:=h a mO;have h2:=alr (l:=l) (λi hi=>h i (kL _ hi))
  simp only [mg,List.sum_cons,oO,Nat.succ_mul]; omega
def sD(W:Nat)(ids:List Int)(c:PC):Nat:=(ids.map λid=>W - gN c id).sum
structure Lt (T:Int) (ids:List Int) (W:Nat) (c:PC):Prop where
  aYb:Dry T c
  T:T<=c.Z
  ids:acQ ids c
  W:c.r.je=(W:Int)
def anD{T:Int}{ids:V Int}{W:Nat}{c:PC}(L:Lt T ids W c)(hn:c.Z<=1000000):Lt T ids W (DN c)/\(DN c).Z=c.Z+1/\(sD W ids (DN c)+1<=sD W ids c∨sD W ids (DN c)=0)/\Qh (DN c):=by
 obtain⟨h1,h2,h3,h4,_,h6⟩:=ajc L.aYb hn L.T L.ids L.W;obtain⟨D2,az3,_⟩:=TP L.aYb hn;refine⟨⟨D2,by rw [az3]; have:=L.T; omega,h1,by rw [h2]; exact L.W⟩,az3,?_,h6⟩
 by_cases hz:sD W ids (DN c)=0
 ·grind
 ·refine .inl (aje h3 (h4 (alg λhno=>hz ?_)))
  have:∀ i∈ids,W - gN (DN c) i<=0:=by grind
  have:=alr this
  grind [sD]
def lt_n{T:Int}{ids:V Int}{W:Nat}{c:PC}(L:Lt T ids W c)(hn:c.Z<=900000):∀ n:Nat,n<=1000->Lt T ids W (vH n c)/\(vH n c).Z=c.Z+n/\(sD W ids (vH n c)+n<=sD W ids c∨sD W ids (vH n c)=0)/\(0<n->Qh (vH n c))
 | 0,_=>⟨L,by show c.Z=c.Z+((0:Nat):Int); omega,.inl (j4 _),λh=>absurd h au⟩
 | n+1,h=>by
  obtain⟨a1,a2,a3,_⟩:=lt_n L hn n aj;obtain⟨b1,b2,b3,b4⟩:=anD a1 aj;refine⟨b1,?_,?_,λ_=>b4⟩
  ·show(DN (vH n c)).Z=_; rw [b2,a2]; omega
  ·show sD W ids (DN (vH n c))+(n+1)<=_∨sD W ids (DN (vH n c))=0
   rcases b3 with b3 | b3
   ·rcases a3 with a3 | a3
    ·exact .inl aj
    ·omega
   ·exact .inr b3
structure Ful (T:Int) (ids:List Int) (W:Nat) (c:PC):Prop where
  L:Lt T ids W c
  Q:Qh c
  g:∀ id∈ids,W<=gN c id
def awq{T:Int}{ids:V Int}{W:Nat}{c:PC}(F:Ful T ids W c)(hn:c.Z<=900000):∀ n:Nat,n<=1000->Ful T ids W (vH n c)/\(vH n c).Z=c.Z+n/\∀ id∈ids,hN (vH n c) id<=W∨hN (vH n c) id+n<=hN c id
 | 0,_=>⟨F,by show c.Z=c.Z+((0:Nat):Int); omega,λid _=>.inr (j4 _)⟩
 | n+1,h=>by
  obtain⟨a1,a2,a3⟩:=awq F hn n aj;obtain⟨b1,b2,_,b4⟩:=anD a1.L aj;obtain⟨_,_,c3,_,c5,_⟩:=ajc a1.L.aYb aj a1.L.T a1.L.ids a1.L.W;have c5:=c5 a1.Q a1.g;refine⟨⟨b1,b4,λid hid=>by have:=c3 id hid; have:=a1.g id hid; show W<=gN (DN (vH n c)) id; omega⟩,?_,λid hid=>?_⟩
  ·show(DN (vH n c)).Z=_; rw [b2,a2]; omega
  ·show hN (DN (vH n c)) id<=W∨hN (DN (vH n c)) id+(n+1)<=_
   have:=c5 id hid
   rcases a3 id hid with h1 | h1
   ·exact .inl aj
   ·by_cases h2:W<hN (vH n c) id
    ·have:=this.2 h2; exact .inr aj
    ·exact .inl aj
def afH(a:Nat)(c:PC):∀ b,vH (a+b) c=vH b (vH a c)
 | 0=>rfl
 | b+1=>by show DN (vH (a+b) c)=DN (vH b (vH a c)); rw [afH a c b]
def awr(kind:Int):∀(ids:V Int)(c:PC),(rA kind ids c).r=c.r
 | [],_=>rfl
 | z::ids,c=>(awr kind ids _).trans (ak3 c _)
def aBH(kind:Int):∀(n:Nat)(c:PC),(LW kind n c).r=c.r
 | 0,_=>rfl
 | n+1,c=>by
  unfold LW; split
  ·rfl
  ·exact(aBH kind n _).trans (ak3 c _)
def aBI(c:PC):(DN c).r=c.r:=by
 simp [DN,hlD,F9,hlB,hlA,aBH,ak3,awr]
theorem anE(c:PC):∀ n,(vH n c).r=c.r
 | 0=>rfl
 | n+1=>(aBI _).trans (anE c n)
def aqs{c:PC}(H:Hl c)(hn:c.Z<=800000)(hw:c.I.length<=7200){N:Nat}(hNl:112<=N)(hNu:N<=900):CZ (vH N c) c.r=true/\Hl (vH N c):=by
 -- the I runs dry
 obtain⟨a1,a2,a3⟩:=aBG H aj 24 au;have aVc:(vH 24 c).r=c.r:=anE c 24;have aPV:(vH 24 c).I=[]:=xY aj;have aYb:Dry ((vH 24 c).Z+(vH 24 c).r.gV) (vH 24 c):=⟨a1,aK9 a1,aPV⟩
 generalize hc24:vH 24 c=c24 at *
 -- what was known passes
 have dn:∀ n:Nat,n<=100->Dry (c24.Z+c24.r.gV) (vH n c24)/\(vH n c24).Z=c24.Z+n:=λn=>by
  induction n <;> grind [DN,vH,TP]
 obtain⟨D33,n33⟩:=dn 9 au;have aPX:(vH 9 c24).r=c.r:=by grind [anE]
 obtain⟨k,aYd⟩:=D33.H.inv;have m33:=dD.1 aYd.hm;have hbd:=(og aYd.hr).2.2.2.2.1;rw [aPX] at hbd;obtain⟨W,hW⟩:∃ W:Nat,c.r.je=(W:Int):=⟨c.r.je.toNat,aj⟩
 have L:Lt (c24.Z+c24.r.gV) ((vH 9 c24).m.J.map aH.ID) W (vH 9 c24):=by
  refine⟨D33,by rw [n33]; have:=a1.dY; omega,⟨λid hid=>?_,by grind⟩,by grind⟩;obtain⟨x,hx,rfl⟩:=eX.1 hid;exact by grind [uy]
 generalize apq:(vH 9 c24).m.J.map aH.ID=ids at *
 have hil:ids.length<=8:=by rw [<- apq,jW]; exact D33.H.few
 generalize aVd:vH 9 c24=c33 at *
 -- copies
 obtain⟨L97,n97,s97,q97⟩:=lt_n L aj 64 au
 have hs:sD W ids c33<=64:=by
  have h1:sD W ids c33<=ids.length*W:=alr av;have h2:ids.length*W<=8*8:=LX hil aj;omega
 have hz:sD W ids (vH 64 c33)=0:=aj;have F:Ful (c24.Z+c24.r.gV) ids W (vH 64 c33):=⟨L97,by grind,λid hid=>by have:=ajf hz id hid; omega⟩
 -- whoever is too many goes
 obtain⟨b,hb⟩:∃ b,N=24+(9+(64+(b+1))):=⟨N - 98,aj⟩;obtain⟨F1,n1,h1⟩:=awq F aj b aj;obtain⟨F2,n2,h2⟩:=awq F aj (b+1) aj;have hfin:vH N c=vH (b+1) (vH 64 c33):=by simp_all [afH]
 have al:∀ n∈(vH (b+1) (vH 64 c33)).m.aM,n.ID∈vV (vH (b+1) (vH 64 c33)).s (vH (b+1) (vH 64 c33)).r (vH (b+1) (vH 64 c33)).Z:=(TP F1.L.aYb aj).2.2.2.2.2.2;rw [hfin];have hrf:(vH (b+1) (vH 64 c33)).r=c.r:=by grind [anE]
 generalize hcf:vH (b+1) (vH 64 c33)=cf at *
 obtain⟨kf,If⟩:=F2.L.aYb.H.inv;have mf:=dD.1 If.hm;have k97:=(dD.1 L97.aYb.H.inv.choose_spec.hm).2.1
 have hall:∀ x∈cf.m.J,cf.r.je<=((gL cf.m.aM x).length:Int)/\(x.aD.length:Int)<=cf.r.je:=λx hx=>by
  have hid:=F2.L.ids.2 x hx;have g1:=F2.g x.ID hid;have g2:=h2 x.ID hid
  have g3:hN (vH 64 c33) x.ID<=16:=by
   unfold hN; exact(vo k97).2 _ (vv k97 (L97.ids.1 x.ID hid))
  grind [gN,hN,TH]
 have Lf:Late (c24.Z+c24.r.gV) cf:=⟨F2.L.aYb.H,F2.L.aYb.aX9,by have:=L97.T; omega,λp hp=>by rw [F2.L.aYb.I] at hp; grind,al⟩;obtain⟨q1,q2⟩:=alo Lf hall;refine⟨?_,F2.L.aYb.H⟩;unfold CZ;rw [<- hrf,q1,q2,alb If F2.L.aYb.H.k]
 have:cf.m.J.all (wz cf.m cf.r)=true:=by
  rw [mD];intro x hx;obtain⟨e1,e2⟩:=hall x hx;have e3:(gL cf.m.aM x).length<=x.aD.length:=mW _ _;unfold wz;rw [DK mf.1 (by grind),tY (by grind),tY aj]; rfl
 grind
structure Ris (c c1:PC):Prop where
  inv:∃ k,Inv c1 k
  m:c1.m=c.m
  s:c1.s=c.s
  Z:c1.Z=c.Z
  r:c1.r=c.r
  I:c1.I=c.I
  up:∀ z,uP c.hs z=true->uP c1.hs z=true
  hs:∀ z h,cZ z c.hs=some h->∃ h1,cZ z c1.hs=some h1/\h1.l=h.l/\h1.d=h.d
def Ris.ns{c c1:PC}(R:Ris c c1):c1.m.aM=c.m.aM:=by rw [R.m]
def ajg{c:PC}{k:Nat}(aYd:Inv c k)(z:Int):Ris c (nJ c ⟨10,z,0,0⟩).1/\((cZ z c.hs).isSome=true->uP (nJ c ⟨10,z,0,0⟩).1.hs z=true):=by
 have I2:=xB aYd ⟨10,z,0,0⟩
 revert I2
 rw [afy (k:=10) au]
 cases hg:cZ z c.hs with
 | none=>exact λI2=>⟨⟨⟨_,aYd⟩,rfl,rfl,rfl,rfl,rfl,λ_ h=>h,by grind⟩,av⟩
 | some h=>
  simp only
  by_cases hu:h.up=true
  ·rw [aS (by rw [hu]; rfl)]
   exact λI2=>⟨⟨⟨_,aYd⟩,Y,Y,Y,Y,Y,λ_ h=>h,by grind⟩,by grind [uP]⟩
  ·have hf:h.up=false:=by grind
   rw [aQ (by rw [hf]; decide)]
   have ea:Il c ⟨10,z,0,0⟩ h=({ c with hs:=fO z ⟨true,h.bB,h.l,h.d⟩ c.hs },0):=by
    unfold Il; rw [aQ (by show ¬ (10:Int)=3; decide),aQ (by show ¬ (10:Int)=4; decide),aQ (by show ¬ (10:Int)=9; decide),aS rfl,Tz (aYd.hz _ _ hg).l]
   rw [ea];intro I2;refine⟨⟨⟨_,I2⟩,Y,Y,Y,Y,Y,by grind [afA],λy u hy=>?_⟩,by grind [TN]⟩
   grind [lC]
def Ris.trans{a b c:PC}(h1:Ris a b)(h2:Ris b c):Ris a c:=
 ⟨h2.inv,h2.m.trans h1.m,h2.s.trans h1.s,h2.Z.trans h1.Z,h2.r.trans h1.r,h2.I.trans h1.I,λz h=>h2.up z (h1.up z h),λz h hz=>by
  obtain⟨u,hu,a1,a2⟩:=h1.hs z h hz;obtain⟨v,hv,b1,b2⟩:=h2.hs z u hu
  grind⟩
def aaG:∀(ids:V Int){c:PC}{k:Nat},Inv c k->Ris c (rA 10 ids c)/\∀ z∈ids,(cZ z c.hs).isSome=true->uP (rA 10 ids c).hs z=true
 | [],c,k,aYd=>⟨⟨⟨k,aYd⟩,rfl,rfl,rfl,rfl,rfl,λ_ h=>h,λy h hy=>⟨h,hy,rfl,rfl⟩⟩,λz hz=>absurd hz av⟩
 | z::ids,c,k,aYd=>by
  obtain⟨R1,h1⟩:=ajg aYd z;obtain⟨k2,I2⟩:=R1.inv;obtain⟨R2,h2⟩:=aaG ids I2;refine⟨R1.trans R2,λy hy hs=>?_⟩
  rcases gW.1 hy with rfl | hy
  ·exact R2.up _ (h1 hs)
  ·refine h2 y hy ?_
   obtain⟨h,hh⟩:=Option.isSome_iff_exists.1 hs;obtain⟨u,hu,_⟩:=R1.hs y h hh;rw [hu]; rfl
def VE:∀(ids:V Int){c:PC}{k:Nat},Inv c k->∀ z h1,cZ z (rA 10 ids c).hs=some h1->∃ h,cZ z c.hs=some h/\h1.l=h.l/\h1.d=h.d
 | [],c,k,aYd,z,h1,hz=>⟨h1,hz,rfl,rfl⟩
 | n::ids,c,k,aYd,z,h1,hz=>by
  obtain⟨R1,_⟩:=ajg aYd n;obtain⟨k2,I2⟩:=R1.inv;obtain⟨u,hu,e1,e2⟩:=VE ids I2 z h1 hz
  have key:∃ h,cZ z c.hs=some h:=by
   cases hg:cZ z c.hs with
   | some h=>exact⟨h,rfl⟩
   | none=>
    exfalso
    revert hu
    rw [afy (k:=10) au];show cZ z (match cZ n c.hs with | none=>(c,(5:Int)) | some h=>if vD 10=some (!h.up) then(c,8) else Il c ⟨10,n,0,0⟩ h).1.hs=some u->False
    cases hn:cZ n c.hs with
    | none=>intro hu; rw [show cZ z c.hs=some u from hu] at hg; exact absurd hg av
    | some h=>
     simp only
     split
     ·intro hu; rw [show cZ z c.hs=some u from hu] at hg; exact absurd hg av
     ·unfold Il; rw [aQ (by show ¬ (10:Int)=3; decide),aQ (by show ¬ (10:Int)=4; decide),aQ (by show ¬ (10:Int)=9; decide),aS rfl]
      show cZ z (fO n _ c.hs)=some u->False;rw [lC]; split
      ·rename_i he; rw [he,hn] at hg; exact absurd hg av
      ·intro hu; rw [hu] at hg; exact absurd hg av
  obtain⟨h,hg⟩:=key;obtain⟨v,hv,b1,b2⟩:=R1.hs z h hg;rw [hu] at hv; injection hv with hv; subst hv;exact⟨h,hg,e1.trans b1,e2.trans b2⟩
def az7{r:ARules}(hr:l5 r=true){l:V AItem}:Inv (xO (Jh r) l) l.length/\(xO (Jh r) l).r=r/\Un (xO (Jh r) l)/\lZ 0 (xO (Jh r) l).s.bZ=true/\(xO (Jh r) l).I.length<=l.length*(64+(xO (Jh r) l).m.J.length):=by
 have h1:=OX hr (l:=l) (j4 _);have h2:=anx hr l l.length (j4 _);rw [HZ] at h1 h2;exact⟨h1,aBA l (Jh r),awg l (aPN r),aaz l Y,h2⟩
end
end Go.Proofs.YthcmboepffiliaaGreat
