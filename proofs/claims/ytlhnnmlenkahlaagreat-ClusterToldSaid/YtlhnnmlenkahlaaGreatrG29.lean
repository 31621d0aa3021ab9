/- Lemmas. -/
import Derived.Test.YtlhnnmlenkahlaaGreatrG28
set_option maxRecDepth 4000
set_option linter.all false
namespace Go.Proofs.YtlhnnmlenkahlaaGreat
open Go.RowKit Go.Proofs.Tryz
def ad9:=@List.length_singleton
def qF:=@List.mem_cons_self
def JW:=@Decidable.not_not
variable {x y:aI}{κ ν:Type}{z dV all:Int}{c:PC}{m:dF}{hs:lq}{h:rG}{fG:List (BitVec 8)}{k:Nat}
abbrev o8(x:aI):Int:=2*x.aC+Ad x.gB
theorem R7(y x:aI):Jt y x<0↔o8 y<o8 x:=by
  rcases y with ⟨c1,v1,s1,t1,b1⟩; rcases x with ⟨c2,v2,s2,t2,b2⟩
  unfold Jt OA bB o8 Ad
  rcases Int.lt_trichotomy c1 c2 with h | h | h
  · cases t1 <;> cases t2 <;> simp [h] <;> omega
  · subst h; cases t1 <;> cases t2 <;> simp <;> omega
  · have h':¬ c1<c2:=aj
    cases t1 <;> cases t2 <;> simp [h,h'] <;> omega
theorem M8(y x:aI):Jt y x=0↔o8 y=o8 x:=by
  rcases y with ⟨c1,v1,s1,t1,b1⟩; rcases x with ⟨c2,v2,s2,t2,b2⟩
  unfold Jt OA bB o8 Ad
  rcases Int.lt_trichotomy c1 c2 with h | h | h
  · cases t1 <;> cases t2 <;> simp [h] <;> omega
  · subst h; cases t1 <;> cases t2 <;> simp <;> omega
  · have h':¬ c1<c2:=aj
    cases t1 <;> cases t2 <;> simp [h,h'] <;> omega
def U3(y x:aI):Prop:=o8 y<o8 x/\(y.aC=x.aC->y.aB<x.aB)
theorem abw(h:o8 x<o8 y):x.aC<=y.aC:=by
  rcases y with ⟨c1,v1,s1,t1,b1⟩; rcases x with ⟨c2,v2,s2,t2,b2⟩
  unfold o8 Ad at h; cases t1 <;> cases t2 <;> simp at h ⊢ <;> omega
theorem JX(h:o8 x=o8 y):x.aC=y.aC/\x.gB=y.gB:=by
  rcases y with ⟨c1,v1,s1,t1,b1⟩; rcases x with ⟨c2,v2,s2,t2,b2⟩
  unfold o8 Ad at h; cases t1 <;> cases t2 <;> simp at h ⊢ <;> omega
theorem ahc{z:aI}(h1:U3 x y)(h2:U3 y z):U3 x z:=by
  refine⟨by have:=h1.1; have:=h2.1; omega,λh=>?_⟩;have a:=abw h1.1; have b:=abw h2.1;have:=h1.2 aj; have:=h2.2 aj; omega
theorem asQ(p:Option aI)(x:aI):(!ada p x&&!MJ p x)=true↔∀ y,p=some y->U3 y x:=by
  cases p with
  | none=>simp [ada,MJ]
  | some y=>
    unfold ada MJ U3
    simp only [bN,eG,bV,eH,bO,XO,forall_eq']
    rw [<- R7]
    constructor
    · rintro⟨h1,h2⟩; exact⟨aj,λh=>by have:=h2 h; omega⟩
    · rintro⟨h1,h2⟩; exact⟨aj,λh=>by have:=h2 h; omega⟩
theorem abx:∀(l:List aI)(p:Option aI),OJ p l=true↔(∀ x∈l,aah x=false)/\l.Pairwise U3/\∀ y,p=some y->∀ x∈l,U3 y x
  | [],p=>by simp [OJ]
  | a::l,p=>by
    have e:OJ p (a::l)=((!aah a)&&((!ada p a&&!MJ p a)&&OJ (some a) l)):=by rw [OJ,XD,XD,XD]
    rw [e,bN,bN,asQ,abx l (some a)]
    simp only [iX,forall_eq_or_imp,pG,XO,forall_eq',eG]
    constructor
    · rintro⟨h1,h2,h3,h4,h5⟩
      exact⟨⟨h1,h3⟩,⟨h5,h4⟩,λy hy=>⟨h2 y hy,λx hx=>ahc (h2 y hy) (h5 x hx)⟩⟩
    · rintro⟨⟨h1,h3⟩,⟨h5,h4⟩,h6⟩
      exact⟨h1,λy hy=>(h6 y hy).1,h3,h4,h5⟩
theorem EN{l:List aI}:Rx l=true↔(∀ x∈l,aah x=false)/\l.Pairwise U3:=by
  unfold Rx; rw [abx]; simp
theorem alg{l:List aI}(h:Rx l=true):Up o8 l:=(EN.1 h).2.imp λh=>h.1
theorem ahd{l:List aI}(h:Rx l=true):iC l=l:=by unfold iC; rw [aO h]
section
variable {l:List aI}{c:Int}{t:Bool}
theorem get_of_mem{α:Type}{l:List α}{x:α}(h:x∈l):∃ k:Nat,l[k]? = some x:=ML.1 h
theorem aea{α:Type}{key:α->Int}{l:List α}(h:Up key l){i j:Nat}{x y:α}(hx:l[i]? = some x)(hy:l[j]? = some y)(he:key x=key y):i=j:=by
  rcases Xf i j with h1 | h1 | h1
  · have:=(DX.1 h) i j (aJ hx) (aJ hy) h1
    rw [qI (aJ hx)] at hx; rw [qI (aJ hy)] at hy
    injection hx with hx; injection hy with hy; rw [hx,hy] at this; omega
  · exact h1
  · have:=(DX.1 h) j i (aJ hy) (aJ hx) h1
    rw [qI (aJ hx)] at hx; rw [qI (aJ hy)] at hy
    injection hx with hx; injection hy with hy; rw [hx,hy] at this; omega
theorem ax5(h:Up o8 l)(x:aI):abR (λy=>Jt y x) l:=by
  intro i j a b hij ha hb hlt;rw [R7] at hlt ⊢
  rcases Nat.lt_or_eq_of_le hij with h1 | h1
  · have:=(DX.1 h) i j (aJ ha) (aJ hb) h1
    rw [qI (aJ ha)] at ha; rw [qI (aJ hb)] at hb
    injection ha with ha; injection hb with hb; rw [ha,hb] at this; omega
  · subst h1; rw [ha] at hb; injection hb with hb; rw [hb]; exact hlt
theorem JY(h:Up o8 l):P7 l c t=true↔∃ x∈l,x.aC=c/\x.gB=t:=by
  constructor
  · intro h1; obtain⟨x,hx,hz⟩:=zX h1
    have:=JX ((M8 _ _).1 hz); exact⟨x,bT hx,this.1,this.2⟩
  · rintro⟨x,hx,h1,h2⟩
    obtain⟨k,hk,rfl⟩:=List.mem_iff_getElem.1 hx;have hz:Jt l[k] (Ry c t)=0:=(M8 _ _).2 (by unfold o8; simp only; rw [h1,h2])
    have hl:low (λy=>Jt y (Ry c t)) l=k:=by
      refine xk (Nat.le_of_lt hk) (λa x ha hx=>?_) (λa x ha hx=>?_)
      · have:=(DX.1 h) a k (aJ hx) hk ha
        rw [qI (aJ hx)] at hx; injection hx with hx;rw [R7,<- (M8 _ _).1 hz,<- hx]; exact this
      · rw [R7,<- (M8 _ _).1 hz]
        rcases Nat.lt_or_eq_of_le ha with h3 | h3
        · have:=(DX.1 h) k a hk (aJ hx) h3
          rw [qI (aJ hx)] at hx; injection hx with hx; rw [<- hx]; omega
        · subst h3; rw [qI hk] at hx; injection hx with hx; rw [<- hx]; omega
    show x8 _ l=true;unfold x8; rw [VH (ax5 h _),hl,qI hk]; exact F8 hz
theorem Uj(h:Up o8 l)(hx:x∈l):Ba l x.aC x.gB=some x:=by
  have h1:P7 l x.aC x.gB=true:=(JY h).2 ⟨x,hx,rfl,rfl⟩;obtain⟨y,hy,hz⟩:=zX h1;have:=(M8 _ _).1 hz;rw [HV h1 hy];have hu:=uQ h (bT hy) hx (by rw [this]);rw [hu]
theorem aby(h:Up o8 l)(hn:∀ x∈l,¬ (x.aC=c/\x.gB=t)):Ba l c t=none:=by
  refine RA (xA.2 λh1=>?_);obtain⟨x,hx,h2⟩:=(JY h).1 h1; exact hn x hx h2
theorem asR(h:Up o8 l):(∀ x∈l.take (atR l c t),o8 x<o8 (Ry c t))/\(∀ x∈l.drop (atR l c t),o8 (Ry c t)<=o8 x):=by
  have e:atR l c t=low (λy=>Jt y (Ry c t)) l:=VH (ax5 h _);rw [e]
  have e2:low (λy=>Jt y (Ry c t)) l=low (λy=>bB (o8 y) (o8 (Ry c t))) l:=by
    unfold low; refine List.countP_congr λx _=>?_
    simp only [bO]; rw [R7]; unfold bB; split <;> simp_all
    split <;> omega
  rw [e2];exact⟨λx hx=>aa9 h hx,λx hx=>abb h hx⟩
theorem M9(h:Up o8 l)(x y:aI):y∈Ae l x↔y=x∨(y∈l/\o8 y≠o8 x):=by
  unfold Ae
  by_cases h1:P7 l x.aC x.gB=true
  · rw [aO h1]
    obtain⟨z,hz,h2⟩:=zX h1;have hk:=(M8 _ _).1 h2;have hk':o8 z=o8 x:=hk
    constructor
    · intro hy
      obtain⟨k,hk2⟩:=get_of_mem hy;rw [XM] at hk2
      split at hk2
      · split at hk2
        · injection hk2 with hk2; exact .inl hk2.symm
        · simp at hk2
      · rename_i hne
        refine .inr ⟨bT hk2,λhe=>hne ?_⟩;exact aea h hz hk2 aj
    · rintro(rfl | ⟨hy,hne⟩)
      · exact ML.2 ⟨atR l y.aC y.gB,by rw [qb (Pz h1)]⟩
      · obtain⟨k,hk2⟩:=get_of_mem hy
        refine ML.2 ⟨k,?_⟩;rw [Ea]; exact hk2;intro he; rw [<- he,hz] at hk2; injection hk2 with hk2; rw [<- hk2] at hne; exact hne hk'
  · rw [aK h1]
    have hn:∀ z∈l,o8 z≠o8 x:=λz hz he=>h1 ((JY h).2 ⟨z,hz,(JX he).1,(JX he).2⟩);have:=uF (atR l x.aC x.gB) l;rw [oV,jN,jN,j4]
    constructor
    · rintro(h2 | rfl | h2)
      · have:=List.mem_of_mem_take h2; exact .inr ⟨this,hn y this⟩
      · exact .inl Y
      · have:=Xg h2; exact .inr ⟨this,hn y this⟩
    · rintro(rfl | ⟨h2,_⟩)
      · exact .inr (.inl Y)
      · rw [<- this,jN] at h2; rcases h2 with h2 | h2
        · exact .inl h2
        · exact .inr (.inr h2)
theorem alh(h:Up o8 l)(x:aI):Up o8 (Ae l x):=by
  unfold Ae
  by_cases h1:P7 l x.aC x.gB=true
  · rw [aO h1]
    obtain⟨z,hz,h2⟩:=zX h1;have hk:o8 z=o8 x:=(M8 _ _).1 h2
    have e:(l.set (atR l x.aC x.gB) x).map o8=l.map o8:=by
      rw [Gl,<- hk];refine Gg λi=>?_;rw [XM]; split
      · rename_i e; subst e; rw [aO (by rw [jY]; exact Pz h1),lK,hz]; rfl
      · rfl
    have:((l.set (atR l x.aC x.gB) x).map o8).Pairwise (λa b=>a<b):=by rw [e]; exact Lc.2 h
    exact Lc.1 this
  · rw [aK h1]
    have hs:=asR (c:=x.aC) (t:=x.gB) h;have hx:o8 (Ry x.aC x.gB)=o8 x:=rfl;rw [hx] at hs;have hn:∀ z∈l,o8 z≠o8 x:=λz hz he=>h1 ((JY h).2 ⟨z,hz,(JX he).1,(JX he).2⟩);refine y8.2 ⟨y8.2 ⟨h.sublist (List.take_sublist _ _),OU _ _,λa ha b hb=>?_⟩,h.sublist (List.drop_sublist _ _),λa ha b hb=>?_⟩
    · rw [j4.1 hb]; exact hs.1 a ha
    · rw [jN] at ha
      rcases ha with ha | ha
      · have:=hs.1 a ha; have:=hs.2 b hb; omega
      · rw [j4.1 ha]; have:=hs.2 b hb; have:=hn b (Xg hb); omega
theorem U4(x:aI):(Ae l x).length=if P7 l x.aC x.gB=true then l.length else l.length+1:=by
  unfold Ae; split
  · rw [gJ]
  · have:atR l x.aC x.gB<=l.length:=ajf _ _ _
    rw [jd,jd,fO,kW,ad9]; omega
end
def PV(l:List aI):Prop:=Rx l=true/\∀ x∈l,x.gB=false
theorem ali{l:List aI}(h1:∀ x∈l,aah x=false)(h2:Up o8 l)(h3:∀ x∈l,∀ y∈l,x.aC=y.aC->x.gB=false->y.gB=true->x.aB<y.aB):Rx l=true:=by
  refine EN.2 ⟨h1,List.Pairwise.imp_of_mem (λ{a b} ha hb hab=>⟨hab,λhe=>?_⟩) h2⟩;refine h3 a ha b hb he ?_ ?_
  all_goals (have h:=hab; unfold o8 Ad at h; rw [he] at h; cases ht:a.gB <;> cases hu:b.gB <;> simp [ht,hu] at h ⊢ <;> omega)
section
variable {l:List aI}{c v sum bM:Int}{fG:List (BitVec 8)}{d:qR}
theorem PV.up(h:PV l):Up o8 l:=alg h.1
theorem PV.fair(h:PV l):iC l=l:=ahd h.1
theorem PV.rest(h:PV l):eY l=l:=by
  unfold eY; rw [h.fair]; exact Ep.2 λx hx=>by rw [h.2 x hx]; rfl
theorem PV.sub(h:PV l)(p:aI->Bool):PV (l.filter p):=
  ⟨EN.2 ⟨λx hx=>(EN.1 h.1).1 x ((nJ.1 hx).1),(EN.1 h.1).2.sublist PG⟩,λx hx=>h.2 x ((nJ.1 hx).1)⟩
theorem PV.no(h:PV l)(c:Int):P7 l c true=false:=xA.2 λh1=>by
  obtain⟨x,hx,_,h2⟩:=(JY h.up).1 h1; rw [h.2 x hx] at h2; exact absurd h2 au
theorem N7(h:PV l)(hz:(kN l x bM).2=0):T9 x=true/\(∀ y∈l,y.aC=x.aC->y.aB<x.aB)/\(l.length:Int)<bM/\(kN l x bM).1=Ae l ⟨x.aC,x.aB,x.Sum,true,false⟩:=by
  unfold kN at hz ⊢; rw [h.fair] at hz ⊢
  by_cases h1:(!T9 x)=true
  · rw [aO h1] at hz; exact absurd hz au
  rw [aK h1] at hz ⊢
  by_cases h2:Rz (Ba l x.aC false) x.aB=true
  · rw [aO h2] at hz; exact absurd hz au
  rw [aK h2] at hz ⊢
  by_cases h3:Rz (Ba l x.aC true) x.aB=true
  · rw [aO h3] at hz; exact absurd hz au
  rw [aK h3] at hz ⊢
  by_cases h4:(!P7 l x.aC true&&decide (bM<=(l.length:Int)))=true
  · rw [aO h4] at hz; exact absurd hz au
  rw [aK h4];refine⟨by simpa using h1,λy hy he=>?_,?_,rfl⟩
  · have h5:=Uj h.up hy
    rw [he,h.2 y hy] at h5; rw [h5] at h2; unfold Rz at h2; simp at h2; omega
  · rw [h.no] at h4; simp at h4; omega
theorem ahe(h:PV l)(h1:T9 x=true)(h2:∀ y∈l,y.aC=x.aC->y.aB<x.aB)(h3:(l.length:Int)<bM):(kN l x bM).2=0:=by
  unfold kN; rw [h.fair,aK (by rw [h1]; decide)]
  have h4:Rz (Ba l x.aC false) x.aB=false:=by
    by_cases hi:∃ y∈l,y.aC=x.aC
    · obtain⟨y,hy,he⟩:=hi
      have h5:=Uj h.up hy;rw [he,h.2 y hy] at h5; rw [h5]; unfold Rz; simp; exact h2 y hy he
    · rw [aby h.up (λy hy ⟨he,_⟩=>hi ⟨y,hy,he⟩)]; rfl
  have h5:Rz (Ba l x.aC true) x.aB=false:=by rw [aby h.up (λy hy ⟨_,he⟩=>by rw [h.2 y hy] at he; exact absurd he au)]; rfl
  rw [aK (by rw [h4]; decide),aK (by rw [h5]; decide),aK (by rw [h.no]; simp; omega)]
theorem N8(h:PV l):rF l bM c v sum fG=0↔fG.length<=64/\((iM fG).toNat:Int)=sum/\(kN l ⟨c,v,sum,false,false⟩ bM).2=0:=by
  unfold rF
  by_cases h1:64<fG.length
  · rw [aO h1]; exact⟨λh=>absurd h au,λh=>absurd h.1 aj⟩
  rw [aK h1]
  by_cases h2:((iM fG).toNat:Int)=sum
  · rw [aK (not_not_intro h2)]; exact⟨λh=>⟨aj,h2,h⟩,λh=>h.2.2⟩
  · rw [aO h2]; exact⟨λh=>absurd h au,λh=>absurd h.2.1 h2⟩
theorem aAZ(h:PV l)(h1:T9 ⟨c,v,sum,false,false⟩=true)(h2:∀ y∈l,y.aC=c->y.aB<v):Rx (Ae l ⟨c,v,sum,true,false⟩)=true:=by
  refine ali (λx hx=>?_) (alh h.up _) (λx hx y hy he ht hu=>?_)
  · rcases(M9 h.up _ _).1 hx with rfl | ⟨hx,_⟩
    · unfold aah; have:T9 ⟨c,v,sum,true,false⟩=true:=h1
      rw [this]; rfl
    · exact(EN.1 h.1).1 x hx
  · rcases(M9 h.up _ _).1 hx with rfl | ⟨hx,_⟩
    · exact Bool.noConfusion ht
    · rcases(M9 h.up _ _).1 hy with rfl | ⟨hy,_⟩
      · exact h2 x hx he
      · rw [h.2 y hy] at hu; exact absurd hu au
theorem Y0(h:PV l)(h1:T9 ⟨c,v,sum,false,false⟩=true)(h2:∀ y∈l,y.aC=c->y.aB<v) :
    ∃ l2,mF (Ae l ⟨c,v,sum,true,false⟩) c v=(l2,0)/\PV l2/\(∀ y,y∈l2↔y=⟨c,v,sum,false,false⟩∨(y∈l/\y.aC≠c))/\l2.length<=l.length+1:=by
  have hm:=aAZ h h1 h2;have hmem:∀ y,y∈Ae l ⟨c,v,sum,true,false⟩↔y=⟨c,v,sum,true,false⟩∨(y∈l/\o8 y≠o8 ⟨c,v,sum,true,false⟩):=λy=>M9 h.up _ _
  have e1:(Ae l ⟨c,v,sum,true,false⟩).length=l.length+1:=by
    rw [U4,aK]; intro h9; have:=h.no c; rw [show P7 l c true=true from h9] at this; exact Bool.noConfusion this
  revert hm hmem e1
  generalize Ae l ⟨c,v,sum,true,false⟩=q
  intro hm hmem e1;have hu:=alg hm;have hx:(⟨c,v,sum,true,false⟩:aI)∈q:=(hmem _).2 (.inl rfl);have hg:=Uj hu hx
  dsimp only at hg
  have hi:P7 q c true=true:=(JY hu).2 ⟨_,hx,rfl,rfl⟩;obtain⟨z,hz,h3⟩:=zX hi;have hzx:z=⟨c,v,sum,true,false⟩:=uQ hu (bT hz) hx ((M8 _ _).1 h3);have hz':q[atR q c true]? = some (⟨c,v,sum,true,false⟩:aI):=by rw [<- hzx]; exact hz
  have hcm:mF q c v=(Ae (q.eraseIdx (atR q c true)) ⟨c,v,sum,false,false⟩,0):=by
    unfold mF; rw [ahd hm,hg,aK (by simp [aje]),OV]; rfl
  refine⟨_,hcm,?_⟩;have hlt:=Pz hi
  clear hcm
  generalize hw:q.eraseIdx (atR q c true)=w
  have hwu:Up o8 w:=by rw [<- hw]; exact hu.sublist (aib _ _)
  have hwm:∀ y,y∈w↔y∈l/\o8 y≠o8 ⟨c,v,sum,true,false⟩:=by
    intro y; rw [<- hw,List.mem_eraseIdx_iff_getElem?]
    constructor
    · rintro⟨i,hi,hy⟩
      rcases(hmem y).1 (bT hy) with rfl | h4
      · exact absurd (aea hu hy hz' Y) hi
      · exact h4
    · intro h4
      obtain⟨i,hi⟩:=get_of_mem ((hmem y).2 (.inr h4));refine⟨i,λhe=>?_,hi⟩;rw [he,hz'] at hi; injection hi with hi; rw [<- hi] at h4; exact h4.2 rfl
  have hlm:∀ y,y∈Ae w ⟨c,v,sum,false,false⟩↔y=⟨c,v,sum,false,false⟩∨(y∈l/\y.aC≠c):=by
    intro y; rw [M9 hwu,hwm]
    constructor
    · rintro(h4 | ⟨⟨h4,h5⟩,h6⟩)
      · exact .inl h4
      · refine .inr ⟨h4,λhe=>h6 ?_⟩
        unfold o8; rw [he,h.2 y h4]
    · rintro(h4 | ⟨h4,h5⟩)
      · exact .inl h4
      · exact .inr ⟨⟨h4,λhe=>h5 (JX he).1⟩,λhe=>h5 (JX he).1⟩
  refine⟨⟨ali (λx hx=>?_) (alh hwu _) (λx hx y hy he ht hu=>?_),λx hx=>?_⟩,hlm,?_⟩
  · rcases(hlm x).1 hx with rfl | ⟨hx,_⟩
    · unfold aah; rw [h1]; rfl
    · exact(EN.1 h.1).1 x hx
  · rcases(hlm y).1 hy with rfl | ⟨hy,_⟩
    · exact Bool.noConfusion hu
    · rw [h.2 y hy] at hu; exact Bool.noConfusion hu
  · rcases(hlm x).1 hx with rfl | ⟨hx,_⟩
    · rfl
    · exact h.2 x hx
  · have e2:w.length=l.length:=by rw [<- hw,List.length_eraseIdx_of_lt hlt,e1]; rfl
    rw [U4]; split <;> omega
theorem ajE(h:PV l):Sn l bM c v sum fG=true↔fG.length<=64/\((iM fG).toNat:Int)=sum/\T9 ⟨c,v,sum,false,false⟩=true/\(∀ y∈l,y.aC=c->y.aB<v)/\(l.length:Int)<bM:=by
  unfold Sn; rw [bN,bO,bO,N8 h]
  constructor
  · rintro⟨⟨h1,h2,h3⟩,_⟩
    have h4:=N7 h h3; exact⟨h1,h2,h4.1,h4.2.1,h4.2.2.1⟩
  · rintro⟨h1,h2,h3,h4,h5⟩
    have h6:=ahe h (x:=⟨c,v,sum,false,false⟩) h3 h4 h5;refine⟨⟨h1,h2,h6⟩,?_⟩;unfold Af; rw [aK aj,aK (not_not_intro h2),aO h6,(N7 h h6).2.2.2];obtain⟨l2,hc,_⟩:=Y0 h h3 h4;rw [hc]
theorem alj(h:PV l)(hb:Sn l bM c v sum fG=false):Ig l bM c v sum fG=l/\tkD l bM c v sum fG d=d:=by
  have h0:¬ rF l bM c v sum fG=0:=λh0=>by
    have h1:=(N8 h).1 h0; have h2:=N7 h h1.2.2;have:=(ajE h (bM:=bM) (c:=c) (v:=v) (sum:=sum) (fG:=fG)).2 ⟨h1.1,h1.2.1,h2.1,h2.2.1,h2.2.2.1⟩;rw [hb] at this; exact absurd this au
  unfold Ig tkD; rw [aK h0,aK h0];unfold Af anK; rw [aK h0];refine⟨?_,Y⟩;have h1:=mt (N8 h (bM:=bM) (c:=c) (v:=v) (sum:=sum) (fG:=fG)).2 h0
  by_cases h2:64<fG.length
  · rw [aO h2]
  rw [aK h2]
  by_cases h3:((iM fG).toNat:Int)=sum
  · rw [aK (not_not_intro h3),aK (λh4=>h1 ⟨aj,h3,h4⟩)]
  · rw [aO h3]
theorem Uk[DecidableEq κ](k:κ)(v:ν)(es:List (κ × ν)):fI k (iy k v es)=some v:=by
  unfold iy; split
  · rename_i h
    unfold fI at h ⊢;rw [List.find?_map]
    cases hf:es.find? (λp=>decide (p.1=k)) with
    | none=>rw [hf] at h; exact absurd h Bool.false_ne_true
    | some p=>
      have h2:=Ud hf; simp at h2
      have e:es.find? ((fun(p:κ × ν)=>decide (p.1=k)) ∘ λp=>if p.1=k then(k,v) else p)=some p:=by
        rw [<- hf]; congr 1; funext q; simp only [Function.comp_apply]; split
        · rename_i h3; simp [h3]
        · rfl
      rw [e]; simp [h2]
  · rename_i h
    unfold fI at h ⊢;rw [IJ]
    cases hf:es.find? (λp=>decide (p.1=k)) with
    | none=>simp
    | some p=>rw [hf] at h; exact absurd rfl h
theorem R8(k k2:bZ)(b:List (BitVec 8))(d:qR):sU k2 (iy k b d)=if k2=k then b else sU k2 d:=by
  unfold sU; split
  · rename_i he; rw [he,Uk]; rfl
  · rename_i he; rw [FU he]
theorem asT[DecidableEq κ](k k2:κ)(es:List (κ × ν)):fI k2 (oC k es)=if k2=k then none else fI k2 es:=by
  unfold fI oC
  induction es with
  | nil=>simp
  | cons p es ih=>
    by_cases h:p.1=k
    · rw [adi (by simp [h]),ih]
      split
      · rfl
      · rename_i hne; rw [vI (by simp [h]; exact λhe=>hne he.symm)]
    · rw [adk (by simp [h])]
      by_cases h2:p.1=k2
      · rw [Gj (by simp [h2]),Gj (by simp [h2]),aK (λhe=>h (h2.trans he))]
      · rw [vI (by simp [h2]),vI (by simp [h2]),ih]
theorem ahf(k k2:bZ)(d:qR):sU k2 (oC k d)=if k2=k then[] else sU k2 d:=by
  unfold sU; rw [asT]; split <;> rfl
theorem ajF(h:PV l)(hb:Sn l bM c v sum fG=true):PV (Ig l bM c v sum fG)/\(∀ y,y∈Ig l bM c v sum fG↔y=⟨c,v,sum,false,false⟩∨(y∈l/\y.aC≠c))/\((Ig l bM c v sum fG).length:Int)<=bM/\
    (∀ k,sU k (tkD l bM c v sum fG d)=if k=⟨c,true⟩ then[] else if k=⟨c,false⟩ then fG else sU k d):=by
  obtain⟨h1,h2,h3,h4,h5⟩:=(ajE h).1 hb;have h6:=ahe h (x:=⟨c,v,sum,false,false⟩) h3 h4 h5;have h0:rF l bM c v sum fG=0:=(N8 h).2 ⟨h1,h2,h6⟩;obtain⟨l2,hc,hc1,hc2,hc3⟩:=Y0 h h3 h4
  have e1:Af l bM c v sum fG=Ae l ⟨c,v,sum,true,false⟩:=by
    unfold Af; rw [aK aj,aK (not_not_intro h2),aO h6,(N7 h h6).2.2.2]
  have e2:Ig l bM c v sum fG=l2:=by
    unfold Ig; rw [aO h0,e1]; unfold Uf; rw [hc]; rfl
  have e3:tkD l bM c v sum fG d=oC ⟨c,true⟩ (iy ⟨c,false⟩ fG (iy ⟨c,true⟩ fG d)):=by
    unfold tkD; rw [aO h0,e1]; unfold av4; rw [hc,aO rfl]; unfold anK; rw [aO h0,R8,aO rfl]
  rw [e2,e3];refine⟨hc1,hc2,aj,λk=>?_⟩;rw [ahf,R8,R8]
  by_cases h7:k=⟨c,true⟩
  · rw [aO h7,aO h7]
  · rw [aK h7,aK h7,aK h7]
theorem alk(h:PV l)(c:Int):PV (CP l c)/\(∀ y,y∈CP l c↔y∈l/\y.aC≠c)/\(CP l c).length<=l.length/\∀ k:bZ,sU k (aan l c d)=sU k d∨(k=⟨c,false⟩/\sU k (aan l c d)=[]):=by
  unfold CP aan pz; rw [h.fair]
  by_cases h1:P7 l c false=true
  · rw [aO h1]; simp only [if_true]
    refine⟨h.sub _,λy=>?_,mR _ _,λk=>?_⟩
    · rw [nJ]
      constructor
      · rintro⟨h2,h3⟩; rw [h.2 y h2] at h3; simp at h3; exact⟨h2,h3⟩
      · rintro⟨h2,h3⟩; rw [h.2 y h2]; simp; exact⟨h2,h3⟩
    · rw [ahf]; split
      · exact .inr ⟨by assumption,rfl⟩
      · exact .inl Y
  · rw [aK h1]; simp only [aK (show ¬ (5:Int)=0 by decide)]
    refine⟨h,λy=>⟨λhy=>⟨hy,λhe=>h1 ((JY h.up).2 ⟨y,hy,he,h.2 y hy⟩)⟩,λhy=>hy.1⟩,kV _,λk=>.inl trivial⟩
theorem ahg(h:PV l)(d:qR):aap l d=(l,d):=by
  unfold aap
  have:∀(q:List aI),(∀ x∈q,x.gB=false)->∀ s:List aI × qR,q.foldl abl s=s:=by
    intro q; induction q with
    | nil=>intro _ s; rfl
    | cons a q ih=>
      intro hq s; rw [sK];have:abl s a=s:=by unfold abl; rw [aK (by rw [hq a (qF)]; decide)]
      rw [this]; exact ih (λx hx=>hq x (ou _ hx)) s
  exact this l h.2 (l,d)
theorem aoa(h:PV l)(d:qR)(c:Int):(UZ l d).find? (λp=>decide (p.1.aC=c))=(l.find? λx=>decide (x.aC=c)).map λx=>(x,!decide (((iM (sU ⟨x.aC,false⟩ d)).toNat:Int)=x.Sum)):=by
  unfold UZ; rw [h.rest,List.find?_map]; rfl
theorem asU(h:PV l)(hz:(uq l d c).2.2=0):∃ x∈l,x.aC=c/\((iM (sU ⟨c,false⟩ d)).toNat:Int)=x.Sum/\(uq l d c).1=sU ⟨c,false⟩ d/\(uq l d c).2.1=x.aB:=by
  unfold uq at hz ⊢; rw [aoa h] at hz ⊢
  cases hf:l.find? (λy=>decide (y.aC=c)) with
  | none=>rw [hf] at hz; exact absurd (show(5:Int)=0 from hz) au
  | some y=>
    rw [hf] at hz;have h1:=Gn hf; have h2:=Ud hf; simp at h2; subst h2
    simp only [Gh] at hz ⊢
    by_cases hs:((iM (sU ⟨y.aC,false⟩ d)).toNat:Int)=y.Sum
    · refine⟨y,h1,Y,hs,?_,?_⟩ <;> simp [hs]
    · simp [hs] at hz
end
theorem wD{l:List aH}(h:kR l=true):Up aH.ID l:=by
  exact Lc.1 (DL _ _ (kF.1 h).2.2)
theorem R9{l:List aH}(h:kR l=true){j:Int}(hb:gY l j=true):(aU l j).ID=j:=(xR h hb).2
theorem ahh{l:List aH}(h:kR l=true):d9 l=l:=by unfold d9; rw [aO h]
theorem VY{l:List aH}(hl:kR l=true){id:Int}{f:aH->aH × Int}(hf:Good f)(he:(gy l id f).2=0) :
    gY l id=true/\(f (aU l id)).2=0/\∀ y,y∈(gy l id f).1↔y=(f (aU l id)).1∨(y∈l/\y.ID≠id):=by
  by_cases hb:¬ gY l id=true
  · rw [ace (by simpa using hb)] at he; exact absurd (show(5:Int)=0 from he) au
  replace hb:=JW.1 hb;rw [Xi hl hb] at he ⊢
  by_cases h0:¬ (f (aU l id)).2=0
  · rw [aK h0] at he; exact absurd he h0
  replace h0:=JW.1 h0;rw [aO h0];refine⟨hb,h0,λy=>?_⟩;have hg:=(xR hl hb).1; have hi:=(xR hl hb).2;have hid:(f (aU l id)).1.ID=id:=by rw [(hf _ ((kF.1 hl).1 _ (bT hg)) h0).2]; exact hi
  show y∈l.set _ _↔_
  constructor
  · intro hy
    obtain⟨k,hk⟩:=get_of_mem hy;rw [XM] at hk; split at hk
    · split at hk
      · injection hk with hk; exact .inl hk.symm
      · exact absurd hk av
    · rename_i hne
      refine .inr ⟨bT hk,λh=>hne (aea (wD hl) hg hk (by rw [hi,h]))⟩
  · rintro(rfl | ⟨hy,hne⟩)
    · exact ML.2 ⟨_,by rw [qb (aJ hg)]⟩
    · obtain⟨k,hk⟩:=get_of_mem hy
      refine ML.2 ⟨k,?_⟩;rw [Ea]; exact hk;intro h; rw [<- h,hg] at hk; injection hk with hk; rw [<- hk] at hne; exact hne hi
inductive Y1 (m:dF) (x:fV) (l:List aH):Prop
  | same (h:l=m.aA)
  | new (hk:x.Kind=3) (h1:∀ c∈m.aA,c.ID≠x.A) (h2:1<=x.A/\x.A<=1048576) (h:∀ y,y∈l↔y=⟨x.A,1,x.B,[]⟩∨y∈m.aA)
  | write (c:aH) (hk:x.Kind=4) (hc:c∈m.aA) (hi:c.ID=x.A) (h:∀ y,y∈l↔y=⟨c.ID,c.aB+1,x.B,[]⟩∨(y∈m.aA/\y.ID≠x.A))
  | claim (c:aH) (H:List Int) (hk:x.Kind=5) (hc:c∈m.aA) (hi:c.ID=x.A) (hv:x.C=c.aB) (hs:kI m.aT x.B=true) (hn:x.B∉c.aD) (hH:∀ n,n∈H↔n=x.B∨n∈c.aD) (hl:H.length=c.aD.length+1)
      (h:∀ y,y∈l↔y=⟨c.ID,c.aB,c.Sum,H⟩∨(y∈m.aA/\y.ID≠x.A))
  | awt (c:aH) (H:List Int) (hk:x.Kind=6) (hc:c∈m.aA) (hi:c.ID=x.A) (hn:x.B∈c.aD) (hH:∀ n,n∈H↔n≠x.B/\n∈c.aD) (hl:H.length+1=c.aD.length)
      (h:∀ y,y∈l↔y=⟨c.ID,c.aB,c.Sum,H⟩∨(y∈m.aA/\y.ID≠x.A))
inductive asV (m:dF) (x:fV) (l:List aV):Prop
  | same (h:l=m.aT)
  | add (hk:x.Kind=1) (h1:∀ n∈m.aT,n.ID≠x.A) (h:∀ y,y∈l↔y=⟨x.A,x.B,x.C,0⟩∨y∈m.aT)
  | set (n:aV) (hk:x.Kind=2) (hn:n∈m.aT) (hi:n.ID=x.A) (hs:n.gP≠2) (hb:0<=x.B/\x.B<=2) (h:∀ y,y∈l↔y=⟨n.ID,n.lT,n.l6,x.B⟩∨(y∈m.aT/\y.ID≠x.A))
theorem VZ(h:¬ (z<0∨4294967295<z)):IntKind.u32.wrap z=z:=by
  show z % (2 ^ 32:Int)=z;exact Int.emod_eq_of_lt aj aj
theorem alm{c:aH}(ho:qx c=true){n:Int}(hn:n∉c.aD):∀ x,x∈c.aD.take (low (fun(y:Int)=>bB y n) c.aD)++[n]++c.aD.drop (low (fun(y:Int)=>bB y n) c.aD)↔x=n∨x∈c.aD:=λx=>Ab _
theorem ahi{c:aH}(ho:qx c=true):c.aD.Pairwise (λx y=>x<y):=by
  unfold qx at ho; simp at ho; exact DL _ _ ho.2
theorem abz{c:aH}(ho:qx c=true){n:Int}(hn:n∈c.aD):∀ x,x∈c.aD.take (low (fun(y:Int)=>bB y n) c.aD)++c.aD.drop (low (fun(y:Int)=>bB y n) c.aD+1)↔x≠n/\x∈c.aD:=λx=>by
  have hu:Up (fun(y:Int)=>y) c.aD:=ahi ho;obtain⟨z,hz,h1⟩:=qU (key:=fun(y:Int)=>y) ((uZ hu n).2 ⟨n,hn,rfl⟩);have h1:z=n:=h1;subst h1;rw [<- OV,List.mem_eraseIdx_iff_getElem?]
  constructor
  · rintro⟨i,hi,hx⟩
    exact⟨λh=>hi (aea hu hx hz h),bT hx⟩
  · rintro⟨h2,h3⟩
    obtain⟨i,hi⟩:=get_of_mem h3;exact⟨i,λh=>h2 (by rw [h] at hi; have hz':c.aD[low (fun(y:Int)=>bB y z) c.aD]? = some z:=hz; rw [hz'] at hi; injection hi with hi; exact hi.symm),hi⟩
theorem ahj{c:aH}(ho:qx c=true){n:Int}(hn:n∈c.aD):(c.aD.take (low (fun(y:Int)=>bB y n) c.aD)++c.aD.drop (low (fun(y:Int)=>bB y n) c.aD+1)).length+1=c.aD.length:=by
  have hu:Up (fun(y:Int)=>y) c.aD:=ahi ho;obtain⟨z,hz,h1⟩:=qU (key:=fun(y:Int)=>y) ((uZ hu n).2 ⟨n,hn,rfl⟩);have:=aJ hz;rw [<- OV,List.length_eraseIdx_of_lt this];have:low (fun(y:Int)=>bB y n) c.aD<c.aD.length:=this;omega
theorem ahk{l:List aV}(h:uy l=true){n:aV}(hx:∃ x∈l,x.ID=n.ID):(oO l n).2≠0:=by
  unfold oO; rw [wh h]
  split
  · simp
  · rw [aO ((uZ (yg.1 h).1 n.ID).2 hx)]; simp
theorem asW(hm:mD m=true)(x:fV)(h7:x.Kind≠7):Y1 m x (xJ m x).2.1/\asV m x (xJ m x).1:=by
  obtain⟨hn,hc,hs,hh⟩:=iU.1 hm;unfold xJ
  by_cases h0:x.Kind=0
  · rw [aO h0]; exact⟨.same rfl,.same rfl⟩
  rw [aK h0]
  by_cases h1:x.Kind=1
  · rw [aO h1]
    refine⟨.same Y,?_⟩
    rcases Py hn ⟨x.A,x.B,x.C,0⟩ with h | ⟨h,hm',h2⟩
    · rw [aK h]; exact .same rfl
    · rw [aO h]
      refine .add h1 (λn hn' he=>?_) h2;exact ahk hn ⟨n,hn',he⟩ h
  rw [aK h1]
  by_cases h2:x.Kind=2
  · rw [aO h2]
    refine⟨.same Y,?_⟩;show asV m x (if _ then _ else if _ then _ else _)
    split
    · exact .same Y
    rcases Yu hn x.A x.B with h | ⟨h,hm',hb,hf,hst,ha,hb2,hc2⟩
    · rw [aK h]; exact .same rfl
    · rw [aO h]
      have hat:=Rq hn hf;refine .set (gU m.aT x.A) h2 hat.1 hat.2 hst hb λy=>⟨λhy=>hc2 y hy,?_⟩;rintro(rfl | ⟨h3,h4⟩)
      · exact ha
      · exact hb2 y h3 h4
  rw [aK h2]
  by_cases h3:x.Kind=3
  · rw [aO h3]
    refine⟨?_,.same Y⟩;show Y1 m x (um eB m.aA x).1;unfold um
    by_cases hr:x.B<0∨4294967295<x.B
    · rw [aO hr]; exact .same rfl
    rw [aK hr,VZ hr]
    rcases Dq m.aA x.A x.B with h | ⟨ha,hb,hf,hlen,h⟩
    · rw [aK h.2]; exact .same rfl
    · rw [h,aO rfl]
      refine .new h3 (λc hc' he=>?_) ⟨ha,hb⟩ λy=>?_
      · have:=(zR hc).2 ⟨c,hc',he⟩; rw [hf] at this; exact absurd this au
      · rw [ahh hc]; exact Ab _
  rw [aK h3]
  by_cases h4:x.Kind=4
  · rw [aO h4]
    refine⟨?_,.same Y⟩;show Y1 m x (um (λl id sum=>gy l id (dB sum)) m.aA x).1;unfold um
    by_cases hr:x.B<0∨4294967295<x.B
    · rw [aO hr]; exact .same rfl
    rw [aK hr,VZ hr];show Y1 m x (if(gy m.aA x.A (dB x.B)).2=0 then(gy m.aA x.A (dB x.B)).1 else m.aA)
    by_cases he:¬ (gy m.aA x.A (dB x.B)).2=0
    · rw [aK he]; exact .same rfl
    replace he:=JW.1 he;rw [aO he];obtain⟨hb,hz,hmem⟩:=VY hc (yQ x.B) he;have hin:=BD hc hb;have hw:=Nu ((kF.1 hc).1 _ hin) hz;refine .write (aU m.aA x.A) h4 hin (R9 hc hb) λy=>?_;rw [hmem,hw.1]
  rw [aK h4]
  by_cases h5:x.Kind=5
  · rw [aO h5]
    refine⟨?_,.same Y⟩;show Y1 m x (if _ then if _ then _ else _ else _)
    by_cases hst:¬ kI m.aT x.B=true
    · rw [aK hst]; exact .same rfl
    replace hst:=JW.1 hst;rw [aO hst]
    by_cases he:¬ (kS m.aA x.A x.B x.C).2=0
    · rw [aK he]; exact .same rfl
    replace he:=JW.1 he;rw [aO he];unfold kS at he ⊢
    by_cases hr:x.B<1∨16<x.B
    · rw [aO hr] at he; exact absurd (show(1:Int)=0 from he) au
    rw [aK hr] at he ⊢;obtain⟨hb,hz,hmem⟩:=VY hc (Xj x.C aj aj) he;have hin:=BD hc hb;have ho:=(kF.1 hc).1 _ hin;have hw:=Nv ho aj aj hz;refine .claim (aU m.aA x.A) _ h5 hin (R9 hc hb) hw.1 hst hw.2.1 (alm ho hw.2.1) ?_ λy=>?_
    · rw [jd,jd,ad9,fO,kW]; omega
    · rw [hmem,hw.2.2.1]
  rw [aK h5]
  by_cases h6:x.Kind=6
  · rw [aO h6]
    refine⟨?_,.same Y⟩;show Y1 m x (if _ then _ else _)
    by_cases he:¬ (gy m.aA x.A (jw x.B)).2=0
    · rw [aK he]; exact .same rfl
    replace he:=JW.1 he;rw [aO he];obtain⟨hb,hz,hmem⟩:=VY hc (Qs x.B) he;have hin:=BD hc hb;have ho:=(kF.1 hc).1 _ hin;have hw:=FD ho hz;refine .awt (aU m.aA x.A) _ h6 hin (R9 hc hb) hw.1 (abz ho hw.1) (ahj ho hw.1) λy=>?_;rw [hmem,hw.2.1]
  rw [aK h6,aK h7]; exact⟨.same rfl,.same rfl⟩
theorem BK(hm:mD m=true){x:fV}(h7:x.Kind≠7)(h0:x.Client=0):Y1 m x (uD m x).aA/\asV m x (uD m x).aT:=by
  unfold uD; split
  · exact⟨.same Y,.same Y⟩
  · unfold dD; rw [aK (by rw [hm]; decide),aO h0]; exact asW hm x h7
structure OKl (l:List bD) (dV:Int):Prop where
  one:∀ x∈l,QD x=true/\(sends l x.jM:Int)<=dV/\(takes l x.To:Int)<=dV
  dif:l.Pairwise λx y=>¬ (x.aC=y.aC/\x.To=y.To)
theorem Y2{l:List bD}{c t:Int}:(zT l c t=-1/\∀ x∈l,¬ (x.aC=c/\x.To=t))∨∃(k:Nat)(x:bD),zT l c t=(k:Int)/\l[k]? = some x/\(x.aC=c/\x.To=t)/\∀ y∈l.take k,¬ (y.aC=c/\y.To=t):=by
  rcases vT (fun(x:bD)=>decide (x.aC=c)&&decide (x.To=t)) l with ⟨h1,h2⟩ | ⟨k,x,h1,h2,h3,h4⟩
  · exact .inl ⟨h1,λx hx h=>by have:=h2 x hx; simp [h.1,h.2] at this⟩
  · exact .inr ⟨k,x,h1,h2,by simpa using h3,λy hy h=>by have:=h4 y hy; simp [h.1,h.2] at this⟩
theorem EO{l:List bD}:LB l dV all=true↔OKl l dV/\(l.length:Int)<=all:=by
  unfold LB;rw [bN,ahY,bO];refine and_congr ⟨λh=>⟨λx hx=>?_,?_⟩,λh i x hx=>?_⟩ Iff.rfl
  · obtain⟨i,hi⟩:=sM hx
    have:=h i x hi
    simp only [auQ,bN,bO] at this
    exact⟨this.1.1.1,this.1.2,this.2⟩
  · rw [DX]
    intro i j hi hj hij he;have:=h j l[j] (qI hj)
    simp only [auQ,bN,bO] at this
    rcases Y2 (l:=l) (c:=l[j].aC) (t:=l[j].To) with ⟨h1,_⟩ | ⟨k,y,h1,h2,h3,h4⟩
    · have:=this.1.1.2; omega
    · have hk:k=j:=by have:=this.1.1.2; omega
      subst hk;exact h4 l[i] (List.mem_take_iff_getElem.2 ⟨i,aj,rfl⟩) he
  · have hm:=h.one x (bT hx)
    simp only [auQ,bN,bO]
    refine⟨⟨⟨hm.1,?_⟩,hm.2.1⟩,hm.2.2⟩;have hd:=DX.1 h.dif;have hi:=aJ hx;obtain⟨_,hx'⟩:=nP.1 hx
    rcases Y2 (l:=l) (c:=x.aC) (t:=x.To) with ⟨_,h2⟩ | ⟨k,y,h1,h2,h3,h4⟩
    · exact absurd ⟨Y,Y⟩ (h2 x (bT hx))
    · have hk:=aJ h2
      obtain⟨_,hy'⟩:=nP.1 h2;rw [h1]
      rcases Xf k i with h5 | h5 | h5
      · exact absurd (by rw [hx',hy']; exact h3) (hd k i hk hi h5)
      · rw [h5]
      · exact absurd ⟨Y,Y⟩ (h4 x (List.mem_take_iff_getElem.2 ⟨i,aj,hx'⟩))
theorem OKl.fil{l:List bD}(h:OKl l dV)(p:bD->Bool):OKl (l.filter p) dV:=
  ⟨λx hx=>by
    have h1:=h.one x (nJ.1 hx).1;have h2:sends (l.filter p) x.jM<=sends l x.jM:=PG.countP_le;have h3:takes (l.filter p) x.To<=takes l x.To:=PG.countP_le
    exact⟨h1.1,aj,aj⟩,h.dif.filter _⟩
theorem abA{l:List bD}{x:bD}(h:pO l x dV all=0):QD x=true/\(∀ y∈l,¬ (y.aC=x.aC/\y.To=x.To))/\(l.length:Int)<all/\(sends l x.jM:Int)<dV/\(takes l x.To:Int)<dV:=by
  unfold pO at h
  split at h
  · cases h
  · rename_i h1
    split at h
    · cases h
    · rename_i h2
      split at h
      · cases h
      · rename_i h3
        simp only [not_or] at h3
        refine⟨by simpa using h1,?_,aj,aj,aj⟩
        rcases Y2 (l:=l) (c:=x.aC) (t:=x.To) with ⟨_,h4⟩ | ⟨k,y,h4,_⟩
        · exact h4
        · omega
theorem OKl.snoc{l:List bD}{x:bD}(h:OKl l dV)(hs:pO l x dV all=0):OKl (l++[x]) dV:=by
  obtain⟨h1,h2,_,h4,h5⟩:=abA hs;have es:∀ id,sends (l++[x]) id=sends l id+if x.jM=id then 1 else 0:=λid=>by simp [sends,OP,aci]
  have et:∀ id,takes (l++[x]) id=takes l id+if x.To=id then 1 else 0:=λid=>by simp [takes,OP,aci]
  refine⟨λy hy=>?_,y8.2 ⟨h.dif,OU _ _,λy hy z hz=>by rw [j4.1 hz]; exact h2 y hy⟩⟩;rw [es,et]
  rcases jN.1 hy with hy | hy
  · have hm:=h.one y hy
    refine⟨hm.1,?_,?_⟩
    · split
      · rename_i e; rw [<- e]; omega
      · have:=hm.2.1; omega
    · split
      · rename_i e; rw [<- e]; omega
      · have:=hm.2.2; omega
  · rw [j4.1 hy]
    refine⟨h1,?_,?_⟩ <;> rw [aO rfl] <;> omega
theorem ahl{l:List bD}{c:aH}{fr ni u:Int}(h:LB l dV all=true):LB (BU l dV all c fr ni u) dV all=true:=by
  unfold BU
  split
  · rename_i hb
    have hs:pO l (FP c fr ni u) dV all=0:=gW hb;rw [EO] at h ⊢;refine⟨h.1.snoc hs,?_⟩;have:=(abA hs).2.2.1
    simp only [jd,pF,rH]; omega
  · exact h
theorem ahm{x:Jh}{c d:aH}{hv:Int}:∀(f:Nat)(l:List bD)(o:List aM),LB l x.dV x.all=true->LB (QZ x c d hv f (l,o)).1 x.dV x.all=true
  | 0,_,_,h=>h
  | f+1,l,o,h=>by
    unfold QZ
    split
    · exact ahm f _ _ (ahl h)
    · exact h
theorem ahn{x:Jh}:∀(M:List fA)(s:List bD × List aM),LB s.1 x.dV x.all=true->LB (sQ x M s).1 x.dV x.all=true
  | [],_,h=>h
  | n::M,s,h=>ahn M (aae x s n) (ahm 100 s.1 s.2 h)
theorem ajG(m:dF)(s:iF)(r:ARules)(aN:Int)(h:LB s.bY r.lQ r.All=true):LB (mZ m s r aN).bY r.lQ r.All=true:=by
  unfold mZ
  split
  · have h1:LB (dS s aN).bY r.lQ r.All=true:=by
      rw [EO] at h ⊢;exact⟨h.1.fil _,by have:=(vE s aN).1; omega⟩
    have h2:LB (CJ m s r aN).1 r.lQ r.All=true:=ahn (x:=rdX m s r aN) _ _ h1;show LB (rdL m s r aN) r.lQ r.All=true;unfold rdL
    split
    · unfold TT
      split
      · exact ahl h2
      · exact h2
    · exact h2
  · exact h
structure HOk (h:rG):Prop where
  l:PV h.l
  n:(h.l.length:Int)<=h.bM
  r:h.bM<=16
  d:∀ k,(sU k h.d).length<=4
  w:∀ x∈h.l,(sU ⟨x.aC,false⟩ h.d).length=4
theorem yx[DecidableEq κ](k k2:κ)(v:ν)(es:List (κ × ν)):fI k2 (iy k v es)=if k2=k then some v else fI k2 es:=by
  split
  · rename_i h; rw [h,Uk]
  · rename_i h; exact FU h
def PW(hs:lq):Prop:=∀ z h,fI z hs=some h->HOk h
def Om(m:dF)(hs:lq):Prop:=∀ n∈m.aT,∃ h,fI n.ID hs=some h/\h.bM=n.l6
theorem PW.put(H:PW hs)(hh:HOk h):PW (iy z h hs):=λz2 h2 hg=>by
  rw [yx] at hg; split at hg
  · injection hg with hg; rw [<- hg]; exact hh
  · exact H z2 h2 hg
theorem Om.put(H:Om m hs){h0:rG}(hg:fI z hs=some h0)(hr:h.bM=h0.bM):Om m (iy z h hs):=λn hn=>by
  obtain⟨h1,h2,h3⟩:=H n hn;rw [yx]; split
  · rename_i he; rw [he,hg] at h2; injection h2 with h2; exact⟨h,rfl,by rw [hr,h2]; exact h3⟩
  · exact⟨h1,h2,h3⟩
theorem HOk.take(H:HOk h)(c v sum:Int)(hd:fG.length=4):HOk ⟨h.up,h.bM,Ig h.l h.bM c v sum fG,tkD h.l h.bM c v sum fG h.d⟩:=by
  cases hb:Sn h.l h.bM c v sum fG with
  | false=>obtain⟨h1,h2⟩:=alj H.l hb (d:=h.d); rw [h1,h2]; exact⟨H.l,H.n,H.r,H.d,H.w⟩
  | true=>
    obtain⟨h1,h2,h3,h4⟩:=ajF H.l hb (d:=h.d);refine⟨h1,h3,H.r,λk=>?_,λx hx=>?_⟩
    · show(sU k _).length<=4
      rw [h4]; split
      · decide
      · split
        · omega
        · exact H.d k
    · show(sU _ _).length=4
      rw [h4,aK av]
      rcases(h2 x).1 hx with rfl | ⟨hx,hc⟩
      · rw [aO rfl]; exact hd
      · rw [aK (by simp; exact hc)]; exact H.w x hx
theorem HOk.rmv(H:HOk h)(c:Int):HOk ⟨h.up,h.bM,CP h.l c,aan h.l c h.d⟩:=by
  obtain⟨h1,h2,h3,h4⟩:=alk H.l c (d:=h.d);refine⟨h1,by have:=H.n; show((CP h.l c).length:Int)<=h.bM; omega,H.r,λk=>?_,λx hx=>?_⟩
  · rcases h4 k with e | ⟨_,e⟩
    · show(sU k _).length<=4; rw [e]; exact H.d k
    · show(sU k _).length<=4; rw [e]; decide
  · have hx':=(h2 x).1 hx
    rcases h4 ⟨x.aC,false⟩ with e | ⟨e,_⟩
    · show(sU _ _).length=4; rw [e]; exact H.w x hx'.1
    · injection e with e _; exact absurd e hx'.2
theorem asX:∀(q:List Int){h:rG},HOk h->HOk ⟨h.up,h.bM,(q.foldl abm (h.l,h.d)).1,(q.foldl abm (h.l,h.d)).2⟩
  | [],h,H=>⟨H.l,H.n,H.r,H.d,H.w⟩
  | c::q,h,H=>by
    have:=asX q (H.rmv c);exact this
theorem alo(c bit:Int)(d:qR)(k:bZ):(sU k (aao c bit d)).length=(sU k d).length:=by
  unfold aao; split
  · rfl
  · rw [R8]; split
    · rename_i h; rw [h]; unfold avU; rw [gJ]
    · rfl
theorem HOk.nil{up:Bool}{bM:Int}(h0:0<=bM)(h1:bM<=16):HOk ⟨up,bM,[],[]⟩:=
  ⟨⟨rfl,λx hx=>absurd hx av⟩,h0,h1,λk=>by show([]:List (BitVec 8)).length<=4; decide,λx hx=>absurd hx av⟩
theorem aho(r:Int):0<=Ia r/\Ia r<=16:=by unfold Ia; split <;> split <;> omega
theorem asY{r:Int}(h:1<=r/\r<=16):Ia r=r:=by
  have h0:(if 0>r then(0:Int) else r)=r:=aK aj;unfold Ia; rw [h0,aK aj]
structure Inv (c:PC) (k:Nat):Prop where
  hm:mD c.m=true
  hr:lY c.r=true
  hb:c.s.eF.length<=k
  hl:LB c.s.bY c.r.lQ c.r.All=true
  hd:c.s.bL.length<=32*k
  hu:0<=c.aN/\c.aN<=100*k
  hw:c.eD.length<=300*k
  hz:PW c.hs
  hN:Om c.m c.hs
theorem Inv.ok(H:Inv c k)(hk:k<=1000):Ok c:=by
  have hl:=(EO.1 H.hl).2; have hbd:=(Bw H.hr).2.2.2.1
  exact⟨H.hm,H.hr,by have:=H.hb; omega,aj,by have:=H.hd; omega,by have:=H.hu; omega,by have:=H.hw; omega,
    λz h hg=>⟨by have:=(H.hz z h hg).n; have:=(H.hz z h hg).r; omega,λk=>by have:=(H.hz z h hg).d k; omega⟩,
    λn hn=>by obtain⟨h,hg,_⟩:=H.hN n hn; rw [hg]; rfl⟩
theorem Inv.aeb(H:Inv c k):c.s.bY.length<=64:=by
  have hl:=(EO.1 H.hl).2; have hbd:=(Bw H.hr).2.2.2.1; omega
theorem Inv.mono{k2:Nat}(H:Inv c k)(h:k<=k2):Inv c k2:=
  ⟨H.hm,H.hr,by have:=H.hb; omega,H.hl,by have:=H.hd; omega,by have:=H.hu; omega,by have:=H.hw; omega,H.hz,H.hN⟩
theorem OKl.sub{l q:List bD}(h:OKl l dV)(hs:q.Sublist l):OKl q dV:=
  ⟨λx hx=>by
    have h1:=h.one x (hs.mem hx);have h2:sends q x.jM<=sends l x.jM:=hs.countP_le;have h3:takes q x.To<=takes l x.To:=hs.countP_le
    exact⟨h1.1,aj,aj⟩,h.dif.sublist hs⟩
theorem aob{l q:List bD}(h:LB l dV all=true)(hs:q.Sublist l):LB q dV all=true:=by
  have h1:=EO.1 h;exact EO.2 ⟨h1.1.sub hs,by have:=hs.length_le; omega⟩
theorem aoc(l:List bD)(c t:Int):(Ai l c t).Sublist l:=by
  unfold Ai; split
  · exact List.nil_sublist _
  · rw [<- OV]; exact aib _ _
theorem Na(hm:mD m=true){x:fV}(h7:x.Kind≠7)(h0:x.Client=0)(h1:x.Kind≠1)(H:Om m hs):Om (uD m x) hs:=λn hn=>by
  rcases(BK hm h7 h0).2 with h | ⟨hk,_,_⟩ | ⟨n0,hk,hn0,hi,hs,hb,h⟩
  · rw [h] at hn; exact H n hn
  · exact absurd hk h1
  · rcases(h n).1 hn with rfl | ⟨hn,_⟩
    · exact H n0 hn0
    · exact H n hn
theorem Ul:∀(l:List fV){m:dF},mD m=true->(∀ x∈l,x.Kind≠7/\x.Client=0/\x.Kind≠1)->Om m hs->Om (AP m l) hs
  | [],m,_,_,H=>H
  | x::l,m,hm,hl,H=>by
    have hx:=hl x (qF);exact Ul l (mY hm x) (λy hy=>hl y (ou _ hy)) (Na hm hx.1 hx.2.1 hx.2.2 H)
theorem PX{s:iF}{aN n:Int}:∀(l:List fV){m:dF},mD m=true->(∀ x∈l,x.Kind≠7/\x.Client=0/\x.Kind≠1)->Om m hs->Om (mW s aN n m l) hs
  | [],m,_,_,H=>H
  | x::l,m,hm,hl,H=>by
    have hx:=hl x (qF);show Om (mW s aN n (KG s aN n m x) l) hs;unfold KG; split
    · exact PX l (mY hm x) (λy hy=>hl y (ou _ hy)) (Na hm hx.1 hx.2.1 hx.2.2 H)
    · exact PX l hm (λy hy=>hl y (ou _ hy)) H
theorem aod{s:iF}{r:ARules}{aN:Int}:∀ x∈nY m s r aN,x.Kind≠7/\x.Client=0/\x.Kind≠1:=by
  intro x hx; unfold nY at hx; split at hx
  · obtain⟨o,_,rfl⟩:=gQ.1 hx; exact⟨by show(6:Int)≠7; decide,rfl,by show(6:Int)≠1; decide⟩
  · exact absurd hx av
theorem Y3{cs:List aH}{n:Int}{l:List aI}:∀ x∈lg cs n l,x.Kind≠7/\x.Client=0/\x.Kind≠1:=by
  intro x hx; unfold lg at hx; split at hx
  · obtain⟨c,_,hc⟩:=SQ.1 hx
    unfold recC at hc
    split at hc
    · rw [j4.1 hc]; exact⟨by show(5:Int)≠7; decide,rfl,by show(5:Int)≠1; decide⟩
    · split at hc
      · rw [j4.1 hc]; exact⟨by show(6:Int)≠7; decide,rfl,by show(6:Int)≠1; decide⟩
      · exact absurd hc av
  · exact absurd hx av
theorem awu(H:Inv c k)(o:aM):Inv (l5 c o) k:=by
  cases hf:fI o.jM c.hs with
  | none=>rw [RP hf]; exact H
  | some f=>
  cases hb:(!f.up||Ih c.s c.aN o.aC o.To) with
  | true=>rw [Ii hf hb]; exact H
  | false=>
  by_cases hr:¬ ((uq f.l f.d o.aC).2.2=0/\(uq f.l f.d o.aC).2.1=o.aB/\((iM (uq f.l f.d o.aC).1).toNat:Int)=o.Sum)
  · rw [VQ hf hr]; exact H
  replace hr:=JW.1 hr;have hF:=H.hz _ _ hf;obtain⟨x,hx,bP,_,kZ,_⟩:=asU hF.l hr.1;have hd:(uq f.l f.d o.aC).1.length=4:=by rw [kZ,<- bP]; exact hF.w x hx
  cases ht:fI o.To c.hs with
  | none=>
    have e:l5 c o=c:=by unfold l5; rw [hf]; simp only; rw [aK (by rw [hb]; decide),aK (λh=>h hr),ht]
    rw [e]; exact H
  | some t=>
  have hT:=(H.hz _ _ ht).take o.aC (uq f.l f.d o.aC).2.1 o.Sum hd
  cases hk:Sn t.l t.bM o.aC (uq f.l f.d o.aC).2.1 o.Sum (uq f.l f.d o.aC).1 with
  | false=>rw [RQ hf hb hr ht hk]; exact⟨H.hm,H.hr,H.hb,H.hl,H.hd,H.hu,H.hw,H.hz.put hT,H.hN.put ht rfl⟩
  | true=>
    rw [RS hf hb hr ht hk];refine⟨mY H.hm _,H.hr,H.hb,?_,H.hd,H.hu,H.hw,H.hz.put hT,(Na H.hm (by show(5:Int)≠7; decide) rfl (by show(5:Int)≠1; decide) H.hN).put ht rfl⟩;show LB (if _ then _ else _) _ _=true
    split
    · exact aob H.hl (aoc _ _ _)
    · exact H.hl
theorem awv(H:Inv c k)(o:aM):Inv (rA c o) k:=by
  by_cases h0:o.Kind=0
  · unfold rA; rw [aO h0]; exact awu H o
  cases ht:fI o.To c.hs with
  | none=>
            have e:rA c o=c:=by unfold rA; rw [aK h0,ht]
            rw [e]; exact H
  | some t=>
  cases hb:(eY t.l).any (adF o) with
  | false=>rw [ajy h0 ht hb]; exact H
  | true=>rw [YN h0 ht hb]; exact⟨H.hm,H.hr,H.hb,H.hl,H.hd,H.hu,H.hw,H.hz.put ((H.hz _ _ ht).rmv _),H.hN.put ht rfl⟩
theorem N9(H:Inv c k){eD:List aM}(h:eD.length<=300*k):Inv { c with eD:=eD } k:=⟨H.hm,H.hr,H.hb,H.hl,H.hd,H.hu,h,H.hz,H.hN⟩
theorem aww(H:Inv c k)(it:AItem):Inv (mO c it).1 (k+1):=by
  have hw:=H.hw;unfold mO; split
  · exact H.mono aj
  · split
    · exact H.mono aj
    · split
      · exact N9 (H.mono aj) (by rw [jd,ad9]; omega)
      · have hn:(c.eD.take it.A.toNat++c.eD.drop (it.A.toNat+1)).length<=300*k:=by
          rw [jd,fO,kW]; omega
        show Inv (if _ then _ else _) _
        split
        · exact(awv (N9 H hn) _).mono aj
        · exact(N9 H hn).mono aj
theorem Um{c v sum:Int}(hd:fG.length=4):∀(l:List Int){q:lq × List Int},PW q.1->Om m q.1->PW (l.foldl (vL c v sum fG) q).1/\Om m (l.foldl (vL c v sum fG) q).1
  | [],q,h1,h2=>⟨h1,h2⟩
  | z::l,q,h1,h2=>by
    rw [sK]
    have:PW (vL c v sum fG q z).1/\Om m (vL c v sum fG q z).1:=by
      unfold vL; split
      · exact⟨h1,h2⟩
      · rename_i h hg; exact⟨h1.put ((h1 _ _ hg).take c v sum hd),h2.put hg rfl⟩
    exact Um hd l this.1 this.2
theorem asZ{it:AItem}{v:Int}{l:List Int}:∀ x∈l.map (λz=>y7 it.A z v),x.Kind≠7/\x.Client=0/\x.Kind≠1:=by
  intro x hx; obtain⟨z,_,rfl⟩:=gQ.1 hx; exact⟨by show(5:Int)≠7; decide,rfl,by show(5:Int)≠1; decide⟩
theorem Oa(m:dF)(it:AItem):(rO m it).Kind≠7/\(rO m it).Client=0/\(rO m it).Kind≠1:=by
  refine⟨?_,Y,?_⟩ <;> (show(if _ then(4:Int) else 3)≠_; split <;> decide)
theorem Y4{x:fV}(h:¬ (dD m x).2<0):(dD m x).1=uD m x:=by unfold uD; rw [aK h]
theorem awx(H:Inv c k)(it:AItem):Inv (rC c it).1 k:=by
  have hd:(nH it.A it.B).length=4:=rfl;have hw:=Oa c.m it;unfold rC; split
  · exact H
  · rename_i hp
    have hh:=Um hd (c:=it.A) (v:=(dD c.m (rO c.m it)).2) (sum:=E9 it.A it.B) (m:=c.m) (YO c (dD c.m (rO c.m it)).1) (q:=(c.hs,[])) H.hz H.hN;have hh2:=Um hd (c:=it.A) (v:=(dD c.m (rO c.m it)).2) (sum:=E9 it.A it.B) (m:=uD c.m (rO c.m it)) (YO c (dD c.m (rO c.m it)).1) (q:=(c.hs,[])) H.hz (Na H.hm hw.1 hw.2.1 hw.2.2 H.hN)
    split
    · exact⟨H.hm,H.hr,H.hb,H.hl,H.hd,H.hu,H.hw,hh.1,hh.2⟩
    · have hN:Om (AP (dD c.m (rO c.m it)).1 ((Ij c it).2.map λz=>y7 it.A z (dD c.m (rO c.m it)).2)) (Ij c it).1:=by
        rw [Y4 hp]; exact Ul _ (mY H.hm _) asZ hh2.2
      exact⟨by show mD (AP _ _)=true; rw [Y4 hp]; exact VR (mY H.hm _) _,H.hr,H.hb,H.hl,H.hd,H.hu,H.hw,hh2.1,hN⟩
theorem as0(l:List fK)(n aN:Int):(Bh l n aN).length<=l.length+1:=by
  have hb:=G9 l;unfold Bh; split
  · split
    · split
      · rw [gJ]; omega
      · simp
    · rw [jd,jd,ad9,fO,kW]; omega
  · omega
theorem as1(hm:mD m=true)(s:iF)(r:ARules)(aN:Int):(mZ m s r aN).bL.length<=s.bL.length+32:=by
  have h:=agY m s r aN; have hs:=(zQ (iU.1 hm).2.1).1;unfold mZ; unfold nY at h
  split
  · rename_i hb; rw [aO hb,jY] at h
    show((dS s aN).bL++AZ m s r aN).length<=_;have:(dS s aN).bL.length<=s.bL.length:=mR _ _;rw [jd]; omega
  · omega
theorem aoe(m:dF)(s:iF)(r:ARules)(aN:Int):(mZ m s r aN).eF=s.eF:=by unfold mZ; split <;> rfl
theorem awy(H:Inv c k):Inv (YP c) (k+1):=by
  have hs:=(zQ (iU.1 H.hm).2.1).1;refine⟨VR H.hm _,H.hr,?_,ajG _ _ _ _ H.hl,?_,by have:=H.hu; exact⟨this.1,by show c.aN<=_; omega⟩,?_,H.hz,Ul _ H.hm aod H.hN⟩
  · show(mZ _ _ _ _).eF.length<=_; rw [aoe]; have:=H.hb; omega
  · have:=as1 H.hm c.s c.r c.aN; have:=H.hd; show(mZ _ _ _ _).bL.length<=_; omega
  · show(c.eD++xF _ _ _ _).length<=_
    have:=agZ (m:=c.m) (r:=c.r) (aN:=c.aN) H.aeb; have:=H.hw;rw [jd]; omega
abbrev JZ(iD:dF)(ji:AItem):=oO iD.aT ⟨ji.A,ji.B,ji.C,0⟩
theorem as2(hm:mD m=true)(it:AItem) :
    (knE m (Ik it)=0/\(uD m (Ik it)).aA=m.aA/\(∀ y,y∈(uD m (Ik it)).aT↔y=⟨it.A,it.B,it.C,0⟩∨y∈m.aT)/\Ky ⟨it.A,it.B,it.C,0⟩=true/\∀ n∈m.aT,n.ID≠it.A)∨(knE m (Ik it)≠0/\uD m (Ik it)=m):=by
  have hn:=(iU.1 hm).1
  have e:dD m (Ik it)=(⟨if(JZ m it).2=0 then(JZ m it).1 else m.aT,m.aA,m.aP⟩,Gy (JZ m it).2 0):=by
    unfold dD; rw [aK (by rw [hm]; decide),aO (show(Ik it).Client=0 from rfl)]; rfl
  unfold knE uD; rw [e]
  by_cases h0:(JZ m it).2=0
  · rcases Py hn ⟨it.A,it.B,it.C,0⟩ with h | ⟨h,hm',h2⟩
    · exact absurd h0 h
    · left
      have e2:Gy (JZ m it).2 0=0:=by rw [h0]; rfl
      simp only; rw [e2,aO h0,aK au,aK au]
      exact⟨Y,Y,h2,(yg.1 hm').2 _ ((h2 _).2 (.inl Y)),λn hn' he=>ahk hn ⟨n,hn',he⟩ h0⟩
  · right
    have e2:Gy (JZ m it).2 0<0:=by
      have:=(akI m (Ik it)).1;have e3:(xJ m (Ik it)).2.2.1=(JZ m it).2:=rfl;rw [e3] at this;unfold Gy; rw [aO h0]; omega
    simp only; rw [aO e2,aO e2]
    exact⟨aj,rfl⟩
theorem awz(H:Inv c k)(it:AItem):Inv (av5 c it).1 k:=by
  have hN:Om (uD c.m (Ik it)) (if knE c.m (Ik it)=0 then iy it.A ⟨true,Ia it.C,[],[]⟩ c.hs else c.hs):=by
    rcases as2 H.hm it with ⟨h0,_,h2,h3,h4⟩ | ⟨h0,h1⟩
    · rw [aO h0]
      intro n hn
      rcases(h2 n).1 hn with rfl | hn'
      · refine⟨_,Uk _ _ _,?_⟩
        simp only [Ky,bN,bO] at h3
        exact asY aj
      · obtain⟨h,hg,hr⟩:=H.hN n hn'
        exact⟨h,by rw [yx,aK (h4 n hn')]; exact hg,hr⟩
    · rw [aK h0,h1]; exact H.hN
  refine⟨mY H.hm _,H.hr,H.hb,H.hl,H.hd,H.hu,H.hw,?_,hN⟩;show PW (if _ then _ else _)
  split
  · exact H.hz.put (.nil (aho _).1 (aho _).2)
  · exact H.hz
theorem awC(H:Inv c k)(it:AItem)(hg:fI it.A c.hs=some h):Inv (av6 c it h) (k+1):=by
  refine⟨M5 H.hm _,H.hr,by have:=H.hb; show c.s.eF.length<=_; omega,H.hl,by have:=H.hd; show c.s.bL.length<=_; omega,by have:=H.hu; exact⟨this.1,by show c.aN<=_; omega⟩,?_,H.hz,PX _ H.hm Y3 H.hN⟩;show(c.eD++zJ _ _ _ _).length<=_
  have h1:(zJ (eY h.l) (nM (mW c.s c.aN it.A c.m (lg c.m.aA it.A (eY h.l))).aA (eY h.l)) it.A (c.aN+c.r.jr)).length<=h.l.length:=by
    unfold zJ; rw [jY]; exact lV (mR _ _) (NP _)
  have:=(H.hz _ _ hg).n; have:=(H.hz _ _ hg).r; have:=H.hw;rw [jd]; omega
theorem aA0(H:Inv c k){h2:rG}(hg:fI z c.hs=some h)(hh:HOk h2)(hr:h2.bM=h.bM):Inv { c with hs:=iy z h2 c.hs } k:=
  ⟨H.hm,H.hr,H.hb,H.hl,H.hd,H.hu,H.hw,H.hz.put hh,H.hN.put hg hr⟩
theorem Sd(H:Inv c k){h2:rG}(hg:fI z c.hs=some h)(hh:HOk h2)(hr:h2.bM=h.bM):Inv { c with hs:=iy z h2 c.hs } (k+1):=(aA0 H hg hh hr).mono (abH k)
theorem aA1(H:Inv c k)(it:AItem)(hg:fI it.A c.hs=some h):Inv (U0 c it h).1 (k+1):=by
  have hh:=H.hz _ _ hg;unfold U0
  split
  · exact⟨H.hm,H.hr,by have:=as0 c.s.eF it.A c.aN; have:=H.hb; show(Bh _ _ _).length<=_; omega,H.hl,by have:=H.hd; show c.s.bL.length<=_; omega,by have:=H.hu; exact⟨this.1,by show c.aN<=_; omega⟩,by have:=H.hw; show c.eD.length<=_; omega,H.hz,H.hN⟩
  split
  · exact awC H it hg
  split
  · exact Sd H hg ⟨hh.l,hh.n,hh.r,hh.d,hh.w⟩ Y
  split
  · rw [ahg hh.l]; exact Sd H hg ⟨hh.l,hh.n,hh.r,hh.d,hh.w⟩ rfl
  split
  · exact Sd H hg (asX _ hh) Y
  split
  · exact Sd H hg (h2:={ h with d:=aao it.B it.C h.d }) ⟨hh.l,hh.n,hh.r,λk=>by show(sU _ (aao _ _ _)).length<=4; rw [alo]; exact hh.d k,λx hx=>by show(sU _ (aao _ _ _)).length=4; rw [alo]; exact hh.w x hx⟩ rfl
  · exact Sd H hg (.nil (by have:=hh.n; omega) hh.r) rfl
theorem GJ(H:Inv c k)(it:AItem):Inv (AU c it).1 (k+1):=by
  unfold AU
  split
  · split
    · exact H.mono aj
    · have:=H.mono (abH k)
      refine⟨this.hm,this.hr,this.hb,this.hl,this.hd,?_,this.hw,this.hz,this.hN⟩;have:=H.hu; show 0<=c.aN+it.A/\c.aN+it.A<=_; omega
  split
  · exact(awz H it).mono aj
  split
  · exact((⟨mY H.hm _,H.hr,H.hb,H.hl,H.hd,H.hu,H.hw,H.hz,Na H.hm (by show(2:Int)≠7; decide) rfl (by show(2:Int)≠1; decide) H.hN⟩:Inv { c with m:=uD c.m ⟨0,0,2,it.A,it.B,0⟩ } k)).mono aj
  split
  · exact awy H
  split
  · exact aww H it
  split
  · exact(awx H it).mono aj
  split
  · exact H.mono aj
  split
  · exact H.mono aj
  · rename_i h hg
    split
    · exact H.mono aj
    · exact aA1 H it hg
def aec(c:PC)(l:List AItem):PC:=l.foldl (λc it=>(AU c it).1) c
theorem alp:∀(l:List AItem){c:PC}{k:Nat},Inv c k->Inv (aec c l) (k+l.length)
  | [],c,k,H=>H
  | it::l,c,k,H=>by
    have:=alp l (GJ H it);rw [show k+(it::l).length=k+1+l.length by rw [pF]; omega]; exact this
theorem vG(c:PC)(l:List AItem)(it:AItem):aec c (l++[it])=(AU (aec c l) it).1:=by unfold aec; rw [yU]; rfl
def V3(r:ARules):PC:=⟨⟨[],[],[]⟩,⟨[],[],[]⟩,r,0,[],[]⟩
theorem ax6{r:ARules}(h:lY r=true):Inv (V3 r) 0:=by
  have hbd:=(Bw h).2.2.2.1;refine⟨aq8,h,kV _,?_,kV _,⟨yV _,yV _⟩,kV _,λz h hg=>?_,λn hn=>?_⟩
  · refine EO.2 ⟨⟨λx hx=>absurd hx (by simp [V3]),List.Pairwise.nil⟩,?_⟩
    show(0:Int)<=r.All; omega
  · exact absurd hg (by simp [V3,fI])
  · exact absurd hn (by simp [V3])
theorem aFN(c:PC)(o:aM):(l5 c o).r=c.r:=by
  unfold l5; split
  · rfl
  split
  · rfl
  split
  · rfl
  split
  · rfl
  split <;> rfl
theorem aFO(c:PC)(o:aM):(rA c o).r=c.r:=by
  unfold rA; split
  · exact aFN c o
  split
  · rfl
  split <;> rfl
theorem awD(c:PC)(it:AItem):(AU c it).1.r=c.r:=by
  unfold AU
  split
  · split <;> rfl
  split
  · rfl
  split
  · rfl
  split
  · rfl
  split
  · unfold mO; split
    · rfl
    split
    · rfl
    split
    · rfl
    · show(if _ then _ else _:PC).r=_
      split
      · exact aFO { c with eD:=c.eD.take it.A.toNat++c.eD.drop (it.A.toNat+1) } _
      · rfl
  split
  · unfold rC; split
    · rfl
    split <;> rfl
  split
  · rfl
  split
  · rfl
  split
  · rfl
  · unfold U0
    split
    · rfl
    split
    · rfl
    split
    · rfl
    split
    · rfl
    split
    · rfl
    split <;> rfl
theorem alq:∀(l:List AItem)(c:PC),(aec c l).r=c.r
  | [],c=>rfl
  | it::l,c=>(alq l (AU c it).1).trans (awD c it)
theorem aed{r:ARules}(hr:lY r=true){l:List AItem}(hk:k<=l.length):Inv (aec (V3 r) (l.take k)) k:=by
  have:=alp (l.take k) (ax6 hr)
  rwa [fO,F7 hk,J5] at this
end Go.Proofs.YtlhnnmlenkahlaaGreat
