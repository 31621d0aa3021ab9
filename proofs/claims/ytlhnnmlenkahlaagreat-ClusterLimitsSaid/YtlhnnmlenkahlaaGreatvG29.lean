/- Lemmas. -/
import Derived.Test.YtlhnnmlenkahlaaGreatvG28
set_option maxRecDepth 4000
set_option linter.all false
namespace Go.Proofs.YtlhnnmlenkahlaaGreat
open Go.RowKit Go.Proofs.Tryz
def abr:=@List.length_singleton
def Nj:=@Decidable.not_not
variable {x y:aH}{κ ν:Type}{z dD all:Int}{c:PC}{m:dU}{hs:ru}{h:xO}{gH:List (BitVec 8)}{k:Nat}
abbrev oq(x:aH):Int:=2*x.aB+yI x.fO
theorem PS(y x:aH):GL y x<0↔oq y<oq x:=by
  rcases y with ⟨c1,v1,s1,t1,b1⟩; rcases x with ⟨c2,v2,s2,t2,b2⟩
  unfold GL LD bn oq yI
  rcases Int.lt_trichotomy c1 c2 with h | h | h
  · cases t1 <;> cases t2 <;> simp [h] <;> omega
  · subst h; cases t1 <;> cases t2 <;> simp <;> omega
  · have h':¬ c1<c2:=aj
    cases t1 <;> cases t2 <;> simp [h,h'] <;> omega
theorem JZ(y x:aH):GL y x=0↔oq y=oq x:=by
  rcases y with ⟨c1,v1,s1,t1,b1⟩; rcases x with ⟨c2,v2,s2,t2,b2⟩
  unfold GL LD bn oq yI
  rcases Int.lt_trichotomy c1 c2 with h | h | h
  · cases t1 <;> cases t2 <;> simp [h] <;> omega
  · subst h; cases t1 <;> cases t2 <;> simp <;> omega
  · have h':¬ c1<c2:=aj
    cases t1 <;> cases t2 <;> simp [h,h'] <;> omega
def RZ(y x:aH):Prop:=oq y<oq x/\(y.aB=x.aB->y.aC<x.aC)
theorem YX(h:oq x<oq y):x.aB<=y.aB:=by
  rcases y with ⟨c1,v1,s1,t1,b1⟩; rcases x with ⟨c2,v2,s2,t2,b2⟩
  unfold oq yI at h; cases t1 <;> cases t2 <;> simp at h ⊢ <;> omega
theorem HV(h:oq x=oq y):x.aB=y.aB/\x.fO=y.fO:=by
  rcases y with ⟨c1,v1,s1,t1,b1⟩; rcases x with ⟨c2,v2,s2,t2,b2⟩
  unfold oq yI at h; cases t1 <;> cases t2 <;> simp at h ⊢ <;> omega
theorem aeE{z:aH}(h1:RZ x y)(h2:RZ y z):RZ x z:=by
  refine⟨by have:=h1.1; have:=h2.1; omega,λh=>?_⟩;have a:=YX h1.1; have b:=YX h2.1;have:=h1.2 aj; have:=h2.2 aj; omega
theorem ao3(p:Option aH)(x:aH):(!aaw p x&&!JN p x)=true↔∀ y,p=some y->RZ y x:=by
  cases p with
  | none=>simp [aaw,JN]
  | some y=>
    unfold aaw JN RZ
    simp only [bK,eu,bU,dZ,bL,ZL,forall_eq']
    rw [<- PS]
    constructor
    · rintro⟨h1,h2⟩; exact⟨aj,λh=>by have:=h2 h; omega⟩
    · rintro⟨h1,h2⟩; exact⟨aj,λh=>by have:=h2 h; omega⟩
theorem YZ:∀(l:List aH)(p:Option aH),LW p l=true↔(∀ x∈l,XE x=false)/\l.Pairwise RZ/\∀ y,p=some y->∀ x∈l,RZ y x
  | [],p=>by simp [LW]
  | a::l,p=>by
    have e:LW p (a::l)=((!XE a)&&((!aaw p a&&!JN p a)&&LW (some a) l)):=by rw [LW,U4,U4,U4]
    rw [e,bK,bK,ao3,YZ l (some a)]
    simp only [iN,forall_eq_or_imp,oU,ZL,forall_eq',eu]
    constructor
    · rintro⟨h1,h2,h3,h4,h5⟩
      exact⟨⟨h1,h3⟩,⟨h5,h4⟩,λy hy=>⟨h2 y hy,λx hx=>aeE (h2 y hy) (h5 x hx)⟩⟩
    · rintro⟨⟨h1,h3⟩,⟨h5,h4⟩,h6⟩
      exact⟨h1,λy hy=>(h6 y hy).1,h3,h4,h5⟩
theorem DC{l:List aH}:OZ l=true↔(∀ x∈l,XE x=false)/\l.Pairwise RZ:=by
  unfold OZ; rw [YZ]; simp
theorem aio{l:List aH}(h:OZ l=true):Up oq l:=(DC.1 h).2.imp λh=>h.1
theorem aeF{l:List aH}(h:OZ l=true):gK l=l:=by unfold gK; rw [aO h]
section
variable {l:List aH}{c:Int}{t:Bool}
theorem get_of_mem{α:Type}{l:List α}{x:α}(h:x∈l):∃ k:Nat,l[k]? = some x:=JQ.1 h
theorem abt{α:Type}{key:α->Int}{l:List α}(h:Up key l){i j:Nat}{x y:α}(hx:l[i]? = some x)(hy:l[j]? = some y)(he:key x=key y):i=j:=by
  rcases UG i j with h1 | h1 | h1
  · have:=(Ew.1 h) i j (aJ hx) (aJ hy) h1
    rw [sI (aJ hx)] at hx; rw [sI (aJ hy)] at hy
    injection hx with hx; injection hy with hy; rw [hx,hy] at this; omega
  · exact h1
  · have:=(Ew.1 h) j i (aJ hy) (aJ hx) h1
    rw [sI (aJ hx)] at hx; rw [sI (aJ hy)] at hy
    injection hx with hx; injection hy with hy; rw [hx,hy] at this; omega
theorem atA(h:Up oq l)(x:aH):Zc (λy=>GL y x) l:=by
  intro i j a b hij ha hb hlt;rw [PS] at hlt ⊢
  rcases Nat.lt_or_eq_of_le hij with h1 | h1
  · have:=(Ew.1 h) i j (aJ ha) (aJ hb) h1
    rw [sI (aJ ha)] at ha; rw [sI (aJ hb)] at hb
    injection ha with ha; injection hb with hb; rw [ha,hb] at this; omega
  · subst h1; rw [ha] at hb; injection hb with hb; rw [hb]; exact hlt
theorem HY(h:Up oq l):Nq l c t=true↔∃ x∈l,x.aB=c/\x.fO=t:=by
  constructor
  · intro h1; obtain⟨x,hx,hz⟩:=yC h1
    have:=HV ((JZ _ _).1 hz); exact⟨x,dA hx,this.1,this.2⟩
  · rintro⟨x,hx,h1,h2⟩
    obtain⟨k,hk,rfl⟩:=List.mem_iff_getElem.1 hx;have hz:GL l[k] (O4 c t)=0:=(JZ _ _).2 (by unfold oq; simp only; rw [h1,h2])
    have hl:low (λy=>GL y (O4 c t)) l=k:=by
      refine vR (Nat.le_of_lt hk) (λa x ha hx=>?_) (λa x ha hx=>?_)
      · have:=(Ew.1 h) a k (aJ hx) hk ha
        rw [sI (aJ hx)] at hx; injection hx with hx;rw [PS,<- (JZ _ _).1 hz,<- hx]; exact this
      · rw [PS,<- (JZ _ _).1 hz]
        rcases Nat.lt_or_eq_of_le ha with h3 | h3
        · have:=(Ew.1 h) k a hk (aJ hx) h3
          rw [sI (aJ hx)] at hx; injection hx with hx; rw [<- hx]; omega
        · subst h3; rw [sI hk] at hx; injection hx with hx; rw [<- hx]; omega
    show wL _ l=true;unfold wL; rw [Td (atA h _),hl,sI hk]; exact L6 hz
theorem Ro(h:Up oq l)(hx:x∈l):yZ l x.aB x.fO=some x:=by
  have h1:Nq l x.aB x.fO=true:=(HY h).2 ⟨x,hx,rfl,rfl⟩;obtain⟨y,hy,hz⟩:=yC h1;have:=(JZ _ _).1 hz;rw [FH h1 hy];have hu:=UJ h (dA hy) hx (by rw [this]);rw [hu]
theorem Y0(h:Up oq l)(hn:∀ x∈l,¬ (x.aB=c/\x.fO=t)):yZ l c t=none:=by
  refine O6 (ED.2 λh1=>?_);obtain⟨x,hx,h2⟩:=(HY h).1 h1; exact hn x hx h2
theorem ao4(h:Up oq l):(∀ x∈l.take (atR l c t),oq x<oq (O4 c t))/\(∀ x∈l.drop (atR l c t),oq (O4 c t)<=oq x):=by
  have e:atR l c t=low (λy=>GL y (O4 c t)) l:=Td (atA h _);rw [e]
  have e2:low (λy=>GL y (O4 c t)) l=low (λy=>bn (oq y) (oq (O4 c t))) l:=by
    unfold low; refine List.countP_congr λx _=>?_
    simp only [bL]; rw [PS]; unfold bn; split <;> simp_all
    split <;> omega
  rw [e2];exact⟨λx hx=>YD h hx,λx hx=>YE h hx⟩
theorem J2(h:Up oq l)(x y:aH):y∈yJ l x↔y=x∨(y∈l/\oq y≠oq x):=by
  unfold yJ
  by_cases h1:Nq l x.aB x.fO=true
  · rw [aO h1]
    obtain⟨z,hz,h2⟩:=yC h1;have hk:=(JZ _ _).1 h2;have hk':oq z=oq x:=hk
    constructor
    · intro hy
      obtain⟨k,hk2⟩:=get_of_mem hy;rw [Vd] at hk2
      split at hk2
      · split at hk2
        · injection hk2 with hk2; exact .inl hk2.symm
        · simp at hk2
      · rename_i hne
        refine .inr ⟨dA hk2,λhe=>hne ?_⟩;exact abt h hz hk2 aj
    · rintro(rfl | ⟨hy,hne⟩)
      · exact JQ.2 ⟨atR l y.aB y.fO,by rw [pQ (MZ h1)]⟩
      · obtain⟨k,hk2⟩:=get_of_mem hy
        refine JQ.2 ⟨k,?_⟩;rw [CJ]; exact hk2;intro he; rw [<- he,hz] at hk2; injection hk2 with hk2; rw [<- hk2] at hne; exact hne hk'
  · rw [aK h1]
    have hn:∀ z∈l,oq z≠oq x:=λz hz he=>h1 ((HY h).2 ⟨z,hz,(HV he).1,(HV he).2⟩);have:=sJ (atR l x.aB x.fO) l;rw [nU,kU,kU,nL]
    constructor
    · rintro(h2 | rfl | h2)
      · have:=List.mem_of_mem_take h2; exact .inr ⟨this,hn y this⟩
      · exact .inl Y
      · have:=Zq h2; exact .inr ⟨this,hn y this⟩
    · rintro(rfl | ⟨h2,_⟩)
      · exact .inr (.inl Y)
      · rw [<- this,kU] at h2; rcases h2 with h2 | h2
        · exact .inl h2
        · exact .inr (.inr h2)
theorem aip(h:Up oq l)(x:aH):Up oq (yJ l x):=by
  unfold yJ
  by_cases h1:Nq l x.aB x.fO=true
  · rw [aO h1]
    obtain⟨z,hz,h2⟩:=yC h1;have hk:oq z=oq x:=(JZ _ _).1 h2
    have e:(l.set (atR l x.aB x.fO) x).map oq=l.map oq:=by
      rw [EF,<- hk];refine EB λi=>?_;rw [Vd]; split
      · rename_i e; subst e; rw [aO (by rw [jN]; exact MZ h1),kI,hz]; rfl
      · rfl
    have:((l.set (atR l x.aB x.fO) x).map oq).Pairwise (λa b=>a<b):=by rw [e]; exact I8.2 h
    exact I8.1 this
  · rw [aK h1]
    have hs:=ao4 (c:=x.aB) (t:=x.fO) h;have hx:oq (O4 x.aB x.fO)=oq x:=rfl;rw [hx] at hs;have hn:∀ z∈l,oq z≠oq x:=λz hz he=>h1 ((HY h).2 ⟨z,hz,(HV he).1,(HV he).2⟩);refine x8.2 ⟨x8.2 ⟨h.sublist (List.take_sublist _ _),Qb _ _,λa ha b hb=>?_⟩,h.sublist (List.drop_sublist _ _),λa ha b hb=>?_⟩
    · rw [nL.1 hb]; exact hs.1 a ha
    · rw [kU] at ha
      rcases ha with ha | ha
      · have:=hs.1 a ha; have:=hs.2 b hb; omega
      · rw [nL.1 ha]; have:=hs.2 b hb; have:=hn b (Zq hb); omega
theorem R3(x:aH):(yJ l x).length=if Nq l x.aB x.fO=true then l.length else l.length+1:=by
  unfold yJ; split
  · rw [fQ]
  · have:atR l x.aB x.fO<=l.length:=agp _ _ _
    rw [iO,iO,fE,kN,abr]; omega
end
def Rq(l:List aH):Prop:=OZ l=true/\∀ x∈l,x.fO=false
theorem aiq{l:List aH}(h1:∀ x∈l,XE x=false)(h2:Up oq l)(h3:∀ x∈l,∀ y∈l,x.aB=y.aB->x.fO=false->y.fO=true->x.aC<y.aC):OZ l=true:=by
  refine DC.2 ⟨h1,List.Pairwise.imp_of_mem (λ{a b} ha hb hab=>⟨hab,λhe=>?_⟩) h2⟩;refine h3 a ha b hb he ?_ ?_
  all_goals (have h:=hab; unfold oq yI at h; rw [he] at h; cases ht:a.fO <;> cases hu:b.fO <;> simp [ht,hu] at h ⊢ <;> omega)
section
variable {l:List aH}{c v sum bJ:Int}{gH:List (BitVec 8)}{d:qP}
theorem Rq.up(h:Rq l):Up oq l:=aio h.1
theorem Rq.fair(h:Rq l):gK l=l:=aeF h.1
theorem Rq.rest(h:Rq l):eT l=l:=by
  unfold eT; rw [h.fair]; exact MC.2 λx hx=>by rw [h.2 x hx]; rfl
theorem Rq.sub(h:Rq l)(p:aH->Bool):Rq (l.filter p):=
  ⟨DC.2 ⟨λx hx=>(DC.1 h.1).1 x ((zk.1 hx).1),(DC.1 h.1).2.sublist V5⟩,λx hx=>h.2 x ((zk.1 hx).1)⟩
theorem Rq.no(h:Rq l)(c:Int):Nq l c true=false:=ED.2 λh1=>by
  obtain⟨x,hx,_,h2⟩:=(HY h.up).1 h1; rw [h.2 x hx] at h2; exact absurd h2 au
theorem KT(h:Rq l)(hz:(jY l x bJ).2=0):Q0 x=true/\(∀ y∈l,y.aB=x.aB->y.aC<x.aC)/\(l.length:Int)<bJ/\(jY l x bJ).1=yJ l ⟨x.aB,x.aC,x.Sum,true,false⟩:=by
  unfold jY at hz ⊢; rw [h.fair] at hz ⊢
  by_cases h1:(!Q0 x)=true
  · rw [aO h1] at hz; exact absurd hz au
  rw [aK h1] at hz ⊢
  by_cases h2:O5 (yZ l x.aB false) x.aC=true
  · rw [aO h2] at hz; exact absurd hz au
  rw [aK h2] at hz ⊢
  by_cases h3:O5 (yZ l x.aB true) x.aC=true
  · rw [aO h3] at hz; exact absurd hz au
  rw [aK h3] at hz ⊢
  by_cases h4:(!Nq l x.aB true&&decide (bJ<=(l.length:Int)))=true
  · rw [aO h4] at hz; exact absurd hz au
  rw [aK h4];refine⟨by simpa using h1,λy hy he=>?_,?_,rfl⟩
  · have h5:=Ro h.up hy
    rw [he,h.2 y hy] at h5; rw [h5] at h2; unfold O5 at h2; simp at h2; omega
  · rw [h.no] at h4; simp at h4; omega
theorem aeG(h:Rq l)(h1:Q0 x=true)(h2:∀ y∈l,y.aB=x.aB->y.aC<x.aC)(h3:(l.length:Int)<bJ):(jY l x bJ).2=0:=by
  unfold jY; rw [h.fair,aK (by rw [h1]; decide)]
  have h4:O5 (yZ l x.aB false) x.aC=false:=by
    by_cases hi:∃ y∈l,y.aB=x.aB
    · obtain⟨y,hy,he⟩:=hi
      have h5:=Ro h.up hy;rw [he,h.2 y hy] at h5; rw [h5]; unfold O5; simp; exact h2 y hy he
    · rw [Y0 h.up (λy hy ⟨he,_⟩=>hi ⟨y,hy,he⟩)]; rfl
  have h5:O5 (yZ l x.aB true) x.aC=false:=by rw [Y0 h.up (λy hy ⟨_,he⟩=>by rw [h.2 y hy] at he; exact absurd he au)]; rfl
  rw [aK (by rw [h4]; decide),aK (by rw [h5]; decide),aK (by rw [h.no]; simp; omega)]
theorem KU(h:Rq l):qw l bJ c v sum gH=0↔gH.length<=64/\((iV gH).toNat:Int)=sum/\(jY l ⟨c,v,sum,false,false⟩ bJ).2=0:=by
  unfold qw
  by_cases h1:64<gH.length
  · rw [aO h1]; exact⟨λh=>absurd h au,λh=>absurd h.1 aj⟩
  rw [aK h1]
  by_cases h2:((iV gH).toNat:Int)=sum
  · rw [aK (not_not_intro h2)]; exact⟨λh=>⟨aj,h2,h⟩,λh=>h.2.2⟩
  · rw [aO h2]; exact⟨λh=>absurd h au,λh=>absurd h.2.1 h2⟩
theorem awG(h:Rq l)(h1:Q0 ⟨c,v,sum,false,false⟩=true)(h2:∀ y∈l,y.aB=c->y.aC<v):OZ (yJ l ⟨c,v,sum,true,false⟩)=true:=by
  refine aiq (λx hx=>?_) (aip h.up _) (λx hx y hy he ht hu=>?_)
  · rcases(J2 h.up _ _).1 hx with rfl | ⟨hx,_⟩
    · unfold XE; have:Q0 ⟨c,v,sum,true,false⟩=true:=h1
      rw [this]; rfl
    · exact(DC.1 h.1).1 x hx
  · rcases(J2 h.up _ _).1 hx with rfl | ⟨hx,_⟩
    · exact Bool.noConfusion ht
    · rcases(J2 h.up _ _).1 hy with rfl | ⟨hy,_⟩
      · exact h2 x hx he
      · rw [h.2 y hy] at hu; exact absurd hu au
theorem WB(h:Rq l)(h1:Q0 ⟨c,v,sum,false,false⟩=true)(h2:∀ y∈l,y.aB=c->y.aC<v) :
    ∃ l2,lu (yJ l ⟨c,v,sum,true,false⟩) c v=(l2,0)/\Rq l2/\(∀ y,y∈l2↔y=⟨c,v,sum,false,false⟩∨(y∈l/\y.aB≠c))/\l2.length<=l.length+1:=by
  have hm:=awG h h1 h2;have hmem:∀ y,y∈yJ l ⟨c,v,sum,true,false⟩↔y=⟨c,v,sum,true,false⟩∨(y∈l/\oq y≠oq ⟨c,v,sum,true,false⟩):=λy=>J2 h.up _ _
  have e1:(yJ l ⟨c,v,sum,true,false⟩).length=l.length+1:=by
    rw [R3,aK]; intro h9; have:=h.no c; rw [show Nq l c true=true from h9] at this; exact Bool.noConfusion this
  revert hm hmem e1
  generalize yJ l ⟨c,v,sum,true,false⟩=q
  intro hm hmem e1;have hu:=aio hm;have hx:(⟨c,v,sum,true,false⟩:aH)∈q:=(hmem _).2 (.inl rfl);have hg:=Ro hu hx
  dsimp only at hg
  have hi:Nq q c true=true:=(HY hu).2 ⟨_,hx,rfl,rfl⟩;obtain⟨z,hz,h3⟩:=yC hi;have hzx:z=⟨c,v,sum,true,false⟩:=UJ hu (dA hz) hx ((JZ _ _).1 h3);have hz':q[atR q c true]? = some (⟨c,v,sum,true,false⟩:aH):=by rw [<- hzx]; exact hz
  have hcm:lu q c v=(yJ (q.eraseIdx (atR q c true)) ⟨c,v,sum,false,false⟩,0):=by
    unfold lu; rw [aeF hm,hg,aK (by simp [agn]),Md]; rfl
  refine⟨_,hcm,?_⟩;have hlt:=MZ hi
  clear hcm
  generalize hw:q.eraseIdx (atR q c true)=w
  have hwu:Up oq w:=by rw [<- hw]; exact hu.sublist (afc _ _)
  have hwm:∀ y,y∈w↔y∈l/\oq y≠oq ⟨c,v,sum,true,false⟩:=by
    intro y; rw [<- hw,List.mem_eraseIdx_iff_getElem?]
    constructor
    · rintro⟨i,hi,hy⟩
      rcases(hmem y).1 (dA hy) with rfl | h4
      · exact absurd (abt hu hy hz' Y) hi
      · exact h4
    · intro h4
      obtain⟨i,hi⟩:=get_of_mem ((hmem y).2 (.inr h4));refine⟨i,λhe=>?_,hi⟩;rw [he,hz'] at hi; injection hi with hi; rw [<- hi] at h4; exact h4.2 rfl
  have hlm:∀ y,y∈yJ w ⟨c,v,sum,false,false⟩↔y=⟨c,v,sum,false,false⟩∨(y∈l/\y.aB≠c):=by
    intro y; rw [J2 hwu,hwm]
    constructor
    · rintro(h4 | ⟨⟨h4,h5⟩,h6⟩)
      · exact .inl h4
      · refine .inr ⟨h4,λhe=>h6 ?_⟩
        unfold oq; rw [he,h.2 y h4]
    · rintro(h4 | ⟨h4,h5⟩)
      · exact .inl h4
      · exact .inr ⟨⟨h4,λhe=>h5 (HV he).1⟩,λhe=>h5 (HV he).1⟩
  refine⟨⟨aiq (λx hx=>?_) (aip hwu _) (λx hx y hy he ht hu=>?_),λx hx=>?_⟩,hlm,?_⟩
  · rcases(hlm x).1 hx with rfl | ⟨hx,_⟩
    · unfold XE; rw [h1]; rfl
    · exact(DC.1 h.1).1 x hx
  · rcases(hlm y).1 hy with rfl | ⟨hy,_⟩
    · exact Bool.noConfusion hu
    · rw [h.2 y hy] at hu; exact Bool.noConfusion hu
  · rcases(hlm x).1 hx with rfl | ⟨hx,_⟩
    · rfl
    · exact h.2 x hx
  · have e2:w.length=l.length:=by rw [<- hw,List.length_eraseIdx_of_lt hlt,e1]; rfl
    rw [R3]; split <;> omega
theorem ao5(h:Rq l):XK l bJ c v sum gH=true↔gH.length<=64/\((iV gH).toNat:Int)=sum/\Q0 ⟨c,v,sum,false,false⟩=true/\(∀ y∈l,y.aB=c->y.aC<v)/\(l.length:Int)<bJ:=by
  unfold XK; rw [bK,bL,bL,KU h]
  constructor
  · rintro⟨⟨h1,h2,h3⟩,_⟩
    have h4:=KT h h3; exact⟨h1,h2,h4.1,h4.2.1,h4.2.2.1⟩
  · rintro⟨h1,h2,h3,h4,h5⟩
    have h6:=aeG h (x:=⟨c,v,sum,false,false⟩) h3 h4 h5;refine⟨⟨h1,h2,h6⟩,?_⟩;unfold yL; rw [aK aj,aK (not_not_intro h2),aO h6,(KT h h6).2.2.2];obtain⟨l2,hc,_⟩:=WB h h3 h4;rw [hc]
theorem aBJ(h:Rq l)(hb:XK l bJ c v sum gH=false):KM l bJ c v sum gH=l/\tkD l bJ c v sum gH d=d:=by
  have h0:¬ qw l bJ c v sum gH=0:=λh0=>by
    have h1:=(KU h).1 h0; have h2:=KT h h1.2.2;have:=(ao5 h (bJ:=bJ) (c:=c) (v:=v) (sum:=sum) (gH:=gH)).2 ⟨h1.1,h1.2.1,h2.1,h2.2.1,h2.2.2.1⟩;rw [hb] at this; exact absurd this au
  unfold KM tkD; rw [aK h0,aK h0];unfold yL akm; rw [aK h0];refine⟨?_,Y⟩;have h1:=mt (KU h (bJ:=bJ) (c:=c) (v:=v) (sum:=sum) (gH:=gH)).2 h0
  by_cases h2:64<gH.length
  · rw [aO h2]
  rw [aK h2]
  by_cases h3:((iV gH).toNat:Int)=sum
  · rw [aK (not_not_intro h3),aK (λh4=>h1 ⟨aj,h3,h4⟩)]
  · rw [aO h3]
theorem Rt[DecidableEq κ](k:κ)(v:ν)(es:List (κ × ν)):fH k (gV k v es)=some v:=by
  unfold gV; split
  · rename_i h
    unfold fH at h ⊢;rw [List.find?_map]
    cases hf:es.find? (λp=>decide (p.1=k)) with
    | none=>rw [hf] at h; exact absurd h Bool.false_ne_true
    | some p=>
      have h2:=List.find?_some hf; simp at h2
      have e:es.find? ((fun(p:κ × ν)=>decide (p.1=k)) ∘ λp=>if p.1=k then(k,v) else p)=some p:=by
        rw [<- hf]; congr 1; funext q; simp only [Function.comp_apply]; split
        · rename_i h3; simp [h3]
        · rfl
      rw [e]; simp [h2]
  · rename_i h
    unfold fH at h ⊢;rw [Gg]
    cases hf:es.find? (λp=>decide (p.1=k)) with
    | none=>simp
    | some p=>rw [hf] at h; exact absurd rfl h
theorem PU(k k2:bV)(b:List (BitVec 8))(d:qP):uo k2 (gV k b d)=if k2=k then b else uo k2 d:=by
  unfold uo; split
  · rename_i he; rw [he,Rt]; rfl
  · rename_i he; rw [Eh he]
theorem ao6[DecidableEq κ](k k2:κ)(es:List (κ × ν)):fH k2 (nH k es)=if k2=k then none else fH k2 es:=by
  unfold fH nH
  induction es with
  | nil=>simp
  | cons p es ih=>
    by_cases h:p.1=k
    · rw [agw (by simp [h]),ih]
      split
      · rfl
      · rename_i hne; rw [u6 (by simp [h]; exact λhe=>hne he.symm)]
    · rw [agx (by simp [h])]
      by_cases h2:p.1=k2
      · rw [F4 (by simp [h2]),F4 (by simp [h2]),aK (λhe=>h (h2.trans he))]
      · rw [u6 (by simp [h2]),u6 (by simp [h2]),ih]
theorem aeH(k k2:bV)(d:qP):uo k2 (nH k d)=if k2=k then[] else uo k2 d:=by
  unfold uo; rw [ao6]; split <;> rfl
theorem awH(h:Rq l)(hb:XK l bJ c v sum gH=true):Rq (KM l bJ c v sum gH)/\(∀ y,y∈KM l bJ c v sum gH↔y=⟨c,v,sum,false,false⟩∨(y∈l/\y.aB≠c))/\((KM l bJ c v sum gH).length:Int)<=bJ/\
    (∀ k,uo k (tkD l bJ c v sum gH d)=if k=⟨c,true⟩ then[] else if k=⟨c,false⟩ then gH else uo k d):=by
  obtain⟨h1,h2,h3,h4,h5⟩:=(ao5 h).1 hb;have h6:=aeG h (x:=⟨c,v,sum,false,false⟩) h3 h4 h5;have h0:qw l bJ c v sum gH=0:=(KU h).2 ⟨h1,h2,h6⟩;obtain⟨l2,hc,hc1,hc2,hc3⟩:=WB h h3 h4
  have e1:yL l bJ c v sum gH=yJ l ⟨c,v,sum,true,false⟩:=by
    unfold yL; rw [aK aj,aK (not_not_intro h2),aO h6,(KT h h6).2.2.2]
  have e2:KM l bJ c v sum gH=l2:=by
    unfold KM; rw [aO h0,e1]; unfold Rb; rw [hc]; rfl
  have e3:tkD l bJ c v sum gH d=nH ⟨c,true⟩ (gV ⟨c,false⟩ gH (gV ⟨c,true⟩ gH d)):=by
    unfold tkD; rw [aO h0,e1]; unfold arM; rw [hc,aO rfl]; unfold akm; rw [aO h0,PU,aO rfl]
  rw [e2,e3];refine⟨hc1,hc2,aj,λk=>?_⟩;rw [aeH,PU,PU]
  by_cases h7:k=⟨c,true⟩
  · rw [aO h7,aO h7]
  · rw [aK h7,aK h7,aK h7]
theorem ar8(h:Rq l)(c:Int):Rq (AJ l c)/\(∀ y,y∈AJ l c↔y∈l/\y.aB≠c)/\(AJ l c).length<=l.length/\∀ k:bV,uo k (aaT l c d)=uo k d∨(k=⟨c,false⟩/\uo k (aaT l c d)=[]):=by
  unfold AJ aaT oo; rw [h.fair]
  by_cases h1:Nq l c false=true
  · rw [aO h1]; simp only [if_true]
    refine⟨h.sub _,λy=>?_,lX _ _,λk=>?_⟩
    · rw [zk]
      constructor
      · rintro⟨h2,h3⟩; rw [h.2 y h2] at h3; simp at h3; exact⟨h2,h3⟩
      · rintro⟨h2,h3⟩; rw [h.2 y h2]; simp; exact⟨h2,h3⟩
    · rw [aeH]; split
      · exact .inr ⟨by assumption,rfl⟩
      · exact .inl Y
  · rw [aK h1]; simp only [aK (show ¬ (5:Int)=0 by decide)]
    refine⟨h,λy=>⟨λhy=>⟨hy,λhe=>h1 ((HY h.up).2 ⟨y,hy,he,h.2 y hy⟩)⟩,λhy=>hy.1⟩,kH _,λk=>.inl trivial⟩
theorem ao7(h:Rq l)(d:qP):XM l d=(l,d):=by
  unfold XM
  have:∀(q:List aH),(∀ x∈q,x.fO=false)->∀ s:List aH × qP,q.foldl YM s=s:=by
    intro q; induction q with
    | nil=>intro _ s; rfl
    | cons a q ih=>
      intro hq s; rw [Ae];have:YM s a=s:=by unfold YM; rw [aK (by rw [hq a (List.mem_cons_self)]; decide)]
      rw [this]; exact ih (λx hx=>hq x (Ve _ hx)) s
  exact this l h.2 (l,d)
theorem akM(h:Rq l)(d:qP)(c:Int):(YL l d).find? (λp=>decide (p.1.aB=c))=(l.find? λx=>decide (x.aB=c)).map λx=>(x,!decide (((iV (uo ⟨x.aB,false⟩ d)).toNat:Int)=x.Sum)):=by
  unfold YL; rw [h.rest,List.find?_map]; rfl
theorem aBK(h:Rq l)(hz:(xP l d c).2.2=0):∃ x∈l,x.aB=c/\((iV (uo ⟨c,false⟩ d)).toNat:Int)=x.Sum/\(xP l d c).1=uo ⟨c,false⟩ d/\(xP l d c).2.1=x.aC:=by
  unfold xP at hz ⊢; rw [akM h] at hz ⊢
  cases hf:l.find? (λy=>decide (y.aB=c)) with
  | none=>rw [hf] at hz; exact absurd (show(5:Int)=0 from hz) au
  | some y=>
    rw [hf] at hz;have h1:=QA hf; have h2:=List.find?_some hf; simp at h2; subst h2
    simp only [FW] at hz ⊢
    by_cases hs:((iV (uo ⟨y.aB,false⟩ d)).toNat:Int)=y.Sum
    · refine⟨y,h1,Y,hs,?_,?_⟩ <;> simp [hs]
    · simp [hs] at hz
end
theorem ao8{l:List aI}(h:lY l=true):Up aI.ID l:=by
  exact I8.1 (BQ _ _ (mQ.1 h).2.2)
theorem abu{l:List aI}(h:lY l=true){j:Int}(hb:gU l j=true):(aV l j).ID=j:=(zP h hb).2
theorem ao9{l:List aI}(h:lY l=true):dG l=l:=by unfold dG; rw [aO h]
theorem abv{l:List aI}(hl:lY l=true){id:Int}{f:aI->aI × Int}(hf:Good f)(he:(gy l id f).2=0) :
    gU l id=true/\(f (aV l id)).2=0/\∀ y,y∈(gy l id f).1↔y=(f (aV l id)).1∨(y∈l/\y.ID≠id):=by
  by_cases hb:¬ gU l id=true
  · rw [aff (by simpa using hb)] at he; exact absurd (show(5:Int)=0 from he) au
  replace hb:=Nj.1 hb;rw [alN hl hb] at he ⊢
  by_cases h0:¬ (f (aV l id)).2=0
  · rw [aK h0] at he; exact absurd he h0
  replace h0:=Nj.1 h0;rw [aO h0];refine⟨hb,h0,λy=>?_⟩;have hg:=(zP hl hb).1; have hi:=(zP hl hb).2;have hid:(f (aV l id)).1.ID=id:=by rw [(hf _ ((mQ.1 hl).1 _ (dA hg)) h0).2]; exact hi
  show y∈l.set _ _↔_
  constructor
  · intro hy
    obtain⟨k,hk⟩:=get_of_mem hy;rw [Vd] at hk; split at hk
    · split at hk
      · injection hk with hk; exact .inl hk.symm
      · exact absurd hk av
    · rename_i hne
      refine .inr ⟨dA hk,λh=>hne (abt (ao8 hl) hg hk (by rw [hi,h]))⟩
  · rintro(rfl | ⟨hy,hne⟩)
    · exact JQ.2 ⟨_,by rw [pQ (aJ hg)]⟩
    · obtain⟨k,hk⟩:=get_of_mem hy
      refine JQ.2 ⟨k,?_⟩;rw [CJ]; exact hk;intro h; rw [<- h,hg] at hk; injection hk with hk; rw [<- hk] at hne; exact hne hi
inductive WC (m:dU) (x:gD) (l:List aI):Prop
  | same (h:l=m.aA)
  | new (hk:x.Kind=3) (h1:∀ c∈m.aA,c.ID≠x.A) (h2:1<=x.A/\x.A<=1048576) (h:∀ y,y∈l↔y=⟨x.A,1,x.B,[]⟩∨y∈m.aA)
  | write (c:aI) (hk:x.Kind=4) (hc:c∈m.aA) (hi:c.ID=x.A) (h:∀ y,y∈l↔y=⟨c.ID,c.aC+1,x.B,[]⟩∨(y∈m.aA/\y.ID≠x.A))
  | claim (c:aI) (H:List Int) (hk:x.Kind=5) (hc:c∈m.aA) (hi:c.ID=x.A) (hv:x.C=c.aC) (hs:lq m.aY x.B=true) (hn:x.B∉c.aF) (hH:∀ n,n∈H↔n=x.B∨n∈c.aF) (hl:H.length=c.aF.length+1)
      (h:∀ y,y∈l↔y=⟨c.ID,c.aC,c.Sum,H⟩∨(y∈m.aA/\y.ID≠x.A))
  | ar9 (c:aI) (H:List Int) (hk:x.Kind=6) (hc:c∈m.aA) (hi:c.ID=x.A) (hn:x.B∈c.aF) (hH:∀ n,n∈H↔n≠x.B/\n∈c.aF) (hl:H.length+1=c.aF.length)
      (h:∀ y,y∈l↔y=⟨c.ID,c.aC,c.Sum,H⟩∨(y∈m.aA/\y.ID≠x.A))
inductive apa (m:dU) (x:gD) (l:List aW):Prop
  | same (h:l=m.aY)
  | add (hk:x.Kind=1) (h1:∀ n∈m.aY,n.ID≠x.A) (h:∀ y,y∈l↔y=⟨x.A,x.B,x.C,0⟩∨y∈m.aY)
  | set (n:aW) (hk:x.Kind=2) (hn:n∈m.aY) (hi:n.ID=x.A) (hs:n.gG≠2) (hb:0<=x.B/\x.B<=2) (h:∀ y,y∈l↔y=⟨n.ID,n.kM,n.lW,x.B⟩∨(y∈m.aY/\y.ID≠x.A))
theorem air(h:¬ (z<0∨4294967295<z)):IntKind.u32.wrap z=z:=by
  show z % (2 ^ 32:Int)=z;exact Int.emod_eq_of_lt aj aj
theorem asa{c:aI}(ho:pF c=true){n:Int}(hn:n∉c.aF):∀ x,x∈c.aF.take (low (fun(y:Int)=>bn y n) c.aF)++[n]++c.aF.drop (low (fun(y:Int)=>bn y n) c.aF)↔x=n∨x∈c.aF:=λx=>zX _
theorem aeI{c:aI}(ho:pF c=true):c.aF.Pairwise (λx y=>x<y):=by
  unfold pF at ho; simp at ho; exact BQ _ _ ho.2
theorem akN{c:aI}(ho:pF c=true){n:Int}(hn:n∈c.aF):∀ x,x∈c.aF.take (low (fun(y:Int)=>bn y n) c.aF)++c.aF.drop (low (fun(y:Int)=>bn y n) c.aF+1)↔x≠n/\x∈c.aF:=λx=>by
  have hu:Up (fun(y:Int)=>y) c.aF:=aeI ho;obtain⟨z,hz,h1⟩:=qE (key:=fun(y:Int)=>y) ((uY hu n).2 ⟨n,hn,rfl⟩);have h1:z=n:=h1;subst h1;rw [<- Md,List.mem_eraseIdx_iff_getElem?]
  constructor
  · rintro⟨i,hi,hx⟩
    exact⟨λh=>hi (abt hu hx hz h),dA hx⟩
  · rintro⟨h2,h3⟩
    obtain⟨i,hi⟩:=get_of_mem h3;exact⟨i,λh=>h2 (by rw [h] at hi; have hz':c.aF[low (fun(y:Int)=>bn y z) c.aF]? = some z:=hz; rw [hz'] at hi; injection hi with hi; exact hi.symm),hi⟩
theorem aeJ{c:aI}(ho:pF c=true){n:Int}(hn:n∈c.aF):(c.aF.take (low (fun(y:Int)=>bn y n) c.aF)++c.aF.drop (low (fun(y:Int)=>bn y n) c.aF+1)).length+1=c.aF.length:=by
  have hu:Up (fun(y:Int)=>y) c.aF:=aeI ho;obtain⟨z,hz,h1⟩:=qE (key:=fun(y:Int)=>y) ((uY hu n).2 ⟨n,hn,rfl⟩);have:=aJ hz;rw [<- Md,List.length_eraseIdx_of_lt this];have:low (fun(y:Int)=>bn y n) c.aF<c.aF.length:=this;omega
theorem aeK{l:List aW}(h:uR l=true){n:aW}(hx:∃ x∈l,x.ID=n.ID):(nR l n).2≠0:=by
  unfold nR; rw [yw h]
  split
  · simp
  · rw [aO ((uY (yH.1 h).1 n.ID).2 hx)]; simp
theorem apb(hm:qz m=true)(x:gD)(h7:x.Kind≠7):WC m x (EN m x).2.1/\apa m x (EN m x).1:=by
  obtain⟨hn,hc,hs,hh⟩:=nG.1 hm;unfold EN
  by_cases h0:x.Kind=0
  · rw [aO h0]; exact⟨.same rfl,.same rfl⟩
  rw [aK h0]
  by_cases h1:x.Kind=1
  · rw [aO h1]
    refine⟨.same Y,?_⟩
    rcases MX hn ⟨x.A,x.B,x.C,0⟩ with h | ⟨h,hm',h2⟩
    · rw [aK h]; exact .same rfl
    · rw [aO h]
      refine .add h1 (λn hn' he=>?_) h2;exact aeK hn ⟨n,hn',he⟩ h
  rw [aK h1]
  by_cases h2:x.Kind=2
  · rw [aO h2]
    refine⟨.same Y,?_⟩;show apa m x (if _ then _ else if _ then _ else _)
    split
    · exact .same Y
    rcases VX hn x.A x.B with h | ⟨h,hm',hb,hf,hst,ha,hb2,hc2⟩
    · rw [aK h]; exact .same rfl
    · rw [aO h]
      have hat:=OV hn hf;refine .set (gP m.aY x.A) h2 hat.1 hat.2 hst hb λy=>⟨λhy=>hc2 y hy,?_⟩;rintro(rfl | ⟨h3,h4⟩)
      · exact ha
      · exact hb2 y h3 h4
  rw [aK h2]
  by_cases h3:x.Kind=3
  · rw [aO h3]
    refine⟨?_,.same Y⟩;show WC m x (vH eD m.aA x).1;unfold vH
    by_cases hr:x.B<0∨4294967295<x.B
    · rw [aO hr]; exact .same rfl
    rw [aK hr,air hr]
    rcases Gf m.aA x.A x.B with h | ⟨ha,hb,hf,hlen,h⟩
    · rw [aK h.2]; exact .same rfl
    · rw [h,aO rfl]
      refine .new h3 (λc hc' he=>?_) ⟨ha,hb⟩ λy=>?_
      · have:=(UK hc).2 ⟨c,hc',he⟩; rw [hf] at this; exact absurd this au
      · rw [ao9 hc]; exact zX _
  rw [aK h3]
  by_cases h4:x.Kind=4
  · rw [aO h4]
    refine⟨?_,.same Y⟩;show WC m x (vH (λl id sum=>gy l id (dz sum)) m.aA x).1;unfold vH
    by_cases hr:x.B<0∨4294967295<x.B
    · rw [aO hr]; exact .same rfl
    rw [aK hr,air hr];show WC m x (if(gy m.aA x.A (dz x.B)).2=0 then(gy m.aA x.A (dz x.B)).1 else m.aA)
    by_cases he:¬ (gy m.aA x.A (dz x.B)).2=0
    · rw [aK he]; exact .same rfl
    replace he:=Nj.1 he;rw [aO he];obtain⟨hb,hz,hmem⟩:=abv hc (zw x.B) he;have hin:=DW hc hb;have hw:=Qr ((mQ.1 hc).1 _ hin) hz;refine .write (aV m.aA x.A) h4 hin (abu hc hb) λy=>?_;rw [hmem,hw.1]
  rw [aK h4]
  by_cases h5:x.Kind=5
  · rw [aO h5]
    refine⟨?_,.same Y⟩;show WC m x (if _ then if _ then _ else _ else _)
    by_cases hst:¬ lq m.aY x.B=true
    · rw [aK hst]; exact .same rfl
    replace hst:=Nj.1 hst;rw [aO hst]
    by_cases he:¬ (lN m.aA x.A x.B x.C).2=0
    · rw [aK he]; exact .same rfl
    replace he:=Nj.1 he;rw [aO he];unfold lN at he ⊢
    by_cases hr:x.B<1∨16<x.B
    · rw [aO hr] at he; exact absurd (show(1:Int)=0 from he) au
    rw [aK hr] at he ⊢;obtain⟨hb,hz,hmem⟩:=abv hc (UL x.C aj aj) he;have hin:=DW hc hb;have ho:=(mQ.1 hc).1 _ hin;have hw:=Qs ho aj aj hz;refine .claim (aV m.aA x.A) _ h5 hin (abu hc hb) hw.1 hst hw.2.1 (asa ho hw.2.1) ?_ λy=>?_
    · rw [iO,iO,abr,fE,kN]; omega
    · rw [hmem,hw.2.2.1]
  rw [aK h5]
  by_cases h6:x.Kind=6
  · rw [aO h6]
    refine⟨?_,.same Y⟩;show WC m x (if _ then _ else _)
    by_cases he:¬ (gy m.aA x.A (jZ x.B)).2=0
    · rw [aK he]; exact .same rfl
    replace he:=Nj.1 he;rw [aO he];obtain⟨hb,hz,hmem⟩:=abv hc (NR x.B) he;have hin:=DW hc hb;have ho:=(mQ.1 hc).1 _ hin;have hw:=Jd ho hz;refine .ar9 (aV m.aA x.A) _ h6 hin (abu hc hb) hw.1 (akN ho hw.1) (aeJ ho hw.1) λy=>?_;rw [hmem,hw.2.1]
  rw [aK h6,aK h7]; exact⟨.same rfl,.same rfl⟩
theorem asb(hm:qz m=true){x:gD}(h7:x.Kind≠7)(h0:x.Client=0):WC m x (AU m x).aA/\apa m x (AU m x).aY:=by
  unfold AU; split
  · exact⟨.same Y,.same Y⟩
  · unfold dO; rw [aK (by rw [hm]; decide),aO h0]; exact apb hm x h7
structure OKl (l:List bB) (dD:Int):Prop where
  one:∀ x∈l,Fb x=true/\(sends l x.jw:Int)<=dD/\(takes l x.To:Int)<=dD
  dif:l.Pairwise λx y=>¬ (x.aB=y.aB/\x.To=y.To)
theorem WE{l:List bB}{c t:Int}:(uM l c t=-1/\∀ x∈l,¬ (x.aB=c/\x.To=t))∨∃(k:Nat)(x:bB),uM l c t=(k:Int)/\l[k]? = some x/\(x.aB=c/\x.To=t)/\∀ y∈l.take k,¬ (y.aB=c/\y.To=t):=by
  rcases uV (fun(x:bB)=>decide (x.aB=c)&&decide (x.To=t)) l with ⟨h1,h2⟩ | ⟨k,x,h1,h2,h3,h4⟩
  · exact .inl ⟨h1,λx hx h=>by have:=h2 x hx; simp [h.1,h.2] at this⟩
  · exact .inr ⟨k,x,h1,h2,by simpa using h3,λy hy h=>by have:=h4 y hy; simp [h.1,h.2] at this⟩
theorem DF{l:List bB}:Da l dD all=true↔OKl l dD/\(l.length:Int)<=all:=by
  unfold Da;rw [bK,L8,bL];refine and_congr ⟨λh=>⟨λx hx=>?_,?_⟩,λh i x hx=>?_⟩ Iff.rfl
  · obtain⟨i,hi⟩:=qV hx
    have:=h i x hi
    simp only [Xy,bK,bL] at this
    exact⟨this.1.1.1,this.1.2,this.2⟩
  · rw [Ew]
    intro i j hi hj hij he;have:=h j l[j] (sI hj)
    simp only [Xy,bK,bL] at this
    rcases WE (l:=l) (c:=l[j].aB) (t:=l[j].To) with ⟨h1,_⟩ | ⟨k,y,h1,h2,h3,h4⟩
    · have:=this.1.1.2; omega
    · have hk:k=j:=by have:=this.1.1.2; omega
      subst hk;exact h4 l[i] (List.mem_take_iff_getElem.2 ⟨i,aj,rfl⟩) he
  · have hm:=h.one x (dA hx)
    simp only [Xy,bK,bL]
    refine⟨⟨⟨hm.1,?_⟩,hm.2.1⟩,hm.2.2⟩;have hd:=Ew.1 h.dif;have hi:=aJ hx;obtain⟨_,hx'⟩:=mM.1 hx
    rcases WE (l:=l) (c:=x.aB) (t:=x.To) with ⟨_,h2⟩ | ⟨k,y,h1,h2,h3,h4⟩
    · exact absurd ⟨Y,Y⟩ (h2 x (dA hx))
    · have hk:=aJ h2
      obtain⟨_,hy'⟩:=mM.1 h2;rw [h1]
      rcases UG k i with h5 | h5 | h5
      · exact absurd (by rw [hx',hy']; exact h3) (hd k i hk hi h5)
      · rw [h5]
      · exact absurd ⟨Y,Y⟩ (h4 x (List.mem_take_iff_getElem.2 ⟨i,aj,hx'⟩))
theorem OKl.fil{l:List bB}(h:OKl l dD)(p:bB->Bool):OKl (l.filter p) dD:=
  ⟨λx hx=>by
    have h1:=h.one x (zk.1 hx).1;have h2:sends (l.filter p) x.jw<=sends l x.jw:=V5.countP_le;have h3:takes (l.filter p) x.To<=takes l x.To:=V5.countP_le
    exact⟨h1.1,aj,aj⟩,h.dif.filter _⟩
theorem Y1{l:List bB}{x:bB}(h:oD l x dD all=0):Fb x=true/\(∀ y∈l,¬ (y.aB=x.aB/\y.To=x.To))/\(l.length:Int)<all/\(sends l x.jw:Int)<dD/\(takes l x.To:Int)<dD:=by
  unfold oD at h
  split at h
  · cases h
  · rename_i h1
    split at h
    · cases h
    · rename_i h2
      split at h
      · cases h
      · rename_i h3
        simp only [not_or] at h3
        refine⟨by simpa using h1,?_,aj,aj,aj⟩
        rcases WE (l:=l) (c:=x.aB) (t:=x.To) with ⟨_,h4⟩ | ⟨k,y,h4,_⟩
        · exact h4
        · omega
theorem OKl.snoc{l:List bB}{x:bB}(h:OKl l dD)(hs:oD l x dD all=0):OKl (l++[x]) dD:=by
  obtain⟨h1,h2,_,h4,h5⟩:=Y1 hs;have es:∀ id,sends (l++[x]) id=sends l id+if x.jw=id then 1 else 0:=λid=>by simp [sends,LZ,Zy]
  have et:∀ id,takes (l++[x]) id=takes l id+if x.To=id then 1 else 0:=λid=>by simp [takes,LZ,Zy]
  refine⟨λy hy=>?_,x8.2 ⟨h.dif,Qb _ _,λy hy z hz=>by rw [nL.1 hz]; exact h2 y hy⟩⟩;rw [es,et]
  rcases kU.1 hy with hy | hy
  · have hm:=h.one y hy
    refine⟨hm.1,?_,?_⟩
    · split
      · rename_i e; rw [<- e]; omega
      · have:=hm.2.1; omega
    · split
      · rename_i e; rw [<- e]; omega
      · have:=hm.2.2; omega
  · rw [nL.1 hy]
    refine⟨h1,?_,?_⟩ <;> rw [aO rfl] <;> omega
theorem aeL{l:List bB}{c:aI}{fr l6 u:Int}(h:Da l dD all=true):Da (zT l dD all c fr l6 u) dD all=true:=by
  unfold zT
  split
  · rename_i hb
    have hs:oD l (D9 c fr l6 u) dD all=0:=jC hb;rw [DF] at h ⊢;refine⟨h.1.snoc hs,?_⟩;have:=(Y1 hs).2.2.1
    simp only [iO,oI,qx]; omega
  · exact h
theorem aeM{x:Lj}{c d:aI}{hv:Int}:∀(f:Nat)(l:List bB)(o:List aM),Da l x.dD x.all=true->Da (R8 x c d hv f (l,o)).1 x.dD x.all=true
  | 0,_,_,h=>h
  | f+1,l,o,h=>by
    unfold R8
    split
    · exact aeM f _ _ (aeL h)
    · exact h
theorem aeN{x:Lj}:∀(M:List eP)(s:List bB × List aM),Da s.1 x.dD x.all=true->Da (rA x M s).1 x.dD x.all=true
  | [],_,h=>h
  | n::M,s,h=>aeN M (aac x s n) (aeM 100 s.1 s.2 h)
theorem agP(m:dU)(s:iM)(r:ARules)(aN:Int)(h:Da s.bY r.l5 r.All=true):Da (qh m s r aN).bY r.l5 r.All=true:=by
  unfold qh
  split
  · have h1:Da (gY s aN).bY r.l5 r.All=true:=by
      rw [DF] at h ⊢;exact⟨h.1.fil _,by have:=(Kz s aN).1; omega⟩
    have h2:Da (DN m s r aN).1 r.l5 r.All=true:=aeN (x:=rdX m s r aN) _ _ h1;show Da (rdL m s r aN) r.l5 r.All=true;unfold rdL
    split
    · unfold QT
      split
      · exact aeL h2
      · exact h2
    · exact h2
  · exact h
structure HOk (h:xO):Prop where
  l:Rq h.l
  n:(h.l.length:Int)<=h.bJ
  r:h.bJ<=16
  d:∀ k,(uo k h.d).length<=4
  w:∀ x∈h.l,(uo ⟨x.aB,false⟩ h.d).length=4
theorem WG[DecidableEq κ](k k2:κ)(v:ν)(es:List (κ × ν)):fH k2 (gV k v es)=if k2=k then some v else fH k2 es:=by
  split
  · rename_i h; rw [h,Rt]
  · rename_i h; exact Eh h
def aeO(hs:ru):Prop:=∀ z h,fH z hs=some h->HOk h
def Ll(m:dU)(hs:ru):Prop:=∀ n∈m.aY,∃ h,fH n.ID hs=some h/\h.bJ=n.lW
theorem aeO.put(H:aeO hs)(hh:HOk h):aeO (gV z h hs):=λz2 h2 hg=>by
  rw [WG] at hg; split at hg
  · injection hg with hg; rw [<- hg]; exact hh
  · exact H z2 h2 hg
theorem Ll.put(H:Ll m hs){h0:xO}(hg:fH z hs=some h0)(hr:h.bJ=h0.bJ):Ll m (gV z h hs):=λn hn=>by
  obtain⟨h1,h2,h3⟩:=H n hn;rw [WG]; split
  · rename_i he; rw [he,hg] at h2; injection h2 with h2; exact⟨h,rfl,by rw [hr,h2]; exact h3⟩
  · exact⟨h1,h2,h3⟩
theorem HOk.take(H:HOk h)(c v sum:Int)(hd:gH.length=4):HOk ⟨h.up,h.bJ,KM h.l h.bJ c v sum gH,tkD h.l h.bJ c v sum gH h.d⟩:=by
  cases hb:XK h.l h.bJ c v sum gH with
  | false=>obtain⟨h1,h2⟩:=aBJ H.l hb (d:=h.d); rw [h1,h2]; exact⟨H.l,H.n,H.r,H.d,H.w⟩
  | true=>
    obtain⟨h1,h2,h3,h4⟩:=awH H.l hb (d:=h.d);refine⟨h1,h3,H.r,λk=>?_,λx hx=>?_⟩
    · show(uo k _).length<=4
      rw [h4]; split
      · decide
      · split
        · omega
        · exact H.d k
    · show(uo _ _).length=4
      rw [h4,aK av]
      rcases(h2 x).1 hx with rfl | ⟨hx,hc⟩
      · rw [aO rfl]; exact hd
      · rw [aK (by simp; exact hc)]; exact H.w x hx
theorem HOk.rmv(H:HOk h)(c:Int):HOk ⟨h.up,h.bJ,AJ h.l c,aaT h.l c h.d⟩:=by
  obtain⟨h1,h2,h3,h4⟩:=ar8 H.l c (d:=h.d);refine⟨h1,by have:=H.n; show((AJ h.l c).length:Int)<=h.bJ; omega,H.r,λk=>?_,λx hx=>?_⟩
  · rcases h4 k with e | ⟨_,e⟩
    · show(uo k _).length<=4; rw [e]; exact H.d k
    · show(uo k _).length<=4; rw [e]; decide
  · have hx':=(h2 x).1 hx
    rcases h4 ⟨x.aB,false⟩ with e | ⟨e,_⟩
    · show(uo _ _).length=4; rw [e]; exact H.w x hx'.1
    · injection e with e _; exact absurd e hx'.2
theorem apc:∀(q:List Int){h:xO},HOk h->HOk ⟨h.up,h.bJ,(q.foldl YN (h.l,h.d)).1,(q.foldl YN (h.l,h.d)).2⟩
  | [],h,H=>⟨H.l,H.n,H.r,H.d,H.w⟩
  | c::q,h,H=>by
    have:=apc q (H.rmv c);exact this
theorem ait(c bit:Int)(d:qP)(k:bV):(uo k (XL c bit d)).length=(uo k d).length:=by
  unfold XL; split
  · rfl
  · rw [PU]; split
    · rename_i h; rw [h]; unfold arB; rw [fQ]
    · rfl
theorem HOk.nil{up:Bool}{bJ:Int}(h0:0<=bJ)(h1:bJ<=16):HOk ⟨up,bJ,[],[]⟩:=
  ⟨⟨rfl,λx hx=>absurd hx av⟩,h0,h1,λk=>by show([]:List (BitVec 8)).length<=4; decide,λx hx=>absurd hx av⟩
theorem aeP(r:Int):0<=FJ r/\FJ r<=16:=by unfold FJ; split <;> split <;> omega
theorem ape{r:Int}(h:1<=r/\r<=16):FJ r=r:=by
  have h0:(if 0>r then(0:Int) else r)=r:=aK aj;unfold FJ; rw [h0,aK aj]
structure Inv (c:PC) (k:Nat):Prop where
  hm:qz c.m=true
  hr:nM c.r=true
  hb:c.s.dX.length<=k
  hl:Da c.s.bY c.r.l5 c.r.All=true
  hd:c.s.dM.length<=32*k
  hu:0<=c.aN/\c.aN<=100*k
  hw:c.dR.length<=300*k
  hz:aeO c.hs
  hN:Ll c.m c.hs
theorem Inv.ok(H:Inv c k)(hk:k<=1000):Ok c:=by
  have hl:=(DF.1 H.hl).2; have hbd:=(zA H.hr).2.2.2.1
  exact⟨H.hm,H.hr,by have:=H.hb; omega,aj,by have:=H.hd; omega,by have:=H.hu; omega,by have:=H.hw; omega,
    λz h hg=>⟨by have:=(H.hz z h hg).n; have:=(H.hz z h hg).r; omega,λk=>by have:=(H.hz z h hg).d k; omega⟩,
    λn hn=>by obtain⟨h,hg,_⟩:=H.hN n hn; rw [hg]; rfl⟩
theorem Inv.apf(H:Inv c k):c.s.bY.length<=64:=by
  have hl:=(DF.1 H.hl).2; have hbd:=(zA H.hr).2.2.2.1; omega
theorem Inv.mono{k2:Nat}(H:Inv c k)(h:k<=k2):Inv c k2:=
  ⟨H.hm,H.hr,by have:=H.hb; omega,H.hl,by have:=H.hd; omega,by have:=H.hu; omega,by have:=H.hw; omega,H.hz,H.hN⟩
theorem OKl.sub{l q:List bB}(h:OKl l dD)(hs:q.Sublist l):OKl q dD:=
  ⟨λx hx=>by
    have h1:=h.one x (hs.mem hx);have h2:sends q x.jw<=sends l x.jw:=hs.countP_le;have h3:takes q x.To<=takes l x.To:=hs.countP_le
    exact⟨h1.1,aj,aj⟩,h.dif.sublist hs⟩
theorem akO{l q:List bB}(h:Da l dD all=true)(hs:q.Sublist l):Da q dD all=true:=by
  have h1:=DF.1 h;exact DF.2 ⟨h1.1.sub hs,by have:=hs.length_le; omega⟩
theorem akP(l:List bB)(c t:Int):(yM l c t).Sublist l:=by
  unfold yM; split
  · exact List.nil_sublist _
  · rw [<- Md]; exact afc _ _
theorem J3(hm:qz m=true){x:gD}(h7:x.Kind≠7)(h0:x.Client=0)(h1:x.Kind≠1)(H:Ll m hs):Ll (AU m x) hs:=λn hn=>by
  rcases(asb hm h7 h0).2 with h | ⟨hk,_,_⟩ | ⟨n0,hk,hn0,hi,hs,hb,h⟩
  · rw [h] at hn; exact H n hn
  · exact absurd hk h1
  · rcases(h n).1 hn with rfl | ⟨hn,_⟩
    · exact H n0 hn0
    · exact H n hn
theorem Ru:∀(l:List gD){m:dU},qz m=true->(∀ x∈l,x.Kind≠7/\x.Client=0/\x.Kind≠1)->Ll m hs->Ll (FU m l) hs
  | [],m,_,_,H=>H
  | x::l,m,hm,hl,H=>by
    have hx:=hl x (List.mem_cons_self);exact Ru l (BI hm x) (λy hy=>hl y (Ve _ hy)) (J3 hm hx.1 hx.2.1 hx.2.2 H)
theorem Nk{s:iM}{aN n:Int}:∀(l:List gD){m:dU},qz m=true->(∀ x∈l,x.Kind≠7/\x.Client=0/\x.Kind≠1)->Ll m hs->Ll (oG s aN n m l) hs
  | [],m,_,_,H=>H
  | x::l,m,hm,hl,H=>by
    have hx:=hl x (List.mem_cons_self);show Ll (oG s aN n (aeg s aN n m x) l) hs;unfold aeg; split
    · exact Nk l (BI hm x) (λy hy=>hl y (Ve _ hy)) (J3 hm hx.1 hx.2.1 hx.2.2 H)
    · exact Nk l hm (λy hy=>hl y (Ve _ hy)) H
theorem akQ{s:iM}{r:ARules}{aN:Int}:∀ x∈qN m s r aN,x.Kind≠7/\x.Client=0/\x.Kind≠1:=by
  intro x hx; unfold qN at hx; split at hx
  · obtain⟨o,_,rfl⟩:=jI.1 hx; exact⟨by show(6:Int)≠7; decide,rfl,by show(6:Int)≠1; decide⟩
  · exact absurd hx av
theorem apg{cs:List aI}{n:Int}{l:List aH}:∀ x∈lS cs n l,x.Kind≠7/\x.Client=0/\x.Kind≠1:=by
  intro x hx; unfold lS at hx; split at hx
  · obtain⟨c,_,hc⟩:=List.mem_flatMap.1 hx
    unfold recC at hc
    split at hc
    · rw [nL.1 hc]; exact⟨by show(5:Int)≠7; decide,rfl,by show(5:Int)≠1; decide⟩
    · split at hc
      · rw [nL.1 hc]; exact⟨by show(6:Int)≠7; decide,rfl,by show(6:Int)≠1; decide⟩
      · exact absurd hc av
  · exact absurd hx av
theorem asc(H:Inv c k)(o:aM):Inv (mW c o) k:=by
  cases hf:fH o.jw c.hs with
  | none=>rw [aeh hf]; exact H
  | some f=>
  cases hb:(!f.up||Na c.s c.aN o.aB o.To) with
  | true=>rw [Px hf hb]; exact H
  | false=>
  by_cases hr:¬ ((xP f.l f.d o.aB).2.2=0/\(xP f.l f.d o.aB).2.1=o.aC/\((iV (xP f.l f.d o.aB).1).toNat:Int)=o.Sum)
  · rw [ah6 hf hr]; exact H
  replace hr:=Nj.1 hr;have hF:=H.hz _ _ hf;obtain⟨x,hx,bP,_,kK,_⟩:=aBK hF.l hr.1;have hd:(xP f.l f.d o.aB).1.length=4:=by rw [kK,<- bP]; exact hF.w x hx
  cases ht:fH o.To c.hs with
  | none=>
    have e:mW c o=c:=by unfold mW; rw [hf]; simp only; rw [aK (by rw [hb]; decide),aK (λh=>h hr),ht]
    rw [e]; exact H
  | some t=>
  have hT:=(H.hz _ _ ht).take o.aB (xP f.l f.d o.aB).2.1 o.Sum hd
  cases hk:XK t.l t.bJ o.aB (xP f.l f.d o.aB).2.1 o.Sum (xP f.l f.d o.aB).1 with
  | false=>rw [aei hf hb hr ht hk]; exact⟨H.hm,H.hr,H.hb,H.hl,H.hd,H.hu,H.hw,H.hz.put hT,H.hN.put ht rfl⟩
  | true=>
    rw [aej hf hb hr ht hk];refine⟨BI H.hm _,H.hr,H.hb,?_,H.hd,H.hu,H.hw,H.hz.put hT,(J3 H.hm (by show(5:Int)≠7; decide) rfl (by show(5:Int)≠1; decide) H.hN).put ht rfl⟩;show Da (if _ then _ else _) _ _=true
    split
    · exact akO H.hl (akP _ _ _)
    · exact H.hl
theorem ase(H:Inv c k)(o:aM):Inv (uq c o) k:=by
  by_cases h0:o.Kind=0
  · unfold uq; rw [aO h0]; exact asc H o
  cases ht:fH o.To c.hs with
  | none=>
            have e:uq c o=c:=by unfold uq; rw [aK h0,ht]
            rw [e]; exact H
  | some t=>
  cases hb:(eT t.l).any (agG o) with
  | false=>rw [aon h0 ht hb]; exact H
  | true=>rw [aek h0 ht hb]; exact⟨H.hm,H.hr,H.hb,H.hl,H.hd,H.hu,H.hw,H.hz.put ((H.hz _ _ ht).rmv _),H.hN.put ht rfl⟩
theorem abw(H:Inv c k){dR:List aM}(h:dR.length<=300*k):Inv { c with dR:=dR } k:=⟨H.hm,H.hr,H.hb,H.hl,H.hd,H.hu,h,H.hz,H.hN⟩
theorem asf(H:Inv c k)(it:AItem):Inv (mX c it).1 (k+1):=by
  have hw:=H.hw;unfold mX; split
  · exact H.mono aj
  · split
    · exact H.mono aj
    · split
      · exact abw (H.mono aj) (by rw [iO,abr]; omega)
      · have hn:(c.dR.take it.A.toNat++c.dR.drop (it.A.toNat+1)).length<=300*k:=by
          rw [iO,fE,kN]; omega
        show Inv (if _ then _ else _) _
        split
        · exact(ase (abw H hn) _).mono aj
        · exact(abw H hn).mono aj
theorem Rw{c v sum:Int}(hd:gH.length=4):∀(l:List Int){q:ru × List Int},aeO q.1->Ll m q.1->aeO (l.foldl (Nb c v sum gH) q).1/\Ll m (l.foldl (Nb c v sum gH) q).1
  | [],q,h1,h2=>⟨h1,h2⟩
  | z::l,q,h1,h2=>by
    rw [Ae]
    have:aeO (Nb c v sum gH q z).1/\Ll m (Nb c v sum gH q z).1:=by
      unfold Nb; split
      · exact⟨h1,h2⟩
      · rename_i h hg; exact⟨h1.put ((h1 _ _ hg).take c v sum hd),h2.put hg rfl⟩
    exact Rw hd l this.1 this.2
theorem aph{it:AItem}{v:Int}{l:List Int}:∀ x∈l.map (λz=>IC it.A z v),x.Kind≠7/\x.Client=0/\x.Kind≠1:=by
  intro x hx; obtain⟨z,_,rfl⟩:=jI.1 hx; exact⟨by show(5:Int)≠7; decide,rfl,by show(5:Int)≠1; decide⟩
theorem akR(m:dU)(it:AItem):(AX m it).Kind≠7/\(AX m it).Client=0/\(AX m it).Kind≠1:=by
  refine⟨?_,Y,?_⟩ <;> (show(if _ then(4:Int) else 3)≠_; split <;> decide)
theorem apj{x:gD}(h:¬ (dO m x).2<0):(dO m x).1=AU m x:=by unfold AU; rw [aK h]
theorem asg(H:Inv c k)(it:AItem):Inv (vB c it).1 k:=by
  have hd:(oh it.A it.B).length=4:=rfl;have hw:=akR c.m it;unfold vB; split
  · exact H
  · rename_i hp
    have hh:=Rw hd (c:=it.A) (v:=(dO c.m (AX c.m it)).2) (sum:=Rj it.A it.B) (m:=c.m) (agH c (dO c.m (AX c.m it)).1) (q:=(c.hs,[])) H.hz H.hN;have hh2:=Rw hd (c:=it.A) (v:=(dO c.m (AX c.m it)).2) (sum:=Rj it.A it.B) (m:=AU c.m (AX c.m it)) (agH c (dO c.m (AX c.m it)).1) (q:=(c.hs,[])) H.hz (J3 H.hm hw.1 hw.2.1 hw.2.2 H.hN)
    split
    · exact⟨H.hm,H.hr,H.hb,H.hl,H.hd,H.hu,H.hw,hh.1,hh.2⟩
    · have hN:Ll (FU (dO c.m (AX c.m it)).1 ((XP c it).2.map λz=>IC it.A z (dO c.m (AX c.m it)).2)) (XP c it).1:=by
        rw [apj hp]; exact Ru _ (BI H.hm _) aph hh2.2
      exact⟨by show qz (FU _ _)=true; rw [apj hp]; exact TB (BI H.hm _) _,H.hr,H.hb,H.hl,H.hd,H.hu,H.hw,hh2.1,hN⟩
theorem apk(l:List eZ)(n aN:Int):(ze l n aN).length<=l.length+1:=by
  have hb:=Fh l;unfold ze; split
  · split
    · split
      · rw [fQ]; omega
      · simp
    · rw [iO,iO,abr,fE,kN]; omega
  · omega
theorem apl(hm:qz m=true)(s:iM)(r:ARules)(aN:Int):(qh m s r aN).dM.length<=s.dM.length+32:=by
  have h:=aeo m s r aN; have hs:=(zq (nG.1 hm).2.1).1;unfold qh; unfold qN at h
  split
  · rename_i hb; rw [aO hb,jN] at h
    show((gY s aN).dM++Fz m s r aN).length<=_;have:(gY s aN).dM.length<=s.dM.length:=lX _ _;rw [iO]; omega
  · omega
theorem akS(m:dU)(s:iM)(r:ARules)(aN:Int):(qh m s r aN).dX=s.dX:=by unfold qh; split <;> rfl
theorem ash(H:Inv c k):Inv (av4 c) (k+1):=by
  have hs:=(zq (nG.1 H.hm).2.1).1;refine⟨TB H.hm _,H.hr,?_,agP _ _ _ _ H.hl,?_,by have:=H.hu; exact⟨this.1,by show c.aN<=_; omega⟩,?_,H.hz,Ru _ H.hm akQ H.hN⟩
  · show(qh _ _ _ _).dX.length<=_; rw [akS]; have:=H.hb; omega
  · have:=apl H.hm c.s c.r c.aN; have:=H.hd; show(qh _ _ _ _).dM.length<=_; omega
  · show(c.dR++xY _ _ _ _).length<=_
    have:=aep (m:=c.m) (r:=c.r) (aN:=c.aN) H.apf; have:=H.hw;rw [iO]; omega
abbrev HZ(gJ:dU)(iK:AItem):=nR gJ.aY ⟨iK.A,iK.B,iK.C,0⟩
theorem awI(hm:qz m=true)(it:AItem) :
    (knE m (Py it)=0/\(AU m (Py it)).aA=m.aA/\(∀ y,y∈(AU m (Py it)).aY↔y=⟨it.A,it.B,it.C,0⟩∨y∈m.aY)/\Iw ⟨it.A,it.B,it.C,0⟩=true/\∀ n∈m.aY,n.ID≠it.A)∨(knE m (Py it)≠0/\AU m (Py it)=m):=by
  have hn:=(nG.1 hm).1
  have e:dO m (Py it)=(⟨if(HZ m it).2=0 then(HZ m it).1 else m.aY,m.aA,m.aQ⟩,QY (HZ m it).2 0):=by
    unfold dO; rw [aK (by rw [hm]; decide),aO (show(Py it).Client=0 from rfl)]; rfl
  unfold knE AU; rw [e]
  by_cases h0:(HZ m it).2=0
  · rcases MX hn ⟨it.A,it.B,it.C,0⟩ with h | ⟨h,hm',h2⟩
    · exact absurd h0 h
    · left
      have e2:QY (HZ m it).2 0=0:=by rw [h0]; rfl
      simp only; rw [e2,aO h0,aK au,aK au]
      exact⟨Y,Y,h2,(yH.1 hm').2 _ ((h2 _).2 (.inl Y)),λn hn' he=>aeK hn ⟨n,hn',he⟩ h0⟩
  · right
    have e2:QY (HZ m it).2 0<0:=by
      have:=(arh m (Py it)).1;have e3:(EN m (Py it)).2.2.1=(HZ m it).2:=rfl;rw [e3] at this;unfold QY; rw [aO h0]; omega
    simp only; rw [aO e2,aO e2]
    exact⟨aj,rfl⟩
theorem asi(H:Inv c k)(it:AItem):Inv (av3 c it).1 k:=by
  have hN:Ll (AU c.m (Py it)) (if knE c.m (Py it)=0 then gV it.A ⟨true,FJ it.C,[],[]⟩ c.hs else c.hs):=by
    rcases awI H.hm it with ⟨h0,_,h2,h3,h4⟩ | ⟨h0,h1⟩
    · rw [aO h0]
      intro n hn
      rcases(h2 n).1 hn with rfl | hn'
      · refine⟨_,Rt _ _ _,?_⟩
        simp only [Iw,bK,bL] at h3
        exact ape aj
      · obtain⟨h,hg,hr⟩:=H.hN n hn'
        exact⟨h,by rw [WG,aK (h4 n hn')]; exact hg,hr⟩
    · rw [aK h0,h1]; exact H.hN
  refine⟨BI H.hm _,H.hr,H.hb,H.hl,H.hd,H.hu,H.hw,?_,hN⟩;show aeO (if _ then _ else _)
  split
  · exact H.hz.put (.nil (aeP _).1 (aeP _).2)
  · exact H.hz
theorem asj(H:Inv c k)(it:AItem)(hg:fH it.A c.hs=some h):Inv (av5 c it h) (k+1):=by
  refine⟨PN H.hm _,H.hr,by have:=H.hb; show c.s.dX.length<=_; omega,H.hl,by have:=H.hd; show c.s.dM.length<=_; omega,by have:=H.hu; exact⟨this.1,by show c.aN<=_; omega⟩,?_,H.hz,Nk _ H.hm apg H.hN⟩;show(c.dR++y7 _ _ _ _).length<=_
  have h1:(y7 (eT h.l) (nX (oG c.s c.aN it.A c.m (lS c.m.aA it.A (eT h.l))).aA (eT h.l)) it.A (c.aN+c.r.jy)).length<=h.l.length:=by
    unfold y7; rw [jN]; exact lG (lX _ _) (KH _)
  have:=(H.hz _ _ hg).n; have:=(H.hz _ _ hg).r; have:=H.hw;rw [iO]; omega
theorem awJ(H:Inv c k){h2:xO}(hg:fH z c.hs=some h)(hh:HOk h2)(hr:h2.bJ=h.bJ):Inv { c with hs:=gV z h2 c.hs } k:=
  ⟨H.hm,H.hr,H.hb,H.hl,H.hd,H.hu,H.hw,H.hz.put hh,H.hN.put hg hr⟩
theorem PV(H:Inv c k){h2:xO}(hg:fH z c.hs=some h)(hh:HOk h2)(hr:h2.bJ=h.bJ):Inv { c with hs:=gV z h2 c.hs } (k+1):=(awJ H hg hh hr).mono (Y2 k)
theorem awK(H:Inv c k)(it:AItem)(hg:fH it.A c.hs=some h):Inv (YO c it h).1 (k+1):=by
  have hh:=H.hz _ _ hg;unfold YO
  split
  · exact⟨H.hm,H.hr,by have:=apk c.s.dX it.A c.aN; have:=H.hb; show(ze _ _ _).length<=_; omega,H.hl,by have:=H.hd; show c.s.dM.length<=_; omega,by have:=H.hu; exact⟨this.1,by show c.aN<=_; omega⟩,by have:=H.hw; show c.dR.length<=_; omega,H.hz,H.hN⟩
  split
  · exact asj H it hg
  split
  · exact PV H hg ⟨hh.l,hh.n,hh.r,hh.d,hh.w⟩ Y
  split
  · rw [ao7 hh.l]; exact PV H hg ⟨hh.l,hh.n,hh.r,hh.d,hh.w⟩ rfl
  split
  · exact PV H hg (apc _ hh) Y
  split
  · exact PV H hg (h2:={ h with d:=XL it.B it.C h.d }) ⟨hh.l,hh.n,hh.r,λk=>by show(uo _ (XL _ _ _)).length<=4; rw [ait]; exact hh.d k,λx hx=>by show(uo _ (XL _ _ _)).length=4; rw [ait]; exact hh.w x hx⟩ rfl
  · exact PV H hg (.nil (by have:=hh.n; omega) hh.r) rfl
theorem J4(H:Inv c k)(it:AItem):Inv (ES c it).1 (k+1):=by
  unfold ES
  split
  · split
    · exact H.mono aj
    · have:=H.mono (Y2 k)
      refine⟨this.hm,this.hr,this.hb,this.hl,this.hd,?_,this.hw,this.hz,this.hN⟩;have:=H.hu; show 0<=c.aN+it.A/\c.aN+it.A<=_; omega
  split
  · exact(asi H it).mono aj
  split
  · exact((⟨BI H.hm _,H.hr,H.hb,H.hl,H.hd,H.hu,H.hw,H.hz,J3 H.hm (by show(2:Int)≠7; decide) rfl (by show(2:Int)≠1; decide) H.hN⟩:Inv { c with m:=AU c.m ⟨0,0,2,it.A,it.B,0⟩ } k)).mono aj
  split
  · exact ash H
  split
  · exact asf H it
  split
  · exact(asg H it).mono aj
  split
  · exact H.mono aj
  split
  · exact H.mono aj
  · rename_i h hg
    split
    · exact H.mono aj
    · exact awK H it hg
def agQ(c:PC)(l:List AItem):PC:=l.foldl (λc it=>(ES c it).1) c
theorem aiu:∀(l:List AItem){c:PC}{k:Nat},Inv c k->Inv (agQ c l) (k+l.length)
  | [],c,k,H=>H
  | it::l,c,k,H=>by
    have:=aiu l (J4 H it);rw [show k+(it::l).length=k+1+l.length by rw [oI]; omega]; exact this
theorem akT(c:PC)(l:List AItem)(it:AItem):agQ c (l++[it])=(ES (agQ c l) it).1:=by unfold agQ; rw [xD]; rfl
theorem apm(H:Inv c k){n:aW}(hn:n∈c.m.aY):(aaU c.hs n.ID:Int)<=n.lW:=by
  obtain⟨h,hg,hr⟩:=H.hN n hn;unfold aaU; rw [hg]; have:=(H.hz _ _ hg).n; show(h.l.length:Int)<=_; omega
def pc0(r:ARules):PC:=⟨⟨[],[],[]⟩,⟨[],[],[]⟩,r,0,[],[]⟩
theorem atB{r:ARules}(h:nM r=true):Inv (pc0 r) 0:=by
  have hbd:=(zA h).2.2.2.1;refine⟨anA,h,kH _,?_,kH _,⟨Di _,Di _⟩,kH _,λz h hg=>?_,λn hn=>?_⟩
  · refine DF.2 ⟨⟨λx hx=>absurd hx (by simp [pc0]),List.Pairwise.nil⟩,?_⟩
    show(0:Int)<=r.All; omega
  · exact absurd hg (by simp [pc0,fH])
  · exact absurd hn (by simp [pc0])
theorem aBL(c:PC)(o:aM):(mW c o).r=c.r:=by
  unfold mW; split
  · rfl
  split
  · rfl
  split
  · rfl
  split
  · rfl
  split <;> rfl
theorem aBM(c:PC)(o:aM):(uq c o).r=c.r:=by
  unfold uq; split
  · exact aBL c o
  split
  · rfl
  split <;> rfl
theorem aBN(c:PC)(it:AItem):(ES c it).1.r=c.r:=by
  unfold ES
  split
  · split <;> rfl
  split
  · rfl
  split
  · rfl
  split
  · rfl
  split
  · unfold mX; split
    · rfl
    split
    · rfl
    split
    · rfl
    · show(if _ then _ else _:PC).r=_
      split
      · exact aBM { c with dR:=c.dR.take it.A.toNat++c.dR.drop (it.A.toNat+1) } _
      · rfl
  split
  · unfold vB; split
    · rfl
    split <;> rfl
  split
  · rfl
  split
  · rfl
  split
  · rfl
  · unfold YO
    split
    · rfl
    split
    · rfl
    split
    · rfl
    split
    · rfl
    split
    · rfl
    split <;> rfl
theorem atC:∀(l:List AItem)(c:PC),(agQ c l).r=c.r
  | [],c=>rfl
  | it::l,c=>(atC l (ES c it).1).trans (aBN c it)
theorem asl{r:ARules}(hr:nM r=true){l:List AItem}(hk:k<=l.length):Inv (agQ (pc0 r) (l.take k)) k:=by
  have:=aiu (l.take k) (atB hr)
  rwa [fE,Eu hk,Ia] at this
end Go.Proofs.YtlhnnmlenkahlaaGreat
