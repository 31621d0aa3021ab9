/- Lemmas. -/
import Derived.Test.YtlhnnmlenkahlaaGreatrG30
import Derived.Test.YtlhnnmlenkahlaaGreatrG33
import Derived.Test.YtlhnnmlenkahlaaGreatrG37
set_option maxRecDepth 4000
set_option linter.all false
namespace Go.Proofs.YtlhnnmlenkahlaaGreat
open Go.RowKit Go.Proofs.Tryz
theorem ahu(x z:BitVec 32)(hz:z <<< 4 >>> 4=z):RD (x ^^^ z <<< 4)=RD x ^^^ z:=by
  unfold RD
  have h1:(x ^^^ z <<< 4)&&& 15#32=x&&& 15#32:=by
    rw [BitVec.and_comm,BitVec.and_comm x];apply BitVec.eq_of_getLsbD_eq;intro i hi
    simp only [BitVec.getLsbD_and,BitVec.getLsbD_xor,BitVec.getLsbD_shiftLeft]
    by_cases h:i<4
    · simp [h]
    · have:(15#32).getLsbD i=false:=by
        have:(15#32).toNat.testBit i=false:=Nat.testBit_lt_two_pow (Sr (show(15#32).toNat<2 ^ 4 by decide) (Nat.pow_le_pow_right au aj));exact this
      rw [this]; simp
  rw [h1,BitVec.ushiftRight_xor_distrib,hz,BitVec.xor_assoc]
def Vl(x:BitVec 32):BitVec 32:=RD (RD x)
theorem as4(x z:BitVec 32)(hz:z <<< 8 >>> 8=z)(h4:z <<< 4 >>> 4=z)(h8:(z <<< 4) <<< 4 >>> 4=z <<< 4):Vl (x ^^^ z <<< 8)=Vl x ^^^ z:=by
  unfold Vl;rw [show z <<< 8=(z <<< 4) <<< 4 from by rw [<- BitVec.shiftLeft_add],ahu x (z <<< 4) h8,ahu _ _ h4]
theorem Nh{z:BitVec 32}{k:Nat}(h:z.toNat<2 ^ (32 - k))(hk:k<=32):z <<< k >>> k=z:=by
  apply BitVec.eq_of_toNat_eq;rw [ajj,ajl,Yy,ajk];have e:2 ^ (32 - k)*2 ^ k=2 ^ 32:=by rw [<- Nat.pow_add]; congr 1; omega
  have hlt:z.toNat*2 ^ k<2 ^ 32:=by
    have:=Nat.mul_lt_mul_of_pos_right h (Nat.two_pow_pos k);omega
  rw [abS hlt,Nat.mul_div_cancel _ (Nat.two_pow_pos k)]
theorem alu{z:BitVec 32}{a k:Nat}(h:z.toNat<2 ^ a)(hk:a+k<=32):(z <<< k).toNat<2 ^ (a+k):=by
  rw [ajl,Yy];have:z.toNat*2 ^ k<2 ^ (a+k):=by rw [Nat.pow_add]; exact Nat.mul_lt_mul_of_pos_right h (Nat.two_pow_pos k)
  exact abM (Nat.mod_le _ _) this
theorem Ob(x z:BitVec 32){a:Nat}(h:z.toNat<2 ^ a)(ha:a<=24):Vl x ^^^ z=Vl (x ^^^ z <<< 8):=by
  have hp:∀ n,a<=n->z.toNat<2 ^ n:=λn hn=>Sr h (Nat.pow_le_pow_right au hn);refine(as4 x z (Nh (hp _ aj) au) (Nh (hp _ aj) au) (Nh ?_ au)).symm;have:=alu (k:=4) h aj;exact Sr this (Nat.pow_le_pow_right au aj)
theorem Si{x y:BitVec 32}(h:Vl x=Vl y):x=y:=ahr (ahr h)
abbrev b32(b:BitVec 8):BitVec 32:=b.setWidth 32
theorem ajJ(b:BitVec 8):(b32 b).toNat<2 ^ 8:=by
  show(b.setWidth 32).toNat<2 ^ 8;rw [BitVec.toNat_setWidth];exact abM (Nat.mod_le _ _) b.isLt
def abB(a b c d:BitVec 8):BitVec 32:=b32 a ^^^ b32 b <<< 8 ^^^ (b32 c <<< 8) <<< 8 ^^^ ((b32 d <<< 8) <<< 8) <<< 8
theorem aeg(x:BitVec 32)(b:BitVec 8):zH x b=Vl (x ^^^ b32 b):=rfl
theorem ax8(x:BitVec 32)(a b c d:BitVec 8):[a,b,c,d].foldl zH x=Vl (Vl (Vl (Vl (x ^^^ abB a b c d)))):=by
  have hb:=ajJ b; have hc:=ajJ c; have hd:=ajJ d;have hc2:=alu (k:=8) hc au; have hd2:=alu (k:=8) hd au; have hd3:=alu (k:=8) hd2 au;have e:x ^^^ abB a b c d=x ^^^ b32 a ^^^ b32 b <<< 8 ^^^ (b32 c <<< 8) <<< 8 ^^^ ((b32 d <<< 8) <<< 8) <<< 8:=by unfold abB; simp only [BitVec.xor_assoc]
  rw [e,sK,sK,sK,sK,List.foldl_nil,aeg,aeg,aeg,aeg]
  generalize b32 a=a at *
  revert hb hc hd hc2 hd2 hd3
  generalize b32 b=b; generalize b32 c=c; generalize b32 d=d
  intro hb hc hd hc2 hd2 hd3;rw [Ob (x ^^^ a) b hb au,Ob _ c hc au,Ob _ (c <<< 8) hc2 au,Ob _ d hd au,Ob _ (d <<< 8) hd2 au,Ob _ (d <<< 8 <<< 8) hd3 au]
theorem abC(a b c d:BitVec 8):(abB a b c d).toNat=a.toNat+2 ^ 8*b.toNat+2 ^ 16*c.toNat+2 ^ 24*d.toNat:=by
  have ha:=a.isLt; have hb:=b.isLt; have hc:=c.isLt; have hd:=d.isLt
  have e:abB a b c d=(d++c++b++a):=by
    unfold abB b32;apply BitVec.eq_of_getLsbD_eq;intro i hi
    simp only [BitVec.getLsbD_xor,BitVec.getLsbD_shiftLeft,BitVec.getLsbD_setWidth,BitVec.getLsbD_append]
    have hbig:∀(v:BitVec 8)(j:Nat),8<=j->v.getLsbD j=false:=λv j hj=>BitVec.getLsbD_of_ge v j hj
    rcases(show i<8∨(8<=i/\i<16)∨(16<=i/\i<24)∨24<=i by omega) with h | ⟨h,h2⟩ | ⟨h,h2⟩ | h
    · simp [h,hi,show i<16 by omega,show i<24 by omega]
    · simp [hi,h,h2,show ¬ i<8 by omega,show i - 8<8 by omega,show i<24 by omega,hbig a i h,show i - 8<32 by omega]
    · simp [hi,h,h2,show ¬ i<8 by omega,show ¬ i - 8<8 by omega,show i - 8 - 8<8 by omega,hbig a i aj,hbig b (i - 8) aj,show i - 8<32 by omega,show i - 8 - 8<32 by omega]
    · simp [hi,h,show ¬ i<8 by omega,show ¬ i - 8<8 by omega,show ¬ i - 8 - 8<8 by omega,hbig a i aj,hbig b (i - 8) aj,hbig c (i - 8 - 8) aj,show i - 8<32 by omega,show i - 8 - 8<32 by omega,show i - 8 - 8 - 8<32 by omega]
  rw [e]
  simp only [BitVec.toNat_append,Yy]
  have o1:∀(x y n:Nat),y<2 ^ n->x*2 ^ n||| y=x*2 ^ n+y:=λx y n h=>by rw [<- Yy,Nat.shiftLeft_add_eq_or_of_lt h]
  rw [o1 _ _ 8 hc,o1 _ _ 8 hb,o1 _ _ 8 ha];omega
theorem as5{l q:List (BitVec 8)}(hl:l.length=4)(hq:q.length=4)(h:iM l=iM q):l=q:=by
  match l,q,hl,hq with
  | [a,b,c,d],[a2,b2,c2,d2],_,_=>
    unfold iM RF at h
    have h1:[a,b,c,d].foldl zH (~~~ 0#32)=[a2,b2,c2,d2].foldl zH (~~~ 0#32):=by
      have:=aR (λx=>~~~ x) h; simpa using this
    rw [ax8,ax8] at h1;have h2:=als (Si (Si (Si (Si h1))));have h3:=aR BitVec.toNat h2;rw [abC,abC] at h3;have:=a.isLt; have:=b.isLt; have:=c.isLt; have:=d.isLt; have:=a2.isLt; have:=b2.isLt; have:=c2.isLt; have:=d2.isLt;have e1:a.toNat=a2.toNat:=aj;have e2:b.toNat=b2.toNat:=aj;have e3:c.toNat=c2.toNat:=aj;have e4:d.toNat=d2.toNat:=aj;rw [BitVec.eq_of_toNat_eq e1,BitVec.eq_of_toNat_eq e2,BitVec.eq_of_toNat_eq e3,BitVec.eq_of_toNat_eq e4]
def sZ(l q:List aH):Prop:=(∀ x∈l,∃ y∈q,y.ID=x.ID/\y.aB=x.aB/\y.Sum=x.Sum)/\∀ y∈q,∃ x∈l,y.ID=x.ID/\y.aB=x.aB/\y.Sum=x.Sum
theorem sZ.rfl'(l:List aH):sZ l l:=⟨λx hx=>⟨x,hx,rfl,rfl,rfl⟩,λx hx=>⟨x,hx,rfl,rfl,rfl⟩⟩
theorem sZ.trans{a b c:List aH}(h1:sZ a b)(h2:sZ b c):sZ a c:=
  ⟨λx hx=>by
    obtain⟨y,hy,a1,a2,a3⟩:=h1.1 x hx; obtain⟨z,hz,b1,b2,b3⟩:=h2.1 y hy
    exact⟨z,hz,b1.trans a1,b2.trans a2,b3.trans a3⟩,λz hz=>by
    obtain⟨y,hy,b1,b2,b3⟩:=h2.2 z hz; obtain⟨x,hx,a1,a2,a3⟩:=h1.2 y hy
    exact⟨x,hx,b1.trans a1,b2.trans a2,b3.trans a3⟩⟩
theorem abD{l q:List aH}{c:aH}{H:List Int}{id:Int}(hc:c∈l)(hi:c.ID=id)(hu:∀ x∈l,x.ID=id->x=c)(h:∀ y,y∈q↔y=⟨c.ID,c.aB,c.Sum,H⟩∨(y∈l/\y.ID≠id)):sZ l q:=
  ⟨λx hx=>by
    by_cases he:x.ID=id
    · have:=hu x hx he; subst this; exact⟨_,(h _).2 (.inl rfl),rfl,rfl,rfl⟩
    · exact⟨x,(h x).2 (.inr ⟨hx,he⟩),Y,Y,Y⟩,λy hy=>by
    rcases(h y).1 hy with rfl | ⟨hy,_⟩
    · exact⟨c,hc,Y,Y,Y⟩
    · exact⟨y,hy,Y,Y,Y⟩⟩
theorem Au{m:dF}(hm:mD m=true){x:fV}(h0:x.Client=0)(hk:x.Kind=1∨x.Kind=2∨x.Kind=5∨x.Kind=6):sZ m.aA (uD m x).aA:=by
  have hu:=wD (iU.1 hm).2.1
  rcases(BK hm aj h0).1 with h | ⟨hk',_,_,_⟩ | ⟨c,hk',_,_,_⟩ | ⟨c,H,_,hc,hi,_,_,_,_,_,h⟩ | ⟨c,H,_,hc,hi,_,_,_,h⟩
  · rw [h]; exact .rfl' _
  · omega
  · omega
  · exact abD hc hi (λx hx he=>uQ hu hx hc (he.trans hi.symm)) h
  · exact abD hc hi (λx hx he=>uQ hu hx hc (he.trans hi.symm)) h
theorem Ip:∀(l:List fV){m:dF},mD m=true->(∀ x∈l,x.Client=0/\(x.Kind=1∨x.Kind=2∨x.Kind=5∨x.Kind=6))->sZ m.aA (AP m l).aA
  | [],m,_,_=>.rfl' _
  | x::l,m,hm,hl=>by
    have hx:=hl x (qF);exact(Au hm hx.1 hx.2).trans (Ip l (mY hm x) (λy hy=>hl y (ou _ hy)))
theorem J4{s:iF}{aN n:Int}:∀(l:List fV){m:dF},mD m=true->(∀ x∈l,x.Client=0/\(x.Kind=1∨x.Kind=2∨x.Kind=5∨x.Kind=6))->sZ m.aA (mW s aN n m l).aA
  | [],m,_,_=>.rfl' _
  | x::l,m,hm,hl=>by
    have hx:=hl x (qF);show sZ m.aA (mW s aN n (KG s aN n m x) l).aA;unfold KG; split
    · exact(Au hm hx.1 hx.2).trans (J4 l (mY hm x) (λy hy=>hl y (ou _ hy)))
    · exact J4 l hm (λy hy=>hl y (ou _ hy))
theorem alv{m:dF}{s:iF}{r:ARules}{aN:Int}:∀ x∈nY m s r aN,x.Client=0/\(x.Kind=1∨x.Kind=2∨x.Kind=5∨x.Kind=6):=by
  intro x hx; unfold nY at hx; split at hx
  · obtain⟨o,_,rfl⟩:=gQ.1 hx; exact⟨rfl,.inr (.inr (.inr rfl))⟩
  · exact absurd hx av
theorem alx{cs:List aH}{n:Int}{l:List aI}:∀ x∈lg cs n l,x.Client=0/\(x.Kind=1∨x.Kind=2∨x.Kind=5∨x.Kind=6):=by
  intro x hx; unfold lg at hx; split at hx
  · obtain⟨c,_,hc⟩:=SQ.1 hx
    unfold recC at hc
    split at hc
    · rw [j4.1 hc]; exact⟨rfl,.inr (.inr (.inl rfl))⟩
    · split at hc
      · rw [j4.1 hc]; exact⟨rfl,.inr (.inr (.inr rfl))⟩
      · exact absurd hc av
  · exact absurd hx av
theorem as6{it:AItem}{v:Int}{l:List Int}:∀ x∈l.map (λz=>y7 it.A z v),x.Client=0/\(x.Kind=1∨x.Kind=2∨x.Kind=5∨x.Kind=6):=by
  intro x hx; obtain⟨z,_,rfl⟩:=gQ.1 hx; exact⟨rfl,.inr (.inr (.inl rfl))⟩
theorem aly{m:dF}(hm:mD m=true){x:fV}(hk:x.Kind=3∨x.Kind=4)(h0:x.Client=0)(hp:¬ (dD m x).2<0) :
    (dD m x).1.aT=m.aT/\∃ v,(dD m x).2=v/\1<=v/\v<=1073741824/\(∀ y,y∈(dD m x).1.aA↔y=⟨x.A,v,x.B,[]⟩∨(y∈m.aA/\y.ID≠x.A))/\(1<=x.A/\x.A<=1048576)/\
      ((v=1/\∀ y∈m.aA,y.ID≠x.A)∨∃ c∈m.aA,c.ID=x.A/\v=c.aB+1):=by
  have hc:=(iU.1 hm).2.1;have hmay:=Ez hm x;have e:dD m x=nT m x:=by unfold dD; rw [aK (by rw [hm]; decide),aO h0]
  rw [e] at hp hmay ⊢;have he:=akI m x
  have hz:(xJ m x).2.2.1=0:=by
    by_cases hz:(xJ m x).2.2.1=0
    · exact hz
    · exfalso; apply hp; show Gy (xJ m x).2.2.1 _<0; unfold Gy; rw [aO hz]; omega
  have hv:(nT m x).2=(xJ m x).2.2.2:=by show Gy (xJ m x).2.2.1 _=_; unfold Gy; rw [aK aj]
  have hcm:=(iU.1 hmay).2.1
  have key:∀(l:List aH)(v:Int),(xJ m x).1=m.aT->(xJ m x).2.1=l->(xJ m x).2.2.2=(aU l x.A).aB->(∀ y,y∈l↔y=⟨x.A,v,x.B,[]⟩∨(y∈m.aA/\y.ID≠x.A))->(nT m x).2=v/\1<=v/\v<=1073741824:=by
    intro l v h1 h2 h3 h4;have hcl:kR l=true:=by rw [<- h2]; exact hcm
    have h5:(⟨x.A,v,x.B,[]⟩:aH)∈l:=(h4 _).2 (.inl rfl);have h6:=aht hcl h5;have h7:=(kF.1 hcl).1 _ h5;unfold qx at h7; simp at h7;refine⟨by rw [hv,h3]; exact aR aH.aB h6,h7.1.1,h7.1.2⟩
  rcases hk with hk | hk
  · have e1:xJ m x=(m.aT,(um eB m.aA x).1,(um eB m.aA x).2.1,(um eB m.aA x).2.2):=by
      unfold xJ; rw [aK aj,aK aj,aK aj,aO hk]
    have hz':(um eB m.aA x).2.1=0:=by rw [e1] at hz; exact hz
    have en:(nT m x).1.aT=m.aT:=by show(xJ m x).1=_; rw [e1]
    by_cases hr:x.B<0∨4294967295<x.B
    · unfold um at hz'; rw [aO hr] at hz'; exact absurd (show(1:Int)=0 from hz') au
    have ew:um eB m.aA x=(if(eB m.aA x.A x.B).2=0 then(eB m.aA x.A x.B).1 else m.aA,(eB m.aA x.A x.B).2,(aU (if(eB m.aA x.A x.B).2=0 then(eB m.aA x.A x.B).1 else m.aA) x.A).aB):=by
      unfold um; rw [aK hr,VZ hr]
    have hz2:(eB m.aA x.A x.B).2=0:=by rw [ew] at hz'; exact hz'
    rcases Dq m.aA x.A x.B with h | ⟨ha,hb,hf,hlen,h⟩
    · exact absurd hz2 h.2
    have hno:∀ y∈m.aA,y.ID≠x.A:=λy hy he=>by
      have:=(zR hc).2 ⟨y,hy,he⟩; rw [hf] at this; exact absurd this au
    have hmem:∀ y,y∈(eB m.aA x.A x.B).1↔y=⟨x.A,1,x.B,[]⟩∨(y∈m.aA/\y.ID≠x.A):=by
      intro y; rw [h,ahh hc]; refine(Ab _).trans (or_congr Iff.rfl ⟨λh=>⟨h,hno y h⟩,λh=>h.1⟩)
    have e2:(xJ m x).2.1=(eB m.aA x.A x.B).1:=by rw [e1,ew,aO hz2]
    have hk:=key _ 1 (by rw [e1]) e2 (by rw [e1,ew,aO hz2]) hmem;exact⟨en,1,hk.1,hk.2.1,hk.2.2,by show ∀ y,y∈(xJ m x).2.1↔_; rw [e2]; exact hmem,⟨ha,hb⟩,.inl ⟨rfl,hno⟩⟩
  · have e1:xJ m x=(m.aT,(um (λl id sum=>gy l id (dB sum)) m.aA x).1,(um (λl id sum=>gy l id (dB sum)) m.aA x).2.1,(um (λl id sum=>gy l id (dB sum)) m.aA x).2.2):=by
      unfold xJ; rw [aK aj,aK aj,aK aj,aK aj,aO hk]
    have hz':(um (λl id sum=>gy l id (dB sum)) m.aA x).2.1=0:=by rw [e1] at hz; exact hz
    have en:(nT m x).1.aT=m.aT:=by show(xJ m x).1=_; rw [e1]
    by_cases hr:x.B<0∨4294967295<x.B
    · unfold um at hz'; rw [aO hr] at hz'; exact absurd (show(1:Int)=0 from hz') au
    have ew:um (λl id sum=>gy l id (dB sum)) m.aA x=(if(gy m.aA x.A (dB x.B)).2=0 then(gy m.aA x.A (dB x.B)).1 else m.aA,(gy m.aA x.A (dB x.B)).2,(aU (if(gy m.aA x.A (dB x.B)).2=0 then(gy m.aA x.A (dB x.B)).1 else m.aA) x.A).aB):=by
      unfold um; rw [aK hr,VZ hr]
    have hz2:(gy m.aA x.A (dB x.B)).2=0:=by rw [ew] at hz'; exact hz'
    obtain⟨hb,hz3,hmem⟩:=VY hc (yQ x.B) hz2;have hin:=BD hc hb; have hid:=R9 hc hb;have hw:=Nu ((kF.1 hc).1 _ hin) hz3;rw [hw.1,hid] at hmem;have e2:(xJ m x).2.1=(gy m.aA x.A (dB x.B)).1:=by rw [e1,ew,aO hz2]
    have hk:=key _ ((aU m.aA x.A).aB+1) (by rw [e1]) e2 (by rw [e1,ew,aO hz2]) hmem
    have aIS:1<=x.A/\x.A<=1048576:=by
      have:=(zn _ _).1 (kF.1 hc).2.2;exact this.2 x.A (gQ.2 ⟨_,hin,hid⟩)
    exact⟨en,_,hk.1,hk.2.1,hk.2.2,by show ∀ y,y∈(xJ m x).2.1↔_; rw [e2]; exact hmem,aIS,.inr ⟨_,hin,hid,rfl⟩⟩
def EP(l:List aH)(z:Int):Option Int->Prop
  | none=>∀ x∈l,x.ID≠z
  | some n=>∃ x∈l,x.ID=z/\x.Sum=E9 z n
theorem EP.same{l q:List aH}{z:Int}{o:Option Int}(h:EP l z o)(hs:sZ l q):EP q z o:=by
  cases o with
  | none=>intro y hy he; obtain⟨x,hx,h1,_,_⟩:=hs.2 y hy; exact h x hx (h1.symm.trans he)
  | some n=>obtain⟨x,hx,h1,h2⟩:=h; obtain⟨y,hy,a1,_,a3⟩:=hs.1 x hx; exact⟨y,hy,a1.trans h1,a3.trans h2⟩
def ahv(c:PC)(z:Int)(o:Option Int)(it:AItem):Option Int:=if it.Kind=11/\it.A=z/\(AU c it).2=0 then some it.B else o
theorem awI{c:PC}{k:Nat}(H:Inv c k)(it:AItem)(z:Int)(o:Option Int)(h:EP c.m.aA z o) :
    EP (rC c it).1.m.aA z (if it.A=z/\(rC c it).2=0 then some it.B else o):=by
  have hw:=Oa c.m it;have hk:(rO c.m it).Kind=3∨(rO c.m it).Kind=4:=by show(if _ then(4:Int) else 3)=3∨(if _ then(4:Int) else 3)=4; split <;> simp
  unfold rC
  by_cases hp:(dD c.m (rO c.m it)).2<0
  · rw [aO hp]; simp only
    rw [aK (by rintro⟨_,h2⟩; omega)]; exact h
  rw [aK hp];obtain⟨_,v,hv,hv1,_,hmem,_,_⟩:=aly H.hm hk hw.2.1 hp
  by_cases he:(Ij c it).2=[]
  · rw [aO he]; simp only
    rw [aK (by rintro⟨_,h2⟩; exact absurd h2 au)]; exact h
  rw [aK he]; simp only;refine EP.same (l:=(dD c.m (rO c.m it)).1.aA) ?_ (Ip _ (Ez H.hm _) as6)
  by_cases ha:it.A=z
  · rw [aO ⟨ha,trivial⟩]
    exact⟨_,(hmem _).2 (.inl Y),ha,by show E9 it.A it.B=E9 z it.B; rw [ha]⟩
  · rw [aK (λh=>ha h.1)]
    cases o with
    | none=>
      intro y hy he
      rcases(hmem y).1 hy with rfl | ⟨hy,_⟩
      · exact ha he
      · exact h y hy he
    | some n=>
      obtain⟨x,hx,h1,h2⟩:=h;exact⟨x,(hmem x).2 (.inr ⟨hx,λe=>ha (e.symm.trans h1)⟩),h1,h2⟩
theorem aog{c:PC}{k:Nat}(H:Inv c k)(o:aM):sZ c.m.aA (l5 c o).m.aA:=by
  unfold l5
  split
  · exact .rfl' _
  split
  · exact .rfl' _
  split
  · exact .rfl' _
  split
  · exact .rfl' _
  split
  · exact .rfl' _
  · exact Au H.hm Y (.inr (.inr (.inl Y)))
theorem aoh{c:PC}{k:Nat}(H:Inv c k)(o:aM):sZ c.m.aA (rA c o).m.aA:=by
  unfold rA
  split
  · exact aog H o
  split
  · exact .rfl' _
  split <;> exact .rfl' _
theorem aoi{c:PC}{k:Nat}(H:Inv c k)(it:AItem):sZ c.m.aA (mO c it).1.m.aA:=by
  unfold mO
  split
  · exact .rfl' _
  split
  · exact .rfl' _
  split
  · exact .rfl' _
  · show sZ _ (if _ then _ else _:PC).m.aA
    split
    · exact aoh (c:={ c with eD:=c.eD.take it.A.toNat++c.eD.drop (it.A.toNat+1) }) (k:=k) (N9 H (by have:=H.hw; rw [jd,fO,kW]; omega)) _
    · exact .rfl' _
theorem as7{c:PC}{k:Nat}(H:Inv c k)(it:AItem)(h:rG):sZ c.m.aA (U0 c it h).1.m.aA:=by
  unfold U0
  split
  · exact .rfl' _
  split
  · exact J4 _ H.hm alx
  split
  · exact .rfl' _
  split
  · exact .rfl' _
  split
  · exact .rfl' _
  split <;> exact .rfl' _
theorem as8{c:PC}{k:Nat}(H:Inv c k)(it:AItem)(h11:it.Kind≠11):sZ c.m.aA (AU c it).1.m.aA:=by
  unfold AU
  split
  · split <;> exact .rfl' _
  split
  · exact Au H.hm Y (.inl Y)
  split
  · exact Au H.hm Y (.inr (.inl Y))
  split
  · exact Ip _ H.hm alv
  split
  · exact aoi H it
  split
  · exact .rfl' _
  split
  · exact .rfl' _
  split
  · exact .rfl' _
  · exact as7 H it _
theorem as9{c:PC}{k:Nat}(H:Inv c k)(it:AItem)(z:Int)(o:Option Int)(h:EP c.m.aA z o):EP (AU c it).1.m.aA z (ahv c z o it):=by
  by_cases h11:it.Kind=11
  · have e:AU c it=rC c it:=by unfold AU; rw [h11]; rfl
    have:=awI H it z o h;unfold ahv; rw [e]; simp only [h11,true_and]; exact this
  · unfold ahv; rw [aK (λh=>h11 h.1)]; exact h.same (as8 H it h11)
theorem ajK{hs:lq}(H:PW hs)(x:aH)(z:Int):∀(l:List Int),(GD hs x z l).2=8/\(GD hs x z l).1=[]∨(GD hs x z l).2=0/\(GD hs x z l).1.length=4/\((iM (GD hs x z l).1).toNat:Int)=x.Sum
  | []=>.inl ⟨rfl,rfl⟩
  | n::l=>by
    rw [GD]
    split
    · exact ajK H x z l
    · rename_i h hg
      split
      · rename_i hb
        obtain⟨y,hy,h1,_,h2,_⟩:=asU (H _ _ hg).l hb.2.1;exact .inr ⟨Y,by show(uq h.l h.d z).1.length=4; rw [h2,<- h1]; exact(H _ _ hg).w y hy,hb.2.2.2⟩
      · exact ajK H x z l
theorem abE{c:PC}{k:Nat}(H:Inv c k){z:Int}{o:Option Int}(h:EP c.m.aA z o) :
    match o with
    | none=>vw c z=([],5)
    | some n=>(vw c z).2=8∨((vw c z).2=0/\(vw c z).1=nH z n):=by
  have hc:=(iU.1 H.hm).2.1
  cases o with
  | none=>
    show vw c z=([],5);unfold vw; rw [aO];exact xA.2 λhb=>by obtain⟨x,hx,he⟩:=(zR hc).1 hb; exact h x hx he
  | some n=>
    obtain⟨x,hx,h1,h2⟩:=h;show(vw c z).2=8∨((vw c z).2=0/\(vw c z).1=nH z n);have hb:gY c.m.aA z=true:=(zR hc).2 ⟨x,hx,h1⟩;have hf:aU c.m.aA z=x:=by rw [<- h1]; exact aht hc hx
    unfold vw; rw [aK (by rw [hb]; decide),hf]
    rcases ajK H.hz x z x.aD with h3 | ⟨h3,h4,h5⟩
    · exact .inl h3.1
    · refine .inr ⟨h3,as5 h4 Y ?_⟩
      rw [h2] at h5; unfold E9 at h5;exact BitVec.eq_of_toNat_eq aj
theorem aFW(r:ARules)(z:Int):EP (V3 r).m.aA z none:=λx hx=>absurd hx (by simp [V3])
theorem Za{c:PC}{k:Nat}(H:Inv c k){z:Int}{o:Option Int}(h:EP c.m.aA z o)(hb:∀ n,o=some n->0<=n/\n<=65535)(hl:o.getD (-1)<0):vw c z=([],5):=by
  cases o with
  | none=>exact abE H h
  | some n=>have:=hb n rfl; have h2:n<0:=hl; omega
theorem Zb{c:PC}{k:Nat}(H:Inv c k){z:Int}{o:Option Int}(h:EP c.m.aA z o)(hl:¬ o.getD (-1)<0):(vw c z).2=8∨((vw c z).2=0/\(vw c z).1=nH z (o.getD (-1))):=by
  cases o with
  | none=>exact absurd (show(-1:Int)<0 by decide) hl
  | some n=>exact abE H h
end Go.Proofs.YtlhnnmlenkahlaaGreat
