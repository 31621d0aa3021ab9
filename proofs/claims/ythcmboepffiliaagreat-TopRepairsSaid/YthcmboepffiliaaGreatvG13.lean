/- Lemmas. -/
import Derived.WalkKit
import Derived.WalkSpells
import Derived.WalkLawsBesides
import Derived.Deep.Quiet
import Derived.Deep.LoopGhost
import Derived.Sort.LoopGhostIn
import Derived.RangeFuncLeaves
import Derived.OrdersIn
import Derived.Deep.AppendLies
import Derived.Lib.SliceRun
import Derived.Maps.AppendAt
import Derived.OrdersHeld
import Derived.Laws.CopyRow
import Derived.Laws.IdiomCopy
import Derived.Lib.Overlaps
import Derived.Lib.AppendZerosOnto
import Derived.RangeFuncSeq
import Derived.Test.YthcmboepffiliaaGreatvG12
set_option linter.all false
set_option maxRecDepth 4000
namespace Go.Proofs.YthcmboepffiliaaGreat
open Go.RowKit Go.Proofs.Tryz
def ak5:=@BitVec.eq_of_toNat_eq
def KN:=@Prod.mk.injEq
def Vq:=@Int.le_trans
def Vr:=@List.filter_filter
def ak6:=@Bool.and_eq_false_iff
def NM:=@List.mem_append_right
section
section
variable {P:Program}{n:Cx}{l l':List (Nat × Value)}{w w':World}{Q:Exit->Act->World->Prop}{K:Act->World->Prop}
end
end
section
section
variable {P:Program}{n:Cx}{l l':List (Nat × Value)}{w w':World}{Q:Exit->Act->World->Prop}{K:Act->World->Prop}{M:Array Oper}{os:List Oper}
end
section
variable {P:Program}{n:Cx}{l l':List (Nat × Value)}{w w':World}{Q:Exit->Act->World->Prop}{K:Act->World->Prop}{M:Array Oper}{os:List Oper}
end
section
variable {P:Program}{n:Cx}{l:List (Nat × Value)}{w:World}
end
section
variable {P:Program}{n:Cx}{l:List (Nat × Value)}{w:World}{Q:Exit->Act->World->Prop}{K:Act->World->Prop}{M:Array Oper}{os:List Oper}{ty:TypeId}{pos:String}{lN:Array Edge}{d:Nat}
end
end
section
section
variable {P:Program}{n:Cx}{l l':List (Nat × Value)}{w w':World}{Q:Exit->Act->World->Prop}{K:Act->World->Prop}{M:Array Oper}{S:World->Prop}{fuel:Nat}{aW:Array Bool}
end
end
section
section
variable {P:Program}{n:Cx}{l:List (Nat × Value)}{b w:World}{S:Nat->Prop}{rs rest:List kF}{Q:Exit->Act->World->Prop}{K:Act->World->Prop}{M:Array Oper}{os:List Oper}{ty:TypeId}{pos:String}{lN:Array Edge}{d:Nat}
end
end
section
def Edge(l:List dW)(j:Nat):Prop:=∀ x y,l[(j - 1) / 2]? = some x->l[j]? = some y->QK x y
end
section
def aeo.wf(x:aeo):Prop:=vJ x.e/\vJ x.n
end
section
def ap4:∀ i j:Fin 16,I8 i.val >>> 28=I8 j.val >>> 28->i=j:=au
def aiK(x:BitVec 32):SG x >>> 28=I8 (x&&& 15#32).toNat >>> 28:=by
 grind [SG]
theorem azF(x y:BitVec 32)(h1:x&&& 15#32=y&&& 15#32)(h2:x >>> 4=y >>> 4):x=y:=by
 apply ak5
 have a1:x.toNat % 16=y.toNat % 16:=by
  have:=aY BitVec.toNat h1
  simp only [BitVec.toNat_and,BitVec.toNat_ofNat] at this
  have e:∀ n:Nat,n&&& (15 % 2 ^ 32)=n % 16:=λn=>Nat.and_two_pow_sub_one_eq_mod n 4
  grind
 have a2:x.toNat / 16=y.toNat / 16:=by
  have:=aY BitVec.toNat h2
  simpa [akG,akH] using this
 omega
theorem am3{n:Nat}{a x y:BitVec n}(h:a ^^^ x=a ^^^ y):x=y:=by
 simp_all
def aiL{x y:BitVec 32}(h:SG x=SG y):x=y:=by
 have h1:SG x >>> 28=SG y >>> 28:=by rw [h]
 rw [aiK,aiK] at h1;have h2:=ap4 ⟨_,I9 x⟩ ⟨_,I9 y⟩ h1
 grind [SG,BitVec.eq_of_toNat_eq,azF,am3]
end
section
def bP.wf(x:bP):Prop:=vJ x.aN/\True
end
section
def Jj(report:List aI)(c:aH):Bool:=report.any (fun(x:aI)=>Bo x c)
def ak7{zs:V Int}(h:zs.Pairwise (λx y=>x<=y)):(Lib.compact zs).Pairwise (λx y=>x<y)/\∀ x,x∈Lib.compact zs↔x∈zs:=by
 have hget:∀ j (hj:j<zs.length),zs.toArray[j]! = zs[j]:=by grind
 have hle:∀ i j,i<=j->(hj:j<zs.length)->zs[i]!<=zs[j]:=by grind [List.pairwise_iff_getElem]
 have key:∀ m,m<=zs.length->(Lib.compactUpTo zs.toArray m).Pairwise (λx y=>x<y)/\(∀ x,x∈Lib.compactUpTo zs.toArray m↔x∈zs.take m)/\∀ x∈Lib.compactUpTo zs.toArray m,0<m/\x<=zs[m - 1]!:=by
  intro m
  induction m with
  | zero=>simp [Lib.compactUpTo]
  | succ m ih=>
   intro hm;obtain⟨h1,h2,h3⟩:=ih aj;have hs:Lib.compactUpTo zs.toArray (m+1)=Lib.compactUpTo zs.toArray m++(if Lib.keeps zs.toArray m=true then[zs.toArray[m]!] else[]):=by grind [Lib.compactUpTo,List.range_succ]
   have ht:zs.take (m+1)=zs.take m++[zs[m]]:=by simp
   have hmm:zs[m+1 - 1]! = zs[m]:=by grind
   rw [hs,hget m aj,ht,hmm]
   by_cases hk:Lib.keeps zs.toArray m=true
   ·rw [aS hk]
    simp only [Lib.keeps,bN] at hk
    refine⟨zO.2 ⟨h1,Ui _ _,λx hx y hy=>?_⟩,by grind,λx hx=>⟨aj,?_⟩⟩
    ·rw [mU.1 hy]
     have h4:=h3 x hx;have h5:=hle (m - 1) m aj aj
     grind
    ·rcases j5.1 hx with hx | hx
     ·have h4:=h3 x hx
      have h5:=hle (m - 1) m aj aj;omega
     grind
   ·rw [aQ hk,Aj]
    simp only [Lib.keeps,bN,not_or,ne_eq,Ii] at hk
    obtain⟨hk1,hk2⟩:=hk;rw [hget m aj,hget (m - 1) aj] at hk2;refine⟨h1,λx=>?_,λx hx=>⟨aj,?_⟩⟩
    ·rw [h2,j5,mU]
     constructor
     ·grind
     ·rintro(hx | hx)
      ·exact hx
      ·rw [hx,hk2]
       exact zy (show(zs.take m)[m - 1]? = some zs[m - 1] by rw [YL aj,Ip aj])
    grind
 obtain⟨h1,h2,_⟩:=key zs.length (j4 _);exact⟨h1,λx=>by have:=h2 x; rwa [HZ] at this⟩
end
section
def azG{b w:World}{S:Nat->Prop}{F:V kF}{iy:Nat}{A1 A2 A3 A4 A5 A6 A7:ah}{c1 c2 c3 c4 c5 c6 c7 gm:Nat}{m:bY}{s:fQ}{r:ARules}{Z:Int}{I:V aL}{hs:kg}(H0:Hp b S w (Io iy A1 c1 A2 c2 A3 c3 A4 c4 A5 c5 A6 c6 A7 c7 m s r Z gm I::dI bW A1 c1 m.aM::dI bD A2 c2 m.J::dI cB A3 c3 m.aU::dI iG A4 c4 s.bZ::dI dB A5 c5 s.bG::dI bA A6 c6 s.bn::aR bA 121 A7 c7 I::jD gm hs::F))  : bM prog 45 #[fK iy] w λv w'=>v=O Z/\Hp b S w' (Io iy A1 c1 A2 c2 A3 c3 A4 c4 A5 c5 A6 c6 A7 c7 m s r Z gm I::dI bW A1 c1 m.aM::dI bD A2 c2 m.J::dI cB A3 c3 m.aU::dI iG A4 c4 s.bZ::dI dB A5 c5 s.bG::dI bA A6 c6 s.bn::aR bA 121 A7 c7 I::jD gm hs::F):=by
 refine qN func45 ntmps45 Y<|pC 6 Y<|jP iy 12 Df H0 U Y<|fE Y<|iU Y ?_
 exact⟨Y,H0⟩
def aiM{b w:World}{S:Nat->Prop}{F:V kF}{iy:Nat}{A1 A2 A3 A4 A5 A6 A7:ah}{c1 c2 c3 c4 c5 c6 c7 gm:Nat}{m:bY}{s:fQ}{r:ARules}{Z:Int}{I:V aL}{hs:kg}(H0:Hp b S w (Io iy A1 c1 A2 c2 A3 c3 A4 c4 A5 c5 A6 c6 A7 c7 m s r Z gm I::dI bW A1 c1 m.aM::dI bD A2 c2 m.J::dI cB A3 c3 m.aU::dI iG A4 c4 s.bZ::dI dB A5 c5 s.bG::dI bA A6 c6 s.bn::aR bA 121 A7 c7 I::jD gm hs::F))  : bM prog 38 #[fK iy] w λv w'=>v=O ((I.length:Nat):Int)/\Hp b S w' (Io iy A1 c1 A2 c2 A3 c3 A4 c4 A5 c5 A6 c6 A7 c7 m s r Z gm I::dI bW A1 c1 m.aM::dI bD A2 c2 m.J::dI cB A3 c3 m.aU::dI iG A4 c4 s.bZ::dI dB A5 c5 s.bG::dI bA A6 c6 s.bn::aR bA 121 A7 c7 I::jD gm hs::F):=by
 refine qN func38 ntmps38 Y<|pC 6 Y<|jP iy 14 Bt H0 U Y<|pA 3 Y<|iU Y ?_
 exact⟨Y,H0⟩
end
section
section
variable {l:List aI}{c v sum bB:Int}{data:List (BitVec 8)}{d:qD}
def LA.nam(h:LA l){x:aI}(hx:x∈l):Po x=true:=by
 have:=(DJ.1 h.1).1 x hx; grind [ZL]
def LA.inj(h:LA l){x y:aI}(hx:x∈l)(hy:y∈l)(he:x.X=y.X):x=y:=
 lI h.up hx hy (by unfold qJ; rw [he,h.2 x hx,h.2 y hy])
def ak8(h:LA l){x:aI}(hx:x∈l):l.find? (λy=>decide (y.X=x.X))=some x:=by
 cases hf:l.find? (λy=>decide (y.X=x.X)) with
 | none=>grind
 | some y=>have h1:=YU hf; have h2:=List.find?_some hf; simp at h2; rw [h.inj h1 hx h2]
def avw(h:LA l){x:aI}(hx:x∈l)(hs:((gI (oH ⟨x.X,false⟩ d)).toNat:Int)=x.Sum):rT l d x.X=(oH ⟨x.X,false⟩ d,x.E,0):=by
 simp_all [rT,acD,ak8]
end
theorem TH{l:V aH}(h:ku l=true){x:aH}(hx:x∈l):aV l x.ID=x:=
 lI (lS h) (by grind [vv,Dr]) hx (by grind [Dh,Dr])
def KO{hs:jc}{z:Int}:uP hs z=true->∃ h,cZ z hs=some h/\h.up=true:=by
 unfold uP; grind
end
section
def aiN(x z:BitVec 32)(hz:z <<< 4 >>> 4=z):SG (x ^^^ z <<< 4)=SG x ^^^ z:=by
 unfold SG
 have h1:(x ^^^ z <<< 4)&&& 15#32=x&&& 15#32:=by
  rw [BitVec.and_comm,BitVec.and_comm x];apply BitVec.eq_of_getLsbD_eq;intro i hi
  simp only [BitVec.getLsbD_and,BitVec.getLsbD_xor,BitVec.getLsbD_shiftLeft]
  by_cases h:i<4
  ·simp [h]
  ·have:(15#32).getLsbD i=false:=by
    have:(15#32).toNat.testBit i=false:=Nat.testBit_lt_two_pow (aa1 (show(15#32).toNat<2 ^ 4 by decide) (Nat.pow_le_pow_right au aj));exact this
   grind
 grind
def WV(x:BitVec 32):BitVec 32:=SG (SG x)
theorem avx(x z:BitVec 32)(hz:z <<< 8 >>> 8=z)(h4:z <<< 4 >>> 4=z)(h8:(z <<< 4) <<< 4 >>> 4=z <<< 4):WV (x ^^^ z <<< 8)=WV x ^^^ z:=by
 unfold WV;rw [show z <<< 8=(z <<< 4) <<< 4 from by rw [<- BitVec.shiftLeft_add],aiN x (z <<< 4) h8,aiN _ _ h4]
theorem aiO{z:BitVec 32}{k:Nat}(h:z.toNat<2 ^ (32 - k))(hk:k<=32):z <<< k >>> k=z:=by
 apply ak5;rw [akG,akI,akJ,akH];have e:2 ^ (32 - k)*2 ^ k=2 ^ 32:=by rw [<- Nat.pow_add]; congr 1; omega
 have hlt:z.toNat*2 ^ k<2 ^ 32:=by
  have:=Nat.mul_lt_mul_of_pos_right h (Nat.two_pow_pos k);omega
 rw [ac2 hlt,Nat.mul_div_cancel _ (Nat.two_pow_pos k)]
theorem am4{z:BitVec 32}{a k:Nat}(h:z.toNat<2 ^ a)(hk:a+k<=32):(z <<< k).toNat<2 ^ (a+k):=by
 rw [akI,akJ];have:z.toNat*2 ^ k<2 ^ (a+k):=by simp_all [Nat.pow_add,Nat.mul_lt_mul_of_pos_right,Nat.two_pow_pos]
 grind
def OY(x z:BitVec 32){a:Nat}(h:z.toNat<2 ^ a)(ha:a<=24):WV x ^^^ z=WV (x ^^^ z <<< 8):=by
 have hp:∀ n,a<=n->z.toNat<2 ^ n:=by grind [Nat.lt_of_lt_of_le,Nat.pow_le_pow_right]
 grind [avx,aiO,am4,Nat.lt_of_lt_of_le,Nat.pow_le_pow_right]
def TI{x y:BitVec 32}(h:WV x=WV y):x=y:=aiL (aiL h)
abbrev b32(b:BitVec 8):BitVec 32:=b.setWidth 32
def ak9(b:BitVec 8):(b32 b).toNat<2 ^ 8:=by
 show(b.setWidth 32).toNat<2 ^ 8;rw [BitVec.toNat_setWidth];omega
def acH(a b c d:BitVec 8):BitVec 32:=b32 a ^^^ b32 b <<< 8 ^^^ (b32 c <<< 8) <<< 8 ^^^ ((b32 d <<< 8) <<< 8) <<< 8
def afm(x:BitVec 32)(b:BitVec 8):FP x b=WV (x ^^^ b32 b):=rfl
def aBB(x:BitVec 32)(a b c d:BitVec 8):[a,b,c,d].foldl FP x=WV (WV (WV (WV (x ^^^ acH a b c d)))):=by
 have hb:=ak9 b; have hc:=ak9 c; have hd:=ak9 d;have hc2:=am4 (k:=8) hc au; have hd2:=am4 (k:=8) hd au; have hd3:=am4 (k:=8) hd2 au;have e:x ^^^ acH a b c d=x ^^^ b32 a ^^^ b32 b <<< 8 ^^^ (b32 c <<< 8) <<< 8 ^^^ ((b32 d <<< 8) <<< 8) <<< 8:=by grind [acH]
 rw [e,vY,vY,vY,vY,List.foldl_nil,afm,afm,afm,afm]
 generalize b32 a=a at *
 revert hb hc hd hc2 hd2 hd3
 generalize b32 b=b; generalize b32 c=c; generalize b32 d=d
 intro hb hc hd hc2 hd2 hd3;rw [OY (x ^^^ a) b hb au,OY _ c hc au,OY _ (c <<< 8) hc2 au,OY _ d hd au,OY _ (d <<< 8) hd2 au,OY _ (d <<< 8 <<< 8) hd3 au]
def acI(a b c d:BitVec 8):(acH a b c d).toNat=a.toNat+2 ^ 8*b.toNat+2 ^ 16*c.toNat+2 ^ 24*d.toNat:=by
 have ha:=a.isLt; have hb:=b.isLt; have hc:=c.isLt; have hd:=d.isLt
 have e:acH a b c d=(d++c++b++a):=by
  unfold acH b32;apply BitVec.eq_of_getLsbD_eq;intro i hi
  simp only [BitVec.getLsbD_xor,BitVec.getLsbD_shiftLeft,BitVec.getLsbD_setWidth,BitVec.getLsbD_append]
  have hbig:∀(v:BitVec 8)(j:Nat),8<=j->v.getLsbD j=false:=λv j hj=>BitVec.getLsbD_of_ge v j hj
  rcases(show i<8∨(8<=i/\i<16)∨(16<=i/\i<24)∨24<=i by omega) with h | ⟨h,h2⟩ | ⟨h,h2⟩ | h
  ·grind
  ·grind
  ·grind
  ·grind
 grind [BitVec.toNat_append,Nat.shiftLeft_eq,Nat.shiftLeft_add_eq_or_of_lt]
def avy{l q:V (BitVec 8)}(hl:l.length=4)(hq:q.length=4)(h:gI l=gI q):l=q:=by
 match l,q,hl,hq with
 | [a,b,c,d],[a2,b2,c2,d2],_,_=>
  unfold gI Xy at h;have h1:[a,b,c,d].foldl FP (~~~ 0#32)=[a2,b2,c2,d2].foldl FP (~~~ 0#32):=by simp_all
  rw [aBB,aBB] at h1;have h2:=am3 (TI (TI (TI (TI h1))));have h3:=aY BitVec.toNat h2;rw [acI,acI] at h3;have:=a.isLt; have:=b.isLt; have:=c.isLt; have:=d.isLt; have:=a2.isLt; have:=b2.isLt; have:=c2.isLt; have:=d2.isLt;have e1:a.toNat=a2.toNat:=aj;have e2:b.toNat=b2.toNat:=aj
  grind [BitVec.eq_of_toNat_eq]
def kS(l q:List aH):Prop:=(∀ x∈l,∃ y∈q,y.ID=x.ID/\y.E=x.E/\y.Sum=x.Sum)/\∀ y∈q,∃ x∈l,y.ID=x.ID/\y.E=x.E/\y.Sum=x.Sum
def kS.rfl'(l:V aH):kS l l:=⟨by grind,by grind⟩
def QF:=@kS.rfl'
def kS.trans{a b c:V aH}(h1:kS a b)(h2:kS b c):kS a c:=
 ⟨λx hx=>by
  obtain⟨y,hy,a1,a2,a3⟩:=h1.1 x hx; obtain⟨z,hz,b1,b2,b3⟩:=h2.1 y hy
  grind,λz hz=>by
  obtain⟨y,hy,b1,b2,b3⟩:=h2.2 z hz; obtain⟨x,hx,a1,a2,a3⟩:=h1.2 y hy
  grind⟩
def acJ{l q:V aH}{c:aH}{H:V Int}{id:Int}(hc:c∈l)(hi:c.ID=id)(hu:∀ x∈l,x.ID=id->x=c)(h:∀ y,y∈q↔y=⟨c.ID,c.E,c.Sum,H⟩∨(y∈l/\y.ID≠id)):kS l q:=
 ⟨λx hx=>by
  by_cases he:x.ID=id
  ·simp_all
  grind,by grind⟩
def sN{m:bY}(hm:lU m=true){x:eU}(h0:x.Client=0)(hk:x.Kind=1∨x.Kind=2∨x.Kind=5∨x.Kind=6):kS m.J (rJ m x).J:=by
 have hu:=lS (dD.1 hm).2.1
 rcases(wL hm aj h0).1 with h | ⟨hk',_,_,_⟩ | ⟨c,hk',_,_,_⟩ | ⟨c,H,_,hc,hi,_,_,_,_,_,h⟩ | ⟨c,H,_,hc,hi,_,_,_,h⟩
 ·rw [h]; exact .rfl' _
 ·omega
 ·omega
 ·exact acJ hc hi (λx hx he=>lI hu hx hc (he.trans hi.symm)) h
 ·exact acJ hc hi (λx hx he=>lI hu hx hc (he.trans hi.symm)) h
def xQ:∀(l:V eU){m:bY},lU m=true->(∀ x∈l,x.Client=0/\(x.Kind=1∨x.Kind=2∨x.Kind=5∨x.Kind=6))->kS m.J (CW m l).J
 | [],m,_,_=>.rfl' _
 | x::l,m,hm,hl=>by
  have hx:=hl x (mO);exact(sN hm hx.1 hx.2).trans (xQ l (nP hm x) (λy hy=>hl y (kL _ hy)))
def CX{s:fQ}{Z n:Int}:∀(l:V eU){m:bY},lU m=true->(∀ x∈l,x.Client=0/\(x.Kind=1∨x.Kind=2∨x.Kind=5∨x.Kind=6))->kS m.J (lM s Z n m l).J
 | [],m,_,_=>.rfl' _
 | x::l,m,hm,hl=>by
  have hx:=hl x (mO);show kS m.J (lM s Z n (Gm s Z n m x) l).J;unfold Gm; split
  ·exact(sN hm hx.1 hx.2).trans (CX l (nP hm x) (λy hy=>hl y (kL _ hy)))
  ·exact CX l hm (λy hy=>hl y (kL _ hy))
def OZ{m:bY}{s:fQ}{r:ARules}{Z:Int}:∀ x∈mM m s r Z,x.Client=0/\(x.Kind=1∨x.Kind=2∨x.Kind=5∨x.Kind=6):=by
 intro x hx; unfold mM at hx; split at hx
 ·obtain⟨o,_,rfl⟩:=eX.1 hx; exact⟨rfl,.inr (.inr (.inr rfl))⟩
 grind
def XP{cs:V aH}{n:Int}{l:V aI}:∀ x∈jS cs n l,x.Client=0/\(x.Kind=1∨x.Kind=2∨x.Kind=5∨x.Kind=6):=by
 intro x hx; unfold jS at hx; split at hx
 ·obtain⟨c,_,hc⟩:=ML.1 hx
  unfold recC at hc
  grind
 grind
def avz{it:AItem}{v:Int}{l:V Int}:∀ x∈l.map (λz=>vR it.A z v),x.Client=0/\(x.Kind=1∨x.Kind=2∨x.Kind=5∨x.Kind=6):=by
 simp
def am5{m:bY}(hm:lU m=true){x:eU}(hk:x.Kind=3∨x.Kind=4)(h0:x.Client=0)(hp:¬ (dS m x).2<0):(dS m x).1.aM=m.aM/\∃ v,(dS m x).2=v/\1<=v/\v<=1073741824/\(∀ y,y∈(dS m x).1.J↔y=⟨x.A,v,x.B,[]⟩∨(y∈m.J/\y.ID≠x.A))/\(1<=x.A/\x.A<=1048576)/\
   ((v=1/\∀ y∈m.J,y.ID≠x.A)∨∃ c∈m.J,c.ID=x.A/\v=c.E+1):=by
 have hc:=(dD.1 hm).2.1;have hmay:=FJ hm x;have e:dS m x=uK m x:=by unfold dS; rw [aQ (by rw [hm]; decide),aS h0]
 rw [e] at hp hmay ⊢;have he:=ams m x
 have hz:(yN m x).2.2.1=0:=by
  by_cases hz:(yN m x).2.2.1=0
  ·exact hz
  ·exfalso; apply hp; show Ie (yN m x).2.2.1 _<0; unfold Ie; rw [aS hz]; omega
 have hv:(uK m x).2=(yN m x).2.2.2:=by show Ie (yN m x).2.2.1 _=_; unfold Ie; rw [aQ aj]
 have hcm:=(dD.1 hmay).2.1
 have key:∀(l:V aH)(v:Int),(yN m x).1=m.aM->(yN m x).2.1=l->(yN m x).2.2.2=(aV l x.A).E->(∀ y,y∈l↔y=⟨x.A,v,x.B,[]⟩∨(y∈m.J/\y.ID≠x.A))->(uK m x).2=v/\1<=v/\v<=1073741824:=by
  intro l v h1 h2 h3 h4;have hcl:ku l=true:=by rw [<- h2]; exact hcm
  have h5:(⟨x.A,v,x.B,[]⟩:aH)∈l:=(h4 _).2 (.inl rfl);have h6:=TH hcl h5;have h7:=(kK.1 hcl).1 _ h5;unfold oF at h7; simp at h7;refine⟨by rw [hv,h3]; exact aY aH.E h6,h7.1.1,h7.1.2⟩
 rcases hk with hk | hk
 ·have e1:yN m x=(m.aM,(uT dO m.J x).1,(uT dO m.J x).2.1,(uT dO m.J x).2.2):=by
   unfold yN; rw [aQ aj,aQ aj,aQ aj,aS hk]
  have hz':(uT dO m.J x).2.1=0:=by rw [e1] at hz; exact hz
  have en:(uK m x).1.aM=m.aM:=by show(yN m x).1=_; rw [e1]
  by_cases hr:x.B<0∨4294967295<x.B
  ·unfold uT at hz'; rw [aS hr] at hz'; exact absurd (show(1:Int)=0 from hz') au
  have ew:uT dO m.J x=(if(dO m.J x.A x.B).2=0 then(dO m.J x.A x.B).1 else m.J,(dO m.J x.A x.B).2,(aV (if(dO m.J x.A x.B).2=0 then(dO m.J x.A x.B).1 else m.J) x.A).E):=by
   unfold uT; rw [aQ hr,XO hr]
  have hz2:(dO m.J x.A x.B).2=0:=by rw [ew] at hz'; exact hz'
  rcases Eo m.J x.A x.B with h | ⟨ha,hb,hf,hlen,h⟩
  ·exact absurd hz2 h.2
  have hno:∀ y∈m.J,y.ID≠x.A:=λy hy he=>by
   have:=(Dr hc).2 ⟨y,hy,he⟩; rw [hf] at this; exact absurd this au
  have hmem:∀ y,y∈(dO m.J x.A x.B).1↔y=⟨x.A,1,x.B,[]⟩∨(y∈m.J/\y.ID≠x.A):=by
   intro y; rw [h,aiB hc]; refine(FH _).trans (or_congr Iff.rfl ⟨λh=>⟨h,hno y h⟩,λh=>h.1⟩)
  have e2:(yN m x).2.1=(dO m.J x.A x.B).1:=by rw [e1,ew,aS hz2]
  have hk:=key _ 1 (by rw [e1]) e2 (by rw [e1,ew,aS hz2]) hmem;exact⟨en,1,hk.1,hk.2.1,hk.2.2,by show ∀ y,y∈(yN m x).2.1↔_; rw [e2]; exact hmem,⟨ha,hb⟩,.inl ⟨rfl,hno⟩⟩
 ·have e1:yN m x=(m.aM,(uT (λl id sum=>gU l id (eu sum)) m.J x).1,(uT (λl id sum=>gU l id (eu sum)) m.J x).2.1,(uT (λl id sum=>gU l id (eu sum)) m.J x).2.2):=by
   unfold yN; rw [aQ aj,aQ aj,aQ aj,aQ aj,aS hk]
  have hz':(uT (λl id sum=>gU l id (eu sum)) m.J x).2.1=0:=by rw [e1] at hz; exact hz
  have en:(uK m x).1.aM=m.aM:=by show(yN m x).1=_; rw [e1]
  by_cases hr:x.B<0∨4294967295<x.B
  ·unfold uT at hz'; rw [aS hr] at hz'; exact absurd (show(1:Int)=0 from hz') au
  have ew:uT (λl id sum=>gU l id (eu sum)) m.J x=(if(gU m.J x.A (eu x.B)).2=0 then(gU m.J x.A (eu x.B)).1 else m.J,(gU m.J x.A (eu x.B)).2,(aV (if(gU m.J x.A (eu x.B)).2=0 then(gU m.J x.A (eu x.B)).1 else m.J) x.A).E):=by
   unfold uT; rw [aQ hr,XO hr]
  have hz2:(gU m.J x.A (eu x.B)).2=0:=by rw [ew] at hz'; exact hz'
  obtain⟨hb,hz3,hmem⟩:=XM hc (zD x.B) hz2;have hin:=vv hc hb; have hid:=Dh hc hb;have hw:=Oe ((kK.1 hc).1 _ hin) hz3;rw [hw.1,hid] at hmem;have e2:(yN m x).2.1=(gU m.J x.A (eu x.B)).1:=by rw [e1,ew,aS hz2]
  have hk:=key _ ((aV m.J x.A).E+1) (by rw [e1]) e2 (by rw [e1,ew,aS hz2]) hmem
  have aPq:1<=x.A/\x.A<=1048576:=by
   have:=(CP _ _).1 (kK.1 hc).2.2;exact this.2 x.A (eX.2 ⟨_,hin,hid⟩)
  exact⟨en,_,hk.1,hk.2.1,hk.2.2,by show ∀ y,y∈(yN m x).2.1↔_; rw [e2]; exact hmem,aPq,.inr ⟨_,hin,hid,rfl⟩⟩
def ap5{c:PC}{k:Nat}(H:Inv c k)(o:aL):kS c.m.J (j6 c o).m.J:=by
 unfold j6
 split
 ·exact .rfl' _
 split
 ·exact .rfl' _
 split
 ·exact .rfl' _
 split
 ·exact .rfl' _
 split
 ·exact .rfl' _
 ·exact sN H.hm rfl av
def ap6{c:PC}{k:Nat}(H:Inv c k)(o:aL):kS c.m.J (mZ c o).m.J:=by
 unfold mZ
 split
 ·exact ap5 H o
 split
 ·exact .rfl' _
 split <;> exact .rfl' _
def ap7{c:PC}{k:Nat}(H:Inv c k)(it:AItem):kS c.m.J (kM c it).1.m.J:=by
 unfold kM
 split
 ·exact .rfl' _
 split
 ·grind
 split
 ·exact .rfl' _
 ·show kS _ (if _ then _ else _:PC).m.J
  split
  ·exact ap6 (c:={ c with I:=c.I.take it.A.toNat++c.I.drop (it.A.toNat+1) }) (k:=k) (GZ H (by have:=H.hw; grind)) _
  ·exact .rfl' _
theorem avA{c:PC}{k:Nat}(H:Inv c k)(it:AItem)(h:kV):kS c.m.J (Il c it h).1.m.J:=by
 unfold Il
 split
 ·exact .rfl' _
 split
 ·exact CX _ H.hm XP
 split
 ·exact .rfl' _
 split
 ·exact .rfl' _
 split
 ·exact .rfl' _
 split <;> exact .rfl' _
def Jk{c:PC}{k:Nat}(H:Inv c k)(it:AItem)(h11:it.Kind≠11):kS c.m.J (nJ c it).1.m.J:=by
 unfold nJ
 split
 ·split <;> exact .rfl' _
 split
 ·exact sN H.hm rfl (.inl rfl)
 split
 ·exact sN H.hm rfl av
 split
 ·exact xQ _ H.hm OZ
 split
 ·exact ap7 H it
 split
 ·exact .rfl' _
 split
 ·exact .rfl' _
 split
 ·exact .rfl' _
 grind [avA]
def afn{hs:jc}(H:Je hs)(x:aH)(z:Int):∀(l:V Int),(BR hs x z l).2=8/\(BR hs x z l).1=[]∨(BR hs x z l).2=0/\(BR hs x z l).1.length=4/\((gI (BR hs x z l).1).toNat:Int)=x.Sum
 | []=>.inl ⟨rfl,rfl⟩
 | n::l=>by
  rw [BR]
  split
  ·exact afn H x z l
  ·rename_i h hg
   split
   ·rename_i hb
    obtain⟨y,hy,h1,_,h2,_⟩:=aiA (H _ _ hg).l hb.2.1;exact .inr ⟨Y,by show(rT h.l h.d z).1.length=4; rw [h2,<- h1]; exact(H _ _ hg).w y hy,hb.2.2.2⟩
   ·exact afn H x z l
end
section
def am6{b w:World}{S:Nat->Prop}{F:V kF}{iy:Nat}{G:GC}(H0:Hp b S w (wu iy G::F))   : bM prog 45 #[fK iy] w λv w'=>v=O G.pl.Z/\Hp b S w' (wu iy G::F):=by
 obtain⟨A1,c1,A2,c2,A3,c3,A4,c4,A5,c5,A6,c6,A7,c7,m,s,r,Z,gm,I,hs⟩:=G;have H1:=H0.allOut;refine(azG (w:=w) (H1.mV 1 8) ).mono ?_;rintro v w' ⟨rfl,K⟩;exact⟨Y,(FQ (L:=GC.rs (⟨A1,c1,A2,c2,A3,c3,A4,c4,A5,c5,A6,c6,A7,c7,m,s,r,Z,gm,I,hs⟩:GC) iy) (K.sel s8))⟩
def aiP{b w:World}{S:Nat->Prop}{F:V kF}{iy:Nat}{G:GC}(H0:Hp b S w (wu iy G::F))   : bM prog 38 #[fK iy] w λv w'=>v=O ((G.pl.I.length:Nat):Int)/\Hp b S w' (wu iy G::F):=by
 obtain⟨A1,c1,A2,c2,A3,c3,A4,c4,A5,c5,A6,c6,A7,c7,m,s,r,Z,gm,I,hs⟩:=G;have H1:=H0.allOut;refine(aiM (w:=w) (H1.mV 1 8) ).mono ?_;rintro v w' ⟨rfl,K⟩;exact⟨Y,(FQ (L:=GC.rs (⟨A1,c1,A2,c2,A3,c3,A4,c4,A5,c5,A6,c6,A7,c7,m,s,r,Z,gm,I,hs⟩:GC) iy) (K.sel s8))⟩
section
open Go
variable {P:Program}{n:Cx}{l:List (Nat × Value)}{w:World}{x y:Operand}
def Ev.nes{a b:ByteArray}{t ty:TypeId}(hx:fM l x=some (.string a))(hy:fM l y=some (.string b)):Ev P n l w (.binOp .neq t x y ty) (.bool (!(a.toList == b.toList))):=
 pY hx hy (eqGuard_at_string ..) (by simp [binOp,Op.stringOp])
def Ev.avB{a:ByteArray}{t ty:TypeId}(hx:fM l x=some (.string a))(hy:fM l y=some (.string a)):Ev P n l w (.binOp .neq t x y ty) (.bool false):=by
 have:=Ev.nes (P:=P) (n:=n) (w:=w) (t:=t) (ty:=ty) hx hy
 grind
end
end
section
def Vs:∀ {l m:V aT} {z:Int},m.Sublist l->Dt z l=true->Dt z m=true
 | _,_,_,.slnil,h=>h
 | _,_,z,.cons a (l₁:=m) (l₂:=l) hs,h=>by
  simp only [Dt,bK,dZ,dQ,fG,bV] at h
  have h1:=Vs hs h.2
  cases m with
  | nil=>rfl
  | cons b m=>
   simp only [Dt,bK,dZ,dQ,fG,bV] at h1 ⊢
   exact⟨⟨h1.1.1,aj⟩,h1.2⟩
 | _,_,z,.cons₂ a (l₁:=m) (l₂:=l) hs,h=>by
  simp only [Dt,bK] at h ⊢
  exact⟨h.1,Vs hs h.2⟩
def ap8(l:V aT)(D:V Int):tN (xH l D)=true:=by
 unfold xH; split
 ·rename_i h; exact Vs Vb h
 ·rfl
theorem Wv(cs:V aH)(l:V aT)(D:V Int):gK cs l D=(xH l D).map fun(n:aT)=>⟨n.ID,(pJ cs n.ID:Int)⟩:=by
 simp [gK,oq,aS,ap8]
def am7{cs:V aH}{l:V aT}{D:V Int}{y:aT}(h:y∈xH l D):nX (gK cs l D) y.ID=(pJ cs y.ID:Int)/\(⟨y.ID,(pJ cs y.ID:Int)⟩:fJ)∈gK cs l D:=by
 have hm:(⟨y.ID,(pJ cs y.ID:Int)⟩:fJ)∈gK cs l D:=by grind [Wv]
 refine⟨?_,hm⟩;unfold nX
 grind [Wv]
def aiQ{cf:aT->aT->Int}{l:V aT}{x:aT}:x∈LD cf l↔x∈l:=by simp [LD]
def ap9{xs ys:V aT}{p:aT × aT}:p∈vZ xs ys↔p.1∈xs/\p.2∈ys:=by
 obtain⟨x,y⟩:=p
 simp only [vZ,ML,eX,KN]
 constructor
 ·rintro⟨a,ha,b,hb,rfl,rfl⟩; exact⟨ha,hb⟩
 ·rintro⟨ha,hb⟩; exact⟨x,ha,y,hb,rfl,rfl⟩
structure aER (cs:List aH) (l:List aT) (D:List Int) (lq:Int) (o:aL):Prop where
  may:ku cs=true
  ex:∃(x y:aT)(c:aH),x∈xH l D/\y∈xH l D/\c∈cs/\lq<pJ cs x.ID - pJ cs y.ID/\1<(pJ cs x.ID:Int) - pJ cs y.ID/\(pJ cs y.ID:Int)<y.lV/\BX c l x.ID y.ID=true/\o=⟨0,c.ID,c.E,c.Sum,x.ID,y.ID,0⟩
def avC{cs:V aH}{l:V aT}{D:V Int}{lq:Int}{p:aT × aT}{o:aL}(h1:p.1∈xH l D)(h2:p.2∈xH l D)(h:D7 cs l (gK cs l D) lq p=some o):∃ c,c∈cs/\lq<pJ cs p.1.ID - pJ cs p.2.ID/\1<(pJ cs p.1.ID:Int) - pJ cs p.2.ID/\(pJ cs p.2.ID:Int)<p.2.lV/\BX c l p.1.ID p.2.ID=true/\o=⟨0,c.ID,c.E,c.Sum,p.1.ID,p.2.ID,0⟩:=by
 unfold D7 at h;rw [(am7 h1).1,(am7 h2).1] at h;have hm:lq<=(if 1>lq then 1 else lq)/\1<=(if 1>lq then 1 else lq):=by grind
 generalize (if 1>lq then 1 else lq)=m at h hm
 by_cases hc:(pJ cs p.1.ID:Int) - pJ cs p.2.ID<=m∨p.2.lV<=(pJ cs p.2.ID:Int)
 ·grind
 ·rw [aQ hc] at h
  unfold adw at h
  cases hf:cs.find? (fun(c:aH)=>BX c l p.1.ID p.2.ID) <;> grind
def Wx(cs:V aH)(l:V aT)(D:V Int)(lq:Int):(iV cs l D lq=⟨0,0,0,0,0,0,0⟩/\moveB cs l D lq=false)∨(aER cs l D lq (iV cs l D lq)/\moveB cs l D lq=true):=by
 unfold moveB iV
 by_cases hm:ku cs=true
 ·rw [aS hm]
  cases hf:(YV cs l D).findSome? (D7 cs l (gK cs l D) lq) with
  | none=>simp
  | some o=>
   right
   obtain⟨p,hp,ho⟩:=List.exists_of_findSome?_eq_some hf;have hp':=ap9.1 hp;rw [aiQ,aiQ] at hp';obtain⟨c,h1,h2,h3,h4,h5,h6⟩:=avC hp'.1 hp'.2 ho;refine⟨⟨hm,p.1,p.2,c,hp'.1,hp'.2,h1,h2,h3,h4,h5,h6⟩,?_⟩;have h7:=CJ _ _ (kK.1 hm).2.2 c.ID (eX.2 ⟨c,h1,rfl⟩)
   grind
 grind
def aqa(c:aH):oo [] c=c:=by
 unfold oo;rw [DT.2 (λx _=>by simp [mQ])]
theorem aqb(l:V aH):zV l []=l:=by
 unfold zV; rw [show oo []=id from funext aqa,List.map_id]
theorem am8{cs:V aH}(hm:ku cs=true)(id:Int):(ofL cs id).length=pJ cs id:=by
 grind [ofL,pJ,wY,List.length_map]
theorem Jl{l:V aT}(hm:tN l=true){n:aT}(hn:n∈l):jY l n.ID=true/\gJ l n.ID=n:=by
 have hb:jY l n.ID=true:=by
  unfold jY; rw [xg hm]; exact(uh (key:=aT.ID) (E9 _ 0 hm) _).2 (by grind)
 refine⟨hb,?_⟩;unfold jY at hb;obtain⟨x,hx,hk⟩:=qc (key:=aT.ID) hb;rw [qP hb hx];have h3:=dz hx;rw [xg hm] at h3;exact Rl (E9 _ 0 hm) h3 hn hk
def Jm{l:V aH}(hm:ku l=true)(ds:V aL):ku (zV l ds)=true:=by
 have h:=kK.1 hm;refine kK.2 ⟨λc hc=>?_,by grind [CU],?_⟩
 ·obtain⟨c0,h0,rfl⟩:=eX.1 hc
  grind [nQ,oo,oF,rU,UA,List.filter_sublist]
 ·have e:(zV l ds).map aH.ID=l.map aH.ID:=by unfold zV; rw [Qs]; rfl
  grind
def Jo{l:V aH}(hm:ku l=true)(ds:V aL){c:aH}(hc:c∈l):gQ (zV l ds) c.ID=true/\aV (zV l ds) c.ID=oo ds c:=
 uy (Jm hm ds) (c:=oo ds c) (eX.2 (by grind))
theorem avD(l:V fJ)(x:bq)(id:Int):nX (PL l x) id=if x.To=id then nX l id+1 else nX l id:=by
 grind [PL,nX,id]
def avE{cs:V aH}{ns:V aT}(hm:tN ns=true){n:aT}(hn:n∈ns)(ls:V bq):(pJ cs n.ID:Int)<=nX (iQ cs ns ls) n.ID:=by
 have key:∀(ls:V bq)(l:V fJ),nX l n.ID<=nX (ls.foldl PL l) n.ID:=by
  intro ls
  induction ls with
  | nil=>simp
  | cons x ls ih=>grind [avD]
 refine Vq ?_ (key ls _)
 have h0:nX (oq cs ns) n.ID=(pJ cs n.ID:Int):=by
  unfold oq nX; rw [aS hm]
  cases hf:(ns.map fun(n:aT)=>(⟨n.ID,(pJ cs n.ID:Int)⟩:fJ)).find? (fun(x:fJ)=>decide (x.Node=n.ID)) with
  | none=>exact absurd (EZ.1 hf ⟨n.ID,(pJ cs n.ID:Int)⟩ (by grind)) av
  | some y=>
   grind
 omega
def am9{l:V aT}{D:V Int}{aX:V fJ}{bX:V Int}:∀(aYc:V aT)(b:Option aT),(∀ t,b=some t->t∈l/\Ce l D aX bX t.ID=true)->(∀ n∈aYc,n∈l)->∀ t,aYc.foldl (tgF l D aX bX) b=some t->t∈l/\Ce l D aX bX t.ID=true
 | [],b,hb,_,t,h=>hb t h
 | n::aYc,b,hb,hM,t,h=>by
  refine am9 aYc (tgF l D aX bX b n) (λu hu=>?_) (λn hn=>hM n (kL _ hn)) t h;unfold tgF at hu
  split at hu
  ·rename_i hp
   split at hu
   ·cases hu; exact⟨hM _ mO,hp⟩
   ·split at hu
    ·cases hu; exact⟨hM _ mO,hp⟩
    ·cases hu; exact hb _ rfl
  ·exact hb u hu
def afo{l:V aT}{D:V Int}{aX:V fJ}{bX:V Int}{t:aT}(h:vB l D aX bX l=some t):t∈l/\Ce l D aX bX t.ID=true:=
 am9 l none av av t h
def aiR{l:V bq}{yU:V Int}{dG:Int}(h:Fz l yU dG=true):Cc l yU dG∈yU:=by
 grind [Fz,Cc,M6]
structure aKJ (x:Ic) (aYc:List dW) (o:aL):Prop where
  ex:∃ n∈aYc,∃ l,xu x (aV x.ks n.X) (aV x.dH n.X) l=true/\o=Ew (aV x.ks n.X) (uX x (aV x.dH n.X) l) (yY (tJ x (aV x.ks n.X) l)) x.u
def ana{x:Ic}{c d:aH}{h:Int}:∀(f:Nat)(l:V bq)(o:V aL),∀ z∈(LK x c d h f (l,o)).2,z∈o∨∃ l,xu x c d l=true/\z=Ew c (uX x d l) (yY (tJ x c l)) x.u
 | 0,_,_,z,hz=>.inl hz
 | f+1,l,o,z,hz=>by
  unfold LK at hz
  split at hz
  ·rename_i hc
   rcases ana f _ _ z hz with h1 | h1
   ·unfold xV at h1
    split at h1
    ·rcases j5.1 h1 with h2 | h2
     ·exact .inl h2
     ·exact .inr ⟨l,hc.2,mU.1 h2⟩
    ·exact .inl h1
   ·exact .inr h1
  ·exact .inl hz
def afp{x:Ic}:∀(aYc:V dW)(s:V bq × V aL),∀ z∈(qH x aYc s).2,z∈s.2∨aKJ x aYc z
 | [],_,z,hz=>.inl hz
 | n::aYc,s,z,hz=>by
  rcases afp aYc (J8 x s n) z hz with h1 | ⟨n',hn,l,h2,h3⟩
  ·rcases ana 100 s.1 s.2 z h1 with h2 | ⟨l,h2,h3⟩
   ·exact .inl h2
   ·exact .inr ⟨n,mO,l,h2,h3⟩
  ·exact .inr ⟨n',kL _ hn,l,h2,h3⟩
structure afq (m:bY) (s:fQ) (r:ARules) (Z:Int) (o:aL):Prop where
  is_:gQ m.J o.X=true
  there:jY m.aM o.To=true
  fr:(aV m.J o.X).aD.contains o.jm=true
  nZ:(aV m.J o.X).aD.contains o.To=false
  al:(vV s r Z).contains o.jm=true
  bl:(vV s r Z).contains o.To=true
  gf:(mQ (eT s Z).bn o.X).contains o.jm=false
  gt:(mQ (eT s Z).bn o.X).contains o.To=false
  st:(gJ m.aM o.To).fT=0
  ver:o.E=(aV m.J o.X).E
  sum:o.Sum=(aV m.J o.X).Sum
  til:o.iK=Z+r.gV
  bB:((ofL m.J o.To).length:Int)<(gJ m.aM o.To).lV
def O4{ds:V aL}{c:aH}{h:Int}:h∈(oo ds c).aD↔h∈c.aD/\(mQ ds c.ID).contains h=false:=by
 simp [oo]
theorem avF{m:bY}{s:fQ}{r:ARules}{Z:Int}(hm:ku m.J=true){o:aL}(h:aKJ (Eb m s r Z) (TY m s r Z) o):afq m s r Z o/\o.Kind=0:=by
 obtain⟨n,hn,l,hg,rfl⟩:=h;obtain⟨c1,hc1,_,rfl⟩:=Qf.1 hn;obtain⟨c,hc,rfl⟩:=eX.1 hc1;have h1:gQ m.J c.ID=true/\aV m.J c.ID=c:=uy hm hc;have h2:=Jo hm (eT s Z).bn hc;have e1:aV (Eb m s r Z).ks (Nb m.aM (vV s r Z) (oo (eT s Z).bn c)).X=c:=h1.2;have e2:aV (Eb m s r Z).dH (Nb m.aM (vV s r Z) (oo (eT s Z).bn c)).X=oo (eT s Z).bn c:=h2.2;rw [e1,e2] at hg ⊢;unfold xu at hg
 simp only [bK] at hg
 cases ht:tJ (Eb m s r Z) c l with
 | none=>grind
 | some t=>
  have h3:=afo (show vB m.aM (vV s r Z) _ (J7 (Eb m s r Z) c l) m.aM=some t from ht);have h4:=RA h3.1 h3.2;have h5:=aiR hg.1.2;have h6:uX (Eb m s r Z) (oo (eT s Z).bn c) l∈J6 (vV s r Z) (oo (eT s Z).bn c):=h5;unfold J6 at h6
  simp only [jJ,Bool.not_not] at h6
  have h7:=O4.1 h6.1;have h8:(J7 (Eb m s r Z) c l).contains t.ID=false:=h4.2.2.2.2.1;have h9:t.ID∉c.aD/\t.ID∉mQ (eT s Z).bn c.ID:=by simp_all [J7,Eb]
  have hb:=Jl h4.1 h3.1;have hld:=avE (cs:=m.J) h4.1 h3.1 l;refine⟨⟨h1.1,hb.1,?_,?_,h6.2,h4.2.2.2.1,?_,?_,?_,?_,?_,Y,?_⟩,Y⟩
  ·grind
  ·show(aV m.J c.ID).aD.contains t.ID=false
   grind
  ·grind
  ·exact Cm.2 λhh=>h9.2 (nG.1 hh)
  ·show(gJ m.aM t.ID).fT=0
   grind
  ·grind
  ·grind
  ·show((ofL m.J t.ID).length:Int)<(gJ m.aM t.ID).lV
   grind [am8]
def Jp{ls:V bq}{ks:V aH}{ns:V aT}{D:V Int}{bQ u:Int}{aYc:V aH}{o:aL}(h:o∈xI ls ks ns D bQ u aYc):∃ c∈aYc,(trE ls ks ns D bQ c).2=true/\(jB ls c.ID).length=0/\o=U6 c (trE ls ks ns D bQ c).1 u:=by
 obtain⟨c,hc,h1⟩:=ML.1 h
 grind [Pj]
def anb{l:V aT}{D:V Int}{x:aT}(h:x∈xH l D):tN l=true/\x∈l/\x.fT=0/\D.contains x.ID=true:=by
 grind [xH,arG]
def anc{m:bY}{s:fQ}{r:ARules}{Z:Int}{o:aL}(h:o∈pF m s r Z):rdB m r=true/\((afq m s r Z o/\o.Kind=0)∨(o∈uY m s r Z/\o.Kind=1)):=by
 unfold pF at h
 split at h
 ·rename_i hb
  refine⟨hb,?_⟩;have hm:ku m.J=true:=by grind [rdB]
  have key:∀ z∈(uH m s r Z).2++uY m s r Z,(afq m s r Z z/\z.Kind=0)∨(z∈uY m s r Z/\z.Kind=1):=by
   intro z hz
   rcases j5.1 hz with h1 | h1
   ·rcases afp _ _ z h1 with h2 | h2
    all_goals grind [avF]
   ·obtain⟨c,_,_,_,h3⟩:=Jp h1
    exact .inr ⟨h1,by rw [h3]; rfl⟩
  unfold rdO at h
  split at h
  ·rename_i hq
   unfold RX at h
   split at h
   ·rename_i hbq
    unfold xV at h
    split at h
    ·rcases j5.1 h with h1 | h1
     ·grind
     ·left
      have hd:(eT s Z).bn=[]:=by
       unfold rdQ at hq; simp only [bK,bN] at hq;have:=hq.2; rw [jH] at this;exact xY aj
      have hs:FE m s Z=m.J:=by grind [FE,aqb]
      unfold Ph at hbq;rw [hs] at hbq h1
      simp only [bK] at hbq
      rcases Wx m.J m.aM (vV s r Z) r.eF with ⟨_,h2⟩ | ⟨⟨_,x,y,c,hx,hy,hc,_,_,h4,h5,h6⟩,_⟩
      ·grind
      ·rw [h6] at h1
       have hf:=uy hm hc;have e1:aV m.J c.ID=c:=hf.2
       simp only [e1] at h1
       obtain rfl:=mU.1 h1;have hx':=anb hx; have hy':=anb hy;have hb':=Jl hy'.1 hy'.2.1;unfold BX at h5
       simp only [bK,dZ] at h5
       refine⟨⟨hf.1,hb'.1,?_,?_,hx'.2.2.2,hy'.2.2.2,?_,?_,?_,?_,?_,Y,?_⟩,Y⟩
       ·grind
       ·grind
       ·rw [hd]; rfl
       ·rw [hd]; rfl
       all_goals grind [am8]
    grind
   grind
  grind
 grind
def NP:∀ {h:V Int},h.Pairwise (λx y=>x<y)->∀ {fr:Int},fr∈h->(h.filter fun(x9:Int)=>!(decide (x9=fr))).length+1=h.length
 | [],_,_,hm=>by simp at hm
 | a::h,hu,fr,hm=>by
  have h1:=nT.1 hu
  by_cases e:a=fr
  ·subst e
   rw [List.filter_cons_of_neg av,DT.2 (λx hx=>by have:=h1.1 x hx; simp; omega)]; rfl
  ·rw [akK (by simpa using e)]
   have h2:=NP h1.2 ((gW.1 hm).resolve_left (λh=>e h.symm))
   simp only [oO]; omega
theorem avG{cf:Int->Int->Int}{l:V Int}(h:l≠[]):JZ cf l∈l:=by
 have key:∀(l:V Int)(x:Int),l.foldl (λm y=>if 0<cf y m then y else m) x∈x::l:=by
  intro l
  induction l with
  | nil=>simp
  | cons y l ih=>
   grind
 cases l with
 | nil=>grind
 | cons x l=>exact key l x
def avH{c:aH}{l:V aT}{D:V Int}{aX:V fJ}{bQ:Int}(h:(V4 c l D aX bQ).2=true):1<=bQ/\bQ<=(iW c l D).length/\((V4 c l D aX bQ).1∈LH c l D∨(bQ<(iW c l D).length/\(V4 c l D aX bQ).1∈iW c l D)):=by
 unfold V4 at h ⊢
 grind [avG]
def aiS{ls:V bq}{ks:V aH}{ns:V aT}{D:V Int}{bQ u:Int}:∀ {aYc:V aH},Up aH.ID aYc->∀ {c:aH},c∈aYc->(xI ls ks ns D bQ u aYc).filter (fun(o:aL)=>decide (o.X=c.ID))=Pj ls ks ns D bQ u c:=by
 intro aYc
 have hch:∀ c (o:aL),o∈Pj ls ks ns D bQ u c->o.X=c.ID:=by
  intro c o ho;unfold Pj at ho
  split at ho
  ·grind
  ·split at ho
   ·rw [mU.1 ho]; rfl
   grind
 induction aYc with
 | nil=>simp
 | cons d aYc ih=>
  intro hu c hc;have hu':=nT.1 hu;show((Pj ls ks ns D bQ u d)++xI ls ks ns D bQ u aYc).filter _=_;rw [CB]
  rcases gW.1 hc with rfl | hc
  ·rw [DT.2 (by grind),Vd.2 (λo ho=>?_),Aj]
   obtain⟨d,hd,_,_,rfl⟩:=Jp ho;have h1:=hu'.1 d hd;intro h2; have h3:d.ID=c.ID:=iY h2;omega
  ·rw [Vd.2 (λo ho=>?_),MB,ih hu'.2 hc]
   grind
structure aES (m:bY) (s:fQ) (r:ARules) (Z:Int) (o:aL):Prop where
  is_:gQ (FE m s Z) o.X=true
  was:gQ (zV m.J (iM m s r Z).bn) o.X=true
  holds:(aV (FE m s Z) o.X).aD.contains o.To=true
  again:(iW (aV (zV m.J (iM m s r Z).bn) o.X) m.aM (vV s r Z)).contains o.To=false
  many:r.je<=(iW (aV (zV m.J (iM m s r Z).bn) o.X) m.aM (vV s r Z)).length
  bQ:1<=r.je
  ver:o.E=(aV (FE m s Z) o.X).E
  cmd:wG o=⟨0,0,6,o.X,o.To,0⟩
def NQ{l:V Int}{x:Int}(h:x∉l):l.contains x=false:=by grind
def aqc(a b:V aL)(id:Int):mQ (a++b) id=mQ a id++mQ b id:=by simp [mQ]
def afr{m:bY}{s:fQ}{r:ARules}{Z:Int}(hb:rdB m r=true){o:aL}(ho:o∈uY m s r Z):aES m s r Z o:=by
 have hm:l5 r=true/\ku m.J=true:=by simpa [rdB] using hb
 obtain⟨c,hc,hx,hcm,rfl⟩:=Jp ho;obtain⟨c0,h0,rfl⟩:=eX.1 hc
 generalize hi:(trE (uH m s r Z).1 m.J m.aM (vV s r Z) r.je (oo (eT s Z).bn c0)).1=id at *
 have hE:=avH (show(V4 (oo (eT s Z).bn c0) m.aM (vV s r Z) (iQ m.J m.aM (uH m s r Z).1) r.je).2=true from hx);rw [show(V4 (oo (eT s Z).bn c0) m.aM (vV s r Z) (iQ m.J m.aM (uH m s r Z).1) r.je).1=id from hi] at hE;have hD:(iM m s r Z).bn=(eT s Z).bn++uY m s r Z:=by unfold iM; rw [aS hb]
 have hgT:mQ (uY m s r Z) c0.ID=[id]:=by
  have h1:=aiS (ls:=(uH m s r Z).1) (ks:=m.J) (ns:=m.aM) (D:=vV s r Z) (bQ:=r.je) (u:=Z+r.gV) (aYc:=FE m s Z) (adp (Jm hm.2 _)) hc
  have h2:Pj (uH m s r Z).1 m.J m.aM (vV s r Z) r.je (Z+r.gV) (oo (eT s Z).bn c0)=[U6 (oo (eT s Z).bn c0) id (Z+r.gV)]:=by
   unfold Pj; rw [aQ aj,aS hx,hi]
  unfold mQ;rw [show(uY m s r Z).filter (fun(o:aL)=>decide (o.X=c0.ID))=_ from h1.trans h2]; rfl
 have f1:=Jo hm.2 (eT s Z).bn h0;have f2:=Jo hm.2 ((eT s Z).bn++uY m s r Z) h0
 have hH:(oo ((eT s Z).bn++uY m s r Z) c0).aD=(oo (eT s Z).bn c0).aD.filter (fun(x:Int)=>!decide (x=id)):=by
  unfold oo; simp only; rw [aqc,hgT,Vr]
  congr 1; funext x
  rw [ac9]
  simp only [dZ,bK,bV,Cm,ne_eq,nG,j5,mU,not_or,bN]
  exact And.comm
 have hG:iW (oo ((eT s Z).bn++uY m s r Z) c0) m.aM (vV s r Z)=(iW (oo (eT s Z).bn c0) m.aM (vV s r Z)).filter (fun(x:Int)=>!decide (x=id)):=by
  unfold iW Gl; rw [hH,Vr,Vr,Vr,Vr]
  congr 1; funext x
  cases decide (x=id) <;> cases (vV s r Z).contains x <;> cases Ci m.aM x <;> rfl
 have aPr:id∈(oo (eT s Z).bn c0).aD:=by
  rcases hE.2.2 with h | ⟨_,h⟩
  ·exact(jJ.1 h).1
  ·exact(jJ.1 (jJ.1 h).1).1
 have hup:(iW (oo (eT s Z).bn c0) m.aM (vV s r Z)).Pairwise (λx y=>x<y):=
  ((Ob (tQ (Jm hm.2 (eT s Z).bn) _ hc)).filter _).filter _
 refine⟨f1.1,?_,?_,?_,?_,hE.1,?_,Y⟩
 ·rw [hD]; exact f2.1
 ·show(aV (FE m s Z) c0.ID).aD.contains id=true
  rw [show aV (FE m s Z) c0.ID=_ from f1.2]; exact nG.2 aPr
 ·rw [hD]; show(iW (aV _ c0.ID) m.aM (vV s r Z)).contains id=false
  rw [f2.2,hG]; exact NQ av
 ·rw [hD]; show r.je<=(iW (aV _ c0.ID) m.aM (vV s r Z)).length
  rw [f2.2,hG]
  rcases hE.2.2 with h | ⟨h1,h⟩
  ·rw [DT.2 (λx hx=>?_)]
   ·exact hE.2.1
   ·have h3:=(jJ.1 h).2
    have h4:=(jJ.1 hx).2
    simp only [dZ,bV]
    rintro rfl;unfold adC at h3; unfold Ci at h4
    simp only [aA] at h3 h4
    exact h3.1.2 h4.2
  ·have h5:=NP hup h
   omega
 ·show c0.E=(aV (FE m s Z) c0.ID).E
  rw [show aV (FE m s Z) c0.ID=_ from f1.2]; rfl
end
section
def avI{m:bY}(hm:lU m=true){x:eU}(h7:x.Kind≠7)(h0:x.Client=0):∀ y∈m.J,∃ z∈(rJ m x).J,z.ID=y.ID:=by
 intro y hy
 rcases(wL hm h7 h0).1 with h | ⟨hk,h1,h2,h⟩ | ⟨c,hk,hc,hi,h⟩ | ⟨c,H,hk,hc,hi,hv,hs,hn,hH,hl,h⟩ | ⟨c,H,hk,hc,hi,hn,hH,hl,h⟩
 ·grind
 ·grind
 all_goals
  by_cases he:y.ID=x.A
  ·simp_all
  grind
def afs:∀(l:V eU){m:bY},lU m=true->(∀ x∈l,x.Kind≠7/\x.Client=0)->∀ y∈m.J,∃ z∈(CW m l).J,z.ID=y.ID
 | [],m,_,_=>λy hy=>⟨y,hy,rfl⟩
 | x::l,m,hm,hl=>λy hy=>by
  have hx:=hl x mO;obtain⟨z,hz,h1⟩:=avI hm hx.1 hx.2 y hy;obtain⟨u,hu,h2⟩:=afs l (nP hm x) (λy hy=>hl y (kL _ hy)) z hz;exact⟨u,hu,h2.trans h1⟩
def azH{m:bY}(hm:lU m=true){x:eU}(h6:x.Kind=6)(h0:x.Client=0):∀ y∈(rJ m x).J,y.ID=x.A->x.B∉y.aD:=by
 intro y hy he hb;have hc:=(dD.1 hm).2.1
 rcases(wL hm aj h0).1 with h | ⟨hk,_,_,_⟩ | ⟨c,hk,_,_,_⟩ | ⟨c,H,hk,_,_,_,_,_,_,_,_⟩ | ⟨c,H,hk,hc',hi,hn,hH,hl,h⟩
 ·have hy':=hy
  rw [h] at hy';have ho:=(kK.1 hc).1 _ hy';have hf:=uy hc hy';have hz:(jk x.B y).2=0:=by unfold jk; rw [aS ((Q5 ho _).2 hb)]
  have hg:gU m.J x.A (jk x.B)=(m.J.set (low (fun(y:aH)=>bL y.ID x.A) m.J) (jk x.B y).1,0):=by
   rw [<- he,adq hc hf.1,hf.2,aS hz]
  have e:(rJ m x).J=m.J.set (low (fun(y:aH)=>bL y.ID x.A) m.J) (jk x.B y).1:=by
   have e1:(yN m x).2.1=m.J.set (low (fun(y:aH)=>bL y.ID x.A) m.J) (jk x.B y).1:=by grind [ZI]
   have e2:¬ (dS m x).2<0:=by
    unfold dS; rw [aQ (by grind),aS h0]; show ¬ Ie (yN m x).2.2.1 _<0;rw [ZI h6]; show ¬ Ie (gU m.J x.A (jk x.B)).2 0<0;rw [hg]; show ¬ (if(0:Int)≠0 then -(0:Int) else 0)<0; decide
   unfold rJ; rw [aQ e2];unfold dS; rw [aQ (by grind),aS h0]; exact e1
  have hi:=(yI hc hf.1).1;rw [hf.2,he] at hi;rw [h] at e;have h9:=aY (fun(q:V aH)=>q[low (fun(y:aH)=>bL y.ID x.A) m.J]?) e;rw [u7 (aP hi),hi] at h9; injection h9 with h9;have hw:=(GA ho hz).2.1;have hn:=(acE ho hb x.B);rw [h9,hw] at hb;exact(hn.1 hb).1 Y
 all_goals grind
theorem qb{s:fQ}{Z:Int}{o:aL}:o∈(eT s Z).bn↔o∈s.bn/\Z<=o.iK:=by
 show o∈s.bn.filter _↔_
 simp [ab4]
theorem Vt{s:fQ}{Z c n:Int}:wo s Z c n=false↔∀ o∈(eT s Z).bn,¬ (o.X=c/\o.To=n):=by
 simp [wo]
def QG{cs:V aH}{n:Int}{l:V aI}:∀ x∈jS cs n l,x.B=n/\x.Client=0/\((x.Kind=5/\∃ c∈cs,x.A=c.ID/\x.C=c.E/\Jj l c=true)∨(x.Kind=6/\∃ c∈cs,x.A=c.ID/\Jj l c=false/\n∈c.aD)):=by
 intro x hx; unfold jS at hx; split at hx
 ·obtain⟨c,hcs,hc⟩:=ML.1 hx
  unfold recC at hc
  split at hc
  ·rename_i h1; rw [mU.1 hc]; simp at h1
   exact⟨Y,Y,.inl ⟨Y,c,hcs,Y,Y,by unfold Jj; simpa using h1.1⟩⟩
  ·split at hc
   ·rename_i h1; rw [mU.1 hc]; simp at h1
    exact⟨Y,Y,.inr ⟨Y,c,hcs,Y,by unfold Jj; simpa using h1.1,h1.2⟩⟩
   grind
 grind
theorem CY{m:bY}{s:fQ}{r:ARules}{Z:Int}{o:aL}(h:o∈uY m s r Z):o.Kind=1/\o.jm=o.To/\o.iK=Z+r.gV/\∃ c∈m.J,o.X=c.ID/\o.E=c.E/\o.Sum=c.Sum:=by
 obtain⟨c,hc,_,_,rfl⟩:=Jp h;obtain⟨c0,h0,rfl⟩:=eX.1 hc;exact⟨Y,Y,Y,c0,h0,Y,Y,Y⟩
end
section
def aqd{S0:Nat->Prop}(w:World){FT:ah}{FU:Nat}{report:V aI}(DF:Sl bg S0 w FT FU report)(c:aH){Dq:ah}{CO:Nat}(IE:Sl dN S0 w Dq CO c.aD):bM prog 103 #[.slice FT report.length FU,.agg #[O c.ID,O c.E,gP c.Sum,.slice Dq c.aD.length CO]] w λv w'=>v=.bool (report.any (fun(x:aI)=>Bo x c))/\Hp w S0 w' []:=by
 refine lg S0 func103 ntmps103 Y λH0=>?_;have aFX:=DF.bI;refine rg<|bx Y Y H0 λg1 w1 K1=>fE Y<|aZ<|kX Y<|dF<|Lp K1 (λl0 rk mJ lJ wJ=>∃ k,lJ=(5,O ((k:Nat):Int))::l0/\mJ=report.length - k/\k<=report.length/\(∀ y∈report.take k,(fun(x:aI)=>Bo x c=false) y)/\Hp w S0 wJ rk) ⟨0,Y,Y,fI _,av,K1⟩ rfl ?_
 rintro _ _ w2 ⟨k,rfl,rfl,hk,hno,K2⟩;refine aZ<|gD Y<|mv Y<|ev (jf pE Y)<|ev (iH Y Y)<|dn<|bS Y (λP5=>?_) (λP5=>?_)
 ·replace P5:=iY P5;refine jQ ?_;refine aZ<|dF<|pC 3 Y ?_
  obtain⟨x1,bT⟩:=bH (xs:=report) (i:=k) aj;refine ev (d9 (i:=k) pE pR Y Y Y (aP bT) ((K2.a DF).some_ bT))<|ev (iR pU Y Y ((K2.a DF).fF bT))<|al yP Y K2 λg2 w3 K3=>sty Y K3 U Y λw4 K4=>dn<|rg<|jP g2 3 uL K4 U Y<|pq 2 Y<|iJ 6 26 ((!x1.fZ)&&(decide (x1.X=c.ID))) ?_ ?_
  ·cases adk:(!x1.fZ) with
   | true=>
    refine wW g2 0 mI K4 U Y<|wW g1 0 pG K4 s1 Y<|pq 2 Y<|dK Y
   | false=>
    refine pq 6 Y<|dK Y
  refine mv Y<|iJ 6 33 (((!x1.fZ)&&(decide (x1.X=c.ID)))&&(decide (x1.E=c.E))) ?_ ?_
  ·cases apf:((!x1.fZ)&&(decide (x1.X=c.ID))) with
   | true=>
    have aBm:=apf
    try simp only [aA] at aBm
    refine wW g2 1 sJ K4 U Y<|wW g1 1 tO K4 s1 Y<|pq 2 Y<|dK Y
   | false=>
    refine pq 6 Y<|dK Y
  refine mv Y<|iJ 6 40 ((((!x1.fZ)&&(decide (x1.X=c.ID)))&&(decide (x1.E=c.E)))&&(decide (x1.Sum=c.Sum))) ?_ ?_
  ·cases aKK:(((!x1.fZ)&&(decide (x1.X=c.ID)))&&(decide (x1.E=c.E))) with
   | true=>
    have aKL:=aKK
    try simp only [aA] at aKL
    refine wW g2 2 SI K4 U Y<|wW g1 2 JH K4 s1 Y<|pq 2 Y<|dK Y
   | false=>
    refine pq 6 Y<|dK Y
  refine dn<|bS Y (λY2=>?_) (λY2=>?_)
  ·refine kX Y<|jE (jM (gG (gG (jM (gG (uo Y ?_))))))
   have gy:(true:Bool)=(report.any (fun(x:aI)=>Bo x c)):=by symm; rw [MN]; exact⟨x1,dz bT,by unfold Bo; exact Y2⟩
   exact⟨by rw [<- gy] <;> rfl,K4.z⟩
  refine Gw ?_;refine jN<|mv Y<|ev (eG Y Y)<|oJ Y<|jO<|dX ⟨(k+1),Y,Y,aj,by exact ug (q:=fun(x:aI)=>Bo x c=false) hno bT (by unfold Bo; exact Y2),(K4.rm U)⟩ rfl aj
 replace P5:=jX P5;refine BU ?_;refine kX Y<|iU Y ?_
 have gH:(false:Bool)=(report.any (fun(x:aI)=>Bo x c)):=by symm; rw [gY aj] at hno; rw [aen]; intro y hy; rw [hno y hy]; decide
 exact⟨by rw [<- gH] <;> rfl,(K2.rm U)⟩
def holdB(c:PC)(x:aH):Bool:=!decide (x.aD.length=0)&&x.aD.all fun(n:Int)=>(Pq c.hs n).any fun(y:aI)=>Bo y x
def F6(c:PC):Bool:=c.m.J.all (holdB c)
def aiT{c:PC}{x:aH}(hx:x∈c.m.J)(h:holdB c x=false):F6 c=false:=by unfold F6; rw [Ur]; exact⟨x,hx,by rw [h]; decide⟩
def ala{c:PC}{x:aH}(h:x.aD.length=0):holdB c x=false:=by unfold holdB; rw [tY h]; rfl
def avJ{c:PC}{x:aH}{n:Int}(hn:n∈x.aD)(h:((Pq c.hs n).any fun(y:aI)=>Bo y x)=false):holdB c x=false:=by
 unfold holdB; rw [ak6]; right; rw [Ur]; exact⟨n,hn,by rw [h]; decide⟩
def aiU{c:PC}{x:aH}(h0:¬ x.aD.length=0)(h:∀ n∈x.aD,((Pq c.hs n).any fun(y:aI)=>Bo y x)=true):holdB c x=true:=by
 unfold holdB; rw [Zc h0,mD.2 h]; rfl
def avK{b w:World}{S:Nat->Prop}{F:V kF}{iy:Nat}{G:GC}(H0:Hp b S w (wu iy G::F))(hok:Ok G.pl):bM prog 46 #[fK iy] w λv w'=>v=.bool (F6 G.pl)/\Hp b S w' (wu iy G::F):=by
 refine qN func46 ntmps46 Y<|pC 5 Y<|gu Y (TF H0 hok) ?_
 rintro _ w1 ⟨KG,KH,aau,aav,aaw,aax,rfl,K1⟩;have La:=(K1.s U).bI;have aBs:=(K1.s s1).bI;have aKM:=(K1.s s2).bI;refine al xK Y K1 λg1 w2 K2=>sty Y K2 U Y λw3 K3=>dn<|aZ<|kX Y<|dF<|qh (λmJ lJ wJ=>∃ k,lJ=[(0,fK iy),(3,fK g1),(4,O ((k:Nat):Int))]/\mJ=G.pl.m.J.length - k/\k<=G.pl.m.J.length/\(∀ y∈G.pl.m.J.take k,holdB G.pl y=true)/\Hp b S wJ (dJ g1 37 [.slice KG G.pl.m.aM.length KH,.slice aau G.pl.m.J.length aav,.slice aaw G.pl.m.aU.length aax]::dI bW KG KH G.pl.m.aM::dI bD aau aav G.pl.m.J::dI cB aaw aax G.pl.m.aU::wu iy G::F)) ⟨0,Y,Y,fI _,av,K3⟩ rfl ?_
 rintro _ _ w4 ⟨k,rfl,rfl,hk,hno,K4⟩;refine aZ<|gD Y<|jP g1 1 jC K4 U Y<|pA 3 Y<|bS Y (λrR=>?_) (λrR=>?_)
 ·replace rR:=iY rR;refine jQ ?_;refine aZ<|dF<|rg<|jP g1 1 jC K4 U Y<|mv Y ?_
  obtain⟨x1,bT⟩:=bH (xs:=G.pl.m.J) (i:=k) aj;refine ev (d9 (i:=k) lT tH Y Y Y (aP bT) ((K4.s s2).some_ bT)) ?_;obtain⟨B1,d1,yG,hi1⟩:=CG (K4.is s2 bT);have H1:=K4.push hi1;refine ev (iR (cs:=[O x1.ID,O x1.E,gP x1.Sum,.slice B1 x1.aD.length d1]) p8 Y Y (Gu yG))<|al lX Y H1 λg2 w5 K5=>sty Y K5 U Y λw6 K6=>dn<|aZ<|rg<|jP g2 3 kr K6 U Y<|pA 3 Y<|bS Y (λhc25=>?_) (λhc25=>?_)
  ·replace hc25:=iY hc25;refine kX Y<|jE (gG (jM (gG (gG (jM (gG (uo Y ?_)))))))
   have gy:(false:Bool)=(F6 G.pl):=by symm; exact aiT (dz bT) (ala aj)
   exact⟨by rw [<- gy] <;> rfl,(K6.cU 0 6)⟩
  replace hc25:=jX hc25;refine jQ ?_;have aSM:=(vo (dD.1 hok.hm).2.1).2 _ (dz bT);refine kX Y<|dF<|qh (λmJ lJ wJ=>∃ kb,lJ=[(0,fK iy),(3,fK g1),(4,O ((k:Nat):Int)),(5,fK g2),(6,O ((kb:Nat):Int))]/\mJ=x1.aD.length - kb/\kb<=x1.aD.length/\(∀ n∈x1.aD.take kb,((Pq G.pl.hs n).any fun(y:aI)=>Bo y x1)=true)/\Hp b S wJ (dJ g2 48 [O x1.ID,O x1.E,gP x1.Sum,.slice B1 x1.aD.length d1]::dI dN B1 d1 x1.aD::dJ g1 37 [.slice KG G.pl.m.aM.length KH,.slice aau G.pl.m.J.length aav,.slice aaw G.pl.m.aU.length aax]::dI bW KG KH G.pl.m.aM::dI bD aau aav G.pl.m.J::dI cB aaw aax G.pl.m.aU::wu iy G::F)) ⟨0,Y,Y,fI _,av,K6⟩ rfl ?_
  rintro _ _ w7 ⟨kb,rfl,rfl,hkb,hnn,K7⟩;refine aZ<|gD Y<|jP g2 3 kr K7 U Y<|pA 3 Y<|bS Y (λaal=>?_) (λaal=>?_)
  ·replace aal:=iY aal;refine jQ ?_;refine aZ<|dF ?_
   obtain⟨x2,nE⟩:=bH (xs:=x1.aD) (i:=kb) aj;refine He K7 (λ_ K=>K) (λl0 rk lJ wJ=>lJ=(7,.bool ((Pq G.pl.hs x2).any (fun(x:aI)=>Bo x x1)))::l0/\Hp b S wJ rk) (λhns H2=>?_) ?_
   ·refine lF 0 Y Y H2<|mK 1 2 g2 3 kr U Y H2<|lF 3 Y Y H2<|kI 4 Y (λ_ hK=>d9 (i:=kb) gq wX Y Y Y (aP nE) ((hK.s s1).some_ nE)) H2<|kI 5 Y (λ_ hK=>kG jF Y ((hK.s s1).eZ (j:=0) nE Y)) H2<|kI 7 Y (λ_ hK=>fA p8 Y Y (hK.x U)) H2<|O1 6 Y<|gu Y (ak4 ((H2.mV 0 6).sel s6) x2 hok) ?_
    rintro _ w8 ⟨JQ,JR,rfl,K8⟩;have aGP:=(K8.o U).bI;have k1:=(((K8.rm U).sel U).mV 1 6);refine aO k1<|O1 8 Y<|mX K8 Y (aqd _ (K8.o U) x1 (K8.s s3).any) λw9 K9=>?_
    have k2:=(((K9.rm U).sel U).mV 1 6);refine aO k2<|xC 9 Y Y k2<|Dn ⟨Y,(((K9.rm U).sel U).mV 1 6)⟩ Y
   rintro _ PE ⟨rfl,K10⟩;refine gD Y<|ev (wC Y)<|dn<|bS Y (λyt=>?_) (λyt=>?_)
   ·try simp only [aA] at yt
    refine kX Y<|jE (jM (gG (gG (jM (jM (gG (gG (jM (gG (uo Y ?_))))))))))
    have gH:(false:Bool)=(F6 G.pl):=by symm; exact aiT (dz bT) (avJ (dz nE) (by first | exact hfalse | simp_all))
    exact⟨by rw [<- gH] <;> rfl,(K10.cU 0 6)⟩
   try simp only [aA] at yt
   refine Gw ?_;refine jN<|mv Y<|ev (eG Y Y)<|oJ Y<|jO<|dX ⟨(kb+1),Y,Y,aj,by exact ug (q:=λn=>((Pq G.pl.hs n).any fun(y:aI)=>Bo y x1)=true) hnn nE (by simp_all),K10⟩ rfl aj
  replace aal:=jX aal;refine tu (mG (mG (tZ (iF (fV ?_)))));refine jN<|mv Y<|ev (eG Y Y)<|oJ Y<|jO<|dX ⟨(k+1),Y,Y,aj,by exact ug (q:=λy=>holdB G.pl y=true) hno bT (aiU aj (by rw [gY aj] at hnn; exact hnn)),(K7.cU 0 2)⟩ rfl aj
 replace rR:=jX rR;refine BU ?_;refine kX Y<|iU Y ?_
 have kN:(true:Bool)=(F6 G.pl):=by symm; unfold F6; rw [mD]; rw [gY aj] at hno; exact hno
 exact⟨by rw [<- kN] <;> rfl,(K4.cU 0 4)⟩
end
section
def aiV(l:List aI)(x:aH):Prop:=∃ y∈l,y.X=x.ID/\y.E=x.E/\y.Sum=x.Sum
def kA(l:List aH):Prop:=∀ x∈l,∃ n,n∈x.aD
def kB(l:List aH)(hs:jc):Prop:=∀ x∈l,∀ n∈x.aD,∃ h,cZ n hs=some h/\aiV h.l x
def TJ(l:List aH)(y:aI):Prop:=∃ x∈l,x.ID=y.X/\y.E<=x.E/\(y.E=x.E->y.Sum=x.Sum)
def kE(l:List aH)(hs:jc):Prop:=∀ z h,cZ z hs=some h->∀ y∈h.l,TJ l y/\((gI (oH (⟨y.X,false⟩:bP) h.d)).toNat:Int)=y.Sum
def kT(l:List aH)(aYb:List aL)(Z:Int):Prop:=∀ p∈aYb,Z<=p.iK->∃ x∈l,x.ID=p.X/\p.E<=x.E/\(p.E=x.E->p.To∉x.aD)
def aiW(l:List aH)(aYb:List aL)(Z:Int)(o:aL):Prop:=∃ x∈l,x.ID=o.X/\o.E<=x.E/\(o.E=x.E->o.iK<Z∨o∈aYb)
def kD(l:List aH)(I aYb:List aL)(Z:Int):Prop:=∀ o∈I,o.Kind≠0->aiW l aYb Z o
structure Keep (c:PC):Prop where
  a:kA c.m.J
  b:kB c.m.J c.hs
  e:kE c.m.J c.hs
  t:kT c.m.J c.s.bn c.Z
  d:kD c.m.J c.I c.s.bn c.Z
def aET(r:ARules):Keep (Jh r):=
 ⟨λx hx=>absurd hx (by simp [Jh]),λx hx=>absurd hx (by simp [Jh]),λz h hg=>absurd hg (by simp [Jh,cZ]),λp hp=>absurd hp (by simp [Jh]),λp hp=>absurd hp (by simp [Jh])⟩
def TJ.same{l q:V aH}(hs:kS l q){y:aI}(h:TJ l y):TJ q y:=by
 obtain⟨x,hx,h1,h2,h3⟩:=h; obtain⟨z,hz,a1,a2,a3⟩:=hs.1 x hx;exact⟨z,hz,a1.trans h1,aj,λh=>by rw [a3]; exact h3 aj⟩
def kE.same{l q:V aH}(hs:kS l q){H:jc}(h:kE l H):kE q H:=λz u hg y hy=>⟨(h z u hg y hy).1.same hs,(h z u hg y hy).2⟩
def aiW.same{l q:V aH}(hs:kS l q){aYb:V aL}{Z:Int}{o:aL}(h:aiW l aYb Z o):aiW q aYb Z o:=by
 obtain⟨x,hx,h1,h2,h3⟩:=h; obtain⟨z,hz,a1,a2,a3⟩:=hs.1 x hx;exact⟨z,hz,a1.trans h1,aj,λh=>h3 aj⟩
def kD.same{l q:V aH}(hs:kS l q){I aYb:V aL}{Z:Int}(h:kD l I aYb Z):kD q I aYb Z:=λo ho h0=>(h o ho h0).same hs
def abw(hs:jc)(aYb:List aL)(Z:Int)(l:List aH)(x:eU):Prop:=
  x.Client=0/\(x.Kind=1∨x.Kind=2∨x.Kind=5)/\(x.Kind=5->∀ c∈l,c.ID=x.A->c.E=x.C->(∃ h,cZ x.B hs=some h/\aiV h.l c)/\∀ p∈aYb,Z<=p.iK->p.X=c.ID->p.To=x.B->p.E≠c.E)
def abw.same{hs:jc}{aYb:V aL}{Z:Int}{l q:V aH}{x:eU}(hs3:kS l q)(h:abw hs aYb Z l x):abw hs aYb Z q x:=⟨h.1,h.2.1,λh5 c hc hi hv=>by
 obtain⟨c0,hc0,e1,e2,e3⟩:=hs3.2 c hc;obtain⟨⟨h',hg,y,hy,y1,y2,y3⟩,hp⟩:=h.2.2 h5 c0 hc0 (by grind) (by grind)
 exact⟨⟨h',hg,y,hy,y1.trans e1.symm,y2.trans e2.symm,y3.trans e3.symm⟩,λp hp1 hp2 hp3 hp4=>by rw [e2]; exact hp p hp1 hp2 (hp3.trans e1) hp4⟩⟩
def abw.k{hs:jc}{aYb:V aL}{Z:Int}{l:V aH}{x:eU}(h:abw hs aYb Z l x):x.Kind=1∨x.Kind=2∨x.Kind=5∨x.Kind=6:=by have:=h.2.1; omega
def avL{m:bY}(hm:lU m=true){x:eU}{hs:jc}{aYb:V aL}{Z:Int}(hx:abw hs aYb Z m.J x)(hb:kB m.J hs)(ht:kT m.J aYb Z):kB (rJ m x).J hs/\kT (rJ m x).J aYb Z:=by
 have hk:=hx.2.1;have hu:=lS (dD.1 hm).2.1
 rcases(wL hm aj hx.1).1 with h | ⟨hk',_,_,_⟩ | ⟨c,hk',_,_,_⟩ | ⟨c,H,hk',hc,hi,hv,hs',hn,hH,hl,h⟩ | ⟨c,H,hk',_,_,_,_,_,_⟩
 ·rw [h]; exact⟨hb,ht⟩
 ·omega
 ·omega
 ·have hq:=hx.2.2 hk' c hc hi hv.symm
  refine⟨λy hy n hn'=>?_,λp hp Vu=>?_⟩
  ·rcases(h y).1 hy with rfl | ⟨hy,_⟩
   ·rcases(hH n).1 hn' with rfl | h2
    ·exact hq.1
    ·exact hb c hc n h2
   ·exact hb y hy n hn'
  ·obtain⟨x0,hx0,e1,e2,e3⟩:=ht p hp Vu
   by_cases he:x0.ID=x.A
   ·have:=lI hu hx0 hc (he.trans hi.symm); subst this
    refine⟨_,(h _).2 (.inl Y),e1,e2,λhv2 hm2=>?_⟩
    rcases(hH _).1 hm2 with h2 | h2
    ·exact hq.2 p hp Vu e1.symm h2 hv2
    ·exact e3 hv2 h2
   ·exact⟨x0,(h _).2 (.inr ⟨hx0,he⟩),e1,e2,e3⟩
 ·omega
def avM{hs:jc}{aYb:V aL}{Z:Int}:∀(l:V eU){m:bY},lU m=true->(∀ x∈l,abw hs aYb Z m.J x)->kB m.J hs->kT m.J aYb Z->kB (CW m l).J hs/\kT (CW m l).J aYb Z
 | [],m,_,_,hb,ht=>⟨hb,ht⟩
 | x::l,m,hm,hl,hb,ht=>by
  have hx:=hl x mO;have h1:=avL hm hx hb ht;exact avM l (nP hm x) (λy hy=>(hl y (kL _ hy)).same (sN hm hx.1 hx.k)) h1.1 h1.2
def XQ{m:bY}(hm:lU m=true){x:eU}(h0:x.Client=0)(hk:x.Kind=1∨x.Kind=2∨x.Kind=5):∀ y∈(rJ m x).J,∃ c∈m.J,y.ID=c.ID/\y.E=c.E/\y.Sum=c.Sum/\∀ n∈c.aD,n∈y.aD:=by
 rcases(wL hm aj h0).1 with h | ⟨hk',_,_,_⟩ | ⟨c,hk',_,_,_⟩ | ⟨c,H,hk',hc,hi,hv,hs',hn,hH,hl,h⟩ | ⟨c,H,hk',_,_,_,_,_,_⟩
 all_goals grind
def aiX:∀(l:V eU){m:bY},lU m=true->(∀ x∈l,x.Client=0/\(x.Kind=1∨x.Kind=2∨x.Kind=5))->∀ y∈(CW m l).J,∃ c∈m.J,y.ID=c.ID/\y.E=c.E/\y.Sum=c.Sum/\∀ n∈c.aD,n∈y.aD
 | [],m,_,_,y,hy=>⟨y,hy,rfl,rfl,rfl,λn hn=>hn⟩
 | x::l,m,hm,hl,y,hy=>by
  have hx:=hl x mO;obtain⟨c,hc,e1,e2,e3,e4⟩:=aiX l (nP hm x) (λy hy=>hl y (kL _ hy)) y hy;obtain⟨d,hd,f1,f2,f3,f4⟩:=XQ hm hx.1 hx.2 c hc;exact⟨d,hd,e1.trans f1,e2.trans f2,e3.trans f3,λn hn=>e4 n (f4 n hn)⟩
theorem kA.grow{l q:V aH}(h:kA l)(hg:∀ y∈q,∃ c∈l,y.ID=c.ID/\y.E=c.E/\y.Sum=c.Sum/\∀ n∈c.aD,n∈y.aD):kA q:=λy hy=>by
 obtain⟨c,hc,_,_,_,h4⟩:=hg y hy;obtain⟨n,hn⟩:=h c hc
 grind
theorem avN{m:bY}(hm:lU m=true){x:eU}(h5:x.Kind=5)(h0:x.Client=0)(hst:iZ m.aM x.B=true){c:aH}(hc:c∈m.J)(hi:c.ID=x.A)(hv:c.E=x.C):∀ y∈(rJ m x).J,y.ID=x.A->x.B∈y.aD:=by
 intro y hy he;have hcm:=(dD.1 hm).2.1;have hu:=lS hcm
 rcases(wL hm aj h0).1 with h | ⟨hk',_,_,_⟩ | ⟨c,hk',_,_,_⟩ | ⟨d,H,hk',hd,hdi,_,_,hn,hH,hl,h⟩ | ⟨c,H,hk',_,_,_,_,_,_⟩
 ·by_cases hb:x.B∈y.aD
  ·exact hb
  exfalso
  have hy':=hy;rw [h] at hy';have hyc:=lI hu hy' hc (he.trans hi.symm); subst hyc;have ho:=(kK.1 hcm).1 _ hy';have hf:=uy hcm hy';obtain⟨n,hn,hni,_⟩:=(zJ (dD.1 hm).1).1 hst;have hr:=Ou ((qV.1 (dD.1 hm).1).2 n hn);have hz:(pK x.B x.C y).2=0:=by unfold pK; rw [aQ (by rw [hv]; simp),aQ (λh=>hb ((Q5 ho _).1 h))]
  have hg:gU m.J x.A (pK x.B x.C)=(m.J.set (low (fun(y:aH)=>bL y.ID x.A) m.J) (pK x.B x.C y).1,0):=by
   rw [<- he,adq hcm hf.1,hf.2,aS hz]
  have hg2:lu m.J x.A x.B x.C=(m.J.set (low (fun(y:aH)=>bL y.ID x.A) m.J) (pK x.B x.C y).1,0):=by
   unfold lu; rw [aQ aj,hg]
  have e:(rJ m x).J=m.J.set (low (fun(y:aH)=>bL y.ID x.A) m.J) (pK x.B x.C y).1:=by
   have e1:(yN m x).2.1=m.J.set (low (fun(y:aH)=>bL y.ID x.A) m.J) (pK x.B x.C y).1:=by
    rw [ZH h5]; show(if iZ m.aM x.B=true then if(lu m.J x.A x.B x.C).2=0 then(lu m.J x.A x.B x.C).1 else m.J else m.J)=_;rw [aS hst,hg2,aS rfl]
   have e2:¬ (dS m x).2<0:=by
    unfold dS; rw [aQ (by rw [hm]; decide),aS h0]; show ¬ Ie (yN m x).2.2.1 _<0;rw [ZH h5]; show ¬ Ie (if iZ m.aM x.B=true then(lu m.J x.A x.B x.C).2 else 5) 0<0;rw [aS hst,hg2]; show ¬ (if(0:Int)≠0 then -(0:Int) else 0)<0; decide
   unfold rJ; rw [aQ e2];unfold dS; rw [aQ (by rw [hm]; decide),aS h0]; exact e1
  have hi:=(yI hcm hf.1).1;rw [hf.2,he] at hi;rw [h] at e;have h9:=aY (fun(q:V aH)=>q[low (fun(y:aH)=>bL y.ID x.A) m.J]?) e;rw [u7 (aP hi),hi] at h9; injection h9 with h9;have hw:=Og ho (show 1<=x.B by omega) (show x.B<=16 by omega) hz;exact hb (by rw [h9,hw.2.2.1]; exact(amZ ho hb x.B).2 (.inl rfl))
 ·omega
 ·omega
 ·rcases(h y).1 hy with rfl | ⟨_,h2⟩
  ·exact(hH _).2 (.inl rfl)
  ·exact absurd he h2
 ·omega
def aiY{m:bY}(hm:lU m=true){x:eU}(h6:x.Kind=6)(h0:x.Client=0):∀ y∈(rJ m x).J,∃ w∈m.J,y.ID=w.ID/\y.E=w.E/\y.Sum=w.Sum/\∀ n,n∈y.aD↔n∈w.aD/\¬ (x.A=w.ID/\x.B=n):=by
 intro y hy;have hun:=azH hm h6 h0 y hy
 rcases(wL hm aj h0).1 with h | ⟨hk',_,_,_⟩ | ⟨c,hk',_,_,_⟩ | ⟨d,H,hk',_,_,_,_,_,_,_,_⟩ | ⟨c,H,hk',hc,hi,hn,hH,hl,h⟩
 all_goals grind
def NR:∀(l:V eU){m:bY},lU m=true->(∀ x∈l,x.Kind=6/\x.Client=0)->∀ z∈(CW m l).J,∃ y∈m.J,z.ID=y.ID/\z.E=y.E/\z.Sum=y.Sum/\∀ n,n∈z.aD↔n∈y.aD/\∀ x∈l,¬ (x.A=y.ID/\x.B=n)
 | [],m,_,_,z,hz=>⟨z,hz,rfl,rfl,rfl,λn=>⟨λh=>⟨h,λx hx=>absurd hx av⟩,λh=>h.1⟩⟩
 | x::l,m,hm,hl,z,hz=>by
  have hx:=hl x mO;obtain⟨y,hy,e1,e2,e3,e4⟩:=NR l (nP hm x) (λy hy=>hl y (kL _ hy)) z hz;obtain⟨w,hw,f1,f2,f3,f4⟩:=aiY hm hx.1 hx.2 y hy;refine⟨w,hw,e1.trans f1,e2.trans f2,e3.trans f3,λn=>?_⟩;rw [e4,f4]
  constructor
  ·rintro⟨⟨h1,h2⟩,h3⟩
   refine⟨h1,λu hu=>?_⟩
   rcases gW.1 hu with rfl | hu
   ·exact h2
   ·rw [<- f1]; exact h3 u hu
  ·rintro⟨h1,h2⟩
   exact⟨⟨h1,h2 x mO⟩,λu hu=>by rw [f1]; exact h2 u (kL _ hu)⟩
def Jq{l:V eU}{m:bY}(hm:lU m=true)(hl:∀ x∈l,x.Kind=6/\x.Client=0):∀ y∈m.J,∃ z∈(CW m l).J,z.ID=y.ID/\z.E=y.E/\z.Sum=y.Sum/\∀ n,n∈z.aD↔n∈y.aD/\∀ x∈l,¬ (x.A=y.ID/\x.B=n):=by
 intro y hy;obtain⟨z,hz,e1⟩:=afs l hm (by grind) y hy;obtain⟨w,hw,f1,f2,f3,f4⟩:=NR l hm hl z hz;have:=lI (lS (dD.1 hm).2.1) hw hy (f1.symm.trans e1); grind
theorem KP{m:bY}{s:fQ}{r:ARules}{Z:Int}:∀ x∈mM m s r Z,x.Kind=6/\x.Client=0:=by
 intro x hx; unfold mM at hx; split at hx
 ·obtain⟨o,_,rfl⟩:=eX.1 hx; exact⟨rfl,rfl⟩
 grind
def aqe{m:bY}(hm:lU m=true){s:fQ}{r:ARules}{Z:Int}(ha:kA m.J):kA (CW m (mM m s r Z)).J:=by
 intro z hz;have hc:=(dD.1 hm).2.1;obtain⟨y,hy,e1,e2,e3,e4⟩:=NR _ hm KP z hz
 by_cases hb:rdB m r=true
 ·have hC:mM m s r Z=(uY m s r Z).map wG:=by grind [mM]
  by_cases hp:∃ p∈uY m s r Z,p.X=y.ID
  ·obtain⟨p,hp,hpi⟩:=hp
   have hd:=afr hb hp
   obtain⟨g,hg⟩:∃ g,g∈iW (aV (zV m.J (iM m s r Z).bn) p.X) m.aM (vV s r Z):=by
    cases hq:iW (aV (zV m.J (iM m s r Z).bn) p.X) m.aM (vV s r Z) with
    | nil=>have h1:=hd.many; have h2:=hd.bQ; grind
    | cons g l=>simp
   rw [hpi,(Jo hc _ hy).2] at hg;have h1:=(jJ.1 (jJ.1 (jJ.1 hg).1).1);refine⟨g,(e4 g).2 ⟨h1.1,λx hx hb2=>?_⟩⟩;rw [hC] at hx;obtain⟨q,hq,rfl⟩:=eX.1 hx;have hD:(iM m s r Z).bn=(eT s Z).bn++uY m s r Z:=by grind [iM]
   have h2:g∈mQ (iM m s r Z).bn y.ID:=by
    rw [hD]; refine eX.2 ⟨q,jJ.2 ⟨NM _ hq,tY hb2.1⟩,?_⟩;rw [<- (CY hq).2.1]; exact hb2.2
   grind
  ·obtain⟨n,hn⟩:=ha y hy
   refine⟨n,(e4 n).2 ⟨hn,λx hx hb2=>?_⟩⟩;rw [hC] at hx;obtain⟨q,hq,rfl⟩:=eX.1 hx;exact hp ⟨q,hq,hb2.1⟩
 ·obtain⟨n,hn⟩:=ha y hy
  grind [mM,absurd]
theorem avO{c:PC}{k:Nat}(H:Inv c k)(K:Keep c):Keep (tq c):=by
 have hs3:kS c.m.J (tq c).m.J:=xQ _ H.hm OZ
 have hD:∀ p∈c.s.bn,c.Z<=p.iK->p∈(tq c).s.bn:=λp hp hu=>by
  show p∈(iM _ _ _ _).bn; grind [iM,List.mem_append_left,qb]
 refine⟨aqe H.hm K.a,λz hz n hn=>?_,K.e.same hs3,λp hp hu=>?_,λo ho h0=>?_⟩
 ·obtain⟨y,hy,e1,e2,e3,e4⟩:=NR _ H.hm KP z hz
  obtain⟨h,hg,w,hw,f1,f2,f3⟩:=K.b y hy n (by grind);exact⟨h,hg,w,hw,f1.trans e1.symm,f2.trans e2.symm,f3.trans e3.symm⟩
 ·have hp':p∈(iM c.m c.s c.r c.Z).bn:=hp
  have old:p∈c.s.bn->∃ x∈(tq c).m.J,x.ID=p.X/\p.E<=x.E/\(p.E=x.E->p.To∉x.aD):=λhp=>by
   obtain⟨y,hy,f1,f2,f3⟩:=K.t p hp hu;obtain⟨z,hz,e1,e2,e3,e4⟩:=Jq H.hm KP y hy;exact⟨z,hz,e1.trans f1,aj,λhv hn=>f3 aj ((e4 _).1 hn).1⟩
  unfold iM at hp'
  split at hp'
  ·rename_i hb
   rcases j5.1 hp' with hp' | hp'
   ·grind [qb]
   ·obtain⟨_,hf,_,y,hy,f1,f2,f3⟩:=CY hp'
    obtain⟨z,hz,e1,e2,e3,e4⟩:=Jq H.hm KP y hy;refine⟨z,hz,by grind,aj,λhv hn=>?_⟩;refine((e4 _).1 hn).2 (wG p) ?_ ⟨f1,hf⟩;unfold mM; rw [aS hb]; exact eX.2 ⟨p,hp',rfl⟩
  grind
 ·rcases j5.1 (show o∈c.I++pF c.m c.s c.r c.Z from ho) with ho | ho
  ·obtain⟨x,hx,f1,f2,f3⟩:=(K.d o ho h0).same hs3
   refine⟨x,hx,f1,f2,λhv=>?_⟩
   rcases f3 hv with h1 | h1
   ·exact .inl h1
   ·by_cases hu:c.Z<=o.iK
    ·grind
    ·exact .inl (show o.iK<c.Z by omega)
  ·obtain⟨hb,⟨_,h1⟩ | ⟨hT,_⟩⟩:=anc ho
   ·omega
   ·obtain⟨_,hf,_,y,hy,f1,f2,f3⟩:=CY hT
    obtain⟨z,hz,e1,e2,e3⟩:=hs3.1 y hy;refine⟨z,hz,by grind,aj,λ_=>.inr ?_⟩;show o∈(iM _ _ _ _).bn; unfold iM; rw [aS hb]; exact NM _ hT
theorem ane{l:V aH}{hs:jc}{z:Int}{h h2:kV}(hg:cZ z hs=some h)(hh:∀ x∈l,z∈x.aD->aiV h.l x->aiV h2.l x)(hb:kB l hs):kB l (fO z h2 hs):=λx hx n hn=>by
 obtain⟨h',hg',hc⟩:=hb x hx n hn
 grind [lC]
def aiZ{l:V aH}{hs:jc}{z:Int}{h2:kV}(hh:∀ y∈h2.l,TJ l y/\((gI (oH (⟨y.X,false⟩:bP) h2.d)).toNat:Int)=y.Sum)(he:kE l hs):kE l (fO z h2 hs):=λu h hg y hy=>by
 rw [lC] at hg; split at hg
 ·grind
 ·exact he u h hg y hy
def anf{l:V aH}(hu:Up aH.ID l){hs:jc}(hz:Je hs){z:Int}{h:kV}(hg:cZ z hs=some h){c v sum:Int}{data:V (BitVec 8)}(hl:∃ x∈l,x.ID=c/\v<=x.E/\(v=x.E->sum=x.Sum))(hb:kB l hs)(he:kE l hs):kB l (fO z ⟨h.up,h.bB,Ig h.l h.bB c v sum data,tkD h.l h.bB c v sum data h.d⟩ hs)/\kE l (fO z ⟨h.up,h.bB,Ig h.l h.bB c v sum data,tkD h.l h.bB c v sum data h.d⟩ hs):=by
 have hO:=(hz z h hg).l
 cases hk:SS h.l h.bB c v sum data with
 | false=>
  obtain⟨e1,e2⟩:=aiy hO hk (d:=h.d);rw [e1,e2];exact⟨by grind [ane],aiZ (λy hy=>he z h hg y hy) he⟩
 | true=>
  obtain⟨h1,h2,h3,h4⟩:=aar hO hk (d:=h.d);obtain⟨t1,t2,t3,t4,t5⟩:=(afk hO).1 hk;obtain⟨x0,hx0,a1,a2,a3⟩:=hl;refine⟨ane hg (λx hx hn hc=>?_) hb,aiZ (λy hy=>?_) he⟩
  ·obtain⟨y,hy,b1,b2,b3⟩:=hc
   refine⟨y,(h2 y).2 (.inr ⟨hy,λhyc=>?_⟩),b1,b2,b3⟩
   grind [lI]
  ·have hy':y∈Ig h.l h.bB c v sum data:=hy
   show TJ l y/\((gI (oH (⟨y.X,false⟩:bP) (tkD h.l h.bB c v sum data h.d))).toNat:Int)=y.Sum;rw [h4,aQ av]
   rcases(h2 y).1 hy' with rfl | ⟨hy2,hc⟩
   ·rw [aS rfl]; exact⟨⟨x0,hx0,a1,a2,a3⟩,t2⟩
   ·rw [aQ (by grind)]; exact he z h hg y hy2
theorem ai0{hs:jc}(hz:Je hs){z:Int}{h:kV}(hg:cZ z hs=some h){c v sum:Int}{data:V (BitVec 8)}(hk:SS h.l h.bB c v sum data=true):(⟨c,v,sum,false,false⟩:aI)∈Ig h.l h.bB c v sum data:=((aar (hz z h hg).l hk (d:=h.d)).2.1 _).2 (.inl rfl)
def avP{c:PC}{k:Nat}(H:Inv c k)(K:Keep c)(o:aL):Keep (j6 c o):=by
 have hu:=lS (dD.1 H.hm).2.1
 cases hf:cZ o.jm c.hs with
 | none=>rw [SX hf]; exact K
 | some f=>
 cases hb:(!f.up||wo c.s c.Z o.X o.To) with
 | true=>rw [Ny hf hb]; exact K
 | false=>
 by_cases hr:¬ ((rT f.l f.d o.X).2.2=0/\(rT f.l f.d o.X).2.1=o.E/\((gI (rT f.l f.d o.X).1).toNat:Int)=o.Sum)
 ·rw [XA hf hr]; exact K
 replace hr:=Ii.1 hr
 cases ht:cZ o.To c.hs with
 | none=>
  have e:j6 c o=c:=by unfold j6; rw [hf]; simp only; rw [aQ (by rw [hb]; decide),aQ (λh=>h hr),ht]
  rw [e]; exact K
 | some t=>
 obtain⟨x,hx,x1,x2,x3,x4⟩:=aiA (H.hz _ _ hf).l hr.1;obtain⟨x0,hx0,a1,a2,a3⟩:=(K.e _ _ hf x hx).1;have hsum:x.Sum=o.Sum:=by rw [<- x2,<- x3]; exact hr.2.2
 have hl:∃ y∈c.m.J,y.ID=o.X/\(rT f.l f.d o.X).2.1<=y.E/\((rT f.l f.d o.X).2.1=y.E->o.Sum=y.Sum):=
  ⟨x0,hx0,a1.trans x1,by rw [x4]; exact a2,λh=>by rw [<- hsum]; exact a3 (by rw [<- x4]; exact h)⟩
 have hbe:=anf hu H.hz ht hl K.b K.e (data:=(rT f.l f.d o.X).1)
 cases hk:SS t.l t.bB o.X (rT f.l f.d o.X).2.1 o.Sum (rT f.l f.d o.X).1 with
 | false=>rw [SY hf hb hr ht hk]; exact⟨K.a,hbe.1,hbe.2,K.t,K.d⟩
 | true=>
  rw [Nz hf hb hr ht hk];have hno:=Vt.1 (dQ.1 hb).2
  have hC:abw (fO o.To ⟨t.up,t.bB,Ig t.l t.bB o.X (rT f.l f.d o.X).2.1 o.Sum (rT f.l f.d o.X).1,tkD t.l t.bB o.X (rT f.l f.d o.X).2.1 o.Sum (rT f.l f.d o.X).1 t.d⟩ c.hs) c.s.bn c.Z c.m.J (vR o.X o.To (rT f.l f.d o.X).2.1):=by
   refine⟨Y,.inr (.inr Y),λ_ y hy yi yv=>⟨⟨_,by rw [lC,aS rfl],_,ai0 H.hz ht hk,yi.symm,yv.symm,?_⟩,λp hp Vu hpc hpt=>absurd ⟨hpc.trans yi,hpt⟩ (hno p (qb.2 ⟨hp,Vu⟩))⟩⟩;obtain⟨y0,hy0,b1,b2,b3⟩:=hl;have:=lI hu hy hy0 (yi.trans b1.symm); subst this;exact b3 yv.symm
  have hs3:kS c.m.J (rJ c.m (vR o.X o.To (rT f.l f.d o.X).2.1)).J:=sN H.hm rfl hC.k;have hbt:=avL H.hm hC hbe.1 K.t;exact⟨K.a.grow (XQ H.hm Y hC.2.1),hbt.1,hbe.2.same hs3,hbt.2,K.d.same hs3⟩
def avQ{c:PC}{k:Nat}(H:Inv c k)(K:Keep c){o:aL}(hd:o.Kind≠0->aiW c.m.J c.s.bn c.Z o)(hn:c.Z<=o.iK):Keep (mZ c o):=by
 have hu:=lS (dD.1 H.hm).2.1
 by_cases h0:o.Kind=0
 ·unfold mZ; rw [aS h0]; exact avP H K o
 cases ht:cZ o.To c.hs with
 | none=>
      have e:mZ c o=c:=by unfold mZ; rw [aQ h0,ht]
      rw [e]; exact K
 | some t=>
 cases hb:(dL t.l).any (Z8 o) with
 | false=>rw [Z9 h0 ht hb]; exact K
 | true=>
  rw [NA h0 ht hb];have hO:=(H.hz _ _ ht).l;obtain⟨r1,r2,r3,r4⟩:=OV hO o.X (d:=t.d);rw [hO.rest,MN] at hb;obtain⟨y0,hy0,hb⟩:=hb;unfold Z8 at hb; simp at hb;refine⟨K.a,ane ht (λx hx hn2 hc=>?_) K.b,aiZ (λy hy=>?_) K.e,K.t,K.d⟩
  ·obtain⟨y,hy,b1,b2,b3⟩:=hc
   refine⟨y,(r2 y).2 ⟨hy,λhyc=>?_⟩,b1,b2,b3⟩;have:=hO.inj hy hy0 (hyc.trans hb.1.symm); subst this;obtain⟨x0,hx0,a1,a2,a3⟩:=hd h0;have:=lI hu hx hx0 (b1.symm.trans (hyc.trans a1.symm)); subst this
   rcases a3 aj with h | h
   ·omega
   ·obtain⟨x1,bT,c1,c2,c3⟩:=K.t o h hn
    have:=lI hu hx bT (a1.trans c1.symm); subst this;exact c3 aj hn2
  ·have hy':=(r2 y).1 hy
   have he:=K.e _ _ ht y hy'.1
   rcases r4 ⟨y.X,false⟩ with h | ⟨h,_⟩
   ·exact⟨he.1,by show((gI (oH _ (WU t.l o.X t.d))).toNat:Int)=_; rw [h]; exact he.2⟩
   ·injection h with h _; exact absurd h hy'.2
theorem ai1{c:PC}(K:Keep c){I:V aL}(h:∀ o∈I,o∈c.I):Keep { c with I:=I }:=⟨K.a,K.b,K.e,K.t,λo ho=>K.d o (h o ho)⟩
theorem avR{c:PC}{k:Nat}(H:Inv c k)(K:Keep c)(it:AItem):Keep (kM c it).1:=by
 have hw:=H.hw;unfold kM; split
 ·exact K
 split
 ·exact K
 rename_i o ho
 have hmem:=dz ho
 split
 ·refine⟨K.a,K.b,K.e,K.t,λp hp=>?_⟩
  rcases j5.1 hp with hp | hp
  ·exact K.d p hp
  ·rw [mU.1 hp]; exact K.d o hmem
 ·have hs:∀ p∈c.I.take it.A.toNat++c.I.drop (it.A.toNat+1),p∈c.I:=by grind
  show Keep (if _ then _ else _)
  split
  ·rename_i hc
   exact avQ (GZ (k:=k) H (by rw [jH,iX,uj]; omega)) (ai1 K hs) (K.d o hmem) hc.2.1
  grind [ai1]
def Vv{s:fQ}{Z n:Int}{hs:jc}:∀(l:V eU){m:bY},lU m=true->(∀ x∈l,x.Client=0/\x.Kind=5/\(wo s Z x.A n=false->abw hs s.bn Z m.J x))->kA m.J->kB m.J hs->kT m.J s.bn Z->
  kA (lM s Z n m l).J/\kB (lM s Z n m l).J hs/\kT (lM s Z n m l).J s.bn Z
 | [],m,_,_,ha,hb,ht=>⟨ha,hb,ht⟩
 | x::l,m,hm,hl,ha,hb,ht=>by
  have hx:=hl x mO;have hr:=λy hy=>hl y (kL x hy);show kA (lM s Z n (Gm s Z n m x) l).J/\kB (lM s Z n (Gm s Z n m x) l).J hs/\kT (lM s Z n (Gm s Z n m x) l).J s.bn Z;unfold Gm; split
  ·rename_i hc
   rw [hx.2.1] at hc; simp at hc;have hC:=hx.2.2 hc;have hs3:=sN hm hx.1 hC.k;have hbt:=avL hm hC hb ht;exact Vv l (nP hm x) (λy hy=>⟨(hr y hy).1,(hr y hy).2.1,λh=>((hr y hy).2.2 h).same hs3⟩) (ha.grow (XQ hm hx.1 hC.2.1)) hbt.1 hbt.2
  ·exact Vv l hm hr ha hb ht
theorem TK{l:V aI}{x:aH}(h:LA l):Jj l x=true↔aiV l x:=by
 unfold Jj aiV; rw [MN]
 constructor
 ·grind [Bo]
 ·rintro⟨y,hy,h1,h2,h3⟩; refine⟨y,hy,?_⟩; unfold Bo; simp [h1,h2,h3,h.2 y hy]
def aqf{l:V aH}(hl:ku l=true){r:V aI}{z:Int}:z∈lK l r↔∃ y∈r,sZ l y=true/\y.X=z:=by
 unfold lK; rw [aS hl];have hs:((aeK l r).mergeSort fun(x y:Int)=>decide (x<=y)).Pairwise (λx y=>x<=y):=by grind [List.pairwise_mergeSort]
 rw [(ak7 hs).2,List.mem_mergeSort];unfold aeK; grind
def Vw{l:V aH}(hl:ku l=true){h:kV}(hO:LA h.l)(he:∀ y∈h.l,TJ l y){y:aI}(hy:y∈h.l)(hs:y.X∈lK l h.l):∃ x∈l,x.ID=y.X/\y.E<x.E:=by
 obtain⟨w,hw,h1,h2⟩:=(aqf hl).1 hs;have:=hO.inj hw hy h2; subst this;obtain⟨x,hx,a1,a2,a3⟩:=he w hw
 grind [sZ,Bo,uy]
theorem avS{c:PC}{k:Nat}(H:Inv c k)(K:Keep c)(it:AItem){h:kV}(hg:cZ it.A c.hs=some h):Keep (LU c it h):=by
 have hc:=(dD.1 H.hm).2.1;have hu:=lS hc;have hO:=(H.hz _ _ hg).l;have hr:=hO.rest;have hs3:kS c.m.J (lM c.s c.Z it.A c.m (jS c.m.J it.A (dL h.l))).J:=CX _ H.hm XP;have key:=Vv (s:=c.s) (Z:=c.Z) (n:=it.A) (hs:=c.hs) (jS c.m.J it.A (dL h.l)) H.hm (λx hx=>?_) K.a K.b K.t
 ·refine⟨key.1,key.2.1,K.e.same hs3,key.2.2,λo ho h0=>?_⟩
  rcases j5.1 (show o∈c.I++uV _ _ _ _ from ho) with ho | ho
  ·exact(K.d o ho h0).same hs3
  ·unfold uV at ho
   obtain⟨y,hy,rfl⟩:=eX.1 ho;have hy:=jJ.1 hy;have hyl:y∈h.l:=by have:=hy.1; rwa [hr] at this
   have hys:y.X∈lK (lM c.s c.Z it.A c.m (jS c.m.J it.A (dL h.l))).J h.l:=by have:=nG.1 hy.2; rw [hr] at this ⊢; exact this
   obtain⟨x,hx,e1,e2⟩:=Vw (dD.1 (FZ H.hm _)).2.1 hO (λy hy=>((K.e _ _ hg y hy).1.same hs3)) hyl hys;exact⟨x,hx,e1,Int.le_of_lt e2,λh=>absurd h (Int.ne_of_lt e2)⟩
 ·have hi:=QG x hx
  rw [hr] at hi
  rcases hi.2.2 with ⟨h5,d,hd,dA,dC,dR⟩ | ⟨h6,d,hd,dA,dR,dn⟩
  ·refine⟨hi.2.1,h5,λht=>⟨hi.2.1,.inr (.inr h5),λ_ y hy yi yv=>?_⟩⟩
   have:=lI hu hy hd (yi.trans dA); subst this;rw [hi.1];exact⟨⟨h,hg,(TK hO).1 dR⟩,λp hp Vu hpc hpt=>absurd ⟨hpc.trans dA.symm,hpt⟩ (Vt.1 ht p (qb.2 ⟨hp,Vu⟩))⟩
  ·obtain⟨h',hg',hh⟩:=K.b d hd _ dn
   rw [hg] at hg'; injection hg' with hg'; subst hg';rw [(TK hO).2 hh] at dR; exact absurd dR au
def Wy{l:V aT}{D:V Int}:∀(n:Nat)(aX:V fJ)(hs:V Int),∀ z∈tL l D n aX hs,iZ l z=true/\D.contains z=true
 | 0,_,_,z,hz=>absurd hz (by simp [tL])
 | n+1,aX,hs,z,hz=>by
  unfold tL at hz
  split at hz
  ·exact absurd hz av
  ·rename_i t ht
   rcases gW.1 hz with rfl | hz
   ·have h:=(afo ht).2
    unfold Ce at h; simp at h;exact⟨by unfold iZ; simp [h.1.1.1.1,h.1.1.1.2],by simp [h.1.1.2]⟩
   ·exact Wy n _ _ z hz
def ai2{c v sum:Int}{data:V (BitVec 8)}:∀(l:V Int)(q:jc × V Int),q.2.length<=(l.foldl (sM c v sum data) q).2.length
 | [],q=>j4 _
 | z::l,q=>by
  rw [vY];refine lG ?_ (ai2 l _);unfold sM; split
  ·exact j4 _
  ·show q.2.length<=(if _ then _ else _:V Int).length
   split
   ·rw [jH]; omega
   ·exact j4 _
def aay{c v sum:Int}{data:V (BitVec 8)}:∀(l:V Int){q:jc × V Int},Je q.1->(l.foldl (sM c v sum data) q).2=q.2->∀ z,cZ z (l.foldl (sM c v sum data) q).1=cZ z q.1
 | [],q,_,_,z=>rfl
 | n::l,q,hz,h,z=>by
  rw [vY] at h ⊢;have hm:=ai2 (c:=c) (v:=v) (sum:=sum) (data:=data) l (sM c v sum data q n)
  have key:(sM c v sum data q n).2=q.2/\∀ z,cZ z (sM c v sum data q n).1=cZ z q.1:=by
   rw [h] at hm
   revert hm
   unfold sM
   split
   ·exact λ_=>⟨rfl,λ_=>rfl⟩
   ·rename_i t ht
    intro hm
    cases hk:SS t.l t.bB c v sum data with
    | true=>rw [hk] at hm; simp at hm; omega
    | false=>
     obtain⟨e1,e2⟩:=aiy (hz _ _ ht).l hk (d:=t.d);refine⟨Y,λz=>?_⟩;rw [e1,e2,lC]; split
     ·rename_i he; rw [he,ht]
     ·rfl
  have hz2:Je (sM c v sum data q n).1:=λu t hg=>hz u t (by rw [<- key.2]; exact hg);rw [aay l hz2 (by rw [h,key.1]) z,key.2]
def avT{l0:V aH}(hu:Up aH.ID l0){c v sum:Int}{data:V (BitVec 8)}(hd:data.length=4)(hl:∃ x∈l0,x.ID=c/\v<=x.E/\(v=x.E->sum=x.Sum)):∀(l:V Int){q:jc × V Int},Je q.1->kB l0 q.1->kE l0 q.1->(∀ z∈q.2,∃ h,cZ z q.1=some h/\(⟨c,v,sum,false,false⟩:aI)∈h.l)->
  kB l0 (l.foldl (sM c v sum data) q).1/\kE l0 (l.foldl (sM c v sum data) q).1/\(∀ z∈(l.foldl (sM c v sum data) q).2,∃ h,cZ z (l.foldl (sM c v sum data) q).1=some h/\(⟨c,v,sum,false,false⟩:aI)∈h.l)/\∀ z∈(l.foldl (sM c v sum data) q).2,z∈q.2∨z∈l
 | [],q,hz,hb,he,ht=>by grind
 | n::l,q,hz,hb,he,ht=>by
  rw [vY]
  have key:Je (sM c v sum data q n).1/\kB l0 (sM c v sum data q n).1/\kE l0 (sM c v sum data q n).1/\(∀ z∈(sM c v sum data q n).2,∃ h,cZ z (sM c v sum data q n).1=some h/\(⟨c,v,sum,false,false⟩:aI)∈h.l)/\∀ z∈(sM c v sum data q n).2,z∈q.2∨z=n:=by
   unfold sM
   split
   ·grind
   ·rename_i t hg
    have hbe:=anf hu hz hg hl hb he (data:=data);refine⟨hz.put ((hz _ _ hg).take c v sum hd),hbe.1,hbe.2,λz hzm=>?_,λz hzm=>?_⟩
    ·cases hk:SS t.l t.bB c v sum data with
     | false=>
      obtain⟨e1,e2⟩:=aiy (hz _ _ hg).l hk (d:=t.d)
      grind [lC]
     | true=>
      grind [lC,ai0,List.mem_singleton]
    grind
  obtain⟨k1,k2,k3,k4,k5⟩:=key;obtain⟨r1,r2,r3,r4⟩:=avT hu hd hl l k1 k2 k3 k4;refine⟨r1,r2,r3,λz hzm=>?_⟩
  rcases r4 z hzm with h | h
  ·rcases k5 z h with h | rfl
   ·exact .inl h
   ·exact .inr mO
  ·exact .inr (kL _ h)
theorem avU{c:PC}{k:Nat}(H:Inv c k)(K:Keep c)(it:AItem):Keep (rz c it).1:=by
 have hc:=(dD.1 H.hm).2.1;have hu:=lS hc;have hw:=Jg c.m it;have hk:(qy c.m it).Kind=3∨(qy c.m it).Kind=4:=by show(if _ then(4:Int) else 3)=3∨(if _ then(4:Int) else 3)=4; split <;> simp
 unfold rz
 by_cases hp:(dS c.m (qy c.m it)).2<0
 ·rw [aS hp]; exact K
 rw [aQ hp];have hm2:=FJ H.hm (qy c.m it);have hc2:=(dD.1 hm2).2.1;have hu2:=lS hc2;obtain⟨hN,v,hv,hv1,_,hmem,_,dY⟩:=am5 H.hm hk hw.2.1 hp;have hA:(qy c.m it).A=it.A:=rfl;have hB:(qy c.m it).B=FX it.A it.B:=rfl;rw [hA,hB] at hmem; rw [hA] at dY
 have hlt:∀ x∈c.m.J,x.ID=it.A->x.E<v:=λx hx he=>by
  rcases dY with ⟨_,h⟩ | ⟨d,hd,h1,h2⟩
  ·exact absurd he (h x hx)
  ·have:=lI hu hx hd (he.trans h1.symm); subst this; omega
 by_cases he:(FY c it).2=[]
 ·rw [aS he]
  have hg:=aay (c:=it.A) (v:=(dS c.m (qy c.m it)).2) (sum:=FX it.A it.B) (data:=nD it.A it.B) (S9 c (dS c.m (qy c.m it)).1) (q:=(c.hs,[])) H.hz he;exact⟨K.a,λx hx n hn=>by obtain⟨h,h1,h2⟩:=K.b x hx n hn; exact⟨h,(hg n).trans h1,h2⟩,λz h hz=>K.e z h ((hg z).symm.trans hz),K.t,K.d⟩
 rw [aQ he];have hT:FY c it=(S9 c (dS c.m (qy c.m it)).1).foldl (sM it.A v (FX it.A it.B) (nD it.A it.B)) (c.hs,[]):=by unfold FY; rw [hv]
 generalize hm':(dS c.m (qy c.m it)).1=m' at *
 rw [hv] at *;have hnew:(⟨it.A,v,FX it.A it.B,[]⟩:aH)∈m'.J:=(hmem _).2 (.inl rfl)
 have b2:kB m'.J c.hs:=λx hx n hn=>by
  rcases(hmem x).1 hx with rfl | ⟨hx,_⟩
  ·exact absurd hn av
  ·exact K.b x hx n hn
 have e2:kE m'.J c.hs:=λz h hg y hy=>by
  obtain⟨⟨x,hx,a1,a2,a3⟩,h2⟩:=K.e z h hg y hy;refine⟨?_,h2⟩
  by_cases hxa:x.ID=it.A
  ·have:=hlt x hx hxa
   exact⟨_,hnew,hxa.symm.trans a1,by show y.E<=v; omega,λh=>by have h':y.E=v:=h; omega⟩
  ·exact⟨x,(hmem x).2 (.inr ⟨hx,hxa⟩),a1,a2,a3⟩
 have t2:kT m'.J c.s.bn c.Z:=λp hp Vu=>by
  obtain⟨x,hx,a1,a2,a3⟩:=K.t p hp Vu
  by_cases hxa:x.ID=it.A
  ·have:=hlt x hx hxa
   exact⟨_,hnew,hxa.symm.trans a1,by show p.E<=v; omega,λ_=>by simp⟩
  ·exact⟨x,(hmem x).2 (.inr ⟨hx,hxa⟩),a1,a2,a3⟩
 have d2:kD m'.J c.I c.s.bn c.Z:=λp hp Vu=>by
  obtain⟨x,hx,a1,a2,a3⟩:=K.d p hp Vu
  by_cases hxa:x.ID=it.A
  ·have:=hlt x hx hxa
   exact⟨_,hnew,hxa.symm.trans a1,by show p.E<=v; omega,λh=>by have h':p.E=v:=h; omega⟩
  ·exact⟨x,(hmem x).2 (.inr ⟨hx,hxa⟩),a1,a2,a3⟩
 obtain⟨w1,w2,w3,w4⟩:=avT hu2 (c:=it.A) (v:=v) (sum:=FX it.A it.B) (data:=nD it.A it.B) rfl ⟨_,hnew,rfl,FB _,λ_=>rfl⟩ (S9 c m') (q:=(c.hs,[])) H.hz b2 e2 (λz hz=>absurd hz av);rw [<- hT] at w1 w2 w3 w4
 have hcl:∀ x∈(FY c it).2.map (λz=>vR it.A z v),abw (FY c it).1 c.s.bn c.Z m'.J x:=λx hx=>by
  obtain⟨z,hz,rfl⟩:=eX.1 hx;refine⟨Y,.inr (.inr Y),λ_ y hy yi yv=>?_⟩;have:=lI hu2 hy hnew yi; subst this;obtain⟨h,hg,hin⟩:=w3 z hz;refine⟨⟨h,hg,_,hin,Y,Y,Y⟩,λp hp Vu hpc _ hpv=>?_⟩;obtain⟨x,hx,a1,a2,_⟩:=K.t p hp Vu;have:=hlt x hx (a1.trans hpc);have h':p.E=v:=hpv;omega
 have hs3:kS m'.J (CW m' ((FY c it).2.map λz=>vR it.A z v)).J:=xQ _ hm2 avz;have hbt:=avM _ hm2 hcl w1 t2;refine⟨?_,hbt.1,w2.same hs3,hbt.2,d2.same hs3⟩;show kA (CW m' ((FY c it).2.map λz=>vR it.A z v)).J
 cases hq:(FY c it).2 with
 | nil=>exact absurd hq he
 | cons z q=>
  rw [mg];show kA (CW (rJ m' (vR it.A z v)) (q.map λz=>vR it.A z v)).J;have hz:=w4 z (by rw [hq]; exact mO);have hz:z∈S9 c m':=hz.resolve_left av;have hst:iZ m'.aM z=true:=(Wy _ _ _ z hz).1
  have h1:kA (rJ m' (vR it.A z v)).J:=λy hy=>by
   by_cases hya:y.ID=it.A
   ·exact⟨z,avN hm2 (x:=vR it.A z v) rfl rfl hst hnew rfl rfl y hy hya⟩
   ·obtain⟨d,hd,f1,_,_,f4⟩:=XQ hm2 (x:=vR it.A z v) rfl (.inr (.inr rfl)) y hy
    rcases(hmem d).1 hd with rfl | ⟨hd,_⟩
    ·exact absurd f1 hya
    ·obtain⟨n,hn⟩:=K.a d hd; exact⟨n,f4 n hn⟩
  exact h1.grow (aiX _ (nP hm2 _) (λx hx=>by obtain⟨z,_,rfl⟩:=eX.1 hx; exact⟨rfl,.inr (.inr rfl)⟩))
def avV{l:V aI}{d:qD}(h:∀ y∈dL l,((gI (oH (⟨y.X,false⟩:bP) d)).toNat:Int)=y.Sum):Ih l d=(l,d):=by
 unfold Ih
 have:uM (Nw l d)=[]:=by
  unfold uM Nw;rw [List.map_eq_nil_iff,Vd];intro p hp;obtain⟨y,hy,rfl⟩:=eX.1 hp
  simp [h y hy]
 grind
theorem Vx{c:PC}(K:Keep c){z:Int}{h h2:kV}(hg:cZ z c.hs=some h)(hl:h2.l=h.l)(hd:h2.d=h.d):Keep { c with hs:=fO z h2 c.hs }:=
 ⟨K.a,ane hg (by grind) K.b,aiZ (λy hy=>by rw [hl] at hy; rw [hd]; exact K.e z h hg y hy) K.e,K.t,K.d⟩
def Calm(it:AItem):Prop:=it.Kind≠13/\it.Kind≠14
theorem azI{c:PC}{k:Nat}(H:Inv c k)(K:Keep c){it:AItem}(hn:Calm it)(h0:0<=it.Kind/\it.Kind<=14)(hs:it.Kind≠0/\it.Kind≠1/\it.Kind≠2/\it.Kind≠5/\¬ (it.Kind=6∨it.Kind=7∨it.Kind=8)/\it.Kind≠11){h:kV}(hg:cZ it.A c.hs=some h):Keep (Il c it h).1:=by
 have hO:=(H.hz _ _ hg).l;unfold Calm at hn;unfold Il
 split
 ·exact⟨K.a,K.b,K.e,K.t,K.d⟩
 split
 ·grind [avS]
 split
 ·grind [Vx]
 split
 ·grind [Tz,Vx]
 split
 ·rw [avV (λy hy=>(K.e _ _ hg y (by rw [hO.rest] at hy; exact hy)).2)]; grind [Vx]
 grind
def azJ{c:PC}{k:Nat}(H:Inv c k)(K:Keep c){it:AItem}(hn:Calm it):Keep (nJ c it).1:=by
 have hmay:=dD.1 H.hm;unfold nJ
 split
 ·split
  ·exact K
  ·refine⟨K.a,K.b,K.e,λp hp hu=>K.t p hp (by grind),λo ho h0=>?_⟩
   obtain⟨x,hx,h1,h2,h3⟩:=K.d o ho h0;refine⟨x,hx,h1,h2,λhv=>?_⟩
   grind
 split
 ·unfold apB
  have hs3:kS c.m.J (rJ c.m (DW it)).J:=sN H.hm rfl (.inl rfl)
  rcases ak2 H.hm it with ⟨h0,hch,h2,h3,h4⟩ | ⟨h0,h1⟩
  ·rw [aS h0]
   refine⟨by show kA (rJ c.m (DW it)).J; rw [hch]; exact K.a,?_,?_,by show kT (rJ c.m (DW it)).J _ _; rw [hch]; exact K.t,K.d.same hs3⟩
   ·show kB (rJ c.m (DW it)).J _
    rw [hch];intro x hx n hn2;obtain⟨nd,hnd,hni,_⟩:=hmay.2.2.2 x hx n hn2;rw [lC,aQ (by grind)];exact K.b x hx n hn2
   ·show kE (rJ c.m (DW it)).J _
    rw [hch];exact aiZ av K.e
  simp_all
 split
 ·have hch:(rJ c.m ⟨0,0,2,it.A,it.B,0⟩).J=c.m.J:=by
   rcases(wL H.hm (x:=⟨0,0,2,it.A,it.B,0⟩) av rfl).1 with h | ⟨hk',_,_,_⟩ | ⟨c,hk',_,_,_⟩ | ⟨d,H,hk',_,_,_,_,_,_,_,_⟩ | ⟨c,H,hk',_,_,_,_,_,_⟩
   ·exact h
   ·grind
   ·grind
   ·grind
   ·grind
  refine⟨?_,?_,?_,?_,?_⟩
  ·show kA (rJ c.m ⟨0,0,2,it.A,it.B,0⟩).J; rw [hch]; exact K.a
  ·show kB (rJ c.m ⟨0,0,2,it.A,it.B,0⟩).J _; rw [hch]; exact K.b
  ·show kE (rJ c.m ⟨0,0,2,it.A,it.B,0⟩).J _; rw [hch]; exact K.e
  ·show kT (rJ c.m ⟨0,0,2,it.A,it.B,0⟩).J _ _; rw [hch]; exact K.t
  ·show kD (rJ c.m ⟨0,0,2,it.A,it.B,0⟩).J _ _ _; rw [hch]; exact K.d
 grind [wL,avO,avR,avU,azI]
def avW{c:PC}{k:Nat}(H:Inv c k)(K:Keep c){x:aH}(hx:x∈c.m.J){n:Int}(hn:n∈x.aD):Jj (Pq c.hs n) x=true:=by
 obtain⟨h,hg,hc⟩:=K.b x hx n hn;have hO:=(H.hz _ _ hg).l;unfold Pq; rw [hg]; show Jj (dL h.l) x=true;rw [hO.rest]; grind [TK]
def alb{c:PC}{k:Nat}(H:Inv c k)(K:Keep c):F6 c=true:=by
 unfold F6; rw [mD];intro x hx;refine aiU (λh0=>?_) (λn hn=>avW H K hx hn);obtain⟨n,hn⟩:=K.a x hx
 grind
end
section
theorem ai3:∀(l:V eP)(z:Int),Up eP.Node l->(∀ b∈l,z<b.Node/\M7 b=true)->lZ z l=true
 | [],z,_,_=>rfl
 | b::l,z,hu,h=>by
  have h1:=nT.1 hu;have hb:=h b mO
  simp only [lZ,bK,bN]
  exact⟨⟨hb.2,hb.1⟩,ai3 l _ h1.2 (λc hc=>⟨h1.1 c hc,(h c (kL _ hc)).2⟩)⟩
theorem KQ{b:eP}:M7 b=true↔1<=b.Node/\b.Node<=16/\0<=b.At/\b.At<=1099511627776:=by
 grind [M7]
def Vy{l:V eP}:lZ 0 l=true↔Up eP.Node l/\∀ b∈l,M7 b=true:=
 by grind [Z0,UY,ai3,KQ]
def acK:∀(l:V eP)(z:Int),z<=16->lZ z l=true->z+l.length<=16
 | [],z,hz,_=>by simp; exact hz
 | b::l,z,hz,h=>by
  simp only [lZ,bK,bN] at h
  have hb:=KQ.1 h.1.1;have:=acK l b.Node hb.2.1 h.2;rw [oO]; omega
theorem ang{l:V eP}(h:lZ 0 l=true){n Z:Int}(hm:M7 ⟨n,Z⟩=true):lZ 0 (uN l n Z)=true/\(∃ b∈uN l n Z,b.Node=n/\Z<=b.At)/\∀ b0∈l,∃ b∈uN l n Z,b.Node=b0.Node/\b0.At<=b.At:=by
 have hu:=Vy.1 h;unfold uN; rw [aS hm,RD h]
 split
 ·rename_i hh
  obtain⟨b,hb,hk⟩:=qc (key:=eP.Node) hh;have hb':l[low (fun(y:eP)=>bL y.Node n) l]? = some b:=hb;rw [hb'];have hk:b.Node=n:=hk;show lZ 0 (l.set _ _)=true/\_;have hself:(l.set (low (fun(y:eP)=>bL y.Node n) l) { b with At:=if Z>b.At then Z else b.At })[low (fun(y:eP)=>bL y.Node n) l]? = some { b with At:=if Z>b.At then Z else b.At }:=u7 (aP hb');have hbm:=KQ.1 (hu.2 b (dz hb')); have hnm:=KQ.1 hm;refine⟨Vy.2 ⟨aer hu.1 hb' Y,λc hc=>?_⟩,⟨_,dz hself,hk,?_⟩,λb0 h0=>?_⟩
  ·grind [KQ]
  ·grind
  ·by_cases he:b0.Node=n
   ·have:=lI hu.1 h0 (dz hb') (by grind); subst this
    exact⟨_,dz hself,Y,by show b0.At<=(if Z>b0.At then Z else b0.At); split <;> omega⟩
   ·obtain⟨k,hk2⟩:=get_of_mem h0
    refine⟨b0,Va.2 ⟨k,?_⟩,Y,FB _⟩
    grind
 ·rename_i hh
  have hno:∀ x∈l,x.Node≠n:=by simp_all [uh]
  refine⟨Vy.2 ⟨aep (key:=eP.Node) (c:=⟨n,Z⟩) hu.1 hno,λc hc=>?_⟩,⟨⟨n,Z⟩,(FH _).2 (.inl Y),Y,FB _⟩,λb0 h0=>⟨b0,(FH _).2 (.inr h0),Y,FB _⟩⟩
  grind
theorem azK{l:V eP}(h:lZ 0 l=true){n Z:Int}(hm:¬ M7 ⟨n,Z⟩=true):uN l n Z=l:=by simp_all [uN,aQ,RD]
theorem acL{l:V eP}(h:lZ 0 l=true)(n Z:Int):lZ 0 (uN l n Z)=true:=by
 grind [ang,azK]
def heard(l:List eP)(Z n:Int):Prop:=∃ b∈l,b.Node=n/\Z<=b.At
def ai4{l:V eP}(h:lZ 0 l=true){Z n ng:Int}(hl:0<=ng)(hh:heard l Z n):n∈(Lj l Z ng).map eP.Node:=by
 obtain⟨b,hb,rfl,h2⟩:=hh;refine eX.2 ⟨b,?_,Y⟩
 grind [Lj,Na,Zb,RD,decide_eq_true]
theorem avX(c:PC)(o:aL):(j6 c o).Z=c.Z/\(j6 c o).I=c.I/\(j6 c o).s.bZ=c.s.bZ/\(j6 c o).s.bn=c.s.bn/\(j6 c o).r=c.r:=by
 unfold j6; grind
theorem F7(c:PC)(o:aL):(mZ c o).Z=c.Z/\(mZ c o).I=c.I/\(mZ c o).s.bZ=c.s.bZ/\(mZ c o).s.bn=c.s.bn/\(mZ c o).r=c.r:=by
 unfold mZ; grind [avX]
structure Fine (c:PC) (a b:Nat):Prop where
  e:∃ j,Inv c j
  s:lZ 0 c.s.bZ=true
  d:c.s.bn.length<=32*a
  u:0<=c.Z/\c.Z<=100*a
  w:c.I.length<=300*a+16*b
def Fine.ok{c:PC}{a b:Nat}(F:Fine c a b)(ha:a<=1000)(hb:b<=10000):Ok c:=by
 obtain⟨j,H⟩:=F.e;have:=acK _ 0 au F.s
 exact⟨H.hm,H.hr,aj,H.NI,by have:=F.d; omega,by have:=F.u; omega,by have:=F.w; omega,
  λz h hg=>⟨by have:=(H.hz z h hg).n; have:=(H.hz z h hg).r; omega,λk=>by have:=(H.hz z h hg).d k; omega⟩,
  λn hn=>by obtain⟨h,hg,_⟩:=H.hN n hn; grind⟩
def Fine.mono{c:PC}{a b a2 b2:Nat}(F:Fine c a b)(ha:a<=a2)(hb:b<=b2):Fine c a2 b2:=
 ⟨F.e,F.s,by have:=F.d; omega,by have:=F.u; omega,by have:=F.w; omega⟩
theorem anh{c:PC}{j:Nat}(H:Inv c j)(it:AItem){h:kV}(hg:cZ it.A c.hs=some h):(LU c it h).I.length<=c.I.length+16:=by
 show(c.I++uV _ _ _ _).length<=_;have h1:(uV (dL h.l) (lK (lM c.s c.Z it.A c.m (jS c.m.J it.A (dL h.l))).J (dL h.l)) it.A (c.Z+c.r.gV)).length<=h.l.length:=by grind [uV,List.length_map,Nat.le_trans,List.length_filter_le,EP]
 have:=(H.hz _ _ hg).n; have:=(H.hz _ _ hg).r
 grind
def ani{c:PC}{a b:Nat}(F:Fine c a b){it:AItem}(hk:it.Kind=3∨it.Kind=4∨it.Kind=9∨it.Kind=10∨it.Kind=12):Fine (nJ c it).1 a (b+1):=by
 obtain⟨j,H⟩:=F.e;have hw:=F.w;have hM:=F.mono (j4 a) (acU b);refine⟨⟨_,xB H it⟩,?_,?_,?_,?_⟩
 all_goals
  unfold nJ;rw [aQ aj,aQ aj,aQ aj,aQ aj,aQ aj,aQ aj,aQ aj]
  split
  ·first | exact hM.s | exact hM.d | exact hM.u | exact hM.w
  rename_i h hg
  split
  ·first | exact hM.s | exact hM.d | exact hM.u | exact hM.w
  unfold Il
 ·split
  ·exact acL F.s _ _
  split
  ·exact F.s
  split
  ·exact F.s
  split
  ·exact F.s
  split
  ·exact F.s
  grind
 ·split
  ·exact F.d
  split
  ·exact F.d
  split
  ·exact F.d
  split
  ·exact F.d
  split
  ·exact F.d
  grind
 ·split
  ·exact F.u
  split
  ·exact F.u
  split
  ·exact F.u
  split
  ·exact F.u
  split
  ·exact F.u
  grind
 grind [anh]
def ai5{c:PC}{a b:Nat}(F:Fine c a b){it:AItem}(hk:it.Kind=6∨it.Kind=7):Fine (nJ c it).1 a b:=by
 obtain⟨j,H⟩:=F.e;have e:nJ c it=kM c it:=by grind [nJ]
 have hw:=F.w;have hi:=xB H it;rw [e] at hi ⊢;refine⟨⟨_,hi⟩,?_,?_,?_,?_⟩
 all_goals
  unfold kM
  split
  ·first | exact F.s | exact F.d | exact F.u | exact F.w
  split
  ·grind
  rw [aQ aj]
 ·show lZ 0 (if _ then _ else _:PC).s.bZ=true
  split
  ·rw [(F7 _ _).2.2.1]; exact F.s
  ·exact F.s
 ·show(if _ then _ else _:PC).s.bn.length<=_
  split
  ·rw [(F7 _ _).2.2.2.1]; exact F.d
  ·exact F.d
 ·show 0<=(if _ then _ else _:PC).Z/\(if _ then _ else _:PC).Z<=_
  split
  ·rw [(F7 _ _).1]; exact F.u
  ·exact F.u
 grind [F7]
def avY{c:PC}{a b:Nat}(F:Fine c a b){it:AItem}(hk:it.Kind=5):Fine (nJ c it).1 (a+1) b:=by
 obtain⟨j,H⟩:=F.e;have e:nJ c it=(tq c,0):=by grind [nJ]
 have hi:=xB H it;rw [e] at hi ⊢;refine⟨⟨_,hi⟩,?_,?_,?_,?_⟩
 ·show lZ 0 (iM _ _ _ _).bZ=true; rw [Vo]; exact F.s
 ·have:=aiH H.hm c.s c.r c.Z; have:=F.d; show(iM _ _ _ _).bn.length<=_; omega
 ·have:=F.u; exact⟨this.1,by show c.Z<=_; omega⟩
 ·show(c.I++pF _ _ _ _).length<=_
  have:=aad (m:=c.m) (r:=c.r) (Z:=c.Z) H.NI; have:=F.w; have:=(vo (dD.1 H.hm).2.1).1
  grind
def aqg{c:PC}{a b:Nat}(F:Fine c a b){it:AItem}(hk:it.Kind=0)(hA:it.A=1):Fine (nJ c it).1 (a+1) b:=by
 obtain⟨j,H⟩:=F.e;have e:nJ c it=({ c with Z:=c.Z+it.A },0):=by grind [nJ]
 have hi:=xB H it;rw [e] at hi ⊢;refine⟨⟨_,hi⟩,F.s,by have:=F.d; grind,?_,by have:=F.w; grind⟩;have:=F.u; grind
def rA(kind:Int)(ids:List Int)(c:PC):PC:=ids.foldl (λc z=>(nJ c ⟨kind,z,0,0⟩).1) c
def oI(c:PC):List Int:=c.m.aM.map aT.ID
def aqh(kind:Int)(ids:V Int)(z:Int)(c:PC):rA kind (ids++[z]) c=(nJ (rA kind ids c) ⟨kind,z,0,0⟩).1:=by simp [rA]
def F8{kind:Int}(hk:kind=3∨kind=4∨kind=9∨kind=10∨kind=12):∀(ids:V Int){c:PC}{a b:Nat},Fine c a b->Fine (rA kind ids c) a (b+ids.length)
 | [],c,a,b,F=>F
 | z::ids,c,a,b,F=>by
  have:=F8 hk ids (ani F (it:=⟨kind,z,0,0⟩) hk);rw [show b+(z::ids).length=b+1+ids.length by rw [oO]; omega]; exact this
def LW(kind:Int):Nat->PC->PC
  | 0,c=>c
  | n+1,c=>if c.I.length=0 then c else LW kind n (nJ c ⟨kind,0,0,0⟩).1
def afu{kind:Int}(hk:kind=6∨kind=7):∀(n:Nat){c:PC}{a b:Nat},Fine c a b->Fine (LW kind n c) a b
 | 0,c,a,b,F=>F
 | n+1,c,a,b,F=>by
  unfold LW; split
  ·exact F
  ·exact afu hk n (ai5 F (it:=⟨kind,0,0,0⟩) hk)
def afv{kind:Int}{n:Nat}{c:PC}(h:¬ c.I.length=0):LW kind (n+1) c=LW kind n (nJ c ⟨kind,0,0,0⟩).1:=by
 grind [LW]
def ai6{kind:Int}{n:Nat}{c:PC}(h:c.I.length=0):LW kind n c=c:=by
 cases n <;> grind [LW]
def hlA(c:PC):PC:=(nJ c ⟨0,1,0,0⟩).1
def hlB(c:PC):PC:=rA 3 (oI (hlA c)) (hlA c)
def F9(c:PC):PC:=rA 4 (oI (hlB c)) (hlB c)
def hlD(c:PC):PC:=(nJ (F9 c) ⟨5,0,0,0⟩).1
def DN(c:PC):PC:=LW 6 500 (hlD c)
def vH:Nat->PC->PC
  | 0,c=>c
  | n+1,c=>DN (vH n c)
def anj(n:Nat)(c:PC):PC:=vH n (rA 10 (oI c) c)
def KR{c:PC}{a b:Nat}(F:Fine c a b):(oI c).length<=16:=by
 obtain⟨j,H⟩:=F.e;unfold oI; rw [jW]; exact yO (dD.1 H.hm).1
def alc{c:PC}{a b:Nat}(F:Fine c a b):Fine (hlA c) (a+1) b:=aqg F rfl rfl
def ald{c:PC}{a b:Nat}(F:Fine c a b):Fine (hlB c) (a+1) (b+16):=
 (F8 (.inl rfl) _ (alc F)).mono (j4 _) (by have:=KR (alc F); omega)
def avZ{c:PC}{a b:Nat}(F:Fine c a b):Fine (F9 c) (a+1) (b+32):=
 (F8 av _ (ald F)).mono (j4 _) (by have:=KR (ald F); omega)
def av0{c:PC}{a b:Nat}(F:Fine c a b):Fine (hlD c) (a+2) (b+32):=avY (avZ F) rfl
def av1{c:PC}{a b:Nat}(F:Fine c a b):Fine (DN c) (a+2) (b+32):=afu (.inl rfl) _ (av0 F)
def QH{c:PC}{a b:Nat}(F:Fine c a b):∀(n:Nat),Fine (vH n c) (a+2*n) (b+32*n)
 | 0=>F
 | n+1=>(av1 (QH F n)).mono aj aj
def ank{c:PC}(h:lZ 0 c.s.bZ=true)(it:AItem):lZ 0 (nJ c it).1.s.bZ=true:=by
 unfold nJ
 split
 ·grind
 split
 ·exact h
 split
 ·exact h
 split
 ·show lZ 0 (iM _ _ _ _).bZ=true; grind [Vo]
 split
 ·grind [kM,lZ,F7]
 split
 ·grind [rz]
 split
 ·exact h
 split
 ·exact h
 split
 ·exact h
 unfold Il
 split
 ·grind [acL]
 split
 ·exact h
 grind
def aaz:∀(l:V AItem){c:PC},lZ 0 c.s.bZ=true->lZ 0 (xO c l).s.bZ=true
 | [],c,h=>h
 | it::l,c,h=>aaz l (ank h it)
def av2{r:ARules}(hr:l5 r=true){l:V AItem}{k:Nat}(hk:k<=l.length):Fine (xO (Jh r) (l.take k)) k 0:=by
 have H:=OX hr hk;exact⟨⟨_,H⟩,aaz _ Y,H.hd,H.hu,H.hw⟩
end
end Go.Proofs.YthcmboepffiliaaGreat
