/- Lemmas. -/
import Derived.Test.YtlhnnmlenkahlaaGreatrG30
set_option maxRecDepth 4000
set_option linter.all false
namespace Go.Proofs.YtlhnnmlenkahlaaGreat
open Go.RowKit Go.Proofs.Tryz
theorem aof:∀ i j:Fin 16,ED i.val >>> 28=ED j.val >>> 28->i=j:=by decide +kernel
theorem ahq(x:BitVec 32):RD x >>> 28=ED (x&&& 15#32).toNat >>> 28:=by
  unfold RD;rw [BitVec.ushiftRight_xor_distrib,<- BitVec.shiftRight_add];rw [show x >>> (4+28)=0#32 from BitVec.ushiftRight_eq_zero au];exact BitVec.xor_zero
theorem awG(x y:BitVec 32)(h1:x&&& 15#32=y&&& 15#32)(h2:x >>> 4=y >>> 4):x=y:=by
  apply BitVec.eq_of_toNat_eq
  have a1:x.toNat % 16=y.toNat % 16:=by
    have:=aR BitVec.toNat h1
    simp only [BitVec.toNat_and,BitVec.toNat_ofNat] at this
    have e:∀ n:Nat,n&&& (15 % 2 ^ 32)=n % 16:=λn=>Nat.and_two_pow_sub_one_eq_mod n 4
    rwa [e,e] at this
  have a2:x.toNat / 16=y.toNat / 16:=by
    have:=aR BitVec.toNat h2
    simpa [ajj,ajk] using this
  omega
theorem als{n:Nat}{a x y:BitVec n}(h:a ^^^ x=a ^^^ y):x=y:=by
  have:=aR (a ^^^ ·) h
  simpa [<- BitVec.xor_assoc] using this
theorem ahr{x y:BitVec 32}(h:RD x=RD y):x=y:=by
  have h1:RD x >>> 28=RD y >>> 28:=by rw [h]
  rw [ahq,ahq] at h1;have h2:=aof ⟨_,HZ x⟩ ⟨_,HZ y⟩ h1;have h3:(x&&& 15#32).toNat=(y&&& 15#32).toNat:=by injection h2
  have h4:=BitVec.eq_of_toNat_eq h3;refine awG x y h4 ?_;unfold RD at h;rw [h3] at h;exact als h
end Go.Proofs.YtlhnnmlenkahlaaGreat
