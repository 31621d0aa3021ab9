/- Lemmas. -/
import Derived.Test.YtlhnnmlenkahlaaGreatrG30
set_option maxRecDepth 4000
set_option linter.all false
namespace Go.Proofs.YtlhnnmlenkahlaaGreat
open Go.RowKit Go.Proofs.Tryz
def ahs(report:List aI)(c:aH):Bool:=report.any (fun(x:aI)=>zI x c)
theorem ajI{zs:List Int}(h:zs.Pairwise (λx y=>x<=y)):(Lib.compact zs).Pairwise (λx y=>x<y)/\∀ x,x∈Lib.compact zs↔x∈zs:=by
  have hget:∀ j (hj:j<zs.length),zs.toArray[j]! = zs[j]:=λj hj=>by rw [SC zs.toArray j (by simpa using hj)]; simp
  have hle:∀ i j,i<=j->(hj:j<zs.length)->zs[i]!<=zs[j]:=by
    intro i j hij hj;rw [WA,qI aj]
    rcases P8 i j with h1 | h1
    · exact(DX.1 h) i j aj hj h1
    · have:i=j:=aj
      subst this; exact yV _
  have key:∀ m,m<=zs.length->(Lib.compactUpTo zs.toArray m).Pairwise (λx y=>x<y)/\(∀ x,x∈Lib.compactUpTo zs.toArray m↔x∈zs.take m)/\∀ x∈Lib.compactUpTo zs.toArray m,0<m/\x<=zs[m - 1]!:=by
    intro m
    induction m with
    | zero=>intro _; simp [Lib.compactUpTo]
    | succ m ih=>
      intro hm;obtain⟨h1,h2,h3⟩:=ih aj
      have hs:Lib.compactUpTo zs.toArray (m+1)=Lib.compactUpTo zs.toArray m++(if Lib.keeps zs.toArray m=true then[zs.toArray[m]!] else[]):=by
        simp only [Lib.compactUpTo,List.range_succ,vX,qc,Iz,abY]
        split <;> simp
      have ht:zs.take (m+1)=zs.take m++[zs[m]]:=by rw [fD (qI (show m<zs.length by omega))]
      have hmm:zs[m+1 - 1]! = zs[m]:=by rw [WA,Nat.add_sub_cancel,qI aj]; rfl
      rw [hs,hget m aj,ht,hmm]
      by_cases hk:Lib.keeps zs.toArray m=true
      · rw [aO hk]
        simp only [Lib.keeps,bO] at hk
        refine⟨y8.2 ⟨h1,OU _ _,λx hx y hy=>?_⟩,λx=>by rw [jN,jN,h2],λx hx=>⟨aj,?_⟩⟩
        · rw [j4.1 hy]
          have h4:=h3 x hx;have h5:=hle (m - 1) m aj aj
          have h6:zs[m - 1]!≠zs[m]:=by
            rcases hk with hk | hk
            · omega
            · rw [hget m aj] at hk
              intro e;apply hk;rw [<- e,hget (m - 1) aj,WA,qI aj]; rfl
          omega
        · rcases jN.1 hx with hx | hx
          · have h4:=h3 x hx
            have h5:=hle (m - 1) m aj aj;omega
          · rw [j4.1 hx]; exact yV _
      · rw [aK hk,yN]
        simp only [Lib.keeps,bO,not_or,ne_eq,Decidable.not_not] at hk
        obtain⟨hk1,hk2⟩:=hk;rw [hget m aj,hget (m - 1) aj] at hk2;refine⟨h1,λx=>?_,λx hx=>⟨aj,?_⟩⟩
        · rw [h2,jN,j4]
          constructor
          · exact .inl
          · rintro(hx | hx)
            · exact hx
            · rw [hx,hk2]
              exact xg (show(zs.take m)[m - 1]? = some zs[m - 1] by rw [OW aj,qI aj])
        · have h4:=h3 x hx
          have h5:=hle (m - 1) m aj aj;omega
  obtain⟨h1,h2,_⟩:=key zs.length (kV _);exact⟨h1,λx=>by have:=h2 x; rwa [Wp] at this⟩
end Go.Proofs.YtlhnnmlenkahlaaGreat
