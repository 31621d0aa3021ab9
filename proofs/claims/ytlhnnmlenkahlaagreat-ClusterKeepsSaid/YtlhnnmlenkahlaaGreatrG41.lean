/- Lemmas. -/
import Derived.Test.YtlhnnmlenkahlaaGreatrG30
import Derived.Test.YtlhnnmlenkahlaaGreatrG38
set_option maxRecDepth 4000
set_option linter.all false
namespace Go.Proofs.YtlhnnmlenkahlaaGreat
open Go.RowKit Go.Proofs.Tryz
theorem Uo:∀ {l m:List aV} {z:Int},m.Sublist l->BP z l=true->BP z m=true
  | _,_,_,.slnil,h=>h
  | _,_,z,.cons a (l₁:=m) (l₂:=l) hs,h=>by
    simp only [BP,bN,eG,dX,fP,bV] at h
    have h1:=Uo hs h.2
    cases m with
    | nil=>rfl
    | cons b m=>
      simp only [BP,bN,eG,dX,fP,bV] at h1 ⊢
      exact⟨⟨h1.1.1,aj⟩,h1.2⟩
  | _,_,z,.cons₂ a (l₁:=m) (l₂:=l) hs,h=>by
    simp only [BP,bN] at h ⊢
    exact⟨h.1,Uo hs h.2⟩
theorem aok(l:List aV)(aG:List Int):uy (wm l aG)=true:=by
  unfold wm; split
  · rename_i h; exact Uo PG h
  · rfl
theorem U5(cs:List aH)(l:List aV)(aG:List Int):iw cs l aG=(wm l aG).map fun(n:aV)=>⟨n.ID,(oP cs n.ID:Int)⟩:=by
  unfold iw oH; rw [aO (aok l aG)]
theorem alz{cs:List aH}{l:List aV}{aG:List Int}{y:aV}(h:y∈wm l aG):nL (iw cs l aG) y.ID=(oP cs y.ID:Int)/\(⟨y.ID,(oP cs y.ID:Int)⟩:gq)∈iw cs l aG:=by
  have hm:(⟨y.ID,(oP cs y.ID:Int)⟩:gq)∈iw cs l aG:=by rw [U5]; exact gQ.2 ⟨y,h,rfl⟩
  refine⟨?_,hm⟩;unfold nL
  cases hf:(iw cs l aG).find? (fun(x:gq)=>decide (x.Node=y.ID)) with
  | none=>have:=List.find?_eq_none.1 hf _ hm; simp at this
  | some x=>
    have h1:=Ud hf;have h2:=Gn hf;rw [U5] at h2;obtain⟨n,hn,rfl⟩:=gQ.1 h2
    simp at h1
    simp only [h1]
theorem ahx{cf:aV->aV->Int}{l:List aV}{x:aV}:x∈Kz cf l↔x∈l:=by unfold Kz; exact List.mem_mergeSort
theorem aol{xs ys:List aV}{p:aV × aV}:p∈uR xs ys↔p.1∈xs/\p.2∈ys:=by
  obtain⟨x,y⟩:=p
  simp only [uR,List.mem_flatMap,gQ,Prod.mk.injEq]
  constructor
  · rintro⟨a,ha,b,hb,rfl,rfl⟩; exact⟨ha,hb⟩
  · rintro⟨ha,hb⟩; exact⟨x,ha,y,hb,rfl,rfl⟩
structure aA5 (cs:List aH) (l:List aV) (aG:List Int) (kr:Int) (o:aM):Prop where
  may:kR cs=true
  ex:∃(x y:aV)(c:aH),x∈wm l aG/\y∈wm l aG/\c∈cs/\kr<oP cs x.ID - oP cs y.ID/\1<(oP cs x.ID:Int) - oP cs y.ID/\(oP cs y.ID:Int)<y.l6/\Bg c l x.ID y.ID=true/\o=⟨0,c.ID,c.aB,c.Sum,x.ID,y.ID,0⟩
theorem atb{cs:List aH}{l:List aV}{aG:List Int}{kr:Int}{p:aV × aV}{o:aM}(h1:p.1∈wm l aG)(h2:p.2∈wm l aG)(h:CZ cs l (iw cs l aG) kr p=some o):∃ c,c∈cs/\kr<oP cs p.1.ID - oP cs p.2.ID/\1<(oP cs p.1.ID:Int) - oP cs p.2.ID/\(oP cs p.2.ID:Int)<p.2.l6/\Bg c l p.1.ID p.2.ID=true/\o=⟨0,c.ID,c.aB,c.Sum,p.1.ID,p.2.ID,0⟩:=by
  unfold CZ at h;rw [(alz h1).1,(alz h2).1] at h;have hm:kr<=(if 1>kr then 1 else kr)/\1<=(if 1>kr then 1 else kr):=by split <;> omega
  generalize (if 1>kr then 1 else kr)=m at h hm
  by_cases hc:(oP cs p.1.ID:Int) - oP cs p.2.ID<=m∨p.2.l6<=(oP cs p.2.ID:Int)
  · rw [aO hc] at h; cases h
  · rw [aK hc] at h
    unfold acn at h
    cases hf:cs.find? (fun(c:aH)=>Bg c l p.1.ID p.2.ID) with
    | none=>rw [hf] at h; cases h
    | some c=>
      rw [hf] at h
      simp only [Gh,XO] at h
      exact⟨c,Gn hf,aj,aj,aj,(by have:=Ud hf; simpa using this),h.symm⟩
theorem ahy(cs:List aH)(l:List aV)(aG:List Int)(kr:Int):(iT cs l aG kr=⟨0,0,0,0,0,0,0⟩/\moveB cs l aG kr=false)∨(aA5 cs l aG kr (iT cs l aG kr)/\moveB cs l aG kr=true):=by
  unfold moveB iT
  by_cases hm:kR cs=true
  · rw [aO hm]
    cases hf:(Xp cs l aG).findSome? (CZ cs l (iw cs l aG) kr) with
    | none=>left; exact⟨rfl,rfl⟩
    | some o=>
      right
      obtain⟨p,hp,ho⟩:=List.exists_of_findSome?_eq_some hf;have hp':=aol.1 hp;rw [ahx,ahx] at hp';obtain⟨c,h1,h2,h3,h4,h5,h6⟩:=atb hp'.1 hp'.2 ho;refine⟨⟨hm,p.1,p.2,c,hp'.1,hp'.2,h1,h2,h3,h4,h5,h6⟩,?_⟩;have h7:=GY _ _ (kF.1 hm).2.2 c.ID (gQ.2 ⟨c,h1,rfl⟩);rw [h6];exact F8 (show 0<c.ID by omega)
  · rw [aK hm]; left; exact⟨rfl,rfl⟩
theorem aom(c:aH):qz [] c=c:=by
  unfold qz;rw [Ep.2 (λx _=>by simp [kG])]
theorem aon(l:List aH):zq l []=l:=by
  unfold zq; rw [show qz []=id from funext aom,List.map_id]
theorem alA{cs:List aH}(hm:kR cs=true)(id:Int):(Xb cs id).length=oP cs id:=by
  unfold Xb oP; rw [vZ hm,jY]
theorem abF{l:List aV}(hm:uy l=true){n:aV}(hn:n∈l):jU l n.ID=true/\gU l n.ID=n:=by
  have hb:jU l n.ID=true:=by
    unfold jU; rw [wh hm]; exact(uZ (key:=aV.ID) (Em _ 0 hm) _).2 ⟨n,hn,rfl⟩
  refine⟨hb,?_⟩;unfold jU at hb;obtain⟨x,hx,hk⟩:=qU (key:=aV.ID) hb;rw [qM hb hx];have h3:=bT hx;rw [wh hm] at h3;exact QB (Em _ 0 hm) h3 hn hk
theorem Zc{l:List aH}(hm:kR l=true)(ds:List aM):kR (zq l ds)=true:=by
  have h:=kF.1 hm;refine kF.2 ⟨λc hc=>?_,by rw [Hq]; exact h.2.1,?_⟩
  · obtain⟨c0,h0,rfl⟩:=gQ.1 hc
    have h1:=h.1 c0 h0;have h2:=rT h1;have h3:nX 16 1 (qz ds c0).aD=true:=Tq h2.2.2 PG;unfold qx at h1 ⊢;rw [h3]; simp only [h2.2.2] at h1; exact h1
  · have e:(zq l ds).map aH.ID=l.map aH.ID:=by unfold zq; rw [Gz]; rfl
    rw [e]; exact h.2.2
theorem Oc{l:List aH}(hm:kR l=true)(ds:List aM){c:aH}(hc:c∈l):gY (zq l ds) c.ID=true/\aU (zq l ds) c.ID=qz ds c:=
  Ei (Zc hm ds) (c:=qz ds c) (gQ.2 ⟨c,hc,rfl⟩)
theorem atc(l:List gq)(x:bD)(id:Int):nL (LU l x) id=if x.To=id then nL l id+1 else nL l id:=by
  unfold LU nL
  by_cases e:x.To=id
  · rw [Gj (by simpa using e),aO e]; subst e; rfl
  · rw [vI (by simpa using e),aK e]
theorem atd{cs:List aH}{ns:List aV}(hm:uy ns=true){n:aV}(hn:n∈ns)(ls:List bD):(oP cs n.ID:Int)<=nL (jZ cs ns ls) n.ID:=by
  have key:∀(ls:List bD)(l:List gq),nL l n.ID<=nL (ls.foldl LU l) n.ID:=by
    intro ls
    induction ls with
    | nil=>intro l; exact yV _
    | cons x ls ih=>intro l; have h1:=ih (LU l x); rw [atc] at h1; rw [sK]; split at h1 <;> omega
  refine Int.le_trans ?_ (key ls _)
  have h0:nL (oH cs ns) n.ID=(oP cs n.ID:Int):=by
    unfold oH nL; rw [aO hm]
    cases hf:(ns.map fun(n:aV)=>(⟨n.ID,(oP cs n.ID:Int)⟩:gq)).find? (fun(x:gq)=>decide (x.Node=n.ID)) with
    | none=>exact absurd (List.find?_eq_none.1 hf ⟨n.ID,(oP cs n.ID:Int)⟩ (gQ.2 ⟨n,hn,rfl⟩)) av
    | some y=>
      have h1:=Gn hf;have h2:=Ud hf;obtain⟨z,_,rfl⟩:=gQ.1 h1;have h3:z.ID=n.ID:=by simpa using h2
      simp only [h3]
  omega
theorem alB{l:List aV}{aG:List Int}{aZ:List gq}{dw:List Int}:∀(M:List aV)(b:Option aV),(∀ t,b=some t->t∈l/\Da l aG aZ dw t.ID=true)->(∀ n∈M,n∈l)->∀ t,M.foldl (tgF l aG aZ dw) b=some t->t∈l/\Da l aG aZ dw t.ID=true
  | [],b,hb,_,t,h=>hb t h
  | n::M,b,hb,hM,t,h=>by
    refine alB M (tgF l aG aZ dw b n) (λu hu=>?_) (λn hn=>hM n (ou _ hn)) t h;unfold tgF at hu
    split at hu
    · rename_i hp
      split at hu
      · cases hu; exact⟨hM _ qF,hp⟩
      · split at hu
        · cases hu; exact⟨hM _ qF,hp⟩
        · cases hu; exact hb _ rfl
    · exact hb u hu
theorem alC{l:List aV}{aG:List Int}{aZ:List gq}{dw:List Int}{t:aV}(h:tL l aG aZ dw l=some t):t∈l/\Da l aG aZ dw t.ID=true:=
  alB l none (λ_ h=>by cases h) (λ_ h=>h) t h
theorem ate{l:List bD}{wY:List Int}{dV:Int}(h:J8 l wY dV=true):C9 l wY dV∈wY:=by
  unfold J8 at h; unfold C9
  cases hf:wY.find? (IZ l dV) with
  | none=>rw [hf] at h; cases h
  | some n=>exact Gn hf
structure aF0 (x:Jh) (M:List fA) (o:aM):Prop where
  ex:∃ n∈M,∃ l,zu x (aU x.ks n.aC) (aU x.dG n.aC) l=true/\o=VA (aU x.ks n.aC) (LY x (aU x.dG n.aC) l) (Bv (Kr x (aU x.ks n.aC) l)) x.u
theorem alD{x:Jh}{c d:aH}{h:Int}:∀(f:Nat)(l:List bD)(o:List aM),∀ z∈(QZ x c d h f (l,o)).2,z∈o∨∃ l,zu x c d l=true/\z=VA c (LY x d l) (Bv (Kr x c l)) x.u
  | 0,_,_,z,hz=>.inl hz
  | f+1,l,o,z,hz=>by
    unfold QZ at hz
    split at hz
    · rename_i hc
      rcases alD f _ _ z hz with h1 | h1
      · unfold Df at h1
        split at h1
        · rcases jN.1 h1 with h2 | h2
          · exact .inl h2
          · exact .inr ⟨l,hc.2,j4.1 h2⟩
        · exact .inl h1
      · exact .inr h1
    · exact .inl hz
theorem alE{x:Jh}:∀(M:List fA)(s:List bD × List aM),∀ z∈(sQ x M s).2,z∈s.2∨aF0 x M z
  | [],_,z,hz=>.inl hz
  | n::M,s,z,hz=>by
    rcases alE M (aae x s n) z hz with h1 | ⟨n',hn,l,h2,h3⟩
    · rcases alD 100 s.1 s.2 z h1 with h2 | ⟨l,h2,h3⟩
      · exact .inl h2
      · exact .inr ⟨n,qF,l,h2,h3⟩
    · exact .inr ⟨n',ou _ hn,l,h2,h3⟩
structure ajM (m:dF) (s:iF) (r:ARules) (aN:Int) (o:aM):Prop where
  is_:gY m.aA o.aC=true
  there:jU m.aT o.To=true
  fr:(aU m.aA o.aC).aD.contains o.jM=true
  ni:(aU m.aA o.aC).aD.contains o.To=false
  al:(Ey s r aN).contains o.jM=true
  bl:(Ey s r aN).contains o.To=true
  gf:(kG (dS s aN).bL o.aC).contains o.jM=false
  gt:(kG (dS s aN).bL o.aC).contains o.To=false
  st:(gU m.aT o.To).gP=0
  ver:o.aB=(aU m.aA o.aC).aB
  sum:o.Sum=(aU m.aA o.aC).Sum
  til:o.jS=aN+r.jr
  bM:((Xb m.aA o.To).length:Int)<(gU m.aT o.To).l6
theorem aoo{ds:List aM}{c:aH}{h:Int}:h∈(qz ds c).aD↔h∈c.aD/\(kG ds c.ID).contains h=false:=by
  unfold qz; simp only [nJ,eG]
theorem aA6{m:dF}{s:iF}{r:ARules}{aN:Int}(hm:kR m.aA=true){o:aM}(h:aF0 (rdX m s r aN) (rdN m s r aN) o):ajM m s r aN o/\o.Kind=0:=by
  obtain⟨n,hn,l,hg,rfl⟩:=h;obtain⟨c1,hc1,_,rfl⟩:=X7.1 hn;obtain⟨c,hc,rfl⟩:=gQ.1 hc1;have h1:gY m.aA c.ID=true/\aU m.aA c.ID=c:=Ei hm hc;have h2:=Oc hm (dS s aN).bL hc;have e1:aU (rdX m s r aN).ks (OH m.aT (Ey s r aN) (qz (dS s aN).bL c)).aC=c:=h1.2;have e2:aU (rdX m s r aN).dG (OH m.aT (Ey s r aN) (qz (dS s aN).bL c)).aC=qz (dS s aN).bL c:=h2.2;rw [e1,e2] at hg ⊢;unfold zu at hg
  simp only [bN] at hg
  cases ht:Kr (rdX m s r aN) c l with
  | none=>rw [ht] at hg; exact absurd hg.1.1 au
  | some t=>
    have h3:=alC (show tL m.aT (Ey s r aN) _ (Yc (rdX m s r aN) c l) m.aT=some t from ht);have h4:=XE h3.1 h3.2;have h5:=ate hg.1.2;have h6:LY (rdX m s r aN) (qz (dS s aN).bL c) l∈acT (Ey s r aN) (qz (dS s aN).bL c):=h5;unfold acT at h6
    simp only [nJ,XC] at h6
    have h7:=aoo.1 h6.1;have h8:(Yc (rdX m s r aN) c l).contains t.ID=false:=h4.2.2.2.2.1
    have h9:t.ID∉c.aD/\t.ID∉kG (dS s aN).bL c.ID:=by
      have h8':t.ID∉Yc (rdX m s r aN) c l:=λhh=>by rw [nI.2 hh] at h8; cases h8
      unfold Yc at h8'
      simp only [CV,List.flatten_nil,yN,jN,not_or] at h8'
      exact⟨h8'.1,h8'.2.2⟩
    have hb:=abF h4.1 h3.1;have hld:=atd (cs:=m.aA) h4.1 h3.1 l;refine⟨⟨h1.1,hb.1,?_,?_,h6.2,h4.2.2.2.1,?_,?_,?_,?_,?_,Y,?_⟩,Y⟩
    · show(aU m.aA c.ID).aD.contains _=true
      rw [h1.2]; exact nI.2 h7.1
    · show(aU m.aA c.ID).aD.contains t.ID=false
      rw [h1.2]; exact xA.2 λhh=>h9.1 (nI.1 hh)
    · exact h7.2
    · exact xA.2 λhh=>h9.2 (nI.1 hh)
    · show(gU m.aT t.ID).gP=0
      rw [hb.2]; exact h4.2.2.1
    · show c.aB=(aU m.aA c.ID).aB; rw [h1.2]
    · show c.Sum=(aU m.aA c.ID).Sum; rw [h1.2]
    · show((Xb m.aA t.ID).length:Int)<(gU m.aT t.ID).l6
      rw [hb.2,alA hm];exact Int.lt_of_le_of_lt hld h4.2.2.2.2.2.1
theorem Oe{ls:List bD}{ks:List aH}{ns:List aV}{aG:List Int}{bW u:Int}{M:List aH}{o:aM}(h:o∈xY ls ks ns aG bW u M):∃ c∈M,(trE ls ks ns aG bW c).2=true/\(jX ls c.ID).length=0/\o=Yb c (trE ls ks ns aG bW c).1 u:=by
  obtain⟨c,hc,h1⟩:=SQ.1 h;unfold QX at h1
  split at h1
  · simp at h1
  · rename_i h2
    split at h1
    · rename_i h3; exact⟨c,hc,h3,aj,j4.1 h1⟩
    · simp at h1
theorem alF{l:List aV}{aG:List Int}{x:aV}(h:x∈wm l aG):uy l=true/\x∈l/\x.gP=0/\aG.contains x.ID=true:=by
  unfold wm at h; split at h
  · rename_i hm
    have h1:=nJ.1 h;have h2:=h1.2;unfold amG at h2
    simp only [Bool.not_or,XC,bN,bO] at h2
    exact⟨hm,h1.1,h2⟩
  · simp at h
theorem awK{m:dF}{s:iF}{r:ARules}{aN:Int}{o:aM}(h:o∈xF m s r aN):rdB m r=true/\((ajM m s r aN o/\o.Kind=0)∨(o∈AZ m s r aN/\o.Kind=1)):=by
  unfold xF at h
  split at h
  · rename_i hb
    refine⟨hb,?_⟩;have hm:kR m.aA=true:=by unfold rdB at hb; simp only [bN] at hb; exact hb.2
    have key:∀ z∈(CJ m s r aN).2++AZ m s r aN,(ajM m s r aN z/\z.Kind=0)∨(z∈AZ m s r aN/\z.Kind=1):=by
      intro z hz
      rcases jN.1 hz with h1 | h1
      · rcases alE _ _ z h1 with h2 | h2
        · simp at h2
        · exact .inl (aA6 hm h2)
      · obtain⟨c,_,_,_,h3⟩:=Oe h1
        exact .inr ⟨h1,by rw [h3]; rfl⟩
    unfold rdO at h
    split at h
    · rename_i hq
      unfold Vg at h
      split at h
      · rename_i hbq
        unfold Df at h
        split at h
        · rcases jN.1 h with h1 | h1
          · exact key o h1
          · left
            have hd:(dS s aN).bL=[]:=by
              unfold rdQ at hq; simp only [bN,bO] at hq;have:=hq.2; rw [jd] at this;exact uE aj
            have hs:Ji m s aN=m.aA:=by unfold Ji; rw [hd]; exact aon _
            unfold Pm at hbq;rw [hs] at hbq h1
            simp only [bN] at hbq
            rcases ahy m.aA m.aT (Ey s r aN) r.eP with ⟨_,h2⟩ | ⟨⟨_,x,y,c,hx,hy,hc,_,_,h4,h5,h6⟩,_⟩
            · rw [h2] at hbq; exact absurd hbq.1 au
            · rw [h6] at h1
              have hf:=Ei hm hc;have e1:aU m.aA c.ID=c:=hf.2
              simp only [e1] at h1
              obtain rfl:=j4.1 h1;have hx':=alF hx; have hy':=alF hy;have hb':=abF hy'.1 hy'.2.1;unfold Bg at h5
              simp only [bN,eG] at h5
              refine⟨⟨hf.1,hb'.1,?_,?_,hx'.2.2.2,hy'.2.2.2,?_,?_,?_,?_,?_,Y,?_⟩,Y⟩
              · show(aU m.aA c.ID).aD.contains x.ID=true; rw [e1]; exact h5.1.1
              · show(aU m.aA c.ID).aD.contains y.ID=false; rw [e1]; exact h5.1.2
              · rw [hd]; rfl
              · rw [hd]; rfl
              · show(gU m.aT y.ID).gP=0; rw [hb'.2]; exact hy'.2.2.1
              · show c.aB=(aU m.aA c.ID).aB; rw [e1]
              · show c.Sum=(aU m.aA c.ID).Sum; rw [e1]
              · show((Xb m.aA y.ID).length:Int)<(gU m.aT y.ID).l6
                rw [hb'.2,alA hm]; exact h4
        · exact key o h
      · exact key o h
    · exact key o h
  · simp at h
theorem Ni:∀ {h:List Int},h.Pairwise (λx y=>x<y)->∀ {fr:Int},fr∈h->(h.filter fun(x9:Int)=>!(decide (x9=fr))).length+1=h.length
  | [],_,_,hm=>by simp at hm
  | a::h,hu,fr,hm=>by
    have h1:=pG.1 hu
    by_cases e:a=fr
    · subst e
      rw [adi av,Ep.2 (λx hx=>by have:=h1.1 x hx; simp; omega)]; rfl
    · rw [adk (by simpa using e)]
      have h2:=Ni h1.2 ((iX.1 hm).resolve_left (λh=>e h.symm))
      simp only [pF]; omega
theorem atf{cf:Int->Int->Int}{l:List Int}(h:l≠[]):I6 cf l∈l:=by
  have key:∀(l:List Int)(x:Int),l.foldl (λm y=>if 0<cf y m then y else m) x∈x::l:=by
    intro l
    induction l with
    | nil=>intro x; exact qF
    | cons y l ih=>
      intro x;rw [sK];have h1:=ih (if 0<cf y x then y else x)
      rcases iX.1 h1 with h2 | h2
      · rw [h2]; split <;> simp
      · exact ou _ (ou _ h2)
  cases l with
  | nil=>exact absurd rfl h
  | cons x l=>exact key l x
theorem aA7{c:aH}{l:List aV}{aG:List Int}{aZ:List gq}{bW:Int}(h:(Ve c l aG aZ bW).2=true):1<=bW/\bW<=(jH c l aG).length/\((Ve c l aG aZ bW).1∈O7 c l aG∨(bW<(jH c l aG).length/\(Ve c l aG aZ bW).1∈jH c l aG)):=by
  unfold Ve at h ⊢
  by_cases h1:bW<1∨((jH c l aG).length:Int)<bW
  · rw [aO h1] at h; cases h
  · rw [aK h1] at h ⊢
    simp only [not_or] at h1
    refine⟨aj,aj,?_⟩
    cases hi:O7 c l aG with
    | cons i t=>exact .inl qF
    | nil=>
      rw [hi] at h
      simp only at h ⊢
      by_cases h2:((jH c l aG).length:Int)=bW
      · rw [aO h2] at h; cases h
      · rw [aK h2]
        exact .inr ⟨aj,atf λe=>by rw [e] at h1 h2; simp at h1 h2; omega⟩
theorem ahz{ls:List bD}{ks:List aH}{ns:List aV}{aG:List Int}{bW u:Int}:∀ {M:List aH},Up aH.ID M->∀ {c:aH},c∈M->(xY ls ks ns aG bW u M).filter (fun(o:aM)=>decide (o.aC=c.ID))=QX ls ks ns aG bW u c:=by
  intro M
  have hch:∀ c (o:aM),o∈QX ls ks ns aG bW u c->o.aC=c.ID:=by
    intro c o ho;unfold QX at ho
    split at ho
    · simp at ho
    · split at ho
      · rw [j4.1 ho]; rfl
      · simp at ho
  induction M with
  | nil=>intro _ c hc; simp at hc
  | cons d M ih=>
    intro hu c hc;have hu':=pG.1 hu;show((QX ls ks ns aG bW u d)++xY ls ks ns aG bW u M).filter _=_;rw [vX]
    rcases iX.1 hc with rfl | hc
    · rw [Ep.2 (λo ho=>by simpa using hch c o ho),YD.2 (λo ho=>?_),yN]
      obtain⟨d,hd,_,_,rfl⟩:=Oe ho;have h1:=hu'.1 d hd;intro h2; have h3:d.ID=c.ID:=gW h2;omega
    · rw [YD.2 (λo ho=>?_),KQ,ih hu'.2 hc]
      have:=hch d o ho; have h2:=hu'.1 c hc
      simp only [bO]; omega
structure aA8 (m:dF) (s:iF) (r:ARules) (aN:Int) (o:aM):Prop where
  is_:gY (Ji m s aN) o.aC=true
  was:gY (zq m.aA (mZ m s r aN).bL) o.aC=true
  holds:(aU (Ji m s aN) o.aC).aD.contains o.To=true
  again:(jH (aU (zq m.aA (mZ m s r aN).bL) o.aC) m.aT (Ey s r aN)).contains o.To=false
  many:r.nE<=(jH (aU (zq m.aA (mZ m s r aN).bL) o.aC) m.aT (Ey s r aN)).length
  bW:1<=r.nE
  ver:o.aB=(aU (Ji m s aN) o.aC).aB
  cmd:wC o=⟨0,0,6,o.aC,o.To,0⟩
theorem ahA{l:List Int}{x:Int}(h:x∉l):l.contains x=false:=xA.2 λhh=>h (nI.1 hh)
theorem aop(a b:List aM)(id:Int):kG (a++b) id=kG a id++kG b id:=by unfold kG; rw [vX,qc]
theorem awL{m:dF}{s:iF}{r:ARules}{aN:Int}(hb:rdB m r=true){o:aM}(ho:o∈AZ m s r aN):aA8 m s r aN o:=by
  have hm:lY r=true/\kR m.aA=true:=by simpa [rdB] using hb
  obtain⟨c,hc,hx,hcm,rfl⟩:=Oe ho;obtain⟨c0,h0,rfl⟩:=gQ.1 hc
  generalize hi:(trE (CJ m s r aN).1 m.aA m.aT (Ey s r aN) r.nE (qz (dS s aN).bL c0)).1=id at *
  have hE:=aA7 (show(Ve (qz (dS s aN).bL c0) m.aT (Ey s r aN) (jZ m.aA m.aT (CJ m s r aN).1) r.nE).2=true from hx);rw [show(Ve (qz (dS s aN).bL c0) m.aT (Ey s r aN) (jZ m.aA m.aT (CJ m s r aN).1) r.nE).1=id from hi] at hE;have hD:(mZ m s r aN).bL=(dS s aN).bL++AZ m s r aN:=by unfold mZ; rw [aO hb]
  have hgT:kG (AZ m s r aN) c0.ID=[id]:=by
    have h1:=ahz (ls:=(CJ m s r aN).1) (ks:=m.aA) (ns:=m.aT) (aG:=Ey s r aN) (bW:=r.nE) (u:=aN+r.jr) (M:=Ji m s aN) (acd (Zc hm.2 _)) hc
    have h2:QX (CJ m s r aN).1 m.aA m.aT (Ey s r aN) r.nE (aN+r.jr) (qz (dS s aN).bL c0)=[Yb (qz (dS s aN).bL c0) id (aN+r.jr)]:=by
      unfold QX; rw [aK aj,aO hx,hi]
    unfold kG;rw [show(AZ m s r aN).filter (fun(o:aM)=>decide (o.aC=c0.ID))=_ from h1.trans h2]; rfl
  have f1:=Oc hm.2 (dS s aN).bL h0;have f2:=Oc hm.2 ((dS s aN).bL++AZ m s r aN) h0
  have hH:(qz ((dS s aN).bL++AZ m s r aN) c0).aD=(qz (dS s aN).bL c0).aD.filter (fun(x:Int)=>!decide (x=id)):=by
    unfold qz; simp only; rw [aop,hgT,List.filter_filter]
    congr 1; funext x
    rw [ab0]
    simp only [eG,bN,bV,xA,ne_eq,nI,jN,j4,not_or,bO]
    exact And.comm
  have hG:jH (qz ((dS s aN).bL++AZ m s r aN) c0) m.aT (Ey s r aN)=(jH (qz (dS s aN).bL c0) m.aT (Ey s r aN)).filter (fun(x:Int)=>!decide (x=id)):=by
    unfold jH E8; rw [hH,List.filter_filter,List.filter_filter,List.filter_filter,List.filter_filter]
    congr 1; funext x
    cases decide (x=id) <;> cases (Ey s r aN).contains x <;> cases UJ m.aT x <;> rfl
  have aIV:id∈(qz (dS s aN).bL c0).aD:=by
    rcases hE.2.2 with h | ⟨_,h⟩
    · exact(nJ.1 h).1
    · exact(nJ.1 (nJ.1 h).1).1
  have hup:(jH (qz (dS s aN).bL c0) m.aT (Ey s r aN)).Pairwise (λx y=>x<y):=
    ((Nr (Vt (Zc hm.2 (dS s aN).bL) _ hc)).filter _).filter _
  refine⟨f1.1,?_,?_,?_,?_,hE.1,?_,Y⟩
  · rw [hD]; exact f2.1
  · show(aU (Ji m s aN) c0.ID).aD.contains id=true
    rw [show aU (Ji m s aN) c0.ID=_ from f1.2]; exact nI.2 aIV
  · rw [hD]; show(jH (aU _ c0.ID) m.aT (Ey s r aN)).contains id=false
    rw [f2.2,hG]; exact ahA av
  · rw [hD]; show r.nE<=(jH (aU _ c0.ID) m.aT (Ey s r aN)).length
    rw [f2.2,hG]
    rcases hE.2.2 with h | ⟨h1,h⟩
    · rw [Ep.2 (λx hx=>?_)]
      · exact hE.2.1
      · have h3:=(nJ.1 h).2
        have h4:=(nJ.1 hx).2
        simp only [eG,bV]
        rintro rfl;unfold aiL at h3; unfold UJ at h4
        simp only [bN,eG,bV,bO] at h3 h4
        exact h3.1.2 h4.2
    · have h5:=Ni hup h
      omega
  · show c0.aB=(aU (Ji m s aN) c0.ID).aB
    rw [show aU (Ji m s aN) c0.ID=_ from f1.2]; rfl
end Go.Proofs.YtlhnnmlenkahlaaGreat
