/- Lemmas. -/
import Derived.Test.YtlhnnmlenkahlaaGreathG13
set_option maxRecDepth 4000
set_option linter.all false
namespace Go.Proofs.YtlhnnmlenkahlaaGreat
open Go.RowKit Go.Proofs.Tryz
def O8:=@underlying24
section
theorem Ue:∀ {l m:List aR} {z:Int},m.Sublist l->CF z l=true->CF z m=true
  | _,_,_,.slnil,h=>h
  | _,_,z,.cons a (l₁:=m) (l₂:=l) hs,h=>by
    simp only [CF,bK,dZ,dO,fI,bV] at h
    have h1:=Ue hs h.2
    cases m with
    | nil=>rfl
    | cons b m=>
      simp only [CF,bK,dZ,dO,fI,bV] at h1 ⊢
      exact⟨⟨h1.1.1,aj⟩,h1.2⟩
  | _,_,z,.cons₂ a (l₁:=m) (l₂:=l) hs,h=>by
    simp only [CF,bK] at h ⊢
    exact⟨h.1,Ue hs h.2⟩
theorem anN(l:List aR)(aH:List Int):sj (wU l aH)=true:=by
  unfold wU; split
  · rename_i h; exact Ue Yr h
  · rfl
theorem UY(cs:List aF)(l:List aR)(aH:List Int):ig cs l aH=(wU l aH).map fun(n:aR)=>⟨n.ID,(oW cs n.ID:Int)⟩:=by
  simp [ig,oH,aS,anN]
theorem akT{cs:List aF}{l:List aR}{aH:List Int}{y:aR}(h:y∈wU l aH):nU (ig cs l aH) y.ID=(oW cs y.ID:Int)/\(⟨y.ID,(oW cs y.ID:Int)⟩:fP)∈ig cs l aH:=by
  have hm:(⟨y.ID,(oW cs y.ID:Int)⟩:fP)∈ig cs l aH:=by grind [UY]
  refine⟨?_,hm⟩;unfold nU
  grind [UY]
theorem ag2{cf:aR->aR->Int}{l:List aR}{x:aR}:x∈Ko cf l↔x∈l:=by simp [Ko]
theorem anO{xs ys:List aR}{p:aR × aR}:p∈vN xs ys↔p.1∈xs/\p.2∈ys:=by
  obtain⟨x,y⟩:=p
  simp only [vN,List.mem_flatMap,gB,Prod.mk.injEq]
  constructor
  · rintro⟨a,ha,b,hb,rfl,rfl⟩; exact⟨ha,hb⟩
  · rintro⟨ha,hb⟩; exact⟨x,ha,y,hb,rfl,rfl⟩
structure aA6 (cs:List aF) (l:List aR) (aH:List Int) (kZ:Int) (o:aK):Prop where
  may:kI cs=true
  ex:∃(x y:aR)(c:aF),x∈wU l aH/\y∈wU l aH/\c∈cs/\kZ<oW cs x.ID - oW cs y.ID/\1<(oW cs x.ID:Int) - oW cs y.ID/\(oW cs y.ID:Int)<y.lD/\Bn c l x.ID y.ID=true/\o=⟨0,c.ID,c.aB,c.Sum,x.ID,y.ID,0⟩
theorem asK{cs:List aF}{l:List aR}{aH:List Int}{kZ:Int}{p:aR × aR}{o:aK}(h1:p.1∈wU l aH)(h2:p.2∈wU l aH)(h:Dq cs l (ig cs l aH) kZ p=some o):∃ c,c∈cs/\kZ<oW cs p.1.ID - oW cs p.2.ID/\1<(oW cs p.1.ID:Int) - oW cs p.2.ID/\(oW cs p.2.ID:Int)<p.2.lD/\Bn c l p.1.ID p.2.ID=true/\o=⟨0,c.ID,c.aB,c.Sum,p.1.ID,p.2.ID,0⟩:=by
  unfold Dq at h;rw [(akT h1).1,(akT h2).1] at h;have hm:kZ<=(if 1>kZ then 1 else kZ)/\1<=(if 1>kZ then 1 else kZ):=by grind
  generalize (if 1>kZ then 1 else kZ)=m at h hm
  by_cases hc:(oW cs p.1.ID:Int) - oW cs p.2.ID<=m∨p.2.lD<=(oW cs p.2.ID:Int)
  · grind
  · rw [aP hc] at h
    unfold abQ at h
    cases hf:cs.find? (fun(c:aF)=>Bn c l p.1.ID p.2.ID) <;> grind
theorem UZ(cs:List aF)(l:List aR)(aH:List Int)(kZ:Int):(jm cs l aH kZ=⟨0,0,0,0,0,0,0⟩/\moveB cs l aH kZ=false)∨(aA6 cs l aH kZ (jm cs l aH kZ)/\moveB cs l aH kZ=true):=by
  unfold moveB jm
  by_cases hm:kI cs=true
  · rw [aS hm]
    cases hf:(Xx cs l aH).findSome? (Dq cs l (ig cs l aH) kZ) with
    | none=>simp
    | some o=>
      right
      obtain⟨p,hp,ho⟩:=List.exists_of_findSome?_eq_some hf;have hp':=anO.1 hp;rw [ag2,ag2] at hp';obtain⟨c,h1,h2,h3,h4,h5,h6⟩:=asK hp'.1 hp'.2 ho;refine⟨⟨hm,p.1,p.2,c,hp'.1,hp'.2,h1,h2,h3,h4,h5,h6⟩,?_⟩;have h7:=BD _ _ (kM.1 hm).2.2 c.ID (gB.2 ⟨c,h1,rfl⟩)
      grind
  grind
theorem anP(c:aF):oF [] c=c:=by
  unfold oF;rw [Gm.2 (λx _=>by simp [mU])]
theorem anQ(l:List aF):zy l []=l:=by
  unfold zy; rw [show oF []=id from funext anP,List.map_id]
theorem akU{cs:List aF}(hm:kI cs=true)(id:Int):(Zk cs id).length=oW cs id:=by
  grind [Zk,oW,wD,List.length_map]
theorem Ib{l:List aR}(hm:sj l=true){n:aR}(hn:n∈l):kg l n.ID=true/\gX l n.ID=n:=by
  have hb:kg l n.ID=true:=by
    unfold kg; rw [wE hm]; exact(sU (key:=aR.ID) (Ey _ 0 hm) _).2 (by grind)
  refine⟨hb,?_⟩;unfold kg at hb;obtain⟨x,hx,hk⟩:=qh (key:=aR.ID) hb;rw [qG hb hx];have h3:=bZ hx;rw [wE hm] at h3;exact P8 (Ey _ 0 hm) h3 hn hk
theorem Ic{l:List aF}(hm:kI l=true)(ds:List aK):kI (zy l ds)=true:=by
  have h:=kM.1 hm;refine kM.2 ⟨λc hc=>?_,by grind [BM],?_⟩
  · obtain⟨c0,h0,rfl⟩:=gB.1 hc
    grind [nS,oF,oL,rC,SF,List.filter_sublist]
  · have e:(zy l ds).map aF.ID=l.map aF.ID:=by unfold zy; rw [OP]; rfl
    grind
theorem Ie{l:List aF}(hm:kI l=true)(ds:List aK){c:aF}(hc:c∈l):gZ (zy l ds) c.ID=true/\aU (zy l ds) c.ID=oF ds c:=
  xY (Ic hm ds) (c:=oF ds c) (gB.2 (by grind))
theorem asL(l:List fP)(x:bf)(id:Int):nU (Oc l x) id=if x.To=id then nU l id+1 else nU l id:=by
  grind [Oc,nU,id]
theorem asM{cs:List aF}{ns:List aR}(hm:sj ns=true){n:aR}(hn:n∈ns)(ls:List bf):(oW cs n.ID:Int)<=nU (jh cs ns ls) n.ID:=by
  have key:∀(ls:List bf)(l:List fP),nU l n.ID<=nU (ls.foldl Oc l) n.ID:=by
    intro ls
    induction ls with
    | nil=>simp
    | cons x ls ih=>grind [asL]
  refine Int.le_trans ?_ (key ls _)
  have h0:nU (oH cs ns) n.ID=(oW cs n.ID:Int):=by
    unfold oH nU; rw [aS hm]
    cases hf:(ns.map fun(n:aR)=>(⟨n.ID,(oW cs n.ID:Int)⟩:fP)).find? (fun(x:fP)=>decide (x.Node=n.ID)) with
    | none=>exact absurd (List.find?_eq_none.1 hf ⟨n.ID,(oW cs n.ID:Int)⟩ (by grind)) av
    | some y=>
      grind
  omega
theorem akV{l:List aR}{aH:List Int}{aX:List fP}{cu:List Int}:∀(M:List aR)(b:Option aR),(∀ t,b=some t->t∈l/\Br l aH aX cu t.ID=true)->(∀ n∈M,n∈l)->∀ t,M.foldl (tgF l aH aX cu) b=some t->t∈l/\Br l aH aX cu t.ID=true
  | [],b,hb,_,t,h=>hb t h
  | n::M,b,hb,hM,t,h=>by
    refine akV M (tgF l aH aX cu b n) (λu hu=>?_) (λn hn=>hM n (lS _ hn)) t h;unfold tgF at hu
    split at hu
    · rename_i hp
      split at hu
      · cases hu; exact⟨hM _ oo,hp⟩
      · split at hu
        · cases hu; exact⟨hM _ oo,hp⟩
        · cases hu; exact hb _ rfl
    · exact hb u hu
theorem adQ{l:List aR}{aH:List Int}{aX:List fP}{cu:List Int}{t:aR}(h:uR l aH aX cu l=some t):t∈l/\Br l aH aX cu t.ID=true:=
  akV l none av av t h
theorem ag3{l:List bf}{yC:List Int}{dD:Int}(h:EF l yC dD=true):Bq l yC dD∈yC:=by
  grind [EF,Bq,Lh]
structure aGu (x:Gv) (M:List eG) (o:aK):Prop where
  ex:∃ n∈M,∃ l,wH x (aU x.ks n.aD) (aU x.dF n.aD) l=true/\o=DR (aU x.ks n.aD) (uw x (aU x.dF n.aD) l) (yF (rZ x (aU x.ks n.aD) l)) x.u
theorem akW{x:Gv}{c d:aF}{h:Int}:∀(f:Nat)(l:List bf)(o:List aK),∀ z∈(Kt x c d h f (l,o)).2,z∈o∨∃ l,wH x c d l=true/\z=DR c (uw x d l) (yF (rZ x c l)) x.u
  | 0,_,_,z,hz=>.inl hz
  | f+1,l,o,z,hz=>by
    unfold Kt at hz
    split at hz
    · rename_i hc
      rcases akW f _ _ z hz with h1 | h1
      · unfold xw at h1
        split at h1
        · rcases kX.1 h1 with h2 | h2
          · exact .inl h2
          · exact .inr ⟨l,hc.2,oG.1 h2⟩
        · exact .inl h1
      · exact .inr h1
    · exact .inl hz
theorem adR{x:Gv}:∀(M:List eG)(s:List bf × List aK),∀ z∈(qz x M s).2,z∈s.2∨aGu x M z
  | [],_,z,hz=>.inl hz
  | n::M,s,z,hz=>by
    rcases adR M (Jb x s n) z hz with h1 | ⟨n',hn,l,h2,h3⟩
    · rcases akW 100 s.1 s.2 z h1 with h2 | ⟨l,h2,h3⟩
      · exact .inl h2
      · exact .inr ⟨n,oo,l,h2,h3⟩
    · exact .inr ⟨n',lS _ hn,l,h2,h3⟩
structure adS (m:dh) (s:gG) (r:ARules) (aJ:Int) (o:aK):Prop where
  is_:gZ m.aA o.aD=true
  there:kg m.aL o.To=true
  fr:(aU m.aA o.aD).aC.contains o.jM=true
  nV:(aU m.aA o.aD).aC.contains o.To=false
  al:(vK s r aJ).contains o.jM=true
  bl:(vK s r aJ).contains o.To=true
  gf:(mU (fq s aJ).bA o.aD).contains o.jM=false
  gt:(mU (fq s aJ).bA o.aD).contains o.To=false
  st:(gX m.aL o.To).gq=0
  ver:o.aB=(aU m.aA o.aD).aB
  sum:o.Sum=(aU m.aA o.aD).Sum
  til:o.ji=aJ+r.iD
  bG:((Zk m.aA o.To).length:Int)<(gX m.aL o.To).lD
theorem Ny{ds:List aK}{c:aF}{h:Int}:h∈(oF ds c).aC↔h∈c.aC/\(mU ds c.ID).contains h=false:=by
  simp [oF]
theorem asN{m:dh}{s:gG}{r:ARules}{aJ:Int}(hm:kI m.aA=true){o:aK}(h:aGu (Dv m s r aJ) (RP m s r aJ) o):adS m s r aJ o/\o.Kind=0:=by
  obtain⟨n,hn,l,hg,rfl⟩:=h;obtain⟨c1,hc1,_,rfl⟩:=OC.1 hn;obtain⟨c,hc,rfl⟩:=gB.1 hc1;have h1:gZ m.aA c.ID=true/\aU m.aA c.ID=c:=xY hm hc;have h2:=Ie hm (fq s aJ).bA hc;have e1:aU (Dv m s r aJ).ks (Lu m.aL (vK s r aJ) (oF (fq s aJ).bA c)).aD=c:=h1.2;have e2:aU (Dv m s r aJ).dF (Lu m.aL (vK s r aJ) (oF (fq s aJ).bA c)).aD=oF (fq s aJ).bA c:=h2.2;rw [e1,e2] at hg ⊢;unfold wH at hg
  simp only [bK] at hg
  cases ht:rZ (Dv m s r aJ) c l with
  | none=>grind
  | some t=>
    have h3:=adQ (show uR m.aL (vK s r aJ) _ (Ja (Dv m s r aJ) c l) m.aL=some t from ht);have h4:=Qk h3.1 h3.2;have h5:=ag3 hg.1.2;have h6:uw (Dv m s r aJ) (oF (fq s aJ).bA c) l∈I9 (vK s r aJ) (oF (fq s aJ).bA c):=h5;unfold I9 at h6
    simp only [jV,Bool.not_not] at h6
    have h7:=Ny.1 h6.1;have h8:(Ja (Dv m s r aJ) c l).contains t.ID=false:=h4.2.2.2.2.1;have h9:t.ID∉c.aC/\t.ID∉mU (fq s aJ).bA c.ID:=by simp_all [Ja,Dv]
    have hb:=Ib h4.1 h3.1;have hld:=asM (cs:=m.aA) h4.1 h3.1 l;refine⟨⟨h1.1,hb.1,?_,?_,h6.2,h4.2.2.2.1,?_,?_,?_,?_,?_,Y,?_⟩,Y⟩
    · grind
    · show(aU m.aA c.ID).aC.contains t.ID=false
      grind
    · grind
    · exact Bw.2 λhh=>h9.2 (nR.1 hh)
    · show(gX m.aL t.ID).gq=0
      grind
    · grind
    · grind
    · show((Zk m.aA t.ID).length:Int)<(gX m.aL t.ID).lD
      grind [akU]
theorem Ig{ls:List bf}{ks:List aF}{ns:List aR}{aH:List Int}{bS u:Int}{M:List aF}{o:aK}(h:o∈wV ls ks ns aH bS u M):∃ c∈M,(trE ls ks ns aH bS c).2=true/\(jJ ls c.ID).length=0/\o=Tz c (trE ls ks ns aH bS c).1 u:=by
  obtain⟨c,hc,h1⟩:=Ol.1 h
  grind [NP]
theorem akX{l:List aR}{aH:List Int}{x:aR}(h:x∈wU l aH):sj l=true/\x∈l/\x.gq=0/\aH.contains x.ID=true:=by
  grind [wU,ao1]
theorem awv{m:dh}{s:gG}{r:ARules}{aJ:Int}{o:aK}(h:o∈qb m s r aJ):rdB m r=true/\((adS m s r aJ o/\o.Kind=0)∨(o∈uy m s r aJ/\o.Kind=1)):=by
  unfold qb at h
  split at h
  · rename_i hb
    refine⟨hb,?_⟩;have hm:kI m.aA=true:=by grind [rdB]
    have key:∀ z∈(tO m s r aJ).2++uy m s r aJ,(adS m s r aJ z/\z.Kind=0)∨(z∈uy m s r aJ/\z.Kind=1):=by
      intro z hz
      rcases kX.1 hz with h1 | h1
      · rcases adR _ _ z h1 with h2 | h2
        all_goals grind [asN]
      · obtain⟨c,_,_,_,h3⟩:=Ig h1
        exact .inr ⟨h1,by rw [h3]; rfl⟩
    unfold rdO at h
    split at h
    · rename_i hq
      unfold Qw at h
      split at h
      · rename_i hbq
        unfold xw at h
        split at h
        · rcases kX.1 h with h1 | h1
          · grind
          · left
            have hd:(fq s aJ).bA=[]:=by
              unfold rdQ at hq; simp only [bK,bM] at hq;have:=hq.2; rw [jG] at this;exact qF aj
            have hs:EJ m s aJ=m.aA:=by grind [EJ,anQ]
            unfold NM at hbq;rw [hs] at hbq h1
            simp only [bK] at hbq
            rcases UZ m.aA m.aL (vK s r aJ) r.eZ with ⟨_,h2⟩ | ⟨⟨_,x,y,c,hx,hy,hc,_,_,h4,h5,h6⟩,_⟩
            · grind
            · rw [h6] at h1
              have hf:=xY hm hc;have e1:aU m.aA c.ID=c:=hf.2
              simp only [e1] at h1
              obtain rfl:=oG.1 h1;have hx':=akX hx; have hy':=akX hy;have hb':=Ib hy'.1 hy'.2.1;unfold Bn at h5
              simp only [bK,dZ] at h5
              refine⟨⟨hf.1,hb'.1,?_,?_,hx'.2.2.2,hy'.2.2.2,?_,?_,?_,?_,?_,Y,?_⟩,Y⟩
              · grind
              · grind
              · rw [hd]; rfl
              · rw [hd]; rfl
              all_goals grind [akU]
        grind
      grind
    grind
  grind
theorem Me:∀ {h:List Int},h.Pairwise (λx y=>x<y)->∀ {fr:Int},fr∈h->(h.filter fun(x9:Int)=>!(decide (x9=fr))).length+1=h.length
  | [],_,_,hm=>by simp at hm
  | a::h,hu,fr,hm=>by
    have h1:=nW.1 hu
    by_cases e:a=fr
    · subst e
      rw [List.filter_cons_of_neg av,Gm.2 (λx hx=>by have:=h1.1 x hx; simp; omega)]; rfl
    · rw [aiM (by simpa using e)]
      have h2:=Me h1.2 ((iR.1 hm).resolve_left (λh=>e h.symm))
      simp only [oV]; omega
theorem asO{cf:Int->Int->Int}{l:List Int}(h:l≠[]):I4 cf l∈l:=by
  have key:∀(l:List Int)(x:Int),l.foldl (λm y=>if 0<cf y m then y else m) x∈x::l:=by
    intro l
    induction l with
    | nil=>simp
    | cons y l ih=>
      grind
  cases l with
  | nil=>grind
  | cons x l=>exact key l x
theorem asP{c:aF}{l:List aR}{aH:List Int}{aX:List fP}{bS:Int}(h:(UD c l aH aX bS).2=true):1<=bS/\bS<=(jg c l aH).length/\((UD c l aH aX bS).1∈Kq c l aH∨(bS<(jg c l aH).length/\(UD c l aH aX bS).1∈jg c l aH)):=by
  unfold UD at h ⊢
  grind [asO]
theorem ag4{ls:List bf}{ks:List aF}{ns:List aR}{aH:List Int}{bS u:Int}:∀ {M:List aF},Up aF.ID M->∀ {c:aF},c∈M->(wV ls ks ns aH bS u M).filter (fun(o:aK)=>decide (o.aD=c.ID))=NP ls ks ns aH bS u c:=by
  intro M
  have hch:∀ c (o:aK),o∈NP ls ks ns aH bS u c->o.aD=c.ID:=by
    intro c o ho;unfold NP at ho
    split at ho
    · grind
    · split at ho
      · rw [oG.1 ho]; rfl
      grind
  induction M with
  | nil=>simp
  | cons d M ih=>
    intro hu c hc;have hu':=nW.1 hu;show((NP ls ks ns aH bS u d)++wV ls ks ns aH bS u M).filter _=_;rw [Bz]
    rcases iR.1 hc with rfl | hc
    · rw [Gm.2 (by grind),TI.2 (λo ho=>?_),zM]
      obtain⟨d,hd,_,_,rfl⟩:=Ig ho;have h1:=hu'.1 d hd;intro h2; have h3:d.ID=c.ID:=iY h2;omega
    · rw [TI.2 (λo ho=>?_),KG,ih hu'.2 hc]
      grind
structure aA7 (m:dh) (s:gG) (r:ARules) (aJ:Int) (o:aK):Prop where
  is_:gZ (EJ m s aJ) o.aD=true
  was:gZ (zy m.aA (jr m s r aJ).bA) o.aD=true
  holds:(aU (EJ m s aJ) o.aD).aC.contains o.To=true
  again:(jg (aU (zy m.aA (jr m s r aJ).bA) o.aD) m.aL (vK s r aJ)).contains o.To=false
  many:r.jw<=(jg (aU (zy m.aA (jr m s r aJ).bA) o.aD) m.aL (vK s r aJ)).length
  bS:1<=r.jw
  ver:o.aB=(aU (EJ m s aJ) o.aD).aB
  cmd:wG o=⟨0,0,6,o.aD,o.To,0⟩
theorem MB{l:List Int}{x:Int}(h:x∉l):l.contains x=false:=by grind
theorem anR(a b:List aK)(id:Int):mU (a++b) id=mU a id++mU b id:=by simp [mU]
theorem adT{m:dh}{s:gG}{r:ARules}{aJ:Int}(hb:rdB m r=true){o:aK}(ho:o∈uy m s r aJ):aA7 m s r aJ o:=by
  have hm:l5 r=true/\kI m.aA=true:=by simpa [rdB] using hb
  obtain⟨c,hc,hx,hcm,rfl⟩:=Ig ho;obtain⟨c0,h0,rfl⟩:=gB.1 hc
  generalize hi:(trE (tO m s r aJ).1 m.aA m.aL (vK s r aJ) r.jw (oF (fq s aJ).bA c0)).1=id at *
  have hE:=asP (show(UD (oF (fq s aJ).bA c0) m.aL (vK s r aJ) (jh m.aA m.aL (tO m s r aJ).1) r.jw).2=true from hx);rw [show(UD (oF (fq s aJ).bA c0) m.aL (vK s r aJ) (jh m.aA m.aL (tO m s r aJ).1) r.jw).1=id from hi] at hE;have hD:(jr m s r aJ).bA=(fq s aJ).bA++uy m s r aJ:=by unfold jr; rw [aS hb]
  have hgT:mU (uy m s r aJ) c0.ID=[id]:=by
    have h1:=ag4 (ls:=(tO m s r aJ).1) (ks:=m.aA) (ns:=m.aL) (aH:=vK s r aJ) (bS:=r.jw) (u:=aJ+r.iD) (M:=EJ m s aJ) (abJ (Ic hm.2 _)) hc
    have h2:NP (tO m s r aJ).1 m.aA m.aL (vK s r aJ) r.jw (aJ+r.iD) (oF (fq s aJ).bA c0)=[Tz (oF (fq s aJ).bA c0) id (aJ+r.iD)]:=by
      unfold NP; rw [aP aj,aS hx,hi]
    unfold mU;rw [show(uy m s r aJ).filter (fun(o:aK)=>decide (o.aD=c0.ID))=_ from h1.trans h2]; rfl
  have f1:=Ie hm.2 (fq s aJ).bA h0;have f2:=Ie hm.2 ((fq s aJ).bA++uy m s r aJ) h0
  have hH:(oF ((fq s aJ).bA++uy m s r aJ) c0).aC=(oF (fq s aJ).bA c0).aC.filter (fun(x:Int)=>!decide (x=id)):=by
    unfold oF; simp only; rw [anR,hgT,List.filter_filter]
    congr 1; funext x
    rw [abz]
    simp only [dZ,bK,bV,Bw,ne_eq,nR,kX,oG,not_or,bM]
    exact And.comm
  have hG:jg (oF ((fq s aJ).bA++uy m s r aJ) c0) m.aL (vK s r aJ)=(jg (oF (fq s aJ).bA c0) m.aL (vK s r aJ)).filter (fun(x:Int)=>!decide (x=id)):=by
    unfold jg EG; rw [hH,List.filter_filter,List.filter_filter,List.filter_filter,List.filter_filter]
    congr 1; funext x
    cases decide (x=id) <;> cases (vK s r aJ).contains x <;> cases Bt m.aL x <;> rfl
  have aKc:id∈(oF (fq s aJ).bA c0).aC:=by
    rcases hE.2.2 with h | ⟨_,h⟩
    · exact(jV.1 h).1
    · exact(jV.1 (jV.1 h).1).1
  have hup:(jg (oF (fq s aJ).bA c0) m.aL (vK s r aJ)).Pairwise (λx y=>x<y):=
    ((MQ (sK (Ic hm.2 (fq s aJ).bA) _ hc)).filter _).filter _
  refine⟨f1.1,?_,?_,?_,?_,hE.1,?_,Y⟩
  · rw [hD]; exact f2.1
  · show(aU (EJ m s aJ) c0.ID).aC.contains id=true
    rw [show aU (EJ m s aJ) c0.ID=_ from f1.2]; exact nR.2 aKc
  · rw [hD]; show(jg (aU _ c0.ID) m.aL (vK s r aJ)).contains id=false
    rw [f2.2,hG]; exact MB av
  · rw [hD]; show r.jw<=(jg (aU _ c0.ID) m.aL (vK s r aJ)).length
    rw [f2.2,hG]
    rcases hE.2.2 with h | ⟨h1,h⟩
    · rw [Gm.2 (λx hx=>?_)]
      · exact hE.2.1
      · have h3:=(jV.1 h).2
        have h4:=(jV.1 hx).2
        simp only [dZ,bV]
        rintro rfl;unfold abX at h3; unfold Bt at h4
        simp only [bK,dZ,bV,bM] at h3 h4
        exact h3.1.2 h4.2
    · have h5:=Me hup h
      omega
  · show c0.aB=(aU (EJ m s aJ) c0.ID).aB
    rw [show aU (EJ m s aJ) c0.ID=_ from f1.2]; rfl
end
section
theorem asQ{m:dh}(hm:mG m=true){x:fH}(h7:x.Kind≠7)(h0:x.Client=0):∀ y∈m.aA,∃ z∈(tY m x).aA,z.ID=y.ID:=by
  intro y hy
  rcases(yL hm h7 h0).1 with h | ⟨hk,h1,h2,h⟩ | ⟨c,hk,hc,hi,h⟩ | ⟨c,H,hk,hc,hi,hv,hs,hn,hH,hl,h⟩ | ⟨c,H,hk,hc,hi,hn,hH,hl,h⟩
  · grind
  · grind
  all_goals
    by_cases he:y.ID=x.A
    · simp_all
    grind
theorem adU:∀(l:List fH){m:dh},mG m=true->(∀ x∈l,x.Kind≠7/\x.Client=0)->∀ y∈m.aA,∃ z∈(C9 m l).aA,z.ID=y.ID
  | [],m,_,_=>λy hy=>⟨y,hy,rfl⟩
  | x::l,m,hm,hl=>λy hy=>by
    have hx:=hl x oo;obtain⟨z,hz,h1⟩:=asQ hm hx.1 hx.2 y hy;obtain⟨u,hu,h2⟩:=adU l (o8 hm x) (λy hy=>hl y (lS _ hy)) z hz;exact⟨u,hu,h2.trans h1⟩
theorem aww{m:dh}(hm:mG m=true){x:fH}(h6:x.Kind=6)(h0:x.Client=0):∀ y∈(tY m x).aA,y.ID=x.A->x.B∉y.aC:=by
  intro y hy he hb;have hc:=(dV.1 hm).2.1
  rcases(yL hm aj h0).1 with h | ⟨hk,_,_,_⟩ | ⟨c,hk,_,_,_⟩ | ⟨c,H,hk,_,_,_,_,_,_,_,_⟩ | ⟨c,H,hk,hc',hi,hn,hH,hl,h⟩
  · have hy':=hy
    rw [h] at hy';have ho:=(kM.1 hc).1 _ hy';have hf:=xY hc hy';have hz:(jB x.B y).2=0:=by unfold jB; rw [aS ((PN ho _).2 hb)]
    have hg:iC m.aA x.A (jB x.B)=(m.aA.set (low (fun(y:aF)=>bL y.ID x.A) m.aA) (jB x.B y).1,0):=by
      rw [<- he,abK hc hf.1,hf.2,aS hz]
    have e:(tY m x).aA=m.aA.set (low (fun(y:aF)=>bL y.ID x.A) m.aA) (jB x.B y).1:=by
      have e1:(yt m x).2.1=m.aA.set (low (fun(y:aF)=>bL y.ID x.A) m.aA) (jB x.B y).1:=by grind [Yn]
      have e2:¬ (eH m x).2<0:=by
        unfold eH; rw [aP (by grind),aS h0]; show ¬ Gw (yt m x).2.2.1 _<0;rw [Yn h6]; show ¬ Gw (iC m.aA x.A (jB x.B)).2 0<0;rw [hg]; show ¬ (if(0:Int)≠0 then -(0:Int) else 0)<0; decide
      unfold tY; rw [aP e2];unfold eH; rw [aP (by grind),aS h0]; exact e1
    have hi:=(xX hc hf.1).1;rw [hf.2,he] at hi;rw [h] at e;have h9:=aV (fun(q:List aF)=>q[low (fun(y:aF)=>bL y.ID x.A) m.aA]?) e;rw [rT (aM hi),hi] at h9; injection h9 with h9;have hw:=(FK ho hz).2.1;have hn:=(aa5 ho hb x.B);rw [h9,hw] at hb;exact(hn.1 hb).1 Y
  all_goals grind
theorem vE{s:gG}{aJ:Int}{o:aK}:o∈(fq s aJ).bA↔o∈s.bA/\aJ<=o.ji:=by
  show o∈s.bA.filter _↔_
  simp [aaC]
theorem adV{s:gG}{aJ c n:Int}:vW s aJ c n=false↔∀ o∈(fq s aJ).bA,¬ (o.aD=c/\o.To=n):=by
  simp [vW]
theorem Uf{cs:List aF}{n:Int}{l:List aG}:∀ x∈j5 cs n l,x.B=n/\x.Client=0/\((x.Kind=5/\∃ c∈cs,x.A=c.ID/\x.C=c.aB/\Ia l c=true)∨(x.Kind=6/\∃ c∈cs,x.A=c.ID/\Ia l c=false/\n∈c.aC)):=by
  intro x hx; unfold j5 at hx; split at hx
  · obtain⟨c,hcs,hc⟩:=Ol.1 hx
    unfold recC at hc
    split at hc
    · rename_i h1; rw [oG.1 hc]; simp at h1
      exact⟨Y,Y,.inl ⟨Y,c,hcs,Y,Y,by unfold Ia; simpa using h1.1⟩⟩
    · split at hc
      · rename_i h1; rw [oG.1 hc]; simp at h1
        exact⟨Y,Y,.inr ⟨Y,c,hcs,Y,by unfold Ia; simpa using h1.1,h1.2⟩⟩
      grind
  grind
theorem Fa{m:dh}{s:gG}{r:ARules}{aJ:Int}{o:aK}(h:o∈uy m s r aJ):o.Kind=1/\o.jM=o.To/\o.ji=aJ+r.iD/\∃ c∈m.aA,o.aD=c.ID/\o.aB=c.aB/\o.Sum=c.Sum:=by
  obtain⟨c,hc,_,_,rfl⟩:=Ig h;obtain⟨c0,h0,rfl⟩:=gB.1 hc;exact⟨Y,Y,Y,c0,h0,Y,Y,Y⟩
end
section
theorem anS{S0:Nat->Prop}(w:World){EW:ah}{EX:Nat}{report:List aG}(CV:Sl aZ S0 w EW EX report)(c:aF){Cm:ah}{BG:Nat}(GK:Sl dQ S0 w Cm BG c.aC) :
    bO prog 56 #[.slice EW report.length EX,.agg #[aI c.ID,aI c.aB,gP c.Sum,.slice Cm c.aC.length BG]] w λv w'=>v=.bool (report.any (fun(x:aG)=>Ar x c))/\Hp w S0 w' []:=by
 refine lg S0 func56 ntmps56 Y λH0=>?_;have aBL:=CV.bC;refine rg<|bx Y Y H0 λg1 w1 K1=>bX Y<|aY<|iT Y<|cB<|Lp K1 (λl0 rk mJ lJ wJ=>∃(k:Nat),lJ=(5,aI ((k:Nat):Int))::l0/\mJ=report.length - k/\k<=report.length/\(∀ y∈report.take k,(fun(x:aG)=>Ar x c=false) y)/\Hp w S0 wJ rk) ⟨0,Y,Y,fE _,av,K1⟩ rfl ?_
 rintro _ _ w2 ⟨k,rfl,rfl,hk,hno,K2⟩;refine aY<|bQ Y<|mv Y<|ev (eX jK Y)<|ev (fD Y Y)<|dn<|bP Y (λOq=>?_) (λOq=>?_)
 ·replace Oq:=iY Oq;refine jy ?_;refine aY<|cB<|bQ Y<|mv Y ?_
  obtain⟨x1,bN⟩:=bn (xs:=report) (i:=k) aj;refine ev (eP (i:=k) jK mH Y Y Y (aM bN) ((K2.a CV).some_ bN))<|ev (iU oU Y Y ((K2.a CV).fF bN))<|al yu Y K2 λg2 w3 K3=>sty Y K3 s0 Y λw4 K4=>dn<|rg<|j6 g2 3 tV K4 s0 Y<|ev (iG Y)<|mv Y<|iO 6 26 ((!x1.gH)&&(decide (x1.aD=c.ID))) ?_ ?_
  ·cases abG:(!x1.gH) with
   | true=>
    refine wB g2 0 mM K4 s0 Y<|wB g1 0 qN K4 s1 Y<|bE Y (iM Y Y) Y<|ev (dM Y Y)<|dJ Y
   | false=>
    refine dN<|dN<|dN<|dN<|dN<|ev (dS Y Y)<|dJ Y
  refine mv Y<|iO 6 33 (((!x1.gH)&&(decide (x1.aD=c.ID)))&&(decide (x1.aB=c.aB))) ?_ ?_
  ·cases amU:((!x1.gH)&&(decide (x1.aD=c.ID))) with
   | true=>
    have axK:=amU
    try simp only [eT,dO,bK,eu,dZ,fI,bM,bV] at axK
    refine wB g2 1 rJ K4 s0 Y<|wB g1 1 sJ K4 s1 Y<|bE Y (iM Y Y) Y<|ev (dM Y Y)<|dJ Y
   | false=>
    refine dN<|dN<|dN<|dN<|dN<|ev (dS Y Y)<|dJ Y
  refine mv Y<|iO 6 40 ((((!x1.gH)&&(decide (x1.aD=c.ID)))&&(decide (x1.aB=c.aB)))&&(decide (x1.Sum=c.Sum))) ?_ ?_
  ·cases aGv:(((!x1.gH)&&(decide (x1.aD=c.ID)))&&(decide (x1.aB=c.aB))) with
   | true=>
    have aGw:=aGv
    try simp only [eT,dO,bK,eu,dZ,fI,bM,bV] at aGw
    refine wB g2 2 QZ K4 s0 Y<|wB g1 2 Iz K4 s1 Y<|bE Y (iM Y Y) Y<|ev (dM Y Y)<|dJ Y
   | false=>
    refine dN<|dN<|dN<|dN<|dN<|ev (dS Y Y)<|dJ Y
  refine dn<|bP Y (λXC=>?_) (λXC=>?_)
  ·refine iT Y<|jf (iX (fO (fO (iX (fO (xV Y ?_))))))
   have fT:(true:Bool)=(report.any (fun(x:aG)=>Ar x c)):=by symm; rw [KP]; exact⟨x1,bZ bN,by unfold Ar; exact XC⟩
   exact⟨by rw [<- fT] <;> rfl,K4.z⟩
  refine Ci ?_;refine jC<|mv Y<|ev (dP Y Y)<|jk Y<|jD<|dG ⟨(k+1),Y,Y,aj,by exact nY (q:=fun(x:aG)=>Ar x c=false) hno bN (by unfold Ar; exact XC),(K4.rm s0)⟩ rfl aj
 replace Oq:=jS Oq;refine xq ?_;refine iT Y<|iP Y ?_
 have gu:(false:Bool)=(report.any (fun(x:aG)=>Ar x c)):=by symm; rw [gV aj] at hno; rw [acJ]; intro y hy; rw [hno y hy]; decide
 exact⟨by rw [<- gu] <;> rfl,(K2.rm s0)⟩
def holdB(c:PC)(x:aF):Bool:=!decide (x.aC.length=0)&&x.aC.all fun(n:Int)=>(Kw c.hs n).any fun(y:aG)=>Ar y x
def Fb(c:PC):Bool:=c.m.aA.all (holdB c)
def U0(it:AItem):Bool:=!(decide (it.Kind=13)||decide (it.Kind=14))
def MC(l:List AItem):Bool:=l.all U0
theorem ag5{c:PC}{x:aF}(hx:x∈c.m.aA)(h:holdB c x=false):Fb c=false:=by unfold Fb; rw [Iy]; exact⟨x,hx,by rw [h]; decide⟩
theorem ajc{c:PC}{x:aF}(h:x.aC.length=0):holdB c x=false:=by unfold holdB; rw [sO h]; rfl
theorem asR{c:PC}{x:aF}{n:Int}(hn:n∈x.aC)(h:((Kw c.hs n).any fun(y:aG)=>Ar y x)=false):holdB c x=false:=by
  unfold holdB; rw [Bool.and_eq_false_iff]; right; rw [Iy]; exact⟨n,hn,by rw [h]; decide⟩
theorem ag6{c:PC}{x:aF}(h0:¬ x.aC.length=0)(h:∀ n∈x.aC,((Kw c.hs n).any fun(y:aG)=>Ar y x)=true):holdB c x=true:=by
  unfold holdB; rw [XM h0,List.all_eq_true.2 h]; rfl
theorem U1{b w:World}{S:Nat->Prop}{F:List lG}{jU:ah}{jR:Nat}{l:List AItem}(H0:Hp b S w (dH tItem jU jR l::F))  :
    bO prog 14 #[.slice jU l.length jR] w λv w'=>v=.bool (MC l)/\Hp b S w' F:=by
 refine rU func14 ntmps14 Y ?_;have hbl:=(H0.s s0).bC;refine iT Y<|aY<|iT Y<|cB<|Lp H0 (λl0 rk mJ lJ wJ=>∃(k:Nat),lJ=(3,aI ((k:Nat):Int))::l0/\mJ=l.length - k/\k<=l.length/\(∀ y∈l.take k,U0 y=true)/\Hp b S wJ rk) ⟨0,Y,Y,fE _,av,H0⟩ rfl ?_
 rintro _ _ w1 ⟨k,rfl,rfl,hk,hno,K1⟩;refine aY<|bQ Y<|mv Y<|ev (eX O8 Y)<|ev (fD Y Y)<|dn<|bP Y (λhc7=>?_) (λhc7=>?_)
 ·replace hc7:=iY hc7;refine jy ?_;refine aY<|cB<|bQ Y<|mv Y ?_
  obtain⟨x1,bN⟩:=bn (xs:=l) (i:=k) aj;refine ev (eP (i:=k) O8 akH Y Y Y (aM bN) ((K1.s s0).some_ bN))<|ev (fQ o9 Y (fV _ _ _))<|ev (kP jN Y ((K1.s s0).fJ (j:=0) bN Y))<|ev (iM Y Y)<|mv Y ?_
  cases Vd:decide (x1.Kind=13) with
  | true=>
   refine dN<|dN<|dN<|dN<|dN<|dN<|ev (dM Y Y)<|dn<|bP Y (λ_h=>?_) nofun
   refine iT Y<|jf (iX (fO (fO (iX (fO (xV Y ?_))))))
   have fT:(false:Bool)=(MC l):=by unfold MC; symm; first | (rw [ng]; rw [gV aj] at hno; exact hno) | (rw [Iy]; exact⟨x1,bZ bN,by unfold U0; simp_all⟩)
   exact⟨by rw [<- fT] <;> rfl,(K1.rm s0)⟩
  | false=>
   refine bE Y (bq Y) Y<|bE Y (bq Y) Y<|bE Y (eP (i:=k) O8 akH Y Y Y (aM bN) ((K1.s s0).some_ bN)) Y<|bE Y (fQ o9 Y (fV _ _ _)) Y<|bE Y (kP jN Y ((K1.s s0).fJ (j:=0) bN Y)) Y<|bE Y (iM Y Y) Y<|ev (dS Y Y)<|dn<|bP Y (λqP=>?_) (λqP=>?_)
   ·replace qP:=iY qP;refine iT Y<|jf (iX (fO (fO (iX (fO (xV Y ?_))))))
    have gu:(false:Bool)=(MC l):=by unfold MC; symm; first | (rw [ng]; rw [gV aj] at hno; exact hno) | (rw [Iy]; exact⟨x1,bZ bN,by unfold U0; simp_all⟩)
    exact⟨by rw [<- gu] <;> rfl,(K1.rm s0)⟩
   replace qP:=jS qP;refine Ci ?_;refine jC<|mv Y<|ev (dP Y Y)<|jk Y<|jD<|dG ⟨(k+1),Y,Y,aj,by exact nY (q:=λy=>U0 y=true) hno bN (by unfold U0; simp_all),K1⟩ rfl aj
 replace hc7:=jS hc7;refine xq ?_;refine iT Y<|iP Y ?_
 have kC:(true:Bool)=(MC l):=by unfold MC; symm; first | (rw [ng]; rw [gV aj] at hno; exact hno) | (rw [Iy]; exact⟨x1,bZ bN,by unfold U0; simp_all⟩)
 exact⟨by rw [<- kC] <;> rfl,(K1.rm s0)⟩
theorem asT{b w:World}{S:Nat->Prop}{F:List lG}{iI:Nat}{G:GC}(H0:Hp b S w (wN iI G::F))(hok:Ok G.pl) :
    bO prog 15 #[gI iI] w λv w'=>v=.bool (Fb G.pl)/\Hp b S w' (wN iI G::F):=by
 refine rU func15 ntmps15 Y<|iT Y<|bQ Y<|gU Y (RF H0 hok) ?_
 rintro _ w1 ⟨JE,JF,Za,Zb,Zc,Zd,rfl,K1⟩;have JO:=(K1.s s0).bC;have axR:=(K1.s s1).bC;have aGx:=(K1.s s2).bC;refine al yJ Y K1 λg1 w2 K2=>sty Y K2 s0 Y λw3 K3=>dn<|aY<|iT Y<|cB<|qZ (λmJ lJ wJ=>∃(k:Nat),lJ=[(0,gI iI),(3,gI g1),(4,aI ((k:Nat):Int))]/\mJ=G.pl.m.aA.length - k/\k<=G.pl.m.aA.length/\(∀ y∈G.pl.m.aA.take k,holdB G.pl y=true)/\Hp b S wJ (dW g1 45 [.slice JE G.pl.m.aL.length JF,.slice Za G.pl.m.aA.length Zb,.slice Zc G.pl.m.aT.length Zd]::dH bW JE JF G.pl.m.aL::dH bD Za Zb G.pl.m.aA::dH dw Zc Zd G.pl.m.aT::wN iI G::F)) ⟨0,Y,Y,fE _,av,K3⟩ rfl ?_
 rintro _ _ w4 ⟨k,rfl,rfl,hk,hno,K4⟩;refine aY<|bQ Y<|j6 g1 1 j4 K4 s0 Y<|ev (eX iV Y)<|ev (fD Y Y)<|dn<|bP Y (λrz=>?_) (λrz=>?_)
 ·replace rz:=iY rz;refine jy ?_;refine aY<|cB<|rg<|j6 g1 1 j4 K4 s0 Y<|mv Y ?_
  obtain⟨x1,bN⟩:=bn (xs:=G.pl.m.aA) (i:=k) aj;refine ev (eP (i:=k) iV qy Y Y Y (aM bN) ((K4.s s2).some_ bN)) ?_;obtain⟨B1,d1,zF,hi1⟩:=zW (K4.is s2 bN);have H1:=K4.push hi1;refine ev (iU (cs:=[aI x1.ID,aI x1.aB,gP x1.Sum,.slice B1 x1.aC.length d1]) pQ Y Y (FE zF))<|al lX Y H1 λg2 w5 K5=>sty Y K5 s0 Y λw6 K6=>dn<|aY<|rg<|j6 g2 3 kH K6 s0 Y<|ev (eX fA Y)<|ev (iM Y Y)<|dn<|bP Y (λhc25=>?_) (λhc25=>?_)
  ·replace hc25:=iY hc25;refine iT Y<|jf (fO (iX (fO (fO (iX (fO (xV Y ?_)))))))
   have fT:(false:Bool)=(Fb G.pl):=by symm; exact ag5 (bZ bN) (ajc aj)
   exact⟨by rw [<- fT] <;> rfl,(K6.cU 0 6)⟩
  replace hc25:=jS hc25;refine jy ?_;have aML:=(uN (dV.1 hok.hm).2.1).2 _ (bZ bN);refine iT Y<|cB<|qZ (λmJ lJ wJ=>∃(kb:Nat),lJ=[(0,gI iI),(3,gI g1),(4,aI ((k:Nat):Int)),(5,gI g2),(6,aI ((kb:Nat):Int))]/\mJ=x1.aC.length - kb/\kb<=x1.aC.length/\(∀ n∈x1.aC.take kb,((Kw G.pl.hs n).any fun(y:aG)=>Ar y x1)=true)/\Hp b S wJ (dW g2 59 [aI x1.ID,aI x1.aB,gP x1.Sum,.slice B1 x1.aC.length d1]::dH dQ B1 d1 x1.aC::dW g1 45 [.slice JE G.pl.m.aL.length JF,.slice Za G.pl.m.aA.length Zb,.slice Zc G.pl.m.aT.length Zd]::dH bW JE JF G.pl.m.aL::dH bD Za Zb G.pl.m.aA::dH dw Zc Zd G.pl.m.aT::wN iI G::F)) ⟨0,Y,Y,fE _,av,K6⟩ rfl ?_
  rintro _ _ w7 ⟨kb,rfl,rfl,hkb,hnn,K7⟩;refine aY<|bQ Y<|j6 g2 3 kH K7 s0 Y<|ev (eX fA Y)<|ev (fD Y Y)<|dn<|bP Y (λYX=>?_) (λYX=>?_)
  ·replace YX:=iY YX;refine jy ?_;refine aY<|cB ?_
   obtain⟨x2,lN⟩:=bn (xs:=x1.aC) (i:=kb) aj;refine He K7 (λ_ K=>K) (λl0 rk lJ wJ=>lJ=(7,.bool ((Kw G.pl.hs x2).any (fun(x:aG)=>Ar x x1)))::l0/\Hp b S wJ rk) (λhns H2=>?_) ?_
   ·refine lQ 0 Y Y H2<|nJ 1 2 g2 3 kH s0 Y H2<|lQ 3 Y Y H2<|l9 4 Y (λ_ hK=>eP (i:=kb) fA uf Y Y Y (aM lN) ((hK.s s1).some_ lN)) H2<|l9 5 Y (λ_ hK=>kP jN Y ((hK.s s1).fJ (j:=0) lN Y)) H2<|l9 7 Y (λ_ hK=>fK pQ Y Y (hK.x s0)) H2<|O1 6 Y<|gU Y (O6 ((H2.mV 0 6).sel s6) x2 hok) ?_
    rintro _ w8 ⟨IQ,IU,rfl,K8⟩;have aCu:=(K8.o s0).bC;have k1:=(((K8.rm s0).sel s0).mV 1 6);refine aO k1<|O1 8 Y<|nD K8 Y (anS _ (K8.o s0) x1 (K8.s s3).any) λw9 K9=>?_
    have k2:=(((K9.rm s0).sel s0).mV 1 6);refine aO k2<|xL 9 Y Y k2<|Dn ⟨Y,(((K9.rm s0).sel s0).mV 1 6)⟩ Y
   rintro _ Om ⟨rfl,K10⟩;refine bQ Y<|ev (iG Y)<|dn<|bP Y (λxH=>?_) (λxH=>?_)
   ·try simp only [eT,dO,bK,eu,dZ,fI,bM,bV] at xH
    refine iT Y<|jf (iX (fO (fO (iX (iX (fO (fO (iX (fO (xV Y ?_))))))))))
    have gu:(false:Bool)=(Fb G.pl):=by symm; exact ag5 (bZ bN) (asR (bZ lN) (by first | exact hfalse | simp_all))
    exact⟨by rw [<- gu] <;> rfl,(K10.cU 0 6)⟩
   try simp only [eT,dO,bK,eu,dZ,fI,bM,bV] at xH
   refine Ci ?_;refine jC<|mv Y<|ev (dP Y Y)<|jk Y<|jD<|dG ⟨(kb+1),Y,Y,aj,by exact nY (q:=λn=>((Kw G.pl.hs n).any fun(y:aG)=>Ar y x1)=true) hnn lN (by simp_all),K10⟩ rfl aj
  replace YX:=jS YX;refine sP (mY (mY (um (iw (gy ?_)))));refine jC<|mv Y<|ev (dP Y Y)<|jk Y<|jD<|dG ⟨(k+1),Y,Y,aj,by exact nY (q:=λy=>holdB G.pl y=true) hno bN (ag6 aj (by rw [gV aj] at hnn; exact hnn)),(K7.cU 0 2)⟩ rfl aj
 replace rz:=jS rz;refine xq ?_;refine iT Y<|iP Y ?_
 have kC:(true:Bool)=(Fb G.pl):=by symm; unfold Fb; rw [ng]; rw [gV aj] at hno; exact hno
 exact⟨by rw [<- kC] <;> rfl,(K4.cU 0 4)⟩
end
section
def ag7(l:List aG)(x:aF):Prop:=∃ y∈l,y.aD=x.ID/\y.aB=x.aB/\y.Sum=x.Sum
def kA(l:List aF):Prop:=∀ x∈l,∃ n,n∈x.aC
def kB(l:List aF)(hs:kN):Prop:=∀ x∈l,∀ n∈x.aC,∃ h,dY n hs=some h/\ag7 h.l x
def adW(l:List aF)(y:aG):Prop:=∃ x∈l,x.ID=y.aD/\y.aB<=x.aB/\(y.aB=x.aB->y.Sum=x.Sum)
def kE(l:List aF)(hs:kN):Prop:=∀ z h,dY z hs=some h->∀ y∈h.l,adW l y/\((iQ (qA (⟨y.aD,false⟩:bT) h.d)).toNat:Int)=y.Sum
def kT(l:List aF)(D:List aK)(aJ:Int):Prop:=∀ p∈D,aJ<=p.ji->∃ x∈l,x.ID=p.aD/\p.aB<=x.aB/\(p.aB=x.aB->p.To∉x.aC)
def ag8(l:List aF)(D:List aK)(aJ:Int)(o:aK):Prop:=∃ x∈l,x.ID=o.aD/\o.aB<=x.aB/\(o.aB=x.aB->o.ji<aJ∨o∈D)
def kD(l:List aF)(bR D:List aK)(aJ:Int):Prop:=∀ o∈bR,o.Kind≠0->ag8 l D aJ o
structure Keep (c:PC):Prop where
  a:kA c.m.aA
  b:kB c.m.aA c.hs
  e:kE c.m.aA c.hs
  t:kT c.m.aA c.s.bA c.aJ
  d:kD c.m.aA c.bR c.s.bA c.aJ
theorem aA8(r:ARules):Keep (KC r):=
  ⟨λx hx=>absurd hx (by simp [KC]),λx hx=>absurd hx (by simp [KC]),λz h hg=>absurd hg (by simp [KC,dY]),λp hp=>absurd hp (by simp [KC]),λp hp=>absurd hp (by simp [KC])⟩
theorem adW.same{l q:List aF}(hs:nI l q){y:aG}(h:adW l y):adW q y:=by
  obtain⟨x,hx,h1,h2,h3⟩:=h; obtain⟨z,hz,a1,a2,a3⟩:=hs.1 x hx;exact⟨z,hz,a1.trans h1,aj,λh=>by rw [a3]; exact h3 aj⟩
theorem kE.same{l q:List aF}(hs:nI l q){H:kN}(h:kE l H):kE q H:=λz u hg y hy=>⟨(h z u hg y hy).1.same hs,(h z u hg y hy).2⟩
theorem ag8.same{l q:List aF}(hs:nI l q){D:List aK}{aJ:Int}{o:aK}(h:ag8 l D aJ o):ag8 q D aJ o:=by
  obtain⟨x,hx,h1,h2,h3⟩:=h; obtain⟨z,hz,a1,a2,a3⟩:=hs.1 x hx;exact⟨z,hz,a1.trans h1,aj,λh=>h3 aj⟩
theorem kD.same{l q:List aF}(hs:nI l q){bR D:List aK}{aJ:Int}(h:kD l bR D aJ):kD q bR D aJ:=λo ho h0=>(h o ho h0).same hs
def ZY(hs:kN)(D:List aK)(aJ:Int)(l:List aF)(x:fH):Prop:=
  x.Client=0/\(x.Kind=1∨x.Kind=2∨x.Kind=5)/\(x.Kind=5->∀ c∈l,c.ID=x.A->c.aB=x.C->(∃ h,dY x.B hs=some h/\ag7 h.l c)/\∀ p∈D,aJ<=p.ji->p.aD=c.ID->p.To=x.B->p.aB≠c.aB)
theorem ZY.same{hs:kN}{D:List aK}{aJ:Int}{l q:List aF}{x:fH}(hs3:nI l q)(h:ZY hs D aJ l x):ZY hs D aJ q x:=⟨h.1,h.2.1,λh5 c hc hi hv=>by
  obtain⟨c0,hc0,e1,e2,e3⟩:=hs3.2 c hc;obtain⟨⟨h',hg,y,hy,y1,y2,y3⟩,hp⟩:=h.2.2 h5 c0 hc0 (by grind) (by grind)
  exact⟨⟨h',hg,y,hy,y1.trans e1.symm,y2.trans e2.symm,y3.trans e3.symm⟩,λp hp1 hp2 hp3 hp4=>by rw [e2]; exact hp p hp1 hp2 (hp3.trans e1) hp4⟩⟩
theorem ZY.k{hs:kN}{D:List aK}{aJ:Int}{l:List aF}{x:fH}(h:ZY hs D aJ l x):x.Kind=1∨x.Kind=2∨x.Kind=5∨x.Kind=6:=by have:=h.2.1; omega
theorem asU{m:dh}(hm:mG m=true){x:fH}{hs:kN}{D:List aK}{aJ:Int}(hx:ZY hs D aJ m.aA x)(hb:kB m.aA hs)(ht:kT m.aA D aJ):kB (tY m x).aA hs/\kT (tY m x).aA D aJ:=by
  have hk:=hx.2.1;have hu:=nk (dV.1 hm).2.1
  rcases(yL hm aj hx.1).1 with h | ⟨hk',_,_,_⟩ | ⟨c,hk',_,_,_⟩ | ⟨c,H,hk',hc,hi,hv,hs',hn,hH,hl,h⟩ | ⟨c,H,hk',_,_,_,_,_,_⟩
  · rw [h]; exact⟨hb,ht⟩
  · omega
  · omega
  · have hq:=hx.2.2 hk' c hc hi hv.symm
    refine⟨λy hy n hn'=>?_,λp hp hpu=>?_⟩
    · rcases(h y).1 hy with rfl | ⟨hy,_⟩
      · rcases(hH n).1 hn' with rfl | h2
        · exact hq.1
        · exact hb c hc n h2
      · exact hb y hy n hn'
    · obtain⟨x0,hx0,e1,e2,e3⟩:=ht p hp hpu
      by_cases he:x0.ID=x.A
      · have:=mQ hu hx0 hc (he.trans hi.symm); subst this
        refine⟨_,(h _).2 (.inl Y),e1,e2,λhv2 hm2=>?_⟩
        rcases(hH _).1 hm2 with h2 | h2
        · exact hq.2 p hp hpu e1.symm h2 hv2
        · exact e3 hv2 h2
      · exact⟨x0,(h _).2 (.inr ⟨hx0,he⟩),e1,e2,e3⟩
  · omega
theorem asV{hs:kN}{D:List aK}{aJ:Int}:∀(l:List fH){m:dh},mG m=true->(∀ x∈l,ZY hs D aJ m.aA x)->kB m.aA hs->kT m.aA D aJ->kB (C9 m l).aA hs/\kT (C9 m l).aA D aJ
  | [],m,_,_,hb,ht=>⟨hb,ht⟩
  | x::l,m,hm,hl,hb,ht=>by
    have hx:=hl x oo;have h1:=asU hm hx hb ht;exact asV l (o8 hm x) (λy hy=>(hl y (lS _ hy)).same (yA hm hx.1 hx.k)) h1.1 h1.2
theorem V4{m:dh}(hm:mG m=true){x:fH}(h0:x.Client=0)(hk:x.Kind=1∨x.Kind=2∨x.Kind=5):∀ y∈(tY m x).aA,∃ c∈m.aA,y.ID=c.ID/\y.aB=c.aB/\y.Sum=c.Sum/\∀ n∈c.aC,n∈y.aC:=by
  rcases(yL hm aj h0).1 with h | ⟨hk',_,_,_⟩ | ⟨c,hk',_,_,_⟩ | ⟨c,H,hk',hc,hi,hv,hs',hn,hH,hl,h⟩ | ⟨c,H,hk',_,_,_,_,_,_⟩
  all_goals grind
theorem ag9:∀(l:List fH){m:dh},mG m=true->(∀ x∈l,x.Client=0/\(x.Kind=1∨x.Kind=2∨x.Kind=5))->∀ y∈(C9 m l).aA,∃ c∈m.aA,y.ID=c.ID/\y.aB=c.aB/\y.Sum=c.Sum/\∀ n∈c.aC,n∈y.aC
  | [],m,_,_,y,hy=>⟨y,hy,rfl,rfl,rfl,λn hn=>hn⟩
  | x::l,m,hm,hl,y,hy=>by
    have hx:=hl x oo;obtain⟨c,hc,e1,e2,e3,e4⟩:=ag9 l (o8 hm x) (λy hy=>hl y (lS _ hy)) y hy;obtain⟨d,hd,f1,f2,f3,f4⟩:=V4 hm hx.1 hx.2 c hc;exact⟨d,hd,e1.trans f1,e2.trans f2,e3.trans f3,λn hn=>e4 n (f4 n hn)⟩
theorem kA.grow{l q:List aF}(h:kA l)(hg:∀ y∈q,∃ c∈l,y.ID=c.ID/\y.aB=c.aB/\y.Sum=c.Sum/\∀ n∈c.aC,n∈y.aC):kA q:=λy hy=>by
  obtain⟨c,hc,_,_,_,h4⟩:=hg y hy;obtain⟨n,hn⟩:=h c hc
  grind
theorem asW{m:dh}(hm:mG m=true){x:fH}(h5:x.Kind=5)(h0:x.Client=0)(hst:jv m.aL x.B=true){c:aF}(hc:c∈m.aA)(hi:c.ID=x.A)(hv:c.aB=x.C):∀ y∈(tY m x).aA,y.ID=x.A->x.B∈y.aC:=by
  intro y hy he;have hcm:=(dV.1 hm).2.1;have hu:=nk hcm
  rcases(yL hm aj h0).1 with h | ⟨hk',_,_,_⟩ | ⟨c,hk',_,_,_⟩ | ⟨d,H,hk',hd,hdi,_,_,hn,hH,hl,h⟩ | ⟨c,H,hk',_,_,_,_,_,_⟩
  · by_cases hb:x.B∈y.aC
    · exact hb
    exfalso
    have hy':=hy;rw [h] at hy';have hyc:=mQ hu hy' hc (he.trans hi.symm); subst hyc;have ho:=(kM.1 hcm).1 _ hy';have hf:=xY hcm hy';obtain⟨n,hn,hni,_⟩:=(za (dV.1 hm).1).1 hst;have hr:=QM ((rH.1 (dV.1 hm).1).2 n hn);have hz:(pY x.B x.C y).2=0:=by unfold pY; rw [aP (by rw [hv]; simp),aP (λh=>hb ((PN ho _).1 h))]
    have hg:iC m.aA x.A (pY x.B x.C)=(m.aA.set (low (fun(y:aF)=>bL y.ID x.A) m.aA) (pY x.B x.C y).1,0):=by
      rw [<- he,abK hcm hf.1,hf.2,aS hz]
    have hg2:lu m.aA x.A x.B x.C=(m.aA.set (low (fun(y:aF)=>bL y.ID x.A) m.aA) (pY x.B x.C y).1,0):=by
      unfold lu; rw [aP aj,hg]
    have e:(tY m x).aA=m.aA.set (low (fun(y:aF)=>bL y.ID x.A) m.aA) (pY x.B x.C y).1:=by
      have e1:(yt m x).2.1=m.aA.set (low (fun(y:aF)=>bL y.ID x.A) m.aA) (pY x.B x.C y).1:=by
        rw [Ym h5]; show(if jv m.aL x.B=true then if(lu m.aA x.A x.B x.C).2=0 then(lu m.aA x.A x.B x.C).1 else m.aA else m.aA)=_;rw [aS hst,hg2,aS rfl]
      have e2:¬ (eH m x).2<0:=by
        unfold eH; rw [aP (by rw [hm]; decide),aS h0]; show ¬ Gw (yt m x).2.2.1 _<0;rw [Ym h5]; show ¬ Gw (if jv m.aL x.B=true then(lu m.aA x.A x.B x.C).2 else 5) 0<0;rw [aS hst,hg2]; show ¬ (if(0:Int)≠0 then -(0:Int) else 0)<0; decide
      unfold tY; rw [aP e2];unfold eH; rw [aP (by rw [hm]; decide),aS h0]; exact e1
    have hi:=(xX hcm hf.1).1;rw [hf.2,he] at hi;rw [h] at e;have h9:=aV (fun(q:List aF)=>q[low (fun(y:aF)=>bL y.ID x.A) m.aA]?) e;rw [rT (aM hi),hi] at h9; injection h9 with h9;have hw:=MV ho (show 1<=x.B by omega) (show x.B<=16 by omega) hz;exact hb (by rw [h9,hw.2.2.1]; exact(akM ho hb x.B).2 (.inl rfl))
  · omega
  · omega
  · rcases(h y).1 hy with rfl | ⟨_,h2⟩
    · exact(hH _).2 (.inl Y)
    · exact absurd he h2
  · omega
theorem aha{m:dh}(hm:mG m=true){x:fH}(h6:x.Kind=6)(h0:x.Client=0):∀ y∈(tY m x).aA,∃ w∈m.aA,y.ID=w.ID/\y.aB=w.aB/\y.Sum=w.Sum/\∀ n,n∈y.aC↔n∈w.aC/\¬ (x.A=w.ID/\x.B=n):=by
  intro y hy;have hun:=aww hm h6 h0 y hy
  rcases(yL hm aj h0).1 with h | ⟨hk',_,_,_⟩ | ⟨c,hk',_,_,_⟩ | ⟨d,H,hk',_,_,_,_,_,_,_,_⟩ | ⟨c,H,hk',hc,hi,hn,hH,hl,h⟩
  all_goals grind
theorem MF:∀(l:List fH){m:dh},mG m=true->(∀ x∈l,x.Kind=6/\x.Client=0)->∀ z∈(C9 m l).aA,∃ y∈m.aA,z.ID=y.ID/\z.aB=y.aB/\z.Sum=y.Sum/\∀ n,n∈z.aC↔n∈y.aC/\∀ x∈l,¬ (x.A=y.ID/\x.B=n)
  | [],m,_,_,z,hz=>⟨z,hz,rfl,rfl,rfl,λn=>⟨λh=>⟨h,λx hx=>absurd hx av⟩,λh=>h.1⟩⟩
  | x::l,m,hm,hl,z,hz=>by
    have hx:=hl x oo;obtain⟨y,hy,e1,e2,e3,e4⟩:=MF l (o8 hm x) (λy hy=>hl y (lS _ hy)) z hz;obtain⟨w,hw,f1,f2,f3,f4⟩:=aha hm hx.1 hx.2 y hy;refine⟨w,hw,e1.trans f1,e2.trans f2,e3.trans f3,λn=>?_⟩;rw [e4,f4]
    constructor
    · rintro⟨⟨h1,h2⟩,h3⟩
      refine⟨h1,λu hu=>?_⟩
      rcases iR.1 hu with rfl | hu
      · exact h2
      · rw [<- f1]; exact h3 u hu
    · rintro⟨h1,h2⟩
      exact⟨⟨h1,h2 x oo⟩,λu hu=>by rw [f1]; exact h2 u (lS _ hu)⟩
theorem Ug{l:List fH}{m:dh}(hm:mG m=true)(hl:∀ x∈l,x.Kind=6/\x.Client=0):∀ y∈m.aA,∃ z∈(C9 m l).aA,z.ID=y.ID/\z.aB=y.aB/\z.Sum=y.Sum/\∀ n,n∈z.aC↔n∈y.aC/\∀ x∈l,¬ (x.A=y.ID/\x.B=n):=by
  intro y hy;obtain⟨z,hz,e1⟩:=adU l hm (by grind) y hy;obtain⟨w,hw,f1,f2,f3,f4⟩:=MF l hm hl z hz;have:=mQ (nk (dV.1 hm).2.1) hw hy (f1.symm.trans e1); grind
theorem O9{m:dh}{s:gG}{r:ARules}{aJ:Int}:∀ x∈mX m s r aJ,x.Kind=6/\x.Client=0:=by
  intro x hx; unfold mX at hx; split at hx
  · obtain⟨o,_,rfl⟩:=gB.1 hx; exact⟨rfl,rfl⟩
  grind
theorem anT{m:dh}(hm:mG m=true){s:gG}{r:ARules}{aJ:Int}(ha:kA m.aA):kA (C9 m (mX m s r aJ)).aA:=by
  intro z hz;have hc:=(dV.1 hm).2.1;obtain⟨y,hy,e1,e2,e3,e4⟩:=MF _ hm O9 z hz
  by_cases hb:rdB m r=true
  · have hC:mX m s r aJ=(uy m s r aJ).map wG:=by grind [mX]
    by_cases hp:∃ p∈uy m s r aJ,p.aD=y.ID
    · obtain⟨p,hp,hpi⟩:=hp
      have hd:=adT hb hp
      obtain⟨g,hg⟩:∃ g,g∈jg (aU (zy m.aA (jr m s r aJ).bA) p.aD) m.aL (vK s r aJ):=by
        cases hq:jg (aU (zy m.aA (jr m s r aJ).bA) p.aD) m.aL (vK s r aJ) with
        | nil=>have h1:=hd.many; have h2:=hd.bS; grind
        | cons g l=>simp
      rw [hpi,(Ie hc _ hy).2] at hg;have h1:=(jV.1 (jV.1 (jV.1 hg).1).1);refine⟨g,(e4 g).2 ⟨h1.1,λx hx hb2=>?_⟩⟩;rw [hC] at hx;obtain⟨q,hq,rfl⟩:=gB.1 hx;have hD:(jr m s r aJ).bA=(fq s aJ).bA++uy m s r aJ:=by grind [jr]
      have h2:g∈mU (jr m s r aJ).bA y.ID:=by
        rw [hD]; refine gB.2 ⟨q,jV.2 ⟨List.mem_append_right _ hq,sO hb2.1⟩,?_⟩;rw [<- (Fa hq).2.1]; exact hb2.2
      grind
    · obtain⟨n,hn⟩:=ha y hy
      refine⟨n,(e4 n).2 ⟨hn,λx hx hb2=>?_⟩⟩;rw [hC] at hx;obtain⟨q,hq,rfl⟩:=gB.1 hx;exact hp ⟨q,hq,hb2.1⟩
  · obtain⟨n,hn⟩:=ha y hy
    grind [mX,absurd]
theorem asX{c:PC}{k:Nat}(H:Inv c k)(K:Keep c):Keep (uY c):=by
  have hs3:nI c.m.aA (uY c).m.aA:=BO _ H.hm RH
  have hD:∀ p∈c.s.bA,c.aJ<=p.ji->p∈(uY c).s.bA:=λp hp hu=>by
    show p∈(jr _ _ _ _).bA; grind [jr,List.mem_append_left,vE]
  refine⟨anT H.hm K.a,λz hz n hn=>?_,K.e.same hs3,λp hp hu=>?_,λo ho h0=>?_⟩
  · obtain⟨y,hy,e1,e2,e3,e4⟩:=MF _ H.hm O9 z hz
    obtain⟨h,hg,w,hw,f1,f2,f3⟩:=K.b y hy n (by grind);exact⟨h,hg,w,hw,f1.trans e1.symm,f2.trans e2.symm,f3.trans e3.symm⟩
  · have hp':p∈(jr c.m c.s c.r c.aJ).bA:=hp
    have old:p∈c.s.bA->∃ x∈(uY c).m.aA,x.ID=p.aD/\p.aB<=x.aB/\(p.aB=x.aB->p.To∉x.aC):=λhp=>by
      obtain⟨y,hy,f1,f2,f3⟩:=K.t p hp hu;obtain⟨z,hz,e1,e2,e3,e4⟩:=Ug H.hm O9 y hy;exact⟨z,hz,e1.trans f1,aj,λhv hn=>f3 aj ((e4 _).1 hn).1⟩
    unfold jr at hp'
    split at hp'
    · rename_i hb
      rcases kX.1 hp' with hp' | hp'
      · grind [vE]
      · obtain⟨_,hf,_,y,hy,f1,f2,f3⟩:=Fa hp'
        obtain⟨z,hz,e1,e2,e3,e4⟩:=Ug H.hm O9 y hy;refine⟨z,hz,by grind,aj,λhv hn=>?_⟩;refine((e4 _).1 hn).2 (wG p) ?_ ⟨f1,hf⟩;unfold mX; rw [aS hb]; exact gB.2 ⟨p,hp',rfl⟩
    grind
  · rcases kX.1 (show o∈c.bR++qb c.m c.s c.r c.aJ from ho) with ho | ho
    · obtain⟨x,hx,f1,f2,f3⟩:=(K.d o ho h0).same hs3
      refine⟨x,hx,f1,f2,λhv=>?_⟩
      rcases f3 hv with h1 | h1
      · exact .inl h1
      · by_cases hu:c.aJ<=o.ji
        · grind
        · exact .inl (show o.ji<c.aJ by omega)
    · obtain⟨hb,⟨_,h1⟩ | ⟨hT,_⟩⟩:=awv ho
      · omega
      · obtain⟨_,hf,_,y,hy,f1,f2,f3⟩:=Fa hT
        obtain⟨z,hz,e1,e2,e3⟩:=hs3.1 y hy;refine⟨z,hz,by grind,aj,λ_=>.inr ?_⟩;show o∈(jr _ _ _ _).bA; unfold jr; rw [aS hb]; exact List.mem_append_right _ hT
theorem akY{l:List aF}{hs:kN}{z:Int}{h h2:oZ}(hg:dY z hs=some h)(hh:∀ x∈l,z∈x.aC->ag7 h.l x->ag7 h2.l x)(hb:kB l hs):kB l (gK z h2 hs):=λx hx n hn=>by
  obtain⟨h',hg',hc⟩:=hb x hx n hn
  grind [oN]
theorem ahb{l:List aF}{hs:kN}{z:Int}{h2:oZ}(hh:∀ y∈h2.l,adW l y/\((iQ (qA (⟨y.aD,false⟩:bT) h2.d)).toNat:Int)=y.Sum)(he:kE l hs):kE l (gK z h2 hs):=λu h hg y hy=>by
  rw [oN] at hg; split at hg
  · grind
  · exact he u h hg y hy
theorem akZ{l:List aF}(hu:Up aF.ID l){hs:kN}(hz:RA hs){z:Int}{h:oZ}(hg:dY z hs=some h){c v sum:Int}{fG:List (BitVec 8)}(hl:∃ x∈l,x.ID=c/\v<=x.aB/\(v=x.aB->sum=x.Sum))(hb:kB l hs)(he:kE l hs) :
    kB l (gK z ⟨h.up,h.bG,Hy h.l h.bG c v sum fG,tkD h.l h.bG c v sum fG h.d⟩ hs)/\kE l (gK z ⟨h.up,h.bG,Hy h.l h.bG c v sum fG,tkD h.l h.bG c v sum fG h.d⟩ hs):=by
  have hO:=(hz z h hg).l
  cases hk:TL h.l h.bG c v sum fG with
  | false=>
    obtain⟨e1,e2⟩:=akL hO hk (d:=h.d);rw [e1,e2];exact⟨by grind [akY],ahb (λy hy=>he z h hg y hy) he⟩
  | true=>
    obtain⟨h1,h2,h3,h4⟩:=adK hO hk (d:=h.d);obtain⟨t1,t2,t3,t4,t5⟩:=(adJ hO).1 hk;obtain⟨x0,hx0,a1,a2,a3⟩:=hl;refine⟨akY hg (λx hx hn hc=>?_) hb,ahb (λy hy=>?_) he⟩
    · obtain⟨y,hy,b1,b2,b3⟩:=hc
      refine⟨y,(h2 y).2 (.inr ⟨hy,λhyc=>?_⟩),b1,b2,b3⟩
      grind [mQ]
    · have hy':y∈Hy h.l h.bG c v sum fG:=hy
      show adW l y/\((iQ (qA (⟨y.aD,false⟩:bT) (tkD h.l h.bG c v sum fG h.d))).toNat:Int)=y.Sum;rw [h4,aP av]
      rcases(h2 y).1 hy' with rfl | ⟨hy2,hc⟩
      · rw [aS rfl]; exact⟨⟨x0,hx0,a1,a2,a3⟩,t2⟩
      · rw [aP (by grind)]; exact he z h hg y hy2
theorem ahc{hs:kN}(hz:RA hs){z:Int}{h:oZ}(hg:dY z hs=some h){c v sum:Int}{fG:List (BitVec 8)}(hk:TL h.l h.bG c v sum fG=true):(⟨c,v,sum,false,false⟩:aG)∈Hy h.l h.bG c v sum fG:=((adK (hz z h hg).l hk (d:=h.d)).2.1 _).2 (.inl rfl)
theorem asY{c:PC}{k:Nat}(H:Inv c k)(K:Keep c)(o:aK):Keep (kU c o):=by
  have hu:=nk (dV.1 H.hm).2.1
  cases hf:dY o.jM c.hs with
  | none=>rw [YK hf]; exact K
  | some f=>
  cases hb:(!f.up||vW c.s c.aJ o.aD o.To) with
  | true=>rw [Rb hf hb]; exact K
  | false=>
  by_cases hr:¬ ((uD f.l f.d o.aD).2.2=0/\(uD f.l f.d o.aD).2.1=o.aB/\((iQ (uD f.l f.d o.aD).1).toNat:Int)=o.Sum)
  · rw [adg hf hr]; exact K
  replace hr:=L6.1 hr
  cases ht:dY o.To c.hs with
  | none=>
    have e:kU c o=c:=by unfold kU; rw [hf]; simp only; rw [aP (by rw [hb]; decide),aP (λh=>h hr),ht]
    rw [e]; exact K
  | some t=>
  obtain⟨x,hx,x1,x2,x3,x4⟩:=axW (H.hz _ _ hf).l hr.1;obtain⟨x0,hx0,a1,a2,a3⟩:=(K.e _ _ hf x hx).1;have hsum:x.Sum=o.Sum:=by rw [<- x2,<- x3]; exact hr.2.2
  have hl:∃ y∈c.m.aA,y.ID=o.aD/\(uD f.l f.d o.aD).2.1<=y.aB/\((uD f.l f.d o.aD).2.1=y.aB->o.Sum=y.Sum):=
    ⟨x0,hx0,a1.trans x1,by rw [x4]; exact a2,λh=>by rw [<- hsum]; exact a3 (by rw [<- x4]; exact h)⟩
  have hbe:=akZ hu H.hz ht hl K.b K.e (fG:=(uD f.l f.d o.aD).1)
  cases hk:TL t.l t.bG o.aD (uD f.l f.d o.aD).2.1 o.Sum (uD f.l f.d o.aD).1 with
  | false=>rw [YL hf hb hr ht hk]; exact⟨K.a,hbe.1,hbe.2,K.t,K.d⟩
  | true=>
    rw [Rf hf hb hr ht hk];have hno:=adV.1 (dO.1 hb).2
    have hC:ZY (gK o.To ⟨t.up,t.bG,Hy t.l t.bG o.aD (uD f.l f.d o.aD).2.1 o.Sum (uD f.l f.d o.aD).1,tkD t.l t.bG o.aD (uD f.l f.d o.aD).2.1 o.Sum (uD f.l f.d o.aD).1 t.d⟩ c.hs) c.s.bA c.aJ c.m.aA (vX o.aD o.To (uD f.l f.d o.aD).2.1):=by
      refine⟨Y,.inr (.inr Y),λ_ y hy yi yv=>⟨⟨_,by rw [oN,aS rfl],_,ahc H.hz ht hk,yi.symm,yv.symm,?_⟩,λp hp hpu hpc hpt=>absurd ⟨hpc.trans yi,hpt⟩ (hno p (vE.2 ⟨hp,hpu⟩))⟩⟩;obtain⟨y0,hy0,b1,b2,b3⟩:=hl;have:=mQ hu hy hy0 (yi.trans b1.symm); subst this;exact b3 yv.symm
    have hs3:nI c.m.aA (tY c.m (vX o.aD o.To (uD f.l f.d o.aD).2.1)).aA:=yA H.hm rfl hC.k;have hbt:=asU H.hm hC hbe.1 K.t;exact⟨K.a.grow (V4 H.hm Y hC.2.1),hbt.1,hbe.2.same hs3,hbt.2,K.d.same hs3⟩
theorem asZ{c:PC}{k:Nat}(H:Inv c k)(K:Keep c){o:aK}(hd:o.Kind≠0->ag8 c.m.aA c.s.bA c.aJ o)(hn:c.aJ<=o.ji):Keep (og c o):=by
  have hu:=nk (dV.1 H.hm).2.1
  by_cases h0:o.Kind=0
  · unfold og; rw [aS h0]; exact asY H K o
  cases ht:dY o.To c.hs with
  | none=>
            have e:og c o=c:=by unfold og; rw [aP h0,ht]
            rw [e]; exact K
  | some t=>
  cases hb:(dK t.l).any (ZU o) with
  | false=>rw [adh h0 ht hb]; exact K
  | true=>
    rw [Ri h0 ht hb];have hO:=(H.hz _ _ ht).l;obtain⟨r1,r2,r3,r4⟩:=adL hO o.aD (d:=t.d);rw [hO.rest,KP] at hb;obtain⟨y0,hy0,hb⟩:=hb;unfold ZU at hb; simp at hb;refine⟨K.a,akY ht (λx hx hn2 hc=>?_) K.b,ahb (λy hy=>?_) K.e,K.t,K.d⟩
    · obtain⟨y,hy,b1,b2,b3⟩:=hc
      refine⟨y,(r2 y).2 ⟨hy,λhyc=>?_⟩,b1,b2,b3⟩;have:=hO.inj hy hy0 (hyc.trans hb.1.symm); subst this;obtain⟨x0,hx0,a1,a2,a3⟩:=hd h0;have:=mQ hu hx hx0 (b1.symm.trans (hyc.trans a1.symm)); subst this
      rcases a3 aj with h | h
      · omega
      · obtain⟨x1,bN,c1,c2,c3⟩:=K.t o h hn
        have:=mQ hu hx bN (a1.trans c1.symm); subst this;exact c3 aj hn2
    · have hy':=(r2 y).1 hy
      have he:=K.e _ _ ht y hy'.1
      rcases r4 ⟨y.aD,false⟩ with h | ⟨h,_⟩
      · exact⟨he.1,by show((iQ (qA _ (YJ t.l o.aD t.d))).toNat:Int)=_; rw [h]; exact he.2⟩
      · injection h with h _; exact absurd h hy'.2
theorem ahd{c:PC}(K:Keep c){bR:List aK}(h:∀ o∈bR,o∈c.bR):Keep { c with bR:=bR }:=⟨K.a,K.b,K.e,K.t,λo ho=>K.d o (h o ho)⟩
theorem as0{c:PC}{k:Nat}(H:Inv c k)(K:Keep c)(it:AItem):Keep (lC c it).1:=by
  have hw:=H.hw;unfold lC; split
  · exact K
  split
  · exact K
  rename_i o ho
  have hmem:=bZ ho
  split
  · refine⟨K.a,K.b,K.e,K.t,λp hp=>?_⟩
    rcases kX.1 hp with hp | hp
    · exact K.d p hp
    · rw [oG.1 hp]; exact K.d o hmem
  · have hs:∀ p∈c.bR.take it.A.toNat++c.bR.drop (it.A.toNat+1),p∈c.bR:=by grind
    show Keep (if _ then _ else _)
    split
    · rename_i hc
      exact asZ (Nw (k:=k) H (by rw [jG,iF,rR]; omega)) (ahd K hs) (K.d o hmem) hc.2.1
    grind [ahd]
theorem Uh{s:gG}{aJ n:Int}{hs:kN}:∀(l:List fH){m:dh},mG m=true->(∀ x∈l,x.Client=0/\x.Kind=5/\(vW s aJ x.A n=false->ZY hs s.bA aJ m.aA x))->kA m.aA->kB m.aA hs->kT m.aA s.bA aJ->
    kA (lU s aJ n m l).aA/\kB (lU s aJ n m l).aA hs/\kT (lU s aJ n m l).aA s.bA aJ
  | [],m,_,_,ha,hb,ht=>⟨ha,hb,ht⟩
  | x::l,m,hm,hl,ha,hb,ht=>by
    have hx:=hl x oo;have hr:=λy hy=>hl y (lS x hy);show kA (lU s aJ n (Hz s aJ n m x) l).aA/\kB (lU s aJ n (Hz s aJ n m x) l).aA hs/\kT (lU s aJ n (Hz s aJ n m x) l).aA s.bA aJ;unfold Hz; split
    · rename_i hc
      rw [hx.2.1] at hc; simp at hc;have hC:=hx.2.2 hc;have hs3:=yA hm hx.1 hC.k;have hbt:=asU hm hC hb ht;exact Uh l (o8 hm x) (λy hy=>⟨(hr y hy).1,(hr y hy).2.1,λh=>((hr y hy).2.2 h).same hs3⟩) (ha.grow (V4 hm hx.1 hC.2.1)) hbt.1 hbt.2
    · exact Uh l hm hr ha hb ht
theorem RI{l:List aG}{x:aF}(h:Kz l):Ia l x=true↔ag7 l x:=by
  unfold Ia ag7; rw [KP]
  constructor
  · grind [Ar]
  · rintro⟨y,hy,h1,h2,h3⟩; refine⟨y,hy,?_⟩; unfold Ar; simp [h1,h2,h3,h.2 y hy]
theorem anU{l:List aF}(hl:kI l=true){r:List aG}{z:Int}:z∈lT l r↔∃ y∈r,rX l y=true/\y.aD=z:=by
  unfold lT; rw [aS hl];have hs:((ac9 l r).mergeSort fun(x y:Int)=>decide (x<=y)).Pairwise (λx y=>x<=y):=by grind [List.pairwise_mergeSort]
  rw [(aja hs).2,List.mem_mergeSort];unfold ac9; grind
theorem aa9{l:List aF}(hl:kI l=true){h:oZ}(hO:Kz h.l)(he:∀ y∈h.l,adW l y){y:aG}(hy:y∈h.l)(hs:y.aD∈lT l h.l):∃ x∈l,x.ID=y.aD/\y.aB<x.aB:=by
  obtain⟨w,hw,h1,h2⟩:=(anU hl).1 hs;have:=hO.inj hw hy h2; subst this;obtain⟨x,hx,a1,a2,a3⟩:=he w hw
  grind [rX,Ar,xY]
theorem as1{c:PC}{k:Nat}(H:Inv c k)(K:Keep c)(it:AItem){h:oZ}(hg:dY it.A c.hs=some h):Keep (LY c it h):=by
  have hc:=(dV.1 H.hm).2.1;have hu:=nk hc;have hO:=(H.hz _ _ hg).l;have hr:=hO.rest;have hs3:nI c.m.aA (lU c.s c.aJ it.A c.m (j5 c.m.aA it.A (dK h.l))).aA:=E9 _ H.hm adP;have key:=Uh (s:=c.s) (aJ:=c.aJ) (n:=it.A) (hs:=c.hs) (j5 c.m.aA it.A (dK h.l)) H.hm (λx hx=>?_) K.a K.b K.t
  · refine⟨key.1,key.2.1,K.e.same hs3,key.2.2,λo ho h0=>?_⟩
    rcases kX.1 (show o∈c.bR++vD _ _ _ _ from ho) with ho | ho
    · exact(K.d o ho h0).same hs3
    · unfold vD at ho
      obtain⟨y,hy,rfl⟩:=gB.1 ho;have hy:=jV.1 hy;have hyl:y∈h.l:=by have:=hy.1; rwa [hr] at this
      have hys:y.aD∈lT (lU c.s c.aJ it.A c.m (j5 c.m.aA it.A (dK h.l))).aA h.l:=by have:=nR.1 hy.2; rw [hr] at this ⊢; exact this
      obtain⟨x,hx,e1,e2⟩:=aa9 (dV.1 (HY H.hm _)).2.1 hO (λy hy=>((K.e _ _ hg y hy).1.same hs3)) hyl hys;exact⟨x,hx,e1,Int.le_of_lt e2,λh=>absurd h (Int.ne_of_lt e2)⟩
  · have hi:=Uf x hx
    rw [hr] at hi
    rcases hi.2.2 with ⟨h5,d,hd,dA,dC,dR⟩ | ⟨h6,d,hd,dA,dR,dn⟩
    · refine⟨hi.2.1,h5,λht=>⟨hi.2.1,.inr (.inr h5),λ_ y hy yi yv=>?_⟩⟩
      have:=mQ hu hy hd (yi.trans dA); subst this;rw [hi.1];exact⟨⟨h,hg,(RI hO).1 dR⟩,λp hp hpu hpc hpt=>absurd ⟨hpc.trans dA.symm,hpt⟩ (adV.1 ht p (vE.2 ⟨hp,hpu⟩))⟩
    · obtain⟨h',hg',hh⟩:=K.b d hd _ dn
      rw [hg] at hg'; injection hg' with hg'; subst hg';rw [(RI hO).2 hh] at dR; exact absurd dR au
theorem U2{l:List aR}{aH:List Int}:∀(n:Nat)(aX:List fP)(hs:List Int),∀ z∈r9 l aH n aX hs,jv l z=true/\aH.contains z=true
  | 0,_,_,z,hz=>absurd hz (by simp [r9])
  | n+1,aX,hs,z,hz=>by
    unfold r9 at hz
    split at hz
    · exact absurd hz av
    · rename_i t ht
      rcases iR.1 hz with rfl | hz
      · have h:=(adQ ht).2
        unfold Br at h; simp at h;exact⟨by unfold jv; simp [h.1.1.1.1,h.1.1.1.2],by simp [h.1.1.2]⟩
      · exact U2 n _ _ z hz
theorem ahe{c v sum:Int}{fG:List (BitVec 8)}:∀(l:List Int)(q:kN × List Int),q.2.length<=(l.foldl (vQ c v sum fG) q).2.length
  | [],q=>kJ _
  | z::l,q=>by
    rw [Gh];refine lI ?_ (ahe l _);unfold vQ; split
    · exact kJ _
    · show q.2.length<=(if _ then _ else _:List Int).length
      split
      · rw [jG]; omega
      · exact kJ _
theorem ahf{c v sum:Int}{fG:List (BitVec 8)}:∀(l:List Int){q:kN × List Int},RA q.1->(l.foldl (vQ c v sum fG) q).2=q.2->∀ z,dY z (l.foldl (vQ c v sum fG) q).1=dY z q.1
  | [],q,_,_,z=>rfl
  | n::l,q,hz,h,z=>by
    rw [Gh] at h ⊢;have hm:=ahe (c:=c) (v:=v) (sum:=sum) (fG:=fG) l (vQ c v sum fG q n)
    have key:(vQ c v sum fG q n).2=q.2/\∀ z,dY z (vQ c v sum fG q n).1=dY z q.1:=by
      rw [h] at hm
      revert hm
      unfold vQ
      split
      · exact λ_=>⟨Y,λ_=>Y⟩
      · rename_i t ht
        intro hm
        cases hk:TL t.l t.bG c v sum fG with
        | true=>rw [hk] at hm; simp at hm; omega
        | false=>
          obtain⟨e1,e2⟩:=akL (hz _ _ ht).l hk (d:=t.d);refine⟨Y,λz=>?_⟩;rw [e1,e2,oN]; split
          · rename_i he; rw [he,ht]
          · rfl
    have hz2:RA (vQ c v sum fG q n).1:=λu t hg=>hz u t (by rw [<- key.2]; exact hg);rw [ahf l hz2 (by rw [h,key.1]) z,key.2]
theorem as2{l0:List aF}(hu:Up aF.ID l0){c v sum:Int}{fG:List (BitVec 8)}(hd:fG.length=4)(hl:∃ x∈l0,x.ID=c/\v<=x.aB/\(v=x.aB->sum=x.Sum)):∀(l:List Int){q:kN × List Int},RA q.1->kB l0 q.1->kE l0 q.1->(∀ z∈q.2,∃ h,dY z q.1=some h/\(⟨c,v,sum,false,false⟩:aG)∈h.l)->
    kB l0 (l.foldl (vQ c v sum fG) q).1/\kE l0 (l.foldl (vQ c v sum fG) q).1/\(∀ z∈(l.foldl (vQ c v sum fG) q).2,∃ h,dY z (l.foldl (vQ c v sum fG) q).1=some h/\(⟨c,v,sum,false,false⟩:aG)∈h.l)/\∀ z∈(l.foldl (vQ c v sum fG) q).2,z∈q.2∨z∈l
  | [],q,hz,hb,he,ht=>by grind
  | n::l,q,hz,hb,he,ht=>by
    rw [Gh]
    have key:RA (vQ c v sum fG q n).1/\kB l0 (vQ c v sum fG q n).1/\kE l0 (vQ c v sum fG q n).1/\(∀ z∈(vQ c v sum fG q n).2,∃ h,dY z (vQ c v sum fG q n).1=some h/\(⟨c,v,sum,false,false⟩:aG)∈h.l)/\∀ z∈(vQ c v sum fG q n).2,z∈q.2∨z=n:=by
      unfold vQ
      split
      · grind
      · rename_i t hg
        have hbe:=akZ hu hz hg hl hb he (fG:=fG);refine⟨hz.put ((hz _ _ hg).take c v sum hd),hbe.1,hbe.2,λz hzm=>?_,λz hzm=>?_⟩
        · cases hk:TL t.l t.bG c v sum fG with
          | false=>
            obtain⟨e1,e2⟩:=akL (hz _ _ hg).l hk (d:=t.d)
            grind [oN]
          | true=>
            grind [oN,ahc,List.mem_singleton]
        grind
    obtain⟨k1,k2,k3,k4,k5⟩:=key;obtain⟨r1,r2,r3,r4⟩:=as2 hu hd hl l k1 k2 k3 k4;refine⟨r1,r2,r3,λz hzm=>?_⟩
    rcases r4 z hzm with h | h
    · rcases k5 z h with h | rfl
      · exact .inl h
      · exact .inr oo
    · exact .inr (lS _ h)
theorem as3{c:PC}{k:Nat}(H:Inv c k)(K:Keep c)(it:AItem):Keep (sF c it).1:=by
  have hc:=(dV.1 H.hm).2.1;have hu:=nk hc;have hw:=Ub c.m it;have hk:(vY c.m it).Kind=3∨(vY c.m it).Kind=4:=by show(if _ then(4:Int) else 3)=3∨(if _ then(4:Int) else 3)=4; split <;> simp
  unfold sF
  by_cases hp:(eH c.m (vY c.m it)).2<0
  · rw [aS hp]; exact K
  rw [aP hp];have hm2:=Jh H.hm (vY c.m it);have hc2:=(dV.1 hm2).2.1;have hu2:=nk hc2;obtain⟨hN,v,hv,hv1,_,hmem,_,eO⟩:=awu H.hm hk hw.2.1 hp;have hA:(vY c.m it).A=it.A:=rfl;have hB:(vY c.m it).B=Js it.A it.B:=rfl;rw [hA,hB] at hmem; rw [hA] at eO
  have hlt:∀ x∈c.m.aA,x.ID=it.A->x.aB<v:=λx hx he=>by
    rcases eO with ⟨_,h⟩ | ⟨d,hd,h1,h2⟩
    · exact absurd he (h x hx)
    · have:=mQ hu hx hd (he.trans h1.symm); subst this; omega
  by_cases he:(Jt c it).2=[]
  · rw [aS he]
    have hg:=ahf (c:=it.A) (v:=(eH c.m (vY c.m it)).2) (sum:=Js it.A it.B) (fG:=oh it.A it.B) (YM c (eH c.m (vY c.m it)).1) (q:=(c.hs,[])) H.hz he;exact⟨K.a,λx hx n hn=>by obtain⟨h,h1,h2⟩:=K.b x hx n hn; exact⟨h,(hg n).trans h1,h2⟩,λz h hz=>K.e z h ((hg z).symm.trans hz),K.t,K.d⟩
  rw [aP he];have hT:Jt c it=(YM c (eH c.m (vY c.m it)).1).foldl (vQ it.A v (Js it.A it.B) (oh it.A it.B)) (c.hs,[]):=by unfold Jt; rw [hv]
  generalize hm':(eH c.m (vY c.m it)).1=m' at *
  rw [hv] at *;have hnew:(⟨it.A,v,Js it.A it.B,[]⟩:aF)∈m'.aA:=(hmem _).2 (.inl rfl)
  have b2:kB m'.aA c.hs:=λx hx n hn=>by
    rcases(hmem x).1 hx with rfl | ⟨hx,_⟩
    · exact absurd hn av
    · exact K.b x hx n hn
  have e2:kE m'.aA c.hs:=λz h hg y hy=>by
    obtain⟨⟨x,hx,a1,a2,a3⟩,h2⟩:=K.e z h hg y hy;refine⟨?_,h2⟩
    by_cases hxa:x.ID=it.A
    · have:=hlt x hx hxa
      exact⟨_,hnew,hxa.symm.trans a1,by show y.aB<=v; omega,λh=>by have h':y.aB=v:=h; omega⟩
    · exact⟨x,(hmem x).2 (.inr ⟨hx,hxa⟩),a1,a2,a3⟩
  have t2:kT m'.aA c.s.bA c.aJ:=λp hp hpu=>by
    obtain⟨x,hx,a1,a2,a3⟩:=K.t p hp hpu
    by_cases hxa:x.ID=it.A
    · have:=hlt x hx hxa
      exact⟨_,hnew,hxa.symm.trans a1,by show p.aB<=v; omega,λ_=>by simp⟩
    · exact⟨x,(hmem x).2 (.inr ⟨hx,hxa⟩),a1,a2,a3⟩
  have d2:kD m'.aA c.bR c.s.bA c.aJ:=λp hp hpu=>by
    obtain⟨x,hx,a1,a2,a3⟩:=K.d p hp hpu
    by_cases hxa:x.ID=it.A
    · have:=hlt x hx hxa
      exact⟨_,hnew,hxa.symm.trans a1,by show p.aB<=v; omega,λh=>by have h':p.aB=v:=h; omega⟩
    · exact⟨x,(hmem x).2 (.inr ⟨hx,hxa⟩),a1,a2,a3⟩
  obtain⟨w1,w2,w3,w4⟩:=as2 hu2 (c:=it.A) (v:=v) (sum:=Js it.A it.B) (fG:=oh it.A it.B) rfl ⟨_,hnew,rfl,Ls _,λ_=>rfl⟩ (YM c m') (q:=(c.hs,[])) H.hz b2 e2 (λz hz=>absurd hz av);rw [<- hT] at w1 w2 w3 w4
  have hcl:∀ x∈(Jt c it).2.map (λz=>vX it.A z v),ZY (Jt c it).1 c.s.bA c.aJ m'.aA x:=λx hx=>by
    obtain⟨z,hz,rfl⟩:=gB.1 hx;refine⟨Y,.inr (.inr Y),λ_ y hy yi yv=>?_⟩;have:=mQ hu2 hy hnew yi; subst this;obtain⟨h,hg,hin⟩:=w3 z hz;refine⟨⟨h,hg,_,hin,Y,Y,Y⟩,λp hp hpu hpc _ hpv=>?_⟩;obtain⟨x,hx,a1,a2,_⟩:=K.t p hp hpu;have:=hlt x hx (a1.trans hpc);have h':p.aB=v:=hpv;omega
  have hs3:nI m'.aA (C9 m' ((Jt c it).2.map λz=>vX it.A z v)).aA:=BO _ hm2 aA5;have hbt:=asV _ hm2 hcl w1 t2;refine⟨?_,hbt.1,w2.same hs3,hbt.2,d2.same hs3⟩;show kA (C9 m' ((Jt c it).2.map λz=>vX it.A z v)).aA
  cases hq:(Jt c it).2 with
  | nil=>exact absurd hq he
  | cons z q=>
    rw [mR];show kA (C9 (tY m' (vX it.A z v)) (q.map λz=>vX it.A z v)).aA;have hz:=w4 z (by rw [hq]; exact oo);have hz:z∈YM c m':=hz.resolve_left av;have hst:jv m'.aL z=true:=(U2 _ _ _ z hz).1
    have h1:kA (tY m' (vX it.A z v)).aA:=λy hy=>by
      by_cases hya:y.ID=it.A
      · exact⟨z,asW hm2 (x:=vX it.A z v) Y Y hst hnew Y Y y hy hya⟩
      · obtain⟨d,hd,f1,_,_,f4⟩:=V4 hm2 (x:=vX it.A z v) rfl (.inr (.inr rfl)) y hy
        rcases(hmem d).1 hd with rfl | ⟨hd,_⟩
        · exact absurd f1 hya
        · obtain⟨n,hn⟩:=K.a d hd; exact⟨n,f4 n hn⟩
    exact h1.grow (ag9 _ (o8 hm2 _) (λx hx=>by obtain⟨z,_,rfl⟩:=gB.1 hx; exact⟨rfl,.inr (.inr rfl)⟩))
theorem as4{l:List aG}{d:qL}(h:∀ y∈dK l,((iQ (qA (⟨y.aD,false⟩:bT) d)).toNat:Int)=y.Sum):ZT l d=(l,d):=by
  unfold ZT
  have:vC (UO l d)=[]:=by
    unfold vC UO;rw [List.map_eq_nil_iff,TI];intro p hp;obtain⟨y,hy,rfl⟩:=gB.1 hp
    simp [h y hy]
  grind
theorem Ui{c:PC}(K:Keep c){z:Int}{h h2:oZ}(hg:dY z c.hs=some h)(hl:h2.l=h.l)(hd:h2.d=h.d):Keep { c with hs:=gK z h2 c.hs }:=
  ⟨K.a,akY hg (by grind) K.b,ahb (λy hy=>by rw [hl] at hy; rw [hd]; exact K.e z h hg y hy) K.e,K.t,K.d⟩
def Calm(it:AItem):Prop:=it.Kind≠13/\it.Kind≠14
theorem awx{c:PC}{k:Nat}(H:Inv c k)(K:Keep c){it:AItem}(hn:Calm it)(h0:0<=it.Kind/\it.Kind<=14)(hs:it.Kind≠0/\it.Kind≠1/\it.Kind≠2/\it.Kind≠5/\¬ (it.Kind=6∨it.Kind=7∨it.Kind=8)/\it.Kind≠11){h:oZ}(hg:dY it.A c.hs=some h):Keep (J6 c it h).1:=by
  have hO:=(H.hz _ _ hg).l;unfold Calm at hn;unfold J6
  split
  · exact⟨K.a,K.b,K.e,K.t,K.d⟩
  split
  · grind [as1]
  split
  · grind [Ui]
  split
  · grind [Y6,Ui]
  split
  · rw [as4 (λy hy=>(K.e _ _ hg y (by rw [hO.rest] at hy; exact hy)).2)]; grind [Ui]
  grind
theorem ak0{c:PC}{k:Nat}(H:Inv c k)(K:Keep c){it:AItem}(hn:Calm it):Keep (oC c it).1:=by
  have hmay:=dV.1 H.hm;unfold oC
  split
  · split
    · exact K
    · refine⟨K.a,K.b,K.e,λp hp hu=>K.t p hp (by grind),λo ho h0=>?_⟩
      obtain⟨x,hx,h1,h2,h3⟩:=K.d o ho h0;refine⟨x,hx,h1,h2,λhv=>?_⟩
      grind
  split
  · unfold avX
    have hs3:nI c.m.aA (tY c.m (Ky it)).aA:=yA H.hm rfl (.inl rfl)
    rcases asD H.hm it with ⟨h0,hch,h2,h3,h4⟩ | ⟨h0,h1⟩
    · rw [aS h0]
      refine⟨by show kA (tY c.m (Ky it)).aA; rw [hch]; exact K.a,?_,?_,by show kT (tY c.m (Ky it)).aA _ _; rw [hch]; exact K.t,K.d.same hs3⟩
      · show kB (tY c.m (Ky it)).aA _
        rw [hch];intro x hx n hn2;obtain⟨nd,hnd,hni,_⟩:=hmay.2.2.2 x hx n hn2;rw [oN,aP (by grind)];exact K.b x hx n hn2
      · show kE (tY c.m (Ky it)).aA _
        rw [hch];exact ahb av K.e
    simp_all
  split
  · have hch:(tY c.m ⟨0,0,2,it.A,it.B,0⟩).aA=c.m.aA:=by
      rcases(yL H.hm (x:=⟨0,0,2,it.A,it.B,0⟩) av rfl).1 with h | ⟨hk',_,_,_⟩ | ⟨c,hk',_,_,_⟩ | ⟨d,H,hk',_,_,_,_,_,_,_,_⟩ | ⟨c,H,hk',_,_,_,_,_,_⟩
      · exact h
      · grind
      · grind
      · grind
      · grind
    refine⟨?_,?_,?_,?_,?_⟩
    · show kA (tY c.m ⟨0,0,2,it.A,it.B,0⟩).aA; rw [hch]; exact K.a
    · show kB (tY c.m ⟨0,0,2,it.A,it.B,0⟩).aA _; rw [hch]; exact K.b
    · show kE (tY c.m ⟨0,0,2,it.A,it.B,0⟩).aA _; rw [hch]; exact K.e
    · show kT (tY c.m ⟨0,0,2,it.A,it.B,0⟩).aA _ _; rw [hch]; exact K.t
    · show kD (tY c.m ⟨0,0,2,it.A,it.B,0⟩).aA _ _ _; rw [hch]; exact K.d
  grind [yL,asX,as0,as3,awx]
theorem as5{c:PC}{k:Nat}(H:Inv c k)(K:Keep c){x:aF}(hx:x∈c.m.aA){n:Int}(hn:n∈x.aC):Ia (Kw c.hs n) x=true:=by
  obtain⟨h,hg,hc⟩:=K.b x hx n hn;have hO:=(H.hz _ _ hg).l;unfold Kw; rw [hg]; show Ia (dK h.l) x=true;rw [hO.rest]; grind [RI]
theorem ajd{c:PC}{k:Nat}(H:Inv c k)(K:Keep c):Fb c=true:=by
  unfold Fb; rw [ng];intro x hx;refine ag6 (λh0=>?_) (λn hn=>as5 H K hx hn);obtain⟨n,hn⟩:=K.a x hx
  grind
theorem as6{l:List AItem}:MC l=true↔∀ x∈l,Calm x:=by
  simp [MC,U0,Calm]
end
section
theorem ahg:∀(l:List eY)(z:Int),Up eY.Node l->(∀ b∈l,z<b.Node/\Lj b=true)->lZ z l=true
  | [],z,_,_=>rfl
  | b::l,z,hu,h=>by
    have h1:=nW.1 hu;have hb:=h b oo
    simp only [lZ,bK,bM]
    exact⟨⟨hb.2,hb.1⟩,ahg l _ h1.2 (λc hc=>⟨h1.1 c hc,(h c (lS _ hc)).2⟩)⟩
theorem Nz{b:eY}:Lj b=true↔1<=b.Node/\b.Node<=16/\0<=b.At/\b.At<=1099511627776:=by
  grind [Lj]
theorem Uj{l:List eY}:lZ 0 l=true↔Up eY.Node l/\∀ b∈l,Lj b=true:=
  by grind [YF,Tf,ahg,Nz]
theorem abb:∀(l:List eY)(z:Int),z<=16->lZ z l=true->z+l.length<=16
  | [],z,hz,_=>by simp; exact hz
  | b::l,z,hz,h=>by
    simp only [lZ,bK,bM] at h
    have hb:=Nz.1 h.1.1;have:=abb l b.Node hb.2.1 h.2;rw [oV]; omega
theorem ak1{l:List eY}(h:lZ 0 l=true){n aJ:Int}(hm:Lj ⟨n,aJ⟩=true):lZ 0 (tX l n aJ)=true/\(∃ b∈tX l n aJ,b.Node=n/\aJ<=b.At)/\∀ b0∈l,∃ b∈tX l n aJ,b.Node=b0.Node/\b0.At<=b.At:=by
  have hu:=Uj.1 h;unfold tX; rw [aS hm,Qm h]
  split
  · rename_i hh
    obtain⟨b,hb,hk⟩:=qh (key:=eY.Node) hh;have hb':l[low (fun(y:eY)=>bL y.Node n) l]? = some b:=hb;rw [hb'];have hk:b.Node=n:=hk;show lZ 0 (l.set _ _)=true/\_;have hself:(l.set (low (fun(y:eY)=>bL y.Node n) l) { b with At:=if aJ>b.At then aJ else b.At })[low (fun(y:eY)=>bL y.Node n) l]? = some { b with At:=if aJ>b.At then aJ else b.At }:=rT (aM hb');have hbm:=Nz.1 (hu.2 b (bZ hb')); have hnm:=Nz.1 hm;refine⟨Uj.2 ⟨acP hu.1 hb' Y,λc hc=>?_⟩,⟨_,bZ hself,hk,?_⟩,λb0 h0=>?_⟩
    · grind [Nz]
    · grind
    · by_cases he:b0.Node=n
      · have:=mQ hu.1 h0 (bZ hb') (by grind); subst this
        exact⟨_,bZ hself,Y,by show b0.At<=(if aJ>b0.At then aJ else b0.At); split <;> omega⟩
      · obtain⟨k,hk2⟩:=get_of_mem h0
        refine⟨b0,TD.2 ⟨k,?_⟩,Y,Ls _⟩
        grind
  · rename_i hh
    have hno:∀ x∈l,x.Node≠n:=by simp_all [sU]
    refine⟨Uj.2 ⟨acO (key:=eY.Node) (c:=⟨n,aJ⟩) hu.1 hno,λc hc=>?_⟩,⟨⟨n,aJ⟩,(EL _).2 (.inl Y),Y,Ls _⟩,λb0 h0=>⟨b0,(EL _).2 (.inr h0),Y,Ls _⟩⟩
    grind
theorem awy{l:List eY}(h:lZ 0 l=true){n aJ:Int}(hm:¬ Lj ⟨n,aJ⟩=true):tX l n aJ=l:=by simp_all [tX,aP,Qm]
theorem abd{l:List eY}(h:lZ 0 l=true)(n aJ:Int):lZ 0 (tX l n aJ)=true:=by
  grind [ak1,awy]
def heard(l:List eY)(aJ n:Int):Prop:=∃ b∈l,b.Node=n/\aJ<=b.At
theorem ahh{l:List eY}(h:lZ 0 l=true){aJ n nu:Int}(hl:0<=nu)(hh:heard l aJ n):n∈(JV l aJ nu).map eY.Node:=by
  obtain⟨b,hb,rfl,h2⟩:=hh;refine gB.2 ⟨b,?_,Y⟩
  grind [JV,Lr,XL,Qm,decide_eq_true]
theorem as7(c:PC)(o:aK):(kU c o).aJ=c.aJ/\(kU c o).bR=c.bR/\(kU c o).s.cZ=c.s.cZ/\(kU c o).s.bA=c.s.bA/\(kU c o).r=c.r:=by
  unfold kU; grind
theorem Fe(c:PC)(o:aK):(og c o).aJ=c.aJ/\(og c o).bR=c.bR/\(og c o).s.cZ=c.s.cZ/\(og c o).s.bA=c.s.bA/\(og c o).r=c.r:=by
  unfold og; grind [as7]
structure Fine (c:PC) (a b:Nat):Prop where
  e:∃ j,Inv c j
  s:lZ 0 c.s.cZ=true
  d:c.s.bA.length<=32*a
  u:0<=c.aJ/\c.aJ<=100*a
  w:c.bR.length<=300*a+16*b
theorem Fine.ok{c:PC}{a b:Nat}(F:Fine c a b)(ha:a<=1000)(hb:b<=10000):Ok c:=by
  obtain⟨j,H⟩:=F.e;have:=abb _ 0 au F.s
  exact⟨H.hm,H.hr,aj,H.Mc,by have:=F.d; omega,by have:=F.u; omega,by have:=F.w; omega,
    λz h hg=>⟨by have:=(H.hz z h hg).n; have:=(H.hz z h hg).r; omega,λk=>by have:=(H.hz z h hg).d k; omega⟩,
    λn hn=>by obtain⟨h,hg,_⟩:=H.hN n hn; grind⟩
theorem Fine.mono{c:PC}{a b a2 b2:Nat}(F:Fine c a b)(ha:a<=a2)(hb:b<=b2):Fine c a2 b2:=
  ⟨F.e,F.s,by have:=F.d; omega,by have:=F.u; omega,by have:=F.w; omega⟩
theorem ak2{c:PC}{j:Nat}(H:Inv c j)(it:AItem){h:oZ}(hg:dY it.A c.hs=some h):(LY c it h).bR.length<=c.bR.length+16:=by
  show(c.bR++vD _ _ _ _).length<=_;have h1:(vD (dK h.l) (lT (lU c.s c.aJ it.A c.m (j5 c.m.aA it.A (dK h.l))).aA (dK h.l)) it.A (c.aJ+c.r.iD)).length<=h.l.length:=by grind [vD,List.length_map,Nat.le_trans,List.length_filter_le,Ee]
  have:=(H.hz _ _ hg).n; have:=(H.hz _ _ hg).r
  grind
theorem ak3{c:PC}{a b:Nat}(F:Fine c a b){it:AItem}(hk:it.Kind=3∨it.Kind=4∨it.Kind=9∨it.Kind=10∨it.Kind=12):Fine (oC c it).1 a (b+1):=by
  obtain⟨j,H⟩:=F.e;have hw:=F.w;have hM:=F.mono (kJ a) (abk b);refine⟨⟨_,xJ H it⟩,?_,?_,?_,?_⟩
  all_goals
    unfold oC;rw [aP aj,aP aj,aP aj,aP aj,aP aj,aP aj,aP aj]
    split
    · first | exact hM.s | exact hM.d | exact hM.u | exact hM.w
    rename_i h hg
    split
    · first | exact hM.s | exact hM.d | exact hM.u | exact hM.w
    unfold J6
  · split
    · exact abd F.s _ _
    split
    · exact F.s
    split
    · exact F.s
    split
    · exact F.s
    split
    · exact F.s
    grind
  · split
    · exact F.d
    split
    · exact F.d
    split
    · exact F.d
    split
    · exact F.d
    split
    · exact F.d
    grind
  · split
    · exact F.u
    split
    · exact F.u
    split
    · exact F.u
    split
    · exact F.u
    split
    · exact F.u
    grind
  grind [ak2]
theorem ahi{c:PC}{a b:Nat}(F:Fine c a b){it:AItem}(hk:it.Kind=6∨it.Kind=7):Fine (oC c it).1 a b:=by
  obtain⟨j,H⟩:=F.e;have e:oC c it=lC c it:=by grind [oC]
  have hw:=F.w;have hi:=xJ H it;rw [e] at hi ⊢;refine⟨⟨_,hi⟩,?_,?_,?_,?_⟩
  all_goals
    unfold lC
    split
    · first | exact F.s | exact F.d | exact F.u | exact F.w
    split
    · grind
    rw [aP aj]
  · show lZ 0 (if _ then _ else _:PC).s.cZ=true
    split
    · rw [(Fe _ _).2.2.1]; exact F.s
    · exact F.s
  · show(if _ then _ else _:PC).s.bA.length<=_
    split
    · rw [(Fe _ _).2.2.2.1]; exact F.d
    · exact F.d
  · show 0<=(if _ then _ else _:PC).aJ/\(if _ then _ else _:PC).aJ<=_
    split
    · rw [(Fe _ _).1]; exact F.u
    · exact F.u
  grind [Fe]
theorem as8{c:PC}{a b:Nat}(F:Fine c a b){it:AItem}(hk:it.Kind=5):Fine (oC c it).1 (a+1) b:=by
  obtain⟨j,H⟩:=F.e;have e:oC c it=(uY c,0):=by grind [oC]
  have hi:=xJ H it;rw [e] at hi ⊢;refine⟨⟨_,hi⟩,?_,?_,?_,?_⟩
  · show lZ 0 (jr _ _ _ _).cZ=true; rw [Uc]; exact F.s
  · have:=agT H.hm c.s c.r c.aJ; have:=F.d; show(jr _ _ _ _).bA.length<=_; omega
  · have:=F.u; exact⟨this.1,by show c.aJ<=_; omega⟩
  · show(c.bR++qb _ _ _ _).length<=_
    have:=YP (m:=c.m) (r:=c.r) (aJ:=c.aJ) H.Mc; have:=F.w; have:=(uN (dV.1 H.hm).2.1).1
    grind
theorem anV{c:PC}{a b:Nat}(F:Fine c a b){it:AItem}(hk:it.Kind=0)(hA:it.A=1):Fine (oC c it).1 (a+1) b:=by
  obtain⟨j,H⟩:=F.e;have e:oC c it=({ c with aJ:=c.aJ+it.A },0):=by grind [oC]
  have hi:=xJ H it;rw [e] at hi ⊢;refine⟨⟨_,hi⟩,F.s,by have:=F.d; grind,?_,by have:=F.w; grind⟩;have:=F.u; grind
def xK(kind:Int)(ids:List Int)(c:PC):PC:=ids.foldl (λc z=>(oC c ⟨kind,z,0,0⟩).1) c
def zL(c:PC):List Int:=c.m.aL.map aR.ID
theorem anW(kind:Int)(ids:List Int)(z:Int)(c:PC):xK kind (ids++[z]) c=(oC (xK kind ids c) ⟨kind,z,0,0⟩).1:=by simp [xK]
theorem MG{kind:Int}(hk:kind=3∨kind=4∨kind=9∨kind=10∨kind=12):∀(ids:List Int){c:PC}{a b:Nat},Fine c a b->Fine (xK kind ids c) a (b+ids.length)
  | [],c,a,b,F=>F
  | z::ids,c,a,b,F=>by
    have:=MG hk ids (ak3 F (it:=⟨kind,z,0,0⟩) hk);rw [show b+(z::ids).length=b+1+ids.length by rw [oV]; omega]; exact this
def Pm(kind:Int):Nat->PC->PC
  | 0,c=>c
  | n+1,c=>if c.bR.length=0 then c else Pm kind n (oC c ⟨kind,0,0,0⟩).1
theorem ak4{kind:Int}(hk:kind=6∨kind=7):∀(n:Nat){c:PC}{a b:Nat},Fine c a b->Fine (Pm kind n c) a b
  | 0,c,a,b,F=>F
  | n+1,c,a,b,F=>by
    unfold Pm; split
    · exact F
    · exact ak4 hk n (ahi F (it:=⟨kind,0,0,0⟩) hk)
theorem aje{kind:Int}{n:Nat}{c:PC}(h:¬ c.bR.length=0):Pm kind (n+1) c=Pm kind n (oC c ⟨kind,0,0,0⟩).1:=by
  grind [Pm]
theorem ak5{kind:Int}{n:Nat}{c:PC}(h:c.bR.length=0):Pm kind n c=c:=by
  cases n <;> grind [Pm]
def hlA(c:PC):PC:=(oC c ⟨0,1,0,0⟩).1
def hlB(c:PC):PC:=xK 3 (zL (hlA c)) (hlA c)
def J7(c:PC):PC:=xK 4 (zL (hlB c)) (hlB c)
def hlD(c:PC):PC:=(oC (J7 c) ⟨5,0,0,0⟩).1
def DZ(c:PC):PC:=Pm 6 500 (hlD c)
def vZ:Nat->PC->PC
  | 0,c=>c
  | n+1,c=>DZ (vZ n c)
def axZ(n:Nat)(c:PC):PC:=vZ n (xK 10 (zL c) c)
theorem RJ{c:PC}{a b:Nat}(F:Fine c a b):(zL c).length<=16:=by
  obtain⟨j,H⟩:=F.e;unfold zL; rw [kF]; exact Ak (dV.1 H.hm).1
theorem ajf{c:PC}{a b:Nat}(F:Fine c a b):Fine (hlA c) (a+1) b:=anV F rfl rfl
theorem ajg{c:PC}{a b:Nat}(F:Fine c a b):Fine (hlB c) (a+1) (b+16):=
  (MG (.inl rfl) _ (ajf F)).mono (kJ _) (by have:=RJ (ajf F); omega)
theorem as9{c:PC}{a b:Nat}(F:Fine c a b):Fine (J7 c) (a+1) (b+32):=
  (MG av _ (ajg F)).mono (kJ _) (by have:=RJ (ajg F); omega)
theorem ata{c:PC}{a b:Nat}(F:Fine c a b):Fine (hlD c) (a+2) (b+32):=as8 (as9 F) rfl
theorem atb{c:PC}{a b:Nat}(F:Fine c a b):Fine (DZ c) (a+2) (b+32):=ak4 (.inl rfl) _ (ata F)
theorem Pg{c:PC}{a b:Nat}(F:Fine c a b):∀(n:Nat),Fine (vZ n c) (a+2*n) (b+32*n)
  | 0=>F
  | n+1=>(atb (Pg F n)).mono aj aj
theorem ak6{c:PC}(h:lZ 0 c.s.cZ=true)(it:AItem):lZ 0 (oC c it).1.s.cZ=true:=by
  unfold oC
  split
  · grind
  split
  · exact h
  split
  · exact h
  split
  · show lZ 0 (jr _ _ _ _).cZ=true; grind [Uc]
  split
  · grind [lC,lZ,Fe]
  split
  · grind [sF]
  split
  · exact h
  split
  · exact h
  split
  · exact h
  unfold J6
  split
  · grind [abd]
  split
  · exact h
  grind
theorem Ze:∀(l:List AItem){c:PC},lZ 0 c.s.cZ=true->lZ 0 (Dj c l).s.cZ=true
  | [],c,h=>h
  | it::l,c,h=>Ze l (ak6 h it)
theorem atc{r:ARules}(hr:l5 r=true){l:List AItem}{k:Nat}(hk:k<=l.length):Fine (Dj (KC r) (l.take k)) k 0:=by
  have H:=RD hr hk;exact⟨⟨_,H⟩,Ze _ Y,H.hd,H.hu,H.hw⟩
end
section
theorem aGA:bJ prog 26:=ay
theorem ahj(a0:Int):prog.built 32 [(0,aI a0)]=some #[aI a0,aI 0,aI 0,aI 0]:=ak
def Dx(l:List aR):Nat:=l.countP fun(n:aR)=>decide (n.gq=0)
def rP(m:dh)(r:ARules):Bool:=m.aL.all (fun(n:aR)=>decide (n.lD=16))&&(((decide (r.jw<=(Dx m.aL:Int))&&decide (m.aA.length<=8))&&decide (r.iD<=8))&&decide (r.eZ=16))
def vR(m:dh)(r:ARules)(x:aF):Bool:=decide ((x.aC.length:Int)=r.jw)&&decide (((jg x m.aL (m.aL.map aR.ID)).length:Int)=r.jw)
def Bd(c:PC)(r:ARules):Bool:=c.m.aA.all (vR c.m r)&&((Fb c&&decide ((qb c.m c.s r c.aJ).length=0))&&decide ((mX c.m c.s r c.aJ).length=0))
theorem adX{b w:World}{S:Nat->Prop}{F:List lG}{iI:Nat}{G:GC}{a b9:Nat}(H0:Hp b S w (wN iI G::F))(kind:Int)(hk9:kind=3∨kind=4∨kind=9∨kind=10∨kind=12)(hF:Fine G.pl a b9)(ha:a<=1000)(hb:b9<=9000) :
    bO prog 86 #[gI iI,aI kind] w λv w'=>∃(G1:GC),v=.tuple #[]/\G1.pl=xK kind (zL G.pl) G.pl/\Hp b S w' (wN iI G1::F):=by
 refine rU func86 ntmps86 Y ?_;have hok:Ok G.pl:=hF.ok ha aj;have hil:G.pl.m.aL.length<=16:=by have h9:=RJ hF; unfold zL at h9; rw [kF] at h9; exact h9
 refine bQ Y<|gU Y (RF H0 hok) ?_
 rintro _ w1 ⟨JE,JF,Za,Zb,Zc,Zd,rfl,K1⟩;have JO:=(K1.s s0).bC;have axR:=(K1.s s1).bC;have aGx:=(K1.s s2).bC;refine al yJ Y K1 λg1 w2 K2=>sty Y K2 s0 Y λw3 K3=>dn<|iT Y<|cB<|Lp (K3.rm s4) (λl0 rk mJ lJ wJ=>∃(k:Nat)(Gk:GC),lJ=(5,aI ((k:Nat):Int))::l0/\mJ=G.pl.m.aL.length - k/\k<=G.pl.m.aL.length/\(Gk.pl=xK kind ((G.pl.m.aL.map aR.ID).take k) G.pl)/\(Fine Gk.pl a (b9+k))/\Hp b S wJ (wN iI Gk::rk)) ⟨0,G,Y,Y,fE _,by rfl,by exact hF,((K3.mV 0 4).sel s4)⟩ rfl ?_
 rintro _ _ w4 ⟨k,Gk,rfl,rfl,hk,hGk,hFk,K4⟩;refine aY<|bQ Y<|j6 g1 0 lM K4 s1 Y<|ev (eX lq Y)<|ev (fD Y Y)<|dn<|bP Y (λnN=>?_) (λnN=>?_)
 ·replace nN:=iY nN;refine jy ?_;refine aY<|cB<|jC<|mv Y<|mv Y<|j6 g1 0 lM K4 s1 Y<|mv Y ?_
  obtain⟨x1,bN⟩:=bn (xs:=G.pl.m.aL) (i:=k) aj;refine ev (eP (i:=k) lq tC Y Y Y (aM bN) ((K4.s s2).some_ bN))<|ev (fQ mF Y (fV _ _ _))<|ev (kP jN Y ((K4.s s2).fJ (j:=0) bN Y))<|ev (jX (vs:=[(0,aI kind),(1,aI x1.ID)]) (cs:=[aI kind,aI x1.ID,aI 0,aI 0]) Y (by apply CY))<|gU rfl (E8 K4 (⟨kind,x1.ID,0,0⟩:AItem) (hFk.ok ha aj) (by simp [qC])) ?_
  rintro _ w5 ⟨agX,rfl,ai8,K5⟩;have hF2:Fine agX.pl a (b9+(k+1)):=by rw [ai8]; exact ak3 hFk hk9
  have hG2:agX.pl=xK kind ((G.pl.m.aL.map aR.ID).take (k+1)) G.pl:=by rw [fC (show(G.pl.m.aL.map aR.ID)[k]? = some x1.ID from by rw [rQ,bN]; rfl),anW,<- hGk]; exact ai8
  skip
  refine jD<|iw (gy ?_)
  refine jC<|mv Y<|ev (dP Y Y)<|jk Y<|jD<|dG ⟨(k+1),agX,Y,Y,aj,by exact hG2,by exact hF2,K5⟩ rfl aj
 replace nN:=jS nN;refine sP (mY (mY (um (qc (xV Y ?_)))));exact⟨Gk,Y,(by rw [hGk,gV (by rw [kF]; omega)]; rfl),(K4.cU 1 4)⟩
theorem anX{b w:World}{S:Nat->Prop}{F:List lG}{iI:Nat}{G:GC}{a b9:Nat}(H0:Hp b S w (wN iI G::F))(kind:Int)(hk9:kind=6∨kind=7)(hF:Fine G.pl a b9)(ha:a<=1000)(hb:b9<=10000) :
    bO prog 87 #[gI iI,aI kind] w λv w'=>∃(G1:GC),v=.tuple #[]/\G1.pl=Pm kind 500 G.pl/\Hp b S w' (wN iI G1::F):=by
 refine rU func87 ntmps87 Y<|iT Y<|cB<|Lp (H0.rm s0) (λl0 rk mJ lJ wJ=>∃(k:Nat)(Gk:GC),lJ=(4,aI ((k:Nat):Int))::l0/\mJ=500 - k/\k<=500/\(Pm kind (500 - k) Gk.pl=Pm kind 500 G.pl)/\(Fine Gk.pl a b9)/\Hp b S wJ (wN iI Gk::rk)) ⟨0,G,Y,Y,fE _,by rfl,by exact hF,H0⟩ rfl ?_
 rintro _ _ w1 ⟨k,Gk,rfl,rfl,hk,hGk,hFk,K1⟩;refine aY<|bQ Y<|ev (fD Y Y)<|mv Y ?_
 cases hb7:decide (((k:Nat):Int)<500) with
 | true=>
  refine bE Y (bq Y) Y<|oD Y Y Y Y aGA (ag1 K1 ) Y ?_
  rintro _ w2 ⟨rfl,K2⟩;have hk5:((k:Nat):Int)<500:=iY (by assumption)
  skip
  refine bE Y (sQ Y Y) Y<|ev (dM Y Y)<|dn<|bP Y (λy7=>?_) (λy7=>?_)
  ·replace y7:=iY y7;refine jy ?_;refine aY<|cB<|jC<|mv Y<|mv Y<|ev (jX (vs:=[(0,aI kind)]) (cs:=[aI kind,aI 0,aI 0,aI 0]) Y (by apply ahj))<|gU rfl (E8 K2 (⟨kind,0,0,0⟩:AItem) (hFk.ok ha hb) (by simp [qC])) ?_
   rintro _ w3 ⟨ZX,rfl,adN,K3⟩;have hF2:Fine ZX.pl a b9:=by rw [adN]; exact ahi hFk hk9
   have hG2:Pm kind (500 - (k+1)) ZX.pl=Pm kind 500 G.pl:=by rw [<- hGk,show 500 - k=(500 - (k+1))+1 by omega,aje aj,adN]
   skip
   refine jD<|iw (gy ?_)
   refine jC<|mv Y<|ev (dP Y Y)<|jk Y<|jD<|dG ⟨(k+1),ZX,Y,Y,aj,by exact hG2,by exact hF2,K3⟩ rfl aj
  replace y7:=jS y7;refine sP (mY (mY (um (qc (xV Y ?_)))));exact⟨Gk,Y,(by rw [<- hGk]; first | (rw [ak5 aj]) | (have h9:¬ ((k:Nat):Int)<500:=jS (by assumption); rw [show 500 - k=0 by omega]; rfl)),K2⟩
 | false=>
  refine dN<|dN<|dN<|ev (dS Y Y)<|dn<|bP Y nofun (λ_h=>?_)
  refine sP (mY (mY (um (qc (xV Y ?_)))));exact⟨Gk,Y,(by rw [<- hGk]; first | (rw [ak5 aj]) | (have h9:¬ ((k:Nat):Int)<500:=jS (by assumption); rw [show 500 - k=0 by omega]; rfl)),K1⟩
theorem ate{b w:World}{S:Nat->Prop}{F:List lG}{iI:Nat}{G:GC}{a b9:Nat}(H0:Hp b S w (wN iI G::F))(rounds:Nat)(hF:Fine G.pl a b9)(hn:rounds<=120)(ha:a<=200)(hb:b9<=5000) :
    bO prog 32 #[gI iI,aI ((rounds:Nat):Int)] w λv w'=>∃(G1:GC),v=.tuple #[]/\G1.pl=axZ rounds G.pl/\Hp b S w' (wN iI G1::F):=by
 refine rU func32 ntmps32 Y<|bQ Y<|gU Y (adX H0 10 au hF aj aj) ?_
 rintro _ w1 ⟨aKe,rfl,aGB,K1⟩;have hF0:Fine (xK 10 (zL G.pl) G.pl) a (b9+16):=(MG (.inr (.inr (.inr (.inl rfl)))) _ hF).mono (kJ _) (by have:=RJ hF; omega)
 skip
 refine dn<|iT Y<|cB<|Lp (K1.rm s0) (λl0 rk mJ lJ wJ=>∃(k:Nat)(Gk:GC),lJ=(4,aI ((k:Nat):Int))::l0/\mJ=rounds - k/\k<=rounds/\(Gk.pl=vZ k (xK 10 (zL G.pl) G.pl))/\(Fine Gk.pl (a+2*k) (b9+16+32*k))/\Hp b S wJ (wN iI Gk::rk)) ⟨0,aKe,Y,Y,fE _,by exact aGB,by rw [aGB]; exact hF0,K1⟩ rfl ?_
 rintro _ _ w2 ⟨k,Gk,rfl,rfl,hk,hGk,hFk,K2⟩;refine aY<|bQ Y<|mv Y<|ev (fD Y Y)<|dn<|bP Y (λFg=>?_) (λFg=>?_)
 ·replace Fg:=iY Fg;refine jy ?_;refine aY<|cB<|bQ Y<|ev (jX (vs:=[(0,aI 0),(1,aI 1)]) (cs:=[aI 0,aI 1,aI 0,aI 0]) Y (by apply CY))<|gU rfl (E8 K2 (⟨0,1,0,0⟩:AItem) (hFk.ok aj aj) (by simp [qC])) ?_
  rintro _ w3 ⟨ZX,rfl,adN,K3⟩;have aGC:ZX.pl=hlA (vZ k (xK 10 (zL G.pl) G.pl)):=by rw [adN]; rw [hGk]; rfl
  have aGD:=ajf (Pg hF0 k);rw [<- aGC] at aGD
  skip
  refine dn<|bQ Y<|gU Y (adX K3 3 au aGD aj aj) ?_
  rintro _ w4 ⟨awp,rfl,awq,K4⟩;have aGE:awp.pl=hlB (vZ k (xK 10 (zL G.pl) G.pl)):=by rw [awq]; rw [aGC]; rfl
  have aGF:=ajg (Pg hF0 k);rw [<- aGE] at aGF
  skip
  refine dn<|bQ Y<|gU Y (adX K4 4 au aGF aj aj) ?_
  rintro _ w5 ⟨agX,rfl,ai8,K5⟩;have aGG:agX.pl=J7 (vZ k (xK 10 (zL G.pl) G.pl)):=by rw [ai8]; rw [aGE]; rfl
  have aGH:=as9 (Pg hF0 k);rw [<- aGG] at aGH
  skip
  refine dn<|bQ Y<|ev (jX (vs:=[(0,aI 5)]) (cs:=[aI 5,aI 0,aI 0,aI 0]) Y (by apply ahj))<|gU rfl (E8 K5 (⟨5,0,0,0⟩:AItem) (aGH.ok aj aj) (by simp [qC])) ?_
  rintro _ w6 ⟨adO,rfl,agY,K6⟩;have aGI:adO.pl=hlD (vZ k (xK 10 (zL G.pl) G.pl)):=by rw [agY]; rw [aGG]; rfl
  have aGJ:=ata (Pg hF0 k);rw [<- aGI] at aGJ
  skip
  refine dn<|jC<|mv Y<|gU Y (anX K6 6 au aGJ aj aj) ?_
  rintro _ w7 ⟨asH,rfl,awr,K7⟩;have aGK:asH.pl=DZ (vZ k (xK 10 (zL G.pl) G.pl)):=by rw [awr]; rw [aGI]; rfl
  have aGL:=atb (Pg hF0 k);rw [<- aGK] at aGL
  skip
  refine jD<|iw (gy ?_)
  refine jC<|mv Y<|ev (dP Y Y)<|jk Y<|jD<|dG ⟨(k+1),asH,Y,Y,aj,by exact aGK,by exact aGL.mono aj aj,K7⟩ rfl aj
 replace Fg:=jS Fg;refine sP (mY (mY (um (qc (xV Y ?_)))));exact⟨Gk,Y,(by rw [hGk,show k=rounds by omega]; rfl),K2⟩
theorem anY{S0:Nat->Prop}(w:World)(m:dh){vP:ah}{vv:Nat}(BN:Sl bW S0 w vP vv m.aL){uT:ah}{ug:Nat}(G8:Sl bD S0 w uT ug m.aA){sw:ah}{rW:Nat}(OG:Sl dw S0 w sw rW m.aT)(r:ARules) :
    bO prog 31 #[.agg #[.slice vP m.aL.length vv,.slice uT m.aA.length ug,.slice sw m.aT.length rW],.agg #[aI r.kY,aI r.l7,aI r.All,aI r.jw,aI r.iD,aI r.eZ]] w λv w'=>v=.bool (rP m r)/\Hp w S0 w' []:=by
 refine lg S0 func31 ntmps31 Y λH0=>?_;have aMM:=BN.bC;have aMN:=G8.bC;have zG:=λk=>Wx (p:=fun(n:aR)=>decide (n.gq=0)) (l:=m.aL.take k)
 simp only [iF] at zG
 refine rg<|bx Y Y H0 λg1 w1 K1=>bx Y Y K1 λg2 w2 K2=>bX Y<|iT Y<|aY<|iT Y<|cB ?_
 have fT:(0:Int)=(((Dx (m.aL.take 0)):Nat):Int):=by rfl
 refine lF (t:=5) Y (aV (Value.int .i64) fT)<|Lp K2 (λl0 rk mJ lJ wJ=>∃(k:Nat),lJ=(5,aI (((Dx (m.aL.take k)):Nat):Int))::(6,aI ((k:Nat):Int))::l0/\mJ=m.aL.length - k/\k<=m.aL.length/\(Dx (m.aL.take k)<=k)/\(∀ y∈m.aL.take k,decide (y.lD=16)=true)/\Hp w S0 wJ rk) ⟨0,Y,Y,fE _,by simp [Dx],av,K2⟩ rfl ?_
 rintro _ _ w3 ⟨k,rfl,rfl,hk,hsv,hno,K3⟩;refine aY<|bQ Y<|j6 g1 0 lM K3 s1 Y<|ev (eX lq Y)<|ev (fD Y Y)<|dn<|bP Y (λy7=>?_) (λy7=>?_)
 ·replace y7:=iY y7;refine jy ?_;refine aY<|cB<|aY<|rg<|j6 g1 0 lM K3 s1 Y<|mv Y ?_
  obtain⟨x1,bN⟩:=bn (xs:=m.aL) (i:=k) aj;refine ev (eP (i:=k) lq tC Y Y Y (aM bN) ((K3.a BN).some_ bN))<|ev (fQ yE Y (fV _ _ _))<|ev (kP jN Y ((K3.a BN).fJ (j:=3) bN Y))<|ev (iM Y Y)<|dn<|bP Y (λlW=>?_) (λlW=>?_)
  ·replace lW:=iY lW;refine jC<|mv Y<|ev (dP Y Y)<|jk Y<|jD<|gy<|rg<|j6 g1 0 lM K3 s1 Y<|mv Y<|ev (eP (i:=k) lq tC Y Y Y (aM bN) ((K3.a BN).some_ bN))<|ev (fQ MW Y (fV _ _ _))<|ev (kP jN Y ((K3.a BN).fJ (j:=2) bN Y))<|ev (rY Y Y)<|dn<|bP Y (λhc29=>?_) (λhc29=>?_)
   ·replace hc29:=oO hc29;refine iT Y<|jf (iX (fO (fO (iX (fO (xV Y ?_))))))
    have gu:(false:Bool)=(rP m r):=by symm; unfold rP; rw [Bool.and_eq_false_iff]; left; rw [Iy]; exact⟨x1,bZ bN,by simp; assumption⟩
    exact⟨by rw [<- gu] <;> rfl,K3.z⟩
   replace hc29:=oP hc29;refine Ci ?_;refine jC<|mv Y<|ev (dP Y Y)<|jk Y<|jD ?_
   have kC:((((Dx (m.aL.take k))+1:Nat):Int):Int)=(((Dx (m.aL.take (k+1))):Nat):Int):=by unfold Dx; rw [fC bN,SS]; by_cases h9:x1.gq=0 <;> simp [h9] <;> omega
   refine jq (t:=5) Y (aV (Value.int .i64) kC)<|dG ⟨(k+1),Y,Y,aj,by unfold Dx; have h8:=zG (k+1); omega,by exact nY (q:=fun(y:aR)=>decide (y.lD=16)=true) hno bN (by simp_all),K3⟩ rfl aj
  replace lW:=jS lW;refine jy ?_;refine rg<|j6 g1 0 lM K3 s1 Y<|mv Y<|ev (eP (i:=k) lq tC Y Y Y (aM bN) ((K3.a BN).some_ bN))<|ev (fQ MW Y (fV _ _ _))<|ev (kP jN Y ((K3.a BN).fJ (j:=2) bN Y))<|ev (rY Y Y)<|dn<|bP Y (λhc29=>?_) (λhc29=>?_)
  ·replace hc29:=oO hc29;refine iT Y<|jf (iX (fO (fO (iX (fO (xV Y ?_))))))
   have nC:(false:Bool)=(rP m r):=by symm; unfold rP; rw [Bool.and_eq_false_iff]; left; rw [Iy]; exact⟨x1,bZ bN,by simp; assumption⟩
   exact⟨by rw [<- nC] <;> rfl,K3.z⟩
  replace hc29:=oP hc29;refine Ci ?_;refine jC<|mv Y<|ev (dP Y Y)<|jk Y<|jD ?_
  have rV:((((Dx (m.aL.take k)):Nat):Int):Int)=(((Dx (m.aL.take (k+1))):Nat):Int):=by unfold Dx; rw [fC bN,SS]; by_cases h9:x1.gq=0 <;> simp [h9] <;> omega
  refine jq (t:=5) Y (aV (Value.int .i64) rV)<|dG ⟨(k+1),Y,Y,aj,by unfold Dx; have h8:=zG (k+1); omega,by exact nY (q:=fun(y:aR)=>decide (y.lD=16)=true) hno bN (by simp_all),K3⟩ rfl aj
 replace y7:=jS y7;refine xq ?_;refine bQ Y<|j6 g2 3 FN K3 s0 Y<|ev (qD Y Y)<|mv Y ?_
 cases aGv:decide (r.jw<=(((Dx (m.aL.take k)):Nat):Int)) with
 | true=>
  refine wB g1 1 j4 K3 s1 Y<|bE Y (eX iV Y) Y<|bE Y (u7 Y Y) Y<|ev (dM Y Y)<|mv Y ?_
  cases aml:decide (((m.aA.length:Nat):Int)<=8) with
  | true=>
   refine wB g2 4 Qs K3 s0 Y<|bE Y (u7 Y Y) Y<|ev (dM Y Y)<|mv Y ?_
   cases ay3:decide (r.iD<=8) with
   | true=>
    refine wB g2 5 acf K3 s0 Y<|bE Y (iM Y Y) Y<|ev (dM Y Y)<|bX Y<|iP Y ?_
    have xW:(decide (r.eZ=16):Bool)=(rP m r):=by have hk9:m.aL.take k=m.aL:=gV aj; simp only [hk9] at *; unfold rP; rw [show m.aL.all (fun(n:aR)=>decide (n.lD=16))=true from by rw [ng]; exact hno]; first | (simp_all; done) | (simp_all; intros; omega)
    exact⟨by rw [xW] <;> rfl,K3.z⟩
   | false=>
    refine dN<|dN<|dN<|ev (dS Y Y)<|bX Y<|iP Y ?_
    have zX:(false:Bool)=(rP m r):=by have hk9:m.aL.take k=m.aL:=gV aj; simp only [hk9] at *; unfold rP; rw [show m.aL.all (fun(n:aR)=>decide (n.lD=16))=true from by rw [ng]; exact hno]; first | (simp_all; done) | (simp_all; intros; omega)
    exact⟨by rw [<- zX] <;> rfl,K3.z⟩
  | false=>
   refine dN<|dN<|dN<|ev (dS Y Y)<|mv Y<|dN<|dN<|dN<|ev (dS Y Y)<|bX Y<|iP Y ?_
   have hq8:(false:Bool)=(rP m r):=by have hk9:m.aL.take k=m.aL:=gV aj; simp only [hk9] at *; unfold rP; rw [show m.aL.all (fun(n:aR)=>decide (n.lD=16))=true from by rw [ng]; exact hno]; first | (simp_all; done) | (simp_all; intros; omega)
   exact⟨by rw [<- hq8] <;> rfl,K3.z⟩
 | false=>
  refine dN<|dN<|dN<|dN<|ev (dS Y Y)<|mv Y<|dN<|dN<|dN<|ev (dS Y Y)<|mv Y<|dN<|dN<|dN<|ev (dS Y Y)<|bX Y<|iP Y ?_
  have zG:(false:Bool)=(rP m r):=by have hk9:m.aL.take k=m.aL:=gV aj; simp only [hk9] at *; unfold rP; rw [show m.aL.all (fun(n:aR)=>decide (n.lD=16))=true from by rw [ng]; exact hno]; first | (simp_all; done) | (simp_all; intros; omega)
  exact⟨by rw [<- zG] <;> rfl,K3.z⟩
theorem atf{c:PC}{r:ARules}{x:aF}(hx:x∈c.m.aA)(h:vR c.m r x=false):Bd c r=false:=by
  unfold Bd; rw [show c.m.aA.all (vR c.m r)=false from by rw [Iy]; exact⟨x,hx,by rw [h]; decide⟩]; rfl
theorem dz9{n:Nat}:decide (((n:Nat):Int)=0)=decide (n=0):=decide_eq_decide.2 aj
theorem atg{b w:World}{S:Nat->Prop}{F:List lG}{iI:Nat}{G:GC}(H0:Hp b S w (wN iI G::F))(r:ARules)(hok:Ok G.pl) :
    bO prog 33 #[gI iI,.agg #[aI r.kY,aI r.l7,aI r.All,aI r.jw,aI r.iD,aI r.eZ]] w λv w'=>v=.bool (Bd G.pl r)/\Hp b S w' (wN iI G::F):=by
 refine rU func33 ntmps33 Y ?_;have hil:G.pl.m.aL.length<=16:=Ak (dV.1 hok.hm).1;refine rg<|bx Y Y H0 λg1 w1 K1=>bX Y<|bQ Y<|gU Y (RF ((K1.sel s0).sel s1) hok) ?_
 rintro _ w2 ⟨AP,AU,AX,AY,AZ,Ba,rfl,K2⟩;have UA:=(K2.s s0).bC;have aMO:=(K2.s s1).bC;have aMP:=(K2.s s2).bC;refine al yJ Y K2 λg2 w3 K3=>sty Y K3 s0 Y λw4 K4=>dn<|iT Y<|aY<|iT Y<|cB ?_
 have H1:=K4.nil dQ 3;have fT:(([]:List Int):List Int)=((G.pl.m.aL.take 0).map aR.ID):=by rfl
 refine lF (t:=6) Y (aV (λz=>Value.slice none (List.length z) 0) fT) ?_;have H2:=H1.nil dQ 3;have H3:=(fT▸H2:Hp b S w4 (aQ dQ 3 none 0 ((G.pl.m.aL.take 0).map aR.ID)::(aQ dQ 3 none 0 []::dW g2 45 [.slice AP G.pl.m.aL.length AU,.slice AX G.pl.m.aA.length AY,.slice AZ G.pl.m.aT.length Ba]::dH bW AP AU G.pl.m.aL::dH bD AX AY G.pl.m.aA::dH dw AZ Ba G.pl.m.aT::wN iI G::dW g1 23 [aI r.kY,aI r.l7,aI r.All,aI r.jw,aI r.iD,aI r.eZ]::F)));refine Lp (H3.cU 0 2) (λl0 rk mJ lJ wJ=>∃(ka:Nat)(A6:ah)(c6:Nat),lJ=(6,.slice A6 (((G.pl.m.aL.take ka).map aR.ID).length) c6)::(7,aI ((ka:Nat):Int))::l0/\mJ=G.pl.m.aL.length - ka/\ka<=G.pl.m.aL.length/\Hp b S wJ (aQ dQ 3 A6 c6 ((G.pl.m.aL.take ka).map aR.ID)::rk)) ⟨0,none,0,Y,Y,fE _,(H3.rm s1)⟩ Y ?_;rintro _ _ w5 ⟨ka,A6,c6,rfl,rfl,hka,K5⟩;refine aY<|bQ Y<|j6 g2 0 lM K5 s1 Y<|ev (eX lq Y)<|ev (fD Y Y)<|dn<|bP Y (λhc19=>?_) (λhc19=>?_)
 ·replace hc19:=iY hc19;refine jy ?_;refine aY<|cB<|jC<|mv Y<|j6 g2 0 lM K5 s1 Y<|mv Y ?_
  obtain⟨x1,bN⟩:=bn (xs:=G.pl.m.aL) (i:=ka) aj;refine ev (eP (i:=ka) lq tC Y Y Y (aM bN) ((K5.s s2).some_ bN))<|ev (fQ mF Y (fV _ _ _))<|ev (kP jN Y ((K5.s s2).fJ (j:=0) bN Y))<|Bh (τ:=dQ) (x:=x1.ID) Y (by intro _; apply pR) rfl K5 (λ_ _=>rfl) λg3 w6 K6=>ap (ys:=([x1.ID]:List Int)) K6 s1 rfl rfl (K6.o s0) fA KU (by first | omega | (simp; omega) | (simp; done)) av rfl λpU pV w7 K7=>jk rfl<|jD<|iw (gy ?_)
  refine jC<|mv Y<|ev (dP Y Y)<|jk Y<|jD ?_
  have gu:((((G.pl.m.aL.take ka).map aR.ID)++([x1.ID]:List Int)):List Int)=((G.pl.m.aL.take (ka+1)).map aR.ID):=by rw [fC bN,tu]; rfl
  refine jq (t:=6) Y (aV (λz=>Value.slice pU (List.length z) pV) gu) ?_;rw [gu] at K7;exact dG ⟨(ka+1),pU,pV,Y,Y,aj,(K7.rm s1)⟩ rfl aj
 replace hc19:=jS hc19;refine xq ?_;refine aY ?_;have kC:(((G.pl.m.aL.take ka).map aR.ID):List Int)=(G.pl.m.aL.map aR.ID):=(by rw [gV aj]);rw [kC] at K5;refine lF (t:=6) Y (aV (fun(z:List Int)=>Value.slice A6 z.length c6) kC)<|iT Y<|cB<|qZ (λmJ lJ wJ=>∃(k:Nat),lJ=[(0,gI iI),(3,gI g1),(5,gI g2),(6,.slice A6 ((G.pl.m.aL.map aR.ID).length) c6),(8,aI ((k:Nat):Int))]/\mJ=G.pl.m.aA.length - k/\k<=G.pl.m.aA.length/\(∀ y∈G.pl.m.aA.take k,vR G.pl.m r y=true)/\Hp b S wJ (aQ dQ 3 A6 c6 (G.pl.m.aL.map aR.ID)::dW g2 45 [.slice AP G.pl.m.aL.length AU,.slice AX G.pl.m.aA.length AY,.slice AZ G.pl.m.aT.length Ba]::dH bW AP AU G.pl.m.aL::dH bD AX AY G.pl.m.aA::dH dw AZ Ba G.pl.m.aT::wN iI G::dW g1 23 [aI r.kY,aI r.l7,aI r.All,aI r.jw,aI r.iD,aI r.eZ]::F)) ⟨0,Y,Y,fE _,av,K5⟩ rfl ?_
 rintro _ _ w8 ⟨k,rfl,rfl,hk,hno,K8⟩;refine aY<|bQ Y<|j6 g2 1 j4 K8 s1 Y<|ev (eX iV Y)<|ev (fD Y Y)<|dn<|bP Y (λGt=>?_) (λGt=>?_)
 ·replace Gt:=iY Gt;refine jy ?_;refine aY<|cB ?_
  obtain⟨x2,lN⟩:=bn (xs:=G.pl.m.aA) (i:=k) aj;refine He K8 (λ_ K=>K) (λl0 rk lJ wJ=>lJ=(62,.bool (!(vR G.pl.m r x2)))::l0/\Hp b S wJ rk) (λhns H4=>?_) ?_
  ·refine nJ 0 1 g2 1 j4 s1 Y H4<|lQ 2 Y Y H4<|l9 3 Y (λ_ hK=>eP (i:=k) iV qy Y Y Y (aM lN) ((hK.s s3).some_ lN)) H4<|l9 4 Y (λ_ _=>fQ kH Y (fV _ _ _)) H4<|nJ 7 8 g1 3 FN s6 Y H4<|O1 5 Y ?_
   obtain⟨B1,d1,zF,hi1⟩:=zW (H4.is s3 lN);have H5:=H4.push hi1;refine ev (kP Dp Y (zF 3 _ Y)) ?_;have k1:=(H5.rm s0);refine aO k1<|l9 6 Y (λ_ _=>eX fA Y) k1<|l9 9 Y (λ_ _=>rY Y Y) k1<|lQ 10 Y Y k1 ?_
   cases hb48:(!decide (((x2.aC.length:Nat):Int)=r.jw)) with
   | true=>
    have aGM:=oO hb48;refine MN 11 Y Y Y k1<|MN 12 Y Y Y k1<|MN 13 Y Y Y k1<|MN 14 Y Y Y k1<|MN 15 Y Y Y k1<|MN 16 Y Y Y k1<|MN 17 Y Y Y k1<|MN 18 Y Y Y k1<|MN 21 Y Y Y k1<|MN 22 Y Y Y k1<|O1 19 Y<|dN<|aO k1<|MN 20 Y Y Y k1<|MN 23 Y Y Y k1<|l9 24 Y (λ_ _=>dM Y Y) k1 ?_
    have nC:(true:Bool)=(!(vR G.pl.m r x2)):=by unfold vR; first | (rw [XM (show ¬ (((x2.aC.length:Nat):Int)=r.jw) from by assumption)]; rfl) | (rw [sO (show((x2.aC.length:Nat):Int)=r.jw from by assumption)]; rfl) | (rw [sO (show((x2.aC.length:Nat):Int)=r.jw from by assumption)]; simp; done)
    refine WH.re2 (t:=62) Y (aV Value.bool nC)<|Dn ⟨Y,(H5.rm s0)⟩ Y
   | false=>
    have aGM:=oP hb48;refine tgz 11 Y Y (λ_ _=>fQ (q:=⟨g2,1,none⟩) j4 Y Y) k1<|tgz 12 Y Y (λ_ hK=>eF ajK Y (hK.x s1) Y) k1<|tgz 13 Y Y (λ_ _=>bq Y) k1<|tgz 14 Y Y (λ_ hK=>eP (i:=k) iV qy Y Y Y (aM lN) ((hK.s s3).some_ lN)) k1<|tgz 16 Y Y (λ_ _=>fQ (q:=⟨g2,0,none⟩) lM Y Y) k1<|tgz 17 Y Y (λ_ hK=>eF aaq Y (hK.x s1) Y) k1<|tgz 18 Y Y (λ_ _=>bq Y) k1<|tgz 21 Y Y (λ_ _=>fQ (q:=⟨g1,3,none⟩) FN Y Y) k1<|tgz 22 Y Y (λ_ hK=>eF jN Y (hK.x s6) Y) k1<|O1 15 Y<|bE Y (iU (cs:=[aI x2.ID,aI x2.aB,gP x2.Sum,.slice B1 x2.aC.length d1]) pQ Y Y (FE zF)) Y<|aO k1<|O1 19 Y<|oD Y Y Y Y aCL (Ql _ x2 (H5.s s0).any (H5.s s3).any (H5.o s1) (lI ((uN (dV.1 hok.hm).2.1).2 _ (bZ lN)) au) aj) Y ?_
    rintro _ w9 ⟨aqk,aql,rfl,h9⟩;have K9:=H5.f1 h9;have aD9:=(K9.o s0).bC;have k2:=(K9.cU 0 2);refine aO k2<|tgz 20 Y Y (λ_ _=>eX fA Y) k2<|tgz 23 Y Y (λ_ _=>rY Y Y) k2<|l9 24 Y (λ_ _=>dS Y Y) k2 ?_
    have rV:((!decide ((((jg x2 G.pl.m.aL (G.pl.m.aL.map aR.ID)).length:Nat):Int)=r.jw)):Bool)=(!(vR G.pl.m r x2)):=by unfold vR; first | (rw [XM (show ¬ (((x2.aC.length:Nat):Int)=r.jw) from by assumption)]; rfl) | (rw [sO (show((x2.aC.length:Nat):Int)=r.jw from by assumption)]; rfl) | (rw [sO (show((x2.aC.length:Nat):Int)=r.jw from by assumption)]; simp; done)
    refine WH.re2 (t:=62) Y (aV Value.bool rV)<|Dn ⟨Y,(K9.cU 0 2)⟩ Y
  rintro _ Om ⟨rfl,K10⟩;refine bP Y (λaBa=>?_) (λaBa=>?_)
  ·try simp only [eT,dO,bK,eu,dZ,fI,bM,bV] at aBa
   refine iT Y<|jf (iX (fO (fO (iX (fO (xV Y ?_))))))
   have xW:(false:Bool)=(Bd G.pl r):=by symm; exact atf (bZ lN) (by assumption)
   exact⟨by rw [<- xW] <;> rfl,((K10.rm s6).cU 0 5)⟩
  try simp only [eT,dO,bK,eu,dZ,fI,bM,bV] at aBa
  refine Ci ?_;refine jC<|mv Y<|ev (dP Y Y)<|jk Y<|jD<|dG ⟨(k+1),Y,Y,aj,by exact nY (q:=fun(y:aF)=>vR G.pl.m r y=true) hno lN (by assumption),K10⟩ rfl aj
 replace Gt:=jS Gt;refine xq ?_;refine He K8 (λ_ K=>K) (λl0 rk lJ wJ=>∃(su:Nat)(pO:ah)(cj2:Nat)(wW:ah)(vV:Nat)(CQ:ah)(CS:Nat)(Aj5:ah)(cj5:Nat)(Aj6:ah)(cj6:Nat),lJ=(10,.slice Aj5 ((qb G.pl.m G.pl.s r G.pl.aJ).length) cj5)::(11,.slice Aj6 ((mX G.pl.m G.pl.s r G.pl.aJ).length) cj6)::l0/\Hp b S wJ (dW su 51 [.slice pO (((jr G.pl.m G.pl.s r G.pl.aJ).cZ).length) cj2,.slice wW (((jr G.pl.m G.pl.s r G.pl.aJ).bI).length) vV,.slice CQ (((jr G.pl.m G.pl.s r G.pl.aJ).bA).length) CS]::aQ iK 107 pO cj2 ((jr G.pl.m G.pl.s r G.pl.aJ).cZ)::aQ dz 117 wW vV ((jr G.pl.m G.pl.s r G.pl.aJ).bI)::aQ bg 112 CQ CS ((jr G.pl.m G.pl.s r G.pl.aJ).bA)::aQ bg 112 Aj5 cj5 (qb G.pl.m G.pl.s r G.pl.aJ)::aQ Ad 120 Aj6 cj6 (mX G.pl.m G.pl.s r G.pl.aJ)::rk)) (λhns H6=>?_) ?_
 ·refine l9 0 Y (λ_ hK=>fK yg Y Y (hK.x s1)) H6<|lQ 1 Y Y H6<|l9 3 Y (λ_ hK=>fK JZ Y Y (hK.x s6)) H6<|lQ 4 Y Y H6<|Jn H6 (λl0 rk lJ wJ=>∃(g4:Nat)(qo:ah)(qp:Nat)(uU:ah)(uV:Nat)(uW:ah)(uX:Nat)(YQ:ah)(YR:Nat)(YS:ah)(YT:Nat)(yM:ah)(yN:Nat)(yO:ah)(yP:Nat)(yQ:ah)(yR:Nat),lJ=(72,.slice YQ ((qb G.pl.m G.pl.s r G.pl.aJ).length) YR)::(73,.slice YS ((mX G.pl.m G.pl.s r G.pl.aJ).length) YT)::l0/\Hp b S wJ (dW g4 51 [.slice qo (((jr G.pl.m G.pl.s r G.pl.aJ).cZ).length) qp,.slice uU (((jr G.pl.m G.pl.s r G.pl.aJ).bI).length) uV,.slice uW (((jr G.pl.m G.pl.s r G.pl.aJ).bA).length) uX]::aQ iK 107 qo qp ((jr G.pl.m G.pl.s r G.pl.aJ).cZ)::aQ dz 117 uU uV ((jr G.pl.m G.pl.s r G.pl.aJ).bI)::aQ bg 112 uW uX ((jr G.pl.m G.pl.s r G.pl.aJ).bA)::aQ bg 112 YQ YR (qb G.pl.m G.pl.s r G.pl.aJ)::aQ Ad 120 YS YT (mX G.pl.m G.pl.s r G.pl.aJ)::aQ iK 107 yM yN G.pl.s.cZ::aQ dz 117 yO yP G.pl.s.bI::aQ bg 112 yQ yR G.pl.s.bA::rk)) 2 8191 ?_ λhS1=>?_
  ·rintro _ w23 ⟨g4,qo,qp,uU,uV,uW,uX,YQ,YR,YS,YT,yM,yN,yO,yP,yQ,yR,rfl,JU⟩;have k12:=(JU.cU 0 9);refine xL 13 Y Y k12<|xL 14 Y Y k12<|Dn ⟨g4,qo,qp,uU,uV,uW,uX,YQ,YR,YS,YT,Y,(JU.cU 6 3)⟩ Y
  refine Jn H6 (λl0 rk lJ wJ=>∃(g5:Nat)(yM:ah)(yN:Nat)(yO:ah)(yP:Nat)(yQ:ah)(yR:Nat),lJ=(9,gI g5)::(66,.agg #[.slice yM G.pl.s.cZ.length yN,.slice yO G.pl.s.bI.length yP,.slice yQ G.pl.s.bA.length yR])::(69,aI G.pl.aJ)::l0/\Hp b S wJ (dW g5 51 [.slice none 0 0,.slice none 0 0,.slice none 0 0]::aQ iK 107 yM yN G.pl.s.cZ::aQ dz 117 yO yP G.pl.s.bI::aQ bg 112 yQ yR G.pl.s.bA::rk)) 8 2111 ?_ λhS2=>?_
  ·rintro _ w24 ⟨g5,yM,yN,yO,yP,yQ,yR,rfl,pK⟩;refine O1 6 Y<|gU Y (QC _ G.pl.m (pK.s s6).any (pK.s s7).any (pK.s s8).any G.pl.s (pK.o s1) (pK.o s2) (pK.o s3) r G.pl.aJ hok.hb (lI hok.hl au) (lI hok.hd au) (lI hil au) (lI (uN (dV.1 hok.hm).2.1).1 au) (by have:=hok.hu; omega)) ?_
   rintro _ w25 ⟨V5,V6,V7,V8,V9,Wh,ak7,ak8,ak9,ala,rfl,h25⟩;have Ea:=pK.f5 h25;have azj:=(Ea.o s0).bC;have aKf:=(Ea.o s1).bC;have aKg:=(Ea.o s2).bC;have aKh:=(Ea.o s3).bC;have aKi:=(Ea.o s4).bC;have k13:=(Ea.cU 0 9);refine aO k13<|lQ 7 Y Y k13<|xU 8 Y (vs:=[.agg #[.slice V5 (((jr G.pl.m G.pl.s r G.pl.aJ).cZ).length) V6,.slice V7 (((jr G.pl.m G.pl.s r G.pl.aJ).bI).length) V8,.slice V9 (((jr G.pl.m G.pl.s r G.pl.aJ).bA).length) Wh],.slice ak7 ((qb G.pl.m G.pl.s r G.pl.aJ).length) ak8,.slice ak9 ((mX G.pl.m G.pl.s r G.pl.aJ).length) ala]) Y Y k13<|xU 9 Y (vs:=[.agg #[.slice V5 (((jr G.pl.m G.pl.s r G.pl.aJ).cZ).length) V6,.slice V7 (((jr G.pl.m G.pl.s r G.pl.aJ).bI).length) V8,.slice V9 (((jr G.pl.m G.pl.s r G.pl.aJ).bA).length) Wh],.slice ak7 ((qb G.pl.m G.pl.s r G.pl.aJ).length) ak8,.slice ak9 ((mX G.pl.m G.pl.s r G.pl.aJ).length) ala]) Y Y k13<|xU 10 Y (vs:=[.agg #[.slice V5 (((jr G.pl.m G.pl.s r G.pl.aJ).cZ).length) V6,.slice V7 (((jr G.pl.m G.pl.s r G.pl.aJ).bI).length) V8,.slice V9 (((jr G.pl.m G.pl.s r G.pl.aJ).bA).length) Wh],.slice ak7 ((qb G.pl.m G.pl.s r G.pl.aJ).length) ak8,.slice ak9 ((mX G.pl.m G.pl.s r G.pl.aJ).length) ala]) Y Y k13<|O1 12 Y<|sty Y Ea s5 Y λw26 NK=>?_
   have k14:=(NK.cU 0 9);exact Kj hS1 k14 ⟨g5,V5,V6,V7,V8,V9,Wh,ak7,ak8,ak9,ala,yM,yN,yO,yP,yQ,yR,Y,NK⟩ Y
  refine Jn H6 (λl0 rk lJ wJ=>∃(g6:Nat)(yM:ah)(yN:Nat)(yO:ah)(yP:Nat)(yQ:ah)(yR:Nat),lJ=(9,gI g6)::(66,.agg #[.slice yM G.pl.s.cZ.length yN,.slice yO G.pl.s.bI.length yP,.slice yQ G.pl.s.bA.length yR])::l0/\Hp b S wJ (dW g6 51 [.slice none 0 0,.slice none 0 0,.slice none 0 0]::aQ iK 107 yM yN G.pl.s.cZ::aQ dz 117 yO yP G.pl.s.bI::aQ bg 112 yQ yR G.pl.s.bA::rk)) 9 2079 ?_ λhS3=>?_
  ·rintro _ w27 ⟨g6,yM,yN,yO,yP,yQ,yR,rfl,Ou⟩;refine O1 5 Y<|gU Y (akS ((Ou.mV 0 9).sel s9) ) ?_
   rintro _ w28 ⟨rfl,GU⟩;have k15:=(((GU.cU 1 4).sel s0).mV 1 5);exact Kj hS2 k15 ⟨g6,yM,yN,yO,yP,yQ,yR,Y,((GU.sel s0).mV 1 9)⟩ Y
  refine O2 2 11 Y Y ?_ ?_
  ·refine gU Y (agV ((H6.mV 0 5).sel s5) hok) ?_;rintro _ w29 ⟨Jw,Jy,Jz,JA,JB,JD,rfl,Ii⟩;have asa:=(Ii.o s0).bC;have aAJ:=(Ii.o s1).bC;have aAK:=(Ii.o s2).bC;have k16:=(((Ii.cU 0 3).sel s0).mV 1 5);refine aO k16<|O2 5 11 Y Y ?_ ?_
   ·refine gU Y (akS ((Ii.mV 0 3).sel s3) ) ?_;rintro _ w30 ⟨rfl,Gz⟩;have k17:=(((Gz.cU 1 3).sel s0).mV 1 5);refine aO k17<|O2 6 11 Y Y ?_ ?_
    ·refine gU Y (QC _ G.pl.m (Gz.s s6).any (Gz.s s7).any (Gz.s s8).any G.pl.s (Gz.o s1) (Gz.o s2) (Gz.o s3) r G.pl.aJ hok.hb (lI hok.hl au) (lI hok.hd au) (lI hil au) (lI (uN (dV.1 hok.hm).2.1).1 au) (by have:=hok.hu; omega)) ?_;rintro _ w31 ⟨Wi,Wj,Wm,Wn,Wp,Wq,alb,alc,ald,ale,rfl,h31⟩;have NZ:=Gz.f5 h31;have aAN:=(NZ.o s0).bC;have aKj:=(NZ.o s1).bC;have aKk:=(NZ.o s2).bC;have aKl:=(NZ.o s3).bC;have aKm:=(NZ.o s4).bC;have k18:=((((NZ.cU 6 3).cU 0 5).sel s0).mV 1 5);refine aO k18<|lQ 7 Y Y k18<|xU 8 Y (vs:=[.agg #[.slice Wi (((jr G.pl.m G.pl.s r G.pl.aJ).cZ).length) Wj,.slice Wm (((jr G.pl.m G.pl.s r G.pl.aJ).bI).length) Wn,.slice Wp (((jr G.pl.m G.pl.s r G.pl.aJ).bA).length) Wq],.slice alb ((qb G.pl.m G.pl.s r G.pl.aJ).length) alc,.slice ald ((mX G.pl.m G.pl.s r G.pl.aJ).length) ale]) Y Y k18<|xU 9 Y (vs:=[.agg #[.slice Wi (((jr G.pl.m G.pl.s r G.pl.aJ).cZ).length) Wj,.slice Wm (((jr G.pl.m G.pl.s r G.pl.aJ).bI).length) Wn,.slice Wp (((jr G.pl.m G.pl.s r G.pl.aJ).bA).length) Wq],.slice alb ((qb G.pl.m G.pl.s r G.pl.aJ).length) alc,.slice ald ((mX G.pl.m G.pl.s r G.pl.aJ).length) ale]) Y Y k18<|xU 10 Y (vs:=[.agg #[.slice Wi (((jr G.pl.m G.pl.s r G.pl.aJ).cZ).length) Wj,.slice Wm (((jr G.pl.m G.pl.s r G.pl.aJ).bI).length) Wn,.slice Wp (((jr G.pl.m G.pl.s r G.pl.aJ).bA).length) Wq],.slice alb ((qb G.pl.m G.pl.s r G.pl.aJ).length) alc,.slice ald ((mX G.pl.m G.pl.s r G.pl.aJ).length) ale]) Y Y k18<|O1 11 Y<|al DL Y NZ λg8 w32 Ph=>?_
     have k19:=((((Ph.cU 7 3).cU 0 6).sel s0).mV 1 5);refine aO k19<|O1 12 Y<|sty Y Ph s0 Y λw33 Vo=>?_
     have k20:=((((Vo.cU 7 3).cU 0 6).sel s0).mV 1 5);exact Kj hS1 k20 ⟨g8,Wi,Wj,Wm,Wn,Wp,Wq,alb,alc,ald,ale,Jw,Jy,Jz,JA,JB,JD,Y,((Vo.sel s6).mV 1 14)⟩ Y
    ·refine al DL Y Gz λg9 w34 K34=>?_;have k21:=((((K34.cU 2 3).rm s0).sel s0).mV 1 5);exact Kj hS2 k21 ⟨g9,Jw,Jy,Jz,JA,JB,JD,Y,((K34.sel s1).mV 1 9)⟩ Y
   ·refine al DL Y Ii λg10 w35 K35=>?_;have k22:=(((K35.cU 0 4).sel s0).mV 1 5);exact Kj hS3 k22 ⟨g10,Jw,Jy,Jz,JA,JB,JD,Y,((K35.sel s4).mV 1 9)⟩ Y
  ·refine al DL Y H6 λg11 w36 ZF=>?_;have k23:=(ZF.rm s0);refine aO k23<|O1 2 Y<|gU Y (agV ((ZF.mV 0 6).sel s6) hok) ?_
   rintro _ w37 ⟨awC,awD,awE,awF,awG,awH,rfl,Vs⟩;have aKn:=(Vs.o s0).bC;have aKo:=(Vs.o s1).bC;have aKp:=(Vs.o s2).bC;have k24:=((((Vs.rm s4).cU 0 3).sel s0).mV 1 5);exact Kj hS3 k24 ⟨g11,awC,awD,awE,awF,awG,awH,Y,((((Vs.sel s3).mV 5 5).mV 6 3).sel s9)⟩ Y
 rintro _ w38 ⟨su,pO,cj2,wW,vV,CQ,CS,Aj5,cj5,Aj6,cj6,rfl,K38⟩;refine bQ Y<|gU Y (asT ((K38.mV 0 11).sel s11) hok) ?_
 rintro _ w39 ⟨rfl,ZH⟩;refine bX Y<|bQ Y<|mv Y ?_
 cases anZ:Fb G.pl with
 | true=>
  refine bE Y (bq Y) Y<|bE Y (eX lH Y) Y<|bE Y (iM Y Y) Y<|ev (dM Y Y)<|mv Y ?_
  cases aBb:decide ((((qb G.pl.m G.pl.s r G.pl.aJ).length:Nat):Int)=0) with
  | true=>
   refine bE Y (bq Y) Y<|bE Y (eX Lx Y) Y<|bE Y (iM Y Y) Y<|ev (dM Y Y)<|bX Y<|iP Y ?_
   have zX:(decide ((((mX G.pl.m G.pl.s r G.pl.aJ).length:Nat):Int)=0):Bool)=(Bd G.pl r):=by have ath:∀ y∈G.pl.m.aA,vR G.pl.m r y=true:=λy hy=>hno y (by rw [gV aj]; exact hy); unfold Bd; rw [show G.pl.m.aA.all (vR G.pl.m r)=true from List.all_eq_true.2 ath,<- dz9,<- dz9]; first | (rw [anZ,aBb]; rfl) | (rw [anZ]; rfl)
   exact⟨by rw [<- zX] <;> rfl,(ZH.cU 1 12)⟩
  | false=>
   refine dN<|dN<|dN<|ev (dS Y Y)<|bX Y<|iP Y ?_
   have hq8:(false:Bool)=(Bd G.pl r):=by have ath:∀ y∈G.pl.m.aA,vR G.pl.m r y=true:=λy hy=>hno y (by rw [gV aj]; exact hy); unfold Bd; rw [show G.pl.m.aA.all (vR G.pl.m r)=true from List.all_eq_true.2 ath,<- dz9,<- dz9]; first | (rw [anZ,aBb]; rfl) | (rw [anZ]; rfl)
   exact⟨by rw [<- hq8] <;> rfl,(ZH.cU 1 12)⟩
 | false=>
  refine dN<|dN<|dN<|ev (dS Y Y)<|mv Y<|dN<|dN<|dN<|ev (dS Y Y)<|bX Y<|iP Y ?_
  have zG:(false:Bool)=(Bd G.pl r):=by have ath:∀ y∈G.pl.m.aA,vR G.pl.m r y=true:=λy hy=>hno y (by rw [gV aj]; exact hy); unfold Bd; rw [show G.pl.m.aA.all (vR G.pl.m r)=true from List.all_eq_true.2 ath,<- dz9,<- dz9]; first | (rw [anZ,aBb]; rfl) | (rw [anZ]; rfl)
  exact⟨by rw [<- zG] <;> rfl,(ZH.cU 1 12)⟩
end
end Go.Proofs.YtlhnnmlenkahlaaGreat
