/- Lemmas. -/
import Derived.Test.YtlhnnmlenkahlaaGreatrG19
set_option linter.all false
set_option maxRecDepth 4000
namespace Go.Proofs.YtlhnnmlenkahlaaGreat
open Go.RowKit Go.Proofs.Tryz
def PE:=@List.nodup_cons
def Uc:=@List.map_congr_left
def adi:=@List.filter_cons_of_neg
def adk:=@List.filter_cons_of_pos
def Gz:=@List.map_map
def ML:=@List.mem_iff_getElem?
def PG:=@List.filter_sublist
def ajp:=@ChangeMaps.map_eraseIdx
def Ud:=@List.find?_some
def EC:=@underlying33
variable {ms:List MapEntry}{j g:Nat}{P:Program}{kt:TypeId}{ν:Type}{S0:Nat->Prop}{A_b:ah}{v:ν}
structure MN {κ:Type} [DecidableEq κ] (P:Program) (kt:TypeId) (ek:κ->Value):Prop where
  check:∀(w:World)(e:Bool)(a:κ),(Instr.checkKey e 10000 kt (ek a)).run P w=.ok () w
  find:∀(w:World)(a:κ)(ks:List κ)(l:List MapEntry),l.map MapEntry.key=ks.map ek->((Instr.findKey kt (ek a) l).run P w=.ok none w/\a∉ks)∨∃ j e,(Instr.findKey kt (ek a) l).run P w=.ok (some (j,e.val)) w/\l[j]? = some e/\ks[j]? = some a
  stays:∀(w:World)(a:κ),(Instr.keyThatStays (ek a) (ek a)).run P w=.ok (ek a) w
section
variable {κ ν:Type}[DecidableEq κ]
def fI(k:κ)(es:List (κ × ν)):Option ν:=(es.find? λp=>decide (p.1=k)).map (·.2)
def iy(k:κ)(v:ν)(es:List (κ × ν)):List (κ × ν):=if(fI k es).isSome=true then es.map (λp=>if p.1=k then(k,v) else p) else es++[(k,v)]
def oC(k:κ)(es:List (κ × ν)):List (κ × ν):=es.filter λp=>!decide (p.1=k)
theorem abh{k:κ}{es:List (κ × ν)}(h:k∉es.map Prod.fst):fI k es=none:=by
  unfold fI;rw [Ce.2 (λp hp=>by simp only [bO]; exact λe=>h (e▸gQ.2 ⟨p,hp,rfl⟩))]; rfl
theorem FT{k:κ}{v:ν}:∀ {es:List (κ × ν)} {j:Nat},(es.map Prod.fst).Nodup->es[j]? = some (k,v)->fI k es=some v
  | [],_,_,h=>by simp at h
  | p::es,0,_,h=>by simp at h; subst h; simp [fI]
  | p::es,j+1,hn,h=>by
    rw [nG,PE] at hn;have h':es[j]? = some (k,v):=by simpa using h
    have hne:p.1≠k:=λe=>hn.1 (e▸gQ.2 ⟨(k,v),xg h',rfl⟩);have:=FT hn.2 h';unfold fI at this ⊢;rw [vI (by simpa using hne)]; exact this
theorem adl{k:κ}{v v':ν}:∀ {es:List (κ × ν)} {j:Nat},(es.map Prod.fst).Nodup->es[j]? = some (k,v)->es.set j (k,v')=es.map (λp=>if p.1=k then(k,v') else p)
  | [],_,_,h=>by simp at h
  | p::es,0,hn,h=>by
    simp at h; subst h
    rw [nG,PE] at hn
    simp only [List.set_cons_zero,nG,if_true,List.cons.injEq,true_and]
    symm
    refine(Uc λp hp=>?_).trans (List.map_id _);rw [aK (fun(e:p.1=k)=>hn.1 (e▸gQ.2 ⟨p,hp,rfl⟩))]; rfl
  | p::es,j+1,hn,h=>by
    rw [nG,PE] at hn;have h':es[j]? = some (k,v):=by simpa using h
    have hne:p.1≠k:=λe=>hn.1 (e▸gQ.2 ⟨(k,v),xg h',rfl⟩);rw [List.set_cons_succ,nG,aK hne,adl hn.2 h']
theorem erase_filter{k:κ}{v:ν}:∀ {es:List (κ × ν)} {j:Nat},(es.map Prod.fst).Nodup->es[j]? = some (k,v)->es.eraseIdx j=oC k es
  | [],_,_,h=>by simp at h
  | p::es,0,hn,h=>by
    simp at h; subst h
    rw [nG,PE] at hn;unfold oC;rw [List.eraseIdx_cons_zero,adi av,Ep.2];intro p hp
    simp only [eG,bV]
    exact λe=>hn.1 (e▸gQ.2 ⟨p,hp,Y⟩)
  | p::es,j+1,hn,h=>by
    rw [nG,PE] at hn;have h':es[j]? = some (k,v):=by simpa using h
    have hne:p.1≠k:=λe=>hn.1 (e▸gQ.2 ⟨(k,v),xg h',rfl⟩);have:=erase_filter hn.2 h';unfold oC at this ⊢;rw [List.eraseIdx_cons_succ,adk (by simpa using hne),this]
theorem agB{k:κ}{es:List (κ × ν)}(h:k∉es.map Prod.fst):oC k es=es:=by
  unfold oC;refine Ep.2 λp hp=>?_
  simp only [eG,bV]
  exact λe=>h (e▸gQ.2 ⟨p,hp,Y⟩)
theorem MO{k:κ}{v:ν}{es:List (κ × ν)}(hn:(es.map Prod.fst).Nodup):((iy k v es).map Prod.fst).Nodup:=by
  unfold iy
  split
  · rw [Gz]
    have:es.map (Prod.fst ∘ λp=>if p.1=k then(k,v) else p)=es.map Prod.fst:=Uc λp _=>by
      simp only [Function.comp]; split
      · rename_i h; exact h.symm
      · rfl
    rw [this]; exact hn
  · rename_i h
    rw [qc,List.nodup_append];refine⟨hn,av,λa ha b hb=>?_⟩
    simp only [nG,wP,j4] at hb
    subst hb;intro e; subst e;obtain⟨p,hp,e⟩:=gQ.1 ha;obtain⟨j,hj⟩:=ML.1 hp;obtain⟨p1,p2⟩:=p
    simp only at e; subst e
    rw [FT hn hj] at h; exact h rfl
theorem Yz{k:κ}{es:List (κ × ν)}(hn:(es.map Prod.fst).Nodup):((oC k es).map Prod.fst).Nodup:=by
  unfold oC;exact hn.sublist (List.Sublist.map _ PG)
end
def qH{κ ν:Type}(ek:κ->Value)(ev:ν->Value)(g:Nat)(es:List (κ × ν)):lH where
  W:=λx=>x=g
  ok:=λ_ w=>(es.map Prod.fst).Nodup/\∃ ms FB,w.heap[g]? = some (.map ms FB)/\ms.toList.map (λe=>(e.key,e.val))=es.map λp=>(ek p.1,ev p.2)
  sub:=λ_ h=>h
  keep:=λhm ⟨hn,ms,FB,h,h2⟩=>⟨hn,ms,FB,(hm _ (.inl rfl) (vW.1 h).1).trans h,h2⟩
section
variable {κ ν:Type}[DecidableEq κ]{ek:κ->Value}{ev:ν->Value}{g:Nat}{es:List (κ × ν)}{P:Program}{n:Cx}{l:List (Nat × Value)}{b w:World}{S:Nat->Prop}{rs rest:List lH}{Q:Exit->Act->World->Prop}{K:Act->World->Prop}{dh:Array Oper}{os:List Oper}{ty:TypeId}{pos:String}{mI:Array Edge}{d:Nat}{t kt et:TypeId}{m ky vy:Operand}{z:κ}{v:ν}
theorem Hp.mp(H:Hp b S w rs)(s:pE rs (qH ek ev g es) rest):(es.map Prod.fst).Nodup/\∃ ms FB,w.heap[g]? = some (.map ms FB)/\ms.toList.map (λe=>(e.key,e.val))=es.map λp=>(ek p.1,ev p.2):=H.ok (qH ek ev g es) (s.perm.mem_iff.2 av)
theorem Hp.agC{es':List (κ × ν)}{ms:Array MapEntry}{FB:Nat}(H:Hp b S w rs)(s:pE rs (qH ek ev g es) rest)(hn:(es'.map Prod.fst).Nodup)(hm:ms.toList.map (λe=>(e.key,e.val))=es'.map λp=>(ek p.1,ev p.2)):Hp b S (w.putObj g (.map ms FB)) (qH ek ev g es'::rest):=by
  obtain⟨_,ms0,aM9,h0,_⟩:=H.mp s;exact(H.sel s).put (r':=qH ek ev g es') ⟨Y,Y,Y,av,λk hk hn=>World.putObj_heap_other hn,kV _⟩ (λg hg=>.inl hg) ⟨hn,ms,FB,World.putObj_heap_same (vW.1 h0).1,hm⟩
theorem adn(h:ms.map (λe=>(e.key,e.val))=es.map λp=>(ek p.1,ev p.2)):ms.map MapEntry.key=(es.map Prod.fst).map ek:=by
  have:=aR (List.map Prod.fst) h;rw [Gz,Gz] at this;rw [Gz]; exact this
theorem arA{e:MapEntry}{a:κ}(h:ms.map (λe=>(e.key,e.val))=es.map λp=>(ek p.1,ev p.2))(he:ms[j]? = some e)(ha:(es.map Prod.fst)[j]? = some a):∃ u,es[j]? = some (a,u)/\e.val=ev u/\e.key=ek a:=by
  have h1:=aR (λl=>l[j]?) h
  simp only [lK,he,Gh] at h1 ha
  cases h2:es[j]? with
  | none=>rw [h2] at ha; cases ha
  | some p=>
    rw [h2] at h1 ha
    simp only [Gh,XO,Prod.mk.injEq] at h1 ha
    exact⟨p.2,by rw [<- ha],h1.2,by rw [h1.1,ha]⟩
theorem mkA(ek:κ->Value)(ev:ν->Value)(H:Hp b S w rs)(k:∀ g w',Hp b S w' (qH ek ev g ([]:List (κ × ν))::rs)->WL P n dh Q K os ((d,.map (some g))::l) w')(hd:Nat.blt d n.size=true:=by rfl):WL P n dh Q K (⟨some d,.makeMap t none,ty,pos,mI,none⟩::os) l w:=
  DZ (v:=.map (some w.heap.size)) (λa _=>gH a) rfl hd (R:=λw2=>w2=w.alloc (.map #[] 0)) (λa ha=>⟨_,rfl,rfl⟩) λw2 e=>by
    subst e;exact k _ _ (H.new (r:=qH ek ev w.heap.size ([]:List (κ × ν))) (Ext.alloc w _) (λg hg=>by show _/\_; rw [show g=w.heap.size from hg]; simp) ⟨av,#[],0,World.alloc_heap_new w _,rfl⟩)
def lkO(ev:ν->Value)(z:Value):Option ν->Value
  | some v=>ev v
  | none=>z
theorem Ev.arB{zv:Value}(H:Hp b S w rs)(s:pE rs (qH ek ev g es) rest)(hk:MN P kt ek)(hm:P.underlying t=some (.map kt et))(hz:∀ w,(zeroValue et).run P w=.ok zv w)(hx:iG l m=some (.map (some g)))(hkey:iG l ky=some (ek z)):Ev P n l w (.lookup t m ky false) (lkO ev zv (fI z es)):=λo a w' ho ha ex=>by
  obtain⟨hn,ms,FB,h0,h1⟩:=H.mp s;have hb:w'.heap[g]? = some (.map ms FB):=(ex.block g (vW.1 h0).1).trans h0
  have hr:(Instr.lookup t (.map (some g)) (ek z) false).run P w'=.ok (lkO ev zv (fI z es)) w':=by
    rcases hk.find w' z (es.map Prod.fst) ms.toList (adn h1) with ⟨h2,h3⟩ | ⟨j,e,h2,h3,h4⟩
    · rw [abh h3]
      unfold Instr.lookup
      simp only [jF,kQ hm,jG,uM hb,hk.check,h2,kL,hz]
      rfl
    · obtain⟨u,h5,h6,_⟩:=arA h1 h3 h4
      rw [FT hn h5];unfold Instr.lookup
      simp only [jF,kQ hm,jG,uM hb,hk.check,h2,kL,h6]
      rfl
  unfold execOp; rw [ho]; simp [ha.eval hx,ha.eval hkey,hr]
theorem az3(H:Hp b S w rs)(s:pE rs (qH ek ev g es) rest)(hk:MN P kt ek)(hm:P.underlying t=some (.map kt et))(hx:iG l m=some (.map (some g)))(hkey:iG l ky=some (ek z))(hv:iG l vy=some (ev v))
    (k:∀ w',Hp b S w' (qH ek ev g (iy z v es)::rest)->WL P n dh Q K os l w'):WL P n dh Q K (⟨none,.mapUpdate t m ky vy,ty,pos,mI,none⟩::os) l w:=by
  obtain⟨hn,ms,FB,hb,h1⟩:=H.mp s
  rcases hk.find w z (es.map Prod.fst) ms.toList (adn h1) with ⟨h2,h3⟩ | ⟨j,e,h2,h3,h4⟩
  · refine Qf (λa _=>gH a) Y (R:=λw'=>w'=w.putObj g (.map (ms.push ⟨ek z,ev v,FB⟩) (FB+1))) (λa ha=>⟨_,?_,Y⟩) λw' e=>?_
    · have hr:(Instr.mapUpdate t (.map (some g)) (ek z) (ev v)).run P w=.ok () (w.putObj g (.map (ms.push ⟨ek z,ev v,FB⟩) (FB+1))):=by
        unfold Instr.mapUpdate
        simp only [jF,kQ hm,jG,uM hb,hk.check,h2,Gi _ hb]
        rfl
      unfold execOp; simp [ha.eval hx,ha.eval hkey,ha.eval hv,hr]
    · subst e
      refine k _ (H.agC s (MO hn) ?_);unfold iy;rw [abh h3,aK av,Array.toList_push,qc,qc,h1]; rfl
  · obtain⟨u,h5,h6,h7⟩:=arA h1 h3 h4
    have hj:ms[j]? = some e:=by simpa using h3
    refine Qf (λa _=>gH a) Y (R:=λw'=>w'=w.putObj g (.map (ms.modify j λe=>{ e with key:=ek z,val:=ev v }) FB)) (λa ha=>⟨_,?_,Y⟩) λw' e'=>?_
    · have hr:(Instr.mapUpdate t (.map (some g)) (ek z) (ev v)).run P w=.ok () (w.putObj g (.map (ms.modify j λe=>{ e with key:=ek z,val:=ev v }) FB)):=by
        unfold Instr.mapUpdate
        simp only [jF,kQ hm,jG,uM hb,hk.check,h2,hj,Gh,Option.getD_some,h7,hk.stays,Gi _ hb]
        rfl
      unfold execOp; simp [ha.eval hx,ha.eval hkey,ha.eval hv,hr]
    · subst e'
      refine k _ (H.agC s (MO hn) ?_);unfold iy;rw [FT hn h5,aO (show(some u).isSome=true from rfl),<- adl hn h5,Array.toList_modify,ChangeMaps.modify_eq_set _ _ _ _ h3,Gl,Gl,h1]
theorem az4(H:Hp b S w rs)(s:pE rs (qH ek ev g es) rest)(hk:MN P kt ek)(hm:P.underlying t=some (.map kt et))(hx:iG l m=some (.map (some g)))(hkey:iG l ky=some (ek z)){t2:TypeId}
    (k:∀ w',Hp b S w' (qH ek ev g (oC z es)::rest)->WL P n dh Q K os l w'):WL P n dh Q K (⟨none,.call ⟨.builtin .delete,#[m,ky],#[t,t2]⟩,ty,pos,mI,none⟩::os) l w:=by
  obtain⟨hn,ms,FB,hb,h1⟩:=H.mp s
  rcases hk.find w z (es.map Prod.fst) ms.toList (adn h1) with ⟨h2,h3⟩ | ⟨j,e,h2,h3,h4⟩
  · refine WL.az2 (v:=.tuple #[]) (λa _=>gH a) Y (R:=λw'=>w'=w.putObj g (.map ms FB)) (λa ha=>⟨_,?_,Y⟩) λw' e=>?_
    · have hr:(Builtin.delete_ #[t,t2] ty #[.map (some g),ek z]).run P w=.ok (.tuple #[]) (w.putObj g (.map ms FB)):=by
        simp [Builtin.delete_,kQ hm,uM hb,hk.check,h2,Gi _ hb,Result.andThen]; try rfl
      unfold execOp
      simp only [resolve,jF,kL,jG,invoke,builtin,tO,nG,wP,ha.eval hx,ha.eval hkey,hr]
    · subst e
      refine k _ (H.agC s (Yz hn) ?_);rw [agB h3]; exact h1
  · obtain⟨u,h5,h6,h7⟩:=arA h1 h3 h4
    refine WL.az2 (v:=.tuple #[]) (λa _=>gH a) Y (R:=λw'=>w'=w.putObj g (.map (ms.eraseIdxIfInBounds j) FB)) (λa ha=>⟨_,?_,Y⟩) λw' e'=>?_
    · have hr:(Builtin.delete_ #[t,t2] ty #[.map (some g),ek z]).run P w=.ok (.tuple #[]) (w.putObj g (.map (ms.eraseIdxIfInBounds j) FB)):=by
        simp [Builtin.delete_,kQ hm,uM hb,hk.check,h2,Gi _ hb,Result.andThen]; try rfl
      unfold execOp
      simp only [resolve,jF,kL,jG,invoke,builtin,tO,nG,wP,ha.eval hx,ha.eval hkey,hr]
    · subst e'
      refine k _ (H.agC s (Yz hn) ?_);have hjl:j<ms.size:=by simpa using aJ h3
      rw [<- erase_filter hn h5,Array.eraseIdxIfInBounds,dif_pos hjl,Array.toList_eraseIdx,ajp,h1,ajp]
theorem aHV(H:Hp b S w rs)(s:pE rs (qH ek ev g es) rest)(hm:P.underlying t=some (.map kt et))(hx:iG l m=some (.map (some g)))
    (k:∀ w',Hp b S w' (qH ek ev g ([]:List (κ × ν))::rest)->WL P n dh Q K os l w'):WL P n dh Q K (⟨none,.call ⟨.builtin .clear,#[m],#[t]⟩,ty,pos,mI,none⟩::os) l w:=by
  obtain⟨hn,ms,FB,hb,h1⟩:=H.mp s;refine WL.az2 (v:=.tuple #[]) (λa _=>gH a) Y (R:=λw'=>w'=w.putObj g (.map #[] FB)) (λa ha=>⟨_,?_,Y⟩) λw' e=>?_
  · have h2:(Builtin.clear_ #[t] ty #[.map (some g)]).run P w=.ok (.tuple #[]) (w.putObj g (.map #[] FB)):=by
      simp only [Builtin.clear_]
      simp [kQ hm,uM hb,Gi _ hb,Result.andThen]
      rfl
    unfold execOp
    simp only [resolve,jF,kL,jG,invoke,builtin,tO,nG,wP,ha.eval hx,h2]
  · subst e
    exact k _ (H.agC s av Y)
end
theorem avN(hk:P.underlying kt=some (.int .i64)):MN P kt (fun(z:Int)=>Value.int .i64 z) where
  check w e a:=KX (n:=9999) (k:=aF a) hk (by simp [MapKept.IsKey]) e
  stays w a:=ah5 (d:=.int .i64) (by simp [MapKept.IsKey])
  find w a ks l h:=by
    have hks:∀ x∈l,MapKept.IsKey (.int .i64) x.key:=λx hx=>by
      have:x.key∈l.map MapEntry.key:=gQ.2 ⟨x,hx,rfl⟩;rw [h] at this;obtain⟨z,_,e⟩:=gQ.1 this;rw [<- e]; simp [MapKept.IsKey]
    rcases WM (d:=.int .i64) (k:=aF a) (by simp [MapKept.IsKey]) l 0 hks with ⟨h1,h2⟩ | ⟨j,e,h1,h2,h3⟩
    · refine .inl ⟨Bn hk h1,λhm=>?_⟩
      have:(Value.int .i64 a)∈l.map MapEntry.key:=by rw [h]; exact gQ.2 ⟨a,hm,rfl⟩
      obtain⟨x,hx,e⟩:=gQ.1 this;exact h2 x hx e
    · refine .inr ⟨j,e,Bn hk (by simpa using h1),h2,?_⟩
      have h4:=aR (λq=>q[j]?) h
      simp only [lK,h2,Gh,h3] at h4
      cases h5:ks[j]? with
      | none=>rw [h5] at h4; cases h4
      | some b=>rw [h5] at h4; simp at h4; rw [h4]
theorem key_eq{κ:Type}[DecidableEq κ]{ek:κ->Value}{d:TypeDesc}(hk:P.underlying kt=some d)(hd:∀ a b,Instr.sameNow d a b=none)(hq:∀(a b:κ)(w:World),(Op.equal kt (ek a) (ek b)).run P w=.ok (decide (a=b)) w)
    (hc:∀(w:World)(e:Bool)(a:κ),(Instr.checkKey e 10000 kt (ek a)).run P w=.ok () w) (hs:∀ a,Instr.sameBits 10000 (ek a) (ek a)=true):MN P kt ek where
  check:=hc
  stays w a:=by unfold Instr.keyThatStays; rw [aO (hs a)]; rfl
  find w a ks l h:=by
    have aHW:∀(l:List MapEntry)(ks:List κ)(i:Nat),l.map MapEntry.key=ks.map ek->((Instr.findAsking kt (ek a) l i).run P w=.ok none w/\a∉ks)∨∃ j e,(Instr.findAsking kt (ek a) l i).run P w=.ok (some (i+j,e.val)) w/\l[j]? = some e/\ks[j]? = some a:=by
      intro l
      induction l with
      | nil=>
        intro ks i h
        cases ks with
        | nil=>exact .inl ⟨rfl,av⟩
        | cons _ _=>simp at h
      | cons e l ih=>
        intro ks i h
        cases ks with
        | nil=>simp at h
        | cons c ks=>
          simp only [nG,List.cons.injEq] at h
          by_cases hac:a=c
          · refine .inr ⟨0,e,?_,Y,by rw [hac]; rfl⟩
            unfold Instr.findAsking
            simp only [jF,h.1,hq,jG,F8 hac,if_true,Nat.add_zero]
            rfl
          · have hstep:(Instr.findAsking kt (ek a) (e::l) i).run P w=(Instr.findAsking kt (ek a) l (i+1)).run P w:=by
              conv=>lhs; unfold Instr.findAsking
              simp only [jF,h.1,hq,jG,decide_eq_false hac]
              rfl
            rcases ih ks (i+1) h.2 with ⟨h1,h2⟩ | ⟨j,e',h1,h2,h3⟩
            · exact .inl ⟨hstep.trans h1,by simp [hac,h2]⟩
            · exact .inr ⟨j+1,e',by rw [hstep,h1,show i+1+j=i+(j+1) from by omega],by simpa using h2,by simpa using h3⟩
    have hf:(Instr.findKey kt (ek a) l).run P w=(Instr.findAsking kt (ek a) l 0).run P w:=by
      unfold Instr.findKey
      simp only [jF,kQ hk,jG]
      cases l with
      | nil=>rfl
      | cons e l=>
        have:Instr.findNow d (ek a) (e::l) 0=none:=by unfold Instr.findNow; rw [hd]
        rw [this]
    rcases aHW l ks 0 h with ⟨h1,h2⟩ | ⟨j,e,h1,h2,h3⟩
    · exact .inl ⟨hf.trans h1,h2⟩
    · exact .inr ⟨j,e,by rw [hf,h1,J5],h2,h3⟩
theorem Ue{β:Type}{l:List β}{i:Nat}{x:β}(h:l[i]? = some x):l.set i x=l:=by
  obtain⟨hi,he⟩:=nP.1 h;rw [<- he]; exact List.set_getElem_self hi
section
variable {κ α:Type}[DecidableEq κ]{τ:Ty α}{e:TypeId}{b w:World}{S:Nat->Prop}{rs rest xM:List lH}{es:List (κ × (Option Addr × Nat × List α))}{k k2:κ}
theorem Hp.weak{r r':lH}(H:Hp b S w (r::rs))(hW:∀ g,r'.W g->r.W g)(hok:∀ {S':Nat->Prop},r.ok S' w->r'.ok S' w):Hp b S w (r'::rs):=
  H.put ⟨rfl,rfl,rfl,kV _,λ_ _ _=>rfl,kV _⟩ (λg h=>.inl (hW g h)) (hok (H.ok r av))
def gL(k:κ)(es:List (κ × (Option Addr × Nat × List α))):Option Addr × Nat × List α:=(fI k es).getD (none,0,[])
abbrev vK(r:Option Addr × Nat × List α):Value:=.slice r.1 r.2.2.length r.2.1
theorem az5(k:κ)(es:List (κ × (Option Addr × Nat × List α))):lkO vK (.slice none 0 0) (fI k es)=.slice (gL k es).1 (gL k es).2.2.length (gL k es).2.1:=by
  unfold gL; cases fI k es <;> rfl
theorem zw{es:List (κ × ν)}(h:fI k es=some v):∃ j:Nat,es[j]? = some (k,v):=by
  unfold fI at h
  cases hf:es.find? (λp=>decide (p.1=k)) with
  | none=>rw [hf] at h; cases h
  | some p=>
    rw [hf] at h;have h1:=Ud hf;obtain⟨j,hj⟩:=ML.1 (Gn hf);obtain⟨p1,p2⟩:=p
    simp only [bO] at h1
    cases h
    exact⟨j,by rw [hj,h1]⟩
theorem Hp.arC(H:Hp b S w rs)(s:pE rs (fZ τ e (es.map Prod.snd)) rest)(k:κ):Sl τ Any w (gL k es).1 (gL k es).2.1 (gL k es).2.2:=by
  cases h:fI k es with
  | none=>rw [show gL k es=(none,0,[]) from by unfold gL; rw [h]; rfl]; exact DV τ _ _
  | some r=>
    obtain⟨j,hj⟩:=zw h;have hx:(es.map Prod.snd)[j]? = some (r.1,r.2.1,r.2.2):=by rw [lK,hj]; rfl
    rw [show gL k es=r from by unfold gL; rw [h]; rfl];exact(H.BM s hx).o s0
theorem Hp.akO{L L':List (Option Addr × Nat × List α)}(H:Hp b S w rs)(s:pE rs (fZ τ e L) rest)(h:L'.Sublist L):Hp b S w (fZ τ e L'::rest):=
  Hp.weak (H.sel s) (λg ⟨r,hr,hg⟩=>⟨r,h.subset hr,hg⟩) (fun⟨h1,h2⟩=>⟨λr hr=>h1 r (h.subset hr),h2.sublist h⟩)
theorem Hp.akP(H:Hp b S w rs)(s:pE rs (fZ τ e (es.map Prod.snd)) rest)(k:κ):Hp b S w (fZ τ e ((oC k es).map Prod.snd)::rest):=H.akO s (List.Sublist.map _ PG)
theorem HY{ν:Type}{es:List (κ × ν)}{v v':ν}{j:Nat}(hn:(es.map Prod.fst).Nodup)(h:es[j]? = some (k,v)):iy k v' es=es.set j (k,v'):=by
  unfold iy;rw [FT hn h,aO (show(some v).isSome=true from rfl),adl hn h]
theorem Hp.ado{B:ah}{d:Nat}{xs:List α}(H:Hp b S w rs)(hn:(es.map Prod.fst).Nodup)(s:pE rs (aS τ e B d xs) rest)(s':pE rest (fZ τ e (es.map Prod.snd)) xM)(k:κ):Hp b S w (fZ τ e ((iy k (B,d,xs) es).map Prod.snd)::xM):=by
  cases h:fI k es with
  | none=>
    have:=H.Qk s s';unfold iy;rw [h,aK av,qc]; exact this
  | some r=>
    obtain⟨j,hj⟩:=zw h;have hx:(es.map Prod.snd)[j]? = some (r.1,r.2.1,r.2.2):=by rw [lK,hj]; rfl
    have H1:=(H.sel s).BM (.t s') hx;have H2:=H1.rm s0;have H3:=H2.Dk hx (.t .h) .h;rw [HY hn hj,Gl]; exact H3
theorem avO{es:List (κ × ν)}(h:k2≠k):oC k (iy k2 v es)=iy k2 v (oC k es):=by
  have hg:fI k2 (oC k es)=fI k2 es:=by
    unfold fI oC;rw [List.find?_filter]
    congr 1
    congr 1
    funext p
    by_cases hp:p.1=k2
    · simp [hp,h]
    · simp [hp]
  unfold iy;rw [hg]
  split
  · unfold oC
    rw [List.filter_map]
    have:(λp:κ × ν=>!decide (p.1=k)) ∘ (λp=>if p.1=k2 then(k2,v) else p)=λp=>!decide (p.1=k):=by
      funext p; simp only [Function.comp]; split
      · rename_i hp; rw [hp]
      · rfl
    rw [this]
  · unfold oC
    rw [vX]
    simp [h]
theorem YA{es:List (κ × ν)}(h:((iy k v es).map Prod.fst).Nodup):(es.map Prod.fst).Nodup:=by
  unfold iy at h
  split at h
  · rw [Gz] at h
    have:es.map (Prod.fst ∘ λp=>if p.1=k then(k,v) else p)=es.map Prod.fst:=Uc λp _=>by
      simp only [Function.comp]; split
      · rename_i h; exact h.symm
      · rfl
    rwa [this] at h
  · rw [qc,List.nodup_append] at h
    exact h.1
theorem Hp.arD(H:Hp b S w rs)(hn:(es.map Prod.fst).Nodup)(s:pE rs (fZ τ e (es.map Prod.snd)) rest)(h:k2≠k):Hp b S w (fZ τ e ((oC k (iy k2 (gL k es) es)).map Prod.snd)::rest):=by
  rw [avO h]
  cases hg:fI k es with
  | none=>
    have hk:k∉es.map Prod.fst:=λhm=>by
      obtain⟨p,hp,e⟩:=gQ.1 hm;obtain⟨j,hj⟩:=ML.1 hp;obtain⟨p1,p2⟩:=p
      simp only at e; subst e
      rw [FT hn hj] at hg; cases hg
    rw [show gL k es=(none,0,[]) from by unfold gL; rw [hg]; rfl,agB hk];exact((H.sel s).nil τ e).ado hn .h .h k2
  | some r=>
    obtain⟨j,hj⟩:=zw hg;have hx:(es.map Prod.snd)[j]? = some (r.1,r.2.1,r.2.2):=by rw [lK,hj]; rfl
    have H1:=H.BM s hx;rw [show(es.map Prod.snd).eraseIdx j=(oC k es).map Prod.snd from by rw [<- erase_filter hn hj,ajp]] at H1;rw [show gL k es=r from by unfold gL; rw [hg]; rfl];exact H1.ado (Yz hn) .h .h k2
theorem avP(h:(gL k es).2.2.length≠0):∃ j:Nat,es[j]? = some (k,gL k es):=by
  cases hg:fI k es with
  | none=>rw [show gL k es=(none,0,[]) from by unfold gL; rw [hg]; rfl] at h; exact absurd rfl h
  | some r=>
    obtain⟨j,hj⟩:=zw hg;exact⟨j,by rw [hj,show gL k es=r from by unfold gL; rw [hg]; rfl]⟩
theorem Hp.az6{r:Option Addr × Nat × List α}(H:Hp b S w rs)(s:pE rs (fZ τ e (es.map Prod.snd)) rest)(hj:es[j]? = some (k,r)):Hp b S w (aS τ e r.1 r.2.1 r.2.2::fZ τ e ((es.map Prod.snd).eraseIdx j)::rest):=
  H.BM s (by rw [lK,hj]; rfl)
theorem Hp.aDi{ek:κ->Value}{g j:Nat}{r:Option Addr × Nat × List α}{xs:List α}{axX:List lH}(H:Hp b S w rs)(hj:es[j]? = some (k,r))(hl:xs.length=r.2.2.length)(s:pE rs (aS τ e r.1 r.2.1 xs) rest)(s':pE rest (fZ τ e ((es.map Prod.snd).eraseIdx j)) xM)(s2:pE xM (qH ek vK g es) axX) :
    Hp b S w (qH ek vK g (iy k (r.1,r.2.1,xs) es)::fZ τ e ((iy k (r.1,r.2.1,xs) es).map Prod.snd)::axX):=by
  have hx:(es.map Prod.snd)[j]? = some r:=by rw [lK,hj]; rfl
  have H1:=H.Dk hx s s';have H2:=H1.sel (.t s2);have hn:=(H2.mp .h).1;rw [show(es.map Prod.snd).set j (r.1,r.2.1,xs)=(iy k (r.1,r.2.1,xs) es).map Prod.snd from by rw [HY hn hj,Gl]] at H2;refine H2.weak (λg h=>h) ?_;rintro S' ⟨h1,ms,FB,h2,h3⟩;refine⟨MO h1,ms,FB,h2,h3.trans ?_⟩;rw [HY h1 hj,Gl];have:(es.map λp=>(ek p.1,vK p.2))[j]? = some (ek k,vK (r.1,r.2.1,xs)):=by rw [lK,hj]; simp [hl]
  exact(Ue this).symm
theorem Ev.agD{n:Cx}{l:List (Nat × Value)}{ek:κ->Value}{t et:TypeId}{m ky:Operand}{z:κ}(H:Hp b S w rs)(s:pE rs (qH ek vK g es) rest)(hk:MN P kt ek)(hm:P.underlying t=some (.map kt et))(hz:∀ w,(zeroValue et).run P w=.ok (.slice none 0 0) w)(hx:iG l m=some (.map (some g)))(hkey:iG l ky=some (ek z)) :
    Ev P n l w (.lookup t m ky false) (.slice (gL z es).1 (gL z es).2.2.length (gL z es).2.1):=by
  rw [<- az5]; exact Ev.arB H s hk hm hz hx hkey
end
theorem arE(x:BitVec 8):∀ u∈[Value.int .u8 (x.toNat:Int)],u.oneCell'=true:=by intro u hu; simp only [iX,lM,sN] at hu; rw [hu]; rfl
def gV:Ty (BitVec 8):=Ty.flat 1 (λx=>[.int .u8 (x.toNat:Int)]) au (λ_=>rfl) arE
instance:Flat gV:=⟨λh=>h⟩
abbrev az7:List (BitVec 32):=[0x00000000,0x1db71064,0x3b6e20c8,0x26d930ac,0x76dc4190,0x6b6b51f4,0x4db26158,0x5005713c,0xedb88320,0xf00f9344,0xd6d6a3e8,0xcb61b38c,0x9b64c2b0,0x86d3d2d4,0xa00ae278,0xbdbdf21c]
def ED(i:Nat):BitVec 32:=az7.getD i 0
def RD(x:BitVec 32):BitVec 32:=ED (x&&& 15#32).toNat ^^^ (x >>> 4)
theorem HZ(x:BitVec 32):(x&&& 15#32).toNat<16:=by
  rw [BitVec.toNat_and];exact abM Nat.and_le_right au
def zH(x:BitVec 32)(b:BitVec 8):BitVec 32:=RD (RD (x ^^^ b.setWidth 32))
def RF(s:BitVec 32)(l:List (BitVec 8)):BitVec 32:= ~~~ (l.foldl zH (~~~ s))
def iM(l:List (BitVec 8)):BitVec 32:=RF 0#32 l
theorem agE:∀ {i:Nat},i<16->([gK 0,gK 498536548,gK 997073096,gK 651767980,gK 1994146192,gK 1802195444,gK 1303535960,gK 1342533948,gK 3988292384,gK 4027552580,gK 3604390888,gK 3412177804,gK 2607071920,gK 2262029012,gK 2685067896,gK 3183342108]:List Value)[i]? = some (gK ((ED i).toNat:Int))
  | 0,_=>rfl
  | 1,_=>rfl
  | 2,_=>rfl
  | 3,_=>rfl
  | 4,_=>rfl
  | 5,_=>rfl
  | 6,_=>rfl
  | 7,_=>rfl
  | 8,_=>rfl
  | 9,_=>rfl
  | 10,_=>rfl
  | 11,_=>rfl
  | 12,_=>rfl
  | 13,_=>rfl
  | 14,_=>rfl
  | 15,_=>rfl
  | _+16,h=>absurd h aj
theorem avQ{b:List (BitVec 8)}{i:Nat}{x:BitVec 8}(h:b[i]? = some x):b.getD i 0#8=x:=by rw [List.getD_eq_getElem?_getD,h]; rfl
theorem arF  : ∀ w,(Instr.buildSlice 33 0 (List.toArray [])).run prog w=.ok (.slice (some ⟨w.heap.size,0,none⟩) 0 0) (w.alloc (.cells (List.toArray []) 5)):=ay
theorem aHZ:lW prog 5 1 1:=by
  obtain⟨i,h1,h2,h3,h4⟩:=tX (show(prog.info? 5).map (λi=>(i.zero,i.size,i.bytes))=some (some (.int .u8 0),1,1) by kernel_rfl);exact⟨i,_,h1,h2,h3,h4,Y⟩
theorem YB:∀ w,(zeroValue 235).run prog w=.ok (.agg #[gK 0,gK 0,gK 0,gK 0,gK 0,gK 0,gK 0,gK 0,gK 0,gK 0,gK 0,gK 0,gK 0,gK 0,gK 0,gK 0]) w:=ay
theorem az8:Size prog 235 16:=ay
theorem arG:Agg prog 235 16:=⟨λ_=>by kernel_rfl,az8⟩
theorem avR:Size prog 5 1:=ay
theorem aDo:l9 prog 5:=ay
theorem adp:(prog.underlying 5).isSome=true/\prog.underlying 57=some (.int (prog.intKind 57))/\prog.intKind 57=.u32:=⟨ak,ak,ak⟩
theorem Jw(w:World){vY:ah}{uY:Nat}{s:List (BitVec 8)}(mP:Sl gV S0 w vY uY s)(hn:s.length<=1000000) :
    bS prog 119 #[.slice vY s.length uY] w λv w'=>∃(A0:ah)(c0:Nat),v=.slice A0 s.length c0/\Hp w S0 w' [aS gV 5 A0 c0 s]:=by
 refine kP S0 func119 ntmps119 Y λH0=>iZ Y<|aW<|bQ Y<|ev (Ov EC Y Y)<|dn<|bK Y (λhc4=>?_) (λhc4=>?_)
 ·refine iZ Y<|uX Y ?_
  have H1:=H0.nil gV 5;have eO:(([]:List (BitVec 8)):List (BitVec 8))=s:=by have h1:=mP.nil (by simpa using hc4); have h2:=mP.cap; exact(uE aj).symm
  have H2:=(eO▸H1:Hp w S0 w (aS gV 5 none 0 s::[]));exact⟨none,0,by rw [<- eO] <;> rfl,H2⟩
 refine jm ?_;refine rg<|bs0 (τ:=gV) (vs:=[]) Y (by intro _; apply arF) rfl H0 λg1 w1 K1=>mv rfl<|ap (ys:=s) K1 s0 rfl rfl (K1.a mP).any EC aHZ av (by first | omega | (simp; omega) | (simp; done)) rfl λoL oM w2 K2=>bU rfl<|jc rfl ?_
 have fQ:((([]:List (BitVec 8))++s):List (BitVec 8))=s:=by simp
 rw [fQ] at K2;exact⟨oL,oM,by rw [fQ] <;> rfl,K2⟩
instance Tk.b{α:Type}{n:Nat}{x y l xs r:List α}[h:Ap x y l][g:Tk (n+1) l xs r]:Tk (n+1) (x.append y) xs r:=⟨by rw [<- g.h]; exact h.h⟩
section
variable {P:Program}{n:Cx}{l:List (Nat × Value)}{w:World}{t e d ty:TypeId}{x y:Operand}{k:IntKind}{z:Int}
theorem Ev.az9(hs:(P.underlying t).isSome=true)(hd:P.underlying d=some (.int (P.intKind d)))(hk:P.intKind d=.u32)(hx:iG l x=some (.int k z))(hz:z=(z.toNat:Int)):Ev P n l w (.convert t d x) (gK ((BitVec.ofNat 32 z.toNat).toNat:Int)):=
  Ev.avM hs hd hk (hz▸hx)
theorem Ev.aH0{len:Nat}(hu:P.underlying t=some (.array len e))(hs:Size P e 1)(hx:iG l x=some (gD g))(hy:iG l y=some (.int k z))(hz:z=(z.toNat:Int))(hi:Nat.blt z.toNat len=true):Ev P n l w (.indexAddr t x y) (.pointer (some ⟨g,z.toNat,none⟩)):=
  Ev.az1 hu hs hx hy hz (by simpa [Nat.blt_eq] using hi)
end
theorem Hp.reC{b w:World}{S:Nat->Prop}{t:Nat}{cs ds:List Value}{F:List lH}(H:Hp b S w (dY g t cs::F))(h:cs=ds):Hp b S w (dY g t ds::F):=h▸H
theorem aAa(w:World)  :
    bS prog 197 #[] w λv w'=>v=.agg #[gK 0,gK 498536548,gK 997073096,gK 651767980,gK 1994146192,gK 1802195444,gK 1303535960,gK 1342533948,gK 3988292384,gK 4027552580,gK 3604390888,gK 3412177804,gK 2607071920,gK 2262029012,gK 2685067896,gK 3183342108]/\Hp w S0 w' []:=by
 refine kP S0 func197 ntmps197 Y λH0=>rg<|al YB Y H0 λg1 w1 K1=>dn<|rg<|al YB Y K1 λg2 w2 K=>dn<|aW<|bQ Y<|dn<|cB<|Rn 17 (RN.s ?_)
 iterate 16
  refine rg<|ev (fC Y Y)<|dn<|cT Y<|jm<|aW<|cB<|bQ Y<|bU Y<|bQ Y<|ev (Ev.az9 Dw.1 Dw.2.1 Dw.2.2 Y Y)<|bU Y<|aW<|bQ Y<|dn<|cB<|Rn 5 (RN.s ?_)
  iterate 4
   refine rg<|ev (fC Y Y)<|dn<|cT Y<|jm<|aW<|cB<|jy<|mv Y<|ev (Ev.arw (c:=1) Y Y au)<|mv Y<|ev (Ev.akN (b:=1#32) Y Y)<|ev (Ev.aDc Y)<|ev (Ev.akN (b:=3988292384#32) Y Y)<|ev (Ev.akM Y Y)<|iI Y<|jA<|iE (gG ?_)
   refine jy<|ev (Ev.add Y Y (wQ au au))<|mv Y<|jA<|l8.rnd (RN.s ?_)
  refine rg<|ev (fC Y Y)<|dn<|cF Y<|wE<|jy<|mv Y<|mv Y<|ev (Ev.aH0 underlying235 aj2 Y Y Y Y)<|xP Y K s0 Y λw K=>jA<|iE (gG ?_)
  refine jy<|ev (Ev.add Y Y (wQ au au))<|mv Y<|jA<|l8.rnd (RN.s ?_)
 refine rg<|ev (fC Y Y)<|dn<|cF Y<|wE ?_
 have K:=K.reC (ds:=[gK 0,gK 498536548,gK 997073096,gK 651767980,gK 1994146192,gK 1802195444,gK 1303535960,gK 1342533948,gK 3988292384,gK 4027552580,gK 3604390888,gK 3412177804,gK 2607071920,gK 2262029012,gK 2685067896,gK 3183342108]) ak;refine rg<|ev (dU arG Y Y (K.x s0))<|sty Y K s1 Y λw19 Cc=>dn<|jf (qA Y ⟨_,_,Y,⟨_,Y,jL (cs:=[gK 0,gK 498536548,gK 997073096,gK 651767980,gK 1994146192,gK 1802195444,gK 1303535960,gK 1342533948,gK 3988292384,gK 4027552580,gK 3604390888,gK 3412177804,gK 2607071920,gK 2262029012,gK 2685067896,gK 3183342108]) arG Y (Cc.x s0)⟩,Y⟩ ?_)
 exact⟨Y,Cc.z⟩
theorem avS(w:World)(sum:BitVec 32){c_b:Nat}{b:List (BitVec 8)}(h_b:Sl gV S0 w A_b c_b b) :
    bS prog 120 #[gK ((sum).toNat:Int),.slice A_b b.length c_b] w λv w'=>v=gK ((RF sum b).toNat:Int)/\Hp w S0 w' []:=by
 refine kP S0 func120 ntmps120 Y λH0=>?_;have aNb:=h_b.bH;refine iZ Y<|WP.jumps (lb:=0) (λmJ lJ wJ=>∃(k:Nat)(gt:Nat),lJ=[(1,.slice A_b b.length c_b),(5,gD gt),(6,gK ((((b.take k).foldl zH (~~~sum))).toNat:Int)),(7,aF ((k:Nat):Int))]/\mJ=b.length - k/\(k<=b.length)/\Hp w S0 wJ [dY gt 235 [gK 0,gK 498536548,gK 997073096,gK 651767980,gK 1994146192,gK 1802195444,gK 1303535960,gK 1342533948,gK 3988292384,gK 4027552580,gK 3604390888,gK 3412177804,gK 2607071920,gK 2262029012,gK 2685067896,gK 3183342108]]) Y ?_ ?_
 ·rintro _ _ w4 ⟨k,gt,rfl,rfl,hk,K4⟩;refine aW<|bQ Y<|mv Y<|ev (eU EC Y)<|ev (fC Y Y)<|dn<|mQ Y (λrM=>?_) (λrM=>?_)
  ·refine bQ Y<|mv Y<|mv Y ?_
   obtain⟨x1,bP⟩:=bC (xs:=b) (i:=k) aj;refine ev (cu (i:=k) EC avR Y Y Y (aJ bP) ((K4.a h_b).some_ bP))<|ev (iL aDo Y ((K4.a h_b).fF (j:=0) bP Y))<|ev (Ev.arx (a:=x1) adp.1 adp.2.1 adp.2.2 Y)<|ev (Ev.akM (a:=((b.take k).foldl zH (~~~sum))) (b:=(x1.setWidth 32)) Y Y)<|bU Y<|bQ Y<|ev (Ev.akN (a:=(((b.take k).foldl zH (~~~sum)) ^^^ (x1.setWidth 32))) (b:=15#32) Y Y)<|ev (Ev.az1 (i:=(((((b.take k).foldl zH (~~~sum)) ^^^ (x1.setWidth 32))&&& 15#32)).toNat) underlying235 aj2 Y Y Y (by exact HZ _))<|ev (dx Xh rfl (K4.x s0) (agE (HZ _)))<|mv rfl<|ev (Ev.arw (a:=(((b.take k).foldl zH (~~~sum)) ^^^ (x1.setWidth 32))) (c:=4) rfl rfl aj)<|ev (Ev.akM (a:=ED ((((((b.take k).foldl zH (~~~sum)) ^^^ (x1.setWidth 32))&&& 15#32)).toNat)) (b:=((((b.take k).foldl zH (~~~sum)) ^^^ (x1.setWidth 32)) >>> 4)) rfl rfl)<|bU rfl<|bQ rfl<|ev (Ev.akN (a:=(ED ((((((b.take k).foldl zH (~~~sum)) ^^^ (x1.setWidth 32))&&& 15#32)).toNat) ^^^ ((((b.take k).foldl zH (~~~sum)) ^^^ (x1.setWidth 32)) >>> 4))) (b:=15#32) rfl rfl)<|ev (Ev.az1 (i:=(((ED ((((((b.take k).foldl zH (~~~sum)) ^^^ (x1.setWidth 32))&&& 15#32)).toNat) ^^^ ((((b.take k).foldl zH (~~~sum)) ^^^ (x1.setWidth 32)) >>> 4))&&& 15#32)).toNat) underlying235 aj2 rfl rfl rfl (by exact HZ _))<|ev (dx Xh rfl (K4.x s0) (agE (HZ _)))<|mv rfl<|ev (Ev.arw (a:=(ED ((((((b.take k).foldl zH (~~~sum)) ^^^ (x1.setWidth 32))&&& 15#32)).toNat) ^^^ ((((b.take k).foldl zH (~~~sum)) ^^^ (x1.setWidth 32)) >>> 4))) (c:=4) rfl rfl aj)<|ev (Ev.akM (a:=ED ((((ED ((((((b.take k).foldl zH (~~~sum)) ^^^ (x1.setWidth 32))&&& 15#32)).toNat) ^^^ ((((b.take k).foldl zH (~~~sum)) ^^^ (x1.setWidth 32)) >>> 4))&&& 15#32)).toNat)) (b:=((ED ((((((b.take k).foldl zH (~~~sum)) ^^^ (x1.setWidth 32))&&& 15#32)).toNat) ^^^ ((((b.take k).foldl zH (~~~sum)) ^^^ (x1.setWidth 32)) >>> 4)) >>> 4)) rfl rfl)<|bU rfl<|bQ rfl<|ev (dO rfl rfl)<|bU rfl ?_
   refine WP.goto (l8.aaw ?_);have fQ:((((ED ((((ED ((((((b.take k).foldl zH (~~~sum)) ^^^ (x1.setWidth 32))&&& 15#32)).toNat) ^^^ ((((b.take k).foldl zH (~~~sum)) ^^^ (x1.setWidth 32)) >>> 4))&&& 15#32)).toNat) ^^^ ((ED ((((((b.take k).foldl zH (~~~sum)) ^^^ (x1.setWidth 32))&&& 15#32)).toNat) ^^^ ((((b.take k).foldl zH (~~~sum)) ^^^ (x1.setWidth 32)) >>> 4)) >>> 4))).toNat:Int):Int)=((((b.take (k+1)).foldl zH (~~~sum))).toNat:Int):=by rw [fD bP,yU]; rfl
   refine jq (t:=6) Y (aR (Value.int .u32) fQ)<|l8.jag ⟨(k+1),gt,Y,Y,aj,K4⟩ rfl aj
  refine jm ?_;refine bQ Y<|ev (Ev.axV (a:=((b.take k).foldl zH (~~~sum))) Y)<|bU Y<|jf (l8.Wu (zA Y ?_))
  have jW:((((~~~((b.take k).foldl zH (~~~sum)))).toNat:Int):Int)=((RF sum b).toNat:Int):=by rw [iH aj]; rfl
  exact⟨by rw [jW] <;> rfl,(K4.rm s0)⟩
 ·intro hp0;refine rg<|mU H0 Y (aAa (S0:=Any) _) λw1 K1=>al YB Y K1 λg1 w2 K2=>sty Y K2 s0 Y λw3 K3=>dn<|bQ Y<|ev (Ev.axV (a:=sum) Y)<|bU Y<|iZ Y ?_
  have eO:((((~~~sum)).toNat:Int):Int)=((((b.take 0).foldl zH (~~~sum))).toNat:Int):=by rfl
  refine lC (t:=6) Y (aR (Value.int .u32) eO)<|WP.kp hp0 ⟨0,g1,Y,Y,by exact fJ _,K3⟩ rfl
theorem YC(w:World){c_b:Nat}{b:List (BitVec 8)}(h_b:Sl gV S0 w A_b c_b b) :
    bS prog 55 #[.slice A_b b.length c_b] w λv w'=>v=gK ((iM b).toNat:Int)/\Hp w S0 w' []:=by
 refine kP S0 func55 ntmps55 Y λH0=>iZ Y<|bQ Y<|mU H0 Y (avS _ (0#32) (H0.a h_b).any) λw1 K1=>bU Y<|jc Y ?_
 have eO:(((RF (0#32) b).toNat:Int):Int)=((iM b).toNat:Int):=by rfl
 exact⟨by rw [eO] <;> rfl,K1⟩
end Go.Proofs.YtlhnnmlenkahlaaGreat
