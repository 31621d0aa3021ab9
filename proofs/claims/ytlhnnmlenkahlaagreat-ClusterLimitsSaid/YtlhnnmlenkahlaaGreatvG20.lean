/- Lemmas. -/
import Derived.Test.YtlhnnmlenkahlaaGreatvG19
set_option linter.all false
set_option maxRecDepth 4000
namespace Go.Proofs.YtlhnnmlenkahlaaGreat
open Go.RowKit Go.Proofs.Tryz
def M4:=@List.nodup_cons
def Q8:=@List.map_congr_left
def agw:=@List.filter_cons_of_neg
def agx:=@List.filter_cons_of_pos
def GU:=@List.map_map
def JQ:=@List.mem_iff_getElem?
def V5:=@List.filter_sublist
def agy:=@ChangeMaps.map_eraseIdx
def GV:=@underlying33
variable {ms:List MapEntry}{j g:Nat}{P:Program}{kt:TypeId}{ν:Type}{S0:Nat->Prop}{A_b:ah}{v:ν}
structure JR {κ:Type} [DecidableEq κ] (P:Program) (kt:TypeId) (ek:κ->Value):Prop where
  check:∀(w:World)(e:Bool)(a:κ),(Instr.checkKey e 10000 kt (ek a)).run P w=.ok () w
  find:∀(w:World)(a:κ)(ks:List κ)(l:List MapEntry),l.map MapEntry.key=ks.map ek->((Instr.findKey kt (ek a) l).run P w=.ok none w/\a∉ks)∨∃ j e,(Instr.findKey kt (ek a) l).run P w=.ok (some (j,e.val)) w/\l[j]? = some e/\ks[j]? = some a
  stays:∀(w:World)(a:κ),(Instr.keyThatStays (ek a) (ek a)).run P w=.ok (ek a) w
section
variable {κ ν:Type}[DecidableEq κ]
def fH(k:κ)(es:List (κ × ν)):Option ν:=(es.find? λp=>decide (p.1=k)).map (·.2)
def gV(k:κ)(v:ν)(es:List (κ × ν)):List (κ × ν):=if(fH k es).isSome=true then es.map (λp=>if p.1=k then(k,v) else p) else es++[(k,v)]
def nH(k:κ)(es:List (κ × ν)):List (κ × ν):=es.filter λp=>!decide (p.1=k)
theorem YJ{k:κ}{es:List (κ × ν)}(h:k∉es.map Prod.fst):fH k es=none:=by
  unfold fH;rw [Af.2 (λp hp=>by simp only [bL]; exact λe=>h (e▸jI.2 ⟨p,hp,rfl⟩))]; rfl
theorem Ef{k:κ}{v:ν}:∀ {es:List (κ × ν)} {j:Nat},(es.map Prod.fst).Nodup->es[j]? = some (k,v)->fH k es=some v
  | [],_,_,h=>by simp at h
  | p::es,0,_,h=>by simp at h; subst h; simp [fH]
  | p::es,j+1,hn,h=>by
    rw [mO,M4] at hn;have h':es[j]? = some (k,v):=by simpa using h
    have hne:p.1≠k:=λe=>hn.1 (e▸jI.2 ⟨(k,v),xk h',rfl⟩);have:=Ef hn.2 h';unfold fH at this ⊢;rw [u6 (by simpa using hne)]; exact this
theorem aaC{k:κ}{v v':ν}:∀ {es:List (κ × ν)} {j:Nat},(es.map Prod.fst).Nodup->es[j]? = some (k,v)->es.set j (k,v')=es.map (λp=>if p.1=k then(k,v') else p)
  | [],_,_,h=>by simp at h
  | p::es,0,hn,h=>by
    simp at h; subst h
    rw [mO,M4] at hn
    simp only [List.set_cons_zero,mO,if_true,List.cons.injEq,true_and]
    symm
    refine(Q8 λp hp=>?_).trans (List.map_id _);rw [aK (fun(e:p.1=k)=>hn.1 (e▸jI.2 ⟨p,hp,rfl⟩))]; rfl
  | p::es,j+1,hn,h=>by
    rw [mO,M4] at hn;have h':es[j]? = some (k,v):=by simpa using h
    have hne:p.1≠k:=λe=>hn.1 (e▸jI.2 ⟨(k,v),xk h',rfl⟩);rw [List.set_cons_succ,mO,aK hne,aaC hn.2 h']
theorem erase_filter{k:κ}{v:ν}:∀ {es:List (κ × ν)} {j:Nat},(es.map Prod.fst).Nodup->es[j]? = some (k,v)->es.eraseIdx j=nH k es
  | [],_,_,h=>by simp at h
  | p::es,0,hn,h=>by
    simp at h; subst h
    rw [mO,M4] at hn;unfold nH;rw [List.eraseIdx_cons_zero,agw av,MC.2];intro p hp
    simp only [eu,bU]
    exact λe=>hn.1 (e▸jI.2 ⟨p,hp,Y⟩)
  | p::es,j+1,hn,h=>by
    rw [mO,M4] at hn;have h':es[j]? = some (k,v):=by simpa using h
    have hne:p.1≠k:=λe=>hn.1 (e▸jI.2 ⟨(k,v),xk h',rfl⟩);have:=erase_filter hn.2 h';unfold nH at this ⊢;rw [List.eraseIdx_cons_succ,agx (by simpa using hne),this]
theorem adU{k:κ}{es:List (κ × ν)}(h:k∉es.map Prod.fst):nH k es=es:=by
  unfold nH;refine MC.2 λp hp=>?_
  simp only [eu,bU]
  exact λe=>h (e▸jI.2 ⟨p,hp,Y⟩)
theorem JU{k:κ}{v:ν}{es:List (κ × ν)}(hn:(es.map Prod.fst).Nodup):((gV k v es).map Prod.fst).Nodup:=by
  unfold gV
  split
  · rw [GU]
    have:es.map (Prod.fst ∘ λp=>if p.1=k then(k,v) else p)=es.map Prod.fst:=Q8 λp _=>by
      simp only [Function.comp]; split
      · rename_i h; exact h.symm
      · rfl
    rw [this]; exact hn
  · rename_i h
    rw [pR,List.nodup_append];refine⟨hn,av,λa ha b hb=>?_⟩
    simp only [mO,vL,nL] at hb
    subst hb;intro e; subst e;obtain⟨p,hp,e⟩:=jI.1 ha;obtain⟨j,hj⟩:=JQ.1 hp;obtain⟨p1,p2⟩:=p
    simp only at e; subst e
    rw [Ef hn hj] at h; exact h rfl
theorem V6{k:κ}{es:List (κ × ν)}(hn:(es.map Prod.fst).Nodup):((nH k es).map Prod.fst).Nodup:=by
  unfold nH;exact hn.sublist (List.Sublist.map _ V5)
end
def pz{κ ν:Type}(ek:κ->Value)(ev:ν->Value)(g:Nat)(es:List (κ × ν)):lC where
  W:=λx=>x=g
  ok:=λ_ w=>(es.map Prod.fst).Nodup/\∃ ms DU,w.heap[g]? = some (.map ms DU)/\ms.toList.map (λe=>(e.key,e.val))=es.map λp=>(ek p.1,ev p.2)
  sub:=λ_ h=>h
  keep:=λhm ⟨hn,ms,DU,h,h2⟩=>⟨hn,ms,DU,(hm _ (.inl rfl) (uZ.1 h).1).trans h,h2⟩
section
variable {κ ν:Type}[DecidableEq κ]{ek:κ->Value}{ev:ν->Value}{g:Nat}{es:List (κ × ν)}{P:Program}{n:Cx}{l:List (Nat × Value)}{b w:World}{S:Nat->Prop}{rs rest:List lC}{Q:Exit->Act->World->Prop}{K:Act->World->Prop}{bT:Array Oper}{os:List Oper}{ty:TypeId}{pos:String}{lD:Array Edge}{d:Nat}{t kt et:TypeId}{m ky vy:Operand}{z:κ}{v:ν}
theorem Hp.mp(H:Hp b S w rs)(s:ou rs (pz ek ev g es) rest):(es.map Prod.fst).Nodup/\∃ ms DU,w.heap[g]? = some (.map ms DU)/\ms.toList.map (λe=>(e.key,e.val))=es.map λp=>(ek p.1,ev p.2):=H.ok (pz ek ev g es) (s.perm.mem_iff.2 av)
theorem Hp.adV{es':List (κ × ν)}{ms:Array MapEntry}{DU:Nat}(H:Hp b S w rs)(s:ou rs (pz ek ev g es) rest)(hn:(es'.map Prod.fst).Nodup)(hm:ms.toList.map (λe=>(e.key,e.val))=es'.map λp=>(ek p.1,ev p.2)):Hp b S (w.putObj g (.map ms DU)) (pz ek ev g es'::rest):=by
  obtain⟨_,ms0,aID,h0,_⟩:=H.mp s;exact(H.sel s).put (r':=pz ek ev g es') ⟨Y,Y,Y,av,λk hk hn=>World.putObj_heap_other hn,kH _⟩ (λg hg=>.inl hg) ⟨hn,ms,DU,World.putObj_heap_same (uZ.1 h0).1,hm⟩
theorem aaD(h:ms.map (λe=>(e.key,e.val))=es.map λp=>(ek p.1,ev p.2)):ms.map MapEntry.key=(es.map Prod.fst).map ek:=by
  have:=aS (List.map Prod.fst) h;rw [GU,GU] at this;rw [GU]; exact this
theorem anT{e:MapEntry}{a:κ}(h:ms.map (λe=>(e.key,e.val))=es.map λp=>(ek p.1,ev p.2))(he:ms[j]? = some e)(ha:(es.map Prod.fst)[j]? = some a):∃ u,es[j]? = some (a,u)/\e.val=ev u/\e.key=ek a:=by
  have h1:=aS (λl=>l[j]?) h
  simp only [kI,he,FW] at h1 ha
  cases h2:es[j]? with
  | none=>rw [h2] at ha; cases ha
  | some p=>
    rw [h2] at h1 ha
    simp only [FW,ZL,Prod.mk.injEq] at h1 ha
    exact⟨p.2,by rw [<- ha],h1.2,by rw [h1.1,ha]⟩
theorem mkA(ek:κ->Value)(ev:ν->Value)(H:Hp b S w rs)(k:∀ g w',Hp b S w' (pz ek ev g ([]:List (κ × ν))::rs)->WL P n bT Q K os ((d,.map (some g))::l) w')(hd:Nat.blt d n.size=true:=by rfl):WL P n bT Q K (⟨some d,.makeMap t none,ty,pos,lD,none⟩::os) l w:=
  Ci (v:=.map (some w.heap.size)) (λa _=>fM a) rfl hd (R:=λw2=>w2=w.alloc (.map #[] 0)) (λa ha=>⟨_,rfl,rfl⟩) λw2 e=>by
    subst e;exact k _ _ (H.new (r:=pz ek ev w.heap.size ([]:List (κ × ν))) (Ext.alloc w _) (λg hg=>by show _/\_; rw [show g=w.heap.size from hg]; simp) ⟨av,#[],0,World.alloc_heap_new w _,rfl⟩)
def lkO(ev:ν->Value)(z:Value):Option ν->Value
  | some v=>ev v
  | none=>z
theorem Ev.anU{zv:Value}(H:Hp b S w rs)(s:ou rs (pz ek ev g es) rest)(hk:JR P kt ek)(hm:P.underlying t=some (.map kt et))(hz:∀ w,(zeroValue et).run P w=.ok zv w)(hx:gQ l m=some (.map (some g)))(hkey:gQ l ky=some (ek z)):Ev P n l w (.lookup t m ky false) (lkO ev zv (fH z es)):=λo a w' ho ha ex=>by
  obtain⟨hn,ms,DU,h0,h1⟩:=H.mp s;have hb:w'.heap[g]? = some (.map ms DU):=(ex.block g (uZ.1 h0).1).trans h0
  have hr:(Instr.lookup t (.map (some g)) (ek z) false).run P w'=.ok (lkO ev zv (fH z es)) w':=by
    rcases hk.find w' z (es.map Prod.fst) ms.toList (aaD h1) with ⟨h2,h3⟩ | ⟨j,e,h2,h3,h4⟩
    · rw [YJ h3]
      unfold Instr.lookup
      simp only [jc,j6 hm,jd,sV hb,hk.check,h2,jW,hz]
      rfl
    · obtain⟨u,h5,h6,_⟩:=anT h1 h3 h4
      rw [Ef hn h5];unfold Instr.lookup
      simp only [jc,j6 hm,jd,sV hb,hk.check,h2,jW,h6]
      rfl
  unfold execOp; rw [ho]; simp [ha.eval hx,ha.eval hkey,hr]
theorem avF(H:Hp b S w rs)(s:ou rs (pz ek ev g es) rest)(hk:JR P kt ek)(hm:P.underlying t=some (.map kt et))(hx:gQ l m=some (.map (some g)))(hkey:gQ l ky=some (ek z))(hv:gQ l vy=some (ev v))
    (k:∀ w',Hp b S w' (pz ek ev g (gV z v es)::rest)->WL P n bT Q K os l w'):WL P n bT Q K (⟨none,.mapUpdate t m ky vy,ty,pos,lD,none⟩::os) l w:=by
  obtain⟨hn,ms,DU,hb,h1⟩:=H.mp s
  rcases hk.find w z (es.map Prod.fst) ms.toList (aaD h1) with ⟨h2,h3⟩ | ⟨j,e,h2,h3,h4⟩
  · refine Nz (λa _=>fM a) Y (R:=λw'=>w'=w.putObj g (.map (ms.push ⟨ek z,ev v,DU⟩) (DU+1))) (λa ha=>⟨_,?_,Y⟩) λw' e=>?_
    · have hr:(Instr.mapUpdate t (.map (some g)) (ek z) (ev v)).run P w=.ok () (w.putObj g (.map (ms.push ⟨ek z,ev v,DU⟩) (DU+1))):=by
        unfold Instr.mapUpdate
        simp only [jc,j6 hm,jd,sV hb,hk.check,h2,EC _ hb]
        rfl
      unfold execOp; simp [ha.eval hx,ha.eval hkey,ha.eval hv,hr]
    · subst e
      refine k _ (H.adV s (JU hn) ?_);unfold gV;rw [YJ h3,aK av,Array.toList_push,pR,pR,h1]; rfl
  · obtain⟨u,h5,h6,h7⟩:=anT h1 h3 h4
    have hj:ms[j]? = some e:=by simpa using h3
    refine Nz (λa _=>fM a) Y (R:=λw'=>w'=w.putObj g (.map (ms.modify j λe=>{ e with key:=ek z,val:=ev v }) DU)) (λa ha=>⟨_,?_,Y⟩) λw' e'=>?_
    · have hr:(Instr.mapUpdate t (.map (some g)) (ek z) (ev v)).run P w=.ok () (w.putObj g (.map (ms.modify j λe=>{ e with key:=ek z,val:=ev v }) DU)):=by
        unfold Instr.mapUpdate
        simp only [jc,j6 hm,jd,sV hb,hk.check,h2,hj,FW,Option.getD_some,h7,hk.stays,EC _ hb]
        rfl
      unfold execOp; simp [ha.eval hx,ha.eval hkey,ha.eval hv,hr]
    · subst e'
      refine k _ (H.adV s (JU hn) ?_);unfold gV;rw [Ef hn h5,aO (show(some u).isSome=true from rfl),<- aaC hn h5,Array.toList_modify,ChangeMaps.modify_eq_set _ _ _ _ h3,EF,EF,h1]
theorem avG(H:Hp b S w rs)(s:ou rs (pz ek ev g es) rest)(hk:JR P kt ek)(hm:P.underlying t=some (.map kt et))(hx:gQ l m=some (.map (some g)))(hkey:gQ l ky=some (ek z)){t2:TypeId}
    (k:∀ w',Hp b S w' (pz ek ev g (nH z es)::rest)->WL P n bT Q K os l w'):WL P n bT Q K (⟨none,.call ⟨.builtin .delete,#[m,ky],#[t,t2]⟩,ty,pos,lD,none⟩::os) l w:=by
  obtain⟨hn,ms,DU,hb,h1⟩:=H.mp s
  rcases hk.find w z (es.map Prod.fst) ms.toList (aaD h1) with ⟨h2,h3⟩ | ⟨j,e,h2,h3,h4⟩
  · refine WL.avE (v:=.tuple #[]) (λa _=>fM a) Y (R:=λw'=>w'=w.putObj g (.map ms DU)) (λa ha=>⟨_,?_,Y⟩) λw' e=>?_
    · have hr:(Builtin.delete_ #[t,t2] ty #[.map (some g),ek z]).run P w=.ok (.tuple #[]) (w.putObj g (.map ms DU)):=by
        simp [Builtin.delete_,j6 hm,sV hb,hk.check,h2,EC _ hb,Result.andThen]; try rfl
      unfold execOp
      simp only [resolve,jc,jW,jd,invoke,builtin,rM,mO,vL,ha.eval hx,ha.eval hkey,hr]
    · subst e
      refine k _ (H.adV s (V6 hn) ?_);rw [adU h3]; exact h1
  · obtain⟨u,h5,h6,h7⟩:=anT h1 h3 h4
    refine WL.avE (v:=.tuple #[]) (λa _=>fM a) Y (R:=λw'=>w'=w.putObj g (.map (ms.eraseIdxIfInBounds j) DU)) (λa ha=>⟨_,?_,Y⟩) λw' e'=>?_
    · have hr:(Builtin.delete_ #[t,t2] ty #[.map (some g),ek z]).run P w=.ok (.tuple #[]) (w.putObj g (.map (ms.eraseIdxIfInBounds j) DU)):=by
        simp [Builtin.delete_,j6 hm,sV hb,hk.check,h2,EC _ hb,Result.andThen]; try rfl
      unfold execOp
      simp only [resolve,jc,jW,jd,invoke,builtin,rM,mO,vL,ha.eval hx,ha.eval hkey,hr]
    · subst e'
      refine k _ (H.adV s (V6 hn) ?_);have hjl:j<ms.size:=by simpa using aJ h3
      rw [<- erase_filter hn h5,Array.eraseIdxIfInBounds,dif_pos hjl,Array.toList_eraseIdx,agy,h1,agy]
theorem aDW(H:Hp b S w rs)(s:ou rs (pz ek ev g es) rest)(hm:P.underlying t=some (.map kt et))(hx:gQ l m=some (.map (some g)))
    (k:∀ w',Hp b S w' (pz ek ev g ([]:List (κ × ν))::rest)->WL P n bT Q K os l w'):WL P n bT Q K (⟨none,.call ⟨.builtin .clear,#[m],#[t]⟩,ty,pos,lD,none⟩::os) l w:=by
  obtain⟨hn,ms,DU,hb,h1⟩:=H.mp s;refine WL.avE (v:=.tuple #[]) (λa _=>fM a) Y (R:=λw'=>w'=w.putObj g (.map #[] DU)) (λa ha=>⟨_,?_,Y⟩) λw' e=>?_
  · have h2:(Builtin.clear_ #[t] ty #[.map (some g)]).run P w=.ok (.tuple #[]) (w.putObj g (.map #[] DU)):=by
      simp only [Builtin.clear_]
      simp [j6 hm,sV hb,EC _ hb,Result.andThen]
      rfl
    unfold execOp
    simp only [resolve,jc,jW,jd,invoke,builtin,rM,mO,vL,ha.eval hx,h2]
  · subst e
    exact k _ (H.adV s av Y)
end
theorem arq(hk:P.underlying kt=some (.int .i64)):JR P kt (fun(z:Int)=>Value.int .i64 z) where
  check w e a:=I5 (n:=9999) (k:=aD a) hk (by simp [MapKept.IsKey]) e
  stays w a:=ae7 (d:=.int .i64) (by simp [MapKept.IsKey])
  find w a ks l h:=by
    have hks:∀ x∈l,MapKept.IsKey (.int .i64) x.key:=λx hx=>by
      have:x.key∈l.map MapEntry.key:=jI.2 ⟨x,hx,rfl⟩;rw [h] at this;obtain⟨z,_,e⟩:=jI.1 this;rw [<- e]; simp [MapKept.IsKey]
    rcases Um (d:=.int .i64) (k:=aD a) (by simp [MapKept.IsKey]) l 0 hks with ⟨h1,h2⟩ | ⟨j,e,h1,h2,h3⟩
    · refine .inl ⟨zn hk h1,λhm=>?_⟩
      have:(Value.int .i64 a)∈l.map MapEntry.key:=by rw [h]; exact jI.2 ⟨a,hm,rfl⟩
      obtain⟨x,hx,e⟩:=jI.1 this;exact h2 x hx e
    · refine .inr ⟨j,e,zn hk (by simpa using h1),h2,?_⟩
      have h4:=aS (λq=>q[j]?) h
      simp only [kI,h2,FW,h3] at h4
      cases h5:ks[j]? with
      | none=>rw [h5] at h4; cases h4
      | some b=>rw [h5] at h4; simp at h4; rw [h4]
theorem key_eq{κ:Type}[DecidableEq κ]{ek:κ->Value}{d:TypeDesc}(hk:P.underlying kt=some d)(hd:∀ a b,Instr.sameNow d a b=none)(hq:∀(a b:κ)(w:World),(Op.equal kt (ek a) (ek b)).run P w=.ok (decide (a=b)) w)
    (hc:∀(w:World)(e:Bool)(a:κ),(Instr.checkKey e 10000 kt (ek a)).run P w=.ok () w) (hs:∀ a,Instr.sameBits 10000 (ek a) (ek a)=true):JR P kt ek where
  check:=hc
  stays w a:=by unfold Instr.keyThatStays; rw [aO (hs a)]; rfl
  find w a ks l h:=by
    have aDX:∀(l:List MapEntry)(ks:List κ)(i:Nat),l.map MapEntry.key=ks.map ek->((Instr.findAsking kt (ek a) l i).run P w=.ok none w/\a∉ks)∨∃ j e,(Instr.findAsking kt (ek a) l i).run P w=.ok (some (i+j,e.val)) w/\l[j]? = some e/\ks[j]? = some a:=by
      intro l
      induction l with
      | nil=>
        intro ks i h
        cases ks with
        | nil=>exact .inl ⟨rfl,av⟩
        | cons _ _=>simp at h
      | cons e l ih=>
        intro ks i h
        cases ks with
        | nil=>simp at h
        | cons c ks=>
          simp only [mO,List.cons.injEq] at h
          by_cases hac:a=c
          · refine .inr ⟨0,e,?_,Y,by rw [hac]; rfl⟩
            unfold Instr.findAsking
            simp only [jc,h.1,hq,jd,L6 hac,if_true,Nat.add_zero]
            rfl
          · have hstep:(Instr.findAsking kt (ek a) (e::l) i).run P w=(Instr.findAsking kt (ek a) l (i+1)).run P w:=by
              conv=>lhs; unfold Instr.findAsking
              simp only [jc,h.1,hq,jd,decide_eq_false hac]
              rfl
            rcases ih ks (i+1) h.2 with ⟨h1,h2⟩ | ⟨j,e',h1,h2,h3⟩
            · exact .inl ⟨hstep.trans h1,by simp [hac,h2]⟩
            · exact .inr ⟨j+1,e',by rw [hstep,h1,show i+1+j=i+(j+1) from by omega],by simpa using h2,by simpa using h3⟩
    have hf:(Instr.findKey kt (ek a) l).run P w=(Instr.findAsking kt (ek a) l 0).run P w:=by
      unfold Instr.findKey
      simp only [jc,j6 hk,jd]
      cases l with
      | nil=>rfl
      | cons e l=>
        have:Instr.findNow d (ek a) (e::l) 0=none:=by unfold Instr.findNow; rw [hd]
        rw [this]
    rcases aDX l ks 0 h with ⟨h1,h2⟩ | ⟨j,e,h1,h2,h3⟩
    · exact .inl ⟨hf.trans h1,h2⟩
    · exact .inr ⟨j,e,by rw [hf,h1,Ia],h2,h3⟩
theorem Q9{β:Type}{l:List β}{i:Nat}{x:β}(h:l[i]? = some x):l.set i x=l:=by
  obtain⟨hi,he⟩:=mM.1 h;rw [<- he]; exact List.set_getElem_self hi
section
variable {κ α:Type}[DecidableEq κ]{τ:Ty α}{e:TypeId}{b w:World}{S:Nat->Prop}{rs rest wz:List lC}{es:List (κ × (Option Addr × Nat × List α))}{k k2:κ}
theorem Hp.weak{r r':lC}(H:Hp b S w (r::rs))(hW:∀ g,r'.W g->r.W g)(hok:∀ {S':Nat->Prop},r.ok S' w->r'.ok S' w):Hp b S w (r'::rs):=
  H.put ⟨rfl,rfl,rfl,kH _,λ_ _ _=>rfl,kH _⟩ (λg h=>.inl (hW g h)) (hok (H.ok r av))
def fU(k:κ)(es:List (κ × (Option Addr × Nat × List α))):Option Addr × Nat × List α:=(fH k es).getD (none,0,[])
abbrev uh(r:Option Addr × Nat × List α):Value:=.slice r.1 r.2.2.length r.2.1
theorem avH(k:κ)(es:List (κ × (Option Addr × Nat × List α))):lkO uh (.slice none 0 0) (fH k es)=.slice (fU k es).1 (fU k es).2.2.length (fU k es).2.1:=by
  unfold fU; cases fH k es <;> rfl
theorem xM{es:List (κ × ν)}(h:fH k es=some v):∃ j:Nat,es[j]? = some (k,v):=by
  unfold fH at h
  cases hf:es.find? (λp=>decide (p.1=k)) with
  | none=>rw [hf] at h; cases h
  | some p=>
    rw [hf] at h;have h1:=List.find?_some hf;obtain⟨j,hj⟩:=JQ.1 (QA hf);obtain⟨p1,p2⟩:=p
    simp only [bL] at h1
    cases h
    exact⟨j,by rw [hj,h1]⟩
theorem Hp.anV(H:Hp b S w rs)(s:ou rs (fD τ e (es.map Prod.snd)) rest)(k:κ):Sl τ Any w (fU k es).1 (fU k es).2.1 (fU k es).2.2:=by
  cases h:fH k es with
  | none=>rw [show fU k es=(none,0,[]) from by unfold fU; rw [h]; rfl]; exact Cb τ _ _
  | some r=>
    obtain⟨j,hj⟩:=xM h;have hx:(es.map Prod.snd)[j]? = some (r.1,r.2.1,r.2.2):=by rw [kI,hj]; rfl
    rw [show fU k es=r from by unfold fU; rw [h]; rfl];exact(H.zM s hx).o s0
theorem Hp.ahQ{L L':List (Option Addr × Nat × List α)}(H:Hp b S w rs)(s:ou rs (fD τ e L) rest)(h:L'.Sublist L):Hp b S w (fD τ e L'::rest):=
  Hp.weak (H.sel s) (λg ⟨r,hr,hg⟩=>⟨r,h.subset hr,hg⟩) (fun⟨h1,h2⟩=>⟨λr hr=>h1 r (h.subset hr),h2.sublist h⟩)
theorem Hp.ahR(H:Hp b S w rs)(s:ou rs (fD τ e (es.map Prod.snd)) rest)(k:κ):Hp b S w (fD τ e ((nH k es).map Prod.snd)::rest):=H.ahQ s (List.Sublist.map _ V5)
theorem FI{ν:Type}{es:List (κ × ν)}{v v':ν}{j:Nat}(hn:(es.map Prod.fst).Nodup)(h:es[j]? = some (k,v)):gV k v' es=es.set j (k,v'):=by
  unfold gV;rw [Ef hn h,aO (show(some v).isSome=true from rfl),aaC hn h]
theorem Hp.aaE{B:ah}{d:Nat}{xs:List α}(H:Hp b S w rs)(hn:(es.map Prod.fst).Nodup)(s:ou rs (aR τ e B d xs) rest)(s':ou rest (fD τ e (es.map Prod.snd)) wz)(k:κ):Hp b S w (fD τ e ((gV k (B,d,xs) es).map Prod.snd)::wz):=by
  cases h:fH k es with
  | none=>
    have:=H.NG s s';unfold gV;rw [h,aK av,pR]; exact this
  | some r=>
    obtain⟨j,hj⟩:=xM h;have hx:(es.map Prod.snd)[j]? = some (r.1,r.2.1,r.2.2):=by rw [kI,hj]; rfl
    have H1:=(H.sel s).zM (.t s') hx;have H2:=H1.rm s0;have H3:=H2.Bo hx (.t .h) .h;rw [FI hn hj,EF]; exact H3
theorem ars{es:List (κ × ν)}(h:k2≠k):nH k (gV k2 v es)=gV k2 v (nH k es):=by
  have hg:fH k2 (nH k es)=fH k2 es:=by
    unfold fH nH;rw [List.find?_filter]
    congr 1
    congr 1
    funext p
    by_cases hp:p.1=k2
    · simp [hp,h]
    · simp [hp]
  unfold gV;rw [hg]
  split
  · unfold nH
    rw [List.filter_map]
    have:(λp:κ × ν=>!decide (p.1=k)) ∘ (λp=>if p.1=k2 then(k2,v) else p)=λp=>!decide (p.1=k):=by
      funext p; simp only [Function.comp]; split
      · rename_i hp; rw [hp]
      · rfl
    rw [this]
  · unfold nH
    rw [yg]
    simp [h]
theorem V7{es:List (κ × ν)}(h:((gV k v es).map Prod.fst).Nodup):(es.map Prod.fst).Nodup:=by
  unfold gV at h
  split at h
  · rw [GU] at h
    have:es.map (Prod.fst ∘ λp=>if p.1=k then(k,v) else p)=es.map Prod.fst:=Q8 λp _=>by
      simp only [Function.comp]; split
      · rename_i h; exact h.symm
      · rfl
    rwa [this] at h
  · rw [pR,List.nodup_append] at h
    exact h.1
theorem Hp.anW(H:Hp b S w rs)(hn:(es.map Prod.fst).Nodup)(s:ou rs (fD τ e (es.map Prod.snd)) rest)(h:k2≠k):Hp b S w (fD τ e ((nH k (gV k2 (fU k es) es)).map Prod.snd)::rest):=by
  rw [ars h]
  cases hg:fH k es with
  | none=>
    have hk:k∉es.map Prod.fst:=λhm=>by
      obtain⟨p,hp,e⟩:=jI.1 hm;obtain⟨j,hj⟩:=JQ.1 hp;obtain⟨p1,p2⟩:=p
      simp only at e; subst e
      rw [Ef hn hj] at hg; cases hg
    rw [show fU k es=(none,0,[]) from by unfold fU; rw [hg]; rfl,adU hk];exact((H.sel s).nil τ e).aaE hn .h .h k2
  | some r=>
    obtain⟨j,hj⟩:=xM hg;have hx:(es.map Prod.snd)[j]? = some (r.1,r.2.1,r.2.2):=by rw [kI,hj]; rfl
    have H1:=H.zM s hx;rw [show(es.map Prod.snd).eraseIdx j=(nH k es).map Prod.snd from by rw [<- erase_filter hn hj,agy]] at H1;rw [show fU k es=r from by unfold fU; rw [hg]; rfl];exact H1.aaE (V6 hn) .h .h k2
theorem aru(h:(fU k es).2.2.length≠0):∃ j:Nat,es[j]? = some (k,fU k es):=by
  cases hg:fH k es with
  | none=>rw [show fU k es=(none,0,[]) from by unfold fU; rw [hg]; rfl] at h; exact absurd rfl h
  | some r=>
    obtain⟨j,hj⟩:=xM hg;exact⟨j,by rw [hj,show fU k es=r from by unfold fU; rw [hg]; rfl]⟩
theorem Hp.avI{r:Option Addr × Nat × List α}(H:Hp b S w rs)(s:ou rs (fD τ e (es.map Prod.snd)) rest)(hj:es[j]? = some (k,r)):Hp b S w (aR τ e r.1 r.2.1 r.2.2::fD τ e ((es.map Prod.snd).eraseIdx j)::rest):=
  H.zM s (by rw [kI,hj]; rfl)
theorem Hp.aza{ek:κ->Value}{g j:Nat}{r:Option Addr × Nat × List α}{xs:List α}{atr:List lC}(H:Hp b S w rs)(hj:es[j]? = some (k,r))(hl:xs.length=r.2.2.length)(s:ou rs (aR τ e r.1 r.2.1 xs) rest)(s':ou rest (fD τ e ((es.map Prod.snd).eraseIdx j)) wz)(s2:ou wz (pz ek uh g es) atr) :
    Hp b S w (pz ek uh g (gV k (r.1,r.2.1,xs) es)::fD τ e ((gV k (r.1,r.2.1,xs) es).map Prod.snd)::atr):=by
  have hx:(es.map Prod.snd)[j]? = some r:=by rw [kI,hj]; rfl
  have H1:=H.Bo hx s s';have H2:=H1.sel (.t s2);have hn:=(H2.mp .h).1;rw [show(es.map Prod.snd).set j (r.1,r.2.1,xs)=(gV k (r.1,r.2.1,xs) es).map Prod.snd from by rw [FI hn hj,EF]] at H2;refine H2.weak (λg h=>h) ?_;rintro S' ⟨h1,ms,DU,h2,h3⟩;refine⟨JU h1,ms,DU,h2,h3.trans ?_⟩;rw [FI h1 hj,EF];have:(es.map λp=>(ek p.1,uh p.2))[j]? = some (ek k,uh (r.1,r.2.1,xs)):=by rw [kI,hj]; simp [hl]
  exact(Q9 this).symm
theorem Ev.adW{n:Cx}{l:List (Nat × Value)}{ek:κ->Value}{t et:TypeId}{m ky:Operand}{z:κ}(H:Hp b S w rs)(s:ou rs (pz ek uh g es) rest)(hk:JR P kt ek)(hm:P.underlying t=some (.map kt et))(hz:∀ w,(zeroValue et).run P w=.ok (.slice none 0 0) w)(hx:gQ l m=some (.map (some g)))(hkey:gQ l ky=some (ek z)) :
    Ev P n l w (.lookup t m ky false) (.slice (fU z es).1 (fU z es).2.2.length (fU z es).2.1):=by
  rw [<- avH]; exact Ev.anU H s hk hm hz hx hkey
end
theorem anX(x:BitVec 8):∀ u∈[Value.int .u8 (x.toNat:Int)],u.oneCell'=true:=by intro u hu; simp only [iN,kY,qW] at hu; rw [hu]; rfl
def gu:Ty (BitVec 8):=Ty.flat 1 (λx=>[.int .u8 (x.toNat:Int)]) au (λ_=>rfl) anX
instance:Flat gu:=⟨λh=>h⟩
abbrev avJ:List (BitVec 32):=[0x00000000,0x1db71064,0x3b6e20c8,0x26d930ac,0x76dc4190,0x6b6b51f4,0x4db26158,0x5005713c,0xedb88320,0xf00f9344,0xd6d6a3e8,0xcb61b38c,0x9b64c2b0,0x86d3d2d4,0xa00ae278,0xbdbdf21c]
def Ir(i:Nat):BitVec 32:=avJ.getD i 0
def azg(x:BitVec 32):BitVec 32:=Ir (x&&& 15#32).toNat ^^^ (x >>> 4)
theorem O8(x:BitVec 32):(x&&& 15#32).toNat<16:=by
  rw [BitVec.toNat_and];exact Nat.lt_of_le_of_lt Nat.and_le_right au
def zY(x:BitVec 32)(b:BitVec 8):BitVec 32:=azg (azg (x ^^^ b.setWidth 32))
def Tz(s:BitVec 32)(l:List (BitVec 8)):BitVec 32:= ~~~ (l.foldl zY (~~~ s))
def iV(l:List (BitVec 8)):BitVec 32:=Tz 0#32 l
theorem adX:∀ {i:Nat},i<16->([fT 0,fT 498536548,fT 997073096,fT 651767980,fT 1994146192,fT 1802195444,fT 1303535960,fT 1342533948,fT 3988292384,fT 4027552580,fT 3604390888,fT 3412177804,fT 2607071920,fT 2262029012,fT 2685067896,fT 3183342108]:List Value)[i]? = some (fT ((Ir i).toNat:Int))
  | 0,_=>rfl
  | 1,_=>rfl
  | 2,_=>rfl
  | 3,_=>rfl
  | 4,_=>rfl
  | 5,_=>rfl
  | 6,_=>rfl
  | 7,_=>rfl
  | 8,_=>rfl
  | 9,_=>rfl
  | 10,_=>rfl
  | 11,_=>rfl
  | 12,_=>rfl
  | 13,_=>rfl
  | 14,_=>rfl
  | 15,_=>rfl
  | _+16,h=>absurd h aj
theorem arv{b:List (BitVec 8)}{i:Nat}{x:BitVec 8}(h:b[i]? = some x):b.getD i 0#8=x:=by rw [List.getD_eq_getElem?_getD,h]; rfl
theorem anY  : ∀ w,(Instr.buildSlice 33 0 (List.toArray [])).run prog w=.ok (.slice (some ⟨w.heap.size,0,none⟩) 0 0) (w.alloc (.cells (List.toArray []) 5)):=ay
theorem aD0:kQ prog 5 1 1:=by
  obtain⟨i,h1,h2,h3,h4⟩:=rT (show(prog.info? 5).map (λi=>(i.zero,i.size,i.bytes))=some (some (.int .u8 0),1,1) by kernel_rfl);exact⟨i,_,h1,h2,h3,h4,Y⟩
theorem V8:∀ w,(zeroValue 235).run prog w=.ok (.agg #[fT 0,fT 0,fT 0,fT 0,fT 0,fT 0,fT 0,fT 0,fT 0,fT 0,fT 0,fT 0,fT 0,fT 0,fT 0,fT 0]) w:=ay
theorem avK:Size prog 235 16:=ay
theorem anZ:XY prog 235 16:=⟨λ_=>by kernel_rfl,avK⟩
theorem arw:Size prog 5 1:=ay
theorem azh:kW prog 5:=ay
theorem aaF:(prog.underlying 5).isSome=true/\prog.underlying 57=some (.int (prog.intKind 57))/\prog.intKind 57=.u32:=⟨ak,ak,ak⟩
theorem GX(w:World){u7:ah}{tN:Nat}{s:List (BitVec 8)}(lK:Sl gu S0 w u7 tN s)(hn:s.length<=1000000) :
    bO prog 119 #[.slice u7 s.length tN] w λv w'=>∃(A0:ah)(c0:Nat),v=.slice A0 s.length c0/\Hp w S0 w' [aR gu 5 A0 c0 s]:=by
 refine j4 S0 func119 ntmps119 Y λH0=>iY Y<|aZ<|bQ Y<|ev (Lx GV Y Y)<|dn<|bR Y (λhc4=>?_) (λhc4=>?_)
 ·refine iY Y<|vG Y ?_
  have H1:=H0.nil gu 5;have d9:(([]:List (BitVec 8)):List (BitVec 8))=s:=by have h1:=lK.nil (by simpa using hc4); have h2:=lK.cap; exact(uI aj).symm
  have H2:=(d9▸H1:Hp w S0 w (aR gu 5 none 0 s::[]));exact⟨none,0,by rw [<- d9] <;> rfl,H2⟩
 refine jh ?_;refine rg<|bs0 (τ:=gu) (vs:=[]) Y (by intro _; apply anY) rfl H0 λg1 w1 K1=>mv rfl<|ap (ys:=s) K1 s0 rfl rfl (K1.a lK).any GV aD0 av (by first | omega | (simp; omega) | (simp; done)) rfl λnY nZ w2 K2=>bS rfl<|iI rfl ?_
 have fG:((([]:List (BitVec 8))++s):List (BitVec 8))=s:=by simp
 rw [fG] at K2;exact⟨nY,nZ,by rw [fG] <;> rfl,K2⟩
instance Ap.b{α:Type}{x y l o q:List α}[h:Ap x y q][g:Ap q l o]:Ap (x.append y) l o:=⟨by rw [<- g.h,<- h.h]; rfl⟩
instance Tk.b{α:Type}{n:Nat}{x y l xs r:List α}[h:Ap x y l][g:Tk (n+1) l xs r]:Tk (n+1) (x.append y) xs r:=⟨by rw [<- g.h]; exact h.h⟩
section
variable {P:Program}{n:Cx}{l:List (Nat × Value)}{w:World}{t e d ty:TypeId}{x y:Operand}{k:IntKind}{z:Int}
theorem Ev.avL(hs:(P.underlying t).isSome=true)(hd:P.underlying d=some (.int (P.intKind d)))(hk:P.intKind d=.u32)(hx:gQ l x=some (.int k z))(hz:z=(z.toNat:Int)):Ev P n l w (.convert t d x) (fT ((BitVec.ofNat 32 z.toNat).toNat:Int)):=
  Ev.arp hs hd hk (hz▸hx)
theorem Ev.aD1{len:Nat}(hu:P.underlying t=some (.array len e))(hs:Size P e 1)(hx:gQ l x=some (fP g))(hy:gQ l y=some (.int k z))(hz:z=(z.toNat:Int))(hi:Nat.blt z.toNat len=true):Ev P n l w (.indexAddr t x y) (.pointer (some ⟨g,z.toNat,none⟩)):=
  Ev.avD hu hs hx hy hz (by simpa [Nat.blt_eq] using hi)
end
theorem Hp.reC{b w:World}{S:Nat->Prop}{t:Nat}{cs ds:List Value}{F:List lC}(H:Hp b S w (dJ g t cs::F))(h:cs=ds):Hp b S w (dJ g t ds::F):=h▸H
theorem avM(w:World)  :
    bO prog 197 #[] w λv w'=>v=.agg #[fT 0,fT 498536548,fT 997073096,fT 651767980,fT 1994146192,fT 1802195444,fT 1303535960,fT 1342533948,fT 3988292384,fT 4027552580,fT 3604390888,fT 3412177804,fT 2607071920,fT 2262029012,fT 2685067896,fT 3183342108]/\Hp w S0 w' []:=by
 refine j4 S0 func197 ntmps197 Y λH0=>rg<|al V8 Y H0 λg1 w1 K1=>dn<|rg<|al V8 Y K1 λg2 w2 K=>dn<|aZ<|bQ Y<|dn<|cZ<|Rn 17 (RN.s ?_)
 iterate 16
  refine rg<|ev (fB Y Y)<|dn<|cT Y<|jh<|aZ<|cZ<|bQ Y<|bS Y<|bQ Y<|ev (Ev.avL BF.1 BF.2.1 BF.2.2 Y Y)<|bS Y<|aZ<|bQ Y<|dn<|cZ<|Rn 5 (RN.s ?_)
  iterate 4
   refine rg<|ev (fB Y Y)<|dn<|cT Y<|jh<|aZ<|cZ<|jr<|mv Y<|ev (Ev.anQ (c:=1) Y Y au)<|mv Y<|ev (Ev.ahP (b:=1#32) Y Y)<|ev (Ev.ay4 Y)<|ev (Ev.ahP (b:=3988292384#32) Y Y)<|ev (Ev.ahO Y Y)<|iA Y<|jv<|ig (gB ?_)
   refine jr<|ev (Ev.add Y Y (vM au au))<|mv Y<|jv<|kV.rnd (RN.s ?_)
  refine rg<|ev (fB Y Y)<|dn<|cF Y<|wQ<|jr<|mv Y<|mv Y<|ev (Ev.aD1 underlying235 ag4 Y Y Y Y)<|wD Y K s0 Y λw K=>jv<|ig (gB ?_)
  refine jr<|ev (Ev.add Y Y (vM au au))<|mv Y<|jv<|kV.rnd (RN.s ?_)
 refine rg<|ev (fB Y Y)<|dn<|cF Y<|wQ ?_
 have K:=K.reC (ds:=[fT 0,fT 498536548,fT 997073096,fT 651767980,fT 1994146192,fT 1802195444,fT 1303535960,fT 1342533948,fT 3988292384,fT 4027552580,fT 3604390888,fT 3412177804,fT 2607071920,fT 2262029012,fT 2685067896,fT 3183342108]) ak;refine rg<|ev (dK anZ Y Y (K.x s0))<|sty Y K s1 Y λw19 Bf=>dn<|je (oW Y ⟨_,_,Y,⟨_,Y,jm (cs:=[fT 0,fT 498536548,fT 997073096,fT 651767980,fT 1994146192,fT 1802195444,fT 1303535960,fT 1342533948,fT 3988292384,fT 4027552580,fT 3604390888,fT 3412177804,fT 2607071920,fT 2262029012,fT 2685067896,fT 3183342108]) anZ Y (Bf.x s0)⟩,Y⟩ ?_)
 exact⟨Y,Bf.z⟩
theorem arx(w:World)(sum:BitVec 32){c_b:Nat}{b:List (BitVec 8)}(h_b:Sl gu S0 w A_b c_b b) :
    bO prog 120 #[fT ((sum).toNat:Int),.slice A_b b.length c_b] w λv w'=>v=fT ((Tz sum b).toNat:Int)/\Hp w S0 w' []:=by
 refine j4 S0 func120 ntmps120 Y λH0=>?_;have aIF:=h_b.bN;refine iY Y<|WP.jumps (lb:=0) (λmJ lJ wJ=>∃(k:Nat)(gt:Nat),lJ=[(1,.slice A_b b.length c_b),(5,fP gt),(6,fT ((((b.take k).foldl zY (~~~sum))).toNat:Int)),(7,aD ((k:Nat):Int))]/\mJ=b.length - k/\(k<=b.length)/\Hp w S0 wJ [dJ gt 235 [fT 0,fT 498536548,fT 997073096,fT 651767980,fT 1994146192,fT 1802195444,fT 1303535960,fT 1342533948,fT 3988292384,fT 4027552580,fT 3604390888,fT 3412177804,fT 2607071920,fT 2262029012,fT 2685067896,fT 3183342108]]) Y ?_ ?_
 ·rintro _ _ w4 ⟨k,gt,rfl,rfl,hk,K4⟩;refine aZ<|bQ Y<|mv Y<|ev (eY GV Y)<|ev (fB Y Y)<|dn<|kX Y (λtC=>?_) (λtC=>?_)
  ·refine bQ Y<|mv Y<|mv Y ?_
   obtain⟨x1,bP⟩:=bC (xs:=b) (i:=k) aj;refine ev (eU (i:=k) GV arw Y Y Y (aJ bP) ((K4.a h_b).some_ bP))<|ev (jq azh Y ((K4.a h_b).fZ (j:=0) bP Y))<|ev (Ev.anR (a:=x1) aaF.1 aaF.2.1 aaF.2.2 Y)<|ev (Ev.ahO (a:=((b.take k).foldl zY (~~~sum))) (b:=(x1.setWidth 32)) Y Y)<|bS Y<|bQ Y<|ev (Ev.ahP (a:=(((b.take k).foldl zY (~~~sum)) ^^^ (x1.setWidth 32))) (b:=15#32) Y Y)<|ev (Ev.avD (i:=(((((b.take k).foldl zY (~~~sum)) ^^^ (x1.setWidth 32))&&& 15#32)).toNat) underlying235 ag4 Y Y Y (by exact O8 _))<|ev (cu UH rfl (K4.x s0) (adX (O8 _)))<|mv rfl<|ev (Ev.anQ (a:=(((b.take k).foldl zY (~~~sum)) ^^^ (x1.setWidth 32))) (c:=4) rfl rfl aj)<|ev (Ev.ahO (a:=Ir ((((((b.take k).foldl zY (~~~sum)) ^^^ (x1.setWidth 32))&&& 15#32)).toNat)) (b:=((((b.take k).foldl zY (~~~sum)) ^^^ (x1.setWidth 32)) >>> 4)) rfl rfl)<|bS rfl<|bQ rfl<|ev (Ev.ahP (a:=(Ir ((((((b.take k).foldl zY (~~~sum)) ^^^ (x1.setWidth 32))&&& 15#32)).toNat) ^^^ ((((b.take k).foldl zY (~~~sum)) ^^^ (x1.setWidth 32)) >>> 4))) (b:=15#32) rfl rfl)<|ev (Ev.avD (i:=(((Ir ((((((b.take k).foldl zY (~~~sum)) ^^^ (x1.setWidth 32))&&& 15#32)).toNat) ^^^ ((((b.take k).foldl zY (~~~sum)) ^^^ (x1.setWidth 32)) >>> 4))&&& 15#32)).toNat) underlying235 ag4 rfl rfl rfl (by exact O8 _))<|ev (cu UH rfl (K4.x s0) (adX (O8 _)))<|mv rfl<|ev (Ev.anQ (a:=(Ir ((((((b.take k).foldl zY (~~~sum)) ^^^ (x1.setWidth 32))&&& 15#32)).toNat) ^^^ ((((b.take k).foldl zY (~~~sum)) ^^^ (x1.setWidth 32)) >>> 4))) (c:=4) rfl rfl aj)<|ev (Ev.ahO (a:=Ir ((((Ir ((((((b.take k).foldl zY (~~~sum)) ^^^ (x1.setWidth 32))&&& 15#32)).toNat) ^^^ ((((b.take k).foldl zY (~~~sum)) ^^^ (x1.setWidth 32)) >>> 4))&&& 15#32)).toNat)) (b:=((Ir ((((((b.take k).foldl zY (~~~sum)) ^^^ (x1.setWidth 32))&&& 15#32)).toNat) ^^^ ((((b.take k).foldl zY (~~~sum)) ^^^ (x1.setWidth 32)) >>> 4)) >>> 4)) rfl rfl)<|bS rfl<|bQ rfl<|ev (dW rfl rfl)<|bS rfl ?_
   refine WP.goto (kV.XV ?_);have fG:((((Ir ((((Ir ((((((b.take k).foldl zY (~~~sum)) ^^^ (x1.setWidth 32))&&& 15#32)).toNat) ^^^ ((((b.take k).foldl zY (~~~sum)) ^^^ (x1.setWidth 32)) >>> 4))&&& 15#32)).toNat) ^^^ ((Ir ((((((b.take k).foldl zY (~~~sum)) ^^^ (x1.setWidth 32))&&& 15#32)).toNat) ^^^ ((((b.take k).foldl zY (~~~sum)) ^^^ (x1.setWidth 32)) >>> 4)) >>> 4))).toNat:Int):Int)=((((b.take (k+1)).foldl zY (~~~sum))).toNat:Int):=by rw [fI bP,xD]; rfl
   refine ji (t:=6) Y (aS (Value.int .u32) fG)<|kV.jag ⟨(k+1),gt,Y,Y,aj,K4⟩ rfl aj
  refine jh ?_;refine bQ Y<|ev (Ev.atq (a:=((b.take k).foldl zY (~~~sum))) Y)<|bS Y<|je (kV.Ua (zD Y ?_))
  have jQ:((((~~~((b.take k).foldl zY (~~~sum)))).toNat:Int):Int)=((Tz sum b).toNat:Int):=by rw [iD aj]; rfl
  exact⟨by rw [jQ] <;> rfl,(K4.rm s0)⟩
 ·intro hp0;refine rg<|lF H0 Y (avM (S0:=Any) _) λw1 K1=>al V8 Y K1 λg1 w2 K2=>sty Y K2 s0 Y λw3 K3=>dn<|bQ Y<|ev (Ev.atq (a:=sum) Y)<|bS Y<|iY Y ?_
  have d9:((((~~~sum)).toNat:Int):Int)=((((b.take 0).foldl zY (~~~sum))).toNat:Int):=by rfl
  refine kP (t:=6) Y (aS (Value.int .u32) d9)<|WP.kp hp0 ⟨0,g1,Y,Y,by exact fK _,K3⟩ rfl
theorem V9(w:World){c_b:Nat}{b:List (BitVec 8)}(h_b:Sl gu S0 w A_b c_b b) :
    bO prog 55 #[.slice A_b b.length c_b] w λv w'=>v=fT ((iV b).toNat:Int)/\Hp w S0 w' []:=by
 refine j4 S0 func55 ntmps55 Y λH0=>iY Y<|bQ Y<|lF H0 Y (arx _ (0#32) (H0.a h_b).any) λw1 K1=>bS Y<|iI Y ?_
 have d9:(((Tz (0#32) b).toNat:Int):Int)=((iV b).toNat:Int):=by rfl
 exact⟨by rw [d9] <;> rfl,K1⟩
end Go.Proofs.YtlhnnmlenkahlaaGreat
