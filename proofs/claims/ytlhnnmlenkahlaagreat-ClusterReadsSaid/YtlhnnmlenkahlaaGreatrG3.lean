/- Lemmas. -/
import Derived.RangeFuncSeq
import Derived.RangeFuncLeaves
import Derived.Shelf.SlSortCmp.NoneTotal
import Derived.Shelf.Sort.Plain
import Derived.Shelf.Slices.In.SortNone
import Derived.Sort.OwnSortedInts
import Derived.Shelf.Slices.CompactI
import Derived.MapKept
import Derived.Test.YtlhnnmlenkahlaaGreatrG2
set_option linter.all false
namespace Go.Proofs.YtlhnnmlenkahlaaGreat
open Go.RowKit
def bN:=@Bool.and_eq_true
def eG:=@Bool.not_eq_true'
def nI:=@List.contains_iff_mem
def j4:=@List.mem_singleton
def OT:=@beq_iff_eq
def abU:=@Option.some.inj
def nJ:=@List.mem_filter
def Ed:=@List.any_eq_true
def vW:=@Array.getElem?_eq_some_iff
def zK:=@List.perm_append_comm
def sK:=@List.foldl_cons
def aR:=@congrArg
def OU:=@List.pairwise_singleton
def OV:=@List.eraseIdx_eq_take_drop_succ
def abV:=@Nat.eq_zero_or_pos
def WA:=@List.getElem!_eq_getElem?_getD
def abW:=@Go.Sort.size_flatK
def OW:=@List.getElem?_take_of_lt
def WB:=@Bool.false_eq_true
def KW:=@List.length_mergeSort
def mR:=@List.length_filter_le
def qc:=@List.map_append
def bV:=@decide_eq_false_iff_not
def KX:=@MapKept.run_checkKey
def Bn:=@MapKept.run_findKey
def uM:=@MapKept.run_getObj_map
def Gi:=@MapKept.run_setObj_map
variable {d k g c bytes lo i FB:Nat}{v:Value}{α:Type}{f:FuncId}{caps vs all:List Value}{t ty e kt et:TypeId}{fn:Func}{rs:List ResultVar}{R:Value->World->Prop}{F G:List lH}{KH x ky:Operand}{args:List Operand}{tys ps rs':Array TypeId}{A B:ah}{w:World}{cur azv:Array Value}{os:Array Obj}{ρ:Go.Shelf.Ren}{vr:Bool}{z:Int}{es:Array MapEntry}{enc:α->List Value}{pre xs:List α}{Jf:List α->List lH->Prop}{Jx:Code->List α->List lH->Prop}{τ:Ty α}{pos:0<k}{cf:α->α->Int}{hl:∀ x,(enc x).length=k}
def WI(P:Program)(n:Cx)(dh:Array Oper)(Q:Exit->Act->World->Prop)(fuel:Nat)(aX:Array Bool)(l:List (Nat × Value))(w:World):Prop:=
  ∀ a,Has n l a->wpAnyIn n.fence 0 P .any dh Q fuel aX a w
def qV(dh:Array Oper)(ids:List Nat)(rest:Nat)(full:Array Bool):Nat->Array Bool->Bool
  | 0,aX=>aX == full&&rest == 0
  | f+1,aX=>if aX == full then f+1 == rest else !(Region.ready .any dh aX).isEmpty&&(Region.ready .any dh aX).all λi=>ids.contains i&&qV dh ids rest full f (aX.setIfInBounds i true)
def Qi(P:Program)(n:Cx)(dh:Array Oper)(S:World->Prop)(l:List (Nat × Value))(o:Oper)(v:Value):Prop:=∀ a w,Has n l a->S w->
  (Region.wanted o (yielded dh a.tmps)=true/\((execOp a.eval o).run P w=.ok (.value v) w∨∃ f args,(execOp a.eval o).run P w=.ok (.enter f args) w/\bS P f args w λu w'=>u=v/\S w'))∨(Region.wanted o (yielded dh a.tmps)=false/\v=undef)
def Iy(o:Oper)(A:List (Nat × Nat × Value)):List (Nat × Value):=(A.filter λq=>o.after.toList.any λe=>Region.binds .any e&&e.on == q.1).map (·.2)
def nodupB:List Nat->Bool
  | []=>true
  | x::xs=>!xs.contains x&&nodupB xs
theorem WC:∀ {A:List (Nat × Nat × Value)},nodupB (A.map (·.2.1))=true->A.Pairwise λp q=>p.2.1≠q.2.1
  | [],_=>List.Pairwise.nil
  | p::A,h=>by
    simp only [nG,nodupB,bN,eG] at h
    refine pG.2 ⟨λq hq e=>?_,WC h.2⟩
    have:(A.map (·.2.1)).contains p.2.1=true:=by
      rw [nI]; exact gQ.2 ⟨q,hq,e.symm⟩
    rw [this] at h; cases h.1
structure Ee (P:Program) (n:Cx) (dh:Array Oper) (S:World->Prop) (l:List (Nat × Value)) (A:List (Nat × Nat × Value)) (p:Nat × Nat × Value):Prop where
  ex:∃ o,dh[p.1]? = some o/\o.dst=some p.2.1/\Nat.blt p.2.1 n.size=true/\look l p.2.1=none/\Qi P n dh S (Iy o A++l) o p.2.2
section
variable {P:Program}{n:Cx}{l l':List (Nat × Value)}{w:World}{Q:Exit->Act->World->Prop}{dh:Array Oper}{fuel:Nat}{aX:Array Bool}
theorem WP.dr{ol:List Oper}{id:Nat}{y:Code}(hm:P.follows .mixedOrders=true)(h:WI P n ol.toArray (Exit.then (Ot P n y Q) Q) ol.length (List.replicate ol.length false).toArray l w.drew):WP P n (.seq (.region id ol.toArray true) y) l w Q:=λa ha=>by
  exact Uz (wpIn_region_any (Q:=Exit.then (Ot P n y Q) Q) hm (by have:=h a ha; simpa using this))
theorem WI.one(i:Nat){o:Oper}(hr:Region.ready .any dh aX=[i])(hi:dh[i]? = some o)(h:WL P n dh Q (λa w=>wpAnyIn n.fence 0 P .any dh Q fuel (aX.setIfInBounds i true) a w) [o] l w)(hp:n.plain=false:=by rfl):WI P n dh Q (fuel+1) aX l w:=by
  intro a ha;refine⟨λh0=>(by rw [hr] at h0; cases h0),λj hj=>?_⟩;rw [hr] at hj;obtain rfl:=j4.1 hj;have h1:=h a ha;unfold Wj at h1;unfold wpOpIn;rw [hi];show(if Region.wanted o (yielded dh a.tmps) then _ else _)
  split
  · rename_i hw
    rw [aO hw] at h1;unfold opw at h1;rw [hp] at h1;exact h1
  · rename_i hw
    rw [aK hw] at h1;exact⟨λ_ _=>trivial,h1⟩
theorem WI.nx(k:WI P n dh Q fuel aX l w):WL P n dh Q (λa w=>wpAnyIn n.fence 0 P .any dh Q fuel aX a w) [] l w:=λa ha=>k a ha
theorem WI.dn{y:Code}(hr:Region.ready .any dh aX=[])(h:WP P n y l w Q):WI P n dh (Exit.then (Ot P n y Q) Q) fuel aX l w:=λa ha=>by
  cases fuel with
  | zero=>exact⟨hr,h a ha⟩
  | succ f=>exact⟨λ_=>h a ha,by rw [hr]; simp⟩
theorem Has.more{a:Act}(h:Has n l a):∀ {B:List (Nat × Value)},(∀ q∈B,a.tmps.getD q.1 undef=q.2)->Has n (B++l) a
  | [],_=>h
  | q::B,hB=>by
    have h1:=Has.more h (B:=B) λq hq=>hB q (by simp [hq]);refine⟨h.defers,h.size,λi v hv=>?_⟩
    simp only [aax,look] at hv
    cases hb:Nat.beq q.1 i with
    | true=>simp [hb] at hv; subst hv; rw [<- Oo hb]; exact hB q av
    | false=>simp [hb] at hv; exact h1.get i v hv
theorem aeP{A:List (Nat × Nat × Value)}(hd:A.Pairwise λp q=>p.2.1≠q.2.1){p q:Nat × Nat × Value}(hp:p∈A)(hq:q∈A)(hne:p≠q):p.2.1≠q.2.1:=by
  induction A with
  | nil=>simp at hp
  | cons x A ih=>
    have h:=pG.1 hd
    rcases iX.1 hp with hp' | hp' <;> rcases iX.1 hq with hq' | hq'
    · exact absurd (hp'.trans hq'.symm) hne
    · rw [hp']; exact h.1 q hq'
    · rw [hq']; exact λe=>h.1 p hp' e.symm
    · exact ih h.2 hp' hq'
theorem amd{a:Act}(h:k≠d):(a.put (some d) v).tmps.getD k undef=a.tmps.getD k undef:=by
  simp [Act.put,DT,ajS (Ne.symm h)]
theorem WI.block{S:World->Prop}(A:List (Nat × Nat × Value))(rest:Nat)(full:Array Bool)(hok:qV dh (A.map (·.1)) rest full fuel aX=true)(hd:nodupB (A.map (·.2.1))=true)(hfull:A.all (λp=>full.getD p.1 false)=true)(hl0:A.all (λp=>!aX.getD p.1 false)=true)
    (hq:∀ p∈A,Ee P n dh S l A p) (hS:S w) (k:∀ w',S w'->WI P n dh Q rest full (A.map (·.2)++l) w') (hp:n.plain=false:=by rfl):WI P n dh Q fuel aX l w:=by
  have key:∀(fuel:Nat)(aX:Array Bool)(a:Act)(w:World),qV dh (A.map (·.1)) rest full fuel aX=true->Has n l a->(∀ p∈A,aX.getD p.1 false=true->a.tmps.getD p.2.1 undef=p.2.2)->S w->wpAnyIn n.fence 0 P .any dh Q fuel aX a w:=by
    intro fuel
    induction fuel with
    | zero=>
      intro aX a w hb ha hv hS
      simp only [qV,bN,OT] at hb
      obtain⟨rfl,rfl⟩:=hb;refine k w hS a (ha.more λq hq=>?_);obtain⟨p,hpA,rfl⟩:=gQ.1 hq;exact hv p hpA (lI.1 hfull p hpA)
    | succ f ih=>
      intro aX a w hb ha hv hS;unfold qV at hb
      split at hb
      · rename_i he
        have he':aX=full:=eq_of_beq he;have hr':f+1=rest:=eq_of_beq hb;subst he' hr';refine k w hS a (ha.more λq hq=>?_);obtain⟨p,hpA,rfl⟩:=gQ.1 hq;exact hv p hpA (lI.1 hfull p hpA)
      · simp only [bN,eG,List.isEmpty_eq_false_iff,lI] at hb
        refine⟨λh0=>absurd h0 hb.1,λi hi=>?_⟩;have h1:=hb.2 i hi;have hmem:i∈A.map (·.1):=by simpa using h1.1
        obtain⟨p,hpA,rfl⟩:=gQ.1 hmem;obtain⟨o,ho,hdst,hblt,hnone,hqi⟩:=(hq p hpA).ex;obtain⟨hun,o',ho',hall⟩:=mem_ready.1 hi;rw [ho] at ho';obtain rfl:=abU ho'
        have hfr:Has n (Iy o A++l) a:=ha.more λq hq=>by
          obtain⟨p',hp',rfl⟩:=gQ.1 hq;obtain⟨h2,h3⟩:=nJ.1 hp';obtain⟨e,he,h4⟩:=Ed.1 h3
          simp only [bN,OT] at h4
          exact hv p' h2 (by rw [<- h4.2]; exact hall e (by simpa using he) h4.1)
        have next:∀ w',S w'->wpAnyIn n.fence 0 P .any dh Q f (aX.setIfInBounds p.1 true) (a.put (some p.2.1) p.2.2) w':=by
          intro w' hS';refine ih _ _ _ h1.2 ?_ (λq hqA hlq=>?_) hS'
          · have h5:=ha.put hblt p.2.2
            refine⟨h5.defers,h5.size,λj u hu=>h5.get j u ?_⟩;unfold look
            cases hb':Nat.beq p.2.1 j with
            | true=>rw [<- Oo hb',hnone] at hu; cases hu
            | false=>simpa [hb'] using hu
          · by_cases hd':q.2.1=p.2.1
            · have:q=p:=by
                by_cases e:q=p
                · exact e
                · exact absurd hd' (aeP (WC hd) hqA hpA e)
              subst this;exact(ha.put hblt _).get _ _ (by simp [look])
            · rw [amd hd']
              refine hv q hqA ?_
              by_cases e:p.1=q.1
              · exfalso
                obtain⟨o2,ho2,aw9,_⟩:=(hq q hqA).ex;rw [<- e,ho] at ho2;obtain rfl:=abU ho2;rw [hdst] at aw9;exact hd' (abU aw9).symm
              · rw [<- hlq]; simp only [DT,ajS e]
        unfold wpOpIn;rw [ho]
        rcases hqi a w hfr hS with ⟨hw,hrun⟩ | ⟨hw,hv'⟩
        · show(if Region.wanted o (yielded dh a.tmps) then _ else _)
          rw [aO hw];have aBI:∀ K,opw P n o a w K Q->o.wpIn n.fence 0 P a w K Q:=by intro K h; unfold opw at h; rw [hp] at h; exact h
          rcases hrun with hrun | ⟨g,args,hrun,hret⟩
          · exact aBI _ (Nl hrun (by rw [hdst]; exact next w hS))
          · refine aBI _ (aav hrun (Fq hret ?_))
            rintro e w' ⟨v,rfl,rfl,hS'⟩;exact⟨_,Y,by rw [hdst]; exact next w' hS'⟩
        · show(if Region.wanted o (yielded dh a.tmps) then _ else _)
          rw [aK (by rw [hw]; decide)];exact⟨λ_ _=>trivial,by rw [hdst,<- hv']; exact next w hS⟩
  intro a ha;exact key fuel aX a w hok ha (λp hpA hl=>by have:=lI.1 hl0 p hpA; rw [hl] at this; cases this) hS
end
def pR(g:Nat)(o:Obj):lH where
  W:=λb=>b=g
  ok:=λ_ w=>w.heap[g]? = some o
  sub:=λ_ h=>h
  keep:=λ{_ w _} hm h=>(hm g (.inl rfl) (vW.1 h).1).trans h
section
variable {P:Program}{b w:World}{S:Nat->Prop}{rs rest F G:List lH}
theorem Hp.obj{o:Obj}(H:Hp b S w rs)(s:pE rs (pR g o) rest):w.heap[g]? = some o:=H.ok (pR g o) (s.perm.mem_iff.2 av)
theorem Hp.newObj(H:Hp b S w rs)(o:Obj):Hp b S (w.alloc o) (pR w.heap.size o::rs):=
  H.new (r:=pR w.heap.size o) (Ext.alloc w o) (λg hg=>by rw [show g=w.heap.size from hg]; simp) (World.alloc_heap_new w o)
theorem Hp.putObj{o:Obj}(H:Hp b S w rs)(s:pE rs (pR g o) rest)(o':Obj):Hp b S (w.putObj g o') (pR g o'::rest):=
  (H.sel s).put (r':=pR g o') ⟨rfl,rfl,rfl,av,λk hk hn=>World.putObj_heap_other hn,kV _⟩ (λg hg=>.inl hg) (World.putObj_heap_same (vW.1 (H.obj s)).1)
theorem Hp.comm(H:Hp b S w (F++G)):Hp b S w (G++F):=H.perm zK
def uN:=@Hp.comm
end
def Iter(P:Program)(f:FuncId)(caps:List Value){α:Type}(enc:α->List Value)(ys:List α)(b:World)(S:Nat->Prop)(G0:List lH):Prop:=
  ∀(lr:Nat)(Jf Jx:List α->List lH->Prop)(w:World)(F0:List lH),Hp b S w (F0++G0)->Jf [] F0->
    (∀ pre x W F G,Jf pre F->pre++[x] <+: ys->Hp b S W (F++(G0++G))->YieldAt Fence.wide 0 P lr (enc x).toArray W λe W'=>
      (e=.returned (.bool true)/\∃ F',Jf (pre++[x]) F'/\Hp b S W' (F'++(G0++G)))∨(e=.returned (.bool false)/\∃ F',Jx (pre++[x]) F'/\Hp b S W' (F'++(G0++G))))->
    CallsIn Fence.wide 0 P f (#[.func (.yield lr) #[] #[]]++caps.toArray) w λe w'=>(∃ v,e=.returned v)/\((∃ F',Jf ys F'/\Hp b S w' (F'++G0))∨(∃ pre F',Jx pre F'/\Hp b S w' (F'++G0)))
abbrev Cx.rnd(k lr:Nat):Cx:=⟨k,some lr,[],false⟩
abbrev Cx.marked(k D:Nat):Cx:=⟨k,none,[D],false⟩
def ajZ{α:Type}(b:World)(S:Nat->Prop)(G:List lH)(Jf:List α->List lH->Prop)(Jx:Code->List α->List lH->Prop)(pre:List α):Exit->Act->World->Prop
  | .normal,_,w=>∃ F,Jf pre F/\Hp b S w (F++G)
  | .ret,_,w=>∃ F,Jx .ret pre F/\Hp b S w (F++G)
  | .exit id,_,w=>∃ F,Jx (.exit id) pre F/\Hp b S w (F++G)
  | .goto t,_,w=>∃ F,Jx (.goto t) pre F/\Hp b S w (F++G)
  | _,_,_=>False
def axa{α:Type}(n:Cx)(b:World)(S:Nat->Prop)(G:List lH)(Mid:List α->α->List (Nat × Value)->List lH->Prop)(pre:List α)(x:α):Exit->Act->World->Prop
  | .normal,a,w=>∃ l1 F1,Has n l1 a/\Mid pre x l1 F1/\Hp b S w (F1++G)
  | _,_,_=>False
theorem KY:∀(ps:List Nat)(vs:List Value)(t:Array Value)(l:List (Nat × Value))(k:Nat),ps.length=vs.length->(∀ p∈ps,p<k)->t.size=k->(∀ i v,look l i=some v->t.getD i undef=v)->
    ((ps.zip vs).foldl (λt (p,v)=>t.setIfInBounds p v) t).size=k/\∀ i v,look ((ps.zip vs).reverse++l) i=some v->((ps.zip vs).foldl (λt (p,v)=>t.setIfInBounds p v) t).getD i undef=v
  | [],vs,t,l,k,_,_,hs,hl=>by
    simp only [List.zip_nil_left,List.foldl_nil,List.reverse_nil,KQ]
    exact⟨hs,hl⟩
  | p::ps,[],t,l,k,h,_,_,_=>by simp at h
  | p::ps,v::vs,t,l,k,h,hp,hs,hl=>by
    have hpk:=hp p av
    simp only [List.zip_cons_cons,sK,List.reverse_cons,oV,List.singleton_append]
    refine KY ps vs _ ((p,v)::l) k (by simpa using h) (λq hq=>hp q (by simp [hq])) (by simp [hs]) (λi u hu=>?_);unfold look at hu
    cases hb:Nat.beq p i with
    | true=>
      have:=Oo hb;subst this
      simp [hb] at hu
      subst hu
      simp [DT,hs,hpk]
    | false=>
      simp [hb] at hu
      have:=hl i u hu
      simpa [DT,ajS (ajR hb)] using this
section
variable {P:Program}{k:Nat}{l:List (Nat × Value)}{b w:World}{S:Nat->Prop}{Q:Exit->Act->World->Prop}
theorem WP.range{g:Operand}{ps:List Nat}{assign body:Code}{ys:List α}{F0 G0:List lH}(hg:iG l g=some (.func (.func f) #[] caps.toArray))(D5:bF P f)
    (hit:Iter P f caps enc ys b S G0) (H:Hp b S w (F0++G0)) (hps:∀ x,(enc x).length=ps.length) (hpk:ps.all (λp=>Nat.blt p k)=true)
    (Jf:List α->List lH->Prop) (Jx:Code->List α->List lH->Prop) (Mid:List α->α->List (Nat × Value)->List lH->Prop) (h0:Jf [] F0)
    (hassign:∀ lr pre x F G W,Jf pre F->pre++[x] <+: ys->Hp b S W (F++(G0++G))->WP P (.rnd k lr) assign ((ps.zip (enc x)).reverse++l) W (axa (.rnd k lr) b S (G0++G) Mid pre x))
    (hbody:∀ lr pre x l1 F1 G W,Mid pre x l1 F1->pre++[x] <+: ys->Hp b S W (F1++(G0++G))->WP P (.rnd k lr) body l1 W (ajZ b S (G0++G) Jf Jx (pre++[x])))
    (hdone:∀ D F w',Jf ys F->Hp b S w' (pR D (.deferred (some []))::(G0++F))->l8 (.marked k D) Q .normal l w')
    (hstop:∀ D c pre F w',Jx c pre F->Hp b S w' (pR D (.deferred (some []))::(G0++F))->WP P (.marked k D) c l w' Q) :
    WP P (.bare k) (.rangeFunc g ps.toArray assign body) l w Q:=by
  intro a ha;have hgv:=ha.eval hg;refine wpIn_rangeFunc λfn hfn=>?_;obtain⟨rec,hrec⟩:∃ rec:LoopState->Option Code->Loop,rec=λst pe=>{ state:=st,pending:=pe,fn,tmps:=a.tmps,params:=ps.toArray,assign,body,defers:=w.heap.size }:=⟨_,rfl⟩;have H1:=H.newObj (.deferred (some []));have H2:=H1.newObj (.loop (rec .ready none));obtain⟨W1,hW1⟩:∃ W1,(w.alloc (.deferred (some []))).alloc (.loop (rec .ready none))=W1:=⟨_,rfl⟩;have hsz:(w.alloc (.deferred (some []))).heap.size=w.heap.size+1:=by simp
  rw [hW1,hsz] at H2;obtain⟨D,hD⟩:∃ D,w.heap.size=D:=⟨_,rfl⟩;obtain⟨lr,hlr⟩:∃ lr,w.heap.size+1=lr:=⟨_,rfl⟩;rw [hlr,hD] at H2;refine⟨lr,[{ target:=.collected D,args:=#[] }],W1,{ target:=.fn (.func f) caps.toArray,args:=#[.func (.yield lr) #[] #[]] },W1,f,#[.func (.yield lr) #[] #[]]++caps.toArray,W1,?_,?_,λ_ _=>trivial,?_,(λh=>by cases h),?_⟩
  · rw [<- hW1,hrec,<- hD,<- hlr]; exact run_enterLoop_outer _ _ _ _ _
  · simp only [resolve,hgv]
    simp [go_sem]
  · simp only [invoke]
    exact D5 _ _
  · have Hn:Hp b S W1 ((pR lr (.loop (rec .ready none))::pR D (.deferred (some []))::F0)++G0):=H2
    refine(hit lr (λpre F'=>∃ F,F'=pR lr (.loop (rec .ready none))::pR D (.deferred (some []))::F/\Jf pre F)
      (λpre F'=>∃ c F,F'=pR lr (.loop (rec .done (some c)))::pR D (.deferred (some []))::F/\Jx c pre F) W1 _ Hn ⟨F0,rfl,h0⟩ ?_).mono ?_
    · rintro pre x W F' G ⟨F,rfl,hJ⟩ hpre Hw
      have aGI:W.heap[lr]? = some (.loop (rec .ready none)):=Hw.obj s0;have hy:=run_yield (P:=P) (args:=(enc x).toArray) aGI (by rw [hrec]; simp [hps]);rw [hrec] at hy;refine⟨fn,_,assign,body,hy,roundIn_of_wpIn trivial ?_⟩
      have Hw2:Hp b S W (F++(G0++(pR lr (.loop (rec .ready none))::pR D (.deferred (some []))::G))):=
        Hw.perm (by
          have:(pR lr (.loop (rec .ready none))::pR D (.deferred (some []))::F)++(G0++G)=[pR lr (.loop (rec .ready none)),pR D (.deferred (some []))]++(F++G0)++G:=by simp
          rw [this];refine(zK.append_right G).trans ?_;rw [oV,oV]
          exact KL _)
      have hfr:=KY ps (enc x) a.tmps l k (hps x).symm (λp hp=>by have:=lI.1 hpk p hp; simpa [Nat.blt_eq] using this) ha.size ha.get
      have aGJ:Has (.rnd k lr) ((ps.zip (enc x)).reverse++l) { tmps:=(ps.toArray.zip (enc x).toArray).foldl (λt (p,v)=>t.setIfInBounds p v) a.tmps,defers:=[] }:=by
        have he:(ps.toArray.zip (enc x).toArray).foldl (λt (p,v)=>t.setIfInBounds p v) a.tmps=(ps.zip (enc x)).foldl (λt (p,v)=>t.setIfInBounds p v) a.tmps:=by
          rw [List.zip_toArray,List.foldl_toArray]
        rw [he];exact⟨Y,hfr.1,hfr.2⟩
      have has:=hassign lr pre x F _ W hJ hpre Hw2 _ aGJ;refine wpIn_mono has ?_;rintro e a1 w1 hq
      cases e with
      | normal=>
        obtain⟨l1,F1,hh1,hmid,Hm⟩:=hq
        have hcp:∀ {FF GG:List lH} {o1 o2:Obj},(FF++(G0++(pR lr o1::pR D o2::GG))).Perm (pR lr o1::pR D o2::(FF++(G0++GG))):=λ{FF GG o1 o2}=>by
          rw [<- oV,<- oV];refine(zK).trans<|((zK).cons _).cons _
        have hcm:∀ {W':World} {FF GG:List lH} {o1 o2:Obj},Hp b S W' (FF++(G0++(pR lr o1::pR D o2::GG)))->Hp b S W' (pR lr o1::pR D o2::(FF++(G0++GG))):=λh=>h.perm hcp;have Hm1:=hcm Hm;refine⟨_,run_beginRound (Hm1.obj s0) (by rw [hrec]),?_⟩;have Hm2:=Hm1.putObj s0 (.loop { rec .ready none with state:=.busy });have Hm3:Hp b S (w1.putObj lr (.loop { rec .ready none with state:=.busy })) (F1++(G0++(pR lr (.loop { rec .ready none with state:=.busy })::pR D (.deferred (some []))::G))):=Hm2.perm hcp.symm;refine wpIn_mono (hbody lr pre x l1 F1 _ _ hmid hpre Hm3 a1 hh1) ?_
        have fin:∀(jump:Option Code)(W3:World)(F3:List lH),Hp b S W3 (F3++(G0++(pR lr (.loop { rec .ready none with state:=.busy })::pR D (.deferred (some []))::G)))->
            ∃ W4,(Instr.endRound lr jump).run P W3=.ok (.bool jump.isNone) W4/\Hp b S W4 ((pR lr (.loop (rec (if jump.isNone then .ready else .done) jump))::pR D (.deferred (some []))::F3)++(G0++G)):=λjump W3 F3 h3=>by
          have h4:=hcm h3;have h5:=run_endRound (P:=P) jump (h4.obj s0);have h6:=h4.putObj s0 (.loop (rec (if jump.isNone then .ready else .done) jump));rw [hrec] at h5 h6 ⊢;exact⟨_,h5,h6⟩
        rintro e a3 W3 hp3
        cases e with
        | normal=>
          obtain⟨F3,hJ3,h3⟩:=hp3;obtain⟨W4,hr4,h4⟩:=fin none W3 F3 h3;exact⟨_,_,hr4,.inl ⟨Y,_,⟨F3,Y,hJ3⟩,h4⟩⟩
        | ret=>
          obtain⟨F3,hJ3,h3⟩:=hp3;obtain⟨W4,hr4,h4⟩:=fin (some .ret) W3 F3 h3;exact⟨_,_,hr4,.inr ⟨Y,_,⟨.ret,F3,Y,hJ3⟩,h4⟩⟩
        | exit id=>
          obtain⟨F3,hJ3,h3⟩:=hp3;obtain⟨W4,hr4,h4⟩:=fin (some (.exit id)) W3 F3 h3;exact⟨_,_,hr4,.inr ⟨Y,_,⟨.exit id,F3,Y,hJ3⟩,h4⟩⟩
        | goto t=>
          obtain⟨F3,hJ3,h3⟩:=hp3;obtain⟨W4,hr4,h4⟩:=fin (some (.goto t)) W3 F3 h3;exact⟨_,_,hr4,.inr ⟨Y,_,⟨.goto t,F3,Y,hJ3⟩,h4⟩⟩
        | panic ch=>exact hp3.elim
        | outgrown=>exact hp3.elim
      | ret=>exact hq.elim
      | exit id=>exact hq.elim
      | goto t=>exact hq.elim
      | panic ch=>exact hq.elim
      | outgrown=>exact hq.elim
    · have hdf:({ a with defers:=[{ target:=.collected D,args:=#[] }]++a.defers }:Act).defers=(Cx.marked k D).defers:=by
        rw [ha.defers]; rfl
      rintro e W2 ⟨⟨v,rfl⟩,(⟨F',⟨F,rfl,hJ⟩,h2⟩ | ⟨pre,F',⟨c,F,rfl,hJ⟩,h2⟩)⟩
      · have h3:=run_endLoop (P:=P) (h2.obj s0) (by rw [hrec]; simp)
        have h4:=(h2.putObj s0 (.loop { rec .ready none with state:=.exhausted })).tail;refine⟨none,_,h3.trans (aR (λp=>Result.ok p _) (show(rec .ready none).pending=none by rw [hrec])),?_⟩;exact hdone D F _ hJ (Hp.perm (rs:=pR D (.deferred (some []))::(F++G0)) h4 (zK.cons _)) _ ⟨hdf,ha.size,ha.get⟩
      · have h3:=run_endLoop (P:=P) (h2.obj s0) (by rw [hrec]; simp)
        have h4:=(h2.putObj s0 (.loop { rec .done (some c) with state:=.exhausted })).tail;refine⟨some c,_,h3.trans (aR (λp=>Result.ok p _) (show(rec .done (some c)).pending=some c by rw [hrec])),?_⟩;exact hstop D c pre F _ hJ (Hp.perm (rs:=pR D (.deferred (some []))::(F++G0)) h4 (zK.cons _)) _ ⟨hdf,ha.size,ha.get⟩
end
def aeQ(P:Program)(l:List (Nat × Value))(w:World):List ResultVar->List Value->Prop
  | [],vs=>vs=[]
  | .tmp t::rs,vs=>∃ v us,vs=v::us/\look l t=some v/\aeQ P l w rs us
  | .cell a t::rs,vs=>∃ v us,vs=v::us/\(∃ p,look l a=some (.pointer (some p))/\(loadVar t p).run P w=.ok v w)/\aeQ P l w rs us
section
variable {P:Program}{n:Cx}{l:List (Nat × Value)}{b w:World}{S:Nat->Prop}
theorem WE(f:ResultVar->Sem Value)(a:Act)(hf:∀ t,f (.tmp t)=pure (a.tmps.getD t undef))(hc:∀ c t,f (.cell c t)=(do loadVar t (<- asAddr (a.tmps.getD c undef))))(ha:Has n l a):∀(rs:List ResultVar)(vs:List Value),aeQ P l w rs vs->(rs.mapM f).run P w=.ok vs w
  | [],vs,h=>by simp [aeQ] at h; subst h; rfl
  | .tmp t::rs,vs,h=>by
    obtain⟨v,us,rfl,h1,h2⟩:=h;have h3:=WE f a hf hc ha rs us h2;have hg:=ha.get t v h1
    simp only [List.mapM_cons,jF,kL,jG,hf,hg,h3]
  | .cell c t::rs,vs,h=>by
    obtain⟨v,us,rfl,⟨p,h1,hp⟩,h2⟩:=h;have h3:=WE f a hf hc ha rs us h2;have hg:=ha.get c _ h1
    have h4:(do loadVar t (<- asAddr (a.tmps.getD c undef)):Sem Value).run P w=.ok v w:=by
      simp [hg,asAddr,hp]
    simp only [List.mapM_cons,jF,kL,jG,hc,h3]
    rw [<- jF,h4]
    simp only [jG,h3,jF,kL]
theorem Bo{p:Addr}(hn:l9 P t)(hp:w.cell? p=some v):(loadVar t p).run P w=.ok v w:=by
  simp [loadVar,hn w,run_load,hp]
theorem jL{t':TypeId}{cs:List Value}(hn:Agg P t k)(hk:cs.length=k)(hb:Bx w g t' cs):(loadVar t ⟨g,0,none⟩).run P w=.ok (.agg cs.toArray) w:=by
  have h1:=abL (P:=P) w ⟨g,0,none⟩ cs (λj u hu=>by rw [F6,hb.cell]; simpa using hu);rw [hk] at h1
  simp [loadVar,hn.1 w,hn.2 w,h1]
theorem FC{a:Act}(ha:Has n l a)(hr:fn.results=rs.toArray)(h:aeQ P l w rs vs):(results fn a.tmps).run P w=.ok (uJ vs) w:=by
  unfold results;rw [hr,jF,List.mapM_toArray,Sem.run_map,WE (P:=P) (w:=w) _ a (λ_=>rfl) (λ_ _=>rfl) ha rs vs h]
  simp only [jG,kL]
  match vs with
  | []=>simp [uJ]
  | [v]=>simp [uJ]
  | u::v::vs=>simp [uJ]
theorem WP.aoX{c:Code}(hf:P.funcs[f]? = some fn)(hb:fn.body=some c)(hn:fn.ntmps=k)(hle:Nat.ble vs.length k=true)
    (h:WP P (.bare k) c (enum 0 vs) w (bodyPostM Fence.wide 0 P fn (RR R))):bS P f vs.toArray w R:=by
  refine(callsIn_wide (n:=0)).1 (callsIn_of_wp_marks hf hb trivial (h _ ⟨Y,?_,λi v hv=>?_⟩))
  · have:=pU hle
    simp [hn]; omega
  · obtain⟨_,h2⟩:=Nk vs 0 i v hv
    have hi:i<vs.length:=(nP.1 h2).1
    simp only [Qc] at h2
    have h3:=(nP.1 h2).2
    simp [Array.getElem?_append,hi,h3]
theorem l8.aGK(hr:fn.results=rs.toArray)(h:aeQ P l w rs vs)(hR:R (uJ vs) w):l8 (.bare k) (bodyPost P fn (RR R)) .ret l w:=by
  intro a ha;exact⟨ha.defers.trans Y,_,FC ha hr h,_,Y,hR⟩
def qA:=@l8.aGK
theorem l8.ame{D:Nat}(H:Hp b S w (pR D (.deferred (some []))::F))(hr:fn.results=rs.toArray)
    (h:∀ w',Hp b S w' F->∃ vs,aeQ P l w' rs vs/\R (uJ vs) w'):l8 (.marked k D) (bodyPostM Fence.wide 0 P fn (RR R)) .ret l w:=by
  intro a ha;show LeavesInM Fence.wide 0 P fn a.tmps (RR R) a.defers .returning w;rw [ha.defers];have h1:=run_takeDeferred (P:=P) (H.obj s0);have h2:=(H.putObj s0 (.deferred none)).tail;obtain⟨vs,h3,h4⟩:=h _ h2;refine⟨av,.inl ⟨D,_,rfl,h1,?_⟩⟩;exact⟨_,FC ha hr h3,_,Y,h4⟩
theorem l8.aGL(hr:fn.results=rs.toArray)(h:aeQ P l w rs vs)(hR:R (uJ vs) w):l8 (.bare k) (bodyPostM Fence.wide 0 P fn (RR R)) .ret l w:=by
  intro a ha;show LeavesInM Fence.wide 0 P fn a.tmps (RR R) a.defers .returning w;rw [ha.defers];exact⟨_,FC ha hr h,_,Y,hR⟩
theorem WL.yield{Q:Exit->Act->World->Prop}{K:Act->World->Prop}{dh:Array Oper}{os:List Oper}{pos:String}{mI:Array Edge}{lr:Nat}{R:Ending->World->Prop}{g:Option (Nat × Bool)}
    (hg:match g with | none=>True | some (j,bW)=>guardOf dh l j=some (.bool bW)) (hf:iG l KH=some (.func (.yield lr) #[] #[])) (hargs:EW l args=some vs) (hy:YieldAt Fence.wide 0 P lr vs.toArray w R) (hR:∀ e w',R e w'->∃ v,e=.returned v) (hd:Nat.blt d n.size=true) (hro:n.round=none) (hp:n.plain=false)
    (k:∀ v w',R (.returned v) w'->WL P n dh Q K os ((d,v)::l) w'):WL P n dh Q K (⟨some d,.call ⟨.value KH,args.toArray,tys⟩,ty,pos,mI,g⟩::os) l w:=by
  intro a ha;unfold Wj
  have hw:Region.wanted ⟨some d,.call ⟨.value KH,args.toArray,tys⟩,ty,pos,mI,g⟩ (yielded dh a.tmps)=true:=by
    match g,hg with
    | none,_=>rfl
    | some (j,bW),hg=>exact uG hg a ha
  rw [aO hw];unfold opw;rw [hp];obtain⟨fn,tmps,assign,body,hy1,hy2⟩:=hy;refine⟨λ_ _=>trivial,?_⟩
  have hrun:(execOp a.eval ⟨some d,.call ⟨.value KH,args.toArray,tys⟩,ty,pos,mI,g⟩).run P w=.ok (.round lr fn tmps assign body) w:=by
    unfold execOp;have h1:=ha.eval hf;have h2:=ha.UA hargs
    simp only [resolve,h1,Deferred.ofValue,jF,kL,jG,invoke]
    have:(#[]++Array.map a.eval args.toArray:Array Value)=vs.toArray:=by
      rw [tO,h2]; simp
    rw [this];exact hy1
  have hrd:n.fence.round=none:=hro;rw [hrd,Oper.semAt_none,hrun];rw [V9 hro];refine⟨λh=>(by cases h),RoundIn.mono hy2 ?_⟩;rintro e w' hq;obtain⟨v,rfl⟩:=hR e w' hq;exact k v w' hq _ (ha.put hd v)
end
section
variable {P:Program}{n:Cx}{l l':List (Nat × Value)}{b w:World}{S:Nat->Prop}{dh:Array Oper}{T:World->Prop}{op:Op}{ty:TypeId}{pos:String}{mI:Array Edge}{d j:Nat}{bW:Bool}{v:Value}
theorem Qi.ev(h:∀ w,T w->Ev P n l w op v):Qi P n dh T l ⟨some d,op,ty,pos,mI,none⟩ v:=λa w ha hT=>.inl ⟨gH a,.inl (h w hT _ a w rfl ha (pI w))⟩
def xu:=@Qi.ev
theorem Qi.evg(hg:guardOf dh l j=some (.bool bW))(h:∀ w,T w->Ev P n l w op v):Qi P n dh T l ⟨some d,op,ty,pos,mI,some (j,bW)⟩ v:=λa w ha hT=>.inl ⟨uG hg a ha,.inl (h w hT _ a w rfl ha (pI w))⟩
theorem Qi.pass{u:Value}(hg:guardOf dh l j=some u)(hv:unlike bW u=true):Qi P n dh T l ⟨some d,op,ty,pos,mI,some (j,bW)⟩ undef:=λa w ha hT=>.inr ⟨by
  show(yielded dh a.tmps j == some bW)=false;rw [DY ha hg]
  cases u <;> simp [unlike] at hv ⊢
  cases bW <;> simp_all,rfl⟩
theorem Qi.call(hf:iG l KH=some (.func (.func f) #[] caps.toArray))(hargs:EW l args=some vs)(hall:vs++caps=all)(D5:bF P f)
    (hc:∀ w,T w->bS P f all.toArray w λu w'=>u=v/\T w'):Qi P n dh T l ⟨some d,.call ⟨.value KH,args.toArray,tys⟩,ty,pos,mI,none⟩ v:=λa w ha hT=>.inl ⟨gH a,.inr ⟨f,all.toArray,DI rfl ha hf hargs hall D5 w,hc w hT⟩⟩
theorem Qi.aeG(hg:guardOf dh l j=some (.bool bW))(hf:iG l KH=some (.func (.func f) #[] caps.toArray))(hargs:EW l args=some vs)(hall:vs++caps=all)(D5:bF P f)
    (hc:∀ w,T w->bS P f all.toArray w λu w'=>u=v/\T w'):Qi P n dh T l ⟨some d,.call ⟨.value KH,args.toArray,tys⟩,ty,pos,mI,some (j,bW)⟩ v:=λa w ha hT=>.inl ⟨uG hg a ha,.inr ⟨f,all.toArray,DI rfl ha hf hargs hall D5 w,hc w hT⟩⟩
theorem l8.ap{F1:List lH}{Mid:List α->α->List (Nat × Value)->List lH->Prop}{x:α}{l1:List (Nat × Value)}(hM:Mid pre x l1 F1)(hs:Sb l l1)(H:Hp b S w (F1++G)):l8 n (axa n b S G Mid pre x) .normal l w:=λa ha=>⟨l1,F1,ha.sb hs,hM,H⟩
theorem l8.rn(hJ:Jf pre F)(H:Hp b S w (F++G)):l8 n (ajZ b S G Jf Jx pre) .normal l w:=λ_ _=>⟨F,hJ,H⟩
theorem l8.rr(hJ:Jx .ret pre F)(H:Hp b S w (F++G)):l8 n (ajZ b S G Jf Jx pre) .ret l w:=λ_ _=>⟨F,hJ,H⟩
theorem l8.rx{id:Nat}(hJ:Jx (.exit id) pre F)(H:Hp b S w (F++G)):l8 n (ajZ b S G Jf Jx pre) (.exit id) l w:=λ_ _=>⟨F,hJ,H⟩
theorem WP.ah3{c:Code}{y:Value}{R:Ending->World->Prop}(hf:P.funcs[f]? = some fn)(hb:fn.body=some c)(hn:fn.ntmps=k)(hle:Nat.ble (y::caps).length k=true)
    (h:WP P (.bare k) c (enum 0 (y::caps)) w (bodyPost P fn R)):CallsIn Fence.wide 0 P f (#[y]++caps.toArray) w R:=by
  have e:#[y]++caps.toArray=(y::caps).toArray:=by simp
  rw [e];refine callsIn_wide.2 (calls_of_wp hf hb (Oq.1 (h _ ⟨Y,?_,λi v hv=>?_⟩)))
  · have:=pU hle
    simp [hn] at this ⊢; omega
  · obtain⟨_,h2⟩:=Nk _ 0 i v hv
    have hi:i<(y::caps).length:=(nP.1 h2).1
    simp only [Qc] at h2
    have h3:=(nP.1 h2).2;have hi':i<(y::caps).toArray.size:=by simpa using hi
    simp only [DT,Array.getElem?_append_left hi',List.getElem?_toArray,h2,Option.getD_some]
theorem l8.amf{R:Ending->World->Prop}(hr:fn.results=#[])(hR:R (.returned (.tuple #[])) w):l8 (.bare k) (bodyPost P fn R) .ret l w:=by
  intro a ha;exact⟨ha.defers.trans Y,_,FC (rs:=[]) (vs:=[]) ha hr Y,hR⟩
theorem l8.aoY{R:Ending->World->Prop}(h:l8 (.bare k) (bodyPost P fn R) .ret l w):l8 (.bare k) (bodyPost P fn R) .normal l w:=h
end
section
variable {P:Program}{w:World}
theorem WG{kp:0<k}{j:Nat}{S:Nat->Prop}{us:List (Cells k)}(hT:P.underlying t=some (.slice e))(hI:lW P e k bytes)(ho:Own (zy k kp) e lo S w A c us)(hij:i<j)(hj:j<=us.length) :
    ∃ w',(Builtin.append_ #[t,t] ty #[.slice A i c,.slice (tQ A c j k) (us.length - j) (c - j)]).run P w=.ok (.slice A (i+(us.length - j)) c) w'/\Own (zy k kp) e lo S w' A c (us.take i++us.drop j)/\Og w w' (blk A)/\w'.heap.size=w.heap.size:=by
  have hcap:=(ho.sl (S':=Any) (λ_ _=>trivial) (λ_ _=>trivial)).cap;obtain⟨g,cur,rfl,hg,hb,hnc,hcm,hcl,ht⟩:=ho.open_ aj;obtain⟨inf,z,z1,z2,z3,z4,z5⟩:=hI.ex
  have hld:(Builtin.firstCells k (us.length - j) (.slice (tQ (some ⟨g,0,none⟩) c j k) (us.length - j) (c - j))).run P w=.ok (jv (us.drop j)).toArray w:=by
    by_cases hc:c=j
    · have h0:us.drop j=[]:=Bj aj
      have h1:us.length - j=0:=aj;unfold tQ;rw [aO hc,h0,h1];exact run_firstCells_some w k 0 ⟨g,0,none⟩ _ _ [] av (λj v hj=>by simp at hj)
    · rw [DJ hc]
      refine run_firstCells_some w k _ _ _ _ _ (by rw [jC,kW]) (λq v hq=>?_);rw [F6,hb.cell];rw [<- Iw,DW,<- ht,KN] at hq
      split at hq
      · exact hq
      · cases hq
  have hik:i*k<=us.length*k:=vH _ aj;have hnk:us.length*k<=cur.length:=by rw [hcl]; exact vH _ hnc
  have hdl:(jv (us.drop j)).length=(us.length - j)*k:=by rw [jC,kW]
  have hfit:i*k+(jv (us.drop j)).length<=cur.length:=by
    rw [hdl,<- rD,hcl]; exact vH _ aj
  have hst:=Sz P g (i*k) e (jv (us.drop j)) 0 cur.toArray w hb (by simpa using hfit) GU
  simp only [Nat.add_zero] at hst
  refine⟨_,?_,?_,tT w g (cur.take (i*k)++jv (us.drop j)++cur.drop (i*k+(jv (us.drop j)).length)).toArray,by simp [World.setRow]⟩
  · have hle:i+(us.length - j)<=c:=aj
    simp [Builtin.append_,kQ hT,sizeOf,typeInfo,z1,z3,Builtin.lenOf,hle,hld,F6]
    have e1:(⟨g,0,none⟩:Addr).add (i*k)=⟨g,i*k,none⟩:=by rw [F6]; simp
    rw [hst]
    simp
  · have hlen:(us.take i++us.drop j).length=i+(us.length - j):=by simp only [jd,fO,kW]; omega
    refine SG hg (KO w g _ _ e _ hb) (by rw [hlen]; omega) hcm (by rw [tV hfit]; exact hcl) ?_;rw [hlen,rY,<- Eb,<- ht,KP,F7 hik];have h1:(cur.take (i*k)).length=i*k:=by simp only [fO]; omega
    rw [SB (by simp only [jd,h1,hdl,<- rD]; exact kV _),iH (by simp only [jd,h1,hdl,<- rD]; exact kV _)]
end
section
variable {P:Program}{n:Cx}{l:List (Nat × Value)}{b w:World}{S:Nat->Prop}{rs rest:List lH}{Q:Exit->Act->World->Prop}{K:Act->World->Prop}{dh:Array Oper}{os:List Oper}{ty:TypeId}{pos:String}{mI:Array Edge}{d:Nat}
theorem abX{j:Nat}{y:Operand}(H:Hp b S w rs)(s:pE rs (aS τ e A c xs) rest)(hs:evd n l d x=some (.slice A (xs.take i).length c))(hy:iG l y=some (.slice (tQ A c j τ.k) (xs.drop j).length (c - j)))
    (hT:P.underlying t=some (.slice e)) (hI:lW P e τ.k bytes) (hij:i<j) (hj:j<=xs.length)
    (k:∀ w',Hp b S w' (aS τ e A c (xs.take i++xs.drop j)::rest)->WL P n dh Q K os ((d,.slice A (xs.take i++xs.drop j).length c)::l) w'):WL P n dh Q K (⟨some d,.call ⟨.builtin .append,#[x,y],#[t,t]⟩,ty,pos,mI,none⟩::os) l w:=by
  obtain⟨us,hU,hr⟩:=H.raw s;have hl:=hr.1;obtain⟨w',hrun,ho',hg,hz⟩:=WG (P:=P) (ty:=ty) hT hI hU hij (by rw [hl]; exact hj);have e1:(xs.take i).length=i:=by simp only [fO]; omega
  have e2:(xs.drop j).length=us.length - j:=by rw [kW,hl]
  have e3:(xs.take i++xs.drop j).length=i+(us.length - j):=by rw [jd,e1,e2]
  rw [e1] at hs;rw [e2] at hy;refine DZ (v:=.slice A (i+(us.length - j)) c) (λa _=>gH a) Y (tu hs).1 (R:=λw2=>w2=w') (λa ha=>⟨w',?_,Y⟩) λw2 e=>?_
  · unfold execOp
    simp only [resolve,jF,kL,jG,invoke,builtin,tO,nG,wP,ha.eval (tu hs).2,ha.eval hy,hrun]
  · rw [e,<- e3]
    exact k w' (H.back s ho' ((hr.take i).append (hr.drop j)) hg (λg hg'=>.inl hg'))
theorem WL.aGM{o:Oper}(hw:∀ a,Has n l a->Region.wanted o (yielded dh a.tmps)=true)(hdst:o.dst=none){R:World->Prop}
    (hrun:∀ a,Has n l a->∃ w',(execOp a.eval o).run P w=.ok (.value v) w'/\R w') (k:∀ w',R w'->WL P n dh Q K os l w'):WL P n dh Q K (o::os) l w:=by
  intro a ha;obtain⟨w',hr,hR⟩:=hrun a ha;unfold Wj;rw [aO (hw a ha)];refine Nl hr ?_;rw [hdst];exact k w' hR a ha
theorem aeR{m:Nat}(H:Hp b S w rs)(s:pE rs (aS τ e A c xs) rest)(hx:iG l x=some (.slice (tQ A c xs.length τ.k) m (c - xs.length)))(hT:P.underlying t=some (.slice e))(hz:u6 P e τ.k bytes)(hm:xs.length+m<=c)
    (k:∀ w',Hp b S w' (aS τ e A c xs::rest)->WL P n dh Q K os l w'):WL P n dh Q K (⟨none,.call ⟨.builtin .clear,#[x],#[t]⟩,ty,pos,mI,none⟩::os) l w:=by
  obtain⟨us,hU,hr⟩:=H.raw s;have hl:=hr.1;obtain⟨w',hrun,ho',hg,hz'⟩:=Wy (P:=P) (ty:=ty) (m:=m) hT hz hU (by rw [hl]; exact hm);rw [hl] at hrun;refine WL.aGM (v:=.tuple #[]) (λa _=>gH a) Y (R:=λw2=>w2=w') (λa ha=>⟨w',?_,Y⟩) λw2 e=>?_
  · unfold execOp
    simp only [resolve,jF,kL,jG,invoke,builtin,tO,nG,wP,ha.eval hx,hrun]
  · rw [e]
    exact k w' (H.back s ho' hr hg (λg hg'=>.inl hg'))
theorem Ev.aui{m hi mx:Nat}{kl kh km:IntKind}{zl zh zm:Int}{yl yh ym:Operand}(hu:P.underlying t=some (.slice e))(hs:Size P e k)(hx:iG l x=some (.slice A m c))(hl:iG l yl=some (.int kl zl))(hh:iG l yh=some (.int kh zh))(hm:iG l ym=some (.int km zm))
    (h1:zl=(lo:Int)) (h2:zh=(hi:Int)) (h3:zm=(mx:Int)) (h4:lo<=hi) (h5:hi<=mx) (h6:mx<=c):Ev P n l w (.slice t x (some yl) (some yh) (some ym)) (.slice (if mx=lo then A else A.map (·.add (lo*k))) (hi - lo) (mx - lo)):=λo a w' ho ha _=>by
  unfold execOp; rw [ho]
  have h7:(Instr.sliceAt t (.slice A m c) (some (.int kl zl)) (some (.int kh zh)) (some (.int km zm))).run P w'=.ok (.slice (if mx=lo then A else A.map (·.add (lo*k))) (hi - lo) (mx - lo)) w':=by
    rw [OO w' t _ _ _ _ (rV hu),run_slice_lhm w' t A m c (rV hu) kl kh km zl zh zm aj aj aj aj,Dj hu,hs w',h1,h2,h3]
    simp [sliced]
  simp [ha.eval hx,ha.eval hl,ha.eval hh,ha.eval hm,h7]
theorem Ev.auj{m hi:Nat}{kl kh:IntKind}{zl zh:Int}{yl yh:Operand}(hu:P.underlying t=some (.slice e))(hs:Size P e k)(hx:iG l x=some (.slice A m c))(hl:iG l yl=some (.int kl zl))(hh:iG l yh=some (.int kh zh))
    (h1:zl=(lo:Int)) (h2:zh=(hi:Int)) (h4:lo<=hi) (h6:hi<=c):Ev P n l w (.slice t x (some yl) (some yh) none) (.slice (tQ A c lo k) (hi - lo) (c - lo)):=λo a w' ho ha _=>by
  unfold execOp; rw [ho]
  have h7:(Instr.sliceAt t (.slice A m c) (some (.int kl zl)) (some (.int kh zh)) none).run P w'=.ok (.slice (tQ A c lo k) (hi - lo) (c - lo)) w':=by
    rw [OO w' t _ _ _ _ (rV hu),run_slice_lh w' t A m c (rV hu) kl kh zl zh aj aj aj,Dj hu,hs w',h1,h2]
    simp [sliced,tQ]
  simp [ha.eval hx,ha.eval hl,ha.eval hh,h7]
theorem Ev.nilCheck{p:Addr}(hx:iG l x=some (.pointer (some p))):Ev P n l w (.nilCheck x) (.pointer (some p)):=λo a w' ho ha _=>by
  unfold execOp; rw [ho]; simp [ha.eval hx]
def eX:=@Ev.nilCheck
end
def fZ{α:Type}(τ:Ty α)(e:TypeId)(L:List (Option Addr × Nat × List α)):lH where
  W:=λg=>∃ r∈L,blk r.1=some g
  ok:=λS w=>(∀ r∈L,Own τ e 0 S w r.1 r.2.1 r.2.2)/\L.Pairwise fun(p q:Option Addr × Nat × List α)=>∀ g,blk p.1=some g->blk q.1≠some g
  sub:=λhs h=>⟨λr hr=>(h.1 r hr).low (kV _) hs,h.2⟩
  keep:=λhm h=>⟨λr hr=>(h.1 r hr).keep λg hg=>hm g (hg.imp (λh=>⟨r,hr,h⟩) id),h.2⟩
def SI{α:Type}(τ:Ty α)(L:List (Option Addr × Nat × List α)):lH where
  W:=λ_=>False
  ok:=λS w=>∀ r∈L,Sl τ S w r.1 r.2.1 r.2.2
  sub:=λhs h=>λr hr=>(h r hr).sub hs
  keep:=λhm h=>λr hr=>(h r hr).keep λg hg=>hm g (.inr hg)
section
variable {α:Type}{τ:Ty α}{e:TypeId}{b w:World}{S:Nat->Prop}{rs rest xM:List lH}{L:List (Option Addr × Nat × List α)}
theorem Hp.aeS(H:Hp b S w rs)(τ:Ty α)(e:TypeId):Hp b S w (fZ τ e []::rs):=
  H.new (r:=fZ τ e []) (pI w) (λg ⟨r,hr,_⟩=>by simp at hr) ⟨λr hr=>by simp at hr,List.Pairwise.nil⟩
theorem Hp.join{r1 r2 r:lH}(H:Hp b S w (r1::r2::rs))(hW:∀ g,r.W g↔r1.W g∨r2.W g)(hok:∀ {S':Nat->Prop},r1.ok S' w->r2.ok S' w->(∀ g,r1.W g->¬ r2.W g)->r.ok S' w):Hp b S w (r::rs):=by
  have h1:=pG.1 H.dis;have h2:=pG.1 h1.2
  have hs:∀ g,Rd b S (r1::r2::rs) w g->Rd b S (r::rs) w g:=by
    rintro g (h | ⟨h3,h4,h5⟩)
    · exact .inl h
    · refine .inr ⟨h3,h4,λq hq=>?_⟩
      rcases iX.1 hq with rfl | hq
      · intro h; rcases(hW g).1 h with h | h
        · exact h5 r1 av h
        · exact h5 r2 av h
      · exact h5 q (by simp [hq])
  refine⟨H.ext,λq hq=>?_,λq hq g hg=>?_,pG.2 ⟨λq hq g hg=>?_,h2.2⟩⟩
  · rcases iX.1 hq with rfl | hq
    · exact q.sub hs (hok (H.ok r1 av) (H.ok r2 av) (h1.1 r2 av))
    · exact q.sub hs (H.ok q (by simp [hq]))
  · rcases iX.1 hq with rfl | hq
    · rcases(hW g).1 hg with h | h
      · exact H.lo r1 av g h
      · exact H.lo r2 av g h
    · exact H.lo q (by simp [hq]) g hg
  · rcases(hW g).1 hg with h | h
    · exact h1.1 q (by simp [hq]) g h
    · exact h2.1 q hq g h
theorem Hp.split{r1 r2 r:lH}(H:Hp b S w (r::rs))(hW:∀ g,r.W g↔r1.W g∨r2.W g)(hok:∀ {S':Nat->Prop},r.ok S' w->r1.ok S' w/\r2.ok S' w/\∀ g,r1.W g->¬ r2.W g):Hp b S w (r1::r2::rs):=by
  have h1:=pG.1 H.dis;have h0:=hok (H.ok r av)
  have hs:∀ g,Rd b S (r::rs) w g->Rd b S (r1::r2::rs) w g:=by
    rintro g (h | ⟨h3,h4,h5⟩)
    · exact .inl h
    · refine .inr ⟨h3,h4,λq hq=>?_⟩
      rcases iX.1 hq with rfl | hq
      · exact λh=>h5 r av ((hW g).2 (.inl h))
      · rcases iX.1 hq with rfl | hq
        · exact λh=>h5 r av ((hW g).2 (.inr h))
        · exact h5 q (by simp [hq])
  refine⟨H.ext,λq hq=>?_,λq hq g hg=>?_,pG.2 ⟨λq hq g hg=>?_,pG.2 ⟨λq hq g hg=>h1.1 q hq g ((hW g).2 (.inr hg)),h1.2⟩⟩⟩
  · rcases iX.1 hq with rfl | hq
    · exact q.sub hs h0.1
    · rcases iX.1 hq with rfl | hq
      · exact q.sub hs h0.2.1
      · exact q.sub hs (H.ok q (by simp [hq]))
  · rcases iX.1 hq with rfl | hq
    · exact H.lo r av g ((hW g).2 (.inl hg))
    · rcases iX.1 hq with rfl | hq
      · exact H.lo r av g ((hW g).2 (.inr hg))
      · exact H.lo q (by simp [hq]) g hg
  · rcases iX.1 hq with rfl | hq
    · exact h0.2.2 g hg
    · exact h1.1 q hq g ((hW g).2 (.inl hg))
theorem Hp.Qk{B:ah}{d:Nat}{xs:List α}(H:Hp b S w rs)(s:pE rs (aS τ e B d xs) rest)(s':pE rest (fZ τ e L) xM):Hp b S w (fZ τ e (L++[(B,d,xs)])::xM):=by
  have H1:Hp b S w (aS τ e B d xs::fZ τ e L::xM):=(H.sel s).perm (s'.perm.cons _);refine H1.join (λg=>?_) (λ{S'} h1 h2 h3=>?_)
  · constructor
    · rintro⟨r,hr,hg⟩
      rcases jN.1 hr with hr | hr
      · exact .inr ⟨r,hr,hg⟩
      · rw [j4.1 hr] at hg; exact .inl hg
    · rintro(h | ⟨r,hr,hg⟩)
      · exact⟨(B,d,xs),av,h⟩
      · exact⟨r,by simp [hr],hg⟩
  · refine⟨λr hr=>?_,y8.2 ⟨h2.2,OU _ _,λp hp q hq g hg hq'=>?_⟩⟩
    · rcases jN.1 hr with hr | hr
      · exact h2.1 r hr
      · rw [j4.1 hr]; exact h1
    · rw [j4.1 hq] at hq'
      exact h3 g hq' ⟨p,hp,hg⟩
theorem La{β:Type}{L:List β}{x:β}(hx:L[i]? = some x):L=L.take i++x::L.drop (i+1)/\L.eraseIdx i=L.take i++L.drop (i+1):=by
  have hi:=aJ hx
  constructor
  · rw [<- (nP.1 hx).2,List.getElem_cons_drop,uF]
  · exact OV L i
theorem Hp.BM{i:Nat}{B:ah}{d:Nat}{xs:List α}(H:Hp b S w rs)(s:pE rs (fZ τ e L) rest)(hx:L[i]? = some (B,d,xs)):Hp b S w (aS τ e B d xs::fZ τ e (L.eraseIdx i)::rest):=by
  obtain⟨e1,e2⟩:=La hx;refine(H.sel s).split (λg=>?_) (λ{S'} h=>?_)
  · constructor
    · rintro⟨r,hr,hg⟩
      rw [e1] at hr
      rcases jN.1 hr with hr | hr
      · exact .inr ⟨r,by rw [e2]; simp [hr],hg⟩
      · rcases iX.1 hr with rfl | hr
        · exact .inl hg
        · exact .inr ⟨r,by rw [e2]; simp [hr],hg⟩
    · rintro(h | ⟨r,hr,hg⟩)
      · exact⟨(B,d,xs),xg hx,h⟩
      · rw [e2] at hr
        refine⟨r,?_,hg⟩;rw [e1]
        rcases jN.1 hr with hr | hr <;> simp [hr]
  · have h1:∀ r∈L.eraseIdx i,r∈L:=λr hr=>List.mem_of_mem_eraseIdx hr
    have h2:=h.2;rw [e1] at h2;obtain⟨h3,h4,h5⟩:=y8.1 h2;obtain⟨h6,h7⟩:=pG.1 h4;refine⟨h.1 _ (xg hx),⟨λr hr=>h.1 r (h1 r hr),?_⟩,?_⟩
    · rw [e2]; exact y8.2 ⟨h3,h7,λp hp q hq=>h5 p hp q (by simp [hq])⟩
    · rintro g hg ⟨r,hr,hg'⟩
      rw [e2] at hr
      rcases jN.1 hr with hr | hr
      · exact h5 r hr (B,d,xs) av g hg' hg
      · exact h6 r hr g hg hg'
theorem Hp.Dk{i:Nat}{x0:Option Addr × Nat × List α}{B:ah}{d:Nat}{xs:List α}(H:Hp b S w rs)(hx:L[i]? = some x0)(s:pE rs (aS τ e B d xs) rest)(s':pE rest (fZ τ e (L.eraseIdx i)) xM):Hp b S w (fZ τ e (L.set i (B,d,xs))::xM):=by
  have H1:Hp b S w (aS τ e B d xs::fZ τ e (L.eraseIdx i)::xM):=(H.sel s).perm (s'.perm.cons _);obtain⟨e1,e2⟩:=La hx;have hi:=aJ hx;have e3:L.set i (B,d,xs)=L.take i++(B,d,xs)::L.drop (i+1):=by rw [List.set_eq_take_append_cons_drop,aO hi]
  refine H1.join (λg=>?_) (λ{S'} h1 h2 h3=>?_)
  · constructor
    · rintro⟨r,hr,hg⟩
      rw [e3] at hr
      rcases jN.1 hr with hr | hr
      · exact .inr ⟨r,by rw [e2]; simp [hr],hg⟩
      · rcases iX.1 hr with rfl | hr
        · exact .inl hg
        · exact .inr ⟨r,by rw [e2]; simp [hr],hg⟩
    · rintro(h | ⟨r,hr,hg⟩)
      · exact⟨(B,d,xs),by rw [e3]; simp,h⟩
      · rw [e2] at hr
        refine⟨r,?_,hg⟩;rw [e3]
        rcases jN.1 hr with hr | hr <;> simp [hr]
  · rw [e2] at h2 h3
    obtain⟨h4,h5,h6⟩:=y8.1 h2.2;refine⟨λr hr=>?_,?_⟩
    · rw [e3] at hr
      rcases jN.1 hr with hr | hr
      · exact h2.1 r (by simp [hr])
      · rcases iX.1 hr with rfl | hr
        · exact h1
        · exact h2.1 r (by simp [hr])
    · rw [e3]
      refine y8.2 ⟨h4,pG.2 ⟨λq hq g hg hg'=>h3 g hg ⟨q,by simp [hq],hg'⟩,h5⟩,λp hp q hq g hg hg'=>?_⟩
      rcases iX.1 hq with rfl | hq
      · exact h3 g hg' ⟨p,by simp [hp],hg⟩
      · exact h6 p hp q hq g hg hg'
theorem Hp.ayo{B:ah}{d:Nat}{xs:List α}(H:Hp b S w rs)(s:pE rs (SI τ L) rest)(hx:(B,d,xs)∈L):Sl τ (Rd b S rs w) w B d xs:=H.ok (SI τ L) (s.perm.mem_iff.2 av) _ hx
theorem Hp.WJ(H:Hp b S w rs)(s:pE rs (fZ τ e L) rest):Hp b S w (SI τ L::rest):=by
  have H1:=H.sel s;have hd:=pG.1 H1.dis
  have hs:∀ g,Rd b S (fZ τ e L::rest) w g->Rd b S (SI τ L::rest) w g:=by
    rintro g (h | ⟨h3,h4,h5⟩)
    · exact .inl h
    · refine .inr ⟨h3,h4,λq hq=>?_⟩
      rcases iX.1 hq with rfl | hq
      · exact λh=>h
      · exact h5 q (by simp [hq])
  refine⟨H.ext,λq hq=>?_,λq hq g hg=>?_,pG.2 ⟨λq hq g hg=>hg.elim,hd.2⟩⟩
  · rcases iX.1 hq with rfl | hq
    · intro r hr
      have h6:Own τ e 0 (Rd b S (fZ τ e L::rest) w) w r.1 r.2.1 r.2.2:=(H1.ok (fZ τ e L) av).1 r hr;refine h6.slb (λg hg=>?_) hs;have h8:=H1.lo (fZ τ e L) av g ⟨r,hr,hg⟩;refine .inr ⟨h8.1,h8.2,λq hq=>?_⟩
      rcases iX.1 hq with rfl | hq
      · exact λh=>h
      · exact hd.1 q hq g ⟨r,hr,hg⟩
    · exact q.sub hs (H1.ok q (by simp [hq]))
  · rcases iX.1 hq with rfl | hq
    · exact hg.elim
    · exact H1.lo q (by simp [hq]) g hg
theorem Hp.ayp{β γ:Type}{σ:Ty β}{ρ:Ty γ}{xs:List β}{ys:List γ}(H:Hp b S w rs)(s:pE rs (aS σ e A c xs) rest)(hk:σ.k=ρ.k)(hl:ys.length=xs.length)
    (hR:∀(i:Nat)(x:β)(y:γ)(cs:List Value),xs[i]? = some x->ys[i]? = some y->σ.R (Rd b S rs w) w x cs->ρ.R (Rd b S rs w) w y cs):Hp b S w (aS ρ e A c ys::rest):=by
  have hsub:∀ g,Rd b S rs w g->Rd b S (aS σ e A c xs::rest) w g:=Rd.perm s.perm;refine(H.sel s).put (r':=aS ρ e A c ys) ⟨Y,Y,Y,kV _,λ_ _ _=>Y,kV _⟩ (λg hg=>.inl hg) ?_;obtain⟨css,h1,h2,h3⟩:=H.ow s;refine Own.low (lo:=b.heap.size) ⟨css,by rw [h1,hl],λi y hy=>?_,?_⟩ (fJ _) hsub
  · obtain⟨x,hx⟩:=bC (xs:=xs) (i:=i) (by rw [<- hl]; exact aJ hy)
    obtain⟨cs,h4,h5⟩:=h2 i x hx;exact⟨cs,h4,hR i x y cs hx hy h5⟩
  · rw [hk,<- hl] at h3
    exact h3
end
theorem Ext.auk{w':World}(e:Ext w w'):∃(q:Nat)(os':Array Obj),w'=Go.Sort.grow (w.drewN q) os':=by
  refine⟨w'.drawn - w.drawn,w'.heap.extract w.heap.size w'.heap.size,?_⟩;obtain⟨e1,e2,e3,e4,e5,e6⟩:=e;obtain⟨h,t,d,o,out⟩:=w;obtain⟨h',t',d',o',out'⟩:=w'
  simp only at e1 e2 e3 e4 e5 e6
  subst e1 e2 e3;have hd:d+(d' - d)=d':=aj
  have hh:h++h'.extract h.size h'.size=h':=by
    apply Array.ext_getElem?;intro i
    by_cases hi:i<h.size
    · rw [Array.getElem?_append_left hi]; exact(e5 i hi).symm
    · rw [Array.getElem?_append_right aj,Array.getElem?_extract]
      by_cases hj:i<h'.size
      · rw [aO aj]; congr 1; omega
      · rw [aK aj,at0 aj]
  simp only [Go.Sort.grow,World.drewN,hd,hh]
theorem WK[Inhabited α](hk:∀ x,(enc x).length=k)(ys:List α):(Go.Sort.flatK enc k ys.toArray).toList=(ys.map enc).flatten:=by
  apply Gg;intro j
  have hl:((ys.map enc).flatten).length=ys.length*k:=by
    induction ys with
    | nil=>simp
    | cons y ys ih=>simp only [nG,CV,jd,hk,ih,pF,rD,aau]; omega
  by_cases hj:j<ys.length*k
  · have hk0:0<k:=by
      rcases abV k with h | h
      · subst h; omega
      · exact h
    have hlt:j / k<ys.length:=(Nat.div_lt_iff_lt_mul hk0).2 hj;have hm:j % k<k:=Nat.mod_lt _ hk0;obtain⟨y,hy⟩:=bC (xs:=ys) hlt;have hyj:ys[j / k]! = y:=by rw [WA,hy]; rfl
    have hc:(enc y)[j % k]? = some (enc y)[j % k]!:=by
      obtain⟨u,hu⟩:=bC (xs:=enc y) (i:=j % k) (by rw [hk]; exact hm);rw [WA,hu]; rfl
    have h2:=Qd (k:=k) (ys.map enc) (by intro cs hcs; obtain⟨x,_,rfl⟩:=gQ.1 hcs; exact hk x) (j / k) (enc y) (by rw [lK,hy]; rfl) (j % k) _ hc;rw [Nat.div_add_mod' j k] at h2;rw [h2,D9];have hj':j<(Go.Sort.flatK enc k ys.toArray).size:=by rw [abW]; simpa using hj
    rw [KR hj',<- SC _ j hj',Go.Sort.get_flatK enc k ys.toArray j (by simpa using hj)]
    simp [hyj]
  · rw [yP (by rw [Wx,abW]; simpa using Nat.le_of_not_lt hj),yP (by rw [hl]; omega)]
theorem aeT{F:Array Value}(hb:w.heap[g]? = some (.cells cur e (0,0)))(ht:cur.toList.take F.size=F.toList):Go.Sort.Holds id w g 0 F:=by
  intro j hj;refine⟨?_,by simp [World.frozen?,hb]⟩;have h1:(cur.toList.take F.size)[j]? = F.toList[j]?:=by rw [ht]
  rw [OW hj] at h1
  simp only [World.cell?,hb,J5]
  simp only [Option.isSome_none,WB,if_false]
  rw [<- D9,h1,D9,SC F j hj,KR hj]; rfl
theorem heap_sorted{n:Nat}{F:Array Value}{fr:Nat × Nat}(hb:w.heap[g]? = some (.cells cur e fr)) :
    (Go.Sort.grow (Go.Sort.putRow id (Go.Sort.ahead w n) g 0 F) os).heap[g]? = some (.cells (Go.Sort.putCells id 0 F cur) e fr):=by
  have hg:g<w.heap.size:=(vW.1 hb).1;rw [Go.Sort.heap_grow_old _ _ (by simpa using hg)]
  simp [Go.Sort.putRow,Go.Sort.mapBlock,Go.Sort.ahead,aoH,hb,Go.Sort.onCells]
theorem SK[Inhabited α]{enc:α->Value}{b:World}{W:Nat->Prop}{n:Nat}{F:Array α}(hW:W g):Wr b w (Go.Sort.grow (Go.Sort.putRow enc (Go.Sort.ahead w n) g 0 F) os) W:=by
  refine⟨Y,Y,Y,av,λk hk hne=>?_,?_⟩
  · rw [Go.Sort.heap_grow_old _ _ (by simpa using hk)]
    have:g≠k:=λe=>hne (e▸hW)
    simp [Go.Sort.putRow,Go.Sort.mapBlock,Go.Sort.ahead,aoH,this]
  · show w.drawn<=w.drawn+n; omega
theorem aeU(cur F:Array Value)(h:F.size<=cur.size):(Go.Sort.putCells id 0 F cur).toList.take F.size=F.toList:=by
  apply Gg;intro j
  by_cases hj:j<F.size
  · rw [OW hj,D9,D9]
    simp [Go.Sort.putCells,hj,show j<cur.size by omega]
  · rw [List.getElem?_take_eq_none aj,yP (by simp; omega)]
section
variable {P:Program}{b w:World}{S:Nat->Prop}{F:List lH}
theorem Own.SL{h1:∀ x,∀ u∈enc x,u.oneCell'=true}(h:Own (Ty.flat k enc pos hl h1) e lo S w A c xs)(hne:xs≠[]) :
    ∃ g cur,A=some ⟨g,0,none⟩/\lo<=g/\w.heap[g]? = some (.cells cur e (0,0))/\xs.length<=c/\c<=maxLen/\cur.size=c*k/\cur.toList.take (xs.length*k)=(xs.map enc).flatten:=by
  obtain⟨css,c1,c2,c3⟩:=h
  have aGN:css=xs.map enc:=by
    apply Gg;intro i;rw [lK]
    cases hi:xs[i]? with
    | none=>have:=Wv.1 hi; rw [yP aj]; rfl
    | some x=>
      obtain⟨cs,h5,h6⟩:=c2 i x hi;rw [h5,show cs=enc x from h6]; rfl
  rcases c3.2 with ⟨hv,hn⟩ | ⟨g,cap,cur,hv,hg,hh,hnc,hcm,hcs,ht⟩
  · exact absurd (uE hn) hne
  · injection hv with hA hn' hc'
    subst hA hc';exact⟨g,cur,Y,hg,hh,hnc,hcm,hcs,by rw [<- aGN]; exact ht⟩
theorem Own.SN{h1:∀ x,∀ u∈enc x,u.oneCell'=true}(hg:lo<=g)(hh:w.heap[g]? = some (.cells cur e (0,0)))(hnc:xs.length<=c)(hcm:c<=maxLen)(hcs:cur.size=c*k)(ht:cur.toList.take (xs.length*k)=(xs.map enc).flatten) :
    Own (Ty.flat k enc pos hl h1) e lo S w (some ⟨g,0,none⟩) c xs:=by
  have hlen:∀ ys:List α,((ys.map enc).flatten).length=ys.length*k:=by
    intro ys
    induction ys with
    | nil=>simp
    | cons y ys ih=>simp only [nG,CV,jd,hl,ih,pF,rD,aau]; omega
  exact⟨xs.map enc,av,λi x hx=>⟨enc x,by rw [lK,hx]; rfl,rfl⟩,hlen xs,.inr ⟨g,c,cur,rfl,hg,hh,hnc,hcm,hcs,ht⟩⟩
theorem Hp.sorted[Inhabited α]{h1:∀ x,∀ u∈enc x,u.oneCell'=true}{e n:Nat}{ys:List α}(H:Hp b S w (aS (Ty.flat k enc pos hl h1) e (some ⟨g,0,none⟩) c xs::F))
    (hh:w.heap[g]? = some (.cells cur e (0,0))) (hnc:xs.length<=c) (hcm:c<=maxLen) (hcs:cur.size=c*k) (hy:ys.length=xs.length) :
    Hp b S (sortWorldK enc k w g 0 n ys.toArray os) (aS (Ty.flat k enc pos hl h1) e (some ⟨g,0,none⟩) c ys::F):=by
  have hsz:(Go.Sort.flatK enc k ys.toArray).size=ys.length*k:=by rw [abW]; simp
  have hle:ys.length*k<=c*k:=vH k aj;refine H.put (r':=aS (Ty.flat k enc pos hl h1) e (some ⟨g,0,none⟩) c ys) (SK (show(aS (Ty.flat k enc pos hl h1) e (some ⟨g,0,none⟩) c xs).W g from Y)) (λq hq=>.inl hq)<|Own.SN (fJ _) (heap_sorted hh) aj hcm (by simp [Go.Sort.putCells,hcs]) ?_
  have h2:=aeU cur (Go.Sort.flatK enc k ys.toArray) (by rw [hsz,hcs]; exact hle);rw [hsz,WK hl] at h2;exact h2
open Go.Sort in
theorem aBJ(L:SlLaysF0.n6 P ρ)[Inhabited α]{h1:∀ x,∀ u∈enc x,u.oneCell'=true}(aE:∀ w,(isAgg (ρ.t 24)).run P w=.ok true w)(zE:∀ w,(Go.sizeOf (ρ.t 24)).run P w=.ok k w)
 (hO:SWO (ltOf cf)) {cb:Array Value} {e:Nat} (H:Hp b S w (aS (Ty.flat k enc pos hl h1) e A c xs::F)) (eg:∀ args w,(callFunc g args).run P w=.ok (.enter g args) w) (hn:xs.length<=1000000) (hne:xs≠[])
    (hcmp:∀(w':World)(ys:List α),ys.length=xs.length->Hp b S w' (aS (Ty.flat k enc pos hl h1) e A c ys::F)->∀ x y:α,bS P g (#[.agg (enc x).toArray,.agg (enc y).toArray]++cb) w' λv w''=>v=aF (cf x y)/\Ext w' w'') :
    bS P (ρ.f 6) #[.slice A xs.length c,.func (.func g) #[] cb] w λv w'=>v=.tuple #[]/\∃ ys:List α,ys.Perm xs/\(ys.Pairwise λx y=>¬ cf y x<0)/\Hp b S w' (aS (Ty.flat k enc pos hl h1) e A c ys::F):=by
  obtain⟨q,cur,rfl,hq,hh,hnc,hcm,hcs,ht⟩:=Own.SL (H.ow s0) hne;have hqs:q<w.heap.size:=(vW.1 hh).1
  have hH:Go.Sort.HoldsK enc k w q 0 xs.toArray:=by
    refine aeT hh ?_;rw [WK hl,abW]; simpa using ht
  have hc:CmpLays P g cb enc k cf q 0 xs.toArray.size w:=by
    intro m os dk hdk x y;obtain⟨ys,rfl⟩:∃ ys:List α,dk=ys.toArray:=⟨dk.toList,av⟩;have hy:ys.length=xs.length:=by simpa using hdk
    have h3:=hcmp _ ys hy (H.sorted (n:=m) (os:=os) hh hnc hcm hcs hy) x y;refine Fq h3 ?_;rintro e' w' ⟨v,rfl,rfl,ex⟩;obtain⟨q',os',hw⟩:=ex.auk;exact⟨Y,q',os',hw⟩
  have h4:=AnyQ.slices_SortFunc L k aE zE enc hl h1 cf hO g cb q 0 c xs.toArray w eg hc hH hqs (by simp; omega)
  simp only [OM] at h4
  refine Fq h4 ?_;rintro e' w' ⟨rfl,d',n,os,hp,hs,rfl⟩;obtain⟨ys,rfl⟩:∃ ys:List α,d'=ys.toArray:=⟨d'.toList,av⟩;have hsz:ys.length=xs.length:=by simpa using hp.1
  refine⟨_,Y,Y,ys,?_,?_,H.sorted hh hnc hcm hcs hsz⟩
  · have:=hp.2.2
    simp only [OM,List.extract_toArray,List.extract_eq_drop_take,List.drop_zero,Qc] at this
    rwa [iH aj,iH (kV _)] at this
  · rw [DX]
    intro i j hi hj hij hlt;have:=hs i j (fJ _) hij aj
    simp only [ltOf] at this
    rw [SC ys.toArray j (by simpa using hj),SC ys.toArray i (by simpa using hi)] at this
    simp only [List.getElem_toArray] at this
    simp at this
    omega
open Go.Sort in
theorem ayq(L:SlLaysF0.n6 P ρ){fv:Value}{e:Nat}(H:Hp b S w (aS τ e A c xs::F))(hne:xs=[]) :
    bS P (ρ.f 6) #[.slice A xs.length c,fv] w λv w'=>v=.tuple #[]/\Hp b S w' (aS τ e A c xs::F):=by
  subst hne;refine Fq (AnyF.slices_SortFunc_none L A c fv w) ?_;rintro e' w' ⟨rfl,rfl⟩;exact⟨_,Y,Y,H⟩
theorem GX:∀ zs:List Int,(zs.map λx:Int=>[Value.int .i64 x]).flatten=zs.map (Value.int .i64)
  | []=>rfl
  | z::zs=>by simp [GX zs]
open Go.Sort in
theorem sorti(L:Lays.n189 P ρ){e:Nat}{xs:List Int}{hl:∀ x:Int,([Value.int .i64 x]:List Value).length=1}{pos:0<1}{h1:∀ x:Int,∀ u∈([Value.int .i64 x]:List Value),u.oneCell'=true}(H:Hp b S w (aS (Ty.flat 1 (λx:Int=>[aF x]) pos hl h1) e A c xs::F))(hn:xs.length<=1000000) :
    bS P (ρ.f 189) #[.slice A xs.length c] w λv w'=>v=.tuple #[]/\Hp b S w' (aS (Ty.flat 1 (λx:Int=>[aF x]) pos hl h1) e A c (xs.mergeSort λx y=>decide (x<=y))::F):=by
  by_cases hne:xs=[]
  · subst hne
    refine Fq (Any.slices_Sort_int_none L A c w) ?_;rintro e' w' ⟨rfl,rfl⟩;exact⟨_,Y,Y,by simpa using H⟩
  · obtain⟨q,cur,rfl,hq,hh,hnc,hcm,hcs,ht⟩:=Own.SL (H.ow s0) hne
    have hqs:q<w.heap.size:=(vW.1 hh).1;have hH:Holds (Value.int .i64) w q 0 xs.toArray:=holds_of_blockI hh (by rw [<- GX,<- ht,Nat.mul_one]);refine Fq (Any.slices_Sort_int L q 0 c xs w hH hqs aj) ?_;rintro e' w' ⟨rfl,n,os,rfl⟩;have hsz:(xs.mergeSort λx y=>decide (x<=y)).length=xs.length:=KW _;refine⟨_,Y,Y,H.put (r':=aS (Ty.flat 1 (λx:Int=>[aF x]) pos hl h1) e (some ⟨q,0,none⟩) c (xs.mergeSort λx y=>decide (x<=y))) (SK (show(aS (Ty.flat 1 (λx:Int=>[aF x]) pos hl h1) e (some ⟨q,0,none⟩) c xs).W q from Y)) (λq hq=>.inl hq) ?_⟩;refine Own.SN (fJ _) (heap_sortedI _ hh) aj hcm (by simp [putCells,hcs]) ?_;rw [Nat.mul_one,GX];exact take_putCellsI cur _ (by rw [hsz,hcs]; omega)
open Go.Sort in
theorem aBK(L:Lays2.n20 P ρ){e:Nat}{xs:List Int}{hl:∀ x:Int,([Value.int .i64 x]:List Value).length=1}{pos:0<1}{h1:∀ x:Int,∀ u∈([Value.int .i64 x]:List Value),u.oneCell'=true}(H:Hp b S w (aS (Ty.flat 1 (λx:Int=>[aF x]) pos hl h1) e A c xs::F))(hn:xs.length<=1000000) :
    bS P (ρ.f 20) #[.slice A xs.length c] w λv w'=>v=.slice A (Lib.compact xs).length c/\Hp b S w' (aS (Ty.flat 1 (λx:Int=>[aF x]) pos hl h1) e A c (Lib.compact xs)::F):=by
  by_cases hne:xs=[]
  · subst hne
    refine Fq (Any.slices_Compact_int_empty L A c w) ?_;rintro e' w' ⟨rfl,rfl⟩;exact⟨_,Y,Y,H⟩
  · obtain⟨q,cur,rfl,hq,hh,hnc,hcm,hcs,ht⟩:=Own.SL (H.ow s0) hne
    have hH:Holds (Value.int .i64) w q 0 xs.toArray:=holds_of_blockI hh (by rw [<- GX,<- ht,Nat.mul_one]);refine Fq (Any.slices_Compact_int L q 0 c xs w hH aj hnc) ?_;rintro e' w' ⟨rfl,n,rfl⟩
    have hle:(Lib.compact xs).length<=xs.length:=by
      simp only [Lib.compact,Lib.compactUpTo,jY]
      exact lV (mR _ _) av
    generalize hzs:Lib.compact xs++List.replicate (xs.length - (Lib.compact xs).length) 0=zs
    have hzl:zs.length=xs.length:=by rw [<- hzs]; simp; omega
    have hg:(putRow (Value.int .i64) (Go.Sort.ahead w n) q 0 zs.toArray)=grow (putRow (Value.int .i64) (Go.Sort.ahead w n) q 0 zs.toArray) #[]:=(grow_empty _).symm;refine⟨_,Y,Y,?_⟩;rw [hg];refine H.put (r':=aS (Ty.flat 1 (λx:Int=>[aF x]) pos hl h1) e (some ⟨q,0,none⟩) c (Lib.compact xs)) (SK (show(aS (Ty.flat 1 (λx:Int=>[aF x]) pos hl h1) e (some ⟨q,0,none⟩) c xs).W q from Y)) (λq hq=>.inl hq)<|Own.SN (fJ _) (heap_sortedI _ hh) aj hcm (by simp [putCells,hcs]) ?_
    rw [Nat.mul_one,GX];have h2:=take_putCellsI cur zs (by rw [hzl,hcs]; omega)
    have h3:(zs.map (Value.int .i64)).take (Lib.compact xs).length=(Lib.compact xs).map (Value.int .i64):=by
      rw [<- hzs,qc,List.take_left' av]
    rw [<- h3,<- h2,KP,F7 aj]
open Go.Sort in
theorem axb(L:SlLaysF0.n6 P ρ)[Inhabited α]{h1:∀ x,∀ u∈enc x,u.oneCell'=true}(aE:∀ w,(isAgg (ρ.t 24)).run P w=.ok true w)(zE:∀ w,(Go.sizeOf (ρ.t 24)).run P w=.ok k w)
 (hO:SWO (ltOf cf)) {cb:List Value} {e:Nat} (H:Hp b S w (aS (Ty.flat k enc pos hl h1) e A c xs::F)) (eg:∀ args w,(callFunc g args).run P w=.ok (.enter g args) w) (hn:xs.length<=1000000) (hu:∀ x∈xs,∀ y∈xs,¬ cf x y<0->¬ cf y x<0->x=y)
    (hcmp:∀(w':World)(ys:List α),ys.length=xs.length->Hp b S w' (aS (Ty.flat k enc pos hl h1) e A c ys::F)->∀ x y:α,bS P g (([.agg (enc x).toArray,.agg (enc y).toArray]:List Value)++cb).toArray w' λv w''=>v=aF (cf x y)/\Ext w' w'') :
    bS P (ρ.f 6) #[.slice A xs.length c,.func (.func g) #[] cb.toArray] w λv w'=>v=.tuple #[]/\Hp b S w' (aS (Ty.flat k enc pos hl h1) e A c (xs.mergeSort λx y=>!decide (cf y x<0))::F):=by
  by_cases hne:xs=[]
  · have h:=ayq L (fv:=.func (.func g) #[] cb.toArray) H hne
    refine h.mono ?_;rintro v w' ⟨rfl,K⟩;subst hne;exact⟨Y,by simpa using K⟩
  · have h:=aBJ L aE zE hO H eg hn hne (cb:=cb.toArray) (λw' ys hy K x y=>by have:=hcmp w' ys hy K x y; simpa using this)
    refine h.mono ?_;rintro v w' ⟨rfl,ys,hp,hs,K⟩
    have hms:(xs.mergeSort λx y=>!decide (cf y x<0)).Pairwise λx y=>¬ cf y x<0:=by
      have h:=List.pairwise_mergeSort (le:=λx y=>!decide (cf y x<0)) (λa b c h1 h2=>by
        have h3:=hO.ntrans c b a
        simp only [ltOf,eG,bV] at h1 h2 h3 ⊢
        exact h3 h2 h1) (λa b=>by
        by_cases h1:cf b a<0
        · by_cases h2:cf a b<0
          · have h3:=hO.trans a b a (by simp [ltOf,h2]) (by simp [ltOf,h1])
            rw [hO.irrefl] at h3; cases h3
          · simp [h2]
        · simp [h1]) xs
      exact h.imp (λ{a b} h=>by simpa using h)
    have he:ys=xs.mergeSort λx y=>!decide (cf y x<0):=
      List.Perm.eq_of_pairwise (le:=λx y=>¬ cf y x<0) (λa b ha hb h1 h2=>hu a (hp.mem_iff.1 ha) b (List.mem_mergeSort.1 hb) h2 h1) hs hms (hp.trans (List.mergeSort_perm xs _).symm)
    rw [he] at K;exact⟨Y,K⟩
end
instance {g:Nat}{o:Obj}:za (pR g o):=⟨λh=>h⟩
section
variable {P:Program}{n:Cx}{l:List (Nat × Value)}{b w:World}{S:Nat->Prop}{rs rest:List lH}{Q:Exit->Act->World->Prop}{K:Act->World->Prop}{dh:Array Oper}{os:List Oper}{ty:TypeId}{pos:String}{mI:Array Edge}{d:Nat}
theorem Ev.neg{a:Int}(hx:iG l x=some (.int .i64 a))(h:I64 (-a)):Ev P n l w (.unOp .neg t x) (.int .i64 (-a)):=λo a' w' ho ha _=>by
  unfold execOp; rw [ho]
  have h2:(Op.unary .neg (.int .i64 a)).run P w'=.ok (.int .i64 (-a)) w':=by
    have h3:IntKind.i64.wrap (0 - a)=-a:=by rw [Int.zero_sub]; exact h.wrap
    have h4:(Op.unary .neg (.int .i64 a)).run P w'=.ok (.int .i64 (IntKind.i64.wrap (0 - a))) w':=rfl;rw [h4,h3]
  simp [ha.eval hx,h2]
theorem UE(dd:Nat){f:Fn}{cs:Array Value}(hu:P.underlying t=some (.func ps rs' vr)):(Op.equalIn (dd+1) t (.func f azv cs) .nilFunc).run P w=.ok false w:=by
  simp [Op.equalIn,kQ hu]
theorem UF(dd:Nat)(hu:P.underlying t=some (.func ps rs' vr)):(Op.equalIn (dd+1) t .nilFunc .nilFunc).run P w=.ok true w:=by
  simp [Op.equalIn,kQ hu]
theorem Ev.aGP{f:Fn}{cs:Array Value}(hu:P.underlying t=some (.func ps rs' vr))(hx:iG l x=some (.func f azv cs)):Ev P n l w (.binOp .neq t x (.const .nilFunc) ty) (.bool true):=
  qG hx rfl (eqGuard_at_func ..) λw=>by
    have h:(Op.equal t (.func f azv cs) .nilFunc).run P w=.ok false w:=UE 9999 hu
    simp only [binOp]
    simp [h]
theorem Ev.aGQ(hu:P.underlying t=some (.func ps rs' vr))(hx:iG l x=some .nilFunc):Ev P n l w (.binOp .neq t x (.const .nilFunc) ty) (.bool false):=
  qG hx rfl (eqGuard_at_nilFunc ..) λw=>by
    have h:(Op.equal t .nilFunc .nilFunc).run P w=.ok true w:=UF 9999 hu
    simp only [binOp]
    simp [h]
theorem mkm(H:Hp b S w rs)(hd:Nat.blt d n.size=true)(k:∀ g w',Hp b S w' (pR g (.map #[] 0)::rs)->WL P n dh Q K os ((d,.map (some g))::l) w'):WL P n dh Q K (⟨some d,.makeMap t none,ty,pos,mI,none⟩::os) l w:=
  DZ (v:=.map (some w.heap.size)) (λa _=>gH a) rfl hd (R:=λw2=>w2=w.alloc (.map #[] 0)) (λa ha=>⟨_,rfl,rfl⟩) λw2 e=>by
    subst e; exact k _ _ (H.newObj (.map #[] 0))
theorem ah4(hm:P.underlying t=some (.map kt et))(hk:P.underlying kt=some (.int .i64))(hb:w.heap[g]? = some (.map es FB))(hf:Instr.findNow (.int .i64) (aF z) es.toList 0=some none) :
    (Instr.mapUpdate t (.map (some g)) (aF z) v).run P w=.ok () (w.putObj g (.map (es.push ⟨aF z,v,FB⟩) (FB+1))):=by
  have h1:(Instr.checkKey false 10000 kt (aF z)).run P w=.ok () w:=KX (n:=9999) (k:=aF z) hk (by simp [MapKept.IsKey]) false;have h2:(Instr.findKey kt (aF z) es.toList).run P w=.ok none w:=Bn hk hf;unfold Instr.mapUpdate
  simp only [jF,kQ hm,jG,uM hb,h1,h2,Gi _ hb]
  rfl
theorem aoZ(hm:P.underlying t=some (.map kt et))(hk:P.underlying kt=some (.int .i64))(hb:w.heap[g]? = some (.map es FB))(hf:Instr.findNow (.int .i64) (aF z) es.toList 0=some (some (i,v))) :
    (Instr.lookup t (.map (some g)) (aF z) false).run P w=.ok v w:=by
  have h1:∀ e,(Instr.checkKey e 10000 kt (aF z)).run P w=.ok () w:=λe=>KX (n:=9999) (k:=aF z) hk (by simp [MapKept.IsKey]) e;have h2:(Instr.findKey kt (aF z) es.toList).run P w=.ok (some (i,v)) w:=Bn hk hf;unfold Instr.lookup
  simp only [jF,kQ hm,jG,uM hb,h1,h2,kL]
  rfl
theorem amg(hm:P.underlying t=some (.map kt et))(hk:P.underlying kt=some (.int .i64))(hz:(zeroValue et).run P w=.ok v w)(hb:w.heap[g]? = some (.map es FB))(hf:Instr.findNow (.int .i64) (aF z) es.toList 0=some none) :
    (Instr.lookup t (.map (some g)) (aF z) false).run P w=.ok v w:=by
  have h1:∀ e,(Instr.checkKey e 10000 kt (aF z)).run P w=.ok () w:=λe=>KX (n:=9999) (k:=aF z) hk (by simp [MapKept.IsKey]) e;have h2:(Instr.findKey kt (aF z) es.toList).run P w=.ok (none) w:=Bn hk hf;unfold Instr.lookup
  simp only [jF,kQ hm,jG,uM hb,h1,h2,kL,hz]
  rfl
theorem ins{m vy:Operand}(H:Hp b S w rs)(s:pE rs (pR g (.map es FB)) rest)(hx:iG l m=some (.map (some g)))(hkey:iG l ky=some (aF z))(hv:iG l vy=some v)
    (hm:P.underlying t=some (.map kt et)) (hk:P.underlying kt=some (.int .i64)) (hf:Instr.findNow (.int .i64) (aF z) es.toList 0=some none)
    (k:∀ w',Hp b S w' (pR g (.map (es.push ⟨aF z,v,FB⟩) (FB+1))::rest)->WL P n dh Q K os l w'):WL P n dh Q K (⟨none,.insert t m ky vy,ty,pos,mI,none⟩::os) l w:=
  Qf (λa _=>gH a) rfl (R:=λw'=>w'=w.putObj g (.map (es.push ⟨aF z,v,FB⟩) (FB+1))) (λa ha=>⟨_,by
    unfold execOp; simp [ha.eval hx,ha.eval hkey,ha.eval hv,ah4 hm hk (H.obj s) hf],rfl⟩) λw' e=>by
    subst e; exact k _ (H.putObj s _)
theorem Ev.look{m:Operand}(H:Hp b S w rs)(s:pE rs (pR g (.map es FB)) rest)(hx:iG l m=some (.map (some g)))(hkey:iG l ky=some (.int .i64 z))
    (hm:P.underlying t=some (.map kt et)) (hk:P.underlying kt=some (.int .i64)) (hf:Instr.findNow (.int .i64) (.int .i64 z) es.toList 0=some (some (i,v))):Ev P n l w (.lookup t m ky false) v:=λo a w' ho ha ex=>by
  have hb:w'.heap[g]? = some (.map es FB):=(ex.block g (vW.1 (H.obj s)).1).trans (H.obj s);unfold execOp; rw [ho]; simp [ha.eval hx,ha.eval hkey,aoZ hm hk hb hf]
def xw:=@Ev.look
theorem Ev.axc{m:Operand}(H:Hp b S w rs)(s:pE rs (pR g (.map es FB)) rest)(hx:iG l m=some (.map (some g)))(hkey:iG l ky=some (.int .i64 z))
    (hm:P.underlying t=some (.map kt et)) (hk:P.underlying kt=some (.int .i64)) (hz:∀ w,(zeroValue et).run P w=.ok v w) (hf:Instr.findNow (.int .i64) (.int .i64 z) es.toList 0=some none):Ev P n l w (.lookup t m ky false) v:=λo a w' ho ha ex=>by
  have hb:w'.heap[g]? = some (.map es FB):=(ex.block g (vW.1 (H.obj s)).1).trans (H.obj s);unfold execOp; rw [ho]; simp [ha.eval hx,ha.eval hkey,amg hm hk (hz w') hb hf]
end
end Go.Proofs.YtlhnnmlenkahlaaGreat
