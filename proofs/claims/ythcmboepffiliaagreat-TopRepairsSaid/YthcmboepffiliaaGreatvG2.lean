/- Lemmas. -/
import Derived.LoopNIn
import Derived.RangeFuncSeq
import Derived.RangeFuncLeaves
import Derived.Shelf.SlSortCmp.NoneTotal
import Derived.Shelf.Sort.Plain
import Derived.Shelf.Slices.In.SortNone
import Derived.Sort.OwnSortedInts
import Derived.Shelf.Slices.CompactI
import Derived.MapKept
import Derived.Test.YthcmboepffiliaaGreatvG1
set_option linter.all false
set_option maxRecDepth 4000
namespace Go.Proofs.YthcmboepffiliaaGreat
open Go.RowKit
def bK:=@Bool.and_eq_true
def dZ:=@Bool.not_eq_true'
def nG:=@List.contains_iff_mem
def mU:=@List.mem_singleton
def Uh:=@beq_iff_eq
def mD:=@List.all_eq_true
def jJ:=@List.mem_filter
def vX:=@Array.getElem?_eq_some_iff
def Ar:=@List.perm_append_comm
def vY:=@List.foldl_cons
def aY:=@congrArg
def Ui:=@List.pairwise_singleton
def Uj:=@List.eraseIdx_eq_take_drop_succ
def MH:=@List.length_mergeSort
def bV:=@decide_eq_false_iff_not
def MI:=@MapKept.run_checkKey
def DR:=@MapKept.run_findKey
def sO:=@MapKept.run_getObj_map
def EU:=@MapKept.run_setObj_map
def Yp:=@Option.some.injEq
def iY:=@of_decide_eq_true
def jX:=@of_decide_eq_false
def eH:=@Bool.or_eq_true
def dQ:=@Bool.or_eq_false_iff
def eD:=@Bool.and_eq_false_imp
def fG:=@Bool.not_eq_false'
def bN:=@decide_eq_true_eq
section
variable {d k g c bytes lo i BK:Nat}{v:Value}{α:Type}{f:FuncId}{caps vs all:List Value}{t ty e kt et:TypeId}{fn:Func}{rs:List ResultVar}{R:Value->World->Prop}{F G:List kF}{Iq x ky:Operand}{args:List Operand}{tys ps rs':Array TypeId}{A B:ah}{w:World}{cur azv:Array Value}{os:Array Obj}{ρ:Go.Shelf.Ren}{vr:Bool}{z:Int}{es:Array MapEntry}{enc:α->List Value}{pre xs:List α}{Jf:List α->List kF->Prop}{Jx:Code->List α->List kF->Prop}{τ:Ty α}{pos:0<k}{cf:α->α->Int}{hl:∀ x,(enc x).length=k}
def WI(P:Program)(n:Cx)(M:Array Oper)(Q:Exit->Act->World->Prop)(fuel:Nat)(aW:Array Bool)(l:List (Nat × Value))(w:World):Prop:=
  ∀ a,Has n l a->wpAnyIn n.fence 0 P .any M Q fuel aW a w
def rC(M:Array Oper)(ids:List Nat)(rest:Nat)(full:Array Bool):Nat->Array Bool->Bool
  | 0,aW=>aW == full&&rest == 0
  | f+1,aW=>if aW == full then f+1 == rest else !(Region.ready .any M aW).isEmpty&&(Region.ready .any M aW).all λi=>ids.contains i&&rC M ids rest full f (aW.setIfInBounds i true)
def Qi(P:Program)(n:Cx)(M:Array Oper)(S:World->Prop)(l:List (Nat × Value))(o:Oper)(v:Value):Prop:=∀ a w,Has n l a->S w->
  (Region.wanted o (yielded M a.tmps)=true/\((execOp a.eval o).run P w=.ok (.value v) w∨∃ f args,(execOp a.eval o).run P w=.ok (.enter f args) w/\bM P f args w λu w'=>u=v/\S w'))∨(Region.wanted o (yielded M a.tmps)=false/\v=undef)
def JA(o:Oper)(A:List (Nat × Nat × Value)):List (Nat × Value):=(A.filter λq=>o.after.toList.any λe=>Region.binds .any e&&e.on == q.1).map (·.2)
def nodupB:List Nat->Bool
  | []=>true
  | x::xs=>!xs.contains x&&nodupB xs
theorem Yq:∀ {A:V (Nat × Nat × Value)},nodupB (A.map (·.2.1))=true->A.Pairwise λp q=>p.2.1≠q.2.1
 | [],_=>List.Pairwise.nil
 | p::A,h=>by
  simp only [mg,nodupB,bK,dZ] at h
  refine nT.2 ⟨λq hq e=>?_,Yq h.2⟩
  have:(A.map (·.2.1)).contains p.2.1=true:=by
   rw [nG]; exact eX.2 ⟨q,hq,e.symm⟩
  rw [this] at h; cases h.1
structure EW (P:Program) (n:Cx) (M:Array Oper) (S:World->Prop) (l:List (Nat × Value)) (A:List (Nat × Nat × Value)) (p:Nat × Nat × Value):Prop where
  ex:∃ o,M[p.1]? = some o/\o.dst=some p.2.1/\Nat.blt p.2.1 n.size=true/\look l p.2.1=none/\Qi P n M S (JA o A++l) o p.2.2
section
variable {P:Program}{n:Cx}{l l':List (Nat × Value)}{w:World}{Q:Exit->Act->World->Prop}{M:Array Oper}{fuel:Nat}{aW:Array Bool}
theorem WP.dr{ol:V Oper}{id:Nat}{y:Code}(hm:P.follows .mixedOrders=true)(h:WI P n ol.toArray (Exit.then (G7 P n y Q) Q) ol.length (List.replicate ol.length false).toArray l w.drew):WP P n (.seq (.region id ol.toArray true) y) l w Q:=λa ha=>by
 exact VJ (wpIn_region_any (Q:=Exit.then (G7 P n y Q) Q) hm (by have:=h a ha; simp_all))
theorem WI.one(i:Nat){o:Oper}(hr:Region.ready .any M aW=[i])(hi:M[i]? = some o)(h:WL P n M Q (λa w=>wpAnyIn n.fence 0 P .any M Q fuel (aW.setIfInBounds i true) a w) [o] l w)(hp:n.plain=false:=by rfl):WI P n M Q (fuel+1) aW l w:=by
 intro a ha;refine⟨by grind,λj hj=>?_⟩;rw [hr] at hj;obtain rfl:=mU.1 hj;have h1:=h a ha;unfold Ye at h1;unfold wpOpIn;rw [hi];show(if Region.wanted o (yielded M a.tmps) then _ else _)
 split
 ·rename_i hw
  rw [aS hw] at h1;unfold opw at h1;rw [hp] at h1;exact h1
 ·rename_i hw
  rw [aQ hw] at h1;exact⟨λ_ _=>trivial,h1⟩
theorem WI.nx(k:WI P n M Q fuel aW l w):WL P n M Q (λa w=>wpAnyIn n.fence 0 P .any M Q fuel aW a w) [] l w:=λa ha=>k a ha
theorem WI.dn{y:Code}(hr:Region.ready .any M aW=[])(h:WP P n y l w Q):WI P n M (Exit.then (G7 P n y Q) Q) fuel aW l w:=λa ha=>by
 cases fuel with
 | zero=>exact⟨hr,h a ha⟩
 | succ f=>exact⟨λ_=>h a ha,by grind⟩
theorem Has.more{a:Act}(h:Has n l a):∀ {B:V (Nat × Value)},(∀ q∈B,a.tmps.getD q.1 undef=q.2)->Has n (B++l) a
 | [],_=>h
 | q::B,hB=>by
  have h1:=Has.more h (B:=B) λq hq=>hB q (by simp [hq]);refine⟨h.defers,h.size,λi v hv=>?_⟩
  simp only [abz,look] at hv
  cases hb:Nat.beq q.1 i with
  | true=>simp [hb] at hv; subst hv; rw [<- QL hb]; exact hB q av
  | false=>simp [hb] at hv; exact h1.get i v hv
theorem af7{A:V (Nat × Nat × Value)}(hd:A.Pairwise λp q=>p.2.1≠q.2.1){p q:Nat × Nat × Value}(hp:p∈A)(hq:q∈A)(hne:p≠q):p.2.1≠q.2.1:=by
 induction A <;> grind [List.pairwise_cons]
theorem an5{a:Act}(h:k≠d):(a.put (some d) v).tmps.getD k undef=a.tmps.getD k undef:=by
 simp [Act.put,KX,Array.getElem?_setIfInBounds_ne (Ne.symm h)]
theorem WI.block{S:World->Prop}(A:V (Nat × Nat × Value))(rest:Nat)(full:Array Bool)(hok:rC M (A.map (·.1)) rest full fuel aW=true)(hd:nodupB (A.map (·.2.1))=true)(hfull:A.all (λp=>full.getD p.1 false)=true)(hl0:A.all (λp=>!aW.getD p.1 false)=true)
  (hq:∀ p∈A,EW P n M S l A p) (hS:S w) (k:∀ w',S w'->WI P n M Q rest full (A.map (·.2)++l) w') (hp:n.plain=false:=by rfl):WI P n M Q fuel aW l w:=by
 have key:∀(fuel:Nat)(aW:Array Bool)(a:Act)(w:World),rC M (A.map (·.1)) rest full fuel aW=true->Has n l a->(∀ p∈A,aW.getD p.1 false=true->a.tmps.getD p.2.1 undef=p.2.2)->S w->wpAnyIn n.fence 0 P .any M Q fuel aW a w:=by
  intro fuel
  induction fuel with
  | zero=>
   intro aW a w hb ha hv hS
   simp only [rC,bK,Uh] at hb
   obtain⟨rfl,rfl⟩:=hb;refine k w hS a (ha.more λq hq=>?_)
   grind
  | succ f ih=>
   intro aW a w hb ha hv hS;unfold rC at hb
   split at hb
   ·rename_i he
    have he':aW=full:=eq_of_beq he;have hr':f+1=rest:=eq_of_beq hb;subst he' hr';refine k w hS a (ha.more λq hq=>?_)
    grind
   ·simp only [bK,dZ,List.isEmpty_eq_false_iff,mD] at hb
    refine⟨by grind,λi hi=>?_⟩;have h1:=hb.2 i hi;have hmem:i∈A.map (·.1):=by grind
    obtain⟨p,hpA,rfl⟩:=eX.1 hmem;obtain⟨o,ho,hdst,hblt,hnone,hqi⟩:=(hq p hpA).ex;obtain⟨hun,o',ho',hall⟩:=mem_ready.1 hi;rw [ho] at ho';obtain rfl:=Option.some.inj ho'
    have hfr:Has n (JA o A++l) a:=ha.more λq hq=>by
     obtain⟨p',hp',rfl⟩:=eX.1 hq;obtain⟨h2,h3⟩:=jJ.1 hp'
     grind
    have next:∀ w',S w'->wpAnyIn n.fence 0 P .any M Q f (aW.setIfInBounds p.1 true) (a.put (some p.2.1) p.2.2) w':=by
     intro w' hS';refine ih _ _ _ h1.2 ?_ (λq hqA hlq=>?_) hS'
     ·have h5:=ha.put hblt p.2.2
      refine⟨h5.defers,h5.size,λj u hu=>h5.get j u ?_⟩
      grind [look,Nat.beq,Nat.eq_of_beq_eq_true]
     ·by_cases hd':q.2.1=p.2.1
      ·have:q=p:=by
        by_cases e:q=p
        ·exact e
        ·exact absurd hd' (af7 (Yq hd) hqA hpA e)
       subst this;exact(ha.put hblt _).get _ _ (by simp [look])
      ·rw [an5 hd']
       refine hv q hqA ?_
       by_cases e:p.1=q.1
       ·exfalso
        obtain⟨o2,ho2,aQR,_⟩:=(hq q hqA).ex
        grind
       simp_all
    unfold wpOpIn;rw [ho]
    rcases hqi a w hfr hS with ⟨hw,hrun⟩ | ⟨hw,hv'⟩
    ·show(if Region.wanted o (yielded M a.tmps) then _ else _)
     rw [aS hw];have aMM:∀ K,opw P n o a w K Q->o.wpIn n.fence 0 P a w K Q:=by grind [opw]
     rcases hrun with hrun | ⟨g,args,hrun,hret⟩
     ·grind [NY]
     ·refine aMM _ (abB hrun (Gn hret ?_))
      grind
    ·show(if Region.wanted o (yielded M a.tmps) then _ else _)
     rw [aQ (by grind)];exact⟨λ_ _=>trivial,by grind⟩
 intro a ha
 grind
end
def nK(g:Nat)(o:Obj):kF where
  W:=λb=>b=g
  ok:=λ_ w=>w.heap[g]? = some o
  sub:=λ_ h=>h
  keep:=λ{_ w _} hm h=>(hm g (.inl rfl) (vX.1 h).1).trans h
section
variable {P:Program}{b w:World}{S:Nat->Prop}{rs rest F G:List kF}
theorem Hp.obj{o:Obj}(H:Hp b S w rs)(s:nY rs (nK g o) rest):w.heap[g]? = some o:=H.ok (nK g o) (s.perm.mem_iff.2 av)
theorem Hp.newObj(H:Hp b S w rs)(o:Obj):Hp b S (w.alloc o) (nK w.heap.size o::rs):=
 H.new (anQ w o) (λg hg=>by rw [show g=w.heap.size from hg]; simp) (World.alloc_heap_new w o)
theorem Hp.putObj{o:Obj}(H:Hp b S w rs)(s:nY rs (nK g o) rest)(o':Obj):Hp b S (w.putObj g o') (nK g o'::rest):=
 (H.sel s).put (r':=nK g o') ⟨rfl,rfl,rfl,av,λk hk hn=>World.putObj_heap_other hn,j4 _⟩ (λg hg=>.inl hg) (World.putObj_heap_same (vX.1 (H.obj s)).1)
theorem Hp.comm(H:Hp b S w (F++G)):Hp b S w (G++F):=H.perm Ar
def vg:=@Hp.comm
end
def Iter(P:Program)(f:FuncId)(caps:List Value){α:Type}(enc:α->List Value)(ys:List α)(b:World)(S:Nat->Prop)(G0:List kF):Prop:=
  ∀(lr:Nat)(Jf Jx:List α->List kF->Prop)(w:World)(F0:List kF),Hp b S w (F0++G0)->Jf [] F0->
    (∀ pre x W F G,Jf pre F->pre++[x] <+: ys->Hp b S W (F++(G0++G))->YieldAt Fence.wide 0 P lr (enc x).toArray W λe W'=>
      (e=.returned (.bool true)/\∃ F',Jf (pre++[x]) F'/\Hp b S W' (F'++(G0++G)))∨(e=.returned (.bool false)/\∃ F',Jx (pre++[x]) F'/\Hp b S W' (F'++(G0++G))))->
    CallsIn Fence.wide 0 P f (#[.func (.yield lr) #[] #[]]++caps.toArray) w λe w'=>(∃ v,e=.returned v)/\((∃ F',Jf ys F'/\Hp b S w' (F'++G0))∨(∃ pre F',Jx pre F'/\Hp b S w' (F'++G0)))
abbrev Cx.rnd(k lr:Nat):Cx:=⟨k,some lr,[],false⟩
abbrev Cx.marked(k aYb:Nat):Cx:=⟨k,none,[aYb],false⟩
def alM{α:Type}(b:World)(S:Nat->Prop)(G:List kF)(Jf:List α->List kF->Prop)(Jx:Code->List α->List kF->Prop)(pre:List α):Exit->Act->World->Prop
  | .normal,_,w=>∃ F,Jf pre F/\Hp b S w (F++G)
  | .ret,_,w=>∃ F,Jx .ret pre F/\Hp b S w (F++G)
  | .exit id,_,w=>∃ F,Jx (.exit id) pre F/\Hp b S w (F++G)
  | .goto t,_,w=>∃ F,Jx (.goto t) pre F/\Hp b S w (F++G)
  | _,_,_=>False
def aAt{α:Type}(n:Cx)(b:World)(S:Nat->Prop)(G:List kF)(Mid:List α->α->List (Nat × Value)->List kF->Prop)(pre:List α)(x:α):Exit->Act->World->Prop
  | .normal,a,w=>∃ l1 F1,Has n l1 a/\Mid pre x l1 F1/\Hp b S w (F1++G)
  | _,_,_=>False
theorem MJ:∀(ps:V Nat)(vs:V Value)(t:Array Value)(l:V (Nat × Value))(k:Nat),ps.length=vs.length->(∀ p∈ps,p<k)->t.size=k->(∀ i v,look l i=some v->t.getD i undef=v)->
  ((ps.zip vs).foldl (λt (p,v)=>t.setIfInBounds p v) t).size=k/\∀ i v,look ((ps.zip vs).reverse++l) i=some v->((ps.zip vs).foldl (λt (p,v)=>t.setIfInBounds p v) t).getD i undef=v
 | [],vs,t,l,k,_,_,hs,hl=>by
  simp_all
 | p::ps,[],t,l,k,h,_,_,_=>by simp at h
 | p::ps,v::vs,t,l,k,h,hp,hs,hl=>by
  have hpk:=hp p av
  simp only [List.zip_cons_cons,vY,List.reverse_cons,o9,List.singleton_append]
  refine MJ ps vs _ ((p,v)::l) k (by grind) (by grind) (by simp [hs]) (λi u hu=>?_);unfold look at hu
  cases hb:Nat.beq p i with
  | true=>
   have:=QL hb
   simp_all
  | false=>
   simp_all [KX,Array.getElem?_setIfInBounds_ne,alC]
section
variable {P:Program}{k:Nat}{l:List (Nat × Value)}{b w:World}{S:Nat->Prop}{Q:Exit->Act->World->Prop}
theorem WP.range{g:Operand}{ps:V Nat}{assign body:Code}{ys:V α}{F0 G0:V kF}(hg:fM l g=some (.func (.func f) #[] caps.toArray))(Ir:bC P f)
  (hit:Iter P f caps enc ys b S G0) (H:Hp b S w (F0++G0)) (hps:∀ x,(enc x).length=ps.length) (hpk:ps.all (λp=>Nat.blt p k)=true)
  (Jf:V α->V kF->Prop) (Jx:Code->V α->V kF->Prop) (Mid:V α->α->V (Nat × Value)->V kF->Prop) (h0:Jf [] F0)
  (hassign:∀ lr pre x F G W,Jf pre F->pre++[x] <+: ys->Hp b S W (F++(G0++G))->WP P (.rnd k lr) assign ((ps.zip (enc x)).reverse++l) W (aAt (.rnd k lr) b S (G0++G) Mid pre x))
  (hbody:∀ lr pre x l1 F1 G W,Mid pre x l1 F1->pre++[x] <+: ys->Hp b S W (F1++(G0++G))->WP P (.rnd k lr) body l1 W (alM b S (G0++G) Jf Jx (pre++[x])))
  (hdone:∀ aYb F w',Jf ys F->Hp b S w' (nK aYb (.deferred (some []))::(G0++F))->l7 (.marked k aYb) Q .normal l w')
  (hstop:∀ aYb c pre F w',Jx c pre F->Hp b S w' (nK aYb (.deferred (some []))::(G0++F))->WP P (.marked k aYb) c l w' Q) :
  WP P (.bare k) (.rangeFunc g ps.toArray assign body) l w Q:=by
 intro a ha;have hgv:=ha.eval hg;refine wpIn_rangeFunc λfn hfn=>?_;obtain⟨rec,hrec⟩:∃ rec:LoopState->Option Code->Loop,rec=λst pe=>{ state:=st,pending:=pe,fn,tmps:=a.tmps,params:=ps.toArray,assign,body,defers:=w.heap.size }:=⟨_,rfl⟩;have H1:=H.newObj (.deferred (some []));have H2:=H1.newObj (.loop (rec .ready none));obtain⟨W1,hW1⟩:∃ W1,(w.alloc (.deferred (some []))).alloc (.loop (rec .ready none))=W1:=⟨_,rfl⟩;have hsz:(w.alloc (.deferred (some []))).heap.size=w.heap.size+1:=by simp
 rw [hW1,hsz] at H2;obtain⟨aYb,hD⟩:∃ aYb,w.heap.size=aYb:=⟨_,rfl⟩;obtain⟨lr,hlr⟩:∃ lr,w.heap.size+1=lr:=⟨_,rfl⟩;rw [hlr,hD] at H2;refine⟨lr,[{ target:=.collected aYb,args:=#[] }],W1,{ target:=.fn (.func f) caps.toArray,args:=#[.func (.yield lr) #[] #[]] },W1,f,#[.func (.yield lr) #[] #[]]++caps.toArray,W1,?_,?_,λ_ _=>trivial,?_,(λh=>by cases h),?_⟩
 ·rw [<- hW1,hrec,<- hD,<- hlr]; exact run_enterLoop_outer _ _ _ _ _
 ·simp only [resolve,hgv]
  simp [go_sem]
 ·simp only [invoke]
  exact Ir _ _
 ·have Hn:Hp b S W1 ((nK lr (.loop (rec .ready none))::nK aYb (.deferred (some []))::F0)++G0):=H2
  refine(hit lr (λpre F'=>∃ F,F'=nK lr (.loop (rec .ready none))::nK aYb (.deferred (some []))::F/\Jf pre F)
   (λpre F'=>∃ c F,F'=nK lr (.loop (rec .done (some c)))::nK aYb (.deferred (some []))::F/\Jx c pre F) W1 _ Hn (by grind) ?_).mono ?_
  ·rintro pre x W F' G ⟨F,rfl,hJ⟩ hpre Hw
   have aMN:W.heap[lr]? = some (.loop (rec .ready none)):=Hw.obj U;have hy:=run_yield (P:=P) (args:=(enc x).toArray) aMN (by rw [hrec]; simp [hps]);rw [hrec] at hy;refine⟨fn,_,assign,body,hy,roundIn_of_wpIn trivial ?_⟩
   have Hw2:Hp b S W (F++(G0++(nK lr (.loop (rec .ready none))::nK aYb (.deferred (some []))::G))):=
    Hw.perm (by
     have:(nK lr (.loop (rec .ready none))::nK aYb (.deferred (some []))::F)++(G0++G)=[nK lr (.loop (rec .ready none)),nK aYb (.deferred (some []))]++(F++G0)++G:=by simp
     rw [this];refine(Ar.append_right G).trans ?_
     simp)
   have hfr:=MJ ps (enc x) a.tmps l k (hps x).symm (by simp_all) ha.size ha.get
   have aMO:Has (.rnd k lr) ((ps.zip (enc x)).reverse++l) { tmps:=(ps.toArray.zip (enc x).toArray).foldl (λt (p,v)=>t.setIfInBounds p v) a.tmps,defers:=[] }:=by
    have he:(ps.toArray.zip (enc x).toArray).foldl (λt (p,v)=>t.setIfInBounds p v) a.tmps=(ps.zip (enc x)).foldl (λt (p,v)=>t.setIfInBounds p v) a.tmps:=by simp
    rw [he];exact⟨Y,hfr.1,hfr.2⟩
   have has:=hassign lr pre x F _ W hJ hpre Hw2 _ aMO;refine wpIn_mono has ?_;rintro e a1 w1 hq
   cases e with
   | normal=>
    obtain⟨l1,F1,hh1,hmid,Hm⟩:=hq
    have hcp:∀ {FF GG:V kF} {o1 o2:Obj},(FF++(G0++(nK lr o1::nK aYb o2::GG))).Perm (nK lr o1::nK aYb o2::(FF++(G0++GG))):=λ{FF GG o1 o2}=>by
     rw [<- o9,<- o9];refine(Ar).trans<|((Ar).cons _).cons _
    have hcm:∀ {W':World} {FF GG:V kF} {o1 o2:Obj},Hp b S W' (FF++(G0++(nK lr o1::nK aYb o2::GG)))->Hp b S W' (nK lr o1::nK aYb o2::(FF++(G0++GG))):=λh=>h.perm hcp;have Hm1:=hcm Hm;refine⟨_,run_beginRound (Hm1.obj U) (by rw [hrec]),?_⟩;have Hm2:=Hm1.putObj U (.loop { rec .ready none with state:=.busy });have Hm3:Hp b S (w1.putObj lr (.loop { rec .ready none with state:=.busy })) (F1++(G0++(nK lr (.loop { rec .ready none with state:=.busy })::nK aYb (.deferred (some []))::G))):=Hm2.perm hcp.symm;refine wpIn_mono (hbody lr pre x l1 F1 _ _ hmid hpre Hm3 a1 hh1) ?_
    have fin:∀(jump:Option Code)(W3:World)(F3:V kF),Hp b S W3 (F3++(G0++(nK lr (.loop { rec .ready none with state:=.busy })::nK aYb (.deferred (some []))::G)))->
      ∃ W4,(Instr.endRound lr jump).run P W3=.ok (.bool jump.isNone) W4/\Hp b S W4 ((nK lr (.loop (rec (if jump.isNone then .ready else .done) jump))::nK aYb (.deferred (some []))::F3)++(G0++G)):=λjump W3 F3 h3=>by
     have h4:=hcm h3;have h5:=run_endRound (P:=P) jump (h4.obj U);have h6:=h4.putObj U (.loop (rec (if jump.isNone then .ready else .done) jump))
     grind
    rintro e a3 W3 hp3
    cases e with
    | normal=>
     obtain⟨F3,hJ3,h3⟩:=hp3;obtain⟨W4,hr4,h4⟩:=fin none W3 F3 h3;exact⟨_,_,hr4,.inl ⟨Y,_,⟨F3,Y,hJ3⟩,h4⟩⟩
    | ret=>
     obtain⟨F3,hJ3,h3⟩:=hp3;obtain⟨W4,hr4,h4⟩:=fin (some .ret) W3 F3 h3;exact⟨_,_,hr4,.inr ⟨Y,_,⟨.ret,F3,Y,hJ3⟩,h4⟩⟩
    | exit id=>
     obtain⟨F3,hJ3,h3⟩:=hp3;obtain⟨W4,hr4,h4⟩:=fin (some (.exit id)) W3 F3 h3;exact⟨_,_,hr4,.inr ⟨Y,_,⟨.exit id,F3,Y,hJ3⟩,h4⟩⟩
    | goto t=>
     obtain⟨F3,hJ3,h3⟩:=hp3;obtain⟨W4,hr4,h4⟩:=fin (some (.goto t)) W3 F3 h3;exact⟨_,_,hr4,.inr ⟨Y,_,⟨.goto t,F3,Y,hJ3⟩,h4⟩⟩
    | panic ch=>exact hp3.elim
    | outgrown=>exact hp3.elim
   | ret=>exact hq.elim
   | exit id=>exact hq.elim
   | goto t=>exact hq.elim
   | panic ch=>exact hq.elim
   | outgrown=>exact hq.elim
  ·have hdf:({ a with defers:=[{ target:=.collected aYb,args:=#[] }]++a.defers }:Act).defers=(Cx.marked k aYb).defers:=by
    rw [ha.defers]; rfl
   rintro e W2 ⟨⟨v,rfl⟩,(⟨F',⟨F,rfl,hJ⟩,h2⟩ | ⟨pre,F',⟨c,F,rfl,hJ⟩,h2⟩)⟩
   ·have h3:=run_endLoop (P:=P) (h2.obj U) (by grind)
    have h4:=(h2.putObj U (.loop { rec .ready none with state:=.exhausted })).tail;refine⟨none,_,h3.trans (aY (λp=>Result.ok p _) (show(rec .ready none).pending=none by rw [hrec])),?_⟩;exact hdone aYb F _ hJ (Hp.perm (rs:=nK aYb (.deferred (some []))::(F++G0)) h4 (Ar.cons _)) _ ⟨hdf,ha.size,ha.get⟩
   ·have h3:=run_endLoop (P:=P) (h2.obj U) (by grind)
    have h4:=(h2.putObj U (.loop { rec .done (some c) with state:=.exhausted })).tail;refine⟨some c,_,h3.trans (aY (λp=>Result.ok p _) (show(rec .done (some c)).pending=some c by rw [hrec])),?_⟩;exact hstop aYb c pre F _ hJ (Hp.perm h4 (Ar.cons _)) _ ⟨hdf,ha.size,ha.get⟩
end
def ac6(P:Program)(l:List (Nat × Value))(w:World):List ResultVar->List Value->Prop
  | [],vs=>vs=[]
  | .tmp t::rs,vs=>∃ v us,vs=v::us/\look l t=some v/\ac6 P l w rs us
  | .cell a t::rs,vs=>∃ v us,vs=v::us/\(∃ p,look l a=some (.pointer (some p))/\(loadVar t p).run P w=.ok v w)/\ac6 P l w rs us
section
variable {P:Program}{n:Cx}{l:List (Nat × Value)}{b w:World}{S:Nat->Prop}
theorem Yr(f:ResultVar->Sem Value)(a:Act)(hf:∀ t,f (.tmp t)=pure (a.tmps.getD t undef))(hc:∀ c t,f (.cell c t)=(do loadVar t (<- asAddr (a.tmps.getD c undef))))(ha:Has n l a):∀(rs:V ResultVar)(vs:V Value),ac6 P l w rs vs->(rs.mapM f).run P w=.ok vs w
 | [],vs,h=>by simp [ac6] at h; subst h; rfl
 | .tmp t::rs,vs,h=>by
  obtain⟨v,us,rfl,h1,h2⟩:=h;have h3:=Yr f a hf hc ha rs us h2;have hg:=ha.get t v h1
  simp only [List.mapM_cons,jh,kZ,jv,hf,hg,h3]
 | .cell c t::rs,vs,h=>by
  obtain⟨v,us,rfl,⟨p,h1,hp⟩,h2⟩:=h;have h3:=Yr f a hf hc ha rs us h2;have hg:=ha.get c _ h1
  have h4:(do loadVar t (<- asAddr (a.tmps.getD c undef)):Sem Value).run P w=.ok v w:=by
   simp [hg,asAddr,hp]
  simp only [List.mapM_cons,jh,kZ,jv,hc,h3]
  rw [<- jh,h4]
  simp only [jv,h3,jh,kZ]
theorem Cj{p:Addr}(hn:kW P t)(hp:w.cell? p=some v):(loadVar t p).run P w=.ok v w:=by
 simp [loadVar,hn w,run_load,hp]
theorem jo{t':TypeId}{cs:V Value}(hn:WC P t k)(hk:cs.length=k)(hb:Bx w g t' cs):(loadVar t ⟨g,0,none⟩).run P w=.ok (.agg cs.toArray) w:=by
 have h1:=alD (P:=P) w ⟨g,0,none⟩ cs (λj u hu=>by rw [Px,hb.cell]; grind);rw [hk] at h1
 simp [loadVar,hn.1 w,hn.2 w,h1]
theorem Gv{a:Act}(ha:Has n l a)(hr:fn.results=rs.toArray)(h:ac6 P l w rs vs):(results fn a.tmps).run P w=.ok (rW vs) w:=by
 unfold results;rw [hr,jh,List.mapM_toArray,Sem.run_map,Yr _ a (λ_=>rfl) (λ_ _=>rfl) ha rs vs h]
 simp only [jv,kZ]
 match vs with
 | []=>simp [rW]
 | [v]=>simp [rW]
 | u::v::vs=>simp [rW]
theorem WP.aq0{c:Code}(hf:P.funcs[f]? = some fn)(hb:fn.body=some c)(hn:fn.ntmps=k)(hle:Nat.ble vs.length k=true)
  (h:WP P (.bare k) c (enum 0 vs) w (bodyPostM Fence.wide 0 P fn (RR R))):bM P f vs.toArray w R:=by
 refine(callsIn_wide).1 (callsIn_of_wp_marks hf hb trivial (h _ ⟨Y,?_,λi v hv=>?_⟩))
 ·simp_all
 ·obtain⟨_,h2⟩:=NW vs 0 i v hv
  have hi:i<vs.length:=(rG.1 h2).1
  simp_all [VI,rG,Array.getElem?_append]
theorem l7.aMP(hr:fn.results=rs.toArray)(h:ac6 P l w rs vs)(hR:R (rW vs) w):l7 (.bare k) (bodyPost P fn (RR R)) .ret l w:=by
 intro a ha;exact⟨ha.defers.trans Y,_,Gv ha hr h,_,Y,hR⟩
def qL:=@l7.aMP
theorem l7.an6{aYb:Nat}(H:Hp b S w (nK aYb (.deferred (some []))::F))(hr:fn.results=rs.toArray)
  (h:∀ w',Hp b S w' F->∃ vs,ac6 P l w' rs vs/\R (rW vs) w'):l7 (.marked k aYb) (bodyPostM Fence.wide 0 P fn (RR R)) .ret l w:=by
 intro a ha;show LeavesInM Fence.wide 0 P fn a.tmps (RR R) a.defers .returning w;rw [ha.defers];have h1:=run_takeDeferred (P:=P) (H.obj U);have h2:=(H.putObj U (.deferred none)).tail;obtain⟨vs,h3,h4⟩:=h _ h2;refine⟨av,.inl ⟨aYb,_,rfl,h1,?_⟩⟩;exact⟨_,Gv ha hr h3,_,Y,h4⟩
theorem l7.aMQ(hr:fn.results=rs.toArray)(h:ac6 P l w rs vs)(hR:R (rW vs) w):l7 (.bare k) (bodyPostM Fence.wide 0 P fn (RR R)) .ret l w:=by
 intro a ha;show LeavesInM Fence.wide 0 P fn a.tmps (RR R) a.defers .returning w;rw [ha.defers];exact⟨_,Gv ha hr h,_,Y,hR⟩
theorem WL.yield{Q:Exit->Act->World->Prop}{K:Act->World->Prop}{M:Array Oper}{os:V Oper}{pos:String}{lN:Array Edge}{lr:Nat}{R:Ending->World->Prop}{g:Option (Nat × Bool)}
  (hg:match g with | none=>True | some (j,bQ)=>guardOf M l j=some (.bool bQ)) (hf:fM l Iq=some (.func (.yield lr) #[] #[])) (hargs:Ef l args=some vs) (hy:YieldAt Fence.wide 0 P lr vs.toArray w R) (hR:∀ e w',R e w'->∃ v,e=.returned v) (hd:Nat.blt d n.size=true) (hro:n.round=none) (hp:n.plain=false)
  (k:∀ v w',R (.returned v) w'->WL P n M Q K os ((d,v)::l) w'):WL P n M Q K (⟨some d,.call ⟨.value Iq,args.toArray,tys⟩,ty,pos,lN,g⟩::os) l w:=by
 intro a ha;unfold Ye
 have hw:Region.wanted ⟨some d,.call ⟨.value Iq,args.toArray,tys⟩,ty,pos,lN,g⟩ (yielded M a.tmps)=true:=by
  match g,hg with
  | none,_=>rfl
  | some (j,bQ),hg=>exact rX hg a ha
 rw [aS hw];unfold opw;rw [hp];obtain⟨fn,tmps,assign,body,hy1,hy2⟩:=hy;refine⟨λ_ _=>trivial,?_⟩
 have hrun:(execOp a.eval ⟨some d,.call ⟨.value Iq,args.toArray,tys⟩,ty,pos,lN,g⟩).run P w=.ok (.round lr fn tmps assign body) w:=by
  unfold execOp;have h1:=ha.eval hf;have h2:=ha.VL hargs
  simp only [resolve,h1,Deferred.ofValue,jh,kZ,jv,invoke]
  have:(#[]++Array.map a.eval args.toArray:Array Value)=vs.toArray:=by grind
  rw [this];exact hy1
 have hrd:n.fence.round=none:=hro;rw [hrd,Oper.semAt_none,hrun];rw [Yb hro];refine⟨au,RoundIn.mono hy2 ?_⟩;rintro e w' hq;obtain⟨v,rfl⟩:=hR e w' hq;exact k v w' hq _ (ha.put hd v)
end
section
variable {P:Program}{n:Cx}{l l':List (Nat × Value)}{b w:World}{S:Nat->Prop}{M:Array Oper}{T:World->Prop}{op:Op}{ty:TypeId}{pos:String}{lN:Array Edge}{d j:Nat}{bQ:Bool}{v:Value}
theorem Qi.ev(h:∀ w,T w->Ev P n l w op v):Qi P n M T l ⟨some d,op,ty,pos,lN,none⟩ v:=λa w ha hT=>.inl ⟨eY a,.inl (h w hT _ a w rfl ha (oW w))⟩
def x8:=@Qi.ev
theorem Qi.evg(hg:guardOf M l j=some (.bool bQ))(h:∀ w,T w->Ev P n l w op v):Qi P n M T l ⟨some d,op,ty,pos,lN,some (j,bQ)⟩ v:=λa w ha hT=>.inl ⟨rX hg a ha,.inl (h w hT _ a w rfl ha (oW w))⟩
theorem Qi.pass{u:Value}(hg:guardOf M l j=some u)(hv:unlike bQ u=true):Qi P n M T l ⟨some d,op,ty,pos,lN,some (j,bQ)⟩ undef:=λa w ha hT=>.inr ⟨by
 show(yielded M a.tmps j == some bQ)=false;rw [ES ha hg]
 cases u <;> simp [unlike] at hv ⊢
 all_goals grind,rfl⟩
theorem Qi.call(hf:fM l Iq=some (.func (.func f) #[] caps.toArray))(hargs:Ef l args=some vs)(hall:vs++caps=all)(Ir:bC P f)
  (hc:∀ w,T w->bM P f all.toArray w λu w'=>u=v/\T w'):Qi P n M T l ⟨some d,.call ⟨.value Iq,args.toArray,tys⟩,ty,pos,lN,none⟩ v:=λa w ha hT=>by grind [eY,EH]
theorem Qi.afY(hg:guardOf M l j=some (.bool bQ))(hf:fM l Iq=some (.func (.func f) #[] caps.toArray))(hargs:Ef l args=some vs)(hall:vs++caps=all)(Ir:bC P f)
  (hc:∀ w,T w->bM P f all.toArray w λu w'=>u=v/\T w'):Qi P n M T l ⟨some d,.call ⟨.value Iq,args.toArray,tys⟩,ty,pos,lN,some (j,bQ)⟩ v:=λa w ha hT=>by grind [rX,EH]
theorem l7.ap{F1:V kF}{Mid:V α->α->V (Nat × Value)->V kF->Prop}{x:α}{l1:V (Nat × Value)}(hM:Mid pre x l1 F1)(hs:Sb l l1)(H:Hp b S w (F1++G)):l7 n (aAt n b S G Mid pre x) .normal l w:=λa ha=>⟨l1,F1,ha.sb hs,hM,H⟩
theorem l7.rn(hJ:Jf pre F)(H:Hp b S w (F++G)):l7 n (alM b S G Jf Jx pre) .normal l w:=λ_ _=>⟨F,hJ,H⟩
theorem l7.rr(hJ:Jx .ret pre F)(H:Hp b S w (F++G)):l7 n (alM b S G Jf Jx pre) .ret l w:=λ_ _=>⟨F,hJ,H⟩
theorem l7.rx{id:Nat}(hJ:Jx (.exit id) pre F)(H:Hp b S w (F++G)):l7 n (alM b S G Jf Jx pre) (.exit id) l w:=λ_ _=>⟨F,hJ,H⟩
theorem WP.ajI{c:Code}{y:Value}{R:Ending->World->Prop}(hf:P.funcs[f]? = some fn)(hb:fn.body=some c)(hn:fn.ntmps=k)(hle:Nat.ble (y::caps).length k=true)
  (h:WP P (.bare k) c (enum 0 (y::caps)) w (bodyPost P fn R)):CallsIn Fence.wide 0 P f (#[y]++caps.toArray) w R:=by
 have e:#[y]++caps.toArray=(y::caps).toArray:=by simp
 rw [e];refine callsIn_wide.2 (calls_of_wp hf hb (X7.1 (h _ ⟨Y,?_,λi v hv=>?_⟩)))
 ·simp_all
 ·obtain⟨_,h2⟩:=NW _ 0 i v hv
  have hi:i<(y::caps).length:=(rG.1 h2).1
  simp_all [VI,rG,KX,Array.getElem?_append_left,List.getElem?_toArray,Option.getD_some]
theorem l7.an7{R:Ending->World->Prop}(hr:fn.results=#[])(hR:R (.returned (.tuple #[])) w):l7 (.bare k) (bodyPost P fn R) .ret l w:=by
 intro a ha;exact⟨ha.defers.trans Y,_,Gv ha hr Y,hR⟩
theorem l7.aq1{R:Ending->World->Prop}(h:l7 (.bare k) (bodyPost P fn R) .ret l w):l7 (.bare k) (bodyPost P fn R) .normal l w:=h
end
section
variable {P:Program}{w:World}
theorem Yt{kp:0<k}{j:Nat}{S:Nat->Prop}{us:V (Cells k)}(hT:P.underlying t=some (.slice e))(hI:kH P e k bytes)(ho:Own (zZ k kp) e lo S w A c us)(hij:i<j)(hj:j<=us.length):∃ w',(Builtin.append_ #[t,t] ty #[.slice A i c,.slice (vK A c j k) (us.length - j) (c - j)]).run P w=.ok (.slice A (i+(us.length - j)) c) w'/\Own (zZ k kp) e lo S w' A c (us.take i++us.drop j)/\O7 w w' (blk A)/\w'.heap.size=w.heap.size:=by
 have hcap:=(ho.sl (S':=Any) (λ_ _=>trivial) (λ_ _=>trivial)).cap;obtain⟨g,cur,rfl,hg,hb,hnc,hcm,hcl,ht⟩:=ho.open_ aj;obtain⟨inf,z,z1,z2,z3,z4,z5⟩:=hI.ex
 have hld:(Builtin.firstCells k (us.length - j) (.slice (vK (some ⟨g,0,none⟩) c j k) (us.length - j) (c - j))).run P w=.ok (iO (us.drop j)).toArray w:=by
  by_cases hc:c=j
  ·have h0:us.drop j=[]:=by grind
   have h1:us.length - j=0:=aj;unfold vK;rw [aS hc,h0,h1];exact run_firstCells_some w k 0 ⟨g,0,none⟩ _ _ [] av av
  ·rw [EI hc]
   refine run_firstCells_some w k _ _ _ _ _ (by rw [jy,uj]) (λq v hq=>?_);rw [Px,hb.cell];rw [<- Jw,G5,<- ht,X9] at hq
   grind
 have hik:i*k<=us.length*k:=Ak _ aj;have hnk:us.length*k<=cur.length:=by simp_all [Ak]
 have hdl:(iO (us.drop j)).length=(us.length - j)*k:=by grind [jy]
 have hfit:i*k+(iO (us.drop j)).length<=cur.length:=by
  rw [hdl,<- BS,hcl]; exact Ak _ aj
 have hst:=abA P g (i*k) e (iO (us.drop j)) 0 cur.toArray w hb (by grind) Iu
 simp only [Nat.add_zero] at hst
 refine⟨_,?_,?_,um w g (cur.take (i*k)++iO (us.drop j)++cur.drop (i*k+(iO (us.drop j)).length)).toArray,av⟩
 ·have hle:i+(us.length - j)<=c:=aj
  simp [Builtin.append_,jV hT,sizeOf,typeInfo,z1,z3,Builtin.lenOf,hle,hld,Px]
  simp_all
 ·have hlen:(us.take i++us.drop j).length=i+(us.length - j):=by grind
  refine Ug hg (VK w g _ _ e _ hb) (by grind) hcm (by grind) ?_;rw [hlen,Am,<- ET,<- ht,Uc,Yl hik]
  grind [List.take_of_length_le]
end
section
variable {P:Program}{n:Cx}{l:List (Nat × Value)}{b w:World}{S:Nat->Prop}{rs rest:List kF}{Q:Exit->Act->World->Prop}{K:Act->World->Prop}{M:Array Oper}{os:List Oper}{ty:TypeId}{pos:String}{lN:Array Edge}{d:Nat}
theorem aB2{j:Nat}{y:Operand}(H:Hp b S w rs)(s:nY rs (aR τ e A c xs) rest)(hs:evd n l d x=some (.slice A (xs.take i).length c))(hy:fM l y=some (.slice (vK A c j τ.k) (xs.drop j).length (c - j)))
  (hT:P.underlying t=some (.slice e)) (hI:kH P e τ.k bytes) (hij:i<j) (hj:j<=xs.length)
  (k:∀ w',Hp b S w' (aR τ e A c (xs.take i++xs.drop j)::rest)->WL P n M Q K os ((d,.slice A (xs.take i++xs.drop j).length c)::l) w'):WL P n M Q K (⟨some d,.call ⟨.builtin .append,#[x,y],#[t,t]⟩,ty,pos,lN,none⟩::os) l w:=by
 obtain⟨us,hU,hr⟩:=H.raw s;have hl:=hr.1;obtain⟨w',hrun,ho',hg,hz⟩:=Yt (ty:=ty) hT hI hU hij (by grind);have e1:(xs.take i).length=i:=by grind
 have e2:(xs.drop j).length=us.length - j:=by grind
 have e3:(xs.take i++xs.drop j).length=i+(us.length - j):=by grind
 rw [e1] at hs;rw [e2] at hy;refine yD (v:=.slice A (i+(us.length - j)) c) (by simp [eY]) rfl (wE hs).1 (R:=λw2=>w2=w') (λa ha=>⟨w',?_,rfl⟩) λw2 e=>?_
 ·unfold execOp
  simp only [resolve,jh,kZ,jv,invoke,builtin,vI,mg,wB,ha.eval (wE hs).2,ha.eval hy,hrun]
 ·rw [e,<- e3]
  exact k w' (H.back s ho' ((hr.take i).append (hr.drop j)) hg (by grind))
theorem WL.aMR{o:Oper}(hw:∀ a,Has n l a->Region.wanted o (yielded M a.tmps)=true)(hdst:o.dst=none){R:World->Prop}
  (hrun:∀ a,Has n l a->∃ w',(execOp a.eval o).run P w=.ok (.value v) w'/\R w') (k:∀ w',R w'->WL P n M Q K os l w'):WL P n M Q K (o::os) l w:=by
 intro a ha;obtain⟨w',hr,hR⟩:=hrun a ha;unfold Ye;rw [aS (hw a ha)];refine NY hr ?_;rw [hdst];exact k w' hR a ha
theorem aB3{m:Nat}(H:Hp b S w rs)(s:nY rs (aR τ e A c xs) rest)(hx:fM l x=some (.slice (vK A c xs.length τ.k) m (c - xs.length)))(hT:P.underlying t=some (.slice e))(hz:wT P e τ.k bytes)(hm:xs.length+m<=c)
  (k:∀ w',Hp b S w' (aR τ e A c xs::rest)->WL P n M Q K os l w'):WL P n M Q K (⟨none,.call ⟨.builtin .clear,#[x],#[t]⟩,ty,pos,lN,none⟩::os) l w:=by
 obtain⟨us,hU,hr⟩:=H.raw s;have hl:=hr.1;obtain⟨w',hrun,ho',hg,hz'⟩:=Yo (ty:=ty) (m:=m) hT hz hU (by grind);rw [hl] at hrun;refine WL.aMR (v:=.tuple #[]) (by simp [eY]) rfl (R:=λw2=>w2=w') (λa ha=>⟨w',?_,rfl⟩) λw2 e=>?_
 ·unfold execOp
  simp only [resolve,jh,kZ,jv,invoke,builtin,vI,mg,wB,ha.eval hx,hrun]
 ·rw [e]
  exact k w' (H.back s ho' hr hg (by grind))
theorem Ev.aMS{m hi mx:Nat}{kl kh km:IntKind}{zl zh zm:Int}{yl yh ym:Operand}(hu:P.underlying t=some (.slice e))(hs:Size P e k)(hx:fM l x=some (.slice A m c))(hl:fM l yl=some (.int kl zl))(hh:fM l yh=some (.int kh zh))(hm:fM l ym=some (.int km zm))
  (h1:zl=(lo:Int)) (h2:zh=(hi:Int)) (h3:zm=(mx:Int)) (h4:lo<=hi) (h5:hi<=mx) (h6:mx<=c):Ev P n l w (.slice t x (some yl) (some yh) (some ym)) (.slice (if mx=lo then A else A.map (·.add (lo*k))) (hi - lo) (mx - lo)):=λo a w' ho ha _=>by
 unfold execOp; rw [ho]
 have h7:(Instr.sliceAt t (.slice A m c) (some (.int kl zl)) (some (.int kh zh)) (some (.int km zm))).run P w'=.ok (.slice (if mx=lo then A else A.map (·.add (lo*k))) (hi - lo) (mx - lo)) w':=by
  rw [PS w' t _ _ _ _ (rY hu),run_slice_lhm w' t A m c (rY hu) kl kh km zl zh zm aj aj aj aj,Eh hu,hs w',h1,h2,h3]
  simp [sliced]
 simp [ha.eval hx,ha.eval hl,ha.eval hh,ha.eval hm,h7]
theorem Ev.aMT{m hi:Nat}{kl kh:IntKind}{zl zh:Int}{yl yh:Operand}(hu:P.underlying t=some (.slice e))(hs:Size P e k)(hx:fM l x=some (.slice A m c))(hl:fM l yl=some (.int kl zl))(hh:fM l yh=some (.int kh zh))
  (h1:zl=(lo:Int)) (h2:zh=(hi:Int)) (h4:lo<=hi) (h6:hi<=c):Ev P n l w (.slice t x (some yl) (some yh) none) (.slice (vK A c lo k) (hi - lo) (c - lo)):=λo a w' ho ha _=>by
 unfold execOp; rw [ho]
 have h7:(Instr.sliceAt t (.slice A m c) (some (.int kl zl)) (some (.int kh zh)) none).run P w'=.ok (.slice (vK A c lo k) (hi - lo) (c - lo)) w':=by
  rw [PS w' t _ _ _ _ (rY hu),run_slice_lh w' t A m c (rY hu) kl kh zl zh aj aj aj,Eh hu,hs w',h1,h2]
  simp [sliced,vK]
 simp [ha.eval hx,ha.eval hl,ha.eval hh,h7]
theorem Ev.nilCheck{p:Addr}(hx:fM l x=some (.pointer (some p))):Ev P n l w (.nilCheck x) (.pointer (some p)):=λo a w' ho ha _=>by
 unfold execOp; rw [ho]; simp [ha.eval hx]
def nH:=@Ev.nilCheck
end
def fH{α:Type}(τ:Ty α)(e:TypeId)(L:List (Option Addr × Nat × List α)):kF where
  W:=λg=>∃ r∈L,blk r.1=some g
  ok:=λS w=>(∀ r∈L,Own τ e 0 S w r.1 r.2.1 r.2.2)/\L.Pairwise fun(p q:Option Addr × Nat × List α)=>∀ g,blk p.1=some g->blk q.1≠some g
  sub:=λhs h=>⟨λr hr=>(h.1 r hr).low (j4 _) hs,h.2⟩
  keep:=λhm h=>⟨λr hr=>(h.1 r hr).keep (by grind),h.2⟩
def WG{α:Type}(τ:Ty α)(L:List (Option Addr × Nat × List α)):kF where
  W:=λ_=>False
  ok:=λS w=>∀ r∈L,Sl τ S w r.1 r.2.1 r.2.2
  sub:=λhs h=>λr hr=>(h r hr).sub hs
  keep:=λhm h=>λr hr=>(h r hr).keep (by grind)
section
variable {α:Type}{τ:Ty α}{e:TypeId}{b w:World}{S:Nat->Prop}{rs rest yF:List kF}{L:List (Option Addr × Nat × List α)}
theorem Hp.af8(H:Hp b S w rs)(τ:Ty α)(e:TypeId):Hp b S w (fH τ e []::rs):=
 H.new (oW w) (λg ⟨r,hr,_⟩=>by grind) ⟨av,List.Pairwise.nil⟩
theorem Hp.join{r1 r2 r:kF}(H:Hp b S w (r1::r2::rs))(hW:∀ g,r.W g↔r1.W g∨r2.W g)(hok:∀ {S':Nat->Prop},r1.ok S' w->r2.ok S' w->(∀ g,r1.W g->¬ r2.W g)->r.ok S' w):Hp b S w (r::rs):=by
 have h1:=nT.1 H.dis;have h2:=nT.1 h1.2
 have hs:∀ g,Rd b S (r1::r2::rs) w g->Rd b S (r::rs) w g:=by
  rintro g (h | ⟨h3,h4,h5⟩)
  ·exact .inl h
  ·refine .inr ⟨h3,h4,λq hq=>?_⟩
   rcases gW.1 hq with rfl | hq
   ·intro h; rcases(hW g).1 h with h | h
    ·exact h5 r1 av h
    ·exact h5 r2 av h
   ·exact h5 q (by simp [hq])
 refine⟨H.ext,λq hq=>?_,λq hq g hg=>?_,nT.2 ⟨λq hq g hg=>?_,h2.2⟩⟩
 ·rcases gW.1 hq with rfl | hq
  ·exact q.sub hs (hok (H.ok r1 av) (H.ok r2 av) (h1.1 r2 av))
  ·exact q.sub hs (H.ok q (by simp [hq]))
 ·rcases gW.1 hq with rfl | hq
  ·rcases(hW g).1 hg with h | h
   ·exact H.lo r1 av g h
   ·exact H.lo r2 av g h
  ·exact H.lo q (by simp [hq]) g hg
 ·rcases(hW g).1 hg with h | h
  ·exact h1.1 q (by simp [hq]) g h
  ·exact h2.1 q hq g h
theorem Hp.split{r1 r2 r:kF}(H:Hp b S w (r::rs))(hW:∀ g,r.W g↔r1.W g∨r2.W g)(hok:∀ {S':Nat->Prop},r.ok S' w->r1.ok S' w/\r2.ok S' w/\∀ g,r1.W g->¬ r2.W g):Hp b S w (r1::r2::rs):=by
 have h1:=nT.1 H.dis;have h0:=hok (H.ok r av)
 have hs:∀ g,Rd b S (r::rs) w g->Rd b S (r1::r2::rs) w g:=by
  rintro g (h | ⟨h3,h4,h5⟩)
  ·exact .inl h
  ·refine .inr ⟨h3,h4,λq hq=>?_⟩
   grind
 refine⟨H.ext,λq hq=>?_,λq hq g hg=>?_,nT.2 ⟨λq hq g hg=>?_,nT.2 ⟨λq hq g hg=>h1.1 q hq g ((hW g).2 (.inr hg)),h1.2⟩⟩⟩
 ·rcases gW.1 hq with rfl | hq
  ·exact q.sub hs h0.1
  ·rcases gW.1 hq with rfl | hq
   ·exact q.sub hs h0.2.1
   ·exact q.sub hs (H.ok q (by simp [hq]))
 ·rcases gW.1 hq with rfl | hq
  ·exact H.lo r av g (by grind)
  ·rcases gW.1 hq with rfl | hq
   ·exact H.lo r av g (by grind)
   ·exact H.lo q (by simp [hq]) g hg
 grind
theorem Hp.QV{B:ah}{d:Nat}{xs:V α}(H:Hp b S w rs)(s:nY rs (aR τ e B d xs) rest)(s':nY rest (fH τ e L) yF):Hp b S w (fH τ e (L++[(B,d,xs)])::yF):=by
 have H1:Hp b S w (aR τ e B d xs::fH τ e L::yF):=(H.sel s).perm (s'.perm.cons _);refine H1.join (λg=>?_) (λ{S'} h1 h2 h3=>?_)
 ·constructor
  ·rintro⟨r,hr,hg⟩
   rcases j5.1 hr with hr | hr
   ·exact .inr ⟨r,hr,hg⟩
   ·rw [mU.1 hr] at hg; exact .inl hg
  ·rintro(h | ⟨r,hr,hg⟩)
   ·exact⟨(B,d,xs),av,h⟩
   ·exact⟨r,by simp [hr],hg⟩
 ·refine⟨λr hr=>?_,zO.2 ⟨h2.2,Ui _ _,λp hp q hq g hg hq'=>?_⟩⟩
  ·rcases j5.1 hr with hr | hr
   ·exact h2.1 r hr
   ·rw [mU.1 hr]; exact h1
  ·rw [mU.1 hq] at hq'
   exact h3 g hq' ⟨p,hp,hg⟩
theorem MK{β:Type}{L:V β}{x:β}(hx:L[i]? = some x):L=L.take i++x::L.drop (i+1)/\L.eraseIdx i=L.take i++L.drop (i+1):=by
 grind [aP,List.getElem?_eq_some_iff,List.getElem_cons_drop,List.take_append_drop,List.eraseIdx_eq_take_drop_succ]
theorem Hp.Dm{i:Nat}{B:ah}{d:Nat}{xs:V α}(H:Hp b S w rs)(s:nY rs (fH τ e L) rest)(hx:L[i]? = some (B,d,xs)):Hp b S w (aR τ e B d xs::fH τ e (L.eraseIdx i)::rest):=by
 obtain⟨e1,e2⟩:=MK hx;refine(H.sel s).split (λg=>?_) (λ{S'} h=>?_)
 ·constructor
  ·rintro⟨r,hr,hg⟩
   rw [e1] at hr
   rcases j5.1 hr with hr | hr
   ·exact .inr ⟨r,by rw [e2]; simp [hr],hg⟩
   ·rcases gW.1 hr with rfl | hr
    ·exact .inl hg
    ·exact .inr ⟨r,by rw [e2]; simp [hr],hg⟩
  ·rintro(h | ⟨r,hr,hg⟩)
   ·exact⟨(B,d,xs),zy hx,h⟩
   ·rw [e2] at hr
    refine⟨r,?_,hg⟩
    grind
 ·have h1:∀ r∈L.eraseIdx i,r∈L:=by grind
  have h2:=h.2;rw [e1] at h2;obtain⟨h3,h4,h5⟩:=zO.1 h2;obtain⟨h6,h7⟩:=nT.1 h4;refine⟨h.1 _ (zy hx),⟨λr hr=>h.1 r (h1 r hr),?_⟩,?_⟩
  ·grind
  ·rintro g hg ⟨r,hr,hg'⟩
   rw [e2] at hr
   rcases j5.1 hr with hr | hr
   ·exact h5 r hr (B,d,xs) av g hg' hg
   ·exact h6 r hr g hg hg'
theorem Hp.Ej{i:Nat}{x0:Option Addr × Nat × V α}{B:ah}{d:Nat}{xs:V α}(H:Hp b S w rs)(hx:L[i]? = some x0)(s:nY rs (aR τ e B d xs) rest)(s':nY rest (fH τ e (L.eraseIdx i)) yF):Hp b S w (fH τ e (L.set i (B,d,xs))::yF):=by
 have H1:Hp b S w (aR τ e B d xs::fH τ e (L.eraseIdx i)::yF):=(H.sel s).perm (s'.perm.cons _);obtain⟨e1,e2⟩:=MK hx;have hi:=aP hx;have e3:L.set i (B,d,xs)=L.take i++(B,d,xs)::L.drop (i+1):=by grind
 refine H1.join (λg=>?_) (λ{S'} h1 h2 h3=>?_)
 ·constructor
  ·rintro⟨r,hr,hg⟩
   rw [e3] at hr
   rcases j5.1 hr with hr | hr
   ·exact .inr ⟨r,by rw [e2]; simp [hr],hg⟩
   ·rcases gW.1 hr with rfl | hr
    ·exact .inl hg
    ·exact .inr ⟨r,by rw [e2]; simp [hr],hg⟩
  ·rintro(h | ⟨r,hr,hg⟩)
   ·exact⟨(B,d,xs),by grind,h⟩
   ·rw [e2] at hr
    refine⟨r,?_,hg⟩
    grind
 ·rw [e2] at h2 h3
  obtain⟨h4,h5,h6⟩:=zO.1 h2.2;refine⟨λr hr=>?_,?_⟩
  ·rw [e3] at hr
   rcases j5.1 hr with hr | hr
   ·exact h2.1 r (by simp [hr])
   ·rcases gW.1 hr with rfl | hr
    ·exact h1
    ·exact h2.1 r (by simp [hr])
  ·rw [e3]
   refine zO.2 ⟨h4,nT.2 ⟨λq hq g hg hg'=>h3 g hg ⟨q,by simp [hq],hg'⟩,h5⟩,λp hp q hq g hg hg'=>?_⟩
   rcases gW.1 hq with rfl | hq
   ·exact h3 g hg' ⟨p,by simp [hp],hg⟩
   grind
theorem Hp.aB4{B:ah}{d:Nat}{xs:V α}(H:Hp b S w rs)(s:nY rs (WG τ L) rest)(hx:(B,d,xs)∈L):Sl τ (Rd b S rs w) w B d xs:=H.ok (WG τ L) (s.perm.mem_iff.2 av) _ hx
theorem Hp.Yu(H:Hp b S w rs)(s:nY rs (fH τ e L) rest):Hp b S w (WG τ L::rest):=by
 have H1:=H.sel s;have hd:=nT.1 H1.dis
 have hs:∀ g,Rd b S (fH τ e L::rest) w g->Rd b S (WG τ L::rest) w g:=by
  rintro g (h | ⟨h3,h4,h5⟩)
  ·exact .inl h
  ·refine .inr ⟨h3,h4,λq hq=>?_⟩
   rcases gW.1 hq with rfl | hq
   ·exact λh=>h
   grind
 refine⟨H.ext,λq hq=>?_,λq hq g hg=>?_,nT.2 ⟨λq hq g hg=>hg.elim,hd.2⟩⟩
 ·rcases gW.1 hq with rfl | hq
  ·intro r hr
   have h6:Own τ e 0 (Rd b S (fH τ e L::rest) w) w r.1 r.2.1 r.2.2:=(H1.ok (fH τ e L) av).1 r hr;refine h6.slb (λg hg=>?_) hs;have h8:=H1.lo (fH τ e L) av g ⟨r,hr,hg⟩;refine .inr ⟨h8.1,h8.2,λq hq=>?_⟩
   rcases gW.1 hq with rfl | hq
   ·exact λh=>h
   ·exact hd.1 q hq g ⟨r,hr,hg⟩
  ·exact q.sub hs (H1.ok q (by simp [hq]))
 ·rcases gW.1 hq with rfl | hq
  ·exact hg.elim
  ·exact H1.lo q (by simp [hq]) g hg
theorem Hp.aB5{β γ:Type}{σ:Ty β}{ρ:Ty γ}{xs:V β}{ys:V γ}(H:Hp b S w rs)(s:nY rs (aR σ e A c xs) rest)(hk:σ.k=ρ.k)(hl:ys.length=xs.length)
  (hR:∀(i:Nat)(x:β)(y:γ)(cs:V Value),xs[i]? = some x->ys[i]? = some y->σ.R (Rd b S rs w) w x cs->ρ.R (Rd b S rs w) w y cs):Hp b S w (aR ρ e A c ys::rest):=by
 have hsub:∀ g,Rd b S rs w g->Rd b S (aR σ e A c xs::rest) w g:=Rd.perm s.perm;refine(H.sel s).put (r':=aR ρ e A c ys) ⟨Y,Y,Y,j4 _,av,j4 _⟩ (λg hg=>.inl hg) ?_;obtain⟨css,h1,h2,h3⟩:=H.ow s;refine Own.low (lo:=b.heap.size) ⟨css,by rw [h1,hl],λi y hy=>?_,?_⟩ (fI _) hsub
 ·obtain⟨x,hx⟩:=bH (xs:=xs) (i:=i) (by grind)
  grind
 grind
end
theorem Ext.axl{w':World}(e:Ext w w'):∃(q:Nat)(os':Array Obj),w'=Go.Sort.grow (w.drewN q) os':=by
 refine⟨w'.drawn - w.drawn,w'.heap.extract w.heap.size w'.heap.size,?_⟩;obtain⟨e1,e2,e3,e4,e5,e6⟩:=e;obtain⟨h,t,d,o,out⟩:=w;obtain⟨h',t',d',o',out'⟩:=w'
 simp only at e1 e2 e3 e4 e5 e6
 subst e1 e2 e3;have hd:d+(d' - d)=d':=aj;have hh:h++h'.extract h.size h'.size=h':=by grind
 grind [Sort.grow,World.drewN]
theorem Yv[Inhabited α](hk:∀ x,(enc x).length=k)(ys:V α):(Go.Sort.flatK enc k ys.toArray).toList=(ys.map enc).flatten:=by
 apply Ho;intro j
 have hl:((ys.map enc).flatten).length=ys.length*k:=by
  induction ys with
  | nil=>simp
  | cons y ys ih=>grind
 by_cases hj:j<ys.length*k
 ·have hk0:0<k:=by grind
  have hlt:j / k<ys.length:=(Nat.div_lt_iff_lt_mul hk0).2 hj;have hm:j % k<k:=Nat.mod_lt _ hk0;obtain⟨y,hy⟩:=bH hlt;have hyj:ys[j / k]! = y:=by grind
  have hc:(enc y)[j % k]? = some (enc y)[j % k]!:=by grind
  have h2:=QM (ys.map enc) (by intro cs hcs; obtain⟨x,_,rfl⟩:=eX.1 hcs; exact hk x) (j / k) (enc y) (by rw [rM,hy]; rfl) (j % k) _ hc
  grind [Sort.flatK,Nat.div_add_mod',Sort.size_flatK,Array.getElem?_eq_getElem,Sort.get_flatK]
 simp [*]
theorem af9{F:Array Value}(hb:w.heap[g]? = some (.cells cur e (0,0)))(ht:cur.toList.take F.size=F.toList):Go.Sort.Holds id w g 0 F:=by
 intro j hj;refine⟨?_,by simp [World.frozen?,hb]⟩;have h1:(cur.toList.take F.size)[j]? = F.toList[j]?:=by grind
 grind [World.cell?]
theorem heap_sorted{n:Nat}{F:Array Value}{fr:Nat × Nat}(hb:w.heap[g]? = some (.cells cur e fr)):(Go.Sort.grow (Go.Sort.putRow id (Go.Sort.ahead w n) g 0 F) os).heap[g]? = some (.cells (Go.Sort.putCells id 0 F cur) e fr):=by
 grind [Sort.putRow,Sort.mapBlock,Sort.ahead,Sort.onCells,Array.getElem?_eq_some_iff,Sort.heap_grow_old]
theorem Uk[Inhabited α]{enc:α->Value}{b:World}{W:Nat->Prop}{n:Nat}{F:Array α}(hW:W g):Wr b w (Go.Sort.grow (Go.Sort.putRow enc (Go.Sort.ahead w n) g 0 F) os) W:=by
 refine⟨Y,Y,Y,av,λk hk hne=>?_,?_⟩
 ·grind [Sort.putRow,Sort.mapBlock,Sort.ahead,Sort.heap_grow_old]
 ·show w.drawn<=w.drawn+n; omega
theorem aga(cur F:Array Value)(h:F.size<=cur.size):(Go.Sort.putCells id 0 F cur).toList.take F.size=F.toList:=by
 apply Ho
 grind [Sort.putCells]
section
variable {P:Program}{b w:World}{S:Nat->Prop}{F:List kF}
theorem Own.Ul{h1:∀ x,∀ u∈enc x,u.oneCell'=true}(h:Own (Ty.flat k enc pos hl h1) e lo S w A c xs)(hne:xs≠[]):∃ g cur,A=some ⟨g,0,none⟩/\lo<=g/\w.heap[g]? = some (.cells cur e (0,0))/\xs.length<=c/\c<=maxLen/\cur.size=c*k/\cur.toList.take (xs.length*k)=(xs.map enc).flatten:=by
 obtain⟨css,c1,c2,c3⟩:=h
 have aMU:css=xs.map enc:=by
  apply Ho;intro i;rw [rM]
  cases hi:xs[i]? with
  | none=>grind
  | some x=>
   obtain⟨cs,h5,h6⟩:=c2 i x hi;rw [h5,show cs=enc x from h6]; rfl
 rcases c3.2 with ⟨hv,hn⟩ | ⟨g,cap,cur,hv,hg,hh,hnc,hcm,hcs,ht⟩
 ·grind
 ·injection hv with hA hn' hc'
  subst hA hc';exact⟨g,cur,Y,hg,hh,hnc,hcm,hcs,by rw [<- aMU]; exact ht⟩
theorem Own.Um{h1:∀ x,∀ u∈enc x,u.oneCell'=true}(hg:lo<=g)(hh:w.heap[g]? = some (.cells cur e (0,0)))(hnc:xs.length<=c)(hcm:c<=maxLen)(hcs:cur.size=c*k)(ht:cur.toList.take (xs.length*k)=(xs.map enc).flatten):Own (Ty.flat k enc pos hl h1) e lo S w (some ⟨g,0,none⟩) c xs:=by
 have hlen:∀ ys:V α,((ys.map enc).flatten).length=ys.length*k:=by
  intro ys
  induction ys with
  | nil=>simp
  | cons y ys ih=>grind
 exact⟨xs.map enc,av,λi x hx=>⟨enc x,by grind,rfl⟩,hlen xs,.inr ⟨g,c,cur,rfl,hg,hh,hnc,hcm,hcs,ht⟩⟩
theorem Hp.sorted[Inhabited α]{h1:∀ x,∀ u∈enc x,u.oneCell'=true}{e n:Nat}{ys:V α}(H:Hp b S w (aR (Ty.flat k enc pos hl h1) e (some ⟨g,0,none⟩) c xs::F))
  (hh:w.heap[g]? = some (.cells cur e (0,0))) (hnc:xs.length<=c) (hcm:c<=maxLen) (hcs:cur.size=c*k) (hy:ys.length=xs.length) :
  Hp b S (sortWorldK enc k w g 0 n ys.toArray os) (aR (Ty.flat k enc pos hl h1) e (some ⟨g,0,none⟩) c ys::F):=by
 have hsz:(Go.Sort.flatK enc k ys.toArray).size=ys.length*k:=by simp
 have hle:ys.length*k<=c*k:=Ak k aj;refine H.put (r':=aR (Ty.flat k enc pos hl h1) e (some ⟨g,0,none⟩) c ys) (Uk (by rfl)) (λq hq=>.inl hq)<|Own.Um (fI _) (heap_sorted hh) aj hcm (by grind [Sort.putCells]) ?_
 grind [aga,Yv]
open Go.Sort in
theorem aGk(L:SlLaysF0.n6 P ρ)[Inhabited α]{h1:∀ x,∀ u∈enc x,u.oneCell'=true}(aE:∀ w,(isAgg (ρ.t 24)).run P w=.ok true w)(zE:∀ w,(Go.sizeOf (ρ.t 24)).run P w=.ok k w)
 (hO:SWO (ltOf cf)) {cb:Array Value} {e:Nat} (H:Hp b S w (aR (Ty.flat k enc pos hl h1) e A c xs::F)) (eg:∀ args w,(callFunc g args).run P w=.ok (.enter g args) w) (hn:xs.length<=1000000) (hne:xs≠[])
    (hcmp:∀(w':World)(ys:V α),ys.length=xs.length->Hp b S w' (aR (Ty.flat k enc pos hl h1) e A c ys::F)->∀ x y:α,bM P g (#[.agg (enc x).toArray,.agg (enc y).toArray]++cb) w' λv w''=>v=O (cf x y)/\Ext w' w'') :
    bM P (ρ.f 6) #[.slice A xs.length c,.func (.func g) #[] cb] w λv w'=>v=.tuple #[]/\∃ ys:V α,ys.Perm xs/\(ys.Pairwise λx y=>¬ cf y x<0)/\Hp b S w' (aR (Ty.flat k enc pos hl h1) e A c ys::F):=by
  obtain⟨q,cur,rfl,hq,hh,hnc,hcm,hcs,ht⟩:=Own.Ul (H.ow U) hne;have hqs:q<w.heap.size:=(vX.1 hh).1
  have hH:Go.Sort.HoldsK enc k w q 0 xs.toArray:=by
    refine af9 hh ?_;rw [Yv hl,Go.Sort.size_flatK]; simpa using ht
  have hc:CmpLays P g cb enc k cf q 0 xs.toArray.size w:=by
    intro m os dk hdk x y;obtain⟨ys,rfl⟩:∃ ys:V α,dk=ys.toArray:=⟨dk.toList,av⟩;have hy:ys.length=xs.length:=by simpa using hdk
    have h3:=hcmp _ ys hy (H.sorted (n:=m) (os:=os) hh hnc hcm hcs hy) x y;refine Gn h3 ?_;rintro e' w' ⟨v,rfl,rfl,ex⟩;obtain⟨q',os',hw⟩:=ex.axl;exact⟨Y,q',os',hw⟩
  have h4:=AnyQ.slices_SortFunc L k aE zE enc hl h1 cf hO g cb q 0 c xs.toArray w eg hc hH hqs (by simp; omega)
  simp only [X8] at h4
  refine Gn h4 ?_;rintro e' w' ⟨rfl,d',n,os,hp,hs,rfl⟩;obtain⟨ys,rfl⟩:∃ ys:V α,d'=ys.toArray:=⟨d'.toList,av⟩;have hsz:ys.length=xs.length:=by simpa using hp.1
  refine⟨_,Y,Y,ys,?_,?_,H.sorted hh hnc hcm hcs hsz⟩
  · have:=hp.2.2
    simp only [X8,List.extract_toArray,List.extract_eq_drop_take,List.drop_zero,VI] at this
    rwa [gY aj,gY (j4 _)] at this
  · rw [ER]
    intro i j hi hj hij hlt;have:=hs i j (fI _) hij aj
    simp only [ltOf] at this
    rw [getElem!_pos ys.toArray j (by simpa using hj),getElem!_pos ys.toArray i (by simpa using hi)] at this
    simp only [List.getElem_toArray] at this
    simp at this
    omega
open Go.Sort in
theorem aB6(L:SlLaysF0.n6 P ρ){fv:Value}{e:Nat}(H:Hp b S w (aR τ e A c xs::F))(hne:xs=[]):bM P (ρ.f 6) #[.slice A xs.length c,fv] w λv w'=>v=.tuple #[]/\Hp b S w' (aR τ e A c xs::F):=by
 subst hne;refine Gn (AnyF.slices_SortFunc_none L A c fv w) ?_
 grind
theorem Iw:∀ zs:V Int,(zs.map λx:Int=>[Value.int .i64 x]).flatten=zs.map (Value.int .i64)
 | []=>rfl
 | z::zs=>by simp [Iw zs]
open Go.Sort in
theorem sorti(L:Lays.n189 P ρ){e:Nat}{xs:V Int}{hl:∀ x:Int,([Value.int .i64 x]:V Value).length=1}{pos:0<1}{h1:∀ x:Int,∀ u∈([Value.int .i64 x]:V Value),u.oneCell'=true}(H:Hp b S w (aR (Ty.flat 1 (λx:Int=>[O x]) pos hl h1) e A c xs::F))(hn:xs.length<=1000000):bM P (ρ.f 189) #[.slice A xs.length c] w λv w'=>v=.tuple #[]/\Hp b S w' (aR (Ty.flat 1 (λx:Int=>[O x]) pos hl h1) e A c (xs.mergeSort λx y=>decide (x<=y))::F):=by
 by_cases hne:xs=[]
 ·subst hne
  refine Gn (Any.slices_Sort_int_none L A c w) ?_
  simp_all
 ·obtain⟨q,cur,rfl,hq,hh,hnc,hcm,hcs,ht⟩:=Own.Ul (H.ow U) hne
  have hqs:q<w.heap.size:=(vX.1 hh).1;have hH:Holds (Value.int .i64) w q 0 xs.toArray:=holds_of_blockI hh (by rw [<- Iw,<- ht,Nat.mul_one]);refine Gn (Any.slices_Sort_int L q 0 c xs w hH hqs aj) ?_;rintro e' w' ⟨rfl,n,os,rfl⟩;have hsz:(xs.mergeSort λx y=>decide (x<=y)).length=xs.length:=MH _;refine⟨_,Y,Y,H.put (r':=aR (Ty.flat 1 (λx:Int=>[O x]) pos hl h1) e (some ⟨q,0,none⟩) c (xs.mergeSort λx y=>decide (x<=y))) (Uk (by rfl)) (λq hq=>.inl hq) ?_⟩;refine Own.Um (fI _) (heap_sortedI _ hh) aj hcm (by simp [putCells,hcs]) ?_;rw [Nat.mul_one,Iw]
  grind [take_putCellsI]
open Go.Sort in
theorem aGl(L:Lays2.n20 P ρ){e:Nat}{xs:V Int}{hl:∀ x:Int,([Value.int .i64 x]:V Value).length=1}{pos:0<1}{h1:∀ x:Int,∀ u∈([Value.int .i64 x]:V Value),u.oneCell'=true}(H:Hp b S w (aR (Ty.flat 1 (λx:Int=>[O x]) pos hl h1) e A c xs::F))(hn:xs.length<=1000000):bM P (ρ.f 20) #[.slice A xs.length c] w λv w'=>v=.slice A (Lib.compact xs).length c/\Hp b S w' (aR (Ty.flat 1 (λx:Int=>[O x]) pos hl h1) e A c (Lib.compact xs)::F):=by
 by_cases hne:xs=[]
 ·subst hne
  refine Gn (Any.slices_Compact_int_empty L A c w) ?_;rintro e' w' ⟨rfl,rfl⟩;exact⟨_,Y,Y,H⟩
 ·obtain⟨q,cur,rfl,hq,hh,hnc,hcm,hcs,ht⟩:=Own.Ul (H.ow U) hne
  have hH:Holds (Value.int .i64) w q 0 xs.toArray:=holds_of_blockI hh (by rw [<- Iw,<- ht,Nat.mul_one]);refine Gn (Any.slices_Compact_int L q 0 c xs w hH aj hnc) ?_;rintro e' w' ⟨rfl,n,rfl⟩;have hle:(Lib.compact xs).length<=xs.length:=by grind [Lib.compact,Lib.compactUpTo]
  generalize hzs:Lib.compact xs++List.replicate (xs.length - (Lib.compact xs).length) 0=zs
  have hzl:zs.length=xs.length:=by grind
  have hg:(putRow (Value.int .i64) (Go.Sort.ahead w n) q 0 zs.toArray)=grow (putRow (Value.int .i64) (Go.Sort.ahead w n) q 0 zs.toArray) #[]:=by rfl
  refine⟨_,Y,Y,?_⟩;rw [hg];refine H.put (r':=aR (Ty.flat 1 (λx:Int=>[O x]) pos hl h1) e (some ⟨q,0,none⟩) c (Lib.compact xs)) (Uk (by rfl)) (λq hq=>.inl hq)<|Own.Um (fI _) (heap_sortedI _ hh) aj hcm (by simp [putCells,hcs]) ?_
  rw [Nat.mul_one,Iw];have h2:=take_putCellsI cur zs (by rw [hzl,hcs]; omega);have h3:(zs.map (Value.int .i64)).take (Lib.compact xs).length=(Lib.compact xs).map (Value.int .i64):=by grind
  grind
open Go.Sort in
theorem aAu(L:SlLaysF0.n6 P ρ)[Inhabited α]{h1:∀ x,∀ u∈enc x,u.oneCell'=true}(aE:∀ w,(isAgg (ρ.t 24)).run P w=.ok true w)(zE:∀ w,(Go.sizeOf (ρ.t 24)).run P w=.ok k w)
 (hO:SWO (ltOf cf)) {cb:V Value} {e:Nat} (H:Hp b S w (aR (Ty.flat k enc pos hl h1) e A c xs::F)) (eg:∀ args w,(callFunc g args).run P w=.ok (.enter g args) w) (hn:xs.length<=1000000) (hu:∀ x∈xs,∀ y∈xs,¬ cf x y<0->¬ cf y x<0->x=y)
    (hcmp:∀(w':World)(ys:V α),ys.length=xs.length->Hp b S w' (aR (Ty.flat k enc pos hl h1) e A c ys::F)->∀ x y:α,bM P g (([.agg (enc x).toArray,.agg (enc y).toArray]:V Value)++cb).toArray w' λv w''=>v=O (cf x y)/\Ext w' w'') :
    bM P (ρ.f 6) #[.slice A xs.length c,.func (.func g) #[] cb.toArray] w λv w'=>v=.tuple #[]/\Hp b S w' (aR (Ty.flat k enc pos hl h1) e A c (xs.mergeSort λx y=>!decide (cf y x<0))::F):=by
  by_cases hne:xs=[]
  · have h:=aB6 L (fv:=.func (.func g) #[] cb.toArray) H hne
    simp_all
  · have h:=aGk L aE zE hO H eg hn hne (cb:=cb.toArray) (by grind)
    refine h.mono ?_;rintro v w' ⟨rfl,ys,hp,hs,K⟩
    have hms:(xs.mergeSort λx y=>!decide (cf y x<0)).Pairwise λx y=>¬ cf y x<0:=by
      have h:=List.pairwise_mergeSort (le:=λx y=>!decide (cf y x<0)) (λa b c h1 h2=>by
        have h3:=hO.ntrans c b a
        simp only [ltOf,dZ,bV] at h1 h2 h3 ⊢
        exact h3 h2 h1) (λa b=>by
        by_cases h1:cf b a<0
        · by_cases h2:cf a b<0
          · have h3:=hO.trans a b a (by simp [ltOf,h2]) (by simp [ltOf,h1])
            rw [hO.irrefl] at h3; cases h3
          · simp [h2]
        · simp [h1]) xs
      exact by grind
    have he:ys=xs.mergeSort λx y=>!decide (cf y x<0):=
      List.Perm.eq_of_pairwise (λa b ha hb h1 h2=>hu a (hp.mem_iff.1 ha) b (List.mem_mergeSort.1 hb) h2 h1) hs hms (hp.trans (List.mergeSort_perm xs _).symm)
    grind
end
instance {g:Nat}{o:Obj}:zQ (nK g o):=⟨λh=>h⟩
section
variable {P:Program}{n:Cx}{l:List (Nat × Value)}{b w:World}{S:Nat->Prop}{rs rest:List kF}{Q:Exit->Act->World->Prop}{K:Act->World->Prop}{M:Array Oper}{os:List Oper}{ty:TypeId}{pos:String}{lN:Array Edge}{d:Nat}
theorem Ev.neg{a:Int}(hx:fM l x=some (.int .i64 a))(h:I64 (-a)):Ev P n l w (.unOp .neg t x) (.int .i64 (-a)):=λo a' w' ho ha _=>by
 unfold execOp; rw [ho]
 have h2:(Op.unary .neg (.int .i64 a)).run P w'=.ok (.int .i64 (-a)) w':=by
  have h3:IntKind.i64.wrap (0 - a)=-a:=by rw [Int.zero_sub]; exact h.wrap
  have h4:(Op.unary .neg (.int .i64 a)).run P w'=.ok (.int .i64 (IntKind.i64.wrap (0 - a))) w':=rfl;rw [h4,h3]
 simp [ha.eval hx,h2]
theorem VP(dd:Nat){f:Fn}{cs:Array Value}(hu:P.underlying t=some (.func ps rs' vr)):(Op.equalIn (dd+1) t (.func f azv cs) .nilFunc).run P w=.ok false w:=by
 simp [Op.equalIn,jV hu]
theorem VQ(dd:Nat)(hu:P.underlying t=some (.func ps rs' vr)):(Op.equalIn (dd+1) t .nilFunc .nilFunc).run P w=.ok true w:=by
 simp [Op.equalIn,jV hu]
theorem Ev.aMW{f:Fn}{cs:Array Value}(hu:P.underlying t=some (.func ps rs' vr))(hx:fM l x=some (.func f azv cs)):Ev P n l w (.binOp .neq t x (.const .nilFunc) ty) (.bool true):=
 pY hx rfl (eqGuard_at_func ..) λw=>by
  have h:(Op.equal t (.func f azv cs) .nilFunc).run P w=.ok false w:=VP 9999 hu
  simp_all [binOp]
theorem Ev.aMX(hu:P.underlying t=some (.func ps rs' vr))(hx:fM l x=some .nilFunc):Ev P n l w (.binOp .neq t x (.const .nilFunc) ty) (.bool false):=
 pY hx rfl (eqGuard_at_nilFunc ..) λw=>by
  have h:(Op.equal t .nilFunc .nilFunc).run P w=.ok true w:=VQ 9999 hu
  simp_all [binOp]
theorem mkm(H:Hp b S w rs)(hd:Nat.blt d n.size=true)(k:∀ g w',Hp b S w' (nK g (.map #[] 0)::rs)->WL P n M Q K os ((d,.map (some g))::l) w'):WL P n M Q K (⟨some d,.makeMap t none,ty,pos,lN,none⟩::os) l w:=
 yD (by simp [eY]) rfl hd (λa ha=>⟨_,rfl,rfl⟩) λw2 e=>by
  subst e; exact k _ _ (H.newObj (.map #[] 0))
theorem Yw(hm:P.underlying t=some (.map kt et))(hk:P.underlying kt=some (.int .i64))(hb:w.heap[g]? = some (.map es BK))(hf:Instr.findNow (.int .i64) (O z) es.toList 0=some none):(Instr.mapUpdate t (.map (some g)) (O z) v).run P w=.ok () (w.putObj g (.map (es.push ⟨O z,v,BK⟩) (BK+1))):=by
 have h1:(Instr.checkKey false 10000 kt (O z)).run P w=.ok () w:=MI (n:=9999) hk (by rfl) false;have h2:(Instr.findKey kt (O z) es.toList).run P w=.ok none w:=DR hk hf;unfold Instr.mapUpdate
 simp only [jh,jV hm,jv,sO hb,h1,h2,EU _ hb]
 rfl
theorem aq2(hm:P.underlying t=some (.map kt et))(hk:P.underlying kt=some (.int .i64))(hb:w.heap[g]? = some (.map es BK))(hf:Instr.findNow (.int .i64) (O z) es.toList 0=some (some (i,v))):(Instr.lookup t (.map (some g)) (O z) false).run P w=.ok v w:=by
 have h1:∀ e,(Instr.checkKey e 10000 kt (O z)).run P w=.ok () w:=λe=>MI (n:=9999) hk (by rfl) e;have h2:(Instr.findKey kt (O z) es.toList).run P w=.ok (some (i,v)) w:=DR hk hf;unfold Instr.lookup
 simp only [jh,jV hm,jv,sO hb,h1,h2,kZ]
 rfl
theorem an8(hm:P.underlying t=some (.map kt et))(hk:P.underlying kt=some (.int .i64))(hz:(zeroValue et).run P w=.ok v w)(hb:w.heap[g]? = some (.map es BK))(hf:Instr.findNow (.int .i64) (O z) es.toList 0=some none):(Instr.lookup t (.map (some g)) (O z) false).run P w=.ok v w:=by
 have h1:∀ e,(Instr.checkKey e 10000 kt (O z)).run P w=.ok () w:=λe=>MI (n:=9999) hk (by rfl) e;have h2:(Instr.findKey kt (O z) es.toList).run P w=.ok (none) w:=DR hk hf;unfold Instr.lookup
 simp only [jh,jV hm,jv,sO hb,h1,h2,kZ,hz]
 rfl
theorem ins{m vy:Operand}(H:Hp b S w rs)(s:nY rs (nK g (.map es BK)) rest)(hx:fM l m=some (.map (some g)))(hkey:fM l ky=some (O z))(hv:fM l vy=some v)
  (hm:P.underlying t=some (.map kt et)) (hk:P.underlying kt=some (.int .i64)) (hf:Instr.findNow (.int .i64) (O z) es.toList 0=some none)
  (k:∀ w',Hp b S w' (nK g (.map (es.push ⟨O z,v,BK⟩) (BK+1))::rest)->WL P n M Q K os l w'):WL P n M Q K (⟨none,.insert t m ky vy,ty,pos,lN,none⟩::os) l w:=
 Py (by simp [eY]) rfl (R:=λw'=>w'=w.putObj g (.map (es.push ⟨O z,v,BK⟩) (BK+1))) (λa ha=>⟨_,by
  unfold execOp; simp [ha.eval hx,ha.eval hkey,ha.eval hv,Yw hm hk (H.obj s) hf],rfl⟩) λw' e=>by
  subst e; exact k _ (H.putObj s _)
theorem Ev.look{m:Operand}(H:Hp b S w rs)(s:nY rs (nK g (.map es BK)) rest)(hx:fM l m=some (.map (some g)))(hkey:fM l ky=some (.int .i64 z))
  (hm:P.underlying t=some (.map kt et)) (hk:P.underlying kt=some (.int .i64)) (hf:Instr.findNow (.int .i64) (.int .i64 z) es.toList 0=some (some (i,v))):Ev P n l w (.lookup t m ky false) v:=λo a w' ho ha ex=>by
 have hb:w'.heap[g]? = some (.map es BK):=(ex.block g (vX.1 (H.obj s)).1).trans (H.obj s);unfold execOp; rw [ho]; simp [ha.eval hx,ha.eval hkey,aq2 hm hk hb hf]
def yc:=@Ev.look
theorem Ev.aAv{m:Operand}(H:Hp b S w rs)(s:nY rs (nK g (.map es BK)) rest)(hx:fM l m=some (.map (some g)))(hkey:fM l ky=some (.int .i64 z))
  (hm:P.underlying t=some (.map kt et)) (hk:P.underlying kt=some (.int .i64)) (hz:∀ w,(zeroValue et).run P w=.ok v w) (hf:Instr.findNow (.int .i64) (.int .i64 z) es.toList 0=some none):Ev P n l w (.lookup t m ky false) v:=λo a w' ho ha ex=>by
 have hb:w'.heap[g]? = some (.map es BK):=(ex.block g (vX.1 (H.obj s)).1).trans (H.obj s);unfold execOp; rw [ho]; simp [ha.eval hx,ha.eval hkey,an8 hm hk (hz w') hb hf]
end
section
variable {P:Program}{n:Cx}{l:List (Nat × Value)}{w:World}{Q:Exit->Act->World->Prop}{K:Act->World->Prop}{M:Array Oper}{os:List Oper}{ty:TypeId}{pos:String}{lN:Array Edge}{d:Nat}{Iq:Operand}{args:List Operand}{tys:Array TypeId}{f:FuncId}{fs caps vs all:List Value}{R:Value->World->Prop}
theorem Ev.aGm{xs ys:V Operand}(hx:Ef l xs=some fs)(hy:Ef l ys=some caps):Ev P n l w (.makeFunc (.func f) xs.toArray ys.toArray) (.func (.func f) fs.toArray caps.toArray):=λo a w' ho ha _=>by
 have h1:=ha.VL hx;have h2:=ha.VL hy;unfold execOp; rw [ho]
 simp only [vI,h1,h2]
 rfl
def yg:=@Ev.aGm
theorem abF{a:Act}{o:Oper}(ho:o.op=.call ⟨.value Iq,args.toArray,tys⟩)(ha:Has n l a)
  (hf:fM l Iq=some (.func (.func f) fs.toArray caps.toArray)) (hargs:Ef l args=some vs) (hall:fs++vs++caps=all) (hc:bC P f) (w:World):(execOp a.eval o).run P w=.ok (.enter f all.toArray) w:=by
 unfold execOp;rw [ho];have h1:=ha.eval hf;have h2:=ha.VL hargs
 simp only [resolve,h1,Deferred.ofValue,jh,kZ,jv,invoke]
 have:(fs.toArray++Array.map a.eval args.toArray++caps.toArray:Array Value)=all.toArray:=by grind
 rw [this];exact hc _ w
theorem WL.aGn(hf:fM l Iq=some (.func (.func f) fs.toArray caps.toArray))(hargs:Ef l args=some vs)(hall:fs++vs++caps=all)(Ir:bC P f)(hc:bM P f all.toArray w R)(hd:Nat.blt d n.size=true)
  (k:∀ v w',R v w'->WL P n M Q K os ((d,v)::l) w'):WL P n M Q K (⟨some d,.call ⟨.value Iq,args.toArray,tys⟩,ty,pos,lN,none⟩::os) l w:=
 λa ha=>QO (eY a) (by grind [abF]) hc λv w' hv=>k v w' hv _ (ha.put hd v)
def Hq:=@WL.aGn
end
section
variable {P:Program}{n:Cx}{l:List (Nat × Value)}{w:World}{Q:Exit->Act->World->Prop}{m:Nat}
theorem cT{c:Operand}{x y z:Code}(hc:fM l c=some (.bool true))(h:WP P n x l w (Exit.then (G7 P n z Q) Q)):WP P n (.seq (.cond c x y) z) l w Q:=WP.cond hc (λ_=>h) av
theorem cF{c:Operand}{x y z:Code}(hc:fM l c=some (.bool false))(h:WP P n y l w (Exit.then (G7 P n z Q) Q)):WP P n (.seq (.cond c x y) z) l w Q:=WP.cond hc av (λ_=>h)
def RN(P:Program)(n:Cx)(c:Code)(Q:Exit->Act->World->Prop)(m:Nat)(l:List (Nat × Value))(w:World):Prop:=∀ a,Has n l a->Code.roundsIn n.fence 0 P c Q m a w
theorem Rn(m:Nat){c:Code}(h:RN P n c Q m l w):WP P n (.loop c) l w Q:=λa ha=>wpIn_loop_rounds m (h a ha)
theorem RN.s{c:Code}(h:WP P n c l w (Exit.then (Code.roundsIn n.fence 0 P c Q m) Q)):RN P n c Q (m+1) l w:=h
theorem l7.rnd{c:Code}(h:RN P n c Q m l w):l7 n (Exit.then (Code.roundsIn n.fence 0 P c Q m) Q) .normal l w:=h
end
section
variable {P:Program}{n:Cx}{l:List (Nat × Value)}{w:World}{t ty e:TypeId}{x y:Operand}
theorem aq3(hu:P.underlying t=some (.pointer e)):P.underlying t=some (.pointer (P.pointee t)):=by
 grind [Program.pointee]
theorem Ev.an9{p:ah}(hu:P.underlying t=some (.pointer e))(hx:fM l x=some (.pointer p))(hy:fM l y=some (.pointer none)):Ev P n l w (.binOp .eql t x y ty) (.bool p.isNone):=
 pY hx hy (eqGuard_at_pointer ..) (by grind [run_eql_pointer_nil,aq3])
theorem Ev.pnn{p:ah}(hu:P.underlying t=some (.pointer e))(hx:fM l x=some (.pointer p))(hy:fM l y=some (.pointer none)):Ev P n l w (.binOp .neq t x y ty) (.bool (!p.isNone)):=
 pY hx hy (eqGuard_at_pointer ..) (by grind [run_neq_pointer_nil,aq3])
end
inductive FrD where
  | thn (y:Code)
  | blk (id:Nat)
  | rnd (c:Code) (m:Nat)
  | call (n:Cx) (fn:Func) (M:Array Oper) (os:List Oper) (y:Option Code) (d:Nat) (l:List (Nat × Value))
inductive CuD where
  | c (x:Code)
  | o (M:Array Oper) (os:List Oper) (y:Option Code)
  | e (x:Exit)
abbrev Lc:=List (Nat × Value)
abbrev Qt:=Exit->Act->World->Prop
structure SdD where
  n:Cx
  fs:List FrD
  cu:CuD
  l:Lc
def oQ(P:Program)(n:Cx)(Q:Qt):Option Code->Qt
  | none=>Q
  | some y=>Exit.then (G7 P n y Q) Q
def oK(P:Program)(n:Cx)(Q:Qt):Option Code->Act->World->Prop
  | none=>Q .normal
  | some y=>G7 P n y Q
def sj(P:Program)(Q:Qt):Cx->List FrD->Qt
  | _,[]=>Q
  | n,.thn y::fs=>Exit.then (G7 P n y (sj P Q n fs)) (sj P Q n fs)
  | n,.blk id::fs=>Exit.inBlock id (sj P Q n fs)
  | n,.rnd c m::fs=>Exit.then (Code.roundsIn n.fence 0 P c (sj P Q n fs) m) (sj P Q n fs)
  | _,.call n fn M os y d l::fs=>bodyPost P fn (RR λv w=>WL P n M (oQ P n (sj P Q n fs) y) (oK P n (sj P Q n fs) y) os ((d,v)::l) w)
def Gs(P:Program)(Q:Qt)(s:SdD)(w:World):Prop:=
  match s with
  | ⟨n,fs,.c x,l⟩=>WP P n x l w (sj P Q n fs)
  | ⟨n,fs,.o M os y,l⟩=>WL P n M (oQ P n (sj P Q n fs) y) (oK P n (sj P Q n fs) y) os l w
  | ⟨n,fs,.e x,l⟩=>l7 n (sj P Q n fs) x l w
def aB7:BinOp->Int->Int->Option Bool
  | .lss,a,b=>some (decide (a<b))
  | .leq,a,b=>some (decide (a<=b))
  | .gtr,a,b=>some (decide (b<a))
  | .geq,a,b=>some (decide (b<=a))
  | .eql,a,b=>some (decide (a=b))
  | .neq,a,b=>some (!decide (a=b))
  | _,_,_=>none
def par(k:IntKind):BinOp->Int->Int->Option Int
  | .add,a,b=>some (k.wrap (a+b))
  | .sub,a,b=>some (k.wrap (a - b))
  | .mul,a,b=>some (k.wrap (a*b))
  | .and,a,b=>some (k.wrap (BitVec.ofInt k.bits a&&& BitVec.ofInt k.bits b).toNat)
  | .or,a,b=>some (k.wrap (BitVec.ofInt k.bits a||| BitVec.ofInt k.bits b).toNat)
  | .xor,a,b=>some (k.wrap (BitVec.ofInt k.bits a ^^^ BitVec.ofInt k.bits b).toNat)
  | .quo,a,b=>bif decide (b=0) then none else some (k.wrap (a.tdiv b))
  | .rem,a,b=>bif decide (b=0) then none else some (a.tmod b)
  | _,_,_=>none
def psh(k:IntKind)(a b:Int):BinOp->Option Int
  | .shl=>bif decide (b<0) then none else some (k.wrap (a*2 ^ min b.toNat k.bits))
  | .shr=>bif decide (b<0) then none else some (a.fdiv (2 ^ min b.toNat k.bits))
  | _=>none
def pev(P:Program)(l:Lc):Op->Option Value
  | .move x=>fM l x
  | .assign x=>fM l x
  | .pick c x y=>match fM l c with
    | some (.bool true)=>fM l x
    | some (.bool false)=>fM l y
    | _=>none
  | .extract x i=>match fM l x with
    | some (.tuple ⟨vs⟩)=>vs[i]?
    | _=>none
  | .nilCheck x=>match fM l x with
    | some (.pointer (some p))=>some (.pointer (some p))
    | _=>none
  | .unOp .not _ x=>match fM l x with
    | some (.bool b)=>some (.bool (!b))
    | _=>none
  | .binOp op t x y _=>match fM l x,fM l y with
    | some (.int k a),some (.int k' b)=>match psh k a b op with
      | some r=>some (.int k r)
      | none=>match decEq k' k with
        | .isTrue _=>match par k op a b with
          | some r=>some (.int k r)
          | none=>match aB7 op a b with
            | some r=>some (.bool r)
            | none=>none
        | _=>none
    | some (.slice A _ _),some (.slice none _ _)=>match op,P.underlying t with
      | .eql,some (.slice _)=>some (.bool A.isNone)
      | _,_=>none
    | some (.pointer p),some (.pointer none)=>match op,P.underlying t with
      | .eql,some (.pointer _)=>some (.bool p.isNone)
      | .neq,some (.pointer _)=>some (.bool (!p.isNone))
      | _,_=>none
    | _,_=>none
  | .convert s d x=>match fM l x,P.underlying s,P.underlying d with
    | some (.int _ a),some _,some (.int k)=>some (.int k (k.wrap a))
    | _,_,_=>none
  | .fieldAddr s x f=>match fM l x,P.underlying s with
    | some (.pointer (some ⟨g,o,none⟩)),some (.struct fs)=>match fs[f]? with
      | some fl=>match P.info? fl.type with
        | some i=>bif Nat.blt 0 i.size then some (.pointer (some ⟨g,o+fl.offset,none⟩)) else none
        | none=>none
      | none=>none
    | _,_=>none
  | .index t x y=>match fM l x,fM l y,P.underlying t with
    | some (.string s),some (.int _ (.ofNat i)),some .string=>match s.data[i]? with
      | some u=>some (.int .u8 u.toNat)
      | none=>none
    | _,_,_=>none
  | .call ⟨.builtin .len,⟨[x]⟩,⟨[t]⟩⟩=>match fM l x,P.underlying t with
    | some (.slice _ m _),some (.slice _)=>some (.int .i64 (m:Int))
    | _,_=>none
  | .call ⟨.builtin .min,⟨[x,y]⟩,_⟩=>match fM l x,fM l y with
    | some (.int k a),some (.int _ b)=>some (.int k (if b<a then b else a))
    | _,_=>none
  | .call ⟨.builtin .max,⟨[x,y]⟩,_⟩=>match fM l x,fM l y with
    | some (.int k a),some (.int _ b)=>some (.int k (if b>a then b else a))
    | _,_=>none
  | _=>none
def QW(M:Array Oper)(l:Lc):Option (Nat × Bool)->Option Bool
  | none=>some true
  | some (j,bQ)=>match guardOf M l j with
    | some (.bool b)=>some (b == bQ)
    | some _=>some false
    | none=>none
def agb(α:Type):Nat->List Value->(Lc->α)->α
  | _,[],k=>k []
  | i,v::vs,k=>agb α (i+1) vs λr=>k ((i,v)::r)
def aAw(P:Program)(fl:List Nat)(l:Lc):Op->Option (Nat × Func × Code × List Value)
  | .call ⟨.value Iq,⟨args⟩,_⟩=>match fM l Iq,Ef l args with
    | some (.func (.func f) ⟨as0⟩ ⟨caps⟩),some vs=>bif fl.contains f then match P.funcs[f]? with
      | some fn=>match fn.body with
        | some c=>some (f,fn,c,as0++vs++caps)
        | none=>none
      | none=>none
      else none
    | _,_=>none
  | _=>none
def axo(P:Program)(n:Cx)(M:Array Oper)(l:Lc):Oper->Option Lc
  | ⟨some d,op,_,_,_,g⟩=>bif Nat.blt d n.size then match QW M l g with
      | some true=>match pev P l op with
        | some v=>some ((d,v)::l)
        | none=>none
      | some false=>some ((d,undef)::l)
      | none=>none
    else none
  | _=>none
def axp(P:Program)(n:Cx)(M:Array Oper):Nat->List Oper->Lc->Option (List Oper × Lc)
  | 0,os,l=>some (os,l)
  | k+1,o::os,l=>match axo P n M l o with
    | some l'=>axp P n M k os l'
    | none=>none
  | _,_,_=>none
def aq6(P:Program)(fl:List Nat)(n:Cx)(fs:List FrD)(M:Array Oper)(os:List Oper)(y:Option Code)(l:Lc):Oper->Option SdD
  | ⟨some d,op,_,_,_,g⟩=>match Nat.blt d n.size,QW M l g,aAw P fl l op with
    | true,some true,some (_,fn,c,vs)=>bif Nat.ble vs.length fn.ntmps then agb _ 0 vs λr=>some ⟨.bare fn.ntmps,.call n fn M os y d l::fs,.c c,r⟩ else none
    | _,_,_=>none
  | _=>none
def aq7(P:Program)(fl:List Nat)(n:Cx)(fs:List FrD)(M:Array Oper)(os:List Oper)(y:Option Code)(l:Lc):Option SdD:=
  match os with
  | []=>match y with
    | some y=>some ⟨n,fs,.c y,l⟩
    | none=>some ⟨n,fs,.e .normal,l⟩
  | o::os=>match axo P n M l o with
    | some l'=>some ⟨n,fs,.o M os y,l'⟩
    | none=>aq6 P fl n fs M os y l o
def aq8(n:Cx)(fs:List FrD)(l:Lc):Code->Option SdD
  | .seq (.region _ ⟨ol⟩ false) y=>bif n.plain then none else some ⟨n,fs,.o ⟨ol⟩ ol (some y),l⟩
  | .seq (.region _ _ true) _=>none
  | .seq x y=>some ⟨n,.thn y::fs,.c x,l⟩
  | .region _ ⟨ol⟩ false=>bif n.plain then none else some ⟨n,fs,.o ⟨ol⟩ ol none,l⟩
  | .cond c x y=>match fM l c with
    | some (.bool true)=>some ⟨n,fs,.c x,l⟩
    | some (.bool false)=>some ⟨n,fs,.c y,l⟩
    | _=>none
  | .skip=>some ⟨n,fs,.e .normal,l⟩
  | .ret=>some ⟨n,fs,.e .ret,l⟩
  | .exit i=>some ⟨n,fs,.e (.exit i),l⟩
  | .block i c=>some ⟨n,.blk i::fs,.c c,l⟩
  | .loop c=>some ⟨n,.rnd c 99::fs,.c c,l⟩
  | _=>none
def aB9(n':Cx)(fs:List FrD)(M:Array Oper)(os:List Oper)(y:Option Code)(d:Nat)(l':Lc):List Value->Option SdD
  | [v]=>some ⟨n',fs,.o M os y,(d,v)::l'⟩
  | vs=>some ⟨n',fs,.o M os y,(d,.tuple ⟨vs⟩)::l'⟩
def aq9(n:Cx)(l:Lc):List FrD->Exit->Option SdD
  | .thn y::fs,.normal=>some ⟨n,fs,.c y,l⟩
  | .rnd c (m+1)::fs,.normal=>some ⟨n,.rnd c m::fs,.c c,l⟩
  | .blk _::fs,.normal=>some ⟨n,fs,.e .normal,l⟩
  | .call n' fn M os y d l'::fs,.normal=>some ⟨n,.call n' fn M os y d l'::fs,.e .ret,l⟩
  | .thn _::fs,.exit i=>some ⟨n,fs,.e (.exit i),l⟩
  | .rnd _ _::fs,.exit i=>some ⟨n,fs,.e (.exit i),l⟩
  | .blk j::fs,.exit i=>bif Nat.beq i j then some ⟨n,fs,.e .normal,l⟩ else some ⟨n,fs,.e (.exit i),l⟩
  | .thn _::fs,.ret=>some ⟨n,fs,.e .ret,l⟩
  | .rnd _ _::fs,.ret=>some ⟨n,fs,.e .ret,l⟩
  | .blk _::fs,.ret=>some ⟨n,fs,.e .ret,l⟩
  | .call n' fn M os y d l'::fs,.ret=>match n.marks,fn.results with
    | [],⟨rs⟩=>match WB l rs with
      | some vs=>aB9 n' fs M os y d l' vs
      | none=>none
    | _,_=>none
  | _,_=>none
def JB(P:Program)(fl:List Nat):Nat->SdD->SdD
  | 0,s=>s
  | k+1,⟨n,fs,cu,l⟩=>match cu with
    | .c x=>match aq8 n fs l x with
      | some s=>JB P fl k s
      | none=>⟨n,fs,.c x,l⟩
    | .o M os y=>match aq7 P fl n fs M os y l with
      | some s=>JB P fl k s
      | none=>⟨n,fs,.o M os y,l⟩
    | .e x=>match aq9 n l fs x with
      | some s=>JB P fl k s
      | none=>⟨n,fs,.e x,l⟩
section
variable {P:Program}{n:Cx}{Q:Qt}{fs:List FrD}{cu:CuD}{l l':Lc}{w:World}{v:Value}{s:SdD}{fl:List Nat}
theorem bU.of{s f:Nat}{fs:Array Field}{fd:Field}(hu:P.underlying s=some (.struct fs))(hf:fs[f]? = some fd){i:TypeInfo}(hi:P.info? fd.type=some i)(hz:Nat.blt 0 i.size=true):bU P s f fd.offset:=λa w=>by
 have h0:i.size≠0:=by have:=nU hz; omega
 simp [Instr.fieldAt,Instr.sureAddr,fieldPlace,jh,jV hu,hf,sizeOf,typeInfo,hi,h0]
theorem ara{f:Nat}{fn:Func}{c:Code}(hf:P.funcs[f]? = some fn)(hb:fn.body=some c)(hn:(fn.name == "runtime.NumGoroutine")=false):bC P f:=λargs w=>by
 have h2:fn.name≠"runtime.NumGoroutine":=by simpa using hn
 simp [callFunc,hf,hb,h2]
theorem aCa{k k':IntKind}{a b r:Int}{op:BinOp}{x y:Operand}{t ty:TypeId}(hx:fM l x=some (.int k a))(hy:fM l y=some (.int k' b))(h:psh k a b op=some r):Ev P n l w (.binOp op t x y ty) (.int k r):=by
 cases op <;> simp only [psh,reduceCtorEq] at h
 all_goals
  by_cases hb:b<0
  ·simp [hb] at h
  ·simp [hb] at h
   exact pY hx hy (zP ..) λw=>by simp [binOp,Op.shift,hb,h]
theorem aCb{k:IntKind}{a b r:Int}{op:BinOp}{x y:Operand}{t ty:TypeId}(hx:fM l x=some (.int k a))(hy:fM l y=some (.int k b))(h:par k op a b=some r):Ev P n l w (.binOp op t x y ty) (.int k r):=by
  cases op <;> simp only [par,reduceCtorEq,Yp] at h
  all_goals
    first
    | (subst h; exact pY hx hy (zP ..) λw=>by simp [binOp,Op.intArith,Op.intBits])
    | (by_cases hb:b=0
       · simp [hb] at h
       · simp [hb] at h
         exact pY hx hy (zP ..) λw=>by simp [binOp,Op.intDiv,hb,h])
theorem axq{k:IntKind}{a b:Int}{r:Bool}{op:BinOp}{x y:Operand}{t ty:TypeId}(hx:fM l x=some (.int k a))(hy:fM l y=some (.int k b))(h:aB7 op a b=some r):Ev P n l w (.binOp op t x y ty) (.bool r):=by
 cases op <;> simp only [aB7,reduceCtorEq,Yp] at h <;> subst h
 all_goals first | exact iH hx hy | exact Ev.leq hx hy | exact Ev.gtr hx hy | exact Ev.geq hx hy | exact wQ hx hy | exact Gq hx hy
theorem aCc{op:Op}(h:pev P l op=some v):Ev P n l w op v:=by
 unfold pev at h
 split at h
 ·exact dP h
 ·exact tF h
 ·split at h
  ·exact oP ‹_› h
  ·exact oU ‹_› h
  ·cases h
 ·split at h
  ·exact yE ‹_› h
  ·cases h
 ·split at h
  ·cases h; exact nH ‹_›
  ·cases h
 ·split at h
  ·cases h; exact wC ‹_›
  ·cases h
 ·split at h
  ·rename_i hx hy
   split at h
   ·rename_i hs
    cases h; exact aCa hx hy hs
   ·split at h
    ·rename_i hk _
     subst hk
     split at h
     ·rename_i hs
      cases h; exact aCb hx hy hs
     ·split at h
      ·rename_i hs
       cases h; exact axq hx hy hs
      ·cases h
    ·cases h
  ·split at h
   ·cases h; exact Ev.alF ‹_› ‹_› ‹_›
   ·cases h
  ·split at h
   ·cases h; exact Ev.an9 ‹_› ‹_› ‹_›
   ·cases h; exact Ev.pnn ‹_› ‹_› ‹_›
   ·cases h
  ·cases h
 ·split at h
  ·rename_i hx hs hd
   cases h; exact Pz (by rw [hs]; rfl) (by simp [Program.intKind,hd]) (by simp [Program.intKind,hd]) hx
  ·cases h
 ·split at h
  ·split at h
   ·split at h
    ·rename_i i hi
     cases hz:Nat.blt 0 i.size with
     | false=>rw [hz] at h; cases h
     | true=>rw [hz] at h; cases h; exact fq (bU.of ‹_› ‹_› hi hz) ‹_› (Px ..)
    ·cases h
   ·cases h
  ·cases h
 ·rename_i t0 x0 y0
  split at h
  ·rename_i s k i hx hy hu
   split at h
   ·rename_i u hs
    cases h
    exact λo a w' ho ha _=>by
     have hl:i<s.size:=by
      have:=(vX.1 hs).1; exact this
     have h1:(Instr.index t0 (.string s) (.int k (i:Int))).run P w'=.ok (.int .u8 (u.toNat:Int)) w':=by
      unfold Instr.index
      simp only [asIntOf,jh,kZ,jV hu,jv]
      rw [aS (by constructor <;> (simp; try omega))]
      have h2:s[(i:Int).toNat]? = some u:=by
       rw [PU,getElem?_pos s i hl];have:=(vX.1 hs).2;exact aY some this
      rw [h2]
      rfl
     unfold execOp; rw [ho]; simp [ha.eval hx,ha.eval hy,h1]
   ·cases h
  ·cases h
 ·split at h
  ·cases h; exact jf ‹_› ‹_›
  ·cases h
 ·split at h
  ·cases h; exact Ev.min2 ‹_› ‹_›
  ·cases h
 ·split at h
  ·cases h; exact Ev.max2 ‹_› ‹_›
  ·cases h
 ·cases h
theorem Yx(α:Type):∀(vs:V Value)(i:Nat)(k:Lc->α),agb α i vs k=k (enum i vs)
 | [],_,_=>rfl
 | v::vs,i,k=>by unfold agb; rw [Yx α vs]; rfl
theorem axr{n':Cx}{M:Array Oper}{os:V Oper}{y:Option Code}{d:Nat}{vs:V Value}(h:aB9 n' fs M os y d l' vs=some s):s=⟨n',fs,.o M os y,(d,rW vs)::l'⟩:=by
 unfold aB9 at h
 split at h
 ·cases h; rfl
 ·rename_i h1
  cases h
  match vs,h1 with
  | [],_=>rfl
  | [v],h1=>exact absurd rfl (h1 v)
  | _::_::_,_=>rfl
theorem N7{M:Array Oper}{g:Option (Nat × Bool)}{d:Option Nat}{op:Op}{ty:TypeId}{pos:String}{lN:Array Edge}(h:QW M l g=some true)(a:Act)(ha:Has n l a):Region.wanted ⟨d,op,ty,pos,lN,g⟩ (yielded M a.tmps)=true:=by
 match g,h with
 | none,_=>exact eY a
 | some (j,bQ),h=>
  simp only [QW] at h
  split at h
  ·rename_i hj
   simp at h; subst h
   exact rX hj a ha
  ·cases h
  ·cases h
theorem alN{K:Act->World->Prop}{M:Array Oper}{os:V Oper}{o:Oper}(h:axo P n M l o=some l')(k:WL P n M Q K os l' w):WL P n M Q K (o::os) l w:=by
 unfold axo at h
 split at h
 ·rename_i d op ty pos lN g
  cases hd:Nat.blt d n.size with
  | false=>rw [hd] at h; cases h
  | true=>
   rw [hd] at h
   simp only [cond_true] at h
   split at h
   ·rename_i hg
    split at h
    ·rename_i v hv
     cases h
     exact yD (N7 hg) Y hd (λa ha=>⟨w,aCc hv _ a w Y ha (oW w),Y⟩) (λ_ e=>e▸k)
    ·cases h
   ·rename_i hg
    cases h
    match g,hg with
    | some (j,bQ),hg=>
     simp only [QW] at hg
     split at hg
     ·rename_i b hj
      exact WL.pass hj (by cases b <;> cases bQ <;> simp_all [unlike]) hd k
     ·rename_i v hv hj
      exact WL.pass hj (by cases v <;> simp_all [unlike]) hd k
     ·cases hg
   ·cases h
 ·cases h
theorem alO{K:Act->World->Prop}{M:Array Oper}{os':V Oper}:∀(m:Nat)(os:V Oper)(l:Lc),axp P n M m os l=some (os',l')->WL P n M Q K os' l' w->WL P n M Q K os l w
 | 0,_,_,h,k=>by cases h; exact k
 | m+1,[],_,h,_=>by cases h
 | m+1,o::os,l,h,k=>by
  unfold axp at h
  split at h
  ·exact alN ‹_› (alO m _ _ h k)
  ·cases h
theorem arb{M:Array Oper}{os:V Oper}{y:Option Code}{o:Oper}(hfl:∀ f,fl.contains f=true->bC P f)(h:aq6 P fl n fs M os y l o=some s)(k:Gs P Q s w):Gs P Q ⟨n,fs,.o M (o::os) y,l⟩ w:=by
 unfold aq6 at h
 split at h
 ·split at h
  ·rename_i fn c vs hd hg hc
   cases hb:Nat.ble vs.length fn.ntmps with
   | false=>rw [hb] at h; cases h
   | true=>
    rw [hb] at h
    simp only [cond_true,Yx,Yp] at h
    subst h;unfold aAw at hc
    split at hc
    ·split at hc
     ·rename_i as0 caps vs0 hf hargs
      rename_i f0
      cases hcl:fl.contains f0 with
      | false=>rw [hcl] at hc; cases hc
      | true=>
       rw [hcl] at hc
       simp only [cond_true] at hc
       split at hc
       ·rename_i hfn
        split at hc
        ·rename_i hbd
         cases hc
         exact λa ha=>QO (N7 hg a ha) (abF Y ha hf hargs Y (hfl _ hcl) w) (Yg hfn hbd Y hb k) λv w' hv=>hv _ (ha.put hd v)
        ·cases hc
       ·cases hc
     ·cases hc
    ·cases hc
  ·cases h
 ·cases h
theorem ard{M:Array Oper}{os:V Oper}{y:Option Code}(hfl:∀ f,fl.contains f=true->bC P f)(h:aq7 P fl n fs M os y l=some s)(k:Gs P Q s w):Gs P Q ⟨n,fs,.o M os y,l⟩ w:=by
 unfold aq7 at h
 split at h
 ·split at h
  ·cases h; exact Dk k
  ·cases h; exact WL.afW k
 ·split at h
  ·cases h; exact alN ‹_› k
  ·exact arb hfl h k
theorem arf{x:Code}(h:aq8 n fs l x=some s)(k:Gs P Q s w):Gs P Q ⟨n,fs,.c x,l⟩ w:=by
 unfold aq8 at h
 split at h
 ·cases hp:n.plain with
  | true=>rw [hp] at h; cases h
  | false=>rw [hp] at h; cases h; exact Dj k hp
 ·cases h
 ·cases h; exact aZ k
 ·cases hp:n.plain with
  | true=>rw [hp] at h; cases h
  | false=>rw [hp] at h; cases h; exact WP.Yh k hp
 ·split at h
  ·cases h; exact bS (b:=true) ‹_› (λ_=>k) (λh=>by cases h)
  ·cases h; exact bS (b:=false) ‹_› (λh=>by cases h) (λ_=>k)
  ·cases h
 ·cases h; exact yC k
 ·cases h; exact jE k
 ·cases h; exact tu k
 ·cases h; exact dF k
 ·cases h; exact Rn 100 (RN.s k)
 ·cases h
theorem arh{x:Exit}(h:aq9 n l fs x=some s)(k:Gs P Q s w):Gs P Q ⟨n,fs,.e x,l⟩ w:=by
 unfold aq9 at h
 split at h
 ·cases h; exact fV k
 ·cases h; exact l7.rnd (RN.s k)
 ·cases h; exact iF k
 ·cases h; exact o7 k
 ·cases h; exact mG k
 ·cases h; exact mG k
 ·rename_i j fs i
  cases hi:Nat.beq i j with
  | true=>rw [hi] at h; cases h; obtain rfl:=QL hi; exact tZ k
  | false=>rw [hi] at h; cases h; exact LY hi k
 ·cases h; exact gG k
 ·cases h; exact gG k
 ·cases h; exact jM k
 ·split at h
  ·rename_i rs hm hr
   split at h
   ·rename_i vs hv
    obtain rfl:=axr h;exact QN hr hv Y k hm
   ·cases h
  ·cases h
 ·cases h
theorem su(hfl:∀ f,fl.contains f=true->bC P f):∀(m:Nat)(U:SdD),Gs P Q (JB P fl m U) w->Gs P Q U w
 | 0,_,k=>k
 | m+1,⟨n,fs,cu,l⟩,k=>by
  unfold JB at k
  split at k
  ·split at k
   ·exact arf ‹_› (su hfl m _ k)
   ·exact k
  ·split at k
   ·exact ard hfl ‹_› (su hfl m _ k)
   ·exact k
  ·split at k
   ·exact arh ‹_› (su hfl m _ k)
   ·exact k
end
section
variable {P:Program}{fl:List Nat}{n n':Cx}{Q Q':Qt}{fs fs':List FrD}{W9:CuD}{l l':Lc}{w:World}{K:Act->World->Prop}{M:Array Oper}{os:List Oper}{y:Option Code}
theorem pq(k:Nat){os':V Oper}(h:axp P n M k os l=some (os',l'))(kk:WL P n M Q K os' l' w):WL P n M Q K os l w:=alO k os l h kk
theorem noF:∀ f,([]:V Nat).contains f=true->bC P f:=λ_ h=>by simp at h
theorem pA(k:Nat){y y':Code}(h:JB P [] k ⟨n,[],.o M os (some y),l⟩=⟨n,[],.c y',l'⟩)(kk:WP P n y' l' w Q):WL P n M (Exit.then (G7 P n y Q) Q) (G7 P n y Q) os l w:=su noF k ⟨n,[],.o M os (some y),l⟩ (h▸kk)
theorem pB(k:Nat){ops':Array Oper}{os':V Oper}{y y':Code}(h:JB P [] k ⟨n,[],.o M os (some y),l⟩=⟨n,[],.o ops' os' (some y'),l'⟩)(kk:WL P n ops' (Exit.then (G7 P n y' Q) Q) (G7 P n y' Q) os' l' w):WL P n M (Exit.then (G7 P n y Q) Q) (G7 P n y Q) os l w:=su noF k ⟨n,[],.o M os (some y),l⟩ (h▸kk)
theorem pC(k:Nat){ops':Array Oper}{os':V Oper}{y y':Code}(h:JB P [] k ⟨n,[],.c y,l⟩=⟨n,[],.o ops' os' (some y'),l'⟩)(kk:WL P n ops' (Exit.then (G7 P n y' Q) Q) (G7 P n y' Q) os' l' w):WP P n y l w Q:=su noF k ⟨n,[],.c y,l⟩ (h▸kk)
end
abbrev szk{P:Program}{t:TypeId}{k:Nat}(_:Size P t k):=k
abbrev rlk{α:Type}{τ:Ty α}{e:TypeId}{b w:World}{S:Nat->Prop}{A:ah}{c:Nat}{xs:List α}{F:List kF}(_:Hp b S w (aR τ e A c xs::F)):=aR τ e
theorem mIF{p:Prop}(h:p:=by
  have aoa:=sP.bI;refine kX Y<|aZ<|gD Y<|ev (jf qU Y)<|mv Y<|dn<|dF<|Lp H0 (λl0 rk mJ lJ wJ=>∃ k,lJ=(8,O ((k:Nat):Int))::l0/\mJ=s.length - k/\k<=s.length/\(∀ y∈s.take k,f y=false)/\Hp w S0 wJ rk) ⟨0,Y,Y,fI _,av,H0⟩ rfl ?_
  rintro _ _ w1 ⟨k,rfl,rfl,hk,hno,K1⟩;refine rg<|ev (iH Y Y)<|dn<|r9 Y (λN8=>?_) (λN8=>?_)
  ·refine jQ ?_;refine aZ<|dF<|pC 8 Y ?_
   obtain⟨x1,bT⟩:=bH (xs:=s) (i:=k) aj;refine ev (d9 (i:=k) qU qZ Y Y Y (aP bT) ((K1.a sP).some_ bT)) ?_
   first
   | refine ev (iR qG rfl rfl ((K1.a sP).fF bT)) ?_
   | refine ev (kG qG rfl ((K1.a sP).eZ (j:=0) bT rfl)) ?_
   | obtain⟨B1,d1,yG,hi1⟩:=aH.op (sP.row bT)
     refine ev (iR qG Y Y (Gu (λj u hu=>K1.ext.cell (yG j u hu)))) ?_
   first
   | refine KY rfl rfl rfl VR (VT _ x1 K1.ext (dz bT)) rfl ?_
   | refine KY rfl rfl rfl VR (VT _ x1 (K1.a hi1).any K1.ext (dz bT)) rfl ?_
   rintro _ w2 ⟨rfl,e2⟩;have K2:=K1.grow e2;refine dn<|bS Y (λhc16=>?_) (λhc16=>?_)
   ·refine gD Y<|fE Y<|jE (jM (gG (gG (jM (gG (uo Y ?_))))))
    exact⟨by rw [<- L8 hno bT hc16] <;> rfl,K2⟩
   refine Gw ?_;refine jN<|ev (eG Y Y)<|mv Y<|jO<|dX ⟨(k+1),Y,Y,aj,by exact ug hno bT hc16,K2⟩ rfl aj
  refine BU ?_;refine kX Y<|iU Y ?_
  exact⟨by rw [PW (Mc hno aj)] <;> rfl,K1⟩):p:=h
theorem mBS{p:Prop}(h:p:=by
  have aoa:=sP.bI;refine rg<|oJ Y<|fE Y<|gD Y<|ev (jf qU Y)<|fE Y<|gD Y<|oJ Y<|fE Y<|aZ<|dF<|Lp H0 (λl0 rk mJ lJ wJ=>∃ i j,lJ=(9,O ((i:Nat):Int))::(10,O ((j:Nat):Int))::l0/\mJ=j - i/\(i<=j/\j<=s.length)/\(∀(a:Nat)y,a<i->s[a]? = some y->f y target<0)/\(∀(a:Nat)y,j<=a->s[a]? = some y->¬ f y target<0)/\Hp w S0 wJ rk) ⟨0,s.length,Y,Y,by exact⟨fI _,j4 _⟩,by intro a y ha; omega,by intro a y ha hy; have:=aP hy; omega,H0⟩ rfl ?_
  rintro _ _ w1 ⟨i,j,rfl,rfl,hij,hlo,hhi,K1⟩;refine aZ<|gD Y<|mv Y<|ev (iH Y Y)<|dn<|o8 Y (λhc17=>?_) (λhc17=>?_)
  ·refine jQ ?_;refine dF<|pC 3 Y<|ev (eG Y Y)<|ev (PX Em.1 Em.2.1 Em.2.2 Y (Jz aj))<|ev (Ev.aBX Y Y)<|ev (PX Au.1 Au.2.1 Au.2.2 Y (Ei aj))<|pB 6 Y ?_
   obtain⟨x1,bT⟩:=bH (xs:=s) (i:=((i+j) / 2)) aj;refine ev (d9 (i:=((i+j) / 2)) qU qZ Y Y Y (aP bT) ((K1.a sP).some_ bT)) ?_
   first
   | refine ev (iR qG rfl rfl ((K1.a sP).fF bT))<|mv rfl<|KY rfl rfl rfl VR (VT _ x1 target K1.ext trivial) rfl ?_
   | obtain⟨B1,d1,yG,hi1⟩:=aH.op (sP.row bT)
     refine ev (iR (cs:=[O x1.ID,O x1.E,gP x1.Sum,.slice B1 x1.aD.length d1]) qG Y Y (Gu (λj u hu=>K1.ext.cell (yG j u hu))))<|mv Y<|KY Y Y Y VR (VT _ x1 (K1.a hi1).any target K1.ext trivial) Y ?_
   rintro _ w2 ⟨rfl,e2⟩;have K2:=K1.grow e2;refine pA 2 Y<|o8 Y (λhc31=>?_) (λhc31=>?_)
   ·refine jN<|mv Y<|ev (eG Y Y)<|oJ Y<|jO<|iF<|dX ⟨(((i+j) / 2)+1),j,Y,Y,aj,by first | exact hlo | exact λa y ha hy=>hm a _ y x1 aj hy bT hc31,by first | exact hhi | exact λa y ha hy hlt=>hc31 (hm _ a x1 y aj bT hy hlt),K2⟩ rfl aj
   refine jN<|pq 2 Y<|jO<|iF<|dX ⟨i,((i+j) / 2),Y,Y,aj,by first | exact hlo | exact λa y ha hy=>hm a _ y x1 aj hy bT hc31,by first | exact hhi | exact λa y ha hy hlt=>hc31 (hm _ a x1 y aj bT hy hlt),K2⟩ rfl aj
  refine BU ?_;refine pC 6 Y<|qg 9 48 (hits (λy=>f y target) s) ?_ ?_
  ·cases ari:decide (((i:Nat):Int)<((s.length:Nat):Int)) with
   | true=>
    have aGp:=iY ari;refine pq 3 Y ?_;obtain⟨x2,nE⟩:=bH (xs:=s) (i:=i) aj;refine uf Y (d9 (i:=i) qU qZ Y Y Y (aP nE) ((K1.a sP).some_ nE)) Y ?_
    first
    | refine uf rfl (iR qG rfl rfl ((K1.a sP).fF nE)) rfl<|pq 1 rfl<|om rfl rfl rfl rfl VR (VT _ x2 target K1.ext trivial) rfl ?_
    | obtain⟨B2,d2,aCe,hi2⟩:=aH.op (sP.row nE)
      refine uf Y (iR (cs:=[O x2.ID,O x2.E,gP x2.Sum,.slice B2 x2.aD.length d2]) qG Y Y (Gu (λj u hu=>K1.ext.cell (aCe j u hu)))) Y<|pq 1 Y<|om Y Y Y Y VR (VT _ x2 (K1.a hi2).any target K1.ext trivial) Y ?_
    rintro _ w3 ⟨rfl,e3⟩;refine pq 2 Y<|gZ (t:=48) (u:=.bool (decide (f x2 target=0))) (v:=.bool (hits (λy=>f y target) s)) Y (aY Value.bool (by have hl:=G9 (g:=λy=>f y target) (s:=s) (i:=i) aj hlo (λa y ha=>hhi a y aj); unfold hits; rw [hl,nE]))<|jI rfl e3
   | false=>
    refine pq 9 Y<|gZ (t:=48) (u:=.bool false) (v:=.bool (hits (λy=>f y target) s)) Y (aY Value.bool (by have hl:=G9 (g:=λy=>f y target) (s:=s) (i:=i) aj hlo (λa y ha=>hhi a y aj); unfold hits; rw [hl,Yn (by have:=jX ari; omega)])) ?_
    exact jI Y (oW _)
  intro w4 e4;have K4:=K1.grow e4;refine pA 3 Y<|iU Y ?_
  have gy:(i:Nat)=(low (λy=>f y target) s):=by exact(G9 (g:=λy=>f y target) aj hlo (λa y ha=>hhi a y aj)).symm
  have gH:(hits (λy=>f y target) s:Bool)=(hits (λy=>f y target) s):=by rfl
  exact⟨by rw [gH,<- gy] <;> rfl,K4⟩):p:=h
theorem mDF{p:Prop}(h:p:=by
  have aAx:=(H0.o U).bI;have hcap0:=(H0.o U).cap;have hlt:=L9 (p:=p) xs;have hge:=QT (p:=p) xs;refine pC 6 Y<|gu Y (qX (S0:=Any) (Hr:=kd) w ((H0.o U)) qd p (λw' x ex _=>hd w' xs x Y (H0.grow ex))) ?_
  rintro _ w1 ⟨rfl,e1⟩;have K1:=H0.grow e1.ext;refine fE Y<|aZ<|gD Y<|ev (wQ Y Y)<|dn<|o8 Y (λoD=>?_) (λoD=>?_)
  ·refine gD Y<|fE Y<|Aw Y ?_
   have hall:=agc (p:=p) (xs:=xs) aj;exact⟨by rw [hall]; rfl,by rw [hall]; exact K1⟩
  refine jQ ?_;refine aZ ?_;obtain⟨k0,hk0,hkl⟩:∃ k0:Nat,idxOf p xs=(k0:Int)/\k0<xs.length:=⟨(idxOf p xs).toNat,aj,aj⟩;have aCf:=agd hk0;refine mP (t:=5) Y (aY (Value.int .i64) hk0)<|gD Y<|ev (eG Y Y)<|fE Y<|dF<|Lp (K1.rm U) (λl0 rk mJ lJ wJ=>∃(i j:Nat)(ys:V _),lJ=(0,.slice A ys.length c)::(5,O ((i:Nat):Int))::(6,O ((j:Nat):Int))::l0/\mJ=xs.length - j/\(ys.length=xs.length)/\(i<j/\j<=xs.length)/\(ys.take i=(xs.take j).filter λx=>!p x)/\(ys.drop j=xs.drop j)/\Hp b S wJ (aR _ _ A c ys::rk)) ⟨k0,(k0+1),xs,Y,Y,by rfl,aj,by exact aCf.1,by rfl,K1⟩ rfl ?_
  rintro _ _ w2 ⟨i,j,ys,rfl,rfl,hys,hij,htk,hdr,K2⟩;refine aZ<|gD Y<|mv Y<|ev (jf qU Y)<|ev (iH Y Y)<|dn<|o8 Y (λhc19=>?_) (λhc19=>?_)
  ·refine jQ ?_;refine aZ<|dF<|pC 3 Y ?_
   obtain⟨x1,bT⟩:=bH (xs:=ys) (i:=j) aj;refine ev (d9 (i:=j) qU qZ Y Y Y (aP bT) ((K2.o U).some_ bT))<|ev (iR qG Y Y ((K2.o U).fF bT))<|al qO Y K2 λg1 w3 K3=>sty Y K3 U Y λw4 K4=>dn<|gD Y<|ev (fA qG Y Y (K4.x U))<|KY Y Y Y qd (hd _ _ x1 (by first | exact hys | omega) (K4.rm U)) rfl ?_
   rintro _ w5 ⟨rfl,e5⟩;have K5:=K4.grow e5;refine pA 2 Y<|bS Y (λhc29=>?_) (λhc29=>?_)
   ·try simp only [aA] at hc29
    refine pC 3 Y<|ev (fA qG Y Y (K5.x U)) ?_
    obtain⟨x2,nE⟩:=bH (xs:=ys) (i:=i) aj;refine ev (d9 (i:=i) qU qZ Y Y Y (aP nE) ((K5.o s1).some_ nE))<|se (i:=i) (f:=0) (x:=x2) (x':=x1) K5 s1 Y Y Y nE Y qZ (nU Y) Y (by rintro _ _ _ ⟨⟩; rfl) λw6 K6=>?_
    have hl1:(ys.set i x1).length=ys.length:=iC ..;refine gZ (t:=0) (u:=.slice A ys.length c) (v:=.slice A ((ys.set i x1).length) c) Y (by rw [hl1])<|gZ (t:=17) (u:=.slice A ys.length c) (v:=.slice A ((ys.set i x1).length) c) rfl (by rw [hl1])<|gZ (t:=22) (u:=.slice A ys.length c) (v:=.slice A ((ys.set i x1).length) c) rfl (by rw [hl1])<|gZ (t:=30) (u:=.slice A ys.length c) (v:=.slice A ((ys.set i x1).length) c) rfl (by rw [hl1]) ?_
    have hx3:(ys.set i x1)[i]? = some x1:=u7 (aP nE);refine dn<|jN<|mv Y<|ev (eG Y Y)<|oJ Y<|jO<|iF (fV ?_)
    refine jN<|mv Y<|ev (eG Y Y)<|oJ Y<|jO<|dX ⟨(i+1),(j+1),(ys.set i x1),Y,Y,by first | exact hys | (rw [iC]; exact hys),aj,by first | exact(Gx hij.1 htk hdr bT (by simp [hc29])).1 | exact(Gy htk hdr bT (by simp [hc29])).1,by first | exact(Gx hij.1 htk hdr bT (by simp [hc29])).2 | exact(Gy htk hdr bT (by simp [hc29])).2,(K6.rm s1)⟩ rfl aj
   try simp only [aA] at hc29
   refine Gw ?_;refine jN<|mv Y<|ev (eG Y Y)<|oJ Y<|jO<|dX ⟨i,(j+1),ys,Y,Y,by first | exact hys | (rw [iC]; exact hys),aj,by first | exact(Gx hij.1 htk hdr bT (by simp [hc29])).1 | exact(Gy htk hdr bT (by simp [hc29])).1,by first | exact(Gx hij.1 htk hdr bT (by simp [hc29])).2 | exact(Gy htk hdr bT (by simp [hc29])).2,(K5.rm U)⟩ rfl aj
  refine BU ?_;have hcap:ys.length<=c:=aj;have hil:(ys.take i).length=i:=by simp only [iX]; omega
  have hfin:ys.take i=xs.filter λx=>!p x:=by rw [htk,gY aj]
  refine mP (t:=5) (u:=O ((i:Nat):Int)) (v:=O (((ys.take i).length:Nat):Int)) Y (by rw [hil]) ?_;have H1:=K2.ajG (hi:=i) U aj;refine pC 3 Y<|ev (Jy (lo:=(ys.take i).length) qU qZ Y Y Y (by first | omega | (simp only [iX]; omega)) hcap)<|aB3 (m:=ys.length - (ys.take i).length) H1 U rfl qU qE (by simp only [iX]; omega) λw7 K7=>pB 4 rfl<|ev (Ev.ac4 (hi:=(ys.take i).length) qU qZ rfl rfl rfl (by simp only [iX]; omega))<|fE rfl<|iU rfl ?_
  exact⟨by rw [<- hfin]; rfl,by rw [<- hfin]; exact K7⟩):p:=h
theorem mDE{p:Prop}(h:p:=by
  have aAx:=(H0.o U).bI;have hcap:=(H0.o U).cap;refine pC 9 Y<|ev (Ev.aMS qU qZ Y Y Y Y Y Y Y aj hj (H0.o U).cap)<|dn<|aZ<|gD Y<|mv Y<|ev (wQ Y Y)<|dn<|o8 Y (λhc16=>?_) (λhc16=>?_)
  ·omega
  refine jQ ?_;refine gD Y<|ev (jf qU Y)<|fE Y<|He H0 (λ_ K=>(K.rm U)) (λl0 rk lJ wJ=>lJ=(0,.slice A ((xs.take i++xs.drop j).length) c)::l0/\Hp b S wJ (rlk H0 A c (xs.take i++xs.drop j)::rk)) (λhns H1=>?_) ?_
  ·have k1:=(H1.rm U);refine lF 0 Y Y k1<|lF 1 Y Y k1<|lF 3 Y Y k1<|lF 4 Y Y k1<|Jn H1 (λl0 rk lJ wJ=>lJ=(22,.slice A ((xs.take i).length) c)::(25,.slice (vK A c j (szk qZ)) ((xs.drop j).length) (c - j))::l0/\Hp b S wJ rk) 2 63 ?_ λhS1=>?_
   ·rintro _ w2 ⟨rfl,K2⟩;refine O1 6 Y<|aB2 K2 U Y Y qU qI hij hj λw3 K3=>?_
    have k3:=(K3.rm U);refine aO k3<|xC 7 Y Y k3<|Dn ⟨Y,K3⟩ Y
   refine O2 2 5 Y Y ?_ ?_
   ·refine ev (Ev.VN qU qZ Y Y Y aj (H1.o U).cap)<|aO k1<|O1 5 Y<|ev (Yj qU qZ Y Y Y aj (H1.o U).cap)<|Kj hS1 k1 ⟨Y,H1⟩ Y
   ·refine ev (Yj qU qZ Y Y Y aj (H1.o U).cap)<|aO k1<|O1 2 Y<|ev (Ev.VN qU qZ Y Y Y aj (H1.o U).cap)<|Kj hS1 k1 ⟨Y,H1⟩ Y
  rintro _ w4 ⟨rfl,K4⟩;refine pC 5 Y ?_;have hln:(xs.take i++xs.drop j).length+(j - i)=xs.length:=by simp only [jH,iX,uj]; omega
  refine ev (Ev.aMT qU qZ Y Y Y Y Y aj hcap)<|aB3 K4 U Y qU qE aj λw5 K5=>pA 5 Y<|iU Y ?_
  exact⟨Y,K5⟩):p:=h
theorem mCC{p:Prop}(h:p:=by
  have aM3:=abG.bI;refine kX Y<|kX Y<|aZ<|gD Y<|ev (jf qU Y)<|mv Y<|dn<|dF ?_
  have gy:(0:Int)=((Md xss 0:Nat):Int):=by rfl
  refine mP (t:=3) Y (aY (Value.int .i64) gy)<|Lp H0 (λl0 rk mJ lJ wJ=>∃ k,lJ=(3,O ((Md xss k:Nat):Int))::(11,O ((k:Nat):Int))::l0/\mJ=xss.length - k/\k<=xss.length/\Hp w S0 wJ rk) ⟨0,Y,Y,fI _,H0⟩ Y ?_
  rintro _ _ w1 ⟨k,rfl,rfl,hk,K1⟩;refine rg<|ev (iH Y Y)<|dn<|r9 Y (λoD=>?_) (λoD=>?_)
  ·refine jQ ?_;refine aZ<|dF<|rg ?_
   obtain⟨x1,bT⟩:=bH (xs:=xss) (i:=k) aj;refine ev (d9 (i:=k) qU qZ Y Y Y (aP bT) ((K1.a abG).some_ bT)) ?_;obtain⟨B1,d1,yG,hi1⟩:=alL (abG.row bT);refine ev (kG qG Y (K1.ext.cell yG))<|pB 6 Y<|ev (L6 Y Y (xR (by have:=Ju bT; have:=Me xss (k+1); omega) (by have:=Ju bT; have:=Me xss (k+1); omega)))<|pA 6 rfl<|o8 rfl (λl8=>?_) (λl8=>?_)
   ·omega
   refine Gw ?_;refine jN<|ev (eG Y Y)<|mv Y<|jO ?_
   have gH:(((Md xss k+x1.length:Nat):Int):Int)=((Md xss (k+1):Nat):Int):=by have:=Ju bT; omega
   refine ji (t:=3) Y (aY (Value.int .i64) gH)<|dX ⟨(k+1),Y,Y,aj,K1⟩ rfl aj
  refine BU ?_;refine gD Y<|gu Y (qW (S0:=Any) _ (Md xss k) (by have:=Me xss k; omega)) ?_
  rintro _ w2 ⟨qj,ql,rfl,h2⟩;have K2:=K1.f1 h2;refine fE Y<|aZ<|gD Y<|ev (jf qU Y)<|mv Y<|dn<|dF ?_
  have kN:(([]:V _):V _)=((xss.take 0).flatten):=by simp
  refine mP (t:=6) Y (aY (λz=>Value.slice qj (List.length z) ql) kN) ?_;rw [kN] at K2;refine Lp (K2.rm U) (λl0 rk mJ lJ wJ=>∃ k A6 c6,lJ=(6,.slice A6 (((xss.take k).flatten).length) c6)::(27,O ((k:Nat):Int))::l0/\mJ=xss.length - k/\k<=xss.length/\Hp w S0 wJ (aR _ _ A6 c6 ((xss.take k).flatten)::rk)) ⟨0,qj,ql,Y,Y,fI _,K2⟩ Y ?_;rintro _ _ w3 ⟨k,A6,c6,rfl,rfl,hk,K3⟩;refine rg<|ev (iH Y Y)<|dn<|r9 Y (λhc28=>?_) (λhc28=>?_)
  ·refine jQ ?_;refine aZ<|dF<|rg ?_
   obtain⟨x2,nE⟩:=bH (xs:=xss) (i:=k) aj;refine ev (d9 (i:=k) qU qZ Y Y Y (aP nE) ((K3.a abG).some_ nE)) ?_;obtain⟨B2,d2,aCe,hi2⟩:=alL (abG.row nE);refine ev (kG qG Y (K3.ext.cell aCe))<|fE Y<|jN<|pq 2 Y<|ap (ys:=x2) K3 U Y Y (K3.a hi2).any qU1 qI (by have:=Me xss k; simp only [Md] at this; omega) (by have:=Ju nE; have:=Me xss (k+1); omega) rfl λsQ sS w4 K4=>oJ rfl<|jO<|iF (fV ?_)
   refine jN<|ev (eG Y Y)<|mv Y<|jO ?_
   have nM:((((xss.take k).flatten)++x2):V _)=((xss.take (k+1)).flatten):=by exact ac0 nE
   refine ji (t:=6) Y (aY (λz=>Value.slice sQ (List.length z) sS) nM) ?_;rw [nM] at K4;exact dX ⟨(k+1),sQ,sS,Y,Y,aj,K4⟩ rfl aj
  refine BU ?_;refine gD Y<|fE Y<|iU Y ?_
  have uO:(((xss.take k).flatten):V _)=((xss).flatten):=by rw [gY aj]
  rw [uO] at K3
  exact⟨A6,c6,by rw [uO] <;> rfl,K3⟩):p:=h
theorem mCL{p:Prop}(h:p:=by
  refine kX Y<|aZ<|gD Y<|ev (Ev.alF qU Y Y)<|dn<|bS Y (λhc4=>?_) (λhc4=>?_)
  ·refine kX Y<|Aw Y ?_
   have gy:[]=s:=by have h1:=sP.nil (by simpa using hc4); have h2:=sP.cap; exact(xY aj).symm
   exact⟨none,0,by rw [<- gy] <;> rfl,gy▸H0.nil _ _⟩
  refine jQ ?_;refine rg<|bs0 Y (by intro _; apply qB) rfl H0 λg1 w1 K1=>mv rfl<|ap K1 U rfl rfl (K1.a sP).any qU qI av (by first | omega | (simp; omega) | (simp; done)) rfl λsQ sS w2 K2=>fE rfl<|iU rfl ?_
  have gH:[]++s=s:=by simp
  rw [gH] at K2
  exact⟨sQ,sS,by rw [gH] <;> rfl,K2⟩):p:=h
end
end Go.Proofs.YthcmboepffiliaaGreat
