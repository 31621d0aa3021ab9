/- Lemmas. -/
import Derived.WalkKit
import Derived.WalkSpells
import Derived.WalkLawsBesides
import Derived.Deep.Quiet
import Derived.Deep.LoopGhost
import Derived.Sort.LoopGhostIn
import Derived.RangeFuncLeaves
import Derived.OrdersIn
import Derived.Deep.AppendLies
import Derived.Lib.SliceRun
import Derived.Maps.AppendAt
import Derived.OrdersHeld
set_option linter.all false
set_option maxRecDepth 4000
namespace Go.Proofs.YtlhnnmlenkahlaaGreat
abbrev ah:=Option Addr
theorem Y{α:Sort _}{a:α}:a=a:=rfl
def aPX:=@Bool.or_eq_true
def aPY:=@Bool.or_eq_false_iff
def aPZ:=@Bool.and_eq_true
def aP0:=@Bool.and_eq_false_imp
def aP1:=@Bool.not_eq_true'
def aP2:=@Bool.not_eq_false'
def aP3:=@decide_eq_true_eq
def aP4:=@decide_eq_false_iff_not
theorem aj{p:Prop}(h:p:=by omega):p:=h
theorem ak{p:Prop}(h:p:=by kernel_rfl):p:=h
theorem au{p:Prop}(h:p:=by decide):p:=h
theorem av{p:Prop}(h:p:=by simp):p:=h
theorem ay{p:Prop}(h:p:=by first | (intro _; kernel_rfl) | (intro _ _; kernel_rfl)):p:=h
open Go.RowKit
def kJ:=@Nat.le_refl
def lI:=@Nat.le_trans
def abk:=@Nat.le_succ
def abl:=@Nat.lt_of_lt_of_le
def aBP:=@World.block_lt_of_cell?
def Ij:=@List.getElem?_eq_getElem
def aee:=@List.flatten_cons
def kX:=@List.mem_append
def Z0:=@List.getElem?_append_right
def Bl:=@Nat.add_mul
def aef:=@List.getElem_of_mem
def sN:=@List.getElem?_eq_some_iff
def nW:=@List.pairwise_cons
def iR:=@List.mem_cons
def zk:=@List.pairwise_append
def Uo:=@Nat.eq_of_beq_eq_true
def ajr:=@Nat.ne_of_beq_eq_false
def jO:=@Sem.run_bind
def FB:=@Calls.mono
def oV:=@List.length_cons
def aS:=@if_pos
def aP:=@if_neg
def Wt:=@wpIn_wide
def Ur:=@Nat.sub_zero
def Us:=@wpIn_seq
def lK:=@Sem.run_pure
def jP:=@Result.andThen_ok
def JN:=@Array.getD_eq_getD_getElem?
def Z4:=@List.cons_append
def FC:=@List.take_append_drop
def Cb:=@eqGuard_at_int
def wh:=@List.map_toArray
def mR:=@List.map_cons
def xk:=@List.map_nil
def ajs:=@run_loadCells_list
def Pn:=@Addr.add_lit
def Z5:=@run_storeCells_at
def KD:=@setRow_heap
def kV:=@run_underlying
def zM:=@List.append_nil
def Oh:=@Nat.mul_le_mul
def nX:=@Nat.le_of_ble_eq_true
def fE:=@Nat.zero_le
def Wu:=@List.size_toArray
def uE:=@List.length_nil
def Ik:=@Nat.zero_add
def F5:=@List.getElem?_drop
def Wv:=@List.getElem?_take
def iF:=@List.length_take
def zO:=@Nat.mul_le_mul_right
def Oi:=@run_sliceAt_slice
def RS:=@Int.toNat_natCast
def yS:=@List.mem_of_getElem?
def gV:=@List.take_of_length_le
def jG:=@List.length_append
def Wx:=@List.countP_le_length
def sO:=@decide_eq_true
def Eh:=@List.pairwise_iff_getElem
def F6:=@Nat.lt_or_ge
section
variable {α:Type}{w w':World}{v:Value}{P:Program}{row:Option Nat}{i id:Nat}{S:Nat->Prop}{Q Q':Exit->Act->World->Prop}{K:Act->World->Prop}{f:FuncId}{args:Array Value}{bY:Array Oper}{ol:List Oper}{fn:Func}{y:Code}
abbrev aI(x:Int):Value:=.int .i64 x
abbrev gP(x:Int):Value:=.int .u32 x
abbrev gI(g:Nat):Value:=.pointer (some ⟨g,0,none⟩)
def qC(x:Int):Prop:=-9223372036854775808<=x/\x<=9223372036854775807
structure Ext (w w':World):Prop where
  os:w'.os=w.os
  tape:w'.tape=w.tape
  output:w'.output=w.output
  size:w.heap.size<=w'.heap.size
  block:∀ k,k<w.heap.size->w'.heap[k]? = w.heap[k]?
  drawn:w.drawn<=w'.drawn
structure Mod (g:Nat) (w w':World):Prop where
  os:w'.os=w.os
  tape:w'.tape=w.tape
  output:w'.output=w.output
  size:w.heap.size<=w'.heap.size
  block:∀ k,k<w.heap.size->k≠g->w'.heap[k]? = w.heap[k]?
  drawn:w.drawn<=w'.drawn
structure ND (w w':World) (row:Option Nat):Prop where
  os:w'.os=w.os
  tape:w'.tape=w.tape
  output:w'.output=w.output
  size:w.heap.size<=w'.heap.size
  block:∀ k,k<w.heap.size->some k≠row->w'.heap[k]? = w.heap[k]?
  drawn:w.drawn<=w'.drawn
theorem RU:∀(x:Ask α)(w:World),w.drawn<=(w.ask x).2.drawn
  | .done a,w=>kJ _
  | .ask what range k,w=>by
    unfold World.ask
    simp only
    split
    · exact RU (k 0) w
    · exact lI (abk _) (RU (k _) { w with drawn:=w.drawn+1 })
theorem alq(w:World)(c:Sys):w.drawn<=(w.sys c).2.drawn:=by
  have h:=RU (Kernel.perform c w.os) w;unfold World.sys
  split
  · exact kJ _
  · rename_i e; rw [e] at h; exact h
theorem alr{p:Program}{a:Addr}{at':Bool}{l:List Addr}(h:w.farStore p a v at'=.ok (w',l)):w'.drawn=w.drawn:=by
  unfold World.farStore at h
  split at h
  · split at h
    · rename_i r hr
      cases h
      unfold World.viewStore at hr
      simp only [bind,Except.bind,pure,Except.pure,throw,throwThe,MonadExceptOf.throw] at hr
      repeat' (split at hr)
      all_goals first | (cases hr; rfl) | cases hr
    grind
  grind
theorem als:∀(m:Sem α)(w:World)(a:α)(w':World),m.run P w=.ok a w'->w.drawn<=w'.drawn:=by
  intro m
  induction m with
  | pure a=>simp
  | load m a k ih=>
    grind [Sem.run]
  | store m a v k ih=>
    intro w b w' h
    cases v <;> simp only [Sem.run] at h
    all_goals first
      | (cases h; done)
      | (split at h
         · split at h
           · cases h
           · have:=ih _ _ _ h; exact this
         · split at h
           · rename_i hf; have:=ih _ _ _ h; rw [alr hf] at this; exact this
           · cases h)
  | new o k ih=>grind [Sem.run]
  | shape r k ih=>grind [Sem.run]
  | freeze a n k ih=>
    grind [Sem.run,World.freeze]
  | frozen a k ih=>grind [Sem.run]
  | getObj r k ih=>
    grind [Sem.run]
  | setObj r o k ih=>
    grind [Sem.run]
  | choose q k ih=>
    grind [Sem.run]
  | sys c k ih=>grind [Sem.run,Nat.le_trans,alq]
  | program k ih=>grind [Sem.run]
  | mark m k ih=>grind [Sem.run]
  | halt e=>simp
section
variable {a b c w w':World}{g:Nat}
theorem ND.of(h:w.grownBy w' row)(hd:w.drawn<=w'.drawn):ND w w' row:=⟨h.os,h.tape,h.output,h.size,λk hk hn=>h.block k hk hn,hd⟩
theorem Ext.refl(w:World):Ext w w:=⟨rfl,rfl,rfl,kJ _,av,kJ _⟩
def pW:=@Ext.refl
theorem Ext.trans(h:Ext a b)(k:Ext b c):Ext a c:=
  ⟨k.os.trans h.os,k.tape.trans h.tape,k.output.trans h.output,lI h.size k.size,λi hi=>(k.block i (abl hi h.size)).trans (h.block i hi),lI h.drawn k.drawn⟩
theorem Ext.mod(h:Ext a b)(k:Mod g b c)(hg:a.heap.size<=g):Ext a c:=
  ⟨k.os.trans h.os,k.tape.trans h.tape,k.output.trans h.output,lI h.size k.size,λi hi=>(k.block i (abl hi h.size) aj).trans (h.block i hi),lI h.drawn k.drawn⟩
theorem Ext.drew(h:Ext a b):Ext a b.drew:=⟨h.os,h.tape,h.output,h.size,h.block,Nat.le_succ_of_le h.drawn⟩
theorem Ext.alloc(w:World)(o:Obj):Ext w (w.alloc o):=⟨rfl,rfl,rfl,av,by grind [Below.heap_alloc],kJ _⟩
theorem Mod.setCell(w:World)(p:Addr)(u:Value):Mod p.block w (w.setCell p u):=
  ⟨rfl,rfl,rfl,av,by grind [Below.heap_setCell],kJ _⟩
theorem Mod.xO(h:ND w w' row)(hr:∀ k,row=some k->k=g):Mod g w w':=
  ⟨h.os,h.tape,h.output,h.size,λk hk hn=>h.block k hk (by grind),h.drawn⟩
def ax8:=@Mod.xO
theorem Ext.xO(h:ND w w' row)(hr:∀ k,row=some k->w.heap.size<=k):Ext w w':=
  ⟨h.os,h.tape,h.output,h.size,λk hk=>h.block k hk (by grind),h.drawn⟩
theorem Ext.cell{p:Addr}(h:Ext w w')(hc:w.cell? p=some v):w'.cell? p=some v:=
  (World.cell?_of_block (h.block p.block (aBP w p hc))).trans hc
end
def Bx(w:World)(g:Nat)(t:TypeId)(cs:List Value):Prop:=w.heap[g]? = some (.cells cs.toArray t (0,0))
section
variable {w w':World}{g g':Nat}{t:TypeId}{cs:List Value}
theorem Bx.lt(h:Bx w g t cs):g<w.heap.size:=by
  grind [Bx]
theorem Bx.ext(h:Bx w g t cs)(e:Ext w w'):Bx w' g t cs:=(e.block g h.lt).trans h
theorem Bx.mod(h:Bx w g t cs)(m:Mod g' w w')(hn:g≠g'):Bx w' g t cs:=(m.block g h.lt hn).trans h
theorem Bx.cell(h:Bx w g t cs)(i:Nat):w.cell? ⟨g,i,none⟩=cs[i]?:=by
  rw [cell_of_row w g i cs.toArray t (0,0) h]; simp
theorem Bx.frozen(h:Bx w g t cs)(i:Nat):w.frozen? ⟨g,i,none⟩=false:=by
  grind [Bx,World.frozen?]
theorem Bx.new(w:World)(t:TypeId)(cs:List Value):Bx (w.alloc (.cells cs.toArray t)) w.heap.size t cs:=heap_alloc_new w _
theorem Bx.aHs(h:Bx w g t cs)(i:Nat)(u:Value):Bx (w.setCell ⟨g,i,none⟩ u) g t (cs.set i u):=by
  grind [Bx,World.setCell]
end
structure Ty (α:Type) where
  k:Nat
  pos:0<k
  R:(S:Nat->Prop)->World->α->List Value->Prop
  len:∀ {S w x cs},R S w x cs->cs.length=k
  one:∀ {S w x cs},R S w x cs->∀ u∈cs,u.oneCell'=true
  keep:∀ {S:Nat->Prop} {w w':World} {x cs},(∀ g,S g->g<w.heap.size->w'.heap[g]? = w.heap[g]?)->R S w x cs->R S w' x cs
  sub:∀ {S S':Nat->Prop} {w x cs},(∀ b,S b->S' b)->R S w x cs->R S' w x cs
  bd:∀ {S:Nat->Prop} {w x cs},R S w x cs->R (λg=>S g/\g<w.heap.size) w x cs
def Ty.flat{α:Type}(k:Nat)(enc:α->List Value)(pos:0<k)(hl:∀ x,(enc x).length=k)(h1:∀ x,∀ u∈enc x,u.oneCell'=true):Ty α where
  k:=k
  pos:=pos
  R:=λ_ _ x cs=>cs=enc x
  len:=by grind
  one:=by grind
  keep:=λ_ h=>h
  sub:=λ_ h=>h
  bd:=λh=>h
theorem Ty.ext(τ:Ty α){S w w' x cs}(e:Ext w w')(h:τ.R S w x cs):τ.R S w' x cs:=τ.keep (λg _ hg=>e.block g hg) h
theorem Ty.mod(τ:Ty α){S w w' g x cs}(m:Mod g w w')(hg:¬ S g)(h:τ.R S w x cs):τ.R S w' x cs:=
  τ.keep (λb hb hlt=>m.block b hlt (by grind)) h
class Flat {α:Type} (τ:Ty α):Prop where
  h:∀ {S S':Nat->Prop} {w w':World} {x:α} {cs:List Value},τ.R S w x cs->τ.R S' w' x cs
instance {α:Type}{k:Nat}{enc:α->List Value}{pos:0<k}{hl:∀ x,(enc x).length=k}{h1:∀ x,∀ u∈enc x,u.oneCell'=true}:Flat (Ty.flat k enc pos hl h1):=⟨λh=>h⟩
def Ih(A:ah):Addr:=A.getD ⟨0,0,none⟩
structure Sl {α:Type} (τ:Ty α) (S:Nat->Prop) (w:World) (A:ah) (c:Nat) (xs:List α):Prop where
  cap:xs.length<=c
  max:c<=maxLen
  nil:A=none->c=0
  rows:∀(i:Nat)(x:α),xs[i]? = some x->S (Ih A).block/\∃ cs,τ.R S w x cs/\∀ j u,cs[j]? = some u->w.cell? ((Ih A).add (i*τ.k+j))=some u
theorem Il(a:Addr)(n:Nat):(a.add n).block=a.block:=by grind [Addr.add]
theorem fV(a:Addr)(i j:Nat):(a.add i).add j=a.add (i+j):=by
  grind [Addr.add]
section
variable {α:Type}{τ:Ty α}{S S':Nat->Prop}{w w':World}{A:ah}{c g:Nat}{xs:List α}
theorem Sl.none_(τ:Ty α)(S:Nat->Prop)(w:World):Sl τ S w none 0 []:=
  ⟨av,av,λ_=>rfl,av⟩
def RV:=@Sl.none_
theorem Sl.ext(h:Sl τ S w A c xs)(e:Ext w w'):Sl τ S w' A c xs:=
  ⟨h.cap,h.max,h.nil,λi x hx=>by
    obtain⟨h1,cs,h2,h3⟩:=h.rows i x hx
    exact⟨h1,cs,τ.ext e h2,λj u hu=>e.cell (h3 j u hu)⟩⟩
theorem Sl.keep(h:Sl τ S w A c xs)(m:∀ g,S g->g<w.heap.size->w'.heap[g]? = w.heap[g]?):Sl τ S w' A c xs:=
  ⟨h.cap,h.max,h.nil,λi x hx=>by
    obtain⟨h1,cs,h2,h3⟩:=h.rows i x hx;refine⟨h1,cs,τ.keep m h2,λj u hu=>?_⟩
    grind [World.block_lt_of_cell?,Il,World.cell?_of_block]⟩
theorem Sl.sub(h:Sl τ S w A c xs)(hs:∀ b,S b->S' b):Sl τ S' w A c xs:=
  ⟨h.cap,h.max,h.nil,λi x hx=>by
    obtain⟨h1,cs,h2,h3⟩:=h.rows i x hx
    exact⟨hs _ h1,cs,τ.sub hs h2,h3⟩⟩
theorem Sl.bC(h:Sl τ S w A c xs):xs.length<=9223372036854775807:=by
  have h1:=h.cap;have h2:=h.max
  grind [maxLen]
theorem Sl.any(h:Sl τ S w A c xs):Sl τ (λ_=>True) w A c xs:=h.sub av
theorem Sl.some_(h:Sl τ S w A c xs){x:α}(hx:xs[i]? = some x):A=some (Ih A):=by
  cases hA:A with
  | none=>
    have h1:=h.nil hA;have h2:=h.cap
    grind
  | some a=>rfl
theorem Sl.lt(h:Sl τ S w A c xs){x:α}(hx:xs[i]? = some x):(Ih A).block<w.heap.size:=by
  obtain⟨_,cs,h2,h3⟩:=h.rows i x hx;have hl:=τ.len h2;have hp:=τ.pos;have h0:cs[0]? = some (cs[0]'aj):=Ij _;have:=aBP w _ (h3 0 _ h0)
  rwa [Il] at this
theorem Sl.bd(h:Sl τ S w A c xs):Sl τ (λg=>S g/\g<w.heap.size) w A c xs:=
  ⟨h.cap,h.max,h.nil,λi x hx=>by
    obtain⟨h1,cs,h2,h3⟩:=h.rows i x hx
    exact⟨⟨h1,h.lt hx⟩,cs,τ.bd h2,h3⟩⟩
theorem Sl.cells(h:Sl τ S w A c xs):∃ css:List (List Value),css.length=xs.length/\(∀(i:Nat)(x:α),xs[i]? = some x->∃ cs,css[i]? = some cs/\τ.R S w x cs)/\
    css.flatten.length=xs.length*τ.k/\(∀ u∈css.flatten,u.oneCell'=true)/\∀ j u,css.flatten[j]? = some u->w.cell? ((Ih A).add j)=some u:=by
  have key:∀(ys:List α)(o:Nat),(∀(i:Nat)(x:α),ys[i]? = some x->∃ cs,τ.R S w x cs/\∀ j u,cs[j]? = some u->w.cell? ((Ih A).add ((o+i)*τ.k+j))=some u)->
      ∃ css:List (List Value),css.length=ys.length/\(∀(i:Nat)(x:α),ys[i]? = some x->∃ cs,css[i]? = some cs/\τ.R S w x cs)/\
        css.flatten.length=ys.length*τ.k/\(∀ u∈css.flatten,u.oneCell'=true)/\∀ j u,css.flatten[j]? = some u->w.cell? ((Ih A).add (o*τ.k+j))=some u:=by
    intro ys
    induction ys with
    | nil=>simp
    | cons y ys ih=>
      intro o hy;obtain⟨cs,hR,hc⟩:=hy 0 y rfl
      obtain⟨css,h1,h2,h3,h4,h5⟩:=ih (o+1) (λi x hx=>by
        obtain⟨cs,hR,hc⟩:=hy (i+1) x (by grind)
        grind)
      have hl:=τ.len hR;refine⟨cs::css,by simp [h1],?_,?_,?_,?_⟩
      · grind
      · grind
      · intro u hu
        rw [aee] at hu
        rcases kX.1 hu with h | h
        · exact τ.one hR u h
        grind
      grind
  obtain⟨css,h1,h2,h3,h4,h5⟩:=key xs 0 (λi x hx=>by
    obtain⟨_,cs,hR,hc⟩:=h.rows i x hx
    grind)
  grind
end
def Own{α:Type}(τ:Ty α)(e:TypeId)(lo:Nat)(S:Nat->Prop)(w:World)(A:ah)(c:Nat)(xs:List α):Prop:=
  ∃ css:List (List Value),css.length=xs.length/\(∀(i:Nat)(x:α),xs[i]? = some x->∃ cs,css[i]? = some cs/\τ.R S w x cs)/\w.ownsRow lo e τ.k (.slice A xs.length c) xs.length css.flatten
def blk(A:ah):Option Nat:=A.map (·.block)
section
variable {α:Type}{τ:Ty α}{e:TypeId}{lo lo':Nat}{S S':Nat->Prop}{w w':World}{A:ah}{c g:Nat}{xs:List α}
theorem Own.none_(τ:Ty α)(e:TypeId)(lo:Nat)(S:Nat->Prop)(w:World):Own τ e lo S w none 0 []:=
  ⟨[],rfl,λi x h=>by simp at h,World.ownsRow_nil w lo e τ.k⟩
theorem Po{k:Nat}:∀(css:List (List Value))(_:∀ cs∈css,cs.length=k)(i:Nat)(cs:List Value)(_:css[i]? = some cs)(j:Nat)(u:Value),cs[j]? = some u->css.flatten[i*k+j]? = some u
  | [],_,i,cs,h,_,_,_=>by simp at h
  | c0::css,hk,i,cs,h,j,u,hu=>by
    have h0:c0.length=k:=by grind
    cases i with
    | zero=>
      grind
    | succ i=>
      simp only [aee]
      rw [Z0 (by rw [h0,Bl,Nat.one_mul]; omega),h0,show(i+1)*k+j - k=i*k+j from by rw [Bl,Nat.one_mul]; omega];exact Po css (λcs hcs=>hk cs (by simp [hcs])) i cs (by simpa using h) j u hu
theorem Vh{css:List (List Value)}(h1:css.length=xs.length)(h2:∀(i:Nat)(x:α),xs[i]? = some x->∃ cs,css[i]? = some cs/\τ.R S w x cs):∀ cs∈css,cs.length=τ.k:=by
  intro cs hcs;obtain⟨i,hi,rfl⟩:=aef hcs;obtain⟨cs',h3,h4⟩:=h2 i (xs[i]'aj) (Ij _);rw [Ij hi] at h3
  cases h3
  exact τ.len h4
theorem Own.slb(h:Own τ e lo S w A c xs)(h1:∀ b,blk A=some b->S' b)(h2:∀ b,S b->S' b):Sl τ S' w A c xs:=by
  obtain⟨css,hl,hR,hown⟩:=h;have hk:=Vh hl hR
  rcases hown.2 with ⟨hv,hn⟩ | ⟨g,cap,cur,hv,hg,hh,hnc,hcm,hcs,ht⟩
  · grind [Sl.none_]
  · injection hv with hA hn' hc
    subst hA hc;refine⟨hnc,hcm,av,λi x hx=>?_⟩;obtain⟨cs,h3,h4⟩:=hR i x hx;exact⟨h1 _ Y,cs,τ.sub h2 h4,λj u hu=>hown.cells Y _ _ (by grind [Po])⟩
theorem Own.sl(h:Own τ e lo S w A c xs)(h1:∀ b,lo<=b->S' b)(h2:∀ b,S b->S' b):Sl τ S' w A c xs:=by
  refine h.slb (λg hg=>h1 g ?_) h2;obtain⟨css,hl,hR,hown⟩:=h
  rcases hown.2 with ⟨hv,hn⟩ | ⟨g',cap,cur,hv,hg',_⟩
  all_goals grind [blk]
theorem Own.abm(h:Own τ e lo S w A c xs):∀ g,blk A=some g->lo<=g/\g<w.heap.size:=by
  obtain⟨css,hl,hR,hown⟩:=h;intro g hg;refine hown.lt g ?_
  cases A <;> grind [blk,Value.ownBlock]
theorem Own.ext(h:Own τ e lo S w A c xs)(x:Ext w w'):Own τ e lo S w' A c xs:=by
  obtain⟨css,hl,hR,hown⟩:=h;refine⟨css,hl,λi y hy=>?_,hown.kept (row:=none) ⟨x.os,x.tape,x.output,x.size,λk hk _=>x.block k hk⟩ (by grind)⟩;obtain⟨cs,h1,h2⟩:=hR i y hy;exact⟨cs,h1,τ.ext x h2⟩
theorem Own.mod(h:Own τ e lo S w A c xs)(m:Mod g w w')(hS:¬ S g)(hg:blk A≠some g):Own τ e lo S w' A c xs:=by
  obtain⟨css,hl,hR,hown⟩:=h;refine⟨css,hl,λi y hy=>?_,hown.kept (row:=some g) ⟨m.os,m.tape,m.output,m.size,λk hk hn=>m.block k hk (by grind)⟩ (.inr ?_)⟩
  · obtain⟨cs,h1,h2⟩:=hR i y hy
    exact⟨cs,h1,τ.mod m hS h2⟩
  · intro he
    apply hg
    cases A <;> grind [Value.ownBlock,blk]
theorem Own.keep(h:Own τ e lo S w A c xs)(m:∀ g,blk A=some g∨S g->g<w.heap.size->w'.heap[g]? = w.heap[g]?):Own τ e lo S w' A c xs:=by
  obtain⟨css,hl,hR,hown⟩:=h;refine⟨css,hl,λi y hy=>?_,hown.1,?_⟩
  · obtain⟨cs,h1,h2⟩:=hR i y hy
    exact⟨cs,h1,τ.keep (by grind) h2⟩
  · rcases hown.2 with h2 | ⟨g,cap,cur,hv,hg,hh,rest⟩
    · grind
    · injection hv with hA hn hc
      refine .inr ⟨g,cap,cur,by grind,hg,?_,rest⟩;have hlt:g<w.heap.size:=by grind
      rw [m g (.inl (by rw [hA]; rfl)) hlt]; exact hh
theorem Own.lift(h:Own τ e lo S w A c xs)(hlo:∀ g,blk A=some g->lo'<=g):Own τ e lo' S w A c xs:=by
  obtain⟨css,hl,hR,hown⟩:=h;refine⟨css,hl,hR,hown.1,?_⟩
  rcases hown.2 with h2 | ⟨g,cap,cur,hv,hg,rest⟩
  · grind
  · injection hv with hA hn hc
    exact .inr ⟨g,cap,cur,by rw [hA,hn,hc],hlo g (by rw [hA]; rfl),rest⟩
theorem Own.low(h:Own τ e lo S w A c xs)(hlo:lo'<=lo)(hS:∀ b,S b->S' b):Own τ e lo' S' w A c xs:=by
  obtain⟨css,hl,hR,hown⟩:=h;refine⟨css,hl,λi y hy=>?_,hown.1,?_⟩
  · obtain⟨cs,h1,h2⟩:=hR i y hy
    exact⟨cs,h1,τ.sub hS h2⟩
  · rcases hown.2 with h2 | ⟨g,cap,cur,hv,hg,rest⟩
    · grind
    · exact .inr ⟨g,cap,cur,hv,aj,rest⟩
end
def Fr(w:World):Nat->Prop:=λb=>w.heap.size<=b
def Any:Nat->Prop:=λ_=>True
theorem bn{xs:List α}(h:i<xs.length):∃ x,xs[i]? = some x:=⟨xs[i],Ij h⟩
theorem aM{xs:List α}{x:α}(h:xs[i]? = some x):i<xs.length:=(sN.1 h).1
theorem oO{p:Prop}[Decidable p](h:(!decide p)=true):¬ p:=by grind
theorem oP{p:Prop}[Decidable p](h:(!decide p)=false):p:=by grind
structure lG where
  W:Nat->Prop
  ok:(Nat->Prop)->World->Prop
  sub:∀ {S S':Nat->Prop} {w:World},(∀ g,S g->S' g)->ok S w->ok S' w
  keep:∀ {S:Nat->Prop} {w w':World},(∀ g,W g∨S g->g<w.heap.size->w'.heap[g]? = w.heap[g]?)->ok S w->ok S w'
def aQ{α:Type}(τ:Ty α)(e:TypeId)(A:ah)(c:Nat)(xs:List α):lG where
  W:=λg=>blk A=some g
  ok:=λS w=>Own τ e 0 S w A c xs
  sub:=λhs h=>h.low (kJ _) hs
  keep:=λhm h=>h.keep hm
def dH{α:Type}(τ:Ty α)(A:ah)(c:Nat)(xs:List α):lG where
  W:=λ_=>False
  ok:=λS w=>Sl τ S w A c xs
  sub:=λhs h=>h.sub hs
  keep:=λhm h=>h.keep (by grind)
def dW(g:Nat)(t:TypeId)(cs:List Value):lG where
  W:=λb=>b=g
  ok:=λ_ w=>Bx w g t cs
  sub:=λ_ h=>h
  keep:=λ{_ w _} hm h=>(hm g (.inl rfl) h.lt).trans h
def Rd(b:World)(S:Nat->Prop)(rs:List lG)(w:World):Nat->Prop:=λg=>(g<b.heap.size/\S g)∨(b.heap.size<=g/\g<w.heap.size/\∀ r∈rs,¬ r.W g)
structure Hp (b:World) (S:Nat->Prop) (w:World) (rs:List lG):Prop where
  ext:Ext b w
  ok:∀ r∈rs,r.ok (Rd b S rs w) w
  lo:∀ r∈rs,∀ g,r.W g->b.heap.size<=g/\g<w.heap.size
  dis:rs.Pairwise λr s=>∀ g,r.W g->¬ s.W g
inductive pq {α:Type}:List α->α->List α->Prop
  | h {r:α} {rs:List α}:pq (r::rs) r rs
  | t {r q:α} {rs rest:List α}:pq rs r rest->pq (q::rs) r (q::rest)
section
variable {α:Type}{q0 q1 q2 q3 q4 q5 q6 q7 q8 q9 q10 q11 q12 q13 q14 q15 r:α}{rs:List α}
theorem s0:pq (r::rs) r rs:=.h
theorem s1:pq (q0::r::rs) r (q0::rs):=.t .h
theorem s2:pq (q0::q1::r::rs) r (q0::q1::rs):=.t s1
theorem s3:pq (q0::q1::q2::r::rs) r (q0::q1::q2::rs):=.t s2
theorem s4:pq (q0::q1::q2::q3::r::rs) r (q0::q1::q2::q3::rs):=.t s3
theorem s5:pq (q0::q1::q2::q3::q4::r::rs) r (q0::q1::q2::q3::q4::rs):=.t s4
theorem s6:pq (q0::q1::q2::q3::q4::q5::r::rs) r (q0::q1::q2::q3::q4::q5::rs):=.t s5
theorem s7:pq (q0::q1::q2::q3::q4::q5::q6::r::rs) r (q0::q1::q2::q3::q4::q5::q6::rs):=.t s6
theorem s8:pq (q0::q1::q2::q3::q4::q5::q6::q7::r::rs) r (q0::q1::q2::q3::q4::q5::q6::q7::rs):=.t s7
theorem s9:pq (q0::q1::q2::q3::q4::q5::q6::q7::q8::r::rs) r (q0::q1::q2::q3::q4::q5::q6::q7::q8::rs):=.t s8
theorem s10:pq (q0::q1::q2::q3::q4::q5::q6::q7::q8::q9::r::rs) r (q0::q1::q2::q3::q4::q5::q6::q7::q8::q9::rs):=.t s9
theorem s11:pq (q0::q1::q2::q3::q4::q5::q6::q7::q8::q9::q10::r::rs) r (q0::q1::q2::q3::q4::q5::q6::q7::q8::q9::q10::rs):=.t s10
theorem s12:pq (q0::q1::q2::q3::q4::q5::q6::q7::q8::q9::q10::q11::r::rs) r (q0::q1::q2::q3::q4::q5::q6::q7::q8::q9::q10::q11::rs):=.t s11
theorem s13:pq (q0::q1::q2::q3::q4::q5::q6::q7::q8::q9::q10::q11::q12::r::rs) r (q0::q1::q2::q3::q4::q5::q6::q7::q8::q9::q10::q11::q12::rs):=.t s12
theorem s14:pq (q0::q1::q2::q3::q4::q5::q6::q7::q8::q9::q10::q11::q12::q13::r::rs) r (q0::q1::q2::q3::q4::q5::q6::q7::q8::q9::q10::q11::q12::q13::rs):=.t s13
theorem s15:pq (q0::q1::q2::q3::q4::q5::q6::q7::q8::q9::q10::q11::q12::q13::q14::r::rs) r (q0::q1::q2::q3::q4::q5::q6::q7::q8::q9::q10::q11::q12::q13::q14::rs):=.t s14
theorem pq.perm{rest:List α}(h:pq rs r rest):rs.Perm (r::rest):=by
  induction h with
  | h=>rfl
  | t _ ih=>exact(ih.cons _).trans (List.Perm.swap _ _ _)
end
section
variable {b w w':World}{S S':Nat->Prop}{rs rs' rest F:List lG}{r r':lG}{α:Type}{τ:Ty α}{e:TypeId}{A A':ah}{c c':Nat}{xs ys:List α}
theorem Rd.perm(h:rs.Perm rs'):∀ g,Rd b S rs w g->Rd b S rs' w g:=by
  rintro g (h1 | ⟨h1,h2,h3⟩)
  · exact .inl h1
  · exact .inr (by grind)
theorem Hp.perm(H:Hp b S w rs)(h:rs.Perm rs'):Hp b S w rs':=
  ⟨H.ext,λr hr=>r.sub (Rd.perm h) (H.ok r (by grind)),λr hr=>H.lo r (by grind),
    H.dis.perm h (by grind)⟩
theorem Hp.sel(H:Hp b S w rs)(s:pq rs r rest):Hp b S w (r::rest):=H.perm s.perm
theorem Hp.init(w:World)(S:Nat->Prop):Hp w S w []:=⟨pW w,av,av,List.Pairwise.nil⟩
theorem Rd.grow(hw:w.heap.size<=w'.heap.size):∀ g,Rd b S rs w g->Rd b S rs w' g:=by
  rintro g (h1 | ⟨h1,h2,h3⟩)
  · exact .inl h1
  · exact .inr (by grind)
theorem Hp.grow(H:Hp b S w rs)(e:Ext w w'):Hp b S w' rs:=
  ⟨H.ext.trans e,λr hr=>r.sub (Rd.grow e.size) (r.keep (λg _ hlt=>e.block g hlt) (H.ok r hr)),
    λr hr g hg=>⟨(H.lo r hr g hg).1,abl (H.lo r hr g hg).2 e.size⟩,H.dis⟩
theorem Hp.tail(H:Hp b S w (r::rs)):Hp b S w rs:=by
  refine⟨H.ext,λq hq=>q.sub ?_ (H.ok q (by simp [hq])),λq hq=>H.lo q (by simp [hq]),(nW.1 H.dis).2⟩;rintro g (h1 | ⟨h1,h2,h3⟩)
  · exact .inl h1
  · exact .inr (by grind)
theorem Hp.rm(H:Hp b S w rs)(s:pq rs r rest):Hp b S w rest:=(H.sel s).tail
theorem Hp.new(H:Hp b S w rs)(e:Ext w w')(hW:∀ g,r.W g->w.heap.size<=g/\g<w'.heap.size)(hok:r.ok (Rd b S rs w) w'):Hp b S w' (r::rs):=by
  have hsub:∀ g,Rd b S rs w g->Rd b S (r::rs) w' g:=by
    rintro g (h1 | ⟨h1,h2,h3⟩)
    · exact .inl h1
    · refine .inr ⟨h1,abl h2 e.size,λq hq=>?_⟩
      grind
  refine⟨H.ext.trans e,λq hq=>?_,λq hq g hg=>?_,nW.2 ⟨λq hq g hg hg2=>?_,H.dis⟩⟩
  · rcases iR.1 hq with rfl | hq
    · exact q.sub hsub hok
    · exact q.sub hsub (q.keep (λg _ hlt=>e.block g hlt) (H.ok q hq))
  · rcases iR.1 hq with rfl | hq
    · have h1:=hW g hg; have:=H.ext.size; omega
    · have h1:=H.lo q hq g hg; have:=e.size; omega
  · have h1:=(hW g hg).1; have h2:=(H.lo q hq g hg2).2; omega
structure Wr (b w w':World) (W:Nat->Prop):Prop where
  os:w'.os=w.os
  tape:w'.tape=w.tape
  output:w'.output=w.output
  size:w.heap.size<=w'.heap.size
  block:∀ k,k<w.heap.size->¬ W k->w'.heap[k]? = w.heap[k]?
  drawn:w.drawn<=w'.drawn
theorem Hp.put(H:Hp b S w (r::rs))(m:Wr b w w' r.W)(hW:∀ g,r'.W g->r.W g∨(w.heap.size<=g/\g<w'.heap.size))(hok:r'.ok (Rd b S (r::rs) w) w'):Hp b S w' (r'::rs):=by
  have hd:=nW.1 H.dis
  have hsub:∀ g,Rd b S (r::rs) w g->Rd b S (r'::rs) w' g:=by
    rintro g (h1 | ⟨h1,h2,h3⟩)
    · exact .inl h1
    · refine .inr ⟨h1,abl h2 m.size,λq hq=>?_⟩
      grind
  refine⟨⟨m.os.trans H.ext.os,m.tape.trans H.ext.tape,m.output.trans H.ext.output,lI H.ext.size m.size,λk hk=>?_,lI H.ext.drawn m.drawn⟩,λq hq=>?_,λq hq g hg=>?_,nW.2 ⟨λq hq g hg hg2=>?_,hd.2⟩⟩
  · refine(m.block k (abl hk H.ext.size) λh=>?_).trans (H.ext.block k hk)
    have:=(H.lo r av k h).1; omega
  · rcases iR.1 hq with rfl | hq
    · exact q.sub hsub hok
    · refine q.sub hsub (q.keep (λg hg hlt=>m.block g hlt λh=>?_) (H.ok q (by simp [hq])))
      rcases hg with hg | hg
      · grind
      · rcases hg with hg | hg
        · have:=(H.lo r av g h).1; omega
        grind
  · rcases iR.1 hq with rfl | hq
    · rcases hW g hg with h1 | h1
      · have:=H.lo r av g h1; have:=m.size; omega
      · have:=H.ext.size; omega
    · have h1:=H.lo q (by simp [hq]) g hg; have:=m.size; omega
  · rcases hW g hg with h1 | h1
    · grind
    · have:=(H.lo q (by simp [hq]) g hg2).2; omega
theorem Hp.lift(H:Hp b S w F)(h:Hp w (Rd b S F w) w' rs):Hp b S w' (rs++F):=by
  have e:=h.ext
  have hs1:∀ g,Rd w (Rd b S F w) rs w' g->Rd b S (rs++F) w' g:=by
    rintro g (⟨h0,h1 | ⟨h1,h2,h3⟩⟩ | ⟨h1,h2,h3⟩)
    · exact .inl h1
    · refine .inr ⟨h1,abl h2 e.size,λq hq=>?_⟩
      rcases kX.1 hq with hq | hq
      · intro h4; have:=(h.lo q hq g h4).1; omega
      grind
    · refine .inr ⟨lI H.ext.size h1,h2,λq hq=>?_⟩
      rcases kX.1 hq with hq | hq
      · grind
      · intro h4; have:=(H.lo q hq g h4).2; omega
  have hs2:∀ g,Rd b S F w g->Rd b S (rs++F) w' g:=by
    rintro g (h1 | ⟨h1,h2,h3⟩)
    · exact .inl h1
    · refine .inr ⟨h1,abl h2 e.size,λq hq=>?_⟩
      rcases kX.1 hq with hq | hq
      · intro h4; have:=(h.lo q hq g h4).1; omega
      grind
  refine⟨H.ext.trans e,λq hq=>?_,λq hq g hg=>?_,zk.2 ⟨h.dis,H.dis,λq hq p hp g hg hg2=>?_⟩⟩
  · rcases kX.1 hq with hq | hq
    · exact q.sub hs1 (h.ok q hq)
    · exact q.sub hs2 (q.keep (λg _ hlt=>e.block g hlt) (H.ok q hq))
  · rcases kX.1 hq with hq | hq
    · have h1:=h.lo q hq g hg; have:=H.ext.size; omega
    · have h1:=H.lo q hq g hg; have:=e.size; omega
  · have h1:=(h.lo q hq g hg).1; have h2:=(H.lo p hp g hg2).2; omega
class zn (r:lG):Prop where
  h:∀ {S S':Nat->Prop} {w:World},r.ok S w->r.ok S' w
instance [Flat τ]:zn (aQ τ e A c xs):=⟨λ{S S' w} h=>by
  obtain⟨css,hl,hR,hown⟩:=h
  exact⟨css,hl,λi y hy=>by grind [Flat.h],hown⟩⟩
instance {g:Nat}{t:TypeId}{cs:List Value}:zn (dW g t cs):=⟨λh=>h⟩
class abo (rs:List lG):Prop where
  h:∀ r∈rs,zn r
instance:abo []:=⟨av⟩
instance [h1:zn r][h2:abo rs]:abo (r::rs):=⟨λq hq=>by
  rcases iR.1 hq with rfl | hq
  · exact h1
  · exact h2.h q hq⟩
theorem Hp.re[hf:abo rs](h:Hp b S w rs):Hp b S' w rs:=⟨h.ext,λr hr=>(hf.h r hr).h (h.ok r hr),h.lo,h.dis⟩
theorem Hp.c0(H:Hp b S w F){S':Nat->Prop}(h:Hp w S' w' []):Hp b S w' F:=H.grow h.ext
theorem Hp.c1(H:Hp b S w F)(h:Hp w (Rd b S F w) w' [r]):Hp b S w' (r::F):=H.lift h
theorem Hp.c2{r1 r2:lG}(H:Hp b S w F)(h:Hp w (Rd b S F w) w' [r1,r2]):Hp b S w' (r1::r2::F):=H.lift h
theorem Hp.c3{r1 r2 r3:lG}(H:Hp b S w F)(h:Hp w (Rd b S F w) w' [r1,r2,r3]):Hp b S w' (r1::r2::r3::F):=H.lift h
theorem Hp.f1[zn r](H:Hp b S w F)(h:Hp w S' w' [r]):Hp b S w' (r::F):=H.lift h.re
theorem Hp.f2{r1 r2:lG}[zn r1][zn r2](H:Hp b S w F)(h:Hp w S' w' [r1,r2]):Hp b S w' (r1::r2::F):=H.lift h.re
theorem Hp.f3{r1 r2 r3:lG}[zn r1][zn r2][zn r3](H:Hp b S w F)(h:Hp w S' w' [r1,r2,r3]):Hp b S w' (r1::r2::r3::F):=H.lift h.re
theorem Hp.a(H:Hp b S w rs)(h:Sl τ S b A c xs):Sl τ (Rd b S rs w) w A c xs:=
  (h.ext H.ext |>.keep (w':=w) av) |> λ_=>((h.bd.sub (S':=Rd b S rs w) (λg hg=>.inl (by grind))).ext H.ext)
theorem Hp.o(H:Hp b S w rs)(s:pq rs (aQ τ e A c xs) rest):Sl τ Any w A c xs:=
  Own.sl (H.ok (aQ τ e A c xs) (s.perm.mem_iff.2 av)) (λ_ _=>trivial) (λ_ _=>trivial)
theorem Hp.ow(H:Hp b S w rs)(s:pq rs (aQ τ e A c xs) rest):Own τ e b.heap.size (Rd b S rs w) w A c xs:=
  Own.lift (H.ok (aQ τ e A c xs) (s.perm.mem_iff.2 av)) (λg hg=>(H.lo (aQ τ e A c xs) (s.perm.mem_iff.2 av) g hg).1)
theorem Hp.s(H:Hp b S w rs)(s:pq rs (dH τ A c xs) rest):Sl τ (Rd b S rs w) w A c xs:=H.ok (dH τ A c xs) (s.perm.mem_iff.2 av)
theorem Hp.x{g:Nat}{t:TypeId}{cs:List Value}(H:Hp b S w rs)(s:pq rs (dW g t cs) rest):Bx w g t cs:=H.ok (dW g t cs) (s.perm.mem_iff.2 av)
theorem Hp.push(H:Hp b S w rs)(h:Sl τ (Rd b S rs w) w A c xs):Hp b S w (dH τ A c xs::rs):=H.new (pW w) (λ_ h=>h.elim) h
theorem Hp.nil(H:Hp b S w rs)(τ:Ty α)(e:TypeId):Hp b S w (aQ τ e none 0 []::rs):=
  H.new (pW w) (λ_ h=>by cases h) (Own.none_ τ e 0 _ w)
theorem Hp.fz(H:Hp b S w rs)(s:pq rs (aQ τ e A c xs) rest):Hp b S w (dH τ A c xs::rest):=by
  have H1:=H.sel s;have h2:Own τ e 0 (Rd b S (aQ τ e A c xs::rest) w) w A c xs:=H1.ok (aQ τ e A c xs) av;refine⟨H.ext,λq hq=>?_,λq hq g hg=>?_,nW.2 ⟨λq hq g hg=>hg.elim,(nW.1 H1.dis).2⟩⟩
  · rcases iR.1 hq with rfl | hq
    · show Sl τ (Rd b S (dH τ A c xs::rest) w) w A c xs
      have h3:Own τ e 0 (Rd b S (dH τ A c xs::rest) w) w A c xs:=h2.low (kJ _) (by
        rintro g (h | ⟨h4,h5,h6⟩)
        · exact .inl h
        · refine .inr ⟨h4,h5,λr hr=>?_⟩
          rcases iR.1 hr with rfl | hr
          · exact λh=>h
          grind)
      refine h3.slb (λg hg=>?_) av;have h8:=H1.lo (aQ τ e A c xs) av g hg;refine .inr ⟨h8.1,h8.2,λr hr=>?_⟩
      rcases iR.1 hr with rfl | hr
      · exact λh=>h
      · exact(nW.1 H1.dis).1 r hr g hg
    · refine q.sub ?_ (H1.ok q (by simp [hq]))
      rintro g (h | ⟨h4,h5,h6⟩)
      · exact .inl h
      · refine .inr ⟨h4,h5,λr hr=>?_⟩
        rcases iR.1 hr with rfl | hr
        · exact λh=>h
        grind
  · rcases iR.1 hq with rfl | hq
    · exact hg.elim
    · exact H1.lo q (by simp [hq]) g hg
end
class Tk {α:Type} (n:Nat) (l:List α) (xs r:outParam (List α)):Prop where
  h:l=xs++r
class Ap {α:Type} (xs ys:List α) (o:outParam (List α)):Prop where
  h:xs++ys=o
instance Tk.z{α:Type}{l:List α}:Tk 0 l [] l:=⟨rfl⟩
instance Tk.s{α:Type}{n:Nat}{a:α}{l xs r:List α}[h:Tk n l xs r]:Tk (n+1) (a::l) (a::xs) r:=⟨by rw [h.h]; rfl⟩
instance Ap.z{α:Type}{l:List α}:Ap [] l l:=⟨rfl⟩
instance Ap.s{α:Type}{a:α}{l x o:List α}[h:Ap x l o]:Ap (a::x) l (a::o):=⟨by rw [<- h.h]; rfl⟩
instance (priority:=10) Ap.d{α:Type}{xs ys:List α}:Ap xs ys (xs++ys):=⟨rfl⟩
instance Ap.a{α:Type}{x y l o q:List α}[h:Ap x y q][g:Ap q l o]:Ap (x++y) l o:=⟨by rw [<- g.h,<- h.h]⟩
instance Tk.a{α:Type}{n:Nat}{x y l xs r:List α}[h:Ap x y l][g:Tk (n+1) l xs r]:Tk (n+1) (x++y) xs r:=⟨by rw [h.h,g.h]⟩
theorem Hp.off{b:World}{R:List lG}:∀ {B:List lG},Hp b S w (B++R)->Hp b S w R
  | [],H=>H
  | _::B,H=>Hp.off (B:=B) H.tail
theorem Hp.mV{b:World}{l P l1 B R x o:List lG}(H:Hp b S w l)(n k:Nat)[h1:Tk n l P l1][h2:Tk k l1 B R][h3:Ap P R x][h4:Ap B x o]:Hp b S w o:=
  H.perm (by rw [h1.h,h2.h,<- h4.h,<- h3.h]; simp [List.perm_append_comm_assoc])
theorem Hp.cU{b:World}{l P l1 B R o:List lG}(H:Hp b S w l)(n k:Nat)[h1:Tk n l P l1][h2:Tk k l1 B R][h3:Ap P R o]:Hp b S w o:=
  Hp.off (B:=B) (H.perm (by rw [h1.h,h2.h,<- h3.h]; simp [List.perm_append_comm_assoc]))
theorem pq.mid{r:α}:∀(P R:List α),pq (P++r::R) r (P++R)
  | [],_=>.h
  | _::P,R=>.t (pq.mid P R)
theorem sx{l P R x:List α}{r:α}(n:Nat)[h:Tk n l P (r::R)][h2:Ap P R x]:pq l r x:=by
  rw [h.h,<- h2.h]; exact pq.mid P R
def look:List (Nat × Value)->Nat->Option Value
  | [],_=>none
  | p::l,i=>bif Nat.beq p.1 i then some p.2 else look l i
def gY(l:List (Nat × Value)):Operand->Option Value
  | .tmp t=>look l t
  | .const v=>some v
  | .global g=>some (.pointer (some ⟨g,0,none⟩))
  | .func f=>some (.func (.func f) #[] #[])
def Fp(l:List (Nat × Value)):List Operand->Option (List Value)
  | []=>some []
  | x::xs=>match gY l x,Fp l xs with
    | some v,some vs=>some (v::vs)
    | _,_=>none
def Pq(l:List (Nat × Value)):List (Nat × Operand)->Option (List (Nat × Value))
  | []=>some []
  | x::xs=>match gY l x.2,Pq l xs with
    | some v,some vs=>some ((x.1,v)::vs)
    | _,_=>none
structure Cx where
  size:Nat
  round:Option Nat
  marks:List Nat
  plain:Bool
def Cx.BP(n:Cx):Cx:=⟨n.size,n.round,n.marks,true⟩
def Cx.fence(n:Cx):Fence:={ Fence.wide with round:=n.round }
def Cx.defers(n:Cx):List Deferred:=n.marks.map λD=>{ target:=.collected D,args:=#[] }
abbrev Cx.bare(k:Nat):Cx:=⟨k,none,[],false⟩
theorem Cx.ahA{n:Cx}(h:n.round=none):n.fence=Fence.wide:=by unfold Cx.fence; rw [h]; rfl
def Wy:=@Cx.ahA
structure Has (n:Cx) (l:List (Nat × Value)) (a:Act):Prop where
  defers:a.defers=n.defers
  size:a.tmps.size=n.size
  get:∀ i v,look l i=some v->a.tmps.getD i undef=v
section
variable {n:Cx}{l l':List (Nat × Value)}{a:Act}
theorem Has.eval(h:Has n l a){x:Operand}(hx:gY l x=some v):a.eval x=v:=by
  cases x with
  | tmp t=>exact h.get t v hx
  | const c=>injection hx
  | global g=>injection hx
  | func f=>injection hx
theorem Has.Ut(h:Has n l a):∀ {xs:List Operand} {vs:List Value},Fp l xs=some vs->xs.map a.eval=vs
  | [],vs,hx=>by simp [Fp] at hx; simp [hx]
  | x::xs,vs,hx=>by
    unfold Fp at hx
    cases h1:gY l x with
    | none=>simp [h1] at hx
    | some v=>
      cases h2:Fp l xs with
      | none=>simp [h1,h2] at hx
      | some us=>
        simp [h1,h2] at hx
        subst hx
        simp [h.eval h1,Has.Ut h h2]
theorem Has.Pq(h:Has n l a):∀ {xs:List (Nat × Operand)} {vs:List (Nat × Value)},Proofs.YtlhnnmlenkahlaaGreat.Pq l xs=some vs->xs.map (λp=>(p.1,a.eval p.2))=vs
  | [],vs,hx=>by simp [Proofs.YtlhnnmlenkahlaaGreat.Pq] at hx; simp [hx]
  | x::xs,vs,hx=>by
    unfold Proofs.YtlhnnmlenkahlaaGreat.Pq at hx
    cases h1:gY l x.2 with
    | none=>simp [h1] at hx
    | some v=>
      cases h2:Proofs.YtlhnnmlenkahlaaGreat.Pq l xs with
      | none=>simp [h1,h2] at hx
      | some us=>
        simp [h1,h2] at hx
        subst hx
        simp [h.eval h1,Has.Pq h h2]
theorem Has.put(h:Has n l a){d:Nat}(hd:Nat.blt d n.size=true)(v:Value):Has n ((d,v)::l) (a.put (some d) v):=by
  have hd':d<n.size:=by simp_all
  have hs:=h.size;refine⟨h.defers,by simp [Act.put,hs],λi u hu=>?_⟩;unfold look at hu
  cases hb:Nat.beq d i with
  | true=>
    have:d=i:=Uo hb
    simp_all [Act.put]
  | false=>
    have hne:d≠i:=ajr hb
    simp [hb] at hu
    have:=h.get i u hu
    simp_all [Act.put]
def alu(l:List (Nat × Value)):List (Nat × Value)->Prop
  | []=>True
  | p::r=>look l p.1=some p.2/\alu l r
theorem alu.look:∀ {r:List (Nat × Value)},alu l r->∀ i v,look r i=some v->look l i=some v
  | [],_,i,v,h=>by simp [Proofs.YtlhnnmlenkahlaaGreat.look] at h
  | p::r,hs,i,v,h=>by
    unfold Proofs.YtlhnnmlenkahlaaGreat.look at h
    cases hb:Nat.beq p.1 i with
    | true=>
      have:p.1=i:=Uo hb
      simp [hb] at h
      subst this h;exact hs.1
    | false=>simp [hb] at h; exact alu.look hs.2 i v h
theorem Has.subs(h:Has n l a)(hs:alu l l'):Has n l' a:=⟨h.defers,h.size,λi v hv=>h.get i v (hs.look i v hv)⟩
theorem Has.set(h:Has n l a){t:Nat}{v':Value}(hl:look l t=some v)(e:v=v'):Has n ((t,v')::l) a:=by
  subst e;refine⟨h.defers,h.size,λi u hu=>?_⟩;unfold look at hu
  cases hb:Nat.beq t i with
  | true=>
    have:t=i:=Uo hb;subst this
    simp [hb] at hu
    subst hu;exact h.get t v hl
  | false=>simp [hb] at hu; exact h.get i u hu
def enum:Nat->List Value->List (Nat × Value)
  | _,[]=>[]
  | i,v::vs=>(i,v)::enum (i+1) vs
theorem MJ:∀(vs:List Value)(k i:Nat)(v:Value),look (enum k vs) i=some v->k<=i/\vs[i - k]? = some v
  | [],k,i,v,h=>by grind [enum,look]
  | u::vs,k,i,v,h=>by
    simp only [enum,look] at h
    cases hb:Nat.beq k i with
    | true=>
      simp_all
    | false=>
      have hne:k≠i:=ajr hb
      simp [hb] at h
      obtain⟨h1,h2⟩:=MJ vs (k+1) i v h
      grind
end
def WP(P:Program)(n:Cx)(c:Code)(l:List (Nat × Value))(w:World)(Q:Exit->Act->World->Prop):Prop:=∀ a,Has n l a->c.wpIn n.fence 0 P Q a w
def NU(P:Program)(n:Cx)(y:Code)(Q:Exit->Act->World->Prop):Act->World->Prop:=λa w=>y.wpIn n.fence 0 P Q a w
def l8(n:Cx)(Q:Exit->Act->World->Prop)(e:Exit)(l:List (Nat × Value))(w:World):Prop:=∀ a,Has n l a->Q e a w
def opw(P:Program)(n:Cx)(o:Oper)(a:Act)(w:World)(next:Act->World->Prop)(Q:Exit->Act->World->Prop):Prop:=
  match n.plain with
  | true=>o.wp P a w next Q
  | false=>o.wpIn n.fence 0 P a w next Q
theorem aeg{n:Cx}{o:Oper}{a:Act}{K':Act->World->Prop}(h:∀ a w,K a w->K' a w)(hh:opw P n o a w K Q):opw P n o a w K' Q:=by
  grind [opw,Oper.wp_mono,Oper.wpIn_mono]
theorem Wz{n:Cx}{o:Oper}{a:Act}{x:Next}(hx:∀ d,x≠.defer d)(h:(execOp a.eval o).run P w=.ok x w'):o.semAt n.fence.round a.eval=execOp a.eval o:=by
  refine Oper.semAt_eq _ _ _ λc hc=>?_;unfold execOp at h;rw [hc] at h
  simp only [jO] at h
  cases hr:(resolve a.eval c o.type).run P w with
  | ok d w2=>
    rw [hr] at h
    simp at h
    grind
  | halt x w2=>simp_all
theorem MK{n:Cx}{o:Oper}{a:Act}(h:(execOp a.eval o).run P w=.ok (.value v) w')(k:K (a.put o.dst v) w'):opw P n o a w K Q:=by
  unfold opw
  cases n.plain with
  | true=>show o.wp P a w K Q; unfold Oper.wp; rw [h]; exact k
  | false=>exact⟨λ_ _=>trivial,by rw [Wz av h,h]; exact k⟩
theorem aol{n:Cx}{o:Oper}{a:Act}(h:(execOp a.eval o).run P w=.ok .skip w')(k:K (a.put o.dst undef) w'):opw P n o a w K Q:=by
  unfold opw
  cases n.plain with
  | true=>show o.wp P a w K Q; unfold Oper.wp; rw [h]; exact k
  | false=>exact⟨λ_ _=>trivial,by rw [Wz av h,h]; exact k⟩
theorem WA{n:Cx}{R:Ending->World->Prop}(k:Nat)(h:Calls P f args w R):CallsIn n.fence k P f args w R:=
  (callsIn_wide).2 h
theorem Z7{n:Cx}{o:Oper}{a:Act}(h:(execOp a.eval o).run P w=.ok (.enter f args) w')
    (k:Calls P f args w' λe w''=>∃ v,e=.returned v/\K (a.put o.dst v) w''):opw P n o a w K Q:=by
  unfold opw
  cases n.plain with
  | true=>show o.wp P a w K Q; unfold Oper.wp; rw [h]; exact FB k (by grind)
  | false=>exact⟨λ_ _=>trivial,by rw [Wz av h,h]; exact⟨λhd=>(by cases hd),CallsIn.mono (WA _ k) (by grind)⟩⟩
def WB(P:Program)(n:Cx)(bY:Array Oper)(Q:Exit->Act->World->Prop)(K:Act->World->Prop):List Oper->Act->World->Prop
  | [],a,w=>K a w
  | o::rest,a,w=>if Region.wanted o (yielded bY a.tmps) then opw P n o a w (WB P n bY Q K rest) Q else WB P n bY Q K rest (a.put o.dst undef) w
theorem ajt{P:Program}{n:Cx}{bY:Array Oper}{Q:Exit->Act->World->Prop}(hp:n.plain=false):∀(os:List Oper)(k:Nat),(∀ i,bY[k+i]? = os[i]?)->∀ a w,WB P n bY Q (Q .normal) os a w->wpOpsIn n.fence 0 P bY Q (List.range' k os.length) a w
  | [],k,_,a,w,h=>h
  | o::os,k,hk,a,w,h=>by
    have h0:bY[k]? = some o:=by simpa using hk 0
    simp only [oV,List.range'_succ]
    unfold wpOpsIn;rw [h0]
    simp only []
    have ih:=ajt (P:=P) (Q:=Q) hp os (k+1) (λi=>by have:=hk (i+1); simpa [Nat.add_assoc,Nat.add_comm 1] using this);unfold WB at h
    split
    · rename_i hw
      rw [aS hw] at h
      grind [opw,Oper.wpIn_mono]
    · rename_i hw
      rw [aP hw] at h;exact⟨λ_ _=>trivial,ih _ _ h⟩
theorem WC{n:Cx}{a:Act}(hp:n.plain=false)(h:WB P n ol.toArray Q (Q .normal) ol a w):(Code.region id ol.toArray false).wpIn n.fence 0 P Q a w:=by
  grind [wpIn_region,ajt,List.range_eq_range']
def WL(P:Program)(n:Cx)(bY:Array Oper)(Q:Exit->Act->World->Prop)(K:Act->World->Prop)(os:List Oper)(l:List (Nat × Value))(w:World):Prop:=
  ∀ a,Has n l a->WB P n bY Q K os a w
def bO(P:Program)(f:FuncId)(args:Array Value)(w:World)(R:Value->World->Prop):Prop:=Calls P f args w λe w'=>∃ v,e=.returned v/\R v w'
theorem bO.mono{R R':Value->World->Prop}(h:bO P f args w R)(hr:∀ v w',R v w'->R' v w'):bO P f args w R':=
  FB h (by grind)
def RR(R:Value->World->Prop):Ending->World->Prop:=λe w'=>∃ v,e=.returned v/\R v w'
section
variable {P:Program}{n:Cx}{l l':List (Nat × Value)}{w w':World}{Q:Exit->Act->World->Prop}{K:Act->World->Prop}
theorem WP.enter{k:Nat}{c:Code}{vs:List Value}{R:Value->World->Prop}(hf:P.funcs[f]? = some fn)(hb:fn.body=some c)(hn:fn.ntmps=k)(hle:Nat.ble vs.length k=true)
    (h:WP P (.bare k) c (enum 0 vs) w (bodyPost P fn (RR R))):bO P f vs.toArray w R:=by
  refine calls_of_wp hf hb (Wt.1 (h _ ⟨Y,?_,λi v hv=>?_⟩))
  · simp_all
  · obtain⟨_,h2⟩:=MJ vs 0 i v hv
    have hi:i<vs.length:=(sN.1 h2).1
    simp_all [Ur,List.getElem?_eq_some_iff,Array.getElem?_append]
theorem WP.region(h:WL P n ol.toArray (Exit.then (NU P n y Q) Q) (NU P n y Q) ol l w)(hp:n.plain=false:=by rfl):WP P n (.seq (.region id ol.toArray false) y) l w Q:=
  λa ha=>Us (WC hp (h a ha))
def Dk:=@WP.region
theorem WP.ahC(h:WL P n ol.toArray Q (Q .normal) ol l w)(hp:n.plain=false:=by rfl):WP P n (.region id ol.toArray false) l w Q:=
  λa ha=>WC hp (h a ha)
theorem WL.done(h:WP P n y l w Q):WL P n bY Q' (NU P n y Q) [] l w:=λa ha=>h a ha
def Dl:=@WL.done
theorem WL.aom(h:l8 n Q .normal l w):WL P n bY Q' (Q .normal) [] l w:=λa ha=>h a ha
theorem WP.cond{c:Operand}{x z:Code}{b:Bool}(hc:gY l c=some (.bool b))(h1:b=true->WP P n x l w (Exit.then (NU P n z Q) Q))(h2:b=false->WP P n y l w (Exit.then (NU P n z Q) Q)) :
    WP P n (.seq (.cond c x y) z) l w Q:=λa ha=>Us (wpIn_cond_split (ha.eval hc) (λe=>h1 e a ha) (λe=>h2 e a ha))
theorem WP.aon{c:Operand}{x:Code}{b:Bool}(hc:gY l c=some (.bool b))(h1:b=true->WP P n x l w Q)(h2:b=false->WP P n y l w Q) :
    WP P n (.cond c x y) l w Q:=λa ha=>wpIn_cond_split (ha.eval hc) (λe=>h1 e a ha) (λe=>h2 e a ha)
def bP:=@WP.aon
theorem WP.seq{x:Code}(h:WP P n x l w (Exit.then (NU P n y Q) Q)):WP P n (.seq x y) l w Q:=λa ha=>Us (h a ha)
def aY:=@WP.seq
theorem WP.skip(h:l8 n Q .normal l w):WP P n .skip l w Q:=λa ha=>wpIn_skip (h a ha)
def zo:=@WP.skip
theorem WP.ret(h:l8 n Q .ret l w):WP P n .ret l w Q:=λa ha=>wpIn_ret (h a ha)
def jf:=@WP.ret
theorem WP.exit(h:l8 n Q (.exit id) l w):WP P n (.exit id) l w Q:=λa ha=>wpIn_exit (h a ha)
def sP:=@WP.exit
theorem WP.block{c:Code}(h:WP P n c l w (Exit.inBlock id Q)):WP P n (.block id c) l w Q:=λa ha=>wpIn_block (h a ha)
def cB:=@WP.block
def Again(n:Cx)(J:Nat->List (Nat × Value)->World->Prop)(m:Nat)(a:Act)(w:World):Prop:=∃ m' l,m'<m/\Has n l a/\J m' l w
theorem WP.loop{c:Code}(J:Nat->List (Nat × Value)->World->Prop)(m0:Nat)(l0:List (Nat × Value))(hs:∀ a,Has n l a->Has n l0 a)(h0:J m0 l0 w)
    (hr:∀ m l w',J m l w'->WP P n c l w' (Exit.then (Again n J m) Q)):WP P n (.loop c) l w Q:=λa ha=>by
  refine wpIn_loop_ghost (λm a w=>∃ l,Has n l a/\J m l w) m0 (by grind) ?_;rintro m a w ⟨l,h1,h2⟩;refine wpIn_mono (hr m l w h2 a h1) ?_;intro e a' w' hq
  cases e with
  | normal=>obtain⟨m',l',h3,h4,h5⟩:=hq; exact⟨m',h3,l',h4,h5⟩
  | _=>exact hq
theorem l8.norm(h:WP P n y l w Q):l8 n (Exit.then (NU P n y Q) Q) .normal l w:=λa ha=>h a ha
def gy:=@l8.norm
theorem l8.alv(h:l8 n Q (.exit i) l w):l8 n (Exit.then K Q) (.exit i) l w:=λa ha=>h a ha
def mY:=@l8.alv
theorem l8.aoo(h:l8 n Q .ret l w):l8 n (Exit.then K Q) .ret l w:=λa ha=>h a ha
def fO:=@l8.aoo
theorem l8.Z8(h:l8 n Q (.goto i) l w):l8 n (Exit.then K Q) (.goto i) l w:=λa ha=>h a ha
theorem l8.atZ(h:l8 n Q .ret l w):l8 n (Exit.inBlock id Q) .ret l w:=λa ha=>h a ha
def iX:=@l8.atZ
theorem l8.aop(h:l8 n Q .normal l w):l8 n (Exit.inBlock id Q) .normal l w:=λa ha=>h a ha
def iw:=@l8.aop
theorem l8.ax9(h:l8 n Q .normal l w):l8 n (Exit.inBlock id Q) (.exit id) l w:=λa ha=>by
  show(if id=id then _ else _); rw [aS rfl]; exact h a ha
def um:=@l8.ax9
theorem l8.aya(hne:Nat.beq i id=false)(h:l8 n Q (.exit i) l w):l8 n (Exit.inBlock id Q) (.exit i) l w:=λa ha=>by
  show(if i=id then _ else _); rw [aP (ajr hne)]; exact h a ha
def NV:=@l8.aya
def WE(l:List (Nat × Value)):List ResultVar->Option (List Value)
  | []=>some []
  | .tmp t::rs=>match look l t,WE l rs with
    | some v,some vs=>some (v::vs)
    | _,_=>none
  | .cell _ _::_=>none
def uF:List Value->Value
  | [v]=>v
  | vs=>.tuple vs.toArray
theorem aeh(f:ResultVar->Sem Value)(a:Act)(hf:∀ t,f (.tmp t)=pure (a.tmps.getD t undef))(ha:Has n l a):∀(rs:List ResultVar)(vs:List Value),WE l rs=some vs->(rs.mapM f).run P w=.ok vs w
  | [],vs,h=>by simp [WE] at h; subst h; rfl
  | .tmp t::rs,vs,h=>by
    unfold WE at h
    cases h1:look l t with
    | none=>simp [h1] at h
    | some v=>
      cases h2:WE l rs with
      | none=>simp [h1,h2] at h
      | some us=>
        simp [h1,h2] at h
        subst h;have:=aeh f a hf ha rs us h2;have hg:=ha.get t v h1
        simp only [List.mapM_cons,jO,lK,jP,hf,hg,this]
  | .cell _ _::_,vs,h=>by simp [WE] at h
theorem l8.aoq{R:Value->World->Prop}{rs:List ResultVar}{vs:List Value}(hr:fn.results=rs.toArray)(hv:WE l rs=some vs)(hw:uF vs=v)(hR:R v w)(hm:n.marks=[]:=by rfl):l8 n (bodyPost P fn (RR R)) .ret l w:=by
  intro a ha;refine⟨ha.defers.trans (by unfold Cx.defers; rw [hm]; rfl),v,?_,v,rfl,hR⟩;unfold results;rw [hr,jO,List.mapM_toArray,Sem.run_map,aeh _ a (λ_=>rfl) ha rs vs hv]
  simp only [jP,lK]
  subst hw
  match vs with
  | []=>simp [uF]
  | [v]=>simp [uF]
  | u::v::vs=>simp [uF]
def Uu:=@l8.aoq
theorem l8.alx{R:Value->World->Prop}(h:l8 n (bodyPost P fn (RR R)) .ret l w):l8 n (bodyPost P fn (RR R)) .normal l w:=h
def qc:=@l8.alx
end
end
section
variable {a j d c m i k g bytes lo lb hi b:Nat}{v u:Value}{o:Oper}{R:Value->World->Prop}{op:Op}{ty t e t':TypeId}{pos:String}{mO:Array Edge}{bS:Bool}{ol:List Oper}{y KA x:Operand}{Qa:Act->Prop}{args:List Operand}{tys ts:Array TypeId}{f:FuncId}{caps vs cs:List Value}{A B:ah}{k':IntKind}{parts:List (Nat × Operand)}{α:Type}{S S2:Nat->Prop}{w:World}{p:α->Bool}{enc:α->List Value}{xs ys s:List α}{τ:Ty α}{xss:List (List α)}{key:α->Int}{hl:∀ x,(enc x).length=k}{h1:∀ x,∀ u∈enc x,u.oneCell'=true}
def Ev(P:Program)(n:Cx)(l:List (Nat × Value))(w:World)(op:Op)(v:Value):Prop:=
  ∀(o:Oper)(a:Act)(w':World),o.op=op->Has n l a->Ext w w'->(execOp a.eval o).run P w'=.ok (.value v) w'
def guardOf(bY:Array Oper)(l:List (Nat × Value))(j:Nat):Option Value:=((bY[j]?).bind (·.dst)).bind (look l)
def unlike(bS:Bool):Value->Bool
  | .bool b=>b != bS
  | _=>true
section
variable {P:Program}{n:Cx}{l l':List (Nat × Value)}{w w':World}{Q:Exit->Act->World->Prop}{K:Act->World->Prop}{bY:Array Oper}{os:List Oper}
theorem Ei{a:Act}(ha:Has n l a)(h:guardOf bY l j=some v):yielded bY a.tmps j=match v with | .bool b=>some b | _=>none:=by
  unfold guardOf at h;unfold yielded
  cases hd:(bY[j]?).bind (·.dst) with
  | none=>grind
  | some t=>
    simp only [hd,Option.bind_some] at h ⊢
    have hg:=ha.get t v h
    simp only [JN] at hg
    cases ht:a.tmps[t]? with
    | none=>
      rw [ht] at hg
      simp at hg
      subst hg
      rfl
    | some u=>
      rw [ht] at hg
      simp at hg
      subst hg
      cases u <;> rfl
theorem WL.val(hw:∀ a,Has n l a->Region.wanted o (yielded bY a.tmps)=true)(hdst:o.dst=some d)(hd:Nat.blt d n.size=true){R:World->Prop}
    (hrun:∀ a,Has n l a->∃ w',(execOp a.eval o).run P w=.ok (.value v) w'/\R w') (k:∀ w',R w'->WL P n bY Q K os ((d,v)::l) w'):WL P n bY Q K (o::os) l w:=by
  intro a ha;obtain⟨w',hr,hR⟩:=hrun a ha;unfold WB;rw [aS (hw a ha)];refine MK hr ?_;rw [hdst];exact k w' hR _ (ha.put hd v)
def Ej:=@WL.val
theorem WL.unit(hw:∀ a,Has n l a->Region.wanted o (yielded bY a.tmps)=true)(hdst:o.dst=none){R:World->Prop}
    (hrun:∀ a,Has n l a->∃ w',(execOp a.eval o).run P w=.ok .skip w'/\R w') (k:∀ w',R w'->WL P n bY Q K os l w'):WL P n bY Q K (o::os) l w:=by
  intro a ha;obtain⟨w',hr,hR⟩:=hrun a ha;unfold WB;rw [aS (hw a ha)];refine aol hr ?_;rw [hdst];exact k w' hR a ha
def Pv:=@WL.unit
theorem fZ{d:Option Nat}(a:Act):Region.wanted ⟨d,op,ty,pos,mO,none⟩ (yielded bY a.tmps)=true:=rfl
theorem uo{d:Option Nat}(hg:guardOf bY l j=some (.bool bS))(a:Act)(ha:Has n l a) :
    Region.wanted ⟨d,op,ty,pos,mO,some (j,bS)⟩ (yielded bY a.tmps)=true:=by
  show(yielded bY a.tmps j == some bS)=true;rw [Ei ha hg]
  simp
theorem WL.ev(h:Ev P n l w op v)(hd:Nat.blt d n.size=true)(k:WL P n bY Q K os ((d,v)::l) w) :
    WL P n bY Q K (⟨some d,op,ty,pos,mO,none⟩::os) l w:=
  Ej (by simp [fZ]) rfl hd (λa ha=>⟨w,h _ a w rfl ha (pW w),rfl⟩) (by grind)
def jQ:=@WL.ev
theorem WL.evg(hg:guardOf bY l j=some (.bool bS))(h:Ev P n l w op v)(hd:Nat.blt d n.size=true)(k:WL P n bY Q K os ((d,v)::l) w) :
    WL P n bY Q K (⟨some d,op,ty,pos,mO,some (j,bS)⟩::os) l w:=
  Ej (by grind [uo]) rfl hd (λa ha=>⟨w,h _ a w rfl ha (pW w),rfl⟩) (by grind)
def bE:=@WL.evg
theorem WL.pass(hg:guardOf bY l j=some v)(hv:unlike bS v=true)(hd:Nat.blt d n.size=true)(k:WL P n bY Q K os ((d,undef)::l) w) :
    WL P n bY Q K (⟨some d,op,ty,pos,mO,some (j,bS)⟩::os) l w:=by
  intro a ha;unfold WB
  have:Region.wanted ⟨some d,op,ty,pos,mO,some (j,bS)⟩ (yielded bY a.tmps)=false:=by
    show(yielded bY a.tmps j == some bS)=false;rw [Ei ha hg]
    cases v <;> simp [unlike] at hv ⊢
    all_goals grind
  rw [this];exact k _ (ha.put hd undef)
theorem WL.cut(m:Nat)(l1:List (Nat × Value))(h:WL P n bY Q (λa' w'=>Has n l1 a'/\w'=w) (os.take m) l w)(k:WL P n bY Q K (os.drop m) l1 w):WL P n bY Q K os l w:=by
  intro a ha
  have key:∀(ys:List Oper)(a:Act)(w0:World),WB P n bY Q (λa' w'=>Has n l1 a'/\w'=w) ys a w0->WB P n bY Q K (ys++os.drop m) a w0:=by
    intro ys
    induction ys with
    | nil=>rintro a w0 ⟨h1,rfl⟩; exact k a h1
    | cons o ys ih=>
      intro a w0 hh
      simp only [Z4]
      unfold WB at hh ⊢
      grind [aeg]
  have:=key (os.take m) a w (h a ha)
  rwa [FC] at this
theorem WL.aHu(m:Nat)(l1:List (Nat × Value))(h:WL P n bY Q (λa' w'=>Has n l1 a'/\Ext w w') (os.take m) l w)(k:∀ w',Ext w w'->WL P n bY Q K (os.drop m) l1 w'):WL P n bY Q K os l w:=by
  intro a ha
  have key:∀(ys:List Oper)(a:Act)(w0:World),WB P n bY Q (λa' w'=>Has n l1 a'/\Ext w w') ys a w0->WB P n bY Q K (ys++os.drop m) a w0:=by
    intro ys
    induction ys with
    | nil=>rintro a w0 ⟨h1,h2⟩; exact k w0 h2 a h1
    | cons o ys ih=>
      intro a w0 hh
      simp only [Z4]
      unfold WB at hh ⊢
      grind [aeg]
  have:=key (os.take m) a w (h a ha)
  simp_all
theorem WL.re{t:Nat}(hl:look l t=some u)(e:u=v)(k:WL P n bY Q K os ((t,v)::l) w):WL P n bY Q K os l w:=
  λa ha=>k a (ha.set hl e)
def gJ:=@WL.re
theorem WP.re{t:Nat}{c:Code}(hl:look l t=some u)(e:u=v)(k:WP P n c ((t,v)::l) w Q):WP P n c l w Q:=
  λa ha=>k a (ha.set hl e)
def lF:=@WP.re
def WQ(P:Program)(n:Cx)(bY:Array Oper)(w:World)(Qa:Act->Prop)(os:List Oper)(l:List (Nat × Value)):Prop:=∀ a,Has n l a->wpQuiet P bY (λw'=>Ext w w') Qa os a
theorem WP.draw{id:Nat}{y:Code}(hm:P.follows .mixedOrders=true)(hB:Region.lexB .any ol.toArray=true)
    (h:WQ P n ol.toArray w (λa=>∀ w',Ext w w'->NU P n y Q a w') ol l) (hro:n.round=none:=by rfl):WP P n (.seq (.region id ol.toArray true) y) l w Q:=λa ha=>by
  refine Us ?_;rw [Wy hro];refine Wt.2 (wp_region_quiet (C:=λw'=>Ext w w') hm hB ⟨Y,Y,Y,kJ _,av,abk _⟩ ?_);have:=h a ha;unfold NU at this;rw [Wy hro] at this;exact this
def qU:=@WP.draw
theorem WQ.done{y:Code}(h:∀ w',Ext w w'->WP P n y l w' Q):WQ P n bY w (λa=>∀ w',Ext w w'->NU P n y Q a w') [] l:=λa ha w' e=>h w' e a ha
def qV:=@WQ.done
theorem WQ.ev(h:Ev P n l w op v)(hd:Nat.blt d n.size=true)(k:WQ P n bY w Qa os ((d,v)::l)) :
    WQ P n bY w Qa (⟨some d,op,ty,pos,mO,none⟩::os) l:=by
  intro a ha;unfold wpQuiet;rw [aS (fZ a)];refine⟨v,λw' e=>?_,k _ (ha.put hd v)⟩;unfold Oper.quietAt;rw [h _ a w' rfl ha e];exact⟨Y,Y⟩
def bB:=@WQ.ev
theorem WQ.evg(hg:guardOf bY l j=some (.bool bS))(h:Ev P n l w op v)(hd:Nat.blt d n.size=true)(k:WQ P n bY w Qa os ((d,v)::l)) :
    WQ P n bY w Qa (⟨some d,op,ty,pos,mO,some (j,bS)⟩::os) l:=by
  intro a ha;unfold wpQuiet;rw [aS (uo hg a ha)];refine⟨v,λw' e=>?_,k _ (ha.put hd v)⟩;unfold Oper.quietAt;rw [h _ a w' rfl ha e];exact⟨Y,Y⟩
def dX:=@WQ.evg
theorem WQ.pass(hg:guardOf bY l j=some v)(hv:unlike bS v=true)(hd:Nat.blt d n.size=true)(k:WQ P n bY w Qa os ((d,undef)::l)) :
    WQ P n bY w Qa (⟨some d,op,ty,pos,mO,some (j,bS)⟩::os) l:=by
  intro a ha;unfold wpQuiet
  have:Region.wanted ⟨some d,op,ty,pos,mO,some (j,bS)⟩ (yielded bY a.tmps)=false:=by
    show(yielded bY a.tmps j == some bS)=false;rw [Ei ha hg]
    cases v <;> simp [unlike] at hv ⊢
    all_goals grind
  rw [this];exact k _ (ha.put hd undef)
def dI:=@WQ.pass
theorem WQ.re{t:Nat}(hl:look l t=some u)(e:u=v)(k:WQ P n bY w Qa os ((t,v)::l)):WQ P n bY w Qa os l:=
  λa ha=>k a (ha.set hl e)
def Dm:=@WQ.re
theorem WQ.cut(m:Nat)(l1:List (Nat × Value))(h:WQ P n bY w (λa'=>Has n l1 a') (os.take m) l)(k:WQ P n bY w Qa (os.drop m) l1):WQ P n bY w Qa os l:=by
  intro a ha
  have key:∀(ys:List Oper)(a:Act),wpQuiet P bY (λw'=>Ext w w') (λa'=>Has n l1 a') ys a->wpQuiet P bY (λw'=>Ext w w') Qa (ys++os.drop m) a:=by
    intro ys
    induction ys with
    | nil=>intro a h1; exact k a h1
    | cons o ys ih=>
      intro a hh
      simp only [Z4]
      unfold wpQuiet at hh ⊢
      grind [Oper.quiet_mono]
  have:=key (os.take m) a (h a ha)
  simp_all
end
def bJ(P:Program)(f:FuncId):Prop:=∀(args:Array Value)(w:World),(callFunc f args).run P w=.ok (.enter f args) w
section
variable {P:Program}{n:Cx}{l l':List (Nat × Value)}{w w':World}{Q:Exit->Act->World->Prop}{K:Act->World->Prop}{bY:Array Oper}{os:List Oper}
theorem D6{a:Act}(ho:o.op=.call ⟨.value KA,args.toArray,tys⟩)(ha:Has n l a){all:List Value}
    (hf:gY l KA=some (.func (.func f) #[] caps.toArray)) (hargs:Fp l args=some vs) (hall:vs++caps=all) (hc:bJ P f) (w:World):(execOp a.eval o).run P w=.ok (.enter f all.toArray) w:=by
  unfold execOp;rw [ho];have h1:=ha.eval hf;have h2:=ha.Ut hargs
  simp only [resolve,h1,Deferred.ofValue,jO,lK,jP,invoke]
  have:(#[]++Array.map a.eval args.toArray++caps.toArray:Array Value)=all.toArray:=by grind
  rw [this];exact hc _ w
theorem WG{a:Act}{args:Array Value}(hw:Region.wanted o (yielded bY a.tmps)=true)(hrun:(execOp a.eval o).run P w=.ok (.enter f args) w)(hc:bO P f args w R)
    (k:∀ v w',R v w'->WB P n bY Q K os (a.put o.dst v) w'):WB P n bY Q K (o::os) a w:=by
  unfold WB;rw [aS hw];refine Z7 hrun (FB hc ?_)
  grind
theorem WL.call{all:List Value}
    (hf:gY l KA=some (.func (.func f) #[] caps.toArray)) (hargs:Fp l args=some vs) (hall:vs++caps=all) (J8:bJ P f) (hc:bO P f all.toArray w R) (hd:Nat.blt d n.size=true)
    (k:∀ v w',R v w'->WL P n bY Q K os ((d,v)::l) w'):WL P n bY Q K (⟨some d,.call ⟨.value KA,args.toArray,tys⟩,ty,pos,mO,none⟩::os) l w:=
  λa ha=>WG (fZ a) (by grind [D6]) hc λv w' hv=>k v w' hv _ (ha.put hd v)
def zq:=@WL.call
theorem WL.aei{all:List Value}
    (hg:guardOf bY l j=some (.bool bS))
    (hf:gY l KA=some (.func (.func f) #[] caps.toArray)) (hargs:Fp l args=some vs) (hall:vs++caps=all) (J8:bJ P f) (hc:bO P f all.toArray w R) (hd:Nat.blt d n.size=true)
    (k:∀ v w',R v w'->WL P n bY Q K os ((d,v)::l) w'):WL P n bY Q K (⟨some d,.call ⟨.value KA,args.toArray,tys⟩,ty,pos,mO,some (j,bS)⟩::os) l w:=
  λa ha=>WG (uo hg a ha) (by grind [D6]) hc λv w' hv=>k v w' hv _ (ha.put hd v)
def oD:=@WL.aei
theorem WQ.call{all:List Value}
    (hf:gY l KA=some (.func (.func f) #[] caps.toArray)) (hargs:Fp l args=some vs) (hall:vs++caps=all) (J8:bJ P f)
    (hc:∀ w',Ext w w'->bO P f all.toArray w' λu w''=>u=v/\Ext w' w'') (hd:Nat.blt d n.size=true)
    (k:WQ P n bY w Qa os ((d,v)::l)):WQ P n bY w Qa (⟨some d,.call ⟨.value KA,args.toArray,tys⟩,ty,pos,mO,none⟩::os) l:=by
  intro a ha;unfold wpQuiet;rw [aS (fZ a)];refine⟨v,λw' e=>?_,k _ (ha.put hd v)⟩;unfold Oper.quietAt;rw [D6 rfl ha hf hargs hall J8 w'];exact⟨Y,FB (hc w' e) λx w'' ⟨u,hx,hu,he⟩=>by subst hu; exact⟨hx,e.trans he⟩⟩
def KE:=@WQ.call
theorem WQ.aei{all:List Value}
    (hg:guardOf bY l j=some (.bool bS))
    (hf:gY l KA=some (.func (.func f) #[] caps.toArray)) (hargs:Fp l args=some vs) (hall:vs++caps=all) (J8:bJ P f)
    (hc:∀ w',Ext w w'->bO P f all.toArray w' λu w''=>u=v/\Ext w' w'') (hd:Nat.blt d n.size=true)
    (k:WQ P n bY w Qa os ((d,v)::l)):WQ P n bY w Qa (⟨some d,.call ⟨.value KA,args.toArray,tys⟩,ty,pos,mO,some (j,bS)⟩::os) l:=by
  intro a ha;unfold wpQuiet;rw [aS (uo hg a ha)];refine⟨v,λw' e=>?_,k _ (ha.put hd v)⟩;unfold Oper.quietAt;rw [D6 rfl ha hf hargs hall J8 w'];exact⟨Y,FB (hc w' e) λx w'' ⟨u,hx,hu,he⟩=>by subst hu; exact⟨hx,e.trans he⟩⟩
def Px:=@WQ.aei
end
def Size(P:Program)(t:TypeId)(k:Nat):Prop:=∀ w,(sizeOf t).run P w=.ok k w
def mg(P:Program)(t:TypeId):Prop:=∀ w,(isAgg t).run P w=.ok false w
def Z9(P:Program)(t:TypeId)(k:Nat):Prop:=(∀ w,(isAgg t).run P w=.ok true w)/\Size P t k
def dL(P:Program)(s f off:Nat):Prop:=∀(a:Addr)(w:World),(Instr.fieldAt s (.pointer (some a)) f).run P w=.ok (.pointer (some (a.add off))) w
section
variable {P:Program}{n:Cx}{l:List (Nat × Value)}{w:World}
theorem Dz(hu:P.underlying t=some (.slice e)):P.elem t=e:=by simp [Program.elem,hu]
theorem rD(hu:P.underlying t=some (.slice e)):P.underlying t=some (.slice (P.elem t)):=by grind [Dz]
theorem Ev.move(hx:gY l x=some v):Ev P n l w (.move x) v:=λo a w' ho ha _=>by
  unfold execOp; rw [ho]; simp [ha.eval hx]
def bq:=@Ev.move
theorem Ev.assign(hx:gY l x=some v):Ev P n l w (.assign x) v:=λo a w' ho ha _=>by
  unfold execOp; rw [ho]; simp [ha.eval hx]
def pz:=@Ev.assign
theorem Ev.ayb{c:Operand}(hc:gY l c=some (.bool true))(hx:gY l x=some v):Ev P n l w (.pick c x y) v:=λo a w' ho ha _=>by
  unfold execOp; rw [ho]; simp [ha.eval hx,ha.eval hc,asBool]
def dM:=@Ev.ayb
theorem Ev.ayc{c:Operand}(hc:gY l c=some (.bool false))(hx:gY l y=some v):Ev P n l w (.pick c x y) v:=λo a w' ho ha _=>by
  unfold execOp; rw [ho]; simp [ha.eval hx,ha.eval hc,asBool]
def dS:=@Ev.ayc
theorem Ev.binop{op:BinOp}{r:Value}(hx:gY l x=some u)(hy:gY l y=some v)(hg:eqGuard op t x y u v=pure ())(hr:∀ w,(binOp op t u v).run P w=.ok r w) :
    Ev P n l w (.binOp op t x y ty) r:=λo a w' ho ha _=>by
  unfold execOp; rw [ho]; simp [ha.eval hx,ha.eval hy,hg,hr]
def qW:=@Ev.binop
section
variable {t ty:TypeId}{x y:Operand}{k:IntKind}{a b:Int}
theorem Ev.lss(hx:gY l x=some (.int k a))(hy:gY l y=some (.int k b)):Ev P n l w (.binOp .lss t x y ty) (.bool (decide (a<b))):=
  qW hx hy (Cb ..) (by simp [binOp_lss])
def fD:=@Ev.lss
theorem Ev.leq(hx:gY l x=some (.int k a))(hy:gY l y=some (.int k b)):Ev P n l w (.binOp .leq t x y ty) (.bool (decide (a<=b))):=
  qW hx hy (Cb ..) (by simp [binOp_leq])
def u7:=@Ev.leq
theorem Ev.gtr(hx:gY l x=some (.int k a))(hy:gY l y=some (.int k b)):Ev P n l w (.binOp .gtr t x y ty) (.bool (decide (b<a))):=
  qW hx hy (Cb ..) (by simp [binOp_gtr])
def sQ:=@Ev.gtr
theorem Ev.geq(hx:gY l x=some (.int k a))(hy:gY l y=some (.int k b)):Ev P n l w (.binOp .geq t x y ty) (.bool (decide (b<=a))):=
  qW hx hy (Cb ..) (by simp [binOp_geq])
def qD:=@Ev.geq
theorem Ev.eql(hx:gY l x=some (.int k a))(hy:gY l y=some (.int k b)):Ev P n l w (.binOp .eql t x y ty) (.bool (decide (a=b))):=
  qW hx hy (Cb ..) λw=>by rw [binOp_eql]; rfl
def iM:=@Ev.eql
theorem Ev.neq(hx:gY l x=some (.int k a))(hy:gY l y=some (.int k b)):Ev P n l w (.binOp .neq t x y ty) (.bool (!decide (a=b))):=
  qW hx hy (Cb ..) λw=>by rw [binOp_neq]; rfl
def rY:=@Ev.neq
theorem Ev.aHv(hx:gY l x=some (.int k a))(hy:gY l y=some (.int k b)):Ev P n l w (.binOp .add t x y ty) (.int k (k.wrap (a+b))):=
  qW hx hy (Cb ..) λw=>by rw [binOp_add]; rfl
theorem Ev.aHw(hx:gY l x=some (.int k a))(hy:gY l y=some (.int k b)):Ev P n l w (.binOp .sub t x y ty) (.int k (k.wrap (a - b))):=
  qW hx hy (Cb ..) λw=>by rw [binOp_sub]; rfl
theorem Ev.aHx(hx:gY l x=some (.int k a))(hy:gY l y=some (.int k b)):Ev P n l w (.binOp .mul t x y ty) (.int k (k.wrap (a*b))):=
  qW hx hy (Cb ..) λw=>by rw [binOp_mul]; rfl
end
def I64(x:Int):Prop:=-9223372036854775808<=x/\x<=9223372036854775807
theorem I64.mk{x:Int}(h1:-9223372036854775808<=x)(h2:x<=9223372036854775807):I64 x:=⟨h1,h2⟩
def zP:=@I64.mk
theorem I64.wrap{x:Int}(h:I64 x):IntKind.i64.wrap x=x:=IntWalk.i64_in x h
section
variable {t ty:TypeId}{x y:Operand}{a b:Int}
theorem Ev.add(hx:gY l x=some (.int .i64 a))(hy:gY l y=some (.int .i64 b))(h:I64 (a+b)):Ev P n l w (.binOp .add t x y ty) (.int .i64 (a+b)):=by
  have:=Ev.aHv (P:=P) (n:=n) (w:=w) (t:=t) (ty:=ty) hx hy; rwa [h.wrap] at this
theorem Ev.sub(hx:gY l x=some (.int .i64 a))(hy:gY l y=some (.int .i64 b))(h:I64 (a - b)):Ev P n l w (.binOp .sub t x y ty) (.int .i64 (a - b)):=by
  have:=Ev.aHw (P:=P) (n:=n) (w:=w) (t:=t) (ty:=ty) hx hy; rwa [h.wrap] at this
theorem Ev.mul(hx:gY l x=some (.int .i64 a))(hy:gY l y=some (.int .i64 b))(h:I64 (a*b)):Ev P n l w (.binOp .mul t x y ty) (.int .i64 (a*b)):=by
  have:=Ev.aHx (P:=P) (n:=n) (w:=w) (t:=t) (ty:=ty) hx hy; rwa [h.wrap] at this
theorem Ev.neb{p q:Bool}(hu:P.underlying t=some .bool)(hx:gY l x=some (.bool p))(hy:gY l y=some (.bool q)):Ev P n l w (.binOp .neq t x y ty) (.bool (!(p == q))):=
  qW hx hy (eqGuard_at_bool ..) (by grind [run_neq_bool])
theorem Ev.aBR{m' c':Nat}(hu:P.underlying t=some (.slice e))(hx:gY l x=some (.slice A m c))(hy:gY l y=some (.slice none m' c')):Ev P n l w (.binOp .eql t x y ty) (.bool A.isNone):=
  qW hx hy (eqGuard_at_slice ..) (by grind [Lib.run_eql_slice_nil])
def NW:=@Ev.aBR
theorem Ev.not{b:Bool}(hx:gY l x=some (.bool b)):Ev P n l w (.unOp .not t x) (.bool (!b)):=λo a w' ho ha _=>by
  unfold execOp; rw [ho]; simp [ha.eval hx]; rfl
def iG:=@Ev.not
theorem Ev.extract(hx:gY l x=some (.tuple vs.toArray))(hi:vs[i]? = some v):Ev P n l w (.extract x i) v:=λo a w' ho ha _=>by
  unfold execOp; rw [ho]; simp [ha.eval hx,Instr.extract,hi]
def xP:=@Ev.extract
theorem Ev.func{caps:List Operand}(hx:Fp l caps=some vs):Ev P n l w (.makeFunc (.func f) #[] caps.toArray) (.func (.func f) #[] vs.toArray):=λo a w' ho ha _=>by
  have h2:=ha.Ut hx;unfold execOp; rw [ho]
  simp only [wh,h2]
  rfl
def rE:=@Ev.func
theorem Ev.len(hu:P.underlying t=some (.slice e))(hx:gY l x=some (.slice A m c)):Ev P n l w (.call ⟨.builtin .len,#[x],#[t]⟩) (.int .i64 (m:Int)):=λo a w' ho ha _=>by
  unfold execOp; rw [ho]
  simp only [resolve,jO,lK,jP,invoke,builtin,wh,mR,xk,ha.eval hx,run_len_slice w' t o.type A m c (rD hu)]
  rfl
def eX:=@Ev.len
theorem Ev.cap(hu:P.underlying t=some (.slice e))(hx:gY l x=some (.slice A m c)):Ev P n l w (.call ⟨.builtin .cap,#[x],#[t]⟩) (.int .i64 (c:Int)):=λo a w' ho ha _=>by
  unfold execOp; rw [ho]
  simp only [resolve,jO,lK,jP,invoke,builtin,wh,mR,xk,ha.eval hx,run_cap_slice w' t o.type A m c (rD hu)]
  rfl
theorem Ev.index{kd:IntKind}{z:Int}(hu:P.underlying t=some (.slice e))(hs:Size P e k)(hx:gY l x=some (.slice A m c))(hy:gY l y=some (.int kd z))(hz:z=(i:Int))(hi:i<m)(hA:A=some (Ih A)) :
    Ev P n l w (.indexAddr t x y) (.pointer (some ((Ih A).add (i*k)))):=λo a w' ho ha _=>by
  unfold execOp; rw [ho]
  have h1:(Instr.indexAt t (.slice A m c) (.int kd z)).run P w'=.ok (.pointer (some ((Ih A).add (i*k)))) w':=by
    rw [hA,run_indexAt_slice w' t _ m c kd z (rD hu),hz,aS (by grind),Dz hu,hs w']
    simp [Ih]
  simp [ha.eval hx,ha.eval hy,h1]
def eP:=@Ev.index
theorem Ev.field{s f off:Nat}{p q:Addr}(hf:dL P s f off)(hx:gY l x=some (.pointer (some p)))(hq:p.add off=q):Ev P n l w (.fieldAddr s x f) (.pointer (some q)):=λo a w' ho ha _=>by
  unfold execOp; rw [ho]; simp [ha.eval hx,hf p w',hq]
def fQ:=@Ev.field
theorem Ev.aor{p:Addr}(hn:mg P t)(hx:gY l x=some (.pointer (some p)))(hc:w.cell? p=some v):Ev P n l w (.load t x) v:=λo a w' ho ha e=>by
  unfold execOp; rw [ho]
  simp [ha.eval hx,Instr.loadAt,Instr.sureAddr,loadVar,hn w',run_load,e.cell hc]
def kP:=@Ev.aor
theorem Ev.loadRow{p:Addr}(hn:Z9 P t k)(hx:gY l x=some (.pointer (some p)))(hk:cs.length=k)(hc:∀ j u,cs[j]? = some u->w.cell? (p.add j)=some u):Ev P n l w (.load t x) (.agg cs.toArray):=λo a w' ho ha e=>by
  unfold execOp; rw [ho];have h1:=ajs (P:=P) w' p cs (λj u hu=>e.cell (hc j u hu));rw [hk] at h1
  simp [ha.eval hx,Instr.loadAt,Instr.sureAddr,loadVar,hn.1 w',hn.2 w',h1]
def iU:=@Ev.loadRow
theorem Ev.at6(hn:Z9 P t k)(hx:gY l x=some (.pointer (some ⟨g,0,none⟩)))(hk:cs.length=k)(hb:Bx w g t' cs):Ev P n l w (.load t x) (.agg cs.toArray):=
  iU hn hx hk λj u hu=>by
    have:(⟨g,0,none⟩:Addr).add j=⟨g,j,none⟩:=by simp [Pn]
    rw [this,hb.cell]; exact hu
def fK:=@Ev.at6
theorem Ev.aej{off:Nat}{cs':List Value}(hn:Z9 P t k)(hx:gY l x=some (.pointer (some ⟨g,off,none⟩)))(hk:cs'.length=k)(hb:Bx w g t' cs)(hs:(cs.drop off).take cs'.length=cs'):Ev P n l w (.load t x) (.agg cs'.toArray):=
  iU hn hx hk λj u hu=>by
    have h1:(⟨g,off,none⟩:Addr).add j=⟨g,off+j,none⟩:=by rw [Pn]
    have h2:j<cs'.length:=(sN.1 hu).1;rw [h1,hb.cell]
    grind
def KF:=@Ev.aej
theorem Ev.aek(hn:mg P t)(hx:gY l x=some (.pointer (some ⟨g,i,none⟩)))(hb:Bx w g t' cs)(hi:cs[i]? = some v):Ev P n l w (.load t x) v:=
  kP hn hx (by rw [hb.cell]; exact hi)
def eF:=@Ev.aek
theorem Ev.at7{d:TypeId}{k:IntKind}(hs:(P.underlying t).isSome=true)(hd:P.underlying d=some (.int (P.intKind d)))(hk:P.intKind d=k')(hx:gY l x=some (.int k a)):Ev P n l w (.convert t d x) (.int k' (k'.wrap a)):=λo ac w' ho ha _=>by
  unfold execOp; rw [ho];have:=run_convert_int w' t d k a hs hd;rw [hk] at this
  simp [ha.eval hx,this]
def Py:=@Ev.at7
theorem Ev.max2{k:IntKind}(hx:gY l x=some (.int k a))(hy:gY l y=some (.int k' b)):Ev P n l w (.call ⟨.builtin .max,#[x,y],ts⟩) (.int k (if b>a then b else a)):=λo ac w' ho ha _=>by
  unfold execOp; rw [ho]
  simp only [resolve,jO,lK,jP,invoke,builtin,wh,mR,xk,ha.eval hx,ha.eval hy,run_max_int2]
theorem Ev.min2{k:IntKind}(hx:gY l x=some (.int k a))(hy:gY l y=some (.int k' b)):Ev P n l w (.call ⟨.builtin .min,#[x,y],ts⟩) (.int k (if b<a then b else a)):=λo ac w' ho ha _=>by
  unfold execOp; rw [ho]
  simp only [resolve,jO,lK,jP,invoke,builtin,wh,mR,xk,ha.eval hx,ha.eval hy,run_min_int2]
theorem Ev.build{vs:List (Nat × Value)}(hx:Pq l parts=some vs)(hb:P.built t vs=some cs.toArray):Ev P n l w (.build t parts.toArray) (.agg cs.toArray):=λo a w' ho ha _=>by
  unfold execOp; rw [ho];have h1:=run_build w' t vs.toArray cs.toArray (by simpa using hb)
  simp only [wh,ha.Pq hx,jO,h1,jP,lK]
def jX:=@Ev.build
end
end
theorem Sl.fJ{pos:0<k}
    (h:Sl (Ty.flat k enc pos hl h1) S w A c xs) {x:α} (hx:xs[i]? = some x) (hj:(enc x)[j]? = some u):w.cell? ((Ih A).add (i*k+j))=some u:=by
  obtain⟨_,cs,h2,h3⟩:=h.rows i x hx;have:cs=enc x:=h2;subst this;exact h3 j u hj
theorem Sl.fF{pos:0<k}
    (h:Sl (Ty.flat k enc pos hl h1) S w A c xs) {x:α} (hx:xs[i]? = some x):∀ j u,(enc x)[j]? = some u->w.cell? (((Ih A).add (i*k)).add j)=some u:=λj u hj=>by
  rw [fV]; exact h.fJ hx hj
section
variable {P:Program}{n:Cx}{l:List (Nat × Value)}{w:World}{Q:Exit->Act->World->Prop}{K:Act->World->Prop}{bY:Array Oper}{os:List Oper}{ty:TypeId}{pos:String}{mO:Array Edge}{d:Nat}
theorem WL.box(hx:gY l x=some v)(hcs:v.cells=cs.toArray)(hd:Nat.blt d n.size=true)
    (k:∀ w',Ext w w'->Bx w' w.heap.size t cs->w'.heap.size=w.heap.size+1->WL P n bY Q K os ((d,gI w.heap.size)::l) w'):WL P n bY Q K (⟨some d,.box t x,ty,pos,mO,none⟩::os) l w:=
  Ej (by simp [fZ]) rfl hd (λa ha=>⟨_,by
    unfold execOp
    simp only [ha.eval hx,Instr.box,newVar,newRow,hcs,jO,run_newObj,lK,jP]
    rfl,rfl⟩) (by simp_all [Ext.alloc,Bx.new])
theorem WL.alloc{z:Value}(hz:∀ w,(zeroValue t).run P w=.ok z w)(hcs:z.cells=cs.toArray)(hd:Nat.blt d n.size=true)
    (k:∀ w',Ext w w'->Bx w' w.heap.size t cs->w'.heap.size=w.heap.size+1->WL P n bY Q K os ((d,gI w.heap.size)::l) w'):WL P n bY Q K (⟨some d,.alloc t,ty,pos,mO,none⟩::os) l w:=
  Ej (λa _=>fZ a) rfl hd (λa ha=>⟨_,by
    unfold execOp
    simp only [Instr.alloc,hz,newVar,newRow,hcs,jO,run_newObj,lK,jP]
    rfl,rfl⟩) λw' e=>by
    subst e;exact k _ (Ext.alloc w _) (Bx.new w t cs) av
theorem WL.buildSlice{vs:List (Nat × Value)}(hx:Pq l parts=some vs)
    (hb:∀ w,(Instr.buildSlice t m vs.toArray).run P w=.ok (.slice (some ⟨w.heap.size,0,none⟩) m m) (w.alloc (.cells cs.toArray e))) (hd:Nat.blt d n.size=true) (hk:cs.length=m*k)
    (kk:∀ w',Ext w w'->Bx w' w.heap.size e cs->w'.heap.size=w.heap.size+1->WL P n bY Q K os ((d,.slice (some ⟨w.heap.size,0,none⟩) m m)::l) w'):WL P n bY Q K (⟨some d,.buildSlice t m parts.toArray,ty,pos,mO,none⟩::os) l w:=
  Ej (v:=.slice (some ⟨w.heap.size,0,none⟩) m m) (by simp [fZ]) rfl hd (R:=λw'=>w'=w.alloc (.cells cs.toArray e)) (λa ha=>⟨_,by
    unfold execOp
    simp only [wh,ha.Pq hx,jO,hb,jP,lK],rfl⟩) (by simp_all [Ext.alloc,Bx.new])
theorem abp{ds:List Value}(hs:Size P t ds.length)(hb:Bx w g t' cs)(hl:cs.length=ds.length)(h1:∀ u∈ds,u.oneCell'=true)(hv:v.cells=ds.toArray) :
    ∃ w',(Instr.storeAt t (gI g) v).run P w=.ok () w'/\Mod g w w'/\Bx w' g t' ds/\w'.heap.size=w.heap.size:=by
  have hst:=Z5 P g 0 t' ds 0 cs.toArray w hb (by simp [hl]) h1;refine⟨w.setRow g ds.toArray,?_,⟨Y,Y,Y,av,by grind [setRow_other],kJ _⟩,KD w g cs.toArray ds.toArray t' (0,0) hb,av⟩
  · simp only [Instr.storeAt,Instr.sureAddr,storeVar,hv,jO,lK,jP,hs w]
    grind
theorem WL.aos{ds:List Value}(hx:gY l x=some (gI g))(hy:gY l y=some v)(hv:v.cells=ds.toArray)(hs:Size P t ds.length)(hb:Bx w g t' cs)(hl:cs.length=ds.length)(h1:∀ u∈ds,u.oneCell'=true)
    (k:∀ w',Mod g w w'->Bx w' g t' ds->w'.heap.size=w.heap.size->WL P n bY Q K os l w'):WL P n bY Q K (⟨none,.store t x y,ty,pos,mO,none⟩::os) l w:=
  Pv (by simp [fZ]) rfl (λa ha=>by
    obtain⟨w',h2,h3⟩:=abp hs hb hl h1 hv
    exact⟨w',by unfold execOp; simp [ha.eval hx,ha.eval hy,h2],h3⟩) (by grind)
theorem Zt(hs:Size P t 1)(hb:Bx w g t' cs)(hi:i<cs.length)(h1:v.oneCell'=true) :
    (Instr.storeAt t (.pointer (some ⟨g,i,none⟩)) v).run P w=.ok () (w.setCell ⟨g,i,none⟩ v):=by
  have hc:v.cells=#[v]:=by cases v <;> simp [Value.cells,Value.oneCell'] at h1 ⊢
  have h2:w.cell? ⟨g,i,none⟩=some (cs[i]'hi):=by rw [hb.cell]; exact Ij hi
  simp only [Instr.storeAt,Instr.sureAddr,storeVar,hc,jO,lK,jP,hs w]
  simp [storeCells,Addr.add,run_store P w ⟨g,i,none⟩ v .plain h1,h2,hb.frozen]
theorem WL.aly(hx:gY l x=some (.pointer (some ⟨g,i,none⟩)))(hy:gY l y=some v)(h1:v.oneCell'=true)(hs:Size P t 1)(hb:Bx w g t' cs)(hi:i<cs.length)
    (k:∀ w',Mod g w w'->Bx w' g t' (cs.set i v)->w'.heap.size=w.heap.size->WL P n bY Q K os l w'):WL P n bY Q K (⟨none,.store t x y,ty,pos,mO,none⟩::os) l w:=
  Pv (by simp [fZ]) rfl (R:=λw'=>w'=w.setCell ⟨g,i,none⟩ v) (λa ha=>⟨_,by
    unfold execOp; simp [ha.eval hx,ha.eval hy,Zt hs hb hi h1],rfl⟩) λw' e=>by
    subst e;exact k _ (Mod.setCell w ⟨g,i,none⟩ v) (hb.aHs i v) av
structure lY (P:Program) (e:TypeId) (k bytes:Nat):Prop where
  ex:∃(i:TypeInfo)(z:Value),P.info? e=some i/\i.zero=some z/\i.size=k/\i.bytes=bytes/\z.cells.size=k
theorem ahD{c2:Nat}(hT:P.underlying t=some (.slice e))(hI:lY P e τ.k bytes)
    (ho:Own τ e lo S w A c xs) (hy:Sl τ S2 w B c2 ys) (aju:∀ w x cs,τ.R S2 w x cs->τ.R S w x cs) (hS:∀ g,blk A=some g->¬ S g) (hmax:xs.length+ys.length<=maxLen) (hby:(xs.length+ys.length)*bytes<=140737488355328) (hlo:lo<=w.heap.size) (r:TypeId) :
    ∃ A' c' w',(Builtin.append_ #[t,t] r #[.slice A xs.length c,.slice B ys.length c2]).run P w=.ok (.slice A' (xs++ys).length c') w'/\Own τ e lo S w' A' c' (xs++ys)/\ND w w' (blk A)/\(blk A'=blk A∨blk A'=some w.heap.size):=by
  obtain⟨i,z,hi,hz,hsz,hb,hzs⟩:=hI.ex;have hblk:∀ m c,(Value.slice A m c).ownBlock=blk A:=by intro m c; cases A <;> rfl
  by_cases hys:ys=[]
  · subst hys
    obtain⟨css,hl,hR,hown⟩:=ho;refine⟨A,c,w,?_,?_,⟨Y,Y,Y,kJ _,av,kJ _⟩,.inl rfl⟩
    · rcases hown.2 with ⟨hv,hn⟩ | ⟨g,cap,cur,hv,_,_,hnc,_⟩
      · injection hv with hA hn' hc
        subst hA hc
        cases B <;> simp [Builtin.append_,kV hT,sizeOf,typeInfo,hi,Builtin.lenOf,hn,Builtin.firstCells,loadCells,loadCellsFrom]
      · injection hv with hA hn' hc
        subst hA hc
        cases B <;> simp [Builtin.append_,kV hT,sizeOf,typeInfo,hi,Builtin.lenOf,hnc,Builtin.firstCells,loadCells,loadCellsFrom,storeCells]
    · rw [zM]
      exact⟨css,hl,hR,hown⟩
  · have hB:B=some (Ih B):=hy.some_ (i:=0) (x:=ys.head hys) (by grind)
    obtain⟨css,hl,hR,hown⟩:=ho;obtain⟨dss,h1,h2,h3,h4,h5⟩:=hy.cells;obtain⟨v',w',hrun,hown',hg,_,hat⟩:=run_append_own_at w lo t r e i z τ.k bytes hT hi hz hsz hb hzs τ.pos _ _ _ hown (Ih B) ys.length c2 dss.flatten h3 h5 h4 hmax hby hlo
    obtain⟨A',c',hv⟩:∃ A' c',v'=.slice A' (xs++ys).length c':=by
      rcases hown'.2 with ⟨hv,hn⟩ | ⟨g,cap,cur,hv,_⟩
      all_goals grind
    subst hv;have hA':(Value.slice A' (xs++ys).length c').ownBlock=blk A':=by cases A' <;> rfl
    rw [hA',hblk] at hat;rw [hblk] at hg;have hg:=ND.of hg (als _ _ _ _ hrun)
    have hkeep:∀ x cs,τ.R S w x cs->τ.R S w' x cs:=by
      intro x cs hx
      cases hA:blk A with
      | none=>rw [hA] at hg; exact τ.ext (by grind [Ext.xO]) hx
      | some g=>rw [hA] at hg; exact τ.mod (by grind [Mod.xO]) (hS g hA) hx
    refine⟨A',c',w',by rw [hB]; exact hrun,⟨css++dss,by simp [hl,h1],?_,?_⟩,hg,hat⟩
    all_goals grind
theorem WL.append{c2:Nat}{s:Operand}(hs:gY l s=some (.slice A xs.length c))(hx:gY l x=some (.slice B ys.length c2))
    (ho:Own τ e lo S w A c xs) (hy:Sl τ S2 w B c2 ys) (hT:P.underlying t=some (.slice e)) (hI:lY P e τ.k bytes) (aju:∀ w x cs,τ.R S2 w x cs->τ.R S w x cs) (hS:∀ g,blk A=some g->¬ S g)
    (hmax:xs.length+ys.length<=maxLen) (hby:(xs.length+ys.length)*bytes<=140737488355328) (hlo:lo<=w.heap.size) (hd:Nat.blt d n.size=true)
    (k:∀ A' c' w',Own τ e lo S w' A' c' (xs++ys)->ND w w' (blk A)->(blk A'=blk A∨blk A'=some w.heap.size)->WL P n bY Q K os ((d,.slice A' (xs++ys).length c')::l) w') :
    WL P n bY Q K (⟨some d,.call ⟨.builtin .append,#[s,x],#[t,t]⟩,ty,pos,mO,none⟩::os) l w:=by
  obtain⟨A',c',w',hrun,h1,h2,h3⟩:=ahD hT hI ho hy aju hS hmax hby hlo ty
  refine Ej (v:=.slice A' (xs++ys).length c') (by simp [fZ]) rfl hd (λa ha=>⟨w',?_,rfl⟩) (by grind);unfold execOp
  simp only [resolve,jO,lK,jP,invoke,builtin,wh,mR,xk,ha.eval hs,ha.eval hx,hrun]
theorem WL.app{c2:Nat}{s:Operand}(hs:gY l s=some (.slice A xs.length c))(hx:gY l x=some (.slice B ys.length c2))
    (ho:Own τ e lo S w A c xs) (hy:Sl τ S2 w B c2 ys) (hT:P.underlying t=some (.slice e)) (hI:lY P e τ.k bytes) (aju:∀ w x cs,τ.R S2 w x cs->τ.R S w x cs) (hS:∀ g,blk A=some g->¬ S g)
    (hm1:xs.length<=1000000) (hm2:ys.length<=1000000) (hby:Nat.ble bytes 1000=true) (hlo:lo<=w.heap.size) (hd:Nat.blt d n.size=true)
    (k:∀ A' c' w',Own τ e lo S w' A' c' (xs++ys)->ND w w' (blk A)->(blk A'=blk A∨blk A'=some w.heap.size)->WL P n bY Q K os ((d,.slice A' (xs++ys).length c')::l) w') :
    WL P n bY Q K (⟨some d,.call ⟨.builtin .append,#[s,x],#[t,t]⟩,ty,pos,mO,none⟩::os) l w:=
  WL.append hs hx ho hy hT hI aju hS (by simp only [maxLen]; omega) (lI (Oh (show _<=2000000 by omega) (nX hby)) au) hlo hd k
end
def No:Nat->Prop:=λ_=>False
theorem Own.fr{a:World}(h:Own τ e lo No w A c xs)(hlo:a.heap.size<=lo):Sl τ (Fr a) w A c xs:=
  h.sl (λ_ hb=>lI hlo hb) (λ_ hb=>hb.elim)
theorem Bx.ahE{x:α}(h:Bx w g e cs)(hR:τ.R S2 w x cs)(hg:S g)(hS:∀ b,S2 b->S b):Sl τ S w (some ⟨g,0,none⟩) 1 [x]:=by
  refine⟨av,au,av,λi y hy=>?_⟩
  cases i with
  | succ i=>grind
  | zero=>
    simp at hy
    subst hy;refine⟨hg,cs,τ.sub hS hR,λj u hu=>?_⟩;have:(Ih (some ⟨g,0,none⟩)).add (0*τ.k+j)=⟨g,j,none⟩:=by simp [Ih,Pn]
    rw [this,h.cell];exact hu
theorem Bx.alz(h:Bx w g e [])(hlo:lo<=g):Own τ e lo S w (some ⟨g,0,none⟩) 0 []:=
  ⟨[],rfl,λi x hx=>by simp at hx,av,.inr ⟨g,0,#[],rfl,hlo,h,kJ _,by simp [maxLen],av,av⟩⟩
theorem Bx.aua{x:α}(h:Bx w g e cs)(hR:τ.R S w x cs)(hlo:lo<=g):Own τ e lo S w (some ⟨g,0,none⟩) 1 [x]:=by
  have hl:=τ.len hR;refine⟨[cs],Y,λi y hy=>?_,by simp [hl],.inr ⟨g,1,cs.toArray,rfl,hlo,h,kJ _,au,by simp [hl],by simp [<- hl]⟩⟩
  grind
def Apart(A B:ah):Prop:=∀ g,blk A=some g->blk B≠some g
theorem Own.grown{w':World}(h:Own τ e lo S w A c xs)(hg:ND w w' (blk B))(ap:Apart A B)(hS:∀ g,blk B=some g->¬ S g):Own τ e lo S w' A c xs:=by
  cases hB:blk B with
  | none=>rw [hB] at hg; exact h.ext (by grind [Ext.xO])
  | some g=>
    rw [hB] at hg;exact h.mod (by grind [Mod.xO]) (hS g hB) (λhA=>ap g hA hB)
def Only(K:Act->World->Prop):Exit->Act->World->Prop
  | .normal,a,w=>K a w
  | _,_,_=>False
def WH(P:Program)(n:Cx)(bY:Array Oper)(K:Act->World->Prop)(S:World->Prop)(fuel:Nat)(aW:Array Bool)(l:List (Nat × Value))(w:World):Prop:=
  ∀ a,Has n l a->wpAnyH P .any bY (Only K) S fuel aW a w
def HK(P:Program)(bY:Array Oper)(K:Act->World->Prop)(S:World->Prop)(fuel:Nat)(aW:Array Bool):Act->World->Prop:=
  λa w=>S w/\wpAnyH P .any bY (Only K) S fuel aW a w
def JK(n:Cx)(J:List (Nat × Value)->World->Prop):Act->World->Prop:=λa w=>∃ l,Has n l a/\J l w
section
variable {P:Program}{n:Cx}{l l':List (Nat × Value)}{w w':World}{Q:Exit->Act->World->Prop}{K:Act->World->Prop}{bY:Array Oper}{S:World->Prop}{fuel:Nat}{aW:Array Bool}
theorem WP.held{id:Nat}{y:Code}(S:World->Prop)(J:List (Nat × Value)->World->Prop)(hm:P.follows .mixedOrders=true)
    (h:WH P n ol.toArray (JK n J) S ol.length (List.replicate ol.length false).toArray l w.drew) (k:∀ l' w',J l' w'->WP P n y l' w' Q) (hro:n.round=none:=by rfl):WP P n (.seq (.region id ol.toArray true) y) l w Q:=λa ha=>by
  refine Us ?_;have e:n.fence=Fence.wide:=Wy hro
  suffices hx:(Code.region id ol.toArray true).wp P (Exit.then (NU P n y Q) Q) a w by
    show(Code.region id ol.toArray true).wpIn n.fence 0 P (Exit.then (NU P n y Q) Q) a w
    grind [wpIn_wide]
  refine wp_mono (wp_region_held (Q:=Only (JK n J)) (S:=S) hm ?_) ?_
  · have:=h a ha
    simp_all
  · intro e a' w' hq
    cases e with
    | normal=>obtain⟨l',h1,h2⟩:=hq; exact k l' w' h2 a' h1
    | _=>exact hq.elim
theorem WP.aot{id:Nat}(S:World->Prop)(J:List (Nat × Value)->World->Prop)(hm:P.follows .mixedOrders=true)
    (h:WH P n ol.toArray (JK n J) S ol.length (List.replicate ol.length false).toArray l w.drew) (k:∀ l' w',J l' w'->l8 n Q .normal l' w') (hro:n.round=none:=by rfl):WP P n (.region id ol.toArray true) l w Q:=λa ha=>by
  rw [Wy hro];refine Wt.2<|wp_mono (wp_region_held (Q:=Only (JK n J)) (S:=S) hm ?_) ?_
  · have:=h a ha
    simp_all
  · intro e a' w' hq
    cases e with
    | normal=>obtain⟨l',h1,h2⟩:=hq; exact k l' w' h2 a' h1
    | _=>exact hq.elim
theorem WH.done{J:List (Nat × Value)->World->Prop}(l':List (Nat × Value))(hr:Region.ready .any bY aW=[])(hs:alu l l')(hJ:J l' w):WH P n bY (JK n J) S fuel aW l w:=
  λ_ ha=>wpAnyH_done hr ⟨l',ha.subs hs,hJ⟩ fuel
theorem WH.all{rs:List Nat}(hr:Region.ready .any bY aW=rs)(hne:rs≠[])
    (h:∀ i∈rs,∃ o,bY[i]? = some o/\WL P n.BP bY (Only K) (HK P bY K S fuel (aW.setIfInBounds i true)) [o] l w):WH P n bY K S (fuel+1) aW l w:=λa ha=>
  wpAnyH_all hr hne λi hi=>by
    obtain⟨o,ho,hk⟩:=h i hi;have h1:=hk a ⟨ha.defers,ha.size,ha.get⟩;unfold WB at h1;unfold wpOp;rw [ho];show(if Region.wanted o (yielded bY a.tmps) then _ else _)
    split
    · rename_i hw
      rw [aS hw] at h1;exact .inl h1
    · rename_i hw
      rw [aP hw] at h1;exact h1
def yT:=@WH.all
theorem WH.next(hS:S w)(h:WH P n bY K S fuel aW l w):WL P n.BP bY (Only K) (HK P bY K S fuel aW) [] l w:=λa ha=>⟨hS,h a ⟨ha.defers,ha.size,ha.get⟩⟩
def aO:=@WH.next
end
section
variable {P:Program}{n:Cx}{l:List (Nat × Value)}{w:World}{Q:Exit->Act->World->Prop}{K:Act->World->Prop}{bY:Array Oper}{os:List Oper}{ty:TypeId}{pos:String}{mO:Array Edge}{d:Nat}
theorem RX(τ:Ty α){ti:TypeId}(hT:P.underlying t=some (.slice e))(hi:P.underlying ti=some (.int .i64))(hI:lY P e τ.k bytes)(m:Nat)(h0:0<m)(hm:m<=1000000)(hby:Nat.ble bytes 1000=true)(r:TypeId) :
    ∃ g c w',(Builtin.append_ #[t,ti] r #[.slice none 0 0,aI (m:Int)]).run P w=.ok (.slice (some ⟨g,0,none⟩) m c) w'/\Ext w w'/\Own τ e w.heap.size No w' (some ⟨g,0,none⟩) c []:=by
  obtain⟨i,z,h1,h2,h3,h4,h5⟩:=hI.ex
  have hb:bytes<=1000:=nX hby
  have hw:IntKind.i64.wrap (m:Int)=(m:Int):=(zP aj aj).wrap;have hmb:m*bytes<=1000000*1000:=Oh hm hb;have aMZ:(m:Int)*(bytes:Int)<=1000000000:=by grind
  have hnx:Builtin.nextslicecap m 0=m:=nextslicecap_zero h0;have hz1:z.cells.size=τ.k:=h5;refine⟨w.heap.size,grownCap w m 0 e,(w.drew).alloc (.cells ((#[]:Array Value)++Builtin.zeroCells z.cells m++Builtin.zeroCells z.cells (grownCap w m 0 e - m)) e),?_,?_,?_⟩
  · have hcond:¬ (m:Int)*(bytes:Int)>2 ^ 48:=aj
    have ayd:¬ m*bytes>2 ^ 48:=aj;have hf:(Question.appendCap m 0 e).forced=false:=rfl
    have hne:¬ m*τ.k=0:=by
      have:=τ.pos;intro h
      grind [Nat.mul_eq_zero]
    have hmx:¬ (IntKind.i64.max<(m:Int)):=by
      have e2:IntKind.i64.max=9223372036854775807:=au;omega
    simp [Builtin.append_,kV hT,kV hi,sizeOf,typeInfo,h1,h2,h3,h4,asInt,asIntOf,hw,zeroValue,Builtin.firstCells,newRow,hne,hf,hnx,ayd,hmx]
    grind [bytes,grownCap]
  · exact⟨Y,Y,Y,av,λk hk=>Below.heap_alloc w.drew _ k hk,abk _⟩
  · have hge:=grownCap_ge w m 0 e
    have hle:=grownCap_le_maxLen w m 0 e (by simp only [maxLen]; omega);refine⟨[],Y,av,av,.inr ⟨w.heap.size,_,_,rfl,kJ _,heap_alloc_new w.drew _,fE _,hle,?_,av⟩⟩
    simp only [Array.size_append,Wu,uE,Ik,size_zeroCells,hz1,<- Bl]
    grind
theorem WL.ael(τ:Ty α){ti:TypeId}{s:Operand}(hs:gY l s=some (.slice none 0 0))(hx:gY l x=some (aI (m:Int)))(hT:P.underlying t=some (.slice e))(hi:P.underlying ti=some (.int .i64))(hI:lY P e τ.k bytes)(h0:0<m)(hm:m<=1000000)(hby:Nat.ble bytes 1000=true)(hd:Nat.blt d n.size=true)
    (k:∀ g c w',Ext w w'->Own τ e w.heap.size No w' (some ⟨g,0,none⟩) c []->WL P n bY Q K os ((d,.slice (some ⟨g,0,none⟩) m c)::l) w') :
    WL P n bY Q K (⟨some d,.call ⟨.builtin .append,#[s,x],#[t,ti]⟩,ty,pos,mO,none⟩::os) l w:=by
  obtain⟨g,c,w',hrun,h1,h2⟩:=RX (w:=w) τ hT hi hI m h0 hm hby ty
  refine Ej (v:=.slice (some ⟨g,0,none⟩) m c) (by simp [fZ]) rfl hd (R:=λw2=>w2=w') (λa ha=>⟨w',?_,rfl⟩) (by grind);unfold execOp
  simp only [resolve,jO,lK,jP,invoke,builtin,wh,mR,xk,ha.eval hs,ha.eval hx,hrun]
end
def aye(n:Cx)(J:Nat->List (Nat × Value)->World->Prop)(a:Act)(w:World):Prop:=∃ m l,Has n l a/\J m l w
section
variable {P:Program}{n:Cx}{l:List (Nat × Value)}{w:World}{Q:Exit->Act->World->Prop}
theorem alA{c:Code}{a:Act}{R R':Act->World->Prop}(h:c.wpIn n.fence 0 P (Exit.jump lb R Q) a w)(hr:∀ a w,R a w->R' a w):c.wpIn n.fence 0 P (Exit.jump lb R' Q) a w:=by
  refine wpIn_mono h ?_;intro e a' w' hq
  cases e with
  | goto l'=>exact⟨hq.1,hr _ _ hq.2⟩
  | _=>exact hq
theorem WP.jumps{c rest:Code}(J:Nat->List (Nat × Value)->World->Prop)(hf:findLabel c lb=some (.seq .skip rest))
    (pass:∀ m l w,J m l w->WP P n rest l w (Exit.jump lb (Again n J m) Q))
    (first:(∀ m l w,J m l w->WP P n (.seq (.label lb) rest) l w (Exit.jump lb (aye n J) Q))->WP P n c l w (Exit.jump lb (aye n J) Q)) (hro:n.round=none:=by rfl):WP P n (.scope c) l w Q:=by
  intro a ha;have e:n.fence=Fence.wide:=Wy hro;rw [e];refine Wt.2<|wp_scope_jumps lb (aye n J) (λa w=>leastOf λm=>∃ l,Has n l a/\J m l w) hf ?_ ?_
  · have h1:=first ?_ a ha
    · grind [wpIn_wide]
    · intro m l w hJ a ha
      refine Us (wpIn_label ?_);exact alA (pass m l w hJ a ha) λa w ⟨m',l',_,h1,h2⟩=>⟨m',l',h1,h2⟩
  · intro a w hJ
    obtain⟨⟨l,h1,h2⟩,_⟩:=leastOf_spec hJ;refine wp_seq (wp_skip ?_);have h6:=pass _ l w h2 a h1;rw [e] at h6;refine wp_mono (Wt.1 h6) ?_;intro e' a' w' hq
    cases e' with
    | goto l'=>
      refine⟨hq.1,?_⟩;obtain⟨m',l',hlt,h3,h4⟩:=hq.2;exact⟨⟨m',l',h3,h4⟩,Nat.lt_of_le_of_lt ((leastOf_spec ⟨m',l',h3,h4⟩).2 m' ⟨l',h3,h4⟩) hlt⟩
    | _=>exact hq
theorem l8.WJ{R:Act->World->Prop}(h:l8 n Q .ret l w):l8 n (Exit.jump lb R Q) .ret l w:=λa ha=>h a ha
theorem l8.aac{R:Act->World->Prop}(h:l8 n Q .normal l w):l8 n (Exit.jump lb R Q) .normal l w:=λa ha=>h a ha
theorem WP.goto(h:l8 n Q (.goto i) l w):WP P n (.goto i) l w Q:=λa ha=>wpIn_goto (h a ha)
end
def Ty.list{α:Type}(τ:Ty α):Ty (List α) where
  k:=1
  pos:=au
  R:=λS w xs cs=>∃ A c,cs=[.slice A xs.length c]/\Sl τ S w A c xs
  len:=by grind
  one:=fun⟨A,c,h,_⟩=>by rw [h]; intro u hu; simp at hu; rw [hu]; rfl
  keep:=λm ⟨A,c,h,hs⟩=>⟨A,c,h,hs.keep m⟩
  sub:=λhS ⟨A,c,h,hs⟩=>⟨A,c,h,hs.sub hS⟩
  bd:=fun⟨A,c,h,hs⟩=>⟨A,c,h,hs.bd⟩
def sS(A:ah)(c lo k:Nat):Option Addr:=if c=lo then A else A.map (·.add (lo*k))
theorem ML(A:ah)(c k:Nat):sS A c 0 k=A:=by
  simp [sS,Addr.add_zero']
theorem Sl.cut(h:Sl τ S w A c xs)(h1:lo<=hi)(h2:hi<=xs.length):Sl τ S w (sS A c lo τ.k) (c - lo) ((xs.take hi).drop lo):=by
  have hc:=h.cap;refine⟨by grind,by have:=h.max; omega,?_,?_⟩
  · intro hn
    unfold sS at hn
    split at hn
    · omega
    · have:=h.nil (by simpa using hn); omega
  · intro i x hx
    rw [F5,Wv] at hx
    split at hx
    · rename_i hlt
      obtain⟨hS,cs,hR,hcs⟩:=h.rows _ x hx;have hA:=h.some_ hx;have hne:¬ c=lo:=aj;have ha:Ih (sS A c lo τ.k)=(Ih A).add (lo*τ.k):=by grind [sS,Ih]
      grind [Il,fV,Nat.add_mul]
    grind
theorem Sl.ajv(h:Sl τ S w A c xs)(h2:hi<=xs.length):Sl τ S w A c (xs.take hi):=by
  have:=h.cut (fE _) h2
  grind [ML]
theorem Sl.cutFrom(h:Sl τ S w A c xs)(h1:lo<=xs.length):Sl τ S w (sS A c lo τ.k) (c - lo) (xs.drop lo):=by
  have:=h.cut h1 (kJ _)
  grind
theorem Own.take(h:Own τ e lo S w A c xs)(h2:hi<=xs.length):Own τ e lo S w A c (xs.take hi):=by
  obtain⟨css,hl,hR,hown⟩:=h;have hk:=Vh hl hR;have hlen:(xs.take hi).length=hi:=by grind
  have aBS:∀(cs:List (List Value))(m:Nat),(∀ c∈cs,c.length=τ.k)->(cs.take m).flatten=cs.flatten.take (m*τ.k):=by
    intro cs
    induction cs with
    | nil=>simp
    | cons c0 cs ih=>
      intro m hm
      cases m <;> grind [Nat.add_mul]
  refine⟨css.take hi,by grind,λi x hx=>?_,?_⟩
  · grind
  · rw [hlen]
    refine⟨?_,?_⟩
    · rw [aBS css hi hk,iF,hown.1]
      simp [*]
    · rcases hown.2 with ⟨hv,hn⟩ | ⟨g,cap,cur,hv,hg,hh,hnc,hcm,hcs,ht⟩
      · grind
      · right
        injection hv with hA hn' hc
        subst hA hc;refine⟨g,c,cur,Y,hg,hh,aj,hcm,hcs,?_⟩
        grind [Nat.mul_le_mul_right]
section
variable {P:Program}{n:Cx}{l:List (Nat × Value)}{w:World}{t e:TypeId}{x:Operand}
theorem Ev.ajv{kh:IntKind}{zh:Int}{yh:Operand}(hu:P.underlying t=some (.slice e))(hs:Size P e k)(hx:gY l x=some (.slice A xs.length c))(hh:gY l yh=some (.int kh zh))
    (h2:zh=(hi:Int)) (h4:hi<=xs.length) (h5:xs.length<=c):Ev P n l w (.slice t x none (some yh) none) (.slice A (xs.take hi).length c):=λo a w' ho ha _=>by
  have hlen:(xs.take hi).length=hi:=by grind
  have hcz:=ML A c k;unfold sS at hcz;unfold execOp; rw [ho]
  have h6:(Instr.sliceAt t (.slice A xs.length c) none (some (.int kh zh)) none).run P w'=.ok (.slice A hi c) w':=by
    rw [Oi w' t _ _ _ _ (rD hu),run_slice_h w' t A xs.length c (rD hu) kh zh aj aj,Dz hu,hs w',h2]
    simp only [jP,sliced,RS,Ur]
    rw [hcz]
  simp [ha.eval hx,ha.eval hh,h6,hlen]
def F7:=@Ev.ajv
theorem Ev.Vi{kh:IntKind}{zh:Int}{yh:Operand}(hu:P.underlying t=some (.slice e))(hs:Size P e k)(hx:gY l x=some (.slice A m c))(hh:gY l yh=some (.int kh zh))(h2:zh=0):Ev P n l w (.slice t x none (some yh) none) (.slice A 0 c):=λo a w' ho ha _=>by
  have hcz:=ML A c k;unfold sS at hcz;unfold execOp; rw [ho]
  have h6:(Instr.sliceAt t (.slice A m c) none (some (.int kh zh)) none).run P w'=.ok (.slice A 0 c) w':=by
    rw [Oi w' t _ _ _ _ (rD hu),run_slice_h w' t A m c (rD hu) kh zh aj aj,Dz hu,hs w',h2]
    simp only [jP,sliced,Int.toNat_zero,Ur]
    rw [hcz]
  simp [ha.eval hx,ha.eval hh,h6]
theorem Ev.cutFrom{kl:IntKind}{zl:Int}{yl:Operand}(hu:P.underlying t=some (.slice e))(hs:Size P e k)(hx:gY l x=some (.slice A xs.length c))(hl:gY l yl=some (.int kl zl))
    (h1:zl=(lo:Int)) (h3:lo<=xs.length) (h5:xs.length<=c):Ev P n l w (.slice t x (some yl) none none) (.slice (sS A c lo k) (xs.drop lo).length (c - lo)):=λo a w' ho ha _=>by
  have hlen:(xs.drop lo).length=xs.length - lo:=by simp
  unfold execOp; rw [ho]
  have h6:(Instr.sliceAt t (.slice A xs.length c) (some (.int kl zl)) none none).run P w'=.ok (.slice (sS A c lo k) (xs.length - lo) (c - lo)) w':=by
    rw [Oi w' t _ _ _ _ (rD hu),run_slice_l w' t A xs.length c (rD hu) kl zl aj aj,Dz hu,hs w',h1]
    simp [sliced,sS]
  simp [ha.eval hx,ha.eval hl,h6,hlen]
def F8:=@Ev.cutFrom
end
theorem ajw:FloatKind.f64.nearest 0=0:=by rfl
def fb(n:Nat):Nat:=FloatKind.f64.nearest (n:Int)
theorem abq:∀ n,n<130->FloatKind.f64.format.add (fb n) 4607182418800017408=some (fb (n+1)):=by decide +kernel
theorem Vj:∀ n,n<130->FloatKind.f64.format.add (fb n) 0=some (fb n):=by decide +kernel
theorem aou:∀ n,n<130->(FloatKind.f64.decode (fb n)).toInt .zero=some (n:Int):=au
theorem ayf:∀ n,n<70->∀ m,m<70->((FloatKind.f64.format.order (fb n) (fb m) == some .gt||FloatKind.f64.format.order (fb n) (fb m) == some .eq)=decide (m<=n)):=by decide +kernel
section
variable {P:Program}{n:Cx}{l:List (Nat × Value)}{w:World}{t ty:TypeId}{x y:Operand}
theorem Ev.aub{e f:Nat}(hx:gY l x=some (.complex .f64 a b))(hy:gY l y=some (.complex .f64 c d))(h1:FloatKind.f64.format.add a c=some e)(h2:FloatKind.f64.format.add b d=some f):Ev P n l w (.binOp .add t x y ty) (.complex .f64 e f):=
  qW hx hy (eqGuard_at_complex ..) (by simp_all [binOp,Op.complexOp,Op.Complex.arith,Op.floatArith])
theorem Ev.real(hx:gY l x=some (.complex .f64 a b)):Ev P n l w (.call ⟨.builtin .real,#[x],ts⟩) (.float .f64 a):=λo ac w' ho ha _=>by
  unfold execOp; rw [ho]
  simp only [resolve,jO,lK,jP,invoke,builtin,wh,mR,xk,ha.eval hx]
  rfl
theorem Ev.imag(hx:gY l x=some (.complex .f64 a b)):Ev P n l w (.call ⟨.builtin .imag,#[x],ts⟩) (.float .f64 b):=λo ac w' ho ha _=>by
  unfold execOp; rw [ho]
  simp only [resolve,jO,lK,jP,invoke,builtin,wh,mR,xk,ha.eval hx]
  rfl
theorem Ev.aBT{d:TypeId}(hs:∃ k,P.underlying t=some k)(hd:P.underlying d=some (.int .i64))(hx:gY l x=some (.float .f64 a))(hm:(FloatKind.f64.decode a).toInt .zero=some (m:Int))(hb:m<9223372036854775808):Ev P n l w (.convert t d x) (.int .i64 (m:Int)):=λo ac w' ho ha _=>by
  unfold execOp; rw [ho];obtain⟨k,hk⟩:=hs
  have h1:IntKind.i64.min<=(m:Int)/\(m:Int)<=IntKind.i64.max:=by
    have e1:IntKind.i64.min=-9223372036854775808:=au;have e2:IntKind.i64.max=9223372036854775807:=au;omega
  have h2:(Conv.floatToInt .f64 a .i64).run P w'=.ok (.int .i64 (m:Int)) w':=by simp_all [Conv.floatToInt]
  simp [ha.eval hx,convert,kV hk,kV hd,h2]
theorem Ev.aHz{d:TypeId}{k:IntKind}{z:Int}(hs:∃ k,P.underlying t=some k)(hd:P.underlying d=some (.float .f64))(hx:gY l x=some (.int k z))(hm:z=(m:Int)):Ev P n l w (.convert t d x) (.float .f64 (fb m)):=λo ac w' ho ha _=>by
  unfold execOp; rw [ho];obtain⟨k,hk⟩:=hs
  simp [ha.eval hx,convert,kV hk,kV hd,Conv.intToFloat,hm,fb]
theorem Ev.aHA(ha:a<70)(hb:b<70)(hx:gY l x=some (.float .f64 (fb a)))(hy:gY l y=some (.float .f64 (fb b))):Ev P n l w (.binOp .geq t x y ty) (.bool (decide (b<=a))):=
  qW hx hy (eqGuard_at_float ..) (by simp_all [binOp,Op.floatCmp,ayf])
end
end
section
theorem fC{α:Type}{xs:List α}{k:Nat}{x:α}(h:xs[k]? = some x):xs.take (k+1)=xs.take k++[x]:=by
  grind [List.take_add_one]
theorem bZ{α:Type}{xs:List α}{k:Nat}{x:α}(h:xs[k]? = some x):x∈xs:=yS h
def idxOf{α:Type}(p:α->Bool):List α->Int
  | []=>-1
  | x::xs=>if p x then 0 else if idxOf p xs<0 then -1 else idxOf p xs+1
theorem uG{α:Type}{p:α->Bool}:∀ {xs:List α},(∀ x∈xs,p x=false)->idxOf p xs=-1
  | [],_=>rfl
  | x::xs,h=>by
    have h1:=h x av;have h2:=uG (xs:=xs) (λy hy=>h y (by simp [hy]))
    simp [idxOf,h1,h2]
theorem GD{α:Type}{p:α->Bool}:∀(xs:List α),-1<=idxOf p xs
  | []=>by simp [idxOf]
  | x::xs=>by
    have:=GD (p:=p) xs;unfold idxOf
    split
    · omega
    · split <;> omega
theorem rF{α:Type}{p:α->Bool}:∀ {xs:List α} {k:Nat} {x:α},(∀ y∈xs.take k,p y=false)->xs[k]? = some x->p x=true->idxOf p xs=(k:Int)
  | [],k,x,_,h,_=>by simp at h
  | y::xs,0,x,_,h,hp=>by
    simp at h; subst h
    simp [idxOf,hp]
  | y::xs,k+1,x,h0,h,hp=>by
    have h1:=h0 y av;have h2:=rF (xs:=xs) (k:=k) (x:=x) (λz hz=>h0 z (by simp [hz])) (by simpa using h) hp
    simp only [idxOf,h1,h2]
    simp
    omega
theorem Em{α:Type}{p:α->Bool}:∀(xs:List α),idxOf p xs<xs.length
  | []=>by simp [idxOf]
  | x::xs=>by
    have:=Em (p:=p) xs;unfold idxOf
    simp only [oV]
    split
    · omega
    · split <;> omega
theorem wm{α:Type}(p:α->Bool)(xs:List α):(idxOf p xs=-1/\∀ x∈xs,p x=false)∨∃(k:Nat)(x:α),idxOf p xs=(k:Int)/\xs[k]? = some x/\p x=true/\∀ y∈xs.take k,p y=false:=by
  induction xs with
  | nil=>left; exact⟨rfl,av⟩
  | cons y xs ih=>
    by_cases hp:p y=true
    · right; exact⟨0,y,by simp [idxOf,hp],rfl,hp,λz hz=>by simp at hz⟩
    · have hp':p y=false:=by grind
      rcases ih with ⟨h1,h2⟩ | ⟨k,x,h1,h2,h3,h4⟩
      · left
        refine⟨by simp [idxOf,hp',h1],λx hx=>?_⟩
        rcases iR.1 hx with rfl | hx
        · exact hp'
        · exact h2 x hx
      · right
        refine⟨k+1,x,by simp [idxOf,hp',h1]; omega,by simpa using h2,h3,λz hz=>?_⟩
        grind
theorem nY{α:Type}{q:α->Prop}{xs:List α}{k:Nat}{x:α}(h:∀ y∈xs.take k,q y)(hx:xs[k]? = some x)(hq:q x):∀ y∈xs.take (k+1),q y:=by
  rw [fC hx]
  grind
theorem wo{α:Type}{q:α->Prop}{xs:List α}{k:Nat}(h:∀ y∈xs.take k,q y)(hk:xs.length<=k):∀ y∈xs,q y:=by
  grind [List.take_of_length_le]
def Cc{α:Type}(xss:List (List α))(k:Nat):Nat:=((xss.take k).flatten).length
theorem wu{α:Type}{xss:List (List α)}{k:Nat}{s:List α}(h:xss[k]? = some s):Cc xss (k+1)=Cc xss k+s.length:=by
  simp_all [Cc,fC]
theorem xQ{α:Type}(xss:List (List α))(k:Nat):Cc xss k<=xss.flatten.length:=by
  grind [Cc,List.take_append_drop,List.flatten_append,List.length_append]
theorem Pz{α:Type}{xss:List (List α)}{k:Nat}{s:List α}(h:xss[k]? = some s):(xss.take k).flatten++s=(xss.take (k+1)).flatten:=by
  rw [fC h]; simp
def ahF{α:Type}(q:Nat->α->Bool)(xs:List α):Bool:=(List.range xs.length).all λi=>match xs[i]? with | some x=>q i x | none=>true
theorem ahG{α:Type}{q:Nat->α->Bool}{xs:List α}:ahF q xs=true↔∀(i:Nat)(x:α),xs[i]? = some x->q i x=true:=by
  grind [ahF]
def low{α:Type}(g:α->Int)(s:List α):Nat:=s.countP λx=>decide (g x<0)
def hits{α:Type}(g:α->Int)(s:List α):Bool:=match s[low g s]? with | some x=>decide (g x=0) | none=>false
def abr{α:Type}(g:α->Int)(s:List α):Prop:=∀(i j:Nat)(x y:α),i<=j->s[i]? = some x->s[j]? = some y->g y<0->g x<0
theorem F9{α:Type}(g:α->Int)(s:List α):low g s<=s.length:=Wx
theorem xB{α:Type}{g:α->Int}{s:List α}{i:Nat}(hi:i<=s.length)(h1:∀(a:Nat)(x:α),a<i->s[a]? = some x->g x<0)(h2:∀(a:Nat)(x:α),i<=a->s[a]? = some x->¬ g x<0):low g s=i:=by
  have e:low g s=(s.take i).countP (λx=>decide (g x<0))+(s.drop i).countP (λx=>decide (g x<0)):=by grind [low,List.take_append_drop]
  have e1:(s.take i).countP (λx=>decide (g x<0))=(s.take i).length:=by
    rw [List.countP_eq_length];intro x hx;obtain⟨a,ha,rfl⟩:=aef hx;have hlt:a<i:=by grind
    exact sO (h1 a _ hlt av)
  have e2:(s.drop i).countP (λx=>decide (g x<0))=0:=by
    rw [List.countP_eq_zero];intro x hx;obtain⟨a,ha,rfl⟩:=aef hx;have hb:i+a<s.length:=by grind
    have:=h2 (i+a) _ aj (Ij hb);rw [List.getElem_drop]
    simpa using this
  grind
def bL(x y:Int):Int:=if x<y then -1 else if y<x then 1 else 0
theorem qE{x y:Int}:bL x y<0↔x<y:=by
  grind [bL]
theorem zu{x y:Int}:bL x y=0↔x=y:=by
  grind [bL]
def Up{α:Type}(key:α->Int)(s:List α):Prop:=s.Pairwise λx y=>key x<key y
theorem Up.get{α:Type}{key:α->Int}{s:List α}(h:Up key s){i j:Nat}{x y:α}(hij:i<j)(hx:s[i]? = some x)(hy:s[j]? = some y):key x<key y:=by
  have hi:=aM hx;have hj:=aM hy;have:=(Eh.1 h) i j hi hj hij
  grind
theorem Up.mono{α:Type}{key:α->Int}{s:List α}(h:Up key s)(n:Int):abr (λy=>bL (key y) n) s:=by
  intro i j x y hij hx hy hlt
  simp only [qE] at hlt ⊢
  rcases F6 i j with h1 | h1
  · have:=h.get h1 hx hy; omega
  grind
theorem sU{α:Type}{key:α->Int}{s:List α}(h:Up key s)(n:Int):hits (λy=>bL (key y) n) s=true↔∃ x∈s,key x=n:=by
  have hl:∀(i:Nat)(x:α),s[i]? = some x->key x=n->low (λy=>bL (key y) n) s=i:=by
    intro i x hx hk;refine xB (by grind) (λa y ha hy=>?_) (λa y ha hy=>?_)
    · rw [qE]; have:=h.get ha hy hx; omega
    · rw [qE]
      rcases F6 i a with h1 | h1
      · have:=h.get h1 hx hy; omega
      grind
  constructor
  · intro hh
    unfold hits at hh
    grind [zu]
  · rintro⟨x,hx,hk⟩
    obtain⟨i,hi,rfl⟩:=aef hx;have h1:=hl i _ (Ij hi) hk
    grind [hits,List.getElem?_eq_getElem,decide_eq_true,zu]
theorem qh{α:Type}{key:α->Int}{s:List α}{n:Int}(h:hits (λy=>bL (key y) n) s=true):∃ x,s[low (λy=>bL (key y) n) s]? = some x/\key x=n:=by
  unfold hits at h
  grind [zu]
theorem dP{P:Program}{n:Cx}{l:List (Nat × Value)}{w:World}{t ty:TypeId}{x y:Operand}{a b:Int}(hx:gY l x=some (.int .i64 a))(hy:gY l y=some (.int .i64 b))(h1:-9223372036854775808<=a+b:=by omega)(h2:a+b<=9223372036854775807:=by omega):Ev P n l w (.binOp .add t x y ty) (.int .i64 (a+b)):=Ev.add hx hy ⟨h1,h2⟩
theorem Uw{P:Program}{n:Cx}{l:List (Nat × Value)}{w:World}{t ty:TypeId}{x y:Operand}{a b:Int}(hx:gY l x=some (.int .i64 a))(hy:gY l y=some (.int .i64 b))(h1:-9223372036854775808<=a - b:=by omega)(h2:a - b<=9223372036854775807:=by omega):Ev P n l w (.binOp .sub t x y ty) (.int .i64 (a - b)):=Ev.sub hx hy ⟨h1,h2⟩
theorem mZ{P:Program}{n:Cx}{l:List (Nat × Value)}{w:World}{Q:Exit->Act->World->Prop}{c:Operand}{x y:Code}{p:Prop}[Decidable p](hc:gY l c=some (.bool (decide p)))(h1:p->WP P n x l w Q)(h2:¬p->WP P n y l w Q):WP P n (.cond c x y) l w Q:=bP hc (by grind) (by grind)
theorem pG{P:Program}{n:Cx}{l:List (Nat × Value)}{w:World}{Q:Exit->Act->World->Prop}{c:Operand}{x y z:Code}{p:Prop}[Decidable p](hc:gY l c=some (.bool (decide p)))(h1:p->WP P n x l w (Exit.then (NU P n z Q) Q))(h2:¬p->WP P n y l w (Exit.then (NU P n z Q) Q)):WP P n (.seq (.cond c x y) z) l w Q:=WP.cond hc (by grind) (by grind)
end
end Go.Proofs.YtlhnnmlenkahlaaGreat
