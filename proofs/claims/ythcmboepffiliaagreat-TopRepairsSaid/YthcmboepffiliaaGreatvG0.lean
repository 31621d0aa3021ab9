/- Lemmas. -/
import Derived.WalkKit
import Derived.WalkSpells
import Derived.WalkLawsBesides
import Derived.Deep.Quiet
import Derived.Deep.LoopGhost
import Derived.Sort.LoopGhostIn
import Derived.RangeFuncLeaves
import Derived.OrdersIn
import Derived.Deep.AppendLies
import Derived.Lib.SliceRun
import Derived.Maps.AppendAt
import Derived.OrdersHeld
set_option linter.all false
set_option maxRecDepth 4000
namespace Go.Proofs.YthcmboepffiliaaGreat
abbrev ah:=Option Addr
theorem Y{α:Sort _}{a:α}:a=a:=rfl
theorem aA:(∀ a b,((a||b)=true)=(a=true∨b=true))/\(∀ a b,(a||b)=false↔a=false/\b=false)/\(∀ a b,((a&&b)=true)=(a=true/\b=true))/\(∀ a b,(a&&b)=false↔(a=true->b=false))/\(∀ b,((!b)=true)=(b=false))/\(∀ b,((!b)=false)=(b=true))/\(∀ p [Decidable p],(decide p=true)=p)/\∀ p [Decidable p],decide p=false↔¬p:=⟨Bool.or_eq_true,@Bool.or_eq_false_iff,Bool.and_eq_true,@Bool.and_eq_false_imp,Bool.not_eq_true',Bool.not_eq_false',λp _=>decide_eq_true_eq,λp _=>decide_eq_false_iff_not⟩
theorem aj{p:Prop}(h:p:=by omega):p:=h
theorem ak{p:Prop}(h:p:=by kernel_rfl):p:=h
theorem au{p:Prop}(h:p:=by decide):p:=h
theorem av{p:Prop}(h:p:=by simp):p:=h
theorem ay{p:Prop}(h:p:=by first | (intro _; kernel_rfl) | (intro _ _; kernel_rfl)):p:=h
open Go.RowKit
def j4:=@Nat.le_refl
def lG:=@Nat.le_trans
def acU:=@Nat.le_succ
def aa1:=@Nat.lt_of_lt_of_le
def aF8:=@World.block_lt_of_cell?
def Ip:=@List.getElem?_eq_getElem
def VH:=@List.flatten_cons
def j5:=@List.mem_append
def aby:=@List.getElem?_append_right
def BS:=@Nat.add_mul
def afU:=@List.getElem_of_mem
def rG:=@List.getElem?_eq_some_iff
def nT:=@List.pairwise_cons
def gW:=@List.mem_cons
def zO:=@List.pairwise_append
def QL:=@Nat.eq_of_beq_eq_true
def alC:=@Nat.ne_of_beq_eq_false
def jh:=@Sem.run_bind
def Gn:=@Calls.mono
def oO:=@List.length_cons
def aS:=@if_pos
def aQ:=@if_neg
def X7:=@wpIn_wide
def VI:=@Nat.sub_zero
def VJ:=@wpIn_seq
def kZ:=@Sem.run_pure
def jv:=@Result.andThen_ok
def KX:=@Array.getD_eq_getD_getElem?
def abz:=@List.cons_append
def Gp:=@List.take_append_drop
def zP:=@eqGuard_at_int
def vI:=@List.map_toArray
def mg:=@List.map_cons
def wB:=@List.map_nil
def alD:=@run_loadCells_list
def Px:=@Addr.add_lit
def abA:=@run_storeCells_at
def VK:=@setRow_heap
def jV:=@run_underlying
def Aj:=@List.append_nil
def LX:=@Nat.mul_le_mul
def nU:=@Nat.le_of_ble_eq_true
def fI:=@Nat.zero_le
def X8:=@List.size_toArray
def u6:=@List.length_nil
def Js:=@Nat.zero_add
def G5:=@List.getElem?_drop
def X9:=@List.getElem?_take
def iX:=@List.length_take
def Ak:=@Nat.mul_le_mul_right
def PS:=@run_sliceAt_slice
def PU:=@Int.toNat_natCast
def zy:=@List.mem_of_getElem?
def gY:=@List.take_of_length_le
def jH:=@List.length_append
def Ya:=@List.countP_le_length
def tY:=@decide_eq_true
def ER:=@List.pairwise_iff_getElem
def G6:=@Nat.lt_or_ge
section
abbrev V(α:Type _):=List α
variable {α:Type}{w w':World}{v:Value}{P:Program}{row:Option Nat}{i id:Nat}{S:Nat->Prop}{Q Q':Exit->Act->World->Prop}{K:Act->World->Prop}{f:FuncId}{args:Array Value}{M:Array Oper}{ol:List Oper}{fn:Func}{y:Code}
abbrev O(x:Int):Value:=.int .i64 x
abbrev gP(x:Int):Value:=.int .u32 x
abbrev fK(g:Nat):Value:=.pointer (some ⟨g,0,none⟩)
def vJ(x:Int):Prop:=-9223372036854775808<=x/\x<=9223372036854775807
structure Ext (w w':World):Prop where
  os:w'.os=w.os
  tape:w'.tape=w.tape
  output:w'.output=w.output
  size:w.heap.size<=w'.heap.size
  block:∀ k,k<w.heap.size->w'.heap[k]? = w.heap[k]?
  drawn:w.drawn<=w'.drawn
structure Mod (g:Nat) (w w':World):Prop where
  os:w'.os=w.os
  tape:w'.tape=w.tape
  output:w'.output=w.output
  size:w.heap.size<=w'.heap.size
  block:∀ k,k<w.heap.size->k≠g->w'.heap[k]? = w.heap[k]?
  drawn:w.drawn<=w'.drawn
structure O7 (w w':World) (row:Option Nat):Prop where
  os:w'.os=w.os
  tape:w'.tape=w.tape
  output:w'.output=w.output
  size:w.heap.size<=w'.heap.size
  block:∀ k,k<w.heap.size->some k≠row->w'.heap[k]? = w.heap[k]?
  drawn:w.drawn<=w'.drawn
def Ua:∀(x:Ask α)(w:World),w.drawn<=(w.ask x).2.drawn
 | .done a,w=>j4 _
 | .ask what range k,w=>by
  unfold World.ask
  simp only
  split
  ·exact Ua (k 0) w
  ·exact lG (acU _) (Ua (k _) { w with drawn:=w.drawn+1 })
theorem anN(w:World)(c:Sys):w.drawn<=(w.sys c).2.drawn:=by
 have h:=Ua (Kernel.perform c w.os) w;unfold World.sys
 split
 ·exact j4 _
 ·rename_i e; rw [e] at h; exact h
def anO{p:Program}{a:Addr}{at':Bool}{l:V Addr}(h:w.farStore p a v at'=.ok (w',l)):w'.drawn=w.drawn:=by
 unfold World.farStore at h
 split at h
 ·split at h
  ·rename_i r hr
   cases h
   unfold World.viewStore at hr
   simp only [bind,Except.bind,pure,Except.pure,throw,throwThe,MonadExceptOf.throw] at hr
   repeat' (split at hr)
   all_goals first | (cases hr; rfl) | cases hr
  grind
 grind
def anP:∀(m:Sem α)(w:World)(a:α)(w':World),m.run P w=.ok a w'->w.drawn<=w'.drawn:=by
  intro m
  induction m with
  | pure a=>simp
  | load m a k ih=>
    grind [Sem.run]
  | store m a v k ih=>
    intro w b w' h
    cases v <;> simp only [Sem.run] at h
    all_goals first
      | (cases h; done)
      | (split at h
         · split at h
           · cases h
           · have:=ih _ _ _ h; exact this
         · split at h
           · rename_i hf; have:=ih _ _ _ h; rw [anO hf] at this; exact this
           · cases h)
  | new o k ih=>grind [Sem.run]
  | shape r k ih=>grind [Sem.run]
  | freeze a n k ih=>
    grind [Sem.run,World.freeze]
  | frozen a k ih=>grind [Sem.run]
  | getObj r k ih=>
    grind [Sem.run]
  | setObj r o k ih=>
    grind [Sem.run]
  | choose q k ih=>
    grind [Sem.run]
  | sys c k ih=>grind [Sem.run,Nat.le_trans,anN]
  | program k ih=>grind [Sem.run]
  | mark m k ih=>grind [Sem.run]
  | halt e=>simp
section
variable {a b c w w':World}{g:Nat}
def O7.of(h:w.grownBy w' row)(hd:w.drawn<=w'.drawn):O7 w w' row:=⟨h.os,h.tape,h.output,h.size,λk hk hn=>h.block k hk hn,hd⟩
def Ext.refl(w:World):Ext w w:=⟨rfl,rfl,rfl,j4 _,av,j4 _⟩
def oW:=@Ext.refl
def Ext.trans(h:Ext a b)(k:Ext b c):Ext a c:=
 ⟨k.os.trans h.os,k.tape.trans h.tape,k.output.trans h.output,lG h.size k.size,λi hi=>(k.block i (aa1 hi h.size)).trans (h.block i hi),lG h.drawn k.drawn⟩
def Ext.mod(h:Ext a b)(k:Mod g b c)(hg:a.heap.size<=g):Ext a c:=
 ⟨k.os.trans h.os,k.tape.trans h.tape,k.output.trans h.output,lG h.size k.size,λi hi=>(k.block i (aa1 hi h.size) aj).trans (h.block i hi),lG h.drawn k.drawn⟩
def Ext.drew(h:Ext a b):Ext a b.drew:=⟨h.os,h.tape,h.output,h.size,h.block,Nat.le_succ_of_le h.drawn⟩
def Ext.alloc(w:World)(o:Obj):Ext w (w.alloc o):=⟨rfl,rfl,rfl,av,by grind [Below.heap_alloc],j4 _⟩
def anQ:=@Ext.alloc
theorem Mod.setCell(w:World)(p:Addr)(u:Value):Mod p.block w (w.setCell p u):=
 ⟨rfl,rfl,rfl,av,by grind [Below.heap_setCell],j4 _⟩
theorem Mod.yB(h:O7 w w' row)(hr:∀ k,row=some k->k=g):Mod g w w':=
 ⟨h.os,h.tape,h.output,h.size,λk hk hn=>h.block k hk (by grind),h.drawn⟩
def aBO:=@Mod.yB
theorem Ext.yB(h:O7 w w' row)(hr:∀ k,row=some k->w.heap.size<=k):Ext w w':=
 ⟨h.os,h.tape,h.output,h.size,λk hk=>h.block k hk (by grind),h.drawn⟩
def Ext.cell{p:Addr}(h:Ext w w')(hc:w.cell? p=some v):w'.cell? p=some v:=
 (World.cell?_of_block (h.block p.block (aF8 w p hc))).trans hc
end
def Bx(w:World)(g:Nat)(t:TypeId)(cs:List Value):Prop:=w.heap[g]? = some (.cells cs.toArray t (0,0))
section
variable {w w':World}{g g':Nat}{t:TypeId}{cs:List Value}
def Bx.lt(h:Bx w g t cs):g<w.heap.size:=by
 grind [Bx]
def Bx.ext(h:Bx w g t cs)(e:Ext w w'):Bx w' g t cs:=(e.block g h.lt).trans h
def Bx.mod(h:Bx w g t cs)(m:Mod g' w w')(hn:g≠g'):Bx w' g t cs:=(m.block g h.lt hn).trans h
def Bx.cell(h:Bx w g t cs)(i:Nat):w.cell? ⟨g,i,none⟩=cs[i]?:=by
 rw [cell_of_row w g i cs.toArray t (0,0) h]; simp
def Bx.frozen(h:Bx w g t cs)(i:Nat):w.frozen? ⟨g,i,none⟩=false:=by
 grind [Bx,World.frozen?]
def Bx.new(w:World)(t:TypeId)(cs:V Value):Bx (w.alloc (.cells cs.toArray t)) w.heap.size t cs:=heap_alloc_new w _
def Bx.aMu(h:Bx w g t cs)(i:Nat)(u:Value):Bx (w.setCell ⟨g,i,none⟩ u) g t (cs.set i u):=by
 grind [Bx,World.setCell]
end
structure Ty (α:Type) where
  k:Nat
  pos:0<k
  R:(S:Nat->Prop)->World->α->List Value->Prop
  len:∀ {S w x cs},R S w x cs->cs.length=k
  one:∀ {S w x cs},R S w x cs->∀ u∈cs,u.oneCell'=true
  keep:∀ {S:Nat->Prop} {w w':World} {x cs},(∀ g,S g->g<w.heap.size->w'.heap[g]? = w.heap[g]?)->R S w x cs->R S w' x cs
  sub:∀ {S S':Nat->Prop} {w x cs},(∀ b,S b->S' b)->R S w x cs->R S' w x cs
  bd:∀ {S:Nat->Prop} {w x cs},R S w x cs->R (λg=>S g/\g<w.heap.size) w x cs
def Ty.flat{α:Type}(k:Nat)(enc:α->List Value)(pos:0<k)(hl:∀ x,(enc x).length=k)(h1:∀ x,∀ u∈enc x,u.oneCell'=true):Ty α where
  k:=k
  pos:=pos
  R:=λ_ _ x cs=>cs=enc x
  len:=by grind
  one:=by grind
  keep:=λ_ h=>h
  sub:=λ_ h=>h
  bd:=λh=>h
def Ty.ext(τ:Ty α){S w w' x cs}(e:Ext w w')(h:τ.R S w x cs):τ.R S w' x cs:=τ.keep (λg _ hg=>e.block g hg) h
def Ty.mod(τ:Ty α){S w w' g x cs}(m:Mod g w w')(hg:¬ S g)(h:τ.R S w x cs):τ.R S w' x cs:=
 τ.keep (λb hb hlt=>m.block b hlt (by grind)) h
class Flat {α:Type} (τ:Ty α):Prop where
  h:∀ {S S':Nat->Prop} {w w':World} {x:α} {cs:List Value},τ.R S w x cs->τ.R S' w' x cs
instance {α:Type}{k:Nat}{enc:α->List Value}{pos:0<k}{hl:∀ x,(enc x).length=k}{h1:∀ x,∀ u∈enc x,u.oneCell'=true}:Flat (Ty.flat k enc pos hl h1):=⟨λh=>h⟩
def Gh(A:ah):Addr:=A.getD ⟨0,0,none⟩
structure Sl {α:Type} (τ:Ty α) (S:Nat->Prop) (w:World) (A:ah) (c:Nat) (xs:List α):Prop where
  cap:xs.length<=c
  max:c<=maxLen
  nil:A=none->c=0
  rows:∀(i:Nat)(x:α),xs[i]? = some x->S (Gh A).block/\∃ cs,τ.R S w x cs/\∀ j u,cs[j]? = some u->w.cell? ((Gh A).add (i*τ.k+j))=some u
theorem Jt(a:Addr)(n:Nat):(a.add n).block=a.block:=by grind [Addr.add]
theorem fD(a:Addr)(i j:Nat):(a.add i).add j=a.add (i+j):=by
 grind [Addr.add]
section
variable {α:Type}{τ:Ty α}{S S':Nat->Prop}{w w':World}{A:ah}{c g:Nat}{xs:List α}
theorem Sl.none_(τ:Ty α)(S:Nat->Prop)(w:World):Sl τ S w none 0 []:=
 ⟨av,av,λ_=>rfl,av⟩
def O8:=@Sl.none_
def Sl.ext(h:Sl τ S w A c xs)(e:Ext w w'):Sl τ S w' A c xs:=
 ⟨h.cap,h.max,h.nil,λi x hx=>by
  obtain⟨h1,cs,h2,h3⟩:=h.rows i x hx
  exact⟨h1,cs,τ.ext e h2,λj u hu=>e.cell (h3 j u hu)⟩⟩
def Sl.keep(h:Sl τ S w A c xs)(m:∀ g,S g->g<w.heap.size->w'.heap[g]? = w.heap[g]?):Sl τ S w' A c xs:=
 ⟨h.cap,h.max,h.nil,λi x hx=>by
  obtain⟨h1,cs,h2,h3⟩:=h.rows i x hx;refine⟨h1,cs,τ.keep m h2,λj u hu=>?_⟩
  grind [World.block_lt_of_cell?,Jt,World.cell?_of_block]⟩
def Sl.sub(h:Sl τ S w A c xs)(hs:∀ b,S b->S' b):Sl τ S' w A c xs:=
 ⟨h.cap,h.max,h.nil,λi x hx=>by
  obtain⟨h1,cs,h2,h3⟩:=h.rows i x hx
  exact⟨hs _ h1,cs,τ.sub hs h2,h3⟩⟩
def Sl.bI(h:Sl τ S w A c xs):xs.length<=9223372036854775807:=by
 have h1:=h.cap;have h2:=h.max
 grind [maxLen]
def Sl.any(h:Sl τ S w A c xs):Sl τ (λ_=>True) w A c xs:=h.sub av
def Sl.some_(h:Sl τ S w A c xs){x:α}(hx:xs[i]? = some x):A=some (Gh A):=by
 cases hA:A with
 | none=>
  have h1:=h.nil hA;have h2:=h.cap
  grind
 | some a=>rfl
def Sl.lt(h:Sl τ S w A c xs){x:α}(hx:xs[i]? = some x):(Gh A).block<w.heap.size:=by
 obtain⟨_,cs,h2,h3⟩:=h.rows i x hx;have hl:=τ.len h2;have hp:=τ.pos;have h0:cs[0]? = some (cs[0]'aj):=Ip _;have:=aF8 w _ (h3 0 _ h0)
 rwa [Jt] at this
def Sl.bd(h:Sl τ S w A c xs):Sl τ (λg=>S g/\g<w.heap.size) w A c xs:=
 ⟨h.cap,h.max,h.nil,λi x hx=>by
  obtain⟨h1,cs,h2,h3⟩:=h.rows i x hx
  exact⟨⟨h1,h.lt hx⟩,cs,τ.bd h2,h3⟩⟩
def Sl.cells(h:Sl τ S w A c xs):∃ css:V (V Value),css.length=xs.length/\(∀(i:Nat)(x:α),xs[i]? = some x->∃ cs,css[i]? = some cs/\τ.R S w x cs)/\
  css.flatten.length=xs.length*τ.k/\(∀ u∈css.flatten,u.oneCell'=true)/\∀ j u,css.flatten[j]? = some u->w.cell? ((Gh A).add j)=some u:=by
 have key:∀(ys:V α)(o:Nat),(∀(i:Nat)(x:α),ys[i]? = some x->∃ cs,τ.R S w x cs/\∀ j u,cs[j]? = some u->w.cell? ((Gh A).add ((o+i)*τ.k+j))=some u)->
   ∃ css:V (V Value),css.length=ys.length/\(∀(i:Nat)(x:α),ys[i]? = some x->∃ cs,css[i]? = some cs/\τ.R S w x cs)/\
    css.flatten.length=ys.length*τ.k/\(∀ u∈css.flatten,u.oneCell'=true)/\∀ j u,css.flatten[j]? = some u->w.cell? ((Gh A).add (o*τ.k+j))=some u:=by
  intro ys
  induction ys with
  | nil=>simp
  | cons y ys ih=>
   intro o hy;obtain⟨cs,hR,hc⟩:=hy 0 y rfl
   obtain⟨css,h1,h2,h3,h4,h5⟩:=ih (o+1) (λi x hx=>by
    obtain⟨cs,hR,hc⟩:=hy (i+1) x (by grind)
    grind)
   have hl:=τ.len hR;refine⟨cs::css,by simp [h1],?_,?_,?_,?_⟩
   ·grind
   ·grind
   ·intro u hu
    rw [VH] at hu
    rcases j5.1 hu with h | h
    ·exact τ.one hR u h
    grind
   grind
 obtain⟨css,h1,h2,h3,h4,h5⟩:=key xs 0 (λi x hx=>by
  obtain⟨_,cs,hR,hc⟩:=h.rows i x hx
  grind)
 grind
end
def Own{α:Type}(τ:Ty α)(e:TypeId)(lo:Nat)(S:Nat->Prop)(w:World)(A:ah)(c:Nat)(xs:List α):Prop:=
  ∃ css:List (List Value),css.length=xs.length/\(∀(i:Nat)(x:α),xs[i]? = some x->∃ cs,css[i]? = some cs/\τ.R S w x cs)/\w.ownsRow lo e τ.k (.slice A xs.length c) xs.length css.flatten
def blk(A:ah):Option Nat:=A.map (·.block)
section
variable {α:Type}{τ:Ty α}{e:TypeId}{lo lo':Nat}{S S':Nat->Prop}{w w':World}{A:ah}{c g:Nat}{xs:List α}
theorem Own.none_(τ:Ty α)(e:TypeId)(lo:Nat)(S:Nat->Prop)(w:World):Own τ e lo S w none 0 []:=
 ⟨[],rfl,λi x h=>by simp at h,World.ownsRow_nil w lo e τ.k⟩
theorem QM{k:Nat}:∀(css:V (V Value))(_:∀ cs∈css,cs.length=k)(i:Nat)(cs:V Value)(_:css[i]? = some cs)(j:Nat)(u:Value),cs[j]? = some u->css.flatten[i*k+j]? = some u
 | [],_,i,cs,h,_,_,_=>by simp at h
 | c0::css,hk,i,cs,h,j,u,hu=>by
  have h0:c0.length=k:=by grind
  cases i with
  | zero=>
   grind
  | succ i=>
   simp only [VH]
   rw [aby (by rw [h0,BS,Nat.one_mul]; omega),h0,show(i+1)*k+j - k=i*k+j from by rw [BS,Nat.one_mul]; omega];exact QM css (λcs hcs=>hk cs (by simp [hcs])) i cs (by simpa using h) j u hu
def WX{css:V (V Value)}(h1:css.length=xs.length)(h2:∀(i:Nat)(x:α),xs[i]? = some x->∃ cs,css[i]? = some cs/\τ.R S w x cs):∀ cs∈css,cs.length=τ.k:=by
 intro cs hcs;obtain⟨i,hi,rfl⟩:=afU hcs;obtain⟨cs',h3,h4⟩:=h2 i (xs[i]'aj) (Ip _);rw [Ip hi] at h3
 cases h3
 exact τ.len h4
def Own.slb(h:Own τ e lo S w A c xs)(h1:∀ b,blk A=some b->S' b)(h2:∀ b,S b->S' b):Sl τ S' w A c xs:=by
 obtain⟨css,hl,hR,hown⟩:=h;have hk:=WX hl hR
 rcases hown.2 with ⟨hv,hn⟩ | ⟨g,cap,cur,hv,hg,hh,hnc,hcm,hcs,ht⟩
 ·grind [Sl.none_]
 ·injection hv with hA hn' hc
  subst hA hc;refine⟨hnc,hcm,av,λi x hx=>?_⟩;obtain⟨cs,h3,h4⟩:=hR i x hx;exact⟨h1 _ Y,cs,τ.sub h2 h4,λj u hu=>hown.cells Y _ _ (by grind [QM])⟩
def Own.sl(h:Own τ e lo S w A c xs)(h1:∀ b,lo<=b->S' b)(h2:∀ b,S b->S' b):Sl τ S' w A c xs:=by
 refine h.slb (λg hg=>h1 g ?_) h2;obtain⟨css,hl,hR,hown⟩:=h
 rcases hown.2 with ⟨hv,hn⟩ | ⟨g',cap,cur,hv,hg',_⟩
 all_goals grind [blk]
def Own.acV(h:Own τ e lo S w A c xs):∀ g,blk A=some g->lo<=g/\g<w.heap.size:=by
 obtain⟨css,hl,hR,hown⟩:=h;intro g hg;refine hown.lt g ?_
 cases A <;> grind [blk,Value.ownBlock]
def Own.ext(h:Own τ e lo S w A c xs)(x:Ext w w'):Own τ e lo S w' A c xs:=by
 obtain⟨css,hl,hR,hown⟩:=h;refine⟨css,hl,λi y hy=>?_,hown.kept (row:=none) ⟨x.os,x.tape,x.output,x.size,λk hk _=>x.block k hk⟩ (by grind)⟩;obtain⟨cs,h1,h2⟩:=hR i y hy;exact⟨cs,h1,τ.ext x h2⟩
def Own.mod(h:Own τ e lo S w A c xs)(m:Mod g w w')(hS:¬ S g)(hg:blk A≠some g):Own τ e lo S w' A c xs:=by
 obtain⟨css,hl,hR,hown⟩:=h;refine⟨css,hl,λi y hy=>?_,hown.kept (row:=some g) ⟨m.os,m.tape,m.output,m.size,λk hk hn=>m.block k hk (by grind)⟩ (.inr ?_)⟩
 ·obtain⟨cs,h1,h2⟩:=hR i y hy
  exact⟨cs,h1,τ.mod m hS h2⟩
 ·intro he
  apply hg
  cases A <;> grind [Value.ownBlock,blk]
def Own.keep(h:Own τ e lo S w A c xs)(m:∀ g,blk A=some g∨S g->g<w.heap.size->w'.heap[g]? = w.heap[g]?):Own τ e lo S w' A c xs:=by
 obtain⟨css,hl,hR,hown⟩:=h;refine⟨css,hl,λi y hy=>?_,hown.1,?_⟩
 ·obtain⟨cs,h1,h2⟩:=hR i y hy
  exact⟨cs,h1,τ.keep (by grind) h2⟩
 ·rcases hown.2 with h2 | ⟨g,cap,cur,hv,hg,hh,rest⟩
  ·grind
  ·injection hv with hA hn hc
   refine .inr ⟨g,cap,cur,by grind,hg,?_,rest⟩;have hlt:g<w.heap.size:=by grind
   rw [m g (.inl (by rw [hA]; rfl)) hlt]; exact hh
def Own.lift(h:Own τ e lo S w A c xs)(hlo:∀ g,blk A=some g->lo'<=g):Own τ e lo' S w A c xs:=by
 obtain⟨css,hl,hR,hown⟩:=h;refine⟨css,hl,hR,hown.1,?_⟩
 rcases hown.2 with h2 | ⟨g,cap,cur,hv,hg,rest⟩
 ·grind
 ·injection hv with hA hn hc
  exact .inr ⟨g,cap,cur,by rw [hA,hn,hc],hlo g (by rw [hA]; rfl),rest⟩
theorem Own.low(h:Own τ e lo S w A c xs)(hlo:lo'<=lo)(hS:∀ b,S b->S' b):Own τ e lo' S' w A c xs:=by
 obtain⟨css,hl,hR,hown⟩:=h;refine⟨css,hl,λi y hy=>?_,hown.1,?_⟩
 ·obtain⟨cs,h1,h2⟩:=hR i y hy
  exact⟨cs,h1,τ.sub hS h2⟩
 ·rcases hown.2 with h2 | ⟨g,cap,cur,hv,hg,rest⟩
  ·grind
  ·exact .inr ⟨g,cap,cur,hv,aj,rest⟩
end
def Fr(w:World):Nat->Prop:=λb=>w.heap.size<=b
def Any:Nat->Prop:=λ_=>True
def bH{xs:V α}(h:i<xs.length):∃ x,xs[i]? = some x:=⟨xs[i],Ip h⟩
theorem aP{xs:V α}{x:α}(h:xs[i]? = some x):i<xs.length:=(rG.1 h).1
def oL{p:Prop}[Decidable p](h:(!decide p)=true):¬ p:=by grind
def oM{p:Prop}[Decidable p](h:(!decide p)=false):p:=by grind
structure kF where
  W:Nat->Prop
  ok:(Nat->Prop)->World->Prop
  sub:∀ {S S':Nat->Prop} {w:World},(∀ g,S g->S' g)->ok S w->ok S' w
  keep:∀ {S:Nat->Prop} {w w':World},(∀ g,W g∨S g->g<w.heap.size->w'.heap[g]? = w.heap[g]?)->ok S w->ok S w'
def aR{α:Type}(τ:Ty α)(e:TypeId)(A:ah)(c:Nat)(xs:List α):kF where
  W:=λg=>blk A=some g
  ok:=λS w=>Own τ e 0 S w A c xs
  sub:=λhs h=>h.low (j4 _) hs
  keep:=λhm h=>h.keep hm
def dI{α:Type}(τ:Ty α)(A:ah)(c:Nat)(xs:List α):kF where
  W:=λ_=>False
  ok:=λS w=>Sl τ S w A c xs
  sub:=λhs h=>h.sub hs
  keep:=λhm h=>h.keep (by grind)
def dJ(g:Nat)(t:TypeId)(cs:List Value):kF where
  W:=λb=>b=g
  ok:=λ_ w=>Bx w g t cs
  sub:=λ_ h=>h
  keep:=λ{_ w _} hm h=>(hm g (.inl rfl) h.lt).trans h
def Rd(b:World)(S:Nat->Prop)(rs:List kF)(w:World):Nat->Prop:=λg=>(g<b.heap.size/\S g)∨(b.heap.size<=g/\g<w.heap.size/\∀ r∈rs,¬ r.W g)
structure Hp (b:World) (S:Nat->Prop) (w:World) (rs:List kF):Prop where
  ext:Ext b w
  ok:∀ r∈rs,r.ok (Rd b S rs w) w
  lo:∀ r∈rs,∀ g,r.W g->b.heap.size<=g/\g<w.heap.size
  dis:rs.Pairwise λr s=>∀ g,r.W g->¬ s.W g
inductive nY {α:Type}:List α->α->List α->Prop
  | h {r:α} {rs:List α}:nY (r::rs) r rs
  | t {r q:α} {rs rest:List α}:nY rs r rest->nY (q::rs) r (q::rest)
section
variable {α:Type}{q0 q1 q2 q3 q4 q5 q6 q7 q8 q9 q10 q11 q12 q13 q14 q15 r:α}{rs:List α}
def U:nY (r::rs) r rs:=.h
def s1:nY (q0::r::rs) r (q0::rs):=.t .h
def s2:nY (q0::q1::r::rs) r (q0::q1::rs):=.t s1
def s3:nY (q0::q1::q2::r::rs) r (q0::q1::q2::rs):=.t s2
def s4:nY (q0::q1::q2::q3::r::rs) r (q0::q1::q2::q3::rs):=.t s3
def s5:nY (q0::q1::q2::q3::q4::r::rs) r (q0::q1::q2::q3::q4::rs):=.t s4
def s6:nY (q0::q1::q2::q3::q4::q5::r::rs) r (q0::q1::q2::q3::q4::q5::rs):=.t s5
def s7:nY (q0::q1::q2::q3::q4::q5::q6::r::rs) r (q0::q1::q2::q3::q4::q5::q6::rs):=.t s6
def s8:nY (q0::q1::q2::q3::q4::q5::q6::q7::r::rs) r (q0::q1::q2::q3::q4::q5::q6::q7::rs):=.t s7
def s9:nY (q0::q1::q2::q3::q4::q5::q6::q7::q8::r::rs) r (q0::q1::q2::q3::q4::q5::q6::q7::q8::rs):=.t s8
def s10:nY (q0::q1::q2::q3::q4::q5::q6::q7::q8::q9::r::rs) r (q0::q1::q2::q3::q4::q5::q6::q7::q8::q9::rs):=.t s9
def s11:nY (q0::q1::q2::q3::q4::q5::q6::q7::q8::q9::q10::r::rs) r (q0::q1::q2::q3::q4::q5::q6::q7::q8::q9::q10::rs):=.t s10
def s12:nY (q0::q1::q2::q3::q4::q5::q6::q7::q8::q9::q10::q11::r::rs) r (q0::q1::q2::q3::q4::q5::q6::q7::q8::q9::q10::q11::rs):=.t s11
def s13:nY (q0::q1::q2::q3::q4::q5::q6::q7::q8::q9::q10::q11::q12::r::rs) r (q0::q1::q2::q3::q4::q5::q6::q7::q8::q9::q10::q11::q12::rs):=.t s12
def s14:nY (q0::q1::q2::q3::q4::q5::q6::q7::q8::q9::q10::q11::q12::q13::r::rs) r (q0::q1::q2::q3::q4::q5::q6::q7::q8::q9::q10::q11::q12::q13::rs):=.t s13
def s15:nY (q0::q1::q2::q3::q4::q5::q6::q7::q8::q9::q10::q11::q12::q13::q14::r::rs) r (q0::q1::q2::q3::q4::q5::q6::q7::q8::q9::q10::q11::q12::q13::q14::rs):=.t s14
def nY.perm{rest:V α}(h:nY rs r rest):rs.Perm (r::rest):=by
 induction h with
 | h=>rfl
 | t _ ih=>exact(ih.cons _).trans (List.Perm.swap _ _ _)
end
section
variable {b w w':World}{S S':Nat->Prop}{rs rs' rest F:List kF}{r r':kF}{α:Type}{τ:Ty α}{e:TypeId}{A A':ah}{c c':Nat}{xs ys:List α}
def Rd.perm(h:rs.Perm rs'):∀ g,Rd b S rs w g->Rd b S rs' w g:=by
 rintro g (h1 | ⟨h1,h2,h3⟩)
 ·exact .inl h1
 ·exact .inr (by grind)
def Hp.perm(H:Hp b S w rs)(h:rs.Perm rs'):Hp b S w rs':=
 ⟨H.ext,λr hr=>r.sub (Rd.perm h) (H.ok r (by grind)),λr hr=>H.lo r (by grind),
  H.dis.perm h (by grind)⟩
def Hp.sel(H:Hp b S w rs)(s:nY rs r rest):Hp b S w (r::rest):=H.perm s.perm
def Hp.init(w:World)(S:Nat->Prop):Hp w S w []:=⟨oW w,av,av,List.Pairwise.nil⟩
theorem Rd.grow(hw:w.heap.size<=w'.heap.size):∀ g,Rd b S rs w g->Rd b S rs w' g:=by
 rintro g (h1 | ⟨h1,h2,h3⟩)
 ·exact .inl h1
 ·exact .inr (by grind)
theorem Hp.grow(H:Hp b S w rs)(e:Ext w w'):Hp b S w' rs:=
 ⟨H.ext.trans e,λr hr=>r.sub (Rd.grow e.size) (r.keep (λg _ hlt=>e.block g hlt) (H.ok r hr)),
  λr hr g hg=>⟨(H.lo r hr g hg).1,aa1 (H.lo r hr g hg).2 e.size⟩,H.dis⟩
def Hp.tail(H:Hp b S w (r::rs)):Hp b S w rs:=by
 refine⟨H.ext,λq hq=>q.sub ?_ (H.ok q (by simp [hq])),λq hq=>H.lo q (by simp [hq]),(nT.1 H.dis).2⟩;rintro g (h1 | ⟨h1,h2,h3⟩)
 ·exact .inl h1
 ·exact .inr (by grind)
def Hp.rm(H:Hp b S w rs)(s:nY rs r rest):Hp b S w rest:=(H.sel s).tail
def Hp.new(H:Hp b S w rs)(e:Ext w w')(hW:∀ g,r.W g->w.heap.size<=g/\g<w'.heap.size)(hok:r.ok (Rd b S rs w) w'):Hp b S w' (r::rs):=by
 have hsub:∀ g,Rd b S rs w g->Rd b S (r::rs) w' g:=by
  rintro g (h1 | ⟨h1,h2,h3⟩)
  ·exact .inl h1
  ·refine .inr ⟨h1,aa1 h2 e.size,λq hq=>?_⟩
   grind
 refine⟨H.ext.trans e,λq hq=>?_,λq hq g hg=>?_,nT.2 ⟨λq hq g hg hg2=>?_,H.dis⟩⟩
 ·rcases gW.1 hq with rfl | hq
  ·exact q.sub hsub hok
  ·exact q.sub hsub (q.keep (λg _ hlt=>e.block g hlt) (H.ok q hq))
 ·rcases gW.1 hq with rfl | hq
  ·have h1:=hW g hg; have:=H.ext.size; omega
  ·have h1:=H.lo q hq g hg; have:=e.size; omega
 ·have h1:=(hW g hg).1; have h2:=(H.lo q hq g hg2).2; omega
structure Wr (b w w':World) (W:Nat->Prop):Prop where
  os:w'.os=w.os
  tape:w'.tape=w.tape
  output:w'.output=w.output
  size:w.heap.size<=w'.heap.size
  block:∀ k,k<w.heap.size->¬ W k->w'.heap[k]? = w.heap[k]?
  drawn:w.drawn<=w'.drawn
def Hp.put(H:Hp b S w (r::rs))(m:Wr b w w' r.W)(hW:∀ g,r'.W g->r.W g∨(w.heap.size<=g/\g<w'.heap.size))(hok:r'.ok (Rd b S (r::rs) w) w'):Hp b S w' (r'::rs):=by
 have hd:=nT.1 H.dis
 have hsub:∀ g,Rd b S (r::rs) w g->Rd b S (r'::rs) w' g:=by
  rintro g (h1 | ⟨h1,h2,h3⟩)
  ·exact .inl h1
  ·refine .inr ⟨h1,aa1 h2 m.size,λq hq=>?_⟩
   grind
 refine⟨⟨m.os.trans H.ext.os,m.tape.trans H.ext.tape,m.output.trans H.ext.output,lG H.ext.size m.size,λk hk=>?_,lG H.ext.drawn m.drawn⟩,λq hq=>?_,λq hq g hg=>?_,nT.2 ⟨λq hq g hg hg2=>?_,hd.2⟩⟩
 ·refine(m.block k (aa1 hk H.ext.size) λh=>?_).trans (H.ext.block k hk)
  have:=(H.lo r av k h).1; omega
 ·rcases gW.1 hq with rfl | hq
  ·exact q.sub hsub hok
  ·refine q.sub hsub (q.keep (λg hg hlt=>m.block g hlt λh=>?_) (H.ok q (by simp [hq])))
   rcases hg with hg | hg
   ·grind
   ·rcases hg with hg | hg
    ·have:=(H.lo r av g h).1; omega
    grind
 ·rcases gW.1 hq with rfl | hq
  ·rcases hW g hg with h1 | h1
   ·have:=H.lo r av g h1; have:=m.size; omega
   ·have:=H.ext.size; omega
  ·have h1:=H.lo q (by simp [hq]) g hg; have:=m.size; omega
 ·rcases hW g hg with h1 | h1
  ·grind
  ·have:=(H.lo q (by simp [hq]) g hg2).2; omega
def Hp.lift(H:Hp b S w F)(h:Hp w (Rd b S F w) w' rs):Hp b S w' (rs++F):=by
 have e:=h.ext
 have hs1:∀ g,Rd w (Rd b S F w) rs w' g->Rd b S (rs++F) w' g:=by
  rintro g (⟨h0,h1 | ⟨h1,h2,h3⟩⟩ | ⟨h1,h2,h3⟩)
  ·exact .inl h1
  ·refine .inr ⟨h1,aa1 h2 e.size,λq hq=>?_⟩
   rcases j5.1 hq with hq | hq
   ·intro h4; have:=(h.lo q hq g h4).1; omega
   grind
  ·refine .inr ⟨lG H.ext.size h1,h2,λq hq=>?_⟩
   rcases j5.1 hq with hq | hq
   ·grind
   ·intro h4; have:=(H.lo q hq g h4).2; omega
 have hs2:∀ g,Rd b S F w g->Rd b S (rs++F) w' g:=by
  rintro g (h1 | ⟨h1,h2,h3⟩)
  ·exact .inl h1
  ·refine .inr ⟨h1,aa1 h2 e.size,λq hq=>?_⟩
   rcases j5.1 hq with hq | hq
   ·intro h4; have:=(h.lo q hq g h4).1; omega
   grind
 refine⟨H.ext.trans e,λq hq=>?_,λq hq g hg=>?_,zO.2 ⟨h.dis,H.dis,λq hq p hp g hg hg2=>?_⟩⟩
 ·rcases j5.1 hq with hq | hq
  ·exact q.sub hs1 (h.ok q hq)
  ·exact q.sub hs2 (q.keep (λg _ hlt=>e.block g hlt) (H.ok q hq))
 ·rcases j5.1 hq with hq | hq
  ·have h1:=h.lo q hq g hg; have:=H.ext.size; omega
  ·have h1:=H.lo q hq g hg; have:=e.size; omega
 ·have h1:=(h.lo q hq g hg).1; have h2:=(H.lo p hp g hg2).2; omega
class zQ (r:kF):Prop where
  h:∀ {S S':Nat->Prop} {w:World},r.ok S w->r.ok S' w
instance [Flat τ]:zQ (aR τ e A c xs):=⟨λ{S S' w} h=>by
  obtain⟨css,hl,hR,hown⟩:=h
  exact⟨css,hl,λi y hy=>by grind [Flat.h],hown⟩⟩
instance {g:Nat}{t:TypeId}{cs:List Value}:zQ (dJ g t cs):=⟨λh=>h⟩
class acX (rs:List kF):Prop where
  h:∀ r∈rs,zQ r
instance:acX []:=⟨av⟩
instance [h1:zQ r][h2:acX rs]:acX (r::rs):=⟨λq hq=>by
  rcases gW.1 hq with rfl | hq
  · exact h1
  · exact h2.h q hq⟩
def Hp.re[hf:acX rs](h:Hp b S w rs):Hp b S' w rs:=⟨h.ext,λr hr=>(hf.h r hr).h (h.ok r hr),h.lo,h.dis⟩
def Hp.c0(H:Hp b S w F){S':Nat->Prop}(h:Hp w S' w' []):Hp b S w' F:=H.grow h.ext
def Hp.c1(H:Hp b S w F)(h:Hp w (Rd b S F w) w' [r]):Hp b S w' (r::F):=H.lift h
def Hp.c2{r1 r2:kF}(H:Hp b S w F)(h:Hp w (Rd b S F w) w' [r1,r2]):Hp b S w' (r1::r2::F):=H.lift h
def Hp.c3{r1 r2 r3:kF}(H:Hp b S w F)(h:Hp w (Rd b S F w) w' [r1,r2,r3]):Hp b S w' (r1::r2::r3::F):=H.lift h
def Hp.f1[zQ r](H:Hp b S w F)(h:Hp w S' w' [r]):Hp b S w' (r::F):=H.lift h.re
def Hp.f2{r1 r2:kF}[zQ r1][zQ r2](H:Hp b S w F)(h:Hp w S' w' [r1,r2]):Hp b S w' (r1::r2::F):=H.lift h.re
def Hp.f3{r1 r2 r3:kF}[zQ r1][zQ r2][zQ r3](H:Hp b S w F)(h:Hp w S' w' [r1,r2,r3]):Hp b S w' (r1::r2::r3::F):=H.lift h.re
def Hp.a(H:Hp b S w rs)(h:Sl τ S b A c xs):Sl τ (Rd b S rs w) w A c xs:=
 (h.ext H.ext |>.keep (w':=w) av) |> λ_=>((h.bd.sub (S':=Rd b S rs w) (λg hg=>.inl (by grind))).ext H.ext)
def Hp.o(H:Hp b S w rs)(s:nY rs (aR τ e A c xs) rest):Sl τ Any w A c xs:=
 Own.sl (H.ok (aR τ e A c xs) (s.perm.mem_iff.2 av)) (λ_ _=>trivial) (λ_ _=>trivial)
def Hp.ow(H:Hp b S w rs)(s:nY rs (aR τ e A c xs) rest):Own τ e b.heap.size (Rd b S rs w) w A c xs:=
 Own.lift (H.ok (aR τ e A c xs) (s.perm.mem_iff.2 av)) (λg hg=>(H.lo (aR τ e A c xs) (s.perm.mem_iff.2 av) g hg).1)
def Hp.s(H:Hp b S w rs)(s:nY rs (dI τ A c xs) rest):Sl τ (Rd b S rs w) w A c xs:=H.ok (dI τ A c xs) (s.perm.mem_iff.2 av)
def Hp.x{g:Nat}{t:TypeId}{cs:V Value}(H:Hp b S w rs)(s:nY rs (dJ g t cs) rest):Bx w g t cs:=H.ok (dJ g t cs) (s.perm.mem_iff.2 av)
def Hp.push(H:Hp b S w rs)(h:Sl τ (Rd b S rs w) w A c xs):Hp b S w (dI τ A c xs::rs):=H.new (oW w) (λ_ h=>h.elim) h
def Hp.nil(H:Hp b S w rs)(τ:Ty α)(e:TypeId):Hp b S w (aR τ e none 0 []::rs):=
 H.new (oW w) (λ_ h=>by cases h) (Own.none_ τ e 0 _ w)
def Hp.fz(H:Hp b S w rs)(s:nY rs (aR τ e A c xs) rest):Hp b S w (dI τ A c xs::rest):=by
 have H1:=H.sel s;have h2:Own τ e 0 (Rd b S (aR τ e A c xs::rest) w) w A c xs:=H1.ok (aR τ e A c xs) av;refine⟨H.ext,λq hq=>?_,λq hq g hg=>?_,nT.2 ⟨λq hq g hg=>hg.elim,(nT.1 H1.dis).2⟩⟩
 ·rcases gW.1 hq with rfl | hq
  ·show Sl τ (Rd b S (dI τ A c xs::rest) w) w A c xs
   have h3:Own τ e 0 (Rd b S (dI τ A c xs::rest) w) w A c xs:=h2.low (j4 _) (by
    rintro g (h | ⟨h4,h5,h6⟩)
    ·exact .inl h
    ·refine .inr ⟨h4,h5,λr hr=>?_⟩
     rcases gW.1 hr with rfl | hr
     ·exact λh=>h
     grind)
   refine h3.slb (λg hg=>?_) av;have h8:=H1.lo (aR τ e A c xs) av g hg;refine .inr ⟨h8.1,h8.2,λr hr=>?_⟩
   rcases gW.1 hr with rfl | hr
   ·exact λh=>h
   ·exact(nT.1 H1.dis).1 r hr g hg
  ·refine q.sub ?_ (H1.ok q (by simp [hq]))
   rintro g (h | ⟨h4,h5,h6⟩)
   ·exact .inl h
   ·refine .inr ⟨h4,h5,λr hr=>?_⟩
    rcases gW.1 hr with rfl | hr
    ·exact λh=>h
    grind
 ·rcases gW.1 hq with rfl | hq
  ·exact hg.elim
  ·exact H1.lo q (by simp [hq]) g hg
end
class Tk {α:Type} (n:Nat) (l:List α) (xs r:outParam (List α)):Prop where
  h:l=xs++r
class Ap {α:Type} (xs ys:List α) (o:outParam (List α)):Prop where
  h:xs++ys=o
instance Tk.z{α:Type}{l:List α}:Tk 0 l [] l:=⟨rfl⟩
instance Tk.s{α:Type}{n:Nat}{a:α}{l xs r:List α}[h:Tk n l xs r]:Tk (n+1) (a::l) (a::xs) r:=⟨by rw [h.h]; rfl⟩
instance Ap.z{α:Type}{l:List α}:Ap [] l l:=⟨rfl⟩
instance Ap.s{α:Type}{a:α}{l x o:List α}[h:Ap x l o]:Ap (a::x) l (a::o):=⟨by rw [<- h.h]; rfl⟩
instance (priority:=10) Ap.d{α:Type}{xs ys:List α}:Ap xs ys (xs++ys):=⟨rfl⟩
instance Ap.a{α:Type}{x y l o q:List α}[h:Ap x y q][g:Ap q l o]:Ap (x++y) l o:=⟨by rw [<- g.h,<- h.h]⟩
instance Tk.a{α:Type}{n:Nat}{x y l xs r:List α}[h:Ap x y l][g:Tk (n+1) l xs r]:Tk (n+1) (x++y) xs r:=⟨by rw [h.h,g.h]⟩
def Hp.off{b:World}{R:V kF}:∀ {B:V kF},Hp b S w (B++R)->Hp b S w R
 | [],H=>H
 | _::B,H=>Hp.off (B:=B) H.tail
def Hp.mV{b:World}{l P l1 B R x o:V kF}(H:Hp b S w l)(n k:Nat)[h1:Tk n l P l1][h2:Tk k l1 B R][h3:Ap P R x][h4:Ap B x o]:Hp b S w o:=
 H.perm (by rw [h1.h,h2.h,<- h4.h,<- h3.h]; simp [List.perm_append_comm_assoc])
def Hp.cU{b:World}{l P l1 B R o:V kF}(H:Hp b S w l)(n k:Nat)[h1:Tk n l P l1][h2:Tk k l1 B R][h3:Ap P R o]:Hp b S w o:=
 Hp.off (B:=B) (H.perm (by rw [h1.h,h2.h,<- h3.h]; simp [List.perm_append_comm_assoc]))
def nY.mid{r:α}:∀(P R:V α),nY (P++r::R) r (P++R)
 | [],_=>.h
 | _::P,R=>.t (nY.mid P R)
def sx{l P R x:V α}{r:α}(n:Nat)[h:Tk n l P (r::R)][h2:Ap P R x]:nY l r x:=by
 rw [h.h,<- h2.h]; exact nY.mid P R
def look:List (Nat × Value)->Nat->Option Value
  | [],_=>none
  | p::l,i=>bif Nat.beq p.1 i then some p.2 else look l i
def fM(l:List (Nat × Value)):Operand->Option Value
  | .tmp t=>look l t
  | .const v=>some v
  | .global g=>some (.pointer (some ⟨g,0,none⟩))
  | .func f=>some (.func (.func f) #[] #[])
def Ef(l:List (Nat × Value)):List Operand->Option (List Value)
  | []=>some []
  | x::xs=>match fM l x,Ef l xs with
    | some v,some vs=>some (v::vs)
    | _,_=>none
def PV(l:List (Nat × Value)):List (Nat × Operand)->Option (List (Nat × Value))
  | []=>some []
  | x::xs=>match fM l x.2,PV l xs with
    | some v,some vs=>some ((x.1,v)::vs)
    | _,_=>none
structure Cx where
  size:Nat
  round:Option Nat
  marks:List Nat
  plain:Bool
def Cx.C8(n:Cx):Cx:=⟨n.size,n.round,n.marks,true⟩
def Cx.fence(n:Cx):Fence:={ Fence.wide with round:=n.round }
def Cx.defers(n:Cx):List Deferred:=n.marks.map λaYb=>{ target:=.collected aYb,args:=#[] }
abbrev Cx.bare(k:Nat):Cx:=⟨k,none,[],false⟩
def Cx.ajx{n:Cx}(h:n.round=none):n.fence=Fence.wide:=by unfold Cx.fence; rw [h]; rfl
def Yb:=@Cx.ajx
structure Has (n:Cx) (l:List (Nat × Value)) (a:Act):Prop where
  defers:a.defers=n.defers
  size:a.tmps.size=n.size
  get:∀ i v,look l i=some v->a.tmps.getD i undef=v
section
variable {n:Cx}{l l':List (Nat × Value)}{a:Act}
def Has.eval(h:Has n l a){x:Operand}(hx:fM l x=some v):a.eval x=v:=by
 cases x with
 | tmp t=>exact h.get t v hx
 | const c=>injection hx
 | global g=>injection hx
 | func f=>injection hx
def Has.VL(h:Has n l a):∀ {xs:V Operand} {vs:V Value},Ef l xs=some vs->xs.map a.eval=vs
 | [],vs,hx=>by simp [Ef] at hx; simp [hx]
 | x::xs,vs,hx=>by
  unfold Ef at hx
  cases h1:fM l x with
  | none=>simp [h1] at hx
  | some v=>
   cases h2:Ef l xs with
   | none=>simp [h1,h2] at hx
   | some us=>
    simp [h1,h2] at hx
    subst hx
    simp [h.eval h1,Has.VL h h2]
def Has.PV(h:Has n l a):∀ {xs:V (Nat × Operand)} {vs:V (Nat × Value)},Proofs.YthcmboepffiliaaGreat.PV l xs=some vs->xs.map (λp=>(p.1,a.eval p.2))=vs
 | [],vs,hx=>by simp [Proofs.YthcmboepffiliaaGreat.PV] at hx; simp [hx]
 | x::xs,vs,hx=>by
  unfold Proofs.YthcmboepffiliaaGreat.PV at hx
  cases h1:fM l x.2 with
  | none=>simp [h1] at hx
  | some v=>
   cases h2:Proofs.YthcmboepffiliaaGreat.PV l xs with
   | none=>simp [h1,h2] at hx
   | some us=>
    simp [h1,h2] at hx
    subst hx
    simp [h.eval h1,Has.PV h h2]
def Has.put(h:Has n l a){d:Nat}(hd:Nat.blt d n.size=true)(v:Value):Has n ((d,v)::l) (a.put (some d) v):=by
 have hd':d<n.size:=by simp_all
 have hs:=h.size;refine⟨h.defers,by simp [Act.put,hs],λi u hu=>?_⟩;unfold look at hu
 cases hb:Nat.beq d i with
 | true=>
  have:d=i:=QL hb
  simp_all [Act.put]
 | false=>
  have hne:d≠i:=alC hb
  simp [hb] at hu
  have:=h.get i u hu
  simp_all [Act.put]
def anR(l:List (Nat × Value)):List (Nat × Value)->Prop
  | []=>True
  | p::r=>look l p.1=some p.2/\anR l r
theorem anR.look:∀ {r:V (Nat × Value)},anR l r->∀ i v,look r i=some v->look l i=some v
 | [],_,i,v,h=>by simp [Proofs.YthcmboepffiliaaGreat.look] at h
 | p::r,hs,i,v,h=>by
  unfold Proofs.YthcmboepffiliaaGreat.look at h
  cases hb:Nat.beq p.1 i with
  | true=>
   have:p.1=i:=QL hb
   simp [hb] at h
   subst this h;exact hs.1
  | false=>simp [hb] at h; exact anR.look hs.2 i v h
def Has.subs(h:Has n l a)(hs:anR l l'):Has n l' a:=⟨h.defers,h.size,λi v hv=>h.get i v (hs.look i v hv)⟩
def Has.set(h:Has n l a){t:Nat}{v':Value}(hl:look l t=some v)(e:v=v'):Has n ((t,v')::l) a:=by
 subst e;refine⟨h.defers,h.size,λi u hu=>?_⟩;unfold look at hu
 cases hb:Nat.beq t i with
 | true=>
  have:t=i:=QL hb;subst this
  simp [hb] at hu
  subst hu;exact h.get t v hl
 | false=>simp [hb] at hu; exact h.get i u hu
def enum:Nat->List Value->List (Nat × Value)
  | _,[]=>[]
  | i,v::vs=>(i,v)::enum (i+1) vs
def NW:∀(vs:V Value)(k i:Nat)(v:Value),look (enum k vs) i=some v->k<=i/\vs[i - k]? = some v
 | [],k,i,v,h=>by grind [enum,look]
 | u::vs,k,i,v,h=>by
  simp only [enum,look] at h
  cases hb:Nat.beq k i with
  | true=>
   simp_all
  | false=>
   have hne:k≠i:=alC hb
   simp [hb] at h
   obtain⟨h1,h2⟩:=NW vs (k+1) i v h
   grind
end
def WP(P:Program)(n:Cx)(c:Code)(l:List (Nat × Value))(w:World)(Q:Exit->Act->World->Prop):Prop:=∀ a,Has n l a->c.wpIn n.fence 0 P Q a w
def G7(P:Program)(n:Cx)(y:Code)(Q:Exit->Act->World->Prop):Act->World->Prop:=λa w=>y.wpIn n.fence 0 P Q a w
def l7(n:Cx)(Q:Exit->Act->World->Prop)(e:Exit)(l:List (Nat × Value))(w:World):Prop:=∀ a,Has n l a->Q e a w
def opw(P:Program)(n:Cx)(o:Oper)(a:Act)(w:World)(next:Act->World->Prop)(Q:Exit->Act->World->Prop):Prop:=
  match n.plain with
  | true=>o.wp P a w next Q
  | false=>o.wpIn n.fence 0 P a w next Q
theorem afV{n:Cx}{o:Oper}{a:Act}{K':Act->World->Prop}(h:∀ a w,K a w->K' a w)(hh:opw P n o a w K Q):opw P n o a w K' Q:=by
 grind [opw,Oper.wp_mono,Oper.wpIn_mono]
def Yc{n:Cx}{o:Oper}{a:Act}{x:Next}(hx:∀ d,x≠.defer d)(h:(execOp a.eval o).run P w=.ok x w'):o.semAt n.fence.round a.eval=execOp a.eval o:=by
 refine Oper.semAt_eq _ _ _ λc hc=>?_;unfold execOp at h;rw [hc] at h
 simp only [jh] at h
 cases hr:(resolve a.eval c o.type).run P w with
 | ok d w2=>
  rw [hr] at h
  simp at h
  grind
 | halt x w2=>simp_all
theorem NY{n:Cx}{o:Oper}{a:Act}(h:(execOp a.eval o).run P w=.ok (.value v) w')(k:K (a.put o.dst v) w'):opw P n o a w K Q:=by
 unfold opw
 cases n.plain with
 | true=>show o.wp P a w K Q; unfold Oper.wp; rw [h]; exact k
 | false=>exact⟨λ_ _=>trivial,by rw [Yc av h,h]; exact k⟩
def aqN{n:Cx}{o:Oper}{a:Act}(h:(execOp a.eval o).run P w=.ok .skip w')(k:K (a.put o.dst undef) w'):opw P n o a w K Q:=by
 unfold opw
 cases n.plain with
 | true=>show o.wp P a w K Q; unfold Oper.wp; rw [h]; exact k
 | false=>exact⟨λ_ _=>trivial,by rw [Yc av h,h]; exact k⟩
def Yd{n:Cx}{R:Ending->World->Prop}(k:Nat)(h:Calls P f args w R):CallsIn n.fence k P f args w R:=
 (callsIn_wide).2 h
def abB{n:Cx}{o:Oper}{a:Act}(h:(execOp a.eval o).run P w=.ok (.enter f args) w')
  (k:Calls P f args w' λe w''=>∃ v,e=.returned v/\K (a.put o.dst v) w''):opw P n o a w K Q:=by
 unfold opw
 cases n.plain with
 | true=>show o.wp P a w K Q; unfold Oper.wp; rw [h]; exact Gn k (by grind)
 | false=>exact⟨λ_ _=>trivial,by rw [Yc av h,h]; exact⟨λhd=>(by cases hd),CallsIn.mono (Yd _ k) (by grind)⟩⟩
def Ye(P:Program)(n:Cx)(M:Array Oper)(Q:Exit->Act->World->Prop)(K:Act->World->Prop):List Oper->Act->World->Prop
  | [],a,w=>K a w
  | o::rest,a,w=>if Region.wanted o (yielded M a.tmps) then opw P n o a w (Ye P n M Q K rest) Q else Ye P n M Q K rest (a.put o.dst undef) w
theorem alE{P:Program}{n:Cx}{M:Array Oper}{Q:Exit->Act->World->Prop}(hp:n.plain=false):∀(os:V Oper)(k:Nat),(∀ i,M[k+i]? = os[i]?)->∀ a w,Ye P n M Q (Q .normal) os a w->wpOpsIn n.fence 0 P M Q (List.range' k os.length) a w
 | [],k,_,a,w,h=>h
 | o::os,k,hk,a,w,h=>by
  have h0:M[k]? = some o:=by simpa using hk 0
  simp only [oO,List.range'_succ]
  unfold wpOpsIn;rw [h0]
  simp only []
  have ih:=alE (P:=P) (Q:=Q) hp os (k+1) (λi=>by have:=hk (i+1); simpa [Nat.add_assoc,Nat.add_comm 1] using this);unfold Ye at h
  split
  ·rename_i hw
   rw [aS hw] at h
   grind [opw,Oper.wpIn_mono]
  ·rename_i hw
   rw [aQ hw] at h;exact⟨λ_ _=>trivial,ih _ _ h⟩
def Yf{n:Cx}{a:Act}(hp:n.plain=false)(h:Ye P n ol.toArray Q (Q .normal) ol a w):(Code.region id ol.toArray false).wpIn n.fence 0 P Q a w:=by
 grind [wpIn_region,alE,List.range_eq_range']
def WL(P:Program)(n:Cx)(M:Array Oper)(Q:Exit->Act->World->Prop)(K:Act->World->Prop)(os:List Oper)(l:List (Nat × Value))(w:World):Prop:=
  ∀ a,Has n l a->Ye P n M Q K os a w
def bM(P:Program)(f:FuncId)(args:Array Value)(w:World)(R:Value->World->Prop):Prop:=Calls P f args w λe w'=>∃ v,e=.returned v/\R v w'
def bM.mono{R R':Value->World->Prop}(h:bM P f args w R)(hr:∀ v w',R v w'->R' v w'):bM P f args w R':=
 Gn h (by grind)
def RR(R:Value->World->Prop):Ending->World->Prop:=λe w'=>∃ v,e=.returned v/\R v w'
section
variable {P:Program}{n:Cx}{l l':List (Nat × Value)}{w w':World}{Q:Exit->Act->World->Prop}{K:Act->World->Prop}
def WP.enter{k:Nat}{c:Code}{vs:V Value}{R:Value->World->Prop}(hf:P.funcs[f]? = some fn)(hb:fn.body=some c)(hn:fn.ntmps=k)(hle:Nat.ble vs.length k=true)
  (h:WP P (.bare k) c (enum 0 vs) w (bodyPost P fn (RR R))):bM P f vs.toArray w R:=by
 refine calls_of_wp hf hb (X7.1 (h _ ⟨Y,?_,λi v hv=>?_⟩))
 ·simp_all
 ·obtain⟨_,h2⟩:=NW vs 0 i v hv
  have hi:i<vs.length:=(rG.1 h2).1
  simp_all [VI,rG,Array.getElem?_append]
def Yg:=@WP.enter
def WP.region(h:WL P n ol.toArray (Exit.then (G7 P n y Q) Q) (G7 P n y Q) ol l w)(hp:n.plain=false:=by rfl):WP P n (.seq (.region id ol.toArray false) y) l w Q:=
 λa ha=>VJ (Yf hp (h a ha))
def Dj:=@WP.region
def WP.Yh(h:WL P n ol.toArray Q (Q .normal) ol l w)(hp:n.plain=false:=by rfl):WP P n (.region id ol.toArray false) l w Q:=
 λa ha=>Yf hp (h a ha)
def WL.done(h:WP P n y l w Q):WL P n M Q' (G7 P n y Q) [] l w:=λa ha=>h a ha
def Dk:=@WL.done
def WL.afW(h:l7 n Q .normal l w):WL P n M Q' (Q .normal) [] l w:=λa ha=>h a ha
def WP.cond{c:Operand}{x z:Code}{b:Bool}(hc:fM l c=some (.bool b))(h1:b=true->WP P n x l w (Exit.then (G7 P n z Q) Q))(h2:b=false->WP P n y l w (Exit.then (G7 P n z Q) Q)):WP P n (.seq (.cond c x y) z) l w Q:=λa ha=>VJ (wpIn_cond_split (ha.eval hc) (λe=>h1 e a ha) (λe=>h2 e a ha))
def WP.aqO{c:Operand}{x:Code}{b:Bool}(hc:fM l c=some (.bool b))(h1:b=true->WP P n x l w Q)(h2:b=false->WP P n y l w Q):WP P n (.cond c x y) l w Q:=λa ha=>wpIn_cond_split (ha.eval hc) (λe=>h1 e a ha) (λe=>h2 e a ha)
def bS:=@WP.aqO
def WP.seq{x:Code}(h:WP P n x l w (Exit.then (G7 P n y Q) Q)):WP P n (.seq x y) l w Q:=λa ha=>VJ (h a ha)
def aZ:=@WP.seq
def WP.skip(h:l7 n Q .normal l w):WP P n .skip l w Q:=λa ha=>wpIn_skip (h a ha)
def yC:=@WP.skip
def WP.ret(h:l7 n Q .ret l w):WP P n .ret l w Q:=λa ha=>wpIn_ret (h a ha)
def jE:=@WP.ret
def WP.exit(h:l7 n Q (.exit id) l w):WP P n (.exit id) l w Q:=λa ha=>wpIn_exit (h a ha)
def tu:=@WP.exit
def WP.block{c:Code}(h:WP P n c l w (Exit.inBlock id Q)):WP P n (.block id c) l w Q:=λa ha=>wpIn_block (h a ha)
def dF:=@WP.block
def Again(n:Cx)(aX9:Nat->List (Nat × Value)->World->Prop)(m:Nat)(a:Act)(w:World):Prop:=∃ m' l,m'<m/\Has n l a/\aX9 m' l w
def WP.loop{c:Code}(aX9:Nat->V (Nat × Value)->World->Prop)(m0:Nat)(l0:V (Nat × Value))(hs:∀ a,Has n l a->Has n l0 a)(h0:aX9 m0 l0 w)
  (hr:∀ m l w',aX9 m l w'->WP P n c l w' (Exit.then (Again n aX9 m) Q)):WP P n (.loop c) l w Q:=λa ha=>by
 refine wpIn_loop_ghost (λm a w=>∃ l,Has n l a/\aX9 m l w) m0 (by grind) ?_;rintro m a w ⟨l,h1,h2⟩;refine wpIn_mono (hr m l w h2 a h1) ?_;intro e a' w' hq
 cases e with
 | normal=>obtain⟨m',l',h3,h4,h5⟩:=hq; exact⟨m',h3,l',h4,h5⟩
 | _=>exact hq
def l7.norm(h:WP P n y l w Q):l7 n (Exit.then (G7 P n y Q) Q) .normal l w:=λa ha=>h a ha
def fV:=@l7.norm
def l7.anS(h:l7 n Q (.exit i) l w):l7 n (Exit.then K Q) (.exit i) l w:=λa ha=>h a ha
def mG:=@l7.anS
def l7.aqP(h:l7 n Q .ret l w):l7 n (Exit.then K Q) .ret l w:=λa ha=>h a ha
def gG:=@l7.aqP
def l7.abC(h:l7 n Q (.goto i) l w):l7 n (Exit.then K Q) (.goto i) l w:=λa ha=>h a ha
def l7.axc(h:l7 n Q .ret l w):l7 n (Exit.inBlock id Q) .ret l w:=λa ha=>h a ha
def jM:=@l7.axc
def l7.aqQ(h:l7 n Q .normal l w):l7 n (Exit.inBlock id Q) .normal l w:=λa ha=>h a ha
def iF:=@l7.aqQ
def l7.aBP(h:l7 n Q .normal l w):l7 n (Exit.inBlock id Q) (.exit id) l w:=λa ha=>by
 show(if id=id then _ else _); rw [aS rfl]; exact h a ha
def tZ:=@l7.aBP
def l7.aBQ(hne:Nat.beq i id=false)(h:l7 n Q (.exit i) l w):l7 n (Exit.inBlock id Q) (.exit i) l w:=λa ha=>by
 show(if i=id then _ else _); rw [aQ (alC hne)]; exact h a ha
def LY:=@l7.aBQ
def WB(l:List (Nat × Value)):List ResultVar->Option (List Value)
  | []=>some []
  | .tmp t::rs=>match look l t,WB l rs with
    | some v,some vs=>some (v::vs)
    | _,_=>none
  | .cell _ _::_=>none
def rW:List Value->Value
  | [v]=>v
  | vs=>.tuple vs.toArray
def afX(f:ResultVar->Sem Value)(a:Act)(hf:∀ t,f (.tmp t)=pure (a.tmps.getD t undef))(ha:Has n l a):∀(rs:V ResultVar)(vs:V Value),WB l rs=some vs->(rs.mapM f).run P w=.ok vs w
 | [],vs,h=>by simp [WB] at h; subst h; rfl
 | .tmp t::rs,vs,h=>by
  unfold WB at h
  cases h1:look l t with
  | none=>simp [h1] at h
  | some v=>
   cases h2:WB l rs with
   | none=>simp [h1,h2] at h
   | some us=>
    simp [h1,h2] at h
    subst h;have:=afX f a hf ha rs us h2;have hg:=ha.get t v h1
    simp only [List.mapM_cons,jh,kZ,jv,hf,hg,this]
 | .cell _ _::_,vs,h=>by simp [WB] at h
def l7.aqR{R:Value->World->Prop}{rs:V ResultVar}{vs:V Value}(hr:fn.results=rs.toArray)(hv:WB l rs=some vs)(hw:rW vs=v)(hR:R v w)(hm:n.marks=[]:=by rfl):l7 n (bodyPost P fn (RR R)) .ret l w:=by
 intro a ha;refine⟨ha.defers.trans (by unfold Cx.defers; rw [hm]; rfl),v,?_,v,rfl,hR⟩;unfold results;rw [hr,jh,List.mapM_toArray,Sem.run_map,afX _ a (λ_=>rfl) ha rs vs hv]
 simp only [jv,kZ]
 subst hw
 match vs with
 | []=>simp [rW]
 | [v]=>simp [rW]
 | u::v::vs=>simp [rW]
def QN:=@l7.aqR
def l7.anT{R:Value->World->Prop}(h:l7 n (bodyPost P fn (RR R)) .ret l w):l7 n (bodyPost P fn (RR R)) .normal l w:=h
def o7:=@l7.anT
end
end
section
variable {a j d c m i k g bytes lo lb hi b:Nat}{v u:Value}{o:Oper}{R:Value->World->Prop}{op:Op}{ty t e t':TypeId}{pos:String}{lN:Array Edge}{bQ:Bool}{ol:List Oper}{y Iq x:Operand}{Qa:Act->Prop}{args:List Operand}{tys ts:Array TypeId}{f:FuncId}{caps vs cs:List Value}{A B:ah}{k':IntKind}{parts:List (Nat × Operand)}{α:Type}{S S2:Nat->Prop}{w:World}{p:α->Bool}{enc:α->List Value}{xs ys s:List α}{τ:Ty α}{xss:List (List α)}{key:α->Int}{hl:∀ x,(enc x).length=k}{h1:∀ x,∀ u∈enc x,u.oneCell'=true}
def Ev(P:Program)(n:Cx)(l:List (Nat × Value))(w:World)(op:Op)(v:Value):Prop:=
  ∀(o:Oper)(a:Act)(w':World),o.op=op->Has n l a->Ext w w'->(execOp a.eval o).run P w'=.ok (.value v) w'
def guardOf(M:Array Oper)(l:List (Nat × Value))(j:Nat):Option Value:=((M[j]?).bind (·.dst)).bind (look l)
def unlike(bQ:Bool):Value->Bool
  | .bool b=>b != bQ
  | _=>true
section
variable {P:Program}{n:Cx}{l l':List (Nat × Value)}{w w':World}{Q:Exit->Act->World->Prop}{K:Act->World->Prop}{M:Array Oper}{os:List Oper}
theorem ES{a:Act}(ha:Has n l a)(h:guardOf M l j=some v):yielded M a.tmps j=match v with | .bool b=>some b | _=>none:=by
 unfold guardOf at h;unfold yielded
 cases hd:(M[j]?).bind (·.dst) with
 | none=>grind
 | some t=>
  simp only [hd,Option.bind_some] at h ⊢
  have hg:=ha.get t v h
  simp only [KX] at hg
  cases ht:a.tmps[t]? with
  | none=>
   rw [ht] at hg
   simp at hg
   subst hg
   rfl
  | some u=>
   rw [ht] at hg
   simp at hg
   subst hg
   cases u <;> rfl
theorem WL.val(hw:∀ a,Has n l a->Region.wanted o (yielded M a.tmps)=true)(hdst:o.dst=some d)(hd:Nat.blt d n.size=true){R:World->Prop}
  (hrun:∀ a,Has n l a->∃ w',(execOp a.eval o).run P w=.ok (.value v) w'/\R w') (k:∀ w',R w'->WL P n M Q K os ((d,v)::l) w'):WL P n M Q K (o::os) l w:=by
 intro a ha;obtain⟨w',hr,hR⟩:=hrun a ha;unfold Ye;rw [aS (hw a ha)];refine NY hr ?_;rw [hdst];exact k w' hR _ (ha.put hd v)
def yD:=@WL.val
theorem WL.unit(hw:∀ a,Has n l a->Region.wanted o (yielded M a.tmps)=true)(hdst:o.dst=none){R:World->Prop}
  (hrun:∀ a,Has n l a->∃ w',(execOp a.eval o).run P w=.ok .skip w'/\R w') (k:∀ w',R w'->WL P n M Q K os l w'):WL P n M Q K (o::os) l w:=by
 intro a ha;obtain⟨w',hr,hR⟩:=hrun a ha;unfold Ye;rw [aS (hw a ha)];refine aqN hr ?_;rw [hdst];exact k w' hR a ha
def Py:=@WL.unit
theorem eY{d:Option Nat}(a:Act):Region.wanted ⟨d,op,ty,pos,lN,none⟩ (yielded M a.tmps)=true:=rfl
theorem rX{d:Option Nat}(hg:guardOf M l j=some (.bool bQ))(a:Act)(ha:Has n l a):Region.wanted ⟨d,op,ty,pos,lN,some (j,bQ)⟩ (yielded M a.tmps)=true:=by
 show(yielded M a.tmps j == some bQ)=true;rw [ES ha hg]
 simp
theorem WL.ev(h:Ev P n l w op v)(hd:Nat.blt d n.size=true)(k:WL P n M Q K os ((d,v)::l) w):WL P n M Q K (⟨some d,op,ty,pos,lN,none⟩::os) l w:=
 yD (by simp [eY]) rfl hd (λa ha=>⟨w,h _ a w rfl ha (oW w),rfl⟩) (by grind)
def Dl:=@WL.ev
theorem WL.evg(hg:guardOf M l j=some (.bool bQ))(h:Ev P n l w op v)(hd:Nat.blt d n.size=true)(k:WL P n M Q K os ((d,v)::l) w):WL P n M Q K (⟨some d,op,ty,pos,lN,some (j,bQ)⟩::os) l w:=
 yD (by grind [rX]) rfl hd (λa ha=>⟨w,h _ a w rfl ha (oW w),rfl⟩) (by grind)
def uf:=@WL.evg
theorem WL.pass(hg:guardOf M l j=some v)(hv:unlike bQ v=true)(hd:Nat.blt d n.size=true)(k:WL P n M Q K os ((d,undef)::l) w):WL P n M Q K (⟨some d,op,ty,pos,lN,some (j,bQ)⟩::os) l w:=by
 intro a ha;unfold Ye
 have:Region.wanted ⟨some d,op,ty,pos,lN,some (j,bQ)⟩ (yielded M a.tmps)=false:=by
  show(yielded M a.tmps j == some bQ)=false;rw [ES ha hg]
  cases v <;> simp [unlike] at hv ⊢
  all_goals grind
 rw [this];exact k _ (ha.put hd undef)
theorem WL.cut(m:Nat)(l1:V (Nat × Value))(h:WL P n M Q (λa' w'=>Has n l1 a'/\w'=w) (os.take m) l w)(k:WL P n M Q K (os.drop m) l1 w):WL P n M Q K os l w:=by
 intro a ha
 have key:∀(ys:V Oper)(a:Act)(w0:World),Ye P n M Q (λa' w'=>Has n l1 a'/\w'=w) ys a w0->Ye P n M Q K (ys++os.drop m) a w0:=by
  intro ys
  induction ys with
  | nil=>rintro a w0 ⟨h1,rfl⟩; exact k a h1
  | cons o ys ih=>
   intro a w0 hh
   simp only [abz]
   unfold Ye at hh ⊢
   grind [afV]
 have:=key (os.take m) a w (h a ha)
 rwa [Gp] at this
theorem WL.aMw(m:Nat)(l1:V (Nat × Value))(h:WL P n M Q (λa' w'=>Has n l1 a'/\Ext w w') (os.take m) l w)(k:∀ w',Ext w w'->WL P n M Q K (os.drop m) l1 w'):WL P n M Q K os l w:=by
 intro a ha
 have key:∀(ys:V Oper)(a:Act)(w0:World),Ye P n M Q (λa' w'=>Has n l1 a'/\Ext w w') ys a w0->Ye P n M Q K (ys++os.drop m) a w0:=by
  intro ys
  induction ys with
  | nil=>rintro a w0 ⟨h1,h2⟩; exact k w0 h2 a h1
  | cons o ys ih=>
   intro a w0 hh
   simp only [abz]
   unfold Ye at hh ⊢
   grind [afV]
 have:=key (os.take m) a w (h a ha)
 simp_all
theorem WL.re{t:Nat}(hl:look l t=some u)(e:u=v)(k:WL P n M Q K os ((t,v)::l) w):WL P n M Q K os l w:=
 λa ha=>k a (ha.set hl e)
def gZ:=@WL.re
theorem WP.re{t:Nat}{c:Code}(hl:look l t=some u)(e:u=v)(k:WP P n c ((t,v)::l) w Q):WP P n c l w Q:=
 λa ha=>k a (ha.set hl e)
def mP:=@WP.re
def WQ(P:Program)(n:Cx)(M:Array Oper)(w:World)(Qa:Act->Prop)(os:List Oper)(l:List (Nat × Value)):Prop:=∀ a,Has n l a->wpQuiet P M (λw'=>Ext w w') Qa os a
theorem WP.draw{id:Nat}{y:Code}(hm:P.follows .mixedOrders=true)(hB:Region.lexB .any ol.toArray=true)
  (h:WQ P n ol.toArray w (λa=>∀ w',Ext w w'->G7 P n y Q a w') ol l) (hro:n.round=none:=by rfl):WP P n (.seq (.region id ol.toArray true) y) l w Q:=λa ha=>by
 refine VJ ?_;rw [Yb hro];refine X7.2 (wp_region_quiet (C:=λw'=>Ext w w') hm hB ⟨Y,Y,Y,j4 _,av,acU _⟩ ?_);have:=h a ha;unfold G7 at this;rw [Yb hro] at this;exact this
def pW:=@WP.draw
theorem WQ.done{y:Code}(h:∀ w',Ext w w'->WP P n y l w' Q):WQ P n M w (λa=>∀ w',Ext w w'->G7 P n y Q a w') [] l:=λa ha w' e=>h w' e a ha
def pX:=@WQ.done
theorem WQ.ev(h:Ev P n l w op v)(hd:Nat.blt d n.size=true)(k:WQ P n M w Qa os ((d,v)::l)):WQ P n M w Qa (⟨some d,op,ty,pos,lN,none⟩::os) l:=by
 intro a ha;unfold wpQuiet;rw [aS (eY a)];refine⟨v,λw' e=>?_,k _ (ha.put hd v)⟩;unfold Oper.quietAt;rw [h _ a w' rfl ha e];exact⟨Y,Y⟩
def bf:=@WQ.ev
theorem WQ.evg(hg:guardOf M l j=some (.bool bQ))(h:Ev P n l w op v)(hd:Nat.blt d n.size=true)(k:WQ P n M w Qa os ((d,v)::l)):WQ P n M w Qa (⟨some d,op,ty,pos,lN,some (j,bQ)⟩::os) l:=by
 intro a ha;unfold wpQuiet;rw [aS (rX hg a ha)];refine⟨v,λw' e=>?_,k _ (ha.put hd v)⟩;unfold Oper.quietAt;rw [h _ a w' rfl ha e];exact⟨Y,Y⟩
def dM:=@WQ.evg
theorem WQ.pass(hg:guardOf M l j=some v)(hv:unlike bQ v=true)(hd:Nat.blt d n.size=true)(k:WQ P n M w Qa os ((d,undef)::l)):WQ P n M w Qa (⟨some d,op,ty,pos,lN,some (j,bQ)⟩::os) l:=by
 intro a ha;unfold wpQuiet
 have:Region.wanted ⟨some d,op,ty,pos,lN,some (j,bQ)⟩ (yielded M a.tmps)=false:=by
  show(yielded M a.tmps j == some bQ)=false;rw [ES ha hg]
  cases v <;> simp [unlike] at hv ⊢
  all_goals grind
 rw [this];exact k _ (ha.put hd undef)
def dw:=@WQ.pass
theorem WQ.re{t:Nat}(hl:look l t=some u)(e:u=v)(k:WQ P n M w Qa os ((t,v)::l)):WQ P n M w Qa os l:=
 λa ha=>k a (ha.set hl e)
def D6:=@WQ.re
theorem WQ.cut(m:Nat)(l1:V (Nat × Value))(h:WQ P n M w (λa'=>Has n l1 a') (os.take m) l)(k:WQ P n M w Qa (os.drop m) l1):WQ P n M w Qa os l:=by
 intro a ha
 have key:∀(ys:V Oper)(a:Act),wpQuiet P M (λw'=>Ext w w') (λa'=>Has n l1 a') ys a->wpQuiet P M (λw'=>Ext w w') Qa (ys++os.drop m) a:=by
  intro ys
  induction ys with
  | nil=>intro a h1; exact k a h1
  | cons o ys ih=>
   intro a hh
   simp only [abz]
   unfold wpQuiet at hh ⊢
   grind [Oper.quiet_mono]
 have:=key (os.take m) a (h a ha)
 simp_all
end
def bC(P:Program)(f:FuncId):Prop:=∀(args:Array Value)(w:World),(callFunc f args).run P w=.ok (.enter f args) w
section
variable {P:Program}{n:Cx}{l l':List (Nat × Value)}{w w':World}{Q:Exit->Act->World->Prop}{K:Act->World->Prop}{M:Array Oper}{os:List Oper}
theorem EH{a:Act}(ho:o.op=.call ⟨.value Iq,args.toArray,tys⟩)(ha:Has n l a){all:V Value}
  (hf:fM l Iq=some (.func (.func f) #[] caps.toArray)) (hargs:Ef l args=some vs) (hall:vs++caps=all) (hc:bC P f) (w:World):(execOp a.eval o).run P w=.ok (.enter f all.toArray) w:=by
 unfold execOp;rw [ho];have h1:=ha.eval hf;have h2:=ha.VL hargs
 simp only [resolve,h1,Deferred.ofValue,jh,kZ,jv,invoke]
 have:(#[]++Array.map a.eval args.toArray++caps.toArray:Array Value)=all.toArray:=by grind
 rw [this];exact hc _ w
theorem QO{a:Act}{args:Array Value}(hw:Region.wanted o (yielded M a.tmps)=true)(hrun:(execOp a.eval o).run P w=.ok (.enter f args) w)(hc:bM P f args w R)
  (k:∀ v w',R v w'->Ye P n M Q K os (a.put o.dst v) w'):Ye P n M Q K (o::os) a w:=by
 unfold Ye;rw [aS hw];refine abB hrun (Gn hc ?_)
 grind
theorem WL.call{all:V Value}
  (hf:fM l Iq=some (.func (.func f) #[] caps.toArray)) (hargs:Ef l args=some vs) (hall:vs++caps=all) (Ir:bC P f) (hc:bM P f all.toArray w R) (hd:Nat.blt d n.size=true)
  (k:∀ v w',R v w'->WL P n M Q K os ((d,v)::l) w'):WL P n M Q K (⟨some d,.call ⟨.value Iq,args.toArray,tys⟩,ty,pos,lN,none⟩::os) l w:=
 λa ha=>QO (eY a) (by grind [EH]) hc λv w' hv=>k v w' hv _ (ha.put hd v)
def KY:=@WL.call
theorem WL.afY{all:V Value}
  (hg:guardOf M l j=some (.bool bQ))
  (hf:fM l Iq=some (.func (.func f) #[] caps.toArray)) (hargs:Ef l args=some vs) (hall:vs++caps=all) (Ir:bC P f) (hc:bM P f all.toArray w R) (hd:Nat.blt d n.size=true)
  (k:∀ v w',R v w'->WL P n M Q K os ((d,v)::l) w'):WL P n M Q K (⟨some d,.call ⟨.value Iq,args.toArray,tys⟩,ty,pos,lN,some (j,bQ)⟩::os) l w:=
 λa ha=>QO (rX hg a ha) (by grind [EH]) hc λv w' hv=>k v w' hv _ (ha.put hd v)
def om:=@WL.afY
theorem WQ.call{all:V Value}
  (hf:fM l Iq=some (.func (.func f) #[] caps.toArray)) (hargs:Ef l args=some vs) (hall:vs++caps=all) (Ir:bC P f)
  (hc:∀ w',Ext w w'->bM P f all.toArray w' λu w''=>u=v/\Ext w' w'') (hd:Nat.blt d n.size=true)
  (k:WQ P n M w Qa os ((d,v)::l)):WQ P n M w Qa (⟨some d,.call ⟨.value Iq,args.toArray,tys⟩,ty,pos,lN,none⟩::os) l:=by
 intro a ha;unfold wpQuiet;rw [aS (eY a)];refine⟨v,λw' e=>?_,k _ (ha.put hd v)⟩;unfold Oper.quietAt;rw [EH rfl ha hf hargs hall Ir w'];exact⟨Y,Gn (hc w' e) λx w'' ⟨u,hx,hu,he⟩=>by subst hu; exact⟨hx,e.trans he⟩⟩
def LZ:=@WQ.call
theorem WQ.afY{all:V Value}
  (hg:guardOf M l j=some (.bool bQ))
  (hf:fM l Iq=some (.func (.func f) #[] caps.toArray)) (hargs:Ef l args=some vs) (hall:vs++caps=all) (Ir:bC P f)
  (hc:∀ w',Ext w w'->bM P f all.toArray w' λu w''=>u=v/\Ext w' w'') (hd:Nat.blt d n.size=true)
  (k:WQ P n M w Qa os ((d,v)::l)):WQ P n M w Qa (⟨some d,.call ⟨.value Iq,args.toArray,tys⟩,ty,pos,lN,some (j,bQ)⟩::os) l:=by
 intro a ha;unfold wpQuiet;rw [aS (rX hg a ha)];refine⟨v,λw' e=>?_,k _ (ha.put hd v)⟩;unfold Oper.quietAt;rw [EH rfl ha hf hargs hall Ir w'];exact⟨Y,Gn (hc w' e) λx w'' ⟨u,hx,hu,he⟩=>by subst hu; exact⟨hx,e.trans he⟩⟩
def QS:=@WQ.afY
end
def Size(P:Program)(t:TypeId)(k:Nat):Prop:=∀ w,(sizeOf t).run P w=.ok k w
def kW(P:Program)(t:TypeId):Prop:=∀ w,(isAgg t).run P w=.ok false w
def WC(P:Program)(t:TypeId)(k:Nat):Prop:=(∀ w,(isAgg t).run P w=.ok true w)/\Size P t k
def bU(P:Program)(s f off:Nat):Prop:=∀(a:Addr)(w:World),(Instr.fieldAt s (.pointer (some a)) f).run P w=.ok (.pointer (some (a.add off))) w
section
variable {P:Program}{n:Cx}{l:List (Nat × Value)}{w:World}
theorem Eh(hu:P.underlying t=some (.slice e)):P.elem t=e:=by simp [Program.elem,hu]
theorem rY(hu:P.underlying t=some (.slice e)):P.underlying t=some (.slice (P.elem t)):=by grind [Eh]
theorem Ev.move(hx:fM l x=some v):Ev P n l w (.move x) v:=λo a w' ho ha _=>by
 unfold execOp; rw [ho]; simp [ha.eval hx]
def dP:=@Ev.move
theorem Ev.assign(hx:fM l x=some v):Ev P n l w (.assign x) v:=λo a w' ho ha _=>by
 unfold execOp; rw [ho]; simp [ha.eval hx]
def tF:=@Ev.assign
theorem Ev.aBR{c:Operand}(hc:fM l c=some (.bool true))(hx:fM l x=some v):Ev P n l w (.pick c x y) v:=λo a w' ho ha _=>by
 unfold execOp; rw [ho]; simp [ha.eval hx,ha.eval hc,asBool]
def oP:=@Ev.aBR
theorem Ev.aBS{c:Operand}(hc:fM l c=some (.bool false))(hx:fM l y=some v):Ev P n l w (.pick c x y) v:=λo a w' ho ha _=>by
 unfold execOp; rw [ho]; simp [ha.eval hx,ha.eval hc,asBool]
def oU:=@Ev.aBS
theorem Ev.binop{op:BinOp}{r:Value}(hx:fM l x=some u)(hy:fM l y=some v)(hg:eqGuard op t x y u v=pure ())(hr:∀ w,(binOp op t u v).run P w=.ok r w):Ev P n l w (.binOp op t x y ty) r:=λo a w' ho ha _=>by
 unfold execOp; rw [ho]; simp [ha.eval hx,ha.eval hy,hg,hr]
def pY:=@Ev.binop
section
variable {t ty:TypeId}{x y:Operand}{k:IntKind}{a b:Int}
theorem Ev.lss(hx:fM l x=some (.int k a))(hy:fM l y=some (.int k b)):Ev P n l w (.binOp .lss t x y ty) (.bool (decide (a<b))):=
 pY hx hy (zP ..) (by simp [binOp_lss])
def iH:=@Ev.lss
theorem Ev.leq(hx:fM l x=some (.int k a))(hy:fM l y=some (.int k b)):Ev P n l w (.binOp .leq t x y ty) (.bool (decide (a<=b))):=
 pY hx hy (zP ..) (by simp [binOp_leq])
theorem Ev.gtr(hx:fM l x=some (.int k a))(hy:fM l y=some (.int k b)):Ev P n l w (.binOp .gtr t x y ty) (.bool (decide (b<a))):=
 pY hx hy (zP ..) (by simp [binOp_gtr])
theorem Ev.geq(hx:fM l x=some (.int k a))(hy:fM l y=some (.int k b)):Ev P n l w (.binOp .geq t x y ty) (.bool (decide (b<=a))):=
 pY hx hy (zP ..) (by simp [binOp_geq])
theorem Ev.eql(hx:fM l x=some (.int k a))(hy:fM l y=some (.int k b)):Ev P n l w (.binOp .eql t x y ty) (.bool (decide (a=b))):=
 pY hx hy (zP ..) λw=>by rw [binOp_eql]; rfl
def wQ:=@Ev.eql
theorem Ev.neq(hx:fM l x=some (.int k a))(hy:fM l y=some (.int k b)):Ev P n l w (.binOp .neq t x y ty) (.bool (!decide (a=b))):=
 pY hx hy (zP ..) λw=>by rw [binOp_neq]; rfl
def Gq:=@Ev.neq
theorem Ev.aMx(hx:fM l x=some (.int k a))(hy:fM l y=some (.int k b)):Ev P n l w (.binOp .add t x y ty) (.int k (k.wrap (a+b))):=
 pY hx hy (zP ..) λw=>by rw [binOp_add]; rfl
theorem Ev.aMy(hx:fM l x=some (.int k a))(hy:fM l y=some (.int k b)):Ev P n l w (.binOp .sub t x y ty) (.int k (k.wrap (a - b))):=
 pY hx hy (zP ..) λw=>by rw [binOp_sub]; rfl
theorem Ev.aMz(hx:fM l x=some (.int k a))(hy:fM l y=some (.int k b)):Ev P n l w (.binOp .mul t x y ty) (.int k (k.wrap (a*b))):=
 pY hx hy (zP ..) λw=>by rw [binOp_mul]; rfl
end
def I64(x:Int):Prop:=-9223372036854775808<=x/\x<=9223372036854775807
theorem I64.mk{x:Int}(h1:-9223372036854775808<=x)(h2:x<=9223372036854775807):I64 x:=⟨h1,h2⟩
def xR:=@I64.mk
theorem I64.wrap{x:Int}(h:I64 x):IntKind.i64.wrap x=x:=IntWalk.i64_in x h
section
variable {t ty:TypeId}{x y:Operand}{a b:Int}
theorem Ev.add(hx:fM l x=some (.int .i64 a))(hy:fM l y=some (.int .i64 b))(h:I64 (a+b)):Ev P n l w (.binOp .add t x y ty) (.int .i64 (a+b)):=by
 have:=Ev.aMx (P:=P) (n:=n) (w:=w) (t:=t) (ty:=ty) hx hy; rwa [h.wrap] at this
def L6:=@Ev.add
theorem Ev.sub(hx:fM l x=some (.int .i64 a))(hy:fM l y=some (.int .i64 b))(h:I64 (a - b)):Ev P n l w (.binOp .sub t x y ty) (.int .i64 (a - b)):=by
 have:=Ev.aMy (P:=P) (n:=n) (w:=w) (t:=t) (ty:=ty) hx hy; rwa [h.wrap] at this
theorem Ev.mul(hx:fM l x=some (.int .i64 a))(hy:fM l y=some (.int .i64 b))(h:I64 (a*b)):Ev P n l w (.binOp .mul t x y ty) (.int .i64 (a*b)):=by
 have:=Ev.aMz (P:=P) (n:=n) (w:=w) (t:=t) (ty:=ty) hx hy; rwa [h.wrap] at this
theorem Ev.neb{p q:Bool}(hu:P.underlying t=some .bool)(hx:fM l x=some (.bool p))(hy:fM l y=some (.bool q)):Ev P n l w (.binOp .neq t x y ty) (.bool (!(p == q))):=
 pY hx hy (eqGuard_at_bool ..) (by grind [run_neq_bool])
theorem Ev.alF{m' c':Nat}(hu:P.underlying t=some (.slice e))(hx:fM l x=some (.slice A m c))(hy:fM l y=some (.slice none m' c')):Ev P n l w (.binOp .eql t x y ty) (.bool A.isNone):=
 pY hx hy (eqGuard_at_slice ..) (by grind [Lib.run_eql_slice_nil])
theorem Ev.not{b:Bool}(hx:fM l x=some (.bool b)):Ev P n l w (.unOp .not t x) (.bool (!b)):=λo a w' ho ha _=>by
 unfold execOp; rw [ho]; simp [ha.eval hx]; rfl
def wC:=@Ev.not
theorem Ev.extract(hx:fM l x=some (.tuple vs.toArray))(hi:vs[i]? = some v):Ev P n l w (.extract x i) v:=λo a w' ho ha _=>by
 unfold execOp; rw [ho]; simp [ha.eval hx,Instr.extract,hi]
def yE:=@Ev.extract
theorem Ev.func{caps:V Operand}(hx:Ef l caps=some vs):Ev P n l w (.makeFunc (.func f) #[] caps.toArray) (.func (.func f) #[] vs.toArray):=λo a w' ho ha _=>by
 have h2:=ha.VL hx;unfold execOp; rw [ho]
 simp only [vI,h2]
 rfl
def rZ:=@Ev.func
theorem Ev.len(hu:P.underlying t=some (.slice e))(hx:fM l x=some (.slice A m c)):Ev P n l w (.call ⟨.builtin .len,#[x],#[t]⟩) (.int .i64 (m:Int)):=λo a w' ho ha _=>by
 unfold execOp; rw [ho]
 simp only [resolve,jh,kZ,jv,invoke,builtin,vI,mg,wB,ha.eval hx,run_len_slice w' t o.type A m c (rY hu)]
 rfl
def jf:=@Ev.len
theorem Ev.cap(hu:P.underlying t=some (.slice e))(hx:fM l x=some (.slice A m c)):Ev P n l w (.call ⟨.builtin .cap,#[x],#[t]⟩) (.int .i64 (c:Int)):=λo a w' ho ha _=>by
 unfold execOp; rw [ho]
 simp only [resolve,jh,kZ,jv,invoke,builtin,vI,mg,wB,ha.eval hx,run_cap_slice w' t o.type A m c (rY hu)]
 rfl
theorem Ev.index{kd:IntKind}{z:Int}(hu:P.underlying t=some (.slice e))(hs:Size P e k)(hx:fM l x=some (.slice A m c))(hy:fM l y=some (.int kd z))(hz:z=(i:Int))(hi:i<m)(hA:A=some (Gh A)):Ev P n l w (.indexAddr t x y) (.pointer (some ((Gh A).add (i*k)))):=λo a w' ho ha _=>by
 unfold execOp; rw [ho]
 have h1:(Instr.indexAt t (.slice A m c) (.int kd z)).run P w'=.ok (.pointer (some ((Gh A).add (i*k)))) w':=by
  rw [hA,run_indexAt_slice w' t _ m c kd z (rY hu),hz,aS (by grind),Eh hu,hs w']
  simp [Gh]
 simp [ha.eval hx,ha.eval hy,h1]
def d9:=@Ev.index
theorem Ev.field{s f off:Nat}{p q:Addr}(hf:bU P s f off)(hx:fM l x=some (.pointer (some p)))(hq:p.add off=q):Ev P n l w (.fieldAddr s x f) (.pointer (some q)):=λo a w' ho ha _=>by
 unfold execOp; rw [ho]; simp [ha.eval hx,hf p w',hq]
def fq:=@Ev.field
theorem Ev.aqS{p:Addr}(hn:kW P t)(hx:fM l x=some (.pointer (some p)))(hc:w.cell? p=some v):Ev P n l w (.load t x) v:=λo a w' ho ha e=>by
 unfold execOp; rw [ho]
 simp [ha.eval hx,Instr.loadAt,Instr.sureAddr,loadVar,hn w',run_load,e.cell hc]
def kG:=@Ev.aqS
theorem Ev.loadRow{p:Addr}(hn:WC P t k)(hx:fM l x=some (.pointer (some p)))(hk:cs.length=k)(hc:∀ j u,cs[j]? = some u->w.cell? (p.add j)=some u):Ev P n l w (.load t x) (.agg cs.toArray):=λo a w' ho ha e=>by
 unfold execOp; rw [ho];have h1:=alD (P:=P) w' p cs (λj u hu=>e.cell (hc j u hu));rw [hk] at h1
 simp [ha.eval hx,Instr.loadAt,Instr.sureAddr,loadVar,hn.1 w',hn.2 w',h1]
def iR:=@Ev.loadRow
theorem Ev.axd(hn:WC P t k)(hx:fM l x=some (.pointer (some ⟨g,0,none⟩)))(hk:cs.length=k)(hb:Bx w g t' cs):Ev P n l w (.load t x) (.agg cs.toArray):=
 iR hn hx hk λj u hu=>by
  have:(⟨g,0,none⟩:Addr).add j=⟨g,j,none⟩:=by simp [Px]
  rw [this,hb.cell]; exact hu
def fA:=@Ev.axd
theorem Ev.afZ{off:Nat}{cs':V Value}(hn:WC P t k)(hx:fM l x=some (.pointer (some ⟨g,off,none⟩)))(hk:cs'.length=k)(hb:Bx w g t' cs)(hs:(cs.drop off).take cs'.length=cs'):Ev P n l w (.load t x) (.agg cs'.toArray):=
 iR hn hx hk λj u hu=>by
  have h1:(⟨g,off,none⟩:Addr).add j=⟨g,off+j,none⟩:=by rw [Px]
  have h2:j<cs'.length:=(rG.1 hu).1;rw [h1,hb.cell]
  grind
def wD:=@Ev.afZ
theorem Ev.af0(hn:kW P t)(hx:fM l x=some (.pointer (some ⟨g,i,none⟩)))(hb:Bx w g t' cs)(hi:cs[i]? = some v):Ev P n l w (.load t x) v:=
 kG hn hx (by rw [hb.cell]; exact hi)
def dU:=@Ev.af0
theorem Ev.axe{d:TypeId}{k:IntKind}(hs:(P.underlying t).isSome=true)(hd:P.underlying d=some (.int (P.intKind d)))(hk:P.intKind d=k')(hx:fM l x=some (.int k a)):Ev P n l w (.convert t d x) (.int k' (k'.wrap a)):=λo ac w' ho ha _=>by
 unfold execOp; rw [ho];have:=run_convert_int w' t d k a hs hd;rw [hk] at this
 simp [ha.eval hx,this]
def Pz:=@Ev.axe
theorem Ev.max2{k:IntKind}(hx:fM l x=some (.int k a))(hy:fM l y=some (.int k' b)):Ev P n l w (.call ⟨.builtin .max,#[x,y],ts⟩) (.int k (if b>a then b else a)):=λo ac w' ho ha _=>by
 unfold execOp; rw [ho]
 simp only [resolve,jh,kZ,jv,invoke,builtin,vI,mg,wB,ha.eval hx,ha.eval hy,run_max_int2]
theorem Ev.min2{k:IntKind}(hx:fM l x=some (.int k a))(hy:fM l y=some (.int k' b)):Ev P n l w (.call ⟨.builtin .min,#[x,y],ts⟩) (.int k (if b<a then b else a)):=λo ac w' ho ha _=>by
 unfold execOp; rw [ho]
 simp only [resolve,jh,kZ,jv,invoke,builtin,vI,mg,wB,ha.eval hx,ha.eval hy,run_min_int2]
theorem Ev.build{vs:V (Nat × Value)}(hx:PV l parts=some vs)(hb:P.built t vs=some cs.toArray):Ev P n l w (.build t parts.toArray) (.agg cs.toArray):=λo a w' ho ha _=>by
 unfold execOp; rw [ho];have h1:=run_build w' t vs.toArray cs.toArray (by simpa using hb)
 simp only [vI,ha.PV hx,jh,h1,jv,kZ]
def iT:=@Ev.build
end
end
theorem Sl.eZ{pos:0<k}
  (h:Sl (Ty.flat k enc pos hl h1) S w A c xs) {x:α} (hx:xs[i]? = some x) (hj:(enc x)[j]? = some u):w.cell? ((Gh A).add (i*k+j))=some u:=by
 obtain⟨_,cs,h2,h3⟩:=h.rows i x hx;have:cs=enc x:=h2;subst this;exact h3 j u hj
theorem Sl.fF{pos:0<k}
  (h:Sl (Ty.flat k enc pos hl h1) S w A c xs) {x:α} (hx:xs[i]? = some x):∀ j u,(enc x)[j]? = some u->w.cell? (((Gh A).add (i*k)).add j)=some u:=λj u hj=>by
 rw [fD]; exact h.eZ hx hj
section
variable {P:Program}{n:Cx}{l:List (Nat × Value)}{w:World}{Q:Exit->Act->World->Prop}{K:Act->World->Prop}{M:Array Oper}{os:List Oper}{ty:TypeId}{pos:String}{lN:Array Edge}{d:Nat}
theorem WL.box(hx:fM l x=some v)(hcs:v.cells=cs.toArray)(hd:Nat.blt d n.size=true)
  (k:∀ w',Ext w w'->Bx w' w.heap.size t cs->w'.heap.size=w.heap.size+1->WL P n M Q K os ((d,fK w.heap.size)::l) w'):WL P n M Q K (⟨some d,.box t x,ty,pos,lN,none⟩::os) l w:=
 yD (by simp [eY]) rfl hd (λa ha=>⟨_,by
  unfold execOp
  simp only [ha.eval hx,Instr.box,newVar,newRow,hcs,jh,run_newObj,kZ,jv]
  rfl,rfl⟩) (by simp_all [anQ,Bx.new])
theorem WL.alloc{z:Value}(hz:∀ w,(zeroValue t).run P w=.ok z w)(hcs:z.cells=cs.toArray)(hd:Nat.blt d n.size=true)
  (k:∀ w',Ext w w'->Bx w' w.heap.size t cs->w'.heap.size=w.heap.size+1->WL P n M Q K os ((d,fK w.heap.size)::l) w'):WL P n M Q K (⟨some d,.alloc t,ty,pos,lN,none⟩::os) l w:=
 yD (λa _=>eY a) rfl hd (λa ha=>⟨_,by
  unfold execOp
  simp only [Instr.alloc,hz,newVar,newRow,hcs,jh,run_newObj,kZ,jv]
  rfl,rfl⟩) λw' e=>by
  subst e;exact k _ (anQ w _) (Bx.new w t cs) av
theorem WL.buildSlice{vs:V (Nat × Value)}(hx:PV l parts=some vs)
  (hb:∀ w,(Instr.buildSlice t m vs.toArray).run P w=.ok (.slice (some ⟨w.heap.size,0,none⟩) m m) (w.alloc (.cells cs.toArray e))) (hd:Nat.blt d n.size=true) (hk:cs.length=m*k)
  (kk:∀ w',Ext w w'->Bx w' w.heap.size e cs->w'.heap.size=w.heap.size+1->WL P n M Q K os ((d,.slice (some ⟨w.heap.size,0,none⟩) m m)::l) w'):WL P n M Q K (⟨some d,.buildSlice t m parts.toArray,ty,pos,lN,none⟩::os) l w:=
 yD (v:=.slice (some ⟨w.heap.size,0,none⟩) m m) (by simp [eY]) rfl hd (R:=λw'=>w'=w.alloc (.cells cs.toArray e)) (λa ha=>⟨_,by
  unfold execOp
  simp only [vI,ha.PV hx,jh,hb,jv,kZ],rfl⟩) (by simp_all [anQ,Bx.new])
theorem acY{ds:V Value}(hs:Size P t ds.length)(hb:Bx w g t' cs)(hl:cs.length=ds.length)(h1:∀ u∈ds,u.oneCell'=true)(hv:v.cells=ds.toArray):∃ w',(Instr.storeAt t (fK g) v).run P w=.ok () w'/\Mod g w w'/\Bx w' g t' ds/\w'.heap.size=w.heap.size:=by
 have hst:=abA P g 0 t' ds 0 cs.toArray w hb (by simp [hl]) h1;refine⟨w.setRow g ds.toArray,?_,⟨Y,Y,Y,av,by grind [setRow_other],j4 _⟩,VK w g cs.toArray ds.toArray t' (0,0) hb,av⟩
 ·simp only [Instr.storeAt,Instr.sureAddr,storeVar,hv,jh,kZ,jv,hs w]
  grind
theorem WL.aqT{ds:V Value}(hx:fM l x=some (fK g))(hy:fM l y=some v)(hv:v.cells=ds.toArray)(hs:Size P t ds.length)(hb:Bx w g t' cs)(hl:cs.length=ds.length)(h1:∀ u∈ds,u.oneCell'=true)
  (k:∀ w',Mod g w w'->Bx w' g t' ds->w'.heap.size=w.heap.size->WL P n M Q K os l w'):WL P n M Q K (⟨none,.store t x y,ty,pos,lN,none⟩::os) l w:=
 Py (by simp [eY]) rfl (λa ha=>by
  obtain⟨w',h2,h3⟩:=acY hs hb hl h1 hv
  exact⟨w',by unfold execOp; simp [ha.eval hx,ha.eval hy,h2],h3⟩) (by grind)
theorem aa2(hs:Size P t 1)(hb:Bx w g t' cs)(hi:i<cs.length)(h1:v.oneCell'=true):(Instr.storeAt t (.pointer (some ⟨g,i,none⟩)) v).run P w=.ok () (w.setCell ⟨g,i,none⟩ v):=by
 have hc:v.cells=#[v]:=by cases v <;> simp [Value.cells,Value.oneCell'] at h1 ⊢
 have h2:w.cell? ⟨g,i,none⟩=some (cs[i]'hi):=by rw [hb.cell]; exact Ip hi
 simp only [Instr.storeAt,Instr.sureAddr,storeVar,hc,jh,kZ,jv,hs w]
 simp [storeCells,Addr.add,run_store P w ⟨g,i,none⟩ v .plain h1,h2,hb.frozen]
theorem WL.anU(hx:fM l x=some (.pointer (some ⟨g,i,none⟩)))(hy:fM l y=some v)(h1:v.oneCell'=true)(hs:Size P t 1)(hb:Bx w g t' cs)(hi:i<cs.length)
  (k:∀ w',Mod g w w'->Bx w' g t' (cs.set i v)->w'.heap.size=w.heap.size->WL P n M Q K os l w'):WL P n M Q K (⟨none,.store t x y,ty,pos,lN,none⟩::os) l w:=
 Py (by simp [eY]) rfl (R:=λw'=>w'=w.setCell ⟨g,i,none⟩ v) (λa ha=>⟨_,by
  unfold execOp; simp [ha.eval hx,ha.eval hy,aa2 hs hb hi h1],rfl⟩) λw' e=>by
  subst e;exact k _ (Mod.setCell w ⟨g,i,none⟩ v) (hb.aMu i v) av
structure kH (P:Program) (e:TypeId) (k bytes:Nat):Prop where
  ex:∃(i:TypeInfo)(z:Value),P.info? e=some i/\i.zero=some z/\i.size=k/\i.bytes=bytes/\z.cells.size=k
theorem ajz{c2:Nat}(hT:P.underlying t=some (.slice e))(hI:kH P e τ.k bytes)
  (ho:Own τ e lo S w A c xs) (hy:Sl τ S2 w B c2 ys) (alG:∀ w x cs,τ.R S2 w x cs->τ.R S w x cs) (hS:∀ g,blk A=some g->¬ S g) (hmax:xs.length+ys.length<=maxLen) (hby:(xs.length+ys.length)*bytes<=140737488355328) (hlo:lo<=w.heap.size) (r:TypeId) :
  ∃ A' c' w',(Builtin.append_ #[t,t] r #[.slice A xs.length c,.slice B ys.length c2]).run P w=.ok (.slice A' (xs++ys).length c') w'/\Own τ e lo S w' A' c' (xs++ys)/\O7 w w' (blk A)/\(blk A'=blk A∨blk A'=some w.heap.size):=by
 obtain⟨i,z,hi,hz,hsz,hb,hzs⟩:=hI.ex;have hblk:∀ m c,(Value.slice A m c).ownBlock=blk A:=by intro m c; cases A <;> rfl
 by_cases hys:ys=[]
 ·subst hys
  obtain⟨css,hl,hR,hown⟩:=ho;refine⟨A,c,w,?_,?_,⟨Y,Y,Y,j4 _,av,j4 _⟩,.inl rfl⟩
  ·rcases hown.2 with ⟨hv,hn⟩ | ⟨g,cap,cur,hv,_,_,hnc,_⟩
   ·injection hv with hA hn' hc
    subst hA hc
    cases B <;> simp [Builtin.append_,jV hT,sizeOf,typeInfo,hi,Builtin.lenOf,hn,Builtin.firstCells,loadCells,loadCellsFrom]
   ·injection hv with hA hn' hc
    subst hA hc
    cases B <;> simp [Builtin.append_,jV hT,sizeOf,typeInfo,hi,Builtin.lenOf,hnc,Builtin.firstCells,loadCells,loadCellsFrom,storeCells]
  ·rw [Aj]
   exact⟨css,hl,hR,hown⟩
 ·have hB:B=some (Gh B):=hy.some_ (i:=0) (x:=ys.head hys) (by grind)
  obtain⟨css,hl,hR,hown⟩:=ho;obtain⟨dss,h1,h2,h3,h4,h5⟩:=hy.cells;obtain⟨v',w',hrun,hown',hg,_,hat⟩:=run_append_own_at w lo t r e i z τ.k bytes hT hi hz hsz hb hzs τ.pos _ _ _ hown (Gh B) ys.length c2 dss.flatten h3 h5 h4 hmax hby hlo
  obtain⟨A',c',hv⟩:∃ A' c',v'=.slice A' (xs++ys).length c':=by
   rcases hown'.2 with ⟨hv,hn⟩ | ⟨g,cap,cur,hv,_⟩
   all_goals grind
  subst hv;have hA':(Value.slice A' (xs++ys).length c').ownBlock=blk A':=by cases A' <;> rfl
  rw [hA',hblk] at hat;rw [hblk] at hg;have hg:=O7.of hg (anP _ _ _ _ hrun)
  have hkeep:∀ x cs,τ.R S w x cs->τ.R S w' x cs:=by
   intro x cs hx
   cases hA:blk A with
   | none=>rw [hA] at hg; exact τ.ext (by grind [Ext.yB]) hx
   | some g=>rw [hA] at hg; exact τ.mod (by grind [Mod.yB]) (hS g hA) hx
  refine⟨A',c',w',by rw [hB]; exact hrun,⟨css++dss,by simp [hl,h1],?_,?_⟩,hg,hat⟩
  all_goals grind
theorem WL.append{c2:Nat}{s:Operand}(hs:fM l s=some (.slice A xs.length c))(hx:fM l x=some (.slice B ys.length c2))
  (ho:Own τ e lo S w A c xs) (hy:Sl τ S2 w B c2 ys) (hT:P.underlying t=some (.slice e)) (hI:kH P e τ.k bytes) (alG:∀ w x cs,τ.R S2 w x cs->τ.R S w x cs) (hS:∀ g,blk A=some g->¬ S g)
  (hmax:xs.length+ys.length<=maxLen) (hby:(xs.length+ys.length)*bytes<=140737488355328) (hlo:lo<=w.heap.size) (hd:Nat.blt d n.size=true)
  (k:∀ A' c' w',Own τ e lo S w' A' c' (xs++ys)->O7 w w' (blk A)->(blk A'=blk A∨blk A'=some w.heap.size)->WL P n M Q K os ((d,.slice A' (xs++ys).length c')::l) w') :
  WL P n M Q K (⟨some d,.call ⟨.builtin .append,#[s,x],#[t,t]⟩,ty,pos,lN,none⟩::os) l w:=by
 obtain⟨A',c',w',hrun,h1,h2,h3⟩:=ajz hT hI ho hy alG hS hmax hby hlo ty
 refine yD (v:=.slice A' (xs++ys).length c') (by simp [eY]) rfl hd (λa ha=>⟨w',?_,rfl⟩) (by grind);unfold execOp
 simp only [resolve,jh,kZ,jv,invoke,builtin,vI,mg,wB,ha.eval hs,ha.eval hx,hrun]
theorem WL.app{c2:Nat}{s:Operand}(hs:fM l s=some (.slice A xs.length c))(hx:fM l x=some (.slice B ys.length c2))
  (ho:Own τ e lo S w A c xs) (hy:Sl τ S2 w B c2 ys) (hT:P.underlying t=some (.slice e)) (hI:kH P e τ.k bytes) (alG:∀ w x cs,τ.R S2 w x cs->τ.R S w x cs) (hS:∀ g,blk A=some g->¬ S g)
  (hm1:xs.length<=1000000) (hm2:ys.length<=1000000) (hby:Nat.ble bytes 1000=true) (hlo:lo<=w.heap.size) (hd:Nat.blt d n.size=true)
  (k:∀ A' c' w',Own τ e lo S w' A' c' (xs++ys)->O7 w w' (blk A)->(blk A'=blk A∨blk A'=some w.heap.size)->WL P n M Q K os ((d,.slice A' (xs++ys).length c')::l) w') :
  WL P n M Q K (⟨some d,.call ⟨.builtin .append,#[s,x],#[t,t]⟩,ty,pos,lN,none⟩::os) l w:=
 WL.append hs hx ho hy hT hI alG hS (by simp only [maxLen]; omega) (lG (LX (show _<=2000000 by omega) (nU hby)) au) hlo hd k
end
def No:Nat->Prop:=λ_=>False
theorem Own.fr{a:World}(h:Own τ e lo No w A c xs)(hlo:a.heap.size<=lo):Sl τ (Fr a) w A c xs:=
 h.sl (λ_ hb=>lG hlo hb) (λ_ hb=>hb.elim)
theorem Bx.ajA{x:α}(h:Bx w g e cs)(hR:τ.R S2 w x cs)(hg:S g)(hS:∀ b,S2 b->S b):Sl τ S w (some ⟨g,0,none⟩) 1 [x]:=by
 refine⟨av,au,av,λi y hy=>?_⟩
 cases i with
 | succ i=>grind
 | zero=>
  simp at hy
  subst hy;refine⟨hg,cs,τ.sub hS hR,λj u hu=>?_⟩;have:(Gh (some ⟨g,0,none⟩)).add (0*τ.k+j)=⟨g,j,none⟩:=by simp [Gh,Px]
  rw [this,h.cell];exact hu
theorem Bx.anV(h:Bx w g e [])(hlo:lo<=g):Own τ e lo S w (some ⟨g,0,none⟩) 0 []:=
 ⟨[],rfl,λi x hx=>by simp at hx,av,.inr ⟨g,0,#[],rfl,hlo,h,j4 _,by simp [maxLen],av,av⟩⟩
theorem Bx.axf{x:α}(h:Bx w g e cs)(hR:τ.R S w x cs)(hlo:lo<=g):Own τ e lo S w (some ⟨g,0,none⟩) 1 [x]:=by
 have hl:=τ.len hR;refine⟨[cs],Y,λi y hy=>?_,by simp [hl],.inr ⟨g,1,cs.toArray,rfl,hlo,h,j4 _,au,by simp [hl],by simp [<- hl]⟩⟩
 grind
def Apart(A B:ah):Prop:=∀ g,blk A=some g->blk B≠some g
theorem Own.grown{w':World}(h:Own τ e lo S w A c xs)(hg:O7 w w' (blk B))(ap:Apart A B)(hS:∀ g,blk B=some g->¬ S g):Own τ e lo S w' A c xs:=by
 cases hB:blk B with
 | none=>rw [hB] at hg; exact h.ext (by grind [Ext.yB])
 | some g=>
  rw [hB] at hg;exact h.mod (by grind [Mod.yB]) (hS g hB) (λhA=>ap g hA hB)
def Only(K:Act->World->Prop):Exit->Act->World->Prop
  | .normal,a,w=>K a w
  | _,_,_=>False
def WH(P:Program)(n:Cx)(M:Array Oper)(K:Act->World->Prop)(S:World->Prop)(fuel:Nat)(aW:Array Bool)(l:List (Nat × Value))(w:World):Prop:=
  ∀ a,Has n l a->wpAnyH P .any M (Only K) S fuel aW a w
def HK(P:Program)(M:Array Oper)(K:Act->World->Prop)(S:World->Prop)(fuel:Nat)(aW:Array Bool):Act->World->Prop:=
  λa w=>S w/\wpAnyH P .any M (Only K) S fuel aW a w
def JK(n:Cx)(aX9:List (Nat × Value)->World->Prop):Act->World->Prop:=λa w=>∃ l,Has n l a/\aX9 l w
section
variable {P:Program}{n:Cx}{l l':List (Nat × Value)}{w w':World}{Q:Exit->Act->World->Prop}{K:Act->World->Prop}{M:Array Oper}{S:World->Prop}{fuel:Nat}{aW:Array Bool}
theorem WP.held{id:Nat}{y:Code}(S:World->Prop)(aX9:V (Nat × Value)->World->Prop)(hm:P.follows .mixedOrders=true)
  (h:WH P n ol.toArray (JK n aX9) S ol.length (List.replicate ol.length false).toArray l w.drew) (k:∀ l' w',aX9 l' w'->WP P n y l' w' Q) (hro:n.round=none:=by rfl):WP P n (.seq (.region id ol.toArray true) y) l w Q:=λa ha=>by
 refine VJ ?_;have e:n.fence=Fence.wide:=Yb hro
 suffices hx:(Code.region id ol.toArray true).wp P (Exit.then (G7 P n y Q) Q) a w by
  show(Code.region id ol.toArray true).wpIn n.fence 0 P (Exit.then (G7 P n y Q) Q) a w
  grind [wpIn_wide]
 refine wp_mono (wp_region_held (Q:=Only (JK n aX9)) (S:=S) hm ?_) ?_
 ·have:=h a ha
  simp_all
 ·intro e a' w' hq
  cases e with
  | normal=>obtain⟨l',h1,h2⟩:=hq; exact k l' w' h2 a' h1
  | _=>exact hq.elim
theorem WP.aqU{id:Nat}(S:World->Prop)(aX9:V (Nat × Value)->World->Prop)(hm:P.follows .mixedOrders=true)
  (h:WH P n ol.toArray (JK n aX9) S ol.length (List.replicate ol.length false).toArray l w.drew) (k:∀ l' w',aX9 l' w'->l7 n Q .normal l' w') (hro:n.round=none:=by rfl):WP P n (.region id ol.toArray true) l w Q:=λa ha=>by
 rw [Yb hro];refine X7.2<|wp_mono (wp_region_held (Q:=Only (JK n aX9)) (S:=S) hm ?_) ?_
 ·have:=h a ha
  simp_all
 ·intro e a' w' hq
  cases e with
  | normal=>obtain⟨l',h1,h2⟩:=hq; exact k l' w' h2 a' h1
  | _=>exact hq.elim
theorem WH.done{aX9:V (Nat × Value)->World->Prop}(l':V (Nat × Value))(hr:Region.ready .any M aW=[])(hs:anR l l')(hJ:aX9 l' w):WH P n M (JK n aX9) S fuel aW l w:=
 λ_ ha=>wpAnyH_done hr ⟨l',ha.subs hs,hJ⟩ fuel
theorem WH.all{rs:V Nat}(hr:Region.ready .any M aW=rs)(hne:rs≠[])
  (h:∀ i∈rs,∃ o,M[i]? = some o/\WL P n.C8 M (Only K) (HK P M K S fuel (aW.setIfInBounds i true)) [o] l w):WH P n M K S (fuel+1) aW l w:=λa ha=>
 wpAnyH_all hr hne λi hi=>by
  obtain⟨o,ho,hk⟩:=h i hi;have h1:=hk a ⟨ha.defers,ha.size,ha.get⟩;unfold Ye at h1;unfold wpOp;rw [ho];show(if Region.wanted o (yielded M a.tmps) then _ else _)
  split
  ·rename_i hw
   rw [aS hw] at h1;exact .inl h1
  ·rename_i hw
   rw [aQ hw] at h1;exact h1
def xX:=@WH.all
theorem WH.next(hS:S w)(h:WH P n M K S fuel aW l w):WL P n.C8 M (Only K) (HK P M K S fuel aW) [] l w:=λa ha=>⟨hS,h a ⟨ha.defers,ha.size,ha.get⟩⟩
def aO:=@WH.next
end
section
variable {P:Program}{n:Cx}{l:List (Nat × Value)}{w:World}{Q:Exit->Act->World->Prop}{K:Act->World->Prop}{M:Array Oper}{os:List Oper}{ty:TypeId}{pos:String}{lN:Array Edge}{d:Nat}
theorem Ub(τ:Ty α){ti:TypeId}(hT:P.underlying t=some (.slice e))(hi:P.underlying ti=some (.int .i64))(hI:kH P e τ.k bytes)(m:Nat)(h0:0<m)(hm:m<=1000000)(hby:Nat.ble bytes 1000=true)(r:TypeId):∃ g c w',(Builtin.append_ #[t,ti] r #[.slice none 0 0,O (m:Int)]).run P w=.ok (.slice (some ⟨g,0,none⟩) m c) w'/\Ext w w'/\Own τ e w.heap.size No w' (some ⟨g,0,none⟩) c []:=by
 obtain⟨i,z,h1,h2,h3,h4,h5⟩:=hI.ex
 have hb:bytes<=1000:=nU hby
 have hw:IntKind.i64.wrap (m:Int)=(m:Int):=(xR aj aj).wrap;have hmb:m*bytes<=1000000*1000:=LX hm hb;have aTs:(m:Int)*(bytes:Int)<=1000000000:=by grind
 have hnx:Builtin.nextslicecap m 0=m:=nextslicecap_zero h0;have hz1:z.cells.size=τ.k:=h5;refine⟨w.heap.size,grownCap w m 0 e,(w.drew).alloc (.cells ((#[]:Array Value)++Builtin.zeroCells z.cells m++Builtin.zeroCells z.cells (grownCap w m 0 e - m)) e),?_,?_,?_⟩
 ·have hcond:¬ (m:Int)*(bytes:Int)>2 ^ 48:=aj
  have aBT:¬ m*bytes>2 ^ 48:=aj;have hf:(Question.appendCap m 0 e).forced=false:=rfl
  have hne:¬ m*τ.k=0:=by
   have:=τ.pos;intro h
   grind [Nat.mul_eq_zero]
  have hmx:¬ (IntKind.i64.max<(m:Int)):=by
   have e2:IntKind.i64.max=9223372036854775807:=au;omega
  simp [Builtin.append_,jV hT,jV hi,sizeOf,typeInfo,h1,h2,h3,h4,asInt,asIntOf,hw,zeroValue,Builtin.firstCells,newRow,hne,hf,hnx,aBT,hmx]
  grind [bytes,grownCap]
 ·exact⟨rfl,rfl,rfl,av,λk hk=>Below.heap_alloc w.drew _ k hk,acU _⟩
 ·have hge:=grownCap_ge w m 0 e
  have hle:=grownCap_le_maxLen w m 0 e (by simp only [maxLen]; omega);refine⟨[],Y,av,av,.inr ⟨w.heap.size,_,_,rfl,j4 _,heap_alloc_new w.drew _,fI _,hle,?_,av⟩⟩
  simp only [Array.size_append,X8,u6,Js,size_zeroCells,hz1,<- BS]
  grind
theorem WL.af2(τ:Ty α){ti:TypeId}{s:Operand}(hs:fM l s=some (.slice none 0 0))(hx:fM l x=some (O (m:Int)))(hT:P.underlying t=some (.slice e))(hi:P.underlying ti=some (.int .i64))(hI:kH P e τ.k bytes)(h0:0<m)(hm:m<=1000000)(hby:Nat.ble bytes 1000=true)(hd:Nat.blt d n.size=true)
  (k:∀ g c w',Ext w w'->Own τ e w.heap.size No w' (some ⟨g,0,none⟩) c []->WL P n M Q K os ((d,.slice (some ⟨g,0,none⟩) m c)::l) w') :
  WL P n M Q K (⟨some d,.call ⟨.builtin .append,#[s,x],#[t,ti]⟩,ty,pos,lN,none⟩::os) l w:=by
 obtain⟨g,c,w',hrun,h1,h2⟩:=Ub (w:=w) τ hT hi hI m h0 hm hby ty
 refine yD (v:=.slice (some ⟨g,0,none⟩) m c) (by simp [eY]) rfl hd (R:=λw2=>w2=w') (λa ha=>⟨w',?_,rfl⟩) (by grind);unfold execOp
 simp only [resolve,jh,kZ,jv,invoke,builtin,vI,mg,wB,ha.eval hs,ha.eval hx,hrun]
end
def aBU(n:Cx)(aX9:Nat->List (Nat × Value)->World->Prop)(a:Act)(w:World):Prop:=∃ m l,Has n l a/\aX9 m l w
section
variable {P:Program}{n:Cx}{l:List (Nat × Value)}{w:World}{Q:Exit->Act->World->Prop}
theorem anW{c:Code}{a:Act}{R R':Act->World->Prop}(h:c.wpIn n.fence 0 P (Exit.jump lb R Q) a w)(hr:∀ a w,R a w->R' a w):c.wpIn n.fence 0 P (Exit.jump lb R' Q) a w:=by
 refine wpIn_mono h ?_;intro e a' w' hq
 cases e with
 | goto l'=>exact⟨hq.1,hr _ _ hq.2⟩
 | _=>exact hq
theorem WP.jumps{c rest:Code}(aX9:Nat->V (Nat × Value)->World->Prop)(hf:findLabel c lb=some (.seq .skip rest))
  (pass:∀ m l w,aX9 m l w->WP P n rest l w (Exit.jump lb (Again n aX9 m) Q))
  (first:(∀ m l w,aX9 m l w->WP P n (.seq (.label lb) rest) l w (Exit.jump lb (aBU n aX9) Q))->WP P n c l w (Exit.jump lb (aBU n aX9) Q)) (hro:n.round=none:=by rfl):WP P n (.scope c) l w Q:=by
 intro a ha;have e:n.fence=Fence.wide:=Yb hro;rw [e];refine X7.2<|wp_scope_jumps lb (aBU n aX9) (λa w=>leastOf λm=>∃ l,Has n l a/\aX9 m l w) hf ?_ ?_
 ·have h1:=first ?_ a ha
  ·grind [wpIn_wide]
  ·intro m l w hJ a ha
   refine VJ (wpIn_label ?_);exact anW (pass m l w hJ a ha) λa w ⟨m',l',_,h1,h2⟩=>⟨m',l',h1,h2⟩
 ·intro a w hJ
  obtain⟨⟨l,h1,h2⟩,_⟩:=leastOf_spec hJ;refine wp_seq (wp_skip ?_);have h6:=pass _ l w h2 a h1;rw [e] at h6;refine wp_mono (X7.1 h6) ?_;intro e' a' w' hq
  cases e' with
  | goto l'=>
   refine⟨hq.1,?_⟩;obtain⟨m',l',hlt,h3,h4⟩:=hq.2;exact⟨⟨m',l',h3,h4⟩,Nat.lt_of_le_of_lt ((leastOf_spec ⟨m',l',h3,h4⟩).2 m' ⟨l',h3,h4⟩) hlt⟩
  | _=>exact hq
theorem l7.Yi{R:Act->World->Prop}(h:l7 n Q .ret l w):l7 n (Exit.jump lb R Q) .ret l w:=λa ha=>h a ha
theorem l7.abD{R:Act->World->Prop}(h:l7 n Q .normal l w):l7 n (Exit.jump lb R Q) .normal l w:=λa ha=>h a ha
theorem WP.goto(h:l7 n Q (.goto i) l w):WP P n (.goto i) l w Q:=λa ha=>wpIn_goto (h a ha)
end
def Ty.list{α:Type}(τ:Ty α):Ty (List α) where
  k:=1
  pos:=au
  R:=λS w xs cs=>∃ A c,cs=[.slice A xs.length c]/\Sl τ S w A c xs
  len:=by grind
  one:=fun⟨A,c,h,_⟩=>by rw [h]; intro u hu; simp at hu; rw [hu]; rfl
  keep:=λm ⟨A,c,h,hs⟩=>⟨A,c,h,hs.keep m⟩
  sub:=λhS ⟨A,c,h,hs⟩=>⟨A,c,h,hs.sub hS⟩
  bd:=fun⟨A,c,h,hs⟩=>⟨A,c,h,hs.bd⟩
def vK(A:ah)(c lo k:Nat):Option Addr:=if c=lo then A else A.map (·.add (lo*k))
theorem NZ(A:ah)(c k:Nat):vK A c 0 k=A:=by
 simp [vK,Addr.add_zero']
theorem Sl.cut(h:Sl τ S w A c xs)(h1:lo<=hi)(h2:hi<=xs.length):Sl τ S w (vK A c lo τ.k) (c - lo) ((xs.take hi).drop lo):=by
 have hc:=h.cap;refine⟨by grind,by have:=h.max; omega,?_,?_⟩
 ·intro hn
  unfold vK at hn
  split at hn
  ·omega
  ·have:=h.nil (by simpa using hn); omega
 ·intro i x hx
  rw [G5,X9] at hx
  split at hx
  ·rename_i hlt
   obtain⟨hS,cs,hR,hcs⟩:=h.rows _ x hx;have hA:=h.some_ hx;have hne:¬ c=lo:=aj;have ha:Gh (vK A c lo τ.k)=(Gh A).add (lo*τ.k):=by grind [vK,Gh]
   grind [Jt,fD,Nat.add_mul]
  grind
theorem Sl.VN(h:Sl τ S w A c xs)(h2:hi<=xs.length):Sl τ S w A c (xs.take hi):=by
 have:=h.cut (fI _) h2
 grind [NZ]
theorem Sl.cutFrom(h:Sl τ S w A c xs)(h1:lo<=xs.length):Sl τ S w (vK A c lo τ.k) (c - lo) (xs.drop lo):=by
 have:=h.cut h1 (j4 _)
 grind
theorem Own.take(h:Own τ e lo S w A c xs)(h2:hi<=xs.length):Own τ e lo S w A c (xs.take hi):=by
 obtain⟨css,hl,hR,hown⟩:=h;have hk:=WX hl hR;have hlen:(xs.take hi).length=hi:=by grind
 have aGa:∀(cs:V (V Value))(m:Nat),(∀ c∈cs,c.length=τ.k)->(cs.take m).flatten=cs.flatten.take (m*τ.k):=by
  intro cs
  induction cs with
  | nil=>simp
  | cons c0 cs ih=>
   intro m hm
   cases m <;> grind [Nat.add_mul]
 refine⟨css.take hi,by grind,λi x hx=>?_,?_⟩
 ·grind
 ·rw [hlen]
  refine⟨?_,?_⟩
  ·rw [aGa css hi hk,iX,hown.1]
   simp [*]
  ·rcases hown.2 with ⟨hv,hn⟩ | ⟨g,cap,cur,hv,hg,hh,hnc,hcm,hcs,ht⟩
   ·grind
   ·right
    injection hv with hA hn' hc
    subst hA hc;refine⟨g,c,cur,Y,hg,hh,aj,hcm,hcs,?_⟩
    grind [Nat.mul_le_mul_right]
section
variable {P:Program}{n:Cx}{l:List (Nat × Value)}{w:World}{t e:TypeId}{x:Operand}
theorem Ev.VN{kh:IntKind}{zh:Int}{yh:Operand}(hu:P.underlying t=some (.slice e))(hs:Size P e k)(hx:fM l x=some (.slice A xs.length c))(hh:fM l yh=some (.int kh zh))
  (h2:zh=(hi:Int)) (h4:hi<=xs.length) (h5:xs.length<=c):Ev P n l w (.slice t x none (some yh) none) (.slice A (xs.take hi).length c):=λo a w' ho ha _=>by
 have hlen:(xs.take hi).length=hi:=by grind
 have hcz:=NZ A c k;unfold vK at hcz;unfold execOp; rw [ho]
 have h6:(Instr.sliceAt t (.slice A xs.length c) none (some (.int kh zh)) none).run P w'=.ok (.slice A hi c) w':=by
  rw [PS w' t _ _ _ _ (rY hu),run_slice_h w' t A xs.length c (rY hu) kh zh aj aj,Eh hu,hs w',h2]
  simp only [jv,sliced,PU,VI]
  rw [hcz]
 simp [ha.eval hx,ha.eval hh,h6,hlen]
theorem Ev.WY{kh:IntKind}{zh:Int}{yh:Operand}(hu:P.underlying t=some (.slice e))(hs:Size P e k)(hx:fM l x=some (.slice A m c))(hh:fM l yh=some (.int kh zh))(h2:zh=0):Ev P n l w (.slice t x none (some yh) none) (.slice A 0 c):=λo a w' ho ha _=>by
 have hcz:=NZ A c k;unfold vK at hcz;unfold execOp; rw [ho]
 have h6:(Instr.sliceAt t (.slice A m c) none (some (.int kh zh)) none).run P w'=.ok (.slice A 0 c) w':=by
  rw [PS w' t _ _ _ _ (rY hu),run_slice_h w' t A m c (rY hu) kh zh aj aj,Eh hu,hs w',h2]
  simp only [jv,sliced,Int.toNat_zero,VI]
  rw [hcz]
 simp [ha.eval hx,ha.eval hh,h6]
theorem Ev.cutFrom{kl:IntKind}{zl:Int}{yl:Operand}(hu:P.underlying t=some (.slice e))(hs:Size P e k)(hx:fM l x=some (.slice A xs.length c))(hl:fM l yl=some (.int kl zl))
  (h1:zl=(lo:Int)) (h3:lo<=xs.length) (h5:xs.length<=c):Ev P n l w (.slice t x (some yl) none none) (.slice (vK A c lo k) (xs.drop lo).length (c - lo)):=λo a w' ho ha _=>by
 have hlen:(xs.drop lo).length=xs.length - lo:=by simp
 unfold execOp; rw [ho]
 have h6:(Instr.sliceAt t (.slice A xs.length c) (some (.int kl zl)) none none).run P w'=.ok (.slice (vK A c lo k) (xs.length - lo) (c - lo)) w':=by
  rw [PS w' t _ _ _ _ (rY hu),run_slice_l w' t A xs.length c (rY hu) kl zl aj aj,Eh hu,hs w',h1]
  simp [sliced,vK]
 simp [ha.eval hx,ha.eval hl,h6,hlen]
def Yj:=@Ev.cutFrom
end
theorem alH:FloatKind.f64.nearest 0=0:=by rfl
def fb(n:Nat):Nat:=FloatKind.f64.nearest (n:Int)
theorem acZ:∀ n,n<130->FloatKind.f64.format.add (fb n) 4607182418800017408=some (fb (n+1)):=by decide +kernel
theorem WZ:∀ n,n<130->FloatKind.f64.format.add (fb n) 0=some (fb n):=by decide +kernel
theorem aqV:∀ n,n<130->(FloatKind.f64.decode (fb n)).toInt .zero=some (n:Int):=au
theorem aBV:∀ n,n<70->∀ m,m<70->((FloatKind.f64.format.order (fb n) (fb m) == some .gt||FloatKind.f64.format.order (fb n) (fb m) == some .eq)=decide (m<=n)):=by decide +kernel
section
variable {P:Program}{n:Cx}{l:List (Nat × Value)}{w:World}{t ty:TypeId}{x y:Operand}
theorem Ev.axg{e f:Nat}(hx:fM l x=some (.complex .f64 a b))(hy:fM l y=some (.complex .f64 c d))(h1:FloatKind.f64.format.add a c=some e)(h2:FloatKind.f64.format.add b d=some f):Ev P n l w (.binOp .add t x y ty) (.complex .f64 e f):=
 pY hx hy (eqGuard_at_complex ..) (by simp_all [binOp,Op.complexOp,Op.Complex.arith,Op.floatArith])
theorem Ev.real(hx:fM l x=some (.complex .f64 a b)):Ev P n l w (.call ⟨.builtin .real,#[x],ts⟩) (.float .f64 a):=λo ac w' ho ha _=>by
 unfold execOp; rw [ho]
 simp only [resolve,jh,kZ,jv,invoke,builtin,vI,mg,wB,ha.eval hx]
 rfl
theorem Ev.imag(hx:fM l x=some (.complex .f64 a b)):Ev P n l w (.call ⟨.builtin .imag,#[x],ts⟩) (.float .f64 b):=λo ac w' ho ha _=>by
 unfold execOp; rw [ho]
 simp only [resolve,jh,kZ,jv,invoke,builtin,vI,mg,wB,ha.eval hx]
 rfl
theorem Ev.aGb{d:TypeId}(hs:∃ k,P.underlying t=some k)(hd:P.underlying d=some (.int .i64))(hx:fM l x=some (.float .f64 a))(hm:(FloatKind.f64.decode a).toInt .zero=some (m:Int))(hb:m<9223372036854775808):Ev P n l w (.convert t d x) (.int .i64 (m:Int)):=λo ac w' ho ha _=>by
 unfold execOp; rw [ho];obtain⟨k,hk⟩:=hs
 have h1:IntKind.i64.min<=(m:Int)/\(m:Int)<=IntKind.i64.max:=by
  have e1:IntKind.i64.min=-9223372036854775808:=au;have e2:IntKind.i64.max=9223372036854775807:=au;omega
 have h2:(Conv.floatToInt .f64 a .i64).run P w'=.ok (.int .i64 (m:Int)) w':=by simp_all [Conv.floatToInt]
 simp [ha.eval hx,convert,jV hk,jV hd,h2]
theorem Ev.aMB{d:TypeId}{k:IntKind}{z:Int}(hs:∃ k,P.underlying t=some k)(hd:P.underlying d=some (.float .f64))(hx:fM l x=some (.int k z))(hm:z=(m:Int)):Ev P n l w (.convert t d x) (.float .f64 (fb m)):=λo ac w' ho ha _=>by
 unfold execOp; rw [ho];obtain⟨k,hk⟩:=hs
 simp [ha.eval hx,convert,jV hk,jV hd,Conv.intToFloat,hm,fb]
theorem Ev.aMC(ha:a<70)(hb:b<70)(hx:fM l x=some (.float .f64 (fb a)))(hy:fM l y=some (.float .f64 (fb b))):Ev P n l w (.binOp .geq t x y ty) (.bool (decide (b<=a))):=
 pY hx hy (eqGuard_at_float ..) (by simp_all [binOp,Op.floatCmp,aBV])
end
end
section
def eO{α:Type}{xs:V α}{k:Nat}{x:α}(h:xs[k]? = some x):xs.take (k+1)=xs.take k++[x]:=by
 grind [List.take_add_one]
theorem dz{α:Type}{xs:V α}{k:Nat}{x:α}(h:xs[k]? = some x):x∈xs:=zy h
def idxOf{α:Type}(p:α->Bool):List α->Int
  | []=>-1
  | x::xs=>if p x then 0 else if idxOf p xs<0 then -1 else idxOf p xs+1
def PW{α:Type}{p:α->Bool}:∀ {xs:V α},(∀ x∈xs,p x=false)->idxOf p xs=-1
 | [],_=>rfl
 | x::xs,h=>by
  have h1:=h x av;have h2:=PW (xs:=xs) (λy hy=>h y (by simp [hy]))
  simp [idxOf,h1,h2]
def QT{α:Type}{p:α->Bool}:∀(xs:V α),-1<=idxOf p xs
 | []=>by simp [idxOf]
 | x::xs=>by
  have:=QT (p:=p) xs;unfold idxOf
  split
  ·omega
  ·split <;> omega
def L8{α:Type}{p:α->Bool}:∀ {xs:V α} {k:Nat} {x:α},(∀ y∈xs.take k,p y=false)->xs[k]? = some x->p x=true->idxOf p xs=(k:Int)
 | [],k,x,_,h,_=>by simp at h
 | y::xs,0,x,_,h,hp=>by
  simp at h; subst h
  simp [idxOf,hp]
 | y::xs,k+1,x,h0,h,hp=>by
  have h1:=h0 y av;have h2:=L8 (xs:=xs) (k:=k) (x:=x) (λz hz=>h0 z (by simp [hz])) (by simpa using h) hp
  simp only [idxOf,h1,h2]
  simp
  omega
def L9{α:Type}{p:α->Bool}:∀(xs:V α),idxOf p xs<xs.length
 | []=>by simp [idxOf]
 | x::xs=>by
  have:=L9 (p:=p) xs;unfold idxOf
  simp only [oO]
  split
  ·omega
  ·split <;> omega
def wS{α:Type}(p:α->Bool)(xs:V α):(idxOf p xs=-1/\∀ x∈xs,p x=false)∨∃(k:Nat)(x:α),idxOf p xs=(k:Int)/\xs[k]? = some x/\p x=true/\∀ y∈xs.take k,p y=false:=by
 induction xs with
 | nil=>left; exact⟨rfl,av⟩
 | cons y xs ih=>
  by_cases hp:p y=true
  ·right; exact⟨0,y,by simp [idxOf,hp],rfl,hp,λz hz=>by simp at hz⟩
  ·have hp':p y=false:=by grind
   rcases ih with ⟨h1,h2⟩ | ⟨k,x,h1,h2,h3,h4⟩
   ·left
    refine⟨by simp [idxOf,hp',h1],λx hx=>?_⟩
    rcases gW.1 hx with rfl | hx
    ·exact hp'
    ·exact h2 x hx
   ·right
    refine⟨k+1,x,by simp [idxOf,hp',h1]; omega,by simpa using h2,h3,λz hz=>?_⟩
    grind
def ug{α:Type}{q:α->Prop}{xs:V α}{k:Nat}{x:α}(h:∀ y∈xs.take k,q y)(hx:xs[k]? = some x)(hq:q x):∀ y∈xs.take (k+1),q y:=by
 rw [eO hx]
 grind
def Mc{α:Type}{q:α->Prop}{xs:V α}{k:Nat}(h:∀ y∈xs.take k,q y)(hk:xs.length<=k):∀ y∈xs,q y:=by
 grind [List.take_of_length_le]
def Md{α:Type}(xss:List (List α))(k:Nat):Nat:=((xss.take k).flatten).length
def Ju{α:Type}{xss:V (V α)}{k:Nat}{s:V α}(h:xss[k]? = some s):Md xss (k+1)=Md xss k+s.length:=by
 simp_all [Md,eO]
def Me{α:Type}(xss:V (V α))(k:Nat):Md xss k<=xss.flatten.length:=by
 grind [Md,List.take_append_drop,List.flatten_append,List.length_append]
def ac0{α:Type}{xss:V (V α)}{k:Nat}{s:V α}(h:xss[k]? = some s):(xss.take k).flatten++s=(xss.take (k+1)).flatten:=by
 rw [eO h]; simp
def ajB{α:Type}(q:Nat->α->Bool)(xs:List α):Bool:=(List.range xs.length).all λi=>match xs[i]? with | some x=>q i x | none=>true
def ajC{α:Type}{q:Nat->α->Bool}{xs:V α}:ajB q xs=true↔∀(i:Nat)(x:α),xs[i]? = some x->q i x=true:=by
 grind [ajB]
def low{α:Type}(g:α->Int)(s:List α):Nat:=s.countP λx=>decide (g x<0)
def hits{α:Type}(g:α->Int)(s:List α):Bool:=match s[low g s]? with | some x=>decide (g x=0) | none=>false
def ac1{α:Type}(g:α->Int)(s:List α):Prop:=∀(i j:Nat)(x y:α),i<=j->s[i]? = some x->s[j]? = some y->g y<0->g x<0
def G8{α:Type}(g:α->Int)(s:V α):low g s<=s.length:=Ya
def G9{α:Type}{g:α->Int}{s:V α}{i:Nat}(hi:i<=s.length)(h1:∀(a:Nat)(x:α),a<i->s[a]? = some x->g x<0)(h2:∀(a:Nat)(x:α),i<=a->s[a]? = some x->¬ g x<0):low g s=i:=by
 have e:low g s=(s.take i).countP (λx=>decide (g x<0))+(s.drop i).countP (λx=>decide (g x<0)):=by grind [low,List.take_append_drop]
 have e1:(s.take i).countP (λx=>decide (g x<0))=(s.take i).length:=by
  rw [List.countP_eq_length];intro x hx;obtain⟨a,ha,rfl⟩:=afU hx;have hlt:a<i:=by grind
  exact tY (h1 a _ hlt av)
 have e2:(s.drop i).countP (λx=>decide (g x<0))=0:=by
  rw [List.countP_eq_zero];intro x hx;obtain⟨a,ha,rfl⟩:=afU hx;have hb:i+a<s.length:=by grind
  have:=h2 (i+a) _ aj (Ip hb);rw [List.getElem_drop]
  simpa using this
 grind
def bL(x y:Int):Int:=if x<y then -1 else if y<x then 1 else 0
theorem qK{x y:Int}:bL x y<0↔x<y:=by
 grind [bL]
theorem zR{x y:Int}:bL x y=0↔x=y:=by
 grind [bL]
def Up{α:Type}(key:α->Int)(s:List α):Prop:=s.Pairwise λx y=>key x<key y
def Up.get{α:Type}{key:α->Int}{s:V α}(h:Up key s){i j:Nat}{x y:α}(hij:i<j)(hx:s[i]? = some x)(hy:s[j]? = some y):key x<key y:=by
 have hi:=aP hx;have hj:=aP hy;have:=(ER.1 h) i j hi hj hij
 grind
def Up.mono{α:Type}{key:α->Int}{s:V α}(h:Up key s)(n:Int):ac1 (λy=>bL (key y) n) s:=by
 intro i j x y hij hx hy hlt
 simp only [qK] at hlt ⊢
 rcases G6 i j with h1 | h1
 ·have:=h.get h1 hx hy; omega
 grind
def uh{α:Type}{key:α->Int}{s:V α}(h:Up key s)(n:Int):hits (λy=>bL (key y) n) s=true↔∃ x∈s,key x=n:=by
 have hl:∀(i:Nat)(x:α),s[i]? = some x->key x=n->low (λy=>bL (key y) n) s=i:=by
  intro i x hx hk;refine G9 (by grind) (λa y ha hy=>?_) (λa y ha hy=>?_)
  ·rw [qK]; have:=h.get ha hy hx; omega
  ·rw [qK]
   rcases G6 i a with h1 | h1
   ·have:=h.get h1 hx hy; omega
   grind
 constructor
 ·intro hh
  unfold hits at hh
  grind [zR]
 ·rintro⟨x,hx,hk⟩
  obtain⟨i,hi,rfl⟩:=afU hx;have h1:=hl i _ (Ip hi) hk
  grind [hits,List.getElem?_eq_getElem,decide_eq_true,zR]
def qc{α:Type}{key:α->Int}{s:V α}{n:Int}(h:hits (λy=>bL (key y) n) s=true):∃ x,s[low (λy=>bL (key y) n) s]? = some x/\key x=n:=by
 unfold hits at h
 grind [zR]
def eG{P:Program}{n:Cx}{l:V (Nat × Value)}{w:World}{t ty:TypeId}{x y:Operand}{a b:Int}(hx:fM l x=some (.int .i64 a))(hy:fM l y=some (.int .i64 b))(h1:-9223372036854775808<=a+b:=by omega)(h2:a+b<=9223372036854775807:=by omega):Ev P n l w (.binOp .add t x y ty) (.int .i64 (a+b)):=L6 hx hy ⟨h1,h2⟩
def VO{P:Program}{n:Cx}{l:V (Nat × Value)}{w:World}{t ty:TypeId}{x y:Operand}{a b:Int}(hx:fM l x=some (.int .i64 a))(hy:fM l y=some (.int .i64 b))(h1:-9223372036854775808<=a - b:=by omega)(h2:a - b<=9223372036854775807:=by omega):Ev P n l w (.binOp .sub t x y ty) (.int .i64 (a - b)):=Ev.sub hx hy ⟨h1,h2⟩
def o8{P:Program}{n:Cx}{l:V (Nat × Value)}{w:World}{Q:Exit->Act->World->Prop}{c:Operand}{x y:Code}{p:Prop}[Decidable p](hc:fM l c=some (.bool (decide p)))(h1:p->WP P n x l w Q)(h2:¬p->WP P n y l w Q):WP P n (.cond c x y) l w Q:=bS hc (by grind) (by grind)
def r9{P:Program}{n:Cx}{l:V (Nat × Value)}{w:World}{Q:Exit->Act->World->Prop}{c:Operand}{x y z:Code}{p:Prop}[Decidable p](hc:fM l c=some (.bool (decide p)))(h1:p->WP P n x l w (Exit.then (G7 P n z Q) Q))(h2:¬p->WP P n y l w (Exit.then (G7 P n z Q) Q)):WP P n (.seq (.cond c x y) z) l w Q:=WP.cond hc (by grind) (by grind)
end
end Go.Proofs.YthcmboepffiliaaGreat
