/- Lemmas. -/
import Derived.WalkKit
import Derived.WalkSpells
import Derived.WalkLawsBesides
import Derived.Deep.Quiet
import Derived.Deep.LoopGhost
import Derived.Sort.LoopGhostIn
import Derived.RangeFuncLeaves
import Derived.OrdersIn
import Derived.Deep.AppendLies
set_option linter.all false
namespace Go.Proofs.YtlhnnmlenkahlaaGreat
abbrev ah:=Option Addr
theorem Y{α:Sort _}{a:α}:a=a:=rfl
def aOf:=@Bool.or_eq_true
def aOg:=@Bool.or_eq_false_iff
def aOh:=@Bool.and_eq_true
def aOi:=@Bool.and_eq_false_imp
def aOj:=@Bool.not_eq_true'
def aOk:=@Bool.not_eq_false'
def aOl:=@decide_eq_true_eq
def aOm:=@decide_eq_false_iff_not
theorem aj{p:Prop}(h:p:=by omega):p:=h
theorem ak{p:Prop}(h:p:=by kernel_rfl):p:=h
theorem au{p:Prop}(h:p:=by decide):p:=h
theorem av{p:Prop}(h:p:=by simp):p:=h
theorem ay{p:Prop}(h:p:=by first | (intro _; kernel_rfl) | (intro _ _; kernel_rfl)):p:=h
open Go.RowKit
def kV:=@Nat.le_refl
def lV:=@Nat.le_trans
def abH:=@Nat.le_succ
def Sr:=@Nat.lt_of_lt_of_le
def aya:=@World.block_lt_of_cell?
def P8:=@Nat.lt_or_ge
def at0:=@Array.getElem?_eq_none
def aoH:=@Array.getElem?_modify
def nP:=@List.getElem?_eq_some_iff
def qI:=@List.getElem?_eq_getElem
def CV:=@List.flatten_cons
def jd:=@List.length_append
def pF:=@List.length_cons
def rD:=@Nat.add_mul
def aau:=@Nat.one_mul
def jN:=@List.mem_append
def P9:=@List.getElem?_append_left
def Qb:=@List.getElem?_append_right
def J5:=@Nat.zero_add
def aeD:=@List.getElem_of_mem
def uE:=@List.eq_nil_of_length_eq_zero
def KL:=@List.Perm.refl
def pG:=@List.pairwise_cons
def iX:=@List.mem_cons
def y8:=@List.pairwise_append
def Oo:=@Nat.eq_of_beq_eq_true
def ajR:=@Nat.ne_of_beq_eq_false
def DT:=@Array.getD_eq_getD_getElem?
def ajS:=@Array.getElem?_setIfInBounds_ne
def jF:=@Sem.run_bind
def Fq:=@Calls.mono
def aO:=@if_pos
def aK:=@if_neg
def Oq:=@wpIn_wide
def pU:=@Nat.le_of_ble_eq_true
def Qc:=@Nat.sub_zero
def Uz:=@wpIn_seq
def kL:=@Sem.run_pure
def jG:=@Result.andThen_ok
variable {α:Type}{w w':World}{v:Value}{P:Program}{row:Option Nat}{i id:Nat}{S:Nat->Prop}{Q Q':Exit->Act->World->Prop}{K:Act->World->Prop}{f:FuncId}{args:Array Value}{dh:Array Oper}{ol:List Oper}{fn:Func}{y:Code}
abbrev aF(x:Int):Value:=.int .i64 x
abbrev gK(x:Int):Value:=.int .u32 x
abbrev gD(g:Nat):Value:=.pointer (some ⟨g,0,none⟩)
def qm(x:Int):Prop:=-9223372036854775808<=x/\x<=9223372036854775807
structure Ext (w w':World):Prop where
  os:w'.os=w.os
  tape:w'.tape=w.tape
  output:w'.output=w.output
  size:w.heap.size<=w'.heap.size
  block:∀ k,k<w.heap.size->w'.heap[k]? = w.heap[k]?
  drawn:w.drawn<=w'.drawn
structure Mod (g:Nat) (w w':World):Prop where
  os:w'.os=w.os
  tape:w'.tape=w.tape
  output:w'.output=w.output
  size:w.heap.size<=w'.heap.size
  block:∀ k,k<w.heap.size->k≠g->w'.heap[k]? = w.heap[k]?
  drawn:w.drawn<=w'.drawn
structure Og (w w':World) (row:Option Nat):Prop where
  os:w'.os=w.os
  tape:w'.tape=w.tape
  output:w'.output=w.output
  size:w.heap.size<=w'.heap.size
  block:∀ k,k<w.heap.size->some k≠row->w'.heap[k]? = w.heap[k]?
  drawn:w.drawn<=w'.drawn
theorem Sv:∀(x:Ask α)(w:World),w.drawn<=(w.ask x).2.drawn
  | .done a,w=>kV _
  | .ask what range k,w=>by
    unfold World.ask
    simp only
    split
    · exact Sv (k 0) w
    · exact lV (abH _) (Sv (k _) { w with drawn:=w.drawn+1 })
theorem alU(w:World)(c:Sys):w.drawn<=(w.sys c).2.drawn:=by
  have h:=Sv (Kernel.perform c w.os) w;unfold World.sys
  split
  · exact kV _
  · rename_i e; rw [e] at h; exact h
theorem alV{p:Program}{a:Addr}{at':Bool}{l:List Addr}(h:w.farStore p a v at'=.ok (w',l)):w'.drawn=w.drawn:=by
  unfold World.farStore at h
  split at h
  · split at h
    · rename_i r hr
      cases h
      unfold World.viewStore at hr
      simp only [bind,Except.bind,pure,Except.pure,throw,throwThe,MonadExceptOf.throw] at hr
      repeat' (split at hr)
      all_goals first | (cases hr; rfl) | cases hr
    · cases h
  · cases h
theorem alW:∀(m:Sem α)(w:World)(a:α)(w':World),m.run P w=.ok a w'->w.drawn<=w'.drawn:=by
  intro m
  induction m with
  | pure a=>intro w b w' h; cases h; exact kV _
  | load m a k ih=>
    intro w b w' h; unfold Sem.run at h
    split at h
    · exact ih _ _ _ _ h
    · split at h
      · exact ih _ _ _ _ h
      · cases h
  | store m a v k ih=>
    intro w b w' h
    cases v <;> simp only [Sem.run] at h
    all_goals first
      | (cases h; done)
      | (split at h
         · split at h
           · cases h
           · have:=ih _ _ _ h; exact this
         · split at h
           · rename_i hf; have:=ih _ _ _ h; rw [alV hf] at this; exact this
           · cases h)
  | new o k ih=>intro w b w' h; unfold Sem.run at h; have:=ih _ _ _ _ h; exact this
  | shape r k ih=>intro w b w' h; unfold Sem.run at h; exact ih _ _ _ _ h
  | freeze a n k ih=>
    intro w b w' h; unfold Sem.run at h;have:=ih _ _ _ h;unfold World.freeze at this
    split at this <;> exact this
  | frozen a k ih=>intro w b w' h; unfold Sem.run at h; exact ih _ _ _ _ h
  | getObj r k ih=>
    intro w b w' h; unfold Sem.run at h
    split at h
    · cases h
    · exact ih _ _ _ _ h
    · cases h
  | setObj r o k ih=>
    intro w b w' h; unfold Sem.run at h
    split at h
    · cases h
    · have:=ih _ _ _ h; exact this
    · cases h
  | choose q k ih=>
    intro w b w' h; unfold Sem.run at h
    split at h
    · exact ih _ _ _ _ h
    · have:=ih _ _ _ _ h; exact lV (abH _) this
  | sys c k ih=>intro w b w' h; unfold Sem.run at h; exact lV (alU w c) (ih _ _ _ _ h)
  | program k ih=>intro w b w' h; unfold Sem.run at h; exact ih _ _ _ _ h
  | mark m k ih=>intro w b w' h; unfold Sem.run at h; exact ih _ _ _ h
  | halt e=>intro w b w' h; cases h
section
variable {a b c w w':World}{g:Nat}
theorem Og.of(h:w.grownBy w' row)(hd:w.drawn<=w'.drawn):Og w w' row:=⟨h.os,h.tape,h.output,h.size,λk hk hn=>h.block k hk hn,hd⟩
theorem Ext.refl(w:World):Ext w w:=⟨rfl,rfl,rfl,kV _,λ_ _=>rfl,kV _⟩
def pI:=@Ext.refl
theorem Ext.trans(h:Ext a b)(k:Ext b c):Ext a c:=
  ⟨k.os.trans h.os,k.tape.trans h.tape,k.output.trans h.output,lV h.size k.size,λi hi=>(k.block i (Sr hi h.size)).trans (h.block i hi),lV h.drawn k.drawn⟩
theorem Ext.mod(h:Ext a b)(k:Mod g b c)(hg:a.heap.size<=g):Ext a c:=
  ⟨k.os.trans h.os,k.tape.trans h.tape,k.output.trans h.output,lV h.size k.size,λi hi=>(k.block i (Sr hi h.size) aj).trans (h.block i hi),lV h.drawn k.drawn⟩
theorem Ext.drew(h:Ext a b):Ext a b.drew:=⟨h.os,h.tape,h.output,h.size,h.block,Nat.le_succ_of_le h.drawn⟩
theorem Ext.alloc(w:World)(o:Obj):Ext w (w.alloc o):=⟨rfl,rfl,rfl,av,λk hk=>Below.heap_alloc w o k hk,kV _⟩
theorem Mod.setCell(w:World)(p:Addr)(u:Value):Mod p.block w (w.setCell p u):=
  ⟨rfl,rfl,rfl,by simp [World.setCell],λk _ hn=>Below.heap_setCell w p u k hn,kV _⟩
theorem Mod.DU(h:Og w w' row)(hr:∀ k,row=some k->k=g):Mod g w w':=
  ⟨h.os,h.tape,h.output,h.size,λk hk hn=>h.block k hk (λe=>hn (hr k e.symm)),h.drawn⟩
def alX:=@Mod.DU
theorem Ext.DU(h:Og w w' row)(hr:∀ k,row=some k->w.heap.size<=k):Ext w w':=
  ⟨h.os,h.tape,h.output,h.size,λk hk=>h.block k hk (λe=>by have:=hr k e.symm; omega),h.drawn⟩
theorem Ext.cell{p:Addr}(h:Ext w w')(hc:w.cell? p=some v):w'.cell? p=some v:=
  (World.cell?_of_block (w:=w) (h.block p.block (aya w p hc))).trans hc
end
def Bx(w:World)(g:Nat)(t:TypeId)(cs:List Value):Prop:=w.heap[g]? = some (.cells cs.toArray t (0,0))
section
variable {w w':World}{g g':Nat}{t:TypeId}{cs:List Value}
theorem Bx.lt(h:Bx w g t cs):g<w.heap.size:=by
  rcases P8 g w.heap.size with hlt | hge
  · exact hlt
  · unfold Bx at h; rw [at0 hge] at h; cases h
theorem Bx.ext(h:Bx w g t cs)(e:Ext w w'):Bx w' g t cs:=(e.block g h.lt).trans h
theorem Bx.mod(h:Bx w g t cs)(m:Mod g' w w')(hn:g≠g'):Bx w' g t cs:=(m.block g h.lt hn).trans h
theorem Bx.cell(h:Bx w g t cs)(i:Nat):w.cell? ⟨g,i,none⟩=cs[i]?:=by
  rw [cell_of_row w g i cs.toArray t (0,0) h]; simp
theorem Bx.frozen(h:Bx w g t cs)(i:Nat):w.frozen? ⟨g,i,none⟩=false:=by
  unfold Bx at h
  simp [World.frozen?,h]
theorem Bx.new(w:World)(t:TypeId)(cs:List Value):Bx (w.alloc (.cells cs.toArray t)) w.heap.size t cs:=heap_alloc_new w _
theorem Bx.aGs(h:Bx w g t cs)(i:Nat)(u:Value):Bx (w.setCell ⟨g,i,none⟩ u) g t (cs.set i u):=by
  unfold Bx at h ⊢
  simp [World.setCell,aoH,h]
end
structure Ty (α:Type) where
  k:Nat
  pos:0<k
  R:(S:Nat->Prop)->World->α->List Value->Prop
  len:∀ {S w x cs},R S w x cs->cs.length=k
  one:∀ {S w x cs},R S w x cs->∀ u∈cs,u.oneCell'=true
  keep:∀ {S:Nat->Prop} {w w':World} {x cs},(∀ g,S g->g<w.heap.size->w'.heap[g]? = w.heap[g]?)->R S w x cs->R S w' x cs
  sub:∀ {S S':Nat->Prop} {w x cs},(∀ b,S b->S' b)->R S w x cs->R S' w x cs
  bd:∀ {S:Nat->Prop} {w x cs},R S w x cs->R (λg=>S g/\g<w.heap.size) w x cs
def Ty.flat{α:Type}(k:Nat)(enc:α->List Value)(pos:0<k)(hl:∀ x,(enc x).length=k)(h1:∀ x,∀ u∈enc x,u.oneCell'=true):Ty α where
  k:=k
  pos:=pos
  R:=λ_ _ x cs=>cs=enc x
  len:=λh=>by rw [h,hl]
  one:=λh=>by rw [h]; exact h1 _
  keep:=λ_ h=>h
  sub:=λ_ h=>h
  bd:=λh=>h
theorem Ty.ext(τ:Ty α){S w w' x cs}(e:Ext w w')(h:τ.R S w x cs):τ.R S w' x cs:=τ.keep (λg _ hg=>e.block g hg) h
theorem Ty.mod(τ:Ty α){S w w' g x cs}(m:Mod g w w')(hg:¬ S g)(h:τ.R S w x cs):τ.R S w' x cs:=
  τ.keep (λb hb hlt=>m.block b hlt (λe=>hg (e▸hb))) h
class Flat {α:Type} (τ:Ty α):Prop where
  h:∀ {S S':Nat->Prop} {w w':World} {x:α} {cs:List Value},τ.R S w x cs->τ.R S' w' x cs
instance {α:Type}{k:Nat}{enc:α->List Value}{pos:0<k}{hl:∀ x,(enc x).length=k}{h1:∀ x,∀ u∈enc x,u.oneCell'=true}:Flat (Ty.flat k enc pos hl h1):=⟨λh=>h⟩
def GN(A:ah):Addr:=A.getD ⟨0,0,none⟩
structure Sl {α:Type} (τ:Ty α) (S:Nat->Prop) (w:World) (A:ah) (c:Nat) (xs:List α):Prop where
  cap:xs.length<=c
  max:c<=maxLen
  nil:A=none->c=0
  rows:∀(i:Nat)(x:α),xs[i]? = some x->S (GN A).block/\∃ cs,τ.R S w x cs/\∀ j u,cs[j]? = some u->w.cell? ((GN A).add (i*τ.k+j))=some u
theorem Di(a:Addr)(n:Nat):(a.add n).block=a.block:=by unfold Addr.add; split <;> rfl
theorem fH(a:Addr)(i j:Nat):(a.add i).add j=a.add (i+j):=by
  unfold Addr.add
  by_cases hi:i=0 <;> by_cases hj:j=0 <;> simp [hi,hj,Nat.add_assoc]
section
variable {α:Type}{τ:Ty α}{S S':Nat->Prop}{w w':World}{A:ah}{c g:Nat}{xs:List α}
theorem Sl.none_(τ:Ty α)(S:Nat->Prop)(w:World):Sl τ S w none 0 []:=
  ⟨av,by simp [maxLen],λ_=>rfl,λi x h=>by simp at h⟩
def DV:=@Sl.none_
theorem Sl.ext(h:Sl τ S w A c xs)(e:Ext w w'):Sl τ S w' A c xs:=
  ⟨h.cap,h.max,h.nil,λi x hx=>by
    obtain⟨h1,cs,h2,h3⟩:=h.rows i x hx
    exact⟨h1,cs,τ.ext e h2,λj u hu=>e.cell (h3 j u hu)⟩⟩
theorem Sl.keep(h:Sl τ S w A c xs)(m:∀ g,S g->g<w.heap.size->w'.heap[g]? = w.heap[g]?):Sl τ S w' A c xs:=
  ⟨h.cap,h.max,h.nil,λi x hx=>by
    obtain⟨h1,cs,h2,h3⟩:=h.rows i x hx;refine⟨h1,cs,τ.keep m h2,λj u hu=>?_⟩;have h4:=h3 j u hu;have h5:=aya w _ h4;rw [Di] at h5
    exact(World.cell?_of_block (w:=w) (by rw [Di]; exact m _ h1 h5)).trans h4⟩
theorem Sl.sub(h:Sl τ S w A c xs)(hs:∀ b,S b->S' b):Sl τ S' w A c xs:=
  ⟨h.cap,h.max,h.nil,λi x hx=>by
    obtain⟨h1,cs,h2,h3⟩:=h.rows i x hx
    exact⟨hs _ h1,cs,τ.sub hs h2,h3⟩⟩
theorem Sl.bH(h:Sl τ S w A c xs):xs.length<=9223372036854775807:=by
  have h1:=h.cap;have h2:=h.max
  simp only [maxLen] at h2
  omega
theorem Sl.any(h:Sl τ S w A c xs):Sl τ (λ_=>True) w A c xs:=h.sub λ_ _=>trivial
theorem Sl.some_(h:Sl τ S w A c xs){x:α}(hx:xs[i]? = some x):A=some (GN A):=by
  cases hA:A with
  | none=>
    have h1:=h.nil hA;have h2:=h.cap;have h3:i<xs.length:=(nP.1 hx).1;omega
  | some a=>rfl
theorem Sl.lt(h:Sl τ S w A c xs){x:α}(hx:xs[i]? = some x):(GN A).block<w.heap.size:=by
  obtain⟨_,cs,h2,h3⟩:=h.rows i x hx;have hl:=τ.len h2;have hp:=τ.pos;have h0:cs[0]? = some (cs[0]'aj):=qI _;have:=aya w _ (h3 0 _ h0)
  rwa [Di] at this
theorem Sl.bd(h:Sl τ S w A c xs):Sl τ (λg=>S g/\g<w.heap.size) w A c xs:=
  ⟨h.cap,h.max,h.nil,λi x hx=>by
    obtain⟨h1,cs,h2,h3⟩:=h.rows i x hx
    exact⟨⟨h1,h.lt hx⟩,cs,τ.bd h2,h3⟩⟩
theorem Sl.cells(h:Sl τ S w A c xs):∃ css:List (List Value),css.length=xs.length/\(∀(i:Nat)(x:α),xs[i]? = some x->∃ cs,css[i]? = some cs/\τ.R S w x cs)/\
    css.flatten.length=xs.length*τ.k/\(∀ u∈css.flatten,u.oneCell'=true)/\∀ j u,css.flatten[j]? = some u->w.cell? ((GN A).add j)=some u:=by
  have key:∀(ys:List α)(o:Nat),(∀(i:Nat)(x:α),ys[i]? = some x->∃ cs,τ.R S w x cs/\∀ j u,cs[j]? = some u->w.cell? ((GN A).add ((o+i)*τ.k+j))=some u)->
      ∃ css:List (List Value),css.length=ys.length/\(∀(i:Nat)(x:α),ys[i]? = some x->∃ cs,css[i]? = some cs/\τ.R S w x cs)/\
        css.flatten.length=ys.length*τ.k/\(∀ u∈css.flatten,u.oneCell'=true)/\∀ j u,css.flatten[j]? = some u->w.cell? ((GN A).add (o*τ.k+j))=some u:=by
    intro ys
    induction ys with
    | nil=>intro o _; exact⟨[],rfl,λi x hx=>by simp at hx,av,av,λj u hu=>by simp at hu⟩
    | cons y ys ih=>
      intro o hy;obtain⟨cs,hR,hc⟩:=hy 0 y rfl
      obtain⟨css,h1,h2,h3,h4,h5⟩:=ih (o+1) (λi x hx=>by
        obtain⟨cs,hR,hc⟩:=hy (i+1) x (by simpa using hx)
        exact⟨cs,hR,λj u hu=>by have:=hc j u hu; rwa [show o+1+i=o+(i+1) from by omega]⟩)
      have hl:=τ.len hR;refine⟨cs::css,by simp [h1],?_,?_,?_,?_⟩
      · intro i x hx
        cases i with
        | zero=>simp at hx; subst hx; exact⟨cs,rfl,hR⟩
        | succ i=>obtain⟨cs',h6,h7⟩:=h2 i x (by simpa using hx); exact⟨cs',by simpa using h6,h7⟩
      · simp only [CV,jd,hl,h3,pF,rD,aau]; omega
      · intro u hu
        rw [CV] at hu
        rcases jN.1 hu with h | h
        · exact τ.one hR u h
        · exact h4 u h
      · intro j u hu
        rw [CV] at hu
        by_cases hj:j<cs.length
        · rw [P9 hj] at hu
          have:=hc j u hu
          simpa using this
        · rw [Qb aj] at hu
          have:=h5 _ u hu;rw [show(o+1)*τ.k+(j - cs.length)=o*τ.k+j from by rw [rD,aau]; omega] at this;exact this
  obtain⟨css,h1,h2,h3,h4,h5⟩:=key xs 0 (λi x hx=>by
    obtain⟨_,cs,hR,hc⟩:=h.rows i x hx
    exact⟨cs,hR,λj u hu=>by have:=hc j u hu; simpa using this⟩)
  exact⟨css,h1,h2,h3,h4,λj u hu=>by have:=h5 j u hu; simpa using this⟩
end
def Own{α:Type}(τ:Ty α)(e:TypeId)(lo:Nat)(S:Nat->Prop)(w:World)(A:ah)(c:Nat)(xs:List α):Prop:=
  ∃ css:List (List Value),css.length=xs.length/\(∀(i:Nat)(x:α),xs[i]? = some x->∃ cs,css[i]? = some cs/\τ.R S w x cs)/\w.ownsRow lo e τ.k (.slice A xs.length c) xs.length css.flatten
def blk(A:ah):Option Nat:=A.map (·.block)
section
variable {α:Type}{τ:Ty α}{e:TypeId}{lo lo':Nat}{S S':Nat->Prop}{w w':World}{A:ah}{c g:Nat}{xs:List α}
theorem Own.none_(τ:Ty α)(e:TypeId)(lo:Nat)(S:Nat->Prop)(w:World):Own τ e lo S w none 0 []:=
  ⟨[],rfl,λi x h=>by simp at h,World.ownsRow_nil w lo e τ.k⟩
theorem Qd{k:Nat}:∀(css:List (List Value))(_:∀ cs∈css,cs.length=k)(i:Nat)(cs:List Value)(_:css[i]? = some cs)(j:Nat)(u:Value),cs[j]? = some u->css.flatten[i*k+j]? = some u
  | [],_,i,cs,h,_,_,_=>by simp at h
  | c0::css,hk,i,cs,h,j,u,hu=>by
    have h0:c0.length=k:=hk c0 av
    cases i with
    | zero=>
      simp at h; subst h
      have:j<c0.length:=(nP.1 hu).1
      simp only [CV,Nat.zero_mul,J5]
      rw [P9 this]; exact hu
    | succ i=>
      simp only [CV]
      rw [Qb (by rw [h0,rD,aau]; omega),h0,show(i+1)*k+j - k=i*k+j from by rw [rD,aau]; omega];exact Qd css (λcs hcs=>hk cs (by simp [hcs])) i cs (by simpa using h) j u hu
theorem Vm{css:List (List Value)}(h1:css.length=xs.length)(h2:∀(i:Nat)(x:α),xs[i]? = some x->∃ cs,css[i]? = some cs/\τ.R S w x cs):∀ cs∈css,cs.length=τ.k:=by
  intro cs hcs;obtain⟨i,hi,rfl⟩:=aeD hcs;obtain⟨cs',h3,h4⟩:=h2 i (xs[i]'aj) (qI _);rw [qI hi] at h3
  cases h3
  exact τ.len h4
theorem Own.slb(h:Own τ e lo S w A c xs)(h1:∀ b,blk A=some b->S' b)(h2:∀ b,S b->S' b):Sl τ S' w A c xs:=by
  obtain⟨css,hl,hR,hown⟩:=h;have hk:=Vm hl hR
  rcases hown.2 with ⟨hv,hn⟩ | ⟨g,cap,cur,hv,hg,hh,hnc,hcm,hcs,ht⟩
  · injection hv with hA hn' hc
    have hx:xs=[]:=uE hn;subst hx hA hc;exact DV τ S' w
  · injection hv with hA hn' hc
    subst hA hc;refine⟨hnc,hcm,(λh=>by cases h),λi x hx=>?_⟩;obtain⟨cs,h3,h4⟩:=hR i x hx;exact⟨h1 _ Y,cs,τ.sub h2 h4,λj u hu=>hown.cells (g:=g) Y _ _ (Qd css hk i cs h3 j u hu)⟩
theorem Own.sl(h:Own τ e lo S w A c xs)(h1:∀ b,lo<=b->S' b)(h2:∀ b,S b->S' b):Sl τ S' w A c xs:=by
  refine h.slb (λg hg=>h1 g ?_) h2;obtain⟨css,hl,hR,hown⟩:=h
  rcases hown.2 with ⟨hv,hn⟩ | ⟨g',cap,cur,hv,hg',_⟩
  · injection hv with hA _ _; rw [hA] at hg; simp [blk] at hg
  · injection hv with hA _ _; rw [hA] at hg; simp [blk] at hg; omega
theorem Own.abI(h:Own τ e lo S w A c xs):∀ g,blk A=some g->lo<=g/\g<w.heap.size:=by
  obtain⟨css,hl,hR,hown⟩:=h;intro g hg;refine hown.lt g ?_
  cases A with
  | none=>simp [blk] at hg
  | some a=>simpa [blk,Value.ownBlock] using hg
theorem Own.ext(h:Own τ e lo S w A c xs)(x:Ext w w'):Own τ e lo S w' A c xs:=by
  obtain⟨css,hl,hR,hown⟩:=h;refine⟨css,hl,λi y hy=>?_,hown.kept (row:=none) ⟨x.os,x.tape,x.output,x.size,λk hk _=>x.block k hk⟩ (by cases hv:(Value.slice A xs.length c).ownBlock <;> simp)⟩;obtain⟨cs,h1,h2⟩:=hR i y hy;exact⟨cs,h1,τ.ext x h2⟩
theorem Own.mod(h:Own τ e lo S w A c xs)(m:Mod g w w')(hS:¬ S g)(hg:blk A≠some g):Own τ e lo S w' A c xs:=by
  obtain⟨css,hl,hR,hown⟩:=h;refine⟨css,hl,λi y hy=>?_,hown.kept (row:=some g) ⟨m.os,m.tape,m.output,m.size,λk hk hn=>m.block k hk (λe=>hn (by rw [e]))⟩ (.inr ?_)⟩
  · obtain⟨cs,h1,h2⟩:=hR i y hy
    exact⟨cs,h1,τ.mod m hS h2⟩
  · intro he
    apply hg
    cases A with
    | none=>simp [Value.ownBlock] at he
    | some a=>simpa [blk,Value.ownBlock] using he
theorem Own.keep(h:Own τ e lo S w A c xs)(m:∀ g,blk A=some g∨S g->g<w.heap.size->w'.heap[g]? = w.heap[g]?):Own τ e lo S w' A c xs:=by
  obtain⟨css,hl,hR,hown⟩:=h;refine⟨css,hl,λi y hy=>?_,hown.1,?_⟩
  · obtain⟨cs,h1,h2⟩:=hR i y hy
    exact⟨cs,h1,τ.keep (λg hg=>m g (.inr hg)) h2⟩
  · rcases hown.2 with h2 | ⟨g,cap,cur,hv,hg,hh,rest⟩
    · exact .inl h2
    · injection hv with hA hn hc
      refine .inr ⟨g,cap,cur,by rw [hA,hn,hc],hg,?_,rest⟩
      have hlt:g<w.heap.size:=by
        rcases P8 g w.heap.size with h | h
        · exact h
        · rw [at0 h] at hh; cases hh
      rw [m g (.inl (by rw [hA]; rfl)) hlt]; exact hh
theorem Own.lift(h:Own τ e lo S w A c xs)(hlo:∀ g,blk A=some g->lo'<=g):Own τ e lo' S w A c xs:=by
  obtain⟨css,hl,hR,hown⟩:=h;refine⟨css,hl,hR,hown.1,?_⟩
  rcases hown.2 with h2 | ⟨g,cap,cur,hv,hg,rest⟩
  · exact .inl h2
  · injection hv with hA hn hc
    exact .inr ⟨g,cap,cur,by rw [hA,hn,hc],hlo g (by rw [hA]; rfl),rest⟩
theorem Own.low(h:Own τ e lo S w A c xs)(hlo:lo'<=lo)(hS:∀ b,S b->S' b):Own τ e lo' S' w A c xs:=by
  obtain⟨css,hl,hR,hown⟩:=h;refine⟨css,hl,λi y hy=>?_,hown.1,?_⟩
  · obtain⟨cs,h1,h2⟩:=hR i y hy
    exact⟨cs,h1,τ.sub hS h2⟩
  · rcases hown.2 with h2 | ⟨g,cap,cur,hv,hg,rest⟩
    · exact .inl h2
    · exact .inr ⟨g,cap,cur,hv,aj,rest⟩
end
def Fr(w:World):Nat->Prop:=λb=>w.heap.size<=b
def Any:Nat->Prop:=λ_=>True
theorem bC{xs:List α}(h:i<xs.length):∃ x,xs[i]? = some x:=⟨xs[i],qI h⟩
theorem aJ{xs:List α}{x:α}(h:xs[i]? = some x):i<xs.length:=(nP.1 h).1
theorem oQ{p:Prop}[Decidable p](h:(!decide p)=true):¬ p:=by simpa using h
theorem oU{p:Prop}[Decidable p](h:(!decide p)=false):p:=by simpa using h
structure lH where
  W:Nat->Prop
  ok:(Nat->Prop)->World->Prop
  sub:∀ {S S':Nat->Prop} {w:World},(∀ g,S g->S' g)->ok S w->ok S' w
  keep:∀ {S:Nat->Prop} {w w':World},(∀ g,W g∨S g->g<w.heap.size->w'.heap[g]? = w.heap[g]?)->ok S w->ok S w'
def aS{α:Type}(τ:Ty α)(e:TypeId)(A:ah)(c:Nat)(xs:List α):lH where
  W:=λg=>blk A=some g
  ok:=λS w=>Own τ e 0 S w A c xs
  sub:=λhs h=>h.low (kV _) hs
  keep:=λhm h=>h.keep hm
def dP{α:Type}(τ:Ty α)(A:ah)(c:Nat)(xs:List α):lH where
  W:=λ_=>False
  ok:=λS w=>Sl τ S w A c xs
  sub:=λhs h=>h.sub hs
  keep:=λhm h=>h.keep λg hg=>hm g (.inr hg)
def dY(g:Nat)(t:TypeId)(cs:List Value):lH where
  W:=λb=>b=g
  ok:=λ_ w=>Bx w g t cs
  sub:=λ_ h=>h
  keep:=λ{_ w _} hm h=>(hm g (.inl rfl) h.lt).trans h
def Rd(b:World)(S:Nat->Prop)(rs:List lH)(w:World):Nat->Prop:=λg=>(g<b.heap.size/\S g)∨(b.heap.size<=g/\g<w.heap.size/\∀ r∈rs,¬ r.W g)
structure Hp (b:World) (S:Nat->Prop) (w:World) (rs:List lH):Prop where
  ext:Ext b w
  ok:∀ r∈rs,r.ok (Rd b S rs w) w
  lo:∀ r∈rs,∀ g,r.W g->b.heap.size<=g/\g<w.heap.size
  dis:rs.Pairwise λr s=>∀ g,r.W g->¬ s.W g
inductive pE {α:Type}:List α->α->List α->Prop
  | h {r:α} {rs:List α}:pE (r::rs) r rs
  | t {r q:α} {rs rest:List α}:pE rs r rest->pE (q::rs) r (q::rest)
section
variable {α:Type}{q0 q1 q2 q3 q4 q5 q6 q7 q8 q9 q10 q11 q12 q13 q14 q15 r:α}{rs:List α}
theorem s0:pE (r::rs) r rs:=.h
theorem s1:pE (q0::r::rs) r (q0::rs):=.t .h
theorem s2:pE (q0::q1::r::rs) r (q0::q1::rs):=.t s1
theorem s3:pE (q0::q1::q2::r::rs) r (q0::q1::q2::rs):=.t s2
theorem s4:pE (q0::q1::q2::q3::r::rs) r (q0::q1::q2::q3::rs):=.t s3
theorem s5:pE (q0::q1::q2::q3::q4::r::rs) r (q0::q1::q2::q3::q4::rs):=.t s4
theorem s6:pE (q0::q1::q2::q3::q4::q5::r::rs) r (q0::q1::q2::q3::q4::q5::rs):=.t s5
theorem s7:pE (q0::q1::q2::q3::q4::q5::q6::r::rs) r (q0::q1::q2::q3::q4::q5::q6::rs):=.t s6
theorem s8:pE (q0::q1::q2::q3::q4::q5::q6::q7::r::rs) r (q0::q1::q2::q3::q4::q5::q6::q7::rs):=.t s7
theorem s9:pE (q0::q1::q2::q3::q4::q5::q6::q7::q8::r::rs) r (q0::q1::q2::q3::q4::q5::q6::q7::q8::rs):=.t s8
theorem s10:pE (q0::q1::q2::q3::q4::q5::q6::q7::q8::q9::r::rs) r (q0::q1::q2::q3::q4::q5::q6::q7::q8::q9::rs):=.t s9
theorem s11:pE (q0::q1::q2::q3::q4::q5::q6::q7::q8::q9::q10::r::rs) r (q0::q1::q2::q3::q4::q5::q6::q7::q8::q9::q10::rs):=.t s10
theorem s12:pE (q0::q1::q2::q3::q4::q5::q6::q7::q8::q9::q10::q11::r::rs) r (q0::q1::q2::q3::q4::q5::q6::q7::q8::q9::q10::q11::rs):=.t s11
theorem s13:pE (q0::q1::q2::q3::q4::q5::q6::q7::q8::q9::q10::q11::q12::r::rs) r (q0::q1::q2::q3::q4::q5::q6::q7::q8::q9::q10::q11::q12::rs):=.t s12
theorem s14:pE (q0::q1::q2::q3::q4::q5::q6::q7::q8::q9::q10::q11::q12::q13::r::rs) r (q0::q1::q2::q3::q4::q5::q6::q7::q8::q9::q10::q11::q12::q13::rs):=.t s13
theorem s15:pE (q0::q1::q2::q3::q4::q5::q6::q7::q8::q9::q10::q11::q12::q13::q14::r::rs) r (q0::q1::q2::q3::q4::q5::q6::q7::q8::q9::q10::q11::q12::q13::q14::rs):=.t s14
theorem pE.perm{rest:List α}(h:pE rs r rest):rs.Perm (r::rest):=by
  induction h with
  | h=>exact KL _
  | t _ ih=>exact(ih.cons _).trans (List.Perm.swap _ _ _)
end
section
variable {b w w':World}{S S':Nat->Prop}{rs rs' rest F:List lH}{r r':lH}{α:Type}{τ:Ty α}{e:TypeId}{A A':ah}{c c':Nat}{xs ys:List α}
theorem Rd.perm(h:rs.Perm rs'):∀ g,Rd b S rs w g->Rd b S rs' w g:=by
  rintro g (h1 | ⟨h1,h2,h3⟩)
  · exact .inl h1
  · exact .inr ⟨h1,h2,λr hr=>h3 r (h.mem_iff.2 hr)⟩
theorem Hp.perm(H:Hp b S w rs)(h:rs.Perm rs'):Hp b S w rs':=
  ⟨H.ext,λr hr=>r.sub (Rd.perm h) (H.ok r (h.mem_iff.2 hr)),λr hr=>H.lo r (h.mem_iff.2 hr),
    H.dis.perm h (λhxy g hy hx=>hxy g hx hy)⟩
theorem Hp.sel(H:Hp b S w rs)(s:pE rs r rest):Hp b S w (r::rest):=H.perm s.perm
theorem Hp.init(w:World)(S:Nat->Prop):Hp w S w []:=⟨pI w,λr hr=>by simp at hr,λr hr=>by simp at hr,List.Pairwise.nil⟩
def KM:=@Hp.init
theorem Rd.grow(hw:w.heap.size<=w'.heap.size):∀ g,Rd b S rs w g->Rd b S rs w' g:=by
  rintro g (h1 | ⟨h1,h2,h3⟩)
  · exact .inl h1
  · exact .inr ⟨h1,Sr h2 hw,h3⟩
theorem Hp.grow(H:Hp b S w rs)(e:Ext w w'):Hp b S w' rs:=
  ⟨H.ext.trans e,λr hr=>r.sub (Rd.grow e.size) (r.keep (λg _ hlt=>e.block g hlt) (H.ok r hr)),
    λr hr g hg=>⟨(H.lo r hr g hg).1,Sr (H.lo r hr g hg).2 e.size⟩,H.dis⟩
theorem Hp.tail(H:Hp b S w (r::rs)):Hp b S w rs:=by
  refine⟨H.ext,λq hq=>q.sub ?_ (H.ok q (by simp [hq])),λq hq=>H.lo q (by simp [hq]),(pG.1 H.dis).2⟩;rintro g (h1 | ⟨h1,h2,h3⟩)
  · exact .inl h1
  · exact .inr ⟨h1,h2,λq hq=>h3 q (by simp [hq])⟩
theorem Hp.rm(H:Hp b S w rs)(s:pE rs r rest):Hp b S w rest:=(H.sel s).tail
theorem Hp.new(H:Hp b S w rs)(e:Ext w w')(hW:∀ g,r.W g->w.heap.size<=g/\g<w'.heap.size)(hok:r.ok (Rd b S rs w) w'):Hp b S w' (r::rs):=by
  have hsub:∀ g,Rd b S rs w g->Rd b S (r::rs) w' g:=by
    rintro g (h1 | ⟨h1,h2,h3⟩)
    · exact .inl h1
    · refine .inr ⟨h1,Sr h2 e.size,λq hq=>?_⟩
      rcases iX.1 hq with rfl | hq
      · intro h; have:=(hW g h).1; omega
      · exact h3 q hq
  refine⟨H.ext.trans e,λq hq=>?_,λq hq g hg=>?_,pG.2 ⟨λq hq g hg hg2=>?_,H.dis⟩⟩
  · rcases iX.1 hq with rfl | hq
    · exact q.sub hsub hok
    · exact q.sub hsub (q.keep (λg _ hlt=>e.block g hlt) (H.ok q hq))
  · rcases iX.1 hq with rfl | hq
    · have h1:=hW g hg; have:=H.ext.size; omega
    · have h1:=H.lo q hq g hg; have:=e.size; omega
  · have h1:=(hW g hg).1; have h2:=(H.lo q hq g hg2).2; omega
structure Wr (b w w':World) (W:Nat->Prop):Prop where
  os:w'.os=w.os
  tape:w'.tape=w.tape
  output:w'.output=w.output
  size:w.heap.size<=w'.heap.size
  block:∀ k,k<w.heap.size->¬ W k->w'.heap[k]? = w.heap[k]?
  drawn:w.drawn<=w'.drawn
theorem Hp.put(H:Hp b S w (r::rs))(m:Wr b w w' r.W)(hW:∀ g,r'.W g->r.W g∨(w.heap.size<=g/\g<w'.heap.size))(hok:r'.ok (Rd b S (r::rs) w) w'):Hp b S w' (r'::rs):=by
  have hd:=pG.1 H.dis
  have hsub:∀ g,Rd b S (r::rs) w g->Rd b S (r'::rs) w' g:=by
    rintro g (h1 | ⟨h1,h2,h3⟩)
    · exact .inl h1
    · refine .inr ⟨h1,Sr h2 m.size,λq hq=>?_⟩
      rcases iX.1 hq with rfl | hq
      · intro h
        rcases hW g h with h4 | h4
        · exact h3 r av h4
        · omega
      · exact h3 q (by simp [hq])
  refine⟨⟨m.os.trans H.ext.os,m.tape.trans H.ext.tape,m.output.trans H.ext.output,lV H.ext.size m.size,λk hk=>?_,lV H.ext.drawn m.drawn⟩,λq hq=>?_,λq hq g hg=>?_,pG.2 ⟨λq hq g hg hg2=>?_,hd.2⟩⟩
  · refine(m.block k (Sr hk H.ext.size) λh=>?_).trans (H.ext.block k hk)
    have:=(H.lo r av k h).1; omega
  · rcases iX.1 hq with rfl | hq
    · exact q.sub hsub hok
    · refine q.sub hsub (q.keep (λg hg hlt=>m.block g hlt λh=>?_) (H.ok q (by simp [hq])))
      rcases hg with hg | hg
      · exact hd.1 q hq g h hg
      · rcases hg with hg | hg
        · have:=(H.lo r av g h).1; omega
        · exact hg.2.2 r av h
  · rcases iX.1 hq with rfl | hq
    · rcases hW g hg with h1 | h1
      · have:=H.lo r av g h1; have:=m.size; omega
      · have:=H.ext.size; omega
    · have h1:=H.lo q (by simp [hq]) g hg; have:=m.size; omega
  · rcases hW g hg with h1 | h1
    · exact hd.1 q hq g h1 hg2
    · have:=(H.lo q (by simp [hq]) g hg2).2; omega
theorem Hp.lift(H:Hp b S w F)(h:Hp w (Rd b S F w) w' rs):Hp b S w' (rs++F):=by
  have e:=h.ext
  have hs1:∀ g,Rd w (Rd b S F w) rs w' g->Rd b S (rs++F) w' g:=by
    rintro g (⟨h0,h1 | ⟨h1,h2,h3⟩⟩ | ⟨h1,h2,h3⟩)
    · exact .inl h1
    · refine .inr ⟨h1,Sr h2 e.size,λq hq=>?_⟩
      rcases jN.1 hq with hq | hq
      · intro h4; have:=(h.lo q hq g h4).1; omega
      · exact h3 q hq
    · refine .inr ⟨lV H.ext.size h1,h2,λq hq=>?_⟩
      rcases jN.1 hq with hq | hq
      · exact h3 q hq
      · intro h4; have:=(H.lo q hq g h4).2; omega
  have hs2:∀ g,Rd b S F w g->Rd b S (rs++F) w' g:=by
    rintro g (h1 | ⟨h1,h2,h3⟩)
    · exact .inl h1
    · refine .inr ⟨h1,Sr h2 e.size,λq hq=>?_⟩
      rcases jN.1 hq with hq | hq
      · intro h4; have:=(h.lo q hq g h4).1; omega
      · exact h3 q hq
  refine⟨H.ext.trans e,λq hq=>?_,λq hq g hg=>?_,y8.2 ⟨h.dis,H.dis,λq hq p hp g hg hg2=>?_⟩⟩
  · rcases jN.1 hq with hq | hq
    · exact q.sub hs1 (h.ok q hq)
    · exact q.sub hs2 (q.keep (λg _ hlt=>e.block g hlt) (H.ok q hq))
  · rcases jN.1 hq with hq | hq
    · have h1:=h.lo q hq g hg; have:=H.ext.size; omega
    · have h1:=H.lo q hq g hg; have:=e.size; omega
  · have h1:=(h.lo q hq g hg).1; have h2:=(H.lo p hp g hg2).2; omega
class za (r:lH):Prop where
  h:∀ {S S':Nat->Prop} {w:World},r.ok S w->r.ok S' w
instance [Flat τ]:za (aS τ e A c xs):=⟨λ{S S' w} h=>by
  obtain⟨css,hl,hR,hown⟩:=h
  exact⟨css,hl,λi y hy=>by obtain⟨cs,h1,h2⟩:=hR i y hy; exact⟨cs,h1,Flat.h h2⟩,hown⟩⟩
instance {g:Nat}{t:TypeId}{cs:List Value}:za (dY g t cs):=⟨λh=>h⟩
class abK (rs:List lH):Prop where
  h:∀ r∈rs,za r
instance:abK []:=⟨λr hr=>by simp at hr⟩
instance [h1:za r][h2:abK rs]:abK (r::rs):=⟨λq hq=>by
  rcases iX.1 hq with rfl | hq
  · exact h1
  · exact h2.h q hq⟩
theorem Hp.re[hf:abK rs](h:Hp b S w rs):Hp b S' w rs:=⟨h.ext,λr hr=>(hf.h r hr).h (h.ok r hr),h.lo,h.dis⟩
theorem Hp.c0(H:Hp b S w F){S':Nat->Prop}(h:Hp w S' w' []):Hp b S w' F:=H.grow h.ext
theorem Hp.c1(H:Hp b S w F)(h:Hp w (Rd b S F w) w' [r]):Hp b S w' (r::F):=H.lift h
theorem Hp.c2{r1 r2:lH}(H:Hp b S w F)(h:Hp w (Rd b S F w) w' [r1,r2]):Hp b S w' (r1::r2::F):=H.lift h
theorem Hp.c3{r1 r2 r3:lH}(H:Hp b S w F)(h:Hp w (Rd b S F w) w' [r1,r2,r3]):Hp b S w' (r1::r2::r3::F):=H.lift h
theorem Hp.f1[za r](H:Hp b S w F)(h:Hp w S' w' [r]):Hp b S w' (r::F):=H.lift h.re
theorem Hp.f2{r1 r2:lH}[za r1][za r2](H:Hp b S w F)(h:Hp w S' w' [r1,r2]):Hp b S w' (r1::r2::F):=H.lift h.re
theorem Hp.f3{r1 r2 r3:lH}[za r1][za r2][za r3](H:Hp b S w F)(h:Hp w S' w' [r1,r2,r3]):Hp b S w' (r1::r2::r3::F):=H.lift h.re
theorem Hp.a(H:Hp b S w rs)(h:Sl τ S b A c xs):Sl τ (Rd b S rs w) w A c xs:=
  (h.ext H.ext |>.keep (w':=w) (λ_ _ _=>rfl)) |> λ_=>((h.bd.sub (S':=Rd b S rs w) (λg hg=>.inl ⟨hg.2,hg.1⟩)).ext H.ext)
theorem Hp.o(H:Hp b S w rs)(s:pE rs (aS τ e A c xs) rest):Sl τ Any w A c xs:=
  Own.sl (H.ok (aS τ e A c xs) (s.perm.mem_iff.2 av)) (λ_ _=>trivial) (λ_ _=>trivial)
theorem Hp.ow(H:Hp b S w rs)(s:pE rs (aS τ e A c xs) rest):Own τ e b.heap.size (Rd b S rs w) w A c xs:=
  Own.lift (lo:=0) (H.ok (aS τ e A c xs) (s.perm.mem_iff.2 av)) (λg hg=>(H.lo (aS τ e A c xs) (s.perm.mem_iff.2 av) g hg).1)
theorem Hp.s(H:Hp b S w rs)(s:pE rs (dP τ A c xs) rest):Sl τ (Rd b S rs w) w A c xs:=H.ok (dP τ A c xs) (s.perm.mem_iff.2 av)
theorem Hp.x{g:Nat}{t:TypeId}{cs:List Value}(H:Hp b S w rs)(s:pE rs (dY g t cs) rest):Bx w g t cs:=H.ok (dY g t cs) (s.perm.mem_iff.2 av)
theorem Hp.push(H:Hp b S w rs)(h:Sl τ (Rd b S rs w) w A c xs):Hp b S w (dP τ A c xs::rs):=H.new (r:=dP τ A c xs) (pI w) (λ_ h=>h.elim) h
theorem Hp.nil(H:Hp b S w rs)(τ:Ty α)(e:TypeId):Hp b S w (aS τ e none 0 []::rs):=
  H.new (r:=aS τ e none 0 []) (pI w) (λ_ h=>by cases h) (Own.none_ τ e 0 _ w)
theorem Hp.fz(H:Hp b S w rs)(s:pE rs (aS τ e A c xs) rest):Hp b S w (dP τ A c xs::rest):=by
  have H1:=H.sel s;have h2:Own τ e 0 (Rd b S (aS τ e A c xs::rest) w) w A c xs:=H1.ok (aS τ e A c xs) av;refine⟨H.ext,λq hq=>?_,λq hq g hg=>?_,pG.2 ⟨λq hq g hg=>hg.elim,(pG.1 H1.dis).2⟩⟩
  · rcases iX.1 hq with rfl | hq
    · show Sl τ (Rd b S (dP τ A c xs::rest) w) w A c xs
      have h3:Own τ e 0 (Rd b S (dP τ A c xs::rest) w) w A c xs:=h2.low (kV _) (by
        rintro g (h | ⟨h4,h5,h6⟩)
        · exact .inl h
        · refine .inr ⟨h4,h5,λr hr=>?_⟩
          rcases iX.1 hr with rfl | hr
          · exact λh=>h
          · exact h6 r (by simp [hr]))
      refine h3.slb (λg hg=>?_) (λ_ h=>h);have h8:=H1.lo (aS τ e A c xs) av g hg;refine .inr ⟨h8.1,h8.2,λr hr=>?_⟩
      rcases iX.1 hr with rfl | hr
      · exact λh=>h
      · exact(pG.1 H1.dis).1 r hr g hg
    · refine q.sub ?_ (H1.ok q (by simp [hq]))
      rintro g (h | ⟨h4,h5,h6⟩)
      · exact .inl h
      · refine .inr ⟨h4,h5,λr hr=>?_⟩
        rcases iX.1 hr with rfl | hr
        · exact λh=>h
        · exact h6 r (by simp [hr])
  · rcases iX.1 hq with rfl | hq
    · exact hg.elim
    · exact H1.lo q (by simp [hq]) g hg
end
class Tk {α:Type} (n:Nat) (l:List α) (xs r:outParam (List α)):Prop where
  h:l=xs++r
class Ap {α:Type} (xs ys:List α) (o:outParam (List α)):Prop where
  h:xs++ys=o
instance Tk.z{α:Type}{l:List α}:Tk 0 l [] l:=⟨rfl⟩
instance Tk.s{α:Type}{n:Nat}{a:α}{l xs r:List α}[h:Tk n l xs r]:Tk (n+1) (a::l) (a::xs) r:=⟨by rw [h.h]; rfl⟩
instance Ap.z{α:Type}{l:List α}:Ap [] l l:=⟨rfl⟩
instance Ap.s{α:Type}{a:α}{l x o:List α}[h:Ap x l o]:Ap (a::x) l (a::o):=⟨by rw [<- h.h]; rfl⟩
instance (priority:=10) Ap.d{α:Type}{xs ys:List α}:Ap xs ys (xs++ys):=⟨rfl⟩
instance Ap.a{α:Type}{x y l o q:List α}[h:Ap x y q][g:Ap q l o]:Ap (x++y) l o:=⟨by rw [<- g.h,<- h.h]⟩
instance Tk.a{α:Type}{n:Nat}{x y l xs r:List α}[h:Ap x y l][g:Tk (n+1) l xs r]:Tk (n+1) (x++y) xs r:=⟨by rw [h.h,g.h]⟩
theorem Hp.off{b:World}{R:List lH}:∀ {B:List lH},Hp b S w (B++R)->Hp b S w R
  | [],H=>H
  | _::B,H=>Hp.off (B:=B) H.tail
theorem Hp.mV{b:World}{l P l1 B R x o:List lH}(H:Hp b S w l)(n k:Nat)[h1:Tk n l P l1][h2:Tk k l1 B R][h3:Ap P R x][h4:Ap B x o]:Hp b S w o:=
  H.perm (by rw [h1.h,h2.h,<- h4.h,<- h3.h]; exact List.perm_append_comm_assoc P B R)
theorem Hp.cU{b:World}{l P l1 B R o:List lH}(H:Hp b S w l)(n k:Nat)[h1:Tk n l P l1][h2:Tk k l1 B R][h3:Ap P R o]:Hp b S w o:=
  Hp.off (B:=B) (H.perm (by rw [h1.h,h2.h,<- h3.h]; exact List.perm_append_comm_assoc P B R))
theorem pE.mid{r:α}:∀(P R:List α),pE (P++r::R) r (P++R)
  | [],_=>.h
  | _::P,R=>.t (pE.mid P R)
theorem sx{l P R x:List α}{r:α}(n:Nat)[h:Tk n l P (r::R)][h2:Ap P R x]:pE l r x:=by
  rw [h.h,<- h2.h]; exact pE.mid P R
def look:List (Nat × Value)->Nat->Option Value
  | [],_=>none
  | p::l,i=>bif Nat.beq p.1 i then some p.2 else look l i
def iG(l:List (Nat × Value)):Operand->Option Value
  | .tmp t=>look l t
  | .const v=>some v
  | .global g=>some (.pointer (some ⟨g,0,none⟩))
  | .func f=>some (.func (.func f) #[] #[])
def EW(l:List (Nat × Value)):List Operand->Option (List Value)
  | []=>some []
  | x::xs=>match iG l x,EW l xs with
    | some v,some vs=>some (v::vs)
    | _,_=>none
def Qe(l:List (Nat × Value)):List (Nat × Operand)->Option (List (Nat × Value))
  | []=>some []
  | x::xs=>match iG l x.2,Qe l xs with
    | some v,some vs=>some ((x.1,v)::vs)
    | _,_=>none
structure Cx where
  size:Nat
  round:Option Nat
  marks:List Nat
  plain:Bool
def Cx.BA(n:Cx):Cx:=⟨n.size,n.round,n.marks,true⟩
def Cx.fence(n:Cx):Fence:={ Fence.wide with round:=n.round }
def Cx.defers(n:Cx):List Deferred:=n.marks.map λD=>{ target:=.collected D,args:=#[] }
abbrev Cx.bare(k:Nat):Cx:=⟨k,none,[],false⟩
theorem Cx.ahS{n:Cx}(h:n.round=none):n.fence=Fence.wide:=by unfold Cx.fence; rw [h]; rfl
def V9:=@Cx.ahS
structure Has (n:Cx) (l:List (Nat × Value)) (a:Act):Prop where
  defers:a.defers=n.defers
  size:a.tmps.size=n.size
  get:∀ i v,look l i=some v->a.tmps.getD i undef=v
section
variable {n:Cx}{l l':List (Nat × Value)}{a:Act}
theorem Has.eval(h:Has n l a){x:Operand}(hx:iG l x=some v):a.eval x=v:=by
  cases x with
  | tmp t=>exact h.get t v hx
  | const c=>injection hx
  | global g=>injection hx
  | func f=>injection hx
theorem Has.UA(h:Has n l a):∀ {xs:List Operand} {vs:List Value},EW l xs=some vs->xs.map a.eval=vs
  | [],vs,hx=>by simp [EW] at hx; simp [hx]
  | x::xs,vs,hx=>by
    unfold EW at hx
    cases h1:iG l x with
    | none=>simp [h1] at hx
    | some v=>
      cases h2:EW l xs with
      | none=>simp [h1,h2] at hx
      | some us=>
        simp [h1,h2] at hx
        subst hx
        simp [h.eval h1,Has.UA h h2]
theorem Has.Qe(h:Has n l a):∀ {xs:List (Nat × Operand)} {vs:List (Nat × Value)},Proofs.YtlhnnmlenkahlaaGreat.Qe l xs=some vs->xs.map (λp=>(p.1,a.eval p.2))=vs
  | [],vs,hx=>by simp [Proofs.YtlhnnmlenkahlaaGreat.Qe] at hx; simp [hx]
  | x::xs,vs,hx=>by
    unfold Proofs.YtlhnnmlenkahlaaGreat.Qe at hx
    cases h1:iG l x.2 with
    | none=>simp [h1] at hx
    | some v=>
      cases h2:Proofs.YtlhnnmlenkahlaaGreat.Qe l xs with
      | none=>simp [h1,h2] at hx
      | some us=>
        simp [h1,h2] at hx
        subst hx
        simp [h.eval h1,Has.Qe h h2]
theorem Has.put(h:Has n l a){d:Nat}(hd:Nat.blt d n.size=true)(v:Value):Has n ((d,v)::l) (a.put (some d) v):=by
  have hd':d<n.size:=by simpa [Nat.blt_eq] using hd
  have hs:=h.size;refine⟨h.defers,by simp [Act.put,hs],λi u hu=>?_⟩;unfold look at hu
  cases hb:Nat.beq d i with
  | true=>
    have:d=i:=Oo hb;subst this
    simp [hb] at hu
    subst hu
    simp [Act.put,hs,hd']
  | false=>
    have hne:d≠i:=ajR hb
    simp [hb] at hu
    have:=h.get i u hu
    simp only [DT] at this
    simpa [Act.put,ajS hne] using this
def alY(l:List (Nat × Value)):List (Nat × Value)->Prop
  | []=>True
  | p::r=>look l p.1=some p.2/\alY l r
theorem alY.look:∀ {r:List (Nat × Value)},alY l r->∀ i v,look r i=some v->look l i=some v
  | [],_,i,v,h=>by simp [Proofs.YtlhnnmlenkahlaaGreat.look] at h
  | p::r,hs,i,v,h=>by
    unfold Proofs.YtlhnnmlenkahlaaGreat.look at h
    cases hb:Nat.beq p.1 i with
    | true=>
      have:p.1=i:=Oo hb
      simp [hb] at h
      subst this h;exact hs.1
    | false=>simp [hb] at h; exact alY.look hs.2 i v h
theorem Has.subs(h:Has n l a)(hs:alY l l'):Has n l' a:=⟨h.defers,h.size,λi v hv=>h.get i v (hs.look i v hv)⟩
theorem Has.set(h:Has n l a){t:Nat}{v':Value}(hl:look l t=some v)(e:v=v'):Has n ((t,v')::l) a:=by
  subst e;refine⟨h.defers,h.size,λi u hu=>?_⟩;unfold look at hu
  cases hb:Nat.beq t i with
  | true=>
    have:t=i:=Oo hb;subst this
    simp [hb] at hu
    subst hu;exact h.get t v hl
  | false=>simp [hb] at hu; exact h.get i u hu
def enum:Nat->List Value->List (Nat × Value)
  | _,[]=>[]
  | i,v::vs=>(i,v)::enum (i+1) vs
theorem Nk:∀(vs:List Value)(k i:Nat)(v:Value),look (enum k vs) i=some v->k<=i/\vs[i - k]? = some v
  | [],k,i,v,h=>by simp [enum,look] at h
  | u::vs,k,i,v,h=>by
    simp only [enum,look] at h
    cases hb:Nat.beq k i with
    | true=>
      have:k=i:=Oo hb;subst this
      simp [hb] at h
      subst h
      simp
    | false=>
      have hne:k≠i:=ajR hb
      simp [hb] at h
      obtain⟨h1,h2⟩:=Nk vs (k+1) i v h;refine⟨aj,?_⟩;rw [show i - k=(i - (k+1))+1 from by omega]
      simpa using h2
end
def WP(P:Program)(n:Cx)(c:Code)(l:List (Nat × Value))(w:World)(Q:Exit->Act->World->Prop):Prop:=∀ a,Has n l a->c.wpIn n.fence 0 P Q a w
def Ot(P:Program)(n:Cx)(y:Code)(Q:Exit->Act->World->Prop):Act->World->Prop:=λa w=>y.wpIn n.fence 0 P Q a w
def l8(n:Cx)(Q:Exit->Act->World->Prop)(e:Exit)(l:List (Nat × Value))(w:World):Prop:=∀ a,Has n l a->Q e a w
def opw(P:Program)(n:Cx)(o:Oper)(a:Act)(w:World)(next:Act->World->Prop)(Q:Exit->Act->World->Prop):Prop:=
  match n.plain with
  | true=>o.wp P a w next Q
  | false=>o.wpIn n.fence 0 P a w next Q
theorem aeE{n:Cx}{o:Oper}{a:Act}{K':Act->World->Prop}(h:∀ a w,K a w->K' a w)(hh:opw P n o a w K Q):opw P n o a w K' Q:=by
  unfold opw at hh ⊢
  cases hp:n.plain with
  | true=>rw [hp] at hh; exact Oper.wp_mono h hh
  | false=>rw [hp] at hh; exact Oper.wpIn_mono h hh
theorem Wh{n:Cx}{o:Oper}{a:Act}{x:Next}(hx:∀ d,x≠.defer d)(h:(execOp a.eval o).run P w=.ok x w'):o.semAt n.fence.round a.eval=execOp a.eval o:=by
  refine Oper.semAt_eq _ _ _ λc hc=>?_;unfold execOp at h;rw [hc] at h
  simp only [jF] at h
  cases hr:(resolve a.eval c o.type).run P w with
  | ok d w2=>
    rw [hr] at h
    simp at h
    exact hx d h.1.symm
  | halt x w2=>rw [hr] at h; cases h
theorem Nl{n:Cx}{o:Oper}{a:Act}(h:(execOp a.eval o).run P w=.ok (.value v) w')(k:K (a.put o.dst v) w'):opw P n o a w K Q:=by
  unfold opw
  cases n.plain with
  | true=>show o.wp P a w K Q; unfold Oper.wp; rw [h]; exact k
  | false=>exact⟨λ_ _=>trivial,by rw [Wh (λd hd=>by cases hd) h,h]; exact k⟩
theorem aoI{n:Cx}{o:Oper}{a:Act}(h:(execOp a.eval o).run P w=.ok .skip w')(k:K (a.put o.dst undef) w'):opw P n o a w K Q:=by
  unfold opw
  cases n.plain with
  | true=>show o.wp P a w K Q; unfold Oper.wp; rw [h]; exact k
  | false=>exact⟨λ_ _=>trivial,by rw [Wh (λd hd=>by cases hd) h,h]; exact k⟩
theorem Wi{n:Cx}{R:Ending->World->Prop}(k:Nat)(h:Calls P f args w R):CallsIn n.fence k P f args w R:=
  (callsIn_wide (n:=k)).2 h
theorem aav{n:Cx}{o:Oper}{a:Act}(h:(execOp a.eval o).run P w=.ok (.enter f args) w')
    (k:Calls P f args w' λe w''=>∃ v,e=.returned v/\K (a.put o.dst v) w''):opw P n o a w K Q:=by
  unfold opw
  cases n.plain with
  | true=>show o.wp P a w K Q; unfold Oper.wp; rw [h]; exact Fq k (by rintro e w'' ⟨v,rfl,hv⟩; exact hv)
  | false=>exact⟨λ_ _=>trivial,by rw [Wh (λd hd=>by cases hd) h,h]; exact⟨λhd=>(by cases hd),CallsIn.mono (Wi _ k) (by rintro e w'' ⟨v,rfl,hv⟩; exact hv)⟩⟩
def Wj(P:Program)(n:Cx)(dh:Array Oper)(Q:Exit->Act->World->Prop)(K:Act->World->Prop):List Oper->Act->World->Prop
  | [],a,w=>K a w
  | o::rest,a,w=>if Region.wanted o (yielded dh a.tmps) then opw P n o a w (Wj P n dh Q K rest) Q else Wj P n dh Q K rest (a.put o.dst undef) w
theorem ajT{P:Program}{n:Cx}{dh:Array Oper}{Q:Exit->Act->World->Prop}(hp:n.plain=false):∀(os:List Oper)(k:Nat),(∀ i,dh[k+i]? = os[i]?)->∀ a w,Wj P n dh Q (Q .normal) os a w->wpOpsIn n.fence 0 P dh Q (List.range' k os.length) a w
  | [],k,_,a,w,h=>h
  | o::os,k,hk,a,w,h=>by
    have h0:dh[k]? = some o:=by simpa using hk 0
    simp only [pF,List.range'_succ]
    unfold wpOpsIn;rw [h0]
    simp only []
    have ih:=ajT (P:=P) (Q:=Q) hp os (k+1) (λi=>by have:=hk (i+1); simpa [Nat.add_assoc,Nat.add_comm 1] using this);unfold Wj at h
    split
    · rename_i hw
      rw [aO hw] at h;unfold opw at h;rw [hp] at h;exact Oper.wpIn_mono (λa w=>ih a w) h
    · rename_i hw
      rw [aK hw] at h;exact⟨λ_ _=>trivial,ih _ _ h⟩
theorem Wm{n:Cx}{a:Act}(hp:n.plain=false)(h:Wj P n ol.toArray Q (Q .normal) ol a w):(Code.region id ol.toArray false).wpIn n.fence 0 P Q a w:=by
  refine wpIn_region ?_;have:=ajT hp ol 0 av a w h
  simpa [List.range_eq_range'] using this
def WL(P:Program)(n:Cx)(dh:Array Oper)(Q:Exit->Act->World->Prop)(K:Act->World->Prop)(os:List Oper)(l:List (Nat × Value))(w:World):Prop:=
  ∀ a,Has n l a->Wj P n dh Q K os a w
def bS(P:Program)(f:FuncId)(args:Array Value)(w:World)(R:Value->World->Prop):Prop:=Calls P f args w λe w'=>∃ v,e=.returned v/\R v w'
theorem bS.mono{R R':Value->World->Prop}(h:bS P f args w R)(hr:∀ v w',R v w'->R' v w'):bS P f args w R':=
  Fq h λ_ w' ⟨v,he,hv⟩=>⟨v,he,hr v w' hv⟩
def RR(R:Value->World->Prop):Ending->World->Prop:=λe w'=>∃ v,e=.returned v/\R v w'
section
variable {P:Program}{n:Cx}{l l':List (Nat × Value)}{w w':World}{Q:Exit->Act->World->Prop}{K:Act->World->Prop}
theorem WP.enter{k:Nat}{c:Code}{vs:List Value}{R:Value->World->Prop}(hf:P.funcs[f]? = some fn)(hb:fn.body=some c)(hn:fn.ntmps=k)(hle:Nat.ble vs.length k=true)
    (h:WP P (.bare k) c (enum 0 vs) w (bodyPost P fn (RR R))):bS P f vs.toArray w R:=by
  refine calls_of_wp hf hb (Oq.1 (h _ ⟨Y,?_,λi v hv=>?_⟩))
  · have:=pU hle
    simp [hn]; omega
  · obtain⟨_,h2⟩:=Nk vs 0 i v hv
    have hi:i<vs.length:=(nP.1 h2).1
    simp only [Qc] at h2
    have h3:=(nP.1 h2).2
    simp [Array.getElem?_append,hi,h3]
theorem WP.region(h:WL P n ol.toArray (Exit.then (Ot P n y Q) Q) (Ot P n y Q) ol l w)(hp:n.plain=false:=by rfl):WP P n (.seq (.region id ol.toArray false) y) l w Q:=
  λa ha=>Uz (Wm hp (h a ha))
def CW:=@WP.region
theorem WP.ahU(h:WL P n ol.toArray Q (Q .normal) ol l w)(hp:n.plain=false:=by rfl):WP P n (.region id ol.toArray false) l w Q:=
  λa ha=>Wm hp (h a ha)
theorem WL.done(h:WP P n y l w Q):WL P n dh Q' (Ot P n y Q) [] l w:=λa ha=>h a ha
def CX:=@WL.done
theorem WL.aoJ(h:l8 n Q .normal l w):WL P n dh Q' (Q .normal) [] l w:=λa ha=>h a ha
theorem WP.cond{c:Operand}{x z:Code}{b:Bool}(hc:iG l c=some (.bool b))(h1:b=true->WP P n x l w (Exit.then (Ot P n z Q) Q))(h2:b=false->WP P n y l w (Exit.then (Ot P n z Q) Q)) :
    WP P n (.seq (.cond c x y) z) l w Q:=λa ha=>Uz (wpIn_cond_split (ha.eval hc) (λe=>h1 e a ha) (λe=>h2 e a ha))
theorem WP.aoK{c:Operand}{x:Code}{b:Bool}(hc:iG l c=some (.bool b))(h1:b=true->WP P n x l w Q)(h2:b=false->WP P n y l w Q) :
    WP P n (.cond c x y) l w Q:=λa ha=>wpIn_cond_split (ha.eval hc) (λe=>h1 e a ha) (λe=>h2 e a ha)
def bK:=@WP.aoK
theorem WP.seq{x:Code}(h:WP P n x l w (Exit.then (Ot P n y Q) Q)):WP P n (.seq x y) l w Q:=λa ha=>Uz (h a ha)
def aW:=@WP.seq
theorem WP.skip(h:l8 n Q .normal l w):WP P n .skip l w Q:=λa ha=>wpIn_skip (h a ha)
def ze:=@WP.skip
theorem WP.ret(h:l8 n Q .ret l w):WP P n .ret l w Q:=λa ha=>wpIn_ret (h a ha)
def jf:=@WP.ret
theorem WP.exit(h:l8 n Q (.exit id) l w):WP P n (.exit id) l w Q:=λa ha=>wpIn_exit (h a ha)
def qJ:=@WP.exit
theorem WP.block{c:Code}(h:WP P n c l w (Exit.inBlock id Q)):WP P n (.block id c) l w Q:=λa ha=>wpIn_block (h a ha)
def cB:=@WP.block
def Again(n:Cx)(J:Nat->List (Nat × Value)->World->Prop)(m:Nat)(a:Act)(w:World):Prop:=∃ m' l,m'<m/\Has n l a/\J m' l w
theorem WP.loop{c:Code}(J:Nat->List (Nat × Value)->World->Prop)(m0:Nat)(l0:List (Nat × Value))(hs:∀ a,Has n l a->Has n l0 a)(h0:J m0 l0 w)
    (hr:∀ m l w',J m l w'->WP P n c l w' (Exit.then (Again n J m) Q)):WP P n (.loop c) l w Q:=λa ha=>by
  refine wpIn_loop_ghost (λm a w=>∃ l,Has n l a/\J m l w) m0 ⟨l0,hs a ha,h0⟩ ?_;rintro m a w ⟨l,h1,h2⟩;refine wpIn_mono (hr m l w h2 a h1) ?_;intro e a' w' hq
  cases e with
  | normal=>obtain⟨m',l',h3,h4,h5⟩:=hq; exact⟨m',h3,l',h4,h5⟩
  | _=>exact hq
theorem l8.norm(h:WP P n y l w Q):l8 n (Exit.then (Ot P n y Q) Q) .normal l w:=λa ha=>h a ha
def gG:=@l8.norm
theorem l8.alZ(h:l8 n Q (.exit i) l w):l8 n (Exit.then K Q) (.exit i) l w:=λa ha=>h a ha
def lu:=@l8.alZ
theorem l8.aoL(h:l8 n Q .ret l w):l8 n (Exit.then K Q) .ret l w:=λa ha=>h a ha
def fT:=@l8.aoL
theorem l8.aaw(h:l8 n Q (.goto i) l w):l8 n (Exit.then K Q) (.goto i) l w:=λa ha=>h a ha
theorem l8.at6(h:l8 n Q .ret l w):l8 n (Exit.inBlock id Q) .ret l w:=λa ha=>h a ha
def jg:=@l8.at6
theorem l8.aoM(h:l8 n Q .normal l w):l8 n (Exit.inBlock id Q) .normal l w:=λa ha=>h a ha
def iE:=@l8.aoM
theorem l8.ayb(h:l8 n Q .normal l w):l8 n (Exit.inBlock id Q) (.exit id) l w:=λa ha=>by
  show(if id=id then _ else _); rw [aO rfl]; exact h a ha
def rE:=@l8.ayb
theorem l8.ayc(hne:Nat.beq i id=false)(h:l8 n Q (.exit i) l w):l8 n (Exit.inBlock id Q) (.exit i) l w:=λa ha=>by
  show(if i=id then _ else _); rw [aK (ajR hne)]; exact h a ha
def Ou:=@l8.ayc
def Wn(l:List (Nat × Value)):List ResultVar->Option (List Value)
  | []=>some []
  | .tmp t::rs=>match look l t,Wn l rs with
    | some v,some vs=>some (v::vs)
    | _,_=>none
  | .cell _ _::_=>none
def uJ:List Value->Value
  | [v]=>v
  | vs=>.tuple vs.toArray
theorem aeF(f:ResultVar->Sem Value)(a:Act)(hf:∀ t,f (.tmp t)=pure (a.tmps.getD t undef))(ha:Has n l a):∀(rs:List ResultVar)(vs:List Value),Wn l rs=some vs->(rs.mapM f).run P w=.ok vs w
  | [],vs,h=>by simp [Wn] at h; subst h; rfl
  | .tmp t::rs,vs,h=>by
    unfold Wn at h
    cases h1:look l t with
    | none=>simp [h1] at h
    | some v=>
      cases h2:Wn l rs with
      | none=>simp [h1,h2] at h
      | some us=>
        simp [h1,h2] at h
        subst h;have:=aeF f a hf ha rs us h2;have hg:=ha.get t v h1
        simp only [List.mapM_cons,jF,kL,jG,hf,hg,this]
  | .cell _ _::_,vs,h=>by simp [Wn] at h
theorem l8.aoN{R:Value->World->Prop}{rs:List ResultVar}{vs:List Value}(hr:fn.results=rs.toArray)(hv:Wn l rs=some vs)(hw:uJ vs=v)(hR:R v w)(hm:n.marks=[]:=by rfl):l8 n (bodyPost P fn (RR R)) .ret l w:=by
  intro a ha;refine⟨ha.defers.trans (by unfold Cx.defers; rw [hm]; rfl),v,?_,v,rfl,hR⟩;unfold results;rw [hr,jF,List.mapM_toArray,Sem.run_map,aeF (P:=P) (w:=w) _ a (λ_=>rfl) ha rs vs hv]
  simp only [jG,kL]
  subst hw
  match vs with
  | []=>simp [uJ]
  | [v]=>simp [uJ]
  | u::v::vs=>simp [uJ]
def UC:=@l8.aoN
theorem l8.al0{R:Value->World->Prop}(h:l8 n (bodyPost P fn (RR R)) .ret l w):l8 n (bodyPost P fn (RR R)) .normal l w:=h
def rU:=@l8.al0
end
end Go.Proofs.YtlhnnmlenkahlaaGreat
