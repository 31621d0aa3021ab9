/- Lemmas. -/
import Derived.Lib.SliceRun
import Derived.Maps.AppendAt
import Derived.OrdersHeld
import Derived.Test.YtlhnnmlenkahlaaGreatvG0
set_option linter.all false
namespace Go.Proofs.YtlhnnmlenkahlaaGreat
open Go.RowKit
def XW:=@List.cons_append
def sJ:=@List.take_append_drop
def rM:=@List.map_toArray
def y8:=@eqGuard_at_int
def mO:=@List.map_cons
def vL:=@List.map_nil
def Y6:=@run_loadCells_list
def Et:=@Addr.add_lit
def IK:=@List.getElem?_take
def Cc:=@List.getElem?_drop
def PX:=@run_storeCells_at
def IL:=@setRow_heap
def LX:=@List.size_toArray
def j6:=@run_underlying
def Ad:=@List.append_nil
def fK:=@Nat.zero_le
def qx:=@List.length_nil
def kN:=@List.length_drop
def fE:=@List.length_take
def Y7:=@List.take_length
def iD:=@List.take_of_length_le
def Y8:=@List.take_succ_cons
def TW:=@List.take_append
def Eu:=@Nat.min_eq_left
def uE:=@Nat.mul_le_mul_right
def IQ:=@List.take_take
def LY:=@run_sliceAt_slice
def TY:=@Int.toNat_natCast
def xk:=@List.mem_of_getElem?
def mZ:=@List.all_eq_true
def Y9:=@List.countP_le_length
def LZ:=@List.countP_append
def L6:=@decide_eq_true
def Ew:=@List.pairwise_iff_getElem
def jC:=@of_decide_eq_true
def kg:=@of_decide_eq_false
variable {a j d c m i k g bytes lo lb hi b:Nat}{v u:Value}{o:Oper}{R:Value->World->Prop}{op:Op}{ty t e t':TypeId}{pos:String}{lD:Array Edge}{bW:Bool}{ol:List Oper}{y IE x:Operand}{Qa:Act->Prop}{args:List Operand}{tys ts:Array TypeId}{f:FuncId}{caps vs cs:List Value}{A B:ah}{k':IntKind}{parts:List (Nat × Operand)}{α:Type}{S S2:Nat->Prop}{w:World}{p:α->Bool}{enc:α->List Value}{xs ys s:List α}{τ:Ty α}{xss:List (List α)}{key:α->Int}{hl:∀ x,(enc x).length=k}{h1:∀ x,∀ u∈enc x,u.oneCell'=true}
def Ev(P:Program)(n:Cx)(l:List (Nat × Value))(w:World)(op:Op)(v:Value):Prop:=
  ∀(o:Oper)(a:Act)(w':World),o.op=op->Has n l a->Ext w w'->(execOp a.eval o).run P w'=.ok (.value v) w'
def guardOf(bT:Array Oper)(l:List (Nat × Value))(j:Nat):Option Value:=((bT[j]?).bind (·.dst)).bind (look l)
def unlike(bW:Bool):Value->Bool
  | .bool b=>b != bW
  | _=>true
section
variable {P:Program}{n:Cx}{l l':List (Nat × Value)}{w w':World}{Q:Exit->Act->World->Prop}{K:Act->World->Prop}{bT:Array Oper}{os:List Oper}
theorem Ce{a:Act}(ha:Has n l a)(h:guardOf bT l j=some v):yielded bT a.tmps j=match v with | .bool b=>some b | _=>none:=by
  unfold guardOf at h;unfold yielded
  cases hd:(bT[j]?).bind (·.dst) with
  | none=>simp [hd] at h
  | some t=>
    simp only [hd,Option.bind_some] at h ⊢
    have hg:=ha.get t v h
    simp only [BX] at hg
    cases ht:a.tmps[t]? with
    | none=>
      rw [ht] at hg
      simp at hg
      subst hg
      rfl
    | some u=>
      rw [ht] at hg
      simp at hg
      subst hg
      cases u <;> rfl
theorem WL.val(hw:∀ a,Has n l a->Region.wanted o (yielded bT a.tmps)=true)(hdst:o.dst=some d)(hd:Nat.blt d n.size=true){R:World->Prop}
    (hrun:∀ a,Has n l a->∃ w',(execOp a.eval o).run P w=.ok (.value v) w'/\R w') (k:∀ w',R w'->WL P n bT Q K os ((d,v)::l) w'):WL P n bT Q K (o::os) l w:=by
  intro a ha;obtain⟨w',hr,hR⟩:=hrun a ha;unfold TT;rw [aO (hw a ha)];refine J8 hr ?_;rw [hdst];exact k w' hR _ (ha.put hd v)
def Ci:=@WL.val
theorem WL.unit(hw:∀ a,Has n l a->Region.wanted o (yielded bT a.tmps)=true)(hdst:o.dst=none){R:World->Prop}
    (hrun:∀ a,Has n l a->∃ w',(execOp a.eval o).run P w=.ok .skip w'/\R w') (k:∀ w',R w'->WL P n bT Q K os l w'):WL P n bT Q K (o::os) l w:=by
  intro a ha;obtain⟨w',hr,hR⟩:=hrun a ha;unfold TT;rw [aO (hw a ha)];refine ak6 hr ?_;rw [hdst];exact k w' hR a ha
def Nz:=@WL.unit
theorem fM{d:Option Nat}(a:Act):Region.wanted ⟨d,op,ty,pos,lD,none⟩ (yielded bT a.tmps)=true:=rfl
theorem sK{d:Option Nat}(hg:guardOf bT l j=some (.bool bW))(a:Act)(ha:Has n l a) :
    Region.wanted ⟨d,op,ty,pos,lD,some (j,bW)⟩ (yielded bT a.tmps)=true:=by
  show(yielded bT a.tmps j == some bW)=true;rw [Ce ha hg]
  simp
theorem WL.ev(h:Ev P n l w op v)(hd:Nat.blt d n.size=true)(k:WL P n bT Q K os ((d,v)::l) w) :
    WL P n bT Q K (⟨some d,op,ty,pos,lD,none⟩::os) l w:=
  Ci (λa _=>fM a) rfl hd (R:=λw'=>w'=w) (λa ha=>⟨w,h _ a w rfl ha (om w),rfl⟩) λw' e=>by subst e; exact k
def jA:=@WL.ev
theorem WL.evg(hg:guardOf bT l j=some (.bool bW))(h:Ev P n l w op v)(hd:Nat.blt d n.size=true)(k:WL P n bT Q K os ((d,v)::l) w) :
    WL P n bT Q K (⟨some d,op,ty,pos,lD,some (j,bW)⟩::os) l w:=
  Ci (λa ha=>sK hg a ha) rfl hd (R:=λw'=>w'=w) (λa ha=>⟨w,h _ a w rfl ha (om w),rfl⟩) λw' e=>by subst e; exact k
def bG:=@WL.evg
theorem WL.pass(hg:guardOf bT l j=some v)(hv:unlike bW v=true)(hd:Nat.blt d n.size=true)(k:WL P n bT Q K os ((d,undef)::l) w) :
    WL P n bT Q K (⟨some d,op,ty,pos,lD,some (j,bW)⟩::os) l w:=by
  intro a ha;unfold TT
  have:Region.wanted ⟨some d,op,ty,pos,lD,some (j,bW)⟩ (yielded bT a.tmps)=false:=by
    show(yielded bT a.tmps j == some bW)=false;rw [Ce ha hg]
    cases v <;> simp [unlike] at hv ⊢
    cases bW <;> simp_all
  rw [this];exact k _ (ha.put hd undef)
theorem WL.cut(m:Nat)(l1:List (Nat × Value))(h:WL P n bT Q (λa' w'=>Has n l1 a'/\w'=w) (os.take m) l w)(k:WL P n bT Q K (os.drop m) l1 w):WL P n bT Q K os l w:=by
  intro a ha
  have key:∀(ys:List Oper)(a:Act)(w0:World),TT P n bT Q (λa' w'=>Has n l1 a'/\w'=w) ys a w0->TT P n bT Q K (ys++os.drop m) a w0:=by
    intro ys
    induction ys with
    | nil=>rintro a w0 ⟨h1,rfl⟩; exact k a h1
    | cons o ys ih=>
      intro a w0 hh
      simp only [XW]
      unfold TT at hh ⊢
      split
      · rename_i hw
        rw [aO hw] at hh;exact abI (λa w=>ih a w) hh
      · rename_i hw
        rw [aK hw] at hh;exact ih _ _ hh
  have:=key (os.take m) a w (h a ha)
  rwa [sJ] at this
theorem WL.aCq(m:Nat)(l1:List (Nat × Value))(h:WL P n bT Q (λa' w'=>Has n l1 a'/\Ext w w') (os.take m) l w)(k:∀ w',Ext w w'->WL P n bT Q K (os.drop m) l1 w'):WL P n bT Q K os l w:=by
  intro a ha
  have key:∀(ys:List Oper)(a:Act)(w0:World),TT P n bT Q (λa' w'=>Has n l1 a'/\Ext w w') ys a w0->TT P n bT Q K (ys++os.drop m) a w0:=by
    intro ys
    induction ys with
    | nil=>rintro a w0 ⟨h1,h2⟩; exact k w0 h2 a h1
    | cons o ys ih=>
      intro a w0 hh
      simp only [XW]
      unfold TT at hh ⊢
      split
      · rename_i hw
        rw [aO hw] at hh;exact abI (λa w=>ih a w) hh
      · rename_i hw
        rw [aK hw] at hh;exact ih _ _ hh
  have:=key (os.take m) a w (h a ha)
  rwa [sJ] at this
theorem WL.re{t:Nat}(hl:look l t=some u)(e:u=v)(k:WL P n bT Q K os ((t,v)::l) w):WL P n bT Q K os l w:=
  λa ha=>k a (ha.set hl e)
def fJ:=@WL.re
theorem WP.re{t:Nat}{c:Code}(hl:look l t=some u)(e:u=v)(k:WP P n c ((t,v)::l) w Q):WP P n c l w Q:=
  λa ha=>k a (ha.set hl e)
def kP:=@WP.re
def WQ(P:Program)(n:Cx)(bT:Array Oper)(w:World)(Qa:Act->Prop)(os:List Oper)(l:List (Nat × Value)):Prop:=∀ a,Has n l a->wpQuiet P bT (λw'=>Ext w w') Qa os a
theorem WP.draw{id:Nat}{y:Code}(hm:P.follows .mixedOrders=true)(hB:Region.lexB .any ol.toArray=true)
    (h:WQ P n ol.toArray w (λa=>∀ w',Ext w w'->Ls P n y Q a w') ol l) (hro:n.round=none:=by rfl):WP P n (.seq (.region id ol.toArray true) y) l w Q:=λa ha=>by
  refine Rx ?_;rw [TQ hro];refine Lr.2 (wp_region_quiet (C:=λw'=>Ext w w') hm hB ⟨Y,Y,Y,kH _,λ_ _=>Y,Y2 _⟩ ?_);have:=h a ha;unfold Ls at this;rw [TQ hro] at this;exact this
def qo:=@WP.draw
theorem WQ.done{y:Code}(h:∀ w',Ext w w'->WP P n y l w' Q):WQ P n bT w (λa=>∀ w',Ext w w'->Ls P n y Q a w') [] l:=λa ha w' e=>h w' e a ha
def qp:=@WQ.done
theorem WQ.ev(h:Ev P n l w op v)(hd:Nat.blt d n.size=true)(k:WQ P n bT w Qa os ((d,v)::l)) :
    WQ P n bT w Qa (⟨some d,op,ty,pos,lD,none⟩::os) l:=by
  intro a ha;unfold wpQuiet;rw [aO (fM a)];refine⟨v,λw' e=>?_,k _ (ha.put hd v)⟩;unfold Oper.quietAt;rw [h _ a w' rfl ha e];exact⟨Y,Y⟩
def bD:=@WQ.ev
theorem WQ.evg(hg:guardOf bT l j=some (.bool bW))(h:Ev P n l w op v)(hd:Nat.blt d n.size=true)(k:WQ P n bT w Qa os ((d,v)::l)) :
    WQ P n bT w Qa (⟨some d,op,ty,pos,lD,some (j,bW)⟩::os) l:=by
  intro a ha;unfold wpQuiet;rw [aO (sK hg a ha)];refine⟨v,λw' e=>?_,k _ (ha.put hd v)⟩;unfold Oper.quietAt;rw [h _ a w' rfl ha e];exact⟨Y,Y⟩
def dV:=@WQ.evg
theorem WQ.pass(hg:guardOf bT l j=some v)(hv:unlike bW v=true)(hd:Nat.blt d n.size=true)(k:WQ P n bT w Qa os ((d,undef)::l)) :
    WQ P n bT w Qa (⟨some d,op,ty,pos,lD,some (j,bW)⟩::os) l:=by
  intro a ha;unfold wpQuiet
  have:Region.wanted ⟨some d,op,ty,pos,lD,some (j,bW)⟩ (yielded bT a.tmps)=false:=by
    show(yielded bT a.tmps j == some bW)=false;rw [Ce ha hg]
    cases v <;> simp [unlike] at hv ⊢
    cases bW <;> simp_all
  rw [this];exact k _ (ha.put hd undef)
def dF:=@WQ.pass
theorem WQ.re{t:Nat}(hl:look l t=some u)(e:u=v)(k:WQ P n bT w Qa os ((t,v)::l)):WQ P n bT w Qa os l:=
  λa ha=>k a (ha.set hl e)
def Bd:=@WQ.re
theorem WQ.cut(m:Nat)(l1:List (Nat × Value))(h:WQ P n bT w (λa'=>Has n l1 a') (os.take m) l)(k:WQ P n bT w Qa (os.drop m) l1):WQ P n bT w Qa os l:=by
  intro a ha
  have key:∀(ys:List Oper)(a:Act),wpQuiet P bT (λw'=>Ext w w') (λa'=>Has n l1 a') ys a->wpQuiet P bT (λw'=>Ext w w') Qa (ys++os.drop m) a:=by
    intro ys
    induction ys with
    | nil=>intro a h1; exact k a h1
    | cons o ys ih=>
      intro a hh
      simp only [XW]
      unfold wpQuiet at hh ⊢
      split
      · rename_i hw
        rw [aO hw] at hh;exact Oper.quiet_mono (λa=>ih a) hh
      · rename_i hw
        rw [aK hw] at hh;exact ih _ hh
  have:=key (os.take m) a (h a ha)
  rwa [sJ] at this
end
def bI(P:Program)(f:FuncId):Prop:=∀(args:Array Value)(w:World),(callFunc f args).run P w=.ok (.enter f args) w
section
variable {P:Program}{n:Cx}{l l':List (Nat × Value)}{w w':World}{Q:Exit->Act->World->Prop}{K:Act->World->Prop}{bT:Array Oper}{os:List Oper}
theorem BN{a:Act}(ho:o.op=.call ⟨.value IE,args.toArray,tys⟩)(ha:Has n l a){all:List Value}
    (hf:gQ l IE=some (.func (.func f) #[] caps.toArray)) (hargs:DJ l args=some vs) (hall:vs++caps=all) (hc:bI P f) (w:World):(execOp a.eval o).run P w=.ok (.enter f all.toArray) w:=by
  unfold execOp;rw [ho];have h1:=ha.eval hf;have h2:=ha.Ry hargs
  simp only [resolve,h1,Deferred.ofValue,jc,jW,jd,invoke]
  have:(#[]++Array.map a.eval args.toArray++caps.toArray:Array Value)=all.toArray:=by
    rw [rM,h2,<- hall]; simp
  rw [this];exact hc _ w
theorem T9{a:Act}{args:Array Value}(hw:Region.wanted o (yielded bT a.tmps)=true)(hrun:(execOp a.eval o).run P w=.ok (.enter f args) w)(hc:bO P f args w R)
    (k:∀ v w',R v w'->TT P n bT Q K os (a.put o.dst v) w'):TT P n bT Q K (o::os) a w:=by
  unfold TT;rw [aO hw];refine XU hrun (DR hc ?_);rintro e w' ⟨v,rfl,hv⟩;exact⟨v,Y,k v w' hv⟩
theorem WL.call{all:List Value}
    (hf:gQ l IE=some (.func (.func f) #[] caps.toArray)) (hargs:DJ l args=some vs) (hall:vs++caps=all) (Cj:bI P f) (hc:bO P f all.toArray w R) (hd:Nat.blt d n.size=true)
    (k:∀ v w',R v w'->WL P n bT Q K os ((d,v)::l) w'):WL P n bT Q K (⟨some d,.call ⟨.value IE,args.toArray,tys⟩,ty,pos,lD,none⟩::os) l w:=
  λa ha=>T9 (fM a) (BN rfl ha hf hargs hall Cj w) hc λv w' hv=>k v w' hv _ (ha.put hd v)
def wo:=@WL.call
theorem WL.abK{all:List Value}
    (hg:guardOf bT l j=some (.bool bW))
    (hf:gQ l IE=some (.func (.func f) #[] caps.toArray)) (hargs:DJ l args=some vs) (hall:vs++caps=all) (Cj:bI P f) (hc:bO P f all.toArray w R) (hd:Nat.blt d n.size=true)
    (k:∀ v w',R v w'->WL P n bT Q K os ((d,v)::l) w'):WL P n bT Q K (⟨some d,.call ⟨.value IE,args.toArray,tys⟩,ty,pos,lD,some (j,bW)⟩::os) l w:=
  λa ha=>T9 (sK hg a ha) (BN rfl ha hf hargs hall Cj w) hc λv w' hv=>k v w' hv _ (ha.put hd v)
def nu:=@WL.abK
theorem WQ.call{all:List Value}
    (hf:gQ l IE=some (.func (.func f) #[] caps.toArray)) (hargs:DJ l args=some vs) (hall:vs++caps=all) (Cj:bI P f)
    (hc:∀ w',Ext w w'->bO P f all.toArray w' λu w''=>u=v/\Ext w' w'') (hd:Nat.blt d n.size=true)
    (k:WQ P n bT w Qa os ((d,v)::l)):WQ P n bT w Qa (⟨some d,.call ⟨.value IE,args.toArray,tys⟩,ty,pos,lD,none⟩::os) l:=by
  intro a ha;unfold wpQuiet;rw [aO (fM a)];refine⟨v,λw' e=>?_,k _ (ha.put hd v)⟩;unfold Oper.quietAt;rw [BN rfl ha hf hargs hall Cj w'];exact⟨Y,DR (hc w' e) λx w'' ⟨u,hx,hu,he⟩=>by subst hu; exact⟨hx,e.trans he⟩⟩
def IU:=@WQ.call
theorem WQ.abK{all:List Value}
    (hg:guardOf bT l j=some (.bool bW))
    (hf:gQ l IE=some (.func (.func f) #[] caps.toArray)) (hargs:DJ l args=some vs) (hall:vs++caps=all) (Cj:bI P f)
    (hc:∀ w',Ext w w'->bO P f all.toArray w' λu w''=>u=v/\Ext w' w'') (hd:Nat.blt d n.size=true)
    (k:WQ P n bT w Qa os ((d,v)::l)):WQ P n bT w Qa (⟨some d,.call ⟨.value IE,args.toArray,tys⟩,ty,pos,lD,some (j,bW)⟩::os) l:=by
  intro a ha;unfold wpQuiet;rw [aO (sK hg a ha)];refine⟨v,λw' e=>?_,k _ (ha.put hd v)⟩;unfold Oper.quietAt;rw [BN rfl ha hf hargs hall Cj w'];exact⟨Y,DR (hc w' e) λx w'' ⟨u,hx,hu,he⟩=>by subst hu; exact⟨hx,e.trans he⟩⟩
def NA:=@WQ.abK
end
def Size(P:Program)(t:TypeId)(k:Nat):Prop:=∀ w,(sizeOf t).run P w=.ok k w
def kW(P:Program)(t:TypeId):Prop:=∀ w,(isAgg t).run P w=.ok false w
def XY(P:Program)(t:TypeId)(k:Nat):Prop:=(∀ w,(isAgg t).run P w=.ok true w)/\Size P t k
def dH(P:Program)(s f off:Nat):Prop:=∀(a:Addr)(w:World),(Instr.fieldAt s (.pointer (some a)) f).run P w=.ok (.pointer (some (a.add off))) w
section
variable {P:Program}{n:Cx}{l:List (Nat × Value)}{w:World}
theorem Bn(hu:P.underlying t=some (.slice e)):P.elem t=e:=by simp [Program.elem,hu]
theorem qB(hu:P.underlying t=some (.slice e)):P.underlying t=some (.slice (P.elem t)):=by rw [Bn hu]; exact hu
theorem Ev.move(hx:gQ l x=some v):Ev P n l w (.move x) v:=λo a w' ho ha _=>by
  unfold execOp; rw [ho]; simp [ha.eval hx]
def bA:=@Ev.move
theorem Ev.assign(hx:gQ l x=some v):Ev P n l w (.assign x) v:=λo a w' ho ha _=>by
  unfold execOp; rw [ho]; simp [ha.eval hx]
def nP:=@Ev.assign
theorem Ev.atI{c:Operand}(hc:gQ l c=some (.bool true))(hx:gQ l x=some v):Ev P n l w (.pick c x y) v:=λo a w' ho ha _=>by
  unfold execOp; rw [ho]; simp [ha.eval hx,ha.eval hc,asBool]
def dY:=@Ev.atI
theorem Ev.atJ{c:Operand}(hc:gQ l c=some (.bool false))(hx:gQ l y=some v):Ev P n l w (.pick c x y) v:=λo a w' ho ha _=>by
  unfold execOp; rw [ho]; simp [ha.eval hx,ha.eval hc,asBool]
def eG:=@Ev.atJ
theorem Ev.binop{op:BinOp}{r:Value}(hx:gQ l x=some u)(hy:gQ l y=some v)(hg:eqGuard op t x y u v=pure ())(hr:∀ w,(binOp op t u v).run P w=.ok r w) :
    Ev P n l w (.binOp op t x y ty) r:=λo a w' ho ha _=>by
  unfold execOp; rw [ho]; simp [ha.eval hx,ha.eval hy,hg,hr]
def pI:=@Ev.binop
section
variable {t ty:TypeId}{x y:Operand}{k:IntKind}{a b:Int}
theorem Ev.lss(hx:gQ l x=some (.int k a))(hy:gQ l y=some (.int k b)):Ev P n l w (.binOp .lss t x y ty) (.bool (decide (a<b))):=
  pI hx hy (y8 ..) λw=>by rw [binOp_lss]; rfl
def fB:=@Ev.lss
theorem Ev.leq(hx:gQ l x=some (.int k a))(hy:gQ l y=some (.int k b)):Ev P n l w (.binOp .leq t x y ty) (.bool (decide (a<=b))):=
  pI hx hy (y8 ..) λw=>by rw [binOp_leq]; rfl
def uK:=@Ev.leq
theorem Ev.gtr(hx:gQ l x=some (.int k a))(hy:gQ l y=some (.int k b)):Ev P n l w (.binOp .gtr t x y ty) (.bool (decide (b<a))):=
  pI hx hy (y8 ..) λw=>by rw [binOp_gtr]; rfl
def pJ:=@Ev.gtr
theorem Ev.geq(hx:gQ l x=some (.int k a))(hy:gQ l y=some (.int k b)):Ev P n l w (.binOp .geq t x y ty) (.bool (decide (b<=a))):=
  pI hx hy (y8 ..) λw=>by rw [binOp_geq]; rfl
def pK:=@Ev.geq
theorem Ev.eql(hx:gQ l x=some (.int k a))(hy:gQ l y=some (.int k b)):Ev P n l w (.binOp .eql t x y ty) (.bool (decide (a=b))):=
  pI hx hy (y8 ..) λw=>by rw [binOp_eql]; rfl
def iP:=@Ev.eql
theorem Ev.neq(hx:gQ l x=some (.int k a))(hy:gQ l y=some (.int k b)):Ev P n l w (.binOp .neq t x y ty) (.bool (!decide (a=b))):=
  pI hx hy (y8 ..) λw=>by rw [binOp_neq]; rfl
def rz:=@Ev.neq
theorem Ev.aCr(hx:gQ l x=some (.int k a))(hy:gQ l y=some (.int k b)):Ev P n l w (.binOp .add t x y ty) (.int k (k.wrap (a+b))):=
  pI hx hy (y8 ..) λw=>by rw [binOp_add]; rfl
theorem Ev.aCs(hx:gQ l x=some (.int k a))(hy:gQ l y=some (.int k b)):Ev P n l w (.binOp .sub t x y ty) (.int k (k.wrap (a - b))):=
  pI hx hy (y8 ..) λw=>by rw [binOp_sub]; rfl
theorem Ev.aCt(hx:gQ l x=some (.int k a))(hy:gQ l y=some (.int k b)):Ev P n l w (.binOp .mul t x y ty) (.int k (k.wrap (a*b))):=
  pI hx hy (y8 ..) λw=>by rw [binOp_mul]; rfl
end
def I64(x:Int):Prop:=-9223372036854775808<=x/\x<=9223372036854775807
theorem I64.mk{x:Int}(h1:-9223372036854775808<=x)(h2:x<=9223372036854775807):I64 x:=⟨h1,h2⟩
def vM:=@I64.mk
theorem I64.wrap{x:Int}(h:I64 x):IntKind.i64.wrap x=x:=IntWalk.i64_in x h
section
variable {t ty:TypeId}{x y:Operand}{a b:Int}
theorem Ev.add(hx:gQ l x=some (.int .i64 a))(hy:gQ l y=some (.int .i64 b))(h:I64 (a+b)):Ev P n l w (.binOp .add t x y ty) (.int .i64 (a+b)):=by
  have:=Ev.aCr (P:=P) (n:=n) (w:=w) (t:=t) (ty:=ty) hx hy; rwa [h.wrap] at this
theorem Ev.sub(hx:gQ l x=some (.int .i64 a))(hy:gQ l y=some (.int .i64 b))(h:I64 (a - b)):Ev P n l w (.binOp .sub t x y ty) (.int .i64 (a - b)):=by
  have:=Ev.aCs (P:=P) (n:=n) (w:=w) (t:=t) (ty:=ty) hx hy; rwa [h.wrap] at this
theorem Ev.mul(hx:gQ l x=some (.int .i64 a))(hy:gQ l y=some (.int .i64 b))(h:I64 (a*b)):Ev P n l w (.binOp .mul t x y ty) (.int .i64 (a*b)):=by
  have:=Ev.aCt (P:=P) (n:=n) (w:=w) (t:=t) (ty:=ty) hx hy; rwa [h.wrap] at this
theorem Ev.neb{p q:Bool}(hu:P.underlying t=some .bool)(hx:gQ l x=some (.bool p))(hy:gQ l y=some (.bool q)):Ev P n l w (.binOp .neq t x y ty) (.bool (!(p == q))):=
  pI hx hy (eqGuard_at_bool ..) λw=>run_neq_bool w t p q hu
theorem Ev.axc{m' c':Nat}(hu:P.underlying t=some (.slice e))(hx:gQ l x=some (.slice A m c))(hy:gQ l y=some (.slice none m' c')):Ev P n l w (.binOp .eql t x y ty) (.bool A.isNone):=
  pI hx hy (eqGuard_at_slice ..) λw=>Lib.run_eql_slice_nil w t e A m c m' c' hu
def Lx:=@Ev.axc
theorem Ev.not{b:Bool}(hx:gQ l x=some (.bool b)):Ev P n l w (.unOp .not t x) (.bool (!b)):=λo a w' ho ha _=>by
  unfold execOp; rw [ho]; simp [ha.eval hx]; rfl
def gZ:=@Ev.not
theorem Ev.extract(hx:gQ l x=some (.tuple vs.toArray))(hi:vs[i]? = some v):Ev P n l w (.extract x i) v:=λo a w' ho ha _=>by
  unfold execOp; rw [ho]; simp [ha.eval hx,Instr.extract,hi]
def vN:=@Ev.extract
theorem Ev.func{caps:List Operand}(hx:DJ l caps=some vs):Ev P n l w (.makeFunc (.func f) #[] caps.toArray) (.func (.func f) #[] vs.toArray):=λo a w' ho ha _=>by
  have h2:=ha.Ry hx;unfold execOp; rw [ho]
  simp only [rM,h2]
  rfl
def qC:=@Ev.func
theorem Ev.len(hu:P.underlying t=some (.slice e))(hx:gQ l x=some (.slice A m c)):Ev P n l w (.call ⟨.builtin .len,#[x],#[t]⟩) (.int .i64 (m:Int)):=λo a w' ho ha _=>by
  unfold execOp; rw [ho]
  simp only [resolve,jc,jW,jd,invoke,builtin,rM,mO,vL,ha.eval hx,run_len_slice w' t o.type A m c (qB hu)]
  rfl
def eY:=@Ev.len
theorem Ev.cap(hu:P.underlying t=some (.slice e))(hx:gQ l x=some (.slice A m c)):Ev P n l w (.call ⟨.builtin .cap,#[x],#[t]⟩) (.int .i64 (c:Int)):=λo a w' ho ha _=>by
  unfold execOp; rw [ho]
  simp only [resolve,jc,jW,jd,invoke,builtin,rM,mO,vL,ha.eval hx,run_cap_slice w' t o.type A m c (qB hu)]
  rfl
theorem Ev.index{kd:IntKind}{z:Int}(hu:P.underlying t=some (.slice e))(hs:Size P e k)(hx:gQ l x=some (.slice A m c))(hy:gQ l y=some (.int kd z))(hz:z=(i:Int))(hi:i<m)(hA:A=some (ET A)) :
    Ev P n l w (.indexAddr t x y) (.pointer (some ((ET A).add (i*k)))):=λo a w' ho ha _=>by
  unfold execOp; rw [ho]
  have h1:(Instr.indexAt t (.slice A m c) (.int kd z)).run P w'=.ok (.pointer (some ((ET A).add (i*k)))) w':=by
    rw [hA,run_indexAt_slice w' t _ m c kd z (qB hu),hz,aO ⟨aj,aj⟩,Bn hu,hs w']
    simp [ET]
  simp [ha.eval hx,ha.eval hy,h1]
def eU:=@Ev.index
theorem Ev.field{s f off:Nat}{p q:Addr}(hf:dH P s f off)(hx:gQ l x=some (.pointer (some p)))(hq:p.add off=q):Ev P n l w (.fieldAddr s x f) (.pointer (some q)):=λo a w' ho ha _=>by
  unfold execOp; rw [ho]; simp [ha.eval hx,hf p w',hq]
def eF:=@Ev.field
theorem Ev.ald{p:Addr}(hn:kW P t)(hx:gQ l x=some (.pointer (some p)))(hc:w.cell? p=some v):Ev P n l w (.load t x) v:=λo a w' ho ha e=>by
  unfold execOp; rw [ho]
  simp [ha.eval hx,Instr.loadAt,Instr.sureAddr,loadVar,hn w',run_load,e.cell hc]
def jq:=@Ev.ald
theorem Ev.loadRow{p:Addr}(hn:XY P t k)(hx:gQ l x=some (.pointer (some p)))(hk:cs.length=k)(hc:∀ j u,cs[j]? = some u->w.cell? (p.add j)=some u):Ev P n l w (.load t x) (.agg cs.toArray):=λo a w' ho ha e=>by
  unfold execOp; rw [ho];have h1:=Y6 (P:=P) w' p cs (λj u hu=>e.cell (hc j u hu));rw [hk] at h1
  simp [ha.eval hx,Instr.loadAt,Instr.sureAddr,loadVar,hn.1 w',hn.2 w',h1]
def fV:=@Ev.loadRow
theorem Ev.apK(hn:XY P t k)(hx:gQ l x=some (.pointer (some ⟨g,0,none⟩)))(hk:cs.length=k)(hb:Bx w g t' cs):Ev P n l w (.load t x) (.agg cs.toArray):=
  fV hn hx hk λj u hu=>by
    have:(⟨g,0,none⟩:Addr).add j=⟨g,j,none⟩:=by rw [Et]; simp
    rw [this,hb.cell]; exact hu
def dK:=@Ev.apK
theorem Ev.abL{off:Nat}{cs':List Value}(hn:XY P t k)(hx:gQ l x=some (.pointer (some ⟨g,off,none⟩)))(hk:cs'.length=k)(hb:Bx w g t' cs)(hs:(cs.drop off).take cs'.length=cs'):Ev P n l w (.load t x) (.agg cs'.toArray):=
  fV hn hx hk λj u hu=>by
    have h1:(⟨g,off,none⟩:Addr).add j=⟨g,off+j,none⟩:=by rw [Et]
    have h2:j<cs'.length:=(mM.1 hu).1;rw [h1,hb.cell];rw [<- hs,IK,aO h2,Cc] at hu;exact hu
def Cm:=@Ev.abL
theorem Ev.abM(hn:kW P t)(hx:gQ l x=some (.pointer (some ⟨g,i,none⟩)))(hb:Bx w g t' cs)(hi:cs[i]? = some v):Ev P n l w (.load t x) v:=
  jq hn hx (by rw [hb.cell]; exact hi)
def cu:=@Ev.abM
theorem Ev.apL{d:TypeId}{k:IntKind}(hs:(P.underlying t).isSome=true)(hd:P.underlying d=some (.int (P.intKind d)))(hk:P.intKind d=k')(hx:gQ l x=some (.int k a)):Ev P n l w (.convert t d x) (.int k' (k'.wrap a)):=λo ac w' ho ha _=>by
  unfold execOp; rw [ho];have:=run_convert_int w' t d k a hs hd;rw [hk] at this
  simp [ha.eval hx,this]
def FV:=@Ev.apL
theorem Ev.max2{k:IntKind}(hx:gQ l x=some (.int k a))(hy:gQ l y=some (.int k' b)):Ev P n l w (.call ⟨.builtin .max,#[x,y],ts⟩) (.int k (if b>a then b else a)):=λo ac w' ho ha _=>by
  unfold execOp; rw [ho]
  simp only [resolve,jc,jW,jd,invoke,builtin,rM,mO,vL,ha.eval hx,ha.eval hy,run_max_int2]
theorem Ev.min2{k:IntKind}(hx:gQ l x=some (.int k a))(hy:gQ l y=some (.int k' b)):Ev P n l w (.call ⟨.builtin .min,#[x,y],ts⟩) (.int k (if b<a then b else a)):=λo ac w' ho ha _=>by
  unfold execOp; rw [ho]
  simp only [resolve,jc,jW,jd,invoke,builtin,rM,mO,vL,ha.eval hx,ha.eval hy,run_min_int2]
theorem Ev.build{vs:List (Nat × Value)}(hx:Ny l parts=some vs)(hb:P.built t vs=some cs.toArray):Ev P n l w (.build t parts.toArray) (.agg cs.toArray):=λo a w' ho ha _=>by
  unfold execOp; rw [ho];have h1:=run_build (P:=P) w' t vs.toArray cs.toArray (by simpa using hb)
  simp only [rM,ha.Ny hx,jc,h1,jd,jW]
def iE:=@Ev.build
end
end
theorem Sl.fZ{pos:0<k}
    (h:Sl (Ty.flat k enc pos hl h1) S w A c xs) {x:α} (hx:xs[i]? = some x) (hj:(enc x)[j]? = some u):w.cell? ((ET A).add (i*k+j))=some u:=by
  obtain⟨_,cs,h2,h3⟩:=h.rows i x hx;have:cs=enc x:=h2;subst this;exact h3 j u hj
theorem Sl.eX{pos:0<k}
    (h:Sl (Ty.flat k enc pos hl h1) S w A c xs) {x:α} (hx:xs[i]? = some x):∀ j u,(enc x)[j]? = some u->w.cell? (((ET A).add (i*k)).add j)=some u:=λj u hj=>by
  rw [gI]; exact h.fZ hx hj
section
variable {P:Program}{n:Cx}{l:List (Nat × Value)}{w:World}{Q:Exit->Act->World->Prop}{K:Act->World->Prop}{bT:Array Oper}{os:List Oper}{ty:TypeId}{pos:String}{lD:Array Edge}{d:Nat}
theorem WL.box(hx:gQ l x=some v)(hcs:v.cells=cs.toArray)(hd:Nat.blt d n.size=true)
    (k:∀ w',Ext w w'->Bx w' w.heap.size t cs->w'.heap.size=w.heap.size+1->WL P n bT Q K os ((d,fP w.heap.size)::l) w'):WL P n bT Q K (⟨some d,.box t x,ty,pos,lD,none⟩::os) l w:=
  Ci (v:=fP w.heap.size) (λa _=>fM a) rfl hd (R:=λw'=>w'=w.alloc (.cells cs.toArray t)) (λa ha=>⟨_,by
    unfold execOp
    simp only [ha.eval hx,Instr.box,newVar,newRow,hcs,jc,run_newObj,jW,jd]
    rfl,rfl⟩) λw' e=>by
    subst e;exact k _ (Ext.alloc w _) (Bx.new w t cs) av
theorem WL.alloc{z:Value}(hz:∀ w,(zeroValue t).run P w=.ok z w)(hcs:z.cells=cs.toArray)(hd:Nat.blt d n.size=true)
    (k:∀ w',Ext w w'->Bx w' w.heap.size t cs->w'.heap.size=w.heap.size+1->WL P n bT Q K os ((d,fP w.heap.size)::l) w'):WL P n bT Q K (⟨some d,.alloc t,ty,pos,lD,none⟩::os) l w:=
  Ci (v:=fP w.heap.size) (λa _=>fM a) rfl hd (R:=λw'=>w'=w.alloc (.cells cs.toArray t)) (λa ha=>⟨_,by
    unfold execOp
    simp only [Instr.alloc,hz,newVar,newRow,hcs,jc,run_newObj,jW,jd]
    rfl,rfl⟩) λw' e=>by
    subst e;exact k _ (Ext.alloc w _) (Bx.new w t cs) av
theorem WL.buildSlice{vs:List (Nat × Value)}(hx:Ny l parts=some vs)
    (hb:∀ w,(Instr.buildSlice t m vs.toArray).run P w=.ok (.slice (some ⟨w.heap.size,0,none⟩) m m) (w.alloc (.cells cs.toArray e))) (hd:Nat.blt d n.size=true) (hk:cs.length=m*k)
    (kk:∀ w',Ext w w'->Bx w' w.heap.size e cs->w'.heap.size=w.heap.size+1->WL P n bT Q K os ((d,.slice (some ⟨w.heap.size,0,none⟩) m m)::l) w'):WL P n bT Q K (⟨some d,.buildSlice t m parts.toArray,ty,pos,lD,none⟩::os) l w:=
  Ci (v:=.slice (some ⟨w.heap.size,0,none⟩) m m) (λa _=>fM a) rfl hd (R:=λw'=>w'=w.alloc (.cells cs.toArray e)) (λa ha=>⟨_,by
    unfold execOp
    simp only [rM,ha.Ny hx,jc,hb,jd,jW],rfl⟩) λw' e=>by
    subst e;exact kk _ (Ext.alloc w _) (Bx.new w _ cs) av
theorem Za{ds:List Value}(hs:Size P t ds.length)(hb:Bx w g t' cs)(hl:cs.length=ds.length)(h1:∀ u∈ds,u.oneCell'=true)(hv:v.cells=ds.toArray) :
    ∃ w',(Instr.storeAt t (fP g) v).run P w=.ok () w'/\Mod g w w'/\Bx w' g t' ds/\w'.heap.size=w.heap.size:=by
  have hst:=PX P g 0 t' ds 0 cs.toArray w hb (by simp [hl]) h1;refine⟨w.setRow g ds.toArray,?_,⟨Y,Y,Y,av,λk _ hn=>setRow_other w g k _ hn,kH _⟩,IL w g cs.toArray ds.toArray t' (0,0) hb,av⟩
  · simp only [Instr.storeAt,Instr.sureAddr,storeVar,hv,jc,jW,jd,hs w]
    simp only [LX,ne_eq,not_true_eq_false,if_false,jc,jW,jd]
    rw [hst];have hdrop:List.drop ds.length cs=[]:=List.drop_eq_nil_of_le aj
    simp [hdrop]
theorem WL.ale{ds:List Value}(hx:gQ l x=some (fP g))(hy:gQ l y=some v)(hv:v.cells=ds.toArray)(hs:Size P t ds.length)(hb:Bx w g t' cs)(hl:cs.length=ds.length)(h1:∀ u∈ds,u.oneCell'=true)
    (k:∀ w',Mod g w w'->Bx w' g t' ds->w'.heap.size=w.heap.size->WL P n bT Q K os l w'):WL P n bT Q K (⟨none,.store t x y,ty,pos,lD,none⟩::os) l w:=
  Nz (λa _=>fM a) rfl (R:=λw'=>Mod g w w'/\Bx w' g t' ds/\w'.heap.size=w.heap.size) (λa ha=>by
    obtain⟨w',h2,h3⟩:=Za (P:=P) (w:=w) hs hb hl h1 hv
    exact⟨w',by unfold execOp; simp [ha.eval hx,ha.eval hy,h2],h3⟩) λw' ⟨h3,h4,h5⟩=>k w' h3 h4 h5
theorem Xl(hs:Size P t 1)(hb:Bx w g t' cs)(hi:i<cs.length)(h1:v.oneCell'=true) :
    (Instr.storeAt t (.pointer (some ⟨g,i,none⟩)) v).run P w=.ok () (w.setCell ⟨g,i,none⟩ v):=by
  have hc:v.cells=#[v]:=by cases v <;> simp [Value.cells,Value.oneCell'] at h1 ⊢
  have h2:w.cell? ⟨g,i,none⟩=some (cs[i]'hi):=by rw [hb.cell]; exact sI hi
  simp only [Instr.storeAt,Instr.sureAddr,storeVar,hc,jc,jW,jd,hs w]
  simp [storeCells,Addr.add,run_store P w ⟨g,i,none⟩ v .plain h1,h2,hb.frozen]
theorem WL.aiE(hx:gQ l x=some (.pointer (some ⟨g,i,none⟩)))(hy:gQ l y=some v)(h1:v.oneCell'=true)(hs:Size P t 1)(hb:Bx w g t' cs)(hi:i<cs.length)
    (k:∀ w',Mod g w w'->Bx w' g t' (cs.set i v)->w'.heap.size=w.heap.size->WL P n bT Q K os l w'):WL P n bT Q K (⟨none,.store t x y,ty,pos,lD,none⟩::os) l w:=
  Nz (λa _=>fM a) rfl (R:=λw'=>w'=w.setCell ⟨g,i,none⟩ v) (λa ha=>⟨_,by
    unfold execOp; simp [ha.eval hx,ha.eval hy,Xl (P:=P) hs hb hi h1],rfl⟩) λw' e=>by
    subst e;exact k _ (Mod.setCell w ⟨g,i,none⟩ v) (hb.aCo i v) av
structure kQ (P:Program) (e:TypeId) (k bytes:Nat):Prop where
  ex:∃(i:TypeInfo)(z:Value),P.info? e=some i/\i.zero=some z/\i.size=k/\i.bytes=bytes/\z.cells.size=k
theorem aeY{c2:Nat}(hT:P.underlying t=some (.slice e))(hI:kQ P e τ.k bytes)
    (ho:Own τ e lo S w A c xs) (hy:Sl τ S2 w B c2 ys) (abN:∀ w x cs,τ.R S2 w x cs->τ.R S w x cs) (hS:∀ g,blk A=some g->¬ S g) (hmax:xs.length+ys.length<=maxLen) (hby:(xs.length+ys.length)*bytes<=140737488355328) (hlo:lo<=w.heap.size) (r:TypeId) :
    ∃ A' c' w',(Builtin.append_ #[t,t] r #[.slice A xs.length c,.slice B ys.length c2]).run P w=.ok (.slice A' (xs++ys).length c') w'/\Own τ e lo S w' A' c' (xs++ys)/\KW w w' (blk A)/\(blk A'=blk A∨blk A'=some w.heap.size):=by
  obtain⟨i,z,hi,hz,hsz,hb,hzs⟩:=hI.ex;have hblk:∀ m c,(Value.slice A m c).ownBlock=blk A:=by intro m c; cases A <;> rfl
  by_cases hys:ys=[]
  · subst hys
    obtain⟨css,hl,hR,hown⟩:=ho;refine⟨A,c,w,?_,?_,⟨Y,Y,Y,kH _,λ_ _ _=>Y,kH _⟩,.inl Y⟩
    · rcases hown.2 with ⟨hv,hn⟩ | ⟨g,cap,cur,hv,_,_,hnc,_⟩
      · injection hv with hA hn' hc
        subst hA hc
        cases B <;> simp [Builtin.append_,j6 hT,sizeOf,typeInfo,hi,Builtin.lenOf,hn,Builtin.firstCells,loadCells,loadCellsFrom]
      · injection hv with hA hn' hc
        subst hA hc
        cases B <;> simp [Builtin.append_,j6 hT,sizeOf,typeInfo,hi,Builtin.lenOf,hnc,Builtin.firstCells,loadCells,loadCellsFrom,storeCells]
    · rw [Ad]
      exact⟨css,hl,hR,hown⟩
  · have hB:B=some (ET B):=hy.some_ (i:=0) (x:=ys.head hys) (by cases ys with | nil=>exact absurd rfl hys | cons y ys=>rfl)
    obtain⟨css,hl,hR,hown⟩:=ho;obtain⟨dss,h1,h2,h3,h4,h5⟩:=hy.cells;obtain⟨v',w',hrun,hown',hg,_,hat⟩:=run_append_own_at (P:=P) w lo t r e i z τ.k bytes hT hi hz hsz hb hzs τ.pos _ _ _ hown (ET B) ys.length c2 dss.flatten h3 h5 h4 hmax hby hlo
    obtain⟨A',c',hv⟩:∃ A' c',v'=.slice A' (xs++ys).length c':=by
      rcases hown'.2 with ⟨hv,hn⟩ | ⟨g,cap,cur,hv,_⟩
      · exact⟨none,0,by rw [hv,iO,hn]⟩
      · exact⟨_,_,by rw [hv,iO]⟩
    subst hv;have hA':(Value.slice A' (xs++ys).length c').ownBlock=blk A':=by cases A' <;> rfl
    rw [hA',hblk] at hat;rw [hblk] at hg;have hg:=KW.of hg (aiz _ _ _ _ hrun)
    have hkeep:∀ x cs,τ.R S w x cs->τ.R S w' x cs:=by
      intro x cs hx
      cases hA:blk A with
      | none=>rw [hA] at hg; exact τ.ext (Ext.BZ hg (λk hk=>by cases hk)) hx
      | some g=>rw [hA] at hg; exact τ.mod (aiA hg (λk hk=>by cases hk; rfl)) (hS g hA) hx
    refine⟨A',c',w',by rw [hB]; exact hrun,⟨css++dss,by simp [hl,h1],?_,?_⟩,hg,hat⟩
    · intro i x hx
      by_cases hix:i<xs.length
      · rw [Ns hix] at hx
        obtain⟨cs,h6,h7⟩:=hR i x hx;exact⟨cs,by rw [Ns aj]; exact h6,hkeep x cs h7⟩
      · rw [Nu aj] at hx
        obtain⟨cs,h6,h7⟩:=h2 _ x hx;exact⟨cs,by rw [Nu aj,hl]; exact h6,hkeep x cs (abN w x cs h7)⟩
    · rw [List.flatten_append]
      have:(xs++ys).length=xs.length+ys.length:=by simp
      rw [this] at hown' ⊢;exact hown'
theorem WL.append{c2:Nat}{s:Operand}(hs:gQ l s=some (.slice A xs.length c))(hx:gQ l x=some (.slice B ys.length c2))
    (ho:Own τ e lo S w A c xs) (hy:Sl τ S2 w B c2 ys) (hT:P.underlying t=some (.slice e)) (hI:kQ P e τ.k bytes) (abN:∀ w x cs,τ.R S2 w x cs->τ.R S w x cs) (hS:∀ g,blk A=some g->¬ S g)
    (hmax:xs.length+ys.length<=maxLen) (hby:(xs.length+ys.length)*bytes<=140737488355328) (hlo:lo<=w.heap.size) (hd:Nat.blt d n.size=true)
    (k:∀ A' c' w',Own τ e lo S w' A' c' (xs++ys)->KW w w' (blk A)->(blk A'=blk A∨blk A'=some w.heap.size)->WL P n bT Q K os ((d,.slice A' (xs++ys).length c')::l) w') :
    WL P n bT Q K (⟨some d,.call ⟨.builtin .append,#[s,x],#[t,t]⟩,ty,pos,lD,none⟩::os) l w:=by
  obtain⟨A',c',w',hrun,h1,h2,h3⟩:=aeY (P:=P) (w:=w) hT hI ho hy abN hS hmax hby hlo ty
  refine Ci (v:=.slice A' (xs++ys).length c') (λa _=>fM a) Y hd (R:=λw2=>w2=w') (λa ha=>⟨w',?_,Y⟩) λw2 e=>by rw [e]; exact k A' c' w' h1 h2 h3
  unfold execOp
  simp only [resolve,jc,jW,jd,invoke,builtin,rM,mO,vL,ha.eval hs,ha.eval hx,hrun]
theorem WL.app{c2:Nat}{s:Operand}(hs:gQ l s=some (.slice A xs.length c))(hx:gQ l x=some (.slice B ys.length c2))
    (ho:Own τ e lo S w A c xs) (hy:Sl τ S2 w B c2 ys) (hT:P.underlying t=some (.slice e)) (hI:kQ P e τ.k bytes) (abN:∀ w x cs,τ.R S2 w x cs->τ.R S w x cs) (hS:∀ g,blk A=some g->¬ S g)
    (hm1:xs.length<=1000000) (hm2:ys.length<=1000000) (hby:Nat.ble bytes 1000=true) (hlo:lo<=w.heap.size) (hd:Nat.blt d n.size=true)
    (k:∀ A' c' w',Own τ e lo S w' A' c' (xs++ys)->KW w w' (blk A)->(blk A'=blk A∨blk A'=some w.heap.size)->WL P n bT Q K os ((d,.slice A' (xs++ys).length c')::l) w') :
    WL P n bT Q K (⟨some d,.call ⟨.builtin .append,#[s,x],#[t,t]⟩,ty,pos,lD,none⟩::os) l w:=
  WL.append hs hx ho hy hT hI abN hS (by simp only [maxLen]; omega) (lG (Nat.mul_le_mul (show _<=2000000 by omega) (oJ hby)) au) hlo hd k
end
def No:Nat->Prop:=λ_=>False
theorem Own.fr{a:World}(h:Own τ e lo No w A c xs)(hlo:a.heap.size<=lo):Sl τ (Fr a) w A c xs:=
  h.sl (λ_ hb=>lG hlo hb) (λ_ hb=>hb.elim)
theorem Bx.aeZ{x:α}(h:Bx w g e cs)(hR:τ.R S2 w x cs)(hg:S g)(hS:∀ b,S2 b->S b):Sl τ S w (some ⟨g,0,none⟩) 1 [x]:=by
  refine⟨av,by simp [maxLen],(λh=>by cases h),λi y hy=>?_⟩
  cases i with
  | succ i=>simp at hy
  | zero=>
    simp at hy
    subst hy;refine⟨hg,cs,τ.sub hS hR,λj u hu=>?_⟩;have:(ET (some ⟨g,0,none⟩)).add (0*τ.k+j)=⟨g,j,none⟩:=by simp [ET,Et]
    rw [this,h.cell];exact hu
theorem Bx.aiF(h:Bx w g e [])(hlo:lo<=g):Own τ e lo S w (some ⟨g,0,none⟩) 0 []:=
  ⟨[],rfl,λi x hx=>by simp at hx,av,.inr ⟨g,0,#[],rfl,hlo,h,kH _,by simp [maxLen],av,av⟩⟩
theorem Bx.apM{x:α}(h:Bx w g e cs)(hR:τ.R S w x cs)(hlo:lo<=g):Own τ e lo S w (some ⟨g,0,none⟩) 1 [x]:=by
  have hl:=τ.len hR;refine⟨[cs],Y,λi y hy=>?_,by simp [hl],.inr ⟨g,1,cs.toArray,rfl,hlo,h,kH _,by simp [maxLen],by simp [hl],by simp [<- hl]⟩⟩
  cases i with
  | succ i=>simp at hy
  | zero=>simp at hy; subst hy; exact⟨cs,rfl,hR⟩
def Apart(A B:ah):Prop:=∀ g,blk A=some g->blk B≠some g
theorem Own.grown{w':World}(h:Own τ e lo S w A c xs)(hg:KW w w' (blk B))(ap:Apart A B)(hS:∀ g,blk B=some g->¬ S g):Own τ e lo S w' A c xs:=by
  cases hB:blk B with
  | none=>rw [hB] at hg; exact h.ext (Ext.BZ hg (λk hk=>by cases hk))
  | some g=>
    rw [hB] at hg;exact h.mod (aiA hg (λk hk=>by cases hk; rfl)) (hS g hB) (λhA=>ap g hA hB)
def Only(K:Act->World->Prop):Exit->Act->World->Prop
  | .normal,a,w=>K a w
  | _,_,_=>False
def WH(P:Program)(n:Cx)(bT:Array Oper)(K:Act->World->Prop)(S:World->Prop)(fuel:Nat)(aT:Array Bool)(l:List (Nat × Value))(w:World):Prop:=
  ∀ a,Has n l a->wpAnyH P .any bT (Only K) S fuel aT a w
def HK(P:Program)(bT:Array Oper)(K:Act->World->Prop)(S:World->Prop)(fuel:Nat)(aT:Array Bool):Act->World->Prop:=
  λa w=>S w/\wpAnyH P .any bT (Only K) S fuel aT a w
def JK(n:Cx)(J:List (Nat × Value)->World->Prop):Act->World->Prop:=λa w=>∃ l,Has n l a/\J l w
section
variable {P:Program}{n:Cx}{l l':List (Nat × Value)}{w w':World}{Q:Exit->Act->World->Prop}{K:Act->World->Prop}{bT:Array Oper}{S:World->Prop}{fuel:Nat}{aT:Array Bool}
theorem WP.held{id:Nat}{y:Code}(S:World->Prop)(J:List (Nat × Value)->World->Prop)(hm:P.follows .mixedOrders=true)
    (h:WH P n ol.toArray (JK n J) S ol.length (List.replicate ol.length false).toArray l w.drew) (k:∀ l' w',J l' w'->WP P n y l' w' Q) (hro:n.round=none:=by rfl):WP P n (.seq (.region id ol.toArray true) y) l w Q:=λa ha=>by
  refine Rx ?_;have e:n.fence=Fence.wide:=TQ hro
  suffices hx:(Code.region id ol.toArray true).wp P (Exit.then (Ls P n y Q) Q) a w by
    show(Code.region id ol.toArray true).wpIn n.fence 0 P (Exit.then (Ls P n y Q) Q) a w;rw [e];exact Lr.2 hx
  refine wp_mono (wp_region_held (Q:=Only (JK n J)) (S:=S) hm ?_) ?_
  · have:=h a ha
    simpa using this
  · intro e a' w' hq
    cases e with
    | normal=>obtain⟨l',h1,h2⟩:=hq; exact k l' w' h2 a' h1
    | _=>exact hq.elim
theorem WP.alf{id:Nat}(S:World->Prop)(J:List (Nat × Value)->World->Prop)(hm:P.follows .mixedOrders=true)
    (h:WH P n ol.toArray (JK n J) S ol.length (List.replicate ol.length false).toArray l w.drew) (k:∀ l' w',J l' w'->kV n Q .normal l' w') (hro:n.round=none:=by rfl):WP P n (.region id ol.toArray true) l w Q:=λa ha=>by
  rw [TQ hro];refine Lr.2<|wp_mono (wp_region_held (Q:=Only (JK n J)) (S:=S) hm ?_) ?_
  · have:=h a ha
    simpa using this
  · intro e a' w' hq
    cases e with
    | normal=>obtain⟨l',h1,h2⟩:=hq; exact k l' w' h2 a' h1
    | _=>exact hq.elim
theorem WH.done{J:List (Nat × Value)->World->Prop}(l':List (Nat × Value))(hr:Region.ready .any bT aT=[])(hs:aiB l l')(hJ:J l' w):WH P n bT (JK n J) S fuel aT l w:=
  λ_ ha=>wpAnyH_done hr ⟨l',ha.subs hs,hJ⟩ fuel
theorem WH.all{rs:List Nat}(hr:Region.ready .any bT aT=rs)(hne:rs≠[])
    (h:∀ i∈rs,∃ o,bT[i]? = some o/\WL P n.zC bT (Only K) (HK P bT K S fuel (aT.setIfInBounds i true)) [o] l w):WH P n bT K S (fuel+1) aT l w:=λa ha=>
  wpAnyH_all hr hne λi hi=>by
    obtain⟨o,ho,hk⟩:=h i hi;have h1:=hk a ⟨ha.defers,ha.size,ha.get⟩;unfold TT at h1;unfold wpOp;rw [ho];show(if Region.wanted o (yielded bT a.tmps) then _ else _)
    split
    · rename_i hw
      rw [aO hw] at h1;exact .inl h1
    · rename_i hw
      rw [aK hw] at h1;exact h1
def xq:=@WH.all
theorem WH.next(hS:S w)(h:WH P n bT K S fuel aT l w):WL P n.zC bT (Only K) (HK P bT K S fuel aT) [] l w:=λa ha=>⟨hS,h a ⟨ha.defers,ha.size,ha.get⟩⟩
def aP:=@WH.next
end
section
variable {P:Program}{n:Cx}{l:List (Nat × Value)}{w:World}{Q:Exit->Act->World->Prop}{K:Act->World->Prop}{bT:Array Oper}{os:List Oper}{ty:TypeId}{pos:String}{lD:Array Edge}{d:Nat}
theorem PY(τ:Ty α){ti:TypeId}(hT:P.underlying t=some (.slice e))(hi:P.underlying ti=some (.int .i64))(hI:kQ P e τ.k bytes)(m:Nat)(h0:0<m)(hm:m<=1000000)(hby:Nat.ble bytes 1000=true)(r:TypeId) :
    ∃ g c w',(Builtin.append_ #[t,ti] r #[.slice none 0 0,aD (m:Int)]).run P w=.ok (.slice (some ⟨g,0,none⟩) m c) w'/\Ext w w'/\Own τ e w.heap.size No w' (some ⟨g,0,none⟩) c []:=by
  obtain⟨i,z,h1,h2,h3,h4,h5⟩:=hI.ex
  have hb:bytes<=1000:=oJ hby
  have hw:IntKind.i64.wrap (m:Int)=(m:Int):=(vM aj aj).wrap;have hmb:m*bytes<=1000000*1000:=Nat.mul_le_mul hm hb
  have aG1:(m:Int)*(bytes:Int)<=1000000000:=by
    have:((m*bytes:Nat):Int)<=1000000000:=aj
    rwa [Int.natCast_mul] at this
  have hnx:Builtin.nextslicecap m 0=m:=nextslicecap_zero h0;have hz1:z.cells.size=τ.k:=h5;refine⟨w.heap.size,grownCap w m 0 e,(w.drew).alloc (.cells ((#[]:Array Value)++Builtin.zeroCells z.cells m++Builtin.zeroCells z.cells (grownCap w m 0 e - m)) e),?_,?_,?_⟩
  · have hcond:¬ (m:Int)*(bytes:Int)>2 ^ 48:=aj
    have atK:¬ m*bytes>2 ^ 48:=aj;have hf:(Question.appendCap m 0 e).forced=false:=rfl
    have hne:¬ m*τ.k=0:=by
      have:=τ.pos;intro h
      rcases Nat.mul_eq_zero.1 h with h | h <;> omega
    have hmx:¬ (IntKind.i64.max<(m:Int)):=by
      have e2:IntKind.i64.max=9223372036854775807:=au;omega
    simp [Builtin.append_,j6 hT,j6 hi,sizeOf,typeInfo,h1,h2,h3,h4,asInt,asIntOf,hw,zeroValue,Builtin.firstCells,newRow,hne,hf,hnx,atK,hmx]
    have hm0:¬ (m:Int)<0:=aj;have hm1:¬ (281474976710656<(m:Int)*(bytes:Int)):=aj;have hm2:¬ (m<=0):=aj;have hm3:¬ (m=0):=aj;have hm4:¬ (281474976710656<m*bytes):=aj;have hm5:¬ (9223372036854775807<(m:Int)):=aj
    simp [hm0,hm1,hm2,hm3,hm4,hm5,grownCap]
  · exact⟨Y,Y,Y,av,λk hk=>Below.heap_alloc w.drew _ k hk,Y2 _⟩
  · have hge:=grownCap_ge w m 0 e
    have hle:=grownCap_le_maxLen w m 0 e (by simp only [maxLen]; omega);refine⟨[],Y,λi x hx=>by simp at hx,av,.inr ⟨w.heap.size,_,_,rfl,kH _,heap_alloc_new w.drew _,fK _,hle,?_,av⟩⟩
    simp only [Array.size_append,LX,qx,Ia,size_zeroCells,hz1,<- qm]
    congr 1
    omega
theorem WL.abO(τ:Ty α){ti:TypeId}{s:Operand}(hs:gQ l s=some (.slice none 0 0))(hx:gQ l x=some (aD (m:Int)))(hT:P.underlying t=some (.slice e))(hi:P.underlying ti=some (.int .i64))(hI:kQ P e τ.k bytes)(h0:0<m)(hm:m<=1000000)(hby:Nat.ble bytes 1000=true)(hd:Nat.blt d n.size=true)
    (k:∀ g c w',Ext w w'->Own τ e w.heap.size No w' (some ⟨g,0,none⟩) c []->WL P n bT Q K os ((d,.slice (some ⟨g,0,none⟩) m c)::l) w') :
    WL P n bT Q K (⟨some d,.call ⟨.builtin .append,#[s,x],#[t,ti]⟩,ty,pos,lD,none⟩::os) l w:=by
  obtain⟨g,c,w',hrun,h1,h2⟩:=PY (P:=P) (w:=w) τ hT hi hI m h0 hm hby ty
  refine Ci (v:=.slice (some ⟨g,0,none⟩) m c) (λa _=>fM a) Y hd (R:=λw2=>w2=w') (λa ha=>⟨w',?_,Y⟩) λw2 e=>by rw [e]; exact k g c w' h1 h2
  unfold execOp
  simp only [resolve,jc,jW,jd,invoke,builtin,rM,mO,vL,ha.eval hs,ha.eval hx,hrun]
end
def atL(n:Cx)(J:Nat->List (Nat × Value)->World->Prop)(a:Act)(w:World):Prop:=∃ m l,Has n l a/\J m l w
section
variable {P:Program}{n:Cx}{l:List (Nat × Value)}{w:World}{Q:Exit->Act->World->Prop}
theorem aiG{c:Code}{a:Act}{R R':Act->World->Prop}(h:c.wpIn n.fence 0 P (Exit.jump lb R Q) a w)(hr:∀ a w,R a w->R' a w):c.wpIn n.fence 0 P (Exit.jump lb R' Q) a w:=by
  refine wpIn_mono h ?_;intro e a' w' hq
  cases e with
  | goto l'=>exact⟨hq.1,hr _ _ hq.2⟩
  | _=>exact hq
theorem WP.jumps{c rest:Code}(J:Nat->List (Nat × Value)->World->Prop)(hf:findLabel c lb=some (.seq .skip rest))
    (pass:∀ m l w,J m l w->WP P n rest l w (Exit.jump lb (Again n J m) Q))
    (first:(∀ m l w,J m l w->WP P n (.seq (.label lb) rest) l w (Exit.jump lb (atL n J) Q))->WP P n c l w (Exit.jump lb (atL n J) Q)) (hro:n.round=none:=by rfl):WP P n (.scope c) l w Q:=by
  intro a ha;have e:n.fence=Fence.wide:=TQ hro;rw [e];refine Lr.2<|wp_scope_jumps lb (atL n J) (λa w=>leastOf λm=>∃ l,Has n l a/\J m l w) hf ?_ ?_
  · have h1:=first ?_ a ha
    · rw [e] at h1; exact Lr.1 h1
    · intro m l w hJ a ha
      refine Rx (wpIn_label ?_);exact aiG (pass m l w hJ a ha) λa w ⟨m',l',_,h1,h2⟩=>⟨m',l',h1,h2⟩
  · intro a w hJ
    obtain⟨⟨l,h1,h2⟩,_⟩:=leastOf_spec (p:=λm=>∃ l,Has n l a/\J m l w) hJ;refine wp_seq (wp_skip ?_);have h6:=pass _ l w h2 a h1;rw [e] at h6;refine wp_mono (Lr.1 h6) ?_;intro e' a' w' hq
    cases e' with
    | goto l'=>
      refine⟨hq.1,?_⟩;obtain⟨m',l',hlt,h3,h4⟩:=hq.2;exact⟨⟨m',l',h3,h4⟩,Nat.lt_of_le_of_lt ((leastOf_spec (p:=λm=>∃ l,Has n l a'/\J m l w') ⟨m',l',h3,h4⟩).2 m' ⟨l',h3,h4⟩) hlt⟩
    | _=>exact hq
theorem kV.Ua{R:Act->World->Prop}(h:kV n Q .ret l w):kV n (Exit.jump lb R Q) .ret l w:=λa ha=>h a ha
theorem kV.XZ{R:Act->World->Prop}(h:kV n Q .normal l w):kV n (Exit.jump lb R Q) .normal l w:=λa ha=>h a ha
theorem WP.goto(h:kV n Q (.goto i) l w):WP P n (.goto i) l w Q:=λa ha=>wpIn_goto (h a ha)
end
def Ty.list{α:Type}(τ:Ty α):Ty (List α) where
  k:=1
  pos:=au
  R:=λS w xs cs=>∃ A c,cs=[.slice A xs.length c]/\Sl τ S w A c xs
  len:=fun⟨A,c,h,_⟩=>by rw [h]; rfl
  one:=fun⟨A,c,h,_⟩=>by rw [h]; intro u hu; simp at hu; rw [hu]; rfl
  keep:=λm ⟨A,c,h,hs⟩=>⟨A,c,h,hs.keep m⟩
  sub:=λhS ⟨A,c,h,hs⟩=>⟨A,c,h,hs.sub hS⟩
  bd:=fun⟨A,c,h,hs⟩=>⟨A,c,h,hs.bd⟩
def rO(A:ah)(c lo k:Nat):Option Addr:=if c=lo then A else A.map (·.add (lo*k))
theorem J9(A:ah)(c k:Nat):rO A c 0 k=A:=by
  unfold rO
  split
  · rfl
  · cases A <;> simp [Addr.add_zero']
theorem Sl.cut(h:Sl τ S w A c xs)(h1:lo<=hi)(h2:hi<=xs.length):Sl τ S w (rO A c lo τ.k) (c - lo) ((xs.take hi).drop lo):=by
  have hc:=h.cap;refine⟨by simp only [kN,fE]; omega,by have:=h.max; omega,?_,?_⟩
  · intro hn
    unfold rO at hn
    split at hn
    · omega
    · have:=h.nil (by simpa using hn); omega
  · intro i x hx
    rw [Cc,IK] at hx
    split at hx
    · rename_i hlt
      obtain⟨hS,cs,hR,hcs⟩:=h.rows _ x hx;have hA:=h.some_ hx;have hne:¬ c=lo:=aj
      have ha:ET (rO A c lo τ.k)=(ET A).add (lo*τ.k):=by
        unfold rO;rw [aK hne,hA]
        simp [ET]
      rw [ha,Bl];refine⟨hS,cs,hR,λj u hu=>?_⟩;rw [gI];have:=hcs j u hu
      rwa [show(lo+i)*τ.k+j=lo*τ.k+(i*τ.k+j) from by rw [qm]; omega] at this
    · cases hx
theorem Sl.agW(h:Sl τ S w A c xs)(h2:hi<=xs.length):Sl τ S w A c (xs.take hi):=by
  have:=h.cut (lo:=0) (fK _) h2
  rwa [J9,Nv,List.drop_zero] at this
theorem Sl.cutFrom(h:Sl τ S w A c xs)(h1:lo<=xs.length):Sl τ S w (rO A c lo τ.k) (c - lo) (xs.drop lo):=by
  have:=h.cut h1 (kH _)
  rwa [Y7] at this
theorem Own.take(h:Own τ e lo S w A c xs)(h2:hi<=xs.length):Own τ e lo S w A c (xs.take hi):=by
  obtain⟨css,hl,hR,hown⟩:=h;have hk:=Sn hl hR;have hlen:(xs.take hi).length=hi:=by simp only [fE]; omega
  have asy:∀(cs:List (List Value))(m:Nat),(∀ c∈cs,c.length=τ.k)->(cs.take m).flatten=cs.flatten.take (m*τ.k):=by
    intro cs
    induction cs with
    | nil=>intro m _; simp
    | cons c0 cs ih=>
      intro m hm
      cases m with
      | zero=>simp
      | succ m=>
        have h0:=hm c0 av;have e1:c0.take ((m+1)*τ.k)=c0:=iD (by rw [h0,qm]; omega);have e2:(m+1)*τ.k - τ.k=m*τ.k:=by rw [qm]; omega
        rw [Y8,BU,BU,ih m (λc hc=>hm c (by simp [hc])),TW,e1,h0,e2]
  refine⟨css.take hi,by simp only [fE,hl],λi x hx=>?_,?_⟩
  · rw [IK] at hx
    split at hx
    · rename_i hlt
      obtain⟨cs,h3,h4⟩:=hR i x hx;exact⟨cs,by rw [IK,aO hlt]; exact h3,h4⟩
    · cases hx
  · rw [hlen]
    refine⟨?_,?_⟩
    · rw [asy css hi hk,fE,hown.1]
      exact Eu (uE _ h2)
    · rcases hown.2 with ⟨hv,hn⟩ | ⟨g,cap,cur,hv,hg,hh,hnc,hcm,hcs,ht⟩
      · left
        injection hv with hA hn' hc
        subst hA hc;have:hi=0:=aj;subst this;exact⟨Y,Y⟩
      · right
        injection hv with hA hn' hc
        subst hA hc;refine⟨g,c,cur,Y,hg,hh,aj,hcm,hcs,?_⟩;rw [asy css hi hk,<- ht,IQ,Eu (uE _ h2)]
section
variable {P:Program}{n:Cx}{l:List (Nat × Value)}{w:World}{t e:TypeId}{x:Operand}
theorem Ev.agW{kh:IntKind}{zh:Int}{yh:Operand}(hu:P.underlying t=some (.slice e))(hs:Size P e k)(hx:gQ l x=some (.slice A xs.length c))(hh:gQ l yh=some (.int kh zh))
    (h2:zh=(hi:Int)) (h4:hi<=xs.length) (h5:xs.length<=c):Ev P n l w (.slice t x none (some yh) none) (.slice A (xs.take hi).length c):=λo a w' ho ha _=>by
  have hlen:(xs.take hi).length=hi:=by simp only [fE]; omega
  have hcz:=J9 A c k;unfold rO at hcz;unfold execOp; rw [ho]
  have h6:(Instr.sliceAt t (.slice A xs.length c) none (some (.int kh zh)) none).run P w'=.ok (.slice A hi c) w':=by
    rw [LY w' t _ _ _ _ (qB hu),run_slice_h w' t A xs.length c (qB hu) kh zh aj aj,Bn hu,hs w',h2]
    simp only [jd,sliced,TY,Nv]
    rw [hcz]
  simp [ha.eval hx,ha.eval hh,h6,hlen]
def Ey:=@Ev.agW
theorem Ev.Sr{kh:IntKind}{zh:Int}{yh:Operand}(hu:P.underlying t=some (.slice e))(hs:Size P e k)(hx:gQ l x=some (.slice A m c))(hh:gQ l yh=some (.int kh zh))(h2:zh=0):Ev P n l w (.slice t x none (some yh) none) (.slice A 0 c):=λo a w' ho ha _=>by
  have hcz:=J9 A c k;unfold rO at hcz;unfold execOp; rw [ho]
  have h6:(Instr.sliceAt t (.slice A m c) none (some (.int kh zh)) none).run P w'=.ok (.slice A 0 c) w':=by
    rw [LY w' t _ _ _ _ (qB hu),run_slice_h w' t A m c (qB hu) kh zh aj aj,Bn hu,hs w',h2]
    simp only [jd,sliced,Int.toNat_zero,Nv]
    rw [hcz]
  simp [ha.eval hx,ha.eval hh,h6]
theorem Ev.cutFrom{kl:IntKind}{zl:Int}{yl:Operand}(hu:P.underlying t=some (.slice e))(hs:Size P e k)(hx:gQ l x=some (.slice A xs.length c))(hl:gQ l yl=some (.int kl zl))
    (h1:zl=(lo:Int)) (h3:lo<=xs.length) (h5:xs.length<=c):Ev P n l w (.slice t x (some yl) none none) (.slice (rO A c lo k) (xs.drop lo).length (c - lo)):=λo a w' ho ha _=>by
  have hlen:(xs.drop lo).length=xs.length - lo:=by simp only [kN]
  unfold execOp; rw [ho]
  have h6:(Instr.sliceAt t (.slice A xs.length c) (some (.int kl zl)) none none).run P w'=.ok (.slice (rO A c lo k) (xs.length - lo) (c - lo)) w':=by
    rw [LY w' t _ _ _ _ (qB hu),run_slice_l w' t A xs.length c (qB hu) kl zl aj aj,Bn hu,hs w',h1]
    simp [sliced,rO]
  simp [ha.eval hx,ha.eval hl,h6,hlen]
def Ez:=@Ev.cutFrom
end
theorem agX:FloatKind.f64.nearest 0=0:=by decide +kernel
def fb(n:Nat):Nat:=FloatKind.f64.nearest (n:Int)
theorem Zb:∀ n,n<130->FloatKind.f64.format.add (fb n) 4607182418800017408=some (fb (n+1)):=by decide +kernel
theorem Sv:∀ n,n<130->FloatKind.f64.format.add (fb n) 0=some (fb n):=by decide +kernel
theorem alg:∀ n,n<130->(FloatKind.f64.decode (fb n)).toInt .zero=some (n:Int):=by decide +kernel
theorem atM:∀ n,n<70->∀ m,m<70->((FloatKind.f64.format.order (fb n) (fb m) == some .gt||FloatKind.f64.format.order (fb n) (fb m) == some .eq)=decide (m<=n)):=by decide +kernel
section
variable {P:Program}{n:Cx}{l:List (Nat × Value)}{w:World}{t ty:TypeId}{x y:Operand}
theorem Ev.apN{e f:Nat}(hx:gQ l x=some (.complex .f64 a b))(hy:gQ l y=some (.complex .f64 c d))(h1:FloatKind.f64.format.add a c=some e)(h2:FloatKind.f64.format.add b d=some f):Ev P n l w (.binOp .add t x y ty) (.complex .f64 e f):=
  pI hx hy (eqGuard_at_complex ..) λw=>by
    simp [binOp,Op.complexOp,Op.Complex.arith,Op.floatArith,h1,h2]
theorem Ev.real(hx:gQ l x=some (.complex .f64 a b)):Ev P n l w (.call ⟨.builtin .real,#[x],ts⟩) (.float .f64 a):=λo ac w' ho ha _=>by
  unfold execOp; rw [ho]
  simp only [resolve,jc,jW,jd,invoke,builtin,rM,mO,vL,ha.eval hx]
  rfl
theorem Ev.imag(hx:gQ l x=some (.complex .f64 a b)):Ev P n l w (.call ⟨.builtin .imag,#[x],ts⟩) (.float .f64 b):=λo ac w' ho ha _=>by
  unfold execOp; rw [ho]
  simp only [resolve,jc,jW,jd,invoke,builtin,rM,mO,vL,ha.eval hx]
  rfl
theorem Ev.axd{d:TypeId}(hs:∃ k,P.underlying t=some k)(hd:P.underlying d=some (.int .i64))(hx:gQ l x=some (.float .f64 a))(hm:(FloatKind.f64.decode a).toInt .zero=some (m:Int))(hb:m<9223372036854775808):Ev P n l w (.convert t d x) (.int .i64 (m:Int)):=λo ac w' ho ha _=>by
  unfold execOp; rw [ho];obtain⟨k,hk⟩:=hs
  have h1:IntKind.i64.min<=(m:Int)/\(m:Int)<=IntKind.i64.max:=by
    have e1:IntKind.i64.min=-9223372036854775808:=au;have e2:IntKind.i64.max=9223372036854775807:=au;omega
  have h2:(Conv.floatToInt .f64 a .i64).run P w'=.ok (.int .i64 (m:Int)) w':=by
    simp only [Conv.floatToInt,hm]
    rw [aO h1]
    rfl
  simp [ha.eval hx,convert,j6 hk,j6 hd,h2]
theorem Ev.aCv{d:TypeId}{k:IntKind}{z:Int}(hs:∃ k,P.underlying t=some k)(hd:P.underlying d=some (.float .f64))(hx:gQ l x=some (.int k z))(hm:z=(m:Int)):Ev P n l w (.convert t d x) (.float .f64 (fb m)):=λo ac w' ho ha _=>by
  unfold execOp; rw [ho];obtain⟨k,hk⟩:=hs
  simp [ha.eval hx,convert,j6 hk,j6 hd,Conv.intToFloat,hm,fb]
theorem Ev.aCw(ha:a<70)(hb:b<70)(hx:gQ l x=some (.float .f64 (fb a)))(hy:gQ l y=some (.float .f64 (fb b))):Ev P n l w (.binOp .geq t x y ty) (.bool (decide (b<=a))):=
  pI hx hy (eqGuard_at_float ..) λw=>by
    have:=atM a ha b hb
    simp [binOp,Op.floatCmp,this]
end
end Go.Proofs.YtlhnnmlenkahlaaGreat
namespace Go.Proofs.YtlhnnmlenkahlaaGreat
theorem fI{α:Type}{xs:List α}{k:Nat}{x:α}(h:xs[k]? = some x):xs.take (k+1)=xs.take k++[x]:=by
  rw [List.take_add_one,h]; rfl
theorem dA{α:Type}{xs:List α}{k:Nat}{x:α}(h:xs[k]? = some x):x∈xs:=xk h
def idxOf{α:Type}(p:α->Bool):List α->Int
  | []=>-1
  | x::xs=>if p x then 0 else if idxOf p xs<0 then -1 else idxOf p xs+1
theorem sQ{α:Type}{p:α->Bool}:∀ {xs:List α},(∀ x∈xs,p x=false)->idxOf p xs=-1
  | [],_=>rfl
  | x::xs,h=>by
    have h1:=h x av;have h2:=sQ (p:=p) (xs:=xs) (λy hy=>h y (by simp [hy]))
    simp [idxOf,h1,h2]
theorem EU{α:Type}{p:α->Bool}:∀(xs:List α),-1<=idxOf p xs
  | []=>by simp [idxOf]
  | x::xs=>by
    have:=EU (p:=p) xs;unfold idxOf
    split
    · omega
    · split <;> omega
theorem qD{α:Type}{p:α->Bool}:∀ {xs:List α} {k:Nat} {x:α},(∀ y∈xs.take k,p y=false)->xs[k]? = some x->p x=true->idxOf p xs=(k:Int)
  | [],k,x,_,h,_=>by simp at h
  | y::xs,0,x,_,h,hp=>by
    simp at h; subst h
    simp [idxOf,hp]
  | y::xs,k+1,x,h0,h,hp=>by
    have h1:=h0 y av;have h2:=qD (p:=p) (xs:=xs) (k:=k) (x:=x) (λz hz=>h0 z (by simp [hz])) (by simpa using h) hp
    simp only [idxOf,h1,h2]
    simp
    omega
theorem CB{α:Type}{p:α->Bool}:∀(xs:List α),idxOf p xs<xs.length
  | []=>by simp [idxOf]
  | x::xs=>by
    have:=CB (p:=p) xs;unfold idxOf
    simp only [oI]
    split
    · omega
    · split <;> omega
theorem uV{α:Type}(p:α->Bool)(xs:List α):(idxOf p xs=-1/\∀ x∈xs,p x=false)∨∃(k:Nat)(x:α),idxOf p xs=(k:Int)/\xs[k]? = some x/\p x=true/\∀ y∈xs.take k,p y=false:=by
  induction xs with
  | nil=>left; exact⟨rfl,λx hx=>by simp at hx⟩
  | cons y xs ih=>
    by_cases hp:p y=true
    · right; exact⟨0,y,by simp [idxOf,hp],rfl,hp,λz hz=>by simp at hz⟩
    · have hp':p y=false:=by simpa using hp
      rcases ih with ⟨h1,h2⟩ | ⟨k,x,h1,h2,h3,h4⟩
      · left
        refine⟨by simp [idxOf,hp',h1],λx hx=>?_⟩
        rcases iN.1 hx with rfl | hx
        · exact hp'
        · exact h2 x hx
      · right
        refine⟨k+1,x,by simp [idxOf,hp',h1]; omega,by simpa using h2,h3,λz hz=>?_⟩
        rcases iN.1 (by simpa using hz) with rfl | hz
        · exact hp'
        · exact h4 z hz
theorem tQ{α:Type}{q:α->Prop}{xs:List α}{k:Nat}{x:α}(h:∀ y∈xs.take k,q y)(hx:xs[k]? = some x)(hq:q x):∀ y∈xs.take (k+1),q y:=by
  rw [fI hx];intro y hy
  rcases kU.1 hy with h1 | h1
  · exact h y h1
  · simp at h1; rw [h1]; exact hq
theorem uW{α:Type}{q:α->Prop}{xs:List α}{k:Nat}(h:∀ y∈xs.take k,q y)(hk:xs.length<=k):∀ y∈xs,q y:=by
  rw [iD hk] at h; exact h
def zL{α:Type}(xss:List (List α))(k:Nat):Nat:=((xss.take k).flatten).length
theorem uX{α:Type}{xss:List (List α)}{k:Nat}{s:List α}(h:xss[k]? = some s):zL xss (k+1)=zL xss k+s.length:=by
  unfold zL; rw [fI h]; simp
theorem wu{α:Type}(xss:List (List α))(k:Nat):zL xss k<=xss.flatten.length:=by
  unfold zL
  conv=>rhs; rw [<- sJ k xss]
  rw [List.flatten_append,iO]; omega
theorem NC{α:Type}{xss:List (List α)}{k:Nat}{s:List α}(h:xss[k]? = some s):(xss.take k).flatten++s=(xss.take (k+1)).flatten:=by
  rw [fI h]; simp
def PZ{α:Type}(q:Nat->α->Bool)(xs:List α):Bool:=(List.range xs.length).all λi=>match xs[i]? with | some x=>q i x | none=>true
theorem L8{α:Type}{q:Nat->α->Bool}{xs:List α}:PZ q xs=true↔∀(i:Nat)(x:α),xs[i]? = some x->q i x=true:=by
  unfold PZ;rw [mZ]
  constructor
  · intro h i x hx
    have hi:i<xs.length:=(mM.1 hx).1;have:=h i (List.mem_range.2 hi);rw [hx] at this;exact this
  · intro h i hi
    cases hx:xs[i]? with
    | none=>rfl
    | some x=>exact h i x hx
theorem ae0{α:Type}{q:Nat->α->Bool}{xs:List α}{i:Nat}{x:α}(hx:xs[i]? = some x)(hq:q i x=false):PZ q xs=false:=by
  cases h:PZ q xs with
  | false=>rfl
  | true=>have:=L8.1 h i x hx; rw [hq] at this; cases this
theorem alh{α:Type}{q:Nat->α->Prop}{xs:List α}{k:Nat}(h:∀(i:Nat)(x:α),i<k->xs[i]? = some x->q i x){x:α}(hx:xs[k]? = some x)(hq:q k x):∀(i:Nat)(x:α),i<k+1->xs[i]? = some x->q i x:=by
  intro i y hi hy
  rcases Nr i k with h1 | h1
  · exact h i y h1 hy
  · have:i=k:=aj
    subst this;rw [hx] at hy
    cases hy
    exact hq
def low{α:Type}(g:α->Int)(s:List α):Nat:=s.countP λx=>decide (g x<0)
def hits{α:Type}(g:α->Int)(s:List α):Bool:=match s[low g s]? with | some x=>decide (g x=0) | none=>false
def Zc{α:Type}(g:α->Int)(s:List α):Prop:=∀(i j:Nat)(x y:α),i<=j->s[i]? = some x->s[j]? = some y->g y<0->g x<0
theorem CF{α:Type}(g:α->Int)(s:List α):low g s<=s.length:=Y9
theorem vR{α:Type}{g:α->Int}{s:List α}{i:Nat}(hi:i<=s.length)(h1:∀(a:Nat)(x:α),a<i->s[a]? = some x->g x<0)(h2:∀(a:Nat)(x:α),i<=a->s[a]? = some x->¬ g x<0):low g s=i:=by
  have e:low g s=(s.take i).countP (λx=>decide (g x<0))+(s.drop i).countP (λx=>decide (g x<0)):=by
    unfold low; rw [<- LZ,sJ]
  have e1:(s.take i).countP (λx=>decide (g x<0))=(s.take i).length:=by
    rw [List.countP_eq_length];intro x hx;obtain⟨a,ha,rfl⟩:=abH hx;have hlt:a<i:=by simp only [fE] at ha; omega
    exact L6 (h1 a _ hlt (by rw [List.getElem_take]; exact sI _))
  have e2:(s.drop i).countP (λx=>decide (g x<0))=0:=by
    rw [List.countP_eq_zero];intro x hx;obtain⟨a,ha,rfl⟩:=abH hx;have hb:i+a<s.length:=by simp only [kN] at ha; omega
    have:=h2 (i+a) _ aj (sI hb);rw [List.getElem_drop]
    simpa using this
  rw [e,e1,e2,fE]; omega
def bn(x y:Int):Int:=if x<y then -1 else if y<x then 1 else 0
theorem pO{x y:Int}:bn x y<0↔x<y:=by
  unfold bn; split
  · omega
  · split <;> omega
theorem xI{x y:Int}:bn x y=0↔x=y:=by
  unfold bn; split
  · omega
  · split <;> omega
def Up{α:Type}(key:α->Int)(s:List α):Prop:=s.Pairwise λx y=>key x<key y
theorem Up.get{α:Type}{key:α->Int}{s:List α}(h:Up key s){i j:Nat}{x y:α}(hij:i<j)(hx:s[i]? = some x)(hy:s[j]? = some y):key x<key y:=by
  have hi:=aJ hx;have hj:=aJ hy;have:=(Ew.1 h) i j hi hj hij;rw [(mM.1 hx).2,(mM.1 hy).2] at this;exact this
theorem Up.mono{α:Type}{key:α->Int}{s:List α}(h:Up key s)(n:Int):Zc (λy=>bn (key y) n) s:=by
  intro i j x y hij hx hy hlt
  simp only [pO] at hlt ⊢
  rcases Nr i j with h1 | h1
  · have:=h.get h1 hx hy; omega
  · have:i=j:=aj
    subst this; rw [hx] at hy; cases hy; exact hlt
theorem uY{α:Type}{key:α->Int}{s:List α}(h:Up key s)(n:Int):hits (λy=>bn (key y) n) s=true↔∃ x∈s,key x=n:=by
  have hl:∀(i:Nat)(x:α),s[i]? = some x->key x=n->low (λy=>bn (key y) n) s=i:=by
    intro i x hx hk;refine vR (by have:=aJ hx; omega) (λa y ha hy=>?_) (λa y ha hy=>?_)
    · rw [pO]; have:=h.get ha hy hx; omega
    · rw [pO]
      rcases Nr i a with h1 | h1
      · have:=h.get h1 hx hy; omega
      · have:a=i:=aj
        subst this; rw [hx] at hy; cases hy; omega
  constructor
  · intro hh
    unfold hits at hh
    split at hh
    · rename_i x hx
      have:=jC hh;exact⟨x,dA hx,xI.1 this⟩
    · cases hh
  · rintro⟨x,hx,hk⟩
    obtain⟨i,hi,rfl⟩:=abH hx;have h1:=hl i _ (sI hi) hk;unfold hits;rw [h1,sI hi];exact L6 (xI.2 hk)
theorem qE{α:Type}{key:α->Int}{s:List α}{n:Int}(h:hits (λy=>bn (key y) n) s=true):∃ x,s[low (λy=>bn (key y) n) s]? = some x/\key x=n:=by
  unfold hits at h
  split at h
  · rename_i x hx; exact⟨x,hx,xI.1 (jC h)⟩
  · cases h
theorem dW{P:Program}{n:Cx}{l:List (Nat × Value)}{w:World}{t ty:TypeId}{x y:Operand}{a b:Int}(hx:gQ l x=some (.int .i64 a))(hy:gQ l y=some (.int .i64 b))(h1:-9223372036854775808<=a+b:=by omega)(h2:a+b<=9223372036854775807:=by omega):Ev P n l w (.binOp .add t x y ty) (.int .i64 (a+b)):=Ev.add hx hy ⟨h1,h2⟩
theorem aEY{P:Program}{n:Cx}{l:List (Nat × Value)}{w:World}{t ty:TypeId}{x y:Operand}{a b:Int}(hx:gQ l x=some (.int .i64 a))(hy:gQ l y=some (.int .i64 b))(h1:-9223372036854775808<=a+b:=by first | omega | (simp; done) | decide)(h2:a+b<=9223372036854775807:=by first | omega | (simp; done) | decide):Ev P n l w (.binOp .add t x y ty) (.int .i64 (a+b)):=Ev.add hx hy ⟨h1,h2⟩
theorem RA{P:Program}{n:Cx}{l:List (Nat × Value)}{w:World}{t ty:TypeId}{x y:Operand}{a b:Int}(hx:gQ l x=some (.int .i64 a))(hy:gQ l y=some (.int .i64 b))(h1:-9223372036854775808<=a - b:=by omega)(h2:a - b<=9223372036854775807:=by omega):Ev P n l w (.binOp .sub t x y ty) (.int .i64 (a - b)):=Ev.sub hx hy ⟨h1,h2⟩
theorem kX{P:Program}{n:Cx}{l:List (Nat × Value)}{w:World}{Q:Exit->Act->World->Prop}{c:Operand}{x y:Code}{p:Prop}[Decidable p](hc:gQ l c=some (.bool (decide p)))(h1:p->WP P n x l w Q)(h2:¬p->WP P n y l w Q):WP P n (.cond c x y) l w Q:=bR hc (λh=>h1 (jC h)) (λh=>h2 (kg h))
theorem oC{P:Program}{n:Cx}{l:List (Nat × Value)}{w:World}{Q:Exit->Act->World->Prop}{c:Operand}{x y z:Code}{p:Prop}[Decidable p](hc:gQ l c=some (.bool (decide p)))(h1:p->WP P n x l w (Exit.then (Ls P n z Q) Q))(h2:¬p->WP P n y l w (Exit.then (Ls P n z Q) Q)):WP P n (.seq (.cond c x y) z) l w Q:=WP.cond hc (λh=>h1 (jC h)) (λh=>h2 (kg h))
end Go.Proofs.YtlhnnmlenkahlaaGreat
