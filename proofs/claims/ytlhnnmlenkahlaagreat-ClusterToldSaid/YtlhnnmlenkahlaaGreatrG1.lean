/- Lemmas. -/
import Derived.Lib.SliceRun
import Derived.Maps.AppendAt
import Derived.OrdersHeld
import Derived.Test.YtlhnnmlenkahlaaGreatrG0
set_option linter.all false
namespace Go.Proofs.YtlhnnmlenkahlaaGreat
open Go.RowKit
def aax:=@List.cons_append
def uF:=@List.take_append_drop
def tO:=@List.map_toArray
def Bd:=@eqGuard_at_int
def nG:=@List.map_cons
def wP:=@List.map_nil
def abL:=@run_loadCells_list
def F6:=@Addr.add_lit
def KN:=@List.getElem?_take
def DW:=@List.getElem?_drop
def Sz:=@run_storeCells_at
def KO:=@setRow_heap
def OM:=@List.size_toArray
def kQ:=@run_underlying
def yN:=@List.append_nil
def fJ:=@Nat.zero_le
def rH:=@List.length_nil
def abM:=@Nat.lt_of_le_of_lt
def kW:=@List.length_drop
def fO:=@List.length_take
def Wp:=@List.take_length
def iH:=@List.take_of_length_le
def abN:=@List.take_succ_cons
def Wq:=@List.take_append
def F7:=@Nat.min_eq_left
def vH:=@Nat.mul_le_mul_right
def KP:=@List.take_take
def OO:=@run_sliceAt_slice
def Ws:=@Int.toNat_natCast
def xg:=@List.mem_of_getElem?
def lI:=@List.all_eq_true
def abO:=@List.countP_le_length
def OP:=@List.countP_append
def F8:=@decide_eq_true
def DX:=@List.pairwise_iff_getElem
def gW:=@of_decide_eq_true
def iJ:=@of_decide_eq_false
variable {a j d c m i k g bytes lo lb hi b:Nat}{v u:Value}{o:Oper}{R:Value->World->Prop}{op:Op}{ty t e t':TypeId}{pos:String}{mI:Array Edge}{bW:Bool}{ol:List Oper}{y KH x:Operand}{Qa:Act->Prop}{args:List Operand}{tys ts:Array TypeId}{f:FuncId}{caps vs cs:List Value}{A B:ah}{k':IntKind}{parts:List (Nat × Operand)}{α:Type}{S S2:Nat->Prop}{w:World}{p:α->Bool}{enc:α->List Value}{xs ys s:List α}{τ:Ty α}{xss:List (List α)}{key:α->Int}{hl:∀ x,(enc x).length=k}{h1:∀ x,∀ u∈enc x,u.oneCell'=true}
def Ev(P:Program)(n:Cx)(l:List (Nat × Value))(w:World)(op:Op)(v:Value):Prop:=
  ∀(o:Oper)(a:Act)(w':World),o.op=op->Has n l a->Ext w w'->(execOp a.eval o).run P w'=.ok (.value v) w'
def guardOf(dh:Array Oper)(l:List (Nat × Value))(j:Nat):Option Value:=((dh[j]?).bind (·.dst)).bind (look l)
def unlike(bW:Bool):Value->Bool
  | .bool b=>b != bW
  | _=>true
section
variable {P:Program}{n:Cx}{l l':List (Nat × Value)}{w w':World}{Q:Exit->Act->World->Prop}{K:Act->World->Prop}{dh:Array Oper}{os:List Oper}
theorem DY{a:Act}(ha:Has n l a)(h:guardOf dh l j=some v):yielded dh a.tmps j=match v with | .bool b=>some b | _=>none:=by
  unfold guardOf at h;unfold yielded
  cases hd:(dh[j]?).bind (·.dst) with
  | none=>simp [hd] at h
  | some t=>
    simp only [hd,Option.bind_some] at h ⊢
    have hg:=ha.get t v h
    simp only [DT] at hg
    cases ht:a.tmps[t]? with
    | none=>
      rw [ht] at hg
      simp at hg
      subst hg
      rfl
    | some u=>
      rw [ht] at hg
      simp at hg
      subst hg
      cases u <;> rfl
theorem WL.val(hw:∀ a,Has n l a->Region.wanted o (yielded dh a.tmps)=true)(hdst:o.dst=some d)(hd:Nat.blt d n.size=true){R:World->Prop}
    (hrun:∀ a,Has n l a->∃ w',(execOp a.eval o).run P w=.ok (.value v) w'/\R w') (k:∀ w',R w'->WL P n dh Q K os ((d,v)::l) w'):WL P n dh Q K (o::os) l w:=by
  intro a ha;obtain⟨w',hr,hR⟩:=hrun a ha;unfold Wj;rw [aO (hw a ha)];refine Nl hr ?_;rw [hdst];exact k w' hR _ (ha.put hd v)
def DZ:=@WL.val
theorem WL.unit(hw:∀ a,Has n l a->Region.wanted o (yielded dh a.tmps)=true)(hdst:o.dst=none){R:World->Prop}
    (hrun:∀ a,Has n l a->∃ w',(execOp a.eval o).run P w=.ok .skip w'/\R w') (k:∀ w',R w'->WL P n dh Q K os l w'):WL P n dh Q K (o::os) l w:=by
  intro a ha;obtain⟨w',hr,hR⟩:=hrun a ha;unfold Wj;rw [aO (hw a ha)];refine aoI hr ?_;rw [hdst];exact k w' hR a ha
def Qf:=@WL.unit
theorem gH{d:Option Nat}(a:Act):Region.wanted ⟨d,op,ty,pos,mI,none⟩ (yielded dh a.tmps)=true:=rfl
theorem uG{d:Option Nat}(hg:guardOf dh l j=some (.bool bW))(a:Act)(ha:Has n l a) :
    Region.wanted ⟨d,op,ty,pos,mI,some (j,bW)⟩ (yielded dh a.tmps)=true:=by
  show(yielded dh a.tmps j == some bW)=true;rw [DY ha hg]
  simp
theorem WL.ev(h:Ev P n l w op v)(hd:Nat.blt d n.size=true)(k:WL P n dh Q K os ((d,v)::l) w) :
    WL P n dh Q K (⟨some d,op,ty,pos,mI,none⟩::os) l w:=
  DZ (λa _=>gH a) rfl hd (R:=λw'=>w'=w) (λa ha=>⟨w,h _ a w rfl ha (pI w),rfl⟩) λw' e=>by subst e; exact k
def jQ:=@WL.ev
theorem WL.evg(hg:guardOf dh l j=some (.bool bW))(h:Ev P n l w op v)(hd:Nat.blt d n.size=true)(k:WL P n dh Q K os ((d,v)::l) w) :
    WL P n dh Q K (⟨some d,op,ty,pos,mI,some (j,bW)⟩::os) l w:=
  DZ (λa ha=>uG hg a ha) rfl hd (R:=λw'=>w'=w) (λa ha=>⟨w,h _ a w rfl ha (pI w),rfl⟩) λw' e=>by subst e; exact k
def bn:=@WL.evg
theorem WL.pass(hg:guardOf dh l j=some v)(hv:unlike bW v=true)(hd:Nat.blt d n.size=true)(k:WL P n dh Q K os ((d,undef)::l) w) :
    WL P n dh Q K (⟨some d,op,ty,pos,mI,some (j,bW)⟩::os) l w:=by
  intro a ha;unfold Wj
  have:Region.wanted ⟨some d,op,ty,pos,mI,some (j,bW)⟩ (yielded dh a.tmps)=false:=by
    show(yielded dh a.tmps j == some bW)=false;rw [DY ha hg]
    cases v <;> simp [unlike] at hv ⊢
    cases bW <;> simp_all
  rw [this];exact k _ (ha.put hd undef)
theorem WL.cut(m:Nat)(l1:List (Nat × Value))(h:WL P n dh Q (λa' w'=>Has n l1 a'/\w'=w) (os.take m) l w)(k:WL P n dh Q K (os.drop m) l1 w):WL P n dh Q K os l w:=by
  intro a ha
  have key:∀(ys:List Oper)(a:Act)(w0:World),Wj P n dh Q (λa' w'=>Has n l1 a'/\w'=w) ys a w0->Wj P n dh Q K (ys++os.drop m) a w0:=by
    intro ys
    induction ys with
    | nil=>rintro a w0 ⟨h1,rfl⟩; exact k a h1
    | cons o ys ih=>
      intro a w0 hh
      simp only [aax]
      unfold Wj at hh ⊢
      split
      · rename_i hw
        rw [aO hw] at hh;exact aeE (λa w=>ih a w) hh
      · rename_i hw
        rw [aK hw] at hh;exact ih _ _ hh
  have:=key (os.take m) a w (h a ha)
  rwa [uF] at this
theorem WL.aGu(m:Nat)(l1:List (Nat × Value))(h:WL P n dh Q (λa' w'=>Has n l1 a'/\Ext w w') (os.take m) l w)(k:∀ w',Ext w w'->WL P n dh Q K (os.drop m) l1 w'):WL P n dh Q K os l w:=by
  intro a ha
  have key:∀(ys:List Oper)(a:Act)(w0:World),Wj P n dh Q (λa' w'=>Has n l1 a'/\Ext w w') ys a w0->Wj P n dh Q K (ys++os.drop m) a w0:=by
    intro ys
    induction ys with
    | nil=>rintro a w0 ⟨h1,h2⟩; exact k w0 h2 a h1
    | cons o ys ih=>
      intro a w0 hh
      simp only [aax]
      unfold Wj at hh ⊢
      split
      · rename_i hw
        rw [aO hw] at hh;exact aeE (λa w=>ih a w) hh
      · rename_i hw
        rw [aK hw] at hh;exact ih _ _ hh
  have:=key (os.take m) a w (h a ha)
  rwa [uF] at this
theorem WL.re{t:Nat}(hl:look l t=some u)(e:u=v)(k:WL P n dh Q K os ((t,v)::l) w):WL P n dh Q K os l w:=
  λa ha=>k a (ha.set hl e)
def fU:=@WL.re
theorem WP.re{t:Nat}{c:Code}(hl:look l t=some u)(e:u=v)(k:WP P n c ((t,v)::l) w Q):WP P n c l w Q:=
  λa ha=>k a (ha.set hl e)
def lC:=@WP.re
def WQ(P:Program)(n:Cx)(dh:Array Oper)(w:World)(Qa:Act->Prop)(os:List Oper)(l:List (Nat × Value)):Prop:=∀ a,Has n l a->wpQuiet P dh (λw'=>Ext w w') Qa os a
theorem WP.draw{id:Nat}{y:Code}(hm:P.follows .mixedOrders=true)(hB:Region.lexB .any ol.toArray=true)
    (h:WQ P n ol.toArray w (λa=>∀ w',Ext w w'->Ot P n y Q a w') ol l) (hro:n.round=none:=by rfl):WP P n (.seq (.region id ol.toArray true) y) l w Q:=λa ha=>by
  refine Uz ?_;rw [V9 hro];refine Oq.2 (wp_region_quiet (C:=λw'=>Ext w w') hm hB ⟨Y,Y,Y,kV _,λ_ _=>Y,abH _⟩ ?_);have:=h a ha;unfold Ot at this;rw [V9 hro] at this;exact this
def qo:=@WP.draw
theorem WQ.done{y:Code}(h:∀ w',Ext w w'->WP P n y l w' Q):WQ P n dh w (λa=>∀ w',Ext w w'->Ot P n y Q a w') [] l:=λa ha w' e=>h w' e a ha
def qp:=@WQ.done
theorem WQ.ev(h:Ev P n l w op v)(hd:Nat.blt d n.size=true)(k:WQ P n dh w Qa os ((d,v)::l)) :
    WQ P n dh w Qa (⟨some d,op,ty,pos,mI,none⟩::os) l:=by
  intro a ha;unfold wpQuiet;rw [aO (gH a)];refine⟨v,λw' e=>?_,k _ (ha.put hd v)⟩;unfold Oper.quietAt;rw [h _ a w' rfl ha e];exact⟨Y,Y⟩
def bA:=@WQ.ev
theorem WQ.evg(hg:guardOf dh l j=some (.bool bW))(h:Ev P n l w op v)(hd:Nat.blt d n.size=true)(k:WQ P n dh w Qa os ((d,v)::l)) :
    WQ P n dh w Qa (⟨some d,op,ty,pos,mI,some (j,bW)⟩::os) l:=by
  intro a ha;unfold wpQuiet;rw [aO (uG hg a ha)];refine⟨v,λw' e=>?_,k _ (ha.put hd v)⟩;unfold Oper.quietAt;rw [h _ a w' rfl ha e];exact⟨Y,Y⟩
def eT:=@WQ.evg
theorem WQ.pass(hg:guardOf dh l j=some v)(hv:unlike bW v=true)(hd:Nat.blt d n.size=true)(k:WQ P n dh w Qa os ((d,undef)::l)) :
    WQ P n dh w Qa (⟨some d,op,ty,pos,mI,some (j,bW)⟩::os) l:=by
  intro a ha;unfold wpQuiet
  have:Region.wanted ⟨some d,op,ty,pos,mI,some (j,bW)⟩ (yielded dh a.tmps)=false:=by
    show(yielded dh a.tmps j == some bW)=false;rw [DY ha hg]
    cases v <;> simp [unlike] at hv ⊢
    cases bW <;> simp_all
  rw [this];exact k _ (ha.put hd undef)
def dZ:=@WQ.pass
theorem WQ.re{t:Nat}(hl:look l t=some u)(e:u=v)(k:WQ P n dh w Qa os ((t,v)::l)):WQ P n dh w Qa os l:=
  λa ha=>k a (ha.set hl e)
def CY:=@WQ.re
theorem WQ.cut(m:Nat)(l1:List (Nat × Value))(h:WQ P n dh w (λa'=>Has n l1 a') (os.take m) l)(k:WQ P n dh w Qa (os.drop m) l1):WQ P n dh w Qa os l:=by
  intro a ha
  have key:∀(ys:List Oper)(a:Act),wpQuiet P dh (λw'=>Ext w w') (λa'=>Has n l1 a') ys a->wpQuiet P dh (λw'=>Ext w w') Qa (ys++os.drop m) a:=by
    intro ys
    induction ys with
    | nil=>intro a h1; exact k a h1
    | cons o ys ih=>
      intro a hh
      simp only [aax]
      unfold wpQuiet at hh ⊢
      split
      · rename_i hw
        rw [aO hw] at hh;exact Oper.quiet_mono (λa=>ih a) hh
      · rename_i hw
        rw [aK hw] at hh;exact ih _ hh
  have:=key (os.take m) a (h a ha)
  rwa [uF] at this
end
def bF(P:Program)(f:FuncId):Prop:=∀(args:Array Value)(w:World),(callFunc f args).run P w=.ok (.enter f args) w
section
variable {P:Program}{n:Cx}{l l':List (Nat × Value)}{w w':World}{Q:Exit->Act->World->Prop}{K:Act->World->Prop}{dh:Array Oper}{os:List Oper}
theorem DI{a:Act}(ho:o.op=.call ⟨.value KH,args.toArray,tys⟩)(ha:Has n l a){all:List Value}
    (hf:iG l KH=some (.func (.func f) #[] caps.toArray)) (hargs:EW l args=some vs) (hall:vs++caps=all) (hc:bF P f) (w:World):(execOp a.eval o).run P w=.ok (.enter f all.toArray) w:=by
  unfold execOp;rw [ho];have h1:=ha.eval hf;have h2:=ha.UA hargs
  simp only [resolve,h1,Deferred.ofValue,jF,kL,jG,invoke]
  have:(#[]++Array.map a.eval args.toArray++caps.toArray:Array Value)=all.toArray:=by
    rw [tO,h2,<- hall]; simp
  rw [this];exact hc _ w
theorem Wt{a:Act}{args:Array Value}(hw:Region.wanted o (yielded dh a.tmps)=true)(hrun:(execOp a.eval o).run P w=.ok (.enter f args) w)(hc:bS P f args w R)
    (k:∀ v w',R v w'->Wj P n dh Q K os (a.put o.dst v) w'):Wj P n dh Q K (o::os) a w:=by
  unfold Wj;rw [aO hw];refine aav hrun (Fq hc ?_);rintro e w' ⟨v,rfl,hv⟩;exact⟨v,Y,k v w' hv⟩
theorem WL.call{all:List Value}
    (hf:iG l KH=some (.func (.func f) #[] caps.toArray)) (hargs:EW l args=some vs) (hall:vs++caps=all) (D5:bF P f) (hc:bS P f all.toArray w R) (hd:Nat.blt d n.size=true)
    (k:∀ v w',R v w'->WL P n dh Q K os ((d,v)::l) w'):WL P n dh Q K (⟨some d,.call ⟨.value KH,args.toArray,tys⟩,ty,pos,mI,none⟩::os) l w:=
  λa ha=>Wt (gH a) (DI rfl ha hf hargs hall D5 w) hc λv w' hv=>k v w' hv _ (ha.put hd v)
def xK:=@WL.call
theorem WL.aeG{all:List Value}
    (hg:guardOf dh l j=some (.bool bW))
    (hf:iG l KH=some (.func (.func f) #[] caps.toArray)) (hargs:EW l args=some vs) (hall:vs++caps=all) (D5:bF P f) (hc:bS P f all.toArray w R) (hd:Nat.blt d n.size=true)
    (k:∀ v w',R v w'->WL P n dh Q K os ((d,v)::l) w'):WL P n dh Q K (⟨some d,.call ⟨.value KH,args.toArray,tys⟩,ty,pos,mI,some (j,bW)⟩::os) l w:=
  λa ha=>Wt (uG hg a ha) (DI rfl ha hf hargs hall D5 w) hc λv w' hv=>k v w' hv _ (ha.put hd v)
def oh:=@WL.aeG
theorem WQ.call{all:List Value}
    (hf:iG l KH=some (.func (.func f) #[] caps.toArray)) (hargs:EW l args=some vs) (hall:vs++caps=all) (D5:bF P f)
    (hc:∀ w',Ext w w'->bS P f all.toArray w' λu w''=>u=v/\Ext w' w'') (hd:Nat.blt d n.size=true)
    (k:WQ P n dh w Qa os ((d,v)::l)):WQ P n dh w Qa (⟨some d,.call ⟨.value KH,args.toArray,tys⟩,ty,pos,mI,none⟩::os) l:=by
  intro a ha;unfold wpQuiet;rw [aO (gH a)];refine⟨v,λw' e=>?_,k _ (ha.put hd v)⟩;unfold Oper.quietAt;rw [DI rfl ha hf hargs hall D5 w'];exact⟨Y,Fq (hc w' e) λx w'' ⟨u,hx,hu,he⟩=>by subst hu; exact⟨hx,e.trans he⟩⟩
def Fv:=@WQ.call
theorem WQ.aeG{all:List Value}
    (hg:guardOf dh l j=some (.bool bW))
    (hf:iG l KH=some (.func (.func f) #[] caps.toArray)) (hargs:EW l args=some vs) (hall:vs++caps=all) (D5:bF P f)
    (hc:∀ w',Ext w w'->bS P f all.toArray w' λu w''=>u=v/\Ext w' w'') (hd:Nat.blt d n.size=true)
    (k:WQ P n dh w Qa os ((d,v)::l)):WQ P n dh w Qa (⟨some d,.call ⟨.value KH,args.toArray,tys⟩,ty,pos,mI,some (j,bW)⟩::os) l:=by
  intro a ha;unfold wpQuiet;rw [aO (uG hg a ha)];refine⟨v,λw' e=>?_,k _ (ha.put hd v)⟩;unfold Oper.quietAt;rw [DI rfl ha hf hargs hall D5 w'];exact⟨Y,Fq (hc w' e) λx w'' ⟨u,hx,hu,he⟩=>by subst hu; exact⟨hx,e.trans he⟩⟩
def Qg:=@WQ.aeG
end
def Size(P:Program)(t:TypeId)(k:Nat):Prop:=∀ w,(sizeOf t).run P w=.ok k w
def l9(P:Program)(t:TypeId):Prop:=∀ w,(isAgg t).run P w=.ok false w
def Agg(P:Program)(t:TypeId)(k:Nat):Prop:=(∀ w,(isAgg t).run P w=.ok true w)/\Size P t k
def eu(P:Program)(s f off:Nat):Prop:=∀(a:Addr)(w:World),(Instr.fieldAt s (.pointer (some a)) f).run P w=.ok (.pointer (some (a.add off))) w
section
variable {P:Program}{n:Cx}{l:List (Nat × Value)}{w:World}
theorem Dj(hu:P.underlying t=some (.slice e)):P.elem t=e:=by simp [Program.elem,hu]
theorem rV(hu:P.underlying t=some (.slice e)):P.underlying t=some (.slice (P.elem t)):=by rw [Dj hu]; exact hu
theorem Ev.move(hx:iG l x=some v):Ev P n l w (.move x) v:=λo a w' ho ha _=>by
  unfold execOp; rw [ho]; simp [ha.eval hx]
def bf:=@Ev.move
theorem Ev.assign(hx:iG l x=some v):Ev P n l w (.assign x) v:=λo a w' ho ha _=>by
  unfold execOp; rw [ho]; simp [ha.eval hx]
def om:=@Ev.assign
theorem Ev.ayd{c:Operand}(hc:iG l c=some (.bool true))(hx:iG l x=some v):Ev P n l w (.pick c x y) v:=λo a w' ho ha _=>by
  unfold execOp; rw [ho]; simp [ha.eval hx,ha.eval hc,asBool]
def dH:=@Ev.ayd
theorem Ev.aye{c:Operand}(hc:iG l c=some (.bool false))(hx:iG l y=some v):Ev P n l w (.pick c x y) v:=λo a w' ho ha _=>by
  unfold execOp; rw [ho]; simp [ha.eval hx,ha.eval hc,asBool]
def dL:=@Ev.aye
theorem Ev.binop{op:BinOp}{r:Value}(hx:iG l x=some u)(hy:iG l y=some v)(hg:eqGuard op t x y u v=pure ())(hr:∀ w,(binOp op t u v).run P w=.ok r w) :
    Ev P n l w (.binOp op t x y ty) r:=λo a w' ho ha _=>by
  unfold execOp; rw [ho]; simp [ha.eval hx,ha.eval hy,hg,hr]
def qG:=@Ev.binop
section
variable {t ty:TypeId}{x y:Operand}{k:IntKind}{a b:Int}
theorem Ev.lss(hx:iG l x=some (.int k a))(hy:iG l y=some (.int k b)):Ev P n l w (.binOp .lss t x y ty) (.bool (decide (a<b))):=
  qG hx hy (Bd ..) λw=>by rw [binOp_lss]; rfl
def fC:=@Ev.lss
theorem Ev.leq(hx:iG l x=some (.int k a))(hy:iG l y=some (.int k b)):Ev P n l w (.binOp .leq t x y ty) (.bool (decide (a<=b))):=
  qG hx hy (Bd ..) λw=>by rw [binOp_leq]; rfl
def vS:=@Ev.leq
theorem Ev.gtr(hx:iG l x=some (.int k a))(hy:iG l y=some (.int k b)):Ev P n l w (.binOp .gtr t x y ty) (.bool (decide (b<a))):=
  qG hx hy (Bd ..) λw=>by rw [binOp_gtr]; rfl
def pV:=@Ev.gtr
theorem Ev.geq(hx:iG l x=some (.int k a))(hy:iG l y=some (.int k b)):Ev P n l w (.binOp .geq t x y ty) (.bool (decide (b<=a))):=
  qG hx hy (Bd ..) λw=>by rw [binOp_geq]; rfl
def qK:=@Ev.geq
theorem Ev.eql(hx:iG l x=some (.int k a))(hy:iG l y=some (.int k b)):Ev P n l w (.binOp .eql t x y ty) (.bool (decide (a=b))):=
  qG hx hy (Bd ..) λw=>by rw [binOp_eql]; rfl
def iA:=@Ev.eql
theorem Ev.neq(hx:iG l x=some (.int k a))(hy:iG l y=some (.int k b)):Ev P n l w (.binOp .neq t x y ty) (.bool (!decide (a=b))):=
  qG hx hy (Bd ..) λw=>by rw [binOp_neq]; rfl
def nQ:=@Ev.neq
theorem Ev.aGv(hx:iG l x=some (.int k a))(hy:iG l y=some (.int k b)):Ev P n l w (.binOp .add t x y ty) (.int k (k.wrap (a+b))):=
  qG hx hy (Bd ..) λw=>by rw [binOp_add]; rfl
theorem Ev.aGw(hx:iG l x=some (.int k a))(hy:iG l y=some (.int k b)):Ev P n l w (.binOp .sub t x y ty) (.int k (k.wrap (a - b))):=
  qG hx hy (Bd ..) λw=>by rw [binOp_sub]; rfl
theorem Ev.aGx(hx:iG l x=some (.int k a))(hy:iG l y=some (.int k b)):Ev P n l w (.binOp .mul t x y ty) (.int k (k.wrap (a*b))):=
  qG hx hy (Bd ..) λw=>by rw [binOp_mul]; rfl
end
def I64(x:Int):Prop:=-9223372036854775808<=x/\x<=9223372036854775807
theorem I64.mk{x:Int}(h1:-9223372036854775808<=x)(h2:x<=9223372036854775807):I64 x:=⟨h1,h2⟩
def wQ:=@I64.mk
theorem I64.wrap{x:Int}(h:I64 x):IntKind.i64.wrap x=x:=IntWalk.i64_in x h
section
variable {t ty:TypeId}{x y:Operand}{a b:Int}
theorem Ev.add(hx:iG l x=some (.int .i64 a))(hy:iG l y=some (.int .i64 b))(h:I64 (a+b)):Ev P n l w (.binOp .add t x y ty) (.int .i64 (a+b)):=by
  have:=Ev.aGv (P:=P) (n:=n) (w:=w) (t:=t) (ty:=ty) hx hy; rwa [h.wrap] at this
theorem Ev.sub(hx:iG l x=some (.int .i64 a))(hy:iG l y=some (.int .i64 b))(h:I64 (a - b)):Ev P n l w (.binOp .sub t x y ty) (.int .i64 (a - b)):=by
  have:=Ev.aGw (P:=P) (n:=n) (w:=w) (t:=t) (ty:=ty) hx hy; rwa [h.wrap] at this
theorem Ev.mul(hx:iG l x=some (.int .i64 a))(hy:iG l y=some (.int .i64 b))(h:I64 (a*b)):Ev P n l w (.binOp .mul t x y ty) (.int .i64 (a*b)):=by
  have:=Ev.aGx (P:=P) (n:=n) (w:=w) (t:=t) (ty:=ty) hx hy; rwa [h.wrap] at this
theorem Ev.neb{p q:Bool}(hu:P.underlying t=some .bool)(hx:iG l x=some (.bool p))(hy:iG l y=some (.bool q)):Ev P n l w (.binOp .neq t x y ty) (.bool (!(p == q))):=
  qG hx hy (eqGuard_at_bool ..) λw=>run_neq_bool w t p q hu
theorem Ev.aBz{m' c':Nat}(hu:P.underlying t=some (.slice e))(hx:iG l x=some (.slice A m c))(hy:iG l y=some (.slice none m' c')):Ev P n l w (.binOp .eql t x y ty) (.bool A.isNone):=
  qG hx hy (eqGuard_at_slice ..) λw=>Lib.run_eql_slice_nil w t e A m c m' c' hu
def Ov:=@Ev.aBz
theorem Ev.not{b:Bool}(hx:iG l x=some (.bool b)):Ev P n l w (.unOp .not t x) (.bool (!b)):=λo a w' ho ha _=>by
  unfold execOp; rw [ho]; simp [ha.eval hx]; rfl
def iB:=@Ev.not
theorem Ev.extract(hx:iG l x=some (.tuple vs.toArray))(hi:vs[i]? = some v):Ev P n l w (.extract x i) v:=λo a w' ho ha _=>by
  unfold execOp; rw [ho]; simp [ha.eval hx,Instr.extract,hi]
def wS:=@Ev.extract
theorem Ev.func{caps:List Operand}(hx:EW l caps=some vs):Ev P n l w (.makeFunc (.func f) #[] caps.toArray) (.func (.func f) #[] vs.toArray):=λo a w' ho ha _=>by
  have h2:=ha.UA hx;unfold execOp; rw [ho]
  simp only [tO,h2]
  rfl
def rW:=@Ev.func
theorem Ev.len(hu:P.underlying t=some (.slice e))(hx:iG l x=some (.slice A m c)):Ev P n l w (.call ⟨.builtin .len,#[x],#[t]⟩) (.int .i64 (m:Int)):=λo a w' ho ha _=>by
  unfold execOp; rw [ho]
  simp only [resolve,jF,kL,jG,invoke,builtin,tO,nG,wP,ha.eval hx,run_len_slice w' t o.type A m c (rV hu)]
  rfl
def eU:=@Ev.len
theorem Ev.cap(hu:P.underlying t=some (.slice e))(hx:iG l x=some (.slice A m c)):Ev P n l w (.call ⟨.builtin .cap,#[x],#[t]⟩) (.int .i64 (c:Int)):=λo a w' ho ha _=>by
  unfold execOp; rw [ho]
  simp only [resolve,jF,kL,jG,invoke,builtin,tO,nG,wP,ha.eval hx,run_cap_slice w' t o.type A m c (rV hu)]
  rfl
theorem Ev.index{kd:IntKind}{z:Int}(hu:P.underlying t=some (.slice e))(hs:Size P e k)(hx:iG l x=some (.slice A m c))(hy:iG l y=some (.int kd z))(hz:z=(i:Int))(hi:i<m)(hA:A=some (GN A)) :
    Ev P n l w (.indexAddr t x y) (.pointer (some ((GN A).add (i*k)))):=λo a w' ho ha _=>by
  unfold execOp; rw [ho]
  have h1:(Instr.indexAt t (.slice A m c) (.int kd z)).run P w'=.ok (.pointer (some ((GN A).add (i*k)))) w':=by
    rw [hA,run_indexAt_slice w' t _ m c kd z (rV hu),hz,aO ⟨aj,aj⟩,Dj hu,hs w']
    simp [GN]
  simp [ha.eval hx,ha.eval hy,h1]
def cu:=@Ev.index
theorem Ev.field{s f off:Nat}{p q:Addr}(hf:eu P s f off)(hx:iG l x=some (.pointer (some p)))(hq:p.add off=q):Ev P n l w (.fieldAddr s x f) (.pointer (some q)):=λo a w' ho ha _=>by
  unfold execOp; rw [ho]; simp [ha.eval hx,hf p w',hq]
def dW:=@Ev.field
theorem Ev.aoP{p:Addr}(hn:l9 P t)(hx:iG l x=some (.pointer (some p)))(hc:w.cell? p=some v):Ev P n l w (.load t x) v:=λo a w' ho ha e=>by
  unfold execOp; rw [ho]
  simp [ha.eval hx,Instr.loadAt,Instr.sureAddr,loadVar,hn w',run_load,e.cell hc]
def iL:=@Ev.aoP
theorem Ev.loadRow{p:Addr}(hn:Agg P t k)(hx:iG l x=some (.pointer (some p)))(hk:cs.length=k)(hc:∀ j u,cs[j]? = some u->w.cell? (p.add j)=some u):Ev P n l w (.load t x) (.agg cs.toArray):=λo a w' ho ha e=>by
  unfold execOp; rw [ho];have h1:=abL (P:=P) w' p cs (λj u hu=>e.cell (hc j u hu));rw [hk] at h1
  simp [ha.eval hx,Instr.loadAt,Instr.sureAddr,loadVar,hn.1 w',hn.2 w',h1]
def gI:=@Ev.loadRow
theorem Ev.at7(hn:Agg P t k)(hx:iG l x=some (.pointer (some ⟨g,0,none⟩)))(hk:cs.length=k)(hb:Bx w g t' cs):Ev P n l w (.load t x) (.agg cs.toArray):=
  gI hn hx hk λj u hu=>by
    have:(⟨g,0,none⟩:Addr).add j=⟨g,j,none⟩:=by rw [F6]; simp
    rw [this,hb.cell]; exact hu
def dU:=@Ev.at7
theorem Ev.aeH{off:Nat}{cs':List Value}(hn:Agg P t k)(hx:iG l x=some (.pointer (some ⟨g,off,none⟩)))(hk:cs'.length=k)(hb:Bx w g t' cs)(hs:(cs.drop off).take cs'.length=cs'):Ev P n l w (.load t x) (.agg cs'.toArray):=
  gI hn hx hk λj u hu=>by
    have h1:(⟨g,off,none⟩:Addr).add j=⟨g,off+j,none⟩:=by rw [F6]
    have h2:j<cs'.length:=(nP.1 hu).1;rw [h1,hb.cell];rw [<- hs,KN,aO h2,DW] at hu;exact hu
def D6:=@Ev.aeH
theorem Ev.aeI(hn:l9 P t)(hx:iG l x=some (.pointer (some ⟨g,i,none⟩)))(hb:Bx w g t' cs)(hi:cs[i]? = some v):Ev P n l w (.load t x) v:=
  iL hn hx (by rw [hb.cell]; exact hi)
def dx:=@Ev.aeI
theorem Ev.aua{d:TypeId}{k:IntKind}(hs:(P.underlying t).isSome=true)(hd:P.underlying d=some (.int (P.intKind d)))(hk:P.intKind d=k')(hx:iG l x=some (.int k a)):Ev P n l w (.convert t d x) (.int k' (k'.wrap a)):=λo ac w' ho ha _=>by
  unfold execOp; rw [ho];have:=run_convert_int w' t d k a hs hd;rw [hk] at this
  simp [ha.eval hx,this]
def Ir:=@Ev.aua
theorem Ev.max2{k:IntKind}(hx:iG l x=some (.int k a))(hy:iG l y=some (.int k' b)):Ev P n l w (.call ⟨.builtin .max,#[x,y],ts⟩) (.int k (if b>a then b else a)):=λo ac w' ho ha _=>by
  unfold execOp; rw [ho]
  simp only [resolve,jF,kL,jG,invoke,builtin,tO,nG,wP,ha.eval hx,ha.eval hy,run_max_int2]
theorem Ev.min2{k:IntKind}(hx:iG l x=some (.int k a))(hy:iG l y=some (.int k' b)):Ev P n l w (.call ⟨.builtin .min,#[x,y],ts⟩) (.int k (if b<a then b else a)):=λo ac w' ho ha _=>by
  unfold execOp; rw [ho]
  simp only [resolve,jF,kL,jG,invoke,builtin,tO,nG,wP,ha.eval hx,ha.eval hy,run_min_int2]
theorem Ev.build{vs:List (Nat × Value)}(hx:Qe l parts=some vs)(hb:P.built t vs=some cs.toArray):Ev P n l w (.build t parts.toArray) (.agg cs.toArray):=λo a w' ho ha _=>by
  unfold execOp; rw [ho];have h1:=run_build (P:=P) w' t vs.toArray cs.toArray (by simpa using hb)
  simp only [tO,ha.Qe hx,jF,h1,jG,kL]
def iY:=@Ev.build
end
end
theorem Sl.fF{pos:0<k}
    (h:Sl (Ty.flat k enc pos hl h1) S w A c xs) {x:α} (hx:xs[i]? = some x) (hj:(enc x)[j]? = some u):w.cell? ((GN A).add (i*k+j))=some u:=by
  obtain⟨_,cs,h2,h3⟩:=h.rows i x hx;have:cs=enc x:=h2;subst this;exact h3 j u hj
theorem Sl.fE{pos:0<k}
    (h:Sl (Ty.flat k enc pos hl h1) S w A c xs) {x:α} (hx:xs[i]? = some x):∀ j u,(enc x)[j]? = some u->w.cell? (((GN A).add (i*k)).add j)=some u:=λj u hj=>by
  rw [fH]; exact h.fF hx hj
section
variable {P:Program}{n:Cx}{l:List (Nat × Value)}{w:World}{Q:Exit->Act->World->Prop}{K:Act->World->Prop}{dh:Array Oper}{os:List Oper}{ty:TypeId}{pos:String}{mI:Array Edge}{d:Nat}
theorem WL.box(hx:iG l x=some v)(hcs:v.cells=cs.toArray)(hd:Nat.blt d n.size=true)
    (k:∀ w',Ext w w'->Bx w' w.heap.size t cs->w'.heap.size=w.heap.size+1->WL P n dh Q K os ((d,gD w.heap.size)::l) w'):WL P n dh Q K (⟨some d,.box t x,ty,pos,mI,none⟩::os) l w:=
  DZ (v:=gD w.heap.size) (λa _=>gH a) rfl hd (R:=λw'=>w'=w.alloc (.cells cs.toArray t)) (λa ha=>⟨_,by
    unfold execOp
    simp only [ha.eval hx,Instr.box,newVar,newRow,hcs,jF,run_newObj,kL,jG]
    rfl,rfl⟩) λw' e=>by
    subst e;exact k _ (Ext.alloc w _) (Bx.new w t cs) av
theorem WL.alloc{z:Value}(hz:∀ w,(zeroValue t).run P w=.ok z w)(hcs:z.cells=cs.toArray)(hd:Nat.blt d n.size=true)
    (k:∀ w',Ext w w'->Bx w' w.heap.size t cs->w'.heap.size=w.heap.size+1->WL P n dh Q K os ((d,gD w.heap.size)::l) w'):WL P n dh Q K (⟨some d,.alloc t,ty,pos,mI,none⟩::os) l w:=
  DZ (v:=gD w.heap.size) (λa _=>gH a) rfl hd (R:=λw'=>w'=w.alloc (.cells cs.toArray t)) (λa ha=>⟨_,by
    unfold execOp
    simp only [Instr.alloc,hz,newVar,newRow,hcs,jF,run_newObj,kL,jG]
    rfl,rfl⟩) λw' e=>by
    subst e;exact k _ (Ext.alloc w _) (Bx.new w t cs) av
theorem WL.buildSlice{vs:List (Nat × Value)}(hx:Qe l parts=some vs)
    (hb:∀ w,(Instr.buildSlice t m vs.toArray).run P w=.ok (.slice (some ⟨w.heap.size,0,none⟩) m m) (w.alloc (.cells cs.toArray e))) (hd:Nat.blt d n.size=true) (hk:cs.length=m*k)
    (kk:∀ w',Ext w w'->Bx w' w.heap.size e cs->w'.heap.size=w.heap.size+1->WL P n dh Q K os ((d,.slice (some ⟨w.heap.size,0,none⟩) m m)::l) w'):WL P n dh Q K (⟨some d,.buildSlice t m parts.toArray,ty,pos,mI,none⟩::os) l w:=
  DZ (v:=.slice (some ⟨w.heap.size,0,none⟩) m m) (λa _=>gH a) rfl hd (R:=λw'=>w'=w.alloc (.cells cs.toArray e)) (λa ha=>⟨_,by
    unfold execOp
    simp only [tO,ha.Qe hx,jF,hb,jG,kL],rfl⟩) λw' e=>by
    subst e;exact kk _ (Ext.alloc w _) (Bx.new w _ cs) av
theorem abP{ds:List Value}(hs:Size P t ds.length)(hb:Bx w g t' cs)(hl:cs.length=ds.length)(h1:∀ u∈ds,u.oneCell'=true)(hv:v.cells=ds.toArray) :
    ∃ w',(Instr.storeAt t (gD g) v).run P w=.ok () w'/\Mod g w w'/\Bx w' g t' ds/\w'.heap.size=w.heap.size:=by
  have hst:=Sz P g 0 t' ds 0 cs.toArray w hb (by simp [hl]) h1;refine⟨w.setRow g ds.toArray,?_,⟨Y,Y,Y,av,λk _ hn=>setRow_other w g k _ hn,kV _⟩,KO w g cs.toArray ds.toArray t' (0,0) hb,av⟩
  · simp only [Instr.storeAt,Instr.sureAddr,storeVar,hv,jF,kL,jG,hs w]
    simp only [OM,ne_eq,not_true_eq_false,if_false,jF,kL,jG]
    rw [hst];have hdrop:List.drop ds.length cs=[]:=List.drop_eq_nil_of_le aj
    simp [hdrop]
theorem WL.aoQ{ds:List Value}(hx:iG l x=some (gD g))(hy:iG l y=some v)(hv:v.cells=ds.toArray)(hs:Size P t ds.length)(hb:Bx w g t' cs)(hl:cs.length=ds.length)(h1:∀ u∈ds,u.oneCell'=true)
    (k:∀ w',Mod g w w'->Bx w' g t' ds->w'.heap.size=w.heap.size->WL P n dh Q K os l w'):WL P n dh Q K (⟨none,.store t x y,ty,pos,mI,none⟩::os) l w:=
  Qf (λa _=>gH a) rfl (R:=λw'=>Mod g w w'/\Bx w' g t' ds/\w'.heap.size=w.heap.size) (λa ha=>by
    obtain⟨w',h2,h3⟩:=abP (P:=P) (w:=w) hs hb hl h1 hv
    exact⟨w',by unfold execOp; simp [ha.eval hx,ha.eval hy,h2],h3⟩) λw' ⟨h3,h4,h5⟩=>k w' h3 h4 h5
theorem ZN(hs:Size P t 1)(hb:Bx w g t' cs)(hi:i<cs.length)(h1:v.oneCell'=true) :
    (Instr.storeAt t (.pointer (some ⟨g,i,none⟩)) v).run P w=.ok () (w.setCell ⟨g,i,none⟩ v):=by
  have hc:v.cells=#[v]:=by cases v <;> simp [Value.cells,Value.oneCell'] at h1 ⊢
  have h2:w.cell? ⟨g,i,none⟩=some (cs[i]'hi):=by rw [hb.cell]; exact qI hi
  simp only [Instr.storeAt,Instr.sureAddr,storeVar,hc,jF,kL,jG,hs w]
  simp [storeCells,Addr.add,run_store P w ⟨g,i,none⟩ v .plain h1,h2,hb.frozen]
theorem WL.al1(hx:iG l x=some (.pointer (some ⟨g,i,none⟩)))(hy:iG l y=some v)(h1:v.oneCell'=true)(hs:Size P t 1)(hb:Bx w g t' cs)(hi:i<cs.length)
    (k:∀ w',Mod g w w'->Bx w' g t' (cs.set i v)->w'.heap.size=w.heap.size->WL P n dh Q K os l w'):WL P n dh Q K (⟨none,.store t x y,ty,pos,mI,none⟩::os) l w:=
  Qf (λa _=>gH a) rfl (R:=λw'=>w'=w.setCell ⟨g,i,none⟩ v) (λa ha=>⟨_,by
    unfold execOp; simp [ha.eval hx,ha.eval hy,ZN (P:=P) hs hb hi h1],rfl⟩) λw' e=>by
    subst e;exact k _ (Mod.setCell w ⟨g,i,none⟩ v) (hb.aGs i v) av
structure lW (P:Program) (e:TypeId) (k bytes:Nat):Prop where
  ex:∃(i:TypeInfo)(z:Value),P.info? e=some i/\i.zero=some z/\i.size=k/\i.bytes=bytes/\z.cells.size=k
theorem ahV{c2:Nat}(hT:P.underlying t=some (.slice e))(hI:lW P e τ.k bytes)
    (ho:Own τ e lo S w A c xs) (hy:Sl τ S2 w B c2 ys) (aeJ:∀ w x cs,τ.R S2 w x cs->τ.R S w x cs) (hS:∀ g,blk A=some g->¬ S g) (hmax:xs.length+ys.length<=maxLen) (hby:(xs.length+ys.length)*bytes<=140737488355328) (hlo:lo<=w.heap.size) (r:TypeId) :
    ∃ A' c' w',(Builtin.append_ #[t,t] r #[.slice A xs.length c,.slice B ys.length c2]).run P w=.ok (.slice A' (xs++ys).length c') w'/\Own τ e lo S w' A' c' (xs++ys)/\Og w w' (blk A)/\(blk A'=blk A∨blk A'=some w.heap.size):=by
  obtain⟨i,z,hi,hz,hsz,hb,hzs⟩:=hI.ex;have hblk:∀ m c,(Value.slice A m c).ownBlock=blk A:=by intro m c; cases A <;> rfl
  by_cases hys:ys=[]
  · subst hys
    obtain⟨css,hl,hR,hown⟩:=ho;refine⟨A,c,w,?_,?_,⟨Y,Y,Y,kV _,λ_ _ _=>Y,kV _⟩,.inl Y⟩
    · rcases hown.2 with ⟨hv,hn⟩ | ⟨g,cap,cur,hv,_,_,hnc,_⟩
      · injection hv with hA hn' hc
        subst hA hc
        cases B <;> simp [Builtin.append_,kQ hT,sizeOf,typeInfo,hi,Builtin.lenOf,hn,Builtin.firstCells,loadCells,loadCellsFrom]
      · injection hv with hA hn' hc
        subst hA hc
        cases B <;> simp [Builtin.append_,kQ hT,sizeOf,typeInfo,hi,Builtin.lenOf,hnc,Builtin.firstCells,loadCells,loadCellsFrom,storeCells]
    · rw [yN]
      exact⟨css,hl,hR,hown⟩
  · have hB:B=some (GN B):=hy.some_ (i:=0) (x:=ys.head hys) (by cases ys with | nil=>exact absurd rfl hys | cons y ys=>rfl)
    obtain⟨css,hl,hR,hown⟩:=ho;obtain⟨dss,h1,h2,h3,h4,h5⟩:=hy.cells;obtain⟨v',w',hrun,hown',hg,_,hat⟩:=run_append_own_at (P:=P) w lo t r e i z τ.k bytes hT hi hz hsz hb hzs τ.pos _ _ _ hown (GN B) ys.length c2 dss.flatten h3 h5 h4 hmax hby hlo
    obtain⟨A',c',hv⟩:∃ A' c',v'=.slice A' (xs++ys).length c':=by
      rcases hown'.2 with ⟨hv,hn⟩ | ⟨g,cap,cur,hv,_⟩
      · exact⟨none,0,by rw [hv,jd,hn]⟩
      · exact⟨_,_,by rw [hv,jd]⟩
    subst hv;have hA':(Value.slice A' (xs++ys).length c').ownBlock=blk A':=by cases A' <;> rfl
    rw [hA',hblk] at hat;rw [hblk] at hg;have hg:=Og.of hg (alW _ _ _ _ hrun)
    have hkeep:∀ x cs,τ.R S w x cs->τ.R S w' x cs:=by
      intro x cs hx
      cases hA:blk A with
      | none=>rw [hA] at hg; exact τ.ext (Ext.DU hg (λk hk=>by cases hk)) hx
      | some g=>rw [hA] at hg; exact τ.mod (alX hg (λk hk=>by cases hk; rfl)) (hS g hA) hx
    refine⟨A',c',w',by rw [hB]; exact hrun,⟨css++dss,by simp [hl,h1],?_,?_⟩,hg,hat⟩
    · intro i x hx
      by_cases hix:i<xs.length
      · rw [P9 hix] at hx
        obtain⟨cs,h6,h7⟩:=hR i x hx;exact⟨cs,by rw [P9 aj]; exact h6,hkeep x cs h7⟩
      · rw [Qb aj] at hx
        obtain⟨cs,h6,h7⟩:=h2 _ x hx;exact⟨cs,by rw [Qb aj,hl]; exact h6,hkeep x cs (aeJ w x cs h7)⟩
    · rw [List.flatten_append]
      have:(xs++ys).length=xs.length+ys.length:=by simp
      rw [this] at hown' ⊢;exact hown'
theorem WL.append{c2:Nat}{s:Operand}(hs:iG l s=some (.slice A xs.length c))(hx:iG l x=some (.slice B ys.length c2))
    (ho:Own τ e lo S w A c xs) (hy:Sl τ S2 w B c2 ys) (hT:P.underlying t=some (.slice e)) (hI:lW P e τ.k bytes) (aeJ:∀ w x cs,τ.R S2 w x cs->τ.R S w x cs) (hS:∀ g,blk A=some g->¬ S g)
    (hmax:xs.length+ys.length<=maxLen) (hby:(xs.length+ys.length)*bytes<=140737488355328) (hlo:lo<=w.heap.size) (hd:Nat.blt d n.size=true)
    (k:∀ A' c' w',Own τ e lo S w' A' c' (xs++ys)->Og w w' (blk A)->(blk A'=blk A∨blk A'=some w.heap.size)->WL P n dh Q K os ((d,.slice A' (xs++ys).length c')::l) w') :
    WL P n dh Q K (⟨some d,.call ⟨.builtin .append,#[s,x],#[t,t]⟩,ty,pos,mI,none⟩::os) l w:=by
  obtain⟨A',c',w',hrun,h1,h2,h3⟩:=ahV (P:=P) (w:=w) hT hI ho hy aeJ hS hmax hby hlo ty
  refine DZ (v:=.slice A' (xs++ys).length c') (λa _=>gH a) Y hd (R:=λw2=>w2=w') (λa ha=>⟨w',?_,Y⟩) λw2 e=>by rw [e]; exact k A' c' w' h1 h2 h3
  unfold execOp
  simp only [resolve,jF,kL,jG,invoke,builtin,tO,nG,wP,ha.eval hs,ha.eval hx,hrun]
theorem WL.app{c2:Nat}{s:Operand}(hs:iG l s=some (.slice A xs.length c))(hx:iG l x=some (.slice B ys.length c2))
    (ho:Own τ e lo S w A c xs) (hy:Sl τ S2 w B c2 ys) (hT:P.underlying t=some (.slice e)) (hI:lW P e τ.k bytes) (aeJ:∀ w x cs,τ.R S2 w x cs->τ.R S w x cs) (hS:∀ g,blk A=some g->¬ S g)
    (hm1:xs.length<=1000000) (hm2:ys.length<=1000000) (hby:Nat.ble bytes 1000=true) (hlo:lo<=w.heap.size) (hd:Nat.blt d n.size=true)
    (k:∀ A' c' w',Own τ e lo S w' A' c' (xs++ys)->Og w w' (blk A)->(blk A'=blk A∨blk A'=some w.heap.size)->WL P n dh Q K os ((d,.slice A' (xs++ys).length c')::l) w') :
    WL P n dh Q K (⟨some d,.call ⟨.builtin .append,#[s,x],#[t,t]⟩,ty,pos,mI,none⟩::os) l w:=
  WL.append hs hx ho hy hT hI aeJ hS (by simp only [maxLen]; omega) (lV (Nat.mul_le_mul (show _<=2000000 by omega) (pU hby)) au) hlo hd k
end
def No:Nat->Prop:=λ_=>False
theorem Own.fr{a:World}(h:Own τ e lo No w A c xs)(hlo:a.heap.size<=lo):Sl τ (Fr a) w A c xs:=
  h.sl (λ_ hb=>lV hlo hb) (λ_ hb=>hb.elim)
theorem Bx.ahW{x:α}(h:Bx w g e cs)(hR:τ.R S2 w x cs)(hg:S g)(hS:∀ b,S2 b->S b):Sl τ S w (some ⟨g,0,none⟩) 1 [x]:=by
  refine⟨av,by simp [maxLen],(λh=>by cases h),λi y hy=>?_⟩
  cases i with
  | succ i=>simp at hy
  | zero=>
    simp at hy
    subst hy;refine⟨hg,cs,τ.sub hS hR,λj u hu=>?_⟩;have:(GN (some ⟨g,0,none⟩)).add (0*τ.k+j)=⟨g,j,none⟩:=by simp [GN,F6]
    rw [this,h.cell];exact hu
theorem Bx.al2(h:Bx w g e [])(hlo:lo<=g):Own τ e lo S w (some ⟨g,0,none⟩) 0 []:=
  ⟨[],rfl,λi x hx=>by simp at hx,av,.inr ⟨g,0,#[],rfl,hlo,h,kV _,by simp [maxLen],av,av⟩⟩
theorem Bx.aub{x:α}(h:Bx w g e cs)(hR:τ.R S w x cs)(hlo:lo<=g):Own τ e lo S w (some ⟨g,0,none⟩) 1 [x]:=by
  have hl:=τ.len hR;refine⟨[cs],Y,λi y hy=>?_,by simp [hl],.inr ⟨g,1,cs.toArray,rfl,hlo,h,kV _,by simp [maxLen],by simp [hl],by simp [<- hl]⟩⟩
  cases i with
  | succ i=>simp at hy
  | zero=>simp at hy; subst hy; exact⟨cs,rfl,hR⟩
def Apart(A B:ah):Prop:=∀ g,blk A=some g->blk B≠some g
theorem Own.grown{w':World}(h:Own τ e lo S w A c xs)(hg:Og w w' (blk B))(ap:Apart A B)(hS:∀ g,blk B=some g->¬ S g):Own τ e lo S w' A c xs:=by
  cases hB:blk B with
  | none=>rw [hB] at hg; exact h.ext (Ext.DU hg (λk hk=>by cases hk))
  | some g=>
    rw [hB] at hg;exact h.mod (alX hg (λk hk=>by cases hk; rfl)) (hS g hB) (λhA=>ap g hA hB)
def Only(K:Act->World->Prop):Exit->Act->World->Prop
  | .normal,a,w=>K a w
  | _,_,_=>False
def WH(P:Program)(n:Cx)(dh:Array Oper)(K:Act->World->Prop)(S:World->Prop)(fuel:Nat)(aX:Array Bool)(l:List (Nat × Value))(w:World):Prop:=
  ∀ a,Has n l a->wpAnyH P .any dh (Only K) S fuel aX a w
def HK(P:Program)(dh:Array Oper)(K:Act->World->Prop)(S:World->Prop)(fuel:Nat)(aX:Array Bool):Act->World->Prop:=
  λa w=>S w/\wpAnyH P .any dh (Only K) S fuel aX a w
def JK(n:Cx)(J:List (Nat × Value)->World->Prop):Act->World->Prop:=λa w=>∃ l,Has n l a/\J l w
section
variable {P:Program}{n:Cx}{l l':List (Nat × Value)}{w w':World}{Q:Exit->Act->World->Prop}{K:Act->World->Prop}{dh:Array Oper}{S:World->Prop}{fuel:Nat}{aX:Array Bool}
theorem WP.held{id:Nat}{y:Code}(S:World->Prop)(J:List (Nat × Value)->World->Prop)(hm:P.follows .mixedOrders=true)
    (h:WH P n ol.toArray (JK n J) S ol.length (List.replicate ol.length false).toArray l w.drew) (k:∀ l' w',J l' w'->WP P n y l' w' Q) (hro:n.round=none:=by rfl):WP P n (.seq (.region id ol.toArray true) y) l w Q:=λa ha=>by
  refine Uz ?_;have e:n.fence=Fence.wide:=V9 hro
  suffices hx:(Code.region id ol.toArray true).wp P (Exit.then (Ot P n y Q) Q) a w by
    show(Code.region id ol.toArray true).wpIn n.fence 0 P (Exit.then (Ot P n y Q) Q) a w;rw [e];exact Oq.2 hx
  refine wp_mono (wp_region_held (Q:=Only (JK n J)) (S:=S) hm ?_) ?_
  · have:=h a ha
    simpa using this
  · intro e a' w' hq
    cases e with
    | normal=>obtain⟨l',h1,h2⟩:=hq; exact k l' w' h2 a' h1
    | _=>exact hq.elim
theorem WP.aoR{id:Nat}(S:World->Prop)(J:List (Nat × Value)->World->Prop)(hm:P.follows .mixedOrders=true)
    (h:WH P n ol.toArray (JK n J) S ol.length (List.replicate ol.length false).toArray l w.drew) (k:∀ l' w',J l' w'->l8 n Q .normal l' w') (hro:n.round=none:=by rfl):WP P n (.region id ol.toArray true) l w Q:=λa ha=>by
  rw [V9 hro];refine Oq.2<|wp_mono (wp_region_held (Q:=Only (JK n J)) (S:=S) hm ?_) ?_
  · have:=h a ha
    simpa using this
  · intro e a' w' hq
    cases e with
    | normal=>obtain⟨l',h1,h2⟩:=hq; exact k l' w' h2 a' h1
    | _=>exact hq.elim
theorem WH.done{J:List (Nat × Value)->World->Prop}(l':List (Nat × Value))(hr:Region.ready .any dh aX=[])(hs:alY l l')(hJ:J l' w):WH P n dh (JK n J) S fuel aX l w:=
  λ_ ha=>wpAnyH_done hr ⟨l',ha.subs hs,hJ⟩ fuel
theorem WH.all{rs:List Nat}(hr:Region.ready .any dh aX=rs)(hne:rs≠[])
    (h:∀ i∈rs,∃ o,dh[i]? = some o/\WL P n.BA dh (Only K) (HK P dh K S fuel (aX.setIfInBounds i true)) [o] l w):WH P n dh K S (fuel+1) aX l w:=λa ha=>
  wpAnyH_all hr hne λi hi=>by
    obtain⟨o,ho,hk⟩:=h i hi;have h1:=hk a ⟨ha.defers,ha.size,ha.get⟩;unfold Wj at h1;unfold wpOp;rw [ho];show(if Region.wanted o (yielded dh a.tmps) then _ else _)
    split
    · rename_i hw
      rw [aO hw] at h1;exact .inl h1
    · rename_i hw
      rw [aK hw] at h1;exact h1
def yO:=@WH.all
theorem WH.next(hS:S w)(h:WH P n dh K S fuel aX l w):WL P n.BA dh (Only K) (HK P dh K S fuel aX) [] l w:=λa ha=>⟨hS,h a ⟨ha.defers,ha.size,ha.get⟩⟩
def aQ:=@WH.next
end
section
variable {P:Program}{n:Cx}{l:List (Nat × Value)}{w:World}{Q:Exit->Act->World->Prop}{K:Act->World->Prop}{dh:Array Oper}{os:List Oper}{ty:TypeId}{pos:String}{mI:Array Edge}{d:Nat}
theorem SA(τ:Ty α){ti:TypeId}(hT:P.underlying t=some (.slice e))(hi:P.underlying ti=some (.int .i64))(hI:lW P e τ.k bytes)(m:Nat)(h0:0<m)(hm:m<=1000000)(hby:Nat.ble bytes 1000=true)(r:TypeId) :
    ∃ g c w',(Builtin.append_ #[t,ti] r #[.slice none 0 0,aF (m:Int)]).run P w=.ok (.slice (some ⟨g,0,none⟩) m c) w'/\Ext w w'/\Own τ e w.heap.size No w' (some ⟨g,0,none⟩) c []:=by
  obtain⟨i,z,h1,h2,h3,h4,h5⟩:=hI.ex
  have hb:bytes<=1000:=pU hby
  have hw:IntKind.i64.wrap (m:Int)=(m:Int):=(wQ aj aj).wrap;have hmb:m*bytes<=1000000*1000:=Nat.mul_le_mul hm hb
  have aLx:(m:Int)*(bytes:Int)<=1000000000:=by
    have:((m*bytes:Nat):Int)<=1000000000:=aj
    rwa [Int.natCast_mul] at this
  have hnx:Builtin.nextslicecap m 0=m:=nextslicecap_zero h0;have hz1:z.cells.size=τ.k:=h5;refine⟨w.heap.size,grownCap w m 0 e,(w.drew).alloc (.cells ((#[]:Array Value)++Builtin.zeroCells z.cells m++Builtin.zeroCells z.cells (grownCap w m 0 e - m)) e),?_,?_,?_⟩
  · have hcond:¬ (m:Int)*(bytes:Int)>2 ^ 48:=aj
    have ayf:¬ m*bytes>2 ^ 48:=aj;have hf:(Question.appendCap m 0 e).forced=false:=rfl
    have hne:¬ m*τ.k=0:=by
      have:=τ.pos;intro h
      rcases Nat.mul_eq_zero.1 h with h | h <;> omega
    have hmx:¬ (IntKind.i64.max<(m:Int)):=by
      have e2:IntKind.i64.max=9223372036854775807:=au;omega
    simp [Builtin.append_,kQ hT,kQ hi,sizeOf,typeInfo,h1,h2,h3,h4,asInt,asIntOf,hw,zeroValue,Builtin.firstCells,newRow,hne,hf,hnx,ayf,hmx]
    have hm0:¬ (m:Int)<0:=aj;have hm1:¬ (281474976710656<(m:Int)*(bytes:Int)):=aj;have hm2:¬ (m<=0):=aj;have hm3:¬ (m=0):=aj;have hm4:¬ (281474976710656<m*bytes):=aj;have hm5:¬ (9223372036854775807<(m:Int)):=aj
    simp [hm0,hm1,hm2,hm3,hm4,hm5,grownCap]
  · exact⟨Y,Y,Y,av,λk hk=>Below.heap_alloc w.drew _ k hk,abH _⟩
  · have hge:=grownCap_ge w m 0 e
    have hle:=grownCap_le_maxLen w m 0 e (by simp only [maxLen]; omega);refine⟨[],Y,λi x hx=>by simp at hx,av,.inr ⟨w.heap.size,_,_,rfl,kV _,heap_alloc_new w.drew _,fJ _,hle,?_,av⟩⟩
    simp only [Array.size_append,OM,rH,J5,size_zeroCells,hz1,<- rD]
    congr 1
    omega
theorem WL.aeK(τ:Ty α){ti:TypeId}{s:Operand}(hs:iG l s=some (.slice none 0 0))(hx:iG l x=some (aF (m:Int)))(hT:P.underlying t=some (.slice e))(hi:P.underlying ti=some (.int .i64))(hI:lW P e τ.k bytes)(h0:0<m)(hm:m<=1000000)(hby:Nat.ble bytes 1000=true)(hd:Nat.blt d n.size=true)
    (k:∀ g c w',Ext w w'->Own τ e w.heap.size No w' (some ⟨g,0,none⟩) c []->WL P n dh Q K os ((d,.slice (some ⟨g,0,none⟩) m c)::l) w') :
    WL P n dh Q K (⟨some d,.call ⟨.builtin .append,#[s,x],#[t,ti]⟩,ty,pos,mI,none⟩::os) l w:=by
  obtain⟨g,c,w',hrun,h1,h2⟩:=SA (P:=P) (w:=w) τ hT hi hI m h0 hm hby ty
  refine DZ (v:=.slice (some ⟨g,0,none⟩) m c) (λa _=>gH a) Y hd (R:=λw2=>w2=w') (λa ha=>⟨w',?_,Y⟩) λw2 e=>by rw [e]; exact k g c w' h1 h2
  unfold execOp
  simp only [resolve,jF,kL,jG,invoke,builtin,tO,nG,wP,ha.eval hs,ha.eval hx,hrun]
end
def ayg(n:Cx)(J:Nat->List (Nat × Value)->World->Prop)(a:Act)(w:World):Prop:=∃ m l,Has n l a/\J m l w
section
variable {P:Program}{n:Cx}{l:List (Nat × Value)}{w:World}{Q:Exit->Act->World->Prop}
theorem al3{c:Code}{a:Act}{R R':Act->World->Prop}(h:c.wpIn n.fence 0 P (Exit.jump lb R Q) a w)(hr:∀ a w,R a w->R' a w):c.wpIn n.fence 0 P (Exit.jump lb R' Q) a w:=by
  refine wpIn_mono h ?_;intro e a' w' hq
  cases e with
  | goto l'=>exact⟨hq.1,hr _ _ hq.2⟩
  | _=>exact hq
theorem WP.jumps{c rest:Code}(J:Nat->List (Nat × Value)->World->Prop)(hf:findLabel c lb=some (.seq .skip rest))
    (pass:∀ m l w,J m l w->WP P n rest l w (Exit.jump lb (Again n J m) Q))
    (first:(∀ m l w,J m l w->WP P n (.seq (.label lb) rest) l w (Exit.jump lb (ayg n J) Q))->WP P n c l w (Exit.jump lb (ayg n J) Q)) (hro:n.round=none:=by rfl):WP P n (.scope c) l w Q:=by
  intro a ha;have e:n.fence=Fence.wide:=V9 hro;rw [e];refine Oq.2<|wp_scope_jumps lb (ayg n J) (λa w=>leastOf λm=>∃ l,Has n l a/\J m l w) hf ?_ ?_
  · have h1:=first ?_ a ha
    · rw [e] at h1; exact Oq.1 h1
    · intro m l w hJ a ha
      refine Uz (wpIn_label ?_);exact al3 (pass m l w hJ a ha) λa w ⟨m',l',_,h1,h2⟩=>⟨m',l',h1,h2⟩
  · intro a w hJ
    obtain⟨⟨l,h1,h2⟩,_⟩:=leastOf_spec (p:=λm=>∃ l,Has n l a/\J m l w) hJ;refine wp_seq (wp_skip ?_);have h6:=pass _ l w h2 a h1;rw [e] at h6;refine wp_mono (Oq.1 h6) ?_;intro e' a' w' hq
    cases e' with
    | goto l'=>
      refine⟨hq.1,?_⟩;obtain⟨m',l',hlt,h3,h4⟩:=hq.2;exact⟨⟨m',l',h3,h4⟩,abM ((leastOf_spec (p:=λm=>∃ l,Has n l a'/\J m l w') ⟨m',l',h3,h4⟩).2 m' ⟨l',h3,h4⟩) hlt⟩
    | _=>exact hq
theorem l8.Wu{R:Act->World->Prop}(h:l8 n Q .ret l w):l8 n (Exit.jump lb R Q) .ret l w:=λa ha=>h a ha
theorem l8.aaz{R:Act->World->Prop}(h:l8 n Q .normal l w):l8 n (Exit.jump lb R Q) .normal l w:=λa ha=>h a ha
theorem WP.goto(h:l8 n Q (.goto i) l w):WP P n (.goto i) l w Q:=λa ha=>wpIn_goto (h a ha)
end
def Ty.list{α:Type}(τ:Ty α):Ty (List α) where
  k:=1
  pos:=au
  R:=λS w xs cs=>∃ A c,cs=[.slice A xs.length c]/\Sl τ S w A c xs
  len:=fun⟨A,c,h,_⟩=>by rw [h]; rfl
  one:=fun⟨A,c,h,_⟩=>by rw [h]; intro u hu; simp at hu; rw [hu]; rfl
  keep:=λm ⟨A,c,h,hs⟩=>⟨A,c,h,hs.keep m⟩
  sub:=λhS ⟨A,c,h,hs⟩=>⟨A,c,h,hs.sub hS⟩
  bd:=fun⟨A,c,h,hs⟩=>⟨A,c,h,hs.bd⟩
def tQ(A:ah)(c lo k:Nat):Option Addr:=if c=lo then A else A.map (·.add (lo*k))
theorem Nn(A:ah)(c k:Nat):tQ A c 0 k=A:=by
  unfold tQ
  split
  · rfl
  · cases A <;> simp [Addr.add_zero']
theorem Sl.cut(h:Sl τ S w A c xs)(h1:lo<=hi)(h2:hi<=xs.length):Sl τ S w (tQ A c lo τ.k) (c - lo) ((xs.take hi).drop lo):=by
  have hc:=h.cap;refine⟨by simp only [kW,fO]; omega,by have:=h.max; omega,?_,?_⟩
  · intro hn
    unfold tQ at hn
    split at hn
    · omega
    · have:=h.nil (by simpa using hn); omega
  · intro i x hx
    rw [DW,KN] at hx
    split at hx
    · rename_i hlt
      obtain⟨hS,cs,hR,hcs⟩:=h.rows _ x hx;have hA:=h.some_ hx;have hne:¬ c=lo:=aj
      have ha:GN (tQ A c lo τ.k)=(GN A).add (lo*τ.k):=by
        unfold tQ;rw [aK hne,hA]
        simp [GN]
      rw [ha,Di];refine⟨hS,cs,hR,λj u hu=>?_⟩;rw [fH];have:=hcs j u hu
      rwa [show(lo+i)*τ.k+j=lo*τ.k+(i*τ.k+j) from by rw [rD]; omega] at this
    · cases hx
theorem Sl.ajU(h:Sl τ S w A c xs)(h2:hi<=xs.length):Sl τ S w A c (xs.take hi):=by
  have:=h.cut (lo:=0) (fJ _) h2
  rwa [Nn,Qc,List.drop_zero] at this
theorem Sl.cutFrom(h:Sl τ S w A c xs)(h1:lo<=xs.length):Sl τ S w (tQ A c lo τ.k) (c - lo) (xs.drop lo):=by
  have:=h.cut h1 (kV _)
  rwa [Wp] at this
theorem Own.take(h:Own τ e lo S w A c xs)(h2:hi<=xs.length):Own τ e lo S w A c (xs.take hi):=by
  obtain⟨css,hl,hR,hown⟩:=h;have hk:=Vm hl hR;have hlen:(xs.take hi).length=hi:=by simp only [fO]; omega
  have aw7:∀(cs:List (List Value))(m:Nat),(∀ c∈cs,c.length=τ.k)->(cs.take m).flatten=cs.flatten.take (m*τ.k):=by
    intro cs
    induction cs with
    | nil=>intro m _; simp
    | cons c0 cs ih=>
      intro m hm
      cases m with
      | zero=>simp
      | succ m=>
        have h0:=hm c0 av;have e1:c0.take ((m+1)*τ.k)=c0:=iH (by rw [h0,rD]; omega);have e2:(m+1)*τ.k - τ.k=m*τ.k:=by rw [rD]; omega
        rw [abN,CV,CV,ih m (λc hc=>hm c (by simp [hc])),Wq,e1,h0,e2]
  refine⟨css.take hi,by simp only [fO,hl],λi x hx=>?_,?_⟩
  · rw [KN] at hx
    split at hx
    · rename_i hlt
      obtain⟨cs,h3,h4⟩:=hR i x hx;exact⟨cs,by rw [KN,aO hlt]; exact h3,h4⟩
    · cases hx
  · rw [hlen]
    refine⟨?_,?_⟩
    · rw [aw7 css hi hk,fO,hown.1]
      exact F7 (vH _ h2)
    · rcases hown.2 with ⟨hv,hn⟩ | ⟨g,cap,cur,hv,hg,hh,hnc,hcm,hcs,ht⟩
      · left
        injection hv with hA hn' hc
        subst hA hc;have:hi=0:=aj;subst this;exact⟨Y,Y⟩
      · right
        injection hv with hA hn' hc
        subst hA hc;refine⟨g,c,cur,Y,hg,hh,aj,hcm,hcs,?_⟩;rw [aw7 css hi hk,<- ht,KP,F7 (vH _ h2)]
section
variable {P:Program}{n:Cx}{l:List (Nat × Value)}{w:World}{t e:TypeId}{x:Operand}
theorem Ev.ajU{kh:IntKind}{zh:Int}{yh:Operand}(hu:P.underlying t=some (.slice e))(hs:Size P e k)(hx:iG l x=some (.slice A xs.length c))(hh:iG l yh=some (.int kh zh))
    (h2:zh=(hi:Int)) (h4:hi<=xs.length) (h5:xs.length<=c):Ev P n l w (.slice t x none (some yh) none) (.slice A (xs.take hi).length c):=λo a w' ho ha _=>by
  have hlen:(xs.take hi).length=hi:=by simp only [fO]; omega
  have hcz:=Nn A c k;unfold tQ at hcz;unfold execOp; rw [ho]
  have h6:(Instr.sliceAt t (.slice A xs.length c) none (some (.int kh zh)) none).run P w'=.ok (.slice A hi c) w':=by
    rw [OO w' t _ _ _ _ (rV hu),run_slice_h w' t A xs.length c (rV hu) kh zh aj aj,Dj hu,hs w',h2]
    simp only [jG,sliced,Ws,Qc]
    rw [hcz]
  simp [ha.eval hx,ha.eval hh,h6,hlen]
def F9:=@Ev.ajU
theorem Ev.Vn{kh:IntKind}{zh:Int}{yh:Operand}(hu:P.underlying t=some (.slice e))(hs:Size P e k)(hx:iG l x=some (.slice A m c))(hh:iG l yh=some (.int kh zh))(h2:zh=0):Ev P n l w (.slice t x none (some yh) none) (.slice A 0 c):=λo a w' ho ha _=>by
  have hcz:=Nn A c k;unfold tQ at hcz;unfold execOp; rw [ho]
  have h6:(Instr.sliceAt t (.slice A m c) none (some (.int kh zh)) none).run P w'=.ok (.slice A 0 c) w':=by
    rw [OO w' t _ _ _ _ (rV hu),run_slice_h w' t A m c (rV hu) kh zh aj aj,Dj hu,hs w',h2]
    simp only [jG,sliced,Int.toNat_zero,Qc]
    rw [hcz]
  simp [ha.eval hx,ha.eval hh,h6]
theorem Ev.cutFrom{kl:IntKind}{zl:Int}{yl:Operand}(hu:P.underlying t=some (.slice e))(hs:Size P e k)(hx:iG l x=some (.slice A xs.length c))(hl:iG l yl=some (.int kl zl))
    (h1:zl=(lo:Int)) (h3:lo<=xs.length) (h5:xs.length<=c):Ev P n l w (.slice t x (some yl) none none) (.slice (tQ A c lo k) (xs.drop lo).length (c - lo)):=λo a w' ho ha _=>by
  have hlen:(xs.drop lo).length=xs.length - lo:=by simp only [kW]
  unfold execOp; rw [ho]
  have h6:(Instr.sliceAt t (.slice A xs.length c) (some (.int kl zl)) none none).run P w'=.ok (.slice (tQ A c lo k) (xs.length - lo) (c - lo)) w':=by
    rw [OO w' t _ _ _ _ (rV hu),run_slice_l w' t A xs.length c (rV hu) kl zl aj aj,Dj hu,hs w',h1]
    simp [sliced,tQ]
  simp [ha.eval hx,ha.eval hl,h6,hlen]
def Gf:=@Ev.cutFrom
end
theorem ajV:FloatKind.f64.nearest 0=0:=by decide +kernel
def fb(n:Nat):Nat:=FloatKind.f64.nearest (n:Int)
theorem abQ:∀ n,n<130->FloatKind.f64.format.add (fb n) 4607182418800017408=some (fb (n+1)):=by decide +kernel
theorem Vo:∀ n,n<130->FloatKind.f64.format.add (fb n) 0=some (fb n):=by decide +kernel
theorem aoS:∀ n,n<130->(FloatKind.f64.decode (fb n)).toInt .zero=some (n:Int):=by decide +kernel
theorem ayh:∀ n,n<70->∀ m,m<70->((FloatKind.f64.format.order (fb n) (fb m) == some .gt||FloatKind.f64.format.order (fb n) (fb m) == some .eq)=decide (m<=n)):=by decide +kernel
section
variable {P:Program}{n:Cx}{l:List (Nat × Value)}{w:World}{t ty:TypeId}{x y:Operand}
theorem Ev.auc{e f:Nat}(hx:iG l x=some (.complex .f64 a b))(hy:iG l y=some (.complex .f64 c d))(h1:FloatKind.f64.format.add a c=some e)(h2:FloatKind.f64.format.add b d=some f):Ev P n l w (.binOp .add t x y ty) (.complex .f64 e f):=
  qG hx hy (eqGuard_at_complex ..) λw=>by
    simp [binOp,Op.complexOp,Op.Complex.arith,Op.floatArith,h1,h2]
theorem Ev.real(hx:iG l x=some (.complex .f64 a b)):Ev P n l w (.call ⟨.builtin .real,#[x],ts⟩) (.float .f64 a):=λo ac w' ho ha _=>by
  unfold execOp; rw [ho]
  simp only [resolve,jF,kL,jG,invoke,builtin,tO,nG,wP,ha.eval hx]
  rfl
theorem Ev.imag(hx:iG l x=some (.complex .f64 a b)):Ev P n l w (.call ⟨.builtin .imag,#[x],ts⟩) (.float .f64 b):=λo ac w' ho ha _=>by
  unfold execOp; rw [ho]
  simp only [resolve,jF,kL,jG,invoke,builtin,tO,nG,wP,ha.eval hx]
  rfl
theorem Ev.aBA{d:TypeId}(hs:∃ k,P.underlying t=some k)(hd:P.underlying d=some (.int .i64))(hx:iG l x=some (.float .f64 a))(hm:(FloatKind.f64.decode a).toInt .zero=some (m:Int))(hb:m<9223372036854775808):Ev P n l w (.convert t d x) (.int .i64 (m:Int)):=λo ac w' ho ha _=>by
  unfold execOp; rw [ho];obtain⟨k,hk⟩:=hs
  have h1:IntKind.i64.min<=(m:Int)/\(m:Int)<=IntKind.i64.max:=by
    have e1:IntKind.i64.min=-9223372036854775808:=au;have e2:IntKind.i64.max=9223372036854775807:=au;omega
  have h2:(Conv.floatToInt .f64 a .i64).run P w'=.ok (.int .i64 (m:Int)) w':=by
    simp only [Conv.floatToInt,hm]
    rw [aO h1]
    rfl
  simp [ha.eval hx,convert,kQ hk,kQ hd,h2]
theorem Ev.aGz{d:TypeId}{k:IntKind}{z:Int}(hs:∃ k,P.underlying t=some k)(hd:P.underlying d=some (.float .f64))(hx:iG l x=some (.int k z))(hm:z=(m:Int)):Ev P n l w (.convert t d x) (.float .f64 (fb m)):=λo ac w' ho ha _=>by
  unfold execOp; rw [ho];obtain⟨k,hk⟩:=hs
  simp [ha.eval hx,convert,kQ hk,kQ hd,Conv.intToFloat,hm,fb]
theorem Ev.aGA(ha:a<70)(hb:b<70)(hx:iG l x=some (.float .f64 (fb a)))(hy:iG l y=some (.float .f64 (fb b))):Ev P n l w (.binOp .geq t x y ty) (.bool (decide (b<=a))):=
  qG hx hy (eqGuard_at_float ..) λw=>by
    have:=ayh a ha b hb
    simp [binOp,Op.floatCmp,this]
end
end Go.Proofs.YtlhnnmlenkahlaaGreat
namespace Go.Proofs.YtlhnnmlenkahlaaGreat
theorem fD{α:Type}{xs:List α}{k:Nat}{x:α}(h:xs[k]? = some x):xs.take (k+1)=xs.take k++[x]:=by
  rw [List.take_add_one,h]; rfl
theorem bT{α:Type}{xs:List α}{k:Nat}{x:α}(h:xs[k]? = some x):x∈xs:=xg h
def idxOf{α:Type}(p:α->Bool):List α->Int
  | []=>-1
  | x::xs=>if p x then 0 else if idxOf p xs<0 then -1 else idxOf p xs+1
theorem uK{α:Type}{p:α->Bool}:∀ {xs:List α},(∀ x∈xs,p x=false)->idxOf p xs=-1
  | [],_=>rfl
  | x::xs,h=>by
    have h1:=h x av;have h2:=uK (p:=p) (xs:=xs) (λy hy=>h y (by simp [hy]))
    simp [idxOf,h1,h2]
theorem GR{α:Type}{p:α->Bool}:∀(xs:List α),-1<=idxOf p xs
  | []=>by simp [idxOf]
  | x::xs=>by
    have:=GR (p:=p) xs;unfold idxOf
    split
    · omega
    · split <;> omega
theorem rX{α:Type}{p:α->Bool}:∀ {xs:List α} {k:Nat} {x:α},(∀ y∈xs.take k,p y=false)->xs[k]? = some x->p x=true->idxOf p xs=(k:Int)
  | [],k,x,_,h,_=>by simp at h
  | y::xs,0,x,_,h,hp=>by
    simp at h; subst h
    simp [idxOf,hp]
  | y::xs,k+1,x,h0,h,hp=>by
    have h1:=h0 y av;have h2:=rX (p:=p) (xs:=xs) (k:=k) (x:=x) (λz hz=>h0 z (by simp [hz])) (by simpa using h) hp
    simp only [idxOf,h1,h2]
    simp
    omega
theorem D7{α:Type}{p:α->Bool}:∀(xs:List α),idxOf p xs<xs.length
  | []=>by simp [idxOf]
  | x::xs=>by
    have:=D7 (p:=p) xs;unfold idxOf
    simp only [pF]
    split
    · omega
    · split <;> omega
theorem vT{α:Type}(p:α->Bool)(xs:List α):(idxOf p xs=-1/\∀ x∈xs,p x=false)∨∃(k:Nat)(x:α),idxOf p xs=(k:Int)/\xs[k]? = some x/\p x=true/\∀ y∈xs.take k,p y=false:=by
  induction xs with
  | nil=>left; exact⟨rfl,λx hx=>by simp at hx⟩
  | cons y xs ih=>
    by_cases hp:p y=true
    · right; exact⟨0,y,by simp [idxOf,hp],rfl,hp,λz hz=>by simp at hz⟩
    · have hp':p y=false:=by simpa using hp
      rcases ih with ⟨h1,h2⟩ | ⟨k,x,h1,h2,h3,h4⟩
      · left
        refine⟨by simp [idxOf,hp',h1],λx hx=>?_⟩
        rcases iX.1 hx with rfl | hx
        · exact hp'
        · exact h2 x hx
      · right
        refine⟨k+1,x,by simp [idxOf,hp',h1]; omega,by simpa using h2,h3,λz hz=>?_⟩
        rcases iX.1 (by simpa using hz) with rfl | hz
        · exact hp'
        · exact h4 z hz
theorem pJ{α:Type}{q:α->Prop}{xs:List α}{k:Nat}{x:α}(h:∀ y∈xs.take k,q y)(hx:xs[k]? = some x)(hq:q x):∀ y∈xs.take (k+1),q y:=by
  rw [fD hx];intro y hy
  rcases jN.1 hy with h1 | h1
  · exact h y h1
  · simp at h1; rw [h1]; exact hq
theorem vU{α:Type}{q:α->Prop}{xs:List α}{k:Nat}(h:∀ y∈xs.take k,q y)(hk:xs.length<=k):∀ y∈xs,q y:=by
  rw [iH hk] at h; exact h
def BL{α:Type}(xss:List (List α))(k:Nat):Nat:=((xss.take k).flatten).length
theorem vV{α:Type}{xss:List (List α)}{k:Nat}{s:List α}(h:xss[k]? = some s):BL xss (k+1)=BL xss k+s.length:=by
  unfold BL; rw [fD h]; simp
theorem xL{α:Type}(xss:List (List α))(k:Nat):BL xss k<=xss.flatten.length:=by
  unfold BL
  conv=>rhs; rw [<- uF k xss]
  rw [List.flatten_append,jd]; omega
theorem Qh{α:Type}{xss:List (List α)}{k:Nat}{s:List α}(h:xss[k]? = some s):(xss.take k).flatten++s=(xss.take (k+1)).flatten:=by
  rw [fD h]; simp
def ahX{α:Type}(q:Nat->α->Bool)(xs:List α):Bool:=(List.range xs.length).all λi=>match xs[i]? with | some x=>q i x | none=>true
theorem ahY{α:Type}{q:Nat->α->Bool}{xs:List α}:ahX q xs=true↔∀(i:Nat)(x:α),xs[i]? = some x->q i x=true:=by
  unfold ahX;rw [lI]
  constructor
  · intro h i x hx
    have hi:i<xs.length:=(nP.1 hx).1;have:=h i (List.mem_range.2 hi);rw [hx] at this;exact this
  · intro h i hi
    cases hx:xs[i]? with
    | none=>rfl
    | some x=>exact h i x hx
def low{α:Type}(g:α->Int)(s:List α):Nat:=s.countP λx=>decide (g x<0)
def hits{α:Type}(g:α->Int)(s:List α):Bool:=match s[low g s]? with | some x=>decide (g x=0) | none=>false
def abR{α:Type}(g:α->Int)(s:List α):Prop:=∀(i j:Nat)(x y:α),i<=j->s[i]? = some x->s[j]? = some y->g y<0->g x<0
theorem D8{α:Type}(g:α->Int)(s:List α):low g s<=s.length:=abO
theorem xk{α:Type}{g:α->Int}{s:List α}{i:Nat}(hi:i<=s.length)(h1:∀(a:Nat)(x:α),a<i->s[a]? = some x->g x<0)(h2:∀(a:Nat)(x:α),i<=a->s[a]? = some x->¬ g x<0):low g s=i:=by
  have e:low g s=(s.take i).countP (λx=>decide (g x<0))+(s.drop i).countP (λx=>decide (g x<0)):=by
    unfold low; rw [<- OP,uF]
  have e1:(s.take i).countP (λx=>decide (g x<0))=(s.take i).length:=by
    rw [List.countP_eq_length];intro x hx;obtain⟨a,ha,rfl⟩:=aeD hx;have hlt:a<i:=by simp only [fO] at ha; omega
    exact F8 (h1 a _ hlt (by rw [List.getElem_take]; exact qI _))
  have e2:(s.drop i).countP (λx=>decide (g x<0))=0:=by
    rw [List.countP_eq_zero];intro x hx;obtain⟨a,ha,rfl⟩:=aeD hx;have hb:i+a<s.length:=by simp only [kW] at ha; omega
    have:=h2 (i+a) _ aj (qI hb);rw [List.getElem_drop]
    simpa using this
  rw [e,e1,e2,fO]; omega
def bB(x y:Int):Int:=if x<y then -1 else if y<x then 1 else 0
theorem qL{x y:Int}:bB x y<0↔x<y:=by
  unfold bB; split
  · omega
  · split <;> omega
theorem zf{x y:Int}:bB x y=0↔x=y:=by
  unfold bB; split
  · omega
  · split <;> omega
def Up{α:Type}(key:α->Int)(s:List α):Prop:=s.Pairwise λx y=>key x<key y
theorem Up.get{α:Type}{key:α->Int}{s:List α}(h:Up key s){i j:Nat}{x y:α}(hij:i<j)(hx:s[i]? = some x)(hy:s[j]? = some y):key x<key y:=by
  have hi:=aJ hx;have hj:=aJ hy;have:=(DX.1 h) i j hi hj hij;rw [(nP.1 hx).2,(nP.1 hy).2] at this;exact this
theorem Up.mono{α:Type}{key:α->Int}{s:List α}(h:Up key s)(n:Int):abR (λy=>bB (key y) n) s:=by
  intro i j x y hij hx hy hlt
  simp only [qL] at hlt ⊢
  rcases P8 i j with h1 | h1
  · have:=h.get h1 hx hy; omega
  · have:i=j:=aj
    subst this; rw [hx] at hy; cases hy; exact hlt
theorem uZ{α:Type}{key:α->Int}{s:List α}(h:Up key s)(n:Int):hits (λy=>bB (key y) n) s=true↔∃ x∈s,key x=n:=by
  have hl:∀(i:Nat)(x:α),s[i]? = some x->key x=n->low (λy=>bB (key y) n) s=i:=by
    intro i x hx hk;refine xk (by have:=aJ hx; omega) (λa y ha hy=>?_) (λa y ha hy=>?_)
    · rw [qL]; have:=h.get ha hy hx; omega
    · rw [qL]
      rcases P8 i a with h1 | h1
      · have:=h.get h1 hx hy; omega
      · have:a=i:=aj
        subst this; rw [hx] at hy; cases hy; omega
  constructor
  · intro hh
    unfold hits at hh
    split at hh
    · rename_i x hx
      have:=gW hh;exact⟨x,bT hx,zf.1 this⟩
    · cases hh
  · rintro⟨x,hx,hk⟩
    obtain⟨i,hi,rfl⟩:=aeD hx;have h1:=hl i _ (qI hi) hk;unfold hits;rw [h1,qI hi];exact F8 (zf.2 hk)
theorem qU{α:Type}{key:α->Int}{s:List α}{n:Int}(h:hits (λy=>bB (key y) n) s=true):∃ x,s[low (λy=>bB (key y) n) s]? = some x/\key x=n:=by
  unfold hits at h
  split at h
  · rename_i x hx; exact⟨x,hx,zf.1 (gW h)⟩
  · cases h
theorem dO{P:Program}{n:Cx}{l:List (Nat × Value)}{w:World}{t ty:TypeId}{x y:Operand}{a b:Int}(hx:iG l x=some (.int .i64 a))(hy:iG l y=some (.int .i64 b))(h1:-9223372036854775808<=a+b:=by omega)(h2:a+b<=9223372036854775807:=by omega):Ev P n l w (.binOp .add t x y ty) (.int .i64 (a+b)):=Ev.add hx hy ⟨h1,h2⟩
theorem UD{P:Program}{n:Cx}{l:List (Nat × Value)}{w:World}{t ty:TypeId}{x y:Operand}{a b:Int}(hx:iG l x=some (.int .i64 a))(hy:iG l y=some (.int .i64 b))(h1:-9223372036854775808<=a - b:=by omega)(h2:a - b<=9223372036854775807:=by omega):Ev P n l w (.binOp .sub t x y ty) (.int .i64 (a - b)):=Ev.sub hx hy ⟨h1,h2⟩
theorem mQ{P:Program}{n:Cx}{l:List (Nat × Value)}{w:World}{Q:Exit->Act->World->Prop}{c:Operand}{x y:Code}{p:Prop}[Decidable p](hc:iG l c=some (.bool (decide p)))(h1:p->WP P n x l w Q)(h2:¬p->WP P n y l w Q):WP P n (.cond c x y) l w Q:=bK hc (λh=>h1 (gW h)) (λh=>h2 (iJ h))
theorem pQ{P:Program}{n:Cx}{l:List (Nat × Value)}{w:World}{Q:Exit->Act->World->Prop}{c:Operand}{x y z:Code}{p:Prop}[Decidable p](hc:iG l c=some (.bool (decide p)))(h1:p->WP P n x l w (Exit.then (Ot P n z Q) Q))(h2:¬p->WP P n y l w (Exit.then (Ot P n z Q) Q)):WP P n (.seq (.cond c x y) z) l w Q:=WP.cond hc (λh=>h1 (gW h)) (λh=>h2 (iJ h))
end Go.Proofs.YtlhnnmlenkahlaaGreat
