/- Lemmas. -/
import Derived.ProofKit
import Derived.OpenShut
import Derived.ShutString
import Derived.ChangeOld
import Derived.Deep.Slices
import Derived.Deep.Fields
import Derived.Shelf.Sort.Plain
import Derived.Shelf.Slices.In.SortNone
import Derived.Shelf.SlSortCmp.NoneTotal
import Derived.Ground.SlsfProg
import Derived.Test.YtlhnnmlenkahlaaGreatProg
import Derived.Test.YtlhnnmlenkahlaaGreatRows
import Derived.Test.YtlhnnmlenkahlaaGreathG1
set_option linter.all false
set_option maxRecDepth 4000
namespace Go.Proofs.YtlhnnmlenkahlaaGreat
open Go.RowKit Go.Proofs.Tryz
def abw:=@Array.getElem?_toList
def sZ:=@List.getElem?_of_mem
def Ol:=@List.mem_flatMap
def WY:=@MapKept.findNow_spec
def Bw:=@Bool.eq_false_iff
def ahM:=@MapKept.run_keyThatStays
def Bz:=@List.filter_append
def zU:=@List.find?_cons_of_neg
def Ir:=@List.pairwise_map
def abx:=@Option.map_some
def KP:=@List.any_eq_true
def bM:=@decide_eq_true_eq
def iJ:=@underlying3
def Sm:=@underlying4
def fA:=@underlying55
def lq:=@underlying41
def mP:=@List.not_mem_nil
def tq:=@or_false
def KQ:=@List.filter_cons
def iY:=@of_decide_eq_true
def jS:=@of_decide_eq_false
section
variable {s:List (Int × Int)}{j i fuel g:Nat}{e t kt et:TypeId}{op:Op}{bS:Bool}{v u:Value}{aW listed' full:Array Bool}{rk:List lG}{Z:World->Prop}{J:List (Nat × Value)->World->Prop}{l':List (Nat × Value)}{o:Oper}{S' S0:Nat->Prop}{bY:Array Oper}{Q:Exit->Act->World->Prop}{cs:List Value}{m ky:Operand}{α:Type}{p:α->Bool}{xs:List α}{τ:Ty α}{good:α->Prop}
def xS(s:List Int):Array MapEntry:=(s.zipIdx.map λp=>⟨.int .i64 p.1,.bool true,p.2⟩).toArray
def Sn(s:List Int)(z:Int):List Int:=if s.contains z then s else s++[z]
theorem alM(s:List Int):(xS s).size=s.length:=by simp [xS]
theorem alN(s:List Int)(z:Int):(xS s).push ⟨aI z,.bool true,s.length⟩=xS (s++[z]):=by
  grind [xS]
theorem WZ{s:List Int}{e:MapEntry}(h:(xS s).toList[j]? = some e):∃ z,s[j]? = some z/\e=⟨aI z,.bool true,j⟩:=by
  simp only [xS,rQ,List.getElem?_zipIdx,Ik] at h
  grind
theorem aey{s:List Int}{z:Int}(h:s[j]? = some z):(xS s).modify j (λe=>{ e with key:=aI z,val:=.bool true })=xS s:=by
  apply Array.ext_getElem?;intro i;rw [Array.getElem?_modify]
  by_cases hij:j=i
  · subst hij
    rw [aS rfl]
    have h1:(xS s)[j]? = some ⟨aI z,.bool true,j⟩:=by
      rw [<- abw]; simp [xS,h]
    rw [h1]; rfl
  · rw [aP hij]
theorem aae(s:List Int):∀ x∈(xS s).toList,MapKept.IsKey (.int .i64) x.key:=by
  intro x hx;obtain⟨j,hj⟩:=sZ hx;obtain⟨z,_,rfl⟩:=WZ hj
  rfl
section
variable {P:Program}{n:Cx}{l:List (Nat × Value)}{b w:World}{S:Nat->Prop}{rs rest:List lG}{Q:Exit->Act->World->Prop}{K:Act->World->Prop}{bY:Array Oper}{os:List Oper}{ty:TypeId}{pos:String}{mO:Array Edge}{d:Nat}
theorem unwanted{dd:Option Nat}(hg:guardOf bY l j=some v)(hv:unlike bS v=true)(a:Act)(ha:Has n l a) :
    Region.wanted ⟨dd,op,ty,pos,mO,some (j,bS)⟩ (yielded bY a.tmps)=false:=by
  show(yielded bY a.tmps j == some bS)=false;rw [Ei ha hg]
  cases v <;> simp [unlike] at hv ⊢
  grind
def tkc(bY:Array Oper)(aW listed':Array Bool)(i:Nat):Bool:=
  Region.free .any bY aW i&&((!aW.getD i true&&((bY[i]?).map λo=>o.after.all λe=>!Region.binds .any e||aW.getD e.on false).getD false)&&(aW.setIfInBounds i true).toList == listed'.toList)
theorem Iu(h:tkc bY aW listed' i=true):Region.free .any bY aW i=true/\(Region.ready .any bY aW).contains i=true/\aW.setIfInBounds i true=listed':=by
  simp only [tkc,bK,R3] at h
  refine⟨h.1,?_,by grind [Array.toList_inj]⟩
  grind [Region.ready]
theorem WH.tn(i:Nat)(listed':Array Bool){d:Nat}(hs:Region.noSelect bY=true)(hi:bY[i]? = some ⟨some d,op,ty,pos,mO,none⟩)(hf:tkc bY aW listed' i=true)
    (he:∀ w',Hp b S w' rk->Ev P n l w' op v) (hd:Nat.blt d n.size=true) (hw:Hp b S w rk) (k:WH P n bY K (λw'=>Hp b S w' rk) fuel listed' ((d,v)::l) w) :
    WH P n bY K (λw'=>Hp b S w' rk) (fuel+1) aW l w:=WH.tk i hi hs (Iu hf).1 (Iu hf).2.1 he hd hw ((Iu hf).2.2▸k)
theorem WH.tng(i:Nat)(listed':Array Bool){d:Nat}(hs:Region.noSelect bY=true)(hi:bY[i]? = some ⟨some d,op,ty,pos,mO,some (j,bS)⟩)(hg:guardOf bY l j=some (.bool bS))(hf:tkc bY aW listed' i=true)
    (he:∀ w',Hp b S w' rk->Ev P n l w' op v) (hd:Nat.blt d n.size=true) (hw:Hp b S w rk) (k:WH P n bY K (λw'=>Hp b S w' rk) fuel listed' ((d,v)::l) w) :
    WH P n bY K (λw'=>Hp b S w' rk) (fuel+1) aW l w:=WH.tkg i hi hg hs (Iu hf).1 (Iu hf).2.1 he hd hw ((Iu hf).2.2▸k)
theorem WH.tnp(i:Nat)(listed':Array Bool){d:Nat}(hs:Region.noSelect bY=true)(hi:bY[i]? = some ⟨some d,op,ty,pos,mO,some (j,bS)⟩)(hg:guardOf bY l j=some u)(hv:unlike bS u=true)(hf:tkc bY aW listed' i=true)
    (hd:Nat.blt d n.size=true) (hw:Hp b S w rk) (k:WH P n bY K (λw'=>Hp b S w' rk) fuel listed' ((d,undef)::l) w) :
    WH P n bY K (λw'=>Hp b S w' rk) (fuel+1) aW l w:=λa ha=>
  wpAnyH_take hi hs (Iu hf).1 (Iu hf).2.1 (λ_ _ _ h=>h) (.inr (by grind [unwanted])) hw ((Iu hf).2.2▸k _ (ha.put hd undef))
theorem WH.re2{t:Nat}(hl:look l t=some u)(e:u=v)(k:WH P n bY K Z fuel aW ((t,v)::l) w):WH P n bY K Z fuel aW l w:=λa ha=>k a (ha.set hl e)
def LM(n m:Nat):Array Bool:=((List.range n).map λi=>m.testBit i).toArray
theorem WH.kj(hS:∀ l w,J l w->WH P n bY K Z fuel listed' l w)(he:((aW.setIfInBounds i true).toList == listed'.toList)=true)(hk:Z w)(hJ:J l' w)(hs:Sb l l') :
    WL P n.BP bY (Only K) (HK P bY K Z fuel (aW.setIfInBounds i true)) [] l w:=by
  have e:aW.setIfInBounds i true=listed':=by grind [Array.toList_inj]
  exact aO hk (e▸λa ha=>hS l' w hJ a (ha.sb hs))
abbrev KR(iE:Array Bool)(je:Nat):=iE.setIfInBounds je true
theorem WH.one(i:Nat)(hr:Region.ready .any bY aW=[i])(hi:bY[i]? = some o)(h:WL P n.BP bY (Only K) (HK P bY K Z fuel (KR aW i)) [o] l w):WH P n bY K Z (fuel+1) aW l w:=
  yT hr av (by grind)
theorem WH.two(i j:Nat){o':Oper}(hr:Region.ready .any bY aW=[i,j])(hi:bY[i]? = some o)(hj:bY[j]? = some o')(h:WL P n.BP bY (Only K) (HK P bY K Z fuel (KR aW i)) [o] l w)(h':WL P n.BP bY (Only K) (HK P bY K Z fuel (KR aW j)) [o'] l w):WH P n bY K Z (fuel+1) aW l w:=
  yT hr av (by grind)
theorem Hp.f4{w':World}{F:List lG}{r1 r2 r3 r4:lG}[zn r1][zn r2][zn r3][zn r4](H:Hp b S w F)(h:Hp w S' w' [r1,r2,r3,r4]):Hp b S w' (r1::r2::r3::r4::F):=H.lift h.re
theorem Hp.z(H:Hp b S w rs):Hp b S w []:=⟨H.ext,av,av,List.Pairwise.nil⟩
theorem Hp.f5{w':World}{F:List lG}{r1 r2 r3 r4 r5:lG}[zn r1][zn r2][zn r3][zn r4][zn r5](H:Hp b S w F)(h:Hp w S' w' [r1,r2,r3,r4,r5]):Hp b S w' (r1::r2::r3::r4::r5::F):=H.lift h.re
def ddl(xs:List (Array Bool)):List (Array Bool):=xs.foldl (λacc x=>if acc.contains x then acc else x::acc) []
theorem auk(xs:List (Array Bool))(x:Array Bool)(h:x∈xs):x∈ddl xs:=by
  have key:∀(xs acc:List (Array Bool)),x∈acc∨x∈xs->x∈xs.foldl (λacc x=>if acc.contains x then acc else x::acc) acc:=by
    intro xs
    induction xs with
    | nil=>simp
    | cons y xs ih=>
      grind
  exact key xs [] (.inr h)
def aez(bY:Array Oper)(ids:List Nat)(rest:Nat)(full:Array Bool):Nat->List (Array Bool)->Bool
  | 0,ls=>ls.all λl=>l == full&&rest == 0
  | f+1,ls=>if ls.all (λl=>l == full) then f+1 == rest else ls.all (λl=>!(l == full)&&!(Region.ready .any bY l).isEmpty&&(Region.ready .any bY l).all λi=>ids.contains i)&&aez bY ids rest full f (ddl (ls.flatMap λl=>(Region.ready .any bY l).map λi=>l.setIfInBounds i true))
theorem aaf{ids:List Nat}{rest:Nat}:∀ {fuel:Nat} {ls:List (Array Bool)},aez bY ids rest full fuel ls=true->∀ l∈ls,qM bY ids rest full fuel l=true
  | 0,ls,h,l,hl=>by
    simp only [aez,ng] at h
    exact h l hl
  | f+1,ls,h,l,hl=>by
    unfold aez at h;unfold qM
    split at h
    · rename_i ha
      rw [aS (ng.1 ha l hl)]; exact h
    · simp only [bK] at h
      have h1:=ng.1 h.1 l hl
      simp only [bK,dZ] at h1
      rw [aP (by rw [h1.1.1]; decide)];rw [bK];refine⟨by rw [h1.1.2]; rfl,?_⟩;rw [ng];intro i hi;rw [bK];refine⟨ng.1 h1.2 i hi,aaf h.2 _ (auk _ _ ?_)⟩;exact Ol.2 ⟨l,hl,gB.2 ⟨i,hi,Y⟩⟩
theorem aby{ids:List Nat}{rest:Nat}{l:Array Bool}(h:aez bY ids rest full fuel [l]=true):qM bY ids rest full fuel l=true:=aaf h l av
theorem WP.sc{c:Code}(h:WP P n c l w (Exit.noGoto Q))(hro:n.round=none:=by rfl):WP P n (.scope c) l w Q:=λa ha=>by
  have e:n.fence=Fence.wide:=Wy hro;rw [e];refine Wt.2 (wp_scope_straight ?_);have h1:=h a ha
  grind [wpIn_wide]
theorem WP.lab{lb:Nat}(h:l8 n Q .normal l w):WP P n (.label lb) l w Q:=λa ha=>wpIn_label (h a ha)
theorem l8.aul(h:l8 n Q .normal l w):l8 n (Exit.noGoto Q) .normal l w:=λa ha=>h a ha
theorem l8.ahN(h:l8 n Q .ret l w):l8 n (Exit.noGoto Q) .ret l w:=λa ha=>h a ha
theorem Ev.fld{x:Operand}{f off:Nat}{fs:Array Field}{fl:Field}(hu:P.underlying t=some (.struct fs))(hf:fs[f]? = some fl)(ho:fl.offset=off)(hn:mg P fl.type)(hx:gY l x=some (.agg cs.toArray))(hv:cs[off]? = some v):Ev P n l w (.field t x f) v:=λo a w' ho' ha _=>by
  unfold execOp; rw [ho']
  have h1:(Instr.field t (.agg cs.toArray) f).run P w'=.ok v w':=by
    unfold Instr.field
    simp only [jO,kV hu,jP,hf]
    simp only [part,asAgg,jO,lK,jP,hn w',ho]
    simp [hv]
  simp [ha.eval hx,h1]
theorem aoD{z:Int}{s:List Int}(hm:P.underlying t=some (.map kt et))(hk:P.underlying kt=some (.int .i64))(hb:w.heap[g]? = some (.map (xS s) s.length)) :
    (Instr.mapUpdate t (.map (some g)) (aI z) (.bool true)).run P w=.ok () (w.putObj g (.map (xS (Sn s z)) (Sn s z).length)):=by
  have hz:MapKept.IsKey (.int .i64) (aI z):=by simp [MapKept.IsKey]
  have h1:(Instr.checkKey false 10000 kt (aI z)).run P w=.ok () w:=KI (n:=9999) hk hz false
  rcases WY hz (xS s).toList 0 (aae s) with ⟨hf,hno⟩ | ⟨j,e,hf,hj,he⟩
  · have hc:s.contains z=false:=by
      rw [Bw,ne_eq,nR];intro hmem;obtain⟨j,hj⟩:=sZ hmem;have h2:(xS s).toList[j]? = some ⟨aI z,.bool true,j⟩:=by simp [xS,hj]
      exact hno _ (yS h2) Y
    have ha:Sn s z=s++[z]:=by unfold Sn; rw [hc]; rfl
    have h2:=Da (w:=w) hk hf;unfold Instr.mapUpdate
    simp only [jO,kV hm,jP,uH hb,h1,h2,Gi _ hb]
    rw [ha,<- alN,jG]
    rfl
  · obtain⟨y,hy,rfl⟩:=WZ hj
    have hyz:y=z:=by injection he
    subst hyz;have ha:Sn s y=s:=by unfold Sn; rw [aS (by rw [nR]; exact yS hy)]
    have h2:=Da (P:=P) (w:=w) hk hf
    have h3:(((xS s)[0+j]?).map (·.key)).getD (.int .i64 y)=.int .i64 y:=by
      rw [<- abw,Ik,hj]; rfl
    unfold Instr.mapUpdate
    simp only [jO,kV hm,jP,uH hb,h1,h2,h3,ahM hz,Gi _ hb]
    rw [ha,Ik,aey hy]
    rfl
theorem aB5{vy:Operand}{z:Int}{s:List Int}(H:Hp b S w rs)(sl:pq rs (pX g (.map (xS s) s.length)) rest)(hx:gY l m=some (.map (some g)))(hkey:gY l ky=some (aI z))(hv:gY l vy=some (.bool true))
    (hm:P.underlying t=some (.map kt et)) (hk:P.underlying kt=some (.int .i64))
    (k:∀ w',Hp b S w' (pX g (.map (xS (Sn s z)) (Sn s z).length)::rest)->WL P n bY Q K os l w'):WL P n bY Q K (⟨none,.mapUpdate t m ky vy,ty,pos,mO,none⟩::os) l w:=
  Pv (by simp [fZ]) rfl (R:=λw'=>w'=w.putObj g (.map (xS (Sn s z)) (Sn s z).length)) (λa ha=>⟨_,by
    unfold execOp; simp [ha.eval hx,ha.eval hkey,ha.eval hv,aoD hm hk (H.obj sl)],rfl⟩) λw' e=>by
    subst e; exact k _ (H.putObj sl _)
abbrev aoE(g:Nat)(s:List Int):lG:=pX g (.map (xS s) s.length)
theorem mks(H:Hp b S w rs)(hd:Nat.blt d n.size=true)(k:∀ g w',Hp b S w' (aoE g []::rs)->WL P n bY Q K os ((d,.map (some g))::l) w'):WL P n bY Q K (⟨some d,.makeMap t none,ty,pos,mO,none⟩::os) l w:=mkm H hd k
theorem Ev.aHS{s:List Int}(H:Hp b S w rs)(sl:pq rs (pX g (.map (xS s) s.length)) rest)(hm:P.underlying t=some (.map kt et))(hx:gY l m=some (.map (some g))):Ev P n l w (.call ⟨.builtin .len,#[m],#[t]⟩) (.int .i64 (s.length:Int)):=λo a w' ho ha ex=>by
  have hb:w'.heap[g]? = some (.map (xS s) s.length):=(ex.block g (yU.1 (H.obj sl)).1).trans (H.obj sl)
  have h1:(Builtin.len_ #[t] o.type #[.map (some g)]).run P w'=.ok (.int .i64 (s.length:Int)) w':=by
    simp only [Builtin.len_]
    simp [kV hm,uH hb,alM,Result.andThen]
    rfl
  unfold execOp; rw [ho]
  simp only [resolve,jO,lK,jP,invoke,builtin,wh,mR,xk,ha.eval hx,h1]
end
theorem sH{ys:List α}{x:α}(hij:i<j)(h1:ys.take i=(xs.take j).filter p)(h2:ys.drop j=xs.drop j)(hx:ys[j]? = some x)(hp:p x=true) :
    (ys.set i x).take (i+1)=(xs.take (j+1)).filter p/\(ys.set i x).drop (j+1)=xs.drop (j+1):=by
  have hxs:xs[j]? = some x:=by
    have h3:(ys.drop j)[0]? = (xs.drop j)[0]?:=by grind
    simpa [F5,hx] using h3.symm
  have hi:i<ys.length:=by grind
  refine⟨?_,?_⟩
  · simp_all [fC,rT,List.take_set_of_le,kJ,Bz]
  · rw [List.drop_set_of_lt aj,<- List.drop_drop,h2,List.drop_drop]
theorem sI{ys:List α}{x:α}(h1:ys.take i=(xs.take j).filter p)(h2:ys.drop j=xs.drop j)(hx:ys[j]? = some x)(hp:p x=false) :
    ys.take i=(xs.take (j+1)).filter p/\ys.drop (j+1)=xs.drop (j+1):=by
  have hxs:xs[j]? = some x:=by
    have h3:(ys.drop j)[0]? = (xs.drop j)[0]?:=by grind
    simpa [F5,hx] using h3.symm
  refine⟨?_,?_⟩
  · simp_all [fC,Bz]
  · rw [<- List.drop_drop,h2,List.drop_drop]
section
variable {P:Program}{n:Cx}{l:List (Nat × Value)}{b w:World}{S:Nat->Prop}{rs rest:List lG}{Q:Exit->Act->World->Prop}{K:Act->World->Prop}{bY:Array Oper}{os:List Oper}{ty:TypeId}{pos:String}{mO:Array Edge}{d:Nat}
theorem Hp.was{o:Obj}(H:Hp b S w rs)(h:b.heap[g]? = some o):w.heap[g]? = some o:=(H.ext.block g (yU.1 h).1).trans h
theorem alO{s:List Int}{z:Int}(hno:∀ x∈(xS s).toList,x.key≠aI z):s.contains z=false:=by
  rw [Bw,ne_eq,nR];intro hmem;obtain⟨j,hj⟩:=sZ hmem;have h2:(xS s).toList[j]? = some ⟨aI z,.bool true,j⟩:=by grind [xS]
  exact hno _ (yS h2) Y
theorem alP{z:Int}{s:List Int}(hm:P.underlying t=some (.map kt et))(hk:P.underlying kt=some (.int .i64))(hz:∀ w,(zeroValue et).run P w=.ok (.bool false) w)(hb:w.heap[g]? = some (.map (xS s) s.length)) :
    (Instr.lookup t (.map (some g)) (aI z) false).run P w=.ok (.bool (s.contains z)) w:=by
  have hkz:MapKept.IsKey (.int .i64) (aI z):=by simp [MapKept.IsKey]
  have h1:∀ e,(Instr.checkKey e 10000 kt (aI z)).run P w=.ok () w:=λe=>KI (n:=9999) hk hkz e
  rcases WY hkz (xS s).toList 0 (aae s) with ⟨hf,hno⟩ | ⟨j,e,hf,hj,he⟩
  · have h2:=Da (w:=w) hk hf
    unfold Instr.lookup
    simp only [jO,kV hm,jP,uH hb,lK,h1,h2,hz]
    rw [alO hno]; rfl
  · obtain⟨y,hy,rfl⟩:=WZ hj
    have hyz:y=z:=by injection he
    subst hyz;have h2:=Da (P:=P) (w:=w) hk hf;unfold Instr.lookup
    simp only [jO,kV hm,jP,uH hb,lK,h1,h2]
    rw [show s.contains y=true from nR.2 (yS hy)]; rfl
theorem Ev.FJ{z:Int}{s:List Int}(hb:w.heap[g]? = some (.map (xS s) s.length))(hm:P.underlying t=some (.map kt et))(hk:P.underlying kt=some (.int .i64))(hz:∀ w,(zeroValue et).run P w=.ok (.bool false) w)(hx:gY l m=some (.map (some g)))(hy:gY l ky=some (.int .i64 z)) :
    Ev P n l w (.lookup t m ky false) (.bool (s.contains z)):=λo a w' ho ha ex=>by
  have hb':w'.heap[g]? = some (.map (xS s) s.length):=(ex.block g (yU.1 hb).1).trans hb;unfold execOp; rw [ho]
  simp only [ha.eval hx,ha.eval hy]
  grind [Sem.run_bind,alP,Result.andThen_ok,Sem.run_pure]
def DF(s:List (Int × Int)):Array MapEntry:=(s.zipIdx.map λp=>⟨.int .i64 p.1.1,.int .i64 p.1.2,p.2⟩).toArray
def Gj(s:List (Int × Int))(z:Int):Int:=match s.find? (λp=>decide (p.1=z)) with | some p=>p.2 | none=>0
def Iw(s:List (Int × Int))(z v:Int):List (Int × Int):=if s.any (λp=>decide (p.1=z)) then s.map (λp=>if p.1=z then(z,v) else p) else s++[(z,v)]
abbrev aoF(g:Nat)(s:List (Int × Int)):lG:=pX g (.map (DF s) s.length)
theorem W9{e:MapEntry}(h:(DF s).toList[j]? = some e):∃ p,s[j]? = some p/\e=⟨aI p.1,aI p.2,j⟩:=by
  simp only [DF,rQ,List.getElem?_zipIdx,Ik] at h
  grind
theorem aag(s:List (Int × Int)):∀ x∈(DF s).toList,MapKept.IsKey (.int .i64) x.key:=by
  intro x hx;obtain⟨j,hj⟩:=sZ hx;obtain⟨z,_,rfl⟩:=W9 hj
  rfl
theorem aah{z:Int}(hno:∀ x∈(DF s).toList,x.key≠aI z):∀ p∈s,p.1≠z:=by
  intro p hp e;obtain⟨j,hj⟩:=sZ hp;have h2:(DF s).toList[j]? = some ⟨aI p.1,aI p.2,j⟩:=by grind [DF]
  exact hno _ (yS h2) (by rw [e])
def wS(s:List (Int × Int)):Prop:=s.Pairwise λp q=>p.1≠q.1
theorem aum(hs:wS s){p:Int × Int}(hp:p∈s):Gj s p.1=p.2:=by
  induction s with
  | nil=>grind
  | cons q s ih=>
    have h1:=nW.1 hs;unfold Gj
    by_cases e:q.1=p.1
    · grind
    · rw [zU (by grind)]
      exact ih h1.2 (by grind)
theorem aun{z:Int}(h:∀ p∈s,p.1≠z):Gj s z=0:=by
  grind [Gj]
theorem alQ{z:Int}(hs:wS s)(hm:P.underlying t=some (.map kt et))(hk:P.underlying kt=some (.int .i64))(hz:∀ w,(zeroValue et).run P w=.ok (aI 0) w)(hb:w.heap[g]? = some (.map (DF s) s.length)) :
    (Instr.lookup t (.map (some g)) (aI z) false).run P w=.ok (aI (Gj s z)) w:=by
  have hkz:MapKept.IsKey (.int .i64) (aI z):=by simp [MapKept.IsKey]
  have h1:∀ e,(Instr.checkKey e 10000 kt (aI z)).run P w=.ok () w:=λe=>KI (n:=9999) hk hkz e
  rcases WY hkz (DF s).toList 0 (aag s) with ⟨hf,hno⟩ | ⟨j,e,hf,hj,he⟩
  · have h2:=Da (w:=w) hk hf
    unfold Instr.lookup
    simp only [jO,kV hm,jP,uH hb,lK,h1,h2,hz]
    rw [aun (aah hno)]; rfl
  · obtain⟨p,hp,rfl⟩:=W9 hj
    have hyz:p.1=z:=by injection he
    subst hyz;have h2:=Da (P:=P) (w:=w) hk hf;unfold Instr.lookup
    simp only [jO,kV hm,jP,uH hb,lK,h1,h2]
    rw [aum hs (yS hp)]; rfl
theorem Ev.aw2{z:Int}(hb:w.heap[g]? = some (.map (DF s) s.length))(hs:wS s)(hm:P.underlying t=some (.map kt et))(hk:P.underlying kt=some (.int .i64))(hz:∀ w,(zeroValue et).run P w=.ok (.int .i64 0) w)(hx:gY l m=some (.map (some g)))(hy:gY l ky=some (.int .i64 z)) :
    Ev P n l w (.lookup t m ky false) (.int .i64 (Gj s z)):=λo a w' ho ha ex=>by
  have hb':w'.heap[g]? = some (.map (DF s) s.length):=(ex.block g (yU.1 hb).1).trans hb;unfold execOp; rw [ho]
  simp only [ha.eval hx,ha.eval hy]
  grind [Sem.run_bind,alQ,Result.andThen_ok,Sem.run_pure]
theorem alR(s:List (Int × Int))(z v:Int):(DF s).push ⟨aI z,aI v,s.length⟩=DF (s++[(z,v)]):=by
  grind [DF]
theorem aoG(s:List (Int × Int))(z v:Int):(Iw s z v).length=if s.any (λp=>decide (p.1=z)) then s.length else s.length+1:=by
  grind [Iw]
theorem alS(hs:wS s)(z v:Int):wS (Iw s z v):=by
  unfold Iw; split
  · refine Ir.2 (hs.imp λ{p q} h=>?_)
    grind
  · rename_i h
    refine zk.2 ⟨hs,R4 _ _,λp hp q hq e=>h ?_⟩
    grind
theorem aeA(hs:wS s){p:Int × Int}(h:s[j]? = some p)(v:Int):(DF s).modify j (λe=>{ e with key:=aI p.1,val:=aI v })=DF (Iw s p.1 v):=by
  have ha:Iw s p.1 v=s.map (λq=>if q.1=p.1 then(p.1,v) else q):=aS (by grind);rw [ha];apply Array.ext_getElem?;intro i;rw [Array.getElem?_modify]
  have hE:∀(t:List (Int × Int))(k:Nat),(DF t)[k]? = (t[k]?).map λq=>⟨aI q.1,aI q.2,k⟩:=λt k=>by
    rw [<- abw]; simp only [DF,rQ,List.getElem?_zipIdx,Ik]
    cases t[k]? <;> rfl
  rw [hE,hE,rQ]
  by_cases hij:j=i
  · grind
  · rw [aP hij]
    cases hi:s[i]? with
    | none=>rfl
    | some q=>
      simp only [abx]
      have hne:q.1≠p.1:=λe=>by
        have hlj:=(sN.1 h).1;have hli:=(sN.1 hi).1;have h1:=Eh.1 hs
        rcases Nat.lt_or_gt_of_ne hij with h3 | h3
        · have:=h1 j i hlj hli h3
          rw [(sN.1 h).2,(sN.1 hi).2] at this; exact this e.symm
        · have:=h1 i j hli hlj h3
          rw [(sN.1 h).2,(sN.1 hi).2] at this; exact this e
      rw [aP hne]
theorem aoH{z v:Int}(hs:wS s)(hm:P.underlying t=some (.map kt et))(hk:P.underlying kt=some (.int .i64))(hb:w.heap[g]? = some (.map (DF s) s.length)) :
    (Instr.mapUpdate t (.map (some g)) (aI z) (aI v)).run P w=.ok () (w.putObj g (.map (DF (Iw s z v)) (Iw s z v).length)):=by
  have hz:MapKept.IsKey (.int .i64) (aI z):=by simp [MapKept.IsKey]
  have h1:(Instr.checkKey false 10000 kt (aI z)).run P w=.ok () w:=KI (n:=9999) hk hz false
  rcases WY hz (DF s).toList 0 (aag s) with ⟨hf,hno⟩ | ⟨j,e,hf,hj,he⟩
  · have hno':=aah hno
    have ha:Iw s z v=s++[(z,v)]:=aP (by rw [KP]; rintro⟨p,hp,h⟩; exact hno' p hp (by simpa using h));have h2:=Da (w:=w) hk hf;unfold Instr.mapUpdate
    simp only [jO,kV hm,jP,uH hb,h1,h2,Gi _ hb]
    rw [ha,<- alR,jG]
    rfl
  · obtain⟨p,hp,rfl⟩:=W9 hj
    have hyz:p.1=z:=by injection he
    subst hyz;have ha:(Iw s p.1 v).length=s.length:=by rw [aoG,aS (KP.2 ⟨p,yS hp,av⟩)]
    have h2:=Da (P:=P) (w:=w) hk hf
    have h3:(((DF s)[0+j]?).map (·.key)).getD (aI p.1)=aI p.1:=by
      rw [<- abw,Ik,hj]; rfl
    unfold Instr.mapUpdate
    simp only [jO,kV hm,jP,uH hb,h1,h2,h3,ahM hz,Gi _ hb]
    rw [ha,Ik,aeA hs hp]
    rfl
theorem aHT{vy:Operand}{z v:Int}(hs:wS s)(H:Hp b S w rs)(sl:pq rs (aoF g s) rest)(hx:gY l m=some (.map (some g)))(hkey:gY l ky=some (aI z))(hv:gY l vy=some (aI v))
    (hm:P.underlying t=some (.map kt et)) (hk:P.underlying kt=some (.int .i64))
    (k:∀ w',Hp b S w' (aoF g (Iw s z v)::rest)->WL P n bY Q K os l w'):WL P n bY Q K (⟨none,.mapUpdate t m ky vy,ty,pos,mO,none⟩::os) l w:=
  Pv (by simp [fZ]) rfl (R:=λw'=>w'=w.putObj g (.map (DF (Iw s z v)) (Iw s z v).length)) (λa ha=>⟨_,by
    unfold execOp; simp [ha.eval hx,ha.eval hkey,ha.eval hv,aoH hs hm hk (H.obj sl)],rfl⟩) λw' e=>by
    subst e; exact k _ (H.putObj sl _)
theorem mkc(H:Hp b S w rs)(hd:Nat.blt d n.size=true)(k:∀ g w',Hp b S w' (aoF g []::rs)->WL P n bY Q K os ((d,.map (some g))::l) w'):WL P n bY Q K (⟨some d,.makeMap t none,ty,pos,mO,none⟩::os) l w:=mkm H hd k
end
abbrev fz(z:Int):Nat:=FloatKind.f64.nearest z
theorem c01:FloatKind.f64.format.add 0 4607182418800017408=some (fb 1):=by rfl
theorem ayp(m:Nat):fz (m:Int)=fb m:=rfl
theorem Xa(neg:Bool)(mag:Nat)(place:Int):(Ieee.double.read (Ieee.double.nearest neg mag place)).isNaN=false:=by
  have key:∀(s:Bool)(r:Nat),r<=Ieee.double.infRung->(Ieee.double.read (Ieee.double.word s r)).isNaN=false:=by
    intro s r hr;have hI:Ieee.double.infRung<Ieee.double.signWeight:=au
    have hm:Ieee.double.word s r % Ieee.double.signWeight=r:=by
      unfold Ieee.Format.word
      cases s
      · show r % Ieee.double.signWeight=r
        exact Nat.mod_eq_of_lt aj
      · show(Ieee.double.signWeight+r) % Ieee.double.signWeight=r
        rw [Nat.add_mod_left]; exact Nat.mod_eq_of_lt aj
    unfold Ieee.Format.read
    simp only [hm]
    split
    · rfl
    · split
      · rfl
      · split
        · rfl
        · omega
  unfold Ieee.Format.nearest
  grind [Nat.min_le_right]
theorem auo(z:Int):∃ e,FloatKind.f64.format.add (fz z) 0=some e:=by
  have h:=Xa (decide (z<0)) z.natAbs 0;have h0:Ieee.double.read 0=.number false 0 Ieee.double.leastPlace:=au;show ∃ e,((Ieee.double.read (fz z)).sum (Ieee.double.read 0)).map Ieee.double.write=some e;have he:fz z=Ieee.double.nearest (decide (z<0)) z.natAbs 0:=rfl;rw [he,h0]
  cases hr:Ieee.double.read (Ieee.double.nearest (decide (z<0)) z.natAbs 0) with
  | number s m i=>exact⟨_,rfl⟩
  | infinity s=>exact⟨_,rfl⟩
  | nan s f=>rw [hr] at h; cases h
def wIm(o:Bool)(z:Int):Nat:=if o=true then(FloatKind.f64.format.add (fz z) 0).getD 0 else fz z
theorem aup(z:Int):FloatKind.f64.format.add (fz z) 0=some (wIm true z):=by
  obtain⟨e,h⟩:=auo z;rw [h]; show some e=some _; unfold wIm; rw [aS rfl,h]; rfl
theorem ayq(o:Bool){m:Nat}(h:m<130):wIm o (m:Int)=fb m:=by
  grind [wIm,ayp,Vj]
theorem aB6:∀ n,n<70->∀ m,m<70->((FloatKind.f64.format.order (fb n) (fb m) == some .eq)=decide (n=m)):=by decide +kernel
theorem aB7:∀ n,n<70->∀ m,m<70->((FloatKind.f64.format.order (fb n) (fb m) == some .lt)=decide (n<m)):=by decide +kernel
section
variable {P:Program}{n:Cx}{l:List (Nat × Value)}{w:World}{t ty:TypeId}{x y:Operand}
theorem Ev.aHU{a b:Nat}(ha:a<70)(hb:b<70)(hx:gY l x=some (.float .f64 (fb a)))(hy:gY l y=some (.float .f64 (fb b))):Ev P n l w (.binOp .neq t x y ty) (.bool (!decide (a=b))):=
  qW hx hy (eqGuard_at_float ..) (by simp_all [binOp,Op.floatCmp,bne,aB6])
theorem Ev.aB8{a b:Nat}(ha:a<70)(hb:b<70)(hx:gY l x=some (.float .f64 (fb a)))(hy:gY l y=some (.float .f64 (fb b))):Ev P n l w (.binOp .lss t x y ty) (.bool (decide (a<b))):=
  qW hx hy (eqGuard_at_float ..) (by simp_all [binOp,Op.floatCmp,aB7])
theorem Ev.aB9{d:TypeId}{k:IntKind}{z:Int}(hs:∃ k,P.underlying t=some k)(hd:P.underlying d=some (.float .f64))(hx:gY l x=some (.int k z)):Ev P n l w (.convert t d x) (.float .f64 (fz z)):=λo ac w' ho ha _=>by
  unfold execOp; rw [ho];obtain⟨k,hk⟩:=hs
  simp [ha.eval hx,convert,kV hk,kV hd,Conv.intToFloat]
theorem Ev.aHV{a b:Nat}{ts:Array TypeId}(hx:gY l x=some (.float .f64 a))(hy:gY l y=some (.float .f64 b)):Ev P n l w (.call ⟨.builtin .complex,#[x,y],ts⟩) (.complex .f64 a b):=λo ac w' ho ha _=>by
  unfold execOp; rw [ho]
  simp only [resolve,jO,lK,jP,invoke,builtin,wh,mR,xk,ha.eval hx,ha.eval hy]
  rfl
end
section
variable {P:Program}{n:Cx}{l:List (Nat × Value)}{w:World}{t ty:TypeId}{x y:Operand}
theorem Ev.quo{a c:Int}(hx:gY l x=some (.int .i64 a))(hy:gY l y=some (.int .i64 c))(hc:c≠0)(h:I64 (a.tdiv c)):Ev P n l w (.binOp .quo t x y ty) (.int .i64 (a.tdiv c)):=
  qW hx hy (Cb ..) λw=>by
    have hw:=h.wrap
    simp_all [binOp,Op.intDiv]
theorem Ev.aHW{len:Nat}(hu:P.underlying t=some (.array len e))(hs:Size P e 1)(hn:mg P e)(hi:i<len)(hx:gY l x=some (.agg cs.toArray))(hy:gY l y=some (.int .i64 (i:Int)))(hv:cs[i]? = some v) :
    Ev P n l w (.index t x y) v:=λo a w' ho ha _=>by
  unfold execOp; rw [ho]
  have h1:(Instr.index t (.agg cs.toArray) (.int .i64 (i:Int))).run P w'=.ok v w':=by
    unfold Instr.index
    simp only [asIntOf,jO,lK,kV hu,jP]
    rw [aS (by grind)]
    simp only [part,asAgg,jO,lK,jP,hn w',hs w']
    simp [hv]
  simp [ha.eval hx,ha.eval hy,h1]
end
theorem half(i:Nat):((i:Int) - 1).tdiv 2=(((i - 1) / 2:Nat):Int):=by
  grind
section
variable {P:Program}{n:Cx}{l:List (Nat × Value)}{b w:World}{S:Nat->Prop}{rs rest rk:List lG}{Q:Exit->Act->World->Prop}{K:Act->World->Prop}{Z:World->Prop}{bY:Array Oper}{os:List Oper}{ty:TypeId}{pos:String}{mO:Array Edge}{d:Nat}{fuel:Nat}{aW:Array Bool}{x:Operand}{v:Value}
theorem He{ol:List Oper}{id:Nat}{y:Code}(H:Hp b S w rs)(_:∀ w',Hp b S w' rs->Hp b S w' rk)(J:List (Nat × Value)->List lG->List (Nat × Value)->World->Prop)
    (h:Region.noSelect ol.toArray=true->Hp b S w.drew rs->WH P n ol.toArray (JK n (J l rk)) (λw'=>Hp b S w' rk) ol.length (List.replicate ol.length false).toArray l w.drew) (k:∀ l' w',J l rk l' w'->WP P n y l' w' Q)
    (hm:P.follows .mixedOrders=true:=by kernel_rfl) (hs:Region.noSelect ol.toArray=true:=by kernel_rfl) (hro:n.round=none:=by rfl):WP P n (.seq (.region id ol.toArray true) y) l w Q:=
  WP.held (λw'=>Hp b S w' rk) (J l rk) hm (h hs (H.grow (pW w).drew)) k hro
theorem Hf{ol:List Oper}{id:Nat}(H:Hp b S w rs)(_:∀ w',Hp b S w' rs->Hp b S w' rk)(J:List (Nat × Value)->List lG->List (Nat × Value)->World->Prop)
    (h:Region.noSelect ol.toArray=true->Hp b S w.drew rs->WH P n ol.toArray (JK n (J l rk)) (λw'=>Hp b S w' rk) ol.length (List.replicate ol.length false).toArray l w.drew) (k:∀ l' w',J l rk l' w'->l8 n Q .normal l' w')
    (hm:P.follows .mixedOrders=true:=by kernel_rfl) (hs:Region.noSelect ol.toArray=true:=by kernel_rfl) (hro:n.round=none:=by rfl):WP P n (.region id ol.toArray true) l w Q:=
  WP.aot (λw'=>Hp b S w' rk) (J l rk) hm (h hs (H.grow (pW w).drew)) k hro
theorem Jn(_:Hp b S w rk)(J:List (Nat × Value)->List lG->List (Nat × Value)->World->Prop)(f m:Nat)(h:∀ l' w',J l rk l' w'->WH P n bY K Z f (LM bY.size m) l' w')(k:(∀ l' w',J l rk l' w'->WH P n bY K Z f (LM bY.size m) l' w')->WH P n bY K Z fuel aW l w):WH P n bY K Z fuel aW l w:=k h
theorem Kj{m:Nat}(hS:∀ l w,J l w->WH P n bY K Z fuel (LM bY.size m) l w)(hk:Z w)(hJ:J l' w)(hs:Sb l l')(he:((KR aW i).toList == (LM bY.size m).toList)=true:=by kernel_rfl) :
    WL P n.BP bY (Only K) (HK P bY K Z fuel (KR aW i)) [] l w:=WH.kj hS he hk hJ hs
theorem O1(i:Nat)(hi:bY[i]? = some o)(h:WL P n.BP bY (Only K) (HK P bY K Z fuel (KR aW i)) [o] l w)(hr:Region.ready .any bY aW=[i]:=by kernel_rfl):WH P n bY K Z (fuel+1) aW l w:=WH.one i hr hi h
theorem O2(i j:Nat){o':Oper}(hi:bY[i]? = some o)(hj:bY[j]? = some o')(h:WL P n.BP bY (Only K) (HK P bY K Z fuel (KR aW i)) [o] l w)(h':WL P n.BP bY (Only K) (HK P bY K Z fuel (KR aW j)) [o'] l w)(hr:Region.ready .any bY aW=[i,j]:=by kernel_rfl):WH P n bY K Z (fuel+1) aW l w:=WH.two i j hr hi hj h h'
theorem Dn(hJ:J l' w)(hs:Sb l l')(hr:Region.ready .any bY aW=[]:=by kernel_rfl):WH P n bY (JK n J) Z fuel aW l w:=WH.dn hJ hs hr
theorem Lp{c:Code}(_:Hp b S w rk)(J:List (Nat × Value)->List lG->Nat->List (Nat × Value)->World->Prop){m0:Nat}{l0:List (Nat × Value)}(h0:J l rk m0 l0 w)(hs:Sb l l0)
    (hb:∀ m l' w',J l rk m l' w'->WP P n c l' w' (Exit.then (Again n (J l rk) m) Q)):WP P n (.loop c) l w Q:=qZ (J l rk) h0 hs hb
theorem C0{KA:Operand}{args:List Operand}{tys:Array TypeId}{f:FuncId}{caps vs all:List Value}(H:Hp b S w rs)
    (hf:gY l KA=some (.func (.func f) #[] caps.toArray)) (hargs:Fp l args=some vs) (hall:vs++caps=all) (J8:bJ P f) (hc:bO P f all.toArray w λv w'=>v=u/\Hp w S' w' [])
    (k:∀ w',Hp b S w' rs->WL P n bY Q K os ((d,u)::l) w') (hd:Nat.blt d n.size=true:=by rfl):WL P n bY Q K (⟨some d,.call ⟨.value KA,args.toArray,tys⟩,ty,pos,mO,none⟩::os) l w:=
  zq hf hargs hall J8 hc hd λv w' hv=>hv.1▸k w' (H.c0 hv.2)
end
section
variable {P:Program}{n:Cx}{l:List (Nat × Value)}{b w:World}{S:Nat->Prop}{rs rest rk:List lG}{K:Act->World->Prop}{bY:Array Oper}{ty:TypeId}{pos:String}{mO:Array Edge}{d:Nat}{fuel:Nat}{aW:Array Bool}{x:Operand}{v:Value}
theorem l9(i:Nat){op:Op}(hi:bY[i]? = some ⟨some d,op,ty,pos,mO,none⟩)(he:∀ w',Hp b S w' rk->Ev P n l w' op v)(hw:Hp b S w rk)(k:WH P n bY K (λw'=>Hp b S w' rk) fuel (aW.setIfInBounds i true) ((d,v)::l) w)(hs:Region.noSelect bY=true:=by kernel_rfl)(hf:tkc bY aW (aW.setIfInBounds i true) i=true:=by kernel_rfl)(hd:Nat.blt d n.size=true:=by rfl):WH P n bY K (λw'=>Hp b S w' rk) (fuel+1) aW l w:=WH.tn i _ hs hi hf he hd hw k
theorem lQ(i:Nat)(hi:bY[i]? = some ⟨some d,.move x,ty,pos,mO,none⟩)(hx:gY l x=some v)(hw:Hp b S w rk)(k:WH P n bY K (λw'=>Hp b S w' rk) fuel (aW.setIfInBounds i true) ((d,v)::l) w)(hs:Region.noSelect bY=true:=by kernel_rfl)(hf:tkc bY aW (aW.setIfInBounds i true) i=true:=by kernel_rfl)(hd:Nat.blt d n.size=true:=by rfl):WH P n bY K (λw'=>Hp b S w' rk) (fuel+1) aW l w:=l9 i hi (by grind [Ev.move]) hw k hs hf hd
theorem xL(i:Nat)(hi:bY[i]? = some ⟨some d,.assign x,ty,pos,mO,none⟩)(hx:gY l x=some v)(hw:Hp b S w rk)(k:WH P n bY K (λw'=>Hp b S w' rk) fuel (aW.setIfInBounds i true) ((d,v)::l) w)(hs:Region.noSelect bY=true:=by kernel_rfl)(hf:tkc bY aW (aW.setIfInBounds i true) i=true:=by kernel_rfl)(hd:Nat.blt d n.size=true:=by rfl):WH P n bY K (λw'=>Hp b S w' rk) (fuel+1) aW l w:=l9 i hi (by grind [Ev.assign]) hw k hs hf hd
theorem tgz(i:Nat){op:Op}{j:Nat}{bS:Bool}(hi:bY[i]? = some ⟨some d,op,ty,pos,mO,some (j,bS)⟩)(hg:guardOf bY l j=some (.bool bS))(he:∀ w',Hp b S w' rk->Ev P n l w' op v)(hw:Hp b S w rk)(k:WH P n bY K (λw'=>Hp b S w' rk) fuel (aW.setIfInBounds i true) ((d,v)::l) w)(hs:Region.noSelect bY=true:=by kernel_rfl)(hf:tkc bY aW (aW.setIfInBounds i true) i=true:=by kernel_rfl)(hd:Nat.blt d n.size=true:=by rfl):WH P n bY K (λw'=>Hp b S w' rk) (fuel+1) aW l w:=WH.tng i _ hs hi hg hf he hd hw k
theorem MN(i:Nat){op:Op}{j:Nat}{bS:Bool}{u:Value}(hi:bY[i]? = some ⟨some d,op,ty,pos,mO,some (j,bS)⟩)(hg:guardOf bY l j=some u)(hv:unlike bS u=true)(hw:Hp b S w rk)(k:WH P n bY K (λw'=>Hp b S w' rk) fuel (aW.setIfInBounds i true) ((d,undef)::l) w)(hs:Region.noSelect bY=true:=by kernel_rfl)(hf:tkc bY aW (aW.setIfInBounds i true) i=true:=by kernel_rfl)(hd:Nat.blt d n.size=true:=by rfl):WH P n bY K (λw'=>Hp b S w' rk) (fuel+1) aW l w:=WH.tnp i _ hs hi hg hv hf hd hw k
theorem tfz(i:Nat){s f off:Nat}{p q:Addr}(hi:bY[i]? = some ⟨some d,.fieldAddr s x f,ty,pos,mO,none⟩)(h1:dL P s f off)(hx:gY l x=some (.pointer (some p)))(hq:p.add off=q)(hw:Hp b S w rk)(k:WH P n bY K (λw'=>Hp b S w' rk) fuel (aW.setIfInBounds i true) ((d,.pointer (some q))::l) w)(hs:Region.noSelect bY=true:=by kernel_rfl)(hf:tkc bY aW (aW.setIfInBounds i true) i=true:=by kernel_rfl)(hd:Nat.blt d n.size=true:=by rfl):WH P n bY K (λw'=>Hp b S w' rk) (fuel+1) aW l w:=l9 i hi (by grind [Ev.field]) hw k hs hf hd
theorem tcz(i:Nat){p:Addr}(hi:bY[i]? = some ⟨some d,.nilCheck x,ty,pos,mO,none⟩)(hx:gY l x=some (.pointer (some p)))(hw:Hp b S w rk)(k:WH P n bY K (λw'=>Hp b S w' rk) fuel (aW.setIfInBounds i true) ((d,.pointer (some p))::l) w)(hs:Region.noSelect bY=true:=by kernel_rfl)(hf:tkc bY aW (aW.setIfInBounds i true) i=true:=by kernel_rfl)(hd:Nat.blt d n.size=true:=by rfl):WH P n bY K (λw'=>Hp b S w' rk) (fuel+1) aW l w:=l9 i hi (by grind [Ev.nilCheck]) hw k hs hf hd
theorem tlz(i:Nat){t t':TypeId}{g j:Nat}{cs:List Value}(hi:bY[i]? = some ⟨some d,.load t x,ty,pos,mO,none⟩)(h1:mg P t)(hx:gY l x=some (.pointer (some ⟨g,j,none⟩)))(s:pq rk (dW g t' cs) rest)(hc:cs[j]? = some v)(hw:Hp b S w rk)(k:WH P n bY K (λw'=>Hp b S w' rk) fuel (aW.setIfInBounds i true) ((d,v)::l) w)(hs:Region.noSelect bY=true:=by kernel_rfl)(hf:tkc bY aW (aW.setIfInBounds i true) i=true:=by kernel_rfl)(hd:Nat.blt d n.size=true:=by rfl):WH P n bY K (λw'=>Hp b S w' rk) (fuel+1) aW l w:=l9 i hi (λ_ hK=>eF h1 hx (hK.x s) hc) hw k hs hf hd
theorem xU(i:Nat){vs:List Value}{j:Nat}(hi:bY[i]? = some ⟨some d,.extract x j,ty,pos,mO,none⟩)(hx:gY l x=some (.tuple vs.toArray))(hj:vs[j]? = some v)(hw:Hp b S w rk)(k:WH P n bY K (λw'=>Hp b S w' rk) fuel (aW.setIfInBounds i true) ((d,v)::l) w)(hs:Region.noSelect bY=true:=by kernel_rfl)(hf:tkc bY aW (aW.setIfInBounds i true) i=true:=by kernel_rfl)(hd:Nat.blt d n.size=true:=by rfl):WH P n bY K (λw'=>Hp b S w' rk) (fuel+1) aW l w:=l9 i hi (by grind [Ev.extract]) hw k hs hf hd
end
section
variable {P:Program}{n:Cx}{l:List (Nat × Value)}{b w:World}{S:Nat->Prop}{rs rest rk:List lG}{Q Q':Exit->Act->World->Prop}{K:Act->World->Prop}{bY:Array Oper}{os:List Oper}{ty ty2:TypeId}{pos pos2:String}{mO aoI:Array Edge}{d d2:Nat}{fuel:Nat}{aW:Array Bool}{x x2 y2:Operand}{v:Value}{s f off:Nat}{p:Addr}{t t':TypeId}{cs:List Value}{y:Code}
theorem MO(i g j:Nat)(h1:dL P s f off)(h:(bY[i]?,gY l x,p.add off)=(some ⟨some d,.fieldAddr s x f,ty,pos,mO,none⟩,some (.pointer (some p)),⟨g,j,none⟩))(hw:Hp b S w rk)(k:WH P n bY K (λw'=>Hp b S w' rk) fuel ((aW).setIfInBounds (i) true) ((d,(.pointer (some ⟨g,j,none⟩)))::l) w)(hs:Region.noSelect bY=true:=by kernel_rfl)(hf0:tkc bY (aW) ((aW).setIfInBounds (i) true) (i)=true:=by kernel_rfl)(hd0:Nat.blt d n.size=true:=by rfl):WH P n bY K (λw'=>Hp b S w' rk) (fuel+1) (aW) l w:=tfz i (aV (·.1) h) h1 (aV (·.2.1) h) (aV (·.2.2) h) hw k hs hf0 hd0
theorem Db(i:Nat){g j:Nat}(s:pq rk (dW g t' cs) rest)(h:(bY[i]?,gY l x,cs[j]?)=(some ⟨some d,.load t x,ty,pos,mO,none⟩,some (.pointer (some ⟨g,j,none⟩)),some v))(hw:Hp b S w rk)(k:WH P n bY K (λw'=>Hp b S w' rk) fuel ((aW).setIfInBounds (i) true) ((d,v)::l) w)(hs:Region.noSelect bY=true:=by kernel_rfl)(hf0:tkc bY (aW) ((aW).setIfInBounds (i) true) (i)=true:=by kernel_rfl)(hd0:Nat.blt d n.size=true:=by rfl)(h1:mg P t:=by exact λ_=>by kernel_rfl):WH P n bY K (λw'=>Hp b S w' rk) (fuel+1) (aW) l w:=tlz i (aV (·.1) h) h1 (aV (·.2.1) h) s (aV (·.2.2) h) hw k hs hf0 hd0
theorem nJ(i i2 g j:Nat)(h1:dL P s f off)(s':pq rk (dW g t' cs) rest)(h:(bY[i]?,gY l x,p.add off,bY[i2]?,gY ((d,(.pointer (some ⟨g,j,none⟩)))::l) x2,cs[j]?)=(some ⟨some d,.fieldAddr s x f,ty,pos,mO,none⟩,some (.pointer (some p)),⟨g,j,none⟩,some ⟨some d2,.load t x2,ty2,pos2,aoI,none⟩,some (.pointer (some ⟨g,j,none⟩)),some v))(hw:Hp b S w rk)(k:WH P n bY K (λw'=>Hp b S w' rk) fuel (((aW).setIfInBounds (i) true).setIfInBounds (i2) true) ((d2,v)::(d,(.pointer (some ⟨g,j,none⟩)))::l) w)(hs:Region.noSelect bY=true:=by kernel_rfl)(hf0:tkc bY (aW) ((aW).setIfInBounds (i) true) (i)=true:=by kernel_rfl)(hd0:Nat.blt d n.size=true:=by rfl)(hf1:tkc bY ((aW).setIfInBounds (i) true) (((aW).setIfInBounds (i) true).setIfInBounds (i2) true) (i2)=true:=by kernel_rfl)(hd1:Nat.blt d2 n.size=true:=by rfl)(h2:mg P t:=by exact λ_=>by kernel_rfl):WH P n bY K (λw'=>Hp b S w' rk) (fuel+1+1) (aW) l w:=tfz i (aV (·.1) h) h1 (aV (·.2.1) h) (aV (·.2.2.1) h) hw (tlz i2 (aV (·.2.2.2.1) h) h2 (aV (·.2.2.2.2.1) h) s' (aV (·.2.2.2.2.2) h) hw k hs hf1 hd1) hs hf0 hd0
theorem Sr(i g j:Nat){p2:Addr}(h1:dL P s f off)(h:(bY[i]?,gY l x,bY[i+1]?,gY ((d,.pointer (some p))::l) x2,p2.add off)=(some ⟨some d,.nilCheck x,ty,pos,mO,none⟩,some (.pointer (some p)),some ⟨some d2,.fieldAddr s x2 f,ty2,pos2,aoI,none⟩,some (.pointer (some p2)),⟨g,j,none⟩))(hw:Hp b S w rk)(k:WH P n bY K (λw'=>Hp b S w' rk) fuel (((aW).setIfInBounds (i) true).setIfInBounds (i+1) true) ((d2,(.pointer (some ⟨g,j,none⟩)))::(d,.pointer (some p))::l) w)(hs:Region.noSelect bY=true:=by kernel_rfl)(hf0:tkc bY (aW) ((aW).setIfInBounds (i) true) (i)=true:=by kernel_rfl)(hd0:Nat.blt d n.size=true:=by rfl)(hf1:tkc bY ((aW).setIfInBounds (i) true) (((aW).setIfInBounds (i) true).setIfInBounds (i+1) true) (i+1)=true:=by kernel_rfl)(hd1:Nat.blt d2 n.size=true:=by rfl):WH P n bY K (λw'=>Hp b S w' rk) (fuel+1+1) (aW) l w:=tcz i (aV (·.1) h) (aV (·.2.1) h) hw (tfz (i+1) (aV (·.2.2.1) h) h1 (aV (·.2.2.2.1) h) (aV (·.2.2.2.2) h) hw k hs hf1 hd1) hs hf0 hd0
theorem tZ(i g j:Nat){p2:Addr}{d3:Nat}{ty3:TypeId}{aHX:String}{aHY:Array Edge}{x3:Operand}(h1:dL P s f off)(h:(bY[i]?,gY l x,bY[i+1]?,gY ((d,v)::l) x2,bY[i+2]?,gY ((d2,.pointer (some p))::(d,v)::l) x3,p2.add off)=(some ⟨some d,.move x,ty,pos,mO,none⟩,some v,some ⟨some d2,.nilCheck x2,ty2,pos2,aoI,none⟩,some (.pointer (some p)),some ⟨some d3,.fieldAddr s x3 f,ty3,aHX,aHY,none⟩,some (.pointer (some p2)),⟨g,j,none⟩))(hw:Hp b S w rk)(k:WH P n bY K (λw'=>Hp b S w' rk) fuel ((((aW).setIfInBounds (i) true).setIfInBounds (i+1) true).setIfInBounds (i+2) true) ((d3,(.pointer (some ⟨g,j,none⟩)))::(d2,.pointer (some p))::(d,v)::l) w)(hs:Region.noSelect bY=true:=by kernel_rfl)(hf0:tkc bY (aW) ((aW).setIfInBounds (i) true) (i)=true:=by kernel_rfl)(hd0:Nat.blt d n.size=true:=by rfl)(hf1:tkc bY ((aW).setIfInBounds (i) true) (((aW).setIfInBounds (i) true).setIfInBounds (i+1) true) (i+1)=true:=by kernel_rfl)(hd1:Nat.blt d2 n.size=true:=by rfl)(hf2:tkc bY (((aW).setIfInBounds (i) true).setIfInBounds (i+1) true) ((((aW).setIfInBounds (i) true).setIfInBounds (i+1) true).setIfInBounds (i+2) true) (i+2)=true:=by kernel_rfl)(hd2:Nat.blt d3 n.size=true:=by rfl):WH P n bY K (λw'=>Hp b S w' rk) (fuel+1+1+1) (aW) l w:=lQ i (aV (·.1) h) (aV (·.2.1) h) hw (tcz (i+1) (aV (·.2.2.1) h) (aV (·.2.2.2.1) h) hw (tfz (i+2) (aV (·.2.2.2.2.1) h) h1 (aV (·.2.2.2.2.2.1) h) (aV (·.2.2.2.2.2.2) h) hw k hs hf2 hd2) hs hf1 hd1) hs hf0 hd0
theorem yV(g j:Nat)(h1:dL P s f off)(h:(gY l x,p.add off)=(some (.pointer (some p)),⟨g,j,none⟩))(k:WL P n bY Q K (os) ((d,(.pointer (some ⟨g,j,none⟩)))::l) w)(hd:Nat.blt d n.size=true:=by rfl):WL P n bY Q K (⟨some d,.fieldAddr s x f,ty,pos,mO,none⟩::os) (l) w:=ev (fQ h1 (aV (·.1) h) (aV (·.2) h)) k hd
theorem nL{g j:Nat}(H:Hp b S w rs)(s:pq rs (dW g t' cs) rest)(h:(gY l x,cs[j]?)=(some (.pointer (some ⟨g,j,none⟩)),some v))(k:WL P n bY Q K (os) ((d,v)::l) w)(hd:Nat.blt d n.size=true:=by rfl)(h1:mg P t:=by exact λ_=>by kernel_rfl):WL P n bY Q K (⟨some d,.load t x,ty,pos,mO,none⟩::os) (l) w:=ev (eF h1 (aV (·.1) h) (H.x s) (aV (·.2) h)) k hd
theorem j6(g j:Nat)(h1:dL P s f off)(H:Hp b S w rs)(s':pq rs (dW g t' cs) rest)(h:(gY l x,p.add off,gY ((d,(.pointer (some ⟨g,j,none⟩)))::l) x2,cs[j]?)=(some (.pointer (some p)),⟨g,j,none⟩,some (.pointer (some ⟨g,j,none⟩)),some v))(k:WL P n bY Q K (os) ((d2,v)::(d,(.pointer (some ⟨g,j,none⟩)))::l) w)(hd:Nat.blt d n.size=true:=by rfl)(hd2:Nat.blt d2 n.size=true:=by rfl)(h2:mg P t:=by exact λ_=>by kernel_rfl):WL P n bY Q K (⟨some d,.fieldAddr s x f,ty,pos,mO,none⟩::⟨some d2,.load t x2,ty2,pos2,aoI,none⟩::os) (l) w:=ev (fQ h1 (aV (·.1) h) (aV (·.2.1) h)) (ev (eF h2 (aV (·.2.2.1) h) (H.x s') (aV (·.2.2.2) h)) k hd2) hd
theorem gfy(g j:Nat){m:Nat}{bS:Bool}(h1:dL P s f off)(h:(guardOf bY l m,gY l x,p.add off)=(some (.bool bS),some (.pointer (some p)),⟨g,j,none⟩))(k:WL P n bY Q K (os) ((d,(.pointer (some ⟨g,j,none⟩)))::l) w)(hd:Nat.blt d n.size=true:=by rfl):WL P n bY Q K (⟨some d,.fieldAddr s x f,ty,pos,mO,some (m,bS)⟩::os) (l) w:=bE (aV (·.1) h) (fQ h1 (aV (·.2.1) h) (aV (·.2.2) h)) hd k
theorem gby{g j m:Nat}{bS:Bool}(H:Hp b S w rs)(s:pq rs (dW g t' cs) rest)(h:(guardOf bY l m,gY l x,cs[j]?)=(some (.bool bS),some (.pointer (some ⟨g,j,none⟩)),some v))(k:WL P n bY Q K (os) ((d,v)::l) w)(hd:Nat.blt d n.size=true:=by rfl)(h1:mg P t:=by exact λ_=>by kernel_rfl):WL P n bY Q K (⟨some d,.load t x,ty,pos,mO,some (m,bS)⟩::os) (l) w:=bE (aV (·.1) h) (eF h1 (aV (·.2.1) h) (H.x s) (aV (·.2.2) h)) hd k
theorem wB(g j:Nat){m m2:Nat}{bS aw3:Bool}(h1:dL P s f off)(H:Hp b S w rs)(s':pq rs (dW g t' cs) rest)(h:(guardOf bY l m,gY l x,p.add off,guardOf bY ((d,(.pointer (some ⟨g,j,none⟩)))::l) m2,gY ((d,(.pointer (some ⟨g,j,none⟩)))::l) x2,cs[j]?)=(some (.bool bS),some (.pointer (some p)),⟨g,j,none⟩,some (.bool aw3),some (.pointer (some ⟨g,j,none⟩)),some v))(k:WL P n bY Q K (os) ((d2,v)::(d,(.pointer (some ⟨g,j,none⟩)))::l) w)(hd:Nat.blt d n.size=true:=by rfl)(hd2:Nat.blt d2 n.size=true:=by rfl)(h2:mg P t:=by exact λ_=>by kernel_rfl):WL P n bY Q K (⟨some d,.fieldAddr s x f,ty,pos,mO,some (m,bS)⟩::⟨some d2,.load t x2,ty2,pos2,aoI,some (m2,aw3)⟩::os) (l) w:=bE (aV (·.1) h) (fQ h1 (aV (·.2.1) h) (aV (·.2.2.1) h)) hd (bE (aV (·.2.2.2.1) h) (eF h2 (aV (·.2.2.2.2.1) h) (H.x s') (aV (·.2.2.2.2.2) h)) hd2 k)
theorem gU{KA:Operand}{args:List Operand}{tys:Array TypeId}{f:FuncId}{caps vs all:List Value}{R:Value->World->Prop}(h:(gY l KA,Fp l args,vs++caps)=(some (.func (.func f) #[] caps.toArray),some vs,all))(hc:bO P f all.toArray w R)(k:∀ v w',R v w'->WL P n bY Q K os ((d,v)::l) w')(hd:Nat.blt d n.size=true:=by rfl)(J8:bJ P f:=by exact λ_ _=>by kernel_rfl):WL P n bY Q K (⟨some d,.call ⟨.value KA,args.toArray,tys⟩,ty,pos,mO,none⟩::os) l w:=zq (aV (·.1) h) (aV (·.2.1) h) (aV (·.2.2) h) J8 hc hd k
theorem nD{KA:Operand}{args:List Operand}{tys:Array TypeId}{f:FuncId}{caps vs all:List Value}{u:Value}{S':Nat->Prop}(H:Hp b S w rs)(h:(gY l KA,Fp l args,vs++caps)=(some (.func (.func f) #[] caps.toArray),some vs,all))(hc:bO P f all.toArray w λv w'=>v=u/\Hp w S' w' [])(k:∀ w',Hp b S w' rs->WL P n bY Q K os ((d,u)::l) w')(hd:Nat.blt d n.size=true:=by rfl)(J8:bJ P f:=by exact λ_ _=>by kernel_rfl):WL P n bY Q K (⟨some d,.call ⟨.value KA,args.toArray,tys⟩,ty,pos,mO,none⟩::os) l w:=C0 H (aV (·.1) h) (aV (·.2.1) h) (aV (·.2.2) h) J8 hc k hd
theorem sty{g:Nat}{ds:List Value}{y:Operand}(h:(gY l x,gY l y,v.cells)=(some (gI g),some v,ds.toArray))(H:Hp b S w rs)(s:pq rs (dW g t' cs) rest)(h2:(cs.length,ds.all (λu=>u.oneCell'))=(ds.length,true))(k:∀ w',Hp b S w' (dW g t' ds::rest)->WL P n bY Q K os l w')(hs:Size P t ds.length:=by exact λ_=>by kernel_rfl):WL P n bY Q K (⟨none,.store t x y,ty,pos,mO,none⟩::os) l w:=stw (aV (·.1) h) (aV (·.2.1) h) (aV (·.2.2) h) hs H s (aV (·.1) h2) (aV (·.2) h2) k
theorem yD{g i:Nat}{y:Operand}(h:(gY l x,gY l y,v.oneCell')=(some (.pointer (some ⟨g,i,none⟩)),some v,true))(H:Hp b S w rs)(s:pq rs (dW g t' cs) rest)(hi:Nat.blt i cs.length=true)(k:∀ w',Hp b S w' (dW g t' (cs.set i v)::rest)->WL P n bY Q K os l w')(hs:Size P t 1:=by exact λ_=>by kernel_rfl):WL P n bY Q K (⟨none,.store t x y,ty,pos,mO,none⟩::os) l w:=stc (by grind) (by grind) (by grind) hs H s hi k
theorem xV{fn:Func}{R:Value->World->Prop}{rs:List ResultVar}{vs:List Value}(h:(fn.results,WE l rs,uF vs)=(rs.toArray,some vs,v))(hR:R v w)(hm:n.marks=[]:=by rfl):l8 n (bodyPost P fn (RR R)) .ret l w:=Uu (aV (·.1) h) (aV (·.2.1) h) (aV (·.2.2) h) hR hm
theorem iP{fn:Func}{R:Value->World->Prop}{rs:List ResultVar}{vs:List Value}(h:(fn.results,WE l rs,uF vs)=(rs.toArray,some vs,v))(hR:R v w)(hm:n.marks=[]:=by rfl):WP P n .ret l w (bodyPost P fn (RR R)):=jf (xV h hR hm)
theorem wO{fn:Func}{R:Value->World->Prop}{rs:List ResultVar}{vs:List Value}(h:(fn.results,WE l rs,uF vs)=(rs.toArray,some vs,v))(hR:R v w)(hm:n.marks=[]:=by rfl):WP P n .ret l w (Exit.then K (bodyPost P fn (RR R))):=jf (fO (xV h hR hm))
theorem Xb{id:Nat}{fn:Func}{R:Value->World->Prop}{rs:List ResultVar}{vs:List Value}(h:(fn.results,WE l rs,uF vs)=(rs.toArray,some vs,v))(hR:R v w)(hm:n.marks=[]:=by rfl):WP P n .ret l w (Exit.inBlock id (Exit.then K (bodyPost P fn (RR R)))):=jf (iX (fO (xV h hR hm)))
theorem jy(h:WP P n y l w Q):WP P n .skip l w (Exit.then (NU P n y Q) Q):=zo (gy h)
theorem Ci{id:Nat}(h:WP P n y l w Q):WP P n .skip l w (Exit.inBlock id (Exit.then (NU P n y Q) Q)):=zo (iw (gy h))
theorem xq{id:Nat}{J K2:Act->World->Prop}(h:WP P n y l w Q):WP P n (.exit id) l w (Exit.then J (Exit.then K2 (Exit.inBlock id (Exit.then (NU P n y Q) Q)))):=sP (mY (mY (um (gy h))))
theorem rU{f:FuncId}{fn:Func}{k:Nat}{c:Code}{vs:List Value}{R:Value->World->Prop}(hf:P.funcs[f]? = some fn)(hn:fn.ntmps=k)(h:(fn.body,Nat.ble vs.length k)=(some c,true))(h0:WP P (.bare k) c (enum 0 vs) w (bodyPost P fn (RR R))):bO P f vs.toArray w R:=WP.enter hf (by grind) hn (by grind) h0
theorem lg(S0:Nat->Prop){f:FuncId}{fn:Func}{k:Nat}{c:Code}{vs:List Value}{R:Value->World->Prop}(hf:P.funcs[f]? = some fn)(hn:fn.ntmps=k)(h:(fn.body,Nat.ble vs.length k)=(some c,true))(h0:Hp w S0 w []->WP P (.bare k) c (enum 0 vs) w (bodyPost P fn (RR R))):bO P f vs.toArray w R:=WP.enter hf (by grind) hn (by grind) (h0 (Hp.init w S0))
theorem aCb{f:FuncId}{fn:Func}{k:Nat}{c:Code}{vs:List Value}{R:Value->World->Prop}(hf:P.funcs[f]? = some fn)(hn:fn.ntmps=k)(h:(fn.body,Nat.ble vs.length k)=(some c,true))(h0:WP P (.bare k) c (enum 0 vs) w (bodyPostM Fence.wide 0 P fn (RR R))):bO P f vs.toArray w R:=WP.aoA hf (by grind) hn (by grind) h0
theorem aCc(S0:Nat->Prop){f:FuncId}{fn:Func}{k:Nat}{c:Code}{vs:List Value}{R:Value->World->Prop}(hf:P.funcs[f]? = some fn)(hn:fn.ntmps=k)(h:(fn.body,Nat.ble vs.length k)=(some c,true))(h0:Hp w S0 w []->WP P (.bare k) c (enum 0 vs) w (bodyPostM Fence.wide 0 P fn (RR R))):bO P f vs.toArray w R:=WP.aoA hf (by grind) hn (by grind) (h0 (Hp.init w S0))
theorem cjz{C:Code}(_:Hp b S w rs)(_:∀ w',Hp b S w' rs->Hp b S w' rk)(J:List (Nat × Value)->List lG->List (Nat × Value)->World->Prop)(h:∀ l' w',J l rk l' w'->WP P n y l' w' Q)(k:(∀ l' w',J l rk l' w'->WP P n y l' w' Q)->WP P n C l w (Exit.then (NU P n y Q) Q)):WP P n C l w (Exit.then (NU P n y Q) Q):=k h
theorem WP.kz{l':List (Nat × Value)}(h:WP P n y l' w Q)(hs:Sb l l'):WP P n y l w Q:=WP.keep' l' hs h
def ajB(A:List (Nat × Nat × Value))(aW:Array Bool):Array Bool:=A.foldl (λf p=>f.setIfInBounds p.1 true) aW
theorem wiz(H:Hp b S w rs)(A:List (Nat × Nat × Value))(rest:Nat)(hok:qM bY (A.map (·.1)) rest (ajB A aW) fuel aW=true)(hq:∀ p∈A,Es P n bY (λw'=>Hp b S w' rs) l A p)(k:∀ w',Hp b S w' rs->WI P n bY Q rest (ajB A aW) (A.map (·.2)++l) w')(hd:nodupB (A.map (·.2.1))=true:=by kernel_rfl)(hf:A.all (λp=>(ajB A aW).getD p.1 false)=true:=by kernel_rfl)(hl:A.all (λp=>!aW.getD p.1 false)=true:=by kernel_rfl)(hp:n.plain=false:=by rfl):WI P n bY Q fuel aW l w:=WI.block A rest (ajB A aW) hok hd hf hl hq H k hp
section
variable {T:World->Prop}{A B:List (Nat × Nat × Value)}{i:Nat}{o:Oper}{op:Op}{j:Nat}{bS:Bool}{u:Value}
theorem qnz:∀ p∈([]:List (Nat × Nat × Value)),Es P n bY T l A p:=nofun
theorem qcz(h:(bY[i]?,o.dst,Nat.blt d n.size,look l d)=(some o,some d,true,none))(hQ:Qi P n bY T (Iq o A++l) o v)(t:∀ p∈B,Es P n bY T l A p):∀ p∈(i,d,v)::B,Es P n bY T l A p:=List.forall_mem_cons.2 ⟨⟨o,(aV (·.1) h),(aV (·.2.1) h),(aV (·.2.2.1) h),(aV (·.2.2.2) h),hQ⟩,t⟩
theorem zV(h:(bY[i]?,Nat.blt d n.size,look l d,guardOf bY (Iq ⟨some d,op,ty,pos,mO,some (j,bS)⟩ A++l) j,unlike bS u)=(some ⟨some d,op,ty,pos,mO,some (j,bS)⟩,true,none,some u,true))(t:∀ p∈B,Es P n bY T l A p):∀ p∈(i,d,undef)::B,Es P n bY T l A p:=List.forall_mem_cons.2 ⟨⟨_,(aV (·.1) h),rfl,(aV (·.2.1) h),(aV (·.2.2.1) h),Qi.pass (aV (·.2.2.2.1) h) (aV (·.2.2.2.2) h)⟩,t⟩
theorem Gx(h:(bY[i]?,Nat.blt d n.size,look l d)=(some ⟨some d,op,ty,pos,mO,none⟩,true,none))(hE:∀ w,T w->Ev P n (Iq ⟨some d,op,ty,pos,mO,none⟩ A++l) w op v)(t:∀ p∈B,Es P n bY T l A p):∀ p∈(i,d,v)::B,Es P n bY T l A p:=List.forall_mem_cons.2 ⟨⟨_,(aV (·.1) h),rfl,(aV (·.2.1) h),(aV (·.2.2) h),xD hE⟩,t⟩
theorem NG(h:(bY[i]?,Nat.blt d n.size,look l d,guardOf bY (Iq ⟨some d,op,ty,pos,mO,some (j,bS)⟩ A++l) j)=(some ⟨some d,op,ty,pos,mO,some (j,bS)⟩,true,none,some (.bool bS)))(hE:∀ w,T w->Ev P n (Iq ⟨some d,op,ty,pos,mO,some (j,bS)⟩ A++l) w op v)(t:∀ p∈B,Es P n bY T l A p):∀ p∈(i,d,v)::B,Es P n bY T l A p:=List.forall_mem_cons.2 ⟨⟨_,(aV (·.1) h),rfl,(aV (·.2.1) h),(aV (·.2.2.1) h),Qi.evg (aV (·.2.2.2) h) hE⟩,t⟩
end
end
end
section
open Go.ChangeShapes Go.WideShapes Go.ChangeAt Go.RowKit Go.Deep Go.Proofs.Tryz
def Reads{α:Type}(P:Program)(e:TypeId)(τ:Ty α)(good:α->Prop):Prop:=
  ∀ {H:Type} (enc:TypeId × Value->H) (w:World) (base:Nat) (spare:Nat->Bool) (held:Bool) (fuel:Nat) (cs:List Value) (x:DataW H × List MemPlace),
    DataW.trod enc P w base spare held fuel e cs=some x->∃ y,τ.R Any w y cs/\good y
theorem in_i64{x:Int}(h:(Lit.int .i64 x).wf=true):qC x:=by
  simp only [Lit.wf,bK,bM] at h
  have e1:IntKind.i64.min=-9223372036854775808:=au;have e2:IntKind.i64.max=9223372036854775807:=au;rw [e1,e2] at h;exact h
section
variable {H:Type}{enc:TypeId × Value->H}{P:Program}{w:World}{base:Nat}{spare:Nat->Bool}{held:Bool}
theorem KS{α:Type}{q:Nat->α->Prop}:∀(n:Nat),(∀ i,i<n->∃ x,q i x)->∃ xs:List α,xs.length=n/\∀(i:Nat)(x:α),xs[i]? = some x->q i x
  | 0,_=>⟨[],rfl,λi x hx=>by simp at hx⟩
  | n+1,h=>by
    obtain⟨xs,h1,h2⟩:=KS n (λi hi=>h i aj);obtain⟨x,hx⟩:=h n aj;refine⟨xs++[x],by simp [h1],λi y hy=>?_⟩
    by_cases hi:i<xs.length
    · rw [WK hi] at hy
      exact h2 i y hy
    · rw [Z0 aj] at hy
      have h3:i - xs.length=0:=by
        rcases Nat.eq_zero_or_pos (i - xs.length) with h | h
        · exact h
        · rw [Oj (by simp; omega)] at hy; cases hy
      rw [h3] at hy
      simp at hy
      subst hy;have:i=n:=aj;subst this;exact hx
theorem Reads.slice{α:Type}{e t:TypeId}{τ:Ty α}{good:α->Prop}(hr:Reads P e τ good)(hk:P.cellsOf e=τ.k)(ht:P.underlying t=some (.slice e)){fuel:Nat}{cs:List Value}{x:DataW H × List MemPlace}(h:DataW.trod enc P w base spare held fuel t cs=some x) :
    ∃(A:ah)(xs:List α)(c:Nat),cs=[.slice A xs.length c]/\Sl τ Any w A c xs/\∀ y∈xs,good y:=by
  rcases open_slice ht h with ⟨h1,_⟩ | ⟨a,len,cap,m,n,D,Pl,h1,_,h3,h4,h5,_,h7⟩
  · exact⟨none,[],0,h1,RV τ _ w,λy hy=>by simp at hy⟩
  · have hm:len<=m:=by grind
    obtain⟨xs,hl,hx⟩:=KS (q:=λi y=>(∃ cs',τ.R Any w y cs'/\∀ j u,cs'[j]? = some u->w.cell? (a.add (i*τ.k+j))=some u)/\good y) len (λi hi=>by
      obtain⟨cs',hc,ht'⟩:=h7 i aj;obtain⟨y,hy,hg⟩:=hr _ _ _ _ _ _ _ _ ht';obtain⟨_,hcl,hat⟩:=World.cells?_some hc
      grind [fV])
    subst hl;refine⟨some a,xs,cap,h1,⟨h3,h4,av,λi y hy=>⟨trivial,(hx i y hy).1⟩⟩,λy hy=>?_⟩
    grind [List.getElem?_of_mem]
theorem arg_slice{α:Type}{e t:TypeId}{τ:Ty α}{good:α->Prop}(hr:Reads P e τ good)(hk:P.cellsOf e=τ.k)(ht:P.underlying t=some (.slice e)){r:Reach}{b0:Nat}{v:Value}{d:DataW H}{p:List MemPlace}(hv:Value.okWide P w r b0 t v)(h:DataW.Trod enc P w base spare held t v d p) :
    ∃(A:ah)(xs:List α)(c:Nat),v=.slice A xs.length c/\Sl τ Any w A c xs/\∀ y∈xs,good y:=by
  obtain⟨a,n,c,rfl⟩:=okWide_slice ht hv;obtain⟨fuel,hf⟩:=h;obtain⟨A,xs,c',h1,h2⟩:=hr.slice hk ht hf
  simp [Value.cells] at h1
  grind
theorem arg_struct{α:Type}{t:TypeId}{fs:Array Field}{τ:Ty α}{good:α->Prop}(hr:Reads P t τ good)(hs:P.underlying t=some (.struct fs)){r:Reach}{b0:Nat}{v:Value}{d:DataW H}{p:List MemPlace}(hv:Value.okWide P w r b0 t v)(h:DataW.Trod enc P w base spare held t v d p) :
    ∃(x:α)(cs:List Value),v=.agg cs.toArray/\τ.R Any w x cs/\good x:=by
  obtain⟨cs,rfl,_⟩:=okWide_struct hs hv;obtain⟨fuel,hf⟩:=h;obtain⟨x,h1,h2⟩:=hr _ _ _ _ _ _ _ _ hf;exact⟨x,cs.toList,av,h1,h2⟩
theorem get_ok{α:Type}{xs:List α}{n i:Nat}(h:xs.length=n)(hi:i<n):∃ y,xs[i]? = some y:=⟨xs[i]'aj,Ij _⟩
end
theorem len_succ{cs:List Value}{n:Nat}(h:cs.length=n+1):∃ c cs',cs=c::cs'/\cs'.length=n:=by
  cases cs <;> grind
theorem len_zero{cs:List Value}(h:cs.length=0):cs=[]:=qF h
end
section
open Go.Shelf Go.Proofs.Tryz
def Tryz.lays189_ren:Go.Shelf.Ren:=⟨λ| 189=>189 | 125=>280 | 257=>279 | 128=>383 | 129=>384 | 294=>374 | 295=>375 | 296=>376 | 297=>377 | 298=>378 | 299=>379 | 216=>380 | 300=>381 | 301=>382 | 328=>429 | 329=>430 | 330=>431 | 331=>432 | 332=>433 | 215=>282 | 343=>449 | n=>n,λ| 28=>55 | 3=>3 | 46=>97 | 0=>0 | 51=>57 | 53=>367 | 4=>4 | 183=>361 | 182=>360 | 131=>161 | 5=>5 | 9=>9 | 218=>394 | 222=>398 | 228=>408 | 229=>141 | n=>n,λ| n=>n⟩
theorem Tryz.lays189:Go.Proofs.Lays.n189 prog Tryz.lays189_ren:={
  mixed:=by rfl
  f125:=by rfl
  f128:=by rfl
  f129:=by rfl
  f189:=by rfl
  f215:=by rfl
  f216:=by rfl
  f257:=by rfl
  f294:=by rfl
  f295:=by rfl
  f296:=by rfl
  f297:=by rfl
  f298:=by rfl
  f299:=by rfl
  f300:=by rfl
  f301:=by rfl
  f328:=by rfl
  f329:=by rfl
  f330:=by rfl
  f331:=by rfl
  f332:=by rfl
  f343:=by rfl
  t0:=underlying0
  a0:=Tryz.isAgg0
  z0:=Tryz.sizeOf0
  v0:=Tryz.zeroValue0
  t3:=iJ
  a3:=Tryz.isAgg3
  z3:=Tryz.sizeOf3
  v3:=Tryz.zeroValue3
  t4:=Sm
  a4:=Tryz.isAgg4
  z4:=Tryz.sizeOf4
  v4:=Tryz.zeroValue4
  t5:=underlying5
  a5:=Tryz.isAgg5
  z5:=Tryz.sizeOf5
  v5:=Tryz.zeroValue5
  t9:=underlying9
  a9:=Tryz.isAgg9
  z9:=Tryz.sizeOf9
  v9:=Tryz.zeroValue9
  t28:=fA
  a28:=Tryz.isAgg55
  z28:=Tryz.sizeOf55
  v28:=Tryz.zeroValue55
  t46:=underlying97
  a46:=Tryz.isAgg97
  z46:=Tryz.sizeOf97
  v46:=Tryz.zeroValue97
  t51:=underlying57
  a51:=Tryz.isAgg57
  z51:=Tryz.sizeOf57
  v51:=Tryz.zeroValue57
  t53:=underlying367
  a53:=Tryz.isAgg367
  z53:=Tryz.sizeOf367
  v53:=Tryz.zeroValue367
  t131:=underlying161
  a131:=Tryz.isAgg161
  z131:=Tryz.sizeOf161
  v131:=Tryz.zeroValue161
  t182:=underlying360
  a182:=Tryz.isAgg360
  z182:=Tryz.sizeOf360
  v182:=Tryz.zeroValue360
  t183:=underlying361
  a183:=Tryz.isAgg361
  z183:=Tryz.sizeOf361
  v183:=Tryz.zeroValue361
  t218:=underlying394
  a218:=Tryz.isAgg394
  z218:=Tryz.sizeOf394
  v218:=Tryz.zeroValue394
  t222:=underlying398
  a222:=Tryz.isAgg398
  z222:=Tryz.sizeOf398
  v222:=Tryz.zeroValue398
  t228:=underlying408
  a228:=Tryz.isAgg408
  z228:=Tryz.sizeOf408
  v228:=Tryz.zeroValue408
  t229:=underlying141
  a229:=Tryz.isAgg141
  z229:=Tryz.sizeOf141
  v229:=Tryz.zeroValue141 }
def Tryz.laysF6_ren:Go.Shelf.Ren:=⟨λ| 6=>406 | 15=>280 | 14=>436 | 28=>383 | 29=>384 | 20=>450 | 21=>451 | 22=>452 | 23=>453 | 24=>454 | 25=>455 | 26=>456 | 27=>457 | 46=>462 | 47=>430 | 48=>431 | 49=>463 | 50=>464 | 57=>469 | n=>n,λ| 22=>41 | 24=>78 | 25=>377 | 3=>3 | 39=>97 | 0=>0 | 53=>57 | 55=>367 | 4=>4 | 46=>361 | 45=>360 | 50=>161 | 5=>5 | 9=>9 | 66=>394 | 70=>398 | 76=>408 | 77=>141 | n=>n,λ| n=>n⟩
theorem Tryz.laysF6:Go.Proofs.SlLaysF0.n6 prog Tryz.laysF6_ren:={
  mixed:=by rfl
  f6:=⟨Tryz.f406.name,au,by rfl⟩
  f14:=⟨Tryz.f436.name,au,by rfl⟩
  f15:=by rfl
  f20:=⟨Tryz.f450.name,au,by rfl⟩
  f21:=⟨Tryz.f451.name,au,by rfl⟩
  f22:=⟨Tryz.f452.name,au,by rfl⟩
  f23:=⟨Tryz.f453.name,au,by rfl⟩
  f24:=⟨Tryz.f454.name,au,by rfl⟩
  f25:=⟨Tryz.f455.name,au,by rfl⟩
  f26:=⟨Tryz.f456.name,au,by rfl⟩
  f27:=⟨Tryz.f457.name,au,by rfl⟩
  f28:=by rfl
  f29:=by rfl
  f46:=⟨Tryz.f462.name,au,by rfl⟩
  f47:=by rfl
  f48:=by rfl
  f49:=⟨Tryz.f463.name,au,by rfl⟩
  f50:=⟨Tryz.f464.name,au,by rfl⟩
  f57:=⟨Tryz.f469.name,au,by rfl⟩
  t0:=underlying0
  a0:=Tryz.isAgg0
  z0:=Tryz.sizeOf0
  v0:=Tryz.zeroValue0
  t3:=iJ
  a3:=Tryz.isAgg3
  z3:=Tryz.sizeOf3
  v3:=Tryz.zeroValue3
  t4:=Sm
  a4:=Tryz.isAgg4
  z4:=Tryz.sizeOf4
  v4:=Tryz.zeroValue4
  t5:=underlying5
  a5:=Tryz.isAgg5
  z5:=Tryz.sizeOf5
  v5:=Tryz.zeroValue5
  t9:=underlying9
  a9:=Tryz.isAgg9
  z9:=Tryz.sizeOf9
  v9:=Tryz.zeroValue9
  t22:=lq
  a22:=Tryz.isAgg41
  z22:=Tryz.sizeOf41
  v22:=Tryz.zeroValue41
  t25:=underlying377
  a25:=Tryz.isAgg377
  z25:=Tryz.sizeOf377
  v25:=Tryz.zeroValue377
  t39:=underlying97
  a39:=Tryz.isAgg97
  z39:=Tryz.sizeOf97
  v39:=Tryz.zeroValue97
  t45:=underlying360
  a45:=Tryz.isAgg360
  z45:=Tryz.sizeOf360
  v45:=Tryz.zeroValue360
  t46:=underlying361
  a46:=Tryz.isAgg361
  z46:=Tryz.sizeOf361
  v46:=Tryz.zeroValue361
  t50:=underlying161
  a50:=Tryz.isAgg161
  z50:=Tryz.sizeOf161
  v50:=Tryz.zeroValue161
  t53:=underlying57
  a53:=Tryz.isAgg57
  z53:=Tryz.sizeOf57
  v53:=Tryz.zeroValue57
  t55:=underlying367
  a55:=Tryz.isAgg367
  z55:=Tryz.sizeOf367
  v55:=Tryz.zeroValue367
  t66:=underlying394
  a66:=Tryz.isAgg394
  z66:=Tryz.sizeOf394
  v66:=Tryz.zeroValue394
  t70:=underlying398
  a70:=Tryz.isAgg398
  z70:=Tryz.sizeOf398
  v70:=Tryz.zeroValue398
  t76:=underlying408
  a76:=Tryz.isAgg408
  z76:=Tryz.sizeOf408
  v76:=Tryz.zeroValue408
  t77:=underlying141
  a77:=Tryz.isAgg141
  z77:=Tryz.sizeOf141
  v77:=Tryz.zeroValue141 }
end
section
open Go.RowKit Go.Proofs.Tryz
theorem auq(x:Int):∀ u∈[Value.int .i64 x],u.oneCell'=true:=by intro u hu; simp only [iR,mP,tq] at hu; rw [hu]; rfl
def dQ:Ty Int:=Ty.flat 1 (λx=>[.int .i64 x]) au av auq
instance:Flat dQ:=⟨λh=>h⟩
theorem nM{α:Type}{p:α->Bool}{l:List α}{k:Nat}{x:α}(hx:l[k]? = some x):(l.take (k+1)).filter p=(l.take k).filter p++(if p x=true then[x] else[]):=by
  simp_all [fC,Bz,KQ,List.filter_nil]
theorem aoJ:bJ prog 282:=λ_ _=>by rfl
theorem uf:Size prog 3 1:=λ_=>by rfl
theorem jN:mg prog 3:=λ_=>by rfl
theorem Xc{S0:Nat->Prop}(w:World)(x:Int) :
    bO prog 282 #[aI x] w λv w'=>v=.bool false/\Hp w S0 w' []:=by
 refine WP.enter func282 Y ntmps282 Y ?_;have H0:=Hp.init w S0;refine rg<|jk Y<|dn<|rg<|mv Y<|mv Y<|ev (rY Y Y)<|jk Y<|dn<|jf (Uu Y Y Y ?_)
 have fT:((!decide (x=x)):Bool)=false:=by simp
 exact⟨by rw [fT] <;> rfl,H0⟩
theorem nZ{S0:Nat->Prop}(w:World)(x:Int)(y:Int) :
    bO prog 195 #[aI x,.int .i64 y] w λv w'=>v=aI (bL x y)/\Hp w S0 w' []:=by
 refine WP.enter func195 Y ntmps195 Y ?_;have H0:=Hp.init w S0;refine rg<|jk Y<|dn<|rg<|mv Y<|C0 H0 Y Y Y aoJ (Xc (S0:=Any) _ x) λw1 K1=>jk Y<|dn<|rg<|mv Y<|C0 K1 Y Y Y aoJ (Xc (S0:=Any) _ y) λw2 K2=>jk Y<|dn<|aY<|rg<|mv Y<|dn ?_
 refine bP Y (λ_h=>absurd _h au) (λ_h=>?_);refine zo (gy ?_);refine aY<|rg<|mv Y<|dn<|bP Y (λ_h=>absurd _h au) (λ_h=>?_)
 refine zo (gy ?_);refine aY<|rg<|mv Y<|mv Y<|ev (fD Y Y)<|dn<|bP Y (λhc16=>?_) (λhc16=>?_)
 ·replace hc16:=iY hc16;refine rg<|jk Y<|dn<|jf (fO (Uu Y Y Y ?_))
  exact⟨by unfold bL; rw [aS hc16] <;> rfl,K2⟩
 replace hc16:=jS hc16;refine zo (gy ?_);refine aY<|rg<|mv Y<|mv Y<|ev (sQ Y Y)<|dn<|bP Y (λhc19=>?_) (λhc19=>?_)
 ·replace hc19:=iY hc19;refine rg<|jk Y<|dn<|jf (fO (Uu Y Y Y ?_))
  exact⟨by unfold bL; rw [aP hc16,aS hc19] <;> rfl,K2⟩
 replace hc19:=jS hc19;refine zo (gy ?_);refine rg<|jk Y<|dn<|jf (Uu Y Y Y ?_)
 exact⟨by unfold bL; rw [aP hc16,aP hc19] <;> rfl,K2⟩
end
end Go.Proofs.YtlhnnmlenkahlaaGreat
