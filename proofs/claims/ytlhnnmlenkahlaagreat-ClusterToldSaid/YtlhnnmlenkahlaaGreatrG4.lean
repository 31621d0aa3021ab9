/- Lemmas. -/
import Derived.ProofKit
import Derived.OpenShut
import Derived.ShutString
import Derived.ChangeOld
import Derived.Deep.Slices
import Derived.Deep.Fields
import Derived.Shelf.Sort.Plain
import Derived.Shelf.Slices.In.SortNone
import Derived.Shelf.SlSortCmp.NoneTotal
import Derived.Ground.SlsfProg
import Derived.Test.YtlhnnmlenkahlaaGreatProg
import Derived.Test.YtlhnnmlenkahlaaGreatRows
import Derived.Test.YtlhnnmlenkahlaaGreatrG3
set_option linter.all false
namespace Go.Proofs.YtlhnnmlenkahlaaGreat
open Go.RowKit Go.Proofs.Tryz
def sM:=@List.getElem?_of_mem
def SQ:=@List.mem_flatMap
def WM:=@MapKept.findNow_spec
def xA:=@Bool.eq_false_iff
def ah5:=@MapKept.run_keyThatStays
def vX:=@List.filter_append
def Gj:=@List.find?_cons_of_pos
def vI:=@List.find?_cons_of_neg
def Ce:=@List.find?_eq_none
def Lc:=@List.pairwise_map
def bO:=@decide_eq_true_eq
def iQ:=@underlying3
def SS:=@underlying4
def fB:=@underlying55
def nW:=@underlying41
def lM:=@List.not_mem_nil
def sN:=@or_false
def Iz:=@List.filter_cons
def abY:=@List.filter_nil
variable {s:List (Int × Int)}{j i fuel g:Nat}{e t kt et:TypeId}{op:Op}{bW:Bool}{v u:Value}{aX listed' full:Array Bool}{rk:List lH}{Z:World->Prop}{J:List (Nat × Value)->World->Prop}{l':List (Nat × Value)}{o:Oper}{S' S0:Nat->Prop}{dh:Array Oper}{Q:Exit->Act->World->Prop}{cs:List Value}{m ky:Operand}{α:Type}{p:α->Bool}{xs:List α}{τ:Ty α}{good:α->Prop}
def xO(s:List Int):Array MapEntry:=(s.zipIdx.map λp=>⟨.int .i64 p.1,.bool true,p.2⟩).toArray
def SV(s:List Int)(z:Int):List Int:=if s.contains z then s else s++[z]
theorem amh(s:List Int):(xO s).size=s.length:=by simp [xO]
theorem ami(s:List Int)(z:Int):(xO s).push ⟨aF z,.bool true,s.length⟩=xO (s++[z]):=by
  simp [xO,List.zipIdx_append]
theorem WO{s:List Int}{e:MapEntry}(h:(xO s).toList[j]? = some e):∃ z,s[j]? = some z/\e=⟨aF z,.bool true,j⟩:=by
  simp only [xO,lK,List.getElem?_zipIdx,J5] at h
  cases hs:s[j]? with
  | none=>simp [hs] at h
  | some z=>simp [hs] at h; exact⟨z,rfl,h.symm⟩
theorem aeV{s:List Int}{z:Int}(h:s[j]? = some z):(xO s).modify j (λe=>{ e with key:=aF z,val:=.bool true })=xO s:=by
  apply Array.ext_getElem?;intro i;rw [aoH]
  by_cases hij:j=i
  · subst hij
    rw [aO rfl]
    have h1:(xO s)[j]? = some ⟨aF z,.bool true,j⟩:=by
      rw [<- D9]; simp [xO,h]
    rw [h1]; rfl
  · rw [aK hij]
theorem aaB(s:List Int):∀ x∈(xO s).toList,MapKept.IsKey (.int .i64) x.key:=by
  intro x hx;obtain⟨j,hj⟩:=sM hx;obtain⟨z,_,rfl⟩:=WO hj
  simp [MapKept.IsKey]
section
variable {P:Program}{n:Cx}{l:List (Nat × Value)}{b w:World}{S:Nat->Prop}{rs rest:List lH}{Q:Exit->Act->World->Prop}{K:Act->World->Prop}{dh:Array Oper}{os:List Oper}{ty:TypeId}{pos:String}{mI:Array Edge}{d:Nat}
theorem unwanted{dd:Option Nat}(hg:guardOf dh l j=some v)(hv:unlike bW v=true)(a:Act)(ha:Has n l a) :
    Region.wanted ⟨dd,op,ty,pos,mI,some (j,bW)⟩ (yielded dh a.tmps)=false:=by
  show(yielded dh a.tmps j == some bW)=false;rw [DY ha hg]
  cases v <;> simp [unlike] at hv ⊢
  cases bW <;> simp_all
def tkc(dh:Array Oper)(aX listed':Array Bool)(i:Nat):Bool:=
  Region.free .any dh aX i&&((!aX.getD i true&&((dh[i]?).map λo=>o.after.all λe=>!Region.binds .any e||aX.getD e.on false).getD false)&&(aX.setIfInBounds i true).toList == listed'.toList)
theorem IB(h:tkc dh aX listed' i=true):Region.free .any dh aX i=true/\(Region.ready .any dh aX).contains i=true/\aX.setIfInBounds i true=listed':=by
  simp only [tkc,bN,OT] at h
  refine⟨h.1,?_,Array.toList_inj.1 h.2.2⟩;rw [nI];unfold Region.ready;refine nJ.2 ⟨?_,by simpa only [bN] using h.2.1⟩;rw [List.mem_range];have h1:=h.2.1.2
  cases ho:dh[i]? with
  | none=>rw [ho] at h1; simp at h1
  | some o=>exact(vW.1 ho).1
theorem WH.tn(i:Nat)(listed':Array Bool){d:Nat}(hs:Region.noSelect dh=true)(hi:dh[i]? = some ⟨some d,op,ty,pos,mI,none⟩)(hf:tkc dh aX listed' i=true)
    (he:∀ w',Hp b S w' rk->Ev P n l w' op v) (hd:Nat.blt d n.size=true) (hw:Hp b S w rk) (k:WH P n dh K (λw'=>Hp b S w' rk) fuel listed' ((d,v)::l) w) :
    WH P n dh K (λw'=>Hp b S w' rk) (fuel+1) aX l w:=WH.tk i hi hs (IB hf).1 (IB hf).2.1 he hd hw ((IB hf).2.2▸k)
theorem WH.tng(i:Nat)(listed':Array Bool){d:Nat}(hs:Region.noSelect dh=true)(hi:dh[i]? = some ⟨some d,op,ty,pos,mI,some (j,bW)⟩)(hg:guardOf dh l j=some (.bool bW))(hf:tkc dh aX listed' i=true)
    (he:∀ w',Hp b S w' rk->Ev P n l w' op v) (hd:Nat.blt d n.size=true) (hw:Hp b S w rk) (k:WH P n dh K (λw'=>Hp b S w' rk) fuel listed' ((d,v)::l) w) :
    WH P n dh K (λw'=>Hp b S w' rk) (fuel+1) aX l w:=WH.tkg i hi hg hs (IB hf).1 (IB hf).2.1 he hd hw ((IB hf).2.2▸k)
theorem WH.tnp(i:Nat)(listed':Array Bool){d:Nat}(hs:Region.noSelect dh=true)(hi:dh[i]? = some ⟨some d,op,ty,pos,mI,some (j,bW)⟩)(hg:guardOf dh l j=some u)(hv:unlike bW u=true)(hf:tkc dh aX listed' i=true)
    (hd:Nat.blt d n.size=true) (hw:Hp b S w rk) (k:WH P n dh K (λw'=>Hp b S w' rk) fuel listed' ((d,undef)::l) w) :
    WH P n dh K (λw'=>Hp b S w' rk) (fuel+1) aX l w:=λa ha=>
  wpAnyH_take hi hs (IB hf).1 (IB hf).2.1 (λ_ _ _ h=>h) (.inr ⟨unwanted hg hv a ha,rfl⟩) hw ((IB hf).2.2▸k _ (ha.put hd undef))
theorem WH.re2{t:Nat}(hl:look l t=some u)(e:u=v)(k:WH P n dh K Z fuel aX ((t,v)::l) w):WH P n dh K Z fuel aX l w:=λa ha=>k a (ha.set hl e)
def LM(n m:Nat):Array Bool:=((List.range n).map λi=>m.testBit i).toArray
theorem WH.kj(hS:∀ l w,J l w->WH P n dh K Z fuel listed' l w)(he:((aX.setIfInBounds i true).toList == listed'.toList)=true)(hk:Z w)(hJ:J l' w)(hs:Sb l l') :
    WL P n.BA dh (Only K) (HK P dh K Z fuel (aX.setIfInBounds i true)) [] l w:=by
  have e:aX.setIfInBounds i true=listed':=Array.toList_inj.1 (by simpa using he);exact aQ hk (e▸λa ha=>hS l' w hJ a (ha.sb hs))
abbrev Ld(iD:Array Bool)(ji:Nat):=iD.setIfInBounds ji true
theorem WH.one(i:Nat)(hr:Region.ready .any dh aX=[i])(hi:dh[i]? = some o)(h:WL P n.BA dh (Only K) (HK P dh K Z fuel (Ld aX i)) [o] l w):WH P n dh K Z (fuel+1) aX l w:=
  yO hr av λj hj=>by obtain rfl:=j4.1 hj; exact⟨o,hi,h⟩
theorem WH.two(i j:Nat){o':Oper}(hr:Region.ready .any dh aX=[i,j])(hi:dh[i]? = some o)(hj:dh[j]? = some o')(h:WL P n.BA dh (Only K) (HK P dh K Z fuel (Ld aX i)) [o] l w)(h':WL P n.BA dh (Only K) (HK P dh K Z fuel (Ld aX j)) [o'] l w):WH P n dh K Z (fuel+1) aX l w:=
  yO hr av λk hk=>by
    rcases iX.1 hk with rfl | hk
    · exact⟨o,hi,h⟩
    · obtain rfl:=j4.1 hk; exact⟨o',hj,h'⟩
theorem Hp.f4{w':World}{F:List lH}{r1 r2 r3 r4:lH}[za r1][za r2][za r3][za r4](H:Hp b S w F)(h:Hp w S' w' [r1,r2,r3,r4]):Hp b S w' (r1::r2::r3::r4::F):=H.lift h.re
theorem Hp.z(H:Hp b S w rs):Hp b S w []:=⟨H.ext,λr hr=>by simp at hr,λr hr=>by simp at hr,List.Pairwise.nil⟩
theorem Hp.f5{w':World}{F:List lH}{r1 r2 r3 r4 r5:lH}[za r1][za r2][za r3][za r4][za r5](H:Hp b S w F)(h:Hp w S' w' [r1,r2,r3,r4,r5]):Hp b S w' (r1::r2::r3::r4::r5::F):=H.lift h.re
def ddl(xs:List (Array Bool)):List (Array Bool):=xs.foldl (λacc x=>if acc.contains x then acc else x::acc) []
theorem aul(xs:List (Array Bool))(x:Array Bool)(h:x∈xs):x∈ddl xs:=by
  have key:∀(xs acc:List (Array Bool)),x∈acc∨x∈xs->x∈xs.foldl (λacc x=>if acc.contains x then acc else x::acc) acc:=by
    intro xs
    induction xs with
    | nil=>intro acc h; simpa using h
    | cons y xs ih=>
      intro acc h;rw [sK];refine ih _ ?_
      rcases h with h | h
      · left; split <;> simp [h]
      · rcases iX.1 h with rfl | h
        · left; split
          · rename_i hc; simpa using hc
          · simp
        · exact .inr h
  exact key xs [] (.inr h)
def aeW(dh:Array Oper)(ids:List Nat)(rest:Nat)(full:Array Bool):Nat->List (Array Bool)->Bool
  | 0,ls=>ls.all λl=>l == full&&rest == 0
  | f+1,ls=>if ls.all (λl=>l == full) then f+1 == rest else ls.all (λl=>!(l == full)&&!(Region.ready .any dh l).isEmpty&&(Region.ready .any dh l).all λi=>ids.contains i)&&aeW dh ids rest full f (ddl (ls.flatMap λl=>(Region.ready .any dh l).map λi=>l.setIfInBounds i true))
theorem aaC{ids:List Nat}{rest:Nat}:∀ {fuel:Nat} {ls:List (Array Bool)},aeW dh ids rest full fuel ls=true->∀ l∈ls,qV dh ids rest full fuel l=true
  | 0,ls,h,l,hl=>by
    simp only [aeW,lI] at h
    exact h l hl
  | f+1,ls,h,l,hl=>by
    unfold aeW at h;unfold qV
    split at h
    · rename_i ha
      rw [aO (lI.1 ha l hl)]; exact h
    · simp only [bN] at h
      have h1:=lI.1 h.1 l hl
      simp only [bN,eG] at h1
      rw [aK (by rw [h1.1.1]; decide)];rw [bN];refine⟨by rw [h1.1.2]; rfl,?_⟩;rw [lI];intro i hi;rw [bN];refine⟨lI.1 h1.2 i hi,aaC h.2 _ (aul _ _ ?_)⟩;exact SQ.2 ⟨l,hl,gQ.2 ⟨i,hi,Y⟩⟩
theorem abZ{ids:List Nat}{rest:Nat}{l:Array Bool}(h:aeW dh ids rest full fuel [l]=true):qV dh ids rest full fuel l=true:=aaC h l av
theorem WP.sc{c:Code}(h:WP P n c l w (Exit.noGoto Q))(hro:n.round=none:=by rfl):WP P n (.scope c) l w Q:=λa ha=>by
  have e:n.fence=Fence.wide:=V9 hro;rw [e];refine Oq.2 (wp_scope_straight ?_);have h1:=h a ha;rw [e] at h1;exact Oq.1 h1
theorem WP.lab{lb:Nat}(h:l8 n Q .normal l w):WP P n (.label lb) l w Q:=λa ha=>wpIn_label (h a ha)
theorem l8.aum(h:l8 n Q .normal l w):l8 n (Exit.noGoto Q) .normal l w:=λa ha=>h a ha
theorem l8.ah6(h:l8 n Q .ret l w):l8 n (Exit.noGoto Q) .ret l w:=λa ha=>h a ha
theorem Ev.fld{x:Operand}{f off:Nat}{fs:Array Field}{fl:Field}(hu:P.underlying t=some (.struct fs))(hf:fs[f]? = some fl)(ho:fl.offset=off)(hn:l9 P fl.type)(hx:iG l x=some (.agg cs.toArray))(hv:cs[off]? = some v):Ev P n l w (.field t x f) v:=λo a w' ho' ha _=>by
  unfold execOp; rw [ho']
  have h1:(Instr.field t (.agg cs.toArray) f).run P w'=.ok v w':=by
    unfold Instr.field
    simp only [jF,kQ hu,jG,hf]
    simp only [part,asAgg,jF,kL,jG,hn w',ho]
    simp [hv]
  simp [ha.eval hx,h1]
theorem ao0{z:Int}{s:List Int}(hm:P.underlying t=some (.map kt et))(hk:P.underlying kt=some (.int .i64))(hb:w.heap[g]? = some (.map (xO s) s.length)) :
    (Instr.mapUpdate t (.map (some g)) (aF z) (.bool true)).run P w=.ok () (w.putObj g (.map (xO (SV s z)) (SV s z).length)):=by
  have hz:MapKept.IsKey (.int .i64) (aF z):=by simp [MapKept.IsKey]
  have h1:(Instr.checkKey false 10000 kt (aF z)).run P w=.ok () w:=KX (n:=9999) hk hz false
  rcases WM hz (xO s).toList 0 (aaB s) with ⟨hf,hno⟩ | ⟨j,e,hf,hj,he⟩
  · have hc:s.contains z=false:=by
      rw [xA,ne_eq,nI];intro hmem;obtain⟨j,hj⟩:=sM hmem;have h2:(xO s).toList[j]? = some ⟨aF z,.bool true,j⟩:=by simp [xO,hj]
      exact hno _ (xg h2) Y
    have ha:SV s z=s++[z]:=by unfold SV; rw [hc]; rfl
    have h2:=Bn (P:=P) (w:=w) hk hf;unfold Instr.mapUpdate
    simp only [jF,kQ hm,jG,uM hb,h1,h2,Gi _ hb]
    rw [ha,<- ami,jd]
    rfl
  · obtain⟨y,hy,rfl⟩:=WO hj
    have hyz:y=z:=by injection he
    subst hyz;have ha:SV s y=s:=by unfold SV; rw [aO (by rw [nI]; exact xg hy)]
    have h2:=Bn (P:=P) (w:=w) hk hf
    have h3:(((xO s)[0+j]?).map (·.key)).getD (.int .i64 y)=.int .i64 y:=by
      rw [<- D9,J5,hj]; rfl
    unfold Instr.mapUpdate
    simp only [jF,kQ hm,jG,uM hb,h1,h2,h3,ah5 hz,Gi _ hb]
    rw [ha,J5,aeV hy]
    rfl
theorem aBL{vy:Operand}{z:Int}{s:List Int}(H:Hp b S w rs)(sl:pE rs (pR g (.map (xO s) s.length)) rest)(hx:iG l m=some (.map (some g)))(hkey:iG l ky=some (aF z))(hv:iG l vy=some (.bool true))
    (hm:P.underlying t=some (.map kt et)) (hk:P.underlying kt=some (.int .i64))
    (k:∀ w',Hp b S w' (pR g (.map (xO (SV s z)) (SV s z).length)::rest)->WL P n dh Q K os l w'):WL P n dh Q K (⟨none,.mapUpdate t m ky vy,ty,pos,mI,none⟩::os) l w:=
  Qf (λa _=>gH a) rfl (R:=λw'=>w'=w.putObj g (.map (xO (SV s z)) (SV s z).length)) (λa ha=>⟨_,by
    unfold execOp; simp [ha.eval hx,ha.eval hkey,ha.eval hv,ao0 hm hk (H.obj sl)],rfl⟩) λw' e=>by
    subst e; exact k _ (H.putObj sl _)
abbrev ao1(g:Nat)(s:List Int):lH:=pR g (.map (xO s) s.length)
theorem mks(H:Hp b S w rs)(hd:Nat.blt d n.size=true)(k:∀ g w',Hp b S w' (ao1 g []::rs)->WL P n dh Q K os ((d,.map (some g))::l) w'):WL P n dh Q K (⟨some d,.makeMap t none,ty,pos,mI,none⟩::os) l w:=mkm H hd k
theorem Ev.aGS{s:List Int}(H:Hp b S w rs)(sl:pE rs (pR g (.map (xO s) s.length)) rest)(hm:P.underlying t=some (.map kt et))(hx:iG l m=some (.map (some g))):Ev P n l w (.call ⟨.builtin .len,#[m],#[t]⟩) (.int .i64 (s.length:Int)):=λo a w' ho ha ex=>by
  have hb:w'.heap[g]? = some (.map (xO s) s.length):=(ex.block g (vW.1 (H.obj sl)).1).trans (H.obj sl)
  have h1:(Builtin.len_ #[t] o.type #[.map (some g)]).run P w'=.ok (.int .i64 (s.length:Int)) w':=by
    simp only [Builtin.len_]
    simp [kQ hm,uM hb,amh,Result.andThen]
    rfl
  unfold execOp; rw [ho]
  simp only [resolve,jF,kL,jG,invoke,builtin,tO,nG,wP,ha.eval hx,h1]
end
theorem tC{ys:List α}{x:α}(hij:i<j)(h1:ys.take i=(xs.take j).filter p)(h2:ys.drop j=xs.drop j)(hx:ys[j]? = some x)(hp:p x=true) :
    (ys.set i x).take (i+1)=(xs.take (j+1)).filter p/\(ys.set i x).drop (j+1)=xs.drop (j+1):=by
  have hxs:xs[j]? = some x:=by
    have h3:(ys.drop j)[0]? = (xs.drop j)[0]?:=by rw [h2]
    simpa [DW,hx] using h3.symm
  have hi:i<ys.length:=by have:=aJ hx; omega
  refine⟨?_,?_⟩
  · rw [fD (qb hi),List.take_set_of_le (kV _),h1,fD hxs,vX]
    simp [hp]
  · rw [List.drop_set_of_lt aj,<- List.drop_drop,h2,List.drop_drop]
theorem tF{ys:List α}{x:α}(h1:ys.take i=(xs.take j).filter p)(h2:ys.drop j=xs.drop j)(hx:ys[j]? = some x)(hp:p x=false) :
    ys.take i=(xs.take (j+1)).filter p/\ys.drop (j+1)=xs.drop (j+1):=by
  have hxs:xs[j]? = some x:=by
    have h3:(ys.drop j)[0]? = (xs.drop j)[0]?:=by rw [h2]
    simpa [DW,hx] using h3.symm
  refine⟨?_,?_⟩
  · rw [h1,fD hxs,vX]; simp [hp]
  · rw [<- List.drop_drop,h2,List.drop_drop]
section
variable {P:Program}{n:Cx}{l:List (Nat × Value)}{b w:World}{S:Nat->Prop}{rs rest:List lH}{Q:Exit->Act->World->Prop}{K:Act->World->Prop}{dh:Array Oper}{os:List Oper}{ty:TypeId}{pos:String}{mI:Array Edge}{d:Nat}
theorem Hp.was{o:Obj}(H:Hp b S w rs)(h:b.heap[g]? = some o):w.heap[g]? = some o:=(H.ext.block g (vW.1 h).1).trans h
theorem amj{s:List Int}{z:Int}(hno:∀ x∈(xO s).toList,x.key≠aF z):s.contains z=false:=by
  rw [xA,ne_eq,nI];intro hmem;obtain⟨j,hj⟩:=sM hmem;have h2:(xO s).toList[j]? = some ⟨aF z,.bool true,j⟩:=by simp [xO,hj]
  exact hno _ (xg h2) Y
theorem amk{z:Int}{s:List Int}(hm:P.underlying t=some (.map kt et))(hk:P.underlying kt=some (.int .i64))(hz:∀ w,(zeroValue et).run P w=.ok (.bool false) w)(hb:w.heap[g]? = some (.map (xO s) s.length)) :
    (Instr.lookup t (.map (some g)) (aF z) false).run P w=.ok (.bool (s.contains z)) w:=by
  have hkz:MapKept.IsKey (.int .i64) (aF z):=by simp [MapKept.IsKey]
  have h1:∀ e,(Instr.checkKey e 10000 kt (aF z)).run P w=.ok () w:=λe=>KX (n:=9999) hk hkz e
  rcases WM hkz (xO s).toList 0 (aaB s) with ⟨hf,hno⟩ | ⟨j,e,hf,hj,he⟩
  · have h2:=Bn (P:=P) (w:=w) hk hf
    unfold Instr.lookup
    simp only [jF,kQ hm,jG,uM hb,kL,h1,h2,hz]
    rw [amj hno]; rfl
  · obtain⟨y,hy,rfl⟩:=WO hj
    have hyz:y=z:=by injection he
    subst hyz;have h2:=Bn (P:=P) (w:=w) hk hf;unfold Instr.lookup
    simp only [jF,kQ hm,jG,uM hb,kL,h1,h2]
    rw [show s.contains y=true from nI.2 (xg hy)]; rfl
theorem Ev.iR{z:Int}{s:List Int}(hb:w.heap[g]? = some (.map (xO s) s.length))(hm:P.underlying t=some (.map kt et))(hk:P.underlying kt=some (.int .i64))(hz:∀ w,(zeroValue et).run P w=.ok (.bool false) w)(hx:iG l m=some (.map (some g)))(hy:iG l ky=some (.int .i64 z)) :
    Ev P n l w (.lookup t m ky false) (.bool (s.contains z)):=λo a w' ho ha ex=>by
  have hb':w'.heap[g]? = some (.map (xO s) s.length):=(ex.block g (vW.1 hb).1).trans hb;unfold execOp; rw [ho]
  simp only [ha.eval hx,ha.eval hy]
  simp only [jF,amk (P:=P) (s:=s) (z:=z) hm hk hz hb',jG,kL]
def Dl(s:List (Int × Int)):Array MapEntry:=(s.zipIdx.map λp=>⟨.int .i64 p.1.1,.int .i64 p.1.2,p.2⟩).toArray
def EX(s:List (Int × Int))(z:Int):Int:=match s.find? (λp=>decide (p.1=z)) with | some p=>p.2 | none=>0
def IC(s:List (Int × Int))(z v:Int):List (Int × Int):=if s.any (λp=>decide (p.1=z)) then s.map (λp=>if p.1=z then(z,v) else p) else s++[(z,v)]
abbrev ao2(g:Nat)(s:List (Int × Int)):lH:=pR g (.map (Dl s) s.length)
theorem WR{e:MapEntry}(h:(Dl s).toList[j]? = some e):∃ p,s[j]? = some p/\e=⟨aF p.1,aF p.2,j⟩:=by
  simp only [Dl,lK,List.getElem?_zipIdx,J5] at h
  cases hs:s[j]? with
  | none=>simp [hs] at h
  | some p=>simp [hs] at h; exact⟨p,rfl,h.symm⟩
theorem aaD(s:List (Int × Int)):∀ x∈(Dl s).toList,MapKept.IsKey (.int .i64) x.key:=by
  intro x hx;obtain⟨j,hj⟩:=sM hx;obtain⟨z,_,rfl⟩:=WR hj
  simp [MapKept.IsKey]
theorem aaE{z:Int}(hno:∀ x∈(Dl s).toList,x.key≠aF z):∀ p∈s,p.1≠z:=by
  intro p hp e;obtain⟨j,hj⟩:=sM hp;have h2:(Dl s).toList[j]? = some ⟨aF p.1,aF p.2,j⟩:=by simp [Dl,hj]
  exact hno _ (xg h2) (by rw [e])
def wI(s:List (Int × Int)):Prop:=s.Pairwise λp q=>p.1≠q.1
theorem aun(hs:wI s){p:Int × Int}(hp:p∈s):EX s p.1=p.2:=by
  induction s with
  | nil=>simp at hp
  | cons q s ih=>
    have h1:=pG.1 hs;unfold EX
    by_cases e:q.1=p.1
    · rw [Gj (by simpa using e)]
      rcases iX.1 hp with h | h
      · rw [h]
      · exact absurd e (h1.1 p h)
    · rw [vI (by simpa using e)]
      exact ih h1.2 ((iX.1 hp).resolve_left λh=>e (h▸Y))
theorem auo{z:Int}(h:∀ p∈s,p.1≠z):EX s z=0:=by
  unfold EX; rw [Ce.2 (λp hp=>by simpa using h p hp)]
theorem aml{z:Int}(hs:wI s)(hm:P.underlying t=some (.map kt et))(hk:P.underlying kt=some (.int .i64))(hz:∀ w,(zeroValue et).run P w=.ok (aF 0) w)(hb:w.heap[g]? = some (.map (Dl s) s.length)) :
    (Instr.lookup t (.map (some g)) (aF z) false).run P w=.ok (aF (EX s z)) w:=by
  have hkz:MapKept.IsKey (.int .i64) (aF z):=by simp [MapKept.IsKey]
  have h1:∀ e,(Instr.checkKey e 10000 kt (aF z)).run P w=.ok () w:=λe=>KX (n:=9999) hk hkz e
  rcases WM hkz (Dl s).toList 0 (aaD s) with ⟨hf,hno⟩ | ⟨j,e,hf,hj,he⟩
  · have h2:=Bn (P:=P) (w:=w) hk hf
    unfold Instr.lookup
    simp only [jF,kQ hm,jG,uM hb,kL,h1,h2,hz]
    rw [auo (aaE hno)]; rfl
  · obtain⟨p,hp,rfl⟩:=WR hj
    have hyz:p.1=z:=by injection he
    subst hyz;have h2:=Bn (P:=P) (w:=w) hk hf;unfold Instr.lookup
    simp only [jF,kQ hm,jG,uM hb,kL,h1,h2]
    rw [aun hs (xg hp)]; rfl
theorem Ev.axd{z:Int}(hb:w.heap[g]? = some (.map (Dl s) s.length))(hs:wI s)(hm:P.underlying t=some (.map kt et))(hk:P.underlying kt=some (.int .i64))(hz:∀ w,(zeroValue et).run P w=.ok (.int .i64 0) w)(hx:iG l m=some (.map (some g)))(hy:iG l ky=some (.int .i64 z)) :
    Ev P n l w (.lookup t m ky false) (.int .i64 (EX s z)):=λo a w' ho ha ex=>by
  have hb':w'.heap[g]? = some (.map (Dl s) s.length):=(ex.block g (vW.1 hb).1).trans hb;unfold execOp; rw [ho]
  simp only [ha.eval hx,ha.eval hy]
  simp only [jF,aml (P:=P) (s:=s) (z:=z) hs hm hk hz hb',jG,kL]
theorem amm(s:List (Int × Int))(z v:Int):(Dl s).push ⟨aF z,aF v,s.length⟩=Dl (s++[(z,v)]):=by
  simp [Dl,List.zipIdx_append]
theorem ao3(s:List (Int × Int))(z v:Int):(IC s z v).length=if s.any (λp=>decide (p.1=z)) then s.length else s.length+1:=by
  unfold IC; split <;> simp
theorem amn(hs:wI s)(z v:Int):wI (IC s z v):=by
  unfold IC; split
  · refine Lc.2 (hs.imp λ{p q} h=>?_)
    split <;> split <;> simp_all
  · rename_i h
    refine y8.2 ⟨hs,OU _ _,λp hp q hq e=>h ?_⟩;rw [j4.1 hq] at e;exact Ed.2 ⟨p,hp,by simpa using e⟩
theorem aeX(hs:wI s){p:Int × Int}(h:s[j]? = some p)(v:Int):(Dl s).modify j (λe=>{ e with key:=aF p.1,val:=aF v })=Dl (IC s p.1 v):=by
  have ha:IC s p.1 v=s.map (λq=>if q.1=p.1 then(p.1,v) else q):=aO (Ed.2 ⟨p,xg h,av⟩);rw [ha];apply Array.ext_getElem?;intro i;rw [aoH]
  have hE:∀(t:List (Int × Int))(k:Nat),(Dl t)[k]? = (t[k]?).map λq=>⟨aF q.1,aF q.2,k⟩:=λt k=>by
    rw [<- D9]; simp only [Dl,lK,List.getElem?_zipIdx,J5]
    cases t[k]? <;> rfl
  rw [hE,hE,lK]
  by_cases hij:j=i
  · subst hij
    rw [aO rfl,h]; simp
  · rw [aK hij]
    cases hi:s[i]? with
    | none=>rfl
    | some q=>
      simp only [Gh]
      have hne:q.1≠p.1:=λe=>by
        have hlj:=(nP.1 h).1;have hli:=(nP.1 hi).1;have h1:=DX.1 hs
        rcases Nat.lt_or_gt_of_ne hij with h3 | h3
        · have:=h1 j i hlj hli h3
          rw [(nP.1 h).2,(nP.1 hi).2] at this; exact this e.symm
        · have:=h1 i j hli hlj h3
          rw [(nP.1 h).2,(nP.1 hi).2] at this; exact this e
      rw [aK hne]
theorem ao4{z v:Int}(hs:wI s)(hm:P.underlying t=some (.map kt et))(hk:P.underlying kt=some (.int .i64))(hb:w.heap[g]? = some (.map (Dl s) s.length)) :
    (Instr.mapUpdate t (.map (some g)) (aF z) (aF v)).run P w=.ok () (w.putObj g (.map (Dl (IC s z v)) (IC s z v).length)):=by
  have hz:MapKept.IsKey (.int .i64) (aF z):=by simp [MapKept.IsKey]
  have h1:(Instr.checkKey false 10000 kt (aF z)).run P w=.ok () w:=KX (n:=9999) hk hz false
  rcases WM hz (Dl s).toList 0 (aaD s) with ⟨hf,hno⟩ | ⟨j,e,hf,hj,he⟩
  · have hno':=aaE hno
    have ha:IC s z v=s++[(z,v)]:=aK (by rw [Ed]; rintro⟨p,hp,h⟩; exact hno' p hp (by simpa using h));have h2:=Bn (P:=P) (w:=w) hk hf;unfold Instr.mapUpdate
    simp only [jF,kQ hm,jG,uM hb,h1,h2,Gi _ hb]
    rw [ha,<- amm,jd]
    rfl
  · obtain⟨p,hp,rfl⟩:=WR hj
    have hyz:p.1=z:=by injection he
    subst hyz;have ha:(IC s p.1 v).length=s.length:=by rw [ao3,aO (Ed.2 ⟨p,xg hp,av⟩)]
    have h2:=Bn (P:=P) (w:=w) hk hf
    have h3:(((Dl s)[0+j]?).map (·.key)).getD (aF p.1)=aF p.1:=by
      rw [<- D9,J5,hj]; rfl
    unfold Instr.mapUpdate
    simp only [jF,kQ hm,jG,uM hb,h1,h2,h3,ah5 hz,Gi _ hb]
    rw [ha,J5,aeX hs hp]
    rfl
theorem aGT{vy:Operand}{z v:Int}(hs:wI s)(H:Hp b S w rs)(sl:pE rs (ao2 g s) rest)(hx:iG l m=some (.map (some g)))(hkey:iG l ky=some (aF z))(hv:iG l vy=some (aF v))
    (hm:P.underlying t=some (.map kt et)) (hk:P.underlying kt=some (.int .i64))
    (k:∀ w',Hp b S w' (ao2 g (IC s z v)::rest)->WL P n dh Q K os l w'):WL P n dh Q K (⟨none,.mapUpdate t m ky vy,ty,pos,mI,none⟩::os) l w:=
  Qf (λa _=>gH a) rfl (R:=λw'=>w'=w.putObj g (.map (Dl (IC s z v)) (IC s z v).length)) (λa ha=>⟨_,by
    unfold execOp; simp [ha.eval hx,ha.eval hkey,ha.eval hv,ao4 hs hm hk (H.obj sl)],rfl⟩) λw' e=>by
    subst e; exact k _ (H.putObj sl _)
theorem mkc(H:Hp b S w rs)(hd:Nat.blt d n.size=true)(k:∀ g w',Hp b S w' (ao2 g []::rs)->WL P n dh Q K os ((d,.map (some g))::l) w'):WL P n dh Q K (⟨some d,.makeMap t none,ty,pos,mI,none⟩::os) l w:=mkm H hd k
end
abbrev fz(z:Int):Nat:=FloatKind.f64.nearest z
theorem c01:FloatKind.f64.format.add 0 4607182418800017408=some (fb 1):=by decide +kernel
theorem ayr(m:Nat):fz (m:Int)=fb m:=rfl
theorem WS(neg:Bool)(mag:Nat)(place:Int):(Ieee.double.read (Ieee.double.nearest neg mag place)).isNaN=false:=by
  have key:∀(s:Bool)(r:Nat),r<=Ieee.double.infRung->(Ieee.double.read (Ieee.double.word s r)).isNaN=false:=by
    intro s r hr;have hI:Ieee.double.infRung<Ieee.double.signWeight:=au
    have hm:Ieee.double.word s r % Ieee.double.signWeight=r:=by
      unfold Ieee.Format.word
      cases s
      · show r % Ieee.double.signWeight=r
        exact abS aj
      · show(Ieee.double.signWeight+r) % Ieee.double.signWeight=r
        rw [Nat.add_mod_left]; exact abS aj
    unfold Ieee.Format.read
    simp only [hm]
    split
    · rfl
    · split
      · rfl
      · split
        · rfl
        · omega
  unfold Ieee.Format.nearest
  split
  · exact key _ _ (fJ _)
  · exact key _ _ (Nat.min_le_right _ _)
theorem aup(z:Int):∃ e,FloatKind.f64.format.add (fz z) 0=some e:=by
  have h:=WS (decide (z<0)) z.natAbs 0;have h0:Ieee.double.read 0=.number false 0 Ieee.double.leastPlace:=au;show ∃ e,((Ieee.double.read (fz z)).sum (Ieee.double.read 0)).map Ieee.double.write=some e;have he:fz z=Ieee.double.nearest (decide (z<0)) z.natAbs 0:=rfl;rw [he,h0]
  cases hr:Ieee.double.read (Ieee.double.nearest (decide (z<0)) z.natAbs 0) with
  | number s m i=>exact⟨_,rfl⟩
  | infinity s=>exact⟨_,rfl⟩
  | nan s f=>rw [hr] at h; cases h
def wIm(o:Bool)(z:Int):Nat:=if o=true then(FloatKind.f64.format.add (fz z) 0).getD 0 else fz z
theorem auq(z:Int):FloatKind.f64.format.add (fz z) 0=some (wIm true z):=by
  obtain⟨e,h⟩:=aup z;rw [h]; show some e=some _; unfold wIm; rw [aO rfl,h]; rfl
theorem ays(o:Bool){m:Nat}(h:m<130):wIm o (m:Int)=fb m:=by
  unfold wIm; split
  · rw [ayr,Vo m h]; rfl
  · rfl
theorem aBM:∀ n,n<70->∀ m,m<70->((FloatKind.f64.format.order (fb n) (fb m) == some .eq)=decide (n=m)):=by decide +kernel
theorem aBN:∀ n,n<70->∀ m,m<70->((FloatKind.f64.format.order (fb n) (fb m) == some .lt)=decide (n<m)):=by decide +kernel
section
variable {P:Program}{n:Cx}{l:List (Nat × Value)}{w:World}{t ty:TypeId}{x y:Operand}
theorem Ev.aGU{a b:Nat}(ha:a<70)(hb:b<70)(hx:iG l x=some (.float .f64 (fb a)))(hy:iG l y=some (.float .f64 (fb b))):Ev P n l w (.binOp .neq t x y ty) (.bool (!decide (a=b))):=
  qG hx hy (eqGuard_at_float ..) λw=>by
    have:=aBM a ha b hb
    simp [binOp,Op.floatCmp,bne,this]
theorem Ev.aBO{a b:Nat}(ha:a<70)(hb:b<70)(hx:iG l x=some (.float .f64 (fb a)))(hy:iG l y=some (.float .f64 (fb b))):Ev P n l w (.binOp .lss t x y ty) (.bool (decide (a<b))):=
  qG hx hy (eqGuard_at_float ..) λw=>by
    have:=aBN a ha b hb
    simp [binOp,Op.floatCmp,this]
theorem Ev.aBP{d:TypeId}{k:IntKind}{z:Int}(hs:∃ k,P.underlying t=some k)(hd:P.underlying d=some (.float .f64))(hx:iG l x=some (.int k z)):Ev P n l w (.convert t d x) (.float .f64 (fz z)):=λo ac w' ho ha _=>by
  unfold execOp; rw [ho];obtain⟨k,hk⟩:=hs
  simp [ha.eval hx,convert,kQ hk,kQ hd,Conv.intToFloat]
theorem Ev.aGV{a b:Nat}{ts:Array TypeId}(hx:iG l x=some (.float .f64 a))(hy:iG l y=some (.float .f64 b)):Ev P n l w (.call ⟨.builtin .complex,#[x,y],ts⟩) (.complex .f64 a b):=λo ac w' ho ha _=>by
  unfold execOp; rw [ho]
  simp only [resolve,jF,kL,jG,invoke,builtin,tO,nG,wP,ha.eval hx,ha.eval hy]
  rfl
end
section
variable {P:Program}{n:Cx}{l:List (Nat × Value)}{w:World}{t ty:TypeId}{x y:Operand}
theorem Ev.quo{a c:Int}(hx:iG l x=some (.int .i64 a))(hy:iG l y=some (.int .i64 c))(hc:c≠0)(h:I64 (a.tdiv c)):Ev P n l w (.binOp .quo t x y ty) (.int .i64 (a.tdiv c)):=
  qG hx hy (Bd ..) λw=>by
    have hw:=h.wrap
    simp [binOp,Op.intDiv,hc,hw]
theorem Ev.aGW{len:Nat}(hu:P.underlying t=some (.array len e))(hs:Size P e 1)(hn:l9 P e)(hi:i<len)(hx:iG l x=some (.agg cs.toArray))(hy:iG l y=some (.int .i64 (i:Int)))(hv:cs[i]? = some v) :
    Ev P n l w (.index t x y) v:=λo a w' ho ha _=>by
  unfold execOp; rw [ho]
  have h1:(Instr.index t (.agg cs.toArray) (.int .i64 (i:Int))).run P w'=.ok v w':=by
    unfold Instr.index
    simp only [asIntOf,jF,kL,kQ hu,jG]
    rw [aO ⟨aj,aj⟩]
    simp only [part,asAgg,jF,kL,jG,hn w',hs w']
    simp [hv]
  simp [ha.eval hx,ha.eval hy,h1]
end
theorem half(i:Nat):((i:Int) - 1).tdiv 2=(((i - 1) / 2:Nat):Int):=by
  cases i with
  | zero=>rfl
  | succ i=>
    have e:(((i+1:Nat):Int) - 1)=(i:Int):=aj;rw [e,Nat.add_sub_cancel]; rfl
section
variable {P:Program}{n:Cx}{l:List (Nat × Value)}{b w:World}{S:Nat->Prop}{rs rest rk:List lH}{Q:Exit->Act->World->Prop}{K:Act->World->Prop}{Z:World->Prop}{dh:Array Oper}{os:List Oper}{ty:TypeId}{pos:String}{mI:Array Edge}{d:Nat}{fuel:Nat}{aX:Array Bool}{x:Operand}{v:Value}
theorem He{ol:List Oper}{id:Nat}{y:Code}(H:Hp b S w rs)(_:∀ w',Hp b S w' rs->Hp b S w' rk)(J:List (Nat × Value)->List lH->List (Nat × Value)->World->Prop)
    (h:Region.noSelect ol.toArray=true->Hp b S w.drew rs->WH P n ol.toArray (JK n (J l rk)) (λw'=>Hp b S w' rk) ol.length (List.replicate ol.length false).toArray l w.drew) (k:∀ l' w',J l rk l' w'->WP P n y l' w' Q)
    (hm:P.follows .mixedOrders=true:=by kernel_rfl) (hs:Region.noSelect ol.toArray=true:=by kernel_rfl) (hro:n.round=none:=by rfl):WP P n (.seq (.region id ol.toArray true) y) l w Q:=
  WP.held (λw'=>Hp b S w' rk) (J l rk) hm (h hs (H.grow (pI w).drew)) k hro
theorem Hf{ol:List Oper}{id:Nat}(H:Hp b S w rs)(_:∀ w',Hp b S w' rs->Hp b S w' rk)(J:List (Nat × Value)->List lH->List (Nat × Value)->World->Prop)
    (h:Region.noSelect ol.toArray=true->Hp b S w.drew rs->WH P n ol.toArray (JK n (J l rk)) (λw'=>Hp b S w' rk) ol.length (List.replicate ol.length false).toArray l w.drew) (k:∀ l' w',J l rk l' w'->l8 n Q .normal l' w')
    (hm:P.follows .mixedOrders=true:=by kernel_rfl) (hs:Region.noSelect ol.toArray=true:=by kernel_rfl) (hro:n.round=none:=by rfl):WP P n (.region id ol.toArray true) l w Q:=
  WP.aoR (λw'=>Hp b S w' rk) (J l rk) hm (h hs (H.grow (pI w).drew)) k hro
theorem Tn(i m:Nat)(hs:Region.noSelect dh=true)(hi:dh[i]? = some ⟨some d,op,ty,pos,mI,none⟩)(he:∀ w',Hp b S w' rk->Ev P n l w' op v)(hw:Hp b S w rk)(k:WH P n dh K (λw'=>Hp b S w' rk) fuel (LM dh.size m) ((d,v)::l) w)
    (hf:tkc dh aX (LM dh.size m) i=true:=by kernel_rfl) (hd:Nat.blt d n.size=true:=by rfl):WH P n dh K (λw'=>Hp b S w' rk) (fuel+1) aX l w:=WH.tn i _ hs hi hf he hd hw k
theorem Tm(i m:Nat)(hs:Region.noSelect dh=true)(hi:dh[i]? = some ⟨some d,.move x,ty,pos,mI,none⟩)(hx:iG l x=some v)(hw:Hp b S w rk)(k:WH P n dh K (λw'=>Hp b S w' rk) fuel (LM dh.size m) ((d,v)::l) w)
    (hf:tkc dh aX (LM dh.size m) i=true:=by kernel_rfl) (hd:Nat.blt d n.size=true:=by rfl):WH P n dh K (λw'=>Hp b S w' rk) (fuel+1) aX l w:=WH.tn i _ hs hi hf (λ_ _=>bf hx) hd hw k
theorem Ta(i m:Nat)(hs:Region.noSelect dh=true)(hi:dh[i]? = some ⟨some d,.assign x,ty,pos,mI,none⟩)(hx:iG l x=some v)(hw:Hp b S w rk)(k:WH P n dh K (λw'=>Hp b S w' rk) fuel (LM dh.size m) ((d,v)::l) w)
    (hf:tkc dh aX (LM dh.size m) i=true:=by kernel_rfl) (hd:Nat.blt d n.size=true:=by rfl):WH P n dh K (λw'=>Hp b S w' rk) (fuel+1) aX l w:=WH.tn i _ hs hi hf (λ_ _=>om hx) hd hw k
theorem Tg(i m:Nat)(hs:Region.noSelect dh=true)(hi:dh[i]? = some ⟨some d,op,ty,pos,mI,some (j,bW)⟩)(hg:guardOf dh l j=some (.bool bW))(he:∀ w',Hp b S w' rk->Ev P n l w' op v)(hw:Hp b S w rk)(k:WH P n dh K (λw'=>Hp b S w' rk) fuel (LM dh.size m) ((d,v)::l) w)
    (hf:tkc dh aX (LM dh.size m) i=true:=by kernel_rfl) (hd:Nat.blt d n.size=true:=by rfl):WH P n dh K (λw'=>Hp b S w' rk) (fuel+1) aX l w:=WH.tng i _ hs hi hg hf he hd hw k
theorem Tp(i m:Nat)(hs:Region.noSelect dh=true)(hi:dh[i]? = some ⟨some d,op,ty,pos,mI,some (j,bW)⟩)(hg:guardOf dh l j=some u)(hv:unlike bW u=true)(hw:Hp b S w rk)(k:WH P n dh K (λw'=>Hp b S w' rk) fuel (LM dh.size m) ((d,undef)::l) w)
    (hf:tkc dh aX (LM dh.size m) i=true:=by kernel_rfl) (hd:Nat.blt d n.size=true:=by rfl):WH P n dh K (λw'=>Hp b S w' rk) (fuel+1) aX l w:=WH.tnp i _ hs hi hg hv hf hd hw k
theorem Jn(_:Hp b S w rk)(J:List (Nat × Value)->List lH->List (Nat × Value)->World->Prop)(f m:Nat)(h:∀ l' w',J l rk l' w'->WH P n dh K Z f (LM dh.size m) l' w')(k:(∀ l' w',J l rk l' w'->WH P n dh K Z f (LM dh.size m) l' w')->WH P n dh K Z fuel aX l w):WH P n dh K Z fuel aX l w:=k h
theorem Kj{m:Nat}(hS:∀ l w,J l w->WH P n dh K Z fuel (LM dh.size m) l w)(hk:Z w)(hJ:J l' w)(hs:Sb l l')(he:((Ld aX i).toList == (LM dh.size m).toList)=true:=by kernel_rfl) :
    WL P n.BA dh (Only K) (HK P dh K Z fuel (Ld aX i)) [] l w:=WH.kj hS he hk hJ hs
theorem O1(i:Nat)(hi:dh[i]? = some o)(h:WL P n.BA dh (Only K) (HK P dh K Z fuel (Ld aX i)) [o] l w)(hr:Region.ready .any dh aX=[i]:=by kernel_rfl):WH P n dh K Z (fuel+1) aX l w:=WH.one i hr hi h
theorem O2(i j:Nat){o':Oper}(hi:dh[i]? = some o)(hj:dh[j]? = some o')(h:WL P n.BA dh (Only K) (HK P dh K Z fuel (Ld aX i)) [o] l w)(h':WL P n.BA dh (Only K) (HK P dh K Z fuel (Ld aX j)) [o'] l w)(hr:Region.ready .any dh aX=[i,j]:=by kernel_rfl):WH P n dh K Z (fuel+1) aX l w:=WH.two i j hr hi hj h h'
theorem Dn(hJ:J l' w)(hs:Sb l l')(hr:Region.ready .any dh aX=[]:=by kernel_rfl):WH P n dh (JK n J) Z fuel aX l w:=WH.dn hJ hs hr
theorem Lp{c:Code}(_:Hp b S w rk)(J:List (Nat × Value)->List lH->Nat->List (Nat × Value)->World->Prop){m0:Nat}{l0:List (Nat × Value)}(h0:J l rk m0 l0 w)(hs:Sb l l0)
    (hb:∀ m l' w',J l rk m l' w'->WP P n c l' w' (Exit.then (Again n (J l rk) m) Q)):WP P n (.loop c) l w Q:=pK (J l rk) h0 hs hb
theorem C0{KH:Operand}{args:List Operand}{tys:Array TypeId}{f:FuncId}{caps vs all:List Value}(H:Hp b S w rs)
    (hf:iG l KH=some (.func (.func f) #[] caps.toArray)) (hargs:EW l args=some vs) (hall:vs++caps=all) (D5:bF P f) (hc:bS P f all.toArray w λv w'=>v=u/\Hp w S' w' [])
    (k:∀ w',Hp b S w' rs->WL P n dh Q K os ((d,u)::l) w') (hd:Nat.blt d n.size=true:=by rfl):WL P n dh Q K (⟨some d,.call ⟨.value KH,args.toArray,tys⟩,ty,pos,mI,none⟩::os) l w:=
  xK hf hargs hall D5 hc hd λv w' hv=>hv.1▸k w' (H.c0 hv.2)
end
section
variable {P:Program}{n:Cx}{l:List (Nat × Value)}{b w:World}{S:Nat->Prop}{rs rest rk:List lH}{K:Act->World->Prop}{dh:Array Oper}{ty:TypeId}{pos:String}{mI:Array Edge}{d:Nat}{fuel:Nat}{aX:Array Bool}{x:Operand}{v:Value}
theorem lD(i:Nat){op:Op}(hi:dh[i]? = some ⟨some d,op,ty,pos,mI,none⟩)(he:∀ w',Hp b S w' rk->Ev P n l w' op v)(hw:Hp b S w rk)(k:WH P n dh K (λw'=>Hp b S w' rk) fuel (aX.setIfInBounds i true) ((d,v)::l) w)(hs:Region.noSelect dh=true:=by kernel_rfl)(hf:tkc dh aX (aX.setIfInBounds i true) i=true:=by kernel_rfl)(hd:Nat.blt d n.size=true:=by rfl):WH P n dh K (λw'=>Hp b S w' rk) (fuel+1) aX l w:=WH.tn i _ hs hi hf he hd hw k
theorem kX(i:Nat)(hi:dh[i]? = some ⟨some d,.move x,ty,pos,mI,none⟩)(hx:iG l x=some v)(hw:Hp b S w rk)(k:WH P n dh K (λw'=>Hp b S w' rk) fuel (aX.setIfInBounds i true) ((d,v)::l) w)(hs:Region.noSelect dh=true:=by kernel_rfl)(hf:tkc dh aX (aX.setIfInBounds i true) i=true:=by kernel_rfl)(hd:Nat.blt d n.size=true:=by rfl):WH P n dh K (λw'=>Hp b S w' rk) (fuel+1) aX l w:=lD i hi (λ_ _=>bf hx) hw k hs hf hd
theorem xI(i:Nat)(hi:dh[i]? = some ⟨some d,.assign x,ty,pos,mI,none⟩)(hx:iG l x=some v)(hw:Hp b S w rk)(k:WH P n dh K (λw'=>Hp b S w' rk) fuel (aX.setIfInBounds i true) ((d,v)::l) w)(hs:Region.noSelect dh=true:=by kernel_rfl)(hf:tkc dh aX (aX.setIfInBounds i true) i=true:=by kernel_rfl)(hd:Nat.blt d n.size=true:=by rfl):WH P n dh K (λw'=>Hp b S w' rk) (fuel+1) aX l w:=lD i hi (λ_ _=>om hx) hw k hs hf hd
theorem tgz(i:Nat){op:Op}{j:Nat}{bW:Bool}(hi:dh[i]? = some ⟨some d,op,ty,pos,mI,some (j,bW)⟩)(hg:guardOf dh l j=some (.bool bW))(he:∀ w',Hp b S w' rk->Ev P n l w' op v)(hw:Hp b S w rk)(k:WH P n dh K (λw'=>Hp b S w' rk) fuel (aX.setIfInBounds i true) ((d,v)::l) w)(hs:Region.noSelect dh=true:=by kernel_rfl)(hf:tkc dh aX (aX.setIfInBounds i true) i=true:=by kernel_rfl)(hd:Nat.blt d n.size=true:=by rfl):WH P n dh K (λw'=>Hp b S w' rk) (fuel+1) aX l w:=WH.tng i _ hs hi hg hf he hd hw k
theorem J6(i:Nat){op:Op}{j:Nat}{bW:Bool}{u:Value}(hi:dh[i]? = some ⟨some d,op,ty,pos,mI,some (j,bW)⟩)(hg:guardOf dh l j=some u)(hv:unlike bW u=true)(hw:Hp b S w rk)(k:WH P n dh K (λw'=>Hp b S w' rk) fuel (aX.setIfInBounds i true) ((d,undef)::l) w)(hs:Region.noSelect dh=true:=by kernel_rfl)(hf:tkc dh aX (aX.setIfInBounds i true) i=true:=by kernel_rfl)(hd:Nat.blt d n.size=true:=by rfl):WH P n dh K (λw'=>Hp b S w' rk) (fuel+1) aX l w:=WH.tnp i _ hs hi hg hv hf hd hw k
theorem tfz(i:Nat){s f off:Nat}{p q:Addr}(hi:dh[i]? = some ⟨some d,.fieldAddr s x f,ty,pos,mI,none⟩)(h1:eu P s f off)(hx:iG l x=some (.pointer (some p)))(hq:p.add off=q)(hw:Hp b S w rk)(k:WH P n dh K (λw'=>Hp b S w' rk) fuel (aX.setIfInBounds i true) ((d,.pointer (some q))::l) w)(hs:Region.noSelect dh=true:=by kernel_rfl)(hf:tkc dh aX (aX.setIfInBounds i true) i=true:=by kernel_rfl)(hd:Nat.blt d n.size=true:=by rfl):WH P n dh K (λw'=>Hp b S w' rk) (fuel+1) aX l w:=lD i hi (λ_ _=>dW h1 hx hq) hw k hs hf hd
theorem tcz(i:Nat){p:Addr}(hi:dh[i]? = some ⟨some d,.nilCheck x,ty,pos,mI,none⟩)(hx:iG l x=some (.pointer (some p)))(hw:Hp b S w rk)(k:WH P n dh K (λw'=>Hp b S w' rk) fuel (aX.setIfInBounds i true) ((d,.pointer (some p))::l) w)(hs:Region.noSelect dh=true:=by kernel_rfl)(hf:tkc dh aX (aX.setIfInBounds i true) i=true:=by kernel_rfl)(hd:Nat.blt d n.size=true:=by rfl):WH P n dh K (λw'=>Hp b S w' rk) (fuel+1) aX l w:=lD i hi (λ_ _=>eX hx) hw k hs hf hd
theorem tlz(i:Nat){t t':TypeId}{g j:Nat}{cs:List Value}(hi:dh[i]? = some ⟨some d,.load t x,ty,pos,mI,none⟩)(h1:l9 P t)(hx:iG l x=some (.pointer (some ⟨g,j,none⟩)))(s:pE rk (dY g t' cs) rest)(hc:cs[j]? = some v)(hw:Hp b S w rk)(k:WH P n dh K (λw'=>Hp b S w' rk) fuel (aX.setIfInBounds i true) ((d,v)::l) w)(hs:Region.noSelect dh=true:=by kernel_rfl)(hf:tkc dh aX (aX.setIfInBounds i true) i=true:=by kernel_rfl)(hd:Nat.blt d n.size=true:=by rfl):WH P n dh K (λw'=>Hp b S w' rk) (fuel+1) aX l w:=lD i hi (λ_ hK=>dx h1 hx (hK.x s) hc) hw k hs hf hd
theorem zL(i:Nat){vs:List Value}{j:Nat}(hi:dh[i]? = some ⟨some d,.extract x j,ty,pos,mI,none⟩)(hx:iG l x=some (.tuple vs.toArray))(hj:vs[j]? = some v)(hw:Hp b S w rk)(k:WH P n dh K (λw'=>Hp b S w' rk) fuel (aX.setIfInBounds i true) ((d,v)::l) w)(hs:Region.noSelect dh=true:=by kernel_rfl)(hf:tkc dh aX (aX.setIfInBounds i true) i=true:=by kernel_rfl)(hd:Nat.blt d n.size=true:=by rfl):WH P n dh K (λw'=>Hp b S w' rk) (fuel+1) aX l w:=lD i hi (λ_ _=>wS hx hj) hw k hs hf hd
end
section
variable {P:Program}{n:Cx}{l:List (Nat × Value)}{b w:World}{S:Nat->Prop}{rs rest rk:List lH}{Q Q':Exit->Act->World->Prop}{K:Act->World->Prop}{dh:Array Oper}{os:List Oper}{ty ty2:TypeId}{pos pos2:String}{mI ao5:Array Edge}{d d2:Nat}{fuel:Nat}{aX:Array Bool}{x x2 y2:Operand}{v:Value}{s f off:Nat}{p:Addr}{t t':TypeId}{cs:List Value}{y:Code}
theorem Np(i g j:Nat)(h1:eu P s f off)(h:(dh[i]?,iG l x,p.add off)=(some ⟨some d,.fieldAddr s x f,ty,pos,mI,none⟩,some (.pointer (some p)),⟨g,j,none⟩))(hw:Hp b S w rk)(k:WH P n dh K (λw'=>Hp b S w' rk) fuel ((aX).setIfInBounds (i) true) ((d,(.pointer (some ⟨g,j,none⟩)))::l) w)(hs:Region.noSelect dh=true:=by kernel_rfl)(hf0:tkc dh (aX) ((aX).setIfInBounds (i) true) (i)=true:=by kernel_rfl)(hd0:Nat.blt d n.size=true:=by rfl):WH P n dh K (λw'=>Hp b S w' rk) (fuel+1) (aX) l w:=tfz i (aR (·.1) h) h1 (aR (·.2.1) h) (aR (·.2.2) h) hw k hs hf0 hd0
theorem Ci(i:Nat){g j:Nat}(s:pE rk (dY g t' cs) rest)(h:(dh[i]?,iG l x,cs[j]?)=(some ⟨some d,.load t x,ty,pos,mI,none⟩,some (.pointer (some ⟨g,j,none⟩)),some v))(hw:Hp b S w rk)(k:WH P n dh K (λw'=>Hp b S w' rk) fuel ((aX).setIfInBounds (i) true) ((d,v)::l) w)(hs:Region.noSelect dh=true:=by kernel_rfl)(hf0:tkc dh (aX) ((aX).setIfInBounds (i) true) (i)=true:=by kernel_rfl)(hd0:Nat.blt d n.size=true:=by rfl)(h1:l9 P t:=by exact λ_=>by kernel_rfl):WH P n dh K (λw'=>Hp b S w' rk) (fuel+1) (aX) l w:=tlz i (aR (·.1) h) h1 (aR (·.2.1) h) s (aR (·.2.2) h) hw k hs hf0 hd0
theorem ng(i i2 g j:Nat)(h1:eu P s f off)(s':pE rk (dY g t' cs) rest)(h:(dh[i]?,iG l x,p.add off,dh[i2]?,iG ((d,(.pointer (some ⟨g,j,none⟩)))::l) x2,cs[j]?)=(some ⟨some d,.fieldAddr s x f,ty,pos,mI,none⟩,some (.pointer (some p)),⟨g,j,none⟩,some ⟨some d2,.load t x2,ty2,pos2,ao5,none⟩,some (.pointer (some ⟨g,j,none⟩)),some v))(hw:Hp b S w rk)(k:WH P n dh K (λw'=>Hp b S w' rk) fuel (((aX).setIfInBounds (i) true).setIfInBounds (i2) true) ((d2,v)::(d,(.pointer (some ⟨g,j,none⟩)))::l) w)(hs:Region.noSelect dh=true:=by kernel_rfl)(hf0:tkc dh (aX) ((aX).setIfInBounds (i) true) (i)=true:=by kernel_rfl)(hd0:Nat.blt d n.size=true:=by rfl)(hf1:tkc dh ((aX).setIfInBounds (i) true) (((aX).setIfInBounds (i) true).setIfInBounds (i2) true) (i2)=true:=by kernel_rfl)(hd1:Nat.blt d2 n.size=true:=by rfl)(h2:l9 P t:=by exact λ_=>by kernel_rfl):WH P n dh K (λw'=>Hp b S w' rk) (fuel+1+1) (aX) l w:=tfz i (aR (·.1) h) h1 (aR (·.2.1) h) (aR (·.2.2.1) h) hw (tlz i2 (aR (·.2.2.2.1) h) h2 (aR (·.2.2.2.2.1) h) s' (aR (·.2.2.2.2.2) h) hw k hs hf1 hd1) hs hf0 hd0
theorem SX(i g j:Nat){p2:Addr}(h1:eu P s f off)(h:(dh[i]?,iG l x,dh[i+1]?,iG ((d,.pointer (some p))::l) x2,p2.add off)=(some ⟨some d,.nilCheck x,ty,pos,mI,none⟩,some (.pointer (some p)),some ⟨some d2,.fieldAddr s x2 f,ty2,pos2,ao5,none⟩,some (.pointer (some p2)),⟨g,j,none⟩))(hw:Hp b S w rk)(k:WH P n dh K (λw'=>Hp b S w' rk) fuel (((aX).setIfInBounds (i) true).setIfInBounds (i+1) true) ((d2,(.pointer (some ⟨g,j,none⟩)))::(d,.pointer (some p))::l) w)(hs:Region.noSelect dh=true:=by kernel_rfl)(hf0:tkc dh (aX) ((aX).setIfInBounds (i) true) (i)=true:=by kernel_rfl)(hd0:Nat.blt d n.size=true:=by rfl)(hf1:tkc dh ((aX).setIfInBounds (i) true) (((aX).setIfInBounds (i) true).setIfInBounds (i+1) true) (i+1)=true:=by kernel_rfl)(hd1:Nat.blt d2 n.size=true:=by rfl):WH P n dh K (λw'=>Hp b S w' rk) (fuel+1+1) (aX) l w:=tcz i (aR (·.1) h) (aR (·.2.1) h) hw (tfz (i+1) (aR (·.2.2.1) h) h1 (aR (·.2.2.2.1) h) (aR (·.2.2.2.2) h) hw k hs hf1 hd1) hs hf0 hd0
theorem uw(i g j:Nat){p2:Addr}{d3:Nat}{ty3:TypeId}{aGX:String}{aGY:Array Edge}{x3:Operand}(h1:eu P s f off)(h:(dh[i]?,iG l x,dh[i+1]?,iG ((d,v)::l) x2,dh[i+2]?,iG ((d2,.pointer (some p))::(d,v)::l) x3,p2.add off)=(some ⟨some d,.move x,ty,pos,mI,none⟩,some v,some ⟨some d2,.nilCheck x2,ty2,pos2,ao5,none⟩,some (.pointer (some p)),some ⟨some d3,.fieldAddr s x3 f,ty3,aGX,aGY,none⟩,some (.pointer (some p2)),⟨g,j,none⟩))(hw:Hp b S w rk)(k:WH P n dh K (λw'=>Hp b S w' rk) fuel ((((aX).setIfInBounds (i) true).setIfInBounds (i+1) true).setIfInBounds (i+2) true) ((d3,(.pointer (some ⟨g,j,none⟩)))::(d2,.pointer (some p))::(d,v)::l) w)(hs:Region.noSelect dh=true:=by kernel_rfl)(hf0:tkc dh (aX) ((aX).setIfInBounds (i) true) (i)=true:=by kernel_rfl)(hd0:Nat.blt d n.size=true:=by rfl)(hf1:tkc dh ((aX).setIfInBounds (i) true) (((aX).setIfInBounds (i) true).setIfInBounds (i+1) true) (i+1)=true:=by kernel_rfl)(hd1:Nat.blt d2 n.size=true:=by rfl)(hf2:tkc dh (((aX).setIfInBounds (i) true).setIfInBounds (i+1) true) ((((aX).setIfInBounds (i) true).setIfInBounds (i+1) true).setIfInBounds (i+2) true) (i+2)=true:=by kernel_rfl)(hd2:Nat.blt d3 n.size=true:=by rfl):WH P n dh K (λw'=>Hp b S w' rk) (fuel+1+1+1) (aX) l w:=kX i (aR (·.1) h) (aR (·.2.1) h) hw (tcz (i+1) (aR (·.2.2.1) h) (aR (·.2.2.2.1) h) hw (tfz (i+2) (aR (·.2.2.2.2.1) h) h1 (aR (·.2.2.2.2.2.1) h) (aR (·.2.2.2.2.2.2) h) hw k hs hf2 hd2) hs hf1 hd1) hs hf0 hd0
theorem yA(g j:Nat)(h1:eu P s f off)(h:(iG l x,p.add off)=(some (.pointer (some p)),⟨g,j,none⟩))(k:WL P n dh Q K (os) ((d,(.pointer (some ⟨g,j,none⟩)))::l) w)(hd:Nat.blt d n.size=true:=by rfl):WL P n dh Q K (⟨some d,.fieldAddr s x f,ty,pos,mI,none⟩::os) (l) w:=ev (dW h1 (aR (·.1) h) (aR (·.2) h)) k hd
theorem nO{g j:Nat}(H:Hp b S w rs)(s:pE rs (dY g t' cs) rest)(h:(iG l x,cs[j]?)=(some (.pointer (some ⟨g,j,none⟩)),some v))(k:WL P n dh Q K (os) ((d,v)::l) w)(hd:Nat.blt d n.size=true:=by rfl)(h1:l9 P t:=by exact λ_=>by kernel_rfl):WL P n dh Q K (⟨some d,.load t x,ty,pos,mI,none⟩::os) (l) w:=ev (dx h1 (aR (·.1) h) (H.x s) (aR (·.2) h)) k hd
theorem jT(g j:Nat)(h1:eu P s f off)(H:Hp b S w rs)(s':pE rs (dY g t' cs) rest)(h:(iG l x,p.add off,iG ((d,(.pointer (some ⟨g,j,none⟩)))::l) x2,cs[j]?)=(some (.pointer (some p)),⟨g,j,none⟩,some (.pointer (some ⟨g,j,none⟩)),some v))(k:WL P n dh Q K (os) ((d2,v)::(d,(.pointer (some ⟨g,j,none⟩)))::l) w)(hd:Nat.blt d n.size=true:=by rfl)(hd2:Nat.blt d2 n.size=true:=by rfl)(h2:l9 P t:=by exact λ_=>by kernel_rfl):WL P n dh Q K (⟨some d,.fieldAddr s x f,ty,pos,mI,none⟩::⟨some d2,.load t x2,ty2,pos2,ao5,none⟩::os) (l) w:=ev (dW h1 (aR (·.1) h) (aR (·.2.1) h)) (ev (dx h2 (aR (·.2.2.1) h) (H.x s') (aR (·.2.2.2) h)) k hd2) hd
theorem gfy(g j:Nat){m:Nat}{bW:Bool}(h1:eu P s f off)(h:(guardOf dh l m,iG l x,p.add off)=(some (.bool bW),some (.pointer (some p)),⟨g,j,none⟩))(k:WL P n dh Q K (os) ((d,(.pointer (some ⟨g,j,none⟩)))::l) w)(hd:Nat.blt d n.size=true:=by rfl):WL P n dh Q K (⟨some d,.fieldAddr s x f,ty,pos,mI,some (m,bW)⟩::os) (l) w:=bn (aR (·.1) h) (dW h1 (aR (·.2.1) h) (aR (·.2.2) h)) hd k
theorem gby{g j m:Nat}{bW:Bool}(H:Hp b S w rs)(s:pE rs (dY g t' cs) rest)(h:(guardOf dh l m,iG l x,cs[j]?)=(some (.bool bW),some (.pointer (some ⟨g,j,none⟩)),some v))(k:WL P n dh Q K (os) ((d,v)::l) w)(hd:Nat.blt d n.size=true:=by rfl)(h1:l9 P t:=by exact λ_=>by kernel_rfl):WL P n dh Q K (⟨some d,.load t x,ty,pos,mI,some (m,bW)⟩::os) (l) w:=bn (aR (·.1) h) (dx h1 (aR (·.2.1) h) (H.x s) (aR (·.2.2) h)) hd k
theorem wL(g j:Nat){m m2:Nat}{bW axe:Bool}(h1:eu P s f off)(H:Hp b S w rs)(s':pE rs (dY g t' cs) rest)(h:(guardOf dh l m,iG l x,p.add off,guardOf dh ((d,(.pointer (some ⟨g,j,none⟩)))::l) m2,iG ((d,(.pointer (some ⟨g,j,none⟩)))::l) x2,cs[j]?)=(some (.bool bW),some (.pointer (some p)),⟨g,j,none⟩,some (.bool axe),some (.pointer (some ⟨g,j,none⟩)),some v))(k:WL P n dh Q K (os) ((d2,v)::(d,(.pointer (some ⟨g,j,none⟩)))::l) w)(hd:Nat.blt d n.size=true:=by rfl)(hd2:Nat.blt d2 n.size=true:=by rfl)(h2:l9 P t:=by exact λ_=>by kernel_rfl):WL P n dh Q K (⟨some d,.fieldAddr s x f,ty,pos,mI,some (m,bW)⟩::⟨some d2,.load t x2,ty2,pos2,ao5,some (m2,axe)⟩::os) (l) w:=bn (aR (·.1) h) (dW h1 (aR (·.2.1) h) (aR (·.2.2.1) h)) hd (bn (aR (·.2.2.2.1) h) (dx h2 (aR (·.2.2.2.2.1) h) (H.x s') (aR (·.2.2.2.2.2) h)) hd2 k)
theorem gX{KH:Operand}{args:List Operand}{tys:Array TypeId}{f:FuncId}{caps vs all:List Value}{R:Value->World->Prop}(h:(iG l KH,EW l args,vs++caps)=(some (.func (.func f) #[] caps.toArray),some vs,all))(hc:bS P f all.toArray w R)(k:∀ v w',R v w'->WL P n dh Q K os ((d,v)::l) w')(hd:Nat.blt d n.size=true:=by rfl)(D5:bF P f:=by exact λ_ _=>by kernel_rfl):WL P n dh Q K (⟨some d,.call ⟨.value KH,args.toArray,tys⟩,ty,pos,mI,none⟩::os) l w:=xK (aR (·.1) h) (aR (·.2.1) h) (aR (·.2.2) h) D5 hc hd k
theorem mU{KH:Operand}{args:List Operand}{tys:Array TypeId}{f:FuncId}{caps vs all:List Value}{u:Value}{S':Nat->Prop}(H:Hp b S w rs)(h:(iG l KH,EW l args,vs++caps)=(some (.func (.func f) #[] caps.toArray),some vs,all))(hc:bS P f all.toArray w λv w'=>v=u/\Hp w S' w' [])(k:∀ w',Hp b S w' rs->WL P n dh Q K os ((d,u)::l) w')(hd:Nat.blt d n.size=true:=by rfl)(D5:bF P f:=by exact λ_ _=>by kernel_rfl):WL P n dh Q K (⟨some d,.call ⟨.value KH,args.toArray,tys⟩,ty,pos,mI,none⟩::os) l w:=C0 H (aR (·.1) h) (aR (·.2.1) h) (aR (·.2.2) h) D5 hc k hd
theorem sty{g:Nat}{ds:List Value}{y:Operand}(h:(iG l x,iG l y,v.cells)=(some (gD g),some v,ds.toArray))(H:Hp b S w rs)(s:pE rs (dY g t' cs) rest)(h2:(cs.length,ds.all (λu=>u.oneCell'))=(ds.length,true))(k:∀ w',Hp b S w' (dY g t' ds::rest)->WL P n dh Q K os l w')(hs:Size P t ds.length:=by exact λ_=>by kernel_rfl):WL P n dh Q K (⟨none,.store t x y,ty,pos,mI,none⟩::os) l w:=stw (aR (·.1) h) (aR (·.2.1) h) (aR (·.2.2) h) hs H s (aR (·.1) h2) (aR (·.2) h2) k
theorem xP{g i:Nat}{y:Operand}(h:(iG l x,iG l y,v.oneCell')=(some (.pointer (some ⟨g,i,none⟩)),some v,true))(H:Hp b S w rs)(s:pE rs (dY g t' cs) rest)(hi:Nat.blt i cs.length=true)(k:∀ w',Hp b S w' (dY g t' (cs.set i v)::rest)->WL P n dh Q K os l w')(hs:Size P t 1:=by exact λ_=>by kernel_rfl):WL P n dh Q K (⟨none,.store t x y,ty,pos,mI,none⟩::os) l w:=stc (aR (·.1) h) (aR (·.2.1) h) (aR (·.2.2) h) hs H s hi k
theorem zA{fn:Func}{R:Value->World->Prop}{rs:List ResultVar}{vs:List Value}(h:(fn.results,Wn l rs,uJ vs)=(rs.toArray,some vs,v))(hR:R v w)(hm:n.marks=[]:=by rfl):l8 n (bodyPost P fn (RR R)) .ret l w:=UC (aR (·.1) h) (aR (·.2.1) h) (aR (·.2.2) h) hR hm
theorem jc{fn:Func}{R:Value->World->Prop}{rs:List ResultVar}{vs:List Value}(h:(fn.results,Wn l rs,uJ vs)=(rs.toArray,some vs,v))(hR:R v w)(hm:n.marks=[]:=by rfl):WP P n .ret l w (bodyPost P fn (RR R)):=jf (zA h hR hm)
theorem uX{fn:Func}{R:Value->World->Prop}{rs:List ResultVar}{vs:List Value}(h:(fn.results,Wn l rs,uJ vs)=(rs.toArray,some vs,v))(hR:R v w)(hm:n.marks=[]:=by rfl):WP P n .ret l w (Exit.then K (bodyPost P fn (RR R))):=jf (fT (zA h hR hm))
theorem Ox{id:Nat}{fn:Func}{R:Value->World->Prop}{rs:List ResultVar}{vs:List Value}(h:(fn.results,Wn l rs,uJ vs)=(rs.toArray,some vs,v))(hR:R v w)(hm:n.marks=[]:=by rfl):WP P n .ret l w (Exit.inBlock id (Exit.then K (bodyPost P fn (RR R)))):=jf (jg (fT (zA h hR hm)))
theorem jm(h:WP P n y l w Q):WP P n .skip l w (Exit.then (Ot P n y Q) Q):=ze (gG h)
theorem xQ{id:Nat}(h:WP P n y l w Q):WP P n .skip l w (Exit.inBlock id (Exit.then (Ot P n y Q) Q)):=ze (iE (gG h))
theorem wE{id:Nat}{J K2:Act->World->Prop}(h:WP P n y l w Q):WP P n (.exit id) l w (Exit.then J (Exit.then K2 (Exit.inBlock id (Exit.then (Ot P n y Q) Q)))):=qJ (lu (lu (rE (gG h))))
theorem sV{f:FuncId}{fn:Func}{k:Nat}{c:Code}{vs:List Value}{R:Value->World->Prop}(hf:P.funcs[f]? = some fn)(hn:fn.ntmps=k)(h:(fn.body,Nat.ble vs.length k)=(some c,true))(h0:WP P (.bare k) c (enum 0 vs) w (bodyPost P fn (RR R))):bS P f vs.toArray w R:=WP.enter hf (aR (·.1) h) hn (aR (·.2) h) h0
theorem kP(S0:Nat->Prop){f:FuncId}{fn:Func}{k:Nat}{c:Code}{vs:List Value}{R:Value->World->Prop}(hf:P.funcs[f]? = some fn)(hn:fn.ntmps=k)(h:(fn.body,Nat.ble vs.length k)=(some c,true))(h0:Hp w S0 w []->WP P (.bare k) c (enum 0 vs) w (bodyPost P fn (RR R))):bS P f vs.toArray w R:=WP.enter hf (aR (·.1) h) hn (aR (·.2) h) (h0 (KM w S0))
theorem aBR{f:FuncId}{fn:Func}{k:Nat}{c:Code}{vs:List Value}{R:Value->World->Prop}(hf:P.funcs[f]? = some fn)(hn:fn.ntmps=k)(h:(fn.body,Nat.ble vs.length k)=(some c,true))(h0:WP P (.bare k) c (enum 0 vs) w (bodyPostM Fence.wide 0 P fn (RR R))):bS P f vs.toArray w R:=WP.aoX hf (aR (·.1) h) hn (aR (·.2) h) h0
theorem aBS(S0:Nat->Prop){f:FuncId}{fn:Func}{k:Nat}{c:Code}{vs:List Value}{R:Value->World->Prop}(hf:P.funcs[f]? = some fn)(hn:fn.ntmps=k)(h:(fn.body,Nat.ble vs.length k)=(some c,true))(h0:Hp w S0 w []->WP P (.bare k) c (enum 0 vs) w (bodyPostM Fence.wide 0 P fn (RR R))):bS P f vs.toArray w R:=WP.aoX hf (aR (·.1) h) hn (aR (·.2) h) (h0 (KM w S0))
theorem cjz{C:Code}(_:Hp b S w rs)(_:∀ w',Hp b S w' rs->Hp b S w' rk)(J:List (Nat × Value)->List lH->List (Nat × Value)->World->Prop)(h:∀ l' w',J l rk l' w'->WP P n y l' w' Q)(k:(∀ l' w',J l rk l' w'->WP P n y l' w' Q)->WP P n C l w (Exit.then (Ot P n y Q) Q)):WP P n C l w (Exit.then (Ot P n y Q) Q):=k h
theorem WP.kz{l':List (Nat × Value)}(h:WP P n y l' w Q)(hs:Sb l l'):WP P n y l w Q:=OQ l' hs h
def aj0(A:List (Nat × Nat × Value))(aX:Array Bool):Array Bool:=A.foldl (λf p=>f.setIfInBounds p.1 true) aX
theorem wiz(H:Hp b S w rs)(A:List (Nat × Nat × Value))(rest:Nat)(hok:qV dh (A.map (·.1)) rest (aj0 A aX) fuel aX=true)(hq:∀ p∈A,Ee P n dh (λw'=>Hp b S w' rs) l A p)(k:∀ w',Hp b S w' rs->WI P n dh Q rest (aj0 A aX) (A.map (·.2)++l) w')(hd:nodupB (A.map (·.2.1))=true:=by kernel_rfl)(hf:A.all (λp=>(aj0 A aX).getD p.1 false)=true:=by kernel_rfl)(hl:A.all (λp=>!aX.getD p.1 false)=true:=by kernel_rfl)(hp:n.plain=false:=by rfl):WI P n dh Q fuel aX l w:=WI.block A rest (aj0 A aX) hok hd hf hl hq H k hp
section
variable {T:World->Prop}{A B:List (Nat × Nat × Value)}{i:Nat}{o:Oper}{op:Op}{j:Nat}{bW:Bool}{u:Value}
theorem qnz:∀ p∈([]:List (Nat × Nat × Value)),Ee P n dh T l A p:=nofun
theorem qcz(h:(dh[i]?,o.dst,Nat.blt d n.size,look l d)=(some o,some d,true,none))(hQ:Qi P n dh T (Iy o A++l) o v)(t:∀ p∈B,Ee P n dh T l A p):∀ p∈(i,d,v)::B,Ee P n dh T l A p:=List.forall_mem_cons.2 ⟨⟨o,(aR (·.1) h),(aR (·.2.1) h),(aR (·.2.2.1) h),(aR (·.2.2.2) h),hQ⟩,t⟩
theorem zM(h:(dh[i]?,Nat.blt d n.size,look l d,guardOf dh (Iy ⟨some d,op,ty,pos,mI,some (j,bW)⟩ A++l) j,unlike bW u)=(some ⟨some d,op,ty,pos,mI,some (j,bW)⟩,true,none,some u,true))(t:∀ p∈B,Ee P n dh T l A p):∀ p∈(i,d,undef)::B,Ee P n dh T l A p:=List.forall_mem_cons.2 ⟨⟨_,(aR (·.1) h),rfl,(aR (·.2.1) h),(aR (·.2.2.1) h),Qi.pass (aR (·.2.2.2.1) h) (aR (·.2.2.2.2) h)⟩,t⟩
theorem GL(h:(dh[i]?,Nat.blt d n.size,look l d)=(some ⟨some d,op,ty,pos,mI,none⟩,true,none))(hE:∀ w,T w->Ev P n (Iy ⟨some d,op,ty,pos,mI,none⟩ A++l) w op v)(t:∀ p∈B,Ee P n dh T l A p):∀ p∈(i,d,v)::B,Ee P n dh T l A p:=List.forall_mem_cons.2 ⟨⟨_,(aR (·.1) h),rfl,(aR (·.2.1) h),(aR (·.2.2) h),xu hE⟩,t⟩
theorem Oh(h:(dh[i]?,Nat.blt d n.size,look l d,guardOf dh (Iy ⟨some d,op,ty,pos,mI,some (j,bW)⟩ A++l) j)=(some ⟨some d,op,ty,pos,mI,some (j,bW)⟩,true,none,some (.bool bW)))(hE:∀ w,T w->Ev P n (Iy ⟨some d,op,ty,pos,mI,some (j,bW)⟩ A++l) w op v)(t:∀ p∈B,Ee P n dh T l A p):∀ p∈(i,d,v)::B,Ee P n dh T l A p:=List.forall_mem_cons.2 ⟨⟨_,(aR (·.1) h),rfl,(aR (·.2.1) h),(aR (·.2.2.1) h),Qi.evg (aR (·.2.2.2) h) hE⟩,t⟩
end
end
end Go.Proofs.YtlhnnmlenkahlaaGreat
namespace Go.Proofs.YtlhnnmlenkahlaaGreat
open Go.ChangeShapes Go.WideShapes Go.ChangeAt Go.RowKit Go.Deep Go.Proofs.Tryz
def Reads{α:Type}(P:Program)(e:TypeId)(τ:Ty α)(good:α->Prop):Prop:=
  ∀ {H:Type} (enc:TypeId × Value->H) (w:World) (base:Nat) (spare:Nat->Bool) (held:Bool) (fuel:Nat) (cs:List Value) (x:DataW H × List MemPlace),
    DataW.trod enc P w base spare held fuel e cs=some x->∃ y,τ.R Any w y cs/\good y
theorem in_i64{x:Int}(h:(Lit.int .i64 x).wf=true):qm x:=by
  simp only [Lit.wf,bN,bO] at h
  have e1:IntKind.i64.min=-9223372036854775808:=au;have e2:IntKind.i64.max=9223372036854775807:=au;rw [e1,e2] at h;exact h
section
variable {H:Type}{enc:TypeId × Value->H}{P:Program}{w:World}{base:Nat}{spare:Nat->Bool}{held:Bool}
theorem Le{α:Type}{q:Nat->α->Prop}:∀(n:Nat),(∀ i,i<n->∃ x,q i x)->∃ xs:List α,xs.length=n/\∀(i:Nat)(x:α),xs[i]? = some x->q i x
  | 0,_=>⟨[],rfl,λi x hx=>by simp at hx⟩
  | n+1,h=>by
    obtain⟨xs,h1,h2⟩:=Le n (λi hi=>h i aj);obtain⟨x,hx⟩:=h n aj;refine⟨xs++[x],by simp [h1],λi y hy=>?_⟩
    by_cases hi:i<xs.length
    · rw [P9 hi] at hy
      exact h2 i y hy
    · rw [Qb aj] at hy
      have h3:i - xs.length=0:=by
        rcases abV (i - xs.length) with h | h
        · exact h
        · rw [yP (by simp; omega)] at hy; cases hy
      rw [h3] at hy
      simp at hy
      subst hy;have:i=n:=aj;subst this;exact hx
theorem Reads.slice{α:Type}{e t:TypeId}{τ:Ty α}{good:α->Prop}(hr:Reads P e τ good)(hk:P.cellsOf e=τ.k)(ht:P.underlying t=some (.slice e)){fuel:Nat}{cs:List Value}{x:DataW H × List MemPlace}(h:DataW.trod enc P w base spare held fuel t cs=some x) :
    ∃(A:ah)(xs:List α)(c:Nat),cs=[.slice A xs.length c]/\Sl τ Any w A c xs/\∀ y∈xs,good y:=by
  rcases open_slice ht h with ⟨h1,_⟩ | ⟨a,len,cap,m,n,D,Pl,h1,_,h3,h4,h5,_,h7⟩
  · exact⟨none,[],0,h1,DV τ _ w,λy hy=>by simp at hy⟩
  · have hm:len<=m:=by rw [h5]; split <;> omega
    obtain⟨xs,hl,hx⟩:=Le (q:=λi y=>(∃ cs',τ.R Any w y cs'/\∀ j u,cs'[j]? = some u->w.cell? (a.add (i*τ.k+j))=some u)/\good y) len (λi hi=>by
      obtain⟨cs',hc,ht'⟩:=h7 i aj;obtain⟨y,hy,hg⟩:=hr _ _ _ _ _ _ _ _ ht';obtain⟨_,hcl,hat⟩:=World.cells?_some hc;refine⟨y,⟨cs',hy,λj u hu=>?_⟩,hg⟩
      have hj:j<P.cellsOf e:=by
        have:=(nP.1 hu).1;omega
      have:=hat j hj;rw [Proofs.YtlhnnmlenkahlaaGreat.fH,hk] at this
      exact this.trans hu)
    subst hl;refine⟨some a,xs,cap,h1,⟨h3,h4,(λh=>by cases h),λi y hy=>⟨trivial,(hx i y hy).1⟩⟩,λy hy=>?_⟩;obtain⟨i,hi⟩:=sM hy;exact(hx i y hi).2
theorem arg_slice{α:Type}{e t:TypeId}{τ:Ty α}{good:α->Prop}(hr:Reads P e τ good)(hk:P.cellsOf e=τ.k)(ht:P.underlying t=some (.slice e)){r:Reach}{b0:Nat}{v:Value}{d:DataW H}{p:List MemPlace}(hv:Value.okWide P w r b0 t v)(h:DataW.Trod enc P w base spare held t v d p) :
    ∃(A:ah)(xs:List α)(c:Nat),v=.slice A xs.length c/\Sl τ Any w A c xs/\∀ y∈xs,good y:=by
  obtain⟨a,n,c,rfl⟩:=okWide_slice ht hv;obtain⟨fuel,hf⟩:=h;obtain⟨A,xs,c',h1,h2⟩:=hr.slice hk ht hf
  simp [Value.cells] at h1
  obtain⟨rfl,rfl,rfl⟩:=h1;exact⟨_,_,_,Y,h2⟩
theorem arg_struct{α:Type}{t:TypeId}{fs:Array Field}{τ:Ty α}{good:α->Prop}(hr:Reads P t τ good)(hs:P.underlying t=some (.struct fs)){r:Reach}{b0:Nat}{v:Value}{d:DataW H}{p:List MemPlace}(hv:Value.okWide P w r b0 t v)(h:DataW.Trod enc P w base spare held t v d p) :
    ∃(x:α)(cs:List Value),v=.agg cs.toArray/\τ.R Any w x cs/\good x:=by
  obtain⟨cs,rfl,_⟩:=okWide_struct hs hv;obtain⟨fuel,hf⟩:=h;obtain⟨x,h1,h2⟩:=hr _ _ _ _ _ _ _ _ hf;exact⟨x,cs.toList,av,h1,h2⟩
theorem get_ok{α:Type}{xs:List α}{n i:Nat}(h:xs.length=n)(hi:i<n):∃ y,xs[i]? = some y:=⟨xs[i]'aj,qI _⟩
end
theorem len_succ{cs:List Value}{n:Nat}(h:cs.length=n+1):∃ c cs',cs=c::cs'/\cs'.length=n:=by
  cases cs with
  | nil=>simp at h
  | cons c cs=>exact⟨c,cs,rfl,by simpa using h⟩
theorem len_zero{cs:List Value}(h:cs.length=0):cs=[]:=uE h
end Go.Proofs.YtlhnnmlenkahlaaGreat
namespace Go.Proofs.YtlhnnmlenkahlaaGreat
open Go.Shelf Go.Proofs.Tryz
def Tryz.lays189_ren:Go.Shelf.Ren:=⟨λ| 189=>189 | 125=>280 | 257=>279 | 128=>383 | 129=>384 | 294=>374 | 295=>375 | 296=>376 | 297=>377 | 298=>378 | 299=>379 | 216=>380 | 300=>381 | 301=>382 | 328=>429 | 329=>430 | 330=>431 | 331=>432 | 332=>433 | 215=>282 | 343=>449 | n=>n,λ| 28=>55 | 3=>3 | 46=>97 | 0=>0 | 51=>57 | 53=>367 | 4=>4 | 183=>361 | 182=>360 | 131=>161 | 5=>5 | 9=>9 | 218=>394 | 222=>398 | 228=>408 | 229=>141 | n=>n,λ| n=>n⟩
theorem Tryz.lays189:Go.Proofs.Lays.n189 prog Tryz.lays189_ren:={
  mixed:=ak
  f125:=func280.trans (aR some ak)
  f128:=func383.trans (aR some ak)
  f129:=func384.trans (aR some ak)
  f189:=func189.trans (aR some ak)
  f215:=func282.trans (aR some ak)
  f216:=func380.trans (aR some ak)
  f257:=func279.trans (aR some ak)
  f294:=func374.trans (aR some ak)
  f295:=func375.trans (aR some ak)
  f296:=func376.trans (aR some ak)
  f297:=func377.trans (aR some ak)
  f298:=func378.trans (aR some ak)
  f299:=func379.trans (aR some ak)
  f300:=func381.trans (aR some ak)
  f301:=func382.trans (aR some ak)
  f328:=func429.trans (aR some ak)
  f329:=func430.trans (aR some ak)
  f330:=func431.trans (aR some ak)
  f331:=func432.trans (aR some ak)
  f332:=func433.trans (aR some ak)
  f343:=func449.trans (aR some ak)
  t0:=underlying0
  a0:=Tryz.isAgg0
  z0:=Tryz.sizeOf0
  v0:=Tryz.zeroValue0
  t3:=iQ
  a3:=Tryz.isAgg3
  z3:=Tryz.sizeOf3
  v3:=Tryz.zeroValue3
  t4:=SS
  a4:=Tryz.isAgg4
  z4:=Tryz.sizeOf4
  v4:=Tryz.zeroValue4
  t5:=underlying5
  a5:=Tryz.isAgg5
  z5:=Tryz.sizeOf5
  v5:=Tryz.zeroValue5
  t9:=underlying9
  a9:=Tryz.isAgg9
  z9:=Tryz.sizeOf9
  v9:=Tryz.zeroValue9
  t28:=fB
  a28:=Tryz.isAgg55
  z28:=Tryz.sizeOf55
  v28:=Tryz.zeroValue55
  t46:=underlying97
  a46:=Tryz.isAgg97
  z46:=Tryz.sizeOf97
  v46:=Tryz.zeroValue97
  t51:=underlying57
  a51:=Tryz.isAgg57
  z51:=Tryz.sizeOf57
  v51:=Tryz.zeroValue57
  t53:=underlying367
  a53:=Tryz.isAgg367
  z53:=Tryz.sizeOf367
  v53:=Tryz.zeroValue367
  t131:=underlying161
  a131:=Tryz.isAgg161
  z131:=Tryz.sizeOf161
  v131:=Tryz.zeroValue161
  t182:=underlying360
  a182:=Tryz.isAgg360
  z182:=Tryz.sizeOf360
  v182:=Tryz.zeroValue360
  t183:=underlying361
  a183:=Tryz.isAgg361
  z183:=Tryz.sizeOf361
  v183:=Tryz.zeroValue361
  t218:=underlying394
  a218:=Tryz.isAgg394
  z218:=Tryz.sizeOf394
  v218:=Tryz.zeroValue394
  t222:=underlying398
  a222:=Tryz.isAgg398
  z222:=Tryz.sizeOf398
  v222:=Tryz.zeroValue398
  t228:=underlying408
  a228:=Tryz.isAgg408
  z228:=Tryz.sizeOf408
  v228:=Tryz.zeroValue408
  t229:=underlying141
  a229:=Tryz.isAgg141
  z229:=Tryz.sizeOf141
  v229:=Tryz.zeroValue141 }
def Tryz.laysF6_ren:Go.Shelf.Ren:=⟨λ| 6=>406 | 15=>280 | 14=>436 | 28=>383 | 29=>384 | 20=>450 | 21=>451 | 22=>452 | 23=>453 | 24=>454 | 25=>455 | 26=>456 | 27=>457 | 46=>462 | 47=>430 | 48=>431 | 49=>463 | 50=>464 | 57=>469 | n=>n,λ| 22=>41 | 24=>78 | 25=>377 | 3=>3 | 39=>97 | 0=>0 | 53=>57 | 55=>367 | 4=>4 | 46=>361 | 45=>360 | 50=>161 | 5=>5 | 9=>9 | 66=>394 | 70=>398 | 76=>408 | 77=>141 | n=>n,λ| n=>n⟩
theorem Tryz.laysF6:Go.Proofs.SlLaysF0.n6 prog Tryz.laysF6_ren:={
  mixed:=ak
  f6:=⟨Tryz.f406.name,au,func406.trans (aR some ak)⟩
  f14:=⟨Tryz.f436.name,au,func436.trans (aR some ak)⟩
  f15:=func280.trans (aR some ak)
  f20:=⟨Tryz.f450.name,au,func450.trans (aR some ak)⟩
  f21:=⟨Tryz.f451.name,au,func451.trans (aR some ak)⟩
  f22:=⟨Tryz.f452.name,au,func452.trans (aR some ak)⟩
  f23:=⟨Tryz.f453.name,au,func453.trans (aR some ak)⟩
  f24:=⟨Tryz.f454.name,au,func454.trans (aR some ak)⟩
  f25:=⟨Tryz.f455.name,au,func455.trans (aR some ak)⟩
  f26:=⟨Tryz.f456.name,au,func456.trans (aR some ak)⟩
  f27:=⟨Tryz.f457.name,au,func457.trans (aR some ak)⟩
  f28:=func383.trans (aR some ak)
  f29:=func384.trans (aR some ak)
  f46:=⟨Tryz.f462.name,au,func462.trans (aR some ak)⟩
  f47:=func430.trans (aR some ak)
  f48:=func431.trans (aR some ak)
  f49:=⟨Tryz.f463.name,au,func463.trans (aR some ak)⟩
  f50:=⟨Tryz.f464.name,au,func464.trans (aR some ak)⟩
  f57:=⟨Tryz.f469.name,au,func469.trans (aR some ak)⟩
  t0:=underlying0
  a0:=Tryz.isAgg0
  z0:=Tryz.sizeOf0
  v0:=Tryz.zeroValue0
  t3:=iQ
  a3:=Tryz.isAgg3
  z3:=Tryz.sizeOf3
  v3:=Tryz.zeroValue3
  t4:=SS
  a4:=Tryz.isAgg4
  z4:=Tryz.sizeOf4
  v4:=Tryz.zeroValue4
  t5:=underlying5
  a5:=Tryz.isAgg5
  z5:=Tryz.sizeOf5
  v5:=Tryz.zeroValue5
  t9:=underlying9
  a9:=Tryz.isAgg9
  z9:=Tryz.sizeOf9
  v9:=Tryz.zeroValue9
  t22:=nW
  a22:=Tryz.isAgg41
  z22:=Tryz.sizeOf41
  v22:=Tryz.zeroValue41
  t25:=underlying377
  a25:=Tryz.isAgg377
  z25:=Tryz.sizeOf377
  v25:=Tryz.zeroValue377
  t39:=underlying97
  a39:=Tryz.isAgg97
  z39:=Tryz.sizeOf97
  v39:=Tryz.zeroValue97
  t45:=underlying360
  a45:=Tryz.isAgg360
  z45:=Tryz.sizeOf360
  v45:=Tryz.zeroValue360
  t46:=underlying361
  a46:=Tryz.isAgg361
  z46:=Tryz.sizeOf361
  v46:=Tryz.zeroValue361
  t50:=underlying161
  a50:=Tryz.isAgg161
  z50:=Tryz.sizeOf161
  v50:=Tryz.zeroValue161
  t53:=underlying57
  a53:=Tryz.isAgg57
  z53:=Tryz.sizeOf57
  v53:=Tryz.zeroValue57
  t55:=underlying367
  a55:=Tryz.isAgg367
  z55:=Tryz.sizeOf367
  v55:=Tryz.zeroValue367
  t66:=underlying394
  a66:=Tryz.isAgg394
  z66:=Tryz.sizeOf394
  v66:=Tryz.zeroValue394
  t70:=underlying398
  a70:=Tryz.isAgg398
  z70:=Tryz.sizeOf398
  v70:=Tryz.zeroValue398
  t76:=underlying408
  a76:=Tryz.isAgg408
  z76:=Tryz.sizeOf408
  v76:=Tryz.zeroValue408
  t77:=underlying141
  a77:=Tryz.isAgg141
  z77:=Tryz.sizeOf141
  v77:=Tryz.zeroValue141 }
end Go.Proofs.YtlhnnmlenkahlaaGreat
namespace Go.Proofs.YtlhnnmlenkahlaaGreat
open Go.RowKit Go.Proofs.Tryz
theorem aur(x:Int):∀ u∈[Value.int .i64 x],u.oneCell'=true:=by intro u hu; simp only [iX,lM,sN] at hu; rw [hu]; rfl
def dQ:Ty Int:=Ty.flat 1 (λx=>[.int .i64 x]) au (λ_=>rfl) aur
instance:Flat dQ:=⟨λh=>h⟩
theorem lX{α:Type}{p:α->Bool}{l:List α}{k:Nat}{x:α}(hx:l[k]? = some x):(l.take (k+1)).filter p=(l.take k).filter p++(if p x=true then[x] else[]):=by
  rw [fD hx,vX]; simp only [Iz,abY]
theorem ao6:bF prog 282:=ay
theorem rZ:Size prog 3 1:=ay
theorem jD:l9 prog 3:=ay
theorem WT{S0:Nat->Prop}(w:World)(x:Int) :
    bS prog 282 #[aF x] w λv w'=>v=.bool false/\Hp w S0 w' []:=by
 refine WP.enter func282 Y ntmps282 Y ?_;have H0:=KM w S0;refine rg<|iI Y<|dn<|rg<|mv Y<|mv Y<|ev (nQ Y Y)<|iI Y<|dn<|jf (UC Y Y Y ?_)
 have eO:((!decide (x=x)):Bool)=false:=by simp
 exact⟨by rw [eO] <;> rfl,H0⟩
theorem nK{S0:Nat->Prop}(w:World)(x:Int)(y:Int) :
    bS prog 195 #[aF x,.int .i64 y] w λv w'=>v=aF (bB x y)/\Hp w S0 w' []:=by
 refine WP.enter func195 Y ntmps195 Y ?_;have H0:=KM w S0;refine rg<|iI Y<|dn<|rg<|mv Y<|C0 H0 Y Y Y ao6 (WT (S0:=Any) _ x) λw1 K1=>iI Y<|dn<|rg<|mv Y<|C0 K1 Y Y Y ao6 (WT (S0:=Any) _ y) λw2 K2=>iI Y<|dn<|aW<|rg<|mv Y<|dn ?_
 refine bK Y (λ_h=>absurd _h au) (λ_h=>?_);refine ze (gG ?_);refine aW<|rg<|mv Y<|dn<|bK Y (λ_h=>absurd _h au) (λ_h=>?_)
 refine ze (gG ?_);refine aW<|rg<|mv Y<|mv Y<|ev (fC Y Y)<|dn<|bK Y (λhc16=>?_) (λhc16=>?_)
 ·replace hc16:=gW hc16;refine rg<|iI Y<|dn<|jf (fT (UC Y Y Y ?_))
  have eO:((-1):Int)=(bB x y):=by unfold bB; rw [aO hc16]
  exact⟨by rw [<- eO] <;> rfl,K2⟩
 replace hc16:=iJ hc16;refine ze (gG ?_);refine aW<|rg<|mv Y<|mv Y<|ev (pV Y Y)<|dn<|bK Y (λhc19=>?_) (λhc19=>?_)
 ·replace hc19:=gW hc19;refine rg<|iI Y<|dn<|jf (fT (UC Y Y Y ?_))
  have fQ:(1:Int)=(bB x y):=by unfold bB; rw [aK hc16,aO hc19]
  exact⟨by rw [<- fQ] <;> rfl,K2⟩
 replace hc19:=iJ hc19;refine ze (gG ?_);refine rg<|iI Y<|dn<|jf (UC Y Y Y ?_)
 have jW:(0:Int)=(bB x y):=by unfold bB; rw [aK hc16,aK hc19]
 exact⟨by rw [<- jW] <;> rfl,K2⟩
end Go.Proofs.YtlhnnmlenkahlaaGreat
