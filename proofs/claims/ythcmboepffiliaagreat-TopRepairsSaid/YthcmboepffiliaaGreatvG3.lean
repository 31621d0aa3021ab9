/- Lemmas. -/
import Derived.ProofKit
import Derived.OpenShut
import Derived.ShutString
import Derived.ChangeOld
import Derived.Deep.Slices
import Derived.Deep.Fields
import Derived.Shelf.Sort.Plain
import Derived.Shelf.Slices.In.SortNone
import Derived.Shelf.SlSortCmp.NoneTotal
import Derived.Ground.SlsfProg
import Derived.Test.YthcmboepffiliaaGreatProg
import Derived.Test.YthcmboepffiliaaGreatRows
import Derived.Shelf.Bodies2
import Derived.Test.YthcmboepffiliaaGreatvG2
set_option linter.all false
set_option maxRecDepth 4000
namespace Go.Proofs.YthcmboepffiliaaGreat
open Go.RowKit Go.Proofs.Tryz
def ac7:=@Array.getElem?_toList
def uq:=@List.getElem?_of_mem
def ML:=@List.mem_flatMap
def Yy:=@MapKept.findNow_spec
def Cm:=@Bool.eq_false_iff
def ajJ:=@MapKept.run_keyThatStays
def CB:=@List.filter_append
def Az:=@List.find?_cons_of_neg
def JD:=@List.pairwise_map
def ac8:=@Option.map_some
def MN:=@List.any_eq_true
def rP:=@List.forall_mem_cons
def ig:=@underlying3
def Uo:=@underlying4
def gq:=@underlying46
def qm:=@underlying33
def lH:=@List.not_mem_nil
def qM:=@or_false
def MO:=@List.filter_cons
def qo:=@info_parts
def ac9:=@Bool.eq_iff_iff
def lT:=@underlying34
def CF:=@List.drop_eq_getElem_cons
def Ur:=@List.all_eq_false
def sU:=@List.map_append
def MP:=@List.map_set
def wU:=@false_implies
def wV:=@implies_true
def uw:=@and_true
def mW:=@List.length_filter_le
section
variable {s:List (Int × Int)}{j i fuel g:Nat}{e t kt et:TypeId}{op:Op}{bQ:Bool}{v u:Value}{aW listed' full:Array Bool}{rk:List kF}{aX7:World->Prop}{aX9:List (Nat × Value)->World->Prop}{l':List (Nat × Value)}{o:Oper}{S' S0:Nat->Prop}{M:Array Oper}{Q:Exit->Act->World->Prop}{cs:List Value}{m ky:Operand}{α:Type}{p:α->Bool}{xs:List α}{τ:Ty α}{good:α->Prop}
def yH(s:List Int):Array MapEntry:=(s.zipIdx.map λp=>⟨.int .i64 p.1,.bool true,p.2⟩).toArray
def Us(s:List Int)(z:Int):List Int:=if s.contains z then s else s++[z]
def aob(s:V Int):(yH s).size=s.length:=by simp [yH]
def aoc(s:V Int)(z:Int):(yH s).push ⟨O z,.bool true,s.length⟩=yH (s++[z]):=by
 grind [yH]
def Yz{s:V Int}{e:MapEntry}(h:(yH s).toList[j]? = some e):∃ z,s[j]? = some z/\e=⟨O z,.bool true,j⟩:=by
 simp only [yH,rM,List.getElem?_zipIdx,Js] at h
 grind
def agf{s:V Int}{z:Int}(h:s[j]? = some z):(yH s).modify j (λe=>{ e with key:=O z,val:=.bool true })=yH s:=by
 apply Array.ext_getElem?;intro i;rw [Array.getElem?_modify]
 by_cases hij:j=i
 ·subst hij
  rw [aS rfl]
  have h1:(yH s)[j]? = some ⟨O z,.bool true,j⟩:=by
   rw [<- ac7]; simp [yH,h]
  rw [h1]; rfl
 ·rw [aQ hij]
def abH(s:V Int):∀ x∈(yH s).toList,MapKept.IsKey (.int .i64) x.key:=by
 intro x hx;obtain⟨j,hj⟩:=uq hx;obtain⟨z,_,rfl⟩:=Yz hj
 rfl
section
variable {P:Program}{n:Cx}{l:List (Nat × Value)}{b w:World}{S:Nat->Prop}{rs rest:List kF}{Q:Exit->Act->World->Prop}{K:Act->World->Prop}{M:Array Oper}{os:List Oper}{ty:TypeId}{pos:String}{lN:Array Edge}{d:Nat}
theorem unwanted{dd:Option Nat}(hg:guardOf M l j=some v)(hv:unlike bQ v=true)(a:Act)(ha:Has n l a):Region.wanted ⟨dd,op,ty,pos,lN,some (j,bQ)⟩ (yielded M a.tmps)=false:=by
 show(yielded M a.tmps j == some bQ)=false;rw [ES ha hg]
 cases v <;> simp [unlike] at hv ⊢
 grind
def tkc(M:Array Oper)(aW listed':Array Bool)(i:Nat):Bool:=
  Region.free .any M aW i&&((!aW.getD i true&&((M[i]?).map λo=>o.after.all λe=>!Region.binds .any e||aW.getD e.on false).getD false)&&(aW.setIfInBounds i true).toList == listed'.toList)
def JE(h:tkc M aW listed' i=true):Region.free .any M aW i=true/\(Region.ready .any M aW).contains i=true/\aW.setIfInBounds i true=listed':=by
 simp only [tkc,bK,Uh] at h
 refine⟨h.1,?_,by grind [Array.toList_inj]⟩
 grind [Region.ready]
def WH.tn(i:Nat)(listed':Array Bool){d:Nat}(hs:Region.noSelect M=true)(hi:M[i]? = some ⟨some d,op,ty,pos,lN,none⟩)(hf:tkc M aW listed' i=true)
  (he:∀ w',Hp b S w' rk->Ev P n l w' op v) (hd:Nat.blt d n.size=true) (hw:Hp b S w rk) (k:WH P n M K (λw'=>Hp b S w' rk) fuel listed' ((d,v)::l) w) :
  WH P n M K (λw'=>Hp b S w' rk) (fuel+1) aW l w:=WH.tk i hi hs (JE hf).1 (JE hf).2.1 he hd hw ((JE hf).2.2▸k)
def WH.tng(i:Nat)(listed':Array Bool){d:Nat}(hs:Region.noSelect M=true)(hi:M[i]? = some ⟨some d,op,ty,pos,lN,some (j,bQ)⟩)(hg:guardOf M l j=some (.bool bQ))(hf:tkc M aW listed' i=true)
  (he:∀ w',Hp b S w' rk->Ev P n l w' op v) (hd:Nat.blt d n.size=true) (hw:Hp b S w rk) (k:WH P n M K (λw'=>Hp b S w' rk) fuel listed' ((d,v)::l) w) :
  WH P n M K (λw'=>Hp b S w' rk) (fuel+1) aW l w:=WH.tkg i hi hg hs (JE hf).1 (JE hf).2.1 he hd hw ((JE hf).2.2▸k)
def WH.tnp(i:Nat)(listed':Array Bool){d:Nat}(hs:Region.noSelect M=true)(hi:M[i]? = some ⟨some d,op,ty,pos,lN,some (j,bQ)⟩)(hg:guardOf M l j=some u)(hv:unlike bQ u=true)(hf:tkc M aW listed' i=true)
  (hd:Nat.blt d n.size=true) (hw:Hp b S w rk) (k:WH P n M K (λw'=>Hp b S w' rk) fuel listed' ((d,undef)::l) w) :
  WH P n M K (λw'=>Hp b S w' rk) (fuel+1) aW l w:=λa ha=>
 wpAnyH_take hi hs (JE hf).1 (JE hf).2.1 (λ_ _ _ h=>h) (.inr (by grind [unwanted])) hw ((JE hf).2.2▸k _ (ha.put hd undef))
def WH.re2{t:Nat}(hl:look l t=some u)(e:u=v)(k:WH P n M K aX7 fuel aW ((t,v)::l) w):WH P n M K aX7 fuel aW l w:=λa ha=>k a (ha.set hl e)
def LM(n m:Nat):Array Bool:=((List.range n).map λi=>m.testBit i).toArray
def WH.kj(hS:∀ l w,aX9 l w->WH P n M K aX7 fuel listed' l w)(he:((aW.setIfInBounds i true).toList == listed'.toList)=true)(hk:aX7 w)(hJ:aX9 l' w)(hs:Sb l l'):WL P n.C8 M (Only K) (HK P M K aX7 fuel (aW.setIfInBounds i true)) [] l w:=by
 have e:aW.setIfInBounds i true=listed':=by grind [Array.toList_inj]
 exact aO hk (e▸λa ha=>hS l' w hJ a (ha.sb hs))
abbrev MQ(gX:Array Bool)(iP:Nat):=gX.setIfInBounds iP true
def WH.one(i:Nat)(hr:Region.ready .any M aW=[i])(hi:M[i]? = some o)(h:WL P n.C8 M (Only K) (HK P M K aX7 fuel (MQ aW i)) [o] l w):WH P n M K aX7 (fuel+1) aW l w:=
 xX hr av (by grind)
def WH.two(i j:Nat){o':Oper}(hr:Region.ready .any M aW=[i,j])(hi:M[i]? = some o)(hj:M[j]? = some o')(h:WL P n.C8 M (Only K) (HK P M K aX7 fuel (MQ aW i)) [o] l w)(h':WL P n.C8 M (Only K) (HK P M K aX7 fuel (MQ aW j)) [o'] l w):WH P n M K aX7 (fuel+1) aW l w:=
 xX hr av (by grind)
def Hp.f4{w':World}{F:V kF}{r1 r2 r3 r4:kF}[zQ r1][zQ r2][zQ r3][zQ r4](H:Hp b S w F)(h:Hp w S' w' [r1,r2,r3,r4]):Hp b S w' (r1::r2::r3::r4::F):=H.lift h.re
def Hp.z(H:Hp b S w rs):Hp b S w []:=⟨H.ext,av,av,List.Pairwise.nil⟩
def Hp.f5{w':World}{F:V kF}{r1 r2 r3 r4 r5:kF}[zQ r1][zQ r2][zQ r3][zQ r4][zQ r5](H:Hp b S w F)(h:Hp w S' w' [r1,r2,r3,r4,r5]):Hp b S w' (r1::r2::r3::r4::r5::F):=H.lift h.re
def ddl(xs:List (Array Bool)):List (Array Bool):=xs.foldl (λacc x=>if acc.contains x then acc else x::acc) []
def axu(xs:V (Array Bool))(x:Array Bool)(h:x∈xs):x∈ddl xs:=by
 have key:∀(xs acc:V (Array Bool)),x∈acc∨x∈xs->x∈xs.foldl (λacc x=>if acc.contains x then acc else x::acc) acc:=by
  intro xs
  induction xs with
  | nil=>simp
  | cons y xs ih=>
   grind
 exact key xs [] (.inr h)
def agh(M:Array Oper)(ids:List Nat)(rest:Nat)(full:Array Bool):Nat->List (Array Bool)->Bool
  | 0,ls=>ls.all λl=>l == full&&rest == 0
  | f+1,ls=>if ls.all (λl=>l == full) then f+1 == rest else ls.all (λl=>!(l == full)&&!(Region.ready .any M l).isEmpty&&(Region.ready .any M l).all λi=>ids.contains i)&&agh M ids rest full f (ddl (ls.flatMap λl=>(Region.ready .any M l).map λi=>l.setIfInBounds i true))
def abI{ids:V Nat}{rest:Nat}:∀ {fuel:Nat} {ls:V (Array Bool)},agh M ids rest full fuel ls=true->∀ l∈ls,rC M ids rest full fuel l=true
 | 0,ls,h,l,hl=>by
  simp only [agh,mD] at h
  exact h l hl
 | f+1,ls,h,l,hl=>by
  unfold agh at h;unfold rC
  split at h
  ·rename_i ha
   rw [aS (mD.1 ha l hl)]; exact h
  ·simp only [bK] at h
   have h1:=mD.1 h.1 l hl
   simp only [bK,dZ] at h1
   rw [aQ (by rw [h1.1.1]; decide)];rw [bK];refine⟨by rw [h1.1.2]; rfl,?_⟩;rw [mD];intro i hi;rw [bK];refine⟨mD.1 h1.2 i hi,abI h.2 _ (axu _ _ ?_)⟩;exact ML.2 ⟨l,hl,eX.2 ⟨i,hi,Y⟩⟩
def ada{ids:V Nat}{rest:Nat}{l:Array Bool}(h:agh M ids rest full fuel [l]=true):rC M ids rest full fuel l=true:=abI h l av
def WP.sc{c:Code}(h:WP P n c l w (Exit.noGoto Q))(hro:n.round=none:=by rfl):WP P n (.scope c) l w Q:=λa ha=>by
 have e:n.fence=Fence.wide:=Yb hro;rw [e];refine X7.2 (wp_scope_straight ?_);have h1:=h a ha
 grind [wpIn_wide]
def WP.lab{lb:Nat}(h:l7 n Q .normal l w):WP P n (.label lb) l w Q:=λa ha=>wpIn_label (h a ha)
def l7.axv(h:l7 n Q .normal l w):l7 n (Exit.noGoto Q) .normal l w:=λa ha=>h a ha
def l7.adb(h:l7 n Q .ret l w):l7 n (Exit.noGoto Q) .ret l w:=λa ha=>h a ha
def Ev.fld{x:Operand}{f off:Nat}{fs:Array Field}{fl:Field}(hu:P.underlying t=some (.struct fs))(hf:fs[f]? = some fl)(ho:fl.offset=off)(hn:kW P fl.type)(hx:fM l x=some (.agg cs.toArray))(hv:cs[off]? = some v):Ev P n l w (.field t x f) v:=λo a w' ho' ha _=>by
 unfold execOp; rw [ho']
 have h1:(Instr.field t (.agg cs.toArray) f).run P w'=.ok v w':=by
  unfold Instr.field
  simp only [jh,jV hu,jv,hf]
  simp only [part,asAgg,jh,kZ,jv,hn w',ho]
  simp [hv]
 simp [ha.eval hx,h1]
def arj{z:Int}{s:V Int}(hm:P.underlying t=some (.map kt et))(hk:P.underlying kt=some (.int .i64))(hb:w.heap[g]? = some (.map (yH s) s.length)):(Instr.mapUpdate t (.map (some g)) (O z) (.bool true)).run P w=.ok () (w.putObj g (.map (yH (Us s z)) (Us s z).length)):=by
 have hz:MapKept.IsKey (.int .i64) (O z):=by simp [MapKept.IsKey]
 have h1:(Instr.checkKey false 10000 kt (O z)).run P w=.ok () w:=MI (n:=9999) hk hz false
 rcases Yy hz (yH s).toList 0 (abH s) with ⟨hf,hno⟩ | ⟨j,e,hf,hj,he⟩
 ·have hc:s.contains z=false:=by
   rw [Cm,ne_eq,nG];intro hmem;obtain⟨j,hj⟩:=uq hmem;have h2:(yH s).toList[j]? = some ⟨O z,.bool true,j⟩:=by simp [yH,hj]
   exact hno _ (zy h2) Y
  have ha:Us s z=s++[z]:=by unfold Us; rw [hc]; rfl
  have h2:=DR (w:=w) hk hf;unfold Instr.mapUpdate
  simp only [jh,jV hm,jv,sO hb,h1,h2,EU _ hb]
  rw [ha,<- aoc,jH]
  rfl
 ·obtain⟨y,hy,rfl⟩:=Yz hj
  have hyz:y=z:=by injection he
  subst hyz;have ha:Us s y=s:=by unfold Us; rw [aS (by rw [nG]; exact zy hy)]
  have h2:=DR (P:=P) (w:=w) hk hf
  have h3:(((yH s)[0+j]?).map (·.key)).getD (.int .i64 y)=.int .i64 y:=by
   rw [<- ac7,Js,hj]; rfl
  unfold Instr.mapUpdate
  simp only [jh,jV hm,jv,sO hb,h1,h2,h3,ajJ hz,EU _ hb]
  rw [ha,Js,agf hy]
  rfl
def aGr{vy:Operand}{z:Int}{s:V Int}(H:Hp b S w rs)(sl:nY rs (nK g (.map (yH s) s.length)) rest)(hx:fM l m=some (.map (some g)))(hkey:fM l ky=some (O z))(hv:fM l vy=some (.bool true))
  (hm:P.underlying t=some (.map kt et)) (hk:P.underlying kt=some (.int .i64))
  (k:∀ w',Hp b S w' (nK g (.map (yH (Us s z)) (Us s z).length)::rest)->WL P n M Q K os l w'):WL P n M Q K (⟨none,.mapUpdate t m ky vy,ty,pos,lN,none⟩::os) l w:=
 Py (by simp [eY]) rfl (R:=λw'=>w'=w.putObj g (.map (yH (Us s z)) (Us s z).length)) (λa ha=>⟨_,by
  unfold execOp; simp [ha.eval hx,ha.eval hkey,ha.eval hv,arj hm hk (H.obj sl)],rfl⟩) λw' e=>by
  subst e; exact k _ (H.putObj sl _)
abbrev ark(g:Nat)(s:List Int):kF:=nK g (.map (yH s) s.length)
def mks(H:Hp b S w rs)(hd:Nat.blt d n.size=true)(k:∀ g w',Hp b S w' (ark g []::rs)->WL P n M Q K os ((d,.map (some g))::l) w'):WL P n M Q K (⟨some d,.makeMap t none,ty,pos,lN,none⟩::os) l w:=mkm H hd k
def Ev.aM4{s:V Int}(H:Hp b S w rs)(sl:nY rs (nK g (.map (yH s) s.length)) rest)(hm:P.underlying t=some (.map kt et))(hx:fM l m=some (.map (some g))):Ev P n l w (.call ⟨.builtin .len,#[m],#[t]⟩) (.int .i64 (s.length:Int)):=λo a w' ho ha ex=>by
 have hb:w'.heap[g]? = some (.map (yH s) s.length):=(ex.block g (vX.1 (H.obj sl)).1).trans (H.obj sl)
 have h1:(Builtin.len_ #[t] o.type #[.map (some g)]).run P w'=.ok (.int .i64 (s.length:Int)) w':=by
  simp only [Builtin.len_]
  simp [jV hm,sO hb,aob,Result.andThen]
  rfl
 unfold execOp; rw [ho]
 simp only [resolve,jh,kZ,jv,invoke,builtin,vI,mg,wB,ha.eval hx,h1]
end
def Gx{ys:V α}{x:α}(hij:i<j)(h1:ys.take i=(xs.take j).filter p)(h2:ys.drop j=xs.drop j)(hx:ys[j]? = some x)(hp:p x=true):(ys.set i x).take (i+1)=(xs.take (j+1)).filter p/\(ys.set i x).drop (j+1)=xs.drop (j+1):=by
 have hxs:xs[j]? = some x:=by
  have h3:(ys.drop j)[0]? = (xs.drop j)[0]?:=by grind
  simpa [G5,hx] using h3.symm
 have hi:i<ys.length:=by grind
 refine⟨?_,?_⟩
 ·simp_all [eO,u7,List.take_set_of_le,j4,CB]
 ·rw [List.drop_set_of_lt aj,<- List.drop_drop,h2,List.drop_drop]
def Gy{ys:V α}{x:α}(h1:ys.take i=(xs.take j).filter p)(h2:ys.drop j=xs.drop j)(hx:ys[j]? = some x)(hp:p x=false):ys.take i=(xs.take (j+1)).filter p/\ys.drop (j+1)=xs.drop (j+1):=by
 have hxs:xs[j]? = some x:=by
  have h3:(ys.drop j)[0]? = (xs.drop j)[0]?:=by grind
  simpa [G5,hx] using h3.symm
 refine⟨?_,?_⟩
 ·simp_all [eO,CB]
 ·rw [<- List.drop_drop,h2,List.drop_drop]
section
variable {P:Program}{n:Cx}{l:List (Nat × Value)}{b w:World}{S:Nat->Prop}{rs rest:List kF}{Q:Exit->Act->World->Prop}{K:Act->World->Prop}{M:Array Oper}{os:List Oper}{ty:TypeId}{pos:String}{lN:Array Edge}{d:Nat}
def Hp.was{o:Obj}(H:Hp b S w rs)(h:b.heap[g]? = some o):w.heap[g]? = some o:=(H.ext.block g (vX.1 h).1).trans h
def aod{s:V Int}{z:Int}(hno:∀ x∈(yH s).toList,x.key≠O z):s.contains z=false:=by
 rw [Cm,ne_eq,nG];intro hmem;obtain⟨j,hj⟩:=uq hmem;have h2:(yH s).toList[j]? = some ⟨O z,.bool true,j⟩:=by grind [yH]
 exact hno _ (zy h2) Y
theorem aoe{z:Int}{s:V Int}(hm:P.underlying t=some (.map kt et))(hk:P.underlying kt=some (.int .i64))(hz:∀ w,(zeroValue et).run P w=.ok (.bool false) w)(hb:w.heap[g]? = some (.map (yH s) s.length)):(Instr.lookup t (.map (some g)) (O z) false).run P w=.ok (.bool (s.contains z)) w:=by
 have hkz:MapKept.IsKey (.int .i64) (O z):=by simp [MapKept.IsKey]
 have h1:∀ e,(Instr.checkKey e 10000 kt (O z)).run P w=.ok () w:=λe=>MI (n:=9999) hk hkz e
 rcases Yy hkz (yH s).toList 0 (abH s) with ⟨hf,hno⟩ | ⟨j,e,hf,hj,he⟩
 ·have h2:=DR (w:=w) hk hf
  unfold Instr.lookup
  simp only [jh,jV hm,jv,sO hb,kZ,h1,h2,hz]
  rw [aod hno]; rfl
 ·obtain⟨y,hy,rfl⟩:=Yz hj
  have hyz:y=z:=by injection he
  subst hyz;have h2:=DR (P:=P) (w:=w) hk hf;unfold Instr.lookup
  simp only [jh,jV hm,jv,sO hb,kZ,h1,h2]
  rw [show s.contains y=true from nG.2 (zy hy)]; rfl
theorem Ev.Gz{z:Int}{s:V Int}(hb:w.heap[g]? = some (.map (yH s) s.length))(hm:P.underlying t=some (.map kt et))(hk:P.underlying kt=some (.int .i64))(hz:∀ w,(zeroValue et).run P w=.ok (.bool false) w)(hx:fM l m=some (.map (some g)))(hy:fM l ky=some (.int .i64 z)):Ev P n l w (.lookup t m ky false) (.bool (s.contains z)):=λo a w' ho ha ex=>by
 have hb':w'.heap[g]? = some (.map (yH s) s.length):=(ex.block g (vX.1 hb).1).trans hb;unfold execOp; rw [ho]
 simp only [ha.eval hx,ha.eval hy]
 grind [Sem.run_bind,aoe,Result.andThen_ok,Sem.run_pure]
def En(s:List (Int × Int)):Array MapEntry:=(s.zipIdx.map λp=>⟨.int .i64 p.1.1,.int .i64 p.1.2,p.2⟩).toArray
def Ht(s:List (Int × Int))(z:Int):Int:=match s.find? (λp=>decide (p.1=z)) with | some p=>p.2 | none=>0
def JF(s:List (Int × Int))(z v:Int):List (Int × Int):=if s.any (λp=>decide (p.1=z)) then s.map (λp=>if p.1=z then(z,v) else p) else s++[(z,v)]
abbrev arl(g:Nat)(s:List (Int × Int)):kF:=nK g (.map (En s) s.length)
def YA{e:MapEntry}(h:(En s).toList[j]? = some e):∃ p,s[j]? = some p/\e=⟨O p.1,O p.2,j⟩:=by
 simp only [En,rM,List.getElem?_zipIdx,Js] at h
 grind
def abJ(s:V (Int × Int)):∀ x∈(En s).toList,MapKept.IsKey (.int .i64) x.key:=by
 intro x hx;obtain⟨j,hj⟩:=uq hx;obtain⟨z,_,rfl⟩:=YA hj
 rfl
def abK{z:Int}(hno:∀ x∈(En s).toList,x.key≠O z):∀ p∈s,p.1≠z:=by
 intro p hp e;obtain⟨j,hj⟩:=uq hp;have h2:(En s).toList[j]? = some ⟨O p.1,O p.2,j⟩:=by grind [En]
 exact hno _ (zy h2) (by rw [e])
def xG(s:List (Int × Int)):Prop:=s.Pairwise λp q=>p.1≠q.1
def axw(hs:xG s){p:Int × Int}(hp:p∈s):Ht s p.1=p.2:=by
 induction s with
 | nil=>grind
 | cons q s ih=>
  have h1:=nT.1 hs;unfold Ht
  by_cases e:q.1=p.1
  ·grind
  ·rw [Az (by grind)]
   exact ih h1.2 (by grind)
def axx{z:Int}(h:∀ p∈s,p.1≠z):Ht s z=0:=by
 grind [Ht]
theorem aof{z:Int}(hs:xG s)(hm:P.underlying t=some (.map kt et))(hk:P.underlying kt=some (.int .i64))(hz:∀ w,(zeroValue et).run P w=.ok (O 0) w)(hb:w.heap[g]? = some (.map (En s) s.length)):(Instr.lookup t (.map (some g)) (O z) false).run P w=.ok (O (Ht s z)) w:=by
 have hkz:MapKept.IsKey (.int .i64) (O z):=by simp [MapKept.IsKey]
 have h1:∀ e,(Instr.checkKey e 10000 kt (O z)).run P w=.ok () w:=λe=>MI (n:=9999) hk hkz e
 rcases Yy hkz (En s).toList 0 (abJ s) with ⟨hf,hno⟩ | ⟨j,e,hf,hj,he⟩
 ·have h2:=DR (w:=w) hk hf
  unfold Instr.lookup
  simp only [jh,jV hm,jv,sO hb,kZ,h1,h2,hz]
  rw [axx (abK hno)]; rfl
 ·obtain⟨p,hp,rfl⟩:=YA hj
  have hyz:p.1=z:=by injection he
  subst hyz;have h2:=DR (P:=P) (w:=w) hk hf;unfold Instr.lookup
  simp only [jh,jV hm,jv,sO hb,kZ,h1,h2]
  rw [axw hs (zy hp)]; rfl
def Ev.aAy{z:Int}(hb:w.heap[g]? = some (.map (En s) s.length))(hs:xG s)(hm:P.underlying t=some (.map kt et))(hk:P.underlying kt=some (.int .i64))(hz:∀ w,(zeroValue et).run P w=.ok (.int .i64 0) w)(hx:fM l m=some (.map (some g)))(hy:fM l ky=some (.int .i64 z)):Ev P n l w (.lookup t m ky false) (.int .i64 (Ht s z)):=λo a w' ho ha ex=>by
 have hb':w'.heap[g]? = some (.map (En s) s.length):=(ex.block g (vX.1 hb).1).trans hb;unfold execOp; rw [ho]
 simp only [ha.eval hx,ha.eval hy]
 grind [Sem.run_bind,aof,Result.andThen_ok,Sem.run_pure]
def aog(s:V (Int × Int))(z v:Int):(En s).push ⟨O z,O v,s.length⟩=En (s++[(z,v)]):=by
 grind [En]
def arn(s:V (Int × Int))(z v:Int):(JF s z v).length=if s.any (λp=>decide (p.1=z)) then s.length else s.length+1:=by
 grind [JF]
def aoh(hs:xG s)(z v:Int):xG (JF s z v):=by
 unfold JF; split
 ·refine JD.2 (hs.imp λ{p q} h=>?_)
  grind
 ·rename_i h
  refine zO.2 ⟨hs,Ui _ _,λp hp q hq e=>h ?_⟩
  grind
def agi(hs:xG s){p:Int × Int}(h:s[j]? = some p)(v:Int):(En s).modify j (λe=>{ e with key:=O p.1,val:=O v })=En (JF s p.1 v):=by
 have ha:JF s p.1 v=s.map (λq=>if q.1=p.1 then(p.1,v) else q):=aS (by grind);rw [ha];apply Array.ext_getElem?;intro i;rw [Array.getElem?_modify]
 have hE:∀(t:V (Int × Int))(k:Nat),(En t)[k]? = (t[k]?).map λq=>⟨O q.1,O q.2,k⟩:=λt k=>by
  rw [<- ac7]; simp only [En,rM,List.getElem?_zipIdx,Js]
  cases t[k]? <;> rfl
 rw [hE,hE,rM]
 by_cases hij:j=i
 ·grind
 ·rw [aQ hij]
  cases hi:s[i]? with
  | none=>rfl
  | some q=>
   simp only [ac8]
   have hne:q.1≠p.1:=λe=>by
    have hlj:=(rG.1 h).1;have hli:=(rG.1 hi).1;have h1:=ER.1 hs
    rcases Nat.lt_or_gt_of_ne hij with h3 | h3
    ·have:=h1 j i hlj hli h3
     rw [(rG.1 h).2,(rG.1 hi).2] at this; exact this e.symm
    ·have:=h1 i j hli hlj h3
     rw [(rG.1 h).2,(rG.1 hi).2] at this; exact this e
   rw [aQ hne]
def aro{z v:Int}(hs:xG s)(hm:P.underlying t=some (.map kt et))(hk:P.underlying kt=some (.int .i64))(hb:w.heap[g]? = some (.map (En s) s.length)):(Instr.mapUpdate t (.map (some g)) (O z) (O v)).run P w=.ok () (w.putObj g (.map (En (JF s z v)) (JF s z v).length)):=by
 have hz:MapKept.IsKey (.int .i64) (O z):=by simp [MapKept.IsKey]
 have h1:(Instr.checkKey false 10000 kt (O z)).run P w=.ok () w:=MI (n:=9999) hk hz false
 rcases Yy hz (En s).toList 0 (abJ s) with ⟨hf,hno⟩ | ⟨j,e,hf,hj,he⟩
 ·have hno':=abK hno
  have ha:JF s z v=s++[(z,v)]:=aQ (by rw [MN]; rintro⟨p,hp,h⟩; exact hno' p hp (by simpa using h));have h2:=DR (w:=w) hk hf;unfold Instr.mapUpdate
  simp only [jh,jV hm,jv,sO hb,h1,h2,EU _ hb]
  rw [ha,<- aog,jH]
  rfl
 ·obtain⟨p,hp,rfl⟩:=YA hj
  have hyz:p.1=z:=by injection he
  subst hyz;have ha:(JF s p.1 v).length=s.length:=by rw [arn,aS (MN.2 ⟨p,zy hp,av⟩)]
  have h2:=DR (P:=P) (w:=w) hk hf
  have h3:(((En s)[0+j]?).map (·.key)).getD (O p.1)=O p.1:=by
   rw [<- ac7,Js,hj]; rfl
  unfold Instr.mapUpdate
  simp only [jh,jV hm,jv,sO hb,h1,h2,h3,ajJ hz,EU _ hb]
  rw [ha,Js,agi hs hp]
  rfl
def aM5{vy:Operand}{z v:Int}(hs:xG s)(H:Hp b S w rs)(sl:nY rs (arl g s) rest)(hx:fM l m=some (.map (some g)))(hkey:fM l ky=some (O z))(hv:fM l vy=some (O v))
  (hm:P.underlying t=some (.map kt et)) (hk:P.underlying kt=some (.int .i64))
  (k:∀ w',Hp b S w' (arl g (JF s z v)::rest)->WL P n M Q K os l w'):WL P n M Q K (⟨none,.mapUpdate t m ky vy,ty,pos,lN,none⟩::os) l w:=
 Py (by simp [eY]) rfl (R:=λw'=>w'=w.putObj g (.map (En (JF s z v)) (JF s z v).length)) (λa ha=>⟨_,by
  unfold execOp; simp [ha.eval hx,ha.eval hkey,ha.eval hv,aro hs hm hk (H.obj sl)],rfl⟩) λw' e=>by
  subst e; exact k _ (H.putObj sl _)
def mkc(H:Hp b S w rs)(hd:Nat.blt d n.size=true)(k:∀ g w',Hp b S w' (arl g []::rs)->WL P n M Q K os ((d,.map (some g))::l) w'):WL P n M Q K (⟨some d,.makeMap t none,ty,pos,lN,none⟩::os) l w:=mkm H hd k
end
abbrev fz(z:Int):Nat:=FloatKind.f64.nearest z
def c01:FloatKind.f64.format.add 0 4607182418800017408=some (fb 1):=by rfl
theorem aCg(m:Nat):fz (m:Int)=fb m:=rfl
def YB(neg:Bool)(mag:Nat)(place:Int):(Ieee.double.read (Ieee.double.nearest neg mag place)).isNaN=false:=by
 have key:∀(s:Bool)(r:Nat),r<=Ieee.double.infRung->(Ieee.double.read (Ieee.double.word s r)).isNaN=false:=by
  intro s r hr;have hI:Ieee.double.infRung<Ieee.double.signWeight:=au
  have hm:Ieee.double.word s r % Ieee.double.signWeight=r:=by
   unfold Ieee.Format.word
   cases s
   ·show r % Ieee.double.signWeight=r
    exact ac2 aj
   ·show(Ieee.double.signWeight+r) % Ieee.double.signWeight=r
    rw [Nat.add_mod_left]; exact ac2 aj
  unfold Ieee.Format.read
  simp only [hm]
  split
  ·rfl
  ·split
   ·rfl
   ·split
    ·rfl
    ·omega
 unfold Ieee.Format.nearest
 grind [Nat.min_le_right]
def axy(z:Int):∃ e,FloatKind.f64.format.add (fz z) 0=some e:=by
 have h:=YB (decide (z<0)) z.natAbs 0;have h0:Ieee.double.read 0=.number false 0 Ieee.double.leastPlace:=au;show ∃ e,((Ieee.double.read (fz z)).sum (Ieee.double.read 0)).map Ieee.double.write=some e;have he:fz z=Ieee.double.nearest (decide (z<0)) z.natAbs 0:=rfl;rw [he,h0]
 cases hr:Ieee.double.read (Ieee.double.nearest (decide (z<0)) z.natAbs 0) with
 | number s m i=>exact⟨_,rfl⟩
 | infinity s=>exact⟨_,rfl⟩
 | nan s f=>rw [hr] at h; cases h
def wIm(o:Bool)(z:Int):Nat:=if o=true then(FloatKind.f64.format.add (fz z) 0).getD 0 else fz z
def axz(z:Int):FloatKind.f64.format.add (fz z) 0=some (wIm true z):=by
 obtain⟨e,h⟩:=axy z;rw [h]; show some e=some _; unfold wIm; rw [aS rfl,h]; rfl
def aCh(o:Bool){m:Nat}(h:m<130):wIm o (m:Int)=fb m:=by
 grind [wIm,aCg,WZ]
def aGs:∀ n,n<70->∀ m,m<70->((FloatKind.f64.format.order (fb n) (fb m) == some .eq)=decide (n=m)):=by decide +kernel
def aGt:∀ n,n<70->∀ m,m<70->((FloatKind.f64.format.order (fb n) (fb m) == some .lt)=decide (n<m)):=by decide +kernel
section
variable {P:Program}{n:Cx}{l:List (Nat × Value)}{w:World}{t ty:TypeId}{x y:Operand}
def Ev.aM6{a b:Nat}(ha:a<70)(hb:b<70)(hx:fM l x=some (.float .f64 (fb a)))(hy:fM l y=some (.float .f64 (fb b))):Ev P n l w (.binOp .neq t x y ty) (.bool (!decide (a=b))):=
 pY hx hy (eqGuard_at_float ..) (by simp_all [binOp,Op.floatCmp,bne,aGs])
def Ev.aGu{a b:Nat}(ha:a<70)(hb:b<70)(hx:fM l x=some (.float .f64 (fb a)))(hy:fM l y=some (.float .f64 (fb b))):Ev P n l w (.binOp .lss t x y ty) (.bool (decide (a<b))):=
 pY hx hy (eqGuard_at_float ..) (by simp_all [binOp,Op.floatCmp,aGt])
def Ev.aGv{d:TypeId}{k:IntKind}{z:Int}(hs:∃ k,P.underlying t=some k)(hd:P.underlying d=some (.float .f64))(hx:fM l x=some (.int k z)):Ev P n l w (.convert t d x) (.float .f64 (fz z)):=λo ac w' ho ha _=>by
 unfold execOp; rw [ho];obtain⟨k,hk⟩:=hs
 simp [ha.eval hx,convert,jV hk,jV hd,Conv.intToFloat]
def Ev.aM7{a b:Nat}{ts:Array TypeId}(hx:fM l x=some (.float .f64 a))(hy:fM l y=some (.float .f64 b)):Ev P n l w (.call ⟨.builtin .complex,#[x,y],ts⟩) (.complex .f64 a b):=λo ac w' ho ha _=>by
 unfold execOp; rw [ho]
 simp only [resolve,jh,kZ,jv,invoke,builtin,vI,mg,wB,ha.eval hx,ha.eval hy]
 rfl
end
section
variable {P:Program}{n:Cx}{l:List (Nat × Value)}{w:World}{t ty:TypeId}{x y:Operand}
def Ev.quo{a c:Int}(hx:fM l x=some (.int .i64 a))(hy:fM l y=some (.int .i64 c))(hc:c≠0)(h:I64 (a.tdiv c)):Ev P n l w (.binOp .quo t x y ty) (.int .i64 (a.tdiv c)):=
 pY hx hy (zP ..) λw=>by
  have hw:=h.wrap
  simp_all [binOp,Op.intDiv]
def Ev.aM8{len:Nat}(hu:P.underlying t=some (.array len e))(hs:Size P e 1)(hn:kW P e)(hi:i<len)(hx:fM l x=some (.agg cs.toArray))(hy:fM l y=some (.int .i64 (i:Int)))(hv:cs[i]? = some v):Ev P n l w (.index t x y) v:=λo a w' ho ha _=>by
 unfold execOp; rw [ho]
 have h1:(Instr.index t (.agg cs.toArray) (.int .i64 (i:Int))).run P w'=.ok v w':=by
  unfold Instr.index
  simp only [asIntOf,jh,kZ,jV hu,jv]
  rw [aS (by grind)]
  simp only [part,asAgg,jh,kZ,jv,hn w',hs w']
  simp [hv]
 simp [ha.eval hx,ha.eval hy,h1]
end
def half(i:Nat):((i:Int) - 1).tdiv 2=(((i - 1) / 2:Nat):Int):=by
 grind
section
variable {P:Program}{n:Cx}{l:List (Nat × Value)}{b w:World}{S:Nat->Prop}{rs rest rk:List kF}{Q:Exit->Act->World->Prop}{K:Act->World->Prop}{aX7:World->Prop}{M:Array Oper}{os:List Oper}{ty:TypeId}{pos:String}{lN:Array Edge}{d:Nat}{fuel:Nat}{aW:Array Bool}{x:Operand}{v:Value}
def He{ol:V Oper}{id:Nat}{y:Code}(H:Hp b S w rs)(_:∀ w',Hp b S w' rs->Hp b S w' rk)(aX9:V (Nat × Value)->V kF->V (Nat × Value)->World->Prop)
  (h:Region.noSelect ol.toArray=true->Hp b S w.drew rs->WH P n ol.toArray (JK n (aX9 l rk)) (λw'=>Hp b S w' rk) ol.length (List.replicate ol.length false).toArray l w.drew) (k:∀ l' w',aX9 l rk l' w'->WP P n y l' w' Q)
  (hm:P.follows .mixedOrders=true:=by kernel_rfl) (hs:Region.noSelect ol.toArray=true:=by kernel_rfl) (hro:n.round=none:=by rfl):WP P n (.seq (.region id ol.toArray true) y) l w Q:=
 WP.held (λw'=>Hp b S w' rk) (aX9 l rk) hm (h hs (H.grow (oW w).drew)) k hro
def Hf{ol:V Oper}{id:Nat}(H:Hp b S w rs)(_:∀ w',Hp b S w' rs->Hp b S w' rk)(aX9:V (Nat × Value)->V kF->V (Nat × Value)->World->Prop)
  (h:Region.noSelect ol.toArray=true->Hp b S w.drew rs->WH P n ol.toArray (JK n (aX9 l rk)) (λw'=>Hp b S w' rk) ol.length (List.replicate ol.length false).toArray l w.drew) (k:∀ l' w',aX9 l rk l' w'->l7 n Q .normal l' w')
  (hm:P.follows .mixedOrders=true:=by kernel_rfl) (hs:Region.noSelect ol.toArray=true:=by kernel_rfl) (hro:n.round=none:=by rfl):WP P n (.region id ol.toArray true) l w Q:=
 WP.aqU (λw'=>Hp b S w' rk) (aX9 l rk) hm (h hs (H.grow (oW w).drew)) k hro
def Jn(_:Hp b S w rk)(aX9:V (Nat × Value)->V kF->V (Nat × Value)->World->Prop)(f m:Nat)(h:∀ l' w',aX9 l rk l' w'->WH P n M K aX7 f (LM M.size m) l' w')(k:(∀ l' w',aX9 l rk l' w'->WH P n M K aX7 f (LM M.size m) l' w')->WH P n M K aX7 fuel aW l w):WH P n M K aX7 fuel aW l w:=k h
def Kj{m:Nat}(hS:∀ l w,aX9 l w->WH P n M K aX7 fuel (LM M.size m) l w)(hk:aX7 w)(hJ:aX9 l' w)(hs:Sb l l')(he:((MQ aW i).toList == (LM M.size m).toList)=true:=by kernel_rfl):WL P n.C8 M (Only K) (HK P M K aX7 fuel (MQ aW i)) [] l w:=WH.kj hS he hk hJ hs
def O1(i:Nat)(hi:M[i]? = some o)(h:WL P n.C8 M (Only K) (HK P M K aX7 fuel (MQ aW i)) [o] l w)(hr:Region.ready .any M aW=[i]:=by kernel_rfl):WH P n M K aX7 (fuel+1) aW l w:=WH.one i hr hi h
def O2(i j:Nat){o':Oper}(hi:M[i]? = some o)(hj:M[j]? = some o')(h:WL P n.C8 M (Only K) (HK P M K aX7 fuel (MQ aW i)) [o] l w)(h':WL P n.C8 M (Only K) (HK P M K aX7 fuel (MQ aW j)) [o'] l w)(hr:Region.ready .any M aW=[i,j]:=by kernel_rfl):WH P n M K aX7 (fuel+1) aW l w:=WH.two i j hr hi hj h h'
def Dn(hJ:aX9 l' w)(hs:Sb l l')(hr:Region.ready .any M aW=[]:=by kernel_rfl):WH P n M (JK n aX9) aX7 fuel aW l w:=WH.dn hJ hs hr
def Lp{c:Code}(_:Hp b S w rk)(aX9:V (Nat × Value)->V kF->Nat->V (Nat × Value)->World->Prop){m0:Nat}{l0:V (Nat × Value)}(h0:aX9 l rk m0 l0 w)(hs:Sb l l0)
  (hb:∀ m l' w',aX9 l rk m l' w'->WP P n c l' w' (Exit.then (Again n (aX9 l rk) m) Q)):WP P n (.loop c) l w Q:=qh (aX9 l rk) h0 hs hb
def C0{Iq:Operand}{args:V Operand}{tys:Array TypeId}{f:FuncId}{caps vs all:V Value}(H:Hp b S w rs)
  (hf:fM l Iq=some (.func (.func f) #[] caps.toArray)) (hargs:Ef l args=some vs) (hall:vs++caps=all) (Ir:bC P f) (hc:bM P f all.toArray w λv w'=>v=u/\Hp w S' w' [])
  (k:∀ w',Hp b S w' rs->WL P n M Q K os ((d,u)::l) w') (hd:Nat.blt d n.size=true:=by rfl):WL P n M Q K (⟨some d,.call ⟨.value Iq,args.toArray,tys⟩,ty,pos,lN,none⟩::os) l w:=
 KY hf hargs hall Ir hc hd λv w' hv=>hv.1▸k w' (H.c0 hv.2)
end
section
variable {P:Program}{n:Cx}{l:List (Nat × Value)}{b w:World}{S:Nat->Prop}{rs rest rk:List kF}{K:Act->World->Prop}{M:Array Oper}{ty:TypeId}{pos:String}{lN:Array Edge}{d:Nat}{fuel:Nat}{aW:Array Bool}{x:Operand}{v:Value}
def kI(i:Nat){op:Op}(hi:M[i]? = some ⟨some d,op,ty,pos,lN,none⟩)(he:∀ w',Hp b S w' rk->Ev P n l w' op v)(hw:Hp b S w rk)(k:WH P n M K (λw'=>Hp b S w' rk) fuel (aW.setIfInBounds i true) ((d,v)::l) w)(hs:Region.noSelect M=true:=by kernel_rfl)(hf:tkc M aW (aW.setIfInBounds i true) i=true:=by kernel_rfl)(hd:Nat.blt d n.size=true:=by rfl):WH P n M K (λw'=>Hp b S w' rk) (fuel+1) aW l w:=WH.tn i _ hs hi hf he hd hw k
def lF(i:Nat)(hi:M[i]? = some ⟨some d,.move x,ty,pos,lN,none⟩)(hx:fM l x=some v)(hw:Hp b S w rk)(k:WH P n M K (λw'=>Hp b S w' rk) fuel (aW.setIfInBounds i true) ((d,v)::l) w)(hs:Region.noSelect M=true:=by kernel_rfl)(hf:tkc M aW (aW.setIfInBounds i true) i=true:=by kernel_rfl)(hd:Nat.blt d n.size=true:=by rfl):WH P n M K (λw'=>Hp b S w' rk) (fuel+1) aW l w:=kI i hi (by grind [Ev.move]) hw k hs hf hd
def xC(i:Nat)(hi:M[i]? = some ⟨some d,.assign x,ty,pos,lN,none⟩)(hx:fM l x=some v)(hw:Hp b S w rk)(k:WH P n M K (λw'=>Hp b S w' rk) fuel (aW.setIfInBounds i true) ((d,v)::l) w)(hs:Region.noSelect M=true:=by kernel_rfl)(hf:tkc M aW (aW.setIfInBounds i true) i=true:=by kernel_rfl)(hd:Nat.blt d n.size=true:=by rfl):WH P n M K (λw'=>Hp b S w' rk) (fuel+1) aW l w:=kI i hi (by grind [Ev.assign]) hw k hs hf hd
def tgz(i:Nat){op:Op}{j:Nat}{bQ:Bool}(hi:M[i]? = some ⟨some d,op,ty,pos,lN,some (j,bQ)⟩)(hg:guardOf M l j=some (.bool bQ))(he:∀ w',Hp b S w' rk->Ev P n l w' op v)(hw:Hp b S w rk)(k:WH P n M K (λw'=>Hp b S w' rk) fuel (aW.setIfInBounds i true) ((d,v)::l) w)(hs:Region.noSelect M=true:=by kernel_rfl)(hf:tkc M aW (aW.setIfInBounds i true) i=true:=by kernel_rfl)(hd:Nat.blt d n.size=true:=by rfl):WH P n M K (λw'=>Hp b S w' rk) (fuel+1) aW l w:=WH.tng i _ hs hi hg hf he hd hw k
def N9(i:Nat){op:Op}{j:Nat}{bQ:Bool}{u:Value}(hi:M[i]? = some ⟨some d,op,ty,pos,lN,some (j,bQ)⟩)(hg:guardOf M l j=some u)(hv:unlike bQ u=true)(hw:Hp b S w rk)(k:WH P n M K (λw'=>Hp b S w' rk) fuel (aW.setIfInBounds i true) ((d,undef)::l) w)(hs:Region.noSelect M=true:=by kernel_rfl)(hf:tkc M aW (aW.setIfInBounds i true) i=true:=by kernel_rfl)(hd:Nat.blt d n.size=true:=by rfl):WH P n M K (λw'=>Hp b S w' rk) (fuel+1) aW l w:=WH.tnp i _ hs hi hg hv hf hd hw k
def tfz(i:Nat){s f off:Nat}{p q:Addr}(hi:M[i]? = some ⟨some d,.fieldAddr s x f,ty,pos,lN,none⟩)(h1:bU P s f off)(hx:fM l x=some (.pointer (some p)))(hq:p.add off=q)(hw:Hp b S w rk)(k:WH P n M K (λw'=>Hp b S w' rk) fuel (aW.setIfInBounds i true) ((d,.pointer (some q))::l) w)(hs:Region.noSelect M=true:=by kernel_rfl)(hf:tkc M aW (aW.setIfInBounds i true) i=true:=by kernel_rfl)(hd:Nat.blt d n.size=true:=by rfl):WH P n M K (λw'=>Hp b S w' rk) (fuel+1) aW l w:=kI i hi (by grind [Ev.field]) hw k hs hf hd
def tcz(i:Nat){p:Addr}(hi:M[i]? = some ⟨some d,.nilCheck x,ty,pos,lN,none⟩)(hx:fM l x=some (.pointer (some p)))(hw:Hp b S w rk)(k:WH P n M K (λw'=>Hp b S w' rk) fuel (aW.setIfInBounds i true) ((d,.pointer (some p))::l) w)(hs:Region.noSelect M=true:=by kernel_rfl)(hf:tkc M aW (aW.setIfInBounds i true) i=true:=by kernel_rfl)(hd:Nat.blt d n.size=true:=by rfl):WH P n M K (λw'=>Hp b S w' rk) (fuel+1) aW l w:=kI i hi (by grind [Ev.nilCheck]) hw k hs hf hd
def tlz(i:Nat){t t':TypeId}{g j:Nat}{cs:V Value}(hi:M[i]? = some ⟨some d,.load t x,ty,pos,lN,none⟩)(h1:kW P t)(hx:fM l x=some (.pointer (some ⟨g,j,none⟩)))(s:nY rk (dJ g t' cs) rest)(hc:cs[j]? = some v)(hw:Hp b S w rk)(k:WH P n M K (λw'=>Hp b S w' rk) fuel (aW.setIfInBounds i true) ((d,v)::l) w)(hs:Region.noSelect M=true:=by kernel_rfl)(hf:tkc M aW (aW.setIfInBounds i true) i=true:=by kernel_rfl)(hd:Nat.blt d n.size=true:=by rfl):WH P n M K (λw'=>Hp b S w' rk) (fuel+1) aW l w:=kI i hi (λ_ hK=>dU h1 hx (hK.x s) hc) hw k hs hf hd
def yj(i:Nat){vs:V Value}{j:Nat}(hi:M[i]? = some ⟨some d,.extract x j,ty,pos,lN,none⟩)(hx:fM l x=some (.tuple vs.toArray))(hj:vs[j]? = some v)(hw:Hp b S w rk)(k:WH P n M K (λw'=>Hp b S w' rk) fuel (aW.setIfInBounds i true) ((d,v)::l) w)(hs:Region.noSelect M=true:=by kernel_rfl)(hf:tkc M aW (aW.setIfInBounds i true) i=true:=by kernel_rfl)(hd:Nat.blt d n.size=true:=by rfl):WH P n M K (λw'=>Hp b S w' rk) (fuel+1) aW l w:=kI i hi (by grind [Ev.extract]) hw k hs hf hd
end
section
variable {P:Program}{n:Cx}{l:List (Nat × Value)}{b w:World}{S:Nat->Prop}{rs rest rk:List kF}{Q Q':Exit->Act->World->Prop}{K:Act->World->Prop}{M:Array Oper}{os:List Oper}{ty ty2:TypeId}{pos pos2:String}{lN ade:Array Edge}{d d2:Nat}{fuel:Nat}{aW:Array Bool}{x x2 y2:Operand}{v:Value}{s f off:Nat}{p:Addr}{t t':TypeId}{cs:List Value}{y:Code}
def Iy(i g j:Nat)(h1:bU P s f off)(h:(M[i]?,fM l x,p.add off)=(some ⟨some d,.fieldAddr s x f,ty,pos,lN,none⟩,some (.pointer (some p)),⟨g,j,none⟩))(hw:Hp b S w rk)(k:WH P n M K (λw'=>Hp b S w' rk) fuel ((aW).setIfInBounds (i) true) ((d,(.pointer (some ⟨g,j,none⟩)))::l) w)(hs:Region.noSelect M=true:=by kernel_rfl)(hf0:tkc M (aW) ((aW).setIfInBounds (i) true) (i)=true:=by kernel_rfl)(hd0:Nat.blt d n.size=true:=by rfl):WH P n M K (λw'=>Hp b S w' rk) (fuel+1) (aW) l w:=tfz i (aY (·.1) h) h1 (aY (·.2.1) h) (aY (·.2.2) h) hw k hs hf0 hd0
def xS(i:Nat){g j:Nat}(s:nY rk (dJ g t' cs) rest)(h:(M[i]?,fM l x,cs[j]?)=(some ⟨some d,.load t x,ty,pos,lN,none⟩,some (.pointer (some ⟨g,j,none⟩)),some v))(hw:Hp b S w rk)(k:WH P n M K (λw'=>Hp b S w' rk) fuel ((aW).setIfInBounds (i) true) ((d,v)::l) w)(hs:Region.noSelect M=true:=by kernel_rfl)(hf0:tkc M (aW) ((aW).setIfInBounds (i) true) (i)=true:=by kernel_rfl)(hd0:Nat.blt d n.size=true:=by rfl)(h1:kW P t:=by exact λ_=>by kernel_rfl):WH P n M K (λw'=>Hp b S w' rk) (fuel+1) (aW) l w:=tlz i (aY (·.1) h) h1 (aY (·.2.1) h) s (aY (·.2.2) h) hw k hs hf0 hd0
def mK(i i2 g j:Nat)(h1:bU P s f off)(s':nY rk (dJ g t' cs) rest)(h:(M[i]?,fM l x,p.add off,M[i2]?,fM ((d,(.pointer (some ⟨g,j,none⟩)))::l) x2,cs[j]?)=(some ⟨some d,.fieldAddr s x f,ty,pos,lN,none⟩,some (.pointer (some p)),⟨g,j,none⟩,some ⟨some d2,.load t x2,ty2,pos2,ade,none⟩,some (.pointer (some ⟨g,j,none⟩)),some v))(hw:Hp b S w rk)(k:WH P n M K (λw'=>Hp b S w' rk) fuel (((aW).setIfInBounds (i) true).setIfInBounds (i2) true) ((d2,v)::(d,(.pointer (some ⟨g,j,none⟩)))::l) w)(hs:Region.noSelect M=true:=by kernel_rfl)(hf0:tkc M (aW) ((aW).setIfInBounds (i) true) (i)=true:=by kernel_rfl)(hd0:Nat.blt d n.size=true:=by rfl)(hf1:tkc M ((aW).setIfInBounds (i) true) (((aW).setIfInBounds (i) true).setIfInBounds (i2) true) (i2)=true:=by kernel_rfl)(hd1:Nat.blt d2 n.size=true:=by rfl)(h2:kW P t:=by exact λ_=>by kernel_rfl):WH P n M K (λw'=>Hp b S w' rk) (fuel+1+1) (aW) l w:=tfz i (aY (·.1) h) h1 (aY (·.2.1) h) (aY (·.2.2.1) h) hw (tlz i2 (aY (·.2.2.2.1) h) h2 (aY (·.2.2.2.2.1) h) s' (aY (·.2.2.2.2.2) h) hw k hs hf1 hd1) hs hf0 hd0
def JG(i g j:Nat){p2:Addr}(h1:bU P s f off)(h:(M[i]?,fM l x,M[i+1]?,fM ((d,.pointer (some p))::l) x2,p2.add off)=(some ⟨some d,.nilCheck x,ty,pos,lN,none⟩,some (.pointer (some p)),some ⟨some d2,.fieldAddr s x2 f,ty2,pos2,ade,none⟩,some (.pointer (some p2)),⟨g,j,none⟩))(hw:Hp b S w rk)(k:WH P n M K (λw'=>Hp b S w' rk) fuel (((aW).setIfInBounds (i) true).setIfInBounds (i+1) true) ((d2,(.pointer (some ⟨g,j,none⟩)))::(d,.pointer (some p))::l) w)(hs:Region.noSelect M=true:=by kernel_rfl)(hf0:tkc M (aW) ((aW).setIfInBounds (i) true) (i)=true:=by kernel_rfl)(hd0:Nat.blt d n.size=true:=by rfl)(hf1:tkc M ((aW).setIfInBounds (i) true) (((aW).setIfInBounds (i) true).setIfInBounds (i+1) true) (i+1)=true:=by kernel_rfl)(hd1:Nat.blt d2 n.size=true:=by rfl):WH P n M K (λw'=>Hp b S w' rk) (fuel+1+1) (aW) l w:=tcz i (aY (·.1) h) (aY (·.2.1) h) hw (tfz (i+1) (aY (·.2.2.1) h) h1 (aY (·.2.2.2.1) h) (aY (·.2.2.2.2) h) hw k hs hf1 hd1) hs hf0 hd0
def qp(i g j:Nat){p2:Addr}{d3:Nat}{ty3:TypeId}{aNa:String}{aNb:Array Edge}{x3:Operand}(h1:bU P s f off)(h:(M[i]?,fM l x,M[i+1]?,fM ((d,v)::l) x2,M[i+2]?,fM ((d2,.pointer (some p))::(d,v)::l) x3,p2.add off)=(some ⟨some d,.move x,ty,pos,lN,none⟩,some v,some ⟨some d2,.nilCheck x2,ty2,pos2,ade,none⟩,some (.pointer (some p)),some ⟨some d3,.fieldAddr s x3 f,ty3,aNa,aNb,none⟩,some (.pointer (some p2)),⟨g,j,none⟩))(hw:Hp b S w rk)(k:WH P n M K (λw'=>Hp b S w' rk) fuel ((((aW).setIfInBounds (i) true).setIfInBounds (i+1) true).setIfInBounds (i+2) true) ((d3,(.pointer (some ⟨g,j,none⟩)))::(d2,.pointer (some p))::(d,v)::l) w)(hs:Region.noSelect M=true:=by kernel_rfl)(hf0:tkc M (aW) ((aW).setIfInBounds (i) true) (i)=true:=by kernel_rfl)(hd0:Nat.blt d n.size=true:=by rfl)(hf1:tkc M ((aW).setIfInBounds (i) true) (((aW).setIfInBounds (i) true).setIfInBounds (i+1) true) (i+1)=true:=by kernel_rfl)(hd1:Nat.blt d2 n.size=true:=by rfl)(hf2:tkc M (((aW).setIfInBounds (i) true).setIfInBounds (i+1) true) ((((aW).setIfInBounds (i) true).setIfInBounds (i+1) true).setIfInBounds (i+2) true) (i+2)=true:=by kernel_rfl)(hd2:Nat.blt d3 n.size=true:=by rfl):WH P n M K (λw'=>Hp b S w' rk) (fuel+1+1+1) (aW) l w:=lF i (aY (·.1) h) (aY (·.2.1) h) hw (tcz (i+1) (aY (·.2.2.1) h) (aY (·.2.2.2.1) h) hw (tfz (i+2) (aY (·.2.2.2.2.1) h) h1 (aY (·.2.2.2.2.2.1) h) (aY (·.2.2.2.2.2.2) h) hw k hs hf2 hd2) hs hf1 hd1) hs hf0 hd0
def zA(g j:Nat)(h1:bU P s f off)(h:(fM l x,p.add off)=(some (.pointer (some p)),⟨g,j,none⟩))(k:WL P n M Q K (os) ((d,(.pointer (some ⟨g,j,none⟩)))::l) w)(hd:Nat.blt d n.size=true:=by rfl):WL P n M Q K (⟨some d,.fieldAddr s x f,ty,pos,lN,none⟩::os) (l) w:=ev (fq h1 (aY (·.1) h) (aY (·.2) h)) k hd
def lY{g j:Nat}(H:Hp b S w rs)(s:nY rs (dJ g t' cs) rest)(h:(fM l x,cs[j]?)=(some (.pointer (some ⟨g,j,none⟩)),some v))(k:WL P n M Q K (os) ((d,v)::l) w)(hd:Nat.blt d n.size=true:=by rfl)(h1:kW P t:=by exact λ_=>by kernel_rfl):WL P n M Q K (⟨some d,.load t x,ty,pos,lN,none⟩::os) (l) w:=ev (dU h1 (aY (·.1) h) (H.x s) (aY (·.2) h)) k hd
def jP(g j:Nat)(h1:bU P s f off)(H:Hp b S w rs)(s':nY rs (dJ g t' cs) rest)(h:(fM l x,p.add off,fM ((d,(.pointer (some ⟨g,j,none⟩)))::l) x2,cs[j]?)=(some (.pointer (some p)),⟨g,j,none⟩,some (.pointer (some ⟨g,j,none⟩)),some v))(k:WL P n M Q K (os) ((d2,v)::(d,(.pointer (some ⟨g,j,none⟩)))::l) w)(hd:Nat.blt d n.size=true:=by rfl)(hd2:Nat.blt d2 n.size=true:=by rfl)(h2:kW P t:=by exact λ_=>by kernel_rfl):WL P n M Q K (⟨some d,.fieldAddr s x f,ty,pos,lN,none⟩::⟨some d2,.load t x2,ty2,pos2,ade,none⟩::os) (l) w:=ev (fq h1 (aY (·.1) h) (aY (·.2.1) h)) (ev (dU h2 (aY (·.2.2.1) h) (H.x s') (aY (·.2.2.2) h)) k hd2) hd
def gfy(g j:Nat){m:Nat}{bQ:Bool}(h1:bU P s f off)(h:(guardOf M l m,fM l x,p.add off)=(some (.bool bQ),some (.pointer (some p)),⟨g,j,none⟩))(k:WL P n M Q K (os) ((d,(.pointer (some ⟨g,j,none⟩)))::l) w)(hd:Nat.blt d n.size=true:=by rfl):WL P n M Q K (⟨some d,.fieldAddr s x f,ty,pos,lN,some (m,bQ)⟩::os) (l) w:=uf (aY (·.1) h) (fq h1 (aY (·.2.1) h) (aY (·.2.2) h)) hd k
def gby{g j m:Nat}{bQ:Bool}(H:Hp b S w rs)(s:nY rs (dJ g t' cs) rest)(h:(guardOf M l m,fM l x,cs[j]?)=(some (.bool bQ),some (.pointer (some ⟨g,j,none⟩)),some v))(k:WL P n M Q K (os) ((d,v)::l) w)(hd:Nat.blt d n.size=true:=by rfl)(h1:kW P t:=by exact λ_=>by kernel_rfl):WL P n M Q K (⟨some d,.load t x,ty,pos,lN,some (m,bQ)⟩::os) (l) w:=uf (aY (·.1) h) (dU h1 (aY (·.2.1) h) (H.x s) (aY (·.2.2) h)) hd k
def wW(g j:Nat){m m2:Nat}{bQ aAz:Bool}(h1:bU P s f off)(H:Hp b S w rs)(s':nY rs (dJ g t' cs) rest)(h:(guardOf M l m,fM l x,p.add off,guardOf M ((d,(.pointer (some ⟨g,j,none⟩)))::l) m2,fM ((d,(.pointer (some ⟨g,j,none⟩)))::l) x2,cs[j]?)=(some (.bool bQ),some (.pointer (some p)),⟨g,j,none⟩,some (.bool aAz),some (.pointer (some ⟨g,j,none⟩)),some v))(k:WL P n M Q K (os) ((d2,v)::(d,(.pointer (some ⟨g,j,none⟩)))::l) w)(hd:Nat.blt d n.size=true:=by rfl)(hd2:Nat.blt d2 n.size=true:=by rfl)(h2:kW P t:=by exact λ_=>by kernel_rfl):WL P n M Q K (⟨some d,.fieldAddr s x f,ty,pos,lN,some (m,bQ)⟩::⟨some d2,.load t x2,ty2,pos2,ade,some (m2,aAz)⟩::os) (l) w:=uf (aY (·.1) h) (fq h1 (aY (·.2.1) h) (aY (·.2.2.1) h)) hd (uf (aY (·.2.2.2.1) h) (dU h2 (aY (·.2.2.2.2.1) h) (H.x s') (aY (·.2.2.2.2.2) h)) hd2 k)
def gu{Iq:Operand}{args:V Operand}{tys:Array TypeId}{f:FuncId}{caps vs all:V Value}{R:Value->World->Prop}(h:(fM l Iq,Ef l args,vs++caps)=(some (.func (.func f) #[] caps.toArray),some vs,all))(hc:bM P f all.toArray w R)(k:∀ v w',R v w'->WL P n M Q K os ((d,v)::l) w')(hd:Nat.blt d n.size=true:=by rfl)(Ir:bC P f:=by exact λ_ _=>by kernel_rfl):WL P n M Q K (⟨some d,.call ⟨.value Iq,args.toArray,tys⟩,ty,pos,lN,none⟩::os) l w:=KY (aY (·.1) h) (aY (·.2.1) h) (aY (·.2.2) h) Ir hc hd k
def mX{Iq:Operand}{args:V Operand}{tys:Array TypeId}{f:FuncId}{caps vs all:V Value}{u:Value}{S':Nat->Prop}(H:Hp b S w rs)(h:(fM l Iq,Ef l args,vs++caps)=(some (.func (.func f) #[] caps.toArray),some vs,all))(hc:bM P f all.toArray w λv w'=>v=u/\Hp w S' w' [])(k:∀ w',Hp b S w' rs->WL P n M Q K os ((d,u)::l) w')(hd:Nat.blt d n.size=true:=by rfl)(Ir:bC P f:=by exact λ_ _=>by kernel_rfl):WL P n M Q K (⟨some d,.call ⟨.value Iq,args.toArray,tys⟩,ty,pos,lN,none⟩::os) l w:=C0 H (aY (·.1) h) (aY (·.2.1) h) (aY (·.2.2) h) Ir hc k hd
def sty{g:Nat}{ds:V Value}{y:Operand}(h:(fM l x,fM l y,v.cells)=(some (fK g),some v,ds.toArray))(H:Hp b S w rs)(s:nY rs (dJ g t' cs) rest)(h2:(cs.length,ds.all (λu=>u.oneCell'))=(ds.length,true))(k:∀ w',Hp b S w' (dJ g t' ds::rest)->WL P n M Q K os l w')(hs:Size P t ds.length:=by exact λ_=>by kernel_rfl):WL P n M Q K (⟨none,.store t x y,ty,pos,lN,none⟩::os) l w:=stw (aY (·.1) h) (aY (·.2.1) h) (aY (·.2.2) h) hs H s (aY (·.1) h2) (aY (·.2) h2) k
def xD{g i:Nat}{y:Operand}(h:(fM l x,fM l y,v.oneCell')=(some (.pointer (some ⟨g,i,none⟩)),some v,true))(H:Hp b S w rs)(s:nY rs (dJ g t' cs) rest)(hi:Nat.blt i cs.length=true)(k:∀ w',Hp b S w' (dJ g t' (cs.set i v)::rest)->WL P n M Q K os l w')(hs:Size P t 1:=by exact λ_=>by kernel_rfl):WL P n M Q K (⟨none,.store t x y,ty,pos,lN,none⟩::os) l w:=stc (by grind) (by grind) (by grind) hs H s hi k
def uo{fn:Func}{R:Value->World->Prop}{rs:V ResultVar}{vs:V Value}(h:(fn.results,WB l rs,rW vs)=(rs.toArray,some vs,v))(hR:R v w)(hm:n.marks=[]:=by rfl):l7 n (bodyPost P fn (RR R)) .ret l w:=QN (aY (·.1) h) (aY (·.2.1) h) (aY (·.2.2) h) hR hm
def iU{fn:Func}{R:Value->World->Prop}{rs:V ResultVar}{vs:V Value}(h:(fn.results,WB l rs,rW vs)=(rs.toArray,some vs,v))(hR:R v w)(hm:n.marks=[]:=by rfl):WP P n .ret l w (bodyPost P fn (RR R)):=jE (uo h hR hm)
def Aw{fn:Func}{R:Value->World->Prop}{rs:V ResultVar}{vs:V Value}(h:(fn.results,WB l rs,rW vs)=(rs.toArray,some vs,v))(hR:R v w)(hm:n.marks=[]:=by rfl):WP P n .ret l w (Exit.then K (bodyPost P fn (RR R))):=jE (gG (uo h hR hm))
def YC{id:Nat}{fn:Func}{R:Value->World->Prop}{rs:V ResultVar}{vs:V Value}(h:(fn.results,WB l rs,rW vs)=(rs.toArray,some vs,v))(hR:R v w)(hm:n.marks=[]:=by rfl):WP P n .ret l w (Exit.inBlock id (Exit.then K (bodyPost P fn (RR R)))):=jE (jM (gG (uo h hR hm)))
def jQ(h:WP P n y l w Q):WP P n .skip l w (Exit.then (G7 P n y Q) Q):=yC (fV h)
def Gw{id:Nat}(h:WP P n y l w Q):WP P n .skip l w (Exit.inBlock id (Exit.then (G7 P n y Q) Q)):=yC (iF (fV h))
def BU{id:Nat}{aX9 K2:Act->World->Prop}(h:WP P n y l w Q):WP P n (.exit id) l w (Exit.then aX9 (Exit.then K2 (Exit.inBlock id (Exit.then (G7 P n y Q) Q)))):=tu (mG (mG (tZ (fV h))))
def qN{f:FuncId}{fn:Func}{k:Nat}{c:Code}{vs:V Value}{R:Value->World->Prop}(hf:P.funcs[f]? = some fn)(hn:fn.ntmps=k)(h:(fn.body,Nat.ble vs.length k)=(some c,true))(h0:WP P (.bare k) c (enum 0 vs) w (bodyPost P fn (RR R))):bM P f vs.toArray w R:=Yg hf (by grind) hn (by grind) h0
def lg(S0:Nat->Prop){f:FuncId}{fn:Func}{k:Nat}{c:Code}{vs:V Value}{R:Value->World->Prop}(hf:P.funcs[f]? = some fn)(hn:fn.ntmps=k)(h:(fn.body,Nat.ble vs.length k)=(some c,true))(h0:Hp w S0 w []->WP P (.bare k) c (enum 0 vs) w (bodyPost P fn (RR R))):bM P f vs.toArray w R:=Yg hf (by grind) hn (by grind) (h0 (Hp.init w S0))
def aGx{f:FuncId}{fn:Func}{k:Nat}{c:Code}{vs:V Value}{R:Value->World->Prop}(hf:P.funcs[f]? = some fn)(hn:fn.ntmps=k)(h:(fn.body,Nat.ble vs.length k)=(some c,true))(h0:WP P (.bare k) c (enum 0 vs) w (bodyPostM Fence.wide 0 P fn (RR R))):bM P f vs.toArray w R:=WP.aq0 hf (by grind) hn (by grind) h0
def aGy(S0:Nat->Prop){f:FuncId}{fn:Func}{k:Nat}{c:Code}{vs:V Value}{R:Value->World->Prop}(hf:P.funcs[f]? = some fn)(hn:fn.ntmps=k)(h:(fn.body,Nat.ble vs.length k)=(some c,true))(h0:Hp w S0 w []->WP P (.bare k) c (enum 0 vs) w (bodyPostM Fence.wide 0 P fn (RR R))):bM P f vs.toArray w R:=WP.aq0 hf (by grind) hn (by grind) (h0 (Hp.init w S0))
def cjz{C:Code}(_:Hp b S w rs)(_:∀ w',Hp b S w' rs->Hp b S w' rk)(aX9:V (Nat × Value)->V kF->V (Nat × Value)->World->Prop)(h:∀ l' w',aX9 l rk l' w'->WP P n y l' w' Q)(k:(∀ l' w',aX9 l rk l' w'->WP P n y l' w' Q)->WP P n C l w (Exit.then (G7 P n y Q) Q)):WP P n C l w (Exit.then (G7 P n y Q) Q):=k h
def WP.kz{l':V (Nat × Value)}(h:WP P n y l' w Q)(hs:Sb l l'):WP P n y l w Q:=WP.keep' l' hs h
def alP(A:List (Nat × Nat × Value))(aW:Array Bool):Array Bool:=A.foldl (λf p=>f.setIfInBounds p.1 true) aW
def wiz(H:Hp b S w rs)(A:V (Nat × Nat × Value))(rest:Nat)(hok:rC M (A.map (·.1)) rest (alP A aW) fuel aW=true)(hq:∀ p∈A,EW P n M (λw'=>Hp b S w' rs) l A p)(k:∀ w',Hp b S w' rs->WI P n M Q rest (alP A aW) (A.map (·.2)++l) w')(hd:nodupB (A.map (·.2.1))=true:=by kernel_rfl)(hf:A.all (λp=>(alP A aW).getD p.1 false)=true:=by kernel_rfl)(hl:A.all (λp=>!aW.getD p.1 false)=true:=by kernel_rfl)(hp:n.plain=false:=by rfl):WI P n M Q fuel aW l w:=WI.block A rest (alP A aW) hok hd hf hl hq H k hp
section
variable {T:World->Prop}{A B:List (Nat × Nat × Value)}{i:Nat}{o:Oper}{op:Op}{j:Nat}{bQ:Bool}{u:Value}
def qnz:∀ p∈([]:V (Nat × Nat × Value)),EW P n M T l A p:=nofun
def qcz(h:(M[i]?,o.dst,Nat.blt d n.size,look l d)=(some o,some d,true,none))(hQ:Qi P n M T (JA o A++l) o v)(t:∀ p∈B,EW P n M T l A p):∀ p∈(i,d,v)::B,EW P n M T l A p:=rP.2 ⟨⟨o,(aY (·.1) h),(aY (·.2.1) h),(aY (·.2.2.1) h),(aY (·.2.2.2) h),hQ⟩,t⟩
def AA(h:(M[i]?,Nat.blt d n.size,look l d,guardOf M (JA ⟨some d,op,ty,pos,lN,some (j,bQ)⟩ A++l) j,unlike bQ u)=(some ⟨some d,op,ty,pos,lN,some (j,bQ)⟩,true,none,some u,true))(t:∀ p∈B,EW P n M T l A p):∀ p∈(i,d,undef)::B,EW P n M T l A p:=rP.2 ⟨⟨_,(aY (·.1) h),rfl,(aY (·.2.1) h),(aY (·.2.2.1) h),Qi.pass (aY (·.2.2.2.1) h) (aY (·.2.2.2.2) h)⟩,t⟩
def Ik(h:(M[i]?,Nat.blt d n.size,look l d)=(some ⟨some d,op,ty,pos,lN,none⟩,true,none))(hE:∀ w,T w->Ev P n (JA ⟨some d,op,ty,pos,lN,none⟩ A++l) w op v)(t:∀ p∈B,EW P n M T l A p):∀ p∈(i,d,v)::B,EW P n M T l A p:=rP.2 ⟨⟨_,(aY (·.1) h),rfl,(aY (·.2.1) h),(aY (·.2.2) h),x8 hE⟩,t⟩
def O9(h:(M[i]?,Nat.blt d n.size,look l d,guardOf M (JA ⟨some d,op,ty,pos,lN,some (j,bQ)⟩ A++l) j)=(some ⟨some d,op,ty,pos,lN,some (j,bQ)⟩,true,none,some (.bool bQ)))(hE:∀ w,T w->Ev P n (JA ⟨some d,op,ty,pos,lN,some (j,bQ)⟩ A++l) w op v)(t:∀ p∈B,EW P n M T l A p):∀ p∈(i,d,v)::B,EW P n M T l A p:=rP.2 ⟨⟨_,(aY (·.1) h),rfl,(aY (·.2.1) h),(aY (·.2.2.1) h),Qi.evg (aY (·.2.2.2) h) hE⟩,t⟩
end
end
end
section
open Go.ChangeShapes Go.WideShapes Go.ChangeAt Go.RowKit Go.Deep Go.Proofs.Tryz
def Reads{α:Type}(P:Program)(e:TypeId)(τ:Ty α)(good:α->Prop):Prop:=
  ∀ {H:Type} (enc:TypeId × Value->H) (w:World) (base:Nat) (spare:Nat->Bool) (held:Bool) (fuel:Nat) (cs:List Value) (x:DataW H × List MemPlace),
    DataW.trod enc P w base spare held fuel e cs=some x->∃ y,τ.R Any w y cs/\good y
def in_i64{x:Int}(h:(Lit.int .i64 x).wf=true):vJ x:=by
 simp only [Lit.wf,bK,bN] at h
 have e1:IntKind.i64.min=-9223372036854775808:=au;have e2:IntKind.i64.max=9223372036854775807:=au;rw [e1,e2] at h;exact h
section
variable {H:Type}{enc:TypeId × Value->H}{P:Program}{w:World}{base:Nat}{spare:Nat->Bool}{held:Bool}
def MR{α:Type}{q:Nat->α->Prop}:∀(n:Nat),(∀ i,i<n->∃ x,q i x)->∃ xs:V α,xs.length=n/\∀(i:Nat)(x:α),xs[i]? = some x->q i x
 | 0,_=>⟨[],rfl,λi x hx=>by simp at hx⟩
 | n+1,h=>by
  obtain⟨xs,h1,h2⟩:=MR n (λi hi=>h i aj);obtain⟨x,hx⟩:=h n aj;refine⟨xs++[x],by simp [h1],λi y hy=>?_⟩
  by_cases hi:i<xs.length
  ·rw [Yk hi] at hy
   exact h2 i y hy
  ·rw [aby aj] at hy
   have h3:i - xs.length=0:=by
    rcases Nat.eq_zero_or_pos (i - xs.length) with h | h
    ·exact h
    ·rw [Yn (by simp; omega)] at hy; cases hy
   rw [h3] at hy
   simp at hy
   subst hy;have:i=n:=aj;subst this;exact hx
def Reads.slice{α:Type}{e t:TypeId}{τ:Ty α}{good:α->Prop}(hr:Reads P e τ good)(hk:P.cellsOf e=τ.k)(ht:P.underlying t=some (.slice e)){fuel:Nat}{cs:V Value}{x:DataW H × V MemPlace}(h:DataW.trod enc P w base spare held fuel t cs=some x):∃(A:ah)(xs:V α)(c:Nat),cs=[.slice A xs.length c]/\Sl τ Any w A c xs/\∀ y∈xs,good y:=by
 rcases open_slice ht h with ⟨h1,_⟩ | ⟨a,len,cap,m,n,aYb,Pl,h1,_,h3,h4,h5,_,h7⟩
 ·exact⟨none,[],0,h1,O8 τ _ w,λy hy=>by simp at hy⟩
 ·have hm:len<=m:=by grind
  obtain⟨xs,hl,hx⟩:=MR (q:=λi y=>(∃ cs',τ.R Any w y cs'/\∀ j u,cs'[j]? = some u->w.cell? (a.add (i*τ.k+j))=some u)/\good y) len (λi hi=>by
   obtain⟨cs',hc,ht'⟩:=h7 i aj;obtain⟨y,hy,hg⟩:=hr _ _ _ _ _ _ _ _ ht';obtain⟨_,hcl,hat⟩:=World.cells?_some hc
   grind [fD])
  subst hl;refine⟨some a,xs,cap,h1,⟨h3,h4,av,λi y hy=>⟨trivial,(hx i y hy).1⟩⟩,λy hy=>?_⟩
  grind [List.getElem?_of_mem]
def arg_slice{α:Type}{e t:TypeId}{τ:Ty α}{good:α->Prop}(hr:Reads P e τ good)(hk:P.cellsOf e=τ.k)(ht:P.underlying t=some (.slice e)){r:Reach}{b0:Nat}{v:Value}{d:DataW H}{p:V MemPlace}(hv:Value.okWide P w r b0 t v)(h:DataW.Trod enc P w base spare held t v d p):∃(A:ah)(xs:V α)(c:Nat),v=.slice A xs.length c/\Sl τ Any w A c xs/\∀ y∈xs,good y:=by
 obtain⟨a,n,c,rfl⟩:=okWide_slice ht hv;obtain⟨fuel,hf⟩:=h;obtain⟨A,xs,c',h1,h2⟩:=hr.slice hk ht hf
 simp [Value.cells] at h1
 grind
def arg_struct{α:Type}{t:TypeId}{fs:Array Field}{τ:Ty α}{good:α->Prop}(hr:Reads P t τ good)(hs:P.underlying t=some (.struct fs)){r:Reach}{b0:Nat}{v:Value}{d:DataW H}{p:V MemPlace}(hv:Value.okWide P w r b0 t v)(h:DataW.Trod enc P w base spare held t v d p):∃(x:α)(cs:V Value),v=.agg cs.toArray/\τ.R Any w x cs/\good x:=by
 obtain⟨cs,rfl,_⟩:=okWide_struct hs hv;obtain⟨fuel,hf⟩:=h;obtain⟨x,h1,h2⟩:=hr _ _ _ _ _ _ _ _ hf;exact⟨x,cs.toList,av,h1,h2⟩
def get_ok{α:Type}{xs:V α}{n i:Nat}(h:xs.length=n)(hi:i<n):∃ y,xs[i]? = some y:=⟨xs[i]'aj,Ip _⟩
end
def len_succ{cs:V Value}{n:Nat}(h:cs.length=n+1):∃ c cs',cs=c::cs'/\cs'.length=n:=by
 cases cs <;> grind
def len_zero{cs:V Value}(h:cs.length=0):cs=[]:=xY h
end
section
open Go.Shelf Go.Proofs.Tryz
def Tryz.lays189_ren:Go.Shelf.Ren:=⟨λ| 189=>156 | 125=>239 | 257=>238 | 128=>316 | 129=>317 | 294=>307 | 295=>308 | 296=>309 | 297=>310 | 298=>311 | 299=>312 | 216=>313 | 300=>314 | 301=>315 | 328=>359 | 329=>360 | 330=>361 | 331=>362 | 332=>363 | 215=>241 | 343=>381 | n=>n,λ| 28=>46 | 3=>3 | 46=>207 | 0=>0 | 51=>45 | 53=>396 | 4=>4 | 183=>390 | 182=>389 | 131=>144 | 5=>5 | 9=>9 | 218=>434 | 222=>438 | 228=>455 | 229=>194 | n=>n,λ| n=>n⟩
def Tryz.lays189:Go.Proofs.Lays.n189 prog Tryz.lays189_ren:={
 mixed:=by rfl
 f125:=by rfl
 f128:=by rfl
 f129:=by rfl
 f189:=by rfl
 f215:=by rfl
 f216:=by rfl
 f257:=by rfl
 f294:=by rfl
 f295:=by rfl
 f296:=by rfl
 f297:=by rfl
 f298:=by rfl
 f299:=by rfl
 f300:=by rfl
 f301:=by rfl
 f328:=by rfl
 f329:=by rfl
 f330:=by rfl
 f331:=by rfl
 f332:=by rfl
 f343:=by rfl
 t0:=underlying0
 a0:=Tryz.isAgg0
 z0:=Tryz.sizeOf0
 v0:=Tryz.zeroValue0
 t3:=ig
 a3:=Tryz.isAgg3
 z3:=Tryz.sizeOf3
 v3:=Tryz.zeroValue3
 t4:=Uo
 a4:=Tryz.isAgg4
 z4:=Tryz.sizeOf4
 v4:=Tryz.zeroValue4
 t5:=underlying5
 a5:=Tryz.isAgg5
 z5:=Tryz.sizeOf5
 v5:=Tryz.zeroValue5
 t9:=underlying9
 a9:=Tryz.isAgg9
 z9:=Tryz.sizeOf9
 v9:=Tryz.zeroValue9
 t28:=gq
 a28:=Tryz.isAgg46
 z28:=Tryz.sizeOf46
 v28:=Tryz.zeroValue46
 t46:=underlying207
 a46:=Tryz.isAgg207
 z46:=Tryz.sizeOf207
 v46:=Tryz.zeroValue207
 t51:=underlying45
 a51:=Tryz.isAgg45
 z51:=Tryz.sizeOf45
 v51:=Tryz.zeroValue45
 t53:=underlying396
 a53:=Tryz.isAgg396
 z53:=Tryz.sizeOf396
 v53:=Tryz.zeroValue396
 t131:=underlying144
 a131:=Tryz.isAgg144
 z131:=Tryz.sizeOf144
 v131:=Tryz.zeroValue144
 t182:=underlying389
 a182:=Tryz.isAgg389
 z182:=Tryz.sizeOf389
 v182:=Tryz.zeroValue389
 t183:=underlying390
 a183:=Tryz.isAgg390
 z183:=Tryz.sizeOf390
 v183:=Tryz.zeroValue390
 t218:=underlying434
 a218:=Tryz.isAgg434
 z218:=Tryz.sizeOf434
 v218:=Tryz.zeroValue434
 t222:=underlying438
 a222:=Tryz.isAgg438
 z222:=Tryz.sizeOf438
 v222:=Tryz.zeroValue438
 t228:=underlying455
 a228:=Tryz.isAgg455
 z228:=Tryz.sizeOf455
 v228:=Tryz.zeroValue455
 t229:=underlying194
 a229:=Tryz.isAgg194
 z229:=Tryz.sizeOf194
 v229:=Tryz.zeroValue194 }
def Tryz.laysF6_ren:Go.Shelf.Ren:=⟨λ| 6=>325 | 15=>239 | 14=>366 | 28=>316 | 29=>317 | 20=>382 | 21=>383 | 22=>384 | 23=>385 | 24=>386 | 25=>387 | 26=>388 | 27=>389 | 46=>397 | 47=>360 | 48=>361 | 49=>398 | 50=>399 | 57=>404 | n=>n,λ| 22=>33 | 24=>72 | 25=>404 | 3=>3 | 39=>207 | 0=>0 | 53=>45 | 55=>396 | 4=>4 | 46=>390 | 45=>389 | 50=>144 | 5=>5 | 9=>9 | 66=>434 | 70=>438 | 76=>455 | 77=>194 | n=>n,λ| n=>n⟩
def Tryz.laysF6:Go.Proofs.SlLaysF0.n6 prog Tryz.laysF6_ren:={
 mixed:=by rfl
 f6:=⟨Tryz.f325.name,au,by rfl⟩
 f14:=⟨Tryz.f366.name,au,by rfl⟩
 f15:=by rfl
 f20:=⟨Tryz.f382.name,au,by rfl⟩
 f21:=⟨Tryz.f383.name,au,by rfl⟩
 f22:=⟨Tryz.f384.name,au,by rfl⟩
 f23:=⟨Tryz.f385.name,au,by rfl⟩
 f24:=⟨Tryz.f386.name,au,by rfl⟩
 f25:=⟨Tryz.f387.name,au,by rfl⟩
 f26:=⟨Tryz.f388.name,au,by rfl⟩
 f27:=⟨Tryz.f389.name,au,by rfl⟩
 f28:=by rfl
 f29:=by rfl
 f46:=⟨Tryz.f397.name,au,by rfl⟩
 f47:=by rfl
 f48:=by rfl
 f49:=⟨Tryz.f398.name,au,by rfl⟩
 f50:=⟨Tryz.f399.name,au,by rfl⟩
 f57:=⟨Tryz.f404.name,au,by rfl⟩
 t0:=underlying0
 a0:=Tryz.isAgg0
 z0:=Tryz.sizeOf0
 v0:=Tryz.zeroValue0
 t3:=ig
 a3:=Tryz.isAgg3
 z3:=Tryz.sizeOf3
 v3:=Tryz.zeroValue3
 t4:=Uo
 a4:=Tryz.isAgg4
 z4:=Tryz.sizeOf4
 v4:=Tryz.zeroValue4
 t5:=underlying5
 a5:=Tryz.isAgg5
 z5:=Tryz.sizeOf5
 v5:=Tryz.zeroValue5
 t9:=underlying9
 a9:=Tryz.isAgg9
 z9:=Tryz.sizeOf9
 v9:=Tryz.zeroValue9
 t22:=qm
 a22:=Tryz.isAgg33
 z22:=Tryz.sizeOf33
 v22:=Tryz.zeroValue33
 t25:=underlying404
 a25:=Tryz.isAgg404
 z25:=Tryz.sizeOf404
 v25:=Tryz.zeroValue404
 t39:=underlying207
 a39:=Tryz.isAgg207
 z39:=Tryz.sizeOf207
 v39:=Tryz.zeroValue207
 t45:=underlying389
 a45:=Tryz.isAgg389
 z45:=Tryz.sizeOf389
 v45:=Tryz.zeroValue389
 t46:=underlying390
 a46:=Tryz.isAgg390
 z46:=Tryz.sizeOf390
 v46:=Tryz.zeroValue390
 t50:=underlying144
 a50:=Tryz.isAgg144
 z50:=Tryz.sizeOf144
 v50:=Tryz.zeroValue144
 t53:=underlying45
 a53:=Tryz.isAgg45
 z53:=Tryz.sizeOf45
 v53:=Tryz.zeroValue45
 t55:=underlying396
 a55:=Tryz.isAgg396
 z55:=Tryz.sizeOf396
 v55:=Tryz.zeroValue396
 t66:=underlying434
 a66:=Tryz.isAgg434
 z66:=Tryz.sizeOf434
 v66:=Tryz.zeroValue434
 t70:=underlying438
 a70:=Tryz.isAgg438
 z70:=Tryz.sizeOf438
 v70:=Tryz.zeroValue438
 t76:=underlying455
 a76:=Tryz.isAgg455
 z76:=Tryz.sizeOf455
 v76:=Tryz.zeroValue455
 t77:=underlying194
 a77:=Tryz.isAgg194
 z77:=Tryz.sizeOf194
 v77:=Tryz.zeroValue194 }
end
section
def axB(x:Int):∀ u∈[Value.int .i64 x],u.oneCell'=true:=by intro u hu; simp only [gW,lH,qM] at hu; rw [hu]; rfl
def dN:Ty Int:=Ty.flat 1 (λx=>[.int .i64 x]) au av axB
instance:Flat dN:=⟨λh=>h⟩
def nL{α:Type}{p:α->Bool}{l:V α}{k:Nat}{x:α}(hx:l[k]? = some x):(l.take (k+1)).filter p=(l.take k).filter p++(if p x=true then[x] else[]):=by
 simp_all [eO,CB,MO,List.filter_nil]
def arp:bC prog 241:=λ_ _=>by rfl
def wX:Size prog 3 1:=λ_=>by rfl
def jF:kW prog 3:=λ_=>by rfl
def YD{S0:Nat->Prop}(w:World)(x:Int):bM prog 241 #[O x] w λv w'=>v=.bool false/\Hp w S0 w' []:=by
 refine Yg func241 Y ntmps241 Y ?_;have H0:=Hp.init w S0;refine rg<|oJ Y<|dn<|rg<|mv Y<|mv Y<|ev (Gq Y Y)<|oJ Y<|dn<|jE (QN Y Y Y ?_)
 have gy:((!decide (x=x)):Bool)=false:=by simp
 exact⟨by rw [gy] <;> rfl,H0⟩
def nV{S0:Nat->Prop}(w:World)(x:Int)(y:Int):bM prog 162 #[O x,.int .i64 y] w λv w'=>v=O (bL x y)/\Hp w S0 w' []:=by
 refine Yg func162 Y ntmps162 Y ?_;have H0:=Hp.init w S0;refine pC 5 Y<|C0 H0 Y Y Y arp (YD (S0:=Any) _ x) λw1 K1=>pB 4 Y<|C0 K1 Y Y Y arp (YD (S0:=Any) _ y) λw2 K2=>oJ Y<|dn<|aZ<|rg<|mv Y<|dn<|bS Y (λ_h=>absurd _h au) (λ_h=>?_)
 refine yC (fV ?_);refine aZ<|rg<|mv Y<|dn<|bS Y (λ_h=>absurd _h au) (λ_h=>?_)
 refine yC (fV ?_);refine aZ<|rg<|mv Y<|mv Y<|ev (iH Y Y)<|dn<|bS Y (λhc16=>?_) (λhc16=>?_)
 ·replace hc16:=iY hc16;refine rg<|oJ Y<|dn<|jE (gG (QN Y Y Y ?_))
  exact⟨by unfold bL; rw [aS hc16] <;> rfl,K2⟩
 replace hc16:=jX hc16;refine yC (fV ?_);refine aZ<|rg<|mv Y<|mv Y<|ev (Ev.gtr Y Y)<|dn<|bS Y (λhc19=>?_) (λhc19=>?_)
 ·replace hc19:=iY hc19;refine rg<|oJ Y<|dn<|jE (gG (QN Y Y Y ?_))
  exact⟨by unfold bL; rw [aQ hc16,aS hc19] <;> rfl,K2⟩
 replace hc19:=jX hc19;refine yC (fV ?_);refine rg<|oJ Y<|dn<|jE (QN Y Y Y ?_)
 exact⟨by unfold bL; rw [aQ hc16,aQ hc19] <;> rfl,K2⟩
end
section
variable {S S0:Nat->Prop}{w:World}{wP A jL:ah}{vk jK:Nat}{s:List Int}{most:Int}
structure aH where
  ID:Int
  E:Int
  Sum:Int
  aD:List Int
  deriving DecidableEq
def aH.enc(x:aH)(B0:ah)(d0:Nat):List Value:=[.int .i64 x.ID,.int .i64 x.E,.int .u32 x.Sum,.slice B0 x.aD.length d0]
def aH.kP(x:aH)(B0:ah)(d0:Nat):∀ u∈x.enc B0 d0,u.oneCell'=true:=by
 intro u hu
 simp only [aH.enc,gW,lH,qM] at hu
 rcases hu with rfl | rfl | rfl | rfl <;> rfl
def bD:Ty aH where
  k:=4
  pos:=au
  R:=λS w x cs=>∃(B0:ah)(d0:Nat),cs=x.enc B0 d0/\Sl dN S w B0 d0 x.aD
  len:=by rintro S w x cs ⟨B0,d0,rfl,h0⟩; rfl
  one:=by rintro S w x cs ⟨B0,d0,rfl,h0⟩; exact aH.kP x B0 d0
  keep:=by rintro S w w' x cs m ⟨B0,d0,rfl,h0⟩; exact⟨B0,d0,rfl,h0.keep m⟩
  sub:=by rintro S S' w x cs n ⟨B0,d0,rfl,h0⟩; exact⟨B0,d0,rfl,h0.sub n⟩
  bd:=by rintro S w x cs ⟨B0,d0,rfl,h0⟩; exact⟨B0,d0,rfl,h0.bd⟩
def aH.op{a:Addr}{i:Nat}{x:aH}(h:∃ cs,bD.R S w x cs/\∀ j u,cs[j]? = some u->w.cell? (a.add (i*4+j))=some u):∃ B0 d0,(∀ j u,(x.enc B0 d0)[j]? = some u->w.cell? (a.add (i*4+j))=some u)/\Sl dN S w B0 d0 x.aD:=by
 obtain⟨cs,⟨B0,d0,rfl,h0⟩,h9⟩:=h;exact⟨B0,d0,h9,h0⟩
def CG:=@aH.op
structure bE where
  c:aH
  B:Option Addr
  d:Nat
def bE.enc(k:bE):List Value:=[.int .i64 k.c.ID,.int .i64 k.c.E,.int .u32 k.c.Sum,.slice k.B k.c.aD.length k.d]
def bE.kP(k:bE):∀ u∈k.enc,u.oneCell'=true:=by
 intro u hu
 simp only [bE.enc,gW,lH,qM] at hu
 rcases hu with rfl | rfl | rfl | rfl <;> rfl
def tK:Ty bE:=Ty.flat 4 bE.enc au (λ_=>rfl) bE.kP
instance:Flat tK:=⟨λh=>h⟩
def rQ(k:bE):Option Addr × Nat × List Int:=(k.B,k.d,k.c.aD)
section
variable {b w:World}{S:Nat->Prop}{rs rest yF:List kF}{A:ah}{c e:Nat}
def Hp.toK{l:V aH}(H:Hp b S w rs)(s:nY rs (aR bD e A c l) rest):∃ ks:V bE,ks.map bE.c=l/\Hp b S w (aR tK e A c ks::WG dN (ks.map rQ)::rest):=by
 have hex:∀ i,i<l.length->∃ k:bE,∃ x,l[i]? = some x/\k.c=x/\Sl dN (Rd b S rs w) w k.B k.d k.c.aD/\∀ cs,(bD.R (Rd b S rs w) w x cs/\∀ j u,cs[j]? = some u->w.cell? ((Gh A).add (i*4+j))=some u)->cs=k.enc:=by
  intro i hi;obtain⟨x,hx⟩:=bH hi;obtain⟨cs,⟨B,d,hcs,hs⟩,hc⟩:=H.oi s hx;refine⟨⟨x,B,d⟩,x,hx,Y,hs,?_⟩;rintro cs2 ⟨⟨B2,d2,hcs2,_⟩,hc2⟩;have h3:=hc 3 (.slice B x.aD.length d) (by rw [hcs]; rfl);have h4:=hc2 3 (.slice B2 x.aD.length d2) (by rw [hcs2]; rfl);have h5:w.cell? ((Gh A).add (i*4+3))=some (.slice B x.aD.length d):=h3;rw [h4] at h5
  injection h5 with h5
  injection h5 with hB _ hd
  subst hB hd;rw [hcs2]; rfl
 obtain⟨ks,hl,hk⟩:=MR l.length hex;refine⟨ks,?_,?_⟩
 ·apply Ho
  intro i;rw [rM]
  cases hi:ks[i]? with
  | none=>have:=List.getElem?_eq_none_iff.1 hi; rw [Yn aj]; rfl
  | some k=>obtain⟨x,h1,h2,_⟩:=hk i k hi; rw [h1,<- h2]; rfl
 ·have hin:Hp b S w (WG dN (ks.map rQ)::rs):=H.new (oW w) (λ_ h=>h.elim) (by
   intro r hr;obtain⟨k,hkm,rfl⟩:=eX.1 hr;obtain⟨i,hi⟩:=uq hkm;obtain⟨x,_,_,h3,_⟩:=hk i k hi
   exact h3)
  have h1:Hp b S w (aR bD e A c l::WG dN (ks.map rQ)::rest):=(hin.sel (.t s));obtain⟨css,c1,c2,c3⟩:=H.ow s;refine(h1.put (r':=aR tK e A c ks) ⟨Y,Y,Y,j4 _,λ_ _ _=>Y,j4 _⟩ (λg hg=>.inl hg) ?_);refine Own.low (S:=Rd b S rs w) ⟨css,by rw [c1,hl],λi y hy=>?_,by rw [<- hl] at c3; exact c3⟩ (fI _) (λg hg=>?_)
  ·obtain⟨x,hx,_,_,h4⟩:=hk i y hy
   obtain⟨cs,h5,h6⟩:=c2 i x hx;refine⟨cs,h5,?_⟩;refine h4 cs ⟨h6,λj u hu=>?_⟩;have hkk:=WX c1 c2
   rcases c3.2 with ⟨hv,hn⟩ | ⟨g,cap,cur,hv,hg,hh,hnc,hcm,hcs,ht⟩
   ·have:=aP hx; omega
   ·injection hv with hA hn' hc'
    subst hA hc';exact c3.cells (g:=g) Y _ _ (QM css hkk i cs h5 j u hu)
  ·rcases hg with h | ⟨g1,g2,g3⟩
   ·exact .inl h
   ·refine .inr ⟨g1,g2,λr hr=>?_⟩
    rcases gW.1 hr with rfl | hr
    ·exact g3 _ (s.perm.mem_iff.2 av)
    ·rcases gW.1 hr with rfl | hr
     ·exact λh=>h
     ·exact g3 r (s.perm.mem_iff.2 (by simp [hr]))
def Hp.ofK{ks:V bE}(H:Hp b S w rs)(s:nY rs (aR tK e A c ks) rest)(s':nY rest (WG dN (ks.map rQ)) yF):Hp b S w (aR bD e A c (ks.map bE.c)::yF):=by
 have hmem:WG dN (ks.map rQ)∈rs:=s.perm.mem_iff.2 (by simp [s'.perm.mem_iff]);have hin:∀ r∈ks.map rQ,Sl dN (Rd b S rs w) w r.1 r.2.1 r.2.2:=H.ok (WG dN (ks.map rQ)) hmem;refine(H.aB5 (ρ:=bD) s Y av ?_).rm (.t s');intro i x y cs hx hy hR;rw [rM,hx] at hy
 cases hy
 have hR':cs=x.enc:=hR;refine⟨x.B,x.d,hR',hin (rQ x) (eX.2 ⟨x,dz hx,Y⟩)⟩
def Hp.rdK{ks:V bE}(H:Hp b S w rs)(s:nY rs (aR tK e A c ks) rest)(s':nY rest (fH dN 3 (ks.map rQ)) yF):Sl bD Any w A c (ks.map bE.c):=by
 have h1:=((H.sel s).perm (s'.perm.cons _):Hp b S w (aR tK e A c ks::fH dN 3 (ks.map rQ)::yF));exact((h1.Yu s1).ofK s1 U).o U
end
def Em:(prog.underlying 3).isSome=true/\prog.underlying 207=some (.int (prog.intKind 207))/\prog.intKind 207=.u64:=⟨ak,ak,ak⟩
def Au:(prog.underlying 207).isSome=true/\prog.underlying 3=some (.int (prog.intKind 3))/\prog.intKind 3=.i64:=⟨ak,ak,ak⟩
def aCi:bC prog 375:=ay
def arq  : ∀ w,(Instr.buildSlice 46 0 (List.toArray [])).run prog w=.ok (.slice (some ⟨w.heap.size,0,none⟩) 0 0) (w.alloc (.cells (List.toArray []) 3)):=ay
def LB:kH prog 3 1 8:=by
 obtain⟨i,h1,h2,h3,h4⟩:=qo (show(prog.info? 3).map (λi=>(i.zero,i.size,i.bytes))=some (some (O 0),1,8) by kernel_rfl);exact⟨i,_,h1,h2,h3,h4,Y⟩
def aCj:wT prog 3 1 8:=by
 obtain⟨i,h1,h2,h3,h4⟩:=qo (show(prog.info? 3).map (λi=>(i.zero,i.size,i.bytes))=some (some (O 0),1,8) by kernel_rfl);exact⟨i,_,h1,h2,h3,h4,Y,λv hv=>mD.1 (show(Value.cells (O 0)).toList.all (λv=>v.oneCell')=true from Y) v hv⟩
def tH:Size prog 48 4:=ay
def ars:kH prog 48 4 48:=by
 obtain⟨i,h1,h2,h3,h4⟩:=qo (show(prog.info? 48).map (λi=>(i.zero,i.size,i.bytes))=some (some (.agg #[O 0,O 0,gP 0,.slice none 0 0]),4,48) by kernel_rfl);exact⟨i,_,h1,h2,h3,h4,Y⟩
def aAA:wT prog 48 4 48:=by
 obtain⟨i,h1,h2,h3,h4⟩:=qo (show(prog.info? 48).map (λi=>(i.zero,i.size,i.bytes))=some (some (.agg #[O 0,O 0,gP 0,.slice none 0 0]),4,48) by kernel_rfl);exact⟨i,_,h1,h2,h3,h4,Y,λv hv=>mD.1 (show(Value.cells (.agg #[O 0,O 0,gP 0,.slice none 0 0])).toList.all (λv=>v.oneCell')=true from Y) v hv⟩
def p8:WC prog 48 4:=⟨λ_=>by kernel_rfl,tH⟩
def lX:∀ w,(zeroValue 48).run prog w=.ok (.agg #[O 0,O 0,gP 0,.slice none 0 0]) w:=ay
def tO:bU prog 48 1 1:=ay
def kr:bU prog 48 3 3:=ay
def EX:kW prog 46:=ay
def aru:bC prog 168:=ay
def pG:bU prog 48 0 0:=ay
def pI(a0:Int):∀ w,(Instr.buildSlice 46 1 (List.toArray [(0,O a0)])).run prog w=.ok (.slice (some ⟨w.heap.size,0,none⟩) 1 1) (w.alloc (.cells (List.toArray [O a0]) 3)):=ay
def arv  : ∀ w,(Instr.buildSlice 34 0 (List.toArray [])).run prog w=.ok (.slice (some ⟨w.heap.size,0,none⟩) 0 0) (w.alloc (.cells (List.toArray []) 48)):=ay
def aAB:bC prog 94:=ay
def VU:Size prog 46 1:=ay
def aCk:bC prog 161:=ay
def arw  : prog.built 48 []=some #[O 0,O 0,gP 0,.slice none 0 0]:=ak
def YE(a0:Int)(a1:Int)(a2:Int):prog.built 48 [(0,O a0),(1,O a1),(2,gP a2)]=some #[O a0,O a1,gP a2,.slice none 0 0]:=ak
def adf(a0:Int)(a1:Int)(a2:Int)(a3:ah)(a3n a3c:Nat):∀ w,(Instr.buildSlice 34 1 (List.toArray [(0,.agg #[O a0,O a1,gP a2,.slice a3 a3n a3c])])).run prog w=.ok (.slice (some ⟨w.heap.size,0,none⟩) 1 1) (w.alloc (.cells (List.toArray [O a0,O a1,gP a2,.slice a3 a3n a3c]) 48)):=ay
def agj:bC prog 81:=ay
def axC(w:World)(x:Int)(y:Int):bM prog 313 #[O x,.int .i64 y] w λv w'=>v=.bool (decide (x<y))/\Hp w S0 w' []:=by
 refine lg S0 func313 ntmps313 Y λH0=>pC 5 Y<|mX H0 Y (YD (S0:=Any) _ x) λw1 K1=>pA 12 Y<|iU Y ?_
 exact⟨Y,K1⟩
def agk(w:World)(sP:Sl dN S0 w wP vk s)(val:Int):bM prog 158 #[.slice wP s.length vk,O val] w λv w'=>v=O (idxOf (fun(x:Int)=>decide (x=val)) s)/\Hp w S0 w' []:=by
 refine lg S0 func158 ntmps158 Y λH0=>?_;have aoa:=sP.bI;refine kX Y<|aZ<|gD Y<|ev (jf gq Y)<|mv Y<|dn<|dF<|Lp H0 (λl0 rk mJ lJ wJ=>∃ k,lJ=(8,O ((k:Nat):Int))::l0/\mJ=s.length - k/\k<=s.length/\(∀ y∈s.take k,(fun(x:Int)=>decide (x=val)) y=false)/\Hp w S0 wJ rk) ⟨0,Y,Y,fI _,av,H0⟩ rfl ?_
 rintro _ _ w1 ⟨k,rfl,rfl,hk,hno,K1⟩;refine rg<|ev (iH Y Y)<|dn<|r9 Y (λN8=>?_) (λN8=>?_)
 ·refine jQ ?_;refine aZ<|dF<|pC 8 Y ?_
  obtain⟨x1,bT⟩:=bH (xs:=s) (i:=k) aj;refine ev (d9 (i:=k) gq wX Y Y Y (aP bT) ((K1.a sP).some_ bT))<|ev (kG jF Y ((K1.a sP).eZ (j:=0) bT Y))<|pA 2 Y<|o8 Y (λhc16=>?_) (λhc16=>?_)
  ·refine gD Y<|fE Y<|jE (jM (gG (gG (jM (gG (uo Y ?_))))))
   have gy:(((k:Nat):Int):Int)=(idxOf (fun(x:Int)=>decide (x=val)) s):=by exact(L8 hno bT (by simp; omega)).symm
   exact⟨by rw [gy] <;> rfl,K1⟩
  refine Gw ?_;refine jN<|ev (eG Y Y)<|mv Y<|jO<|dX ⟨(k+1),Y,Y,aj,by exact ug (q:=λy=>decide (y=val)=false) hno bT (by simp; omega),K1⟩ rfl aj
 refine BU ?_;refine kX Y<|iU Y ?_
 exact⟨by rw [PW (Mc hno aj)] <;> rfl,K1⟩
def adg(s:V Int)(v:Int):decide (0<=idxOf (fun(x:Int)=>decide (x=v)) s)=s.contains v:=by
 rw [ac9]
 simp only [bN,nG]
 rcases wS (fun(x:Int)=>decide (x=v)) s with ⟨h1,h2⟩ | ⟨k,x,h1,h2,h3,h4⟩
 ·rw [h1]; simp; intro h; have:=h2 v h; simp at this
 ·rw [h1]; simp at h3; subst h3; simp; exact dz h2
def kJ(w:World)(sP:Sl dN S0 w wP vk s)(val:Int):bM prog 81 #[.slice wP s.length vk,O val] w λv w'=>v=.bool (s.contains val)/\Hp w S0 w' []:=by
 refine lg S0 func81 ntmps81 Y λH0=>pC 6 Y<|mX H0 Y (agk _ (H0.a sP).any val) λw1 K1=>pA 3 Y<|iU Y ?_
 exact⟨by rw [adg s val] <;> rfl,K1⟩
def aoi(w:World)(x:Int):bM prog 375 #[O x] w λv w'=>v=.bool false/\Hp w S0 w' []:=by
 refine lg S0 func375 ntmps375 Y λH0=>kX Y<|gD Y<|mv Y<|ev (Gq Y Y)<|fE Y<|iU Y ?_
 have gy:((!decide (x=x)):Bool)=false:=by simp
 exact⟨by rw [gy] <;> rfl,H0⟩
def PD(w:World)(sP:Sl dN S0 w wP vk s)(target:Int)(hm:ac1 (fun(y:Int)=>bL y target) s)(hn:s.length<=1000000):bM prog 350 #[.slice wP s.length vk,O target] w λv w'=>v=.tuple #[O ((low (fun(y:Int)=>bL y target) s:Nat):Int),.bool (hits (fun(y:Int)=>bL y target) s)]/\Hp w S0 w' []:=by
 refine lg S0 func350 ntmps350 Y λH0=>?_;have aoa:=sP.bI;refine rg<|oJ Y<|fE Y<|gD Y<|ev (jf gq Y)<|fE Y<|gD Y<|oJ Y<|fE Y<|aZ<|dF<|Lp H0 (λl0 rk mJ lJ wJ=>∃ i j,lJ=(7,O ((i:Nat):Int))::(8,O ((j:Nat):Int))::l0/\mJ=j - i/\(i<=j/\j<=s.length)/\(∀(a:Nat)(y:Int),a<i->s[a]? = some y->bL y target<0)/\(∀(a:Nat)(y:Int),j<=a->s[a]? = some y->¬ bL y target<0)/\Hp w S0 wJ rk) ⟨0,s.length,Y,Y,by exact⟨fI _,j4 _⟩,by intro a y ha; omega,by intro a y ha hy; have:=aP hy; omega,H0⟩ rfl ?_
 rintro _ _ w1 ⟨i,j,rfl,rfl,hij,hlo,hhi,K1⟩;refine aZ<|gD Y<|mv Y<|ev (iH Y Y)<|dn<|o8 Y (λzB=>?_) (λzB=>?_)
 ·refine jQ ?_;refine dF<|pC 3 Y<|ev (eG Y Y)<|ev (PX Em.1 Em.2.1 Em.2.2 Y (Jz aj))<|ev (Ev.aBX Y Y)<|ev (PX Au.1 Au.2.1 Au.2.2 Y (Ei aj))<|pB 5 Y ?_
  obtain⟨x1,bT⟩:=bH (xs:=s) (i:=((i+j) / 2)) aj;refine ev (d9 (i:=((i+j) / 2)) gq wX Y Y Y (aP bT) ((K1.a sP).some_ bT))<|ev (kG jF Y ((K1.a sP).eZ (j:=0) bT Y))<|mv Y<|mX K1 Y (axC (S0:=Any) _ x1 target) λw2 K2=>dn<|o8 Y (λhc27=>?_) (λhc27=>?_)
  ·refine jN<|mv Y<|ev (eG Y Y)<|oJ Y<|jO<|iF<|dX ⟨(((i+j) / 2)+1),j,Y,Y,aj,by first | exact hlo | exact λa y ha hy=>hm a _ y x1 aj hy bT (qK.2 hc27),by first | exact hhi | exact λa y ha hy hlt=>hc27 (qK.1 (hm _ a x1 y aj bT hy hlt)),K2⟩ rfl aj
  refine jN<|pq 2 Y<|jO<|iF<|dX ⟨i,((i+j) / 2),Y,Y,aj,by first | exact hlo | exact λa y ha hy=>hm a _ y x1 aj hy bT (qK.2 hc27),by first | exact hhi | exact λa y ha hy hlt=>hc27 (qK.1 (hm _ a x1 y aj bT hy hlt)),K2⟩ rfl aj
 refine BU ?_;refine pC 6 Y<|qg 18 53 (hits (fun(y:Int)=>bL y target) s) ?_ ?_
 ·cases Ut:decide (((i:Nat):Int)<((s.length:Nat):Int)) with
  | true=>
   have aQ4:=iY Ut;refine pq 2 Y ?_;obtain⟨x2,nE⟩:=bH (xs:=s) (i:=i) aj;refine uf Y (d9 (i:=i) gq wX Y Y Y (aP nE) ((K1.a sP).some_ nE)) Y<|uf Y (kG jF Y ((K1.a sP).eZ (j:=0) nE Y)) Y<|pq 3 Y<|qg 10 52 ((decide (x2=target))||false) ?_ ?_
   ·cases aTD:decide (x2=target) with
    | true=>
     refine pq 10 Y<|jI Y (oW _)
    | false=>
     refine pq 2 Y<|uf Y (d9 (i:=i) gq wX Y Y Y (aP nE) ((K1.a sP).some_ nE)) Y<|uf Y (kG jF Y ((K1.a sP).eZ (j:=0) nE Y)) Y<|om Y Y Y Y aCi (aoi (S0:=Any) _ x2) Y ?_
     rintro _ w3 ⟨rfl,h3⟩;refine pq 5 Y<|jI Y h3.ext
   intro w4 e4;refine pq 1 Y<|gZ (t:=53) Y (aY Value.bool (by have hl:=G9 (i:=i) aj hlo (λa y ha=>hhi a y aj); unfold hits; rw [hl,nE]; rw [ac9]; simp [zR]))<|jI rfl e4
  | false=>
   refine pq 18 Y<|gZ (t:=53) (u:=.bool false) (v:=.bool (hits (fun(y:Int)=>bL y target) s)) Y (aY Value.bool (by have hl:=G9 (g:=fun(y:Int)=>bL y target) (s:=s) (i:=i) aj hlo (λa y ha=>hhi a y aj); unfold hits; rw [hl,Yn (by have:=jX Ut; omega)])) ?_
   exact jI Y (oW _)
 intro w5 e5;have K5:=K1.grow e5;refine pA 3 Y<|iU Y ?_
 have gy:(i:Nat)=(low (fun(y:Int)=>bL y target) s):=by exact(G9 (g:=fun(y:Int)=>bL y target) aj hlo (λa y ha=>hhi a y aj)).symm
 exact⟨by rw [<- gy] <;> rfl,K5⟩
abbrev ajL:=(([]:List Int):List Int)
def sw(w:World)(sP:Sl dN S0 w wP vk s)(hn:s.length<=1000000):bM prog 37 #[.slice wP s.length vk] w λv w'=>∃ A0 c0,v=.slice A0 s.length c0/\Hp w S0 w' [aR dN 3 A0 c0 s]:=by
 refine lg S0 func37 ntmps37 Y λH0=>?_;have qU:=gq;have qI:=LB;have qB:=@arq;exact mCL
def adh{b:World}{F:V kF}{c:Nat}{xs:V Int}(H0:Hp b S w (aR dN 3 A c xs::F)){i j:Nat}(hij:i<j)(hj:j<=xs.length):bM prog 353 #[.slice A xs.length c,O (i:Int),O (j:Int)] w λv w'=>v=.slice A (xs.take i++xs.drop j).length c/\Hp b S w' (aR dN 3 A c (xs.take i++xs.drop j)::F):=by
 refine qN func353 ntmps353 Y ?_;have qU:=gq;have qZ:=wX;have qE:=aCj;have qI:=LB;exact mDE
def YF{b:World}{F:V kF}{c:Nat}{xs:V aH}(H0:Hp b S w (aR bD 48 A c xs::F)){i j:Nat}(hij:i<j)(hj:j<=xs.length):bM prog 354 #[.slice A xs.length c,O (i:Int),O (j:Int)] w λv w'=>v=.slice A (xs.take i++xs.drop j).length c/\Hp b S w' (aR bD 48 A c (xs.take i++xs.drop j)::F):=by
 refine qN func354 ntmps354 Y ?_;have qU:=lT;have qZ:=tH;have qE:=aAA;have qI:=ars;exact mDE
def nQ(most:Int):Int->List Int->Bool
  | _,[]=>true
  | Ee,n::l=>!(decide (n<Ee)||decide (most<n))&&nQ most (n+1) l
def oF(c:aH):Bool:=!(decide (c.E<1)||decide (1073741824<c.E)||!nQ 16 1 c.aD)
def ku(l:List aH):Bool:=l.all oF&&decide (l.length<=32)&&nQ 1048576 1 (l.map aH.ID)
def dV(l:List aH):List aH:=if ku l then l else[]
def EJ(l:V aH):(dV l).length<=l.length:=by unfold dV; split <;> simp
def VW{z:Int}{l:V Int}{k:Nat}{x:Int}(hx:l[k]? = some x):nQ most z (l.drop k)=(!(decide (x<z)||decide (most<x))&&nQ most (x+1) (l.drop (k+1))):=by
 rw [CF (aP hx),(rG.1 hx).2]; rfl
def CJ:∀(l:V Int)(z:Int),nQ most z l=true->∀ x∈l,z<=x/\x<=most
 | [],_,_,x,hx=>by simp at hx
 | y::l,z,h,x,hx=>by
  simp only [nQ,bK,dZ,dQ,bV] at h
  rcases gW.1 hx with rfl | hx
  ·omega
  ·have:=CJ l _ h.2 x hx; omega
theorem EK:∀(l:V Int)(z:Int),nQ most z l=true->l.Pairwise (λx y=>x<y)
 | [],_,_=>List.Pairwise.nil
 | y::l,z,h=>by
  simp only [nQ,bK,dZ,dQ,bV] at h
  exact nT.2 ⟨λx hx=>by have:=CJ l _ h.2 x hx; omega,EK l _ h.2⟩
theorem kK{l:V aH}:ku l=true↔(∀ c∈l,oF c=true)/\l.length<=32/\nQ 1048576 1 (l.map aH.ID)=true:=by
 unfold ku; simp only [bK,mD,bN,and_assoc]
def Dp(l:V aH):Up aH.ID (dV l):=by
 unfold dV; split
 ·rename_i h
  have:=EK _ _ (kK.1 h).2.2;rw [JD] at this;exact this
 ·exact List.Pairwise.nil
theorem zS(l:V aH):ku (dV l)=true:=by
 unfold dV; split
 ·assumption
 ·rfl
theorem wY{l:V aH}(h:ku l=true):dV l=l:=by unfold dV; rw [aS h]
def aoj{l:V aH}(h:ku l=false):dV l=[]:=by unfold dV; rw [h]; rfl
def agl(w:World){l:V Int}(jq:Sl dN S0 w jL jK l)(Ee:Int)(most:Int)(hm:most<=9223372036854775806)(hl0:0<=Ee):bM prog 168 #[.slice jL l.length jK,O Ee,O most] w λv w'=>v=.bool (nQ most Ee l)/\Hp w S0 w' []:=by
 refine lg S0 func168 ntmps168 Y λH0=>?_;have Iz:=jq.bI;refine kX Y<|aZ<|gD Y<|ev (jf gq Y)<|mv Y<|dn<|dF<|Lp H0 (λl0 rk mJ lJ wJ=>∃(k:Nat)(z:Int),lJ=(1,O z)::(11,O ((k:Nat):Int))::l0/\mJ=l.length - k/\k<=l.length/\(nQ most Ee l=nQ most z (l.drop k))/\(0<=z)/\Hp w S0 wJ rk) ⟨0,Ee,Y,Y,fI _,av,by exact hl0,H0⟩ rfl ?_
 rintro _ _ w1 ⟨k,z,rfl,rfl,hk,hz,hz0,K1⟩;refine rg<|ev (iH Y Y)<|dn<|r9 Y (λoD=>?_) (λoD=>?_)
 ·refine jQ ?_;refine aZ<|dF<|rg ?_
  obtain⟨x1,bT⟩:=bH (xs:=l) (i:=k) aj;refine ev (d9 gq wX Y Y Y (aP bT) ((K1.a jq).some_ bT))<|ev (kG jF Y ((K1.a jq).eZ (j:=0) bT Y))<|fE Y<|aZ<|pC 5 Y<|iJ 4 22 ((decide (x1<z))||(decide (most<x1))) ?_ ?_
  ·cases aCl:decide (x1<z) with
   | true=>
    refine pq 4 Y<|dK Y
   | false=>
    have aAC:=jX aCl;refine pq 4 Y<|dK Y
  refine dn<|bS Y (λhc22=>?_) (λhc22=>?_)
  ·try simp only [aA] at hc22
   refine kX Y<|jE (gG (jM (gG (gG (jM (gG (uo Y ?_)))))))
   have gy:(false:Bool)=(nQ most Ee l):=by rw [hz,VW bT]; simp; intro h1 h2; omega
   exact⟨by rw [<- gy] <;> rfl,K1⟩
  try simp only [aA] at hc22
  refine jQ ?_;refine jN<|mv Y<|ev (eG Y Y)<|oJ Y<|jO<|iF (fV ?_)
  refine jN<|ev (eG Y Y)<|mv Y<|jO<|dX ⟨(k+1),x1+1,Y,Y,aj,by rw [hz,VW bT]; simp [hc22],aj,K1⟩ rfl aj
 refine BU ?_;refine kX Y<|iU Y ?_
 have gH:(true:Bool)=(nQ most Ee l):=by rw [hz,Hg aj]; rfl
 exact⟨by rw [<- gH] <;> rfl,K1⟩
abbrev adi(gX:List aH):=((gX.length:Nat):Int)<=32
def Oa(w:World){l:V aH}(jq:Sl bD S0 w jL jK l)(hn:l.length<=100000):bM prog 94 #[.slice jL l.length jK] w λv w'=>v=.bool (ku l)/\Hp w S0 w' []:=by
 refine lg S0 func94 ntmps94 Y λH0=>kX Y<|kX Y<|aZ<|gD Y<|ev (jf lT Y)<|mv Y<|dn<|dF ?_
 have H1:=H0.nil dN 3;have gy:ajL=((l.take 0).map aH.ID):=by rfl
 refine mP (t:=3) Y (aY (λz=>Value.slice none (List.length z) 0) gy) ?_;have H2:=H1.nil dN 3;have H3:=(gy▸H2:Hp w S0 w (aR dN 3 none 0 ((l.take 0).map aH.ID)::[aR dN 3 none 0 []]));refine Lp (H3.cU 0 2) (λl0 rk mJ lJ wJ=>∃ k A3 c3,lJ=(3,.slice A3 (((l.take k).map aH.ID).length) c3)::(8,O ((k:Nat):Int))::l0/\mJ=l.length - k/\k<=l.length/\(∀ y∈l.take k,oF y=true)/\Hp w S0 wJ (aR dN 3 A3 c3 ((l.take k).map aH.ID)::rk)) ⟨0,none,0,Y,Y,fI _,av,(H3.rm s1)⟩ rfl ?_;rintro _ _ w1 ⟨k,A3,c3,rfl,rfl,hk,hall,K1⟩;refine rg<|ev (iH Y Y)<|dn<|r9 Y (λN8=>?_) (λN8=>?_)
 ·refine jQ ?_;refine aZ<|dF<|rg ?_
  obtain⟨x1,bT⟩:=bH (xs:=l) (i:=k) aj;refine ev (d9 (i:=k) lT tH Y Y Y (aP bT) ((K1.a jq).some_ bT)) ?_;obtain⟨B1,d1,yG,hi1⟩:=CG (jq.row bT);refine ev (iR p8 Y Y (Gu (λj u hu=>K1.ext.cell (yG j u hu))))<|al lX Y K1 λg1 w2 K2=>sty Y K2 U Y λw3 K3=>dn<|aZ<|rg<|jP g1 1 tO K3 U Y<|pq 2 Y<|iJ 4 19 ((decide (x1.E<1))||(decide (1073741824<x1.E))) ?_ ?_
  ·cases WJ:decide (x1.E<1) with
   | true=>
    refine pq 4 Y<|dK Y
   | false=>
    refine wW g1 1 tO K3 U Y<|pq 2 Y<|dK Y
  refine mv Y<|qg 5 25 (((decide (x1.E<1))||(decide (1073741824<x1.E)))||(!(nQ 16 1 x1.aD))) ?_ ?_
  ·cases adk:((decide (x1.E<1))||(decide (1073741824<x1.E))) with
   | true=>
    refine pq 5 Y<|jI Y (oW _)
   | false=>
    have agm:=adk
    try simp only [aA] at agm
    refine wW g1 3 kr K3 U Y<|om Y Y Y Y aru (agl _ (K3.a hi1).any 1 16 aj aj) Y ?_
    rintro _ w4 ⟨rfl,h4⟩;refine pq 2 Y<|jI Y h4.ext
  intro w5 e5;have K5:=K3.grow e5;refine dn<|bS Y (λhc25=>?_) (λhc25=>?_)
  ·refine kX Y<|jE (gG (jM (gG (gG (jM (gG (uo Y ?_)))))))
   have gH:(false:Bool)=(ku l):=by symm; unfold ku; rw [show l.all oF=false from by rw [Ur]; exact⟨x1,dz bT,by unfold oF; rw [hc25]; simp⟩]; rfl
   exact⟨by rw [<- gH] <;> rfl,K5.z⟩
  refine jQ ?_;refine jN<|mv Y<|jP g1 0 pG K5 U Y<|yV Y (by intro _; apply pI) rfl K5 (λ_ _=>rfl) λg2 w6 K6=>ap K6 s2 rfl rfl (K6.o U) gq LB (by first | omega | (simp; omega) | (simp; done)) av rfl λsQ sS w7 K7=>oJ rfl<|jO<|iF (fV ?_)
  refine jN<|ev (eG Y Y)<|mv Y<|jO ?_
  have kN:((((l.take k).map aH.ID)++([x1.ID]:V Int)):V Int)=((l.take (k+1)).map aH.ID):=by rw [eO bT,sU]; rfl
  refine ji (t:=3) Y (aY (λz=>Value.slice sQ (List.length z) sS) kN) ?_;rw [kN] at K7;exact dX ⟨(k+1),sQ,sS,Y,Y,aj,by exact ug hall bT (by unfold oF; rw [hc25]; rfl),(K7.cU 1 2)⟩ rfl aj
 refine BU ?_;refine pC 5 Y<|qg 3 38 ((decide (adi l))&&(nQ 1048576 1 ((l.take k).map aH.ID))) ?_ ?_
 ·cases Ut:decide (adi l) with
  | true=>
   refine pq 1 Y<|om Y Y Y Y aru (agl _ (K1.o U) 1 1048576 aj aj) Y ?_
   rintro _ w8 ⟨rfl,h8⟩;refine pq 1 Y<|jI Y h8.ext
  | false=>
   refine pq 3 Y<|jI Y (oW _)
 intro w9 e9;have K9:=K1.grow e9;refine fE Y<|iU Y ?_
 have nM:(((decide (adi l))&&(nQ 1048576 1 ((l.take k).map aH.ID))):Bool)=(ku l):=by rw [gY aj] at hall ⊢; unfold ku; rw [show l.all oF=true from by rw [mD]; exact hall,show decide (adi l)=decide (l.length<=32) from by rw [decide_eq_decide]; omega,Bool.true_and]
 exact⟨by rw [nM] <;> rfl,(K9.rm U)⟩
abbrev YG:=(([]:List aH):List aH)
def vS(w:World){s:V aH}(sP:Sl bD S0 w wP vk s)(hn:s.length<=1000000):bM prog 36 #[.slice wP s.length vk] w λv w'=>∃ A0 c0,v=.slice A0 s.length c0/\Hp w S0 w' [aR bD 48 A0 c0 s]:=by
 refine lg S0 func36 ntmps36 Y λH0=>kX Y<|aZ<|gD Y<|ev (Ev.alF lT Y Y)<|dn<|bS Y (λhc4=>?_) (λhc4=>?_)
 ·refine kX Y<|Aw Y ?_
  have H1:=H0.nil bD 48;have gy:YG=s:=by have h1:=sP.nil (by simpa using hc4); have h2:=sP.cap; exact(xY aj).symm
  have H2:=(gy▸H1:Hp w S0 w (aR bD 48 none 0 s::[]));exact⟨none,0,by rw [<- gy] <;> rfl,H2⟩
 refine jQ ?_;refine rg<|bs0 Y (by intro _; apply arv) rfl H0 λg1 w1 K1=>mv rfl<|apd K1 U rfl rfl (K1.a sP) lT ars av (by first | omega | (simp; omega) | (simp; done)) rfl λsQ sS w2 K2=>fE rfl<|iU rfl ?_
 have gH:((([]:V aH)++s):V aH)=s:=by simp
 rw [gH] at K2;exact⟨sQ,sS,by rw [gH] <;> rfl,K2⟩
def Uu{ks:V bE}{i:Nat}{k k':bE}(hx:ks[i]? = some k):(((ks.set i k').take (i+1)).map rQ)=((ks.take i).map rQ)++[rQ k']:=by
 have h1:(ks.set i k')[i]? = some k':=u7 (aP hx);rw [eO h1,sU,List.take_set_of_le (j4 _)]; rfl
def YH{ks:V bE}{i:Nat}{k k':bE}(hx:ks[i]? = some k)(hc:k'.c=k.c):(ks.set i k').map bE.c=ks.map bE.c:=by
 apply Ho;intro j;rw [rM,rM]
 by_cases h:i=j
 ·subst h; rw [u7 (aP hx),hx]; simp [hc]
 ·rw [Jv h]
def aok{ks:V bE}{i:Nat}{k':bE}:(ks.set i k').map bE.c=(ks.map bE.c).set i k'.c:=by rw [MP]
def EY{ks:V bE}{i:Nat}{k':bE}:(ks.set i k').map rQ=(ks.map rQ).set i (rQ k'):=by rw [MP]
def YI(w:World){l:V aH}(jq:Sl bD S0 w jL jK l)(hn:l.length<=100000)(hh:∀ x∈l,x.aD.length<=100000):bM prog 86 #[.slice jL l.length jK] w λv w'=>∃(A:ah)(c:Nat)(ks:V bE),v=.slice A ks.length c/\ks.map bE.c=dV l/\Hp w S0 w' [aR tK 48 A c ks,fH dN 3 (ks.map rQ)]:=by
 refine qN func86 ntmps86 Y ?_;have Iz:=jq.bI;have H0:=Hp.init w S0;refine kX Y<|aZ<|gD Y<|mX H0 Y (Oa _ (H0.a jq).any aj) λw1 K1=>pA 2 Y<|bS Y (λhc8=>?_) (λhc8=>?_)
 ·try simp only [aA] at hc8
  refine kX Y<|Aw Y ?_
  have H1:=K1.nil tK 48;have H2:=H1.af8 dN 3;exact⟨none,0,[],Y,by rw [aoj hc8]; rfl,(H2.sel s1)⟩
 try simp only [aA] at hc8
 refine jQ ?_;refine gD Y<|gu Y (vS _ (K1.a jq) aj) ?_
 rintro _ w2 ⟨qj,ql,rfl,h2⟩;have K2:=K1.c1 h2;refine fE Y<|aZ ?_
 obtain⟨QX,agn,HK1⟩:=Hp.toK K2 U;have HK2:=HK1.af8 dN 3;have ajM:QX.length=l.length:=by rw [<- agn,jW]
 refine mP (t:=3) Y (aY (λz=>Value.slice qj z ql) ajM.symm)<|gD Y<|ev (jf lT Y)<|mv Y<|dn<|dF ?_
 have gy:[]=((QX.take 0).map rQ):=by rfl
 rw [gy] at HK2;refine Lp (HK2.cU 0 2) (λl0 rk mJ lJ wJ=>∃(k:Nat)(ks:V bE),lJ=(3,.slice qj ks.length ql)::(11,.slice qj ks.length ql)::(13,O ((k:Nat):Int))::l0/\mJ=QX.length - k/\k<=QX.length/\(ks.length=QX.length)/\(ks.map bE.c=l)/\(∀ j,k<=j->ks[j]? = QX[j]?)/\Hp w S0 wJ (aR tK 48 qj ql ks::fH dN 3 ((ks.take k).map rQ)::rk)) ⟨0,QX,Y,Y,fI _,by rfl,by exact agn,by intro j _; rfl,((HK2.sel U).sel s1)⟩ rfl ?_;rintro _ _ w3 ⟨k,ks,rfl,rfl,hk,hkn,hka,hkb,K3⟩;refine rg<|ev (iH Y Y)<|dn<|r9 Y (λrR=>?_) (λrR=>?_)
 ·refine jQ ?_;refine aZ<|dF<|gD Y ?_
  obtain⟨x1,bT⟩:=bH (xs:=ks) (i:=k) aj;refine ev (d9 (i:=k) lT tH Y Y Y (aP bT) ((K3.o U).some_ bT))<|ev (iR p8 Y Y ((K3.o U).fF bT))<|al lX Y K3 λg1 w4 K4=>oJ Y<|sty Y K4 U Y λw5 K5=>dn ?_
  have hin:=K5.aB4 s3 (eX.2 ⟨x1,dz (by rw [<- hkb k (j4 _)]; exact bT),rfl⟩:(x1.B,x1.d,x1.c.aD)∈_);have hHl:x1.c.aD.length<=100000:=hh x1.c (by rw [<- hka]; exact eX.2 ⟨x1,dz bT,rfl⟩);have H3:=K5.push hin;refine jN<|pq 2 Y<|jP g1 3 kr H3 s1 Y<|gu Y (sw _ (H3.s U).any aj) ?_
  rintro _ w6 ⟨Gi,Gj,rfl,h6⟩;have K6:=H3.f1 h6;refine ev (d9 lT tH Y Y Y (aP bT) ((K6.o s3).some_ bT))<|ev (fq kr Y (fD _ _ _))<|se (x':=({ x1 with B:=Gi,d:=Gj }:bE)) (ds:=[.slice Gi x1.c.aD.length Gj]) K6 s3 Y Y Y bT Y VU (nU Y) Y (by rintro _ _ _ ⟨⟩; rfl) λw7 K7=>?_
  have hl1:(ks.set k ({ x1 with B:=Gi,d:=Gj }:bE)).length=ks.length:=iC ..;refine gZ (t:=3) (u:=.slice qj ks.length ql) (v:=.slice qj ((ks.set k ({ x1 with B:=Gi,d:=Gj }:bE)).length) ql) Y (by rw [hl1])<|gZ (t:=11) (u:=.slice qj ks.length ql) (v:=.slice qj ((ks.set k ({ x1 with B:=Gi,d:=Gj }:bE)).length) ql) rfl (by rw [hl1])<|gZ (t:=18) (v:=.slice qj ((ks.set k ({ x1 with B:=Gi,d:=Gj }:bE)).length) ql) rfl (by rw [hl1]) ?_
  refine jO<|iF (fV ?_)
  have H4:=K7.QV s1 s3;refine jN<|ev (eG Y Y)<|mv Y<|jO ?_
  have gH:((ks.take k).map rQ)++[(Gi,Gj,x1.c.aD)]=(((ks.set k ({ x1 with B:=Gi,d:=Gj }:bE)).take (k+1)).map rQ):=by rw [Uu bT]; rfl
  rw [gH] at H4;exact dX ⟨(k+1),(ks.set k ({ x1 with B:=Gi,d:=Gj }:bE)),Y,Y,aj,by rw [iC]; exact hkn,by refine(YH bT ?_).trans hka; rfl,by intro j hj; rw [Jv aj]; exact hkb j aj,(((H4.cU 2 2).sel U).sel s1)⟩ rfl aj
 refine BU ?_;refine gD Y<|fE Y<|iU Y ?_
 have hfin:ks.take k=ks:=gY aj;rw [hfin] at K3;exact⟨qj,ql,ks,Y,by rw [hka,wY hc8],(K3.rm s2)⟩
def Xa(w:World){l:V aH}(jq:Sl bD S0 w jL jK l)(hn:l.length<=100000)(hh:∀ x∈l,x.aD.length<=100000):bM prog 86 #[.slice jL l.length jK] w λv w'=>∃ A0 c0,v=.slice A0 (dV l).length c0/\Hp w S0 w' [aR bD 48 A0 c0 (dV l)]:=by
 refine(YI w jq hn hh).mono ?_;rintro _ w' ⟨A,c,ks,rfl,hk,K⟩;have K1:=(K.Yu s1).ofK s1 U;rw [hk] at K1;exact⟨A,c,by rw [<- hk,jW],K1⟩
def WK(w:World){s:V aH}(sP:Sl bD S0 w wP vk s)(target:Int){CK:FuncId}{Hr:V Value}(VR:bC prog CK)(f:aH->Int->Int)(VT:∀(w':World)(x:aH){agp:ah}{agq:Nat}(agr:Sl dN Any w' agp agq x.aD)(t:Int),Ext w w'->True->bM prog CK (([.agg #[O x.ID,O x.E,gP x.Sum,.slice agp x.aD.length agq],O t]:V Value)++Hr).toArray w' λv w''=>v=O (f x t)/\Ext w' w'')(hm:ac1 (fun(y:aH)=>f y target) s)(hn:s.length<=1000000):bM prog 160 #[.slice wP s.length vk,O target,.func (.func CK) #[] Hr.toArray] w λv w'=>v=.tuple #[O ((low (fun(y:aH)=>f y target) s:Nat):Int),.bool (hits (fun(y:aH)=>f y target) s)]/\Hp w S0 w' []:=by
 refine lg S0 func160 ntmps160 Y λH0=>?_;have qU:=lT;have qZ:=tH;have qG:=p8;exact mBS
def ajN(w:World)(c:aH){Dq:ah}{CO:Nat}(IE:Sl dN S0 w Dq CO c.aD)(id:Int):bM prog 161 #[.agg #[O c.ID,O c.E,gP c.Sum,.slice Dq c.aD.length CO],O id] w λv w'=>v=O (bL c.ID id)/\Hp w S0 w' []:=by
 refine lg S0 func161 ntmps161 Y λH0=>rg<|bx Y Y H0 λg1 w1 K1=>fE Y<|rg<|jP g1 0 pG K1 U Y<|mv Y<|mX K1 Y (nV (S0:=Any) _ c.ID id) λw2 K2=>fE Y<|iU Y ?_
 exact⟨Y,(K2.rm U)⟩
def IG(w:World){l:V aH}(jq:Sl bD S0 w jL jK l)(id:Int)(hu:Up aH.ID l)(hn:l.length<=1000000):bM prog 87 #[.slice jL l.length jK,O id] w λv w'=>v=.tuple #[O ((low (fun(y:aH)=>bL y.ID id) l:Nat):Int),.bool (hits (fun(y:aH)=>bL y.ID id) l)]/\Hp w S0 w' []:=by
 refine lg S0 func87 ntmps87 Y λH0=>pC 7 Y<|mX H0 Y (WK _ (H0.a jq).any id aCk (fun(x:aH) (t:Int)=>bL x.ID t) (λw' x=>λagr t e hm=>(ajN w' x agr t).mono (by rintro _ _ ⟨rfl,gH⟩; exact⟨rfl,gH.ext⟩)) (hu.mono id) aj) λw1 K1=>pA 5 rfl<|iU rfl ?_
 exact⟨Y,K1⟩
def aV(l:List aH)(id:Int):aH:=match (dV l)[low (fun(y:aH)=>bL y.ID id) (dV l)]? with | some c=>if c.ID=id then c else⟨0,0,0,[]⟩ | none=>⟨0,0,0,[]⟩
def gQ(l:List aH)(id:Int):Bool:=hits (fun(y:aH)=>bL y.ID id) (dV l)
def YJ{l:V aH}{id:Int}(h:hits (fun(y:aH)=>bL y.ID id) (dV l)=false):aV l id=⟨0,0,0,[]⟩:=by
 unfold aV; split
 ·rename_i c hc
  rw [aQ];intro e;have:=(uh (Dp l) id).2 ⟨c,dz hc,e⟩;rw [h] at this; cases this
 ·rfl
theorem Uw{l:V aH}{id:Int}{c:aH}(h:hits (fun(y:aH)=>bL y.ID id) (dV l)=true)(hc:(dV l)[low (fun(y:aH)=>bL y.ID id) (dV l)]? = some c):aV l id=c:=by
 unfold aV; rw [hc];obtain⟨x,hx,hk⟩:=qc h;rw [hc] at hx; cases hx;exact aS hk
def dO(l:List aH)(id sum:Int):List aH × Int:=if id<1∨1048576<id then([],1) else if hits (fun(y:aH)=>bL y.ID id) (dV l)=true then([],6) else if 32<=(dV l).length then([],7) else((dV l).take (low (fun(y:aH)=>bL y.ID id) (dV l))++[⟨id,1,sum,[]⟩]++(dV l).drop (low (fun(y:aH)=>bL y.ID id) (dV l)),0)
def iN(l:List aH)(id:Int):List aH × Int:=if hits (fun(y:aH)=>bL y.ID id) (dV l)=true then((dV l).take (low (fun(y:aH)=>bL y.ID id) (dV l))++(dV l).drop (low (fun(y:aH)=>bL y.ID id) (dV l)+1),0) else([],5)
def ofL(l:List aH)(bF:Int):List Int:=((dV l).filter (fun(c:aH)=>c.aD.contains bF)).map aH.ID
def find_ok(w:World){l:V aH}(jq:Sl bD S0 w jL jK l)(id:Int)(hn:l.length<=100000)(hh:∀ x∈l,x.aD.length<=100000):bM prog 39 #[.slice jL l.length jK,O id] w λv w'=>∃ wM wN,v=.tuple #[.agg #[O ((aV l id).ID),O ((aV l id).E),gP ((aV l id).Sum),.slice wM (((aV l id).aD).length) wN],.bool (gQ l id)]/\Hp w S0 w' [dI dN wM wN ((aV l id).aD)]:=by
 refine lg S0 func39 ntmps39 Y λH0=>?_;have Iz:=jq.bI;have hf:=EJ l;have hlow:=G8 (fun(y:aH)=>bL y.ID id) (dV l);refine rg<|al lX Y H0 λg1 w1 K1=>pB 4 Y<|gu Y (Xa _ (K1.a jq) aj hh) ?_
 rintro _ w2 ⟨qj,ql,rfl,h2⟩;have K2:=K1.c1 h2;have VX:=(K2.o U).bI;refine pB 5 Y<|mX K2 Y (IG _ (K2.o U) id (Dp l) aj) λw3 K3=>pA 6 Y<|aZ<|gD Y<|ev (wC Y)<|dn<|bS Y (λhc17=>?_) (λhc17=>?_)
 ·try simp only [aA] at hc17
  refine rg<|ev (iT Y (by apply arw))<|sty rfl K3 s1 rfl λw4 K4=>fE rfl<|jE (gG (qL rfl ⟨_,_,rfl,⟨_,rfl,jo p8 rfl (K4.x U)⟩,⟨_,_,rfl,rfl,rfl⟩⟩ ?_))
  have gy:((⟨0,0,0,[]⟩:aH):aH)=(aV l id):=by exact(YJ hc17).symm
  have gH:(0:Int)=(aV l id).ID:=by rw [<- gy]
  have kN:(0:Int)=(aV l id).E:=by rw [<- gy]
  have nM:(0:Int)=(aV l id).Sum:=by rw [<- gy]
  have H1:=K4.push (O8 dN _ _);have uO:ajL=((aV l id).aD):=by rw [<- gy]
  have zC:(false:Bool)=(gQ l id):=by unfold gQ; rw [hc17]
  exact⟨none,0,by first | (rw [<- gH,<- kN,<- nM,<- zC,<- uO] <;> rfl) | (rw [<- uO,<- gH,<- kN,<- nM,<- zC] <;> rfl),by rw [<- uO]; exact(H1.cU 1 2)⟩
 try simp only [aA] at hc17
 have hc17:hits (fun(y:aH)=>bL y.ID id) (dV l)=true:=hc17;obtain⟨xb,hxb,hkb⟩:=qc hc17;have adl:=aP hxb;refine jQ ?_;refine pC 3 Y ?_;obtain⟨x1,bT⟩:=bH aj;refine ev (d9 lT tH Y Y Y (aP bT) ((K3.o U).some_ bT)) ?_;obtain⟨B1,d1,yG,hi1⟩:=CG (K3.oi U bT);have H2:=K3.push hi1;refine ev (iR p8 Y Y (Gu yG))<|sty Y H2 s2 Y λw5 K5=>fE Y<|jE (qL Y ⟨_,_,Y,⟨_,Y,jo (cs:=[O x1.ID,O x1.E,gP x1.Sum,.slice B1 x1.aD.length d1]) p8 Y (K5.x U)⟩,⟨_,_,Y,Y,Y⟩⟩ ?_)
 have BO:(x1:aH)=(aV l id):=by exact(Uw hc17 bT).symm
 have hq8:(x1.ID:Int)=(aV l id).ID:=by rw [<- BO]
 have Aa:(x1.E:Int)=(aV l id).E:=by rw [<- BO]
 have vL:(x1.Sum:Int)=(aV l id).Sum:=by rw [<- BO]
 have hq11:(x1.aD:V Int)=((aV l id).aD):=by rw [<- BO]
 have hq12:(true:Bool)=(gQ l id):=by unfold gQ; rw [hc17]
 exact⟨B1,d1,by first | (rw [hq8,Aa,vL,hq11,<- hq12] <;> rfl) | (rw [hq11,hq8,Aa,vL,<- hq12] <;> rfl),by rw [<- hq11]; exact((K5.rm s2).rm U)⟩
def rI(f ov rr tS e:Nat):Go.Shelf.Ren:=⟨λ| 22=>f | 29=>ov | 30=>rr | n=>n,λ| 24=>tS | 9=>e | n=>n,λn=>n⟩
structure ags (f ov rr tS e k bt:Nat) (nm:String):Prop where
  hf:prog.funcs[f]? = some { Go.Proofs.Body2.n22 (rI f ov rr tS e) with name:=nm }
  o:∃ fn,prog.funcs[ov]? = some fn/\(fn.name == "runtime.NumGoroutine")=false/\fn.body.isNone=true/\Extern.findNext fn=none/\Extern.find fn=some (Extern.SlicesOverlaps.overlaps #[tS,tS] #[4])
  u:prog.underlying tS=some (.slice e)
  i:prog.underlying 3=some (.int .i64)
  z:Size prog e k
  hb:Nat.ble bt 1000=true
  ei:kH prog e k bt
  ez:wT prog e k bt
def axD{f ov rr tS e k bt:Nat}{kp:0<k}{nm:String}(aYa:ags f ov rr tS e k bt nm){b:World}(eb:Ext b w){c:Nat}{us:V (Cells k)}{gv:Nat}{u:Cells k}{i:Nat}(sP:Own (zZ k kp) e b.heap.size No w A c us)(h_v:Bx w gv e u.1)(hgv:blk A≠some gv)(hi:i<=us.length)(hn:us.length<=900000):bM prog f #[.slice A us.length c,O (i:Int),.slice (some ⟨gv,0,none⟩) 1 1] w λv w'=>∃ A' c',v=.slice A' (us.take i++[u]++us.drop i).length c'/\Own (zZ k kp) e b.heap.size No w' A' c' (us.take i++[u]++us.drop i)/\O7 w w' (blk A)/\(blk A'=blk A∨∃ g,blk A'=some g/\w.heap.size<=g):=by
 refine Yg aYa.hf Y (Go.Proofs.Body2.n22_ntmps (rI f ov rr tS e)) Y ?_;have hcap:=(sP.sl (S':=Any) (λ_ _=>trivial) (λ_ _=>trivial)).cap;refine Dj<|pq 1 Y<|Dk<|Dj<|pq 2 Y<|Dl (Jy (lo:=i) aYa.u aYa.z Y Y Y aj aj) Y<|Dk<|Dj<|pq 1 Y<|Dl (jf aYa.u Y) Y<|pq 1 Y<|Dk<|aZ<|Dj<|pq 2 Y<|Dk<|bS Y (λhc16=>?_) (λhc16=>?_)
 ·replace hc16:=iY hc16
  omega
 replace hc16:=jX hc16;refine jQ ?_;refine Dj<|pq 1 Y<|Dl (jf aYa.u Y) Y<|pq 1 Y<|Dk<|aZ<|Dj<|pq 3 Y<|Dk<|bS Y (λhc22=>?_) (λhc22=>?_)
 ·replace hc22:=iY hc22
  refine Dj<|pq 2 Y ?_
  have hv1:Sl (zZ k kp) Any w (some ⟨gv,0,none⟩) 1 [u]:=h_v.ajA (S:=Any) (S2:=No) rfl trivial (λ_ h=>h.elim);refine WL.app (xs:=us) (ys:=[u]) Y Y sP hv1 aYa.u aYa.ei (λ_ _ _ h=>h) (λ_ _ h=>h) aj av aYa.hb eb.size Y λA1 c1 w1 o1 g1 at1=>pq 1 Y<|Dk<|jE (gG (QN (v:=.slice A1 ((us++[u]).length) c1) Y Y Y ?_))
  have h_i:i=us.length:=aj;exact⟨A1,c1,by rw [alJ us u h_i],by rw [alJ us u h_i]; exact o1,g1,at1.imp id (λh=>⟨_,h,j4 _⟩)⟩
 replace hc22:=jX hc22;refine jQ ?_;refine aZ<|Dj<|pq 2 Y<|Dl (eG Y Y) Y<|pq 1 Y<|Dl (Ev.cap aYa.u Y) Y<|pq 1 Y<|Dk<|bS Y (λhc31=>?_) (λhc31=>?_)
 ·replace hc31:=iY hc31
  refine Dj<|pq 2 Y<|Dl (Ev.VN aYa.u aYa.z Y Y Y aj (sP.fr (j4 _)).cap) Y<|pq 2 Y<|Dl (eG Y Y) Y<|pq 1 Y<|Dl (VO Y Y) Y<|gZ (t:=39) (u:=O (((us.length+1:Nat):Int) - ((i:Nat):Int))) (v:=O ((us.length+1 - i:Nat):Int)) Y (aY (Value.int .i64) aj)<|WL.ajE (m:=us.length+1 - i) (us:=us.take i) (kp:=kp) Y Y aYa.u aYa.i aYa.ez ((sP.sl (S':=Any) (λ_ _=>trivial) (λ_ _=>trivial)).VN (hi:=i) aj) (by simp only [iX]; omega) aj (by simp only [iX]; omega) aj aYa.hb rfl λg1 c1 w1 z1 o1 e1=>?_
  have hl1:(us.take i++List.replicate (us.length+1 - i) z1).length=us.length+1:=by simp only [jH,iX,Ud]; omega
  have hcp1:=(o1.sl (S':=Any) (λ_ _=>trivial) (λ_ _=>trivial)).cap;have hz1:w.heap.size<=g1:=(o1.acV _ rfl).1;refine gZ (t:=40) (u:=.slice (some ⟨g1,0,none⟩) ((us.take i).length+(us.length+1 - i)) c1) (v:=.slice (some ⟨g1,0,none⟩) (us.take i++List.replicate (us.length+1 - i) z1).length c1) Y (by simp only [jH,Ud])<|pq 1 rfl<|Dk<|Dj<|pq 2 rfl<|Dl (Jy (lo:=i) aYa.u aYa.z rfl rfl rfl aj aj) rfl<|pq 1 rfl ?_
  have hv1:Sl (zZ k kp) Any w1 (some ⟨gv,0,none⟩) 1 [u]:=(h_v.ext e1).ajA (S:=Any) (S2:=No) rfl trivial (λ_ h=>h.elim);refine WL.alI (lo:=i) (us:=(us.take i++List.replicate (us.length+1 - i) z1)) (vs:=[u]) (kp:=kp) Y Y aYa.u aYa.z o1 hv1 aj Y λw2 v2 o2 g2 z2=>?_;have hl2:(over (us.take i++List.replicate (us.length+1 - i) z1) i [u]).length=us.length+1:=by rw [MC aj,hl1]
  have aGB:=(sP.ext e1).grown g2 (λg hA hB=>by have h1:=(sP.acV g hA).2; have h2:g1=g:=(by simpa [blk] using hB); omega) (λ_ _ h=>h);refine gZ (t:=9) (u:=.slice (some ⟨g1,0,none⟩) (us.take i++List.replicate (us.length+1 - i) z1).length c1) (v:=.slice (some ⟨g1,0,none⟩) (over (us.take i++List.replicate (us.length+1 - i) z1) i [u]).length c1) Y (by rw [hl1,hl2])<|Dk<|WP.held (λ_=>True) (λlJ w'=>lJ=[(9,.slice (some ⟨g1,0,none⟩) ((over (us.take i++List.replicate (us.length+1 - i) z1) i [u]).length) c1)]/\Own (zZ k kp) e w.heap.size No w' (some ⟨g1,0,none⟩) c1 (over (over (us.take i++List.replicate (us.length+1 - i) z1) i [u]) (i+1) (us.drop i))/\O7 w2 w' (some g1)) ak ?_ ?_
  ·refine xZ (fuel:=8) 0 rfl ak ak ak (λ_=>(dP rfl)) rfl<|xZ (fuel:=7) 1 rfl ak ak ak (λ_=>(dP rfl)) rfl<|xZ (fuel:=6) 2 rfl ak ak ak (λ_=>(dP rfl)) rfl<|xZ 3 rfl ak ak ak (λ_=>(eG rfl rfl)) rfl<|xZ 4 rfl ak ak ak (λ_=>(Jy aYa.u aYa.z rfl rfl rfl aj aj)) rfl<|xZ 5 rfl ak ak ak (λ_=>(dP rfl)) rfl<|xZ 6 rfl ak ak ak (λ_=>(dP rfl)) rfl<|xZ 7 rfl ak ak ak (λ_=>(Yj aYa.u aYa.z rfl rfl rfl aj (aGB.fr (a:=b) (j4 _)).cap)) rfl<|xX (fuel:=0) (rs:=[8]) ak au ?_
   simp only [rP,lH,wU,wV,uw]
   refine⟨_,Y,?_⟩;refine WL.alI (lo:=i+1) (us:=(over (us.take i++List.replicate (us.length+1 - i) z1) i [u])) (vs:=us.drop i) (kp:=kp) Y Y aYa.u aYa.z (o2.ext (oW w2).drew) (((aGB.sl (S':=Any) (λ_ _=>trivial) (λ_ _=>trivial)).cutFrom (lo:=i) aj).ext (oW w2).drew) aj Y λw3 v3 o3 g3 z3=>aO trivial<|WH.done [(9,.slice (some ⟨g1,0,none⟩) ((over (us.take i++List.replicate (us.length+1 - i) z1) i [u]).length) c1)] ak ⟨Y,trivial⟩ ⟨Y,o3,⟨g3.os,g3.tape,g3.output,g3.size,g3.block,lG (acU _) g3.drawn⟩⟩
  rintro _ w3 ⟨rfl,o3,g3⟩;have hov:over (over (us.take i++List.replicate (us.length+1 - i) z1) i [u]) (i+1) (us.drop i)=us.take i++[u]++us.drop i:=aqX us u z1 hi;rw [hov] at o3;refine Dj<|pq 2 Y<|Dk<|jE (gG (QN (v:=.slice (some ⟨g1,0,none⟩) ((over (us.take i++List.replicate (us.length+1 - i) z1) i [u]).length) c1) Y Y Y ?_))
  have hl3:(us.take i++[u]++us.drop i).length=us.length+1:=by simp only [jH,iX,uj,oO,u6]; omega
  exact⟨_,_,by rw [hl2,<- hl3],o3.low (by exact eb.size) (λ_ h=>h),Ext.an1 e1 g2 g3 hz1,.inr ⟨g1,rfl,hz1⟩⟩
 replace hc31:=jX hc31;refine jQ ?_;refine Dj<|pq 3 Y<|Dl (eG Y Y) Y<|Dl (Ev.ac4 (hi:=us.length+1) aYa.u aYa.z Y Y Y aj) Y<|pq 1 Y<|Dk<|aZ<|Dj<|pq 4 Y<|Dl (eG Y Y) Y<|Dl (Jy (lo:=i+1) aYa.u aYa.z Y Y Y aj aj) Y ?_
 obtain⟨gA,cA,rfl,aTE,hAb,hAn,hAm,hAl,hAt⟩:=sP.open_ aj;have aGC:gv≠gA:=λh=>hgv (by rw [h]; rfl);have hcut:vK (some ⟨gA,0,none⟩) c (i+1) k=some ⟨gA,(i+1)*k,none⟩:=EI aj;refine WL.extern (v:=.bool false) Y Y Y ?_ Y ?_
 ·show(callFunc ov #[.slice (some ⟨gv,0,none⟩) 1 1,.slice (vK (some ⟨gA,0,none⟩) c (i+1) k) (us.length+1 - (i+1)) (c - (i+1))]).run prog w=_
  rw [hcut];obtain⟨fn,o1,o2,o3,o4,o5⟩:=aYa.o;exact WE (tR:=4) o1 o2 o3 o4 o5 aYa.u aYa.z h_v hAb aGC (by rw [hAl]; exact Nat.mul_pos aj kp)
 refine pq 1 Y<|Dk<|bS Y (λ_h=>?_) nofun
 refine WP.held (λ_=>True) (λlJ w'=>lJ=[(0,.slice (some ⟨gA,0,none⟩) (us.length+1) c),(1,O ((i:Nat):Int)),(2,.slice (some ⟨gv,0,none⟩) 1 1),(7,O ((1:Nat):Int))]/\Gap e b.heap.size w' (some ⟨gA,0,none⟩) c us i 1/\O7 w w' (some gA)/\w'.heap.size=w.heap.size) ak ?_ ?_
 ·refine xZ (fuel:=8) 0 rfl ak ak ak (λ_=>(dP rfl)) rfl<|xZ (fuel:=7) 1 rfl ak ak ak (λ_=>(dP rfl)) rfl<|xZ (fuel:=6) 2 rfl ak ak ak (λ_=>(dP rfl)) rfl<|xZ 3 rfl ak ak ak (λ_=>(eG rfl rfl)) rfl<|xZ 4 rfl ak ak ak (λ_=>(Jy aYa.u aYa.z rfl rfl rfl aj aj)) rfl<|xZ 5 rfl ak ak ak (λ_=>(dP rfl)) rfl<|xZ 6 rfl ak ak ak (λ_=>(dP rfl)) rfl<|xZ 7 rfl ak ak ak (λ_=>(Jy aYa.u aYa.z rfl rfl rfl aj aj)) rfl<|xX (rs:=[8]) ak au ?_
  simp only [rP,lH,wU,wV,uw]
  refine⟨_,Y,?_⟩;refine WL.anY (i:=i) (m:=1) (us:=us) (kp:=kp) Y Y aYa.u aYa.z (sP.ext (oW w).drew) aj aj Y λw1 v1 o1 g1 z1=>aO trivial<|WH.done [(0,.slice (some ⟨gA,0,none⟩) (us.length+1) c),(1,O ((i:Nat):Int)),(2,.slice (some ⟨gv,0,none⟩) 1 1),(7,O ((1:Nat):Int))] ak ⟨Y,Y,Y,Y,trivial⟩ ⟨Y,o1,⟨g1.os,g1.tape,g1.output,g1.size,g1.block,lG (acU _) g1.drawn⟩,z1⟩
 rintro _ w1 ⟨rfl,o1,g1,z1⟩;refine Dj<|pq 2 Y<|Dl (Jy (lo:=i) aYa.u aYa.z Y Y Y aj aj) Y<|pq 1 Y ?_
 have aNe:=h_v.mod (aBO g1 (λk hk=>by cases hk; rfl)) aGC;have hv1:Sl (zZ k kp) Any w1 (some ⟨gv,0,none⟩) 1 [u]:=aNe.ajA (S:=Any) (S2:=No) rfl trivial (λ_ h=>h.elim);refine WL.axh (i:=i) (m:=1) (us:=us) (vs:=[u]) (kp:=kp) (S:=No) Y Y aYa.u aYa.z o1 hv1 Y aj aj Y λw2 v2 o2 g2 z2=>?_;have hl2:(us.take i++[u]++us.drop i).length=us.length+1:=by simp only [jH,iX,uj,oO,u6]; omega
 refine gZ (t:=0) (u:=.slice (some ⟨gA,0,none⟩) (us.length+1) c) (v:=.slice (some ⟨gA,0,none⟩) (us.take i++[u]++us.drop i).length c) Y (by rw [hl2])<|Dk<|Dj<|pq 2 rfl<|Dk<|jE (gG (QN (v:=.slice (some ⟨gA,0,none⟩) ((us.take i++[u]++us.drop i).length) c) rfl rfl rfl ?_))
 exact⟨_,_,Y,o2,ac5 g1 g2,.inl Y⟩
def Ux{f ov rr tS e bt:Nat}{nm:String}{α:Type}{τ:Ty α}(aYa:ags f ov rr tS e τ.k bt nm){b w:World}{S:Nat->Prop}{rs rest yF:V kF}{A:ah}{c:Nat}{l:V α}{gv:Nat}{x:α}{i:Nat}(H:Hp b S w rs)(s:nY rs (aR τ e A c l) rest)(sv:nY rest (aR τ e (some ⟨gv,0,none⟩) 1 [x]) yF)(hi:i<=l.length)(hn:l.length<=900000):bM prog f #[.slice A l.length c,O (i:Int),.slice (some ⟨gv,0,none⟩) 1 1] w λv w'=>∃ A' c',v=.slice A' (l.take i++[x]++l.drop i).length c'/\Hp b S w' (aR τ e A' c' (l.take i++[x]++l.drop i)::yF):=by
 obtain⟨us,hU,hr⟩:∃ us:V (Cells τ.k),Own (zZ τ.k τ.pos) e b.heap.size No w A c us/\Rel τ (Rd b S rs w) w l us:=H.raw s;have hl:us.length=l.length:=hr.1;have H1:=H.sel s;obtain⟨cs,hb,hx⟩:=Own.aB0 (H1.ow (.t sv));have hx':τ.R (Rd b S rs w) w x cs:=Ty.sub _ (Rd.perm s.perm.symm) hx;have h0:=axD aYa (u:=⟨cs,Ty.len _ hx,Ty.one _ hx⟩) H.ext hU hb (H.aB1 s sv rfl) (by rw [hl]; exact hi) (by rw [hl]; exact hn);rw [hl] at h0;refine h0.mono ?_;rintro v w' ⟨A',c',rfl,hO,hg,hat⟩;have h1:=((hr.take i).append (Rel.one (w:=w) (x:=x) (u:=⟨cs,Ty.len _ hx,Ty.one _ hx⟩) hx')).append (hr.drop i);have h2:(us.take i++[(⟨cs,Ty.len _ hx,Ty.one _ hx⟩:Cells τ.k)]++us.drop i).length=(l.take i++[x]++l.drop i).length:=h1.1;refine⟨A',c',by rw [h2],(Hp.back H s hO h1 hg ?_).rm (.t sv)⟩;intro g hg'
 rcases hat with h | ⟨g',h,hle⟩
 ·exact .inl (h▸hg')
 ·rw [h] at hg'; cases hg'; exact .inr hle
def arx:ags 346 373 374 34 48 4 48 Tryz.f346.name:=⟨func346.trans (aY some ak),⟨_,func373,ak,ak,ak,ak⟩,lT,ig,tH,ak,ars,aAA⟩
def YK:=@Ux _ _ _ _ _ _ _ _ bD arx
def aol(w:World){l:V aH}(jq:Sl bD S0 w jL jK l)(id:Int)(sum:Int)(hn:l.length<=100000)(hh:∀ x∈l,x.aD.length<=100000):bM prog 286 #[.slice jL l.length jK,O id,gP sum] w λv w'=>∃ A0 c0,v=.tuple #[.slice A0 (((dO l id sum).1).length) c0,O ((dO l id sum).2)]/\Hp w S0 w' [aR bD 48 A0 c0 ((dO l id sum).1)]:=by
 refine lg S0 func286 ntmps286 Y λH0=>?_;have Iz:=jq.bI;have hf:=EJ l;have hlow:=G8 (fun(y:aH)=>bL y.ID id) (dV l);refine pC 6 Y<|gu Y (Xa _ (H0.a jq) aj hh) ?_
 rintro _ w1 ⟨jT,jU,rfl,h1⟩;have K1:=H0.c1 h1;have La:=(K1.o U).bI;refine pB 5 Y<|mX K1 Y (IG _ (K1.o U) id (Dp l) aj) λw2 K2=>pA 6 Y<|aZ<|dF<|pC 4 Y<|iJ 3 24 ((decide (id<1))||(decide (1048576<id))) ?_ ?_
 ·cases WM:decide (id<1) with
  | true=>
   refine pq 3 Y<|dK Y
  | false=>
   refine pq 3 Y<|dK Y
 refine fE Y<|bS Y (λhc18=>?_) (λhc18=>?_)
 ·try simp only [aA] at hc18
  refine rg<|oJ Y<|fE Y<|YC Y ?_
  have H1:=K2.nil bD 48;have gy:YG=((dO l id sum).1):=by unfold dO; rw [aS hc18]
  have H2:=(gy▸H1:Hp w S0 w2 (aR bD 48 none 0 ((dO l id sum).1)::[aR bD 48 jT jU (dV l)]));have gH:(1:Int)=((dO l id sum).2):=by unfold dO; rw [aS hc18]
  exact⟨none,0,by rw [<- gy,<- gH] <;> rfl,(H2.rm s1)⟩
 try simp only [aA] at hc18
 refine gD Y<|fE Y<|bS Y (λhc25=>?_) (λhc25=>?_)
 ·refine rg<|oJ Y<|fE Y<|YC Y ?_
  have H3:=K2.nil bD 48;have kN:YG=((dO l id sum).1):=by unfold dO; rw [aQ aj,aS hc25]
  have H4:=(kN▸H3:Hp w S0 w2 (aR bD 48 none 0 ((dO l id sum).1)::[aR bD 48 jT jU (dV l)]));have nM:(6:Int)=((dO l id sum).2):=by unfold dO; rw [aQ aj,aS hc25]
  exact⟨none,0,by rw [<- kN,<- nM] <;> rfl,(H4.rm s1)⟩
 refine gD Y<|ev (jf lT Y)<|ev (Ev.geq Y Y)<|fE Y<|o8 Y (λhc27=>?_) (λhc27=>?_)
 ·refine rg<|oJ Y<|fE Y<|YC Y ?_
  have H5:=K2.nil bD 48;have uO:YG=((dO l id sum).1):=by unfold dO; rw [aQ aj,aQ (by rw [hc25]; decide),aS aj]
  have H6:=(uO▸H5:Hp w S0 w2 (aR bD 48 none 0 ((dO l id sum).1)::[aR bD 48 jT jU (dV l)]));have zC:(7:Int)=((dO l id sum).2):=by unfold dO; rw [aQ aj,aQ (by rw [hc25]; decide),aS aj]
  exact⟨none,0,by rw [<- uO,<- zC] <;> rfl,(H6.rm s1)⟩
 refine Gw ?_;refine pC 5 Y<|ev (iT Y (by apply YE))<|yV (τ:=bD) (x:=(⟨id,1,sum,[]⟩:aH)) rfl (by intro _; apply adf) rfl K2 (λ_ e=>⟨_,_,rfl,(O8 dN _ _).ext e⟩) λg1 w3 K3=>gu rfl (YK (i:=low (fun(y:aH)=>bL y.ID id) (dV l)) K3 s1 U aj aj) ?_
 rintro _ w4 ⟨sQ,sS,rfl,K4⟩;refine pA 3 Y<|iU Y ?_
 have BO:(((dV l).take (low (fun(y:aH)=>bL y.ID id) (dV l))++[(⟨id,1,sum,[]⟩:aH)]++(dV l).drop (low (fun(y:aH)=>bL y.ID id) (dV l))):V aH)=((dO l id sum).1):=by unfold dO; rw [aQ aj,aQ (by rw [hc25]; decide),aQ aj]
 rw [BO] at K4;exact⟨sQ,sS,by unfold dO; rw [BO,aQ aj,aQ (by rw [hc25]; decide),aQ aj] <;> rfl,K4⟩
def aom(w:World){l:V aH}(jq:Sl bD S0 w jL jK l)(id:Int)(hn:l.length<=100000)(hh:∀ x∈l,x.aD.length<=100000):bM prog 295 #[.slice jL l.length jK,O id] w λv w'=>∃ A0 c0,v=.tuple #[.slice A0 (((iN l id).1).length) c0,O ((iN l id).2)]/\Hp w S0 w' [aR bD 48 A0 c0 ((iN l id).1)]:=by
 refine lg S0 func295 ntmps295 Y λH0=>?_;have Iz:=jq.bI;have hf:=EJ l;have hlow:=G8 (fun(y:aH)=>bL y.ID id) (dV l);refine pC 6 Y<|gu Y (Xa _ (H0.a jq) aj hh) ?_
 rintro _ w1 ⟨jT,jU,rfl,h1⟩;have K1:=H0.c1 h1;have La:=(K1.o U).bI;refine pB 5 Y<|mX K1 Y (IG _ (K1.o U) id (Dp l) aj) λw2 K2=>pA 6 Y<|aZ<|gD Y<|ev (wC Y)<|dn<|bS Y (λhc17=>?_) (λhc17=>?_)
 ·try simp only [aA] at hc17
  refine rg<|oJ Y<|fE Y<|Aw Y ?_
  have H1:=K2.nil bD 48;have gy:YG=((iN l id).1):=by unfold iN; rw [aQ (by rw [hc17]; decide)]
  have H2:=(gy▸H1:Hp w S0 w2 (aR bD 48 none 0 ((iN l id).1)::[aR bD 48 jT jU (dV l)]));have gH:(5:Int)=((iN l id).2):=by unfold iN; rw [aQ (by rw [hc17]; decide)]
  exact⟨none,0,by rw [<- gy,<- gH] <;> rfl,(H2.rm s1)⟩
 try simp only [aA] at hc17
 have hc17:hits (fun(y:aH)=>bL y.ID id) (dV l)=true:=hc17;obtain⟨xb,hxb,hkb⟩:=qc hc17;have adl:=aP hxb;refine jQ ?_;refine pC 4 Y<|ev (eG Y Y)<|gu Y (YF (j:=low (fun(y:aH)=>bL y.ID id) (dV l)+1) (K2.sel U) aj aj) ?_
 rintro _ w3 ⟨rfl,K3⟩;refine pA 3 Y<|iU Y ?_
 have kN:(((dV l).take (low (fun(y:aH)=>bL y.ID id) (dV l))++(dV l).drop (low (fun(y:aH)=>bL y.ID id) (dV l)+1)):V aH)=((iN l id).1):=by unfold iN; rw [aS hc17]
 rw [kN] at K3;have nM:(0:Int)=((iN l id).2):=by unfold iN; rw [aS hc17]
 exact⟨jT,jU,by rw [kN,<- nM] <;> rfl,K3⟩
def aGD(w:World){l:V aH}(jq:Sl bD S0 w jL jK l)(bF:Int)(hn:l.length<=100000)(hh:∀ x∈l,x.aD.length<=100000):bM prog 282 #[.slice jL l.length jK,O bF] w λv w'=>∃ A0 c0,v=.slice A0 ((ofL l bF).length) c0/\Hp w S0 w' [aR dN 3 A0 c0 (ofL l bF)]:=by
 refine lg S0 func282 ntmps282 Y λH0=>?_;have hf:=EJ l;have hq:=λk=>mW (fun(c:aH)=>c.aD.contains bF) ((dV l).take k)
 simp only [iX] at hq
 refine kX Y<|kX Y<|aZ<|gD Y<|gu Y (Xa _ (H0.a jq) aj hh) ?_
 rintro _ w1 ⟨jT,jU,rfl,h1⟩;have K1:=H0.c1 h1;have La:=(K1.o U).bI;refine pA 3 Y<|dF ?_
 have H1:=K1.nil dN 3;have gy:ajL=((((dV l).take 0).filter (fun(c:aH)=>c.aD.contains bF)).map aH.ID):=by rfl
 refine mP (t:=5) Y (aY (λz=>Value.slice none (List.length z) 0) gy) ?_;have H2:=H1.nil dN 3;have H3:=(gy▸H2:Hp w S0 w1 (aR dN 3 none 0 ((((dV l).take 0).filter (fun(c:aH)=>c.aD.contains bF)).map aH.ID)::[aR dN 3 none 0 [],aR bD 48 jT jU (dV l)]));refine Lp (H3.cU 0 2) (λl0 rk mJ lJ wJ=>∃ k A5 c5,lJ=(5,.slice A5 (((((dV l).take k).filter (fun(c:aH)=>c.aD.contains bF)).map aH.ID).length) c5)::(11,O ((k:Nat):Int))::l0/\mJ=(dV l).length - k/\k<=(dV l).length/\Hp w S0 wJ (aR dN 3 A5 c5 ((((dV l).take k).filter (fun(c:aH)=>c.aD.contains bF)).map aH.ID)::rk)) ⟨0,none,0,Y,Y,fI _,(H3.rm s1)⟩ Y ?_;rintro _ _ w2 ⟨k,A5,c5,rfl,rfl,hk,K2⟩;refine rg<|ev (iH Y Y)<|dn<|r9 Y (λoD=>?_) (λoD=>?_)
 ·refine jQ ?_;refine aZ<|dF<|rg ?_
  obtain⟨x1,bT⟩:=bH (xs:=dV l) (i:=k) aj;refine ev (d9 (i:=k) lT tH Y Y Y (aP bT) ((K2.o s1).some_ bT)) ?_;obtain⟨B1,d1,yG,hi1⟩:=CG (K2.oi s1 bT);have H4:=K2.push hi1;refine ev (iR p8 Y Y (Gu yG))<|al lX Y H4 λg1 w3 K3=>sty Y K3 U Y λw4 K4=>dn<|rg<|jP g1 3 kr K4 U Y<|mv Y<|mX K4 Y (kJ _ (K4.s s1).any bF) λw5 K5=>dn<|bS Y (λhc18=>?_) (λhc18=>?_)
  ·refine jN<|mv Y<|jP g1 0 pG K5 U Y<|yV Y (by intro _; apply pI) rfl K5 (λ_ _=>rfl) λg2 w6 K6=>ap K6 s3 rfl rfl (K6.o U) gq LB (by have:=hq k; simp only [jW]; omega) av rfl λsQ sS w7 K7=>oJ rfl<|jO<|iF (fV ?_)
   refine jN<|ev (eG Y Y)<|mv Y<|jO ?_
   have gH:((((((dV l).take k).filter (fun(c:aH)=>c.aD.contains bF)).map aH.ID)++([x1.ID]:V Int)):V Int)=((((dV l).take (k+1)).filter (fun(c:aH)=>c.aD.contains bF)).map aH.ID):=by rw [nL bT,hc18]; simp
   refine ji (t:=5) Y (aY (λz=>Value.slice sQ (List.length z) sS) gH) ?_;rw [gH] at K7;exact dX ⟨(k+1),sQ,sS,Y,Y,aj,(K7.cU 1 3)⟩ rfl aj
  refine Gw ?_;refine jN<|ev (eG Y Y)<|mv Y<|jO ?_
  have kN:(((((dV l).take k).filter (fun(c:aH)=>c.aD.contains bF)).map aH.ID):V Int)=((((dV l).take (k+1)).filter (fun(c:aH)=>c.aD.contains bF)).map aH.ID):=by rw [nL bT,hc18]; simp
  refine ji (t:=5) Y (aY (λz=>Value.slice A5 (List.length z) c5) kN) ?_;rw [kN] at K5;exact dX ⟨(k+1),A5,c5,Y,Y,aj,(K5.cU 0 2)⟩ rfl aj
 refine BU ?_;refine gD Y<|fE Y<|iU Y ?_
 have nM:(((((dV l).take k).filter (fun(c:aH)=>c.aD.contains bF)).map aH.ID):V Int)=(ofL l bF):=by rw [gY aj]; rfl
 rw [nM] at K2;exact⟨A5,c5,by rw [nM] <;> rfl,(K2.rm s1)⟩
end
end Go.Proofs.YthcmboepffiliaaGreat
