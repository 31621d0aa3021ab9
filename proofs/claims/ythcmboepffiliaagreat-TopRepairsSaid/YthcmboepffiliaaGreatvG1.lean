/- Lemmas. -/
import Derived.Laws.CopyRow
import Derived.Laws.IdiomCopy
import Derived.Lib.Overlaps
import Derived.Lib.AppendZerosOnto
import Derived.Test.YthcmboepffiliaaGreatvG0
set_option linter.all false
set_option maxRecDepth 4000
namespace Go.Proofs.YthcmboepffiliaaGreat
open Go.RowKit
def eX:=@List.mem_map
def Hg:=@List.drop_of_length_le
def MB:=@List.nil_append
def Ho:=@List.ext_getElem?
def rM:=@List.getElem?_map
def jW:=@List.length_map
def Yk:=@List.getElem?_append_left
def Uc:=@List.take_take
def Yl:=@Nat.min_eq_left
def uj:=@List.length_drop
def o9:=@List.append_assoc
def Ym:=@List.take_append_of_le_length
def ac2:=@Nat.mod_eq_of_lt
def ac3:=@Array.getElem?_eq_getElem
def Yn:=@List.getElem?_eq_none
def Ud:=@List.length_replicate
def xY:=@List.eq_nil_of_length_eq_zero
def iC:=@List.length_set
def u7:=@List.getElem?_set_self
def Jv:=@List.getElem?_set_ne
section
variable {k g lo d c lo0 i m bytes fuel:Nat}{css:List (List Value)}{S' S S2:Nat->Prop}{dT sT ty e t:TypeId}{cur cs ds:List Value}{A B:ah}{β α:Type}{w w':World}{x y s:Operand}{v:Value}{vs l l' l1:List (Nat × Value)}{op:Op}{aYa:Option Nat}{Q':Exit->Act->World->Prop}{aX9:Nat->List (Nat × Value)->World->Prop}{aW:Array Bool}{parts:List (Nat × Operand)}{pos:0<k}{τ:Ty α}{xs ys:List α}
abbrev Cells(k:Nat):={ u:List Value // u.length=k/\∀ v∈u,v.oneCell'=true }
def zZ(k:Nat)(pos:0<k):Ty (Cells k):=Ty.flat k (λu=>u.1) pos (by grind) av
def iO{k:Nat}(us:List (Cells k)):List Value:=(us.map (·.1)).flatten
theorem Am(us vs:V (Cells k)):iO (us++vs)=iO us++iO vs:=by simp [iO]
theorem jy:∀(us:V (Cells k)),(iO us).length=us.length*k
 | []=>by simp [iO]
 | u::us=>by
  have:=jy us
  simp only [iO,mg,VH,jH,oO] at this ⊢
  rw [this,u.2.1,BS]; omega
theorem Iu{us:V (Cells k)}:∀ v∈iO us,v.oneCell'=true:=by
 intro v hv
 simp only [iO,List.mem_flatten,eX] at hv
 obtain⟨_,⟨u,_,rfl⟩,h⟩:=hv;exact u.2.2 v h
theorem ET:∀(us:V (Cells k))(m:Nat),(iO us).take (m*k)=iO (us.take m)
 | [],m=>by simp [iO]
 | u::us,0=>by simp [iO]
 | u::us,m+1=>by
  have ih:=ET us m;have h0:=u.2.1;have e1:u.1.take ((m+1)*k)=u.1:=gY (by rw [h0,BS]; omega);have e2:(m+1)*k - k=m*k:=by rw [BS]; omega
  simp only [iO,mg,VH,List.take_succ_cons] at ih ⊢
  rw [List.take_append,e1,h0,e2,ih]
theorem Jw:∀(us:V (Cells k))(m:Nat),(iO us).drop (m*k)=iO (us.drop m)
 | [],m=>by simp [iO]
 | u::us,0=>by simp [iO]
 | u::us,m+1=>by
  have ih:=Jw us m;have h0:=u.2.1;have e1:u.1.drop ((m+1)*k)=[]:=Hg (by rw [h0,BS]; omega);have e2:(m+1)*k - k=m*k:=by rw [BS]; omega
  simp only [iO,mg,VH,List.drop_succ_cons] at ih ⊢
  rw [List.drop_append,e1,h0,e2,ih,MB]
section
variable {α:Type}{τ:Ty α}{e:TypeId}{lo:Nat}{S S2:Nat->Prop}{w w':World}{A B:ah}{c:Nat}{xs ys:List α}{us vs:List (Cells τ.k)}
theorem Gt{us:V (Cells k)}:Own (zZ k pos) e lo S w A c us↔w.ownsRow lo e k (.slice A us.length c) us.length (iO us):=by
 constructor
 ·rintro⟨css,hl,hR,hown⟩
  have:css=us.map (·.1):=by
   apply Ho;intro i;rw [rM]
   cases hu:us[i]? with
   | none=>grind
   | some u=>
    obtain⟨cs,h1,h2⟩:=hR i u hu;have h2:cs=u.1:=h2
    grind
  subst this;exact hown
 ·intro h
  refine⟨us.map (·.1),av,λi u hu=>⟨u.1,by grind,rfl⟩,?_⟩;exact h
theorem QU:∀(css:V (V Value)),(∀ cs∈css,cs.length=k/\∀ v∈cs,v.oneCell'=true)->∃ us:V (Cells k),us.map (·.1)=css
 | [],_=>⟨[],rfl⟩
 | cs::css,h=>by
  obtain⟨us,hu⟩:=QU css (by grind);exact⟨⟨cs,by grind⟩::us,by simp [hu]⟩
def Rel(τ:Ty α)(S:Nat->Prop)(w:World)(xs:List α)(us:List (Cells τ.k)):Prop:=us.length=xs.length/\∀(i:Nat)(x:α)(u:Cells τ.k),xs[i]? = some x->us[i]? = some u->τ.R S w x u.1
theorem aBW(hl:css.length=xs.length)(hR:∀(i:Nat)(x:α),xs[i]? = some x->∃ cs,css[i]? = some cs/\τ.R S w x cs):∃ us:V (Cells τ.k),us.map (·.1)=css/\Rel τ S w xs us:=by
 have hk:∀ cs∈css,cs.length=τ.k/\∀ v∈cs,v.oneCell'=true:=by
  intro cs hcs;obtain⟨i,hi,rfl⟩:=afU hcs;obtain⟨cs',h3,h4⟩:=hR i (xs[i]'aj) (Ip _);rw [Ip hi] at h3
  cases h3
  exact⟨τ.len h4,τ.one h4⟩
 obtain⟨us,hus⟩:=QU css hk;refine⟨us,hus,by rw [<- hl,<- hus,jW],?_⟩
 grind
theorem Own.raw(h:Own τ e lo S w A c xs):∃ us:V (Cells τ.k),Own (zZ τ.k τ.pos) e lo No w A c us/\Rel τ S w xs us:=by
 obtain⟨css,hl,hR,hown⟩:=h;obtain⟨us,h1,h2⟩:=aBW hl hR
 grind [iO,Gt]
theorem Own.ofRaw(h:Own (zZ τ.k τ.pos) e lo S' w A c us)(hr:Rel τ S w xs us):Own τ e lo S w A c xs:=by
 have h1:=Gt.1 h;rw [hr.1] at h1;refine⟨us.map (·.1),by simp [hr.1],λi x hx=>?_,by exact h1⟩;obtain⟨u,hu⟩:=bH (i:=i) (by rw [hr.1]; grind);exact⟨u.1,by grind,hr.2 i x u hx hu⟩
theorem Rel.append(h:Rel τ S w xs us)(h':Rel τ S w ys vs):Rel τ S w (xs++ys) (us++vs):=by
 refine⟨by simp [h.1,h'.1],λi x u hx hu=>?_⟩
 by_cases hi:i<xs.length
 ·rw [Yk hi] at hx
  rw [Yk (by rw [h.1]; exact hi)] at hu;exact h.2 i x u hx hu
 ·rw [aby aj] at hx
  rw [aby (by rw [h.1]; omega),h.1] at hu;exact h'.2 _ x u hx hu
theorem Rel.take(h:Rel τ S w xs us)(m:Nat):Rel τ S w (xs.take m) (us.take m):=by
 refine⟨by simp [h.1],λi x u hx hu=>?_⟩;rw [X9] at hx hu
 split at hx
 ·rename_i hi; rw [aS hi] at hu; exact h.2 i x u hx hu
 grind
theorem Rel.drop(h:Rel τ S w xs us)(m:Nat):Rel τ S w (xs.drop m) (us.drop m):=by
 refine⟨by simp [h.1],λi x u hx hu=>?_⟩;rw [G5] at hx hu;exact h.2 _ x u hx hu
theorem Rel.sub(h:Rel τ S w xs us)(hs:∀ b,S b->S' b):Rel τ S' w xs us:=⟨h.1,λi x u hx hu=>τ.sub hs (h.2 i x u hx hu)⟩
theorem Rel.grown(h:Rel τ S w xs us)(hg:O7 w w' (blk A))(hS:∀ g,blk A=some g->¬ S g):Rel τ S w' xs us:=by
 refine⟨h.1,λi y u hx hu=>?_⟩;have:=h.2 i y u hx hu
 cases hA:blk A with
 | none=>rw [hA] at hg; exact τ.ext (by grind [Ext.yB]) this
 | some g=>rw [hA] at hg; exact τ.mod (by grind [Mod.yB]) (hS g hA) this
end
section
variable {P:Program}{w:World}
theorem Ue{elem:TypeId}{o dl dc:Nat}{a:Addr}{sl sc:Nat}(hu:P.underlying dT=some (.slice elem))(hs:Size P elem k)(hg:Bx w g e cur)(hn:cs.length=Nat.min sl dl*k)
  (hsrc:∀ j v,cs[j]? = some v->w.cell? (a.add j)=some v) (hfit:o+cs.length<=cur.length) (h1:∀ v∈cs,v.oneCell'=true) :
  (Builtin.copy_ #[dT,sT] ty #[.slice (some ⟨g,o,none⟩) dl dc,.slice (some a) sl sc]).run P w=.ok (goInt (Nat.min sl dl)) (w.setRow g (cur.take o++cs++cur.drop (o+cs.length)).toArray):=by
 have hl:=alD (P:=P) w a cs hsrc;have hst:=abA P g o e cs 0 cur.toArray w hg (by simpa using hfit) h1
 simp only [Nat.add_zero] at hst
 simp [Builtin.copy_,jV hu,Builtin.lenOf,Builtin.firstCells,hs w,<- hn,hl,hst]
theorem anX{elem:TypeId}{dl dc sl sc:Nat}(hu:P.underlying dT=some (.slice elem))(hs:Size P elem k)(hn:Nat.min sl dl=0):(Builtin.copy_ #[dT,sT] ty #[.slice A dl dc,.slice B sl sc]).run P w=.ok (goInt 0) w:=by
 cases A <;> cases B <;> simp [Builtin.copy_,jV hu,Builtin.lenOf,Builtin.firstCells,hs w,hn,loadCells,loadCellsFrom,storeCells]
theorem um(w:World)(g:Nat)(cs:Array Value):O7 w (w.setRow g cs) (some g):=
 ⟨rfl,rfl,rfl,av,by grind [setRow_other],j4 _⟩
end
def over{k:Nat}(us:List (Cells k))(lo:Nat)(vs:List (Cells k)):List (Cells k):=us.take lo++vs.take (us.length - lo)++us.drop (lo+vs.length)
theorem MC{us vs:V (Cells k)}(h:lo<=us.length):(over us lo vs).length=us.length:=by
 grind [over]
theorem aMD(a b:Nat):Nat.min a b=if a<=b then a else b:=Nat.min_def
theorem MF{L cs:V β}{p N:Nat}(h1:p+cs.length<=N)(h2:N<=L.length):(L.take p++cs++L.drop (p+cs.length)).take N=L.take p++cs++(L.take N).drop (p+cs.length):=by
 have hp:(L.take p).length=p:=by grind
 grind [List.take_of_length_le,List.take_append,List.drop_take,List.length_append]
theorem Ao{L cs:V β}{p:Nat}(h1:p+cs.length<=L.length):(L.take p++cs++L.drop (p+cs.length)).length=L.length:=by
 grind
theorem Sl.Uf{vs:V (Cells k)}(h:Sl (zZ k pos) S w B d vs):∀ j v,(iO vs)[j]? = some v->w.cell? ((Gh B).add j)=some v:=by
 obtain⟨css,hl,hR,_,_,hc⟩:=h.cells
 have:css=vs.map (·.1):=by
  apply Ho;intro i;rw [rM]
  cases hu:vs[i]? with
  | none=>grind
  | some u=>
   obtain⟨cs,h1,h2⟩:=hR i u hu;have h2:cs=u.1:=h2
   grind
 subst this;exact hc
theorem Own.open_{us:V (Cells k)}(h:Own (zZ k pos) e lo S w A c us)(hc:0<c):∃ g cur,A=some ⟨g,0,none⟩/\lo<=g/\Bx w g e cur/\us.length<=c/\c<=maxLen/\cur.length=c*k/\cur.take (us.length*k)=iO us:=by
 have h1:=Gt.1 h
 rcases h1.2 with ⟨hv,hn⟩ | ⟨g,cap,cur,hv,hg,hh,hnc,hcm,hcs,ht⟩
 ·grind
 ·injection hv with hA hn' hc'
  subst hA hc';exact⟨g,cur.toList,Y,hg,hh,hnc,hcm,by simpa using hcs,ht⟩
theorem Own.aGc{us:V (Cells k)}(hg:lo<=g)(hb:Bx w g e cur)(hnc:us.length<=c)(hcm:c<=maxLen)(hcs:cur.length=c*k)(ht:cur.take (us.length*k)=iO us):Own (zZ k pos) e lo S w (some ⟨g,0,none⟩) c us:=
 Gt.2 ⟨jy us,.inr ⟨g,c,cur.toArray,rfl,hg,hb,hnc,hcm,by simpa using hcs,by simpa using ht⟩⟩
def Ug:=@Own.aGc
theorem EI(h:c≠lo):vK (some ⟨g,0,none⟩) c lo k=some ⟨g,lo*k,none⟩:=by
 simp_all [vK,aQ,Px]
section
variable {P:Program}{n:Cx}{l:List (Nat × Value)}{w:World}{Q:Exit->Act->World->Prop}{K:Act->World->Prop}{M:Array Oper}{os:List Oper}{ty:TypeId}{pos:String}{lN:Array Edge}{d:Nat}
theorem af3{kp:0<k}{d2:Nat}{us vs:V (Cells k)}(hu:P.underlying dT=some (.slice e))(hs:Size P e k)
  (ho:Own (zZ k kp) e lo0 S w A c us) (hv:Sl (zZ k kp) S2 w B d2 vs) (hlo:lo<=us.length) :
  ∃ w',(Builtin.copy_ #[dT,sT] ty #[.slice (vK A c lo k) (us.length - lo) (c - lo),.slice B vs.length d2]).run P w=.ok (goInt (Nat.min vs.length (us.length - lo))) w'/\Own (zZ k kp) e lo0 S w' A c (over us lo vs)/\O7 w w' (blk A)/\w'.heap.size=w.heap.size:=by
 by_cases h0:Nat.min vs.length (us.length - lo)=0
 ·refine⟨w,by grind [anX],?_,⟨rfl,rfl,rfl,j4 _,av,j4 _⟩,rfl⟩
  have:over us lo vs=us:=by
   unfold over
   by_cases h1:vs.length=0
   ·simp_all
   ·have h2:lo=us.length:=by grind
    simp [*]
  grind
 ·have hm:0<us.length - lo/\0<vs.length:=by grind
  have hc:us.length<=c:=(ho.sl (S':=Any) (λ_ _=>trivial) (λ_ _=>trivial)).cap;obtain⟨g,cur,rfl,hg,hb,hnc,hcm,hcl,ht⟩:=ho.open_ aj;have hB:B=some (Gh B):=hv.some_ (x:=vs[0]'aj) (Ip _);have hmin:Nat.min vs.length (us.length - lo)=(vs.take (us.length - lo)).length:=by grind
  have ajD:(iO (vs.take (us.length - lo))).length=Nat.min vs.length (us.length - lo)*k:=by grind [jy]
  have hle:(lo+Nat.min vs.length (us.length - lo))<=us.length:=by grind
  have aME:lo*k+(iO (vs.take (us.length - lo))).length<=us.length*k:=by rw [ajD,<- BS]; exact Ak _ hle
  have hnk:us.length*k<=cur.length:=by rw [hcl]; exact Ak _ hnc
  rw [EI aj,hB];refine⟨_,Ue hu hs hb ajD (λj v hj=>hv.Uf j v ?_) aj Iu,?_,um w g _,av⟩
  ·rw [<- ET,X9] at hj
   grind
  ·refine Ug hg (VK w g _ _ e _ hb) (by grind [MC]) hcm (by grind) ?_
   rw [MC hlo,MF aME hnk,ht]
   have e1:cur.take (lo*k)=iO (us.take lo):=by
    rw [<- ET,<- ht,Uc,Yl (Ak _ hlo)]
   have e2:(iO us).drop (lo*k+(iO (vs.take (us.length - lo))).length)=iO (us.drop (lo+vs.length)):=by
    rw [ajD,<- BS,Jw]
    by_cases h3:vs.length<=us.length - lo
    ·grind
    ·grind [List.drop_of_length_le]
   grind [over,Am]
theorem WL.alI{kp:0<k}{d2:Nat}{us vs:V (Cells k)}(hx:fM l x=some (.slice (vK A c lo k) (us.length - lo) (c - lo)))(hy:fM l y=some (.slice B vs.length d2))
  (hu:P.underlying dT=some (.slice e)) (hs:Size P e k) (ho:Own (zZ k kp) e lo0 S w A c us) (hv:Sl (zZ k kp) S2 w B d2 vs) (hlo:lo<=us.length) (hd:Nat.blt d n.size=true)
  (kk:∀ w' v,Own (zZ k kp) e lo0 S w' A c (over us lo vs)->O7 w w' (blk A)->w'.heap.size=w.heap.size->WL P n M Q K os ((d,v)::l) w'):WL P n M Q K (⟨some d,.call ⟨.builtin .copy,#[x,y],#[dT,sT]⟩,ty,pos,lN,none⟩::os) l w:=by
 obtain⟨w',hrun,h1,h2,h3⟩:=af3 (sT:=sT) (ty:=ty) hu hs ho hv hlo;refine yD (v:=goInt (Nat.min vs.length (us.length - lo))) (by simp [eY]) rfl hd (λa ha=>⟨w',?_,rfl⟩) (by grind);unfold execOp
 simp only [resolve,jh,kZ,jv,invoke,builtin,vI,mg,wB,ha.eval hx,ha.eval hy,hrun]
def Gap{k:Nat}(e:TypeId)(lo0:Nat)(w:World)(A:ah)(c:Nat)(us:List (Cells k))(i m:Nat):Prop:=
  ∃ g cur,A=some ⟨g,0,none⟩/\lo0<=g/\Bx w g e cur/\us.length+m<=c/\c<=maxLen/\cur.length=c*k/\cur.take (i*k)=iO (us.take i)/\(cur.drop ((i+m)*k)).take ((us.length - i)*k)=iO (us.drop i)
theorem WL.anY{kp:0<k}{us:V (Cells k)}
  (hx:fM l x=some (.slice (vK A c (i+m) k) (us.length+m - (i+m)) (c - (i+m)))) (hy:fM l y=some (.slice (vK A c i k) (us.length+m - i) (c - i)))
  (hu:P.underlying dT=some (.slice e)) (hs:Size P e k) (ho:Own (zZ k kp) e lo0 S w A c us) (hi:i<us.length) (hm:us.length+m<=c) (hd:Nat.blt d n.size=true)
  (kk:∀ w' v,Gap e lo0 w' A c us i m->O7 w w' (blk A)->w'.heap.size=w.heap.size->WL P n M Q K os ((d,v)::l) w'):WL P n M Q K (⟨some d,.call ⟨.builtin .copy,#[x,y],#[dT,sT]⟩,ty,pos,lN,none⟩::os) l w:=by
 obtain⟨g,cur,rfl,hg,hb,hnc,hcm,hcl,ht⟩:=ho.open_ aj
 have ajD:(iO (us.drop i)).length=Nat.min (us.length+m - i) (us.length+m - (i+m))*k:=by
  rw [jy,uj,show Nat.min (us.length+m - i) (us.length+m - (i+m))=us.length - i from by rw [aMD]; split <;> omega]
 have hik:i*k<=us.length*k:=Ak _ aj
 have hsrc:∀ j v,(iO (us.drop i))[j]? = some v->w.cell? ((⟨g,i*k,none⟩:Addr).add j)=some v:=by
  intro j v hj;rw [Px,hb.cell];rw [<- Jw,G5,<- ht,X9] at hj
  split at hj
  ·exact hj
  ·cases hj
 have hfit:(i+m)*k+(iO (us.drop i)).length<=cur.length:=by
  rw [jy,uj,<- BS,hcl]; exact Ak _ aj
 have hrun:=Ue (sT:=sT) (ty:=ty) (dc:=c - (i+m)) (sc:=c - i) hu hs hb ajD hsrc hfit Iu;rw [EI aj] at hx hy
 refine yD (v:=goInt (Nat.min (us.length+m - i) (us.length+m - (i+m)))) (λa _=>eY a) Y hd (R:=λw2=>w2=_) (λa ha=>⟨_,?_,Y⟩) λw2 e=>by
  rw [e];refine kk _ _ ⟨g,_,Y,hg,VK w g _ _ _ _ hb,hm,hcm,by rw [Ao hfit]; exact hcl,?_,?_⟩ (um w g _) (by simp [World.setRow])
  ·have h1:i*k<=(i+m)*k:=Ak _ aj
   have h2:(cur.take ((i+m)*k)).length=(i+m)*k:=by simp only [iX]; omega
   rw [o9,Ym aj,Uc,Yl h1,<- ET,<- ht,Uc,Yl hik]
  ·have h2:(cur.take ((i+m)*k)).length=(i+m)*k:=by simp only [iX]; omega
   rw [o9,List.drop_append_of_le_length aj,Hg aj,MB];rw [Ym (by rw [jy,uj]; exact j4 _),gY (by rw [jy,uj]; exact j4 _)]
 unfold execOp
 simp only [resolve,jh,kZ,jv,invoke,builtin,vI,mg,wB,ha.eval hx,ha.eval hy,hrun]
theorem WL.axh{kp:0<k}{d2:Nat}{us vs:V (Cells k)}
  (hx:fM l x=some (.slice (vK A c i k) (us.length+m - i) (c - i))) (hy:fM l y=some (.slice B vs.length d2))
  (hu:P.underlying dT=some (.slice e)) (hs:Size P e k) (ho:Gap e lo0 w A c us i m) (hv:Sl (zZ k kp) S2 w B d2 vs) (hm:vs.length=m) (h0:0<m) (hi:i<us.length) (hd:Nat.blt d n.size=true)
  (kk:∀ w' v,Own (zZ k kp) e lo0 S w' A c (us.take i++vs++us.drop i)->O7 w w' (blk A)->w'.heap.size=w.heap.size->WL P n M Q K os ((d,v)::l) w'):WL P n M Q K (⟨some d,.call ⟨.builtin .copy,#[x,y],#[dT,sT]⟩,ty,pos,lN,none⟩::os) l w:=by
 obtain⟨g,cur,rfl,hg,hb,hnc,hcm,hcl,h1,h2⟩:=ho;have hB:B=some (Gh B):=hv.some_ (i:=0) (x:=vs[0]'aj) (Ip _);have hmin:Nat.min vs.length (us.length+m - i)=m:=by grind
 have ajD:(iO vs).length=Nat.min vs.length (us.length+m - i)*k:=by grind [jy]
 have hfit:i*k+(iO vs).length<=cur.length:=by rw [jy,<- BS,hcl]; exact Ak _ aj
 have hrun:=Ue (P:=P) (sT:=sT) (ty:=ty) (dc:=c - i) (sc:=d2) hu hs hb ajD hv.Uf hfit Iu;rw [EI aj] at hx;rw [hB] at hy;have hlen:(us.take i++vs++us.drop i).length=us.length+m:=by grind
 refine yD (v:=goInt (Nat.min vs.length (us.length+m - i))) (by simp [eY]) rfl hd (R:=λw2=>w2=_) (λa ha=>⟨_,?_,rfl⟩) λw2 e=>by
  rw [e];refine kk _ _ (Ug hg (VK w g _ _ _ _ hb) aj hcm (by rw [Ao hfit]; exact hcl) ?_) (um w g _) av
  grind [MF,jy,Nat.add_mul,Nat.mul_le_mul_right,Am,List.drop_take,Nat.sub_mul]
 unfold execOp
 simp only [resolve,jh,kZ,jv,invoke,builtin,vI,mg,wB,ha.eval hx,ha.eval hy,hrun]
end
structure wT (P:Program) (e:TypeId) (k bytes:Nat):Prop where
  ex:∃(i:TypeInfo)(z:Value),P.info? e=some i/\i.zero=some z/\i.size=k/\i.bytes=bytes/\z.cells.size=k/\∀ v∈z.cells.toList,v.oneCell'=true
theorem abE(u:Cells k):∀(m j:Nat),j<m*k->(iO (List.replicate m u))[j]? = u.1[j % k]?
 | 0,j,h=>by omega
 | m+1,j,h=>by
  have h0:=u.2.1;have e:iO (List.replicate (m+1) u)=u.1++iO (List.replicate m u):=by simp [iO,List.replicate_succ]
  rw [e]
  by_cases hj:j<k
  ·rw [Yk aj,ac2 hj]
  ·have h3:j - k<m*k:=by rw [BS] at h; omega
   have h4:j % k=(j - k) % k:=Nat.mod_eq_sub_mod aj;rw [aby aj,h0,abE u m (j - k) h3,h4]
theorem MG(z:Array Value)(u:Cells k)(hu:z.toList=u.1)(m:Nat)(kp:0<k):(Builtin.zeroCells z m).toList=iO (List.replicate m u):=by
 have hz:z.size=k:=by grind
 apply Ho;intro j
 by_cases hj:j<m*k
 ·rw [abE u m j hj]
  grind [Builtin.zeroCells,Nat.mod_lt,Array.getElem?_eq_getElem,Array.toList_map]
 grind [iO,List.replicate,Builtin.zeroCells,List.getElem?_eq_none,jy,List.length_replicate,Array.length_toList,Array.size_map,Array.size_range]
section
variable {P:Program}{n:Cx}{l:List (Nat × Value)}{w:World}{Q:Exit->Act->World->Prop}{K:Act->World->Prop}{M:Array Oper}{os:List Oper}{ty:TypeId}{pos:String}{lN:Array Edge}{d:Nat}
theorem WL.ajE{kp:0<k}{ti:TypeId}{us:V (Cells k)}(hs:fM l s=some (.slice A us.length c))(hx:fM l x=some (O (m:Int)))(hT:P.underlying t=some (.slice e))(hi:P.underlying ti=some (.int .i64))
  (hz:wT P e k bytes) (hu:Sl (zZ k kp) S w A c us) (hc:c<us.length+m) (h0:0<m) (h1:us.length<=1000000) (h2:m<=1000000) (hby:Nat.ble bytes 1000=true) (hd:Nat.blt d n.size=true)
  (kk:∀ g c' w' (z:Cells k),Own (zZ k kp) e w.heap.size No w' (some ⟨g,0,none⟩) c' (us++List.replicate m z)->Ext w w'->WL P n M Q K os ((d,.slice (some ⟨g,0,none⟩) (us.length+m) c')::l) w') :
  WL P n M Q K (⟨some d,.call ⟨.builtin .append,#[s,x],#[t,ti]⟩,ty,pos,lN,none⟩::os) l w:=by
 obtain⟨i,z,z1,z2,z3,z4,z5,z6⟩:=hz.ex
 have hb:bytes<=1000:=nU hby
 have hmul:(us.length+m)*bytes<=2000000*1000:=LX aj hb;have aQM:m*bytes<=1000000*1000:=LX h2 hb
 have dY:(Builtin.firstCells i.size us.length (.slice A us.length c)).run P w.drew=.ok (iO us).toArray w.drew:=by
  rw [z3]
  by_cases hn:us.length=0
  ·have:us=[]:=xY hn
   subst this
   cases A <;> simp [Builtin.firstCells,loadCells,loadCellsFrom,iO]
  ·have hA:A=some (Gh A):=hu.some_ (x:=us[0]'aj) (Ip _)
   rw [hA];exact run_firstCells_some w.drew k us.length (Gh A) _ _ (iO us) (jy us) (λj v hj=>hu.Uf j v hj)
 obtain⟨W2,hW2,hrun⟩:∃ W2,W2=w.drew.alloc (.cells ((iO us).toArray++Builtin.zeroCells z.cells m++Builtin.zeroCells z.cells (grownCap w (us.length+m) c e - (us.length+m))) e)/\(Builtin.append_ #[t,ti] ty #[.slice A us.length c,O (m:Int)]).run P w=.ok (.slice (some ⟨w.heap.size,0,none⟩) (us.length+m) (grownCap w (us.length+m) c e)) W2:=⟨_,rfl,Lib.run_append_grow_zeros (P:=P) w t ti ty e i z .i64 .i64 hT hi z1 z2 A us.length c (iO us) dY m h0 aj hc aj (by grind) (growslice_fits hc (by grind))⟩
 refine yD (v:=.slice (some ⟨w.heap.size,0,none⟩) (us.length+m) (grownCap w (us.length+m) c e)) (λa _=>eY a) Y hd (R:=λw2=>w2=W2) (λa ha=>⟨W2,?_,Y⟩) λw2 e'=>by
  rw [e',hW2];have hzc:z.cells.toList.length=k:=aj;refine kk _ _ _ ⟨z.cells.toList,hzc,z6⟩ ?_ ⟨Y,Y,Y,av,λk hk=>Below.heap_alloc w.drew _ k hk,acU _⟩;have hf:=λm=>MG (k:=k) z.cells ⟨z.cells.toList,hzc,z6⟩ rfl m kp;have hge:=grownCap_ge w (us.length+m) c e;have hle:=grownCap_le_maxLen w (us.length+m) c e (by simp only [maxLen]; omega);refine Ug (cur:=iO us++iO (List.replicate m ⟨z.cells.toList,hzc,z6⟩)++iO (List.replicate (grownCap w (us.length+m) c e - (us.length+m)) ⟨z.cells.toList,hzc,z6⟩)) (j4 _) ?_ ?_ ?_ ?_ ?_
  ·rw [<- hf,<- hf]
   have ea:(iO us).toArray++Builtin.zeroCells z.cells m++Builtin.zeroCells z.cells (grownCap w (us.length+m) c e - (us.length+m))=(iO us++(Builtin.zeroCells z.cells m).toList++(Builtin.zeroCells z.cells (grownCap w (us.length+m) c e - (us.length+m))).toList).toArray:=by simp
   rw [ea];exact Bx.new w.drew e _
  ·grind
  ·exact hle
  ·simp only [jH,jy,Ud,<- BS]; grind
  ·rw [Ym (by simp only [jH,jy,Ud,<- BS]; exact j4 _),gY (by simp only [jH,jy,Ud,<- BS]; exact j4 _),Am]
 unfold execOp
 simp only [resolve,jh,kZ,jv,invoke,builtin,vI,mg,wB,ha.eval hs,ha.eval hx,hrun]
end
def overlay(cs:List Value)(f:Nat)(ds:List Value):List Value:=cs.take f++ds++cs.drop (f+ds.length)
section
variable {P:Program}{n:Cx}{l:List (Nat × Value)}{w:World}{Q:Exit->Act->World->Prop}{K:Act->World->Prop}{M:Array Oper}{os:List Oper}{ty:TypeId}{pos:String}{lN:Array Edge}{d:Nat}
theorem Own.whole(h:Own τ e lo S w A c xs)(hc:0<xs.length):∃ g cur us,A=some ⟨g,0,none⟩/\lo<=g/\Bx w g e cur/\xs.length<=c/\c<=maxLen/\cur.length=c*τ.k/\cur.take (xs.length*τ.k)=iO us/\Rel τ S w xs us:=by
 obtain⟨us,h1,h2⟩:=h.raw;have hcap:=(h1.sl (S':=Any) (λ_ _=>trivial) (λ_ _=>trivial)).cap;obtain⟨g,cur,h3,h4,h5,h6,h7,h8,h9⟩:=h1.open_ (by rw [h2.1] at hcap; omega);rw [h2.1] at h6 h9
 grind
theorem anZ(us:V (Cells k))(i f:Nat)(u v:Cells k)(ds:V Value)(hu:us[i]? = some u)(hv:v.1=overlay u.1 f ds)(hf:f+ds.length<=k):(iO us).take (i*k+f)++ds++(iO us).drop (i*k+f+ds.length)=iO (us.set i v):=by
 have hi:i<us.length:=aP hu;have hsplit:us=us.take i++u::us.drop (i+1):=by grind [List.getElem?_eq_some_iff,List.getElem_cons_drop,List.take_append_drop]
 have hset:us.set i v=us.take i++v::us.drop (i+1):=by grind
 have h0:=u.2.1;have hl:(iO (us.take i)).length=i*k:=by grind [jy]
 have e:iO us=iO (us.take i)++(u.1++iO (us.drop (i+1))):=by grind [iO]
 rw [hset,Am,e];have a1:(iO (us.take i)).take (i*k+f)=iO (us.take i):=gY aj;have a2:(iO (us.take i)).drop (i*k+f+ds.length)=[]:=Hg aj;rw [List.take_append,List.drop_append,hl,a1,a2,MB];rw [show i*k+f - i*k=f from by omega,show i*k+f+ds.length - i*k=f+ds.length from by omega];rw [Ym aj,List.drop_append_of_le_length aj]
 grind [iO,overlay]
theorem aa4{f:Nat}{x x':α}(ho:Own τ e lo S w A c xs)(hx:xs[i]? = some x)(hv:v.cells=ds.toArray)(hs:Size P t ds.length)
  (hf:f+ds.length<=τ.k) (h1:∀ u∈ds,u.oneCell'=true) (hS:∀ g,blk A=some g->¬ S g) (hR:∀ w' cs,O7 w w' (blk A)->τ.R S w x cs->τ.R S w' x' (overlay cs f ds)) :
  ∃ w',(Instr.storeAt t (.pointer (some ((Gh A).add (i*τ.k+f)))) v).run P w=.ok () w'/\Own τ e lo S w' A c (xs.set i x')/\O7 w w' (blk A)/\w'.heap.size=w.heap.size:=by
 have hi:=aP hx;obtain⟨g,cur,us,rfl,hg,hb,hnc,hcm,hcl,ht,hrel⟩:=ho.whole aj;have hik:i*τ.k+τ.k<=xs.length*τ.k:=by rw [<- Nat.succ_mul]; exact Ak _ hi
 have hnk:xs.length*τ.k<=cur.length:=by rw [hcl]; exact Ak _ hnc
 have had:(Gh (some ⟨g,0,none⟩)).add (i*τ.k+f)=⟨g,i*τ.k+f,none⟩:=by simp [Gh,Px]
 have hst:=abA P g (i*τ.k+f) e ds 0 cur.toArray w hb (by simpa using by omega) h1;have hgr:=um w g (cur.take (i*τ.k+f)++ds++cur.drop (i*τ.k+f+ds.length)).toArray;obtain⟨u,hu⟩:=bH (by rw [hrel.1]; exact hi);have hRu:=hR _ _ hgr (hrel.2 i x u hx hu);refine⟨_,?_,?_,hgr,by simp [World.setRow]⟩
 ·rw [had]
  simp only [Instr.storeAt,Instr.sureAddr,storeVar,hv,jh,kZ,jv,hs w]
  simp only [X8,ne_eq,not_true_eq_false,if_false,jh,kZ,jv]
  rw [hst]
  simp
 ·let v':Cells τ.k:=⟨overlay u.1 f ds,τ.len hRu,τ.one hRu⟩
  have hlen:(us.set i v').length=xs.length:=by rw [iC,hrel.1]
  refine Own.ofRaw (S':=No) (Ug hg (VK w g _ _ e _ hb) (by rw [hlen]; exact hnc) hcm (by rw [Ao aj]; exact hcl) ?_) ⟨by rw [hlen,iC],?_⟩
  ·rw [hlen,MF aj hnk,ht,<- anZ us i f u v' ds hu rfl hf]
   congr 2
   rw [<- ht,Uc,Yl aj]
  ·intro j y u' hy hu'
   by_cases hj:i=j
   ·subst hj
    rw [u7 hi] at hy;rw [u7 (by rw [hrel.1]; exact hi)] at hu'
    cases hy; cases hu'
    exact hRu
   ·rw [Jv hj] at hy hu'
    exact(hrel.grown hgr hS).2 j y u' hy hu'
theorem WL.an0{f:Nat}{x x':α}{p:Operand}{q:Addr}(hp:fM l p=some (.pointer (some q)))(hy:fM l y=some v)(hq:q=(Gh A).add (i*τ.k+f))
  (ho:Own τ e lo S w A c xs) (hx:xs[i]? = some x) (hv:v.cells=ds.toArray) (hs:Size P t ds.length)
  (hf:f+ds.length<=τ.k) (h1:∀ u∈ds,u.oneCell'=true) (hS:∀ g,blk A=some g->¬ S g) (hR:∀ w' cs,O7 w w' (blk A)->τ.R S w x cs->τ.R S w' x' (overlay cs f ds))
  (kk:∀ w',Own τ e lo S w' A c (xs.set i x')->O7 w w' (blk A)->w'.heap.size=w.heap.size->WL P n M Q K os l w'):WL P n M Q K (⟨none,.store t p y,ty,pos,lN,none⟩::os) l w:=by
 obtain⟨w',hrun,h2,h3,h4⟩:=aa4 (x':=x') ho hx hv hs hf h1 hS hR;exact Py (by simp [eY]) rfl (λa ha=>⟨w',by unfold execOp; simp [ha.eval hp,ha.eval hy,hq,hrun],rfl⟩) (by grind)
theorem Yo{kp:0<k}{us:V (Cells k)}(hT:P.underlying t=some (.slice e))(hz:wT P e k bytes)(ho:Own (zZ k kp) e lo S w A c us)(hm:us.length+m<=c):∃ w',(Builtin.clear_ #[t] ty #[.slice (vK A c us.length k) m (c - us.length)]).run P w=.ok (.tuple #[]) w'/\Own (zZ k kp) e lo S w' A c us/\O7 w w' (blk A)/\w'.heap.size=w.heap.size:=by
 by_cases h0:m=0
 ·subst h0
  refine⟨w,?_,ho,⟨Y,Y,Y,j4 _,λ_ _ _=>Y,j4 _⟩,Y⟩
  cases hc:vK A c us.length k <;> simp [Builtin.clear_,jV hT]
 ·obtain⟨g,cur,rfl,hg,hb,hnc,hcm,hcl,ht⟩:=ho.open_ aj
  obtain⟨i,z,z1,z2,z3,z4,z5,z6⟩:=hz.ex;have hzc:z.cells.toList.length=k:=by rw [Array.length_toList]; exact z5
  have hf:=MG z.cells ⟨z.cells.toList,hzc,z6⟩ rfl m kp;have hlen:(Builtin.zeroCells z.cells m).toList.length=m*k:=by rw [hf,jy,Ud]
  have hfit:us.length*k+(Builtin.zeroCells z.cells m).toList.length<=cur.length:=by rw [hlen,<- BS,hcl]; exact Ak _ hm
  have hst:=abA P g (us.length*k) e (Builtin.zeroCells z.cells m).toList 0 cur.toArray w hb (by simpa using hfit) (by rw [hf]; exact Iu)
  simp only [Nat.add_zero] at hst
  rw [EI aj];refine⟨_,?_,Ug hg (VK w g _ (cur.take (us.length*k)++(Builtin.zeroCells z.cells m).toList++cur.drop (us.length*k+(Builtin.zeroCells z.cells m).toList.length)).toArray e _ hb) hnc hcm (by rw [Ao hfit]; exact hcl) ?_,um w g _,by simp [World.setRow]⟩
  ·obtain⟨m',rfl⟩:∃ m',m=m'+1:=⟨m - 1,aj⟩
   have hzv:∀ w,(zeroValue e).run P w=.ok z w:=λw=>by simp [zeroValue,typeInfo,z1,z2]
   simp only [Builtin.clear_,List.getElem?_toArray,List.getElem?_cons_zero,jh,kZ,jv,jV hT,hzv]
   rw [hst]
   simp
  ·rw [o9,Ym (by simp only [iX]; omega),Uc,Nat.min_self,ht]
end
section
variable {P:Program}{n:Cx}{l:List (Nat × Value)}{w:World}{t e:TypeId}{x:Operand}
theorem Ev.ac4{hi:Nat}{kh:IntKind}{zh:Int}{yh:Operand}(hu:P.underlying t=some (.slice e))(hs:Size P e k)(hx:fM l x=some (.slice A m c))(hh:fM l yh=some (.int kh zh))
  (h2:zh=(hi:Int)) (h4:hi<=c):Ev P n l w (.slice t x none (some yh) none) (.slice A hi c):=λo a w' ho ha _=>by
 have hcz:=NZ A c k;unfold vK at hcz;unfold execOp; rw [ho]
 have h6:(Instr.sliceAt t (.slice A m c) none (some (.int kh zh)) none).run P w'=.ok (.slice A hi c) w':=by
  rw [PS w' t _ _ _ _ (rY hu),run_slice_h w' t A m c (rY hu) kh zh aj aj,Eh hu,hs w',h2]
  simp only [jv,sliced,PU,VI]
  rw [hcz]
 simp [ha.eval hx,ha.eval hh,h6]
theorem Ev.aqW{kl:IntKind}{zl:Int}{yl:Operand}(hu:P.underlying t=some (.slice e))(hs:Size P e k)(hx:fM l x=some (.slice A m c))(hl:fM l yl=some (.int kl zl))
  (h1:zl=(lo:Int)) (h3:lo<=m) (h5:m<=c):Ev P n l w (.slice t x (some yl) none none) (.slice (vK A c lo k) (m - lo) (c - lo)):=λo a w' ho ha _=>by
 unfold execOp; rw [ho]
 have h6:(Instr.sliceAt t (.slice A m c) (some (.int kl zl)) none none).run P w'=.ok (.slice (vK A c lo k) (m - lo) (c - lo)) w':=by
  rw [PS w' t _ _ _ _ (rY hu),run_slice_l w' t A m c (rY hu) kl zl aj aj,Eh hu,hs w',h1]
  simp [sliced,vK]
 simp [ha.eval hx,ha.eval hl,h6]
def Jy:=@Ev.aqW
end
section
variable {P:Program}{n:Cx}{l:List (Nat × Value)}{w:World}{Q:Exit->Act->World->Prop}{K:Act->World->Prop}{M:Array Oper}{os:List Oper}{ty:TypeId}{pos:String}{lN:Array Edge}{d:Nat}
theorem WL.extern{Iq:Operand}{args:V Operand}{tys:Array TypeId}{f:FuncId}{caps vs all:V Value}
  (hf:fM l Iq=some (.func (.func f) #[] caps.toArray)) (hargs:Ef l args=some vs) (hall:vs++caps=all) (hc:(callFunc f all.toArray).run P w=.ok (.value v) w) (hd:Nat.blt d n.size=true)
  (k:WL P n M Q K os ((d,v)::l) w):WL P n M Q K (⟨some d,.call ⟨.value Iq,args.toArray,tys⟩,ty,pos,lN,none⟩::os) l w:=by
 refine yD (v:=v) (by simp [eY]) rfl hd (λa ha=>⟨w,?_,rfl⟩) (by grind);unfold execOp;have h1:=ha.eval hf;have h2:=ha.VL hargs
 grind [resolve,Deferred.ofValue,invoke,Array.map]
theorem af4(h:Bx w g t cs):w.shape? g=some (t,cs.length):=by
 grind [Bx,World.shape?]
theorem WE{f:FuncId}{fn:Func}{tS tR:TypeId}{gv:Nat}{ev e2:TypeId}{la ca ob lb cb:Nat}(hf:P.funcs[f]? = some fn)(hname:(fn.name == "runtime.NumGoroutine")=false)(hb:fn.body.isNone=true)(hn:Extern.findNext fn=none)
  (he:Extern.find fn=some (Extern.SlicesOverlaps.overlaps #[tS,tS] #[tR])) (ht:P.underlying tS=some (.slice e)) (hs:Size P e k) (hv:Bx w gv ev cs) (hg:Bx w g e2 ds) (hne:gv≠g) (h0:0<ds.length) :
  (callFunc f #[.slice (some ⟨gv,0,none⟩) la ca,.slice (some ⟨g,ob,none⟩) lb cb]).run P w=.ok (.value (.bool false)) w:=by
 rw [run_callFunc_extern hf hname hb hn he];rw [Lib.run_overlaps_apart w tS tR e ht k hs ⟨gv,0,none⟩ ⟨g,ob,none⟩ la ca lb cb hne ev e2 cs.length ds.length (af4 hv) (af4 hg) aj (hv.frozen 0) (hv.frozen _)]
 rfl
end
section
variable {P:Program}{n:Cx}{l l':List (Nat × Value)}{w w':World}{Q:Exit->Act->World->Prop}{K:Act->World->Prop}{M:Array Oper}{fuel:Nat}{aW:Array Bool}
theorem WH.aGd(i:Nat){pos:String}{lN:Array Edge}(hi:M[i]? = some ⟨some d,op,ty,pos,lN,none⟩)(hs:Region.noSelect M=true)(hf:Region.free .any M aW i=true)
  (hr:(Region.ready .any M aW).contains i=true) (he:∀ w0,Ev P n l w0 op v) (hd:Nat.blt d n.size=true) (k:WH P n M K (λ_=>True) fuel (aW.setIfInBounds i true) ((d,v)::l) w) :
  WH P n M K (λ_=>True) (fuel+1) aW l w:=λa ha=>
 wpAnyH_take hi hs hf hr (λ_ _ _ h=>h) (.inl ⟨eY a,λw' _=>he w' _ a w' rfl ha (oW w')⟩) trivial (k _ (ha.put hd v))
def xZ:=@WH.aGd
end
theorem alJ(us:V α)(u:α)(h:i=us.length):us.take i++[u]++us.drop i=us++[u]:=by grind
theorem alK(a r vs:V (Cells k))(i m:Nat)(h1:a.length=i)(h2:vs.length=m)(h3:m<=r.length):over (a++r) i vs=a++vs++r.drop m:=by
 subst h1 h2;have h4:(a++r).take a.length=a:=List.take_left' rfl;have h5:vs.take ((a++r).length - a.length)=vs:=gY (by rw [jH]; omega)
 have h6:(a++r).drop (a.length+vs.length)=r.drop vs.length:=by
  have h7:a.drop (a.length+vs.length)=[]:=Hg aj;rw [List.drop_append,h7,MB]
  congr 1; omega
 unfold over;rw [h4,h5,h6]
theorem aqX(us:V (Cells k))(u z:Cells k)(h:i<=us.length):over (over (us.take i++List.replicate (us.length+1 - i) z) i [u]) (i+1) (us.drop i)=us.take i++[u]++us.drop i:=by
 have h1:(us.take i).length=i:=by grind
 rw [alK (us.take i) (List.replicate (us.length+1 - i) z) [u] i 1 h1 rfl (by grind),List.drop_replicate];rw [alK (us.take i++[u]) _ (us.drop i) (i+1) (us.length - i) (by grind) (by rw [uj]) (by grind),List.drop_replicate]
 grind
theorem Ext.an1{w1 w2 w3:World}(e:Ext w w1)(h2:O7 w1 w2 (some g))(h3:O7 w2 w3 (some g))(hg:w.heap.size<=g):O7 w w3 aYa:=
 have e2:Ext w w3:=(e.mod (aBO h2 (λk hk=>by cases hk; rfl)) hg).mod (aBO h3 (λk hk=>by cases hk; rfl)) hg
 ⟨e2.os,e2.tape,e2.output,e2.size,λk hk _=>e2.block k hk,e2.drawn⟩
theorem ac5{w1 w2:World}(h1:O7 w w1 aYa)(h2:O7 w1 w2 aYa):O7 w w2 aYa:=
 ⟨h2.os.trans h1.os,h2.tape.trans h1.tape,h2.output.trans h1.output,lG h1.size h2.size,λk hk hn=>(h2.block k (aa1 hk h1.size) hn).trans (h1.block k hk hn),lG h1.drawn h2.drawn⟩
theorem Rel.one{x:α}{u:Cells τ.k}(h:τ.R S w x u.1):Rel τ S w [x] [u]:=by
 refine⟨Y,λi y v hy hv=>?_⟩
 grind
section
variable {P:Program}{n:Cx}{l:List (Nat × Value)}{w:World}{t ty d:TypeId}{x y:Operand}{k k':IntKind}{m:Nat}
theorem Ev.axi(hs:(P.underlying t).isSome=true)(hd:P.underlying d=some (.int (P.intKind d)))(hk:P.intKind d=k')(hx:fM l x=some (.int k (m:Int)))(hw:k'.wrap (m:Int)=(m:Int)):Ev P n l w (.convert t d x) (.int k' (m:Int)):=by
 have:=Pz (n:=n) (w:=w) hs hd hk hx
 grind
def PX:=@Ev.axi
theorem Jz(h:m<=9223372036854775807):IntKind.u64.wrap (m:Int)=(m:Int):=by grind [IntKind.wrap_u64]
theorem Ei(h:m<=9223372036854775807):IntKind.i64.wrap (m:Int)=(m:Int):=(xR aj aj).wrap
theorem Ev.aBX(hx:fM l x=some (.int .u64 (m:Int)))(hy:fM l y=some (.int .u64 1)):Ev P n l w (.binOp .shr t x y ty) (.int .u64 ((m / 2:Nat):Int)):=λo a w' ho ha _=>by
 unfold execOp; rw [ho];have e:((m / 2:Nat):Int)=(m:Int) / 2 ^ (1:Int).toNat:=by simp
 rw [e]
 simp [ha.eval hx,ha.eval hy,eqGuard_shr,binOp_shr,shift_shr .u64 .u64 (m:Int) 1 aj au]
end
def lok:List (Nat × Value)->Nat->Option Value
  | [],_=>none
  | p::l,i=>match Nat.beq i p.1 with
    | true=>some p.2
    | false=>lok l i
theorem aqY:∀(l:V (Nat × Value))(i:Nat),lok l i=look l i
 | [],_=>rfl
 | p::l,i=>by
  unfold lok look
  have e:Nat.beq i p.1=Nat.beq p.1 i:=by
   cases h:Nat.beq p.1 i with
   | true=>rw [QL h]; exact Nat.beq_refl _
   | false=>
    cases h2:Nat.beq i p.1 with
    | false=>rfl
    | true=>rw [QL h2,Nat.beq_refl] at h; cases h
  rw [e,aqY l i]
  cases Nat.beq p.1 i <;> rfl
def lkA(l:List (Nat × Value)):List (Nat × Value)->List (Option Value)
  | []=>[]
  | p::r=>look l p.1::lkA l r
def lkB(l:List (Nat × Value)):List (Nat × Value)->List (Option Value)
  | []=>[]
  | p::r=>lok l p.1::lkB l r
def Sb(l l':List (Nat × Value)):Prop:=lkA l l'=lkB l' l'
theorem aqZ:∀ {r:V (Nat × Value)},lkA l r=lkB l' r->∀ p∈r,look l p.1=look l' p.1
 | [],_,p,hp=>by simp at hp
 | q::r,h,p,hp=>by
  have h1:look l q.1=lok l' q.1:=(List.cons.inj h).1
  rcases gW.1 hp with rfl | hp
  ·rw [h1,aqY]
  ·exact aqZ (List.cons.inj h).2 p hp
theorem af5:∀ {l:V (Nat × Value)} {i:Nat} {v:Value},look l i=some v->∃ p∈l,p.1=i
 | [],i,v,h=>by simp [look] at h
 | p::l,i,v,h=>by
  unfold look at h
  cases hb:Nat.beq p.1 i with
  | true=>exact⟨p,av,QL hb⟩
  | false=>simp [hb] at h; obtain⟨q,hq,e⟩:=af5 h; exact⟨q,by simp [hq],e⟩
theorem Sb.aGf(h:Sb l l')(hv:look l' i=some v):look l i=some v:=by
 obtain⟨p,hp,rfl⟩:=af5 hv;rw [aqZ h p hp]; exact hv
theorem Has.sb{n:Cx}{a:Act}(h:Has n l a)(hs:Sb l l'):Has n l' a:=⟨h.defers,h.size,λi v hv=>h.get i v (hs.aGf hv)⟩
def evd(n:Cx)(l:List (Nat × Value))(d:Nat)(x:Operand):Option Value:=bif Nat.blt d n.size then fM l x else none
theorem wE{n:Cx}(h:evd n l d x=some v):Nat.blt d n.size=true/\fM l x=some v:=by
 unfold evd at h
 grind
section
variable {P:Program}{n:Cx}{l l':List (Nat × Value)}{w w':World}{Q:Exit->Act->World->Prop}{K:Act->World->Prop}{M:Array Oper}{os:List Oper}{ty t:TypeId}{pos:String}{lN:Array Edge}{d:Nat}{x y:Operand}{v:Value}
theorem rg{ol:V Oper}{id:Nat}{y:Code}(h:WL P n ol.toArray (Exit.then (G7 P n y Q) Q) (G7 P n y Q) ol l w)(hp:n.plain=false:=by rfl):WP P n (.seq (.region id ol.toArray false) y) l w Q:=Dj h hp
theorem jN{ol:V Oper}{id:Nat}(h:WL P n ol.toArray Q (Q .normal) ol l w)(hp:n.plain=false:=by rfl):WP P n (.region id ol.toArray false) l w Q:=WP.Yh h hp
theorem dn{y:Code}(h:WP P n y l w Q):WL P n M Q' (G7 P n y Q) [] l w:=Dk h
theorem jO(h:l7 n Q .normal l w):WL P n M Q' (Q .normal) [] l w:=WL.afW h
theorem ev(h:Ev P n l w op v)(k:WL P n M Q K os ((d,v)::l) w)(hd:Nat.blt d n.size=true:=by rfl):WL P n M Q K (⟨some d,op,ty,pos,lN,none⟩::os) l w:=Dl h hd k
theorem mv(h:evd n l d x=some v)(k:WL P n M Q K os ((d,v)::l) w):WL P n M Q K (⟨some d,.move x,ty,pos,lN,none⟩::os) l w:=Dl (dP (wE h).2) (wE h).1 k
theorem oJ(h:evd n l d x=some v)(k:WL P n M Q K os ((d,v)::l) w):WL P n M Q K (⟨some d,.assign x,ty,pos,lN,none⟩::os) l w:=Dl (tF (wE h).2) (wE h).1 k
theorem WL.aBY(m d:Nat)(r:Bool)(h:WL P n M Q (λa' w'=>Has n ((d,.bool r)::l) a'/\w'=w) (os.take m) l w)(k:WL P n M Q K (os.drop m) ((d,.bool r)::l) w):WL P n M Q K os l w:=WL.cut m _ h k
def iJ:=@WL.aBY
theorem WQ.aBY{Qa:Act->Prop}(m d:Nat)(r:Bool)(h:WQ P n M w (λa'=>Has n ((d,.bool r)::l) a') (os.take m) l)(k:WQ P n M w Qa (os.drop m) ((d,.bool r)::l)):WQ P n M w Qa os l:=WQ.cut m _ h k
def rO:=@WQ.aBY
theorem WL.aGg(m d:Nat)(r:Bool)(h:WL P n M Q (λa' w'=>Has n ((d,.bool r)::l) a'/\Ext w w') (os.take m) l w)(k:∀ w',Ext w w'->WL P n M Q K (os.drop m) ((d,.bool r)::l) w'):WL P n M Q K os l w:=WL.aMw m _ h k
def qg:=@WL.aGg
theorem WL.aBZ(hs:Sb l l1):WL P n M Q (λa' w'=>Has n l1 a'/\w'=w) [] l w:=λ_ ha=>⟨ha.sb hs,rfl⟩
def dK:=@WL.aBZ
theorem WQ.aBZ(hs:Sb l l1):WQ P n M w (λa'=>Has n l1 a') [] l:=λ_ ha=>ha.sb hs
def jR:=@WQ.aBZ
theorem WL.aGh{w0:World}(hs:Sb l l1)(he:Ext w0 w):WL P n M Q (λa' w'=>Has n l1 a'/\Ext w0 w') [] l w:=λ_ ha=>⟨ha.sb hs,he⟩
def jI:=@WL.aGh
theorem WP.keep'{c:Code}(l':V (Nat × Value))(hs:Sb l l')(h:WP P n c l' w Q):WP P n c l w Q:=λa ha=>h a (ha.sb hs)
theorem l7.re{e:Exit}{t:Nat}{u:Value}(hl:look l t=some u)(he:u=v)(k:l7 n Q e ((t,v)::l) w):l7 n Q e l w:=λa ha=>k a (ha.set hl he)
def ji:=@l7.re
theorem WP.lp{c:Code}(aX9:Nat->V (Nat × Value)->World->Prop){m0:Nat}{l0:V (Nat × Value)}(h0:aX9 m0 l0 w)(hs:Sb l l0)
  (hr:∀ m l w',aX9 m l w'->WP P n c l w' (Exit.then (Again n aX9 m) Q)):WP P n (.loop c) l w Q:=WP.loop aX9 m0 l0 (λ_ ha=>ha.sb hs) h0 hr
def qh:=@WP.lp
theorem l7.ag{m':Nat}(hJ:aX9 m' l' w)(hs:Sb l l')(hm:m'<m):l7 n (Exit.then (Again n aX9 m) Q) .normal l w:=
 λ_ ha=>⟨m',l',hm,ha.sb hs,hJ⟩
def dX:=@l7.ag
theorem l7.jag{lb:Nat}{m':Nat}(hJ:aX9 m' l' w)(hs:Sb l l')(hm:m'<m):l7 n (Exit.jump lb (Again n aX9 m) Q) (.goto lb) l w:=
 λ_ ha=>⟨rfl,m',l',hm,ha.sb hs,hJ⟩
theorem WP.kp{c:Code}(hp:∀ m l w,aX9 m l w->WP P n c l w Q)(hJ:aX9 m l' w)(hs:Sb l l'):WP P n c l w Q:=λa ha=>hp m l' w hJ a (ha.sb hs)
theorem WH.dn{S:World->Prop}{aX9:V (Nat × Value)->World->Prop}(hJ:aX9 l' w)(hs:Sb l l')(hr:Region.ready .any M aW=[]):WH P n M (JK n aX9) S fuel aW l w:=λ_ ha=>wpAnyH_done hr ⟨l',ha.sb hs,hJ⟩ fuel
end
section
variable {P:Program}{n:Cx}{l:List (Nat × Value)}{w:World}{Q Q':Exit->Act->World->Prop}{K:Act->World->Prop}{M:Array Oper}{os:List Oper}{ty:TypeId}{pos:String}{lN:Array Edge}{d id:Nat}{x:Operand}{v:Value}{y:Code}
theorem fE(h:evd n l d x=some v)(k:WP P n y ((d,v)::l) w Q):WL P n M Q' (G7 P n y Q) [⟨some d,.assign x,ty,pos,lN,none⟩] l w:=oJ h (dn k)
theorem gD(h:evd n l d x=some v)(k:WL P n (⟨some d,.move x,ty,pos,lN,none⟩::os).toArray (Exit.then (G7 P n y Q) Q) (G7 P n y Q) os ((d,v)::l) w)(hp:n.plain=false:=by rfl):WP P n (.seq (.region id (⟨some d,.move x,ty,pos,lN,none⟩::os).toArray false) y) l w Q:=rg (mv h k) hp
theorem kX(h:evd n l d x=some v)(k:WP P n y ((d,v)::l) w Q)(hp:n.plain=false:=by rfl):WP P n (.seq (.region id [⟨some d,.assign x,ty,pos,lN,none⟩].toArray false) y) l w Q:=rg (oJ h (dn k)) hp
theorem paz{op:Op}{j:Nat}{bQ:Bool}{v:Value}(k:WL P n M Q K os ((d,undef)::l) w)(hg:guardOf M l j=some v:=by rfl)(hv:unlike bQ v=true:=by rfl)(hd:Nat.blt d n.size=true:=by rfl):WL P n M Q K (⟨some d,op,ty,pos,lN,some (j,bQ)⟩::os) l w:=WL.pass hg hv hd k
end
theorem Ev.axj{P:Program}{n:Cx}{a b:Nat}{z:Int}(hx:fM l x=some (.int .i64 (a:Int)))(hy:fM l y=some (.int .i64 z))(hz:z=(b:Int))(h:b<=a)(h2:a<=9223372036854775807):Ev P n l w (.binOp .sub t x y ty) (.int .i64 ((a - b:Nat):Int)):=by
 subst hz;have:=Ev.sub (P:=P) (n:=n) (w:=w) (t:=t) (ty:=ty) hx hy (xR aj aj)
 grind
theorem Wr.yB{b:World}{W:Nat->Prop}(h:O7 w w' aYa)(hX:∀ g,aYa=some g->W g):Wr b w w' W:=
 ⟨h.os,h.tape,h.output,h.size,λk hk hn=>h.block k hk (by grind),h.drawn⟩
theorem Wr.ajF{b:World}{W:Nat->Prop}(h:Mod g w w')(hX:W g):Wr b w w' W:=
 ⟨h.os,h.tape,h.output,h.size,λk hk hn=>h.block k hk (by grind),h.drawn⟩
section
variable {P:Program}{n:Cx}{l:List (Nat × Value)}{b w:World}{S:Nat->Prop}{rs rest:List kF}{Q:Exit->Act->World->Prop}{K:Act->World->Prop}{M:Array Oper}{os:List Oper}{ty:TypeId}{pos:String}{lN:Array Edge}{d:Nat}
theorem bx(hx:evd n l d x=some v)(hcs:v.cells=cs.toArray)(H:Hp b S w rs)
  (k:∀ g w',Hp b S w' (dJ g t cs::rs)->WL P n M Q K os ((d,fK g)::l) w'):WL P n M Q K (⟨some d,.box t x,ty,pos,lN,none⟩::os) l w:=
 WL.box (wE hx).2 hcs (wE hx).1 λw' e hb hz=>k _ w' (H.new e (λg hg=>by show _/\_; rw [show g=w.heap.size from hg]; omega) hb)
theorem al{z:Value}(hz:∀ w,(zeroValue t).run P w=.ok z w)(hcs:z.cells=cs.toArray)(H:Hp b S w rs)
  (k:∀ g w',Hp b S w' (dJ g t cs::rs)->WL P n M Q K os ((d,fK g)::l) w') (hd:Nat.blt d n.size=true:=by rfl):WL P n M Q K (⟨some d,.alloc t,ty,pos,lN,none⟩::os) l w:=
 WL.alloc hz hcs hd λw' e hb hz=>k _ w' (H.new e (λg hg=>by show _/\_; rw [show g=w.heap.size from hg]; omega) hb)
theorem yV{x:α}(hx:PV l parts=some vs)
  (hb:∀ w,(Instr.buildSlice t m vs.toArray).run P w=.ok (.slice (some ⟨w.heap.size,0,none⟩) m m) (w.alloc (.cells cs.toArray e))) (hm:m=1) (H:Hp b S w rs) (hR:∀ w',Ext w w'->τ.R (Rd b S rs w) w' x cs)
  (k:∀ g w',Hp b S w' (aR τ e (some ⟨g,0,none⟩) 1 [x]::rs)->WL P n M Q K os ((d,.slice (some ⟨g,0,none⟩) [x].length 1)::l) w') (hd:Nat.blt d n.size=true:=by rfl):WL P n M Q K (⟨some d,.buildSlice t m parts.toArray,ty,pos,lN,none⟩::os) l w:=by
 subst hm;have hl:cs.length=τ.k:=τ.len (hR w (oW w));refine WL.buildSlice (k:=τ.k) hx hb hd aj λw' ex hb' hz=>k _ w' (H.new ex (λg hg=>?_) (hb'.axf (hR w' ex) (fI _)))
 grind [aR,blk]
theorem bs0(hx:PV l parts=some vs)
  (hb:∀ w,(Instr.buildSlice t m vs.toArray).run P w=.ok (.slice (some ⟨w.heap.size,0,none⟩) m m) (w.alloc (.cells #[] e))) (hm:m=0) (H:Hp b S w rs)
  (k:∀ g w',Hp b S w' (aR τ e (some ⟨g,0,none⟩) 0 []::rs)->WL P n M Q K os ((d,.slice (some ⟨g,0,none⟩) ([]:V α).length 0)::l) w') (hd:Nat.blt d n.size=true:=by rfl):WL P n M Q K (⟨some d,.buildSlice t m parts.toArray,ty,pos,lN,none⟩::os) l w:=by
 subst hm;refine WL.buildSlice (k:=τ.k) hx hb hd av λw' ex hb' hz=>k _ w' (H.new ex (λg hg=>?_) (hb'.anV (fI _)))
 grind [aR,blk]
def axk{α:Type}(τ:Ty α)(S:Nat->Prop)(w:World):List α->List (List Value)->Prop
  | [],[]=>True
  | x::xs,cs::css=>τ.R S w x cs/\axk τ S w xs css
  | _,_=>False
theorem axk.spec:∀ {xs:V α} {css:V (V Value)},axk τ S w xs css->css.length=xs.length/\css.flatten.length=xs.length*τ.k/\∀(i:Nat)(x:α),xs[i]? = some x->∃ cs,css[i]? = some cs/\τ.R S w x cs
 | [],[],_=>by simp
 | [],_::_,h=>h.elim
 | _::_,[],h=>h.elim
 | x::xs,cs::css,h=>by
  obtain⟨h1,h3,h2⟩:=h.2.spec;have h4:=τ.len h.1;refine⟨by simp [h1],by grind,λi y hy=>?_⟩
  cases i with
  | zero=>simp at hy; subst hy; exact⟨cs,rfl,h.1⟩
  | succ i=>grind
theorem bsn(hx:PV l parts=some vs)
  (hb:∀ w,(Instr.buildSlice t m vs.toArray).run P w=.ok (.slice (some ⟨w.heap.size,0,none⟩) m m) (w.alloc (.cells css.flatten.toArray e))) (hm:m=xs.length) (hm1:Nat.ble m 100000=true) (H:Hp b S w rs) (hR:∀ w',Ext w w'->axk τ (Rd b S rs w) w' xs css)
  (k:∀ g w',Hp b S w' (aR τ e (some ⟨g,0,none⟩) m xs::rs)->WL P n M Q K os ((d,.slice (some ⟨g,0,none⟩) xs.length m)::l) w') (hd:Nat.blt d n.size=true:=by rfl):WL P n M Q K (⟨some d,.buildSlice t m parts.toArray,ty,pos,lN,none⟩::os) l w:=by
 subst hm;have hm2:xs.length<=100000:=nU hm1;obtain⟨h1,h2,_⟩:=(hR w (oW w)).spec;refine WL.buildSlice hx hb hd (by rw [h2]) λw' ex hb' hz=>k _ w' (H.new ex (λg hg=>?_) ?_)
 ·grind [aR,blk]
 ·have h3:=(hR w' ex).spec
  refine⟨css,h3.1,h3.2.2,?_⟩;exact⟨h2,.inr ⟨w.heap.size,xs.length,css.flatten.toArray,Y,fI _,hb',j4 _,by simp only [maxLen]; omega,by rw [X8]; exact h2,by rw [<- h2]; exact gY (j4 _)⟩⟩
theorem stc{t':TypeId}(hx:fM l x=some (.pointer (some ⟨g,i,none⟩)))(hy:fM l y=some v)(h1:v.oneCell'=true)(hs:Size P t 1)(H:Hp b S w rs)(s:nY rs (dJ g t' cs) rest)(hi:Nat.blt i cs.length=true)
  (k:∀ w',Hp b S w' (dJ g t' (cs.set i v)::rest)->WL P n M Q K os l w'):WL P n M Q K (⟨none,.store t x y,ty,pos,lN,none⟩::os) l w:=
 WL.anU hx hy h1 hs (H.x s) (by simp_all) λw' m hb hz=>k w' ((H.sel s).put (r':=dJ g t' (cs.set i v)) (Wr.ajF m rfl) (λg hg=>.inl hg) hb)
theorem stw{t':TypeId}(hx:fM l x=some (fK g))(hy:fM l y=some v)(hv:v.cells=ds.toArray)(hs:Size P t ds.length)(H:Hp b S w rs)(s:nY rs (dJ g t' cs) rest)(hl:cs.length=ds.length)(h1:ds.all (λu=>u.oneCell')=true)
  (k:∀ w',Hp b S w' (dJ g t' ds::rest)->WL P n M Q K os l w'):WL P n M Q K (⟨none,.store t x y,ty,pos,lN,none⟩::os) l w:=
 WL.aqT hx hy hv hs (H.x s) hl (by grind) λw' m hb hz=>k w' ((H.sel s).put (r':=dJ g t' ds) (Wr.ajF m rfl) (λg hg=>.inl hg) hb)
theorem Hp.own{τ':Ty β}{A':ah}{c':Nat}{ys:V β}(H:Hp b S w (aR τ e A c xs::rest))(hg:O7 w w' (blk A))(hA:∀ g,blk A'=some g->blk A=some g∨w.heap.size<=g)
  (h:Own τ' e lo (Rd b S (aR τ e A c xs::rest) w) w' A' c' ys):Hp b S w' (aR τ' e A' c' ys::rest):=
 H.put (r':=aR τ' e A' c' ys) (Wr.yB hg (λg hX=>hX)) (λg hg'=>by
  rcases hA g hg' with h1 | h1
  ·exact .inl h1
  ·exact .inr ⟨h1,(h.acV g hg').2⟩) (h.low (fI _) av)
theorem Hp.af6{r:kF}(H:Hp b S w rs)(s:nY rs r rest):∀ g,r.W g->¬ Rd b S rs w g:=by
 have hm:r∈rs:=s.perm.mem_iff.2 av;rintro g hg (⟨h1,_⟩ | ⟨_,_,h3⟩)
 ·have:=(H.lo r hm g hg).1; omega
 grind
theorem apd{c2:Nat}(H:Hp b S w rs)(se:nY rs (aR τ e A c xs) rest)(hs:evd n l d s=some (.slice A xs.length c))(hx:fM l x=some (.slice B ys.length c2))
  (hy:Sl τ (Rd b S rs w) w B c2 ys) (hT:P.underlying t=some (.slice e)) (hI:kH P e τ.k bytes)
  (hm1:xs.length<=1000000) (hm2:ys.length<=1000000) (hby:Nat.ble bytes 1000=true)
  (k:∀ A' c' w',Hp b S w' (aR τ e A' c' (xs++ys)::rest)->WL P n M Q K os ((d,.slice A' (xs++ys).length c')::l) w') :
  WL P n M Q K (⟨some d,.call ⟨.builtin .append,#[s,x],#[t,t]⟩,ty,pos,lN,none⟩::os) l w:=by
 have H1:=H.sel se;have hsub:∀ g,Rd b S rs w g->Rd b S (aR τ e A c xs::rest) w g:=Rd.perm se.perm;refine WL.app (wE hs).2 hx (H1.ow U) (hy.sub hsub) hT hI av (λg hA=>H1.af6 U g hA) hm1 hm2 hby H1.ext.size (wE hs).1 λA' c' w' ho hg hat=>k A' c' w' (H1.own hg (λg hg'=>?_) ho)
 grind
theorem ap[Flat τ]{c2:Nat}(H:Hp b S w rs)(se:nY rs (aR τ e A c xs) rest)(hs:evd n l d s=some (.slice A xs.length c))(hx:fM l x=some (.slice B ys.length c2))
  (hy:Sl τ S2 w B c2 ys) (hT:P.underlying t=some (.slice e)) (hI:kH P e τ.k bytes)
  (hm1:xs.length<=1000000) (hm2:ys.length<=1000000) (hby:Nat.ble bytes 1000=true)
  (k:∀ A' c' w',Hp b S w' (aR τ e A' c' (xs++ys)::rest)->WL P n M Q K os ((d,.slice A' (xs++ys).length c')::l) w') :
  WL P n M Q K (⟨some d,.call ⟨.builtin .append,#[s,x],#[t,t]⟩,ty,pos,lN,none⟩::os) l w:=by
 have H1:=H.sel se;refine WL.app (wE hs).2 hx (H1.ow U) hy hT hI (λ_ _ _ h=>Flat.h h) (λg hA=>H1.af6 U g hA) hm1 hm2 hby H1.ext.size (wE hs).1 λA' c' w' ho hg hat=>k A' c' w' (H1.own hg (λg hg'=>?_) ho)
 grind
theorem apz(τ:Ty α){ti:TypeId}(hs:evd n l d s=some (.slice none 0 0))(hx:fM l x=some (O (m:Int)))(hT:P.underlying t=some (.slice e))(hi:P.underlying ti=some (.int .i64))(hI:kH P e τ.k bytes)(h0:0<m)(hm:m<=1000000)(hby:Nat.ble bytes 1000=true)(H:Hp b S w rs)
  (k:∀ g c w',Hp b S w' (aR τ e (some ⟨g,0,none⟩) c []::rs)->WL P n M Q K os ((d,.slice (some ⟨g,0,none⟩) m c)::l) w') :
  WL P n M Q K (⟨some d,.call ⟨.builtin .append,#[s,x],#[t,ti]⟩,ty,pos,lN,none⟩::os) l w:=
 WL.af2 τ (wE hs).2 hx hT hi hI h0 hm hby (wE hs).1 λg c w' ex ho=>k g c w' (H.new ex (λg' hg'=>by
  have h1:=ho.acV g' hg'; omega) (ho.low (fI _) (λ_ h=>h.elim)))
theorem se{f:Nat}{x x':α}{p:Operand}{q:Addr}(H:Hp b S w rs)(s:nY rs (aR τ e A c xs) rest)(hp:fM l p=some (.pointer (some q)))(hy:fM l y=some v)(hq:q=(Gh A).add (i*τ.k+f))
  (hx:xs[i]? = some x) (hv:v.cells=ds.toArray) (hs:Size P t ds.length)
  (hf:f+ds.length<=τ.k) (h1:ds.all (λu=>u.oneCell')=true) (hR:∀ w' cs,(∀ {β:Type} {σ:Ty β} {B:ah} {d:Nat} {zs:V β},Sl σ (Rd b S rs w) w B d zs->Sl σ (Rd b S rs w) w' B d zs)->τ.R (Rd b S rs w) w x cs->τ.R (Rd b S rs w) w' x' (overlay cs f ds))
  (kk:∀ w',Hp b S w' (aR τ e A c (xs.set i x')::rest)->WL P n M Q K os l w'):WL P n M Q K (⟨none,.store t p y,ty,pos,lN,none⟩::os) l w:=by
 have H1:=H.sel s;have hsub:∀ g,Rd b S rs w g->Rd b S (aR τ e A c xs::rest) w g:=Rd.perm s.perm;have aGi:∀ g,Rd b S (aR τ e A c xs::rest) w g->Rd b S rs w g:=Rd.perm s.perm.symm;refine WL.an0 hp hy hq (H1.ow U) hx hv hs hf (by grind) (λg hA=>H1.af6 U g hA) (λw' cs hg hr=>τ.sub hsub (hR w' cs ?_ (τ.sub aGi hr))) λw' ho hg hz=>kk w' (H1.own hg (by grind) ho);intro β σ B d zs hsl;exact hsl.keep λk hk hlt=>hg.block k hlt λe=>H.af6 s k e.symm hk
theorem Hp.ajG{hi:Nat}(H:Hp b S w rs)(s:nY rs (aR τ e A c xs) rest)(h:hi<=xs.length):Hp b S w (aR τ e A c (xs.take hi)::rest):=
 (H.sel s).put (r':=aR τ e A c (xs.take hi)) ⟨rfl,rfl,rfl,j4 _,av,j4 _⟩ (λg hg=>.inl hg) (Own.take ((H.sel s).ok (aR τ e A c xs) av) h)
theorem Sl.row{x:α}(h:Sl τ S w A c xs)(hx:xs[i]? = some x):∃ cs,τ.R S w x cs/\∀ j u,cs[j]? = some u->w.cell? ((Gh A).add (i*τ.k+j))=some u:=(h.rows i x hx).2
theorem Hp.oi{x:α}(H:Hp b S w rs)(s:nY rs (aR τ e A c xs) rest)(hx:xs[i]? = some x):∃ cs,τ.R (Rd b S rs w) w x cs/\∀ j u,cs[j]? = some u->w.cell? ((Gh A).add (i*τ.k+j))=some u:=by
 obtain⟨css,hl,hR,hown⟩:=H.ow s;obtain⟨cs,h1,h2⟩:=hR i x hx;have hk:=WX hl hR;refine⟨cs,h2,λj u hu=>?_⟩
 rcases hown.2 with ⟨hv,hn⟩ | ⟨g,cap,cur,hv,hg,hh,hnc,hcm,hcs,ht⟩
 ·grind
 ·injection hv with hA hn' hc
  subst hA hc;exact hown.cells Y _ _ (by grind [QM])
theorem Hp.is{x:α}(H:Hp b S w rs)(s:nY rs (dI τ A c xs) rest)(hx:xs[i]? = some x):∃ cs,τ.R (Rd b S rs w) w x cs/\∀ j u,cs[j]? = some u->w.cell? ((Gh A).add (i*τ.k+j))=some u:=(H.s s).row hx
theorem alL{a:Addr}(h:∃ cs,(Ty.list τ).R S w xs cs/\∀ j u,cs[j]? = some u->w.cell? (a.add (i*1+j))=some u):∃ B d,w.cell? (a.add (i*1))=some (.slice B xs.length d)/\Sl τ S w B d xs:=by
 obtain⟨cs,⟨B,d,rfl,h2⟩,h3⟩:=h;exact⟨B,d,h3 0 _ Y,h2⟩
theorem Gu{a:Addr}(h:∀ j u,cs[j]? = some u->w.cell? (a.add (i*k+j))=some u):∀ j u,cs[j]? = some u->w.cell? ((a.add (i*k)).add j)=some u:=by grind [fD]
theorem Own.aB0{x:α}(h:Own τ e lo S w (some ⟨g,0,none⟩) 1 [x]):∃ cs,Bx w g e cs/\τ.R S w x cs:=by
 obtain⟨css,hl,hR,hown⟩:=h;obtain⟨cs,h1,h2⟩:=hR 0 x rfl
 have h3:css=[cs]:=by
  cases css with
  | nil=>grind
  | cons c0 css=>grind
 subst h3;have hk:=τ.len h2
 rcases hown.2 with ⟨hv,_⟩ | ⟨g',cap,cur,hv,hg,hh,hnc,hcm,hcs,ht⟩
 ·cases hv
 ·injection hv with hA hn' hc
  injection hA with hA
  injection hA with hA
  subst hA hc;refine⟨cs,?_,h2⟩;have h4:cur.toList=cs:=by grind
  unfold Bx;rw [hh,<- h4]
theorem Hp.aB1{σ:Ty β}{e':TypeId}{c':Nat}{ys:V β}{yF:V kF}(H:Hp b S w rs)(s:nY rs (aR τ e A c xs) rest)(s':nY rest (aR σ e' B c' ys) yF)(hg:blk B=some g):blk A≠some g:=
 λh=>(nT.1 (H.sel s).dis).1 (aR σ e' B c' ys) (s'.perm.mem_iff.2 av) g h hg
theorem Hp.raw(H:Hp b S w rs)(s:nY rs (aR τ e A c xs) rest):∃ us:V (Cells τ.k),Own (zZ τ.k τ.pos) e b.heap.size No w A c us/\Rel τ (Rd b S rs w) w xs us:=(H.ow s).raw
theorem Hp.back{A':ah}{c':Nat}{vs:V (Cells τ.k)}(H:Hp b S w rs)(s:nY rs (aR τ e A c xs) rest)(hO:Own (zZ τ.k τ.pos) e lo S' w' A' c' vs)(hr:Rel τ (Rd b S rs w) w ys vs)(hg:O7 w w' (blk A))(hA:∀ g,blk A'=some g->blk A=some g∨w.heap.size<=g):Hp b S w' (aR τ e A' c' ys::rest):=by
 have hsub:∀ g,Rd b S rs w g->Rd b S (aR τ e A c xs::rest) w g:=Rd.perm s.perm;exact(H.sel s).own hg hA (hO.ofRaw ((hr.sub hsub).grown hg (λg hA=>(H.sel s).af6 U g hA)))
theorem WH.tk{rk:V kF}(i:Nat)(hi:M[i]? = some ⟨some d,op,ty,pos,lN,none⟩)(hs:Region.noSelect M=true)(hf:Region.free .any M aW i=true)
  (hr:(Region.ready .any M aW).contains i=true) (he:∀ w',Hp b S w' rk->Ev P n l w' op v) (hd:Nat.blt d n.size=true) (hw:Hp b S w rk) (k:WH P n M K (λw'=>Hp b S w' rk) fuel (aW.setIfInBounds i true) ((d,v)::l) w) :
  WH P n M K (λw'=>Hp b S w' rk) (fuel+1) aW l w:=λa ha=>
 wpAnyH_take hi hs hf hr (λ_ _ _ h=>h) (.inl ⟨eY a,λw' hw'=>he w' hw' _ a w' rfl ha (oW w')⟩) hw (k _ (ha.put hd v))
theorem WH.tkg{rk:V kF}(i:Nat){j:Nat}{bQ:Bool}(hi:M[i]? = some ⟨some d,op,ty,pos,lN,some (j,bQ)⟩)(hg:guardOf M l j=some (.bool bQ))(hs:Region.noSelect M=true)(hf:Region.free .any M aW i=true)
  (hr:(Region.ready .any M aW).contains i=true) (he:∀ w',Hp b S w' rk->Ev P n l w' op v) (hd:Nat.blt d n.size=true) (hw:Hp b S w rk) (k:WH P n M K (λw'=>Hp b S w' rk) fuel (aW.setIfInBounds i true) ((d,v)::l) w) :
  WH P n M K (λw'=>Hp b S w' rk) (fuel+1) aW l w:=λa ha=>
 wpAnyH_take hi hs hf hr (λ_ _ _ h=>h) (.inl ⟨rX hg a ha,λw' hw'=>he w' hw' _ a w' rfl ha (oW w')⟩) hw (k _ (ha.put hd v))
end
end
end Go.Proofs.YthcmboepffiliaaGreat
