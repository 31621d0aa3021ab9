/- Lemmas. -/
import Derived.Laws.CopyRow
import Derived.Laws.IdiomCopy
import Derived.Lib.Overlaps
import Derived.Lib.AppendZerosOnto
import Derived.RangeFuncSeq
import Derived.RangeFuncLeaves
import Derived.Shelf.SlSortCmp.NoneTotal
import Derived.Shelf.Sort.Plain
import Derived.Shelf.Slices.In.SortNone
import Derived.Sort.OwnSortedInts
import Derived.Shelf.Slices.CompactI
import Derived.MapKept
import Derived.Test.YtlhnnmlenkahlaaGreathG0
set_option linter.all false
set_option maxRecDepth 4000
namespace Go.Proofs.YtlhnnmlenkahlaaGreat
open Go.RowKit
def gB:=@List.mem_map
def Gf:=@List.drop_of_length_le
def KG:=@List.nil_append
def Gg:=@List.ext_getElem?
def rQ:=@List.getElem?_map
def kF:=@List.length_map
def WK:=@List.getElem?_append_left
def RY:=@List.take_take
def WM:=@Nat.min_eq_left
def rR:=@List.length_drop
def pE:=@List.append_assoc
def WO:=@List.take_append_of_le_length
def abt:=@Array.getElem?_eq_getElem
def Oj:=@List.getElem?_eq_none
def RZ:=@List.length_replicate
def qF:=@List.eq_nil_of_length_eq_zero
def gW:=@List.length_set
def rT:=@List.getElem?_set_self
def Io:=@List.getElem?_set_ne
def bK:=@Bool.and_eq_true
def dZ:=@Bool.not_eq_true'
def nR:=@List.contains_iff_mem
def oG:=@List.mem_singleton
def R3:=@beq_iff_eq
def ng:=@List.all_eq_true
def jV:=@List.mem_filter
def yU:=@Array.getElem?_eq_some_iff
def zQ:=@List.perm_append_comm
def Gh:=@List.foldl_cons
def aV:=@congrArg
def R4:=@List.pairwise_singleton
def R5:=@List.eraseIdx_eq_take_drop_succ
def KH:=@List.length_mergeSort
def bV:=@decide_eq_false_iff_not
def KI:=@MapKept.run_checkKey
def Da:=@MapKept.run_findKey
def uH:=@MapKept.run_getObj_map
def Gi:=@MapKept.run_setObj_map
section
variable {k g lo d c lo0 i m bytes fuel:Nat}{css:List (List Value)}{S' S S2:Nat->Prop}{dT sT ty e t:TypeId}{cur cs ds:List Value}{A B:ah}{β α:Type}{w w':World}{x y s:Operand}{v:Value}{vs l l' l1:List (Nat × Value)}{op:Op}{X:Option Nat}{Q':Exit->Act->World->Prop}{J:Nat->List (Nat × Value)->World->Prop}{aW:Array Bool}{parts:List (Nat × Operand)}{pos:0<k}{τ:Ty α}{xs ys:List α}
abbrev Cells(k:Nat):={ u:List Value // u.length=k/\∀ v∈u,v.oneCell'=true }
def zD(k:Nat)(pos:0<k):Ty (Cells k):=Ty.flat k (λu=>u.1) pos (by grind) av
def jc{k:Nat}(us:List (Cells k)):List Value:=(us.map (·.1)).flatten
theorem zR(us vs:List (Cells k)):jc (us++vs)=jc us++jc vs:=by simp [jc]
theorem jH:∀(us:List (Cells k)),(jc us).length=us.length*k
  | []=>by simp [jc]
  | u::us=>by
    have:=jH us
    simp only [jc,mR,aee,jG,oV] at this ⊢
    rw [this,u.2.1,Bl]; omega
theorem GH{us:List (Cells k)}:∀ v∈jc us,v.oneCell'=true:=by
  intro v hv
  simp only [jc,List.mem_flatten,gB] at hv
  obtain⟨_,⟨u,_,rfl⟩,h⟩:=hv;exact u.2.2 v h
theorem En:∀(us:List (Cells k))(m:Nat),(jc us).take (m*k)=jc (us.take m)
  | [],m=>by simp [jc]
  | u::us,0=>by simp [jc]
  | u::us,m+1=>by
    have ih:=En us m;have h0:=u.2.1;have e1:u.1.take ((m+1)*k)=u.1:=gV (by rw [h0,Bl]; omega);have e2:(m+1)*k - k=m*k:=by rw [Bl]; omega
    simp only [jc,mR,aee,List.take_succ_cons] at ih ⊢
    rw [List.take_append,e1,h0,e2,ih]
theorem Ip:∀(us:List (Cells k))(m:Nat),(jc us).drop (m*k)=jc (us.drop m)
  | [],m=>by simp [jc]
  | u::us,0=>by simp [jc]
  | u::us,m+1=>by
    have ih:=Ip us m;have h0:=u.2.1;have e1:u.1.drop ((m+1)*k)=[]:=Gf (by rw [h0,Bl]; omega);have e2:(m+1)*k - k=m*k:=by rw [Bl]; omega
    simp only [jc,mR,aee,List.drop_succ_cons] at ih ⊢
    rw [List.drop_append,e1,h0,e2,ih,KG]
section
variable {α:Type}{τ:Ty α}{e:TypeId}{lo:Nat}{S S2:Nat->Prop}{w w':World}{A B:ah}{c:Nat}{xs ys:List α}{us vs:List (Cells τ.k)}
theorem FD{us:List (Cells k)}:Own (zD k pos) e lo S w A c us↔w.ownsRow lo e k (.slice A us.length c) us.length (jc us):=by
  constructor
  · rintro⟨css,hl,hR,hown⟩
    have:css=us.map (·.1):=by
      apply Gg;intro i;rw [rQ]
      cases hu:us[i]? with
      | none=>grind
      | some u=>
        obtain⟨cs,h1,h2⟩:=hR i u hu;have h2:cs=u.1:=h2
        grind
    subst this;exact hown
  · intro h
    refine⟨us.map (·.1),av,λi u hu=>⟨u.1,by grind,rfl⟩,?_⟩;exact h
theorem PD:∀(css:List (List Value)),(∀ cs∈css,cs.length=k/\∀ v∈cs,v.oneCell'=true)->∃ us:List (Cells k),us.map (·.1)=css
  | [],_=>⟨[],rfl⟩
  | cs::css,h=>by
    obtain⟨us,hu⟩:=PD css (by grind);exact⟨⟨cs,by grind⟩::us,by simp [hu]⟩
def Rel(τ:Ty α)(S:Nat->Prop)(w:World)(xs:List α)(us:List (Cells τ.k)):Prop:=us.length=xs.length/\∀(i:Nat)(x:α)(u:Cells τ.k),xs[i]? = some x->us[i]? = some u->τ.R S w x u.1
theorem ayg(hl:css.length=xs.length)(hR:∀(i:Nat)(x:α),xs[i]? = some x->∃ cs,css[i]? = some cs/\τ.R S w x cs):∃ us:List (Cells τ.k),us.map (·.1)=css/\Rel τ S w xs us:=by
  have hk:∀ cs∈css,cs.length=τ.k/\∀ v∈cs,v.oneCell'=true:=by
    intro cs hcs;obtain⟨i,hi,rfl⟩:=aef hcs;obtain⟨cs',h3,h4⟩:=hR i (xs[i]'aj) (Ij _);rw [Ij hi] at h3
    cases h3
    exact⟨τ.len h4,τ.one h4⟩
  obtain⟨us,hus⟩:=PD css hk;refine⟨us,hus,by rw [<- hl,<- hus,kF],?_⟩
  grind
theorem Own.raw(h:Own τ e lo S w A c xs):∃ us:List (Cells τ.k),Own (zD τ.k τ.pos) e lo No w A c us/\Rel τ S w xs us:=by
  obtain⟨css,hl,hR,hown⟩:=h;obtain⟨us,h1,h2⟩:=ayg hl hR
  grind [jc,FD]
theorem Own.ofRaw(h:Own (zD τ.k τ.pos) e lo S' w A c us)(hr:Rel τ S w xs us):Own τ e lo S w A c xs:=by
  have h1:=FD.1 h;rw [hr.1] at h1;refine⟨us.map (·.1),by simp [hr.1],λi x hx=>?_,by exact h1⟩;obtain⟨u,hu⟩:=bn (i:=i) (by rw [hr.1]; grind);exact⟨u.1,by grind,hr.2 i x u hx hu⟩
theorem Rel.append(h:Rel τ S w xs us)(h':Rel τ S w ys vs):Rel τ S w (xs++ys) (us++vs):=by
  refine⟨by simp [h.1,h'.1],λi x u hx hu=>?_⟩
  by_cases hi:i<xs.length
  · rw [WK hi] at hx
    rw [WK (by rw [h.1]; exact hi)] at hu;exact h.2 i x u hx hu
  · rw [Z0 aj] at hx
    rw [Z0 (by rw [h.1]; omega),h.1] at hu;exact h'.2 _ x u hx hu
theorem Rel.take(h:Rel τ S w xs us)(m:Nat):Rel τ S w (xs.take m) (us.take m):=by
  refine⟨by simp [h.1],λi x u hx hu=>?_⟩;rw [Wv] at hx hu
  split at hx
  · rename_i hi; rw [aS hi] at hu; exact h.2 i x u hx hu
  grind
theorem Rel.drop(h:Rel τ S w xs us)(m:Nat):Rel τ S w (xs.drop m) (us.drop m):=by
  refine⟨by simp [h.1],λi x u hx hu=>?_⟩;rw [F5] at hx hu;exact h.2 _ x u hx hu
theorem Rel.sub(h:Rel τ S w xs us)(hs:∀ b,S b->S' b):Rel τ S' w xs us:=⟨h.1,λi x u hx hu=>τ.sub hs (h.2 i x u hx hu)⟩
theorem Rel.grown(h:Rel τ S w xs us)(hg:ND w w' (blk A))(hS:∀ g,blk A=some g->¬ S g):Rel τ S w' xs us:=by
  refine⟨h.1,λi y u hx hu=>?_⟩;have:=h.2 i y u hx hu
  cases hA:blk A with
  | none=>rw [hA] at hg; exact τ.ext (by grind [Ext.xO]) this
  | some g=>rw [hA] at hg; exact τ.mod (by grind [Mod.xO]) (hS g hA) this
end
section
variable {P:Program}{w:World}
theorem R6{elem:TypeId}{o dl dc:Nat}{a:Addr}{sl sc:Nat}(hu:P.underlying dT=some (.slice elem))(hs:Size P elem k)(hg:Bx w g e cur)(hn:cs.length=Nat.min sl dl*k)
    (hsrc:∀ j v,cs[j]? = some v->w.cell? (a.add j)=some v) (hfit:o+cs.length<=cur.length) (h1:∀ v∈cs,v.oneCell'=true) :
    (Builtin.copy_ #[dT,sT] ty #[.slice (some ⟨g,o,none⟩) dl dc,.slice (some a) sl sc]).run P w=.ok (goInt (Nat.min sl dl)) (w.setRow g (cur.take o++cs++cur.drop (o+cs.length)).toArray):=by
  have hl:=ajs (P:=P) w a cs hsrc;have hst:=Z5 P g o e cs 0 cur.toArray w hg (by simpa using hfit) h1
  simp only [Nat.add_zero] at hst
  simp [Builtin.copy_,kV hu,Builtin.lenOf,Builtin.firstCells,hs w,<- hn,hl,hst]
theorem alC{elem:TypeId}{dl dc sl sc:Nat}(hu:P.underlying dT=some (.slice elem))(hs:Size P elem k)(hn:Nat.min sl dl=0) :
    (Builtin.copy_ #[dT,sT] ty #[.slice A dl dc,.slice B sl sc]).run P w=.ok (goInt 0) w:=by
  cases A <;> cases B <;> simp [Builtin.copy_,kV hu,Builtin.lenOf,Builtin.firstCells,hs w,hn,loadCells,loadCellsFrom,storeCells]
theorem sV(w:World)(g:Nat)(cs:Array Value):ND w (w.setRow g cs) (some g):=
  ⟨rfl,rfl,rfl,av,by grind [setRow_other],kJ _⟩
end
def over{k:Nat}(us:List (Cells k))(lo:Nat)(vs:List (Cells k)):List (Cells k):=us.take lo++vs.take (us.length - lo)++us.drop (lo+vs.length)
theorem KJ{us vs:List (Cells k)}(h:lo<=us.length):(over us lo vs).length=us.length:=by
  grind [over]
theorem aHB(a b:Nat):Nat.min a b=if a<=b then a else b:=Nat.min_def
theorem KL{L cs:List β}{p N:Nat}(h1:p+cs.length<=N)(h2:N<=L.length):(L.take p++cs++L.drop (p+cs.length)).take N=L.take p++cs++(L.take N).drop (p+cs.length):=by
  have hp:(L.take p).length=p:=by grind
  grind [List.take_of_length_le,List.take_append,List.drop_take,List.length_append]
theorem zS{L cs:List β}{p:Nat}(h1:p+cs.length<=L.length):(L.take p++cs++L.drop (p+cs.length)).length=L.length:=by
  grind
theorem Sl.R7{vs:List (Cells k)}(h:Sl (zD k pos) S w B d vs):∀ j v,(jc vs)[j]? = some v->w.cell? ((Ih B).add j)=some v:=by
  obtain⟨css,hl,hR,_,_,hc⟩:=h.cells
  have:css=vs.map (·.1):=by
    apply Gg;intro i;rw [rQ]
    cases hu:vs[i]? with
    | none=>grind
    | some u=>
      obtain⟨cs,h1,h2⟩:=hR i u hu;have h2:cs=u.1:=h2
      grind
  subst this;exact hc
theorem Own.open_{us:List (Cells k)}(h:Own (zD k pos) e lo S w A c us)(hc:0<c) :
    ∃ g cur,A=some ⟨g,0,none⟩/\lo<=g/\Bx w g e cur/\us.length<=c/\c<=maxLen/\cur.length=c*k/\cur.take (us.length*k)=jc us:=by
  have h1:=FD.1 h
  rcases h1.2 with ⟨hv,hn⟩ | ⟨g,cap,cur,hv,hg,hh,hnc,hcm,hcs,ht⟩
  · grind
  · injection hv with hA hn' hc'
    subst hA hc';exact⟨g,cur.toList,Y,hg,hh,hnc,hcm,by simpa using hcs,ht⟩
theorem Own.aBU{us:List (Cells k)}(hg:lo<=g)(hb:Bx w g e cur)(hnc:us.length<=c)(hcm:c<=maxLen)(hcs:cur.length=c*k)(ht:cur.take (us.length*k)=jc us):Own (zD k pos) e lo S w (some ⟨g,0,none⟩) c us:=
  FD.2 ⟨jH us,.inr ⟨g,c,cur.toArray,rfl,hg,hb,hnc,hcm,by simpa using hcs,by simpa using ht⟩⟩
def R8:=@Own.aBU
theorem D7(h:c≠lo):sS (some ⟨g,0,none⟩) c lo k=some ⟨g,lo*k,none⟩:=by
  simp_all [sS,aP,Pn]
section
variable {P:Program}{n:Cx}{l:List (Nat × Value)}{w:World}{Q:Exit->Act->World->Prop}{K:Act->World->Prop}{bY:Array Oper}{os:List Oper}{ty:TypeId}{pos:String}{mO:Array Edge}{d:Nat}
theorem aem{kp:0<k}{d2:Nat}{us vs:List (Cells k)}(hu:P.underlying dT=some (.slice e))(hs:Size P e k)
    (ho:Own (zD k kp) e lo0 S w A c us) (hv:Sl (zD k kp) S2 w B d2 vs) (hlo:lo<=us.length) :
    ∃ w',(Builtin.copy_ #[dT,sT] ty #[.slice (sS A c lo k) (us.length - lo) (c - lo),.slice B vs.length d2]).run P w=.ok (goInt (Nat.min vs.length (us.length - lo))) w'/\Own (zD k kp) e lo0 S w' A c (over us lo vs)/\ND w w' (blk A)/\w'.heap.size=w.heap.size:=by
  by_cases h0:Nat.min vs.length (us.length - lo)=0
  · refine⟨w,by grind [alC],?_,⟨rfl,rfl,rfl,kJ _,av,kJ _⟩,rfl⟩
    have:over us lo vs=us:=by
      unfold over
      by_cases h1:vs.length=0
      · simp_all
      · have h2:lo=us.length:=by grind
        simp [*]
    grind
  · have hm:0<us.length - lo/\0<vs.length:=by grind
    have hc:us.length<=c:=(ho.sl (S':=Any) (λ_ _=>trivial) (λ_ _=>trivial)).cap;obtain⟨g,cur,rfl,hg,hb,hnc,hcm,hcl,ht⟩:=ho.open_ aj;have hB:B=some (Ih B):=hv.some_ (x:=vs[0]'aj) (Ij _);have hmin:Nat.min vs.length (us.length - lo)=(vs.take (us.length - lo)).length:=by grind
    have ahH:(jc (vs.take (us.length - lo))).length=Nat.min vs.length (us.length - lo)*k:=by grind [jH]
    have hle:(lo+Nat.min vs.length (us.length - lo))<=us.length:=by grind
    have aHC:lo*k+(jc (vs.take (us.length - lo))).length<=us.length*k:=by rw [ahH,<- Bl]; exact zO _ hle
    have hnk:us.length*k<=cur.length:=by rw [hcl]; exact zO _ hnc
    rw [D7 aj,hB];refine⟨_,R6 hu hs hb ahH (λj v hj=>hv.R7 j v ?_) aj GH,?_,sV w g _,av⟩
    · rw [<- En,Wv] at hj
      grind
    · refine R8 hg (KD w g _ _ e _ hb) (by grind [KJ]) hcm (by grind) ?_
      rw [KJ hlo,KL aHC hnk,ht]
      have e1:cur.take (lo*k)=jc (us.take lo):=by
        rw [<- En,<- ht,RY,WM (zO _ hlo)]
      have e2:(jc us).drop (lo*k+(jc (vs.take (us.length - lo))).length)=jc (us.drop (lo+vs.length)):=by
        rw [ahH,<- Bl,Ip]
        by_cases h3:vs.length<=us.length - lo
        · grind
        · grind [List.drop_of_length_le]
      grind [over,zR]
theorem WL.ajx{kp:0<k}{d2:Nat}{us vs:List (Cells k)}(hx:gY l x=some (.slice (sS A c lo k) (us.length - lo) (c - lo)))(hy:gY l y=some (.slice B vs.length d2))
    (hu:P.underlying dT=some (.slice e)) (hs:Size P e k) (ho:Own (zD k kp) e lo0 S w A c us) (hv:Sl (zD k kp) S2 w B d2 vs) (hlo:lo<=us.length) (hd:Nat.blt d n.size=true)
    (kk:∀ w' v,Own (zD k kp) e lo0 S w' A c (over us lo vs)->ND w w' (blk A)->w'.heap.size=w.heap.size->WL P n bY Q K os ((d,v)::l) w'):WL P n bY Q K (⟨some d,.call ⟨.builtin .copy,#[x,y],#[dT,sT]⟩,ty,pos,mO,none⟩::os) l w:=by
  obtain⟨w',hrun,h1,h2,h3⟩:=aem (sT:=sT) (ty:=ty) hu hs ho hv hlo;refine Ej (v:=goInt (Nat.min vs.length (us.length - lo))) (by simp [fZ]) rfl hd (R:=λw2=>w2=w') (λa ha=>⟨w',?_,rfl⟩) (by grind);unfold execOp
  simp only [resolve,jO,lK,jP,invoke,builtin,wh,mR,xk,ha.eval hx,ha.eval hy,hrun]
def Gap{k:Nat}(e:TypeId)(lo0:Nat)(w:World)(A:ah)(c:Nat)(us:List (Cells k))(i m:Nat):Prop:=
  ∃ g cur,A=some ⟨g,0,none⟩/\lo0<=g/\Bx w g e cur/\us.length+m<=c/\c<=maxLen/\cur.length=c*k/\cur.take (i*k)=jc (us.take i)/\(cur.drop ((i+m)*k)).take ((us.length - i)*k)=jc (us.drop i)
theorem WL.alD{kp:0<k}{us:List (Cells k)}
    (hx:gY l x=some (.slice (sS A c (i+m) k) (us.length+m - (i+m)) (c - (i+m)))) (hy:gY l y=some (.slice (sS A c i k) (us.length+m - i) (c - i)))
    (hu:P.underlying dT=some (.slice e)) (hs:Size P e k) (ho:Own (zD k kp) e lo0 S w A c us) (hi:i<us.length) (hm:us.length+m<=c) (hd:Nat.blt d n.size=true)
    (kk:∀ w' v,Gap e lo0 w' A c us i m->ND w w' (blk A)->w'.heap.size=w.heap.size->WL P n bY Q K os ((d,v)::l) w'):WL P n bY Q K (⟨some d,.call ⟨.builtin .copy,#[x,y],#[dT,sT]⟩,ty,pos,mO,none⟩::os) l w:=by
  obtain⟨g,cur,rfl,hg,hb,hnc,hcm,hcl,ht⟩:=ho.open_ aj
  have ahH:(jc (us.drop i)).length=Nat.min (us.length+m - i) (us.length+m - (i+m))*k:=by
    rw [jH,rR,show Nat.min (us.length+m - i) (us.length+m - (i+m))=us.length - i from by rw [aHB]; split <;> omega]
  have hik:i*k<=us.length*k:=zO _ aj
  have hsrc:∀ j v,(jc (us.drop i))[j]? = some v->w.cell? ((⟨g,i*k,none⟩:Addr).add j)=some v:=by
    intro j v hj;rw [Pn,hb.cell];rw [<- Ip,F5,<- ht,Wv] at hj
    split at hj
    · exact hj
    · cases hj
  have hfit:(i+m)*k+(jc (us.drop i)).length<=cur.length:=by
    rw [jH,rR,<- Bl,hcl]; exact zO _ aj
  have hrun:=R6 (sT:=sT) (ty:=ty) (dc:=c - (i+m)) (sc:=c - i) hu hs hb ahH hsrc hfit GH;rw [D7 aj] at hx hy
  refine Ej (v:=goInt (Nat.min (us.length+m - i) (us.length+m - (i+m)))) (λa _=>fZ a) Y hd (R:=λw2=>w2=_) (λa ha=>⟨_,?_,Y⟩) λw2 e=>by
    rw [e];refine kk _ _ ⟨g,_,Y,hg,KD w g _ _ _ _ hb,hm,hcm,by rw [zS hfit]; exact hcl,?_,?_⟩ (sV w g _) (by simp [World.setRow])
    · have h1:i*k<=(i+m)*k:=zO _ aj
      have h2:(cur.take ((i+m)*k)).length=(i+m)*k:=by simp only [iF]; omega
      rw [pE,WO aj,RY,WM h1,<- En,<- ht,RY,WM hik]
    · have h2:(cur.take ((i+m)*k)).length=(i+m)*k:=by simp only [iF]; omega
      rw [pE,List.drop_append_of_le_length aj,Gf aj,KG];rw [WO (by rw [jH,rR]; exact kJ _),gV (by rw [jH,rR]; exact kJ _)]
  unfold execOp
  simp only [resolve,jO,lK,jP,invoke,builtin,wh,mR,xk,ha.eval hx,ha.eval hy,hrun]
theorem WL.auc{kp:0<k}{d2:Nat}{us vs:List (Cells k)}
    (hx:gY l x=some (.slice (sS A c i k) (us.length+m - i) (c - i))) (hy:gY l y=some (.slice B vs.length d2))
    (hu:P.underlying dT=some (.slice e)) (hs:Size P e k) (ho:Gap e lo0 w A c us i m) (hv:Sl (zD k kp) S2 w B d2 vs) (hm:vs.length=m) (h0:0<m) (hi:i<us.length) (hd:Nat.blt d n.size=true)
    (kk:∀ w' v,Own (zD k kp) e lo0 S w' A c (us.take i++vs++us.drop i)->ND w w' (blk A)->w'.heap.size=w.heap.size->WL P n bY Q K os ((d,v)::l) w'):WL P n bY Q K (⟨some d,.call ⟨.builtin .copy,#[x,y],#[dT,sT]⟩,ty,pos,mO,none⟩::os) l w:=by
  obtain⟨g,cur,rfl,hg,hb,hnc,hcm,hcl,h1,h2⟩:=ho;have hB:B=some (Ih B):=hv.some_ (i:=0) (x:=vs[0]'aj) (Ij _);have hmin:Nat.min vs.length (us.length+m - i)=m:=by grind
  have ahH:(jc vs).length=Nat.min vs.length (us.length+m - i)*k:=by grind [jH]
  have hfit:i*k+(jc vs).length<=cur.length:=by rw [jH,<- Bl,hcl]; exact zO _ aj
  have hrun:=R6 (P:=P) (sT:=sT) (ty:=ty) (dc:=c - i) (sc:=d2) hu hs hb ahH hv.R7 hfit GH;rw [D7 aj] at hx;rw [hB] at hy;have hlen:(us.take i++vs++us.drop i).length=us.length+m:=by grind
  refine Ej (v:=goInt (Nat.min vs.length (us.length+m - i))) (by simp [fZ]) rfl hd (R:=λw2=>w2=_) (λa ha=>⟨_,?_,rfl⟩) λw2 e=>by
    rw [e];refine kk _ _ (R8 hg (KD w g _ _ _ _ hb) aj hcm (by rw [zS hfit]; exact hcl) ?_) (sV w g _) av
    grind [KL,jH,Nat.add_mul,Nat.mul_le_mul_right,zR,List.drop_take,Nat.sub_mul]
  unfold execOp
  simp only [resolve,jO,lK,jP,invoke,builtin,wh,mR,xk,ha.eval hx,ha.eval hy,hrun]
end
structure wz (P:Program) (e:TypeId) (k bytes:Nat):Prop where
  ex:∃(i:TypeInfo)(z:Value),P.info? e=some i/\i.zero=some z/\i.size=k/\i.bytes=bytes/\z.cells.size=k/\∀ v∈z.cells.toList,v.oneCell'=true
theorem aad(u:Cells k):∀(m j:Nat),j<m*k->(jc (List.replicate m u))[j]? = u.1[j % k]?
  | 0,j,h=>by omega
  | m+1,j,h=>by
    have h0:=u.2.1;have e:jc (List.replicate (m+1) u)=u.1++jc (List.replicate m u):=by simp [jc,List.replicate_succ]
    rw [e]
    by_cases hj:j<k
    · rw [WK aj,Nat.mod_eq_of_lt hj]
    · have h3:j - k<m*k:=by rw [Bl] at h; omega
      have h4:j % k=(j - k) % k:=Nat.mod_eq_sub_mod aj;rw [Z0 aj,h0,aad u m (j - k) h3,h4]
theorem KM(z:Array Value)(u:Cells k)(hu:z.toList=u.1)(m:Nat)(kp:0<k):(Builtin.zeroCells z m).toList=jc (List.replicate m u):=by
  have hz:z.size=k:=by grind
  apply Gg;intro j
  by_cases hj:j<m*k
  · rw [aad u m j hj]
    grind [Builtin.zeroCells,Nat.mod_lt,Array.getElem?_eq_getElem,Array.toList_map]
  grind [jc,List.replicate,Builtin.zeroCells,List.getElem?_eq_none,jH,List.length_replicate,Array.length_toList,Array.size_map,Array.size_range]
section
variable {P:Program}{n:Cx}{l:List (Nat × Value)}{w:World}{Q:Exit->Act->World->Prop}{K:Act->World->Prop}{bY:Array Oper}{os:List Oper}{ty:TypeId}{pos:String}{mO:Array Edge}{d:Nat}
theorem WL.ahI{kp:0<k}{ti:TypeId}{us:List (Cells k)}(hs:gY l s=some (.slice A us.length c))(hx:gY l x=some (aI (m:Int)))(hT:P.underlying t=some (.slice e))(hi:P.underlying ti=some (.int .i64))
    (hz:wz P e k bytes) (hu:Sl (zD k kp) S w A c us) (hc:c<us.length+m) (h0:0<m) (h1:us.length<=1000000) (h2:m<=1000000) (hby:Nat.ble bytes 1000=true) (hd:Nat.blt d n.size=true)
    (kk:∀ g c' w' (z:Cells k),Own (zD k kp) e w.heap.size No w' (some ⟨g,0,none⟩) c' (us++List.replicate m z)->Ext w w'->WL P n bY Q K os ((d,.slice (some ⟨g,0,none⟩) (us.length+m) c')::l) w') :
    WL P n bY Q K (⟨some d,.call ⟨.builtin .append,#[s,x],#[t,ti]⟩,ty,pos,mO,none⟩::os) l w:=by
  obtain⟨i,z,z1,z2,z3,z4,z5,z6⟩:=hz.ex
  have hb:bytes<=1000:=nX hby
  have hmul:(us.length+m)*bytes<=2000000*1000:=Oh aj hb;have aKM:m*bytes<=1000000*1000:=Oh h2 hb
  have eO:(Builtin.firstCells i.size us.length (.slice A us.length c)).run P w.drew=.ok (jc us).toArray w.drew:=by
    rw [z3]
    by_cases hn:us.length=0
    · have:us=[]:=qF hn
      subst this
      cases A <;> simp [Builtin.firstCells,loadCells,loadCellsFrom,jc]
    · have hA:A=some (Ih A):=hu.some_ (x:=us[0]'aj) (Ij _)
      rw [hA];exact run_firstCells_some w.drew k us.length (Ih A) _ _ (jc us) (jH us) (λj v hj=>hu.R7 j v hj)
  obtain⟨W2,hW2,hrun⟩:∃ W2,W2=w.drew.alloc (.cells ((jc us).toArray++Builtin.zeroCells z.cells m++Builtin.zeroCells z.cells (grownCap w (us.length+m) c e - (us.length+m))) e)/\(Builtin.append_ #[t,ti] ty #[.slice A us.length c,aI (m:Int)]).run P w=.ok (.slice (some ⟨w.heap.size,0,none⟩) (us.length+m) (grownCap w (us.length+m) c e)) W2:=⟨_,rfl,Lib.run_append_grow_zeros (P:=P) w t ti ty e i z .i64 .i64 hT hi z1 z2 A us.length c (jc us) eO m h0 aj hc aj (by grind) (growslice_fits hc (by grind))⟩
  refine Ej (v:=.slice (some ⟨w.heap.size,0,none⟩) (us.length+m) (grownCap w (us.length+m) c e)) (λa _=>fZ a) Y hd (R:=λw2=>w2=W2) (λa ha=>⟨W2,?_,Y⟩) λw2 e'=>by
    rw [e',hW2];have hzc:z.cells.toList.length=k:=aj;refine kk _ _ _ ⟨z.cells.toList,hzc,z6⟩ ?_ ⟨Y,Y,Y,av,λk hk=>Below.heap_alloc w.drew _ k hk,abk _⟩;have hf:=λm=>KM (k:=k) z.cells ⟨z.cells.toList,hzc,z6⟩ rfl m kp;have hge:=grownCap_ge w (us.length+m) c e;have hle:=grownCap_le_maxLen w (us.length+m) c e (by simp only [maxLen]; omega);refine R8 (cur:=jc us++jc (List.replicate m ⟨z.cells.toList,hzc,z6⟩)++jc (List.replicate (grownCap w (us.length+m) c e - (us.length+m)) ⟨z.cells.toList,hzc,z6⟩)) (kJ _) ?_ ?_ ?_ ?_ ?_
    · rw [<- hf,<- hf]
      have ea:(jc us).toArray++Builtin.zeroCells z.cells m++Builtin.zeroCells z.cells (grownCap w (us.length+m) c e - (us.length+m))=(jc us++(Builtin.zeroCells z.cells m).toList++(Builtin.zeroCells z.cells (grownCap w (us.length+m) c e - (us.length+m))).toList).toArray:=by simp
      rw [ea];exact Bx.new w.drew e _
    · grind
    · exact hle
    · simp only [jG,jH,RZ,<- Bl]; grind
    · rw [WO (by simp only [jG,jH,RZ,<- Bl]; exact kJ _),gV (by simp only [jG,jH,RZ,<- Bl]; exact kJ _),zR]
  unfold execOp
  simp only [resolve,jO,lK,jP,invoke,builtin,wh,mR,xk,ha.eval hs,ha.eval hx,hrun]
end
def overlay(cs:List Value)(f:Nat)(ds:List Value):List Value:=cs.take f++ds++cs.drop (f+ds.length)
section
variable {P:Program}{n:Cx}{l:List (Nat × Value)}{w:World}{Q:Exit->Act->World->Prop}{K:Act->World->Prop}{bY:Array Oper}{os:List Oper}{ty:TypeId}{pos:String}{mO:Array Edge}{d:Nat}
theorem Own.whole(h:Own τ e lo S w A c xs)(hc:0<xs.length) :
    ∃ g cur us,A=some ⟨g,0,none⟩/\lo<=g/\Bx w g e cur/\xs.length<=c/\c<=maxLen/\cur.length=c*τ.k/\cur.take (xs.length*τ.k)=jc us/\Rel τ S w xs us:=by
  obtain⟨us,h1,h2⟩:=h.raw;have hcap:=(h1.sl (S':=Any) (λ_ _=>trivial) (λ_ _=>trivial)).cap;obtain⟨g,cur,h3,h4,h5,h6,h7,h8,h9⟩:=h1.open_ (by rw [h2.1] at hcap; omega);rw [h2.1] at h6 h9
  grind
theorem alE(us:List (Cells k))(i f:Nat)(u v:Cells k)(ds:List Value)(hu:us[i]? = some u)(hv:v.1=overlay u.1 f ds)(hf:f+ds.length<=k) :
    (jc us).take (i*k+f)++ds++(jc us).drop (i*k+f+ds.length)=jc (us.set i v):=by
  have hi:i<us.length:=aM hu;have hsplit:us=us.take i++u::us.drop (i+1):=by grind [List.getElem?_eq_some_iff,List.getElem_cons_drop,List.take_append_drop]
  have hset:us.set i v=us.take i++v::us.drop (i+1):=by grind
  have h0:=u.2.1;have hl:(jc (us.take i)).length=i*k:=by grind [jH]
  have e:jc us=jc (us.take i)++(u.1++jc (us.drop (i+1))):=by grind [jc]
  rw [hset,zR,e];have a1:(jc (us.take i)).take (i*k+f)=jc (us.take i):=gV aj;have a2:(jc (us.take i)).drop (i*k+f+ds.length)=[]:=Gf aj;rw [List.take_append,List.drop_append,hl,a1,a2,KG];rw [show i*k+f - i*k=f from by omega,show i*k+f+ds.length - i*k=f+ds.length from by omega];rw [WO aj,List.drop_append_of_le_length aj]
  grind [jc,overlay]
theorem Zv{f:Nat}{x x':α}(ho:Own τ e lo S w A c xs)(hx:xs[i]? = some x)(hv:v.cells=ds.toArray)(hs:Size P t ds.length)
    (hf:f+ds.length<=τ.k) (h1:∀ u∈ds,u.oneCell'=true) (hS:∀ g,blk A=some g->¬ S g) (hR:∀ w' cs,ND w w' (blk A)->τ.R S w x cs->τ.R S w' x' (overlay cs f ds)) :
    ∃ w',(Instr.storeAt t (.pointer (some ((Ih A).add (i*τ.k+f)))) v).run P w=.ok () w'/\Own τ e lo S w' A c (xs.set i x')/\ND w w' (blk A)/\w'.heap.size=w.heap.size:=by
  have hi:=aM hx;obtain⟨g,cur,us,rfl,hg,hb,hnc,hcm,hcl,ht,hrel⟩:=ho.whole aj;have hik:i*τ.k+τ.k<=xs.length*τ.k:=by rw [<- Nat.succ_mul]; exact zO _ hi
  have hnk:xs.length*τ.k<=cur.length:=by rw [hcl]; exact zO _ hnc
  have had:(Ih (some ⟨g,0,none⟩)).add (i*τ.k+f)=⟨g,i*τ.k+f,none⟩:=by simp [Ih,Pn]
  have hst:=Z5 P g (i*τ.k+f) e ds 0 cur.toArray w hb (by simpa using by omega) h1;have hgr:=sV w g (cur.take (i*τ.k+f)++ds++cur.drop (i*τ.k+f+ds.length)).toArray;obtain⟨u,hu⟩:=bn (by rw [hrel.1]; exact hi);have hRu:=hR _ _ hgr (hrel.2 i x u hx hu);refine⟨_,?_,?_,hgr,by simp [World.setRow]⟩
  · rw [had]
    simp only [Instr.storeAt,Instr.sureAddr,storeVar,hv,jO,lK,jP,hs w]
    simp only [Wu,ne_eq,not_true_eq_false,if_false,jO,lK,jP]
    rw [hst]
    simp
  · let v':Cells τ.k:=⟨overlay u.1 f ds,τ.len hRu,τ.one hRu⟩
    have hlen:(us.set i v').length=xs.length:=by rw [gW,hrel.1]
    refine Own.ofRaw (S':=No) (R8 hg (KD w g _ _ e _ hb) (by rw [hlen]; exact hnc) hcm (by rw [zS aj]; exact hcl) ?_) ⟨by rw [hlen,gW],?_⟩
    · rw [hlen,KL aj hnk,ht,<- alE us i f u v' ds hu rfl hf]
      congr 2
      rw [<- ht,RY,WM aj]
    · intro j y u' hy hu'
      by_cases hj:i=j
      · subst hj
        rw [rT hi] at hy;rw [rT (by rw [hrel.1]; exact hi)] at hu'
        cases hy; cases hu'
        exact hRu
      · rw [Io hj] at hy hu'
        exact(hrel.grown hgr hS).2 j y u' hy hu'
theorem WL.alF{f:Nat}{x x':α}{p:Operand}{q:Addr}(hp:gY l p=some (.pointer (some q)))(hy:gY l y=some v)(hq:q=(Ih A).add (i*τ.k+f))
    (ho:Own τ e lo S w A c xs) (hx:xs[i]? = some x) (hv:v.cells=ds.toArray) (hs:Size P t ds.length)
    (hf:f+ds.length<=τ.k) (h1:∀ u∈ds,u.oneCell'=true) (hS:∀ g,blk A=some g->¬ S g) (hR:∀ w' cs,ND w w' (blk A)->τ.R S w x cs->τ.R S w' x' (overlay cs f ds))
    (kk:∀ w',Own τ e lo S w' A c (xs.set i x')->ND w w' (blk A)->w'.heap.size=w.heap.size->WL P n bY Q K os l w'):WL P n bY Q K (⟨none,.store t p y,ty,pos,mO,none⟩::os) l w:=by
  obtain⟨w',hrun,h2,h3,h4⟩:=Zv (x':=x') ho hx hv hs hf h1 hS hR;exact Pv (by simp [fZ]) rfl (λa ha=>⟨w',by unfold execOp; simp [ha.eval hp,ha.eval hy,hq,hrun],rfl⟩) (by grind)
theorem WR{kp:0<k}{us:List (Cells k)}(hT:P.underlying t=some (.slice e))(hz:wz P e k bytes)(ho:Own (zD k kp) e lo S w A c us)(hm:us.length+m<=c) :
    ∃ w',(Builtin.clear_ #[t] ty #[.slice (sS A c us.length k) m (c - us.length)]).run P w=.ok (.tuple #[]) w'/\Own (zD k kp) e lo S w' A c us/\ND w w' (blk A)/\w'.heap.size=w.heap.size:=by
  by_cases h0:m=0
  · subst h0
    refine⟨w,?_,ho,⟨Y,Y,Y,kJ _,λ_ _ _=>Y,kJ _⟩,Y⟩
    cases hc:sS A c us.length k <;> simp [Builtin.clear_,kV hT]
  · obtain⟨g,cur,rfl,hg,hb,hnc,hcm,hcl,ht⟩:=ho.open_ aj
    obtain⟨i,z,z1,z2,z3,z4,z5,z6⟩:=hz.ex;have hzc:z.cells.toList.length=k:=by rw [Array.length_toList]; exact z5
    have hf:=KM z.cells ⟨z.cells.toList,hzc,z6⟩ rfl m kp;have hlen:(Builtin.zeroCells z.cells m).toList.length=m*k:=by rw [hf,jH,RZ]
    have hfit:us.length*k+(Builtin.zeroCells z.cells m).toList.length<=cur.length:=by rw [hlen,<- Bl,hcl]; exact zO _ hm
    have hst:=Z5 P g (us.length*k) e (Builtin.zeroCells z.cells m).toList 0 cur.toArray w hb (by simpa using hfit) (by rw [hf]; exact GH)
    simp only [Nat.add_zero] at hst
    rw [D7 aj];refine⟨_,?_,R8 hg (KD w g _ (cur.take (us.length*k)++(Builtin.zeroCells z.cells m).toList++cur.drop (us.length*k+(Builtin.zeroCells z.cells m).toList.length)).toArray e _ hb) hnc hcm (by rw [zS hfit]; exact hcl) ?_,sV w g _,by simp [World.setRow]⟩
    · obtain⟨m',rfl⟩:∃ m',m=m'+1:=⟨m - 1,aj⟩
      have hzv:∀ w,(zeroValue e).run P w=.ok z w:=λw=>by simp [zeroValue,typeInfo,z1,z2]
      simp only [Builtin.clear_,List.getElem?_toArray,List.getElem?_cons_zero,jO,lK,jP,kV hT,hzv]
      rw [hst]
      simp
    · rw [pE,WO (by simp only [iF]; omega),RY,Nat.min_self,ht]
end
section
variable {P:Program}{n:Cx}{l:List (Nat × Value)}{w:World}{t e:TypeId}{x:Operand}
theorem Ev.ayh{hi:Nat}{kh:IntKind}{zh:Int}{yh:Operand}(hu:P.underlying t=some (.slice e))(hs:Size P e k)(hx:gY l x=some (.slice A m c))(hh:gY l yh=some (.int kh zh))
    (h2:zh=(hi:Int)) (h4:hi<=c):Ev P n l w (.slice t x none (some yh) none) (.slice A hi c):=λo a w' ho ha _=>by
  have hcz:=ML A c k;unfold sS at hcz;unfold execOp; rw [ho]
  have h6:(Instr.sliceAt t (.slice A m c) none (some (.int kh zh)) none).run P w'=.ok (.slice A hi c) w':=by
    rw [Oi w' t _ _ _ _ (rD hu),run_slice_h w' t A m c (rD hu) kh zh aj aj,Dz hu,hs w',h2]
    simp only [jP,sliced,RS,Ur]
    rw [hcz]
  simp [ha.eval hx,ha.eval hh,h6]
def R9:=@Ev.ayh
theorem Ev.aov{kl:IntKind}{zl:Int}{yl:Operand}(hu:P.underlying t=some (.slice e))(hs:Size P e k)(hx:gY l x=some (.slice A m c))(hl:gY l yl=some (.int kl zl))
    (h1:zl=(lo:Int)) (h3:lo<=m) (h5:m<=c):Ev P n l w (.slice t x (some yl) none none) (.slice (sS A c lo k) (m - lo) (c - lo)):=λo a w' ho ha _=>by
  unfold execOp; rw [ho]
  have h6:(Instr.sliceAt t (.slice A m c) (some (.int kl zl)) none none).run P w'=.ok (.slice (sS A c lo k) (m - lo) (c - lo)) w':=by
    rw [Oi w' t _ _ _ _ (rD hu),run_slice_l w' t A m c (rD hu) kl zl aj aj,Dz hu,hs w',h1]
    simp [sliced,sS]
  simp [ha.eval hx,ha.eval hl,h6]
def Eo:=@Ev.aov
end
section
variable {P:Program}{n:Cx}{l:List (Nat × Value)}{w:World}{Q:Exit->Act->World->Prop}{K:Act->World->Prop}{bY:Array Oper}{os:List Oper}{ty:TypeId}{pos:String}{mO:Array Edge}{d:Nat}
theorem WL.extern{KA:Operand}{args:List Operand}{tys:Array TypeId}{f:FuncId}{caps vs all:List Value}
    (hf:gY l KA=some (.func (.func f) #[] caps.toArray)) (hargs:Fp l args=some vs) (hall:vs++caps=all) (hc:(callFunc f all.toArray).run P w=.ok (.value v) w) (hd:Nat.blt d n.size=true)
    (k:WL P n bY Q K os ((d,v)::l) w):WL P n bY Q K (⟨some d,.call ⟨.value KA,args.toArray,tys⟩,ty,pos,mO,none⟩::os) l w:=by
  refine Ej (v:=v) (by simp [fZ]) rfl hd (λa ha=>⟨w,?_,rfl⟩) (by grind);unfold execOp;have h1:=ha.eval hf;have h2:=ha.Ut hargs
  grind [resolve,Deferred.ofValue,invoke,Array.map]
theorem aen(h:Bx w g t cs):w.shape? g=some (t,cs.length):=by
  grind [Bx,World.shape?]
theorem U5{f:FuncId}{fn:Func}{tS tR:TypeId}{gv:Nat}{ev e2:TypeId}{la ca ob lb cb:Nat}(hf:P.funcs[f]? = some fn)(hname:(fn.name == "runtime.NumGoroutine")=false)(hb:fn.body.isNone=true)(hn:Extern.findNext fn=none)
    (he:Extern.find fn=some (Extern.SlicesOverlaps.overlaps #[tS,tS] #[tR])) (ht:P.underlying tS=some (.slice e)) (hs:Size P e k) (hv:Bx w gv ev cs) (hg:Bx w g e2 ds) (hne:gv≠g) (h0:0<ds.length) :
    (callFunc f #[.slice (some ⟨gv,0,none⟩) la ca,.slice (some ⟨g,ob,none⟩) lb cb]).run P w=.ok (.value (.bool false)) w:=by
  rw [run_callFunc_extern hf hname hb hn he];rw [Lib.run_overlaps_apart w tS tR e ht k hs ⟨gv,0,none⟩ ⟨g,ob,none⟩ la ca lb cb hne ev e2 cs.length ds.length (aen hv) (aen hg) aj (hv.frozen 0) (hv.frozen _)]
  rfl
end
section
variable {P:Program}{n:Cx}{l l':List (Nat × Value)}{w w':World}{Q:Exit->Act->World->Prop}{K:Act->World->Prop}{bY:Array Oper}{fuel:Nat}{aW:Array Bool}
theorem WH.aBV(i:Nat){pos:String}{mO:Array Edge}(hi:bY[i]? = some ⟨some d,op,ty,pos,mO,none⟩)(hs:Region.noSelect bY=true)(hf:Region.free .any bY aW i=true)
    (hr:(Region.ready .any bY aW).contains i=true) (he:∀ w0,Ev P n l w0 op v) (hd:Nat.blt d n.size=true) (k:WH P n bY K (λ_=>True) fuel (aW.setIfInBounds i true) ((d,v)::l) w) :
    WH P n bY K (λ_=>True) (fuel+1) aW l w:=λa ha=>
  wpAnyH_take hi hs hf hr (λ_ _ _ h=>h) (.inl ⟨fZ a,λw' _=>he w' _ a w' rfl ha (pW w')⟩) trivial (k _ (ha.put hd v))
def xC:=@WH.aBV
end
theorem ajy(us:List α)(u:α)(h:i=us.length):us.take i++[u]++us.drop i=us++[u]:=by grind
theorem ajz(a r vs:List (Cells k))(i m:Nat)(h1:a.length=i)(h2:vs.length=m)(h3:m<=r.length):over (a++r) i vs=a++vs++r.drop m:=by
  subst h1 h2;have h4:(a++r).take a.length=a:=List.take_left' rfl;have h5:vs.take ((a++r).length - a.length)=vs:=gV (by rw [jG]; omega)
  have h6:(a++r).drop (a.length+vs.length)=r.drop vs.length:=by
    have h7:a.drop (a.length+vs.length)=[]:=Gf aj;rw [List.drop_append,h7,KG]
    congr 1; omega
  unfold over;rw [h4,h5,h6]
theorem aow(us:List (Cells k))(u z:Cells k)(h:i<=us.length):over (over (us.take i++List.replicate (us.length+1 - i) z) i [u]) (i+1) (us.drop i)=us.take i++[u]++us.drop i:=by
  have h1:(us.take i).length=i:=by grind
  rw [ajz (us.take i) (List.replicate (us.length+1 - i) z) [u] i 1 h1 rfl (by grind),List.drop_replicate];rw [ajz (us.take i++[u]) _ (us.drop i) (i+1) (us.length - i) (by grind) (by rw [rR]) (by grind),List.drop_replicate]
  grind
theorem Ext.alG{w1 w2 w3:World}(e:Ext w w1)(h2:ND w1 w2 (some g))(h3:ND w2 w3 (some g))(hg:w.heap.size<=g):ND w w3 X:=
  have e2:Ext w w3:=(e.mod (ax8 h2 (λk hk=>by cases hk; rfl)) hg).mod (ax8 h3 (λk hk=>by cases hk; rfl)) hg
  ⟨e2.os,e2.tape,e2.output,e2.size,λk hk _=>e2.block k hk,e2.drawn⟩
theorem abu{w1 w2:World}(h1:ND w w1 X)(h2:ND w1 w2 X):ND w w2 X:=
  ⟨h2.os.trans h1.os,h2.tape.trans h1.tape,h2.output.trans h1.output,lI h1.size h2.size,λk hk hn=>(h2.block k (abl hk h1.size) hn).trans (h1.block k hk hn),lI h1.drawn h2.drawn⟩
theorem Rel.one{x:α}{u:Cells τ.k}(h:τ.R S w x u.1):Rel τ S w [x] [u]:=by
  refine⟨Y,λi y v hy hv=>?_⟩
  grind
section
variable {P:Program}{n:Cx}{l:List (Nat × Value)}{w:World}{t ty d:TypeId}{x y:Operand}{k k':IntKind}{m:Nat}
theorem Ev.aud(hs:(P.underlying t).isSome=true)(hd:P.underlying d=some (.int (P.intKind d)))(hk:P.intKind d=k')(hx:gY l x=some (.int k (m:Int)))(hw:k'.wrap (m:Int)=(m:Int)):Ev P n l w (.convert t d x) (.int k' (m:Int)):=by
  have:=Py (n:=n) (w:=w) hs hd hk hx
  grind
def Ep:=@Ev.aud
theorem zT(h:m<=9223372036854775807):IntKind.u64.wrap (m:Int)=(m:Int):=by grind [IntKind.wrap_u64]
theorem wQ(h:m<=9223372036854775807):IntKind.i64.wrap (m:Int)=(m:Int):=(zP aj aj).wrap
theorem Ev.aox(hx:gY l x=some (.int .u64 (m:Int)))(hy:gY l y=some (.int .u64 1)):Ev P n l w (.binOp .shr t x y ty) (.int .u64 ((m / 2:Nat):Int)):=λo a w' ho ha _=>by
  unfold execOp; rw [ho];have e:((m / 2:Nat):Int)=(m:Int) / 2 ^ (1:Int).toNat:=by simp
  rw [e]
  simp [ha.eval hx,ha.eval hy,eqGuard_shr,binOp_shr,shift_shr .u64 .u64 (m:Int) 1 aj au]
end
def lok:List (Nat × Value)->Nat->Option Value
  | [],_=>none
  | p::l,i=>match Nat.beq i p.1 with
    | true=>some p.2
    | false=>lok l i
theorem aoy:∀(l:List (Nat × Value))(i:Nat),lok l i=look l i
  | [],_=>rfl
  | p::l,i=>by
    unfold lok look
    have e:Nat.beq i p.1=Nat.beq p.1 i:=by
      cases h:Nat.beq p.1 i with
      | true=>rw [Uo h]; exact Nat.beq_refl _
      | false=>
        cases h2:Nat.beq i p.1 with
        | false=>rfl
        | true=>rw [Uo h2,Nat.beq_refl] at h; cases h
    rw [e,aoy l i]
    cases Nat.beq p.1 i <;> rfl
def lkA(l:List (Nat × Value)):List (Nat × Value)->List (Option Value)
  | []=>[]
  | p::r=>look l p.1::lkA l r
def lkB(l:List (Nat × Value)):List (Nat × Value)->List (Option Value)
  | []=>[]
  | p::r=>lok l p.1::lkB l r
def Sb(l l':List (Nat × Value)):Prop:=lkA l l'=lkB l' l'
theorem aoz:∀ {r:List (Nat × Value)},lkA l r=lkB l' r->∀ p∈r,look l p.1=look l' p.1
  | [],_,p,hp=>by simp at hp
  | q::r,h,p,hp=>by
    have h1:look l q.1=lok l' q.1:=(List.cons.inj h).1
    rcases iR.1 hp with rfl | hp
    · rw [h1,aoy]
    · exact aoz (List.cons.inj h).2 p hp
theorem aeo:∀ {l:List (Nat × Value)} {i:Nat} {v:Value},look l i=some v->∃ p∈l,p.1=i
  | [],i,v,h=>by simp [look] at h
  | p::l,i,v,h=>by
    unfold look at h
    cases hb:Nat.beq p.1 i with
    | true=>exact⟨p,av,Uo hb⟩
    | false=>simp [hb] at h; obtain⟨q,hq,e⟩:=aeo h; exact⟨q,by simp [hq],e⟩
theorem Sb.aBX(h:Sb l l')(hv:look l' i=some v):look l i=some v:=by
  obtain⟨p,hp,rfl⟩:=aeo hv;rw [aoz h p hp]; exact hv
theorem Has.sb{n:Cx}{a:Act}(h:Has n l a)(hs:Sb l l'):Has n l' a:=⟨h.defers,h.size,λi v hv=>h.get i v (hs.aBX hv)⟩
def evd(n:Cx)(l:List (Nat × Value))(d:Nat)(x:Operand):Option Value:=bif Nat.blt d n.size then gY l x else none
theorem sG{n:Cx}(h:evd n l d x=some v):Nat.blt d n.size=true/\gY l x=some v:=by
  unfold evd at h
  grind
section
variable {P:Program}{n:Cx}{l l':List (Nat × Value)}{w w':World}{Q:Exit->Act->World->Prop}{K:Act->World->Prop}{bY:Array Oper}{os:List Oper}{ty t:TypeId}{pos:String}{mO:Array Edge}{d:Nat}{x y:Operand}{v:Value}
theorem rg{ol:List Oper}{id:Nat}{y:Code}(h:WL P n ol.toArray (Exit.then (NU P n y Q) Q) (NU P n y Q) ol l w)(hp:n.plain=false:=by rfl):WP P n (.seq (.region id ol.toArray false) y) l w Q:=Dk h hp
theorem jC{ol:List Oper}{id:Nat}(h:WL P n ol.toArray Q (Q .normal) ol l w)(hp:n.plain=false:=by rfl):WP P n (.region id ol.toArray false) l w Q:=WP.ahC h hp
theorem dn{y:Code}(h:WP P n y l w Q):WL P n bY Q' (NU P n y Q) [] l w:=Dl h
theorem jD(h:l8 n Q .normal l w):WL P n bY Q' (Q .normal) [] l w:=WL.aom h
theorem ev(h:Ev P n l w op v)(k:WL P n bY Q K os ((d,v)::l) w)(hd:Nat.blt d n.size=true:=by rfl):WL P n bY Q K (⟨some d,op,ty,pos,mO,none⟩::os) l w:=jQ h hd k
theorem mv(h:evd n l d x=some v)(k:WL P n bY Q K os ((d,v)::l) w):WL P n bY Q K (⟨some d,.move x,ty,pos,mO,none⟩::os) l w:=jQ (bq (sG h).2) (sG h).1 k
theorem jk(h:evd n l d x=some v)(k:WL P n bY Q K os ((d,v)::l) w):WL P n bY Q K (⟨some d,.assign x,ty,pos,mO,none⟩::os) l w:=jQ (pz (sG h).2) (sG h).1 k
theorem xt{vs:List Value}(h:evd n l d x=some (.tuple vs.toArray))(hi:vs[i]? = some v)(k:WL P n bY Q K os ((d,v)::l) w):WL P n bY Q K (⟨some d,.extract x i,ty,pos,mO,none⟩::os) l w:=jQ (xP (sG h).2 hi) (sG h).1 k
theorem WL.ayi(m d:Nat)(r:Bool)(h:WL P n bY Q (λa' w'=>Has n ((d,.bool r)::l) a'/\w'=w) (os.take m) l w)(k:WL P n bY Q K (os.drop m) ((d,.bool r)::l) w):WL P n bY Q K os l w:=WL.cut m _ h k
def iO:=@WL.ayi
theorem WQ.ayi{Qa:Act->Prop}(m d:Nat)(r:Bool)(h:WQ P n bY w (λa'=>Has n ((d,.bool r)::l) a') (os.take m) l)(k:WQ P n bY w Qa (os.drop m) ((d,.bool r)::l)):WQ P n bY w Qa os l:=WQ.cut m _ h k
def qY:=@WQ.ayi
theorem WL.aBY(m d:Nat)(r:Bool)(h:WL P n bY Q (λa' w'=>Has n ((d,.bool r)::l) a'/\Ext w w') (os.take m) l w)(k:∀ w',Ext w w'->WL P n bY Q K (os.drop m) ((d,.bool r)::l) w'):WL P n bY Q K os l w:=WL.aHu m _ h k
def pF:=@WL.aBY
theorem WL.ayj(hs:Sb l l1):WL P n bY Q (λa' w'=>Has n l1 a'/\w'=w) [] l w:=λ_ ha=>⟨ha.sb hs,rfl⟩
def dJ:=@WL.ayj
theorem WQ.ayj(hs:Sb l l1):WQ P n bY w (λa'=>Has n l1 a') [] l:=λ_ ha=>ha.sb hs
def jY:=@WQ.ayj
theorem WL.aBZ{w0:World}(hs:Sb l l1)(he:Ext w0 w):WL P n bY Q (λa' w'=>Has n l1 a'/\Ext w0 w') [] l w:=λ_ ha=>⟨ha.sb hs,he⟩
def jo:=@WL.aBZ
theorem WP.keep'{c:Code}(l':List (Nat × Value))(hs:Sb l l')(h:WP P n c l' w Q):WP P n c l w Q:=λa ha=>h a (ha.sb hs)
theorem l8.re{e:Exit}{t:Nat}{u:Value}(hl:look l t=some u)(he:u=v)(k:l8 n Q e ((t,v)::l) w):l8 n Q e l w:=λa ha=>k a (ha.set hl he)
def jq:=@l8.re
theorem WP.lp{c:Code}(J:Nat->List (Nat × Value)->World->Prop){m0:Nat}{l0:List (Nat × Value)}(h0:J m0 l0 w)(hs:Sb l l0)
    (hr:∀ m l w',J m l w'->WP P n c l w' (Exit.then (Again n J m) Q)):WP P n (.loop c) l w Q:=WP.loop J m0 l0 (λ_ ha=>ha.sb hs) h0 hr
def qZ:=@WP.lp
theorem l8.ag{m':Nat}(hJ:J m' l' w)(hs:Sb l l')(hm:m'<m):l8 n (Exit.then (Again n J m) Q) .normal l w:=
  λ_ ha=>⟨m',l',hm,ha.sb hs,hJ⟩
def dG:=@l8.ag
theorem l8.jag{lb:Nat}{m':Nat}(hJ:J m' l' w)(hs:Sb l l')(hm:m'<m):l8 n (Exit.jump lb (Again n J m) Q) (.goto lb) l w:=
  λ_ ha=>⟨rfl,m',l',hm,ha.sb hs,hJ⟩
theorem WP.kp{c:Code}(hp:∀ m l w,J m l w->WP P n c l w Q)(hJ:J m l' w)(hs:Sb l l'):WP P n c l w Q:=λa ha=>hp m l' w hJ a (ha.sb hs)
theorem WH.dn{S:World->Prop}{J:List (Nat × Value)->World->Prop}(hJ:J l' w)(hs:Sb l l')(hr:Region.ready .any bY aW=[]):WH P n bY (JK n J) S fuel aW l w:=λ_ ha=>wpAnyH_done hr ⟨l',ha.sb hs,hJ⟩ fuel
end
section
variable {P:Program}{n:Cx}{l:List (Nat × Value)}{w:World}{Q Q':Exit->Act->World->Prop}{K:Act->World->Prop}{bY:Array Oper}{os:List Oper}{ty:TypeId}{pos:String}{mO:Array Edge}{d id:Nat}{x:Operand}{v:Value}{y:Code}
theorem bX(h:evd n l d x=some v)(k:WP P n y ((d,v)::l) w Q):WL P n bY Q' (NU P n y Q) [⟨some d,.assign x,ty,pos,mO,none⟩] l w:=jk h (dn k)
theorem bQ(h:evd n l d x=some v)(k:WL P n (⟨some d,.move x,ty,pos,mO,none⟩::os).toArray (Exit.then (NU P n y Q) Q) (NU P n y Q) os ((d,v)::l) w)(hp:n.plain=false:=by rfl):WP P n (.seq (.region id (⟨some d,.move x,ty,pos,mO,none⟩::os).toArray false) y) l w Q:=rg (mv h k) hp
theorem iT(h:evd n l d x=some v)(k:WP P n y ((d,v)::l) w Q)(hp:n.plain=false:=by rfl):WP P n (.seq (.region id [⟨some d,.assign x,ty,pos,mO,none⟩].toArray false) y) l w Q:=rg (jk h (dn k)) hp
theorem dN{op:Op}{j:Nat}{bS:Bool}{v:Value}(k:WL P n bY Q K os ((d,undef)::l) w)(hg:guardOf bY l j=some v:=by rfl)(hv:unlike bS v=true:=by rfl)(hd:Nat.blt d n.size=true:=by rfl):WL P n bY Q K (⟨some d,op,ty,pos,mO,some (j,bS)⟩::os) l w:=WL.pass hg hv hd k
end
theorem Ev.aue{P:Program}{n:Cx}{a b:Nat}{z:Int}(hx:gY l x=some (.int .i64 (a:Int)))(hy:gY l y=some (.int .i64 z))(hz:z=(b:Int))(h:b<=a)(h2:a<=9223372036854775807):Ev P n l w (.binOp .sub t x y ty) (.int .i64 ((a - b:Nat):Int)):=by
  subst hz;have:=Ev.sub (P:=P) (n:=n) (w:=w) (t:=t) (ty:=ty) hx hy (zP aj aj)
  grind
theorem Wr.xO{b:World}{W:Nat->Prop}(h:ND w w' X)(hX:∀ g,X=some g->W g):Wr b w w' W:=
  ⟨h.os,h.tape,h.output,h.size,λk hk hn=>h.block k hk (by grind),h.drawn⟩
theorem Wr.ahJ{b:World}{W:Nat->Prop}(h:Mod g w w')(hX:W g):Wr b w w' W:=
  ⟨h.os,h.tape,h.output,h.size,λk hk hn=>h.block k hk (by grind),h.drawn⟩
section
variable {P:Program}{n:Cx}{l:List (Nat × Value)}{b w:World}{S:Nat->Prop}{rs rest:List lG}{Q:Exit->Act->World->Prop}{K:Act->World->Prop}{bY:Array Oper}{os:List Oper}{ty:TypeId}{pos:String}{mO:Array Edge}{d:Nat}
theorem bx(hx:evd n l d x=some v)(hcs:v.cells=cs.toArray)(H:Hp b S w rs)
    (k:∀ g w',Hp b S w' (dW g t cs::rs)->WL P n bY Q K os ((d,gI g)::l) w'):WL P n bY Q K (⟨some d,.box t x,ty,pos,mO,none⟩::os) l w:=
  WL.box (sG hx).2 hcs (sG hx).1 λw' e hb hz=>k _ w' (H.new e (λg hg=>by show _/\_; rw [show g=w.heap.size from hg]; omega) hb)
theorem al{z:Value}(hz:∀ w,(zeroValue t).run P w=.ok z w)(hcs:z.cells=cs.toArray)(H:Hp b S w rs)
    (k:∀ g w',Hp b S w' (dW g t cs::rs)->WL P n bY Q K os ((d,gI g)::l) w') (hd:Nat.blt d n.size=true:=by rfl):WL P n bY Q K (⟨some d,.alloc t,ty,pos,mO,none⟩::os) l w:=
  WL.alloc hz hcs hd λw' e hb hz=>k _ w' (H.new e (λg hg=>by show _/\_; rw [show g=w.heap.size from hg]; omega) hb)
theorem Bh{x:α}(hx:Pq l parts=some vs)
    (hb:∀ w,(Instr.buildSlice t m vs.toArray).run P w=.ok (.slice (some ⟨w.heap.size,0,none⟩) m m) (w.alloc (.cells cs.toArray e))) (hm:m=1) (H:Hp b S w rs) (hR:∀ w',Ext w w'->τ.R (Rd b S rs w) w' x cs)
    (k:∀ g w',Hp b S w' (aQ τ e (some ⟨g,0,none⟩) 1 [x]::rs)->WL P n bY Q K os ((d,.slice (some ⟨g,0,none⟩) [x].length 1)::l) w') (hd:Nat.blt d n.size=true:=by rfl):WL P n bY Q K (⟨some d,.buildSlice t m parts.toArray,ty,pos,mO,none⟩::os) l w:=by
  subst hm;have hl:cs.length=τ.k:=τ.len (hR w (pW w));refine WL.buildSlice (k:=τ.k) hx hb hd aj λw' ex hb' hz=>k _ w' (H.new ex (λg hg=>?_) (hb'.aua (hR w' ex) (fE _)))
  grind [aQ,blk]
theorem bs0(hx:Pq l parts=some vs)
    (hb:∀ w,(Instr.buildSlice t m vs.toArray).run P w=.ok (.slice (some ⟨w.heap.size,0,none⟩) m m) (w.alloc (.cells #[] e))) (hm:m=0) (H:Hp b S w rs)
    (k:∀ g w',Hp b S w' (aQ τ e (some ⟨g,0,none⟩) 0 []::rs)->WL P n bY Q K os ((d,.slice (some ⟨g,0,none⟩) ([]:List α).length 0)::l) w') (hd:Nat.blt d n.size=true:=by rfl):WL P n bY Q K (⟨some d,.buildSlice t m parts.toArray,ty,pos,mO,none⟩::os) l w:=by
  subst hm;refine WL.buildSlice (k:=τ.k) hx hb hd av λw' ex hb' hz=>k _ w' (H.new ex (λg hg=>?_) (hb'.alz (fE _)))
  grind [aQ,blk]
def auf{α:Type}(τ:Ty α)(S:Nat->Prop)(w:World):List α->List (List Value)->Prop
  | [],[]=>True
  | x::xs,cs::css=>τ.R S w x cs/\auf τ S w xs css
  | _,_=>False
theorem auf.spec:∀ {xs:List α} {css:List (List Value)},auf τ S w xs css->css.length=xs.length/\css.flatten.length=xs.length*τ.k/\∀(i:Nat)(x:α),xs[i]? = some x->∃ cs,css[i]? = some cs/\τ.R S w x cs
  | [],[],_=>by simp
  | [],_::_,h=>h.elim
  | _::_,[],h=>h.elim
  | x::xs,cs::css,h=>by
    obtain⟨h1,h3,h2⟩:=h.2.spec;have h4:=τ.len h.1;refine⟨by simp [h1],by grind,λi y hy=>?_⟩
    cases i with
    | zero=>simp at hy; subst hy; exact⟨cs,rfl,h.1⟩
    | succ i=>grind
theorem bsn(hx:Pq l parts=some vs)
    (hb:∀ w,(Instr.buildSlice t m vs.toArray).run P w=.ok (.slice (some ⟨w.heap.size,0,none⟩) m m) (w.alloc (.cells css.flatten.toArray e))) (hm:m=xs.length) (hm1:Nat.ble m 100000=true) (H:Hp b S w rs) (hR:∀ w',Ext w w'->auf τ (Rd b S rs w) w' xs css)
    (k:∀ g w',Hp b S w' (aQ τ e (some ⟨g,0,none⟩) m xs::rs)->WL P n bY Q K os ((d,.slice (some ⟨g,0,none⟩) xs.length m)::l) w') (hd:Nat.blt d n.size=true:=by rfl):WL P n bY Q K (⟨some d,.buildSlice t m parts.toArray,ty,pos,mO,none⟩::os) l w:=by
  subst hm;have hm2:xs.length<=100000:=nX hm1;obtain⟨h1,h2,_⟩:=(hR w (pW w)).spec;refine WL.buildSlice hx hb hd (by rw [h2]) λw' ex hb' hz=>k _ w' (H.new ex (λg hg=>?_) ?_)
  · grind [aQ,blk]
  · have h3:=(hR w' ex).spec
    refine⟨css,h3.1,h3.2.2,?_⟩;exact⟨h2,.inr ⟨w.heap.size,xs.length,css.flatten.toArray,Y,fE _,hb',kJ _,by simp only [maxLen]; omega,by rw [Wu]; exact h2,by rw [<- h2]; exact gV (kJ _)⟩⟩
theorem stc{t':TypeId}(hx:gY l x=some (.pointer (some ⟨g,i,none⟩)))(hy:gY l y=some v)(h1:v.oneCell'=true)(hs:Size P t 1)(H:Hp b S w rs)(s:pq rs (dW g t' cs) rest)(hi:Nat.blt i cs.length=true)
    (k:∀ w',Hp b S w' (dW g t' (cs.set i v)::rest)->WL P n bY Q K os l w'):WL P n bY Q K (⟨none,.store t x y,ty,pos,mO,none⟩::os) l w:=
  WL.aly hx hy h1 hs (H.x s) (by simp_all) λw' m hb hz=>k w' ((H.sel s).put (r':=dW g t' (cs.set i v)) (Wr.ahJ m rfl) (λg hg=>.inl hg) hb)
theorem stw{t':TypeId}(hx:gY l x=some (gI g))(hy:gY l y=some v)(hv:v.cells=ds.toArray)(hs:Size P t ds.length)(H:Hp b S w rs)(s:pq rs (dW g t' cs) rest)(hl:cs.length=ds.length)(h1:ds.all (λu=>u.oneCell')=true)
    (k:∀ w',Hp b S w' (dW g t' ds::rest)->WL P n bY Q K os l w'):WL P n bY Q K (⟨none,.store t x y,ty,pos,mO,none⟩::os) l w:=
  WL.aos hx hy hv hs (H.x s) hl (by grind) λw' m hb hz=>k w' ((H.sel s).put (r':=dW g t' ds) (Wr.ahJ m rfl) (λg hg=>.inl hg) hb)
theorem Hp.own{τ':Ty β}{A':ah}{c':Nat}{ys:List β}(H:Hp b S w (aQ τ e A c xs::rest))(hg:ND w w' (blk A))(hA:∀ g,blk A'=some g->blk A=some g∨w.heap.size<=g)
    (h:Own τ' e lo (Rd b S (aQ τ e A c xs::rest) w) w' A' c' ys):Hp b S w' (aQ τ' e A' c' ys::rest):=
  H.put (r':=aQ τ' e A' c' ys) (Wr.xO hg (λg hX=>hX)) (λg hg'=>by
    rcases hA g hg' with h1 | h1
    · exact .inl h1
    · exact .inr ⟨h1,(h.abm g hg').2⟩) (h.low (fE _) av)
theorem Hp.aep{r:lG}(H:Hp b S w rs)(s:pq rs r rest):∀ g,r.W g->¬ Rd b S rs w g:=by
  have hm:r∈rs:=s.perm.mem_iff.2 av;rintro g hg (⟨h1,_⟩ | ⟨_,_,h3⟩)
  · have:=(H.lo r hm g hg).1; omega
  grind
theorem apd{c2:Nat}(H:Hp b S w rs)(se:pq rs (aQ τ e A c xs) rest)(hs:evd n l d s=some (.slice A xs.length c))(hx:gY l x=some (.slice B ys.length c2))
    (hy:Sl τ (Rd b S rs w) w B c2 ys) (hT:P.underlying t=some (.slice e)) (hI:lY P e τ.k bytes)
    (hm1:xs.length<=1000000) (hm2:ys.length<=1000000) (hby:Nat.ble bytes 1000=true)
    (k:∀ A' c' w',Hp b S w' (aQ τ e A' c' (xs++ys)::rest)->WL P n bY Q K os ((d,.slice A' (xs++ys).length c')::l) w') :
    WL P n bY Q K (⟨some d,.call ⟨.builtin .append,#[s,x],#[t,t]⟩,ty,pos,mO,none⟩::os) l w:=by
  have H1:=H.sel se;have hsub:∀ g,Rd b S rs w g->Rd b S (aQ τ e A c xs::rest) w g:=Rd.perm se.perm;refine WL.app (sG hs).2 hx (H1.ow s0) (hy.sub hsub) hT hI av (λg hA=>H1.aep s0 g hA) hm1 hm2 hby H1.ext.size (sG hs).1 λA' c' w' ho hg hat=>k A' c' w' (H1.own hg (λg hg'=>?_) ho)
  grind
theorem ap[Flat τ]{c2:Nat}(H:Hp b S w rs)(se:pq rs (aQ τ e A c xs) rest)(hs:evd n l d s=some (.slice A xs.length c))(hx:gY l x=some (.slice B ys.length c2))
    (hy:Sl τ S2 w B c2 ys) (hT:P.underlying t=some (.slice e)) (hI:lY P e τ.k bytes)
    (hm1:xs.length<=1000000) (hm2:ys.length<=1000000) (hby:Nat.ble bytes 1000=true)
    (k:∀ A' c' w',Hp b S w' (aQ τ e A' c' (xs++ys)::rest)->WL P n bY Q K os ((d,.slice A' (xs++ys).length c')::l) w') :
    WL P n bY Q K (⟨some d,.call ⟨.builtin .append,#[s,x],#[t,t]⟩,ty,pos,mO,none⟩::os) l w:=by
  have H1:=H.sel se;refine WL.app (sG hs).2 hx (H1.ow s0) hy hT hI (λ_ _ _ h=>Flat.h h) (λg hA=>H1.aep s0 g hA) hm1 hm2 hby H1.ext.size (sG hs).1 λA' c' w' ho hg hat=>k A' c' w' (H1.own hg (λg hg'=>?_) ho)
  grind
theorem apz(τ:Ty α){ti:TypeId}(hs:evd n l d s=some (.slice none 0 0))(hx:gY l x=some (aI (m:Int)))(hT:P.underlying t=some (.slice e))(hi:P.underlying ti=some (.int .i64))(hI:lY P e τ.k bytes)(h0:0<m)(hm:m<=1000000)(hby:Nat.ble bytes 1000=true)(H:Hp b S w rs)
    (k:∀ g c w',Hp b S w' (aQ τ e (some ⟨g,0,none⟩) c []::rs)->WL P n bY Q K os ((d,.slice (some ⟨g,0,none⟩) m c)::l) w') :
    WL P n bY Q K (⟨some d,.call ⟨.builtin .append,#[s,x],#[t,ti]⟩,ty,pos,mO,none⟩::os) l w:=
  WL.ael τ (sG hs).2 hx hT hi hI h0 hm hby (sG hs).1 λg c w' ex ho=>k g c w' (H.new ex (λg' hg'=>by
    have h1:=ho.abm g' hg'; omega) (ho.low (fE _) (λ_ h=>h.elim)))
theorem se{f:Nat}{x x':α}{p:Operand}{q:Addr}(H:Hp b S w rs)(s:pq rs (aQ τ e A c xs) rest)(hp:gY l p=some (.pointer (some q)))(hy:gY l y=some v)(hq:q=(Ih A).add (i*τ.k+f))
    (hx:xs[i]? = some x) (hv:v.cells=ds.toArray) (hs:Size P t ds.length)
    (hf:f+ds.length<=τ.k) (h1:ds.all (λu=>u.oneCell')=true) (hR:∀ w' cs,(∀ {β:Type} {σ:Ty β} {B:ah} {d:Nat} {zs:List β},Sl σ (Rd b S rs w) w B d zs->Sl σ (Rd b S rs w) w' B d zs)->τ.R (Rd b S rs w) w x cs->τ.R (Rd b S rs w) w' x' (overlay cs f ds))
    (kk:∀ w',Hp b S w' (aQ τ e A c (xs.set i x')::rest)->WL P n bY Q K os l w'):WL P n bY Q K (⟨none,.store t p y,ty,pos,mO,none⟩::os) l w:=by
  have H1:=H.sel s;have hsub:∀ g,Rd b S rs w g->Rd b S (aQ τ e A c xs::rest) w g:=Rd.perm s.perm;have aB0:∀ g,Rd b S (aQ τ e A c xs::rest) w g->Rd b S rs w g:=Rd.perm s.perm.symm;refine WL.alF hp hy hq (H1.ow s0) hx hv hs hf (by grind) (λg hA=>H1.aep s0 g hA) (λw' cs hg hr=>τ.sub hsub (hR w' cs ?_ (τ.sub aB0 hr))) λw' ho hg hz=>kk w' (H1.own hg (by grind) ho);intro β σ B d zs hsl;exact hsl.keep λk hk hlt=>hg.block k hlt λe=>H.aep s k e.symm hk
theorem Hp.WS{hi:Nat}(H:Hp b S w rs)(s:pq rs (aQ τ e A c xs) rest)(h:hi<=xs.length):Hp b S w (aQ τ e A c (xs.take hi)::rest):=
  (H.sel s).put (r':=aQ τ e A c (xs.take hi)) ⟨rfl,rfl,rfl,kJ _,av,kJ _⟩ (λg hg=>.inl hg) (Own.take ((H.sel s).ok (aQ τ e A c xs) av) h)
theorem Sl.row{x:α}(h:Sl τ S w A c xs)(hx:xs[i]? = some x):∃ cs,τ.R S w x cs/\∀ j u,cs[j]? = some u->w.cell? ((Ih A).add (i*τ.k+j))=some u:=(h.rows i x hx).2
theorem Hp.oi{x:α}(H:Hp b S w rs)(s:pq rs (aQ τ e A c xs) rest)(hx:xs[i]? = some x):∃ cs,τ.R (Rd b S rs w) w x cs/\∀ j u,cs[j]? = some u->w.cell? ((Ih A).add (i*τ.k+j))=some u:=by
  obtain⟨css,hl,hR,hown⟩:=H.ow s;obtain⟨cs,h1,h2⟩:=hR i x hx;have hk:=Vh hl hR;refine⟨cs,h2,λj u hu=>?_⟩
  rcases hown.2 with ⟨hv,hn⟩ | ⟨g,cap,cur,hv,hg,hh,hnc,hcm,hcs,ht⟩
  · grind
  · injection hv with hA hn' hc
    subst hA hc;exact hown.cells Y _ _ (by grind [Po])
theorem Hp.is{x:α}(H:Hp b S w rs)(s:pq rs (dH τ A c xs) rest)(hx:xs[i]? = some x):∃ cs,τ.R (Rd b S rs w) w x cs/\∀ j u,cs[j]? = some u->w.cell? ((Ih A).add (i*τ.k+j))=some u:=(H.s s).row hx
theorem Vk{a:Addr}(h:∃ cs,(Ty.list τ).R S w xs cs/\∀ j u,cs[j]? = some u->w.cell? (a.add (i*1+j))=some u) :
    ∃ B d,w.cell? (a.add (i*1))=some (.slice B xs.length d)/\Sl τ S w B d xs:=by
  obtain⟨cs,⟨B,d,rfl,h2⟩,h3⟩:=h;exact⟨B,d,h3 0 _ Y,h2⟩
theorem FE{a:Addr}(h:∀ j u,cs[j]? = some u->w.cell? (a.add (i*k+j))=some u):∀ j u,cs[j]? = some u->w.cell? ((a.add (i*k)).add j)=some u:=by grind [fV]
theorem Own.ayk{x:α}(h:Own τ e lo S w (some ⟨g,0,none⟩) 1 [x]):∃ cs,Bx w g e cs/\τ.R S w x cs:=by
  obtain⟨css,hl,hR,hown⟩:=h;obtain⟨cs,h1,h2⟩:=hR 0 x rfl
  have h3:css=[cs]:=by
    cases css with
    | nil=>grind
    | cons c0 css=>grind
  subst h3;have hk:=τ.len h2
  rcases hown.2 with ⟨hv,_⟩ | ⟨g',cap,cur,hv,hg,hh,hnc,hcm,hcs,ht⟩
  · cases hv
  · injection hv with hA hn' hc
    injection hA with hA
    injection hA with hA
    subst hA hc;refine⟨cs,?_,h2⟩;have h4:cur.toList=cs:=by grind
    unfold Bx;rw [hh,<- h4]
theorem Hp.ayl{σ:Ty β}{e':TypeId}{c':Nat}{ys:List β}{xR:List lG}(H:Hp b S w rs)(s:pq rs (aQ τ e A c xs) rest)(s':pq rest (aQ σ e' B c' ys) xR)(hg:blk B=some g):blk A≠some g:=
  λh=>(nW.1 (H.sel s).dis).1 (aQ σ e' B c' ys) (s'.perm.mem_iff.2 av) g h hg
theorem Hp.raw(H:Hp b S w rs)(s:pq rs (aQ τ e A c xs) rest):∃ us:List (Cells τ.k),Own (zD τ.k τ.pos) e b.heap.size No w A c us/\Rel τ (Rd b S rs w) w xs us:=(H.ow s).raw
theorem Hp.back{A':ah}{c':Nat}{vs:List (Cells τ.k)}(H:Hp b S w rs)(s:pq rs (aQ τ e A c xs) rest)(hO:Own (zD τ.k τ.pos) e lo S' w' A' c' vs)(hr:Rel τ (Rd b S rs w) w ys vs)(hg:ND w w' (blk A))(hA:∀ g,blk A'=some g->blk A=some g∨w.heap.size<=g):Hp b S w' (aQ τ e A' c' ys::rest):=by
  have hsub:∀ g,Rd b S rs w g->Rd b S (aQ τ e A c xs::rest) w g:=Rd.perm s.perm;exact(H.sel s).own hg hA (hO.ofRaw ((hr.sub hsub).grown hg (λg hA=>(H.sel s).aep s0 g hA)))
theorem WH.tk{rk:List lG}(i:Nat)(hi:bY[i]? = some ⟨some d,op,ty,pos,mO,none⟩)(hs:Region.noSelect bY=true)(hf:Region.free .any bY aW i=true)
    (hr:(Region.ready .any bY aW).contains i=true) (he:∀ w',Hp b S w' rk->Ev P n l w' op v) (hd:Nat.blt d n.size=true) (hw:Hp b S w rk) (k:WH P n bY K (λw'=>Hp b S w' rk) fuel (aW.setIfInBounds i true) ((d,v)::l) w) :
    WH P n bY K (λw'=>Hp b S w' rk) (fuel+1) aW l w:=λa ha=>
  wpAnyH_take hi hs hf hr (λ_ _ _ h=>h) (.inl ⟨fZ a,λw' hw'=>he w' hw' _ a w' rfl ha (pW w')⟩) hw (k _ (ha.put hd v))
theorem WH.tkg{rk:List lG}(i:Nat){j:Nat}{bS:Bool}(hi:bY[i]? = some ⟨some d,op,ty,pos,mO,some (j,bS)⟩)(hg:guardOf bY l j=some (.bool bS))(hs:Region.noSelect bY=true)(hf:Region.free .any bY aW i=true)
    (hr:(Region.ready .any bY aW).contains i=true) (he:∀ w',Hp b S w' rk->Ev P n l w' op v) (hd:Nat.blt d n.size=true) (hw:Hp b S w rk) (k:WH P n bY K (λw'=>Hp b S w' rk) fuel (aW.setIfInBounds i true) ((d,v)::l) w) :
    WH P n bY K (λw'=>Hp b S w' rk) (fuel+1) aW l w:=λa ha=>
  wpAnyH_take hi hs hf hr (λ_ _ _ h=>h) (.inl ⟨uo hg a ha,λw' hw'=>he w' hw' _ a w' rfl ha (pW w')⟩) hw (k _ (ha.put hd v))
end
end
section
variable {d k g c bytes lo i FH:Nat}{v:Value}{α:Type}{f:FuncId}{caps vs all:List Value}{t ty e kt et:TypeId}{fn:Func}{rs:List ResultVar}{R:Value->World->Prop}{F G:List lG}{KA x ky:Operand}{args:List Operand}{tys ps rs':Array TypeId}{A B:ah}{w:World}{cur azv:Array Value}{os:Array Obj}{ρ:Go.Shelf.Ren}{vr:Bool}{z:Int}{es:Array MapEntry}{enc:α->List Value}{pre xs:List α}{Jf:List α->List lG->Prop}{Jx:Code->List α->List lG->Prop}{τ:Ty α}{pos:0<k}{cf:α->α->Int}{hl:∀ x,(enc x).length=k}
def WI(P:Program)(n:Cx)(bY:Array Oper)(Q:Exit->Act->World->Prop)(fuel:Nat)(aW:Array Bool)(l:List (Nat × Value))(w:World):Prop:=
  ∀ a,Has n l a->wpAnyIn n.fence 0 P .any bY Q fuel aW a w
def qM(bY:Array Oper)(ids:List Nat)(rest:Nat)(full:Array Bool):Nat->Array Bool->Bool
  | 0,aW=>aW == full&&rest == 0
  | f+1,aW=>if aW == full then f+1 == rest else !(Region.ready .any bY aW).isEmpty&&(Region.ready .any bY aW).all λi=>ids.contains i&&qM bY ids rest full f (aW.setIfInBounds i true)
def Qi(P:Program)(n:Cx)(bY:Array Oper)(S:World->Prop)(l:List (Nat × Value))(o:Oper)(v:Value):Prop:=∀ a w,Has n l a->S w->
  (Region.wanted o (yielded bY a.tmps)=true/\((execOp a.eval o).run P w=.ok (.value v) w∨∃ f args,(execOp a.eval o).run P w=.ok (.enter f args) w/\bO P f args w λu w'=>u=v/\S w'))∨(Region.wanted o (yielded bY a.tmps)=false/\v=undef)
def Iq(o:Oper)(A:List (Nat × Nat × Value)):List (Nat × Value):=(A.filter λq=>o.after.toList.any λe=>Region.binds .any e&&e.on == q.1).map (·.2)
def nodupB:List Nat->Bool
  | []=>true
  | x::xs=>!xs.contains x&&nodupB xs
theorem WT:∀ {A:List (Nat × Nat × Value)},nodupB (A.map (·.2.1))=true->A.Pairwise λp q=>p.2.1≠q.2.1
  | [],_=>List.Pairwise.nil
  | p::A,h=>by
    simp only [mR,nodupB,bK,dZ] at h
    refine nW.2 ⟨λq hq e=>?_,WT h.2⟩
    have:(A.map (·.2.1)).contains p.2.1=true:=by
      rw [nR]; exact gB.2 ⟨q,hq,e.symm⟩
    rw [this] at h; cases h.1
structure Es (P:Program) (n:Cx) (bY:Array Oper) (S:World->Prop) (l:List (Nat × Value)) (A:List (Nat × Nat × Value)) (p:Nat × Nat × Value):Prop where
  ex:∃ o,bY[p.1]? = some o/\o.dst=some p.2.1/\Nat.blt p.2.1 n.size=true/\look l p.2.1=none/\Qi P n bY S (Iq o A++l) o p.2.2
section
variable {P:Program}{n:Cx}{l l':List (Nat × Value)}{w:World}{Q:Exit->Act->World->Prop}{bY:Array Oper}{fuel:Nat}{aW:Array Bool}
theorem WP.dr{ol:List Oper}{id:Nat}{y:Code}(hm:P.follows .mixedOrders=true)(h:WI P n ol.toArray (Exit.then (NU P n y Q) Q) ol.length (List.replicate ol.length false).toArray l w.drew):WP P n (.seq (.region id ol.toArray true) y) l w Q:=λa ha=>by
  exact Us (wpIn_region_any (Q:=Exit.then (NU P n y Q) Q) hm (by have:=h a ha; simp_all))
theorem WI.one(i:Nat){o:Oper}(hr:Region.ready .any bY aW=[i])(hi:bY[i]? = some o)(h:WL P n bY Q (λa w=>wpAnyIn n.fence 0 P .any bY Q fuel (aW.setIfInBounds i true) a w) [o] l w)(hp:n.plain=false:=by rfl):WI P n bY Q (fuel+1) aW l w:=by
  intro a ha;refine⟨by grind,λj hj=>?_⟩;rw [hr] at hj;obtain rfl:=oG.1 hj;have h1:=h a ha;unfold WB at h1;unfold wpOpIn;rw [hi];show(if Region.wanted o (yielded bY a.tmps) then _ else _)
  split
  · rename_i hw
    rw [aS hw] at h1;unfold opw at h1;rw [hp] at h1;exact h1
  · rename_i hw
    rw [aP hw] at h1;exact⟨λ_ _=>trivial,h1⟩
theorem WI.nx(k:WI P n bY Q fuel aW l w):WL P n bY Q (λa w=>wpAnyIn n.fence 0 P .any bY Q fuel aW a w) [] l w:=λa ha=>k a ha
theorem WI.dn{y:Code}(hr:Region.ready .any bY aW=[])(h:WP P n y l w Q):WI P n bY (Exit.then (NU P n y Q) Q) fuel aW l w:=λa ha=>by
  cases fuel with
  | zero=>exact⟨hr,h a ha⟩
  | succ f=>exact⟨λ_=>h a ha,by grind⟩
theorem Has.more{a:Act}(h:Has n l a):∀ {B:List (Nat × Value)},(∀ q∈B,a.tmps.getD q.1 undef=q.2)->Has n (B++l) a
  | [],_=>h
  | q::B,hB=>by
    have h1:=Has.more h (B:=B) λq hq=>hB q (by simp [hq]);refine⟨h.defers,h.size,λi v hv=>?_⟩
    simp only [Z4,look] at hv
    cases hb:Nat.beq q.1 i with
    | true=>simp [hb] at hv; subst hv; rw [<- Uo hb]; exact hB q av
    | false=>simp [hb] at hv; exact h1.get i v hv
theorem aer{A:List (Nat × Nat × Value)}(hd:A.Pairwise λp q=>p.2.1≠q.2.1){p q:Nat × Nat × Value}(hp:p∈A)(hq:q∈A)(hne:p≠q):p.2.1≠q.2.1:=by
  induction A <;> grind [List.pairwise_cons]
theorem alI{a:Act}(h:k≠d):(a.put (some d) v).tmps.getD k undef=a.tmps.getD k undef:=by
  simp [Act.put,JN,Array.getElem?_setIfInBounds_ne (Ne.symm h)]
theorem WI.block{S:World->Prop}(A:List (Nat × Nat × Value))(rest:Nat)(full:Array Bool)(hok:qM bY (A.map (·.1)) rest full fuel aW=true)(hd:nodupB (A.map (·.2.1))=true)(hfull:A.all (λp=>full.getD p.1 false)=true)(hl0:A.all (λp=>!aW.getD p.1 false)=true)
    (hq:∀ p∈A,Es P n bY S l A p) (hS:S w) (k:∀ w',S w'->WI P n bY Q rest full (A.map (·.2)++l) w') (hp:n.plain=false:=by rfl):WI P n bY Q fuel aW l w:=by
  have key:∀(fuel:Nat)(aW:Array Bool)(a:Act)(w:World),qM bY (A.map (·.1)) rest full fuel aW=true->Has n l a->(∀ p∈A,aW.getD p.1 false=true->a.tmps.getD p.2.1 undef=p.2.2)->S w->wpAnyIn n.fence 0 P .any bY Q fuel aW a w:=by
    intro fuel
    induction fuel with
    | zero=>
      intro aW a w hb ha hv hS
      simp only [qM,bK,R3] at hb
      obtain⟨rfl,rfl⟩:=hb;refine k w hS a (ha.more λq hq=>?_)
      grind
    | succ f ih=>
      intro aW a w hb ha hv hS;unfold qM at hb
      split at hb
      · rename_i he
        have he':aW=full:=eq_of_beq he;have hr':f+1=rest:=eq_of_beq hb;subst he' hr';refine k w hS a (ha.more λq hq=>?_)
        grind
      · simp only [bK,dZ,List.isEmpty_eq_false_iff,ng] at hb
        refine⟨by grind,λi hi=>?_⟩;have h1:=hb.2 i hi;have hmem:i∈A.map (·.1):=by grind
        obtain⟨p,hpA,rfl⟩:=gB.1 hmem;obtain⟨o,ho,hdst,hblt,hnone,hqi⟩:=(hq p hpA).ex;obtain⟨hun,o',ho',hall⟩:=mem_ready.1 hi;rw [ho] at ho';obtain rfl:=Option.some.inj ho'
        have hfr:Has n (Iq o A++l) a:=ha.more λq hq=>by
          obtain⟨p',hp',rfl⟩:=gB.1 hq;obtain⟨h2,h3⟩:=jV.1 hp'
          grind
        have next:∀ w',S w'->wpAnyIn n.fence 0 P .any bY Q f (aW.setIfInBounds p.1 true) (a.put (some p.2.1) p.2.2) w':=by
          intro w' hS';refine ih _ _ _ h1.2 ?_ (λq hqA hlq=>?_) hS'
          · have h5:=ha.put hblt p.2.2
            refine⟨h5.defers,h5.size,λj u hu=>h5.get j u ?_⟩
            grind [look,Nat.beq,Nat.eq_of_beq_eq_true]
          · by_cases hd':q.2.1=p.2.1
            · have:q=p:=by
                by_cases e:q=p
                · exact e
                · exact absurd hd' (aer (WT hd) hqA hpA e)
              subst this;exact(ha.put hblt _).get _ _ (by simp [look])
            · rw [alI hd']
              refine hv q hqA ?_
              by_cases e:p.1=q.1
              · exfalso
                obtain⟨o2,ho2,aKQ,_⟩:=(hq q hqA).ex
                grind
              simp_all
        unfold wpOpIn;rw [ho]
        rcases hqi a w hfr hS with ⟨hw,hrun⟩ | ⟨hw,hv'⟩
        · show(if Region.wanted o (yielded bY a.tmps) then _ else _)
          rw [aS hw];have aHI:∀ K,opw P n o a w K Q->o.wpIn n.fence 0 P a w K Q:=by grind [opw]
          rcases hrun with hrun | ⟨g,args,hrun,hret⟩
          · grind [MK]
          · refine aHI _ (Z7 hrun (FB hret ?_))
            grind
        · show(if Region.wanted o (yielded bY a.tmps) then _ else _)
          rw [aP (by grind)];exact⟨λ_ _=>trivial,by grind⟩
  intro a ha
  grind
end
def pX(g:Nat)(o:Obj):lG where
  W:=λb=>b=g
  ok:=λ_ w=>w.heap[g]? = some o
  sub:=λ_ h=>h
  keep:=λ{_ w _} hm h=>(hm g (.inl rfl) (yU.1 h).1).trans h
section
variable {P:Program}{b w:World}{S:Nat->Prop}{rs rest F G:List lG}
theorem Hp.obj{o:Obj}(H:Hp b S w rs)(s:pq rs (pX g o) rest):w.heap[g]? = some o:=H.ok (pX g o) (s.perm.mem_iff.2 av)
theorem Hp.newObj(H:Hp b S w rs)(o:Obj):Hp b S (w.alloc o) (pX w.heap.size o::rs):=
  H.new (Ext.alloc w o) (λg hg=>by rw [show g=w.heap.size from hg]; simp) (World.alloc_heap_new w o)
theorem Hp.putObj{o:Obj}(H:Hp b S w rs)(s:pq rs (pX g o) rest)(o':Obj):Hp b S (w.putObj g o') (pX g o'::rest):=
  (H.sel s).put (r':=pX g o') ⟨rfl,rfl,rfl,av,λk hk hn=>World.putObj_heap_other hn,kJ _⟩ (λg hg=>.inl hg) (World.putObj_heap_same (yU.1 (H.obj s)).1)
theorem Hp.comm(H:Hp b S w (F++G)):Hp b S w (G++F):=H.perm zQ
def uI:=@Hp.comm
end
def Iter(P:Program)(f:FuncId)(caps:List Value){α:Type}(enc:α->List Value)(ys:List α)(b:World)(S:Nat->Prop)(G0:List lG):Prop:=
  ∀(lr:Nat)(Jf Jx:List α->List lG->Prop)(w:World)(F0:List lG),Hp b S w (F0++G0)->Jf [] F0->
    (∀ pre x W F G,Jf pre F->pre++[x] <+: ys->Hp b S W (F++(G0++G))->YieldAt Fence.wide 0 P lr (enc x).toArray W λe W'=>
      (e=.returned (.bool true)/\∃ F',Jf (pre++[x]) F'/\Hp b S W' (F'++(G0++G)))∨(e=.returned (.bool false)/\∃ F',Jx (pre++[x]) F'/\Hp b S W' (F'++(G0++G))))->
    CallsIn Fence.wide 0 P f (#[.func (.yield lr) #[] #[]]++caps.toArray) w λe w'=>(∃ v,e=.returned v)/\((∃ F',Jf ys F'/\Hp b S w' (F'++G0))∨(∃ pre F',Jx pre F'/\Hp b S w' (F'++G0)))
abbrev Cx.rnd(k lr:Nat):Cx:=⟨k,some lr,[],false⟩
abbrev Cx.marked(k D:Nat):Cx:=⟨k,none,[D],false⟩
def ajA{α:Type}(b:World)(S:Nat->Prop)(G:List lG)(Jf:List α->List lG->Prop)(Jx:Code->List α->List lG->Prop)(pre:List α):Exit->Act->World->Prop
  | .normal,_,w=>∃ F,Jf pre F/\Hp b S w (F++G)
  | .ret,_,w=>∃ F,Jx .ret pre F/\Hp b S w (F++G)
  | .exit id,_,w=>∃ F,Jx (.exit id) pre F/\Hp b S w (F++G)
  | .goto t,_,w=>∃ F,Jx (.goto t) pre F/\Hp b S w (F++G)
  | _,_,_=>False
def awZ{α:Type}(n:Cx)(b:World)(S:Nat->Prop)(G:List lG)(Mid:List α->α->List (Nat × Value)->List lG->Prop)(pre:List α)(x:α):Exit->Act->World->Prop
  | .normal,a,w=>∃ l1 F1,Has n l1 a/\Mid pre x l1 F1/\Hp b S w (F1++G)
  | _,_,_=>False
theorem KN:∀(ps:List Nat)(vs:List Value)(t:Array Value)(l:List (Nat × Value))(k:Nat),ps.length=vs.length->(∀ p∈ps,p<k)->t.size=k->(∀ i v,look l i=some v->t.getD i undef=v)->
    ((ps.zip vs).foldl (λt (p,v)=>t.setIfInBounds p v) t).size=k/\∀ i v,look ((ps.zip vs).reverse++l) i=some v->((ps.zip vs).foldl (λt (p,v)=>t.setIfInBounds p v) t).getD i undef=v
  | [],vs,t,l,k,_,_,hs,hl=>by
    simp_all
  | p::ps,[],t,l,k,h,_,_,_=>by simp at h
  | p::ps,v::vs,t,l,k,h,hp,hs,hl=>by
    have hpk:=hp p av
    simp only [List.zip_cons_cons,Gh,List.reverse_cons,pE,List.singleton_append]
    refine KN ps vs _ ((p,v)::l) k (by grind) (by grind) (by simp [hs]) (λi u hu=>?_);unfold look at hu
    cases hb:Nat.beq p i with
    | true=>
      have:=Uo hb
      simp_all
    | false=>
      simp_all [JN,Array.getElem?_setIfInBounds_ne,ajr]
section
variable {P:Program}{k:Nat}{l:List (Nat × Value)}{b w:World}{S:Nat->Prop}{Q:Exit->Act->World->Prop}
theorem WP.range{g:Operand}{ps:List Nat}{assign body:Code}{ys:List α}{F0 G0:List lG}(hg:gY l g=some (.func (.func f) #[] caps.toArray))(J8:bJ P f)
    (hit:Iter P f caps enc ys b S G0) (H:Hp b S w (F0++G0)) (hps:∀ x,(enc x).length=ps.length) (hpk:ps.all (λp=>Nat.blt p k)=true)
    (Jf:List α->List lG->Prop) (Jx:Code->List α->List lG->Prop) (Mid:List α->α->List (Nat × Value)->List lG->Prop) (h0:Jf [] F0)
    (hassign:∀ lr pre x F G W,Jf pre F->pre++[x] <+: ys->Hp b S W (F++(G0++G))->WP P (.rnd k lr) assign ((ps.zip (enc x)).reverse++l) W (awZ (.rnd k lr) b S (G0++G) Mid pre x))
    (hbody:∀ lr pre x l1 F1 G W,Mid pre x l1 F1->pre++[x] <+: ys->Hp b S W (F1++(G0++G))->WP P (.rnd k lr) body l1 W (ajA b S (G0++G) Jf Jx (pre++[x])))
    (hdone:∀ D F w',Jf ys F->Hp b S w' (pX D (.deferred (some []))::(G0++F))->l8 (.marked k D) Q .normal l w')
    (hstop:∀ D c pre F w',Jx c pre F->Hp b S w' (pX D (.deferred (some []))::(G0++F))->WP P (.marked k D) c l w' Q) :
    WP P (.bare k) (.rangeFunc g ps.toArray assign body) l w Q:=by
  intro a ha;have hgv:=ha.eval hg;refine wpIn_rangeFunc λfn hfn=>?_;obtain⟨rec,hrec⟩:∃ rec:LoopState->Option Code->Loop,rec=λst pe=>{ state:=st,pending:=pe,fn,tmps:=a.tmps,params:=ps.toArray,assign,body,defers:=w.heap.size }:=⟨_,rfl⟩;have H1:=H.newObj (.deferred (some []));have H2:=H1.newObj (.loop (rec .ready none));obtain⟨W1,hW1⟩:∃ W1,(w.alloc (.deferred (some []))).alloc (.loop (rec .ready none))=W1:=⟨_,rfl⟩;have hsz:(w.alloc (.deferred (some []))).heap.size=w.heap.size+1:=by simp
  rw [hW1,hsz] at H2;obtain⟨D,hD⟩:∃ D,w.heap.size=D:=⟨_,rfl⟩;obtain⟨lr,hlr⟩:∃ lr,w.heap.size+1=lr:=⟨_,rfl⟩;rw [hlr,hD] at H2;refine⟨lr,[{ target:=.collected D,args:=#[] }],W1,{ target:=.fn (.func f) caps.toArray,args:=#[.func (.yield lr) #[] #[]] },W1,f,#[.func (.yield lr) #[] #[]]++caps.toArray,W1,?_,?_,λ_ _=>trivial,?_,(λh=>by cases h),?_⟩
  · rw [<- hW1,hrec,<- hD,<- hlr]; exact run_enterLoop_outer _ _ _ _ _
  · simp only [resolve,hgv]
    simp [go_sem]
  · simp only [invoke]
    exact J8 _ _
  · have Hn:Hp b S W1 ((pX lr (.loop (rec .ready none))::pX D (.deferred (some []))::F0)++G0):=H2
    refine(hit lr (λpre F'=>∃ F,F'=pX lr (.loop (rec .ready none))::pX D (.deferred (some []))::F/\Jf pre F)
      (λpre F'=>∃ c F,F'=pX lr (.loop (rec .done (some c)))::pX D (.deferred (some []))::F/\Jx c pre F) W1 _ Hn (by grind) ?_).mono ?_
    · rintro pre x W F' G ⟨F,rfl,hJ⟩ hpre Hw
      have aHJ:W.heap[lr]? = some (.loop (rec .ready none)):=Hw.obj s0;have hy:=run_yield (P:=P) (args:=(enc x).toArray) aHJ (by rw [hrec]; simp [hps]);rw [hrec] at hy;refine⟨fn,_,assign,body,hy,roundIn_of_wpIn trivial ?_⟩
      have Hw2:Hp b S W (F++(G0++(pX lr (.loop (rec .ready none))::pX D (.deferred (some []))::G))):=
        Hw.perm (by
          have:(pX lr (.loop (rec .ready none))::pX D (.deferred (some []))::F)++(G0++G)=[pX lr (.loop (rec .ready none)),pX D (.deferred (some []))]++(F++G0)++G:=by simp
          rw [this];refine(zQ.append_right G).trans ?_
          simp)
      have hfr:=KN ps (enc x) a.tmps l k (hps x).symm (by simp_all) ha.size ha.get
      have aHK:Has (.rnd k lr) ((ps.zip (enc x)).reverse++l) { tmps:=(ps.toArray.zip (enc x).toArray).foldl (λt (p,v)=>t.setIfInBounds p v) a.tmps,defers:=[] }:=by
        have he:(ps.toArray.zip (enc x).toArray).foldl (λt (p,v)=>t.setIfInBounds p v) a.tmps=(ps.zip (enc x)).foldl (λt (p,v)=>t.setIfInBounds p v) a.tmps:=by simp
        rw [he];exact⟨Y,hfr.1,hfr.2⟩
      have has:=hassign lr pre x F _ W hJ hpre Hw2 _ aHK;refine wpIn_mono has ?_;rintro e a1 w1 hq
      cases e with
      | normal=>
        obtain⟨l1,F1,hh1,hmid,Hm⟩:=hq
        have hcp:∀ {FF GG:List lG} {o1 o2:Obj},(FF++(G0++(pX lr o1::pX D o2::GG))).Perm (pX lr o1::pX D o2::(FF++(G0++GG))):=λ{FF GG o1 o2}=>by
          rw [<- pE,<- pE];refine(zQ).trans<|((zQ).cons _).cons _
        have hcm:∀ {W':World} {FF GG:List lG} {o1 o2:Obj},Hp b S W' (FF++(G0++(pX lr o1::pX D o2::GG)))->Hp b S W' (pX lr o1::pX D o2::(FF++(G0++GG))):=λh=>h.perm hcp;have Hm1:=hcm Hm;refine⟨_,run_beginRound (Hm1.obj s0) (by rw [hrec]),?_⟩;have Hm2:=Hm1.putObj s0 (.loop { rec .ready none with state:=.busy });have Hm3:Hp b S (w1.putObj lr (.loop { rec .ready none with state:=.busy })) (F1++(G0++(pX lr (.loop { rec .ready none with state:=.busy })::pX D (.deferred (some []))::G))):=Hm2.perm hcp.symm;refine wpIn_mono (hbody lr pre x l1 F1 _ _ hmid hpre Hm3 a1 hh1) ?_
        have fin:∀(jump:Option Code)(W3:World)(F3:List lG),Hp b S W3 (F3++(G0++(pX lr (.loop { rec .ready none with state:=.busy })::pX D (.deferred (some []))::G)))->
            ∃ W4,(Instr.endRound lr jump).run P W3=.ok (.bool jump.isNone) W4/\Hp b S W4 ((pX lr (.loop (rec (if jump.isNone then .ready else .done) jump))::pX D (.deferred (some []))::F3)++(G0++G)):=λjump W3 F3 h3=>by
          have h4:=hcm h3;have h5:=run_endRound (P:=P) jump (h4.obj s0);have h6:=h4.putObj s0 (.loop (rec (if jump.isNone then .ready else .done) jump))
          grind
        rintro e a3 W3 hp3
        cases e with
        | normal=>
          obtain⟨F3,hJ3,h3⟩:=hp3;obtain⟨W4,hr4,h4⟩:=fin none W3 F3 h3;exact⟨_,_,hr4,.inl ⟨Y,_,⟨F3,Y,hJ3⟩,h4⟩⟩
        | ret=>
          obtain⟨F3,hJ3,h3⟩:=hp3;obtain⟨W4,hr4,h4⟩:=fin (some .ret) W3 F3 h3;exact⟨_,_,hr4,.inr ⟨Y,_,⟨.ret,F3,Y,hJ3⟩,h4⟩⟩
        | exit id=>
          obtain⟨F3,hJ3,h3⟩:=hp3;obtain⟨W4,hr4,h4⟩:=fin (some (.exit id)) W3 F3 h3;exact⟨_,_,hr4,.inr ⟨Y,_,⟨.exit id,F3,Y,hJ3⟩,h4⟩⟩
        | goto t=>
          obtain⟨F3,hJ3,h3⟩:=hp3;obtain⟨W4,hr4,h4⟩:=fin (some (.goto t)) W3 F3 h3;exact⟨_,_,hr4,.inr ⟨Y,_,⟨.goto t,F3,Y,hJ3⟩,h4⟩⟩
        | panic ch=>exact hp3.elim
        | outgrown=>exact hp3.elim
      | ret=>exact hq.elim
      | exit id=>exact hq.elim
      | goto t=>exact hq.elim
      | panic ch=>exact hq.elim
      | outgrown=>exact hq.elim
    · have hdf:({ a with defers:=[{ target:=.collected D,args:=#[] }]++a.defers }:Act).defers=(Cx.marked k D).defers:=by
        rw [ha.defers]; rfl
      rintro e W2 ⟨⟨v,rfl⟩,(⟨F',⟨F,rfl,hJ⟩,h2⟩ | ⟨pre,F',⟨c,F,rfl,hJ⟩,h2⟩)⟩
      · have h3:=run_endLoop (P:=P) (h2.obj s0) (by grind)
        have h4:=(h2.putObj s0 (.loop { rec .ready none with state:=.exhausted })).tail;refine⟨none,_,h3.trans (aV (λp=>Result.ok p _) (show(rec .ready none).pending=none by rw [hrec])),?_⟩;exact hdone D F _ hJ (Hp.perm (rs:=pX D (.deferred (some []))::(F++G0)) h4 (zQ.cons _)) _ ⟨hdf,ha.size,ha.get⟩
      · have h3:=run_endLoop (P:=P) (h2.obj s0) (by grind)
        have h4:=(h2.putObj s0 (.loop { rec .done (some c) with state:=.exhausted })).tail;refine⟨some c,_,h3.trans (aV (λp=>Result.ok p _) (show(rec .done (some c)).pending=some c by rw [hrec])),?_⟩;exact hstop D c pre F _ hJ (Hp.perm (rs:=pX D (.deferred (some []))::(F++G0)) h4 (zQ.cons _)) _ ⟨hdf,ha.size,ha.get⟩
end
def aes(P:Program)(l:List (Nat × Value))(w:World):List ResultVar->List Value->Prop
  | [],vs=>vs=[]
  | .tmp t::rs,vs=>∃ v us,vs=v::us/\look l t=some v/\aes P l w rs us
  | .cell a t::rs,vs=>∃ v us,vs=v::us/\(∃ p,look l a=some (.pointer (some p))/\(loadVar t p).run P w=.ok v w)/\aes P l w rs us
section
variable {P:Program}{n:Cx}{l:List (Nat × Value)}{b w:World}{S:Nat->Prop}
theorem WU(f:ResultVar->Sem Value)(a:Act)(hf:∀ t,f (.tmp t)=pure (a.tmps.getD t undef))(hc:∀ c t,f (.cell c t)=(do loadVar t (<- asAddr (a.tmps.getD c undef))))(ha:Has n l a):∀(rs:List ResultVar)(vs:List Value),aes P l w rs vs->(rs.mapM f).run P w=.ok vs w
  | [],vs,h=>by simp [aes] at h; subst h; rfl
  | .tmp t::rs,vs,h=>by
    obtain⟨v,us,rfl,h1,h2⟩:=h;have h3:=WU f a hf hc ha rs us h2;have hg:=ha.get t v h1
    simp only [List.mapM_cons,jO,lK,jP,hf,hg,h3]
  | .cell c t::rs,vs,h=>by
    obtain⟨v,us,rfl,⟨p,h1,hp⟩,h2⟩:=h;have h3:=WU f a hf hc ha rs us h2;have hg:=ha.get c _ h1
    have h4:(do loadVar t (<- asAddr (a.tmps.getD c undef)):Sem Value).run P w=.ok v w:=by
      simp [hg,asAddr,hp]
    simp only [List.mapM_cons,jO,lK,jP,hc,h3]
    rw [<- jO,h4]
    simp only [jP,h3,jO,lK]
theorem Bv{p:Addr}(hn:mg P t)(hp:w.cell? p=some v):(loadVar t p).run P w=.ok v w:=by
  simp [loadVar,hn w,run_load,hp]
theorem kK{t':TypeId}{cs:List Value}(hn:Z9 P t k)(hk:cs.length=k)(hb:Bx w g t' cs):(loadVar t ⟨g,0,none⟩).run P w=.ok (.agg cs.toArray) w:=by
  have h1:=ajs (P:=P) w ⟨g,0,none⟩ cs (λj u hu=>by rw [Pn,hb.cell]; grind);rw [hk] at h1
  simp [loadVar,hn.1 w,hn.2 w,h1]
theorem FI{a:Act}(ha:Has n l a)(hr:fn.results=rs.toArray)(h:aes P l w rs vs):(results fn a.tmps).run P w=.ok (uF vs) w:=by
  unfold results;rw [hr,jO,List.mapM_toArray,Sem.run_map,WU _ a (λ_=>rfl) (λ_ _=>rfl) ha rs vs h]
  simp only [jP,lK]
  match vs with
  | []=>simp [uF]
  | [v]=>simp [uF]
  | u::v::vs=>simp [uF]
theorem WP.aoA{c:Code}(hf:P.funcs[f]? = some fn)(hb:fn.body=some c)(hn:fn.ntmps=k)(hle:Nat.ble vs.length k=true)
    (h:WP P (.bare k) c (enum 0 vs) w (bodyPostM Fence.wide 0 P fn (RR R))):bO P f vs.toArray w R:=by
  refine(callsIn_wide).1 (callsIn_of_wp_marks hf hb trivial (h _ ⟨Y,?_,λi v hv=>?_⟩))
  · simp_all
  · obtain⟨_,h2⟩:=MJ vs 0 i v hv
    have hi:i<vs.length:=(sN.1 h2).1
    simp_all [Ur,List.getElem?_eq_some_iff,Array.getElem?_append]
theorem l8.aHL(hr:fn.results=rs.toArray)(h:aes P l w rs vs)(hR:R (uF vs) w):l8 (.bare k) (bodyPost P fn (RR R)) .ret l w:=by
  intro a ha;exact⟨ha.defers.trans Y,_,FI ha hr h,_,Y,hR⟩
def sW:=@l8.aHL
theorem l8.alJ{D:Nat}(H:Hp b S w (pX D (.deferred (some []))::F))(hr:fn.results=rs.toArray)
    (h:∀ w',Hp b S w' F->∃ vs,aes P l w' rs vs/\R (uF vs) w'):l8 (.marked k D) (bodyPostM Fence.wide 0 P fn (RR R)) .ret l w:=by
  intro a ha;show LeavesInM Fence.wide 0 P fn a.tmps (RR R) a.defers .returning w;rw [ha.defers];have h1:=run_takeDeferred (P:=P) (H.obj s0);have h2:=(H.putObj s0 (.deferred none)).tail;obtain⟨vs,h3,h4⟩:=h _ h2;refine⟨av,.inl ⟨D,_,rfl,h1,?_⟩⟩;exact⟨_,FI ha hr h3,_,Y,h4⟩
theorem l8.aHM(hr:fn.results=rs.toArray)(h:aes P l w rs vs)(hR:R (uF vs) w):l8 (.bare k) (bodyPostM Fence.wide 0 P fn (RR R)) .ret l w:=by
  intro a ha;show LeavesInM Fence.wide 0 P fn a.tmps (RR R) a.defers .returning w;rw [ha.defers];exact⟨_,FI ha hr h,_,Y,hR⟩
theorem WL.yield{Q:Exit->Act->World->Prop}{K:Act->World->Prop}{bY:Array Oper}{os:List Oper}{pos:String}{mO:Array Edge}{lr:Nat}{R:Ending->World->Prop}{g:Option (Nat × Bool)}
    (hg:match g with | none=>True | some (j,bS)=>guardOf bY l j=some (.bool bS)) (hf:gY l KA=some (.func (.yield lr) #[] #[])) (hargs:Fp l args=some vs) (hy:YieldAt Fence.wide 0 P lr vs.toArray w R) (hR:∀ e w',R e w'->∃ v,e=.returned v) (hd:Nat.blt d n.size=true) (hro:n.round=none) (hp:n.plain=false)
    (k:∀ v w',R (.returned v) w'->WL P n bY Q K os ((d,v)::l) w'):WL P n bY Q K (⟨some d,.call ⟨.value KA,args.toArray,tys⟩,ty,pos,mO,g⟩::os) l w:=by
  intro a ha;unfold WB
  have hw:Region.wanted ⟨some d,.call ⟨.value KA,args.toArray,tys⟩,ty,pos,mO,g⟩ (yielded bY a.tmps)=true:=by
    match g,hg with
    | none,_=>rfl
    | some (j,bS),hg=>exact uo hg a ha
  rw [aS hw];unfold opw;rw [hp];obtain⟨fn,tmps,assign,body,hy1,hy2⟩:=hy;refine⟨λ_ _=>trivial,?_⟩
  have hrun:(execOp a.eval ⟨some d,.call ⟨.value KA,args.toArray,tys⟩,ty,pos,mO,g⟩).run P w=.ok (.round lr fn tmps assign body) w:=by
    unfold execOp;have h1:=ha.eval hf;have h2:=ha.Ut hargs
    simp only [resolve,h1,Deferred.ofValue,jO,lK,jP,invoke]
    have:(#[]++Array.map a.eval args.toArray:Array Value)=vs.toArray:=by grind
    rw [this];exact hy1
  have hrd:n.fence.round=none:=hro;rw [hrd,Oper.semAt_none,hrun];rw [Wy hro];refine⟨au,RoundIn.mono hy2 ?_⟩;rintro e w' hq;obtain⟨v,rfl⟩:=hR e w' hq;exact k v w' hq _ (ha.put hd v)
end
section
variable {P:Program}{n:Cx}{l l':List (Nat × Value)}{b w:World}{S:Nat->Prop}{bY:Array Oper}{T:World->Prop}{op:Op}{ty:TypeId}{pos:String}{mO:Array Edge}{d j:Nat}{bS:Bool}{v:Value}
theorem Qi.ev(h:∀ w,T w->Ev P n l w op v):Qi P n bY T l ⟨some d,op,ty,pos,mO,none⟩ v:=λa w ha hT=>.inl ⟨fZ a,.inl (h w hT _ a w rfl ha (pW w))⟩
def xD:=@Qi.ev
theorem Qi.evg(hg:guardOf bY l j=some (.bool bS))(h:∀ w,T w->Ev P n l w op v):Qi P n bY T l ⟨some d,op,ty,pos,mO,some (j,bS)⟩ v:=λa w ha hT=>.inl ⟨uo hg a ha,.inl (h w hT _ a w rfl ha (pW w))⟩
theorem Qi.pass{u:Value}(hg:guardOf bY l j=some u)(hv:unlike bS u=true):Qi P n bY T l ⟨some d,op,ty,pos,mO,some (j,bS)⟩ undef:=λa w ha hT=>.inr ⟨by
  show(yielded bY a.tmps j == some bS)=false;rw [Ei ha hg]
  cases u <;> simp [unlike] at hv ⊢
  all_goals grind,rfl⟩
theorem Qi.call(hf:gY l KA=some (.func (.func f) #[] caps.toArray))(hargs:Fp l args=some vs)(hall:vs++caps=all)(J8:bJ P f)
    (hc:∀ w,T w->bO P f all.toArray w λu w'=>u=v/\T w'):Qi P n bY T l ⟨some d,.call ⟨.value KA,args.toArray,tys⟩,ty,pos,mO,none⟩ v:=λa w ha hT=>by grind [fZ,D6]
theorem Qi.aei(hg:guardOf bY l j=some (.bool bS))(hf:gY l KA=some (.func (.func f) #[] caps.toArray))(hargs:Fp l args=some vs)(hall:vs++caps=all)(J8:bJ P f)
    (hc:∀ w,T w->bO P f all.toArray w λu w'=>u=v/\T w'):Qi P n bY T l ⟨some d,.call ⟨.value KA,args.toArray,tys⟩,ty,pos,mO,some (j,bS)⟩ v:=λa w ha hT=>by grind [uo,D6]
theorem l8.ap{F1:List lG}{Mid:List α->α->List (Nat × Value)->List lG->Prop}{x:α}{l1:List (Nat × Value)}(hM:Mid pre x l1 F1)(hs:Sb l l1)(H:Hp b S w (F1++G)):l8 n (awZ n b S G Mid pre x) .normal l w:=λa ha=>⟨l1,F1,ha.sb hs,hM,H⟩
theorem l8.rn(hJ:Jf pre F)(H:Hp b S w (F++G)):l8 n (ajA b S G Jf Jx pre) .normal l w:=λ_ _=>⟨F,hJ,H⟩
theorem l8.rr(hJ:Jx .ret pre F)(H:Hp b S w (F++G)):l8 n (ajA b S G Jf Jx pre) .ret l w:=λ_ _=>⟨F,hJ,H⟩
theorem l8.rx{id:Nat}(hJ:Jx (.exit id) pre F)(H:Hp b S w (F++G)):l8 n (ajA b S G Jf Jx pre) (.exit id) l w:=λ_ _=>⟨F,hJ,H⟩
theorem WP.ahK{c:Code}{y:Value}{R:Ending->World->Prop}(hf:P.funcs[f]? = some fn)(hb:fn.body=some c)(hn:fn.ntmps=k)(hle:Nat.ble (y::caps).length k=true)
    (h:WP P (.bare k) c (enum 0 (y::caps)) w (bodyPost P fn R)):CallsIn Fence.wide 0 P f (#[y]++caps.toArray) w R:=by
  have e:#[y]++caps.toArray=(y::caps).toArray:=by simp
  rw [e];refine callsIn_wide.2 (calls_of_wp hf hb (Wt.1 (h _ ⟨Y,?_,λi v hv=>?_⟩)))
  · simp_all
  · obtain⟨_,h2⟩:=MJ _ 0 i v hv
    have hi:i<(y::caps).length:=(sN.1 h2).1
    simp_all [Ur,List.getElem?_eq_some_iff,JN,Array.getElem?_append_left,List.getElem?_toArray,Option.getD_some]
theorem l8.alK{R:Ending->World->Prop}(hr:fn.results=#[])(hR:R (.returned (.tuple #[])) w):l8 (.bare k) (bodyPost P fn R) .ret l w:=by
  intro a ha;exact⟨ha.defers.trans Y,_,FI ha hr Y,hR⟩
theorem l8.aoB{R:Ending->World->Prop}(h:l8 (.bare k) (bodyPost P fn R) .ret l w):l8 (.bare k) (bodyPost P fn R) .normal l w:=h
end
section
variable {P:Program}{w:World}
theorem WV{kp:0<k}{j:Nat}{S:Nat->Prop}{us:List (Cells k)}(hT:P.underlying t=some (.slice e))(hI:lY P e k bytes)(ho:Own (zD k kp) e lo S w A c us)(hij:i<j)(hj:j<=us.length) :
    ∃ w',(Builtin.append_ #[t,t] ty #[.slice A i c,.slice (sS A c j k) (us.length - j) (c - j)]).run P w=.ok (.slice A (i+(us.length - j)) c) w'/\Own (zD k kp) e lo S w' A c (us.take i++us.drop j)/\ND w w' (blk A)/\w'.heap.size=w.heap.size:=by
  have hcap:=(ho.sl (S':=Any) (λ_ _=>trivial) (λ_ _=>trivial)).cap;obtain⟨g,cur,rfl,hg,hb,hnc,hcm,hcl,ht⟩:=ho.open_ aj;obtain⟨inf,z,z1,z2,z3,z4,z5⟩:=hI.ex
  have hld:(Builtin.firstCells k (us.length - j) (.slice (sS (some ⟨g,0,none⟩) c j k) (us.length - j) (c - j))).run P w=.ok (jc (us.drop j)).toArray w:=by
    by_cases hc:c=j
    · have h0:us.drop j=[]:=by grind
      have h1:us.length - j=0:=aj;unfold sS;rw [aS hc,h0,h1];exact run_firstCells_some w k 0 ⟨g,0,none⟩ _ _ [] av av
    · rw [D7 hc]
      refine run_firstCells_some w k _ _ _ _ _ (by rw [jH,rR]) (λq v hq=>?_);rw [Pn,hb.cell];rw [<- Ip,F5,<- ht,Wv] at hq
      grind
  have hik:i*k<=us.length*k:=zO _ aj;have hnk:us.length*k<=cur.length:=by simp_all [zO]
  have hdl:(jc (us.drop j)).length=(us.length - j)*k:=by grind [jH]
  have hfit:i*k+(jc (us.drop j)).length<=cur.length:=by
    rw [hdl,<- Bl,hcl]; exact zO _ aj
  have hst:=Z5 P g (i*k) e (jc (us.drop j)) 0 cur.toArray w hb (by grind) GH
  simp only [Nat.add_zero] at hst
  refine⟨_,?_,?_,sV w g (cur.take (i*k)++jc (us.drop j)++cur.drop (i*k+(jc (us.drop j)).length)).toArray,av⟩
  · have hle:i+(us.length - j)<=c:=aj
    simp [Builtin.append_,kV hT,sizeOf,typeInfo,z1,z3,Builtin.lenOf,hle,hld,Pn]
    simp_all
  · have hlen:(us.take i++us.drop j).length=i+(us.length - j):=by grind
    refine R8 hg (KD w g _ _ e _ hb) (by grind) hcm (by grind) ?_;rw [hlen,zR,<- En,<- ht,RY,WM hik]
    grind [List.take_of_length_le]
end
section
variable {P:Program}{n:Cx}{l:List (Nat × Value)}{b w:World}{S:Nat->Prop}{rs rest:List lG}{Q:Exit->Act->World->Prop}{K:Act->World->Prop}{bY:Array Oper}{os:List Oper}{ty:TypeId}{pos:String}{mO:Array Edge}{d:Nat}
theorem abv{j:Nat}{y:Operand}(H:Hp b S w rs)(s:pq rs (aQ τ e A c xs) rest)(hs:evd n l d x=some (.slice A (xs.take i).length c))(hy:gY l y=some (.slice (sS A c j τ.k) (xs.drop j).length (c - j)))
    (hT:P.underlying t=some (.slice e)) (hI:lY P e τ.k bytes) (hij:i<j) (hj:j<=xs.length)
    (k:∀ w',Hp b S w' (aQ τ e A c (xs.take i++xs.drop j)::rest)->WL P n bY Q K os ((d,.slice A (xs.take i++xs.drop j).length c)::l) w'):WL P n bY Q K (⟨some d,.call ⟨.builtin .append,#[x,y],#[t,t]⟩,ty,pos,mO,none⟩::os) l w:=by
  obtain⟨us,hU,hr⟩:=H.raw s;have hl:=hr.1;obtain⟨w',hrun,ho',hg,hz⟩:=WV (ty:=ty) hT hI hU hij (by grind);have e1:(xs.take i).length=i:=by grind
  have e2:(xs.drop j).length=us.length - j:=by grind
  have e3:(xs.take i++xs.drop j).length=i+(us.length - j):=by grind
  rw [e1] at hs;rw [e2] at hy;refine Ej (v:=.slice A (i+(us.length - j)) c) (by simp [fZ]) rfl (sG hs).1 (R:=λw2=>w2=w') (λa ha=>⟨w',?_,rfl⟩) λw2 e=>?_
  · unfold execOp
    simp only [resolve,jO,lK,jP,invoke,builtin,wh,mR,xk,ha.eval (sG hs).2,ha.eval hy,hrun]
  · rw [e,<- e3]
    exact k w' (H.back s ho' ((hr.take i).append (hr.drop j)) hg (by grind))
theorem WL.aHN{o:Oper}(hw:∀ a,Has n l a->Region.wanted o (yielded bY a.tmps)=true)(hdst:o.dst=none){R:World->Prop}
    (hrun:∀ a,Has n l a->∃ w',(execOp a.eval o).run P w=.ok (.value v) w'/\R w') (k:∀ w',R w'->WL P n bY Q K os l w'):WL P n bY Q K (o::os) l w:=by
  intro a ha;obtain⟨w',hr,hR⟩:=hrun a ha;unfold WB;rw [aS (hw a ha)];refine MK hr ?_;rw [hdst];exact k w' hR a ha
theorem aeu{m:Nat}(H:Hp b S w rs)(s:pq rs (aQ τ e A c xs) rest)(hx:gY l x=some (.slice (sS A c xs.length τ.k) m (c - xs.length)))(hT:P.underlying t=some (.slice e))(hz:wz P e τ.k bytes)(hm:xs.length+m<=c)
    (k:∀ w',Hp b S w' (aQ τ e A c xs::rest)->WL P n bY Q K os l w'):WL P n bY Q K (⟨none,.call ⟨.builtin .clear,#[x],#[t]⟩,ty,pos,mO,none⟩::os) l w:=by
  obtain⟨us,hU,hr⟩:=H.raw s;have hl:=hr.1;obtain⟨w',hrun,ho',hg,hz'⟩:=WR (ty:=ty) (m:=m) hT hz hU (by grind);rw [hl] at hrun;refine WL.aHN (v:=.tuple #[]) (by simp [fZ]) rfl (R:=λw2=>w2=w') (λa ha=>⟨w',?_,rfl⟩) λw2 e=>?_
  · unfold execOp
    simp only [resolve,jO,lK,jP,invoke,builtin,wh,mR,xk,ha.eval hx,hrun]
  · rw [e]
    exact k w' (H.back s ho' hr hg (by grind))
theorem Ev.auh{m hi mx:Nat}{kl kh km:IntKind}{zl zh zm:Int}{yl yh ym:Operand}(hu:P.underlying t=some (.slice e))(hs:Size P e k)(hx:gY l x=some (.slice A m c))(hl:gY l yl=some (.int kl zl))(hh:gY l yh=some (.int kh zh))(hm:gY l ym=some (.int km zm))
    (h1:zl=(lo:Int)) (h2:zh=(hi:Int)) (h3:zm=(mx:Int)) (h4:lo<=hi) (h5:hi<=mx) (h6:mx<=c):Ev P n l w (.slice t x (some yl) (some yh) (some ym)) (.slice (if mx=lo then A else A.map (·.add (lo*k))) (hi - lo) (mx - lo)):=λo a w' ho ha _=>by
  unfold execOp; rw [ho]
  have h7:(Instr.sliceAt t (.slice A m c) (some (.int kl zl)) (some (.int kh zh)) (some (.int km zm))).run P w'=.ok (.slice (if mx=lo then A else A.map (·.add (lo*k))) (hi - lo) (mx - lo)) w':=by
    rw [Oi w' t _ _ _ _ (rD hu),run_slice_lhm w' t A m c (rD hu) kl kh km zl zh zm aj aj aj aj,Dz hu,hs w',h1,h2,h3]
    simp [sliced]
  simp [ha.eval hx,ha.eval hl,ha.eval hh,ha.eval hm,h7]
theorem Ev.aui{m hi:Nat}{kl kh:IntKind}{zl zh:Int}{yl yh:Operand}(hu:P.underlying t=some (.slice e))(hs:Size P e k)(hx:gY l x=some (.slice A m c))(hl:gY l yl=some (.int kl zl))(hh:gY l yh=some (.int kh zh))
    (h1:zl=(lo:Int)) (h2:zh=(hi:Int)) (h4:lo<=hi) (h6:hi<=c):Ev P n l w (.slice t x (some yl) (some yh) none) (.slice (sS A c lo k) (hi - lo) (c - lo)):=λo a w' ho ha _=>by
  unfold execOp; rw [ho]
  have h7:(Instr.sliceAt t (.slice A m c) (some (.int kl zl)) (some (.int kh zh)) none).run P w'=.ok (.slice (sS A c lo k) (hi - lo) (c - lo)) w':=by
    rw [Oi w' t _ _ _ _ (rD hu),run_slice_lh w' t A m c (rD hu) kl kh zl zh aj aj aj,Dz hu,hs w',h1,h2]
    simp [sliced,sS]
  simp [ha.eval hx,ha.eval hl,ha.eval hh,h7]
theorem Ev.nilCheck{p:Addr}(hx:gY l x=some (.pointer (some p))):Ev P n l w (.nilCheck x) (.pointer (some p)):=λo a w' ho ha _=>by
  unfold execOp; rw [ho]; simp [ha.eval hx]
def d9:=@Ev.nilCheck
end
def fU{α:Type}(τ:Ty α)(e:TypeId)(L:List (Option Addr × Nat × List α)):lG where
  W:=λg=>∃ r∈L,blk r.1=some g
  ok:=λS w=>(∀ r∈L,Own τ e 0 S w r.1 r.2.1 r.2.2)/\L.Pairwise fun(p q:Option Addr × Nat × List α)=>∀ g,blk p.1=some g->blk q.1≠some g
  sub:=λhs h=>⟨λr hr=>(h.1 r hr).low (kJ _) hs,h.2⟩
  keep:=λhm h=>⟨λr hr=>(h.1 r hr).keep (by grind),h.2⟩
def U6{α:Type}(τ:Ty α)(L:List (Option Addr × Nat × List α)):lG where
  W:=λ_=>False
  ok:=λS w=>∀ r∈L,Sl τ S w r.1 r.2.1 r.2.2
  sub:=λhs h=>λr hr=>(h r hr).sub hs
  keep:=λhm h=>λr hr=>(h r hr).keep (by grind)
section
variable {α:Type}{τ:Ty α}{e:TypeId}{b w:World}{S:Nat->Prop}{rs rest xR:List lG}{L:List (Option Addr × Nat × List α)}
theorem Hp.aev(H:Hp b S w rs)(τ:Ty α)(e:TypeId):Hp b S w (fU τ e []::rs):=
  H.new (pW w) (λg ⟨r,hr,_⟩=>by grind) ⟨av,List.Pairwise.nil⟩
theorem Hp.join{r1 r2 r:lG}(H:Hp b S w (r1::r2::rs))(hW:∀ g,r.W g↔r1.W g∨r2.W g)(hok:∀ {S':Nat->Prop},r1.ok S' w->r2.ok S' w->(∀ g,r1.W g->¬ r2.W g)->r.ok S' w):Hp b S w (r::rs):=by
  have h1:=nW.1 H.dis;have h2:=nW.1 h1.2
  have hs:∀ g,Rd b S (r1::r2::rs) w g->Rd b S (r::rs) w g:=by
    rintro g (h | ⟨h3,h4,h5⟩)
    · exact .inl h
    · refine .inr ⟨h3,h4,λq hq=>?_⟩
      rcases iR.1 hq with rfl | hq
      · intro h; rcases(hW g).1 h with h | h
        · exact h5 r1 av h
        · exact h5 r2 av h
      · exact h5 q (by simp [hq])
  refine⟨H.ext,λq hq=>?_,λq hq g hg=>?_,nW.2 ⟨λq hq g hg=>?_,h2.2⟩⟩
  · rcases iR.1 hq with rfl | hq
    · exact q.sub hs (hok (H.ok r1 av) (H.ok r2 av) (h1.1 r2 av))
    · exact q.sub hs (H.ok q (by simp [hq]))
  · rcases iR.1 hq with rfl | hq
    · rcases(hW g).1 hg with h | h
      · exact H.lo r1 av g h
      · exact H.lo r2 av g h
    · exact H.lo q (by simp [hq]) g hg
  · rcases(hW g).1 hg with h | h
    · exact h1.1 q (by simp [hq]) g h
    · exact h2.1 q hq g h
theorem Hp.split{r1 r2 r:lG}(H:Hp b S w (r::rs))(hW:∀ g,r.W g↔r1.W g∨r2.W g)(hok:∀ {S':Nat->Prop},r.ok S' w->r1.ok S' w/\r2.ok S' w/\∀ g,r1.W g->¬ r2.W g):Hp b S w (r1::r2::rs):=by
  have h1:=nW.1 H.dis;have h0:=hok (H.ok r av)
  have hs:∀ g,Rd b S (r::rs) w g->Rd b S (r1::r2::rs) w g:=by
    rintro g (h | ⟨h3,h4,h5⟩)
    · exact .inl h
    · refine .inr ⟨h3,h4,λq hq=>?_⟩
      grind
  refine⟨H.ext,λq hq=>?_,λq hq g hg=>?_,nW.2 ⟨λq hq g hg=>?_,nW.2 ⟨λq hq g hg=>h1.1 q hq g ((hW g).2 (.inr hg)),h1.2⟩⟩⟩
  · rcases iR.1 hq with rfl | hq
    · exact q.sub hs h0.1
    · rcases iR.1 hq with rfl | hq
      · exact q.sub hs h0.2.1
      · exact q.sub hs (H.ok q (by simp [hq]))
  · rcases iR.1 hq with rfl | hq
    · exact H.lo r av g (by grind)
    · rcases iR.1 hq with rfl | hq
      · exact H.lo r av g (by grind)
      · exact H.lo q (by simp [hq]) g hg
  grind
theorem Hp.PE{B:ah}{d:Nat}{xs:List α}(H:Hp b S w rs)(s:pq rs (aQ τ e B d xs) rest)(s':pq rest (fU τ e L) xR):Hp b S w (fU τ e (L++[(B,d,xs)])::xR):=by
  have H1:Hp b S w (aQ τ e B d xs::fU τ e L::xR):=(H.sel s).perm (s'.perm.cons _);refine H1.join (λg=>?_) (λ{S'} h1 h2 h3=>?_)
  · constructor
    · rintro⟨r,hr,hg⟩
      rcases kX.1 hr with hr | hr
      · exact .inr ⟨r,hr,hg⟩
      · rw [oG.1 hr] at hg; exact .inl hg
    · rintro(h | ⟨r,hr,hg⟩)
      · exact⟨(B,d,xs),av,h⟩
      · exact⟨r,by simp [hr],hg⟩
  · refine⟨λr hr=>?_,zk.2 ⟨h2.2,R4 _ _,λp hp q hq g hg hq'=>?_⟩⟩
    · rcases kX.1 hr with hr | hr
      · exact h2.1 r hr
      · rw [oG.1 hr]; exact h1
    · rw [oG.1 hq] at hq'
      exact h3 g hq' ⟨p,hp,hg⟩
theorem KO{β:Type}{L:List β}{x:β}(hx:L[i]? = some x):L=L.take i++x::L.drop (i+1)/\L.eraseIdx i=L.take i++L.drop (i+1):=by
  grind [aM,List.getElem?_eq_some_iff,List.getElem_cons_drop,List.take_append_drop,List.eraseIdx_eq_take_drop_succ]
theorem Hp.Ce{i:Nat}{B:ah}{d:Nat}{xs:List α}(H:Hp b S w rs)(s:pq rs (fU τ e L) rest)(hx:L[i]? = some (B,d,xs)):Hp b S w (aQ τ e B d xs::fU τ e (L.eraseIdx i)::rest):=by
  obtain⟨e1,e2⟩:=KO hx;refine(H.sel s).split (λg=>?_) (λ{S'} h=>?_)
  · constructor
    · rintro⟨r,hr,hg⟩
      rw [e1] at hr
      rcases kX.1 hr with hr | hr
      · exact .inr ⟨r,by rw [e2]; simp [hr],hg⟩
      · rcases iR.1 hr with rfl | hr
        · exact .inl hg
        · exact .inr ⟨r,by rw [e2]; simp [hr],hg⟩
    · rintro(h | ⟨r,hr,hg⟩)
      · exact⟨(B,d,xs),yS hx,h⟩
      · rw [e2] at hr
        refine⟨r,?_,hg⟩
        grind
  · have h1:∀ r∈L.eraseIdx i,r∈L:=by grind
    have h2:=h.2;rw [e1] at h2;obtain⟨h3,h4,h5⟩:=zk.1 h2;obtain⟨h6,h7⟩:=nW.1 h4;refine⟨h.1 _ (yS hx),⟨λr hr=>h.1 r (h1 r hr),?_⟩,?_⟩
    · grind
    · rintro g hg ⟨r,hr,hg'⟩
      rw [e2] at hr
      rcases kX.1 hr with hr | hr
      · exact h5 r hr (B,d,xs) av g hg' hg
      · exact h6 r hr g hg hg'
theorem Hp.DC{i:Nat}{x0:Option Addr × Nat × List α}{B:ah}{d:Nat}{xs:List α}(H:Hp b S w rs)(hx:L[i]? = some x0)(s:pq rs (aQ τ e B d xs) rest)(s':pq rest (fU τ e (L.eraseIdx i)) xR):Hp b S w (fU τ e (L.set i (B,d,xs))::xR):=by
  have H1:Hp b S w (aQ τ e B d xs::fU τ e (L.eraseIdx i)::xR):=(H.sel s).perm (s'.perm.cons _);obtain⟨e1,e2⟩:=KO hx;have hi:=aM hx;have e3:L.set i (B,d,xs)=L.take i++(B,d,xs)::L.drop (i+1):=by grind
  refine H1.join (λg=>?_) (λ{S'} h1 h2 h3=>?_)
  · constructor
    · rintro⟨r,hr,hg⟩
      rw [e3] at hr
      rcases kX.1 hr with hr | hr
      · exact .inr ⟨r,by rw [e2]; simp [hr],hg⟩
      · rcases iR.1 hr with rfl | hr
        · exact .inl hg
        · exact .inr ⟨r,by rw [e2]; simp [hr],hg⟩
    · rintro(h | ⟨r,hr,hg⟩)
      · exact⟨(B,d,xs),by grind,h⟩
      · rw [e2] at hr
        refine⟨r,?_,hg⟩
        grind
  · rw [e2] at h2 h3
    obtain⟨h4,h5,h6⟩:=zk.1 h2.2;refine⟨λr hr=>?_,?_⟩
    · rw [e3] at hr
      rcases kX.1 hr with hr | hr
      · exact h2.1 r (by simp [hr])
      · rcases iR.1 hr with rfl | hr
        · exact h1
        · exact h2.1 r (by simp [hr])
    · rw [e3]
      refine zk.2 ⟨h4,nW.2 ⟨λq hq g hg hg'=>h3 g hg ⟨q,by simp [hq],hg'⟩,h5⟩,λp hp q hq g hg hg'=>?_⟩
      rcases iR.1 hq with rfl | hq
      · exact h3 g hg' ⟨p,by simp [hp],hg⟩
      grind
theorem Hp.aym{B:ah}{d:Nat}{xs:List α}(H:Hp b S w rs)(s:pq rs (U6 τ L) rest)(hx:(B,d,xs)∈L):Sl τ (Rd b S rs w) w B d xs:=H.ok (U6 τ L) (s.perm.mem_iff.2 av) _ hx
theorem Hp.WW(H:Hp b S w rs)(s:pq rs (fU τ e L) rest):Hp b S w (U6 τ L::rest):=by
  have H1:=H.sel s;have hd:=nW.1 H1.dis
  have hs:∀ g,Rd b S (fU τ e L::rest) w g->Rd b S (U6 τ L::rest) w g:=by
    rintro g (h | ⟨h3,h4,h5⟩)
    · exact .inl h
    · refine .inr ⟨h3,h4,λq hq=>?_⟩
      rcases iR.1 hq with rfl | hq
      · exact λh=>h
      grind
  refine⟨H.ext,λq hq=>?_,λq hq g hg=>?_,nW.2 ⟨λq hq g hg=>hg.elim,hd.2⟩⟩
  · rcases iR.1 hq with rfl | hq
    · intro r hr
      have h6:Own τ e 0 (Rd b S (fU τ e L::rest) w) w r.1 r.2.1 r.2.2:=(H1.ok (fU τ e L) av).1 r hr;refine h6.slb (λg hg=>?_) hs;have h8:=H1.lo (fU τ e L) av g ⟨r,hr,hg⟩;refine .inr ⟨h8.1,h8.2,λq hq=>?_⟩
      rcases iR.1 hq with rfl | hq
      · exact λh=>h
      · exact hd.1 q hq g ⟨r,hr,hg⟩
    · exact q.sub hs (H1.ok q (by simp [hq]))
  · rcases iR.1 hq with rfl | hq
    · exact hg.elim
    · exact H1.lo q (by simp [hq]) g hg
theorem Hp.ayn{β γ:Type}{σ:Ty β}{ρ:Ty γ}{xs:List β}{ys:List γ}(H:Hp b S w rs)(s:pq rs (aQ σ e A c xs) rest)(hk:σ.k=ρ.k)(hl:ys.length=xs.length)
    (hR:∀(i:Nat)(x:β)(y:γ)(cs:List Value),xs[i]? = some x->ys[i]? = some y->σ.R (Rd b S rs w) w x cs->ρ.R (Rd b S rs w) w y cs):Hp b S w (aQ ρ e A c ys::rest):=by
  have hsub:∀ g,Rd b S rs w g->Rd b S (aQ σ e A c xs::rest) w g:=Rd.perm s.perm;refine(H.sel s).put (r':=aQ ρ e A c ys) ⟨Y,Y,Y,kJ _,av,kJ _⟩ (λg hg=>.inl hg) ?_;obtain⟨css,h1,h2,h3⟩:=H.ow s;refine Own.low (lo:=b.heap.size) ⟨css,by rw [h1,hl],λi y hy=>?_,?_⟩ (fE _) hsub
  · obtain⟨x,hx⟩:=bn (xs:=xs) (i:=i) (by grind)
    grind
  grind
end
theorem Ext.auj{w':World}(e:Ext w w'):∃(q:Nat)(os':Array Obj),w'=Go.Sort.grow (w.drewN q) os':=by
  refine⟨w'.drawn - w.drawn,w'.heap.extract w.heap.size w'.heap.size,?_⟩;obtain⟨e1,e2,e3,e4,e5,e6⟩:=e;obtain⟨h,t,d,o,out⟩:=w;obtain⟨h',t',d',o',out'⟩:=w'
  simp only at e1 e2 e3 e4 e5 e6
  subst e1 e2 e3;have hd:d+(d' - d)=d':=aj;have hh:h++h'.extract h.size h'.size=h':=by grind
  grind [Sort.grow,World.drewN]
theorem WX[Inhabited α](hk:∀ x,(enc x).length=k)(ys:List α):(Go.Sort.flatK enc k ys.toArray).toList=(ys.map enc).flatten:=by
  apply Gg;intro j
  have hl:((ys.map enc).flatten).length=ys.length*k:=by
    induction ys with
    | nil=>simp
    | cons y ys ih=>grind
  by_cases hj:j<ys.length*k
  · have hk0:0<k:=by grind
    have hlt:j / k<ys.length:=(Nat.div_lt_iff_lt_mul hk0).2 hj;have hm:j % k<k:=Nat.mod_lt _ hk0;obtain⟨y,hy⟩:=bn hlt;have hyj:ys[j / k]! = y:=by grind
    have hc:(enc y)[j % k]? = some (enc y)[j % k]!:=by grind
    have h2:=Po (ys.map enc) (by intro cs hcs; obtain⟨x,_,rfl⟩:=gB.1 hcs; exact hk x) (j / k) (enc y) (by rw [rQ,hy]; rfl) (j % k) _ hc
    grind [Sort.flatK,Nat.div_add_mod',Sort.size_flatK,Array.getElem?_eq_getElem,Sort.get_flatK]
  simp [*]
theorem aew{F:Array Value}(hb:w.heap[g]? = some (.cells cur e (0,0)))(ht:cur.toList.take F.size=F.toList):Go.Sort.Holds id w g 0 F:=by
  intro j hj;refine⟨?_,by simp [World.frozen?,hb]⟩;have h1:(cur.toList.take F.size)[j]? = F.toList[j]?:=by grind
  grind [World.cell?]
theorem heap_sorted{n:Nat}{F:Array Value}{fr:Nat × Nat}(hb:w.heap[g]? = some (.cells cur e fr)) :
    (Go.Sort.grow (Go.Sort.putRow id (Go.Sort.ahead w n) g 0 F) os).heap[g]? = some (.cells (Go.Sort.putCells id 0 F cur) e fr):=by
  grind [Sort.putRow,Sort.mapBlock,Sort.ahead,Sort.onCells,Array.getElem?_eq_some_iff,Sort.heap_grow_old]
theorem Sd[Inhabited α]{enc:α->Value}{b:World}{W:Nat->Prop}{n:Nat}{F:Array α}(hW:W g):Wr b w (Go.Sort.grow (Go.Sort.putRow enc (Go.Sort.ahead w n) g 0 F) os) W:=by
  refine⟨Y,Y,Y,av,λk hk hne=>?_,?_⟩
  · grind [Sort.putRow,Sort.mapBlock,Sort.ahead,Sort.heap_grow_old]
  · show w.drawn<=w.drawn+n; omega
theorem aex(cur F:Array Value)(h:F.size<=cur.size):(Go.Sort.putCells id 0 F cur).toList.take F.size=F.toList:=by
  apply Gg
  grind [Sort.putCells]
section
variable {P:Program}{b w:World}{S:Nat->Prop}{F:List lG}
theorem Own.Si{h1:∀ x,∀ u∈enc x,u.oneCell'=true}(h:Own (Ty.flat k enc pos hl h1) e lo S w A c xs)(hne:xs≠[]) :
    ∃ g cur,A=some ⟨g,0,none⟩/\lo<=g/\w.heap[g]? = some (.cells cur e (0,0))/\xs.length<=c/\c<=maxLen/\cur.size=c*k/\cur.toList.take (xs.length*k)=(xs.map enc).flatten:=by
  obtain⟨css,c1,c2,c3⟩:=h
  have aHO:css=xs.map enc:=by
    apply Gg;intro i;rw [rQ]
    cases hi:xs[i]? with
    | none=>grind
    | some x=>
      obtain⟨cs,h5,h6⟩:=c2 i x hi;rw [h5,show cs=enc x from h6]; rfl
  rcases c3.2 with ⟨hv,hn⟩ | ⟨g,cap,cur,hv,hg,hh,hnc,hcm,hcs,ht⟩
  · grind
  · injection hv with hA hn' hc'
    subst hA hc';exact⟨g,cur,Y,hg,hh,hnc,hcm,hcs,by rw [<- aHO]; exact ht⟩
theorem Own.Sj{h1:∀ x,∀ u∈enc x,u.oneCell'=true}(hg:lo<=g)(hh:w.heap[g]? = some (.cells cur e (0,0)))(hnc:xs.length<=c)(hcm:c<=maxLen)(hcs:cur.size=c*k)(ht:cur.toList.take (xs.length*k)=(xs.map enc).flatten) :
    Own (Ty.flat k enc pos hl h1) e lo S w (some ⟨g,0,none⟩) c xs:=by
  have hlen:∀ ys:List α,((ys.map enc).flatten).length=ys.length*k:=by
    intro ys
    induction ys with
    | nil=>simp
    | cons y ys ih=>grind
  exact⟨xs.map enc,av,λi x hx=>⟨enc x,by grind,rfl⟩,hlen xs,.inr ⟨g,c,cur,rfl,hg,hh,hnc,hcm,hcs,ht⟩⟩
theorem Hp.sorted[Inhabited α]{h1:∀ x,∀ u∈enc x,u.oneCell'=true}{e n:Nat}{ys:List α}(H:Hp b S w (aQ (Ty.flat k enc pos hl h1) e (some ⟨g,0,none⟩) c xs::F))
    (hh:w.heap[g]? = some (.cells cur e (0,0))) (hnc:xs.length<=c) (hcm:c<=maxLen) (hcs:cur.size=c*k) (hy:ys.length=xs.length) :
    Hp b S (sortWorldK enc k w g 0 n ys.toArray os) (aQ (Ty.flat k enc pos hl h1) e (some ⟨g,0,none⟩) c ys::F):=by
  have hsz:(Go.Sort.flatK enc k ys.toArray).size=ys.length*k:=by simp
  have hle:ys.length*k<=c*k:=zO k aj;refine H.put (r':=aQ (Ty.flat k enc pos hl h1) e (some ⟨g,0,none⟩) c ys) (Sd (by rfl)) (λq hq=>.inl hq)<|Own.Sj (fE _) (heap_sorted hh) aj hcm (by grind [Sort.putCells]) ?_
  grind [aex,WX]
open Go.Sort in
theorem aB2(L:SlLaysF0.n6 P ρ)[Inhabited α]{h1:∀ x,∀ u∈enc x,u.oneCell'=true}(aE:∀ w,(isAgg (ρ.t 24)).run P w=.ok true w)(zE:∀ w,(Go.sizeOf (ρ.t 24)).run P w=.ok k w)
 (hO:SWO (ltOf cf)) {cb:Array Value} {e:Nat} (H:Hp b S w (aQ (Ty.flat k enc pos hl h1) e A c xs::F)) (eg:∀ args w,(callFunc g args).run P w=.ok (.enter g args) w) (hn:xs.length<=1000000) (hne:xs≠[])
    (hcmp:∀(w':World)(ys:List α),ys.length=xs.length->Hp b S w' (aQ (Ty.flat k enc pos hl h1) e A c ys::F)->∀ x y:α,bO P g (#[.agg (enc x).toArray,.agg (enc y).toArray]++cb) w' λv w''=>v=aI (cf x y)/\Ext w' w'') :
    bO P (ρ.f 6) #[.slice A xs.length c,.func (.func g) #[] cb] w λv w'=>v=.tuple #[]/\∃ ys:List α,ys.Perm xs/\(ys.Pairwise λx y=>¬ cf y x<0)/\Hp b S w' (aQ (Ty.flat k enc pos hl h1) e A c ys::F):=by
  obtain⟨q,cur,rfl,hq,hh,hnc,hcm,hcs,ht⟩:=Own.Si (H.ow s0) hne;have hqs:q<w.heap.size:=(yU.1 hh).1
  have hH:Go.Sort.HoldsK enc k w q 0 xs.toArray:=by
    refine aew hh ?_;rw [WX hl,Go.Sort.size_flatK]; simpa using ht
  have hc:CmpLays P g cb enc k cf q 0 xs.toArray.size w:=by
    intro m os dk hdk x y;obtain⟨ys,rfl⟩:∃ ys:List α,dk=ys.toArray:=⟨dk.toList,av⟩;have hy:ys.length=xs.length:=by simpa using hdk
    have h3:=hcmp _ ys hy (H.sorted (n:=m) (os:=os) hh hnc hcm hcs hy) x y;refine FB h3 ?_;rintro e' w' ⟨v,rfl,rfl,ex⟩;obtain⟨q',os',hw⟩:=ex.auj;exact⟨Y,q',os',hw⟩
  have h4:=AnyQ.slices_SortFunc L k aE zE enc hl h1 cf hO g cb q 0 c xs.toArray w eg hc hH hqs (by simp; omega)
  simp only [Wu] at h4
  refine FB h4 ?_;rintro e' w' ⟨rfl,d',n,os,hp,hs,rfl⟩;obtain⟨ys,rfl⟩:∃ ys:List α,d'=ys.toArray:=⟨d'.toList,av⟩;have hsz:ys.length=xs.length:=by simpa using hp.1
  refine⟨_,Y,Y,ys,?_,?_,H.sorted hh hnc hcm hcs hsz⟩
  · have:=hp.2.2
    simp only [Wu,List.extract_toArray,List.extract_eq_drop_take,List.drop_zero,Ur] at this
    rwa [gV aj,gV (kJ _)] at this
  · rw [Eh]
    intro i j hi hj hij hlt;have:=hs i j (fE _) hij aj
    simp only [ltOf] at this
    rw [getElem!_pos ys.toArray j (by simpa using hj),getElem!_pos ys.toArray i (by simpa using hi)] at this
    simp only [List.getElem_toArray] at this
    simp at this
    omega
open Go.Sort in
theorem ayo(L:SlLaysF0.n6 P ρ){fv:Value}{e:Nat}(H:Hp b S w (aQ τ e A c xs::F))(hne:xs=[]) :
    bO P (ρ.f 6) #[.slice A xs.length c,fv] w λv w'=>v=.tuple #[]/\Hp b S w' (aQ τ e A c xs::F):=by
  subst hne;refine FB (AnyF.slices_SortFunc_none L A c fv w) ?_
  grind
theorem GI:∀ zs:List Int,(zs.map λx:Int=>[Value.int .i64 x]).flatten=zs.map (Value.int .i64)
  | []=>rfl
  | z::zs=>by simp [GI zs]
open Go.Sort in
theorem sorti(L:Lays.n189 P ρ){e:Nat}{xs:List Int}{hl:∀ x:Int,([Value.int .i64 x]:List Value).length=1}{pos:0<1}{h1:∀ x:Int,∀ u∈([Value.int .i64 x]:List Value),u.oneCell'=true}(H:Hp b S w (aQ (Ty.flat 1 (λx:Int=>[aI x]) pos hl h1) e A c xs::F))(hn:xs.length<=1000000) :
    bO P (ρ.f 189) #[.slice A xs.length c] w λv w'=>v=.tuple #[]/\Hp b S w' (aQ (Ty.flat 1 (λx:Int=>[aI x]) pos hl h1) e A c (xs.mergeSort λx y=>decide (x<=y))::F):=by
  by_cases hne:xs=[]
  · subst hne
    refine FB (Any.slices_Sort_int_none L A c w) ?_
    simp_all
  · obtain⟨q,cur,rfl,hq,hh,hnc,hcm,hcs,ht⟩:=Own.Si (H.ow s0) hne
    have hqs:q<w.heap.size:=(yU.1 hh).1;have hH:Holds (Value.int .i64) w q 0 xs.toArray:=holds_of_blockI hh (by rw [<- GI,<- ht,Nat.mul_one]);refine FB (Any.slices_Sort_int L q 0 c xs w hH hqs aj) ?_;rintro e' w' ⟨rfl,n,os,rfl⟩;have hsz:(xs.mergeSort λx y=>decide (x<=y)).length=xs.length:=KH _;refine⟨_,Y,Y,H.put (r':=aQ (Ty.flat 1 (λx:Int=>[aI x]) pos hl h1) e (some ⟨q,0,none⟩) c (xs.mergeSort λx y=>decide (x<=y))) (Sd (by rfl)) (λq hq=>.inl hq) ?_⟩;refine Own.Sj (fE _) (heap_sortedI _ hh) aj hcm (by simp [putCells,hcs]) ?_;rw [Nat.mul_one,GI]
    grind [take_putCellsI]
open Go.Sort in
theorem aB3(L:Lays2.n20 P ρ){e:Nat}{xs:List Int}{hl:∀ x:Int,([Value.int .i64 x]:List Value).length=1}{pos:0<1}{h1:∀ x:Int,∀ u∈([Value.int .i64 x]:List Value),u.oneCell'=true}(H:Hp b S w (aQ (Ty.flat 1 (λx:Int=>[aI x]) pos hl h1) e A c xs::F))(hn:xs.length<=1000000) :
    bO P (ρ.f 20) #[.slice A xs.length c] w λv w'=>v=.slice A (Lib.compact xs).length c/\Hp b S w' (aQ (Ty.flat 1 (λx:Int=>[aI x]) pos hl h1) e A c (Lib.compact xs)::F):=by
  by_cases hne:xs=[]
  · subst hne
    refine FB (Any.slices_Compact_int_empty L A c w) ?_;rintro e' w' ⟨rfl,rfl⟩;exact⟨_,Y,Y,H⟩
  · obtain⟨q,cur,rfl,hq,hh,hnc,hcm,hcs,ht⟩:=Own.Si (H.ow s0) hne
    have hH:Holds (Value.int .i64) w q 0 xs.toArray:=holds_of_blockI hh (by rw [<- GI,<- ht,Nat.mul_one]);refine FB (Any.slices_Compact_int L q 0 c xs w hH aj hnc) ?_;rintro e' w' ⟨rfl,n,rfl⟩;have hle:(Lib.compact xs).length<=xs.length:=by grind [Lib.compact,Lib.compactUpTo]
    generalize hzs:Lib.compact xs++List.replicate (xs.length - (Lib.compact xs).length) 0=zs
    have hzl:zs.length=xs.length:=by grind
    have hg:(putRow (Value.int .i64) (Go.Sort.ahead w n) q 0 zs.toArray)=grow (putRow (Value.int .i64) (Go.Sort.ahead w n) q 0 zs.toArray) #[]:=by rfl
    refine⟨_,Y,Y,?_⟩;rw [hg];refine H.put (r':=aQ (Ty.flat 1 (λx:Int=>[aI x]) pos hl h1) e (some ⟨q,0,none⟩) c (Lib.compact xs)) (Sd (by rfl)) (λq hq=>.inl hq)<|Own.Sj (fE _) (heap_sortedI _ hh) aj hcm (by simp [putCells,hcs]) ?_
    rw [Nat.mul_one,GI];have h2:=take_putCellsI cur zs (by rw [hzl,hcs]; omega);have h3:(zs.map (Value.int .i64)).take (Lib.compact xs).length=(Lib.compact xs).map (Value.int .i64):=by grind
    grind
open Go.Sort in
theorem aw0(L:SlLaysF0.n6 P ρ)[Inhabited α]{h1:∀ x,∀ u∈enc x,u.oneCell'=true}(aE:∀ w,(isAgg (ρ.t 24)).run P w=.ok true w)(zE:∀ w,(Go.sizeOf (ρ.t 24)).run P w=.ok k w)
 (hO:SWO (ltOf cf)) {cb:List Value} {e:Nat} (H:Hp b S w (aQ (Ty.flat k enc pos hl h1) e A c xs::F)) (eg:∀ args w,(callFunc g args).run P w=.ok (.enter g args) w) (hn:xs.length<=1000000) (hu:∀ x∈xs,∀ y∈xs,¬ cf x y<0->¬ cf y x<0->x=y)
    (hcmp:∀(w':World)(ys:List α),ys.length=xs.length->Hp b S w' (aQ (Ty.flat k enc pos hl h1) e A c ys::F)->∀ x y:α,bO P g (([.agg (enc x).toArray,.agg (enc y).toArray]:List Value)++cb).toArray w' λv w''=>v=aI (cf x y)/\Ext w' w'') :
    bO P (ρ.f 6) #[.slice A xs.length c,.func (.func g) #[] cb.toArray] w λv w'=>v=.tuple #[]/\Hp b S w' (aQ (Ty.flat k enc pos hl h1) e A c (xs.mergeSort λx y=>!decide (cf y x<0))::F):=by
  by_cases hne:xs=[]
  · have h:=ayo L (fv:=.func (.func g) #[] cb.toArray) H hne
    simp_all
  · have h:=aB2 L aE zE hO H eg hn hne (cb:=cb.toArray) (by grind)
    refine h.mono ?_;rintro v w' ⟨rfl,ys,hp,hs,K⟩
    have hms:(xs.mergeSort λx y=>!decide (cf y x<0)).Pairwise λx y=>¬ cf y x<0:=by
      have h:=List.pairwise_mergeSort (le:=λx y=>!decide (cf y x<0)) (λa b c h1 h2=>by
        have h3:=hO.ntrans c b a
        simp only [ltOf,dZ,bV] at h1 h2 h3 ⊢
        exact h3 h2 h1) (λa b=>by
        by_cases h1:cf b a<0
        · by_cases h2:cf a b<0
          · have h3:=hO.trans a b a (by simp [ltOf,h2]) (by simp [ltOf,h1])
            rw [hO.irrefl] at h3; cases h3
          · simp [h2]
        · simp [h1]) xs
      exact by grind
    have he:ys=xs.mergeSort λx y=>!decide (cf y x<0):=
      List.Perm.eq_of_pairwise (le:=λx y=>¬ cf y x<0) (λa b ha hb h1 h2=>hu a (hp.mem_iff.1 ha) b (List.mem_mergeSort.1 hb) h2 h1) hs hms (hp.trans (List.mergeSort_perm xs _).symm)
    grind
end
instance {g:Nat}{o:Obj}:zn (pX g o):=⟨λh=>h⟩
section
variable {P:Program}{n:Cx}{l:List (Nat × Value)}{b w:World}{S:Nat->Prop}{rs rest:List lG}{Q:Exit->Act->World->Prop}{K:Act->World->Prop}{bY:Array Oper}{os:List Oper}{ty:TypeId}{pos:String}{mO:Array Edge}{d:Nat}
theorem Ev.neg{a:Int}(hx:gY l x=some (.int .i64 a))(h:I64 (-a)):Ev P n l w (.unOp .neg t x) (.int .i64 (-a)):=λo a' w' ho ha _=>by
  unfold execOp; rw [ho]
  have h2:(Op.unary .neg (.int .i64 a)).run P w'=.ok (.int .i64 (-a)) w':=by
    have h3:IntKind.i64.wrap (0 - a)=-a:=by rw [Int.zero_sub]; exact h.wrap
    have h4:(Op.unary .neg (.int .i64 a)).run P w'=.ok (.int .i64 (IntKind.i64.wrap (0 - a))) w':=rfl;rw [h4,h3]
  simp [ha.eval hx,h2]
theorem Ux(dd:Nat){f:Fn}{cs:Array Value}(hu:P.underlying t=some (.func ps rs' vr)):(Op.equalIn (dd+1) t (.func f azv cs) .nilFunc).run P w=.ok false w:=by
  simp [Op.equalIn,kV hu]
theorem Uy(dd:Nat)(hu:P.underlying t=some (.func ps rs' vr)):(Op.equalIn (dd+1) t .nilFunc .nilFunc).run P w=.ok true w:=by
  simp [Op.equalIn,kV hu]
theorem Ev.aHQ{f:Fn}{cs:Array Value}(hu:P.underlying t=some (.func ps rs' vr))(hx:gY l x=some (.func f azv cs)):Ev P n l w (.binOp .neq t x (.const .nilFunc) ty) (.bool true):=
  qW hx rfl (eqGuard_at_func ..) λw=>by
    have h:(Op.equal t (.func f azv cs) .nilFunc).run P w=.ok false w:=Ux 9999 hu
    simp_all [binOp]
theorem Ev.aHR(hu:P.underlying t=some (.func ps rs' vr))(hx:gY l x=some .nilFunc):Ev P n l w (.binOp .neq t x (.const .nilFunc) ty) (.bool false):=
  qW hx rfl (eqGuard_at_nilFunc ..) λw=>by
    have h:(Op.equal t .nilFunc .nilFunc).run P w=.ok true w:=Uy 9999 hu
    simp_all [binOp]
theorem mkm(H:Hp b S w rs)(hd:Nat.blt d n.size=true)(k:∀ g w',Hp b S w' (pX g (.map #[] 0)::rs)->WL P n bY Q K os ((d,.map (some g))::l) w'):WL P n bY Q K (⟨some d,.makeMap t none,ty,pos,mO,none⟩::os) l w:=
  Ej (by simp [fZ]) rfl hd (λa ha=>⟨_,rfl,rfl⟩) λw2 e=>by
    subst e; exact k _ _ (H.newObj (.map #[] 0))
theorem ahL(hm:P.underlying t=some (.map kt et))(hk:P.underlying kt=some (.int .i64))(hb:w.heap[g]? = some (.map es FH))(hf:Instr.findNow (.int .i64) (aI z) es.toList 0=some none) :
    (Instr.mapUpdate t (.map (some g)) (aI z) v).run P w=.ok () (w.putObj g (.map (es.push ⟨aI z,v,FH⟩) (FH+1))):=by
  have h1:(Instr.checkKey false 10000 kt (aI z)).run P w=.ok () w:=KI (n:=9999) hk (by rfl) false;have h2:(Instr.findKey kt (aI z) es.toList).run P w=.ok none w:=Da hk hf;unfold Instr.mapUpdate
  simp only [jO,kV hm,jP,uH hb,h1,h2,Gi _ hb]
  rfl
theorem aoC(hm:P.underlying t=some (.map kt et))(hk:P.underlying kt=some (.int .i64))(hb:w.heap[g]? = some (.map es FH))(hf:Instr.findNow (.int .i64) (aI z) es.toList 0=some (some (i,v))) :
    (Instr.lookup t (.map (some g)) (aI z) false).run P w=.ok v w:=by
  have h1:∀ e,(Instr.checkKey e 10000 kt (aI z)).run P w=.ok () w:=λe=>KI (n:=9999) hk (by rfl) e;have h2:(Instr.findKey kt (aI z) es.toList).run P w=.ok (some (i,v)) w:=Da hk hf;unfold Instr.lookup
  simp only [jO,kV hm,jP,uH hb,h1,h2,lK]
  rfl
theorem alL(hm:P.underlying t=some (.map kt et))(hk:P.underlying kt=some (.int .i64))(hz:(zeroValue et).run P w=.ok v w)(hb:w.heap[g]? = some (.map es FH))(hf:Instr.findNow (.int .i64) (aI z) es.toList 0=some none) :
    (Instr.lookup t (.map (some g)) (aI z) false).run P w=.ok v w:=by
  have h1:∀ e,(Instr.checkKey e 10000 kt (aI z)).run P w=.ok () w:=λe=>KI (n:=9999) hk (by rfl) e;have h2:(Instr.findKey kt (aI z) es.toList).run P w=.ok (none) w:=Da hk hf;unfold Instr.lookup
  simp only [jO,kV hm,jP,uH hb,h1,h2,lK,hz]
  rfl
theorem ins{m vy:Operand}(H:Hp b S w rs)(s:pq rs (pX g (.map es FH)) rest)(hx:gY l m=some (.map (some g)))(hkey:gY l ky=some (aI z))(hv:gY l vy=some v)
    (hm:P.underlying t=some (.map kt et)) (hk:P.underlying kt=some (.int .i64)) (hf:Instr.findNow (.int .i64) (aI z) es.toList 0=some none)
    (k:∀ w',Hp b S w' (pX g (.map (es.push ⟨aI z,v,FH⟩) (FH+1))::rest)->WL P n bY Q K os l w'):WL P n bY Q K (⟨none,.insert t m ky vy,ty,pos,mO,none⟩::os) l w:=
  Pv (by simp [fZ]) rfl (R:=λw'=>w'=w.putObj g (.map (es.push ⟨aI z,v,FH⟩) (FH+1))) (λa ha=>⟨_,by
    unfold execOp; simp [ha.eval hx,ha.eval hkey,ha.eval hv,ahL hm hk (H.obj s) hf],rfl⟩) λw' e=>by
    subst e; exact k _ (H.putObj s _)
theorem Ev.look{m:Operand}(H:Hp b S w rs)(s:pq rs (pX g (.map es FH)) rest)(hx:gY l m=some (.map (some g)))(hkey:gY l ky=some (.int .i64 z))
    (hm:P.underlying t=some (.map kt et)) (hk:P.underlying kt=some (.int .i64)) (hf:Instr.findNow (.int .i64) (.int .i64 z) es.toList 0=some (some (i,v))):Ev P n l w (.lookup t m ky false) v:=λo a w' ho ha ex=>by
  have hb:w'.heap[g]? = some (.map es FH):=(ex.block g (yU.1 (H.obj s)).1).trans (H.obj s);unfold execOp; rw [ho]; simp [ha.eval hx,ha.eval hkey,aoC hm hk hb hf]
def xE:=@Ev.look
theorem Ev.aw1{m:Operand}(H:Hp b S w rs)(s:pq rs (pX g (.map es FH)) rest)(hx:gY l m=some (.map (some g)))(hkey:gY l ky=some (.int .i64 z))
    (hm:P.underlying t=some (.map kt et)) (hk:P.underlying kt=some (.int .i64)) (hz:∀ w,(zeroValue et).run P w=.ok v w) (hf:Instr.findNow (.int .i64) (.int .i64 z) es.toList 0=some none):Ev P n l w (.lookup t m ky false) v:=λo a w' ho ha ex=>by
  have hb:w'.heap[g]? = some (.map es FH):=(ex.block g (yU.1 (H.obj s)).1).trans (H.obj s);unfold execOp; rw [ho]; simp [ha.eval hx,ha.eval hkey,alL hm hk (hz w') hb hf]
end
end
end Go.Proofs.YtlhnnmlenkahlaaGreat
