/- Lemmas. -/
import Derived.Laws.CopyRow
import Derived.Laws.IdiomCopy
import Derived.Lib.Overlaps
import Derived.Lib.AppendZerosOnto
import Derived.Test.YtlhnnmlenkahlaaGreatrG1
set_option linter.all false
namespace Go.Proofs.YtlhnnmlenkahlaaGreat
open Go.RowKit
def gQ:=@List.mem_map
def Bj:=@List.drop_of_length_le
def KQ:=@List.nil_append
def Gg:=@List.ext_getElem?
def lK:=@List.getElem?_map
def Wv:=@List.getElem?_eq_none_iff
def jY:=@List.length_map
def oV:=@List.append_assoc
def SB:=@List.take_append_of_le_length
def abS:=@Nat.mod_eq_of_lt
def Wx:=@Array.length_toList
def D9:=@Array.getElem?_toList
def KR:=@Array.getElem?_eq_getElem
def Gh:=@Option.map_some
def SC:=@getElem!_pos
def yP:=@List.getElem?_eq_none
def Iu:=@List.length_replicate
def gJ:=@List.length_set
def qb:=@List.getElem?_set_self
def Ea:=@List.getElem?_set_ne
variable {k g lo d c lo0 i m bytes fuel:Nat}{css:List (List Value)}{S' S S2:Nat->Prop}{dT sT ty e t:TypeId}{cur cs ds:List Value}{A B:ah}{β α:Type}{w w':World}{x y s:Operand}{v:Value}{vs l l' l1:List (Nat × Value)}{op:Op}{X:Option Nat}{Q':Exit->Act->World->Prop}{J:Nat->List (Nat × Value)->World->Prop}{aX:Array Bool}{parts:List (Nat × Operand)}{pos:0<k}{τ:Ty α}{xs ys:List α}
abbrev Cells(k:Nat):={ u:List Value // u.length=k/\∀ v∈u,v.oneCell'=true }
def zy(k:Nat)(pos:0<k):Ty (Cells k):=Ty.flat k (λu=>u.1) pos (λu=>u.2.1) (λu=>u.2.2)
def jv{k:Nat}(us:List (Cells k)):List Value:=(us.map (·.1)).flatten
theorem rY(us vs:List (Cells k)):jv (us++vs)=jv us++jv vs:=by simp [jv]
theorem jC:∀(us:List (Cells k)),(jv us).length=us.length*k
  | []=>by simp [jv]
  | u::us=>by
    have:=jC us
    simp only [jv,nG,CV,jd,pF] at this ⊢
    rw [this,u.2.1,rD]; omega
theorem GU{us:List (Cells k)}:∀ v∈jv us,v.oneCell'=true:=by
  intro v hv
  simp only [jv,List.mem_flatten,gQ] at hv
  obtain⟨_,⟨u,_,rfl⟩,h⟩:=hv;exact u.2.2 v h
theorem Eb:∀(us:List (Cells k))(m:Nat),(jv us).take (m*k)=jv (us.take m)
  | [],m=>by simp [jv]
  | u::us,0=>by simp [jv]
  | u::us,m+1=>by
    have ih:=Eb us m;have h0:=u.2.1;have e1:u.1.take ((m+1)*k)=u.1:=iH (by rw [h0,rD]; omega);have e2:(m+1)*k - k=m*k:=by rw [rD]; omega
    simp only [jv,nG,CV,abN] at ih ⊢
    rw [Wq,e1,h0,e2,ih]
theorem Iw:∀(us:List (Cells k))(m:Nat),(jv us).drop (m*k)=jv (us.drop m)
  | [],m=>by simp [jv]
  | u::us,0=>by simp [jv]
  | u::us,m+1=>by
    have ih:=Iw us m;have h0:=u.2.1;have e1:u.1.drop ((m+1)*k)=[]:=Bj (by rw [h0,rD]; omega);have e2:(m+1)*k - k=m*k:=by rw [rD]; omega
    simp only [jv,nG,CV,List.drop_succ_cons] at ih ⊢
    rw [List.drop_append,e1,h0,e2,ih,KQ]
section
variable {α:Type}{τ:Ty α}{e:TypeId}{lo:Nat}{S S2:Nat->Prop}{w w':World}{A B:ah}{c:Nat}{xs ys:List α}{us vs:List (Cells τ.k)}
theorem Fz{us:List (Cells k)}:Own (zy k pos) e lo S w A c us↔w.ownsRow lo e k (.slice A us.length c) us.length (jv us):=by
  constructor
  · rintro⟨css,hl,hR,hown⟩
    have:css=us.map (·.1):=by
      apply Gg;intro i;rw [lK]
      cases hu:us[i]? with
      | none=>have:=Wv.1 hu; simp; omega
      | some u=>
        obtain⟨cs,h1,h2⟩:=hR i u hu;have h2:cs=u.1:=h2;rw [h1,h2]; rfl
    subst this;exact hown
  · intro h
    refine⟨us.map (·.1),av,λi u hu=>⟨u.1,by rw [lK,hu]; rfl,rfl⟩,?_⟩;exact h
theorem Qj:∀(css:List (List Value)),(∀ cs∈css,cs.length=k/\∀ v∈cs,v.oneCell'=true)->∃ us:List (Cells k),us.map (·.1)=css
  | [],_=>⟨[],rfl⟩
  | cs::css,h=>by
    obtain⟨us,hu⟩:=Qj css (λc hc=>h c (by simp [hc]));exact⟨⟨cs,h cs av⟩::us,by simp [hu]⟩
def Rel(τ:Ty α)(S:Nat->Prop)(w:World)(xs:List α)(us:List (Cells τ.k)):Prop:=us.length=xs.length/\∀(i:Nat)(x:α)(u:Cells τ.k),xs[i]? = some x->us[i]? = some u->τ.R S w x u.1
theorem ayi(hl:css.length=xs.length)(hR:∀(i:Nat)(x:α),xs[i]? = some x->∃ cs,css[i]? = some cs/\τ.R S w x cs):∃ us:List (Cells τ.k),us.map (·.1)=css/\Rel τ S w xs us:=by
  have hk:∀ cs∈css,cs.length=τ.k/\∀ v∈cs,v.oneCell'=true:=by
    intro cs hcs;obtain⟨i,hi,rfl⟩:=aeD hcs;obtain⟨cs',h3,h4⟩:=hR i (xs[i]'aj) (qI _);rw [qI hi] at h3
    cases h3
    exact⟨τ.len h4,τ.one h4⟩
  obtain⟨us,hus⟩:=Qj css hk;refine⟨us,hus,by rw [<- hl,<- hus,jY],?_⟩;intro i x u hx hu;obtain⟨cs,h1,h2⟩:=hR i x hx;rw [<- hus,lK,hu] at h1;have h1:u.1=cs:=by simpa using h1
  rw [h1];exact h2
theorem Own.raw(h:Own τ e lo S w A c xs):∃ us:List (Cells τ.k),Own (zy τ.k τ.pos) e lo No w A c us/\Rel τ S w xs us:=by
  obtain⟨css,hl,hR,hown⟩:=h;obtain⟨us,h1,h2⟩:=ayi hl hR;refine⟨us,Fz.2 ?_,h2⟩;rw [h2.1,jv,h1];exact hown
theorem Own.ofRaw(h:Own (zy τ.k τ.pos) e lo S' w A c us)(hr:Rel τ S w xs us):Own τ e lo S w A c xs:=by
  have h1:=Fz.1 h;rw [hr.1] at h1;refine⟨us.map (·.1),by simp [hr.1],λi x hx=>?_,by exact h1⟩;obtain⟨u,hu⟩:=bC (xs:=us) (i:=i) (by rw [hr.1]; exact aJ hx);exact⟨u.1,by rw [lK,hu]; rfl,hr.2 i x u hx hu⟩
theorem Rel.append(h:Rel τ S w xs us)(h':Rel τ S w ys vs):Rel τ S w (xs++ys) (us++vs):=by
  refine⟨by simp [h.1,h'.1],λi x u hx hu=>?_⟩
  by_cases hi:i<xs.length
  · rw [P9 hi] at hx
    rw [P9 (by rw [h.1]; exact hi)] at hu;exact h.2 i x u hx hu
  · rw [Qb aj] at hx
    rw [Qb (by rw [h.1]; omega),h.1] at hu;exact h'.2 _ x u hx hu
theorem Rel.take(h:Rel τ S w xs us)(m:Nat):Rel τ S w (xs.take m) (us.take m):=by
  refine⟨by simp [h.1],λi x u hx hu=>?_⟩;rw [KN] at hx hu
  split at hx
  · rename_i hi; rw [aO hi] at hu; exact h.2 i x u hx hu
  · cases hx
theorem Rel.drop(h:Rel τ S w xs us)(m:Nat):Rel τ S w (xs.drop m) (us.drop m):=by
  refine⟨by simp [h.1],λi x u hx hu=>?_⟩;rw [DW] at hx hu;exact h.2 _ x u hx hu
theorem Rel.sub(h:Rel τ S w xs us)(hs:∀ b,S b->S' b):Rel τ S' w xs us:=⟨h.1,λi x u hx hu=>τ.sub hs (h.2 i x u hx hu)⟩
theorem Rel.grown(h:Rel τ S w xs us)(hg:Og w w' (blk A))(hS:∀ g,blk A=some g->¬ S g):Rel τ S w' xs us:=by
  refine⟨h.1,λi y u hx hu=>?_⟩;have:=h.2 i y u hx hu
  cases hA:blk A with
  | none=>rw [hA] at hg; exact τ.ext (Ext.DU hg (λk hk=>by cases hk)) this
  | some g=>rw [hA] at hg; exact τ.mod (alX hg (λk hk=>by cases hk; rfl)) (hS g hA) this
end
section
variable {P:Program}{w:World}
theorem SE{elem:TypeId}{o dl dc:Nat}{a:Addr}{sl sc:Nat}(hu:P.underlying dT=some (.slice elem))(hs:Size P elem k)(hg:Bx w g e cur)(hn:cs.length=Nat.min sl dl*k)
    (hsrc:∀ j v,cs[j]? = some v->w.cell? (a.add j)=some v) (hfit:o+cs.length<=cur.length) (h1:∀ v∈cs,v.oneCell'=true) :
    (Builtin.copy_ #[dT,sT] ty #[.slice (some ⟨g,o,none⟩) dl dc,.slice (some a) sl sc]).run P w=.ok (goInt (Nat.min sl dl)) (w.setRow g (cur.take o++cs++cur.drop (o+cs.length)).toArray):=by
  have hl:=abL (P:=P) w a cs hsrc;have hst:=Sz P g o e cs 0 cur.toArray w hg (by simpa using hfit) h1
  simp only [Nat.add_zero] at hst
  simp [Builtin.copy_,kQ hu,Builtin.lenOf,Builtin.firstCells,hs w,<- hn,hl,hst]
theorem al4{elem:TypeId}{dl dc sl sc:Nat}(hu:P.underlying dT=some (.slice elem))(hs:Size P elem k)(hn:Nat.min sl dl=0) :
    (Builtin.copy_ #[dT,sT] ty #[.slice A dl dc,.slice B sl sc]).run P w=.ok (goInt 0) w:=by
  cases A <;> cases B <;> simp [Builtin.copy_,kQ hu,Builtin.lenOf,Builtin.firstCells,hs w,hn,loadCells,loadCellsFrom,storeCells]
theorem tT(w:World)(g:Nat)(cs:Array Value):Og w (w.setRow g cs) (some g):=
  ⟨rfl,rfl,rfl,by simp [World.setRow],λk _ hk=>setRow_other w g k cs (λe=>hk (by rw [e])),kV _⟩
end
def over{k:Nat}(us:List (Cells k))(lo:Nat)(vs:List (Cells k)):List (Cells k):=us.take lo++vs.take (us.length - lo)++us.drop (lo+vs.length)
theorem KS{us vs:List (Cells k)}(h:lo<=us.length):(over us lo vs).length=us.length:=by
  simp only [over,jd,fO,kW]; omega
theorem ahZ(a b:Nat):Nat.min a b=if a<=b then a else b:=Nat.min_def
theorem KT{L cs:List β}{p N:Nat}(h1:p+cs.length<=N)(h2:N<=L.length):(L.take p++cs++L.drop (p+cs.length)).take N=L.take p++cs++(L.take N).drop (p+cs.length):=by
  have hp:(L.take p).length=p:=by simp only [fO]; omega
  have a1:(L.take p).take N=L.take p:=iH aj;have a2:cs.take (N - p)=cs:=iH aj;rw [Wq,Wq,hp,a1,a2,List.drop_take,jd,hp]
theorem tV{L cs:List β}{p:Nat}(h1:p+cs.length<=L.length):(L.take p++cs++L.drop (p+cs.length)).length=L.length:=by
  simp only [jd,fO,kW]; omega
theorem Sl.SF{vs:List (Cells k)}(h:Sl (zy k pos) S w B d vs):∀ j v,(jv vs)[j]? = some v->w.cell? ((GN B).add j)=some v:=by
  obtain⟨css,hl,hR,_,_,hc⟩:=h.cells
  have:css=vs.map (·.1):=by
    apply Gg;intro i;rw [lK]
    cases hu:vs[i]? with
    | none=>have:=Wv.1 hu; simp; omega
    | some u=>
      obtain⟨cs,h1,h2⟩:=hR i u hu;have h2:cs=u.1:=h2;rw [h1,h2]; rfl
  subst this;exact hc
theorem Own.open_{us:List (Cells k)}(h:Own (zy k pos) e lo S w A c us)(hc:0<c) :
    ∃ g cur,A=some ⟨g,0,none⟩/\lo<=g/\Bx w g e cur/\us.length<=c/\c<=maxLen/\cur.length=c*k/\cur.take (us.length*k)=jv us:=by
  have h1:=Fz.1 h
  rcases h1.2 with ⟨hv,hn⟩ | ⟨g,cap,cur,hv,hg,hh,hnc,hcm,hcs,ht⟩
  · injection hv with hA hn' hc'; omega
  · injection hv with hA hn' hc'
    subst hA hc';exact⟨g,cur.toList,Y,hg,hh,hnc,hcm,by simpa using hcs,ht⟩
theorem Own.aBB{us:List (Cells k)}(hg:lo<=g)(hb:Bx w g e cur)(hnc:us.length<=c)(hcm:c<=maxLen)(hcs:cur.length=c*k)(ht:cur.take (us.length*k)=jv us):Own (zy k pos) e lo S w (some ⟨g,0,none⟩) c us:=
  Fz.2 ⟨jC us,.inr ⟨g,c,cur.toArray,rfl,hg,hb,hnc,hcm,by simpa using hcs,by simpa using ht⟩⟩
def SG:=@Own.aBB
theorem DJ(h:c≠lo):tQ (some ⟨g,0,none⟩) c lo k=some ⟨g,lo*k,none⟩:=by
  unfold tQ; rw [aK h]; simp [F6]
section
variable {P:Program}{n:Cx}{l:List (Nat × Value)}{w:World}{Q:Exit->Act->World->Prop}{K:Act->World->Prop}{dh:Array Oper}{os:List Oper}{ty:TypeId}{pos:String}{mI:Array Edge}{d:Nat}
theorem aeL{kp:0<k}{d2:Nat}{us vs:List (Cells k)}(hu:P.underlying dT=some (.slice e))(hs:Size P e k)
    (ho:Own (zy k kp) e lo0 S w A c us) (hv:Sl (zy k kp) S2 w B d2 vs) (hlo:lo<=us.length) :
    ∃ w',(Builtin.copy_ #[dT,sT] ty #[.slice (tQ A c lo k) (us.length - lo) (c - lo),.slice B vs.length d2]).run P w=.ok (goInt (Nat.min vs.length (us.length - lo))) w'/\Own (zy k kp) e lo0 S w' A c (over us lo vs)/\Og w w' (blk A)/\w'.heap.size=w.heap.size:=by
  by_cases h0:Nat.min vs.length (us.length - lo)=0
  · refine⟨w,by rw [al4 hu hs h0,h0]; rfl,?_,⟨rfl,rfl,rfl,kV _,λ_ _ _=>rfl,kV _⟩,rfl⟩
    have:over us lo vs=us:=by
      unfold over
      by_cases h1:vs.length=0
      · have:vs=[]:=uE h1
        subst this; simp
      · have h2:lo=us.length:=by rw [ahZ] at h0; split at h0 <;> omega
        subst h2; simp
    rw [this]; exact ho
  · have hm:0<us.length - lo/\0<vs.length:=by constructor <;> (rw [ahZ] at h0; split at h0 <;> omega)
    have hc:us.length<=c:=(ho.sl (S':=Any) (λ_ _=>trivial) (λ_ _=>trivial)).cap;obtain⟨g,cur,rfl,hg,hb,hnc,hcm,hcl,ht⟩:=ho.open_ aj;have hB:B=some (GN B):=hv.some_ (i:=0) (x:=vs[0]'aj) (qI _);have hmin:Nat.min vs.length (us.length - lo)=(vs.take (us.length - lo)).length:=by rw [fO]; exact Nat.min_comm _ _
    have ah0:(jv (vs.take (us.length - lo))).length=Nat.min vs.length (us.length - lo)*k:=by rw [jC,hmin]
    have hle:(lo+Nat.min vs.length (us.length - lo))<=us.length:=by rw [ahZ]; split <;> omega
    have aGC:lo*k+(jv (vs.take (us.length - lo))).length<=us.length*k:=by rw [ah0,<- rD]; exact vH _ hle
    have hnk:us.length*k<=cur.length:=by rw [hcl]; exact vH _ hnc
    rw [DJ aj,hB];refine⟨_,SE hu hs hb ah0 (λj v hj=>hv.SF j v ?_) aj GU,?_,tT w g _,by simp [World.setRow]⟩
    · rw [<- Eb,KN] at hj
      split at hj
      · exact hj
      · cases hj
    · refine SG hg (KO w g _ _ e _ hb) (by rw [KS hlo]; exact hnc) hcm (by rw [tV aj]; exact hcl) ?_
      rw [KS hlo,KT aGC hnk,ht]
      have e1:cur.take (lo*k)=jv (us.take lo):=by
        rw [<- Eb,<- ht,KP,F7 (vH _ hlo)]
      have e2:(jv us).drop (lo*k+(jv (vs.take (us.length - lo))).length)=jv (us.drop (lo+vs.length)):=by
        rw [ah0,<- rD,Iw]
        by_cases h3:vs.length<=us.length - lo
        · rw [ahZ,aO h3]
        · have h4:us.drop (lo+(us.length - lo))=[]:=Bj aj
          have h5:us.drop (lo+vs.length)=[]:=Bj aj;rw [ahZ,aK h3,h4,h5]
      rw [e1,e2,over,rY,rY]
theorem WL.ajW{kp:0<k}{d2:Nat}{us vs:List (Cells k)}(hx:iG l x=some (.slice (tQ A c lo k) (us.length - lo) (c - lo)))(hy:iG l y=some (.slice B vs.length d2))
    (hu:P.underlying dT=some (.slice e)) (hs:Size P e k) (ho:Own (zy k kp) e lo0 S w A c us) (hv:Sl (zy k kp) S2 w B d2 vs) (hlo:lo<=us.length) (hd:Nat.blt d n.size=true)
    (kk:∀ w' v,Own (zy k kp) e lo0 S w' A c (over us lo vs)->Og w w' (blk A)->w'.heap.size=w.heap.size->WL P n dh Q K os ((d,v)::l) w'):WL P n dh Q K (⟨some d,.call ⟨.builtin .copy,#[x,y],#[dT,sT]⟩,ty,pos,mI,none⟩::os) l w:=by
  obtain⟨w',hrun,h1,h2,h3⟩:=aeL (P:=P) (sT:=sT) (ty:=ty) hu hs ho hv hlo;refine DZ (v:=goInt (Nat.min vs.length (us.length - lo))) (λa _=>gH a) Y hd (R:=λw2=>w2=w') (λa ha=>⟨w',?_,Y⟩) λw2 e=>by rw [e]; exact kk w' _ h1 h2 h3
  unfold execOp
  simp only [resolve,jF,kL,jG,invoke,builtin,tO,nG,wP,ha.eval hx,ha.eval hy,hrun]
def Gap{k:Nat}(e:TypeId)(lo0:Nat)(w:World)(A:ah)(c:Nat)(us:List (Cells k))(i m:Nat):Prop:=
  ∃ g cur,A=some ⟨g,0,none⟩/\lo0<=g/\Bx w g e cur/\us.length+m<=c/\c<=maxLen/\cur.length=c*k/\cur.take (i*k)=jv (us.take i)/\(cur.drop ((i+m)*k)).take ((us.length - i)*k)=jv (us.drop i)
theorem WL.al5{kp:0<k}{us:List (Cells k)}
    (hx:iG l x=some (.slice (tQ A c (i+m) k) (us.length+m - (i+m)) (c - (i+m)))) (hy:iG l y=some (.slice (tQ A c i k) (us.length+m - i) (c - i)))
    (hu:P.underlying dT=some (.slice e)) (hs:Size P e k) (ho:Own (zy k kp) e lo0 S w A c us) (hi:i<us.length) (hm:us.length+m<=c) (hd:Nat.blt d n.size=true)
    (kk:∀ w' v,Gap e lo0 w' A c us i m->Og w w' (blk A)->w'.heap.size=w.heap.size->WL P n dh Q K os ((d,v)::l) w'):WL P n dh Q K (⟨some d,.call ⟨.builtin .copy,#[x,y],#[dT,sT]⟩,ty,pos,mI,none⟩::os) l w:=by
  obtain⟨g,cur,rfl,hg,hb,hnc,hcm,hcl,ht⟩:=ho.open_ aj
  have ah0:(jv (us.drop i)).length=Nat.min (us.length+m - i) (us.length+m - (i+m))*k:=by
    rw [jC,kW,show Nat.min (us.length+m - i) (us.length+m - (i+m))=us.length - i from by rw [ahZ]; split <;> omega]
  have hik:i*k<=us.length*k:=vH _ aj
  have hsrc:∀ j v,(jv (us.drop i))[j]? = some v->w.cell? ((⟨g,i*k,none⟩:Addr).add j)=some v:=by
    intro j v hj;rw [F6,hb.cell];rw [<- Iw,DW,<- ht,KN] at hj
    split at hj
    · exact hj
    · cases hj
  have hfit:(i+m)*k+(jv (us.drop i)).length<=cur.length:=by
    rw [jC,kW,<- rD,hcl]; exact vH _ aj
  have hrun:=SE (P:=P) (sT:=sT) (ty:=ty) (dc:=c - (i+m)) (sc:=c - i) hu hs hb ah0 hsrc hfit GU;rw [DJ aj] at hx hy
  refine DZ (v:=goInt (Nat.min (us.length+m - i) (us.length+m - (i+m)))) (λa _=>gH a) Y hd (R:=λw2=>w2=_) (λa ha=>⟨_,?_,Y⟩) λw2 e=>by
    rw [e];refine kk _ _ ⟨g,_,Y,hg,KO w g _ _ _ _ hb,hm,hcm,by rw [tV hfit]; exact hcl,?_,?_⟩ (tT w g _) (by simp [World.setRow])
    · have h1:i*k<=(i+m)*k:=vH _ aj
      have h2:(cur.take ((i+m)*k)).length=(i+m)*k:=by simp only [fO]; omega
      rw [oV,SB aj,KP,F7 h1,<- Eb,<- ht,KP,F7 hik]
    · have h2:(cur.take ((i+m)*k)).length=(i+m)*k:=by simp only [fO]; omega
      rw [oV,List.drop_append_of_le_length aj,Bj aj,KQ];rw [SB (by rw [jC,kW]; exact kV _),iH (by rw [jC,kW]; exact kV _)]
  unfold execOp
  simp only [resolve,jF,kL,jG,invoke,builtin,tO,nG,wP,ha.eval hx,ha.eval hy,hrun]
theorem WL.aud{kp:0<k}{d2:Nat}{us vs:List (Cells k)}
    (hx:iG l x=some (.slice (tQ A c i k) (us.length+m - i) (c - i))) (hy:iG l y=some (.slice B vs.length d2))
    (hu:P.underlying dT=some (.slice e)) (hs:Size P e k) (ho:Gap e lo0 w A c us i m) (hv:Sl (zy k kp) S2 w B d2 vs) (hm:vs.length=m) (h0:0<m) (hi:i<us.length) (hd:Nat.blt d n.size=true)
    (kk:∀ w' v,Own (zy k kp) e lo0 S w' A c (us.take i++vs++us.drop i)->Og w w' (blk A)->w'.heap.size=w.heap.size->WL P n dh Q K os ((d,v)::l) w'):WL P n dh Q K (⟨some d,.call ⟨.builtin .copy,#[x,y],#[dT,sT]⟩,ty,pos,mI,none⟩::os) l w:=by
  obtain⟨g,cur,rfl,hg,hb,hnc,hcm,hcl,h1,h2⟩:=ho;have hB:B=some (GN B):=hv.some_ (i:=0) (x:=vs[0]'aj) (qI _);have hmin:Nat.min vs.length (us.length+m - i)=m:=by rw [ahZ]; split <;> omega
  have ah0:(jv vs).length=Nat.min vs.length (us.length+m - i)*k:=by rw [jC,hmin,hm]
  have hfit:i*k+(jv vs).length<=cur.length:=by rw [jC,<- rD,hcl]; exact vH _ aj
  have hrun:=SE (P:=P) (sT:=sT) (ty:=ty) (dc:=c - i) (sc:=d2) hu hs hb ah0 hv.SF hfit GU;rw [DJ aj] at hx;rw [hB] at hy;have hlen:(us.take i++vs++us.drop i).length=us.length+m:=by simp only [jd,fO,kW]; omega
  refine DZ (v:=goInt (Nat.min vs.length (us.length+m - i))) (λa _=>gH a) Y hd (R:=λw2=>w2=_) (λa ha=>⟨_,?_,Y⟩) λw2 e=>by
    rw [e];refine kk _ _ (SG hg (KO w g _ _ _ _ hb) aj hcm (by rw [tV hfit]; exact hcl) ?_) (tT w g _) (by simp [World.setRow]);rw [hlen,KT (by rw [jC,<- rD]; exact vH _ aj) (by rw [hcl]; exact vH _ hnc),h1,rY,rY]
    congr 1
    rw [jC,<- rD,hm,List.drop_take,<- Nat.sub_mul,show us.length+m - (i+m)=us.length - i from by omega,h2]
  unfold execOp
  simp only [resolve,jF,kL,jG,invoke,builtin,tO,nG,wP,ha.eval hx,ha.eval hy,hrun]
end
structure u6 (P:Program) (e:TypeId) (k bytes:Nat):Prop where
  ex:∃(i:TypeInfo)(z:Value),P.info? e=some i/\i.zero=some z/\i.size=k/\i.bytes=bytes/\z.cells.size=k/\∀ v∈z.cells.toList,v.oneCell'=true
theorem aaA(u:Cells k):∀(m j:Nat),j<m*k->(jv (List.replicate m u))[j]? = u.1[j % k]?
  | 0,j,h=>by omega
  | m+1,j,h=>by
    have h0:=u.2.1;have e:jv (List.replicate (m+1) u)=u.1++jv (List.replicate m u):=by simp [jv,List.replicate_succ]
    rw [e]
    by_cases hj:j<k
    · rw [P9 aj,abS hj]
    · have h3:j - k<m*k:=by rw [rD] at h; omega
      have h4:j % k=(j - k) % k:=Nat.mod_eq_sub_mod aj;rw [Qb aj,h0,aaA u m (j - k) h3,h4]
theorem KU(z:Array Value)(u:Cells k)(hu:z.toList=u.1)(m:Nat)(kp:0<k):(Builtin.zeroCells z m).toList=jv (List.replicate m u):=by
  have hz:z.size=k:=by rw [<- Wx,hu,u.2.1]
  apply Gg;intro j
  by_cases hj:j<m*k
  · rw [aaA u m j hj]
    have hlt:j % k<k:=Nat.mod_lt _ kp
    have h2:u.1[j % k]? = some (z[j % k]'aj):=by
      rw [<- hu,D9,KR aj]
    rw [h2]
    simp only [Builtin.zeroCells,Array.toList_map,lK,D9,hz]
    rw [KR (by simpa using hj)]
    simp only [Array.getElem_range,Gh]
    rw [SC z (j % k) aj]
  · have h1:(jv (List.replicate m u))[j]? = none:=yP (by rw [jC,Iu]; omega)
    have h2:(Builtin.zeroCells z m).toList[j]? = none:=yP (by simp only [Builtin.zeroCells,Wx,Array.size_map,Array.size_range,hz]; omega);rw [h1,h2]
section
variable {P:Program}{n:Cx}{l:List (Nat × Value)}{w:World}{Q:Exit->Act->World->Prop}{K:Act->World->Prop}{dh:Array Oper}{os:List Oper}{ty:TypeId}{pos:String}{mI:Array Edge}{d:Nat}
theorem WL.ah1{kp:0<k}{ti:TypeId}{us:List (Cells k)}(hs:iG l s=some (.slice A us.length c))(hx:iG l x=some (aF (m:Int)))(hT:P.underlying t=some (.slice e))(hi:P.underlying ti=some (.int .i64))
    (hz:u6 P e k bytes) (hu:Sl (zy k kp) S w A c us) (hc:c<us.length+m) (h0:0<m) (h1:us.length<=1000000) (h2:m<=1000000) (hby:Nat.ble bytes 1000=true) (hd:Nat.blt d n.size=true)
    (kk:∀ g c' w' (z:Cells k),Own (zy k kp) e w.heap.size No w' (some ⟨g,0,none⟩) c' (us++List.replicate m z)->Ext w w'->WL P n dh Q K os ((d,.slice (some ⟨g,0,none⟩) (us.length+m) c')::l) w') :
    WL P n dh Q K (⟨some d,.call ⟨.builtin .append,#[s,x],#[t,ti]⟩,ty,pos,mI,none⟩::os) l w:=by
  obtain⟨i,z,z1,z2,z3,z4,z5,z6⟩:=hz.ex
  have hb:bytes<=1000:=pU hby
  have hmul:(us.length+m)*bytes<=2000000*1000:=Nat.mul_le_mul aj hb;have aJe:m*bytes<=1000000*1000:=Nat.mul_le_mul h2 hb
  have eZ:(Builtin.firstCells i.size us.length (.slice A us.length c)).run P w.drew=.ok (jv us).toArray w.drew:=by
    rw [z3]
    by_cases hn:us.length=0
    · have:us=[]:=uE hn
      subst this
      cases A <;> simp [Builtin.firstCells,loadCells,loadCellsFrom,jv]
    · have hA:A=some (GN A):=hu.some_ (i:=0) (x:=us[0]'aj) (qI _)
      rw [hA];exact run_firstCells_some w.drew k us.length (GN A) _ _ (jv us) (jC us) (λj v hj=>hu.SF j v hj)
  obtain⟨W2,hW2,hrun⟩:∃ W2,W2=w.drew.alloc (.cells ((jv us).toArray++Builtin.zeroCells z.cells m++Builtin.zeroCells z.cells (grownCap w (us.length+m) c e - (us.length+m))) e)/\(Builtin.append_ #[t,ti] ty #[.slice A us.length c,aF (m:Int)]).run P w=.ok (.slice (some ⟨w.heap.size,0,none⟩) (us.length+m) (grownCap w (us.length+m) c e)) W2:=⟨_,rfl,Lib.run_append_grow_zeros (P:=P) w t ti ty e i z .i64 .i64 hT hi z1 z2 A us.length c (jv us) eZ m h0 aj hc aj (by rw [z4]; omega) (growslice_fits hc (by rw [z4]; omega))⟩
  refine DZ (v:=.slice (some ⟨w.heap.size,0,none⟩) (us.length+m) (grownCap w (us.length+m) c e)) (λa _=>gH a) Y hd (R:=λw2=>w2=W2) (λa ha=>⟨W2,?_,Y⟩) λw2 e'=>by
    rw [e',hW2];have hzc:z.cells.toList.length=k:=by rw [Wx]; exact z5
    refine kk _ _ _ ⟨z.cells.toList,hzc,z6⟩ ?_ ⟨Y,Y,Y,av,λk hk=>Below.heap_alloc w.drew _ k hk,abH _⟩;have hf:=λm=>KU (k:=k) z.cells ⟨z.cells.toList,hzc,z6⟩ rfl m kp;have hge:=grownCap_ge w (us.length+m) c e;have hle:=grownCap_le_maxLen w (us.length+m) c e (by simp only [maxLen]; omega);refine SG (cur:=jv us++jv (List.replicate m ⟨z.cells.toList,hzc,z6⟩)++jv (List.replicate (grownCap w (us.length+m) c e - (us.length+m)) ⟨z.cells.toList,hzc,z6⟩)) (kV _) ?_ ?_ ?_ ?_ ?_
    · rw [<- hf,<- hf]
      have ea:(jv us).toArray++Builtin.zeroCells z.cells m++Builtin.zeroCells z.cells (grownCap w (us.length+m) c e - (us.length+m))=(jv us++(Builtin.zeroCells z.cells m).toList++(Builtin.zeroCells z.cells (grownCap w (us.length+m) c e - (us.length+m))).toList).toArray:=by
        apply Array.toList_inj.1; simp
      rw [ea];exact Bx.new w.drew e _
    · simpa using hge
    · exact hle
    · simp only [jd,jC,Iu,<- rD]; congr 1; omega
    · rw [SB (by simp only [jd,jC,Iu,<- rD]; exact kV _),iH (by simp only [jd,jC,Iu,<- rD]; exact kV _),rY]
  unfold execOp
  simp only [resolve,jF,kL,jG,invoke,builtin,tO,nG,wP,ha.eval hs,ha.eval hx,hrun]
end
def overlay(cs:List Value)(f:Nat)(ds:List Value):List Value:=cs.take f++ds++cs.drop (f+ds.length)
section
variable {P:Program}{n:Cx}{l:List (Nat × Value)}{w:World}{Q:Exit->Act->World->Prop}{K:Act->World->Prop}{dh:Array Oper}{os:List Oper}{ty:TypeId}{pos:String}{mI:Array Edge}{d:Nat}
theorem Own.whole(h:Own τ e lo S w A c xs)(hc:0<xs.length) :
    ∃ g cur us,A=some ⟨g,0,none⟩/\lo<=g/\Bx w g e cur/\xs.length<=c/\c<=maxLen/\cur.length=c*τ.k/\cur.take (xs.length*τ.k)=jv us/\Rel τ S w xs us:=by
  obtain⟨us,h1,h2⟩:=h.raw;have hcap:=(h1.sl (S':=Any) (λ_ _=>trivial) (λ_ _=>trivial)).cap;obtain⟨g,cur,h3,h4,h5,h6,h7,h8,h9⟩:=h1.open_ (by rw [h2.1] at hcap; omega);rw [h2.1] at h6 h9;exact⟨g,cur,us,h3,h4,h5,h6,h7,h8,h9,h2⟩
theorem al6(us:List (Cells k))(i f:Nat)(u v:Cells k)(ds:List Value)(hu:us[i]? = some u)(hv:v.1=overlay u.1 f ds)(hf:f+ds.length<=k) :
    (jv us).take (i*k+f)++ds++(jv us).drop (i*k+f+ds.length)=jv (us.set i v):=by
  have hi:i<us.length:=aJ hu
  have hsplit:us=us.take i++u::us.drop (i+1):=by
    rw [<- nP.1 hu |>.2];rw [List.getElem_cons_drop,uF]
  have hset:us.set i v=us.take i++v::us.drop (i+1):=List.set_eq_take_append_cons_drop▸by rw [aO hi]
  have h0:=u.2.1;have hl:(jv (us.take i)).length=i*k:=by rw [jC,fO,F7 aj]
  have e:jv us=jv (us.take i)++(u.1++jv (us.drop (i+1))):=by
    conv=>lhs; rw [hsplit]
    rw [rY]; simp [jv]
  rw [hset,rY,e];have a1:(jv (us.take i)).take (i*k+f)=jv (us.take i):=iH aj;have a2:(jv (us.take i)).drop (i*k+f+ds.length)=[]:=Bj aj;rw [Wq,List.drop_append,hl,a1,a2,KQ];rw [show i*k+f - i*k=f from by omega,show i*k+f+ds.length - i*k=f+ds.length from by omega];rw [SB aj,List.drop_append_of_le_length aj]
  simp only [jv,nG,CV,hv,overlay,oV]
theorem ZP{f:Nat}{x x':α}(ho:Own τ e lo S w A c xs)(hx:xs[i]? = some x)(hv:v.cells=ds.toArray)(hs:Size P t ds.length)
    (hf:f+ds.length<=τ.k) (h1:∀ u∈ds,u.oneCell'=true) (hS:∀ g,blk A=some g->¬ S g) (hR:∀ w' cs,Og w w' (blk A)->τ.R S w x cs->τ.R S w' x' (overlay cs f ds)) :
    ∃ w',(Instr.storeAt t (.pointer (some ((GN A).add (i*τ.k+f)))) v).run P w=.ok () w'/\Own τ e lo S w' A c (xs.set i x')/\Og w w' (blk A)/\w'.heap.size=w.heap.size:=by
  have hi:=aJ hx;obtain⟨g,cur,us,rfl,hg,hb,hnc,hcm,hcl,ht,hrel⟩:=ho.whole aj;have hik:i*τ.k+τ.k<=xs.length*τ.k:=by rw [<- Nat.succ_mul]; exact vH _ hi
  have hnk:xs.length*τ.k<=cur.length:=by rw [hcl]; exact vH _ hnc
  have had:(GN (some ⟨g,0,none⟩)).add (i*τ.k+f)=⟨g,i*τ.k+f,none⟩:=by simp [GN,F6]
  have hst:=Sz P g (i*τ.k+f) e ds 0 cur.toArray w hb (by simpa using by omega) h1;have hgr:=tT w g (cur.take (i*τ.k+f)++ds++cur.drop (i*τ.k+f+ds.length)).toArray;obtain⟨u,hu⟩:=bC (xs:=us) (i:=i) (by rw [hrel.1]; exact hi);have hRu:=hR _ _ hgr (hrel.2 i x u hx hu);refine⟨_,?_,?_,hgr,by simp [World.setRow]⟩
  · rw [had]
    simp only [Instr.storeAt,Instr.sureAddr,storeVar,hv,jF,kL,jG,hs w]
    simp only [OM,ne_eq,not_true_eq_false,if_false,jF,kL,jG]
    rw [hst]
    simp
  · let v':Cells τ.k:=⟨overlay u.1 f ds,τ.len hRu,τ.one hRu⟩
    have hlen:(us.set i v').length=xs.length:=by rw [gJ,hrel.1]
    refine Own.ofRaw (S':=No) (us:=us.set i v') (SG hg (KO w g _ _ e _ hb) (by rw [hlen]; exact hnc) hcm (by rw [tV aj]; exact hcl) ?_) ⟨by rw [hlen,gJ],?_⟩
    · rw [hlen,KT aj hnk,ht,<- al6 us i f u v' ds hu rfl hf]
      congr 2
      rw [<- ht,KP,F7 aj]
    · intro j y u' hy hu'
      by_cases hj:i=j
      · subst hj
        rw [qb hi] at hy;rw [qb (by rw [hrel.1]; exact hi)] at hu'
        cases hy; cases hu'
        exact hRu
      · rw [Ea hj] at hy hu'
        exact(hrel.grown hgr hS).2 j y u' hy hu'
theorem WL.al7{f:Nat}{x x':α}{p:Operand}{q:Addr}(hp:iG l p=some (.pointer (some q)))(hy:iG l y=some v)(hq:q=(GN A).add (i*τ.k+f))
    (ho:Own τ e lo S w A c xs) (hx:xs[i]? = some x) (hv:v.cells=ds.toArray) (hs:Size P t ds.length)
    (hf:f+ds.length<=τ.k) (h1:∀ u∈ds,u.oneCell'=true) (hS:∀ g,blk A=some g->¬ S g) (hR:∀ w' cs,Og w w' (blk A)->τ.R S w x cs->τ.R S w' x' (overlay cs f ds))
    (kk:∀ w',Own τ e lo S w' A c (xs.set i x')->Og w w' (blk A)->w'.heap.size=w.heap.size->WL P n dh Q K os l w'):WL P n dh Q K (⟨none,.store t p y,ty,pos,mI,none⟩::os) l w:=by
  obtain⟨w',hrun,h2,h3,h4⟩:=ZP (P:=P) (f:=f) (x':=x') ho hx hv hs hf h1 hS hR;exact Qf (λa _=>gH a) Y (R:=λw2=>w2=w') (λa ha=>⟨w',by unfold execOp; simp [ha.eval hp,ha.eval hy,hq,hrun],rfl⟩) λw2 e=>by rw [e]; exact kk w' h2 h3 h4
theorem Wy{kp:0<k}{us:List (Cells k)}(hT:P.underlying t=some (.slice e))(hz:u6 P e k bytes)(ho:Own (zy k kp) e lo S w A c us)(hm:us.length+m<=c) :
    ∃ w',(Builtin.clear_ #[t] ty #[.slice (tQ A c us.length k) m (c - us.length)]).run P w=.ok (.tuple #[]) w'/\Own (zy k kp) e lo S w' A c us/\Og w w' (blk A)/\w'.heap.size=w.heap.size:=by
  by_cases h0:m=0
  · subst h0
    refine⟨w,?_,ho,⟨Y,Y,Y,kV _,λ_ _ _=>Y,kV _⟩,Y⟩
    cases hc:tQ A c us.length k <;> simp [Builtin.clear_,kQ hT]
  · obtain⟨g,cur,rfl,hg,hb,hnc,hcm,hcl,ht⟩:=ho.open_ aj
    obtain⟨i,z,z1,z2,z3,z4,z5,z6⟩:=hz.ex;have hzc:z.cells.toList.length=k:=by rw [Wx]; exact z5
    have hf:=KU (k:=k) z.cells ⟨z.cells.toList,hzc,z6⟩ rfl m kp;have hlen:(Builtin.zeroCells z.cells m).toList.length=m*k:=by rw [hf,jC,Iu]
    have hfit:us.length*k+(Builtin.zeroCells z.cells m).toList.length<=cur.length:=by rw [hlen,<- rD,hcl]; exact vH _ hm
    have hst:=Sz P g (us.length*k) e (Builtin.zeroCells z.cells m).toList 0 cur.toArray w hb (by simpa using hfit) (by rw [hf]; exact GU)
    simp only [Nat.add_zero] at hst
    rw [DJ aj];refine⟨_,?_,SG hg (KO w g _ (cur.take (us.length*k)++(Builtin.zeroCells z.cells m).toList++cur.drop (us.length*k+(Builtin.zeroCells z.cells m).toList.length)).toArray e _ hb) hnc hcm (by rw [tV hfit]; exact hcl) ?_,tT w g _,by simp [World.setRow]⟩
    · obtain⟨m',rfl⟩:∃ m',m=m'+1:=⟨m - 1,aj⟩
      have hzv:∀ w,(zeroValue e).run P w=.ok z w:=λw=>by simp [zeroValue,typeInfo,z1,z2]
      simp only [Builtin.clear_,List.getElem?_toArray,List.getElem?_cons_zero,jF,kL,jG,kQ hT,hzv]
      rw [hst]
      simp
    · rw [oV,SB (by simp only [fO]; omega),KP,Nat.min_self,ht]
end
section
variable {P:Program}{n:Cx}{l:List (Nat × Value)}{w:World}{t e:TypeId}{x:Operand}
theorem Ev.ayj{hi:Nat}{kh:IntKind}{zh:Int}{yh:Operand}(hu:P.underlying t=some (.slice e))(hs:Size P e k)(hx:iG l x=some (.slice A m c))(hh:iG l yh=some (.int kh zh))
    (h2:zh=(hi:Int)) (h4:hi<=c):Ev P n l w (.slice t x none (some yh) none) (.slice A hi c):=λo a w' ho ha _=>by
  have hcz:=Nn A c k;unfold tQ at hcz;unfold execOp; rw [ho]
  have h6:(Instr.sliceAt t (.slice A m c) none (some (.int kh zh)) none).run P w'=.ok (.slice A hi c) w':=by
    rw [OO w' t _ _ _ _ (rV hu),run_slice_h w' t A m c (rV hu) kh zh aj aj,Dj hu,hs w',h2]
    simp only [jG,sliced,Ws,Qc]
    rw [hcz]
  simp [ha.eval hx,ha.eval hh,h6]
def SH:=@Ev.ayj
theorem Ev.aoT{kl:IntKind}{zl:Int}{yl:Operand}(hu:P.underlying t=some (.slice e))(hs:Size P e k)(hx:iG l x=some (.slice A m c))(hl:iG l yl=some (.int kl zl))
    (h1:zl=(lo:Int)) (h3:lo<=m) (h5:m<=c):Ev P n l w (.slice t x (some yl) none none) (.slice (tQ A c lo k) (m - lo) (c - lo)):=λo a w' ho ha _=>by
  unfold execOp; rw [ho]
  have h6:(Instr.sliceAt t (.slice A m c) (some (.int kl zl)) none none).run P w'=.ok (.slice (tQ A c lo k) (m - lo) (c - lo)) w':=by
    rw [OO w' t _ _ _ _ (rV hu),run_slice_l w' t A m c (rV hu) kl zl aj aj,Dj hu,hs w',h1]
    simp [sliced,tQ]
  simp [ha.eval hx,ha.eval hl,h6]
def Ec:=@Ev.aoT
end
section
variable {P:Program}{n:Cx}{l:List (Nat × Value)}{w:World}{Q:Exit->Act->World->Prop}{K:Act->World->Prop}{dh:Array Oper}{os:List Oper}{ty:TypeId}{pos:String}{mI:Array Edge}{d:Nat}
theorem WL.extern{KH:Operand}{args:List Operand}{tys:Array TypeId}{f:FuncId}{caps vs all:List Value}
    (hf:iG l KH=some (.func (.func f) #[] caps.toArray)) (hargs:EW l args=some vs) (hall:vs++caps=all) (hc:(callFunc f all.toArray).run P w=.ok (.value v) w) (hd:Nat.blt d n.size=true)
    (k:WL P n dh Q K os ((d,v)::l) w):WL P n dh Q K (⟨some d,.call ⟨.value KH,args.toArray,tys⟩,ty,pos,mI,none⟩::os) l w:=by
  refine DZ (v:=v) (λa _=>gH a) Y hd (R:=λw2=>w2=w) (λa ha=>⟨w,?_,Y⟩) λw2 e=>by rw [e]; exact k
  unfold execOp;have h1:=ha.eval hf;have h2:=ha.UA hargs
  simp only [resolve,h1,Deferred.ofValue,jF,kL,jG,invoke]
  have:(#[]++Array.map a.eval args.toArray++caps.toArray:Array Value)=all.toArray:=by
    rw [tO,h2,<- hall]; simp
  rw [this];exact hc
theorem aeM(h:Bx w g t cs):w.shape? g=some (t,cs.length):=by
  unfold Bx at h; simp [World.shape?,h]
theorem U9{f:FuncId}{fn:Func}{tS tR:TypeId}{gv:Nat}{ev e2:TypeId}{la ca ob lb cb:Nat}(hf:P.funcs[f]? = some fn)(hname:(fn.name == "runtime.NumGoroutine")=false)(hb:fn.body.isNone=true)(hn:Extern.findNext fn=none)
    (he:Extern.find fn=some (Extern.SlicesOverlaps.overlaps #[tS,tS] #[tR])) (ht:P.underlying tS=some (.slice e)) (hs:Size P e k) (hv:Bx w gv ev cs) (hg:Bx w g e2 ds) (hne:gv≠g) (h0:0<ds.length) :
    (callFunc f #[.slice (some ⟨gv,0,none⟩) la ca,.slice (some ⟨g,ob,none⟩) lb cb]).run P w=.ok (.value (.bool false)) w:=by
  rw [run_callFunc_extern hf hname hb hn he];rw [Lib.run_overlaps_apart w tS tR e ht k hs ⟨gv,0,none⟩ ⟨g,ob,none⟩ la ca lb cb hne ev e2 cs.length ds.length (aeM hv) (aeM hg) aj (hv.frozen 0) (hv.frozen _)]
  rfl
end
section
variable {P:Program}{n:Cx}{l l':List (Nat × Value)}{w w':World}{Q:Exit->Act->World->Prop}{K:Act->World->Prop}{dh:Array Oper}{fuel:Nat}{aX:Array Bool}
theorem WH.aBC(i:Nat){pos:String}{mI:Array Edge}(hi:dh[i]? = some ⟨some d,op,ty,pos,mI,none⟩)(hs:Region.noSelect dh=true)(hf:Region.free .any dh aX i=true)
    (hr:(Region.ready .any dh aX).contains i=true) (he:∀ w0,Ev P n l w0 op v) (hd:Nat.blt d n.size=true) (k:WH P n dh K (λ_=>True) fuel (aX.setIfInBounds i true) ((d,v)::l) w) :
    WH P n dh K (λ_=>True) (fuel+1) aX l w:=λa ha=>
  wpAnyH_take hi hs hf hr (λ_ _ _ h=>h) (.inl ⟨gH a,λw' _=>he w' _ a w' rfl ha (pI w')⟩) trivial (k _ (ha.put hd v))
def xq:=@WH.aBC
end
theorem ajX(us:List α)(u:α)(h:i=us.length):us.take i++[u]++us.drop i=us++[u]:=by subst h; simp
theorem ajY(a r vs:List (Cells k))(i m:Nat)(h1:a.length=i)(h2:vs.length=m)(h3:m<=r.length):over (a++r) i vs=a++vs++r.drop m:=by
  subst h1 h2;have h4:(a++r).take a.length=a:=List.take_left' rfl;have h5:vs.take ((a++r).length - a.length)=vs:=iH (by rw [jd]; omega)
  have h6:(a++r).drop (a.length+vs.length)=r.drop vs.length:=by
    have h7:a.drop (a.length+vs.length)=[]:=Bj aj;rw [List.drop_append,h7,KQ]
    congr 1; omega
  unfold over;rw [h4,h5,h6]
theorem aoU(us:List (Cells k))(u z:Cells k)(h:i<=us.length):over (over (us.take i++List.replicate (us.length+1 - i) z) i [u]) (i+1) (us.drop i)=us.take i++[u]++us.drop i:=by
  have h1:(us.take i).length=i:=by simp only [fO]; omega
  rw [ajY (us.take i) (List.replicate (us.length+1 - i) z) [u] i 1 h1 rfl (by rw [Iu]; omega),List.drop_replicate];rw [ajY (us.take i++[u]) _ (us.drop i) (i+1) (us.length - i) (by rw [jd,h1]; rfl) (by rw [kW]) (by rw [Iu]; omega),List.drop_replicate];rw [show us.length+1 - i - 1 - (us.length - i)=0 from by omega,List.replicate_zero,yN]
theorem Ext.al8{w1 w2 w3:World}(e:Ext w w1)(h2:Og w1 w2 (some g))(h3:Og w2 w3 (some g))(hg:w.heap.size<=g):Og w w3 X:=
  have e2:Ext w w3:=(e.mod (alX h2 (λk hk=>by cases hk; rfl)) hg).mod (alX h3 (λk hk=>by cases hk; rfl)) hg
  ⟨e2.os,e2.tape,e2.output,e2.size,λk hk _=>e2.block k hk,e2.drawn⟩
theorem abT{w1 w2:World}(h1:Og w w1 X)(h2:Og w1 w2 X):Og w w2 X:=
  ⟨h2.os.trans h1.os,h2.tape.trans h1.tape,h2.output.trans h1.output,lV h1.size h2.size,λk hk hn=>(h2.block k (Sr hk h1.size) hn).trans (h1.block k hk hn),lV h1.drawn h2.drawn⟩
theorem Rel.one{x:α}{u:Cells τ.k}(h:τ.R S w x u.1):Rel τ S w [x] [u]:=by
  refine⟨Y,λi y v hy hv=>?_⟩
  cases i with
  | zero=>simp at hy hv; subst hy hv; exact h
  | succ i=>simp at hy
section
variable {P:Program}{n:Cx}{l:List (Nat × Value)}{w:World}{t ty d:TypeId}{x y:Operand}{k k':IntKind}{m:Nat}
theorem Ev.aue(hs:(P.underlying t).isSome=true)(hd:P.underlying d=some (.int (P.intKind d)))(hk:P.intKind d=k')(hx:iG l x=some (.int k (m:Int)))(hw:k'.wrap (m:Int)=(m:Int)):Ev P n l w (.convert t d x) (.int k' (m:Int)):=by
  have:=Ir (P:=P) (n:=n) (w:=w) hs hd hk hx
  rwa [hw] at this
def Bl:=@Ev.aue
theorem wH(h:m<=9223372036854775807):IntKind.u64.wrap (m:Int)=(m:Int):=by rw [IntKind.wrap_u64]; omega
theorem uL(h:m<=9223372036854775807):IntKind.i64.wrap (m:Int)=(m:Int):=(wQ aj aj).wrap
theorem Ev.ama(hx:iG l x=some (.int .u64 (m:Int)))(hy:iG l y=some (.int .u64 1)):Ev P n l w (.binOp .shr t x y ty) (.int .u64 ((m / 2:Nat):Int)):=λo a w' ho ha _=>by
  unfold execOp; rw [ho];have e:((m / 2:Nat):Int)=(m:Int) / 2 ^ (1:Int).toNat:=by simp
  rw [e]
  simp [ha.eval hx,ha.eval hy,eqGuard_shr,binOp_shr,shift_shr .u64 .u64 (m:Int) 1 aj au]
end
def lok:List (Nat × Value)->Nat->Option Value
  | [],_=>none
  | p::l,i=>match Nat.beq i p.1 with
    | true=>some p.2
    | false=>lok l i
theorem aoV:∀(l:List (Nat × Value))(i:Nat),lok l i=look l i
  | [],_=>rfl
  | p::l,i=>by
    unfold lok look
    have e:Nat.beq i p.1=Nat.beq p.1 i:=by
      cases h:Nat.beq p.1 i with
      | true=>rw [Oo h]; exact Nat.beq_refl _
      | false=>
        cases h2:Nat.beq i p.1 with
        | false=>rfl
        | true=>rw [Oo h2,Nat.beq_refl] at h; cases h
    rw [e,aoV l i]
    cases Nat.beq p.1 i <;> rfl
def lkA(l:List (Nat × Value)):List (Nat × Value)->List (Option Value)
  | []=>[]
  | p::r=>look l p.1::lkA l r
def lkB(l:List (Nat × Value)):List (Nat × Value)->List (Option Value)
  | []=>[]
  | p::r=>lok l p.1::lkB l r
def Sb(l l':List (Nat × Value)):Prop:=lkA l l'=lkB l' l'
theorem aoW:∀ {r:List (Nat × Value)},lkA l r=lkB l' r->∀ p∈r,look l p.1=look l' p.1
  | [],_,p,hp=>by simp at hp
  | q::r,h,p,hp=>by
    have h1:look l q.1=lok l' q.1:=(List.cons.inj h).1
    rcases iX.1 hp with rfl | hp
    · rw [h1,aoV]
    · exact aoW (List.cons.inj h).2 p hp
theorem aeN:∀ {l:List (Nat × Value)} {i:Nat} {v:Value},look l i=some v->∃ p∈l,p.1=i
  | [],i,v,h=>by simp [look] at h
  | p::l,i,v,h=>by
    unfold look at h
    cases hb:Nat.beq p.1 i with
    | true=>exact⟨p,av,Oo hb⟩
    | false=>simp [hb] at h; obtain⟨q,hq,e⟩:=aeN h; exact⟨q,by simp [hq],e⟩
theorem Sb.aBE(h:Sb l l')(hv:look l' i=some v):look l i=some v:=by
  obtain⟨p,hp,rfl⟩:=aeN hv;rw [aoW h p hp]; exact hv
theorem Has.sb{n:Cx}{a:Act}(h:Has n l a)(hs:Sb l l'):Has n l' a:=⟨h.defers,h.size,λi v hv=>h.get i v (hs.aBE hv)⟩
def evd(n:Cx)(l:List (Nat × Value))(d:Nat)(x:Operand):Option Value:=bif Nat.blt d n.size then iG l x else none
theorem tu{n:Cx}(h:evd n l d x=some v):Nat.blt d n.size=true/\iG l x=some v:=by
  unfold evd at h
  cases hb:Nat.blt d n.size with
  | false=>rw [hb] at h; cases h
  | true=>rw [hb] at h; exact⟨rfl,h⟩
section
variable {P:Program}{n:Cx}{l l':List (Nat × Value)}{w w':World}{Q:Exit->Act->World->Prop}{K:Act->World->Prop}{dh:Array Oper}{os:List Oper}{ty t:TypeId}{pos:String}{mI:Array Edge}{d:Nat}{x y:Operand}{v:Value}
theorem rg{ol:List Oper}{id:Nat}{y:Code}(h:WL P n ol.toArray (Exit.then (Ot P n y Q) Q) (Ot P n y Q) ol l w)(hp:n.plain=false:=by rfl):WP P n (.seq (.region id ol.toArray false) y) l w Q:=CW h hp
theorem jy{ol:List Oper}{id:Nat}(h:WL P n ol.toArray Q (Q .normal) ol l w)(hp:n.plain=false:=by rfl):WP P n (.region id ol.toArray false) l w Q:=WP.ahU h hp
theorem dn{y:Code}(h:WP P n y l w Q):WL P n dh Q' (Ot P n y Q) [] l w:=CX h
theorem jA(h:l8 n Q .normal l w):WL P n dh Q' (Q .normal) [] l w:=WL.aoJ h
theorem ev(h:Ev P n l w op v)(k:WL P n dh Q K os ((d,v)::l) w)(hd:Nat.blt d n.size=true:=by rfl):WL P n dh Q K (⟨some d,op,ty,pos,mI,none⟩::os) l w:=jQ h hd k
theorem mv(h:evd n l d x=some v)(k:WL P n dh Q K os ((d,v)::l) w):WL P n dh Q K (⟨some d,.move x,ty,pos,mI,none⟩::os) l w:=jQ (bf (tu h).2) (tu h).1 k
theorem iI(h:evd n l d x=some v)(k:WL P n dh Q K os ((d,v)::l) w):WL P n dh Q K (⟨some d,.assign x,ty,pos,mI,none⟩::os) l w:=jQ (om (tu h).2) (tu h).1 k
theorem xt{vs:List Value}(h:evd n l d x=some (.tuple vs.toArray))(hi:vs[i]? = some v)(k:WL P n dh Q K os ((d,v)::l) w):WL P n dh Q K (⟨some d,.extract x i,ty,pos,mI,none⟩::os) l w:=jQ (wS (tu h).2 hi) (tu h).1 k
theorem WL.ayk(m d:Nat)(r:Bool)(h:WL P n dh Q (λa' w'=>Has n ((d,.bool r)::l) a'/\w'=w) (os.take m) l w)(k:WL P n dh Q K (os.drop m) ((d,.bool r)::l) w):WL P n dh Q K os l w:=WL.cut m _ h k
def iP:=@WL.ayk
theorem WQ.ayk{Qa:Act->Prop}(m d:Nat)(r:Bool)(h:WQ P n dh w (λa'=>Has n ((d,.bool r)::l) a') (os.take m) l)(k:WQ P n dh w Qa (os.drop m) ((d,.bool r)::l)):WQ P n dh w Qa os l:=WQ.cut m _ h k
def rJ:=@WQ.ayk
theorem WL.aBF(m d:Nat)(r:Bool)(h:WL P n dh Q (λa' w'=>Has n ((d,.bool r)::l) a'/\Ext w w') (os.take m) l w)(k:∀ w',Ext w w'->WL P n dh Q K (os.drop m) ((d,.bool r)::l) w'):WL P n dh Q K os l w:=WL.aGu m _ h k
def oG:=@WL.aBF
theorem WL.ayl(hs:Sb l l1):WL P n dh Q (λa' w'=>Has n l1 a'/\w'=w) [] l w:=λ_ ha=>⟨ha.sb hs,rfl⟩
def dM:=@WL.ayl
theorem WQ.ayl(hs:Sb l l1):WQ P n dh w (λa'=>Has n l1 a') [] l:=λ_ ha=>ha.sb hs
def j3:=@WQ.ayl
theorem WL.aBG{w0:World}(hs:Sb l l1)(he:Ext w0 w):WL P n dh Q (λa' w'=>Has n l1 a'/\Ext w0 w') [] l w:=λ_ ha=>⟨ha.sb hs,he⟩
def jh:=@WL.aBG
theorem WP.keep'{c:Code}(l':List (Nat × Value))(hs:Sb l l')(h:WP P n c l' w Q):WP P n c l w Q:=λa ha=>h a (ha.sb hs)
def OQ:=@WP.keep'
theorem l8.re{e:Exit}{t:Nat}{u:Value}(hl:look l t=some u)(he:u=v)(k:l8 n Q e ((t,v)::l) w):l8 n Q e l w:=λa ha=>k a (ha.set hl he)
def jq:=@l8.re
theorem WP.lp{c:Code}(J:Nat->List (Nat × Value)->World->Prop){m0:Nat}{l0:List (Nat × Value)}(h0:J m0 l0 w)(hs:Sb l l0)
    (hr:∀ m l w',J m l w'->WP P n c l w' (Exit.then (Again n J m) Q)):WP P n (.loop c) l w Q:=WP.loop J m0 l0 (λ_ ha=>ha.sb hs) h0 hr
def pK:=@WP.lp
theorem l8.ag{m':Nat}(hJ:J m' l' w)(hs:Sb l l')(hm:m'<m):l8 n (Exit.then (Again n J m) Q) .normal l w:=
  λ_ ha=>⟨m',l',hm,ha.sb hs,hJ⟩
def dI:=@l8.ag
theorem l8.jag{lb:Nat}{m':Nat}(hJ:J m' l' w)(hs:Sb l l')(hm:m'<m):l8 n (Exit.jump lb (Again n J m) Q) (.goto lb) l w:=
  λ_ ha=>⟨rfl,m',l',hm,ha.sb hs,hJ⟩
theorem WP.kp{c:Code}(hp:∀ m l w,J m l w->WP P n c l w Q)(hJ:J m l' w)(hs:Sb l l'):WP P n c l w Q:=λa ha=>hp m l' w hJ a (ha.sb hs)
theorem WH.dn{S:World->Prop}{J:List (Nat × Value)->World->Prop}(hJ:J l' w)(hs:Sb l l')(hr:Region.ready .any dh aX=[]):WH P n dh (JK n J) S fuel aX l w:=λ_ ha=>wpAnyH_done hr ⟨l',ha.sb hs,hJ⟩ fuel
end
section
variable {P:Program}{n:Cx}{l:List (Nat × Value)}{w:World}{Q Q':Exit->Act->World->Prop}{K:Act->World->Prop}{dh:Array Oper}{os:List Oper}{ty:TypeId}{pos:String}{mI:Array Edge}{d id:Nat}{x:Operand}{v:Value}{y:Code}
theorem bU(h:evd n l d x=some v)(k:WP P n y ((d,v)::l) w Q):WL P n dh Q' (Ot P n y Q) [⟨some d,.assign x,ty,pos,mI,none⟩] l w:=iI h (dn k)
theorem bQ(h:evd n l d x=some v)(k:WL P n (⟨some d,.move x,ty,pos,mI,none⟩::os).toArray (Exit.then (Ot P n y Q) Q) (Ot P n y Q) os ((d,v)::l) w)(hp:n.plain=false:=by rfl):WP P n (.seq (.region id (⟨some d,.move x,ty,pos,mI,none⟩::os).toArray false) y) l w Q:=rg (mv h k) hp
theorem iZ(h:evd n l d x=some v)(k:WP P n y ((d,v)::l) w Q)(hp:n.plain=false:=by rfl):WP P n (.seq (.region id [⟨some d,.assign x,ty,pos,mI,none⟩].toArray false) y) l w Q:=rg (iI h (dn k)) hp
theorem dN{op:Op}{j:Nat}{bW:Bool}{v:Value}(k:WL P n dh Q K os ((d,undef)::l) w)(hg:guardOf dh l j=some v:=by rfl)(hv:unlike bW v=true:=by rfl)(hd:Nat.blt d n.size=true:=by rfl):WL P n dh Q K (⟨some d,op,ty,pos,mI,some (j,bW)⟩::os) l w:=WL.pass hg hv hd k
end
theorem Ev.auf{P:Program}{n:Cx}{a b:Nat}{z:Int}(hx:iG l x=some (.int .i64 (a:Int)))(hy:iG l y=some (.int .i64 z))(hz:z=(b:Int))(h:b<=a)(h2:a<=9223372036854775807):Ev P n l w (.binOp .sub t x y ty) (.int .i64 ((a - b:Nat):Int)):=by
  subst hz;have:=Ev.sub (P:=P) (n:=n) (w:=w) (t:=t) (ty:=ty) hx hy (wQ aj aj)
  rwa [show(a:Int) - (b:Int)=((a - b:Nat):Int) from by omega] at this
theorem Wr.DU{b:World}{W:Nat->Prop}(h:Og w w' X)(hX:∀ g,X=some g->W g):Wr b w w' W:=
  ⟨h.os,h.tape,h.output,h.size,λk hk hn=>h.block k hk (λe=>hn (hX k e.symm)),h.drawn⟩
theorem Wr.ah2{b:World}{W:Nat->Prop}(h:Mod g w w')(hX:W g):Wr b w w' W:=
  ⟨h.os,h.tape,h.output,h.size,λk hk hn=>h.block k hk (λe=>hn (e▸hX)),h.drawn⟩
section
variable {P:Program}{n:Cx}{l:List (Nat × Value)}{b w:World}{S:Nat->Prop}{rs rest:List lH}{Q:Exit->Act->World->Prop}{K:Act->World->Prop}{dh:Array Oper}{os:List Oper}{ty:TypeId}{pos:String}{mI:Array Edge}{d:Nat}
theorem bx(hx:evd n l d x=some v)(hcs:v.cells=cs.toArray)(H:Hp b S w rs)
    (k:∀ g w',Hp b S w' (dY g t cs::rs)->WL P n dh Q K os ((d,gD g)::l) w'):WL P n dh Q K (⟨some d,.box t x,ty,pos,mI,none⟩::os) l w:=
  WL.box (tu hx).2 hcs (tu hx).1 λw' e hb hz=>k _ w' (H.new (r:=dY w.heap.size t cs) e (λg hg=>by show _/\_; rw [show g=w.heap.size from hg]; omega) hb)
theorem al{z:Value}(hz:∀ w,(zeroValue t).run P w=.ok z w)(hcs:z.cells=cs.toArray)(H:Hp b S w rs)
    (k:∀ g w',Hp b S w' (dY g t cs::rs)->WL P n dh Q K os ((d,gD g)::l) w') (hd:Nat.blt d n.size=true:=by rfl):WL P n dh Q K (⟨some d,.alloc t,ty,pos,mI,none⟩::os) l w:=
  WL.alloc hz hcs hd λw' e hb hz=>k _ w' (H.new (r:=dY w.heap.size t cs) e (λg hg=>by show _/\_; rw [show g=w.heap.size from hg]; omega) hb)
theorem Az{x:α}(hx:Qe l parts=some vs)
    (hb:∀ w,(Instr.buildSlice t m vs.toArray).run P w=.ok (.slice (some ⟨w.heap.size,0,none⟩) m m) (w.alloc (.cells cs.toArray e))) (hm:m=1) (H:Hp b S w rs) (hR:∀ w',Ext w w'->τ.R (Rd b S rs w) w' x cs)
    (k:∀ g w',Hp b S w' (aS τ e (some ⟨g,0,none⟩) 1 [x]::rs)->WL P n dh Q K os ((d,.slice (some ⟨g,0,none⟩) [x].length 1)::l) w') (hd:Nat.blt d n.size=true:=by rfl):WL P n dh Q K (⟨some d,.buildSlice t m parts.toArray,ty,pos,mI,none⟩::os) l w:=by
  subst hm;have hl:cs.length=τ.k:=τ.len (hR w (pI w));refine WL.buildSlice (k:=τ.k) hx hb hd aj λw' ex hb' hz=>k _ w' (H.new (r:=aS τ e (some ⟨w.heap.size,0,none⟩) 1 [x]) ex (λg hg=>?_) (hb'.aub (hR w' ex) (fJ _)));have:w.heap.size=g:=by simpa [aS,blk] using hg
  omega
theorem bs0(hx:Qe l parts=some vs)
    (hb:∀ w,(Instr.buildSlice t m vs.toArray).run P w=.ok (.slice (some ⟨w.heap.size,0,none⟩) m m) (w.alloc (.cells #[] e))) (hm:m=0) (H:Hp b S w rs)
    (k:∀ g w',Hp b S w' (aS τ e (some ⟨g,0,none⟩) 0 []::rs)->WL P n dh Q K os ((d,.slice (some ⟨g,0,none⟩) ([]:List α).length 0)::l) w') (hd:Nat.blt d n.size=true:=by rfl):WL P n dh Q K (⟨some d,.buildSlice t m parts.toArray,ty,pos,mI,none⟩::os) l w:=by
  subst hm;refine WL.buildSlice (k:=τ.k) (cs:=[]) hx hb hd av λw' ex hb' hz=>k _ w' (H.new (r:=aS τ e (some ⟨w.heap.size,0,none⟩) 0 []) ex (λg hg=>?_) (hb'.al2 (fJ _)));have:w.heap.size=g:=by simpa [aS,blk] using hg
  omega
def aug{α:Type}(τ:Ty α)(S:Nat->Prop)(w:World):List α->List (List Value)->Prop
  | [],[]=>True
  | x::xs,cs::css=>τ.R S w x cs/\aug τ S w xs css
  | _,_=>False
theorem aug.spec:∀ {xs:List α} {css:List (List Value)},aug τ S w xs css->css.length=xs.length/\css.flatten.length=xs.length*τ.k/\∀(i:Nat)(x:α),xs[i]? = some x->∃ cs,css[i]? = some cs/\τ.R S w x cs
  | [],[],_=>⟨rfl,av,λi x h=>by simp at h⟩
  | [],_::_,h=>h.elim
  | _::_,[],h=>h.elim
  | x::xs,cs::css,h=>by
    obtain⟨h1,h3,h2⟩:=h.2.spec;have h4:=τ.len h.1;refine⟨by simp [h1],by simp [h3,h4,rD]; omega,λi y hy=>?_⟩
    cases i with
    | zero=>simp at hy; subst hy; exact⟨cs,rfl,h.1⟩
    | succ i=>simpa using h2 i y (by simpa using hy)
theorem bsn(hx:Qe l parts=some vs)
    (hb:∀ w,(Instr.buildSlice t m vs.toArray).run P w=.ok (.slice (some ⟨w.heap.size,0,none⟩) m m) (w.alloc (.cells css.flatten.toArray e))) (hm:m=xs.length) (hm1:Nat.ble m 100000=true) (H:Hp b S w rs) (hR:∀ w',Ext w w'->aug τ (Rd b S rs w) w' xs css)
    (k:∀ g w',Hp b S w' (aS τ e (some ⟨g,0,none⟩) m xs::rs)->WL P n dh Q K os ((d,.slice (some ⟨g,0,none⟩) xs.length m)::l) w') (hd:Nat.blt d n.size=true:=by rfl):WL P n dh Q K (⟨some d,.buildSlice t m parts.toArray,ty,pos,mI,none⟩::os) l w:=by
  subst hm;have hm2:xs.length<=100000:=pU hm1;obtain⟨h1,h2,_⟩:=(hR w (pI w)).spec;refine WL.buildSlice (k:=τ.k) (cs:=css.flatten) hx hb hd (by rw [h2]) λw' ex hb' hz=>k _ w' (H.new (r:=aS τ e (some ⟨w.heap.size,0,none⟩) xs.length xs) ex (λg hg=>?_) ?_)
  · have:w.heap.size=g:=by simpa [aS,blk] using hg
    omega
  · have h3:=(hR w' ex).spec
    refine⟨css,h3.1,h3.2.2,?_⟩;exact⟨h2,.inr ⟨w.heap.size,xs.length,css.flatten.toArray,Y,fJ _,hb',kV _,by simp only [maxLen]; omega,by rw [OM]; exact h2,by rw [<- h2]; exact iH (kV _)⟩⟩
theorem stc{t':TypeId}(hx:iG l x=some (.pointer (some ⟨g,i,none⟩)))(hy:iG l y=some v)(h1:v.oneCell'=true)(hs:Size P t 1)(H:Hp b S w rs)(s:pE rs (dY g t' cs) rest)(hi:Nat.blt i cs.length=true)
    (k:∀ w',Hp b S w' (dY g t' (cs.set i v)::rest)->WL P n dh Q K os l w'):WL P n dh Q K (⟨none,.store t x y,ty,pos,mI,none⟩::os) l w:=
  WL.al1 hx hy h1 hs (H.x s) (by simpa [Nat.blt_eq] using hi) λw' m hb hz=>k w' ((H.sel s).put (r':=dY g t' (cs.set i v)) (Wr.ah2 m rfl) (λg hg=>.inl hg) hb)
theorem stw{t':TypeId}(hx:iG l x=some (gD g))(hy:iG l y=some v)(hv:v.cells=ds.toArray)(hs:Size P t ds.length)(H:Hp b S w rs)(s:pE rs (dY g t' cs) rest)(hl:cs.length=ds.length)(h1:ds.all (λu=>u.oneCell')=true)
    (k:∀ w',Hp b S w' (dY g t' ds::rest)->WL P n dh Q K os l w'):WL P n dh Q K (⟨none,.store t x y,ty,pos,mI,none⟩::os) l w:=
  WL.aoQ hx hy hv hs (H.x s) hl (λu hu=>lI.1 h1 u hu) λw' m hb hz=>k w' ((H.sel s).put (r':=dY g t' ds) (Wr.ah2 m rfl) (λg hg=>.inl hg) hb)
theorem Hp.own{τ':Ty β}{A':ah}{c':Nat}{ys:List β}(H:Hp b S w (aS τ e A c xs::rest))(hg:Og w w' (blk A))(hA:∀ g,blk A'=some g->blk A=some g∨w.heap.size<=g)
    (h:Own τ' e lo (Rd b S (aS τ e A c xs::rest) w) w' A' c' ys):Hp b S w' (aS τ' e A' c' ys::rest):=
  H.put (r':=aS τ' e A' c' ys) (Wr.DU hg (λg hX=>hX)) (λg hg'=>by
    rcases hA g hg' with h1 | h1
    · exact .inl h1
    · exact .inr ⟨h1,(h.abI g hg').2⟩) (h.low (fJ _) (λ_ hb=>hb))
theorem Hp.aeO{r:lH}(H:Hp b S w rs)(s:pE rs r rest):∀ g,r.W g->¬ Rd b S rs w g:=by
  have hm:r∈rs:=s.perm.mem_iff.2 av;rintro g hg (⟨h1,_⟩ | ⟨_,_,h3⟩)
  · have:=(H.lo r hm g hg).1; omega
  · exact h3 r hm hg
theorem apd{c2:Nat}(H:Hp b S w rs)(se:pE rs (aS τ e A c xs) rest)(hs:evd n l d s=some (.slice A xs.length c))(hx:iG l x=some (.slice B ys.length c2))
    (hy:Sl τ (Rd b S rs w) w B c2 ys) (hT:P.underlying t=some (.slice e)) (hI:lW P e τ.k bytes)
    (hm1:xs.length<=1000000) (hm2:ys.length<=1000000) (hby:Nat.ble bytes 1000=true)
    (k:∀ A' c' w',Hp b S w' (aS τ e A' c' (xs++ys)::rest)->WL P n dh Q K os ((d,.slice A' (xs++ys).length c')::l) w') :
    WL P n dh Q K (⟨some d,.call ⟨.builtin .append,#[s,x],#[t,t]⟩,ty,pos,mI,none⟩::os) l w:=by
  have H1:=H.sel se;have hsub:∀ g,Rd b S rs w g->Rd b S (aS τ e A c xs::rest) w g:=Rd.perm se.perm;refine WL.app (tu hs).2 hx (H1.ow s0) (hy.sub hsub) hT hI (λ_ _ _ h=>h) (λg hA=>H1.aeO s0 g hA) hm1 hm2 hby H1.ext.size (tu hs).1 λA' c' w' ho hg hat=>k A' c' w' (H1.own hg (λg hg'=>?_) ho)
  rcases hat with hat | hat
  · exact .inl (hat▸hg')
  · rw [hat] at hg'; cases hg'; exact .inr (kV _)
theorem ap[Flat τ]{c2:Nat}(H:Hp b S w rs)(se:pE rs (aS τ e A c xs) rest)(hs:evd n l d s=some (.slice A xs.length c))(hx:iG l x=some (.slice B ys.length c2))
    (hy:Sl τ S2 w B c2 ys) (hT:P.underlying t=some (.slice e)) (hI:lW P e τ.k bytes)
    (hm1:xs.length<=1000000) (hm2:ys.length<=1000000) (hby:Nat.ble bytes 1000=true)
    (k:∀ A' c' w',Hp b S w' (aS τ e A' c' (xs++ys)::rest)->WL P n dh Q K os ((d,.slice A' (xs++ys).length c')::l) w') :
    WL P n dh Q K (⟨some d,.call ⟨.builtin .append,#[s,x],#[t,t]⟩,ty,pos,mI,none⟩::os) l w:=by
  have H1:=H.sel se;refine WL.app (S2:=S2) (tu hs).2 hx (H1.ow s0) hy hT hI (λ_ _ _ h=>Flat.h h) (λg hA=>H1.aeO s0 g hA) hm1 hm2 hby H1.ext.size (tu hs).1 λA' c' w' ho hg hat=>k A' c' w' (H1.own hg (λg hg'=>?_) ho)
  rcases hat with hat | hat
  · exact .inl (hat▸hg')
  · rw [hat] at hg'; cases hg'; exact .inr (kV _)
theorem apz(τ:Ty α){ti:TypeId}(hs:evd n l d s=some (.slice none 0 0))(hx:iG l x=some (aF (m:Int)))(hT:P.underlying t=some (.slice e))(hi:P.underlying ti=some (.int .i64))(hI:lW P e τ.k bytes)(h0:0<m)(hm:m<=1000000)(hby:Nat.ble bytes 1000=true)(H:Hp b S w rs)
    (k:∀ g c w',Hp b S w' (aS τ e (some ⟨g,0,none⟩) c []::rs)->WL P n dh Q K os ((d,.slice (some ⟨g,0,none⟩) m c)::l) w') :
    WL P n dh Q K (⟨some d,.call ⟨.builtin .append,#[s,x],#[t,ti]⟩,ty,pos,mI,none⟩::os) l w:=
  WL.aeK τ (tu hs).2 hx hT hi hI h0 hm hby (tu hs).1 λg c w' ex ho=>k g c w' (H.new (r:=aS τ e (some ⟨g,0,none⟩) c []) ex (λg' hg'=>by
    have h1:=ho.abI g' hg'; omega) (ho.low (fJ _) (λ_ h=>h.elim)))
theorem se{f:Nat}{x x':α}{p:Operand}{q:Addr}(H:Hp b S w rs)(s:pE rs (aS τ e A c xs) rest)(hp:iG l p=some (.pointer (some q)))(hy:iG l y=some v)(hq:q=(GN A).add (i*τ.k+f))
    (hx:xs[i]? = some x) (hv:v.cells=ds.toArray) (hs:Size P t ds.length)
    (hf:f+ds.length<=τ.k) (h1:ds.all (λu=>u.oneCell')=true) (hR:∀ w' cs,(∀ {β:Type} {σ:Ty β} {B:ah} {d:Nat} {zs:List β},Sl σ (Rd b S rs w) w B d zs->Sl σ (Rd b S rs w) w' B d zs)->τ.R (Rd b S rs w) w x cs->τ.R (Rd b S rs w) w' x' (overlay cs f ds))
    (kk:∀ w',Hp b S w' (aS τ e A c (xs.set i x')::rest)->WL P n dh Q K os l w'):WL P n dh Q K (⟨none,.store t p y,ty,pos,mI,none⟩::os) l w:=by
  have H1:=H.sel s;have hsub:∀ g,Rd b S rs w g->Rd b S (aS τ e A c xs::rest) w g:=Rd.perm s.perm;have aBH:∀ g,Rd b S (aS τ e A c xs::rest) w g->Rd b S rs w g:=Rd.perm s.perm.symm;refine WL.al7 (S:=Rd b S (aS τ e A c xs::rest) w) hp hy hq (H1.ow s0) hx hv hs hf (λu hu=>lI.1 h1 u hu) (λg hA=>H1.aeO s0 g hA) (λw' cs hg hr=>τ.sub hsub (hR w' cs ?_ (τ.sub aBH hr))) λw' ho hg hz=>kk w' (H1.own hg (λg hg'=>.inl hg') ho);intro β σ B d zs hsl;exact hsl.keep λk hk hlt=>hg.block k hlt λe=>H.aeO s k e.symm hk
theorem Hp.Wz{hi:Nat}(H:Hp b S w rs)(s:pE rs (aS τ e A c xs) rest)(h:hi<=xs.length):Hp b S w (aS τ e A c (xs.take hi)::rest):=
  (H.sel s).put (r':=aS τ e A c (xs.take hi)) ⟨rfl,rfl,rfl,kV _,λ_ _ _=>rfl,kV _⟩ (λg hg=>.inl hg) (Own.take ((H.sel s).ok (aS τ e A c xs) av) h)
theorem Sl.row{x:α}(h:Sl τ S w A c xs)(hx:xs[i]? = some x):∃ cs,τ.R S w x cs/\∀ j u,cs[j]? = some u->w.cell? ((GN A).add (i*τ.k+j))=some u:=(h.rows i x hx).2
theorem Hp.oi{x:α}(H:Hp b S w rs)(s:pE rs (aS τ e A c xs) rest)(hx:xs[i]? = some x):∃ cs,τ.R (Rd b S rs w) w x cs/\∀ j u,cs[j]? = some u->w.cell? ((GN A).add (i*τ.k+j))=some u:=by
  obtain⟨css,hl,hR,hown⟩:=H.ow s;obtain⟨cs,h1,h2⟩:=hR i x hx;have hk:=Vm hl hR;refine⟨cs,h2,λj u hu=>?_⟩
  rcases hown.2 with ⟨hv,hn⟩ | ⟨g,cap,cur,hv,hg,hh,hnc,hcm,hcs,ht⟩
  · have:=aJ hx; omega
  · injection hv with hA hn' hc
    subst hA hc;exact hown.cells (g:=g) Y _ _ (Qd css hk i cs h1 j u hu)
theorem Hp.is{x:α}(H:Hp b S w rs)(s:pE rs (dP τ A c xs) rest)(hx:xs[i]? = some x):∃ cs,τ.R (Rd b S rs w) w x cs/\∀ j u,cs[j]? = some u->w.cell? ((GN A).add (i*τ.k+j))=some u:=(H.s s).row hx
theorem Vp{a:Addr}(h:∃ cs,(Ty.list τ).R S w xs cs/\∀ j u,cs[j]? = some u->w.cell? (a.add (i*1+j))=some u) :
    ∃ B d,w.cell? (a.add (i*1))=some (.slice B xs.length d)/\Sl τ S w B d xs:=by
  obtain⟨cs,⟨B,d,rfl,h2⟩,h3⟩:=h;exact⟨B,d,h3 0 _ Y,h2⟩
theorem GV{a:Addr}(h:∀ j u,cs[j]? = some u->w.cell? (a.add (i*k+j))=some u):∀ j u,cs[j]? = some u->w.cell? ((a.add (i*k)).add j)=some u:=λj u hu=>by rw [fH]; exact h j u hu
theorem Own.aym{x:α}(h:Own τ e lo S w (some ⟨g,0,none⟩) 1 [x]):∃ cs,Bx w g e cs/\τ.R S w x cs:=by
  obtain⟨css,hl,hR,hown⟩:=h;obtain⟨cs,h1,h2⟩:=hR 0 x rfl
  have h3:css=[cs]:=by
    cases css with
    | nil=>simp at hl
    | cons c0 css=>cases css with
      | nil=>simp at h1; rw [h1]
      | cons _ _=>simp at hl
  subst h3;have hk:=τ.len h2
  rcases hown.2 with ⟨hv,_⟩ | ⟨g',cap,cur,hv,hg,hh,hnc,hcm,hcs,ht⟩
  · cases hv
  · injection hv with hA hn' hc
    injection hA with hA
    injection hA with hA
    subst hA hc;refine⟨cs,?_,h2⟩
    have h4:cur.toList=cs:=by
      have h5:cur.toList.length=τ.k:=by simpa using hcs
      have h6:cur.toList.take (1*τ.k)=cs:=by simpa using ht
      rw [iH aj] at h6;exact h6
    unfold Bx;rw [hh,<- h4]
theorem Hp.ayn{σ:Ty β}{e':TypeId}{c':Nat}{ys:List β}{xM:List lH}(H:Hp b S w rs)(s:pE rs (aS τ e A c xs) rest)(s':pE rest (aS σ e' B c' ys) xM)(hg:blk B=some g):blk A≠some g:=
  λh=>(pG.1 (H.sel s).dis).1 (aS σ e' B c' ys) (s'.perm.mem_iff.2 av) g h hg
theorem Hp.raw(H:Hp b S w rs)(s:pE rs (aS τ e A c xs) rest):∃ us:List (Cells τ.k),Own (zy τ.k τ.pos) e b.heap.size No w A c us/\Rel τ (Rd b S rs w) w xs us:=(H.ow s).raw
theorem Hp.back{A':ah}{c':Nat}{vs:List (Cells τ.k)}(H:Hp b S w rs)(s:pE rs (aS τ e A c xs) rest)(hO:Own (zy τ.k τ.pos) e lo S' w' A' c' vs)(hr:Rel τ (Rd b S rs w) w ys vs)(hg:Og w w' (blk A))(hA:∀ g,blk A'=some g->blk A=some g∨w.heap.size<=g):Hp b S w' (aS τ e A' c' ys::rest):=by
  have hsub:∀ g,Rd b S rs w g->Rd b S (aS τ e A c xs::rest) w g:=Rd.perm s.perm;exact(H.sel s).own hg hA (hO.ofRaw ((hr.sub hsub).grown hg (λg hA=>(H.sel s).aeO s0 g hA)))
theorem WH.tk{rk:List lH}(i:Nat)(hi:dh[i]? = some ⟨some d,op,ty,pos,mI,none⟩)(hs:Region.noSelect dh=true)(hf:Region.free .any dh aX i=true)
    (hr:(Region.ready .any dh aX).contains i=true) (he:∀ w',Hp b S w' rk->Ev P n l w' op v) (hd:Nat.blt d n.size=true) (hw:Hp b S w rk) (k:WH P n dh K (λw'=>Hp b S w' rk) fuel (aX.setIfInBounds i true) ((d,v)::l) w) :
    WH P n dh K (λw'=>Hp b S w' rk) (fuel+1) aX l w:=λa ha=>
  wpAnyH_take hi hs hf hr (λ_ _ _ h=>h) (.inl ⟨gH a,λw' hw'=>he w' hw' _ a w' rfl ha (pI w')⟩) hw (k _ (ha.put hd v))
theorem WH.tkg{rk:List lH}(i:Nat){j:Nat}{bW:Bool}(hi:dh[i]? = some ⟨some d,op,ty,pos,mI,some (j,bW)⟩)(hg:guardOf dh l j=some (.bool bW))(hs:Region.noSelect dh=true)(hf:Region.free .any dh aX i=true)
    (hr:(Region.ready .any dh aX).contains i=true) (he:∀ w',Hp b S w' rk->Ev P n l w' op v) (hd:Nat.blt d n.size=true) (hw:Hp b S w rk) (k:WH P n dh K (λw'=>Hp b S w' rk) fuel (aX.setIfInBounds i true) ((d,v)::l) w) :
    WH P n dh K (λw'=>Hp b S w' rk) (fuel+1) aX l w:=λa ha=>
  wpAnyH_take hi hs hf hr (λ_ _ _ h=>h) (.inl ⟨uG hg a ha,λw' hw'=>he w' hw' _ a w' rfl ha (pI w')⟩) hw (k _ (ha.put hd v))
end
end Go.Proofs.YtlhnnmlenkahlaaGreat
