/- Contracts of functions: what each call hands back, and that it leaves all that was there as it was. -/
import Derived.Test.YtlnjmkmhmbijmaaGreatRows
import Derived.Test.YtlnjmkmhmbijmaaGreatPl1
import Derived.Test.YtlnjmkmhmbijmaaGreatM14
import Derived.Test.YtlnjmkmhmbijmaaGreatLibA
set_option maxRecDepth 4000
set_option linter.all false
namespace Go.Proofs.YtlnjmkmhmbijmaaGreat
open Go.RowKit
theorem int_one (x : Int) : ∀ u ∈ [Value.int .i64 x], u.oneCell' = true := by intro u hu; simp only [List.mem_cons, List.not_mem_nil, or_false] at hu; rw [hu]; rfl
def tInt : Ty Int := Ty.flat 1 (fun x => [.int .i64 x]) (by decide) (fun _ => rfl) int_one
instance : Flat tInt := ⟨fun h => h⟩
theorem byte_one (x : BitVec 8) : ∀ u ∈ [Value.int .u8 (x.toNat : Int)], u.oneCell' = true := by intro u hu; simp only [List.mem_cons, List.not_mem_nil, or_false] at hu; rw [hu]; rfl
def tByte : Ty (BitVec 8) := Ty.flat 1 (fun x => [.int .u8 (x.toNat : Int)]) (by decide) (fun _ => rfl) byte_one
instance : Flat tByte := ⟨fun h => h⟩
structure ANode where
  ID : Int
  Rack : Int
  Room : Int
  State : Int
  deriving DecidableEq
def ANode.enc (x : ANode) : List Value := [.int .i64 x.ID, .int .i64 x.Rack, .int .i64 x.Room, .int .i64 x.State]
theorem ANode.enc_one (x : ANode) : ∀ u ∈ x.enc, u.oneCell' = true := by
  intro u hu
  simp only [ANode.enc, List.mem_cons, List.not_mem_nil, or_false] at hu
  rcases hu with rfl | rfl | rfl | rfl <;> rfl
def ANode.wf (x : ANode) : Prop := InI64 x.ID ∧ InI64 x.Rack ∧ InI64 x.Room ∧ InI64 x.State
def tNode : Ty ANode := Ty.flat 4 ANode.enc (by decide) (fun _ => rfl) ANode.enc_one
instance : Flat tNode := ⟨fun h => h⟩
structure ACmd where
  Client : Int
  Seq : Int
  Kind : Int
  A : Int
  B : Int
  C : Int
  deriving DecidableEq
def ACmd.enc (x : ACmd) : List Value := [.int .i64 x.Client, .int .i64 x.Seq, .int .i64 x.Kind, .int .i64 x.A, .int .i64 x.B, .int .i64 x.C]
theorem ACmd.enc_one (x : ACmd) : ∀ u ∈ x.enc, u.oneCell' = true := by
  intro u hu
  simp only [ACmd.enc, List.mem_cons, List.not_mem_nil, or_false] at hu
  rcases hu with rfl | rfl | rfl | rfl | rfl | rfl <;> rfl
def ACmd.wf (x : ACmd) : Prop := InI64 x.Client ∧ InI64 x.Seq ∧ InI64 x.Kind ∧ InI64 x.A ∧ InI64 x.B ∧ InI64 x.C
def tCmd : Ty ACmd := Ty.flat 6 ACmd.enc (by decide) (fun _ => rfl) ACmd.enc_one
instance : Flat tCmd := ⟨fun h => h⟩
structure AEntry where
  Term : Int
  Cmd : ACmd
  deriving DecidableEq
def AEntry.enc (x : AEntry) : List Value := [.int .i64 x.Term, .int .i64 x.Cmd.Client, .int .i64 x.Cmd.Seq, .int .i64 x.Cmd.Kind, .int .i64 x.Cmd.A, .int .i64 x.Cmd.B, .int .i64 x.Cmd.C]
theorem AEntry.enc_one (x : AEntry) : ∀ u ∈ x.enc, u.oneCell' = true := by
  intro u hu
  simp only [AEntry.enc, List.mem_cons, List.not_mem_nil, or_false] at hu
  rcases hu with rfl | rfl | rfl | rfl | rfl | rfl | rfl <;> rfl
def AEntry.wf (x : AEntry) : Prop := InI64 x.Term ∧ x.Cmd.wf
def tEntry : Ty AEntry := Ty.flat 7 AEntry.enc (by decide) (fun _ => rfl) AEntry.enc_one
instance : Flat tEntry := ⟨fun h => h⟩
structure ABallot where
  Term : Int
  Vote : Int
  deriving DecidableEq
def ABallot.enc (x : ABallot) : List Value := [.int .i64 x.Term, .int .i64 x.Vote]
theorem ABallot.enc_one (x : ABallot) : ∀ u ∈ x.enc, u.oneCell' = true := by
  intro u hu
  simp only [ABallot.enc, List.mem_cons, List.not_mem_nil, or_false] at hu
  rcases hu with rfl | rfl <;> rfl
def ABallot.wf (x : ABallot) : Prop := InI64 x.Term ∧ InI64 x.Vote
def tBallot : Ty ABallot := Ty.flat 2 ABallot.enc (by decide) (fun _ => rfl) ABallot.enc_one
instance : Flat tBallot := ⟨fun h => h⟩
structure ALog where
  Base : Int
  BaseTerm : Int
  L : List AEntry
  deriving DecidableEq
def ALog.enc (x : ALog) (B0 : Option Addr) (d0 : Nat) : List Value := [.int .i64 x.Base, .int .i64 x.BaseTerm, .slice B0 x.L.length d0]
theorem ALog.enc_one (x : ALog) (B0 : Option Addr) (d0 : Nat) : ∀ u ∈ x.enc B0 d0, u.oneCell' = true := by
  intro u hu
  simp only [ALog.enc, List.mem_cons, List.not_mem_nil, or_false] at hu
  rcases hu with rfl | rfl | rfl <;> rfl
def ALog.wf (x : ALog) : Prop := InI64 x.Base ∧ InI64 x.BaseTerm ∧ (∀ y ∈ x.L, AEntry.wf y)
def tLog : Ty ALog where
  k := 3
  pos := by decide
  R := fun S w x cs => ∃ (B0 : Option Addr) (d0 : Nat), cs = x.enc B0 d0 ∧ Sl tEntry S w B0 d0 x.L
  len := by rintro S w x cs ⟨B0, d0, rfl, h0⟩; rfl
  one := by rintro S w x cs ⟨B0, d0, rfl, h0⟩; exact ALog.enc_one x B0 d0
  keep := by rintro S w w' x cs m ⟨B0, d0, rfl, h0⟩; exact ⟨B0, d0, rfl, h0.keep m⟩
  sub := by rintro S S' w x cs n ⟨B0, d0, rfl, h0⟩; exact ⟨B0, d0, rfl, h0.sub n⟩
  bd := by rintro S w x cs ⟨B0, d0, rfl, h0⟩; exact ⟨B0, d0, rfl, h0.bd⟩
theorem ALog.op {S : Nat → Prop} {w : World} {a : Addr} {i : Nat} {x : ALog} (h : ∃ cs, tLog.R S w x cs ∧ ∀ j u, cs[j]? = some u → w.cell? (a.add (i * 3 + j)) = some u) :
    ∃ (B0 : Option Addr) (d0 : Nat), (∀ j u, (x.enc B0 d0)[j]? = some u → w.cell? (a.add (i * 3 + j)) = some u) ∧ Sl tEntry S w B0 d0 x.L := by
  obtain ⟨cs, ⟨B0, d0, rfl, h0⟩, h9⟩ := h
  exact ⟨B0, d0, h9, h0⟩
structure AMsg where
  Kind : Int
  From : Int
  To : Int
  Term : Int
  Index : Int
  LogTerm : Int
  Commit : Int
  Yes : Bool
  L : List AEntry
  deriving DecidableEq
def AMsg.enc (x : AMsg) (B0 : Option Addr) (d0 : Nat) : List Value := [.int .i64 x.Kind, .int .i64 x.From, .int .i64 x.To, .int .i64 x.Term, .int .i64 x.Index, .int .i64 x.LogTerm, .int .i64 x.Commit, .bool x.Yes, .slice B0 x.L.length d0]
theorem AMsg.enc_one (x : AMsg) (B0 : Option Addr) (d0 : Nat) : ∀ u ∈ x.enc B0 d0, u.oneCell' = true := by
  intro u hu
  simp only [AMsg.enc, List.mem_cons, List.not_mem_nil, or_false] at hu
  rcases hu with rfl | rfl | rfl | rfl | rfl | rfl | rfl | rfl | rfl <;> rfl
def AMsg.wf (x : AMsg) : Prop := InI64 x.Kind ∧ InI64 x.From ∧ InI64 x.To ∧ InI64 x.Term ∧ InI64 x.Index ∧ InI64 x.LogTerm ∧ InI64 x.Commit ∧ True ∧ (∀ y ∈ x.L, AEntry.wf y)
def tMsg : Ty AMsg where
  k := 9
  pos := by decide
  R := fun S w x cs => ∃ (B0 : Option Addr) (d0 : Nat), cs = x.enc B0 d0 ∧ Sl tEntry S w B0 d0 x.L
  len := by rintro S w x cs ⟨B0, d0, rfl, h0⟩; rfl
  one := by rintro S w x cs ⟨B0, d0, rfl, h0⟩; exact AMsg.enc_one x B0 d0
  keep := by rintro S w w' x cs m ⟨B0, d0, rfl, h0⟩; exact ⟨B0, d0, rfl, h0.keep m⟩
  sub := by rintro S S' w x cs n ⟨B0, d0, rfl, h0⟩; exact ⟨B0, d0, rfl, h0.sub n⟩
  bd := by rintro S w x cs ⟨B0, d0, rfl, h0⟩; exact ⟨B0, d0, rfl, h0.bd⟩
theorem AMsg.op {S : Nat → Prop} {w : World} {a : Addr} {i : Nat} {x : AMsg} (h : ∃ cs, tMsg.R S w x cs ∧ ∀ j u, cs[j]? = some u → w.cell? (a.add (i * 9 + j)) = some u) :
    ∃ (B0 : Option Addr) (d0 : Nat), (∀ j u, (x.enc B0 d0)[j]? = some u → w.cell? (a.add (i * 9 + j)) = some u) ∧ Sl tEntry S w B0 d0 x.L := by
  obtain ⟨cs, ⟨B0, d0, rfl, h0⟩, h9⟩ := h
  exact ⟨B0, d0, h9, h0⟩
structure AFrame where
  Kind : Int
  Body : List (BitVec 8)
  deriving DecidableEq
def AFrame.enc (x : AFrame) (B0 : Option Addr) (d0 : Nat) : List Value := [.int .i64 x.Kind, .slice B0 x.Body.length d0]
theorem AFrame.enc_one (x : AFrame) (B0 : Option Addr) (d0 : Nat) : ∀ u ∈ x.enc B0 d0, u.oneCell' = true := by
  intro u hu
  simp only [AFrame.enc, List.mem_cons, List.not_mem_nil, or_false] at hu
  rcases hu with rfl | rfl <;> rfl
def AFrame.wf (x : AFrame) : Prop := InI64 x.Kind ∧ (∀ y ∈ x.Body, True)
def tFrame : Ty AFrame where
  k := 2
  pos := by decide
  R := fun S w x cs => ∃ (B0 : Option Addr) (d0 : Nat), cs = x.enc B0 d0 ∧ Sl tByte S w B0 d0 x.Body
  len := by rintro S w x cs ⟨B0, d0, rfl, h0⟩; rfl
  one := by rintro S w x cs ⟨B0, d0, rfl, h0⟩; exact AFrame.enc_one x B0 d0
  keep := by rintro S w w' x cs m ⟨B0, d0, rfl, h0⟩; exact ⟨B0, d0, rfl, h0.keep m⟩
  sub := by rintro S S' w x cs n ⟨B0, d0, rfl, h0⟩; exact ⟨B0, d0, rfl, h0.sub n⟩
  bd := by rintro S w x cs ⟨B0, d0, rfl, h0⟩; exact ⟨B0, d0, rfl, h0.bd⟩
theorem AFrame.op {S : Nat → Prop} {w : World} {a : Addr} {i : Nat} {x : AFrame} (h : ∃ cs, tFrame.R S w x cs ∧ ∀ j u, cs[j]? = some u → w.cell? (a.add (i * 2 + j)) = some u) :
    ∃ (B0 : Option Addr) (d0 : Nat), (∀ j u, (x.enc B0 d0)[j]? = some u → w.cell? (a.add (i * 2 + j)) = some u) ∧ Sl tByte S w B0 d0 x.Body := by
  obtain ⟨cs, ⟨B0, d0, rfl, h0⟩, h9⟩ := h
  exact ⟨B0, d0, h9, h0⟩
structure AFields where
  N : List Int
  Data : List (BitVec 8)
  deriving DecidableEq
def AFields.enc (x : AFields) (B0 : Option Addr) (d0 : Nat) (B1 : Option Addr) (d1 : Nat) : List Value := [.slice B0 x.N.length d0, .slice B1 x.Data.length d1]
theorem AFields.enc_one (x : AFields) (B0 : Option Addr) (d0 : Nat) (B1 : Option Addr) (d1 : Nat) : ∀ u ∈ x.enc B0 d0 B1 d1, u.oneCell' = true := by
  intro u hu
  simp only [AFields.enc, List.mem_cons, List.not_mem_nil, or_false] at hu
  rcases hu with rfl | rfl <;> rfl
def AFields.wf (x : AFields) : Prop := (∀ y ∈ x.N, InI64 y) ∧ (∀ y ∈ x.Data, True)
def tFields : Ty AFields where
  k := 2
  pos := by decide
  R := fun S w x cs => ∃ (B0 : Option Addr) (d0 : Nat) (B1 : Option Addr) (d1 : Nat), cs = x.enc B0 d0 B1 d1 ∧ Sl tInt S w B0 d0 x.N ∧ Sl tByte S w B1 d1 x.Data
  len := by rintro S w x cs ⟨B0, d0, B1, d1, rfl, h0, h1⟩; rfl
  one := by rintro S w x cs ⟨B0, d0, B1, d1, rfl, h0, h1⟩; exact AFields.enc_one x B0 d0 B1 d1
  keep := by rintro S w w' x cs m ⟨B0, d0, B1, d1, rfl, h0, h1⟩; exact ⟨B0, d0, B1, d1, rfl, h0.keep m, h1.keep m⟩
  sub := by rintro S S' w x cs n ⟨B0, d0, B1, d1, rfl, h0, h1⟩; exact ⟨B0, d0, B1, d1, rfl, h0.sub n, h1.sub n⟩
  bd := by rintro S w x cs ⟨B0, d0, B1, d1, rfl, h0, h1⟩; exact ⟨B0, d0, B1, d1, rfl, h0.bd, h1.bd⟩
theorem AFields.op {S : Nat → Prop} {w : World} {a : Addr} {i : Nat} {x : AFields} (h : ∃ cs, tFields.R S w x cs ∧ ∀ j u, cs[j]? = some u → w.cell? (a.add (i * 2 + j)) = some u) :
    ∃ (B0 : Option Addr) (d0 : Nat) (B1 : Option Addr) (d1 : Nat), (∀ j u, (x.enc B0 d0 B1 d1)[j]? = some u → w.cell? (a.add (i * 2 + j)) = some u) ∧ Sl tInt S w B0 d0 x.N ∧ Sl tByte S w B1 d1 x.Data := by
  obtain ⟨cs, ⟨B0, d0, B1, d1, rfl, h0, h1⟩, h9⟩ := h
  exact ⟨B0, d0, B1, d1, h9, h0, h1⟩
theorem bs_72_0_  : ∀ w, (Instr.buildSlice 72 0 (List.toArray [])).run Tryz.prog w = .ok (.slice (some ⟨w.heap.size, 0, none⟩) 0 0) (w.alloc (.cells (List.toArray []) 3)) := fun _ => by kernel_rfl
theorem ei_3 : ElemInfo Tryz.prog 3 1 8 := by
  obtain ⟨i, h1, h2, h3, h4⟩ := info_parts (show (Tryz.prog.info? 3).map (fun i => (i.zero, i.size, i.bytes)) = some (some (.int .i64 0), 1, 8) by kernel_rfl)
  exact ⟨i, _, h1, h2, h3, h4, rfl⟩
theorem bs_24_0_  : ∀ w, (Instr.buildSlice 24 0 (List.toArray [])).run Tryz.prog w = .ok (.slice (some ⟨w.heap.size, 0, none⟩) 0 0) (w.alloc (.cells (List.toArray []) 68)) := fun _ => by kernel_rfl
theorem ei_68 : ElemInfo Tryz.prog 68 7 56 := by
  obtain ⟨i, h1, h2, h3, h4⟩ := info_parts (show (Tryz.prog.info? 68).map (fun i => (i.zero, i.size, i.bytes)) = some (some (.agg #[.int .i64 0, .int .i64 0, .int .i64 0, .int .i64 0, .int .i64 0, .int .i64 0, .int .i64 0]), 7, 56) by kernel_rfl)
  exact ⟨i, _, h1, h2, h3, h4, rfl⟩
theorem cv_270_5 : (Tryz.prog.underlying 270).isSome = true ∧ Tryz.prog.underlying 5 = some (.int (Tryz.prog.intKind 5)) ∧ Tryz.prog.intKind 5 = .u8 := ⟨by kernel_rfl, by kernel_rfl, by kernel_rfl⟩
theorem cv_5_3 : (Tryz.prog.underlying 5).isSome = true ∧ Tryz.prog.underlying 3 = some (.int (Tryz.prog.intKind 3)) ∧ Tryz.prog.intKind 3 = .i64 := ⟨by kernel_rfl, by kernel_rfl, by kernel_rfl⟩
theorem cl_181 : Callable Tryz.prog 181 := fun _ _ => by kernel_rfl
theorem CloneInt_ok {S0 : Nat → Prop} (w : World) {A_s : Option Addr} {c_s : Nat} {s : List Int} (h_s : Sl tInt S0 w A_s c_s s) (hn : s.length ≤ 1000000) :
    Rets Tryz.prog 147 #[.slice A_s s.length c_s] w fun v w' => ∃ (A0 : Option Addr) (c0 : Nat), v = .slice A0 s.length c0 ∧ Hp w S0 w' [rOwn tInt 3 A0 c0 s] := by
 refine WP.enter Tryz.func147 rfl Tryz.ntmps147 rfl ?_
 have H0 := Hp.init w S0
 have hb_s := h_s.len_le
 refine rg <| as_ rfl <| dn <| WP.seq <| rg <| mv rfl <| ev (Ev.eqnil Tryz.underlying72 rfl rfl) <| dn ?_
 refine WP.cond_end rfl (fun hc4 => ?_) (fun hc4 => ?_)
 ·
  refine rg <| as_ rfl <| dn ?_
  refine WP.ret (Pst.then_ret (Pst.body_ret rfl rfl rfl ?_))
  have H1 := H0.nil tInt 3
  have hq1 : (([] : List Int) : List Int) = s := by have h1 := h_s.nil (by simpa using hc4); have h2 := h_s.cap; exact (List.eq_nil_of_length_eq_zero (by omega)).symm
  have H2 := (hq1 ▸ H1 : Hp w S0 w (rOwn tInt 3 none 0 s :: []))
  exact ⟨none, 0, by rw [← hq1] <;> rfl, H2⟩
 refine WP.skip (Pst.norm ?_)
 refine rg ?_
 refine bs0 (τ := tInt) (vs := []) rfl (by intro _; apply bs_72_0_) rfl H0 fun g1 w1 K1 => ?_
 refine mv rfl ?_
 refine ap (ys := s) K1 s0 rfl rfl (K1.a h_s).any Tryz.underlying72 ei_3 (by simp) (by first | omega | (simp; omega) | (simp; done)) rfl fun Ap1 cp1 w2 K2 => ?_
 refine as_ rfl <| dn ?_
 refine WP.ret (Pst.body_ret rfl rfl rfl ?_)
 have hq2 : ((([] : List Int) ++ s) : List Int) = s := by simp
 rw [hq2] at K2
 exact ⟨Ap1, cp1, by rw [hq2] <;> rfl, K2⟩

theorem CloneEntry_ok {S0 : Nat → Prop} (w : World) {A_s : Option Addr} {c_s : Nat} {s : List AEntry} (h_s : Sl tEntry S0 w A_s c_s s) (hn : s.length ≤ 1000000) :
    Rets Tryz.prog 25 #[.slice A_s s.length c_s] w fun v w' => ∃ (A0 : Option Addr) (c0 : Nat), v = .slice A0 s.length c0 ∧ Hp w S0 w' [rOwn tEntry 68 A0 c0 s] := by
 refine WP.enter Tryz.func25 rfl Tryz.ntmps25 rfl ?_
 have H0 := Hp.init w S0
 have hb_s := h_s.len_le
 refine rg <| as_ rfl <| dn <| WP.seq <| rg <| mv rfl <| ev (Ev.eqnil Tryz.underlying24 rfl rfl) <| dn ?_
 refine WP.cond_end rfl (fun hc4 => ?_) (fun hc4 => ?_)
 ·
  refine rg <| as_ rfl <| dn ?_
  refine WP.ret (Pst.then_ret (Pst.body_ret rfl rfl rfl ?_))
  have H1 := H0.nil tEntry 68
  have hq1 : (([] : List AEntry) : List AEntry) = s := by have h1 := h_s.nil (by simpa using hc4); have h2 := h_s.cap; exact (List.eq_nil_of_length_eq_zero (by omega)).symm
  have H2 := (hq1 ▸ H1 : Hp w S0 w (rOwn tEntry 68 none 0 s :: []))
  exact ⟨none, 0, by rw [← hq1] <;> rfl, H2⟩
 refine WP.skip (Pst.norm ?_)
 refine rg ?_
 refine bs0 (τ := tEntry) (vs := []) rfl (by intro _; apply bs_24_0_) rfl H0 fun g1 w1 K1 => ?_
 refine mv rfl ?_
 refine ap (ys := s) K1 s0 rfl rfl (K1.a h_s).any Tryz.underlying24 ei_68 (by simp) (by first | omega | (simp; omega) | (simp; done)) rfl fun Ap1 cp1 w2 K2 => ?_
 refine as_ rfl <| dn ?_
 refine WP.ret (Pst.body_ret rfl rfl rfl ?_)
 have hq2 : ((([] : List AEntry) ++ s) : List AEntry) = s := by simp
 rw [hq2] at K2
 exact ⟨Ap1, cp1, by rw [hq2] <;> rfl, K2⟩

theorem Len64_ok {S0 : Nat → Prop} (w : World) (x : Nat) (hx : x < 2 ^ 64) :
    Rets Tryz.prog 181 #[.int .u64 ((x : Nat) : Int)] w fun v w' => v = .int .i64 ((bitLen x : Nat) : Int) ∧ Hp w S0 w' [] := by
 refine WP.enter Tryz.func181 rfl Tryz.ntmps181 rfl ?_
 have H0 := Hp.init w S0
 refine rg <| as_ rfl <| dn <| WP.seq <| rg <| mv rfl <| ev (Ev.geq rfl rfl) <| dn ?_
 refine WP.cond_end rfl (fun hc4 => ?_) (fun hc4 => ?_)
 ·
  replace hc4 := of_decide_eq_true hc4
  refine rg <| mv rfl <| ev (Ev.shrU (m := x) (c := 32) rfl rfl rfl) <| as_ rfl <| dn <| rge <| as_ rfl <| dne <| Pst.norm <| WP.seq <| rg <| mv rfl <| ev (Ev.geq rfl rfl) ?_
  refine dn ?_
  refine WP.cond_end rfl (fun hc8 => ?_) (fun hc8 => ?_)
  ·
   replace hc8 := of_decide_eq_true hc8
   refine rg <| mv rfl <| ev (Ev.shrU (m := x / 2 ^ 32) (c := 16) rfl rfl rfl) <| as_ rfl <| dn <| rge <| mv rfl <| ev (Ev.add rfl rfl (I64.mk (by omega) (by omega))) ?_
   refine as_ rfl <| dne <| Pst.norm <| WP.seq <| rg <| mv rfl <| ev (Ev.geq rfl rfl) <| dn ?_
   refine WP.cond_end rfl (fun hc14 => ?_) (fun hc14 => ?_)
   ·
    replace hc14 := of_decide_eq_true hc14
    refine rg <| mv rfl <| ev (Ev.shrU (m := (x / 2 ^ 32) / 2 ^ 16) (c := 8) rfl rfl rfl) <| as_ rfl <| dn <| rge <| mv rfl <| ev (Ev.add rfl rfl (I64.mk (by omega) (by omega))) ?_
    refine as_ rfl <| dne <| Pst.norm ?_
    have hb10 := bitLen_le8 (((x / 2 ^ 32) / 2 ^ 16) / 2 ^ 8) (by omega)
    refine rg <| mv rfl <| mv rfl <| ev (Ev.convNat (m := ((x / 2 ^ 32) / 2 ^ 16) / 2 ^ 8) cv_270_5.1 cv_270_5.2.1 cv_270_5.2.2 rfl (wrap_nat_u8 (by omega))) <| ev (Ev.len8 (m := ((x / 2 ^ 32) / 2 ^ 16) / 2 ^ 8) Tryz.underlying9 rfl rfl (by omega)) ?_
    refine ev (Ev.convNat (m := bitLen (((x / 2 ^ 32) / 2 ^ 16) / 2 ^ 8)) cv_5_3.1 cv_5_3.2.1 cv_5_3.2.2 rfl (wrap_nat_i64 (by omega))) <| ev (Ev.add rfl rfl (I64.mk (by omega) (by omega))) ?_
    refine as_ rfl <| dn ?_
    refine WP.ret (Pst.body_ret rfl rfl rfl ?_)
    exact ⟨congrArg (Value.int .i64) (by rw [bitLen_shift (x) 32 (by omega)]; rw [bitLen_shift (x / 2 ^ 32) 16 (by omega)]; rw [bitLen_shift ((x / 2 ^ 32) / 2 ^ 16) 8 (by omega)]; omega), H0⟩
   replace hc14 := of_decide_eq_false hc14
   refine WP.skip (Pst.norm ?_)
   have hb10 := bitLen_le8 ((x / 2 ^ 32) / 2 ^ 16) (by omega)
   refine rg <| mv rfl <| mv rfl <| ev (Ev.convNat (m := (x / 2 ^ 32) / 2 ^ 16) cv_270_5.1 cv_270_5.2.1 cv_270_5.2.2 rfl (wrap_nat_u8 (by omega))) <| ev (Ev.len8 (m := (x / 2 ^ 32) / 2 ^ 16) Tryz.underlying9 rfl rfl (by omega)) ?_
   refine ev (Ev.convNat (m := bitLen ((x / 2 ^ 32) / 2 ^ 16)) cv_5_3.1 cv_5_3.2.1 cv_5_3.2.2 rfl (wrap_nat_i64 (by omega))) <| ev (Ev.add rfl rfl (I64.mk (by omega) (by omega))) ?_
   refine as_ rfl <| dn ?_
   refine WP.ret (Pst.body_ret rfl rfl rfl ?_)
   exact ⟨congrArg (Value.int .i64) (by rw [bitLen_shift (x) 32 (by omega)]; rw [bitLen_shift (x / 2 ^ 32) 16 (by omega)]; omega), H0⟩
  replace hc8 := of_decide_eq_false hc8
  refine WP.skip (Pst.norm ?_)
  refine WP.seq <| rg <| mv rfl <| ev (Ev.geq rfl rfl) <| dn ?_
  refine WP.cond_end rfl (fun hc14 => ?_) (fun hc14 => ?_)
  ·
   replace hc14 := of_decide_eq_true hc14
   refine rg <| mv rfl <| ev (Ev.shrU (m := x / 2 ^ 32) (c := 8) rfl rfl rfl) <| as_ rfl <| dn <| rge <| mv rfl <| ev (Ev.add rfl rfl (I64.mk (by omega) (by omega))) ?_
   refine as_ rfl <| dne <| Pst.norm ?_
   have hb10 := bitLen_le8 ((x / 2 ^ 32) / 2 ^ 8) (by omega)
   refine rg <| mv rfl <| mv rfl <| ev (Ev.convNat (m := (x / 2 ^ 32) / 2 ^ 8) cv_270_5.1 cv_270_5.2.1 cv_270_5.2.2 rfl (wrap_nat_u8 (by omega))) <| ev (Ev.len8 (m := (x / 2 ^ 32) / 2 ^ 8) Tryz.underlying9 rfl rfl (by omega)) ?_
   refine ev (Ev.convNat (m := bitLen ((x / 2 ^ 32) / 2 ^ 8)) cv_5_3.1 cv_5_3.2.1 cv_5_3.2.2 rfl (wrap_nat_i64 (by omega))) <| ev (Ev.add rfl rfl (I64.mk (by omega) (by omega))) ?_
   refine as_ rfl <| dn ?_
   refine WP.ret (Pst.body_ret rfl rfl rfl ?_)
   exact ⟨congrArg (Value.int .i64) (by rw [bitLen_shift (x) 32 (by omega)]; rw [bitLen_shift (x / 2 ^ 32) 8 (by omega)]; omega), H0⟩
  replace hc14 := of_decide_eq_false hc14
  refine WP.skip (Pst.norm ?_)
  have hb10 := bitLen_le8 (x / 2 ^ 32) (by omega)
  refine rg <| mv rfl <| mv rfl <| ev (Ev.convNat (m := x / 2 ^ 32) cv_270_5.1 cv_270_5.2.1 cv_270_5.2.2 rfl (wrap_nat_u8 (by omega))) <| ev (Ev.len8 (m := x / 2 ^ 32) Tryz.underlying9 rfl rfl (by omega)) ?_
  refine ev (Ev.convNat (m := bitLen (x / 2 ^ 32)) cv_5_3.1 cv_5_3.2.1 cv_5_3.2.2 rfl (wrap_nat_i64 (by omega))) <| ev (Ev.add rfl rfl (I64.mk (by omega) (by omega))) ?_
  refine as_ rfl <| dn ?_
  refine WP.ret (Pst.body_ret rfl rfl rfl ?_)
  exact ⟨congrArg (Value.int .i64) (by rw [bitLen_shift (x) 32 (by omega)]; omega), H0⟩
 replace hc4 := of_decide_eq_false hc4
 refine WP.skip (Pst.norm ?_)
 refine WP.seq <| rg <| mv rfl <| ev (Ev.geq rfl rfl) <| dn ?_
 refine WP.cond_end rfl (fun hc8 => ?_) (fun hc8 => ?_)
 ·
  replace hc8 := of_decide_eq_true hc8
  refine rg <| mv rfl <| ev (Ev.shrU (m := x) (c := 16) rfl rfl rfl) <| as_ rfl <| dn <| rge <| mv rfl <| ev (Ev.add rfl rfl (I64.mk (by omega) (by omega))) <| as_ rfl ?_
  refine dne <| Pst.norm <| WP.seq <| rg <| mv rfl <| ev (Ev.geq rfl rfl) <| dn ?_
  refine WP.cond_end rfl (fun hc14 => ?_) (fun hc14 => ?_)
  ·
   replace hc14 := of_decide_eq_true hc14
   refine rg <| mv rfl <| ev (Ev.shrU (m := x / 2 ^ 16) (c := 8) rfl rfl rfl) <| as_ rfl <| dn <| rge <| mv rfl <| ev (Ev.add rfl rfl (I64.mk (by omega) (by omega))) ?_
   refine as_ rfl <| dne <| Pst.norm ?_
   have hb10 := bitLen_le8 ((x / 2 ^ 16) / 2 ^ 8) (by omega)
   refine rg <| mv rfl <| mv rfl <| ev (Ev.convNat (m := (x / 2 ^ 16) / 2 ^ 8) cv_270_5.1 cv_270_5.2.1 cv_270_5.2.2 rfl (wrap_nat_u8 (by omega))) <| ev (Ev.len8 (m := (x / 2 ^ 16) / 2 ^ 8) Tryz.underlying9 rfl rfl (by omega)) ?_
   refine ev (Ev.convNat (m := bitLen ((x / 2 ^ 16) / 2 ^ 8)) cv_5_3.1 cv_5_3.2.1 cv_5_3.2.2 rfl (wrap_nat_i64 (by omega))) <| ev (Ev.add rfl rfl (I64.mk (by omega) (by omega))) ?_
   refine as_ rfl <| dn ?_
   refine WP.ret (Pst.body_ret rfl rfl rfl ?_)
   exact ⟨congrArg (Value.int .i64) (by rw [bitLen_shift (x) 16 (by omega)]; rw [bitLen_shift (x / 2 ^ 16) 8 (by omega)]; omega), H0⟩
  replace hc14 := of_decide_eq_false hc14
  refine WP.skip (Pst.norm ?_)
  have hb10 := bitLen_le8 (x / 2 ^ 16) (by omega)
  refine rg <| mv rfl <| mv rfl <| ev (Ev.convNat (m := x / 2 ^ 16) cv_270_5.1 cv_270_5.2.1 cv_270_5.2.2 rfl (wrap_nat_u8 (by omega))) <| ev (Ev.len8 (m := x / 2 ^ 16) Tryz.underlying9 rfl rfl (by omega)) ?_
  refine ev (Ev.convNat (m := bitLen (x / 2 ^ 16)) cv_5_3.1 cv_5_3.2.1 cv_5_3.2.2 rfl (wrap_nat_i64 (by omega))) <| ev (Ev.add rfl rfl (I64.mk (by omega) (by omega))) ?_
  refine as_ rfl <| dn ?_
  refine WP.ret (Pst.body_ret rfl rfl rfl ?_)
  exact ⟨congrArg (Value.int .i64) (by rw [bitLen_shift (x) 16 (by omega)]; omega), H0⟩
 replace hc8 := of_decide_eq_false hc8
 refine WP.skip (Pst.norm ?_)
 refine WP.seq <| rg <| mv rfl <| ev (Ev.geq rfl rfl) <| dn ?_
 refine WP.cond_end rfl (fun hc14 => ?_) (fun hc14 => ?_)
 ·
  replace hc14 := of_decide_eq_true hc14
  refine rg <| mv rfl <| ev (Ev.shrU (m := x) (c := 8) rfl rfl rfl) <| as_ rfl <| dn <| rge <| mv rfl <| ev (Ev.add rfl rfl (I64.mk (by omega) (by omega))) <| as_ rfl ?_
  refine dne <| Pst.norm ?_
  have hb10 := bitLen_le8 (x / 2 ^ 8) (by omega)
  refine rg <| mv rfl <| mv rfl <| ev (Ev.convNat (m := x / 2 ^ 8) cv_270_5.1 cv_270_5.2.1 cv_270_5.2.2 rfl (wrap_nat_u8 (by omega))) <| ev (Ev.len8 (m := x / 2 ^ 8) Tryz.underlying9 rfl rfl (by omega)) ?_
  refine ev (Ev.convNat (m := bitLen (x / 2 ^ 8)) cv_5_3.1 cv_5_3.2.1 cv_5_3.2.2 rfl (wrap_nat_i64 (by omega))) <| ev (Ev.add rfl rfl (I64.mk (by omega) (by omega))) ?_
  refine as_ rfl <| dn ?_
  refine WP.ret (Pst.body_ret rfl rfl rfl ?_)
  exact ⟨congrArg (Value.int .i64) (by rw [bitLen_shift (x) 8 (by omega)]; omega), H0⟩
 replace hc14 := of_decide_eq_false hc14
 refine WP.skip (Pst.norm ?_)
 have hb10 := bitLen_le8 (x) (by omega)
 refine rg <| mv rfl <| mv rfl <| ev (Ev.convNat (m := x) cv_270_5.1 cv_270_5.2.1 cv_270_5.2.2 rfl (wrap_nat_u8 (by omega))) <| ev (Ev.len8 (m := x) Tryz.underlying9 rfl rfl (by omega)) ?_
 refine ev (Ev.convNat (m := bitLen x) cv_5_3.1 cv_5_3.2.1 cv_5_3.2.2 rfl (wrap_nat_i64 (by omega))) <| ev (Ev.add rfl rfl (I64.mk (by omega) (by omega))) <| as_ rfl ?_
 refine dn ?_
 refine WP.ret (Pst.body_ret rfl rfl rfl ?_)
 exact ⟨congrArg (Value.int .i64) (by omega), H0⟩

theorem Len_ok {S0 : Nat → Prop} (w : World) (x : Nat) (hx : x < 2 ^ 64) :
    Rets Tryz.prog 119 #[.int .u64 ((x : Nat) : Int)] w fun v w' => v = .int .i64 ((bitLen x : Nat) : Int) ∧ Hp w S0 w' [] := by
 refine WP.enter Tryz.func119 rfl Tryz.ntmps119 rfl ?_
 have H0 := Hp.init w S0
 refine rg <| as_ rfl <| dn ?_
 refine WP.cond rfl (fun _h => absurd _h (by decide)) (fun _h => ?_)
 refine WP.skip (Pst.norm ?_)
 refine rg <| mv rfl ?_
 refine C0 H0 rfl rfl rfl cl_181 (Len64_ok (S0 := Any) _ x (by omega)) fun w1 K1 => ?_
 refine as_ rfl <| dn ?_
 refine WP.ret (Pst.body_ret rfl rfl rfl ?_)
 exact ⟨rfl, K1⟩

end Go.Proofs.YtlnjmkmhmbijmaaGreat
