/- Contracts of functions: what each call hands back, and that it leaves all that was there as it was. -/
import Derived.Test.YtlnjmkmhmbijmaaGreatRed
set_option maxRecDepth 4000
set_option linter.all false
namespace Go.Proofs.YtlnjmkmhmbijmaaGreat
open Go.RowKit

theorem zero_48 : ∀ w, (zeroValue 48).run Tryz.prog w = .ok (.agg #[.int .i64 0, .int .i64 0, .int .i64 0, .int .i64 0, .int .i64 0, .int .i64 0]) w := fun _ => by kernel_rfl
theorem bl_48_0I_1I_2I_3I_4I_5I (a0 : Int) (a1 : Int) (a2 : Int) (a3 : Int) (a4 : Int) (a5 : Int) : Tryz.prog.built 48 [(0, .int .i64 a0), (1, .int .i64 a1), (2, .int .i64 a2), (3, .int .i64 a3), (4, .int .i64 a4), (5, .int .i64 a5)] = some #[.int .i64 a0, .int .i64 a1, .int .i64 a2, .int .i64 a3, .int .i64 a4, .int .i64 a5] := by kernel_rfl
theorem sz_48 : Size Tryz.prog 48 6 := fun _ => by kernel_rfl
theorem ag_48 : Agg Tryz.prog 48 6 := ⟨fun _ => by kernel_rfl, sz_48⟩
theorem cl_12 : Callable Tryz.prog 12 := fun _ _ => by kernel_rfl
theorem fa_48_0 : FieldAt Tryz.prog 48 0 0 := fun _ _ => by kernel_rfl
theorem cl_68 : Callable Tryz.prog 68 := fun _ _ => by kernel_rfl
theorem fa_48_4 : FieldAt Tryz.prog 48 4 4 := fun _ _ => by kernel_rfl
theorem fa_48_1 : FieldAt Tryz.prog 48 1 1 := fun _ _ => by kernel_rfl
theorem fa_48_2 : FieldAt Tryz.prog 48 2 2 := fun _ _ => by kernel_rfl
theorem fa_48_3 : FieldAt Tryz.prog 48 3 3 := fun _ _ => by kernel_rfl
theorem fa_48_5 : FieldAt Tryz.prog 48 5 5 := fun _ _ => by kernel_rfl
theorem cl_29 : Callable Tryz.prog 29 := fun _ _ => by kernel_rfl
theorem bl_93_2A_4R (a0_0 : Int) (a0_1 : Int) (a0_2 : Int) (a0_3 : Int) (a0_4 : Int) (a0_5 : Int) (a1 : Option Nat) : Tryz.prog.built 93 [(2, .agg #[.int .i64 a0_0, .int .i64 a0_1, .int .i64 a0_2, .int .i64 a0_3, .int .i64 a0_4, .int .i64 a0_5]), (4, .map a1)] = some #[.slice none 0 0, .slice none 0 0, .slice none 0 0, .slice none 0 0, .slice none 0 0, .slice none 0 0, .int .i64 a0_0, .int .i64 a0_1, .int .i64 a0_2, .int .i64 a0_3, .int .i64 a0_4, .int .i64 a0_5, .int .i64 0, .map a1, .slice none 0 0] := by kernel_rfl
theorem cl_11 : Callable Tryz.prog 11 := fun _ _ => by kernel_rfl
theorem mk_94_1 : ∀ w, (Instr.makeSlice 94 (.int .i64 1) (.int .i64 1)).run Tryz.prog w = .ok (.slice (some ⟨w.heap.size, 0, none⟩) 1 1) (w.alloc (.cells (List.toArray [.pointer none, .pointer none]) 100)) := fun w => by
  obtain ⟨i, h1, h2, h3, h4⟩ := info_parts (show (Tryz.prog.info? 100).map (fun i => (i.zero, i.size, i.bytes)) = some (some (.agg #[.pointer none, .pointer none]), 2, 16) by kernel_rfl)
  have h := run_make (P := Tryz.prog) w 94 100 i _ Tryz.underlying94 h1 h2 .i64 .i64 1 1 (by decide) (Int.le_refl _) (by rw [h4]; decide) (by decide)
  rw [h3, show madeCells (Value.cells (.agg #[.pointer none, .pointer none])) (Int.toNat 1 * 2) = List.toArray [.pointer none, .pointer none] by kernel_rfl] at h
  exact h
theorem bl_97_0R (a0 : Option Addr) (a0n a0c : Nat) : Tryz.prog.built 97 [(0, .slice a0 a0n a0c)] = some #[.slice a0 a0n a0c, .slice none 0 0] := by kernel_rfl
theorem fa_97_0 : FieldAt Tryz.prog 97 0 0 := fun _ _ => by kernel_rfl
theorem na_94 : NotAgg Tryz.prog 94 := fun _ => by kernel_rfl
theorem cl_5 : Callable Tryz.prog 5 := fun _ _ => by kernel_rfl
theorem sz_100 : Size Tryz.prog 100 2 := fun _ => by kernel_rfl
theorem fa_100_1 : FieldAt Tryz.prog 100 1 1 := fun _ _ => by kernel_rfl
theorem sz_28 : Size Tryz.prog 28 1 := fun _ => by kernel_rfl
theorem cl_47 : Callable Tryz.prog 47 := fun _ _ => by kernel_rfl
theorem na_28 : NotAgg Tryz.prog 28 := fun _ => by kernel_rfl
theorem cl_69 : Callable Tryz.prog 69 := fun _ _ => by kernel_rfl
theorem cl_174 : Callable Tryz.prog 174 := fun _ _ => by kernel_rfl
theorem cl_175 : Callable Tryz.prog 175 := fun _ _ => by kernel_rfl
theorem cl_104 : Callable Tryz.prog 104 := fun _ _ => by kernel_rfl
theorem mk_176_1 : ∀ w, (Instr.makeSlice 176 (.int .i64 1) (.int .i64 1)).run Tryz.prog w = .ok (.slice (some ⟨w.heap.size, 0, none⟩) 1 1) (w.alloc (.cells (List.toArray [.int .i64 0, .int .i64 0]) 258)) := fun w => by
  obtain ⟨i, h1, h2, h3, h4⟩ := info_parts (show (Tryz.prog.info? 258).map (fun i => (i.zero, i.size, i.bytes)) = some (some (.agg #[.int .i64 0, .int .i64 0]), 2, 16) by kernel_rfl)
  have h := run_make (P := Tryz.prog) w 176 258 i _ Tryz.underlying176 h1 h2 .i64 .i64 1 1 (by decide) (Int.le_refl _) (by rw [h4]; decide) (by decide)
  rw [h3, show madeCells (Value.cells (.agg #[.int .i64 0, .int .i64 0])) (Int.toNat 1 * 2) = List.toArray [.int .i64 0, .int .i64 0] by kernel_rfl] at h
  exact h
theorem bl_178_0I_1A_2A_5R_6R (a0 : Int) (a1_0 : Int) (a1_1 : Int) (a2_0 : Int) (a2_1 : Int) (a2_2 : Option Addr) (a2_2n a2_2c : Nat) (a3 : Option Nat) (a4 : Option Addr) (a4n a4c : Nat) : Tryz.prog.built 178 [(0, .int .i64 a0), (1, .agg #[.int .i64 a1_0, .int .i64 a1_1]), (2, .agg #[.int .i64 a2_0, .int .i64 a2_1, .slice a2_2 a2_2n a2_2c]), (5, .map a3), (6, .slice a4 a4n a4c)] = some #[.int .i64 a0, .int .i64 a1_0, .int .i64 a1_1, .int .i64 a2_0, .int .i64 a2_1, .slice a2_2 a2_2n a2_2c, .int .i64 0, .int .i64 0, .map a3, .slice a4 a4n a4c] := by kernel_rfl
theorem cl_70 : Callable Tryz.prog 70 := fun _ _ => by kernel_rfl
theorem fa_100_0 : FieldAt Tryz.prog 100 0 0 := fun _ _ => by kernel_rfl
theorem sz_98 : Size Tryz.prog 98 1 := fun _ => by kernel_rfl
theorem cl_30 : Callable Tryz.prog 30 := fun _ _ => by kernel_rfl
theorem cl_13 : Callable Tryz.prog 13 := fun _ _ => by kernel_rfl
theorem bl_55_0I_1I_2I_3I (a0 : Int) (a1 : Int) (a2 : Int) (a3 : Int) : Tryz.prog.built 55 [(0, .int .i64 a0), (1, .int .i64 a1), (2, .int .i64 a2), (3, .int .i64 a3)] = some #[.int .i64 a0, .int .i64 a1, .int .i64 a2, .int .i64 a3] := by kernel_rfl
theorem cl_37 : Callable Tryz.prog 37 := fun _ _ => by kernel_rfl
theorem fa_55_0 : FieldAt Tryz.prog 55 0 0 := fun _ _ => by kernel_rfl
theorem sz_55 : Size Tryz.prog 55 4 := fun _ => by kernel_rfl
theorem ag_55 : Agg Tryz.prog 55 4 := ⟨fun _ => by kernel_rfl, sz_55⟩
theorem fa_55_1 : FieldAt Tryz.prog 55 1 1 := fun _ _ => by kernel_rfl
theorem fa_55_2 : FieldAt Tryz.prog 55 2 2 := fun _ _ => by kernel_rfl
theorem fa_55_3 : FieldAt Tryz.prog 55 3 3 := fun _ _ => by kernel_rfl
theorem bl_66_2I_3I_4I_5I (a0 : Int) (a1 : Int) (a2 : Int) (a3 : Int) : Tryz.prog.built 66 [(2, .int .i64 a0), (3, .int .i64 a1), (4, .int .i64 a2), (5, .int .i64 a3)] = some #[.int .i64 0, .int .i64 0, .int .i64 a0, .int .i64 a1, .int .i64 a2, .int .i64 a3] := by kernel_rfl
theorem fa_93_0 : FieldAt Tryz.prog 93 0 0 := fun _ _ => by kernel_rfl
theorem sz_86 : Size Tryz.prog 86 3 := fun _ => by kernel_rfl
theorem ag_86 : Agg Tryz.prog 86 3 := ⟨fun _ => by kernel_rfl, sz_86⟩
theorem zero_86 : ∀ w, (zeroValue 86).run Tryz.prog w = .ok (.agg #[.slice none 0 0, .slice none 0 0, .slice none 0 0]) w := fun _ => by kernel_rfl
theorem fa_86_0 : FieldAt Tryz.prog 86 0 0 := fun _ _ => by kernel_rfl
theorem na_82 : NotAgg Tryz.prog 82 := fun _ => by kernel_rfl
theorem cl_212 : Callable Tryz.prog 212 := fun _ _ => by kernel_rfl
theorem fa_86_1 : FieldAt Tryz.prog 86 1 1 := fun _ _ => by kernel_rfl
theorem na_83 : NotAgg Tryz.prog 83 := fun _ => by kernel_rfl
theorem cl_187 : Callable Tryz.prog 187 := fun _ _ => by kernel_rfl
theorem fa_86_2 : FieldAt Tryz.prog 86 2 2 := fun _ _ => by kernel_rfl
theorem na_84 : NotAgg Tryz.prog 84 := fun _ => by kernel_rfl
theorem cl_213 : Callable Tryz.prog 213 := fun _ _ => by kernel_rfl
theorem sz_82 : Size Tryz.prog 82 1 := fun _ => by kernel_rfl
theorem sz_83 : Size Tryz.prog 83 1 := fun _ => by kernel_rfl
theorem sz_84 : Size Tryz.prog 84 1 := fun _ => by kernel_rfl
theorem cl_141 : Callable Tryz.prog 141 := fun _ _ => by kernel_rfl
theorem zero_56 : ∀ w, (zeroValue 56).run Tryz.prog w = .ok (.nilFunc) w := fun _ => by kernel_rfl
theorem sz_56 : Size Tryz.prog 56 1 := fun _ => by kernel_rfl
theorem cl_152 : Callable Tryz.prog 152 := fun _ _ => by kernel_rfl
theorem cl_183 : Callable Tryz.prog 183 := fun _ _ => by kernel_rfl
theorem cl_125 : Callable Tryz.prog 125 := fun _ _ => by kernel_rfl
theorem cl_217 : Callable Tryz.prog 217 := fun _ _ => by kernel_rfl
theorem cl_277 : Callable Tryz.prog 277 := fun _ _ => by kernel_rfl
theorem cl_218 : Callable Tryz.prog 218 := fun _ _ => by kernel_rfl
theorem cl_142 : Callable Tryz.prog 142 := fun _ _ => by kernel_rfl
theorem bl_320_0A (a0_0 : Option Addr) (a0_0n a0_0c : Nat) (a0_1 : Option Addr) (a0_1n a0_1c : Nat) (a0_2 : Option Addr) (a0_2n a0_2c : Nat) : Tryz.prog.built 320 [(0, .agg #[.slice a0_0 a0_0n a0_0c, .slice a0_1 a0_1n a0_1c, .slice a0_2 a0_2n a0_2c])] = some #[.slice a0_0 a0_0n a0_0c, .slice a0_1 a0_1n a0_1c, .slice a0_2 a0_2n a0_2c, .int .i64 0, .int .i64 0] := by kernel_rfl
theorem cl_219 : Callable Tryz.prog 219 := fun _ _ => by kernel_rfl
theorem fa_320_0 : FieldAt Tryz.prog 320 0 0 := fun _ _ => by kernel_rfl
theorem bl_240_0I_1I_2I (a0 : Int) (a1 : Int) (a2 : Int) : Tryz.prog.built 240 [(0, .int .i64 a0), (1, .int .i64 a1), (2, .int .i64 a2)] = some #[.int .i64 a0, .int .i64 a1, .int .i64 a2, .int .i64 0] := by kernel_rfl
theorem cl_320 : Callable Tryz.prog 320 := fun _ _ => by kernel_rfl
theorem fa_240_0 : FieldAt Tryz.prog 240 0 0 := fun _ _ => by kernel_rfl
theorem cl_359 : Callable Tryz.prog 359 := fun _ _ => by kernel_rfl
theorem cl_321 : Callable Tryz.prog 321 := fun _ _ => by kernel_rfl
theorem sz_240 : Size Tryz.prog 240 4 := fun _ => by kernel_rfl
theorem ag_240 : Agg Tryz.prog 240 4 := ⟨fun _ => by kernel_rfl, sz_240⟩
theorem cl_302 : Callable Tryz.prog 302 := fun _ _ => by kernel_rfl
theorem fa_240_1 : FieldAt Tryz.prog 240 1 1 := fun _ _ => by kernel_rfl
theorem fa_240_2 : FieldAt Tryz.prog 240 2 2 := fun _ _ => by kernel_rfl
theorem fa_240_3 : FieldAt Tryz.prog 240 3 3 := fun _ _ => by kernel_rfl
theorem cl_234 : Callable Tryz.prog 234 := fun _ _ => by kernel_rfl
theorem bs_82_1_IIII (a0 : Int) (a1 : Int) (a2 : Int) (a3 : Int) : ∀ w, (Instr.buildSlice 82 1 (List.toArray [(0, .agg #[.int .i64 a0, .int .i64 a1, .int .i64 a2, .int .i64 a3])])).run Tryz.prog w = .ok (.slice (some ⟨w.heap.size, 0, none⟩) 1 1) (w.alloc (.cells (List.toArray [.int .i64 a0, .int .i64 a1, .int .i64 a2, .int .i64 a3]) 240)) := fun _ => by kernel_rfl
theorem ei_240 : ElemInfo Tryz.prog 240 4 32 := by
  obtain ⟨i, h1, h2, h3, h4⟩ := info_parts (show (Tryz.prog.info? 240).map (fun i => (i.zero, i.size, i.bytes)) = some (some (.agg #[.int .i64 0, .int .i64 0, .int .i64 0, .int .i64 0]), 4, 32) by kernel_rfl)
  exact ⟨i, _, h1, h2, h3, h4, rfl⟩
theorem cl_340 : Callable Tryz.prog 340 := fun _ _ => by kernel_rfl
theorem cl_281 : Callable Tryz.prog 281 := fun _ _ => by kernel_rfl
theorem fa_320_1 : FieldAt Tryz.prog 320 1 3 := fun _ _ => by kernel_rfl
theorem fa_318_0 : FieldAt Tryz.prog 318 0 0 := fun _ _ => by kernel_rfl
theorem sz_30 : Size Tryz.prog 30 1 := fun _ => by kernel_rfl
theorem cl_280 : Callable Tryz.prog 280 := fun _ _ => by kernel_rfl
theorem cl_279 : Callable Tryz.prog 279 := fun _ _ => by kernel_rfl
theorem sz_318 : Size Tryz.prog 318 2 := fun _ => by kernel_rfl
theorem ag_318 : Agg Tryz.prog 318 2 := ⟨fun _ => by kernel_rfl, sz_318⟩
theorem fa_318_1 : FieldAt Tryz.prog 318 1 1 := fun _ _ => by kernel_rfl
theorem cl_220 : Callable Tryz.prog 220 := fun _ _ => by kernel_rfl
theorem cl_143 : Callable Tryz.prog 143 := fun _ _ => by kernel_rfl
theorem cl_80 : Callable Tryz.prog 80 := fun _ _ => by kernel_rfl
theorem cl_71 : Callable Tryz.prog 71 := fun _ _ => by kernel_rfl
theorem fa_93_4 : FieldAt Tryz.prog 93 4 13 := fun _ _ => by kernel_rfl
theorem na_81 : NotAgg Tryz.prog 81 := fun _ => by kernel_rfl
theorem bl_200_0I_2R (a0 : Int) (a1 : Option Nat) : Tryz.prog.built 200 [(0, .int .i64 a0), (2, .map a1)] = some #[.int .i64 a0, .slice none 0 0, .map a1] := by kernel_rfl
theorem cl_72 : Callable Tryz.prog 72 := fun _ _ => by kernel_rfl
theorem bl_119_0P_1B (a0 : Option Addr) (a1 : Bool) : Tryz.prog.built 119 [(0, .pointer a0), (1, .bool a1)] = some #[.pointer a0, .bool a1] := by kernel_rfl
theorem cl_32 : Callable Tryz.prog 32 := fun _ _ => by kernel_rfl
theorem cl_14 : Callable Tryz.prog 14 := fun _ _ => by kernel_rfl
theorem bl_55_0I_1I (a0 : Int) (a1 : Int) : Tryz.prog.built 55 [(0, .int .i64 a0), (1, .int .i64 a1)] = some #[.int .i64 a0, .int .i64 a1, .int .i64 0, .int .i64 0] := by kernel_rfl
theorem cl_45 : Callable Tryz.prog 45 := fun _ _ => by kernel_rfl
theorem na_98 : NotAgg Tryz.prog 98 := fun _ => by kernel_rfl
theorem fa_178_3 : FieldAt Tryz.prog 178 3 6 := fun _ _ => by kernel_rfl
theorem fa_178_1 : FieldAt Tryz.prog 178 1 1 := fun _ _ => by kernel_rfl
theorem fa_178_0 : FieldAt Tryz.prog 178 0 0 := fun _ _ => by kernel_rfl
theorem fa_178_5 : FieldAt Tryz.prog 178 5 8 := fun _ _ => by kernel_rfl
theorem na_175 : NotAgg Tryz.prog 175 := fun _ => by kernel_rfl
theorem fa_178_6 : FieldAt Tryz.prog 178 6 9 := fun _ _ => by kernel_rfl
theorem na_176 : NotAgg Tryz.prog 176 := fun _ => by kernel_rfl
theorem cl_170 : Callable Tryz.prog 170 := fun _ _ => by kernel_rfl
theorem cl_99 : Callable Tryz.prog 99 := fun _ _ => by kernel_rfl
theorem fa_178_2 : FieldAt Tryz.prog 178 2 3 := fun _ _ => by kernel_rfl
theorem cl_171 : Callable Tryz.prog 171 := fun _ _ => by kernel_rfl
theorem bl_258_1I (a0 : Int) : Tryz.prog.built 258 [(1, .int .i64 a0)] = some #[.int .i64 0, .int .i64 a0] := by kernel_rfl
theorem sz_258 : Size Tryz.prog 258 2 := fun _ => by kernel_rfl
theorem bl_66_  : Tryz.prog.built 66 [] = some #[.int .i64 0, .int .i64 0, .int .i64 0, .int .i64 0, .int .i64 0, .int .i64 0] := by kernel_rfl
theorem cl_172 : Callable Tryz.prog 172 := fun _ _ => by kernel_rfl
theorem fa_258_0 : FieldAt Tryz.prog 258 0 0 := fun _ _ => by kernel_rfl
theorem ag_258 : Agg Tryz.prog 258 2 := ⟨fun _ => by kernel_rfl, sz_258⟩
theorem zero_258 : ∀ w, (zeroValue 258).run Tryz.prog w = .ok (.agg #[.int .i64 0, .int .i64 0]) w := fun _ => by kernel_rfl
theorem fa_178_4 : FieldAt Tryz.prog 178 4 7 := fun _ _ => by kernel_rfl
theorem cl_147 : Callable Tryz.prog 147 := fun _ _ => by kernel_rfl
theorem cl_308 : Callable Tryz.prog 308 := fun _ _ => by kernel_rfl
theorem cl_244 : Callable Tryz.prog 244 := fun _ _ => by kernel_rfl
theorem cl_165 : Callable Tryz.prog 165 := fun _ _ => by kernel_rfl
theorem cl_318 : Callable Tryz.prog 318 := fun _ _ => by kernel_rfl
theorem cl_247 : Callable Tryz.prog 247 := fun _ _ => by kernel_rfl
theorem cl_173 : Callable Tryz.prog 173 := fun _ _ => by kernel_rfl
theorem cl_101 : Callable Tryz.prog 101 := fun _ _ => by kernel_rfl
theorem cl_100 : Callable Tryz.prog 100 := fun _ _ => by kernel_rfl
theorem cl_48 : Callable Tryz.prog 48 := fun _ _ => by kernel_rfl
theorem cl_114 : Callable Tryz.prog 114 := fun _ _ => by kernel_rfl
theorem cl_115 : Callable Tryz.prog 115 := fun _ _ => by kernel_rfl
theorem cl_6 : Callable Tryz.prog 6 := fun _ _ => by kernel_rfl
theorem cl_53 : Callable Tryz.prog 53 := fun _ _ => by kernel_rfl
theorem fa_61_1 : FieldAt Tryz.prog 61 1 1 := fun _ _ => by kernel_rfl
theorem cl_98 : Callable Tryz.prog 98 := fun _ _ => by kernel_rfl
theorem fa_97_1 : FieldAt Tryz.prog 97 1 1 := fun _ _ => by kernel_rfl
theorem na_95 : NotAgg Tryz.prog 95 := fun _ => by kernel_rfl
theorem ei_111 : ElemInfo Tryz.prog 111 9 88 := by
  obtain ⟨i, h1, h2, h3, h4⟩ := info_parts (show (Tryz.prog.info? 111).map (fun i => (i.zero, i.size, i.bytes)) = some (some (.agg #[.int .i64 0, .int .i64 0, .int .i64 0, .int .i64 0, .int .i64 0, .int .i64 0, .int .i64 0, .bool false, .slice none 0 0]), 9, 88) by kernel_rfl)
  exact ⟨i, _, h1, h2, h3, h4, rfl⟩
theorem sz_95 : Size Tryz.prog 95 1 := fun _ => by kernel_rfl
theorem cl_46 : Callable Tryz.prog 46 := fun _ _ => by kernel_rfl
theorem cl_15 : Callable Tryz.prog 15 := fun _ _ => by kernel_rfl
theorem fa_119_1 : FieldAt Tryz.prog 119 1 1 := fun _ _ => by kernel_rfl
theorem na_4 : NotAgg Tryz.prog 4 := fun _ => by kernel_rfl
theorem cl_16 : Callable Tryz.prog 16 := fun _ _ => by kernel_rfl
theorem cl_117 : Callable Tryz.prog 117 := fun _ _ => by kernel_rfl
theorem cl_55 : Callable Tryz.prog 55 := fun _ _ => by kernel_rfl
theorem cl_56 : Callable Tryz.prog 56 := fun _ _ => by kernel_rfl
theorem cl_17 : Callable Tryz.prog 17 := fun _ _ => by kernel_rfl
theorem au0 {b w : World} {S : Nat → Prop} {F : List Res} (H0 : Hp b S w F) :
    Rets Tryz.prog 12 #[] w fun v w' => v = .agg #[.int .i64 10, .int .i64 2, .int .i64 4, .int .i64 2, .int .i64 5, .int .i64 1] ∧ Hp b S w' F := by
 refine WP.enter Tryz.func12 rfl Tryz.ntmps12 rfl <| rg ?_
 refine al zero_48 rfl H0 fun g1 w1 K1 => ?_
 refine dn <| rg <| ev (Ev.build (vs := [(0, .int .i64 10), (1, .int .i64 2), (2, .int .i64 4), (3, .int .i64 2), (4, .int .i64 5), (5, .int .i64 1)]) (cs := [.int .i64 10, .int .i64 2, .int .i64 4, .int .i64 2, .int .i64 5, .int .i64 1]) rfl (by apply bl_48_0I_1I_2I_3I_4I_5I)) ?_
 refine stw rfl rfl rfl sz_48 K1 s0 rfl rfl fun w2 K2 => ?_
 refine dn ?_
 refine WP.ret (Pst.retC rfl ⟨_, _, rfl, ⟨_, rfl, loads_box (cs := [.int .i64 10, .int .i64 2, .int .i64 4, .int .i64 2, .int .i64 5, .int .i64 1]) ag_48 rfl (K2.x s0)⟩, rfl⟩ ?_)
 exact ⟨rfl, (K2.rm s0)⟩

theorem au3 {b w : World} {S : Nat → Prop} {F : List Res} (H0 : Hp b S w F) :
    Rets Tryz.prog 68 #[.int .i64 10, .int .i64 1048576] w fun v w' => v = .bool true ∧ Hp b S w' F := by
 refine WP.enter Tryz.func68 rfl Tryz.ntmps68 rfl <| rg <| as_ rfl <| dn <| rg <| mv rfl <| ev (Ev.geq rfl rfl) <| mv rfl <| WL.evg rfl (Ev.move rfl) rfl <| WL.evg rfl (Ev.move rfl) rfl ?_
 refine WL.evg rfl (Ev.leq rfl rfl) rfl <| ev (Ev.pick_t rfl rfl) <| as_ rfl <| dn ?_
 refine WP.ret (Pst.body_ret rfl rfl rfl ?_)
 exact ⟨rfl, H0⟩

theorem au4 {b w : World} {S : Nat → Prop} {F : List Res} (H0 : Hp b S w F) :
    Rets Tryz.prog 68 #[.int .i64 5, .int .i64 1048576] w fun v w' => v = .bool true ∧ Hp b S w' F := by
 refine WP.enter Tryz.func68 rfl Tryz.ntmps68 rfl <| rg <| as_ rfl <| dn <| rg <| mv rfl <| ev (Ev.geq rfl rfl) <| mv rfl <| WL.evg rfl (Ev.move rfl) rfl <| WL.evg rfl (Ev.move rfl) rfl ?_
 refine WL.evg rfl (Ev.leq rfl rfl) rfl <| ev (Ev.pick_t rfl rfl) <| as_ rfl <| dn ?_
 refine WP.ret (Pst.body_ret rfl rfl rfl ?_)
 exact ⟨rfl, H0⟩

theorem au5 {b w : World} {S : Nat → Prop} {F : List Res} (H0 : Hp b S w F) :
    Rets Tryz.prog 68 #[.int .i64 2, .int .i64 64] w fun v w' => v = .bool true ∧ Hp b S w' F := by
 refine WP.enter Tryz.func68 rfl Tryz.ntmps68 rfl <| rg <| as_ rfl <| dn <| rg <| mv rfl <| ev (Ev.geq rfl rfl) <| mv rfl <| WL.evg rfl (Ev.move rfl) rfl <| WL.evg rfl (Ev.move rfl) rfl ?_
 refine WL.evg rfl (Ev.leq rfl rfl) rfl <| ev (Ev.pick_t rfl rfl) <| as_ rfl <| dn ?_
 refine WP.ret (Pst.body_ret rfl rfl rfl ?_)
 exact ⟨rfl, H0⟩

theorem au6 {b w : World} {S : Nat → Prop} {F : List Res} (H0 : Hp b S w F) :
    Rets Tryz.prog 68 #[.int .i64 4, .int .i64 64] w fun v w' => v = .bool true ∧ Hp b S w' F := by
 refine WP.enter Tryz.func68 rfl Tryz.ntmps68 rfl <| rg <| as_ rfl <| dn <| rg <| mv rfl <| ev (Ev.geq rfl rfl) <| mv rfl <| WL.evg rfl (Ev.move rfl) rfl <| WL.evg rfl (Ev.move rfl) rfl ?_
 refine WL.evg rfl (Ev.leq rfl rfl) rfl <| ev (Ev.pick_t rfl rfl) <| as_ rfl <| dn ?_
 refine WP.ret (Pst.body_ret rfl rfl rfl ?_)
 exact ⟨rfl, H0⟩

theorem au7 {b w : World} {S : Nat → Prop} {F : List Res} (H0 : Hp b S w F) :
    Rets Tryz.prog 68 #[.int .i64 2, .int .i64 8] w fun v w' => v = .bool true ∧ Hp b S w' F := by
 refine WP.enter Tryz.func68 rfl Tryz.ntmps68 rfl <| rg <| as_ rfl <| dn <| rg <| mv rfl <| ev (Ev.geq rfl rfl) <| mv rfl <| WL.evg rfl (Ev.move rfl) rfl <| WL.evg rfl (Ev.move rfl) rfl ?_
 refine WL.evg rfl (Ev.leq rfl rfl) rfl <| ev (Ev.pick_t rfl rfl) <| as_ rfl <| dn ?_
 refine WP.ret (Pst.body_ret rfl rfl rfl ?_)
 exact ⟨rfl, H0⟩

theorem au8 {b w : World} {S : Nat → Prop} {F : List Res} (H0 : Hp b S w F) :
    Rets Tryz.prog 68 #[.int .i64 1, .int .i64 16] w fun v w' => v = .bool true ∧ Hp b S w' F := by
 refine WP.enter Tryz.func68 rfl Tryz.ntmps68 rfl <| rg <| as_ rfl <| dn <| rg <| mv rfl <| ev (Ev.geq rfl rfl) <| mv rfl <| WL.evg rfl (Ev.move rfl) rfl <| WL.evg rfl (Ev.move rfl) rfl ?_
 refine WL.evg rfl (Ev.leq rfl rfl) rfl <| ev (Ev.pick_t rfl rfl) <| as_ rfl <| dn ?_
 refine WP.ret (Pst.body_ret rfl rfl rfl ?_)
 exact ⟨rfl, H0⟩

theorem au2 {b w : World} {S : Nat → Prop} {F : List Res} (H0 : Hp b S w F) :
    Rets Tryz.prog 29 #[.agg #[.int .i64 10, .int .i64 2, .int .i64 4, .int .i64 2, .int .i64 5, .int .i64 1]] w fun v w' => v = .bool true ∧ Hp b S w' F := by
 refine WP.enter Tryz.func29 rfl Tryz.ntmps29 rfl <| rg ?_
 refine bx rfl rfl H0 fun g1 w1 K1 => ?_
 refine as_ rfl <| dn <| rg <| ev (Ev.field (q := ⟨g1, 0, none⟩) fa_48_0 rfl rfl) <| ev (Ev.loadBoxCell na_3 rfl (K1.x s0) rfl) <| WL.call rfl rfl rfl cl_68 (au3 K1) rfl ?_
 rintro _ w2 ⟨rfl, K2⟩
 refine mv rfl <| WL.evg rfl (Ev.field (q := ⟨g1, 4, none⟩) fa_48_4 rfl rfl) rfl <| WL.evg rfl (Ev.loadBoxCell na_3 rfl (K2.x s0) rfl) rfl <| WL.callg rfl rfl rfl rfl cl_68 (au4 K2) rfl ?_
 rintro _ w3 ⟨rfl, K3⟩
 refine ev (Ev.pick_t rfl rfl) <| mv rfl <| WL.evg rfl (Ev.field (q := ⟨g1, 1, none⟩) fa_48_1 rfl rfl) rfl <| WL.evg rfl (Ev.loadBoxCell na_3 rfl (K3.x s0) rfl) rfl ?_
 refine WL.callg rfl rfl rfl rfl cl_68 (au5 K3) rfl ?_
 rintro _ w4 ⟨rfl, K4⟩
 refine ev (Ev.pick_t rfl rfl) <| mv rfl <| WL.evg rfl (Ev.field (q := ⟨g1, 2, none⟩) fa_48_2 rfl rfl) rfl <| WL.evg rfl (Ev.loadBoxCell na_3 rfl (K4.x s0) rfl) rfl ?_
 refine WL.callg rfl rfl rfl rfl cl_68 (au6 K4) rfl ?_
 rintro _ w5 ⟨rfl, K5⟩
 refine ev (Ev.pick_t rfl rfl) <| mv rfl <| WL.evg rfl (Ev.field (q := ⟨g1, 3, none⟩) fa_48_3 rfl rfl) rfl <| WL.evg rfl (Ev.loadBoxCell na_3 rfl (K5.x s0) rfl) rfl ?_
 refine WL.callg rfl rfl rfl rfl cl_68 (au7 K5) rfl ?_
 rintro _ w6 ⟨rfl, K6⟩
 refine ev (Ev.pick_t rfl rfl) <| mv rfl <| WL.evg rfl (Ev.field (q := ⟨g1, 5, none⟩) fa_48_5 rfl rfl) rfl <| WL.evg rfl (Ev.loadBoxCell na_3 rfl (K6.x s0) rfl) rfl ?_
 refine WL.callg rfl rfl rfl rfl cl_68 (au8 K6) rfl ?_
 rintro _ w7 ⟨rfl, K7⟩
 refine ev (Ev.pick_t rfl rfl) <| as_ rfl <| dn ?_
 refine WP.ret (Pst.body_ret rfl rfl rfl ?_)
 exact ⟨rfl, (K7.rm s0)⟩

theorem au1 {b w : World} {S : Nat → Prop} {F : List Res} (H0 : Hp b S w F) :
    Rets Tryz.prog 11 #[.agg #[.int .i64 10, .int .i64 2, .int .i64 4, .int .i64 2, .int .i64 5, .int .i64 1]] w fun v w' => ∃ (g3 g2 : Nat), v = .tuple #[.pointer (some ⟨g3, 0, none⟩), .int .i64 0] ∧ Hp b S w' (rBx g3 93 [.slice none 0 0, .slice none 0 0, .slice none 0 0, .slice none 0 0, .slice none 0 0, .slice none 0 0, .int .i64 10, .int .i64 2, .int .i64 4, .int .i64 2, .int .i64 5, .int .i64 1, .int .i64 0, .map (some g2), .slice none 0 0] :: rObj g2 (.map (#[] : Array MapEntry) 0) :: F) := by
 refine WP.enter Tryz.func11 rfl Tryz.ntmps11 rfl <| rg ?_
 refine bx rfl rfl H0 fun g1 w1 K1 => ?_
 refine as_ rfl <| as_ rfl <| dn <| WP.seq <| rg <| ev (Ev.loadBox ag_48 rfl rfl (K1.x s0)) <| WL.call rfl rfl rfl cl_29 (au2 K1) rfl ?_
 rintro _ w2 ⟨rfl, K2⟩
 refine ev (Ev.not rfl) <| dn <| cFe rfl ?_
 refine WP.skip (Pst.norm ?_)
 refine rg <| ev (Ev.loadBox ag_48 rfl rfl (K2.x s0)) ?_
 refine mkm K2 rfl fun g2 w3 K3 => ?_
 refine ev (Ev.build (vs := [(2, .agg #[.int .i64 10, .int .i64 2, .int .i64 4, .int .i64 2, .int .i64 5, .int .i64 1]), (4, .map (some g2))]) (cs := [.slice none 0 0, .slice none 0 0, .slice none 0 0, .slice none 0 0, .slice none 0 0, .slice none 0 0, .int .i64 10, .int .i64 2, .int .i64 4, .int .i64 2, .int .i64 5, .int .i64 1, .int .i64 0, .map (some g2), .slice none 0 0]) rfl (by apply bl_93_2A_4R)) ?_
 refine bx rfl rfl K3 fun g3 w4 K4 => ?_
 refine as_ rfl <| as_ rfl <| dn ?_
 refine WP.ret (Pst.body_ret rfl rfl rfl ?_)
 exact ⟨g3, g2, rfl, (K4.rm s2)⟩

theorem au10 {b w : World} {S : Nat → Prop} {F : List Res} (H0 : Hp b S w F) :
    Rets Tryz.prog 5 #[] w fun v w' => ∃ (g1 : Nat), v = .pointer (some ⟨g1, 0, none⟩) ∧ Hp b S w' (rBx g1 61 [.slice none 0 0, .int .i64 0, .int .i64 0, .int .i64 0, .slice none 0 0] :: F) := by
 refine WP.enter Tryz.func5 rfl Tryz.ntmps5 rfl <| rg <| as_ rfl <| dn <| rg <| ev (Ev.build (vs := []) (cs := [.slice none 0 0, .int .i64 0, .int .i64 0, .int .i64 0, .slice none 0 0]) rfl (by apply bl_61_)) ?_
 refine bx rfl rfl H0 fun g1 w1 K1 => ?_
 refine as_ rfl <| dn ?_
 refine WP.ret (Pst.body_ret rfl rfl rfl ?_)
 exact ⟨g1, rfl, K1⟩

theorem au12 {b w : World} {S : Nat → Prop} {F : List Res} {p0 p1 p2 : Nat} (H0 : Hp b S w (rBx p0 97 [.slice (some ⟨p1, 0, none⟩) 1 1, .slice none 0 0] :: rBx p1 100 [.pointer none, .pointer (some ⟨p2, 0, none⟩)] :: rBx p2 61 [.slice none 0 0, .int .i64 0, .int .i64 0, .int .i64 0, .slice none 0 0] :: F)) :
    Rets Tryz.prog 47 #[.pointer (some ⟨p0, 0, none⟩), .int .i64 1] w fun v w' => v = .pointer (some ⟨p1, 0, none⟩) ∧ Hp b S w' (rBx p0 97 [.slice (some ⟨p1, 0, none⟩) 1 1, .slice none 0 0] :: rBx p1 100 [.pointer none, .pointer (some ⟨p2, 0, none⟩)] :: rBx p2 61 [.slice none 0 0, .int .i64 0, .int .i64 0, .int .i64 0, .slice none 0 0] :: F) := by
 refine WP.enter Tryz.func47 rfl Tryz.ntmps47 rfl <| rg <| as_ rfl <| dn <| rg <| mv rfl <| ev (Ev.nilCheck rfl) <| ev (Ev.field (q := ⟨p0, 0, none⟩) fa_97_0 rfl rfl) ?_
 refine ev (Ev.loadBoxCell na_94 rfl (H0.x s0) rfl) <| mv rfl <| ev (Ev.sub rfl rfl (I64.mk (by first | omega | (simp; done) | decide) (by first | omega | (simp; done) | decide))) ?_
 refine ev (Ev.index (i := 0) Tryz.underlying94 sz_100 rfl rfl rfl (by decide) rfl) <| as_ rfl <| dn ?_
 refine WP.ret (Pst.body_ret rfl rfl rfl ?_)
 exact ⟨rfl, H0⟩

theorem au14 {b w : World} {S : Nat → Prop} {F : List Res} (H0 : Hp b S w F) :
    Rets Tryz.prog 25 #[.slice none 0 0] w fun v w' => v = .slice none 0 0 ∧ Hp b S w' F := by
 refine WP.enter Tryz.func25 rfl Tryz.ntmps25 rfl <| rg <| as_ rfl <| dn <| WP.seq <| rg <| mv rfl <| ev (Ev.eqnil Tryz.underlying24 rfl rfl) <| dn <| cTe rfl <| rg ?_
 refine as_ rfl <| dn ?_
 refine WP.ret (Pst.then_ret (Pst.body_ret rfl rfl rfl ?_))
 exact ⟨rfl, H0⟩

theorem au13 {b w : World} {S : Nat → Prop} {F : List Res} {p0 : Nat} (H0 : Hp b S w (rBx p0 61 [.slice none 0 0, .int .i64 0, .int .i64 0, .int .i64 0, .slice none 0 0] :: F)) :
    Rets Tryz.prog 69 #[.pointer (some ⟨p0, 0, none⟩)] w fun v w' => v = .tuple #[.agg #[.int .i64 0, .int .i64 0], .agg #[.int .i64 0, .int .i64 0, .slice none 0 0]] ∧ Hp b S w' (rBx p0 61 [.slice none 0 0, .int .i64 0, .int .i64 0, .int .i64 0, .slice none 0 0] :: F) := by
 refine WP.enter Tryz.func69 rfl Tryz.ntmps69 rfl <| rg ?_
 refine al zero_23 rfl H0 fun g1 w1 K1 => ?_
 refine al zero_26 rfl K1 fun g2 w2 K2 => ?_
 refine dn ?_
 refine He K2 (fun _ K => ((K.rm s1).rm s0)) (fun l0 rk lJ wJ => lJ = l0 ∧ Hp b S wJ (rBx g2 26 [.int .i64 0, .int .i64 0, .slice none 0 0] :: rBx g1 23 [.int .i64 0, .int .i64 0] :: rk)) (fun hns H1 => ?_) ?_
 ·
  have k1 := ((H1.rm s1).rm s0)
  refine Tm 0 1 hns rfl rfl k1 <| Tn 1 3 hns rfl (fun _ _ => Ev.nilCheck rfl) k1 <| Tn 2 7 hns rfl (fun _ _ => Ev.field (q := ⟨p0, 2, none⟩) fa_61_2 rfl rfl) k1 ?_
  refine Tn 3 15 hns rfl (fun _ _ => Ev.field (q := ⟨p0, 2, none⟩) fa_59_0 rfl rfl) k1 <| Tn 4 31 hns rfl (fun _ hK => Ev.loadBoxPart (cs' := [.int .i64 0, .int .i64 0]) ag_23 rfl rfl (hK.x s0) rfl) k1 ?_
  refine Tm 5 63 hns rfl rfl k1 <| Tn 6 127 hns rfl (fun _ _ => Ev.nilCheck rfl) k1 <| Tn 7 255 hns rfl (fun _ _ => Ev.field (q := ⟨p0, 2, none⟩) fa_61_2 rfl rfl) k1 ?_
  refine Tn 8 511 hns rfl (fun _ _ => Ev.field (q := ⟨p0, 4, none⟩) fa_59_1 rfl rfl) k1 <| Tn 9 1023 hns rfl (fun _ hK => Ev.loadBoxCell na_24 rfl (hK.x s0) rfl) k1 ?_
  refine O1 10 rfl <| WL.call rfl rfl rfl cl_25 (au14 H1) rfl ?_
  rintro _ w3 ⟨rfl, K3⟩
  have k2 := ((K3.rm s1).rm s0)
  refine WH.next k2 <| Tn 11 4095 hns rfl (fun _ _ => Ev.build (vs := [(2, .slice none 0 0)]) (cs := [.int .i64 0, .int .i64 0, .slice none 0 0]) rfl (by apply bl_26_2S)) k2 ?_
  refine O1 12 rfl ?_
  refine stw rfl rfl rfl sz_23 K3 s1 rfl rfl fun w4 K4 => ?_
  have k3 := ((K4.rm s1).rm s0)
  refine WH.next k3 <| O1 13 rfl ?_
  refine stw rfl rfl rfl sz_26 K4 s1 rfl rfl fun w5 K5 => ?_
  have k4 := ((K5.rm s1).rm s0)
  refine WH.next k4 ?_
  exact Dn ⟨rfl, K5⟩ rfl
 rintro _ w6 ⟨rfl, K6⟩
 refine WP.ret (Pst.retC rfl ⟨_, _, rfl, ⟨_, rfl, loads_box (cs := [.int .i64 0, .int .i64 0]) ag_23 rfl (K6.x s1)⟩, ⟨_, _, rfl, ⟨_, rfl, loads_box (cs := [.int .i64 0, .int .i64 0, .slice none 0 0]) ag_26 rfl (K6.x s0)⟩, rfl⟩⟩ ?_)
 exact ⟨rfl, ((K6.rm s1).rm s0)⟩

theorem au19 {b w : World} {S : Nat → Prop} {F : List Res} (H0 : Hp b S w F) :
    Rets Tryz.prog 58 #[.slice none 0 0, .int .i64 0] w fun v w' => v = .bool true ∧ Hp b S w' F := by
 refine WP.enter Tryz.func58 rfl Tryz.ntmps58 rfl <| rg <| as_ rfl <| dn <| WP.seq <| rg <| mv rfl <| ev (Ev.len Tryz.underlying24 rfl) <| mv rfl <| dn <| WP.block ?_
 refine Rn 1 (RN.s ?_)
 refine rg <| ev (Ev.lss rfl rfl) <| dn <| cF rfl ?_
 refine WP.exit (Pst.then_exit (Pst.then_exit (Pst.blk_eq (Pst.norm ?_))))
 refine rg <| as_ rfl <| dn ?_
 refine WP.ret (Pst.body_ret rfl rfl rfl ?_)
 exact ⟨rfl, H0⟩

theorem au18 {b w : World} {S : Nat → Prop} {F : List Res} (H0 : Hp b S w F) :
    Rets Tryz.prog 19 #[.agg #[.int .i64 0, .int .i64 0, .slice none 0 0]] w fun v w' => v = .bool true ∧ Hp b S w' F := by
 refine WP.enter Tryz.func19 rfl Tryz.ntmps19 rfl <| rg ?_
 refine bx rfl rfl H0 fun g1 w1 K1 => ?_
 refine as_ rfl <| dn <| WP.seq <| WP.block <| rg <| ev (Ev.field (q := ⟨g1, 0, none⟩) fa_26_0 rfl rfl) <| ev (Ev.loadBoxCell na_3 rfl (K1.x s0) rfl) <| ev (Ev.lss rfl rfl) ?_
 refine mv rfl <| WL.evg rfl (Ev.field (q := ⟨g1, 0, none⟩) fa_26_0 rfl rfl) rfl <| WL.evg rfl (Ev.loadBoxCell na_3 rfl (K1.x s0) rfl) rfl <| WL.evg rfl (Ev.gtr rfl rfl) rfl ?_
 refine ev (Ev.pick_f rfl rfl) <| mv rfl <| WL.evg rfl (Ev.field (q := ⟨g1, 1, none⟩) fa_26_1 rfl rfl) rfl <| WL.evg rfl (Ev.loadBoxCell na_3 rfl (K1.x s0) rfl) rfl ?_
 refine WL.evg rfl (Ev.lss rfl rfl) rfl <| ev (Ev.pick_f rfl rfl) <| mv rfl <| WL.evg rfl (Ev.field (q := ⟨g1, 1, none⟩) fa_26_1 rfl rfl) rfl <| WL.evg rfl (Ev.loadBoxCell na_3 rfl (K1.x s0) rfl) rfl ?_
 refine WL.evg rfl (Ev.gtr rfl rfl) rfl <| ev (Ev.pick_f rfl rfl) <| as_ rfl <| dn <| cFe rfl <| WP.seq <| rg <| ev (Ev.field (q := ⟨g1, 0, none⟩) fa_26_0 rfl rfl) ?_
 refine ev (Ev.loadBoxCell na_3 rfl (K1.x s0) rfl) <| ev (Ev.eql rfl rfl) <| mv rfl <| WL.evg rfl (Ev.field (q := ⟨g1, 1, none⟩) fa_26_1 rfl rfl) rfl <| WL.evg rfl (Ev.loadBoxCell na_3 rfl (K1.x s0) rfl) rfl ?_
 refine WL.evg rfl (Ev.neq rfl rfl) rfl <| ev (Ev.pick_t rfl rfl) <| as_ rfl <| dn <| cFe rfl <| rge <| ev (Ev.field (q := ⟨g1, 2, none⟩) fa_26_2 rfl rfl) <| ev (Ev.loadBoxCell na_24 rfl (K1.x s0) rfl) ?_
 refine ev (Ev.len Tryz.underlying24 rfl) <| ev (Ev.gtr rfl rfl) <| as_ rfl <| dne <| Pst.norm <| cFe rfl ?_
 refine WP.skip (Pst.blk_norm (Pst.norm ?_))
 refine rg <| ev (Ev.field (q := ⟨g1, 2, none⟩) fa_26_2 rfl rfl) <| ev (Ev.loadBoxCell na_24 rfl (K1.x s0) rfl) <| ev (Ev.field (q := ⟨g1, 1, none⟩) fa_26_1 rfl rfl) ?_
 refine ev (Ev.loadBoxCell na_3 rfl (K1.x s0) rfl) <| WL.call rfl rfl rfl cl_58 (au19 K1) rfl ?_
 rintro _ w2 ⟨rfl, K2⟩
 refine as_ rfl <| dn ?_
 refine WP.ret (Pst.body_ret rfl rfl rfl ?_)
 exact ⟨rfl, (K2.rm s0)⟩

theorem au17 {b w : World} {S : Nat → Prop} {F : List Res} (H0 : Hp b S w F) :
    Rets Tryz.prog 174 #[.agg #[.int .i64 0, .int .i64 0, .slice none 0 0]] w fun v w' => v = .agg #[.int .i64 0, .int .i64 0, .slice none 0 0] ∧ Hp b S w' F := by
 refine WP.enter Tryz.func174 rfl Tryz.ntmps174 rfl <| rg ?_
 refine bx rfl rfl H0 fun g1 w1 K1 => ?_
 refine al zero_26 rfl K1 fun g2 w2 K2 => ?_
 refine dn <| WP.seq <| rg <| ev (Ev.loadBox ag_26 rfl rfl (K2.x s1)) <| WL.call rfl rfl rfl cl_19 (au18 K2) rfl ?_
 rintro _ w3 ⟨rfl, K3⟩
 refine ev (Ev.not rfl) <| dn <| cFe rfl ?_
 refine WP.skip (Pst.norm ?_)
 refine rg <| ev (Ev.loadBox ag_26 rfl rfl (K3.x s1)) ?_
 refine stw rfl rfl rfl sz_26 K3 s0 rfl rfl fun w4 K4 => ?_
 refine dn ?_
 refine WP.ret (Pst.retC rfl ⟨_, _, rfl, ⟨_, rfl, loads_box (cs := [.int .i64 0, .int .i64 0, .slice none 0 0]) ag_26 rfl (K4.x s0)⟩, rfl⟩ ?_)
 exact ⟨rfl, ((K4.rm s1).rm s0)⟩

theorem au20 {b w : World} {S : Nat → Prop} {F : List Res} (H0 : Hp b S w F) :
    Rets Tryz.prog 175 #[.agg #[.int .i64 0, .int .i64 0, .slice none 0 0], .int .i64 0] w fun v w' => v = .tuple #[.int .i64 0, .bool true] ∧ Hp b S w' F := by
 refine WP.enter Tryz.func175 rfl Tryz.ntmps175 rfl <| rg ?_
 refine bx rfl rfl H0 fun g1 w1 K1 => ?_
 refine as_ rfl <| as_ rfl <| dn <| WP.seq <| rg <| ev (Ev.loadBox ag_26 rfl rfl (K1.x s0)) <| WL.call rfl rfl rfl cl_174 (au17 K1) rfl ?_
 rintro _ w2 ⟨rfl, K2⟩
 refine stw rfl rfl rfl sz_26 K2 s0 rfl rfl fun w3 K3 => ?_
 refine dn <| WP.block <| rg <| mv rfl <| ev (Ev.field (q := ⟨g1, 0, none⟩) fa_26_0 rfl rfl) <| ev (Ev.loadBoxCell na_3 rfl (K3.x s0) rfl) <| ev (Ev.eql rfl rfl) ?_
 refine as_ rfl <| dn <| cTe rfl <| rg <| ev (Ev.field (q := ⟨g1, 1, none⟩) fa_26_1 rfl rfl) <| ev (Ev.loadBoxCell na_3 rfl (K3.x s0) rfl) <| as_ rfl <| as_ rfl ?_
 refine dn ?_
 refine WP.ret (Pst.blk_ret (Pst.then_ret (Pst.body_ret rfl rfl rfl ?_)))
 exact ⟨rfl, (K3.rm s0)⟩

theorem au16 {b w : World} {S : Nat → Prop} {F : List Res} (H0 : Hp b S w F) :
    Rets Tryz.prog 104 #[.agg #[.int .i64 0, .int .i64 0, .slice none 0 0]] w fun v w' => v = .tuple #[.int .i64 0, .int .i64 0] ∧ Hp b S w' F := by
 refine WP.enter Tryz.func104 rfl Tryz.ntmps104 rfl <| rg ?_
 refine bx rfl rfl H0 fun g1 w1 K1 => ?_
 refine as_ rfl <| as_ rfl <| dn <| rg <| ev (Ev.loadBox ag_26 rfl rfl (K1.x s0)) <| WL.call rfl rfl rfl cl_174 (au17 K1) rfl ?_
 rintro _ w2 ⟨rfl, K2⟩
 refine stw rfl rfl rfl sz_26 K2 s0 rfl rfl fun w3 K3 => ?_
 refine dn <| rg <| ev (Ev.field (q := ⟨g1, 0, none⟩) fa_26_0 rfl rfl) <| ev (Ev.loadBoxCell na_3 rfl (K3.x s0) rfl) <| ev (Ev.field (q := ⟨g1, 2, none⟩) fa_26_2 rfl rfl) ?_
 refine ev (Ev.loadBoxCell na_24 rfl (K3.x s0) rfl) <| ev (Ev.len Tryz.underlying24 rfl) <| ev (Ev.add rfl rfl (I64.mk (by first | omega | (simp; done) | decide) (by first | omega | (simp; done) | decide))) ?_
 refine as_ rfl <| dn <| rg <| ev (Ev.loadBox ag_26 rfl rfl (K3.x s0)) <| mv rfl <| WL.call rfl rfl rfl cl_175 (au20 K3) rfl ?_
 rintro _ w4 ⟨rfl, K4⟩
 refine mv rfl <| xt rfl rfl <| xt rfl rfl <| as_ rfl <| as_ rfl <| dn <| rg <| mv rfl <| mv rfl <| as_ rfl <| as_ rfl <| dn ?_
 refine WP.ret (Pst.body_ret rfl rfl rfl ?_)
 exact ⟨rfl, (K4.rm s0)⟩

theorem au21 {b w : World} {S : Nat → Prop} {F : List Res} (H0 : Hp b S w F) :
    Rets Tryz.prog 18 #[.agg #[.int .i64 0, .int .i64 0]] w fun v w' => v = .bool true ∧ Hp b S w' F := by
 refine WP.enter Tryz.func18 rfl Tryz.ntmps18 rfl <| rg ?_
 refine bx rfl rfl H0 fun g1 w1 K1 => ?_
 refine as_ rfl <| dn <| rg <| ev (Ev.field (q := ⟨g1, 0, none⟩) fa_23_0 rfl rfl) <| ev (Ev.loadBoxCell na_3 rfl (K1.x s0) rfl) <| ev (Ev.geq rfl rfl) <| mv rfl ?_
 refine WL.evg rfl (Ev.field (q := ⟨g1, 0, none⟩) fa_23_0 rfl rfl) rfl <| WL.evg rfl (Ev.loadBoxCell na_3 rfl (K1.x s0) rfl) rfl <| WL.evg rfl (Ev.leq rfl rfl) rfl ?_
 refine ev (Ev.pick_t rfl rfl) <| mv rfl <| WL.evg rfl (Ev.field (q := ⟨g1, 1, none⟩) fa_23_1 rfl rfl) rfl <| WL.evg rfl (Ev.loadBoxCell na_3 rfl (K1.x s0) rfl) rfl ?_
 refine WL.evg rfl (Ev.eql rfl rfl) rfl <| WL.evg rfl (Ev.move rfl) rfl <| WL.pass rfl rfl rfl <| WL.pass rfl rfl rfl <| WL.pass rfl rfl rfl <| WL.evg rfl (Ev.pick_t rfl rfl) rfl ?_
 refine ev (Ev.pick_t rfl rfl) <| as_ rfl <| dn ?_
 refine WP.ret (Pst.body_ret rfl rfl rfl ?_)
 exact ⟨rfl, (K1.rm s0)⟩

theorem au15 {b w : World} {S : Nat → Prop} {F : List Res} (H0 : Hp b S w F) :
    Rets Tryz.prog 70 #[.int .i64 1, .int .i64 1, .agg #[.int .i64 0, .int .i64 0], .agg #[.int .i64 0, .int .i64 0, .slice none 0 0]] w fun v w' => ∃ (gj1 gj3 gj2 : Nat), v = .tuple #[.pointer (some ⟨gj1, 0, none⟩), .int .i64 0] ∧ Hp b S w' (rBx gj1 178 [.int .i64 1, .int .i64 0, .int .i64 0, .int .i64 0, .int .i64 0, .slice none 0 0, .int .i64 0, .int .i64 0, .map (some gj3), .slice (some ⟨gj2, 0, none⟩) 1 1] :: rObj gj3 (.map (#[] : Array MapEntry) 0) :: rBx gj2 258 [.int .i64 0, .int .i64 0] :: F) := by
 refine WP.enter Tryz.func70 rfl Tryz.ntmps70 rfl <| rg ?_
 refine bx rfl rfl H0 fun g1 w1 K1 => ?_
 refine bx rfl rfl K1 fun g2 w2 K2 => ?_
 refine as_ rfl <| as_ rfl <| dn <| rg <| ev (Ev.loadBox ag_26 rfl rfl (K2.x s0)) <| WL.call rfl rfl rfl cl_104 (au16 K2) rfl ?_
 rintro _ w3 ⟨rfl, K3⟩
 refine mv rfl <| xt rfl rfl <| xt rfl rfl <| as_ rfl <| as_ rfl <| dn <| WP.seq <| WP.block <| rg <| mv rfl <| ev (Ev.lss rfl rfl) <| mv rfl <| WL.evg rfl (Ev.move rfl) rfl ?_
 refine WL.evg rfl (Ev.gtr rfl rfl) rfl <| ev (Ev.pick_f rfl rfl) <| mv rfl <| WL.evg rfl (Ev.move rfl) rfl <| WL.evg rfl (Ev.lss rfl rfl) rfl <| ev (Ev.pick_f rfl rfl) ?_
 refine mv rfl <| WL.evg rfl (Ev.move rfl) rfl <| WL.evg rfl (Ev.move rfl) rfl <| WL.evg rfl (Ev.gtr rfl rfl) rfl <| ev (Ev.pick_f rfl rfl) <| as_ rfl <| dn <| cFe rfl ?_
 refine rg <| ev (Ev.loadBox ag_23 rfl rfl (K3.x s1)) <| WL.call rfl rfl rfl cl_18 (au21 K3) rfl ?_
 rintro _ w4 ⟨rfl, K4⟩
 refine ev (Ev.not rfl) <| mv rfl <| WL.evg rfl (Ev.loadBox ag_26 rfl rfl (K4.x s0)) rfl <| WL.callg rfl rfl rfl rfl cl_19 (au18 K4) rfl ?_
 rintro _ w5 ⟨rfl, K5⟩
 refine WL.evg rfl (Ev.not rfl) rfl <| ev (Ev.pick_f rfl rfl) <| mv rfl <| WL.evg rfl (Ev.field (q := ⟨g2, 0, none⟩) fa_26_0 rfl rfl) rfl <| WL.evg rfl (Ev.loadBoxCell na_3 rfl (K5.x s0) rfl) rfl ?_
 refine WL.evg rfl (Ev.neq rfl rfl) rfl <| ev (Ev.pick_f rfl rfl) <| mv rfl <| WL.evg rfl (Ev.move rfl) rfl <| WL.evg rfl (Ev.field (q := ⟨g1, 0, none⟩) fa_23_0 rfl rfl) rfl ?_
 refine WL.evg rfl (Ev.loadBoxCell na_3 rfl (K5.x s1) rfl) rfl <| WL.evg rfl (Ev.gtr rfl rfl) rfl <| ev (Ev.pick_f rfl rfl) <| as_ rfl <| dn <| WP.keep' [(0, .int .i64 1), (1, .int .i64 1), (6, .pointer (some ⟨g1, 0, none⟩)), (7, .pointer (some ⟨g2, 0, none⟩)), (33, .bool false)] rfl ?_
 refine cFe rfl ?_
 refine WP.skip (Pst.blk_norm (Pst.norm ?_))
 refine rg <| ev (Ev.field (q := ⟨g2, 2, none⟩) fa_26_2 rfl rfl) <| ev (Ev.loadBoxCell na_24 rfl (K5.x s0) rfl) <| WL.call rfl rfl rfl cl_25 (au14 K5) rfl ?_
 rintro _ w6 ⟨rfl, K6⟩
 refine ev (Ev.field (q := ⟨g2, 2, none⟩) fa_26_2 rfl rfl) ?_
 refine stc rfl rfl rfl sz_24 K6 s0 rfl fun w7 K7 => ?_
 refine dn ?_
 refine He K7 (fun _ K => K) (fun l0 rk lJ wJ => ∃ (gj1 gj2 gj3 : Nat), lJ = (8, .pointer (some ⟨gj1, 0, none⟩)) :: (9, .int .i64 0) :: l0 ∧ Hp b S wJ (rBx gj1 178 [.int .i64 1, .int .i64 0, .int .i64 0, .int .i64 0, .int .i64 0, .slice none 0 0, .int .i64 0, .int .i64 0, .map (some gj3), .slice (some ⟨gj2, 0, none⟩) 1 1] :: rBx gj2 258 [.int .i64 0, .int .i64 0] :: rObj gj3 (.map (#[] : Array MapEntry) 0) :: rk)) (fun hns H1 => ?_) ?_
 ·
  refine Tm 0 1 hns rfl rfl H1 <| Tn 1 3 hns rfl (fun _ hK => Ev.loadBox ag_23 rfl rfl (hK.x s1)) H1 <| Tn 2 7 hns rfl (fun _ hK => Ev.loadBox ag_26 rfl rfl (hK.x s0)) H1 ?_
  refine Tm 4 23 hns rfl rfl H1 ?_
  refine Jn H1 (fun l0 rk lJ wJ => ∃ (g4 g3 : Nat), lJ = (60, .map (some g3)) :: (62, .slice (some ⟨g4, 0, none⟩) 1 1) :: l0 ∧ Hp b S wJ (rBx g4 258 [.int .i64 0, .int .i64 0] :: rObj g3 (.map (#[] : Array MapEntry) 0) :: rk)) 4 63 ?_ fun hS1 => ?_
  ·
   rintro _ w13 ⟨g4, g3, rfl, K13⟩
   have k5 := ((K13.rm s1).rm s0)
   refine Tn 6 127 hns rfl (fun _ _ => Ev.build (vs := [(0, .int .i64 1), (1, .agg #[.int .i64 0, .int .i64 0]), (2, .agg #[.int .i64 0, .int .i64 0, .slice none 0 0]), (5, .map (some g3)), (6, .slice (some ⟨g4, 0, none⟩) 1 1)]) (cs := [.int .i64 1, .int .i64 0, .int .i64 0, .int .i64 0, .int .i64 0, .slice none 0 0, .int .i64 0, .int .i64 0, .map (some g3), .slice (some ⟨g4, 0, none⟩) 1 1]) rfl (by apply bl_178_0I_1A_2A_5R_6R)) k5 ?_
   refine O1 7 rfl ?_
   refine bx rfl rfl K13 fun g8 w14 K14 => ?_
   have k6 := (((K14.rm s2).rm s1).rm s0)
   refine WH.next k6 <| Ta 8 511 hns rfl rfl k6 <| Ta 9 1023 hns rfl rfl k6 ?_
   exact Dn ⟨g8, g4, g3, rfl, K14⟩ rfl
  refine O2 3 5 rfl rfl ?_ ?_
  ·
   refine mkm H1 rfl fun g9 w15 K15 => ?_
   have k7 := (K15.rm s0)
   refine WH.next k7 <| O1 5 rfl ?_
   refine mkz rfl rfl mk_176_1 K15 fun g10 w16 K16 => ?_
   have k8 := ((K16.rm s1).rm s0)
   exact Kj hS1 k8 ⟨g10, g9, rfl, K16⟩ rfl
  ·
   refine mkz rfl rfl mk_176_1 H1 fun g11 w17 K17 => ?_
   have k9 := (K17.rm s0)
   refine WH.next k9 <| O1 3 rfl ?_
   refine mkm K17 rfl fun g12 w18 K18 => ?_
   have k10 := ((K18.rm s1).rm s0)
   exact Kj hS1 k10 ⟨g11, g12, rfl, ((K18.sel s0).sel s1)⟩ rfl
 rintro _ w19 ⟨gj1, gj2, gj3, rfl, K19⟩
 refine WP.ret (Pst.body_ret rfl rfl rfl ?_)
 exact ⟨gj1, gj3, gj2, rfl, (((((K19.rm s4).rm s3).sel s1).sel s2).sel s2)⟩

theorem au11 {b w : World} {S : Nat → Prop} {F : List Res} {p0 p1 p2 : Nat} (H0 : Hp b S w (rBx p0 97 [.slice (some ⟨p1, 0, none⟩) 1 1, .slice none 0 0] :: rBx p1 100 [.pointer none, .pointer (some ⟨p2, 0, none⟩)] :: rBx p2 61 [.slice none 0 0, .int .i64 0, .int .i64 0, .int .i64 0, .slice none 0 0] :: F)) :
    Rets Tryz.prog 30 #[.pointer (some ⟨p0, 0, none⟩), .int .i64 1] w fun v w' => ∃ (gj1 gj2 gj3 : Nat), v = .tuple #[] ∧ Hp b S w' (rBx p0 97 [.slice (some ⟨p1, 0, none⟩) 1 1, .slice none 0 0] :: rBx p1 100 [.pointer (some ⟨gj1, 0, none⟩), .pointer (some ⟨p2, 0, none⟩)] :: rBx p2 61 [.slice none 0 0, .int .i64 0, .int .i64 0, .int .i64 0, .slice none 0 0] :: rBx gj1 178 [.int .i64 1, .int .i64 0, .int .i64 0, .int .i64 0, .int .i64 0, .slice none 0 0, .int .i64 0, .int .i64 0, .map (some gj2), .slice (some ⟨gj3, 0, none⟩) 1 1] :: rObj gj2 (.map (#[] : Array MapEntry) 0) :: rBx gj3 258 [.int .i64 0, .int .i64 0] :: F) := by
 refine WP.enter Tryz.func30 rfl Tryz.ntmps30 rfl <| rg <| mv rfl <| mv rfl <| WL.call rfl rfl rfl cl_47 (au12 H0) rfl ?_
 rintro _ w1 ⟨rfl, K1⟩
 refine as_ rfl <| dn <| rg <| mv rfl <| ev (Ev.nilCheck rfl) <| ev (Ev.field (q := ⟨p1, 1, none⟩) fa_100_1 rfl rfl) <| ev (Ev.loadBoxCell na_28 rfl (K1.x s1) rfl) ?_
 refine WL.call rfl rfl rfl cl_69 (au13 (((K1.sel s1).sel s1).sel s2)) rfl ?_
 rintro _ w2 ⟨rfl, K2⟩
 refine mv rfl <| xt rfl rfl <| xt rfl rfl ?_
 refine al zero_23 rfl K2 fun g1 w3 K3 => ?_
 refine al zero_26 rfl K3 fun g2 w4 K4 => ?_
 refine stw rfl rfl rfl sz_23 K4 s1 rfl rfl fun w5 K5 => ?_
 refine stw rfl rfl rfl sz_26 K5 s1 rfl rfl fun w6 K6 => ?_
 refine dn ?_
 refine Hf K6 (fun _ K => (K.rm s4)) (fun l0 rk lJ wJ => ∃ (gj1 gj2 gj3 : Nat), lJ = l0 ∧ Hp b S wJ (rBx p1 100 [.pointer (some ⟨gj1, 0, none⟩), .pointer (some ⟨p2, 0, none⟩)] :: rBx gj1 178 [.int .i64 1, .int .i64 0, .int .i64 0, .int .i64 0, .int .i64 0, .slice none 0 0, .int .i64 0, .int .i64 0, .map (some gj2), .slice (some ⟨gj3, 0, none⟩) 1 1] :: rObj gj2 (.map (#[] : Array MapEntry) 0) :: rBx gj3 258 [.int .i64 0, .int .i64 0] :: rk)) (fun hns H1 => ?_) ?_
 ·
  have k1 := (H1.rm s4)
  refine Tm 0 1 hns rfl rfl k1 <| Tm 1 3 hns rfl rfl k1 <| Tm 2 7 hns rfl rfl k1 <| Tn 3 15 hns rfl (fun _ _ => Ev.nilCheck rfl) k1 <| Tn 4 31 hns rfl (fun _ _ => Ev.field (q := ⟨p0, 0, none⟩) fa_97_0 rfl rfl) k1 ?_
  refine Tn 5 63 hns rfl (fun _ hK => Ev.loadBoxCell na_94 rfl (hK.x s3) rfl) k1 <| Tn 6 127 hns rfl (fun _ _ => Ev.len Tryz.underlying94 rfl) k1 <| Tn 7 255 hns rfl (fun _ hK => Ev.loadBox ag_23 rfl rfl (hK.x s1)) k1 ?_
  refine Tn 8 511 hns rfl (fun _ hK => Ev.loadBox ag_26 rfl rfl (hK.x s0)) k1 <| O1 9 rfl <| WL.call rfl rfl rfl cl_70 (au15 H1) rfl ?_
  rintro _ w7 ⟨gu1, gu2, gu3, rfl, K7⟩
  have k2 := ((((K7.rm s7).rm s2).rm s1).rm s0)
  refine WH.next k2 <| Tm 10 2047 hns rfl rfl k2 <| Tn 11 4095 hns rfl (fun _ _ => Ev.extract (vs := [.pointer (some ⟨gu1, 0, none⟩), .int .i64 0]) rfl rfl) k2 ?_
  refine Tn 12 8191 hns rfl (fun _ _ => Ev.extract (vs := [.pointer (some ⟨gu1, 0, none⟩), .int .i64 0]) rfl rfl) k2 <| Tn 13 16383 hns rfl (fun _ _ => Ev.nilCheck rfl) k2 ?_
  refine Tn 14 32767 hns rfl (fun _ _ => Ev.field (q := ⟨p1, 0, none⟩) fa_100_0 rfl rfl) k2 <| O1 15 rfl ?_
  refine stc rfl rfl rfl sz_98 K7 s7 rfl fun w8 K8 => ?_
  have k3 := ((((K8.rm s3).rm s2).rm s1).rm s0)
  refine WH.next k3 ?_
  exact Dn ⟨gu1, gu2, gu3, rfl, K8⟩ rfl
 rintro _ w9 ⟨gj1, gj2, gj3, rfl, K9⟩
 refine Pst.body_norm (Pst.body_ret rfl rfl rfl ?_)
 exact ⟨gj1, gj2, gj3, rfl, ((((((((K9.rm s5).rm s4).sel s3).sel s3).sel s3).sel s4).sel s4).sel s5)⟩

theorem au9 {b w : World} {S : Nat → Prop} {F : List Res} (H0 : Hp b S w F) :
    Rets Tryz.prog 13 #[.int .i64 1] w fun v w' => ∃ (g2 g1 gu2 gj1 gu3 gu4 : Nat), v = .tuple #[.pointer (some ⟨g2, 0, none⟩), .int .i64 0] ∧ Hp b S w' (rBx g2 97 [.slice (some ⟨g1, 0, none⟩) 1 1, .slice none 0 0] :: rBx g1 100 [.pointer (some ⟨gu2, 0, none⟩), .pointer (some ⟨gj1, 0, none⟩)] :: rBx gu2 178 [.int .i64 1, .int .i64 0, .int .i64 0, .int .i64 0, .int .i64 0, .slice none 0 0, .int .i64 0, .int .i64 0, .map (some gu3), .slice (some ⟨gu4, 0, none⟩) 1 1] :: rObj gu3 (.map (#[] : Array MapEntry) 0) :: rBx gu4 258 [.int .i64 0, .int .i64 0] :: rBx gj1 61 [.slice none 0 0, .int .i64 0, .int .i64 0, .int .i64 0, .slice none 0 0] :: F) := by
 refine WP.enter Tryz.func13 rfl Tryz.ntmps13 rfl <| rg <| as_ rfl <| as_ rfl <| dn <| WP.seq <| rg <| mv rfl <| ev (Ev.lss rfl rfl) <| mv rfl <| WL.evg rfl (Ev.move rfl) rfl ?_
 refine WL.evg rfl (Ev.gtr rfl rfl) rfl <| ev (Ev.pick_f rfl rfl) <| dn <| cFe rfl ?_
 refine WP.skip (Pst.norm ?_)
 refine rg <| mv rfl ?_
 refine mkz rfl rfl mk_94_1 H0 fun g1 w1 K1 => ?_
 refine ev (Ev.build (vs := [(0, .slice (some ⟨g1, 0, none⟩) 1 1)]) (cs := [.slice (some ⟨g1, 0, none⟩) 1 1, .slice none 0 0]) rfl (by apply bl_97_0R)) ?_
 refine bx rfl rfl K1 fun g2 w2 K2 => ?_
 refine as_ rfl <| dn <| WP.seq <| rg <| mv rfl <| ev (Ev.nilCheck rfl) <| ev (Ev.field (q := ⟨g2, 0, none⟩) fa_97_0 rfl rfl) <| ev (Ev.loadBoxCell na_94 rfl (K2.x s0) rfl) ?_
 refine ev (Ev.len Tryz.underlying94 rfl) <| mv rfl <| dn <| WP.block ?_
 refine Rn 2 (RN.s ?_)
 refine rg <| ev (Ev.lss rfl rfl) <| dn <| cT rfl ?_
 refine WP.skip (Pst.norm ?_)
 refine WP.seq <| WP.block <| rg <| mv rfl <| as_ rfl <| dn ?_
 refine He K2 (fun _ K => (K.rm s1)) (fun l0 rk lJ wJ => ∃ (gj1 : Nat), lJ = l0 ∧ Hp b S wJ (rBx g1 100 [.pointer none, .pointer (some ⟨gj1, 0, none⟩)] :: rBx gj1 61 [.slice none 0 0, .int .i64 0, .int .i64 0, .int .i64 0, .slice none 0 0] :: rk)) (fun hns H1 => ?_) ?_
 ·
  have k1 := (H1.rm s1)
  refine Tm 0 1 hns rfl rfl k1 <| Tn 1 3 hns rfl (fun _ _ => Ev.nilCheck rfl) k1 <| Tn 2 7 hns rfl (fun _ _ => Ev.field (q := ⟨g2, 0, none⟩) fa_97_0 rfl rfl) k1 ?_
  refine Tn 3 15 hns rfl (fun _ hK => Ev.loadBoxCell na_94 rfl (hK.x s0) rfl) k1 <| Tm 4 31 hns rfl rfl k1 <| O1 5 rfl <| WL.call rfl rfl rfl cl_5 (au10 H1) rfl ?_
  rintro _ w3 ⟨gu1, rfl, K3⟩
  have k2 := ((K3.rm s2).rm s0)
  refine WH.next k2 <| Tn 6 127 hns rfl (fun _ _ => Ev.index (i := 0) Tryz.underlying94 sz_100 rfl rfl rfl (by decide) rfl) k2 <| Tn 7 255 hns rfl (fun _ _ => Ev.field (q := ⟨g1, 1, none⟩) fa_100_1 rfl rfl) k2 ?_
  refine O1 8 rfl ?_
  refine stc rfl rfl rfl sz_28 K3 s2 rfl fun w4 K4 => ?_
  have k3 := ((K4.rm s1).rm s0)
  refine WH.next k3 ?_
  exact Dn ⟨gu1, rfl, K4⟩ rfl
 rintro _ w5 ⟨gj1, rfl, K5⟩
 refine rge <| mv rfl <| mv rfl <| ev (Ev.add rfl rfl (I64.mk (by first | omega | (simp; done) | decide) (by first | omega | (simp; done) | decide))) <| WL.call rfl rfl rfl cl_30 (au11 (((K5.sel s1).sel s1).sel s2)) rfl ?_
 rintro _ w6 ⟨gu2, gu3, gu4, rfl, K6⟩
 refine dne ?_
 refine Pst.blk_norm (Pst.norm ?_)
 refine rge <| ev (Ev.add rfl rfl (I64.mk (by first | omega | (simp; done) | decide) (by first | omega | (simp; done) | decide))) <| mv rfl <| dne ?_
 refine Pst.rnd (RN.s ?_)
 refine rg <| ev (Ev.lss rfl rfl) <| dn <| cF rfl ?_
 refine WP.exit (Pst.then_exit (Pst.then_exit (Pst.blk_eq (Pst.norm ?_))))
 refine rg <| mv rfl <| as_ rfl <| as_ rfl <| dn ?_
 refine WP.ret (Pst.body_ret rfl rfl rfl ?_)
 exact ⟨g2, g1, gu2, gj1, gu3, gu4, rfl, ((((((K6.sel s2).sel s5).sel s5).sel s5).sel s5).sel s5)⟩

theorem au23 {b w : World} {S : Nat → Prop} {F : List Res} {p0 p1 : Nat} (H0 : Hp b S w (rBx p0 93 [.slice none 0 0, .slice none 0 0, .slice none 0 0, .slice none 0 0, .slice none 0 0, .slice none 0 0, .int .i64 10, .int .i64 2, .int .i64 4, .int .i64 2, .int .i64 5, .int .i64 1, .int .i64 0, .map (some p1), .slice none 0 0] :: rObj p1 (.map (#[] : Array MapEntry) 0) :: F)) :
    Rets Tryz.prog 37 #[.pointer (some ⟨p0, 0, none⟩), .bool true, .bool true, .func (.func 38) #[.pointer (some ⟨p0, 0, none⟩)] #[]] w fun v w' => ∃ (g1 g2 g3 g4 : Nat), v = .func (.func 87) #[] #[.pointer (some ⟨g1, 0, none⟩), .pointer (some ⟨g2, 0, none⟩), .pointer (some ⟨g3, 0, none⟩), .pointer (some ⟨g4, 0, none⟩)] ∧ Hp b S w' (rBx p0 93 [.slice none 0 0, .slice none 0 0, .slice none 0 0, .slice none 0 0, .slice none 0 0, .slice none 0 0, .int .i64 10, .int .i64 2, .int .i64 4, .int .i64 2, .int .i64 5, .int .i64 1, .int .i64 0, .map (some p1), .slice none 0 0] :: rObj p1 (.map (#[] : Array MapEntry) 0) :: rBx g1 44 [.pointer (some ⟨p0, 0, none⟩)] :: rBx g2 4 [.bool true] :: rBx g3 4 [.bool true] :: rBx g4 103 [.func (.func 38) #[.pointer (some ⟨p0, 0, none⟩)] #[]] :: F) := by
 refine WP.enter Tryz.func37 rfl Tryz.ntmps37 rfl <| rg ?_
 refine bx rfl rfl H0 fun g1 w1 K1 => ?_
 refine bx rfl rfl K1 fun g2 w2 K2 => ?_
 refine bx rfl rfl K2 fun g3 w3 K3 => ?_
 refine bx rfl rfl K3 fun g4 w4 K4 => ?_
 refine as_ rfl <| dn <| rg <| ev (Ev.func rfl) <| as_ rfl <| dn ?_
 refine WP.ret (Pst.body_ret rfl rfl rfl ?_)
 exact ⟨g1, g2, g3, g4, rfl, ((((((K4.sel s0).sel s1).sel s2).sel s3).sel s5).sel s5)⟩

theorem au24 {b w : World} {S : Nat → Prop} {F : List Res} {p0 p1 : Nat} (H0 : Hp b S w (rBx p0 93 [.slice none 0 0, .slice none 0 0, .slice none 0 0, .slice none 0 0, .slice none 0 0, .slice none 0 0, .int .i64 10, .int .i64 2, .int .i64 4, .int .i64 2, .int .i64 5, .int .i64 1, .int .i64 0, .map (some p1), .slice none 0 0] :: rObj p1 (.map (#[] : Array MapEntry) 0) :: F)) :
    Rets Tryz.prog 37 #[.pointer (some ⟨p0, 0, none⟩), .bool true, .bool true, .func (.func 39) #[.pointer (some ⟨p0, 0, none⟩)] #[]] w fun v w' => ∃ (g1 g2 g3 g4 : Nat), v = .func (.func 87) #[] #[.pointer (some ⟨g1, 0, none⟩), .pointer (some ⟨g2, 0, none⟩), .pointer (some ⟨g3, 0, none⟩), .pointer (some ⟨g4, 0, none⟩)] ∧ Hp b S w' (rBx p0 93 [.slice none 0 0, .slice none 0 0, .slice none 0 0, .slice none 0 0, .slice none 0 0, .slice none 0 0, .int .i64 10, .int .i64 2, .int .i64 4, .int .i64 2, .int .i64 5, .int .i64 1, .int .i64 0, .map (some p1), .slice none 0 0] :: rObj p1 (.map (#[] : Array MapEntry) 0) :: rBx g1 44 [.pointer (some ⟨p0, 0, none⟩)] :: rBx g2 4 [.bool true] :: rBx g3 4 [.bool true] :: rBx g4 103 [.func (.func 39) #[.pointer (some ⟨p0, 0, none⟩)] #[]] :: F) := by
 refine WP.enter Tryz.func37 rfl Tryz.ntmps37 rfl <| rg ?_
 refine bx rfl rfl H0 fun g1 w1 K1 => ?_
 refine bx rfl rfl K1 fun g2 w2 K2 => ?_
 refine bx rfl rfl K2 fun g3 w3 K3 => ?_
 refine bx rfl rfl K3 fun g4 w4 K4 => ?_
 refine as_ rfl <| dn <| rg <| ev (Ev.func rfl) <| as_ rfl <| dn ?_
 refine WP.ret (Pst.body_ret rfl rfl rfl ?_)
 exact ⟨g1, g2, g3, g4, rfl, ((((((K4.sel s0).sel s1).sel s2).sel s3).sel s5).sel s5)⟩

theorem au25 {b w : World} {S : Nat → Prop} {F : List Res} {p0 p1 : Nat} (H0 : Hp b S w (rBx p0 93 [.slice none 0 0, .slice none 0 0, .slice none 0 0, .slice none 0 0, .slice none 0 0, .slice none 0 0, .int .i64 10, .int .i64 2, .int .i64 4, .int .i64 2, .int .i64 5, .int .i64 1, .int .i64 0, .map (some p1), .slice none 0 0] :: rObj p1 (.map (#[] : Array MapEntry) 0) :: F)) :
    Rets Tryz.prog 37 #[.pointer (some ⟨p0, 0, none⟩), .bool true, .bool true, .func (.func 40) #[.pointer (some ⟨p0, 0, none⟩)] #[]] w fun v w' => ∃ (g1 g2 g3 g4 : Nat), v = .func (.func 87) #[] #[.pointer (some ⟨g1, 0, none⟩), .pointer (some ⟨g2, 0, none⟩), .pointer (some ⟨g3, 0, none⟩), .pointer (some ⟨g4, 0, none⟩)] ∧ Hp b S w' (rBx p0 93 [.slice none 0 0, .slice none 0 0, .slice none 0 0, .slice none 0 0, .slice none 0 0, .slice none 0 0, .int .i64 10, .int .i64 2, .int .i64 4, .int .i64 2, .int .i64 5, .int .i64 1, .int .i64 0, .map (some p1), .slice none 0 0] :: rObj p1 (.map (#[] : Array MapEntry) 0) :: rBx g1 44 [.pointer (some ⟨p0, 0, none⟩)] :: rBx g2 4 [.bool true] :: rBx g3 4 [.bool true] :: rBx g4 103 [.func (.func 40) #[.pointer (some ⟨p0, 0, none⟩)] #[]] :: F) := by
 refine WP.enter Tryz.func37 rfl Tryz.ntmps37 rfl <| rg ?_
 refine bx rfl rfl H0 fun g1 w1 K1 => ?_
 refine bx rfl rfl K1 fun g2 w2 K2 => ?_
 refine bx rfl rfl K2 fun g3 w3 K3 => ?_
 refine bx rfl rfl K3 fun g4 w4 K4 => ?_
 refine as_ rfl <| dn <| rg <| ev (Ev.func rfl) <| as_ rfl <| dn ?_
 refine WP.ret (Pst.body_ret rfl rfl rfl ?_)
 exact ⟨g1, g2, g3, g4, rfl, ((((((K4.sel s0).sel s1).sel s2).sel s3).sel s5).sel s5)⟩

theorem au26 {b w : World} {S : Nat → Prop} {F : List Res} {p0 p1 : Nat} (H0 : Hp b S w (rBx p0 93 [.slice none 0 0, .slice none 0 0, .slice none 0 0, .slice none 0 0, .slice none 0 0, .slice none 0 0, .int .i64 10, .int .i64 2, .int .i64 4, .int .i64 2, .int .i64 5, .int .i64 1, .int .i64 0, .map (some p1), .slice none 0 0] :: rObj p1 (.map (#[] : Array MapEntry) 0) :: F)) :
    Rets Tryz.prog 37 #[.pointer (some ⟨p0, 0, none⟩), .bool true, .bool false, .func (.func 41) #[.pointer (some ⟨p0, 0, none⟩)] #[]] w fun v w' => ∃ (g1 g2 g3 g4 : Nat), v = .func (.func 87) #[] #[.pointer (some ⟨g1, 0, none⟩), .pointer (some ⟨g2, 0, none⟩), .pointer (some ⟨g3, 0, none⟩), .pointer (some ⟨g4, 0, none⟩)] ∧ Hp b S w' (rBx p0 93 [.slice none 0 0, .slice none 0 0, .slice none 0 0, .slice none 0 0, .slice none 0 0, .slice none 0 0, .int .i64 10, .int .i64 2, .int .i64 4, .int .i64 2, .int .i64 5, .int .i64 1, .int .i64 0, .map (some p1), .slice none 0 0] :: rObj p1 (.map (#[] : Array MapEntry) 0) :: rBx g1 44 [.pointer (some ⟨p0, 0, none⟩)] :: rBx g2 4 [.bool true] :: rBx g3 4 [.bool false] :: rBx g4 103 [.func (.func 41) #[.pointer (some ⟨p0, 0, none⟩)] #[]] :: F) := by
 refine WP.enter Tryz.func37 rfl Tryz.ntmps37 rfl <| rg ?_
 refine bx rfl rfl H0 fun g1 w1 K1 => ?_
 refine bx rfl rfl K1 fun g2 w2 K2 => ?_
 refine bx rfl rfl K2 fun g3 w3 K3 => ?_
 refine bx rfl rfl K3 fun g4 w4 K4 => ?_
 refine as_ rfl <| dn <| rg <| ev (Ev.func rfl) <| as_ rfl <| dn ?_
 refine WP.ret (Pst.body_ret rfl rfl rfl ?_)
 exact ⟨g1, g2, g3, g4, rfl, ((((((K4.sel s0).sel s1).sel s2).sel s3).sel s5).sel s5)⟩

theorem au27 {b w : World} {S : Nat → Prop} {F : List Res} {p0 p1 : Nat} (H0 : Hp b S w (rBx p0 93 [.slice none 0 0, .slice none 0 0, .slice none 0 0, .slice none 0 0, .slice none 0 0, .slice none 0 0, .int .i64 10, .int .i64 2, .int .i64 4, .int .i64 2, .int .i64 5, .int .i64 1, .int .i64 0, .map (some p1), .slice none 0 0] :: rObj p1 (.map (#[] : Array MapEntry) 0) :: F)) :
    Rets Tryz.prog 37 #[.pointer (some ⟨p0, 0, none⟩), .bool true, .bool true, .func (.func 42) #[.pointer (some ⟨p0, 0, none⟩)] #[]] w fun v w' => ∃ (g1 g2 g3 g4 : Nat), v = .func (.func 87) #[] #[.pointer (some ⟨g1, 0, none⟩), .pointer (some ⟨g2, 0, none⟩), .pointer (some ⟨g3, 0, none⟩), .pointer (some ⟨g4, 0, none⟩)] ∧ Hp b S w' (rBx p0 93 [.slice none 0 0, .slice none 0 0, .slice none 0 0, .slice none 0 0, .slice none 0 0, .slice none 0 0, .int .i64 10, .int .i64 2, .int .i64 4, .int .i64 2, .int .i64 5, .int .i64 1, .int .i64 0, .map (some p1), .slice none 0 0] :: rObj p1 (.map (#[] : Array MapEntry) 0) :: rBx g1 44 [.pointer (some ⟨p0, 0, none⟩)] :: rBx g2 4 [.bool true] :: rBx g3 4 [.bool true] :: rBx g4 103 [.func (.func 42) #[.pointer (some ⟨p0, 0, none⟩)] #[]] :: F) := by
 refine WP.enter Tryz.func37 rfl Tryz.ntmps37 rfl <| rg ?_
 refine bx rfl rfl H0 fun g1 w1 K1 => ?_
 refine bx rfl rfl K1 fun g2 w2 K2 => ?_
 refine bx rfl rfl K2 fun g3 w3 K3 => ?_
 refine bx rfl rfl K3 fun g4 w4 K4 => ?_
 refine as_ rfl <| dn <| rg <| ev (Ev.func rfl) <| as_ rfl <| dn ?_
 refine WP.ret (Pst.body_ret rfl rfl rfl ?_)
 exact ⟨g1, g2, g3, g4, rfl, ((((((K4.sel s0).sel s1).sel s2).sel s3).sel s5).sel s5)⟩

theorem au28 {b w : World} {S : Nat → Prop} {F : List Res} {p0 p1 : Nat} (H0 : Hp b S w (rBx p0 93 [.slice none 0 0, .slice none 0 0, .slice none 0 0, .slice none 0 0, .slice none 0 0, .slice none 0 0, .int .i64 10, .int .i64 2, .int .i64 4, .int .i64 2, .int .i64 5, .int .i64 1, .int .i64 0, .map (some p1), .slice none 0 0] :: rObj p1 (.map (#[] : Array MapEntry) 0) :: F)) :
    Rets Tryz.prog 37 #[.pointer (some ⟨p0, 0, none⟩), .bool false, .bool false, .func (.func 43) #[.pointer (some ⟨p0, 0, none⟩)] #[]] w fun v w' => ∃ (g1 g2 g3 g4 : Nat), v = .func (.func 87) #[] #[.pointer (some ⟨g1, 0, none⟩), .pointer (some ⟨g2, 0, none⟩), .pointer (some ⟨g3, 0, none⟩), .pointer (some ⟨g4, 0, none⟩)] ∧ Hp b S w' (rBx p0 93 [.slice none 0 0, .slice none 0 0, .slice none 0 0, .slice none 0 0, .slice none 0 0, .slice none 0 0, .int .i64 10, .int .i64 2, .int .i64 4, .int .i64 2, .int .i64 5, .int .i64 1, .int .i64 0, .map (some p1), .slice none 0 0] :: rObj p1 (.map (#[] : Array MapEntry) 0) :: rBx g1 44 [.pointer (some ⟨p0, 0, none⟩)] :: rBx g2 4 [.bool false] :: rBx g3 4 [.bool false] :: rBx g4 103 [.func (.func 43) #[.pointer (some ⟨p0, 0, none⟩)] #[]] :: F) := by
 refine WP.enter Tryz.func37 rfl Tryz.ntmps37 rfl <| rg ?_
 refine bx rfl rfl H0 fun g1 w1 K1 => ?_
 refine bx rfl rfl K1 fun g2 w2 K2 => ?_
 refine bx rfl rfl K2 fun g3 w3 K3 => ?_
 refine bx rfl rfl K3 fun g4 w4 K4 => ?_
 refine as_ rfl <| dn <| rg <| ev (Ev.func rfl) <| as_ rfl <| dn ?_
 refine WP.ret (Pst.body_ret rfl rfl rfl ?_)
 exact ⟨g1, g2, g3, g4, rfl, ((((((K4.sel s0).sel s1).sel s2).sel s3).sel s5).sel s5)⟩

theorem au29 {b w : World} {S : Nat → Prop} {F : List Res} {p0 p1 : Nat} (H0 : Hp b S w (rBx p0 93 [.slice none 0 0, .slice none 0 0, .slice none 0 0, .slice none 0 0, .slice none 0 0, .slice none 0 0, .int .i64 10, .int .i64 2, .int .i64 4, .int .i64 2, .int .i64 5, .int .i64 1, .int .i64 0, .map (some p1), .slice none 0 0] :: rObj p1 (.map (#[] : Array MapEntry) 0) :: F)) :
    Rets Tryz.prog 37 #[.pointer (some ⟨p0, 0, none⟩), .bool false, .bool false, .func (.func 44) #[.pointer (some ⟨p0, 0, none⟩)] #[]] w fun v w' => ∃ (g1 g2 g3 g4 : Nat), v = .func (.func 87) #[] #[.pointer (some ⟨g1, 0, none⟩), .pointer (some ⟨g2, 0, none⟩), .pointer (some ⟨g3, 0, none⟩), .pointer (some ⟨g4, 0, none⟩)] ∧ Hp b S w' (rBx p0 93 [.slice none 0 0, .slice none 0 0, .slice none 0 0, .slice none 0 0, .slice none 0 0, .slice none 0 0, .int .i64 10, .int .i64 2, .int .i64 4, .int .i64 2, .int .i64 5, .int .i64 1, .int .i64 0, .map (some p1), .slice none 0 0] :: rObj p1 (.map (#[] : Array MapEntry) 0) :: rBx g1 44 [.pointer (some ⟨p0, 0, none⟩)] :: rBx g2 4 [.bool false] :: rBx g3 4 [.bool false] :: rBx g4 103 [.func (.func 44) #[.pointer (some ⟨p0, 0, none⟩)] #[]] :: F) := by
 refine WP.enter Tryz.func37 rfl Tryz.ntmps37 rfl <| rg ?_
 refine bx rfl rfl H0 fun g1 w1 K1 => ?_
 refine bx rfl rfl K1 fun g2 w2 K2 => ?_
 refine bx rfl rfl K2 fun g3 w3 K3 => ?_
 refine bx rfl rfl K3 fun g4 w4 K4 => ?_
 refine as_ rfl <| dn <| rg <| ev (Ev.func rfl) <| as_ rfl <| dn ?_
 refine WP.ret (Pst.body_ret rfl rfl rfl ?_)
 exact ⟨g1, g2, g3, g4, rfl, ((((((K4.sel s0).sel s1).sel s2).sel s3).sel s5).sel s5)⟩

theorem au34 {b w : World} {S : Nat → Prop} {F : List Res} (H0 : Hp b S w F) :
    Rets Tryz.prog 212 #[.slice none 0 0] w fun v w' => v = .slice none 0 0 ∧ Hp b S w' F := by
 refine WP.enter Tryz.func212 rfl Tryz.ntmps212 rfl <| rg <| as_ rfl <| dn <| WP.seq <| rg <| mv rfl <| ev (Ev.eqnil Tryz.underlying82 rfl rfl) <| dn <| cTe rfl <| rg ?_
 refine as_ rfl <| dn ?_
 refine WP.ret (Pst.then_ret (Pst.body_ret rfl rfl rfl ?_))
 exact ⟨rfl, H0⟩

theorem au35 {b w : World} {S : Nat → Prop} {F : List Res} (H0 : Hp b S w F) :
    Rets Tryz.prog 187 #[.slice none 0 0] w fun v w' => v = .slice none 0 0 ∧ Hp b S w' F := by
 refine WP.enter Tryz.func187 rfl Tryz.ntmps187 rfl <| rg <| as_ rfl <| dn <| WP.seq <| rg <| mv rfl <| ev (Ev.eqnil Tryz.underlying83 rfl rfl) <| dn <| cTe rfl <| rg ?_
 refine as_ rfl <| dn ?_
 refine WP.ret (Pst.then_ret (Pst.body_ret rfl rfl rfl ?_))
 exact ⟨rfl, H0⟩

theorem au36 {b w : World} {S : Nat → Prop} {F : List Res} (H0 : Hp b S w F) :
    Rets Tryz.prog 213 #[.slice none 0 0] w fun v w' => v = .slice none 0 0 ∧ Hp b S w' F := by
 refine WP.enter Tryz.func213 rfl Tryz.ntmps213 rfl <| rg <| as_ rfl <| dn <| WP.seq <| rg <| mv rfl <| ev (Ev.eqnil Tryz.underlying84 rfl rfl) <| dn <| cTe rfl <| rg ?_
 refine as_ rfl <| dn ?_
 refine WP.ret (Pst.then_ret (Pst.body_ret rfl rfl rfl ?_))
 exact ⟨rfl, H0⟩

theorem au33 {b w : World} {S : Nat → Prop} {F : List Res} (H0 : Hp b S w F) :
    Rets Tryz.prog 141 #[.agg #[.slice none 0 0, .slice none 0 0, .slice none 0 0]] w fun v w' => v = .agg #[.slice none 0 0, .slice none 0 0, .slice none 0 0] ∧ Hp b S w' F := by
 refine WP.enter Tryz.func141 rfl Tryz.ntmps141 rfl <| rg ?_
 refine bx rfl rfl H0 fun g1 w1 K1 => ?_
 refine al zero_86 rfl K1 fun g2 w2 K2 => ?_
 refine dn ?_
 refine He K2 (fun _ K => (K.rm s1)) (fun l0 rk lJ wJ => lJ = l0 ∧ Hp b S wJ (rBx g1 86 [.slice none 0 0, .slice none 0 0, .slice none 0 0] :: rk)) (fun hns H1 => ?_) ?_
 ·
  have k1 := (H1.rm s1)
  refine Tn 0 1 hns rfl (fun _ _ => Ev.field (q := ⟨g1, 0, none⟩) fa_86_0 rfl rfl) k1 <| Tn 3 9 hns rfl (fun _ _ => Ev.field (q := ⟨g1, 1, none⟩) fa_86_1 rfl rfl) k1 ?_
  refine Tn 6 73 hns rfl (fun _ _ => Ev.field (q := ⟨g1, 2, none⟩) fa_86_2 rfl rfl) k1 ?_
  refine Jn H1 (fun l0 rk lJ wJ => lJ = (7, .slice none 0 0) :: (10, .slice none 0 0) :: (13, .slice none 0 0) :: (14, .pointer (some ⟨g1, 0, none⟩)) :: l0 ∧ Hp b S wJ rk) 5 1023 ?_ fun hS1 => ?_
  ·
   rintro _ w14 ⟨rfl, K14⟩
   refine O1 10 rfl ?_
   refine stc rfl rfl rfl sz_82 K14 s1 rfl fun w15 K15 => ?_
   have k9 := (K15.rm s0)
   refine WH.next k9 <| Tn 11 4095 hns rfl (fun _ _ => Ev.field (q := ⟨g1, 1, none⟩) fa_86_1 rfl rfl) k9 <| O1 12 rfl ?_
   refine stc rfl rfl rfl sz_83 K15 s0 rfl fun w16 K16 => ?_
   have k10 := (K16.rm s0)
   refine WH.next k10 <| Tn 13 16383 hns rfl (fun _ _ => Ev.field (q := ⟨g1, 2, none⟩) fa_86_2 rfl rfl) k10 <| O1 14 rfl ?_
   refine stc rfl rfl rfl sz_84 K16 s0 rfl fun w17 K17 => ?_
   have k11 := (K17.rm s0)
   refine WH.next k11 ?_
   exact Dn ⟨rfl, K17⟩ rfl
  refine Jn H1 (fun l0 rk lJ wJ => lJ = (7, .slice none 0 0) :: (9, .slice none 0 0) :: (12, .slice none 0 0) :: l0 ∧ Hp b S wJ rk) 8 223 ?_ fun hS2 => ?_
  ·
   rintro _ w18 ⟨rfl, K18⟩
   have k12 := (K18.rm s1)
   refine Tn 9 735 hns rfl (fun _ _ => Ev.field (q := ⟨g1, 0, none⟩) fa_86_0 rfl rfl) k12 <| O1 5 rfl <| WL.call rfl rfl rfl cl_187 (au35 K18) rfl ?_
   rintro _ w19 ⟨rfl, K19⟩
   have k13 := (K19.rm s1)
   refine WH.next k13 <| O1 8 rfl <| WL.call rfl rfl rfl cl_213 (au36 K19) rfl ?_
   rintro _ w20 ⟨rfl, K20⟩
   have k14 := (K20.rm s1)
   exact Kj hS1 k14 ⟨rfl, K20⟩ rfl
  refine Jn H1 (fun l0 rk lJ wJ => lJ = (7, .slice none 0 0) :: (9, .slice none 0 0) :: l0 ∧ Hp b S wJ rk) 9 95 ?_ fun hS3 => ?_
  ·
   rintro _ w21 ⟨rfl, K21⟩
   refine O2 5 7 rfl rfl ?_ ?_
   ·
    refine WL.call rfl rfl rfl cl_187 (au35 K21) rfl ?_
    rintro _ w22 ⟨rfl, K22⟩
    have k15 := (K22.rm s1)
    refine WH.next k15 <| O1 7 rfl <| ev (Ev.loadBoxCell na_84 rfl (K22.x s1) rfl) <| WH.next k15 <| Tn 9 767 hns rfl (fun _ _ => Ev.field (q := ⟨g1, 0, none⟩) fa_86_0 rfl rfl) k15 ?_
    refine O1 8 rfl <| WL.call rfl rfl rfl cl_213 (au36 K22) rfl ?_
    rintro _ w23 ⟨rfl, K23⟩
    have k16 := (K23.rm s1)
    exact Kj hS1 k16 ⟨rfl, K23⟩ rfl
   ·
    refine ev (Ev.loadBoxCell na_84 rfl (K21.x s1) rfl) ?_
    have k17 := (K21.rm s1)
    exact Kj hS2 k17 ⟨rfl, K21⟩ rfl
  refine Jn H1 (fun l0 rk lJ wJ => lJ = (7, .slice none 0 0) :: (12, .slice none 0 0) :: l0 ∧ Hp b S wJ rk) 9 207 ?_ fun hS4 => ?_
  ·
   rintro _ w24 ⟨rfl, K24⟩
   refine O1 4 rfl <| ev (Ev.loadBoxCell na_83 rfl (K24.x s1) rfl) ?_
   have k18 := (K24.rm s1)
   exact Kj hS2 k18 ⟨rfl, K24⟩ rfl
  refine Jn H1 (fun l0 rk lJ wJ => lJ = (6, .slice none 0 0) :: (9, .slice none 0 0) :: (12, .slice none 0 0) :: l0 ∧ Hp b S wJ rk) 9 219 ?_ fun hS5 => ?_
  ·
   rintro _ w25 ⟨rfl, K25⟩
   refine O1 2 rfl <| WL.call rfl rfl rfl cl_212 (au34 K25) rfl ?_
   rintro _ w26 ⟨rfl, K26⟩
   have k19 := (K26.rm s1)
   exact Kj hS2 k19 ⟨rfl, K26⟩ rfl
  refine Jn H1 (fun l0 rk lJ wJ => lJ = (6, .slice none 0 0) :: (9, .slice none 0 0) :: l0 ∧ Hp b S wJ rk) 10 91 ?_ fun hS6 => ?_
  ·
   rintro _ w27 ⟨rfl, K27⟩
   refine O2 2 7 rfl rfl ?_ ?_
   ·
    refine WL.call rfl rfl rfl cl_212 (au34 K27) rfl ?_
    rintro _ w28 ⟨rfl, K28⟩
    have k20 := (K28.rm s1)
    exact Kj hS3 k20 ⟨rfl, K28⟩ rfl
   ·
    refine ev (Ev.loadBoxCell na_84 rfl (K27.x s1) rfl) ?_
    have k21 := (K27.rm s1)
    exact Kj hS5 k21 ⟨rfl, K27⟩ rfl
  refine Jn H1 (fun l0 rk lJ wJ => lJ = (6, .slice none 0 0) :: (12, .slice none 0 0) :: l0 ∧ Hp b S wJ rk) 10 203 ?_ fun hS7 => ?_
  ·
   rintro _ w29 ⟨rfl, K29⟩
   refine O2 2 4 rfl rfl ?_ ?_
   ·
    refine WL.call rfl rfl rfl cl_212 (au34 K29) rfl ?_
    rintro _ w30 ⟨rfl, K30⟩
    have k22 := (K30.rm s1)
    exact Kj hS4 k22 ⟨rfl, K30⟩ rfl
   ·
    refine ev (Ev.loadBoxCell na_83 rfl (K29.x s1) rfl) ?_
    have k23 := (K29.rm s1)
    exact Kj hS5 k23 ⟨rfl, K29⟩ rfl
  refine Jn H1 (fun l0 rk lJ wJ => lJ = (9, .slice none 0 0) :: (12, .slice none 0 0) :: l0 ∧ Hp b S wJ rk) 10 217 ?_ fun hS8 => ?_
  ·
   rintro _ w31 ⟨rfl, K31⟩
   refine O1 1 rfl <| ev (Ev.loadBoxCell na_82 rfl (K31.x s1) rfl) ?_
   have k24 := (K31.rm s1)
   exact Kj hS5 k24 ⟨rfl, K31⟩ rfl
  refine WH.all (fuel := 11) (rs := [1, 4, 7]) (by kernel_rfl) (by decide) ?_
  simp only [List.forall_mem_cons, List.not_mem_nil, false_implies, implies_true, and_true]
  refine ⟨?_, ?_, ?_⟩
  ·
   refine ⟨_, rfl, ?_⟩
   refine ev (Ev.loadBoxCell na_82 rfl (H1.x s1) rfl) <| WH.next k1 <| WH.all (fuel := 10) (rs := [2, 4, 7]) (by kernel_rfl) (by decide) ?_
   simp only [List.forall_mem_cons, List.not_mem_nil, false_implies, implies_true, and_true]
   refine ⟨?_, ?_, ?_⟩
   ·
    refine ⟨_, rfl, ?_⟩
    refine WL.call rfl rfl rfl cl_212 (au34 H1) rfl ?_
    rintro _ w32 ⟨rfl, K32⟩
    have k25 := (K32.rm s1)
    refine WH.next k25 ?_
    refine O2 4 7 rfl rfl ?_ ?_
    ·
     refine ev (Ev.loadBoxCell na_83 rfl (K32.x s1) rfl) ?_
     exact Kj hS3 k25 ⟨rfl, K32⟩ rfl
    ·
     refine ev (Ev.loadBoxCell na_84 rfl (K32.x s1) rfl) ?_
     exact Kj hS4 k25 ⟨rfl, K32⟩ rfl
   ·
    refine ⟨_, rfl, ?_⟩
    refine ev (Ev.loadBoxCell na_83 rfl (H1.x s1) rfl) ?_
    exact Kj hS6 k1 ⟨rfl, H1⟩ rfl
   ·
    refine ⟨_, rfl, ?_⟩
    refine ev (Ev.loadBoxCell na_84 rfl (H1.x s1) rfl) ?_
    exact Kj hS7 k1 ⟨rfl, H1⟩ rfl
  ·
   refine ⟨_, rfl, ?_⟩
   refine ev (Ev.loadBoxCell na_83 rfl (H1.x s1) rfl) <| WH.next k1 ?_
   refine O2 1 7 rfl rfl ?_ ?_
   ·
    refine ev (Ev.loadBoxCell na_82 rfl (H1.x s1) rfl) ?_
    exact Kj hS6 k1 ⟨rfl, H1⟩ rfl
   ·
    refine ev (Ev.loadBoxCell na_84 rfl (H1.x s1) rfl) ?_
    exact Kj hS8 k1 ⟨rfl, H1⟩ rfl
  ·
   refine ⟨_, rfl, ?_⟩
   refine ev (Ev.loadBoxCell na_84 rfl (H1.x s1) rfl) <| WH.next k1 ?_
   refine O2 1 4 rfl rfl ?_ ?_
   ·
    refine ev (Ev.loadBoxCell na_82 rfl (H1.x s1) rfl) ?_
    exact Kj hS7 k1 ⟨rfl, H1⟩ rfl
   ·
    refine ev (Ev.loadBoxCell na_83 rfl (H1.x s1) rfl) ?_
    exact Kj hS8 k1 ⟨rfl, H1⟩ rfl
 rintro _ w33 ⟨rfl, K33⟩
 refine WP.seq <| rg <| ev (Ev.field (q := ⟨g1, 1, none⟩) fa_86_1 rfl rfl) <| ev (Ev.loadBoxCell na_83 rfl (K33.x s0) rfl) <| ev (Ev.len Tryz.underlying83 rfl) ?_
 refine mv rfl <| dn <| WP.block ?_
 refine Rn 1 (RN.s ?_)
 refine rg <| ev (Ev.lss rfl rfl) <| dn <| cF rfl ?_
 refine WP.exit (Pst.then_exit (Pst.then_exit (Pst.blk_eq (Pst.norm ?_))))
 refine rg <| ev (Ev.loadBox ag_86 rfl rfl (K33.x s0)) ?_
 refine stw rfl rfl rfl sz_86 K33 s1 rfl rfl fun w34 K34 => ?_
 refine dn ?_
 refine WP.ret (Pst.retC rfl ⟨_, _, rfl, ⟨_, rfl, loads_box (cs := [.slice none 0 0, .slice none 0 0, .slice none 0 0]) ag_86 rfl (K34.x s0)⟩, rfl⟩ ?_)
 exact ⟨rfl, ((K34.rm s1).rm s0)⟩

theorem au38 {b w : World} {S : Nat → Prop} {F : List Res} (H0 : Hp b S w F) :
    Rets Tryz.prog 152 #[.slice none 0 0] w fun v w' => v = .bool true ∧ Hp b S w' F := by
 refine WP.enter Tryz.func152 rfl Tryz.ntmps152 rfl <| rg <| as_ rfl <| dn <| rg <| as_ rfl <| dn <| WP.seq <| rg <| mv rfl <| ev (Ev.len Tryz.underlying82 rfl) <| mv rfl ?_
 refine dn <| WP.block ?_
 refine Rn 1 (RN.s ?_)
 refine rg <| ev (Ev.lss rfl rfl) <| dn <| cF rfl ?_
 refine WP.exit (Pst.then_exit (Pst.then_exit (Pst.blk_eq (Pst.norm ?_))))
 refine rg <| as_ rfl <| dn ?_
 refine WP.ret (Pst.body_ret rfl rfl rfl ?_)
 exact ⟨rfl, H0⟩

theorem au40 {b w : World} {S : Nat → Prop} {F : List Res} (H0 : Hp b S w F) :
    Rets Tryz.prog 183 #[.slice none 0 0, .int .i64 1, .int .i64 1048576] w fun v w' => v = .bool true ∧ Hp b S w' F := by
 refine WP.enter Tryz.func183 rfl Tryz.ntmps183 rfl <| rg <| as_ rfl <| dn <| WP.seq <| rg <| mv rfl <| ev (Ev.len Tryz.underlying72 rfl) <| mv rfl <| dn <| WP.block ?_
 refine Rn 1 (RN.s ?_)
 refine rg <| ev (Ev.lss rfl rfl) <| dn <| cF rfl ?_
 refine WP.exit (Pst.then_exit (Pst.then_exit (Pst.blk_eq (Pst.norm ?_))))
 refine rg <| as_ rfl <| dn ?_
 refine WP.ret (Pst.body_ret rfl rfl rfl ?_)
 exact ⟨rfl, H0⟩

theorem au39 {b w : World} {S : Nat → Prop} {F : List Res} (H0 : Hp b S w F) :
    Rets Tryz.prog 125 #[.slice none 0 0] w fun v w' => v = .bool true ∧ Hp b S w' F := by
 refine WP.enter Tryz.func125 rfl Tryz.ntmps125 rfl <| rg <| as_ rfl <| dn <| rg <| as_ rfl <| dn <| WP.seq <| rg <| mv rfl <| ev (Ev.len Tryz.underlying83 rfl) <| mv rfl ?_
 refine dn <| WP.block ?_
 refine Rn 1 (RN.s ?_)
 refine rg <| ev (Ev.lss rfl rfl) <| dn <| cF rfl ?_
 refine WP.exit (Pst.then_exit (Pst.then_exit (Pst.blk_eq (Pst.norm ?_))))
 refine rg <| mv rfl <| ev (Ev.len Tryz.underlying83 rfl) <| ev (Ev.leq rfl rfl) <| mv rfl <| WL.evg rfl (Ev.move rfl) rfl <| WL.callg rfl rfl rfl rfl cl_183 (au40 H0) rfl ?_
 rintro _ w1 ⟨rfl, K1⟩
 refine ev (Ev.pick_t rfl rfl) <| as_ rfl <| dn ?_
 refine WP.ret (Pst.body_ret rfl rfl rfl ?_)
 exact ⟨rfl, K1⟩

theorem au41 {b w : World} {S : Nat → Prop} {F : List Res} (H0 : Hp b S w F) :
    Rets Tryz.prog 217 #[.slice none 0 0] w fun v w' => v = .bool true ∧ Hp b S w' F := by
 refine WP.enter Tryz.func217 rfl Tryz.ntmps217 rfl <| rg <| as_ rfl <| dn <| rg <| as_ rfl <| dn <| WP.seq <| rg <| mv rfl <| ev (Ev.len Tryz.underlying84 rfl) <| mv rfl ?_
 refine dn <| WP.block ?_
 refine Rn 1 (RN.s ?_)
 refine rg <| ev (Ev.lss rfl rfl) <| dn <| cF rfl ?_
 refine WP.exit (Pst.then_exit (Pst.then_exit (Pst.blk_eq (Pst.norm ?_))))
 refine rg <| mv rfl <| ev (Ev.len Tryz.underlying84 rfl) <| ev (Ev.leq rfl rfl) <| as_ rfl <| dn ?_
 refine WP.ret (Pst.body_ret rfl rfl rfl ?_)
 exact ⟨rfl, H0⟩

theorem au43 {b w : World} {S : Nat → Prop} {F : List Res} {p0 p1 : Nat} (H0 : Hp b S w (rBx p0 56 [.func (.func 214) #[] #[.pointer (some ⟨p1, 0, none⟩)]] :: rBx p1 86 [.slice none 0 0, .slice none 0 0, .slice none 0 0] :: F)) :
    Rets Tryz.prog 277 #[.slice none 0 0, .func (.func 216) #[] #[.pointer (some ⟨p0, 0, none⟩)]] w fun v w' => v = .int .i64 (-1) ∧ Hp b S w' (rBx p0 56 [.func (.func 214) #[] #[.pointer (some ⟨p1, 0, none⟩)]] :: rBx p1 86 [.slice none 0 0, .slice none 0 0, .slice none 0 0] :: F) := by
 refine WP.enter Tryz.func277 rfl Tryz.ntmps277 rfl <| rg <| as_ rfl <| dn <| WP.seq <| rg <| mv rfl <| ev (Ev.len Tryz.underlying83 rfl) <| mv rfl <| dn <| WP.block ?_
 refine Rn 1 (RN.s ?_)
 refine rg <| ev (Ev.lss rfl rfl) <| dn <| cF rfl ?_
 refine WP.exit (Pst.then_exit (Pst.then_exit (Pst.blk_eq (Pst.norm ?_))))
 refine rg <| as_ rfl <| dn ?_
 refine WP.ret (Pst.body_ret rfl rfl rfl ?_)
 exact ⟨rfl, H0⟩

theorem au42 {b w : World} {S : Nat → Prop} {F : List Res} {p0 p1 : Nat} (H0 : Hp b S w (rBx p0 56 [.func (.func 214) #[] #[.pointer (some ⟨p1, 0, none⟩)]] :: rBx p1 86 [.slice none 0 0, .slice none 0 0, .slice none 0 0] :: F)) :
    Rets Tryz.prog 218 #[.slice none 0 0, .func (.func 216) #[] #[.pointer (some ⟨p0, 0, none⟩)]] w fun v w' => v = .bool false ∧ Hp b S w' (rBx p0 56 [.func (.func 214) #[] #[.pointer (some ⟨p1, 0, none⟩)]] :: rBx p1 86 [.slice none 0 0, .slice none 0 0, .slice none 0 0] :: F) := by
 refine WP.enter Tryz.func218 rfl Tryz.ntmps218 rfl <| rg <| as_ rfl <| dn <| rg <| mv rfl <| mv rfl <| WL.call rfl rfl rfl cl_277 (au43 H0) rfl ?_
 rintro _ w1 ⟨rfl, K1⟩
 refine ev (Ev.geq rfl rfl) <| as_ rfl <| dn ?_
 refine WP.ret (Pst.body_ret rfl rfl rfl ?_)
 exact ⟨rfl, K1⟩

theorem au37 {b w : World} {S : Nat → Prop} {F : List Res} (H0 : Hp b S w F) :
    Rets Tryz.prog 142 #[.agg #[.slice none 0 0, .slice none 0 0, .slice none 0 0]] w fun v w' => v = .bool true ∧ Hp b S w' F := by
 refine WP.enter Tryz.func142 rfl Tryz.ntmps142 rfl <| rg ?_
 refine bx rfl rfl H0 fun g1 w1 K1 => ?_
 refine as_ rfl <| dn <| rg <| ev (Ev.func rfl) ?_
 refine al zero_56 rfl K1 fun g2 w2 K2 => ?_
 refine stc rfl rfl rfl sz_56 K2 s0 rfl fun w3 K3 => ?_
 refine dn <| rg <| ev (Ev.func rfl) <| as_ rfl <| dn <| rg <| ev (Ev.field (q := ⟨g1, 0, none⟩) fa_86_0 rfl rfl) <| ev (Ev.loadBoxCell na_82 rfl (K3.x s1) rfl) ?_
 refine WL.call rfl rfl rfl cl_152 (au38 K3) rfl ?_
 rintro _ w4 ⟨rfl, K4⟩
 refine mv rfl <| WL.evg rfl (Ev.field (q := ⟨g1, 1, none⟩) fa_86_1 rfl rfl) rfl <| WL.evg rfl (Ev.loadBoxCell na_83 rfl (K4.x s1) rfl) rfl <| WL.callg rfl rfl rfl rfl cl_125 (au39 K4) rfl ?_
 rintro _ w5 ⟨rfl, K5⟩
 refine ev (Ev.pick_t rfl rfl) <| mv rfl <| WL.evg rfl (Ev.field (q := ⟨g1, 2, none⟩) fa_86_2 rfl rfl) rfl <| WL.evg rfl (Ev.loadBoxCell na_84 rfl (K5.x s1) rfl) rfl ?_
 refine WL.callg rfl rfl rfl rfl cl_217 (au41 K5) rfl ?_
 rintro _ w6 ⟨rfl, K6⟩
 refine ev (Ev.pick_t rfl rfl) <| mv rfl <| WL.evg rfl (Ev.field (q := ⟨g1, 1, none⟩) fa_86_1 rfl rfl) rfl <| WL.evg rfl (Ev.loadBoxCell na_83 rfl (K6.x s1) rfl) rfl ?_
 refine WL.evg rfl (Ev.move rfl) rfl <| WL.callg rfl rfl rfl rfl cl_218 (au42 K6) rfl ?_
 rintro _ w7 ⟨rfl, K7⟩
 refine WL.evg rfl (Ev.not rfl) rfl <| ev (Ev.pick_t rfl rfl) <| as_ rfl <| dn ?_
 refine WP.ret (Pst.body_ret rfl rfl rfl ?_)
 exact ⟨rfl, ((K7.rm s1).rm s0)⟩

theorem au45 {b w : World} {S : Nat → Prop} {F : List Res} (H0 : Hp b S w F) :
    Rets Tryz.prog 219 #[] w fun v w' => ∃ (g1 : Nat), v = .map (some g1) ∧ Hp b S w' (rObj g1 (.map (Array.push (Array.push (Array.push (Array.push (Array.push (Array.push (Array.push (Array.push (#[] : Array MapEntry) ⟨.int .i64 0, .func (.func 278) #[] #[], 0⟩) ⟨.int .i64 1, .func (.func 279) #[] #[], 1⟩) ⟨.int .i64 2, .func (.func 282) #[] #[], 2⟩) ⟨.int .i64 3, .func (.func 285) #[] #[], 3⟩) ⟨.int .i64 4, .func (.func 288) #[] #[], 4⟩) ⟨.int .i64 5, .func (.func 290) #[] #[], 5⟩) ⟨.int .i64 6, .func (.func 293) #[] #[], 6⟩) ⟨.int .i64 7, .func (.func 295) #[] #[], 7⟩) 8) :: F) := by
 refine WP.enter Tryz.func219 rfl Tryz.ntmps219 rfl <| rg <| as_ rfl <| dn <| rg ?_
 refine mkm H0 rfl fun g1 w1 K1 => ?_
 refine ins K1 s0 rfl rfl rfl Tryz.underlying322 Tryz.underlying3 rfl fun w2 K2 => ?_
 refine ins K2 s0 rfl rfl rfl Tryz.underlying322 Tryz.underlying3 rfl fun w3 K3 => ?_
 refine ins K3 s0 rfl rfl rfl Tryz.underlying322 Tryz.underlying3 rfl fun w4 K4 => ?_
 refine ins K4 s0 rfl rfl rfl Tryz.underlying322 Tryz.underlying3 rfl fun w5 K5 => ?_
 refine ins K5 s0 rfl rfl rfl Tryz.underlying322 Tryz.underlying3 rfl fun w6 K6 => ?_
 refine ins K6 s0 rfl rfl rfl Tryz.underlying322 Tryz.underlying3 rfl fun w7 K7 => ?_
 refine ins K7 s0 rfl rfl rfl Tryz.underlying322 Tryz.underlying3 rfl fun w8 K8 => ?_
 refine ins K8 s0 rfl rfl rfl Tryz.underlying322 Tryz.underlying3 rfl fun w9 K9 => ?_
 refine mv rfl <| as_ rfl <| dn ?_
 refine WP.ret (Pst.body_ret rfl rfl rfl ?_)
 exact ⟨g1, rfl, K9⟩

theorem au48 {b w : World} {S : Nat → Prop} {F : List Res} (H0 : Hp b S w F) :
    Rets Tryz.prog 320 #[.slice none 0 0] w fun v w' => v = .slice none 0 0 ∧ Hp b S w' F := by
 refine WP.enter Tryz.func320 rfl Tryz.ntmps320 rfl <| rg <| as_ rfl <| dn <| WP.seq <| rg <| mv rfl <| WL.call rfl rfl rfl cl_152 (au38 H0) rfl ?_
 rintro _ w1 ⟨rfl, K1⟩
 refine ev (Ev.not rfl) <| dn <| cFe rfl ?_
 refine WP.skip (Pst.norm ?_)
 refine rg <| mv rfl <| WL.call rfl rfl rfl cl_212 (au34 K1) rfl ?_
 rintro _ w2 ⟨rfl, K2⟩
 refine as_ rfl <| dn ?_
 refine WP.ret (Pst.body_ret rfl rfl rfl ?_)
 exact ⟨rfl, K2⟩

theorem au50 {b w : World} {S : Nat → Prop} {F : List Res} (H0 : Hp b S w F) :
    Rets Tryz.prog 359 #[.slice none 0 0, .int .i64 1, .func (.func 360) #[] #[]] w fun v w' => v = .tuple #[.int .i64 0, .bool false] ∧ Hp b S w' F := by
 refine WP.enter Tryz.func359 rfl Tryz.ntmps359 rfl <| rg <| as_ rfl <| as_ rfl <| dn <| rg <| mv rfl <| ev (Ev.len Tryz.underlying82 rfl) <| as_ rfl <| dn <| rg ?_
 refine mv rfl <| as_ rfl <| as_ rfl <| dn <| WP.seq <| WP.block ?_
 refine Rn 1 (RN.s ?_)
 refine WP.seq <| rg <| mv rfl <| mv rfl <| ev (Ev.lss rfl rfl) <| dn <| cFe rfl ?_
 refine WP.exit (Pst.then_exit (Pst.then_exit (Pst.blk_eq (Pst.norm ?_))))
 refine rg <| mv rfl <| mv rfl <| mv rfl <| ev (Ev.lss rfl rfl) <| mv rfl <| WL.pass rfl rfl rfl <| WL.pass rfl rfl rfl <| WL.pass rfl rfl rfl <| WL.pass rfl rfl rfl ?_
 refine WL.pass rfl rfl rfl <| WL.pass rfl rfl rfl <| WL.pass rfl rfl rfl <| WL.pass rfl rfl rfl <| ev (Ev.pick_f rfl rfl) <| as_ rfl <| as_ rfl <| dn ?_
 refine WP.ret (Pst.body_ret rfl rfl rfl ?_)
 exact ⟨rfl, H0⟩

theorem au49 {b w : World} {S : Nat → Prop} {F : List Res} (H0 : Hp b S w F) :
    Rets Tryz.prog 321 #[.slice none 0 0, .int .i64 1] w fun v w' => v = .tuple #[.int .i64 0, .bool false] ∧ Hp b S w' F := by
 refine WP.enter Tryz.func321 rfl Tryz.ntmps321 rfl <| rg <| as_ rfl <| as_ rfl <| dn <| rg <| mv rfl <| mv rfl <| WL.call rfl rfl rfl cl_359 (au50 H0) rfl ?_
 rintro _ w1 ⟨rfl, K1⟩
 refine xt rfl rfl <| xt rfl rfl <| as_ rfl <| as_ rfl <| dn ?_
 refine WP.ret (Pst.body_ret rfl rfl rfl ?_)
 exact ⟨rfl, K1⟩

theorem au52 {b w : World} {S : Nat → Prop} {F : List Res} (H0 : Hp b S w F) :
    Rets Tryz.prog 302 #[.int .i64 1, .int .i64 1, .int .i64 16] w fun v w' => v = .bool true ∧ Hp b S w' F := by
 refine WP.enter Tryz.func302 rfl Tryz.ntmps302 rfl <| rg <| as_ rfl <| dn <| rg <| mv rfl <| mv rfl <| ev (Ev.geq rfl rfl) <| mv rfl <| WL.evg rfl (Ev.move rfl) rfl ?_
 refine WL.evg rfl (Ev.move rfl) rfl <| WL.evg rfl (Ev.leq rfl rfl) rfl <| ev (Ev.pick_t rfl rfl) <| as_ rfl <| dn ?_
 refine WP.ret (Pst.body_ret rfl rfl rfl ?_)
 exact ⟨rfl, H0⟩

theorem au53 {b w : World} {S : Nat → Prop} {F : List Res} (H0 : Hp b S w F) :
    Rets Tryz.prog 302 #[.int .i64 1, .int .i64 1, .int .i64 8] w fun v w' => v = .bool true ∧ Hp b S w' F := by
 refine WP.enter Tryz.func302 rfl Tryz.ntmps302 rfl <| rg <| as_ rfl <| dn <| rg <| mv rfl <| mv rfl <| ev (Ev.geq rfl rfl) <| mv rfl <| WL.evg rfl (Ev.move rfl) rfl ?_
 refine WL.evg rfl (Ev.move rfl) rfl <| WL.evg rfl (Ev.leq rfl rfl) rfl <| ev (Ev.pick_t rfl rfl) <| as_ rfl <| dn ?_
 refine WP.ret (Pst.body_ret rfl rfl rfl ?_)
 exact ⟨rfl, H0⟩

theorem au54 {b w : World} {S : Nat → Prop} {F : List Res} (H0 : Hp b S w F) :
    Rets Tryz.prog 302 #[.int .i64 4, .int .i64 1, .int .i64 16] w fun v w' => v = .bool true ∧ Hp b S w' F := by
 refine WP.enter Tryz.func302 rfl Tryz.ntmps302 rfl <| rg <| as_ rfl <| dn <| rg <| mv rfl <| mv rfl <| ev (Ev.geq rfl rfl) <| mv rfl <| WL.evg rfl (Ev.move rfl) rfl ?_
 refine WL.evg rfl (Ev.move rfl) rfl <| WL.evg rfl (Ev.leq rfl rfl) rfl <| ev (Ev.pick_t rfl rfl) <| as_ rfl <| dn ?_
 refine WP.ret (Pst.body_ret rfl rfl rfl ?_)
 exact ⟨rfl, H0⟩

theorem au55 {b w : World} {S : Nat → Prop} {F : List Res} (H0 : Hp b S w F) :
    Rets Tryz.prog 302 #[.int .i64 0, .int .i64 0, .int .i64 2] w fun v w' => v = .bool true ∧ Hp b S w' F := by
 refine WP.enter Tryz.func302 rfl Tryz.ntmps302 rfl <| rg <| as_ rfl <| dn <| rg <| mv rfl <| mv rfl <| ev (Ev.geq rfl rfl) <| mv rfl <| WL.evg rfl (Ev.move rfl) rfl ?_
 refine WL.evg rfl (Ev.move rfl) rfl <| WL.evg rfl (Ev.leq rfl rfl) rfl <| ev (Ev.pick_t rfl rfl) <| as_ rfl <| dn ?_
 refine WP.ret (Pst.body_ret rfl rfl rfl ?_)
 exact ⟨rfl, H0⟩

theorem au51 {b w : World} {S : Nat → Prop} {F : List Res} (H0 : Hp b S w F) :
    Rets Tryz.prog 234 #[.agg #[.int .i64 1, .int .i64 1, .int .i64 4, .int .i64 0]] w fun v w' => v = .bool true ∧ Hp b S w' F := by
 refine WP.enter Tryz.func234 rfl Tryz.ntmps234 rfl <| rg ?_
 refine bx rfl rfl H0 fun g1 w1 K1 => ?_
 refine as_ rfl <| dn <| rg <| ev (Ev.field (q := ⟨g1, 0, none⟩) fa_240_0 rfl rfl) <| ev (Ev.loadBoxCell na_3 rfl (K1.x s0) rfl) <| WL.call rfl rfl rfl cl_302 (au52 K1) rfl ?_
 rintro _ w2 ⟨rfl, K2⟩
 refine mv rfl <| WL.evg rfl (Ev.field (q := ⟨g1, 1, none⟩) fa_240_1 rfl rfl) rfl <| WL.evg rfl (Ev.loadBoxCell na_3 rfl (K2.x s0) rfl) rfl <| WL.callg rfl rfl rfl rfl cl_302 (au53 K2) rfl ?_
 rintro _ w3 ⟨rfl, K3⟩
 refine ev (Ev.pick_t rfl rfl) <| mv rfl <| WL.evg rfl (Ev.field (q := ⟨g1, 2, none⟩) fa_240_2 rfl rfl) rfl <| WL.evg rfl (Ev.loadBoxCell na_3 rfl (K3.x s0) rfl) rfl ?_
 refine WL.callg rfl rfl rfl rfl cl_302 (au54 K3) rfl ?_
 rintro _ w4 ⟨rfl, K4⟩
 refine ev (Ev.pick_t rfl rfl) <| mv rfl <| WL.evg rfl (Ev.field (q := ⟨g1, 3, none⟩) fa_240_3 rfl rfl) rfl <| WL.evg rfl (Ev.loadBoxCell na_3 rfl (K4.x s0) rfl) rfl ?_
 refine WL.callg rfl rfl rfl rfl cl_302 (au55 K4) rfl ?_
 rintro _ w5 ⟨rfl, K5⟩
 refine ev (Ev.pick_t rfl rfl) <| as_ rfl <| dn ?_
 refine WP.ret (Pst.body_ret rfl rfl rfl ?_)
 exact ⟨rfl, (K5.rm s0)⟩

theorem au56 {b w : World} {S : Nat → Prop} {F : List Res} {p0 : Nat} (H0 : Hp b S w (rOwn tNode 240 (some ⟨p0, 0, none⟩) 1 ([(⟨1, 1, 4, 0⟩ : ANode)] : List ANode) :: F)) :
    Rets Tryz.prog 340 #[.slice none 0 0, .int .i64 0, .slice (some ⟨p0, 0, none⟩) (([(⟨1, 1, 4, 0⟩ : ANode)] : List ANode).length) 1] w fun v w' => ∃ (Ap1 : Option Addr) (cp1 : Nat), v = .slice Ap1 ((([] : List ANode) ++ ([(⟨1, 1, 4, 0⟩ : ANode)] : List ANode)).length) cp1 ∧ Hp b S w' (rOwn tNode 240 (some ⟨p0, 0, none⟩) 1 ([(⟨1, 1, 4, 0⟩ : ANode)] : List ANode) :: rOwn tNode 240 Ap1 cp1 (([] : List ANode) ++ ([(⟨1, 1, 4, 0⟩ : ANode)] : List ANode)) :: F) := by
 refine WP.enter Tryz.func340 rfl Tryz.ntmps340 rfl <| rg <| as_ rfl <| dn <| rg <| mv rfl <| mv rfl <| ev (Ev.cutFrom (lo := 0) (A := none) (xs := ([] : List Int)) Tryz.underlying82 sz_240 rfl rfl rfl (by decide) (by decide)) ?_
 refine dn <| rg <| mv rfl <| ev (Ev.len Tryz.underlying82 rfl) <| as_ rfl <| dn <| WP.seq <| rg <| mv rfl <| ev (Ev.eql rfl rfl) <| dn <| cFe rfl ?_
 refine WP.skip (Pst.norm ?_)
 refine rg <| mv rfl <| ev (Ev.len Tryz.underlying82 rfl) <| as_ rfl <| dn <| WP.seq <| rg <| mv rfl <| mv rfl <| ev (Ev.eql rfl rfl) <| dn <| cTe rfl <| rg <| mv rfl ?_
 refine mv rfl ?_
 have H1 := H0.nil tNode 240
 refine ap (ys := ([(⟨1, 1, 4, 0⟩ : ANode)] : List ANode)) H1 s0 rfl rfl (H1.o s1) Tryz.underlying82 ei_240 (by simp) (by simp) rfl fun Ap1 cp1 w1 K1 => ?_
 refine as_ rfl <| dn ?_
 refine WP.ret (Pst.then_ret (Pst.body_ret rfl rfl rfl ?_))
 exact ⟨Ap1, cp1, rfl, ((K1.sel s0).sel s1)⟩

theorem au47 {b w : World} {S : Nat → Prop} {F : List Res} (H0 : Hp b S w F) :
    Rets Tryz.prog 281 #[.slice none 0 0, .agg #[.int .i64 1, .int .i64 1, .int .i64 4, .int .i64 0]] w fun v w' => ∃ (Au1 : Option Addr) (gu1 : Nat), v = .tuple #[.slice Au1 ((([] : List ANode) ++ ([(⟨1, 1, 4, 0⟩ : ANode)] : List ANode)).length) gu1, .int .i64 0] ∧ Hp b S w' (rOwn tNode 240 Au1 gu1 (([] : List ANode) ++ ([(⟨1, 1, 4, 0⟩ : ANode)] : List ANode)) :: F) := by
 refine WP.enter Tryz.func281 rfl Tryz.ntmps281 rfl <| rg ?_
 refine bx rfl rfl H0 fun g1 w1 K1 => ?_
 refine as_ rfl <| as_ rfl <| dn <| rg <| mv rfl <| WL.call rfl rfl rfl cl_320 (au48 K1) rfl ?_
 rintro _ w2 ⟨rfl, K2⟩
 refine as_ rfl <| dn <| rg <| mv rfl <| ev (Ev.field (q := ⟨g1, 0, none⟩) fa_240_0 rfl rfl) <| ev (Ev.loadBoxCell na_3 rfl (K2.x s0) rfl) <| WL.call rfl rfl rfl cl_321 (au49 K2) rfl ?_
 rintro _ w3 ⟨rfl, K3⟩
 refine mv rfl <| xt rfl rfl <| xt rfl rfl <| as_ rfl <| as_ rfl <| dn <| WP.seq <| WP.block <| rg <| ev (Ev.loadBox ag_240 rfl rfl (K3.x s0)) <| WL.call rfl rfl rfl cl_234 (au51 K3) rfl ?_
 rintro _ w4 ⟨rfl, K4⟩
 refine ev (Ev.not rfl) <| mv rfl <| WL.evg rfl (Ev.field (q := ⟨g1, 3, none⟩) fa_240_3 rfl rfl) rfl <| WL.evg rfl (Ev.loadBoxCell na_3 rfl (K4.x s0) rfl) rfl ?_
 refine WL.evg rfl (Ev.neq rfl rfl) rfl <| ev (Ev.pick_f rfl rfl) <| as_ rfl <| dn <| cFe rfl <| rg <| mv rfl <| as_ rfl <| dn <| cFe rfl ?_
 refine WP.skip (Pst.blk_norm (Pst.norm ?_))
 refine rg <| mv rfl <| mv rfl <| ev (Ev.loadBox ag_240 rfl rfl (K4.x s0)) ?_
 refine bs1 (τ := tNode) (x := (⟨1, 1, 4, 0⟩ : ANode)) rfl (by intro _; apply bs_82_1_IIII) rfl K4 (fun _ _ => rfl) fun g2 w5 K5 => ?_
 refine WL.call rfl rfl rfl cl_340 (au56 K5) rfl ?_
 rintro _ w6 ⟨Au1, gu1, rfl, K6⟩
 refine as_ rfl <| as_ rfl <| dn ?_
 refine WP.ret (Pst.body_ret rfl rfl rfl ?_)
 exact ⟨Au1, gu1, rfl, ((K6.rm s2).rm s0)⟩

theorem au57 {b w : World} {S : Nat → Prop} {F : List Res} {p0 : Nat} {P1 : Option Addr} {p2 : Nat} (H0 : Hp b S w (rBx p0 320 [.slice none 0 0, .slice none 0 0, .slice none 0 0, .int .i64 0, .int .i64 0] :: rOwn tNode 240 P1 p2 (([] : List ANode) ++ ([(⟨1, 1, 4, 0⟩ : ANode)] : List ANode)) :: F)) :
    Rets Tryz.prog 280 #[.pointer (some ⟨p0, 0, none⟩), .slice P1 ((([] : List ANode) ++ ([(⟨1, 1, 4, 0⟩ : ANode)] : List ANode)).length) p2, .int .i64 0] w fun v w' => v = .tuple #[] ∧ Hp b S w' (rBx p0 320 [.slice P1 ((([] : List ANode) ++ ([(⟨1, 1, 4, 0⟩ : ANode)] : List ANode)).length) p2, .slice none 0 0, .slice none 0 0, .int .i64 0, .int .i64 0] :: rOwn tNode 240 P1 p2 (([] : List ANode) ++ ([(⟨1, 1, 4, 0⟩ : ANode)] : List ANode)) :: F) := by
 refine WP.enter Tryz.func280 rfl Tryz.ntmps280 rfl <| rg <| mv rfl <| mv rfl <| ev (Ev.nilCheck rfl) <| ev (Ev.field (q := ⟨p0, 3, none⟩) fa_320_1 rfl rfl) <| ev (Ev.field (q := ⟨p0, 3, none⟩) fa_318_0 rfl rfl) ?_
 refine stc rfl rfl rfl sz_30 H0 s0 rfl fun w1 K1 => ?_
 refine dn <| rg <| mv rfl <| ev (Ev.eql rfl rfl) <| dn <| cTe rfl <| rge <| mv rfl <| mv rfl <| ev (Ev.nilCheck rfl) <| ev (Ev.field (q := ⟨p0, 0, none⟩) fa_320_0 rfl rfl) ?_
 refine ev (Ev.field (q := ⟨p0, 0, none⟩) fa_86_0 rfl rfl) ?_
 refine stc rfl rfl rfl sz_82 K1 s0 rfl fun w2 K2 => ?_
 refine dne ?_
 refine Pst.body_norm (Pst.body_ret rfl rfl rfl ?_)
 exact ⟨rfl, K2⟩

theorem au46 {b w : World} {S : Nat → Prop} {F : List Res} {p0 : Nat} (H0 : Hp b S w (rBx p0 320 [.slice none 0 0, .slice none 0 0, .slice none 0 0, .int .i64 0, .int .i64 0] :: F)) :
    Rets Tryz.prog 279 #[.pointer (some ⟨p0, 0, none⟩), .agg #[.int .i64 0, .int .i64 0, .int .i64 1, .int .i64 1, .int .i64 1, .int .i64 4]] w fun v w' => ∃ (Aj1 : Option Addr) (cj1 : Nat), v = .tuple #[] ∧ Hp b S w' (rBx p0 320 [.slice Aj1 ((([] : List ANode) ++ ([(⟨1, 1, 4, 0⟩ : ANode)] : List ANode)).length) cj1, .slice none 0 0, .slice none 0 0, .int .i64 0, .int .i64 0] :: rOwn tNode 240 Aj1 cj1 (([] : List ANode) ++ ([(⟨1, 1, 4, 0⟩ : ANode)] : List ANode)) :: F) := by
 refine WP.enter Tryz.func279 rfl Tryz.ntmps279 rfl <| rg ?_
 refine bx rfl rfl H0 fun g1 w1 K1 => ?_
 refine dn ?_
 refine Hf K1 (fun _ K => (K.rm s1)) (fun l0 rk lJ wJ => ∃ (Aj1 : Option Addr) (cj1 : Nat), lJ = l0 ∧ Hp b S wJ (rBx p0 320 [.slice Aj1 ((([] : List ANode) ++ ([(⟨1, 1, 4, 0⟩ : ANode)] : List ANode)).length) cj1, .slice none 0 0, .slice none 0 0, .int .i64 0, .int .i64 0] :: rOwn tNode 240 Aj1 cj1 (([] : List ANode) ++ ([(⟨1, 1, 4, 0⟩ : ANode)] : List ANode)) :: rk)) (fun hns H1 => ?_) ?_
 ·
  have k1 := (H1.rm s1)
  refine Tm 0 1 hns rfl rfl k1 <| Tm 1 3 hns rfl rfl k1 <| Tn 2 7 hns rfl (fun _ _ => Ev.nilCheck rfl) k1 <| Tn 3 15 hns rfl (fun _ _ => Ev.field (q := ⟨p0, 0, none⟩) fa_320_0 rfl rfl) k1 ?_
  refine Tn 4 31 hns rfl (fun _ _ => Ev.field (q := ⟨p0, 0, none⟩) fa_86_0 rfl rfl) k1 <| Tn 6 95 hns rfl (fun _ _ => Ev.field (q := ⟨g1, 3, none⟩) fa_66_3 rfl rfl) k1 ?_
  refine Tn 7 223 hns rfl (fun _ hK => Ev.loadBoxCell na_3 rfl (hK.x s0) rfl) k1 <| Tn 8 479 hns rfl (fun _ _ => Ev.field (q := ⟨g1, 4, none⟩) fa_66_4 rfl rfl) k1 ?_
  refine Tn 9 991 hns rfl (fun _ hK => Ev.loadBoxCell na_3 rfl (hK.x s0) rfl) k1 <| Tn 10 2015 hns rfl (fun _ _ => Ev.field (q := ⟨g1, 5, none⟩) fa_66_5 rfl rfl) k1 ?_
  refine Tn 11 4063 hns rfl (fun _ hK => Ev.loadBoxCell na_3 rfl (hK.x s0) rfl) k1 <| Tn 12 8159 hns rfl (fun _ _ => Ev.build (vs := [(0, .int .i64 1), (1, .int .i64 1), (2, .int .i64 4)]) (cs := [.int .i64 1, .int .i64 1, .int .i64 4, .int .i64 0]) rfl (by apply bl_240_0I_1I_2I)) k1 ?_
  refine O1 5 rfl <| ev (Ev.loadBoxCell na_82 rfl (H1.x s1) rfl) <| WH.next k1 <| O1 13 rfl <| WL.call rfl rfl rfl cl_281 (au47 H1) rfl ?_
  rintro _ w2 ⟨Au1, gu1, rfl, K2⟩
  have k2 := ((K2.rm s2).rm s0)
  refine WH.next k2 <| Tn 14 32767 hns rfl (fun _ _ => Ev.extract (vs := [.slice Au1 ((([] : List ANode) ++ ([(⟨1, 1, 4, 0⟩ : ANode)] : List ANode)).length) gu1, .int .i64 0]) rfl rfl) k2 ?_
  refine Tn 15 65535 hns rfl (fun _ _ => Ev.extract (vs := [.slice Au1 ((([] : List ANode) ++ ([(⟨1, 1, 4, 0⟩ : ANode)] : List ANode)).length) gu1, .int .i64 0]) rfl rfl) k2 ?_
  refine O1 16 rfl <| WL.call rfl rfl rfl cl_280 (au57 (((K2.sel s1).sel s1).sel s2)) rfl ?_
  rintro _ w3 ⟨rfl, K3⟩
  have k3 := ((K3.rm s1).rm s0)
  refine WH.next k3 ?_
  exact Dn ⟨Au1, gu1, rfl, K3⟩ rfl
 rintro _ w4 ⟨Aj1, cj1, rfl, K4⟩
 refine Pst.body_norm (Pst.body_ret rfl rfl rfl ?_)
 exact ⟨Aj1, cj1, rfl, (K4.rm s2)⟩

theorem au58 {b w : World} {S : Nat → Prop} {F : List Res} (H0 : Hp b S w F) :
    Rets Tryz.prog 220 #[.agg #[.int .i64 0, .int .i64 0]] w fun v w' => v = .int .i64 0 ∧ Hp b S w' F := by
 refine WP.enter Tryz.func220 rfl Tryz.ntmps220 rfl <| rg ?_
 refine bx rfl rfl H0 fun g1 w1 K1 => ?_
 refine as_ rfl <| dn <| WP.seq <| rg <| ev (Ev.field (q := ⟨g1, 0, none⟩) fa_318_0 rfl rfl) <| ev (Ev.loadBoxCell na_30 rfl (K1.x s0) rfl) <| ev (Ev.neq rfl rfl) ?_
 refine dn <| cFe rfl ?_
 refine WP.skip (Pst.norm ?_)
 refine rg <| ev (Ev.field (q := ⟨g1, 1, none⟩) fa_318_1 rfl rfl) <| ev (Ev.loadBoxCell na_3 rfl (K1.x s0) rfl) <| as_ rfl <| dn ?_
 refine WP.ret (Pst.body_ret rfl rfl rfl ?_)
 exact ⟨rfl, (K1.rm s0)⟩

theorem au44 {b w : World} {S : Nat → Prop} {F : List Res} (H0 : Hp b S w F) :
    Rets Tryz.prog 143 #[.agg #[.slice none 0 0, .slice none 0 0, .slice none 0 0], .agg #[.int .i64 0, .int .i64 0, .int .i64 1, .int .i64 1, .int .i64 1, .int .i64 4]] w fun v w' => ∃ (Au1 : Option Addr) (gu2 : Nat), v = .tuple #[.agg #[.slice Au1 ((([] : List ANode) ++ ([(⟨1, 1, 4, 0⟩ : ANode)] : List ANode)).length) gu2, .slice none 0 0, .slice none 0 0], .int .i64 0] ∧ Hp b S w' (rOwn tNode 240 Au1 gu2 (([] : List ANode) ++ ([(⟨1, 1, 4, 0⟩ : ANode)] : List ANode)) :: F) := by
 refine WP.enter Tryz.func143 rfl Tryz.ntmps143 rfl <| rg ?_
 refine bx rfl rfl H0 fun g1 w1 K1 => ?_
 refine bx rfl rfl K1 fun g2 w2 K2 => ?_
 refine al zero_86 rfl K2 fun g3 w3 K3 => ?_
 refine as_ rfl <| dn <| rg <| ev (Ev.loadBox ag_86 rfl rfl (K3.x s2)) <| ev (Ev.build (vs := [(0, .agg #[.slice none 0 0, .slice none 0 0, .slice none 0 0])]) (cs := [.slice none 0 0, .slice none 0 0, .slice none 0 0, .int .i64 0, .int .i64 0]) rfl (by apply bl_320_0A)) ?_
 refine bx rfl rfl K3 fun g4 w4 K4 => ?_
 refine as_ rfl <| dn <| WP.seq ?_
 refine He K4 (fun _ K => K) (fun l0 rk lJ wJ => ∃ (gj1 : Nat), lJ = (7, .func (.func 279) #[] #[]) :: l0 ∧ Hp b S wJ (rObj gj1 (.map (Array.push (Array.push (Array.push (Array.push (Array.push (Array.push (Array.push (Array.push (#[] : Array MapEntry) ⟨.int .i64 0, .func (.func 278) #[] #[], 0⟩) ⟨.int .i64 1, .func (.func 279) #[] #[], 1⟩) ⟨.int .i64 2, .func (.func 282) #[] #[], 2⟩) ⟨.int .i64 3, .func (.func 285) #[] #[], 3⟩) ⟨.int .i64 4, .func (.func 288) #[] #[], 4⟩) ⟨.int .i64 5, .func (.func 290) #[] #[], 5⟩) ⟨.int .i64 6, .func (.func 293) #[] #[], 6⟩) ⟨.int .i64 7, .func (.func 295) #[] #[], 7⟩) 8) :: rk)) (fun hns H1 => ?_) ?_
 ·
  refine Tn 1 2 hns rfl (fun _ _ => Ev.field (q := ⟨g2, 2, none⟩) fa_66_2 rfl rfl) H1 <| Tn 2 6 hns rfl (fun _ hK => Ev.loadBoxCell na_3 rfl (hK.x s2) rfl) H1 <| O1 0 rfl ?_
  refine WL.call rfl rfl rfl cl_219 (au45 H1) rfl ?_
  rintro _ w5 ⟨gu1, rfl, K5⟩
  have k1 := (K5.rm s0)
  refine WH.next k1 <| O1 3 rfl <| ev (Ev.look (i := 1) K5 s0 rfl rfl Tryz.underlying322 Tryz.underlying3 rfl) <| WH.next k1 <| Ta 4 31 hns rfl rfl k1 ?_
  exact Dn ⟨gu1, rfl, K5⟩ rfl
 rintro _ w6 ⟨gj1, rfl, K6⟩
 refine rg <| mv rfl <| ev (Ev.nefn Tryz.underlying321 rfl) <| dn <| cTe rfl <| rge <| mv rfl <| mv rfl <| ev (Ev.loadBox ag_66 rfl rfl (K6.x s3)) <| WL.call rfl rfl rfl cl_279 (au46 ((K6.sel s0).sel s1)) rfl ?_
 rintro _ w7 ⟨Au1, gu2, rfl, K7⟩
 refine dne <| Pst.norm ?_
 refine He K7 (fun _ K => (K.rm s3)) (fun l0 rk lJ wJ => lJ = (5, .int .i64 0) :: l0 ∧ Hp b S wJ (rBx g3 86 [.slice Au1 ((([] : List ANode) ++ ([(⟨1, 1, 4, 0⟩ : ANode)] : List ANode)).length) gu2, .slice none 0 0, .slice none 0 0] :: rk)) (fun hns H2 => ?_) ?_
 ·
  have k2 := (H2.rm s3)
  refine Tm 0 1 hns rfl rfl k2 <| Tn 1 3 hns rfl (fun _ _ => Ev.nilCheck rfl) k2 <| Tn 2 7 hns rfl (fun _ _ => Ev.field (q := ⟨g4, 0, none⟩) fa_320_0 rfl rfl) k2 ?_
  refine Tn 3 15 hns rfl (fun _ hK => Ev.loadBoxPart (cs' := [.slice Au1 ((([] : List ANode) ++ ([(⟨1, 1, 4, 0⟩ : ANode)] : List ANode)).length) gu2, .slice none 0 0, .slice none 0 0]) ag_86 rfl rfl (hK.x s0) rfl) k2 ?_
  refine Tm 4 31 hns rfl rfl k2 <| Tn 5 63 hns rfl (fun _ _ => Ev.nilCheck rfl) k2 <| Tn 6 127 hns rfl (fun _ _ => Ev.field (q := ⟨g4, 3, none⟩) fa_320_1 rfl rfl) k2 ?_
  refine Tn 7 255 hns rfl (fun _ hK => Ev.loadBoxPart (cs' := [.int .i64 0, .int .i64 0]) ag_318 rfl rfl (hK.x s0) rfl) k2 <| O1 8 rfl <| WL.call rfl rfl rfl cl_220 (au58 H2) rfl ?_
  rintro _ w8 ⟨rfl, K8⟩
  have k3 := (K8.rm s3)
  refine WH.next k3 <| O1 9 rfl ?_
  refine stw rfl rfl rfl sz_86 K8 s3 rfl rfl fun w9 K9 => ?_
  have k4 := (K9.rm s0)
  refine WH.next k4 <| Ta 10 2047 hns rfl rfl k4 ?_
  exact Dn ⟨rfl, K9⟩ rfl
 rintro _ w10 ⟨rfl, K10⟩
 refine WP.ret (Pst.retC rfl ⟨_, _, rfl, ⟨_, rfl, loads_box (cs := [.slice Au1 ((([] : List ANode) ++ ([(⟨1, 1, 4, 0⟩ : ANode)] : List ANode)).length) gu2, .slice none 0 0, .slice none 0 0]) ag_86 rfl (K10.x s0)⟩, ⟨_, _, rfl, rfl, rfl⟩⟩ ?_)
 exact ⟨Au1, gu2, rfl, (((((K10.rm s5).rm s4).rm s3).rm s1).rm s0)⟩

theorem au32 {b w : World} {S : Nat → Prop} {F : List Res} (H0 : Hp b S w F) :
    Rets Tryz.prog 80 #[.agg #[.slice none 0 0, .slice none 0 0, .slice none 0 0], .agg #[.int .i64 0, .int .i64 0, .int .i64 1, .int .i64 1, .int .i64 1, .int .i64 4]] w fun v w' => ∃ (Au1 : Option Addr) (gu1 : Nat), v = .tuple #[.agg #[.slice Au1 ((([] : List ANode) ++ ([(⟨1, 1, 4, 0⟩ : ANode)] : List ANode)).length) gu1, .slice none 0 0, .slice none 0 0], .int .i64 0] ∧ Hp b S w' (rOwn tNode 240 Au1 gu1 (([] : List ANode) ++ ([(⟨1, 1, 4, 0⟩ : ANode)] : List ANode)) :: F) := by
 refine WP.enter Tryz.func80 rfl Tryz.ntmps80 rfl <| rg ?_
 refine bx rfl rfl H0 fun g1 w1 K1 => ?_
 refine bx rfl rfl K1 fun g2 w2 K2 => ?_
 refine al zero_86 rfl K2 fun g3 w3 K3 => ?_
 refine as_ rfl <| dn <| rg <| ev (Ev.loadBox ag_86 rfl rfl (K3.x s2)) <| WL.call rfl rfl rfl cl_141 (au33 K3) rfl ?_
 rintro _ w4 ⟨rfl, K4⟩
 refine stw rfl rfl rfl sz_86 K4 s2 rfl rfl fun w5 K5 => ?_
 refine dn <| WP.seq <| WP.block <| rg <| ev (Ev.loadBox ag_86 rfl rfl (K5.x s0)) <| WL.call rfl rfl rfl cl_142 (au37 K5) rfl ?_
 rintro _ w6 ⟨rfl, K6⟩
 refine ev (Ev.not rfl) <| as_ rfl <| dn <| cFe rfl <| rg <| ev (Ev.field (q := ⟨g2, 0, none⟩) fa_66_0 rfl rfl) <| ev (Ev.loadBoxCell na_3 rfl (K6.x s2) rfl) <| ev (Ev.eql rfl rfl) ?_
 refine as_ rfl <| dn <| cTe rfl <| rg <| ev (Ev.loadBox ag_86 rfl rfl (K6.x s0)) <| ev (Ev.loadBox ag_66 rfl rfl (K6.x s2)) <| WL.call rfl rfl rfl cl_143 (au44 K6) rfl ?_
 rintro _ w7 ⟨Au1, gu1, rfl, K7⟩
 refine xt rfl rfl <| xt rfl rfl ?_
 refine stw rfl rfl rfl sz_86 K7 s2 rfl rfl fun w8 K8 => ?_
 refine as_ rfl <| dn ?_
 refine WP.ret (Pst.blk_ret (Pst.then_ret (Pst.retC rfl ⟨_, _, rfl, ⟨_, rfl, loads_box (cs := [.slice Au1 ((([] : List ANode) ++ ([(⟨1, 1, 4, 0⟩ : ANode)] : List ANode)).length) gu1, .slice none 0 0, .slice none 0 0]) ag_86 rfl (K8.x s0)⟩, ⟨_, _, rfl, rfl, rfl⟩⟩ ?_)))
 exact ⟨Au1, gu1, rfl, (((K8.rm s3).rm s2).rm s0)⟩

theorem au31 {b w : World} {S : Nat → Prop} {F : List Res} {p0 p1 : Nat} (H0 : Hp b S w (rBx p0 93 [.slice none 0 0, .slice none 0 0, .slice none 0 0, .slice none 0 0, .slice none 0 0, .slice none 0 0, .int .i64 10, .int .i64 2, .int .i64 4, .int .i64 2, .int .i64 5, .int .i64 1, .int .i64 0, .map (some p1), .slice none 0 0] :: rObj p1 (.map (#[] : Array MapEntry) 0) :: F)) :
    Rets Tryz.prog 71 #[.pointer (some ⟨p0, 0, none⟩), .agg #[.int .i64 0, .int .i64 0, .int .i64 1, .int .i64 1, .int .i64 1, .int .i64 4]] w fun v w' => ∃ (Aj1 : Option Addr) (cj1 : Nat), v = .int .i64 0 ∧ Hp b S w' (rBx p0 93 [.slice Aj1 ((([] : List ANode) ++ ([(⟨1, 1, 4, 0⟩ : ANode)] : List ANode)).length) cj1, .slice none 0 0, .slice none 0 0, .slice none 0 0, .slice none 0 0, .slice none 0 0, .int .i64 10, .int .i64 2, .int .i64 4, .int .i64 2, .int .i64 5, .int .i64 1, .int .i64 0, .map (some p1), .slice none 0 0] :: rObj p1 (.map (#[] : Array MapEntry) 0) :: rOwn tNode 240 Aj1 cj1 (([] : List ANode) ++ ([(⟨1, 1, 4, 0⟩ : ANode)] : List ANode)) :: F) := by
 refine WP.enter Tryz.func71 rfl Tryz.ntmps71 rfl <| rg ?_
 refine bx rfl rfl H0 fun g1 w1 K1 => ?_
 refine as_ rfl <| dn ?_
 refine He K1 (fun _ K => K) (fun l0 rk lJ wJ => ∃ (gj1 : Nat) (Aj1 : Option Addr) (cj1 : Nat), lJ = (5, .pointer (some ⟨gj1, 0, none⟩)) :: (6, .int .i64 0) :: l0 ∧ Hp b S wJ (rBx gj1 86 [.slice Aj1 ((([] : List ANode) ++ ([(⟨1, 1, 4, 0⟩ : ANode)] : List ANode)).length) cj1, .slice none 0 0, .slice none 0 0] :: rOwn tNode 240 Aj1 cj1 (([] : List ANode) ++ ([(⟨1, 1, 4, 0⟩ : ANode)] : List ANode)) :: rk)) (fun hns H1 => ?_) ?_
 ·
  refine Tm 0 1 hns rfl rfl H1 <| Tn 1 3 hns rfl (fun _ _ => Ev.nilCheck rfl) H1 <| Tn 2 7 hns rfl (fun _ _ => Ev.field (q := ⟨p0, 0, none⟩) fa_93_0 rfl rfl) H1 ?_
  refine Tn 3 15 hns rfl (fun _ hK => Ev.loadBoxPart (cs' := [.slice none 0 0, .slice none 0 0, .slice none 0 0]) ag_86 rfl rfl (hK.x s1) rfl) H1 <| Tn 4 31 hns rfl (fun _ hK => Ev.loadBox ag_66 rfl rfl (hK.x s0)) H1 ?_
  refine Jn H1 (fun l0 rk lJ wJ => ∃ (g2 : Nat) (Au1 : Option Addr) (gu1 : Nat), lJ = (5, .pointer (some ⟨g2, 0, none⟩)) :: (15, .int .i64 0) :: l0 ∧ Hp b S wJ (rBx g2 86 [.slice Au1 ((([] : List ANode) ++ ([(⟨1, 1, 4, 0⟩ : ANode)] : List ANode)).length) gu1, .slice none 0 0, .slice none 0 0] :: rOwn tNode 240 Au1 gu1 (([] : List ANode) ++ ([(⟨1, 1, 4, 0⟩ : ANode)] : List ANode)) :: rk)) 1 2047 ?_ fun hS1 => ?_
  ·
   rintro _ w8 ⟨g2, Au1, gu1, rfl, K8⟩
   have k6 := ((K8.rm s1).rm s0)
   refine Ta 11 4095 hns rfl rfl k6 ?_
   exact Dn ⟨g2, Au1, gu1, rfl, K8⟩ rfl
  refine O2 5 9 rfl rfl ?_ ?_
  ·
   refine WL.call rfl rfl rfl cl_80 (au32 H1) rfl ?_
   rintro _ w9 ⟨Au3, gu3, rfl, K9⟩
   have k7 := (K9.rm s0)
   refine WH.next k7 <| Tm 6 127 hns rfl rfl k7 <| Tn 7 255 hns rfl (fun _ _ => Ev.extract (vs := [.agg #[.slice Au3 ((([] : List ANode) ++ ([(⟨1, 1, 4, 0⟩ : ANode)] : List ANode)).length) gu3, .slice none 0 0, .slice none 0 0], .int .i64 0]) rfl rfl) k7 ?_
   refine Tn 8 511 hns rfl (fun _ _ => Ev.extract (vs := [.agg #[.slice Au3 ((([] : List ANode) ++ ([(⟨1, 1, 4, 0⟩ : ANode)] : List ANode)).length) gu3, .slice none 0 0, .slice none 0 0], .int .i64 0]) rfl rfl) k7 ?_
   refine O1 9 rfl ?_
   refine al zero_86 rfl K9 fun g4 w10 K10 => ?_
   have k8 := ((K10.rm s1).rm s0)
   refine WH.next k8 <| O1 10 rfl ?_
   refine stw rfl rfl rfl sz_86 K10 s0 rfl rfl fun w11 K11 => ?_
   have k9 := ((K11.rm s1).rm s0)
   exact Kj hS1 k9 ⟨g4, Au3, gu3, rfl, K11⟩ rfl
  ·
   refine al zero_86 rfl H1 fun g5 w12 K12 => ?_
   have k10 := (K12.rm s0)
   refine WH.next k10 <| O1 5 rfl <| WL.call rfl rfl rfl cl_80 (au32 K12) rfl ?_
   rintro _ w13 ⟨Au4, gu4, rfl, K13⟩
   have k11 := ((K13.rm s1).rm s0)
   refine WH.next k11 <| Tm 6 639 hns rfl rfl k11 <| Tn 7 767 hns rfl (fun _ _ => Ev.extract (vs := [.agg #[.slice Au4 ((([] : List ANode) ++ ([(⟨1, 1, 4, 0⟩ : ANode)] : List ANode)).length) gu4, .slice none 0 0, .slice none 0 0], .int .i64 0]) rfl rfl) k11 ?_
   refine Tn 8 1023 hns rfl (fun _ _ => Ev.extract (vs := [.agg #[.slice Au4 ((([] : List ANode) ++ ([(⟨1, 1, 4, 0⟩ : ANode)] : List ANode)).length) gu4, .slice none 0 0, .slice none 0 0], .int .i64 0]) rfl rfl) k11 ?_
   refine O1 10 rfl ?_
   refine stw rfl rfl rfl sz_86 K13 s1 rfl rfl fun w14 K14 => ?_
   have k12 := ((K14.rm s1).rm s0)
   exact Kj hS1 k12 ⟨g5, Au4, gu4, rfl, K14⟩ rfl
 rintro _ w15 ⟨gj1, Aj1, cj1, rfl, K15⟩
 refine WP.seq <| rg <| mv rfl <| ev (Ev.lss rfl rfl) <| dn <| cFe rfl ?_
 refine WP.skip (Pst.norm ?_)
 refine rg <| mv rfl <| ev (Ev.loadBox ag_86 rfl rfl (K15.x s0)) <| ev (Ev.nilCheck rfl) <| ev (Ev.field (q := ⟨p0, 0, none⟩) fa_93_0 rfl rfl) ?_
 refine stp rfl rfl rfl sz_86 K15 s3 rfl rfl rfl fun w16 K16 => ?_
 refine dn <| rg <| as_ rfl <| dn ?_
 refine WP.ret (Pst.body_ret rfl rfl rfl ?_)
 exact ⟨Aj1, cj1, rfl, (((((K16.rm s3).rm s1).sel s1).sel s2).sel s2)⟩

theorem au59 {b w : World} {S : Nat → Prop} {F : List Res} (H0 : Hp b S w F) :
    Rets Tryz.prog 72 #[.int .i64 4] w fun v w' => ∃ (g2 g1 : Nat), v = .pointer (some ⟨g2, 0, none⟩) ∧ Hp b S w' (rBx g2 200 [.int .i64 4, .slice none 0 0, .map (some g1)] :: rObj g1 (.map (#[] : Array MapEntry) 0) :: F) := by
 refine WP.enter Tryz.func72 rfl Tryz.ntmps72 rfl <| rg <| as_ rfl <| dn <| rg <| mv rfl <| ev (Ev.max2 rfl rfl) <| ev (Ev.min2 rfl rfl) ?_
 refine mkm H0 rfl fun g1 w1 K1 => ?_
 refine ev (Ev.build (vs := [(0, .int .i64 4), (2, .map (some g1))]) (cs := [.int .i64 4, .slice none 0 0, .map (some g1)]) rfl (by apply bl_200_0I_2R)) ?_
 refine bx rfl rfl K1 fun g2 w2 K2 => ?_
 refine as_ rfl <| dn ?_
 refine WP.ret (Pst.body_ret rfl rfl rfl ?_)
 exact ⟨g2, g1, rfl, K2⟩

theorem au30 {b w : World} {S : Nat → Prop} {F : List Res} {p0 p1 : Nat} (H0 : Hp b S w (rBx p0 93 [.slice none 0 0, .slice none 0 0, .slice none 0 0, .slice none 0 0, .slice none 0 0, .slice none 0 0, .int .i64 10, .int .i64 2, .int .i64 4, .int .i64 2, .int .i64 5, .int .i64 1, .int .i64 0, .map (some p1), .slice none 0 0] :: rObj p1 (.map (#[] : Array MapEntry) 0) :: F)) :
    Rets Tryz.prog 32 #[.pointer (some ⟨p0, 0, none⟩), .agg #[.int .i64 1, .int .i64 1, .int .i64 1, .int .i64 4]] w fun v w' => ∃ (Au1 : Option Addr) (gu1 gj1 gj2 gj3 : Nat), v = .int .i64 0 ∧ Hp b S w' (rBx p0 93 [.slice Au1 ((([] : List ANode) ++ ([(⟨1, 1, 4, 0⟩ : ANode)] : List ANode)).length) gu1, .slice none 0 0, .slice none 0 0, .slice none 0 0, .slice none 0 0, .slice none 0 0, .int .i64 10, .int .i64 2, .int .i64 4, .int .i64 2, .int .i64 5, .int .i64 1, .int .i64 0, .map (some p1), .slice none 0 0] :: rObj p1 (.map (Array.push (#[] : Array MapEntry) ⟨.int .i64 1, .pointer (some ⟨gj1, 0, none⟩), 0⟩) 1) :: rBx gj1 119 [.pointer (some ⟨gj2, 0, none⟩), .bool true] :: rBx gj2 200 [.int .i64 4, .slice none 0 0, .map (some gj3)] :: rObj gj3 (.map (#[] : Array MapEntry) 0) :: rOwn tNode 240 Au1 gu1 (([] : List ANode) ++ ([(⟨1, 1, 4, 0⟩ : ANode)] : List ANode)) :: F) := by
 refine WP.enter Tryz.func32 rfl Tryz.ntmps32 rfl <| rg ?_
 refine bx rfl rfl H0 fun g1 w1 K1 => ?_
 refine as_ rfl <| dn <| rg <| mv rfl <| ev (Ev.field (q := ⟨g1, 1, none⟩) fa_55_1 rfl rfl) <| ev (Ev.loadBoxCell na_3 rfl (K1.x s0) rfl) <| ev (Ev.field (q := ⟨g1, 2, none⟩) fa_55_2 rfl rfl) ?_
 refine ev (Ev.loadBoxCell na_3 rfl (K1.x s0) rfl) <| ev (Ev.field (q := ⟨g1, 3, none⟩) fa_55_3 rfl rfl) <| ev (Ev.loadBoxCell na_3 rfl (K1.x s0) rfl) <| ev (Ev.build (vs := [(2, .int .i64 1), (3, .int .i64 1), (4, .int .i64 1), (5, .int .i64 4)]) (cs := [.int .i64 0, .int .i64 0, .int .i64 1, .int .i64 1, .int .i64 1, .int .i64 4]) rfl (by apply bl_66_2I_3I_4I_5I)) ?_
 refine WL.call rfl rfl rfl cl_71 (au31 (((K1.sel s0).sel s2).sel s2)) rfl ?_
 rintro _ w2 ⟨Au1, gu1, rfl, K2⟩
 refine as_ rfl <| dn <| WP.seq <| rg <| mv rfl <| ev (Ev.eql rfl rfl) <| dn <| cTe rfl ?_
 refine Hf K2 (fun _ K => (K.rm s1)) (fun l0 rk lJ wJ => ∃ (gj1 gj2 gj3 : Nat), lJ = l0 ∧ Hp b S wJ (rObj p1 (.map (Array.push (#[] : Array MapEntry) ⟨.int .i64 1, .pointer (some ⟨gj1, 0, none⟩), 0⟩) 1) :: rBx gj1 119 [.pointer (some ⟨gj2, 0, none⟩), .bool true] :: rBx gj2 200 [.int .i64 4, .slice none 0 0, .map (some gj3)] :: rObj gj3 (.map (#[] : Array MapEntry) 0) :: rk)) (fun hns H1 => ?_) ?_
 ·
  have k1 := (H1.rm s1)
  refine Tm 0 1 hns rfl rfl k1 <| Tn 1 3 hns rfl (fun _ _ => Ev.nilCheck rfl) k1 <| Tn 2 7 hns rfl (fun _ _ => Ev.field (q := ⟨p0, 13, none⟩) fa_93_4 rfl rfl) k1 ?_
  refine Tn 3 15 hns rfl (fun _ hK => Ev.loadBoxCell na_81 rfl (hK.x s0) rfl) k1 <| Tn 4 31 hns rfl (fun _ _ => Ev.field (q := ⟨g1, 1, none⟩) fa_55_1 rfl rfl) k1 ?_
  refine Tn 5 63 hns rfl (fun _ hK => Ev.loadBoxCell na_3 rfl (hK.x s2) rfl) k1 <| Tn 6 127 hns rfl (fun _ _ => Ev.field (q := ⟨g1, 3, none⟩) fa_55_3 rfl rfl) k1 ?_
  refine Tn 7 255 hns rfl (fun _ hK => Ev.loadBoxCell na_3 rfl (hK.x s2) rfl) k1 <| O1 8 rfl <| WL.call rfl rfl rfl cl_72 (au59 H1) rfl ?_
  rintro _ w3 ⟨gu2, gu3, rfl, K3⟩
  have k2 := (((K3.rm s3).rm s1).rm s0)
  refine WH.next k2 <| Tn 9 1023 hns rfl (fun _ _ => Ev.build (vs := [(0, .pointer (some ⟨gu2, 0, none⟩)), (1, .bool true)]) (cs := [.pointer (some ⟨gu2, 0, none⟩), .bool true]) rfl (by apply bl_119_0P_1B)) k2 ?_
  refine O1 10 rfl ?_
  refine bx rfl rfl K3 fun g2 w4 K4 => ?_
  have k3 := ((((K4.rm s4).rm s2).rm s1).rm s0)
  refine WH.next k3 <| O1 11 rfl ?_
  refine upd K4 s4 rfl rfl rfl Tryz.underlying81 Tryz.underlying3 rfl fun w5 K5 => ?_
  have k4 := ((((K5.rm s3).rm s2).rm s1).rm s0)
  refine WH.next k4 ?_
  exact Dn ⟨g2, gu2, gu3, rfl, K5⟩ rfl
 rintro _ w6 ⟨gj1, gj2, gj3, rfl, K6⟩
 refine Pst.norm <| rg <| mv rfl <| as_ rfl <| dn ?_
 refine WP.ret (Pst.body_ret rfl rfl rfl ?_)
 exact ⟨Au1, gu1, gj1, gj2, gj3, rfl, ((((((K6.rm s6).sel s3).sel s3).sel s3).sel s3).sel s4)⟩

theorem au22 {b w : World} {S : Nat → Prop} {F : List Res} {p0 p1 : Nat} (H0 : Hp b S w (rBx p0 93 [.slice none 0 0, .slice none 0 0, .slice none 0 0, .slice none 0 0, .slice none 0 0, .slice none 0 0, .int .i64 10, .int .i64 2, .int .i64 4, .int .i64 2, .int .i64 5, .int .i64 1, .int .i64 0, .map (some p1), .slice none 0 0] :: rObj p1 (.map (#[] : Array MapEntry) 0) :: F)) :
    Rets Tryz.prog 14 #[.pointer (some ⟨p0, 0, none⟩), .agg #[.int .i64 1, .int .i64 1, .int .i64 1, .int .i64 4]] w fun v w' => ∃ (Au1 : Option Addr) (gu29 gu30 gu31 gu32 : Nat), v = .int .i64 0 ∧ Hp b S w' (rBx p0 93 [.slice Au1 ((([] : List ANode) ++ ([(⟨1, 1, 4, 0⟩ : ANode)] : List ANode)).length) gu29, .slice none 0 0, .slice none 0 0, .slice none 0 0, .slice none 0 0, .slice none 0 0, .int .i64 10, .int .i64 2, .int .i64 4, .int .i64 2, .int .i64 5, .int .i64 1, .int .i64 0, .map (some p1), .slice none 0 0] :: rObj p1 (.map (Array.push (#[] : Array MapEntry) ⟨.int .i64 1, .pointer (some ⟨gu30, 0, none⟩), 0⟩) 1) :: rOwn tNode 240 Au1 gu29 (([] : List ANode) ++ ([(⟨1, 1, 4, 0⟩ : ANode)] : List ANode)) :: rBx gu30 119 [.pointer (some ⟨gu31, 0, none⟩), .bool true] :: rBx gu31 200 [.int .i64 4, .slice none 0 0, .map (some gu32)] :: rObj gu32 (.map (#[] : Array MapEntry) 0) :: F) := by
 refine WP.enter Tryz.func14 rfl Tryz.ntmps14 rfl <| rg ?_
 refine bx rfl rfl H0 fun g1 w1 K1 => ?_
 refine as_ rfl <| dn <| rg ?_
 refine mkm K1 rfl fun g2 w2 K2 => ?_
 refine mv rfl <| ev (Ev.funcB rfl rfl) ?_
 refine ins K2 s0 rfl rfl rfl Tryz.underlying104 Tryz.underlying3 rfl fun w3 K3 => ?_
 refine mv rfl <| ev (Ev.funcB rfl rfl) ?_
 refine ins K3 s0 rfl rfl rfl Tryz.underlying104 Tryz.underlying3 rfl fun w4 K4 => ?_
 refine mv rfl <| ev (Ev.funcB rfl rfl) ?_
 refine ins K4 s0 rfl rfl rfl Tryz.underlying104 Tryz.underlying3 rfl fun w5 K5 => ?_
 refine mv rfl <| ev (Ev.funcB rfl rfl) ?_
 refine ins K5 s0 rfl rfl rfl Tryz.underlying104 Tryz.underlying3 rfl fun w6 K6 => ?_
 refine mv rfl <| ev (Ev.funcB rfl rfl) ?_
 refine ins K6 s0 rfl rfl rfl Tryz.underlying104 Tryz.underlying3 rfl fun w7 K7 => ?_
 refine mv rfl <| ev (Ev.funcB rfl rfl) ?_
 refine ins K7 s0 rfl rfl rfl Tryz.underlying104 Tryz.underlying3 rfl fun w8 K8 => ?_
 refine mv rfl <| ev (Ev.funcB rfl rfl) ?_
 refine ins K8 s0 rfl rfl rfl Tryz.underlying104 Tryz.underlying3 rfl fun w9 K9 => ?_
 refine mv rfl <| ev (Ev.funcB rfl rfl) ?_
 refine ins K9 s0 rfl rfl rfl Tryz.underlying104 Tryz.underlying3 rfl fun w10 K10 => ?_
 refine mv rfl <| mv rfl <| ev (Ev.funcB rfl rfl) <| WL.call rfl rfl rfl cl_37 (au23 ((((K10.sel s1).sel s1).sel s3).sel s3)) rfl ?_
 rintro _ w11 ⟨gu1, gu2, gu3, gu4, rfl, K11⟩
 refine ins K11 s6 rfl rfl rfl Tryz.underlying104 Tryz.underlying3 rfl fun w12 K12 => ?_
 refine mv rfl <| mv rfl <| ev (Ev.funcB rfl rfl) <| WL.call rfl rfl rfl cl_37 (au24 (((K12.sel s0).sel s2).sel s2)) rfl ?_
 rintro _ w13 ⟨gu5, gu6, gu7, gu8, rfl, K13⟩
 refine ins K13 s6 rfl rfl rfl Tryz.underlying104 Tryz.underlying3 rfl fun w14 K14 => ?_
 refine mv rfl <| mv rfl <| ev (Ev.funcB rfl rfl) <| WL.call rfl rfl rfl cl_37 (au25 (((K14.sel s0).sel s2).sel s2)) rfl ?_
 rintro _ w15 ⟨gu9, gu10, gu11, gu12, rfl, K15⟩
 refine ins K15 s6 rfl rfl rfl Tryz.underlying104 Tryz.underlying3 rfl fun w16 K16 => ?_
 refine mv rfl <| mv rfl <| ev (Ev.funcB rfl rfl) <| WL.call rfl rfl rfl cl_37 (au26 (((K16.sel s0).sel s2).sel s2)) rfl ?_
 rintro _ w17 ⟨gu13, gu14, gu15, gu16, rfl, K17⟩
 refine ins K17 s6 rfl rfl rfl Tryz.underlying104 Tryz.underlying3 rfl fun w18 K18 => ?_
 refine mv rfl <| mv rfl <| ev (Ev.funcB rfl rfl) <| WL.call rfl rfl rfl cl_37 (au27 (((K18.sel s0).sel s2).sel s2)) rfl ?_
 rintro _ w19 ⟨gu17, gu18, gu19, gu20, rfl, K19⟩
 refine ins K19 s6 rfl rfl rfl Tryz.underlying104 Tryz.underlying3 rfl fun w20 K20 => ?_
 refine mv rfl <| mv rfl <| ev (Ev.funcB rfl rfl) <| WL.call rfl rfl rfl cl_37 (au28 (((K20.sel s0).sel s2).sel s2)) rfl ?_
 rintro _ w21 ⟨gu21, gu22, gu23, gu24, rfl, K21⟩
 refine ins K21 s6 rfl rfl rfl Tryz.underlying104 Tryz.underlying3 rfl fun w22 K22 => ?_
 refine mv rfl <| mv rfl <| ev (Ev.funcB rfl rfl) <| WL.call rfl rfl rfl cl_37 (au29 (((K22.sel s0).sel s2).sel s2)) rfl ?_
 rintro _ w23 ⟨gu25, gu26, gu27, gu28, rfl, K23⟩
 refine ins K23 s6 rfl rfl rfl Tryz.underlying104 Tryz.underlying3 rfl fun w24 K24 => ?_
 refine mv rfl <| as_ rfl <| dn <| WP.keep' [(3, .pointer (some ⟨g1, 0, none⟩)), (5, .map (some g2))] rfl <| rg <| mv rfl <| ev (Ev.field (q := ⟨g1, 0, none⟩) fa_55_0 rfl rfl) ?_
 refine ev (Ev.loadBoxCell na_3 rfl (K24.x (.t (.t (.t (.t (.t (.t (.t (.t (.t (.t (.t (.t (.t (.t (.t (.t s15))))))))))))))))) rfl) <| ev (Ev.look (i := 1) K24 s0 rfl rfl Tryz.underlying104 Tryz.underlying3 rfl) ?_
 refine as_ rfl <| dn <| WP.seq <| rg <| mv rfl <| ev (Ev.eqfn Tryz.underlying53 rfl) <| dn <| cFe rfl ?_
 refine WP.skip (Pst.norm ?_)
 refine rg <| mv rfl <| ev (Ev.loadBox ag_55 rfl rfl (K24.x (.t (.t (.t (.t (.t (.t (.t (.t (.t (.t (.t (.t (.t (.t (.t (.t s15)))))))))))))))))) <| WL.callF rfl rfl rfl cl_32 (au30 (((K24.sel s0).sel s2).sel s2)) rfl ?_
 rintro _ w25 ⟨Au1, gu29, gu30, gu31, gu32, rfl, K25⟩
 refine as_ rfl <| dn ?_
 refine WP.ret (Pst.body_ret rfl rfl rfl ?_)
 exact ⟨Au1, gu29, gu30, gu31, gu32, rfl, ((((((((((((((((((((((((((((((((((((K25.rm (.t (.t (.t (.t (.t (.t (.t (.t (.t (.t (.t (.t (.t (.t (.t (.t (.t (.t (.t (.t s15))))))))))))))))))))).rm (.t (.t (.t (.t (.t (.t (.t (.t (.t (.t (.t (.t (.t (.t (.t (.t (.t (.t (.t s15)))))))))))))))))))).rm (.t (.t (.t (.t (.t (.t (.t (.t (.t (.t (.t (.t (.t (.t (.t (.t (.t (.t s15))))))))))))))))))).rm (.t (.t (.t (.t (.t (.t (.t (.t (.t (.t (.t (.t (.t (.t (.t (.t (.t s15)))))))))))))))))).rm (.t (.t (.t (.t (.t (.t (.t (.t (.t (.t (.t (.t (.t (.t (.t (.t s15))))))))))))))))).rm (.t (.t (.t (.t (.t (.t (.t (.t (.t (.t (.t (.t (.t (.t (.t s15)))))))))))))))).rm (.t (.t (.t (.t (.t (.t (.t (.t (.t (.t (.t (.t (.t (.t s15))))))))))))))).rm (.t (.t (.t (.t (.t (.t (.t (.t (.t (.t (.t (.t (.t s15)))))))))))))).rm (.t (.t (.t (.t (.t (.t (.t (.t (.t (.t (.t (.t s15))))))))))))).rm (.t (.t (.t (.t (.t (.t (.t (.t (.t (.t (.t s15)))))))))))).rm (.t (.t (.t (.t (.t (.t (.t (.t (.t (.t s15))))))))))).rm (.t (.t (.t (.t (.t (.t (.t (.t (.t s15)))))))))).rm (.t (.t (.t (.t (.t (.t (.t (.t s15))))))))).rm (.t (.t (.t (.t (.t (.t (.t s15)))))))).rm (.t (.t (.t (.t (.t (.t s15))))))).rm (.t (.t (.t (.t (.t s15)))))).rm (.t (.t (.t (.t s15))))).rm (.t (.t (.t s15)))).rm (.t (.t s15))).rm (.t s15)).rm s15).rm s14).rm s13).rm s12).rm s11).rm s10).rm s9).rm s8).rm s7).rm s6).sel s4).sel s4).sel s4).sel s5).sel s5).sel s5)⟩

theorem au61 {b w : World} {S : Nat → Prop} {F : List Res} {p0 p1 p2 p3 p4 p5 : Nat} (H0 : Hp b S w (rBx p0 97 [.slice (some ⟨p1, 0, none⟩) 1 1, .slice none 0 0] :: rBx p1 100 [.pointer (some ⟨p2, 0, none⟩), .pointer (some ⟨p3, 0, none⟩)] :: rBx p2 178 [.int .i64 1, .int .i64 0, .int .i64 0, .int .i64 0, .int .i64 0, .slice none 0 0, .int .i64 0, .int .i64 0, .map (some p4), .slice (some ⟨p5, 0, none⟩) 1 1] :: rObj p4 (.map (#[] : Array MapEntry) 0) :: rBx p5 258 [.int .i64 0, .int .i64 0] :: rBx p3 61 [.slice none 0 0, .int .i64 0, .int .i64 0, .int .i64 0, .slice none 0 0] :: F)) :
    Rets Tryz.prog 45 #[.pointer (some ⟨p0, 0, none⟩), .agg #[.int .i64 0, .int .i64 1, .int .i64 0, .int .i64 0]] w fun v w' => v = .int .i64 0 ∧ Hp b S w' (rBx p0 97 [.slice (some ⟨p1, 0, none⟩) 1 1, .slice none 0 0] :: rBx p1 100 [.pointer (some ⟨p2, 0, none⟩), .pointer (some ⟨p3, 0, none⟩)] :: rBx p2 178 [.int .i64 1, .int .i64 0, .int .i64 0, .int .i64 0, .int .i64 0, .slice none 0 0, .int .i64 0, .int .i64 0, .map (some p4), .slice (some ⟨p5, 0, none⟩) 1 1] :: rObj p4 (.map (#[] : Array MapEntry) 0) :: rBx p5 258 [.int .i64 0, .int .i64 0] :: rBx p3 61 [.slice none 0 0, .int .i64 0, .int .i64 0, .int .i64 0, .slice none 0 0] :: F) := by
 refine WP.enter Tryz.func45 rfl Tryz.ntmps45 rfl <| rg ?_
 refine bx rfl rfl H0 fun g1 w1 K1 => ?_
 refine as_ rfl <| dn <| rg <| ev (Ev.field (q := ⟨g1, 1, none⟩) fa_55_1 rfl rfl) <| ev (Ev.loadBoxCell na_3 rfl (K1.x s0) rfl) <| as_ rfl <| dn <| WP.seq <| rg ?_
 refine ev (Ev.field (q := ⟨g1, 0, none⟩) fa_55_0 rfl rfl) <| ev (Ev.loadBoxCell na_3 rfl (K1.x s0) rfl) <| dn <| WP.block <| WP.seq <| rg <| ev (Ev.eql rfl rfl) ?_
 refine as_ rfl <| dn <| cTe rfl ?_
 refine WP.skip (Pst.norm ?_)
 refine cTe rfl <| rg <| mv rfl <| ev (Ev.lss rfl rfl) <| mv rfl <| WL.evg rfl (Ev.move rfl) rfl <| WL.evg rfl (Ev.move rfl) rfl <| WL.evg rfl (Ev.nilCheck rfl) rfl ?_
 refine WL.evg rfl (Ev.field (q := ⟨p0, 0, none⟩) fa_97_0 rfl rfl) rfl <| WL.evg rfl (Ev.loadBoxCell na_94 rfl (K1.x s1) rfl) rfl <| WL.evg rfl (Ev.len Tryz.underlying94 rfl) rfl ?_
 refine WL.evg rfl (Ev.gtr rfl rfl) rfl <| ev (Ev.pick_f rfl rfl) <| dn <| cFe rfl ?_
 refine WP.skip (Pst.blk_norm (Pst.norm ?_))
 refine rg <| as_ rfl <| dn ?_
 refine WP.ret (Pst.body_ret rfl rfl rfl ?_)
 exact ⟨rfl, (K1.rm s0)⟩

theorem au62 {b w : World} {S : Nat → Prop} {F : List Res} {p0 p1 p2 p3 p4 p5 : Nat} (H0 : Hp b S w (rBx p0 97 [.slice (some ⟨p1, 0, none⟩) 1 1, .slice none 0 0] :: rBx p1 100 [.pointer (some ⟨p2, 0, none⟩), .pointer (some ⟨p3, 0, none⟩)] :: rBx p2 178 [.int .i64 1, .int .i64 0, .int .i64 0, .int .i64 0, .int .i64 0, .slice none 0 0, .int .i64 0, .int .i64 0, .map (some p4), .slice (some ⟨p5, 0, none⟩) 1 1] :: rObj p4 (.map (#[] : Array MapEntry) 0) :: rBx p5 258 [.int .i64 0, .int .i64 0] :: rBx p3 61 [.slice none 0 0, .int .i64 0, .int .i64 0, .int .i64 0, .slice none 0 0] :: F)) :
    Rets Tryz.prog 47 #[.pointer (some ⟨p0, 0, none⟩), .int .i64 1] w fun v w' => v = .pointer (some ⟨p1, 0, none⟩) ∧ Hp b S w' (rBx p0 97 [.slice (some ⟨p1, 0, none⟩) 1 1, .slice none 0 0] :: rBx p1 100 [.pointer (some ⟨p2, 0, none⟩), .pointer (some ⟨p3, 0, none⟩)] :: rBx p2 178 [.int .i64 1, .int .i64 0, .int .i64 0, .int .i64 0, .int .i64 0, .slice none 0 0, .int .i64 0, .int .i64 0, .map (some p4), .slice (some ⟨p5, 0, none⟩) 1 1] :: rObj p4 (.map (#[] : Array MapEntry) 0) :: rBx p5 258 [.int .i64 0, .int .i64 0] :: rBx p3 61 [.slice none 0 0, .int .i64 0, .int .i64 0, .int .i64 0, .slice none 0 0] :: F) := by
 refine WP.enter Tryz.func47 rfl Tryz.ntmps47 rfl <| rg <| as_ rfl <| dn <| rg <| mv rfl <| ev (Ev.nilCheck rfl) <| ev (Ev.field (q := ⟨p0, 0, none⟩) fa_97_0 rfl rfl) ?_
 refine ev (Ev.loadBoxCell na_94 rfl (H0.x s0) rfl) <| mv rfl <| ev (Ev.sub rfl rfl (I64.mk (by first | omega | (simp; done) | decide) (by first | omega | (simp; done) | decide))) ?_
 refine ev (Ev.index (i := 0) Tryz.underlying94 sz_100 rfl rfl rfl (by decide) rfl) <| as_ rfl <| dn ?_
 refine WP.ret (Pst.body_ret rfl rfl rfl ?_)
 exact ⟨rfl, H0⟩

theorem au65 {b w : World} {S : Nat → Prop} {F : List Res} (H0 : Hp b S w F) :
    Rets Tryz.prog 170 #[.int .i64 1] w fun v w' => v = .int .i64 1 ∧ Hp b S w' F := by
 refine WP.enter Tryz.func170 rfl Tryz.ntmps170 rfl <| rg <| as_ rfl <| dn <| rg <| mv rfl <| ev (Ev.max2 rfl rfl) <| ev (Ev.quoN (a := 1) (c := 2) rfl rfl rfl (by first | omega | (simp; done) | decide) (by first | omega | (simp; done) | decide)) ?_
 refine ev (Ev.add rfl rfl (I64.mk (by first | omega | (simp; done) | decide) (by first | omega | (simp; done) | decide))) <| as_ rfl <| dn ?_
 refine WP.ret (Pst.body_ret rfl rfl rfl ?_)
 exact ⟨rfl, H0⟩

theorem au64 {b w : World} {S : Nat → Prop} {F : List Res} {p0 p1 p2 : Nat} (H0 : Hp b S w (rBx p0 178 [.int .i64 1, .int .i64 1, .int .i64 1, .int .i64 0, .int .i64 0, .slice none 0 0, .int .i64 1, .int .i64 0, .map (some p1), .slice (some ⟨p2, 0, none⟩) 1 1] :: rObj p1 (.map (Array.push (#[] : Array MapEntry) ⟨.int .i64 1, .bool true, 0⟩) 1) :: rBx p2 258 [.int .i64 0, .int .i64 0] :: F)) :
    Rets Tryz.prog 99 #[.pointer (some ⟨p0, 0, none⟩)] w fun v w' => v = .bool true ∧ Hp b S w' (rBx p0 178 [.int .i64 1, .int .i64 1, .int .i64 1, .int .i64 0, .int .i64 0, .slice none 0 0, .int .i64 1, .int .i64 0, .map (some p1), .slice (some ⟨p2, 0, none⟩) 1 1] :: rObj p1 (.map (Array.push (#[] : Array MapEntry) ⟨.int .i64 1, .bool true, 0⟩) 1) :: rBx p2 258 [.int .i64 0, .int .i64 0] :: F) := by
 refine WP.enter Tryz.func99 rfl Tryz.ntmps99 rfl <| rg <| as_ rfl <| dn ?_
 refine He H0 (fun _ K => K) (fun l0 rk lJ wJ => lJ = (2, .bool true) :: l0 ∧ Hp b S wJ rk) (fun hns H1 => ?_) ?_
 ·
  refine Tm 0 1 hns rfl rfl H1 <| Tn 1 3 hns rfl (fun _ _ => Ev.nilCheck rfl) H1 <| Tn 2 7 hns rfl (fun _ _ => Ev.field (q := ⟨p0, 8, none⟩) fa_178_5 rfl rfl) H1 ?_
  refine Tn 3 15 hns rfl (fun _ hK => Ev.loadBoxCell na_175 rfl (hK.x s0) rfl) H1 <| Tn 4 31 hns rfl (fun _ hK => Ev.lenM hK s1 Tryz.underlying175 rfl) H1 <| Tm 5 63 hns rfl rfl H1 ?_
  refine Tn 6 127 hns rfl (fun _ _ => Ev.nilCheck rfl) H1 <| Tn 7 255 hns rfl (fun _ _ => Ev.field (q := ⟨p0, 9, none⟩) fa_178_6 rfl rfl) H1 <| Tn 8 511 hns rfl (fun _ hK => Ev.loadBoxCell na_176 rfl (hK.x s0) rfl) H1 ?_
  refine Tn 9 1023 hns rfl (fun _ _ => Ev.len Tryz.underlying176 rfl) H1 <| O1 10 rfl <| WL.call rfl rfl rfl cl_170 (au65 H1) rfl ?_
  rintro _ w1 ⟨rfl, K1⟩
  refine WH.next K1 <| Tn 11 4095 hns rfl (fun _ _ => Ev.geq rfl rfl) K1 <| Ta 12 8191 hns rfl rfl K1 ?_
  exact Dn ⟨rfl, K1⟩ rfl
 rintro _ w2 ⟨rfl, K2⟩
 refine WP.ret (Pst.body_ret rfl rfl rfl ?_)
 exact ⟨rfl, K2⟩

theorem au67 {b w : World} {S : Nat → Prop} {F : List Res} {p0 p1 p2 : Nat} (H0 : Hp b S w (rBx p0 178 [.int .i64 1, .int .i64 1, .int .i64 1, .int .i64 0, .int .i64 0, .slice none 0 0, .int .i64 2, .int .i64 0, .map (some p1), .slice (some ⟨p2, 0, none⟩) 1 1] :: rObj p1 (.map (Array.push (#[] : Array MapEntry) ⟨.int .i64 1, .bool true, 0⟩) 1) :: rBx p2 258 [.int .i64 0, .int .i64 0] :: F)) :
    Rets Tryz.prog 171 #[.pointer (some ⟨p0, 0, none⟩)] w fun v w' => v = .int .i64 0 ∧ Hp b S w' (rBx p0 178 [.int .i64 1, .int .i64 1, .int .i64 1, .int .i64 0, .int .i64 0, .slice none 0 0, .int .i64 2, .int .i64 0, .map (some p1), .slice (some ⟨p2, 0, none⟩) 1 1] :: rObj p1 (.map (Array.push (#[] : Array MapEntry) ⟨.int .i64 1, .bool true, 0⟩) 1) :: rBx p2 258 [.int .i64 0, .int .i64 0] :: F) := by
 refine WP.enter Tryz.func171 rfl Tryz.ntmps171 rfl <| rg <| as_ rfl <| dn <| rg <| mv rfl <| ev (Ev.nilCheck rfl) <| ev (Ev.field (q := ⟨p0, 3, none⟩) fa_178_2 rfl rfl) ?_
 refine ev (Ev.loadBoxPart (cs' := [.int .i64 0, .int .i64 0, .slice none 0 0]) ag_26 rfl rfl (H0.x s0) rfl) <| WL.call rfl rfl rfl cl_104 (au16 H0) rfl ?_
 rintro _ w1 ⟨rfl, K1⟩
 refine mv rfl <| xt rfl rfl <| xt rfl rfl <| as_ rfl <| as_ rfl <| dn <| rg <| mv rfl <| as_ rfl <| dn ?_
 refine WP.ret (Pst.body_ret rfl rfl rfl ?_)
 exact ⟨rfl, K1⟩

theorem au68 {b w : World} {S : Nat → Prop} {F : List Res} {p0 p1 p2 : Nat} (H0 : Hp b S w (rBx p0 178 [.int .i64 1, .int .i64 1, .int .i64 1, .int .i64 0, .int .i64 0, .slice none 0 0, .int .i64 2, .int .i64 0, .map (some p1), .slice (some ⟨p2, 0, none⟩) 1 1] :: rObj p1 (.map (Array.push (#[] : Array MapEntry) ⟨.int .i64 1, .bool true, 0⟩) 1) :: rBx p2 258 [.int .i64 0, .int .i64 1] :: F)) :
    Rets Tryz.prog 172 #[.pointer (some ⟨p0, 0, none⟩), .agg #[.int .i64 0, .int .i64 0, .int .i64 0, .int .i64 0, .int .i64 0, .int .i64 0]] w fun v w' => ∃ (Aj1 : Option Addr) (cj1 : Nat), v = .bool true ∧ Hp b S w' (rBx p0 178 [.int .i64 1, .int .i64 1, .int .i64 1, .int .i64 0, .int .i64 0, .slice Aj1 ((([] : List AEntry) ++ ([(⟨1, 0, 0, 0, 0, 0, 0⟩ : AEntry)] : List AEntry)).length) cj1, .int .i64 2, .int .i64 0, .map (some p1), .slice (some ⟨p2, 0, none⟩) 1 1] :: rObj p1 (.map (Array.push (#[] : Array MapEntry) ⟨.int .i64 1, .bool true, 0⟩) 1) :: rBx p2 258 [.int .i64 0, .int .i64 1] :: rOwn tEntry 68 Aj1 cj1 (([] : List AEntry) ++ ([(⟨1, 0, 0, 0, 0, 0, 0⟩ : AEntry)] : List AEntry)) :: F) := by
 refine WP.enter Tryz.func172 rfl Tryz.ntmps172 rfl <| rg ?_
 refine bx rfl rfl H0 fun g1 w1 K1 => ?_
 refine as_ rfl <| dn <| WP.seq <| rg <| mv rfl <| ev (Ev.nilCheck rfl) <| ev (Ev.field (q := ⟨p0, 3, none⟩) fa_178_2 rfl rfl) <| ev (Ev.field (q := ⟨p0, 5, none⟩) fa_26_2 rfl rfl) ?_
 refine ev (Ev.loadBoxCell na_24 rfl (K1.x s1) rfl) <| ev (Ev.len Tryz.underlying24 rfl) <| ev (Ev.geq rfl rfl) <| dn <| cFe rfl ?_
 refine WP.skip (Pst.norm ?_)
 refine He K1 (fun _ K => (K.rm s1)) (fun l0 rk lJ wJ => ∃ (Aj1 : Option Addr) (cj1 : Nat), lJ = l0 ∧ Hp b S wJ (rBx p0 178 [.int .i64 1, .int .i64 1, .int .i64 1, .int .i64 0, .int .i64 0, .slice Aj1 ((([] : List AEntry) ++ ([(⟨1, 0, 0, 0, 0, 0, 0⟩ : AEntry)] : List AEntry)).length) cj1, .int .i64 2, .int .i64 0, .map (some p1), .slice (some ⟨p2, 0, none⟩) 1 1] :: rOwn tEntry 68 Aj1 cj1 (([] : List AEntry) ++ ([(⟨1, 0, 0, 0, 0, 0, 0⟩ : AEntry)] : List AEntry)) :: rk)) (fun hns H1 => ?_) ?_
 ·
  have k1 := (H1.rm s1)
  refine Tm 0 1 hns rfl rfl k1 <| Tm 1 3 hns rfl rfl k1 <| Tn 2 7 hns rfl (fun _ _ => Ev.nilCheck rfl) k1 <| Tn 3 15 hns rfl (fun _ _ => Ev.field (q := ⟨p0, 3, none⟩) fa_178_2 rfl rfl) k1 ?_
  refine Tn 4 31 hns rfl (fun _ _ => Ev.field (q := ⟨p0, 5, none⟩) fa_26_2 rfl rfl) k1 <| Tm 6 95 hns rfl rfl k1 <| Tn 7 223 hns rfl (fun _ _ => Ev.nilCheck rfl) k1 ?_
  refine Tn 8 479 hns rfl (fun _ _ => Ev.field (q := ⟨p0, 1, none⟩) fa_178_1 rfl rfl) k1 <| Tn 9 991 hns rfl (fun _ _ => Ev.field (q := ⟨p0, 1, none⟩) fa_23_0 rfl rfl) k1 ?_
  refine Tn 11 3039 hns rfl (fun _ hK => Ev.loadBox ag_66 rfl rfl (hK.x s0)) k1 ?_
  refine Jn H1 (fun l0 rk lJ wJ => ∃ (g2 : Nat), lJ = (17, .slice none 0 0) :: (25, .slice (some ⟨g2, 0, none⟩) (([(⟨1, 0, 0, 0, 0, 0, 0⟩ : AEntry)] : List AEntry).length) 1) :: l0 ∧ Hp b S wJ (rOwn tEntry 68 (some ⟨g2, 0, none⟩) 1 ([(⟨1, 0, 0, 0, 0, 0, 0⟩ : AEntry)] : List AEntry) :: rk)) 5 16383 ?_ fun hS1 => ?_
  ·
   rintro _ w7 ⟨g2, rfl, K7⟩
   refine O1 14 rfl ?_
   have H3 := K7.nil tEntry 68
   refine ap (ys := ([(⟨1, 0, 0, 0, 0, 0, 0⟩ : AEntry)] : List AEntry)) H3 s0 rfl rfl (H3.o s1) Tryz.underlying24 ei_68 (by simp) (by simp) rfl fun Ap2 cp2 w8 K8 => ?_
   have k6 := (((K8.rm s3).rm s1).rm s0)
   refine WH.next k6 <| Tn 15 65535 hns rfl (fun _ _ => Ev.nilCheck rfl) k6 <| Tn 16 131071 hns rfl (fun _ _ => Ev.field (q := ⟨p0, 3, none⟩) fa_178_2 rfl rfl) k6 ?_
   refine Tn 17 262143 hns rfl (fun _ _ => Ev.field (q := ⟨p0, 5, none⟩) fa_26_2 rfl rfl) k6 <| O1 18 rfl ?_
   refine stc rfl rfl rfl sz_24 K8 s3 rfl fun w9 K9 => ?_
   have k7 := (((K9.rm s2).rm s1).rm s0)
   refine WH.next k7 ?_
   exact Dn ⟨Ap2, cp2, rfl, (K9.rm s2)⟩ rfl
  refine O2 5 10 rfl rfl ?_ ?_
  ·
   refine ev (Ev.loadBoxCell na_24 rfl (H1.x s1) rfl) <| WH.next k1 <| O1 10 rfl <| ev (Ev.loadBoxCell na_3 rfl (H1.x s1) rfl) <| WH.next k1 <| Tn 12 8191 hns rfl (fun _ _ => Ev.build (vs := [(0, .int .i64 1), (1, .agg #[.int .i64 0, .int .i64 0, .int .i64 0, .int .i64 0, .int .i64 0, .int .i64 0])]) (cs := [.int .i64 1, .int .i64 0, .int .i64 0, .int .i64 0, .int .i64 0, .int .i64 0, .int .i64 0]) rfl (by apply bl_68_0I_1A)) k1 ?_
   refine O1 13 rfl ?_
   refine bs1 (τ := tEntry) (x := (⟨1, 0, 0, 0, 0, 0, 0⟩ : AEntry)) rfl (by intro _; apply bs_24_1_IIIIIII) rfl H1 (fun _ _ => rfl) fun g5 w10 K10 => ?_
   have k8 := ((K10.rm s2).rm s0)
   exact Kj hS1 k8 ⟨g5, rfl, K10⟩ rfl
  ·
   refine ev (Ev.loadBoxCell na_3 rfl (H1.x s1) rfl) <| WH.next k1 <| Tn 12 8159 hns rfl (fun _ _ => Ev.build (vs := [(0, .int .i64 1), (1, .agg #[.int .i64 0, .int .i64 0, .int .i64 0, .int .i64 0, .int .i64 0, .int .i64 0])]) (cs := [.int .i64 1, .int .i64 0, .int .i64 0, .int .i64 0, .int .i64 0, .int .i64 0, .int .i64 0]) rfl (by apply bl_68_0I_1A)) k1 ?_
   refine O2 5 13 rfl rfl ?_ ?_
   ·
    refine ev (Ev.loadBoxCell na_24 rfl (H1.x s1) rfl) <| WH.next k1 <| O1 13 rfl ?_
    refine bs1 (τ := tEntry) (x := (⟨1, 0, 0, 0, 0, 0, 0⟩ : AEntry)) rfl (by intro _; apply bs_24_1_IIIIIII) rfl H1 (fun _ _ => rfl) fun g6 w11 K11 => ?_
    have k9 := ((K11.rm s2).rm s0)
    exact Kj hS1 k9 ⟨g6, rfl, K11⟩ rfl
   ·
    refine bs1 (τ := tEntry) (x := (⟨1, 0, 0, 0, 0, 0, 0⟩ : AEntry)) rfl (by intro _; apply bs_24_1_IIIIIII) rfl H1 (fun _ _ => rfl) fun g7 w12 K12 => ?_
    have k10 := ((K12.rm s2).rm s0)
    refine WH.next k10 <| O1 5 rfl <| ev (Ev.loadBoxCell na_24 rfl (K12.x s2) rfl) ?_
    exact Kj hS1 k10 ⟨g7, rfl, K12⟩ rfl
 rintro _ w13 ⟨Aj1, cj1, rfl, K13⟩
 refine rg <| as_ rfl <| dn ?_
 refine WP.ret (Pst.body_ret rfl rfl rfl ?_)
 exact ⟨Aj1, cj1, rfl, (((((K13.rm s2).sel s1).sel s3).sel s3).sel s3)⟩

theorem au73 {b w : World} {S : Nat → Prop} {F : List Res} {P0 : Option Addr} {p1 : Nat} (H0 : Hp b S w (rOwn tEntry 68 P0 p1 (([] : List AEntry) ++ ([(⟨1, 0, 0, 0, 0, 0, 0⟩ : AEntry)] : List AEntry)) :: F)) :
    Rets Tryz.prog 58 #[.slice P0 ((([] : List AEntry) ++ ([(⟨1, 0, 0, 0, 0, 0, 0⟩ : AEntry)] : List AEntry)).length) p1, .int .i64 0] w fun v w' => v = .bool true ∧ Hp b S w' (rOwn tEntry 68 P0 p1 (([] : List AEntry) ++ ([(⟨1, 0, 0, 0, 0, 0, 0⟩ : AEntry)] : List AEntry)) :: F) := by
 refine WP.enter Tryz.func58 rfl Tryz.ntmps58 rfl <| rg <| as_ rfl <| dn <| WP.seq <| rg <| mv rfl <| ev (Ev.len Tryz.underlying24 rfl) <| mv rfl <| dn <| WP.block ?_
 refine Rn 2 (RN.s ?_)
 refine rg <| ev (Ev.lss rfl rfl) <| dn <| cT rfl ?_
 refine WP.skip (Pst.norm ?_)
 refine WP.seq <| WP.block <| rg ?_
 have hx1 : ((([] : List AEntry) ++ ([(⟨1, 0, 0, 0, 0, 0, 0⟩ : AEntry)] : List AEntry)))[0]? = some (⟨1, 0, 0, 0, 0, 0, 0⟩ : AEntry) := rfl
 refine ev (Ev.index (i := 0) Tryz.underlying24 sz_68 rfl rfl rfl (lt_of_get hx1) ((H0.o s0).some_ hx1)) <| ev (Ev.loadRow ag_68 rfl rfl ((H0.o s0).flat_row hx1)) ?_
 refine al zero_68 rfl H0 fun g1 w1 K1 => ?_
 refine stw rfl rfl rfl sz_68 K1 s0 rfl rfl fun w2 K2 => ?_
 refine dn <| WP.seq <| rg <| ev (Ev.field (q := ⟨g1, 0, none⟩) fa_68_0 rfl rfl) <| ev (Ev.loadBoxCell na_3 rfl (K2.x s0) rfl) <| mv rfl <| ev (Ev.max2 rfl rfl) ?_
 refine ev (Ev.lss rfl rfl) <| mv rfl <| WL.evg rfl (Ev.field (q := ⟨g1, 0, none⟩) fa_68_0 rfl rfl) rfl <| WL.evg rfl (Ev.loadBoxCell na_3 rfl (K2.x s0) rfl) rfl ?_
 refine WL.evg rfl (Ev.gtr rfl rfl) rfl <| ev (Ev.pick_f rfl rfl) <| dn <| cFe rfl ?_
 refine WP.skip (Pst.norm ?_)
 refine rge <| ev (Ev.field (q := ⟨g1, 0, none⟩) fa_68_0 rfl rfl) <| ev (Ev.loadBoxCell na_3 rfl (K2.x s0) rfl) <| as_ rfl <| dne ?_
 refine Pst.blk_norm (Pst.norm ?_)
 refine rge <| ev (Ev.add rfl rfl (I64.mk (by first | omega | (simp; done) | decide) (by first | omega | (simp; done) | decide))) <| mv rfl <| dne ?_
 refine Pst.rnd (RN.s ?_)
 refine rg <| ev (Ev.lss rfl rfl) <| dn <| cF rfl ?_
 refine WP.exit (Pst.then_exit (Pst.then_exit (Pst.blk_eq (Pst.norm ?_))))
 refine rg <| as_ rfl <| dn ?_
 refine WP.ret (Pst.body_ret rfl rfl rfl ?_)
 exact ⟨rfl, (K2.rm s0)⟩

theorem au72 {b w : World} {S : Nat → Prop} {F : List Res} {P0 : Option Addr} {p1 : Nat} (H0 : Hp b S w (rOwn tEntry 68 P0 p1 (([] : List AEntry) ++ ([(⟨1, 0, 0, 0, 0, 0, 0⟩ : AEntry)] : List AEntry)) :: F)) :
    Rets Tryz.prog 19 #[.agg #[.int .i64 0, .int .i64 0, .slice P0 ((([] : List AEntry) ++ ([(⟨1, 0, 0, 0, 0, 0, 0⟩ : AEntry)] : List AEntry)).length) p1]] w fun v w' => v = .bool true ∧ Hp b S w' (rOwn tEntry 68 P0 p1 (([] : List AEntry) ++ ([(⟨1, 0, 0, 0, 0, 0, 0⟩ : AEntry)] : List AEntry)) :: F) := by
 refine WP.enter Tryz.func19 rfl Tryz.ntmps19 rfl <| rg ?_
 refine bx rfl rfl H0 fun g1 w1 K1 => ?_
 refine as_ rfl <| dn <| WP.seq <| WP.block <| rg <| ev (Ev.field (q := ⟨g1, 0, none⟩) fa_26_0 rfl rfl) <| ev (Ev.loadBoxCell na_3 rfl (K1.x s0) rfl) <| ev (Ev.lss rfl rfl) ?_
 refine mv rfl <| WL.evg rfl (Ev.field (q := ⟨g1, 0, none⟩) fa_26_0 rfl rfl) rfl <| WL.evg rfl (Ev.loadBoxCell na_3 rfl (K1.x s0) rfl) rfl <| WL.evg rfl (Ev.gtr rfl rfl) rfl ?_
 refine ev (Ev.pick_f rfl rfl) <| mv rfl <| WL.evg rfl (Ev.field (q := ⟨g1, 1, none⟩) fa_26_1 rfl rfl) rfl <| WL.evg rfl (Ev.loadBoxCell na_3 rfl (K1.x s0) rfl) rfl ?_
 refine WL.evg rfl (Ev.lss rfl rfl) rfl <| ev (Ev.pick_f rfl rfl) <| mv rfl <| WL.evg rfl (Ev.field (q := ⟨g1, 1, none⟩) fa_26_1 rfl rfl) rfl <| WL.evg rfl (Ev.loadBoxCell na_3 rfl (K1.x s0) rfl) rfl ?_
 refine WL.evg rfl (Ev.gtr rfl rfl) rfl <| ev (Ev.pick_f rfl rfl) <| as_ rfl <| dn <| cFe rfl <| WP.seq <| rg <| ev (Ev.field (q := ⟨g1, 0, none⟩) fa_26_0 rfl rfl) ?_
 refine ev (Ev.loadBoxCell na_3 rfl (K1.x s0) rfl) <| ev (Ev.eql rfl rfl) <| mv rfl <| WL.evg rfl (Ev.field (q := ⟨g1, 1, none⟩) fa_26_1 rfl rfl) rfl <| WL.evg rfl (Ev.loadBoxCell na_3 rfl (K1.x s0) rfl) rfl ?_
 refine WL.evg rfl (Ev.neq rfl rfl) rfl <| ev (Ev.pick_t rfl rfl) <| as_ rfl <| dn <| cFe rfl <| rge <| ev (Ev.field (q := ⟨g1, 2, none⟩) fa_26_2 rfl rfl) <| ev (Ev.loadBoxCell na_24 rfl (K1.x s0) rfl) ?_
 refine ev (Ev.len Tryz.underlying24 rfl) <| ev (Ev.gtr rfl rfl) <| as_ rfl <| dne <| Pst.norm <| cFe rfl ?_
 refine WP.skip (Pst.blk_norm (Pst.norm ?_))
 refine rg <| ev (Ev.field (q := ⟨g1, 2, none⟩) fa_26_2 rfl rfl) <| ev (Ev.loadBoxCell na_24 rfl (K1.x s0) rfl) <| ev (Ev.field (q := ⟨g1, 1, none⟩) fa_26_1 rfl rfl) ?_
 refine ev (Ev.loadBoxCell na_3 rfl (K1.x s0) rfl) <| WL.call rfl rfl rfl cl_58 (au73 ((K1.sel s0).sel s1)) rfl ?_
 rintro _ w2 ⟨rfl, K2⟩
 refine as_ rfl <| dn ?_
 refine WP.ret (Pst.body_ret rfl rfl rfl ?_)
 exact ⟨rfl, (K2.rm s1)⟩

theorem au71 {b w : World} {S : Nat → Prop} {F : List Res} {P0 : Option Addr} {p1 : Nat} (H0 : Hp b S w (rOwn tEntry 68 P0 p1 (([] : List AEntry) ++ ([(⟨1, 0, 0, 0, 0, 0, 0⟩ : AEntry)] : List AEntry)) :: F)) :
    Rets Tryz.prog 174 #[.agg #[.int .i64 0, .int .i64 0, .slice P0 ((([] : List AEntry) ++ ([(⟨1, 0, 0, 0, 0, 0, 0⟩ : AEntry)] : List AEntry)).length) p1]] w fun v w' => v = .agg #[.int .i64 0, .int .i64 0, .slice P0 ((([] : List AEntry) ++ ([(⟨1, 0, 0, 0, 0, 0, 0⟩ : AEntry)] : List AEntry)).length) p1] ∧ Hp b S w' (rOwn tEntry 68 P0 p1 (([] : List AEntry) ++ ([(⟨1, 0, 0, 0, 0, 0, 0⟩ : AEntry)] : List AEntry)) :: F) := by
 refine WP.enter Tryz.func174 rfl Tryz.ntmps174 rfl <| rg ?_
 refine bx rfl rfl H0 fun g1 w1 K1 => ?_
 refine al zero_26 rfl K1 fun g2 w2 K2 => ?_
 refine dn <| WP.seq <| rg <| ev (Ev.loadBox ag_26 rfl rfl (K2.x s1)) <| WL.call rfl rfl rfl cl_19 (au72 (((K2.sel s1).sel s1).sel s2)) rfl ?_
 rintro _ w3 ⟨rfl, K3⟩
 refine ev (Ev.not rfl) <| dn <| cFe rfl ?_
 refine WP.skip (Pst.norm ?_)
 refine rg <| ev (Ev.loadBox ag_26 rfl rfl (K3.x s2)) ?_
 refine stw rfl rfl rfl sz_26 K3 s1 rfl rfl fun w4 K4 => ?_
 refine dn ?_
 refine WP.ret (Pst.retC rfl ⟨_, _, rfl, ⟨_, rfl, loads_box (cs := [.int .i64 0, .int .i64 0, .slice P0 ((([] : List AEntry) ++ ([(⟨1, 0, 0, 0, 0, 0, 0⟩ : AEntry)] : List AEntry)).length) p1]) ag_26 rfl (K4.x s0)⟩, rfl⟩ ?_)
 exact ⟨rfl, ((K4.rm s2).rm s0)⟩

theorem au74 {b w : World} {S : Nat → Prop} {F : List Res} {P0 : Option Addr} {p1 : Nat} (H0 : Hp b S w (rOwn tEntry 68 P0 p1 (([] : List AEntry) ++ ([(⟨1, 0, 0, 0, 0, 0, 0⟩ : AEntry)] : List AEntry)) :: F)) :
    Rets Tryz.prog 175 #[.agg #[.int .i64 0, .int .i64 0, .slice P0 ((([] : List AEntry) ++ ([(⟨1, 0, 0, 0, 0, 0, 0⟩ : AEntry)] : List AEntry)).length) p1], .int .i64 1] w fun v w' => v = .tuple #[.int .i64 1, .bool true] ∧ Hp b S w' (rOwn tEntry 68 P0 p1 (([] : List AEntry) ++ ([(⟨1, 0, 0, 0, 0, 0, 0⟩ : AEntry)] : List AEntry)) :: F) := by
 refine WP.enter Tryz.func175 rfl Tryz.ntmps175 rfl <| rg ?_
 refine bx rfl rfl H0 fun g1 w1 K1 => ?_
 refine as_ rfl <| as_ rfl <| dn <| WP.seq <| rg <| ev (Ev.loadBox ag_26 rfl rfl (K1.x s0)) <| WL.call rfl rfl rfl cl_174 (au71 ((K1.sel s0).sel s1)) rfl ?_
 rintro _ w2 ⟨rfl, K2⟩
 refine stw rfl rfl rfl sz_26 K2 s1 rfl rfl fun w3 K3 => ?_
 refine dn <| WP.block <| rg <| mv rfl <| ev (Ev.field (q := ⟨g1, 0, none⟩) fa_26_0 rfl rfl) <| ev (Ev.loadBoxCell na_3 rfl (K3.x s0) rfl) <| ev (Ev.eql rfl rfl) ?_
 refine as_ rfl <| dn <| cFe rfl <| rg <| mv rfl <| ev (Ev.field (q := ⟨g1, 0, none⟩) fa_26_0 rfl rfl) <| ev (Ev.loadBoxCell na_3 rfl (K3.x s0) rfl) <| ev (Ev.lss rfl rfl) ?_
 refine mv rfl <| WL.evg rfl (Ev.move rfl) rfl <| WL.evg rfl (Ev.field (q := ⟨g1, 0, none⟩) fa_26_0 rfl rfl) rfl <| WL.evg rfl (Ev.loadBoxCell na_3 rfl (K3.x s0) rfl) rfl ?_
 refine WL.evg rfl (Ev.field (q := ⟨g1, 2, none⟩) fa_26_2 rfl rfl) rfl <| WL.evg rfl (Ev.loadBoxCell na_24 rfl (K3.x s0) rfl) rfl <| WL.evg rfl (Ev.len Tryz.underlying24 rfl) rfl ?_
 refine WL.evg rfl (Ev.add rfl rfl (I64.mk (by first | omega | (simp; done) | decide) (by first | omega | (simp; done) | decide))) rfl <| WL.evg rfl (Ev.gtr rfl rfl) rfl ?_
 refine ev (Ev.pick_f rfl rfl) <| as_ rfl <| dn <| cFe rfl ?_
 refine WP.skip (Pst.blk_norm (Pst.norm ?_))
 refine rg <| ev (Ev.field (q := ⟨g1, 2, none⟩) fa_26_2 rfl rfl) <| ev (Ev.loadBoxCell na_24 rfl (K3.x s0) rfl) <| mv rfl <| ev (Ev.field (q := ⟨g1, 0, none⟩) fa_26_0 rfl rfl) ?_
 refine ev (Ev.loadBoxCell na_3 rfl (K3.x s0) rfl) <| ev (Ev.sub rfl rfl (I64.mk (by first | omega | (simp; done) | decide) (by first | omega | (simp; done) | decide))) ?_
 refine ev (Ev.sub rfl rfl (I64.mk (by first | omega | (simp; done) | decide) (by first | omega | (simp; done) | decide))) ?_
 have hx1 : ((([] : List AEntry) ++ ([(⟨1, 0, 0, 0, 0, 0, 0⟩ : AEntry)] : List AEntry)))[0]? = some (⟨1, 0, 0, 0, 0, 0, 0⟩ : AEntry) := rfl
 refine ev (Ev.index (i := 0) Tryz.underlying24 sz_68 rfl rfl rfl (lt_of_get hx1) ((K3.o s1).some_ hx1)) <| ev (Ev.field fa_68_0 rfl (add_of_add _ _ _)) <| ev (Ev.loadCell na_3 rfl ((K3.o s1).flat_cell (j := 0) hx1 rfl)) ?_
 refine as_ rfl <| as_ rfl <| dn ?_
 refine WP.ret (Pst.body_ret rfl rfl rfl ?_)
 exact ⟨rfl, (K3.rm s0)⟩

theorem au70 {b w : World} {S : Nat → Prop} {F : List Res} {P0 : Option Addr} {p1 : Nat} (H0 : Hp b S w (rOwn tEntry 68 P0 p1 (([] : List AEntry) ++ ([(⟨1, 0, 0, 0, 0, 0, 0⟩ : AEntry)] : List AEntry)) :: F)) :
    Rets Tryz.prog 104 #[.agg #[.int .i64 0, .int .i64 0, .slice P0 ((([] : List AEntry) ++ ([(⟨1, 0, 0, 0, 0, 0, 0⟩ : AEntry)] : List AEntry)).length) p1]] w fun v w' => v = .tuple #[.int .i64 1, .int .i64 1] ∧ Hp b S w' (rOwn tEntry 68 P0 p1 (([] : List AEntry) ++ ([(⟨1, 0, 0, 0, 0, 0, 0⟩ : AEntry)] : List AEntry)) :: F) := by
 refine WP.enter Tryz.func104 rfl Tryz.ntmps104 rfl <| rg ?_
 refine bx rfl rfl H0 fun g1 w1 K1 => ?_
 refine as_ rfl <| as_ rfl <| dn <| rg <| ev (Ev.loadBox ag_26 rfl rfl (K1.x s0)) <| WL.call rfl rfl rfl cl_174 (au71 ((K1.sel s0).sel s1)) rfl ?_
 rintro _ w2 ⟨rfl, K2⟩
 refine stw rfl rfl rfl sz_26 K2 s1 rfl rfl fun w3 K3 => ?_
 refine dn <| rg <| ev (Ev.field (q := ⟨g1, 0, none⟩) fa_26_0 rfl rfl) <| ev (Ev.loadBoxCell na_3 rfl (K3.x s0) rfl) <| ev (Ev.field (q := ⟨g1, 2, none⟩) fa_26_2 rfl rfl) ?_
 refine ev (Ev.loadBoxCell na_24 rfl (K3.x s0) rfl) <| ev (Ev.len Tryz.underlying24 rfl) <| ev (Ev.add rfl rfl (I64.mk (by first | omega | (simp; done) | decide) (by first | omega | (simp; done) | decide))) ?_
 refine as_ rfl <| dn <| rg <| ev (Ev.loadBox ag_26 rfl rfl (K3.x s0)) <| mv rfl <| WL.call rfl rfl rfl cl_175 (au74 ((K3.sel s0).sel s1)) rfl ?_
 rintro _ w4 ⟨rfl, K4⟩
 refine mv rfl <| xt rfl rfl <| xt rfl rfl <| as_ rfl <| as_ rfl <| dn <| rg <| mv rfl <| mv rfl <| as_ rfl <| as_ rfl <| dn ?_
 refine WP.ret (Pst.body_ret rfl rfl rfl ?_)
 exact ⟨rfl, (K4.rm s1)⟩

theorem au69 {b w : World} {S : Nat → Prop} {F : List Res} {p0 : Nat} {P1 : Option Addr} {p2 p3 p4 : Nat} (H0 : Hp b S w (rBx p0 178 [.int .i64 1, .int .i64 1, .int .i64 1, .int .i64 0, .int .i64 0, .slice P1 ((([] : List AEntry) ++ ([(⟨1, 0, 0, 0, 0, 0, 0⟩ : AEntry)] : List AEntry)).length) p2, .int .i64 2, .int .i64 0, .map (some p3), .slice (some ⟨p4, 0, none⟩) 1 1] :: rOwn tEntry 68 P1 p2 (([] : List AEntry) ++ ([(⟨1, 0, 0, 0, 0, 0, 0⟩ : AEntry)] : List AEntry)) :: rObj p3 (.map (Array.push (#[] : Array MapEntry) ⟨.int .i64 1, .bool true, 0⟩) 1) :: rBx p4 258 [.int .i64 0, .int .i64 1] :: F)) :
    Rets Tryz.prog 171 #[.pointer (some ⟨p0, 0, none⟩)] w fun v w' => v = .int .i64 1 ∧ Hp b S w' (rBx p0 178 [.int .i64 1, .int .i64 1, .int .i64 1, .int .i64 0, .int .i64 0, .slice P1 ((([] : List AEntry) ++ ([(⟨1, 0, 0, 0, 0, 0, 0⟩ : AEntry)] : List AEntry)).length) p2, .int .i64 2, .int .i64 0, .map (some p3), .slice (some ⟨p4, 0, none⟩) 1 1] :: rOwn tEntry 68 P1 p2 (([] : List AEntry) ++ ([(⟨1, 0, 0, 0, 0, 0, 0⟩ : AEntry)] : List AEntry)) :: rObj p3 (.map (Array.push (#[] : Array MapEntry) ⟨.int .i64 1, .bool true, 0⟩) 1) :: rBx p4 258 [.int .i64 0, .int .i64 1] :: F) := by
 refine WP.enter Tryz.func171 rfl Tryz.ntmps171 rfl <| rg <| as_ rfl <| dn <| rg <| mv rfl <| ev (Ev.nilCheck rfl) <| ev (Ev.field (q := ⟨p0, 3, none⟩) fa_178_2 rfl rfl) ?_
 refine ev (Ev.loadBoxPart (cs' := [.int .i64 0, .int .i64 0, .slice P1 ((([] : List AEntry) ++ ([(⟨1, 0, 0, 0, 0, 0, 0⟩ : AEntry)] : List AEntry)).length) p2]) ag_26 rfl rfl (H0.x s0) rfl) ?_
 refine WL.call rfl rfl rfl cl_104 (au70 ((H0.sel s0).sel s1)) rfl ?_
 rintro _ w1 ⟨rfl, K1⟩
 refine mv rfl <| xt rfl rfl <| xt rfl rfl <| as_ rfl <| as_ rfl <| dn <| rg <| mv rfl <| as_ rfl <| dn ?_
 refine WP.ret (Pst.body_ret rfl rfl rfl ?_)
 exact ⟨rfl, ((K1.sel s0).sel s1)⟩

theorem au80 {b w : World} {S : Nat → Prop} {F : List Res} {P0 : Option Addr} {p1 : Nat} (H0 : Hp b S w (rOwn tInt 3 P0 p1 (([] : List Int) ++ ([1] : List Int)) :: F)) :
    Rets Tryz.prog 308 #[.slice P0 ((([] : List Int) ++ ([1] : List Int)).length) p1, .int .i64 0, .int .i64 1] w fun v w' => v = .tuple #[] ∧ Hp b S w' (rOwn tInt 3 P0 p1 (([] : List Int) ++ ([1] : List Int)) :: F) := by
 refine WP.enter Tryz.func308 rfl Tryz.ntmps308 rfl <| rg <| mv rfl <| ev (Ev.add rfl rfl (I64.mk (by first | omega | (simp; done) | decide) (by first | omega | (simp; done) | decide))) ?_
 refine as_ rfl <| dn <| WP.block ?_
 refine Rn 1 (RN.s ?_)
 refine WP.seq <| rg <| mv rfl <| mv rfl <| ev (Ev.lss rfl rfl) <| dn <| cFe rfl ?_
 refine WP.exit (Pst.then_exit (Pst.then_exit (Pst.blk_eq (Pst.body_norm (Pst.body_ret rfl rfl rfl ?_)))))
 exact ⟨rfl, H0⟩

theorem au79 {b w : World} {S : Nat → Prop} {F : List Res} {P0 : Option Addr} {p1 : Nat} (H0 : Hp b S w (rOwn tInt 3 P0 p1 (([] : List Int) ++ ([1] : List Int)) :: F)) :
    Rets Tryz.prog 244 #[.slice P0 ((([] : List Int) ++ ([1] : List Int)).length) p1, .int .i64 0, .int .i64 1, .int .i64 ((bitLen 1 : Nat) : Int)] w fun v w' => v = .tuple #[] ∧ Hp b S w' (rOwn tInt 3 P0 p1 (([] : List Int) ++ ([1] : List Int)) :: F) := by
 refine WP.enter Tryz.func244 rfl Tryz.ntmps244 rfl <| rg <| as_ rfl <| dn <| rg <| as_ rfl <| dn <| WP.block ?_
 refine Rn 1 (RN.s ?_)
 refine WP.block <| rg <| mv rfl <| mv rfl <| ev (Ev.sub rfl rfl (I64.mk (by first | omega | (simp; done) | decide) (by first | omega | (simp; done) | decide))) ?_
 refine as_ rfl <| dn <| WP.seq <| rg <| mv rfl <| ev (Ev.leq rfl rfl) <| dn <| cTe rfl <| rg <| mv rfl <| mv rfl <| mv rfl <| WL.call rfl rfl rfl cl_308 (au80 H0) rfl ?_
 rintro _ w1 ⟨rfl, K1⟩
 refine dn ?_
 refine WP.ret (Pst.then_ret (Pst.blk_ret (Pst.then_ret (Pst.blk_ret (Pst.body_ret rfl rfl rfl ?_)))))
 exact ⟨rfl, K1⟩

theorem au78 {b w : World} {S : Nat → Prop} {F : List Res} {P0 : Option Addr} {p1 : Nat} (H0 : Hp b S w (rOwn tInt 3 P0 p1 (([] : List Int) ++ ([1] : List Int)) :: F)) :
    Rets Tryz.prog 165 #[.slice P0 ((([] : List Int) ++ ([1] : List Int)).length) p1] w fun v w' => v = .tuple #[] ∧ Hp b S w' (rOwn tInt 3 P0 p1 (([] : List Int) ++ ([1] : List Int)) :: F) := by
 refine WP.enter Tryz.func165 rfl Tryz.ntmps165 rfl <| rg <| mv rfl <| ev (Ev.len Tryz.underlying72 rfl) <| as_ rfl <| dn <| rge <| mv rfl <| mv rfl <| mv rfl <| ev (Ev.convNat (m := 1) cv_3_41.1 cv_3_41.2.1 cv_3_41.2.2 rfl (wrap_nat_u64 (by omega))) ?_
 refine C0 H0 rfl rfl rfl cl_119 (Len_ok (S0 := Any) _ 1 (by omega)) fun w1 K1 => ?_
 refine WL.call rfl rfl rfl cl_244 (au79 K1) rfl ?_
 rintro _ w2 ⟨rfl, K2⟩
 refine dne ?_
 refine Pst.body_norm (Pst.body_ret rfl rfl rfl ?_)
 exact ⟨rfl, K2⟩

theorem au77 {b w : World} {S : Nat → Prop} {F : List Res} {P0 : Option Addr} {p1 : Nat} (H0 : Hp b S w (rOwn tInt 3 P0 p1 (([] : List Int) ++ ([1] : List Int)) :: F)) :
    Rets Tryz.prog 318 #[.slice P0 ((([] : List Int) ++ ([1] : List Int)).length) p1] w fun v w' => v = .int .i64 1 ∧ Hp b S w' (rOwn tInt 3 P0 p1 (([] : List Int) ++ ([1] : List Int)) :: F) := by
 refine WP.enter Tryz.func318 rfl Tryz.ntmps318 rfl <| rg <| as_ rfl <| dn <| WP.seq <| rg <| mv rfl <| ev (Ev.len Tryz.underlying72 rfl) <| ev (Ev.eql rfl rfl) <| dn ?_
 refine cFe rfl ?_
 refine WP.skip (Pst.norm ?_)
 refine rg <| mv rfl <| WL.call rfl rfl rfl cl_147 (CloneInt_ok _ (H0.o s0) (by first | omega | (simp; done) | decide)) rfl ?_
 rintro _ w1 ⟨A0_1, c0_1, rfl, h1⟩
 have K1 := H0.f1 h1
 have hL1_0 := (K1.o s0).len_le
 refine as_ rfl <| dn <| rg <| mv rfl <| WL.call rfl rfl rfl cl_165 (au78 K1) rfl ?_
 rintro _ w2 ⟨rfl, K2⟩
 refine dn <| rg <| mv rfl <| mv rfl <| ev (Ev.len Tryz.underlying72 rfl) <| mv rfl <| ev (Ev.len Tryz.underlying72 rfl) <| WL.call rfl rfl rfl cl_170 (au65 K2) rfl ?_
 rintro _ w3 ⟨rfl, K3⟩
 refine ev (Ev.sub rfl rfl (I64.mk (by first | omega | (simp; done) | decide) (by first | omega | (simp; done) | decide))) ?_
 have hx1 : ((([] : List Int) ++ ([1] : List Int)))[0]? = some 1 := rfl
 refine ev (Ev.index (i := 0) Tryz.underlying72 sz_3 rfl rfl rfl (lt_of_get hx1) ((K3.o s0).some_ hx1)) <| ev (Ev.loadCell na_3 rfl ((K3.o s0).flat_cell (j := 0) hx1 rfl)) ?_
 refine as_ rfl <| dn ?_
 refine WP.ret (Pst.body_ret rfl rfl rfl ?_)
 exact ⟨rfl, (K3.rm s0)⟩

theorem au76 {b w : World} {S : Nat → Prop} {F : List Res} {P0 : Option Addr} {p1 : Nat} {P2 : Option Addr} {p3 : Nat} (H0 : Hp b S w (rOwn tEntry 68 P0 p1 (([] : List AEntry) ++ ([(⟨1, 0, 0, 0, 0, 0, 0⟩ : AEntry)] : List AEntry)) :: rOwn tInt 3 P2 p3 (([] : List Int) ++ ([1] : List Int)) :: F)) :
    Rets Tryz.prog 247 #[.agg #[.int .i64 0, .int .i64 0, .slice P0 ((([] : List AEntry) ++ ([(⟨1, 0, 0, 0, 0, 0, 0⟩ : AEntry)] : List AEntry)).length) p1], .slice P2 ((([] : List Int) ++ ([1] : List Int)).length) p3, .int .i64 1, .int .i64 0] w fun v w' => v = .int .i64 1 ∧ Hp b S w' (rOwn tEntry 68 P0 p1 (([] : List AEntry) ++ ([(⟨1, 0, 0, 0, 0, 0, 0⟩ : AEntry)] : List AEntry)) :: rOwn tInt 3 P2 p3 (([] : List Int) ++ ([1] : List Int)) :: F) := by
 refine WP.enter Tryz.func247 rfl Tryz.ntmps247 rfl <| rg ?_
 refine bx rfl rfl H0 fun g1 w1 K1 => ?_
 refine as_ rfl <| dn <| WP.sc <| rg <| ev (Ev.loadBox ag_26 rfl rfl (K1.x s0)) <| WL.call rfl rfl rfl cl_104 (au70 ((K1.sel s0).sel s1)) rfl ?_
 rintro _ w2 ⟨rfl, K2⟩
 refine mv rfl <| xt rfl rfl <| xt rfl rfl <| as_ rfl <| as_ rfl <| dn <| rg <| mv rfl <| mv rfl <| WL.call rfl rfl rfl cl_318 (au77 (((K2.sel s1).sel s1).sel s2)) rfl ?_
 rintro _ w3 ⟨rfl, K3⟩
 refine ev (Ev.min2 rfl rfl) <| as_ rfl <| dn ?_
 refine WP.seq (WP.lab (Pst.norm ?_))
 refine WP.seq <| rg <| ev (Ev.loadBox ag_26 rfl rfl (K3.x s2)) <| mv rfl <| WL.call rfl rfl rfl cl_175 (au74 ((K3.sel s0).sel s1)) rfl ?_
 rintro _ w4 ⟨rfl, K4⟩
 refine mv rfl <| xt rfl rfl <| xt rfl rfl <| as_ rfl <| as_ rfl <| dn <| rg <| mv rfl <| mv rfl <| WL.evg rfl (Ev.move rfl) rfl <| WL.evg rfl (Ev.move rfl) rfl ?_
 refine WL.evg rfl (Ev.gtr rfl rfl) rfl <| ev (Ev.pick_t rfl rfl) <| dn <| cTe rfl <| WP.seq <| rg <| mv rfl <| mv rfl <| ev (Ev.eql rfl rfl) <| dn <| cTe rfl ?_
 refine rg <| mv rfl <| as_ rfl <| dn ?_
 refine WP.ret (Pst.then_ret (Pst.then_ret (Pst.sc_ret (Pst.body_ret rfl rfl rfl ?_))))
 exact ⟨rfl, (K4.rm s2)⟩

theorem au75 {b w : World} {S : Nat → Prop} {F : List Res} {p0 : Nat} {P1 : Option Addr} {p2 p3 p4 : Nat} (H0 : Hp b S w (rBx p0 178 [.int .i64 1, .int .i64 1, .int .i64 1, .int .i64 0, .int .i64 0, .slice P1 ((([] : List AEntry) ++ ([(⟨1, 0, 0, 0, 0, 0, 0⟩ : AEntry)] : List AEntry)).length) p2, .int .i64 2, .int .i64 0, .map (some p3), .slice (some ⟨p4, 0, none⟩) 1 1] :: rOwn tEntry 68 P1 p2 (([] : List AEntry) ++ ([(⟨1, 0, 0, 0, 0, 0, 0⟩ : AEntry)] : List AEntry)) :: rObj p3 (.map (Array.push (#[] : Array MapEntry) ⟨.int .i64 1, .bool true, 0⟩) 1) :: rBx p4 258 [.int .i64 1, .int .i64 1] :: F)) :
    Rets Tryz.prog 173 #[.pointer (some ⟨p0, 0, none⟩)] w fun v w' => v = .tuple #[] ∧ Hp b S w' (rBx p0 178 [.int .i64 1, .int .i64 1, .int .i64 1, .int .i64 0, .int .i64 0, .slice P1 ((([] : List AEntry) ++ ([(⟨1, 0, 0, 0, 0, 0, 0⟩ : AEntry)] : List AEntry)).length) p2, .int .i64 2, .int .i64 1, .map (some p3), .slice (some ⟨p4, 0, none⟩) 1 1] :: rOwn tEntry 68 P1 p2 (([] : List AEntry) ++ ([(⟨1, 0, 0, 0, 0, 0, 0⟩ : AEntry)] : List AEntry)) :: rObj p3 (.map (Array.push (#[] : Array MapEntry) ⟨.int .i64 1, .bool true, 0⟩) 1) :: rBx p4 258 [.int .i64 1, .int .i64 1] :: F) := by
 refine WP.enter Tryz.func173 rfl Tryz.ntmps173 rfl <| rg <| as_ rfl <| dn <| WP.seq <| rg <| mv rfl <| ev (Ev.nilCheck rfl) <| ev (Ev.field (q := ⟨p0, 9, none⟩) fa_178_6 rfl rfl) ?_
 refine ev (Ev.loadBoxCell na_176 rfl (H0.x s0) rfl) <| ev (Ev.len Tryz.underlying176 rfl) <| mv rfl <| dn <| WP.block ?_
 refine Rn 2 (RN.s ?_)
 refine rg <| ev (Ev.lss rfl rfl) <| dn <| cT rfl ?_
 refine WP.skip (Pst.norm ?_)
 refine WP.seq <| WP.block <| rg <| ev (Ev.index (i := 0) Tryz.underlying176 sz_258 rfl rfl rfl (by decide) rfl) <| ev (Ev.loadBox ag_258 rfl rfl (H0.x s3)) ?_
 refine al zero_258 rfl H0 fun g1 w1 K1 => ?_
 refine stw rfl rfl rfl sz_258 K1 s0 rfl rfl fun w2 K2 => ?_
 refine dn <| rge <| mv rfl <| ev (Ev.field (q := ⟨g1, 0, none⟩) fa_258_0 rfl rfl) <| ev (Ev.loadBoxCell na_3 rfl (K2.x s0) rfl) ?_
 refine bs1 (τ := tInt) (x := 1) rfl (by intro _; apply bs_72_1_I) rfl K2 (fun _ _ => rfl) fun g2 w3 K3 => ?_
 have H1 := K3.nil tInt 3
 refine ap (ys := ([1] : List Int)) H1 s0 rfl rfl (H1.o s1) Tryz.underlying72 ei_3 (by simp) (by simp) rfl fun Ap1 cp1 w4 K4 => ?_
 refine as_ rfl <| dne ?_
 refine Pst.blk_norm (Pst.norm ?_)
 refine rge <| ev (Ev.add rfl rfl (I64.mk (by first | omega | (simp; done) | decide) (by first | omega | (simp; done) | decide))) <| mv rfl <| dne ?_
 refine Pst.rnd (RN.s ?_)
 refine rg <| ev (Ev.lss rfl rfl) <| dn <| cF rfl ?_
 refine WP.exit (Pst.then_exit (Pst.then_exit (Pst.blk_eq (Pst.norm ?_))))
 refine Hf K4 (fun _ K => (K.rm s3)) (fun l0 rk lJ wJ => lJ = l0 ∧ Hp b S wJ (rBx p0 178 [.int .i64 1, .int .i64 1, .int .i64 1, .int .i64 0, .int .i64 0, .slice P1 ((([] : List AEntry) ++ ([(⟨1, 0, 0, 0, 0, 0, 0⟩ : AEntry)] : List AEntry)).length) p2, .int .i64 2, .int .i64 1, .map (some p3), .slice (some ⟨p4, 0, none⟩) 1 1] :: rk)) (fun hns H2 => ?_) ?_
 ·
  have k1 := (H2.rm s3)
  refine Tm 0 1 hns rfl rfl k1 <| Tm 1 3 hns rfl rfl k1 <| Tn 2 7 hns rfl (fun _ _ => Ev.nilCheck rfl) k1 <| Tn 3 15 hns rfl (fun _ _ => Ev.field (q := ⟨p0, 3, none⟩) fa_178_2 rfl rfl) k1 ?_
  refine Tm 5 47 hns rfl rfl k1 <| Tm 6 111 hns rfl rfl k1 <| Tn 7 239 hns rfl (fun _ _ => Ev.nilCheck rfl) k1 <| Tn 8 495 hns rfl (fun _ _ => Ev.field (q := ⟨p0, 1, none⟩) fa_178_1 rfl rfl) k1 ?_
  refine Tn 9 1007 hns rfl (fun _ _ => Ev.field (q := ⟨p0, 1, none⟩) fa_23_0 rfl rfl) k1 <| Tm 11 3055 hns rfl rfl k1 <| Tn 12 7151 hns rfl (fun _ _ => Ev.nilCheck rfl) k1 ?_
  refine Tn 13 15343 hns rfl (fun _ _ => Ev.field (q := ⟨p0, 7, none⟩) fa_178_4 rfl rfl) k1 ?_
  refine Jn H2 (fun l0 rk lJ wJ => lJ = (24, .agg #[.int .i64 0, .int .i64 0, .slice P1 ((([] : List AEntry) ++ ([(⟨1, 0, 0, 0, 0, 0, 0⟩ : AEntry)] : List AEntry)).length) p2]) :: (30, .int .i64 1) :: (34, .int .i64 0) :: l0 ∧ Hp b S wJ rk) 4 32767 ?_ fun hS1 => ?_
  ·
   rintro _ w7 ⟨rfl, K7⟩
   refine O1 15 rfl <| WL.call rfl rfl rfl cl_247 (au76 (((((K7.sel s3).sel s3).sel s3).sel s3).sel s4)) rfl ?_
   rintro _ w8 ⟨rfl, K8⟩
   have k4 := (((((K8.rm s4).sel s0).sel s3).sel s3).sel s3)
   refine WH.next k4 <| Tn 16 131071 hns rfl (fun _ _ => Ev.nilCheck rfl) k4 <| Tn 17 262143 hns rfl (fun _ _ => Ev.field (q := ⟨p0, 7, none⟩) fa_178_4 rfl rfl) k4 ?_
   refine O1 18 rfl ?_
   refine stc rfl rfl rfl sz_3 K8 s4 rfl fun w9 K9 => ?_
   have k5 := (((((K9.rm s0).sel s0).sel s3).sel s3).sel s3)
   refine WH.next k5 ?_
   exact Dn ⟨rfl, (((((K9.sel s1).sel s4).sel s4).sel s4).sel s4)⟩ rfl
  refine Jn H2 (fun l0 rk lJ wJ => lJ = (24, .agg #[.int .i64 0, .int .i64 0, .slice P1 ((([] : List AEntry) ++ ([(⟨1, 0, 0, 0, 0, 0, 0⟩ : AEntry)] : List AEntry)).length) p2]) :: (30, .int .i64 1) :: l0 ∧ Hp b S wJ rk) 5 16383 ?_ fun hS2 => ?_
  ·
   rintro _ w10 ⟨rfl, K10⟩
   refine O1 14 rfl <| ev (Ev.loadBoxCell na_3 rfl (K10.x s3) rfl) ?_
   have k6 := (K10.rm s3)
   exact Kj hS1 k6 ⟨rfl, K10⟩ rfl
  refine Jn H2 (fun l0 rk lJ wJ => lJ = (24, .agg #[.int .i64 0, .int .i64 0, .slice P1 ((([] : List AEntry) ++ ([(⟨1, 0, 0, 0, 0, 0, 0⟩ : AEntry)] : List AEntry)).length) p2]) :: (34, .int .i64 0) :: l0 ∧ Hp b S wJ rk) 5 31743 ?_ fun hS3 => ?_
  ·
   rintro _ w11 ⟨rfl, K11⟩
   refine O1 10 rfl <| ev (Ev.loadBoxCell na_3 rfl (K11.x s3) rfl) ?_
   have k7 := (K11.rm s3)
   exact Kj hS1 k7 ⟨rfl, K11⟩ rfl
  refine Jn H2 (fun l0 rk lJ wJ => lJ = (30, .int .i64 1) :: (34, .int .i64 0) :: l0 ∧ Hp b S wJ rk) 5 32751 ?_ fun hS4 => ?_
  ·
   rintro _ w12 ⟨rfl, K12⟩
   refine O1 4 rfl <| ev (Ev.loadBoxPart (cs' := [.int .i64 0, .int .i64 0, .slice P1 ((([] : List AEntry) ++ ([(⟨1, 0, 0, 0, 0, 0, 0⟩ : AEntry)] : List AEntry)).length) p2]) ag_26 rfl rfl (K12.x s3) rfl) ?_
   have k8 := (K12.rm s3)
   exact Kj hS1 k8 ⟨rfl, K12⟩ rfl
  refine WH.all (fuel := 6) (rs := [4, 10, 14]) (by kernel_rfl) (by decide) ?_
  simp only [List.forall_mem_cons, List.not_mem_nil, false_implies, implies_true, and_true]
  refine ⟨?_, ?_, ?_⟩
  ·
   refine ⟨_, rfl, ?_⟩
   refine ev (Ev.loadBoxPart (cs' := [.int .i64 0, .int .i64 0, .slice P1 ((([] : List AEntry) ++ ([(⟨1, 0, 0, 0, 0, 0, 0⟩ : AEntry)] : List AEntry)).length) p2]) ag_26 rfl rfl (H2.x s3) rfl) ?_
   refine WH.next k1 ?_
   refine O2 10 14 rfl rfl ?_ ?_
   ·
    refine ev (Ev.loadBoxCell na_3 rfl (H2.x s3) rfl) ?_
    exact Kj hS2 k1 ⟨rfl, H2⟩ rfl
   ·
    refine ev (Ev.loadBoxCell na_3 rfl (H2.x s3) rfl) ?_
    exact Kj hS3 k1 ⟨rfl, H2⟩ rfl
  ·
   refine ⟨_, rfl, ?_⟩
   refine ev (Ev.loadBoxCell na_3 rfl (H2.x s3) rfl) <| WH.next k1 ?_
   refine O2 4 14 rfl rfl ?_ ?_
   ·
    refine ev (Ev.loadBoxPart (cs' := [.int .i64 0, .int .i64 0, .slice P1 ((([] : List AEntry) ++ ([(⟨1, 0, 0, 0, 0, 0, 0⟩ : AEntry)] : List AEntry)).length) p2]) ag_26 rfl rfl (H2.x s3) rfl) ?_
    exact Kj hS2 k1 ⟨rfl, H2⟩ rfl
   ·
    refine ev (Ev.loadBoxCell na_3 rfl (H2.x s3) rfl) ?_
    exact Kj hS4 k1 ⟨rfl, H2⟩ rfl
  ·
   refine ⟨_, rfl, ?_⟩
   refine ev (Ev.loadBoxCell na_3 rfl (H2.x s3) rfl) <| WH.next k1 ?_
   refine O2 4 10 rfl rfl ?_ ?_
   ·
    refine ev (Ev.loadBoxPart (cs' := [.int .i64 0, .int .i64 0, .slice P1 ((([] : List AEntry) ++ ([(⟨1, 0, 0, 0, 0, 0, 0⟩ : AEntry)] : List AEntry)).length) p2]) ag_26 rfl rfl (H2.x s3) rfl) ?_
    exact Kj hS3 k1 ⟨rfl, H2⟩ rfl
   ·
    refine ev (Ev.loadBoxCell na_3 rfl (H2.x s3) rfl) ?_
    exact Kj hS4 k1 ⟨rfl, H2⟩ rfl
 rintro _ w13 ⟨rfl, K13⟩
 refine Pst.body_norm (Pst.body_ret rfl rfl rfl ?_)
 exact ⟨rfl, (((K13.rm s3).rm s2).rm s1)⟩

theorem au81 {b w : World} {S : Nat → Prop} {F : List Res} {p0 : Nat} {P1 : Option Addr} {p2 p3 p4 : Nat} (H0 : Hp b S w (rBx p0 178 [.int .i64 1, .int .i64 1, .int .i64 1, .int .i64 0, .int .i64 0, .slice P1 ((([] : List AEntry) ++ ([(⟨1, 0, 0, 0, 0, 0, 0⟩ : AEntry)] : List AEntry)).length) p2, .int .i64 2, .int .i64 1, .map (some p3), .slice (some ⟨p4, 0, none⟩) 1 1] :: rOwn tEntry 68 P1 p2 (([] : List AEntry) ++ ([(⟨1, 0, 0, 0, 0, 0, 0⟩ : AEntry)] : List AEntry)) :: rObj p3 (.map (Array.push (#[] : Array MapEntry) ⟨.int .i64 1, .bool true, 0⟩) 1) :: rBx p4 258 [.int .i64 1, .int .i64 1] :: F)) :
    Rets Tryz.prog 101 #[.pointer (some ⟨p0, 0, none⟩), .func (.func 105) #[.pointer (some ⟨p0, 0, none⟩)] #[]] w fun v w' => v = .slice none 0 0 ∧ Hp b S w' (rBx p0 178 [.int .i64 1, .int .i64 1, .int .i64 1, .int .i64 0, .int .i64 0, .slice P1 ((([] : List AEntry) ++ ([(⟨1, 0, 0, 0, 0, 0, 0⟩ : AEntry)] : List AEntry)).length) p2, .int .i64 2, .int .i64 1, .map (some p3), .slice (some ⟨p4, 0, none⟩) 1 1] :: rOwn tEntry 68 P1 p2 (([] : List AEntry) ++ ([(⟨1, 0, 0, 0, 0, 0, 0⟩ : AEntry)] : List AEntry)) :: rObj p3 (.map (Array.push (#[] : Array MapEntry) ⟨.int .i64 1, .bool true, 0⟩) 1) :: rBx p4 258 [.int .i64 1, .int .i64 1] :: F) := by
 refine WP.enter Tryz.func101 rfl Tryz.ntmps101 rfl <| rg <| as_ rfl <| dn <| rg <| as_ rfl <| dn <| WP.seq <| rg <| mv rfl <| ev (Ev.nilCheck rfl) <| ev (Ev.field (q := ⟨p0, 9, none⟩) fa_178_6 rfl rfl) ?_
 refine ev (Ev.loadBoxCell na_176 rfl (H0.x s0) rfl) <| ev (Ev.len Tryz.underlying176 rfl) <| mv rfl <| dn <| WP.block ?_
 refine Rn 2 (RN.s ?_)
 refine rg <| ev (Ev.lss rfl rfl) <| dn <| cT rfl ?_
 refine WP.skip (Pst.norm ?_)
 refine WP.seq <| WP.block <| rg <| mv rfl <| as_ rfl <| dn <| rg <| mv rfl <| ev (Ev.add rfl rfl (I64.mk (by first | omega | (simp; done) | decide) (by first | omega | (simp; done) | decide))) ?_
 refine as_ rfl <| dn <| rg <| mv rfl <| mv rfl <| ev (Ev.nilCheck rfl) <| ev (Ev.field (q := ⟨p0, 0, none⟩) fa_178_0 rfl rfl) <| ev (Ev.loadBoxCell na_3 rfl (H0.x s0) rfl) ?_
 refine ev (Ev.neq rfl rfl) <| dn <| cFe rfl ?_
 refine WP.skip (Pst.blk_norm (Pst.norm ?_))
 refine rge <| ev (Ev.add rfl rfl (I64.mk (by first | omega | (simp; done) | decide) (by first | omega | (simp; done) | decide))) <| mv rfl <| dne ?_
 refine Pst.rnd (RN.s ?_)
 refine rg <| ev (Ev.lss rfl rfl) <| dn <| cF rfl ?_
 refine WP.exit (Pst.then_exit (Pst.then_exit (Pst.blk_eq (Pst.norm ?_))))
 refine rg <| mv rfl <| as_ rfl <| dn ?_
 refine WP.ret (Pst.body_ret rfl rfl rfl ?_)
 exact ⟨rfl, H0⟩

theorem au66 {b w : World} {S : Nat → Prop} {F : List Res} {p0 p1 p2 : Nat} (H0 : Hp b S w (rBx p0 178 [.int .i64 1, .int .i64 1, .int .i64 1, .int .i64 0, .int .i64 0, .slice none 0 0, .int .i64 1, .int .i64 0, .map (some p1), .slice (some ⟨p2, 0, none⟩) 1 1] :: rObj p1 (.map (Array.push (#[] : Array MapEntry) ⟨.int .i64 1, .bool true, 0⟩) 1) :: rBx p2 258 [.int .i64 0, .int .i64 0] :: F)) :
    Rets Tryz.prog 100 #[.pointer (some ⟨p0, 0, none⟩)] w fun v w' => ∃ (Au1 : Option Addr) (gu1 : Nat), v = .slice none 0 0 ∧ Hp b S w' (rBx p0 178 [.int .i64 1, .int .i64 1, .int .i64 1, .int .i64 0, .int .i64 0, .slice Au1 ((([] : List AEntry) ++ ([(⟨1, 0, 0, 0, 0, 0, 0⟩ : AEntry)] : List AEntry)).length) gu1, .int .i64 2, .int .i64 1, .map (some p1), .slice (some ⟨p2, 0, none⟩) 1 1] :: rObj p1 (.map (Array.push (#[] : Array MapEntry) ⟨.int .i64 1, .bool true, 0⟩) 1) :: rBx p2 258 [.int .i64 1, .int .i64 1] :: rOwn tEntry 68 Au1 gu1 (([] : List AEntry) ++ ([(⟨1, 0, 0, 0, 0, 0, 0⟩ : AEntry)] : List AEntry)) :: F) := by
 refine WP.enter Tryz.func100 rfl Tryz.ntmps100 rfl <| rg <| as_ rfl <| dn <| rg <| mv rfl <| ev (Ev.nilCheck rfl) <| ev (Ev.field (q := ⟨p0, 6, none⟩) fa_178_3 rfl rfl) ?_
 refine stc rfl rfl rfl sz_3 H0 s0 rfl fun w1 K1 => ?_
 refine dn <| WP.seq <| rg <| mv rfl <| ev (Ev.nilCheck rfl) <| ev (Ev.field (q := ⟨p0, 9, none⟩) fa_178_6 rfl rfl) <| ev (Ev.loadBoxCell na_176 rfl (K1.x s0) rfl) ?_
 refine ev (Ev.len Tryz.underlying176 rfl) <| mv rfl <| dn <| WP.block ?_
 refine Rn 2 (RN.s ?_)
 refine rg <| ev (Ev.lss rfl rfl) <| dn <| cT rfl ?_
 refine WP.skip (Pst.norm ?_)
 refine WP.seq <| WP.block <| rg <| mv rfl <| as_ rfl <| dn ?_
 refine Hf K1 (fun _ K => (K.rm s2)) (fun l0 rk lJ wJ => lJ = l0 ∧ Hp b S wJ (rBx p2 258 [.int .i64 0, .int .i64 1] :: rk)) (fun hns H1 => ?_) ?_
 ·
  have k1 := (H1.rm s2)
  refine Tm 0 1 hns rfl rfl k1 <| Tn 1 3 hns rfl (fun _ _ => Ev.nilCheck rfl) k1 <| Tn 2 7 hns rfl (fun _ _ => Ev.field (q := ⟨p0, 9, none⟩) fa_178_6 rfl rfl) k1 ?_
  refine Tn 3 15 hns rfl (fun _ hK => Ev.loadBoxCell na_176 rfl (hK.x s0) rfl) k1 <| Tm 4 31 hns rfl rfl k1 <| Tm 5 63 hns rfl rfl k1 <| O1 6 rfl <| WL.call rfl rfl rfl cl_171 (au67 H1) rfl ?_
  rintro _ w2 ⟨rfl, K2⟩
  have k2 := (K2.rm s2)
  refine WH.next k2 <| Tn 7 255 hns rfl (fun _ _ => Ev.add rfl rfl (I64.mk (by first | omega | (simp; done) | decide) (by first | omega | (simp; done) | decide))) k2 ?_
  refine Tn 8 511 hns rfl (fun _ _ => Ev.build (vs := [(1, .int .i64 1)]) (cs := [.int .i64 0, .int .i64 1]) rfl (by apply bl_258_1I)) k2 <| Tn 9 1023 hns rfl (fun _ _ => Ev.index (i := 0) Tryz.underlying176 sz_258 rfl rfl rfl (by decide) rfl) k2 ?_
  refine O1 10 rfl ?_
  refine stw rfl rfl rfl sz_258 K2 s2 rfl rfl fun w3 K3 => ?_
  have k3 := (K3.rm s0)
  refine WH.next k3 ?_
  exact Dn ⟨rfl, K3⟩ rfl
 rintro _ w4 ⟨rfl, K4⟩
 refine Pst.blk_norm (Pst.norm ?_)
 refine rge <| ev (Ev.add rfl rfl (I64.mk (by first | omega | (simp; done) | decide) (by first | omega | (simp; done) | decide))) <| mv rfl <| dne ?_
 refine Pst.rnd (RN.s ?_)
 refine rg <| ev (Ev.lss rfl rfl) <| dn <| cF rfl ?_
 refine WP.exit (Pst.then_exit (Pst.then_exit (Pst.blk_eq (Pst.norm ?_))))
 refine rg <| mv rfl <| ev (Ev.build (vs := []) (cs := [.int .i64 0, .int .i64 0, .int .i64 0, .int .i64 0, .int .i64 0, .int .i64 0]) rfl (by apply bl_66_)) <| WL.call rfl rfl rfl cl_172 (au68 (((K4.sel s0).sel s2).sel s2)) rfl ?_
 rintro _ w5 ⟨Au1, gu1, rfl, K5⟩
 refine dn ?_
 refine He K5 (fun _ K => (K.rm s2)) (fun l0 rk lJ wJ => lJ = l0 ∧ Hp b S wJ (rBx p2 258 [.int .i64 1, .int .i64 1] :: rk)) (fun hns H2 => ?_) ?_
 ·
  have k4 := (H2.rm s2)
  refine Tm 0 1 hns rfl rfl k4 <| Tn 1 3 hns rfl (fun _ _ => Ev.nilCheck rfl) k4 <| Tn 2 7 hns rfl (fun _ _ => Ev.field (q := ⟨p0, 9, none⟩) fa_178_6 rfl rfl) k4 ?_
  refine Tn 3 15 hns rfl (fun _ hK => Ev.loadBoxCell na_176 rfl (hK.x s0) rfl) k4 <| Tm 4 31 hns rfl rfl k4 <| Tn 5 63 hns rfl (fun _ _ => Ev.nilCheck rfl) k4 <| Tn 6 127 hns rfl (fun _ _ => Ev.field (q := ⟨p0, 0, none⟩) fa_178_0 rfl rfl) k4 ?_
  refine Tn 7 255 hns rfl (fun _ hK => Ev.loadBoxCell na_3 rfl (hK.x s0) rfl) k4 <| Tn 8 511 hns rfl (fun _ _ => Ev.sub rfl rfl (I64.mk (by first | omega | (simp; done) | decide) (by first | omega | (simp; done) | decide))) k4 ?_
  refine Tm 9 1023 hns rfl rfl k4 <| O1 10 rfl <| WL.call rfl rfl rfl cl_171 (au69 ((((H2.sel s2).sel s2).sel s3).sel s3)) rfl ?_
  rintro _ w6 ⟨rfl, K6⟩
  have k5 := ((((K6.rm s3).sel s1).sel s2).sel s2)
  refine WH.next k5 <| Tn 11 4095 hns rfl (fun _ _ => Ev.index (i := 0) Tryz.underlying176 sz_258 rfl rfl rfl (by decide) rfl) k5 <| Tn 12 8191 hns rfl (fun _ _ => Ev.field (q := ⟨p2, 0, none⟩) fa_258_0 rfl rfl) k5 ?_
  refine O1 13 rfl ?_
  refine stc rfl rfl rfl sz_3 K6 s3 rfl fun w7 K7 => ?_
  have k6 := ((((K7.rm s0).sel s1).sel s2).sel s2)
  refine WH.next k6 ?_
  exact Dn ⟨rfl, ((((K7.sel s2).sel s3).sel s3).sel s3)⟩ rfl
 rintro _ w8 ⟨rfl, K8⟩
 refine rg <| mv rfl <| WL.call rfl rfl rfl cl_173 (au75 ((((K8.sel s0).sel s2).sel s3).sel s3)) rfl ?_
 rintro _ w9 ⟨rfl, K9⟩
 refine dn <| rg <| mv rfl <| mv rfl <| ev (Ev.funcB rfl rfl) <| WL.call rfl rfl rfl cl_101 (au81 K9) rfl ?_
 rintro _ w10 ⟨rfl, K10⟩
 refine as_ rfl <| dn ?_
 refine WP.ret (Pst.body_ret rfl rfl rfl ?_)
 exact ⟨Au1, gu1, rfl, ((((K10.sel s1).sel s3).sel s3).sel s3)⟩

theorem au63 {b w : World} {S : Nat → Prop} {F : List Res} {p0 p1 p2 : Nat} (H0 : Hp b S w (rBx p0 178 [.int .i64 1, .int .i64 0, .int .i64 0, .int .i64 0, .int .i64 0, .slice none 0 0, .int .i64 0, .int .i64 0, .map (some p1), .slice (some ⟨p2, 0, none⟩) 1 1] :: rObj p1 (.map (#[] : Array MapEntry) 0) :: rBx p2 258 [.int .i64 0, .int .i64 0] :: F)) :
    Rets Tryz.prog 48 #[.pointer (some ⟨p0, 0, none⟩)] w fun v w' => ∃ (Au1 : Option Addr) (gu1 : Nat), v = .slice none 0 0 ∧ Hp b S w' (rBx p0 178 [.int .i64 1, .int .i64 1, .int .i64 1, .int .i64 0, .int .i64 0, .slice Au1 ((([] : List AEntry) ++ ([(⟨1, 0, 0, 0, 0, 0, 0⟩ : AEntry)] : List AEntry)).length) gu1, .int .i64 2, .int .i64 1, .map (some p1), .slice (some ⟨p2, 0, none⟩) 1 1] :: rObj p1 (.map (Array.push (#[] : Array MapEntry) ⟨.int .i64 1, .bool true, 0⟩) 1) :: rBx p2 258 [.int .i64 1, .int .i64 1] :: rOwn tEntry 68 Au1 gu1 (([] : List AEntry) ++ ([(⟨1, 0, 0, 0, 0, 0, 0⟩ : AEntry)] : List AEntry)) :: F) := by
 refine WP.enter Tryz.func48 rfl Tryz.ntmps48 rfl <| rg ?_
 refine bx rfl rfl H0 fun g1 w1 K1 => ?_
 refine as_ rfl <| dn <| WP.seq <| rg <| ev (Ev.loadBoxCell na_98 rfl (K1.x s0) rfl) <| ev (Ev.nilCheck rfl) <| ev (Ev.field (q := ⟨p0, 6, none⟩) fa_178_3 rfl rfl) ?_
 refine ev (Ev.loadBoxCell na_3 rfl (K1.x s1) rfl) <| ev (Ev.eql rfl rfl) <| mv rfl <| WL.evg rfl (Ev.loadBoxCell na_98 rfl (K1.x s0) rfl) rfl <| WL.evg rfl (Ev.nilCheck rfl) rfl ?_
 refine WL.evg rfl (Ev.field (q := ⟨p0, 1, none⟩) fa_178_1 rfl rfl) rfl <| WL.evg rfl (Ev.field (q := ⟨p0, 1, none⟩) fa_23_0 rfl rfl) rfl <| WL.evg rfl (Ev.loadBoxCell na_3 rfl (K1.x s1) rfl) rfl ?_
 refine WL.evg rfl (Ev.geq rfl rfl) rfl <| ev (Ev.pick_f rfl rfl) <| dn <| cFe rfl ?_
 refine WP.skip (Pst.norm ?_)
 refine He K1 (fun _ K => (K.rm s1)) (fun l0 rk lJ wJ => lJ = l0 ∧ Hp b S wJ (rBx p0 178 [.int .i64 1, .int .i64 1, .int .i64 1, .int .i64 0, .int .i64 0, .slice none 0 0, .int .i64 0, .int .i64 0, .map (some p1), .slice (some ⟨p2, 0, none⟩) 1 1] :: rk)) (fun hns H1 => ?_) ?_
 ·
  have k1 := (H1.rm s1)
  refine Tn 0 1 hns rfl (fun _ hK => Ev.loadBoxCell na_98 rfl (hK.x s0) rfl) k1 <| Tn 1 3 hns rfl (fun _ hK => Ev.loadBoxCell na_98 rfl (hK.x s0) rfl) k1 <| Tn 2 7 hns rfl (fun _ _ => Ev.nilCheck rfl) k1 ?_
  refine Tn 3 15 hns rfl (fun _ _ => Ev.field (q := ⟨p0, 1, none⟩) fa_178_1 rfl rfl) k1 <| Tn 4 31 hns rfl (fun _ _ => Ev.field (q := ⟨p0, 1, none⟩) fa_23_0 rfl rfl) k1 ?_
  refine Tn 7 159 hns rfl (fun _ hK => Ev.loadBoxCell na_98 rfl (hK.x s0) rfl) k1 <| Tn 8 415 hns rfl (fun _ _ => Ev.nilCheck rfl) k1 <| Tn 9 927 hns rfl (fun _ _ => Ev.field (q := ⟨p0, 0, none⟩) fa_178_0 rfl rfl) k1 ?_
  refine O2 5 10 rfl rfl ?_ ?_
  ·
   refine ev (Ev.loadBoxCell na_3 rfl (H1.x s1) rfl) <| WH.next k1 <| Tn 6 1023 hns rfl (fun _ _ => Ev.add rfl rfl (I64.mk (by first | omega | (simp; done) | decide) (by first | omega | (simp; done) | decide))) k1 ?_
   refine O1 10 rfl <| ev (Ev.loadBoxCell na_3 rfl (H1.x s1) rfl) <| WH.next k1 <| Tn 11 4095 hns rfl (fun _ _ => Ev.build (vs := [(0, .int .i64 1), (1, .int .i64 1)]) (cs := [.int .i64 1, .int .i64 1]) rfl (by apply bl_23_0I_1I)) k1 ?_
   refine Tn 12 8191 hns rfl (fun _ _ => Ev.nilCheck rfl) k1 <| Tn 13 16383 hns rfl (fun _ _ => Ev.field (q := ⟨p0, 1, none⟩) fa_178_1 rfl rfl) k1 <| O1 14 rfl ?_
   refine stp rfl rfl rfl sz_23 H1 s1 rfl rfl rfl fun w4 K4 => ?_
   have k3 := (K4.rm s0)
   refine WH.next k3 ?_
   exact Dn ⟨rfl, K4⟩ rfl
  ·
   refine ev (Ev.loadBoxCell na_3 rfl (H1.x s1) rfl) <| WH.next k1 <| O1 5 rfl <| ev (Ev.loadBoxCell na_3 rfl (H1.x s1) rfl) <| WH.next k1 <| Tn 6 2047 hns rfl (fun _ _ => Ev.add rfl rfl (I64.mk (by first | omega | (simp; done) | decide) (by first | omega | (simp; done) | decide))) k1 ?_
   refine Tn 11 4095 hns rfl (fun _ _ => Ev.build (vs := [(0, .int .i64 1), (1, .int .i64 1)]) (cs := [.int .i64 1, .int .i64 1]) rfl (by apply bl_23_0I_1I)) k1 ?_
   refine Tn 12 8191 hns rfl (fun _ _ => Ev.nilCheck rfl) k1 <| Tn 13 16383 hns rfl (fun _ _ => Ev.field (q := ⟨p0, 1, none⟩) fa_178_1 rfl rfl) k1 <| O1 14 rfl ?_
   refine stp rfl rfl rfl sz_23 H1 s1 rfl rfl rfl fun w5 K5 => ?_
   have k4 := (K5.rm s0)
   refine WH.next k4 ?_
   exact Dn ⟨rfl, K5⟩ rfl
 rintro _ w6 ⟨rfl, K6⟩
 refine rg <| ev (Ev.loadBoxCell na_98 rfl (K6.x s1) rfl) <| ev (Ev.nilCheck rfl) <| ev (Ev.field (q := ⟨p0, 6, none⟩) fa_178_3 rfl rfl) ?_
 refine stc rfl rfl rfl sz_3 K6 s0 rfl fun w7 K7 => ?_
 refine dn <| rg <| ev (Ev.loadBoxCell na_98 rfl (K7.x s1) rfl) <| ev (Ev.nilCheck rfl) <| ev (Ev.field (q := ⟨p0, 8, none⟩) fa_178_5 rfl rfl) <| ev (Ev.loadBoxCell na_175 rfl (K7.x s0) rfl) ?_
 refine clrM K7 s2 Tryz.underlying175 rfl fun w8 K8 => ?_
 refine dn ?_
 refine He K8 (fun _ K => (K.rm s0)) (fun l0 rk lJ wJ => lJ = l0 ∧ Hp b S wJ (rObj p1 (.map (Array.push (#[] : Array MapEntry) ⟨.int .i64 1, .bool true, 0⟩) 1) :: rk)) (fun hns H2 => ?_) ?_
 ·
  have k5 := (H2.rm s0)
  refine Tn 0 1 hns rfl (fun _ hK => Ev.loadBoxCell na_98 rfl (hK.x s1) rfl) k5 <| Tn 1 3 hns rfl (fun _ _ => Ev.nilCheck rfl) k5 <| Tn 2 7 hns rfl (fun _ _ => Ev.field (q := ⟨p0, 8, none⟩) fa_178_5 rfl rfl) k5 ?_
  refine Tn 3 15 hns rfl (fun _ hK => Ev.loadBoxCell na_175 rfl (hK.x s0) rfl) k5 <| Tn 4 31 hns rfl (fun _ hK => Ev.loadBoxCell na_98 rfl (hK.x s1) rfl) k5 <| Tn 5 63 hns rfl (fun _ _ => Ev.nilCheck rfl) k5 ?_
  refine Tn 6 127 hns rfl (fun _ _ => Ev.field (q := ⟨p0, 0, none⟩) fa_178_0 rfl rfl) k5 <| Tn 7 255 hns rfl (fun _ hK => Ev.loadBoxCell na_3 rfl (hK.x s0) rfl) k5 ?_
  refine O1 8 rfl ?_
  refine upd H2 s0 rfl rfl rfl Tryz.underlying175 Tryz.underlying3 rfl fun w9 K9 => ?_
  have k6 := (K9.rm s0)
  refine WH.next k6 ?_
  exact Dn ⟨rfl, K9⟩ rfl
 rintro _ w10 ⟨rfl, K10⟩
 refine WP.seq <| rg <| ev (Ev.loadBoxCell na_98 rfl (K10.x s2) rfl) <| WL.call rfl rfl rfl cl_99 (au64 ((((K10.sel s2).sel s3).sel s2).sel s3)) rfl ?_
 rintro _ w11 ⟨rfl, K11⟩
 refine dn <| cTe rfl <| rg <| ev (Ev.loadBoxCell na_98 rfl (K11.x s3) rfl) <| WL.call rfl rfl rfl cl_100 (au66 K11) rfl ?_
 rintro _ w12 ⟨Au1, gu1, rfl, K12⟩
 refine as_ rfl <| dn ?_
 refine WP.ret (Pst.then_ret (Pst.body_ret rfl rfl rfl ?_))
 exact ⟨Au1, gu1, rfl, (K12.rm s4)⟩

theorem au84 {b w : World} {S : Nat → Prop} {F : List Res} {p0 p1 p2 p3 : Nat} {P4 : Option Addr} {p5 p6 p7 : Nat} (H0 : Hp b S w (rBx p0 97 [.slice (some ⟨p1, 0, none⟩) 1 1, .slice none 0 0] :: rBx p1 100 [.pointer (some ⟨p2, 0, none⟩), .pointer (some ⟨p3, 0, none⟩)] :: rBx p2 178 [.int .i64 1, .int .i64 1, .int .i64 1, .int .i64 0, .int .i64 0, .slice P4 ((([] : List AEntry) ++ ([(⟨1, 0, 0, 0, 0, 0, 0⟩ : AEntry)] : List AEntry)).length) p5, .int .i64 2, .int .i64 1, .map (some p6), .slice (some ⟨p7, 0, none⟩) 1 1] :: rOwn tEntry 68 P4 p5 (([] : List AEntry) ++ ([(⟨1, 0, 0, 0, 0, 0, 0⟩ : AEntry)] : List AEntry)) :: rObj p6 (.map (Array.push (#[] : Array MapEntry) ⟨.int .i64 1, .bool true, 0⟩) 1) :: rBx p7 258 [.int .i64 1, .int .i64 1] :: rBx p3 61 [.slice none 0 0, .int .i64 0, .int .i64 0, .int .i64 0, .slice none 0 0] :: F)) :
    Rets Tryz.prog 47 #[.pointer (some ⟨p0, 0, none⟩), .int .i64 1] w fun v w' => v = .pointer (some ⟨p1, 0, none⟩) ∧ Hp b S w' (rBx p0 97 [.slice (some ⟨p1, 0, none⟩) 1 1, .slice none 0 0] :: rBx p1 100 [.pointer (some ⟨p2, 0, none⟩), .pointer (some ⟨p3, 0, none⟩)] :: rBx p2 178 [.int .i64 1, .int .i64 1, .int .i64 1, .int .i64 0, .int .i64 0, .slice P4 ((([] : List AEntry) ++ ([(⟨1, 0, 0, 0, 0, 0, 0⟩ : AEntry)] : List AEntry)).length) p5, .int .i64 2, .int .i64 1, .map (some p6), .slice (some ⟨p7, 0, none⟩) 1 1] :: rOwn tEntry 68 P4 p5 (([] : List AEntry) ++ ([(⟨1, 0, 0, 0, 0, 0, 0⟩ : AEntry)] : List AEntry)) :: rObj p6 (.map (Array.push (#[] : Array MapEntry) ⟨.int .i64 1, .bool true, 0⟩) 1) :: rBx p7 258 [.int .i64 1, .int .i64 1] :: rBx p3 61 [.slice none 0 0, .int .i64 0, .int .i64 0, .int .i64 0, .slice none 0 0] :: F) := by
 refine WP.enter Tryz.func47 rfl Tryz.ntmps47 rfl <| rg <| as_ rfl <| dn <| rg <| mv rfl <| ev (Ev.nilCheck rfl) <| ev (Ev.field (q := ⟨p0, 0, none⟩) fa_97_0 rfl rfl) ?_
 refine ev (Ev.loadBoxCell na_94 rfl (H0.x s0) rfl) <| mv rfl <| ev (Ev.sub rfl rfl (I64.mk (by first | omega | (simp; done) | decide) (by first | omega | (simp; done) | decide))) ?_
 refine ev (Ev.index (i := 0) Tryz.underlying94 sz_100 rfl rfl rfl (by decide) rfl) <| as_ rfl <| dn ?_
 refine WP.ret (Pst.body_ret rfl rfl rfl ?_)
 exact ⟨rfl, H0⟩

theorem au85 {b w : World} {S : Nat → Prop} {F : List Res} {p0 : Nat} {P1 : Option Addr} {p2 p3 p4 : Nat} (H0 : Hp b S w (rBx p0 178 [.int .i64 1, .int .i64 1, .int .i64 1, .int .i64 0, .int .i64 0, .slice P1 ((([] : List AEntry) ++ ([(⟨1, 0, 0, 0, 0, 0, 0⟩ : AEntry)] : List AEntry)).length) p2, .int .i64 2, .int .i64 1, .map (some p3), .slice (some ⟨p4, 0, none⟩) 1 1] :: rOwn tEntry 68 P1 p2 (([] : List AEntry) ++ ([(⟨1, 0, 0, 0, 0, 0, 0⟩ : AEntry)] : List AEntry)) :: rObj p3 (.map (Array.push (#[] : Array MapEntry) ⟨.int .i64 1, .bool true, 0⟩) 1) :: rBx p4 258 [.int .i64 1, .int .i64 1] :: F)) :
    Rets Tryz.prog 114 #[.pointer (some ⟨p0, 0, none⟩)] w fun v w' => v = .agg #[.int .i64 1, .int .i64 1] ∧ Hp b S w' (rBx p0 178 [.int .i64 1, .int .i64 1, .int .i64 1, .int .i64 0, .int .i64 0, .slice P1 ((([] : List AEntry) ++ ([(⟨1, 0, 0, 0, 0, 0, 0⟩ : AEntry)] : List AEntry)).length) p2, .int .i64 2, .int .i64 1, .map (some p3), .slice (some ⟨p4, 0, none⟩) 1 1] :: rOwn tEntry 68 P1 p2 (([] : List AEntry) ++ ([(⟨1, 0, 0, 0, 0, 0, 0⟩ : AEntry)] : List AEntry)) :: rObj p3 (.map (Array.push (#[] : Array MapEntry) ⟨.int .i64 1, .bool true, 0⟩) 1) :: rBx p4 258 [.int .i64 1, .int .i64 1] :: F) := by
 refine WP.enter Tryz.func114 rfl Tryz.ntmps114 rfl <| rg ?_
 refine al zero_23 rfl H0 fun g1 w1 K1 => ?_
 refine dn <| rg <| mv rfl <| ev (Ev.nilCheck rfl) <| ev (Ev.field (q := ⟨p0, 1, none⟩) fa_178_1 rfl rfl) <| ev (Ev.loadBoxPart (cs' := [.int .i64 1, .int .i64 1]) ag_23 rfl rfl (K1.x s1) rfl) ?_
 refine stw rfl rfl rfl sz_23 K1 s0 rfl rfl fun w2 K2 => ?_
 refine dn ?_
 refine WP.ret (Pst.retC rfl ⟨_, _, rfl, ⟨_, rfl, loads_box (cs := [.int .i64 1, .int .i64 1]) ag_23 rfl (K2.x s0)⟩, rfl⟩ ?_)
 exact ⟨rfl, (K2.rm s0)⟩

theorem au86 {b w : World} {S : Nat → Prop} {F : List Res} {p0 : Nat} {P1 : Option Addr} {p2 p3 p4 : Nat} (H0 : Hp b S w (rBx p0 178 [.int .i64 1, .int .i64 1, .int .i64 1, .int .i64 0, .int .i64 0, .slice P1 ((([] : List AEntry) ++ ([(⟨1, 0, 0, 0, 0, 0, 0⟩ : AEntry)] : List AEntry)).length) p2, .int .i64 2, .int .i64 1, .map (some p3), .slice (some ⟨p4, 0, none⟩) 1 1] :: rOwn tEntry 68 P1 p2 (([] : List AEntry) ++ ([(⟨1, 0, 0, 0, 0, 0, 0⟩ : AEntry)] : List AEntry)) :: rObj p3 (.map (Array.push (#[] : Array MapEntry) ⟨.int .i64 1, .bool true, 0⟩) 1) :: rBx p4 258 [.int .i64 1, .int .i64 1] :: F)) :
    Rets Tryz.prog 115 #[.pointer (some ⟨p0, 0, none⟩)] w fun v w' => ∃ (A0_4 : Option Addr) (c0_4 : Nat), v = .agg #[.int .i64 0, .int .i64 0, .slice A0_4 ((([] : List AEntry) ++ ([(⟨1, 0, 0, 0, 0, 0, 0⟩ : AEntry)] : List AEntry)).length) c0_4] ∧ Hp b S w' (rBx p0 178 [.int .i64 1, .int .i64 1, .int .i64 1, .int .i64 0, .int .i64 0, .slice P1 ((([] : List AEntry) ++ ([(⟨1, 0, 0, 0, 0, 0, 0⟩ : AEntry)] : List AEntry)).length) p2, .int .i64 2, .int .i64 1, .map (some p3), .slice (some ⟨p4, 0, none⟩) 1 1] :: rOwn tEntry 68 P1 p2 (([] : List AEntry) ++ ([(⟨1, 0, 0, 0, 0, 0, 0⟩ : AEntry)] : List AEntry)) :: rObj p3 (.map (Array.push (#[] : Array MapEntry) ⟨.int .i64 1, .bool true, 0⟩) 1) :: rBx p4 258 [.int .i64 1, .int .i64 1] :: rOwn tEntry 68 A0_4 c0_4 (([] : List AEntry) ++ ([(⟨1, 0, 0, 0, 0, 0, 0⟩ : AEntry)] : List AEntry)) :: F) := by
 refine WP.enter Tryz.func115 rfl Tryz.ntmps115 rfl <| rg ?_
 refine al zero_26 rfl H0 fun g1 w1 K1 => ?_
 refine dn <| rg <| mv rfl <| ev (Ev.nilCheck rfl) <| ev (Ev.field (q := ⟨p0, 3, none⟩) fa_178_2 rfl rfl) <| ev (Ev.loadBoxPart (cs' := [.int .i64 0, .int .i64 0, .slice P1 ((([] : List AEntry) ++ ([(⟨1, 0, 0, 0, 0, 0, 0⟩ : AEntry)] : List AEntry)).length) p2]) ag_26 rfl rfl (K1.x s1) rfl) ?_
 refine al zero_26 rfl K1 fun g2 w2 K2 => ?_
 refine stw rfl rfl rfl sz_26 K2 s0 rfl rfl fun w3 K3 => ?_
 refine dn <| rg <| ev (Ev.field (q := ⟨g2, 2, none⟩) fa_26_2 rfl rfl) <| ev (Ev.loadBoxCell na_24 rfl (K3.x s0) rfl) <| WL.call rfl rfl rfl cl_25 (CloneEntry_ok _ (K3.o s3) (by first | omega | (simp; done) | decide)) rfl ?_
 rintro _ w4 ⟨A0_4, c0_4, rfl, h4⟩
 have K4 := K3.f1 h4
 have hL4_0 := (K4.o s0).len_le
 refine ev (Ev.field (q := ⟨g2, 2, none⟩) fa_26_2 rfl rfl) ?_
 refine stc rfl rfl rfl sz_24 K4 s1 rfl fun w5 K5 => ?_
 refine dn <| rg <| ev (Ev.loadBox ag_26 rfl rfl (K5.x s0)) ?_
 refine stw rfl rfl rfl sz_26 K5 s2 rfl rfl fun w6 K6 => ?_
 refine dn ?_
 refine WP.ret (Pst.retC rfl ⟨_, _, rfl, ⟨_, rfl, loads_box (cs := [.int .i64 0, .int .i64 0, .slice A0_4 ((([] : List AEntry) ++ ([(⟨1, 0, 0, 0, 0, 0, 0⟩ : AEntry)] : List AEntry)).length) c0_4]) ag_26 rfl (K6.x s0)⟩, rfl⟩ ?_)
 exact ⟨A0_4, c0_4, rfl, (((((((K6.rm s1).rm s0).sel s0).sel s4).sel s4).sel s4).sel s4)⟩

theorem au83 {b w : World} {S : Nat → Prop} {F : List Res} {p0 p1 p2 p3 : Nat} {P4 : Option Addr} {p5 p6 p7 : Nat} (H0 : Hp b S w (rBx p0 97 [.slice (some ⟨p1, 0, none⟩) 1 1, .slice none 0 0] :: rBx p1 100 [.pointer (some ⟨p2, 0, none⟩), .pointer (some ⟨p3, 0, none⟩)] :: rBx p2 178 [.int .i64 1, .int .i64 1, .int .i64 1, .int .i64 0, .int .i64 0, .slice P4 ((([] : List AEntry) ++ ([(⟨1, 0, 0, 0, 0, 0, 0⟩ : AEntry)] : List AEntry)).length) p5, .int .i64 2, .int .i64 1, .map (some p6), .slice (some ⟨p7, 0, none⟩) 1 1] :: rOwn tEntry 68 P4 p5 (([] : List AEntry) ++ ([(⟨1, 0, 0, 0, 0, 0, 0⟩ : AEntry)] : List AEntry)) :: rObj p6 (.map (Array.push (#[] : Array MapEntry) ⟨.int .i64 1, .bool true, 0⟩) 1) :: rBx p7 258 [.int .i64 1, .int .i64 1] :: rBx p3 61 [.slice none 0 0, .int .i64 0, .int .i64 0, .int .i64 0, .slice none 0 0] :: F)) :
    Rets Tryz.prog 53 #[.pointer (some ⟨p0, 0, none⟩), .int .i64 1] w fun v w' => ∃ (Aj1 : Option Addr) (cj1 : Nat) (Aj2 : Option Addr) (cj2 : Nat), v = .int .i64 0 ∧ Hp b S w' (rBx p0 97 [.slice (some ⟨p1, 0, none⟩) 1 1, .slice none 0 0] :: rBx p1 100 [.pointer (some ⟨p2, 0, none⟩), .pointer (some ⟨p3, 0, none⟩)] :: rBx p2 178 [.int .i64 1, .int .i64 1, .int .i64 1, .int .i64 0, .int .i64 0, .slice P4 ((([] : List AEntry) ++ ([(⟨1, 0, 0, 0, 0, 0, 0⟩ : AEntry)] : List AEntry)).length) p5, .int .i64 2, .int .i64 1, .map (some p6), .slice (some ⟨p7, 0, none⟩) 1 1] :: rOwn tEntry 68 P4 p5 (([] : List AEntry) ++ ([(⟨1, 0, 0, 0, 0, 0, 0⟩ : AEntry)] : List AEntry)) :: rObj p6 (.map (Array.push (#[] : Array MapEntry) ⟨.int .i64 1, .bool true, 0⟩) 1) :: rBx p7 258 [.int .i64 1, .int .i64 1] :: rBx p3 61 [.slice Aj1 ((if saveE (⟨1, 1⟩ : ABallot) (⟨0, 0, (([] : List AEntry) ++ ([(⟨1, 0, 0, 0, 0, 0, 0⟩ : AEntry)] : List AEntry))⟩ : ALog) = 0 then bytesL (recsL (⟨1, 1⟩ : ABallot) (⟨0, 0, (([] : List AEntry) ++ ([(⟨1, 0, 0, 0, 0, 0, 0⟩ : AEntry)] : List AEntry))⟩ : ALog).L) else []).length) cj1, .int .i64 0, .int .i64 (if saveE (⟨1, 1⟩ : ABallot) (⟨0, 0, (([] : List AEntry) ++ ([(⟨1, 0, 0, 0, 0, 0, 0⟩ : AEntry)] : List AEntry))⟩ : ALog) = 0 then (⟨1, 1⟩ : ABallot).Term else 0), .int .i64 (if saveE (⟨1, 1⟩ : ABallot) (⟨0, 0, (([] : List AEntry) ++ ([(⟨1, 0, 0, 0, 0, 0, 0⟩ : AEntry)] : List AEntry))⟩ : ALog) = 0 then (⟨1, 1⟩ : ABallot).Vote else 0), .slice Aj2 ((if saveE (⟨1, 1⟩ : ABallot) (⟨0, 0, (([] : List AEntry) ++ ([(⟨1, 0, 0, 0, 0, 0, 0⟩ : AEntry)] : List AEntry))⟩ : ALog) = 0 then (⟨0, 0, (([] : List AEntry) ++ ([(⟨1, 0, 0, 0, 0, 0, 0⟩ : AEntry)] : List AEntry))⟩ : ALog).L else []).length) cj2] :: rOwn tByte 5 Aj1 cj1 (if saveE (⟨1, 1⟩ : ABallot) (⟨0, 0, (([] : List AEntry) ++ ([(⟨1, 0, 0, 0, 0, 0, 0⟩ : AEntry)] : List AEntry))⟩ : ALog) = 0 then bytesL (recsL (⟨1, 1⟩ : ABallot) (⟨0, 0, (([] : List AEntry) ++ ([(⟨1, 0, 0, 0, 0, 0, 0⟩ : AEntry)] : List AEntry))⟩ : ALog).L) else []) :: rOwn tEntry 68 Aj2 cj2 (if saveE (⟨1, 1⟩ : ABallot) (⟨0, 0, (([] : List AEntry) ++ ([(⟨1, 0, 0, 0, 0, 0, 0⟩ : AEntry)] : List AEntry))⟩ : ALog) = 0 then (⟨0, 0, (([] : List AEntry) ++ ([(⟨1, 0, 0, 0, 0, 0, 0⟩ : AEntry)] : List AEntry))⟩ : ALog).L else []) :: F) := by
 refine WP.enter Tryz.func53 rfl Tryz.ntmps53 rfl <| rg <| as_ rfl <| dn <| rg <| mv rfl <| mv rfl <| WL.call rfl rfl rfl cl_47 (au84 H0) rfl ?_
 rintro _ w1 ⟨rfl, K1⟩
 refine as_ rfl <| dn ?_
 refine He K1 (fun _ K => (K.rm s6)) (fun l0 rk lJ wJ => ∃ (Aj1 : Option Addr) (cj1 : Nat) (Aj2 : Option Addr) (cj2 : Nat), lJ = l0 ∧ Hp b S wJ (rBx p3 61 [.slice Aj1 ((if saveE (⟨1, 1⟩ : ABallot) (⟨0, 0, (([] : List AEntry) ++ ([(⟨1, 0, 0, 0, 0, 0, 0⟩ : AEntry)] : List AEntry))⟩ : ALog) = 0 then bytesL (recsL (⟨1, 1⟩ : ABallot) (⟨0, 0, (([] : List AEntry) ++ ([(⟨1, 0, 0, 0, 0, 0, 0⟩ : AEntry)] : List AEntry))⟩ : ALog).L) else []).length) cj1, .int .i64 0, .int .i64 (if saveE (⟨1, 1⟩ : ABallot) (⟨0, 0, (([] : List AEntry) ++ ([(⟨1, 0, 0, 0, 0, 0, 0⟩ : AEntry)] : List AEntry))⟩ : ALog) = 0 then (⟨1, 1⟩ : ABallot).Term else 0), .int .i64 (if saveE (⟨1, 1⟩ : ABallot) (⟨0, 0, (([] : List AEntry) ++ ([(⟨1, 0, 0, 0, 0, 0, 0⟩ : AEntry)] : List AEntry))⟩ : ALog) = 0 then (⟨1, 1⟩ : ABallot).Vote else 0), .slice Aj2 ((if saveE (⟨1, 1⟩ : ABallot) (⟨0, 0, (([] : List AEntry) ++ ([(⟨1, 0, 0, 0, 0, 0, 0⟩ : AEntry)] : List AEntry))⟩ : ALog) = 0 then (⟨0, 0, (([] : List AEntry) ++ ([(⟨1, 0, 0, 0, 0, 0, 0⟩ : AEntry)] : List AEntry))⟩ : ALog).L else []).length) cj2] :: rOwn tByte 5 Aj1 cj1 (if saveE (⟨1, 1⟩ : ABallot) (⟨0, 0, (([] : List AEntry) ++ ([(⟨1, 0, 0, 0, 0, 0, 0⟩ : AEntry)] : List AEntry))⟩ : ALog) = 0 then bytesL (recsL (⟨1, 1⟩ : ABallot) (⟨0, 0, (([] : List AEntry) ++ ([(⟨1, 0, 0, 0, 0, 0, 0⟩ : AEntry)] : List AEntry))⟩ : ALog).L) else []) :: rOwn tEntry 68 Aj2 cj2 (if saveE (⟨1, 1⟩ : ABallot) (⟨0, 0, (([] : List AEntry) ++ ([(⟨1, 0, 0, 0, 0, 0, 0⟩ : AEntry)] : List AEntry))⟩ : ALog) = 0 then (⟨0, 0, (([] : List AEntry) ++ ([(⟨1, 0, 0, 0, 0, 0, 0⟩ : AEntry)] : List AEntry))⟩ : ALog).L else []) :: rk)) (fun hns H1 => ?_) ?_
 ·
  have k1 := (H1.rm s6)
  refine Tm 0 1 hns rfl rfl k1 <| Tn 1 3 hns rfl (fun _ _ => Ev.nilCheck rfl) k1 <| Tn 2 7 hns rfl (fun _ _ => Ev.field (q := ⟨p1, 1, none⟩) fa_100_1 rfl rfl) k1 ?_
  refine Tn 3 15 hns rfl (fun _ hK => Ev.loadBoxCell na_28 rfl (hK.x s1) rfl) k1 <| Tm 4 31 hns rfl rfl k1 <| Tn 5 63 hns rfl (fun _ _ => Ev.nilCheck rfl) k1 <| Tn 6 127 hns rfl (fun _ _ => Ev.field (q := ⟨p1, 0, none⟩) fa_100_0 rfl rfl) k1 ?_
  refine Tn 7 255 hns rfl (fun _ hK => Ev.loadBoxCell na_98 rfl (hK.x s1) rfl) k1 <| Tm 9 767 hns rfl rfl k1 <| Tn 10 1791 hns rfl (fun _ _ => Ev.nilCheck rfl) k1 ?_
  refine Tn 11 3839 hns rfl (fun _ _ => Ev.field (q := ⟨p1, 0, none⟩) fa_100_0 rfl rfl) k1 <| Tn 12 7935 hns rfl (fun _ hK => Ev.loadBoxCell na_98 rfl (hK.x s1) rfl) k1 ?_
  refine O1 8 rfl <| WL.call rfl rfl rfl cl_114 (au85 ((((((H1.sel s1).sel s1).sel s5).sel s5).sel s5).sel s5)) rfl ?_
  rintro _ w2 ⟨rfl, K2⟩
  have k2 := (((((((K2.rm s6).sel s3).sel s3).sel s3).sel s3).sel s5).sel s5)
  refine WH.next k2 <| O1 13 rfl <| WL.call rfl rfl rfl cl_115 (au86 K2) rfl ?_
  rintro _ w3 ⟨Au1, gu1, rfl, K3⟩
  have k3 := ((((((((K3.rm s7).rm s4).sel s3).sel s3).sel s3).sel s3).sel s5).sel s5)
  refine WH.next k3 <| O1 14 rfl ?_
  have H2 := K3.fz s4
  refine WL.call rfl rfl rfl cl_6 (Save_ok (l := (⟨0, 0, (([] : List AEntry) ++ ([(⟨1, 0, 0, 0, 0, 0, 0⟩ : AEntry)] : List AEntry))⟩ : ALog)) ((((((((H2.sel s6).sel s6).sel s6).sel s6).sel s6).sel s6).sel s6).sel s7) (⟨1, 1⟩ : ABallot) (by simp [numsZ, InI64])) rfl ?_
  rintro _ w4 ⟨A1_4, c1_4, A2_4, c2_4, rfl, K4⟩
  have hL4_1 := (K4.o s1).len_le
  have hL4_2 := (K4.o s2).len_le
  have hq1 : (saveE (⟨1, 1⟩ : ABallot) (⟨0, 0, (([] : List AEntry) ++ ([(⟨1, 0, 0, 0, 0, 0, 0⟩ : AEntry)] : List AEntry))⟩ : ALog) : Int) = 0 := by decide +kernel
  refine WL.re (t := 23) rfl (congrArg (Value.int .i64) hq1) ?_
  have k4 := (((((((((K4.rm s2).rm s1).rm s0).sel s3).sel s3).sel s3).sel s3).sel s5).sel s5)
  refine WH.next k4 <| Ta 15 65535 hns rfl rfl k4 ?_
  exact Dn ⟨A1_4, c1_4, A2_4, c2_4, rfl, (((((((((K4.sel s6).sel s6).sel s6).sel s6).sel s8).sel s8).sel s8).sel s8).sel s8)⟩ rfl
 rintro _ w5 ⟨Aj1, cj1, Aj2, cj2, rfl, K5⟩
 refine WP.ret (Pst.body_ret rfl rfl rfl ?_)
 exact ⟨Aj1, cj1, Aj2, cj2, rfl, (((((((((K5.sel s2).sel s2).sel s2).sel s8).sel s8).sel s8).sel s8).sel s8).sel s8)⟩

theorem au87 {b w : World} {S : Nat → Prop} {F : List Res} {p0 p1 p2 p3 : Nat} {P4 : Option Addr} {p5 p6 p7 : Nat} {P8 : Option Addr} {p9 : Nat} {P10 : Option Addr} {p11 : Nat} (H0 : Hp b S w (rBx p0 97 [.slice (some ⟨p1, 0, none⟩) 1 1, .slice none 0 0] :: rBx p1 100 [.pointer (some ⟨p2, 0, none⟩), .pointer (some ⟨p3, 0, none⟩)] :: rBx p2 178 [.int .i64 1, .int .i64 1, .int .i64 1, .int .i64 0, .int .i64 0, .slice P4 ((([] : List AEntry) ++ ([(⟨1, 0, 0, 0, 0, 0, 0⟩ : AEntry)] : List AEntry)).length) p5, .int .i64 2, .int .i64 1, .map (some p6), .slice (some ⟨p7, 0, none⟩) 1 1] :: rOwn tEntry 68 P4 p5 (([] : List AEntry) ++ ([(⟨1, 0, 0, 0, 0, 0, 0⟩ : AEntry)] : List AEntry)) :: rObj p6 (.map (Array.push (#[] : Array MapEntry) ⟨.int .i64 1, .bool true, 0⟩) 1) :: rBx p7 258 [.int .i64 1, .int .i64 1] :: rBx p3 61 [.slice P8 ((if saveE (⟨1, 1⟩ : ABallot) (⟨0, 0, (([] : List AEntry) ++ ([(⟨1, 0, 0, 0, 0, 0, 0⟩ : AEntry)] : List AEntry))⟩ : ALog) = 0 then bytesL (recsL (⟨1, 1⟩ : ABallot) (⟨0, 0, (([] : List AEntry) ++ ([(⟨1, 0, 0, 0, 0, 0, 0⟩ : AEntry)] : List AEntry))⟩ : ALog).L) else []).length) p9, .int .i64 0, .int .i64 (if saveE (⟨1, 1⟩ : ABallot) (⟨0, 0, (([] : List AEntry) ++ ([(⟨1, 0, 0, 0, 0, 0, 0⟩ : AEntry)] : List AEntry))⟩ : ALog) = 0 then (⟨1, 1⟩ : ABallot).Term else 0), .int .i64 (if saveE (⟨1, 1⟩ : ABallot) (⟨0, 0, (([] : List AEntry) ++ ([(⟨1, 0, 0, 0, 0, 0, 0⟩ : AEntry)] : List AEntry))⟩ : ALog) = 0 then (⟨1, 1⟩ : ABallot).Vote else 0), .slice P10 ((if saveE (⟨1, 1⟩ : ABallot) (⟨0, 0, (([] : List AEntry) ++ ([(⟨1, 0, 0, 0, 0, 0, 0⟩ : AEntry)] : List AEntry))⟩ : ALog) = 0 then (⟨0, 0, (([] : List AEntry) ++ ([(⟨1, 0, 0, 0, 0, 0, 0⟩ : AEntry)] : List AEntry))⟩ : ALog).L else []).length) p11] :: rOwn tByte 5 P8 p9 (if saveE (⟨1, 1⟩ : ABallot) (⟨0, 0, (([] : List AEntry) ++ ([(⟨1, 0, 0, 0, 0, 0, 0⟩ : AEntry)] : List AEntry))⟩ : ALog) = 0 then bytesL (recsL (⟨1, 1⟩ : ABallot) (⟨0, 0, (([] : List AEntry) ++ ([(⟨1, 0, 0, 0, 0, 0, 0⟩ : AEntry)] : List AEntry))⟩ : ALog).L) else []) :: rOwn tEntry 68 P10 p11 (if saveE (⟨1, 1⟩ : ABallot) (⟨0, 0, (([] : List AEntry) ++ ([(⟨1, 0, 0, 0, 0, 0, 0⟩ : AEntry)] : List AEntry))⟩ : ALog) = 0 then (⟨0, 0, (([] : List AEntry) ++ ([(⟨1, 0, 0, 0, 0, 0, 0⟩ : AEntry)] : List AEntry))⟩ : ALog).L else []) :: F)) :
    Rets Tryz.prog 47 #[.pointer (some ⟨p0, 0, none⟩), .int .i64 1] w fun v w' => v = .pointer (some ⟨p1, 0, none⟩) ∧ Hp b S w' (rBx p0 97 [.slice (some ⟨p1, 0, none⟩) 1 1, .slice none 0 0] :: rBx p1 100 [.pointer (some ⟨p2, 0, none⟩), .pointer (some ⟨p3, 0, none⟩)] :: rBx p2 178 [.int .i64 1, .int .i64 1, .int .i64 1, .int .i64 0, .int .i64 0, .slice P4 ((([] : List AEntry) ++ ([(⟨1, 0, 0, 0, 0, 0, 0⟩ : AEntry)] : List AEntry)).length) p5, .int .i64 2, .int .i64 1, .map (some p6), .slice (some ⟨p7, 0, none⟩) 1 1] :: rOwn tEntry 68 P4 p5 (([] : List AEntry) ++ ([(⟨1, 0, 0, 0, 0, 0, 0⟩ : AEntry)] : List AEntry)) :: rObj p6 (.map (Array.push (#[] : Array MapEntry) ⟨.int .i64 1, .bool true, 0⟩) 1) :: rBx p7 258 [.int .i64 1, .int .i64 1] :: rBx p3 61 [.slice P8 ((if saveE (⟨1, 1⟩ : ABallot) (⟨0, 0, (([] : List AEntry) ++ ([(⟨1, 0, 0, 0, 0, 0, 0⟩ : AEntry)] : List AEntry))⟩ : ALog) = 0 then bytesL (recsL (⟨1, 1⟩ : ABallot) (⟨0, 0, (([] : List AEntry) ++ ([(⟨1, 0, 0, 0, 0, 0, 0⟩ : AEntry)] : List AEntry))⟩ : ALog).L) else []).length) p9, .int .i64 0, .int .i64 (if saveE (⟨1, 1⟩ : ABallot) (⟨0, 0, (([] : List AEntry) ++ ([(⟨1, 0, 0, 0, 0, 0, 0⟩ : AEntry)] : List AEntry))⟩ : ALog) = 0 then (⟨1, 1⟩ : ABallot).Term else 0), .int .i64 (if saveE (⟨1, 1⟩ : ABallot) (⟨0, 0, (([] : List AEntry) ++ ([(⟨1, 0, 0, 0, 0, 0, 0⟩ : AEntry)] : List AEntry))⟩ : ALog) = 0 then (⟨1, 1⟩ : ABallot).Vote else 0), .slice P10 ((if saveE (⟨1, 1⟩ : ABallot) (⟨0, 0, (([] : List AEntry) ++ ([(⟨1, 0, 0, 0, 0, 0, 0⟩ : AEntry)] : List AEntry))⟩ : ALog) = 0 then (⟨0, 0, (([] : List AEntry) ++ ([(⟨1, 0, 0, 0, 0, 0, 0⟩ : AEntry)] : List AEntry))⟩ : ALog).L else []).length) p11] :: rOwn tByte 5 P8 p9 (if saveE (⟨1, 1⟩ : ABallot) (⟨0, 0, (([] : List AEntry) ++ ([(⟨1, 0, 0, 0, 0, 0, 0⟩ : AEntry)] : List AEntry))⟩ : ALog) = 0 then bytesL (recsL (⟨1, 1⟩ : ABallot) (⟨0, 0, (([] : List AEntry) ++ ([(⟨1, 0, 0, 0, 0, 0, 0⟩ : AEntry)] : List AEntry))⟩ : ALog).L) else []) :: rOwn tEntry 68 P10 p11 (if saveE (⟨1, 1⟩ : ABallot) (⟨0, 0, (([] : List AEntry) ++ ([(⟨1, 0, 0, 0, 0, 0, 0⟩ : AEntry)] : List AEntry))⟩ : ALog) = 0 then (⟨0, 0, (([] : List AEntry) ++ ([(⟨1, 0, 0, 0, 0, 0, 0⟩ : AEntry)] : List AEntry))⟩ : ALog).L else []) :: F) := by
 refine WP.enter Tryz.func47 rfl Tryz.ntmps47 rfl <| rg <| as_ rfl <| dn <| rg <| mv rfl <| ev (Ev.nilCheck rfl) <| ev (Ev.field (q := ⟨p0, 0, none⟩) fa_97_0 rfl rfl) ?_
 refine ev (Ev.loadBoxCell na_94 rfl (H0.x s0) rfl) <| mv rfl <| ev (Ev.sub rfl rfl (I64.mk (by first | omega | (simp; done) | decide) (by first | omega | (simp; done) | decide))) ?_
 refine ev (Ev.index (i := 0) Tryz.underlying94 sz_100 rfl rfl rfl (by decide) rfl) <| as_ rfl <| dn ?_
 refine WP.ret (Pst.body_ret rfl rfl rfl ?_)
 exact ⟨rfl, H0⟩

theorem au88 {b w : World} {S : Nat → Prop} {F : List Res} {p0 : Nat} {P1 : Option Addr} {p2 : Nat} {P3 : Option Addr} {p4 : Nat} (H0 : Hp b S w (rBx p0 61 [.slice P1 ((if saveE (⟨1, 1⟩ : ABallot) (⟨0, 0, (([] : List AEntry) ++ ([(⟨1, 0, 0, 0, 0, 0, 0⟩ : AEntry)] : List AEntry))⟩ : ALog) = 0 then bytesL (recsL (⟨1, 1⟩ : ABallot) (⟨0, 0, (([] : List AEntry) ++ ([(⟨1, 0, 0, 0, 0, 0, 0⟩ : AEntry)] : List AEntry))⟩ : ALog).L) else []).length) p2, .int .i64 0, .int .i64 (if saveE (⟨1, 1⟩ : ABallot) (⟨0, 0, (([] : List AEntry) ++ ([(⟨1, 0, 0, 0, 0, 0, 0⟩ : AEntry)] : List AEntry))⟩ : ALog) = 0 then (⟨1, 1⟩ : ABallot).Term else 0), .int .i64 (if saveE (⟨1, 1⟩ : ABallot) (⟨0, 0, (([] : List AEntry) ++ ([(⟨1, 0, 0, 0, 0, 0, 0⟩ : AEntry)] : List AEntry))⟩ : ALog) = 0 then (⟨1, 1⟩ : ABallot).Vote else 0), .slice P3 ((if saveE (⟨1, 1⟩ : ABallot) (⟨0, 0, (([] : List AEntry) ++ ([(⟨1, 0, 0, 0, 0, 0, 0⟩ : AEntry)] : List AEntry))⟩ : ALog) = 0 then (⟨0, 0, (([] : List AEntry) ++ ([(⟨1, 0, 0, 0, 0, 0, 0⟩ : AEntry)] : List AEntry))⟩ : ALog).L else []).length) p4] :: rOwn tByte 5 P1 p2 (if saveE (⟨1, 1⟩ : ABallot) (⟨0, 0, (([] : List AEntry) ++ ([(⟨1, 0, 0, 0, 0, 0, 0⟩ : AEntry)] : List AEntry))⟩ : ALog) = 0 then bytesL (recsL (⟨1, 1⟩ : ABallot) (⟨0, 0, (([] : List AEntry) ++ ([(⟨1, 0, 0, 0, 0, 0, 0⟩ : AEntry)] : List AEntry))⟩ : ALog).L) else []) :: rOwn tEntry 68 P3 p4 (if saveE (⟨1, 1⟩ : ABallot) (⟨0, 0, (([] : List AEntry) ++ ([(⟨1, 0, 0, 0, 0, 0, 0⟩ : AEntry)] : List AEntry))⟩ : ALog) = 0 then (⟨0, 0, (([] : List AEntry) ++ ([(⟨1, 0, 0, 0, 0, 0, 0⟩ : AEntry)] : List AEntry))⟩ : ALog).L else []) :: F)) :
    Rets Tryz.prog 98 #[.pointer (some ⟨p0, 0, none⟩)] w fun v w' => v = .tuple #[] ∧ Hp b S w' (rBx p0 61 [.slice P1 ((if saveE (⟨1, 1⟩ : ABallot) (⟨0, 0, (([] : List AEntry) ++ ([(⟨1, 0, 0, 0, 0, 0, 0⟩ : AEntry)] : List AEntry))⟩ : ALog) = 0 then bytesL (recsL (⟨1, 1⟩ : ABallot) (⟨0, 0, (([] : List AEntry) ++ ([(⟨1, 0, 0, 0, 0, 0, 0⟩ : AEntry)] : List AEntry))⟩ : ALog).L) else []).length) p2, .int .i64 (((if saveE (⟨1, 1⟩ : ABallot) (⟨0, 0, (([] : List AEntry) ++ ([(⟨1, 0, 0, 0, 0, 0, 0⟩ : AEntry)] : List AEntry))⟩ : ALog) = 0 then bytesL (recsL (⟨1, 1⟩ : ABallot) (⟨0, 0, (([] : List AEntry) ++ ([(⟨1, 0, 0, 0, 0, 0, 0⟩ : AEntry)] : List AEntry))⟩ : ALog).L) else []).length : Nat) : Int), .int .i64 (if saveE (⟨1, 1⟩ : ABallot) (⟨0, 0, (([] : List AEntry) ++ ([(⟨1, 0, 0, 0, 0, 0, 0⟩ : AEntry)] : List AEntry))⟩ : ALog) = 0 then (⟨1, 1⟩ : ABallot).Term else 0), .int .i64 (if saveE (⟨1, 1⟩ : ABallot) (⟨0, 0, (([] : List AEntry) ++ ([(⟨1, 0, 0, 0, 0, 0, 0⟩ : AEntry)] : List AEntry))⟩ : ALog) = 0 then (⟨1, 1⟩ : ABallot).Vote else 0), .slice P3 ((if saveE (⟨1, 1⟩ : ABallot) (⟨0, 0, (([] : List AEntry) ++ ([(⟨1, 0, 0, 0, 0, 0, 0⟩ : AEntry)] : List AEntry))⟩ : ALog) = 0 then (⟨0, 0, (([] : List AEntry) ++ ([(⟨1, 0, 0, 0, 0, 0, 0⟩ : AEntry)] : List AEntry))⟩ : ALog).L else []).length) p4] :: rOwn tByte 5 P1 p2 (if saveE (⟨1, 1⟩ : ABallot) (⟨0, 0, (([] : List AEntry) ++ ([(⟨1, 0, 0, 0, 0, 0, 0⟩ : AEntry)] : List AEntry))⟩ : ALog) = 0 then bytesL (recsL (⟨1, 1⟩ : ABallot) (⟨0, 0, (([] : List AEntry) ++ ([(⟨1, 0, 0, 0, 0, 0, 0⟩ : AEntry)] : List AEntry))⟩ : ALog).L) else []) :: rOwn tEntry 68 P3 p4 (if saveE (⟨1, 1⟩ : ABallot) (⟨0, 0, (([] : List AEntry) ++ ([(⟨1, 0, 0, 0, 0, 0, 0⟩ : AEntry)] : List AEntry))⟩ : ALog) = 0 then (⟨0, 0, (([] : List AEntry) ++ ([(⟨1, 0, 0, 0, 0, 0, 0⟩ : AEntry)] : List AEntry))⟩ : ALog).L else []) :: F) := by
 refine WP.enter Tryz.func98 rfl Tryz.ntmps98 rfl <| rge <| mv rfl <| mv rfl <| ev (Ev.nilCheck rfl) <| ev (Ev.field (q := ⟨p0, 0, none⟩) fa_61_0 rfl rfl) <| ev (Ev.loadBoxCell na_32 rfl (H0.x s0) rfl) ?_
 refine ev (Ev.len Tryz.underlying32 rfl) <| ev (Ev.nilCheck rfl) <| ev (Ev.field (q := ⟨p0, 1, none⟩) fa_61_1 rfl rfl) ?_
 refine stc rfl rfl rfl sz_3 H0 s0 rfl fun w1 K1 => ?_
 refine dne ?_
 refine Pst.body_norm (Pst.body_ret rfl rfl rfl ?_)
 exact ⟨rfl, K1⟩

theorem au82 {b w : World} {S : Nat → Prop} {F : List Res} {p0 p1 p2 p3 : Nat} {P4 : Option Addr} {p5 p6 p7 : Nat} (H0 : Hp b S w (rBx p0 97 [.slice (some ⟨p1, 0, none⟩) 1 1, .slice none 0 0] :: rBx p1 100 [.pointer (some ⟨p2, 0, none⟩), .pointer (some ⟨p3, 0, none⟩)] :: rBx p2 178 [.int .i64 1, .int .i64 1, .int .i64 1, .int .i64 0, .int .i64 0, .slice P4 ((([] : List AEntry) ++ ([(⟨1, 0, 0, 0, 0, 0, 0⟩ : AEntry)] : List AEntry)).length) p5, .int .i64 2, .int .i64 1, .map (some p6), .slice (some ⟨p7, 0, none⟩) 1 1] :: rOwn tEntry 68 P4 p5 (([] : List AEntry) ++ ([(⟨1, 0, 0, 0, 0, 0, 0⟩ : AEntry)] : List AEntry)) :: rObj p6 (.map (Array.push (#[] : Array MapEntry) ⟨.int .i64 1, .bool true, 0⟩) 1) :: rBx p7 258 [.int .i64 1, .int .i64 1] :: rBx p3 61 [.slice none 0 0, .int .i64 0, .int .i64 0, .int .i64 0, .slice none 0 0] :: F)) :
    Rets Tryz.prog 46 #[.pointer (some ⟨p0, 0, none⟩), .int .i64 1, .slice none 0 0] w fun v w' => ∃ (Ap1 : Option Addr) (cp1 : Nat) (Au1 : Option Addr) (gu1 : Nat) (Au2 : Option Addr) (gu2 : Nat), v = .tuple #[] ∧ Hp b S w' (rBx p0 97 [.slice (some ⟨p1, 0, none⟩) 1 1, .slice Ap1 ((([] : List AMsg) ++ ([] : List AMsg)).length) cp1] :: rBx p1 100 [.pointer (some ⟨p2, 0, none⟩), .pointer (some ⟨p3, 0, none⟩)] :: rBx p2 178 [.int .i64 1, .int .i64 1, .int .i64 1, .int .i64 0, .int .i64 0, .slice P4 ((([] : List AEntry) ++ ([(⟨1, 0, 0, 0, 0, 0, 0⟩ : AEntry)] : List AEntry)).length) p5, .int .i64 2, .int .i64 1, .map (some p6), .slice (some ⟨p7, 0, none⟩) 1 1] :: rOwn tEntry 68 P4 p5 (([] : List AEntry) ++ ([(⟨1, 0, 0, 0, 0, 0, 0⟩ : AEntry)] : List AEntry)) :: rObj p6 (.map (Array.push (#[] : Array MapEntry) ⟨.int .i64 1, .bool true, 0⟩) 1) :: rBx p7 258 [.int .i64 1, .int .i64 1] :: rBx p3 61 [.slice Au1 ((if saveE (⟨1, 1⟩ : ABallot) (⟨0, 0, (([] : List AEntry) ++ ([(⟨1, 0, 0, 0, 0, 0, 0⟩ : AEntry)] : List AEntry))⟩ : ALog) = 0 then bytesL (recsL (⟨1, 1⟩ : ABallot) (⟨0, 0, (([] : List AEntry) ++ ([(⟨1, 0, 0, 0, 0, 0, 0⟩ : AEntry)] : List AEntry))⟩ : ALog).L) else []).length) gu1, .int .i64 (((if saveE (⟨1, 1⟩ : ABallot) (⟨0, 0, (([] : List AEntry) ++ ([(⟨1, 0, 0, 0, 0, 0, 0⟩ : AEntry)] : List AEntry))⟩ : ALog) = 0 then bytesL (recsL (⟨1, 1⟩ : ABallot) (⟨0, 0, (([] : List AEntry) ++ ([(⟨1, 0, 0, 0, 0, 0, 0⟩ : AEntry)] : List AEntry))⟩ : ALog).L) else []).length : Nat) : Int), .int .i64 (if saveE (⟨1, 1⟩ : ABallot) (⟨0, 0, (([] : List AEntry) ++ ([(⟨1, 0, 0, 0, 0, 0, 0⟩ : AEntry)] : List AEntry))⟩ : ALog) = 0 then (⟨1, 1⟩ : ABallot).Term else 0), .int .i64 (if saveE (⟨1, 1⟩ : ABallot) (⟨0, 0, (([] : List AEntry) ++ ([(⟨1, 0, 0, 0, 0, 0, 0⟩ : AEntry)] : List AEntry))⟩ : ALog) = 0 then (⟨1, 1⟩ : ABallot).Vote else 0), .slice Au2 ((if saveE (⟨1, 1⟩ : ABallot) (⟨0, 0, (([] : List AEntry) ++ ([(⟨1, 0, 0, 0, 0, 0, 0⟩ : AEntry)] : List AEntry))⟩ : ALog) = 0 then (⟨0, 0, (([] : List AEntry) ++ ([(⟨1, 0, 0, 0, 0, 0, 0⟩ : AEntry)] : List AEntry))⟩ : ALog).L else []).length) gu2] :: rOwn tByte 5 Au1 gu1 (if saveE (⟨1, 1⟩ : ABallot) (⟨0, 0, (([] : List AEntry) ++ ([(⟨1, 0, 0, 0, 0, 0, 0⟩ : AEntry)] : List AEntry))⟩ : ALog) = 0 then bytesL (recsL (⟨1, 1⟩ : ABallot) (⟨0, 0, (([] : List AEntry) ++ ([(⟨1, 0, 0, 0, 0, 0, 0⟩ : AEntry)] : List AEntry))⟩ : ALog).L) else []) :: rOwn tEntry 68 Au2 gu2 (if saveE (⟨1, 1⟩ : ABallot) (⟨0, 0, (([] : List AEntry) ++ ([(⟨1, 0, 0, 0, 0, 0, 0⟩ : AEntry)] : List AEntry))⟩ : ALog) = 0 then (⟨0, 0, (([] : List AEntry) ++ ([(⟨1, 0, 0, 0, 0, 0, 0⟩ : AEntry)] : List AEntry))⟩ : ALog).L else []) :: rOwn tMsg 111 Ap1 cp1 (([] : List AMsg) ++ ([] : List AMsg)) :: F) := by
 refine WP.enter Tryz.func46 rfl Tryz.ntmps46 rfl <| WP.seq <| rg <| mv rfl <| mv rfl <| WL.call rfl rfl rfl cl_53 (au83 H0) rfl ?_
 rintro _ w1 ⟨Au1, gu1, Au2, gu2, rfl, K1⟩
 refine ev (Ev.neq rfl rfl) <| dn <| cFe rfl ?_
 refine WP.skip (Pst.norm ?_)
 refine rg <| mv rfl <| mv rfl <| WL.call rfl rfl rfl cl_47 (au87 K1) rfl ?_
 rintro _ w2 ⟨rfl, K2⟩
 refine ev (Ev.nilCheck rfl) <| ev (Ev.field (q := ⟨p1, 1, none⟩) fa_100_1 rfl rfl) <| ev (Ev.loadBoxCell na_28 rfl (K2.x s1) rfl) <| WL.call rfl rfl rfl cl_98 (au88 (((((((((K2.sel s5).sel s5).sel s5).sel s5).sel s5).sel s5).sel s8).sel s8).sel s8)) rfl ?_
 rintro _ w3 ⟨rfl, K3⟩
 refine dn <| rge <| mv rfl <| mv rfl <| ev (Ev.nilCheck rfl) <| ev (Ev.field (q := ⟨p0, 1, none⟩) fa_97_1 rfl rfl) <| ev (Ev.loadBoxCell na_95 rfl (K3.x s3) rfl) ?_
 refine mv rfl ?_
 have H1 := K3.nil tMsg 111
 refine apd (ys := ([] : List AMsg)) H1 s0 rfl rfl (Sl.none_ tMsg _ _) Tryz.underlying95 ei_111 (by simp) (by simp) rfl fun Ap1 cp1 w4 K4 => ?_
 refine ev (Ev.nilCheck rfl) <| ev (Ev.field (q := ⟨p0, 1, none⟩) fa_97_1 rfl rfl) ?_
 refine stc rfl rfl rfl sz_95 K4 s4 rfl fun w5 K5 => ?_
 refine dne ?_
 refine Pst.body_norm (Pst.body_ret rfl rfl rfl ?_)
 exact ⟨Ap1, cp1, Au1, gu1, Au2, gu2, rfl, ((((((((((K5.sel s1).sel s4).sel s4).sel s4).sel s9).sel s9).sel s9).sel s9).sel s9).sel s9)⟩

theorem au60 {b w : World} {S : Nat → Prop} {F : List Res} {p0 p1 p2 p3 p4 p5 : Nat} (H0 : Hp b S w (rBx p0 97 [.slice (some ⟨p1, 0, none⟩) 1 1, .slice none 0 0] :: rBx p1 100 [.pointer (some ⟨p2, 0, none⟩), .pointer (some ⟨p3, 0, none⟩)] :: rBx p2 178 [.int .i64 1, .int .i64 0, .int .i64 0, .int .i64 0, .int .i64 0, .slice none 0 0, .int .i64 0, .int .i64 0, .map (some p4), .slice (some ⟨p5, 0, none⟩) 1 1] :: rObj p4 (.map (#[] : Array MapEntry) 0) :: rBx p5 258 [.int .i64 0, .int .i64 0] :: rBx p3 61 [.slice none 0 0, .int .i64 0, .int .i64 0, .int .i64 0, .slice none 0 0] :: F)) :
    Rets Tryz.prog 15 #[.pointer (some ⟨p0, 0, none⟩), .agg #[.int .i64 0, .int .i64 1, .int .i64 0, .int .i64 0]] w fun v w' => ∃ (Aj4 : Option Addr) (cj4 : Nat) (Aj1 : Option Addr) (cj1 : Nat) (Aj2 : Option Addr) (cj2 : Nat) (Aj3 : Option Addr) (cj3 : Nat), v = .int .i64 0 ∧ Hp b S w' (rBx p0 97 [.slice (some ⟨p1, 0, none⟩) 1 1, .slice Aj4 ((([] : List AMsg) ++ ([] : List AMsg)).length) cj4] :: rBx p1 100 [.pointer (some ⟨p2, 0, none⟩), .pointer (some ⟨p3, 0, none⟩)] :: rBx p2 178 [.int .i64 1, .int .i64 1, .int .i64 1, .int .i64 0, .int .i64 0, .slice Aj1 ((([] : List AEntry) ++ ([(⟨1, 0, 0, 0, 0, 0, 0⟩ : AEntry)] : List AEntry)).length) cj1, .int .i64 2, .int .i64 1, .map (some p4), .slice (some ⟨p5, 0, none⟩) 1 1] :: rObj p4 (.map (Array.push (#[] : Array MapEntry) ⟨.int .i64 1, .bool true, 0⟩) 1) :: rBx p5 258 [.int .i64 1, .int .i64 1] :: rBx p3 61 [.slice Aj2 ((if saveE (⟨1, 1⟩ : ABallot) (⟨0, 0, (([] : List AEntry) ++ ([(⟨1, 0, 0, 0, 0, 0, 0⟩ : AEntry)] : List AEntry))⟩ : ALog) = 0 then bytesL (recsL (⟨1, 1⟩ : ABallot) (⟨0, 0, (([] : List AEntry) ++ ([(⟨1, 0, 0, 0, 0, 0, 0⟩ : AEntry)] : List AEntry))⟩ : ALog).L) else []).length) cj2, .int .i64 (((if saveE (⟨1, 1⟩ : ABallot) (⟨0, 0, (([] : List AEntry) ++ ([(⟨1, 0, 0, 0, 0, 0, 0⟩ : AEntry)] : List AEntry))⟩ : ALog) = 0 then bytesL (recsL (⟨1, 1⟩ : ABallot) (⟨0, 0, (([] : List AEntry) ++ ([(⟨1, 0, 0, 0, 0, 0, 0⟩ : AEntry)] : List AEntry))⟩ : ALog).L) else []).length : Nat) : Int), .int .i64 (if saveE (⟨1, 1⟩ : ABallot) (⟨0, 0, (([] : List AEntry) ++ ([(⟨1, 0, 0, 0, 0, 0, 0⟩ : AEntry)] : List AEntry))⟩ : ALog) = 0 then (⟨1, 1⟩ : ABallot).Term else 0), .int .i64 (if saveE (⟨1, 1⟩ : ABallot) (⟨0, 0, (([] : List AEntry) ++ ([(⟨1, 0, 0, 0, 0, 0, 0⟩ : AEntry)] : List AEntry))⟩ : ALog) = 0 then (⟨1, 1⟩ : ABallot).Vote else 0), .slice Aj3 ((if saveE (⟨1, 1⟩ : ABallot) (⟨0, 0, (([] : List AEntry) ++ ([(⟨1, 0, 0, 0, 0, 0, 0⟩ : AEntry)] : List AEntry))⟩ : ALog) = 0 then (⟨0, 0, (([] : List AEntry) ++ ([(⟨1, 0, 0, 0, 0, 0, 0⟩ : AEntry)] : List AEntry))⟩ : ALog).L else []).length) cj3] :: rOwn tEntry 68 Aj1 cj1 (([] : List AEntry) ++ ([(⟨1, 0, 0, 0, 0, 0, 0⟩ : AEntry)] : List AEntry)) :: rOwn tByte 5 Aj2 cj2 (if saveE (⟨1, 1⟩ : ABallot) (⟨0, 0, (([] : List AEntry) ++ ([(⟨1, 0, 0, 0, 0, 0, 0⟩ : AEntry)] : List AEntry))⟩ : ALog) = 0 then bytesL (recsL (⟨1, 1⟩ : ABallot) (⟨0, 0, (([] : List AEntry) ++ ([(⟨1, 0, 0, 0, 0, 0, 0⟩ : AEntry)] : List AEntry))⟩ : ALog).L) else []) :: rOwn tEntry 68 Aj3 cj3 (if saveE (⟨1, 1⟩ : ABallot) (⟨0, 0, (([] : List AEntry) ++ ([(⟨1, 0, 0, 0, 0, 0, 0⟩ : AEntry)] : List AEntry))⟩ : ALog) = 0 then (⟨0, 0, (([] : List AEntry) ++ ([(⟨1, 0, 0, 0, 0, 0, 0⟩ : AEntry)] : List AEntry))⟩ : ALog).L else []) :: rOwn tMsg 111 Aj4 cj4 (([] : List AMsg) ++ ([] : List AMsg)) :: F) := by
 refine WP.enter Tryz.func15 rfl Tryz.ntmps15 rfl <| rg ?_
 refine bx rfl rfl H0 fun g1 w1 K1 => ?_
 refine as_ rfl <| dn <| WP.seq <| rg <| mv rfl <| ev (Ev.loadBox ag_55 rfl rfl (K1.x s0)) <| WL.call rfl rfl rfl cl_45 (au61 (((((((K1.sel s0).sel s6).sel s6).sel s6).sel s6).sel s6).sel s6)) rfl ?_
 rintro _ w2 ⟨rfl, K2⟩
 refine as_ rfl <| dn <| rg <| mv rfl <| ev (Ev.neq rfl rfl) <| dn <| cFe rfl ?_
 refine WP.skip (Pst.norm ?_)
 refine WP.seq <| rg <| ev (Ev.field (q := ⟨g1, 0, none⟩) fa_55_0 rfl rfl) <| ev (Ev.loadBoxCell na_3 rfl (K2.x s6) rfl) <| dn <| WP.block <| WP.seq <| WP.block ?_
 refine WP.seq <| WP.block <| WP.seq <| WP.block <| WP.seq <| WP.block <| WP.seq <| WP.block <| WP.seq <| WP.block <| WP.seq <| WP.block <| WP.seq <| WP.block ?_
 refine WP.seq <| WP.seq <| rg <| ev (Ev.eql rfl rfl) <| as_ rfl <| dn <| cTe rfl ?_
 refine WP.exit (Pst.then_exit (Pst.then_exit (Pst.blk_eq (Pst.norm ?_))))
 refine He K2 (fun _ K => (((((K.rm s5).rm s4).rm s3).rm s2).rm s0)) (fun l0 rk lJ wJ => ∃ (Aj1 : Option Addr) (cj1 : Nat) (Aj2 : Option Addr) (cj2 : Nat) (Aj3 : Option Addr) (cj3 : Nat) (Aj4 : Option Addr) (cj4 : Nat), lJ = l0 ∧ Hp b S wJ (rBx p0 97 [.slice (some ⟨p1, 0, none⟩) 1 1, .slice Aj4 ((([] : List AMsg) ++ ([] : List AMsg)).length) cj4] :: rBx p2 178 [.int .i64 1, .int .i64 1, .int .i64 1, .int .i64 0, .int .i64 0, .slice Aj1 ((([] : List AEntry) ++ ([(⟨1, 0, 0, 0, 0, 0, 0⟩ : AEntry)] : List AEntry)).length) cj1, .int .i64 2, .int .i64 1, .map (some p4), .slice (some ⟨p5, 0, none⟩) 1 1] :: rOwn tEntry 68 Aj1 cj1 (([] : List AEntry) ++ ([(⟨1, 0, 0, 0, 0, 0, 0⟩ : AEntry)] : List AEntry)) :: rObj p4 (.map (Array.push (#[] : Array MapEntry) ⟨.int .i64 1, .bool true, 0⟩) 1) :: rBx p5 258 [.int .i64 1, .int .i64 1] :: rBx p3 61 [.slice Aj2 ((if saveE (⟨1, 1⟩ : ABallot) (⟨0, 0, (([] : List AEntry) ++ ([(⟨1, 0, 0, 0, 0, 0, 0⟩ : AEntry)] : List AEntry))⟩ : ALog) = 0 then bytesL (recsL (⟨1, 1⟩ : ABallot) (⟨0, 0, (([] : List AEntry) ++ ([(⟨1, 0, 0, 0, 0, 0, 0⟩ : AEntry)] : List AEntry))⟩ : ALog).L) else []).length) cj2, .int .i64 (((if saveE (⟨1, 1⟩ : ABallot) (⟨0, 0, (([] : List AEntry) ++ ([(⟨1, 0, 0, 0, 0, 0, 0⟩ : AEntry)] : List AEntry))⟩ : ALog) = 0 then bytesL (recsL (⟨1, 1⟩ : ABallot) (⟨0, 0, (([] : List AEntry) ++ ([(⟨1, 0, 0, 0, 0, 0, 0⟩ : AEntry)] : List AEntry))⟩ : ALog).L) else []).length : Nat) : Int), .int .i64 (if saveE (⟨1, 1⟩ : ABallot) (⟨0, 0, (([] : List AEntry) ++ ([(⟨1, 0, 0, 0, 0, 0, 0⟩ : AEntry)] : List AEntry))⟩ : ALog) = 0 then (⟨1, 1⟩ : ABallot).Term else 0), .int .i64 (if saveE (⟨1, 1⟩ : ABallot) (⟨0, 0, (([] : List AEntry) ++ ([(⟨1, 0, 0, 0, 0, 0, 0⟩ : AEntry)] : List AEntry))⟩ : ALog) = 0 then (⟨1, 1⟩ : ABallot).Vote else 0), .slice Aj3 ((if saveE (⟨1, 1⟩ : ABallot) (⟨0, 0, (([] : List AEntry) ++ ([(⟨1, 0, 0, 0, 0, 0, 0⟩ : AEntry)] : List AEntry))⟩ : ALog) = 0 then (⟨0, 0, (([] : List AEntry) ++ ([(⟨1, 0, 0, 0, 0, 0, 0⟩ : AEntry)] : List AEntry))⟩ : ALog).L else []).length) cj3] :: rOwn tByte 5 Aj2 cj2 (if saveE (⟨1, 1⟩ : ABallot) (⟨0, 0, (([] : List AEntry) ++ ([(⟨1, 0, 0, 0, 0, 0, 0⟩ : AEntry)] : List AEntry))⟩ : ALog) = 0 then bytesL (recsL (⟨1, 1⟩ : ABallot) (⟨0, 0, (([] : List AEntry) ++ ([(⟨1, 0, 0, 0, 0, 0, 0⟩ : AEntry)] : List AEntry))⟩ : ALog).L) else []) :: rOwn tEntry 68 Aj3 cj3 (if saveE (⟨1, 1⟩ : ABallot) (⟨0, 0, (([] : List AEntry) ++ ([(⟨1, 0, 0, 0, 0, 0, 0⟩ : AEntry)] : List AEntry))⟩ : ALog) = 0 then (⟨0, 0, (([] : List AEntry) ++ ([(⟨1, 0, 0, 0, 0, 0, 0⟩ : AEntry)] : List AEntry))⟩ : ALog).L else []) :: rOwn tMsg 111 Aj4 cj4 (([] : List AMsg) ++ ([] : List AMsg)) :: rk)) (fun hns H1 => ?_) ?_
 ·
  have k1 := (((((H1.rm s5).rm s4).rm s3).rm s2).rm s0)
  refine Tm 0 1 hns rfl rfl k1 <| Tn 1 3 hns rfl (fun _ _ => Ev.field (q := ⟨g1, 1, none⟩) fa_55_1 rfl rfl) k1 <| Tn 2 7 hns rfl (fun _ hK => Ev.loadBoxCell na_3 rfl (hK.x s1) rfl) k1 ?_
  refine Tm 3 15 hns rfl rfl k1 <| Tn 4 31 hns rfl (fun _ _ => Ev.field (q := ⟨g1, 1, none⟩) fa_55_1 rfl rfl) k1 <| Tn 5 63 hns rfl (fun _ hK => Ev.loadBoxCell na_3 rfl (hK.x s1) rfl) k1 ?_
  refine O1 6 rfl <| WL.call rfl rfl rfl cl_47 (au62 H1) rfl ?_
  rintro _ w3 ⟨rfl, K3⟩
  have k2 := (((((K3.rm s5).rm s4).rm s3).rm s2).rm s0)
  refine WH.next k2 <| Tn 7 255 hns rfl (fun _ _ => Ev.nilCheck rfl) k2 <| Tn 8 511 hns rfl (fun _ _ => Ev.field (q := ⟨p1, 0, none⟩) fa_100_0 rfl rfl) k2 <| Tn 9 1023 hns rfl (fun _ hK => Ev.loadBoxCell na_98 rfl (hK.x s0) rfl) k2 ?_
  refine O1 10 rfl <| WL.call rfl rfl rfl cl_48 (au63 (((((K3.sel s1).sel s1).sel s4).sel s4).sel s4)) rfl ?_
  rintro _ w4 ⟨Au1, gu1, rfl, K4⟩
  have k3 := ((((((K4.rm s6).rm s4).rm s3).rm s2).rm s1).rm s0)
  refine WH.next k3 <| O1 11 rfl <| WL.call rfl rfl rfl cl_46 (au82 ((((((K4.sel s2).sel s2).sel s3).sel s3).sel s5).sel s5)) rfl ?_
  rintro _ w5 ⟨Au2, gu2, Au3, gu3, Au4, gu4, rfl, K5⟩
  have k4 := (((((((((K5.rm s9).rm s8).rm s7).rm s6).rm s5).rm s4).rm s3).rm s2).rm s0)
  refine WH.next k4 ?_
  exact Dn ⟨Au1, gu1, Au3, gu3, Au4, gu4, Au2, gu2, rfl, ((((((((((K5.sel s1).sel s9).sel s9).sel s9).sel s9).sel s9).sel s9).sel s9).sel s9).sel s9)⟩ rfl
 rintro _ w6 ⟨Aj1, cj1, Aj2, cj2, Aj3, cj3, Aj4, cj4, rfl, K6⟩
 refine WP.exit (Pst.blk_ne rfl (Pst.then_exit (Pst.blk_ne rfl (Pst.then_exit (Pst.blk_ne rfl (Pst.then_exit (Pst.blk_ne rfl (Pst.then_exit (Pst.blk_ne rfl (Pst.then_exit (Pst.blk_ne rfl (Pst.then_exit (Pst.blk_ne rfl (Pst.then_exit (Pst.blk_eq (Pst.norm ?_))))))))))))))))
 refine rg <| as_ rfl <| dn ?_
 refine WP.ret (Pst.body_ret rfl rfl rfl ?_)
 exact ⟨Aj4, cj4, Aj1, cj1, Aj2, cj2, Aj3, cj3, rfl, (((((((((((K6.rm s10).sel s8).sel s8).sel s8).sel s5).sel s8).sel s8).sel s8).sel s8).sel s9).sel s9)⟩

theorem au89 {b w : World} {S : Nat → Prop} {F : List Res} {p0 : Nat} {P1 : Option Addr} {p2 p3 p4 p5 p6 : Nat} (H0 : Hp b S w (rBx p0 93 [.slice P1 ((([] : List ANode) ++ ([(⟨1, 1, 4, 0⟩ : ANode)] : List ANode)).length) p2, .slice none 0 0, .slice none 0 0, .slice none 0 0, .slice none 0 0, .slice none 0 0, .int .i64 10, .int .i64 2, .int .i64 4, .int .i64 2, .int .i64 5, .int .i64 1, .int .i64 0, .map (some p3), .slice none 0 0] :: rOwn tNode 240 P1 p2 (([] : List ANode) ++ ([(⟨1, 1, 4, 0⟩ : ANode)] : List ANode)) :: rObj p3 (.map (Array.push (#[] : Array MapEntry) ⟨.int .i64 1, .pointer (some ⟨p4, 0, none⟩), 0⟩) 1) :: rBx p4 119 [.pointer (some ⟨p5, 0, none⟩), .bool true] :: rBx p5 200 [.int .i64 4, .slice none 0 0, .map (some p6)] :: rObj p6 (.map (#[] : Array MapEntry) 0) :: F)) :
    Rets Tryz.prog 16 #[.pointer (some ⟨p0, 0, none⟩), .int .i64 1] w fun v w' => v = .bool true ∧ Hp b S w' (rBx p0 93 [.slice P1 ((([] : List ANode) ++ ([(⟨1, 1, 4, 0⟩ : ANode)] : List ANode)).length) p2, .slice none 0 0, .slice none 0 0, .slice none 0 0, .slice none 0 0, .slice none 0 0, .int .i64 10, .int .i64 2, .int .i64 4, .int .i64 2, .int .i64 5, .int .i64 1, .int .i64 0, .map (some p3), .slice none 0 0] :: rOwn tNode 240 P1 p2 (([] : List ANode) ++ ([(⟨1, 1, 4, 0⟩ : ANode)] : List ANode)) :: rObj p3 (.map (Array.push (#[] : Array MapEntry) ⟨.int .i64 1, .pointer (some ⟨p4, 0, none⟩), 0⟩) 1) :: rBx p4 119 [.pointer (some ⟨p5, 0, none⟩), .bool true] :: rBx p5 200 [.int .i64 4, .slice none 0 0, .map (some p6)] :: rObj p6 (.map (#[] : Array MapEntry) 0) :: F) := by
 refine WP.enter Tryz.func16 rfl Tryz.ntmps16 rfl <| rg <| as_ rfl <| dn <| rg <| mv rfl <| ev (Ev.nilCheck rfl) <| ev (Ev.field (q := ⟨p0, 13, none⟩) fa_93_4 rfl rfl) ?_
 refine ev (Ev.loadBoxCell na_81 rfl (H0.x s0) rfl) <| mv rfl <| ev (Ev.look (i := 0) H0 s2 rfl rfl Tryz.underlying81 Tryz.underlying3 rfl) <| as_ rfl <| dn <| rg ?_
 refine mv rfl <| ev (Ev.pnn Tryz.underlying116 rfl rfl) <| mv rfl <| WL.evg rfl (Ev.move rfl) rfl <| WL.evg rfl (Ev.nilCheck rfl) rfl <| WL.evg rfl (Ev.field (q := ⟨p4, 1, none⟩) fa_119_1 rfl rfl) rfl ?_
 refine WL.evg rfl (Ev.loadBoxCell na_4 rfl (H0.x s3) rfl) rfl <| ev (Ev.pick_t rfl rfl) <| as_ rfl <| dn ?_
 refine WP.ret (Pst.body_ret rfl rfl rfl ?_)
 exact ⟨rfl, H0⟩

theorem au92 {b w : World} {S : Nat → Prop} {F : List Res} {p0 p1 : Nat} {P2 : Option Addr} {p3 p4 p5 : Nat} {P6 : Option Addr} {p7 p8 p9 : Nat} {P10 : Option Addr} {p11 : Nat} {P12 : Option Addr} {p13 : Nat} (H0 : Hp b S w (rBx p0 97 [.slice (some ⟨p1, 0, none⟩) 1 1, .slice P2 ((([] : List AMsg) ++ ([] : List AMsg)).length) p3] :: rBx p1 100 [.pointer (some ⟨p4, 0, none⟩), .pointer (some ⟨p5, 0, none⟩)] :: rBx p4 178 [.int .i64 1, .int .i64 1, .int .i64 1, .int .i64 0, .int .i64 0, .slice P6 ((([] : List AEntry) ++ ([(⟨1, 0, 0, 0, 0, 0, 0⟩ : AEntry)] : List AEntry)).length) p7, .int .i64 2, .int .i64 1, .map (some p8), .slice (some ⟨p9, 0, none⟩) 1 1] :: rOwn tEntry 68 P6 p7 (([] : List AEntry) ++ ([(⟨1, 0, 0, 0, 0, 0, 0⟩ : AEntry)] : List AEntry)) :: rObj p8 (.map (Array.push (#[] : Array MapEntry) ⟨.int .i64 1, .bool true, 0⟩) 1) :: rBx p9 258 [.int .i64 1, .int .i64 1] :: rBx p5 61 [.slice P10 ((if saveE (⟨1, 1⟩ : ABallot) (⟨0, 0, (([] : List AEntry) ++ ([(⟨1, 0, 0, 0, 0, 0, 0⟩ : AEntry)] : List AEntry))⟩ : ALog) = 0 then bytesL (recsL (⟨1, 1⟩ : ABallot) (⟨0, 0, (([] : List AEntry) ++ ([(⟨1, 0, 0, 0, 0, 0, 0⟩ : AEntry)] : List AEntry))⟩ : ALog).L) else []).length) p11, .int .i64 (((if saveE (⟨1, 1⟩ : ABallot) (⟨0, 0, (([] : List AEntry) ++ ([(⟨1, 0, 0, 0, 0, 0, 0⟩ : AEntry)] : List AEntry))⟩ : ALog) = 0 then bytesL (recsL (⟨1, 1⟩ : ABallot) (⟨0, 0, (([] : List AEntry) ++ ([(⟨1, 0, 0, 0, 0, 0, 0⟩ : AEntry)] : List AEntry))⟩ : ALog).L) else []).length : Nat) : Int), .int .i64 (if saveE (⟨1, 1⟩ : ABallot) (⟨0, 0, (([] : List AEntry) ++ ([(⟨1, 0, 0, 0, 0, 0, 0⟩ : AEntry)] : List AEntry))⟩ : ALog) = 0 then (⟨1, 1⟩ : ABallot).Term else 0), .int .i64 (if saveE (⟨1, 1⟩ : ABallot) (⟨0, 0, (([] : List AEntry) ++ ([(⟨1, 0, 0, 0, 0, 0, 0⟩ : AEntry)] : List AEntry))⟩ : ALog) = 0 then (⟨1, 1⟩ : ABallot).Vote else 0), .slice P12 ((if saveE (⟨1, 1⟩ : ABallot) (⟨0, 0, (([] : List AEntry) ++ ([(⟨1, 0, 0, 0, 0, 0, 0⟩ : AEntry)] : List AEntry))⟩ : ALog) = 0 then (⟨0, 0, (([] : List AEntry) ++ ([(⟨1, 0, 0, 0, 0, 0, 0⟩ : AEntry)] : List AEntry))⟩ : ALog).L else []).length) p13] :: rOwn tByte 5 P10 p11 (if saveE (⟨1, 1⟩ : ABallot) (⟨0, 0, (([] : List AEntry) ++ ([(⟨1, 0, 0, 0, 0, 0, 0⟩ : AEntry)] : List AEntry))⟩ : ALog) = 0 then bytesL (recsL (⟨1, 1⟩ : ABallot) (⟨0, 0, (([] : List AEntry) ++ ([(⟨1, 0, 0, 0, 0, 0, 0⟩ : AEntry)] : List AEntry))⟩ : ALog).L) else []) :: rOwn tEntry 68 P12 p13 (if saveE (⟨1, 1⟩ : ABallot) (⟨0, 0, (([] : List AEntry) ++ ([(⟨1, 0, 0, 0, 0, 0, 0⟩ : AEntry)] : List AEntry))⟩ : ALog) = 0 then (⟨0, 0, (([] : List AEntry) ++ ([(⟨1, 0, 0, 0, 0, 0, 0⟩ : AEntry)] : List AEntry))⟩ : ALog).L else []) :: rOwn tMsg 111 P2 p3 (([] : List AMsg) ++ ([] : List AMsg)) :: F)) :
    Rets Tryz.prog 117 #[.pointer (some ⟨p0, 0, none⟩), .int .i64 1] w fun v w' => v = .bool true ∧ Hp b S w' (rBx p0 97 [.slice (some ⟨p1, 0, none⟩) 1 1, .slice P2 ((([] : List AMsg) ++ ([] : List AMsg)).length) p3] :: rBx p1 100 [.pointer (some ⟨p4, 0, none⟩), .pointer (some ⟨p5, 0, none⟩)] :: rBx p4 178 [.int .i64 1, .int .i64 1, .int .i64 1, .int .i64 0, .int .i64 0, .slice P6 ((([] : List AEntry) ++ ([(⟨1, 0, 0, 0, 0, 0, 0⟩ : AEntry)] : List AEntry)).length) p7, .int .i64 2, .int .i64 1, .map (some p8), .slice (some ⟨p9, 0, none⟩) 1 1] :: rOwn tEntry 68 P6 p7 (([] : List AEntry) ++ ([(⟨1, 0, 0, 0, 0, 0, 0⟩ : AEntry)] : List AEntry)) :: rObj p8 (.map (Array.push (#[] : Array MapEntry) ⟨.int .i64 1, .bool true, 0⟩) 1) :: rBx p9 258 [.int .i64 1, .int .i64 1] :: rBx p5 61 [.slice P10 ((if saveE (⟨1, 1⟩ : ABallot) (⟨0, 0, (([] : List AEntry) ++ ([(⟨1, 0, 0, 0, 0, 0, 0⟩ : AEntry)] : List AEntry))⟩ : ALog) = 0 then bytesL (recsL (⟨1, 1⟩ : ABallot) (⟨0, 0, (([] : List AEntry) ++ ([(⟨1, 0, 0, 0, 0, 0, 0⟩ : AEntry)] : List AEntry))⟩ : ALog).L) else []).length) p11, .int .i64 (((if saveE (⟨1, 1⟩ : ABallot) (⟨0, 0, (([] : List AEntry) ++ ([(⟨1, 0, 0, 0, 0, 0, 0⟩ : AEntry)] : List AEntry))⟩ : ALog) = 0 then bytesL (recsL (⟨1, 1⟩ : ABallot) (⟨0, 0, (([] : List AEntry) ++ ([(⟨1, 0, 0, 0, 0, 0, 0⟩ : AEntry)] : List AEntry))⟩ : ALog).L) else []).length : Nat) : Int), .int .i64 (if saveE (⟨1, 1⟩ : ABallot) (⟨0, 0, (([] : List AEntry) ++ ([(⟨1, 0, 0, 0, 0, 0, 0⟩ : AEntry)] : List AEntry))⟩ : ALog) = 0 then (⟨1, 1⟩ : ABallot).Term else 0), .int .i64 (if saveE (⟨1, 1⟩ : ABallot) (⟨0, 0, (([] : List AEntry) ++ ([(⟨1, 0, 0, 0, 0, 0, 0⟩ : AEntry)] : List AEntry))⟩ : ALog) = 0 then (⟨1, 1⟩ : ABallot).Vote else 0), .slice P12 ((if saveE (⟨1, 1⟩ : ABallot) (⟨0, 0, (([] : List AEntry) ++ ([(⟨1, 0, 0, 0, 0, 0, 0⟩ : AEntry)] : List AEntry))⟩ : ALog) = 0 then (⟨0, 0, (([] : List AEntry) ++ ([(⟨1, 0, 0, 0, 0, 0, 0⟩ : AEntry)] : List AEntry))⟩ : ALog).L else []).length) p13] :: rOwn tByte 5 P10 p11 (if saveE (⟨1, 1⟩ : ABallot) (⟨0, 0, (([] : List AEntry) ++ ([(⟨1, 0, 0, 0, 0, 0, 0⟩ : AEntry)] : List AEntry))⟩ : ALog) = 0 then bytesL (recsL (⟨1, 1⟩ : ABallot) (⟨0, 0, (([] : List AEntry) ++ ([(⟨1, 0, 0, 0, 0, 0, 0⟩ : AEntry)] : List AEntry))⟩ : ALog).L) else []) :: rOwn tEntry 68 P12 p13 (if saveE (⟨1, 1⟩ : ABallot) (⟨0, 0, (([] : List AEntry) ++ ([(⟨1, 0, 0, 0, 0, 0, 0⟩ : AEntry)] : List AEntry))⟩ : ALog) = 0 then (⟨0, 0, (([] : List AEntry) ++ ([(⟨1, 0, 0, 0, 0, 0, 0⟩ : AEntry)] : List AEntry))⟩ : ALog).L else []) :: rOwn tMsg 111 P2 p3 (([] : List AMsg) ++ ([] : List AMsg)) :: F) := by
 refine WP.enter Tryz.func117 rfl Tryz.ntmps117 rfl <| rg <| as_ rfl <| dn <| rg <| mv rfl <| ev (Ev.geq rfl rfl) <| mv rfl <| WL.evg rfl (Ev.move rfl) rfl <| WL.evg rfl (Ev.move rfl) rfl ?_
 refine WL.evg rfl (Ev.nilCheck rfl) rfl <| WL.evg rfl (Ev.field (q := ⟨p0, 0, none⟩) fa_97_0 rfl rfl) rfl <| WL.evg rfl (Ev.loadBoxCell na_94 rfl (H0.x s0) rfl) rfl ?_
 refine WL.evg rfl (Ev.len Tryz.underlying94 rfl) rfl <| WL.evg rfl (Ev.leq rfl rfl) rfl <| ev (Ev.pick_t rfl rfl) <| as_ rfl <| dn ?_
 refine WP.ret (Pst.body_ret rfl rfl rfl ?_)
 exact ⟨rfl, H0⟩

theorem au93 {b w : World} {S : Nat → Prop} {F : List Res} {p0 p1 : Nat} {P2 : Option Addr} {p3 p4 p5 : Nat} {P6 : Option Addr} {p7 p8 p9 : Nat} {P10 : Option Addr} {p11 : Nat} {P12 : Option Addr} {p13 : Nat} (H0 : Hp b S w (rBx p0 97 [.slice (some ⟨p1, 0, none⟩) 1 1, .slice P2 ((([] : List AMsg) ++ ([] : List AMsg)).length) p3] :: rBx p1 100 [.pointer (some ⟨p4, 0, none⟩), .pointer (some ⟨p5, 0, none⟩)] :: rBx p4 178 [.int .i64 1, .int .i64 1, .int .i64 1, .int .i64 0, .int .i64 0, .slice P6 ((([] : List AEntry) ++ ([(⟨1, 0, 0, 0, 0, 0, 0⟩ : AEntry)] : List AEntry)).length) p7, .int .i64 2, .int .i64 1, .map (some p8), .slice (some ⟨p9, 0, none⟩) 1 1] :: rOwn tEntry 68 P6 p7 (([] : List AEntry) ++ ([(⟨1, 0, 0, 0, 0, 0, 0⟩ : AEntry)] : List AEntry)) :: rObj p8 (.map (Array.push (#[] : Array MapEntry) ⟨.int .i64 1, .bool true, 0⟩) 1) :: rBx p9 258 [.int .i64 1, .int .i64 1] :: rBx p5 61 [.slice P10 ((if saveE (⟨1, 1⟩ : ABallot) (⟨0, 0, (([] : List AEntry) ++ ([(⟨1, 0, 0, 0, 0, 0, 0⟩ : AEntry)] : List AEntry))⟩ : ALog) = 0 then bytesL (recsL (⟨1, 1⟩ : ABallot) (⟨0, 0, (([] : List AEntry) ++ ([(⟨1, 0, 0, 0, 0, 0, 0⟩ : AEntry)] : List AEntry))⟩ : ALog).L) else []).length) p11, .int .i64 (((if saveE (⟨1, 1⟩ : ABallot) (⟨0, 0, (([] : List AEntry) ++ ([(⟨1, 0, 0, 0, 0, 0, 0⟩ : AEntry)] : List AEntry))⟩ : ALog) = 0 then bytesL (recsL (⟨1, 1⟩ : ABallot) (⟨0, 0, (([] : List AEntry) ++ ([(⟨1, 0, 0, 0, 0, 0, 0⟩ : AEntry)] : List AEntry))⟩ : ALog).L) else []).length : Nat) : Int), .int .i64 (if saveE (⟨1, 1⟩ : ABallot) (⟨0, 0, (([] : List AEntry) ++ ([(⟨1, 0, 0, 0, 0, 0, 0⟩ : AEntry)] : List AEntry))⟩ : ALog) = 0 then (⟨1, 1⟩ : ABallot).Term else 0), .int .i64 (if saveE (⟨1, 1⟩ : ABallot) (⟨0, 0, (([] : List AEntry) ++ ([(⟨1, 0, 0, 0, 0, 0, 0⟩ : AEntry)] : List AEntry))⟩ : ALog) = 0 then (⟨1, 1⟩ : ABallot).Vote else 0), .slice P12 ((if saveE (⟨1, 1⟩ : ABallot) (⟨0, 0, (([] : List AEntry) ++ ([(⟨1, 0, 0, 0, 0, 0, 0⟩ : AEntry)] : List AEntry))⟩ : ALog) = 0 then (⟨0, 0, (([] : List AEntry) ++ ([(⟨1, 0, 0, 0, 0, 0, 0⟩ : AEntry)] : List AEntry))⟩ : ALog).L else []).length) p13] :: rOwn tByte 5 P10 p11 (if saveE (⟨1, 1⟩ : ABallot) (⟨0, 0, (([] : List AEntry) ++ ([(⟨1, 0, 0, 0, 0, 0, 0⟩ : AEntry)] : List AEntry))⟩ : ALog) = 0 then bytesL (recsL (⟨1, 1⟩ : ABallot) (⟨0, 0, (([] : List AEntry) ++ ([(⟨1, 0, 0, 0, 0, 0, 0⟩ : AEntry)] : List AEntry))⟩ : ALog).L) else []) :: rOwn tEntry 68 P12 p13 (if saveE (⟨1, 1⟩ : ABallot) (⟨0, 0, (([] : List AEntry) ++ ([(⟨1, 0, 0, 0, 0, 0, 0⟩ : AEntry)] : List AEntry))⟩ : ALog) = 0 then (⟨0, 0, (([] : List AEntry) ++ ([(⟨1, 0, 0, 0, 0, 0, 0⟩ : AEntry)] : List AEntry))⟩ : ALog).L else []) :: rOwn tMsg 111 P2 p3 (([] : List AMsg) ++ ([] : List AMsg)) :: F)) :
    Rets Tryz.prog 47 #[.pointer (some ⟨p0, 0, none⟩), .int .i64 1] w fun v w' => v = .pointer (some ⟨p1, 0, none⟩) ∧ Hp b S w' (rBx p0 97 [.slice (some ⟨p1, 0, none⟩) 1 1, .slice P2 ((([] : List AMsg) ++ ([] : List AMsg)).length) p3] :: rBx p1 100 [.pointer (some ⟨p4, 0, none⟩), .pointer (some ⟨p5, 0, none⟩)] :: rBx p4 178 [.int .i64 1, .int .i64 1, .int .i64 1, .int .i64 0, .int .i64 0, .slice P6 ((([] : List AEntry) ++ ([(⟨1, 0, 0, 0, 0, 0, 0⟩ : AEntry)] : List AEntry)).length) p7, .int .i64 2, .int .i64 1, .map (some p8), .slice (some ⟨p9, 0, none⟩) 1 1] :: rOwn tEntry 68 P6 p7 (([] : List AEntry) ++ ([(⟨1, 0, 0, 0, 0, 0, 0⟩ : AEntry)] : List AEntry)) :: rObj p8 (.map (Array.push (#[] : Array MapEntry) ⟨.int .i64 1, .bool true, 0⟩) 1) :: rBx p9 258 [.int .i64 1, .int .i64 1] :: rBx p5 61 [.slice P10 ((if saveE (⟨1, 1⟩ : ABallot) (⟨0, 0, (([] : List AEntry) ++ ([(⟨1, 0, 0, 0, 0, 0, 0⟩ : AEntry)] : List AEntry))⟩ : ALog) = 0 then bytesL (recsL (⟨1, 1⟩ : ABallot) (⟨0, 0, (([] : List AEntry) ++ ([(⟨1, 0, 0, 0, 0, 0, 0⟩ : AEntry)] : List AEntry))⟩ : ALog).L) else []).length) p11, .int .i64 (((if saveE (⟨1, 1⟩ : ABallot) (⟨0, 0, (([] : List AEntry) ++ ([(⟨1, 0, 0, 0, 0, 0, 0⟩ : AEntry)] : List AEntry))⟩ : ALog) = 0 then bytesL (recsL (⟨1, 1⟩ : ABallot) (⟨0, 0, (([] : List AEntry) ++ ([(⟨1, 0, 0, 0, 0, 0, 0⟩ : AEntry)] : List AEntry))⟩ : ALog).L) else []).length : Nat) : Int), .int .i64 (if saveE (⟨1, 1⟩ : ABallot) (⟨0, 0, (([] : List AEntry) ++ ([(⟨1, 0, 0, 0, 0, 0, 0⟩ : AEntry)] : List AEntry))⟩ : ALog) = 0 then (⟨1, 1⟩ : ABallot).Term else 0), .int .i64 (if saveE (⟨1, 1⟩ : ABallot) (⟨0, 0, (([] : List AEntry) ++ ([(⟨1, 0, 0, 0, 0, 0, 0⟩ : AEntry)] : List AEntry))⟩ : ALog) = 0 then (⟨1, 1⟩ : ABallot).Vote else 0), .slice P12 ((if saveE (⟨1, 1⟩ : ABallot) (⟨0, 0, (([] : List AEntry) ++ ([(⟨1, 0, 0, 0, 0, 0, 0⟩ : AEntry)] : List AEntry))⟩ : ALog) = 0 then (⟨0, 0, (([] : List AEntry) ++ ([(⟨1, 0, 0, 0, 0, 0, 0⟩ : AEntry)] : List AEntry))⟩ : ALog).L else []).length) p13] :: rOwn tByte 5 P10 p11 (if saveE (⟨1, 1⟩ : ABallot) (⟨0, 0, (([] : List AEntry) ++ ([(⟨1, 0, 0, 0, 0, 0, 0⟩ : AEntry)] : List AEntry))⟩ : ALog) = 0 then bytesL (recsL (⟨1, 1⟩ : ABallot) (⟨0, 0, (([] : List AEntry) ++ ([(⟨1, 0, 0, 0, 0, 0, 0⟩ : AEntry)] : List AEntry))⟩ : ALog).L) else []) :: rOwn tEntry 68 P12 p13 (if saveE (⟨1, 1⟩ : ABallot) (⟨0, 0, (([] : List AEntry) ++ ([(⟨1, 0, 0, 0, 0, 0, 0⟩ : AEntry)] : List AEntry))⟩ : ALog) = 0 then (⟨0, 0, (([] : List AEntry) ++ ([(⟨1, 0, 0, 0, 0, 0, 0⟩ : AEntry)] : List AEntry))⟩ : ALog).L else []) :: rOwn tMsg 111 P2 p3 (([] : List AMsg) ++ ([] : List AMsg)) :: F) := by
 refine WP.enter Tryz.func47 rfl Tryz.ntmps47 rfl <| rg <| as_ rfl <| dn <| rg <| mv rfl <| ev (Ev.nilCheck rfl) <| ev (Ev.field (q := ⟨p0, 0, none⟩) fa_97_0 rfl rfl) ?_
 refine ev (Ev.loadBoxCell na_94 rfl (H0.x s0) rfl) <| mv rfl <| ev (Ev.sub rfl rfl (I64.mk (by first | omega | (simp; done) | decide) (by first | omega | (simp; done) | decide))) ?_
 refine ev (Ev.index (i := 0) Tryz.underlying94 sz_100 rfl rfl rfl (by decide) rfl) <| as_ rfl <| dn ?_
 refine WP.ret (Pst.body_ret rfl rfl rfl ?_)
 exact ⟨rfl, H0⟩

theorem au91 {b w : World} {S : Nat → Prop} {F : List Res} {p0 p1 : Nat} {P2 : Option Addr} {p3 p4 p5 : Nat} {P6 : Option Addr} {p7 p8 p9 : Nat} {P10 : Option Addr} {p11 : Nat} {P12 : Option Addr} {p13 : Nat} (H0 : Hp b S w (rBx p0 97 [.slice (some ⟨p1, 0, none⟩) 1 1, .slice P2 ((([] : List AMsg) ++ ([] : List AMsg)).length) p3] :: rBx p1 100 [.pointer (some ⟨p4, 0, none⟩), .pointer (some ⟨p5, 0, none⟩)] :: rBx p4 178 [.int .i64 1, .int .i64 1, .int .i64 1, .int .i64 0, .int .i64 0, .slice P6 ((([] : List AEntry) ++ ([(⟨1, 0, 0, 0, 0, 0, 0⟩ : AEntry)] : List AEntry)).length) p7, .int .i64 2, .int .i64 1, .map (some p8), .slice (some ⟨p9, 0, none⟩) 1 1] :: rOwn tEntry 68 P6 p7 (([] : List AEntry) ++ ([(⟨1, 0, 0, 0, 0, 0, 0⟩ : AEntry)] : List AEntry)) :: rObj p8 (.map (Array.push (#[] : Array MapEntry) ⟨.int .i64 1, .bool true, 0⟩) 1) :: rBx p9 258 [.int .i64 1, .int .i64 1] :: rBx p5 61 [.slice P10 ((if saveE (⟨1, 1⟩ : ABallot) (⟨0, 0, (([] : List AEntry) ++ ([(⟨1, 0, 0, 0, 0, 0, 0⟩ : AEntry)] : List AEntry))⟩ : ALog) = 0 then bytesL (recsL (⟨1, 1⟩ : ABallot) (⟨0, 0, (([] : List AEntry) ++ ([(⟨1, 0, 0, 0, 0, 0, 0⟩ : AEntry)] : List AEntry))⟩ : ALog).L) else []).length) p11, .int .i64 (((if saveE (⟨1, 1⟩ : ABallot) (⟨0, 0, (([] : List AEntry) ++ ([(⟨1, 0, 0, 0, 0, 0, 0⟩ : AEntry)] : List AEntry))⟩ : ALog) = 0 then bytesL (recsL (⟨1, 1⟩ : ABallot) (⟨0, 0, (([] : List AEntry) ++ ([(⟨1, 0, 0, 0, 0, 0, 0⟩ : AEntry)] : List AEntry))⟩ : ALog).L) else []).length : Nat) : Int), .int .i64 (if saveE (⟨1, 1⟩ : ABallot) (⟨0, 0, (([] : List AEntry) ++ ([(⟨1, 0, 0, 0, 0, 0, 0⟩ : AEntry)] : List AEntry))⟩ : ALog) = 0 then (⟨1, 1⟩ : ABallot).Term else 0), .int .i64 (if saveE (⟨1, 1⟩ : ABallot) (⟨0, 0, (([] : List AEntry) ++ ([(⟨1, 0, 0, 0, 0, 0, 0⟩ : AEntry)] : List AEntry))⟩ : ALog) = 0 then (⟨1, 1⟩ : ABallot).Vote else 0), .slice P12 ((if saveE (⟨1, 1⟩ : ABallot) (⟨0, 0, (([] : List AEntry) ++ ([(⟨1, 0, 0, 0, 0, 0, 0⟩ : AEntry)] : List AEntry))⟩ : ALog) = 0 then (⟨0, 0, (([] : List AEntry) ++ ([(⟨1, 0, 0, 0, 0, 0, 0⟩ : AEntry)] : List AEntry))⟩ : ALog).L else []).length) p13] :: rOwn tByte 5 P10 p11 (if saveE (⟨1, 1⟩ : ABallot) (⟨0, 0, (([] : List AEntry) ++ ([(⟨1, 0, 0, 0, 0, 0, 0⟩ : AEntry)] : List AEntry))⟩ : ALog) = 0 then bytesL (recsL (⟨1, 1⟩ : ABallot) (⟨0, 0, (([] : List AEntry) ++ ([(⟨1, 0, 0, 0, 0, 0, 0⟩ : AEntry)] : List AEntry))⟩ : ALog).L) else []) :: rOwn tEntry 68 P12 p13 (if saveE (⟨1, 1⟩ : ABallot) (⟨0, 0, (([] : List AEntry) ++ ([(⟨1, 0, 0, 0, 0, 0, 0⟩ : AEntry)] : List AEntry))⟩ : ALog) = 0 then (⟨0, 0, (([] : List AEntry) ++ ([(⟨1, 0, 0, 0, 0, 0, 0⟩ : AEntry)] : List AEntry))⟩ : ALog).L else []) :: rOwn tMsg 111 P2 p3 (([] : List AMsg) ++ ([] : List AMsg)) :: F)) :
    Rets Tryz.prog 55 #[.pointer (some ⟨p0, 0, none⟩), .int .i64 1] w fun v w' => ∃ (Au1 : Option Addr) (gu1 : Nat), v = .slice Au1 ((([] : List AEntry) ++ ([(⟨1, 0, 0, 0, 0, 0, 0⟩ : AEntry)] : List AEntry)).length) gu1 ∧ Hp b S w' (rBx p0 97 [.slice (some ⟨p1, 0, none⟩) 1 1, .slice P2 ((([] : List AMsg) ++ ([] : List AMsg)).length) p3] :: rBx p1 100 [.pointer (some ⟨p4, 0, none⟩), .pointer (some ⟨p5, 0, none⟩)] :: rBx p4 178 [.int .i64 1, .int .i64 1, .int .i64 1, .int .i64 0, .int .i64 0, .slice P6 ((([] : List AEntry) ++ ([(⟨1, 0, 0, 0, 0, 0, 0⟩ : AEntry)] : List AEntry)).length) p7, .int .i64 2, .int .i64 1, .map (some p8), .slice (some ⟨p9, 0, none⟩) 1 1] :: rOwn tEntry 68 P6 p7 (([] : List AEntry) ++ ([(⟨1, 0, 0, 0, 0, 0, 0⟩ : AEntry)] : List AEntry)) :: rObj p8 (.map (Array.push (#[] : Array MapEntry) ⟨.int .i64 1, .bool true, 0⟩) 1) :: rBx p9 258 [.int .i64 1, .int .i64 1] :: rBx p5 61 [.slice P10 ((if saveE (⟨1, 1⟩ : ABallot) (⟨0, 0, (([] : List AEntry) ++ ([(⟨1, 0, 0, 0, 0, 0, 0⟩ : AEntry)] : List AEntry))⟩ : ALog) = 0 then bytesL (recsL (⟨1, 1⟩ : ABallot) (⟨0, 0, (([] : List AEntry) ++ ([(⟨1, 0, 0, 0, 0, 0, 0⟩ : AEntry)] : List AEntry))⟩ : ALog).L) else []).length) p11, .int .i64 (((if saveE (⟨1, 1⟩ : ABallot) (⟨0, 0, (([] : List AEntry) ++ ([(⟨1, 0, 0, 0, 0, 0, 0⟩ : AEntry)] : List AEntry))⟩ : ALog) = 0 then bytesL (recsL (⟨1, 1⟩ : ABallot) (⟨0, 0, (([] : List AEntry) ++ ([(⟨1, 0, 0, 0, 0, 0, 0⟩ : AEntry)] : List AEntry))⟩ : ALog).L) else []).length : Nat) : Int), .int .i64 (if saveE (⟨1, 1⟩ : ABallot) (⟨0, 0, (([] : List AEntry) ++ ([(⟨1, 0, 0, 0, 0, 0, 0⟩ : AEntry)] : List AEntry))⟩ : ALog) = 0 then (⟨1, 1⟩ : ABallot).Term else 0), .int .i64 (if saveE (⟨1, 1⟩ : ABallot) (⟨0, 0, (([] : List AEntry) ++ ([(⟨1, 0, 0, 0, 0, 0, 0⟩ : AEntry)] : List AEntry))⟩ : ALog) = 0 then (⟨1, 1⟩ : ABallot).Vote else 0), .slice P12 ((if saveE (⟨1, 1⟩ : ABallot) (⟨0, 0, (([] : List AEntry) ++ ([(⟨1, 0, 0, 0, 0, 0, 0⟩ : AEntry)] : List AEntry))⟩ : ALog) = 0 then (⟨0, 0, (([] : List AEntry) ++ ([(⟨1, 0, 0, 0, 0, 0, 0⟩ : AEntry)] : List AEntry))⟩ : ALog).L else []).length) p13] :: rOwn tByte 5 P10 p11 (if saveE (⟨1, 1⟩ : ABallot) (⟨0, 0, (([] : List AEntry) ++ ([(⟨1, 0, 0, 0, 0, 0, 0⟩ : AEntry)] : List AEntry))⟩ : ALog) = 0 then bytesL (recsL (⟨1, 1⟩ : ABallot) (⟨0, 0, (([] : List AEntry) ++ ([(⟨1, 0, 0, 0, 0, 0, 0⟩ : AEntry)] : List AEntry))⟩ : ALog).L) else []) :: rOwn tEntry 68 P12 p13 (if saveE (⟨1, 1⟩ : ABallot) (⟨0, 0, (([] : List AEntry) ++ ([(⟨1, 0, 0, 0, 0, 0, 0⟩ : AEntry)] : List AEntry))⟩ : ALog) = 0 then (⟨0, 0, (([] : List AEntry) ++ ([(⟨1, 0, 0, 0, 0, 0, 0⟩ : AEntry)] : List AEntry))⟩ : ALog).L else []) :: rOwn tMsg 111 P2 p3 (([] : List AMsg) ++ ([] : List AMsg)) :: rOwn tEntry 68 Au1 gu1 (([] : List AEntry) ++ ([(⟨1, 0, 0, 0, 0, 0, 0⟩ : AEntry)] : List AEntry)) :: F) := by
 refine WP.enter Tryz.func55 rfl Tryz.ntmps55 rfl <| rg <| as_ rfl <| dn <| WP.seq <| rg <| mv rfl <| mv rfl <| WL.call rfl rfl rfl cl_117 (au92 H0) rfl ?_
 rintro _ w1 ⟨rfl, K1⟩
 refine ev (Ev.not rfl) <| dn <| cFe rfl ?_
 refine WP.skip (Pst.norm ?_)
 refine rg <| mv rfl <| mv rfl <| WL.call rfl rfl rfl cl_47 (au93 K1) rfl ?_
 rintro _ w2 ⟨rfl, K2⟩
 refine ev (Ev.nilCheck rfl) <| ev (Ev.field (q := ⟨p1, 0, none⟩) fa_100_0 rfl rfl) <| ev (Ev.loadBoxCell na_98 rfl (K2.x s1) rfl) <| WL.call rfl rfl rfl cl_115 (au86 ((((((K2.sel s1).sel s1).sel s5).sel s5).sel s5).sel s5)) rfl ?_
 rintro _ w3 ⟨Au1, gu1, rfl, K3⟩
 refine ev (Ev.fld (cs := [.int .i64 0, .int .i64 0, .slice Au1 ((([] : List AEntry) ++ ([(⟨1, 0, 0, 0, 0, 0, 0⟩ : AEntry)] : List AEntry)).length) gu1]) Tryz.underlying26 rfl rfl na_24 rfl rfl) ?_
 refine as_ rfl <| dn ?_
 refine WP.ret (Pst.body_ret rfl rfl rfl ?_)
 exact ⟨Au1, gu1, rfl, (((((((((((K3.sel s4).sel s10).sel s10).sel s10).sel s10).sel s8).sel s8).sel s8).sel s8).sel s10).sel s10)⟩

theorem au94 {b w : World} {S : Nat → Prop} {F : List Res} {p0 : Nat} {P1 : Option Addr} {p2 p3 p4 : Nat} (H0 : Hp b S w (rBx p0 178 [.int .i64 1, .int .i64 1, .int .i64 1, .int .i64 0, .int .i64 0, .slice P1 ((([] : List AEntry) ++ ([(⟨1, 0, 0, 0, 0, 0, 0⟩ : AEntry)] : List AEntry)).length) p2, .int .i64 2, .int .i64 1, .map (some p3), .slice (some ⟨p4, 0, none⟩) 1 1] :: rOwn tEntry 68 P1 p2 (([] : List AEntry) ++ ([(⟨1, 0, 0, 0, 0, 0, 0⟩ : AEntry)] : List AEntry)) :: rObj p3 (.map (Array.push (#[] : Array MapEntry) ⟨.int .i64 1, .bool true, 0⟩) 1) :: rBx p4 258 [.int .i64 1, .int .i64 1] :: F)) :
    Rets Tryz.prog 56 #[.pointer (some ⟨p0, 0, none⟩)] w fun v w' => v = .int .i64 1 ∧ Hp b S w' (rBx p0 178 [.int .i64 1, .int .i64 1, .int .i64 1, .int .i64 0, .int .i64 0, .slice P1 ((([] : List AEntry) ++ ([(⟨1, 0, 0, 0, 0, 0, 0⟩ : AEntry)] : List AEntry)).length) p2, .int .i64 2, .int .i64 1, .map (some p3), .slice (some ⟨p4, 0, none⟩) 1 1] :: rOwn tEntry 68 P1 p2 (([] : List AEntry) ++ ([(⟨1, 0, 0, 0, 0, 0, 0⟩ : AEntry)] : List AEntry)) :: rObj p3 (.map (Array.push (#[] : Array MapEntry) ⟨.int .i64 1, .bool true, 0⟩) 1) :: rBx p4 258 [.int .i64 1, .int .i64 1] :: F) := by
 refine WP.enter Tryz.func56 rfl Tryz.ntmps56 rfl <| rg <| as_ rfl <| dn <| rg <| mv rfl <| ev (Ev.nilCheck rfl) <| ev (Ev.field (q := ⟨p0, 7, none⟩) fa_178_4 rfl rfl) ?_
 refine ev (Ev.loadBoxCell na_3 rfl (H0.x s0) rfl) <| as_ rfl <| dn ?_
 refine WP.ret (Pst.body_ret rfl rfl rfl ?_)
 exact ⟨rfl, H0⟩

theorem au90 {b w : World} {S : Nat → Prop} {F : List Res} {p0 p1 : Nat} {P2 : Option Addr} {p3 p4 p5 : Nat} {P6 : Option Addr} {p7 p8 p9 : Nat} {P10 : Option Addr} {p11 : Nat} {P12 : Option Addr} {p13 : Nat} (H0 : Hp b S w (rBx p0 97 [.slice (some ⟨p1, 0, none⟩) 1 1, .slice P2 ((([] : List AMsg) ++ ([] : List AMsg)).length) p3] :: rBx p1 100 [.pointer (some ⟨p4, 0, none⟩), .pointer (some ⟨p5, 0, none⟩)] :: rBx p4 178 [.int .i64 1, .int .i64 1, .int .i64 1, .int .i64 0, .int .i64 0, .slice P6 ((([] : List AEntry) ++ ([(⟨1, 0, 0, 0, 0, 0, 0⟩ : AEntry)] : List AEntry)).length) p7, .int .i64 2, .int .i64 1, .map (some p8), .slice (some ⟨p9, 0, none⟩) 1 1] :: rOwn tEntry 68 P6 p7 (([] : List AEntry) ++ ([(⟨1, 0, 0, 0, 0, 0, 0⟩ : AEntry)] : List AEntry)) :: rObj p8 (.map (Array.push (#[] : Array MapEntry) ⟨.int .i64 1, .bool true, 0⟩) 1) :: rBx p9 258 [.int .i64 1, .int .i64 1] :: rBx p5 61 [.slice P10 ((if saveE (⟨1, 1⟩ : ABallot) (⟨0, 0, (([] : List AEntry) ++ ([(⟨1, 0, 0, 0, 0, 0, 0⟩ : AEntry)] : List AEntry))⟩ : ALog) = 0 then bytesL (recsL (⟨1, 1⟩ : ABallot) (⟨0, 0, (([] : List AEntry) ++ ([(⟨1, 0, 0, 0, 0, 0, 0⟩ : AEntry)] : List AEntry))⟩ : ALog).L) else []).length) p11, .int .i64 (((if saveE (⟨1, 1⟩ : ABallot) (⟨0, 0, (([] : List AEntry) ++ ([(⟨1, 0, 0, 0, 0, 0, 0⟩ : AEntry)] : List AEntry))⟩ : ALog) = 0 then bytesL (recsL (⟨1, 1⟩ : ABallot) (⟨0, 0, (([] : List AEntry) ++ ([(⟨1, 0, 0, 0, 0, 0, 0⟩ : AEntry)] : List AEntry))⟩ : ALog).L) else []).length : Nat) : Int), .int .i64 (if saveE (⟨1, 1⟩ : ABallot) (⟨0, 0, (([] : List AEntry) ++ ([(⟨1, 0, 0, 0, 0, 0, 0⟩ : AEntry)] : List AEntry))⟩ : ALog) = 0 then (⟨1, 1⟩ : ABallot).Term else 0), .int .i64 (if saveE (⟨1, 1⟩ : ABallot) (⟨0, 0, (([] : List AEntry) ++ ([(⟨1, 0, 0, 0, 0, 0, 0⟩ : AEntry)] : List AEntry))⟩ : ALog) = 0 then (⟨1, 1⟩ : ABallot).Vote else 0), .slice P12 ((if saveE (⟨1, 1⟩ : ABallot) (⟨0, 0, (([] : List AEntry) ++ ([(⟨1, 0, 0, 0, 0, 0, 0⟩ : AEntry)] : List AEntry))⟩ : ALog) = 0 then (⟨0, 0, (([] : List AEntry) ++ ([(⟨1, 0, 0, 0, 0, 0, 0⟩ : AEntry)] : List AEntry))⟩ : ALog).L else []).length) p13] :: rOwn tByte 5 P10 p11 (if saveE (⟨1, 1⟩ : ABallot) (⟨0, 0, (([] : List AEntry) ++ ([(⟨1, 0, 0, 0, 0, 0, 0⟩ : AEntry)] : List AEntry))⟩ : ALog) = 0 then bytesL (recsL (⟨1, 1⟩ : ABallot) (⟨0, 0, (([] : List AEntry) ++ ([(⟨1, 0, 0, 0, 0, 0, 0⟩ : AEntry)] : List AEntry))⟩ : ALog).L) else []) :: rOwn tEntry 68 P12 p13 (if saveE (⟨1, 1⟩ : ABallot) (⟨0, 0, (([] : List AEntry) ++ ([(⟨1, 0, 0, 0, 0, 0, 0⟩ : AEntry)] : List AEntry))⟩ : ALog) = 0 then (⟨0, 0, (([] : List AEntry) ++ ([(⟨1, 0, 0, 0, 0, 0, 0⟩ : AEntry)] : List AEntry))⟩ : ALog).L else []) :: rOwn tMsg 111 P2 p3 (([] : List AMsg) ++ ([] : List AMsg)) :: F)) :
    Rets Tryz.prog 17 #[.pointer (some ⟨p0, 0, none⟩), .int .i64 1] w fun v w' => ∃ (Au1 : Option Addr) (gu1 : Nat), v = .slice Au1 (((([] : List AEntry) ++ ([(⟨1, 0, 0, 0, 0, 0, 0⟩ : AEntry)] : List AEntry)).take 1).length) gu1 ∧ Hp b S w' (rBx p0 97 [.slice (some ⟨p1, 0, none⟩) 1 1, .slice P2 ((([] : List AMsg) ++ ([] : List AMsg)).length) p3] :: rBx p1 100 [.pointer (some ⟨p4, 0, none⟩), .pointer (some ⟨p5, 0, none⟩)] :: rBx p4 178 [.int .i64 1, .int .i64 1, .int .i64 1, .int .i64 0, .int .i64 0, .slice P6 ((([] : List AEntry) ++ ([(⟨1, 0, 0, 0, 0, 0, 0⟩ : AEntry)] : List AEntry)).length) p7, .int .i64 2, .int .i64 1, .map (some p8), .slice (some ⟨p9, 0, none⟩) 1 1] :: rOwn tEntry 68 P6 p7 (([] : List AEntry) ++ ([(⟨1, 0, 0, 0, 0, 0, 0⟩ : AEntry)] : List AEntry)) :: rObj p8 (.map (Array.push (#[] : Array MapEntry) ⟨.int .i64 1, .bool true, 0⟩) 1) :: rBx p9 258 [.int .i64 1, .int .i64 1] :: rBx p5 61 [.slice P10 ((if saveE (⟨1, 1⟩ : ABallot) (⟨0, 0, (([] : List AEntry) ++ ([(⟨1, 0, 0, 0, 0, 0, 0⟩ : AEntry)] : List AEntry))⟩ : ALog) = 0 then bytesL (recsL (⟨1, 1⟩ : ABallot) (⟨0, 0, (([] : List AEntry) ++ ([(⟨1, 0, 0, 0, 0, 0, 0⟩ : AEntry)] : List AEntry))⟩ : ALog).L) else []).length) p11, .int .i64 (((if saveE (⟨1, 1⟩ : ABallot) (⟨0, 0, (([] : List AEntry) ++ ([(⟨1, 0, 0, 0, 0, 0, 0⟩ : AEntry)] : List AEntry))⟩ : ALog) = 0 then bytesL (recsL (⟨1, 1⟩ : ABallot) (⟨0, 0, (([] : List AEntry) ++ ([(⟨1, 0, 0, 0, 0, 0, 0⟩ : AEntry)] : List AEntry))⟩ : ALog).L) else []).length : Nat) : Int), .int .i64 (if saveE (⟨1, 1⟩ : ABallot) (⟨0, 0, (([] : List AEntry) ++ ([(⟨1, 0, 0, 0, 0, 0, 0⟩ : AEntry)] : List AEntry))⟩ : ALog) = 0 then (⟨1, 1⟩ : ABallot).Term else 0), .int .i64 (if saveE (⟨1, 1⟩ : ABallot) (⟨0, 0, (([] : List AEntry) ++ ([(⟨1, 0, 0, 0, 0, 0, 0⟩ : AEntry)] : List AEntry))⟩ : ALog) = 0 then (⟨1, 1⟩ : ABallot).Vote else 0), .slice P12 ((if saveE (⟨1, 1⟩ : ABallot) (⟨0, 0, (([] : List AEntry) ++ ([(⟨1, 0, 0, 0, 0, 0, 0⟩ : AEntry)] : List AEntry))⟩ : ALog) = 0 then (⟨0, 0, (([] : List AEntry) ++ ([(⟨1, 0, 0, 0, 0, 0, 0⟩ : AEntry)] : List AEntry))⟩ : ALog).L else []).length) p13] :: rOwn tByte 5 P10 p11 (if saveE (⟨1, 1⟩ : ABallot) (⟨0, 0, (([] : List AEntry) ++ ([(⟨1, 0, 0, 0, 0, 0, 0⟩ : AEntry)] : List AEntry))⟩ : ALog) = 0 then bytesL (recsL (⟨1, 1⟩ : ABallot) (⟨0, 0, (([] : List AEntry) ++ ([(⟨1, 0, 0, 0, 0, 0, 0⟩ : AEntry)] : List AEntry))⟩ : ALog).L) else []) :: rOwn tEntry 68 P12 p13 (if saveE (⟨1, 1⟩ : ABallot) (⟨0, 0, (([] : List AEntry) ++ ([(⟨1, 0, 0, 0, 0, 0, 0⟩ : AEntry)] : List AEntry))⟩ : ALog) = 0 then (⟨0, 0, (([] : List AEntry) ++ ([(⟨1, 0, 0, 0, 0, 0, 0⟩ : AEntry)] : List AEntry))⟩ : ALog).L else []) :: rOwn tMsg 111 P2 p3 (([] : List AMsg) ++ ([] : List AMsg)) :: rOwn tEntry 68 Au1 gu1 (([] : List AEntry) ++ ([(⟨1, 0, 0, 0, 0, 0, 0⟩ : AEntry)] : List AEntry)) :: F) := by
 refine WP.enter Tryz.func17 rfl Tryz.ntmps17 rfl <| rg <| as_ rfl <| dn <| rg <| mv rfl <| mv rfl <| WL.call rfl rfl rfl cl_55 (au91 H0) rfl ?_
 rintro _ w1 ⟨Au1, gu1, rfl, K1⟩
 refine as_ rfl <| dn <| WP.seq <| rg <| mv rfl <| ev (Ev.len Tryz.underlying24 rfl) <| ev (Ev.eql rfl rfl) <| dn <| cFe rfl ?_
 refine WP.skip (Pst.norm ?_)
 refine rg <| mv rfl <| mv rfl <| ev (Ev.len Tryz.underlying24 rfl) <| mv rfl <| mv rfl <| WL.call rfl rfl rfl cl_47 (au93 K1) rfl ?_
 rintro _ w2 ⟨rfl, K2⟩
 refine ev (Ev.nilCheck rfl) <| ev (Ev.field (q := ⟨p1, 0, none⟩) fa_100_0 rfl rfl) <| ev (Ev.loadBoxCell na_98 rfl (K2.x s1) rfl) <| WL.call rfl rfl rfl cl_56 (au94 ((((((K2.sel s1).sel s1).sel s5).sel s5).sel s5).sel s5)) rfl ?_
 rintro _ w3 ⟨rfl, K3⟩
 refine ev (Ev.min2 rfl rfl) <| ev (Ev.cutTo (hi := 1) (xs := (([] : List AEntry) ++ ([(⟨1, 0, 0, 0, 0, 0, 0⟩ : AEntry)] : List AEntry))) Tryz.underlying24 sz_68 rfl rfl rfl (by first | omega | (simp; done) | decide) (K3.o s10).cap) ?_
 refine as_ rfl <| dn ?_
 refine WP.ret (Pst.body_ret rfl rfl rfl ?_)
 exact ⟨Au1, gu1, rfl, ((((((K3.sel s3).sel s3).sel s3).sel s3).sel s5).sel s5)⟩

theorem awake_ok {S0 : Nat → Prop} (w : World)  :
    Rets Tryz.prog 4 #[] w fun v w' => v = .bool true ∧ Hp w S0 w' [] := by
 refine WP.enter Tryz.func4 rfl Tryz.ntmps4 rfl ?_
 have H0 := Hp.init w S0
 refine rg <| as_ rfl <| dn <| rg <| WL.call rfl rfl rfl cl_12 (au0 H0) rfl ?_
 rintro _ w1 ⟨rfl, K1⟩
 refine WL.call rfl rfl rfl cl_11 (au1 K1) rfl ?_
 rintro _ w2 ⟨gu1, gu2, rfl, K2⟩
 refine mv rfl <| xt rfl rfl <| xt rfl rfl <| as_ rfl <| as_ rfl <| dn <| rg <| WL.call rfl rfl rfl cl_13 (au9 K2) rfl ?_
 rintro _ w3 ⟨gu3, gu4, gu5, gu6, gu7, gu8, rfl, K3⟩
 refine mv rfl <| xt rfl rfl <| xt rfl rfl <| as_ rfl <| as_ rfl <| dn <| WP.seq <| rg <| mv rfl <| ev (Ev.neq rfl rfl) <| mv rfl <| WL.evg rfl (Ev.move rfl) rfl ?_
 refine WL.evg rfl (Ev.neq rfl rfl) rfl <| ev (Ev.pick_f rfl rfl) <| mv rfl <| WL.evg rfl (Ev.move rfl) rfl <| WL.evg rfl (Ev.pnil Tryz.underlying44 rfl rfl) rfl ?_
 refine ev (Ev.pick_f rfl rfl) <| mv rfl <| WL.evg rfl (Ev.move rfl) rfl <| WL.evg rfl (Ev.pnil Tryz.underlying50 rfl rfl) rfl <| ev (Ev.pick_f rfl rfl) <| dn <| cFe rfl ?_
 refine WP.skip (Pst.norm ?_)
 refine rg <| mv rfl <| ev (Ev.build (vs := [(0, .int .i64 1), (1, .int .i64 1), (2, .int .i64 1), (3, .int .i64 4)]) (cs := [.int .i64 1, .int .i64 1, .int .i64 1, .int .i64 4]) rfl (by apply bl_55_0I_1I_2I_3I)) ?_
 refine WL.call rfl rfl rfl cl_14 (au22 ((((((((K3.sel s5).sel s5).sel s5).sel s5).sel s5).sel s5).sel s7).sel s7)) rfl ?_
 rintro _ w4 ⟨Au1, gu9, gu10, gu11, gu12, rfl, K4⟩
 refine as_ rfl <| dn <| rg <| mv rfl <| ev (Ev.build (vs := [(0, .int .i64 0), (1, .int .i64 1)]) (cs := [.int .i64 0, .int .i64 1, .int .i64 0, .int .i64 0]) rfl (by apply bl_55_0I_1I)) ?_
 refine WL.call rfl rfl rfl cl_15 (au60 ((((((((((((K4.sel s5).sel s5).sel s5).sel s5).sel s5).sel s5).sel s11).sel s11).sel s11).sel s11).sel s11).sel s11)) rfl ?_
 rintro _ w5 ⟨Au2, gu13, Au3, gu14, Au4, gu15, Au5, gu16, rfl, K5⟩
 refine as_ rfl <| dn <| rg <| mv rfl <| ev (Ev.eql rfl rfl) <| mv rfl <| WL.evg rfl (Ev.move rfl) rfl <| WL.evg rfl (Ev.eql rfl rfl) rfl <| ev (Ev.pick_t rfl rfl) ?_
 refine mv rfl <| WL.evg rfl (Ev.move rfl) rfl <| WL.callg rfl rfl rfl rfl cl_16 (au89 ((((((((((((((((K5.sel s9).sel s9).sel s9).sel s9).sel s9).sel s9).sel s9).sel s9).sel s9).sel s9).sel s15).sel s15).sel s15).sel s14).sel s15).sel s15)) rfl ?_
 rintro _ w6 ⟨rfl, K6⟩
 refine ev (Ev.pick_t rfl rfl) <| mv rfl <| WL.evg rfl (Ev.move rfl) rfl <| WL.callg rfl rfl rfl rfl cl_17 (au90 ((((((((((((((((K6.sel s5).sel s5).sel s5).sel s5).sel s5).sel s5).sel s15).sel s15).sel s15).sel s14).sel s14).sel s14).sel s15).sel s15).sel s15).sel s15)) rfl ?_
 rintro _ w7 ⟨Au6, gu17, rfl, K7⟩
 refine WL.evg rfl (Ev.len Tryz.underlying24 rfl) rfl <| WL.evg rfl (Ev.eql rfl rfl) rfl <| ev (Ev.pick_t rfl rfl) <| as_ rfl <| dn ?_
 refine WP.ret (Pst.body_ret rfl rfl rfl ?_)
 have hq1 : (decide (((((([] : List AEntry) ++ ([(⟨1, 0, 0, 0, 0, 0, 0⟩ : AEntry)] : List AEntry)).take 1).length : Nat) : Int) = 1) : Bool) = true := by first | with_reducible rfl | (simp; done) | omega
 exact ⟨by rw [hq1] <;> rfl, K7.z⟩

end Go.Proofs.YtlnjmkmhmbijmaaGreat
