/- The seat's table of types, checked; the copy check of a builder; where a text begins in another (condition: the text has less than 2^32 - 15 bytes). -/
import Derived.Test.YtnipklplcipaiaaGreatDoorAbC
import Derived.Test.YtnipklplcipaiaaGreatDoorProg
import Derived.Shelf.Strings.Search2
import Derived.Shelf.Strings.Builder1
namespace Go.Proofs
open Go.Shelf
def Tryz.lays219_ren : Go.Shelf.Ren := ⟨fun | 219 => 130 | 217 => 88 | 225 => 151 | 224 => 152 | 267 => 153 | 266 => 131 | 314 => 159 | n => n, fun | 9 => 9 | 3 => 3 | 4 => 4 | 5 => 5 | 46 => 138 | 146 => 145 | 51 => 144 | n => n, fun | 1 => 0 | n => n⟩
theorem Tryz.lays219 : Go.Proofs.Lays.n219 Tryz.prog Tryz.lays219_ren := {
  mixed := by kernel_rfl
  f217 := Tryz.func88.trans (congrArg some (by kernel_rfl))
  f219 := Tryz.func130.trans (congrArg some (by kernel_rfl))
  f224 := Tryz.func152.trans (congrArg some (by kernel_rfl))
  f225 := Tryz.func151.trans (congrArg some (by kernel_rfl))
  f266 := Tryz.func131.trans (congrArg some (by kernel_rfl))
  f267 := Tryz.func153.trans (congrArg some (by kernel_rfl))
  f314 := Tryz.func159.trans (congrArg some (by kernel_rfl))
  t3 := Tryz.underlying3
  a3 := Tryz.isAgg3
  z3 := Tryz.sizeOf3
  v3 := Tryz.zeroValue3
  t4 := Tryz.underlying4
  a4 := Tryz.isAgg4
  z4 := Tryz.sizeOf4
  v4 := Tryz.zeroValue4
  t5 := Tryz.underlying5
  a5 := Tryz.isAgg5
  z5 := Tryz.sizeOf5
  v5 := Tryz.zeroValue5
  t9 := Tryz.underlying9
  a9 := Tryz.isAgg9
  z9 := Tryz.sizeOf9
  v9 := Tryz.zeroValue9
  t46 := Tryz.underlying138
  a46 := Tryz.isAgg138
  z46 := Tryz.sizeOf138
  v46 := Tryz.zeroValue138
  t51 := Tryz.underlying144
  a51 := Tryz.isAgg144
  z51 := Tryz.sizeOf144
  v51 := Tryz.zeroValue144
  t146 := Tryz.underlying145
  a146 := Tryz.isAgg145
  z146 := Tryz.sizeOf145
  v146 := Tryz.zeroValue145
  g1 := by kernel_rfl }

end Go.Proofs
namespace Go.Proofs.Ab
set_option linter.unusedVariables false
set_option maxRecDepth 4000
open Go Go.Proofs Go.Shelf Go.RowKit
def tyL : List (Option TI) := [
 none,
 some ⟨false, [.fn], [], 0, 8, false, false⟩,
 some ⟨false, [.int .i64], [], 0, 8, false, false⟩,
 some ⟨false, [.int .i64], [], 0, 8, false, false⟩,
 some ⟨false, [.bool], [], 0, 1, false, false⟩,
 some ⟨false, [.int .u8], [], 0, 1, false, false⟩,
 some ⟨false, [.int .u8], [], 0, 1, false, false⟩,
 some ⟨true, [.int .i64, .int .i64, .bool, .int .u8], [(0, 1, false), (1, 1, false), (2, 1, false), (3, 1, false)], 0, 24, false, false⟩,
 some ⟨true, [.int .i64, .int .i64, .bool, .int .u8], [(0, 1, false), (1, 1, false), (2, 1, false), (3, 1, false)], 0, 24, false, false⟩,
 some ⟨false, [.str], [], 0, 16, false, false⟩,
 some ⟨false, [.str], [], 0, 16, false, false⟩,
 some ⟨false, [.str], [], 0, 16, false, false⟩,
 some ⟨false, [.int .u64], [], 0, 8, false, false⟩,
 some ⟨true, [.str, .int .u64], [(0, 1, false), (1, 1, false)], 0, 24, false, false⟩,
 some ⟨true, [.str, .int .u64], [(0, 1, false), (1, 1, false)], 0, 24, false, false⟩,
 some ⟨false, [.ptr], [], 152, 8, false, false⟩,
 some ⟨false, [.ptr], [], 155, 8, false, false⟩,
 some ⟨false, [.ptr], [], 163, 8, false, false⟩,
 some ⟨true, [.ptr], [(0, 1, false)], 0, 8, false, false⟩,
 some ⟨true, [.ptr], [(0, 1, false)], 0, 8, false, false⟩,
 some ⟨false, [.ifc], [], 0, 16, false, false⟩,
 some ⟨false, [.int .i32], [], 0, 4, false, false⟩,
 some ⟨false, [.sl 42], [], 42, 24, true, false⟩,
 some ⟨false, [.fn], [], 0, 8, false, false⟩,
 some ⟨false, [.fn], [], 0, 8, false, false⟩,
 some ⟨false, [.fn], [], 0, 8, false, false⟩,
 some ⟨false, [.fn], [], 0, 8, false, false⟩,
 some ⟨false, [.sl 9], [], 9, 24, true, false⟩,
 some ⟨false, [.fn], [], 0, 8, false, false⟩,
 some ⟨false, [.fn], [], 0, 8, false, false⟩,
 some ⟨false, [.fn], [], 0, 8, false, false⟩,
 some ⟨false, [.fn], [], 0, 8, false, false⟩,
 some ⟨false, [.fn], [], 0, 8, false, false⟩,
 some ⟨false, [.sl 60], [], 60, 24, true, false⟩,
 some ⟨false, [.fn], [], 0, 8, false, false⟩,
 some ⟨false, [.fn], [], 0, 8, false, false⟩,
 some ⟨false, [.fn], [], 0, 8, false, false⟩,
 none,
 some ⟨false, [.fn], [], 0, 8, false, false⟩,
 some ⟨false, [.fn], [], 0, 8, false, false⟩,
 some ⟨false, [.fn], [], 0, 8, false, false⟩,
 some ⟨true, [.str, .str, .str], [(0, 1, false), (1, 1, false), (2, 1, false)], 0, 48, false, true⟩,
 some ⟨true, [.str, .str, .str], [(0, 1, false), (1, 1, false), (2, 1, false)], 0, 48, false, true⟩,
 some ⟨true, [.bool, .str], [(0, 1, false), (1, 1, false)], 0, 24, false, true⟩,
 some ⟨true, [.bool, .str], [(0, 1, false), (1, 1, false)], 0, 24, false, true⟩,
 some ⟨true, [.bool, .str, .bool, .str, .sl 60, .sl 60, .sl 60, .sl 60, .sl 60, .sl 60, .bool, .str, .bool, .str], [(0, 2, true), (2, 2, true), (4, 1, false), (5, 1, false), (6, 1, false), (7, 1, false), (8, 1, false), (9, 1, false), (10, 2, true), (12, 2, true)], 0, 240, false, false⟩,
 some ⟨true, [.bool, .str, .bool, .str, .sl 60, .sl 60, .sl 60, .sl 60, .sl 60, .sl 60, .bool, .str, .bool, .str], [(0, 2, true), (2, 2, true), (4, 1, false), (5, 1, false), (6, 1, false), (7, 1, false), (8, 1, false), (9, 1, false), (10, 2, true), (12, 2, true)], 0, 240, false, false⟩,
 some ⟨false, [.fn], [], 0, 8, false, false⟩,
 some ⟨false, [.fn], [], 0, 8, false, false⟩,
 some ⟨false, [.ptr], [], 54, 8, false, false⟩,
 some ⟨false, [.sl 22], [], 22, 24, true, false⟩,
 some ⟨false, [.sl 33], [], 33, 24, true, false⟩,
 some ⟨false, [.sl 27], [], 27, 24, true, false⟩,
 some ⟨true, [.sl 22, .sl 22, .sl 22, .sl 33, .sl 33, .sl 33, .sl 27, .sl 27, .sl 27], [(0, 1, false), (1, 1, false), (2, 1, false), (3, 1, false), (4, 1, false), (5, 1, false), (6, 1, false), (7, 1, false), (8, 1, false)], 0, 216, false, false⟩,
 some ⟨true, [.sl 22, .sl 22, .sl 22, .sl 33, .sl 33, .sl 33, .sl 27, .sl 27, .sl 27], [(0, 1, false), (1, 1, false), (2, 1, false), (3, 1, false), (4, 1, false), (5, 1, false), (6, 1, false), (7, 1, false), (8, 1, false)], 0, 216, false, false⟩,
 some ⟨false, [.fn], [], 0, 8, false, false⟩,
 some ⟨false, [.fn], [], 0, 8, false, false⟩,
 some ⟨false, [.fn], [], 0, 8, false, false⟩,
 some ⟨false, [.fn], [], 0, 8, false, false⟩,
 some ⟨true, [.bool, .str, .bool, .str, .bool, .str, .bool, .str], [(0, 2, true), (2, 2, true), (4, 2, true), (6, 2, true)], 0, 96, false, true⟩,
 some ⟨true, [.bool, .str, .bool, .str, .bool, .str, .bool, .str], [(0, 2, true), (2, 2, true), (4, 2, true), (6, 2, true)], 0, 96, false, true⟩,
 some ⟨false, [.fn], [], 0, 8, false, false⟩,
 some ⟨false, [.sl 65], [], 65, 24, true, false⟩,
 some ⟨false, [.fn], [], 0, 8, false, false⟩,
 some ⟨true, [.str, .str, .bool, .bool], [(0, 1, false), (1, 1, false), (2, 1, false), (3, 1, false)], 0, 40, false, true⟩,
 some ⟨true, [.str, .str, .bool, .bool], [(0, 1, false), (1, 1, false), (2, 1, false), (3, 1, false)], 0, 40, false, true⟩,
 some ⟨false, [.fn], [], 0, 8, false, false⟩,
 some ⟨false, [.fn], [], 0, 8, false, false⟩,
 none,
 some ⟨false, [.fn], [], 0, 8, false, false⟩,
 some ⟨false, [.fn], [], 0, 8, false, false⟩,
 some ⟨false, [.ptr], [], 74, 8, false, false⟩,
 some ⟨false, [.sl 5], [], 5, 24, true, false⟩,
 some ⟨true, [.ptr, .sl 5], [(0, 1, false), (1, 1, false)], 0, 32, false, false⟩,
 some ⟨true, [.nos, .sl 5], [(0, 1, false), (1, 1, false)], 0, 32, false, false⟩,
 some ⟨false, [.ifc], [], 0, 16, false, false⟩,
 some ⟨false, [.ifc], [], 0, 16, false, false⟩,
 none,
 some ⟨false, [.fn], [], 0, 8, false, false⟩,
 some ⟨false, [.fn], [], 0, 8, false, false⟩,
 none,
 some ⟨false, [.fn], [], 0, 8, false, false⟩,
 some ⟨false, [.fn], [], 0, 8, false, false⟩,
 none,
 some ⟨false, [.fn], [], 0, 8, false, false⟩,
 some ⟨false, [.sl 89], [], 89, 24, true, false⟩,
 some ⟨false, [.fn], [], 0, 8, false, false⟩,
 some ⟨false, [.fn], [], 0, 8, false, false⟩,
 some ⟨true, [.int .i64, .str], [(0, 1, false), (1, 1, false)], 0, 24, false, true⟩,
 some ⟨true, [.int .i64, .str], [(0, 1, false), (1, 1, false)], 0, 24, false, true⟩,
 some ⟨false, [.fn], [], 0, 8, false, false⟩,
 some ⟨false, [.fn], [], 0, 8, false, false⟩,
 some ⟨false, [.fn], [], 0, 8, false, false⟩,
 some ⟨false, [.fn], [], 0, 8, false, false⟩,
 some ⟨false, [.sl 98], [], 98, 24, true, false⟩,
 some ⟨false, [.fn], [], 0, 8, false, false⟩,
 some ⟨false, [.fn], [], 0, 8, false, false⟩,
 some ⟨true, [.int .u8, .str], [(0, 1, false), (1, 1, false)], 0, 24, false, true⟩,
 some ⟨true, [.int .u8, .str], [(0, 1, false), (1, 1, false)], 0, 24, false, true⟩,
 some ⟨false, [.fn], [], 0, 8, false, false⟩,
 some ⟨false, [.fn], [], 0, 8, false, false⟩,
 some ⟨false, [.fn], [], 0, 8, false, false⟩,
 some ⟨false, [.fn], [], 0, 8, false, false⟩,
 some ⟨false, [.fn], [], 0, 8, false, false⟩,
 some ⟨true, [.fn, .bool], [(0, 1, false), (1, 1, false)], 0, 16, false, false⟩,
 some ⟨true, [.fn, .bool], [(0, 1, false), (1, 1, false)], 0, 16, false, false⟩,
 some ⟨true, [.fn, .bool, .fn, .bool, .fn, .bool, .fn, .bool, .fn, .bool, .fn, .bool], [], 105, 96, false, false⟩,
 some ⟨false, [.fn], [], 0, 8, false, false⟩,
 some ⟨false, [.fn], [], 0, 8, false, false⟩,
 some ⟨false, [.fn], [], 0, 8, false, false⟩,
 some ⟨false, [.fn], [], 0, 8, false, false⟩,
 some ⟨false, [.fn], [], 0, 8, false, false⟩,
 some ⟨false, [.fn], [], 0, 8, false, false⟩,
 some ⟨true, (List.replicate 256 (.bool)), [], 4, 256, false, false⟩,
 some ⟨true, (List.replicate 256 (.bool)), [], 4, 256, false, false⟩,
 none,
 some ⟨false, [.fn], [], 0, 8, false, false⟩,
 some ⟨false, [.fn], [], 0, 8, false, false⟩,
 some ⟨false, [.ptr], [], 114, 8, false, false⟩,
 none,
 some ⟨false, [.fn], [], 0, 8, false, false⟩,
 some ⟨false, [.ptr], [], 5, 8, false, false⟩,
 some ⟨false, [.fn], [], 0, 8, false, false⟩,
 some ⟨false, [.ptr], [], 125, 8, false, false⟩,
 some ⟨true, [.str, .int .i64], [(0, 1, false), (1, 1, false)], 0, 24, false, true⟩,
 some ⟨true, [.str, .int .i64], [(0, 1, false), (1, 1, false)], 0, 24, false, true⟩,
 some ⟨false, [.fn], [], 0, 8, false, false⟩,
 some ⟨false, [.fn], [], 0, 8, false, false⟩,
 some ⟨false, [.fn], [], 0, 8, false, false⟩,
 some ⟨false, [.fn], [], 0, 8, false, false⟩,
 none,
 some ⟨false, [.fn], [], 0, 8, false, false⟩,
 some ⟨false, [.fn], [], 0, 8, false, false⟩,
 none,
 some ⟨false, [.fn], [], 0, 8, false, false⟩,
 some ⟨false, [.sl 3], [], 3, 24, true, false⟩,
 some ⟨false, [.fn], [], 0, 8, false, false⟩,
 some ⟨false, [.fn], [], 0, 8, false, false⟩,
 some ⟨false, [.int .u64], [], 0, 8, false, false⟩,
 some ⟨false, [.fn], [], 0, 8, false, false⟩,
 some ⟨false, [.fn], [], 0, 8, false, false⟩,
 some ⟨true, (List.replicate 256 (.int .u8)), [], 5, 256, false, false⟩,
 some ⟨false, [.fn], [], 0, 8, false, false⟩,
 some ⟨false, [.fn], [], 0, 8, false, false⟩,
 some ⟨false, [.int .u32], [], 0, 4, false, false⟩,
 none,
 some ⟨false, [.fn], [], 0, 8, false, false⟩,
 some ⟨true, [.int .u8, .int .u8], [(0, 1, false), (1, 1, false)], 0, 2, false, true⟩,
 some ⟨true, [.int .u8, .int .u8], [(0, 1, false), (1, 1, false)], 0, 2, false, true⟩,
 some ⟨true, [.int .u8, .int .u8, .int .u8, .int .u8, .int .u8, .int .u8, .int .u8, .int .u8, .int .u8, .int .u8, .int .u8, .int .u8, .int .u8, .int .u8, .int .u8, .int .u8, .int .u8, .int .u8, .int .u8, .int .u8, .int .u8, .int .u8, .int .u8, .int .u8, .int .u8, .int .u8, .int .u8, .int .u8, .int .u8, .int .u8, .int .u8, .int .u8], [], 148, 32, false, false⟩,
 some ⟨false, [.fn], [], 0, 8, false, false⟩,
 some ⟨true, [.ptr, .ptr, .ptr, .str], [(0, 1, false), (1, 1, false), (2, 1, false), (3, 1, false)], 0, 40, false, false⟩,
 some ⟨true, [.ptr, .ptr, .ptr, .str], [(0, 1, false), (1, 1, false), (2, 1, false), (3, 1, false)], 0, 40, false, false⟩,
 none,
 none,
 none,
 some ⟨false, [.fn], [], 0, 8, false, false⟩,
 some ⟨false, [.int .u8], [], 0, 1, false, false⟩,
 some ⟨false, [.int .u8], [], 0, 1, false, false⟩,
 some ⟨false, [.fn], [], 0, 8, false, false⟩,
 some ⟨false, [.int .i32], [], 0, 4, false, false⟩,
 some ⟨false, [.int .i32], [], 0, 4, false, false⟩,
 some ⟨true, [.int .u64, .int .u64, .int .u32, .int .u8, .int .u8, .int .u8, .int .u8, .fn, .ptr, .int .i32, .int .i32], [(0, 1, false), (1, 1, false), (2, 1, false), (3, 1, false), (4, 1, false), (5, 1, false), (6, 1, false), (7, 1, false), (8, 1, false), (9, 1, false), (10, 1, false)], 0, 48, false, false⟩,
 some ⟨true, [.int .u64, .int .u64, .int .u32, .int .u8, .int .u8, .int .u8, .int .u8, .fn, .ptr, .int .i32, .int .i32], [(0, 1, false), (1, 1, false), (2, 1, false), (3, 1, false), (4, 1, false), (5, 1, false), (6, 1, false), (7, 1, false), (8, 1, false), (9, 1, false), (10, 1, false)], 0, 48, false, false⟩]
set_option maxRecDepth 1000000 in
theorem tyok : tabCheck Tryz.prog 0 tyL = true := by kernel_rfl
theorem tyOk : Ok Tryz.prog (tabTy tyL) := ok_of tyok (by kernel_rfl)
def TabOk (tab : Tab) : Prop := ∃ m cs t fz, tab 0 = some (.cells cs t fz) /\ cs[0]? = some (.int .i64 m)
set_option maxHeartbeats 1000000 in
set_option maxRecDepth 100000 in
theorem cc_used (b : Nat) (w : World) (h0 : w.cell? ⟨b, 0, none⟩ = some (.pointer (some ⟨b, 0, none⟩))) :
  Calls Tryz.prog 99 #[.pointer (some ⟨b, 0, none⟩)] w fun e w' => e = .returned (.tuple #[]) /\ w' = w := by
 have hs : (Tryz.prog.info? 74).map (·.size) = some 2 := by kernel_rfl
 obtain ⟨j, hj, hjs⟩ := Option.map_eq_some_iff.1 hs
 go_enter Tryz.func99, Tryz.ntmps99
 go_wp2
 rw [Lib.run_neq_ptr_same w _ Tryz.underlying71 hj]
 go_wp2
 go_end0
 exact ⟨rfl, rfl⟩
set_option maxHeartbeats 1000000 in
set_option maxRecDepth 100000 in
theorem cc_fresh (b : Nat) (w : World) (h0 : w.cell? ⟨b, 0, none⟩ = some (.pointer none)) (hsh : w.shape? b = some (74, 2)) (hfz : w.frozen? ⟨b, 0, none⟩ = false) :
  Calls Tryz.prog 99 #[.pointer (some ⟨b, 0, none⟩)] w fun e w' => e = .returned (.tuple #[]) /\ w' = w.setCell ⟨b, 0, none⟩ (.pointer (some ⟨b, 0, none⟩)) := by
 have hs : (Tryz.prog.info? 74).map (·.size) = some 2 := by kernel_rfl
 obtain ⟨j, hj, hjs⟩ := Option.map_eq_some_iff.1 hs
 go_enter Tryz.func99, Tryz.ntmps99
 go_wp2
 rw [Lib.run_to_unsafe w ⟨b, 0, none⟩ Tryz.underlying71 Tryz.underlying133 hj (by rw [hjs]; decide) hsh (Nat.zero_lt_succ 1)]
 simp only [Result.andThen]
 rw [Oper.upon_value]
 go_wp2
 rw [run_callFunc_extern Tryz.func136 (by kernel_rfl) (by kernel_rfl) (by kernel_rfl) (e := Extern.AbiNoEscape.same) (by kernel_rfl)]
 rw [Lib.run_noEscape]
 simp only [Result.andThen]
 rw [Oper.upon_value]
 go_wp2
 rw [Lib.run_from_unsafe w ⟨b, 0, none⟩ Tryz.underlying133 Tryz.underlying71 hj hsh (by kernel_rfl)]
 simp only [Result.andThen]
 rw [Oper.upon_value]
 go_wp2
 go_end0
 exact ⟨rfl, rfl⟩
end Go.Proofs.Ab
