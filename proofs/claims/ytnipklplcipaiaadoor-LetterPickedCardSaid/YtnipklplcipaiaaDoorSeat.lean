/- The seat's table of types, checked; the copy check of a builder; where a text begins in another (condition: the text has less than 2^32 - 15 bytes). -/
import Derived.Test.YtnipklplcipaiaaDoorAbB
import Derived.Test.YtnipklplcipaiaaDoorProg
import Derived.Shelf.Strings.Search2
import Derived.Shelf.Strings.Builder1
/- The seat: its types, what its tables are, the copy check of strings.Builder. -/
namespace Go.Proofs
open Go.Shelf
def Tryd.lays219_ren : Go.Shelf.Ren := ⟨fun | 219 => 56 | 217 => 61 | 225 => 89 | 224 => 90 | 267 => 91 | 266 => 92 | 314 => 109 | n => n, fun | 9 => 9 | 3 => 3 | 4 => 4 | 5 => 5 | 46 => 102 | 146 => 111 | 51 => 110 | n => n, fun | 1 => 0 | n => n⟩
theorem Tryd.lays219 : Go.Proofs.Lays.n219 Tryd.prog Tryd.lays219_ren := {
  mixed := by kernel_rfl
  f217 := Tryd.func61.trans (congrArg some (by kernel_rfl))
  f219 := Tryd.func56.trans (congrArg some (by kernel_rfl))
  f224 := Tryd.func90.trans (congrArg some (by kernel_rfl))
  f225 := Tryd.func89.trans (congrArg some (by kernel_rfl))
  f266 := Tryd.func92.trans (congrArg some (by kernel_rfl))
  f267 := Tryd.func91.trans (congrArg some (by kernel_rfl))
  f314 := Tryd.func109.trans (congrArg some (by kernel_rfl))
  t3 := Tryd.underlying3
  a3 := Tryd.isAgg3
  z3 := Tryd.sizeOf3
  v3 := Tryd.zeroValue3
  t4 := Tryd.underlying4
  a4 := Tryd.isAgg4
  z4 := Tryd.sizeOf4
  v4 := Tryd.zeroValue4
  t5 := Tryd.underlying5
  a5 := Tryd.isAgg5
  z5 := Tryd.sizeOf5
  v5 := Tryd.zeroValue5
  t9 := Tryd.underlying9
  a9 := Tryd.isAgg9
  z9 := Tryd.sizeOf9
  v9 := Tryd.zeroValue9
  t46 := Tryd.underlying102
  a46 := Tryd.isAgg102
  z46 := Tryd.sizeOf102
  v46 := Tryd.zeroValue102
  t51 := Tryd.underlying110
  a51 := Tryd.isAgg110
  z51 := Tryd.sizeOf110
  v51 := Tryd.zeroValue110
  t146 := Tryd.underlying111
  a146 := Tryd.isAgg111
  z146 := Tryd.sizeOf111
  v146 := Tryd.zeroValue111
  g1 := by kernel_rfl }

end Go.Proofs
namespace Go.Proofs.Ab
set_option linter.unusedVariables false
set_option maxRecDepth 4000
open Go Go.Proofs Go.Shelf Go.RowKit
def tyL : List (Option TI) := [
  none,
  some ⟨false, [.fn], [], 0, 8, false, false⟩,
  some ⟨false, [.int .i64], [], 0, 8, false, false⟩,
  some ⟨false, [.int .i64], [], 0, 8, false, false⟩,
  some ⟨false, [.bool], [], 0, 1, false, false⟩,
  some ⟨false, [.int .u8], [], 0, 1, false, false⟩,
  some ⟨false, [.int .u8], [], 0, 1, false, false⟩,
  some ⟨true, [.int .i64, .int .i64, .bool, .int .u8], [(0, 1, false), (1, 1, false), (2, 1, false), (3, 1, false)], 0, 24, false, false⟩,
  some ⟨true, [.int .i64, .int .i64, .bool, .int .u8], [(0, 1, false), (1, 1, false), (2, 1, false), (3, 1, false)], 0, 24, false, false⟩,
  some ⟨false, [.str], [], 0, 16, false, false⟩,
  some ⟨false, [.str], [], 0, 16, false, false⟩,
  some ⟨false, [.str], [], 0, 16, false, false⟩,
  some ⟨false, [.int .u64], [], 0, 8, false, false⟩,
  some ⟨true, [.str, .int .u64], [(0, 1, false), (1, 1, false)], 0, 24, false, false⟩,
  some ⟨true, [.str, .int .u64], [(0, 1, false), (1, 1, false)], 0, 24, false, false⟩,
  some ⟨false, [.ptr], [], 122, 8, false, false⟩,
  some ⟨false, [.ptr], [], 125, 8, false, false⟩,
  some ⟨false, [.ptr], [], 133, 8, false, false⟩,
  some ⟨true, [.ptr], [(0, 1, false)], 0, 8, false, false⟩,
  some ⟨true, [.ptr], [(0, 1, false)], 0, 8, false, false⟩,
  some ⟨false, [.ifc], [], 0, 16, false, false⟩,
  some ⟨false, [.int .i32], [], 0, 4, false, false⟩,
  none,
  some ⟨false, [.fn], [], 0, 8, false, false⟩,
  some ⟨false, [.fn], [], 0, 8, false, false⟩,
  some ⟨false, [.fn], [], 0, 8, false, false⟩,
  some ⟨false, [.sl 28], [], 28, 24, true, false⟩,
  some ⟨true, [.str, .str, .str], [(0, 1, false), (1, 1, false), (2, 1, false)], 0, 48, false, true⟩,
  some ⟨true, [.str, .str, .str], [(0, 1, false), (1, 1, false), (2, 1, false)], 0, 48, false, true⟩,
  some ⟨true, [.bool, .str], [(0, 1, false), (1, 1, false)], 0, 24, false, true⟩,
  some ⟨true, [.bool, .str], [(0, 1, false), (1, 1, false)], 0, 24, false, true⟩,
  some ⟨false, [.fn], [], 0, 8, false, false⟩,
  some ⟨false, [.fn], [], 0, 8, false, false⟩,
  some ⟨false, [.fn], [], 0, 8, false, false⟩,
  some ⟨false, [.fn], [], 0, 8, false, false⟩,
  some ⟨false, [.fn], [], 0, 8, false, false⟩,
  some ⟨false, [.fn], [], 0, 8, false, false⟩,
  some ⟨false, [.sl 9], [], 9, 24, true, false⟩,
  some ⟨false, [.fn], [], 0, 8, false, false⟩,
  some ⟨false, [.fn], [], 0, 8, false, false⟩,
  some ⟨false, [.fn], [], 0, 8, false, false⟩,
  none,
  some ⟨false, [.fn], [], 0, 8, false, false⟩,
  some ⟨false, [.sl 46], [], 46, 24, true, false⟩,
  some ⟨false, [.fn], [], 0, 8, false, false⟩,
  some ⟨true, [.bool, .str, .bool, .str, .bool, .str, .bool, .str], [(0, 2, true), (2, 2, true), (4, 2, true), (6, 2, true)], 0, 96, false, true⟩,
  some ⟨true, [.bool, .str, .bool, .str, .bool, .str, .bool, .str], [(0, 2, true), (2, 2, true), (4, 2, true), (6, 2, true)], 0, 96, false, true⟩,
  some ⟨false, [.sl 49], [], 49, 24, true, false⟩,
  some ⟨true, [.str, .str, .str, .bool, .bool], [(0, 1, false), (1, 1, false), (2, 1, false), (3, 1, false), (4, 1, false)], 0, 56, false, true⟩,
  some ⟨true, [.str, .str, .str, .bool, .bool], [(0, 1, false), (1, 1, false), (2, 1, false), (3, 1, false), (4, 1, false)], 0, 56, false, true⟩,
  some ⟨false, [.fn], [], 0, 8, false, false⟩,
  some ⟨false, [.fn], [], 0, 8, false, false⟩,
  some ⟨false, [.fn], [], 0, 8, false, false⟩,
  some ⟨false, [.fn], [], 0, 8, false, false⟩,
  some ⟨false, [.fn], [], 0, 8, false, false⟩,
  some ⟨false, [.sl 58], [], 58, 24, true, false⟩,
  some ⟨false, [.fn], [], 0, 8, false, false⟩,
  some ⟨true, [.str, .str, .bool, .bool], [(0, 1, false), (1, 1, false), (2, 1, false), (3, 1, false)], 0, 40, false, true⟩,
  some ⟨true, [.str, .str, .bool, .bool], [(0, 1, false), (1, 1, false), (2, 1, false), (3, 1, false)], 0, 40, false, true⟩,
  some ⟨false, [.fn], [], 0, 8, false, false⟩,
  some ⟨false, [.ptr], [], 63, 8, false, false⟩,
  some ⟨false, [.sl 5], [], 5, 24, true, false⟩,
  some ⟨true, [.ptr, .sl 5], [(0, 1, false), (1, 1, false)], 0, 32, false, false⟩,
  some ⟨true, [.nos, .sl 5], [(0, 1, false), (1, 1, false)], 0, 32, false, false⟩,
  some ⟨false, [.ifc], [], 0, 16, false, false⟩,
  some ⟨false, [.ifc], [], 0, 16, false, false⟩,
  none,
  some ⟨false, [.fn], [], 0, 8, false, false⟩,
  some ⟨false, [.fn], [], 0, 8, false, false⟩,
  none,
  some ⟨false, [.fn], [], 0, 8, false, false⟩,
  some ⟨false, [.fn], [], 0, 8, false, false⟩,
  some ⟨true, [.fn, .bool], [(0, 1, false), (1, 1, false)], 0, 16, false, false⟩,
  some ⟨true, [.fn, .bool], [(0, 1, false), (1, 1, false)], 0, 16, false, false⟩,
  some ⟨true, [.fn, .bool, .fn, .bool, .fn, .bool, .fn, .bool, .fn, .bool, .fn, .bool], [], 73, 96, false, false⟩,
  some ⟨false, [.fn], [], 0, 8, false, false⟩,
  some ⟨false, [.sl 80], [], 80, 24, true, false⟩,
  some ⟨false, [.fn], [], 0, 8, false, false⟩,
  some ⟨false, [.fn], [], 0, 8, false, false⟩,
  some ⟨true, [.int .i64, .str], [(0, 1, false), (1, 1, false)], 0, 24, false, true⟩,
  some ⟨true, [.int .i64, .str], [(0, 1, false), (1, 1, false)], 0, 24, false, true⟩,
  some ⟨false, [.fn], [], 0, 8, false, false⟩,
  some ⟨false, [.fn], [], 0, 8, false, false⟩,
  some ⟨false, [.fn], [], 0, 8, false, false⟩,
  some ⟨false, [.fn], [], 0, 8, false, false⟩,
  some ⟨false, [.fn], [], 0, 8, false, false⟩,
  some ⟨false, [.fn], [], 0, 8, false, false⟩,
  some ⟨true, (List.replicate 256 (.bool)), [], 4, 256, false, false⟩,
  some ⟨true, (List.replicate 256 (.bool)), [], 4, 256, false, false⟩,
  none,
  some ⟨false, [.fn], [], 0, 8, false, false⟩,
  some ⟨false, [.fn], [], 0, 8, false, false⟩,
  some ⟨false, [.ptr], [], 88, 8, false, false⟩,
  some ⟨false, [.ptr], [], 5, 8, false, false⟩,
  some ⟨false, [.fn], [], 0, 8, false, false⟩,
  some ⟨false, [.fn], [], 0, 8, false, false⟩,
  some ⟨false, [.fn], [], 0, 8, false, false⟩,
  some ⟨false, [.ptr], [], 99, 8, false, false⟩,
  some ⟨true, [.str, .int .i64], [(0, 1, false), (1, 1, false)], 0, 24, false, true⟩,
  some ⟨true, [.str, .int .i64], [(0, 1, false), (1, 1, false)], 0, 24, false, true⟩,
  some ⟨false, [.fn], [], 0, 8, false, false⟩,
  some ⟨false, [.fn], [], 0, 8, false, false⟩,
  some ⟨false, [.int .u64], [], 0, 8, false, false⟩,
  none,
  some ⟨false, [.fn], [], 0, 8, false, false⟩,
  some ⟨false, [.fn], [], 0, 8, false, false⟩,
  none,
  some ⟨false, [.fn], [], 0, 8, false, false⟩,
  some ⟨false, [.fn], [], 0, 8, false, false⟩,
  some ⟨false, [.fn], [], 0, 8, false, false⟩,
  some ⟨false, [.int .u32], [], 0, 4, false, false⟩,
  none,
  some ⟨false, [.fn], [], 0, 8, false, false⟩,
  some ⟨false, [.fn], [], 0, 8, false, false⟩,
  some ⟨true, (List.replicate 256 (.int .u8)), [], 5, 256, false, false⟩,
  some ⟨false, [.fn], [], 0, 8, false, false⟩,
  some ⟨false, [.fn], [], 0, 8, false, false⟩,
  some ⟨true, [.int .u8, .int .u8], [(0, 1, false), (1, 1, false)], 0, 2, false, true⟩,
  some ⟨true, [.int .u8, .int .u8], [(0, 1, false), (1, 1, false)], 0, 2, false, true⟩,
  some ⟨true, [.int .u8, .int .u8, .int .u8, .int .u8, .int .u8, .int .u8, .int .u8, .int .u8, .int .u8, .int .u8, .int .u8, .int .u8, .int .u8, .int .u8, .int .u8, .int .u8, .int .u8, .int .u8, .int .u8, .int .u8, .int .u8, .int .u8, .int .u8, .int .u8, .int .u8, .int .u8, .int .u8, .int .u8, .int .u8, .int .u8, .int .u8, .int .u8], [], 118, 32, false, false⟩,
  some ⟨false, [.fn], [], 0, 8, false, false⟩,
  some ⟨true, [.ptr, .ptr, .ptr, .str], [(0, 1, false), (1, 1, false), (2, 1, false), (3, 1, false)], 0, 40, false, false⟩,
  some ⟨true, [.ptr, .ptr, .ptr, .str], [(0, 1, false), (1, 1, false), (2, 1, false), (3, 1, false)], 0, 40, false, false⟩,
  none,
  none,
  none,
  some ⟨false, [.fn], [], 0, 8, false, false⟩,
  some ⟨false, [.int .u8], [], 0, 1, false, false⟩,
  some ⟨false, [.int .u8], [], 0, 1, false, false⟩,
  some ⟨false, [.fn], [], 0, 8, false, false⟩,
  some ⟨false, [.int .i32], [], 0, 4, false, false⟩,
  some ⟨false, [.int .i32], [], 0, 4, false, false⟩,
  some ⟨true, [.int .u64, .int .u64, .int .u32, .int .u8, .int .u8, .int .u8, .int .u8, .fn, .ptr, .int .i32, .int .i32], [(0, 1, false), (1, 1, false), (2, 1, false), (3, 1, false), (4, 1, false), (5, 1, false), (6, 1, false), (7, 1, false), (8, 1, false), (9, 1, false), (10, 1, false)], 0, 48, false, false⟩,
  some ⟨true, [.int .u64, .int .u64, .int .u32, .int .u8, .int .u8, .int .u8, .int .u8, .fn, .ptr, .int .i32, .int .i32], [(0, 1, false), (1, 1, false), (2, 1, false), (3, 1, false), (4, 1, false), (5, 1, false), (6, 1, false), (7, 1, false), (8, 1, false), (9, 1, false), (10, 1, false)], 0, 48, false, false⟩]
set_option maxRecDepth 1000000 in
theorem tyok : tabCheck Tryd.prog 0 tyL = true := by kernel_rfl
theorem tyOk : Ok Tryd.prog (tabTy tyL) := ok_of tyok (by kernel_rfl)
/-- What package-level variables hold, as far as it matters. -/
def TabOk (tab : Tab) : Prop := ∃ m cs t fz, tab 0 = some (.cells cs t fz) ∧ cs[0]? = some (.int .i64 m)
set_option maxHeartbeats 1000000 in
set_option maxRecDepth 100000 in
theorem cc_used (b : Nat) (w : World) (h0 : w.cell? ⟨b, 0, none⟩ = some (.pointer (some ⟨b, 0, none⟩))) :
    Calls Tryd.prog 69 #[.pointer (some ⟨b, 0, none⟩)] w fun e w' => e = .returned (.tuple #[]) ∧ w' = w := by
  have hs : (Tryd.prog.info? 63).map (·.size) = some 2 := by kernel_rfl
  obtain ⟨j, hj, hjs⟩ := Option.map_eq_some_iff.1 hs
  go_enter Tryd.func69, Tryd.ntmps69
  go_wp2
  rw [Lib.run_neq_ptr_same w _ Tryd.underlying60 hj]
  go_wp2
  go_end0
  exact ⟨rfl, rfl⟩
set_option maxHeartbeats 1000000 in
set_option maxRecDepth 100000 in
theorem cc_fresh (b : Nat) (w : World) (h0 : w.cell? ⟨b, 0, none⟩ = some (.pointer none)) (hsh : w.shape? b = some (63, 2)) (hfz : w.frozen? ⟨b, 0, none⟩ = false) :
    Calls Tryd.prog 69 #[.pointer (some ⟨b, 0, none⟩)] w fun e w' => e = .returned (.tuple #[]) ∧ w' = w.setCell ⟨b, 0, none⟩ (.pointer (some ⟨b, 0, none⟩)) := by
  have hs : (Tryd.prog.info? 63).map (·.size) = some 2 := by kernel_rfl
  obtain ⟨j, hj, hjs⟩ := Option.map_eq_some_iff.1 hs
  go_enter Tryd.func69, Tryd.ntmps69
  go_wp2
  rw [Lib.run_to_unsafe w ⟨b, 0, none⟩ Tryd.underlying60 Tryd.underlying106 hj (by rw [hjs]; decide) hsh (Nat.zero_lt_succ 1)]
  simp only [Result.andThen]
  rw [Oper.upon_value]
  go_wp2
  rw [run_callFunc_extern Tryd.func97 (by kernel_rfl) (by kernel_rfl) (by kernel_rfl) (e := Extern.AbiNoEscape.same) (by kernel_rfl)]
  rw [Lib.run_noEscape]
  simp only [Result.andThen]
  rw [Oper.upon_value]
  go_wp2
  rw [Lib.run_from_unsafe w ⟨b, 0, none⟩ Tryd.underlying106 Tryd.underlying60 hj hsh (by kernel_rfl)]
  simp only [Result.andThen]
  rw [Oper.upon_value]
  go_wp2
  go_end0
  exact ⟨rfl, rfl⟩
end Go.Proofs.Ab
