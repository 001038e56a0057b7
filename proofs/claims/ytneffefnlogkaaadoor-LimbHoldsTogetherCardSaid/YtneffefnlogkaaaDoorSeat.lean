/- The seat's table of types, checked; the copy check of a builder; where a text begins in another (condition: the text has less than 2^32 - 15 bytes). -/
import Derived.Test.YtneffefnlogkaaaDoorAbC
import Derived.Test.YtneffefnlogkaaaDoorProg
import Derived.Shelf.Strings.Search2
import Derived.Shelf.Strings.Builder1
set_option linter.unusedVariables false
set_option linter.unusedSimpArgs false
set_option maxRecDepth 4000
namespace Go.Proofs
open Go.Shelf
def Tryd.lays219_ren : Go.Shelf.Ren := ⟨fun | 219 => 60 | 217 => 66 | 225 => 79 | 224 => 80 | 267 => 81 | 266 => 86 | 314 => 92 | n => n, fun | 9 => 9 | 3 => 3 | 4 => 4 | 5 => 5 | 46 => 125 | 146 => 132 | 51 => 131 | n => n, fun | 1 => 0 | n => n⟩
theorem Tryd.lays219 : Go.Proofs.Lays.n219 Tryd.prog Tryd.lays219_ren := {
  mixed := by kernel_rfl
  f217 := Tryd.func66.trans (congrArg some (by kernel_rfl))
  f219 := Tryd.func60.trans (congrArg some (by kernel_rfl))
  f224 := Tryd.func80.trans (congrArg some (by kernel_rfl))
  f225 := Tryd.func79.trans (congrArg some (by kernel_rfl))
  f266 := Tryd.func86.trans (congrArg some (by kernel_rfl))
  f267 := Tryd.func81.trans (congrArg some (by kernel_rfl))
  f314 := Tryd.func92.trans (congrArg some (by kernel_rfl))
  t3 := Tryd.underlying3
  a3 := Tryd.isAgg3
  z3 := Tryd.sizeOf3
  v3 := Tryd.zeroValue3
  t4 := Tryd.underlying4
  a4 := Tryd.isAgg4
  z4 := Tryd.sizeOf4
  v4 := Tryd.zeroValue4
  t5 := Tryd.underlying5
  a5 := Tryd.isAgg5
  z5 := Tryd.sizeOf5
  v5 := Tryd.zeroValue5
  t9 := Tryd.underlying9
  a9 := Tryd.isAgg9
  z9 := Tryd.sizeOf9
  v9 := Tryd.zeroValue9
  t46 := Tryd.underlying125
  a46 := Tryd.isAgg125
  z46 := Tryd.sizeOf125
  v46 := Tryd.zeroValue125
  t51 := Tryd.underlying131
  a51 := Tryd.isAgg131
  z51 := Tryd.sizeOf131
  v51 := Tryd.zeroValue131
  t146 := Tryd.underlying132
  a146 := Tryd.isAgg132
  z146 := Tryd.sizeOf132
  v146 := Tryd.zeroValue132
  g1 := by kernel_rfl }

end Go.Proofs
namespace Go.Proofs.Ab
open Go Go.Proofs Go.Shelf Go.RowKit
def tyL : List (Option TI) := [
 none,
 some ⟨false, [.fn], [], 0, 8, false, false⟩,
 some ⟨false, [.int .i64], [], 0, 8, false, false⟩,
 some ⟨false, [.int .i64], [], 0, 8, false, false⟩,
 some ⟨false, [.bool], [], 0, 1, false, false⟩,
 some ⟨false, [.int .u8], [], 0, 1, false, false⟩,
 some ⟨false, [.int .u8], [], 0, 1, false, false⟩,
 some ⟨true, [.int .i64, .int .i64, .bool, .int .u8], [(0, 1, false), (1, 1, false), (2, 1, false), (3, 1, false)], 0, 24, false, false⟩,
 some ⟨true, [.int .i64, .int .i64, .bool, .int .u8], [(0, 1, false), (1, 1, false), (2, 1, false), (3, 1, false)], 0, 24, false, false⟩,
 some ⟨false, [.str], [], 0, 16, false, false⟩,
 some ⟨false, [.str], [], 0, 16, false, false⟩,
 some ⟨false, [.str], [], 0, 16, false, false⟩,
 some ⟨false, [.int .u64], [], 0, 8, false, false⟩,
 some ⟨true, [.str, .int .u64], [(0, 1, false), (1, 1, false)], 0, 24, false, false⟩,
 some ⟨true, [.str, .int .u64], [(0, 1, false), (1, 1, false)], 0, 24, false, false⟩,
 some ⟨false, [.ptr], [], 156, 8, false, false⟩,
 some ⟨false, [.ptr], [], 159, 8, false, false⟩,
 some ⟨false, [.ptr], [], 167, 8, false, false⟩,
 some ⟨true, [.ptr], [(0, 1, false)], 0, 8, false, false⟩,
 some ⟨true, [.ptr], [(0, 1, false)], 0, 8, false, false⟩,
 some ⟨false, [.ifc], [], 0, 16, false, false⟩,
 some ⟨false, [.int .i32], [], 0, 4, false, false⟩,
 some ⟨false, [.fn], [], 0, 8, false, false⟩,
 some ⟨false, [.sl 95], [], 95, 24, true, false⟩,
 some ⟨true, [.bool, .str], [(0, 1, false), (1, 1, false)], 0, 24, false, true⟩,
 some ⟨true, [.bool, .str], [(0, 1, false), (1, 1, false)], 0, 24, false, true⟩,
 some ⟨false, [.sl 9], [], 9, 24, true, false⟩,
 some ⟨true, [.int .i64, .int .i64], [(0, 1, false), (1, 1, false)], 0, 16, false, true⟩,
 some ⟨true, [.int .i64, .int .i64], [(0, 1, false), (1, 1, false)], 0, 16, false, true⟩,
 some ⟨false, [.sl 31], [], 31, 24, true, false⟩,
 some ⟨true, [.str, .str, .str, .sl 95, .bool, .str, .bool, .str, .bool, .str, .bool, .str, .sl 95, .sl 9, .bool, .str, .int .i64, .int .i64, .int .i64, .int .i64, .int .i64, .sl 31], [(0, 1, false), (1, 1, false), (2, 1, false), (3, 1, false), (4, 2, true), (6, 2, true), (8, 2, true), (10, 2, true), (12, 1, false), (13, 1, false), (14, 2, true), (16, 2, true), (18, 2, true), (20, 1, false), (21, 1, false)], 0, 304, false, false⟩,
 some ⟨true, [.str, .str, .str, .sl 95, .bool, .str, .bool, .str, .bool, .str, .bool, .str, .sl 95, .sl 9, .bool, .str, .int .i64, .int .i64, .int .i64, .int .i64, .int .i64, .sl 31], [(0, 1, false), (1, 1, false), (2, 1, false), (3, 1, false), (4, 2, true), (6, 2, true), (8, 2, true), (10, 2, true), (12, 1, false), (13, 1, false), (14, 2, true), (16, 2, true), (18, 2, true), (20, 1, false), (21, 1, false)], 0, 304, false, false⟩,
 some ⟨false, [.fn], [], 0, 8, false, false⟩,
 some ⟨false, [.fn], [], 0, 8, false, false⟩,
 some ⟨false, [.sl 28], [], 28, 24, true, false⟩,
 some ⟨false, [.fn], [], 0, 8, false, false⟩,
 some ⟨false, [.fn], [], 0, 8, false, false⟩,
 some ⟨false, [.fn], [], 0, 8, false, false⟩,
 some ⟨false, [.fn], [], 0, 8, false, false⟩,
 none,
 some ⟨false, [.fn], [], 0, 8, false, false⟩,
 some ⟨true, [.str, .int .i64, .sl 9], [(0, 1, false), (1, 1, false), (2, 1, false)], 0, 48, false, false⟩,
 some ⟨true, [.str, .int .i64, .sl 9], [(0, 1, false), (1, 1, false), (2, 1, false)], 0, 48, false, false⟩,
 some ⟨false, [.fn], [], 0, 8, false, false⟩,
 some ⟨false, [.fn], [], 0, 8, false, false⟩,
 some ⟨false, [.sl 5], [], 5, 24, true, false⟩,
 some ⟨false, [.fn], [], 0, 8, false, false⟩,
 some ⟨false, [.ptr], [], 49, 8, false, false⟩,
 some ⟨true, [.str, .int .i64], [(0, 1, false), (1, 1, false)], 0, 24, false, true⟩,
 some ⟨true, [.str, .int .i64], [(0, 1, false), (1, 1, false)], 0, 24, false, true⟩,
 some ⟨false, [.fn], [], 0, 8, false, false⟩,
 some ⟨false, [.fn], [], 0, 8, false, false⟩,
 some ⟨false, [.ptr], [], 31, 8, false, false⟩,
 some ⟨false, [.fn], [], 0, 8, false, false⟩,
 some ⟨false, [.fn], [], 0, 8, false, false⟩,
 some ⟨false, [.fn], [], 0, 8, false, false⟩,
 none,
 some ⟨false, [.fn], [], 0, 8, false, false⟩,
 some ⟨false, [.fn], [], 0, 8, false, false⟩,
 some ⟨false, [.fn], [], 0, 8, false, false⟩,
 some ⟨false, [.fn], [], 0, 8, false, false⟩,
 none,
 some ⟨false, [.fn], [], 0, 8, false, false⟩,
 some ⟨false, [.fn], [], 0, 8, false, false⟩,
 some ⟨false, [.sl 100], [], 100, 24, true, false⟩,
 some ⟨false, [.fn], [], 0, 8, false, false⟩,
 some ⟨false, [.fn], [], 0, 8, false, false⟩,
 some ⟨false, [.fn], [], 0, 8, false, false⟩,
 some ⟨false, [.fn], [], 0, 8, false, false⟩,
 some ⟨false, [.fn], [], 0, 8, false, false⟩,
 some ⟨false, [.fn], [], 0, 8, false, false⟩,
 some ⟨false, [.fn], [], 0, 8, false, false⟩,
 some ⟨false, [.fn], [], 0, 8, false, false⟩,
 some ⟨false, [.fn], [], 0, 8, false, false⟩,
 some ⟨false, [.ptr], [], 76, 8, false, false⟩,
 some ⟨true, [.ptr, .sl 5], [(0, 1, false), (1, 1, false)], 0, 32, false, false⟩,
 some ⟨true, [.nos, .sl 5], [(0, 1, false), (1, 1, false)], 0, 32, false, false⟩,
 some ⟨false, [.sl 80], [], 80, 24, true, false⟩,
 some ⟨false, [.fn], [], 0, 8, false, false⟩,
 some ⟨true, [.str, .str, .bool, .bool], [(0, 1, false), (1, 1, false), (2, 1, false), (3, 1, false)], 0, 40, false, true⟩,
 some ⟨true, [.str, .str, .bool, .bool], [(0, 1, false), (1, 1, false), (2, 1, false), (3, 1, false)], 0, 40, false, true⟩,
 some ⟨false, [.fn], [], 0, 8, false, false⟩,
 some ⟨false, [.ifc], [], 0, 16, false, false⟩,
 some ⟨false, [.ifc], [], 0, 16, false, false⟩,
 none,
 some ⟨false, [.fn], [], 0, 8, false, false⟩,
 some ⟨false, [.fn], [], 0, 8, false, false⟩,
 some ⟨false, [.ptr], [], 90, 8, false, false⟩,
 some ⟨false, [.fn], [], 0, 8, false, false⟩,
 some ⟨true, [.str, .int .i64], [(0, 1, false), (1, 1, false)], 0, 24, false, true⟩,
 some ⟨true, [.str, .int .i64], [(0, 1, false), (1, 1, false)], 0, 24, false, true⟩,
 none,
 some ⟨false, [.fn], [], 0, 8, false, false⟩,
 some ⟨false, [.fn], [], 0, 8, false, false⟩,
 some ⟨true, [.str, .str], [(0, 1, false), (1, 1, false)], 0, 32, false, true⟩,
 some ⟨true, [.str, .str], [(0, 1, false), (1, 1, false)], 0, 32, false, true⟩,
 some ⟨false, [.fn], [], 0, 8, false, false⟩,
 some ⟨false, [.fn], [], 0, 8, false, false⟩,
 some ⟨false, [.fn], [], 0, 8, false, false⟩,
 some ⟨true, [.str, .str, .str], [(0, 1, false), (1, 1, false), (2, 1, false)], 0, 48, false, true⟩,
 some ⟨true, [.str, .str, .str], [(0, 1, false), (1, 1, false), (2, 1, false)], 0, 48, false, true⟩,
 some ⟨false, [.fn], [], 0, 8, false, false⟩,
 some ⟨false, [.fn], [], 0, 8, false, false⟩,
 some ⟨false, [.fn], [], 0, 8, false, false⟩,
 some ⟨false, [.fn], [], 0, 8, false, false⟩,
 some ⟨false, [.fn], [], 0, 8, false, false⟩,
 some ⟨false, [.fn], [], 0, 8, false, false⟩,
 some ⟨false, [.ptr], [], 5, 8, false, false⟩,
 some ⟨false, [.mp 9 3], [], 0, 8, false, false⟩,
 none,
 some ⟨false, [.fn], [], 0, 8, false, false⟩,
 some ⟨false, [.fn], [], 0, 8, false, false⟩,
 some ⟨true, (List.replicate 256 (.bool)), [], 4, 256, false, false⟩,
 some ⟨true, (List.replicate 256 (.bool)), [], 4, 256, false, false⟩,
 none,
 some ⟨false, [.fn], [], 0, 8, false, false⟩,
 some ⟨false, [.fn], [], 0, 8, false, false⟩,
 some ⟨false, [.ptr], [], 113, 8, false, false⟩,
 none,
 some ⟨false, [.fn], [], 0, 8, false, false⟩,
 none,
 some ⟨false, [.fn], [], 0, 8, false, false⟩,
 none,
 some ⟨false, [.fn], [], 0, 8, false, false⟩,
 some ⟨false, [.fn], [], 0, 8, false, false⟩,
 some ⟨false, [.int .u64], [], 0, 8, false, false⟩,
 some ⟨false, [.fn], [], 0, 8, false, false⟩,
 some ⟨false, [.fn], [], 0, 8, false, false⟩,
 some ⟨false, [.fn], [], 0, 8, false, false⟩,
 some ⟨false, [.fn], [], 0, 8, false, false⟩,
 some ⟨false, [.fn], [], 0, 8, false, false⟩,
 some ⟨false, [.int .u32], [], 0, 4, false, false⟩,
 none,
 some ⟨false, [.fn], [], 0, 8, false, false⟩,
 some ⟨false, [.fn], [], 0, 8, false, false⟩,
 some ⟨false, [.fn], [], 0, 8, false, false⟩,
 some ⟨true, [.int .u8, .int .u8, .int .u8, .int .u8, .int .u8, .int .u8, .int .u8, .int .u8, .int .u8, .int .u8, .int .u8, .int .u8, .int .u8, .int .u8, .int .u8, .int .u8, .int .u8, .int .u8, .int .u8, .int .u8, .int .u8, .int .u8, .int .u8, .int .u8], [], 5, 24, false, false⟩,
 some ⟨false, [.int .u64], [], 0, 8, false, false⟩,
 some ⟨false, [.fn], [], 0, 8, false, false⟩,
 some ⟨false, [.fn], [], 0, 8, false, false⟩,
 none,
 some ⟨false, [.fn], [], 0, 8, false, false⟩,
 some ⟨true, (List.replicate 256 (.int .u8)), [], 5, 256, false, false⟩,
 some ⟨true, [.int .u8, .int .u8], [(0, 1, false), (1, 1, false)], 0, 2, false, true⟩,
 some ⟨true, [.int .u8, .int .u8], [(0, 1, false), (1, 1, false)], 0, 2, false, true⟩,
 some ⟨true, [.int .u8, .int .u8, .int .u8, .int .u8, .int .u8, .int .u8, .int .u8, .int .u8, .int .u8, .int .u8, .int .u8, .int .u8, .int .u8, .int .u8, .int .u8, .int .u8, .int .u8, .int .u8, .int .u8, .int .u8, .int .u8, .int .u8, .int .u8, .int .u8, .int .u8, .int .u8, .int .u8, .int .u8, .int .u8, .int .u8, .int .u8, .int .u8], [], 144, 32, false, false⟩,
 some ⟨false, [.fn], [], 0, 8, false, false⟩,
 some ⟨false, [.fn], [], 0, 8, false, false⟩,
 some ⟨true, [.int .u64, .int .u64, .int .u64, .int .u64, .int .u64, .int .u64, .int .u64, .int .u64, .int .u64, .int .u64, .int .u64, .int .u64, .int .u64, .int .u64, .int .u64, .int .u64, .int .u64, .int .u64, .int .u64, .int .u64], [], 137, 160, false, false⟩,
 some ⟨true, (List.replicate 65 (.int .u8)), [], 5, 65, false, false⟩,
 some ⟨false, [.fn], [], 0, 8, false, false⟩,
 some ⟨false, [.fn], [], 0, 8, false, false⟩,
 some ⟨false, [.fn], [], 0, 8, false, false⟩,
 some ⟨true, [.int .u8, .int .u8, .int .u8, .int .u8, .int .u8, .int .u8, .int .u8, .int .u8, .int .u8, .int .u8, .int .u8, .int .u8, .int .u8, .int .u8, .int .u8, .int .u8, .int .u8, .int .u8, .int .u8, .int .u8, .int .u8, .int .u8, .int .u8, .int .u8, .int .u8, .int .u8, .int .u8, .int .u8, .int .u8, .int .u8, .int .u8, .int .u8], [], 5, 32, false, false⟩,
 some ⟨true, (List.replicate 64 (.int .u8)), [], 5, 64, false, false⟩,
 some ⟨true, [.ptr, .ptr, .ptr, .str], [(0, 1, false), (1, 1, false), (2, 1, false), (3, 1, false)], 0, 40, false, false⟩,
 some ⟨true, [.ptr, .ptr, .ptr, .str], [(0, 1, false), (1, 1, false), (2, 1, false), (3, 1, false)], 0, 40, false, false⟩,
 none,
 none,
 none,
 some ⟨false, [.fn], [], 0, 8, false, false⟩,
 some ⟨false, [.int .u8], [], 0, 1, false, false⟩,
 some ⟨false, [.int .u8], [], 0, 1, false, false⟩,
 some ⟨false, [.fn], [], 0, 8, false, false⟩,
 some ⟨false, [.int .i32], [], 0, 4, false, false⟩,
 some ⟨false, [.int .i32], [], 0, 4, false, false⟩,
 some ⟨true, [.int .u64, .int .u64, .int .u32, .int .u8, .int .u8, .int .u8, .int .u8, .fn, .ptr, .int .i32, .int .i32], [(0, 1, false), (1, 1, false), (2, 1, false), (3, 1, false), (4, 1, false), (5, 1, false), (6, 1, false), (7, 1, false), (8, 1, false), (9, 1, false), (10, 1, false)], 0, 48, false, false⟩,
 some ⟨true, [.int .u64, .int .u64, .int .u32, .int .u8, .int .u8, .int .u8, .int .u8, .fn, .ptr, .int .i32, .int .i32], [(0, 1, false), (1, 1, false), (2, 1, false), (3, 1, false), (4, 1, false), (5, 1, false), (6, 1, false), (7, 1, false), (8, 1, false), (9, 1, false), (10, 1, false)], 0, 48, false, false⟩]
set_option maxRecDepth 1000000 in
theorem tyok : tabCheck Tryd.prog 0 tyL = true := by kernel_rfl
theorem tyOk : Ok Tryd.prog (tabTy tyL) := ok_of tyok (by kernel_rfl)
def TabOk (tab : Tab) : Prop := ∃ m cs t fz, tab 0 = some (.cells cs t fz) /\ cs[0]? = some (.int .i64 m)
set_option maxHeartbeats 1000000 in
set_option maxRecDepth 100000 in
theorem cc_used (b : Nat) (w : World) (h0 : w.cell? ⟨b, 0, none⟩ = some (.pointer (some ⟨b, 0, none⟩))) :
  Calls Tryd.prog 57 #[.pointer (some ⟨b, 0, none⟩)] w fun e w' => e = .returned (.tuple #[]) /\ w' = w := by
 have hs : (Tryd.prog.info? 76).map (·.size) = some 2 := by kernel_rfl
 obtain ⟨j, hj, hjs⟩ := Option.map_eq_some_iff.1 hs
 go_enter Tryd.func57, Tryd.ntmps57
 go_wp2
 rw [Lib.run_neq_ptr_same w _ Tryd.underlying74 hj]
 go_wp2
 go_end0
 exact ⟨rfl, rfl⟩
set_option maxHeartbeats 1000000 in
set_option maxRecDepth 100000 in
theorem cc_fresh (b : Nat) (w : World) (h0 : w.cell? ⟨b, 0, none⟩ = some (.pointer none)) (hsh : w.shape? b = some (76, 2)) (hfz : w.frozen? ⟨b, 0, none⟩ = false) :
  Calls Tryd.prog 57 #[.pointer (some ⟨b, 0, none⟩)] w fun e w' => e = .returned (.tuple #[]) /\ w' = w.setCell ⟨b, 0, none⟩ (.pointer (some ⟨b, 0, none⟩)) := by
 have hs : (Tryd.prog.info? 76).map (·.size) = some 2 := by kernel_rfl
 obtain ⟨j, hj, hjs⟩ := Option.map_eq_some_iff.1 hs
 go_enter Tryd.func57, Tryd.ntmps57
 go_wp2
 rw [Lib.run_to_unsafe w ⟨b, 0, none⟩ Tryd.underlying74 Tryd.underlying122 hj (by rw [hjs]; decide) hsh (Nat.zero_lt_succ 1)]
 simp only [Result.andThen]
 rw [Oper.upon_value]
 go_wp2
 rw [run_callFunc_extern Tryd.func78 (by kernel_rfl) (by kernel_rfl) (by kernel_rfl) (e := Extern.AbiNoEscape.same) (by kernel_rfl)]
 rw [Lib.run_noEscape]
 simp only [Result.andThen]
 rw [Oper.upon_value]
 go_wp2
 rw [Lib.run_from_unsafe w ⟨b, 0, none⟩ Tryd.underlying122 Tryd.underlying74 hj hsh (by kernel_rfl)]
 simp only [Result.andThen]
 rw [Oper.upon_value]
 go_wp2
 go_end0
 exact ⟨rfl, rfl⟩
end Go.Proofs.Ab
