/- The seat's table of types, checked; the copy check of a builder; where a text begins in another (condition: the text has less than 2^32 - 15 bytes). -/
import Derived.Test.YtneffefnlogkaaaDoorAbC
import Derived.Test.YtneffefnlogkaaaDoorProg
import Derived.Shelf.Strings.Search2
import Derived.Shelf.Strings.Builder1
import Derived.RangeFuncNested
import Derived.RangeFuncBound
import Derived.RangeFuncCalls
import Derived.RangeFuncLeaves
import Derived.Shelf.Abstract
import Derived.Shelf.RegionOpen
import Derived.WalkKit
import Derived.OwnWalkIn
import Derived.TacticsInMore
import Derived.LoopNIn
import Derived.LoopIn
set_option linter.unusedVariables false
set_option linter.unusedSimpArgs false
set_option maxRecDepth 4000
namespace Go.Proofs
open Go.Shelf
def Tryd.sJ:Go.Shelf.Ren:=⟨fun|219=>60|217=>66|225=>79|224=>80|267=>81|266=>86|314=>92|n=>n,fun|9=>9|3=>3|4=>4|5=>5|46=>125|146=>132|51=>131|n=>n,fun|1=>0|n=>n⟩
theorem Tryd.A6:Go.Proofs.Lays.n219 Tryd.prog Tryd.sJ:={
  mixed:=by kernel_rfl
  f217:=Tryd.func66.trans (congrArg some (by kernel_rfl))
  f219:=Tryd.func60.trans (congrArg some (by kernel_rfl))
  f224:=Tryd.func80.trans (congrArg some (by kernel_rfl))
  f225:=Tryd.func79.trans (congrArg some (by kernel_rfl))
  f266:=Tryd.func86.trans (congrArg some (by kernel_rfl))
  f267:=Tryd.func81.trans (congrArg some (by kernel_rfl))
  f314:=Tryd.func92.trans (congrArg some (by kernel_rfl))
  t3:=Tryd.underlying3
  a3:=Tryd.isAgg3
  z3:=Tryd.sizeOf3
  v3:=Tryd.zeroValue3
  t4:=Tryd.underlying4
  a4:=Tryd.isAgg4
  z4:=Tryd.sizeOf4
  v4:=Tryd.zeroValue4
  t5:=Tryd.underlying5
  a5:=Tryd.isAgg5
  z5:=Tryd.sizeOf5
  v5:=Tryd.zeroValue5
  t9:=Tryd.underlying9
  a9:=Tryd.isAgg9
  z9:=Tryd.sizeOf9
  v9:=Tryd.zeroValue9
  t46:=Tryd.underlying125
  a46:=Tryd.isAgg125
  z46:=Tryd.sizeOf125
  v46:=Tryd.zeroValue125
  t51:=Tryd.underlying131
  a51:=Tryd.isAgg131
  z51:=Tryd.sizeOf131
  v51:=Tryd.zeroValue131
  t146:=Tryd.underlying132
  a146:=Tryd.isAgg132
  z146:=Tryd.sizeOf132
  v146:=Tryd.zeroValue132
  g1:=by kernel_rfl }

end Go.Proofs
namespace Go.Proofs.Ab
open Go Go.Proofs Go.Shelf Go.RowKit
def bN:List (Option TI):=[
 none,
 some ⟨false,[.fn],[],0,8,false,false⟩,
 some ⟨false,[.int .i64],[],0,8,false,false⟩,
 some ⟨false,[.int .i64],[],0,8,false,false⟩,
 some ⟨false,[.bool],[],0,1,false,false⟩,
 some ⟨false,[.int .u8],[],0,1,false,false⟩,
 some ⟨false,[.int .u8],[],0,1,false,false⟩,
 some ⟨true,[.int .i64,.int .i64,.bool,.int .u8],[(0,1,false),(1,1,false),(2,1,false),(3,1,false)],0,24,false,false⟩,
 some ⟨true,[.int .i64,.int .i64,.bool,.int .u8],[(0,1,false),(1,1,false),(2,1,false),(3,1,false)],0,24,false,false⟩,
 some ⟨false,[.str],[],0,16,false,false⟩,
 some ⟨false,[.str],[],0,16,false,false⟩,
 some ⟨false,[.str],[],0,16,false,false⟩,
 some ⟨false,[.int .u64],[],0,8,false,false⟩,
 some ⟨true,[.str,.int .u64],[(0,1,false),(1,1,false)],0,24,false,false⟩,
 some ⟨true,[.str,.int .u64],[(0,1,false),(1,1,false)],0,24,false,false⟩,
 some ⟨false,[.ptr],[],156,8,false,false⟩,
 some ⟨false,[.ptr],[],159,8,false,false⟩,
 some ⟨false,[.ptr],[],167,8,false,false⟩,
 some ⟨true,[.ptr],[(0,1,false)],0,8,false,false⟩,
 some ⟨true,[.ptr],[(0,1,false)],0,8,false,false⟩,
 some ⟨false,[.ifc],[],0,16,false,false⟩,
 some ⟨false,[.int .i32],[],0,4,false,false⟩,
 some ⟨false,[.fn],[],0,8,false,false⟩,
 some ⟨false,[.sl 95],[],95,24,true,false⟩,
 some ⟨true,[.bool,.str],[(0,1,false),(1,1,false)],0,24,false,true⟩,
 some ⟨true,[.bool,.str],[(0,1,false),(1,1,false)],0,24,false,true⟩,
 some ⟨false,[.sl 9],[],9,24,true,false⟩,
 some ⟨true,[.int .i64,.int .i64],[(0,1,false),(1,1,false)],0,16,false,true⟩,
 some ⟨true,[.int .i64,.int .i64],[(0,1,false),(1,1,false)],0,16,false,true⟩,
 some ⟨false,[.sl 31],[],31,24,true,false⟩,
 some ⟨true,[.str,.str,.str,.sl 95,.bool,.str,.bool,.str,.bool,.str,.bool,.str,.sl 95,.sl 9,.bool,.str,.int .i64,.int .i64,.int .i64,.int .i64,.int .i64,.sl 31],[(0,1,false),(1,1,false),(2,1,false),(3,1,false),(4,2,true),(6,2,true),(8,2,true),(10,2,true),(12,1,false),(13,1,false),(14,2,true),(16,2,true),(18,2,true),(20,1,false),(21,1,false)],0,304,false,false⟩,
 some ⟨true,[.str,.str,.str,.sl 95,.bool,.str,.bool,.str,.bool,.str,.bool,.str,.sl 95,.sl 9,.bool,.str,.int .i64,.int .i64,.int .i64,.int .i64,.int .i64,.sl 31],[(0,1,false),(1,1,false),(2,1,false),(3,1,false),(4,2,true),(6,2,true),(8,2,true),(10,2,true),(12,1,false),(13,1,false),(14,2,true),(16,2,true),(18,2,true),(20,1,false),(21,1,false)],0,304,false,false⟩,
 some ⟨false,[.fn],[],0,8,false,false⟩,
 some ⟨false,[.fn],[],0,8,false,false⟩,
 some ⟨false,[.sl 28],[],28,24,true,false⟩,
 some ⟨false,[.fn],[],0,8,false,false⟩,
 some ⟨false,[.fn],[],0,8,false,false⟩,
 some ⟨false,[.fn],[],0,8,false,false⟩,
 some ⟨false,[.fn],[],0,8,false,false⟩,
 none,
 some ⟨false,[.fn],[],0,8,false,false⟩,
 some ⟨true,[.str,.int .i64,.sl 9],[(0,1,false),(1,1,false),(2,1,false)],0,48,false,false⟩,
 some ⟨true,[.str,.int .i64,.sl 9],[(0,1,false),(1,1,false),(2,1,false)],0,48,false,false⟩,
 some ⟨false,[.fn],[],0,8,false,false⟩,
 some ⟨false,[.fn],[],0,8,false,false⟩,
 some ⟨false,[.sl 5],[],5,24,true,false⟩,
 some ⟨false,[.fn],[],0,8,false,false⟩,
 some ⟨false,[.ptr],[],49,8,false,false⟩,
 some ⟨true,[.str,.int .i64],[(0,1,false),(1,1,false)],0,24,false,true⟩,
 some ⟨true,[.str,.int .i64],[(0,1,false),(1,1,false)],0,24,false,true⟩,
 some ⟨false,[.fn],[],0,8,false,false⟩,
 some ⟨false,[.fn],[],0,8,false,false⟩,
 some ⟨false,[.ptr],[],31,8,false,false⟩,
 some ⟨false,[.fn],[],0,8,false,false⟩,
 some ⟨false,[.fn],[],0,8,false,false⟩,
 some ⟨false,[.fn],[],0,8,false,false⟩,
 none,
 some ⟨false,[.fn],[],0,8,false,false⟩,
 some ⟨false,[.fn],[],0,8,false,false⟩,
 some ⟨false,[.fn],[],0,8,false,false⟩,
 some ⟨false,[.fn],[],0,8,false,false⟩,
 none,
 some ⟨false,[.fn],[],0,8,false,false⟩,
 some ⟨false,[.fn],[],0,8,false,false⟩,
 some ⟨false,[.sl 100],[],100,24,true,false⟩,
 some ⟨false,[.fn],[],0,8,false,false⟩,
 some ⟨false,[.fn],[],0,8,false,false⟩,
 some ⟨false,[.fn],[],0,8,false,false⟩,
 some ⟨false,[.fn],[],0,8,false,false⟩,
 some ⟨false,[.fn],[],0,8,false,false⟩,
 some ⟨false,[.fn],[],0,8,false,false⟩,
 some ⟨false,[.fn],[],0,8,false,false⟩,
 some ⟨false,[.fn],[],0,8,false,false⟩,
 some ⟨false,[.fn],[],0,8,false,false⟩,
 some ⟨false,[.ptr],[],76,8,false,false⟩,
 some ⟨true,[.ptr,.sl 5],[(0,1,false),(1,1,false)],0,32,false,false⟩,
 some ⟨true,[.nos,.sl 5],[(0,1,false),(1,1,false)],0,32,false,false⟩,
 some ⟨false,[.sl 80],[],80,24,true,false⟩,
 some ⟨false,[.fn],[],0,8,false,false⟩,
 some ⟨true,[.str,.str,.bool,.bool],[(0,1,false),(1,1,false),(2,1,false),(3,1,false)],0,40,false,true⟩,
 some ⟨true,[.str,.str,.bool,.bool],[(0,1,false),(1,1,false),(2,1,false),(3,1,false)],0,40,false,true⟩,
 some ⟨false,[.fn],[],0,8,false,false⟩,
 some ⟨false,[.ifc],[],0,16,false,false⟩,
 some ⟨false,[.ifc],[],0,16,false,false⟩,
 none,
 some ⟨false,[.fn],[],0,8,false,false⟩,
 some ⟨false,[.fn],[],0,8,false,false⟩,
 some ⟨false,[.ptr],[],90,8,false,false⟩,
 some ⟨false,[.fn],[],0,8,false,false⟩,
 some ⟨true,[.str,.int .i64],[(0,1,false),(1,1,false)],0,24,false,true⟩,
 some ⟨true,[.str,.int .i64],[(0,1,false),(1,1,false)],0,24,false,true⟩,
 none,
 some ⟨false,[.fn],[],0,8,false,false⟩,
 some ⟨false,[.fn],[],0,8,false,false⟩,
 some ⟨true,[.str,.str],[(0,1,false),(1,1,false)],0,32,false,true⟩,
 some ⟨true,[.str,.str],[(0,1,false),(1,1,false)],0,32,false,true⟩,
 some ⟨false,[.fn],[],0,8,false,false⟩,
 some ⟨false,[.fn],[],0,8,false,false⟩,
 some ⟨false,[.fn],[],0,8,false,false⟩,
 some ⟨true,[.str,.str,.str],[(0,1,false),(1,1,false),(2,1,false)],0,48,false,true⟩,
 some ⟨true,[.str,.str,.str],[(0,1,false),(1,1,false),(2,1,false)],0,48,false,true⟩,
 some ⟨false,[.fn],[],0,8,false,false⟩,
 some ⟨false,[.fn],[],0,8,false,false⟩,
 some ⟨false,[.fn],[],0,8,false,false⟩,
 some ⟨false,[.fn],[],0,8,false,false⟩,
 some ⟨false,[.fn],[],0,8,false,false⟩,
 some ⟨false,[.fn],[],0,8,false,false⟩,
 some ⟨false,[.ptr],[],5,8,false,false⟩,
 some ⟨false,[.mp 9 3],[],0,8,false,false⟩,
 none,
 some ⟨false,[.fn],[],0,8,false,false⟩,
 some ⟨false,[.fn],[],0,8,false,false⟩,
 some ⟨true,(List.replicate 256 (.bool)),[],4,256,false,false⟩,
 some ⟨true,(List.replicate 256 (.bool)),[],4,256,false,false⟩,
 none,
 some ⟨false,[.fn],[],0,8,false,false⟩,
 some ⟨false,[.fn],[],0,8,false,false⟩,
 some ⟨false,[.ptr],[],113,8,false,false⟩,
 none,
 some ⟨false,[.fn],[],0,8,false,false⟩,
 none,
 some ⟨false,[.fn],[],0,8,false,false⟩,
 none,
 some ⟨false,[.fn],[],0,8,false,false⟩,
 some ⟨false,[.fn],[],0,8,false,false⟩,
 some ⟨false,[.int .u64],[],0,8,false,false⟩,
 some ⟨false,[.fn],[],0,8,false,false⟩,
 some ⟨false,[.fn],[],0,8,false,false⟩,
 some ⟨false,[.fn],[],0,8,false,false⟩,
 some ⟨false,[.fn],[],0,8,false,false⟩,
 some ⟨false,[.fn],[],0,8,false,false⟩,
 some ⟨false,[.int .u32],[],0,4,false,false⟩,
 none,
 some ⟨false,[.fn],[],0,8,false,false⟩,
 some ⟨false,[.fn],[],0,8,false,false⟩,
 some ⟨false,[.fn],[],0,8,false,false⟩,
 some ⟨true,[.int .u8,.int .u8,.int .u8,.int .u8,.int .u8,.int .u8,.int .u8,.int .u8,.int .u8,.int .u8,.int .u8,.int .u8,.int .u8,.int .u8,.int .u8,.int .u8,.int .u8,.int .u8,.int .u8,.int .u8,.int .u8,.int .u8,.int .u8,.int .u8],[],5,24,false,false⟩,
 some ⟨false,[.int .u64],[],0,8,false,false⟩,
 some ⟨false,[.fn],[],0,8,false,false⟩,
 some ⟨false,[.fn],[],0,8,false,false⟩,
 none,
 some ⟨false,[.fn],[],0,8,false,false⟩,
 some ⟨true,(List.replicate 256 (.int .u8)),[],5,256,false,false⟩,
 some ⟨true,[.int .u8,.int .u8],[(0,1,false),(1,1,false)],0,2,false,true⟩,
 some ⟨true,[.int .u8,.int .u8],[(0,1,false),(1,1,false)],0,2,false,true⟩,
 some ⟨true,[.int .u8,.int .u8,.int .u8,.int .u8,.int .u8,.int .u8,.int .u8,.int .u8,.int .u8,.int .u8,.int .u8,.int .u8,.int .u8,.int .u8,.int .u8,.int .u8,.int .u8,.int .u8,.int .u8,.int .u8,.int .u8,.int .u8,.int .u8,.int .u8,.int .u8,.int .u8,.int .u8,.int .u8,.int .u8,.int .u8,.int .u8,.int .u8],[],144,32,false,false⟩,
 some ⟨false,[.fn],[],0,8,false,false⟩,
 some ⟨false,[.fn],[],0,8,false,false⟩,
 some ⟨true,[.int .u64,.int .u64,.int .u64,.int .u64,.int .u64,.int .u64,.int .u64,.int .u64,.int .u64,.int .u64,.int .u64,.int .u64,.int .u64,.int .u64,.int .u64,.int .u64,.int .u64,.int .u64,.int .u64,.int .u64],[],137,160,false,false⟩,
 some ⟨true,(List.replicate 65 (.int .u8)),[],5,65,false,false⟩,
 some ⟨false,[.fn],[],0,8,false,false⟩,
 some ⟨false,[.fn],[],0,8,false,false⟩,
 some ⟨false,[.fn],[],0,8,false,false⟩,
 some ⟨true,[.int .u8,.int .u8,.int .u8,.int .u8,.int .u8,.int .u8,.int .u8,.int .u8,.int .u8,.int .u8,.int .u8,.int .u8,.int .u8,.int .u8,.int .u8,.int .u8,.int .u8,.int .u8,.int .u8,.int .u8,.int .u8,.int .u8,.int .u8,.int .u8,.int .u8,.int .u8,.int .u8,.int .u8,.int .u8,.int .u8,.int .u8,.int .u8],[],5,32,false,false⟩,
 some ⟨true,(List.replicate 64 (.int .u8)),[],5,64,false,false⟩,
 some ⟨true,[.ptr,.ptr,.ptr,.str],[(0,1,false),(1,1,false),(2,1,false),(3,1,false)],0,40,false,false⟩,
 some ⟨true,[.ptr,.ptr,.ptr,.str],[(0,1,false),(1,1,false),(2,1,false),(3,1,false)],0,40,false,false⟩,
 none,
 none,
 none,
 some ⟨false,[.fn],[],0,8,false,false⟩,
 some ⟨false,[.int .u8],[],0,1,false,false⟩,
 some ⟨false,[.int .u8],[],0,1,false,false⟩,
 some ⟨false,[.fn],[],0,8,false,false⟩,
 some ⟨false,[.int .i32],[],0,4,false,false⟩,
 some ⟨false,[.int .i32],[],0,4,false,false⟩,
 some ⟨true,[.int .u64,.int .u64,.int .u32,.int .u8,.int .u8,.int .u8,.int .u8,.fn,.ptr,.int .i32,.int .i32],[(0,1,false),(1,1,false),(2,1,false),(3,1,false),(4,1,false),(5,1,false),(6,1,false),(7,1,false),(8,1,false),(9,1,false),(10,1,false)],0,48,false,false⟩,
 some ⟨true,[.int .u64,.int .u64,.int .u32,.int .u8,.int .u8,.int .u8,.int .u8,.fn,.ptr,.int .i32,.int .i32],[(0,1,false),(1,1,false),(2,1,false),(3,1,false),(4,1,false),(5,1,false),(6,1,false),(7,1,false),(8,1,false),(9,1,false),(10,1,false)],0,48,false,false⟩]
set_option maxRecDepth 1000000 in
theorem Fh:gM Tryd.prog 0 bN=true:=by kernel_rfl
theorem cy:Ok Tryd.prog (al bN):=El Fh (by kernel_rfl)
def aL (tab:cb):Prop:=∃ m cs t fz,tab 0=some (.cells cs t fz)/\cs[0]? = some (.int .i64 m)
set_option maxHeartbeats 1000000 in
set_option maxRecDepth 100000 in
theorem AC (b:Nat) (w:World) (h0:w.cell? ⟨b,0,none⟩=some (.pointer (some ⟨b,0,none⟩))) :
  Calls Tryd.prog 57 #[.pointer (some ⟨b,0,none⟩)] w fun e w'=>e = .returned (.tuple #[])/\w'=w:=by
 have hs:(Tryd.prog.info? 76).map (·.size)=some 2:=by kernel_rfl
 obtain ⟨j,hj,hjs⟩:=Option.map_eq_some_iff.1 hs
 go_enter Tryd.func57,Tryd.ntmps57
 go_wp2
 rw [Lib.run_neq_ptr_same w _ Tryd.underlying74 hj]
 go_wp2
 go_end0
 exact ⟨rfl,rfl⟩
set_option maxHeartbeats 1000000 in
set_option maxRecDepth 100000 in
theorem yx (b:Nat) (w:World) (h0:w.cell? ⟨b,0,none⟩=some (.pointer none)) (hsh:w.shape? b=some (76,2)) (hfz:w.frozen? ⟨b,0,none⟩=false) :
  Calls Tryd.prog 57 #[.pointer (some ⟨b,0,none⟩)] w fun e w'=>e = .returned (.tuple #[])/\w'=w.setCell ⟨b,0,none⟩ (.pointer (some ⟨b,0,none⟩)):=by
 have hs:(Tryd.prog.info? 76).map (·.size)=some 2:=by kernel_rfl
 obtain ⟨j,hj,hjs⟩:=Option.map_eq_some_iff.1 hs
 go_enter Tryd.func57,Tryd.ntmps57
 go_wp2
 rw [Lib.run_to_unsafe w ⟨b,0,none⟩ Tryd.underlying74 Tryd.underlying122 hj (by rw [hjs];decide) hsh (Nat.zero_lt_succ 1)]
 simp only [Result.andThen]
 rw [Oper.upon_value]
 go_wp2
 rw [run_callFunc_extern Tryd.func78 (by kernel_rfl) (by kernel_rfl) (by kernel_rfl) (e:=Extern.AbiNoEscape.same) (by kernel_rfl)]
 rw [Lib.run_noEscape]
 simp only [Result.andThen]
 rw [Oper.upon_value]
 go_wp2
 rw [Lib.run_from_unsafe w ⟨b,0,none⟩ Tryd.underlying122 Tryd.underlying74 hj hsh (by kernel_rfl)]
 simp only [Result.andThen]
 rw [Oper.upon_value]
 go_wp2
 go_end0
 exact ⟨rfl,rfl⟩
end Go.Proofs.Ab
namespace Go.Proofs.Ab
open Go Go.Proofs Go.Shelf Go.RowKit
def FG (bS:Nat) (w:World):Nat:=match w.cell? ⟨bS,0,none⟩ with
 | some (.string s)=>s.size
 | _=>0
set_option maxHeartbeats 1000000 in
theorem oB (s sep:ByteArray) (n:Int) (w:World) :
  Calls Tryd.prog 53 #[.string s,.string sep,.int .i64 n] w fun e w'=>e = .returned (.func (.func 76) #[] #[.pointer (some ⟨w.heap.size+1,0,none⟩),.pointer (some ⟨w.heap.size,0,none⟩),.pointer (some ⟨w.heap.size+2,0,none⟩)]) /\
   w'=((w.alloc (.cells #[.string s] 9)).alloc (.cells #[.string sep] 9)).alloc (.cells #[.int .i64 n] 3):=by
 go_enter Tryd.func53,Tryd.ntmps53
 go_wp2
 go_ret
 exact ⟨rfl,rfl⟩
set_option maxHeartbeats 1000000 in
theorem rB (s sep:ByteArray) (w:World) :
  Calls Tryd.prog 30 #[.string s,.string sep] w fun e w'=>e = .returned (.func (.func 76) #[] #[.pointer (some ⟨w.heap.size+1,0,none⟩),.pointer (some ⟨w.heap.size,0,none⟩),.pointer (some ⟨w.heap.size+2,0,none⟩)]) /\
   w'=((w.alloc (.cells #[.string s] 9)).alloc (.cells #[.string sep] 9)).alloc (.cells #[.int .i64 0] 3):=by
 go_enter Tryd.func30,Tryd.ntmps30
 go_wp2_with (go_at_call 53;refine (oB s sep 0 w).mono ?_;rintro e w' ⟨rfl,rfl⟩)
 go_ret
 exact ⟨rfl,rfl⟩
set_option maxHeartbeats 4000000 in
theorem vf {l bP bS bV:Nat} {Good:ByteArray->World->Prop} {Out:World->Prop} (hstep:yg Tryd.prog 39 l bP bS bV ⟨#[46]⟩ Good Out) (rest:ByteArray) (W:World) (h0:Good rest W) :
  CallsIn Fence.wide 5 Tryd.prog 76 #[.func (.yield l) #[] #[],.pointer (some ⟨bP,0,none⟩),.pointer (some ⟨bS,0,none⟩),.pointer (some ⟨bV,0,none⟩)] W fun e W'=>(∃ v,e = .returned v)/\Out W':=by
 refine callsIn_of_wp Tryd.func76 rfl trivial ?_ rfl
 simp only [Tryd.ntmps76,List.size_toArray,List.length_cons,List.length_nil,Nat.reduceAdd,Nat.reduceSub,Array.replicate_succ,Array.replicate_zero,List.push_toArray,List.append_toArray,List.nil_append,List.cons_append]
 obtain ⟨_,⟨c1,c2,c3,c4⟩,_⟩:=hstep rest W h0
 gi_wp2
 gi_loopw [7] (fun _ wr=>∃ rest,Good rest wr) (fun _ wr=>FG bS wr)
 case atStart=>exact ⟨rest,h0⟩
 case round =>
  obtain ⟨rest,hg⟩:=hrel
  obtain ⟨hsz,⟨c1,c2,c3,c4⟩,hcall⟩:=hstep rest wr hg
  gi_wp2_with (refine ⟨trivial,?_⟩;gi_at_call 39;refine (callsIn_wide.2 hcall).mono ?_;rintro e W1 ⟨i,rfl,⟨d1,d2,d3,d4⟩,hor⟩)
  ·rename_i hneg K a
   rcases hor with ⟨_,hy⟩|⟨hpos,_,_⟩
   ·obtain ⟨fn,tmps,assign,body,hy,hR⟩:=hy 4
    rw [hy]
    refine ⟨fun h=>(by cases h),hR.mono ?_⟩
    rintro e W2 ⟨⟨b,rfl⟩,hout⟩
    apply a
    gi_wp2
    go_end0
    exact ⟨⟨_,rfl⟩,hout⟩
   ·omega
  ·rename_i hpos K a
   rcases hor with ⟨hn,_⟩|⟨_,hle,hy⟩
   ·omega
   ·obtain ⟨fn,tmps,assign,body,hy,hR⟩:=hy 4
    rw [hy]
    refine ⟨fun h=>(by cases h),hR.mono ?_⟩
    rintro e W2 (⟨rfl,hout⟩|⟨rfl,⟨q1,q2,q3,q4⟩,hg2⟩)
    ·apply a
     gi_wp2
     refine bodyPost_ret (results_none rfl _ _ _) rfl ?_
     exact ⟨⟨_,rfl⟩,hout⟩
    ·apply a
     gi_wp2
     go_roundw
     case rel =>
      refine ⟨rest.extract (i.toNat+1) rest.size,?_⟩
      have e1:(i+1).toNat=i.toNat+1:=by omega
      simp only [e1]
      exact hg2
     case measure =>
      have e1:(i+1).toNat=i.toNat+1:=by omega
      simp only [e1]
      unfold FG
      rw [World.cell?_setCell_same' _ _ _ (by rw [q1];rfl),c1]
      simp only [ByteArray.size_extract]
      omega
theorem Ey:SpOk Tryd.prog ⟨30,39,aH,⟨#[46]⟩⟩ 76 where
 ge:=enters Tryd.func30 rfl (by kernel_rfl)
 ixe:=enters Tryd.func39 rfl (by kernel_rfl)
 ite:=enters Tryd.func76 rfl (by kernel_rfl)
 split:=fun s sep w=>(rB s sep w).mono fun e w' h=>⟨h.1,9,3,h.2⟩
 iter:=fun l bP bS bV Good Out hs rest W h0=>vf hs rest W h0
end Go.Proofs.Ab
