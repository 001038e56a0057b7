/- The seat's table of types, checked; the copy check of a builder; where a text begins in another (condition: the text has less than 2^32 - 15 bytes). -/
import Derived.Test.YtneffefnlogkaaaGreatDoorAbC
import Derived.Test.YtneffefnlogkaaaGreatDoorProg
import Derived.Shelf.Strings.Search2
import Derived.Shelf.Strings.Builder1
import Derived.RangeFuncNested
import Derived.RangeFuncBound
import Derived.RangeFuncCalls
import Derived.RangeFuncLeaves
import Derived.Shelf.Abstract
import Derived.Shelf.RegionOpen
import Derived.WalkKit
import Derived.OwnWalkIn
import Derived.TacticsInMore
import Derived.LoopNIn
import Derived.LoopIn
set_option linter.unusedVariables false
set_option linter.unusedSimpArgs false
set_option maxRecDepth 4000
namespace Go.Proofs
open Go.Shelf
def Tryz.vZ:Go.Shelf.Ren:=⟨fun|219=>174|217=>164|225=>202|224=>203|267=>204|266=>192|314=>224|n=>n,fun|9=>9|3=>3|4=>4|5=>5|46=>237|146=>247|51=>246|n=>n,fun|1=>0|n=>n⟩
theorem Tryz.E6:Go.Proofs.Lays.n219 Tryz.prog Tryz.vZ:={
  mixed:=by kernel_rfl
  f217:=Tryz.func164.trans (congrArg some (by kernel_rfl))
  f219:=Tryz.func174.trans (congrArg some (by kernel_rfl))
  f224:=Tryz.func203.trans (congrArg some (by kernel_rfl))
  f225:=Tryz.func202.trans (congrArg some (by kernel_rfl))
  f266:=Tryz.func192.trans (congrArg some (by kernel_rfl))
  f267:=Tryz.func204.trans (congrArg some (by kernel_rfl))
  f314:=Tryz.func224.trans (congrArg some (by kernel_rfl))
  t3:=Tryz.underlying3
  a3:=Tryz.isAgg3
  z3:=Tryz.sizeOf3
  v3:=Tryz.zeroValue3
  t4:=Tryz.underlying4
  a4:=Tryz.isAgg4
  z4:=Tryz.sizeOf4
  v4:=Tryz.zeroValue4
  t5:=Tryz.underlying5
  a5:=Tryz.isAgg5
  z5:=Tryz.sizeOf5
  v5:=Tryz.zeroValue5
  t9:=Tryz.underlying9
  a9:=Tryz.isAgg9
  z9:=Tryz.sizeOf9
  v9:=Tryz.zeroValue9
  t46:=Tryz.underlying237
  a46:=Tryz.isAgg237
  z46:=Tryz.sizeOf237
  v46:=Tryz.zeroValue237
  t51:=Tryz.underlying246
  a51:=Tryz.isAgg246
  z51:=Tryz.sizeOf246
  v51:=Tryz.zeroValue246
  t146:=Tryz.underlying247
  a146:=Tryz.isAgg247
  z146:=Tryz.sizeOf247
  v146:=Tryz.zeroValue247
  g1:=by kernel_rfl }

end Go.Proofs
namespace Go.Proofs.Ab
open Go Go.Proofs Go.Shelf Go.RowKit
def br:List (Option TI):=[
 none,
 some ⟨false,[.fn],[],0,8,false,false⟩,
 some ⟨false,[.int .i64],[],0,8,false,false⟩,
 some ⟨false,[.int .i64],[],0,8,false,false⟩,
 some ⟨false,[.bool],[],0,1,false,false⟩,
 some ⟨false,[.int .u8],[],0,1,false,false⟩,
 some ⟨false,[.int .u8],[],0,1,false,false⟩,
 some ⟨true,[.int .i64,.int .i64,.bool,.int .u8],[(0,1,false),(1,1,false),(2,1,false),(3,1,false)],0,24,false,false⟩,
 some ⟨true,[.int .i64,.int .i64,.bool,.int .u8],[(0,1,false),(1,1,false),(2,1,false),(3,1,false)],0,24,false,false⟩,
 some ⟨false,[.str],[],0,16,false,false⟩,
 some ⟨false,[.str],[],0,16,false,false⟩,
 some ⟨false,[.str],[],0,16,false,false⟩,
 some ⟨false,[.int .u64],[],0,8,false,false⟩,
 some ⟨true,[.str,.int .u64],[(0,1,false),(1,1,false)],0,24,false,false⟩,
 some ⟨true,[.str,.int .u64],[(0,1,false),(1,1,false)],0,24,false,false⟩,
 some ⟨false,[.ptr],[],269,8,false,false⟩,
 some ⟨false,[.ptr],[],272,8,false,false⟩,
 some ⟨false,[.ptr],[],280,8,false,false⟩,
 some ⟨true,[.ptr],[(0,1,false)],0,8,false,false⟩,
 some ⟨true,[.ptr],[(0,1,false)],0,8,false,false⟩,
 some ⟨false,[.ifc],[],0,16,false,false⟩,
 some ⟨false,[.int .i32],[],0,4,false,false⟩,
 some ⟨false,[.fn],[],0,8,false,false⟩,
 some ⟨false,[.fn],[],0,8,false,false⟩,
 some ⟨false,[.sl 129],[],129,24,true,false⟩,
 some ⟨true,[.bool,.str],[(0,1,false),(1,1,false)],0,24,false,true⟩,
 some ⟨true,[.bool,.str],[(0,1,false),(1,1,false)],0,24,false,true⟩,
 some ⟨false,[.sl 9],[],9,24,true,false⟩,
 some ⟨true,[.int .i64,.int .i64],[(0,1,false),(1,1,false)],0,16,false,true⟩,
 some ⟨true,[.int .i64,.int .i64],[(0,1,false),(1,1,false)],0,16,false,true⟩,
 some ⟨false,[.sl 32],[],32,24,true,false⟩,
 some ⟨true,[.str,.str,.str,.sl 129,.bool,.str,.bool,.str,.bool,.str,.bool,.str,.sl 129,.sl 9,.bool,.str,.int .i64,.int .i64,.int .i64,.int .i64,.int .i64,.sl 32],[(0,1,false),(1,1,false),(2,1,false),(3,1,false),(4,2,true),(6,2,true),(8,2,true),(10,2,true),(12,1,false),(13,1,false),(14,2,true),(16,2,true),(18,2,true),(20,1,false),(21,1,false)],0,304,false,false⟩,
 some ⟨true,[.str,.str,.str,.sl 129,.bool,.str,.bool,.str,.bool,.str,.bool,.str,.sl 129,.sl 9,.bool,.str,.int .i64,.int .i64,.int .i64,.int .i64,.int .i64,.sl 32],[(0,1,false),(1,1,false),(2,1,false),(3,1,false),(4,2,true),(6,2,true),(8,2,true),(10,2,true),(12,1,false),(13,1,false),(14,2,true),(16,2,true),(18,2,true),(20,1,false),(21,1,false)],0,304,false,false⟩,
 some ⟨false,[.fn],[],0,8,false,false⟩,
 some ⟨false,[.fn],[],0,8,false,false⟩,
 some ⟨false,[.fn],[],0,8,false,false⟩,
 some ⟨false,[.sl 29],[],29,24,true,false⟩,
 some ⟨false,[.fn],[],0,8,false,false⟩,
 some ⟨false,[.fn],[],0,8,false,false⟩,
 some ⟨false,[.fn],[],0,8,false,false⟩,
 some ⟨false,[.fn],[],0,8,false,false⟩,
 some ⟨false,[.fn],[],0,8,false,false⟩,
 some ⟨false,[.fn],[],0,8,false,false⟩,
 some ⟨false,[.fn],[],0,8,false,false⟩,
 some ⟨false,[.fn],[],0,8,false,false⟩,
 none,
 some ⟨false,[.fn],[],0,8,false,false⟩,
 some ⟨true,[.str,.int .i64,.sl 9],[(0,1,false),(1,1,false),(2,1,false)],0,48,false,false⟩,
 some ⟨true,[.str,.int .i64,.sl 9],[(0,1,false),(1,1,false),(2,1,false)],0,48,false,false⟩,
 none,
 some ⟨false,[.fn],[],0,8,false,false⟩,
 some ⟨false,[.fn],[],0,8,false,false⟩,
 some ⟨false,[.fn],[],0,8,false,false⟩,
 some ⟨false,[.fn],[],0,8,false,false⟩,
 some ⟨false,[.fn],[],0,8,false,false⟩,
 some ⟨false,[.fn],[],0,8,false,false⟩,
 some ⟨false,[.sl 76],[],76,24,true,false⟩,
 some ⟨true,[.bool,.str,.bool,.str,.sl 76,.sl 76,.sl 76,.sl 76,.sl 76,.sl 76,.bool,.str,.bool,.str],[(0,2,true),(2,2,true),(4,1,false),(5,1,false),(6,1,false),(7,1,false),(8,1,false),(9,1,false),(10,2,true),(12,2,true)],0,240,false,false⟩,
 some ⟨true,[.bool,.str,.bool,.str,.sl 76,.sl 76,.sl 76,.sl 76,.sl 76,.sl 76,.bool,.str,.bool,.str],[(0,2,true),(2,2,true),(4,1,false),(5,1,false),(6,1,false),(7,1,false),(8,1,false),(9,1,false),(10,2,true),(12,2,true)],0,240,false,false⟩,
 some ⟨false,[.fn],[],0,8,false,false⟩,
 some ⟨false,[.ptr],[],67,8,false,false⟩,
 some ⟨false,[.sl 30],[],30,24,true,false⟩,
 some ⟨false,[.sl 24],[],24,24,true,false⟩,
 some ⟨false,[.sl 27],[],27,24,true,false⟩,
 some ⟨false,[.sl 68],[],68,24,true,false⟩,
 some ⟨false,[.sl 36],[],36,24,true,false⟩,
 some ⟨true,[.sl 30,.sl 30,.sl 24,.sl 24,.sl 27,.sl 27,.sl 68,.sl 68,.sl 36,.sl 36],[(0,1,false),(1,1,false),(2,1,false),(3,1,false),(4,1,false),(5,1,false),(6,1,false),(7,1,false),(8,1,false),(9,1,false)],0,240,false,false⟩,
 some ⟨true,[.sl 30,.sl 30,.sl 24,.sl 24,.sl 27,.sl 27,.sl 68,.sl 68,.sl 36,.sl 36],[(0,1,false),(1,1,false),(2,1,false),(3,1,false),(4,1,false),(5,1,false),(6,1,false),(7,1,false),(8,1,false),(9,1,false)],0,240,false,false⟩,
 some ⟨false,[.sl 70],[],70,24,true,false⟩,
 some ⟨true,[.int .i64,.int .i64,.str,.sl 70],[(0,1,false),(1,1,false),(2,1,false),(3,1,false)],0,56,false,false⟩,
 some ⟨true,[.int .i64,.int .i64,.str,.sl 70],[(0,1,false),(1,1,false),(2,1,false),(3,1,false)],0,56,false,false⟩,
 some ⟨false,[.fn],[],0,8,false,false⟩,
 some ⟨false,[.fn],[],0,8,false,false⟩,
 some ⟨false,[.fn],[],0,8,false,false⟩,
 some ⟨false,[.fn],[],0,8,false,false⟩,
 some ⟨true,[.bool,.str,.bool,.str,.bool,.str,.bool,.str],[(0,2,true),(2,2,true),(4,2,true),(6,2,true)],0,96,false,true⟩,
 some ⟨true,[.bool,.str,.bool,.str,.bool,.str,.bool,.str],[(0,2,true),(2,2,true),(4,2,true),(6,2,true)],0,96,false,true⟩,
 some ⟨false,[.fn],[],0,8,false,false⟩,
 some ⟨false,[.fn],[],0,8,false,false⟩,
 some ⟨false,[.fn],[],0,8,false,false⟩,
 some ⟨false,[.sl 82],[],82,24,true,false⟩,
 some ⟨true,[.sl 32,.sl 32,.sl 70,.sl 70,.sl 29,.sl 29],[(0,1,false),(1,1,false),(2,1,false),(3,1,false),(4,1,false),(5,1,false)],0,144,false,false⟩,
 some ⟨true,[.sl 32,.sl 32,.sl 70,.sl 70,.sl 29,.sl 29],[(0,1,false),(1,1,false),(2,1,false),(3,1,false),(4,1,false),(5,1,false)],0,144,false,false⟩,
 some ⟨false,[.fn],[],0,8,false,false⟩,
 some ⟨false,[.fn],[],0,8,false,false⟩,
 some ⟨false,[.fn],[],0,8,false,false⟩,
 some ⟨false,[.fn],[],0,8,false,false⟩,
 some ⟨false,[.fn],[],0,8,false,false⟩,
 some ⟨false,[.fn],[],0,8,false,false⟩,
 some ⟨false,[.fn],[],0,8,false,false⟩,
 some ⟨false,[.fn],[],0,8,false,false⟩,
 some ⟨false,[.fn],[],0,8,false,false⟩,
 some ⟨false,[.ptr],[],94,8,false,false⟩,
 some ⟨true,[.str,.int .i64],[(0,1,false),(1,1,false)],0,24,false,true⟩,
 some ⟨true,[.str,.int .i64],[(0,1,false),(1,1,false)],0,24,false,true⟩,
 some ⟨false,[.fn],[],0,8,false,false⟩,
 some ⟨false,[.fn],[],0,8,false,false⟩,
 some ⟨false,[.ptr],[],32,8,false,false⟩,
 none,
 some ⟨false,[.fn],[],0,8,false,false⟩,
 some ⟨false,[.fn],[],0,8,false,false⟩,
 some ⟨false,[.fn],[],0,8,false,false⟩,
 some ⟨false,[.fn],[],0,8,false,false⟩,
 some ⟨false,[.fn],[],0,8,false,false⟩,
 some ⟨false,[.fn],[],0,8,false,false⟩,
 some ⟨false,[.sl 3],[],3,24,true,false⟩,
 none,
 some ⟨false,[.fn],[],0,8,false,false⟩,
 some ⟨false,[.fn],[],0,8,false,false⟩,
 some ⟨false,[.fn],[],0,8,false,false⟩,
 some ⟨false,[.fn],[],0,8,false,false⟩,
 some ⟨false,[.fn],[],0,8,false,false⟩,
 some ⟨false,[.fn],[],0,8,false,false⟩,
 some ⟨false,[.fn],[],0,8,false,false⟩,
 some ⟨false,[.fn],[],0,8,false,false⟩,
 some ⟨true,[.sl 76,.sl 76,.sl 76,.sl 76,.sl 76,.sl 76],[],56,144,false,false⟩,
 some ⟨false,[.fn],[],0,8,false,false⟩,
 some ⟨false,[.fn],[],0,8,false,false⟩,
 some ⟨false,[.fn],[],0,8,false,false⟩,
 some ⟨false,[.fn],[],0,8,false,false⟩,
 some ⟨false,[.fn],[],0,8,false,false⟩,
 some ⟨false,[.fn],[],0,8,false,false⟩,
 some ⟨false,[.sl 168],[],168,24,true,false⟩,
 some ⟨false,[.fn],[],0,8,false,false⟩,
 some ⟨false,[.fn],[],0,8,false,false⟩,
 some ⟨false,[.fn],[],0,8,false,false⟩,
 some ⟨false,[.fn],[],0,8,false,false⟩,
 some ⟨false,[.fn],[],0,8,false,false⟩,
 some ⟨true,[.str,.str],[(0,1,false),(1,1,false)],0,32,false,true⟩,
 some ⟨true,[.str,.str],[(0,1,false),(1,1,false)],0,32,false,true⟩,
 some ⟨false,[.fn],[],0,8,false,false⟩,
 none,
 some ⟨false,[.fn],[],0,8,false,false⟩,
 some ⟨false,[.fn],[],0,8,false,false⟩,
 some ⟨false,[.fn],[],0,8,false,false⟩,
 some ⟨false,[.fn],[],0,8,false,false⟩,
 some ⟨false,[.fn],[],0,8,false,false⟩,
 some ⟨false,[.fn],[],0,8,false,false⟩,
 some ⟨false,[.fn],[],0,8,false,false⟩,
 none,
 some ⟨false,[.fn],[],0,8,false,false⟩,
 some ⟨false,[.fn],[],0,8,false,false⟩,
 some ⟨false,[.fn],[],0,8,false,false⟩,
 none,
 some ⟨false,[.fn],[],0,8,false,false⟩,
 some ⟨false,[.fn],[],0,8,false,false⟩,
 some ⟨false,[.fn],[],0,8,false,false⟩,
 some ⟨false,[.fn],[],0,8,false,false⟩,
 some ⟨false,[.fn],[],0,8,false,false⟩,
 some ⟨false,[.fn],[],0,8,false,false⟩,
 some ⟨false,[.fn],[],0,8,false,false⟩,
 some ⟨false,[.fn],[],0,8,false,false⟩,
 some ⟨false,[.fn],[],0,8,false,false⟩,
 some ⟨false,[.fn],[],0,8,false,false⟩,
 some ⟨false,[.ptr],[],157,8,false,false⟩,
 some ⟨false,[.sl 5],[],5,24,true,false⟩,
 some ⟨true,[.ptr,.sl 5],[(0,1,false),(1,1,false)],0,32,false,false⟩,
 some ⟨true,[.nos,.sl 5],[(0,1,false),(1,1,false)],0,32,false,false⟩,
 some ⟨false,[.sl 161],[],161,24,true,false⟩,
 some ⟨false,[.fn],[],0,8,false,false⟩,
 some ⟨true,[.str,.str,.bool,.bool],[(0,1,false),(1,1,false),(2,1,false),(3,1,false)],0,40,false,true⟩,
 some ⟨true,[.str,.str,.bool,.bool],[(0,1,false),(1,1,false),(2,1,false),(3,1,false)],0,40,false,true⟩,
 some ⟨false,[.ifc],[],0,16,false,false⟩,
 some ⟨false,[.ifc],[],0,16,false,false⟩,
 none,
 some ⟨false,[.fn],[],0,8,false,false⟩,
 some ⟨false,[.fn],[],0,8,false,false⟩,
 some ⟨true,[.str,.str,.str],[(0,1,false),(1,1,false),(2,1,false)],0,48,false,true⟩,
 some ⟨true,[.str,.str,.str],[(0,1,false),(1,1,false),(2,1,false)],0,48,false,true⟩,
 some ⟨false,[.fn],[],0,8,false,false⟩,
 some ⟨false,[.fn],[],0,8,false,false⟩,
 some ⟨false,[.fn],[],0,8,false,false⟩,
 some ⟨false,[.fn],[],0,8,false,false⟩,
 some ⟨false,[.fn],[],0,8,false,false⟩,
 some ⟨false,[.fn],[],0,8,false,false⟩,
 some ⟨false,[.ptr],[],177,8,false,false⟩,
 some ⟨true,[.str,.int .i64],[(0,1,false),(1,1,false)],0,24,false,true⟩,
 some ⟨true,[.str,.int .i64],[(0,1,false),(1,1,false)],0,24,false,true⟩,
 none,
 some ⟨false,[.fn],[],0,8,false,false⟩,
 some ⟨false,[.fn],[],0,8,false,false⟩,
 some ⟨false,[.fn],[],0,8,false,false⟩,
 some ⟨false,[.fn],[],0,8,false,false⟩,
 some ⟨false,[.fn],[],0,8,false,false⟩,
 some ⟨false,[.fn],[],0,8,false,false⟩,
 some ⟨false,[.fn],[],0,8,false,false⟩,
 some ⟨false,[.fn],[],0,8,false,false⟩,
 some ⟨false,[.fn],[],0,8,false,false⟩,
 none,
 some ⟨false,[.fn],[],0,8,false,false⟩,
 some ⟨false,[.fn],[],0,8,false,false⟩,
 some ⟨false,[.fn],[],0,8,false,false⟩,
 some ⟨false,[.fn],[],0,8,false,false⟩,
 some ⟨false,[.ptr],[],5,8,false,false⟩,
 none,
 some ⟨false,[.fn],[],0,8,false,false⟩,
 some ⟨false,[.sl 200],[],200,24,true,false⟩,
 some ⟨false,[.fn],[],0,8,false,false⟩,
 some ⟨false,[.fn],[],0,8,false,false⟩,
 some ⟨true,[.int .i64,.str],[(0,1,false),(1,1,false)],0,24,false,true⟩,
 some ⟨true,[.int .i64,.str],[(0,1,false),(1,1,false)],0,24,false,true⟩,
 some ⟨false,[.fn],[],0,8,false,false⟩,
 some ⟨false,[.fn],[],0,8,false,false⟩,
 some ⟨false,[.fn],[],0,8,false,false⟩,
 some ⟨false,[.fn],[],0,8,false,false⟩,
 some ⟨false,[.fn],[],0,8,false,false⟩,
 some ⟨true,(List.replicate 256 (.bool)),[],4,256,false,false⟩,
 some ⟨true,(List.replicate 256 (.bool)),[],4,256,false,false⟩,
 none,
 some ⟨false,[.fn],[],0,8,false,false⟩,
 some ⟨false,[.fn],[],0,8,false,false⟩,
 some ⟨false,[.ptr],[],207,8,false,false⟩,
 some ⟨false,[.mp 9 3],[],0,8,false,false⟩,
 none,
 some ⟨false,[.fn],[],0,8,false,false⟩,
 none,
 some ⟨false,[.fn],[],0,8,false,false⟩,
 some ⟨false,[.fn],[],0,8,false,false⟩,
 none,
 some ⟨false,[.fn],[],0,8,false,false⟩,
 none,
 some ⟨false,[.fn],[],0,8,false,false⟩,
 some ⟨false,[.ptr],[],224,8,false,false⟩,
 some ⟨true,[.str,.int .i64],[(0,1,false),(1,1,false)],0,24,false,true⟩,
 some ⟨true,[.str,.int .i64],[(0,1,false),(1,1,false)],0,24,false,true⟩,
 some ⟨false,[.fn],[],0,8,false,false⟩,
 some ⟨false,[.fn],[],0,8,false,false⟩,
 some ⟨false,[.fn],[],0,8,false,false⟩,
 some ⟨false,[.fn],[],0,8,false,false⟩,
 some ⟨false,[.sl 233],[],233,24,true,false⟩,
 some ⟨false,[.fn],[],0,8,false,false⟩,
 some ⟨false,[.fn],[],0,8,false,false⟩,
 some ⟨true,[.int .u8,.str],[(0,1,false),(1,1,false)],0,24,false,true⟩,
 some ⟨true,[.int .u8,.str],[(0,1,false),(1,1,false)],0,24,false,true⟩,
 some ⟨false,[.fn],[],0,8,false,false⟩,
 some ⟨false,[.fn],[],0,8,false,false⟩,
 some ⟨false,[.fn],[],0,8,false,false⟩,
 some ⟨false,[.int .u64],[],0,8,false,false⟩,
 some ⟨false,[.fn],[],0,8,false,false⟩,
 some ⟨false,[.fn],[],0,8,false,false⟩,
 some ⟨false,[.fn],[],0,8,false,false⟩,
 some ⟨false,[.fn],[],0,8,false,false⟩,
 some ⟨false,[.fn],[],0,8,false,false⟩,
 none,
 some ⟨false,[.fn],[],0,8,false,false⟩,
 some ⟨false,[.fn],[],0,8,false,false⟩,
 some ⟨false,[.int .u32],[],0,4,false,false⟩,
 none,
 some ⟨false,[.fn],[],0,8,false,false⟩,
 some ⟨true,[.int .u8,.int .u8,.int .u8,.int .u8,.int .u8,.int .u8,.int .u8,.int .u8,.int .u8,.int .u8,.int .u8,.int .u8,.int .u8,.int .u8,.int .u8,.int .u8,.int .u8,.int .u8,.int .u8,.int .u8,.int .u8,.int .u8,.int .u8,.int .u8],[],5,24,false,false⟩,
 some ⟨false,[.int .u64],[],0,8,false,false⟩,
 some ⟨false,[.fn],[],0,8,false,false⟩,
 some ⟨false,[.fn],[],0,8,false,false⟩,
 none,
 some ⟨false,[.fn],[],0,8,false,false⟩,
 some ⟨true,(List.replicate 256 (.int .u8)),[],5,256,false,false⟩,
 some ⟨true,[.int .u8,.int .u8],[(0,1,false),(1,1,false)],0,2,false,true⟩,
 some ⟨true,[.int .u8,.int .u8],[(0,1,false),(1,1,false)],0,2,false,true⟩,
 some ⟨true,[.int .u8,.int .u8,.int .u8,.int .u8,.int .u8,.int .u8,.int .u8,.int .u8,.int .u8,.int .u8,.int .u8,.int .u8,.int .u8,.int .u8,.int .u8,.int .u8,.int .u8,.int .u8,.int .u8,.int .u8,.int .u8,.int .u8,.int .u8,.int .u8,.int .u8,.int .u8,.int .u8,.int .u8,.int .u8,.int .u8,.int .u8,.int .u8],[],257,32,false,false⟩,
 some ⟨false,[.fn],[],0,8,false,false⟩,
 some ⟨false,[.fn],[],0,8,false,false⟩,
 some ⟨true,[.int .u64,.int .u64,.int .u64,.int .u64,.int .u64,.int .u64,.int .u64,.int .u64,.int .u64,.int .u64,.int .u64,.int .u64,.int .u64,.int .u64,.int .u64,.int .u64,.int .u64,.int .u64,.int .u64,.int .u64],[],250,160,false,false⟩,
 some ⟨true,(List.replicate 65 (.int .u8)),[],5,65,false,false⟩,
 some ⟨false,[.fn],[],0,8,false,false⟩,
 some ⟨false,[.fn],[],0,8,false,false⟩,
 some ⟨false,[.fn],[],0,8,false,false⟩,
 some ⟨true,[.int .u8,.int .u8,.int .u8,.int .u8,.int .u8,.int .u8,.int .u8,.int .u8,.int .u8,.int .u8,.int .u8,.int .u8,.int .u8,.int .u8,.int .u8,.int .u8,.int .u8,.int .u8,.int .u8,.int .u8,.int .u8,.int .u8,.int .u8,.int .u8,.int .u8,.int .u8,.int .u8,.int .u8,.int .u8,.int .u8,.int .u8,.int .u8],[],5,32,false,false⟩,
 some ⟨true,(List.replicate 64 (.int .u8)),[],5,64,false,false⟩,
 some ⟨true,[.ptr,.ptr,.ptr,.str],[(0,1,false),(1,1,false),(2,1,false),(3,1,false)],0,40,false,false⟩,
 some ⟨true,[.ptr,.ptr,.ptr,.str],[(0,1,false),(1,1,false),(2,1,false),(3,1,false)],0,40,false,false⟩,
 none,
 none,
 none,
 some ⟨false,[.fn],[],0,8,false,false⟩,
 some ⟨false,[.int .u8],[],0,1,false,false⟩,
 some ⟨false,[.int .u8],[],0,1,false,false⟩,
 some ⟨false,[.fn],[],0,8,false,false⟩,
 some ⟨false,[.int .i32],[],0,4,false,false⟩,
 some ⟨false,[.int .i32],[],0,4,false,false⟩,
 some ⟨true,[.int .u64,.int .u64,.int .u32,.int .u8,.int .u8,.int .u8,.int .u8,.fn,.ptr,.int .i32,.int .i32],[(0,1,false),(1,1,false),(2,1,false),(3,1,false),(4,1,false),(5,1,false),(6,1,false),(7,1,false),(8,1,false),(9,1,false),(10,1,false)],0,48,false,false⟩,
 some ⟨true,[.int .u64,.int .u64,.int .u32,.int .u8,.int .u8,.int .u8,.int .u8,.fn,.ptr,.int .i32,.int .i32],[(0,1,false),(1,1,false),(2,1,false),(3,1,false),(4,1,false),(5,1,false),(6,1,false),(7,1,false),(8,1,false),(9,1,false),(10,1,false)],0,48,false,false⟩]
set_option maxRecDepth 1000000 in
theorem Jc:jv Tryz.prog 0 br=true:=by kernel_rfl
theorem cE:Ok Tryz.prog (ag br):=H4 Jc (by kernel_rfl)
def ay (tab:cg):Prop:=∃ m cs t f,tab 0=some (.cells cs t f)/\cs[0]? = some (.int .i64 m)
set_option maxHeartbeats 1000000 in
set_option maxRecDepth 100000 in
theorem Ex (b:Nat) (w:World) (z:w.cell? ⟨b,0,none⟩=some (.pointer (some ⟨b,0,none⟩))) :
  Calls Tryz.prog 152 #[.pointer (some ⟨b,0,none⟩)] w fun e w'=>e = .returned (.tuple #[])/\w'=w:=by
 have f:(Tryz.prog.info? 157).map (·.size)=some 2:=by kernel_rfl
 obtain ⟨j,m,u⟩:=Option.map_eq_some_iff.1 f
 go_enter Tryz.func152,Tryz.ntmps152
 go_wp2
 rw [Lib.run_neq_ptr_same w _ Tryz.underlying154 m]
 go_wp2
 go_end0
 exact ⟨rfl,rfl⟩
set_option maxHeartbeats 1000000 in
set_option maxRecDepth 100000 in
theorem Cg (b:Nat) (w:World) (M:w.cell? ⟨b,0,none⟩=some (.pointer none)) (f:w.shape? b=some (157,2)) (z:w.frozen? ⟨b,0,none⟩=false) :
  Calls Tryz.prog 152 #[.pointer (some ⟨b,0,none⟩)] w fun e w'=>e = .returned (.tuple #[])/\w'=w.setCell ⟨b,0,none⟩ (.pointer (some ⟨b,0,none⟩)):=by
 have A:(Tryz.prog.info? 157).map (·.size)=some 2:=by kernel_rfl
 obtain ⟨j,u,m⟩:=Option.map_eq_some_iff.1 A
 go_enter Tryz.func152,Tryz.ntmps152
 go_wp2
 rw [Lib.run_to_unsafe w ⟨b,0,none⟩ Tryz.underlying154 Tryz.underlying220 u (by rw [m];decide) f (Nat.zero_lt_succ 1)]
 simp only [Result.andThen]
 rw [Oper.upon_value]
 go_wp2
 rw [run_callFunc_extern Tryz.func186 (by kernel_rfl) (by kernel_rfl) (by kernel_rfl) (e:=Extern.AbiNoEscape.same) (by kernel_rfl)]
 rw [Lib.run_noEscape]
 simp only [Result.andThen]
 rw [Oper.upon_value]
 go_wp2
 rw [Lib.run_from_unsafe w ⟨b,0,none⟩ Tryz.underlying220 Tryz.underlying154 u f (by kernel_rfl)]
 simp only [Result.andThen]
 rw [Oper.upon_value]
 go_wp2
 go_end0
 exact ⟨rfl,rfl⟩
end Go.Proofs.Ab
namespace Go.Proofs.Ab
open Go Go.Proofs Go.Shelf Go.RowKit
def Ju (bS:Nat) (w:World):Nat:=match w.cell? ⟨bS,0,none⟩ with
 | some (.string s)=>s.size
 | _=>0
set_option maxHeartbeats 1000000 in
theorem qU (s sep:ByteArray) (n:Int) (w:World) :
  Calls Tryz.prog 148 #[.string s,.string sep,.int .i64 n] w fun e w'=>e = .returned (.func (.func 184) #[] #[.pointer (some ⟨w.heap.size+1,0,none⟩),.pointer (some ⟨w.heap.size,0,none⟩),.pointer (some ⟨w.heap.size+2,0,none⟩)]) /\
   w'=((w.alloc (.cells #[.string s] 9)).alloc (.cells #[.string sep] 9)).alloc (.cells #[.int .i64 n] 3):=by
 go_enter Tryz.func148,Tryz.ntmps148
 go_wp2
 go_ret
 exact ⟨rfl,rfl⟩
set_option maxHeartbeats 1000000 in
theorem uR (s sep:ByteArray) (w:World) :
  Calls Tryz.prog 107 #[.string s,.string sep] w fun e w'=>e = .returned (.func (.func 184) #[] #[.pointer (some ⟨w.heap.size+1,0,none⟩),.pointer (some ⟨w.heap.size,0,none⟩),.pointer (some ⟨w.heap.size+2,0,none⟩)]) /\
   w'=((w.alloc (.cells #[.string s] 9)).alloc (.cells #[.string sep] 9)).alloc (.cells #[.int .i64 0] 3):=by
 go_enter Tryz.func107,Tryz.ntmps107
 go_wp2_with (go_at_call 148;refine (qU s sep 0 w).mono ?_;rintro e w' ⟨rfl,rfl⟩)
 go_ret
 exact ⟨rfl,rfl⟩
set_option maxHeartbeats 4000000 in
theorem yO {l bP bS bV:Nat} {Good:ByteArray->World->Prop} {Out:World->Prop} (f:BZ Tryz.prog 128 l bP bS bV ⟨#[46]⟩ Good Out) (rest:ByteArray) (W:World) (O:Good rest W) :
  CallsIn Fence.wide 5 Tryz.prog 184 #[.func (.yield l) #[] #[],.pointer (some ⟨bP,0,none⟩),.pointer (some ⟨bS,0,none⟩),.pointer (some ⟨bV,0,none⟩)] W fun e V=>(∃ v,e = .returned v)/\Out V:=by
 refine callsIn_of_wp Tryz.func184 rfl trivial ?_ rfl
 simp only [Tryz.ntmps184,List.size_toArray,List.length_cons,List.length_nil,Nat.reduceAdd,Nat.reduceSub,Array.replicate_succ,Array.replicate_zero,List.push_toArray,List.append_toArray,List.nil_append,List.cons_append]
 obtain ⟨_,⟨c1,c2,c3,c4⟩,_⟩:=f rest W O
 gi_wp2
 gi_loopw [7] (fun _ wr=>∃ rest,Good rest wr) (fun _ wr=>Ju bS wr)
 case atStart=>exact ⟨rest,O⟩
 case round =>
  obtain ⟨rest,X⟩:=hrel
  obtain ⟨Y,⟨c1,c2,c3,c4⟩,m⟩:=f rest wr X
  gi_wp2_with (refine ⟨trivial,?_⟩;gi_at_call 128;refine (callsIn_wide.2 m).mono ?_;rintro e W1 ⟨i,rfl,⟨d1,d2,d3,d4⟩,u⟩)
  ·rename_i U K a
   rcases u with ⟨_,hy⟩|⟨z,_,_⟩
   ·obtain ⟨fn,tmps,assign,body,hy,A⟩:=hy 4
    rw [hy]
    refine ⟨fun h=>(by cases h),A.mono ?_⟩
    rintro e W2 ⟨⟨b,rfl⟩,j⟩
    apply a
    gi_wp2
    go_end0
    exact ⟨⟨_,rfl⟩,j⟩
   ·omega
  ·rename_i z K a
   rcases u with ⟨hn,_⟩|⟨_,hle,hy⟩
   ·omega
   ·obtain ⟨fn,tmps,assign,body,hy,A⟩:=hy 4
    rw [hy]
    refine ⟨fun h=>(by cases h),A.mono ?_⟩
    rintro e W2 (⟨rfl,j⟩|⟨rfl,⟨q1,q2,q3,q4⟩,M⟩)
    ·apply a
     gi_wp2
     refine bodyPost_ret (results_none rfl _ _ _) rfl ?_
     exact ⟨⟨_,rfl⟩,j⟩
    ·apply a
     gi_wp2
     go_roundw
     case rel =>
      refine ⟨rest.extract (i.toNat+1) rest.size,?_⟩
      have N:(i+1).toNat=i.toNat+1:=by omega
      simp only [N]
      exact M
     case measure =>
      have N:(i+1).toNat=i.toNat+1:=by omega
      simp only [N]
      unfold Ju
      rw [World.cell?_setCell_same' _ _ _ (by rw [q1];rfl),c1]
      simp only [ByteArray.size_extract]
      omega
theorem Ih:SpOk Tryz.prog ⟨107,128,ah,⟨#[46]⟩⟩ 184 where
 ge:=enters Tryz.func107 rfl (by kernel_rfl)
 ixe:=enters Tryz.func128 rfl (by kernel_rfl)
 ite:=enters Tryz.func184 rfl (by kernel_rfl)
 split:=fun s sep w=>(uR s sep w).mono fun e w' h=>⟨h.1,9,3,h.2⟩
 iter:=fun l bP bS bV Good Out f rest W j=>yO f rest W j
end Go.Proofs.Ab
