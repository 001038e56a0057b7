/- What each function computes, as a plain Lean function, printed by a program of ours (definitions alone). -/
import Derived.Test.YtneffefnlogkaaaGreatDoorAbC
set_option linter.unusedVariables false
set_option linter.unusedSimpArgs false
set_option maxRecDepth 4000
namespace Go.Proofs.Ab
open Go
abbrev BA := ByteArray
abbrev LA := List AV
abbrev sl_HasPrefix.F (R : Type) : Type := BA -> BA -> (Bool -> Option R) -> Option R
namespace sl_HasPrefix
def e {R : Type} (a0 : BA) (a1 : BA) (κ0 : Bool -> Option R) : Option R :=
 (bif (decide ((a0.size : Int) >= (a1.size : Int))) then (chk ((decide ((0 : Int) <= (a1.size : Int))) && (decide ((a1.size : Int) <= (a0.size : Int)))) (κ0 (decide ((a0.extract ((0 : Int)).toNat ((a1.size : Int)).toNat) = a1)))) else (κ0 false))
end sl_HasPrefix
def sl_HasPrefix {R : Type} : sl_HasPrefix.F R := fun a0 a1 κ0 => sl_HasPrefix.e a0 a1 κ0
abbrev st_HasPrefix.F (R : Type) : Type := BA -> BA -> (Bool -> Option R) -> Option R
namespace st_HasPrefix
def e {R : Type} (c1 : sl_HasPrefix.F R) (a0 : BA) (a1 : BA) (κ0 : Bool -> Option R) : Option R :=
 (c1 a0 a1 (fun r1 => (κ0 r1)))
end st_HasPrefix
def st_HasPrefix {R : Type} : st_HasPrefix.F R := fun a0 a1 κ0 => st_HasPrefix.e sl_HasPrefix a0 a1 κ0
abbrev by_IndexByteString.F (R : Type) : Type := BA -> Int -> (Int -> Option R) -> Option R
def by_IndexByteString {R : Type} (a0 : BA) (a1 : Int) (κ0 : Int -> Option R) : Option R := κ0 (Lib.indexByte a0.data.toList a1.toNat.toUInt8)
abbrev sl_IndexByte.F (R : Type) : Type := BA -> Int -> (Int -> Option R) -> Option R
namespace sl_IndexByte
def e {R : Type} (c1 : by_IndexByteString.F R) (a0 : BA) (a1 : Int) (κ0 : Int -> Option R) : Option R :=
 (c1 a0 a1 (fun r3 => (κ0 r3)))
end sl_IndexByte
def sl_IndexByte {R : Type} : sl_IndexByte.F R := fun a0 a1 κ0 => sl_IndexByte.e by_IndexByteString a0 a1 κ0
abbrev sl_Index.F (R : Type) : Type := BA -> BA -> (Int -> Option R) -> Option R
def sl_Index {R : Type} (a0 a1 : BA) (κ0 : Int -> Option R) : Option R := chk (decide (a0.size < 4294967281 ∨ a1 = ⟨#[46]⟩)) (κ0 (Lib.index a0.data.toList a1.data.toList))
abbrev st_Index.F (R : Type) : Type := BA -> BA -> (Int -> Option R) -> Option R
namespace st_Index
def e {R : Type} (c1 : sl_Index.F R) (a0 : BA) (a1 : BA) (κ0 : Int -> Option R) : Option R :=
 (c1 a0 a1 (fun r4 => (κ0 r4)))
end st_Index
def st_Index {R : Type} : st_Index.F R := fun a0 a1 κ0 => st_Index.e sl_Index a0 a1 κ0
abbrev le_Split.F (R : Type) : Type := BA -> (BA -> BA -> Option R) -> Option R
namespace le_Split
def e {R : Type} (c1 : st_HasPrefix.F R) (c2 : st_Index.F R) (a0 : BA) (κ0 : BA -> BA -> Option R) : Option R :=
 (c1 a0 (⟨#[13, 10]⟩ : BA) (fun r2 => (bif r2 then (chk (decide ((2 : Int) <= (a0.size : Int))) (chk ((decide ((2 : Int) <= (a0.size : Int))) && (decide ((a0.size : Int) <= (a0.size : Int)))) (κ0 (a0.extract ((0 : Int)).toNat ((2 : Int)).toNat) (a0.extract ((2 : Int)).toNat ((a0.size : Int)).toNat)))) else (c2 a0 (⟨#[13, 10, 13, 10]⟩ : BA) (fun r5 => (bif (decide (r5 >= (0 : Int))) then (chk ((decide ((0 : Int) <= (IntKind.wrap .i64 (r5 + 4)))) && (decide ((IntKind.wrap .i64 (r5 + 4)) <= (a0.size : Int)))) (chk ((decide ((0 : Int) <= (IntKind.wrap .i64 (r5 + 4)))) && ((decide ((IntKind.wrap .i64 (r5 + 4)) <= (a0.size : Int))) && (decide ((a0.size : Int) <= (a0.size : Int))))) (κ0 (a0.extract ((0 : Int)).toNat ((IntKind.wrap .i64 (r5 + 4))).toNat) (a0.extract ((IntKind.wrap .i64 (r5 + 4))).toNat ((a0.size : Int)).toNat)))) else (κ0 a0 (⟨#[]⟩ : BA))))))))
end le_Split
def le_Split {R : Type} : le_Split.F R := fun a0 κ0 => le_Split.e st_HasPrefix st_Index a0 κ0
abbrev le_isBlank.F (R : Type) : Type := Int -> (Bool -> Option R) -> Option R
namespace le_isBlank
def e {R : Type} (a0 : Int) (κ0 : Bool -> Option R) : Option R :=
 (bif (a0 == 32) then (κ0 true) else (κ0 (a0 == 9)))
end le_isBlank
def le_isBlank {R : Type} : le_isBlank.F R := fun a0 κ0 => le_isBlank.e a0 κ0
abbrev le_begins.F (R : Type) : Type := BA -> (BA -> Bool -> Option R) -> Option R
namespace le_begins
abbrev J5 (R : Type) : Type := BA -> Int -> BA -> Option R
def t2 {R : Type} (j2 : BA -> Int -> Option R) (j5 : J5 R) : BA -> Int -> Option R :=
 fun x0 x1 => (bif (decide (x1 < (x0.size : Int))) then (chk ((decide ((0 : Int) <= x1)) && (decide (x1 < (x0.size : Int)))) (bif (decide ((btA x0 x1) > (32 : Int))) then (chk ((decide ((0 : Int) <= x1)) && (decide (x1 < (x0.size : Int)))) (bif (decide ((btA x0 x1) < (127 : Int))) then (chk ((decide ((0 : Int) <= x1)) && (decide (x1 < (x0.size : Int)))) (bif ((btA x0 x1) != 58) then (j2 x0 (IntKind.wrap .i64 (x1 + 1))) else (chk ((decide ((0 : Int) <= x1)) && (decide (x1 <= (x0.size : Int)))) (j5 x0 x1 (x0.extract ((0 : Int)).toNat (x1).toNat))))) else (chk ((decide ((0 : Int) <= x1)) && (decide (x1 <= (x0.size : Int)))) (j5 x0 x1 (x0.extract ((0 : Int)).toNat (x1).toNat))))) else (chk ((decide ((0 : Int) <= x1)) && (decide (x1 <= (x0.size : Int)))) (j5 x0 x1 (x0.extract ((0 : Int)).toNat (x1).toNat))))) else (chk ((decide ((0 : Int) <= x1)) && (decide (x1 <= (x0.size : Int)))) (j5 x0 x1 (x0.extract ((0 : Int)).toNat (x1).toNat))))
def t5 {R : Type} (c1 : le_isBlank.F R) (j5 : J5 R) (κ0 : BA -> Bool -> Option R) : J5 R :=
 fun x0 x1 x2 => (bif (decide (x1 < (x0.size : Int))) then (chk ((decide ((0 : Int) <= x1)) && (decide (x1 < (x0.size : Int)))) (c1 (btA x0 x1) (fun r11 => (bif r11 then (j5 x0 (IntKind.wrap .i64 (x1 + 1)) x2) else (bif (!decide (x2 = (⟨#[]⟩ : BA))) then (bif (decide (x1 < (x0.size : Int))) then (chk ((decide ((0 : Int) <= x1)) && (decide (x1 < (x0.size : Int)))) (κ0 x2 ((btA x0 x1) == 58))) else (κ0 x2 false)) else (κ0 x2 false)))))) else (bif (!decide (x2 = (⟨#[]⟩ : BA))) then (bif (decide (x1 < (x0.size : Int))) then (chk ((decide ((0 : Int) <= x1)) && (decide (x1 < (x0.size : Int)))) (κ0 x2 ((btA x0 x1) == 58))) else (κ0 x2 false)) else (κ0 x2 false)))
def e {R : Type} (c1 : le_isBlank.F R) (a0 : BA) (j2 : BA -> Int -> Option R) (j5 : J5 R) (κ0 : BA -> Bool -> Option R) : Option R :=
 (j2 a0 0)
def L5 {R : Type} (c1 : le_isBlank.F R) (κ0 : BA -> Bool -> Option R) : Nat -> J5 R
 | 0 => fun _ _ _ => none
 | f + 1 => t5 c1 (L5 c1 κ0 f) κ0
def L2 {R : Type} (c1 : le_isBlank.F R) (κ0 : BA -> Bool -> Option R) : Nat -> BA -> Int -> Option R
 | 0 => fun _ _ => none
 | f + 1 => t2 (L2 c1 κ0 f) (L5 c1 κ0 f)
end le_begins
def le_begins {R : Type} : le_begins.F R := fun a0 κ0 => le_begins.e le_isBlank a0 (le_begins.L2 le_isBlank κ0 fuelK) (le_begins.L5 le_isBlank κ0 fuelK) κ0
abbrev le_rows.F (R : Type) : Type := BA -> (LA -> Option R) -> Option R
namespace le_rows
abbrev J3 (R : Type) : Type := BA -> Bool -> BA -> LA -> Option R
def t3 {R : Type} (c1 : st_HasPrefix.F R) (c2 : st_Index.F R) (c3 : le_isBlank.F R) (c4 : le_begins.F R) (j3 : J3 R) (κ0 : LA -> Option R) : J3 R :=
 fun x0 x1 x2 x3 => (bif (!decide (x0 = (⟨#[]⟩ : BA))) then (c1 x0 (⟨#[13, 10]⟩ : BA) (fun r14 => (bif (!r14) then (c2 x0 (⟨#[13, 10]⟩ : BA) (fun r15 => (bif (decide (r15 >= (0 : Int))) then (chk ((decide ((0 : Int) <= (IntKind.wrap .i64 (r15 + 2)))) && (decide ((IntKind.wrap .i64 (r15 + 2)) <= (x0.size : Int)))) (chk (decide ((0 : Int) < (x0.size : Int))) (c3 (btA x0 0) (fun r16 => (bif (!r16) then (c4 (x0.extract ((0 : Int)).toNat ((IntKind.wrap .i64 (r15 + 2))).toNat) (fun r17 r18 => (chk (decide ((x3.length + 1) * 40 <= 140737488355328)) (chk ((decide ((0 : Int) <= (IntKind.wrap .i64 (r15 + 2)))) && ((decide ((IntKind.wrap .i64 (r15 + 2)) <= (x0.size : Int))) && (decide ((x0.size : Int) <= (x0.size : Int))))) (j3 (x0.extract ((IntKind.wrap .i64 (r15 + 2))).toNat ((x0.size : Int)).toNat) r18 r17 (x3 ++ [AV.agg [AV.str (x0.extract ((0 : Int)).toNat ((IntKind.wrap .i64 (r15 + 2))).toNat), AV.str r17, AV.bool r18, AV.bool r18]])))))) else (chk (decide ((x3.length + 1) * 40 <= 140737488355328)) (chk ((decide ((0 : Int) <= (IntKind.wrap .i64 (r15 + 2)))) && ((decide ((IntKind.wrap .i64 (r15 + 2)) <= (x0.size : Int))) && (decide ((x0.size : Int) <= (x0.size : Int))))) (j3 (x0.extract ((IntKind.wrap .i64 (r15 + 2))).toNat ((x0.size : Int)).toNat) x1 x2 (x3 ++ [AV.agg [AV.str (x0.extract ((0 : Int)).toNat ((IntKind.wrap .i64 (r15 + 2))).toNat), AV.str x2, AV.bool false, AV.bool x1]]))))))))) else (chk ((decide ((0 : Int) <= (x0.size : Int))) && (decide ((x0.size : Int) <= (x0.size : Int)))) (chk (decide ((0 : Int) < (x0.size : Int))) (c3 (btA x0 0) (fun r19 => (bif (!r19) then (c4 (x0.extract ((0 : Int)).toNat ((x0.size : Int)).toNat) (fun r20 r21 => (chk (decide ((x3.length + 1) * 40 <= 140737488355328)) (chk ((decide ((0 : Int) <= (x0.size : Int))) && ((decide ((x0.size : Int) <= (x0.size : Int))) && (decide ((x0.size : Int) <= (x0.size : Int))))) (j3 (x0.extract ((x0.size : Int)).toNat ((x0.size : Int)).toNat) r21 r20 (x3 ++ [AV.agg [AV.str (x0.extract ((0 : Int)).toNat ((x0.size : Int)).toNat), AV.str r20, AV.bool r21, AV.bool r21]])))))) else (chk (decide ((x3.length + 1) * 40 <= 140737488355328)) (chk ((decide ((0 : Int) <= (x0.size : Int))) && ((decide ((x0.size : Int) <= (x0.size : Int))) && (decide ((x0.size : Int) <= (x0.size : Int))))) (j3 (x0.extract ((x0.size : Int)).toNat ((x0.size : Int)).toNat) x1 x2 (x3 ++ [AV.agg [AV.str (x0.extract ((0 : Int)).toNat ((x0.size : Int)).toNat), AV.str x2, AV.bool false, AV.bool x1]])))))))))))) else (κ0 x3)))) else (κ0 x3))
def e {R : Type} (c1 : st_HasPrefix.F R) (c2 : st_Index.F R) (c3 : le_isBlank.F R) (c4 : le_begins.F R) (a0 : BA) (j3 : J3 R) (κ0 : LA -> Option R) : Option R :=
 (j3 a0 false (⟨#[]⟩ : BA) ([] : LA))
def L3 {R : Type} (c1 : st_HasPrefix.F R) (c2 : st_Index.F R) (c3 : le_isBlank.F R) (c4 : le_begins.F R) (κ0 : LA -> Option R) : Nat -> J3 R
 | 0 => fun _ _ _ _ => none
 | f + 1 => t3 c1 c2 c3 c4 (L3 c1 c2 c3 c4 κ0 f) κ0
end le_rows
def le_rows {R : Type} : le_rows.F R := fun a0 κ0 => le_rows.e st_HasPrefix st_Index le_isBlank le_begins a0 (le_rows.L3 st_HasPrefix st_Index le_isBlank le_begins κ0 fuelK) κ0
abbrev sl_HasSuffix.F (R : Type) : Type := BA -> BA -> (Bool -> Option R) -> Option R
namespace sl_HasSuffix
def e {R : Type} (a0 : BA) (a1 : BA) (κ0 : Bool -> Option R) : Option R :=
 (bif (decide ((a0.size : Int) >= (a1.size : Int))) then (chk ((decide ((0 : Int) <= (IntKind.wrap .i64 ((a0.size : Int) - (a1.size : Int))))) && ((decide ((IntKind.wrap .i64 ((a0.size : Int) - (a1.size : Int))) <= (a0.size : Int))) && (decide ((a0.size : Int) <= (a0.size : Int))))) (κ0 (decide ((a0.extract ((IntKind.wrap .i64 ((a0.size : Int) - (a1.size : Int)))).toNat ((a0.size : Int)).toNat) = a1)))) else (κ0 false))
end sl_HasSuffix
def sl_HasSuffix {R : Type} : sl_HasSuffix.F R := fun a0 a1 κ0 => sl_HasSuffix.e a0 a1 κ0
abbrev sl_TrimSuffix.F (R : Type) : Type := BA -> BA -> (BA -> Option R) -> Option R
namespace sl_TrimSuffix
def e {R : Type} (c1 : sl_HasSuffix.F R) (a0 : BA) (a1 : BA) (κ0 : BA -> Option R) : Option R :=
 (c1 a0 a1 (fun r23 => (bif r23 then (chk ((decide ((0 : Int) <= (IntKind.wrap .i64 ((a0.size : Int) - (a1.size : Int))))) && (decide ((IntKind.wrap .i64 ((a0.size : Int) - (a1.size : Int))) <= (a0.size : Int)))) (κ0 (a0.extract ((0 : Int)).toNat ((IntKind.wrap .i64 ((a0.size : Int) - (a1.size : Int)))).toNat))) else (κ0 a0))))
end sl_TrimSuffix
def sl_TrimSuffix {R : Type} : sl_TrimSuffix.F R := fun a0 a1 κ0 => sl_TrimSuffix.e sl_HasSuffix a0 a1 κ0
abbrev st_TrimSuffix.F (R : Type) : Type := BA -> BA -> (BA -> Option R) -> Option R
namespace st_TrimSuffix
def e {R : Type} (c1 : sl_TrimSuffix.F R) (a0 : BA) (a1 : BA) (κ0 : BA -> Option R) : Option R :=
 (c1 a0 a1 (fun r24 => (κ0 r24)))
end st_TrimSuffix
def st_TrimSuffix {R : Type} : st_TrimSuffix.F R := fun a0 a1 κ0 => st_TrimSuffix.e sl_TrimSuffix a0 a1 κ0
abbrev st_IndexByte.F (R : Type) : Type := BA -> Int -> (Int -> Option R) -> Option R
namespace st_IndexByte
def e {R : Type} (c1 : sl_IndexByte.F R) (a0 : BA) (a1 : Int) (κ0 : Int -> Option R) : Option R :=
 (c1 a0 a1 (fun r26 => (κ0 r26)))
end st_IndexByte
def st_IndexByte {R : Type} : st_IndexByte.F R := fun a0 a1 κ0 => st_IndexByte.e sl_IndexByte a0 a1 κ0
abbrev st_trimRightByte.F (R : Type) : Type := BA -> Int -> (BA -> Option R) -> Option R
namespace st_trimRightByte
def t1 {R : Type} (j1 : BA -> Int -> Option R) (κ0 : BA -> Option R) : BA -> Int -> Option R :=
 fun x0 x1 => (bif (decide ((x0.size : Int) > (0 : Int))) then (chk ((decide ((0 : Int) <= (IntKind.wrap .i64 ((x0.size : Int) - 1)))) && (decide ((IntKind.wrap .i64 ((x0.size : Int) - 1)) < (x0.size : Int)))) (bif ((btA x0 (IntKind.wrap .i64 ((x0.size : Int) - 1))) == x1) then (chk ((decide ((0 : Int) <= (IntKind.wrap .i64 ((x0.size : Int) - 1)))) && (decide ((IntKind.wrap .i64 ((x0.size : Int) - 1)) <= (x0.size : Int)))) (j1 (x0.extract ((0 : Int)).toNat ((IntKind.wrap .i64 ((x0.size : Int) - 1))).toNat) x1)) else (κ0 x0))) else (κ0 x0))
def e {R : Type} (a0 : BA) (a1 : Int) (j1 : BA -> Int -> Option R) (κ0 : BA -> Option R) : Option R :=
 (j1 a0 a1)
def L1 {R : Type} (κ0 : BA -> Option R) : Nat -> BA -> Int -> Option R
 | 0 => fun _ _ => none
 | f + 1 => t1 (L1 κ0 f) κ0
end st_trimRightByte
def st_trimRightByte {R : Type} : st_trimRightByte.F R := fun a0 a1 κ0 => st_trimRightByte.e a0 a1 (st_trimRightByte.L1 κ0 fuelK) κ0
abbrev st_trimLeftByte.F (R : Type) : Type := BA -> Int -> (BA -> Option R) -> Option R
namespace st_trimLeftByte
def t1 {R : Type} (j1 : BA -> Int -> Option R) (κ0 : BA -> Option R) : BA -> Int -> Option R :=
 fun x0 x1 => (bif (decide ((x0.size : Int) > (0 : Int))) then (chk (decide ((0 : Int) < (x0.size : Int))) (bif ((btA x0 0) == x1) then (chk ((decide ((1 : Int) <= (x0.size : Int))) && (decide ((x0.size : Int) <= (x0.size : Int)))) (j1 (x0.extract ((1 : Int)).toNat ((x0.size : Int)).toNat) x1)) else (κ0 x0))) else (κ0 x0))
def e {R : Type} (a0 : BA) (a1 : Int) (j1 : BA -> Int -> Option R) (κ0 : BA -> Option R) : Option R :=
 (j1 a0 a1)
def L1 {R : Type} (κ0 : BA -> Option R) : Nat -> BA -> Int -> Option R
 | 0 => fun _ _ => none
 | f + 1 => t1 (L1 κ0 f) κ0
end st_trimLeftByte
def st_trimLeftByte {R : Type} : st_trimLeftByte.F R := fun a0 a1 κ0 => st_trimLeftByte.e a0 a1 (st_trimLeftByte.L1 κ0 fuelK) κ0
abbrev st_makeASCIISet.F (R : Type) : Type := BA -> (LA -> Bool -> Option R) -> Option R
namespace st_makeASCIISet
abbrev J2 (R : Type) : Type := BA -> Int -> LA -> Option R
def t2 {R : Type} (j2 : J2 R) (κ0 : LA -> Bool -> Option R) : J2 R :=
 fun x0 x1 x2 => (bif (decide (x1 < (x0.size : Int))) then (chk ((decide ((0 : Int) <= x1)) && (decide (x1 < (x0.size : Int)))) (bif (decide ((btA x0 x1) >= (128 : Int))) then (κ0 x2 false) else (chk ((decide ((0 : Int) <= (btA x0 x1))) && (decide ((btA x0 x1) < (256 : Int)))) (j2 x0 (IntKind.wrap .i64 (x1 + 1)) (setA x2 (btA x0 x1) (AV.bool true)))))) else (κ0 x2 true))
def e {R : Type} (a0 : BA) (j2 : J2 R) (κ0 : LA -> Bool -> Option R) : Option R :=
 (j2 a0 0 (List.replicate 256 (AV.bool false)))
def L2 {R : Type} (κ0 : LA -> Bool -> Option R) : Nat -> J2 R
 | 0 => fun _ _ _ => none
 | f + 1 => t2 (L2 κ0 f) κ0
end st_makeASCIISet
def st_makeASCIISet {R : Type} : st_makeASCIISet.F R := fun a0 κ0 => st_makeASCIISet.e a0 (st_makeASCIISet.L2 κ0 fuelK) κ0
abbrev st_asciiSet_contains.F (R : Type) : Type := LA -> Int -> (Bool -> Option R) -> Option R
namespace st_asciiSet_contains
def e {R : Type} (a0 : LA) (a1 : Int) (κ0 : Bool -> Option R) : Option R :=
 (chk ((decide ((0 : Int) <= a1)) && (decide (a1 < (256 : Int)))) (κ0 (rdA a0 a1).b))
end st_asciiSet_contains
def st_asciiSet_contains {R : Type} : st_asciiSet_contains.F R := fun a0 a1 κ0 => st_asciiSet_contains.e a0 a1 κ0
abbrev st_trimRightASCII.F (R : Type) : Type := BA -> LA -> (BA -> Option R) -> Option R
namespace st_trimRightASCII
def t1 {R : Type} (c1 : st_asciiSet_contains.F R) (j1 : BA -> LA -> Option R) (κ0 : BA -> Option R) : BA -> LA -> Option R :=
 fun x0 x1 => (bif (decide ((x0.size : Int) > (0 : Int))) then (chk ((decide ((0 : Int) <= (IntKind.wrap .i64 ((x0.size : Int) - 1)))) && (decide ((IntKind.wrap .i64 ((x0.size : Int) - 1)) < (x0.size : Int)))) (c1 x1 (btA x0 (IntKind.wrap .i64 ((x0.size : Int) - 1))) (fun r37 => (bif (!r37) then (κ0 x0) else (chk ((decide ((0 : Int) <= (IntKind.wrap .i64 ((x0.size : Int) - 1)))) && (decide ((IntKind.wrap .i64 ((x0.size : Int) - 1)) <= (x0.size : Int)))) (j1 (x0.extract ((0 : Int)).toNat ((IntKind.wrap .i64 ((x0.size : Int) - 1))).toNat) x1)))))) else (κ0 x0))
def e {R : Type} (c1 : st_asciiSet_contains.F R) (a0 : BA) (a1 : LA) (j1 : BA -> LA -> Option R) (κ0 : BA -> Option R) : Option R :=
 (j1 a0 a1)
def L1 {R : Type} (c1 : st_asciiSet_contains.F R) (κ0 : BA -> Option R) : Nat -> BA -> LA -> Option R
 | 0 => fun _ _ => none
 | f + 1 => t1 c1 (L1 c1 κ0 f) κ0
end st_trimRightASCII
def st_trimRightASCII {R : Type} : st_trimRightASCII.F R := fun a0 a1 κ0 => st_trimRightASCII.e st_asciiSet_contains a0 a1 (st_trimRightASCII.L1 st_asciiSet_contains κ0 fuelK) κ0
abbrev st_trimLeftASCII.F (R : Type) : Type := BA -> LA -> (BA -> Option R) -> Option R
namespace st_trimLeftASCII
def t1 {R : Type} (c1 : st_asciiSet_contains.F R) (j1 : BA -> LA -> Option R) (κ0 : BA -> Option R) : BA -> LA -> Option R :=
 fun x0 x1 => (bif (decide ((x0.size : Int) > (0 : Int))) then (chk (decide ((0 : Int) < (x0.size : Int))) (c1 x1 (btA x0 0) (fun r39 => (bif (!r39) then (κ0 x0) else (chk ((decide ((1 : Int) <= (x0.size : Int))) && (decide ((x0.size : Int) <= (x0.size : Int)))) (j1 (x0.extract ((1 : Int)).toNat ((x0.size : Int)).toNat) x1)))))) else (κ0 x0))
def e {R : Type} (c1 : st_asciiSet_contains.F R) (a0 : BA) (a1 : LA) (j1 : BA -> LA -> Option R) (κ0 : BA -> Option R) : Option R :=
 (j1 a0 a1)
def L1 {R : Type} (c1 : st_asciiSet_contains.F R) (κ0 : BA -> Option R) : Nat -> BA -> LA -> Option R
 | 0 => fun _ _ => none
 | f + 1 => t1 c1 (L1 c1 κ0 f) κ0
end st_trimLeftASCII
def st_trimLeftASCII {R : Type} : st_trimLeftASCII.F R := fun a0 a1 κ0 => st_trimLeftASCII.e st_asciiSet_contains a0 a1 (st_trimLeftASCII.L1 st_asciiSet_contains κ0 fuelK) κ0
abbrev st_Trim.F (R : Type) : Type := BA -> BA -> (BA -> Option R) -> Option R
namespace st_Trim
def e {R : Type} (c1 : st_trimRightByte.F R) (c2 : st_trimLeftByte.F R) (c3 : st_makeASCIISet.F R) (c4 : st_trimRightASCII.F R) (c5 : st_trimLeftASCII.F R) (a0 : BA) (a1 : BA) (κ0 : BA -> Option R) : Option R :=
 (bif (decide (a0 = (⟨#[]⟩ : BA))) then (κ0 a0) else (bif (decide (a1 = (⟨#[]⟩ : BA))) then (κ0 a0) else (bif ((a1.size : Int) == 1) then (chk (decide ((0 : Int) < (a1.size : Int))) (bif (decide ((btA a1 0) < (128 : Int))) then (chk (decide ((0 : Int) < (a1.size : Int))) (c1 a0 (btA a1 0) (fun r33 => (chk (decide ((0 : Int) < (a1.size : Int))) (c2 r33 (btA a1 0) (fun r34 => (κ0 r34))))))) else (c3 a1 (fun r35 r36 => (bif r36 then (c4 a0 r35 (fun r38 => (c5 r38 r35 (fun r40 => (κ0 r40))))) else none))))) else (c3 a1 (fun r42 r43 => (bif r43 then (c4 a0 r42 (fun r44 => (c5 r44 r42 (fun r45 => (κ0 r45))))) else none))))))
end st_Trim
def st_Trim {R : Type} : st_Trim.F R := fun a0 a1 κ0 => st_Trim.e st_trimRightByte st_trimLeftByte st_makeASCIISet st_trimRightASCII st_trimLeftASCII a0 a1 κ0
abbrev le_Fields.F (R : Type) : Type := BA -> (LA -> Option R) -> Option R
namespace le_Fields
abbrev J4 (R : Type) : Type := Int -> Int -> LA -> LA -> LA -> Option R
abbrev J8 (R : Type) : Type := Int -> Int -> LA -> LA -> BA -> BA -> Bool -> Bool -> LA -> Option R
abbrev J13 (R : Type) : Type := BA -> Int -> Int -> LA -> LA -> BA -> BA -> Bool -> Bool -> LA -> Option R
abbrev J15 (R : Type) : Type := Int -> Int -> LA -> LA -> LA -> Option R
abbrev J17 (R : Type) : Type := Int -> Int -> LA -> LA -> Option R
def t4 {R : Type} (j8 : J8 R) (j15 : J15 R) (j17 : J17 R) : J4 R :=
 fun x0 x1 x2 x3 x4 => (bif (decide (x1 < x0)) then (chk ((decide ((0 : Int) <= x1)) && (decide (x1 < (x4.length : Int)))) (bif (!((rdA x4 x1).fld 3).b) then (bif ((rdA x4 x1).fld 2).b then (j17 (x2.length : Int) 0 x2 x3) else (j15 x0 x1 x2 x3 x4)) else (bif ((rdA x4 x1).fld 2).b then (bif ((x2.length : Int) == 64) then (bif ((rdA x4 x1).fld 2).b then (j17 (x2.length : Int) 0 x2 x3) else (j15 x0 x1 x2 x3 x4)) else (j8 x0 x1 x2 x3 ((rdA x4 x1).fld 0).s ((rdA x4 x1).fld 1).s ((rdA x4 x1).fld 2).b ((rdA x4 x1).fld 3).b x4)) else (j8 x0 x1 x2 x3 ((rdA x4 x1).fld 0).s ((rdA x4 x1).fld 1).s ((rdA x4 x1).fld 2).b ((rdA x4 x1).fld 3).b x4)))) else (j17 (x2.length : Int) 0 x2 x3))
def t8 {R : Type} (c3 : st_TrimSuffix.F R) (c4 : st_IndexByte.F R) (j13 : J13 R) : J8 R :=
 fun x0 x1 x2 x3 x4 x5 x6 x7 x8 => (c3 x4 (⟨#[13, 10]⟩ : BA) (fun r90 => (bif x6 then (chk (decide ((x2.length + 1) * 48 <= 140737488355328)) (chk (decide ((x3.length + 1) * 16 <= 140737488355328)) (c4 r90 58 (fun r91 => (chk ((decide ((0 : Int) <= (IntKind.wrap .i64 (r91 + 1)))) && ((decide ((IntKind.wrap .i64 (r91 + 1)) <= (r90.size : Int))) && (decide ((r90.size : Int) <= (r90.size : Int))))) (j13 (r90.extract ((IntKind.wrap .i64 (r91 + 1))).toNat ((r90.size : Int)).toNat) x0 x1 (x2 ++ [AV.agg [AV.str x5, AV.str (⟨#[]⟩ : BA), AV.str (⟨#[]⟩ : BA)]]) (x3 ++ [AV.str (⟨#[]⟩ : BA)]) x4 x5 x6 x7 x8)))))) else (j13 r90 x0 x1 x2 x3 x4 x5 x6 x7 x8))))
def t13 {R : Type} (j15 : J15 R) : J13 R :=
 fun x0 x1 x2 x3 x4 x5 x6 x7 x8 x9 => (chk ((decide ((0 : Int) <= (IntKind.wrap .i64 ((x3.length : Int) - 1)))) && (decide ((IntKind.wrap .i64 ((x3.length : Int) - 1)) < (x3.length : Int)))) (chk (decide (((rdA x3 (IntKind.wrap .i64 ((x3.length : Int) - 1))).fld 2).s.size + x5.size <= 9223372036854775807)) (chk ((decide ((0 : Int) <= (IntKind.wrap .i64 ((x3.length : Int) - 1)))) && (decide ((IntKind.wrap .i64 ((x3.length : Int) - 1)) < (x3.length : Int)))) (chk ((decide ((0 : Int) <= (IntKind.wrap .i64 (((setA x3 (IntKind.wrap .i64 ((x3.length : Int) - 1)) (AV.agg [AV.str ((rdA x3 (IntKind.wrap .i64 ((x3.length : Int) - 1))).fld 0).s, AV.str ((rdA x3 (IntKind.wrap .i64 ((x3.length : Int) - 1))).fld 1).s, AV.str (((rdA x3 (IntKind.wrap .i64 ((x3.length : Int) - 1))).fld 2).s ++ x5)])).length : Int) - 1)))) && (decide ((IntKind.wrap .i64 (((setA x3 (IntKind.wrap .i64 ((x3.length : Int) - 1)) (AV.agg [AV.str ((rdA x3 (IntKind.wrap .i64 ((x3.length : Int) - 1))).fld 0).s, AV.str ((rdA x3 (IntKind.wrap .i64 ((x3.length : Int) - 1))).fld 1).s, AV.str (((rdA x3 (IntKind.wrap .i64 ((x3.length : Int) - 1))).fld 2).s ++ x5)])).length : Int) - 1)) < (x4.length : Int)))) (chk (decide ((rdA x4 (IntKind.wrap .i64 (((setA x3 (IntKind.wrap .i64 ((x3.length : Int) - 1)) (AV.agg [AV.str ((rdA x3 (IntKind.wrap .i64 ((x3.length : Int) - 1))).fld 0).s, AV.str ((rdA x3 (IntKind.wrap .i64 ((x3.length : Int) - 1))).fld 1).s, AV.str (((rdA x3 (IntKind.wrap .i64 ((x3.length : Int) - 1))).fld 2).s ++ x5)])).length : Int) - 1))).s.size + x0.size <= 9223372036854775807)) (chk ((decide ((0 : Int) <= (IntKind.wrap .i64 (((setA x3 (IntKind.wrap .i64 ((x3.length : Int) - 1)) (AV.agg [AV.str ((rdA x3 (IntKind.wrap .i64 ((x3.length : Int) - 1))).fld 0).s, AV.str ((rdA x3 (IntKind.wrap .i64 ((x3.length : Int) - 1))).fld 1).s, AV.str (((rdA x3 (IntKind.wrap .i64 ((x3.length : Int) - 1))).fld 2).s ++ x5)])).length : Int) - 1)))) && (decide ((IntKind.wrap .i64 (((setA x3 (IntKind.wrap .i64 ((x3.length : Int) - 1)) (AV.agg [AV.str ((rdA x3 (IntKind.wrap .i64 ((x3.length : Int) - 1))).fld 0).s, AV.str ((rdA x3 (IntKind.wrap .i64 ((x3.length : Int) - 1))).fld 1).s, AV.str (((rdA x3 (IntKind.wrap .i64 ((x3.length : Int) - 1))).fld 2).s ++ x5)])).length : Int) - 1)) < (x4.length : Int)))) (j15 x1 x2 (setA x3 (IntKind.wrap .i64 ((x3.length : Int) - 1)) (AV.agg [AV.str ((rdA x3 (IntKind.wrap .i64 ((x3.length : Int) - 1))).fld 0).s, AV.str ((rdA x3 (IntKind.wrap .i64 ((x3.length : Int) - 1))).fld 1).s, AV.str (((rdA x3 (IntKind.wrap .i64 ((x3.length : Int) - 1))).fld 2).s ++ x5)])) (setA x4 (IntKind.wrap .i64 (((setA x3 (IntKind.wrap .i64 ((x3.length : Int) - 1)) (AV.agg [AV.str ((rdA x3 (IntKind.wrap .i64 ((x3.length : Int) - 1))).fld 0).s, AV.str ((rdA x3 (IntKind.wrap .i64 ((x3.length : Int) - 1))).fld 1).s, AV.str (((rdA x3 (IntKind.wrap .i64 ((x3.length : Int) - 1))).fld 2).s ++ x5)])).length : Int) - 1)) (AV.str ((rdA x4 (IntKind.wrap .i64 (((setA x3 (IntKind.wrap .i64 ((x3.length : Int) - 1)) (AV.agg [AV.str ((rdA x3 (IntKind.wrap .i64 ((x3.length : Int) - 1))).fld 0).s, AV.str ((rdA x3 (IntKind.wrap .i64 ((x3.length : Int) - 1))).fld 1).s, AV.str (((rdA x3 (IntKind.wrap .i64 ((x3.length : Int) - 1))).fld 2).s ++ x5)])).length : Int) - 1))).s ++ x0))) x9)))))))
def t15 {R : Type} (j4 : J4 R) : J15 R :=
 fun x0 x1 x2 x3 x4 => (j4 x0 (IntKind.wrap .i64 (x1 + 1)) x2 x3 x4)
def t17 {R : Type} (c2 : st_Trim.F R) (j17 : J17 R) (κ0 : LA -> Option R) : J17 R :=
 fun x0 x1 x2 x3 => (bif (decide (x1 < x0)) then (chk ((decide ((0 : Int) <= x1)) && (decide (x1 < (x3.length : Int)))) (c2 (rdA x3 x1).s (⟨#[32, 9]⟩ : BA) (fun r89 => (chk ((decide ((0 : Int) <= x1)) && (decide (x1 < (x2.length : Int)))) (j17 x0 (IntKind.wrap .i64 (x1 + 1)) (setA x2 x1 (AV.agg [AV.str ((rdA x2 x1).fld 0).s, AV.str r89, AV.str ((rdA x2 x1).fld 2).s])) x3))))) else (κ0 x2))
def e {R : Type} (c1 : le_rows.F R) (c2 : st_Trim.F R) (c3 : st_TrimSuffix.F R) (c4 : st_IndexByte.F R) (a0 : BA) (j4 : J4 R) (j8 : J8 R) (j13 : J13 R) (j15 : J15 R) (j17 : J17 R) (κ0 : LA -> Option R) : Option R :=
 (c1 a0 (fun r88 => (j4 (r88.length : Int) 0 ([] : LA) ([] : LA) r88)))
def L17 {R : Type} (c1 : le_rows.F R) (c2 : st_Trim.F R) (c3 : st_TrimSuffix.F R) (c4 : st_IndexByte.F R) (κ0 : LA -> Option R) : Nat -> J17 R
 | 0 => fun _ _ _ _ => none
 | f + 1 => t17 c2 (L17 c1 c2 c3 c4 κ0 f) κ0
def M4 {R : Type} (c1 : le_rows.F R) (c2 : st_Trim.F R) (c3 : st_TrimSuffix.F R) (c4 : st_IndexByte.F R) (κ0 : LA -> Option R) : Nat -> (J4 R) × (J8 R) × (J13 R) × (J15 R)
 | 0 => (fun _ _ _ _ _ => none, fun _ _ _ _ _ _ _ _ _ => none, fun _ _ _ _ _ _ _ _ _ _ => none, fun _ _ _ _ _ => none)
 | f + 1 => (t4 ((M4 c1 c2 c3 c4 κ0 f).2.1) ((M4 c1 c2 c3 c4 κ0 f).2.2.2) (L17 c1 c2 c3 c4 κ0 f),
  t8 c3 c4 ((M4 c1 c2 c3 c4 κ0 f).2.2.1),
  t13 ((M4 c1 c2 c3 c4 κ0 f).2.2.2),
  t15 ((M4 c1 c2 c3 c4 κ0 f).1))
def L4 {R : Type} (c1 : le_rows.F R) (c2 : st_Trim.F R) (c3 : st_TrimSuffix.F R) (c4 : st_IndexByte.F R) (κ0 : LA -> Option R) (f : Nat) : J4 R := (M4 c1 c2 c3 c4 κ0 f).1
def L8 {R : Type} (c1 : le_rows.F R) (c2 : st_Trim.F R) (c3 : st_TrimSuffix.F R) (c4 : st_IndexByte.F R) (κ0 : LA -> Option R) (f : Nat) : J8 R := (M4 c1 c2 c3 c4 κ0 f).2.1
def L13 {R : Type} (c1 : le_rows.F R) (c2 : st_Trim.F R) (c3 : st_TrimSuffix.F R) (c4 : st_IndexByte.F R) (κ0 : LA -> Option R) (f : Nat) : J13 R := (M4 c1 c2 c3 c4 κ0 f).2.2.1
def L15 {R : Type} (c1 : le_rows.F R) (c2 : st_Trim.F R) (c3 : st_TrimSuffix.F R) (c4 : st_IndexByte.F R) (κ0 : LA -> Option R) (f : Nat) : J15 R := (M4 c1 c2 c3 c4 κ0 f).2.2.2
end le_Fields
def le_Fields {R : Type} : le_Fields.F R := fun a0 κ0 => le_Fields.e le_rows st_Trim st_TrimSuffix st_IndexByte a0 (le_Fields.L4 le_rows st_Trim st_TrimSuffix st_IndexByte κ0 fuelK) (le_Fields.L8 le_rows st_Trim st_TrimSuffix st_IndexByte κ0 fuelK) (le_Fields.L13 le_rows st_Trim st_TrimSuffix st_IndexByte κ0 fuelK) (le_Fields.L15 le_rows st_Trim st_TrimSuffix st_IndexByte κ0 fuelK) (le_Fields.L17 le_rows st_Trim st_TrimSuffix st_IndexByte κ0 fuelK) κ0
abbrev oc_Lower.F (R : Type) : Type := BA -> (BA -> Option R) -> Option R
namespace oc_Lower
abbrev J3 (R : Type) : Type := Int -> Int -> LA -> Option R
def t3 {R : Type} (j3 : J3 R) (κ0 : BA -> Option R) : J3 R :=
 fun x0 x1 x2 => (bif (decide (x1 < x0)) then (chk ((decide ((0 : Int) <= x1)) && (decide (x1 < (x2.length : Int)))) (bif (decide ((rdA x2 x1).i >= (65 : Int))) then (bif (decide ((rdA x2 x1).i <= (90 : Int))) then (chk ((decide ((0 : Int) <= x1)) && (decide (x1 < (x2.length : Int)))) (j3 x0 (IntKind.wrap .i64 (x1 + 1)) (setA x2 x1 (AV.int (IntKind.wrap .u8 ((IntKind.wrap .u8 ((rdA x2 x1).i + 97)) - 65)))))) else (j3 x0 (IntKind.wrap .i64 (x1 + 1)) x2)) else (j3 x0 (IntKind.wrap .i64 (x1 + 1)) x2))) else (κ0 (strAV x2)))
def e {R : Type} (a0 : BA) (j3 : J3 R) (κ0 : BA -> Option R) : Option R :=
 (chk (decide ((a0.size + 0) * 1 <= 140737488355328)) (j3 ((bytesAV a0).length : Int) 0 (bytesAV a0)))
def L3 {R : Type} (κ0 : BA -> Option R) : Nat -> J3 R
 | 0 => fun _ _ _ => none
 | f + 1 => t3 (L3 κ0 f) κ0
end oc_Lower
def oc_Lower {R : Type} : oc_Lower.F R := fun a0 κ0 => oc_Lower.e a0 (oc_Lower.L3 κ0 fuelK) κ0
abbrev oc_Same.F (R : Type) : Type := BA -> BA -> (Bool -> Option R) -> Option R
namespace oc_Same
def e {R : Type} (c1 : oc_Lower.F R) (a0 : BA) (a1 : BA) (κ0 : Bool -> Option R) : Option R :=
 (c1 a0 (fun r93 => (c1 a1 (fun r94 => (κ0 (decide (r93 = r94)))))))
end oc_Same
def oc_Same {R : Type} : oc_Same.F R := fun a0 a1 κ0 => oc_Same.e oc_Lower a0 a1 κ0
abbrev le_Get.F (R : Type) : Type := LA -> BA -> (Bool -> BA -> Option R) -> Option R
namespace le_Get
abbrev J2 (R : Type) : Type := BA -> LA -> Int -> Int -> Bool -> BA -> Option R
def t2 {R : Type} (c1 : oc_Same.F R) (j2 : J2 R) (κ0 : Bool -> BA -> Option R) : J2 R :=
 fun x0 x1 x2 x3 x4 x5 => (bif (decide (x3 < x2)) then (chk ((decide ((0 : Int) <= x3)) && (decide (x3 < (x1.length : Int)))) (c1 ((rdA x1 x3).fld 0).s x0 (fun r95 => (bif r95 then (κ0 true ((rdA x1 x3).fld 1).s) else (j2 x0 x1 x2 (IntKind.wrap .i64 (x3 + 1)) x4 x5))))) else (κ0 false (⟨#[]⟩ : BA)))
def e {R : Type} (c1 : oc_Same.F R) (a0 : LA) (a1 : BA) (j2 : J2 R) (κ0 : Bool -> BA -> Option R) : Option R :=
 (j2 a1 a0 (a0.length : Int) 0 false (⟨#[]⟩ : BA))
def L2 {R : Type} (c1 : oc_Same.F R) (κ0 : Bool -> BA -> Option R) : Nat -> J2 R
 | 0 => fun _ _ _ _ _ _ => none
 | f + 1 => t2 c1 (L2 c1 κ0 f) κ0
end le_Get
def le_Get {R : Type} : le_Get.F R := fun a0 a1 κ0 => le_Get.e oc_Same a0 a1 (le_Get.L2 oc_Same κ0 fuelK) κ0
abbrev lm_value_next.Q0 (R : Type) : Type := Int -> BA -> Int -> Option R
abbrev lm_value_next.F (R : Type) : Type := BA -> Int -> lm_value_next.Q0 R -> Option R
namespace lm_value_next
def e {R : Type} (a0 : BA) (a1 : Int) (κ0 : Q0 R) : Option R :=
 (bif (decide (a1 < (a0.size : Int))) then (chk ((decide ((0 : Int) <= a1)) && (decide (a1 < (a0.size : Int)))) (κ0 (btA a0 a1) a0 a1)) else (κ0 0 a0 a1))
end lm_value_next
def lm_value_next {R : Type} : lm_value_next.F R := fun a0 a1 κ0 => lm_value_next.e a0 a1 κ0
abbrev lm_value_comment.F (R : Type) : Type := BA -> Int -> (BA -> Int -> Option R) -> Option R
namespace lm_value_comment
abbrev J1 (R : Type) : Type := Int -> BA -> Int -> Option R
def t1 {R : Type} (j1 : J1 R) (κ0 : BA -> Int -> Option R) : J1 R :=
 fun x0 x1 x2 => (bif (decide (x2 < (x1.size : Int))) then (chk ((decide ((0 : Int) <= x2)) && (decide (x2 < (x1.size : Int)))) (bif ((btA x1 x2) == 92) then (j1 x0 x1 (IntKind.wrap .i64 ((IntKind.wrap .i64 (x2 + 1)) + 1))) else (bif ((btA x1 x2) == 40) then (j1 (IntKind.wrap .i64 (x0 + 1)) x1 (IntKind.wrap .i64 (x2 + 1))) else (bif ((btA x1 x2) == 41) then (bif ((IntKind.wrap .i64 (x0 - 1)) == 0) then (κ0 x1 (IntKind.wrap .i64 (x2 + 1))) else (j1 (IntKind.wrap .i64 (x0 - 1)) x1 (IntKind.wrap .i64 (x2 + 1)))) else (j1 x0 x1 (IntKind.wrap .i64 (x2 + 1))))))) else (κ0 x1 (x1.size : Int)))
def e {R : Type} (a0 : BA) (a1 : Int) (j1 : J1 R) (κ0 : BA -> Int -> Option R) : Option R :=
 (j1 0 a0 a1)
def L1 {R : Type} (κ0 : BA -> Int -> Option R) : Nat -> J1 R
 | 0 => fun _ _ _ => none
 | f + 1 => t1 (L1 κ0 f) κ0
end lm_value_comment
def lm_value_comment {R : Type} : lm_value_comment.F R := fun a0 a1 κ0 => lm_value_comment.e a0 a1 (lm_value_comment.L1 κ0 fuelK) κ0
abbrev lm_value_blanks.F (R : Type) : Type := BA -> Int -> (BA -> Int -> Option R) -> Option R
namespace lm_value_blanks
def t0 {R : Type} (c1 : lm_value_next.F R) (c2 : lm_value_comment.F R) (j0 : BA -> Int -> Option R) (κ0 : BA -> Int -> Option R) : BA -> Int -> Option R :=
 fun x0 x1 => (c1 x0 x1 (fun r98 r99 r100 => (bif (r98 == 32) then (j0 r99 (IntKind.wrap .i64 (r100 + 1))) else (bif (r98 == 9) then (j0 r99 (IntKind.wrap .i64 (r100 + 1))) else (bif (r98 == 40) then (c2 r99 r100 (fun r101 r102 => (j0 r101 r102))) else (κ0 r99 r100))))))
def e {R : Type} (c1 : lm_value_next.F R) (c2 : lm_value_comment.F R) (a0 : BA) (a1 : Int) (j0 : BA -> Int -> Option R) (κ0 : BA -> Int -> Option R) : Option R :=
 (j0 a0 a1)
def L0 {R : Type} (c1 : lm_value_next.F R) (c2 : lm_value_comment.F R) (κ0 : BA -> Int -> Option R) : Nat -> BA -> Int -> Option R
 | 0 => fun _ _ => none
 | f + 1 => t0 c1 c2 (L0 c1 c2 κ0 f) κ0
end lm_value_blanks
def lm_value_blanks {R : Type} : lm_value_blanks.F R := fun a0 a1 κ0 => lm_value_blanks.e lm_value_next lm_value_comment a0 a1 (lm_value_blanks.L0 lm_value_next lm_value_comment κ0 fuelK) κ0
abbrev u8_ValidRune.F (R : Type) : Type := Int -> (Bool -> Option R) -> Option R
namespace u8_ValidRune
def e {R : Type} (a0 : Int) (κ0 : Bool -> Option R) : Option R :=
 (bif (decide ((0 : Int) <= a0)) then (bif (decide (a0 < (55296 : Int))) then (κ0 true) else (bif (decide ((57343 : Int) < a0)) then (bif (decide (a0 <= (1114111 : Int))) then (κ0 true) else (κ0 false)) else (κ0 false))) else (bif (decide ((57343 : Int) < a0)) then (bif (decide (a0 <= (1114111 : Int))) then (κ0 true) else (κ0 false)) else (κ0 false)))
end u8_ValidRune
def u8_ValidRune {R : Type} : u8_ValidRune.F R := fun a0 κ0 => u8_ValidRune.e a0 κ0
abbrev by_Cutover.F (R : Type) : Type := Int -> (Int -> Option R) -> Option R
namespace by_Cutover
def e {R : Type} (a0 : Int) (κ0 : Int -> Option R) : Option R :=
 (κ0 (IntKind.wrap .i64 (Int.tdiv (IntKind.wrap .i64 (a0 + 16)) 8)))
end by_Cutover
def by_Cutover {R : Type} : by_Cutover.F R := fun a0 κ0 => by_Cutover.e a0 κ0
abbrev st_IndexRune.F (R : Type) : Type := BA -> Int -> (Int -> Option R) -> Option R
namespace st_IndexRune
abbrev J5 (R : Type) : Type := BA -> Int -> BA -> Int -> Int -> Int -> Option R
abbrev J12 (R : Type) : Type := BA -> Int -> BA -> Int -> Int -> Int -> Int -> Option R
def t5 {R : Type} (c1 : st_IndexByte.F R) (j12 : J12 R) (κ0 : Int -> Option R) : J5 R :=
 fun x0 x1 x2 x3 x4 x5 => (bif (decide (x4 < (x0.size : Int))) then (chk ((decide ((0 : Int) <= x4)) && (decide (x4 < (x0.size : Int)))) (chk ((decide ((0 : Int) <= x3)) && (decide (x3 < (x2.size : Int)))) (bif ((btA x0 x4) != (btA x2 x3)) then (chk ((decide ((0 : Int) <= (IntKind.wrap .i64 (x4 + 1)))) && ((decide ((IntKind.wrap .i64 (x4 + 1)) <= (x0.size : Int))) && (decide ((x0.size : Int) <= (x0.size : Int))))) (chk ((decide ((0 : Int) <= x3)) && (decide (x3 < (x2.size : Int)))) (c1 (x0.extract ((IntKind.wrap .i64 (x4 + 1))).toNat ((x0.size : Int)).toNat) (btA x2 x3) (fun r108 => (bif (decide (r108 < (0 : Int))) then (κ0 (-1)) else (j12 x0 x1 x2 x3 (IntKind.wrap .i64 (x4 + (IntKind.wrap .i64 (r108 + 1)))) x5 1)))))) else (j12 x0 x1 x2 x3 x4 x5 1)))) else (κ0 (-1)))
def t12 {R : Type} (c3 : by_Cutover.F R) (j5 : J5 R) (j12 : J12 R) (κ0 : Int -> Option R) : J12 R :=
 fun x0 x1 x2 x3 x4 x5 x6 => (bif (decide (x6 < (x2.size : Int))) then (chk ((decide ((0 : Int) <= (IntKind.wrap .i64 (x4 - x6)))) && (decide ((IntKind.wrap .i64 (x4 - x6)) < (x0.size : Int)))) (chk ((decide ((0 : Int) <= (IntKind.wrap .i64 (x3 - x6)))) && (decide ((IntKind.wrap .i64 (x3 - x6)) < (x2.size : Int)))) (bif ((btA x0 (IntKind.wrap .i64 (x4 - x6))) != (btA x2 (IntKind.wrap .i64 (x3 - x6)))) then (c3 (IntKind.wrap .i64 (x4 + 1)) (fun r109 => (bif (decide ((IntKind.wrap .i64 (x5 + 1)) > r109)) then (bif (decide ((IntKind.wrap .i64 (x4 + 1)) < (x0.size : Int))) then (chk ((decide ((0 : Int) <= (IntKind.wrap .i64 ((IntKind.wrap .i64 (x4 + 1)) - x3)))) && ((decide ((IntKind.wrap .i64 ((IntKind.wrap .i64 (x4 + 1)) - x3)) <= (x0.size : Int))) && (decide ((x0.size : Int) <= (x0.size : Int))))) none) else (j5 x0 x1 x2 x3 (IntKind.wrap .i64 (x4 + 1)) (IntKind.wrap .i64 (x5 + 1)))) else (j5 x0 x1 x2 x3 (IntKind.wrap .i64 (x4 + 1)) (IntKind.wrap .i64 (x5 + 1)))))) else (j12 x0 x1 x2 x3 x4 x5 (IntKind.wrap .i64 (x6 + 1)))))) else (κ0 (IntKind.wrap .i64 (x4 - x3))))
def t38 {R : Type} (j38 : BA -> Nat -> Option R) (κ0 : Int -> Option R) : BA -> Nat -> Option R :=
 fun x0 x1 => (bif (decide (x1 < x0.size)) then (bif (((Utf8.decode x0 x1).1 : Int) == 65533) then (κ0 (x1 : Int)) else (j38 x0 (x1 + (Utf8.decode x0 x1).2))) else (κ0 (-1)))
def e {R : Type} (c1 : st_IndexByte.F R) (c2 : u8_ValidRune.F R) (c3 : by_Cutover.F R) (a0 : BA) (a1 : Int) (j5 : J5 R) (j12 : J12 R) (j38 : BA -> Nat -> Option R) (κ0 : Int -> Option R) : Option R :=
 (bif (decide ((0 : Int) <= a1)) then (bif (decide (a1 < (128 : Int))) then (c1 a0 (IntKind.wrap .u8 a1) (fun r105 => (κ0 r105))) else (bif (a1 == 65533) then (j38 a0 0) else (c2 a1 (fun r106 => (bif (!r106) then (κ0 (-1)) else (j5 a0 a1 (Utf8.encode a1) (IntKind.wrap .i64 (((Utf8.encode a1).size : Int) - 1)) (IntKind.wrap .i64 (((Utf8.encode a1).size : Int) - 1)) 0)))))) else (bif (a1 == 65533) then (j38 a0 0) else (c2 a1 (fun r107 => (bif (!r107) then (κ0 (-1)) else (j5 a0 a1 (Utf8.encode a1) (IntKind.wrap .i64 (((Utf8.encode a1).size : Int) - 1)) (IntKind.wrap .i64 (((Utf8.encode a1).size : Int) - 1)) 0))))))
def M5 {R : Type} (c1 : st_IndexByte.F R) (c2 : u8_ValidRune.F R) (c3 : by_Cutover.F R) (κ0 : Int -> Option R) : Nat -> (J5 R) × (J12 R)
 | 0 => (fun _ _ _ _ _ _ => none, fun _ _ _ _ _ _ _ => none)
 | f + 1 => (t5 c1 ((M5 c1 c2 c3 κ0 f).2) κ0,
  t12 c3 ((M5 c1 c2 c3 κ0 f).1) ((M5 c1 c2 c3 κ0 f).2) κ0)
def L5 {R : Type} (c1 : st_IndexByte.F R) (c2 : u8_ValidRune.F R) (c3 : by_Cutover.F R) (κ0 : Int -> Option R) (f : Nat) : J5 R := (M5 c1 c2 c3 κ0 f).1
def L12 {R : Type} (c1 : st_IndexByte.F R) (c2 : u8_ValidRune.F R) (c3 : by_Cutover.F R) (κ0 : Int -> Option R) (f : Nat) : J12 R := (M5 c1 c2 c3 κ0 f).2
def L38 {R : Type} (c1 : st_IndexByte.F R) (c2 : u8_ValidRune.F R) (c3 : by_Cutover.F R) (κ0 : Int -> Option R) : Nat -> BA -> Nat -> Option R
 | 0 => fun _ _ => none
 | f + 1 => t38 (L38 c1 c2 c3 κ0 f) κ0
end st_IndexRune
def st_IndexRune {R : Type} : st_IndexRune.F R := fun a0 a1 κ0 => st_IndexRune.e st_IndexByte u8_ValidRune by_Cutover a0 a1 (st_IndexRune.L5 st_IndexByte u8_ValidRune by_Cutover κ0 fuelK) (st_IndexRune.L12 st_IndexByte u8_ValidRune by_Cutover κ0 fuelK) (st_IndexRune.L38 st_IndexByte u8_ValidRune by_Cutover κ0 fuelK) κ0
abbrev st_ContainsRune.F (R : Type) : Type := BA -> Int -> (Bool -> Option R) -> Option R
namespace st_ContainsRune
def e {R : Type} (c1 : st_IndexRune.F R) (a0 : BA) (a1 : Int) (κ0 : Bool -> Option R) : Option R :=
 (c1 a0 a1 (fun r110 => (κ0 (decide (r110 >= (0 : Int))))))
end st_ContainsRune
def st_ContainsRune {R : Type} : st_ContainsRune.F R := fun a0 a1 κ0 => st_ContainsRune.e st_IndexRune a0 a1 κ0
abbrev lm_value_token.Q0 (R : Type) : Type := BA -> BA -> Int -> Option R
abbrev lm_value_token.F (R : Type) : Type := BA -> Int -> lm_value_token.Q0 R -> Option R
namespace lm_value_token
abbrev J2 (R : Type) : Type := Int -> BA -> Int -> Option R
def t2 {R : Type} (c1 : st_ContainsRune.F R) (j2 : J2 R) (κ0 : Q0 R) : J2 R :=
 fun x0 x1 x2 => (bif (decide (x2 < (x1.size : Int))) then (chk ((decide ((0 : Int) <= x2)) && (decide (x2 < (x1.size : Int)))) (bif (decide ((btA x1 x2) > (32 : Int))) then (chk ((decide ((0 : Int) <= x2)) && (decide (x2 < (x1.size : Int)))) (bif (decide ((btA x1 x2) < (127 : Int))) then (chk ((decide ((0 : Int) <= x2)) && (decide (x2 < (x1.size : Int)))) (c1 (⟨#[40, 41, 60, 62, 64, 44, 59, 58, 92, 34, 47, 91, 93, 63, 61]⟩ : BA) (IntKind.wrap .i32 (btA x1 x2)) (fun r111 => (bif (!r111) then (j2 x0 x1 (IntKind.wrap .i64 (x2 + 1))) else (chk ((decide ((0 : Int) <= x0)) && ((decide (x0 <= x2)) && (decide (x2 <= (x1.size : Int))))) (κ0 (x1.extract (x0).toNat (x2).toNat) x1 x2)))))) else (chk ((decide ((0 : Int) <= x0)) && ((decide (x0 <= x2)) && (decide (x2 <= (x1.size : Int))))) (κ0 (x1.extract (x0).toNat (x2).toNat) x1 x2)))) else (chk ((decide ((0 : Int) <= x0)) && ((decide (x0 <= x2)) && (decide (x2 <= (x1.size : Int))))) (κ0 (x1.extract (x0).toNat (x2).toNat) x1 x2)))) else (chk ((decide ((0 : Int) <= x0)) && ((decide (x0 <= x2)) && (decide (x2 <= (x1.size : Int))))) (κ0 (x1.extract (x0).toNat (x2).toNat) x1 x2)))
def e {R : Type} (c1 : st_ContainsRune.F R) (a0 : BA) (a1 : Int) (j2 : J2 R) (κ0 : Q0 R) : Option R :=
 (j2 a1 a0 a1)
def L2 {R : Type} (c1 : st_ContainsRune.F R) (κ0 : Q0 R) : Nat -> J2 R
 | 0 => fun _ _ _ => none
 | f + 1 => t2 c1 (L2 c1 κ0 f) κ0
end lm_value_token
def lm_value_token {R : Type} : lm_value_token.F R := fun a0 a1 κ0 => lm_value_token.e st_ContainsRune a0 a1 (lm_value_token.L2 st_ContainsRune κ0 fuelK) κ0
abbrev lm_value_sign.Q0 (R : Type) : Type := Bool -> BA -> Int -> Option R
abbrev lm_value_sign.F (R : Type) : Type := BA -> Int -> Int -> lm_value_sign.Q0 R -> Option R
namespace lm_value_sign
def e {R : Type} (a0 : BA) (a1 : Int) (a2 : Int) (κ0 : Q0 R) : Option R :=
 (bif (decide (a1 < (a0.size : Int))) then (chk ((decide ((0 : Int) <= a1)) && (decide (a1 < (a0.size : Int)))) (bif ((btA a0 a1) == a2) then (κ0 true a0 (IntKind.wrap .i64 (a1 + 1))) else (κ0 false a0 a1))) else (κ0 false a0 a1))
end lm_value_sign
def lm_value_sign {R : Type} : lm_value_sign.F R := fun a0 a1 a2 κ0 => lm_value_sign.e a0 a1 a2 κ0
abbrev lm_value_kind.Q0 (R : Type) : Type := BA -> BA -> Bool -> BA -> Int -> Option R
abbrev lm_value_kind.F (R : Type) : Type := BA -> Int -> lm_value_kind.Q0 R -> Option R
namespace lm_value_kind
def e {R : Type} (c1 : lm_value_blanks.F R) (c2 : lm_value_token.F R) (c3 : oc_Lower.F R) (c4 : lm_value_sign.F R) (a0 : BA) (a1 : Int) (κ0 : Q0 R) : Option R :=
 (c1 a0 a1 (fun r103 r104 => (c2 r103 r104 (fun r112 r113 r114 => (c3 r112 (fun r115 => (c1 r113 r114 (fun r116 r117 => (bif (decide (r115 = (⟨#[]⟩ : BA))) then (κ0 (⟨#[]⟩ : BA) (⟨#[]⟩ : BA) false r116 r117) else (c4 r116 r117 47 (fun r118 r119 r120 => (bif (!r118) then (κ0 (⟨#[]⟩ : BA) (⟨#[]⟩ : BA) false r119 r120) else (c1 r119 r120 (fun r121 r122 => (c2 r121 r122 (fun r123 r124 r125 => (c3 r123 (fun r126 => (κ0 r115 r126 (!decide (r126 = (⟨#[]⟩ : BA))) r124 r125)))))))))))))))))))
end lm_value_kind
def lm_value_kind {R : Type} : lm_value_kind.F R := fun a0 a1 κ0 => lm_value_kind.e lm_value_blanks lm_value_token oc_Lower lm_value_sign a0 a1 κ0
abbrev st_Builder_String.F (R : Type) : Type := LA -> (BA -> Option R) -> Option R
namespace st_Builder_String
def e {R : Type} (a0 : LA) (κ0 : BA -> Option R) : Option R :=
 (chk (decide ((a0.length : Int) = (a0.length : Int))) (chk (List.all a0 byteOk) (κ0 (strAV a0))))
end st_Builder_String
def st_Builder_String {R : Type} : st_Builder_String.F R := fun a0 κ0 => st_Builder_String.e a0 κ0
abbrev st_Builder_copyCheck.F (R : Type) : Type := LA -> (LA -> Option R) -> Option R
def st_Builder_copyCheck {R : Type} (a0 : LA) (κ0 : LA -> Option R) : Option R := κ0 a0
abbrev st_Builder_WriteByte.F (R : Type) : Type := LA -> Int -> (LA -> Option R) -> Option R
namespace st_Builder_WriteByte
def e {R : Type} (c1 : st_Builder_copyCheck.F R) (a0 : LA) (a1 : Int) (κ0 : LA -> Option R) : Option R :=
 (c1 a0 (fun r165 => (chk (decide ((r165.length + 1) * 1 <= 140737488355328)) (κ0 (r165 ++ [AV.int a1])))))
end st_Builder_WriteByte
def st_Builder_WriteByte {R : Type} : st_Builder_WriteByte.F R := fun a0 a1 κ0 => st_Builder_WriteByte.e st_Builder_copyCheck a0 a1 κ0
abbrev lm_value_word.Q0 (R : Type) : Type := BA -> Bool -> BA -> Int -> Option R
abbrev lm_value_word.F (R : Type) : Type := BA -> Int -> lm_value_word.Q0 R -> Option R
namespace lm_value_word
abbrev J5 (R : Type) : Type := BA -> Int -> LA -> Option R
def t5 {R : Type} (c3 : st_Builder_String.F R) (c4 : st_Builder_WriteByte.F R) (j5 : J5 R) (κ0 : Q0 R) : J5 R :=
 fun x0 x1 x2 => (bif (decide (x1 < (x0.size : Int))) then (chk ((decide ((0 : Int) <= x1)) && (decide (x1 < (x0.size : Int)))) (bif ((btA x0 x1) == 34) then (c3 x2 (fun r164 => (κ0 r164 true x0 (IntKind.wrap .i64 (x1 + 1))))) else (bif ((btA x0 x1) == 92) then (bif (decide ((IntKind.wrap .i64 (x1 + 1)) < (x0.size : Int))) then (chk ((decide ((0 : Int) <= (IntKind.wrap .i64 (x1 + 1)))) && (decide ((IntKind.wrap .i64 (x1 + 1)) < (x0.size : Int)))) (c4 x2 (btA x0 (IntKind.wrap .i64 (x1 + 1))) (fun r166 => (j5 x0 (IntKind.wrap .i64 ((IntKind.wrap .i64 (x1 + 1)) + 1)) r166)))) else (c4 x2 (btA x0 x1) (fun r167 => (j5 x0 (IntKind.wrap .i64 (x1 + 1)) r167)))) else (c4 x2 (btA x0 x1) (fun r168 => (j5 x0 (IntKind.wrap .i64 (x1 + 1)) r168)))))) else (κ0 (⟨#[]⟩ : BA) false x0 x1))
def e {R : Type} (c1 : lm_value_sign.F R) (c2 : lm_value_token.F R) (c3 : st_Builder_String.F R) (c4 : st_Builder_WriteByte.F R) (a0 : BA) (a1 : Int) (j5 : J5 R) (κ0 : Q0 R) : Option R :=
 (c1 a0 a1 34 (fun r158 r159 r160 => (bif (!r158) then (c2 r159 r160 (fun r161 r162 r163 => (κ0 r161 (!decide (r161 = (⟨#[]⟩ : BA))) r162 r163))) else (j5 r159 r160 ([] : LA)))))
def L5 {R : Type} (c1 : lm_value_sign.F R) (c2 : lm_value_token.F R) (c3 : st_Builder_String.F R) (c4 : st_Builder_WriteByte.F R) (κ0 : Q0 R) : Nat -> J5 R
 | 0 => fun _ _ _ => none
 | f + 1 => t5 c3 c4 (L5 c1 c2 c3 c4 κ0 f) κ0
end lm_value_word
def lm_value_word {R : Type} : lm_value_word.F R := fun a0 a1 κ0 => lm_value_word.e lm_value_sign lm_value_token st_Builder_String st_Builder_WriteByte a0 a1 (lm_value_word.L5 lm_value_sign lm_value_token st_Builder_String st_Builder_WriteByte κ0 fuelK) κ0
abbrev lm_value_param.Q0 (R : Type) : Type := BA -> BA -> Bool -> BA -> Int -> Option R
abbrev lm_value_param.F (R : Type) : Type := BA -> Int -> lm_value_param.Q0 R -> Option R
namespace lm_value_param
def e {R : Type} (c1 : lm_value_blanks.F R) (c2 : lm_value_sign.F R) (c3 : lm_value_token.F R) (c4 : oc_Lower.F R) (c5 : lm_value_word.F R) (a0 : BA) (a1 : Int) (κ0 : Q0 R) : Option R :=
 (c1 a0 a1 (fun r132 r133 => (c2 r132 r133 59 (fun r134 r135 r136 => (bif (!r134) then (κ0 (⟨#[]⟩ : BA) (⟨#[]⟩ : BA) false r135 r136) else (c1 r135 r136 (fun r137 r138 => (c3 r137 r138 (fun r139 r140 r141 => (c4 r139 (fun r142 => (c1 r140 r141 (fun r143 r144 => (bif (decide (r142 = (⟨#[]⟩ : BA))) then (κ0 (⟨#[]⟩ : BA) (⟨#[]⟩ : BA) false r143 r144) else (c2 r143 r144 61 (fun r145 r146 r147 => (bif (!r145) then (κ0 (⟨#[]⟩ : BA) (⟨#[]⟩ : BA) false r146 r147) else (c1 r146 r147 (fun r148 r149 => (c5 r148 r149 (fun r169 r170 r171 r172 => (κ0 r142 r169 r170 r171 r172))))))))))))))))))))))
end lm_value_param
def lm_value_param {R : Type} : lm_value_param.F R := fun a0 a1 κ0 => lm_value_param.e lm_value_blanks lm_value_sign lm_value_token oc_Lower lm_value_word a0 a1 κ0
abbrev lm_value_params.Q0 (R : Type) : Type := LA -> BA -> Int -> Option R
abbrev lm_value_params.F (R : Type) : Type := BA -> Int -> lm_value_params.Q0 R -> Option R
namespace lm_value_params
abbrev J3 (R : Type) : Type := BA -> Int -> LA -> LA -> Option R
def t3 {R : Type} (c1 : lm_value_param.F R) (j3 : J3 R) (κ0 : Q0 R) : J3 R :=
 fun x0 x1 x2 x3 => (bif (decide ((x2.length : Int) < (12 : Int))) then (c1 x0 x1 (fun r178 r179 r180 r181 r182 => (bif (!r180) then (κ0 x2 r181 r182) else (bif ((mpVal (.str) (AV.str r178) (mpSet (.str) (AV.str r178) (AV.int (IntKind.wrap .i64 ((mpVal (.str) (AV.str r178) x3).i + 1))) x3)).i == 1) then (chk (decide ((x2.length + 1) * 32 <= 140737488355328)) (j3 r181 r182 (x2 ++ [AV.agg [AV.str r178, AV.str r179]]) (mpSet (.str) (AV.str r178) (AV.int (IntKind.wrap .i64 ((mpVal (.str) (AV.str r178) x3).i + 1))) x3))) else (j3 r181 r182 x2 (mpSet (.str) (AV.str r178) (AV.int (IntKind.wrap .i64 ((mpVal (.str) (AV.str r178) x3).i + 1))) x3)))))) else (κ0 x2 x0 x1))
def e {R : Type} (c1 : lm_value_param.F R) (a0 : BA) (a1 : Int) (j3 : J3 R) (κ0 : Q0 R) : Option R :=
 (j3 a0 a1 ([] : LA) ([] : LA))
def L3 {R : Type} (c1 : lm_value_param.F R) (κ0 : Q0 R) : Nat -> J3 R
 | 0 => fun _ _ _ _ => none
 | f + 1 => t3 c1 (L3 c1 κ0 f) κ0
end lm_value_params
def lm_value_params {R : Type} : lm_value_params.F R := fun a0 a1 κ0 => lm_value_params.e lm_value_param a0 a1 (lm_value_params.L3 lm_value_param κ0 fuelK) κ0
abbrev lm_value_first.Q0 (R : Type) : Type := Bool -> BA -> BA -> Int -> Option R
abbrev lm_value_first.F (R : Type) : Type := BA -> Int -> lm_value_first.Q0 R -> Option R
namespace lm_value_first
def e {R : Type} (c1 : lm_value_blanks.F R) (c2 : lm_value_token.F R) (c3 : oc_Lower.F R) (a0 : BA) (a1 : Int) (κ0 : Q0 R) : Option R :=
 (c1 a0 a1 (fun r188 r189 => (c2 r188 r189 (fun r190 r191 r192 => (c3 r190 (fun r193 => (κ0 (!decide (r193 = (⟨#[]⟩ : BA))) r193 r191 r192)))))))
end lm_value_first
def lm_value_first {R : Type} : lm_value_first.F R := fun a0 a1 κ0 => lm_value_first.e lm_value_blanks lm_value_token oc_Lower a0 a1 κ0
abbrev lm_bare.F (R : Type) : Type := LA -> BA -> (Bool -> BA -> Option R) -> Option R
namespace lm_bare
def e {R : Type} (c1 : le_Get.F R) (c2 : st_Trim.F R) (a0 : LA) (a1 : BA) (κ0 : Bool -> BA -> Option R) : Option R :=
 (c1 a0 a1 (fun r198 r199 => (c2 r199 (⟨#[32, 9]⟩ : BA) (fun r200 => (κ0 r198 r200)))))
end lm_bare
def lm_bare {R : Type} : lm_bare.F R := fun a0 a1 κ0 => lm_bare.e le_Get st_Trim a0 a1 κ0
abbrev lm_value_langs.Q0 (R : Type) : Type := LA -> BA -> Int -> Option R
abbrev lm_value_langs.F (R : Type) : Type := BA -> Int -> lm_value_langs.Q0 R -> Option R
namespace lm_value_langs
abbrev J2 (R : Type) : Type := BA -> Int -> LA -> Option R
abbrev J8 (R : Type) : Type := LA -> BA -> Int -> Option R
def t2 {R : Type} (c1 : lm_value_first.F R) (c2 : lm_value_blanks.F R) (c3 : lm_value_sign.F R) (j2 : J2 R) (j8 : J8 R) : J2 R :=
 fun x0 x1 x2 => (bif (decide ((x2.length : Int) < (12 : Int))) then (c1 x0 x1 (fun r278 r279 r280 r281 => (bif (!r278) then (j8 x2 r280 r281) else (chk (decide ((x2.length + 1) * 16 <= 140737488355328)) (c2 r280 r281 (fun r282 r283 => (c3 r282 r283 44 (fun r284 r285 r286 => (bif (!r284) then (j8 (x2 ++ [AV.str r279]) r285 r286) else (j2 r285 r286 (x2 ++ [AV.str r279]))))))))))) else (j8 x2 x0 x1))
def t8 {R : Type} (κ0 : Q0 R) : J8 R :=
 fun x0 x1 x2 => (κ0 x0 x1 x2)
def e {R : Type} (c1 : lm_value_first.F R) (c2 : lm_value_blanks.F R) (c3 : lm_value_sign.F R) (a0 : BA) (a1 : Int) (j2 : J2 R) (j8 : J8 R) (κ0 : Q0 R) : Option R :=
 (j2 a0 a1 ([] : LA))
def L8 {R : Type} (c1 : lm_value_first.F R) (c2 : lm_value_blanks.F R) (c3 : lm_value_sign.F R) (κ0 : Q0 R) : Nat -> J8 R
 | 0 => fun _ _ _ => none
 | f + 1 => t8 κ0
def L2 {R : Type} (c1 : lm_value_first.F R) (c2 : lm_value_blanks.F R) (c3 : lm_value_sign.F R) (κ0 : Q0 R) : Nat -> J2 R
 | 0 => fun _ _ _ => none
 | f + 1 => t2 c1 c2 c3 (L2 c1 c2 c3 κ0 f) (L8 c1 c2 c3 κ0 f)
end lm_value_langs
def lm_value_langs {R : Type} : lm_value_langs.F R := fun a0 a1 κ0 => lm_value_langs.e lm_value_first lm_value_blanks lm_value_sign a0 a1 (lm_value_langs.L2 lm_value_first lm_value_blanks lm_value_sign κ0 fuelK) (lm_value_langs.L8 lm_value_first lm_value_blanks lm_value_sign κ0 fuelK) κ0
abbrev lm_says.Q0 (R : Type) : Type := BA -> BA -> BA -> LA -> Bool -> BA -> Bool -> BA -> Bool -> BA -> Bool -> BA -> LA -> LA -> Bool -> BA -> Int -> Int -> Int -> Int -> Int -> Option R
abbrev lm_says.F (R : Type) : Type := BA -> BA -> BA -> Bool -> BA -> Bool -> BA -> Bool -> BA -> Bool -> BA -> Bool -> BA -> Int -> Int -> Int -> Int -> Int -> LA -> Bool -> lm_says.Q0 R -> Option R
namespace lm_says
abbrev J15 (R : Type) : Type := LA -> BA -> BA -> BA -> LA -> Bool -> BA -> Bool -> BA -> Bool -> BA -> Bool -> BA -> LA -> LA -> Bool -> BA -> Int -> Int -> Int -> Int -> Int -> Option R
def t15 {R : Type} (c1 : le_Get.F R) (c6 : lm_value_langs.F R) (κ0 : Q0 R) : J15 R :=
 fun x0 x1 x2 x3 x4 x5 x6 x7 x8 x9 x10 x11 x12 x13 x14 x15 x16 x17 x18 x19 x20 x21 => (c1 x0 (⟨#[67, 111, 110, 116, 101, 110, 116, 45, 76, 97, 110, 103, 117, 97, 103, 101]⟩ : BA) (fun r258 r259 => (c6 r259 0 (fun r287 r288 r289 => (κ0 x1 x2 x3 x4 x5 x6 x7 x8 x9 x10 x11 x12 x13 r287 x15 x16 x17 x18 x19 x20 x21)))))
def e {R : Type} (c1 : le_Get.F R) (c2 : lm_value_kind.F R) (c3 : lm_value_params.F R) (c4 : lm_value_first.F R) (c5 : lm_bare.F R) (c6 : lm_value_langs.F R) (a0 : BA) (a1 : BA) (a2 : BA) (a3 : Bool) (a4 : BA) (a5 : Bool) (a6 : BA) (a7 : Bool) (a8 : BA) (a9 : Bool) (a10 : BA) (a11 : Bool) (a12 : BA) (a13 : Int) (a14 : Int) (a15 : Int) (a16 : Int) (a17 : Int) (a18 : LA) (a19 : Bool) (j15 : J15 R) (κ0 : Q0 R) : Option R :=
 (c1 a18 (⟨#[67, 111, 110, 116, 101, 110, 116, 45, 84, 121, 112, 101]⟩ : BA) (fun r96 r97 => (c2 r97 0 (fun r127 r128 r129 r130 r131 => (bif r129 then (c3 r130 r131 (fun r183 r184 r185 => (c1 a18 (⟨#[67, 111, 110, 116, 101, 110, 116, 45, 84, 114, 97, 110, 115, 102, 101, 114, 45, 69, 110, 99, 111, 100, 105, 110, 103]⟩ : BA) (fun r186 r187 => (c4 r187 0 (fun r194 r195 r196 r197 => (c5 a18 (⟨#[67, 111, 110, 116, 101, 110, 116, 45, 73, 100]⟩ : BA) (fun r201 r202 => (c5 a18 (⟨#[67, 111, 110, 116, 101, 110, 116, 45, 68, 101, 115, 99, 114, 105, 112, 116, 105, 111, 110]⟩ : BA) (fun r203 r204 => (c5 a18 (⟨#[67, 111, 110, 116, 101, 110, 116, 45, 76, 111, 99, 97, 116, 105, 111, 110]⟩ : BA) (fun r205 r206 => (c1 a18 (⟨#[67, 111, 110, 116, 101, 110, 116, 45, 68, 105, 115, 112, 111, 115, 105, 116, 105, 111, 110]⟩ : BA) (fun r207 r208 => (c4 r208 0 (fun r209 r210 r211 r212 => (bif r209 then (c3 r211 r212 (fun r213 r214 r215 => (j15 a18 a0 r127 r128 r183 r201 r202 r203 r204 r194 r195 r209 r210 r213 ([] : LA) r205 r206 a13 a14 a15 a16 a17))) else (j15 a18 a0 r127 r128 r183 r201 r202 r203 r204 r194 r195 r209 r210 ([] : LA) ([] : LA) r205 r206 a13 a14 a15 a16 a17)))))))))))))))))) else (bif a19 then (c1 a18 (⟨#[67, 111, 110, 116, 101, 110, 116, 45, 84, 114, 97, 110, 115, 102, 101, 114, 45, 69, 110, 99, 111, 100, 105, 110, 103]⟩ : BA) (fun r216 r217 => (c4 r217 0 (fun r218 r219 r220 r221 => (c5 a18 (⟨#[67, 111, 110, 116, 101, 110, 116, 45, 73, 100]⟩ : BA) (fun r222 r223 => (c5 a18 (⟨#[67, 111, 110, 116, 101, 110, 116, 45, 68, 101, 115, 99, 114, 105, 112, 116, 105, 111, 110]⟩ : BA) (fun r224 r225 => (c5 a18 (⟨#[67, 111, 110, 116, 101, 110, 116, 45, 76, 111, 99, 97, 116, 105, 111, 110]⟩ : BA) (fun r226 r227 => (c1 a18 (⟨#[67, 111, 110, 116, 101, 110, 116, 45, 68, 105, 115, 112, 111, 115, 105, 116, 105, 111, 110]⟩ : BA) (fun r228 r229 => (c4 r229 0 (fun r230 r231 r232 r233 => (bif r230 then (c3 r232 r233 (fun r234 r235 r236 => (j15 a18 a0 (⟨#[109, 101, 115, 115, 97, 103, 101]⟩ : BA) (⟨#[114, 102, 99, 56, 50, 50]⟩ : BA) ([] : LA) r222 r223 r224 r225 r218 r219 r230 r231 r234 ([] : LA) r226 r227 a13 a14 a15 a16 a17))) else (j15 a18 a0 (⟨#[109, 101, 115, 115, 97, 103, 101]⟩ : BA) (⟨#[114, 102, 99, 56, 50, 50]⟩ : BA) ([] : LA) r222 r223 r224 r225 r218 r219 r230 r231 ([] : LA) ([] : LA) r226 r227 a13 a14 a15 a16 a17)))))))))))))))) else (c1 a18 (⟨#[67, 111, 110, 116, 101, 110, 116, 45, 84, 114, 97, 110, 115, 102, 101, 114, 45, 69, 110, 99, 111, 100, 105, 110, 103]⟩ : BA) (fun r237 r238 => (c4 r238 0 (fun r239 r240 r241 r242 => (c5 a18 (⟨#[67, 111, 110, 116, 101, 110, 116, 45, 73, 100]⟩ : BA) (fun r243 r244 => (c5 a18 (⟨#[67, 111, 110, 116, 101, 110, 116, 45, 68, 101, 115, 99, 114, 105, 112, 116, 105, 111, 110]⟩ : BA) (fun r245 r246 => (c5 a18 (⟨#[67, 111, 110, 116, 101, 110, 116, 45, 76, 111, 99, 97, 116, 105, 111, 110]⟩ : BA) (fun r247 r248 => (c1 a18 (⟨#[67, 111, 110, 116, 101, 110, 116, 45, 68, 105, 115, 112, 111, 115, 105, 116, 105, 111, 110]⟩ : BA) (fun r249 r250 => (c4 r250 0 (fun r251 r252 r253 r254 => (bif r251 then (c3 r253 r254 (fun r255 r256 r257 => (j15 a18 a0 (⟨#[116, 101, 120, 116]⟩ : BA) (⟨#[112, 108, 97, 105, 110]⟩ : BA) [AV.agg [AV.str (⟨#[99, 104, 97, 114, 115, 101, 116]⟩ : BA), AV.str (⟨#[117, 115, 45, 97, 115, 99, 105, 105]⟩ : BA)]] r243 r244 r245 r246 r239 r240 r251 r252 r255 ([] : LA) r247 r248 a13 a14 a15 a16 a17))) else (j15 a18 a0 (⟨#[116, 101, 120, 116]⟩ : BA) (⟨#[112, 108, 97, 105, 110]⟩ : BA) [AV.agg [AV.str (⟨#[99, 104, 97, 114, 115, 101, 116]⟩ : BA), AV.str (⟨#[117, 115, 45, 97, 115, 99, 105, 105]⟩ : BA)]] r243 r244 r245 r246 r239 r240 r251 r252 ([] : LA) ([] : LA) r247 r248 a13 a14 a15 a16 a17))))))))))))))))))))))
def L15 {R : Type} (c1 : le_Get.F R) (c2 : lm_value_kind.F R) (c3 : lm_value_params.F R) (c4 : lm_value_first.F R) (c5 : lm_bare.F R) (c6 : lm_value_langs.F R) (κ0 : Q0 R) : Nat -> J15 R
 | 0 => fun _ _ _ _ _ _ _ _ _ _ _ _ _ _ _ _ _ _ _ _ _ _ => none
 | f + 1 => t15 c1 c6 κ0
end lm_says
def lm_says {R : Type} : lm_says.F R := fun a0 a1 a2 a3 a4 a5 a6 a7 a8 a9 a10 a11 a12 a13 a14 a15 a16 a17 a18 a19 κ0 => lm_says.e le_Get lm_value_kind lm_value_params lm_value_first lm_bare lm_value_langs a0 a1 a2 a3 a4 a5 a6 a7 a8 a9 a10 a11 a12 a13 a14 a15 a16 a17 a18 a19 (lm_says.L15 le_Get lm_value_kind lm_value_params lm_value_first lm_bare lm_value_langs κ0 fuelK) κ0
abbrev lm_tree_limb.Q0 (R : Type) : Type := BA -> BA -> BA -> LA -> Bool -> BA -> Bool -> BA -> Bool -> BA -> Bool -> BA -> LA -> LA -> Bool -> BA -> Int -> Int -> Int -> Int -> Int -> BA -> Int -> Option R
abbrev lm_tree_limb.F (R : Type) : Type := BA -> Int -> Int -> Int -> Bool -> lm_tree_limb.Q0 R -> Option R
namespace lm_tree_limb
def e {R : Type} (c1 : le_Split.F R) (c2 : le_Fields.F R) (c3 : lm_says.F R) (a0 : BA) (a1 : Int) (a2 : Int) (a3 : Int) (a4 : Bool) (κ0 : Q0 R) : Option R :=
 (chk ((decide ((0 : Int) <= a2)) && ((decide (a2 <= a3)) && (decide (a3 <= (a0.size : Int))))) (c1 (a0.extract (a2).toNat (a3).toNat) (fun r6 r7 => (c2 r6 (fun r92 => (c3 (⟨#[]⟩ : BA) (⟨#[]⟩ : BA) (⟨#[]⟩ : BA) false (⟨#[]⟩ : BA) false (⟨#[]⟩ : BA) false (⟨#[]⟩ : BA) false (⟨#[]⟩ : BA) false (⟨#[]⟩ : BA) a2 (IntKind.wrap .i64 (a2 + (r6.size : Int))) (IntKind.wrap .i64 (a2 + (r6.size : Int))) a3 0 r92 a4 (fun r290 r291 r292 r293 r294 r295 r296 r297 r298 r299 r300 r301 r302 r303 r304 r305 r306 r307 r308 r309 r310 => (κ0 r290 r291 r292 r293 r294 r295 r296 r297 r298 r299 r300 r301 r302 r303 r304 r305 r306 r307 r308 r309 r310 a0 a1))))))))
end lm_tree_limb
def lm_tree_limb {R : Type} : lm_tree_limb.F R := fun a0 a1 a2 a3 a4 κ0 => lm_tree_limb.e le_Split le_Fields lm_says a0 a1 a2 a3 a4 κ0
abbrev lm_isMessage.Q0 (R : Type) : Type := Bool -> BA -> BA -> BA -> LA -> Bool -> BA -> Bool -> BA -> Bool -> BA -> Bool -> BA -> LA -> LA -> Bool -> BA -> Int -> Int -> Int -> Int -> Int -> Option R
abbrev lm_isMessage.F (R : Type) : Type := BA -> BA -> BA -> LA -> Bool -> BA -> Bool -> BA -> Bool -> BA -> Bool -> BA -> LA -> LA -> Bool -> BA -> Int -> Int -> Int -> Int -> Int -> lm_isMessage.Q0 R -> Option R
namespace lm_isMessage
def e {R : Type} (a0 : BA) (a1 : BA) (a2 : BA) (a3 : LA) (a4 : Bool) (a5 : BA) (a6 : Bool) (a7 : BA) (a8 : Bool) (a9 : BA) (a10 : Bool) (a11 : BA) (a12 : LA) (a13 : LA) (a14 : Bool) (a15 : BA) (a16 : Int) (a17 : Int) (a18 : Int) (a19 : Int) (a20 : Int) (κ0 : Q0 R) : Option R :=
 (bif (decide (a1 = (⟨#[109, 101, 115, 115, 97, 103, 101]⟩ : BA))) then (κ0 (decide (a2 = (⟨#[114, 102, 99, 56, 50, 50]⟩ : BA))) a0 a1 a2 a3 a4 a5 a6 a7 a8 a9 a10 a11 a12 a13 a14 a15 a16 a17 a18 a19 a20) else (κ0 false a0 a1 a2 a3 a4 a5 a6 a7 a8 a9 a10 a11 a12 a13 a14 a15 a16 a17 a18 a19 a20))
end lm_isMessage
def lm_isMessage {R : Type} : lm_isMessage.F R := fun a0 a1 a2 a3 a4 a5 a6 a7 a8 a9 a10 a11 a12 a13 a14 a15 a16 a17 a18 a19 a20 κ0 => lm_isMessage.e a0 a1 a2 a3 a4 a5 a6 a7 a8 a9 a10 a11 a12 a13 a14 a15 a16 a17 a18 a19 a20 κ0
abbrev sl_CutPrefix.F (R : Type) : Type := BA -> BA -> (BA -> Bool -> Option R) -> Option R
namespace sl_CutPrefix
def e {R : Type} (c1 : sl_HasPrefix.F R) (a0 : BA) (a1 : BA) (κ0 : BA -> Bool -> Option R) : Option R :=
 (c1 a0 a1 (fun r357 => (bif (!r357) then (κ0 a0 false) else (chk ((decide ((0 : Int) <= (a1.size : Int))) && ((decide ((a1.size : Int) <= (a0.size : Int))) && (decide ((a0.size : Int) <= (a0.size : Int))))) (κ0 (a0.extract ((a1.size : Int)).toNat ((a0.size : Int)).toNat) true)))))
end sl_CutPrefix
def sl_CutPrefix {R : Type} : sl_CutPrefix.F R := fun a0 a1 κ0 => sl_CutPrefix.e sl_HasPrefix a0 a1 κ0
abbrev st_CutPrefix.F (R : Type) : Type := BA -> BA -> (BA -> Bool -> Option R) -> Option R
namespace st_CutPrefix
def e {R : Type} (c1 : sl_CutPrefix.F R) (a0 : BA) (a1 : BA) (κ0 : BA -> Bool -> Option R) : Option R :=
 (c1 a0 a1 (fun r358 r359 => (κ0 r358 r359)))
end st_CutPrefix
def st_CutPrefix {R : Type} : st_CutPrefix.F R := fun a0 a1 κ0 => st_CutPrefix.e sl_CutPrefix a0 a1 κ0
abbrev lm_bound.F (R : Type) : Type := BA -> BA -> (Bool -> Bool -> Option R) -> Option R
namespace lm_bound
def e {R : Type} (c1 : st_CutPrefix.F R) (c2 : st_Trim.F R) (a0 : BA) (a1 : BA) (κ0 : Bool -> Bool -> Option R) : Option R :=
 (chk (decide ((⟨#[45, 45]⟩ : BA).size + a1.size <= 9223372036854775807)) (c1 a0 ((⟨#[45, 45]⟩ : BA) ++ a1) (fun r360 r361 => (bif (!r361) then (κ0 false false) else (c1 r360 (⟨#[45, 45]⟩ : BA) (fun r362 r363 => (c2 r362 (⟨#[32, 9]⟩ : BA) (fun r364 => (κ0 (decide (r364 = (⟨#[]⟩ : BA))) r363)))))))))
end lm_bound
def lm_bound {R : Type} : lm_bound.F R := fun a0 a1 κ0 => lm_bound.e st_CutPrefix st_Trim a0 a1 κ0
abbrev lm_tree_cut.Q0 (R : Type) : Type := LA -> BA -> Int -> Option R
abbrev lm_tree_cut.F (R : Type) : Type := BA -> Int -> Int -> Int -> BA -> lm_tree_cut.Q0 R -> Option R
namespace lm_tree_cut
abbrev J4 (R : Type) : Type := BA -> Int -> Int -> BA -> Int -> Int -> Int -> LA -> Option R
def t4 {R : Type} (c1 : st_Index.F R) (c2 : lm_bound.F R) (j4 : J4 R) (κ0 : Q0 R) : J4 R :=
 fun x0 x1 x2 x3 x4 x5 x6 x7 => (bif (decide (x2 <= x6)) then (chk ((decide ((0 : Int) <= x2)) && ((decide (x2 <= x6)) && (decide (x6 <= (x3.size : Int))))) (c1 (x3.extract (x2).toNat (x6).toNat) (⟨#[13, 10]⟩ : BA) (fun r367 => (bif (decide (r367 >= (0 : Int))) then (chk ((decide ((0 : Int) <= x2)) && ((decide (x2 <= (IntKind.wrap .i64 (x2 + r367)))) && (decide ((IntKind.wrap .i64 (x2 + r367)) <= (x3.size : Int))))) (c2 (x3.extract (x2).toNat ((IntKind.wrap .i64 (x2 + r367))).toNat) x0 (fun r368 r369 => (bif r368 then (bif (decide (x1 >= (0 : Int))) then (chk (decide ((x7.length + 1) * 16 <= 140737488355328)) (bif r369 then (κ0 (x7 ++ [AV.agg [AV.int x1, AV.int (max2 x1 (IntKind.wrap .i64 (x2 - 2)))]]) x3 x4) else (j4 x0 (min2 (IntKind.wrap .i64 ((IntKind.wrap .i64 (x2 + r367)) + 2)) x6) (IntKind.wrap .i64 ((IntKind.wrap .i64 (x2 + r367)) + 2)) x3 x4 x5 x6 (x7 ++ [AV.agg [AV.int x1, AV.int (max2 x1 (IntKind.wrap .i64 (x2 - 2)))]])))) else (bif r369 then (κ0 x7 x3 x4) else (j4 x0 (min2 (IntKind.wrap .i64 ((IntKind.wrap .i64 (x2 + r367)) + 2)) x6) (IntKind.wrap .i64 ((IntKind.wrap .i64 (x2 + r367)) + 2)) x3 x4 x5 x6 x7))) else (j4 x0 x1 (IntKind.wrap .i64 ((IntKind.wrap .i64 (x2 + r367)) + 2)) x3 x4 x5 x6 x7))))) else (chk ((decide ((0 : Int) <= x2)) && ((decide (x2 <= x6)) && (decide (x6 <= (x3.size : Int))))) (c2 (x3.extract (x2).toNat (x6).toNat) x0 (fun r370 r371 => (bif r370 then (bif (decide (x1 >= (0 : Int))) then (chk (decide ((x7.length + 1) * 16 <= 140737488355328)) (bif r371 then (κ0 (x7 ++ [AV.agg [AV.int x1, AV.int (max2 x1 (IntKind.wrap .i64 (x2 - 2)))]]) x3 x4) else (j4 x0 (min2 (IntKind.wrap .i64 (x6 + 1)) x6) (IntKind.wrap .i64 (x6 + 1)) x3 x4 x5 x6 (x7 ++ [AV.agg [AV.int x1, AV.int (max2 x1 (IntKind.wrap .i64 (x2 - 2)))]])))) else (bif r371 then (κ0 x7 x3 x4) else (j4 x0 (min2 (IntKind.wrap .i64 (x6 + 1)) x6) (IntKind.wrap .i64 (x6 + 1)) x3 x4 x5 x6 x7))) else (j4 x0 x1 (IntKind.wrap .i64 (x6 + 1)) x3 x4 x5 x6 x7))))))))) else (bif (decide (x1 >= (0 : Int))) then (chk (decide ((x7.length + 1) * 16 <= 140737488355328)) (κ0 (x7 ++ [AV.agg [AV.int x1, AV.int x6]]) x3 x4)) else (κ0 x7 x3 x4)))
def e {R : Type} (c1 : st_Index.F R) (c2 : lm_bound.F R) (a0 : BA) (a1 : Int) (a2 : Int) (a3 : Int) (a4 : BA) (j4 : J4 R) (κ0 : Q0 R) : Option R :=
 (j4 a4 (-1) a2 a0 a1 a2 a3 ([] : LA))
def L4 {R : Type} (c1 : st_Index.F R) (c2 : lm_bound.F R) (κ0 : Q0 R) : Nat -> J4 R
 | 0 => fun _ _ _ _ _ _ _ _ => none
 | f + 1 => t4 c1 c2 (L4 c1 c2 κ0 f) κ0
end lm_tree_cut
def lm_tree_cut {R : Type} : lm_tree_cut.F R := fun a0 a1 a2 a3 a4 κ0 => lm_tree_cut.e st_Index lm_bound a0 a1 a2 a3 a4 (lm_tree_cut.L4 st_Index lm_bound κ0 fuelK) κ0
abbrev lm_tree_parts.Q0 (R : Type) : Type := BA -> Int -> BA -> BA -> BA -> LA -> Bool -> BA -> Bool -> BA -> Bool -> BA -> Bool -> BA -> LA -> LA -> Bool -> BA -> Int -> Int -> Int -> Int -> Int -> Option R
abbrev lm_tree_parts.Q1 (R : Type) : Type := LA -> BA -> Int -> BA -> BA -> BA -> LA -> Bool -> BA -> Bool -> BA -> Bool -> BA -> Bool -> BA -> LA -> LA -> Bool -> BA -> Int -> Int -> Int -> Int -> Int -> Option R
abbrev lm_tree_parts.F (R : Type) : Type := BA -> Int -> BA -> BA -> BA -> LA -> Bool -> BA -> Bool -> BA -> Bool -> BA -> Bool -> BA -> LA -> LA -> Bool -> BA -> Int -> Int -> Int -> Int -> Int -> lm_tree_parts.Q0 R -> lm_tree_parts.Q1 R -> Option R
namespace lm_tree_parts
abbrev J8 (R : Type) : Type := LA -> Int -> Int -> BA -> BA -> BA -> LA -> Bool -> BA -> Bool -> BA -> Bool -> BA -> Bool -> BA -> LA -> LA -> Bool -> BA -> Int -> Int -> Int -> Int -> Int -> BA -> Int -> Option R
def t8 {R : Type} (c2 : lm_tree_cut.F R) (j8 : J8 R) (κ0 : Q0 R) (κ1 : Q1 R) : J8 R :=
 fun x0 x1 x2 x3 x4 x5 x6 x7 x8 x9 x10 x11 x12 x13 x14 x15 x16 x17 x18 x19 x20 x21 x22 x23 x24 x25 => (bif (decide (x2 < x1)) then (chk ((decide ((0 : Int) <= x2)) && (decide (x2 < (x0.length : Int)))) (bif (decide (((rdA x0 x2).fld 0).s = (⟨#[98, 111, 117, 110, 100, 97, 114, 121]⟩ : BA))) then (bif (decide ((((rdA x0 x2).fld 1).s.size : Int) >= (1 : Int))) then (bif (decide ((((rdA x0 x2).fld 1).s.size : Int) <= (70 : Int))) then (c2 x24 x25 x21 x22 ((rdA x0 x2).fld 1).s (fun r372 r373 r374 => (κ1 r372 r373 r374 x3 x4 x5 x6 x7 x8 x9 x10 x11 x12 x13 x14 x15 x16 x17 x18 x19 x20 x21 x22 x23))) else (j8 x0 x1 (IntKind.wrap .i64 (x2 + 1)) x3 x4 x5 x6 x7 x8 x9 x10 x11 x12 x13 x14 x15 x16 x17 x18 x19 x20 x21 x22 x23 x24 x25)) else (j8 x0 x1 (IntKind.wrap .i64 (x2 + 1)) x3 x4 x5 x6 x7 x8 x9 x10 x11 x12 x13 x14 x15 x16 x17 x18 x19 x20 x21 x22 x23 x24 x25)) else (j8 x0 x1 (IntKind.wrap .i64 (x2 + 1)) x3 x4 x5 x6 x7 x8 x9 x10 x11 x12 x13 x14 x15 x16 x17 x18 x19 x20 x21 x22 x23 x24 x25))) else (κ0 x24 x25 x3 x4 x5 x6 x7 x8 x9 x10 x11 x12 x13 x14 x15 x16 x17 x18 x19 x20 x21 x22 x23))
def e {R : Type} (c1 : lm_isMessage.F R) (c2 : lm_tree_cut.F R) (a0 : BA) (a1 : Int) (a2 : BA) (a3 : BA) (a4 : BA) (a5 : LA) (a6 : Bool) (a7 : BA) (a8 : Bool) (a9 : BA) (a10 : Bool) (a11 : BA) (a12 : Bool) (a13 : BA) (a14 : LA) (a15 : LA) (a16 : Bool) (a17 : BA) (a18 : Int) (a19 : Int) (a20 : Int) (a21 : Int) (a22 : Int) (j8 : J8 R) (κ0 : Q0 R) (κ1 : Q1 R) : Option R :=
 (c1 a2 a3 a4 a5 a6 a7 a8 a9 a10 a11 a12 a13 a14 a15 a16 a17 a18 a19 a20 a21 a22 (fun r334 r335 r336 r337 r338 r339 r340 r341 r342 r343 r344 r345 r346 r347 r348 r349 r350 r351 r352 r353 r354 r355 => (bif r334 then (bif r343 then (bif (!decide (r344 = (⟨#[55, 98, 105, 116]⟩ : BA))) then (bif (!decide (r344 = (⟨#[56, 98, 105, 116]⟩ : BA))) then (bif (!decide (r344 = (⟨#[98, 105, 110, 97, 114, 121]⟩ : BA))) then (κ0 a0 a1 r335 r336 r337 r338 r339 r340 r341 r342 r343 r344 r345 r346 r347 r348 r349 r350 r351 r352 r353 r354 r355) else (κ1 [AV.agg [AV.int r353, AV.int r354]] a0 a1 r335 r336 r337 r338 r339 r340 r341 r342 r343 r344 r345 r346 r347 r348 r349 r350 r351 r352 r353 r354 r355)) else (κ1 [AV.agg [AV.int r353, AV.int r354]] a0 a1 r335 r336 r337 r338 r339 r340 r341 r342 r343 r344 r345 r346 r347 r348 r349 r350 r351 r352 r353 r354 r355)) else (κ1 [AV.agg [AV.int r353, AV.int r354]] a0 a1 r335 r336 r337 r338 r339 r340 r341 r342 r343 r344 r345 r346 r347 r348 r349 r350 r351 r352 r353 r354 r355)) else (κ1 [AV.agg [AV.int r353, AV.int r354]] a0 a1 r335 r336 r337 r338 r339 r340 r341 r342 r343 r344 r345 r346 r347 r348 r349 r350 r351 r352 r353 r354 r355)) else (bif (!decide (r336 = (⟨#[109, 117, 108, 116, 105, 112, 97, 114, 116]⟩ : BA))) then (κ0 a0 a1 r335 r336 r337 r338 r339 r340 r341 r342 r343 r344 r345 r346 r347 r348 r349 r350 r351 r352 r353 r354 r355) else (j8 r338 (r338.length : Int) 0 r335 r336 r337 r338 r339 r340 r341 r342 r343 r344 r345 r346 r347 r348 r349 r350 r351 r352 r353 r354 r355 a0 a1)))))
def L8 {R : Type} (c1 : lm_isMessage.F R) (c2 : lm_tree_cut.F R) (κ0 : Q0 R) (κ1 : Q1 R) : Nat -> J8 R
 | 0 => fun _ _ _ _ _ _ _ _ _ _ _ _ _ _ _ _ _ _ _ _ _ _ _ _ _ _ => none
 | f + 1 => t8 c2 (L8 c1 c2 κ0 κ1 f) κ0 κ1
end lm_tree_parts
def lm_tree_parts {R : Type} : lm_tree_parts.F R := fun a0 a1 a2 a3 a4 a5 a6 a7 a8 a9 a10 a11 a12 a13 a14 a15 a16 a17 a18 a19 a20 a21 a22 κ0 κ1 => lm_tree_parts.e lm_isMessage lm_tree_cut a0 a1 a2 a3 a4 a5 a6 a7 a8 a9 a10 a11 a12 a13 a14 a15 a16 a17 a18 a19 a20 a21 a22 (lm_tree_parts.L8 lm_isMessage lm_tree_cut κ0 κ1 fuelK) κ0 κ1
abbrev sc_small.F (R : Type) : Type := Int -> (BA -> Option R) -> Option R
namespace sc_small
def e {R : Type} (a0 : Int) (κ0 : BA -> Option R) : Option R :=
 (bif (decide (a0 < (10 : Int))) then (chk ((decide ((0 : Int) <= a0)) && ((decide (a0 <= (IntKind.wrap .i64 (a0 + 1)))) && (decide ((IntKind.wrap .i64 (a0 + 1)) <= ((⟨#[48, 49, 50, 51, 52, 53, 54, 55, 56, 57, 97, 98, 99, 100, 101, 102, 103, 104, 105, 106, 107, 108, 109, 110, 111, 112, 113, 114, 115, 116, 117, 118, 119, 120, 121, 122]⟩ : BA).size : Int))))) (κ0 ((⟨#[48, 49, 50, 51, 52, 53, 54, 55, 56, 57, 97, 98, 99, 100, 101, 102, 103, 104, 105, 106, 107, 108, 109, 110, 111, 112, 113, 114, 115, 116, 117, 118, 119, 120, 121, 122]⟩ : BA).extract (a0).toNat ((IntKind.wrap .i64 (a0 + 1))).toNat))) else (chk ((decide ((0 : Int) <= (IntKind.wrap .i64 (a0 * 2)))) && ((decide ((IntKind.wrap .i64 (a0 * 2)) <= (IntKind.wrap .i64 ((IntKind.wrap .i64 (a0 * 2)) + 2)))) && (decide ((IntKind.wrap .i64 ((IntKind.wrap .i64 (a0 * 2)) + 2)) <= ((⟨#[48, 48, 48, 49, 48, 50, 48, 51, 48, 52, 48, 53, 48, 54, 48, 55, 48, 56, 48, 57, 49, 48, 49, 49, 49, 50, 49, 51, 49, 52, 49, 53, 49, 54, 49, 55, 49, 56, 49, 57, 50, 48, 50, 49, 50, 50, 50, 51, 50, 52, 50, 53, 50, 54, 50, 55, 50, 56, 50, 57, 51, 48, 51, 49, 51, 50, 51, 51, 51, 52, 51, 53, 51, 54, 51, 55, 51, 56, 51, 57, 52, 48, 52, 49, 52, 50, 52, 51, 52, 52, 52, 53, 52, 54, 52, 55, 52, 56, 52, 57, 53, 48, 53, 49, 53, 50, 53, 51, 53, 52, 53, 53, 53, 54, 53, 55, 53, 56, 53, 57, 54, 48, 54, 49, 54, 50, 54, 51, 54, 52, 54, 53, 54, 54, 54, 55, 54, 56, 54, 57, 55, 48, 55, 49, 55, 50, 55, 51, 55, 52, 55, 53, 55, 54, 55, 55, 55, 56, 55, 57, 56, 48, 56, 49, 56, 50, 56, 51, 56, 52, 56, 53, 56, 54, 56, 55, 56, 56, 56, 57, 57, 48, 57, 49, 57, 50, 57, 51, 57, 52, 57, 53, 57, 54, 57, 55, 57, 56, 57, 57]⟩ : BA).size : Int))))) (κ0 ((⟨#[48, 48, 48, 49, 48, 50, 48, 51, 48, 52, 48, 53, 48, 54, 48, 55, 48, 56, 48, 57, 49, 48, 49, 49, 49, 50, 49, 51, 49, 52, 49, 53, 49, 54, 49, 55, 49, 56, 49, 57, 50, 48, 50, 49, 50, 50, 50, 51, 50, 52, 50, 53, 50, 54, 50, 55, 50, 56, 50, 57, 51, 48, 51, 49, 51, 50, 51, 51, 51, 52, 51, 53, 51, 54, 51, 55, 51, 56, 51, 57, 52, 48, 52, 49, 52, 50, 52, 51, 52, 52, 52, 53, 52, 54, 52, 55, 52, 56, 52, 57, 53, 48, 53, 49, 53, 50, 53, 51, 53, 52, 53, 53, 53, 54, 53, 55, 53, 56, 53, 57, 54, 48, 54, 49, 54, 50, 54, 51, 54, 52, 54, 53, 54, 54, 54, 55, 54, 56, 54, 57, 55, 48, 55, 49, 55, 50, 55, 51, 55, 52, 55, 53, 55, 54, 55, 55, 55, 56, 55, 57, 56, 48, 56, 49, 56, 50, 56, 51, 56, 52, 56, 53, 56, 54, 56, 55, 56, 56, 56, 57, 57, 48, 57, 49, 57, 50, 57, 51, 57, 52, 57, 53, 57, 54, 57, 55, 57, 56, 57, 57]⟩ : BA).extract ((IntKind.wrap .i64 (a0 * 2))).toNat ((IntKind.wrap .i64 ((IntKind.wrap .i64 (a0 * 2)) + 2))).toNat))))
end sc_small
def sc_small {R : Type} : sc_small.F R := fun a0 κ0 => sc_small.e a0 κ0
abbrev sc_FormatInt.F (R : Type) : Type := Int -> Int -> (BA -> Option R) -> Option R
namespace sc_FormatInt
def e {R : Type} (c1 : sc_small.F R) (a0 : Int) (a1 : Int) (κ0 : BA -> Option R) : Option R :=
 (bif (a1 == 10) then (bif (decide ((0 : Int) <= a0)) then (bif (decide (a0 < (100 : Int))) then (c1 a0 (fun r514 => (κ0 r514))) else (bif (decide (a0 < (0 : Int))) then none else none)) else (bif (decide (a0 < (0 : Int))) then none else none)) else none)
end sc_FormatInt
def sc_FormatInt {R : Type} : sc_FormatInt.F R := fun a0 a1 κ0 => sc_FormatInt.e sc_small a0 a1 κ0
abbrev sc_Itoa.F (R : Type) : Type := Int -> (BA -> Option R) -> Option R
namespace sc_Itoa
def e {R : Type} (c1 : sc_FormatInt.F R) (a0 : Int) (κ0 : BA -> Option R) : Option R :=
 (c1 a0 10 (fun r523 => (κ0 r523)))
end sc_Itoa
def sc_Itoa {R : Type} : sc_Itoa.F R := fun a0 κ0 => sc_Itoa.e sc_FormatInt a0 κ0
abbrev sc_Itoa1.F (R : Type) : Type := Int -> (BA -> Option R) -> Option R
namespace sc_Itoa1
def e {R : Type} (c1 : sc_Itoa.F R) (a0 : Int) (κ0 : BA -> Option R) : Option R :=
 (c1 a0 (fun r524 => (κ0 r524)))
end sc_Itoa1
def sc_Itoa1 {R : Type} : sc_Itoa1.F R := fun a0 κ0 => sc_Itoa1.e sc_Itoa a0 κ0
abbrev u8_RuneCountInString.F (R : Type) : Type := BA -> (Int -> Option R) -> Option R
namespace u8_RuneCountInString
abbrev J2 (R : Type) : Type := Int -> BA -> Nat -> Option R
def t2 {R : Type} (j2 : J2 R) (κ0 : Int -> Option R) : J2 R :=
 fun x0 x1 x2 => (bif (decide (x2 < x1.size)) then (j2 (IntKind.wrap .i64 (x0 + 1)) x1 (x2 + (Utf8.decode x1 x2).2)) else (κ0 x0))
def e {R : Type} (a0 : BA) (j2 : J2 R) (κ0 : Int -> Option R) : Option R :=
 (j2 0 a0 0)
def L2 {R : Type} (κ0 : Int -> Option R) : Nat -> J2 R
 | 0 => fun _ _ _ => none
 | f + 1 => t2 (L2 κ0 f) κ0
end u8_RuneCountInString
def u8_RuneCountInString {R : Type} : u8_RuneCountInString.F R := fun a0 κ0 => u8_RuneCountInString.e a0 (u8_RuneCountInString.L2 κ0 fuelK) κ0
abbrev st_Count.F (R : Type) : Type := BA -> BA -> (Int -> Option R) -> Option R
namespace st_Count
abbrev J6 (R : Type) : Type := BA -> BA -> Int -> Option R
def t6 {R : Type} (c2 : st_Index.F R) (j6 : J6 R) (κ0 : Int -> Option R) : J6 R :=
 fun x0 x1 x2 => (c2 x0 x1 (fun r643 => (bif (r643 == (-1)) then (κ0 x2) else (chk ((decide ((0 : Int) <= (IntKind.wrap .i64 (r643 + (x1.size : Int))))) && ((decide ((IntKind.wrap .i64 (r643 + (x1.size : Int))) <= (x0.size : Int))) && (decide ((x0.size : Int) <= (x0.size : Int))))) (j6 (x0.extract ((IntKind.wrap .i64 (r643 + (x1.size : Int)))).toNat ((x0.size : Int)).toNat) x1 (IntKind.wrap .i64 (x2 + 1)))))))
def e {R : Type} (c1 : u8_RuneCountInString.F R) (c2 : st_Index.F R) (a0 : BA) (a1 : BA) (j6 : J6 R) (κ0 : Int -> Option R) : Option R :=
 (bif ((a1.size : Int) == 0) then (c1 a0 (fun r642 => (κ0 (IntKind.wrap .i64 (r642 + 1))))) else (bif ((a1.size : Int) == 1) then (chk (decide ((0 : Int) < (a1.size : Int))) none) else (j6 a0 a1 0)))
def L6 {R : Type} (c1 : u8_RuneCountInString.F R) (c2 : st_Index.F R) (κ0 : Int -> Option R) : Nat -> J6 R
 | 0 => fun _ _ _ => none
 | f + 1 => t6 c2 (L6 c1 c2 κ0 f) κ0
end st_Count
def st_Count {R : Type} : st_Count.F R := fun a0 a1 κ0 => st_Count.e u8_RuneCountInString st_Index a0 a1 (st_Count.L6 u8_RuneCountInString st_Index κ0 fuelK) κ0
abbrev lm_isMessage1.Q0 (R : Type) : Type := Bool -> BA -> BA -> BA -> LA -> Bool -> BA -> Bool -> BA -> Bool -> BA -> Bool -> BA -> LA -> LA -> Bool -> BA -> Int -> Int -> Int -> Int -> Int -> LA -> Option R
abbrev lm_isMessage1.F (R : Type) : Type := BA -> BA -> BA -> LA -> Bool -> BA -> Bool -> BA -> Bool -> BA -> Bool -> BA -> LA -> LA -> Bool -> BA -> Int -> Int -> Int -> Int -> Int -> LA -> lm_isMessage1.Q0 R -> Option R
namespace lm_isMessage1
def e {R : Type} (a0 : BA) (a1 : BA) (a2 : BA) (a3 : LA) (a4 : Bool) (a5 : BA) (a6 : Bool) (a7 : BA) (a8 : Bool) (a9 : BA) (a10 : Bool) (a11 : BA) (a12 : LA) (a13 : LA) (a14 : Bool) (a15 : BA) (a16 : Int) (a17 : Int) (a18 : Int) (a19 : Int) (a20 : Int) (a21 : LA) (κ0 : Q0 R) : Option R :=
 (bif (decide (a1 = (⟨#[109, 101, 115, 115, 97, 103, 101]⟩ : BA))) then (κ0 (decide (a2 = (⟨#[114, 102, 99, 56, 50, 50]⟩ : BA))) a0 a1 a2 a3 a4 a5 a6 a7 a8 a9 a10 a11 a12 a13 a14 a15 a16 a17 a18 a19 a20 a21) else (κ0 false a0 a1 a2 a3 a4 a5 a6 a7 a8 a9 a10 a11 a12 a13 a14 a15 a16 a17 a18 a19 a20 a21))
end lm_isMessage1
def lm_isMessage1 {R : Type} : lm_isMessage1.F R := fun a0 a1 a2 a3 a4 a5 a6 a7 a8 a9 a10 a11 a12 a13 a14 a15 a16 a17 a18 a19 a20 a21 κ0 => lm_isMessage1.e a0 a1 a2 a3 a4 a5 a6 a7 a8 a9 a10 a11 a12 a13 a14 a15 a16 a17 a18 a19 a20 a21 κ0
abbrev lm_isMessage2.Q0 (R : Type) : Type := Bool -> BA -> BA -> BA -> LA -> Bool -> BA -> Bool -> BA -> Bool -> BA -> Bool -> BA -> LA -> LA -> Bool -> BA -> Int -> Int -> Int -> Int -> Int -> LA -> Option R
abbrev lm_isMessage2.F (R : Type) : Type := BA -> BA -> BA -> LA -> Bool -> BA -> Bool -> BA -> Bool -> BA -> Bool -> BA -> LA -> LA -> Bool -> BA -> Int -> Int -> Int -> Int -> Int -> LA -> lm_isMessage2.Q0 R -> Option R
namespace lm_isMessage2
def e {R : Type} (a0 : BA) (a1 : BA) (a2 : BA) (a3 : LA) (a4 : Bool) (a5 : BA) (a6 : Bool) (a7 : BA) (a8 : Bool) (a9 : BA) (a10 : Bool) (a11 : BA) (a12 : LA) (a13 : LA) (a14 : Bool) (a15 : BA) (a16 : Int) (a17 : Int) (a18 : Int) (a19 : Int) (a20 : Int) (a21 : LA) (κ0 : Q0 R) : Option R :=
 (bif (decide (a1 = (⟨#[109, 101, 115, 115, 97, 103, 101]⟩ : BA))) then (κ0 (decide (a2 = (⟨#[114, 102, 99, 56, 50, 50]⟩ : BA))) a0 a1 a2 a3 a4 a5 a6 a7 a8 a9 a10 a11 a12 a13 a14 a15 a16 a17 a18 a19 a20 a21) else (κ0 false a0 a1 a2 a3 a4 a5 a6 a7 a8 a9 a10 a11 a12 a13 a14 a15 a16 a17 a18 a19 a20 a21))
end lm_isMessage2
def lm_isMessage2 {R : Type} : lm_isMessage2.F R := fun a0 a1 a2 a3 a4 a5 a6 a7 a8 a9 a10 a11 a12 a13 a14 a15 a16 a17 a18 a19 a20 a21 κ0 => lm_isMessage2.e a0 a1 a2 a3 a4 a5 a6 a7 a8 a9 a10 a11 a12 a13 a14 a15 a16 a17 a18 a19 a20 a21 κ0
abbrev lm_place.Q0 (R : Type) : Type := BA -> BA -> BA -> BA -> LA -> Bool -> BA -> Bool -> BA -> Bool -> BA -> Bool -> BA -> LA -> LA -> Bool -> BA -> Int -> Int -> Int -> Int -> Int -> LA -> Option R
abbrev lm_place.F (R : Type) : Type := BA -> BA -> BA -> LA -> Bool -> BA -> Bool -> BA -> Bool -> BA -> Bool -> BA -> LA -> LA -> Bool -> BA -> Int -> Int -> Int -> Int -> Int -> LA -> Int -> Bool -> Int -> lm_place.Q0 R -> Option R
namespace lm_place
def e {R : Type} (c1 : lm_isMessage2.F R) (c2 : sc_Itoa1.F R) (a0 : BA) (a1 : BA) (a2 : BA) (a3 : LA) (a4 : Bool) (a5 : BA) (a6 : Bool) (a7 : BA) (a8 : Bool) (a9 : BA) (a10 : Bool) (a11 : BA) (a12 : LA) (a13 : LA) (a14 : Bool) (a15 : BA) (a16 : Int) (a17 : Int) (a18 : Int) (a19 : Int) (a20 : Int) (a21 : LA) (a22 : Int) (a23 : Bool) (a24 : Int) (κ0 : Q0 R) : Option R :=
 (c1 a0 a1 a2 a3 a4 a5 a6 a7 a8 a9 a10 a11 a12 a13 a14 a15 a16 a17 a18 a19 a20 a21 (fun r1221 r1222 r1223 r1224 r1225 r1226 r1227 r1228 r1229 r1230 r1231 r1232 r1233 r1234 r1235 r1236 r1237 r1238 r1239 r1240 r1241 r1242 r1243 => (bif r1221 then (bif (decide (a22 > (0 : Int))) then (bif (!a23) then (κ0 r1222 r1222 r1223 r1224 r1225 r1226 r1227 r1228 r1229 r1230 r1231 r1232 r1233 r1234 r1235 r1236 r1237 r1238 r1239 r1240 r1241 r1242 r1243) else (bif (decide (r1222 = (⟨#[]⟩ : BA))) then (c2 a24 (fun r1244 => (κ0 r1244 r1222 r1223 r1224 r1225 r1226 r1227 r1228 r1229 r1230 r1231 r1232 r1233 r1234 r1235 r1236 r1237 r1238 r1239 r1240 r1241 r1242 r1243))) else (chk (decide (r1222.size + (⟨#[46]⟩ : BA).size <= 9223372036854775807)) (c2 a24 (fun r1245 => (chk (decide ((r1222 ++ (⟨#[46]⟩ : BA)).size + r1245.size <= 9223372036854775807)) (κ0 ((r1222 ++ (⟨#[46]⟩ : BA)) ++ r1245) r1222 r1223 r1224 r1225 r1226 r1227 r1228 r1229 r1230 r1231 r1232 r1233 r1234 r1235 r1236 r1237 r1238 r1239 r1240 r1241 r1242 r1243))))))) else (bif (decide (r1222 = (⟨#[]⟩ : BA))) then (c2 a24 (fun r1246 => (κ0 r1246 r1222 r1223 r1224 r1225 r1226 r1227 r1228 r1229 r1230 r1231 r1232 r1233 r1234 r1235 r1236 r1237 r1238 r1239 r1240 r1241 r1242 r1243))) else (chk (decide (r1222.size + (⟨#[46]⟩ : BA).size <= 9223372036854775807)) (c2 a24 (fun r1247 => (chk (decide ((r1222 ++ (⟨#[46]⟩ : BA)).size + r1247.size <= 9223372036854775807)) (κ0 ((r1222 ++ (⟨#[46]⟩ : BA)) ++ r1247) r1222 r1223 r1224 r1225 r1226 r1227 r1228 r1229 r1230 r1231 r1232 r1233 r1234 r1235 r1236 r1237 r1238 r1239 r1240 r1241 r1242 r1243))))))) else (bif (decide (r1222 = (⟨#[]⟩ : BA))) then (c2 a24 (fun r1248 => (κ0 r1248 r1222 r1223 r1224 r1225 r1226 r1227 r1228 r1229 r1230 r1231 r1232 r1233 r1234 r1235 r1236 r1237 r1238 r1239 r1240 r1241 r1242 r1243))) else (chk (decide (r1222.size + (⟨#[46]⟩ : BA).size <= 9223372036854775807)) (c2 a24 (fun r1249 => (chk (decide ((r1222 ++ (⟨#[46]⟩ : BA)).size + r1249.size <= 9223372036854775807)) (κ0 ((r1222 ++ (⟨#[46]⟩ : BA)) ++ r1249) r1222 r1223 r1224 r1225 r1226 r1227 r1228 r1229 r1230 r1231 r1232 r1233 r1234 r1235 r1236 r1237 r1238 r1239 r1240 r1241 r1242 r1243)))))))))
end lm_place
def lm_place {R : Type} : lm_place.F R := fun a0 a1 a2 a3 a4 a5 a6 a7 a8 a9 a10 a11 a12 a13 a14 a15 a16 a17 a18 a19 a20 a21 a22 a23 a24 κ0 => lm_place.e lm_isMessage2 sc_Itoa1 a0 a1 a2 a3 a4 a5 a6 a7 a8 a9 a10 a11 a12 a13 a14 a15 a16 a17 a18 a19 a20 a21 a22 a23 a24 κ0
abbrev lm_tree_open.Q0 (R : Type) : Type := BA -> Int -> BA -> BA -> BA -> LA -> Bool -> BA -> Bool -> BA -> Bool -> BA -> Bool -> BA -> LA -> LA -> Bool -> BA -> Int -> Int -> Int -> Int -> Int -> LA -> Option R
abbrev lm_tree_open.Q1 (R : Type) : Type := BA -> Int -> BA -> BA -> BA -> Bool -> BA -> Bool -> BA -> Bool -> BA -> Bool -> BA -> LA -> LA -> Bool -> BA -> Int -> Int -> Int -> Int -> Int -> LA -> Option R
abbrev lm_tree_open.F (R : Type) : Type := BA -> Int -> BA -> BA -> BA -> LA -> Bool -> BA -> Bool -> BA -> Bool -> BA -> Bool -> BA -> LA -> LA -> Bool -> BA -> Int -> Int -> Int -> Int -> Int -> Int -> Bool -> lm_tree_open.Q0 R -> lm_tree_open.Q1 R -> Option R
namespace lm_tree_open
abbrev J2 (R : Type) : Type := Int -> Bool -> BA -> BA -> BA -> LA -> Bool -> BA -> Bool -> BA -> Bool -> BA -> Bool -> BA -> LA -> LA -> Bool -> BA -> Int -> Int -> Int -> Int -> Int -> BA -> Int -> LA -> Option R
abbrev J5 (R : Type) : Type := Int -> Bool -> Int -> Int -> BA -> BA -> BA -> LA -> Bool -> BA -> Bool -> BA -> Bool -> BA -> Bool -> BA -> LA -> LA -> Bool -> BA -> Int -> Int -> Int -> Int -> Int -> BA -> Int -> LA -> LA -> Option R
abbrev J8 (R : Type) : Type := Int -> Bool -> Int -> Int -> Int -> BA -> BA -> BA -> LA -> Bool -> BA -> Bool -> BA -> Bool -> BA -> Bool -> BA -> LA -> LA -> Bool -> BA -> Int -> Int -> Int -> Int -> Int -> BA -> Int -> LA -> BA -> BA -> BA -> LA -> Bool -> BA -> Bool -> BA -> Bool -> BA -> Bool -> BA -> LA -> LA -> Bool -> BA -> Int -> Int -> Int -> Int -> Int -> LA -> Option R
abbrev J14 (R : Type) : Type := Int -> Bool -> Int -> Int -> BA -> BA -> BA -> LA -> Bool -> BA -> Bool -> BA -> Bool -> BA -> Bool -> BA -> LA -> LA -> Bool -> BA -> Int -> Int -> Int -> Int -> Int -> BA -> Int -> LA -> LA -> Option R
abbrev J15 (R : Type) : Type := BA -> BA -> BA -> LA -> Bool -> BA -> Bool -> BA -> Bool -> BA -> Bool -> BA -> LA -> LA -> Bool -> BA -> Int -> Int -> Int -> Int -> Int -> LA -> BA -> Int -> Option R
def s14 := fun x0 x1 x2 x3 x4 x5 x6 x7 x8 x9 x10 x11 x12 x13 x14 x15 x16 x17 x18 x19 x20 x21 x22 x23 x24 x25 x26 x27 x28 => (⟨mkS 156 [(0, .ptr 0 0), (1, .ptr 1 0), (2, .int .i64 x0), (3, .bool x1), (40, .own 2624), (41, .int .i64 x2), (42, .int .i64 x3)], [(1, .var 32 [.str x4, .str x5, .str x6, .ro 129 x7 true, .bool x8, .str x9, .bool x10, .str x11, .bool x12, .str x13, .bool x14, .str x15, .ro 129 x16 true, .ro 9 x17 true, .bool x18, .str x19, .int .i64 x20, .int .i64 x21, .int .i64 x22, .int .i64 x23, .int .i64 x24, .own 149]), (0, .var 94 [.str x25, .int .i64 x26]), (149, .row 32 x27 true), (2624, .row 29 x28 true)], top⟩ : St)
def t2 {R : Type} (j5 : J5 R) (j15 : J15 R) : J2 R :=
 fun x0 x1 x2 x3 x4 x5 x6 x7 x8 x9 x10 x11 x12 x13 x14 x15 x16 x17 x18 x19 x20 x21 x22 x23 x24 x25 => (bif (decide (x0 < (5 : Int))) then (bif (decide ((IntKind.wrap .i64 (x24 + (x25.length : Int))) <= (16 : Int))) then (j5 x0 x1 (x25.length : Int) 0 x2 x3 x4 x5 x6 x7 x8 x9 x10 x11 x12 x13 x14 x15 x16 x17 x18 x19 x20 x21 x22 x23 (IntKind.wrap .i64 (x24 + (x25.length : Int))) ([] : LA) x25) else (j15 x2 x3 x4 x5 x6 x7 x8 x9 x10 x11 x12 x13 x14 x15 x16 x17 x18 x19 x20 x21 x22 ([] : LA) x23 x24)) else (j15 x2 x3 x4 x5 x6 x7 x8 x9 x10 x11 x12 x13 x14 x15 x16 x17 x18 x19 x20 x21 x22 ([] : LA) x23 x24))
def t5 {R : Type} (c2 : lm_tree_limb.F R) (j8 : J8 R) (j15 : J15 R) : J5 R :=
 fun x0 x1 x2 x3 x4 x5 x6 x7 x8 x9 x10 x11 x12 x13 x14 x15 x16 x17 x18 x19 x20 x21 x22 x23 x24 x25 x26 x27 x28 => (bif (decide (x3 < x2)) then (chk ((decide ((0 : Int) <= x3)) && (decide (x3 < (x28.length : Int)))) (bif (decide (x5 = (⟨#[109, 117, 108, 116, 105, 112, 97, 114, 116]⟩ : BA))) then (c2 x25 x26 ((rdA x28 x3).fld 0).i ((rdA x28 x3).fld 1).i (decide (x6 = (⟨#[100, 105, 103, 101, 115, 116]⟩ : BA))) (fun r2710 r2711 r2712 r2713 r2714 r2715 r2716 r2717 r2718 r2719 r2720 r2721 r2722 r2723 r2724 r2725 r2726 r2727 r2728 r2729 r2730 r2731 r2732 => (j8 x0 x1 x3 x2 x3 x4 x5 x6 x7 x8 x9 x10 x11 x12 x13 x14 x15 x16 x17 x18 x19 x20 x21 x22 x23 x24 r2731 r2732 x27 r2710 r2711 r2712 r2713 r2714 r2715 r2716 r2717 r2718 r2719 r2720 r2721 r2722 r2723 r2724 r2725 r2726 r2727 r2728 r2729 r2730 x28))) else (c2 x25 x26 ((rdA x28 x3).fld 0).i ((rdA x28 x3).fld 1).i false (fun r2733 r2734 r2735 r2736 r2737 r2738 r2739 r2740 r2741 r2742 r2743 r2744 r2745 r2746 r2747 r2748 r2749 r2750 r2751 r2752 r2753 r2754 r2755 => (j8 x0 x1 x3 x2 x3 x4 x5 x6 x7 x8 x9 x10 x11 x12 x13 x14 x15 x16 x17 x18 x19 x20 x21 x22 x23 x24 r2754 r2755 x27 r2733 r2734 r2735 r2736 r2737 r2738 r2739 r2740 r2741 r2742 r2743 r2744 r2745 r2746 r2747 r2748 r2749 r2750 r2751 r2752 r2753 x28))))) else (j15 x4 x5 x6 x7 x8 x9 x10 x11 x12 x13 x14 x15 x16 x17 x18 x19 x20 x21 x22 x23 x24 x27 x25 x26))
def t8 {R : Type} (c5 : lm_place.F R) (c6 : lm_isMessage2.F R) (c7 : lm_tree_open.F R) (j14 : J14 R) : J8 R :=
 fun x0 x1 x2 x3 x4 x5 x6 x7 x8 x9 x10 x11 x12 x13 x14 x15 x16 x17 x18 x19 x20 x21 x22 x23 x24 x25 x26 x27 x28 x29 x30 x31 x32 x33 x34 x35 x36 x37 x38 x39 x40 x41 x42 x43 x44 x45 x46 x47 x48 x49 x50 => (c5 x5 x6 x7 x8 x9 x10 x11 x12 x13 x14 x15 x16 x17 x18 x19 x20 x21 x22 x23 x24 x25 x28 x0 x1 (IntKind.wrap .i64 (x2 + 1)) (fun r2803 r2804 r2805 r2806 r2807 r2808 r2809 r2810 r2811 r2812 r2813 r2814 r2815 r2816 r2817 r2818 r2819 r2820 r2821 r2822 r2823 r2824 r2825 => (c6 r2804 r2805 r2806 r2807 r2808 r2809 r2810 r2811 r2812 r2813 r2814 r2815 r2816 r2817 r2818 r2819 r2820 r2821 r2822 r2823 r2824 r2825 (fun r2826 r2827 r2828 r2829 r2830 r2831 r2832 r2833 r2834 r2835 r2836 r2837 r2838 r2839 r2840 r2841 r2842 r2843 r2844 r2845 r2846 r2847 r2848 => (c7 x26 x27 r2803 x30 x31 x32 x33 x34 x35 x36 x37 x38 x39 x40 x41 x42 x43 x44 x45 x46 x47 x48 x49 (IntKind.wrap .i64 (x0 + 1)) r2826 (fun r2849 r2850 r2851 r2852 r2853 r2854 r2855 r2856 r2857 r2858 r2859 r2860 r2861 r2862 r2863 r2864 r2865 r2866 r2867 r2868 r2869 r2870 r2871 r2872 => (chk (decide ((r2848.length + 1) * 304 <= 140737488355328)) (chk (decide ((r2848.length + 1) * 304 <= 140737488355328)) (chk ((decide ((0 : Int) <= (r2848.length : Int))) && (decide ((r2848.length : Int) < ((r2848 ++ [AV.agg [AV.str (⟨#[]⟩ : BA), AV.str (⟨#[]⟩ : BA), AV.str (⟨#[]⟩ : BA), AV.sl [], AV.bool false, AV.str (⟨#[]⟩ : BA), AV.bool false, AV.str (⟨#[]⟩ : BA), AV.bool false, AV.str (⟨#[]⟩ : BA), AV.bool false, AV.str (⟨#[]⟩ : BA), AV.sl [], AV.sl [], AV.bool false, AV.str (⟨#[]⟩ : BA), AV.int 0, AV.int 0, AV.int 0, AV.int 0, AV.int 0, AV.sl []]]).length : Int)))) (chk (eqSt (s14 x0 x1 x3 x4 r2827 r2828 r2829 r2830 r2831 r2832 r2833 r2834 r2835 r2836 r2837 r2838 r2839 r2840 r2841 r2842 r2843 r2844 r2845 r2846 r2847 r2849 r2850 (r2848 ++ [AV.agg [AV.str r2851, AV.str r2852, AV.str r2853, AV.sl r2854, AV.bool r2855, AV.str r2856, AV.bool r2857, AV.str r2858, AV.bool r2859, AV.str r2860, AV.bool r2861, AV.str r2862, AV.sl r2863, AV.sl r2864, AV.bool r2865, AV.str r2866, AV.int r2867, AV.int r2868, AV.int r2869, AV.int r2870, AV.int r2871, AV.sl r2872]]) x50) (s14 x0 x1 x3 x4 r2827 r2828 r2829 r2830 r2831 r2832 r2833 r2834 r2835 r2836 r2837 r2838 r2839 r2840 r2841 r2842 r2843 r2844 r2845 r2846 r2847 r2849 r2850 (setA (r2848 ++ [AV.agg [AV.str (⟨#[]⟩ : BA), AV.str (⟨#[]⟩ : BA), AV.str (⟨#[]⟩ : BA), AV.sl [], AV.bool false, AV.str (⟨#[]⟩ : BA), AV.bool false, AV.str (⟨#[]⟩ : BA), AV.bool false, AV.str (⟨#[]⟩ : BA), AV.bool false, AV.str (⟨#[]⟩ : BA), AV.sl [], AV.sl [], AV.bool false, AV.str (⟨#[]⟩ : BA), AV.int 0, AV.int 0, AV.int 0, AV.int 0, AV.int 0, AV.sl []]]) (r2848.length : Int) (AV.agg [AV.str r2851, AV.str r2852, AV.str r2853, AV.sl r2854, AV.bool r2855, AV.str r2856, AV.bool r2857, AV.str r2858, AV.bool r2859, AV.str r2860, AV.bool r2861, AV.str r2862, AV.sl r2863, AV.sl r2864, AV.bool r2865, AV.str r2866, AV.int r2867, AV.int r2868, AV.int r2869, AV.int r2870, AV.int r2871, AV.sl r2872])) x50)) (j14 x0 x1 x3 x4 r2827 r2828 r2829 r2830 r2831 r2832 r2833 r2834 r2835 r2836 r2837 r2838 r2839 r2840 r2841 r2842 r2843 r2844 r2845 r2846 r2847 r2849 r2850 (setA (r2848 ++ [AV.agg [AV.str (⟨#[]⟩ : BA), AV.str (⟨#[]⟩ : BA), AV.str (⟨#[]⟩ : BA), AV.sl [], AV.bool false, AV.str (⟨#[]⟩ : BA), AV.bool false, AV.str (⟨#[]⟩ : BA), AV.bool false, AV.str (⟨#[]⟩ : BA), AV.bool false, AV.str (⟨#[]⟩ : BA), AV.sl [], AV.sl [], AV.bool false, AV.str (⟨#[]⟩ : BA), AV.int 0, AV.int 0, AV.int 0, AV.int 0, AV.int 0, AV.sl []]]) (r2848.length : Int) (AV.agg [AV.str r2851, AV.str r2852, AV.str r2853, AV.sl r2854, AV.bool r2855, AV.str r2856, AV.bool r2857, AV.str r2858, AV.bool r2859, AV.str r2860, AV.bool r2861, AV.str r2862, AV.sl r2863, AV.sl r2864, AV.bool r2865, AV.str r2866, AV.int r2867, AV.int r2868, AV.int r2869, AV.int r2870, AV.int r2871, AV.sl r2872])) x50)))))) (fun r2873 r2874 r2875 r2876 r2877 r2878 r2879 r2880 r2881 r2882 r2883 r2884 r2885 r2886 r2887 r2888 r2889 r2890 r2891 r2892 r2893 r2894 r2895 => (chk (decide ((r2848.length + 1) * 304 <= 140737488355328)) (chk (decide ((r2848.length + 1) * 304 <= 140737488355328)) (chk ((decide ((0 : Int) <= (r2848.length : Int))) && (decide ((r2848.length : Int) < ((r2848 ++ [AV.agg [AV.str (⟨#[]⟩ : BA), AV.str (⟨#[]⟩ : BA), AV.str (⟨#[]⟩ : BA), AV.sl [], AV.bool false, AV.str (⟨#[]⟩ : BA), AV.bool false, AV.str (⟨#[]⟩ : BA), AV.bool false, AV.str (⟨#[]⟩ : BA), AV.bool false, AV.str (⟨#[]⟩ : BA), AV.sl [], AV.sl [], AV.bool false, AV.str (⟨#[]⟩ : BA), AV.int 0, AV.int 0, AV.int 0, AV.int 0, AV.int 0, AV.sl []]]).length : Int)))) (chk (eqSt (s14 x0 x1 x3 x4 r2827 r2828 r2829 r2830 r2831 r2832 r2833 r2834 r2835 r2836 r2837 r2838 r2839 r2840 r2841 r2842 r2843 r2844 r2845 r2846 r2847 r2873 r2874 (r2848 ++ [AV.agg [AV.str r2875, AV.str r2876, AV.str r2877, AV.sl [], AV.bool r2878, AV.str r2879, AV.bool r2880, AV.str r2881, AV.bool r2882, AV.str r2883, AV.bool r2884, AV.str r2885, AV.sl r2886, AV.sl r2887, AV.bool r2888, AV.str r2889, AV.int r2890, AV.int r2891, AV.int r2892, AV.int r2893, AV.int r2894, AV.sl r2895]]) x50) (s14 x0 x1 x3 x4 r2827 r2828 r2829 r2830 r2831 r2832 r2833 r2834 r2835 r2836 r2837 r2838 r2839 r2840 r2841 r2842 r2843 r2844 r2845 r2846 r2847 r2873 r2874 (setA (r2848 ++ [AV.agg [AV.str (⟨#[]⟩ : BA), AV.str (⟨#[]⟩ : BA), AV.str (⟨#[]⟩ : BA), AV.sl [], AV.bool false, AV.str (⟨#[]⟩ : BA), AV.bool false, AV.str (⟨#[]⟩ : BA), AV.bool false, AV.str (⟨#[]⟩ : BA), AV.bool false, AV.str (⟨#[]⟩ : BA), AV.sl [], AV.sl [], AV.bool false, AV.str (⟨#[]⟩ : BA), AV.int 0, AV.int 0, AV.int 0, AV.int 0, AV.int 0, AV.sl []]]) (r2848.length : Int) (AV.agg [AV.str r2875, AV.str r2876, AV.str r2877, AV.sl [], AV.bool r2878, AV.str r2879, AV.bool r2880, AV.str r2881, AV.bool r2882, AV.str r2883, AV.bool r2884, AV.str r2885, AV.sl r2886, AV.sl r2887, AV.bool r2888, AV.str r2889, AV.int r2890, AV.int r2891, AV.int r2892, AV.int r2893, AV.int r2894, AV.sl r2895])) x50)) (j14 x0 x1 x3 x4 r2827 r2828 r2829 r2830 r2831 r2832 r2833 r2834 r2835 r2836 r2837 r2838 r2839 r2840 r2841 r2842 r2843 r2844 r2845 r2846 r2847 r2873 r2874 (setA (r2848 ++ [AV.agg [AV.str (⟨#[]⟩ : BA), AV.str (⟨#[]⟩ : BA), AV.str (⟨#[]⟩ : BA), AV.sl [], AV.bool false, AV.str (⟨#[]⟩ : BA), AV.bool false, AV.str (⟨#[]⟩ : BA), AV.bool false, AV.str (⟨#[]⟩ : BA), AV.bool false, AV.str (⟨#[]⟩ : BA), AV.sl [], AV.sl [], AV.bool false, AV.str (⟨#[]⟩ : BA), AV.int 0, AV.int 0, AV.int 0, AV.int 0, AV.int 0, AV.sl []]]) (r2848.length : Int) (AV.agg [AV.str r2875, AV.str r2876, AV.str r2877, AV.sl [], AV.bool r2878, AV.str r2879, AV.bool r2880, AV.str r2881, AV.bool r2882, AV.str r2883, AV.bool r2884, AV.str r2885, AV.sl r2886, AV.sl r2887, AV.bool r2888, AV.str r2889, AV.int r2890, AV.int r2891, AV.int r2892, AV.int r2893, AV.int r2894, AV.sl r2895])) x50)))))))))))
def t14 {R : Type} (j5 : J5 R) : J14 R :=
 fun x0 x1 x2 x3 x4 x5 x6 x7 x8 x9 x10 x11 x12 x13 x14 x15 x16 x17 x18 x19 x20 x21 x22 x23 x24 x25 x26 x27 x28 => (j5 x0 x1 x2 (IntKind.wrap .i64 (x3 + 1)) x4 x5 x6 x7 x8 x9 x10 x11 x12 x13 x14 x15 x16 x17 x18 x19 x20 x21 x22 x23 x24 x25 x26 x27 x28)
def t15 {R : Type} (c3 : st_Count.F R) (c4 : lm_isMessage1.F R) (κ0 : Q0 R) (κ1 : Q1 R) : J15 R :=
 fun x0 x1 x2 x3 x4 x5 x6 x7 x8 x9 x10 x11 x12 x13 x14 x15 x16 x17 x18 x19 x20 x21 x22 x23 => (chk ((decide ((0 : Int) <= x18)) && ((decide (x18 <= x19)) && (decide (x19 <= (x22.size : Int))))) (c3 (x22.extract (x18).toNat (x19).toNat) (⟨#[13, 10]⟩ : BA) (fun r2756 => (bif (decide ((x21.length : Int) > (0 : Int))) then (c4 x0 x1 x2 x3 x4 x5 x6 x7 x8 x9 x10 x11 x12 x13 x14 x15 x16 x17 x18 x19 x20 x21 (fun r2757 r2758 r2759 r2760 r2761 r2762 r2763 r2764 r2765 r2766 r2767 r2768 r2769 r2770 r2771 r2772 r2773 r2774 r2775 r2776 r2777 r2778 r2779 => (bif r2757 then (κ0 x22 x23 r2758 r2759 r2760 r2761 r2762 r2763 r2764 r2765 r2766 r2767 r2768 r2769 r2770 r2771 r2772 r2773 r2774 r2775 r2776 r2777 r2756 r2779) else (κ0 x22 x23 r2758 r2759 r2760 r2761 r2762 r2763 r2764 r2765 r2766 r2767 r2768 r2769 r2770 r2771 r2772 r2773 r2774 r2775 r2776 r2777 r2778 r2779)))) else (bif (decide (x1 = (⟨#[116, 101, 120, 116]⟩ : BA))) then (κ0 x22 x23 x0 x1 x2 x3 x4 x5 x6 x7 x8 x9 x10 x11 x12 x13 x14 x15 x16 x17 x18 x19 r2756 x21) else (c4 x0 x1 x2 x3 x4 x5 x6 x7 x8 x9 x10 x11 x12 x13 x14 x15 x16 x17 x18 x19 x20 x21 (fun r2780 r2781 r2782 r2783 r2784 r2785 r2786 r2787 r2788 r2789 r2790 r2791 r2792 r2793 r2794 r2795 r2796 r2797 r2798 r2799 r2800 r2801 r2802 => (bif r2780 then (κ1 x22 x23 r2781 (⟨#[97, 112, 112, 108, 105, 99, 97, 116, 105, 111, 110]⟩ : BA) (⟨#[111, 99, 116, 101, 116, 45, 115, 116, 114, 101, 97, 109]⟩ : BA) r2785 r2786 r2787 r2788 r2789 r2790 r2791 r2792 r2793 r2794 r2795 r2796 r2797 r2798 r2799 r2800 r2801 r2802) else (bif (decide (r2782 = (⟨#[109, 117, 108, 116, 105, 112, 97, 114, 116]⟩ : BA))) then (κ1 x22 x23 r2781 (⟨#[97, 112, 112, 108, 105, 99, 97, 116, 105, 111, 110]⟩ : BA) (⟨#[111, 99, 116, 101, 116, 45, 115, 116, 114, 101, 97, 109]⟩ : BA) r2785 r2786 r2787 r2788 r2789 r2790 r2791 r2792 r2793 r2794 r2795 r2796 r2797 r2798 r2799 r2800 r2801 r2802) else (κ0 x22 x23 r2781 r2782 r2783 r2784 r2785 r2786 r2787 r2788 r2789 r2790 r2791 r2792 r2793 r2794 r2795 r2796 r2797 r2798 r2799 r2800 r2801 r2802))))))))))
def e {R : Type} (c1 : lm_tree_parts.F R) (c2 : lm_tree_limb.F R) (c3 : st_Count.F R) (c4 : lm_isMessage1.F R) (c5 : lm_place.F R) (c6 : lm_isMessage2.F R) (c7 : lm_tree_open.F R) (a0 : BA) (a1 : Int) (a2 : BA) (a3 : BA) (a4 : BA) (a5 : LA) (a6 : Bool) (a7 : BA) (a8 : Bool) (a9 : BA) (a10 : Bool) (a11 : BA) (a12 : Bool) (a13 : BA) (a14 : LA) (a15 : LA) (a16 : Bool) (a17 : BA) (a18 : Int) (a19 : Int) (a20 : Int) (a21 : Int) (a22 : Int) (a23 : Int) (a24 : Bool) (j2 : J2 R) (j5 : J5 R) (j8 : J8 R) (j14 : J14 R) (j15 : J15 R) (κ0 : Q0 R) (κ1 : Q1 R) : Option R :=
 (c1 a0 a1 a2 a3 a4 a5 a6 a7 a8 a9 a10 a11 a12 a13 a14 a15 a16 a17 a18 a19 a20 a21 a22 (fun r2663 r2664 r2665 r2666 r2667 r2668 r2669 r2670 r2671 r2672 r2673 r2674 r2675 r2676 r2677 r2678 r2679 r2680 r2681 r2682 r2683 r2684 r2685 => (j2 a23 a24 r2665 r2666 r2667 r2668 r2669 r2670 r2671 r2672 r2673 r2674 r2675 r2676 r2677 r2678 r2679 r2680 r2681 r2682 r2683 r2684 r2685 r2663 r2664 ([] : LA))) (fun r2686 r2687 r2688 r2689 r2690 r2691 r2692 r2693 r2694 r2695 r2696 r2697 r2698 r2699 r2700 r2701 r2702 r2703 r2704 r2705 r2706 r2707 r2708 r2709 => (j2 a23 a24 r2689 r2690 r2691 r2692 r2693 r2694 r2695 r2696 r2697 r2698 r2699 r2700 r2701 r2702 r2703 r2704 r2705 r2706 r2707 r2708 r2709 r2687 r2688 r2686)))
def L15 {R : Type} (c1 : lm_tree_parts.F R) (c2 : lm_tree_limb.F R) (c3 : st_Count.F R) (c4 : lm_isMessage1.F R) (c5 : lm_place.F R) (c6 : lm_isMessage2.F R) (c7 : lm_tree_open.F R) (κ0 : Q0 R) (κ1 : Q1 R) : Nat -> J15 R
 | 0 => fun _ _ _ _ _ _ _ _ _ _ _ _ _ _ _ _ _ _ _ _ _ _ _ _ => none
 | f + 1 => t15 c3 c4 κ0 κ1
def M5 {R : Type} (c1 : lm_tree_parts.F R) (c2 : lm_tree_limb.F R) (c3 : st_Count.F R) (c4 : lm_isMessage1.F R) (c5 : lm_place.F R) (c6 : lm_isMessage2.F R) (c7 : lm_tree_open.F R) (κ0 : Q0 R) (κ1 : Q1 R) : Nat -> (J5 R) × (J8 R) × (J14 R)
 | 0 => (fun _ _ _ _ _ _ _ _ _ _ _ _ _ _ _ _ _ _ _ _ _ _ _ _ _ _ _ _ _ => none, fun _ _ _ _ _ _ _ _ _ _ _ _ _ _ _ _ _ _ _ _ _ _ _ _ _ _ _ _ _ _ _ _ _ _ _ _ _ _ _ _ _ _ _ _ _ _ _ _ _ _ _ => none, fun _ _ _ _ _ _ _ _ _ _ _ _ _ _ _ _ _ _ _ _ _ _ _ _ _ _ _ _ _ => none)
 | f + 1 => (t5 c2 ((M5 c1 c2 c3 c4 c5 c6 c7 κ0 κ1 f).2.1) (L15 c1 c2 c3 c4 c5 c6 c7 κ0 κ1 f),
  t8 c5 c6 c7 ((M5 c1 c2 c3 c4 c5 c6 c7 κ0 κ1 f).2.2),
  t14 ((M5 c1 c2 c3 c4 c5 c6 c7 κ0 κ1 f).1))
def L5 {R : Type} (c1 : lm_tree_parts.F R) (c2 : lm_tree_limb.F R) (c3 : st_Count.F R) (c4 : lm_isMessage1.F R) (c5 : lm_place.F R) (c6 : lm_isMessage2.F R) (c7 : lm_tree_open.F R) (κ0 : Q0 R) (κ1 : Q1 R) (f : Nat) : J5 R := (M5 c1 c2 c3 c4 c5 c6 c7 κ0 κ1 f).1
def L8 {R : Type} (c1 : lm_tree_parts.F R) (c2 : lm_tree_limb.F R) (c3 : st_Count.F R) (c4 : lm_isMessage1.F R) (c5 : lm_place.F R) (c6 : lm_isMessage2.F R) (c7 : lm_tree_open.F R) (κ0 : Q0 R) (κ1 : Q1 R) (f : Nat) : J8 R := (M5 c1 c2 c3 c4 c5 c6 c7 κ0 κ1 f).2.1
def L14 {R : Type} (c1 : lm_tree_parts.F R) (c2 : lm_tree_limb.F R) (c3 : st_Count.F R) (c4 : lm_isMessage1.F R) (c5 : lm_place.F R) (c6 : lm_isMessage2.F R) (c7 : lm_tree_open.F R) (κ0 : Q0 R) (κ1 : Q1 R) (f : Nat) : J14 R := (M5 c1 c2 c3 c4 c5 c6 c7 κ0 κ1 f).2.2
def L2 {R : Type} (c1 : lm_tree_parts.F R) (c2 : lm_tree_limb.F R) (c3 : st_Count.F R) (c4 : lm_isMessage1.F R) (c5 : lm_place.F R) (c6 : lm_isMessage2.F R) (c7 : lm_tree_open.F R) (κ0 : Q0 R) (κ1 : Q1 R) : Nat -> J2 R
 | 0 => fun _ _ _ _ _ _ _ _ _ _ _ _ _ _ _ _ _ _ _ _ _ _ _ _ _ _ => none
 | f + 1 => t2 (L5 c1 c2 c3 c4 c5 c6 c7 κ0 κ1 f) (L15 c1 c2 c3 c4 c5 c6 c7 κ0 κ1 f)
def B {R : Type} (c1 : lm_tree_parts.F R) (c2 : lm_tree_limb.F R) (c3 : st_Count.F R) (c4 : lm_isMessage1.F R) (c5 : lm_place.F R) (c6 : lm_isMessage2.F R) (c7 : lm_tree_open.F R) : F R := fun a0 a1 a2 a3 a4 a5 a6 a7 a8 a9 a10 a11 a12 a13 a14 a15 a16 a17 a18 a19 a20 a21 a22 a23 a24 κ0 κ1 => e c1 c2 c3 c4 c5 c6 c7 a0 a1 a2 a3 a4 a5 a6 a7 a8 a9 a10 a11 a12 a13 a14 a15 a16 a17 a18 a19 a20 a21 a22 a23 a24 (L2 c1 c2 c3 c4 c5 c6 c7 κ0 κ1 fuelK) (L5 c1 c2 c3 c4 c5 c6 c7 κ0 κ1 fuelK) (L8 c1 c2 c3 c4 c5 c6 c7 κ0 κ1 fuelK) (L14 c1 c2 c3 c4 c5 c6 c7 κ0 κ1 fuelK) (L15 c1 c2 c3 c4 c5 c6 c7 κ0 κ1 fuelK) κ0 κ1
def R {R : Type} : Nat -> F R
 | 0 => fun _ _ _ _ _ _ _ _ _ _ _ _ _ _ _ _ _ _ _ _ _ _ _ _ _ _ _ => none
 | n + 1 => B lm_tree_parts lm_tree_limb st_Count lm_isMessage1 lm_place lm_isMessage2 (lm_tree_open.R n)
end lm_tree_open
def lm_tree_open {R : Type} : lm_tree_open.F R := lm_tree_open.R fuelK
abbrev lm_Parse.Q0 (R : Type) : Type := BA -> BA -> BA -> LA -> Bool -> BA -> Bool -> BA -> Bool -> BA -> Bool -> BA -> LA -> LA -> Bool -> BA -> Int -> Int -> Int -> Int -> Int -> LA -> Option R
abbrev lm_Parse.F (R : Type) : Type := BA -> lm_Parse.Q0 R -> Option R
namespace lm_Parse
abbrev J4 (R : Type) : Type := BA -> BA -> BA -> Bool -> BA -> Bool -> BA -> Bool -> BA -> Bool -> BA -> Bool -> BA -> Int -> Int -> Int -> Int -> Int -> BA -> BA -> BA -> LA -> Bool -> BA -> Bool -> BA -> Bool -> BA -> Bool -> BA -> LA -> LA -> Bool -> BA -> Int -> Int -> Int -> Int -> Int -> LA -> Option R
def t4 {R : Type} (κ0 : Q0 R) : J4 R :=
 fun x0 x1 x2 x3 x4 x5 x6 x7 x8 x9 x10 x11 x12 x13 x14 x15 x16 x17 x18 x19 x20 x21 x22 x23 x24 x25 x26 x27 x28 x29 x30 x31 x32 x33 x34 x35 x36 x37 x38 x39 => (κ0 x18 x19 x20 x21 x22 x23 x24 x25 x26 x27 x28 x29 x30 x31 x32 x33 x34 x35 x36 x37 x38 x39)
def e {R : Type} (c1 : lm_tree_limb.F R) (c2 : lm_tree_open.F R) (a0 : BA) (j4 : J4 R) (κ0 : Q0 R) : Option R :=
 (c1 a0 0 0 (a0.size : Int) false (fun r311 r312 r313 r314 r315 r316 r317 r318 r319 r320 r321 r322 r323 r324 r325 r326 r327 r328 r329 r330 r331 r332 r333 => (c2 r332 r333 r311 r312 r313 r314 r315 r316 r317 r318 r319 r320 r321 r322 r323 r324 r325 r326 r327 r328 r329 r330 r331 0 false (fun r2896 r2897 r2898 r2899 r2900 r2901 r2902 r2903 r2904 r2905 r2906 r2907 r2908 r2909 r2910 r2911 r2912 r2913 r2914 r2915 r2916 r2917 r2918 r2919 => (j4 (⟨#[]⟩ : BA) (⟨#[]⟩ : BA) (⟨#[]⟩ : BA) false (⟨#[]⟩ : BA) false (⟨#[]⟩ : BA) false (⟨#[]⟩ : BA) false (⟨#[]⟩ : BA) false (⟨#[]⟩ : BA) 0 0 0 0 0 r2898 r2899 r2900 r2901 r2902 r2903 r2904 r2905 r2906 r2907 r2908 r2909 r2910 r2911 r2912 r2913 r2914 r2915 r2916 r2917 r2918 r2919)) (fun r2920 r2921 r2922 r2923 r2924 r2925 r2926 r2927 r2928 r2929 r2930 r2931 r2932 r2933 r2934 r2935 r2936 r2937 r2938 r2939 r2940 r2941 r2942 => (j4 (⟨#[]⟩ : BA) (⟨#[]⟩ : BA) (⟨#[]⟩ : BA) false (⟨#[]⟩ : BA) false (⟨#[]⟩ : BA) false (⟨#[]⟩ : BA) false (⟨#[]⟩ : BA) false (⟨#[]⟩ : BA) 0 0 0 0 0 r2922 r2923 r2924 ([] : LA) r2925 r2926 r2927 r2928 r2929 r2930 r2931 r2932 r2933 r2934 r2935 r2936 r2937 r2938 r2939 r2940 r2941 r2942)))))
def L4 {R : Type} (c1 : lm_tree_limb.F R) (c2 : lm_tree_open.F R) (κ0 : Q0 R) : Nat -> J4 R
 | 0 => fun _ _ _ _ _ _ _ _ _ _ _ _ _ _ _ _ _ _ _ _ _ _ _ _ _ _ _ _ _ _ _ _ _ _ _ _ _ _ _ _ => none
 | f + 1 => t4 κ0
end lm_Parse
def lm_Parse {R : Type} : lm_Parse.F R := fun a0 κ0 => lm_Parse.e lm_tree_limb lm_tree_open a0 (lm_Parse.L4 lm_tree_limb lm_tree_open κ0 fuelK) κ0
abbrev lm_Partial.F (R : Type) : Type := BA -> Int -> Int -> (BA -> Option R) -> Option R
namespace lm_Partial
def e {R : Type} (a0 : BA) (a1 : Int) (a2 : Int) (κ0 : BA -> Option R) : Option R :=
 (bif (decide (a1 < (0 : Int))) then (κ0 (⟨#[]⟩ : BA)) else (bif (decide (a2 < (0 : Int))) then (κ0 (⟨#[]⟩ : BA)) else (bif (decide (a1 > (a0.size : Int))) then (κ0 (⟨#[]⟩ : BA)) else (chk ((decide ((0 : Int) <= a1)) && ((decide (a1 <= (IntKind.wrap .i64 (a1 + (min2 a2 (IntKind.wrap .i64 ((a0.size : Int) - a1))))))) && (decide ((IntKind.wrap .i64 (a1 + (min2 a2 (IntKind.wrap .i64 ((a0.size : Int) - a1))))) <= (a0.size : Int))))) (κ0 (a0.extract (a1).toNat ((IntKind.wrap .i64 (a1 + (min2 a2 (IntKind.wrap .i64 ((a0.size : Int) - a1)))))).toNat))))))
end lm_Partial
def lm_Partial {R : Type} : lm_Partial.F R := fun a0 a1 a2 κ0 => lm_Partial.e a0 a1 a2 κ0
abbrev w6_known.F (R : Type) : Type := (Bool -> Option R) -> Option R
namespace w6_known
def e {R : Type} (c1 : lm_Parse.F R) (c2 : lm_Partial.F R) (κ0 : Bool -> Option R) : Option R :=
 (c1 (⟨#[67, 111, 110, 116, 101, 110, 116, 45, 84, 121, 112, 101, 58, 32, 109, 117, 108, 116, 105, 112, 97, 114, 116, 47, 109, 105, 120, 101, 100, 59, 32, 98, 111, 117, 110, 100, 97, 114, 121, 61, 98, 13, 10, 13, 10, 45, 45, 98, 13, 10, 13, 10, 111, 110, 101, 13, 10, 45, 45, 98, 45, 45, 13, 10]⟩ : BA) (fun r2943 r2944 r2945 r2946 r2947 r2948 r2949 r2950 r2951 r2952 r2953 r2954 r2955 r2956 r2957 r2958 r2959 r2960 r2961 r2962 r2963 r2964 => (bif (decide (r2944 = (⟨#[109, 117, 108, 116, 105, 112, 97, 114, 116]⟩ : BA))) then (bif ((r2964.length : Int) == 1) then (chk (decide ((0 : Int) < (r2964.length : Int))) (bif (decide (((rdA r2964 0).fld 0).s = (⟨#[49]⟩ : BA))) then (chk (decide ((0 : Int) < (r2964.length : Int))) (bif (decide (((rdA r2964 0).fld 1).s = (⟨#[116, 101, 120, 116]⟩ : BA))) then (chk (decide ((0 : Int) < (r2964.length : Int))) (bif ((((rdA r2964 0).fld 18).i == 52) && ((((rdA r2964 0).fld 19).i == 55) && true)) then (c2 (⟨#[104, 101, 108, 108, 111]⟩ : BA) 1 3 (fun r2965 => (κ0 (decide (r2965 = (⟨#[101, 108, 108]⟩ : BA)))))) else (κ0 false))) else (κ0 false))) else (κ0 false))) else (κ0 false)) else (κ0 false))))
end w6_known
def w6_known {R : Type} : w6_known.F R := fun κ0 => w6_known.e lm_Parse lm_Partial κ0
abbrev lm_number.F (R : Type) : Type := BA -> (Int -> Option R) -> Option R
namespace lm_number
abbrev J3 (R : Type) : Type := BA -> Int -> Int -> Int -> Option R
def t3 {R : Type} (j3 : J3 R) (κ0 : Int -> Option R) : J3 R :=
 fun x0 x1 x2 x3 => (bif (decide (x3 < x2)) then (chk ((decide ((0 : Int) <= x3)) && (decide (x3 < (x0.size : Int)))) (bif (decide ((btA x0 x3) < (48 : Int))) then (κ0 0) else (chk ((decide ((0 : Int) <= x3)) && (decide (x3 < (x0.size : Int)))) (bif (decide ((btA x0 x3) > (57 : Int))) then (κ0 0) else (bif (x3 == 0) then (chk ((decide ((0 : Int) <= x3)) && (decide (x3 < (x0.size : Int)))) (bif ((btA x0 x3) == 48) then (κ0 0) else (bif (decide (x1 > (4294967295 : Int))) then (κ0 0) else (chk ((decide ((0 : Int) <= x3)) && (decide (x3 < (x0.size : Int)))) (j3 x0 (IntKind.wrap .i64 ((IntKind.wrap .i64 (x1 * 10)) + (IntKind.wrap .i64 (IntKind.wrap .u8 ((btA x0 x3) - 48))))) x2 (IntKind.wrap .i64 (x3 + 1))))))) else (bif (decide (x1 > (4294967295 : Int))) then (κ0 0) else (chk ((decide ((0 : Int) <= x3)) && (decide (x3 < (x0.size : Int)))) (j3 x0 (IntKind.wrap .i64 ((IntKind.wrap .i64 (x1 * 10)) + (IntKind.wrap .i64 (IntKind.wrap .u8 ((btA x0 x3) - 48))))) x2 (IntKind.wrap .i64 (x3 + 1)))))))))) else (κ0 x1))
def e {R : Type} (a0 : BA) (j3 : J3 R) (κ0 : Int -> Option R) : Option R :=
 (j3 a0 0 (a0.size : Int) 0)
def L3 {R : Type} (κ0 : Int -> Option R) : Nat -> J3 R
 | 0 => fun _ _ _ _ => none
 | f + 1 => t3 (L3 κ0 f) κ0
end lm_number
def lm_number {R : Type} : lm_number.F R := fun a0 κ0 => lm_number.e a0 (lm_number.L3 κ0 fuelK) κ0
abbrev lm_reach.Q0 (R : Type) : Type := BA -> BA -> BA -> Bool -> BA -> Bool -> BA -> Bool -> BA -> Bool -> BA -> Bool -> BA -> Int -> Int -> Int -> Int -> Int -> Bool -> Option R
abbrev lm_reach.Q1 (R : Type) : Type := BA -> BA -> BA -> LA -> Bool -> BA -> Bool -> BA -> Bool -> BA -> Bool -> BA -> LA -> LA -> Bool -> BA -> Int -> Int -> Int -> Int -> Int -> LA -> Bool -> Option R
abbrev lm_reach.F (R : Type) : Type := BA -> BA -> BA -> LA -> Bool -> BA -> Bool -> BA -> Bool -> BA -> Bool -> BA -> LA -> LA -> Bool -> BA -> Int -> Int -> Int -> Int -> Int -> LA -> Bool -> Int -> lm_reach.Q0 R -> lm_reach.Q1 R -> Option R
namespace lm_reach
abbrev J3 (R : Type) : Type := Bool -> Int -> BA -> BA -> BA -> LA -> Bool -> BA -> Bool -> BA -> Bool -> BA -> Bool -> BA -> LA -> LA -> Bool -> BA -> Int -> Int -> Int -> Int -> Int -> LA -> BA -> BA -> BA -> Bool -> BA -> Bool -> BA -> Bool -> BA -> Bool -> BA -> Bool -> BA -> Int -> Int -> Int -> Int -> Int -> Option R
def t3 {R : Type} (κ0 : Q0 R) (κ1 : Q1 R) : J3 R :=
 fun x0 x1 x2 x3 x4 x5 x6 x7 x8 x9 x10 x11 x12 x13 x14 x15 x16 x17 x18 x19 x20 x21 x22 x23 x24 x25 x26 x27 x28 x29 x30 x31 x32 x33 x34 x35 x36 x37 x38 x39 x40 x41 => (bif (decide (x3 = (⟨#[109, 117, 108, 116, 105, 112, 97, 114, 116]⟩ : BA))) then (bif (decide ((x23.length : Int) > (0 : Int))) then (bif (decide (x1 < (1 : Int))) then (κ0 (⟨#[]⟩ : BA) (⟨#[]⟩ : BA) (⟨#[]⟩ : BA) false (⟨#[]⟩ : BA) false (⟨#[]⟩ : BA) false (⟨#[]⟩ : BA) false (⟨#[]⟩ : BA) false (⟨#[]⟩ : BA) 0 0 0 0 0 false) else (bif (decide (x1 > (x23.length : Int))) then (κ0 (⟨#[]⟩ : BA) (⟨#[]⟩ : BA) (⟨#[]⟩ : BA) false (⟨#[]⟩ : BA) false (⟨#[]⟩ : BA) false (⟨#[]⟩ : BA) false (⟨#[]⟩ : BA) false (⟨#[]⟩ : BA) 0 0 0 0 0 false) else (chk ((decide ((0 : Int) <= (IntKind.wrap .i64 (x1 - 1)))) && (decide ((IntKind.wrap .i64 (x1 - 1)) < (x23.length : Int)))) (κ1 ((rdA x23 (IntKind.wrap .i64 (x1 - 1))).fld 0).s ((rdA x23 (IntKind.wrap .i64 (x1 - 1))).fld 1).s ((rdA x23 (IntKind.wrap .i64 (x1 - 1))).fld 2).s ((rdA x23 (IntKind.wrap .i64 (x1 - 1))).fld 3).l ((rdA x23 (IntKind.wrap .i64 (x1 - 1))).fld 4).b ((rdA x23 (IntKind.wrap .i64 (x1 - 1))).fld 5).s ((rdA x23 (IntKind.wrap .i64 (x1 - 1))).fld 6).b ((rdA x23 (IntKind.wrap .i64 (x1 - 1))).fld 7).s ((rdA x23 (IntKind.wrap .i64 (x1 - 1))).fld 8).b ((rdA x23 (IntKind.wrap .i64 (x1 - 1))).fld 9).s ((rdA x23 (IntKind.wrap .i64 (x1 - 1))).fld 10).b ((rdA x23 (IntKind.wrap .i64 (x1 - 1))).fld 11).s ((rdA x23 (IntKind.wrap .i64 (x1 - 1))).fld 12).l ((rdA x23 (IntKind.wrap .i64 (x1 - 1))).fld 13).l ((rdA x23 (IntKind.wrap .i64 (x1 - 1))).fld 14).b ((rdA x23 (IntKind.wrap .i64 (x1 - 1))).fld 15).s ((rdA x23 (IntKind.wrap .i64 (x1 - 1))).fld 16).i ((rdA x23 (IntKind.wrap .i64 (x1 - 1))).fld 17).i ((rdA x23 (IntKind.wrap .i64 (x1 - 1))).fld 18).i ((rdA x23 (IntKind.wrap .i64 (x1 - 1))).fld 19).i ((rdA x23 (IntKind.wrap .i64 (x1 - 1))).fld 20).i ((rdA x23 (IntKind.wrap .i64 (x1 - 1))).fld 21).l true)))) else (bif x0 then (κ1 x2 x3 x4 x5 x6 x7 x8 x9 x10 x11 x12 x13 x14 x15 x16 x17 x18 x19 x20 x21 x22 x23 (x1 == 1)) else (κ1 x2 x3 x4 x5 x6 x7 x8 x9 x10 x11 x12 x13 x14 x15 x16 x17 x18 x19 x20 x21 x22 x23 false))) else (bif x0 then (κ1 x2 x3 x4 x5 x6 x7 x8 x9 x10 x11 x12 x13 x14 x15 x16 x17 x18 x19 x20 x21 x22 x23 (x1 == 1)) else (κ1 x2 x3 x4 x5 x6 x7 x8 x9 x10 x11 x12 x13 x14 x15 x16 x17 x18 x19 x20 x21 x22 x23 false)))
def e {R : Type} (c1 : lm_isMessage1.F R) (c2 : lm_reach.F R) (a0 : BA) (a1 : BA) (a2 : BA) (a3 : LA) (a4 : Bool) (a5 : BA) (a6 : Bool) (a7 : BA) (a8 : Bool) (a9 : BA) (a10 : Bool) (a11 : BA) (a12 : LA) (a13 : LA) (a14 : Bool) (a15 : BA) (a16 : Int) (a17 : Int) (a18 : Int) (a19 : Int) (a20 : Int) (a21 : LA) (a22 : Bool) (a23 : Int) (j3 : J3 R) (κ0 : Q0 R) (κ1 : Q1 R) : Option R :=
 (bif (!a22) then (c1 a0 a1 a2 a3 a4 a5 a6 a7 a8 a9 a10 a11 a12 a13 a14 a15 a16 a17 a18 a19 a20 a21 (fun r3122 r3123 r3124 r3125 r3126 r3127 r3128 r3129 r3130 r3131 r3132 r3133 r3134 r3135 r3136 r3137 r3138 r3139 r3140 r3141 r3142 r3143 r3144 => (bif r3122 then (bif (decide ((r3144.length : Int) > (0 : Int))) then (chk (decide ((0 : Int) < (r3144.length : Int))) (c2 ((rdA r3144 0).fld 0).s ((rdA r3144 0).fld 1).s ((rdA r3144 0).fld 2).s ((rdA r3144 0).fld 3).l ((rdA r3144 0).fld 4).b ((rdA r3144 0).fld 5).s ((rdA r3144 0).fld 6).b ((rdA r3144 0).fld 7).s ((rdA r3144 0).fld 8).b ((rdA r3144 0).fld 9).s ((rdA r3144 0).fld 10).b ((rdA r3144 0).fld 11).s ((rdA r3144 0).fld 12).l ((rdA r3144 0).fld 13).l ((rdA r3144 0).fld 14).b ((rdA r3144 0).fld 15).s ((rdA r3144 0).fld 16).i ((rdA r3144 0).fld 17).i ((rdA r3144 0).fld 18).i ((rdA r3144 0).fld 19).i ((rdA r3144 0).fld 20).i ((rdA r3144 0).fld 21).l true a23 (fun r3145 r3146 r3147 r3148 r3149 r3150 r3151 r3152 r3153 r3154 r3155 r3156 r3157 r3158 r3159 r3160 r3161 r3162 r3163 => (κ0 r3145 r3146 r3147 r3148 r3149 r3150 r3151 r3152 r3153 r3154 r3155 r3156 r3157 r3158 r3159 r3160 r3161 r3162 r3163)) (fun r3164 r3165 r3166 r3167 r3168 r3169 r3170 r3171 r3172 r3173 r3174 r3175 r3176 r3177 r3178 r3179 r3180 r3181 r3182 r3183 r3184 r3185 r3186 => (κ1 r3164 r3165 r3166 r3167 r3168 r3169 r3170 r3171 r3172 r3173 r3174 r3175 r3176 r3177 r3178 r3179 r3180 r3181 r3182 r3183 r3184 r3185 r3186)))) else (j3 a22 a23 r3123 r3124 r3125 r3126 r3127 r3128 r3129 r3130 r3131 r3132 r3133 r3134 r3135 r3136 r3137 r3138 r3139 r3140 r3141 r3142 r3143 r3144 (⟨#[]⟩ : BA) (⟨#[]⟩ : BA) (⟨#[]⟩ : BA) false (⟨#[]⟩ : BA) false (⟨#[]⟩ : BA) false (⟨#[]⟩ : BA) false (⟨#[]⟩ : BA) false (⟨#[]⟩ : BA) 0 0 0 0 0)) else (j3 a22 a23 r3123 r3124 r3125 r3126 r3127 r3128 r3129 r3130 r3131 r3132 r3133 r3134 r3135 r3136 r3137 r3138 r3139 r3140 r3141 r3142 r3143 r3144 (⟨#[]⟩ : BA) (⟨#[]⟩ : BA) (⟨#[]⟩ : BA) false (⟨#[]⟩ : BA) false (⟨#[]⟩ : BA) false (⟨#[]⟩ : BA) false (⟨#[]⟩ : BA) false (⟨#[]⟩ : BA) 0 0 0 0 0)))) else (j3 a22 a23 a0 a1 a2 a3 a4 a5 a6 a7 a8 a9 a10 a11 a12 a13 a14 a15 a16 a17 a18 a19 a20 a21 (⟨#[]⟩ : BA) (⟨#[]⟩ : BA) (⟨#[]⟩ : BA) false (⟨#[]⟩ : BA) false (⟨#[]⟩ : BA) false (⟨#[]⟩ : BA) false (⟨#[]⟩ : BA) false (⟨#[]⟩ : BA) 0 0 0 0 0))
def L3 {R : Type} (c1 : lm_isMessage1.F R) (c2 : lm_reach.F R) (κ0 : Q0 R) (κ1 : Q1 R) : Nat -> J3 R
 | 0 => fun _ _ _ _ _ _ _ _ _ _ _ _ _ _ _ _ _ _ _ _ _ _ _ _ _ _ _ _ _ _ _ _ _ _ _ _ _ _ _ _ _ _ => none
 | f + 1 => t3 κ0 κ1
def B {R : Type} (c1 : lm_isMessage1.F R) (c2 : lm_reach.F R) : F R := fun a0 a1 a2 a3 a4 a5 a6 a7 a8 a9 a10 a11 a12 a13 a14 a15 a16 a17 a18 a19 a20 a21 a22 a23 κ0 κ1 => e c1 c2 a0 a1 a2 a3 a4 a5 a6 a7 a8 a9 a10 a11 a12 a13 a14 a15 a16 a17 a18 a19 a20 a21 a22 a23 (L3 c1 c2 κ0 κ1 fuelK) κ0 κ1
def R {R : Type} : Nat -> F R
 | 0 => fun _ _ _ _ _ _ _ _ _ _ _ _ _ _ _ _ _ _ _ _ _ _ _ _ _ _ => none
 | n + 1 => B lm_isMessage1 (lm_reach.R n)
end lm_reach
def lm_reach {R : Type} : lm_reach.F R := lm_reach.R fuelK
abbrev lm_find.F (R : Type) : Type := BA -> BA -> BA -> LA -> Bool -> BA -> Bool -> BA -> Bool -> BA -> Bool -> BA -> LA -> LA -> Bool -> BA -> Int -> Int -> Int -> Int -> Int -> LA -> BA -> (BA -> BA -> BA -> Bool -> BA -> Bool -> BA -> Bool -> BA -> Bool -> BA -> Bool -> BA -> Int -> Int -> Int -> Int -> Int -> Bool -> Option R) -> (BA -> BA -> BA -> LA -> Bool -> BA -> Bool -> BA -> Bool -> BA -> Bool -> BA -> LA -> LA -> Bool -> BA -> Int -> Int -> Int -> Int -> Int -> LA -> Bool -> Option R) -> Option R
namespace lm_find
abbrev J (R : Type) : Type := BA -> BA -> BA -> BA -> LA -> Bool -> BA -> Bool -> BA -> Bool -> BA -> Bool -> BA -> LA -> LA -> Bool -> BA -> Int -> Int -> Int -> Int -> Int -> LA -> Option R
def b {R : Type} (c1 : lm_number.F R) (c2 : lm_reach.F R) (κ0 : BA -> BA -> BA -> Bool -> BA -> Bool -> BA -> Bool -> BA -> Bool -> BA -> Bool -> BA -> Int -> Int -> Int -> Int -> Int -> Bool -> Option R) (k : BA -> BA -> BA -> LA -> Bool -> BA -> Bool -> BA -> Bool -> BA -> Bool -> BA -> LA -> LA -> Bool -> BA -> Int -> Int -> Int -> Int -> Int -> LA -> Option R) (p : BA) (x0 : BA) (x1 : BA) (x2 : BA) (x3 : LA) (x4 : Bool) (x5 : BA) (x6 : Bool) (x7 : BA) (x8 : Bool) (x9 : BA) (x10 : Bool) (x11 : BA) (x12 : LA) (x13 : LA) (x14 : Bool) (x15 : BA) (x16 : Int) (x17 : Int) (x18 : Int) (x19 : Int) (x20 : Int) (x21 : LA) (i : Bool) : Option R :=
 c1 p (fun n => (bif (n == 0) then (κ0 (⟨#[]⟩ : BA) (⟨#[]⟩ : BA) (⟨#[]⟩ : BA) false (⟨#[]⟩ : BA) false (⟨#[]⟩ : BA) false (⟨#[]⟩ : BA) false (⟨#[]⟩ : BA) false (⟨#[]⟩ : BA) 0 0 0 0 0 false) else (c2 x0 x1 x2 x3 x4 x5 x6 x7 x8 x9 x10 x11 x12 x13 x14 x15 x16 x17 x18 x19 x20 x21 i n (fun y0 y1 y2 y3 y4 y5 y6 y7 y8 y9 y10 y11 y12 y13 y14 y15 y16 y17 y18 => (bif (!y18) then (κ0 (⟨#[]⟩ : BA) (⟨#[]⟩ : BA) (⟨#[]⟩ : BA) false (⟨#[]⟩ : BA) false (⟨#[]⟩ : BA) false (⟨#[]⟩ : BA) false (⟨#[]⟩ : BA) false (⟨#[]⟩ : BA) 0 0 0 0 0 false) else none)) (fun y0 y1 y2 y3 y4 y5 y6 y7 y8 y9 y10 y11 y12 y13 y14 y15 y16 y17 y18 y19 y20 y21 y22 => (bif (!y22) then (κ0 (⟨#[]⟩ : BA) (⟨#[]⟩ : BA) (⟨#[]⟩ : BA) false (⟨#[]⟩ : BA) false (⟨#[]⟩ : BA) false (⟨#[]⟩ : BA) false (⟨#[]⟩ : BA) false (⟨#[]⟩ : BA) 0 0 0 0 0 false) else (k y0 y1 y2 y3 y4 y5 y6 y7 y8 y9 y10 y11 y12 y13 y14 y15 y16 y17 y18 y19 y20 y21))))))
def t {R : Type} (c1 : lm_number.F R) (c2 : lm_reach.F R) (c3 : st_Index.F R) (κ0 : BA -> BA -> BA -> Bool -> BA -> Bool -> BA -> Bool -> BA -> Bool -> BA -> Bool -> BA -> Int -> Int -> Int -> Int -> Int -> Bool -> Option R) (κ1 : BA -> BA -> BA -> LA -> Bool -> BA -> Bool -> BA -> Bool -> BA -> Bool -> BA -> LA -> LA -> Bool -> BA -> Int -> Int -> Int -> Int -> Int -> LA -> Bool -> Option R) (q : BA) (j : J R) (p : BA) (x0 : BA) (x1 : BA) (x2 : BA) (x3 : LA) (x4 : Bool) (x5 : BA) (x6 : Bool) (x7 : BA) (x8 : Bool) (x9 : BA) (x10 : Bool) (x11 : BA) (x12 : LA) (x13 : LA) (x14 : Bool) (x15 : BA) (x16 : Int) (x17 : Int) (x18 : Int) (x19 : Int) (x20 : Int) (x21 : LA) (i : Bool) : Option R :=
 c3 p (⟨#[46]⟩ : BA) (fun n => (bif (decide (n < 0)) then (b c1 c2 κ0 (fun y0 y1 y2 y3 y4 y5 y6 y7 y8 y9 y10 y11 y12 y13 y14 y15 y16 y17 y18 y19 y20 y21 => κ1 q y1 y2 y3 y4 y5 y6 y7 y8 y9 y10 y11 y12 y13 y14 y15 y16 y17 y18 y19 y20 y21 true) p x0 x1 x2 x3 x4 x5 x6 x7 x8 x9 x10 x11 x12 x13 x14 x15 x16 x17 x18 x19 x20 x21 i) else (chk (decide (n + 1 <= (p.size : Int))) (b c1 c2 κ0 (j (p.extract (n.toNat + 1) p.size)) (p.extract 0 n.toNat) x0 x1 x2 x3 x4 x5 x6 x7 x8 x9 x10 x11 x12 x13 x14 x15 x16 x17 x18 x19 x20 x21 i))))
def L {R : Type} (c1 : lm_number.F R) (c2 : lm_reach.F R) (c3 : st_Index.F R) (κ0 : BA -> BA -> BA -> Bool -> BA -> Bool -> BA -> Bool -> BA -> Bool -> BA -> Bool -> BA -> Int -> Int -> Int -> Int -> Int -> Bool -> Option R) (κ1 : BA -> BA -> BA -> LA -> Bool -> BA -> Bool -> BA -> Bool -> BA -> Bool -> BA -> LA -> LA -> Bool -> BA -> Int -> Int -> Int -> Int -> Int -> LA -> Bool -> Option R) (q : BA) : Nat -> Bool -> J R
 | 0 => fun _ _ _ _ _ _ _ _ _ _ _ _ _ _ _ _ _ _ _ _ _ _ _ _ => none
 | f + 1 => fun i p x0 x1 x2 x3 x4 x5 x6 x7 x8 x9 x10 x11 x12 x13 x14 x15 x16 x17 x18 x19 x20 x21 => t c1 c2 c3 κ0 κ1 q (L c1 c2 c3 κ0 κ1 q f false) p x0 x1 x2 x3 x4 x5 x6 x7 x8 x9 x10 x11 x12 x13 x14 x15 x16 x17 x18 x19 x20 x21 i
end lm_find
def lm_find {R : Type} : lm_find.F R := fun a0 a1 a2 a3 a4 a5 a6 a7 a8 a9 a10 a11 a12 a13 a14 a15 a16 a17 a18 a19 a20 a21 a22 κ0 κ1 =>
 (bif (decide (a22 = (⟨#[]⟩ : BA))) then (κ1 a0 a1 a2 a3 a4 a5 a6 a7 a8 a9 a10 a11 a12 a13 a14 a15 a16 a17 a18 a19 a20 a21 true) else (chk (decide (a22.size < 281474976710656)) (lm_find.L lm_number lm_reach st_Index κ0 κ1 a22 fuelK true a22 a0 a1 a2 a3 a4 a5 a6 a7 a8 a9 a10 a11 a12 a13 a14 a15 a16 a17 a18 a19 a20 a21)))
abbrev lm_isMessage3.Q0 (R : Type) : Type := Bool -> BA -> BA -> BA -> Bool -> BA -> Bool -> BA -> Bool -> BA -> Bool -> BA -> Bool -> BA -> Int -> Int -> Int -> Int -> Int -> Option R
abbrev lm_isMessage3.F (R : Type) : Type := BA -> BA -> BA -> Bool -> BA -> Bool -> BA -> Bool -> BA -> Bool -> BA -> Bool -> BA -> Int -> Int -> Int -> Int -> Int -> lm_isMessage3.Q0 R -> Option R
namespace lm_isMessage3
def e {R : Type} (a0 : BA) (a1 : BA) (a2 : BA) (a3 : Bool) (a4 : BA) (a5 : Bool) (a6 : BA) (a7 : Bool) (a8 : BA) (a9 : Bool) (a10 : BA) (a11 : Bool) (a12 : BA) (a13 : Int) (a14 : Int) (a15 : Int) (a16 : Int) (a17 : Int) (κ0 : Q0 R) : Option R :=
 (bif (decide (a1 = (⟨#[109, 101, 115, 115, 97, 103, 101]⟩ : BA))) then (κ0 (decide (a2 = (⟨#[114, 102, 99, 56, 50, 50]⟩ : BA))) a0 a1 a2 a3 a4 a5 a6 a7 a8 a9 a10 a11 a12 a13 a14 a15 a16 a17) else (κ0 false a0 a1 a2 a3 a4 a5 a6 a7 a8 a9 a10 a11 a12 a13 a14 a15 a16 a17))
end lm_isMessage3
def lm_isMessage3 {R : Type} : lm_isMessage3.F R := fun a0 a1 a2 a3 a4 a5 a6 a7 a8 a9 a10 a11 a12 a13 a14 a15 a16 a17 κ0 => lm_isMessage3.e a0 a1 a2 a3 a4 a5 a6 a7 a8 a9 a10 a11 a12 a13 a14 a15 a16 a17 κ0
abbrev lm_take.F (R : Type) : Type := BA -> Int -> Int -> (BA -> Bool -> Option R) -> Option R
namespace lm_take
def e {R : Type} (a0 : BA) (a1 : Int) (a2 : Int) (κ0 : BA -> Bool -> Option R) : Option R :=
 (bif (decide (a1 < (0 : Int))) then (κ0 (⟨#[]⟩ : BA) false) else (bif (decide (a2 < a1)) then (κ0 (⟨#[]⟩ : BA) false) else (bif (decide (a2 > (a0.size : Int))) then (κ0 (⟨#[]⟩ : BA) false) else (chk ((decide ((0 : Int) <= a1)) && ((decide (a1 <= a2)) && (decide (a2 <= (a0.size : Int))))) (κ0 (a0.extract (a1).toNat (a2).toNat) true)))))
end lm_take
def lm_take {R : Type} : lm_take.F R := fun a0 a1 a2 κ0 => lm_take.e a0 a1 a2 κ0
abbrev st_HasSuffix.F (R : Type) : Type := BA -> BA -> (Bool -> Option R) -> Option R
namespace st_HasSuffix
def e {R : Type} (c1 : sl_HasSuffix.F R) (a0 : BA) (a1 : BA) (κ0 : Bool -> Option R) : Option R :=
 (c1 a0 a1 (fun r3239 => (κ0 r3239)))
end st_HasSuffix
def st_HasSuffix {R : Type} : st_HasSuffix.F R := fun a0 a1 κ0 => st_HasSuffix.e sl_HasSuffix a0 a1 κ0
abbrev st_Builder_WriteString.F (R : Type) : Type := LA -> BA -> (Int -> LA -> Option R) -> Option R
namespace st_Builder_WriteString
def e {R : Type} (c1 : st_Builder_copyCheck.F R) (a0 : LA) (a1 : BA) (κ0 : Int -> LA -> Option R) : Option R :=
 (c1 a0 (fun r3241 => (chk (decide ((r3241.length + (bytesAV a1).length) * 1 <= 140737488355328)) (κ0 (a1.size : Int) (r3241 ++ (bytesAV a1))))))
end st_Builder_WriteString
def st_Builder_WriteString {R : Type} : st_Builder_WriteString.F R := fun a0 a1 κ0 => st_Builder_WriteString.e st_Builder_copyCheck a0 a1 κ0
abbrev le_Pick.F (R : Type) : Type := BA -> Bool -> (BA -> Option R) -> Option R
namespace le_Pick
abbrev J3 (R : Type) : Type := Bool -> Int -> Int -> LA -> LA -> Option R
abbrev J7 (R : Type) : Type := Bool -> Bool -> Int -> Int -> Int -> Int -> LA -> BA -> BA -> Bool -> Bool -> LA -> Option R
def t3 {R : Type} (c2 : st_Builder_WriteString.F R) (c3 : st_Builder_String.F R) (j7 : J7 R) (κ0 : BA -> Option R) : J3 R :=
 fun x0 x1 x2 x3 x4 => (bif (decide (x2 < x1)) then (chk ((decide ((0 : Int) <= x2)) && (decide (x2 < (x4.length : Int)))) (j7 x0 false x1 x2 0 0 x3 ((rdA x4 x2).fld 0).s ((rdA x4 x2).fld 1).s ((rdA x4 x2).fld 2).b ((rdA x4 x2).fld 3).b x4)) else (c2 x3 (⟨#[13, 10]⟩ : BA) (fun r3245 r3246 => (c3 r3246 (fun r3247 => (κ0 r3247))))))
def t7 {R : Type} (c2 : st_Builder_WriteString.F R) (c4 : st_HasSuffix.F R) (j3 : J3 R) : J7 R :=
 fun x0 x1 x2 x3 x4 x5 x6 x7 x8 x9 x10 x11 => (bif (decide (x5 < x4)) then none else (bif (x1 == x0) then (j3 x0 x2 (IntKind.wrap .i64 (x3 + 1)) x6 x11) else (c2 x6 x7 (fun r3248 r3249 => (c4 x7 (⟨#[13, 10]⟩ : BA) (fun r3250 => (bif (!r3250) then (c2 r3249 (⟨#[13, 10]⟩ : BA) (fun r3251 r3252 => (j3 x0 x2 (IntKind.wrap .i64 (x3 + 1)) r3252 x11))) else (j3 x0 x2 (IntKind.wrap .i64 (x3 + 1)) r3249 x11))))))))
def e {R : Type} (c1 : le_rows.F R) (c2 : st_Builder_WriteString.F R) (c3 : st_Builder_String.F R) (c4 : st_HasSuffix.F R) (a0 : BA) (a1 : Bool) (j3 : J3 R) (j7 : J7 R) (κ0 : BA -> Option R) : Option R :=
 (c1 a0 (fun r3244 => (j3 a1 (r3244.length : Int) 0 ([] : LA) r3244)))
def M3 {R : Type} (c1 : le_rows.F R) (c2 : st_Builder_WriteString.F R) (c3 : st_Builder_String.F R) (c4 : st_HasSuffix.F R) (κ0 : BA -> Option R) : Nat -> (J3 R) × (J7 R)
 | 0 => (fun _ _ _ _ _ => none, fun _ _ _ _ _ _ _ _ _ _ _ _ => none)
 | f + 1 => (t3 c2 c3 ((M3 c1 c2 c3 c4 κ0 f).2) κ0,
  t7 c2 c4 ((M3 c1 c2 c3 c4 κ0 f).1))
def L3 {R : Type} (c1 : le_rows.F R) (c2 : st_Builder_WriteString.F R) (c3 : st_Builder_String.F R) (c4 : st_HasSuffix.F R) (κ0 : BA -> Option R) (f : Nat) : J3 R := (M3 c1 c2 c3 c4 κ0 f).1
def L7 {R : Type} (c1 : le_rows.F R) (c2 : st_Builder_WriteString.F R) (c3 : st_Builder_String.F R) (c4 : st_HasSuffix.F R) (κ0 : BA -> Option R) (f : Nat) : J7 R := (M3 c1 c2 c3 c4 κ0 f).2
end le_Pick
def le_Pick {R : Type} : le_Pick.F R := fun a0 a1 κ0 => le_Pick.e le_rows st_Builder_WriteString st_Builder_String st_HasSuffix a0 a1 (le_Pick.L3 le_rows st_Builder_WriteString st_Builder_String st_HasSuffix κ0 fuelK) (le_Pick.L7 le_rows st_Builder_WriteString st_Builder_String st_HasSuffix κ0 fuelK) κ0
abbrev lm_Section.F (R : Type) : Type := BA -> BA -> BA -> BA -> LA -> Bool -> BA -> Bool -> BA -> Bool -> BA -> Bool -> BA -> LA -> LA -> Bool -> BA -> Int -> Int -> Int -> Int -> Int -> LA -> BA -> Int -> (BA -> Bool -> Option R) -> Option R
namespace lm_Section
abbrev J10 (R : Type) : Type := BA -> Int -> BA -> Int -> BA -> BA -> BA -> LA -> Bool -> BA -> Bool -> BA -> Bool -> BA -> Bool -> BA -> LA -> LA -> Bool -> BA -> Int -> Int -> Int -> Int -> Int -> LA -> BA -> BA -> BA -> LA -> Bool -> BA -> Bool -> BA -> Bool -> BA -> Bool -> BA -> LA -> LA -> Bool -> BA -> Int -> Int -> Int -> Int -> Int -> LA -> Option R
def t10 {R : Type} (c4 : lm_take.F R) (c5 : le_Pick.F R) (κ0 : BA -> Bool -> Option R) : J10 R :=
 fun x0 x1 x2 x3 x4 x5 x6 x7 x8 x9 x10 x11 x12 x13 x14 x15 x16 x17 x18 x19 x20 x21 x22 x23 x24 x25 x26 x27 x28 x29 x30 x31 x32 x33 x34 x35 x36 x37 x38 x39 x40 x41 x42 x43 x44 x45 x46 x47 => (bif (x1 == 0) then (bif (decide (x2 = (⟨#[]⟩ : BA))) then (κ0 x0 true) else (c4 x0 x22 x23 (fun r3557 r3558 => (κ0 r3557 r3558)))) else (bif (x1 == 1) then (c4 x0 x42 x43 (fun r3559 r3560 => (κ0 r3559 r3560))) else (bif (x1 == 4) then (c4 x0 x44 x45 (fun r3561 r3562 => (κ0 r3561 r3562))) else (bif (x1 == 2) then (c4 x0 x42 x43 (fun r3563 r3564 => (bif (!r3564) then (κ0 (⟨#[]⟩ : BA) false) else (c5 r3563 (x3 == 3) (fun r3565 => (κ0 r3565 true)))))) else (bif (x1 == 3) then (c4 x0 x42 x43 (fun r3566 r3567 => (bif (!r3567) then (κ0 (⟨#[]⟩ : BA) false) else (c5 r3566 (x3 == 3) (fun r3568 => (κ0 r3568 true)))))) else (bif (x1 == 5) then (bif (!decide (x2 = (⟨#[]⟩ : BA))) then (c4 x0 x20 x21 (fun r3569 r3570 => (κ0 r3569 r3570))) else (κ0 (⟨#[]⟩ : BA) false)) else (κ0 (⟨#[]⟩ : BA) false)))))))
def e {R : Type} (c1 : lm_find.F R) (c2 : lm_isMessage3.F R) (c3 : lm_isMessage1.F R) (c4 : lm_take.F R) (c5 : le_Pick.F R) (a0 : BA) (a1 : BA) (a2 : BA) (a3 : BA) (a4 : LA) (a5 : Bool) (a6 : BA) (a7 : Bool) (a8 : BA) (a9 : Bool) (a10 : BA) (a11 : Bool) (a12 : BA) (a13 : LA) (a14 : LA) (a15 : Bool) (a16 : BA) (a17 : Int) (a18 : Int) (a19 : Int) (a20 : Int) (a21 : Int) (a22 : LA) (a23 : BA) (a24 : Int) (j10 : J10 R) (κ0 : BA -> Bool -> Option R) : Option R :=
 (c1 a1 a2 a3 a4 a5 a6 a7 a8 a9 a10 a11 a12 a13 a14 a15 a16 a17 a18 a19 a20 a21 a22 a23 (fun r3473 r3474 r3475 r3476 r3477 r3478 r3479 r3480 r3481 r3482 r3483 r3484 r3485 r3486 r3487 r3488 r3489 r3490 r3491 => (bif (!r3491) then (κ0 (⟨#[]⟩ : BA) false) else (bif (!decide (a23 = (⟨#[]⟩ : BA))) then (bif (a24 != 0) then (bif (a24 != 5) then (c2 r3473 r3474 r3475 r3476 r3477 r3478 r3479 r3480 r3481 r3482 r3483 r3484 r3485 r3486 r3487 r3488 r3489 r3490 (fun r3492 r3493 r3494 r3495 r3496 r3497 r3498 r3499 r3500 r3501 r3502 r3503 r3504 r3505 r3506 r3507 r3508 r3509 r3510 => (bif (!r3492) then (κ0 (⟨#[]⟩ : BA) false) else (κ0 (⟨#[]⟩ : BA) false)))) else (j10 a0 a24 a23 a24 r3473 r3474 r3475 ([] : LA) r3476 r3477 r3478 r3479 r3480 r3481 r3482 r3483 ([] : LA) ([] : LA) r3484 r3485 r3486 r3487 r3488 r3489 r3490 ([] : LA) r3473 r3474 r3475 ([] : LA) r3476 r3477 r3478 r3479 r3480 r3481 r3482 r3483 ([] : LA) ([] : LA) r3484 r3485 r3486 r3487 r3488 r3489 r3490 ([] : LA))) else (j10 a0 a24 a23 a24 r3473 r3474 r3475 ([] : LA) r3476 r3477 r3478 r3479 r3480 r3481 r3482 r3483 ([] : LA) ([] : LA) r3484 r3485 r3486 r3487 r3488 r3489 r3490 ([] : LA) r3473 r3474 r3475 ([] : LA) r3476 r3477 r3478 r3479 r3480 r3481 r3482 r3483 ([] : LA) ([] : LA) r3484 r3485 r3486 r3487 r3488 r3489 r3490 ([] : LA))) else (j10 a0 a24 a23 a24 r3473 r3474 r3475 ([] : LA) r3476 r3477 r3478 r3479 r3480 r3481 r3482 r3483 ([] : LA) ([] : LA) r3484 r3485 r3486 r3487 r3488 r3489 r3490 ([] : LA) r3473 r3474 r3475 ([] : LA) r3476 r3477 r3478 r3479 r3480 r3481 r3482 r3483 ([] : LA) ([] : LA) r3484 r3485 r3486 r3487 r3488 r3489 r3490 ([] : LA))))) (fun r3511 r3512 r3513 r3514 r3515 r3516 r3517 r3518 r3519 r3520 r3521 r3522 r3523 r3524 r3525 r3526 r3527 r3528 r3529 r3530 r3531 r3532 r3533 => (bif (!r3533) then (κ0 (⟨#[]⟩ : BA) false) else (bif (!decide (a23 = (⟨#[]⟩ : BA))) then (bif (a24 != 0) then (bif (a24 != 5) then (c3 r3511 r3512 r3513 r3514 r3515 r3516 r3517 r3518 r3519 r3520 r3521 r3522 r3523 r3524 r3525 r3526 r3527 r3528 r3529 r3530 r3531 r3532 (fun r3534 r3535 r3536 r3537 r3538 r3539 r3540 r3541 r3542 r3543 r3544 r3545 r3546 r3547 r3548 r3549 r3550 r3551 r3552 r3553 r3554 r3555 r3556 => (bif (!r3534) then (κ0 (⟨#[]⟩ : BA) false) else (bif ((r3556.length : Int) == 0) then (κ0 (⟨#[]⟩ : BA) false) else (chk (decide ((0 : Int) < (r3556.length : Int))) (j10 a0 a24 a23 a24 r3535 r3536 r3537 r3538 r3539 r3540 r3541 r3542 r3543 r3544 r3545 r3546 r3547 r3548 r3549 r3550 r3551 r3552 r3553 r3554 r3555 r3556 ((rdA r3556 0).fld 0).s ((rdA r3556 0).fld 1).s ((rdA r3556 0).fld 2).s ((rdA r3556 0).fld 3).l ((rdA r3556 0).fld 4).b ((rdA r3556 0).fld 5).s ((rdA r3556 0).fld 6).b ((rdA r3556 0).fld 7).s ((rdA r3556 0).fld 8).b ((rdA r3556 0).fld 9).s ((rdA r3556 0).fld 10).b ((rdA r3556 0).fld 11).s ((rdA r3556 0).fld 12).l ((rdA r3556 0).fld 13).l ((rdA r3556 0).fld 14).b ((rdA r3556 0).fld 15).s ((rdA r3556 0).fld 16).i ((rdA r3556 0).fld 17).i ((rdA r3556 0).fld 18).i ((rdA r3556 0).fld 19).i ((rdA r3556 0).fld 20).i ((rdA r3556 0).fld 21).l)))))) else (j10 a0 a24 a23 a24 r3511 r3512 r3513 r3514 r3515 r3516 r3517 r3518 r3519 r3520 r3521 r3522 r3523 r3524 r3525 r3526 r3527 r3528 r3529 r3530 r3531 r3532 r3511 r3512 r3513 r3514 r3515 r3516 r3517 r3518 r3519 r3520 r3521 r3522 r3523 r3524 r3525 r3526 r3527 r3528 r3529 r3530 r3531 r3532)) else (j10 a0 a24 a23 a24 r3511 r3512 r3513 r3514 r3515 r3516 r3517 r3518 r3519 r3520 r3521 r3522 r3523 r3524 r3525 r3526 r3527 r3528 r3529 r3530 r3531 r3532 r3511 r3512 r3513 r3514 r3515 r3516 r3517 r3518 r3519 r3520 r3521 r3522 r3523 r3524 r3525 r3526 r3527 r3528 r3529 r3530 r3531 r3532)) else (j10 a0 a24 a23 a24 r3511 r3512 r3513 r3514 r3515 r3516 r3517 r3518 r3519 r3520 r3521 r3522 r3523 r3524 r3525 r3526 r3527 r3528 r3529 r3530 r3531 r3532 r3511 r3512 r3513 r3514 r3515 r3516 r3517 r3518 r3519 r3520 r3521 r3522 r3523 r3524 r3525 r3526 r3527 r3528 r3529 r3530 r3531 r3532)))))
def L10 {R : Type} (c1 : lm_find.F R) (c2 : lm_isMessage3.F R) (c3 : lm_isMessage1.F R) (c4 : lm_take.F R) (c5 : le_Pick.F R) (κ0 : BA -> Bool -> Option R) : Nat -> J10 R
 | 0 => fun _ _ _ _ _ _ _ _ _ _ _ _ _ _ _ _ _ _ _ _ _ _ _ _ _ _ _ _ _ _ _ _ _ _ _ _ _ _ _ _ _ _ _ _ _ _ _ _ => none
 | f + 1 => t10 c4 c5 κ0
end lm_Section
def lm_Section {R : Type} : lm_Section.F R := fun a0 a1 a2 a3 a4 a5 a6 a7 a8 a9 a10 a11 a12 a13 a14 a15 a16 a17 a18 a19 a20 a21 a22 a23 a24 κ0 => lm_Section.e lm_find lm_isMessage3 lm_isMessage1 lm_take le_Pick a0 a1 a2 a3 a4 a5 a6 a7 a8 a9 a10 a11 a12 a13 a14 a15 a16 a17 a18 a19 a20 a21 a22 a23 a24 (lm_Section.L10 lm_find lm_isMessage3 lm_isMessage1 lm_take le_Pick κ0 fuelK) κ0
abbrev w6_count.F (R : Type) : Type := BA -> BA -> BA -> LA -> Bool -> BA -> Bool -> BA -> Bool -> BA -> Bool -> BA -> LA -> LA -> Bool -> BA -> Int -> Int -> Int -> Int -> Int -> LA -> (Int -> Option R) -> Option R
namespace w6_count
abbrev J3 (R : Type) : Type := Int -> Int -> BA -> BA -> BA -> LA -> Bool -> BA -> Bool -> BA -> Bool -> BA -> Bool -> BA -> LA -> LA -> Bool -> BA -> Int -> Int -> Int -> Int -> Int -> LA -> Option R
def t3 {R : Type} (c1 : w6_count.F R) (j3 : J3 R) (κ0 : Int -> Option R) : J3 R :=
 fun x0 x1 x2 x3 x4 x5 x6 x7 x8 x9 x10 x11 x12 x13 x14 x15 x16 x17 x18 x19 x20 x21 x22 x23 => (bif (decide (x1 < (x23.length : Int))) then (chk ((decide ((0 : Int) <= x1)) && (decide (x1 < (x23.length : Int)))) (c1 ((rdA x23 x1).fld 0).s ((rdA x23 x1).fld 1).s ((rdA x23 x1).fld 2).s ((rdA x23 x1).fld 3).l ((rdA x23 x1).fld 4).b ((rdA x23 x1).fld 5).s ((rdA x23 x1).fld 6).b ((rdA x23 x1).fld 7).s ((rdA x23 x1).fld 8).b ((rdA x23 x1).fld 9).s ((rdA x23 x1).fld 10).b ((rdA x23 x1).fld 11).s ((rdA x23 x1).fld 12).l ((rdA x23 x1).fld 13).l ((rdA x23 x1).fld 14).b ((rdA x23 x1).fld 15).s ((rdA x23 x1).fld 16).i ((rdA x23 x1).fld 17).i ((rdA x23 x1).fld 18).i ((rdA x23 x1).fld 19).i ((rdA x23 x1).fld 20).i ((rdA x23 x1).fld 21).l (fun r3573 => (j3 (IntKind.wrap .i64 (x0 + r3573)) (IntKind.wrap .i64 (x1 + 1)) x2 x3 x4 x5 x6 x7 x8 x9 x10 x11 x12 x13 x14 x15 x16 x17 x18 x19 x20 x21 x22 x23)))) else (κ0 x0))
def e {R : Type} (c1 : w6_count.F R) (a0 : BA) (a1 : BA) (a2 : BA) (a3 : LA) (a4 : Bool) (a5 : BA) (a6 : Bool) (a7 : BA) (a8 : Bool) (a9 : BA) (a10 : Bool) (a11 : BA) (a12 : LA) (a13 : LA) (a14 : Bool) (a15 : BA) (a16 : Int) (a17 : Int) (a18 : Int) (a19 : Int) (a20 : Int) (a21 : LA) (j3 : J3 R) (κ0 : Int -> Option R) : Option R :=
 (j3 (a21.length : Int) 0 a0 a1 a2 a3 a4 a5 a6 a7 a8 a9 a10 a11 a12 a13 a14 a15 a16 a17 a18 a19 a20 a21)
def L3 {R : Type} (c1 : w6_count.F R) (κ0 : Int -> Option R) : Nat -> J3 R
 | 0 => fun _ _ _ _ _ _ _ _ _ _ _ _ _ _ _ _ _ _ _ _ _ _ _ _ => none
 | f + 1 => t3 c1 (L3 c1 κ0 f) κ0
def B {R : Type} (c1 : w6_count.F R) : F R := fun a0 a1 a2 a3 a4 a5 a6 a7 a8 a9 a10 a11 a12 a13 a14 a15 a16 a17 a18 a19 a20 a21 κ0 => e c1 a0 a1 a2 a3 a4 a5 a6 a7 a8 a9 a10 a11 a12 a13 a14 a15 a16 a17 a18 a19 a20 a21 (L3 c1 κ0 fuelK) κ0
def R {R : Type} : Nat -> F R
 | 0 => fun _ _ _ _ _ _ _ _ _ _ _ _ _ _ _ _ _ _ _ _ _ _ _ => none
 | n + 1 => B (w6_count.R n)
end w6_count
def w6_count {R : Type} : w6_count.F R := w6_count.R fuelK
abbrev w6_deep.F (R : Type) : Type := BA -> BA -> BA -> LA -> Bool -> BA -> Bool -> BA -> Bool -> BA -> Bool -> BA -> LA -> LA -> Bool -> BA -> Int -> Int -> Int -> Int -> Int -> LA -> (Int -> Option R) -> Option R
namespace w6_deep
abbrev J3 (R : Type) : Type := Int -> Int -> BA -> BA -> BA -> LA -> Bool -> BA -> Bool -> BA -> Bool -> BA -> Bool -> BA -> LA -> LA -> Bool -> BA -> Int -> Int -> Int -> Int -> Int -> LA -> Option R
def t3 {R : Type} (c1 : w6_deep.F R) (j3 : J3 R) (κ0 : Int -> Option R) : J3 R :=
 fun x0 x1 x2 x3 x4 x5 x6 x7 x8 x9 x10 x11 x12 x13 x14 x15 x16 x17 x18 x19 x20 x21 x22 x23 => (bif (decide (x1 < (x23.length : Int))) then (chk ((decide ((0 : Int) <= x1)) && (decide (x1 < (x23.length : Int)))) (c1 ((rdA x23 x1).fld 0).s ((rdA x23 x1).fld 1).s ((rdA x23 x1).fld 2).s ((rdA x23 x1).fld 3).l ((rdA x23 x1).fld 4).b ((rdA x23 x1).fld 5).s ((rdA x23 x1).fld 6).b ((rdA x23 x1).fld 7).s ((rdA x23 x1).fld 8).b ((rdA x23 x1).fld 9).s ((rdA x23 x1).fld 10).b ((rdA x23 x1).fld 11).s ((rdA x23 x1).fld 12).l ((rdA x23 x1).fld 13).l ((rdA x23 x1).fld 14).b ((rdA x23 x1).fld 15).s ((rdA x23 x1).fld 16).i ((rdA x23 x1).fld 17).i ((rdA x23 x1).fld 18).i ((rdA x23 x1).fld 19).i ((rdA x23 x1).fld 20).i ((rdA x23 x1).fld 21).l (fun r3575 => (j3 (max2 x0 (IntKind.wrap .i64 (1 + r3575))) (IntKind.wrap .i64 (x1 + 1)) x2 x3 x4 x5 x6 x7 x8 x9 x10 x11 x12 x13 x14 x15 x16 x17 x18 x19 x20 x21 x22 x23)))) else (κ0 x0))
def e {R : Type} (c1 : w6_deep.F R) (a0 : BA) (a1 : BA) (a2 : BA) (a3 : LA) (a4 : Bool) (a5 : BA) (a6 : Bool) (a7 : BA) (a8 : Bool) (a9 : BA) (a10 : Bool) (a11 : BA) (a12 : LA) (a13 : LA) (a14 : Bool) (a15 : BA) (a16 : Int) (a17 : Int) (a18 : Int) (a19 : Int) (a20 : Int) (a21 : LA) (j3 : J3 R) (κ0 : Int -> Option R) : Option R :=
 (j3 0 0 a0 a1 a2 a3 a4 a5 a6 a7 a8 a9 a10 a11 a12 a13 a14 a15 a16 a17 a18 a19 a20 a21)
def L3 {R : Type} (c1 : w6_deep.F R) (κ0 : Int -> Option R) : Nat -> J3 R
 | 0 => fun _ _ _ _ _ _ _ _ _ _ _ _ _ _ _ _ _ _ _ _ _ _ _ _ => none
 | f + 1 => t3 c1 (L3 c1 κ0 f) κ0
def B {R : Type} (c1 : w6_deep.F R) : F R := fun a0 a1 a2 a3 a4 a5 a6 a7 a8 a9 a10 a11 a12 a13 a14 a15 a16 a17 a18 a19 a20 a21 κ0 => e c1 a0 a1 a2 a3 a4 a5 a6 a7 a8 a9 a10 a11 a12 a13 a14 a15 a16 a17 a18 a19 a20 a21 (L3 c1 κ0 fuelK) κ0
def R {R : Type} : Nat -> F R
 | 0 => fun _ _ _ _ _ _ _ _ _ _ _ _ _ _ _ _ _ _ _ _ _ _ _ => none
 | n + 1 => B (w6_deep.R n)
end w6_deep
def w6_deep {R : Type} : w6_deep.F R := w6_deep.R fuelK
abbrev w6_spot.F (R : Type) : Type := Int -> Int -> (Int -> Option R) -> Option R
namespace w6_spot
def e {R : Type} (a0 : Int) (a1 : Int) (κ0 : Int -> Option R) : Option R :=
 (bif (decide (a0 < (0 : Int))) then (chk (a1 != 0) (κ0 (Int.tmod (IntKind.wrap .i64 (0 - (IntKind.wrap .i64 (a0 + 1)))) a1))) else (chk (a1 != 0) (κ0 (Int.tmod a0 a1))))
end w6_spot
def w6_spot {R : Type} : w6_spot.F R := fun a0 a1 κ0 => w6_spot.e a0 a1 κ0
abbrev w6_places.F (R : Type) : Type := BA -> BA -> BA -> LA -> Bool -> BA -> Bool -> BA -> Bool -> BA -> Bool -> BA -> LA -> LA -> Bool -> BA -> Int -> Int -> Int -> Int -> Int -> LA -> (LA -> Option R) -> Option R
namespace w6_places
abbrev J5 (R : Type) : Type := Int -> BA -> BA -> BA -> LA -> Bool -> BA -> Bool -> BA -> Bool -> BA -> Bool -> BA -> LA -> LA -> Bool -> BA -> Int -> Int -> Int -> Int -> Int -> LA -> LA -> Option R
def t5 {R : Type} (c1 : w6_places.F R) (j5 : J5 R) (κ0 : LA -> Option R) : J5 R :=
 fun x0 x1 x2 x3 x4 x5 x6 x7 x8 x9 x10 x11 x12 x13 x14 x15 x16 x17 x18 x19 x20 x21 x22 x23 => (bif (decide (x0 < (x22.length : Int))) then (chk ((decide ((0 : Int) <= x0)) && (decide (x0 < (x22.length : Int)))) (c1 ((rdA x22 x0).fld 0).s ((rdA x22 x0).fld 1).s ((rdA x22 x0).fld 2).s ((rdA x22 x0).fld 3).l ((rdA x22 x0).fld 4).b ((rdA x22 x0).fld 5).s ((rdA x22 x0).fld 6).b ((rdA x22 x0).fld 7).s ((rdA x22 x0).fld 8).b ((rdA x22 x0).fld 9).s ((rdA x22 x0).fld 10).b ((rdA x22 x0).fld 11).s ((rdA x22 x0).fld 12).l ((rdA x22 x0).fld 13).l ((rdA x22 x0).fld 14).b ((rdA x22 x0).fld 15).s ((rdA x22 x0).fld 16).i ((rdA x22 x0).fld 17).i ((rdA x22 x0).fld 18).i ((rdA x22 x0).fld 19).i ((rdA x22 x0).fld 20).i ((rdA x22 x0).fld 21).l (fun r3578 => (chk (decide ((x23.length + r3578.length) * 16 <= 140737488355328)) (j5 (IntKind.wrap .i64 (x0 + 1)) x1 x2 x3 x4 x5 x6 x7 x8 x9 x10 x11 x12 x13 x14 x15 x16 x17 x18 x19 x20 x21 x22 (x23 ++ r3578)))))) else (κ0 x23))
def e {R : Type} (c1 : w6_places.F R) (a0 : BA) (a1 : BA) (a2 : BA) (a3 : LA) (a4 : Bool) (a5 : BA) (a6 : Bool) (a7 : BA) (a8 : Bool) (a9 : BA) (a10 : Bool) (a11 : BA) (a12 : LA) (a13 : LA) (a14 : Bool) (a15 : BA) (a16 : Int) (a17 : Int) (a18 : Int) (a19 : Int) (a20 : Int) (a21 : LA) (j5 : J5 R) (κ0 : LA -> Option R) : Option R :=
 (chk (decide (a0.size + (⟨#[46, 49]⟩ : BA).size <= 9223372036854775807)) (bif (decide (a0 = (⟨#[]⟩ : BA))) then (j5 0 a0 a1 a2 a3 a4 a5 a6 a7 a8 a9 a10 a11 a12 a13 a14 a15 a16 a17 a18 a19 a20 a21 [AV.str (⟨#[49]⟩ : BA), AV.str (⟨#[49, 46, 49]⟩ : BA), AV.str (⟨#[50]⟩ : BA)]) else (j5 0 a0 a1 a2 a3 a4 a5 a6 a7 a8 a9 a10 a11 a12 a13 a14 a15 a16 a17 a18 a19 a20 a21 [AV.str a0, AV.str (a0 ++ (⟨#[46, 49]⟩ : BA))])))
def L5 {R : Type} (c1 : w6_places.F R) (κ0 : LA -> Option R) : Nat -> J5 R
 | 0 => fun _ _ _ _ _ _ _ _ _ _ _ _ _ _ _ _ _ _ _ _ _ _ _ _ => none
 | f + 1 => t5 c1 (L5 c1 κ0 f) κ0
def B {R : Type} (c1 : w6_places.F R) : F R := fun a0 a1 a2 a3 a4 a5 a6 a7 a8 a9 a10 a11 a12 a13 a14 a15 a16 a17 a18 a19 a20 a21 κ0 => e c1 a0 a1 a2 a3 a4 a5 a6 a7 a8 a9 a10 a11 a12 a13 a14 a15 a16 a17 a18 a19 a20 a21 (L5 c1 κ0 fuelK) κ0
def R {R : Type} : Nat -> F R
 | 0 => fun _ _ _ _ _ _ _ _ _ _ _ _ _ _ _ _ _ _ _ _ _ _ _ => none
 | n + 1 => B (w6_places.R n)
end w6_places
def w6_places {R : Type} : w6_places.F R := w6_places.R fuelK
abbrev le_Pick1.F (R : Type) : Type := BA -> Bool -> LA -> (BA -> Option R) -> Option R
namespace le_Pick1
abbrev J3 (R : Type) : Type := Bool -> LA -> Int -> Int -> LA -> LA -> Option R
abbrev J7 (R : Type) : Type := Bool -> LA -> Bool -> Int -> Int -> LA -> Int -> Int -> LA -> BA -> BA -> Bool -> Bool -> LA -> Option R
def t3 {R : Type} (c2 : st_Builder_WriteString.F R) (c3 : st_Builder_String.F R) (j7 : J7 R) (κ0 : BA -> Option R) : J3 R :=
 fun x0 x1 x2 x3 x4 x5 => (bif (decide (x3 < x2)) then (chk ((decide ((0 : Int) <= x3)) && (decide (x3 < (x5.length : Int)))) (j7 x0 x1 false x2 x3 x1 (x1.length : Int) 0 x4 ((rdA x5 x3).fld 0).s ((rdA x5 x3).fld 1).s ((rdA x5 x3).fld 2).b ((rdA x5 x3).fld 3).b x5)) else (c2 x4 (⟨#[13, 10]⟩ : BA) (fun r3687 r3688 => (c3 r3688 (fun r3689 => (κ0 r3689))))))
def t7 {R : Type} (c2 : st_Builder_WriteString.F R) (c4 : oc_Same.F R) (c5 : st_HasSuffix.F R) (j3 : J3 R) (j7 : J7 R) : J7 R :=
 fun x0 x1 x2 x3 x4 x5 x6 x7 x8 x9 x10 x11 x12 x13 => (bif (decide (x7 < x6)) then (chk ((decide ((0 : Int) <= x7)) && (decide (x7 < (x5.length : Int)))) (bif x2 then (j7 x0 x1 true x3 x4 x5 x6 (IntKind.wrap .i64 (x7 + 1)) x8 x9 x10 x11 x12 x13) else (bif x12 then (c4 x10 (rdA x5 x7).s (fun r3690 => (j7 x0 x1 r3690 x3 x4 x5 x6 (IntKind.wrap .i64 (x7 + 1)) x8 x9 x10 x11 x12 x13))) else (j7 x0 x1 false x3 x4 x5 x6 (IntKind.wrap .i64 (x7 + 1)) x8 x9 x10 x11 x12 x13)))) else (bif (x2 == x0) then (j3 x0 x1 x3 (IntKind.wrap .i64 (x4 + 1)) x8 x13) else (c2 x8 x9 (fun r3691 r3692 => (c5 x9 (⟨#[13, 10]⟩ : BA) (fun r3693 => (bif (!r3693) then (c2 r3692 (⟨#[13, 10]⟩ : BA) (fun r3694 r3695 => (j3 x0 x1 x3 (IntKind.wrap .i64 (x4 + 1)) r3695 x13))) else (j3 x0 x1 x3 (IntKind.wrap .i64 (x4 + 1)) r3692 x13))))))))
def e {R : Type} (c1 : le_rows.F R) (c2 : st_Builder_WriteString.F R) (c3 : st_Builder_String.F R) (c4 : oc_Same.F R) (c5 : st_HasSuffix.F R) (a0 : BA) (a1 : Bool) (a2 : LA) (j3 : J3 R) (j7 : J7 R) (κ0 : BA -> Option R) : Option R :=
 (c1 a0 (fun r3686 => (j3 a1 a2 (r3686.length : Int) 0 ([] : LA) r3686)))
def M3 {R : Type} (c1 : le_rows.F R) (c2 : st_Builder_WriteString.F R) (c3 : st_Builder_String.F R) (c4 : oc_Same.F R) (c5 : st_HasSuffix.F R) (κ0 : BA -> Option R) : Nat -> (J3 R) × (J7 R)
 | 0 => (fun _ _ _ _ _ _ => none, fun _ _ _ _ _ _ _ _ _ _ _ _ _ _ => none)
 | f + 1 => (t3 c2 c3 ((M3 c1 c2 c3 c4 c5 κ0 f).2) κ0,
  t7 c2 c4 c5 ((M3 c1 c2 c3 c4 c5 κ0 f).1) ((M3 c1 c2 c3 c4 c5 κ0 f).2))
def L3 {R : Type} (c1 : le_rows.F R) (c2 : st_Builder_WriteString.F R) (c3 : st_Builder_String.F R) (c4 : oc_Same.F R) (c5 : st_HasSuffix.F R) (κ0 : BA -> Option R) (f : Nat) : J3 R := (M3 c1 c2 c3 c4 c5 κ0 f).1
def L7 {R : Type} (c1 : le_rows.F R) (c2 : st_Builder_WriteString.F R) (c3 : st_Builder_String.F R) (c4 : oc_Same.F R) (c5 : st_HasSuffix.F R) (κ0 : BA -> Option R) (f : Nat) : J7 R := (M3 c1 c2 c3 c4 c5 κ0 f).2
end le_Pick1
def le_Pick1 {R : Type} : le_Pick1.F R := fun a0 a1 a2 κ0 => le_Pick1.e le_rows st_Builder_WriteString st_Builder_String oc_Same st_HasSuffix a0 a1 a2 (le_Pick1.L3 le_rows st_Builder_WriteString st_Builder_String oc_Same st_HasSuffix κ0 fuelK) (le_Pick1.L7 le_rows st_Builder_WriteString st_Builder_String oc_Same st_HasSuffix κ0 fuelK) κ0
abbrev lm_Section1.F (R : Type) : Type := BA -> BA -> BA -> BA -> LA -> Bool -> BA -> Bool -> BA -> Bool -> BA -> Bool -> BA -> LA -> LA -> Bool -> BA -> Int -> Int -> Int -> Int -> Int -> LA -> BA -> Int -> LA -> (BA -> Bool -> Option R) -> Option R
namespace lm_Section1
abbrev J10 (R : Type) : Type := BA -> Int -> BA -> Int -> LA -> BA -> BA -> BA -> LA -> Bool -> BA -> Bool -> BA -> Bool -> BA -> Bool -> BA -> LA -> LA -> Bool -> BA -> Int -> Int -> Int -> Int -> Int -> LA -> BA -> BA -> BA -> LA -> Bool -> BA -> Bool -> BA -> Bool -> BA -> Bool -> BA -> LA -> LA -> Bool -> BA -> Int -> Int -> Int -> Int -> Int -> LA -> Option R
def t10 {R : Type} (c4 : lm_take.F R) (c5 : le_Pick1.F R) (κ0 : BA -> Bool -> Option R) : J10 R :=
 fun x0 x1 x2 x3 x4 x5 x6 x7 x8 x9 x10 x11 x12 x13 x14 x15 x16 x17 x18 x19 x20 x21 x22 x23 x24 x25 x26 x27 x28 x29 x30 x31 x32 x33 x34 x35 x36 x37 x38 x39 x40 x41 x42 x43 x44 x45 x46 x47 x48 => (bif (x1 == 0) then (bif (decide (x2 = (⟨#[]⟩ : BA))) then (κ0 x0 true) else (c4 x0 x23 x24 (fun r4000 r4001 => (κ0 r4000 r4001)))) else (bif (x1 == 1) then (c4 x0 x43 x44 (fun r4002 r4003 => (κ0 r4002 r4003))) else (bif (x1 == 4) then (c4 x0 x45 x46 (fun r4004 r4005 => (κ0 r4004 r4005))) else (bif (x1 == 2) then (c4 x0 x43 x44 (fun r4006 r4007 => (bif (!r4007) then (κ0 (⟨#[]⟩ : BA) false) else (c5 r4006 (x3 == 3) x4 (fun r4008 => (κ0 r4008 true)))))) else (bif (x1 == 3) then (c4 x0 x43 x44 (fun r4009 r4010 => (bif (!r4010) then (κ0 (⟨#[]⟩ : BA) false) else (c5 r4009 (x3 == 3) x4 (fun r4011 => (κ0 r4011 true)))))) else (bif (x1 == 5) then (bif (!decide (x2 = (⟨#[]⟩ : BA))) then (c4 x0 x21 x22 (fun r4012 r4013 => (κ0 r4012 r4013))) else (κ0 (⟨#[]⟩ : BA) false)) else (κ0 (⟨#[]⟩ : BA) false)))))))
def e {R : Type} (c1 : lm_find.F R) (c2 : lm_isMessage3.F R) (c3 : lm_isMessage1.F R) (c4 : lm_take.F R) (c5 : le_Pick1.F R) (a0 : BA) (a1 : BA) (a2 : BA) (a3 : BA) (a4 : LA) (a5 : Bool) (a6 : BA) (a7 : Bool) (a8 : BA) (a9 : Bool) (a10 : BA) (a11 : Bool) (a12 : BA) (a13 : LA) (a14 : LA) (a15 : Bool) (a16 : BA) (a17 : Int) (a18 : Int) (a19 : Int) (a20 : Int) (a21 : Int) (a22 : LA) (a23 : BA) (a24 : Int) (a25 : LA) (j10 : J10 R) (κ0 : BA -> Bool -> Option R) : Option R :=
 (c1 a1 a2 a3 a4 a5 a6 a7 a8 a9 a10 a11 a12 a13 a14 a15 a16 a17 a18 a19 a20 a21 a22 a23 (fun r3916 r3917 r3918 r3919 r3920 r3921 r3922 r3923 r3924 r3925 r3926 r3927 r3928 r3929 r3930 r3931 r3932 r3933 r3934 => (bif (!r3934) then (κ0 (⟨#[]⟩ : BA) false) else (bif (!decide (a23 = (⟨#[]⟩ : BA))) then (bif (a24 != 0) then (bif (a24 != 5) then (c2 r3916 r3917 r3918 r3919 r3920 r3921 r3922 r3923 r3924 r3925 r3926 r3927 r3928 r3929 r3930 r3931 r3932 r3933 (fun r3935 r3936 r3937 r3938 r3939 r3940 r3941 r3942 r3943 r3944 r3945 r3946 r3947 r3948 r3949 r3950 r3951 r3952 r3953 => (bif (!r3935) then (κ0 (⟨#[]⟩ : BA) false) else (κ0 (⟨#[]⟩ : BA) false)))) else (j10 a0 a24 a23 a24 a25 r3916 r3917 r3918 ([] : LA) r3919 r3920 r3921 r3922 r3923 r3924 r3925 r3926 ([] : LA) ([] : LA) r3927 r3928 r3929 r3930 r3931 r3932 r3933 ([] : LA) r3916 r3917 r3918 ([] : LA) r3919 r3920 r3921 r3922 r3923 r3924 r3925 r3926 ([] : LA) ([] : LA) r3927 r3928 r3929 r3930 r3931 r3932 r3933 ([] : LA))) else (j10 a0 a24 a23 a24 a25 r3916 r3917 r3918 ([] : LA) r3919 r3920 r3921 r3922 r3923 r3924 r3925 r3926 ([] : LA) ([] : LA) r3927 r3928 r3929 r3930 r3931 r3932 r3933 ([] : LA) r3916 r3917 r3918 ([] : LA) r3919 r3920 r3921 r3922 r3923 r3924 r3925 r3926 ([] : LA) ([] : LA) r3927 r3928 r3929 r3930 r3931 r3932 r3933 ([] : LA))) else (j10 a0 a24 a23 a24 a25 r3916 r3917 r3918 ([] : LA) r3919 r3920 r3921 r3922 r3923 r3924 r3925 r3926 ([] : LA) ([] : LA) r3927 r3928 r3929 r3930 r3931 r3932 r3933 ([] : LA) r3916 r3917 r3918 ([] : LA) r3919 r3920 r3921 r3922 r3923 r3924 r3925 r3926 ([] : LA) ([] : LA) r3927 r3928 r3929 r3930 r3931 r3932 r3933 ([] : LA))))) (fun r3954 r3955 r3956 r3957 r3958 r3959 r3960 r3961 r3962 r3963 r3964 r3965 r3966 r3967 r3968 r3969 r3970 r3971 r3972 r3973 r3974 r3975 r3976 => (bif (!r3976) then (κ0 (⟨#[]⟩ : BA) false) else (bif (!decide (a23 = (⟨#[]⟩ : BA))) then (bif (a24 != 0) then (bif (a24 != 5) then (c3 r3954 r3955 r3956 r3957 r3958 r3959 r3960 r3961 r3962 r3963 r3964 r3965 r3966 r3967 r3968 r3969 r3970 r3971 r3972 r3973 r3974 r3975 (fun r3977 r3978 r3979 r3980 r3981 r3982 r3983 r3984 r3985 r3986 r3987 r3988 r3989 r3990 r3991 r3992 r3993 r3994 r3995 r3996 r3997 r3998 r3999 => (bif (!r3977) then (κ0 (⟨#[]⟩ : BA) false) else (bif ((r3999.length : Int) == 0) then (κ0 (⟨#[]⟩ : BA) false) else (chk (decide ((0 : Int) < (r3999.length : Int))) (j10 a0 a24 a23 a24 a25 r3978 r3979 r3980 r3981 r3982 r3983 r3984 r3985 r3986 r3987 r3988 r3989 r3990 r3991 r3992 r3993 r3994 r3995 r3996 r3997 r3998 r3999 ((rdA r3999 0).fld 0).s ((rdA r3999 0).fld 1).s ((rdA r3999 0).fld 2).s ((rdA r3999 0).fld 3).l ((rdA r3999 0).fld 4).b ((rdA r3999 0).fld 5).s ((rdA r3999 0).fld 6).b ((rdA r3999 0).fld 7).s ((rdA r3999 0).fld 8).b ((rdA r3999 0).fld 9).s ((rdA r3999 0).fld 10).b ((rdA r3999 0).fld 11).s ((rdA r3999 0).fld 12).l ((rdA r3999 0).fld 13).l ((rdA r3999 0).fld 14).b ((rdA r3999 0).fld 15).s ((rdA r3999 0).fld 16).i ((rdA r3999 0).fld 17).i ((rdA r3999 0).fld 18).i ((rdA r3999 0).fld 19).i ((rdA r3999 0).fld 20).i ((rdA r3999 0).fld 21).l)))))) else (j10 a0 a24 a23 a24 a25 r3954 r3955 r3956 r3957 r3958 r3959 r3960 r3961 r3962 r3963 r3964 r3965 r3966 r3967 r3968 r3969 r3970 r3971 r3972 r3973 r3974 r3975 r3954 r3955 r3956 r3957 r3958 r3959 r3960 r3961 r3962 r3963 r3964 r3965 r3966 r3967 r3968 r3969 r3970 r3971 r3972 r3973 r3974 r3975)) else (j10 a0 a24 a23 a24 a25 r3954 r3955 r3956 r3957 r3958 r3959 r3960 r3961 r3962 r3963 r3964 r3965 r3966 r3967 r3968 r3969 r3970 r3971 r3972 r3973 r3974 r3975 r3954 r3955 r3956 r3957 r3958 r3959 r3960 r3961 r3962 r3963 r3964 r3965 r3966 r3967 r3968 r3969 r3970 r3971 r3972 r3973 r3974 r3975)) else (j10 a0 a24 a23 a24 a25 r3954 r3955 r3956 r3957 r3958 r3959 r3960 r3961 r3962 r3963 r3964 r3965 r3966 r3967 r3968 r3969 r3970 r3971 r3972 r3973 r3974 r3975 r3954 r3955 r3956 r3957 r3958 r3959 r3960 r3961 r3962 r3963 r3964 r3965 r3966 r3967 r3968 r3969 r3970 r3971 r3972 r3973 r3974 r3975)))))
def L10 {R : Type} (c1 : lm_find.F R) (c2 : lm_isMessage3.F R) (c3 : lm_isMessage1.F R) (c4 : lm_take.F R) (c5 : le_Pick1.F R) (κ0 : BA -> Bool -> Option R) : Nat -> J10 R
 | 0 => fun _ _ _ _ _ _ _ _ _ _ _ _ _ _ _ _ _ _ _ _ _ _ _ _ _ _ _ _ _ _ _ _ _ _ _ _ _ _ _ _ _ _ _ _ _ _ _ _ _ => none
 | f + 1 => t10 c4 c5 κ0
end lm_Section1
def lm_Section1 {R : Type} : lm_Section1.F R := fun a0 a1 a2 a3 a4 a5 a6 a7 a8 a9 a10 a11 a12 a13 a14 a15 a16 a17 a18 a19 a20 a21 a22 a23 a24 a25 κ0 => lm_Section1.e lm_find lm_isMessage3 lm_isMessage1 lm_take le_Pick1 a0 a1 a2 a3 a4 a5 a6 a7 a8 a9 a10 a11 a12 a13 a14 a15 a16 a17 a18 a19 a20 a21 a22 a23 a24 a25 (lm_Section1.L10 lm_find lm_isMessage3 lm_isMessage1 lm_take le_Pick1 κ0 fuelK) κ0
abbrev w6_LimbNests.F (R : Type) : Type := BA -> Bool -> BA -> Int -> (Bool -> Option R) -> Option R
namespace w6_LimbNests
abbrev J12 (R : Type) : Type := BA -> BA -> Int -> BA -> BA -> Int -> Option R
abbrev J16 (R : Type) : Type := BA -> BA -> Int -> BA -> BA -> Option R
abbrev J26 (R : Type) : Type := BA -> Int -> BA -> BA -> Int -> BA -> BA -> BA -> LA -> Bool -> BA -> Bool -> BA -> Bool -> BA -> Bool -> BA -> LA -> LA -> Bool -> BA -> Int -> Int -> Int -> Int -> Int -> LA -> BA -> BA -> BA -> LA -> Bool -> BA -> Bool -> BA -> Bool -> BA -> Bool -> BA -> LA -> LA -> Bool -> BA -> Int -> Int -> Int -> Int -> Int -> LA -> LA -> Option R
def t12 {R : Type} (j12 : J12 R) (j16 : J16 R) (κ0 : Bool -> Option R) : J12 R :=
 fun x0 x1 x2 x3 x4 x5 => (bif (decide ((IntKind.wrap .i64 (x5 + 6)) <= (x0.size : Int))) then (chk ((decide ((0 : Int) <= x5)) && ((decide (x5 <= (IntKind.wrap .i64 (x5 + 6)))) && (decide ((IntKind.wrap .i64 (x5 + 6)) <= (x0.size : Int))))) (bif (decide ((x0.extract (x5).toNat ((IntKind.wrap .i64 (x5 + 6))).toNat) = (⟨#[122, 113, 122, 113, 122, 113]⟩ : BA))) then (κ0 true) else (j12 x0 x1 x2 x3 x4 (IntKind.wrap .i64 (x5 + 1))))) else (j16 x0 x1 x2 x3 x4))
def t16 {R : Type} (c2 : lm_Parse.F R) (c3 : lm_Section.F R) (c4 : w6_count.F R) (c5 : w6_deep.F R) (c6 : w6_spot.F R) (c7 : w6_places.F R) (j26 : J26 R) (κ0 : Bool -> Option R) : J16 R :=
 fun x0 x1 x2 x3 x4 => (c2 x3 (fun r4023 r4024 r4025 r4026 r4027 r4028 r4029 r4030 r4031 r4032 r4033 r4034 r4035 r4036 r4037 r4038 r4039 r4040 r4041 r4042 r4043 r4044 => (c2 x0 (fun r4045 r4046 r4047 r4048 r4049 r4050 r4051 r4052 r4053 r4054 r4055 r4056 r4057 r4058 r4059 r4060 r4061 r4062 r4063 r4064 r4065 r4066 => (c3 x3 r4023 r4024 r4025 r4026 r4027 r4028 r4029 r4030 r4031 r4032 r4033 r4034 r4035 r4036 r4037 r4038 r4039 r4040 r4041 r4042 r4043 r4044 x4 0 (fun r4067 r4068 => (bif (!r4068) then (κ0 false) else (bif (!decide (r4067 = x0)) then (κ0 false) else (c4 r4045 r4046 r4047 r4048 r4049 r4050 r4051 r4052 r4053 r4054 r4055 r4056 r4057 r4058 r4059 r4060 r4061 r4062 r4063 r4064 r4065 r4066 (fun r4069 => (bif (decide (r4069 > (8 : Int))) then (κ0 true) else (c5 r4045 r4046 r4047 r4048 r4049 r4050 r4051 r4052 r4053 r4054 r4055 r4056 r4057 r4058 r4059 r4060 r4061 r4062 r4063 r4064 r4065 r4066 (fun r4070 => (bif (decide (r4070 > (2 : Int))) then (κ0 true) else (c6 x2 6 (fun r4071 => (c7 r4045 r4046 r4047 r4048 r4049 r4050 r4051 r4052 r4053 r4054 r4055 r4056 r4057 r4058 r4059 r4060 r4061 r4062 r4063 r4064 r4065 r4066 (fun r4072 => (chk (decide ((r4072.length + 1) * 16 <= 140737488355328)) (j26 x0 r4071 x3 x4 0 r4023 r4024 r4025 r4026 r4027 r4028 r4029 r4030 r4031 r4032 r4033 r4034 r4035 r4036 r4037 r4038 r4039 r4040 r4041 r4042 r4043 r4044 r4045 r4046 r4047 r4048 r4049 r4050 r4051 r4052 r4053 r4054 r4055 r4056 r4057 r4058 r4059 r4060 r4061 r4062 r4063 r4064 r4065 r4066 (r4072 ++ [AV.str x1])))))))))))))))))))))
def t26 {R : Type} (c3 : lm_Section.F R) (c8 : lm_Section1.F R) (j26 : J26 R) (κ0 : Bool -> Option R) : J26 R :=
 fun x0 x1 x2 x3 x4 x5 x6 x7 x8 x9 x10 x11 x12 x13 x14 x15 x16 x17 x18 x19 x20 x21 x22 x23 x24 x25 x26 x27 x28 x29 x30 x31 x32 x33 x34 x35 x36 x37 x38 x39 x40 x41 x42 x43 x44 x45 x46 x47 x48 x49 => (bif (decide (x4 < (x49.length : Int))) then (chk ((decide ((0 : Int) <= x4)) && (decide (x4 < (x49.length : Int)))) (bif (decide ((rdA x49 x4).s = (⟨#[]⟩ : BA))) then (j26 x0 x1 x2 x3 (IntKind.wrap .i64 (x4 + 1)) x5 x6 x7 x8 x9 x10 x11 x12 x13 x14 x15 x16 x17 x18 x19 x20 x21 x22 x23 x24 x25 x26 x27 x28 x29 x30 x31 x32 x33 x34 x35 x36 x37 x38 x39 x40 x41 x42 x43 x44 x45 x46 x47 x48 x49) else (chk ((decide ((0 : Int) <= x4)) && (decide (x4 < (x49.length : Int)))) (c8 x0 x27 x28 x29 x30 x31 x32 x33 x34 x35 x36 x37 x38 x39 x40 x41 x42 x43 x44 x45 x46 x47 x48 (rdA x49 x4).s x1 [AV.str (⟨#[83, 117, 98, 106, 101, 99, 116]⟩ : BA)] (fun r4073 r4074 => (chk (decide (x3.size + (⟨#[46]⟩ : BA).size <= 9223372036854775807)) (chk ((decide ((0 : Int) <= x4)) && (decide (x4 < (x49.length : Int)))) (chk (decide ((x3 ++ (⟨#[46]⟩ : BA)).size + (rdA x49 x4).s.size <= 9223372036854775807)) (c8 x2 x5 x6 x7 x8 x9 x10 x11 x12 x13 x14 x15 x16 x17 x18 x19 x20 x21 x22 x23 x24 x25 x26 ((x3 ++ (⟨#[46]⟩ : BA)) ++ (rdA x49 x4).s) x1 [AV.str (⟨#[83, 117, 98, 106, 101, 99, 116]⟩ : BA)] (fun r4075 r4076 => (bif (!(r4074 == r4076)) then (κ0 false) else (bif (!decide (r4073 = r4075)) then (κ0 false) else (j26 x0 x1 x2 x3 (IntKind.wrap .i64 (x4 + 1)) x5 x6 x7 x8 x9 x10 x11 x12 x13 x14 x15 x16 x17 x18 x19 x20 x21 x22 x23 x24 x25 x26 x27 x28 x29 x30 x31 x32 x33 x34 x35 x36 x37 x38 x39 x40 x41 x42 x43 x44 x45 x46 x47 x48 x49))))))))))))) else (c3 x0 x27 x28 x29 x30 x31 x32 x33 x34 x35 x36 x37 x38 x39 x40 x41 x42 x43 x44 x45 x46 x47 x48 (⟨#[]⟩ : BA) 1 (fun r4077 r4078 => (c3 x2 x5 x6 x7 x8 x9 x10 x11 x12 x13 x14 x15 x16 x17 x18 x19 x20 x21 x22 x23 x24 x25 x26 x3 1 (fun r4079 r4080 => (bif r4078 then (bif r4080 then (κ0 (decide (r4077 = r4079))) else (κ0 false)) else (κ0 false)))))))
def e {R : Type} (c1 : w6_known.F R) (c2 : lm_Parse.F R) (c3 : lm_Section.F R) (c4 : w6_count.F R) (c5 : w6_deep.F R) (c6 : w6_spot.F R) (c7 : w6_places.F R) (c8 : lm_Section1.F R) (a0 : BA) (a1 : Bool) (a2 : BA) (a3 : Int) (j12 : J12 R) (j16 : J16 R) (j26 : J26 R) (κ0 : Bool -> Option R) : Option R :=
 (c1 (fun r4022 => (bif (!r4022) then (κ0 false) else (bif (decide ((a0.size : Int) > (3000 : Int))) then (κ0 true) else (chk (decide ((⟨#[67, 111, 110, 116, 101, 110, 116, 45, 84, 121, 112, 101, 58, 32, 109, 101, 115, 115, 97, 103, 101, 47, 114, 102, 99, 56, 50, 50, 13, 10, 13, 10]⟩ : BA).size + a0.size <= 9223372036854775807)) (bif a1 then (chk (decide ((⟨#[67, 111, 110, 116, 101, 110, 116, 45, 84, 121, 112, 101, 58, 32, 109, 117, 108, 116, 105, 112, 97, 114, 116, 47, 109, 105, 120, 101, 100, 59, 32, 98, 111, 117, 110, 100, 97, 114, 121, 61, 122, 113, 122, 113, 122, 113, 13, 10, 13, 10, 45, 45, 122, 113, 122, 113, 122, 113, 13, 10, 13, 10, 116, 101, 120, 116, 13, 10, 45, 45, 122, 113, 122, 113, 122, 113, 13, 10, 67, 111, 110, 116, 101, 110, 116, 45, 84, 121, 112, 101, 58, 32, 77, 101, 115, 115, 97, 103, 101, 47, 82, 70, 67, 56, 50, 50, 13, 10, 13, 10]⟩ : BA).size + a0.size <= 9223372036854775807)) (chk (decide (((⟨#[67, 111, 110, 116, 101, 110, 116, 45, 84, 121, 112, 101, 58, 32, 109, 117, 108, 116, 105, 112, 97, 114, 116, 47, 109, 105, 120, 101, 100, 59, 32, 98, 111, 117, 110, 100, 97, 114, 121, 61, 122, 113, 122, 113, 122, 113, 13, 10, 13, 10, 45, 45, 122, 113, 122, 113, 122, 113, 13, 10, 13, 10, 116, 101, 120, 116, 13, 10, 45, 45, 122, 113, 122, 113, 122, 113, 13, 10, 67, 111, 110, 116, 101, 110, 116, 45, 84, 121, 112, 101, 58, 32, 77, 101, 115, 115, 97, 103, 101, 47, 82, 70, 67, 56, 50, 50, 13, 10, 13, 10]⟩ : BA) ++ a0).size + (⟨#[13, 10, 45, 45, 122, 113, 122, 113, 122, 113, 45, 45]⟩ : BA).size <= 9223372036854775807)) (j12 a0 a2 a3 (((⟨#[67, 111, 110, 116, 101, 110, 116, 45, 84, 121, 112, 101, 58, 32, 109, 117, 108, 116, 105, 112, 97, 114, 116, 47, 109, 105, 120, 101, 100, 59, 32, 98, 111, 117, 110, 100, 97, 114, 121, 61, 122, 113, 122, 113, 122, 113, 13, 10, 13, 10, 45, 45, 122, 113, 122, 113, 122, 113, 13, 10, 13, 10, 116, 101, 120, 116, 13, 10, 45, 45, 122, 113, 122, 113, 122, 113, 13, 10, 67, 111, 110, 116, 101, 110, 116, 45, 84, 121, 112, 101, 58, 32, 77, 101, 115, 115, 97, 103, 101, 47, 82, 70, 67, 56, 50, 50, 13, 10, 13, 10]⟩ : BA) ++ a0) ++ (⟨#[13, 10, 45, 45, 122, 113, 122, 113, 122, 113, 45, 45]⟩ : BA)) (⟨#[50]⟩ : BA) 0))) else (j16 a0 a2 a3 ((⟨#[67, 111, 110, 116, 101, 110, 116, 45, 84, 121, 112, 101, 58, 32, 109, 101, 115, 115, 97, 103, 101, 47, 114, 102, 99, 56, 50, 50, 13, 10, 13, 10]⟩ : BA) ++ a0) (⟨#[49]⟩ : BA))))))))
def L26 {R : Type} (c1 : w6_known.F R) (c2 : lm_Parse.F R) (c3 : lm_Section.F R) (c4 : w6_count.F R) (c5 : w6_deep.F R) (c6 : w6_spot.F R) (c7 : w6_places.F R) (c8 : lm_Section1.F R) (κ0 : Bool -> Option R) : Nat -> J26 R
 | 0 => fun _ _ _ _ _ _ _ _ _ _ _ _ _ _ _ _ _ _ _ _ _ _ _ _ _ _ _ _ _ _ _ _ _ _ _ _ _ _ _ _ _ _ _ _ _ _ _ _ _ _ => none
 | f + 1 => t26 c3 c8 (L26 c1 c2 c3 c4 c5 c6 c7 c8 κ0 f) κ0
def L16 {R : Type} (c1 : w6_known.F R) (c2 : lm_Parse.F R) (c3 : lm_Section.F R) (c4 : w6_count.F R) (c5 : w6_deep.F R) (c6 : w6_spot.F R) (c7 : w6_places.F R) (c8 : lm_Section1.F R) (κ0 : Bool -> Option R) : Nat -> J16 R
 | 0 => fun _ _ _ _ _ => none
 | f + 1 => t16 c2 c3 c4 c5 c6 c7 (L26 c1 c2 c3 c4 c5 c6 c7 c8 κ0 f) κ0
def L12 {R : Type} (c1 : w6_known.F R) (c2 : lm_Parse.F R) (c3 : lm_Section.F R) (c4 : w6_count.F R) (c5 : w6_deep.F R) (c6 : w6_spot.F R) (c7 : w6_places.F R) (c8 : lm_Section1.F R) (κ0 : Bool -> Option R) : Nat -> J12 R
 | 0 => fun _ _ _ _ _ _ => none
 | f + 1 => t12 (L12 c1 c2 c3 c4 c5 c6 c7 c8 κ0 f) (L16 c1 c2 c3 c4 c5 c6 c7 c8 κ0 f) κ0
end w6_LimbNests
def w6_LimbNests {R : Type} : w6_LimbNests.F R := fun a0 a1 a2 a3 κ0 => w6_LimbNests.e w6_known lm_Parse lm_Section w6_count w6_deep w6_spot w6_places lm_Section1 a0 a1 a2 a3 (w6_LimbNests.L12 w6_known lm_Parse lm_Section w6_count w6_deep w6_spot w6_places lm_Section1 κ0 fuelK) (w6_LimbNests.L16 w6_known lm_Parse lm_Section w6_count w6_deep w6_spot w6_places lm_Section1 κ0 fuelK) (w6_LimbNests.L26 w6_known lm_Parse lm_Section w6_count w6_deep w6_spot w6_places lm_Section1 κ0 fuelK) κ0
end Go.Proofs.Ab
