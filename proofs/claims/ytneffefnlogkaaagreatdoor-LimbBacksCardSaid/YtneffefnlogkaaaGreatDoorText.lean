/- What each function computes, as a plain Lean function, printed by a program of ours (definitions alone). -/
import Derived.Test.YtneffefnlogkaaaGreatDoorAbC
set_option linter.unusedVariables false
set_option linter.unusedSimpArgs false
set_option maxRecDepth 4000
namespace Go.Proofs.Ab
open Go
abbrev BA := ByteArray
abbrev LA := List AV
abbrev bG.F (R : Type) : Type := BA -> BA -> (Bool -> Option R) -> Option R
namespace bG
def e {R : Type} (a0 : BA) (a1 : BA) (κ0 : Bool -> Option R) : Option R :=
 (bif (decide ((a0.size : Int) >= (a1.size : Int))) then (bB ((decide ((0 : Int) <= (a1.size : Int))) && (decide ((a1.size : Int) <= (a0.size : Int)))) (κ0 (decide ((a0.extract ((0 : Int)).toNat ((a1.size : Int)).toNat) = a1)))) else (κ0 false))
end bG
def bG {R : Type} : bG.F R := fun a0 a1 κ0 => bG.e a0 a1 κ0
abbrev aV.F (R : Type) : Type := BA -> BA -> (Bool -> Option R) -> Option R
namespace aV
def e {R : Type} (c1 : bG.F R) (a0 : BA) (a1 : BA) (κ0 : Bool -> Option R) : Option R :=
 (c1 a0 a1 (fun r1 => (κ0 r1)))
end aV
def aV {R : Type} : aV.F R := fun a0 a1 κ0 => aV.e bG a0 a1 κ0
abbrev eL.F (R : Type) : Type := BA -> BA -> (Int -> Option R) -> Option R
def eL {R : Type} (a0 a1 : BA) (κ0 : Int -> Option R) : Option R := bB (decide (a0.size < 4294967281)) (κ0 (Lib.index a0.data.toList a1.data.toList))
abbrev aP.F (R : Type) : Type := BA -> BA -> (Int -> Option R) -> Option R
namespace aP
def e {R : Type} (c1 : eL.F R) (a0 : BA) (a1 : BA) (κ0 : Int -> Option R) : Option R :=
 (c1 a0 a1 (fun r3 => (κ0 r3)))
end aP
def aP {R : Type} : aP.F R := fun a0 a1 κ0 => aP.e eL a0 a1 κ0
abbrev dx.F (R : Type) : Type := BA -> (BA -> BA -> Option R) -> Option R
namespace dx
def e {R : Type} (c1 : aV.F R) (c2 : aP.F R) (a0 : BA) (κ0 : BA -> BA -> Option R) : Option R :=
 (c1 a0 (⟨#[13, 10]⟩ : BA) (fun r2 => (bif r2 then (bB (decide ((2 : Int) <= (a0.size : Int))) (bB ((decide ((2 : Int) <= (a0.size : Int))) && (decide ((a0.size : Int) <= (a0.size : Int)))) (κ0 (a0.extract ((0 : Int)).toNat ((2 : Int)).toNat) (a0.extract ((2 : Int)).toNat ((a0.size : Int)).toNat)))) else (c2 a0 (⟨#[13, 10, 13, 10]⟩ : BA) (fun r4 => (bif (decide (r4 >= (0 : Int))) then (bB ((decide ((0 : Int) <= (IntKind.wrap .i64 (r4 + 4)))) && (decide ((IntKind.wrap .i64 (r4 + 4)) <= (a0.size : Int)))) (bB ((decide ((0 : Int) <= (IntKind.wrap .i64 (r4 + 4)))) && ((decide ((IntKind.wrap .i64 (r4 + 4)) <= (a0.size : Int))) && (decide ((a0.size : Int) <= (a0.size : Int))))) (κ0 (a0.extract ((0 : Int)).toNat ((IntKind.wrap .i64 (r4 + 4))).toNat) (a0.extract ((IntKind.wrap .i64 (r4 + 4))).toNat ((a0.size : Int)).toNat)))) else (κ0 a0 (⟨#[]⟩ : BA))))))))
end dx
def dx {R : Type} : dx.F R := fun a0 κ0 => dx.e aV aP a0 κ0
abbrev aS.F (R : Type) : Type := Int -> (Bool -> Option R) -> Option R
namespace aS
def e {R : Type} (a0 : Int) (κ0 : Bool -> Option R) : Option R :=
 (bif (a0 == 32) then (κ0 true) else (κ0 (a0 == 9)))
end aS
def aS {R : Type} : aS.F R := fun a0 κ0 => aS.e a0 κ0
abbrev bE.F (R : Type) : Type := BA -> (BA -> Bool -> Option R) -> Option R
namespace bE
abbrev J5 (R : Type) : Type := BA -> Int -> BA -> Option R
def t2 {R : Type} (j2 : BA -> Int -> Option R) (j5 : J5 R) : BA -> Int -> Option R :=
 fun x0 x1 => (bif (decide (x1 < (x0.size : Int))) then (bB ((decide ((0 : Int) <= x1)) && (decide (x1 < (x0.size : Int)))) (bif (decide ((dJ x0 x1) > (32 : Int))) then (bB ((decide ((0 : Int) <= x1)) && (decide (x1 < (x0.size : Int)))) (bif (decide ((dJ x0 x1) < (127 : Int))) then (bB ((decide ((0 : Int) <= x1)) && (decide (x1 < (x0.size : Int)))) (bif ((dJ x0 x1) != 58) then (j2 x0 (IntKind.wrap .i64 (x1 + 1))) else (bB ((decide ((0 : Int) <= x1)) && (decide (x1 <= (x0.size : Int)))) (j5 x0 x1 (x0.extract ((0 : Int)).toNat (x1).toNat))))) else (bB ((decide ((0 : Int) <= x1)) && (decide (x1 <= (x0.size : Int)))) (j5 x0 x1 (x0.extract ((0 : Int)).toNat (x1).toNat))))) else (bB ((decide ((0 : Int) <= x1)) && (decide (x1 <= (x0.size : Int)))) (j5 x0 x1 (x0.extract ((0 : Int)).toNat (x1).toNat))))) else (bB ((decide ((0 : Int) <= x1)) && (decide (x1 <= (x0.size : Int)))) (j5 x0 x1 (x0.extract ((0 : Int)).toNat (x1).toNat))))
def t5 {R : Type} (c1 : aS.F R) (j5 : J5 R) (κ0 : BA -> Bool -> Option R) : J5 R :=
 fun x0 x1 x2 => (bif (decide (x1 < (x0.size : Int))) then (bB ((decide ((0 : Int) <= x1)) && (decide (x1 < (x0.size : Int)))) (c1 (dJ x0 x1) (fun r10 => (bif r10 then (j5 x0 (IntKind.wrap .i64 (x1 + 1)) x2) else (bif (!decide (x2 = (⟨#[]⟩ : BA))) then (bif (decide (x1 < (x0.size : Int))) then (bB ((decide ((0 : Int) <= x1)) && (decide (x1 < (x0.size : Int)))) (κ0 x2 ((dJ x0 x1) == 58))) else (κ0 x2 false)) else (κ0 x2 false)))))) else (bif (!decide (x2 = (⟨#[]⟩ : BA))) then (bif (decide (x1 < (x0.size : Int))) then (bB ((decide ((0 : Int) <= x1)) && (decide (x1 < (x0.size : Int)))) (κ0 x2 ((dJ x0 x1) == 58))) else (κ0 x2 false)) else (κ0 x2 false)))
def e {R : Type} (c1 : aS.F R) (a0 : BA) (j2 : BA -> Int -> Option R) (j5 : J5 R) (κ0 : BA -> Bool -> Option R) : Option R :=
 (j2 a0 0)
def L5 {R : Type} (c1 : aS.F R) (κ0 : BA -> Bool -> Option R) : Nat -> J5 R
 | 0 => fun _ _ _ => none
 | f + 1 => t5 c1 (L5 c1 κ0 f) κ0
def L2 {R : Type} (c1 : aS.F R) (κ0 : BA -> Bool -> Option R) : Nat -> BA -> Int -> Option R
 | 0 => fun _ _ => none
 | f + 1 => t2 (L2 c1 κ0 f) (L5 c1 κ0 f)
end bE
def bE {R : Type} : bE.F R := fun a0 κ0 => bE.e aS a0 (bE.L2 aS κ0 ag) (bE.L5 aS κ0 ag) κ0
abbrev bR.F (R : Type) : Type := BA -> (LA -> Option R) -> Option R
namespace bR
abbrev J3 (R : Type) : Type := BA -> Bool -> BA -> LA -> Option R
def t3 {R : Type} (c1 : aV.F R) (c2 : aP.F R) (c3 : aS.F R) (c4 : bE.F R) (j3 : J3 R) (κ0 : LA -> Option R) : J3 R :=
 fun x0 x1 x2 x3 => (bif (!decide (x0 = (⟨#[]⟩ : BA))) then (c1 x0 (⟨#[13, 10]⟩ : BA) (fun r13 => (bif (!r13) then (c2 x0 (⟨#[13, 10]⟩ : BA) (fun r14 => (bif (decide (r14 >= (0 : Int))) then (bB ((decide ((0 : Int) <= (IntKind.wrap .i64 (r14 + 2)))) && (decide ((IntKind.wrap .i64 (r14 + 2)) <= (x0.size : Int)))) (bB (decide ((0 : Int) < (x0.size : Int))) (c3 (dJ x0 0) (fun r15 => (bif (!r15) then (c4 (x0.extract ((0 : Int)).toNat ((IntKind.wrap .i64 (r14 + 2))).toNat) (fun r16 r17 => (bB (decide ((x3.length + 1) * 40 <= 140737488355328)) (bB ((decide ((0 : Int) <= (IntKind.wrap .i64 (r14 + 2)))) && ((decide ((IntKind.wrap .i64 (r14 + 2)) <= (x0.size : Int))) && (decide ((x0.size : Int) <= (x0.size : Int))))) (j3 (x0.extract ((IntKind.wrap .i64 (r14 + 2))).toNat ((x0.size : Int)).toNat) r17 r16 (x3 ++ [AV.agg [AV.str (x0.extract ((0 : Int)).toNat ((IntKind.wrap .i64 (r14 + 2))).toNat), AV.str r16, AV.bool r17, AV.bool r17]])))))) else (bB (decide ((x3.length + 1) * 40 <= 140737488355328)) (bB ((decide ((0 : Int) <= (IntKind.wrap .i64 (r14 + 2)))) && ((decide ((IntKind.wrap .i64 (r14 + 2)) <= (x0.size : Int))) && (decide ((x0.size : Int) <= (x0.size : Int))))) (j3 (x0.extract ((IntKind.wrap .i64 (r14 + 2))).toNat ((x0.size : Int)).toNat) x1 x2 (x3 ++ [AV.agg [AV.str (x0.extract ((0 : Int)).toNat ((IntKind.wrap .i64 (r14 + 2))).toNat), AV.str x2, AV.bool false, AV.bool x1]]))))))))) else (bB ((decide ((0 : Int) <= (x0.size : Int))) && (decide ((x0.size : Int) <= (x0.size : Int)))) (bB (decide ((0 : Int) < (x0.size : Int))) (c3 (dJ x0 0) (fun r18 => (bif (!r18) then (c4 (x0.extract ((0 : Int)).toNat ((x0.size : Int)).toNat) (fun r19 r20 => (bB (decide ((x3.length + 1) * 40 <= 140737488355328)) (bB ((decide ((0 : Int) <= (x0.size : Int))) && ((decide ((x0.size : Int) <= (x0.size : Int))) && (decide ((x0.size : Int) <= (x0.size : Int))))) (j3 (x0.extract ((x0.size : Int)).toNat ((x0.size : Int)).toNat) r20 r19 (x3 ++ [AV.agg [AV.str (x0.extract ((0 : Int)).toNat ((x0.size : Int)).toNat), AV.str r19, AV.bool r20, AV.bool r20]])))))) else (bB (decide ((x3.length + 1) * 40 <= 140737488355328)) (bB ((decide ((0 : Int) <= (x0.size : Int))) && ((decide ((x0.size : Int) <= (x0.size : Int))) && (decide ((x0.size : Int) <= (x0.size : Int))))) (j3 (x0.extract ((x0.size : Int)).toNat ((x0.size : Int)).toNat) x1 x2 (x3 ++ [AV.agg [AV.str (x0.extract ((0 : Int)).toNat ((x0.size : Int)).toNat), AV.str x2, AV.bool false, AV.bool x1]])))))))))))) else (κ0 x3)))) else (κ0 x3))
def e {R : Type} (c1 : aV.F R) (c2 : aP.F R) (c3 : aS.F R) (c4 : bE.F R) (a0 : BA) (j3 : J3 R) (κ0 : LA -> Option R) : Option R :=
 (j3 a0 false (⟨#[]⟩ : BA) ([] : LA))
def L3 {R : Type} (c1 : aV.F R) (c2 : aP.F R) (c3 : aS.F R) (c4 : bE.F R) (κ0 : LA -> Option R) : Nat -> J3 R
 | 0 => fun _ _ _ _ => none
 | f + 1 => t3 c1 c2 c3 c4 (L3 c1 c2 c3 c4 κ0 f) κ0
end bR
def bR {R : Type} : bR.F R := fun a0 κ0 => bR.e aV aP aS bE a0 (bR.L3 aV aP aS bE κ0 ag) κ0
abbrev cv.F (R : Type) : Type := BA -> BA -> (Bool -> Option R) -> Option R
namespace cv
def e {R : Type} (a0 : BA) (a1 : BA) (κ0 : Bool -> Option R) : Option R :=
 (bif (decide ((a0.size : Int) >= (a1.size : Int))) then (bB ((decide ((0 : Int) <= (IntKind.wrap .i64 ((a0.size : Int) - (a1.size : Int))))) && ((decide ((IntKind.wrap .i64 ((a0.size : Int) - (a1.size : Int))) <= (a0.size : Int))) && (decide ((a0.size : Int) <= (a0.size : Int))))) (κ0 (decide ((a0.extract ((IntKind.wrap .i64 ((a0.size : Int) - (a1.size : Int)))).toNat ((a0.size : Int)).toNat) = a1)))) else (κ0 false))
end cv
def cv {R : Type} : cv.F R := fun a0 a1 κ0 => cv.e a0 a1 κ0
abbrev cb.F (R : Type) : Type := BA -> BA -> (BA -> Option R) -> Option R
namespace cb
def e {R : Type} (c1 : cv.F R) (a0 : BA) (a1 : BA) (κ0 : BA -> Option R) : Option R :=
 (c1 a0 a1 (fun r22 => (bif r22 then (bB ((decide ((0 : Int) <= (IntKind.wrap .i64 ((a0.size : Int) - (a1.size : Int))))) && (decide ((IntKind.wrap .i64 ((a0.size : Int) - (a1.size : Int))) <= (a0.size : Int)))) (κ0 (a0.extract ((0 : Int)).toNat ((IntKind.wrap .i64 ((a0.size : Int) - (a1.size : Int)))).toNat))) else (κ0 a0))))
end cb
def cb {R : Type} : cb.F R := fun a0 a1 κ0 => cb.e cv a0 a1 κ0
abbrev aJ.F (R : Type) : Type := BA -> BA -> (BA -> Option R) -> Option R
namespace aJ
def e {R : Type} (c1 : cb.F R) (a0 : BA) (a1 : BA) (κ0 : BA -> Option R) : Option R :=
 (c1 a0 a1 (fun r23 => (κ0 r23)))
end aJ
def aJ {R : Type} : aJ.F R := fun a0 a1 κ0 => aJ.e cb a0 a1 κ0
abbrev cK.F (R : Type) : Type := BA -> Int -> (Int -> Option R) -> Option R
def cK {R : Type} (a0 : BA) (a1 : Int) (κ0 : Int -> Option R) : Option R := κ0 (Lib.indexByte a0.data.toList a1.toNat.toUInt8)
abbrev cJ.F (R : Type) : Type := BA -> Int -> (Int -> Option R) -> Option R
namespace cJ
def e {R : Type} (c1 : cK.F R) (a0 : BA) (a1 : Int) (κ0 : Int -> Option R) : Option R :=
 (c1 a0 a1 (fun r25 => (κ0 r25)))
end cJ
def cJ {R : Type} : cJ.F R := fun a0 a1 κ0 => cJ.e cK a0 a1 κ0
abbrev ay.F (R : Type) : Type := BA -> Int -> (Int -> Option R) -> Option R
namespace ay
def e {R : Type} (c1 : cJ.F R) (a0 : BA) (a1 : Int) (κ0 : Int -> Option R) : Option R :=
 (c1 a0 a1 (fun r26 => (κ0 r26)))
end ay
def ay {R : Type} : ay.F R := fun a0 a1 κ0 => ay.e cJ a0 a1 κ0
abbrev bM.F (R : Type) : Type := BA -> Int -> (BA -> Option R) -> Option R
namespace bM
def t1 {R : Type} (j1 : BA -> Int -> Option R) (κ0 : BA -> Option R) : BA -> Int -> Option R :=
 fun x0 x1 => (bif (decide ((x0.size : Int) > (0 : Int))) then (bB ((decide ((0 : Int) <= (IntKind.wrap .i64 ((x0.size : Int) - 1)))) && (decide ((IntKind.wrap .i64 ((x0.size : Int) - 1)) < (x0.size : Int)))) (bif ((dJ x0 (IntKind.wrap .i64 ((x0.size : Int) - 1))) == x1) then (bB ((decide ((0 : Int) <= (IntKind.wrap .i64 ((x0.size : Int) - 1)))) && (decide ((IntKind.wrap .i64 ((x0.size : Int) - 1)) <= (x0.size : Int)))) (j1 (x0.extract ((0 : Int)).toNat ((IntKind.wrap .i64 ((x0.size : Int) - 1))).toNat) x1)) else (κ0 x0))) else (κ0 x0))
def e {R : Type} (a0 : BA) (a1 : Int) (j1 : BA -> Int -> Option R) (κ0 : BA -> Option R) : Option R :=
 (j1 a0 a1)
def L1 {R : Type} (κ0 : BA -> Option R) : Nat -> BA -> Int -> Option R
 | 0 => fun _ _ => none
 | f + 1 => t1 (L1 κ0 f) κ0
end bM
def bM {R : Type} : bM.F R := fun a0 a1 κ0 => bM.e a0 a1 (bM.L1 κ0 ag) κ0
abbrev bP.F (R : Type) : Type := BA -> Int -> (BA -> Option R) -> Option R
namespace bP
def t1 {R : Type} (j1 : BA -> Int -> Option R) (κ0 : BA -> Option R) : BA -> Int -> Option R :=
 fun x0 x1 => (bif (decide ((x0.size : Int) > (0 : Int))) then (bB (decide ((0 : Int) < (x0.size : Int))) (bif ((dJ x0 0) == x1) then (bB ((decide ((1 : Int) <= (x0.size : Int))) && (decide ((x0.size : Int) <= (x0.size : Int)))) (j1 (x0.extract ((1 : Int)).toNat ((x0.size : Int)).toNat) x1)) else (κ0 x0))) else (κ0 x0))
def e {R : Type} (a0 : BA) (a1 : Int) (j1 : BA -> Int -> Option R) (κ0 : BA -> Option R) : Option R :=
 (j1 a0 a1)
def L1 {R : Type} (κ0 : BA -> Option R) : Nat -> BA -> Int -> Option R
 | 0 => fun _ _ => none
 | f + 1 => t1 (L1 κ0 f) κ0
end bP
def bP {R : Type} : bP.F R := fun a0 a1 κ0 => bP.e a0 a1 (bP.L1 κ0 ag) κ0
abbrev bN.F (R : Type) : Type := BA -> (LA -> Bool -> Option R) -> Option R
namespace bN
abbrev J2 (R : Type) : Type := BA -> Int -> LA -> Option R
def t2 {R : Type} (j2 : J2 R) (κ0 : LA -> Bool -> Option R) : J2 R :=
 fun x0 x1 x2 => (bif (decide (x1 < (x0.size : Int))) then (bB ((decide ((0 : Int) <= x1)) && (decide (x1 < (x0.size : Int)))) (bif (decide ((dJ x0 x1) >= (128 : Int))) then (κ0 x2 false) else (bB ((decide ((0 : Int) <= (dJ x0 x1))) && (decide ((dJ x0 x1) < (256 : Int)))) (j2 x0 (IntKind.wrap .i64 (x1 + 1)) (dR x2 (dJ x0 x1) (AV.bool true)))))) else (κ0 x2 true))
def e {R : Type} (a0 : BA) (j2 : J2 R) (κ0 : LA -> Bool -> Option R) : Option R :=
 (j2 a0 0 (List.replicate 256 (AV.bool false)))
def L2 {R : Type} (κ0 : LA -> Bool -> Option R) : Nat -> J2 R
 | 0 => fun _ _ _ => none
 | f + 1 => t2 (L2 κ0 f) κ0
end bN
def bN {R : Type} : bN.F R := fun a0 κ0 => bN.e a0 (bN.L2 κ0 ag) κ0
abbrev al.F (R : Type) : Type := LA -> Int -> (Bool -> Option R) -> Option R
namespace al
def e {R : Type} (a0 : LA) (a1 : Int) (κ0 : Bool -> Option R) : Option R :=
 (bB ((decide ((0 : Int) <= a1)) && (decide (a1 < (256 : Int)))) (κ0 (bK a0 a1).b))
end al
def al {R : Type} : al.F R := fun a0 a1 κ0 => al.e a0 a1 κ0
abbrev ba.F (R : Type) : Type := BA -> LA -> (BA -> Option R) -> Option R
namespace ba
def t1 {R : Type} (c1 : al.F R) (j1 : BA -> LA -> Option R) (κ0 : BA -> Option R) : BA -> LA -> Option R :=
 fun x0 x1 => (bif (decide ((x0.size : Int) > (0 : Int))) then (bB ((decide ((0 : Int) <= (IntKind.wrap .i64 ((x0.size : Int) - 1)))) && (decide ((IntKind.wrap .i64 ((x0.size : Int) - 1)) < (x0.size : Int)))) (c1 x1 (dJ x0 (IntKind.wrap .i64 ((x0.size : Int) - 1))) (fun r37 => (bif (!r37) then (κ0 x0) else (bB ((decide ((0 : Int) <= (IntKind.wrap .i64 ((x0.size : Int) - 1)))) && (decide ((IntKind.wrap .i64 ((x0.size : Int) - 1)) <= (x0.size : Int)))) (j1 (x0.extract ((0 : Int)).toNat ((IntKind.wrap .i64 ((x0.size : Int) - 1))).toNat) x1)))))) else (κ0 x0))
def e {R : Type} (c1 : al.F R) (a0 : BA) (a1 : LA) (j1 : BA -> LA -> Option R) (κ0 : BA -> Option R) : Option R :=
 (j1 a0 a1)
def L1 {R : Type} (c1 : al.F R) (κ0 : BA -> Option R) : Nat -> BA -> LA -> Option R
 | 0 => fun _ _ => none
 | f + 1 => t1 c1 (L1 c1 κ0 f) κ0
end ba
def ba {R : Type} : ba.F R := fun a0 a1 κ0 => ba.e al a0 a1 (ba.L1 al κ0 ag) κ0
abbrev bg.F (R : Type) : Type := BA -> LA -> (BA -> Option R) -> Option R
namespace bg
def t1 {R : Type} (c1 : al.F R) (j1 : BA -> LA -> Option R) (κ0 : BA -> Option R) : BA -> LA -> Option R :=
 fun x0 x1 => (bif (decide ((x0.size : Int) > (0 : Int))) then (bB (decide ((0 : Int) < (x0.size : Int))) (c1 x1 (dJ x0 0) (fun r39 => (bif (!r39) then (κ0 x0) else (bB ((decide ((1 : Int) <= (x0.size : Int))) && (decide ((x0.size : Int) <= (x0.size : Int)))) (j1 (x0.extract ((1 : Int)).toNat ((x0.size : Int)).toNat) x1)))))) else (κ0 x0))
def e {R : Type} (c1 : al.F R) (a0 : BA) (a1 : LA) (j1 : BA -> LA -> Option R) (κ0 : BA -> Option R) : Option R :=
 (j1 a0 a1)
def L1 {R : Type} (c1 : al.F R) (κ0 : BA -> Option R) : Nat -> BA -> LA -> Option R
 | 0 => fun _ _ => none
 | f + 1 => t1 c1 (L1 c1 κ0 f) κ0
end bg
def bg {R : Type} : bg.F R := fun a0 a1 κ0 => bg.e al a0 a1 (bg.L1 al κ0 ag) κ0
abbrev bA.F (R : Type) : Type := BA -> BA -> (BA -> Option R) -> Option R
namespace bA
def e {R : Type} (c1 : bM.F R) (c2 : bP.F R) (c3 : bN.F R) (c4 : ba.F R) (c5 : bg.F R) (a0 : BA) (a1 : BA) (κ0 : BA -> Option R) : Option R :=
 (bif (decide (a0 = (⟨#[]⟩ : BA))) then (κ0 a0) else (bif (decide (a1 = (⟨#[]⟩ : BA))) then (κ0 a0) else (bif ((a1.size : Int) == 1) then (bB (decide ((0 : Int) < (a1.size : Int))) (bif (decide ((dJ a1 0) < (128 : Int))) then (bB (decide ((0 : Int) < (a1.size : Int))) (c1 a0 (dJ a1 0) (fun r33 => (bB (decide ((0 : Int) < (a1.size : Int))) (c2 r33 (dJ a1 0) (fun r34 => (κ0 r34))))))) else (c3 a1 (fun r35 r36 => (bif r36 then (c4 a0 r35 (fun r38 => (c5 r38 r35 (fun r40 => (κ0 r40))))) else none))))) else (c3 a1 (fun r42 r43 => (bif r43 then (c4 a0 r42 (fun r44 => (c5 r44 r42 (fun r45 => (κ0 r45))))) else none))))))
end bA
def bA {R : Type} : bA.F R := fun a0 a1 κ0 => bA.e bM bP bN ba bg a0 a1 κ0
abbrev aU.F (R : Type) : Type := BA -> (LA -> Option R) -> Option R
namespace aU
abbrev J4 (R : Type) : Type := Int -> Int -> LA -> LA -> LA -> Option R
abbrev J8 (R : Type) : Type := Int -> Int -> LA -> LA -> BA -> BA -> Bool -> Bool -> LA -> Option R
abbrev C8 (R : Type) : Type := BA -> Int -> Int -> LA -> LA -> BA -> BA -> Bool -> Bool -> LA -> Option R
abbrev qR (R : Type) : Type := Int -> Int -> LA -> LA -> LA -> Option R
abbrev vQ (R : Type) : Type := Int -> Int -> LA -> LA -> Option R
def t4 {R : Type} (j8 : J8 R) (j15 : qR R) (j17 : vQ R) : J4 R :=
 fun x0 x1 x2 x3 x4 => (bif (decide (x1 < x0)) then (bB ((decide ((0 : Int) <= x1)) && (decide (x1 < (x4.length : Int)))) (bif (!((bK x4 x1).fld 3).b) then (bif ((bK x4 x1).fld 2).b then (j17 (x2.length : Int) 0 x2 x3) else (j15 x0 x1 x2 x3 x4)) else (bif ((bK x4 x1).fld 2).b then (bif ((x2.length : Int) == 64) then (bif ((bK x4 x1).fld 2).b then (j17 (x2.length : Int) 0 x2 x3) else (j15 x0 x1 x2 x3 x4)) else (j8 x0 x1 x2 x3 ((bK x4 x1).fld 0).s ((bK x4 x1).fld 1).s ((bK x4 x1).fld 2).b ((bK x4 x1).fld 3).b x4)) else (j8 x0 x1 x2 x3 ((bK x4 x1).fld 0).s ((bK x4 x1).fld 1).s ((bK x4 x1).fld 2).b ((bK x4 x1).fld 3).b x4)))) else (j17 (x2.length : Int) 0 x2 x3))
def t8 {R : Type} (c3 : aJ.F R) (c4 : ay.F R) (j13 : C8 R) : J8 R :=
 fun x0 x1 x2 x3 x4 x5 x6 x7 x8 => (c3 x4 (⟨#[13, 10]⟩ : BA) (fun r90 => (bif x6 then (bB (decide ((x2.length + 1) * 48 <= 140737488355328)) (bB (decide ((x3.length + 1) * 16 <= 140737488355328)) (c4 r90 58 (fun r91 => (bB ((decide ((0 : Int) <= (IntKind.wrap .i64 (r91 + 1)))) && ((decide ((IntKind.wrap .i64 (r91 + 1)) <= (r90.size : Int))) && (decide ((r90.size : Int) <= (r90.size : Int))))) (j13 (r90.extract ((IntKind.wrap .i64 (r91 + 1))).toNat ((r90.size : Int)).toNat) x0 x1 (x2 ++ [AV.agg [AV.str x5, AV.str (⟨#[]⟩ : BA), AV.str (⟨#[]⟩ : BA)]]) (x3 ++ [AV.str (⟨#[]⟩ : BA)]) x4 x5 x6 x7 x8)))))) else (j13 r90 x0 x1 x2 x3 x4 x5 x6 x7 x8))))
def t13 {R : Type} (j15 : qR R) : C8 R :=
 fun x0 x1 x2 x3 x4 x5 x6 x7 x8 x9 => (bB ((decide ((0 : Int) <= (IntKind.wrap .i64 ((x3.length : Int) - 1)))) && (decide ((IntKind.wrap .i64 ((x3.length : Int) - 1)) < (x3.length : Int)))) (bB (decide (((bK x3 (IntKind.wrap .i64 ((x3.length : Int) - 1))).fld 2).s.size + x5.size <= 9223372036854775807)) (bB ((decide ((0 : Int) <= (IntKind.wrap .i64 ((x3.length : Int) - 1)))) && (decide ((IntKind.wrap .i64 ((x3.length : Int) - 1)) < (x3.length : Int)))) (bB ((decide ((0 : Int) <= (IntKind.wrap .i64 (((dR x3 (IntKind.wrap .i64 ((x3.length : Int) - 1)) (AV.agg [AV.str ((bK x3 (IntKind.wrap .i64 ((x3.length : Int) - 1))).fld 0).s, AV.str ((bK x3 (IntKind.wrap .i64 ((x3.length : Int) - 1))).fld 1).s, AV.str (((bK x3 (IntKind.wrap .i64 ((x3.length : Int) - 1))).fld 2).s ++ x5)])).length : Int) - 1)))) && (decide ((IntKind.wrap .i64 (((dR x3 (IntKind.wrap .i64 ((x3.length : Int) - 1)) (AV.agg [AV.str ((bK x3 (IntKind.wrap .i64 ((x3.length : Int) - 1))).fld 0).s, AV.str ((bK x3 (IntKind.wrap .i64 ((x3.length : Int) - 1))).fld 1).s, AV.str (((bK x3 (IntKind.wrap .i64 ((x3.length : Int) - 1))).fld 2).s ++ x5)])).length : Int) - 1)) < (x4.length : Int)))) (bB (decide ((bK x4 (IntKind.wrap .i64 (((dR x3 (IntKind.wrap .i64 ((x3.length : Int) - 1)) (AV.agg [AV.str ((bK x3 (IntKind.wrap .i64 ((x3.length : Int) - 1))).fld 0).s, AV.str ((bK x3 (IntKind.wrap .i64 ((x3.length : Int) - 1))).fld 1).s, AV.str (((bK x3 (IntKind.wrap .i64 ((x3.length : Int) - 1))).fld 2).s ++ x5)])).length : Int) - 1))).s.size + x0.size <= 9223372036854775807)) (bB ((decide ((0 : Int) <= (IntKind.wrap .i64 (((dR x3 (IntKind.wrap .i64 ((x3.length : Int) - 1)) (AV.agg [AV.str ((bK x3 (IntKind.wrap .i64 ((x3.length : Int) - 1))).fld 0).s, AV.str ((bK x3 (IntKind.wrap .i64 ((x3.length : Int) - 1))).fld 1).s, AV.str (((bK x3 (IntKind.wrap .i64 ((x3.length : Int) - 1))).fld 2).s ++ x5)])).length : Int) - 1)))) && (decide ((IntKind.wrap .i64 (((dR x3 (IntKind.wrap .i64 ((x3.length : Int) - 1)) (AV.agg [AV.str ((bK x3 (IntKind.wrap .i64 ((x3.length : Int) - 1))).fld 0).s, AV.str ((bK x3 (IntKind.wrap .i64 ((x3.length : Int) - 1))).fld 1).s, AV.str (((bK x3 (IntKind.wrap .i64 ((x3.length : Int) - 1))).fld 2).s ++ x5)])).length : Int) - 1)) < (x4.length : Int)))) (j15 x1 x2 (dR x3 (IntKind.wrap .i64 ((x3.length : Int) - 1)) (AV.agg [AV.str ((bK x3 (IntKind.wrap .i64 ((x3.length : Int) - 1))).fld 0).s, AV.str ((bK x3 (IntKind.wrap .i64 ((x3.length : Int) - 1))).fld 1).s, AV.str (((bK x3 (IntKind.wrap .i64 ((x3.length : Int) - 1))).fld 2).s ++ x5)])) (dR x4 (IntKind.wrap .i64 (((dR x3 (IntKind.wrap .i64 ((x3.length : Int) - 1)) (AV.agg [AV.str ((bK x3 (IntKind.wrap .i64 ((x3.length : Int) - 1))).fld 0).s, AV.str ((bK x3 (IntKind.wrap .i64 ((x3.length : Int) - 1))).fld 1).s, AV.str (((bK x3 (IntKind.wrap .i64 ((x3.length : Int) - 1))).fld 2).s ++ x5)])).length : Int) - 1)) (AV.str ((bK x4 (IntKind.wrap .i64 (((dR x3 (IntKind.wrap .i64 ((x3.length : Int) - 1)) (AV.agg [AV.str ((bK x3 (IntKind.wrap .i64 ((x3.length : Int) - 1))).fld 0).s, AV.str ((bK x3 (IntKind.wrap .i64 ((x3.length : Int) - 1))).fld 1).s, AV.str (((bK x3 (IntKind.wrap .i64 ((x3.length : Int) - 1))).fld 2).s ++ x5)])).length : Int) - 1))).s ++ x0))) x9)))))))
def t15 {R : Type} (j4 : J4 R) : qR R :=
 fun x0 x1 x2 x3 x4 => (j4 x0 (IntKind.wrap .i64 (x1 + 1)) x2 x3 x4)
def t17 {R : Type} (c2 : bA.F R) (j17 : vQ R) (κ0 : LA -> Option R) : vQ R :=
 fun x0 x1 x2 x3 => (bif (decide (x1 < x0)) then (bB ((decide ((0 : Int) <= x1)) && (decide (x1 < (x3.length : Int)))) (c2 (bK x3 x1).s (⟨#[32, 9]⟩ : BA) (fun r89 => (bB ((decide ((0 : Int) <= x1)) && (decide (x1 < (x2.length : Int)))) (j17 x0 (IntKind.wrap .i64 (x1 + 1)) (dR x2 x1 (AV.agg [AV.str ((bK x2 x1).fld 0).s, AV.str r89, AV.str ((bK x2 x1).fld 2).s])) x3))))) else (κ0 x2))
def e {R : Type} (c1 : bR.F R) (c2 : bA.F R) (c3 : aJ.F R) (c4 : ay.F R) (a0 : BA) (j4 : J4 R) (j8 : J8 R) (j13 : C8 R) (j15 : qR R) (j17 : vQ R) (κ0 : LA -> Option R) : Option R :=
 (c1 a0 (fun r88 => (j4 (r88.length : Int) 0 ([] : LA) ([] : LA) r88)))
def w6 {R : Type} (c1 : bR.F R) (c2 : bA.F R) (c3 : aJ.F R) (c4 : ay.F R) (κ0 : LA -> Option R) : Nat -> vQ R
 | 0 => fun _ _ _ _ => none
 | f + 1 => t17 c2 (w6 c1 c2 c3 c4 κ0 f) κ0
def M4 {R : Type} (c1 : bR.F R) (c2 : bA.F R) (c3 : aJ.F R) (c4 : ay.F R) (κ0 : LA -> Option R) : Nat -> (J4 R) × (J8 R) × (C8 R) × (qR R)
 | 0 => (fun _ _ _ _ _ => none, fun _ _ _ _ _ _ _ _ _ => none, fun _ _ _ _ _ _ _ _ _ _ => none, fun _ _ _ _ _ => none)
 | f + 1 => (t4 ((M4 c1 c2 c3 c4 κ0 f).2.1) ((M4 c1 c2 c3 c4 κ0 f).2.2.2) (w6 c1 c2 c3 c4 κ0 f),
  t8 c3 c4 ((M4 c1 c2 c3 c4 κ0 f).2.2.1),
  t13 ((M4 c1 c2 c3 c4 κ0 f).2.2.2),
  t15 ((M4 c1 c2 c3 c4 κ0 f).1))
def L4 {R : Type} (c1 : bR.F R) (c2 : bA.F R) (c3 : aJ.F R) (c4 : ay.F R) (κ0 : LA -> Option R) (f : Nat) : J4 R := (M4 c1 c2 c3 c4 κ0 f).1
def L8 {R : Type} (c1 : bR.F R) (c2 : bA.F R) (c3 : aJ.F R) (c4 : ay.F R) (κ0 : LA -> Option R) (f : Nat) : J8 R := (M4 c1 c2 c3 c4 κ0 f).2.1
def Cc {R : Type} (c1 : bR.F R) (c2 : bA.F R) (c3 : aJ.F R) (c4 : ay.F R) (κ0 : LA -> Option R) (f : Nat) : C8 R := (M4 c1 c2 c3 c4 κ0 f).2.2.1
def mZ {R : Type} (c1 : bR.F R) (c2 : bA.F R) (c3 : aJ.F R) (c4 : ay.F R) (κ0 : LA -> Option R) (f : Nat) : qR R := (M4 c1 c2 c3 c4 κ0 f).2.2.2
end aU
def aU {R : Type} : aU.F R := fun a0 κ0 => aU.e bR bA aJ ay a0 (aU.L4 bR bA aJ ay κ0 ag) (aU.L8 bR bA aJ ay κ0 ag) (aU.Cc bR bA aJ ay κ0 ag) (aU.mZ bR bA aJ ay κ0 ag) (aU.w6 bR bA aJ ay κ0 ag) κ0
abbrev bw.F (R : Type) : Type := BA -> (BA -> Option R) -> Option R
namespace bw
abbrev J3 (R : Type) : Type := Int -> Int -> LA -> Option R
def t3 {R : Type} (j3 : J3 R) (κ0 : BA -> Option R) : J3 R :=
 fun x0 x1 x2 => (bif (decide (x1 < x0)) then (bB ((decide ((0 : Int) <= x1)) && (decide (x1 < (x2.length : Int)))) (bif (decide ((bK x2 x1).i >= (65 : Int))) then (bif (decide ((bK x2 x1).i <= (90 : Int))) then (bB ((decide ((0 : Int) <= x1)) && (decide (x1 < (x2.length : Int)))) (j3 x0 (IntKind.wrap .i64 (x1 + 1)) (dR x2 x1 (AV.int (IntKind.wrap .u8 ((IntKind.wrap .u8 ((bK x2 x1).i + 97)) - 65)))))) else (j3 x0 (IntKind.wrap .i64 (x1 + 1)) x2)) else (j3 x0 (IntKind.wrap .i64 (x1 + 1)) x2))) else (κ0 (fF x2)))
def e {R : Type} (a0 : BA) (j3 : J3 R) (κ0 : BA -> Option R) : Option R :=
 (bB (decide ((a0.size + 0) * 1 <= 140737488355328)) (j3 ((e7 a0).length : Int) 0 (e7 a0)))
def L3 {R : Type} (κ0 : BA -> Option R) : Nat -> J3 R
 | 0 => fun _ _ _ => none
 | f + 1 => t3 (L3 κ0 f) κ0
end bw
def bw {R : Type} : bw.F R := fun a0 κ0 => bw.e a0 (bw.L3 κ0 ag) κ0
abbrev dm.F (R : Type) : Type := BA -> BA -> (Bool -> Option R) -> Option R
namespace dm
def e {R : Type} (c1 : bw.F R) (a0 : BA) (a1 : BA) (κ0 : Bool -> Option R) : Option R :=
 (c1 a0 (fun r93 => (c1 a1 (fun r94 => (κ0 (decide (r93 = r94)))))))
end dm
def dm {R : Type} : dm.F R := fun a0 a1 κ0 => dm.e bw a0 a1 κ0
abbrev cG.F (R : Type) : Type := LA -> BA -> (Bool -> BA -> Option R) -> Option R
namespace cG
abbrev J2 (R : Type) : Type := BA -> LA -> Int -> Int -> Bool -> BA -> Option R
def t2 {R : Type} (c1 : dm.F R) (j2 : J2 R) (κ0 : Bool -> BA -> Option R) : J2 R :=
 fun x0 x1 x2 x3 x4 x5 => (bif (decide (x3 < x2)) then (bB ((decide ((0 : Int) <= x3)) && (decide (x3 < (x1.length : Int)))) (c1 ((bK x1 x3).fld 0).s x0 (fun r95 => (bif r95 then (κ0 true ((bK x1 x3).fld 1).s) else (j2 x0 x1 x2 (IntKind.wrap .i64 (x3 + 1)) x4 x5))))) else (κ0 false (⟨#[]⟩ : BA)))
def e {R : Type} (c1 : dm.F R) (a0 : LA) (a1 : BA) (j2 : J2 R) (κ0 : Bool -> BA -> Option R) : Option R :=
 (j2 a1 a0 (a0.length : Int) 0 false (⟨#[]⟩ : BA))
def L2 {R : Type} (c1 : dm.F R) (κ0 : Bool -> BA -> Option R) : Nat -> J2 R
 | 0 => fun _ _ _ _ _ _ => none
 | f + 1 => t2 c1 (L2 c1 κ0 f) κ0
end cG
def cG {R : Type} : cG.F R := fun a0 a1 κ0 => cG.e dm a0 a1 (cG.L2 dm κ0 ag) κ0
abbrev bn.Q0 (R : Type) : Type := Int -> BA -> Int -> Option R
abbrev bn.F (R : Type) : Type := BA -> Int -> bn.Q0 R -> Option R
namespace bn
def e {R : Type} (a0 : BA) (a1 : Int) (κ0 : Q0 R) : Option R :=
 (bif (decide (a1 < (a0.size : Int))) then (bB ((decide ((0 : Int) <= a1)) && (decide (a1 < (a0.size : Int)))) (κ0 (dJ a0 a1) a0 a1)) else (κ0 0 a0 a1))
end bn
def bn {R : Type} : bn.F R := fun a0 a1 κ0 => bn.e a0 a1 κ0
abbrev aH.F (R : Type) : Type := BA -> Int -> (BA -> Int -> Option R) -> Option R
namespace aH
abbrev J1 (R : Type) : Type := Int -> BA -> Int -> Option R
def t1 {R : Type} (j1 : J1 R) (κ0 : BA -> Int -> Option R) : J1 R :=
 fun x0 x1 x2 => (bif (decide (x2 < (x1.size : Int))) then (bB ((decide ((0 : Int) <= x2)) && (decide (x2 < (x1.size : Int)))) (bif ((dJ x1 x2) == 92) then (j1 x0 x1 (IntKind.wrap .i64 ((IntKind.wrap .i64 (x2 + 1)) + 1))) else (bif ((dJ x1 x2) == 40) then (j1 (IntKind.wrap .i64 (x0 + 1)) x1 (IntKind.wrap .i64 (x2 + 1))) else (bif ((dJ x1 x2) == 41) then (bif ((IntKind.wrap .i64 (x0 - 1)) == 0) then (κ0 x1 (IntKind.wrap .i64 (x2 + 1))) else (j1 (IntKind.wrap .i64 (x0 - 1)) x1 (IntKind.wrap .i64 (x2 + 1)))) else (j1 x0 x1 (IntKind.wrap .i64 (x2 + 1))))))) else (κ0 x1 (x1.size : Int)))
def e {R : Type} (a0 : BA) (a1 : Int) (j1 : J1 R) (κ0 : BA -> Int -> Option R) : Option R :=
 (j1 0 a0 a1)
def L1 {R : Type} (κ0 : BA -> Int -> Option R) : Nat -> J1 R
 | 0 => fun _ _ _ => none
 | f + 1 => t1 (L1 κ0 f) κ0
end aH
def aH {R : Type} : aH.F R := fun a0 a1 κ0 => aH.e a0 a1 (aH.L1 κ0 ag) κ0
abbrev af.F (R : Type) : Type := BA -> Int -> (BA -> Int -> Option R) -> Option R
namespace af
def t0 {R : Type} (c1 : bn.F R) (c2 : aH.F R) (j0 : BA -> Int -> Option R) (κ0 : BA -> Int -> Option R) : BA -> Int -> Option R :=
 fun x0 x1 => (c1 x0 x1 (fun r98 r99 r100 => (bif (r98 == 32) then (j0 r99 (IntKind.wrap .i64 (r100 + 1))) else (bif (r98 == 9) then (j0 r99 (IntKind.wrap .i64 (r100 + 1))) else (bif (r98 == 40) then (c2 r99 r100 (fun r101 r102 => (j0 r101 r102))) else (κ0 r99 r100))))))
def e {R : Type} (c1 : bn.F R) (c2 : aH.F R) (a0 : BA) (a1 : Int) (j0 : BA -> Int -> Option R) (κ0 : BA -> Int -> Option R) : Option R :=
 (j0 a0 a1)
def L0 {R : Type} (c1 : bn.F R) (c2 : aH.F R) (κ0 : BA -> Int -> Option R) : Nat -> BA -> Int -> Option R
 | 0 => fun _ _ => none
 | f + 1 => t0 c1 c2 (L0 c1 c2 κ0 f) κ0
end af
def af {R : Type} : af.F R := fun a0 a1 κ0 => af.e bn aH a0 a1 (af.L0 bn aH κ0 ag) κ0
abbrev bH.F (R : Type) : Type := Int -> (Bool -> Option R) -> Option R
namespace bH
def e {R : Type} (a0 : Int) (κ0 : Bool -> Option R) : Option R :=
 (bif (decide ((0 : Int) <= a0)) then (bif (decide (a0 < (55296 : Int))) then (κ0 true) else (bif (decide ((57343 : Int) < a0)) then (bif (decide (a0 <= (1114111 : Int))) then (κ0 true) else (κ0 false)) else (κ0 false))) else (bif (decide ((57343 : Int) < a0)) then (bif (decide (a0 <= (1114111 : Int))) then (κ0 true) else (κ0 false)) else (κ0 false)))
end bH
def bH {R : Type} : bH.F R := fun a0 κ0 => bH.e a0 κ0
abbrev bX.F (R : Type) : Type := Int -> (Int -> Option R) -> Option R
namespace bX
def e {R : Type} (a0 : Int) (κ0 : Int -> Option R) : Option R :=
 (κ0 (IntKind.wrap .i64 (Int.tdiv (IntKind.wrap .i64 (a0 + 16)) 8)))
end bX
def bX {R : Type} : bX.F R := fun a0 κ0 => bX.e a0 κ0
abbrev b6.F (R : Type) : Type := BA -> Int -> (Int -> Option R) -> Option R
namespace b6
abbrev J5 (R : Type) : Type := BA -> Int -> BA -> Int -> Int -> Int -> Option R
abbrev Cb (R : Type) : Type := BA -> Int -> BA -> Int -> Int -> Int -> Int -> Option R
def t5 {R : Type} (c1 : ay.F R) (j12 : Cb R) (κ0 : Int -> Option R) : J5 R :=
 fun x0 x1 x2 x3 x4 x5 => (bif (decide (x4 < (x0.size : Int))) then (bB ((decide ((0 : Int) <= x4)) && (decide (x4 < (x0.size : Int)))) (bB ((decide ((0 : Int) <= x3)) && (decide (x3 < (x2.size : Int)))) (bif ((dJ x0 x4) != (dJ x2 x3)) then (bB ((decide ((0 : Int) <= (IntKind.wrap .i64 (x4 + 1)))) && ((decide ((IntKind.wrap .i64 (x4 + 1)) <= (x0.size : Int))) && (decide ((x0.size : Int) <= (x0.size : Int))))) (bB ((decide ((0 : Int) <= x3)) && (decide (x3 < (x2.size : Int)))) (c1 (x0.extract ((IntKind.wrap .i64 (x4 + 1))).toNat ((x0.size : Int)).toNat) (dJ x2 x3) (fun r108 => (bif (decide (r108 < (0 : Int))) then (κ0 (-1)) else (j12 x0 x1 x2 x3 (IntKind.wrap .i64 (x4 + (IntKind.wrap .i64 (r108 + 1)))) x5 1)))))) else (j12 x0 x1 x2 x3 x4 x5 1)))) else (κ0 (-1)))
def t12 {R : Type} (c3 : bX.F R) (j5 : J5 R) (j12 : Cb R) (κ0 : Int -> Option R) : Cb R :=
 fun x0 x1 x2 x3 x4 x5 x6 => (bif (decide (x6 < (x2.size : Int))) then (bB ((decide ((0 : Int) <= (IntKind.wrap .i64 (x4 - x6)))) && (decide ((IntKind.wrap .i64 (x4 - x6)) < (x0.size : Int)))) (bB ((decide ((0 : Int) <= (IntKind.wrap .i64 (x3 - x6)))) && (decide ((IntKind.wrap .i64 (x3 - x6)) < (x2.size : Int)))) (bif ((dJ x0 (IntKind.wrap .i64 (x4 - x6))) != (dJ x2 (IntKind.wrap .i64 (x3 - x6)))) then (c3 (IntKind.wrap .i64 (x4 + 1)) (fun r109 => (bif (decide ((IntKind.wrap .i64 (x5 + 1)) > r109)) then (bif (decide ((IntKind.wrap .i64 (x4 + 1)) < (x0.size : Int))) then (bB ((decide ((0 : Int) <= (IntKind.wrap .i64 ((IntKind.wrap .i64 (x4 + 1)) - x3)))) && ((decide ((IntKind.wrap .i64 ((IntKind.wrap .i64 (x4 + 1)) - x3)) <= (x0.size : Int))) && (decide ((x0.size : Int) <= (x0.size : Int))))) none) else (j5 x0 x1 x2 x3 (IntKind.wrap .i64 (x4 + 1)) (IntKind.wrap .i64 (x5 + 1)))) else (j5 x0 x1 x2 x3 (IntKind.wrap .i64 (x4 + 1)) (IntKind.wrap .i64 (x5 + 1)))))) else (j12 x0 x1 x2 x3 x4 x5 (IntKind.wrap .i64 (x6 + 1)))))) else (κ0 (IntKind.wrap .i64 (x4 - x3))))
def t38 {R : Type} (j38 : BA -> Nat -> Option R) (κ0 : Int -> Option R) : BA -> Nat -> Option R :=
 fun x0 x1 => (bif (decide (x1 < x0.size)) then (bif (((Utf8.decode x0 x1).1 : Int) == 65533) then (κ0 (x1 : Int)) else (j38 x0 (x1 + (Utf8.decode x0 x1).2))) else (κ0 (-1)))
def e {R : Type} (c1 : ay.F R) (c2 : bH.F R) (c3 : bX.F R) (a0 : BA) (a1 : Int) (j5 : J5 R) (j12 : Cb R) (j38 : BA -> Nat -> Option R) (κ0 : Int -> Option R) : Option R :=
 (bif (decide ((0 : Int) <= a1)) then (bif (decide (a1 < (128 : Int))) then (c1 a0 (IntKind.wrap .u8 a1) (fun r105 => (κ0 r105))) else (bif (a1 == 65533) then (j38 a0 0) else (c2 a1 (fun r106 => (bif (!r106) then (κ0 (-1)) else (j5 a0 a1 (Utf8.encode a1) (IntKind.wrap .i64 (((Utf8.encode a1).size : Int) - 1)) (IntKind.wrap .i64 (((Utf8.encode a1).size : Int) - 1)) 0)))))) else (bif (a1 == 65533) then (j38 a0 0) else (c2 a1 (fun r107 => (bif (!r107) then (κ0 (-1)) else (j5 a0 a1 (Utf8.encode a1) (IntKind.wrap .i64 (((Utf8.encode a1).size : Int) - 1)) (IntKind.wrap .i64 (((Utf8.encode a1).size : Int) - 1)) 0))))))
def M5 {R : Type} (c1 : ay.F R) (c2 : bH.F R) (c3 : bX.F R) (κ0 : Int -> Option R) : Nat -> (J5 R) × (Cb R)
 | 0 => (fun _ _ _ _ _ _ => none, fun _ _ _ _ _ _ _ => none)
 | f + 1 => (t5 c1 ((M5 c1 c2 c3 κ0 f).2) κ0,
  t12 c3 ((M5 c1 c2 c3 κ0 f).1) ((M5 c1 c2 c3 κ0 f).2) κ0)
def L5 {R : Type} (c1 : ay.F R) (c2 : bH.F R) (c3 : bX.F R) (κ0 : Int -> Option R) (f : Nat) : J5 R := (M5 c1 c2 c3 κ0 f).1
def D1 {R : Type} (c1 : ay.F R) (c2 : bH.F R) (c3 : bX.F R) (κ0 : Int -> Option R) (f : Nat) : Cb R := (M5 c1 c2 c3 κ0 f).2
def D3 {R : Type} (c1 : ay.F R) (c2 : bH.F R) (c3 : bX.F R) (κ0 : Int -> Option R) : Nat -> BA -> Nat -> Option R
 | 0 => fun _ _ => none
 | f + 1 => t38 (D3 c1 c2 c3 κ0 f) κ0
end b6
def b6 {R : Type} : b6.F R := fun a0 a1 κ0 => b6.e ay bH bX a0 a1 (b6.L5 ay bH bX κ0 ag) (b6.D1 ay bH bX κ0 ag) (b6.D3 ay bH bX κ0 ag) κ0
abbrev aZ.F (R : Type) : Type := BA -> Int -> (Bool -> Option R) -> Option R
namespace aZ
def e {R : Type} (c1 : b6.F R) (a0 : BA) (a1 : Int) (κ0 : Bool -> Option R) : Option R :=
 (c1 a0 a1 (fun r110 => (κ0 (decide (r110 >= (0 : Int))))))
end aZ
def aZ {R : Type} : aZ.F R := fun a0 a1 κ0 => aZ.e b6 a0 a1 κ0
abbrev aq.Q0 (R : Type) : Type := BA -> BA -> Int -> Option R
abbrev aq.F (R : Type) : Type := BA -> Int -> aq.Q0 R -> Option R
namespace aq
abbrev J2 (R : Type) : Type := Int -> BA -> Int -> Option R
def t2 {R : Type} (c1 : aZ.F R) (j2 : J2 R) (κ0 : Q0 R) : J2 R :=
 fun x0 x1 x2 => (bif (decide (x2 < (x1.size : Int))) then (bB ((decide ((0 : Int) <= x2)) && (decide (x2 < (x1.size : Int)))) (bif (decide ((dJ x1 x2) > (32 : Int))) then (bB ((decide ((0 : Int) <= x2)) && (decide (x2 < (x1.size : Int)))) (bif (decide ((dJ x1 x2) < (127 : Int))) then (bB ((decide ((0 : Int) <= x2)) && (decide (x2 < (x1.size : Int)))) (c1 (⟨#[40, 41, 60, 62, 64, 44, 59, 58, 92, 34, 47, 91, 93, 63, 61]⟩ : BA) (IntKind.wrap .i32 (dJ x1 x2)) (fun r111 => (bif (!r111) then (j2 x0 x1 (IntKind.wrap .i64 (x2 + 1))) else (bB ((decide ((0 : Int) <= x0)) && ((decide (x0 <= x2)) && (decide (x2 <= (x1.size : Int))))) (κ0 (x1.extract (x0).toNat (x2).toNat) x1 x2)))))) else (bB ((decide ((0 : Int) <= x0)) && ((decide (x0 <= x2)) && (decide (x2 <= (x1.size : Int))))) (κ0 (x1.extract (x0).toNat (x2).toNat) x1 x2)))) else (bB ((decide ((0 : Int) <= x0)) && ((decide (x0 <= x2)) && (decide (x2 <= (x1.size : Int))))) (κ0 (x1.extract (x0).toNat (x2).toNat) x1 x2)))) else (bB ((decide ((0 : Int) <= x0)) && ((decide (x0 <= x2)) && (decide (x2 <= (x1.size : Int))))) (κ0 (x1.extract (x0).toNat (x2).toNat) x1 x2)))
def e {R : Type} (c1 : aZ.F R) (a0 : BA) (a1 : Int) (j2 : J2 R) (κ0 : Q0 R) : Option R :=
 (j2 a1 a0 a1)
def L2 {R : Type} (c1 : aZ.F R) (κ0 : Q0 R) : Nat -> J2 R
 | 0 => fun _ _ _ => none
 | f + 1 => t2 c1 (L2 c1 κ0 f) κ0
end aq
def aq {R : Type} : aq.F R := fun a0 a1 κ0 => aq.e aZ a0 a1 (aq.L2 aZ κ0 ag) κ0
abbrev aj.Q0 (R : Type) : Type := Bool -> BA -> Int -> Option R
abbrev aj.F (R : Type) : Type := BA -> Int -> Int -> aj.Q0 R -> Option R
namespace aj
def e {R : Type} (a0 : BA) (a1 : Int) (a2 : Int) (κ0 : Q0 R) : Option R :=
 (bif (decide (a1 < (a0.size : Int))) then (bB ((decide ((0 : Int) <= a1)) && (decide (a1 < (a0.size : Int)))) (bif ((dJ a0 a1) == a2) then (κ0 true a0 (IntKind.wrap .i64 (a1 + 1))) else (κ0 false a0 a1))) else (κ0 false a0 a1))
end aj
def aj {R : Type} : aj.F R := fun a0 a1 a2 κ0 => aj.e a0 a1 a2 κ0
abbrev aX.Q0 (R : Type) : Type := BA -> BA -> Bool -> BA -> Int -> Option R
abbrev aX.F (R : Type) : Type := BA -> Int -> aX.Q0 R -> Option R
namespace aX
def e {R : Type} (c1 : af.F R) (c2 : aq.F R) (c3 : bw.F R) (c4 : aj.F R) (a0 : BA) (a1 : Int) (κ0 : Q0 R) : Option R :=
 (c1 a0 a1 (fun r103 r104 => (c2 r103 r104 (fun r112 r113 r114 => (c3 r112 (fun r115 => (c1 r113 r114 (fun r116 r117 => (bif (decide (r115 = (⟨#[]⟩ : BA))) then (κ0 (⟨#[]⟩ : BA) (⟨#[]⟩ : BA) false r116 r117) else (c4 r116 r117 47 (fun r118 r119 r120 => (bif (!r118) then (κ0 (⟨#[]⟩ : BA) (⟨#[]⟩ : BA) false r119 r120) else (c1 r119 r120 (fun r121 r122 => (c2 r121 r122 (fun r123 r124 r125 => (c3 r123 (fun r126 => (κ0 r115 r126 (!decide (r126 = (⟨#[]⟩ : BA))) r124 r125)))))))))))))))))))
end aX
def aX {R : Type} : aX.F R := fun a0 a1 κ0 => aX.e af aq bw aj a0 a1 κ0
abbrev aR.F (R : Type) : Type := LA -> (BA -> Option R) -> Option R
namespace aR
def e {R : Type} (a0 : LA) (κ0 : BA -> Option R) : Option R :=
 (bB (decide ((a0.length : Int) = (a0.length : Int))) (bB (List.all a0 nw) (κ0 (fF a0))))
end aR
def aR {R : Type} : aR.F R := fun a0 κ0 => aR.e a0 κ0
abbrev cz.F (R : Type) : Type := LA -> (LA -> Option R) -> Option R
def cz {R : Type} (a0 : LA) (κ0 : LA -> Option R) : Option R := κ0 a0
abbrev aM.F (R : Type) : Type := LA -> Int -> (LA -> Option R) -> Option R
namespace aM
def e {R : Type} (c1 : cz.F R) (a0 : LA) (a1 : Int) (κ0 : LA -> Option R) : Option R :=
 (c1 a0 (fun r165 => (bB (decide ((r165.length + 1) * 1 <= 140737488355328)) (κ0 (r165 ++ [AV.int a1])))))
end aM
def aM {R : Type} : aM.F R := fun a0 a1 κ0 => aM.e cz a0 a1 κ0
abbrev bo.Q0 (R : Type) : Type := BA -> Bool -> BA -> Int -> Option R
abbrev bo.F (R : Type) : Type := BA -> Int -> bo.Q0 R -> Option R
namespace bo
abbrev J5 (R : Type) : Type := BA -> Int -> LA -> Option R
def t5 {R : Type} (c3 : aR.F R) (c4 : aM.F R) (j5 : J5 R) (κ0 : Q0 R) : J5 R :=
 fun x0 x1 x2 => (bif (decide (x1 < (x0.size : Int))) then (bB ((decide ((0 : Int) <= x1)) && (decide (x1 < (x0.size : Int)))) (bif ((dJ x0 x1) == 34) then (c3 x2 (fun r164 => (κ0 r164 true x0 (IntKind.wrap .i64 (x1 + 1))))) else (bif ((dJ x0 x1) == 92) then (bif (decide ((IntKind.wrap .i64 (x1 + 1)) < (x0.size : Int))) then (bB ((decide ((0 : Int) <= (IntKind.wrap .i64 (x1 + 1)))) && (decide ((IntKind.wrap .i64 (x1 + 1)) < (x0.size : Int)))) (c4 x2 (dJ x0 (IntKind.wrap .i64 (x1 + 1))) (fun r166 => (j5 x0 (IntKind.wrap .i64 ((IntKind.wrap .i64 (x1 + 1)) + 1)) r166)))) else (c4 x2 (dJ x0 x1) (fun r167 => (j5 x0 (IntKind.wrap .i64 (x1 + 1)) r167)))) else (c4 x2 (dJ x0 x1) (fun r168 => (j5 x0 (IntKind.wrap .i64 (x1 + 1)) r168)))))) else (κ0 (⟨#[]⟩ : BA) false x0 x1))
def e {R : Type} (c1 : aj.F R) (c2 : aq.F R) (c3 : aR.F R) (c4 : aM.F R) (a0 : BA) (a1 : Int) (j5 : J5 R) (κ0 : Q0 R) : Option R :=
 (c1 a0 a1 34 (fun r158 r159 r160 => (bif (!r158) then (c2 r159 r160 (fun r161 r162 r163 => (κ0 r161 (!decide (r161 = (⟨#[]⟩ : BA))) r162 r163))) else (j5 r159 r160 ([] : LA)))))
def L5 {R : Type} (c1 : aj.F R) (c2 : aq.F R) (c3 : aR.F R) (c4 : aM.F R) (κ0 : Q0 R) : Nat -> J5 R
 | 0 => fun _ _ _ => none
 | f + 1 => t5 c3 c4 (L5 c1 c2 c3 c4 κ0 f) κ0
end bo
def bo {R : Type} : bo.F R := fun a0 a1 κ0 => bo.e aj aq aR aM a0 a1 (bo.L5 aj aq aR aM κ0 ag) κ0
abbrev aQ.Q0 (R : Type) : Type := BA -> BA -> Bool -> BA -> Int -> Option R
abbrev aQ.F (R : Type) : Type := BA -> Int -> aQ.Q0 R -> Option R
namespace aQ
def e {R : Type} (c1 : af.F R) (c2 : aj.F R) (c3 : aq.F R) (c4 : bw.F R) (c5 : bo.F R) (a0 : BA) (a1 : Int) (κ0 : Q0 R) : Option R :=
 (c1 a0 a1 (fun r132 r133 => (c2 r132 r133 59 (fun r134 r135 r136 => (bif (!r134) then (κ0 (⟨#[]⟩ : BA) (⟨#[]⟩ : BA) false r135 r136) else (c1 r135 r136 (fun r137 r138 => (c3 r137 r138 (fun r139 r140 r141 => (c4 r139 (fun r142 => (c1 r140 r141 (fun r143 r144 => (bif (decide (r142 = (⟨#[]⟩ : BA))) then (κ0 (⟨#[]⟩ : BA) (⟨#[]⟩ : BA) false r143 r144) else (c2 r143 r144 61 (fun r145 r146 r147 => (bif (!r145) then (κ0 (⟨#[]⟩ : BA) (⟨#[]⟩ : BA) false r146 r147) else (c1 r146 r147 (fun r148 r149 => (c5 r148 r149 (fun r169 r170 r171 r172 => (κ0 r142 r169 r170 r171 r172))))))))))))))))))))))
end aQ
def aQ {R : Type} : aQ.F R := fun a0 a1 κ0 => aQ.e af aj aq bw bo a0 a1 κ0
abbrev aF.Q0 (R : Type) : Type := LA -> BA -> Int -> Option R
abbrev aF.F (R : Type) : Type := BA -> Int -> aF.Q0 R -> Option R
namespace aF
abbrev J3 (R : Type) : Type := BA -> Int -> LA -> LA -> Option R
def t3 {R : Type} (c1 : aQ.F R) (j3 : J3 R) (κ0 : Q0 R) : J3 R :=
 fun x0 x1 x2 x3 => (bif (decide ((x2.length : Int) < (12 : Int))) then (c1 x0 x1 (fun r178 r179 r180 r181 r182 => (bif (!r180) then (κ0 x2 r181 r182) else (bif ((hI (.str) (AV.str r178) (ga (.str) (AV.str r178) (AV.int (IntKind.wrap .i64 ((hI (.str) (AV.str r178) x3).i + 1))) x3)).i == 1) then (bB (decide ((x2.length + 1) * 32 <= 140737488355328)) (j3 r181 r182 (x2 ++ [AV.agg [AV.str r178, AV.str r179]]) (ga (.str) (AV.str r178) (AV.int (IntKind.wrap .i64 ((hI (.str) (AV.str r178) x3).i + 1))) x3))) else (j3 r181 r182 x2 (ga (.str) (AV.str r178) (AV.int (IntKind.wrap .i64 ((hI (.str) (AV.str r178) x3).i + 1))) x3)))))) else (κ0 x2 x0 x1))
def e {R : Type} (c1 : aQ.F R) (a0 : BA) (a1 : Int) (j3 : J3 R) (κ0 : Q0 R) : Option R :=
 (j3 a0 a1 ([] : LA) ([] : LA))
def L3 {R : Type} (c1 : aQ.F R) (κ0 : Q0 R) : Nat -> J3 R
 | 0 => fun _ _ _ _ => none
 | f + 1 => t3 c1 (L3 c1 κ0 f) κ0
end aF
def aF {R : Type} : aF.F R := fun a0 a1 κ0 => aF.e aQ a0 a1 (aF.L3 aQ κ0 ag) κ0
abbrev au.Q0 (R : Type) : Type := Bool -> BA -> BA -> Int -> Option R
abbrev au.F (R : Type) : Type := BA -> Int -> au.Q0 R -> Option R
namespace au
def e {R : Type} (c1 : af.F R) (c2 : aq.F R) (c3 : bw.F R) (a0 : BA) (a1 : Int) (κ0 : Q0 R) : Option R :=
 (c1 a0 a1 (fun r188 r189 => (c2 r188 r189 (fun r190 r191 r192 => (c3 r190 (fun r193 => (κ0 (!decide (r193 = (⟨#[]⟩ : BA))) r193 r191 r192)))))))
end au
def au {R : Type} : au.F R := fun a0 a1 κ0 => au.e af aq bw a0 a1 κ0
abbrev cQ.F (R : Type) : Type := LA -> BA -> (Bool -> BA -> Option R) -> Option R
namespace cQ
def e {R : Type} (c1 : cG.F R) (c2 : bA.F R) (a0 : LA) (a1 : BA) (κ0 : Bool -> BA -> Option R) : Option R :=
 (c1 a0 a1 (fun r198 r199 => (c2 r199 (⟨#[32, 9]⟩ : BA) (fun r200 => (κ0 r198 r200)))))
end cQ
def cQ {R : Type} : cQ.F R := fun a0 a1 κ0 => cQ.e cG bA a0 a1 κ0
abbrev aC.Q0 (R : Type) : Type := LA -> BA -> Int -> Option R
abbrev aC.F (R : Type) : Type := BA -> Int -> aC.Q0 R -> Option R
namespace aC
abbrev J2 (R : Type) : Type := BA -> Int -> LA -> Option R
abbrev J8 (R : Type) : Type := LA -> BA -> Int -> Option R
def t2 {R : Type} (c1 : au.F R) (c2 : af.F R) (c3 : aj.F R) (j2 : J2 R) (j8 : J8 R) : J2 R :=
 fun x0 x1 x2 => (bif (decide ((x2.length : Int) < (12 : Int))) then (c1 x0 x1 (fun r278 r279 r280 r281 => (bif (!r278) then (j8 x2 r280 r281) else (bB (decide ((x2.length + 1) * 16 <= 140737488355328)) (c2 r280 r281 (fun r282 r283 => (c3 r282 r283 44 (fun r284 r285 r286 => (bif (!r284) then (j8 (x2 ++ [AV.str r279]) r285 r286) else (j2 r285 r286 (x2 ++ [AV.str r279]))))))))))) else (j8 x2 x0 x1))
def t8 {R : Type} (κ0 : Q0 R) : J8 R :=
 fun x0 x1 x2 => (κ0 x0 x1 x2)
def e {R : Type} (c1 : au.F R) (c2 : af.F R) (c3 : aj.F R) (a0 : BA) (a1 : Int) (j2 : J2 R) (j8 : J8 R) (κ0 : Q0 R) : Option R :=
 (j2 a0 a1 ([] : LA))
def L8 {R : Type} (c1 : au.F R) (c2 : af.F R) (c3 : aj.F R) (κ0 : Q0 R) : Nat -> J8 R
 | 0 => fun _ _ _ => none
 | f + 1 => t8 κ0
def L2 {R : Type} (c1 : au.F R) (c2 : af.F R) (c3 : aj.F R) (κ0 : Q0 R) : Nat -> J2 R
 | 0 => fun _ _ _ => none
 | f + 1 => t2 c1 c2 c3 (L2 c1 c2 c3 κ0 f) (L8 c1 c2 c3 κ0 f)
end aC
def aC {R : Type} : aC.F R := fun a0 a1 κ0 => aC.e au af aj a0 a1 (aC.L2 au af aj κ0 ag) (aC.L8 au af aj κ0 ag) κ0
abbrev cW.Q0 (R : Type) : Type := BA -> BA -> BA -> LA -> Bool -> BA -> Bool -> BA -> Bool -> BA -> Bool -> BA -> LA -> LA -> Bool -> BA -> Int -> Int -> Int -> Int -> Int -> Option R
abbrev cW.F (R : Type) : Type := BA -> BA -> BA -> Bool -> BA -> Bool -> BA -> Bool -> BA -> Bool -> BA -> Bool -> BA -> Int -> Int -> Int -> Int -> Int -> LA -> Bool -> cW.Q0 R -> Option R
namespace cW
abbrev qR (R : Type) : Type := LA -> BA -> BA -> BA -> LA -> Bool -> BA -> Bool -> BA -> Bool -> BA -> Bool -> BA -> LA -> LA -> Bool -> BA -> Int -> Int -> Int -> Int -> Int -> Option R
def t15 {R : Type} (c1 : cG.F R) (c6 : aC.F R) (κ0 : Q0 R) : qR R :=
 fun x0 x1 x2 x3 x4 x5 x6 x7 x8 x9 x10 x11 x12 x13 x14 x15 x16 x17 x18 x19 x20 x21 => (c1 x0 (⟨#[67, 111, 110, 116, 101, 110, 116, 45, 76, 97, 110, 103, 117, 97, 103, 101]⟩ : BA) (fun r258 r259 => (c6 r259 0 (fun r287 r288 r289 => (κ0 x1 x2 x3 x4 x5 x6 x7 x8 x9 x10 x11 x12 x13 r287 x15 x16 x17 x18 x19 x20 x21)))))
def e {R : Type} (c1 : cG.F R) (c2 : aX.F R) (c3 : aF.F R) (c4 : au.F R) (c5 : cQ.F R) (c6 : aC.F R) (a0 : BA) (a1 : BA) (a2 : BA) (a3 : Bool) (a4 : BA) (a5 : Bool) (a6 : BA) (a7 : Bool) (a8 : BA) (a9 : Bool) (a10 : BA) (a11 : Bool) (a12 : BA) (a13 : Int) (a14 : Int) (a15 : Int) (a16 : Int) (a17 : Int) (a18 : LA) (a19 : Bool) (j15 : qR R) (κ0 : Q0 R) : Option R :=
 (c1 a18 (⟨#[67, 111, 110, 116, 101, 110, 116, 45, 84, 121, 112, 101]⟩ : BA) (fun r96 r97 => (c2 r97 0 (fun r127 r128 r129 r130 r131 => (bif r129 then (c3 r130 r131 (fun r183 r184 r185 => (c1 a18 (⟨#[67, 111, 110, 116, 101, 110, 116, 45, 84, 114, 97, 110, 115, 102, 101, 114, 45, 69, 110, 99, 111, 100, 105, 110, 103]⟩ : BA) (fun r186 r187 => (c4 r187 0 (fun r194 r195 r196 r197 => (c5 a18 (⟨#[67, 111, 110, 116, 101, 110, 116, 45, 73, 100]⟩ : BA) (fun r201 r202 => (c5 a18 (⟨#[67, 111, 110, 116, 101, 110, 116, 45, 68, 101, 115, 99, 114, 105, 112, 116, 105, 111, 110]⟩ : BA) (fun r203 r204 => (c5 a18 (⟨#[67, 111, 110, 116, 101, 110, 116, 45, 76, 111, 99, 97, 116, 105, 111, 110]⟩ : BA) (fun r205 r206 => (c1 a18 (⟨#[67, 111, 110, 116, 101, 110, 116, 45, 68, 105, 115, 112, 111, 115, 105, 116, 105, 111, 110]⟩ : BA) (fun r207 r208 => (c4 r208 0 (fun r209 r210 r211 r212 => (bif r209 then (c3 r211 r212 (fun r213 r214 r215 => (j15 a18 a0 r127 r128 r183 r201 r202 r203 r204 r194 r195 r209 r210 r213 ([] : LA) r205 r206 a13 a14 a15 a16 a17))) else (j15 a18 a0 r127 r128 r183 r201 r202 r203 r204 r194 r195 r209 r210 ([] : LA) ([] : LA) r205 r206 a13 a14 a15 a16 a17)))))))))))))))))) else (bif a19 then (c1 a18 (⟨#[67, 111, 110, 116, 101, 110, 116, 45, 84, 114, 97, 110, 115, 102, 101, 114, 45, 69, 110, 99, 111, 100, 105, 110, 103]⟩ : BA) (fun r216 r217 => (c4 r217 0 (fun r218 r219 r220 r221 => (c5 a18 (⟨#[67, 111, 110, 116, 101, 110, 116, 45, 73, 100]⟩ : BA) (fun r222 r223 => (c5 a18 (⟨#[67, 111, 110, 116, 101, 110, 116, 45, 68, 101, 115, 99, 114, 105, 112, 116, 105, 111, 110]⟩ : BA) (fun r224 r225 => (c5 a18 (⟨#[67, 111, 110, 116, 101, 110, 116, 45, 76, 111, 99, 97, 116, 105, 111, 110]⟩ : BA) (fun r226 r227 => (c1 a18 (⟨#[67, 111, 110, 116, 101, 110, 116, 45, 68, 105, 115, 112, 111, 115, 105, 116, 105, 111, 110]⟩ : BA) (fun r228 r229 => (c4 r229 0 (fun r230 r231 r232 r233 => (bif r230 then (c3 r232 r233 (fun r234 r235 r236 => (j15 a18 a0 (⟨#[109, 101, 115, 115, 97, 103, 101]⟩ : BA) (⟨#[114, 102, 99, 56, 50, 50]⟩ : BA) ([] : LA) r222 r223 r224 r225 r218 r219 r230 r231 r234 ([] : LA) r226 r227 a13 a14 a15 a16 a17))) else (j15 a18 a0 (⟨#[109, 101, 115, 115, 97, 103, 101]⟩ : BA) (⟨#[114, 102, 99, 56, 50, 50]⟩ : BA) ([] : LA) r222 r223 r224 r225 r218 r219 r230 r231 ([] : LA) ([] : LA) r226 r227 a13 a14 a15 a16 a17)))))))))))))))) else (c1 a18 (⟨#[67, 111, 110, 116, 101, 110, 116, 45, 84, 114, 97, 110, 115, 102, 101, 114, 45, 69, 110, 99, 111, 100, 105, 110, 103]⟩ : BA) (fun r237 r238 => (c4 r238 0 (fun r239 r240 r241 r242 => (c5 a18 (⟨#[67, 111, 110, 116, 101, 110, 116, 45, 73, 100]⟩ : BA) (fun r243 r244 => (c5 a18 (⟨#[67, 111, 110, 116, 101, 110, 116, 45, 68, 101, 115, 99, 114, 105, 112, 116, 105, 111, 110]⟩ : BA) (fun r245 r246 => (c5 a18 (⟨#[67, 111, 110, 116, 101, 110, 116, 45, 76, 111, 99, 97, 116, 105, 111, 110]⟩ : BA) (fun r247 r248 => (c1 a18 (⟨#[67, 111, 110, 116, 101, 110, 116, 45, 68, 105, 115, 112, 111, 115, 105, 116, 105, 111, 110]⟩ : BA) (fun r249 r250 => (c4 r250 0 (fun r251 r252 r253 r254 => (bif r251 then (c3 r253 r254 (fun r255 r256 r257 => (j15 a18 a0 (⟨#[116, 101, 120, 116]⟩ : BA) (⟨#[112, 108, 97, 105, 110]⟩ : BA) [AV.agg [AV.str (⟨#[99, 104, 97, 114, 115, 101, 116]⟩ : BA), AV.str (⟨#[117, 115, 45, 97, 115, 99, 105, 105]⟩ : BA)]] r243 r244 r245 r246 r239 r240 r251 r252 r255 ([] : LA) r247 r248 a13 a14 a15 a16 a17))) else (j15 a18 a0 (⟨#[116, 101, 120, 116]⟩ : BA) (⟨#[112, 108, 97, 105, 110]⟩ : BA) [AV.agg [AV.str (⟨#[99, 104, 97, 114, 115, 101, 116]⟩ : BA), AV.str (⟨#[117, 115, 45, 97, 115, 99, 105, 105]⟩ : BA)]] r243 r244 r245 r246 r239 r240 r251 r252 ([] : LA) ([] : LA) r247 r248 a13 a14 a15 a16 a17))))))))))))))))))))))
def mZ {R : Type} (c1 : cG.F R) (c2 : aX.F R) (c3 : aF.F R) (c4 : au.F R) (c5 : cQ.F R) (c6 : aC.F R) (κ0 : Q0 R) : Nat -> qR R
 | 0 => fun _ _ _ _ _ _ _ _ _ _ _ _ _ _ _ _ _ _ _ _ _ _ => none
 | f + 1 => t15 c1 c6 κ0
end cW
def cW {R : Type} : cW.F R := fun a0 a1 a2 a3 a4 a5 a6 a7 a8 a9 a10 a11 a12 a13 a14 a15 a16 a17 a18 a19 κ0 => cW.e cG aX aF au cQ aC a0 a1 a2 a3 a4 a5 a6 a7 a8 a9 a10 a11 a12 a13 a14 a15 a16 a17 a18 a19 (cW.mZ cG aX aF au cQ aC κ0 ag) κ0
abbrev aA.Q0 (R : Type) : Type := BA -> BA -> BA -> LA -> Bool -> BA -> Bool -> BA -> Bool -> BA -> Bool -> BA -> LA -> LA -> Bool -> BA -> Int -> Int -> Int -> Int -> Int -> BA -> Int -> Option R
abbrev aA.F (R : Type) : Type := BA -> Int -> Int -> Int -> Bool -> aA.Q0 R -> Option R
namespace aA
def e {R : Type} (c1 : dx.F R) (c2 : aU.F R) (c3 : cW.F R) (a0 : BA) (a1 : Int) (a2 : Int) (a3 : Int) (a4 : Bool) (κ0 : Q0 R) : Option R :=
 (bB ((decide ((0 : Int) <= a2)) && ((decide (a2 <= a3)) && (decide (a3 <= (a0.size : Int))))) (c1 (a0.extract (a2).toNat (a3).toNat) (fun r5 r6 => (c2 r5 (fun r92 => (c3 (⟨#[]⟩ : BA) (⟨#[]⟩ : BA) (⟨#[]⟩ : BA) false (⟨#[]⟩ : BA) false (⟨#[]⟩ : BA) false (⟨#[]⟩ : BA) false (⟨#[]⟩ : BA) false (⟨#[]⟩ : BA) a2 (IntKind.wrap .i64 (a2 + (r5.size : Int))) (IntKind.wrap .i64 (a2 + (r5.size : Int))) a3 0 r92 a4 (fun r290 r291 r292 r293 r294 r295 r296 r297 r298 r299 r300 r301 r302 r303 r304 r305 r306 r307 r308 r309 r310 => (κ0 r290 r291 r292 r293 r294 r295 r296 r297 r298 r299 r300 r301 r302 r303 r304 r305 r306 r307 r308 r309 r310 a0 a1))))))))
end aA
def aA {R : Type} : aA.F R := fun a0 a1 a2 a3 a4 κ0 => aA.e dx aU cW a0 a1 a2 a3 a4 κ0
abbrev bD.Q0 (R : Type) : Type := Bool -> BA -> BA -> BA -> LA -> Bool -> BA -> Bool -> BA -> Bool -> BA -> Bool -> BA -> LA -> LA -> Bool -> BA -> Int -> Int -> Int -> Int -> Int -> Option R
abbrev bD.F (R : Type) : Type := BA -> BA -> BA -> LA -> Bool -> BA -> Bool -> BA -> Bool -> BA -> Bool -> BA -> LA -> LA -> Bool -> BA -> Int -> Int -> Int -> Int -> Int -> bD.Q0 R -> Option R
namespace bD
def e {R : Type} (a0 : BA) (a1 : BA) (a2 : BA) (a3 : LA) (a4 : Bool) (a5 : BA) (a6 : Bool) (a7 : BA) (a8 : Bool) (a9 : BA) (a10 : Bool) (a11 : BA) (a12 : LA) (a13 : LA) (a14 : Bool) (a15 : BA) (a16 : Int) (a17 : Int) (a18 : Int) (a19 : Int) (a20 : Int) (κ0 : Q0 R) : Option R :=
 (bif (decide (a1 = (⟨#[109, 101, 115, 115, 97, 103, 101]⟩ : BA))) then (κ0 (decide (a2 = (⟨#[114, 102, 99, 56, 50, 50]⟩ : BA))) a0 a1 a2 a3 a4 a5 a6 a7 a8 a9 a10 a11 a12 a13 a14 a15 a16 a17 a18 a19 a20) else (κ0 false a0 a1 a2 a3 a4 a5 a6 a7 a8 a9 a10 a11 a12 a13 a14 a15 a16 a17 a18 a19 a20))
end bD
def bD {R : Type} : bD.F R := fun a0 a1 a2 a3 a4 a5 a6 a7 a8 a9 a10 a11 a12 a13 a14 a15 a16 a17 a18 a19 a20 κ0 => bD.e a0 a1 a2 a3 a4 a5 a6 a7 a8 a9 a10 a11 a12 a13 a14 a15 a16 a17 a18 a19 a20 κ0
abbrev cu.F (R : Type) : Type := BA -> BA -> (BA -> Bool -> Option R) -> Option R
namespace cu
def e {R : Type} (c1 : bG.F R) (a0 : BA) (a1 : BA) (κ0 : BA -> Bool -> Option R) : Option R :=
 (c1 a0 a1 (fun r357 => (bif (!r357) then (κ0 a0 false) else (bB ((decide ((0 : Int) <= (a1.size : Int))) && ((decide ((a1.size : Int) <= (a0.size : Int))) && (decide ((a0.size : Int) <= (a0.size : Int))))) (κ0 (a0.extract ((a1.size : Int)).toNat ((a0.size : Int)).toNat) true)))))
end cu
def cu {R : Type} : cu.F R := fun a0 a1 κ0 => cu.e bG a0 a1 κ0
abbrev ci.F (R : Type) : Type := BA -> BA -> (BA -> Bool -> Option R) -> Option R
namespace ci
def e {R : Type} (c1 : cu.F R) (a0 : BA) (a1 : BA) (κ0 : BA -> Bool -> Option R) : Option R :=
 (c1 a0 a1 (fun r358 r359 => (κ0 r358 r359)))
end ci
def ci {R : Type} : ci.F R := fun a0 a1 κ0 => ci.e cu a0 a1 κ0
abbrev cw.F (R : Type) : Type := BA -> BA -> (Bool -> Bool -> Option R) -> Option R
namespace cw
def e {R : Type} (c1 : ci.F R) (c2 : bA.F R) (a0 : BA) (a1 : BA) (κ0 : Bool -> Bool -> Option R) : Option R :=
 (bB (decide ((⟨#[45, 45]⟩ : BA).size + a1.size <= 9223372036854775807)) (c1 a0 ((⟨#[45, 45]⟩ : BA) ++ a1) (fun r360 r361 => (bif (!r361) then (κ0 false false) else (c1 r360 (⟨#[45, 45]⟩ : BA) (fun r362 r363 => (c2 r362 (⟨#[32, 9]⟩ : BA) (fun r364 => (κ0 (decide (r364 = (⟨#[]⟩ : BA))) r363)))))))))
end cw
def cw {R : Type} : cw.F R := fun a0 a1 κ0 => cw.e ci bA a0 a1 κ0
abbrev bm.Q0 (R : Type) : Type := LA -> BA -> Int -> Option R
abbrev bm.F (R : Type) : Type := BA -> Int -> Int -> Int -> BA -> bm.Q0 R -> Option R
namespace bm
abbrev J4 (R : Type) : Type := BA -> Int -> Int -> BA -> Int -> Int -> Int -> LA -> Option R
def t4 {R : Type} (c1 : aP.F R) (c2 : cw.F R) (j4 : J4 R) (κ0 : Q0 R) : J4 R :=
 fun x0 x1 x2 x3 x4 x5 x6 x7 => (bif (decide (x2 <= x6)) then (bB ((decide ((0 : Int) <= x2)) && ((decide (x2 <= x6)) && (decide (x6 <= (x3.size : Int))))) (c1 (x3.extract (x2).toNat (x6).toNat) (⟨#[13, 10]⟩ : BA) (fun r367 => (bif (decide (r367 >= (0 : Int))) then (bB ((decide ((0 : Int) <= x2)) && ((decide (x2 <= (IntKind.wrap .i64 (x2 + r367)))) && (decide ((IntKind.wrap .i64 (x2 + r367)) <= (x3.size : Int))))) (c2 (x3.extract (x2).toNat ((IntKind.wrap .i64 (x2 + r367))).toNat) x0 (fun r368 r369 => (bif r368 then (bif (decide (x1 >= (0 : Int))) then (bB (decide ((x7.length + 1) * 16 <= 140737488355328)) (bif r369 then (κ0 (x7 ++ [AV.agg [AV.int x1, AV.int (max2 x1 (IntKind.wrap .i64 (x2 - 2)))]]) x3 x4) else (j4 x0 (min2 (IntKind.wrap .i64 ((IntKind.wrap .i64 (x2 + r367)) + 2)) x6) (IntKind.wrap .i64 ((IntKind.wrap .i64 (x2 + r367)) + 2)) x3 x4 x5 x6 (x7 ++ [AV.agg [AV.int x1, AV.int (max2 x1 (IntKind.wrap .i64 (x2 - 2)))]])))) else (bif r369 then (κ0 x7 x3 x4) else (j4 x0 (min2 (IntKind.wrap .i64 ((IntKind.wrap .i64 (x2 + r367)) + 2)) x6) (IntKind.wrap .i64 ((IntKind.wrap .i64 (x2 + r367)) + 2)) x3 x4 x5 x6 x7))) else (j4 x0 x1 (IntKind.wrap .i64 ((IntKind.wrap .i64 (x2 + r367)) + 2)) x3 x4 x5 x6 x7))))) else (bB ((decide ((0 : Int) <= x2)) && ((decide (x2 <= x6)) && (decide (x6 <= (x3.size : Int))))) (c2 (x3.extract (x2).toNat (x6).toNat) x0 (fun r370 r371 => (bif r370 then (bif (decide (x1 >= (0 : Int))) then (bB (decide ((x7.length + 1) * 16 <= 140737488355328)) (bif r371 then (κ0 (x7 ++ [AV.agg [AV.int x1, AV.int (max2 x1 (IntKind.wrap .i64 (x2 - 2)))]]) x3 x4) else (j4 x0 (min2 (IntKind.wrap .i64 (x6 + 1)) x6) (IntKind.wrap .i64 (x6 + 1)) x3 x4 x5 x6 (x7 ++ [AV.agg [AV.int x1, AV.int (max2 x1 (IntKind.wrap .i64 (x2 - 2)))]])))) else (bif r371 then (κ0 x7 x3 x4) else (j4 x0 (min2 (IntKind.wrap .i64 (x6 + 1)) x6) (IntKind.wrap .i64 (x6 + 1)) x3 x4 x5 x6 x7))) else (j4 x0 x1 (IntKind.wrap .i64 (x6 + 1)) x3 x4 x5 x6 x7))))))))) else (bif (decide (x1 >= (0 : Int))) then (bB (decide ((x7.length + 1) * 16 <= 140737488355328)) (κ0 (x7 ++ [AV.agg [AV.int x1, AV.int x6]]) x3 x4)) else (κ0 x7 x3 x4)))
def e {R : Type} (c1 : aP.F R) (c2 : cw.F R) (a0 : BA) (a1 : Int) (a2 : Int) (a3 : Int) (a4 : BA) (j4 : J4 R) (κ0 : Q0 R) : Option R :=
 (j4 a4 (-1) a2 a0 a1 a2 a3 ([] : LA))
def L4 {R : Type} (c1 : aP.F R) (c2 : cw.F R) (κ0 : Q0 R) : Nat -> J4 R
 | 0 => fun _ _ _ _ _ _ _ _ => none
 | f + 1 => t4 c1 c2 (L4 c1 c2 κ0 f) κ0
end bm
def bm {R : Type} : bm.F R := fun a0 a1 a2 a3 a4 κ0 => bm.e aP cw a0 a1 a2 a3 a4 (bm.L4 aP cw κ0 ag) κ0
abbrev aB.Q0 (R : Type) : Type := BA -> Int -> BA -> BA -> BA -> LA -> Bool -> BA -> Bool -> BA -> Bool -> BA -> Bool -> BA -> LA -> LA -> Bool -> BA -> Int -> Int -> Int -> Int -> Int -> Option R
abbrev aB.Q1 (R : Type) : Type := LA -> BA -> Int -> BA -> BA -> BA -> LA -> Bool -> BA -> Bool -> BA -> Bool -> BA -> Bool -> BA -> LA -> LA -> Bool -> BA -> Int -> Int -> Int -> Int -> Int -> Option R
abbrev aB.F (R : Type) : Type := BA -> Int -> BA -> BA -> BA -> LA -> Bool -> BA -> Bool -> BA -> Bool -> BA -> Bool -> BA -> LA -> LA -> Bool -> BA -> Int -> Int -> Int -> Int -> Int -> aB.Q0 R -> aB.Q1 R -> Option R
namespace aB
abbrev J8 (R : Type) : Type := LA -> Int -> Int -> BA -> BA -> BA -> LA -> Bool -> BA -> Bool -> BA -> Bool -> BA -> Bool -> BA -> LA -> LA -> Bool -> BA -> Int -> Int -> Int -> Int -> Int -> BA -> Int -> Option R
def t8 {R : Type} (c2 : bm.F R) (j8 : J8 R) (κ0 : Q0 R) (κ1 : Q1 R) : J8 R :=
 fun x0 x1 x2 x3 x4 x5 x6 x7 x8 x9 x10 x11 x12 x13 x14 x15 x16 x17 x18 x19 x20 x21 x22 x23 x24 x25 => (bif (decide (x2 < x1)) then (bB ((decide ((0 : Int) <= x2)) && (decide (x2 < (x0.length : Int)))) (bif (decide (((bK x0 x2).fld 0).s = (⟨#[98, 111, 117, 110, 100, 97, 114, 121]⟩ : BA))) then (bif (decide ((((bK x0 x2).fld 1).s.size : Int) >= (1 : Int))) then (bif (decide ((((bK x0 x2).fld 1).s.size : Int) <= (70 : Int))) then (c2 x24 x25 x21 x22 ((bK x0 x2).fld 1).s (fun r372 r373 r374 => (κ1 r372 r373 r374 x3 x4 x5 x6 x7 x8 x9 x10 x11 x12 x13 x14 x15 x16 x17 x18 x19 x20 x21 x22 x23))) else (j8 x0 x1 (IntKind.wrap .i64 (x2 + 1)) x3 x4 x5 x6 x7 x8 x9 x10 x11 x12 x13 x14 x15 x16 x17 x18 x19 x20 x21 x22 x23 x24 x25)) else (j8 x0 x1 (IntKind.wrap .i64 (x2 + 1)) x3 x4 x5 x6 x7 x8 x9 x10 x11 x12 x13 x14 x15 x16 x17 x18 x19 x20 x21 x22 x23 x24 x25)) else (j8 x0 x1 (IntKind.wrap .i64 (x2 + 1)) x3 x4 x5 x6 x7 x8 x9 x10 x11 x12 x13 x14 x15 x16 x17 x18 x19 x20 x21 x22 x23 x24 x25))) else (κ0 x24 x25 x3 x4 x5 x6 x7 x8 x9 x10 x11 x12 x13 x14 x15 x16 x17 x18 x19 x20 x21 x22 x23))
def e {R : Type} (c1 : bD.F R) (c2 : bm.F R) (a0 : BA) (a1 : Int) (a2 : BA) (a3 : BA) (a4 : BA) (a5 : LA) (a6 : Bool) (a7 : BA) (a8 : Bool) (a9 : BA) (a10 : Bool) (a11 : BA) (a12 : Bool) (a13 : BA) (a14 : LA) (a15 : LA) (a16 : Bool) (a17 : BA) (a18 : Int) (a19 : Int) (a20 : Int) (a21 : Int) (a22 : Int) (j8 : J8 R) (κ0 : Q0 R) (κ1 : Q1 R) : Option R :=
 (c1 a2 a3 a4 a5 a6 a7 a8 a9 a10 a11 a12 a13 a14 a15 a16 a17 a18 a19 a20 a21 a22 (fun r334 r335 r336 r337 r338 r339 r340 r341 r342 r343 r344 r345 r346 r347 r348 r349 r350 r351 r352 r353 r354 r355 => (bif r334 then (bif r343 then (bif (!decide (r344 = (⟨#[55, 98, 105, 116]⟩ : BA))) then (bif (!decide (r344 = (⟨#[56, 98, 105, 116]⟩ : BA))) then (bif (!decide (r344 = (⟨#[98, 105, 110, 97, 114, 121]⟩ : BA))) then (κ0 a0 a1 r335 r336 r337 r338 r339 r340 r341 r342 r343 r344 r345 r346 r347 r348 r349 r350 r351 r352 r353 r354 r355) else (κ1 [AV.agg [AV.int r353, AV.int r354]] a0 a1 r335 r336 r337 r338 r339 r340 r341 r342 r343 r344 r345 r346 r347 r348 r349 r350 r351 r352 r353 r354 r355)) else (κ1 [AV.agg [AV.int r353, AV.int r354]] a0 a1 r335 r336 r337 r338 r339 r340 r341 r342 r343 r344 r345 r346 r347 r348 r349 r350 r351 r352 r353 r354 r355)) else (κ1 [AV.agg [AV.int r353, AV.int r354]] a0 a1 r335 r336 r337 r338 r339 r340 r341 r342 r343 r344 r345 r346 r347 r348 r349 r350 r351 r352 r353 r354 r355)) else (κ1 [AV.agg [AV.int r353, AV.int r354]] a0 a1 r335 r336 r337 r338 r339 r340 r341 r342 r343 r344 r345 r346 r347 r348 r349 r350 r351 r352 r353 r354 r355)) else (bif (!decide (r336 = (⟨#[109, 117, 108, 116, 105, 112, 97, 114, 116]⟩ : BA))) then (κ0 a0 a1 r335 r336 r337 r338 r339 r340 r341 r342 r343 r344 r345 r346 r347 r348 r349 r350 r351 r352 r353 r354 r355) else (j8 r338 (r338.length : Int) 0 r335 r336 r337 r338 r339 r340 r341 r342 r343 r344 r345 r346 r347 r348 r349 r350 r351 r352 r353 r354 r355 a0 a1)))))
def L8 {R : Type} (c1 : bD.F R) (c2 : bm.F R) (κ0 : Q0 R) (κ1 : Q1 R) : Nat -> J8 R
 | 0 => fun _ _ _ _ _ _ _ _ _ _ _ _ _ _ _ _ _ _ _ _ _ _ _ _ _ _ => none
 | f + 1 => t8 c2 (L8 c1 c2 κ0 κ1 f) κ0 κ1
end aB
def aB {R : Type} : aB.F R := fun a0 a1 a2 a3 a4 a5 a6 a7 a8 a9 a10 a11 a12 a13 a14 a15 a16 a17 a18 a19 a20 a21 a22 κ0 κ1 => aB.e bD bm a0 a1 a2 a3 a4 a5 a6 a7 a8 a9 a10 a11 a12 a13 a14 a15 a16 a17 a18 a19 a20 a21 a22 (aB.L8 bD bm κ0 κ1 ag) κ0 κ1
abbrev dM.F (R : Type) : Type := Int -> (BA -> Option R) -> Option R
namespace dM
def e {R : Type} (a0 : Int) (κ0 : BA -> Option R) : Option R :=
 (bif (decide (a0 < (10 : Int))) then (bB ((decide ((0 : Int) <= a0)) && ((decide (a0 <= (IntKind.wrap .i64 (a0 + 1)))) && (decide ((IntKind.wrap .i64 (a0 + 1)) <= ((⟨#[48, 49, 50, 51, 52, 53, 54, 55, 56, 57, 97, 98, 99, 100, 101, 102, 103, 104, 105, 106, 107, 108, 109, 110, 111, 112, 113, 114, 115, 116, 117, 118, 119, 120, 121, 122]⟩ : BA).size : Int))))) (κ0 ((⟨#[48, 49, 50, 51, 52, 53, 54, 55, 56, 57, 97, 98, 99, 100, 101, 102, 103, 104, 105, 106, 107, 108, 109, 110, 111, 112, 113, 114, 115, 116, 117, 118, 119, 120, 121, 122]⟩ : BA).extract (a0).toNat ((IntKind.wrap .i64 (a0 + 1))).toNat))) else (bB ((decide ((0 : Int) <= (IntKind.wrap .i64 (a0 * 2)))) && ((decide ((IntKind.wrap .i64 (a0 * 2)) <= (IntKind.wrap .i64 ((IntKind.wrap .i64 (a0 * 2)) + 2)))) && (decide ((IntKind.wrap .i64 ((IntKind.wrap .i64 (a0 * 2)) + 2)) <= ((⟨#[48, 48, 48, 49, 48, 50, 48, 51, 48, 52, 48, 53, 48, 54, 48, 55, 48, 56, 48, 57, 49, 48, 49, 49, 49, 50, 49, 51, 49, 52, 49, 53, 49, 54, 49, 55, 49, 56, 49, 57, 50, 48, 50, 49, 50, 50, 50, 51, 50, 52, 50, 53, 50, 54, 50, 55, 50, 56, 50, 57, 51, 48, 51, 49, 51, 50, 51, 51, 51, 52, 51, 53, 51, 54, 51, 55, 51, 56, 51, 57, 52, 48, 52, 49, 52, 50, 52, 51, 52, 52, 52, 53, 52, 54, 52, 55, 52, 56, 52, 57, 53, 48, 53, 49, 53, 50, 53, 51, 53, 52, 53, 53, 53, 54, 53, 55, 53, 56, 53, 57, 54, 48, 54, 49, 54, 50, 54, 51, 54, 52, 54, 53, 54, 54, 54, 55, 54, 56, 54, 57, 55, 48, 55, 49, 55, 50, 55, 51, 55, 52, 55, 53, 55, 54, 55, 55, 55, 56, 55, 57, 56, 48, 56, 49, 56, 50, 56, 51, 56, 52, 56, 53, 56, 54, 56, 55, 56, 56, 56, 57, 57, 48, 57, 49, 57, 50, 57, 51, 57, 52, 57, 53, 57, 54, 57, 55, 57, 56, 57, 57]⟩ : BA).size : Int))))) (κ0 ((⟨#[48, 48, 48, 49, 48, 50, 48, 51, 48, 52, 48, 53, 48, 54, 48, 55, 48, 56, 48, 57, 49, 48, 49, 49, 49, 50, 49, 51, 49, 52, 49, 53, 49, 54, 49, 55, 49, 56, 49, 57, 50, 48, 50, 49, 50, 50, 50, 51, 50, 52, 50, 53, 50, 54, 50, 55, 50, 56, 50, 57, 51, 48, 51, 49, 51, 50, 51, 51, 51, 52, 51, 53, 51, 54, 51, 55, 51, 56, 51, 57, 52, 48, 52, 49, 52, 50, 52, 51, 52, 52, 52, 53, 52, 54, 52, 55, 52, 56, 52, 57, 53, 48, 53, 49, 53, 50, 53, 51, 53, 52, 53, 53, 53, 54, 53, 55, 53, 56, 53, 57, 54, 48, 54, 49, 54, 50, 54, 51, 54, 52, 54, 53, 54, 54, 54, 55, 54, 56, 54, 57, 55, 48, 55, 49, 55, 50, 55, 51, 55, 52, 55, 53, 55, 54, 55, 55, 55, 56, 55, 57, 56, 48, 56, 49, 56, 50, 56, 51, 56, 52, 56, 53, 56, 54, 56, 55, 56, 56, 56, 57, 57, 48, 57, 49, 57, 50, 57, 51, 57, 52, 57, 53, 57, 54, 57, 55, 57, 56, 57, 57]⟩ : BA).extract ((IntKind.wrap .i64 (a0 * 2))).toNat ((IntKind.wrap .i64 ((IntKind.wrap .i64 (a0 * 2)) + 2))).toNat))))
end dM
def dM {R : Type} : dM.F R := fun a0 κ0 => dM.e a0 κ0
abbrev cI.F (R : Type) : Type := Int -> Int -> (BA -> Option R) -> Option R
namespace cI
def e {R : Type} (c1 : dM.F R) (a0 : Int) (a1 : Int) (κ0 : BA -> Option R) : Option R :=
 (bif (a1 == 10) then (bif (decide ((0 : Int) <= a0)) then (bif (decide (a0 < (100 : Int))) then (c1 a0 (fun r514 => (κ0 r514))) else (bif (decide (a0 < (0 : Int))) then none else none)) else (bif (decide (a0 < (0 : Int))) then none else none)) else none)
end cI
def cI {R : Type} : cI.F R := fun a0 a1 κ0 => cI.e dM a0 a1 κ0
abbrev ej.F (R : Type) : Type := Int -> (BA -> Option R) -> Option R
namespace ej
def e {R : Type} (c1 : cI.F R) (a0 : Int) (κ0 : BA -> Option R) : Option R :=
 (c1 a0 10 (fun r523 => (κ0 r523)))
end ej
def ej {R : Type} : ej.F R := fun a0 κ0 => ej.e cI a0 κ0
abbrev b9.F (R : Type) : Type := Int -> (BA -> Option R) -> Option R
namespace b9
def e {R : Type} (c1 : ej.F R) (a0 : Int) (κ0 : BA -> Option R) : Option R :=
 (c1 a0 (fun r524 => (κ0 r524)))
end b9
def b9 {R : Type} : b9.F R := fun a0 κ0 => b9.e ej a0 κ0
abbrev aO.F (R : Type) : Type := BA -> (Int -> Option R) -> Option R
namespace aO
abbrev J2 (R : Type) : Type := Int -> BA -> Nat -> Option R
def t2 {R : Type} (j2 : J2 R) (κ0 : Int -> Option R) : J2 R :=
 fun x0 x1 x2 => (bif (decide (x2 < x1.size)) then (j2 (IntKind.wrap .i64 (x0 + 1)) x1 (x2 + (Utf8.decode x1 x2).2)) else (κ0 x0))
def e {R : Type} (a0 : BA) (j2 : J2 R) (κ0 : Int -> Option R) : Option R :=
 (j2 0 a0 0)
def L2 {R : Type} (κ0 : Int -> Option R) : Nat -> J2 R
 | 0 => fun _ _ _ => none
 | f + 1 => t2 (L2 κ0 f) κ0
end aO
def aO {R : Type} : aO.F R := fun a0 κ0 => aO.e a0 (aO.L2 κ0 ag) κ0
abbrev bC.F (R : Type) : Type := BA -> BA -> (Int -> Option R) -> Option R
namespace bC
abbrev J6 (R : Type) : Type := BA -> BA -> Int -> Option R
def t6 {R : Type} (c2 : aP.F R) (j6 : J6 R) (κ0 : Int -> Option R) : J6 R :=
 fun x0 x1 x2 => (c2 x0 x1 (fun r643 => (bif (r643 == (-1)) then (κ0 x2) else (bB ((decide ((0 : Int) <= (IntKind.wrap .i64 (r643 + (x1.size : Int))))) && ((decide ((IntKind.wrap .i64 (r643 + (x1.size : Int))) <= (x0.size : Int))) && (decide ((x0.size : Int) <= (x0.size : Int))))) (j6 (x0.extract ((IntKind.wrap .i64 (r643 + (x1.size : Int)))).toNat ((x0.size : Int)).toNat) x1 (IntKind.wrap .i64 (x2 + 1)))))))
def e {R : Type} (c1 : aO.F R) (c2 : aP.F R) (a0 : BA) (a1 : BA) (j6 : J6 R) (κ0 : Int -> Option R) : Option R :=
 (bif ((a1.size : Int) == 0) then (c1 a0 (fun r642 => (κ0 (IntKind.wrap .i64 (r642 + 1))))) else (bif ((a1.size : Int) == 1) then (bB (decide ((0 : Int) < (a1.size : Int))) none) else (j6 a0 a1 0)))
def L6 {R : Type} (c1 : aO.F R) (c2 : aP.F R) (κ0 : Int -> Option R) : Nat -> J6 R
 | 0 => fun _ _ _ => none
 | f + 1 => t6 c2 (L6 c1 c2 κ0 f) κ0
end bC
def bC {R : Type} : bC.F R := fun a0 a1 κ0 => bC.e aO aP a0 a1 (bC.L6 aO aP κ0 ag) κ0
abbrev aI.Q0 (R : Type) : Type := Bool -> BA -> BA -> BA -> LA -> Bool -> BA -> Bool -> BA -> Bool -> BA -> Bool -> BA -> LA -> LA -> Bool -> BA -> Int -> Int -> Int -> Int -> Int -> LA -> Option R
abbrev aI.F (R : Type) : Type := BA -> BA -> BA -> LA -> Bool -> BA -> Bool -> BA -> Bool -> BA -> Bool -> BA -> LA -> LA -> Bool -> BA -> Int -> Int -> Int -> Int -> Int -> LA -> aI.Q0 R -> Option R
namespace aI
def e {R : Type} (a0 : BA) (a1 : BA) (a2 : BA) (a3 : LA) (a4 : Bool) (a5 : BA) (a6 : Bool) (a7 : BA) (a8 : Bool) (a9 : BA) (a10 : Bool) (a11 : BA) (a12 : LA) (a13 : LA) (a14 : Bool) (a15 : BA) (a16 : Int) (a17 : Int) (a18 : Int) (a19 : Int) (a20 : Int) (a21 : LA) (κ0 : Q0 R) : Option R :=
 (bif (decide (a1 = (⟨#[109, 101, 115, 115, 97, 103, 101]⟩ : BA))) then (κ0 (decide (a2 = (⟨#[114, 102, 99, 56, 50, 50]⟩ : BA))) a0 a1 a2 a3 a4 a5 a6 a7 a8 a9 a10 a11 a12 a13 a14 a15 a16 a17 a18 a19 a20 a21) else (κ0 false a0 a1 a2 a3 a4 a5 a6 a7 a8 a9 a10 a11 a12 a13 a14 a15 a16 a17 a18 a19 a20 a21))
end aI
def aI {R : Type} : aI.F R := fun a0 a1 a2 a3 a4 a5 a6 a7 a8 a9 a10 a11 a12 a13 a14 a15 a16 a17 a18 a19 a20 a21 κ0 => aI.e a0 a1 a2 a3 a4 a5 a6 a7 a8 a9 a10 a11 a12 a13 a14 a15 a16 a17 a18 a19 a20 a21 κ0
abbrev az.Q0 (R : Type) : Type := Bool -> BA -> BA -> BA -> LA -> Bool -> BA -> Bool -> BA -> Bool -> BA -> Bool -> BA -> LA -> LA -> Bool -> BA -> Int -> Int -> Int -> Int -> Int -> LA -> Option R
abbrev az.F (R : Type) : Type := BA -> BA -> BA -> LA -> Bool -> BA -> Bool -> BA -> Bool -> BA -> Bool -> BA -> LA -> LA -> Bool -> BA -> Int -> Int -> Int -> Int -> Int -> LA -> az.Q0 R -> Option R
namespace az
def e {R : Type} (a0 : BA) (a1 : BA) (a2 : BA) (a3 : LA) (a4 : Bool) (a5 : BA) (a6 : Bool) (a7 : BA) (a8 : Bool) (a9 : BA) (a10 : Bool) (a11 : BA) (a12 : LA) (a13 : LA) (a14 : Bool) (a15 : BA) (a16 : Int) (a17 : Int) (a18 : Int) (a19 : Int) (a20 : Int) (a21 : LA) (κ0 : Q0 R) : Option R :=
 (bif (decide (a1 = (⟨#[109, 101, 115, 115, 97, 103, 101]⟩ : BA))) then (κ0 (decide (a2 = (⟨#[114, 102, 99, 56, 50, 50]⟩ : BA))) a0 a1 a2 a3 a4 a5 a6 a7 a8 a9 a10 a11 a12 a13 a14 a15 a16 a17 a18 a19 a20 a21) else (κ0 false a0 a1 a2 a3 a4 a5 a6 a7 a8 a9 a10 a11 a12 a13 a14 a15 a16 a17 a18 a19 a20 a21))
end az
def az {R : Type} : az.F R := fun a0 a1 a2 a3 a4 a5 a6 a7 a8 a9 a10 a11 a12 a13 a14 a15 a16 a17 a18 a19 a20 a21 κ0 => az.e a0 a1 a2 a3 a4 a5 a6 a7 a8 a9 a10 a11 a12 a13 a14 a15 a16 a17 a18 a19 a20 a21 κ0
abbrev bI.Q0 (R : Type) : Type := BA -> BA -> BA -> BA -> LA -> Bool -> BA -> Bool -> BA -> Bool -> BA -> Bool -> BA -> LA -> LA -> Bool -> BA -> Int -> Int -> Int -> Int -> Int -> LA -> Option R
abbrev bI.F (R : Type) : Type := BA -> BA -> BA -> LA -> Bool -> BA -> Bool -> BA -> Bool -> BA -> Bool -> BA -> LA -> LA -> Bool -> BA -> Int -> Int -> Int -> Int -> Int -> LA -> Int -> Bool -> Int -> bI.Q0 R -> Option R
namespace bI
def e {R : Type} (c1 : az.F R) (c2 : b9.F R) (a0 : BA) (a1 : BA) (a2 : BA) (a3 : LA) (a4 : Bool) (a5 : BA) (a6 : Bool) (a7 : BA) (a8 : Bool) (a9 : BA) (a10 : Bool) (a11 : BA) (a12 : LA) (a13 : LA) (a14 : Bool) (a15 : BA) (a16 : Int) (a17 : Int) (a18 : Int) (a19 : Int) (a20 : Int) (a21 : LA) (a22 : Int) (a23 : Bool) (a24 : Int) (κ0 : Q0 R) : Option R :=
 (c1 a0 a1 a2 a3 a4 a5 a6 a7 a8 a9 a10 a11 a12 a13 a14 a15 a16 a17 a18 a19 a20 a21 (fun r1221 r1222 r1223 r1224 r1225 r1226 r1227 r1228 r1229 r1230 r1231 r1232 r1233 r1234 r1235 r1236 r1237 r1238 r1239 r1240 r1241 r1242 r1243 => (bif r1221 then (bif (decide (a22 > (0 : Int))) then (bif (!a23) then (κ0 r1222 r1222 r1223 r1224 r1225 r1226 r1227 r1228 r1229 r1230 r1231 r1232 r1233 r1234 r1235 r1236 r1237 r1238 r1239 r1240 r1241 r1242 r1243) else (bif (decide (r1222 = (⟨#[]⟩ : BA))) then (c2 a24 (fun r1244 => (κ0 r1244 r1222 r1223 r1224 r1225 r1226 r1227 r1228 r1229 r1230 r1231 r1232 r1233 r1234 r1235 r1236 r1237 r1238 r1239 r1240 r1241 r1242 r1243))) else (bB (decide (r1222.size + (⟨#[46]⟩ : BA).size <= 9223372036854775807)) (c2 a24 (fun r1245 => (bB (decide ((r1222 ++ (⟨#[46]⟩ : BA)).size + r1245.size <= 9223372036854775807)) (κ0 ((r1222 ++ (⟨#[46]⟩ : BA)) ++ r1245) r1222 r1223 r1224 r1225 r1226 r1227 r1228 r1229 r1230 r1231 r1232 r1233 r1234 r1235 r1236 r1237 r1238 r1239 r1240 r1241 r1242 r1243))))))) else (bif (decide (r1222 = (⟨#[]⟩ : BA))) then (c2 a24 (fun r1246 => (κ0 r1246 r1222 r1223 r1224 r1225 r1226 r1227 r1228 r1229 r1230 r1231 r1232 r1233 r1234 r1235 r1236 r1237 r1238 r1239 r1240 r1241 r1242 r1243))) else (bB (decide (r1222.size + (⟨#[46]⟩ : BA).size <= 9223372036854775807)) (c2 a24 (fun r1247 => (bB (decide ((r1222 ++ (⟨#[46]⟩ : BA)).size + r1247.size <= 9223372036854775807)) (κ0 ((r1222 ++ (⟨#[46]⟩ : BA)) ++ r1247) r1222 r1223 r1224 r1225 r1226 r1227 r1228 r1229 r1230 r1231 r1232 r1233 r1234 r1235 r1236 r1237 r1238 r1239 r1240 r1241 r1242 r1243))))))) else (bif (decide (r1222 = (⟨#[]⟩ : BA))) then (c2 a24 (fun r1248 => (κ0 r1248 r1222 r1223 r1224 r1225 r1226 r1227 r1228 r1229 r1230 r1231 r1232 r1233 r1234 r1235 r1236 r1237 r1238 r1239 r1240 r1241 r1242 r1243))) else (bB (decide (r1222.size + (⟨#[46]⟩ : BA).size <= 9223372036854775807)) (c2 a24 (fun r1249 => (bB (decide ((r1222 ++ (⟨#[46]⟩ : BA)).size + r1249.size <= 9223372036854775807)) (κ0 ((r1222 ++ (⟨#[46]⟩ : BA)) ++ r1249) r1222 r1223 r1224 r1225 r1226 r1227 r1228 r1229 r1230 r1231 r1232 r1233 r1234 r1235 r1236 r1237 r1238 r1239 r1240 r1241 r1242 r1243)))))))))
end bI
def bI {R : Type} : bI.F R := fun a0 a1 a2 a3 a4 a5 a6 a7 a8 a9 a10 a11 a12 a13 a14 a15 a16 a17 a18 a19 a20 a21 a22 a23 a24 κ0 => bI.e az b9 a0 a1 a2 a3 a4 a5 a6 a7 a8 a9 a10 a11 a12 a13 a14 a15 a16 a17 a18 a19 a20 a21 a22 a23 a24 κ0
abbrev ai.Q0 (R : Type) : Type := BA -> Int -> BA -> BA -> BA -> LA -> Bool -> BA -> Bool -> BA -> Bool -> BA -> Bool -> BA -> LA -> LA -> Bool -> BA -> Int -> Int -> Int -> Int -> Int -> LA -> Option R
abbrev ai.Q1 (R : Type) : Type := BA -> Int -> BA -> BA -> BA -> Bool -> BA -> Bool -> BA -> Bool -> BA -> Bool -> BA -> LA -> LA -> Bool -> BA -> Int -> Int -> Int -> Int -> Int -> LA -> Option R
abbrev ai.F (R : Type) : Type := BA -> Int -> BA -> BA -> BA -> LA -> Bool -> BA -> Bool -> BA -> Bool -> BA -> Bool -> BA -> LA -> LA -> Bool -> BA -> Int -> Int -> Int -> Int -> Int -> Int -> Bool -> ai.Q0 R -> ai.Q1 R -> Option R
namespace ai
abbrev J2 (R : Type) : Type := Int -> Bool -> BA -> BA -> BA -> LA -> Bool -> BA -> Bool -> BA -> Bool -> BA -> Bool -> BA -> LA -> LA -> Bool -> BA -> Int -> Int -> Int -> Int -> Int -> BA -> Int -> LA -> Option R
abbrev J5 (R : Type) : Type := Int -> Bool -> Int -> Int -> BA -> BA -> BA -> LA -> Bool -> BA -> Bool -> BA -> Bool -> BA -> Bool -> BA -> LA -> LA -> Bool -> BA -> Int -> Int -> Int -> Int -> Int -> BA -> Int -> LA -> LA -> Option R
abbrev J8 (R : Type) : Type := Int -> Bool -> Int -> Int -> Int -> BA -> BA -> BA -> LA -> Bool -> BA -> Bool -> BA -> Bool -> BA -> Bool -> BA -> LA -> LA -> Bool -> BA -> Int -> Int -> Int -> Int -> Int -> BA -> Int -> LA -> BA -> BA -> BA -> LA -> Bool -> BA -> Bool -> BA -> Bool -> BA -> Bool -> BA -> LA -> LA -> Bool -> BA -> Int -> Int -> Int -> Int -> Int -> LA -> Option R
abbrev C9 (R : Type) : Type := Int -> Bool -> Int -> Int -> BA -> BA -> BA -> LA -> Bool -> BA -> Bool -> BA -> Bool -> BA -> Bool -> BA -> LA -> LA -> Bool -> BA -> Int -> Int -> Int -> Int -> Int -> BA -> Int -> LA -> LA -> Option R
abbrev qR (R : Type) : Type := BA -> BA -> BA -> LA -> Bool -> BA -> Bool -> BA -> Bool -> BA -> Bool -> BA -> LA -> LA -> Bool -> BA -> Int -> Int -> Int -> Int -> Int -> LA -> BA -> Int -> Option R
def Df := fun x0 x1 x2 x3 x4 x5 x6 x7 x8 x9 x10 x11 x12 x13 x14 x15 x16 x17 x18 x19 x20 x21 x22 x23 x24 x25 x26 x27 x28 => (⟨dZ 156 [(0, .ptr 0 0), (1, .ptr 1 0), (2, .int .i64 x0), (3, .bool x1), (40, .own 2624), (41, .int .i64 x2), (42, .int .i64 x3)], [(1, .var 32 [.str x4, .str x5, .str x6, .ro 129 x7 true, .bool x8, .str x9, .bool x10, .str x11, .bool x12, .str x13, .bool x14, .str x15, .ro 129 x16 true, .ro 9 x17 true, .bool x18, .str x19, .int .i64 x20, .int .i64 x21, .int .i64 x22, .int .i64 x23, .int .i64 x24, .own 149]), (0, .var 94 [.str x25, .int .i64 x26]), (149, .row 32 x27 true), (2624, .row 29 x28 true)], dW⟩ : St)
def t2 {R : Type} (j5 : J5 R) (j15 : qR R) : J2 R :=
 fun x0 x1 x2 x3 x4 x5 x6 x7 x8 x9 x10 x11 x12 x13 x14 x15 x16 x17 x18 x19 x20 x21 x22 x23 x24 x25 => (bif (decide (x0 < (5 : Int))) then (bif (decide ((IntKind.wrap .i64 (x24 + (x25.length : Int))) <= (16 : Int))) then (j5 x0 x1 (x25.length : Int) 0 x2 x3 x4 x5 x6 x7 x8 x9 x10 x11 x12 x13 x14 x15 x16 x17 x18 x19 x20 x21 x22 x23 (IntKind.wrap .i64 (x24 + (x25.length : Int))) ([] : LA) x25) else (j15 x2 x3 x4 x5 x6 x7 x8 x9 x10 x11 x12 x13 x14 x15 x16 x17 x18 x19 x20 x21 x22 ([] : LA) x23 x24)) else (j15 x2 x3 x4 x5 x6 x7 x8 x9 x10 x11 x12 x13 x14 x15 x16 x17 x18 x19 x20 x21 x22 ([] : LA) x23 x24))
def t5 {R : Type} (c2 : aA.F R) (j8 : J8 R) (j15 : qR R) : J5 R :=
 fun x0 x1 x2 x3 x4 x5 x6 x7 x8 x9 x10 x11 x12 x13 x14 x15 x16 x17 x18 x19 x20 x21 x22 x23 x24 x25 x26 x27 x28 => (bif (decide (x3 < x2)) then (bB ((decide ((0 : Int) <= x3)) && (decide (x3 < (x28.length : Int)))) (bif (decide (x5 = (⟨#[109, 117, 108, 116, 105, 112, 97, 114, 116]⟩ : BA))) then (c2 x25 x26 ((bK x28 x3).fld 0).i ((bK x28 x3).fld 1).i (decide (x6 = (⟨#[100, 105, 103, 101, 115, 116]⟩ : BA))) (fun r2710 r2711 r2712 r2713 r2714 r2715 r2716 r2717 r2718 r2719 r2720 r2721 r2722 r2723 r2724 r2725 r2726 r2727 r2728 r2729 r2730 r2731 r2732 => (j8 x0 x1 x3 x2 x3 x4 x5 x6 x7 x8 x9 x10 x11 x12 x13 x14 x15 x16 x17 x18 x19 x20 x21 x22 x23 x24 r2731 r2732 x27 r2710 r2711 r2712 r2713 r2714 r2715 r2716 r2717 r2718 r2719 r2720 r2721 r2722 r2723 r2724 r2725 r2726 r2727 r2728 r2729 r2730 x28))) else (c2 x25 x26 ((bK x28 x3).fld 0).i ((bK x28 x3).fld 1).i false (fun r2733 r2734 r2735 r2736 r2737 r2738 r2739 r2740 r2741 r2742 r2743 r2744 r2745 r2746 r2747 r2748 r2749 r2750 r2751 r2752 r2753 r2754 r2755 => (j8 x0 x1 x3 x2 x3 x4 x5 x6 x7 x8 x9 x10 x11 x12 x13 x14 x15 x16 x17 x18 x19 x20 x21 x22 x23 x24 r2754 r2755 x27 r2733 r2734 r2735 r2736 r2737 r2738 r2739 r2740 r2741 r2742 r2743 r2744 r2745 r2746 r2747 r2748 r2749 r2750 r2751 r2752 r2753 x28))))) else (j15 x4 x5 x6 x7 x8 x9 x10 x11 x12 x13 x14 x15 x16 x17 x18 x19 x20 x21 x22 x23 x24 x27 x25 x26))
def t8 {R : Type} (c5 : bI.F R) (c6 : az.F R) (c7 : ai.F R) (j14 : C9 R) : J8 R :=
 fun x0 x1 x2 x3 x4 x5 x6 x7 x8 x9 x10 x11 x12 x13 x14 x15 x16 x17 x18 x19 x20 x21 x22 x23 x24 x25 x26 x27 x28 x29 x30 x31 x32 x33 x34 x35 x36 x37 x38 x39 x40 x41 x42 x43 x44 x45 x46 x47 x48 x49 x50 => (c5 x5 x6 x7 x8 x9 x10 x11 x12 x13 x14 x15 x16 x17 x18 x19 x20 x21 x22 x23 x24 x25 x28 x0 x1 (IntKind.wrap .i64 (x2 + 1)) (fun r2803 r2804 r2805 r2806 r2807 r2808 r2809 r2810 r2811 r2812 r2813 r2814 r2815 r2816 r2817 r2818 r2819 r2820 r2821 r2822 r2823 r2824 r2825 => (c6 r2804 r2805 r2806 r2807 r2808 r2809 r2810 r2811 r2812 r2813 r2814 r2815 r2816 r2817 r2818 r2819 r2820 r2821 r2822 r2823 r2824 r2825 (fun r2826 r2827 r2828 r2829 r2830 r2831 r2832 r2833 r2834 r2835 r2836 r2837 r2838 r2839 r2840 r2841 r2842 r2843 r2844 r2845 r2846 r2847 r2848 => (c7 x26 x27 r2803 x30 x31 x32 x33 x34 x35 x36 x37 x38 x39 x40 x41 x42 x43 x44 x45 x46 x47 x48 x49 (IntKind.wrap .i64 (x0 + 1)) r2826 (fun r2849 r2850 r2851 r2852 r2853 r2854 r2855 r2856 r2857 r2858 r2859 r2860 r2861 r2862 r2863 r2864 r2865 r2866 r2867 r2868 r2869 r2870 r2871 r2872 => (bB (decide ((r2848.length + 1) * 304 <= 140737488355328)) (bB (decide ((r2848.length + 1) * 304 <= 140737488355328)) (bB ((decide ((0 : Int) <= (r2848.length : Int))) && (decide ((r2848.length : Int) < ((r2848 ++ [AV.agg [AV.str (⟨#[]⟩ : BA), AV.str (⟨#[]⟩ : BA), AV.str (⟨#[]⟩ : BA), AV.sl [], AV.bool false, AV.str (⟨#[]⟩ : BA), AV.bool false, AV.str (⟨#[]⟩ : BA), AV.bool false, AV.str (⟨#[]⟩ : BA), AV.bool false, AV.str (⟨#[]⟩ : BA), AV.sl [], AV.sl [], AV.bool false, AV.str (⟨#[]⟩ : BA), AV.int 0, AV.int 0, AV.int 0, AV.int 0, AV.int 0, AV.sl []]]).length : Int)))) (bB (zc (Df x0 x1 x3 x4 r2827 r2828 r2829 r2830 r2831 r2832 r2833 r2834 r2835 r2836 r2837 r2838 r2839 r2840 r2841 r2842 r2843 r2844 r2845 r2846 r2847 r2849 r2850 (r2848 ++ [AV.agg [AV.str r2851, AV.str r2852, AV.str r2853, AV.sl r2854, AV.bool r2855, AV.str r2856, AV.bool r2857, AV.str r2858, AV.bool r2859, AV.str r2860, AV.bool r2861, AV.str r2862, AV.sl r2863, AV.sl r2864, AV.bool r2865, AV.str r2866, AV.int r2867, AV.int r2868, AV.int r2869, AV.int r2870, AV.int r2871, AV.sl r2872]]) x50) (Df x0 x1 x3 x4 r2827 r2828 r2829 r2830 r2831 r2832 r2833 r2834 r2835 r2836 r2837 r2838 r2839 r2840 r2841 r2842 r2843 r2844 r2845 r2846 r2847 r2849 r2850 (dR (r2848 ++ [AV.agg [AV.str (⟨#[]⟩ : BA), AV.str (⟨#[]⟩ : BA), AV.str (⟨#[]⟩ : BA), AV.sl [], AV.bool false, AV.str (⟨#[]⟩ : BA), AV.bool false, AV.str (⟨#[]⟩ : BA), AV.bool false, AV.str (⟨#[]⟩ : BA), AV.bool false, AV.str (⟨#[]⟩ : BA), AV.sl [], AV.sl [], AV.bool false, AV.str (⟨#[]⟩ : BA), AV.int 0, AV.int 0, AV.int 0, AV.int 0, AV.int 0, AV.sl []]]) (r2848.length : Int) (AV.agg [AV.str r2851, AV.str r2852, AV.str r2853, AV.sl r2854, AV.bool r2855, AV.str r2856, AV.bool r2857, AV.str r2858, AV.bool r2859, AV.str r2860, AV.bool r2861, AV.str r2862, AV.sl r2863, AV.sl r2864, AV.bool r2865, AV.str r2866, AV.int r2867, AV.int r2868, AV.int r2869, AV.int r2870, AV.int r2871, AV.sl r2872])) x50)) (j14 x0 x1 x3 x4 r2827 r2828 r2829 r2830 r2831 r2832 r2833 r2834 r2835 r2836 r2837 r2838 r2839 r2840 r2841 r2842 r2843 r2844 r2845 r2846 r2847 r2849 r2850 (dR (r2848 ++ [AV.agg [AV.str (⟨#[]⟩ : BA), AV.str (⟨#[]⟩ : BA), AV.str (⟨#[]⟩ : BA), AV.sl [], AV.bool false, AV.str (⟨#[]⟩ : BA), AV.bool false, AV.str (⟨#[]⟩ : BA), AV.bool false, AV.str (⟨#[]⟩ : BA), AV.bool false, AV.str (⟨#[]⟩ : BA), AV.sl [], AV.sl [], AV.bool false, AV.str (⟨#[]⟩ : BA), AV.int 0, AV.int 0, AV.int 0, AV.int 0, AV.int 0, AV.sl []]]) (r2848.length : Int) (AV.agg [AV.str r2851, AV.str r2852, AV.str r2853, AV.sl r2854, AV.bool r2855, AV.str r2856, AV.bool r2857, AV.str r2858, AV.bool r2859, AV.str r2860, AV.bool r2861, AV.str r2862, AV.sl r2863, AV.sl r2864, AV.bool r2865, AV.str r2866, AV.int r2867, AV.int r2868, AV.int r2869, AV.int r2870, AV.int r2871, AV.sl r2872])) x50)))))) (fun r2873 r2874 r2875 r2876 r2877 r2878 r2879 r2880 r2881 r2882 r2883 r2884 r2885 r2886 r2887 r2888 r2889 r2890 r2891 r2892 r2893 r2894 r2895 => (bB (decide ((r2848.length + 1) * 304 <= 140737488355328)) (bB (decide ((r2848.length + 1) * 304 <= 140737488355328)) (bB ((decide ((0 : Int) <= (r2848.length : Int))) && (decide ((r2848.length : Int) < ((r2848 ++ [AV.agg [AV.str (⟨#[]⟩ : BA), AV.str (⟨#[]⟩ : BA), AV.str (⟨#[]⟩ : BA), AV.sl [], AV.bool false, AV.str (⟨#[]⟩ : BA), AV.bool false, AV.str (⟨#[]⟩ : BA), AV.bool false, AV.str (⟨#[]⟩ : BA), AV.bool false, AV.str (⟨#[]⟩ : BA), AV.sl [], AV.sl [], AV.bool false, AV.str (⟨#[]⟩ : BA), AV.int 0, AV.int 0, AV.int 0, AV.int 0, AV.int 0, AV.sl []]]).length : Int)))) (bB (zc (Df x0 x1 x3 x4 r2827 r2828 r2829 r2830 r2831 r2832 r2833 r2834 r2835 r2836 r2837 r2838 r2839 r2840 r2841 r2842 r2843 r2844 r2845 r2846 r2847 r2873 r2874 (r2848 ++ [AV.agg [AV.str r2875, AV.str r2876, AV.str r2877, AV.sl [], AV.bool r2878, AV.str r2879, AV.bool r2880, AV.str r2881, AV.bool r2882, AV.str r2883, AV.bool r2884, AV.str r2885, AV.sl r2886, AV.sl r2887, AV.bool r2888, AV.str r2889, AV.int r2890, AV.int r2891, AV.int r2892, AV.int r2893, AV.int r2894, AV.sl r2895]]) x50) (Df x0 x1 x3 x4 r2827 r2828 r2829 r2830 r2831 r2832 r2833 r2834 r2835 r2836 r2837 r2838 r2839 r2840 r2841 r2842 r2843 r2844 r2845 r2846 r2847 r2873 r2874 (dR (r2848 ++ [AV.agg [AV.str (⟨#[]⟩ : BA), AV.str (⟨#[]⟩ : BA), AV.str (⟨#[]⟩ : BA), AV.sl [], AV.bool false, AV.str (⟨#[]⟩ : BA), AV.bool false, AV.str (⟨#[]⟩ : BA), AV.bool false, AV.str (⟨#[]⟩ : BA), AV.bool false, AV.str (⟨#[]⟩ : BA), AV.sl [], AV.sl [], AV.bool false, AV.str (⟨#[]⟩ : BA), AV.int 0, AV.int 0, AV.int 0, AV.int 0, AV.int 0, AV.sl []]]) (r2848.length : Int) (AV.agg [AV.str r2875, AV.str r2876, AV.str r2877, AV.sl [], AV.bool r2878, AV.str r2879, AV.bool r2880, AV.str r2881, AV.bool r2882, AV.str r2883, AV.bool r2884, AV.str r2885, AV.sl r2886, AV.sl r2887, AV.bool r2888, AV.str r2889, AV.int r2890, AV.int r2891, AV.int r2892, AV.int r2893, AV.int r2894, AV.sl r2895])) x50)) (j14 x0 x1 x3 x4 r2827 r2828 r2829 r2830 r2831 r2832 r2833 r2834 r2835 r2836 r2837 r2838 r2839 r2840 r2841 r2842 r2843 r2844 r2845 r2846 r2847 r2873 r2874 (dR (r2848 ++ [AV.agg [AV.str (⟨#[]⟩ : BA), AV.str (⟨#[]⟩ : BA), AV.str (⟨#[]⟩ : BA), AV.sl [], AV.bool false, AV.str (⟨#[]⟩ : BA), AV.bool false, AV.str (⟨#[]⟩ : BA), AV.bool false, AV.str (⟨#[]⟩ : BA), AV.bool false, AV.str (⟨#[]⟩ : BA), AV.sl [], AV.sl [], AV.bool false, AV.str (⟨#[]⟩ : BA), AV.int 0, AV.int 0, AV.int 0, AV.int 0, AV.int 0, AV.sl []]]) (r2848.length : Int) (AV.agg [AV.str r2875, AV.str r2876, AV.str r2877, AV.sl [], AV.bool r2878, AV.str r2879, AV.bool r2880, AV.str r2881, AV.bool r2882, AV.str r2883, AV.bool r2884, AV.str r2885, AV.sl r2886, AV.sl r2887, AV.bool r2888, AV.str r2889, AV.int r2890, AV.int r2891, AV.int r2892, AV.int r2893, AV.int r2894, AV.sl r2895])) x50)))))))))))
def t14 {R : Type} (j5 : J5 R) : C9 R :=
 fun x0 x1 x2 x3 x4 x5 x6 x7 x8 x9 x10 x11 x12 x13 x14 x15 x16 x17 x18 x19 x20 x21 x22 x23 x24 x25 x26 x27 x28 => (j5 x0 x1 x2 (IntKind.wrap .i64 (x3 + 1)) x4 x5 x6 x7 x8 x9 x10 x11 x12 x13 x14 x15 x16 x17 x18 x19 x20 x21 x22 x23 x24 x25 x26 x27 x28)
def t15 {R : Type} (c3 : bC.F R) (c4 : aI.F R) (κ0 : Q0 R) (κ1 : Q1 R) : qR R :=
 fun x0 x1 x2 x3 x4 x5 x6 x7 x8 x9 x10 x11 x12 x13 x14 x15 x16 x17 x18 x19 x20 x21 x22 x23 => (bB ((decide ((0 : Int) <= x18)) && ((decide (x18 <= x19)) && (decide (x19 <= (x22.size : Int))))) (c3 (x22.extract (x18).toNat (x19).toNat) (⟨#[13, 10]⟩ : BA) (fun r2756 => (bif (decide ((x21.length : Int) > (0 : Int))) then (c4 x0 x1 x2 x3 x4 x5 x6 x7 x8 x9 x10 x11 x12 x13 x14 x15 x16 x17 x18 x19 x20 x21 (fun r2757 r2758 r2759 r2760 r2761 r2762 r2763 r2764 r2765 r2766 r2767 r2768 r2769 r2770 r2771 r2772 r2773 r2774 r2775 r2776 r2777 r2778 r2779 => (bif r2757 then (κ0 x22 x23 r2758 r2759 r2760 r2761 r2762 r2763 r2764 r2765 r2766 r2767 r2768 r2769 r2770 r2771 r2772 r2773 r2774 r2775 r2776 r2777 r2756 r2779) else (κ0 x22 x23 r2758 r2759 r2760 r2761 r2762 r2763 r2764 r2765 r2766 r2767 r2768 r2769 r2770 r2771 r2772 r2773 r2774 r2775 r2776 r2777 r2778 r2779)))) else (bif (decide (x1 = (⟨#[116, 101, 120, 116]⟩ : BA))) then (κ0 x22 x23 x0 x1 x2 x3 x4 x5 x6 x7 x8 x9 x10 x11 x12 x13 x14 x15 x16 x17 x18 x19 r2756 x21) else (c4 x0 x1 x2 x3 x4 x5 x6 x7 x8 x9 x10 x11 x12 x13 x14 x15 x16 x17 x18 x19 x20 x21 (fun r2780 r2781 r2782 r2783 r2784 r2785 r2786 r2787 r2788 r2789 r2790 r2791 r2792 r2793 r2794 r2795 r2796 r2797 r2798 r2799 r2800 r2801 r2802 => (bif r2780 then (κ1 x22 x23 r2781 (⟨#[97, 112, 112, 108, 105, 99, 97, 116, 105, 111, 110]⟩ : BA) (⟨#[111, 99, 116, 101, 116, 45, 115, 116, 114, 101, 97, 109]⟩ : BA) r2785 r2786 r2787 r2788 r2789 r2790 r2791 r2792 r2793 r2794 r2795 r2796 r2797 r2798 r2799 r2800 r2801 r2802) else (bif (decide (r2782 = (⟨#[109, 117, 108, 116, 105, 112, 97, 114, 116]⟩ : BA))) then (κ1 x22 x23 r2781 (⟨#[97, 112, 112, 108, 105, 99, 97, 116, 105, 111, 110]⟩ : BA) (⟨#[111, 99, 116, 101, 116, 45, 115, 116, 114, 101, 97, 109]⟩ : BA) r2785 r2786 r2787 r2788 r2789 r2790 r2791 r2792 r2793 r2794 r2795 r2796 r2797 r2798 r2799 r2800 r2801 r2802) else (κ0 x22 x23 r2781 r2782 r2783 r2784 r2785 r2786 r2787 r2788 r2789 r2790 r2791 r2792 r2793 r2794 r2795 r2796 r2797 r2798 r2799 r2800 r2801 r2802))))))))))
def e {R : Type} (c1 : aB.F R) (c2 : aA.F R) (c3 : bC.F R) (c4 : aI.F R) (c5 : bI.F R) (c6 : az.F R) (c7 : ai.F R) (a0 : BA) (a1 : Int) (a2 : BA) (a3 : BA) (a4 : BA) (a5 : LA) (a6 : Bool) (a7 : BA) (a8 : Bool) (a9 : BA) (a10 : Bool) (a11 : BA) (a12 : Bool) (a13 : BA) (a14 : LA) (a15 : LA) (a16 : Bool) (a17 : BA) (a18 : Int) (a19 : Int) (a20 : Int) (a21 : Int) (a22 : Int) (a23 : Int) (a24 : Bool) (j2 : J2 R) (j5 : J5 R) (j8 : J8 R) (j14 : C9 R) (j15 : qR R) (κ0 : Q0 R) (κ1 : Q1 R) : Option R :=
 (c1 a0 a1 a2 a3 a4 a5 a6 a7 a8 a9 a10 a11 a12 a13 a14 a15 a16 a17 a18 a19 a20 a21 a22 (fun r2663 r2664 r2665 r2666 r2667 r2668 r2669 r2670 r2671 r2672 r2673 r2674 r2675 r2676 r2677 r2678 r2679 r2680 r2681 r2682 r2683 r2684 r2685 => (j2 a23 a24 r2665 r2666 r2667 r2668 r2669 r2670 r2671 r2672 r2673 r2674 r2675 r2676 r2677 r2678 r2679 r2680 r2681 r2682 r2683 r2684 r2685 r2663 r2664 ([] : LA))) (fun r2686 r2687 r2688 r2689 r2690 r2691 r2692 r2693 r2694 r2695 r2696 r2697 r2698 r2699 r2700 r2701 r2702 r2703 r2704 r2705 r2706 r2707 r2708 r2709 => (j2 a23 a24 r2689 r2690 r2691 r2692 r2693 r2694 r2695 r2696 r2697 r2698 r2699 r2700 r2701 r2702 r2703 r2704 r2705 r2706 r2707 r2708 r2709 r2687 r2688 r2686)))
def mZ {R : Type} (c1 : aB.F R) (c2 : aA.F R) (c3 : bC.F R) (c4 : aI.F R) (c5 : bI.F R) (c6 : az.F R) (c7 : ai.F R) (κ0 : Q0 R) (κ1 : Q1 R) : Nat -> qR R
 | 0 => fun _ _ _ _ _ _ _ _ _ _ _ _ _ _ _ _ _ _ _ _ _ _ _ _ => none
 | f + 1 => t15 c3 c4 κ0 κ1
def M5 {R : Type} (c1 : aB.F R) (c2 : aA.F R) (c3 : bC.F R) (c4 : aI.F R) (c5 : bI.F R) (c6 : az.F R) (c7 : ai.F R) (κ0 : Q0 R) (κ1 : Q1 R) : Nat -> (J5 R) × (J8 R) × (C9 R)
 | 0 => (fun _ _ _ _ _ _ _ _ _ _ _ _ _ _ _ _ _ _ _ _ _ _ _ _ _ _ _ _ _ => none, fun _ _ _ _ _ _ _ _ _ _ _ _ _ _ _ _ _ _ _ _ _ _ _ _ _ _ _ _ _ _ _ _ _ _ _ _ _ _ _ _ _ _ _ _ _ _ _ _ _ _ _ => none, fun _ _ _ _ _ _ _ _ _ _ _ _ _ _ _ _ _ _ _ _ _ _ _ _ _ _ _ _ _ => none)
 | f + 1 => (t5 c2 ((M5 c1 c2 c3 c4 c5 c6 c7 κ0 κ1 f).2.1) (mZ c1 c2 c3 c4 c5 c6 c7 κ0 κ1 f),
  t8 c5 c6 c7 ((M5 c1 c2 c3 c4 c5 c6 c7 κ0 κ1 f).2.2),
  t14 ((M5 c1 c2 c3 c4 c5 c6 c7 κ0 κ1 f).1))
def L5 {R : Type} (c1 : aB.F R) (c2 : aA.F R) (c3 : bC.F R) (c4 : aI.F R) (c5 : bI.F R) (c6 : az.F R) (c7 : ai.F R) (κ0 : Q0 R) (κ1 : Q1 R) (f : Nat) : J5 R := (M5 c1 c2 c3 c4 c5 c6 c7 κ0 κ1 f).1
def L8 {R : Type} (c1 : aB.F R) (c2 : aA.F R) (c3 : bC.F R) (c4 : aI.F R) (c5 : bI.F R) (c6 : az.F R) (c7 : ai.F R) (κ0 : Q0 R) (κ1 : Q1 R) (f : Nat) : J8 R := (M5 c1 c2 c3 c4 c5 c6 c7 κ0 κ1 f).2.1
def DQ {R : Type} (c1 : aB.F R) (c2 : aA.F R) (c3 : bC.F R) (c4 : aI.F R) (c5 : bI.F R) (c6 : az.F R) (c7 : ai.F R) (κ0 : Q0 R) (κ1 : Q1 R) (f : Nat) : C9 R := (M5 c1 c2 c3 c4 c5 c6 c7 κ0 κ1 f).2.2
def L2 {R : Type} (c1 : aB.F R) (c2 : aA.F R) (c3 : bC.F R) (c4 : aI.F R) (c5 : bI.F R) (c6 : az.F R) (c7 : ai.F R) (κ0 : Q0 R) (κ1 : Q1 R) : Nat -> J2 R
 | 0 => fun _ _ _ _ _ _ _ _ _ _ _ _ _ _ _ _ _ _ _ _ _ _ _ _ _ _ => none
 | f + 1 => t2 (L5 c1 c2 c3 c4 c5 c6 c7 κ0 κ1 f) (mZ c1 c2 c3 c4 c5 c6 c7 κ0 κ1 f)
def B {R : Type} (c1 : aB.F R) (c2 : aA.F R) (c3 : bC.F R) (c4 : aI.F R) (c5 : bI.F R) (c6 : az.F R) (c7 : ai.F R) : F R := fun a0 a1 a2 a3 a4 a5 a6 a7 a8 a9 a10 a11 a12 a13 a14 a15 a16 a17 a18 a19 a20 a21 a22 a23 a24 κ0 κ1 => e c1 c2 c3 c4 c5 c6 c7 a0 a1 a2 a3 a4 a5 a6 a7 a8 a9 a10 a11 a12 a13 a14 a15 a16 a17 a18 a19 a20 a21 a22 a23 a24 (L2 c1 c2 c3 c4 c5 c6 c7 κ0 κ1 ag) (L5 c1 c2 c3 c4 c5 c6 c7 κ0 κ1 ag) (L8 c1 c2 c3 c4 c5 c6 c7 κ0 κ1 ag) (DQ c1 c2 c3 c4 c5 c6 c7 κ0 κ1 ag) (mZ c1 c2 c3 c4 c5 c6 c7 κ0 κ1 ag) κ0 κ1
def R {R : Type} : Nat -> F R
 | 0 => fun _ _ _ _ _ _ _ _ _ _ _ _ _ _ _ _ _ _ _ _ _ _ _ _ _ _ _ => none
 | n + 1 => B aB aA bC aI bI az (ai.R n)
end ai
def ai {R : Type} : ai.F R := ai.R ag
abbrev ch.Q0 (R : Type) : Type := BA -> BA -> BA -> LA -> Bool -> BA -> Bool -> BA -> Bool -> BA -> Bool -> BA -> LA -> LA -> Bool -> BA -> Int -> Int -> Int -> Int -> Int -> LA -> Option R
abbrev ch.F (R : Type) : Type := BA -> ch.Q0 R -> Option R
namespace ch
abbrev J4 (R : Type) : Type := BA -> BA -> BA -> Bool -> BA -> Bool -> BA -> Bool -> BA -> Bool -> BA -> Bool -> BA -> Int -> Int -> Int -> Int -> Int -> BA -> BA -> BA -> LA -> Bool -> BA -> Bool -> BA -> Bool -> BA -> Bool -> BA -> LA -> LA -> Bool -> BA -> Int -> Int -> Int -> Int -> Int -> LA -> Option R
def t4 {R : Type} (κ0 : Q0 R) : J4 R :=
 fun x0 x1 x2 x3 x4 x5 x6 x7 x8 x9 x10 x11 x12 x13 x14 x15 x16 x17 x18 x19 x20 x21 x22 x23 x24 x25 x26 x27 x28 x29 x30 x31 x32 x33 x34 x35 x36 x37 x38 x39 => (κ0 x18 x19 x20 x21 x22 x23 x24 x25 x26 x27 x28 x29 x30 x31 x32 x33 x34 x35 x36 x37 x38 x39)
def e {R : Type} (c1 : aA.F R) (c2 : ai.F R) (a0 : BA) (j4 : J4 R) (κ0 : Q0 R) : Option R :=
 (c1 a0 0 0 (a0.size : Int) false (fun r311 r312 r313 r314 r315 r316 r317 r318 r319 r320 r321 r322 r323 r324 r325 r326 r327 r328 r329 r330 r331 r332 r333 => (c2 r332 r333 r311 r312 r313 r314 r315 r316 r317 r318 r319 r320 r321 r322 r323 r324 r325 r326 r327 r328 r329 r330 r331 0 false (fun r2896 r2897 r2898 r2899 r2900 r2901 r2902 r2903 r2904 r2905 r2906 r2907 r2908 r2909 r2910 r2911 r2912 r2913 r2914 r2915 r2916 r2917 r2918 r2919 => (j4 (⟨#[]⟩ : BA) (⟨#[]⟩ : BA) (⟨#[]⟩ : BA) false (⟨#[]⟩ : BA) false (⟨#[]⟩ : BA) false (⟨#[]⟩ : BA) false (⟨#[]⟩ : BA) false (⟨#[]⟩ : BA) 0 0 0 0 0 r2898 r2899 r2900 r2901 r2902 r2903 r2904 r2905 r2906 r2907 r2908 r2909 r2910 r2911 r2912 r2913 r2914 r2915 r2916 r2917 r2918 r2919)) (fun r2920 r2921 r2922 r2923 r2924 r2925 r2926 r2927 r2928 r2929 r2930 r2931 r2932 r2933 r2934 r2935 r2936 r2937 r2938 r2939 r2940 r2941 r2942 => (j4 (⟨#[]⟩ : BA) (⟨#[]⟩ : BA) (⟨#[]⟩ : BA) false (⟨#[]⟩ : BA) false (⟨#[]⟩ : BA) false (⟨#[]⟩ : BA) false (⟨#[]⟩ : BA) false (⟨#[]⟩ : BA) 0 0 0 0 0 r2922 r2923 r2924 ([] : LA) r2925 r2926 r2927 r2928 r2929 r2930 r2931 r2932 r2933 r2934 r2935 r2936 r2937 r2938 r2939 r2940 r2941 r2942)))))
def L4 {R : Type} (c1 : aA.F R) (c2 : ai.F R) (κ0 : Q0 R) : Nat -> J4 R
 | 0 => fun _ _ _ _ _ _ _ _ _ _ _ _ _ _ _ _ _ _ _ _ _ _ _ _ _ _ _ _ _ _ _ _ _ _ _ _ _ _ _ _ => none
 | f + 1 => t4 κ0
end ch
def ch {R : Type} : ch.F R := fun a0 κ0 => ch.e aA ai a0 (ch.L4 aA ai κ0 ag) κ0
abbrev dk.F (R : Type) : Type := BA -> Int -> Int -> (BA -> Option R) -> Option R
namespace dk
def e {R : Type} (a0 : BA) (a1 : Int) (a2 : Int) (κ0 : BA -> Option R) : Option R :=
 (bif (decide (a1 < (0 : Int))) then (κ0 (⟨#[]⟩ : BA)) else (bif (decide (a2 < (0 : Int))) then (κ0 (⟨#[]⟩ : BA)) else (bif (decide (a1 > (a0.size : Int))) then (κ0 (⟨#[]⟩ : BA)) else (bB ((decide ((0 : Int) <= a1)) && ((decide (a1 <= (IntKind.wrap .i64 (a1 + (min2 a2 (IntKind.wrap .i64 ((a0.size : Int) - a1))))))) && (decide ((IntKind.wrap .i64 (a1 + (min2 a2 (IntKind.wrap .i64 ((a0.size : Int) - a1))))) <= (a0.size : Int))))) (κ0 (a0.extract (a1).toNat ((IntKind.wrap .i64 (a1 + (min2 a2 (IntKind.wrap .i64 ((a0.size : Int) - a1)))))).toNat))))))
end dk
def dk {R : Type} : dk.F R := fun a0 a1 a2 κ0 => dk.e a0 a1 a2 κ0
abbrev dL.F (R : Type) : Type := (Bool -> Option R) -> Option R
namespace dL
def e {R : Type} (c1 : ch.F R) (c2 : dk.F R) (κ0 : Bool -> Option R) : Option R :=
 (c1 (⟨#[67, 111, 110, 116, 101, 110, 116, 45, 84, 121, 112, 101, 58, 32, 109, 117, 108, 116, 105, 112, 97, 114, 116, 47, 109, 105, 120, 101, 100, 59, 32, 98, 111, 117, 110, 100, 97, 114, 121, 61, 98, 13, 10, 13, 10, 45, 45, 98, 13, 10, 13, 10, 111, 110, 101, 13, 10, 45, 45, 98, 45, 45, 13, 10]⟩ : BA) (fun r2943 r2944 r2945 r2946 r2947 r2948 r2949 r2950 r2951 r2952 r2953 r2954 r2955 r2956 r2957 r2958 r2959 r2960 r2961 r2962 r2963 r2964 => (bif (decide (r2944 = (⟨#[109, 117, 108, 116, 105, 112, 97, 114, 116]⟩ : BA))) then (bif ((r2964.length : Int) == 1) then (bB (decide ((0 : Int) < (r2964.length : Int))) (bif (decide (((bK r2964 0).fld 0).s = (⟨#[49]⟩ : BA))) then (bB (decide ((0 : Int) < (r2964.length : Int))) (bif (decide (((bK r2964 0).fld 1).s = (⟨#[116, 101, 120, 116]⟩ : BA))) then (bB (decide ((0 : Int) < (r2964.length : Int))) (bif ((((bK r2964 0).fld 18).i == 52) && ((((bK r2964 0).fld 19).i == 55) && true)) then (c2 (⟨#[104, 101, 108, 108, 111]⟩ : BA) 1 3 (fun r2965 => (κ0 (decide (r2965 = (⟨#[101, 108, 108]⟩ : BA)))))) else (κ0 false))) else (κ0 false))) else (κ0 false))) else (κ0 false)) else (κ0 false))))
end dL
def dL {R : Type} : dL.F R := fun κ0 => dL.e ch dk κ0
abbrev bp.F (R : Type) : Type := BA -> (LA -> Option R) -> Option R
namespace bp
abbrev J4 (R : Type) : Type := BA -> Int -> Int -> LA -> Option R
def t4 {R : Type} (j4 : J4 R) (κ0 : LA -> Option R) : J4 R :=
 fun x0 x1 x2 x3 => (bif (decide ((IntKind.wrap .i64 (x2 + 1)) < (x0.size : Int))) then (bB ((decide ((0 : Int) <= x2)) && (decide (x2 < (x0.size : Int)))) (bif ((dJ x0 x2) == 13) then (bB ((decide ((0 : Int) <= (IntKind.wrap .i64 (x2 + 1)))) && (decide ((IntKind.wrap .i64 (x2 + 1)) < (x0.size : Int)))) (bif ((dJ x0 (IntKind.wrap .i64 (x2 + 1))) == 10) then (bB ((decide ((0 : Int) <= x1)) && ((decide (x1 <= (IntKind.wrap .i64 (x2 + 2)))) && (decide ((IntKind.wrap .i64 (x2 + 2)) <= (x0.size : Int))))) (bB (decide ((x3.length + 1) * 16 <= 140737488355328)) (j4 x0 (IntKind.wrap .i64 (x2 + 2)) (IntKind.wrap .i64 ((IntKind.wrap .i64 (x2 + 1)) + 1)) (x3 ++ [AV.str (x0.extract (x1).toNat ((IntKind.wrap .i64 (x2 + 2))).toNat)])))) else (j4 x0 x1 (IntKind.wrap .i64 (x2 + 1)) x3))) else (j4 x0 x1 (IntKind.wrap .i64 (x2 + 1)) x3))) else (bif (decide (x1 < (x0.size : Int))) then (bB ((decide ((0 : Int) <= x1)) && ((decide (x1 <= (x0.size : Int))) && (decide ((x0.size : Int) <= (x0.size : Int))))) (bB (decide ((x3.length + 1) * 16 <= 140737488355328)) (κ0 (x3 ++ [AV.str (x0.extract (x1).toNat ((x0.size : Int)).toNat)])))) else (κ0 x3)))
def e {R : Type} (a0 : BA) (j4 : J4 R) (κ0 : LA -> Option R) : Option R :=
 (j4 a0 0 0 ([] : LA))
def L4 {R : Type} (κ0 : LA -> Option R) : Nat -> J4 R
 | 0 => fun _ _ _ _ => none
 | f + 1 => t4 (L4 κ0 f) κ0
end bp
def bp {R : Type} : bp.F R := fun a0 κ0 => bp.e a0 (bp.L4 κ0 ag) κ0
abbrev cf.F (R : Type) : Type := BA -> (BA -> BA -> Option R) -> Option R
namespace cf
abbrev J4 (R : Type) : Type := BA -> Int -> Int -> LA -> Option R
def t4 {R : Type} (j4 : J4 R) (κ0 : BA -> BA -> Option R) : J4 R :=
 fun x0 x1 x2 x3 => (bif (decide (x2 < (x3.length : Int))) then (bB ((decide ((0 : Int) <= x2)) && (decide (x2 < (x3.length : Int)))) (bB ((decide ((0 : Int) <= x2)) && (decide (x2 < (x3.length : Int)))) (bif (decide ((bK x3 x2).s = (⟨#[13, 10]⟩ : BA))) then (bB ((decide ((0 : Int) <= (IntKind.wrap .i64 (x1 + ((bK x3 x2).s.size : Int))))) && (decide ((IntKind.wrap .i64 (x1 + ((bK x3 x2).s.size : Int))) <= (x0.size : Int)))) (bB ((decide ((0 : Int) <= (IntKind.wrap .i64 (x1 + ((bK x3 x2).s.size : Int))))) && ((decide ((IntKind.wrap .i64 (x1 + ((bK x3 x2).s.size : Int))) <= (x0.size : Int))) && (decide ((x0.size : Int) <= (x0.size : Int))))) (κ0 (x0.extract ((0 : Int)).toNat ((IntKind.wrap .i64 (x1 + ((bK x3 x2).s.size : Int)))).toNat) (x0.extract ((IntKind.wrap .i64 (x1 + ((bK x3 x2).s.size : Int)))).toNat ((x0.size : Int)).toNat)))) else (j4 x0 (IntKind.wrap .i64 (x1 + ((bK x3 x2).s.size : Int))) (IntKind.wrap .i64 (x2 + 1)) x3)))) else (κ0 x0 (⟨#[]⟩ : BA)))
def e {R : Type} (c1 : bp.F R) (a0 : BA) (j4 : J4 R) (κ0 : BA -> BA -> Option R) : Option R :=
 (c1 a0 (fun r2989 => (j4 a0 0 0 r2989)))
def L4 {R : Type} (c1 : bp.F R) (κ0 : BA -> BA -> Option R) : Nat -> J4 R
 | 0 => fun _ _ _ _ => none
 | f + 1 => t4 (L4 c1 κ0 f) κ0
end cf
def cf {R : Type} : cf.F R := fun a0 κ0 => cf.e bp a0 (cf.L4 bp κ0 ag) κ0
abbrev aL.F (R : Type) : Type := Int -> (Bool -> Option R) -> Option R
namespace aL
def e {R : Type} (a0 : Int) (κ0 : Bool -> Option R) : Option R :=
 (bif (a0 == 32) then (κ0 true) else (κ0 (a0 == 9)))
end aL
def aL {R : Type} : aL.F R := fun a0 κ0 => aL.e a0 κ0
abbrev bF.F (R : Type) : Type := BA -> (Int -> Int -> Option R) -> Option R
namespace bF
abbrev J5 (R : Type) : Type := BA -> Int -> Int -> Option R
def t2 {R : Type} (j2 : BA -> Int -> Option R) (j5 : J5 R) : BA -> Int -> Option R :=
 fun x0 x1 => (bif (decide (x1 < (x0.size : Int))) then (bB ((decide ((0 : Int) <= x1)) && (decide (x1 < (x0.size : Int)))) (bif (decide ((dJ x0 x1) >= (33 : Int))) then (bB ((decide ((0 : Int) <= x1)) && (decide (x1 < (x0.size : Int)))) (bif (decide ((dJ x0 x1) <= (126 : Int))) then (bB ((decide ((0 : Int) <= x1)) && (decide (x1 < (x0.size : Int)))) (bif ((dJ x0 x1) != 58) then (j2 x0 (IntKind.wrap .i64 (x1 + 1))) else (j5 x0 x1 x1))) else (j5 x0 x1 x1))) else (j5 x0 x1 x1))) else (j5 x0 x1 x1))
def t5 {R : Type} (c1 : aL.F R) (j5 : J5 R) (κ0 : Int -> Int -> Option R) : J5 R :=
 fun x0 x1 x2 => (bif (decide (x1 < (x0.size : Int))) then (bB ((decide ((0 : Int) <= x1)) && (decide (x1 < (x0.size : Int)))) (c1 (dJ x0 x1) (fun r2994 => (bif r2994 then (j5 x0 (IntKind.wrap .i64 (x1 + 1)) x2) else (bif (x2 == 0) then (κ0 (-1) 0) else (bif (x1 == (x0.size : Int)) then (κ0 (-1) 0) else (bB ((decide ((0 : Int) <= x1)) && (decide (x1 < (x0.size : Int)))) (bif ((dJ x0 x1) != 58) then (κ0 (-1) 0) else (κ0 x1 x2))))))))) else (bif (x2 == 0) then (κ0 (-1) 0) else (bif (x1 == (x0.size : Int)) then (κ0 (-1) 0) else (bB ((decide ((0 : Int) <= x1)) && (decide (x1 < (x0.size : Int)))) (bif ((dJ x0 x1) != 58) then (κ0 (-1) 0) else (κ0 x1 x2))))))
def e {R : Type} (c1 : aL.F R) (a0 : BA) (j2 : BA -> Int -> Option R) (j5 : J5 R) (κ0 : Int -> Int -> Option R) : Option R :=
 (j2 a0 0)
def L5 {R : Type} (c1 : aL.F R) (κ0 : Int -> Int -> Option R) : Nat -> J5 R
 | 0 => fun _ _ _ => none
 | f + 1 => t5 c1 (L5 c1 κ0 f) κ0
def L2 {R : Type} (c1 : aL.F R) (κ0 : Int -> Int -> Option R) : Nat -> BA -> Int -> Option R
 | 0 => fun _ _ => none
 | f + 1 => t2 (L2 c1 κ0 f) (L5 c1 κ0 f)
end bF
def bF {R : Type} : bF.F R := fun a0 κ0 => bF.e aL a0 (bF.L2 aL κ0 ag) (bF.L5 aL κ0 ag) κ0
abbrev cA.F (R : Type) : Type := BA -> (BA -> Option R) -> Option R
namespace cA
def e {R : Type} (a0 : BA) (κ0 : BA -> Option R) : Option R :=
 (bif (decide ((a0.size : Int) >= (2 : Int))) then (bB ((decide ((0 : Int) <= (IntKind.wrap .i64 ((a0.size : Int) - 2)))) && (decide ((IntKind.wrap .i64 ((a0.size : Int) - 2)) < (a0.size : Int)))) (bif ((dJ a0 (IntKind.wrap .i64 ((a0.size : Int) - 2))) == 13) then (bB ((decide ((0 : Int) <= (IntKind.wrap .i64 ((a0.size : Int) - 1)))) && (decide ((IntKind.wrap .i64 ((a0.size : Int) - 1)) < (a0.size : Int)))) (bif ((dJ a0 (IntKind.wrap .i64 ((a0.size : Int) - 1))) == 10) then (bB ((decide ((0 : Int) <= (IntKind.wrap .i64 ((a0.size : Int) - 2)))) && (decide ((IntKind.wrap .i64 ((a0.size : Int) - 2)) <= (a0.size : Int)))) (κ0 (a0.extract ((0 : Int)).toNat ((IntKind.wrap .i64 ((a0.size : Int) - 2))).toNat))) else (κ0 a0))) else (κ0 a0))) else (κ0 a0))
end cA
def cA {R : Type} : cA.F R := fun a0 κ0 => cA.e a0 κ0
abbrev cn.F (R : Type) : Type := BA -> (LA -> Option R) -> Option R
namespace cn
abbrev J4 (R : Type) : Type := Int -> LA -> LA -> Option R
abbrev J5 (R : Type) : Type := Int -> LA -> LA -> Option R
abbrev sd (R : Type) : Type := Int -> BA -> LA -> LA -> Option R
def t4 {R : Type} (c2 : aL.F R) (c3 : cA.F R) (j5 : J5 R) (j11 : sd R) (κ0 : LA -> Option R) : J4 R :=
 fun x0 x1 x2 => (bif (decide (x0 < (x2.length : Int))) then (bB ((decide ((0 : Int) <= x0)) && (decide (x0 < (x2.length : Int)))) (bif (!decide ((bK x2 x0).s = (⟨#[13, 10]⟩ : BA))) then (bB ((decide ((0 : Int) <= x0)) && (decide (x0 < (x2.length : Int)))) (bB (decide ((0 : Int) < ((bK x2 x0).s.size : Int))) (c2 (dJ (bK x2 x0).s 0) (fun r3037 => (bif r3037 then (bif (decide ((IntKind.wrap .i64 ((x1.length : Int) - 1)) >= (0 : Int))) then (bB ((decide ((0 : Int) <= (IntKind.wrap .i64 ((x1.length : Int) - 1)))) && (decide ((IntKind.wrap .i64 ((x1.length : Int) - 1)) < (x1.length : Int)))) (bB (decide (((bK x1 (IntKind.wrap .i64 ((x1.length : Int) - 1))).fld 2).s.size + (bK x2 x0).s.size <= 9223372036854775807)) (bB ((decide ((0 : Int) <= (IntKind.wrap .i64 ((x1.length : Int) - 1)))) && (decide ((IntKind.wrap .i64 ((x1.length : Int) - 1)) < (x1.length : Int)))) (bB ((decide ((0 : Int) <= (IntKind.wrap .i64 ((x1.length : Int) - 1)))) && (decide ((IntKind.wrap .i64 ((x1.length : Int) - 1)) < ((dR x1 (IntKind.wrap .i64 ((x1.length : Int) - 1)) (AV.agg [AV.str ((bK x1 (IntKind.wrap .i64 ((x1.length : Int) - 1))).fld 0).s, AV.str ((bK x1 (IntKind.wrap .i64 ((x1.length : Int) - 1))).fld 1).s, AV.str (((bK x1 (IntKind.wrap .i64 ((x1.length : Int) - 1))).fld 2).s ++ (bK x2 x0).s)])).length : Int)))) (c3 (bK x2 x0).s (fun r3038 => (bB (decide (((bK (dR x1 (IntKind.wrap .i64 ((x1.length : Int) - 1)) (AV.agg [AV.str ((bK x1 (IntKind.wrap .i64 ((x1.length : Int) - 1))).fld 0).s, AV.str ((bK x1 (IntKind.wrap .i64 ((x1.length : Int) - 1))).fld 1).s, AV.str (((bK x1 (IntKind.wrap .i64 ((x1.length : Int) - 1))).fld 2).s ++ (bK x2 x0).s)])) (IntKind.wrap .i64 ((x1.length : Int) - 1))).fld 1).s.size + r3038.size <= 9223372036854775807)) (bB ((decide ((0 : Int) <= (IntKind.wrap .i64 ((x1.length : Int) - 1)))) && (decide ((IntKind.wrap .i64 ((x1.length : Int) - 1)) < ((dR x1 (IntKind.wrap .i64 ((x1.length : Int) - 1)) (AV.agg [AV.str ((bK x1 (IntKind.wrap .i64 ((x1.length : Int) - 1))).fld 0).s, AV.str ((bK x1 (IntKind.wrap .i64 ((x1.length : Int) - 1))).fld 1).s, AV.str (((bK x1 (IntKind.wrap .i64 ((x1.length : Int) - 1))).fld 2).s ++ (bK x2 x0).s)])).length : Int)))) (j5 x0 (dR (dR x1 (IntKind.wrap .i64 ((x1.length : Int) - 1)) (AV.agg [AV.str ((bK x1 (IntKind.wrap .i64 ((x1.length : Int) - 1))).fld 0).s, AV.str ((bK x1 (IntKind.wrap .i64 ((x1.length : Int) - 1))).fld 1).s, AV.str (((bK x1 (IntKind.wrap .i64 ((x1.length : Int) - 1))).fld 2).s ++ (bK x2 x0).s)])) (IntKind.wrap .i64 ((x1.length : Int) - 1)) (AV.agg [AV.str ((bK (dR x1 (IntKind.wrap .i64 ((x1.length : Int) - 1)) (AV.agg [AV.str ((bK x1 (IntKind.wrap .i64 ((x1.length : Int) - 1))).fld 0).s, AV.str ((bK x1 (IntKind.wrap .i64 ((x1.length : Int) - 1))).fld 1).s, AV.str (((bK x1 (IntKind.wrap .i64 ((x1.length : Int) - 1))).fld 2).s ++ (bK x2 x0).s)])) (IntKind.wrap .i64 ((x1.length : Int) - 1))).fld 0).s, AV.str (((bK (dR x1 (IntKind.wrap .i64 ((x1.length : Int) - 1)) (AV.agg [AV.str ((bK x1 (IntKind.wrap .i64 ((x1.length : Int) - 1))).fld 0).s, AV.str ((bK x1 (IntKind.wrap .i64 ((x1.length : Int) - 1))).fld 1).s, AV.str (((bK x1 (IntKind.wrap .i64 ((x1.length : Int) - 1))).fld 2).s ++ (bK x2 x0).s)])) (IntKind.wrap .i64 ((x1.length : Int) - 1))).fld 1).s ++ r3038), AV.str ((bK (dR x1 (IntKind.wrap .i64 ((x1.length : Int) - 1)) (AV.agg [AV.str ((bK x1 (IntKind.wrap .i64 ((x1.length : Int) - 1))).fld 0).s, AV.str ((bK x1 (IntKind.wrap .i64 ((x1.length : Int) - 1))).fld 1).s, AV.str (((bK x1 (IntKind.wrap .i64 ((x1.length : Int) - 1))).fld 2).s ++ (bK x2 x0).s)])) (IntKind.wrap .i64 ((x1.length : Int) - 1))).fld 2).s])) x2))))))))) else (j11 x0 (bK x2 x0).s x1 x2)) else (j11 x0 (bK x2 x0).s x1 x2)))))) else (κ0 x1))) else (κ0 x1))
def t5 {R : Type} (j4 : J4 R) : J5 R :=
 fun x0 x1 x2 => (j4 (IntKind.wrap .i64 (x0 + 1)) x1 x2)
def t11 {R : Type} (c2 : aL.F R) (c3 : cA.F R) (c4 : bF.F R) (j5 : J5 R) : sd R :=
 fun x0 x1 x2 x3 => (c4 x1 (fun r3039 r3040 => (bB (decide ((0 : Int) < (x1.size : Int))) (c2 (dJ x1 0) (fun r3041 => (bif r3041 then (bB (decide ((x2.length + 1) * 48 <= 140737488355328)) (j5 x0 (x2 ++ [AV.agg [AV.str (⟨#[]⟩ : BA), AV.str (⟨#[]⟩ : BA), AV.str x1]]) x3)) else (bif (decide (r3039 < (0 : Int))) then (bB (decide ((x2.length + 1) * 48 <= 140737488355328)) (j5 x0 (x2 ++ [AV.agg [AV.str (⟨#[]⟩ : BA), AV.str (⟨#[]⟩ : BA), AV.str x1]]) x3)) else (bB ((decide ((0 : Int) <= r3040)) && (decide (r3040 <= (x1.size : Int)))) (bB ((decide ((0 : Int) <= (IntKind.wrap .i64 (r3039 + 1)))) && ((decide ((IntKind.wrap .i64 (r3039 + 1)) <= (x1.size : Int))) && (decide ((x1.size : Int) <= (x1.size : Int))))) (c3 (x1.extract ((IntKind.wrap .i64 (r3039 + 1))).toNat ((x1.size : Int)).toNat) (fun r3042 => (bB (decide ((x2.length + 1) * 48 <= 140737488355328)) (j5 x0 (x2 ++ [AV.agg [AV.str (x1.extract ((0 : Int)).toNat (r3040).toNat), AV.str r3042, AV.str x1]]) x3)))))))))))))
def e {R : Type} (c1 : bp.F R) (c2 : aL.F R) (c3 : cA.F R) (c4 : bF.F R) (a0 : BA) (j4 : J4 R) (j5 : J5 R) (j11 : sd R) (κ0 : LA -> Option R) : Option R :=
 (c1 a0 (fun r3036 => (j4 0 ([] : LA) r3036)))
def M4 {R : Type} (c1 : bp.F R) (c2 : aL.F R) (c3 : cA.F R) (c4 : bF.F R) (κ0 : LA -> Option R) : Nat -> (J4 R) × (J5 R) × (sd R)
 | 0 => (fun _ _ _ => none, fun _ _ _ => none, fun _ _ _ _ => none)
 | f + 1 => (t4 c2 c3 ((M4 c1 c2 c3 c4 κ0 f).2.1) ((M4 c1 c2 c3 c4 κ0 f).2.2) κ0,
  t5 ((M4 c1 c2 c3 c4 κ0 f).1),
  t11 c2 c3 c4 ((M4 c1 c2 c3 c4 κ0 f).2.1))
def L4 {R : Type} (c1 : bp.F R) (c2 : aL.F R) (c3 : cA.F R) (c4 : bF.F R) (κ0 : LA -> Option R) (f : Nat) : J4 R := (M4 c1 c2 c3 c4 κ0 f).1
def L5 {R : Type} (c1 : bp.F R) (c2 : aL.F R) (c3 : cA.F R) (c4 : bF.F R) (κ0 : LA -> Option R) (f : Nat) : J5 R := (M4 c1 c2 c3 c4 κ0 f).2.1
def qS {R : Type} (c1 : bp.F R) (c2 : aL.F R) (c3 : cA.F R) (c4 : bF.F R) (κ0 : LA -> Option R) (f : Nat) : sd R := (M4 c1 c2 c3 c4 κ0 f).2.2
end cn
def cn {R : Type} : cn.F R := fun a0 κ0 => cn.e bp aL cA bF a0 (cn.L4 bp aL cA bF κ0 ag) (cn.L5 bp aL cA bF κ0 ag) (cn.qS bp aL cA bF κ0 ag) κ0
abbrev cF.F (R : Type) : Type := BA -> (BA -> Option R) -> Option R
namespace cF
def t1 {R : Type} (c1 : aL.F R) (j1 : BA -> Option R) (j3 : BA -> Option R) : BA -> Option R :=
 fun x0 => (bif (decide ((x0.size : Int) > (0 : Int))) then (bB (decide ((0 : Int) < (x0.size : Int))) (c1 (dJ x0 0) (fun r3044 => (bif r3044 then (bB ((decide ((1 : Int) <= (x0.size : Int))) && (decide ((x0.size : Int) <= (x0.size : Int)))) (j1 (x0.extract ((1 : Int)).toNat ((x0.size : Int)).toNat))) else (j3 x0))))) else (j3 x0))
def t3 {R : Type} (c1 : aL.F R) (j3 : BA -> Option R) (κ0 : BA -> Option R) : BA -> Option R :=
 fun x0 => (bif (decide ((x0.size : Int) > (0 : Int))) then (bB ((decide ((0 : Int) <= (IntKind.wrap .i64 ((x0.size : Int) - 1)))) && (decide ((IntKind.wrap .i64 ((x0.size : Int) - 1)) < (x0.size : Int)))) (c1 (dJ x0 (IntKind.wrap .i64 ((x0.size : Int) - 1))) (fun r3045 => (bif r3045 then (bB ((decide ((0 : Int) <= (IntKind.wrap .i64 ((x0.size : Int) - 1)))) && (decide ((IntKind.wrap .i64 ((x0.size : Int) - 1)) <= (x0.size : Int)))) (j3 (x0.extract ((0 : Int)).toNat ((IntKind.wrap .i64 ((x0.size : Int) - 1))).toNat))) else (κ0 x0))))) else (κ0 x0))
def e {R : Type} (c1 : aL.F R) (a0 : BA) (j1 : BA -> Option R) (j3 : BA -> Option R) (κ0 : BA -> Option R) : Option R :=
 (j1 a0)
def L3 {R : Type} (c1 : aL.F R) (κ0 : BA -> Option R) : Nat -> BA -> Option R
 | 0 => fun _ => none
 | f + 1 => t3 c1 (L3 c1 κ0 f) κ0
def L1 {R : Type} (c1 : aL.F R) (κ0 : BA -> Option R) : Nat -> BA -> Option R
 | 0 => fun _ => none
 | f + 1 => t1 c1 (L1 c1 κ0 f) (L3 c1 κ0 f)
end cF
def cF {R : Type} : cF.F R := fun a0 κ0 => cF.e aL a0 (cF.L1 aL κ0 ag) (cF.L3 aL κ0 ag) κ0
abbrev bS.F (R : Type) : Type := BA -> (LA -> Option R) -> Option R
namespace bS
abbrev J4 (R : Type) : Type := Int -> LA -> LA -> Option R
def t4 {R : Type} (c2 : cF.F R) (j4 : J4 R) (κ0 : LA -> Option R) : J4 R :=
 fun x0 x1 x2 => (bif (decide (x0 < (x2.length : Int))) then (bif (decide ((x1.length : Int) < (64 : Int))) then (bB ((decide ((0 : Int) <= x0)) && (decide (x0 < (x2.length : Int)))) (bif (!decide (((bK x2 x0).fld 0).s = (⟨#[]⟩ : BA))) then (bB ((decide ((0 : Int) <= x0)) && (decide (x0 < (x2.length : Int)))) (c2 ((bK x2 x0).fld 1).s (fun r3048 => (bB (decide ((x1.length + 1) * 48 <= 140737488355328)) (j4 (IntKind.wrap .i64 (x0 + 1)) (x1 ++ [AV.agg [AV.str ((bK x2 x0).fld 0).s, AV.str r3048, AV.str ((bK x2 x0).fld 2).s]]) x2))))) else (j4 (IntKind.wrap .i64 (x0 + 1)) x1 x2))) else (κ0 x1)) else (κ0 x1))
def e {R : Type} (c1 : cn.F R) (c2 : cF.F R) (a0 : BA) (j4 : J4 R) (κ0 : LA -> Option R) : Option R :=
 (c1 a0 (fun r3047 => (j4 0 ([] : LA) r3047)))
def L4 {R : Type} (c1 : cn.F R) (c2 : cF.F R) (κ0 : LA -> Option R) : Nat -> J4 R
 | 0 => fun _ _ _ => none
 | f + 1 => t4 c2 (L4 c1 c2 κ0 f) κ0
end bS
def bS {R : Type} : bS.F R := fun a0 κ0 => bS.e cn cF a0 (bS.L4 cn cF κ0 ag) κ0
abbrev da.F (R : Type) : Type := BA -> (BA -> Option R) -> Option R
namespace da
abbrev J3 (R : Type) : Type := BA -> Int -> LA -> Option R
def t3 {R : Type} (j3 : J3 R) (κ0 : BA -> Option R) : J3 R :=
 fun x0 x1 x2 => (bif (decide (x1 < (x0.size : Int))) then (bB ((decide ((0 : Int) <= x1)) && (decide (x1 < (x0.size : Int)))) (bif (decide ((dJ x0 x1) >= (65 : Int))) then (bif (decide ((dJ x0 x1) <= (90 : Int))) then (bB (decide ((x2.length + 1) * 1 <= 140737488355328)) (j3 x0 (IntKind.wrap .i64 (x1 + 1)) (x2 ++ [AV.int (IntKind.wrap .u8 ((dJ x0 x1) + 32))]))) else (bB (decide ((x2.length + 1) * 1 <= 140737488355328)) (j3 x0 (IntKind.wrap .i64 (x1 + 1)) (x2 ++ [AV.int (dJ x0 x1)])))) else (bB (decide ((x2.length + 1) * 1 <= 140737488355328)) (j3 x0 (IntKind.wrap .i64 (x1 + 1)) (x2 ++ [AV.int (dJ x0 x1)]))))) else (κ0 (fF x2)))
def e {R : Type} (a0 : BA) (j3 : J3 R) (κ0 : BA -> Option R) : Option R :=
 (j3 a0 0 ([] : LA))
def L3 {R : Type} (κ0 : BA -> Option R) : Nat -> J3 R
 | 0 => fun _ _ _ => none
 | f + 1 => t3 (L3 κ0 f) κ0
end da
def da {R : Type} : da.F R := fun a0 κ0 => da.e a0 (da.L3 κ0 ag) κ0
abbrev dn.F (R : Type) : Type := BA -> BA -> (Bool -> Option R) -> Option R
namespace dn
def e {R : Type} (c1 : da.F R) (a0 : BA) (a1 : BA) (κ0 : Bool -> Option R) : Option R :=
 (c1 a0 (fun r3050 => (c1 a1 (fun r3051 => (κ0 (decide (r3050 = r3051)))))))
end dn
def dn {R : Type} : dn.F R := fun a0 a1 κ0 => dn.e da a0 a1 κ0
abbrev dd.F (R : Type) : Type := LA -> BA -> (Bool -> BA -> Option R) -> Option R
namespace dd
abbrev J2 (R : Type) : Type := LA -> BA -> Int -> Bool -> BA -> Option R
def t2 {R : Type} (c1 : dn.F R) (j2 : J2 R) (κ0 : Bool -> BA -> Option R) : J2 R :=
 fun x0 x1 x2 x3 x4 => (bif (decide (x2 < (x0.length : Int))) then (bB ((decide ((0 : Int) <= x2)) && (decide (x2 < (x0.length : Int)))) (c1 ((bK x0 x2).fld 0).s x1 (fun r3052 => (bif r3052 then (bB ((decide ((0 : Int) <= x2)) && (decide (x2 < (x0.length : Int)))) (κ0 true ((bK x0 x2).fld 1).s)) else (j2 x0 x1 (IntKind.wrap .i64 (x2 + 1)) x3 x4))))) else (κ0 false (⟨#[]⟩ : BA)))
def e {R : Type} (c1 : dn.F R) (a0 : LA) (a1 : BA) (j2 : J2 R) (κ0 : Bool -> BA -> Option R) : Option R :=
 (j2 a0 a1 0 false (⟨#[]⟩ : BA))
def L2 {R : Type} (c1 : dn.F R) (κ0 : Bool -> BA -> Option R) : Nat -> J2 R
 | 0 => fun _ _ _ _ _ => none
 | f + 1 => t2 c1 (L2 c1 κ0 f) κ0
end dd
def dd {R : Type} : dd.F R := fun a0 a1 κ0 => dd.e dn a0 a1 (dd.L2 dn κ0 ag) κ0
abbrev aG.F (R : Type) : Type := BA -> Int -> (Int -> Option R) -> Option R
namespace aG
abbrev J7 (R : Type) : Type := BA -> Int -> Int -> Option R
def t1 {R : Type} (j1 : BA -> Int -> Option R) (j7 : J7 R) (κ0 : Int -> Option R) : BA -> Int -> Option R :=
 fun x0 x1 => (bif (decide (x1 < (x0.size : Int))) then (bB ((decide ((0 : Int) <= x1)) && (decide (x1 < (x0.size : Int)))) (bif ((dJ x0 x1) == 32) then (j1 x0 (IntKind.wrap .i64 (x1 + 1))) else (bB ((decide ((0 : Int) <= x1)) && (decide (x1 < (x0.size : Int)))) (bif ((dJ x0 x1) == 9) then (j1 x0 (IntKind.wrap .i64 (x1 + 1))) else (bB ((decide ((0 : Int) <= x1)) && (decide (x1 < (x0.size : Int)))) (bif ((dJ x0 x1) != 40) then (κ0 x1) else (j7 x0 x1 0))))))) else (κ0 x1))
def t7 {R : Type} (j1 : BA -> Int -> Option R) (j7 : J7 R) : J7 R :=
 fun x0 x1 x2 => (bif (decide (x1 < (x0.size : Int))) then (bB ((decide ((0 : Int) <= x1)) && (decide (x1 < (x0.size : Int)))) (bif ((dJ x0 x1) == 92) then (bif (decide ((IntKind.wrap .i64 (x1 + 1)) < (x0.size : Int))) then (j7 x0 (IntKind.wrap .i64 ((IntKind.wrap .i64 (x1 + 1)) + 1)) x2) else (bif ((dJ x0 x1) == 40) then (bif ((dJ x0 x1) == 41) then (bif ((IntKind.wrap .i64 ((IntKind.wrap .i64 (x2 + 1)) - 1)) == 0) then (j1 x0 (IntKind.wrap .i64 (x1 + 1))) else (j7 x0 (IntKind.wrap .i64 (x1 + 1)) (IntKind.wrap .i64 ((IntKind.wrap .i64 (x2 + 1)) - 1)))) else (j7 x0 (IntKind.wrap .i64 (x1 + 1)) (IntKind.wrap .i64 (x2 + 1)))) else (bif ((dJ x0 x1) == 41) then (bif ((IntKind.wrap .i64 (x2 - 1)) == 0) then (j1 x0 (IntKind.wrap .i64 (x1 + 1))) else (j7 x0 (IntKind.wrap .i64 (x1 + 1)) (IntKind.wrap .i64 (x2 - 1)))) else (j7 x0 (IntKind.wrap .i64 (x1 + 1)) x2)))) else (bif ((dJ x0 x1) == 40) then (bif ((dJ x0 x1) == 41) then (bif ((IntKind.wrap .i64 ((IntKind.wrap .i64 (x2 + 1)) - 1)) == 0) then (j1 x0 (IntKind.wrap .i64 (x1 + 1))) else (j7 x0 (IntKind.wrap .i64 (x1 + 1)) (IntKind.wrap .i64 ((IntKind.wrap .i64 (x2 + 1)) - 1)))) else (j7 x0 (IntKind.wrap .i64 (x1 + 1)) (IntKind.wrap .i64 (x2 + 1)))) else (bif ((dJ x0 x1) == 41) then (bif ((IntKind.wrap .i64 (x2 - 1)) == 0) then (j1 x0 (IntKind.wrap .i64 (x1 + 1))) else (j7 x0 (IntKind.wrap .i64 (x1 + 1)) (IntKind.wrap .i64 (x2 - 1)))) else (j7 x0 (IntKind.wrap .i64 (x1 + 1)) x2))))) else (j1 x0 x1))
def e {R : Type} (a0 : BA) (a1 : Int) (j1 : BA -> Int -> Option R) (j7 : J7 R) (κ0 : Int -> Option R) : Option R :=
 (j1 a0 a1)
def M1 {R : Type} (κ0 : Int -> Option R) : Nat -> (BA -> Int -> Option R) × (J7 R)
 | 0 => (fun _ _ => none, fun _ _ _ => none)
 | f + 1 => (t1 ((M1 κ0 f).1) ((M1 κ0 f).2) κ0,
  t7 ((M1 κ0 f).1) ((M1 κ0 f).2))
def L1 {R : Type} (κ0 : Int -> Option R) (f : Nat) : BA -> Int -> Option R := (M1 κ0 f).1
def L7 {R : Type} (κ0 : Int -> Option R) (f : Nat) : J7 R := (M1 κ0 f).2
end aG
def aG {R : Type} : aG.F R := fun a0 a1 κ0 => aG.e a0 a1 (aG.L1 κ0 ag) (aG.L7 κ0 ag) κ0
abbrev bq.F (R : Type) : Type := Int -> (Bool -> Option R) -> Option R
namespace bq
abbrev J5 (R : Type) : Type := Int -> BA -> Int -> Option R
def t5 {R : Type} (j5 : J5 R) (κ0 : Bool -> Option R) : J5 R :=
 fun x0 x1 x2 => (bif (decide (x2 < (x1.size : Int))) then (bB ((decide ((0 : Int) <= x2)) && (decide (x2 < (x1.size : Int)))) (bif ((dJ x1 x2) == x0) then (κ0 false) else (j5 x0 x1 (IntKind.wrap .i64 (x2 + 1))))) else (κ0 true))
def e {R : Type} (a0 : Int) (j5 : J5 R) (κ0 : Bool -> Option R) : Option R :=
 (bif (decide (a0 < (33 : Int))) then (κ0 false) else (bif (decide (a0 > (126 : Int))) then (κ0 false) else (j5 a0 (⟨#[40, 41, 60, 62, 64, 44, 59, 58, 92, 34, 47, 91, 93, 63, 61]⟩ : BA) 0)))
def L5 {R : Type} (κ0 : Bool -> Option R) : Nat -> J5 R
 | 0 => fun _ _ _ => none
 | f + 1 => t5 (L5 κ0 f) κ0
end bq
def bq {R : Type} : bq.F R := fun a0 κ0 => bq.e a0 (bq.L5 κ0 ag) κ0
abbrev aK.F (R : Type) : Type := BA -> Int -> (BA -> Option R) -> Option R
namespace aK
abbrev J2 (R : Type) : Type := BA -> Int -> Int -> Option R
def t2 {R : Type} (c1 : bq.F R) (j2 : J2 R) (κ0 : BA -> Option R) : J2 R :=
 fun x0 x1 x2 => (bif (decide (x2 < (x0.size : Int))) then (bB ((decide ((0 : Int) <= x2)) && (decide (x2 < (x0.size : Int)))) (c1 (dJ x0 x2) (fun r3056 => (bif r3056 then (j2 x0 x1 (IntKind.wrap .i64 (x2 + 1))) else (bB ((decide ((0 : Int) <= x1)) && ((decide (x1 <= x2)) && (decide (x2 <= (x0.size : Int))))) (κ0 (x0.extract (x1).toNat (x2).toNat))))))) else (bB ((decide ((0 : Int) <= x1)) && ((decide (x1 <= x2)) && (decide (x2 <= (x0.size : Int))))) (κ0 (x0.extract (x1).toNat (x2).toNat))))
def e {R : Type} (c1 : bq.F R) (a0 : BA) (a1 : Int) (j2 : J2 R) (κ0 : BA -> Option R) : Option R :=
 (j2 a0 a1 a1)
def L2 {R : Type} (c1 : bq.F R) (κ0 : BA -> Option R) : Nat -> J2 R
 | 0 => fun _ _ _ => none
 | f + 1 => t2 c1 (L2 c1 κ0 f) κ0
end aK
def aK {R : Type} : aK.F R := fun a0 a1 κ0 => aK.e bq a0 a1 (aK.L2 bq κ0 ag) κ0
abbrev aW.F (R : Type) : Type := BA -> (BA -> Option R) -> Option R
namespace aW
abbrev J3 (R : Type) : Type := BA -> Int -> LA -> Option R
def t3 {R : Type} (j3 : J3 R) (κ0 : BA -> Option R) : J3 R :=
 fun x0 x1 x2 => (bif (decide (x1 < (x0.size : Int))) then (bB ((decide ((0 : Int) <= x1)) && (decide (x1 < (x0.size : Int)))) (bif (decide ((dJ x0 x1) >= (65 : Int))) then (bif (decide ((dJ x0 x1) <= (90 : Int))) then (bB (decide ((x2.length + 1) * 1 <= 140737488355328)) (j3 x0 (IntKind.wrap .i64 (x1 + 1)) (x2 ++ [AV.int (IntKind.wrap .u8 ((dJ x0 x1) + 32))]))) else (bB (decide ((x2.length + 1) * 1 <= 140737488355328)) (j3 x0 (IntKind.wrap .i64 (x1 + 1)) (x2 ++ [AV.int (dJ x0 x1)])))) else (bB (decide ((x2.length + 1) * 1 <= 140737488355328)) (j3 x0 (IntKind.wrap .i64 (x1 + 1)) (x2 ++ [AV.int (dJ x0 x1)]))))) else (κ0 (fF x2)))
def e {R : Type} (a0 : BA) (j3 : J3 R) (κ0 : BA -> Option R) : Option R :=
 (j3 a0 0 ([] : LA))
def L3 {R : Type} (κ0 : BA -> Option R) : Nat -> J3 R
 | 0 => fun _ _ _ => none
 | f + 1 => t3 (L3 κ0 f) κ0
end aW
def aW {R : Type} : aW.F R := fun a0 κ0 => aW.e a0 (aW.L3 κ0 ag) κ0
abbrev cr.Q0 (R : Type) : Type := BA -> Int -> Bool -> Option R
abbrev cr.F (R : Type) : Type := BA -> Int -> cr.Q0 R -> Option R
namespace cr
abbrev J8 (R : Type) : Type := BA -> Int -> Int -> LA -> Option R
def t8 {R : Type} (j8 : J8 R) (κ0 : Q0 R) : J8 R :=
 fun x0 x1 x2 x3 => (bif (decide (x2 < (x0.size : Int))) then (bB ((decide ((0 : Int) <= x2)) && (decide (x2 < (x0.size : Int)))) (bif ((dJ x0 x2) == 34) then (κ0 (fF x3) (IntKind.wrap .i64 (x2 + 1)) true) else (bB ((decide ((0 : Int) <= x2)) && (decide (x2 < (x0.size : Int)))) (bif ((dJ x0 x2) == 92) then (bif (decide ((IntKind.wrap .i64 (x2 + 1)) < (x0.size : Int))) then (bB ((decide ((0 : Int) <= (IntKind.wrap .i64 (x2 + 1)))) && (decide ((IntKind.wrap .i64 (x2 + 1)) < (x0.size : Int)))) (bB (decide ((x3.length + 1) * 1 <= 140737488355328)) (j8 x0 x1 (IntKind.wrap .i64 ((IntKind.wrap .i64 (x2 + 1)) + 1)) (x3 ++ [AV.int (dJ x0 (IntKind.wrap .i64 (x2 + 1)))])))) else (bB ((decide ((0 : Int) <= x2)) && (decide (x2 < (x0.size : Int)))) (bB (decide ((x3.length + 1) * 1 <= 140737488355328)) (j8 x0 x1 (IntKind.wrap .i64 (x2 + 1)) (x3 ++ [AV.int (dJ x0 x2)]))))) else (bB ((decide ((0 : Int) <= x2)) && (decide (x2 < (x0.size : Int)))) (bB (decide ((x3.length + 1) * 1 <= 140737488355328)) (j8 x0 x1 (IntKind.wrap .i64 (x2 + 1)) (x3 ++ [AV.int (dJ x0 x2)])))))))) else (κ0 (⟨#[]⟩ : BA) x1 false))
def e {R : Type} (c1 : aK.F R) (a0 : BA) (a1 : Int) (j8 : J8 R) (κ0 : Q0 R) : Option R :=
 (c1 a0 a1 (fun r3070 => (bif (!decide (r3070 = (⟨#[]⟩ : BA))) then (κ0 r3070 (IntKind.wrap .i64 (a1 + (r3070.size : Int))) true) else (bif (decide (a1 >= (a0.size : Int))) then (κ0 (⟨#[]⟩ : BA) a1 false) else (bB ((decide ((0 : Int) <= a1)) && (decide (a1 < (a0.size : Int)))) (bif ((dJ a0 a1) != 34) then (κ0 (⟨#[]⟩ : BA) a1 false) else (j8 a0 a1 (IntKind.wrap .i64 (a1 + 1)) ([] : LA))))))))
def L8 {R : Type} (c1 : aK.F R) (κ0 : Q0 R) : Nat -> J8 R
 | 0 => fun _ _ _ _ => none
 | f + 1 => t8 (L8 c1 κ0 f) κ0
end cr
def cr {R : Type} : cr.F R := fun a0 a1 κ0 => cr.e aK a0 a1 (cr.L8 aK κ0 ag) κ0
abbrev bb.F (R : Type) : Type := BA -> Int -> (LA -> Option R) -> Option R
namespace bb
abbrev J2 (R : Type) : Type := BA -> Int -> LA -> Option R
abbrev vQ (R : Type) : Type := BA -> Int -> BA -> BA -> Bool -> Int -> LA -> Option R
def t2 {R : Type} (c1 : aG.F R) (c2 : aK.F R) (c3 : aW.F R) (c4 : cr.F R) (j17 : vQ R) (κ0 : LA -> Option R) : J2 R :=
 fun x0 x1 x2 => (bif (decide ((x2.length : Int) < (12 : Int))) then (c1 x0 x1 (fun r3074 => (bif (decide (r3074 >= (x0.size : Int))) then (κ0 x2) else (bB ((decide ((0 : Int) <= r3074)) && (decide (r3074 < (x0.size : Int)))) (bif ((dJ x0 r3074) != 59) then (κ0 x2) else (c1 x0 (IntKind.wrap .i64 (r3074 + 1)) (fun r3075 => (c2 x0 r3075 (fun r3076 => (c3 r3076 (fun r3077 => (c1 x0 (IntKind.wrap .i64 (r3075 + (r3077.size : Int))) (fun r3078 => (bif (decide (r3077 = (⟨#[]⟩ : BA))) then (κ0 x2) else (bif (decide (r3078 >= (x0.size : Int))) then (κ0 x2) else (bB ((decide ((0 : Int) <= r3078)) && (decide (r3078 < (x0.size : Int)))) (bif ((dJ x0 r3078) != 61) then (κ0 x2) else (c1 x0 (IntKind.wrap .i64 (r3078 + 1)) (fun r3079 => (c4 x0 r3079 (fun r3080 r3081 r3082 => (bif (!r3082) then (κ0 x2) else (j17 x0 r3081 r3077 r3080 false 0 x2))))))))))))))))))))))) else (κ0 x2))
def t17 {R : Type} (j2 : J2 R) (j17 : vQ R) : vQ R :=
 fun x0 x1 x2 x3 x4 x5 x6 => (bif (decide (x5 < (x6.length : Int))) then (bif x4 then (j17 x0 x1 x2 x3 true (IntKind.wrap .i64 (x5 + 1)) x6) else (bB ((decide ((0 : Int) <= x5)) && (decide (x5 < (x6.length : Int)))) (j17 x0 x1 x2 x3 (decide (((bK x6 x5).fld 0).s = x2)) (IntKind.wrap .i64 (x5 + 1)) x6))) else (bif (!x4) then (bB (decide ((x6.length + 1) * 32 <= 140737488355328)) (j2 x0 x1 (x6 ++ [AV.agg [AV.str x2, AV.str x3]]))) else (j2 x0 x1 x6)))
def e {R : Type} (c1 : aG.F R) (c2 : aK.F R) (c3 : aW.F R) (c4 : cr.F R) (a0 : BA) (a1 : Int) (j2 : J2 R) (j17 : vQ R) (κ0 : LA -> Option R) : Option R :=
 (j2 a0 a1 ([] : LA))
def M2 {R : Type} (c1 : aG.F R) (c2 : aK.F R) (c3 : aW.F R) (c4 : cr.F R) (κ0 : LA -> Option R) : Nat -> (J2 R) × (vQ R)
 | 0 => (fun _ _ _ => none, fun _ _ _ _ _ _ _ => none)
 | f + 1 => (t2 c1 c2 c3 c4 ((M2 c1 c2 c3 c4 κ0 f).2) κ0,
  t17 ((M2 c1 c2 c3 c4 κ0 f).1) ((M2 c1 c2 c3 c4 κ0 f).2))
def L2 {R : Type} (c1 : aG.F R) (c2 : aK.F R) (c3 : aW.F R) (c4 : cr.F R) (κ0 : LA -> Option R) (f : Nat) : J2 R := (M2 c1 c2 c3 c4 κ0 f).1
def w6 {R : Type} (c1 : aG.F R) (c2 : aK.F R) (c3 : aW.F R) (c4 : cr.F R) (κ0 : LA -> Option R) (f : Nat) : vQ R := (M2 c1 c2 c3 c4 κ0 f).2
end bb
def bb {R : Type} : bb.F R := fun a0 a1 κ0 => bb.e aG aK aW cr a0 a1 (bb.L2 aG aK aW cr κ0 ag) (bb.w6 aG aK aW cr κ0 ag) κ0
abbrev cR.Q0 (R : Type) : Type := BA -> BA -> LA -> Option R
abbrev cR.F (R : Type) : Type := Bool -> BA -> Bool -> cR.Q0 R -> (BA -> BA -> Option R) -> Option R
namespace cR
def e {R : Type} (c1 : aG.F R) (c2 : aK.F R) (c3 : aW.F R) (c4 : bb.F R) (a0 : Bool) (a1 : BA) (a2 : Bool) (κ0 : Q0 R) (κ1 : BA -> BA -> Option R) : Option R :=
 (c1 a1 0 (fun r3055 => (c2 a1 r3055 (fun r3057 => (c1 a1 (IntKind.wrap .i64 (r3055 + (r3057.size : Int))) (fun r3058 => (bif a0 then (bif (!decide (r3057 = (⟨#[]⟩ : BA))) then (bif (decide (r3058 < (a1.size : Int))) then (bB ((decide ((0 : Int) <= r3058)) && (decide (r3058 < (a1.size : Int)))) (bif ((dJ a1 r3058) == 47) then (c1 a1 (IntKind.wrap .i64 (r3058 + 1)) (fun r3059 => (c2 a1 r3059 (fun r3060 => (bif (!decide (r3060 = (⟨#[]⟩ : BA))) then (c3 r3057 (fun r3061 => (c3 r3060 (fun r3062 => (c4 a1 (IntKind.wrap .i64 (r3059 + (r3060.size : Int))) (fun r3083 => (κ0 r3061 r3062 r3083))))))) else (bif a2 then (κ1 (⟨#[109, 101, 115, 115, 97, 103, 101]⟩ : BA) (⟨#[114, 102, 99, 56, 50, 50]⟩ : BA)) else (κ0 (⟨#[116, 101, 120, 116]⟩ : BA) (⟨#[112, 108, 97, 105, 110]⟩ : BA) [AV.agg [AV.str (⟨#[99, 104, 97, 114, 115, 101, 116]⟩ : BA), AV.str (⟨#[117, 115, 45, 97, 115, 99, 105, 105]⟩ : BA)]]))))))) else (bif a2 then (κ1 (⟨#[109, 101, 115, 115, 97, 103, 101]⟩ : BA) (⟨#[114, 102, 99, 56, 50, 50]⟩ : BA)) else (κ0 (⟨#[116, 101, 120, 116]⟩ : BA) (⟨#[112, 108, 97, 105, 110]⟩ : BA) [AV.agg [AV.str (⟨#[99, 104, 97, 114, 115, 101, 116]⟩ : BA), AV.str (⟨#[117, 115, 45, 97, 115, 99, 105, 105]⟩ : BA)]])))) else (bif a2 then (κ1 (⟨#[109, 101, 115, 115, 97, 103, 101]⟩ : BA) (⟨#[114, 102, 99, 56, 50, 50]⟩ : BA)) else (κ0 (⟨#[116, 101, 120, 116]⟩ : BA) (⟨#[112, 108, 97, 105, 110]⟩ : BA) [AV.agg [AV.str (⟨#[99, 104, 97, 114, 115, 101, 116]⟩ : BA), AV.str (⟨#[117, 115, 45, 97, 115, 99, 105, 105]⟩ : BA)]]))) else (bif a2 then (κ1 (⟨#[109, 101, 115, 115, 97, 103, 101]⟩ : BA) (⟨#[114, 102, 99, 56, 50, 50]⟩ : BA)) else (κ0 (⟨#[116, 101, 120, 116]⟩ : BA) (⟨#[112, 108, 97, 105, 110]⟩ : BA) [AV.agg [AV.str (⟨#[99, 104, 97, 114, 115, 101, 116]⟩ : BA), AV.str (⟨#[117, 115, 45, 97, 115, 99, 105, 105]⟩ : BA)]]))) else (bif a2 then (κ1 (⟨#[109, 101, 115, 115, 97, 103, 101]⟩ : BA) (⟨#[114, 102, 99, 56, 50, 50]⟩ : BA)) else (κ0 (⟨#[116, 101, 120, 116]⟩ : BA) (⟨#[112, 108, 97, 105, 110]⟩ : BA) [AV.agg [AV.str (⟨#[99, 104, 97, 114, 115, 101, 116]⟩ : BA), AV.str (⟨#[117, 115, 45, 97, 115, 99, 105, 105]⟩ : BA)]])))))))))
end cR
def cR {R : Type} : cR.F R := fun a0 a1 a2 κ0 κ1 => cR.e aG aK aW bb a0 a1 a2 κ0 κ1
abbrev dc.F (R : Type) : Type := BA -> (BA -> Option R) -> Option R
namespace dc
def t1 {R : Type} (j1 : BA -> Option R) (j3 : BA -> Option R) : BA -> Option R :=
 fun x0 => (bif (decide ((x0.size : Int) > (0 : Int))) then (bB (decide ((0 : Int) < (x0.size : Int))) (bif ((dJ x0 0) == 32) then (bB ((decide ((1 : Int) <= (x0.size : Int))) && (decide ((x0.size : Int) <= (x0.size : Int)))) (j1 (x0.extract ((1 : Int)).toNat ((x0.size : Int)).toNat))) else (bB (decide ((0 : Int) < (x0.size : Int))) (bif ((dJ x0 0) == 9) then (bB ((decide ((1 : Int) <= (x0.size : Int))) && (decide ((x0.size : Int) <= (x0.size : Int)))) (j1 (x0.extract ((1 : Int)).toNat ((x0.size : Int)).toNat))) else (j3 x0))))) else (j3 x0))
def t3 {R : Type} (j3 : BA -> Option R) (κ0 : BA -> Option R) : BA -> Option R :=
 fun x0 => (bif (decide ((x0.size : Int) > (0 : Int))) then (bB ((decide ((0 : Int) <= (IntKind.wrap .i64 ((x0.size : Int) - 1)))) && (decide ((IntKind.wrap .i64 ((x0.size : Int) - 1)) < (x0.size : Int)))) (bif ((dJ x0 (IntKind.wrap .i64 ((x0.size : Int) - 1))) == 32) then (bB ((decide ((0 : Int) <= (IntKind.wrap .i64 ((x0.size : Int) - 1)))) && (decide ((IntKind.wrap .i64 ((x0.size : Int) - 1)) <= (x0.size : Int)))) (j3 (x0.extract ((0 : Int)).toNat ((IntKind.wrap .i64 ((x0.size : Int) - 1))).toNat))) else (bB ((decide ((0 : Int) <= (IntKind.wrap .i64 ((x0.size : Int) - 1)))) && (decide ((IntKind.wrap .i64 ((x0.size : Int) - 1)) < (x0.size : Int)))) (bif ((dJ x0 (IntKind.wrap .i64 ((x0.size : Int) - 1))) == 9) then (bB ((decide ((0 : Int) <= (IntKind.wrap .i64 ((x0.size : Int) - 1)))) && (decide ((IntKind.wrap .i64 ((x0.size : Int) - 1)) <= (x0.size : Int)))) (j3 (x0.extract ((0 : Int)).toNat ((IntKind.wrap .i64 ((x0.size : Int) - 1))).toNat))) else (κ0 x0))))) else (κ0 x0))
def e {R : Type} (a0 : BA) (j1 : BA -> Option R) (j3 : BA -> Option R) (κ0 : BA -> Option R) : Option R :=
 (j1 a0)
def L3 {R : Type} (κ0 : BA -> Option R) : Nat -> BA -> Option R
 | 0 => fun _ => none
 | f + 1 => t3 (L3 κ0 f) κ0
def L1 {R : Type} (κ0 : BA -> Option R) : Nat -> BA -> Option R
 | 0 => fun _ => none
 | f + 1 => t1 (L1 κ0 f) (L3 κ0 f)
end dc
def dc {R : Type} : dc.F R := fun a0 κ0 => dc.e a0 (dc.L1 κ0 ag) (dc.L3 κ0 ag) κ0
abbrev cX.F (R : Type) : Type := Bool -> BA -> (Bool -> BA -> Option R) -> Option R
namespace cX
def e {R : Type} (c1 : dc.F R) (a0 : Bool) (a1 : BA) (κ0 : Bool -> BA -> Option R) : Option R :=
 (bif (!a0) then (κ0 false (⟨#[]⟩ : BA)) else (c1 a1 (fun r3089 => (κ0 true r3089))))
end cX
def cX {R : Type} : cX.F R := fun a0 a1 κ0 => cX.e dc a0 a1 κ0
abbrev cx.Q0 (R : Type) : Type := Bool -> BA -> Int -> Option R
abbrev cx.F (R : Type) : Type := Bool -> BA -> cx.Q0 R -> Option R
namespace cx
def e {R : Type} (c1 : aG.F R) (c2 : aK.F R) (c3 : aW.F R) (a0 : Bool) (a1 : BA) (κ0 : Q0 R) : Option R :=
 (c1 a1 0 (fun r3102 => (c2 a1 r3102 (fun r3103 => (bif (!a0) then (κ0 false (⟨#[]⟩ : BA) 0) else (bif (decide (r3103 = (⟨#[]⟩ : BA))) then (κ0 false (⟨#[]⟩ : BA) 0) else (c3 r3103 (fun r3104 => (κ0 true r3104 (IntKind.wrap .i64 (r3102 + (r3103.size : Int))))))))))))
end cx
def cx {R : Type} : cx.F R := fun a0 a1 κ0 => cx.e aG aK aW a0 a1 κ0
abbrev b7.F (R : Type) : Type := Bool -> BA -> (LA -> Option R) -> Option R
namespace b7
abbrev J3 (R : Type) : Type := Int -> Bool -> BA -> LA -> Option R
def t3 {R : Type} (c1 : aG.F R) (c2 : aK.F R) (c3 : aW.F R) (j3 : J3 R) (κ0 : LA -> Option R) : J3 R :=
 fun x0 x1 x2 x3 => (bif x1 then (bif (decide ((x3.length : Int) < (12 : Int))) then (c1 x2 x0 (fun r3120 => (c2 x2 r3120 (fun r3121 => (bif (decide (r3121 = (⟨#[]⟩ : BA))) then (κ0 x3) else (c3 r3121 (fun r3122 => (bB (decide ((x3.length + 1) * 16 <= 140737488355328)) (c1 x2 (IntKind.wrap .i64 (r3120 + (r3121.size : Int))) (fun r3123 => (bif (decide (r3123 >= (x2.size : Int))) then (κ0 (x3 ++ [AV.str r3122])) else (bB ((decide ((0 : Int) <= r3123)) && (decide (r3123 < (x2.size : Int)))) (bif ((dJ x2 r3123) != 44) then (κ0 (x3 ++ [AV.str r3122])) else (j3 (IntKind.wrap .i64 (r3123 + 1)) x1 x2 (x3 ++ [AV.str r3122]))))))))))))))) else (κ0 x3)) else (κ0 x3))
def e {R : Type} (c1 : aG.F R) (c2 : aK.F R) (c3 : aW.F R) (a0 : Bool) (a1 : BA) (j3 : J3 R) (κ0 : LA -> Option R) : Option R :=
 (j3 0 a0 a1 ([] : LA))
def L3 {R : Type} (c1 : aG.F R) (c2 : aK.F R) (c3 : aW.F R) (κ0 : LA -> Option R) : Nat -> J3 R
 | 0 => fun _ _ _ _ => none
 | f + 1 => t3 c1 c2 c3 (L3 c1 c2 c3 κ0 f) κ0
end b7
def b7 {R : Type} : b7.F R := fun a0 a1 κ0 => b7.e aG aK aW a0 a1 (b7.L3 aG aK aW κ0 ag) κ0
abbrev aT.Q0 (R : Type) : Type := BA -> BA -> BA -> LA -> Bool -> BA -> Bool -> BA -> Bool -> BA -> Bool -> BA -> LA -> LA -> Bool -> BA -> Int -> Int -> Int -> Int -> Int -> Option R
abbrev aT.F (R : Type) : Type := BA -> Int -> Int -> BA -> Bool -> aT.Q0 R -> Option R
namespace aT
abbrev J6 (R : Type) : Type := BA -> BA -> BA -> Bool -> BA -> Bool -> BA -> Bool -> BA -> Bool -> BA -> Bool -> BA -> Int -> Int -> Int -> Int -> Int -> LA -> BA -> BA -> BA -> Bool -> BA -> Bool -> BA -> Bool -> BA -> Bool -> BA -> Bool -> BA -> Int -> Int -> Int -> Int -> Int -> LA -> Option R
abbrev Dk (R : Type) : Type := BA -> BA -> BA -> Bool -> BA -> Bool -> BA -> Bool -> BA -> Bool -> BA -> Bool -> BA -> Int -> Int -> Int -> Int -> Int -> BA -> BA -> BA -> LA -> Bool -> BA -> Bool -> BA -> Bool -> BA -> Bool -> BA -> LA -> LA -> Bool -> BA -> Int -> Int -> Int -> Int -> Int -> Option R
def t6 {R : Type} (c3 : dd.F R) (c5 : cX.F R) (c6 : cx.F R) (c7 : bb.F R) (c8 : b7.F R) (j16 : Dk R) : J6 R :=
 fun x0 x1 x2 x3 x4 x5 x6 x7 x8 x9 x10 x11 x12 x13 x14 x15 x16 x17 x18 x19 x20 x21 x22 x23 x24 x25 x26 x27 x28 x29 x30 x31 x32 x33 x34 x35 x36 x37 => (c3 x18 (⟨#[67, 111, 110, 116, 101, 110, 116, 45, 73, 100]⟩ : BA) (fun r3179 r3180 => (c5 r3179 r3180 (fun r3181 r3182 => (c3 x18 (⟨#[67, 111, 110, 116, 101, 110, 116, 45, 68, 101, 115, 99, 114, 105, 112, 116, 105, 111, 110]⟩ : BA) (fun r3183 r3184 => (c5 r3183 r3184 (fun r3185 r3186 => (c3 x18 (⟨#[67, 111, 110, 116, 101, 110, 116, 45, 76, 111, 99, 97, 116, 105, 111, 110]⟩ : BA) (fun r3187 r3188 => (c5 r3187 r3188 (fun r3189 r3190 => (c3 x18 (⟨#[67, 111, 110, 116, 101, 110, 116, 45, 84, 114, 97, 110, 115, 102, 101, 114, 45, 69, 110, 99, 111, 100, 105, 110, 103]⟩ : BA) (fun r3191 r3192 => (c6 r3191 r3192 (fun r3193 r3194 r3195 => (c3 x18 (⟨#[67, 111, 110, 116, 101, 110, 116, 45, 68, 105, 115, 112, 111, 115, 105, 116, 105, 111, 110]⟩ : BA) (fun r3196 r3197 => (c6 r3196 r3197 (fun r3198 r3199 r3200 => (bif r3198 then (c7 r3197 r3200 (fun r3201 => (c3 x18 (⟨#[67, 111, 110, 116, 101, 110, 116, 45, 76, 97, 110, 103, 117, 97, 103, 101]⟩ : BA) (fun r3202 r3203 => (c8 r3202 r3203 (fun r3204 => (j16 x0 x1 x2 x3 x4 x5 x6 x7 x8 x9 x10 x11 x12 x13 x14 x15 x16 x17 x19 x20 x21 x37 r3181 r3182 r3185 r3186 r3193 r3194 r3198 r3199 r3201 r3204 r3189 r3190 x32 x33 x34 x35 x36))))))) else (c3 x18 (⟨#[67, 111, 110, 116, 101, 110, 116, 45, 76, 97, 110, 103, 117, 97, 103, 101]⟩ : BA) (fun r3205 r3206 => (c8 r3205 r3206 (fun r3207 => (j16 x0 x1 x2 x3 x4 x5 x6 x7 x8 x9 x10 x11 x12 x13 x14 x15 x16 x17 x19 x20 x21 x37 r3181 r3182 r3185 r3186 r3193 r3194 r3198 r3199 ([] : LA) r3207 r3189 r3190 x32 x33 x34 x35 x36))))))))))))))))))))))))))
def t16 {R : Type} (κ0 : Q0 R) : Dk R :=
 fun x0 x1 x2 x3 x4 x5 x6 x7 x8 x9 x10 x11 x12 x13 x14 x15 x16 x17 x18 x19 x20 x21 x22 x23 x24 x25 x26 x27 x28 x29 x30 x31 x32 x33 x34 x35 x36 x37 x38 => (κ0 x18 x19 x20 x21 x22 x23 x24 x25 x26 x27 x28 x29 x30 x31 x32 x33 x34 x35 x36 x37 x38)
def e {R : Type} (c1 : cf.F R) (c2 : bS.F R) (c3 : dd.F R) (c4 : cR.F R) (c5 : cX.F R) (c6 : cx.F R) (c7 : bb.F R) (c8 : b7.F R) (a0 : BA) (a1 : Int) (a2 : Int) (a3 : BA) (a4 : Bool) (j6 : J6 R) (j16 : Dk R) (κ0 : Q0 R) : Option R :=
 (bB ((decide ((0 : Int) <= a1)) && ((decide (a1 <= a2)) && (decide (a2 <= (a0.size : Int))))) (c1 (a0.extract (a1).toNat (a2).toNat) (fun r3169 r3170 => (c2 r3169 (fun r3171 => (c3 r3171 (⟨#[67, 111, 110, 116, 101, 110, 116, 45, 84, 121, 112, 101]⟩ : BA) (fun r3172 r3173 => (c4 r3172 r3173 a4 (fun r3174 r3175 r3176 => (j6 (⟨#[]⟩ : BA) (⟨#[]⟩ : BA) (⟨#[]⟩ : BA) false (⟨#[]⟩ : BA) false (⟨#[]⟩ : BA) false (⟨#[]⟩ : BA) false (⟨#[]⟩ : BA) false (⟨#[]⟩ : BA) 0 0 0 0 0 r3171 a3 r3174 r3175 false (⟨#[]⟩ : BA) false (⟨#[]⟩ : BA) false (⟨#[]⟩ : BA) false (⟨#[]⟩ : BA) false (⟨#[]⟩ : BA) a1 (IntKind.wrap .i64 (a1 + (r3169.size : Int))) (IntKind.wrap .i64 (a1 + (r3169.size : Int))) a2 0 r3176)) (fun r3177 r3178 => (j6 (⟨#[]⟩ : BA) (⟨#[]⟩ : BA) (⟨#[]⟩ : BA) false (⟨#[]⟩ : BA) false (⟨#[]⟩ : BA) false (⟨#[]⟩ : BA) false (⟨#[]⟩ : BA) false (⟨#[]⟩ : BA) 0 0 0 0 0 r3171 a3 r3177 r3178 false (⟨#[]⟩ : BA) false (⟨#[]⟩ : BA) false (⟨#[]⟩ : BA) false (⟨#[]⟩ : BA) false (⟨#[]⟩ : BA) a1 (IntKind.wrap .i64 (a1 + (r3169.size : Int))) (IntKind.wrap .i64 (a1 + (r3169.size : Int))) a2 0 ([] : LA)))))))))))
def BG {R : Type} (c1 : cf.F R) (c2 : bS.F R) (c3 : dd.F R) (c4 : cR.F R) (c5 : cX.F R) (c6 : cx.F R) (c7 : bb.F R) (c8 : b7.F R) (κ0 : Q0 R) : Nat -> Dk R
 | 0 => fun _ _ _ _ _ _ _ _ _ _ _ _ _ _ _ _ _ _ _ _ _ _ _ _ _ _ _ _ _ _ _ _ _ _ _ _ _ _ _ => none
 | f + 1 => t16 κ0
def L6 {R : Type} (c1 : cf.F R) (c2 : bS.F R) (c3 : dd.F R) (c4 : cR.F R) (c5 : cX.F R) (c6 : cx.F R) (c7 : bb.F R) (c8 : b7.F R) (κ0 : Q0 R) : Nat -> J6 R
 | 0 => fun _ _ _ _ _ _ _ _ _ _ _ _ _ _ _ _ _ _ _ _ _ _ _ _ _ _ _ _ _ _ _ _ _ _ _ _ _ _ => none
 | f + 1 => t6 c3 c5 c6 c7 c8 (BG c1 c2 c3 c4 c5 c6 c7 c8 κ0 f)
end aT
def aT {R : Type} : aT.F R := fun a0 a1 a2 a3 a4 κ0 => aT.e cf bS dd cR cX cx bb b7 a0 a1 a2 a3 a4 (aT.L6 cf bS dd cR cX cx bb b7 κ0 ag) (aT.BG cf bS dd cR cX cx bb b7 κ0 ag) κ0
abbrev br.F (R : Type) : Type := BA -> (Int -> Option R) -> Option R
namespace br
abbrev J3 (R : Type) : Type := BA -> Int -> Int -> Option R
def t3 {R : Type} (j3 : J3 R) (κ0 : Int -> Option R) : J3 R :=
 fun x0 x1 x2 => (bif (decide ((IntKind.wrap .i64 (x2 + 1)) < (x0.size : Int))) then (bB ((decide ((0 : Int) <= x2)) && (decide (x2 < (x0.size : Int)))) (bif ((dJ x0 x2) == 13) then (bB ((decide ((0 : Int) <= (IntKind.wrap .i64 (x2 + 1)))) && (decide ((IntKind.wrap .i64 (x2 + 1)) < (x0.size : Int)))) (bif ((dJ x0 (IntKind.wrap .i64 (x2 + 1))) == 10) then (j3 x0 (IntKind.wrap .i64 (x1 + 1)) (IntKind.wrap .i64 (x2 + 1))) else (j3 x0 x1 (IntKind.wrap .i64 (x2 + 1))))) else (j3 x0 x1 (IntKind.wrap .i64 (x2 + 1))))) else (κ0 x1))
def e {R : Type} (a0 : BA) (j3 : J3 R) (κ0 : Int -> Option R) : Option R :=
 (j3 a0 0 0)
def L3 {R : Type} (κ0 : Int -> Option R) : Nat -> J3 R
 | 0 => fun _ _ _ => none
 | f + 1 => t3 (L3 κ0 f) κ0
end br
def br {R : Type} : br.F R := fun a0 κ0 => br.e a0 (br.L3 κ0 ag) κ0
abbrev cy.F (R : Type) : Type := LA -> BA -> (BA -> Option R) -> Option R
namespace cy
abbrev J2 (R : Type) : Type := LA -> BA -> Int -> Option R
def t2 {R : Type} (j2 : J2 R) (κ0 : BA -> Option R) : J2 R :=
 fun x0 x1 x2 => (bif (decide (x2 < (x0.length : Int))) then (bB ((decide ((0 : Int) <= x2)) && (decide (x2 < (x0.length : Int)))) (bif (decide (((bK x0 x2).fld 0).s = x1)) then (bB ((decide ((0 : Int) <= x2)) && (decide (x2 < (x0.length : Int)))) (κ0 ((bK x0 x2).fld 1).s)) else (j2 x0 x1 (IntKind.wrap .i64 (x2 + 1))))) else (κ0 (⟨#[]⟩ : BA)))
def e {R : Type} (a0 : LA) (a1 : BA) (j2 : J2 R) (κ0 : BA -> Option R) : Option R :=
 (j2 a0 a1 0)
def L2 {R : Type} (κ0 : BA -> Option R) : Nat -> J2 R
 | 0 => fun _ _ _ => none
 | f + 1 => t2 (L2 κ0 f) κ0
end cy
def cy {R : Type} : cy.F R := fun a0 a1 κ0 => cy.e a0 a1 (cy.L2 κ0 ag) κ0
abbrev bU.F (R : Type) : Type := BA -> (Bool -> Option R) -> Option R
namespace bU
def t2 {R : Type} (j2 : BA -> Int -> Option R) (κ0 : Bool -> Option R) : BA -> Int -> Option R :=
 fun x0 x1 => (bif (decide ((IntKind.wrap .i64 (x1 + 1)) < (x0.size : Int))) then (bB ((decide ((0 : Int) <= x1)) && (decide (x1 < (x0.size : Int)))) (bif ((dJ x0 x1) == 13) then (bB ((decide ((0 : Int) <= (IntKind.wrap .i64 (x1 + 1)))) && (decide ((IntKind.wrap .i64 (x1 + 1)) < (x0.size : Int)))) (bif ((dJ x0 (IntKind.wrap .i64 (x1 + 1))) == 10) then (κ0 true) else (j2 x0 (IntKind.wrap .i64 (x1 + 1))))) else (j2 x0 (IntKind.wrap .i64 (x1 + 1))))) else (κ0 false))
def e {R : Type} (a0 : BA) (j2 : BA -> Int -> Option R) (κ0 : Bool -> Option R) : Option R :=
 (j2 a0 0)
def L2 {R : Type} (κ0 : Bool -> Option R) : Nat -> BA -> Int -> Option R
 | 0 => fun _ _ => none
 | f + 1 => t2 (L2 κ0 f) κ0
end bU
def bU {R : Type} : bU.F R := fun a0 κ0 => bU.e a0 (bU.L2 κ0 ag) κ0
abbrev bz.F (R : Type) : Type := BA -> Int -> BA -> (Int -> Int -> Option R) -> Option R
namespace bz
abbrev J9 (R : Type) : Type := BA -> Int -> Int -> Option R
def t9 {R : Type} (j9 : J9 R) (κ0 : Int -> Int -> Option R) : J9 R :=
 fun x0 x1 x2 => (bif (decide (x1 < (x0.size : Int))) then (bB ((decide ((0 : Int) <= x1)) && (decide (x1 < (x0.size : Int)))) (bif ((dJ x0 x1) == 32) then (j9 x0 (IntKind.wrap .i64 (x1 + 1)) x2) else (bB ((decide ((0 : Int) <= x1)) && (decide (x1 < (x0.size : Int)))) (bif ((dJ x0 x1) == 9) then (j9 x0 (IntKind.wrap .i64 (x1 + 1)) x2) else (bif (x1 == (x0.size : Int)) then (κ0 x2 x1) else (bif (decide ((IntKind.wrap .i64 (x1 + 2)) <= (x0.size : Int))) then (bB ((decide ((0 : Int) <= x1)) && (decide (x1 < (x0.size : Int)))) (bif ((dJ x0 x1) == 13) then (bB ((decide ((0 : Int) <= (IntKind.wrap .i64 (x1 + 1)))) && (decide ((IntKind.wrap .i64 (x1 + 1)) < (x0.size : Int)))) (bif ((dJ x0 (IntKind.wrap .i64 (x1 + 1))) == 10) then (κ0 x2 (IntKind.wrap .i64 (x1 + 2))) else (κ0 0 0))) else (κ0 0 0))) else (κ0 0 0))))))) else (bif (x1 == (x0.size : Int)) then (κ0 x2 x1) else (bif (decide ((IntKind.wrap .i64 (x1 + 2)) <= (x0.size : Int))) then (bB ((decide ((0 : Int) <= x1)) && (decide (x1 < (x0.size : Int)))) (bif ((dJ x0 x1) == 13) then (bB ((decide ((0 : Int) <= (IntKind.wrap .i64 (x1 + 1)))) && (decide ((IntKind.wrap .i64 (x1 + 1)) < (x0.size : Int)))) (bif ((dJ x0 (IntKind.wrap .i64 (x1 + 1))) == 10) then (κ0 x2 (IntKind.wrap .i64 (x1 + 2))) else (κ0 0 0))) else (κ0 0 0))) else (κ0 0 0))))
def e {R : Type} (a0 : BA) (a1 : Int) (a2 : BA) (j9 : J9 R) (κ0 : Int -> Int -> Option R) : Option R :=
 (bif (decide ((IntKind.wrap .i64 ((IntKind.wrap .i64 (a1 + 2)) + (a2.size : Int))) > (a0.size : Int))) then (κ0 0 0) else (bB ((decide ((0 : Int) <= a1)) && ((decide (a1 <= (IntKind.wrap .i64 (a1 + 2)))) && (decide ((IntKind.wrap .i64 (a1 + 2)) <= (a0.size : Int))))) (bif (!decide ((a0.extract (a1).toNat ((IntKind.wrap .i64 (a1 + 2))).toNat) = (⟨#[45, 45]⟩ : BA))) then (κ0 0 0) else (bB ((decide ((0 : Int) <= (IntKind.wrap .i64 (a1 + 2)))) && ((decide ((IntKind.wrap .i64 (a1 + 2)) <= (IntKind.wrap .i64 ((IntKind.wrap .i64 (a1 + 2)) + (a2.size : Int))))) && (decide ((IntKind.wrap .i64 ((IntKind.wrap .i64 (a1 + 2)) + (a2.size : Int))) <= (a0.size : Int))))) (bif (!decide ((a0.extract ((IntKind.wrap .i64 (a1 + 2))).toNat ((IntKind.wrap .i64 ((IntKind.wrap .i64 (a1 + 2)) + (a2.size : Int)))).toNat) = a2)) then (κ0 0 0) else (bif (decide ((IntKind.wrap .i64 ((IntKind.wrap .i64 ((IntKind.wrap .i64 (a1 + 2)) + (a2.size : Int))) + 2)) <= (a0.size : Int))) then (bB ((decide ((0 : Int) <= (IntKind.wrap .i64 ((IntKind.wrap .i64 (a1 + 2)) + (a2.size : Int))))) && ((decide ((IntKind.wrap .i64 ((IntKind.wrap .i64 (a1 + 2)) + (a2.size : Int))) <= (IntKind.wrap .i64 ((IntKind.wrap .i64 ((IntKind.wrap .i64 (a1 + 2)) + (a2.size : Int))) + 2)))) && (decide ((IntKind.wrap .i64 ((IntKind.wrap .i64 ((IntKind.wrap .i64 (a1 + 2)) + (a2.size : Int))) + 2)) <= (a0.size : Int))))) (bif (decide ((a0.extract ((IntKind.wrap .i64 ((IntKind.wrap .i64 (a1 + 2)) + (a2.size : Int)))).toNat ((IntKind.wrap .i64 ((IntKind.wrap .i64 ((IntKind.wrap .i64 (a1 + 2)) + (a2.size : Int))) + 2))).toNat) = (⟨#[45, 45]⟩ : BA))) then (j9 a0 (IntKind.wrap .i64 ((IntKind.wrap .i64 ((IntKind.wrap .i64 (a1 + 2)) + (a2.size : Int))) + 2)) 2) else (j9 a0 (IntKind.wrap .i64 ((IntKind.wrap .i64 (a1 + 2)) + (a2.size : Int))) 1))) else (j9 a0 (IntKind.wrap .i64 ((IntKind.wrap .i64 (a1 + 2)) + (a2.size : Int))) 1)))))))
def L9 {R : Type} (κ0 : Int -> Int -> Option R) : Nat -> J9 R
 | 0 => fun _ _ _ => none
 | f + 1 => t9 (L9 κ0 f) κ0
end bz
def bz {R : Type} : bz.F R := fun a0 a1 a2 κ0 => bz.e a0 a1 a2 (bz.L9 κ0 ag) κ0
abbrev bZ.F (R : Type) : Type := BA -> Int -> (Int -> Option R) -> Option R
namespace bZ
def t2 {R : Type} (j2 : BA -> Int -> Option R) (κ0 : Int -> Option R) : BA -> Int -> Option R :=
 fun x0 x1 => (bif (decide ((IntKind.wrap .i64 (x1 + 1)) < (x0.size : Int))) then (bB ((decide ((0 : Int) <= x1)) && (decide (x1 < (x0.size : Int)))) (bif ((dJ x0 x1) == 13) then (bB ((decide ((0 : Int) <= (IntKind.wrap .i64 (x1 + 1)))) && (decide ((IntKind.wrap .i64 (x1 + 1)) < (x0.size : Int)))) (bif ((dJ x0 (IntKind.wrap .i64 (x1 + 1))) == 10) then (κ0 (IntKind.wrap .i64 (x1 + 2))) else (j2 x0 (IntKind.wrap .i64 (x1 + 1))))) else (j2 x0 (IntKind.wrap .i64 (x1 + 1))))) else (κ0 (x0.size : Int)))
def e {R : Type} (a0 : BA) (a1 : Int) (j2 : BA -> Int -> Option R) (κ0 : Int -> Option R) : Option R :=
 (j2 a0 a1)
def L2 {R : Type} (κ0 : Int -> Option R) : Nat -> BA -> Int -> Option R
 | 0 => fun _ _ => none
 | f + 1 => t2 (L2 κ0 f) κ0
end bZ
def bZ {R : Type} : bZ.F R := fun a0 a1 κ0 => bZ.e a0 a1 (bZ.L2 κ0 ag) κ0
abbrev cq.F (R : Type) : Type := BA -> BA -> (LA -> Option R) -> Option R
namespace cq
abbrev J4 (R : Type) : Type := BA -> BA -> Int -> Int -> LA -> Option R
def t4 {R : Type} (c1 : bz.F R) (c2 : bZ.F R) (j4 : J4 R) (κ0 : LA -> Option R) : J4 R :=
 fun x0 x1 x2 x3 x4 => (bif (decide (x3 < (x0.size : Int))) then (c1 x0 x3 x1 (fun r3234 r3235 => (bif (decide (r3234 > (0 : Int))) then (bif (decide (x2 >= (0 : Int))) then (bB (decide ((x4.length + 1) * 16 <= 140737488355328)) (bif (r3234 == 2) then (κ0 (x4 ++ [AV.agg [AV.int x2, AV.int (max2 x2 (IntKind.wrap .i64 (x3 - 2)))]])) else (j4 x0 x1 r3235 r3235 (x4 ++ [AV.agg [AV.int x2, AV.int (max2 x2 (IntKind.wrap .i64 (x3 - 2)))]])))) else (bif (r3234 == 2) then (κ0 x4) else (j4 x0 x1 r3235 r3235 x4))) else (c2 x0 x3 (fun r3236 => (j4 x0 x1 x2 r3236 x4)))))) else (bif (decide (x2 >= (0 : Int))) then (bB (decide ((x4.length + 1) * 16 <= 140737488355328)) (κ0 (x4 ++ [AV.agg [AV.int x2, AV.int (x0.size : Int)]]))) else (κ0 x4)))
def e {R : Type} (c1 : bz.F R) (c2 : bZ.F R) (a0 : BA) (a1 : BA) (j4 : J4 R) (κ0 : LA -> Option R) : Option R :=
 (j4 a0 a1 (-1) 0 ([] : LA))
def L4 {R : Type} (c1 : bz.F R) (c2 : bZ.F R) (κ0 : LA -> Option R) : Nat -> J4 R
 | 0 => fun _ _ _ _ _ => none
 | f + 1 => t4 c1 c2 (L4 c1 c2 κ0 f) κ0
end cq
def cq {R : Type} : cq.F R := fun a0 a1 κ0 => cq.e bz bZ a0 a1 (cq.L4 bz bZ κ0 ag) κ0
abbrev aN.F (R : Type) : Type := BA -> BA -> BA -> BA -> LA -> Bool -> BA -> Bool -> BA -> Bool -> BA -> Bool -> BA -> LA -> LA -> Bool -> BA -> Int -> Int -> Int -> Int -> Int -> Option R -> (LA -> Option R) -> Option R
namespace aN
abbrev sd (R : Type) : Type := Int -> BA -> BA -> BA -> LA -> Bool -> BA -> Bool -> BA -> Bool -> BA -> Bool -> BA -> LA -> LA -> Bool -> BA -> Int -> Int -> Int -> Int -> Int -> LA -> Option R
def t11 {R : Type} (j11 : sd R) (κ1 : LA -> Option R) : sd R :=
 fun x0 x1 x2 x3 x4 x5 x6 x7 x8 x9 x10 x11 x12 x13 x14 x15 x16 x17 x18 x19 x20 x21 x22 => (bif (decide (x0 < (x22.length : Int))) then (bB ((decide ((0 : Int) <= x0)) && (decide (x0 < (x22.length : Int)))) (bB ((decide ((0 : Int) <= x0)) && (decide (x0 < (x22.length : Int)))) (bB ((decide ((0 : Int) <= x0)) && (decide (x0 < ((dR x22 x0 (AV.agg [AV.int (IntKind.wrap .i64 (((bK x22 x0).fld 0).i + x19)), AV.int ((bK x22 x0).fld 1).i])).length : Int)))) (bB ((decide ((0 : Int) <= x0)) && (decide (x0 < ((dR x22 x0 (AV.agg [AV.int (IntKind.wrap .i64 (((bK x22 x0).fld 0).i + x19)), AV.int ((bK x22 x0).fld 1).i])).length : Int)))) (j11 (IntKind.wrap .i64 (x0 + 1)) x1 x2 x3 x4 x5 x6 x7 x8 x9 x10 x11 x12 x13 x14 x15 x16 x17 x18 x19 x20 x21 (dR (dR x22 x0 (AV.agg [AV.int (IntKind.wrap .i64 (((bK x22 x0).fld 0).i + x19)), AV.int ((bK x22 x0).fld 1).i])) x0 (AV.agg [AV.int ((bK (dR x22 x0 (AV.agg [AV.int (IntKind.wrap .i64 (((bK x22 x0).fld 0).i + x19)), AV.int ((bK x22 x0).fld 1).i])) x0).fld 0).i, AV.int (IntKind.wrap .i64 (((bK (dR x22 x0 (AV.agg [AV.int (IntKind.wrap .i64 (((bK x22 x0).fld 0).i + x19)), AV.int ((bK x22 x0).fld 1).i])) x0).fld 1).i + x19))]))))))) else (κ1 x22))
def e {R : Type} (c1 : cy.F R) (c2 : bU.F R) (c3 : cq.F R) (a0 : BA) (a1 : BA) (a2 : BA) (a3 : BA) (a4 : LA) (a5 : Bool) (a6 : BA) (a7 : Bool) (a8 : BA) (a9 : Bool) (a10 : BA) (a11 : Bool) (a12 : BA) (a13 : LA) (a14 : LA) (a15 : Bool) (a16 : BA) (a17 : Int) (a18 : Int) (a19 : Int) (a20 : Int) (a21 : Int) (j11 : sd R) (κ0 : Option R) (κ1 : LA -> Option R) : Option R :=
 (bif (decide (a2 = (⟨#[109, 101, 115, 115, 97, 103, 101]⟩ : BA))) then (bif (decide (a3 = (⟨#[114, 102, 99, 56, 50, 50]⟩ : BA))) then (bif a9 then (bif (!decide (a10 = (⟨#[55, 98, 105, 116]⟩ : BA))) then (bif (!decide (a10 = (⟨#[56, 98, 105, 116]⟩ : BA))) then (bif (!decide (a10 = (⟨#[98, 105, 110, 97, 114, 121]⟩ : BA))) then κ0 else (κ1 [AV.agg [AV.int a19, AV.int a20]])) else (κ1 [AV.agg [AV.int a19, AV.int a20]])) else (κ1 [AV.agg [AV.int a19, AV.int a20]])) else (κ1 [AV.agg [AV.int a19, AV.int a20]])) else (c1 a4 (⟨#[98, 111, 117, 110, 100, 97, 114, 121]⟩ : BA) (fun r3230 => (bif (!decide (a2 = (⟨#[109, 117, 108, 116, 105, 112, 97, 114, 116]⟩ : BA))) then κ0 else (bif (decide ((r3230.size : Int) < (1 : Int))) then κ0 else (bif (decide ((r3230.size : Int) > (70 : Int))) then κ0 else (c2 r3230 (fun r3231 => (bif r3231 then κ0 else (bB ((decide ((0 : Int) <= a19)) && ((decide (a19 <= a20)) && (decide (a20 <= (a0.size : Int))))) (c3 (a0.extract (a19).toNat (a20).toNat) r3230 (fun r3237 => (j11 0 a1 a2 a3 a4 a5 a6 a7 a8 a9 a10 a11 a12 a13 a14 a15 a16 a17 a18 a19 a20 a21 r3237))))))))))))) else (c1 a4 (⟨#[98, 111, 117, 110, 100, 97, 114, 121]⟩ : BA) (fun r3238 => (bif (!decide (a2 = (⟨#[109, 117, 108, 116, 105, 112, 97, 114, 116]⟩ : BA))) then κ0 else (bif (decide ((r3238.size : Int) < (1 : Int))) then κ0 else (bif (decide ((r3238.size : Int) > (70 : Int))) then κ0 else (c2 r3238 (fun r3239 => (bif r3239 then κ0 else (bB ((decide ((0 : Int) <= a19)) && ((decide (a19 <= a20)) && (decide (a20 <= (a0.size : Int))))) (c3 (a0.extract (a19).toNat (a20).toNat) r3238 (fun r3240 => (j11 0 a1 a2 a3 a4 a5 a6 a7 a8 a9 a10 a11 a12 a13 a14 a15 a16 a17 a18 a19 a20 a21 r3240)))))))))))))
def qS {R : Type} (c1 : cy.F R) (c2 : bU.F R) (c3 : cq.F R) (κ0 : Option R) (κ1 : LA -> Option R) : Nat -> sd R
 | 0 => fun _ _ _ _ _ _ _ _ _ _ _ _ _ _ _ _ _ _ _ _ _ _ _ => none
 | f + 1 => t11 (qS c1 c2 c3 κ0 κ1 f) κ1
end aN
def aN {R : Type} : aN.F R := fun a0 a1 a2 a3 a4 a5 a6 a7 a8 a9 a10 a11 a12 a13 a14 a15 a16 a17 a18 a19 a20 a21 κ0 κ1 => aN.e cy bU cq a0 a1 a2 a3 a4 a5 a6 a7 a8 a9 a10 a11 a12 a13 a14 a15 a16 a17 a18 a19 a20 a21 (aN.qS cy bU cq κ0 κ1 ag) κ0 κ1
abbrev bc.F (R : Type) : Type := Int -> (BA -> Option R) -> Option R
namespace bc
def e {R : Type} (c1 : bc.F R) (a0 : Int) (κ0 : BA -> Option R) : Option R :=
 (bif (decide (a0 < (10 : Int))) then (κ0 (fF [AV.int (IntKind.wrap .u8 (IntKind.wrap .i64 (48 + a0)))])) else (c1 (IntKind.wrap .i64 (Int.tdiv a0 10)) (fun r3243 => (c1 (Int.tmod a0 10) (fun r3244 => (bB (decide (r3243.size + r3244.size <= 9223372036854775807)) (κ0 (r3243 ++ r3244))))))))
def B {R : Type} (c1 : bc.F R) : F R := fun a0 κ0 => e c1 a0 κ0
def R {R : Type} : Nat -> F R
 | 0 => fun _ _ => none
 | n + 1 => B (bc.R n)
end bc
def bc {R : Type} : bc.F R := bc.R ag
abbrev bf.F (R : Type) : Type := BA -> Int -> (BA -> Option R) -> Option R
namespace bf
def e {R : Type} (c1 : bc.F R) (a0 : BA) (a1 : Int) (κ0 : BA -> Option R) : Option R :=
 (bif (decide (a0 = (⟨#[]⟩ : BA))) then (c1 a1 (fun r3245 => (κ0 r3245))) else (bB (decide (a0.size + (⟨#[46]⟩ : BA).size <= 9223372036854775807)) (c1 a1 (fun r3246 => (bB (decide ((a0 ++ (⟨#[46]⟩ : BA)).size + r3246.size <= 9223372036854775807)) (κ0 ((a0 ++ (⟨#[46]⟩ : BA)) ++ r3246)))))))
end bf
def bf {R : Type} : bf.F R := fun a0 a1 κ0 => bf.e bc a0 a1 κ0
abbrev ao.Q0 (R : Type) : Type := BA -> BA -> BA -> LA -> Bool -> BA -> Bool -> BA -> Bool -> BA -> Bool -> BA -> LA -> LA -> Bool -> BA -> Int -> Int -> Int -> Int -> Int -> LA -> Int -> Option R
abbrev ao.F (R : Type) : Type := BA -> BA -> BA -> BA -> LA -> Bool -> BA -> Bool -> BA -> Bool -> BA -> Bool -> BA -> LA -> LA -> Bool -> BA -> Int -> Int -> Int -> Int -> Int -> Int -> Bool -> Int -> ao.Q0 R -> Option R
namespace ao
abbrev J2 (R : Type) : Type := BA -> Int -> Bool -> Int -> Bool -> BA -> BA -> BA -> LA -> Bool -> BA -> Bool -> BA -> Bool -> BA -> Bool -> BA -> LA -> LA -> Bool -> BA -> Int -> Int -> Int -> Int -> Int -> BA -> BA -> BA -> Bool -> BA -> Bool -> BA -> Bool -> BA -> Bool -> BA -> Bool -> BA -> Int -> Int -> Int -> Int -> Int -> Option R
abbrev J4 (R : Type) : Type := BA -> Int -> Bool -> Int -> Bool -> BA -> BA -> BA -> LA -> Bool -> BA -> Bool -> BA -> Bool -> BA -> Bool -> BA -> LA -> LA -> Bool -> BA -> Int -> Int -> Int -> Int -> Int -> BA -> BA -> BA -> Bool -> BA -> Bool -> BA -> Bool -> BA -> Bool -> BA -> Bool -> BA -> Int -> Int -> Int -> Int -> Int -> Option R
abbrev J5 (R : Type) : Type := Int -> BA -> BA -> BA -> LA -> Bool -> BA -> Bool -> BA -> Bool -> BA -> Bool -> BA -> LA -> LA -> Bool -> BA -> Int -> Int -> Int -> Int -> Int -> LA -> BA -> BA -> BA -> Bool -> BA -> Bool -> BA -> Bool -> BA -> Bool -> BA -> Bool -> BA -> Int -> Int -> Int -> Int -> Int -> Option R
abbrev J7 (R : Type) : Type := BA -> Int -> Bool -> Int -> Bool -> BA -> BA -> BA -> LA -> Bool -> BA -> Bool -> BA -> Bool -> BA -> Bool -> BA -> LA -> LA -> Bool -> BA -> Int -> Int -> Int -> Int -> Int -> BA -> BA -> BA -> Bool -> BA -> Bool -> BA -> Bool -> BA -> Bool -> BA -> Bool -> BA -> Int -> Int -> Int -> Int -> Int -> LA -> Option R
abbrev sd (R : Type) : Type := Int -> BA -> BA -> BA -> LA -> Bool -> BA -> Bool -> BA -> Bool -> BA -> Bool -> BA -> LA -> LA -> Bool -> BA -> Int -> Int -> Int -> Int -> Int -> LA -> BA -> BA -> BA -> Bool -> BA -> Bool -> BA -> Bool -> BA -> Bool -> BA -> Bool -> BA -> Int -> Int -> Int -> Int -> Int -> Option R
abbrev Dl (R : Type) : Type := BA -> Int -> Int -> BA -> BA -> BA -> BA -> LA -> Bool -> BA -> Bool -> BA -> Bool -> BA -> Bool -> BA -> LA -> LA -> Bool -> BA -> Int -> Int -> Int -> Int -> Int -> BA -> BA -> BA -> Bool -> BA -> Bool -> BA -> Bool -> BA -> Bool -> BA -> Bool -> BA -> Int -> Int -> Int -> Int -> Int -> LA -> Option R
abbrev Dm (R : Type) : Type := Int -> BA -> BA -> BA -> LA -> Bool -> BA -> Bool -> BA -> Bool -> BA -> Bool -> BA -> LA -> LA -> Bool -> BA -> Int -> Int -> Int -> Int -> Int -> LA -> BA -> BA -> BA -> Bool -> BA -> Bool -> BA -> Bool -> BA -> Bool -> BA -> Bool -> BA -> Int -> Int -> Int -> Int -> Int -> Option R
abbrev Da (R : Type) : Type := BA -> Int -> Int -> Int -> BA -> BA -> BA -> LA -> Bool -> BA -> Bool -> BA -> Bool -> BA -> Bool -> BA -> LA -> LA -> Bool -> BA -> Int -> Int -> Int -> Int -> Int -> LA -> BA -> BA -> BA -> Bool -> BA -> Bool -> BA -> Bool -> BA -> Bool -> BA -> Bool -> BA -> Int -> Int -> Int -> Int -> Int -> LA -> Option R
abbrev Dn (R : Type) : Type := Int -> BA -> BA -> BA -> LA -> Bool -> BA -> Bool -> BA -> Bool -> BA -> Bool -> BA -> LA -> LA -> Bool -> BA -> Int -> Int -> Int -> Int -> Int -> LA -> BA -> BA -> BA -> Bool -> BA -> Bool -> BA -> Bool -> BA -> Bool -> BA -> Bool -> BA -> Int -> Int -> Int -> Int -> Int -> Option R
def t2 {R : Type} (c1 : br.F R) (j4 : J4 R) : J2 R :=
 fun x0 x1 x2 x3 x4 x5 x6 x7 x8 x9 x10 x11 x12 x13 x14 x15 x16 x17 x18 x19 x20 x21 x22 x23 x24 x25 x26 x27 x28 x29 x30 x31 x32 x33 x34 x35 x36 x37 x38 x39 x40 x41 x42 x43 => (bif (decide (x6 = (⟨#[116, 101, 120, 116]⟩ : BA))) then (bB ((decide ((0 : Int) <= x23)) && ((decide (x23 <= x24)) && (decide (x24 <= (x0.size : Int))))) (c1 (x0.extract (x23).toNat (x24).toNat) (fun r5480 => (j4 x0 x1 x2 x3 x4 x5 x6 x7 x8 x9 x10 x11 x12 x13 x14 x15 x16 x17 x18 x19 x20 x21 x22 x23 x24 r5480 x26 x27 x28 x29 x30 x31 x32 x33 x34 x35 x36 x37 x38 x39 x40 x41 x42 x43)))) else (j4 x0 x1 x2 x3 x4 x5 x6 x7 x8 x9 x10 x11 x12 x13 x14 x15 x16 x17 x18 x19 x20 x21 x22 x23 x24 x25 x26 x27 x28 x29 x30 x31 x32 x33 x34 x35 x36 x37 x38 x39 x40 x41 x42 x43))
def t4 {R : Type} (c2 : aN.F R) (j5 : J5 R) (j7 : J7 R) : J4 R :=
 fun x0 x1 x2 x3 x4 x5 x6 x7 x8 x9 x10 x11 x12 x13 x14 x15 x16 x17 x18 x19 x20 x21 x22 x23 x24 x25 x26 x27 x28 x29 x30 x31 x32 x33 x34 x35 x36 x37 x38 x39 x40 x41 x42 x43 => (bif (!decide (x6 = (⟨#[109, 117, 108, 116, 105, 112, 97, 114, 116]⟩ : BA))) then (bif (!x4) then (j5 x3 x5 x6 x7 x8 x9 x10 x11 x12 x13 x14 x15 x16 x17 x18 x19 x20 x21 x22 x23 x24 x25 ([] : LA) x26 x27 x28 x29 x30 x31 x32 x33 x34 x35 x36 x37 x38 x39 x40 x41 x42 x43) else (c2 x0 x5 x6 x7 x8 x9 x10 x11 x12 x13 x14 x15 x16 x17 x18 x19 x20 x21 x22 x23 x24 x25 (j7 x0 x1 x2 x3 x4 x5 x6 x7 x8 x9 x10 x11 x12 x13 x14 x15 x16 x17 x18 x19 x20 x21 x22 x23 x24 x25 x26 x27 x28 x29 x30 x31 x32 x33 x34 x35 x36 x37 x38 x39 x40 x41 x42 x43 ([] : LA)) (fun r5481 => (j7 x0 x1 x2 x3 x4 x5 x6 x7 x8 x9 x10 x11 x12 x13 x14 x15 x16 x17 x18 x19 x20 x21 x22 x23 x24 x25 x26 x27 x28 x29 x30 x31 x32 x33 x34 x35 x36 x37 x38 x39 x40 x41 x42 x43 r5481)))) else (c2 x0 x5 x6 x7 x8 x9 x10 x11 x12 x13 x14 x15 x16 x17 x18 x19 x20 x21 x22 x23 x24 x25 (j7 x0 x1 x2 x3 x4 x5 x6 x7 x8 x9 x10 x11 x12 x13 x14 x15 x16 x17 x18 x19 x20 x21 x22 x23 x24 x25 x26 x27 x28 x29 x30 x31 x32 x33 x34 x35 x36 x37 x38 x39 x40 x41 x42 x43 ([] : LA)) (fun r5482 => (j7 x0 x1 x2 x3 x4 x5 x6 x7 x8 x9 x10 x11 x12 x13 x14 x15 x16 x17 x18 x19 x20 x21 x22 x23 x24 x25 x26 x27 x28 x29 x30 x31 x32 x33 x34 x35 x36 x37 x38 x39 x40 x41 x42 x43 r5482))))
def t5 {R : Type} (κ0 : Q0 R) : J5 R :=
 fun x0 x1 x2 x3 x4 x5 x6 x7 x8 x9 x10 x11 x12 x13 x14 x15 x16 x17 x18 x19 x20 x21 x22 x23 x24 x25 x26 x27 x28 x29 x30 x31 x32 x33 x34 x35 x36 x37 x38 x39 x40 => (κ0 x1 x2 x3 x4 x5 x6 x7 x8 x9 x10 x11 x12 x13 x14 x15 x16 x17 x18 x19 x20 x21 x22 x0)
def t7 {R : Type} (c1 : br.F R) (c3 : bf.F R) (j11 : sd R) (j18 : Dl R) (j22 : Da R) : J7 R :=
 fun x0 x1 x2 x3 x4 x5 x6 x7 x8 x9 x10 x11 x12 x13 x14 x15 x16 x17 x18 x19 x20 x21 x22 x23 x24 x25 x26 x27 x28 x29 x30 x31 x32 x33 x34 x35 x36 x37 x38 x39 x40 x41 x42 x43 x44 => (bif ((x44.length : Int) == 0) then (j11 x3 x5 (⟨#[97, 112, 112, 108, 105, 99, 97, 116, 105, 111, 110]⟩ : BA) (⟨#[111, 99, 116, 101, 116, 45, 115, 116, 114, 101, 97, 109]⟩ : BA) ([] : LA) x9 x10 x11 x12 x13 x14 x15 x16 x17 x18 x19 x20 x21 x22 x23 x24 x25 ([] : LA) x26 x27 x28 x29 x30 x31 x32 x33 x34 x35 x36 x37 x38 x39 x40 x41 x42 x43) else (bif (decide (x1 >= (5 : Int))) then (j11 x3 x5 (⟨#[97, 112, 112, 108, 105, 99, 97, 116, 105, 111, 110]⟩ : BA) (⟨#[111, 99, 116, 101, 116, 45, 115, 116, 114, 101, 97, 109]⟩ : BA) ([] : LA) x9 x10 x11 x12 x13 x14 x15 x16 x17 x18 x19 x20 x21 x22 x23 x24 x25 ([] : LA) x26 x27 x28 x29 x30 x31 x32 x33 x34 x35 x36 x37 x38 x39 x40 x41 x42 x43) else (bif (decide ((IntKind.wrap .i64 (x3 + (x44.length : Int))) > (16 : Int))) then (j11 x3 x5 (⟨#[97, 112, 112, 108, 105, 99, 97, 116, 105, 111, 110]⟩ : BA) (⟨#[111, 99, 116, 101, 116, 45, 115, 116, 114, 101, 97, 109]⟩ : BA) ([] : LA) x9 x10 x11 x12 x13 x14 x15 x16 x17 x18 x19 x20 x21 x22 x23 x24 x25 ([] : LA) x26 x27 x28 x29 x30 x31 x32 x33 x34 x35 x36 x37 x38 x39 x40 x41 x42 x43) else (bif x4 then (bB ((decide ((0 : Int) <= x23)) && ((decide (x23 <= x24)) && (decide (x24 <= (x0.size : Int))))) (c1 (x0.extract (x23).toNat (x24).toNat) (fun r5483 => (bif x2 then (c3 x5 1 (fun r5484 => (j18 x0 x1 (IntKind.wrap .i64 (x3 + (x44.length : Int))) r5484 x5 x6 x7 x8 x9 x10 x11 x12 x13 x14 x15 x16 x17 x18 x19 x20 x21 x22 x23 x24 r5483 x26 x27 x28 x29 x30 x31 x32 x33 x34 x35 x36 x37 x38 x39 x40 x41 x42 x43 x44))) else (j18 x0 x1 (IntKind.wrap .i64 (x3 + (x44.length : Int))) x5 x5 x6 x7 x8 x9 x10 x11 x12 x13 x14 x15 x16 x17 x18 x19 x20 x21 x22 x23 x24 r5483 x26 x27 x28 x29 x30 x31 x32 x33 x34 x35 x36 x37 x38 x39 x40 x41 x42 x43 x44))))) else (j22 x0 x1 (IntKind.wrap .i64 (x3 + (x44.length : Int))) 0 x5 x6 x7 x8 x9 x10 x11 x12 x13 x14 x15 x16 x17 x18 x19 x20 x21 x22 x23 x24 x25 ([] : LA) x26 x27 x28 x29 x30 x31 x32 x33 x34 x35 x36 x37 x38 x39 x40 x41 x42 x43 x44)))))
def t11 {R : Type} (κ0 : Q0 R) : sd R :=
 fun x0 x1 x2 x3 x4 x5 x6 x7 x8 x9 x10 x11 x12 x13 x14 x15 x16 x17 x18 x19 x20 x21 x22 x23 x24 x25 x26 x27 x28 x29 x30 x31 x32 x33 x34 x35 x36 x37 x38 x39 x40 => (κ0 x1 x2 x3 x4 x5 x6 x7 x8 x9 x10 x11 x12 x13 x14 x15 x16 x17 x18 x19 x20 x21 x22 x0)
def t18 {R : Type} (c4 : aT.F R) (c5 : ao.F R) (j20 : Dm R) : Dl R :=
 fun x0 x1 x2 x3 x4 x5 x6 x7 x8 x9 x10 x11 x12 x13 x14 x15 x16 x17 x18 x19 x20 x21 x22 x23 x24 x25 x26 x27 x28 x29 x30 x31 x32 x33 x34 x35 x36 x37 x38 x39 x40 x41 x42 x43 => (bB (decide ((0 : Int) < (x43.length : Int))) (c4 x0 ((bK x43 0).fld 0).i ((bK x43 0).fld 1).i x3 false (fun r5485 r5486 r5487 r5488 r5489 r5490 r5491 r5492 r5493 r5494 r5495 r5496 r5497 r5498 r5499 r5500 r5501 r5502 r5503 r5504 r5505 => (c5 x0 r5485 r5486 r5487 r5488 r5489 r5490 r5491 r5492 r5493 r5494 r5495 r5496 r5497 r5498 r5499 r5500 r5501 r5502 r5503 r5504 r5505 (IntKind.wrap .i64 (x1 + 1)) true x2 (fun r5506 r5507 r5508 r5509 r5510 r5511 r5512 r5513 r5514 r5515 r5516 r5517 r5518 r5519 r5520 r5521 r5522 r5523 r5524 r5525 r5526 r5527 r5528 => (j20 r5528 x4 x5 x6 x7 x8 x9 x10 x11 x12 x13 x14 x15 x16 x17 x18 x19 x20 x21 x22 x23 x24 [AV.agg [AV.str r5506, AV.str r5507, AV.str r5508, AV.sl r5509, AV.bool r5510, AV.str r5511, AV.bool r5512, AV.str r5513, AV.bool r5514, AV.str r5515, AV.bool r5516, AV.str r5517, AV.sl r5518, AV.sl r5519, AV.bool r5520, AV.str r5521, AV.int r5522, AV.int r5523, AV.int r5524, AV.int r5525, AV.int r5526, AV.sl r5527]] x25 x26 x27 x28 x29 x30 x31 x32 x33 x34 x35 x36 x37 x38 x39 x40 x41 x42))))))
def t20 {R : Type} (κ0 : Q0 R) : Dm R :=
 fun x0 x1 x2 x3 x4 x5 x6 x7 x8 x9 x10 x11 x12 x13 x14 x15 x16 x17 x18 x19 x20 x21 x22 x23 x24 x25 x26 x27 x28 x29 x30 x31 x32 x33 x34 x35 x36 x37 x38 x39 x40 => (κ0 x1 x2 x3 x4 x5 x6 x7 x8 x9 x10 x11 x12 x13 x14 x15 x16 x17 x18 x19 x20 x21 x22 x0)
def t22 {R : Type} (c3 : bf.F R) (c4 : aT.F R) (c5 : ao.F R) (j22 : Da R) (j27 : Dn R) : Da R :=
 fun x0 x1 x2 x3 x4 x5 x6 x7 x8 x9 x10 x11 x12 x13 x14 x15 x16 x17 x18 x19 x20 x21 x22 x23 x24 x25 x26 x27 x28 x29 x30 x31 x32 x33 x34 x35 x36 x37 x38 x39 x40 x41 x42 x43 x44 => (bif (decide (x3 < (x44.length : Int))) then (bB ((decide ((0 : Int) <= x3)) && (decide (x3 < (x44.length : Int)))) (c3 x4 (IntKind.wrap .i64 (x3 + 1)) (fun r5529 => (c4 x0 ((bK x44 x3).fld 0).i ((bK x44 x3).fld 1).i r5529 (decide (x6 = (⟨#[100, 105, 103, 101, 115, 116]⟩ : BA))) (fun r5530 r5531 r5532 r5533 r5534 r5535 r5536 r5537 r5538 r5539 r5540 r5541 r5542 r5543 r5544 r5545 r5546 r5547 r5548 r5549 r5550 => (c5 x0 r5530 r5531 r5532 r5533 r5534 r5535 r5536 r5537 r5538 r5539 r5540 r5541 r5542 r5543 r5544 r5545 r5546 r5547 r5548 r5549 r5550 (IntKind.wrap .i64 (x1 + 1)) false x2 (fun r5551 r5552 r5553 r5554 r5555 r5556 r5557 r5558 r5559 r5560 r5561 r5562 r5563 r5564 r5565 r5566 r5567 r5568 r5569 r5570 r5571 r5572 r5573 => (bB (decide ((x25.length + 1) * 304 <= 140737488355328)) (j22 x0 x1 r5573 (IntKind.wrap .i64 (x3 + 1)) x4 x5 x6 x7 x8 x9 x10 x11 x12 x13 x14 x15 x16 x17 x18 x19 x20 x21 x22 x23 x24 (x25 ++ [AV.agg [AV.str r5551, AV.str r5552, AV.str r5553, AV.sl r5554, AV.bool r5555, AV.str r5556, AV.bool r5557, AV.str r5558, AV.bool r5559, AV.str r5560, AV.bool r5561, AV.str r5562, AV.sl r5563, AV.sl r5564, AV.bool r5565, AV.str r5566, AV.int r5567, AV.int r5568, AV.int r5569, AV.int r5570, AV.int r5571, AV.sl r5572]]) x26 x27 x28 x29 x30 x31 x32 x33 x34 x35 x36 x37 x38 x39 x40 x41 x42 x43 x44))))))))) else (j27 x2 x4 x5 x6 x7 x8 x9 x10 x11 x12 x13 x14 x15 x16 x17 x18 x19 x20 x21 x22 x23 x24 x25 x26 x27 x28 x29 x30 x31 x32 x33 x34 x35 x36 x37 x38 x39 x40 x41 x42 x43))
def t27 {R : Type} (κ0 : Q0 R) : Dn R :=
 fun x0 x1 x2 x3 x4 x5 x6 x7 x8 x9 x10 x11 x12 x13 x14 x15 x16 x17 x18 x19 x20 x21 x22 x23 x24 x25 x26 x27 x28 x29 x30 x31 x32 x33 x34 x35 x36 x37 x38 x39 x40 => (κ0 x1 x2 x3 x4 x5 x6 x7 x8 x9 x10 x11 x12 x13 x14 x15 x16 x17 x18 x19 x20 x21 x22 x0)
def e {R : Type} (c1 : br.F R) (c2 : aN.F R) (c3 : bf.F R) (c4 : aT.F R) (c5 : ao.F R) (a0 : BA) (a1 : BA) (a2 : BA) (a3 : BA) (a4 : LA) (a5 : Bool) (a6 : BA) (a7 : Bool) (a8 : BA) (a9 : Bool) (a10 : BA) (a11 : Bool) (a12 : BA) (a13 : LA) (a14 : LA) (a15 : Bool) (a16 : BA) (a17 : Int) (a18 : Int) (a19 : Int) (a20 : Int) (a21 : Int) (a22 : Int) (a23 : Bool) (a24 : Int) (j2 : J2 R) (j4 : J4 R) (j5 : J5 R) (j7 : J7 R) (j11 : sd R) (j18 : Dl R) (j20 : Dm R) (j22 : Da R) (j27 : Dn R) (κ0 : Q0 R) : Option R :=
 (bif (decide (a2 = (⟨#[109, 101, 115, 115, 97, 103, 101]⟩ : BA))) then (j2 a0 a22 a23 a24 (decide (a3 = (⟨#[114, 102, 99, 56, 50, 50]⟩ : BA))) a1 a2 a3 a4 a5 a6 a7 a8 a9 a10 a11 a12 a13 a14 a15 a16 a17 a18 a19 a20 a21 (⟨#[]⟩ : BA) (⟨#[]⟩ : BA) (⟨#[]⟩ : BA) false (⟨#[]⟩ : BA) false (⟨#[]⟩ : BA) false (⟨#[]⟩ : BA) false (⟨#[]⟩ : BA) false (⟨#[]⟩ : BA) 0 0 0 0 0) else (j2 a0 a22 a23 a24 false a1 a2 a3 a4 a5 a6 a7 a8 a9 a10 a11 a12 a13 a14 a15 a16 a17 a18 a19 a20 a21 (⟨#[]⟩ : BA) (⟨#[]⟩ : BA) (⟨#[]⟩ : BA) false (⟨#[]⟩ : BA) false (⟨#[]⟩ : BA) false (⟨#[]⟩ : BA) false (⟨#[]⟩ : BA) false (⟨#[]⟩ : BA) 0 0 0 0 0))
def L5 {R : Type} (c1 : br.F R) (c2 : aN.F R) (c3 : bf.F R) (c4 : aT.F R) (c5 : ao.F R) (κ0 : Q0 R) : Nat -> J5 R
 | 0 => fun _ _ _ _ _ _ _ _ _ _ _ _ _ _ _ _ _ _ _ _ _ _ _ _ _ _ _ _ _ _ _ _ _ _ _ _ _ _ _ _ _ => none
 | f + 1 => t5 κ0
def qS {R : Type} (c1 : br.F R) (c2 : aN.F R) (c3 : bf.F R) (c4 : aT.F R) (c5 : ao.F R) (κ0 : Q0 R) : Nat -> sd R
 | 0 => fun _ _ _ _ _ _ _ _ _ _ _ _ _ _ _ _ _ _ _ _ _ _ _ _ _ _ _ _ _ _ _ _ _ _ _ _ _ _ _ _ _ => none
 | f + 1 => t11 κ0
def DR {R : Type} (c1 : br.F R) (c2 : aN.F R) (c3 : bf.F R) (c4 : aT.F R) (c5 : ao.F R) (κ0 : Q0 R) : Nat -> Dm R
 | 0 => fun _ _ _ _ _ _ _ _ _ _ _ _ _ _ _ _ _ _ _ _ _ _ _ _ _ _ _ _ _ _ _ _ _ _ _ _ _ _ _ _ _ => none
 | f + 1 => t20 κ0
def Db {R : Type} (c1 : br.F R) (c2 : aN.F R) (c3 : bf.F R) (c4 : aT.F R) (c5 : ao.F R) (κ0 : Q0 R) : Nat -> Dl R
 | 0 => fun _ _ _ _ _ _ _ _ _ _ _ _ _ _ _ _ _ _ _ _ _ _ _ _ _ _ _ _ _ _ _ _ _ _ _ _ _ _ _ _ _ _ _ _ => none
 | f + 1 => t18 c4 c5 (DR c1 c2 c3 c4 c5 κ0 f)
def DS {R : Type} (c1 : br.F R) (c2 : aN.F R) (c3 : bf.F R) (c4 : aT.F R) (c5 : ao.F R) (κ0 : Q0 R) : Nat -> Dn R
 | 0 => fun _ _ _ _ _ _ _ _ _ _ _ _ _ _ _ _ _ _ _ _ _ _ _ _ _ _ _ _ _ _ _ _ _ _ _ _ _ _ _ _ _ => none
 | f + 1 => t27 κ0
def BH {R : Type} (c1 : br.F R) (c2 : aN.F R) (c3 : bf.F R) (c4 : aT.F R) (c5 : ao.F R) (κ0 : Q0 R) : Nat -> Da R
 | 0 => fun _ _ _ _ _ _ _ _ _ _ _ _ _ _ _ _ _ _ _ _ _ _ _ _ _ _ _ _ _ _ _ _ _ _ _ _ _ _ _ _ _ _ _ _ _ => none
 | f + 1 => t22 c3 c4 c5 (BH c1 c2 c3 c4 c5 κ0 f) (DS c1 c2 c3 c4 c5 κ0 f)
def L7 {R : Type} (c1 : br.F R) (c2 : aN.F R) (c3 : bf.F R) (c4 : aT.F R) (c5 : ao.F R) (κ0 : Q0 R) : Nat -> J7 R
 | 0 => fun _ _ _ _ _ _ _ _ _ _ _ _ _ _ _ _ _ _ _ _ _ _ _ _ _ _ _ _ _ _ _ _ _ _ _ _ _ _ _ _ _ _ _ _ _ => none
 | f + 1 => t7 c1 c3 (qS c1 c2 c3 c4 c5 κ0 f) (Db c1 c2 c3 c4 c5 κ0 f) (BH c1 c2 c3 c4 c5 κ0 f)
def L4 {R : Type} (c1 : br.F R) (c2 : aN.F R) (c3 : bf.F R) (c4 : aT.F R) (c5 : ao.F R) (κ0 : Q0 R) : Nat -> J4 R
 | 0 => fun _ _ _ _ _ _ _ _ _ _ _ _ _ _ _ _ _ _ _ _ _ _ _ _ _ _ _ _ _ _ _ _ _ _ _ _ _ _ _ _ _ _ _ _ => none
 | f + 1 => t4 c2 (L5 c1 c2 c3 c4 c5 κ0 f) (L7 c1 c2 c3 c4 c5 κ0 f)
def L2 {R : Type} (c1 : br.F R) (c2 : aN.F R) (c3 : bf.F R) (c4 : aT.F R) (c5 : ao.F R) (κ0 : Q0 R) : Nat -> J2 R
 | 0 => fun _ _ _ _ _ _ _ _ _ _ _ _ _ _ _ _ _ _ _ _ _ _ _ _ _ _ _ _ _ _ _ _ _ _ _ _ _ _ _ _ _ _ _ _ => none
 | f + 1 => t2 c1 (L4 c1 c2 c3 c4 c5 κ0 f)
def B {R : Type} (c1 : br.F R) (c2 : aN.F R) (c3 : bf.F R) (c4 : aT.F R) (c5 : ao.F R) : F R := fun a0 a1 a2 a3 a4 a5 a6 a7 a8 a9 a10 a11 a12 a13 a14 a15 a16 a17 a18 a19 a20 a21 a22 a23 a24 κ0 => e c1 c2 c3 c4 c5 a0 a1 a2 a3 a4 a5 a6 a7 a8 a9 a10 a11 a12 a13 a14 a15 a16 a17 a18 a19 a20 a21 a22 a23 a24 (L2 c1 c2 c3 c4 c5 κ0 ag) (L4 c1 c2 c3 c4 c5 κ0 ag) (L5 c1 c2 c3 c4 c5 κ0 ag) (L7 c1 c2 c3 c4 c5 κ0 ag) (qS c1 c2 c3 c4 c5 κ0 ag) (Db c1 c2 c3 c4 c5 κ0 ag) (DR c1 c2 c3 c4 c5 κ0 ag) (BH c1 c2 c3 c4 c5 κ0 ag) (DS c1 c2 c3 c4 c5 κ0 ag) κ0
def R {R : Type} : Nat -> F R
 | 0 => fun _ _ _ _ _ _ _ _ _ _ _ _ _ _ _ _ _ _ _ _ _ _ _ _ _ _ => none
 | n + 1 => B br aN bf aT (ao.R n)
end ao
def ao {R : Type} : ao.F R := ao.R ag
abbrev dq.Q0 (R : Type) : Type := BA -> BA -> BA -> LA -> Bool -> BA -> Bool -> BA -> Bool -> BA -> Bool -> BA -> LA -> LA -> Bool -> BA -> Int -> Int -> Int -> Int -> Int -> LA -> Option R
abbrev dq.F (R : Type) : Type := BA -> dq.Q0 R -> Option R
namespace dq
def e {R : Type} (c1 : aT.F R) (c2 : ao.F R) (a0 : BA) (κ0 : Q0 R) : Option R :=
 (c1 a0 0 (a0.size : Int) (⟨#[]⟩ : BA) false (fun r3208 r3209 r3210 r3211 r3212 r3213 r3214 r3215 r3216 r3217 r3218 r3219 r3220 r3221 r3222 r3223 r3224 r3225 r3226 r3227 r3228 => (c2 a0 r3208 r3209 r3210 r3211 r3212 r3213 r3214 r3215 r3216 r3217 r3218 r3219 r3220 r3221 r3222 r3223 r3224 r3225 r3226 r3227 r3228 0 true 0 (fun r5574 r5575 r5576 r5577 r5578 r5579 r5580 r5581 r5582 r5583 r5584 r5585 r5586 r5587 r5588 r5589 r5590 r5591 r5592 r5593 r5594 r5595 r5596 => (κ0 r5574 r5575 r5576 r5577 r5578 r5579 r5580 r5581 r5582 r5583 r5584 r5585 r5586 r5587 r5588 r5589 r5590 r5591 r5592 r5593 r5594 r5595)))))
end dq
def dq {R : Type} : dq.F R := fun a0 κ0 => dq.e aT ao a0 κ0
abbrev aY.F (R : Type) : Type := BA -> BA -> BA -> LA -> Bool -> BA -> Bool -> BA -> Bool -> BA -> Bool -> BA -> LA -> LA -> Bool -> BA -> Int -> Int -> Int -> Int -> Int -> LA -> LA -> (LA -> Option R) -> Option R
namespace aY
abbrev J5 (R : Type) : Type := LA -> Int -> Int -> LA -> Option R
def t5 {R : Type} (c1 : aY.F R) (j5 : J5 R) (κ0 : LA -> Option R) : J5 R :=
 fun x0 x1 x2 x3 => (bif (decide (x2 < x1)) then (bB ((decide ((0 : Int) <= x2)) && (decide (x2 < (x0.length : Int)))) (c1 ((bK x0 x2).fld 0).s ((bK x0 x2).fld 1).s ((bK x0 x2).fld 2).s ((bK x0 x2).fld 3).l ((bK x0 x2).fld 4).b ((bK x0 x2).fld 5).s ((bK x0 x2).fld 6).b ((bK x0 x2).fld 7).s ((bK x0 x2).fld 8).b ((bK x0 x2).fld 9).s ((bK x0 x2).fld 10).b ((bK x0 x2).fld 11).s ((bK x0 x2).fld 12).l ((bK x0 x2).fld 13).l ((bK x0 x2).fld 14).b ((bK x0 x2).fld 15).s ((bK x0 x2).fld 16).i ((bK x0 x2).fld 17).i ((bK x0 x2).fld 18).i ((bK x0 x2).fld 19).i ((bK x0 x2).fld 20).i ((bK x0 x2).fld 21).l x3 (fun r5619 => (j5 x0 x1 (IntKind.wrap .i64 (x2 + 1)) r5619)))) else (κ0 x3))
def e {R : Type} (c1 : aY.F R) (a0 : BA) (a1 : BA) (a2 : BA) (a3 : LA) (a4 : Bool) (a5 : BA) (a6 : Bool) (a7 : BA) (a8 : Bool) (a9 : BA) (a10 : Bool) (a11 : BA) (a12 : LA) (a13 : LA) (a14 : Bool) (a15 : BA) (a16 : Int) (a17 : Int) (a18 : Int) (a19 : Int) (a20 : Int) (a21 : LA) (a22 : LA) (j5 : J5 R) (κ0 : LA -> Option R) : Option R :=
 (bB (decide ((a22.length + 1) * 16 <= 140737488355328)) (bif ((a21.length : Int) == 0) then (bB (decide (((a22 ++ [AV.agg [AV.int a16, AV.int a17]]).length + 1) * 16 <= 140737488355328)) (κ0 ((a22 ++ [AV.agg [AV.int a16, AV.int a17]]) ++ [AV.agg [AV.int a18, AV.int a19]]))) else (j5 a21 (a21.length : Int) 0 (a22 ++ [AV.agg [AV.int a16, AV.int a17]]))))
def L5 {R : Type} (c1 : aY.F R) (κ0 : LA -> Option R) : Nat -> J5 R
 | 0 => fun _ _ _ _ => none
 | f + 1 => t5 c1 (L5 c1 κ0 f) κ0
def B {R : Type} (c1 : aY.F R) : F R := fun a0 a1 a2 a3 a4 a5 a6 a7 a8 a9 a10 a11 a12 a13 a14 a15 a16 a17 a18 a19 a20 a21 a22 κ0 => e c1 a0 a1 a2 a3 a4 a5 a6 a7 a8 a9 a10 a11 a12 a13 a14 a15 a16 a17 a18 a19 a20 a21 a22 (L5 c1 κ0 ag) κ0
def R {R : Type} : Nat -> F R
 | 0 => fun _ _ _ _ _ _ _ _ _ _ _ _ _ _ _ _ _ _ _ _ _ _ _ _ => none
 | n + 1 => B (aY.R n)
end aY
def aY {R : Type} : aY.F R := aY.R ag
abbrev bY.F (R : Type) : Type := BA -> BA -> BA -> LA -> Bool -> BA -> Bool -> BA -> Bool -> BA -> Bool -> BA -> LA -> LA -> Bool -> BA -> Int -> Int -> Int -> Int -> Int -> LA -> (LA -> Option R) -> Option R
namespace bY
abbrev J5 (R : Type) : Type := LA -> Int -> Int -> LA -> Option R
def t5 {R : Type} (c1 : aY.F R) (j5 : J5 R) (κ0 : LA -> Option R) : J5 R :=
 fun x0 x1 x2 x3 => (bif (decide (x2 < x1)) then (bB ((decide ((0 : Int) <= x2)) && (decide (x2 < (x0.length : Int)))) (c1 ((bK x0 x2).fld 0).s ((bK x0 x2).fld 1).s ((bK x0 x2).fld 2).s ((bK x0 x2).fld 3).l ((bK x0 x2).fld 4).b ((bK x0 x2).fld 5).s ((bK x0 x2).fld 6).b ((bK x0 x2).fld 7).s ((bK x0 x2).fld 8).b ((bK x0 x2).fld 9).s ((bK x0 x2).fld 10).b ((bK x0 x2).fld 11).s ((bK x0 x2).fld 12).l ((bK x0 x2).fld 13).l ((bK x0 x2).fld 14).b ((bK x0 x2).fld 15).s ((bK x0 x2).fld 16).i ((bK x0 x2).fld 17).i ((bK x0 x2).fld 18).i ((bK x0 x2).fld 19).i ((bK x0 x2).fld 20).i ((bK x0 x2).fld 21).l x3 (fun r5620 => (j5 x0 x1 (IntKind.wrap .i64 (x2 + 1)) r5620)))) else (κ0 x3))
def e {R : Type} (c1 : aY.F R) (a0 : BA) (a1 : BA) (a2 : BA) (a3 : LA) (a4 : Bool) (a5 : BA) (a6 : Bool) (a7 : BA) (a8 : Bool) (a9 : BA) (a10 : Bool) (a11 : BA) (a12 : LA) (a13 : LA) (a14 : Bool) (a15 : BA) (a16 : Int) (a17 : Int) (a18 : Int) (a19 : Int) (a20 : Int) (a21 : LA) (j5 : J5 R) (κ0 : LA -> Option R) : Option R :=
 (bif ((a21.length : Int) == 0) then (κ0 [AV.agg [AV.int a16, AV.int a17], AV.agg [AV.int a18, AV.int a19]]) else (j5 a21 (a21.length : Int) 0 [AV.agg [AV.int a16, AV.int a17]]))
def L5 {R : Type} (c1 : aY.F R) (κ0 : LA -> Option R) : Nat -> J5 R
 | 0 => fun _ _ _ _ => none
 | f + 1 => t5 c1 (L5 c1 κ0 f) κ0
end bY
def bY {R : Type} : bY.F R := fun a0 a1 a2 a3 a4 a5 a6 a7 a8 a9 a10 a11 a12 a13 a14 a15 a16 a17 a18 a19 a20 a21 κ0 => bY.e aY a0 a1 a2 a3 a4 a5 a6 a7 a8 a9 a10 a11 a12 a13 a14 a15 a16 a17 a18 a19 a20 a21 (bY.L5 aY κ0 ag) κ0
abbrev cE.F (R : Type) : Type := Int -> Int -> (Int -> LA -> Option R) -> (Int -> Option R) -> Option R
namespace cE
def e {R : Type} (a0 : Int) (a1 : Int) (κ0 : Int -> LA -> Option R) (κ1 : Int -> Option R) : Option R :=
 (bif (decide (a0 > a1)) then (κ0 a0 [AV.agg [AV.int a1, AV.int a0]]) else (κ1 a0))
end cE
def cE {R : Type} : cE.F R := fun a0 a1 κ0 κ1 => cE.e a0 a1 κ0 κ1
abbrev ck.F (R : Type) : Type := Int -> Int -> LA -> (Int -> LA -> Option R) -> Option R
namespace ck
def e {R : Type} (a0 : Int) (a1 : Int) (a2 : LA) (κ0 : Int -> LA -> Option R) : Option R :=
 (bif (decide (a0 > a1)) then (bB (decide ((a2.length + 1) * 16 <= 140737488355328)) (κ0 a0 (a2 ++ [AV.agg [AV.int a1, AV.int a0]]))) else (κ0 a0 a2))
end ck
def ck {R : Type} : ck.F R := fun a0 a1 a2 κ0 => ck.e a0 a1 a2 κ0
abbrev df.F (R : Type) : Type := BA -> BA -> BA -> BA -> LA -> Bool -> BA -> Bool -> BA -> Bool -> BA -> Bool -> BA -> LA -> LA -> Bool -> BA -> Int -> Int -> Int -> Int -> Int -> LA -> (LA -> Option R) -> Option R -> Option R
namespace df
abbrev J5 (R : Type) : Type := BA -> Int -> Int -> LA -> Int -> LA -> Option R
def t5 {R : Type} (c2 : cE.F R) (c3 : ck.F R) (j5 : J5 R) (κ0 : LA -> Option R) (κ1 : Option R) : J5 R :=
 fun x0 x1 x2 x3 x4 x5 => (bif (decide (x2 < x1)) then (bB ((decide ((0 : Int) <= x2)) && (decide (x2 < (x5.length : Int)))) (bif (((bK x5 x2).fld 0).i == ((bK x5 x2).fld 1).i) then (j5 x0 x1 (IntKind.wrap .i64 (x2 + 1)) x3 x4 x5) else (bif (decide (((bK x5 x2).fld 0).i < x4)) then (c2 (x0.size : Int) 0 (fun r5636 r5637 => (κ0 r5637)) (fun r5638 => κ1)) else (bif (decide (((bK x5 x2).fld 1).i < ((bK x5 x2).fld 0).i)) then (c2 (x0.size : Int) 0 (fun r5639 r5640 => (κ0 r5640)) (fun r5641 => κ1)) else (bif (decide (((bK x5 x2).fld 1).i > (x0.size : Int))) then (c2 (x0.size : Int) 0 (fun r5642 r5643 => (κ0 r5643)) (fun r5644 => κ1)) else (c3 ((bK x5 x2).fld 0).i x4 x3 (fun r5645 r5646 => (c3 ((bK x5 x2).fld 1).i r5645 r5646 (fun r5647 r5648 => (j5 x0 x1 (IntKind.wrap .i64 (x2 + 1)) r5648 r5647 x5)))))))))) else (c3 (x0.size : Int) x4 x3 (fun r5649 r5650 => (κ0 r5650))))
def e {R : Type} (c1 : bY.F R) (c2 : cE.F R) (c3 : ck.F R) (a0 : BA) (a1 : BA) (a2 : BA) (a3 : BA) (a4 : LA) (a5 : Bool) (a6 : BA) (a7 : Bool) (a8 : BA) (a9 : Bool) (a10 : BA) (a11 : Bool) (a12 : BA) (a13 : LA) (a14 : LA) (a15 : Bool) (a16 : BA) (a17 : Int) (a18 : Int) (a19 : Int) (a20 : Int) (a21 : Int) (a22 : LA) (j5 : J5 R) (κ0 : LA -> Option R) (κ1 : Option R) : Option R :=
 (c1 a1 a2 a3 a4 a5 a6 a7 a8 a9 a10 a11 a12 a13 a14 a15 a16 a17 a18 a19 a20 a21 a22 (fun r5635 => (j5 a0 (r5635.length : Int) 0 ([] : LA) 0 r5635)))
def L5 {R : Type} (c1 : bY.F R) (c2 : cE.F R) (c3 : ck.F R) (κ0 : LA -> Option R) (κ1 : Option R) : Nat -> J5 R
 | 0 => fun _ _ _ _ _ _ => none
 | f + 1 => t5 c2 c3 (L5 c1 c2 c3 κ0 κ1 f) κ0 κ1
end df
def df {R : Type} : df.F R := fun a0 a1 a2 a3 a4 a5 a6 a7 a8 a9 a10 a11 a12 a13 a14 a15 a16 a17 a18 a19 a20 a21 a22 κ0 κ1 => df.e bY cE ck a0 a1 a2 a3 a4 a5 a6 a7 a8 a9 a10 a11 a12 a13 a14 a15 a16 a17 a18 a19 a20 a21 a22 (df.L5 bY cE ck κ0 κ1 ag) κ0 κ1
abbrev bh.F (R : Type) : Type := BA -> BA -> BA -> LA -> Bool -> BA -> Bool -> BA -> Bool -> BA -> Bool -> BA -> LA -> LA -> Bool -> BA -> Int -> Int -> Int -> Int -> Int -> LA -> (LA -> Option R) -> Option R
namespace bh
abbrev J5 (R : Type) : Type := Int -> BA -> BA -> BA -> LA -> Bool -> BA -> Bool -> BA -> Bool -> BA -> Bool -> BA -> LA -> LA -> Bool -> BA -> Int -> Int -> Int -> Int -> Int -> LA -> LA -> Option R
def t5 {R : Type} (c1 : bh.F R) (j5 : J5 R) (κ0 : LA -> Option R) : J5 R :=
 fun x0 x1 x2 x3 x4 x5 x6 x7 x8 x9 x10 x11 x12 x13 x14 x15 x16 x17 x18 x19 x20 x21 x22 x23 => (bif (decide (x0 < (x22.length : Int))) then (bB ((decide ((0 : Int) <= x0)) && (decide (x0 < (x22.length : Int)))) (c1 ((bK x22 x0).fld 0).s ((bK x22 x0).fld 1).s ((bK x22 x0).fld 2).s ((bK x22 x0).fld 3).l ((bK x22 x0).fld 4).b ((bK x22 x0).fld 5).s ((bK x22 x0).fld 6).b ((bK x22 x0).fld 7).s ((bK x22 x0).fld 8).b ((bK x22 x0).fld 9).s ((bK x22 x0).fld 10).b ((bK x22 x0).fld 11).s ((bK x22 x0).fld 12).l ((bK x22 x0).fld 13).l ((bK x22 x0).fld 14).b ((bK x22 x0).fld 15).s ((bK x22 x0).fld 16).i ((bK x22 x0).fld 17).i ((bK x22 x0).fld 18).i ((bK x22 x0).fld 19).i ((bK x22 x0).fld 20).i ((bK x22 x0).fld 21).l (fun r5652 => (bB (decide ((x23.length + r5652.length) * 16 <= 140737488355328)) (j5 (IntKind.wrap .i64 (x0 + 1)) x1 x2 x3 x4 x5 x6 x7 x8 x9 x10 x11 x12 x13 x14 x15 x16 x17 x18 x19 x20 x21 x22 (x23 ++ r5652)))))) else (κ0 x23))
def e {R : Type} (c1 : bh.F R) (a0 : BA) (a1 : BA) (a2 : BA) (a3 : LA) (a4 : Bool) (a5 : BA) (a6 : Bool) (a7 : BA) (a8 : Bool) (a9 : BA) (a10 : Bool) (a11 : BA) (a12 : LA) (a13 : LA) (a14 : Bool) (a15 : BA) (a16 : Int) (a17 : Int) (a18 : Int) (a19 : Int) (a20 : Int) (a21 : LA) (j5 : J5 R) (κ0 : LA -> Option R) : Option R :=
 (bif ((a21.length : Int) == 0) then (κ0 [AV.agg [AV.int a16, AV.int a17], AV.agg [AV.int a18, AV.int a19]]) else (j5 0 a0 a1 a2 a3 a4 a5 a6 a7 a8 a9 a10 a11 a12 a13 a14 a15 a16 a17 a18 a19 a20 a21 [AV.agg [AV.int a16, AV.int a17]]))
def L5 {R : Type} (c1 : bh.F R) (κ0 : LA -> Option R) : Nat -> J5 R
 | 0 => fun _ _ _ _ _ _ _ _ _ _ _ _ _ _ _ _ _ _ _ _ _ _ _ _ => none
 | f + 1 => t5 c1 (L5 c1 κ0 f) κ0
def B {R : Type} (c1 : bh.F R) : F R := fun a0 a1 a2 a3 a4 a5 a6 a7 a8 a9 a10 a11 a12 a13 a14 a15 a16 a17 a18 a19 a20 a21 κ0 => e c1 a0 a1 a2 a3 a4 a5 a6 a7 a8 a9 a10 a11 a12 a13 a14 a15 a16 a17 a18 a19 a20 a21 (L5 c1 κ0 ag) κ0
def R {R : Type} : Nat -> F R
 | 0 => fun _ _ _ _ _ _ _ _ _ _ _ _ _ _ _ _ _ _ _ _ _ _ _ => none
 | n + 1 => B (bh.R n)
end bh
def bh {R : Type} : bh.F R := bh.R ag
abbrev db.F (R : Type) : Type := BA -> BA -> BA -> BA -> LA -> Bool -> BA -> Bool -> BA -> Bool -> BA -> Bool -> BA -> LA -> LA -> Bool -> BA -> Int -> Int -> Int -> Int -> Int -> LA -> Option R -> (LA -> Option R) -> Option R
namespace db
abbrev J5 (R : Type) : Type := BA -> Int -> Int -> LA -> LA -> Option R
def t5 {R : Type} (j5 : J5 R) (κ0 : Option R) (κ1 : LA -> Option R) : J5 R :=
 fun x0 x1 x2 x3 x4 => (bif (decide (x2 < (x4.length : Int))) then (bB ((decide ((0 : Int) <= x2)) && (decide (x2 < (x4.length : Int)))) (bB ((decide ((0 : Int) <= x2)) && (decide (x2 < (x4.length : Int)))) (bif (((bK x4 x2).fld 0).i == ((bK x4 x2).fld 1).i) then (j5 x0 x1 (IntKind.wrap .i64 (x2 + 1)) x3 x4) else (bB ((decide ((0 : Int) <= x2)) && (decide (x2 < (x4.length : Int)))) (bif (decide (((bK x4 x2).fld 0).i < x1)) then (bif (decide (x0 = (⟨#[]⟩ : BA))) then κ0 else (κ1 [AV.agg [AV.int 0, AV.int (x0.size : Int)]])) else (bB ((decide ((0 : Int) <= x2)) && (decide (x2 < (x4.length : Int)))) (bB ((decide ((0 : Int) <= x2)) && (decide (x2 < (x4.length : Int)))) (bif (decide (((bK x4 x2).fld 1).i < ((bK x4 x2).fld 0).i)) then (bif (decide (x0 = (⟨#[]⟩ : BA))) then κ0 else (κ1 [AV.agg [AV.int 0, AV.int (x0.size : Int)]])) else (bB ((decide ((0 : Int) <= x2)) && (decide (x2 < (x4.length : Int)))) (bif (decide (((bK x4 x2).fld 1).i > (x0.size : Int))) then (bif (decide (x0 = (⟨#[]⟩ : BA))) then κ0 else (κ1 [AV.agg [AV.int 0, AV.int (x0.size : Int)]])) else (bB ((decide ((0 : Int) <= x2)) && (decide (x2 < (x4.length : Int)))) (bif (decide (((bK x4 x2).fld 0).i > x1)) then (bB ((decide ((0 : Int) <= x2)) && (decide (x2 < (x4.length : Int)))) (bB (decide ((x3.length + 1) * 16 <= 140737488355328)) (bB ((decide ((0 : Int) <= x2)) && (decide (x2 < (x4.length : Int)))) (bB (decide (((x3 ++ [AV.agg [AV.int x1, AV.int ((bK x4 x2).fld 0).i]]).length + 1) * 16 <= 140737488355328)) (bB ((decide ((0 : Int) <= x2)) && (decide (x2 < (x4.length : Int)))) (j5 x0 ((bK x4 x2).fld 1).i (IntKind.wrap .i64 (x2 + 1)) ((x3 ++ [AV.agg [AV.int x1, AV.int ((bK x4 x2).fld 0).i]]) ++ [AV.agg [AV.int ((bK x4 x2).fld 0).i, AV.int ((bK x4 x2).fld 1).i]]) x4)))))) else (bB ((decide ((0 : Int) <= x2)) && (decide (x2 < (x4.length : Int)))) (bB (decide ((x3.length + 1) * 16 <= 140737488355328)) (bB ((decide ((0 : Int) <= x2)) && (decide (x2 < (x4.length : Int)))) (j5 x0 ((bK x4 x2).fld 1).i (IntKind.wrap .i64 (x2 + 1)) (x3 ++ [AV.agg [AV.int ((bK x4 x2).fld 0).i, AV.int ((bK x4 x2).fld 1).i]]) x4)))))))))))))))) else (bif (decide (x1 < (x0.size : Int))) then (bB (decide ((x3.length + 1) * 16 <= 140737488355328)) (κ1 (x3 ++ [AV.agg [AV.int x1, AV.int (x0.size : Int)]]))) else (κ1 x3)))
def e {R : Type} (c1 : bh.F R) (a0 : BA) (a1 : BA) (a2 : BA) (a3 : BA) (a4 : LA) (a5 : Bool) (a6 : BA) (a7 : Bool) (a8 : BA) (a9 : Bool) (a10 : BA) (a11 : Bool) (a12 : BA) (a13 : LA) (a14 : LA) (a15 : Bool) (a16 : BA) (a17 : Int) (a18 : Int) (a19 : Int) (a20 : Int) (a21 : Int) (a22 : LA) (j5 : J5 R) (κ0 : Option R) (κ1 : LA -> Option R) : Option R :=
 (c1 a1 a2 a3 a4 a5 a6 a7 a8 a9 a10 a11 a12 a13 a14 a15 a16 a17 a18 a19 a20 a21 a22 (fun r5654 => (j5 a0 0 0 ([] : LA) r5654)))
def L5 {R : Type} (c1 : bh.F R) (κ0 : Option R) (κ1 : LA -> Option R) : Nat -> J5 R
 | 0 => fun _ _ _ _ _ => none
 | f + 1 => t5 (L5 c1 κ0 κ1 f) κ0 κ1
end db
def db {R : Type} : db.F R := fun a0 a1 a2 a3 a4 a5 a6 a7 a8 a9 a10 a11 a12 a13 a14 a15 a16 a17 a18 a19 a20 a21 a22 κ0 κ1 => db.e bh a0 a1 a2 a3 a4 a5 a6 a7 a8 a9 a10 a11 a12 a13 a14 a15 a16 a17 a18 a19 a20 a21 a22 (db.L5 bh κ0 κ1 ag) κ0 κ1
abbrev de.F (R : Type) : Type := LA -> (Bool -> Option R) -> Option R
namespace de
def t4 {R : Type} (κ0 : Bool -> Option R) : LA -> Int -> Option R :=
 fun x0 x1 => (bif (decide (x1 < (x0.length : Int))) then (bB ((decide ((0 : Int) <= x1)) && (decide (x1 < (x0.length : Int)))) none) else (κ0 true))
def e {R : Type} (a0 : LA) (j4 : LA -> Int -> Option R) (κ0 : Bool -> Option R) : Option R :=
 (bif ((a0.length : Int) != 0) then (κ0 false) else (j4 a0 0))
def L4 {R : Type} (κ0 : Bool -> Option R) : Nat -> LA -> Int -> Option R
 | 0 => fun _ _ => none
 | f + 1 => t4 κ0
end de
def de {R : Type} : de.F R := fun a0 κ0 => de.e a0 (de.L4 κ0 ag) κ0
abbrev cm.F (R : Type) : Type := LA -> LA -> (Bool -> Option R) -> Option R
namespace cm
abbrev J4 (R : Type) : Type := LA -> LA -> Int -> Option R
def t4 {R : Type} (j4 : J4 R) (κ0 : Bool -> Option R) : J4 R :=
 fun x0 x1 x2 => (bif (decide (x2 < (x0.length : Int))) then (bB ((decide ((0 : Int) <= x2)) && (decide (x2 < (x0.length : Int)))) (bB ((decide ((0 : Int) <= x2)) && (decide (x2 < (x1.length : Int)))) (bif (!((((bK x0 x2).fld 0).i == ((bK x1 x2).fld 0).i) && ((((bK x0 x2).fld 1).i == ((bK x1 x2).fld 1).i) && true))) then (κ0 false) else (j4 x0 x1 (IntKind.wrap .i64 (x2 + 1)))))) else (κ0 true))
def e {R : Type} (a0 : LA) (a1 : LA) (j4 : J4 R) (κ0 : Bool -> Option R) : Option R :=
 (bif ((a0.length : Int) != (a1.length : Int)) then (κ0 false) else (j4 a0 a1 0))
def L4 {R : Type} (κ0 : Bool -> Option R) : Nat -> J4 R
 | 0 => fun _ _ _ => none
 | f + 1 => t4 (L4 κ0 f) κ0
end cm
def cm {R : Type} : cm.F R := fun a0 a1 κ0 => cm.e a0 a1 (cm.L4 κ0 ag) κ0
abbrev cO.F (R : Type) : Type := (Bool -> Option R) -> Option R
namespace cO
def t4 {R : Type} (κ0 : Bool -> Option R) : Int -> Option R :=
 fun x0 => (bif (decide (x0 < (0 : Int))) then none else (κ0 true))
def e {R : Type} (j4 : Int -> Option R) (κ0 : Bool -> Option R) : Option R :=
 (j4 0)
def L4 {R : Type} (κ0 : Bool -> Option R) : Nat -> Int -> Option R
 | 0 => fun _ => none
 | f + 1 => t4 κ0
end cO
def cO {R : Type} : cO.F R := fun κ0 => cO.e (cO.L4 κ0 ag) κ0
abbrev cP.F (R : Type) : Type := LA -> (Bool -> Option R) -> Option R
namespace cP
def t4 {R : Type} (κ0 : Bool -> Option R) : LA -> Int -> Option R :=
 fun x0 x1 => (bif (decide (x1 < (0 : Int))) then none else (κ0 true))
def e {R : Type} (a0 : LA) (j4 : LA -> Int -> Option R) (κ0 : Bool -> Option R) : Option R :=
 (bif ((0 : Int) != (a0.length : Int)) then (κ0 false) else (j4 a0 0))
def L4 {R : Type} (κ0 : Bool -> Option R) : Nat -> LA -> Int -> Option R
 | 0 => fun _ _ => none
 | f + 1 => t4 κ0
end cP
def cP {R : Type} : cP.F R := fun a0 κ0 => cP.e a0 (cP.L4 κ0 ag) κ0
abbrev dp.F (R : Type) : Type := BA -> BA -> (Bool -> Option R) -> Option R
namespace dp
def e {R : Type} (c1 : dL.F R) (c2 : ch.F R) (c3 : dq.F R) (c4 : df.F R) (c5 : db.F R) (c6 : de.F R) (c7 : cm.F R) (c8 : cO.F R) (c9 : cP.F R) (a0 : BA) (a1 : BA) (κ0 : Bool -> Option R) : Option R :=
 (c1 (fun r2966 => (bif (!r2966) then (κ0 false) else (bif (decide ((a0.size : Int) > (20000 : Int))) then (κ0 true) else (bif (decide ((a1.size : Int) > (20000 : Int))) then (κ0 true) else (c2 a0 (fun r2967 r2968 r2969 r2970 r2971 r2972 r2973 r2974 r2975 r2976 r2977 r2978 r2979 r2980 r2981 r2982 r2983 r2984 r2985 r2986 r2987 r2988 => (c3 a0 (fun r5597 r5598 r5599 r5600 r5601 r5602 r5603 r5604 r5605 r5606 r5607 r5608 r5609 r5610 r5611 r5612 r5613 r5614 r5615 r5616 r5617 r5618 => (c4 a0 r2967 r2968 r2969 r2970 r2971 r2972 r2973 r2974 r2975 r2976 r2977 r2978 r2979 r2980 r2981 r2982 r2983 r2984 r2985 r2986 r2987 r2988 (fun r5651 => (c5 a0 r5597 r5598 r5599 r5600 r5601 r5602 r5603 r5604 r5605 r5606 r5607 r5608 r5609 r5610 r5611 r5612 r5613 r5614 r5615 r5616 r5617 r5618 (c6 r5651 (fun r5655 => (bif r5655 then (c4 a1 r2967 r2968 r2969 r2970 r2971 r2972 r2973 r2974 r2975 r2976 r2977 r2978 r2979 r2980 r2981 r2982 r2983 r2984 r2985 r2986 r2987 r2988 (fun r5656 => (c5 a1 r5597 r5598 r5599 r5600 r5601 r5602 r5603 r5604 r5605 r5606 r5607 r5608 r5609 r5610 r5611 r5612 r5613 r5614 r5615 r5616 r5617 r5618 (c6 r5656 (fun r5657 => (κ0 r5657))) (fun r5658 => (c7 r5656 r5658 (fun r5659 => (κ0 r5659)))))) (c5 a1 r5597 r5598 r5599 r5600 r5601 r5602 r5603 r5604 r5605 r5606 r5607 r5608 r5609 r5610 r5611 r5612 r5613 r5614 r5615 r5616 r5617 r5618 (c8 (fun r5660 => (κ0 r5660))) (fun r5661 => (c9 r5661 (fun r5662 => (κ0 r5662)))))) else (κ0 false)))) (fun r5663 => (c7 r5651 r5663 (fun r5664 => (bif r5664 then (c4 a1 r2967 r2968 r2969 r2970 r2971 r2972 r2973 r2974 r2975 r2976 r2977 r2978 r2979 r2980 r2981 r2982 r2983 r2984 r2985 r2986 r2987 r2988 (fun r5665 => (c5 a1 r5597 r5598 r5599 r5600 r5601 r5602 r5603 r5604 r5605 r5606 r5607 r5608 r5609 r5610 r5611 r5612 r5613 r5614 r5615 r5616 r5617 r5618 (c6 r5665 (fun r5666 => (κ0 r5666))) (fun r5667 => (c7 r5665 r5667 (fun r5668 => (κ0 r5668)))))) (c5 a1 r5597 r5598 r5599 r5600 r5601 r5602 r5603 r5604 r5605 r5606 r5607 r5608 r5609 r5610 r5611 r5612 r5613 r5614 r5615 r5616 r5617 r5618 (c8 (fun r5669 => (κ0 r5669))) (fun r5670 => (c9 r5670 (fun r5671 => (κ0 r5671)))))) else (κ0 false))))))) (c5 a0 r5597 r5598 r5599 r5600 r5601 r5602 r5603 r5604 r5605 r5606 r5607 r5608 r5609 r5610 r5611 r5612 r5613 r5614 r5615 r5616 r5617 r5618 (c8 (fun r5672 => (bif r5672 then (c4 a1 r2967 r2968 r2969 r2970 r2971 r2972 r2973 r2974 r2975 r2976 r2977 r2978 r2979 r2980 r2981 r2982 r2983 r2984 r2985 r2986 r2987 r2988 (fun r5673 => (c5 a1 r5597 r5598 r5599 r5600 r5601 r5602 r5603 r5604 r5605 r5606 r5607 r5608 r5609 r5610 r5611 r5612 r5613 r5614 r5615 r5616 r5617 r5618 (c6 r5673 (fun r5674 => (κ0 r5674))) (fun r5675 => (c7 r5673 r5675 (fun r5676 => (κ0 r5676)))))) (c5 a1 r5597 r5598 r5599 r5600 r5601 r5602 r5603 r5604 r5605 r5606 r5607 r5608 r5609 r5610 r5611 r5612 r5613 r5614 r5615 r5616 r5617 r5618 (c8 (fun r5677 => (κ0 r5677))) (fun r5678 => (c9 r5678 (fun r5679 => (κ0 r5679)))))) else (κ0 false)))) (fun r5680 => (c9 r5680 (fun r5681 => (bif r5681 then (c4 a1 r2967 r2968 r2969 r2970 r2971 r2972 r2973 r2974 r2975 r2976 r2977 r2978 r2979 r2980 r2981 r2982 r2983 r2984 r2985 r2986 r2987 r2988 (fun r5682 => (c5 a1 r5597 r5598 r5599 r5600 r5601 r5602 r5603 r5604 r5605 r5606 r5607 r5608 r5609 r5610 r5611 r5612 r5613 r5614 r5615 r5616 r5617 r5618 (c6 r5682 (fun r5683 => (κ0 r5683))) (fun r5684 => (c7 r5682 r5684 (fun r5685 => (κ0 r5685)))))) (c5 a1 r5597 r5598 r5599 r5600 r5601 r5602 r5603 r5604 r5605 r5606 r5607 r5608 r5609 r5610 r5611 r5612 r5613 r5614 r5615 r5616 r5617 r5618 (c8 (fun r5686 => (κ0 r5686))) (fun r5687 => (c9 r5687 (fun r5688 => (κ0 r5688)))))) else (κ0 false))))))))))))))))
end dp
def dp {R : Type} : dp.F R := fun a0 a1 κ0 => dp.e dL ch dq df db de cm cO cP a0 a1 κ0
end Go.Proofs.Ab
