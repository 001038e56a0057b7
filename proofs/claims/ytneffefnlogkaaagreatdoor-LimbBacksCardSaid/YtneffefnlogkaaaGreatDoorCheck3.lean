/- Each plain function is what a call of its Go function does, checked by the kernel (no condition but what its checks ask). -/
import Derived.Test.YtneffefnlogkaaaGreatDoorSeat
import Derived.Test.YtneffefnlogkaaaGreatDoorText
import Derived.Test.YtneffefnlogkaaaGreatDoorCheck2
set_option linter.unusedVariables false
set_option linter.unusedSimpArgs false
set_option maxRecDepth 4000
namespace Go.Proofs.Ab
open Go Go.Proofs
set_option maxRecDepth 100000
namespace ao
abbrev K0 {R : Type} (κ : KT R) : Q0 R := fun r0 r1 r2 r3 r4 r5 r6 r7 r8 r9 r10 r11 r12 r13 r14 r15 r16 r17 r18 r19 r20 r21 r22 => κ [.tup [.agg [.str r0, .str r1, .str r2, .ro 129 r3 true, .bool r4, .str r5, .bool r6, .str r7, .bool r8, .str r9, .bool r10, .str r11, .ro 129 r12 true, .ro 9 r13 true, .bool r14, .str r15, .int .i64 r16, .int .i64 r17, .int .i64 r18, .int .i64 r19, .int .i64 r20, .ro 32 r21 true], .int .i64 r22]]
section
variable (R : Type) (c1 : br.F R) (c2 : aN.F R) (c3 : bf.F R) (c4 : aT.F R) (c5 : ao.F R)
def Γ (g : Nat) (xs : List SV) (κ : KT R) : Option R :=
 match g with
 | 50 => (match xs with
  | [.str a0, .agg [.str a1, .str a2, .str a3, .ro 129 a4 true, .bool a5, .str a6, .bool a7, .str a8, .bool a9, .str a10, .bool a11, .str a12, .ro 129 a13 true, .ro 9 a14 true, .bool a15, .str a16, .int .i64 a17, .int .i64 a18, .int .i64 a19, .int .i64 a20, .int .i64 a21, .nil], .int .i64 a22, .bool a23, .int .i64 a24] => c5 a0 a1 a2 a3 a4 a5 a6 a7 a8 a9 a10 a11 a12 a13 a14 a15 a16 a17 a18 a19 a20 a21 a22 a23 a24 (K0 κ)
  | _ => none)
 | 51 => (match xs with
  | [.str a0, .agg [.int .i64 a1, .int .i64 a2], .str a3, .bool a4] => c4 a0 a1 a2 a3 a4 (aT.K0 κ)
  | _ => none)
 | 94 => (match xs with
  | [.str a0] => c1 a0 (br.K0 κ)
  | _ => none)
 | 95 => (match xs with
  | [.str a0, .agg [.str a1, .str a2, .str a3, .ro 129 a4 true, .bool a5, .str a6, .bool a7, .str a8, .bool a9, .str a10, .bool a11, .str a12, .ro 129 a13 true, .ro 9 a14 true, .bool a15, .str a16, .int .i64 a17, .int .i64 a18, .int .i64 a19, .int .i64 a20, .int .i64 a21, .nil]] => c2 a0 a1 a2 a3 a4 a5 a6 a7 a8 a9 a10 a11 a12 a13 a14 a15 a16 a17 a18 a19 a20 a21 (aN.K0 κ) (aN.K1 κ)
  | _ => none)
 | 96 => (match xs with
  | [.str a0, .int .i64 a1] => c3 a0 a1 (bf.K0 κ)
  | _ => none)
 | _ => none
def h (n : Nat) : Option (List (Nat × List (Nat × Nat))) :=
 match n with
 | 2 => some [(0, [(0, 0)]), (2, [(0, 0)]), (3, [(0, 0)]), (4, [(0, 0)]), (6, [(0, 0)]), (10, [(0, 0)]), (12, [(0, 0)])]
 | 4 => some [(0, [(0, 0)]), (2, [(0, 0)]), (3, [(0, 0)]), (4, [(0, 0)]), (6, [(0, 0)]), (10, [(0, 0)]), (12, [(0, 0)])]
 | 5 => some [(4, [(0, 0)]), (6, [(3, 131), (3, 1), (12, 131), (12, 1), (13, 11), (13, 1), (21, 34), (21, 1)]), (10, [(0, 0)])]
 | 7 => some [(0, [(0, 0)]), (2, [(0, 0)]), (3, [(0, 0)]), (4, [(0, 0)]), (6, [(0, 0)]), (10, [(0, 0)]), (12, [(0, 0)]), (13, [(0, 31)])]
 | 11 => some [(4, [(0, 0)]), (6, [(3, 131), (3, 1), (12, 131), (12, 1), (13, 11), (13, 1), (21, 34), (21, 1)]), (10, [(0, 0)])]
 | 18 => some [(0, [(0, 0)]), (2, [(0, 0)]), (4, [(0, 0)]), (6, [(0, 0)]), (10, [(0, 0)]), (13, [(0, 0)]), (14, [(0, 0)])]
 | 20 => some [(6, [(3, 131), (3, 1), (12, 131), (12, 1), (13, 11), (13, 1), (21, 34), (21, 1)]), (10, [(0, 0)]), (16, [(0, 0)])]
 | 22 => some [(0, [(0, 0)]), (2, [(0, 0)]), (4, [(0, 0)]), (6, [(21, 34)]), (10, [(0, 0)]), (13, [(0, 0)]), (17, [(0, 0)])]
 | 27 => some [(4, [(0, 0)]), (6, [(3, 131), (3, 1), (12, 131), (12, 1), (13, 11), (13, 1), (21, 34), (21, 1)]), (10, [(0, 0)])]
 | _ => none
def C : Cfg R := ⟨ae bj, Γ R c1 c2 c3 c4 c5, fun g => Nat.beq g 50, h, 0, fun _ => false⟩
noncomputable def S := S0 (C R c1 c2 c3 c4 c5) Tryz.f50 0
noncomputable def G := G0 (C R c1 c2 c3 c4 c5) Tryz.f50 0
def s2 := fun x0 x1 x2 x3 x4 x5 x6 x7 x8 x9 x10 x11 x12 x13 x14 x15 x16 x17 x18 x19 x20 x21 x22 x23 x24 x25 x26 x27 x28 x29 x30 x31 x32 x33 x34 x35 x36 x37 x38 x39 x40 x41 x42 x43 => (⟨dZ 149 [(0, .str x0), (2, .int .i64 x1), (3, .bool x2), (4, .int .i64 x3), (6, .ptr 511 0), (10, .ptr 767 0), (12, .bool x4)], [(511, .var 32 [.str x5, .str x6, .str x7, .ro 129 x8 true, .bool x9, .str x10, .bool x11, .str x12, .bool x13, .str x14, .bool x15, .str x16, .ro 129 x17 true, .ro 9 x18 true, .bool x19, .str x20, .int .i64 x21, .int .i64 x22, .int .i64 x23, .int .i64 x24, .int .i64 x25, .nil]), (767, .var 32 [.str x26, .str x27, .str x28, .nil, .bool x29, .str x30, .bool x31, .str x32, .bool x33, .str x34, .bool x35, .str x36, .nil, .nil, .bool x37, .str x38, .int .i64 x39, .int .i64 x40, .int .i64 x41, .int .i64 x42, .int .i64 x43, .nil])], dW⟩ : St)
def s4 := fun x0 x1 x2 x3 x4 x5 x6 x7 x8 x9 x10 x11 x12 x13 x14 x15 x16 x17 x18 x19 x20 x21 x22 x23 x24 x25 x26 x27 x28 x29 x30 x31 x32 x33 x34 x35 x36 x37 x38 x39 x40 x41 x42 x43 => (⟨dZ 149 [(0, .str x0), (2, .int .i64 x1), (3, .bool x2), (4, .int .i64 x3), (6, .ptr 511 0), (10, .ptr 767 0), (12, .bool x4)], [(511, .var 32 [.str x5, .str x6, .str x7, .ro 129 x8 true, .bool x9, .str x10, .bool x11, .str x12, .bool x13, .str x14, .bool x15, .str x16, .ro 129 x17 true, .ro 9 x18 true, .bool x19, .str x20, .int .i64 x21, .int .i64 x22, .int .i64 x23, .int .i64 x24, .int .i64 x25, .nil]), (767, .var 32 [.str x26, .str x27, .str x28, .nil, .bool x29, .str x30, .bool x31, .str x32, .bool x33, .str x34, .bool x35, .str x36, .nil, .nil, .bool x37, .str x38, .int .i64 x39, .int .i64 x40, .int .i64 x41, .int .i64 x42, .int .i64 x43, .nil])], dW⟩ : St)
def s5 := fun x0 x1 x2 x3 x4 x5 x6 x7 x8 x9 x10 x11 x12 x13 x14 x15 x16 x17 x18 x19 x20 x21 x22 x23 x24 x25 x26 x27 x28 x29 x30 x31 x32 x33 x34 x35 x36 x37 x38 x39 x40 => (⟨dZ 149 [(4, .int .i64 x0), (6, .ptr 511 0), (10, .ptr 767 0)], [(511, .var 32 [.str x1, .str x2, .str x3, .ro 129 x4 true, .bool x5, .str x6, .bool x7, .str x8, .bool x9, .str x10, .bool x11, .str x12, .ro 129 x13 true, .ro 9 x14 true, .bool x15, .str x16, .int .i64 x17, .int .i64 x18, .int .i64 x19, .int .i64 x20, .int .i64 x21, .ro 32 x22 true]), (767, .var 32 [.str x23, .str x24, .str x25, .nil, .bool x26, .str x27, .bool x28, .str x29, .bool x30, .str x31, .bool x32, .str x33, .nil, .nil, .bool x34, .str x35, .int .i64 x36, .int .i64 x37, .int .i64 x38, .int .i64 x39, .int .i64 x40, .nil])], dW⟩ : St)
def s7 := fun x0 x1 x2 x3 x4 x5 x6 x7 x8 x9 x10 x11 x12 x13 x14 x15 x16 x17 x18 x19 x20 x21 x22 x23 x24 x25 x26 x27 x28 x29 x30 x31 x32 x33 x34 x35 x36 x37 x38 x39 x40 x41 x42 x43 x44 => (⟨dZ 149 [(0, .str x0), (2, .int .i64 x1), (3, .bool x2), (4, .int .i64 x3), (6, .ptr 511 0), (10, .ptr 767 0), (12, .bool x4), (13, .own 896)], [(511, .var 32 [.str x5, .str x6, .str x7, .ro 129 x8 true, .bool x9, .str x10, .bool x11, .str x12, .bool x13, .str x14, .bool x15, .str x16, .ro 129 x17 true, .ro 9 x18 true, .bool x19, .str x20, .int .i64 x21, .int .i64 x22, .int .i64 x23, .int .i64 x24, .int .i64 x25, .nil]), (767, .var 32 [.str x26, .str x27, .str x28, .nil, .bool x29, .str x30, .bool x31, .str x32, .bool x33, .str x34, .bool x35, .str x36, .nil, .nil, .bool x37, .str x38, .int .i64 x39, .int .i64 x40, .int .i64 x41, .int .i64 x42, .int .i64 x43, .nil]), (896, .row 29 x44 true)], dW⟩ : St)
def B8 := fun x0 x1 x2 x3 x4 x5 x6 x7 x8 x9 x10 x11 x12 x13 x14 x15 x16 x17 x18 x19 x20 x21 x22 x23 x24 x25 x26 x27 x28 x29 x30 x31 x32 x33 x34 x35 x36 x37 x38 x39 x40 => (⟨dZ 149 [(4, .int .i64 x0), (6, .ptr 511 0), (10, .ptr 767 0)], [(511, .var 32 [.str x1, .str x2, .str x3, .ro 129 x4 true, .bool x5, .str x6, .bool x7, .str x8, .bool x9, .str x10, .bool x11, .str x12, .ro 129 x13 true, .ro 9 x14 true, .bool x15, .str x16, .int .i64 x17, .int .i64 x18, .int .i64 x19, .int .i64 x20, .int .i64 x21, .ro 32 x22 true]), (767, .var 32 [.str x23, .str x24, .str x25, .nil, .bool x26, .str x27, .bool x28, .str x29, .bool x30, .str x31, .bool x32, .str x33, .nil, .nil, .bool x34, .str x35, .int .i64 x36, .int .i64 x37, .int .i64 x38, .int .i64 x39, .int .i64 x40, .nil])], dW⟩ : St)
def EA := fun x0 x1 x2 x3 x4 x5 x6 x7 x8 x9 x10 x11 x12 x13 x14 x15 x16 x17 x18 x19 x20 x21 x22 x23 x24 x25 x26 x27 x28 x29 x30 x31 x32 x33 x34 x35 x36 x37 x38 x39 x40 x41 x42 x43 => (⟨dZ 149 [(0, .str x0), (2, .int .i64 x1), (4, .int .i64 x2), (6, .ptr 511 0), (10, .ptr 767 0), (13, .own 896), (14, .str x3)], [(511, .var 32 [.str x4, .str x5, .str x6, .ro 129 x7 true, .bool x8, .str x9, .bool x10, .str x11, .bool x12, .str x13, .bool x14, .str x15, .ro 129 x16 true, .ro 9 x17 true, .bool x18, .str x19, .int .i64 x20, .int .i64 x21, .int .i64 x22, .int .i64 x23, .int .i64 x24, .nil]), (767, .var 32 [.str x25, .str x26, .str x27, .nil, .bool x28, .str x29, .bool x30, .str x31, .bool x32, .str x33, .bool x34, .str x35, .nil, .nil, .bool x36, .str x37, .int .i64 x38, .int .i64 x39, .int .i64 x40, .int .i64 x41, .int .i64 x42, .nil]), (896, .row 29 x43 true)], dW⟩ : St)
def EB := fun x0 x1 x2 x3 x4 x5 x6 x7 x8 x9 x10 x11 x12 x13 x14 x15 x16 x17 x18 x19 x20 x21 x22 x23 x24 x25 x26 x27 x28 x29 x30 x31 x32 x33 x34 x35 x36 x37 x38 x39 x40 => (⟨dZ 149 [(6, .ptr 511 0), (10, .ptr 767 0), (16, .int .i64 x0)], [(511, .var 32 [.str x1, .str x2, .str x3, .ro 129 x4 true, .bool x5, .str x6, .bool x7, .str x8, .bool x9, .str x10, .bool x11, .str x12, .ro 129 x13 true, .ro 9 x14 true, .bool x15, .str x16, .int .i64 x17, .int .i64 x18, .int .i64 x19, .int .i64 x20, .int .i64 x21, .ro 32 x22 true]), (767, .var 32 [.str x23, .str x24, .str x25, .nil, .bool x26, .str x27, .bool x28, .str x29, .bool x30, .str x31, .bool x32, .str x33, .nil, .nil, .bool x34, .str x35, .int .i64 x36, .int .i64 x37, .int .i64 x38, .int .i64 x39, .int .i64 x40, .nil])], dW⟩ : St)
def EC := fun x0 x1 x2 x3 x4 x5 x6 x7 x8 x9 x10 x11 x12 x13 x14 x15 x16 x17 x18 x19 x20 x21 x22 x23 x24 x25 x26 x27 x28 x29 x30 x31 x32 x33 x34 x35 x36 x37 x38 x39 x40 x41 x42 x43 x44 => (⟨dZ 149 [(0, .str x0), (2, .int .i64 x1), (4, .int .i64 x2), (6, .ptr 511 0), (10, .ptr 767 0), (13, .own 896), (17, .int .i64 x3)], [(511, .var 32 [.str x4, .str x5, .str x6, .ro 129 x7 true, .bool x8, .str x9, .bool x10, .str x11, .bool x12, .str x13, .bool x14, .str x15, .ro 129 x16 true, .ro 9 x17 true, .bool x18, .str x19, .int .i64 x20, .int .i64 x21, .int .i64 x22, .int .i64 x23, .int .i64 x24, .own 469]), (469, .row 32 x25 true), (767, .var 32 [.str x26, .str x27, .str x28, .nil, .bool x29, .str x30, .bool x31, .str x32, .bool x33, .str x34, .bool x35, .str x36, .nil, .nil, .bool x37, .str x38, .int .i64 x39, .int .i64 x40, .int .i64 x41, .int .i64 x42, .int .i64 x43, .nil]), (896, .row 29 x44 true)], dW⟩ : St)
def ED := fun x0 x1 x2 x3 x4 x5 x6 x7 x8 x9 x10 x11 x12 x13 x14 x15 x16 x17 x18 x19 x20 x21 x22 x23 x24 x25 x26 x27 x28 x29 x30 x31 x32 x33 x34 x35 x36 x37 x38 x39 x40 => (⟨dZ 149 [(4, .int .i64 x0), (6, .ptr 511 0), (10, .ptr 767 0)], [(511, .var 32 [.str x1, .str x2, .str x3, .ro 129 x4 true, .bool x5, .str x6, .bool x7, .str x8, .bool x9, .str x10, .bool x11, .str x12, .ro 129 x13 true, .ro 9 x14 true, .bool x15, .str x16, .int .i64 x17, .int .i64 x18, .int .i64 x19, .int .i64 x20, .int .i64 x21, .ro 32 x22 true]), (767, .var 32 [.str x23, .str x24, .str x25, .nil, .bool x26, .str x27, .bool x28, .str x29, .bool x30, .str x31, .bool x32, .str x33, .nil, .nil, .bool x34, .str x35, .int .i64 x36, .int .i64 x37, .int .i64 x38, .int .i64 x39, .int .i64 x40, .nil])], dW⟩ : St)
noncomputable abbrev q2 {R : Type} (J : JT R) : J2 R := fun x0 x1 x2 x3 x4 x5 x6 x7 x8 x9 x10 x11 x12 x13 x14 x15 x16 x17 x18 x19 x20 x21 x22 x23 x24 x25 x26 x27 x28 x29 x30 x31 x32 x33 x34 x35 x36 x37 x38 x39 x40 x41 x42 x43 => J (placeOf Tryz.f50 2) (s2 x0 x1 x2 x3 x4 x5 x6 x7 x8 x9 x10 x11 x12 x13 x14 x15 x16 x17 x18 x19 x20 x21 x22 x23 x24 x25 x26 x27 x28 x29 x30 x31 x32 x33 x34 x35 x36 x37 x38 x39 x40 x41 x42 x43)
noncomputable abbrev q4 {R : Type} (J : JT R) : J4 R := fun x0 x1 x2 x3 x4 x5 x6 x7 x8 x9 x10 x11 x12 x13 x14 x15 x16 x17 x18 x19 x20 x21 x22 x23 x24 x25 x26 x27 x28 x29 x30 x31 x32 x33 x34 x35 x36 x37 x38 x39 x40 x41 x42 x43 => J (placeOf Tryz.f50 4) (s4 x0 x1 x2 x3 x4 x5 x6 x7 x8 x9 x10 x11 x12 x13 x14 x15 x16 x17 x18 x19 x20 x21 x22 x23 x24 x25 x26 x27 x28 x29 x30 x31 x32 x33 x34 x35 x36 x37 x38 x39 x40 x41 x42 x43)
noncomputable abbrev q5 {R : Type} (J : JT R) : J5 R := fun x0 x1 x2 x3 x4 x5 x6 x7 x8 x9 x10 x11 x12 x13 x14 x15 x16 x17 x18 x19 x20 x21 x22 x23 x24 x25 x26 x27 x28 x29 x30 x31 x32 x33 x34 x35 x36 x37 x38 x39 x40 => J (placeOf Tryz.f50 5) (s5 x0 x1 x2 x3 x4 x5 x6 x7 x8 x9 x10 x11 x12 x13 x14 x15 x16 x17 x18 x19 x20 x21 x22 x23 x24 x25 x26 x27 x28 x29 x30 x31 x32 x33 x34 x35 x36 x37 x38 x39 x40)
noncomputable abbrev q7 {R : Type} (J : JT R) : J7 R := fun x0 x1 x2 x3 x4 x5 x6 x7 x8 x9 x10 x11 x12 x13 x14 x15 x16 x17 x18 x19 x20 x21 x22 x23 x24 x25 x26 x27 x28 x29 x30 x31 x32 x33 x34 x35 x36 x37 x38 x39 x40 x41 x42 x43 x44 => J (placeOf Tryz.f50 7) (s7 x0 x1 x2 x3 x4 x5 x6 x7 x8 x9 x10 x11 x12 x13 x14 x15 x16 x17 x18 x19 x20 x21 x22 x23 x24 x25 x26 x27 x28 x29 x30 x31 x32 x33 x34 x35 x36 x37 x38 x39 x40 x41 x42 x43 x44)
noncomputable abbrev yt {R : Type} (J : JT R) : sd R := fun x0 x1 x2 x3 x4 x5 x6 x7 x8 x9 x10 x11 x12 x13 x14 x15 x16 x17 x18 x19 x20 x21 x22 x23 x24 x25 x26 x27 x28 x29 x30 x31 x32 x33 x34 x35 x36 x37 x38 x39 x40 => J (placeOf Tryz.f50 11) (B8 x0 x1 x2 x3 x4 x5 x6 x7 x8 x9 x10 x11 x12 x13 x14 x15 x16 x17 x18 x19 x20 x21 x22 x23 x24 x25 x26 x27 x28 x29 x30 x31 x32 x33 x34 x35 x36 x37 x38 x39 x40)
noncomputable abbrev Ej {R : Type} (J : JT R) : Dl R := fun x0 x1 x2 x3 x4 x5 x6 x7 x8 x9 x10 x11 x12 x13 x14 x15 x16 x17 x18 x19 x20 x21 x22 x23 x24 x25 x26 x27 x28 x29 x30 x31 x32 x33 x34 x35 x36 x37 x38 x39 x40 x41 x42 x43 => J (placeOf Tryz.f50 18) (EA x0 x1 x2 x3 x4 x5 x6 x7 x8 x9 x10 x11 x12 x13 x14 x15 x16 x17 x18 x19 x20 x21 x22 x23 x24 x25 x26 x27 x28 x29 x30 x31 x32 x33 x34 x35 x36 x37 x38 x39 x40 x41 x42 x43)
noncomputable abbrev Ek {R : Type} (J : JT R) : Dm R := fun x0 x1 x2 x3 x4 x5 x6 x7 x8 x9 x10 x11 x12 x13 x14 x15 x16 x17 x18 x19 x20 x21 x22 x23 x24 x25 x26 x27 x28 x29 x30 x31 x32 x33 x34 x35 x36 x37 x38 x39 x40 => J (placeOf Tryz.f50 20) (EB x0 x1 x2 x3 x4 x5 x6 x7 x8 x9 x10 x11 x12 x13 x14 x15 x16 x17 x18 x19 x20 x21 x22 x23 x24 x25 x26 x27 x28 x29 x30 x31 x32 x33 x34 x35 x36 x37 x38 x39 x40)
noncomputable abbrev DX {R : Type} (J : JT R) : Da R := fun x0 x1 x2 x3 x4 x5 x6 x7 x8 x9 x10 x11 x12 x13 x14 x15 x16 x17 x18 x19 x20 x21 x22 x23 x24 x25 x26 x27 x28 x29 x30 x31 x32 x33 x34 x35 x36 x37 x38 x39 x40 x41 x42 x43 x44 => J (placeOf Tryz.f50 22) (EC x0 x1 x2 x3 x4 x5 x6 x7 x8 x9 x10 x11 x12 x13 x14 x15 x16 x17 x18 x19 x20 x21 x22 x23 x24 x25 x26 x27 x28 x29 x30 x31 x32 x33 x34 x35 x36 x37 x38 x39 x40 x41 x42 x43 x44)
noncomputable abbrev El {R : Type} (J : JT R) : Dn R := fun x0 x1 x2 x3 x4 x5 x6 x7 x8 x9 x10 x11 x12 x13 x14 x15 x16 x17 x18 x19 x20 x21 x22 x23 x24 x25 x26 x27 x28 x29 x30 x31 x32 x33 x34 x35 x36 x37 x38 x39 x40 => J (placeOf Tryz.f50 27) (ED x0 x1 x2 x3 x4 x5 x6 x7 x8 x9 x10 x11 x12 x13 x14 x15 x16 x17 x18 x19 x20 x21 x22 x23 x24 x25 x26 x27 x28 x29 x30 x31 x32 x33 x34 x35 x36 x37 x38 x39 x40)
theorem k2 (J : JT R) (κ : KT R) (x0 x1 x2 x3 x4 x5 x6 x7 x8 x9 x10 x11 x12 x13 x14 x15 x16 x17 x18 x19 x20 x21 x22 x23 x24 x25 x26 x27 x28 x29 x30 x31 x32 x33 x34 x35 x36 x37 x38 x39 x40 x41 x42 x43 : _) : S R c1 c2 c3 c4 c5 κ J 2 (s2 x0 x1 x2 x3 x4 x5 x6 x7 x8 x9 x10 x11 x12 x13 x14 x15 x16 x17 x18 x19 x20 x21 x22 x23 x24 x25 x26 x27 x28 x29 x30 x31 x32 x33 x34 x35 x36 x37 x38 x39 x40 x41 x42 x43) = t2 c1 (q4 J) x0 x1 x2 x3 x4 x5 x6 x7 x8 x9 x10 x11 x12 x13 x14 x15 x16 x17 x18 x19 x20 x21 x22 x23 x24 x25 x26 x27 x28 x29 x30 x31 x32 x33 x34 x35 x36 x37 x38 x39 x40 x41 x42 x43 := by kernel_rfl
theorem k4 (J : JT R) (κ : KT R) (x0 x1 x2 x3 x4 x5 x6 x7 x8 x9 x10 x11 x12 x13 x14 x15 x16 x17 x18 x19 x20 x21 x22 x23 x24 x25 x26 x27 x28 x29 x30 x31 x32 x33 x34 x35 x36 x37 x38 x39 x40 x41 x42 x43 : _) : S R c1 c2 c3 c4 c5 κ J 4 (s4 x0 x1 x2 x3 x4 x5 x6 x7 x8 x9 x10 x11 x12 x13 x14 x15 x16 x17 x18 x19 x20 x21 x22 x23 x24 x25 x26 x27 x28 x29 x30 x31 x32 x33 x34 x35 x36 x37 x38 x39 x40 x41 x42 x43) = t4 c2 (q5 J) (q7 J) x0 x1 x2 x3 x4 x5 x6 x7 x8 x9 x10 x11 x12 x13 x14 x15 x16 x17 x18 x19 x20 x21 x22 x23 x24 x25 x26 x27 x28 x29 x30 x31 x32 x33 x34 x35 x36 x37 x38 x39 x40 x41 x42 x43 := by kernel_rfl
theorem k5 (J : JT R) (κ : KT R) (x0 x1 x2 x3 x4 x5 x6 x7 x8 x9 x10 x11 x12 x13 x14 x15 x16 x17 x18 x19 x20 x21 x22 x23 x24 x25 x26 x27 x28 x29 x30 x31 x32 x33 x34 x35 x36 x37 x38 x39 x40 : _) : S R c1 c2 c3 c4 c5 κ J 5 (s5 x0 x1 x2 x3 x4 x5 x6 x7 x8 x9 x10 x11 x12 x13 x14 x15 x16 x17 x18 x19 x20 x21 x22 x23 x24 x25 x26 x27 x28 x29 x30 x31 x32 x33 x34 x35 x36 x37 x38 x39 x40) = t5 (K0 κ) x0 x1 x2 x3 x4 x5 x6 x7 x8 x9 x10 x11 x12 x13 x14 x15 x16 x17 x18 x19 x20 x21 x22 x23 x24 x25 x26 x27 x28 x29 x30 x31 x32 x33 x34 x35 x36 x37 x38 x39 x40 := by kernel_rfl
theorem k7 (J : JT R) (κ : KT R) (x0 x1 x2 x3 x4 x5 x6 x7 x8 x9 x10 x11 x12 x13 x14 x15 x16 x17 x18 x19 x20 x21 x22 x23 x24 x25 x26 x27 x28 x29 x30 x31 x32 x33 x34 x35 x36 x37 x38 x39 x40 x41 x42 x43 x44 : _) : S R c1 c2 c3 c4 c5 κ J 7 (s7 x0 x1 x2 x3 x4 x5 x6 x7 x8 x9 x10 x11 x12 x13 x14 x15 x16 x17 x18 x19 x20 x21 x22 x23 x24 x25 x26 x27 x28 x29 x30 x31 x32 x33 x34 x35 x36 x37 x38 x39 x40 x41 x42 x43 x44) = t7 c1 c3 (yt J) (Ej J) (DX J) x0 x1 x2 x3 x4 x5 x6 x7 x8 x9 x10 x11 x12 x13 x14 x15 x16 x17 x18 x19 x20 x21 x22 x23 x24 x25 x26 x27 x28 x29 x30 x31 x32 x33 x34 x35 x36 x37 x38 x39 x40 x41 x42 x43 x44 := by kernel_rfl
theorem Dx (J : JT R) (κ : KT R) (x0 x1 x2 x3 x4 x5 x6 x7 x8 x9 x10 x11 x12 x13 x14 x15 x16 x17 x18 x19 x20 x21 x22 x23 x24 x25 x26 x27 x28 x29 x30 x31 x32 x33 x34 x35 x36 x37 x38 x39 x40 : _) : S R c1 c2 c3 c4 c5 κ J 11 (B8 x0 x1 x2 x3 x4 x5 x6 x7 x8 x9 x10 x11 x12 x13 x14 x15 x16 x17 x18 x19 x20 x21 x22 x23 x24 x25 x26 x27 x28 x29 x30 x31 x32 x33 x34 x35 x36 x37 x38 x39 x40) = t11 (K0 κ) x0 x1 x2 x3 x4 x5 x6 x7 x8 x9 x10 x11 x12 x13 x14 x15 x16 x17 x18 x19 x20 x21 x22 x23 x24 x25 x26 x27 x28 x29 x30 x31 x32 x33 x34 x35 x36 x37 x38 x39 x40 := by kernel_rfl
theorem EJ (J : JT R) (κ : KT R) (x0 x1 x2 x3 x4 x5 x6 x7 x8 x9 x10 x11 x12 x13 x14 x15 x16 x17 x18 x19 x20 x21 x22 x23 x24 x25 x26 x27 x28 x29 x30 x31 x32 x33 x34 x35 x36 x37 x38 x39 x40 x41 x42 x43 : _) : S R c1 c2 c3 c4 c5 κ J 18 (EA x0 x1 x2 x3 x4 x5 x6 x7 x8 x9 x10 x11 x12 x13 x14 x15 x16 x17 x18 x19 x20 x21 x22 x23 x24 x25 x26 x27 x28 x29 x30 x31 x32 x33 x34 x35 x36 x37 x38 x39 x40 x41 x42 x43) = t18 c4 c5 (Ek J) x0 x1 x2 x3 x4 x5 x6 x7 x8 x9 x10 x11 x12 x13 x14 x15 x16 x17 x18 x19 x20 x21 x22 x23 x24 x25 x26 x27 x28 x29 x30 x31 x32 x33 x34 x35 x36 x37 x38 x39 x40 x41 x42 x43 := by kernel_rfl
theorem EK (J : JT R) (κ : KT R) (x0 x1 x2 x3 x4 x5 x6 x7 x8 x9 x10 x11 x12 x13 x14 x15 x16 x17 x18 x19 x20 x21 x22 x23 x24 x25 x26 x27 x28 x29 x30 x31 x32 x33 x34 x35 x36 x37 x38 x39 x40 : _) : S R c1 c2 c3 c4 c5 κ J 20 (EB x0 x1 x2 x3 x4 x5 x6 x7 x8 x9 x10 x11 x12 x13 x14 x15 x16 x17 x18 x19 x20 x21 x22 x23 x24 x25 x26 x27 x28 x29 x30 x31 x32 x33 x34 x35 x36 x37 x38 x39 x40) = t20 (K0 κ) x0 x1 x2 x3 x4 x5 x6 x7 x8 x9 x10 x11 x12 x13 x14 x15 x16 x17 x18 x19 x20 x21 x22 x23 x24 x25 x26 x27 x28 x29 x30 x31 x32 x33 x34 x35 x36 x37 x38 x39 x40 := by kernel_rfl
theorem EL (J : JT R) (κ : KT R) (x0 x1 x2 x3 x4 x5 x6 x7 x8 x9 x10 x11 x12 x13 x14 x15 x16 x17 x18 x19 x20 x21 x22 x23 x24 x25 x26 x27 x28 x29 x30 x31 x32 x33 x34 x35 x36 x37 x38 x39 x40 x41 x42 x43 x44 : _) : S R c1 c2 c3 c4 c5 κ J 22 (EC x0 x1 x2 x3 x4 x5 x6 x7 x8 x9 x10 x11 x12 x13 x14 x15 x16 x17 x18 x19 x20 x21 x22 x23 x24 x25 x26 x27 x28 x29 x30 x31 x32 x33 x34 x35 x36 x37 x38 x39 x40 x41 x42 x43 x44) = t22 c3 c4 c5 (DX J) (El J) x0 x1 x2 x3 x4 x5 x6 x7 x8 x9 x10 x11 x12 x13 x14 x15 x16 x17 x18 x19 x20 x21 x22 x23 x24 x25 x26 x27 x28 x29 x30 x31 x32 x33 x34 x35 x36 x37 x38 x39 x40 x41 x42 x43 x44 := by kernel_rfl
theorem EM (J : JT R) (κ : KT R) (x0 x1 x2 x3 x4 x5 x6 x7 x8 x9 x10 x11 x12 x13 x14 x15 x16 x17 x18 x19 x20 x21 x22 x23 x24 x25 x26 x27 x28 x29 x30 x31 x32 x33 x34 x35 x36 x37 x38 x39 x40 : _) : S R c1 c2 c3 c4 c5 κ J 27 (ED x0 x1 x2 x3 x4 x5 x6 x7 x8 x9 x10 x11 x12 x13 x14 x15 x16 x17 x18 x19 x20 x21 x22 x23 x24 x25 x26 x27 x28 x29 x30 x31 x32 x33 x34 x35 x36 x37 x38 x39 x40) = t27 (K0 κ) x0 x1 x2 x3 x4 x5 x6 x7 x8 x9 x10 x11 x12 x13 x14 x15 x16 x17 x18 x19 x20 x21 x22 x23 x24 x25 x26 x27 x28 x29 x30 x31 x32 x33 x34 x35 x36 x37 x38 x39 x40 := by kernel_rfl
theorem k (κ : KT R) (k : Nat) (a0 a1 a2 a3 a4 a5 a6 a7 a8 a9 a10 a11 a12 a13 a14 a15 a16 a17 a18 a19 a20 a21 a22 a23 a24 : _) : b8 (C R c1 c2 c3 c4 c5) Tryz.f50 10000 k [.str a0, .agg [.str a1, .str a2, .str a3, .ro 129 a4 true, .bool a5, .str a6, .bool a7, .str a8, .bool a9, .str a10, .bool a11, .str a12, .ro 129 a13 true, .ro 9 a14 true, .bool a15, .str a16, .int .i64 a17, .int .i64 a18, .int .i64 a19, .int .i64 a20, .int .i64 a21, .nil], .int .i64 a22, .bool a23, .int .i64 a24] κ = ao.e c1 c2 c3 c4 c5 a0 a1 a2 a3 a4 a5 a6 a7 a8 a9 a10 a11 a12 a13 a14 a15 a16 a17 a18 a19 a20 a21 a22 a23 a24 (q2 (G R c1 c2 c3 c4 c5 κ k)) (q4 (G R c1 c2 c3 c4 c5 κ k)) (q5 (G R c1 c2 c3 c4 c5 κ k)) (q7 (G R c1 c2 c3 c4 c5 κ k)) (yt (G R c1 c2 c3 c4 c5 κ k)) (Ej (G R c1 c2 c3 c4 c5 κ k)) (Ek (G R c1 c2 c3 c4 c5 κ k)) (DX (G R c1 c2 c3 c4 c5 κ k)) (El (G R c1 c2 c3 c4 c5 κ k)) (K0 κ) := by kernel_rfl
theorem g5 (κ : KT R) : ∀ (f : Nat), q5 (G R c1 c2 c3 c4 c5 κ f) = L5 c1 c2 c3 c4 c5 (K0 κ) f
 | 0 => rfl
 | f + 1 => by
  funext x0 x1 x2 x3 x4 x5 x6 x7 x8 x9 x10 x11 x12 x13 x14 x15 x16 x17 x18 x19 x20 x21 x22 x23 x24 x25 x26 x27 x28 x29 x30 x31 x32 x33 x34 x35 x36 x37 x38 x39 x40
  show S R c1 c2 c3 c4 c5 κ (G R c1 c2 c3 c4 c5 κ f) 5 _ = _
  rw [k5]
  rfl
theorem g11 (κ : KT R) : ∀ (f : Nat), yt (G R c1 c2 c3 c4 c5 κ f) = qS c1 c2 c3 c4 c5 (K0 κ) f
 | 0 => rfl
 | f + 1 => by
  funext x0 x1 x2 x3 x4 x5 x6 x7 x8 x9 x10 x11 x12 x13 x14 x15 x16 x17 x18 x19 x20 x21 x22 x23 x24 x25 x26 x27 x28 x29 x30 x31 x32 x33 x34 x35 x36 x37 x38 x39 x40
  show S R c1 c2 c3 c4 c5 κ (G R c1 c2 c3 c4 c5 κ f) 11 _ = _
  rw [Dx]
  rfl
theorem g20 (κ : KT R) : ∀ (f : Nat), Ek (G R c1 c2 c3 c4 c5 κ f) = DR c1 c2 c3 c4 c5 (K0 κ) f
 | 0 => rfl
 | f + 1 => by
  funext x0 x1 x2 x3 x4 x5 x6 x7 x8 x9 x10 x11 x12 x13 x14 x15 x16 x17 x18 x19 x20 x21 x22 x23 x24 x25 x26 x27 x28 x29 x30 x31 x32 x33 x34 x35 x36 x37 x38 x39 x40
  show S R c1 c2 c3 c4 c5 κ (G R c1 c2 c3 c4 c5 κ f) 20 _ = _
  rw [EK]
  rfl
theorem g18 (κ : KT R) : ∀ (f : Nat), Ej (G R c1 c2 c3 c4 c5 κ f) = Db c1 c2 c3 c4 c5 (K0 κ) f
 | 0 => rfl
 | f + 1 => by
  funext x0 x1 x2 x3 x4 x5 x6 x7 x8 x9 x10 x11 x12 x13 x14 x15 x16 x17 x18 x19 x20 x21 x22 x23 x24 x25 x26 x27 x28 x29 x30 x31 x32 x33 x34 x35 x36 x37 x38 x39 x40 x41 x42 x43
  show S R c1 c2 c3 c4 c5 κ (G R c1 c2 c3 c4 c5 κ f) 18 _ = _
  rw [EJ, g20 R c1 c2 c3 c4 c5 κ f]
  rfl
theorem Eu (κ : KT R) : ∀ (f : Nat), El (G R c1 c2 c3 c4 c5 κ f) = DS c1 c2 c3 c4 c5 (K0 κ) f
 | 0 => rfl
 | f + 1 => by
  funext x0 x1 x2 x3 x4 x5 x6 x7 x8 x9 x10 x11 x12 x13 x14 x15 x16 x17 x18 x19 x20 x21 x22 x23 x24 x25 x26 x27 x28 x29 x30 x31 x32 x33 x34 x35 x36 x37 x38 x39 x40
  show S R c1 c2 c3 c4 c5 κ (G R c1 c2 c3 c4 c5 κ f) 27 _ = _
  rw [EM]
  rfl
theorem g22 (κ : KT R) : ∀ (f : Nat), DX (G R c1 c2 c3 c4 c5 κ f) = BH c1 c2 c3 c4 c5 (K0 κ) f
 | 0 => rfl
 | f + 1 => by
  funext x0 x1 x2 x3 x4 x5 x6 x7 x8 x9 x10 x11 x12 x13 x14 x15 x16 x17 x18 x19 x20 x21 x22 x23 x24 x25 x26 x27 x28 x29 x30 x31 x32 x33 x34 x35 x36 x37 x38 x39 x40 x41 x42 x43 x44
  show S R c1 c2 c3 c4 c5 κ (G R c1 c2 c3 c4 c5 κ f) 22 _ = _
  rw [EL, g22 κ f, Eu R c1 c2 c3 c4 c5 κ f]
  rfl
theorem g7 (κ : KT R) : ∀ (f : Nat), q7 (G R c1 c2 c3 c4 c5 κ f) = L7 c1 c2 c3 c4 c5 (K0 κ) f
 | 0 => rfl
 | f + 1 => by
  funext x0 x1 x2 x3 x4 x5 x6 x7 x8 x9 x10 x11 x12 x13 x14 x15 x16 x17 x18 x19 x20 x21 x22 x23 x24 x25 x26 x27 x28 x29 x30 x31 x32 x33 x34 x35 x36 x37 x38 x39 x40 x41 x42 x43 x44
  show S R c1 c2 c3 c4 c5 κ (G R c1 c2 c3 c4 c5 κ f) 7 _ = _
  rw [k7, g11 R c1 c2 c3 c4 c5 κ f, g18 R c1 c2 c3 c4 c5 κ f, g22 R c1 c2 c3 c4 c5 κ f]
  rfl
theorem g4 (κ : KT R) : ∀ (f : Nat), q4 (G R c1 c2 c3 c4 c5 κ f) = L4 c1 c2 c3 c4 c5 (K0 κ) f
 | 0 => rfl
 | f + 1 => by
  funext x0 x1 x2 x3 x4 x5 x6 x7 x8 x9 x10 x11 x12 x13 x14 x15 x16 x17 x18 x19 x20 x21 x22 x23 x24 x25 x26 x27 x28 x29 x30 x31 x32 x33 x34 x35 x36 x37 x38 x39 x40 x41 x42 x43
  show S R c1 c2 c3 c4 c5 κ (G R c1 c2 c3 c4 c5 κ f) 4 _ = _
  rw [k4, g5 R c1 c2 c3 c4 c5 κ f, g7 R c1 c2 c3 c4 c5 κ f]
  rfl
theorem g2 (κ : KT R) : ∀ (f : Nat), q2 (G R c1 c2 c3 c4 c5 κ f) = L2 c1 c2 c3 c4 c5 (K0 κ) f
 | 0 => rfl
 | f + 1 => by
  funext x0 x1 x2 x3 x4 x5 x6 x7 x8 x9 x10 x11 x12 x13 x14 x15 x16 x17 x18 x19 x20 x21 x22 x23 x24 x25 x26 x27 x28 x29 x30 x31 x32 x33 x34 x35 x36 x37 x38 x39 x40 x41 x42 x43
  show S R c1 c2 c3 c4 c5 κ (G R c1 c2 c3 c4 c5 κ f) 2 _ = _
  rw [k2, g4 R c1 c2 c3 c4 c5 κ f]
  rfl
end
theorem ac {R : Type} (tab : bO) (ht : av tab) (n : Nat) (ih : ∀ (a0 a1 a2 a3 a4 a5 a6 a7 a8 a9 a10 a11 a12 a13 a14 a15 a16 a17 a18 a19 a20 a21 a22 a23 a24 : _) (κ : KT R), aa Tryz.prog (ae bj) tab 50 [.str a0, .agg [.str a1, .str a2, .str a3, .ro 129 a4 true, .bool a5, .str a6, .bool a7, .str a8, .bool a9, .str a10, .bool a11, .str a12, .ro 129 a13 true, .ro 9 a14 true, .bool a15, .str a16, .int .i64 a17, .int .i64 a18, .int .i64 a19, .int .i64 a20, .int .i64 a21, .nil], .int .i64 a22, .bool a23, .int .i64 a24] κ (ao.R n a0 a1 a2 a3 a4 a5 a6 a7 a8 a9 a10 a11 a12 a13 a14 a15 a16 a17 a18 a19 a20 a21 a22 a23 a24 (K0 κ))) (g : Nat) : bL (R := R) Tryz.prog (ae bj) tab g ((C R br aN bf aT (ao.R n)).call g) := by
 refine aD fun xs κ => ?_
 show aa _ _ _ g xs κ (Γ R br aN bf aT (ao.R n) g xs κ)
 unfold Γ
 split
 ·split
  ·exact ih _ _ _ _ _ _ _ _ _ _ _ _ _ _ _ _ _ _ _ _ _ _ _ _ _ κ
  ·exact aa.none
 ·split
  ·exact aT.aE tab ht _ _ _ _ _ κ
  ·exact aa.none
 ·split
  ·exact br.aE tab ht _ κ
  ·exact aa.none
 ·split
  ·exact aN.aE tab ht _ _ _ _ _ _ _ _ _ _ _ _ _ _ _ _ _ _ _ _ _ _ κ
  ·exact aa.none
 ·split
  ·exact bf.aE tab ht _ _ κ
  ·exact aa.none
 ·exact aa.none
theorem fA {R : Type} (tab : bO) (ht : av tab) : ∀ (n : Nat) (a0 a1 a2 a3 a4 a5 a6 a7 a8 a9 a10 a11 a12 a13 a14 a15 a16 a17 a18 a19 a20 a21 a22 a23 a24 : _) (κ : KT R), aa Tryz.prog (ae bj) tab 50 [.str a0, .agg [.str a1, .str a2, .str a3, .ro 129 a4 true, .bool a5, .str a6, .bool a7, .str a8, .bool a9, .str a10, .bool a11, .str a12, .ro 129 a13 true, .ro 9 a14 true, .bool a15, .str a16, .int .i64 a17, .int .i64 a18, .int .i64 a19, .int .i64 a20, .int .i64 a21, .nil], .int .i64 a22, .bool a23, .int .i64 a24] κ (ao.R n a0 a1 a2 a3 a4 a5 a6 a7 a8 a9 a10 a11 a12 a13 a14 a15 a16 a17 a18 a19 a20 a21 a22 a23 a24 (K0 κ))
 | 0, _, _, _, _, _, _, _, _, _, _, _, _, _, _, _, _, _, _, _, _, _, _, _, _, _, _ => aa.none
 | n + 1, a0, a1, a2, a3, a4, a5, a6, a7, a8, a9, a10, a11, a12, a13, a14, a15, a16, a17, a18, a19, a20, a21, a22, a23, a24, κ => ah (C := C R br aN bf aT (ao.R n)) (fn := Tryz.f50) cd (ac tab ht n (fA tab ht n)) (by kernel_rfl) (by kernel_rfl) (show _ = B br aN bf aT (ao.R n) a0 a1 a2 a3 a4 a5 a6 a7 a8 a9 a10 a11 a12 a13 a14 a15 a16 a17 a18 a19 a20 a21 a22 a23 a24 (K0 κ) by rw [k]; rw [g2 R br aN bf aT (ao.R n) κ ag, g4 R br aN bf aT (ao.R n) κ ag, g5 R br aN bf aT (ao.R n) κ ag, g7 R br aN bf aT (ao.R n) κ ag, g11 R br aN bf aT (ao.R n) κ ag, g18 R br aN bf aT (ao.R n) κ ag, g20 R br aN bf aT (ao.R n) κ ag, g22 R br aN bf aT (ao.R n) κ ag, Eu R br aN bf aT (ao.R n) κ ag]; rfl)
theorem aE {R : Type} (tab : bO) (ht : av tab) (a0 a1 a2 a3 a4 a5 a6 a7 a8 a9 a10 a11 a12 a13 a14 a15 a16 a17 a18 a19 a20 a21 a22 a23 a24 : _) (κ : KT R) : aa Tryz.prog (ae bj) tab 50 [.str a0, .agg [.str a1, .str a2, .str a3, .ro 129 a4 true, .bool a5, .str a6, .bool a7, .str a8, .bool a9, .str a10, .bool a11, .str a12, .ro 129 a13 true, .ro 9 a14 true, .bool a15, .str a16, .int .i64 a17, .int .i64 a18, .int .i64 a19, .int .i64 a20, .int .i64 a21, .nil], .int .i64 a22, .bool a23, .int .i64 a24] κ (ao a0 a1 a2 a3 a4 a5 a6 a7 a8 a9 a10 a11 a12 a13 a14 a15 a16 a17 a18 a19 a20 a21 a22 a23 a24 (K0 κ)) := fA tab ht ag a0 a1 a2 a3 a4 a5 a6 a7 a8 a9 a10 a11 a12 a13 a14 a15 a16 a17 a18 a19 a20 a21 a22 a23 a24 κ
end ao
namespace dq
abbrev K0 {R : Type} (κ : KT R) : Q0 R := fun r0 r1 r2 r3 r4 r5 r6 r7 r8 r9 r10 r11 r12 r13 r14 r15 r16 r17 r18 r19 r20 r21 => κ [.agg [.str r0, .str r1, .str r2, .ro 129 r3 true, .bool r4, .str r5, .bool r6, .str r7, .bool r8, .str r9, .bool r10, .str r11, .ro 129 r12 true, .ro 9 r13 true, .bool r14, .str r15, .int .i64 r16, .int .i64 r17, .int .i64 r18, .int .i64 r19, .int .i64 r20, .ro 32 r21 true]]
section
variable (R : Type) (c1 : aT.F R) (c2 : ao.F R)
def Γ (g : Nat) (xs : List SV) (κ : KT R) : Option R :=
 match g with
 | 50 => (match xs with
  | [.str a0, .agg [.str a1, .str a2, .str a3, .ro 129 a4 true, .bool a5, .str a6, .bool a7, .str a8, .bool a9, .str a10, .bool a11, .str a12, .ro 129 a13 true, .ro 9 a14 true, .bool a15, .str a16, .int .i64 a17, .int .i64 a18, .int .i64 a19, .int .i64 a20, .int .i64 a21, .nil], .int .i64 a22, .bool a23, .int .i64 a24] => c2 a0 a1 a2 a3 a4 a5 a6 a7 a8 a9 a10 a11 a12 a13 a14 a15 a16 a17 a18 a19 a20 a21 a22 a23 a24 (ao.K0 κ)
  | _ => none)
 | 51 => (match xs with
  | [.str a0, .agg [.int .i64 a1, .int .i64 a2], .str a3, .bool a4] => c1 a0 a1 a2 a3 a4 (aT.K0 κ)
  | _ => none)
 | _ => none
def h (n : Nat) : Option (List (Nat × List (Nat × Nat))) :=
 match n with
 | _ => none
def C : Cfg R := ⟨ae bj, Γ R c1 c2, fun g => Nat.beq g 50, h, 0, fun _ => false⟩
theorem k (κ : KT R) (k : Nat) (a0 : _) : b8 (C R c1 c2) Tryz.f15 10000 k [.str a0] κ = dq.e c1 c2 a0 (K0 κ) := by kernel_rfl
end
theorem ac {R : Type} (tab : bO) (ht : av tab) (g : Nat) : bL (R := R) Tryz.prog (ae bj) tab g ((C R aT ao).call g) := by
 refine aD fun xs κ => ?_
 show aa _ _ _ g xs κ (Γ R aT ao g xs κ)
 unfold Γ
 split
 ·split
  ·exact ao.aE tab ht _ _ _ _ _ _ _ _ _ _ _ _ _ _ _ _ _ _ _ _ _ _ _ _ _ κ
  ·exact aa.none
 ·split
  ·exact aT.aE tab ht _ _ _ _ _ κ
  ·exact aa.none
 ·exact aa.none
theorem aE {R : Type} (tab : bO) (ht : av tab) (a0 : _) (κ : KT R) : aa Tryz.prog (ae bj) tab 15 [.str a0] κ (dq a0 (K0 κ)) := ah (C := C R aT ao) (fn := Tryz.f15) cd (ac tab ht) (by kernel_rfl) (by kernel_rfl) (by rw [k]; rfl)
end dq
namespace aY
abbrev K0 {R : Type} (κ : KT R) : LA -> Option R := fun r0 => κ [.fr 29 r0 true]
section
variable (R : Type) (c1 : aY.F R)
def Γ (g : Nat) (xs : List SV) (κ : KT R) : Option R :=
 match g with
 | 53 => (match xs with
  | [.agg [.str a0, .str a1, .str a2, .ro 129 a3 true, .bool a4, .str a5, .bool a6, .str a7, .bool a8, .str a9, .bool a10, .str a11, .ro 129 a12 true, .ro 9 a13 true, .bool a14, .str a15, .int .i64 a16, .int .i64 a17, .int .i64 a18, .int .i64 a19, .int .i64 a20, .ro 32 a21 true], .fr 29 a22 true] => c1 a0 a1 a2 a3 a4 a5 a6 a7 a8 a9 a10 a11 a12 a13 a14 a15 a16 a17 a18 a19 a20 a21 a22 (K0 κ)
  | _ => none)
 | _ => none
def h (n : Nat) : Option (List (Nat × List (Nat × Nat))) :=
 match n with
 | 5 => some [(1, [(0, 0)]), (22, [(0, 0)]), (23, [(0, 0)]), (24, [(0, 0)])]
 | _ => none
def C : Cfg R := ⟨ae bj, Γ R c1, fun _ => false, h, 0, fun g => Nat.beq g 53⟩
noncomputable def S := S0 (C R c1) Tryz.f53 0
noncomputable def G := G0 (C R c1) Tryz.f53 0
def s5 := fun x0 x1 x2 x3 => (⟨dZ 33 [(1, .own 128), (22, .ro 32 x0 true), (23, .int .i64 x1), (24, .int .i64 x2)], [(128, .row 29 x3 true)], dW⟩ : St)
noncomputable abbrev q5 {R : Type} (J : JT R) : J5 R := fun x0 x1 x2 x3 => J (placeOf Tryz.f53 5) (s5 x0 x1 x2 x3)
theorem k5 (J : JT R) (κ : KT R) (x0 x1 x2 x3 : _) : S R c1 κ J 5 (s5 x0 x1 x2 x3) = t5 c1 (q5 J) (K0 κ) x0 x1 x2 x3 := by kernel_rfl
theorem k (κ : KT R) (k : Nat) (a0 a1 a2 a3 a4 a5 a6 a7 a8 a9 a10 a11 a12 a13 a14 a15 a16 a17 a18 a19 a20 a21 a22 : _) : b8 (C R c1) Tryz.f53 10000 k [.agg [.str a0, .str a1, .str a2, .ro 129 a3 true, .bool a4, .str a5, .bool a6, .str a7, .bool a8, .str a9, .bool a10, .str a11, .ro 129 a12 true, .ro 9 a13 true, .bool a14, .str a15, .int .i64 a16, .int .i64 a17, .int .i64 a18, .int .i64 a19, .int .i64 a20, .ro 32 a21 true], .fr 29 a22 true] κ = aY.e c1 a0 a1 a2 a3 a4 a5 a6 a7 a8 a9 a10 a11 a12 a13 a14 a15 a16 a17 a18 a19 a20 a21 a22 (q5 (G R c1 κ k)) (K0 κ) := by kernel_rfl
theorem g5 (κ : KT R) : ∀ (f : Nat), q5 (G R c1 κ f) = L5 c1 (K0 κ) f
 | 0 => rfl
 | f + 1 => by
  funext x0 x1 x2 x3
  show S R c1 κ (G R c1 κ f) 5 _ = _
  rw [k5, g5 κ f]
  rfl
end
theorem ac {R : Type} (tab : bO) (ht : av tab) (n : Nat) (ih : ∀ (a0 a1 a2 a3 a4 a5 a6 a7 a8 a9 a10 a11 a12 a13 a14 a15 a16 a17 a18 a19 a20 a21 a22 : _) (κ : KT R), aa Tryz.prog (ae bj) tab 53 [.agg [.str a0, .str a1, .str a2, .ro 129 a3 true, .bool a4, .str a5, .bool a6, .str a7, .bool a8, .str a9, .bool a10, .str a11, .ro 129 a12 true, .ro 9 a13 true, .bool a14, .str a15, .int .i64 a16, .int .i64 a17, .int .i64 a18, .int .i64 a19, .int .i64 a20, .ro 32 a21 true], .fr 29 a22 true] κ (aY.R n a0 a1 a2 a3 a4 a5 a6 a7 a8 a9 a10 a11 a12 a13 a14 a15 a16 a17 a18 a19 a20 a21 a22 (K0 κ))) (g : Nat) : bL (R := R) Tryz.prog (ae bj) tab g ((C R (aY.R n)).call g) := by
 refine aD fun xs κ => ?_
 show aa _ _ _ g xs κ (Γ R (aY.R n) g xs κ)
 unfold Γ
 split
 ·split
  ·exact ih _ _ _ _ _ _ _ _ _ _ _ _ _ _ _ _ _ _ _ _ _ _ _ κ
  ·exact aa.none
 ·exact aa.none
theorem fA {R : Type} (tab : bO) (ht : av tab) : ∀ (n : Nat) (a0 a1 a2 a3 a4 a5 a6 a7 a8 a9 a10 a11 a12 a13 a14 a15 a16 a17 a18 a19 a20 a21 a22 : _) (κ : KT R), aa Tryz.prog (ae bj) tab 53 [.agg [.str a0, .str a1, .str a2, .ro 129 a3 true, .bool a4, .str a5, .bool a6, .str a7, .bool a8, .str a9, .bool a10, .str a11, .ro 129 a12 true, .ro 9 a13 true, .bool a14, .str a15, .int .i64 a16, .int .i64 a17, .int .i64 a18, .int .i64 a19, .int .i64 a20, .ro 32 a21 true], .fr 29 a22 true] κ (aY.R n a0 a1 a2 a3 a4 a5 a6 a7 a8 a9 a10 a11 a12 a13 a14 a15 a16 a17 a18 a19 a20 a21 a22 (K0 κ))
 | 0, _, _, _, _, _, _, _, _, _, _, _, _, _, _, _, _, _, _, _, _, _, _, _, _ => aa.none
 | n + 1, a0, a1, a2, a3, a4, a5, a6, a7, a8, a9, a10, a11, a12, a13, a14, a15, a16, a17, a18, a19, a20, a21, a22, κ => ah (C := C R (aY.R n)) (fn := Tryz.f53) cd (ac tab ht n (fA tab ht n)) (by kernel_rfl) (by kernel_rfl) (show _ = B (aY.R n) a0 a1 a2 a3 a4 a5 a6 a7 a8 a9 a10 a11 a12 a13 a14 a15 a16 a17 a18 a19 a20 a21 a22 (K0 κ) by rw [k]; rw [g5 R (aY.R n) κ ag]; rfl)
theorem aE {R : Type} (tab : bO) (ht : av tab) (a0 a1 a2 a3 a4 a5 a6 a7 a8 a9 a10 a11 a12 a13 a14 a15 a16 a17 a18 a19 a20 a21 a22 : _) (κ : KT R) : aa Tryz.prog (ae bj) tab 53 [.agg [.str a0, .str a1, .str a2, .ro 129 a3 true, .bool a4, .str a5, .bool a6, .str a7, .bool a8, .str a9, .bool a10, .str a11, .ro 129 a12 true, .ro 9 a13 true, .bool a14, .str a15, .int .i64 a16, .int .i64 a17, .int .i64 a18, .int .i64 a19, .int .i64 a20, .ro 32 a21 true], .fr 29 a22 true] κ (aY a0 a1 a2 a3 a4 a5 a6 a7 a8 a9 a10 a11 a12 a13 a14 a15 a16 a17 a18 a19 a20 a21 a22 (K0 κ)) := fA tab ht ag a0 a1 a2 a3 a4 a5 a6 a7 a8 a9 a10 a11 a12 a13 a14 a15 a16 a17 a18 a19 a20 a21 a22 κ
end aY
namespace bY
abbrev K0 {R : Type} (κ : KT R) : LA -> Option R := fun r0 => κ [.fr 29 r0 true]
section
variable (R : Type) (c1 : aY.F R)
def Γ (g : Nat) (xs : List SV) (κ : KT R) : Option R :=
 match g with
 | 53 => (match xs with
  | [.agg [.str a0, .str a1, .str a2, .ro 129 a3 true, .bool a4, .str a5, .bool a6, .str a7, .bool a8, .str a9, .bool a10, .str a11, .ro 129 a12 true, .ro 9 a13 true, .bool a14, .str a15, .int .i64 a16, .int .i64 a17, .int .i64 a18, .int .i64 a19, .int .i64 a20, .ro 32 a21 true], .fr 29 a22 true] => c1 a0 a1 a2 a3 a4 a5 a6 a7 a8 a9 a10 a11 a12 a13 a14 a15 a16 a17 a18 a19 a20 a21 a22 (aY.K0 κ)
  | _ => none)
 | _ => none
def h (n : Nat) : Option (List (Nat × List (Nat × Nat))) :=
 match n with
 | 5 => some [(1, [(0, 0)]), (22, [(0, 0)]), (23, [(0, 0)]), (24, [(0, 0)])]
 | _ => none
def C : Cfg R := ⟨ae bj, Γ R c1, fun _ => false, h, 0, fun g => Nat.beq g 53⟩
noncomputable def S := S0 (C R c1) Tryz.f53 0
noncomputable def G := G0 (C R c1) Tryz.f53 0
def s5 := fun x0 x1 x2 x3 => (⟨dZ 33 [(1, .own 128), (22, .ro 32 x0 true), (23, .int .i64 x1), (24, .int .i64 x2)], [(128, .row 29 x3 true)], dW⟩ : St)
noncomputable abbrev q5 {R : Type} (J : JT R) : J5 R := fun x0 x1 x2 x3 => J (placeOf Tryz.f53 5) (s5 x0 x1 x2 x3)
theorem k5 (J : JT R) (κ : KT R) (x0 x1 x2 x3 : _) : S R c1 κ J 5 (s5 x0 x1 x2 x3) = t5 c1 (q5 J) (K0 κ) x0 x1 x2 x3 := by kernel_rfl
theorem k (κ : KT R) (k : Nat) (a0 a1 a2 a3 a4 a5 a6 a7 a8 a9 a10 a11 a12 a13 a14 a15 a16 a17 a18 a19 a20 a21 : _) : b8 (C R c1) Tryz.f53 10000 k [.agg [.str a0, .str a1, .str a2, .ro 129 a3 true, .bool a4, .str a5, .bool a6, .str a7, .bool a8, .str a9, .bool a10, .str a11, .ro 129 a12 true, .ro 9 a13 true, .bool a14, .str a15, .int .i64 a16, .int .i64 a17, .int .i64 a18, .int .i64 a19, .int .i64 a20, .ro 32 a21 true], .nil] κ = bY.e c1 a0 a1 a2 a3 a4 a5 a6 a7 a8 a9 a10 a11 a12 a13 a14 a15 a16 a17 a18 a19 a20 a21 (q5 (G R c1 κ k)) (K0 κ) := by kernel_rfl
theorem g5 (κ : KT R) : ∀ (f : Nat), q5 (G R c1 κ f) = L5 c1 (K0 κ) f
 | 0 => rfl
 | f + 1 => by
  funext x0 x1 x2 x3
  show S R c1 κ (G R c1 κ f) 5 _ = _
  rw [k5, g5 κ f]
  rfl
end
theorem ac {R : Type} (tab : bO) (ht : av tab) (g : Nat) : bL (R := R) Tryz.prog (ae bj) tab g ((C R aY).call g) := by
 refine aD fun xs κ => ?_
 show aa _ _ _ g xs κ (Γ R aY g xs κ)
 unfold Γ
 split
 ·split
  ·exact aY.aE tab ht _ _ _ _ _ _ _ _ _ _ _ _ _ _ _ _ _ _ _ _ _ _ _ κ
  ·exact aa.none
 ·exact aa.none
theorem aE {R : Type} (tab : bO) (ht : av tab) (a0 a1 a2 a3 a4 a5 a6 a7 a8 a9 a10 a11 a12 a13 a14 a15 a16 a17 a18 a19 a20 a21 : _) (κ : KT R) : aa Tryz.prog (ae bj) tab 53 [.agg [.str a0, .str a1, .str a2, .ro 129 a3 true, .bool a4, .str a5, .bool a6, .str a7, .bool a8, .str a9, .bool a10, .str a11, .ro 129 a12 true, .ro 9 a13 true, .bool a14, .str a15, .int .i64 a16, .int .i64 a17, .int .i64 a18, .int .i64 a19, .int .i64 a20, .ro 32 a21 true], .nil] κ (bY a0 a1 a2 a3 a4 a5 a6 a7 a8 a9 a10 a11 a12 a13 a14 a15 a16 a17 a18 a19 a20 a21 (K0 κ)) := ah (C := C R aY) (fn := Tryz.f53) cd (ac tab ht) (by kernel_rfl) (by kernel_rfl) (by rw [k]; rw [g5 R aY κ ag]; rfl)
end bY
namespace cE
abbrev K0 {R : Type} (κ : KT R) : Int -> LA -> Option R := fun r0 r1 => κ [.tup [], .vp 3 [.int .i64 r0], .vp 36 [.fr 29 r1 true]]
abbrev K1 {R : Type} (κ : KT R) : Int -> Option R := fun r0 => κ [.tup [], .vp 3 [.int .i64 r0], .vp 36 [.nil]]
section
variable (R : Type)
def Γ (g : Nat) (xs : List SV) (κ : KT R) : Option R :=
 match g with
 | _ => none
def h (n : Nat) : Option (List (Nat × List (Nat × Nat))) :=
 match n with
 | _ => none
def C : Cfg R := ⟨ae bj, Γ R, fun _ => false, h, 0, fun _ => false⟩
theorem k (κ : KT R) (k : Nat) (a0 a1 : _) : b8 (C R) Tryz.f52 10000 k [.int .i64 a0, .vp 3 [.int .i64 a1], .vp 36 [.nil]] κ = cE.e a0 a1 (K0 κ) (K1 κ) := by kernel_rfl
end
theorem ac {R : Type} (tab : bO) (ht : av tab) (g : Nat) : bL (R := R) Tryz.prog (ae bj) tab g ((C R).call g) := by
 refine aD fun xs κ => ?_
 show aa _ _ _ g xs κ (Γ R g xs κ)
 unfold Γ
 split
 ·exact aa.none
theorem aE {R : Type} (tab : bO) (ht : av tab) (a0 a1 : _) (κ : KT R) : aa Tryz.prog (ae bj) tab 52 [.int .i64 a0, .vp 3 [.int .i64 a1], .vp 36 [.nil]] κ (cE a0 a1 (K0 κ) (K1 κ)) := ah (C := C R) (fn := Tryz.f52) cd (ac tab ht) (by kernel_rfl) (by kernel_rfl) (by rw [k]; rfl)
end cE
namespace ck
abbrev K0 {R : Type} (κ : KT R) : Int -> LA -> Option R := fun r0 r1 => κ [.tup [], .vp 3 [.int .i64 r0], .vp 36 [.fr 29 r1 true]]
section
variable (R : Type)
def Γ (g : Nat) (xs : List SV) (κ : KT R) : Option R :=
 match g with
 | _ => none
def h (n : Nat) : Option (List (Nat × List (Nat × Nat))) :=
 match n with
 | _ => none
def C : Cfg R := ⟨ae bj, Γ R, fun _ => false, h, 0, fun _ => false⟩
theorem k (κ : KT R) (k : Nat) (a0 a1 a2 : _) : b8 (C R) Tryz.f52 10000 k [.int .i64 a0, .vp 3 [.int .i64 a1], .vp 36 [.fr 29 a2 true]] κ = ck.e a0 a1 a2 (K0 κ) := by kernel_rfl
end
theorem ac {R : Type} (tab : bO) (ht : av tab) (g : Nat) : bL (R := R) Tryz.prog (ae bj) tab g ((C R).call g) := by
 refine aD fun xs κ => ?_
 show aa _ _ _ g xs κ (Γ R g xs κ)
 unfold Γ
 split
 ·exact aa.none
theorem aE {R : Type} (tab : bO) (ht : av tab) (a0 a1 a2 : _) (κ : KT R) : aa Tryz.prog (ae bj) tab 52 [.int .i64 a0, .vp 3 [.int .i64 a1], .vp 36 [.fr 29 a2 true]] κ (ck a0 a1 a2 (K0 κ)) := ah (C := C R) (fn := Tryz.f52) cd (ac tab ht) (by kernel_rfl) (by kernel_rfl) (by rw [k]; rfl)
end ck
namespace df
abbrev K0 {R : Type} (κ : KT R) : LA -> Option R := fun r0 => κ [.fr 29 r0 true]
abbrev K1 {R : Type} (κ : KT R) : Option R := κ [.nil]
section
variable (R : Type) (c1 : bY.F R) (c2 : cE.F R) (c3 : ck.F R)
def Γ (g : Nat) (xs : List SV) (κ : KT R) : Option R :=
 match g with
 | 52 => (match xs with
  | [.int .i64 a0, .vp 3 [.int .i64 a1], .vp 36 [.nil]] => c2 a0 a1 (cE.K0 κ) (cE.K1 κ)
  | [.int .i64 a0, .vp 3 [.int .i64 a1], .vp 36 [.fr 29 a2 true]] => c3 a0 a1 a2 (ck.K0 κ)
  | _ => none)
 | 53 => (match xs with
  | [.agg [.str a0, .str a1, .str a2, .ro 129 a3 true, .bool a4, .str a5, .bool a6, .str a7, .bool a8, .str a9, .bool a10, .str a11, .ro 129 a12 true, .ro 9 a13 true, .bool a14, .str a15, .int .i64 a16, .int .i64 a17, .int .i64 a18, .int .i64 a19, .int .i64 a20, .ro 32 a21 true], .nil] => c1 a0 a1 a2 a3 a4 a5 a6 a7 a8 a9 a10 a11 a12 a13 a14 a15 a16 a17 a18 a19 a20 a21 (bY.K0 κ)
  | _ => none)
 | _ => none
def h (n : Nat) : Option (List (Nat × List (Nat × Nat))) :=
 match n with
 | 5 => some [(0, [(0, 0)]), (5, [(0, 31)]), (6, [(0, 0)]), (7, [(0, 0)]), (12, [(0, 0)]), (13, [(0, 0)]), (14, [(0, 0)])]
 | _ => none
def C : Cfg R := ⟨ae bj, Γ R c1 c2 c3, fun _ => false, h, 0, fun g => Nat.beq g 53⟩
noncomputable def S := S0 (C R c1 c2 c3) Tryz.f17 0
noncomputable def G := G0 (C R c1 c2 c3) Tryz.f17 0
def s5 := fun x0 x1 x2 x3 x4 x5 => (⟨dZ 55 [(0, .str x0), (5, .ptr 447 0), (6, .ptr 511 0), (7, .cls 52 [511, 447]), (12, .own 832), (13, .int .i64 x1), (14, .int .i64 x2)], [(447, .var 36 [.own 384]), (384, .row 29 x3 true), (511, .var 3 [.int .i64 x4]), (832, .row 29 x5 true)], dW⟩ : St)
noncomputable abbrev q5 {R : Type} (J : JT R) : J5 R := fun x0 x1 x2 x3 x4 x5 => J (placeOf Tryz.f17 5) (s5 x0 x1 x2 x3 x4 x5)
theorem k5 (J : JT R) (κ : KT R) (x0 x1 x2 x3 x4 x5 : _) : S R c1 c2 c3 κ J 5 (s5 x0 x1 x2 x3 x4 x5) = t5 c2 c3 (q5 J) (K0 κ) (K1 κ) x0 x1 x2 x3 x4 x5 := by kernel_rfl
theorem k (κ : KT R) (k : Nat) (a0 a1 a2 a3 a4 a5 a6 a7 a8 a9 a10 a11 a12 a13 a14 a15 a16 a17 a18 a19 a20 a21 a22 : _) : b8 (C R c1 c2 c3) Tryz.f17 10000 k [.str a0, .agg [.str a1, .str a2, .str a3, .ro 129 a4 true, .bool a5, .str a6, .bool a7, .str a8, .bool a9, .str a10, .bool a11, .str a12, .ro 129 a13 true, .ro 9 a14 true, .bool a15, .str a16, .int .i64 a17, .int .i64 a18, .int .i64 a19, .int .i64 a20, .int .i64 a21, .ro 32 a22 true]] κ = df.e c1 c2 c3 a0 a1 a2 a3 a4 a5 a6 a7 a8 a9 a10 a11 a12 a13 a14 a15 a16 a17 a18 a19 a20 a21 a22 (q5 (G R c1 c2 c3 κ k)) (K0 κ) (K1 κ) := by kernel_rfl
theorem g5 (κ : KT R) : ∀ (f : Nat), q5 (G R c1 c2 c3 κ f) = L5 c1 c2 c3 (K0 κ) (K1 κ) f
 | 0 => rfl
 | f + 1 => by
  funext x0 x1 x2 x3 x4 x5
  show S R c1 c2 c3 κ (G R c1 c2 c3 κ f) 5 _ = _
  rw [k5, g5 κ f]
  rfl
end
theorem ac {R : Type} (tab : bO) (ht : av tab) (g : Nat) : bL (R := R) Tryz.prog (ae bj) tab g ((C R bY cE ck).call g) := by
 refine aD fun xs κ => ?_
 show aa _ _ _ g xs κ (Γ R bY cE ck g xs κ)
 unfold Γ
 split
 ·split
  ·exact cE.aE tab ht _ _ κ
  ·exact ck.aE tab ht _ _ _ κ
  ·exact aa.none
 ·split
  ·exact bY.aE tab ht _ _ _ _ _ _ _ _ _ _ _ _ _ _ _ _ _ _ _ _ _ _ κ
  ·exact aa.none
 ·exact aa.none
theorem aE {R : Type} (tab : bO) (ht : av tab) (a0 a1 a2 a3 a4 a5 a6 a7 a8 a9 a10 a11 a12 a13 a14 a15 a16 a17 a18 a19 a20 a21 a22 : _) (κ : KT R) : aa Tryz.prog (ae bj) tab 17 [.str a0, .agg [.str a1, .str a2, .str a3, .ro 129 a4 true, .bool a5, .str a6, .bool a7, .str a8, .bool a9, .str a10, .bool a11, .str a12, .ro 129 a13 true, .ro 9 a14 true, .bool a15, .str a16, .int .i64 a17, .int .i64 a18, .int .i64 a19, .int .i64 a20, .int .i64 a21, .ro 32 a22 true]] κ (df a0 a1 a2 a3 a4 a5 a6 a7 a8 a9 a10 a11 a12 a13 a14 a15 a16 a17 a18 a19 a20 a21 a22 (K0 κ) (K1 κ)) := ah (C := C R bY cE ck) (fn := Tryz.f17) cd (ac tab ht) (by kernel_rfl) (by kernel_rfl) (by rw [k]; rw [g5 R bY cE ck κ ag]; rfl)
end df
namespace bh
abbrev K0 {R : Type} (κ : KT R) : LA -> Option R := fun r0 => κ [.fr 29 r0 true]
section
variable (R : Type) (c1 : bh.F R)
def Γ (g : Nat) (xs : List SV) (κ : KT R) : Option R :=
 match g with
 | 54 => (match xs with
  | [.agg [.str a0, .str a1, .str a2, .ro 129 a3 true, .bool a4, .str a5, .bool a6, .str a7, .bool a8, .str a9, .bool a10, .str a11, .ro 129 a12 true, .ro 9 a13 true, .bool a14, .str a15, .int .i64 a16, .int .i64 a17, .int .i64 a18, .int .i64 a19, .int .i64 a20, .ro 32 a21 true]] => c1 a0 a1 a2 a3 a4 a5 a6 a7 a8 a9 a10 a11 a12 a13 a14 a15 a16 a17 a18 a19 a20 a21 (K0 κ)
  | _ => none)
 | _ => none
def h (n : Nat) : Option (List (Nat × List (Nat × Nat))) :=
 match n with
 | 5 => some [(1, [(0, 0)]), (3, [(0, 0)]), (4, [(0, 0)])]
 | _ => none
def C : Cfg R := ⟨ae bj, Γ R c1, fun _ => false, h, 0, fun _ => false⟩
noncomputable def S := S0 (C R c1) Tryz.f54 0
noncomputable def G := G0 (C R c1) Tryz.f54 0
def s5 := fun x0 x1 x2 x3 x4 x5 x6 x7 x8 x9 x10 x11 x12 x13 x14 x15 x16 x17 x18 x19 x20 x21 x22 x23 => (⟨dZ 33 [(1, .ptr 191 0), (3, .own 256), (4, .int .i64 x0)], [(191, .var 32 [.str x1, .str x2, .str x3, .ro 129 x4 true, .bool x5, .str x6, .bool x7, .str x8, .bool x9, .str x10, .bool x11, .str x12, .ro 129 x13 true, .ro 9 x14 true, .bool x15, .str x16, .int .i64 x17, .int .i64 x18, .int .i64 x19, .int .i64 x20, .int .i64 x21, .ro 32 x22 true]), (256, .row 29 x23 true)], dW⟩ : St)
noncomputable abbrev q5 {R : Type} (J : JT R) : J5 R := fun x0 x1 x2 x3 x4 x5 x6 x7 x8 x9 x10 x11 x12 x13 x14 x15 x16 x17 x18 x19 x20 x21 x22 x23 => J (placeOf Tryz.f54 5) (s5 x0 x1 x2 x3 x4 x5 x6 x7 x8 x9 x10 x11 x12 x13 x14 x15 x16 x17 x18 x19 x20 x21 x22 x23)
theorem k5 (J : JT R) (κ : KT R) (x0 x1 x2 x3 x4 x5 x6 x7 x8 x9 x10 x11 x12 x13 x14 x15 x16 x17 x18 x19 x20 x21 x22 x23 : _) : S R c1 κ J 5 (s5 x0 x1 x2 x3 x4 x5 x6 x7 x8 x9 x10 x11 x12 x13 x14 x15 x16 x17 x18 x19 x20 x21 x22 x23) = t5 c1 (q5 J) (K0 κ) x0 x1 x2 x3 x4 x5 x6 x7 x8 x9 x10 x11 x12 x13 x14 x15 x16 x17 x18 x19 x20 x21 x22 x23 := by kernel_rfl
theorem k (κ : KT R) (k : Nat) (a0 a1 a2 a3 a4 a5 a6 a7 a8 a9 a10 a11 a12 a13 a14 a15 a16 a17 a18 a19 a20 a21 : _) : b8 (C R c1) Tryz.f54 10000 k [.agg [.str a0, .str a1, .str a2, .ro 129 a3 true, .bool a4, .str a5, .bool a6, .str a7, .bool a8, .str a9, .bool a10, .str a11, .ro 129 a12 true, .ro 9 a13 true, .bool a14, .str a15, .int .i64 a16, .int .i64 a17, .int .i64 a18, .int .i64 a19, .int .i64 a20, .ro 32 a21 true]] κ = bh.e c1 a0 a1 a2 a3 a4 a5 a6 a7 a8 a9 a10 a11 a12 a13 a14 a15 a16 a17 a18 a19 a20 a21 (q5 (G R c1 κ k)) (K0 κ) := by kernel_rfl
theorem g5 (κ : KT R) : ∀ (f : Nat), q5 (G R c1 κ f) = L5 c1 (K0 κ) f
 | 0 => rfl
 | f + 1 => by
  funext x0 x1 x2 x3 x4 x5 x6 x7 x8 x9 x10 x11 x12 x13 x14 x15 x16 x17 x18 x19 x20 x21 x22 x23
  show S R c1 κ (G R c1 κ f) 5 _ = _
  rw [k5, g5 κ f]
  rfl
end
theorem ac {R : Type} (tab : bO) (ht : av tab) (n : Nat) (ih : ∀ (a0 a1 a2 a3 a4 a5 a6 a7 a8 a9 a10 a11 a12 a13 a14 a15 a16 a17 a18 a19 a20 a21 : _) (κ : KT R), aa Tryz.prog (ae bj) tab 54 [.agg [.str a0, .str a1, .str a2, .ro 129 a3 true, .bool a4, .str a5, .bool a6, .str a7, .bool a8, .str a9, .bool a10, .str a11, .ro 129 a12 true, .ro 9 a13 true, .bool a14, .str a15, .int .i64 a16, .int .i64 a17, .int .i64 a18, .int .i64 a19, .int .i64 a20, .ro 32 a21 true]] κ (bh.R n a0 a1 a2 a3 a4 a5 a6 a7 a8 a9 a10 a11 a12 a13 a14 a15 a16 a17 a18 a19 a20 a21 (K0 κ))) (g : Nat) : bL (R := R) Tryz.prog (ae bj) tab g ((C R (bh.R n)).call g) := by
 refine aD fun xs κ => ?_
 show aa _ _ _ g xs κ (Γ R (bh.R n) g xs κ)
 unfold Γ
 split
 ·split
  ·exact ih _ _ _ _ _ _ _ _ _ _ _ _ _ _ _ _ _ _ _ _ _ _ κ
  ·exact aa.none
 ·exact aa.none
theorem fA {R : Type} (tab : bO) (ht : av tab) : ∀ (n : Nat) (a0 a1 a2 a3 a4 a5 a6 a7 a8 a9 a10 a11 a12 a13 a14 a15 a16 a17 a18 a19 a20 a21 : _) (κ : KT R), aa Tryz.prog (ae bj) tab 54 [.agg [.str a0, .str a1, .str a2, .ro 129 a3 true, .bool a4, .str a5, .bool a6, .str a7, .bool a8, .str a9, .bool a10, .str a11, .ro 129 a12 true, .ro 9 a13 true, .bool a14, .str a15, .int .i64 a16, .int .i64 a17, .int .i64 a18, .int .i64 a19, .int .i64 a20, .ro 32 a21 true]] κ (bh.R n a0 a1 a2 a3 a4 a5 a6 a7 a8 a9 a10 a11 a12 a13 a14 a15 a16 a17 a18 a19 a20 a21 (K0 κ))
 | 0, _, _, _, _, _, _, _, _, _, _, _, _, _, _, _, _, _, _, _, _, _, _, _ => aa.none
 | n + 1, a0, a1, a2, a3, a4, a5, a6, a7, a8, a9, a10, a11, a12, a13, a14, a15, a16, a17, a18, a19, a20, a21, κ => ah (C := C R (bh.R n)) (fn := Tryz.f54) cd (ac tab ht n (fA tab ht n)) (by kernel_rfl) (by kernel_rfl) (show _ = B (bh.R n) a0 a1 a2 a3 a4 a5 a6 a7 a8 a9 a10 a11 a12 a13 a14 a15 a16 a17 a18 a19 a20 a21 (K0 κ) by rw [k]; rw [g5 R (bh.R n) κ ag]; rfl)
theorem aE {R : Type} (tab : bO) (ht : av tab) (a0 a1 a2 a3 a4 a5 a6 a7 a8 a9 a10 a11 a12 a13 a14 a15 a16 a17 a18 a19 a20 a21 : _) (κ : KT R) : aa Tryz.prog (ae bj) tab 54 [.agg [.str a0, .str a1, .str a2, .ro 129 a3 true, .bool a4, .str a5, .bool a6, .str a7, .bool a8, .str a9, .bool a10, .str a11, .ro 129 a12 true, .ro 9 a13 true, .bool a14, .str a15, .int .i64 a16, .int .i64 a17, .int .i64 a18, .int .i64 a19, .int .i64 a20, .ro 32 a21 true]] κ (bh a0 a1 a2 a3 a4 a5 a6 a7 a8 a9 a10 a11 a12 a13 a14 a15 a16 a17 a18 a19 a20 a21 (K0 κ)) := fA tab ht ag a0 a1 a2 a3 a4 a5 a6 a7 a8 a9 a10 a11 a12 a13 a14 a15 a16 a17 a18 a19 a20 a21 κ
end bh
namespace db
abbrev K0 {R : Type} (κ : KT R) : Option R := κ [.nil]
abbrev K1 {R : Type} (κ : KT R) : LA -> Option R := fun r0 => κ [.fr 29 r0 true]
section
variable (R : Type) (c1 : bh.F R)
def Γ (g : Nat) (xs : List SV) (κ : KT R) : Option R :=
 match g with
 | 54 => (match xs with
  | [.agg [.str a0, .str a1, .str a2, .ro 129 a3 true, .bool a4, .str a5, .bool a6, .str a7, .bool a8, .str a9, .bool a10, .str a11, .ro 129 a12 true, .ro 9 a13 true, .bool a14, .str a15, .int .i64 a16, .int .i64 a17, .int .i64 a18, .int .i64 a19, .int .i64 a20, .ro 32 a21 true]] => c1 a0 a1 a2 a3 a4 a5 a6 a7 a8 a9 a10 a11 a12 a13 a14 a15 a16 a17 a18 a19 a20 a21 (bh.K0 κ)
  | _ => none)
 | _ => none
def h (n : Nat) : Option (List (Nat × List (Nat × Nat))) :=
 match n with
 | 5 => some [(0, [(0, 0)]), (5, [(0, 31)]), (6, [(0, 0)]), (7, [(0, 0)]), (8, [(0, 0)])]
 | _ => none
def C : Cfg R := ⟨ae bj, Γ R c1, fun _ => false, h, 0, fun _ => false⟩
noncomputable def S := S0 (C R c1) Tryz.f18 0
noncomputable def G := G0 (C R c1) Tryz.f18 0
def s5 := fun x0 x1 x2 x3 x4 => (⟨dZ 105 [(0, .str x0), (5, .own 384), (6, .int .i64 x1), (7, .own 512), (8, .int .i64 x2)], [(384, .row 29 x3 true), (512, .row 29 x4 true)], dW⟩ : St)
noncomputable abbrev q5 {R : Type} (J : JT R) : J5 R := fun x0 x1 x2 x3 x4 => J (placeOf Tryz.f18 5) (s5 x0 x1 x2 x3 x4)
theorem k5 (J : JT R) (κ : KT R) (x0 x1 x2 x3 x4 : _) : S R c1 κ J 5 (s5 x0 x1 x2 x3 x4) = t5 (q5 J) (K0 κ) (K1 κ) x0 x1 x2 x3 x4 := by kernel_rfl
theorem k (κ : KT R) (k : Nat) (a0 a1 a2 a3 a4 a5 a6 a7 a8 a9 a10 a11 a12 a13 a14 a15 a16 a17 a18 a19 a20 a21 a22 : _) : b8 (C R c1) Tryz.f18 10000 k [.str a0, .agg [.str a1, .str a2, .str a3, .ro 129 a4 true, .bool a5, .str a6, .bool a7, .str a8, .bool a9, .str a10, .bool a11, .str a12, .ro 129 a13 true, .ro 9 a14 true, .bool a15, .str a16, .int .i64 a17, .int .i64 a18, .int .i64 a19, .int .i64 a20, .int .i64 a21, .ro 32 a22 true]] κ = db.e c1 a0 a1 a2 a3 a4 a5 a6 a7 a8 a9 a10 a11 a12 a13 a14 a15 a16 a17 a18 a19 a20 a21 a22 (q5 (G R c1 κ k)) (K0 κ) (K1 κ) := by kernel_rfl
theorem g5 (κ : KT R) : ∀ (f : Nat), q5 (G R c1 κ f) = L5 c1 (K0 κ) (K1 κ) f
 | 0 => rfl
 | f + 1 => by
  funext x0 x1 x2 x3 x4
  show S R c1 κ (G R c1 κ f) 5 _ = _
  rw [k5, g5 κ f]
  rfl
end
theorem ac {R : Type} (tab : bO) (ht : av tab) (g : Nat) : bL (R := R) Tryz.prog (ae bj) tab g ((C R bh).call g) := by
 refine aD fun xs κ => ?_
 show aa _ _ _ g xs κ (Γ R bh g xs κ)
 unfold Γ
 split
 ·split
  ·exact bh.aE tab ht _ _ _ _ _ _ _ _ _ _ _ _ _ _ _ _ _ _ _ _ _ _ κ
  ·exact aa.none
 ·exact aa.none
theorem aE {R : Type} (tab : bO) (ht : av tab) (a0 a1 a2 a3 a4 a5 a6 a7 a8 a9 a10 a11 a12 a13 a14 a15 a16 a17 a18 a19 a20 a21 a22 : _) (κ : KT R) : aa Tryz.prog (ae bj) tab 18 [.str a0, .agg [.str a1, .str a2, .str a3, .ro 129 a4 true, .bool a5, .str a6, .bool a7, .str a8, .bool a9, .str a10, .bool a11, .str a12, .ro 129 a13 true, .ro 9 a14 true, .bool a15, .str a16, .int .i64 a17, .int .i64 a18, .int .i64 a19, .int .i64 a20, .int .i64 a21, .ro 32 a22 true]] κ (db a0 a1 a2 a3 a4 a5 a6 a7 a8 a9 a10 a11 a12 a13 a14 a15 a16 a17 a18 a19 a20 a21 a22 (K0 κ) (K1 κ)) := ah (C := C R bh) (fn := Tryz.f18) cd (ac tab ht) (by kernel_rfl) (by kernel_rfl) (by rw [k]; rw [g5 R bh κ ag]; rfl)
end db
namespace de
abbrev K0 {R : Type} (κ : KT R) : Bool -> Option R := fun r0 => κ [.bool r0]
section
variable (R : Type)
def Γ (g : Nat) (xs : List SV) (κ : KT R) : Option R :=
 match g with
 | _ => none
def h (n : Nat) : Option (List (Nat × List (Nat × Nat))) :=
 match n with
 | 4 => some [(0, [(0, 0)]), (1, [(0, 0)]), (5, [(0, 0)])]
 | _ => none
def C : Cfg R := ⟨ae bj, Γ R, fun _ => false, h, 0, fun _ => false⟩
noncomputable def S := S0 (C R) Tryz.f16 0
noncomputable def G := G0 (C R) Tryz.f16 0
def s4 := fun x0 x1 => (⟨dZ 26 [(0, .ro 29 x0 false), (1, .nil), (5, .int .i64 x1)], [], dW⟩ : St)
noncomputable abbrev q4 {R : Type} (J : JT R) : LA -> Int -> Option R := fun x0 x1 => J (placeOf Tryz.f16 4) (s4 x0 x1)
theorem k4 (J : JT R) (κ : KT R) (x0 x1 : _) : S R κ J 4 (s4 x0 x1) = t4 (K0 κ) x0 x1 := by kernel_rfl
theorem k (κ : KT R) (k : Nat) (a0 : _) : b8 (C R) Tryz.f16 10000 k [.ro 29 a0 false, .nil] κ = de.e a0 (q4 (G R κ k)) (K0 κ) := by kernel_rfl
theorem g4 (κ : KT R) : ∀ (f : Nat), q4 (G R κ f) = L4 (K0 κ) f
 | 0 => rfl
 | f + 1 => by
  funext x0 x1
  show S R κ (G R κ f) 4 _ = _
  rw [k4]
  rfl
end
theorem ac {R : Type} (tab : bO) (ht : av tab) (g : Nat) : bL (R := R) Tryz.prog (ae bj) tab g ((C R).call g) := by
 refine aD fun xs κ => ?_
 show aa _ _ _ g xs κ (Γ R g xs κ)
 unfold Γ
 split
 ·exact aa.none
theorem aE {R : Type} (tab : bO) (ht : av tab) (a0 : _) (κ : KT R) : aa Tryz.prog (ae bj) tab 16 [.ro 29 a0 false, .nil] κ (de a0 (K0 κ)) := ah (C := C R) (fn := Tryz.f16) cd (ac tab ht) (by kernel_rfl) (by kernel_rfl) (by rw [k]; rw [g4 R κ ag]; rfl)
end de
namespace cm
abbrev K0 {R : Type} (κ : KT R) : Bool -> Option R := fun r0 => κ [.bool r0]
section
variable (R : Type)
def Γ (g : Nat) (xs : List SV) (κ : KT R) : Option R :=
 match g with
 | _ => none
def h (n : Nat) : Option (List (Nat × List (Nat × Nat))) :=
 match n with
 | 4 => some [(0, [(0, 0)]), (1, [(0, 0)]), (5, [(0, 0)])]
 | _ => none
def C : Cfg R := ⟨ae bj, Γ R, fun _ => false, h, 0, fun _ => false⟩
noncomputable def S := S0 (C R) Tryz.f16 0
noncomputable def G := G0 (C R) Tryz.f16 0
def s4 := fun x0 x1 x2 => (⟨dZ 26 [(0, .ro 29 x0 false), (1, .ro 29 x1 false), (5, .int .i64 x2)], [], dW⟩ : St)
noncomputable abbrev q4 {R : Type} (J : JT R) : J4 R := fun x0 x1 x2 => J (placeOf Tryz.f16 4) (s4 x0 x1 x2)
theorem k4 (J : JT R) (κ : KT R) (x0 x1 x2 : _) : S R κ J 4 (s4 x0 x1 x2) = t4 (q4 J) (K0 κ) x0 x1 x2 := by kernel_rfl
theorem k (κ : KT R) (k : Nat) (a0 a1 : _) : b8 (C R) Tryz.f16 10000 k [.ro 29 a0 false, .ro 29 a1 false] κ = cm.e a0 a1 (q4 (G R κ k)) (K0 κ) := by kernel_rfl
theorem g4 (κ : KT R) : ∀ (f : Nat), q4 (G R κ f) = L4 (K0 κ) f
 | 0 => rfl
 | f + 1 => by
  funext x0 x1 x2
  show S R κ (G R κ f) 4 _ = _
  rw [k4, g4 κ f]
  rfl
end
theorem ac {R : Type} (tab : bO) (ht : av tab) (g : Nat) : bL (R := R) Tryz.prog (ae bj) tab g ((C R).call g) := by
 refine aD fun xs κ => ?_
 show aa _ _ _ g xs κ (Γ R g xs κ)
 unfold Γ
 split
 ·exact aa.none
theorem aE {R : Type} (tab : bO) (ht : av tab) (a0 a1 : _) (κ : KT R) : aa Tryz.prog (ae bj) tab 16 [.ro 29 a0 false, .ro 29 a1 false] κ (cm a0 a1 (K0 κ)) := ah (C := C R) (fn := Tryz.f16) cd (ac tab ht) (by kernel_rfl) (by kernel_rfl) (by rw [k]; rw [g4 R κ ag]; rfl)
end cm
namespace cO
abbrev K0 {R : Type} (κ : KT R) : Bool -> Option R := fun r0 => κ [.bool r0]
section
variable (R : Type)
def Γ (g : Nat) (xs : List SV) (κ : KT R) : Option R :=
 match g with
 | _ => none
def h (n : Nat) : Option (List (Nat × List (Nat × Nat))) :=
 match n with
 | 4 => some [(0, [(0, 0)]), (1, [(0, 0)]), (5, [(0, 0)])]
 | _ => none
def C : Cfg R := ⟨ae bj, Γ R, fun _ => false, h, 0, fun _ => false⟩
noncomputable def S := S0 (C R) Tryz.f16 0
noncomputable def G := G0 (C R) Tryz.f16 0
def s4 := fun x0 => (⟨dZ 26 [(0, .nil), (1, .nil), (5, .int .i64 x0)], [], dW⟩ : St)
noncomputable abbrev q4 {R : Type} (J : JT R) : Int -> Option R := fun x0 => J (placeOf Tryz.f16 4) (s4 x0)
theorem k4 (J : JT R) (κ : KT R) (x0 : _) : S R κ J 4 (s4 x0) = t4 (K0 κ) x0 := by kernel_rfl
theorem k (κ : KT R) (k : Nat) : b8 (C R) Tryz.f16 10000 k [.nil, .nil] κ = cO.e (q4 (G R κ k)) (K0 κ) := by kernel_rfl
theorem g4 (κ : KT R) : ∀ (f : Nat), q4 (G R κ f) = L4 (K0 κ) f
 | 0 => rfl
 | f + 1 => by
  funext x0
  show S R κ (G R κ f) 4 _ = _
  rw [k4]
  rfl
end
theorem ac {R : Type} (tab : bO) (ht : av tab) (g : Nat) : bL (R := R) Tryz.prog (ae bj) tab g ((C R).call g) := by
 refine aD fun xs κ => ?_
 show aa _ _ _ g xs κ (Γ R g xs κ)
 unfold Γ
 split
 ·exact aa.none
theorem aE {R : Type} (tab : bO) (ht : av tab) (κ : KT R) : aa Tryz.prog (ae bj) tab 16 [.nil, .nil] κ (cO (K0 κ)) := ah (C := C R) (fn := Tryz.f16) cd (ac tab ht) (by kernel_rfl) (by kernel_rfl) (by rw [k]; rw [g4 R κ ag]; rfl)
end cO
namespace cP
abbrev K0 {R : Type} (κ : KT R) : Bool -> Option R := fun r0 => κ [.bool r0]
section
variable (R : Type)
def Γ (g : Nat) (xs : List SV) (κ : KT R) : Option R :=
 match g with
 | _ => none
def h (n : Nat) : Option (List (Nat × List (Nat × Nat))) :=
 match n with
 | 4 => some [(0, [(0, 0)]), (1, [(0, 0)]), (5, [(0, 0)])]
 | _ => none
def C : Cfg R := ⟨ae bj, Γ R, fun _ => false, h, 0, fun _ => false⟩
noncomputable def S := S0 (C R) Tryz.f16 0
noncomputable def G := G0 (C R) Tryz.f16 0
def s4 := fun x0 x1 => (⟨dZ 26 [(0, .nil), (1, .ro 29 x0 false), (5, .int .i64 x1)], [], dW⟩ : St)
noncomputable abbrev q4 {R : Type} (J : JT R) : LA -> Int -> Option R := fun x0 x1 => J (placeOf Tryz.f16 4) (s4 x0 x1)
theorem k4 (J : JT R) (κ : KT R) (x0 x1 : _) : S R κ J 4 (s4 x0 x1) = t4 (K0 κ) x0 x1 := by kernel_rfl
theorem k (κ : KT R) (k : Nat) (a0 : _) : b8 (C R) Tryz.f16 10000 k [.nil, .ro 29 a0 false] κ = cP.e a0 (q4 (G R κ k)) (K0 κ) := by kernel_rfl
theorem g4 (κ : KT R) : ∀ (f : Nat), q4 (G R κ f) = L4 (K0 κ) f
 | 0 => rfl
 | f + 1 => by
  funext x0 x1
  show S R κ (G R κ f) 4 _ = _
  rw [k4]
  rfl
end
theorem ac {R : Type} (tab : bO) (ht : av tab) (g : Nat) : bL (R := R) Tryz.prog (ae bj) tab g ((C R).call g) := by
 refine aD fun xs κ => ?_
 show aa _ _ _ g xs κ (Γ R g xs κ)
 unfold Γ
 split
 ·exact aa.none
theorem aE {R : Type} (tab : bO) (ht : av tab) (a0 : _) (κ : KT R) : aa Tryz.prog (ae bj) tab 16 [.nil, .ro 29 a0 false] κ (cP a0 (K0 κ)) := ah (C := C R) (fn := Tryz.f16) cd (ac tab ht) (by kernel_rfl) (by kernel_rfl) (by rw [k]; rw [g4 R κ ag]; rfl)
end cP
namespace dp
abbrev K0 {R : Type} (κ : KT R) : Bool -> Option R := fun r0 => κ [.bool r0]
section
variable (R : Type) (c1 : dL.F R) (c2 : ch.F R) (c3 : dq.F R) (c4 : df.F R) (c5 : db.F R) (c6 : de.F R) (c7 : cm.F R) (c8 : cO.F R) (c9 : cP.F R)
def Γ (g : Nat) (xs : List SV) (κ : KT R) : Option R :=
 match g with
 | 12 => (match xs with
  | [] => c1 (dL.K0 κ)
  | _ => none)
 | 14 => (match xs with
  | [.str a0] => c2 a0 (ch.K0 κ)
  | _ => none)
 | 15 => (match xs with
  | [.str a0] => c3 a0 (dq.K0 κ)
  | _ => none)
 | 16 => (match xs with
  | [.ro 29 a0 false, .nil] => c6 a0 (de.K0 κ)
  | [.ro 29 a0 false, .ro 29 a1 false] => c7 a0 a1 (cm.K0 κ)
  | [.nil, .nil] => c8 (cO.K0 κ)
  | [.nil, .ro 29 a0 false] => c9 a0 (cP.K0 κ)
  | _ => none)
 | 17 => (match xs with
  | [.str a0, .agg [.str a1, .str a2, .str a3, .ro 129 a4 true, .bool a5, .str a6, .bool a7, .str a8, .bool a9, .str a10, .bool a11, .str a12, .ro 129 a13 true, .ro 9 a14 true, .bool a15, .str a16, .int .i64 a17, .int .i64 a18, .int .i64 a19, .int .i64 a20, .int .i64 a21, .ro 32 a22 true]] => c4 a0 a1 a2 a3 a4 a5 a6 a7 a8 a9 a10 a11 a12 a13 a14 a15 a16 a17 a18 a19 a20 a21 a22 (df.K0 κ) (df.K1 κ)
  | _ => none)
 | 18 => (match xs with
  | [.str a0, .agg [.str a1, .str a2, .str a3, .ro 129 a4 true, .bool a5, .str a6, .bool a7, .str a8, .bool a9, .str a10, .bool a11, .str a12, .ro 129 a13 true, .ro 9 a14 true, .bool a15, .str a16, .int .i64 a17, .int .i64 a18, .int .i64 a19, .int .i64 a20, .int .i64 a21, .ro 32 a22 true]] => c5 a0 a1 a2 a3 a4 a5 a6 a7 a8 a9 a10 a11 a12 a13 a14 a15 a16 a17 a18 a19 a20 a21 a22 (db.K0 κ) (db.K1 κ)
  | _ => none)
 | _ => none
def h (n : Nat) : Option (List (Nat × List (Nat × Nat))) :=
 match n with
 | _ => none
def C : Cfg R := ⟨ae bj, Γ R c1 c2 c3 c4 c5 c6 c7 c8 c9, fun _ => false, h, 0, fun _ => false⟩
theorem k (κ : KT R) (k : Nat) (a0 a1 : _) : b8 (C R c1 c2 c3 c4 c5 c6 c7 c8 c9) Tryz.f4 10000 k [.str a0, .str a1] κ = dp.e c1 c2 c3 c4 c5 c6 c7 c8 c9 a0 a1 (K0 κ) := by kernel_rfl
end
theorem ac {R : Type} (tab : bO) (ht : av tab) (g : Nat) : bL (R := R) Tryz.prog (ae bj) tab g ((C R dL ch dq df db de cm cO cP).call g) := by
 refine aD fun xs κ => ?_
 show aa _ _ _ g xs κ (Γ R dL ch dq df db de cm cO cP g xs κ)
 unfold Γ
 split
 ·split
  ·exact dL.aE tab ht κ
  ·exact aa.none
 ·split
  ·exact ch.aE tab ht _ κ
  ·exact aa.none
 ·split
  ·exact dq.aE tab ht _ κ
  ·exact aa.none
 ·split
  ·exact de.aE tab ht _ κ
  ·exact cm.aE tab ht _ _ κ
  ·exact cO.aE tab ht κ
  ·exact cP.aE tab ht _ κ
  ·exact aa.none
 ·split
  ·exact df.aE tab ht _ _ _ _ _ _ _ _ _ _ _ _ _ _ _ _ _ _ _ _ _ _ _ κ
  ·exact aa.none
 ·split
  ·exact db.aE tab ht _ _ _ _ _ _ _ _ _ _ _ _ _ _ _ _ _ _ _ _ _ _ _ κ
  ·exact aa.none
 ·exact aa.none
theorem aE {R : Type} (tab : bO) (ht : av tab) (a0 a1 : _) (κ : KT R) : aa Tryz.prog (ae bj) tab 4 [.str a0, .str a1] κ (dp a0 a1 (K0 κ)) := ah (C := C R dL ch dq df db de cm cO cP) (fn := Tryz.f4) cd (ac tab ht) (by kernel_rfl) (by kernel_rfl) (by rw [k]; rfl)
end dp
end Go.Proofs.Ab
