/- Each plain function is what a call of its Go function does, checked by the kernel (no condition but what its checks ask). -/
import Derived.Test.YtneffefnlogkaaaGreatDoorSeat
import Derived.Test.YtneffefnlogkaaaGreatDoorText
import Derived.Test.YtneffefnlogkaaaGreatDoorCheck2
set_option linter.unusedVariables false
set_option linter.unusedSimpArgs false
set_option maxRecDepth 4000
namespace Go.Proofs.Ab
open Go Go.Proofs
set_option maxRecDepth 100000
namespace r6_opened
abbrev K0 {R : Type} (κ : KT R) : Q0 R := fun r0 r1 r2 r3 r4 r5 r6 r7 r8 r9 r10 r11 r12 r13 r14 r15 r16 r17 r18 r19 r20 r21 r22 => κ [.tup [.agg [.str r0, .str r1, .str r2, .ro 129 r3 true, .bool r4, .str r5, .bool r6, .str r7, .bool r8, .str r9, .bool r10, .str r11, .ro 129 r12 true, .ro 9 r13 true, .bool r14, .str r15, .int .i64 r16, .int .i64 r17, .int .i64 r18, .int .i64 r19, .int .i64 r20, .ro 32 r21 true], .int .i64 r22]]
section
variable (R : Type) (c1 : r6_ends.F R) (c2 : r6_inside.F R) (c3 : r6_under.F R) (c4 : r6_limb.F R) (c5 : r6_opened.F R)
def Γ (g : Nat) (xs : List SV) (κ : KT R) : Option R :=
 match g with
 | 50 => (match xs with
  | [.str a0, .agg [.str a1, .str a2, .str a3, .ro 129 a4 true, .bool a5, .str a6, .bool a7, .str a8, .bool a9, .str a10, .bool a11, .str a12, .ro 129 a13 true, .ro 9 a14 true, .bool a15, .str a16, .int .i64 a17, .int .i64 a18, .int .i64 a19, .int .i64 a20, .int .i64 a21, .nil], .int .i64 a22, .bool a23, .int .i64 a24] => c5 a0 a1 a2 a3 a4 a5 a6 a7 a8 a9 a10 a11 a12 a13 a14 a15 a16 a17 a18 a19 a20 a21 a22 a23 a24 (K0 κ)
  | _ => none)
 | 51 => (match xs with
  | [.str a0, .agg [.int .i64 a1, .int .i64 a2], .str a3, .bool a4] => c4 a0 a1 a2 a3 a4 (r6_limb.K0 κ)
  | _ => none)
 | 94 => (match xs with
  | [.str a0] => c1 a0 (r6_ends.K0 κ)
  | _ => none)
 | 95 => (match xs with
  | [.str a0, .agg [.str a1, .str a2, .str a3, .ro 129 a4 true, .bool a5, .str a6, .bool a7, .str a8, .bool a9, .str a10, .bool a11, .str a12, .ro 129 a13 true, .ro 9 a14 true, .bool a15, .str a16, .int .i64 a17, .int .i64 a18, .int .i64 a19, .int .i64 a20, .int .i64 a21, .nil]] => c2 a0 a1 a2 a3 a4 a5 a6 a7 a8 a9 a10 a11 a12 a13 a14 a15 a16 a17 a18 a19 a20 a21 (r6_inside.K0 κ) (r6_inside.K1 κ)
  | _ => none)
 | 96 => (match xs with
  | [.str a0, .int .i64 a1] => c3 a0 a1 (r6_under.K0 κ)
  | _ => none)
 | _ => none
def h (n : Nat) : Option (List (Nat × List (Nat × Nat))) :=
 match n with
 | 2 => some [(0, [(0, 0)]), (2, [(0, 0)]), (3, [(0, 0)]), (4, [(0, 0)]), (6, [(0, 0)]), (10, [(0, 0)]), (12, [(0, 0)])]
 | 4 => some [(0, [(0, 0)]), (2, [(0, 0)]), (3, [(0, 0)]), (4, [(0, 0)]), (6, [(0, 0)]), (10, [(0, 0)]), (12, [(0, 0)])]
 | 5 => some [(4, [(0, 0)]), (6, [(3, 131), (3, 1), (12, 131), (12, 1), (13, 11), (13, 1), (21, 34), (21, 1)]), (10, [(0, 0)])]
 | 7 => some [(0, [(0, 0)]), (2, [(0, 0)]), (3, [(0, 0)]), (4, [(0, 0)]), (6, [(0, 0)]), (10, [(0, 0)]), (12, [(0, 0)]), (13, [(0, 31)])]
 | 11 => some [(4, [(0, 0)]), (6, [(3, 131), (3, 1), (12, 131), (12, 1), (13, 11), (13, 1), (21, 34), (21, 1)]), (10, [(0, 0)])]
 | 18 => some [(0, [(0, 0)]), (2, [(0, 0)]), (4, [(0, 0)]), (6, [(0, 0)]), (10, [(0, 0)]), (13, [(0, 0)]), (14, [(0, 0)])]
 | 20 => some [(6, [(3, 131), (3, 1), (12, 131), (12, 1), (13, 11), (13, 1), (21, 34), (21, 1)]), (10, [(0, 0)]), (16, [(0, 0)])]
 | 22 => some [(0, [(0, 0)]), (2, [(0, 0)]), (4, [(0, 0)]), (6, [(21, 34)]), (10, [(0, 0)]), (13, [(0, 0)]), (17, [(0, 0)])]
 | 27 => some [(4, [(0, 0)]), (6, [(3, 131), (3, 1), (12, 131), (12, 1), (13, 11), (13, 1), (21, 34), (21, 1)]), (10, [(0, 0)])]
 | _ => none
def C : Cfg R := ⟨tabTy tyL, Γ R c1 c2 c3 c4 c5, fun g => Nat.beq g 50, h, 0⟩
noncomputable def S := S0 (C R c1 c2 c3 c4 c5) Tryz.f50 0
noncomputable def G := G0 (C R c1 c2 c3 c4 c5) Tryz.f50 0
def s2 := fun x0 x1 x2 x3 x4 x5 x6 x7 x8 x9 x10 x11 x12 x13 x14 x15 x16 x17 x18 x19 x20 x21 x22 x23 x24 x25 x26 x27 x28 x29 x30 x31 x32 x33 x34 x35 x36 x37 x38 x39 x40 x41 x42 x43 => (⟨mkS 149 [(0, .str x0), (2, .int .i64 x1), (3, .bool x2), (4, .int .i64 x3), (6, .ptr 511 0), (10, .ptr 767 0), (12, .bool x4)], [(511, .var 32 [.str x5, .str x6, .str x7, .ro 129 x8 true, .bool x9, .str x10, .bool x11, .str x12, .bool x13, .str x14, .bool x15, .str x16, .ro 129 x17 true, .ro 9 x18 true, .bool x19, .str x20, .int .i64 x21, .int .i64 x22, .int .i64 x23, .int .i64 x24, .int .i64 x25, .nil]), (767, .var 32 [.str x26, .str x27, .str x28, .nil, .bool x29, .str x30, .bool x31, .str x32, .bool x33, .str x34, .bool x35, .str x36, .nil, .nil, .bool x37, .str x38, .int .i64 x39, .int .i64 x40, .int .i64 x41, .int .i64 x42, .int .i64 x43, .nil])], top⟩ : St)
def s4 := fun x0 x1 x2 x3 x4 x5 x6 x7 x8 x9 x10 x11 x12 x13 x14 x15 x16 x17 x18 x19 x20 x21 x22 x23 x24 x25 x26 x27 x28 x29 x30 x31 x32 x33 x34 x35 x36 x37 x38 x39 x40 x41 x42 x43 => (⟨mkS 149 [(0, .str x0), (2, .int .i64 x1), (3, .bool x2), (4, .int .i64 x3), (6, .ptr 511 0), (10, .ptr 767 0), (12, .bool x4)], [(511, .var 32 [.str x5, .str x6, .str x7, .ro 129 x8 true, .bool x9, .str x10, .bool x11, .str x12, .bool x13, .str x14, .bool x15, .str x16, .ro 129 x17 true, .ro 9 x18 true, .bool x19, .str x20, .int .i64 x21, .int .i64 x22, .int .i64 x23, .int .i64 x24, .int .i64 x25, .nil]), (767, .var 32 [.str x26, .str x27, .str x28, .nil, .bool x29, .str x30, .bool x31, .str x32, .bool x33, .str x34, .bool x35, .str x36, .nil, .nil, .bool x37, .str x38, .int .i64 x39, .int .i64 x40, .int .i64 x41, .int .i64 x42, .int .i64 x43, .nil])], top⟩ : St)
def s5 := fun x0 x1 x2 x3 x4 x5 x6 x7 x8 x9 x10 x11 x12 x13 x14 x15 x16 x17 x18 x19 x20 x21 x22 x23 x24 x25 x26 x27 x28 x29 x30 x31 x32 x33 x34 x35 x36 x37 x38 x39 x40 => (⟨mkS 149 [(4, .int .i64 x0), (6, .ptr 511 0), (10, .ptr 767 0)], [(511, .var 32 [.str x1, .str x2, .str x3, .ro 129 x4 true, .bool x5, .str x6, .bool x7, .str x8, .bool x9, .str x10, .bool x11, .str x12, .ro 129 x13 true, .ro 9 x14 true, .bool x15, .str x16, .int .i64 x17, .int .i64 x18, .int .i64 x19, .int .i64 x20, .int .i64 x21, .ro 32 x22 true]), (767, .var 32 [.str x23, .str x24, .str x25, .nil, .bool x26, .str x27, .bool x28, .str x29, .bool x30, .str x31, .bool x32, .str x33, .nil, .nil, .bool x34, .str x35, .int .i64 x36, .int .i64 x37, .int .i64 x38, .int .i64 x39, .int .i64 x40, .nil])], top⟩ : St)
def s7 := fun x0 x1 x2 x3 x4 x5 x6 x7 x8 x9 x10 x11 x12 x13 x14 x15 x16 x17 x18 x19 x20 x21 x22 x23 x24 x25 x26 x27 x28 x29 x30 x31 x32 x33 x34 x35 x36 x37 x38 x39 x40 x41 x42 x43 x44 => (⟨mkS 149 [(0, .str x0), (2, .int .i64 x1), (3, .bool x2), (4, .int .i64 x3), (6, .ptr 511 0), (10, .ptr 767 0), (12, .bool x4), (13, .own 896)], [(511, .var 32 [.str x5, .str x6, .str x7, .ro 129 x8 true, .bool x9, .str x10, .bool x11, .str x12, .bool x13, .str x14, .bool x15, .str x16, .ro 129 x17 true, .ro 9 x18 true, .bool x19, .str x20, .int .i64 x21, .int .i64 x22, .int .i64 x23, .int .i64 x24, .int .i64 x25, .nil]), (767, .var 32 [.str x26, .str x27, .str x28, .nil, .bool x29, .str x30, .bool x31, .str x32, .bool x33, .str x34, .bool x35, .str x36, .nil, .nil, .bool x37, .str x38, .int .i64 x39, .int .i64 x40, .int .i64 x41, .int .i64 x42, .int .i64 x43, .nil]), (896, .row 29 x44 true)], top⟩ : St)
def s11 := fun x0 x1 x2 x3 x4 x5 x6 x7 x8 x9 x10 x11 x12 x13 x14 x15 x16 x17 x18 x19 x20 x21 x22 x23 x24 x25 x26 x27 x28 x29 x30 x31 x32 x33 x34 x35 x36 x37 x38 x39 x40 => (⟨mkS 149 [(4, .int .i64 x0), (6, .ptr 511 0), (10, .ptr 767 0)], [(511, .var 32 [.str x1, .str x2, .str x3, .ro 129 x4 true, .bool x5, .str x6, .bool x7, .str x8, .bool x9, .str x10, .bool x11, .str x12, .ro 129 x13 true, .ro 9 x14 true, .bool x15, .str x16, .int .i64 x17, .int .i64 x18, .int .i64 x19, .int .i64 x20, .int .i64 x21, .ro 32 x22 true]), (767, .var 32 [.str x23, .str x24, .str x25, .nil, .bool x26, .str x27, .bool x28, .str x29, .bool x30, .str x31, .bool x32, .str x33, .nil, .nil, .bool x34, .str x35, .int .i64 x36, .int .i64 x37, .int .i64 x38, .int .i64 x39, .int .i64 x40, .nil])], top⟩ : St)
def s18 := fun x0 x1 x2 x3 x4 x5 x6 x7 x8 x9 x10 x11 x12 x13 x14 x15 x16 x17 x18 x19 x20 x21 x22 x23 x24 x25 x26 x27 x28 x29 x30 x31 x32 x33 x34 x35 x36 x37 x38 x39 x40 x41 x42 x43 => (⟨mkS 149 [(0, .str x0), (2, .int .i64 x1), (4, .int .i64 x2), (6, .ptr 511 0), (10, .ptr 767 0), (13, .own 896), (14, .str x3)], [(511, .var 32 [.str x4, .str x5, .str x6, .ro 129 x7 true, .bool x8, .str x9, .bool x10, .str x11, .bool x12, .str x13, .bool x14, .str x15, .ro 129 x16 true, .ro 9 x17 true, .bool x18, .str x19, .int .i64 x20, .int .i64 x21, .int .i64 x22, .int .i64 x23, .int .i64 x24, .nil]), (767, .var 32 [.str x25, .str x26, .str x27, .nil, .bool x28, .str x29, .bool x30, .str x31, .bool x32, .str x33, .bool x34, .str x35, .nil, .nil, .bool x36, .str x37, .int .i64 x38, .int .i64 x39, .int .i64 x40, .int .i64 x41, .int .i64 x42, .nil]), (896, .row 29 x43 true)], top⟩ : St)
def s20 := fun x0 x1 x2 x3 x4 x5 x6 x7 x8 x9 x10 x11 x12 x13 x14 x15 x16 x17 x18 x19 x20 x21 x22 x23 x24 x25 x26 x27 x28 x29 x30 x31 x32 x33 x34 x35 x36 x37 x38 x39 x40 => (⟨mkS 149 [(6, .ptr 511 0), (10, .ptr 767 0), (16, .int .i64 x0)], [(511, .var 32 [.str x1, .str x2, .str x3, .ro 129 x4 true, .bool x5, .str x6, .bool x7, .str x8, .bool x9, .str x10, .bool x11, .str x12, .ro 129 x13 true, .ro 9 x14 true, .bool x15, .str x16, .int .i64 x17, .int .i64 x18, .int .i64 x19, .int .i64 x20, .int .i64 x21, .ro 32 x22 true]), (767, .var 32 [.str x23, .str x24, .str x25, .nil, .bool x26, .str x27, .bool x28, .str x29, .bool x30, .str x31, .bool x32, .str x33, .nil, .nil, .bool x34, .str x35, .int .i64 x36, .int .i64 x37, .int .i64 x38, .int .i64 x39, .int .i64 x40, .nil])], top⟩ : St)
def s22 := fun x0 x1 x2 x3 x4 x5 x6 x7 x8 x9 x10 x11 x12 x13 x14 x15 x16 x17 x18 x19 x20 x21 x22 x23 x24 x25 x26 x27 x28 x29 x30 x31 x32 x33 x34 x35 x36 x37 x38 x39 x40 x41 x42 x43 x44 => (⟨mkS 149 [(0, .str x0), (2, .int .i64 x1), (4, .int .i64 x2), (6, .ptr 511 0), (10, .ptr 767 0), (13, .own 896), (17, .int .i64 x3)], [(511, .var 32 [.str x4, .str x5, .str x6, .ro 129 x7 true, .bool x8, .str x9, .bool x10, .str x11, .bool x12, .str x13, .bool x14, .str x15, .ro 129 x16 true, .ro 9 x17 true, .bool x18, .str x19, .int .i64 x20, .int .i64 x21, .int .i64 x22, .int .i64 x23, .int .i64 x24, .own 469]), (469, .row 32 x25 true), (767, .var 32 [.str x26, .str x27, .str x28, .nil, .bool x29, .str x30, .bool x31, .str x32, .bool x33, .str x34, .bool x35, .str x36, .nil, .nil, .bool x37, .str x38, .int .i64 x39, .int .i64 x40, .int .i64 x41, .int .i64 x42, .int .i64 x43, .nil]), (896, .row 29 x44 true)], top⟩ : St)
def s27 := fun x0 x1 x2 x3 x4 x5 x6 x7 x8 x9 x10 x11 x12 x13 x14 x15 x16 x17 x18 x19 x20 x21 x22 x23 x24 x25 x26 x27 x28 x29 x30 x31 x32 x33 x34 x35 x36 x37 x38 x39 x40 => (⟨mkS 149 [(4, .int .i64 x0), (6, .ptr 511 0), (10, .ptr 767 0)], [(511, .var 32 [.str x1, .str x2, .str x3, .ro 129 x4 true, .bool x5, .str x6, .bool x7, .str x8, .bool x9, .str x10, .bool x11, .str x12, .ro 129 x13 true, .ro 9 x14 true, .bool x15, .str x16, .int .i64 x17, .int .i64 x18, .int .i64 x19, .int .i64 x20, .int .i64 x21, .ro 32 x22 true]), (767, .var 32 [.str x23, .str x24, .str x25, .nil, .bool x26, .str x27, .bool x28, .str x29, .bool x30, .str x31, .bool x32, .str x33, .nil, .nil, .bool x34, .str x35, .int .i64 x36, .int .i64 x37, .int .i64 x38, .int .i64 x39, .int .i64 x40, .nil])], top⟩ : St)
noncomputable abbrev q2 {R : Type} (J : JT R) : J2 R := fun x0 x1 x2 x3 x4 x5 x6 x7 x8 x9 x10 x11 x12 x13 x14 x15 x16 x17 x18 x19 x20 x21 x22 x23 x24 x25 x26 x27 x28 x29 x30 x31 x32 x33 x34 x35 x36 x37 x38 x39 x40 x41 x42 x43 => J (placeOf Tryz.f50 2) (s2 x0 x1 x2 x3 x4 x5 x6 x7 x8 x9 x10 x11 x12 x13 x14 x15 x16 x17 x18 x19 x20 x21 x22 x23 x24 x25 x26 x27 x28 x29 x30 x31 x32 x33 x34 x35 x36 x37 x38 x39 x40 x41 x42 x43)
noncomputable abbrev q4 {R : Type} (J : JT R) : J4 R := fun x0 x1 x2 x3 x4 x5 x6 x7 x8 x9 x10 x11 x12 x13 x14 x15 x16 x17 x18 x19 x20 x21 x22 x23 x24 x25 x26 x27 x28 x29 x30 x31 x32 x33 x34 x35 x36 x37 x38 x39 x40 x41 x42 x43 => J (placeOf Tryz.f50 4) (s4 x0 x1 x2 x3 x4 x5 x6 x7 x8 x9 x10 x11 x12 x13 x14 x15 x16 x17 x18 x19 x20 x21 x22 x23 x24 x25 x26 x27 x28 x29 x30 x31 x32 x33 x34 x35 x36 x37 x38 x39 x40 x41 x42 x43)
noncomputable abbrev q5 {R : Type} (J : JT R) : J5 R := fun x0 x1 x2 x3 x4 x5 x6 x7 x8 x9 x10 x11 x12 x13 x14 x15 x16 x17 x18 x19 x20 x21 x22 x23 x24 x25 x26 x27 x28 x29 x30 x31 x32 x33 x34 x35 x36 x37 x38 x39 x40 => J (placeOf Tryz.f50 5) (s5 x0 x1 x2 x3 x4 x5 x6 x7 x8 x9 x10 x11 x12 x13 x14 x15 x16 x17 x18 x19 x20 x21 x22 x23 x24 x25 x26 x27 x28 x29 x30 x31 x32 x33 x34 x35 x36 x37 x38 x39 x40)
noncomputable abbrev q7 {R : Type} (J : JT R) : J7 R := fun x0 x1 x2 x3 x4 x5 x6 x7 x8 x9 x10 x11 x12 x13 x14 x15 x16 x17 x18 x19 x20 x21 x22 x23 x24 x25 x26 x27 x28 x29 x30 x31 x32 x33 x34 x35 x36 x37 x38 x39 x40 x41 x42 x43 x44 => J (placeOf Tryz.f50 7) (s7 x0 x1 x2 x3 x4 x5 x6 x7 x8 x9 x10 x11 x12 x13 x14 x15 x16 x17 x18 x19 x20 x21 x22 x23 x24 x25 x26 x27 x28 x29 x30 x31 x32 x33 x34 x35 x36 x37 x38 x39 x40 x41 x42 x43 x44)
noncomputable abbrev q11 {R : Type} (J : JT R) : J11 R := fun x0 x1 x2 x3 x4 x5 x6 x7 x8 x9 x10 x11 x12 x13 x14 x15 x16 x17 x18 x19 x20 x21 x22 x23 x24 x25 x26 x27 x28 x29 x30 x31 x32 x33 x34 x35 x36 x37 x38 x39 x40 => J (placeOf Tryz.f50 11) (s11 x0 x1 x2 x3 x4 x5 x6 x7 x8 x9 x10 x11 x12 x13 x14 x15 x16 x17 x18 x19 x20 x21 x22 x23 x24 x25 x26 x27 x28 x29 x30 x31 x32 x33 x34 x35 x36 x37 x38 x39 x40)
noncomputable abbrev q18 {R : Type} (J : JT R) : J18 R := fun x0 x1 x2 x3 x4 x5 x6 x7 x8 x9 x10 x11 x12 x13 x14 x15 x16 x17 x18 x19 x20 x21 x22 x23 x24 x25 x26 x27 x28 x29 x30 x31 x32 x33 x34 x35 x36 x37 x38 x39 x40 x41 x42 x43 => J (placeOf Tryz.f50 18) (s18 x0 x1 x2 x3 x4 x5 x6 x7 x8 x9 x10 x11 x12 x13 x14 x15 x16 x17 x18 x19 x20 x21 x22 x23 x24 x25 x26 x27 x28 x29 x30 x31 x32 x33 x34 x35 x36 x37 x38 x39 x40 x41 x42 x43)
noncomputable abbrev q20 {R : Type} (J : JT R) : J20 R := fun x0 x1 x2 x3 x4 x5 x6 x7 x8 x9 x10 x11 x12 x13 x14 x15 x16 x17 x18 x19 x20 x21 x22 x23 x24 x25 x26 x27 x28 x29 x30 x31 x32 x33 x34 x35 x36 x37 x38 x39 x40 => J (placeOf Tryz.f50 20) (s20 x0 x1 x2 x3 x4 x5 x6 x7 x8 x9 x10 x11 x12 x13 x14 x15 x16 x17 x18 x19 x20 x21 x22 x23 x24 x25 x26 x27 x28 x29 x30 x31 x32 x33 x34 x35 x36 x37 x38 x39 x40)
noncomputable abbrev q22 {R : Type} (J : JT R) : J22 R := fun x0 x1 x2 x3 x4 x5 x6 x7 x8 x9 x10 x11 x12 x13 x14 x15 x16 x17 x18 x19 x20 x21 x22 x23 x24 x25 x26 x27 x28 x29 x30 x31 x32 x33 x34 x35 x36 x37 x38 x39 x40 x41 x42 x43 x44 => J (placeOf Tryz.f50 22) (s22 x0 x1 x2 x3 x4 x5 x6 x7 x8 x9 x10 x11 x12 x13 x14 x15 x16 x17 x18 x19 x20 x21 x22 x23 x24 x25 x26 x27 x28 x29 x30 x31 x32 x33 x34 x35 x36 x37 x38 x39 x40 x41 x42 x43 x44)
noncomputable abbrev q27 {R : Type} (J : JT R) : J27 R := fun x0 x1 x2 x3 x4 x5 x6 x7 x8 x9 x10 x11 x12 x13 x14 x15 x16 x17 x18 x19 x20 x21 x22 x23 x24 x25 x26 x27 x28 x29 x30 x31 x32 x33 x34 x35 x36 x37 x38 x39 x40 => J (placeOf Tryz.f50 27) (s27 x0 x1 x2 x3 x4 x5 x6 x7 x8 x9 x10 x11 x12 x13 x14 x15 x16 x17 x18 x19 x20 x21 x22 x23 x24 x25 x26 x27 x28 x29 x30 x31 x32 x33 x34 x35 x36 x37 x38 x39 x40)
theorem k2 (J : JT R) (κ : KT R) (x0 x1 x2 x3 x4 x5 x6 x7 x8 x9 x10 x11 x12 x13 x14 x15 x16 x17 x18 x19 x20 x21 x22 x23 x24 x25 x26 x27 x28 x29 x30 x31 x32 x33 x34 x35 x36 x37 x38 x39 x40 x41 x42 x43 : _) : S R c1 c2 c3 c4 c5 κ J 2 (s2 x0 x1 x2 x3 x4 x5 x6 x7 x8 x9 x10 x11 x12 x13 x14 x15 x16 x17 x18 x19 x20 x21 x22 x23 x24 x25 x26 x27 x28 x29 x30 x31 x32 x33 x34 x35 x36 x37 x38 x39 x40 x41 x42 x43) = t2 c1 (q4 J) x0 x1 x2 x3 x4 x5 x6 x7 x8 x9 x10 x11 x12 x13 x14 x15 x16 x17 x18 x19 x20 x21 x22 x23 x24 x25 x26 x27 x28 x29 x30 x31 x32 x33 x34 x35 x36 x37 x38 x39 x40 x41 x42 x43 := by kernel_rfl
theorem k4 (J : JT R) (κ : KT R) (x0 x1 x2 x3 x4 x5 x6 x7 x8 x9 x10 x11 x12 x13 x14 x15 x16 x17 x18 x19 x20 x21 x22 x23 x24 x25 x26 x27 x28 x29 x30 x31 x32 x33 x34 x35 x36 x37 x38 x39 x40 x41 x42 x43 : _) : S R c1 c2 c3 c4 c5 κ J 4 (s4 x0 x1 x2 x3 x4 x5 x6 x7 x8 x9 x10 x11 x12 x13 x14 x15 x16 x17 x18 x19 x20 x21 x22 x23 x24 x25 x26 x27 x28 x29 x30 x31 x32 x33 x34 x35 x36 x37 x38 x39 x40 x41 x42 x43) = t4 c2 (q5 J) (q7 J) x0 x1 x2 x3 x4 x5 x6 x7 x8 x9 x10 x11 x12 x13 x14 x15 x16 x17 x18 x19 x20 x21 x22 x23 x24 x25 x26 x27 x28 x29 x30 x31 x32 x33 x34 x35 x36 x37 x38 x39 x40 x41 x42 x43 := by kernel_rfl
theorem k5 (J : JT R) (κ : KT R) (x0 x1 x2 x3 x4 x5 x6 x7 x8 x9 x10 x11 x12 x13 x14 x15 x16 x17 x18 x19 x20 x21 x22 x23 x24 x25 x26 x27 x28 x29 x30 x31 x32 x33 x34 x35 x36 x37 x38 x39 x40 : _) : S R c1 c2 c3 c4 c5 κ J 5 (s5 x0 x1 x2 x3 x4 x5 x6 x7 x8 x9 x10 x11 x12 x13 x14 x15 x16 x17 x18 x19 x20 x21 x22 x23 x24 x25 x26 x27 x28 x29 x30 x31 x32 x33 x34 x35 x36 x37 x38 x39 x40) = t5 (K0 κ) x0 x1 x2 x3 x4 x5 x6 x7 x8 x9 x10 x11 x12 x13 x14 x15 x16 x17 x18 x19 x20 x21 x22 x23 x24 x25 x26 x27 x28 x29 x30 x31 x32 x33 x34 x35 x36 x37 x38 x39 x40 := by kernel_rfl
theorem k7 (J : JT R) (κ : KT R) (x0 x1 x2 x3 x4 x5 x6 x7 x8 x9 x10 x11 x12 x13 x14 x15 x16 x17 x18 x19 x20 x21 x22 x23 x24 x25 x26 x27 x28 x29 x30 x31 x32 x33 x34 x35 x36 x37 x38 x39 x40 x41 x42 x43 x44 : _) : S R c1 c2 c3 c4 c5 κ J 7 (s7 x0 x1 x2 x3 x4 x5 x6 x7 x8 x9 x10 x11 x12 x13 x14 x15 x16 x17 x18 x19 x20 x21 x22 x23 x24 x25 x26 x27 x28 x29 x30 x31 x32 x33 x34 x35 x36 x37 x38 x39 x40 x41 x42 x43 x44) = t7 c1 c3 (q11 J) (q18 J) (q22 J) x0 x1 x2 x3 x4 x5 x6 x7 x8 x9 x10 x11 x12 x13 x14 x15 x16 x17 x18 x19 x20 x21 x22 x23 x24 x25 x26 x27 x28 x29 x30 x31 x32 x33 x34 x35 x36 x37 x38 x39 x40 x41 x42 x43 x44 := by kernel_rfl
theorem k11 (J : JT R) (κ : KT R) (x0 x1 x2 x3 x4 x5 x6 x7 x8 x9 x10 x11 x12 x13 x14 x15 x16 x17 x18 x19 x20 x21 x22 x23 x24 x25 x26 x27 x28 x29 x30 x31 x32 x33 x34 x35 x36 x37 x38 x39 x40 : _) : S R c1 c2 c3 c4 c5 κ J 11 (s11 x0 x1 x2 x3 x4 x5 x6 x7 x8 x9 x10 x11 x12 x13 x14 x15 x16 x17 x18 x19 x20 x21 x22 x23 x24 x25 x26 x27 x28 x29 x30 x31 x32 x33 x34 x35 x36 x37 x38 x39 x40) = t11 (K0 κ) x0 x1 x2 x3 x4 x5 x6 x7 x8 x9 x10 x11 x12 x13 x14 x15 x16 x17 x18 x19 x20 x21 x22 x23 x24 x25 x26 x27 x28 x29 x30 x31 x32 x33 x34 x35 x36 x37 x38 x39 x40 := by kernel_rfl
theorem k18 (J : JT R) (κ : KT R) (x0 x1 x2 x3 x4 x5 x6 x7 x8 x9 x10 x11 x12 x13 x14 x15 x16 x17 x18 x19 x20 x21 x22 x23 x24 x25 x26 x27 x28 x29 x30 x31 x32 x33 x34 x35 x36 x37 x38 x39 x40 x41 x42 x43 : _) : S R c1 c2 c3 c4 c5 κ J 18 (s18 x0 x1 x2 x3 x4 x5 x6 x7 x8 x9 x10 x11 x12 x13 x14 x15 x16 x17 x18 x19 x20 x21 x22 x23 x24 x25 x26 x27 x28 x29 x30 x31 x32 x33 x34 x35 x36 x37 x38 x39 x40 x41 x42 x43) = t18 c4 c5 (q20 J) x0 x1 x2 x3 x4 x5 x6 x7 x8 x9 x10 x11 x12 x13 x14 x15 x16 x17 x18 x19 x20 x21 x22 x23 x24 x25 x26 x27 x28 x29 x30 x31 x32 x33 x34 x35 x36 x37 x38 x39 x40 x41 x42 x43 := by kernel_rfl
theorem k20 (J : JT R) (κ : KT R) (x0 x1 x2 x3 x4 x5 x6 x7 x8 x9 x10 x11 x12 x13 x14 x15 x16 x17 x18 x19 x20 x21 x22 x23 x24 x25 x26 x27 x28 x29 x30 x31 x32 x33 x34 x35 x36 x37 x38 x39 x40 : _) : S R c1 c2 c3 c4 c5 κ J 20 (s20 x0 x1 x2 x3 x4 x5 x6 x7 x8 x9 x10 x11 x12 x13 x14 x15 x16 x17 x18 x19 x20 x21 x22 x23 x24 x25 x26 x27 x28 x29 x30 x31 x32 x33 x34 x35 x36 x37 x38 x39 x40) = t20 (K0 κ) x0 x1 x2 x3 x4 x5 x6 x7 x8 x9 x10 x11 x12 x13 x14 x15 x16 x17 x18 x19 x20 x21 x22 x23 x24 x25 x26 x27 x28 x29 x30 x31 x32 x33 x34 x35 x36 x37 x38 x39 x40 := by kernel_rfl
theorem k22 (J : JT R) (κ : KT R) (x0 x1 x2 x3 x4 x5 x6 x7 x8 x9 x10 x11 x12 x13 x14 x15 x16 x17 x18 x19 x20 x21 x22 x23 x24 x25 x26 x27 x28 x29 x30 x31 x32 x33 x34 x35 x36 x37 x38 x39 x40 x41 x42 x43 x44 : _) : S R c1 c2 c3 c4 c5 κ J 22 (s22 x0 x1 x2 x3 x4 x5 x6 x7 x8 x9 x10 x11 x12 x13 x14 x15 x16 x17 x18 x19 x20 x21 x22 x23 x24 x25 x26 x27 x28 x29 x30 x31 x32 x33 x34 x35 x36 x37 x38 x39 x40 x41 x42 x43 x44) = t22 c3 c4 c5 (q22 J) (q27 J) x0 x1 x2 x3 x4 x5 x6 x7 x8 x9 x10 x11 x12 x13 x14 x15 x16 x17 x18 x19 x20 x21 x22 x23 x24 x25 x26 x27 x28 x29 x30 x31 x32 x33 x34 x35 x36 x37 x38 x39 x40 x41 x42 x43 x44 := by kernel_rfl
theorem k27 (J : JT R) (κ : KT R) (x0 x1 x2 x3 x4 x5 x6 x7 x8 x9 x10 x11 x12 x13 x14 x15 x16 x17 x18 x19 x20 x21 x22 x23 x24 x25 x26 x27 x28 x29 x30 x31 x32 x33 x34 x35 x36 x37 x38 x39 x40 : _) : S R c1 c2 c3 c4 c5 κ J 27 (s27 x0 x1 x2 x3 x4 x5 x6 x7 x8 x9 x10 x11 x12 x13 x14 x15 x16 x17 x18 x19 x20 x21 x22 x23 x24 x25 x26 x27 x28 x29 x30 x31 x32 x33 x34 x35 x36 x37 x38 x39 x40) = t27 (K0 κ) x0 x1 x2 x3 x4 x5 x6 x7 x8 x9 x10 x11 x12 x13 x14 x15 x16 x17 x18 x19 x20 x21 x22 x23 x24 x25 x26 x27 x28 x29 x30 x31 x32 x33 x34 x35 x36 x37 x38 x39 x40 := by kernel_rfl
theorem k (κ : KT R) (k : Nat) (a0 a1 a2 a3 a4 a5 a6 a7 a8 a9 a10 a11 a12 a13 a14 a15 a16 a17 a18 a19 a20 a21 a22 a23 a24 : _) : runF (C R c1 c2 c3 c4 c5) Tryz.f50 10000 k [.str a0, .agg [.str a1, .str a2, .str a3, .ro 129 a4 true, .bool a5, .str a6, .bool a7, .str a8, .bool a9, .str a10, .bool a11, .str a12, .ro 129 a13 true, .ro 9 a14 true, .bool a15, .str a16, .int .i64 a17, .int .i64 a18, .int .i64 a19, .int .i64 a20, .int .i64 a21, .nil], .int .i64 a22, .bool a23, .int .i64 a24] κ = r6_opened.e c1 c2 c3 c4 c5 a0 a1 a2 a3 a4 a5 a6 a7 a8 a9 a10 a11 a12 a13 a14 a15 a16 a17 a18 a19 a20 a21 a22 a23 a24 (q2 (G R c1 c2 c3 c4 c5 κ k)) (q4 (G R c1 c2 c3 c4 c5 κ k)) (q5 (G R c1 c2 c3 c4 c5 κ k)) (q7 (G R c1 c2 c3 c4 c5 κ k)) (q11 (G R c1 c2 c3 c4 c5 κ k)) (q18 (G R c1 c2 c3 c4 c5 κ k)) (q20 (G R c1 c2 c3 c4 c5 κ k)) (q22 (G R c1 c2 c3 c4 c5 κ k)) (q27 (G R c1 c2 c3 c4 c5 κ k)) (K0 κ) := by kernel_rfl
theorem g5 (κ : KT R) : ∀ (f : Nat), q5 (G R c1 c2 c3 c4 c5 κ f) = L5 c1 c2 c3 c4 c5 (K0 κ) f
 | 0 => rfl
 | f + 1 => by
  funext x0 x1 x2 x3 x4 x5 x6 x7 x8 x9 x10 x11 x12 x13 x14 x15 x16 x17 x18 x19 x20 x21 x22 x23 x24 x25 x26 x27 x28 x29 x30 x31 x32 x33 x34 x35 x36 x37 x38 x39 x40
  show S R c1 c2 c3 c4 c5 κ (G R c1 c2 c3 c4 c5 κ f) 5 _ = _
  rw [k5]
  rfl
theorem g11 (κ : KT R) : ∀ (f : Nat), q11 (G R c1 c2 c3 c4 c5 κ f) = L11 c1 c2 c3 c4 c5 (K0 κ) f
 | 0 => rfl
 | f + 1 => by
  funext x0 x1 x2 x3 x4 x5 x6 x7 x8 x9 x10 x11 x12 x13 x14 x15 x16 x17 x18 x19 x20 x21 x22 x23 x24 x25 x26 x27 x28 x29 x30 x31 x32 x33 x34 x35 x36 x37 x38 x39 x40
  show S R c1 c2 c3 c4 c5 κ (G R c1 c2 c3 c4 c5 κ f) 11 _ = _
  rw [k11]
  rfl
theorem g20 (κ : KT R) : ∀ (f : Nat), q20 (G R c1 c2 c3 c4 c5 κ f) = L20 c1 c2 c3 c4 c5 (K0 κ) f
 | 0 => rfl
 | f + 1 => by
  funext x0 x1 x2 x3 x4 x5 x6 x7 x8 x9 x10 x11 x12 x13 x14 x15 x16 x17 x18 x19 x20 x21 x22 x23 x24 x25 x26 x27 x28 x29 x30 x31 x32 x33 x34 x35 x36 x37 x38 x39 x40
  show S R c1 c2 c3 c4 c5 κ (G R c1 c2 c3 c4 c5 κ f) 20 _ = _
  rw [k20]
  rfl
theorem g18 (κ : KT R) : ∀ (f : Nat), q18 (G R c1 c2 c3 c4 c5 κ f) = L18 c1 c2 c3 c4 c5 (K0 κ) f
 | 0 => rfl
 | f + 1 => by
  funext x0 x1 x2 x3 x4 x5 x6 x7 x8 x9 x10 x11 x12 x13 x14 x15 x16 x17 x18 x19 x20 x21 x22 x23 x24 x25 x26 x27 x28 x29 x30 x31 x32 x33 x34 x35 x36 x37 x38 x39 x40 x41 x42 x43
  show S R c1 c2 c3 c4 c5 κ (G R c1 c2 c3 c4 c5 κ f) 18 _ = _
  rw [k18, g20 R c1 c2 c3 c4 c5 κ f]
  rfl
theorem g27 (κ : KT R) : ∀ (f : Nat), q27 (G R c1 c2 c3 c4 c5 κ f) = L27 c1 c2 c3 c4 c5 (K0 κ) f
 | 0 => rfl
 | f + 1 => by
  funext x0 x1 x2 x3 x4 x5 x6 x7 x8 x9 x10 x11 x12 x13 x14 x15 x16 x17 x18 x19 x20 x21 x22 x23 x24 x25 x26 x27 x28 x29 x30 x31 x32 x33 x34 x35 x36 x37 x38 x39 x40
  show S R c1 c2 c3 c4 c5 κ (G R c1 c2 c3 c4 c5 κ f) 27 _ = _
  rw [k27]
  rfl
theorem g22 (κ : KT R) : ∀ (f : Nat), q22 (G R c1 c2 c3 c4 c5 κ f) = L22 c1 c2 c3 c4 c5 (K0 κ) f
 | 0 => rfl
 | f + 1 => by
  funext x0 x1 x2 x3 x4 x5 x6 x7 x8 x9 x10 x11 x12 x13 x14 x15 x16 x17 x18 x19 x20 x21 x22 x23 x24 x25 x26 x27 x28 x29 x30 x31 x32 x33 x34 x35 x36 x37 x38 x39 x40 x41 x42 x43 x44
  show S R c1 c2 c3 c4 c5 κ (G R c1 c2 c3 c4 c5 κ f) 22 _ = _
  rw [k22, g22 κ f, g27 R c1 c2 c3 c4 c5 κ f]
  rfl
theorem g7 (κ : KT R) : ∀ (f : Nat), q7 (G R c1 c2 c3 c4 c5 κ f) = L7 c1 c2 c3 c4 c5 (K0 κ) f
 | 0 => rfl
 | f + 1 => by
  funext x0 x1 x2 x3 x4 x5 x6 x7 x8 x9 x10 x11 x12 x13 x14 x15 x16 x17 x18 x19 x20 x21 x22 x23 x24 x25 x26 x27 x28 x29 x30 x31 x32 x33 x34 x35 x36 x37 x38 x39 x40 x41 x42 x43 x44
  show S R c1 c2 c3 c4 c5 κ (G R c1 c2 c3 c4 c5 κ f) 7 _ = _
  rw [k7, g11 R c1 c2 c3 c4 c5 κ f, g18 R c1 c2 c3 c4 c5 κ f, g22 R c1 c2 c3 c4 c5 κ f]
  rfl
theorem g4 (κ : KT R) : ∀ (f : Nat), q4 (G R c1 c2 c3 c4 c5 κ f) = L4 c1 c2 c3 c4 c5 (K0 κ) f
 | 0 => rfl
 | f + 1 => by
  funext x0 x1 x2 x3 x4 x5 x6 x7 x8 x9 x10 x11 x12 x13 x14 x15 x16 x17 x18 x19 x20 x21 x22 x23 x24 x25 x26 x27 x28 x29 x30 x31 x32 x33 x34 x35 x36 x37 x38 x39 x40 x41 x42 x43
  show S R c1 c2 c3 c4 c5 κ (G R c1 c2 c3 c4 c5 κ f) 4 _ = _
  rw [k4, g5 R c1 c2 c3 c4 c5 κ f, g7 R c1 c2 c3 c4 c5 κ f]
  rfl
theorem g2 (κ : KT R) : ∀ (f : Nat), q2 (G R c1 c2 c3 c4 c5 κ f) = L2 c1 c2 c3 c4 c5 (K0 κ) f
 | 0 => rfl
 | f + 1 => by
  funext x0 x1 x2 x3 x4 x5 x6 x7 x8 x9 x10 x11 x12 x13 x14 x15 x16 x17 x18 x19 x20 x21 x22 x23 x24 x25 x26 x27 x28 x29 x30 x31 x32 x33 x34 x35 x36 x37 x38 x39 x40 x41 x42 x43
  show S R c1 c2 c3 c4 c5 κ (G R c1 c2 c3 c4 c5 κ f) 2 _ = _
  rw [k2, g4 R c1 c2 c3 c4 c5 κ f]
  rfl
end
theorem Γ_does {R : Type} (tab : Tab) (ht : TabOk tab) (n : Nat) (ih : ∀ (a0 a1 a2 a3 a4 a5 a6 a7 a8 a9 a10 a11 a12 a13 a14 a15 a16 a17 a18 a19 a20 a21 a22 a23 a24 : _) (κ : KT R), DoesAt Tryz.prog (tabTy tyL) tab 50 [.str a0, .agg [.str a1, .str a2, .str a3, .ro 129 a4 true, .bool a5, .str a6, .bool a7, .str a8, .bool a9, .str a10, .bool a11, .str a12, .ro 129 a13 true, .ro 9 a14 true, .bool a15, .str a16, .int .i64 a17, .int .i64 a18, .int .i64 a19, .int .i64 a20, .int .i64 a21, .nil], .int .i64 a22, .bool a23, .int .i64 a24] κ (r6_opened.R n a0 a1 a2 a3 a4 a5 a6 a7 a8 a9 a10 a11 a12 a13 a14 a15 a16 a17 a18 a19 a20 a21 a22 a23 a24 (K0 κ))) (g : Nat) : Does (R := R) Tryz.prog (tabTy tyL) tab g ((C R r6_ends r6_inside r6_under r6_limb (r6_opened.R n)).call g) := by
 refine does_of fun xs κ => ?_
 show DoesAt _ _ _ g xs κ (Γ R r6_ends r6_inside r6_under r6_limb (r6_opened.R n) g xs κ)
 unfold Γ
 split
 ·split
  ·exact ih _ _ _ _ _ _ _ _ _ _ _ _ _ _ _ _ _ _ _ _ _ _ _ _ _ κ
  ·exact DoesAt.none
 ·split
  ·exact r6_limb.does tab ht _ _ _ _ _ κ
  ·exact DoesAt.none
 ·split
  ·exact r6_ends.does tab ht _ κ
  ·exact DoesAt.none
 ·split
  ·exact r6_inside.does tab ht _ _ _ _ _ _ _ _ _ _ _ _ _ _ _ _ _ _ _ _ _ _ κ
  ·exact DoesAt.none
 ·split
  ·exact r6_under.does tab ht _ _ κ
  ·exact DoesAt.none
 ·exact DoesAt.none
theorem R_does {R : Type} (tab : Tab) (ht : TabOk tab) : ∀ (n : Nat) (a0 a1 a2 a3 a4 a5 a6 a7 a8 a9 a10 a11 a12 a13 a14 a15 a16 a17 a18 a19 a20 a21 a22 a23 a24 : _) (κ : KT R), DoesAt Tryz.prog (tabTy tyL) tab 50 [.str a0, .agg [.str a1, .str a2, .str a3, .ro 129 a4 true, .bool a5, .str a6, .bool a7, .str a8, .bool a9, .str a10, .bool a11, .str a12, .ro 129 a13 true, .ro 9 a14 true, .bool a15, .str a16, .int .i64 a17, .int .i64 a18, .int .i64 a19, .int .i64 a20, .int .i64 a21, .nil], .int .i64 a22, .bool a23, .int .i64 a24] κ (r6_opened.R n a0 a1 a2 a3 a4 a5 a6 a7 a8 a9 a10 a11 a12 a13 a14 a15 a16 a17 a18 a19 a20 a21 a22 a23 a24 (K0 κ))
 | 0, _, _, _, _, _, _, _, _, _, _, _, _, _, _, _, _, _, _, _, _, _, _, _, _, _, _ => DoesAt.none
 | n + 1, a0, a1, a2, a3, a4, a5, a6, a7, a8, a9, a10, a11, a12, a13, a14, a15, a16, a17, a18, a19, a20, a21, a22, a23, a24, κ => doesAt_run (C := C R r6_ends r6_inside r6_under r6_limb (r6_opened.R n)) (fn := Tryz.f50) tyOk (Γ_does tab ht n (R_does tab ht n)) (by kernel_rfl) (by kernel_rfl) (show _ = B r6_ends r6_inside r6_under r6_limb (r6_opened.R n) a0 a1 a2 a3 a4 a5 a6 a7 a8 a9 a10 a11 a12 a13 a14 a15 a16 a17 a18 a19 a20 a21 a22 a23 a24 (K0 κ) by rw [k]; rw [g2 R r6_ends r6_inside r6_under r6_limb (r6_opened.R n) κ fuelK, g4 R r6_ends r6_inside r6_under r6_limb (r6_opened.R n) κ fuelK, g5 R r6_ends r6_inside r6_under r6_limb (r6_opened.R n) κ fuelK, g7 R r6_ends r6_inside r6_under r6_limb (r6_opened.R n) κ fuelK, g11 R r6_ends r6_inside r6_under r6_limb (r6_opened.R n) κ fuelK, g18 R r6_ends r6_inside r6_under r6_limb (r6_opened.R n) κ fuelK, g20 R r6_ends r6_inside r6_under r6_limb (r6_opened.R n) κ fuelK, g22 R r6_ends r6_inside r6_under r6_limb (r6_opened.R n) κ fuelK, g27 R r6_ends r6_inside r6_under r6_limb (r6_opened.R n) κ fuelK]; rfl)
theorem does {R : Type} (tab : Tab) (ht : TabOk tab) (a0 a1 a2 a3 a4 a5 a6 a7 a8 a9 a10 a11 a12 a13 a14 a15 a16 a17 a18 a19 a20 a21 a22 a23 a24 : _) (κ : KT R) : DoesAt Tryz.prog (tabTy tyL) tab 50 [.str a0, .agg [.str a1, .str a2, .str a3, .ro 129 a4 true, .bool a5, .str a6, .bool a7, .str a8, .bool a9, .str a10, .bool a11, .str a12, .ro 129 a13 true, .ro 9 a14 true, .bool a15, .str a16, .int .i64 a17, .int .i64 a18, .int .i64 a19, .int .i64 a20, .int .i64 a21, .nil], .int .i64 a22, .bool a23, .int .i64 a24] κ (r6_opened a0 a1 a2 a3 a4 a5 a6 a7 a8 a9 a10 a11 a12 a13 a14 a15 a16 a17 a18 a19 a20 a21 a22 a23 a24 (K0 κ)) := R_does tab ht fuelK a0 a1 a2 a3 a4 a5 a6 a7 a8 a9 a10 a11 a12 a13 a14 a15 a16 a17 a18 a19 a20 a21 a22 a23 a24 κ
end r6_opened
namespace r6_Parse
abbrev K0 {R : Type} (κ : KT R) : Q0 R := fun r0 r1 r2 r3 r4 r5 r6 r7 r8 r9 r10 r11 r12 r13 r14 r15 r16 r17 r18 r19 r20 r21 => κ [.agg [.str r0, .str r1, .str r2, .ro 129 r3 true, .bool r4, .str r5, .bool r6, .str r7, .bool r8, .str r9, .bool r10, .str r11, .ro 129 r12 true, .ro 9 r13 true, .bool r14, .str r15, .int .i64 r16, .int .i64 r17, .int .i64 r18, .int .i64 r19, .int .i64 r20, .ro 32 r21 true]]
section
variable (R : Type) (c1 : r6_limb.F R) (c2 : r6_opened.F R)
def Γ (g : Nat) (xs : List SV) (κ : KT R) : Option R :=
 match g with
 | 50 => (match xs with
  | [.str a0, .agg [.str a1, .str a2, .str a3, .ro 129 a4 true, .bool a5, .str a6, .bool a7, .str a8, .bool a9, .str a10, .bool a11, .str a12, .ro 129 a13 true, .ro 9 a14 true, .bool a15, .str a16, .int .i64 a17, .int .i64 a18, .int .i64 a19, .int .i64 a20, .int .i64 a21, .nil], .int .i64 a22, .bool a23, .int .i64 a24] => c2 a0 a1 a2 a3 a4 a5 a6 a7 a8 a9 a10 a11 a12 a13 a14 a15 a16 a17 a18 a19 a20 a21 a22 a23 a24 (r6_opened.K0 κ)
  | _ => none)
 | 51 => (match xs with
  | [.str a0, .agg [.int .i64 a1, .int .i64 a2], .str a3, .bool a4] => c1 a0 a1 a2 a3 a4 (r6_limb.K0 κ)
  | _ => none)
 | _ => none
def h (n : Nat) : Option (List (Nat × List (Nat × Nat))) :=
 match n with
 | _ => none
def C : Cfg R := ⟨tabTy tyL, Γ R c1 c2, fun g => Nat.beq g 50, h, 0⟩
theorem k (κ : KT R) (k : Nat) (a0 : _) : runF (C R c1 c2) Tryz.f15 10000 k [.str a0] κ = r6_Parse.e c1 c2 a0 (K0 κ) := by kernel_rfl
end
theorem Γ_does {R : Type} (tab : Tab) (ht : TabOk tab) (g : Nat) : Does (R := R) Tryz.prog (tabTy tyL) tab g ((C R r6_limb r6_opened).call g) := by
 refine does_of fun xs κ => ?_
 show DoesAt _ _ _ g xs κ (Γ R r6_limb r6_opened g xs κ)
 unfold Γ
 split
 ·split
  ·exact r6_opened.does tab ht _ _ _ _ _ _ _ _ _ _ _ _ _ _ _ _ _ _ _ _ _ _ _ _ _ κ
  ·exact DoesAt.none
 ·split
  ·exact r6_limb.does tab ht _ _ _ _ _ κ
  ·exact DoesAt.none
 ·exact DoesAt.none
theorem does {R : Type} (tab : Tab) (ht : TabOk tab) (a0 : _) (κ : KT R) : DoesAt Tryz.prog (tabTy tyL) tab 15 [.str a0] κ (r6_Parse a0 (K0 κ)) := doesAt_run (C := C R r6_limb r6_opened) (fn := Tryz.f15) tyOk (Γ_does tab ht) (by kernel_rfl) (by kernel_rfl) (by rw [k]; rfl)
end r6_Parse
namespace w6_params
abbrev K0 {R : Type} (κ : KT R) : Bool -> Option R := fun r0 => κ [.bool r0]
section
variable (R : Type)
def Γ (g : Nat) (xs : List SV) (κ : KT R) : Option R :=
 match g with
 | _ => none
def h (n : Nat) : Option (List (Nat × List (Nat × Nat))) :=
 match n with
 | 4 => some [(0, [(0, 0)]), (1, [(0, 0)]), (5, [(0, 0)])]
 | _ => none
def C : Cfg R := ⟨tabTy tyL, Γ R, fun _ => false, h, 0⟩
noncomputable def S := S0 (C R) Tryz.f47 0
noncomputable def G := G0 (C R) Tryz.f47 0
def s4 := fun x0 x1 x2 => (⟨mkS 26 [(0, .ro 129 x0 true), (1, .ro 129 x1 true), (5, .int .i64 x2)], [], top⟩ : St)
noncomputable abbrev q4 {R : Type} (J : JT R) : J4 R := fun x0 x1 x2 => J (placeOf Tryz.f47 4) (s4 x0 x1 x2)
theorem k4 (J : JT R) (κ : KT R) (x0 x1 x2 : _) : S R κ J 4 (s4 x0 x1 x2) = t4 (q4 J) (K0 κ) x0 x1 x2 := by kernel_rfl
theorem k (κ : KT R) (k : Nat) (a0 a1 : _) : runF (C R) Tryz.f47 10000 k [.ro 129 a0 true, .ro 129 a1 true] κ = w6_params.e a0 a1 (q4 (G R κ k)) (K0 κ) := by kernel_rfl
theorem g4 (κ : KT R) : ∀ (f : Nat), q4 (G R κ f) = L4 (K0 κ) f
 | 0 => rfl
 | f + 1 => by
  funext x0 x1 x2
  show S R κ (G R κ f) 4 _ = _
  rw [k4, g4 κ f]
  rfl
end
theorem Γ_does {R : Type} (tab : Tab) (ht : TabOk tab) (g : Nat) : Does (R := R) Tryz.prog (tabTy tyL) tab g ((C R).call g) := by
 refine does_of fun xs κ => ?_
 show DoesAt _ _ _ g xs κ (Γ R g xs κ)
 unfold Γ
 split
 ·exact DoesAt.none
theorem does {R : Type} (tab : Tab) (ht : TabOk tab) (a0 a1 : _) (κ : KT R) : DoesAt Tryz.prog (tabTy tyL) tab 47 [.ro 129 a0 true, .ro 129 a1 true] κ (w6_params a0 a1 (K0 κ)) := doesAt_run (C := C R) (fn := Tryz.f47) tyOk (Γ_does tab ht) (by kernel_rfl) (by kernel_rfl) (by rw [k]; rw [g4 R κ fuelK]; rfl)
end w6_params
namespace w6_texts
abbrev K0 {R : Type} (κ : KT R) : Bool -> Option R := fun r0 => κ [.bool r0]
section
variable (R : Type)
def Γ (g : Nat) (xs : List SV) (κ : KT R) : Option R :=
 match g with
 | _ => none
def h (n : Nat) : Option (List (Nat × List (Nat × Nat))) :=
 match n with
 | 4 => some [(0, [(0, 0)]), (1, [(0, 0)]), (5, [(0, 0)])]
 | _ => none
def C : Cfg R := ⟨tabTy tyL, Γ R, fun _ => false, h, 0⟩
noncomputable def S := S0 (C R) Tryz.f25 0
noncomputable def G := G0 (C R) Tryz.f25 0
def s4 := fun x0 x1 x2 => (⟨mkS 26 [(0, .ro 9 x0 true), (1, .ro 9 x1 true), (5, .int .i64 x2)], [], top⟩ : St)
noncomputable abbrev q4 {R : Type} (J : JT R) : J4 R := fun x0 x1 x2 => J (placeOf Tryz.f25 4) (s4 x0 x1 x2)
theorem k4 (J : JT R) (κ : KT R) (x0 x1 x2 : _) : S R κ J 4 (s4 x0 x1 x2) = t4 (q4 J) (K0 κ) x0 x1 x2 := by kernel_rfl
theorem k (κ : KT R) (k : Nat) (a0 a1 : _) : runF (C R) Tryz.f25 10000 k [.ro 9 a0 true, .ro 9 a1 true] κ = w6_texts.e a0 a1 (q4 (G R κ k)) (K0 κ) := by kernel_rfl
theorem g4 (κ : KT R) : ∀ (f : Nat), q4 (G R κ f) = L4 (K0 κ) f
 | 0 => rfl
 | f + 1 => by
  funext x0 x1 x2
  show S R κ (G R κ f) 4 _ = _
  rw [k4, g4 κ f]
  rfl
end
theorem Γ_does {R : Type} (tab : Tab) (ht : TabOk tab) (g : Nat) : Does (R := R) Tryz.prog (tabTy tyL) tab g ((C R).call g) := by
 refine does_of fun xs κ => ?_
 show DoesAt _ _ _ g xs κ (Γ R g xs κ)
 unfold Γ
 split
 ·exact DoesAt.none
theorem does {R : Type} (tab : Tab) (ht : TabOk tab) (a0 a1 : _) (κ : KT R) : DoesAt Tryz.prog (tabTy tyL) tab 25 [.ro 9 a0 true, .ro 9 a1 true] κ (w6_texts a0 a1 (K0 κ)) := doesAt_run (C := C R) (fn := Tryz.f25) tyOk (Γ_does tab ht) (by kernel_rfl) (by kernel_rfl) (by rw [k]; rw [g4 R κ fuelK]; rfl)
end w6_texts
namespace w6_same
abbrev K0 {R : Type} (κ : KT R) : Bool -> Option R := fun r0 => κ [.bool r0]
section
variable (R : Type) (c1 : w6_params.F R) (c2 : w6_texts.F R) (c3 : w6_same.F R)
def Γ (g : Nat) (xs : List SV) (κ : KT R) : Option R :=
 match g with
 | 13 => (match xs with
  | [.agg [.str a0, .str a1, .str a2, .ro 129 a3 true, .bool a4, .str a5, .bool a6, .str a7, .bool a8, .str a9, .bool a10, .str a11, .ro 129 a12 true, .ro 9 a13 true, .bool a14, .str a15, .int .i64 a16, .int .i64 a17, .int .i64 a18, .int .i64 a19, .int .i64 a20, .ro 32 a21 true], .agg [.str a22, .str a23, .str a24, .ro 129 a25 true, .bool a26, .str a27, .bool a28, .str a29, .bool a30, .str a31, .bool a32, .str a33, .ro 129 a34 true, .ro 9 a35 true, .bool a36, .str a37, .int .i64 a38, .int .i64 a39, .int .i64 a40, .int .i64 a41, .int .i64 a42, .ro 32 a43 true]] => c3 a0 a1 a2 a3 a4 a5 a6 a7 a8 a9 a10 a11 a12 a13 a14 a15 a16 a17 a18 a19 a20 a21 a22 a23 a24 a25 a26 a27 a28 a29 a30 a31 a32 a33 a34 a35 a36 a37 a38 a39 a40 a41 a42 a43 (K0 κ)
  | _ => none)
 | 25 => (match xs with
  | [.ro 9 a0 true, .ro 9 a1 true] => c2 a0 a1 (w6_texts.K0 κ)
  | _ => none)
 | 47 => (match xs with
  | [.ro 129 a0 true, .ro 129 a1 true] => c1 a0 a1 (w6_params.K0 κ)
  | _ => none)
 | _ => none
def h (n : Nat) : Option (List (Nat × List (Nat × Nat))) :=
 match n with
 | 6 => some [(2, [(0, 0)]), (3, [(0, 0)]), (5, [(0, 0)])]
 | _ => none
def C : Cfg R := ⟨tabTy tyL, Γ R c1 c2 c3, fun _ => false, h, 0⟩
noncomputable def S := S0 (C R c1 c2 c3) Tryz.f13 0
noncomputable def G := G0 (C R c1 c2 c3) Tryz.f13 0
def s6 := fun x0 x1 x2 x3 x4 x5 x6 x7 x8 x9 x10 x11 x12 x13 x14 x15 x16 x17 x18 x19 x20 x21 x22 x23 x24 x25 x26 x27 x28 x29 x30 x31 x32 x33 x34 x35 x36 x37 x38 x39 x40 x41 x42 x43 x44 => (⟨mkS 133 [(2, .ptr 255 0), (3, .ptr 319 0), (5, .int .i64 x0)], [(255, .var 32 [.str x1, .str x2, .str x3, .ro 129 x4 true, .bool x5, .str x6, .bool x7, .str x8, .bool x9, .str x10, .bool x11, .str x12, .ro 129 x13 true, .ro 9 x14 true, .bool x15, .str x16, .int .i64 x17, .int .i64 x18, .int .i64 x19, .int .i64 x20, .int .i64 x21, .ro 32 x22 true]), (319, .var 32 [.str x23, .str x24, .str x25, .ro 129 x26 true, .bool x27, .str x28, .bool x29, .str x30, .bool x31, .str x32, .bool x33, .str x34, .ro 129 x35 true, .ro 9 x36 true, .bool x37, .str x38, .int .i64 x39, .int .i64 x40, .int .i64 x41, .int .i64 x42, .int .i64 x43, .ro 32 x44 true])], top⟩ : St)
noncomputable abbrev q6 {R : Type} (J : JT R) : J6 R := fun x0 x1 x2 x3 x4 x5 x6 x7 x8 x9 x10 x11 x12 x13 x14 x15 x16 x17 x18 x19 x20 x21 x22 x23 x24 x25 x26 x27 x28 x29 x30 x31 x32 x33 x34 x35 x36 x37 x38 x39 x40 x41 x42 x43 x44 => J (placeOf Tryz.f13 6) (s6 x0 x1 x2 x3 x4 x5 x6 x7 x8 x9 x10 x11 x12 x13 x14 x15 x16 x17 x18 x19 x20 x21 x22 x23 x24 x25 x26 x27 x28 x29 x30 x31 x32 x33 x34 x35 x36 x37 x38 x39 x40 x41 x42 x43 x44)
theorem k6 (J : JT R) (κ : KT R) (x0 x1 x2 x3 x4 x5 x6 x7 x8 x9 x10 x11 x12 x13 x14 x15 x16 x17 x18 x19 x20 x21 x22 x23 x24 x25 x26 x27 x28 x29 x30 x31 x32 x33 x34 x35 x36 x37 x38 x39 x40 x41 x42 x43 x44 : _) : S R c1 c2 c3 κ J 6 (s6 x0 x1 x2 x3 x4 x5 x6 x7 x8 x9 x10 x11 x12 x13 x14 x15 x16 x17 x18 x19 x20 x21 x22 x23 x24 x25 x26 x27 x28 x29 x30 x31 x32 x33 x34 x35 x36 x37 x38 x39 x40 x41 x42 x43 x44) = t6 c3 (q6 J) (K0 κ) x0 x1 x2 x3 x4 x5 x6 x7 x8 x9 x10 x11 x12 x13 x14 x15 x16 x17 x18 x19 x20 x21 x22 x23 x24 x25 x26 x27 x28 x29 x30 x31 x32 x33 x34 x35 x36 x37 x38 x39 x40 x41 x42 x43 x44 := by kernel_rfl
theorem k (κ : KT R) (k : Nat) (a0 a1 a2 a3 a4 a5 a6 a7 a8 a9 a10 a11 a12 a13 a14 a15 a16 a17 a18 a19 a20 a21 a22 a23 a24 a25 a26 a27 a28 a29 a30 a31 a32 a33 a34 a35 a36 a37 a38 a39 a40 a41 a42 a43 : _) : runF (C R c1 c2 c3) Tryz.f13 10000 k [.agg [.str a0, .str a1, .str a2, .ro 129 a3 true, .bool a4, .str a5, .bool a6, .str a7, .bool a8, .str a9, .bool a10, .str a11, .ro 129 a12 true, .ro 9 a13 true, .bool a14, .str a15, .int .i64 a16, .int .i64 a17, .int .i64 a18, .int .i64 a19, .int .i64 a20, .ro 32 a21 true], .agg [.str a22, .str a23, .str a24, .ro 129 a25 true, .bool a26, .str a27, .bool a28, .str a29, .bool a30, .str a31, .bool a32, .str a33, .ro 129 a34 true, .ro 9 a35 true, .bool a36, .str a37, .int .i64 a38, .int .i64 a39, .int .i64 a40, .int .i64 a41, .int .i64 a42, .ro 32 a43 true]] κ = w6_same.e c1 c2 c3 a0 a1 a2 a3 a4 a5 a6 a7 a8 a9 a10 a11 a12 a13 a14 a15 a16 a17 a18 a19 a20 a21 a22 a23 a24 a25 a26 a27 a28 a29 a30 a31 a32 a33 a34 a35 a36 a37 a38 a39 a40 a41 a42 a43 (q6 (G R c1 c2 c3 κ k)) (K0 κ) := by kernel_rfl
theorem g6 (κ : KT R) : ∀ (f : Nat), q6 (G R c1 c2 c3 κ f) = L6 c1 c2 c3 (K0 κ) f
 | 0 => rfl
 | f + 1 => by
  funext x0 x1 x2 x3 x4 x5 x6 x7 x8 x9 x10 x11 x12 x13 x14 x15 x16 x17 x18 x19 x20 x21 x22 x23 x24 x25 x26 x27 x28 x29 x30 x31 x32 x33 x34 x35 x36 x37 x38 x39 x40 x41 x42 x43 x44
  show S R c1 c2 c3 κ (G R c1 c2 c3 κ f) 6 _ = _
  rw [k6, g6 κ f]
  rfl
end
theorem Γ_does {R : Type} (tab : Tab) (ht : TabOk tab) (n : Nat) (ih : ∀ (a0 a1 a2 a3 a4 a5 a6 a7 a8 a9 a10 a11 a12 a13 a14 a15 a16 a17 a18 a19 a20 a21 a22 a23 a24 a25 a26 a27 a28 a29 a30 a31 a32 a33 a34 a35 a36 a37 a38 a39 a40 a41 a42 a43 : _) (κ : KT R), DoesAt Tryz.prog (tabTy tyL) tab 13 [.agg [.str a0, .str a1, .str a2, .ro 129 a3 true, .bool a4, .str a5, .bool a6, .str a7, .bool a8, .str a9, .bool a10, .str a11, .ro 129 a12 true, .ro 9 a13 true, .bool a14, .str a15, .int .i64 a16, .int .i64 a17, .int .i64 a18, .int .i64 a19, .int .i64 a20, .ro 32 a21 true], .agg [.str a22, .str a23, .str a24, .ro 129 a25 true, .bool a26, .str a27, .bool a28, .str a29, .bool a30, .str a31, .bool a32, .str a33, .ro 129 a34 true, .ro 9 a35 true, .bool a36, .str a37, .int .i64 a38, .int .i64 a39, .int .i64 a40, .int .i64 a41, .int .i64 a42, .ro 32 a43 true]] κ (w6_same.R n a0 a1 a2 a3 a4 a5 a6 a7 a8 a9 a10 a11 a12 a13 a14 a15 a16 a17 a18 a19 a20 a21 a22 a23 a24 a25 a26 a27 a28 a29 a30 a31 a32 a33 a34 a35 a36 a37 a38 a39 a40 a41 a42 a43 (K0 κ))) (g : Nat) : Does (R := R) Tryz.prog (tabTy tyL) tab g ((C R w6_params w6_texts (w6_same.R n)).call g) := by
 refine does_of fun xs κ => ?_
 show DoesAt _ _ _ g xs κ (Γ R w6_params w6_texts (w6_same.R n) g xs κ)
 unfold Γ
 split
 ·split
  ·exact ih _ _ _ _ _ _ _ _ _ _ _ _ _ _ _ _ _ _ _ _ _ _ _ _ _ _ _ _ _ _ _ _ _ _ _ _ _ _ _ _ _ _ _ _ κ
  ·exact DoesAt.none
 ·split
  ·exact w6_texts.does tab ht _ _ κ
  ·exact DoesAt.none
 ·split
  ·exact w6_params.does tab ht _ _ κ
  ·exact DoesAt.none
 ·exact DoesAt.none
theorem R_does {R : Type} (tab : Tab) (ht : TabOk tab) : ∀ (n : Nat) (a0 a1 a2 a3 a4 a5 a6 a7 a8 a9 a10 a11 a12 a13 a14 a15 a16 a17 a18 a19 a20 a21 a22 a23 a24 a25 a26 a27 a28 a29 a30 a31 a32 a33 a34 a35 a36 a37 a38 a39 a40 a41 a42 a43 : _) (κ : KT R), DoesAt Tryz.prog (tabTy tyL) tab 13 [.agg [.str a0, .str a1, .str a2, .ro 129 a3 true, .bool a4, .str a5, .bool a6, .str a7, .bool a8, .str a9, .bool a10, .str a11, .ro 129 a12 true, .ro 9 a13 true, .bool a14, .str a15, .int .i64 a16, .int .i64 a17, .int .i64 a18, .int .i64 a19, .int .i64 a20, .ro 32 a21 true], .agg [.str a22, .str a23, .str a24, .ro 129 a25 true, .bool a26, .str a27, .bool a28, .str a29, .bool a30, .str a31, .bool a32, .str a33, .ro 129 a34 true, .ro 9 a35 true, .bool a36, .str a37, .int .i64 a38, .int .i64 a39, .int .i64 a40, .int .i64 a41, .int .i64 a42, .ro 32 a43 true]] κ (w6_same.R n a0 a1 a2 a3 a4 a5 a6 a7 a8 a9 a10 a11 a12 a13 a14 a15 a16 a17 a18 a19 a20 a21 a22 a23 a24 a25 a26 a27 a28 a29 a30 a31 a32 a33 a34 a35 a36 a37 a38 a39 a40 a41 a42 a43 (K0 κ))
 | 0, _, _, _, _, _, _, _, _, _, _, _, _, _, _, _, _, _, _, _, _, _, _, _, _, _, _, _, _, _, _, _, _, _, _, _, _, _, _, _, _, _, _, _, _, _ => DoesAt.none
 | n + 1, a0, a1, a2, a3, a4, a5, a6, a7, a8, a9, a10, a11, a12, a13, a14, a15, a16, a17, a18, a19, a20, a21, a22, a23, a24, a25, a26, a27, a28, a29, a30, a31, a32, a33, a34, a35, a36, a37, a38, a39, a40, a41, a42, a43, κ => doesAt_run (C := C R w6_params w6_texts (w6_same.R n)) (fn := Tryz.f13) tyOk (Γ_does tab ht n (R_does tab ht n)) (by kernel_rfl) (by kernel_rfl) (show _ = B w6_params w6_texts (w6_same.R n) a0 a1 a2 a3 a4 a5 a6 a7 a8 a9 a10 a11 a12 a13 a14 a15 a16 a17 a18 a19 a20 a21 a22 a23 a24 a25 a26 a27 a28 a29 a30 a31 a32 a33 a34 a35 a36 a37 a38 a39 a40 a41 a42 a43 (K0 κ) by rw [k]; rw [g6 R w6_params w6_texts (w6_same.R n) κ fuelK]; rfl)
theorem does {R : Type} (tab : Tab) (ht : TabOk tab) (a0 a1 a2 a3 a4 a5 a6 a7 a8 a9 a10 a11 a12 a13 a14 a15 a16 a17 a18 a19 a20 a21 a22 a23 a24 a25 a26 a27 a28 a29 a30 a31 a32 a33 a34 a35 a36 a37 a38 a39 a40 a41 a42 a43 : _) (κ : KT R) : DoesAt Tryz.prog (tabTy tyL) tab 13 [.agg [.str a0, .str a1, .str a2, .ro 129 a3 true, .bool a4, .str a5, .bool a6, .str a7, .bool a8, .str a9, .bool a10, .str a11, .ro 129 a12 true, .ro 9 a13 true, .bool a14, .str a15, .int .i64 a16, .int .i64 a17, .int .i64 a18, .int .i64 a19, .int .i64 a20, .ro 32 a21 true], .agg [.str a22, .str a23, .str a24, .ro 129 a25 true, .bool a26, .str a27, .bool a28, .str a29, .bool a30, .str a31, .bool a32, .str a33, .ro 129 a34 true, .ro 9 a35 true, .bool a36, .str a37, .int .i64 a38, .int .i64 a39, .int .i64 a40, .int .i64 a41, .int .i64 a42, .ro 32 a43 true]] κ (w6_same a0 a1 a2 a3 a4 a5 a6 a7 a8 a9 a10 a11 a12 a13 a14 a15 a16 a17 a18 a19 a20 a21 a22 a23 a24 a25 a26 a27 a28 a29 a30 a31 a32 a33 a34 a35 a36 a37 a38 a39 a40 a41 a42 a43 (K0 κ)) := R_does tab ht fuelK a0 a1 a2 a3 a4 a5 a6 a7 a8 a9 a10 a11 a12 a13 a14 a15 a16 a17 a18 a19 a20 a21 a22 a23 a24 a25 a26 a27 a28 a29 a30 a31 a32 a33 a34 a35 a36 a37 a38 a39 a40 a41 a42 a43 κ
end w6_same
namespace w6_LimbParses
abbrev K0 {R : Type} (κ : KT R) : Bool -> Option R := fun r0 => κ [.bool r0]
section
variable (R : Type) (c1 : w6_known.F R) (c2 : lm_Parse.F R) (c3 : r6_Parse.F R) (c4 : w6_same.F R)
def Γ (g : Nat) (xs : List SV) (κ : KT R) : Option R :=
 match g with
 | 12 => (match xs with
  | [] => c1 (w6_known.K0 κ)
  | _ => none)
 | 13 => (match xs with
  | [.agg [.str a0, .str a1, .str a2, .ro 129 a3 true, .bool a4, .str a5, .bool a6, .str a7, .bool a8, .str a9, .bool a10, .str a11, .ro 129 a12 true, .ro 9 a13 true, .bool a14, .str a15, .int .i64 a16, .int .i64 a17, .int .i64 a18, .int .i64 a19, .int .i64 a20, .ro 32 a21 true], .agg [.str a22, .str a23, .str a24, .ro 129 a25 true, .bool a26, .str a27, .bool a28, .str a29, .bool a30, .str a31, .bool a32, .str a33, .ro 129 a34 true, .ro 9 a35 true, .bool a36, .str a37, .int .i64 a38, .int .i64 a39, .int .i64 a40, .int .i64 a41, .int .i64 a42, .ro 32 a43 true]] => c4 a0 a1 a2 a3 a4 a5 a6 a7 a8 a9 a10 a11 a12 a13 a14 a15 a16 a17 a18 a19 a20 a21 a22 a23 a24 a25 a26 a27 a28 a29 a30 a31 a32 a33 a34 a35 a36 a37 a38 a39 a40 a41 a42 a43 (w6_same.K0 κ)
  | _ => none)
 | 14 => (match xs with
  | [.str a0] => c2 a0 (lm_Parse.K0 κ)
  | _ => none)
 | 15 => (match xs with
  | [.str a0] => c3 a0 (r6_Parse.K0 κ)
  | _ => none)
 | _ => none
def h (n : Nat) : Option (List (Nat × List (Nat × Nat))) :=
 match n with
 | _ => none
def C : Cfg R := ⟨tabTy tyL, Γ R c1 c2 c3 c4, fun _ => false, h, 0⟩
theorem k (κ : KT R) (k : Nat) (a0 : _) : runF (C R c1 c2 c3 c4) Tryz.f3 10000 k [.str a0] κ = w6_LimbParses.e c1 c2 c3 c4 a0 (K0 κ) := by kernel_rfl
end
theorem Γ_does {R : Type} (tab : Tab) (ht : TabOk tab) (g : Nat) : Does (R := R) Tryz.prog (tabTy tyL) tab g ((C R w6_known lm_Parse r6_Parse w6_same).call g) := by
 refine does_of fun xs κ => ?_
 show DoesAt _ _ _ g xs κ (Γ R w6_known lm_Parse r6_Parse w6_same g xs κ)
 unfold Γ
 split
 ·split
  ·exact w6_known.does tab ht κ
  ·exact DoesAt.none
 ·split
  ·exact w6_same.does tab ht _ _ _ _ _ _ _ _ _ _ _ _ _ _ _ _ _ _ _ _ _ _ _ _ _ _ _ _ _ _ _ _ _ _ _ _ _ _ _ _ _ _ _ _ κ
  ·exact DoesAt.none
 ·split
  ·exact lm_Parse.does tab ht _ κ
  ·exact DoesAt.none
 ·split
  ·exact r6_Parse.does tab ht _ κ
  ·exact DoesAt.none
 ·exact DoesAt.none
theorem does {R : Type} (tab : Tab) (ht : TabOk tab) (a0 : _) (κ : KT R) : DoesAt Tryz.prog (tabTy tyL) tab 3 [.str a0] κ (w6_LimbParses a0 (K0 κ)) := doesAt_run (C := C R w6_known lm_Parse r6_Parse w6_same) (fn := Tryz.f3) tyOk (Γ_does tab ht) (by kernel_rfl) (by kernel_rfl) (by rw [k]; rfl)
end w6_LimbParses
end Go.Proofs.Ab
