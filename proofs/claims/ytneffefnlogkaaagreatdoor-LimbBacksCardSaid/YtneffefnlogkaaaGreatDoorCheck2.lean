/- Each plain function is what a call of its Go function does, checked by the kernel (no condition but what its checks ask). -/
import Derived.Test.YtneffefnlogkaaaGreatDoorSeat
import Derived.Test.YtneffefnlogkaaaGreatDoorText
import Derived.Test.YtneffefnlogkaaaGreatDoorCheck1
set_option linter.unusedVariables false
set_option linter.unusedSimpArgs false
set_option maxRecDepth 4000
namespace Go.Proofs.Ab
open Go Go.Proofs
set_option maxRecDepth 100000
namespace aI
abbrev K0 {R : Type} (κ : KT R) : Q0 R := fun r0 r1 r2 r3 r4 r5 r6 r7 r8 r9 r10 r11 r12 r13 r14 r15 r16 r17 r18 r19 r20 r21 r22 => κ [.bool r0, .vp 32 [.str r1, .str r2, .str r3, .ro 129 r4 true, .bool r5, .str r6, .bool r7, .str r8, .bool r9, .str r10, .bool r11, .str r12, .ro 129 r13 true, .ro 9 r14 true, .bool r15, .str r16, .int .i64 r17, .int .i64 r18, .int .i64 r19, .int .i64 r20, .int .i64 r21, .ro 32 r22 true]]
section
variable (R : Type)
def Γ (g : Nat) (xs : List SV) (κ : KT R) : Option R :=
 match g with
 | _ => none
def h (n : Nat) : Option (List (Nat × List (Nat × Nat))) :=
 match n with
 | _ => none
def C : Cfg R := ⟨ae bj, Γ R, fun _ => false, h, 0, fun _ => false⟩
theorem k (κ : KT R) (k : Nat) (a0 a1 a2 a3 a4 a5 a6 a7 a8 a9 a10 a11 a12 a13 a14 a15 a16 a17 a18 a19 a20 a21 : _) : b8 (C R) Tryz.f59 10000 k [.vp 32 [.str a0, .str a1, .str a2, .ro 129 a3 true, .bool a4, .str a5, .bool a6, .str a7, .bool a8, .str a9, .bool a10, .str a11, .ro 129 a12 true, .ro 9 a13 true, .bool a14, .str a15, .int .i64 a16, .int .i64 a17, .int .i64 a18, .int .i64 a19, .int .i64 a20, .ro 32 a21 true]] κ = aI.e a0 a1 a2 a3 a4 a5 a6 a7 a8 a9 a10 a11 a12 a13 a14 a15 a16 a17 a18 a19 a20 a21 (K0 κ) := by kernel_rfl
end
theorem ac {R : Type} (tab : bO) (ht : av tab) (g : Nat) : bL (R := R) Tryz.prog (ae bj) tab g ((C R).call g) := by
 refine aD fun xs κ => ?_
 show aa _ _ _ g xs κ (Γ R g xs κ)
 unfold Γ
 split
 ·exact aa.none
theorem aE {R : Type} (tab : bO) (ht : av tab) (a0 a1 a2 a3 a4 a5 a6 a7 a8 a9 a10 a11 a12 a13 a14 a15 a16 a17 a18 a19 a20 a21 : _) (κ : KT R) : aa Tryz.prog (ae bj) tab 59 [.vp 32 [.str a0, .str a1, .str a2, .ro 129 a3 true, .bool a4, .str a5, .bool a6, .str a7, .bool a8, .str a9, .bool a10, .str a11, .ro 129 a12 true, .ro 9 a13 true, .bool a14, .str a15, .int .i64 a16, .int .i64 a17, .int .i64 a18, .int .i64 a19, .int .i64 a20, .ro 32 a21 true]] κ (aI a0 a1 a2 a3 a4 a5 a6 a7 a8 a9 a10 a11 a12 a13 a14 a15 a16 a17 a18 a19 a20 a21 (K0 κ)) := ah (C := C R) (fn := Tryz.f59) cd (ac tab ht) (by kernel_rfl) (by kernel_rfl) (by rw [k]; rfl)
end aI
namespace az
abbrev K0 {R : Type} (κ : KT R) : Q0 R := fun r0 r1 r2 r3 r4 r5 r6 r7 r8 r9 r10 r11 r12 r13 r14 r15 r16 r17 r18 r19 r20 r21 r22 => κ [.bool r0, .vp 32 [.str r1, .str r2, .str r3, .ro 129 r4 true, .bool r5, .str r6, .bool r7, .str r8, .bool r9, .str r10, .bool r11, .str r12, .ro 129 r13 true, .ro 9 r14 true, .bool r15, .str r16, .int .i64 r17, .int .i64 r18, .int .i64 r19, .int .i64 r20, .int .i64 r21, .fr 32 r22 true]]
section
variable (R : Type)
def Γ (g : Nat) (xs : List SV) (κ : KT R) : Option R :=
 match g with
 | _ => none
def h (n : Nat) : Option (List (Nat × List (Nat × Nat))) :=
 match n with
 | _ => none
def C : Cfg R := ⟨ae bj, Γ R, fun _ => false, h, 0, fun _ => false⟩
theorem k (κ : KT R) (k : Nat) (a0 a1 a2 a3 a4 a5 a6 a7 a8 a9 a10 a11 a12 a13 a14 a15 a16 a17 a18 a19 a20 a21 : _) : b8 (C R) Tryz.f59 10000 k [.vp 32 [.str a0, .str a1, .str a2, .ro 129 a3 true, .bool a4, .str a5, .bool a6, .str a7, .bool a8, .str a9, .bool a10, .str a11, .ro 129 a12 true, .ro 9 a13 true, .bool a14, .str a15, .int .i64 a16, .int .i64 a17, .int .i64 a18, .int .i64 a19, .int .i64 a20, .fr 32 a21 true]] κ = az.e a0 a1 a2 a3 a4 a5 a6 a7 a8 a9 a10 a11 a12 a13 a14 a15 a16 a17 a18 a19 a20 a21 (K0 κ) := by kernel_rfl
end
theorem ac {R : Type} (tab : bO) (ht : av tab) (g : Nat) : bL (R := R) Tryz.prog (ae bj) tab g ((C R).call g) := by
 refine aD fun xs κ => ?_
 show aa _ _ _ g xs κ (Γ R g xs κ)
 unfold Γ
 split
 ·exact aa.none
theorem aE {R : Type} (tab : bO) (ht : av tab) (a0 a1 a2 a3 a4 a5 a6 a7 a8 a9 a10 a11 a12 a13 a14 a15 a16 a17 a18 a19 a20 a21 : _) (κ : KT R) : aa Tryz.prog (ae bj) tab 59 [.vp 32 [.str a0, .str a1, .str a2, .ro 129 a3 true, .bool a4, .str a5, .bool a6, .str a7, .bool a8, .str a9, .bool a10, .str a11, .ro 129 a12 true, .ro 9 a13 true, .bool a14, .str a15, .int .i64 a16, .int .i64 a17, .int .i64 a18, .int .i64 a19, .int .i64 a20, .fr 32 a21 true]] κ (az a0 a1 a2 a3 a4 a5 a6 a7 a8 a9 a10 a11 a12 a13 a14 a15 a16 a17 a18 a19 a20 a21 (K0 κ)) := ah (C := C R) (fn := Tryz.f59) cd (ac tab ht) (by kernel_rfl) (by kernel_rfl) (by rw [k]; rfl)
end az
namespace bI
abbrev K0 {R : Type} (κ : KT R) : Q0 R := fun r0 r1 r2 r3 r4 r5 r6 r7 r8 r9 r10 r11 r12 r13 r14 r15 r16 r17 r18 r19 r20 r21 r22 => κ [.str r0, .vp 32 [.str r1, .str r2, .str r3, .ro 129 r4 true, .bool r5, .str r6, .bool r7, .str r8, .bool r9, .str r10, .bool r11, .str r12, .ro 129 r13 true, .ro 9 r14 true, .bool r15, .str r16, .int .i64 r17, .int .i64 r18, .int .i64 r19, .int .i64 r20, .int .i64 r21, .fr 32 r22 true]]
section
variable (R : Type) (c1 : az.F R) (c2 : b9.F R)
def Γ (g : Nat) (xs : List SV) (κ : KT R) : Option R :=
 match g with
 | 59 => (match xs with
  | [.vp 32 [.str a0, .str a1, .str a2, .ro 129 a3 true, .bool a4, .str a5, .bool a6, .str a7, .bool a8, .str a9, .bool a10, .str a11, .ro 129 a12 true, .ro 9 a13 true, .bool a14, .str a15, .int .i64 a16, .int .i64 a17, .int .i64 a18, .int .i64 a19, .int .i64 a20, .fr 32 a21 true]] => c1 a0 a1 a2 a3 a4 a5 a6 a7 a8 a9 a10 a11 a12 a13 a14 a15 a16 a17 a18 a19 a20 a21 (az.K0 κ)
  | _ => none)
 | 135 => (match xs with
  | [.int .i64 a0] => c2 a0 (b9.K0 κ)
  | _ => none)
 | _ => none
def h (n : Nat) : Option (List (Nat × List (Nat × Nat))) :=
 match n with
 | _ => none
def C : Cfg R := ⟨ae bj, Γ R c1 c2, fun _ => false, h, 0, fun _ => false⟩
theorem k (κ : KT R) (k : Nat) (a0 a1 a2 a3 a4 a5 a6 a7 a8 a9 a10 a11 a12 a13 a14 a15 a16 a17 a18 a19 a20 a21 a22 a23 a24 : _) : b8 (C R c1 c2) Tryz.f92 10000 k [.vp 32 [.str a0, .str a1, .str a2, .ro 129 a3 true, .bool a4, .str a5, .bool a6, .str a7, .bool a8, .str a9, .bool a10, .str a11, .ro 129 a12 true, .ro 9 a13 true, .bool a14, .str a15, .int .i64 a16, .int .i64 a17, .int .i64 a18, .int .i64 a19, .int .i64 a20, .fr 32 a21 true], .int .i64 a22, .bool a23, .int .i64 a24] κ = bI.e c1 c2 a0 a1 a2 a3 a4 a5 a6 a7 a8 a9 a10 a11 a12 a13 a14 a15 a16 a17 a18 a19 a20 a21 a22 a23 a24 (K0 κ) := by kernel_rfl
end
theorem ac {R : Type} (tab : bO) (ht : av tab) (g : Nat) : bL (R := R) Tryz.prog (ae bj) tab g ((C R az b9).call g) := by
 refine aD fun xs κ => ?_
 show aa _ _ _ g xs κ (Γ R az b9 g xs κ)
 unfold Γ
 split
 ·split
  ·exact az.aE tab ht _ _ _ _ _ _ _ _ _ _ _ _ _ _ _ _ _ _ _ _ _ _ κ
  ·exact aa.none
 ·split
  ·exact b9.aE tab ht _ κ
  ·exact aa.none
 ·exact aa.none
theorem aE {R : Type} (tab : bO) (ht : av tab) (a0 a1 a2 a3 a4 a5 a6 a7 a8 a9 a10 a11 a12 a13 a14 a15 a16 a17 a18 a19 a20 a21 a22 a23 a24 : _) (κ : KT R) : aa Tryz.prog (ae bj) tab 92 [.vp 32 [.str a0, .str a1, .str a2, .ro 129 a3 true, .bool a4, .str a5, .bool a6, .str a7, .bool a8, .str a9, .bool a10, .str a11, .ro 129 a12 true, .ro 9 a13 true, .bool a14, .str a15, .int .i64 a16, .int .i64 a17, .int .i64 a18, .int .i64 a19, .int .i64 a20, .fr 32 a21 true], .int .i64 a22, .bool a23, .int .i64 a24] κ (bI a0 a1 a2 a3 a4 a5 a6 a7 a8 a9 a10 a11 a12 a13 a14 a15 a16 a17 a18 a19 a20 a21 a22 a23 a24 (K0 κ)) := ah (C := C R az b9) (fn := Tryz.f92) cd (ac tab ht) (by kernel_rfl) (by kernel_rfl) (by rw [k]; rfl)
end bI
namespace ai
abbrev K0 {R : Type} (κ : KT R) : Q0 R := fun r0 r1 r2 r3 r4 r5 r6 r7 r8 r9 r10 r11 r12 r13 r14 r15 r16 r17 r18 r19 r20 r21 r22 r23 => κ [.tup [], .vp 94 [.str r0, .int .i64 r1], .vp 32 [.str r2, .str r3, .str r4, .ro 129 r5 true, .bool r6, .str r7, .bool r8, .str r9, .bool r10, .str r11, .bool r12, .str r13, .ro 129 r14 true, .ro 9 r15 true, .bool r16, .str r17, .int .i64 r18, .int .i64 r19, .int .i64 r20, .int .i64 r21, .int .i64 r22, .ro 32 r23 true]]
abbrev K1 {R : Type} (κ : KT R) : Q1 R := fun r0 r1 r2 r3 r4 r5 r6 r7 r8 r9 r10 r11 r12 r13 r14 r15 r16 r17 r18 r19 r20 r21 r22 => κ [.tup [], .vp 94 [.str r0, .int .i64 r1], .vp 32 [.str r2, .str r3, .str r4, .nil, .bool r5, .str r6, .bool r7, .str r8, .bool r9, .str r10, .bool r11, .str r12, .ro 129 r13 true, .ro 9 r14 true, .bool r15, .str r16, .int .i64 r17, .int .i64 r18, .int .i64 r19, .int .i64 r20, .int .i64 r21, .ro 32 r22 true]]
section
variable (R : Type) (c1 : aB.F R) (c2 : aA.F R) (c3 : bC.F R) (c4 : aI.F R) (c5 : bI.F R) (c6 : az.F R) (c7 : ai.F R)
def Γ (g : Nat) (xs : List SV) (κ : KT R) : Option R :=
 match g with
 | 48 => (match xs with
  | [.vp 94 [.str a0, .int .i64 a1], .agg [.int .i64 a2, .int .i64 a3], .bool a4] => c2 a0 a1 a2 a3 a4 (aA.K0 κ)
  | _ => none)
 | 49 => (match xs with
  | [.vp 94 [.str a0, .int .i64 a1], .vp 32 [.str a2, .str a3, .str a4, .ro 129 a5 true, .bool a6, .str a7, .bool a8, .str a9, .bool a10, .str a11, .bool a12, .str a13, .ro 129 a14 true, .ro 9 a15 true, .bool a16, .str a17, .int .i64 a18, .int .i64 a19, .int .i64 a20, .int .i64 a21, .int .i64 a22, .nil], .int .i64 a23, .bool a24] => c7 a0 a1 a2 a3 a4 a5 a6 a7 a8 a9 a10 a11 a12 a13 a14 a15 a16 a17 a18 a19 a20 a21 a22 a23 a24 (K0 κ) (K1 κ)
  | _ => none)
 | 59 => (match xs with
  | [.vp 32 [.str a0, .str a1, .str a2, .ro 129 a3 true, .bool a4, .str a5, .bool a6, .str a7, .bool a8, .str a9, .bool a10, .str a11, .ro 129 a12 true, .ro 9 a13 true, .bool a14, .str a15, .int .i64 a16, .int .i64 a17, .int .i64 a18, .int .i64 a19, .int .i64 a20, .ro 32 a21 true]] => c4 a0 a1 a2 a3 a4 a5 a6 a7 a8 a9 a10 a11 a12 a13 a14 a15 a16 a17 a18 a19 a20 a21 (aI.K0 κ)
  | [.vp 32 [.str a0, .str a1, .str a2, .ro 129 a3 true, .bool a4, .str a5, .bool a6, .str a7, .bool a8, .str a9, .bool a10, .str a11, .ro 129 a12 true, .ro 9 a13 true, .bool a14, .str a15, .int .i64 a16, .int .i64 a17, .int .i64 a18, .int .i64 a19, .int .i64 a20, .fr 32 a21 true]] => c6 a0 a1 a2 a3 a4 a5 a6 a7 a8 a9 a10 a11 a12 a13 a14 a15 a16 a17 a18 a19 a20 a21 (az.K0 κ)
  | _ => none)
 | 91 => (match xs with
  | [.vp 94 [.str a0, .int .i64 a1], .vp 32 [.str a2, .str a3, .str a4, .ro 129 a5 true, .bool a6, .str a7, .bool a8, .str a9, .bool a10, .str a11, .bool a12, .str a13, .ro 129 a14 true, .ro 9 a15 true, .bool a16, .str a17, .int .i64 a18, .int .i64 a19, .int .i64 a20, .int .i64 a21, .int .i64 a22, .nil]] => c1 a0 a1 a2 a3 a4 a5 a6 a7 a8 a9 a10 a11 a12 a13 a14 a15 a16 a17 a18 a19 a20 a21 a22 (aB.K0 κ) (aB.K1 κ)
  | _ => none)
 | 92 => (match xs with
  | [.vp 32 [.str a0, .str a1, .str a2, .ro 129 a3 true, .bool a4, .str a5, .bool a6, .str a7, .bool a8, .str a9, .bool a10, .str a11, .ro 129 a12 true, .ro 9 a13 true, .bool a14, .str a15, .int .i64 a16, .int .i64 a17, .int .i64 a18, .int .i64 a19, .int .i64 a20, .fr 32 a21 true], .int .i64 a22, .bool a23, .int .i64 a24] => c5 a0 a1 a2 a3 a4 a5 a6 a7 a8 a9 a10 a11 a12 a13 a14 a15 a16 a17 a18 a19 a20 a21 a22 a23 a24 (bI.K0 κ)
  | _ => none)
 | 93 => (match xs with
  | [.str a0, .str a1] => c3 a0 a1 (bC.K0 κ)
  | _ => none)
 | _ => none
def h (n : Nat) : Option (List (Nat × List (Nat × Nat))) :=
 match n with
 | 2 => some [(0, [(0, 0)]), (1, [(0, 0)]), (2, [(0, 0)]), (3, [(0, 0)]), (8, [(0, 31)])]
 | 5 => some [(0, [(0, 0)]), (1, [(21, 34)]), (2, [(0, 0)]), (3, [(0, 0)]), (40, [(0, 0)]), (41, [(0, 0)]), (42, [(0, 0)])]
 | 8 => some [(0, [(0, 0)]), (1, [(0, 0)]), (2, [(0, 0)]), (3, [(0, 0)]), (9, [(0, 0)]), (11, [(0, 0)]), (40, [(0, 0)]), (41, [(0, 0)]), (42, [(0, 0)])]
 | 14 => some [(0, [(0, 0)]), (1, [(0, 0)]), (2, [(0, 0)]), (3, [(0, 0)]), (40, [(0, 0)]), (41, [(0, 0)]), (42, [(0, 0)])]
 | 15 => some [(0, [(0, 0)]), (1, [(3, 131), (3, 1), (12, 131), (12, 1), (13, 11), (13, 1), (21, 34), (21, 1)])]
 | _ => none
def C : Cfg R := ⟨ae bj, Γ R c1 c2 c3 c4 c5 c6 c7, fun _ => false, h, 0, fun _ => false⟩
noncomputable def S := S0 (C R c1 c2 c3 c4 c5 c6 c7) Tryz.f49 2
noncomputable def G := G0 (C R c1 c2 c3 c4 c5 c6 c7) Tryz.f49 2
def s2 := fun x0 x1 x2 x3 x4 x5 x6 x7 x8 x9 x10 x11 x12 x13 x14 x15 x16 x17 x18 x19 x20 x21 x22 x23 x24 x25 => (⟨dZ 156 [(0, .ptr 0 0), (1, .ptr 1 0), (2, .int .i64 x0), (3, .bool x1), (8, .own 576)], [(1, .var 32 [.str x2, .str x3, .str x4, .ro 129 x5 true, .bool x6, .str x7, .bool x8, .str x9, .bool x10, .str x11, .bool x12, .str x13, .ro 129 x14 true, .ro 9 x15 true, .bool x16, .str x17, .int .i64 x18, .int .i64 x19, .int .i64 x20, .int .i64 x21, .int .i64 x22, .nil]), (0, .var 94 [.str x23, .int .i64 x24]), (576, .row 29 x25 true)], dW⟩ : St)
def s5 := fun x0 x1 x2 x3 x4 x5 x6 x7 x8 x9 x10 x11 x12 x13 x14 x15 x16 x17 x18 x19 x20 x21 x22 x23 x24 x25 x26 x27 x28 => (⟨dZ 156 [(0, .ptr 0 0), (1, .ptr 1 0), (2, .int .i64 x0), (3, .bool x1), (40, .own 2624), (41, .int .i64 x2), (42, .int .i64 x3)], [(1, .var 32 [.str x4, .str x5, .str x6, .ro 129 x7 true, .bool x8, .str x9, .bool x10, .str x11, .bool x12, .str x13, .bool x14, .str x15, .ro 129 x16 true, .ro 9 x17 true, .bool x18, .str x19, .int .i64 x20, .int .i64 x21, .int .i64 x22, .int .i64 x23, .int .i64 x24, .own 149]), (0, .var 94 [.str x25, .int .i64 x26]), (149, .row 32 x27 true), (2624, .row 29 x28 true)], dW⟩ : St)
def s8 := fun x0 x1 x2 x3 x4 x5 x6 x7 x8 x9 x10 x11 x12 x13 x14 x15 x16 x17 x18 x19 x20 x21 x22 x23 x24 x25 x26 x27 x28 x29 x30 x31 x32 x33 x34 x35 x36 x37 x38 x39 x40 x41 x42 x43 x44 x45 x46 x47 x48 x49 x50 => (⟨dZ 156 [(0, .ptr 0 0), (1, .ptr 1 0), (2, .int .i64 x0), (3, .bool x1), (9, .int .i64 x2), (11, .ptr 831 0), (40, .own 2624), (41, .int .i64 x3), (42, .int .i64 x4)], [(1, .var 32 [.str x5, .str x6, .str x7, .ro 129 x8 true, .bool x9, .str x10, .bool x11, .str x12, .bool x13, .str x14, .bool x15, .str x16, .ro 129 x17 true, .ro 9 x18 true, .bool x19, .str x20, .int .i64 x21, .int .i64 x22, .int .i64 x23, .int .i64 x24, .int .i64 x25, .own 149]), (0, .var 94 [.str x26, .int .i64 x27]), (149, .row 32 x28 true), (831, .var 32 [.str x29, .str x30, .str x31, .ro 129 x32 true, .bool x33, .str x34, .bool x35, .str x36, .bool x37, .str x38, .bool x39, .str x40, .ro 129 x41 true, .ro 9 x42 true, .bool x43, .str x44, .int .i64 x45, .int .i64 x46, .int .i64 x47, .int .i64 x48, .int .i64 x49, .nil]), (2624, .row 29 x50 true)], dW⟩ : St)
def B9 := fun x0 x1 x2 x3 x4 x5 x6 x7 x8 x9 x10 x11 x12 x13 x14 x15 x16 x17 x18 x19 x20 x21 x22 x23 => (⟨dZ 156 [(0, .ptr 0 0), (1, .ptr 1 0)], [(1, .var 32 [.str x0, .str x1, .str x2, .ro 129 x3 true, .bool x4, .str x5, .bool x6, .str x7, .bool x8, .str x9, .bool x10, .str x11, .ro 129 x12 true, .ro 9 x13 true, .bool x14, .str x15, .int .i64 x16, .int .i64 x17, .int .i64 x18, .int .i64 x19, .int .i64 x20, .ro 32 x21 true]), (0, .var 94 [.str x22, .int .i64 x23])], dW⟩ : St)
noncomputable abbrev q2 {R : Type} (J : JT R) : J2 R := fun x0 x1 x2 x3 x4 x5 x6 x7 x8 x9 x10 x11 x12 x13 x14 x15 x16 x17 x18 x19 x20 x21 x22 x23 x24 x25 => J (placeOf Tryz.f49 2) (s2 x0 x1 x2 x3 x4 x5 x6 x7 x8 x9 x10 x11 x12 x13 x14 x15 x16 x17 x18 x19 x20 x21 x22 x23 x24 x25)
noncomputable abbrev q5 {R : Type} (J : JT R) : J5 R := fun x0 x1 x2 x3 x4 x5 x6 x7 x8 x9 x10 x11 x12 x13 x14 x15 x16 x17 x18 x19 x20 x21 x22 x23 x24 x25 x26 x27 x28 => J (placeOf Tryz.f49 5) (s5 x0 x1 x2 x3 x4 x5 x6 x7 x8 x9 x10 x11 x12 x13 x14 x15 x16 x17 x18 x19 x20 x21 x22 x23 x24 x25 x26 x27 x28)
noncomputable abbrev q8 {R : Type} (J : JT R) : J8 R := fun x0 x1 x2 x3 x4 x5 x6 x7 x8 x9 x10 x11 x12 x13 x14 x15 x16 x17 x18 x19 x20 x21 x22 x23 x24 x25 x26 x27 x28 x29 x30 x31 x32 x33 x34 x35 x36 x37 x38 x39 x40 x41 x42 x43 x44 x45 x46 x47 x48 x49 x50 => J (placeOf Tryz.f49 8) (s8 x0 x1 x2 x3 x4 x5 x6 x7 x8 x9 x10 x11 x12 x13 x14 x15 x16 x17 x18 x19 x20 x21 x22 x23 x24 x25 x26 x27 x28 x29 x30 x31 x32 x33 x34 x35 x36 x37 x38 x39 x40 x41 x42 x43 x44 x45 x46 x47 x48 x49 x50)
noncomputable abbrev DW {R : Type} (J : JT R) : C9 R := fun x0 x1 x2 x3 x4 x5 x6 x7 x8 x9 x10 x11 x12 x13 x14 x15 x16 x17 x18 x19 x20 x21 x22 x23 x24 x25 x26 x27 x28 => J (placeOf Tryz.f49 14) (Df x0 x1 x2 x3 x4 x5 x6 x7 x8 x9 x10 x11 x12 x13 x14 x15 x16 x17 x18 x19 x20 x21 x22 x23 x24 x25 x26 x27 x28)
noncomputable abbrev xU {R : Type} (J : JT R) : qR R := fun x0 x1 x2 x3 x4 x5 x6 x7 x8 x9 x10 x11 x12 x13 x14 x15 x16 x17 x18 x19 x20 x21 x22 x23 => J (placeOf Tryz.f49 15) (B9 x0 x1 x2 x3 x4 x5 x6 x7 x8 x9 x10 x11 x12 x13 x14 x15 x16 x17 x18 x19 x20 x21 x22 x23)
theorem k2 (J : JT R) (κ : KT R) (x0 x1 x2 x3 x4 x5 x6 x7 x8 x9 x10 x11 x12 x13 x14 x15 x16 x17 x18 x19 x20 x21 x22 x23 x24 x25 : _) : S R c1 c2 c3 c4 c5 c6 c7 κ J 2 (s2 x0 x1 x2 x3 x4 x5 x6 x7 x8 x9 x10 x11 x12 x13 x14 x15 x16 x17 x18 x19 x20 x21 x22 x23 x24 x25) = t2 (q5 J) (xU J) x0 x1 x2 x3 x4 x5 x6 x7 x8 x9 x10 x11 x12 x13 x14 x15 x16 x17 x18 x19 x20 x21 x22 x23 x24 x25 := by kernel_rfl
theorem k5 (J : JT R) (κ : KT R) (x0 x1 x2 x3 x4 x5 x6 x7 x8 x9 x10 x11 x12 x13 x14 x15 x16 x17 x18 x19 x20 x21 x22 x23 x24 x25 x26 x27 x28 : _) : S R c1 c2 c3 c4 c5 c6 c7 κ J 5 (s5 x0 x1 x2 x3 x4 x5 x6 x7 x8 x9 x10 x11 x12 x13 x14 x15 x16 x17 x18 x19 x20 x21 x22 x23 x24 x25 x26 x27 x28) = t5 c2 (q8 J) (xU J) x0 x1 x2 x3 x4 x5 x6 x7 x8 x9 x10 x11 x12 x13 x14 x15 x16 x17 x18 x19 x20 x21 x22 x23 x24 x25 x26 x27 x28 := by kernel_rfl
theorem k8 (J : JT R) (κ : KT R) (x0 x1 x2 x3 x4 x5 x6 x7 x8 x9 x10 x11 x12 x13 x14 x15 x16 x17 x18 x19 x20 x21 x22 x23 x24 x25 x26 x27 x28 x29 x30 x31 x32 x33 x34 x35 x36 x37 x38 x39 x40 x41 x42 x43 x44 x45 x46 x47 x48 x49 x50 : _) : S R c1 c2 c3 c4 c5 c6 c7 κ J 8 (s8 x0 x1 x2 x3 x4 x5 x6 x7 x8 x9 x10 x11 x12 x13 x14 x15 x16 x17 x18 x19 x20 x21 x22 x23 x24 x25 x26 x27 x28 x29 x30 x31 x32 x33 x34 x35 x36 x37 x38 x39 x40 x41 x42 x43 x44 x45 x46 x47 x48 x49 x50) = t8 c5 c6 c7 (DW J) x0 x1 x2 x3 x4 x5 x6 x7 x8 x9 x10 x11 x12 x13 x14 x15 x16 x17 x18 x19 x20 x21 x22 x23 x24 x25 x26 x27 x28 x29 x30 x31 x32 x33 x34 x35 x36 x37 x38 x39 x40 x41 x42 x43 x44 x45 x46 x47 x48 x49 x50 := by kernel_rfl
theorem EH (J : JT R) (κ : KT R) (x0 x1 x2 x3 x4 x5 x6 x7 x8 x9 x10 x11 x12 x13 x14 x15 x16 x17 x18 x19 x20 x21 x22 x23 x24 x25 x26 x27 x28 : _) : S R c1 c2 c3 c4 c5 c6 c7 κ J 14 (Df x0 x1 x2 x3 x4 x5 x6 x7 x8 x9 x10 x11 x12 x13 x14 x15 x16 x17 x18 x19 x20 x21 x22 x23 x24 x25 x26 x27 x28) = t14 (q5 J) x0 x1 x2 x3 x4 x5 x6 x7 x8 x9 x10 x11 x12 x13 x14 x15 x16 x17 x18 x19 x20 x21 x22 x23 x24 x25 x26 x27 x28 := by kernel_rfl
theorem Dy (J : JT R) (κ : KT R) (x0 x1 x2 x3 x4 x5 x6 x7 x8 x9 x10 x11 x12 x13 x14 x15 x16 x17 x18 x19 x20 x21 x22 x23 : _) : S R c1 c2 c3 c4 c5 c6 c7 κ J 15 (B9 x0 x1 x2 x3 x4 x5 x6 x7 x8 x9 x10 x11 x12 x13 x14 x15 x16 x17 x18 x19 x20 x21 x22 x23) = t15 c3 c4 (K0 κ) (K1 κ) x0 x1 x2 x3 x4 x5 x6 x7 x8 x9 x10 x11 x12 x13 x14 x15 x16 x17 x18 x19 x20 x21 x22 x23 := by kernel_rfl
theorem k (κ : KT R) (k : Nat) (a0 a1 a2 a3 a4 a5 a6 a7 a8 a9 a10 a11 a12 a13 a14 a15 a16 a17 a18 a19 a20 a21 a22 a23 a24 : _) : b8 (C R c1 c2 c3 c4 c5 c6 c7) Tryz.f49 10000 k [.vp 94 [.str a0, .int .i64 a1], .vp 32 [.str a2, .str a3, .str a4, .ro 129 a5 true, .bool a6, .str a7, .bool a8, .str a9, .bool a10, .str a11, .bool a12, .str a13, .ro 129 a14 true, .ro 9 a15 true, .bool a16, .str a17, .int .i64 a18, .int .i64 a19, .int .i64 a20, .int .i64 a21, .int .i64 a22, .nil], .int .i64 a23, .bool a24] κ = ai.e c1 c2 c3 c4 c5 c6 c7 a0 a1 a2 a3 a4 a5 a6 a7 a8 a9 a10 a11 a12 a13 a14 a15 a16 a17 a18 a19 a20 a21 a22 a23 a24 (q2 (G R c1 c2 c3 c4 c5 c6 c7 κ k)) (q5 (G R c1 c2 c3 c4 c5 c6 c7 κ k)) (q8 (G R c1 c2 c3 c4 c5 c6 c7 κ k)) (DW (G R c1 c2 c3 c4 c5 c6 c7 κ k)) (xU (G R c1 c2 c3 c4 c5 c6 c7 κ k)) (K0 κ) (K1 κ) := by kernel_rfl
theorem g15 (κ : KT R) : ∀ (f : Nat), xU (G R c1 c2 c3 c4 c5 c6 c7 κ f) = mZ c1 c2 c3 c4 c5 c6 c7 (K0 κ) (K1 κ) f
 | 0 => rfl
 | f + 1 => by
  funext x0 x1 x2 x3 x4 x5 x6 x7 x8 x9 x10 x11 x12 x13 x14 x15 x16 x17 x18 x19 x20 x21 x22 x23
  show S R c1 c2 c3 c4 c5 c6 c7 κ (G R c1 c2 c3 c4 c5 c6 c7 κ f) 15 _ = _
  rw [Dy]
  rfl
theorem BM (κ : KT R) : ∀ (f : Nat), (q5 (G R c1 c2 c3 c4 c5 c6 c7 κ f) = L5 c1 c2 c3 c4 c5 c6 c7 (K0 κ) (K1 κ) f) /\ (q8 (G R c1 c2 c3 c4 c5 c6 c7 κ f) = L8 c1 c2 c3 c4 c5 c6 c7 (K0 κ) (K1 κ) f) /\ (DW (G R c1 c2 c3 c4 c5 c6 c7 κ f) = DQ c1 c2 c3 c4 c5 c6 c7 (K0 κ) (K1 κ) f)
 | 0 => ⟨rfl, rfl, rfl⟩
 | f + 1 => by
  obtain ⟨ih0, ih1, ih2⟩ := BM κ f
  refine ⟨?_, ?_, ?_⟩
  ·funext x0 x1 x2 x3 x4 x5 x6 x7 x8 x9 x10 x11 x12 x13 x14 x15 x16 x17 x18 x19 x20 x21 x22 x23 x24 x25 x26 x27 x28
   show S R c1 c2 c3 c4 c5 c6 c7 κ (G R c1 c2 c3 c4 c5 c6 c7 κ f) 5 _ = _
   rw [k5, ih1, g15 R c1 c2 c3 c4 c5 c6 c7 κ f]
   rfl
  ·funext x0 x1 x2 x3 x4 x5 x6 x7 x8 x9 x10 x11 x12 x13 x14 x15 x16 x17 x18 x19 x20 x21 x22 x23 x24 x25 x26 x27 x28 x29 x30 x31 x32 x33 x34 x35 x36 x37 x38 x39 x40 x41 x42 x43 x44 x45 x46 x47 x48 x49 x50
   show S R c1 c2 c3 c4 c5 c6 c7 κ (G R c1 c2 c3 c4 c5 c6 c7 κ f) 8 _ = _
   rw [k8, ih2]
   rfl
  ·funext x0 x1 x2 x3 x4 x5 x6 x7 x8 x9 x10 x11 x12 x13 x14 x15 x16 x17 x18 x19 x20 x21 x22 x23 x24 x25 x26 x27 x28
   show S R c1 c2 c3 c4 c5 c6 c7 κ (G R c1 c2 c3 c4 c5 c6 c7 κ f) 14 _ = _
   rw [EH, ih0]
   rfl
theorem g5 (κ : KT R) (f : Nat) : q5 (G R c1 c2 c3 c4 c5 c6 c7 κ f) = L5 c1 c2 c3 c4 c5 c6 c7 (K0 κ) (K1 κ) f := (BM R c1 c2 c3 c4 c5 c6 c7 κ f).1
theorem g8 (κ : KT R) (f : Nat) : q8 (G R c1 c2 c3 c4 c5 c6 c7 κ f) = L8 c1 c2 c3 c4 c5 c6 c7 (K0 κ) (K1 κ) f := (BM R c1 c2 c3 c4 c5 c6 c7 κ f).2.1
theorem g14 (κ : KT R) (f : Nat) : DW (G R c1 c2 c3 c4 c5 c6 c7 κ f) = DQ c1 c2 c3 c4 c5 c6 c7 (K0 κ) (K1 κ) f := (BM R c1 c2 c3 c4 c5 c6 c7 κ f).2.2
theorem g2 (κ : KT R) : ∀ (f : Nat), q2 (G R c1 c2 c3 c4 c5 c6 c7 κ f) = L2 c1 c2 c3 c4 c5 c6 c7 (K0 κ) (K1 κ) f
 | 0 => rfl
 | f + 1 => by
  funext x0 x1 x2 x3 x4 x5 x6 x7 x8 x9 x10 x11 x12 x13 x14 x15 x16 x17 x18 x19 x20 x21 x22 x23 x24 x25
  show S R c1 c2 c3 c4 c5 c6 c7 κ (G R c1 c2 c3 c4 c5 c6 c7 κ f) 2 _ = _
  rw [k2, g5 R c1 c2 c3 c4 c5 c6 c7 κ f, g15 R c1 c2 c3 c4 c5 c6 c7 κ f]
  rfl
end
theorem ac {R : Type} (tab : bO) (ht : av tab) (n : Nat) (ih : ∀ (a0 a1 a2 a3 a4 a5 a6 a7 a8 a9 a10 a11 a12 a13 a14 a15 a16 a17 a18 a19 a20 a21 a22 a23 a24 : _) (κ : KT R), aa Tryz.prog (ae bj) tab 49 [.vp 94 [.str a0, .int .i64 a1], .vp 32 [.str a2, .str a3, .str a4, .ro 129 a5 true, .bool a6, .str a7, .bool a8, .str a9, .bool a10, .str a11, .bool a12, .str a13, .ro 129 a14 true, .ro 9 a15 true, .bool a16, .str a17, .int .i64 a18, .int .i64 a19, .int .i64 a20, .int .i64 a21, .int .i64 a22, .nil], .int .i64 a23, .bool a24] κ (ai.R n a0 a1 a2 a3 a4 a5 a6 a7 a8 a9 a10 a11 a12 a13 a14 a15 a16 a17 a18 a19 a20 a21 a22 a23 a24 (K0 κ) (K1 κ))) (g : Nat) : bL (R := R) Tryz.prog (ae bj) tab g ((C R aB aA bC aI bI az (ai.R n)).call g) := by
 refine aD fun xs κ => ?_
 show aa _ _ _ g xs κ (Γ R aB aA bC aI bI az (ai.R n) g xs κ)
 unfold Γ
 split
 ·split
  ·exact aA.aE tab ht _ _ _ _ _ κ
  ·exact aa.none
 ·split
  ·exact ih _ _ _ _ _ _ _ _ _ _ _ _ _ _ _ _ _ _ _ _ _ _ _ _ _ κ
  ·exact aa.none
 ·split
  ·exact aI.aE tab ht _ _ _ _ _ _ _ _ _ _ _ _ _ _ _ _ _ _ _ _ _ _ κ
  ·exact az.aE tab ht _ _ _ _ _ _ _ _ _ _ _ _ _ _ _ _ _ _ _ _ _ _ κ
  ·exact aa.none
 ·split
  ·exact aB.aE tab ht _ _ _ _ _ _ _ _ _ _ _ _ _ _ _ _ _ _ _ _ _ _ _ κ
  ·exact aa.none
 ·split
  ·exact bI.aE tab ht _ _ _ _ _ _ _ _ _ _ _ _ _ _ _ _ _ _ _ _ _ _ _ _ _ κ
  ·exact aa.none
 ·split
  ·exact bC.aE tab ht _ _ κ
  ·exact aa.none
 ·exact aa.none
theorem fA {R : Type} (tab : bO) (ht : av tab) : ∀ (n : Nat) (a0 a1 a2 a3 a4 a5 a6 a7 a8 a9 a10 a11 a12 a13 a14 a15 a16 a17 a18 a19 a20 a21 a22 a23 a24 : _) (κ : KT R), aa Tryz.prog (ae bj) tab 49 [.vp 94 [.str a0, .int .i64 a1], .vp 32 [.str a2, .str a3, .str a4, .ro 129 a5 true, .bool a6, .str a7, .bool a8, .str a9, .bool a10, .str a11, .bool a12, .str a13, .ro 129 a14 true, .ro 9 a15 true, .bool a16, .str a17, .int .i64 a18, .int .i64 a19, .int .i64 a20, .int .i64 a21, .int .i64 a22, .nil], .int .i64 a23, .bool a24] κ (ai.R n a0 a1 a2 a3 a4 a5 a6 a7 a8 a9 a10 a11 a12 a13 a14 a15 a16 a17 a18 a19 a20 a21 a22 a23 a24 (K0 κ) (K1 κ))
 | 0, _, _, _, _, _, _, _, _, _, _, _, _, _, _, _, _, _, _, _, _, _, _, _, _, _, _ => aa.none
 | n + 1, a0, a1, a2, a3, a4, a5, a6, a7, a8, a9, a10, a11, a12, a13, a14, a15, a16, a17, a18, a19, a20, a21, a22, a23, a24, κ => ah (C := C R aB aA bC aI bI az (ai.R n)) (fn := Tryz.f49) cd (ac tab ht n (fA tab ht n)) (by kernel_rfl) (by kernel_rfl) (show _ = B aB aA bC aI bI az (ai.R n) a0 a1 a2 a3 a4 a5 a6 a7 a8 a9 a10 a11 a12 a13 a14 a15 a16 a17 a18 a19 a20 a21 a22 a23 a24 (K0 κ) (K1 κ) by rw [k]; rw [g2 R aB aA bC aI bI az (ai.R n) κ ag, g5 R aB aA bC aI bI az (ai.R n) κ ag, g8 R aB aA bC aI bI az (ai.R n) κ ag, g14 R aB aA bC aI bI az (ai.R n) κ ag, g15 R aB aA bC aI bI az (ai.R n) κ ag]; rfl)
theorem aE {R : Type} (tab : bO) (ht : av tab) (a0 a1 a2 a3 a4 a5 a6 a7 a8 a9 a10 a11 a12 a13 a14 a15 a16 a17 a18 a19 a20 a21 a22 a23 a24 : _) (κ : KT R) : aa Tryz.prog (ae bj) tab 49 [.vp 94 [.str a0, .int .i64 a1], .vp 32 [.str a2, .str a3, .str a4, .ro 129 a5 true, .bool a6, .str a7, .bool a8, .str a9, .bool a10, .str a11, .bool a12, .str a13, .ro 129 a14 true, .ro 9 a15 true, .bool a16, .str a17, .int .i64 a18, .int .i64 a19, .int .i64 a20, .int .i64 a21, .int .i64 a22, .nil], .int .i64 a23, .bool a24] κ (ai a0 a1 a2 a3 a4 a5 a6 a7 a8 a9 a10 a11 a12 a13 a14 a15 a16 a17 a18 a19 a20 a21 a22 a23 a24 (K0 κ) (K1 κ)) := fA tab ht ag a0 a1 a2 a3 a4 a5 a6 a7 a8 a9 a10 a11 a12 a13 a14 a15 a16 a17 a18 a19 a20 a21 a22 a23 a24 κ
end ai
namespace ch
abbrev K0 {R : Type} (κ : KT R) : Q0 R := fun r0 r1 r2 r3 r4 r5 r6 r7 r8 r9 r10 r11 r12 r13 r14 r15 r16 r17 r18 r19 r20 r21 => κ [.agg [.str r0, .str r1, .str r2, .ro 129 r3 true, .bool r4, .str r5, .bool r6, .str r7, .bool r8, .str r9, .bool r10, .str r11, .ro 129 r12 true, .ro 9 r13 true, .bool r14, .str r15, .int .i64 r16, .int .i64 r17, .int .i64 r18, .int .i64 r19, .int .i64 r20, .ro 32 r21 true]]
section
variable (R : Type) (c1 : aA.F R) (c2 : ai.F R)
def Γ (g : Nat) (xs : List SV) (κ : KT R) : Option R :=
 match g with
 | 48 => (match xs with
  | [.vp 94 [.str a0, .int .i64 a1], .agg [.int .i64 a2, .int .i64 a3], .bool a4] => c1 a0 a1 a2 a3 a4 (aA.K0 κ)
  | _ => none)
 | 49 => (match xs with
  | [.vp 94 [.str a0, .int .i64 a1], .vp 32 [.str a2, .str a3, .str a4, .ro 129 a5 true, .bool a6, .str a7, .bool a8, .str a9, .bool a10, .str a11, .bool a12, .str a13, .ro 129 a14 true, .ro 9 a15 true, .bool a16, .str a17, .int .i64 a18, .int .i64 a19, .int .i64 a20, .int .i64 a21, .int .i64 a22, .nil], .int .i64 a23, .bool a24] => c2 a0 a1 a2 a3 a4 a5 a6 a7 a8 a9 a10 a11 a12 a13 a14 a15 a16 a17 a18 a19 a20 a21 a22 a23 a24 (ai.K0 κ) (ai.K1 κ)
  | _ => none)
 | _ => none
def h (n : Nat) : Option (List (Nat × List (Nat × Nat))) :=
 match n with
 | 4 => some [(2, [(0, 0)]), (4, [(3, 131), (3, 1), (12, 131), (12, 1), (13, 11), (13, 1), (21, 34), (21, 1)])]
 | _ => none
def C : Cfg R := ⟨ae bj, Γ R c1 c2, fun _ => false, h, 0, fun _ => false⟩
noncomputable def S := S0 (C R c1 c2) Tryz.f14 0
noncomputable def G := G0 (C R c1 c2) Tryz.f14 0
def s4 := fun x0 x1 x2 x3 x4 x5 x6 x7 x8 x9 x10 x11 x12 x13 x14 x15 x16 x17 x18 x19 x20 x21 x22 x23 x24 x25 x26 x27 x28 x29 x30 x31 x32 x33 x34 x35 x36 x37 x38 x39 => (⟨dZ 16 [(2, .ptr 255 0), (4, .ptr 383 0)], [(255, .var 32 [.str x0, .str x1, .str x2, .nil, .bool x3, .str x4, .bool x5, .str x6, .bool x7, .str x8, .bool x9, .str x10, .nil, .nil, .bool x11, .str x12, .int .i64 x13, .int .i64 x14, .int .i64 x15, .int .i64 x16, .int .i64 x17, .nil]), (383, .var 32 [.str x18, .str x19, .str x20, .ro 129 x21 true, .bool x22, .str x23, .bool x24, .str x25, .bool x26, .str x27, .bool x28, .str x29, .ro 129 x30 true, .ro 9 x31 true, .bool x32, .str x33, .int .i64 x34, .int .i64 x35, .int .i64 x36, .int .i64 x37, .int .i64 x38, .ro 32 x39 true])], dW⟩ : St)
noncomputable abbrev q4 {R : Type} (J : JT R) : J4 R := fun x0 x1 x2 x3 x4 x5 x6 x7 x8 x9 x10 x11 x12 x13 x14 x15 x16 x17 x18 x19 x20 x21 x22 x23 x24 x25 x26 x27 x28 x29 x30 x31 x32 x33 x34 x35 x36 x37 x38 x39 => J (placeOf Tryz.f14 4) (s4 x0 x1 x2 x3 x4 x5 x6 x7 x8 x9 x10 x11 x12 x13 x14 x15 x16 x17 x18 x19 x20 x21 x22 x23 x24 x25 x26 x27 x28 x29 x30 x31 x32 x33 x34 x35 x36 x37 x38 x39)
theorem k4 (J : JT R) (κ : KT R) (x0 x1 x2 x3 x4 x5 x6 x7 x8 x9 x10 x11 x12 x13 x14 x15 x16 x17 x18 x19 x20 x21 x22 x23 x24 x25 x26 x27 x28 x29 x30 x31 x32 x33 x34 x35 x36 x37 x38 x39 : _) : S R c1 c2 κ J 4 (s4 x0 x1 x2 x3 x4 x5 x6 x7 x8 x9 x10 x11 x12 x13 x14 x15 x16 x17 x18 x19 x20 x21 x22 x23 x24 x25 x26 x27 x28 x29 x30 x31 x32 x33 x34 x35 x36 x37 x38 x39) = t4 (K0 κ) x0 x1 x2 x3 x4 x5 x6 x7 x8 x9 x10 x11 x12 x13 x14 x15 x16 x17 x18 x19 x20 x21 x22 x23 x24 x25 x26 x27 x28 x29 x30 x31 x32 x33 x34 x35 x36 x37 x38 x39 := by kernel_rfl
theorem k (κ : KT R) (k : Nat) (a0 : _) : b8 (C R c1 c2) Tryz.f14 10000 k [.str a0] κ = ch.e c1 c2 a0 (q4 (G R c1 c2 κ k)) (K0 κ) := by kernel_rfl
theorem g4 (κ : KT R) : ∀ (f : Nat), q4 (G R c1 c2 κ f) = L4 c1 c2 (K0 κ) f
 | 0 => rfl
 | f + 1 => by
  funext x0 x1 x2 x3 x4 x5 x6 x7 x8 x9 x10 x11 x12 x13 x14 x15 x16 x17 x18 x19 x20 x21 x22 x23 x24 x25 x26 x27 x28 x29 x30 x31 x32 x33 x34 x35 x36 x37 x38 x39
  show S R c1 c2 κ (G R c1 c2 κ f) 4 _ = _
  rw [k4]
  rfl
end
theorem ac {R : Type} (tab : bO) (ht : av tab) (g : Nat) : bL (R := R) Tryz.prog (ae bj) tab g ((C R aA ai).call g) := by
 refine aD fun xs κ => ?_
 show aa _ _ _ g xs κ (Γ R aA ai g xs κ)
 unfold Γ
 split
 ·split
  ·exact aA.aE tab ht _ _ _ _ _ κ
  ·exact aa.none
 ·split
  ·exact ai.aE tab ht _ _ _ _ _ _ _ _ _ _ _ _ _ _ _ _ _ _ _ _ _ _ _ _ _ κ
  ·exact aa.none
 ·exact aa.none
theorem aE {R : Type} (tab : bO) (ht : av tab) (a0 : _) (κ : KT R) : aa Tryz.prog (ae bj) tab 14 [.str a0] κ (ch a0 (K0 κ)) := ah (C := C R aA ai) (fn := Tryz.f14) cd (ac tab ht) (by kernel_rfl) (by kernel_rfl) (by rw [k]; rw [g4 R aA ai κ ag]; rfl)
end ch
namespace dk
abbrev K0 {R : Type} (κ : KT R) : BA -> Option R := fun r0 => κ [.str r0]
section
variable (R : Type)
def Γ (g : Nat) (xs : List SV) (κ : KT R) : Option R :=
 match g with
 | _ => none
def h (n : Nat) : Option (List (Nat × List (Nat × Nat))) :=
 match n with
 | _ => none
def C : Cfg R := ⟨ae bj, Γ R, fun _ => false, h, 0, fun _ => false⟩
theorem k (κ : KT R) (k : Nat) (a0 a1 a2 : _) : b8 (C R) Tryz.f46 10000 k [.str a0, .int .i64 a1, .int .i64 a2] κ = dk.e a0 a1 a2 (K0 κ) := by kernel_rfl
end
theorem ac {R : Type} (tab : bO) (ht : av tab) (g : Nat) : bL (R := R) Tryz.prog (ae bj) tab g ((C R).call g) := by
 refine aD fun xs κ => ?_
 show aa _ _ _ g xs κ (Γ R g xs κ)
 unfold Γ
 split
 ·exact aa.none
theorem aE {R : Type} (tab : bO) (ht : av tab) (a0 a1 a2 : _) (κ : KT R) : aa Tryz.prog (ae bj) tab 46 [.str a0, .int .i64 a1, .int .i64 a2] κ (dk a0 a1 a2 (K0 κ)) := ah (C := C R) (fn := Tryz.f46) cd (ac tab ht) (by kernel_rfl) (by kernel_rfl) (by rw [k]; rfl)
end dk
namespace dL
abbrev K0 {R : Type} (κ : KT R) : Bool -> Option R := fun r0 => κ [.bool r0]
section
variable (R : Type) (c1 : ch.F R) (c2 : dk.F R)
def Γ (g : Nat) (xs : List SV) (κ : KT R) : Option R :=
 match g with
 | 14 => (match xs with
  | [.str a0] => c1 a0 (ch.K0 κ)
  | _ => none)
 | 46 => (match xs with
  | [.str a0, .int .i64 a1, .int .i64 a2] => c2 a0 a1 a2 (dk.K0 κ)
  | _ => none)
 | _ => none
def h (n : Nat) : Option (List (Nat × List (Nat × Nat))) :=
 match n with
 | _ => none
def C : Cfg R := ⟨ae bj, Γ R c1 c2, fun _ => false, h, 0, fun _ => false⟩
theorem k (κ : KT R) (k : Nat) : b8 (C R c1 c2) Tryz.f12 10000 k [] κ = dL.e c1 c2 (K0 κ) := by kernel_rfl
end
theorem ac {R : Type} (tab : bO) (ht : av tab) (g : Nat) : bL (R := R) Tryz.prog (ae bj) tab g ((C R ch dk).call g) := by
 refine aD fun xs κ => ?_
 show aa _ _ _ g xs κ (Γ R ch dk g xs κ)
 unfold Γ
 split
 ·split
  ·exact ch.aE tab ht _ κ
  ·exact aa.none
 ·split
  ·exact dk.aE tab ht _ _ _ κ
  ·exact aa.none
 ·exact aa.none
theorem aE {R : Type} (tab : bO) (ht : av tab) (κ : KT R) : aa Tryz.prog (ae bj) tab 12 [] κ (dL (K0 κ)) := ah (C := C R ch dk) (fn := Tryz.f12) cd (ac tab ht) (by kernel_rfl) (by kernel_rfl) (by rw [k]; rfl)
end dL
namespace bp
abbrev K0 {R : Type} (κ : KT R) : LA -> Option R := fun r0 => κ [.fr 9 r0 true]
section
variable (R : Type)
def Γ (g : Nat) (xs : List SV) (κ : KT R) : Option R :=
 match g with
 | _ => none
def h (n : Nat) : Option (List (Nat × List (Nat × Nat))) :=
 match n with
 | 4 => some [(0, [(0, 0)]), (3, [(0, 11)]), (4, [(0, 0)]), (5, [(0, 0)])]
 | _ => none
def C : Cfg R := ⟨ae bj, Γ R, fun _ => false, h, 0, fun _ => false⟩
noncomputable def S := S0 (C R) Tryz.f142 0
noncomputable def G := G0 (C R) Tryz.f142 0
def s4 := fun x0 x1 x2 x3 => (⟨dZ 47 [(0, .str x0), (3, .own 256), (4, .int .i64 x1), (5, .int .i64 x2)], [(256, .row 9 x3 true)], dW⟩ : St)
noncomputable abbrev q4 {R : Type} (J : JT R) : J4 R := fun x0 x1 x2 x3 => J (placeOf Tryz.f142 4) (s4 x0 x1 x2 x3)
theorem k4 (J : JT R) (κ : KT R) (x0 x1 x2 x3 : _) : S R κ J 4 (s4 x0 x1 x2 x3) = t4 (q4 J) (K0 κ) x0 x1 x2 x3 := by kernel_rfl
theorem k (κ : KT R) (k : Nat) (a0 : _) : b8 (C R) Tryz.f142 10000 k [.str a0] κ = bp.e a0 (q4 (G R κ k)) (K0 κ) := by kernel_rfl
theorem g4 (κ : KT R) : ∀ (f : Nat), q4 (G R κ f) = L4 (K0 κ) f
 | 0 => rfl
 | f + 1 => by
  funext x0 x1 x2 x3
  show S R κ (G R κ f) 4 _ = _
  rw [k4, g4 κ f]
  rfl
end
theorem ac {R : Type} (tab : bO) (ht : av tab) (g : Nat) : bL (R := R) Tryz.prog (ae bj) tab g ((C R).call g) := by
 refine aD fun xs κ => ?_
 show aa _ _ _ g xs κ (Γ R g xs κ)
 unfold Γ
 split
 ·exact aa.none
theorem aE {R : Type} (tab : bO) (ht : av tab) (a0 : _) (κ : KT R) : aa Tryz.prog (ae bj) tab 142 [.str a0] κ (bp a0 (K0 κ)) := ah (C := C R) (fn := Tryz.f142) cd (ac tab ht) (by kernel_rfl) (by kernel_rfl) (by rw [k]; rw [g4 R κ ag]; rfl)
end bp
namespace cf
abbrev K0 {R : Type} (κ : KT R) : BA -> BA -> Option R := fun r0 r1 => κ [.tup [.str r0, .str r1]]
section
variable (R : Type) (c1 : bp.F R)
def Γ (g : Nat) (xs : List SV) (κ : KT R) : Option R :=
 match g with
 | 142 => (match xs with
  | [.str a0] => c1 a0 (bp.K0 κ)
  | _ => none)
 | _ => none
def h (n : Nat) : Option (List (Nat × List (Nat × Nat))) :=
 match n with
 | 4 => some [(0, [(0, 0)]), (4, [(0, 0)]), (5, [(0, 0)]), (6, [(0, 0)])]
 | _ => none
def C : Cfg R := ⟨ae bj, Γ R c1, fun _ => false, h, 0, fun _ => false⟩
noncomputable def S := S0 (C R c1) Tryz.f97 0
noncomputable def G := G0 (C R c1) Tryz.f97 0
def s4 := fun x0 x1 x2 x3 => (⟨dZ 34 [(0, .str x0), (4, .int .i64 x1), (5, .own 384), (6, .int .i64 x2)], [(384, .row 9 x3 true)], dW⟩ : St)
noncomputable abbrev q4 {R : Type} (J : JT R) : J4 R := fun x0 x1 x2 x3 => J (placeOf Tryz.f97 4) (s4 x0 x1 x2 x3)
theorem k4 (J : JT R) (κ : KT R) (x0 x1 x2 x3 : _) : S R c1 κ J 4 (s4 x0 x1 x2 x3) = t4 (q4 J) (K0 κ) x0 x1 x2 x3 := by kernel_rfl
theorem k (κ : KT R) (k : Nat) (a0 : _) : b8 (C R c1) Tryz.f97 10000 k [.str a0] κ = cf.e c1 a0 (q4 (G R c1 κ k)) (K0 κ) := by kernel_rfl
theorem g4 (κ : KT R) : ∀ (f : Nat), q4 (G R c1 κ f) = L4 c1 (K0 κ) f
 | 0 => rfl
 | f + 1 => by
  funext x0 x1 x2 x3
  show S R c1 κ (G R c1 κ f) 4 _ = _
  rw [k4, g4 κ f]
  rfl
end
theorem ac {R : Type} (tab : bO) (ht : av tab) (g : Nat) : bL (R := R) Tryz.prog (ae bj) tab g ((C R bp).call g) := by
 refine aD fun xs κ => ?_
 show aa _ _ _ g xs κ (Γ R bp g xs κ)
 unfold Γ
 split
 ·split
  ·exact bp.aE tab ht _ κ
  ·exact aa.none
 ·exact aa.none
theorem aE {R : Type} (tab : bO) (ht : av tab) (a0 : _) (κ : KT R) : aa Tryz.prog (ae bj) tab 97 [.str a0] κ (cf a0 (K0 κ)) := ah (C := C R bp) (fn := Tryz.f97) cd (ac tab ht) (by kernel_rfl) (by kernel_rfl) (by rw [k]; rw [g4 R bp κ ag]; rfl)
end cf
namespace aL
abbrev K0 {R : Type} (κ : KT R) : Bool -> Option R := fun r0 => κ [.bool r0]
section
variable (R : Type)
def Γ (g : Nat) (xs : List SV) (κ : KT R) : Option R :=
 match g with
 | _ => none
def h (n : Nat) : Option (List (Nat × List (Nat × Nat))) :=
 match n with
 | _ => none
def C : Cfg R := ⟨ae bj, Γ R, fun _ => false, h, 0, fun _ => false⟩
theorem k (κ : KT R) (k : Nat) (a0 : _) : b8 (C R) Tryz.f154 10000 k [.int .u8 a0] κ = aL.e a0 (K0 κ) := by kernel_rfl
end
theorem ac {R : Type} (tab : bO) (ht : av tab) (g : Nat) : bL (R := R) Tryz.prog (ae bj) tab g ((C R).call g) := by
 refine aD fun xs κ => ?_
 show aa _ _ _ g xs κ (Γ R g xs κ)
 unfold Γ
 split
 ·exact aa.none
theorem aE {R : Type} (tab : bO) (ht : av tab) (a0 : _) (κ : KT R) : aa Tryz.prog (ae bj) tab 154 [.int .u8 a0] κ (aL a0 (K0 κ)) := ah (C := C R) (fn := Tryz.f154) cd (ac tab ht) (by kernel_rfl) (by kernel_rfl) (by rw [k]; rfl)
end aL
namespace bF
abbrev K0 {R : Type} (κ : KT R) : Int -> Int -> Option R := fun r0 r1 => κ [.tup [.int .i64 r0, .int .i64 r1]]
section
variable (R : Type) (c1 : aL.F R)
def Γ (g : Nat) (xs : List SV) (κ : KT R) : Option R :=
 match g with
 | 154 => (match xs with
  | [.int .u8 a0] => c1 a0 (aL.K0 κ)
  | _ => none)
 | _ => none
def h (n : Nat) : Option (List (Nat × List (Nat × Nat))) :=
 match n with
 | 2 => some [(0, [(0, 0)]), (4, [(0, 0)])]
 | 5 => some [(0, [(0, 0)]), (4, [(0, 0)]), (5, [(0, 0)])]
 | _ => none
def C : Cfg R := ⟨ae bj, Γ R c1, fun _ => false, h, 0, fun _ => false⟩
noncomputable def S := S0 (C R c1) Tryz.f155 0
noncomputable def G := G0 (C R c1) Tryz.f155 0
def s2 := fun x0 x1 => (⟨dZ 59 [(0, .str x0), (4, .int .i64 x1)], [], dW⟩ : St)
def s5 := fun x0 x1 x2 => (⟨dZ 59 [(0, .str x0), (4, .int .i64 x1), (5, .int .i64 x2)], [], dW⟩ : St)
noncomputable abbrev q2 {R : Type} (J : JT R) : BA -> Int -> Option R := fun x0 x1 => J (placeOf Tryz.f155 2) (s2 x0 x1)
noncomputable abbrev q5 {R : Type} (J : JT R) : J5 R := fun x0 x1 x2 => J (placeOf Tryz.f155 5) (s5 x0 x1 x2)
theorem k2 (J : JT R) (κ : KT R) (x0 x1 : _) : S R c1 κ J 2 (s2 x0 x1) = t2 (q2 J) (q5 J) x0 x1 := by kernel_rfl
theorem k5 (J : JT R) (κ : KT R) (x0 x1 x2 : _) : S R c1 κ J 5 (s5 x0 x1 x2) = t5 c1 (q5 J) (K0 κ) x0 x1 x2 := by kernel_rfl
theorem k (κ : KT R) (k : Nat) (a0 : _) : b8 (C R c1) Tryz.f155 10000 k [.str a0] κ = bF.e c1 a0 (q2 (G R c1 κ k)) (q5 (G R c1 κ k)) (K0 κ) := by kernel_rfl
theorem g5 (κ : KT R) : ∀ (f : Nat), q5 (G R c1 κ f) = L5 c1 (K0 κ) f
 | 0 => rfl
 | f + 1 => by
  funext x0 x1 x2
  show S R c1 κ (G R c1 κ f) 5 _ = _
  rw [k5, g5 κ f]
  rfl
theorem g2 (κ : KT R) : ∀ (f : Nat), q2 (G R c1 κ f) = L2 c1 (K0 κ) f
 | 0 => rfl
 | f + 1 => by
  funext x0 x1
  show S R c1 κ (G R c1 κ f) 2 _ = _
  rw [k2, g2 κ f, g5 R c1 κ f]
  rfl
end
theorem ac {R : Type} (tab : bO) (ht : av tab) (g : Nat) : bL (R := R) Tryz.prog (ae bj) tab g ((C R aL).call g) := by
 refine aD fun xs κ => ?_
 show aa _ _ _ g xs κ (Γ R aL g xs κ)
 unfold Γ
 split
 ·split
  ·exact aL.aE tab ht _ κ
  ·exact aa.none
 ·exact aa.none
theorem aE {R : Type} (tab : bO) (ht : av tab) (a0 : _) (κ : KT R) : aa Tryz.prog (ae bj) tab 155 [.str a0] κ (bF a0 (K0 κ)) := ah (C := C R aL) (fn := Tryz.f155) cd (ac tab ht) (by kernel_rfl) (by kernel_rfl) (by rw [k]; rw [g2 R aL κ ag, g5 R aL κ ag]; rfl)
end bF
namespace cA
abbrev K0 {R : Type} (κ : KT R) : BA -> Option R := fun r0 => κ [.str r0]
section
variable (R : Type)
def Γ (g : Nat) (xs : List SV) (κ : KT R) : Option R :=
 match g with
 | _ => none
def h (n : Nat) : Option (List (Nat × List (Nat × Nat))) :=
 match n with
 | _ => none
def C : Cfg R := ⟨ae bj, Γ R, fun _ => false, h, 0, fun _ => false⟩
theorem k (κ : KT R) (k : Nat) (a0 : _) : b8 (C R) Tryz.f117 10000 k [.str a0] κ = cA.e a0 (K0 κ) := by kernel_rfl
end
theorem ac {R : Type} (tab : bO) (ht : av tab) (g : Nat) : bL (R := R) Tryz.prog (ae bj) tab g ((C R).call g) := by
 refine aD fun xs κ => ?_
 show aa _ _ _ g xs κ (Γ R g xs κ)
 unfold Γ
 split
 ·exact aa.none
theorem aE {R : Type} (tab : bO) (ht : av tab) (a0 : _) (κ : KT R) : aa Tryz.prog (ae bj) tab 117 [.str a0] κ (cA a0 (K0 κ)) := ah (C := C R) (fn := Tryz.f117) cd (ac tab ht) (by kernel_rfl) (by kernel_rfl) (by rw [k]; rfl)
end cA
namespace cn
abbrev K0 {R : Type} (κ : KT R) : LA -> Option R := fun r0 => κ [.fr 168 r0 true]
section
variable (R : Type) (c1 : bp.F R) (c2 : aL.F R) (c3 : cA.F R) (c4 : bF.F R)
def Γ (g : Nat) (xs : List SV) (κ : KT R) : Option R :=
 match g with
 | 117 => (match xs with
  | [.str a0] => c3 a0 (cA.K0 κ)
  | _ => none)
 | 142 => (match xs with
  | [.str a0] => c1 a0 (bp.K0 κ)
  | _ => none)
 | 154 => (match xs with
  | [.int .u8 a0] => c2 a0 (aL.K0 κ)
  | _ => none)
 | 155 => (match xs with
  | [.str a0] => c4 a0 (bF.K0 κ)
  | _ => none)
 | _ => none
def h (n : Nat) : Option (List (Nat × List (Nat × Nat))) :=
 match n with
 | 4 => some [(3, [(0, 170)]), (4, [(0, 0)]), (5, [(0, 0)])]
 | 5 => some [(3, [(0, 0)]), (4, [(0, 0)]), (5, [(0, 0)])]
 | 11 => some [(3, [(0, 0)]), (4, [(0, 0)]), (5, [(0, 0)]), (6, [(0, 0)])]
 | _ => none
def C : Cfg R := ⟨ae bj, Γ R c1 c2 c3 c4, fun _ => false, h, 0, fun _ => false⟩
noncomputable def S := S0 (C R c1 c2 c3 c4) Tryz.f115 0
noncomputable def G := G0 (C R c1 c2 c3 c4) Tryz.f115 0
def s4 := fun x0 x1 x2 => (⟨dZ 93 [(3, .own 256), (4, .own 320), (5, .int .i64 x0)], [(256, .row 168 x1 true), (320, .row 9 x2 true)], dW⟩ : St)
def s5 := fun x0 x1 x2 => (⟨dZ 93 [(3, .own 256), (4, .own 320), (5, .int .i64 x0)], [(256, .row 168 x1 true), (320, .row 9 x2 true)], dW⟩ : St)
def B8 := fun x0 x1 x2 x3 => (⟨dZ 93 [(3, .own 256), (4, .own 320), (5, .int .i64 x0), (6, .str x1)], [(256, .row 168 x2 true), (320, .row 9 x3 true)], dW⟩ : St)
noncomputable abbrev q4 {R : Type} (J : JT R) : J4 R := fun x0 x1 x2 => J (placeOf Tryz.f115 4) (s4 x0 x1 x2)
noncomputable abbrev q5 {R : Type} (J : JT R) : J5 R := fun x0 x1 x2 => J (placeOf Tryz.f115 5) (s5 x0 x1 x2)
noncomputable abbrev yt {R : Type} (J : JT R) : sd R := fun x0 x1 x2 x3 => J (placeOf Tryz.f115 11) (B8 x0 x1 x2 x3)
theorem k4 (J : JT R) (κ : KT R) (x0 x1 x2 : _) : S R c1 c2 c3 c4 κ J 4 (s4 x0 x1 x2) = t4 c2 c3 (q5 J) (yt J) (K0 κ) x0 x1 x2 := by kernel_rfl
theorem k5 (J : JT R) (κ : KT R) (x0 x1 x2 : _) : S R c1 c2 c3 c4 κ J 5 (s5 x0 x1 x2) = t5 (q4 J) x0 x1 x2 := by kernel_rfl
theorem Dx (J : JT R) (κ : KT R) (x0 x1 x2 x3 : _) : S R c1 c2 c3 c4 κ J 11 (B8 x0 x1 x2 x3) = t11 c2 c3 c4 (q5 J) x0 x1 x2 x3 := by kernel_rfl
theorem k (κ : KT R) (k : Nat) (a0 : _) : b8 (C R c1 c2 c3 c4) Tryz.f115 10000 k [.str a0] κ = cn.e c1 c2 c3 c4 a0 (q4 (G R c1 c2 c3 c4 κ k)) (q5 (G R c1 c2 c3 c4 κ k)) (yt (G R c1 c2 c3 c4 κ k)) (K0 κ) := by kernel_rfl
theorem AB (κ : KT R) : ∀ (f : Nat), (q4 (G R c1 c2 c3 c4 κ f) = L4 c1 c2 c3 c4 (K0 κ) f) /\ (q5 (G R c1 c2 c3 c4 κ f) = L5 c1 c2 c3 c4 (K0 κ) f) /\ (yt (G R c1 c2 c3 c4 κ f) = qS c1 c2 c3 c4 (K0 κ) f)
 | 0 => ⟨rfl, rfl, rfl⟩
 | f + 1 => by
  obtain ⟨ih0, ih1, ih2⟩ := AB κ f
  refine ⟨?_, ?_, ?_⟩
  ·funext x0 x1 x2
   show S R c1 c2 c3 c4 κ (G R c1 c2 c3 c4 κ f) 4 _ = _
   rw [k4, ih1, ih2]
   rfl
  ·funext x0 x1 x2
   show S R c1 c2 c3 c4 κ (G R c1 c2 c3 c4 κ f) 5 _ = _
   rw [k5, ih0]
   rfl
  ·funext x0 x1 x2 x3
   show S R c1 c2 c3 c4 κ (G R c1 c2 c3 c4 κ f) 11 _ = _
   rw [Dx, ih1]
   rfl
theorem g4 (κ : KT R) (f : Nat) : q4 (G R c1 c2 c3 c4 κ f) = L4 c1 c2 c3 c4 (K0 κ) f := (AB R c1 c2 c3 c4 κ f).1
theorem g5 (κ : KT R) (f : Nat) : q5 (G R c1 c2 c3 c4 κ f) = L5 c1 c2 c3 c4 (K0 κ) f := (AB R c1 c2 c3 c4 κ f).2.1
theorem g11 (κ : KT R) (f : Nat) : yt (G R c1 c2 c3 c4 κ f) = qS c1 c2 c3 c4 (K0 κ) f := (AB R c1 c2 c3 c4 κ f).2.2
end
theorem ac {R : Type} (tab : bO) (ht : av tab) (g : Nat) : bL (R := R) Tryz.prog (ae bj) tab g ((C R bp aL cA bF).call g) := by
 refine aD fun xs κ => ?_
 show aa _ _ _ g xs κ (Γ R bp aL cA bF g xs κ)
 unfold Γ
 split
 ·split
  ·exact cA.aE tab ht _ κ
  ·exact aa.none
 ·split
  ·exact bp.aE tab ht _ κ
  ·exact aa.none
 ·split
  ·exact aL.aE tab ht _ κ
  ·exact aa.none
 ·split
  ·exact bF.aE tab ht _ κ
  ·exact aa.none
 ·exact aa.none
theorem aE {R : Type} (tab : bO) (ht : av tab) (a0 : _) (κ : KT R) : aa Tryz.prog (ae bj) tab 115 [.str a0] κ (cn a0 (K0 κ)) := ah (C := C R bp aL cA bF) (fn := Tryz.f115) cd (ac tab ht) (by kernel_rfl) (by kernel_rfl) (by rw [k]; rw [g4 R bp aL cA bF κ ag, g5 R bp aL cA bF κ ag, g11 R bp aL cA bF κ ag]; rfl)
end cn
namespace cF
abbrev K0 {R : Type} (κ : KT R) : BA -> Option R := fun r0 => κ [.str r0]
section
variable (R : Type) (c1 : aL.F R)
def Γ (g : Nat) (xs : List SV) (κ : KT R) : Option R :=
 match g with
 | 154 => (match xs with
  | [.int .u8 a0] => c1 a0 (aL.K0 κ)
  | _ => none)
 | _ => none
def h (n : Nat) : Option (List (Nat × List (Nat × Nat))) :=
 match n with
 | 1 => some [(0, [(0, 0)])]
 | 3 => some [(0, [(0, 0)])]
 | _ => none
def C : Cfg R := ⟨ae bj, Γ R c1, fun _ => false, h, 0, fun _ => false⟩
noncomputable def S := S0 (C R c1) Tryz.f126 0
noncomputable def G := G0 (C R c1) Tryz.f126 0
def s1 := fun x0 => (⟨dZ 30 [(0, .str x0)], [], dW⟩ : St)
def s3 := fun x0 => (⟨dZ 30 [(0, .str x0)], [], dW⟩ : St)
noncomputable abbrev q1 {R : Type} (J : JT R) : BA -> Option R := fun x0 => J (placeOf Tryz.f126 1) (s1 x0)
noncomputable abbrev q3 {R : Type} (J : JT R) : BA -> Option R := fun x0 => J (placeOf Tryz.f126 3) (s3 x0)
theorem k1 (J : JT R) (κ : KT R) (x0 : _) : S R c1 κ J 1 (s1 x0) = t1 c1 (q1 J) (q3 J) x0 := by kernel_rfl
theorem k3 (J : JT R) (κ : KT R) (x0 : _) : S R c1 κ J 3 (s3 x0) = t3 c1 (q3 J) (K0 κ) x0 := by kernel_rfl
theorem k (κ : KT R) (k : Nat) (a0 : _) : b8 (C R c1) Tryz.f126 10000 k [.str a0] κ = cF.e c1 a0 (q1 (G R c1 κ k)) (q3 (G R c1 κ k)) (K0 κ) := by kernel_rfl
theorem g3 (κ : KT R) : ∀ (f : Nat), q3 (G R c1 κ f) = L3 c1 (K0 κ) f
 | 0 => rfl
 | f + 1 => by
  funext x0
  show S R c1 κ (G R c1 κ f) 3 _ = _
  rw [k3, g3 κ f]
  rfl
theorem g1 (κ : KT R) : ∀ (f : Nat), q1 (G R c1 κ f) = L1 c1 (K0 κ) f
 | 0 => rfl
 | f + 1 => by
  funext x0
  show S R c1 κ (G R c1 κ f) 1 _ = _
  rw [k1, g1 κ f, g3 R c1 κ f]
  rfl
end
theorem ac {R : Type} (tab : bO) (ht : av tab) (g : Nat) : bL (R := R) Tryz.prog (ae bj) tab g ((C R aL).call g) := by
 refine aD fun xs κ => ?_
 show aa _ _ _ g xs κ (Γ R aL g xs κ)
 unfold Γ
 split
 ·split
  ·exact aL.aE tab ht _ κ
  ·exact aa.none
 ·exact aa.none
theorem aE {R : Type} (tab : bO) (ht : av tab) (a0 : _) (κ : KT R) : aa Tryz.prog (ae bj) tab 126 [.str a0] κ (cF a0 (K0 κ)) := ah (C := C R aL) (fn := Tryz.f126) cd (ac tab ht) (by kernel_rfl) (by kernel_rfl) (by rw [k]; rw [g1 R aL κ ag, g3 R aL κ ag]; rfl)
end cF
namespace bS
abbrev K0 {R : Type} (κ : KT R) : LA -> Option R := fun r0 => κ [.fr 168 r0 true]
section
variable (R : Type) (c1 : cn.F R) (c2 : cF.F R)
def Γ (g : Nat) (xs : List SV) (κ : KT R) : Option R :=
 match g with
 | 115 => (match xs with
  | [.str a0] => c1 a0 (cn.K0 κ)
  | _ => none)
 | 126 => (match xs with
  | [.str a0] => c2 a0 (cF.K0 κ)
  | _ => none)
 | _ => none
def h (n : Nat) : Option (List (Nat × List (Nat × Nat))) :=
 match n with
 | 4 => some [(3, [(0, 170)]), (4, [(0, 0)]), (5, [(0, 0)])]
 | _ => none
def C : Cfg R := ⟨ae bj, Γ R c1 c2, fun _ => false, h, 0, fun _ => false⟩
noncomputable def S := S0 (C R c1 c2) Tryz.f83 0
noncomputable def G := G0 (C R c1 c2) Tryz.f83 0
def s4 := fun x0 x1 x2 => (⟨dZ 39 [(3, .own 256), (4, .own 320), (5, .int .i64 x0)], [(256, .row 168 x1 true), (320, .row 168 x2 true)], dW⟩ : St)
noncomputable abbrev q4 {R : Type} (J : JT R) : J4 R := fun x0 x1 x2 => J (placeOf Tryz.f83 4) (s4 x0 x1 x2)
theorem k4 (J : JT R) (κ : KT R) (x0 x1 x2 : _) : S R c1 c2 κ J 4 (s4 x0 x1 x2) = t4 c2 (q4 J) (K0 κ) x0 x1 x2 := by kernel_rfl
theorem k (κ : KT R) (k : Nat) (a0 : _) : b8 (C R c1 c2) Tryz.f83 10000 k [.str a0] κ = bS.e c1 c2 a0 (q4 (G R c1 c2 κ k)) (K0 κ) := by kernel_rfl
theorem g4 (κ : KT R) : ∀ (f : Nat), q4 (G R c1 c2 κ f) = L4 c1 c2 (K0 κ) f
 | 0 => rfl
 | f + 1 => by
  funext x0 x1 x2
  show S R c1 c2 κ (G R c1 c2 κ f) 4 _ = _
  rw [k4, g4 κ f]
  rfl
end
theorem ac {R : Type} (tab : bO) (ht : av tab) (g : Nat) : bL (R := R) Tryz.prog (ae bj) tab g ((C R cn cF).call g) := by
 refine aD fun xs κ => ?_
 show aa _ _ _ g xs κ (Γ R cn cF g xs κ)
 unfold Γ
 split
 ·split
  ·exact cn.aE tab ht _ κ
  ·exact aa.none
 ·split
  ·exact cF.aE tab ht _ κ
  ·exact aa.none
 ·exact aa.none
theorem aE {R : Type} (tab : bO) (ht : av tab) (a0 : _) (κ : KT R) : aa Tryz.prog (ae bj) tab 83 [.str a0] κ (bS a0 (K0 κ)) := ah (C := C R cn cF) (fn := Tryz.f83) cd (ac tab ht) (by kernel_rfl) (by kernel_rfl) (by rw [k]; rw [g4 R cn cF κ ag]; rfl)
end bS
namespace da
abbrev K0 {R : Type} (κ : KT R) : BA -> Option R := fun r0 => κ [.str r0]
section
variable (R : Type)
def Γ (g : Nat) (xs : List SV) (κ : KT R) : Option R :=
 match g with
 | _ => none
def h (n : Nat) : Option (List (Nat × List (Nat × Nat))) :=
 match n with
 | 3 => some [(0, [(0, 0)]), (3, [(0, 7)]), (4, [(0, 0)])]
 | _ => none
def C : Cfg R := ⟨ae bj, Γ R, fun _ => false, h, 0, fun _ => false⟩
noncomputable def S := S0 (C R) Tryz.f156 0
noncomputable def G := G0 (C R) Tryz.f156 0
def s3 := fun x0 x1 x2 => (⟨dZ 29 [(0, .str x0), (3, .own 256), (4, .int .i64 x1)], [(256, .row 5 x2 true)], dW⟩ : St)
noncomputable abbrev q3 {R : Type} (J : JT R) : J3 R := fun x0 x1 x2 => J (placeOf Tryz.f156 3) (s3 x0 x1 x2)
theorem k3 (J : JT R) (κ : KT R) (x0 x1 x2 : _) : S R κ J 3 (s3 x0 x1 x2) = t3 (q3 J) (K0 κ) x0 x1 x2 := by kernel_rfl
theorem k (κ : KT R) (k : Nat) (a0 : _) : b8 (C R) Tryz.f156 10000 k [.str a0] κ = da.e a0 (q3 (G R κ k)) (K0 κ) := by kernel_rfl
theorem g3 (κ : KT R) : ∀ (f : Nat), q3 (G R κ f) = L3 (K0 κ) f
 | 0 => rfl
 | f + 1 => by
  funext x0 x1 x2
  show S R κ (G R κ f) 3 _ = _
  rw [k3, g3 κ f]
  rfl
end
theorem ac {R : Type} (tab : bO) (ht : av tab) (g : Nat) : bL (R := R) Tryz.prog (ae bj) tab g ((C R).call g) := by
 refine aD fun xs κ => ?_
 show aa _ _ _ g xs κ (Γ R g xs κ)
 unfold Γ
 split
 ·exact aa.none
theorem aE {R : Type} (tab : bO) (ht : av tab) (a0 : _) (κ : KT R) : aa Tryz.prog (ae bj) tab 156 [.str a0] κ (da a0 (K0 κ)) := ah (C := C R) (fn := Tryz.f156) cd (ac tab ht) (by kernel_rfl) (by kernel_rfl) (by rw [k]; rw [g3 R κ ag]; rfl)
end da
namespace dn
abbrev K0 {R : Type} (κ : KT R) : Bool -> Option R := fun r0 => κ [.bool r0]
section
variable (R : Type) (c1 : da.F R)
def Γ (g : Nat) (xs : List SV) (κ : KT R) : Option R :=
 match g with
 | 156 => (match xs with
  | [.str a0] => c1 a0 (da.K0 κ)
  | _ => none)
 | _ => none
def h (n : Nat) : Option (List (Nat × List (Nat × Nat))) :=
 match n with
 | _ => none
def C : Cfg R := ⟨ae bj, Γ R c1, fun _ => false, h, 0, fun _ => false⟩
theorem k (κ : KT R) (k : Nat) (a0 a1 : _) : b8 (C R c1) Tryz.f116 10000 k [.str a0, .str a1] κ = dn.e c1 a0 a1 (K0 κ) := by kernel_rfl
end
theorem ac {R : Type} (tab : bO) (ht : av tab) (g : Nat) : bL (R := R) Tryz.prog (ae bj) tab g ((C R da).call g) := by
 refine aD fun xs κ => ?_
 show aa _ _ _ g xs κ (Γ R da g xs κ)
 unfold Γ
 split
 ·split
  ·exact da.aE tab ht _ κ
  ·exact aa.none
 ·exact aa.none
theorem aE {R : Type} (tab : bO) (ht : av tab) (a0 a1 : _) (κ : KT R) : aa Tryz.prog (ae bj) tab 116 [.str a0, .str a1] κ (dn a0 a1 (K0 κ)) := ah (C := C R da) (fn := Tryz.f116) cd (ac tab ht) (by kernel_rfl) (by kernel_rfl) (by rw [k]; rfl)
end dn
namespace dd
abbrev K0 {R : Type} (κ : KT R) : Bool -> BA -> Option R := fun r0 r1 => κ [.agg [.bool r0, .str r1]]
section
variable (R : Type) (c1 : dn.F R)
def Γ (g : Nat) (xs : List SV) (κ : KT R) : Option R :=
 match g with
 | 116 => (match xs with
  | [.str a0, .str a1] => c1 a0 a1 (dn.K0 κ)
  | _ => none)
 | _ => none
def h (n : Nat) : Option (List (Nat × List (Nat × Nat))) :=
 match n with
 | 2 => some [(0, [(0, 0)]), (1, [(0, 0)]), (4, [(0, 0)]), (5, [(0, 0)])]
 | _ => none
def C : Cfg R := ⟨ae bj, Γ R c1, fun _ => false, h, 0, fun _ => false⟩
noncomputable def S := S0 (C R c1) Tryz.f99 0
noncomputable def G := G0 (C R c1) Tryz.f99 0
def s2 := fun x0 x1 x2 x3 x4 => (⟨dZ 26 [(0, .ro 168 x0 false), (1, .str x1), (4, .ptr 383 0), (5, .int .i64 x2)], [(383, .var 26 [.bool x3, .str x4])], dW⟩ : St)
noncomputable abbrev q2 {R : Type} (J : JT R) : J2 R := fun x0 x1 x2 x3 x4 => J (placeOf Tryz.f99 2) (s2 x0 x1 x2 x3 x4)
theorem k2 (J : JT R) (κ : KT R) (x0 x1 x2 x3 x4 : _) : S R c1 κ J 2 (s2 x0 x1 x2 x3 x4) = t2 c1 (q2 J) (K0 κ) x0 x1 x2 x3 x4 := by kernel_rfl
theorem k (κ : KT R) (k : Nat) (a0 a1 : _) : b8 (C R c1) Tryz.f99 10000 k [.ro 168 a0 false, .str a1] κ = dd.e c1 a0 a1 (q2 (G R c1 κ k)) (K0 κ) := by kernel_rfl
theorem g2 (κ : KT R) : ∀ (f : Nat), q2 (G R c1 κ f) = L2 c1 (K0 κ) f
 | 0 => rfl
 | f + 1 => by
  funext x0 x1 x2 x3 x4
  show S R c1 κ (G R c1 κ f) 2 _ = _
  rw [k2, g2 κ f]
  rfl
end
theorem ac {R : Type} (tab : bO) (ht : av tab) (g : Nat) : bL (R := R) Tryz.prog (ae bj) tab g ((C R dn).call g) := by
 refine aD fun xs κ => ?_
 show aa _ _ _ g xs κ (Γ R dn g xs κ)
 unfold Γ
 split
 ·split
  ·exact dn.aE tab ht _ _ κ
  ·exact aa.none
 ·exact aa.none
theorem aE {R : Type} (tab : bO) (ht : av tab) (a0 a1 : _) (κ : KT R) : aa Tryz.prog (ae bj) tab 99 [.ro 168 a0 false, .str a1] κ (dd a0 a1 (K0 κ)) := ah (C := C R dn) (fn := Tryz.f99) cd (ac tab ht) (by kernel_rfl) (by kernel_rfl) (by rw [k]; rw [g2 R dn κ ag]; rfl)
end dd
namespace aG
abbrev K0 {R : Type} (κ : KT R) : Int -> Option R := fun r0 => κ [.int .i64 r0]
section
variable (R : Type)
def Γ (g : Nat) (xs : List SV) (κ : KT R) : Option R :=
 match g with
 | _ => none
def h (n : Nat) : Option (List (Nat × List (Nat × Nat))) :=
 match n with
 | 1 => some [(0, [(0, 0)]), (1, [(0, 0)])]
 | 7 => some [(0, [(0, 0)]), (1, [(0, 0)]), (5, [(0, 0)])]
 | _ => none
def C : Cfg R := ⟨ae bj, Γ R, fun _ => false, h, 0, fun _ => false⟩
noncomputable def S := S0 (C R) Tryz.f143 0
noncomputable def G := G0 (C R) Tryz.f143 0
def s1 := fun x0 x1 => (⟨dZ 58 [(0, .str x0), (1, .int .i64 x1)], [], dW⟩ : St)
def s7 := fun x0 x1 x2 => (⟨dZ 58 [(0, .str x0), (1, .int .i64 x1), (5, .int .i64 x2)], [], dW⟩ : St)
noncomputable abbrev q1 {R : Type} (J : JT R) : BA -> Int -> Option R := fun x0 x1 => J (placeOf Tryz.f143 1) (s1 x0 x1)
noncomputable abbrev q7 {R : Type} (J : JT R) : J7 R := fun x0 x1 x2 => J (placeOf Tryz.f143 7) (s7 x0 x1 x2)
theorem k1 (J : JT R) (κ : KT R) (x0 x1 : _) : S R κ J 1 (s1 x0 x1) = t1 (q1 J) (q7 J) (K0 κ) x0 x1 := by kernel_rfl
theorem k7 (J : JT R) (κ : KT R) (x0 x1 x2 : _) : S R κ J 7 (s7 x0 x1 x2) = t7 (q1 J) (q7 J) x0 x1 x2 := by kernel_rfl
theorem k (κ : KT R) (k : Nat) (a0 a1 : _) : b8 (C R) Tryz.f143 10000 k [.str a0, .int .i64 a1] κ = aG.e a0 a1 (q1 (G R κ k)) (q7 (G R κ k)) (K0 κ) := by kernel_rfl
theorem D9 (κ : KT R) : ∀ (f : Nat), (q1 (G R κ f) = L1 (K0 κ) f) /\ (q7 (G R κ f) = L7 (K0 κ) f)
 | 0 => ⟨rfl, rfl⟩
 | f + 1 => by
  obtain ⟨ih0, ih1⟩ := D9 κ f
  refine ⟨?_, ?_⟩
  ·funext x0 x1
   show S R κ (G R κ f) 1 _ = _
   rw [k1, ih0, ih1]
   rfl
  ·funext x0 x1 x2
   show S R κ (G R κ f) 7 _ = _
   rw [k7, ih0, ih1]
   rfl
theorem g1 (κ : KT R) (f : Nat) : q1 (G R κ f) = L1 (K0 κ) f := (D9 R κ f).1
theorem g7 (κ : KT R) (f : Nat) : q7 (G R κ f) = L7 (K0 κ) f := (D9 R κ f).2
end
theorem ac {R : Type} (tab : bO) (ht : av tab) (g : Nat) : bL (R := R) Tryz.prog (ae bj) tab g ((C R).call g) := by
 refine aD fun xs κ => ?_
 show aa _ _ _ g xs κ (Γ R g xs κ)
 unfold Γ
 split
 ·exact aa.none
theorem aE {R : Type} (tab : bO) (ht : av tab) (a0 a1 : _) (κ : KT R) : aa Tryz.prog (ae bj) tab 143 [.str a0, .int .i64 a1] κ (aG a0 a1 (K0 κ)) := ah (C := C R) (fn := Tryz.f143) cd (ac tab ht) (by kernel_rfl) (by kernel_rfl) (by rw [k]; rw [g1 R κ ag, g7 R κ ag]; rfl)
end aG
namespace bq
abbrev K0 {R : Type} (κ : KT R) : Bool -> Option R := fun r0 => κ [.bool r0]
section
variable (R : Type)
def Γ (g : Nat) (xs : List SV) (κ : KT R) : Option R :=
 match g with
 | _ => none
def h (n : Nat) : Option (List (Nat × List (Nat × Nat))) :=
 match n with
 | 5 => some [(0, [(0, 0)]), (3, [(0, 0)]), (4, [(0, 0)])]
 | _ => none
def C : Cfg R := ⟨ae bj, Γ R, fun _ => false, h, 0, fun _ => false⟩
noncomputable def S := S0 (C R) Tryz.f183 0
noncomputable def G := G0 (C R) Tryz.f183 0
def s5 := fun x0 x1 x2 => (⟨dZ 22 [(0, .int .u8 x0), (3, .str x1), (4, .int .i64 x2)], [], dW⟩ : St)
noncomputable abbrev q5 {R : Type} (J : JT R) : J5 R := fun x0 x1 x2 => J (placeOf Tryz.f183 5) (s5 x0 x1 x2)
theorem k5 (J : JT R) (κ : KT R) (x0 x1 x2 : _) : S R κ J 5 (s5 x0 x1 x2) = t5 (q5 J) (K0 κ) x0 x1 x2 := by kernel_rfl
theorem k (κ : KT R) (k : Nat) (a0 : _) : b8 (C R) Tryz.f183 10000 k [.int .u8 a0] κ = bq.e a0 (q5 (G R κ k)) (K0 κ) := by kernel_rfl
theorem g5 (κ : KT R) : ∀ (f : Nat), q5 (G R κ f) = L5 (K0 κ) f
 | 0 => rfl
 | f + 1 => by
  funext x0 x1 x2
  show S R κ (G R κ f) 5 _ = _
  rw [k5, g5 κ f]
  rfl
end
theorem ac {R : Type} (tab : bO) (ht : av tab) (g : Nat) : bL (R := R) Tryz.prog (ae bj) tab g ((C R).call g) := by
 refine aD fun xs κ => ?_
 show aa _ _ _ g xs κ (Γ R g xs κ)
 unfold Γ
 split
 ·exact aa.none
theorem aE {R : Type} (tab : bO) (ht : av tab) (a0 : _) (κ : KT R) : aa Tryz.prog (ae bj) tab 183 [.int .u8 a0] κ (bq a0 (K0 κ)) := ah (C := C R) (fn := Tryz.f183) cd (ac tab ht) (by kernel_rfl) (by kernel_rfl) (by rw [k]; rw [g5 R κ ag]; rfl)
end bq
namespace aK
abbrev K0 {R : Type} (κ : KT R) : BA -> Option R := fun r0 => κ [.str r0]
section
variable (R : Type) (c1 : bq.F R)
def Γ (g : Nat) (xs : List SV) (κ : KT R) : Option R :=
 match g with
 | 183 => (match xs with
  | [.int .u8 a0] => c1 a0 (bq.K0 κ)
  | _ => none)
 | _ => none
def h (n : Nat) : Option (List (Nat × List (Nat × Nat))) :=
 match n with
 | 2 => some [(0, [(0, 0)]), (1, [(0, 0)]), (5, [(0, 0)])]
 | _ => none
def C : Cfg R := ⟨ae bj, Γ R c1, fun _ => false, h, 0, fun _ => false⟩
noncomputable def S := S0 (C R c1) Tryz.f144 0
noncomputable def G := G0 (C R c1) Tryz.f144 0
def s2 := fun x0 x1 x2 => (⟨dZ 23 [(0, .str x0), (1, .int .i64 x1), (5, .int .i64 x2)], [], dW⟩ : St)
noncomputable abbrev q2 {R : Type} (J : JT R) : J2 R := fun x0 x1 x2 => J (placeOf Tryz.f144 2) (s2 x0 x1 x2)
theorem k2 (J : JT R) (κ : KT R) (x0 x1 x2 : _) : S R c1 κ J 2 (s2 x0 x1 x2) = t2 c1 (q2 J) (K0 κ) x0 x1 x2 := by kernel_rfl
theorem k (κ : KT R) (k : Nat) (a0 a1 : _) : b8 (C R c1) Tryz.f144 10000 k [.str a0, .int .i64 a1] κ = aK.e c1 a0 a1 (q2 (G R c1 κ k)) (K0 κ) := by kernel_rfl
theorem g2 (κ : KT R) : ∀ (f : Nat), q2 (G R c1 κ f) = L2 c1 (K0 κ) f
 | 0 => rfl
 | f + 1 => by
  funext x0 x1 x2
  show S R c1 κ (G R c1 κ f) 2 _ = _
  rw [k2, g2 κ f]
  rfl
end
theorem ac {R : Type} (tab : bO) (ht : av tab) (g : Nat) : bL (R := R) Tryz.prog (ae bj) tab g ((C R bq).call g) := by
 refine aD fun xs κ => ?_
 show aa _ _ _ g xs κ (Γ R bq g xs κ)
 unfold Γ
 split
 ·split
  ·exact bq.aE tab ht _ κ
  ·exact aa.none
 ·exact aa.none
theorem aE {R : Type} (tab : bO) (ht : av tab) (a0 a1 : _) (κ : KT R) : aa Tryz.prog (ae bj) tab 144 [.str a0, .int .i64 a1] κ (aK a0 a1 (K0 κ)) := ah (C := C R bq) (fn := Tryz.f144) cd (ac tab ht) (by kernel_rfl) (by kernel_rfl) (by rw [k]; rw [g2 R bq κ ag]; rfl)
end aK
namespace aW
abbrev K0 {R : Type} (κ : KT R) : BA -> Option R := fun r0 => κ [.str r0]
section
variable (R : Type)
def Γ (g : Nat) (xs : List SV) (κ : KT R) : Option R :=
 match g with
 | _ => none
def h (n : Nat) : Option (List (Nat × List (Nat × Nat))) :=
 match n with
 | 3 => some [(0, [(0, 0)]), (3, [(0, 7)]), (4, [(0, 0)])]
 | _ => none
def C : Cfg R := ⟨ae bj, Γ R, fun _ => false, h, 0, fun _ => false⟩
noncomputable def S := S0 (C R) Tryz.f145 0
noncomputable def G := G0 (C R) Tryz.f145 0
def s3 := fun x0 x1 x2 => (⟨dZ 29 [(0, .str x0), (3, .own 256), (4, .int .i64 x1)], [(256, .row 5 x2 true)], dW⟩ : St)
noncomputable abbrev q3 {R : Type} (J : JT R) : J3 R := fun x0 x1 x2 => J (placeOf Tryz.f145 3) (s3 x0 x1 x2)
theorem k3 (J : JT R) (κ : KT R) (x0 x1 x2 : _) : S R κ J 3 (s3 x0 x1 x2) = t3 (q3 J) (K0 κ) x0 x1 x2 := by kernel_rfl
theorem k (κ : KT R) (k : Nat) (a0 : _) : b8 (C R) Tryz.f145 10000 k [.str a0] κ = aW.e a0 (q3 (G R κ k)) (K0 κ) := by kernel_rfl
theorem g3 (κ : KT R) : ∀ (f : Nat), q3 (G R κ f) = L3 (K0 κ) f
 | 0 => rfl
 | f + 1 => by
  funext x0 x1 x2
  show S R κ (G R κ f) 3 _ = _
  rw [k3, g3 κ f]
  rfl
end
theorem ac {R : Type} (tab : bO) (ht : av tab) (g : Nat) : bL (R := R) Tryz.prog (ae bj) tab g ((C R).call g) := by
 refine aD fun xs κ => ?_
 show aa _ _ _ g xs κ (Γ R g xs κ)
 unfold Γ
 split
 ·exact aa.none
theorem aE {R : Type} (tab : bO) (ht : av tab) (a0 : _) (κ : KT R) : aa Tryz.prog (ae bj) tab 145 [.str a0] κ (aW a0 (K0 κ)) := ah (C := C R) (fn := Tryz.f145) cd (ac tab ht) (by kernel_rfl) (by kernel_rfl) (by rw [k]; rw [g3 R κ ag]; rfl)
end aW
namespace cr
abbrev K0 {R : Type} (κ : KT R) : Q0 R := fun r0 r1 r2 => κ [.tup [.str r0, .int .i64 r1, .bool r2]]
section
variable (R : Type) (c1 : aK.F R)
def Γ (g : Nat) (xs : List SV) (κ : KT R) : Option R :=
 match g with
 | 144 => (match xs with
  | [.str a0, .int .i64 a1] => c1 a0 a1 (aK.K0 κ)
  | _ => none)
 | _ => none
def h (n : Nat) : Option (List (Nat × List (Nat × Nat))) :=
 match n with
 | 8 => some [(0, [(0, 0)]), (1, [(0, 0)]), (8, [(0, 7)]), (9, [(0, 0)])]
 | _ => none
def C : Cfg R := ⟨ae bj, Γ R c1, fun _ => false, h, 0, fun _ => false⟩
noncomputable def S := S0 (C R c1) Tryz.f147 0
noncomputable def G := G0 (C R c1) Tryz.f147 0
def s8 := fun x0 x1 x2 x3 => (⟨dZ 67 [(0, .str x0), (1, .int .i64 x1), (8, .own 576), (9, .int .i64 x2)], [(576, .row 5 x3 true)], dW⟩ : St)
noncomputable abbrev q8 {R : Type} (J : JT R) : J8 R := fun x0 x1 x2 x3 => J (placeOf Tryz.f147 8) (s8 x0 x1 x2 x3)
theorem k8 (J : JT R) (κ : KT R) (x0 x1 x2 x3 : _) : S R c1 κ J 8 (s8 x0 x1 x2 x3) = t8 (q8 J) (K0 κ) x0 x1 x2 x3 := by kernel_rfl
theorem k (κ : KT R) (k : Nat) (a0 a1 : _) : b8 (C R c1) Tryz.f147 10000 k [.str a0, .int .i64 a1] κ = cr.e c1 a0 a1 (q8 (G R c1 κ k)) (K0 κ) := by kernel_rfl
theorem g8 (κ : KT R) : ∀ (f : Nat), q8 (G R c1 κ f) = L8 c1 (K0 κ) f
 | 0 => rfl
 | f + 1 => by
  funext x0 x1 x2 x3
  show S R c1 κ (G R c1 κ f) 8 _ = _
  rw [k8, g8 κ f]
  rfl
end
theorem ac {R : Type} (tab : bO) (ht : av tab) (g : Nat) : bL (R := R) Tryz.prog (ae bj) tab g ((C R aK).call g) := by
 refine aD fun xs κ => ?_
 show aa _ _ _ g xs κ (Γ R aK g xs κ)
 unfold Γ
 split
 ·split
  ·exact aK.aE tab ht _ _ κ
  ·exact aa.none
 ·exact aa.none
theorem aE {R : Type} (tab : bO) (ht : av tab) (a0 a1 : _) (κ : KT R) : aa Tryz.prog (ae bj) tab 147 [.str a0, .int .i64 a1] κ (cr a0 a1 (K0 κ)) := ah (C := C R aK) (fn := Tryz.f147) cd (ac tab ht) (by kernel_rfl) (by kernel_rfl) (by rw [k]; rw [g8 R aK κ ag]; rfl)
end cr
namespace bb
abbrev K0 {R : Type} (κ : KT R) : LA -> Option R := fun r0 => κ [.fr 129 r0 true]
section
variable (R : Type) (c1 : aG.F R) (c2 : aK.F R) (c3 : aW.F R) (c4 : cr.F R)
def Γ (g : Nat) (xs : List SV) (κ : KT R) : Option R :=
 match g with
 | 143 => (match xs with
  | [.str a0, .int .i64 a1] => c1 a0 a1 (aG.K0 κ)
  | _ => none)
 | 144 => (match xs with
  | [.str a0, .int .i64 a1] => c2 a0 a1 (aK.K0 κ)
  | _ => none)
 | 145 => (match xs with
  | [.str a0] => c3 a0 (aW.K0 κ)
  | _ => none)
 | 147 => (match xs with
  | [.str a0, .int .i64 a1] => c4 a0 a1 (cr.K0 κ)
  | _ => none)
 | _ => none
def h (n : Nat) : Option (List (Nat × List (Nat × Nat))) :=
 match n with
 | 2 => some [(0, [(0, 0)]), (1, [(0, 0)]), (5, [(0, 131)])]
 | 17 => some [(0, [(0, 0)]), (1, [(0, 0)]), (5, [(0, 0)]), (6, [(0, 0)]), (7, [(0, 0)]), (10, [(0, 0)]), (11, [(0, 0)])]
 | _ => none
def C : Cfg R := ⟨ae bj, Γ R c1 c2 c3 c4, fun _ => false, h, 0, fun _ => false⟩
noncomputable def S := S0 (C R c1 c2 c3 c4) Tryz.f102 0
noncomputable def G := G0 (C R c1 c2 c3 c4) Tryz.f102 0
def s2 := fun x0 x1 x2 => (⟨dZ 97 [(0, .str x0), (1, .int .i64 x1), (5, .own 384)], [(384, .row 129 x2 true)], dW⟩ : St)
def DP := fun x0 x1 x2 x3 x4 x5 x6 => (⟨dZ 97 [(0, .str x0), (1, .int .i64 x1), (5, .own 384), (6, .str x2), (7, .str x3), (10, .bool x4), (11, .int .i64 x5)], [(384, .row 129 x6 true)], dW⟩ : St)
noncomputable abbrev q2 {R : Type} (J : JT R) : J2 R := fun x0 x1 x2 => J (placeOf Tryz.f102 2) (s2 x0 x1 x2)
noncomputable abbrev AE {R : Type} (J : JT R) : vQ R := fun x0 x1 x2 x3 x4 x5 x6 => J (placeOf Tryz.f102 17) (DP x0 x1 x2 x3 x4 x5 x6)
theorem k2 (J : JT R) (κ : KT R) (x0 x1 x2 : _) : S R c1 c2 c3 c4 κ J 2 (s2 x0 x1 x2) = t2 c1 c2 c3 c4 (AE J) (K0 κ) x0 x1 x2 := by kernel_rfl
theorem Eb (J : JT R) (κ : KT R) (x0 x1 x2 x3 x4 x5 x6 : _) : S R c1 c2 c3 c4 κ J 17 (DP x0 x1 x2 x3 x4 x5 x6) = t17 (q2 J) (AE J) x0 x1 x2 x3 x4 x5 x6 := by kernel_rfl
theorem k (κ : KT R) (k : Nat) (a0 a1 : _) : b8 (C R c1 c2 c3 c4) Tryz.f102 10000 k [.str a0, .int .i64 a1] κ = bb.e c1 c2 c3 c4 a0 a1 (q2 (G R c1 c2 c3 c4 κ k)) (AE (G R c1 c2 c3 c4 κ k)) (K0 κ) := by kernel_rfl
theorem Ea (κ : KT R) : ∀ (f : Nat), (q2 (G R c1 c2 c3 c4 κ f) = L2 c1 c2 c3 c4 (K0 κ) f) /\ (AE (G R c1 c2 c3 c4 κ f) = w6 c1 c2 c3 c4 (K0 κ) f)
 | 0 => ⟨rfl, rfl⟩
 | f + 1 => by
  obtain ⟨ih0, ih1⟩ := Ea κ f
  refine ⟨?_, ?_⟩
  ·funext x0 x1 x2
   show S R c1 c2 c3 c4 κ (G R c1 c2 c3 c4 κ f) 2 _ = _
   rw [k2, ih1]
   rfl
  ·funext x0 x1 x2 x3 x4 x5 x6
   show S R c1 c2 c3 c4 κ (G R c1 c2 c3 c4 κ f) 17 _ = _
   rw [Eb, ih0, ih1]
   rfl
theorem g2 (κ : KT R) (f : Nat) : q2 (G R c1 c2 c3 c4 κ f) = L2 c1 c2 c3 c4 (K0 κ) f := (Ea R c1 c2 c3 c4 κ f).1
theorem g17 (κ : KT R) (f : Nat) : AE (G R c1 c2 c3 c4 κ f) = w6 c1 c2 c3 c4 (K0 κ) f := (Ea R c1 c2 c3 c4 κ f).2
end
theorem ac {R : Type} (tab : bO) (ht : av tab) (g : Nat) : bL (R := R) Tryz.prog (ae bj) tab g ((C R aG aK aW cr).call g) := by
 refine aD fun xs κ => ?_
 show aa _ _ _ g xs κ (Γ R aG aK aW cr g xs κ)
 unfold Γ
 split
 ·split
  ·exact aG.aE tab ht _ _ κ
  ·exact aa.none
 ·split
  ·exact aK.aE tab ht _ _ κ
  ·exact aa.none
 ·split
  ·exact aW.aE tab ht _ κ
  ·exact aa.none
 ·split
  ·exact cr.aE tab ht _ _ κ
  ·exact aa.none
 ·exact aa.none
theorem aE {R : Type} (tab : bO) (ht : av tab) (a0 a1 : _) (κ : KT R) : aa Tryz.prog (ae bj) tab 102 [.str a0, .int .i64 a1] κ (bb a0 a1 (K0 κ)) := ah (C := C R aG aK aW cr) (fn := Tryz.f102) cd (ac tab ht) (by kernel_rfl) (by kernel_rfl) (by rw [k]; rw [g2 R aG aK aW cr κ ag, g17 R aG aK aW cr κ ag]; rfl)
end bb
namespace cR
abbrev K0 {R : Type} (κ : KT R) : Q0 R := fun r0 r1 r2 => κ [.tup [.str r0, .str r1, .fr 129 r2 true]]
abbrev K1 {R : Type} (κ : KT R) : BA -> BA -> Option R := fun r0 r1 => κ [.tup [.str r0, .str r1, .nil]]
section
variable (R : Type) (c1 : aG.F R) (c2 : aK.F R) (c3 : aW.F R) (c4 : bb.F R)
def Γ (g : Nat) (xs : List SV) (κ : KT R) : Option R :=
 match g with
 | 102 => (match xs with
  | [.str a0, .int .i64 a1] => c4 a0 a1 (bb.K0 κ)
  | _ => none)
 | 143 => (match xs with
  | [.str a0, .int .i64 a1] => c1 a0 a1 (aG.K0 κ)
  | _ => none)
 | 144 => (match xs with
  | [.str a0, .int .i64 a1] => c2 a0 a1 (aK.K0 κ)
  | _ => none)
 | 145 => (match xs with
  | [.str a0] => c3 a0 (aW.K0 κ)
  | _ => none)
 | _ => none
def h (n : Nat) : Option (List (Nat × List (Nat × Nat))) :=
 match n with
 | _ => none
def C : Cfg R := ⟨ae bj, Γ R c1 c2 c3 c4, fun _ => false, h, 0, fun _ => false⟩
theorem k (κ : KT R) (k : Nat) (a0 a1 a2 : _) : b8 (C R c1 c2 c3 c4) Tryz.f98 10000 k [.agg [.bool a0, .str a1], .bool a2] κ = cR.e c1 c2 c3 c4 a0 a1 a2 (K0 κ) (K1 κ) := by kernel_rfl
end
theorem ac {R : Type} (tab : bO) (ht : av tab) (g : Nat) : bL (R := R) Tryz.prog (ae bj) tab g ((C R aG aK aW bb).call g) := by
 refine aD fun xs κ => ?_
 show aa _ _ _ g xs κ (Γ R aG aK aW bb g xs κ)
 unfold Γ
 split
 ·split
  ·exact bb.aE tab ht _ _ κ
  ·exact aa.none
 ·split
  ·exact aG.aE tab ht _ _ κ
  ·exact aa.none
 ·split
  ·exact aK.aE tab ht _ _ κ
  ·exact aa.none
 ·split
  ·exact aW.aE tab ht _ κ
  ·exact aa.none
 ·exact aa.none
theorem aE {R : Type} (tab : bO) (ht : av tab) (a0 a1 a2 : _) (κ : KT R) : aa Tryz.prog (ae bj) tab 98 [.agg [.bool a0, .str a1], .bool a2] κ (cR a0 a1 a2 (K0 κ) (K1 κ)) := ah (C := C R aG aK aW bb) (fn := Tryz.f98) cd (ac tab ht) (by kernel_rfl) (by kernel_rfl) (by rw [k]; rfl)
end cR
namespace dc
abbrev K0 {R : Type} (κ : KT R) : BA -> Option R := fun r0 => κ [.str r0]
section
variable (R : Type)
def Γ (g : Nat) (xs : List SV) (κ : KT R) : Option R :=
 match g with
 | _ => none
def h (n : Nat) : Option (List (Nat × List (Nat × Nat))) :=
 match n with
 | 1 => some [(0, [(0, 0)])]
 | 3 => some [(0, [(0, 0)])]
 | _ => none
def C : Cfg R := ⟨ae bj, Γ R, fun _ => false, h, 0, fun _ => false⟩
noncomputable def S := S0 (C R) Tryz.f146 0
noncomputable def G := G0 (C R) Tryz.f146 0
def s1 := fun x0 => (⟨dZ 43 [(0, .str x0)], [], dW⟩ : St)
def s3 := fun x0 => (⟨dZ 43 [(0, .str x0)], [], dW⟩ : St)
noncomputable abbrev q1 {R : Type} (J : JT R) : BA -> Option R := fun x0 => J (placeOf Tryz.f146 1) (s1 x0)
noncomputable abbrev q3 {R : Type} (J : JT R) : BA -> Option R := fun x0 => J (placeOf Tryz.f146 3) (s3 x0)
theorem k1 (J : JT R) (κ : KT R) (x0 : _) : S R κ J 1 (s1 x0) = t1 (q1 J) (q3 J) x0 := by kernel_rfl
theorem k3 (J : JT R) (κ : KT R) (x0 : _) : S R κ J 3 (s3 x0) = t3 (q3 J) (K0 κ) x0 := by kernel_rfl
theorem k (κ : KT R) (k : Nat) (a0 : _) : b8 (C R) Tryz.f146 10000 k [.str a0] κ = dc.e a0 (q1 (G R κ k)) (q3 (G R κ k)) (K0 κ) := by kernel_rfl
theorem g3 (κ : KT R) : ∀ (f : Nat), q3 (G R κ f) = L3 (K0 κ) f
 | 0 => rfl
 | f + 1 => by
  funext x0
  show S R κ (G R κ f) 3 _ = _
  rw [k3, g3 κ f]
  rfl
theorem g1 (κ : KT R) : ∀ (f : Nat), q1 (G R κ f) = L1 (K0 κ) f
 | 0 => rfl
 | f + 1 => by
  funext x0
  show S R κ (G R κ f) 1 _ = _
  rw [k1, g1 κ f, g3 R κ f]
  rfl
end
theorem ac {R : Type} (tab : bO) (ht : av tab) (g : Nat) : bL (R := R) Tryz.prog (ae bj) tab g ((C R).call g) := by
 refine aD fun xs κ => ?_
 show aa _ _ _ g xs κ (Γ R g xs κ)
 unfold Γ
 split
 ·exact aa.none
theorem aE {R : Type} (tab : bO) (ht : av tab) (a0 : _) (κ : KT R) : aa Tryz.prog (ae bj) tab 146 [.str a0] κ (dc a0 (K0 κ)) := ah (C := C R) (fn := Tryz.f146) cd (ac tab ht) (by kernel_rfl) (by kernel_rfl) (by rw [k]; rw [g1 R κ ag, g3 R κ ag]; rfl)
end dc
namespace cX
abbrev K0 {R : Type} (κ : KT R) : Bool -> BA -> Option R := fun r0 r1 => κ [.agg [.bool r0, .str r1]]
section
variable (R : Type) (c1 : dc.F R)
def Γ (g : Nat) (xs : List SV) (κ : KT R) : Option R :=
 match g with
 | 146 => (match xs with
  | [.str a0] => c1 a0 (dc.K0 κ)
  | _ => none)
 | _ => none
def h (n : Nat) : Option (List (Nat × List (Nat × Nat))) :=
 match n with
 | _ => none
def C : Cfg R := ⟨ae bj, Γ R c1, fun _ => false, h, 0, fun _ => false⟩
theorem k (κ : KT R) (k : Nat) (a0 a1 : _) : b8 (C R c1) Tryz.f100 10000 k [.agg [.bool a0, .str a1]] κ = cX.e c1 a0 a1 (K0 κ) := by kernel_rfl
end
theorem ac {R : Type} (tab : bO) (ht : av tab) (g : Nat) : bL (R := R) Tryz.prog (ae bj) tab g ((C R dc).call g) := by
 refine aD fun xs κ => ?_
 show aa _ _ _ g xs κ (Γ R dc g xs κ)
 unfold Γ
 split
 ·split
  ·exact dc.aE tab ht _ κ
  ·exact aa.none
 ·exact aa.none
theorem aE {R : Type} (tab : bO) (ht : av tab) (a0 a1 : _) (κ : KT R) : aa Tryz.prog (ae bj) tab 100 [.agg [.bool a0, .str a1]] κ (cX a0 a1 (K0 κ)) := ah (C := C R dc) (fn := Tryz.f100) cd (ac tab ht) (by kernel_rfl) (by kernel_rfl) (by rw [k]; rfl)
end cX
namespace cx
abbrev K0 {R : Type} (κ : KT R) : Q0 R := fun r0 r1 r2 => κ [.tup [.agg [.bool r0, .str r1], .int .i64 r2]]
section
variable (R : Type) (c1 : aG.F R) (c2 : aK.F R) (c3 : aW.F R)
def Γ (g : Nat) (xs : List SV) (κ : KT R) : Option R :=
 match g with
 | 143 => (match xs with
  | [.str a0, .int .i64 a1] => c1 a0 a1 (aG.K0 κ)
  | _ => none)
 | 144 => (match xs with
  | [.str a0, .int .i64 a1] => c2 a0 a1 (aK.K0 κ)
  | _ => none)
 | 145 => (match xs with
  | [.str a0] => c3 a0 (aW.K0 κ)
  | _ => none)
 | _ => none
def h (n : Nat) : Option (List (Nat × List (Nat × Nat))) :=
 match n with
 | _ => none
def C : Cfg R := ⟨ae bj, Γ R c1 c2 c3, fun _ => false, h, 0, fun _ => false⟩
theorem k (κ : KT R) (k : Nat) (a0 a1 : _) : b8 (C R c1 c2 c3) Tryz.f101 10000 k [.agg [.bool a0, .str a1]] κ = cx.e c1 c2 c3 a0 a1 (K0 κ) := by kernel_rfl
end
theorem ac {R : Type} (tab : bO) (ht : av tab) (g : Nat) : bL (R := R) Tryz.prog (ae bj) tab g ((C R aG aK aW).call g) := by
 refine aD fun xs κ => ?_
 show aa _ _ _ g xs κ (Γ R aG aK aW g xs κ)
 unfold Γ
 split
 ·split
  ·exact aG.aE tab ht _ _ κ
  ·exact aa.none
 ·split
  ·exact aK.aE tab ht _ _ κ
  ·exact aa.none
 ·split
  ·exact aW.aE tab ht _ κ
  ·exact aa.none
 ·exact aa.none
theorem aE {R : Type} (tab : bO) (ht : av tab) (a0 a1 : _) (κ : KT R) : aa Tryz.prog (ae bj) tab 101 [.agg [.bool a0, .str a1]] κ (cx a0 a1 (K0 κ)) := ah (C := C R aG aK aW) (fn := Tryz.f101) cd (ac tab ht) (by kernel_rfl) (by kernel_rfl) (by rw [k]; rfl)
end cx
namespace b7
abbrev K0 {R : Type} (κ : KT R) : LA -> Option R := fun r0 => κ [.fr 9 r0 true]
section
variable (R : Type) (c1 : aG.F R) (c2 : aK.F R) (c3 : aW.F R)
def Γ (g : Nat) (xs : List SV) (κ : KT R) : Option R :=
 match g with
 | 143 => (match xs with
  | [.str a0, .int .i64 a1] => c1 a0 a1 (aG.K0 κ)
  | _ => none)
 | 144 => (match xs with
  | [.str a0, .int .i64 a1] => c2 a0 a1 (aK.K0 κ)
  | _ => none)
 | 145 => (match xs with
  | [.str a0] => c3 a0 (aW.K0 κ)
  | _ => none)
 | _ => none
def h (n : Nat) : Option (List (Nat × List (Nat × Nat))) :=
 match n with
 | 3 => some [(1, [(0, 0)]), (3, [(0, 11)]), (4, [(0, 0)])]
 | _ => none
def C : Cfg R := ⟨ae bj, Γ R c1 c2 c3, fun _ => false, h, 0, fun _ => false⟩
noncomputable def S := S0 (C R c1 c2 c3) Tryz.f103 0
noncomputable def G := G0 (C R c1 c2 c3) Tryz.f103 0
def s3 := fun x0 x1 x2 x3 => (⟨dZ 52 [(1, .ptr 191 0), (3, .own 256), (4, .int .i64 x0)], [(191, .var 26 [.bool x1, .str x2]), (256, .row 9 x3 true)], dW⟩ : St)
noncomputable abbrev q3 {R : Type} (J : JT R) : J3 R := fun x0 x1 x2 x3 => J (placeOf Tryz.f103 3) (s3 x0 x1 x2 x3)
theorem k3 (J : JT R) (κ : KT R) (x0 x1 x2 x3 : _) : S R c1 c2 c3 κ J 3 (s3 x0 x1 x2 x3) = t3 c1 c2 c3 (q3 J) (K0 κ) x0 x1 x2 x3 := by kernel_rfl
theorem k (κ : KT R) (k : Nat) (a0 a1 : _) : b8 (C R c1 c2 c3) Tryz.f103 10000 k [.agg [.bool a0, .str a1]] κ = b7.e c1 c2 c3 a0 a1 (q3 (G R c1 c2 c3 κ k)) (K0 κ) := by kernel_rfl
theorem g3 (κ : KT R) : ∀ (f : Nat), q3 (G R c1 c2 c3 κ f) = L3 c1 c2 c3 (K0 κ) f
 | 0 => rfl
 | f + 1 => by
  funext x0 x1 x2 x3
  show S R c1 c2 c3 κ (G R c1 c2 c3 κ f) 3 _ = _
  rw [k3, g3 κ f]
  rfl
end
theorem ac {R : Type} (tab : bO) (ht : av tab) (g : Nat) : bL (R := R) Tryz.prog (ae bj) tab g ((C R aG aK aW).call g) := by
 refine aD fun xs κ => ?_
 show aa _ _ _ g xs κ (Γ R aG aK aW g xs κ)
 unfold Γ
 split
 ·split
  ·exact aG.aE tab ht _ _ κ
  ·exact aa.none
 ·split
  ·exact aK.aE tab ht _ _ κ
  ·exact aa.none
 ·split
  ·exact aW.aE tab ht _ κ
  ·exact aa.none
 ·exact aa.none
theorem aE {R : Type} (tab : bO) (ht : av tab) (a0 a1 : _) (κ : KT R) : aa Tryz.prog (ae bj) tab 103 [.agg [.bool a0, .str a1]] κ (b7 a0 a1 (K0 κ)) := ah (C := C R aG aK aW) (fn := Tryz.f103) cd (ac tab ht) (by kernel_rfl) (by kernel_rfl) (by rw [k]; rw [g3 R aG aK aW κ ag]; rfl)
end b7
namespace aT
abbrev K0 {R : Type} (κ : KT R) : Q0 R := fun r0 r1 r2 r3 r4 r5 r6 r7 r8 r9 r10 r11 r12 r13 r14 r15 r16 r17 r18 r19 r20 => κ [.agg [.str r0, .str r1, .str r2, .ro 129 r3 true, .bool r4, .str r5, .bool r6, .str r7, .bool r8, .str r9, .bool r10, .str r11, .ro 129 r12 true, .ro 9 r13 true, .bool r14, .str r15, .int .i64 r16, .int .i64 r17, .int .i64 r18, .int .i64 r19, .int .i64 r20, .nil]]
section
variable (R : Type) (c1 : cf.F R) (c2 : bS.F R) (c3 : dd.F R) (c4 : cR.F R) (c5 : cX.F R) (c6 : cx.F R) (c7 : bb.F R) (c8 : b7.F R)
def Γ (g : Nat) (xs : List SV) (κ : KT R) : Option R :=
 match g with
 | 83 => (match xs with
  | [.str a0] => c2 a0 (bS.K0 κ)
  | _ => none)
 | 97 => (match xs with
  | [.str a0] => c1 a0 (cf.K0 κ)
  | _ => none)
 | 98 => (match xs with
  | [.agg [.bool a0, .str a1], .bool a2] => c4 a0 a1 a2 (cR.K0 κ) (cR.K1 κ)
  | _ => none)
 | 99 => (match xs with
  | [.ro 168 a0 false, .str a1] => c3 a0 a1 (dd.K0 κ)
  | _ => none)
 | 100 => (match xs with
  | [.agg [.bool a0, .str a1]] => c5 a0 a1 (cX.K0 κ)
  | _ => none)
 | 101 => (match xs with
  | [.agg [.bool a0, .str a1]] => c6 a0 a1 (cx.K0 κ)
  | _ => none)
 | 102 => (match xs with
  | [.str a0, .int .i64 a1] => c7 a0 a1 (bb.K0 κ)
  | _ => none)
 | 103 => (match xs with
  | [.agg [.bool a0, .str a1]] => c8 a0 a1 (b7.K0 κ)
  | _ => none)
 | _ => none
def h (n : Nat) : Option (List (Nat × List (Nat × Nat))) :=
 match n with
 | 6 => some [(8, [(0, 0)]), (11, [(0, 0)]), (13, [(3, 131)])]
 | 16 => some [(8, [(0, 0)]), (13, [(3, 131), (3, 1), (12, 131), (12, 1), (13, 11), (13, 1)])]
 | _ => none
def C : Cfg R := ⟨ae bj, Γ R c1 c2 c3 c4 c5 c6 c7 c8, fun _ => false, h, 0, fun _ => false⟩
noncomputable def S := S0 (C R c1 c2 c3 c4 c5 c6 c7 c8) Tryz.f51 0
noncomputable def G := G0 (C R c1 c2 c3 c4 c5 c6 c7 c8) Tryz.f51 0
def s6 := fun x0 x1 x2 x3 x4 x5 x6 x7 x8 x9 x10 x11 x12 x13 x14 x15 x16 x17 x18 x19 x20 x21 x22 x23 x24 x25 x26 x27 x28 x29 x30 x31 x32 x33 x34 x35 x36 x37 => (⟨dZ 95 [(8, .ptr 639 0), (11, .own 768), (13, .ptr 959 0)], [(639, .var 32 [.str x0, .str x1, .str x2, .nil, .bool x3, .str x4, .bool x5, .str x6, .bool x7, .str x8, .bool x9, .str x10, .nil, .nil, .bool x11, .str x12, .int .i64 x13, .int .i64 x14, .int .i64 x15, .int .i64 x16, .int .i64 x17, .nil]), (768, .row 168 x18 true), (959, .var 32 [.str x19, .str x20, .str x21, .own 899, .bool x22, .str x23, .bool x24, .str x25, .bool x26, .str x27, .bool x28, .str x29, .nil, .nil, .bool x30, .str x31, .int .i64 x32, .int .i64 x33, .int .i64 x34, .int .i64 x35, .int .i64 x36, .nil]), (899, .row 129 x37 true)], dW⟩ : St)
def Ez := fun x0 x1 x2 x3 x4 x5 x6 x7 x8 x9 x10 x11 x12 x13 x14 x15 x16 x17 x18 x19 x20 x21 x22 x23 x24 x25 x26 x27 x28 x29 x30 x31 x32 x33 x34 x35 x36 x37 x38 => (⟨dZ 95 [(8, .ptr 639 0), (13, .ptr 959 0)], [(639, .var 32 [.str x0, .str x1, .str x2, .nil, .bool x3, .str x4, .bool x5, .str x6, .bool x7, .str x8, .bool x9, .str x10, .nil, .nil, .bool x11, .str x12, .int .i64 x13, .int .i64 x14, .int .i64 x15, .int .i64 x16, .int .i64 x17, .nil]), (959, .var 32 [.str x18, .str x19, .str x20, .ro 129 x21 true, .bool x22, .str x23, .bool x24, .str x25, .bool x26, .str x27, .bool x28, .str x29, .ro 129 x30 true, .ro 9 x31 true, .bool x32, .str x33, .int .i64 x34, .int .i64 x35, .int .i64 x36, .int .i64 x37, .int .i64 x38, .nil])], dW⟩ : St)
noncomputable abbrev q6 {R : Type} (J : JT R) : J6 R := fun x0 x1 x2 x3 x4 x5 x6 x7 x8 x9 x10 x11 x12 x13 x14 x15 x16 x17 x18 x19 x20 x21 x22 x23 x24 x25 x26 x27 x28 x29 x30 x31 x32 x33 x34 x35 x36 x37 => J (placeOf Tryz.f51 6) (s6 x0 x1 x2 x3 x4 x5 x6 x7 x8 x9 x10 x11 x12 x13 x14 x15 x16 x17 x18 x19 x20 x21 x22 x23 x24 x25 x26 x27 x28 x29 x30 x31 x32 x33 x34 x35 x36 x37)
noncomputable abbrev Ei {R : Type} (J : JT R) : Dk R := fun x0 x1 x2 x3 x4 x5 x6 x7 x8 x9 x10 x11 x12 x13 x14 x15 x16 x17 x18 x19 x20 x21 x22 x23 x24 x25 x26 x27 x28 x29 x30 x31 x32 x33 x34 x35 x36 x37 x38 => J (placeOf Tryz.f51 16) (Ez x0 x1 x2 x3 x4 x5 x6 x7 x8 x9 x10 x11 x12 x13 x14 x15 x16 x17 x18 x19 x20 x21 x22 x23 x24 x25 x26 x27 x28 x29 x30 x31 x32 x33 x34 x35 x36 x37 x38)
theorem k6 (J : JT R) (κ : KT R) (x0 x1 x2 x3 x4 x5 x6 x7 x8 x9 x10 x11 x12 x13 x14 x15 x16 x17 x18 x19 x20 x21 x22 x23 x24 x25 x26 x27 x28 x29 x30 x31 x32 x33 x34 x35 x36 x37 : _) : S R c1 c2 c3 c4 c5 c6 c7 c8 κ J 6 (s6 x0 x1 x2 x3 x4 x5 x6 x7 x8 x9 x10 x11 x12 x13 x14 x15 x16 x17 x18 x19 x20 x21 x22 x23 x24 x25 x26 x27 x28 x29 x30 x31 x32 x33 x34 x35 x36 x37) = t6 c3 c5 c6 c7 c8 (Ei J) x0 x1 x2 x3 x4 x5 x6 x7 x8 x9 x10 x11 x12 x13 x14 x15 x16 x17 x18 x19 x20 x21 x22 x23 x24 x25 x26 x27 x28 x29 x30 x31 x32 x33 x34 x35 x36 x37 := by kernel_rfl
theorem EI (J : JT R) (κ : KT R) (x0 x1 x2 x3 x4 x5 x6 x7 x8 x9 x10 x11 x12 x13 x14 x15 x16 x17 x18 x19 x20 x21 x22 x23 x24 x25 x26 x27 x28 x29 x30 x31 x32 x33 x34 x35 x36 x37 x38 : _) : S R c1 c2 c3 c4 c5 c6 c7 c8 κ J 16 (Ez x0 x1 x2 x3 x4 x5 x6 x7 x8 x9 x10 x11 x12 x13 x14 x15 x16 x17 x18 x19 x20 x21 x22 x23 x24 x25 x26 x27 x28 x29 x30 x31 x32 x33 x34 x35 x36 x37 x38) = t16 (K0 κ) x0 x1 x2 x3 x4 x5 x6 x7 x8 x9 x10 x11 x12 x13 x14 x15 x16 x17 x18 x19 x20 x21 x22 x23 x24 x25 x26 x27 x28 x29 x30 x31 x32 x33 x34 x35 x36 x37 x38 := by kernel_rfl
theorem k (κ : KT R) (k : Nat) (a0 a1 a2 a3 a4 : _) : b8 (C R c1 c2 c3 c4 c5 c6 c7 c8) Tryz.f51 10000 k [.str a0, .agg [.int .i64 a1, .int .i64 a2], .str a3, .bool a4] κ = aT.e c1 c2 c3 c4 c5 c6 c7 c8 a0 a1 a2 a3 a4 (q6 (G R c1 c2 c3 c4 c5 c6 c7 c8 κ k)) (Ei (G R c1 c2 c3 c4 c5 c6 c7 c8 κ k)) (K0 κ) := by kernel_rfl
theorem g16 (κ : KT R) : ∀ (f : Nat), Ei (G R c1 c2 c3 c4 c5 c6 c7 c8 κ f) = BG c1 c2 c3 c4 c5 c6 c7 c8 (K0 κ) f
 | 0 => rfl
 | f + 1 => by
  funext x0 x1 x2 x3 x4 x5 x6 x7 x8 x9 x10 x11 x12 x13 x14 x15 x16 x17 x18 x19 x20 x21 x22 x23 x24 x25 x26 x27 x28 x29 x30 x31 x32 x33 x34 x35 x36 x37 x38
  show S R c1 c2 c3 c4 c5 c6 c7 c8 κ (G R c1 c2 c3 c4 c5 c6 c7 c8 κ f) 16 _ = _
  rw [EI]
  rfl
theorem g6 (κ : KT R) : ∀ (f : Nat), q6 (G R c1 c2 c3 c4 c5 c6 c7 c8 κ f) = L6 c1 c2 c3 c4 c5 c6 c7 c8 (K0 κ) f
 | 0 => rfl
 | f + 1 => by
  funext x0 x1 x2 x3 x4 x5 x6 x7 x8 x9 x10 x11 x12 x13 x14 x15 x16 x17 x18 x19 x20 x21 x22 x23 x24 x25 x26 x27 x28 x29 x30 x31 x32 x33 x34 x35 x36 x37
  show S R c1 c2 c3 c4 c5 c6 c7 c8 κ (G R c1 c2 c3 c4 c5 c6 c7 c8 κ f) 6 _ = _
  rw [k6, g16 R c1 c2 c3 c4 c5 c6 c7 c8 κ f]
  rfl
end
theorem ac {R : Type} (tab : bO) (ht : av tab) (g : Nat) : bL (R := R) Tryz.prog (ae bj) tab g ((C R cf bS dd cR cX cx bb b7).call g) := by
 refine aD fun xs κ => ?_
 show aa _ _ _ g xs κ (Γ R cf bS dd cR cX cx bb b7 g xs κ)
 unfold Γ
 split
 ·split
  ·exact bS.aE tab ht _ κ
  ·exact aa.none
 ·split
  ·exact cf.aE tab ht _ κ
  ·exact aa.none
 ·split
  ·exact cR.aE tab ht _ _ _ κ
  ·exact aa.none
 ·split
  ·exact dd.aE tab ht _ _ κ
  ·exact aa.none
 ·split
  ·exact cX.aE tab ht _ _ κ
  ·exact aa.none
 ·split
  ·exact cx.aE tab ht _ _ κ
  ·exact aa.none
 ·split
  ·exact bb.aE tab ht _ _ κ
  ·exact aa.none
 ·split
  ·exact b7.aE tab ht _ _ κ
  ·exact aa.none
 ·exact aa.none
theorem aE {R : Type} (tab : bO) (ht : av tab) (a0 a1 a2 a3 a4 : _) (κ : KT R) : aa Tryz.prog (ae bj) tab 51 [.str a0, .agg [.int .i64 a1, .int .i64 a2], .str a3, .bool a4] κ (aT a0 a1 a2 a3 a4 (K0 κ)) := ah (C := C R cf bS dd cR cX cx bb b7) (fn := Tryz.f51) cd (ac tab ht) (by kernel_rfl) (by kernel_rfl) (by rw [k]; rw [g6 R cf bS dd cR cX cx bb b7 κ ag, g16 R cf bS dd cR cX cx bb b7 κ ag]; rfl)
end aT
namespace br
abbrev K0 {R : Type} (κ : KT R) : Int -> Option R := fun r0 => κ [.int .i64 r0]
section
variable (R : Type)
def Γ (g : Nat) (xs : List SV) (κ : KT R) : Option R :=
 match g with
 | _ => none
def h (n : Nat) : Option (List (Nat × List (Nat × Nat))) :=
 match n with
 | 3 => some [(0, [(0, 0)]), (3, [(0, 0)]), (4, [(0, 0)])]
 | _ => none
def C : Cfg R := ⟨ae bj, Γ R, fun _ => false, h, 0, fun _ => false⟩
noncomputable def S := S0 (C R) Tryz.f94 0
noncomputable def G := G0 (C R) Tryz.f94 0
def s3 := fun x0 x1 x2 => (⟨dZ 26 [(0, .str x0), (3, .int .i64 x1), (4, .int .i64 x2)], [], dW⟩ : St)
noncomputable abbrev q3 {R : Type} (J : JT R) : J3 R := fun x0 x1 x2 => J (placeOf Tryz.f94 3) (s3 x0 x1 x2)
theorem k3 (J : JT R) (κ : KT R) (x0 x1 x2 : _) : S R κ J 3 (s3 x0 x1 x2) = t3 (q3 J) (K0 κ) x0 x1 x2 := by kernel_rfl
theorem k (κ : KT R) (k : Nat) (a0 : _) : b8 (C R) Tryz.f94 10000 k [.str a0] κ = br.e a0 (q3 (G R κ k)) (K0 κ) := by kernel_rfl
theorem g3 (κ : KT R) : ∀ (f : Nat), q3 (G R κ f) = L3 (K0 κ) f
 | 0 => rfl
 | f + 1 => by
  funext x0 x1 x2
  show S R κ (G R κ f) 3 _ = _
  rw [k3, g3 κ f]
  rfl
end
theorem ac {R : Type} (tab : bO) (ht : av tab) (g : Nat) : bL (R := R) Tryz.prog (ae bj) tab g ((C R).call g) := by
 refine aD fun xs κ => ?_
 show aa _ _ _ g xs κ (Γ R g xs κ)
 unfold Γ
 split
 ·exact aa.none
theorem aE {R : Type} (tab : bO) (ht : av tab) (a0 : _) (κ : KT R) : aa Tryz.prog (ae bj) tab 94 [.str a0] κ (br a0 (K0 κ)) := ah (C := C R) (fn := Tryz.f94) cd (ac tab ht) (by kernel_rfl) (by kernel_rfl) (by rw [k]; rw [g3 R κ ag]; rfl)
end br
namespace cy
abbrev K0 {R : Type} (κ : KT R) : BA -> Option R := fun r0 => κ [.str r0]
section
variable (R : Type)
def Γ (g : Nat) (xs : List SV) (κ : KT R) : Option R :=
 match g with
 | _ => none
def h (n : Nat) : Option (List (Nat × List (Nat × Nat))) :=
 match n with
 | 2 => some [(0, [(0, 0)]), (1, [(0, 0)]), (5, [(0, 0)])]
 | _ => none
def C : Cfg R := ⟨ae bj, Γ R, fun _ => false, h, 0, fun _ => false⟩
noncomputable def S := S0 (C R) Tryz.f138 0
noncomputable def G := G0 (C R) Tryz.f138 0
def s2 := fun x0 x1 x2 => (⟨dZ 24 [(0, .ro 129 x0 true), (1, .str x1), (5, .int .i64 x2)], [], dW⟩ : St)
noncomputable abbrev q2 {R : Type} (J : JT R) : J2 R := fun x0 x1 x2 => J (placeOf Tryz.f138 2) (s2 x0 x1 x2)
theorem k2 (J : JT R) (κ : KT R) (x0 x1 x2 : _) : S R κ J 2 (s2 x0 x1 x2) = t2 (q2 J) (K0 κ) x0 x1 x2 := by kernel_rfl
theorem k (κ : KT R) (k : Nat) (a0 a1 : _) : b8 (C R) Tryz.f138 10000 k [.ro 129 a0 true, .str a1] κ = cy.e a0 a1 (q2 (G R κ k)) (K0 κ) := by kernel_rfl
theorem g2 (κ : KT R) : ∀ (f : Nat), q2 (G R κ f) = L2 (K0 κ) f
 | 0 => rfl
 | f + 1 => by
  funext x0 x1 x2
  show S R κ (G R κ f) 2 _ = _
  rw [k2, g2 κ f]
  rfl
end
theorem ac {R : Type} (tab : bO) (ht : av tab) (g : Nat) : bL (R := R) Tryz.prog (ae bj) tab g ((C R).call g) := by
 refine aD fun xs κ => ?_
 show aa _ _ _ g xs κ (Γ R g xs κ)
 unfold Γ
 split
 ·exact aa.none
theorem aE {R : Type} (tab : bO) (ht : av tab) (a0 a1 : _) (κ : KT R) : aa Tryz.prog (ae bj) tab 138 [.ro 129 a0 true, .str a1] κ (cy a0 a1 (K0 κ)) := ah (C := C R) (fn := Tryz.f138) cd (ac tab ht) (by kernel_rfl) (by kernel_rfl) (by rw [k]; rw [g2 R κ ag]; rfl)
end cy
namespace bU
abbrev K0 {R : Type} (κ : KT R) : Bool -> Option R := fun r0 => κ [.bool r0]
section
variable (R : Type)
def Γ (g : Nat) (xs : List SV) (κ : KT R) : Option R :=
 match g with
 | _ => none
def h (n : Nat) : Option (List (Nat × List (Nat × Nat))) :=
 match n with
 | 2 => some [(0, [(0, 0)]), (3, [(0, 0)])]
 | _ => none
def C : Cfg R := ⟨ae bj, Γ R, fun _ => false, h, 0, fun _ => false⟩
noncomputable def S := S0 (C R) Tryz.f139 0
noncomputable def G := G0 (C R) Tryz.f139 0
def s2 := fun x0 x1 => (⟨dZ 22 [(0, .str x0), (3, .int .i64 x1)], [], dW⟩ : St)
noncomputable abbrev q2 {R : Type} (J : JT R) : BA -> Int -> Option R := fun x0 x1 => J (placeOf Tryz.f139 2) (s2 x0 x1)
theorem k2 (J : JT R) (κ : KT R) (x0 x1 : _) : S R κ J 2 (s2 x0 x1) = t2 (q2 J) (K0 κ) x0 x1 := by kernel_rfl
theorem k (κ : KT R) (k : Nat) (a0 : _) : b8 (C R) Tryz.f139 10000 k [.str a0] κ = bU.e a0 (q2 (G R κ k)) (K0 κ) := by kernel_rfl
theorem g2 (κ : KT R) : ∀ (f : Nat), q2 (G R κ f) = L2 (K0 κ) f
 | 0 => rfl
 | f + 1 => by
  funext x0 x1
  show S R κ (G R κ f) 2 _ = _
  rw [k2, g2 κ f]
  rfl
end
theorem ac {R : Type} (tab : bO) (ht : av tab) (g : Nat) : bL (R := R) Tryz.prog (ae bj) tab g ((C R).call g) := by
 refine aD fun xs κ => ?_
 show aa _ _ _ g xs κ (Γ R g xs κ)
 unfold Γ
 split
 ·exact aa.none
theorem aE {R : Type} (tab : bO) (ht : av tab) (a0 : _) (κ : KT R) : aa Tryz.prog (ae bj) tab 139 [.str a0] κ (bU a0 (K0 κ)) := ah (C := C R) (fn := Tryz.f139) cd (ac tab ht) (by kernel_rfl) (by kernel_rfl) (by rw [k]; rw [g2 R κ ag]; rfl)
end bU
namespace bz
abbrev K0 {R : Type} (κ : KT R) : Int -> Int -> Option R := fun r0 r1 => κ [.tup [.int .i64 r0, .int .i64 r1]]
section
variable (R : Type)
def Γ (g : Nat) (xs : List SV) (κ : KT R) : Option R :=
 match g with
 | _ => none
def h (n : Nat) : Option (List (Nat × List (Nat × Nat))) :=
 match n with
 | 9 => some [(0, [(0, 0)]), (9, [(0, 0)]), (10, [(0, 0)])]
 | _ => none
def C : Cfg R := ⟨ae bj, Γ R, fun _ => false, h, 0, fun _ => false⟩
noncomputable def S := S0 (C R) Tryz.f181 0
noncomputable def G := G0 (C R) Tryz.f181 0
def s9 := fun x0 x1 x2 => (⟨dZ 104 [(0, .str x0), (9, .int .i64 x1), (10, .int .i64 x2)], [], dW⟩ : St)
noncomputable abbrev q9 {R : Type} (J : JT R) : J9 R := fun x0 x1 x2 => J (placeOf Tryz.f181 9) (s9 x0 x1 x2)
theorem k9 (J : JT R) (κ : KT R) (x0 x1 x2 : _) : S R κ J 9 (s9 x0 x1 x2) = t9 (q9 J) (K0 κ) x0 x1 x2 := by kernel_rfl
theorem k (κ : KT R) (k : Nat) (a0 a1 a2 : _) : b8 (C R) Tryz.f181 10000 k [.str a0, .int .i64 a1, .str a2] κ = bz.e a0 a1 a2 (q9 (G R κ k)) (K0 κ) := by kernel_rfl
theorem g9 (κ : KT R) : ∀ (f : Nat), q9 (G R κ f) = L9 (K0 κ) f
 | 0 => rfl
 | f + 1 => by
  funext x0 x1 x2
  show S R κ (G R κ f) 9 _ = _
  rw [k9, g9 κ f]
  rfl
end
theorem ac {R : Type} (tab : bO) (ht : av tab) (g : Nat) : bL (R := R) Tryz.prog (ae bj) tab g ((C R).call g) := by
 refine aD fun xs κ => ?_
 show aa _ _ _ g xs κ (Γ R g xs κ)
 unfold Γ
 split
 ·exact aa.none
theorem aE {R : Type} (tab : bO) (ht : av tab) (a0 a1 a2 : _) (κ : KT R) : aa Tryz.prog (ae bj) tab 181 [.str a0, .int .i64 a1, .str a2] κ (bz a0 a1 a2 (K0 κ)) := ah (C := C R) (fn := Tryz.f181) cd (ac tab ht) (by kernel_rfl) (by kernel_rfl) (by rw [k]; rw [g9 R κ ag]; rfl)
end bz
namespace bZ
abbrev K0 {R : Type} (κ : KT R) : Int -> Option R := fun r0 => κ [.int .i64 r0]
section
variable (R : Type)
def Γ (g : Nat) (xs : List SV) (κ : KT R) : Option R :=
 match g with
 | _ => none
def h (n : Nat) : Option (List (Nat × List (Nat × Nat))) :=
 match n with
 | 2 => some [(0, [(0, 0)]), (5, [(0, 0)])]
 | _ => none
def C : Cfg R := ⟨ae bj, Γ R, fun _ => false, h, 0, fun _ => false⟩
noncomputable def S := S0 (C R) Tryz.f182 0
noncomputable def G := G0 (C R) Tryz.f182 0
def s2 := fun x0 x1 => (⟨dZ 29 [(0, .str x0), (5, .int .i64 x1)], [], dW⟩ : St)
noncomputable abbrev q2 {R : Type} (J : JT R) : BA -> Int -> Option R := fun x0 x1 => J (placeOf Tryz.f182 2) (s2 x0 x1)
theorem k2 (J : JT R) (κ : KT R) (x0 x1 : _) : S R κ J 2 (s2 x0 x1) = t2 (q2 J) (K0 κ) x0 x1 := by kernel_rfl
theorem k (κ : KT R) (k : Nat) (a0 a1 : _) : b8 (C R) Tryz.f182 10000 k [.str a0, .int .i64 a1] κ = bZ.e a0 a1 (q2 (G R κ k)) (K0 κ) := by kernel_rfl
theorem g2 (κ : KT R) : ∀ (f : Nat), q2 (G R κ f) = L2 (K0 κ) f
 | 0 => rfl
 | f + 1 => by
  funext x0 x1
  show S R κ (G R κ f) 2 _ = _
  rw [k2, g2 κ f]
  rfl
end
theorem ac {R : Type} (tab : bO) (ht : av tab) (g : Nat) : bL (R := R) Tryz.prog (ae bj) tab g ((C R).call g) := by
 refine aD fun xs κ => ?_
 show aa _ _ _ g xs κ (Γ R g xs κ)
 unfold Γ
 split
 ·exact aa.none
theorem aE {R : Type} (tab : bO) (ht : av tab) (a0 a1 : _) (κ : KT R) : aa Tryz.prog (ae bj) tab 182 [.str a0, .int .i64 a1] κ (bZ a0 a1 (K0 κ)) := ah (C := C R) (fn := Tryz.f182) cd (ac tab ht) (by kernel_rfl) (by kernel_rfl) (by rw [k]; rw [g2 R κ ag]; rfl)
end bZ
namespace cq
abbrev K0 {R : Type} (κ : KT R) : LA -> Option R := fun r0 => κ [.fr 29 r0 true]
section
variable (R : Type) (c1 : bz.F R) (c2 : bZ.F R)
def Γ (g : Nat) (xs : List SV) (κ : KT R) : Option R :=
 match g with
 | 181 => (match xs with
  | [.str a0, .int .i64 a1, .str a2] => c1 a0 a1 a2 (bz.K0 κ)
  | _ => none)
 | 182 => (match xs with
  | [.str a0, .int .i64 a1] => c2 a0 a1 (bZ.K0 κ)
  | _ => none)
 | _ => none
def h (n : Nat) : Option (List (Nat × List (Nat × Nat))) :=
 match n with
 | 4 => some [(0, [(0, 0)]), (1, [(0, 0)]), (5, [(0, 31)]), (6, [(0, 0)]), (7, [(0, 0)])]
 | _ => none
def C : Cfg R := ⟨ae bj, Γ R c1 c2, fun _ => false, h, 0, fun _ => false⟩
noncomputable def S := S0 (C R c1 c2) Tryz.f140 0
noncomputable def G := G0 (C R c1 c2) Tryz.f140 0
def s4 := fun x0 x1 x2 x3 x4 => (⟨dZ 52 [(0, .str x0), (1, .str x1), (5, .own 384), (6, .int .i64 x2), (7, .int .i64 x3)], [(384, .row 29 x4 true)], dW⟩ : St)
noncomputable abbrev q4 {R : Type} (J : JT R) : J4 R := fun x0 x1 x2 x3 x4 => J (placeOf Tryz.f140 4) (s4 x0 x1 x2 x3 x4)
theorem k4 (J : JT R) (κ : KT R) (x0 x1 x2 x3 x4 : _) : S R c1 c2 κ J 4 (s4 x0 x1 x2 x3 x4) = t4 c1 c2 (q4 J) (K0 κ) x0 x1 x2 x3 x4 := by kernel_rfl
theorem k (κ : KT R) (k : Nat) (a0 a1 : _) : b8 (C R c1 c2) Tryz.f140 10000 k [.str a0, .str a1] κ = cq.e c1 c2 a0 a1 (q4 (G R c1 c2 κ k)) (K0 κ) := by kernel_rfl
theorem g4 (κ : KT R) : ∀ (f : Nat), q4 (G R c1 c2 κ f) = L4 c1 c2 (K0 κ) f
 | 0 => rfl
 | f + 1 => by
  funext x0 x1 x2 x3 x4
  show S R c1 c2 κ (G R c1 c2 κ f) 4 _ = _
  rw [k4, g4 κ f]
  rfl
end
theorem ac {R : Type} (tab : bO) (ht : av tab) (g : Nat) : bL (R := R) Tryz.prog (ae bj) tab g ((C R bz bZ).call g) := by
 refine aD fun xs κ => ?_
 show aa _ _ _ g xs κ (Γ R bz bZ g xs κ)
 unfold Γ
 split
 ·split
  ·exact bz.aE tab ht _ _ _ κ
  ·exact aa.none
 ·split
  ·exact bZ.aE tab ht _ _ κ
  ·exact aa.none
 ·exact aa.none
theorem aE {R : Type} (tab : bO) (ht : av tab) (a0 a1 : _) (κ : KT R) : aa Tryz.prog (ae bj) tab 140 [.str a0, .str a1] κ (cq a0 a1 (K0 κ)) := ah (C := C R bz bZ) (fn := Tryz.f140) cd (ac tab ht) (by kernel_rfl) (by kernel_rfl) (by rw [k]; rw [g4 R bz bZ κ ag]; rfl)
end cq
namespace aN
abbrev K0 {R : Type} (κ : KT R) : Option R := κ [.nil]
abbrev K1 {R : Type} (κ : KT R) : LA -> Option R := fun r0 => κ [.fr 29 r0 true]
section
variable (R : Type) (c1 : cy.F R) (c2 : bU.F R) (c3 : cq.F R)
def Γ (g : Nat) (xs : List SV) (κ : KT R) : Option R :=
 match g with
 | 138 => (match xs with
  | [.ro 129 a0 true, .str a1] => c1 a0 a1 (cy.K0 κ)
  | _ => none)
 | 139 => (match xs with
  | [.str a0] => c2 a0 (bU.K0 κ)
  | _ => none)
 | 140 => (match xs with
  | [.str a0, .str a1] => c3 a0 a1 (cq.K0 κ)
  | _ => none)
 | _ => none
def h (n : Nat) : Option (List (Nat × List (Nat × Nat))) :=
 match n with
 | 11 => some [(3, [(0, 0)]), (7, [(0, 0)]), (8, [(0, 0)])]
 | _ => none
def C : Cfg R := ⟨ae bj, Γ R c1 c2 c3, fun _ => false, h, 0, fun _ => false⟩
noncomputable def S := S0 (C R c1 c2 c3) Tryz.f95 0
noncomputable def G := G0 (C R c1 c2 c3) Tryz.f95 0
def B8 := fun x0 x1 x2 x3 x4 x5 x6 x7 x8 x9 x10 x11 x12 x13 x14 x15 x16 x17 x18 x19 x20 x21 x22 => (⟨dZ 101 [(3, .ptr 319 0), (7, .own 512), (8, .int .i64 x0)], [(319, .var 32 [.str x1, .str x2, .str x3, .ro 129 x4 true, .bool x5, .str x6, .bool x7, .str x8, .bool x9, .str x10, .bool x11, .str x12, .ro 129 x13 true, .ro 9 x14 true, .bool x15, .str x16, .int .i64 x17, .int .i64 x18, .int .i64 x19, .int .i64 x20, .int .i64 x21, .nil]), (512, .row 29 x22 true)], dW⟩ : St)
noncomputable abbrev yt {R : Type} (J : JT R) : sd R := fun x0 x1 x2 x3 x4 x5 x6 x7 x8 x9 x10 x11 x12 x13 x14 x15 x16 x17 x18 x19 x20 x21 x22 => J (placeOf Tryz.f95 11) (B8 x0 x1 x2 x3 x4 x5 x6 x7 x8 x9 x10 x11 x12 x13 x14 x15 x16 x17 x18 x19 x20 x21 x22)
theorem Dx (J : JT R) (κ : KT R) (x0 x1 x2 x3 x4 x5 x6 x7 x8 x9 x10 x11 x12 x13 x14 x15 x16 x17 x18 x19 x20 x21 x22 : _) : S R c1 c2 c3 κ J 11 (B8 x0 x1 x2 x3 x4 x5 x6 x7 x8 x9 x10 x11 x12 x13 x14 x15 x16 x17 x18 x19 x20 x21 x22) = t11 (yt J) (K1 κ) x0 x1 x2 x3 x4 x5 x6 x7 x8 x9 x10 x11 x12 x13 x14 x15 x16 x17 x18 x19 x20 x21 x22 := by kernel_rfl
theorem k (κ : KT R) (k : Nat) (a0 a1 a2 a3 a4 a5 a6 a7 a8 a9 a10 a11 a12 a13 a14 a15 a16 a17 a18 a19 a20 a21 : _) : b8 (C R c1 c2 c3) Tryz.f95 10000 k [.str a0, .agg [.str a1, .str a2, .str a3, .ro 129 a4 true, .bool a5, .str a6, .bool a7, .str a8, .bool a9, .str a10, .bool a11, .str a12, .ro 129 a13 true, .ro 9 a14 true, .bool a15, .str a16, .int .i64 a17, .int .i64 a18, .int .i64 a19, .int .i64 a20, .int .i64 a21, .nil]] κ = aN.e c1 c2 c3 a0 a1 a2 a3 a4 a5 a6 a7 a8 a9 a10 a11 a12 a13 a14 a15 a16 a17 a18 a19 a20 a21 (yt (G R c1 c2 c3 κ k)) (K0 κ) (K1 κ) := by kernel_rfl
theorem g11 (κ : KT R) : ∀ (f : Nat), yt (G R c1 c2 c3 κ f) = qS c1 c2 c3 (K0 κ) (K1 κ) f
 | 0 => rfl
 | f + 1 => by
  funext x0 x1 x2 x3 x4 x5 x6 x7 x8 x9 x10 x11 x12 x13 x14 x15 x16 x17 x18 x19 x20 x21 x22
  show S R c1 c2 c3 κ (G R c1 c2 c3 κ f) 11 _ = _
  rw [Dx, g11 κ f]
  rfl
end
theorem ac {R : Type} (tab : bO) (ht : av tab) (g : Nat) : bL (R := R) Tryz.prog (ae bj) tab g ((C R cy bU cq).call g) := by
 refine aD fun xs κ => ?_
 show aa _ _ _ g xs κ (Γ R cy bU cq g xs κ)
 unfold Γ
 split
 ·split
  ·exact cy.aE tab ht _ _ κ
  ·exact aa.none
 ·split
  ·exact bU.aE tab ht _ κ
  ·exact aa.none
 ·split
  ·exact cq.aE tab ht _ _ κ
  ·exact aa.none
 ·exact aa.none
theorem aE {R : Type} (tab : bO) (ht : av tab) (a0 a1 a2 a3 a4 a5 a6 a7 a8 a9 a10 a11 a12 a13 a14 a15 a16 a17 a18 a19 a20 a21 : _) (κ : KT R) : aa Tryz.prog (ae bj) tab 95 [.str a0, .agg [.str a1, .str a2, .str a3, .ro 129 a4 true, .bool a5, .str a6, .bool a7, .str a8, .bool a9, .str a10, .bool a11, .str a12, .ro 129 a13 true, .ro 9 a14 true, .bool a15, .str a16, .int .i64 a17, .int .i64 a18, .int .i64 a19, .int .i64 a20, .int .i64 a21, .nil]] κ (aN a0 a1 a2 a3 a4 a5 a6 a7 a8 a9 a10 a11 a12 a13 a14 a15 a16 a17 a18 a19 a20 a21 (K0 κ) (K1 κ)) := ah (C := C R cy bU cq) (fn := Tryz.f95) cd (ac tab ht) (by kernel_rfl) (by kernel_rfl) (by rw [k]; rw [g11 R cy bU cq κ ag]; rfl)
end aN
namespace bc
abbrev K0 {R : Type} (κ : KT R) : BA -> Option R := fun r0 => κ [.str r0]
section
variable (R : Type) (c1 : bc.F R)
def Γ (g : Nat) (xs : List SV) (κ : KT R) : Option R :=
 match g with
 | 141 => (match xs with
  | [.int .i64 a0] => c1 a0 (K0 κ)
  | _ => none)
 | _ => none
def h (n : Nat) : Option (List (Nat × List (Nat × Nat))) :=
 match n with
 | _ => none
def C : Cfg R := ⟨ae bj, Γ R c1, fun _ => false, h, 0, fun _ => false⟩
theorem k (κ : KT R) (k : Nat) (a0 : _) : b8 (C R c1) Tryz.f141 10000 k [.int .i64 a0] κ = bc.e c1 a0 (K0 κ) := by kernel_rfl
end
theorem ac {R : Type} (tab : bO) (ht : av tab) (n : Nat) (ih : ∀ (a0 : _) (κ : KT R), aa Tryz.prog (ae bj) tab 141 [.int .i64 a0] κ (bc.R n a0 (K0 κ))) (g : Nat) : bL (R := R) Tryz.prog (ae bj) tab g ((C R (bc.R n)).call g) := by
 refine aD fun xs κ => ?_
 show aa _ _ _ g xs κ (Γ R (bc.R n) g xs κ)
 unfold Γ
 split
 ·split
  ·exact ih _ κ
  ·exact aa.none
 ·exact aa.none
theorem fA {R : Type} (tab : bO) (ht : av tab) : ∀ (n : Nat) (a0 : _) (κ : KT R), aa Tryz.prog (ae bj) tab 141 [.int .i64 a0] κ (bc.R n a0 (K0 κ))
 | 0, _, _ => aa.none
 | n + 1, a0, κ => ah (C := C R (bc.R n)) (fn := Tryz.f141) cd (ac tab ht n (fA tab ht n)) (by kernel_rfl) (by kernel_rfl) (show _ = B (bc.R n) a0 (K0 κ) by rw [k]; rfl)
theorem aE {R : Type} (tab : bO) (ht : av tab) (a0 : _) (κ : KT R) : aa Tryz.prog (ae bj) tab 141 [.int .i64 a0] κ (bc a0 (K0 κ)) := fA tab ht ag a0 κ
end bc
namespace bf
abbrev K0 {R : Type} (κ : KT R) : BA -> Option R := fun r0 => κ [.str r0]
section
variable (R : Type) (c1 : bc.F R)
def Γ (g : Nat) (xs : List SV) (κ : KT R) : Option R :=
 match g with
 | 141 => (match xs with
  | [.int .i64 a0] => c1 a0 (bc.K0 κ)
  | _ => none)
 | _ => none
def h (n : Nat) : Option (List (Nat × List (Nat × Nat))) :=
 match n with
 | _ => none
def C : Cfg R := ⟨ae bj, Γ R c1, fun _ => false, h, 0, fun _ => false⟩
theorem k (κ : KT R) (k : Nat) (a0 a1 : _) : b8 (C R c1) Tryz.f96 10000 k [.str a0, .int .i64 a1] κ = bf.e c1 a0 a1 (K0 κ) := by kernel_rfl
end
theorem ac {R : Type} (tab : bO) (ht : av tab) (g : Nat) : bL (R := R) Tryz.prog (ae bj) tab g ((C R bc).call g) := by
 refine aD fun xs κ => ?_
 show aa _ _ _ g xs κ (Γ R bc g xs κ)
 unfold Γ
 split
 ·split
  ·exact bc.aE tab ht _ κ
  ·exact aa.none
 ·exact aa.none
theorem aE {R : Type} (tab : bO) (ht : av tab) (a0 a1 : _) (κ : KT R) : aa Tryz.prog (ae bj) tab 96 [.str a0, .int .i64 a1] κ (bf a0 a1 (K0 κ)) := ah (C := C R bc) (fn := Tryz.f96) cd (ac tab ht) (by kernel_rfl) (by kernel_rfl) (by rw [k]; rfl)
end bf
end Go.Proofs.Ab
