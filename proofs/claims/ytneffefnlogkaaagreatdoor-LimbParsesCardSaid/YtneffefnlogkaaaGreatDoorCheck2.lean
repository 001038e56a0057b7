/- Each plain function is what a call of its Go function does, checked by the kernel (no condition but what its checks ask). -/
import Derived.Test.YtneffefnlogkaaaGreatDoorSeat
import Derived.Test.YtneffefnlogkaaaGreatDoorText
import Derived.Test.YtneffefnlogkaaaGreatDoorCheck1
set_option linter.unusedVariables false
set_option linter.unusedSimpArgs false
set_option maxRecDepth 4000
namespace Go.Proofs.Ab
open Go Go.Proofs
set_option maxRecDepth 100000
namespace lm_isMessage2
abbrev K0 {R : Type} (κ : KT R) : Q0 R := fun r0 r1 r2 r3 r4 r5 r6 r7 r8 r9 r10 r11 r12 r13 r14 r15 r16 r17 r18 r19 r20 r21 r22 => κ [.bool r0, .vp 32 [.str r1, .str r2, .str r3, .ro 129 r4 true, .bool r5, .str r6, .bool r7, .str r8, .bool r9, .str r10, .bool r11, .str r12, .ro 129 r13 true, .ro 9 r14 true, .bool r15, .str r16, .int .i64 r17, .int .i64 r18, .int .i64 r19, .int .i64 r20, .int .i64 r21, .fr 32 r22 true]]
section
variable (R : Type)
def Γ (g : Nat) (xs : List SV) (κ : KT R) : Option R :=
 match g with
 | _ => none
def h (n : Nat) : Option (List (Nat × List (Nat × Nat))) :=
 match n with
 | _ => none
def C : Cfg R := ⟨tabTy tyL, Γ R, fun _ => false, h, 0⟩
theorem k (κ : KT R) (k : Nat) (a0 a1 a2 a3 a4 a5 a6 a7 a8 a9 a10 a11 a12 a13 a14 a15 a16 a17 a18 a19 a20 a21 : _) : runF (C R) Tryz.f59 10000 k [.vp 32 [.str a0, .str a1, .str a2, .ro 129 a3 true, .bool a4, .str a5, .bool a6, .str a7, .bool a8, .str a9, .bool a10, .str a11, .ro 129 a12 true, .ro 9 a13 true, .bool a14, .str a15, .int .i64 a16, .int .i64 a17, .int .i64 a18, .int .i64 a19, .int .i64 a20, .fr 32 a21 true]] κ = lm_isMessage2.e a0 a1 a2 a3 a4 a5 a6 a7 a8 a9 a10 a11 a12 a13 a14 a15 a16 a17 a18 a19 a20 a21 (K0 κ) := by kernel_rfl
end
theorem Γ_does {R : Type} (tab : Tab) (ht : TabOk tab) (g : Nat) : Does (R := R) Tryz.prog (tabTy tyL) tab g ((C R).call g) := by
 refine does_of fun xs κ => ?_
 show DoesAt _ _ _ g xs κ (Γ R g xs κ)
 unfold Γ
 split
 ·exact DoesAt.none
theorem does {R : Type} (tab : Tab) (ht : TabOk tab) (a0 a1 a2 a3 a4 a5 a6 a7 a8 a9 a10 a11 a12 a13 a14 a15 a16 a17 a18 a19 a20 a21 : _) (κ : KT R) : DoesAt Tryz.prog (tabTy tyL) tab 59 [.vp 32 [.str a0, .str a1, .str a2, .ro 129 a3 true, .bool a4, .str a5, .bool a6, .str a7, .bool a8, .str a9, .bool a10, .str a11, .ro 129 a12 true, .ro 9 a13 true, .bool a14, .str a15, .int .i64 a16, .int .i64 a17, .int .i64 a18, .int .i64 a19, .int .i64 a20, .fr 32 a21 true]] κ (lm_isMessage2 a0 a1 a2 a3 a4 a5 a6 a7 a8 a9 a10 a11 a12 a13 a14 a15 a16 a17 a18 a19 a20 a21 (K0 κ)) := doesAt_run (C := C R) (fn := Tryz.f59) tyOk (Γ_does tab ht) (by kernel_rfl) (by kernel_rfl) (by rw [k]; rfl)
end lm_isMessage2
namespace lm_place
abbrev K0 {R : Type} (κ : KT R) : Q0 R := fun r0 r1 r2 r3 r4 r5 r6 r7 r8 r9 r10 r11 r12 r13 r14 r15 r16 r17 r18 r19 r20 r21 r22 => κ [.str r0, .vp 32 [.str r1, .str r2, .str r3, .ro 129 r4 true, .bool r5, .str r6, .bool r7, .str r8, .bool r9, .str r10, .bool r11, .str r12, .ro 129 r13 true, .ro 9 r14 true, .bool r15, .str r16, .int .i64 r17, .int .i64 r18, .int .i64 r19, .int .i64 r20, .int .i64 r21, .fr 32 r22 true]]
section
variable (R : Type) (c1 : lm_isMessage2.F R) (c2 : sc_Itoa1.F R)
def Γ (g : Nat) (xs : List SV) (κ : KT R) : Option R :=
 match g with
 | 59 => (match xs with
  | [.vp 32 [.str a0, .str a1, .str a2, .ro 129 a3 true, .bool a4, .str a5, .bool a6, .str a7, .bool a8, .str a9, .bool a10, .str a11, .ro 129 a12 true, .ro 9 a13 true, .bool a14, .str a15, .int .i64 a16, .int .i64 a17, .int .i64 a18, .int .i64 a19, .int .i64 a20, .fr 32 a21 true]] => c1 a0 a1 a2 a3 a4 a5 a6 a7 a8 a9 a10 a11 a12 a13 a14 a15 a16 a17 a18 a19 a20 a21 (lm_isMessage2.K0 κ)
  | _ => none)
 | 135 => (match xs with
  | [.int .i64 a0] => c2 a0 (sc_Itoa1.K0 κ)
  | _ => none)
 | _ => none
def h (n : Nat) : Option (List (Nat × List (Nat × Nat))) :=
 match n with
 | _ => none
def C : Cfg R := ⟨tabTy tyL, Γ R c1 c2, fun _ => false, h, 0⟩
theorem k (κ : KT R) (k : Nat) (a0 a1 a2 a3 a4 a5 a6 a7 a8 a9 a10 a11 a12 a13 a14 a15 a16 a17 a18 a19 a20 a21 a22 a23 a24 : _) : runF (C R c1 c2) Tryz.f92 10000 k [.vp 32 [.str a0, .str a1, .str a2, .ro 129 a3 true, .bool a4, .str a5, .bool a6, .str a7, .bool a8, .str a9, .bool a10, .str a11, .ro 129 a12 true, .ro 9 a13 true, .bool a14, .str a15, .int .i64 a16, .int .i64 a17, .int .i64 a18, .int .i64 a19, .int .i64 a20, .fr 32 a21 true], .int .i64 a22, .bool a23, .int .i64 a24] κ = lm_place.e c1 c2 a0 a1 a2 a3 a4 a5 a6 a7 a8 a9 a10 a11 a12 a13 a14 a15 a16 a17 a18 a19 a20 a21 a22 a23 a24 (K0 κ) := by kernel_rfl
end
theorem Γ_does {R : Type} (tab : Tab) (ht : TabOk tab) (g : Nat) : Does (R := R) Tryz.prog (tabTy tyL) tab g ((C R lm_isMessage2 sc_Itoa1).call g) := by
 refine does_of fun xs κ => ?_
 show DoesAt _ _ _ g xs κ (Γ R lm_isMessage2 sc_Itoa1 g xs κ)
 unfold Γ
 split
 ·split
  ·exact lm_isMessage2.does tab ht _ _ _ _ _ _ _ _ _ _ _ _ _ _ _ _ _ _ _ _ _ _ κ
  ·exact DoesAt.none
 ·split
  ·exact sc_Itoa1.does tab ht _ κ
  ·exact DoesAt.none
 ·exact DoesAt.none
theorem does {R : Type} (tab : Tab) (ht : TabOk tab) (a0 a1 a2 a3 a4 a5 a6 a7 a8 a9 a10 a11 a12 a13 a14 a15 a16 a17 a18 a19 a20 a21 a22 a23 a24 : _) (κ : KT R) : DoesAt Tryz.prog (tabTy tyL) tab 92 [.vp 32 [.str a0, .str a1, .str a2, .ro 129 a3 true, .bool a4, .str a5, .bool a6, .str a7, .bool a8, .str a9, .bool a10, .str a11, .ro 129 a12 true, .ro 9 a13 true, .bool a14, .str a15, .int .i64 a16, .int .i64 a17, .int .i64 a18, .int .i64 a19, .int .i64 a20, .fr 32 a21 true], .int .i64 a22, .bool a23, .int .i64 a24] κ (lm_place a0 a1 a2 a3 a4 a5 a6 a7 a8 a9 a10 a11 a12 a13 a14 a15 a16 a17 a18 a19 a20 a21 a22 a23 a24 (K0 κ)) := doesAt_run (C := C R lm_isMessage2 sc_Itoa1) (fn := Tryz.f92) tyOk (Γ_does tab ht) (by kernel_rfl) (by kernel_rfl) (by rw [k]; rfl)
end lm_place
namespace lm_tree_open
abbrev K0 {R : Type} (κ : KT R) : Q0 R := fun r0 r1 r2 r3 r4 r5 r6 r7 r8 r9 r10 r11 r12 r13 r14 r15 r16 r17 r18 r19 r20 r21 r22 r23 => κ [.tup [], .vp 94 [.str r0, .int .i64 r1], .vp 32 [.str r2, .str r3, .str r4, .ro 129 r5 true, .bool r6, .str r7, .bool r8, .str r9, .bool r10, .str r11, .bool r12, .str r13, .ro 129 r14 true, .ro 9 r15 true, .bool r16, .str r17, .int .i64 r18, .int .i64 r19, .int .i64 r20, .int .i64 r21, .int .i64 r22, .ro 32 r23 true]]
abbrev K1 {R : Type} (κ : KT R) : Q1 R := fun r0 r1 r2 r3 r4 r5 r6 r7 r8 r9 r10 r11 r12 r13 r14 r15 r16 r17 r18 r19 r20 r21 r22 => κ [.tup [], .vp 94 [.str r0, .int .i64 r1], .vp 32 [.str r2, .str r3, .str r4, .nil, .bool r5, .str r6, .bool r7, .str r8, .bool r9, .str r10, .bool r11, .str r12, .ro 129 r13 true, .ro 9 r14 true, .bool r15, .str r16, .int .i64 r17, .int .i64 r18, .int .i64 r19, .int .i64 r20, .int .i64 r21, .ro 32 r22 true]]
section
variable (R : Type) (c1 : lm_tree_parts.F R) (c2 : lm_tree_limb.F R) (c3 : st_Count.F R) (c4 : lm_isMessage1.F R) (c5 : lm_place.F R) (c6 : lm_isMessage2.F R) (c7 : lm_tree_open.F R)
def Γ (g : Nat) (xs : List SV) (κ : KT R) : Option R :=
 match g with
 | 48 => (match xs with
  | [.vp 94 [.str a0, .int .i64 a1], .agg [.int .i64 a2, .int .i64 a3], .bool a4] => c2 a0 a1 a2 a3 a4 (lm_tree_limb.K0 κ)
  | _ => none)
 | 49 => (match xs with
  | [.vp 94 [.str a0, .int .i64 a1], .vp 32 [.str a2, .str a3, .str a4, .ro 129 a5 true, .bool a6, .str a7, .bool a8, .str a9, .bool a10, .str a11, .bool a12, .str a13, .ro 129 a14 true, .ro 9 a15 true, .bool a16, .str a17, .int .i64 a18, .int .i64 a19, .int .i64 a20, .int .i64 a21, .int .i64 a22, .nil], .int .i64 a23, .bool a24] => c7 a0 a1 a2 a3 a4 a5 a6 a7 a8 a9 a10 a11 a12 a13 a14 a15 a16 a17 a18 a19 a20 a21 a22 a23 a24 (K0 κ) (K1 κ)
  | _ => none)
 | 59 => (match xs with
  | [.vp 32 [.str a0, .str a1, .str a2, .ro 129 a3 true, .bool a4, .str a5, .bool a6, .str a7, .bool a8, .str a9, .bool a10, .str a11, .ro 129 a12 true, .ro 9 a13 true, .bool a14, .str a15, .int .i64 a16, .int .i64 a17, .int .i64 a18, .int .i64 a19, .int .i64 a20, .ro 32 a21 true]] => c4 a0 a1 a2 a3 a4 a5 a6 a7 a8 a9 a10 a11 a12 a13 a14 a15 a16 a17 a18 a19 a20 a21 (lm_isMessage1.K0 κ)
  | [.vp 32 [.str a0, .str a1, .str a2, .ro 129 a3 true, .bool a4, .str a5, .bool a6, .str a7, .bool a8, .str a9, .bool a10, .str a11, .ro 129 a12 true, .ro 9 a13 true, .bool a14, .str a15, .int .i64 a16, .int .i64 a17, .int .i64 a18, .int .i64 a19, .int .i64 a20, .fr 32 a21 true]] => c6 a0 a1 a2 a3 a4 a5 a6 a7 a8 a9 a10 a11 a12 a13 a14 a15 a16 a17 a18 a19 a20 a21 (lm_isMessage2.K0 κ)
  | _ => none)
 | 91 => (match xs with
  | [.vp 94 [.str a0, .int .i64 a1], .vp 32 [.str a2, .str a3, .str a4, .ro 129 a5 true, .bool a6, .str a7, .bool a8, .str a9, .bool a10, .str a11, .bool a12, .str a13, .ro 129 a14 true, .ro 9 a15 true, .bool a16, .str a17, .int .i64 a18, .int .i64 a19, .int .i64 a20, .int .i64 a21, .int .i64 a22, .nil]] => c1 a0 a1 a2 a3 a4 a5 a6 a7 a8 a9 a10 a11 a12 a13 a14 a15 a16 a17 a18 a19 a20 a21 a22 (lm_tree_parts.K0 κ) (lm_tree_parts.K1 κ)
  | _ => none)
 | 92 => (match xs with
  | [.vp 32 [.str a0, .str a1, .str a2, .ro 129 a3 true, .bool a4, .str a5, .bool a6, .str a7, .bool a8, .str a9, .bool a10, .str a11, .ro 129 a12 true, .ro 9 a13 true, .bool a14, .str a15, .int .i64 a16, .int .i64 a17, .int .i64 a18, .int .i64 a19, .int .i64 a20, .fr 32 a21 true], .int .i64 a22, .bool a23, .int .i64 a24] => c5 a0 a1 a2 a3 a4 a5 a6 a7 a8 a9 a10 a11 a12 a13 a14 a15 a16 a17 a18 a19 a20 a21 a22 a23 a24 (lm_place.K0 κ)
  | _ => none)
 | 93 => (match xs with
  | [.str a0, .str a1] => c3 a0 a1 (st_Count.K0 κ)
  | _ => none)
 | _ => none
def h (n : Nat) : Option (List (Nat × List (Nat × Nat))) :=
 match n with
 | 2 => some [(0, [(0, 0)]), (1, [(0, 0)]), (2, [(0, 0)]), (3, [(0, 0)]), (8, [(0, 31)])]
 | 5 => some [(0, [(0, 0)]), (1, [(21, 34)]), (2, [(0, 0)]), (3, [(0, 0)]), (40, [(0, 0)]), (41, [(0, 0)]), (42, [(0, 0)])]
 | 8 => some [(0, [(0, 0)]), (1, [(0, 0)]), (2, [(0, 0)]), (3, [(0, 0)]), (9, [(0, 0)]), (11, [(0, 0)]), (40, [(0, 0)]), (41, [(0, 0)]), (42, [(0, 0)])]
 | 14 => some [(0, [(0, 0)]), (1, [(0, 0)]), (2, [(0, 0)]), (3, [(0, 0)]), (40, [(0, 0)]), (41, [(0, 0)]), (42, [(0, 0)])]
 | 15 => some [(0, [(0, 0)]), (1, [(3, 131), (3, 1), (12, 131), (12, 1), (13, 11), (13, 1), (21, 34), (21, 1)])]
 | _ => none
def C : Cfg R := ⟨tabTy tyL, Γ R c1 c2 c3 c4 c5 c6 c7, fun _ => false, h, 0⟩
noncomputable def S := S0 (C R c1 c2 c3 c4 c5 c6 c7) Tryz.f49 2
noncomputable def G := G0 (C R c1 c2 c3 c4 c5 c6 c7) Tryz.f49 2
def s2 := fun x0 x1 x2 x3 x4 x5 x6 x7 x8 x9 x10 x11 x12 x13 x14 x15 x16 x17 x18 x19 x20 x21 x22 x23 x24 x25 => (⟨mkS 156 [(0, .ptr 0 0), (1, .ptr 1 0), (2, .int .i64 x0), (3, .bool x1), (8, .own 576)], [(1, .var 32 [.str x2, .str x3, .str x4, .ro 129 x5 true, .bool x6, .str x7, .bool x8, .str x9, .bool x10, .str x11, .bool x12, .str x13, .ro 129 x14 true, .ro 9 x15 true, .bool x16, .str x17, .int .i64 x18, .int .i64 x19, .int .i64 x20, .int .i64 x21, .int .i64 x22, .nil]), (0, .var 94 [.str x23, .int .i64 x24]), (576, .row 29 x25 true)], top⟩ : St)
def s5 := fun x0 x1 x2 x3 x4 x5 x6 x7 x8 x9 x10 x11 x12 x13 x14 x15 x16 x17 x18 x19 x20 x21 x22 x23 x24 x25 x26 x27 x28 => (⟨mkS 156 [(0, .ptr 0 0), (1, .ptr 1 0), (2, .int .i64 x0), (3, .bool x1), (40, .own 2624), (41, .int .i64 x2), (42, .int .i64 x3)], [(1, .var 32 [.str x4, .str x5, .str x6, .ro 129 x7 true, .bool x8, .str x9, .bool x10, .str x11, .bool x12, .str x13, .bool x14, .str x15, .ro 129 x16 true, .ro 9 x17 true, .bool x18, .str x19, .int .i64 x20, .int .i64 x21, .int .i64 x22, .int .i64 x23, .int .i64 x24, .own 149]), (0, .var 94 [.str x25, .int .i64 x26]), (149, .row 32 x27 true), (2624, .row 29 x28 true)], top⟩ : St)
def s8 := fun x0 x1 x2 x3 x4 x5 x6 x7 x8 x9 x10 x11 x12 x13 x14 x15 x16 x17 x18 x19 x20 x21 x22 x23 x24 x25 x26 x27 x28 x29 x30 x31 x32 x33 x34 x35 x36 x37 x38 x39 x40 x41 x42 x43 x44 x45 x46 x47 x48 x49 x50 => (⟨mkS 156 [(0, .ptr 0 0), (1, .ptr 1 0), (2, .int .i64 x0), (3, .bool x1), (9, .int .i64 x2), (11, .ptr 831 0), (40, .own 2624), (41, .int .i64 x3), (42, .int .i64 x4)], [(1, .var 32 [.str x5, .str x6, .str x7, .ro 129 x8 true, .bool x9, .str x10, .bool x11, .str x12, .bool x13, .str x14, .bool x15, .str x16, .ro 129 x17 true, .ro 9 x18 true, .bool x19, .str x20, .int .i64 x21, .int .i64 x22, .int .i64 x23, .int .i64 x24, .int .i64 x25, .own 149]), (0, .var 94 [.str x26, .int .i64 x27]), (149, .row 32 x28 true), (831, .var 32 [.str x29, .str x30, .str x31, .ro 129 x32 true, .bool x33, .str x34, .bool x35, .str x36, .bool x37, .str x38, .bool x39, .str x40, .ro 129 x41 true, .ro 9 x42 true, .bool x43, .str x44, .int .i64 x45, .int .i64 x46, .int .i64 x47, .int .i64 x48, .int .i64 x49, .nil]), (2624, .row 29 x50 true)], top⟩ : St)
def s15 := fun x0 x1 x2 x3 x4 x5 x6 x7 x8 x9 x10 x11 x12 x13 x14 x15 x16 x17 x18 x19 x20 x21 x22 x23 => (⟨mkS 156 [(0, .ptr 0 0), (1, .ptr 1 0)], [(1, .var 32 [.str x0, .str x1, .str x2, .ro 129 x3 true, .bool x4, .str x5, .bool x6, .str x7, .bool x8, .str x9, .bool x10, .str x11, .ro 129 x12 true, .ro 9 x13 true, .bool x14, .str x15, .int .i64 x16, .int .i64 x17, .int .i64 x18, .int .i64 x19, .int .i64 x20, .ro 32 x21 true]), (0, .var 94 [.str x22, .int .i64 x23])], top⟩ : St)
noncomputable abbrev q2 {R : Type} (J : JT R) : J2 R := fun x0 x1 x2 x3 x4 x5 x6 x7 x8 x9 x10 x11 x12 x13 x14 x15 x16 x17 x18 x19 x20 x21 x22 x23 x24 x25 => J (placeOf Tryz.f49 2) (s2 x0 x1 x2 x3 x4 x5 x6 x7 x8 x9 x10 x11 x12 x13 x14 x15 x16 x17 x18 x19 x20 x21 x22 x23 x24 x25)
noncomputable abbrev q5 {R : Type} (J : JT R) : J5 R := fun x0 x1 x2 x3 x4 x5 x6 x7 x8 x9 x10 x11 x12 x13 x14 x15 x16 x17 x18 x19 x20 x21 x22 x23 x24 x25 x26 x27 x28 => J (placeOf Tryz.f49 5) (s5 x0 x1 x2 x3 x4 x5 x6 x7 x8 x9 x10 x11 x12 x13 x14 x15 x16 x17 x18 x19 x20 x21 x22 x23 x24 x25 x26 x27 x28)
noncomputable abbrev q8 {R : Type} (J : JT R) : J8 R := fun x0 x1 x2 x3 x4 x5 x6 x7 x8 x9 x10 x11 x12 x13 x14 x15 x16 x17 x18 x19 x20 x21 x22 x23 x24 x25 x26 x27 x28 x29 x30 x31 x32 x33 x34 x35 x36 x37 x38 x39 x40 x41 x42 x43 x44 x45 x46 x47 x48 x49 x50 => J (placeOf Tryz.f49 8) (s8 x0 x1 x2 x3 x4 x5 x6 x7 x8 x9 x10 x11 x12 x13 x14 x15 x16 x17 x18 x19 x20 x21 x22 x23 x24 x25 x26 x27 x28 x29 x30 x31 x32 x33 x34 x35 x36 x37 x38 x39 x40 x41 x42 x43 x44 x45 x46 x47 x48 x49 x50)
noncomputable abbrev q14 {R : Type} (J : JT R) : J14 R := fun x0 x1 x2 x3 x4 x5 x6 x7 x8 x9 x10 x11 x12 x13 x14 x15 x16 x17 x18 x19 x20 x21 x22 x23 x24 x25 x26 x27 x28 => J (placeOf Tryz.f49 14) (s14 x0 x1 x2 x3 x4 x5 x6 x7 x8 x9 x10 x11 x12 x13 x14 x15 x16 x17 x18 x19 x20 x21 x22 x23 x24 x25 x26 x27 x28)
noncomputable abbrev q15 {R : Type} (J : JT R) : J15 R := fun x0 x1 x2 x3 x4 x5 x6 x7 x8 x9 x10 x11 x12 x13 x14 x15 x16 x17 x18 x19 x20 x21 x22 x23 => J (placeOf Tryz.f49 15) (s15 x0 x1 x2 x3 x4 x5 x6 x7 x8 x9 x10 x11 x12 x13 x14 x15 x16 x17 x18 x19 x20 x21 x22 x23)
theorem k2 (J : JT R) (κ : KT R) (x0 x1 x2 x3 x4 x5 x6 x7 x8 x9 x10 x11 x12 x13 x14 x15 x16 x17 x18 x19 x20 x21 x22 x23 x24 x25 : _) : S R c1 c2 c3 c4 c5 c6 c7 κ J 2 (s2 x0 x1 x2 x3 x4 x5 x6 x7 x8 x9 x10 x11 x12 x13 x14 x15 x16 x17 x18 x19 x20 x21 x22 x23 x24 x25) = t2 (q5 J) (q15 J) x0 x1 x2 x3 x4 x5 x6 x7 x8 x9 x10 x11 x12 x13 x14 x15 x16 x17 x18 x19 x20 x21 x22 x23 x24 x25 := by kernel_rfl
theorem k5 (J : JT R) (κ : KT R) (x0 x1 x2 x3 x4 x5 x6 x7 x8 x9 x10 x11 x12 x13 x14 x15 x16 x17 x18 x19 x20 x21 x22 x23 x24 x25 x26 x27 x28 : _) : S R c1 c2 c3 c4 c5 c6 c7 κ J 5 (s5 x0 x1 x2 x3 x4 x5 x6 x7 x8 x9 x10 x11 x12 x13 x14 x15 x16 x17 x18 x19 x20 x21 x22 x23 x24 x25 x26 x27 x28) = t5 c2 (q8 J) (q15 J) x0 x1 x2 x3 x4 x5 x6 x7 x8 x9 x10 x11 x12 x13 x14 x15 x16 x17 x18 x19 x20 x21 x22 x23 x24 x25 x26 x27 x28 := by kernel_rfl
theorem k8 (J : JT R) (κ : KT R) (x0 x1 x2 x3 x4 x5 x6 x7 x8 x9 x10 x11 x12 x13 x14 x15 x16 x17 x18 x19 x20 x21 x22 x23 x24 x25 x26 x27 x28 x29 x30 x31 x32 x33 x34 x35 x36 x37 x38 x39 x40 x41 x42 x43 x44 x45 x46 x47 x48 x49 x50 : _) : S R c1 c2 c3 c4 c5 c6 c7 κ J 8 (s8 x0 x1 x2 x3 x4 x5 x6 x7 x8 x9 x10 x11 x12 x13 x14 x15 x16 x17 x18 x19 x20 x21 x22 x23 x24 x25 x26 x27 x28 x29 x30 x31 x32 x33 x34 x35 x36 x37 x38 x39 x40 x41 x42 x43 x44 x45 x46 x47 x48 x49 x50) = t8 c5 c6 c7 (q14 J) x0 x1 x2 x3 x4 x5 x6 x7 x8 x9 x10 x11 x12 x13 x14 x15 x16 x17 x18 x19 x20 x21 x22 x23 x24 x25 x26 x27 x28 x29 x30 x31 x32 x33 x34 x35 x36 x37 x38 x39 x40 x41 x42 x43 x44 x45 x46 x47 x48 x49 x50 := by kernel_rfl
theorem k14 (J : JT R) (κ : KT R) (x0 x1 x2 x3 x4 x5 x6 x7 x8 x9 x10 x11 x12 x13 x14 x15 x16 x17 x18 x19 x20 x21 x22 x23 x24 x25 x26 x27 x28 : _) : S R c1 c2 c3 c4 c5 c6 c7 κ J 14 (s14 x0 x1 x2 x3 x4 x5 x6 x7 x8 x9 x10 x11 x12 x13 x14 x15 x16 x17 x18 x19 x20 x21 x22 x23 x24 x25 x26 x27 x28) = t14 (q5 J) x0 x1 x2 x3 x4 x5 x6 x7 x8 x9 x10 x11 x12 x13 x14 x15 x16 x17 x18 x19 x20 x21 x22 x23 x24 x25 x26 x27 x28 := by kernel_rfl
theorem k15 (J : JT R) (κ : KT R) (x0 x1 x2 x3 x4 x5 x6 x7 x8 x9 x10 x11 x12 x13 x14 x15 x16 x17 x18 x19 x20 x21 x22 x23 : _) : S R c1 c2 c3 c4 c5 c6 c7 κ J 15 (s15 x0 x1 x2 x3 x4 x5 x6 x7 x8 x9 x10 x11 x12 x13 x14 x15 x16 x17 x18 x19 x20 x21 x22 x23) = t15 c3 c4 (K0 κ) (K1 κ) x0 x1 x2 x3 x4 x5 x6 x7 x8 x9 x10 x11 x12 x13 x14 x15 x16 x17 x18 x19 x20 x21 x22 x23 := by kernel_rfl
theorem k (κ : KT R) (k : Nat) (a0 a1 a2 a3 a4 a5 a6 a7 a8 a9 a10 a11 a12 a13 a14 a15 a16 a17 a18 a19 a20 a21 a22 a23 a24 : _) : runF (C R c1 c2 c3 c4 c5 c6 c7) Tryz.f49 10000 k [.vp 94 [.str a0, .int .i64 a1], .vp 32 [.str a2, .str a3, .str a4, .ro 129 a5 true, .bool a6, .str a7, .bool a8, .str a9, .bool a10, .str a11, .bool a12, .str a13, .ro 129 a14 true, .ro 9 a15 true, .bool a16, .str a17, .int .i64 a18, .int .i64 a19, .int .i64 a20, .int .i64 a21, .int .i64 a22, .nil], .int .i64 a23, .bool a24] κ = lm_tree_open.e c1 c2 c3 c4 c5 c6 c7 a0 a1 a2 a3 a4 a5 a6 a7 a8 a9 a10 a11 a12 a13 a14 a15 a16 a17 a18 a19 a20 a21 a22 a23 a24 (q2 (G R c1 c2 c3 c4 c5 c6 c7 κ k)) (q5 (G R c1 c2 c3 c4 c5 c6 c7 κ k)) (q8 (G R c1 c2 c3 c4 c5 c6 c7 κ k)) (q14 (G R c1 c2 c3 c4 c5 c6 c7 κ k)) (q15 (G R c1 c2 c3 c4 c5 c6 c7 κ k)) (K0 κ) (K1 κ) := by kernel_rfl
theorem g15 (κ : KT R) : ∀ (f : Nat), q15 (G R c1 c2 c3 c4 c5 c6 c7 κ f) = L15 c1 c2 c3 c4 c5 c6 c7 (K0 κ) (K1 κ) f
 | 0 => rfl
 | f + 1 => by
  funext x0 x1 x2 x3 x4 x5 x6 x7 x8 x9 x10 x11 x12 x13 x14 x15 x16 x17 x18 x19 x20 x21 x22 x23
  show S R c1 c2 c3 c4 c5 c6 c7 κ (G R c1 c2 c3 c4 c5 c6 c7 κ f) 15 _ = _
  rw [k15]
  rfl
theorem gM5 (κ : KT R) : ∀ (f : Nat), (q5 (G R c1 c2 c3 c4 c5 c6 c7 κ f) = L5 c1 c2 c3 c4 c5 c6 c7 (K0 κ) (K1 κ) f) /\ (q8 (G R c1 c2 c3 c4 c5 c6 c7 κ f) = L8 c1 c2 c3 c4 c5 c6 c7 (K0 κ) (K1 κ) f) /\ (q14 (G R c1 c2 c3 c4 c5 c6 c7 κ f) = L14 c1 c2 c3 c4 c5 c6 c7 (K0 κ) (K1 κ) f)
 | 0 => ⟨rfl, rfl, rfl⟩
 | f + 1 => by
  obtain ⟨ih0, ih1, ih2⟩ := gM5 κ f
  refine ⟨?_, ?_, ?_⟩
  ·funext x0 x1 x2 x3 x4 x5 x6 x7 x8 x9 x10 x11 x12 x13 x14 x15 x16 x17 x18 x19 x20 x21 x22 x23 x24 x25 x26 x27 x28
   show S R c1 c2 c3 c4 c5 c6 c7 κ (G R c1 c2 c3 c4 c5 c6 c7 κ f) 5 _ = _
   rw [k5, ih1, g15 R c1 c2 c3 c4 c5 c6 c7 κ f]
   rfl
  ·funext x0 x1 x2 x3 x4 x5 x6 x7 x8 x9 x10 x11 x12 x13 x14 x15 x16 x17 x18 x19 x20 x21 x22 x23 x24 x25 x26 x27 x28 x29 x30 x31 x32 x33 x34 x35 x36 x37 x38 x39 x40 x41 x42 x43 x44 x45 x46 x47 x48 x49 x50
   show S R c1 c2 c3 c4 c5 c6 c7 κ (G R c1 c2 c3 c4 c5 c6 c7 κ f) 8 _ = _
   rw [k8, ih2]
   rfl
  ·funext x0 x1 x2 x3 x4 x5 x6 x7 x8 x9 x10 x11 x12 x13 x14 x15 x16 x17 x18 x19 x20 x21 x22 x23 x24 x25 x26 x27 x28
   show S R c1 c2 c3 c4 c5 c6 c7 κ (G R c1 c2 c3 c4 c5 c6 c7 κ f) 14 _ = _
   rw [k14, ih0]
   rfl
theorem g5 (κ : KT R) (f : Nat) : q5 (G R c1 c2 c3 c4 c5 c6 c7 κ f) = L5 c1 c2 c3 c4 c5 c6 c7 (K0 κ) (K1 κ) f := (gM5 R c1 c2 c3 c4 c5 c6 c7 κ f).1
theorem g8 (κ : KT R) (f : Nat) : q8 (G R c1 c2 c3 c4 c5 c6 c7 κ f) = L8 c1 c2 c3 c4 c5 c6 c7 (K0 κ) (K1 κ) f := (gM5 R c1 c2 c3 c4 c5 c6 c7 κ f).2.1
theorem g14 (κ : KT R) (f : Nat) : q14 (G R c1 c2 c3 c4 c5 c6 c7 κ f) = L14 c1 c2 c3 c4 c5 c6 c7 (K0 κ) (K1 κ) f := (gM5 R c1 c2 c3 c4 c5 c6 c7 κ f).2.2
theorem g2 (κ : KT R) : ∀ (f : Nat), q2 (G R c1 c2 c3 c4 c5 c6 c7 κ f) = L2 c1 c2 c3 c4 c5 c6 c7 (K0 κ) (K1 κ) f
 | 0 => rfl
 | f + 1 => by
  funext x0 x1 x2 x3 x4 x5 x6 x7 x8 x9 x10 x11 x12 x13 x14 x15 x16 x17 x18 x19 x20 x21 x22 x23 x24 x25
  show S R c1 c2 c3 c4 c5 c6 c7 κ (G R c1 c2 c3 c4 c5 c6 c7 κ f) 2 _ = _
  rw [k2, g5 R c1 c2 c3 c4 c5 c6 c7 κ f, g15 R c1 c2 c3 c4 c5 c6 c7 κ f]
  rfl
end
theorem Γ_does {R : Type} (tab : Tab) (ht : TabOk tab) (n : Nat) (ih : ∀ (a0 a1 a2 a3 a4 a5 a6 a7 a8 a9 a10 a11 a12 a13 a14 a15 a16 a17 a18 a19 a20 a21 a22 a23 a24 : _) (κ : KT R), DoesAt Tryz.prog (tabTy tyL) tab 49 [.vp 94 [.str a0, .int .i64 a1], .vp 32 [.str a2, .str a3, .str a4, .ro 129 a5 true, .bool a6, .str a7, .bool a8, .str a9, .bool a10, .str a11, .bool a12, .str a13, .ro 129 a14 true, .ro 9 a15 true, .bool a16, .str a17, .int .i64 a18, .int .i64 a19, .int .i64 a20, .int .i64 a21, .int .i64 a22, .nil], .int .i64 a23, .bool a24] κ (lm_tree_open.R n a0 a1 a2 a3 a4 a5 a6 a7 a8 a9 a10 a11 a12 a13 a14 a15 a16 a17 a18 a19 a20 a21 a22 a23 a24 (K0 κ) (K1 κ))) (g : Nat) : Does (R := R) Tryz.prog (tabTy tyL) tab g ((C R lm_tree_parts lm_tree_limb st_Count lm_isMessage1 lm_place lm_isMessage2 (lm_tree_open.R n)).call g) := by
 refine does_of fun xs κ => ?_
 show DoesAt _ _ _ g xs κ (Γ R lm_tree_parts lm_tree_limb st_Count lm_isMessage1 lm_place lm_isMessage2 (lm_tree_open.R n) g xs κ)
 unfold Γ
 split
 ·split
  ·exact lm_tree_limb.does tab ht _ _ _ _ _ κ
  ·exact DoesAt.none
 ·split
  ·exact ih _ _ _ _ _ _ _ _ _ _ _ _ _ _ _ _ _ _ _ _ _ _ _ _ _ κ
  ·exact DoesAt.none
 ·split
  ·exact lm_isMessage1.does tab ht _ _ _ _ _ _ _ _ _ _ _ _ _ _ _ _ _ _ _ _ _ _ κ
  ·exact lm_isMessage2.does tab ht _ _ _ _ _ _ _ _ _ _ _ _ _ _ _ _ _ _ _ _ _ _ κ
  ·exact DoesAt.none
 ·split
  ·exact lm_tree_parts.does tab ht _ _ _ _ _ _ _ _ _ _ _ _ _ _ _ _ _ _ _ _ _ _ _ κ
  ·exact DoesAt.none
 ·split
  ·exact lm_place.does tab ht _ _ _ _ _ _ _ _ _ _ _ _ _ _ _ _ _ _ _ _ _ _ _ _ _ κ
  ·exact DoesAt.none
 ·split
  ·exact st_Count.does tab ht _ _ κ
  ·exact DoesAt.none
 ·exact DoesAt.none
theorem R_does {R : Type} (tab : Tab) (ht : TabOk tab) : ∀ (n : Nat) (a0 a1 a2 a3 a4 a5 a6 a7 a8 a9 a10 a11 a12 a13 a14 a15 a16 a17 a18 a19 a20 a21 a22 a23 a24 : _) (κ : KT R), DoesAt Tryz.prog (tabTy tyL) tab 49 [.vp 94 [.str a0, .int .i64 a1], .vp 32 [.str a2, .str a3, .str a4, .ro 129 a5 true, .bool a6, .str a7, .bool a8, .str a9, .bool a10, .str a11, .bool a12, .str a13, .ro 129 a14 true, .ro 9 a15 true, .bool a16, .str a17, .int .i64 a18, .int .i64 a19, .int .i64 a20, .int .i64 a21, .int .i64 a22, .nil], .int .i64 a23, .bool a24] κ (lm_tree_open.R n a0 a1 a2 a3 a4 a5 a6 a7 a8 a9 a10 a11 a12 a13 a14 a15 a16 a17 a18 a19 a20 a21 a22 a23 a24 (K0 κ) (K1 κ))
 | 0, _, _, _, _, _, _, _, _, _, _, _, _, _, _, _, _, _, _, _, _, _, _, _, _, _, _ => DoesAt.none
 | n + 1, a0, a1, a2, a3, a4, a5, a6, a7, a8, a9, a10, a11, a12, a13, a14, a15, a16, a17, a18, a19, a20, a21, a22, a23, a24, κ => doesAt_run (C := C R lm_tree_parts lm_tree_limb st_Count lm_isMessage1 lm_place lm_isMessage2 (lm_tree_open.R n)) (fn := Tryz.f49) tyOk (Γ_does tab ht n (R_does tab ht n)) (by kernel_rfl) (by kernel_rfl) (show _ = B lm_tree_parts lm_tree_limb st_Count lm_isMessage1 lm_place lm_isMessage2 (lm_tree_open.R n) a0 a1 a2 a3 a4 a5 a6 a7 a8 a9 a10 a11 a12 a13 a14 a15 a16 a17 a18 a19 a20 a21 a22 a23 a24 (K0 κ) (K1 κ) by rw [k]; rw [g2 R lm_tree_parts lm_tree_limb st_Count lm_isMessage1 lm_place lm_isMessage2 (lm_tree_open.R n) κ fuelK, g5 R lm_tree_parts lm_tree_limb st_Count lm_isMessage1 lm_place lm_isMessage2 (lm_tree_open.R n) κ fuelK, g8 R lm_tree_parts lm_tree_limb st_Count lm_isMessage1 lm_place lm_isMessage2 (lm_tree_open.R n) κ fuelK, g14 R lm_tree_parts lm_tree_limb st_Count lm_isMessage1 lm_place lm_isMessage2 (lm_tree_open.R n) κ fuelK, g15 R lm_tree_parts lm_tree_limb st_Count lm_isMessage1 lm_place lm_isMessage2 (lm_tree_open.R n) κ fuelK]; rfl)
theorem does {R : Type} (tab : Tab) (ht : TabOk tab) (a0 a1 a2 a3 a4 a5 a6 a7 a8 a9 a10 a11 a12 a13 a14 a15 a16 a17 a18 a19 a20 a21 a22 a23 a24 : _) (κ : KT R) : DoesAt Tryz.prog (tabTy tyL) tab 49 [.vp 94 [.str a0, .int .i64 a1], .vp 32 [.str a2, .str a3, .str a4, .ro 129 a5 true, .bool a6, .str a7, .bool a8, .str a9, .bool a10, .str a11, .bool a12, .str a13, .ro 129 a14 true, .ro 9 a15 true, .bool a16, .str a17, .int .i64 a18, .int .i64 a19, .int .i64 a20, .int .i64 a21, .int .i64 a22, .nil], .int .i64 a23, .bool a24] κ (lm_tree_open a0 a1 a2 a3 a4 a5 a6 a7 a8 a9 a10 a11 a12 a13 a14 a15 a16 a17 a18 a19 a20 a21 a22 a23 a24 (K0 κ) (K1 κ)) := R_does tab ht fuelK a0 a1 a2 a3 a4 a5 a6 a7 a8 a9 a10 a11 a12 a13 a14 a15 a16 a17 a18 a19 a20 a21 a22 a23 a24 κ
end lm_tree_open
namespace lm_Parse
abbrev K0 {R : Type} (κ : KT R) : Q0 R := fun r0 r1 r2 r3 r4 r5 r6 r7 r8 r9 r10 r11 r12 r13 r14 r15 r16 r17 r18 r19 r20 r21 => κ [.agg [.str r0, .str r1, .str r2, .ro 129 r3 true, .bool r4, .str r5, .bool r6, .str r7, .bool r8, .str r9, .bool r10, .str r11, .ro 129 r12 true, .ro 9 r13 true, .bool r14, .str r15, .int .i64 r16, .int .i64 r17, .int .i64 r18, .int .i64 r19, .int .i64 r20, .ro 32 r21 true]]
section
variable (R : Type) (c1 : lm_tree_limb.F R) (c2 : lm_tree_open.F R)
def Γ (g : Nat) (xs : List SV) (κ : KT R) : Option R :=
 match g with
 | 48 => (match xs with
  | [.vp 94 [.str a0, .int .i64 a1], .agg [.int .i64 a2, .int .i64 a3], .bool a4] => c1 a0 a1 a2 a3 a4 (lm_tree_limb.K0 κ)
  | _ => none)
 | 49 => (match xs with
  | [.vp 94 [.str a0, .int .i64 a1], .vp 32 [.str a2, .str a3, .str a4, .ro 129 a5 true, .bool a6, .str a7, .bool a8, .str a9, .bool a10, .str a11, .bool a12, .str a13, .ro 129 a14 true, .ro 9 a15 true, .bool a16, .str a17, .int .i64 a18, .int .i64 a19, .int .i64 a20, .int .i64 a21, .int .i64 a22, .nil], .int .i64 a23, .bool a24] => c2 a0 a1 a2 a3 a4 a5 a6 a7 a8 a9 a10 a11 a12 a13 a14 a15 a16 a17 a18 a19 a20 a21 a22 a23 a24 (lm_tree_open.K0 κ) (lm_tree_open.K1 κ)
  | _ => none)
 | _ => none
def h (n : Nat) : Option (List (Nat × List (Nat × Nat))) :=
 match n with
 | 4 => some [(2, [(0, 0)]), (4, [(3, 131), (3, 1), (12, 131), (12, 1), (13, 11), (13, 1), (21, 34), (21, 1)])]
 | _ => none
def C : Cfg R := ⟨tabTy tyL, Γ R c1 c2, fun _ => false, h, 0⟩
noncomputable def S := S0 (C R c1 c2) Tryz.f14 0
noncomputable def G := G0 (C R c1 c2) Tryz.f14 0
def s4 := fun x0 x1 x2 x3 x4 x5 x6 x7 x8 x9 x10 x11 x12 x13 x14 x15 x16 x17 x18 x19 x20 x21 x22 x23 x24 x25 x26 x27 x28 x29 x30 x31 x32 x33 x34 x35 x36 x37 x38 x39 => (⟨mkS 16 [(2, .ptr 255 0), (4, .ptr 383 0)], [(255, .var 32 [.str x0, .str x1, .str x2, .nil, .bool x3, .str x4, .bool x5, .str x6, .bool x7, .str x8, .bool x9, .str x10, .nil, .nil, .bool x11, .str x12, .int .i64 x13, .int .i64 x14, .int .i64 x15, .int .i64 x16, .int .i64 x17, .nil]), (383, .var 32 [.str x18, .str x19, .str x20, .ro 129 x21 true, .bool x22, .str x23, .bool x24, .str x25, .bool x26, .str x27, .bool x28, .str x29, .ro 129 x30 true, .ro 9 x31 true, .bool x32, .str x33, .int .i64 x34, .int .i64 x35, .int .i64 x36, .int .i64 x37, .int .i64 x38, .ro 32 x39 true])], top⟩ : St)
noncomputable abbrev q4 {R : Type} (J : JT R) : J4 R := fun x0 x1 x2 x3 x4 x5 x6 x7 x8 x9 x10 x11 x12 x13 x14 x15 x16 x17 x18 x19 x20 x21 x22 x23 x24 x25 x26 x27 x28 x29 x30 x31 x32 x33 x34 x35 x36 x37 x38 x39 => J (placeOf Tryz.f14 4) (s4 x0 x1 x2 x3 x4 x5 x6 x7 x8 x9 x10 x11 x12 x13 x14 x15 x16 x17 x18 x19 x20 x21 x22 x23 x24 x25 x26 x27 x28 x29 x30 x31 x32 x33 x34 x35 x36 x37 x38 x39)
theorem k4 (J : JT R) (κ : KT R) (x0 x1 x2 x3 x4 x5 x6 x7 x8 x9 x10 x11 x12 x13 x14 x15 x16 x17 x18 x19 x20 x21 x22 x23 x24 x25 x26 x27 x28 x29 x30 x31 x32 x33 x34 x35 x36 x37 x38 x39 : _) : S R c1 c2 κ J 4 (s4 x0 x1 x2 x3 x4 x5 x6 x7 x8 x9 x10 x11 x12 x13 x14 x15 x16 x17 x18 x19 x20 x21 x22 x23 x24 x25 x26 x27 x28 x29 x30 x31 x32 x33 x34 x35 x36 x37 x38 x39) = t4 (K0 κ) x0 x1 x2 x3 x4 x5 x6 x7 x8 x9 x10 x11 x12 x13 x14 x15 x16 x17 x18 x19 x20 x21 x22 x23 x24 x25 x26 x27 x28 x29 x30 x31 x32 x33 x34 x35 x36 x37 x38 x39 := by kernel_rfl
theorem k (κ : KT R) (k : Nat) (a0 : _) : runF (C R c1 c2) Tryz.f14 10000 k [.str a0] κ = lm_Parse.e c1 c2 a0 (q4 (G R c1 c2 κ k)) (K0 κ) := by kernel_rfl
theorem g4 (κ : KT R) : ∀ (f : Nat), q4 (G R c1 c2 κ f) = L4 c1 c2 (K0 κ) f
 | 0 => rfl
 | f + 1 => by
  funext x0 x1 x2 x3 x4 x5 x6 x7 x8 x9 x10 x11 x12 x13 x14 x15 x16 x17 x18 x19 x20 x21 x22 x23 x24 x25 x26 x27 x28 x29 x30 x31 x32 x33 x34 x35 x36 x37 x38 x39
  show S R c1 c2 κ (G R c1 c2 κ f) 4 _ = _
  rw [k4]
  rfl
end
theorem Γ_does {R : Type} (tab : Tab) (ht : TabOk tab) (g : Nat) : Does (R := R) Tryz.prog (tabTy tyL) tab g ((C R lm_tree_limb lm_tree_open).call g) := by
 refine does_of fun xs κ => ?_
 show DoesAt _ _ _ g xs κ (Γ R lm_tree_limb lm_tree_open g xs κ)
 unfold Γ
 split
 ·split
  ·exact lm_tree_limb.does tab ht _ _ _ _ _ κ
  ·exact DoesAt.none
 ·split
  ·exact lm_tree_open.does tab ht _ _ _ _ _ _ _ _ _ _ _ _ _ _ _ _ _ _ _ _ _ _ _ _ _ κ
  ·exact DoesAt.none
 ·exact DoesAt.none
theorem does {R : Type} (tab : Tab) (ht : TabOk tab) (a0 : _) (κ : KT R) : DoesAt Tryz.prog (tabTy tyL) tab 14 [.str a0] κ (lm_Parse a0 (K0 κ)) := doesAt_run (C := C R lm_tree_limb lm_tree_open) (fn := Tryz.f14) tyOk (Γ_does tab ht) (by kernel_rfl) (by kernel_rfl) (by rw [k]; rw [g4 R lm_tree_limb lm_tree_open κ fuelK]; rfl)
end lm_Parse
namespace lm_Partial
abbrev K0 {R : Type} (κ : KT R) : BA -> Option R := fun r0 => κ [.str r0]
section
variable (R : Type)
def Γ (g : Nat) (xs : List SV) (κ : KT R) : Option R :=
 match g with
 | _ => none
def h (n : Nat) : Option (List (Nat × List (Nat × Nat))) :=
 match n with
 | _ => none
def C : Cfg R := ⟨tabTy tyL, Γ R, fun _ => false, h, 0⟩
theorem k (κ : KT R) (k : Nat) (a0 a1 a2 : _) : runF (C R) Tryz.f46 10000 k [.str a0, .int .i64 a1, .int .i64 a2] κ = lm_Partial.e a0 a1 a2 (K0 κ) := by kernel_rfl
end
theorem Γ_does {R : Type} (tab : Tab) (ht : TabOk tab) (g : Nat) : Does (R := R) Tryz.prog (tabTy tyL) tab g ((C R).call g) := by
 refine does_of fun xs κ => ?_
 show DoesAt _ _ _ g xs κ (Γ R g xs κ)
 unfold Γ
 split
 ·exact DoesAt.none
theorem does {R : Type} (tab : Tab) (ht : TabOk tab) (a0 a1 a2 : _) (κ : KT R) : DoesAt Tryz.prog (tabTy tyL) tab 46 [.str a0, .int .i64 a1, .int .i64 a2] κ (lm_Partial a0 a1 a2 (K0 κ)) := doesAt_run (C := C R) (fn := Tryz.f46) tyOk (Γ_does tab ht) (by kernel_rfl) (by kernel_rfl) (by rw [k]; rfl)
end lm_Partial
namespace w6_known
abbrev K0 {R : Type} (κ : KT R) : Bool -> Option R := fun r0 => κ [.bool r0]
section
variable (R : Type) (c1 : lm_Parse.F R) (c2 : lm_Partial.F R)
def Γ (g : Nat) (xs : List SV) (κ : KT R) : Option R :=
 match g with
 | 14 => (match xs with
  | [.str a0] => c1 a0 (lm_Parse.K0 κ)
  | _ => none)
 | 46 => (match xs with
  | [.str a0, .int .i64 a1, .int .i64 a2] => c2 a0 a1 a2 (lm_Partial.K0 κ)
  | _ => none)
 | _ => none
def h (n : Nat) : Option (List (Nat × List (Nat × Nat))) :=
 match n with
 | _ => none
def C : Cfg R := ⟨tabTy tyL, Γ R c1 c2, fun _ => false, h, 0⟩
theorem k (κ : KT R) (k : Nat) : runF (C R c1 c2) Tryz.f12 10000 k [] κ = w6_known.e c1 c2 (K0 κ) := by kernel_rfl
end
theorem Γ_does {R : Type} (tab : Tab) (ht : TabOk tab) (g : Nat) : Does (R := R) Tryz.prog (tabTy tyL) tab g ((C R lm_Parse lm_Partial).call g) := by
 refine does_of fun xs κ => ?_
 show DoesAt _ _ _ g xs κ (Γ R lm_Parse lm_Partial g xs κ)
 unfold Γ
 split
 ·split
  ·exact lm_Parse.does tab ht _ κ
  ·exact DoesAt.none
 ·split
  ·exact lm_Partial.does tab ht _ _ _ κ
  ·exact DoesAt.none
 ·exact DoesAt.none
theorem does {R : Type} (tab : Tab) (ht : TabOk tab) (κ : KT R) : DoesAt Tryz.prog (tabTy tyL) tab 12 [] κ (w6_known (K0 κ)) := doesAt_run (C := C R lm_Parse lm_Partial) (fn := Tryz.f12) tyOk (Γ_does tab ht) (by kernel_rfl) (by kernel_rfl) (by rw [k]; rfl)
end w6_known
namespace r5_lines
abbrev K0 {R : Type} (κ : KT R) : LA -> Option R := fun r0 => κ [.fr 9 r0 true]
section
variable (R : Type)
def Γ (g : Nat) (xs : List SV) (κ : KT R) : Option R :=
 match g with
 | _ => none
def h (n : Nat) : Option (List (Nat × List (Nat × Nat))) :=
 match n with
 | 4 => some [(0, [(0, 0)]), (3, [(0, 11)]), (4, [(0, 0)]), (5, [(0, 0)])]
 | _ => none
def C : Cfg R := ⟨tabTy tyL, Γ R, fun _ => false, h, 0⟩
noncomputable def S := S0 (C R) Tryz.f142 0
noncomputable def G := G0 (C R) Tryz.f142 0
def s4 := fun x0 x1 x2 x3 => (⟨mkS 47 [(0, .str x0), (3, .own 256), (4, .int .i64 x1), (5, .int .i64 x2)], [(256, .row 9 x3 true)], top⟩ : St)
noncomputable abbrev q4 {R : Type} (J : JT R) : J4 R := fun x0 x1 x2 x3 => J (placeOf Tryz.f142 4) (s4 x0 x1 x2 x3)
theorem k4 (J : JT R) (κ : KT R) (x0 x1 x2 x3 : _) : S R κ J 4 (s4 x0 x1 x2 x3) = t4 (q4 J) (K0 κ) x0 x1 x2 x3 := by kernel_rfl
theorem k (κ : KT R) (k : Nat) (a0 : _) : runF (C R) Tryz.f142 10000 k [.str a0] κ = r5_lines.e a0 (q4 (G R κ k)) (K0 κ) := by kernel_rfl
theorem g4 (κ : KT R) : ∀ (f : Nat), q4 (G R κ f) = L4 (K0 κ) f
 | 0 => rfl
 | f + 1 => by
  funext x0 x1 x2 x3
  show S R κ (G R κ f) 4 _ = _
  rw [k4, g4 κ f]
  rfl
end
theorem Γ_does {R : Type} (tab : Tab) (ht : TabOk tab) (g : Nat) : Does (R := R) Tryz.prog (tabTy tyL) tab g ((C R).call g) := by
 refine does_of fun xs κ => ?_
 show DoesAt _ _ _ g xs κ (Γ R g xs κ)
 unfold Γ
 split
 ·exact DoesAt.none
theorem does {R : Type} (tab : Tab) (ht : TabOk tab) (a0 : _) (κ : KT R) : DoesAt Tryz.prog (tabTy tyL) tab 142 [.str a0] κ (r5_lines a0 (K0 κ)) := doesAt_run (C := C R) (fn := Tryz.f142) tyOk (Γ_does tab ht) (by kernel_rfl) (by kernel_rfl) (by rw [k]; rw [g4 R κ fuelK]; rfl)
end r5_lines
namespace r5_Split
abbrev K0 {R : Type} (κ : KT R) : BA -> BA -> Option R := fun r0 r1 => κ [.tup [.str r0, .str r1]]
section
variable (R : Type) (c1 : r5_lines.F R)
def Γ (g : Nat) (xs : List SV) (κ : KT R) : Option R :=
 match g with
 | 142 => (match xs with
  | [.str a0] => c1 a0 (r5_lines.K0 κ)
  | _ => none)
 | _ => none
def h (n : Nat) : Option (List (Nat × List (Nat × Nat))) :=
 match n with
 | 4 => some [(0, [(0, 0)]), (4, [(0, 0)]), (5, [(0, 0)]), (6, [(0, 0)])]
 | _ => none
def C : Cfg R := ⟨tabTy tyL, Γ R c1, fun _ => false, h, 0⟩
noncomputable def S := S0 (C R c1) Tryz.f97 0
noncomputable def G := G0 (C R c1) Tryz.f97 0
def s4 := fun x0 x1 x2 x3 => (⟨mkS 34 [(0, .str x0), (4, .int .i64 x1), (5, .own 384), (6, .int .i64 x2)], [(384, .row 9 x3 true)], top⟩ : St)
noncomputable abbrev q4 {R : Type} (J : JT R) : J4 R := fun x0 x1 x2 x3 => J (placeOf Tryz.f97 4) (s4 x0 x1 x2 x3)
theorem k4 (J : JT R) (κ : KT R) (x0 x1 x2 x3 : _) : S R c1 κ J 4 (s4 x0 x1 x2 x3) = t4 (q4 J) (K0 κ) x0 x1 x2 x3 := by kernel_rfl
theorem k (κ : KT R) (k : Nat) (a0 : _) : runF (C R c1) Tryz.f97 10000 k [.str a0] κ = r5_Split.e c1 a0 (q4 (G R c1 κ k)) (K0 κ) := by kernel_rfl
theorem g4 (κ : KT R) : ∀ (f : Nat), q4 (G R c1 κ f) = L4 c1 (K0 κ) f
 | 0 => rfl
 | f + 1 => by
  funext x0 x1 x2 x3
  show S R c1 κ (G R c1 κ f) 4 _ = _
  rw [k4, g4 κ f]
  rfl
end
theorem Γ_does {R : Type} (tab : Tab) (ht : TabOk tab) (g : Nat) : Does (R := R) Tryz.prog (tabTy tyL) tab g ((C R r5_lines).call g) := by
 refine does_of fun xs κ => ?_
 show DoesAt _ _ _ g xs κ (Γ R r5_lines g xs κ)
 unfold Γ
 split
 ·split
  ·exact r5_lines.does tab ht _ κ
  ·exact DoesAt.none
 ·exact DoesAt.none
theorem does {R : Type} (tab : Tab) (ht : TabOk tab) (a0 : _) (κ : KT R) : DoesAt Tryz.prog (tabTy tyL) tab 97 [.str a0] κ (r5_Split a0 (K0 κ)) := doesAt_run (C := C R r5_lines) (fn := Tryz.f97) tyOk (Γ_does tab ht) (by kernel_rfl) (by kernel_rfl) (by rw [k]; rw [g4 R r5_lines κ fuelK]; rfl)
end r5_Split
namespace r5_blank
abbrev K0 {R : Type} (κ : KT R) : Bool -> Option R := fun r0 => κ [.bool r0]
section
variable (R : Type)
def Γ (g : Nat) (xs : List SV) (κ : KT R) : Option R :=
 match g with
 | _ => none
def h (n : Nat) : Option (List (Nat × List (Nat × Nat))) :=
 match n with
 | _ => none
def C : Cfg R := ⟨tabTy tyL, Γ R, fun _ => false, h, 0⟩
theorem k (κ : KT R) (k : Nat) (a0 : _) : runF (C R) Tryz.f154 10000 k [.int .u8 a0] κ = r5_blank.e a0 (K0 κ) := by kernel_rfl
end
theorem Γ_does {R : Type} (tab : Tab) (ht : TabOk tab) (g : Nat) : Does (R := R) Tryz.prog (tabTy tyL) tab g ((C R).call g) := by
 refine does_of fun xs κ => ?_
 show DoesAt _ _ _ g xs κ (Γ R g xs κ)
 unfold Γ
 split
 ·exact DoesAt.none
theorem does {R : Type} (tab : Tab) (ht : TabOk tab) (a0 : _) (κ : KT R) : DoesAt Tryz.prog (tabTy tyL) tab 154 [.int .u8 a0] κ (r5_blank a0 (K0 κ)) := doesAt_run (C := C R) (fn := Tryz.f154) tyOk (Γ_does tab ht) (by kernel_rfl) (by kernel_rfl) (by rw [k]; rfl)
end r5_blank
namespace r5_colon
abbrev K0 {R : Type} (κ : KT R) : Int -> Int -> Option R := fun r0 r1 => κ [.tup [.int .i64 r0, .int .i64 r1]]
section
variable (R : Type) (c1 : r5_blank.F R)
def Γ (g : Nat) (xs : List SV) (κ : KT R) : Option R :=
 match g with
 | 154 => (match xs with
  | [.int .u8 a0] => c1 a0 (r5_blank.K0 κ)
  | _ => none)
 | _ => none
def h (n : Nat) : Option (List (Nat × List (Nat × Nat))) :=
 match n with
 | 2 => some [(0, [(0, 0)]), (4, [(0, 0)])]
 | 5 => some [(0, [(0, 0)]), (4, [(0, 0)]), (5, [(0, 0)])]
 | _ => none
def C : Cfg R := ⟨tabTy tyL, Γ R c1, fun _ => false, h, 0⟩
noncomputable def S := S0 (C R c1) Tryz.f155 0
noncomputable def G := G0 (C R c1) Tryz.f155 0
def s2 := fun x0 x1 => (⟨mkS 59 [(0, .str x0), (4, .int .i64 x1)], [], top⟩ : St)
def s5 := fun x0 x1 x2 => (⟨mkS 59 [(0, .str x0), (4, .int .i64 x1), (5, .int .i64 x2)], [], top⟩ : St)
noncomputable abbrev q2 {R : Type} (J : JT R) : BA -> Int -> Option R := fun x0 x1 => J (placeOf Tryz.f155 2) (s2 x0 x1)
noncomputable abbrev q5 {R : Type} (J : JT R) : J5 R := fun x0 x1 x2 => J (placeOf Tryz.f155 5) (s5 x0 x1 x2)
theorem k2 (J : JT R) (κ : KT R) (x0 x1 : _) : S R c1 κ J 2 (s2 x0 x1) = t2 (q2 J) (q5 J) x0 x1 := by kernel_rfl
theorem k5 (J : JT R) (κ : KT R) (x0 x1 x2 : _) : S R c1 κ J 5 (s5 x0 x1 x2) = t5 c1 (q5 J) (K0 κ) x0 x1 x2 := by kernel_rfl
theorem k (κ : KT R) (k : Nat) (a0 : _) : runF (C R c1) Tryz.f155 10000 k [.str a0] κ = r5_colon.e c1 a0 (q2 (G R c1 κ k)) (q5 (G R c1 κ k)) (K0 κ) := by kernel_rfl
theorem g5 (κ : KT R) : ∀ (f : Nat), q5 (G R c1 κ f) = L5 c1 (K0 κ) f
 | 0 => rfl
 | f + 1 => by
  funext x0 x1 x2
  show S R c1 κ (G R c1 κ f) 5 _ = _
  rw [k5, g5 κ f]
  rfl
theorem g2 (κ : KT R) : ∀ (f : Nat), q2 (G R c1 κ f) = L2 c1 (K0 κ) f
 | 0 => rfl
 | f + 1 => by
  funext x0 x1
  show S R c1 κ (G R c1 κ f) 2 _ = _
  rw [k2, g2 κ f, g5 R c1 κ f]
  rfl
end
theorem Γ_does {R : Type} (tab : Tab) (ht : TabOk tab) (g : Nat) : Does (R := R) Tryz.prog (tabTy tyL) tab g ((C R r5_blank).call g) := by
 refine does_of fun xs κ => ?_
 show DoesAt _ _ _ g xs κ (Γ R r5_blank g xs κ)
 unfold Γ
 split
 ·split
  ·exact r5_blank.does tab ht _ κ
  ·exact DoesAt.none
 ·exact DoesAt.none
theorem does {R : Type} (tab : Tab) (ht : TabOk tab) (a0 : _) (κ : KT R) : DoesAt Tryz.prog (tabTy tyL) tab 155 [.str a0] κ (r5_colon a0 (K0 κ)) := doesAt_run (C := C R r5_blank) (fn := Tryz.f155) tyOk (Γ_does tab ht) (by kernel_rfl) (by kernel_rfl) (by rw [k]; rw [g2 R r5_blank κ fuelK, g5 R r5_blank κ fuelK]; rfl)
end r5_colon
namespace r5_bare
abbrev K0 {R : Type} (κ : KT R) : BA -> Option R := fun r0 => κ [.str r0]
section
variable (R : Type)
def Γ (g : Nat) (xs : List SV) (κ : KT R) : Option R :=
 match g with
 | _ => none
def h (n : Nat) : Option (List (Nat × List (Nat × Nat))) :=
 match n with
 | _ => none
def C : Cfg R := ⟨tabTy tyL, Γ R, fun _ => false, h, 0⟩
theorem k (κ : KT R) (k : Nat) (a0 : _) : runF (C R) Tryz.f117 10000 k [.str a0] κ = r5_bare.e a0 (K0 κ) := by kernel_rfl
end
theorem Γ_does {R : Type} (tab : Tab) (ht : TabOk tab) (g : Nat) : Does (R := R) Tryz.prog (tabTy tyL) tab g ((C R).call g) := by
 refine does_of fun xs κ => ?_
 show DoesAt _ _ _ g xs κ (Γ R g xs κ)
 unfold Γ
 split
 ·exact DoesAt.none
theorem does {R : Type} (tab : Tab) (ht : TabOk tab) (a0 : _) (κ : KT R) : DoesAt Tryz.prog (tabTy tyL) tab 117 [.str a0] κ (r5_bare a0 (K0 κ)) := doesAt_run (C := C R) (fn := Tryz.f117) tyOk (Γ_does tab ht) (by kernel_rfl) (by kernel_rfl) (by rw [k]; rfl)
end r5_bare
namespace r5_head
abbrev K0 {R : Type} (κ : KT R) : LA -> Option R := fun r0 => κ [.fr 168 r0 true]
section
variable (R : Type) (c1 : r5_lines.F R) (c2 : r5_blank.F R) (c3 : r5_bare.F R) (c4 : r5_colon.F R)
def Γ (g : Nat) (xs : List SV) (κ : KT R) : Option R :=
 match g with
 | 117 => (match xs with
  | [.str a0] => c3 a0 (r5_bare.K0 κ)
  | _ => none)
 | 142 => (match xs with
  | [.str a0] => c1 a0 (r5_lines.K0 κ)
  | _ => none)
 | 154 => (match xs with
  | [.int .u8 a0] => c2 a0 (r5_blank.K0 κ)
  | _ => none)
 | 155 => (match xs with
  | [.str a0] => c4 a0 (r5_colon.K0 κ)
  | _ => none)
 | _ => none
def h (n : Nat) : Option (List (Nat × List (Nat × Nat))) :=
 match n with
 | 4 => some [(3, [(0, 170)]), (4, [(0, 0)]), (5, [(0, 0)])]
 | 5 => some [(3, [(0, 0)]), (4, [(0, 0)]), (5, [(0, 0)])]
 | 11 => some [(3, [(0, 0)]), (4, [(0, 0)]), (5, [(0, 0)]), (6, [(0, 0)])]
 | _ => none
def C : Cfg R := ⟨tabTy tyL, Γ R c1 c2 c3 c4, fun _ => false, h, 0⟩
noncomputable def S := S0 (C R c1 c2 c3 c4) Tryz.f115 0
noncomputable def G := G0 (C R c1 c2 c3 c4) Tryz.f115 0
def s4 := fun x0 x1 x2 => (⟨mkS 93 [(3, .own 256), (4, .own 320), (5, .int .i64 x0)], [(256, .row 168 x1 true), (320, .row 9 x2 true)], top⟩ : St)
def s5 := fun x0 x1 x2 => (⟨mkS 93 [(3, .own 256), (4, .own 320), (5, .int .i64 x0)], [(256, .row 168 x1 true), (320, .row 9 x2 true)], top⟩ : St)
def s11 := fun x0 x1 x2 x3 => (⟨mkS 93 [(3, .own 256), (4, .own 320), (5, .int .i64 x0), (6, .str x1)], [(256, .row 168 x2 true), (320, .row 9 x3 true)], top⟩ : St)
noncomputable abbrev q4 {R : Type} (J : JT R) : J4 R := fun x0 x1 x2 => J (placeOf Tryz.f115 4) (s4 x0 x1 x2)
noncomputable abbrev q5 {R : Type} (J : JT R) : J5 R := fun x0 x1 x2 => J (placeOf Tryz.f115 5) (s5 x0 x1 x2)
noncomputable abbrev q11 {R : Type} (J : JT R) : J11 R := fun x0 x1 x2 x3 => J (placeOf Tryz.f115 11) (s11 x0 x1 x2 x3)
theorem k4 (J : JT R) (κ : KT R) (x0 x1 x2 : _) : S R c1 c2 c3 c4 κ J 4 (s4 x0 x1 x2) = t4 c2 c3 (q5 J) (q11 J) (K0 κ) x0 x1 x2 := by kernel_rfl
theorem k5 (J : JT R) (κ : KT R) (x0 x1 x2 : _) : S R c1 c2 c3 c4 κ J 5 (s5 x0 x1 x2) = t5 (q4 J) x0 x1 x2 := by kernel_rfl
theorem k11 (J : JT R) (κ : KT R) (x0 x1 x2 x3 : _) : S R c1 c2 c3 c4 κ J 11 (s11 x0 x1 x2 x3) = t11 c2 c3 c4 (q5 J) x0 x1 x2 x3 := by kernel_rfl
theorem k (κ : KT R) (k : Nat) (a0 : _) : runF (C R c1 c2 c3 c4) Tryz.f115 10000 k [.str a0] κ = r5_head.e c1 c2 c3 c4 a0 (q4 (G R c1 c2 c3 c4 κ k)) (q5 (G R c1 c2 c3 c4 κ k)) (q11 (G R c1 c2 c3 c4 κ k)) (K0 κ) := by kernel_rfl
theorem gM4 (κ : KT R) : ∀ (f : Nat), (q4 (G R c1 c2 c3 c4 κ f) = L4 c1 c2 c3 c4 (K0 κ) f) /\ (q5 (G R c1 c2 c3 c4 κ f) = L5 c1 c2 c3 c4 (K0 κ) f) /\ (q11 (G R c1 c2 c3 c4 κ f) = L11 c1 c2 c3 c4 (K0 κ) f)
 | 0 => ⟨rfl, rfl, rfl⟩
 | f + 1 => by
  obtain ⟨ih0, ih1, ih2⟩ := gM4 κ f
  refine ⟨?_, ?_, ?_⟩
  ·funext x0 x1 x2
   show S R c1 c2 c3 c4 κ (G R c1 c2 c3 c4 κ f) 4 _ = _
   rw [k4, ih1, ih2]
   rfl
  ·funext x0 x1 x2
   show S R c1 c2 c3 c4 κ (G R c1 c2 c3 c4 κ f) 5 _ = _
   rw [k5, ih0]
   rfl
  ·funext x0 x1 x2 x3
   show S R c1 c2 c3 c4 κ (G R c1 c2 c3 c4 κ f) 11 _ = _
   rw [k11, ih1]
   rfl
theorem g4 (κ : KT R) (f : Nat) : q4 (G R c1 c2 c3 c4 κ f) = L4 c1 c2 c3 c4 (K0 κ) f := (gM4 R c1 c2 c3 c4 κ f).1
theorem g5 (κ : KT R) (f : Nat) : q5 (G R c1 c2 c3 c4 κ f) = L5 c1 c2 c3 c4 (K0 κ) f := (gM4 R c1 c2 c3 c4 κ f).2.1
theorem g11 (κ : KT R) (f : Nat) : q11 (G R c1 c2 c3 c4 κ f) = L11 c1 c2 c3 c4 (K0 κ) f := (gM4 R c1 c2 c3 c4 κ f).2.2
end
theorem Γ_does {R : Type} (tab : Tab) (ht : TabOk tab) (g : Nat) : Does (R := R) Tryz.prog (tabTy tyL) tab g ((C R r5_lines r5_blank r5_bare r5_colon).call g) := by
 refine does_of fun xs κ => ?_
 show DoesAt _ _ _ g xs κ (Γ R r5_lines r5_blank r5_bare r5_colon g xs κ)
 unfold Γ
 split
 ·split
  ·exact r5_bare.does tab ht _ κ
  ·exact DoesAt.none
 ·split
  ·exact r5_lines.does tab ht _ κ
  ·exact DoesAt.none
 ·split
  ·exact r5_blank.does tab ht _ κ
  ·exact DoesAt.none
 ·split
  ·exact r5_colon.does tab ht _ κ
  ·exact DoesAt.none
 ·exact DoesAt.none
theorem does {R : Type} (tab : Tab) (ht : TabOk tab) (a0 : _) (κ : KT R) : DoesAt Tryz.prog (tabTy tyL) tab 115 [.str a0] κ (r5_head a0 (K0 κ)) := doesAt_run (C := C R r5_lines r5_blank r5_bare r5_colon) (fn := Tryz.f115) tyOk (Γ_does tab ht) (by kernel_rfl) (by kernel_rfl) (by rw [k]; rw [g4 R r5_lines r5_blank r5_bare r5_colon κ fuelK, g5 R r5_lines r5_blank r5_bare r5_colon κ fuelK, g11 R r5_lines r5_blank r5_bare r5_colon κ fuelK]; rfl)
end r5_head
namespace r5_trim
abbrev K0 {R : Type} (κ : KT R) : BA -> Option R := fun r0 => κ [.str r0]
section
variable (R : Type) (c1 : r5_blank.F R)
def Γ (g : Nat) (xs : List SV) (κ : KT R) : Option R :=
 match g with
 | 154 => (match xs with
  | [.int .u8 a0] => c1 a0 (r5_blank.K0 κ)
  | _ => none)
 | _ => none
def h (n : Nat) : Option (List (Nat × List (Nat × Nat))) :=
 match n with
 | 1 => some [(0, [(0, 0)])]
 | 3 => some [(0, [(0, 0)])]
 | _ => none
def C : Cfg R := ⟨tabTy tyL, Γ R c1, fun _ => false, h, 0⟩
noncomputable def S := S0 (C R c1) Tryz.f126 0
noncomputable def G := G0 (C R c1) Tryz.f126 0
def s1 := fun x0 => (⟨mkS 30 [(0, .str x0)], [], top⟩ : St)
def s3 := fun x0 => (⟨mkS 30 [(0, .str x0)], [], top⟩ : St)
noncomputable abbrev q1 {R : Type} (J : JT R) : BA -> Option R := fun x0 => J (placeOf Tryz.f126 1) (s1 x0)
noncomputable abbrev q3 {R : Type} (J : JT R) : BA -> Option R := fun x0 => J (placeOf Tryz.f126 3) (s3 x0)
theorem k1 (J : JT R) (κ : KT R) (x0 : _) : S R c1 κ J 1 (s1 x0) = t1 c1 (q1 J) (q3 J) x0 := by kernel_rfl
theorem k3 (J : JT R) (κ : KT R) (x0 : _) : S R c1 κ J 3 (s3 x0) = t3 c1 (q3 J) (K0 κ) x0 := by kernel_rfl
theorem k (κ : KT R) (k : Nat) (a0 : _) : runF (C R c1) Tryz.f126 10000 k [.str a0] κ = r5_trim.e c1 a0 (q1 (G R c1 κ k)) (q3 (G R c1 κ k)) (K0 κ) := by kernel_rfl
theorem g3 (κ : KT R) : ∀ (f : Nat), q3 (G R c1 κ f) = L3 c1 (K0 κ) f
 | 0 => rfl
 | f + 1 => by
  funext x0
  show S R c1 κ (G R c1 κ f) 3 _ = _
  rw [k3, g3 κ f]
  rfl
theorem g1 (κ : KT R) : ∀ (f : Nat), q1 (G R c1 κ f) = L1 c1 (K0 κ) f
 | 0 => rfl
 | f + 1 => by
  funext x0
  show S R c1 κ (G R c1 κ f) 1 _ = _
  rw [k1, g1 κ f, g3 R c1 κ f]
  rfl
end
theorem Γ_does {R : Type} (tab : Tab) (ht : TabOk tab) (g : Nat) : Does (R := R) Tryz.prog (tabTy tyL) tab g ((C R r5_blank).call g) := by
 refine does_of fun xs κ => ?_
 show DoesAt _ _ _ g xs κ (Γ R r5_blank g xs κ)
 unfold Γ
 split
 ·split
  ·exact r5_blank.does tab ht _ κ
  ·exact DoesAt.none
 ·exact DoesAt.none
theorem does {R : Type} (tab : Tab) (ht : TabOk tab) (a0 : _) (κ : KT R) : DoesAt Tryz.prog (tabTy tyL) tab 126 [.str a0] κ (r5_trim a0 (K0 κ)) := doesAt_run (C := C R r5_blank) (fn := Tryz.f126) tyOk (Γ_does tab ht) (by kernel_rfl) (by kernel_rfl) (by rw [k]; rw [g1 R r5_blank κ fuelK, g3 R r5_blank κ fuelK]; rfl)
end r5_trim
namespace r5_Fields
abbrev K0 {R : Type} (κ : KT R) : LA -> Option R := fun r0 => κ [.fr 168 r0 true]
section
variable (R : Type) (c1 : r5_head.F R) (c2 : r5_trim.F R)
def Γ (g : Nat) (xs : List SV) (κ : KT R) : Option R :=
 match g with
 | 115 => (match xs with
  | [.str a0] => c1 a0 (r5_head.K0 κ)
  | _ => none)
 | 126 => (match xs with
  | [.str a0] => c2 a0 (r5_trim.K0 κ)
  | _ => none)
 | _ => none
def h (n : Nat) : Option (List (Nat × List (Nat × Nat))) :=
 match n with
 | 4 => some [(3, [(0, 170)]), (4, [(0, 0)]), (5, [(0, 0)])]
 | _ => none
def C : Cfg R := ⟨tabTy tyL, Γ R c1 c2, fun _ => false, h, 0⟩
noncomputable def S := S0 (C R c1 c2) Tryz.f83 0
noncomputable def G := G0 (C R c1 c2) Tryz.f83 0
def s4 := fun x0 x1 x2 => (⟨mkS 39 [(3, .own 256), (4, .own 320), (5, .int .i64 x0)], [(256, .row 168 x1 true), (320, .row 168 x2 true)], top⟩ : St)
noncomputable abbrev q4 {R : Type} (J : JT R) : J4 R := fun x0 x1 x2 => J (placeOf Tryz.f83 4) (s4 x0 x1 x2)
theorem k4 (J : JT R) (κ : KT R) (x0 x1 x2 : _) : S R c1 c2 κ J 4 (s4 x0 x1 x2) = t4 c2 (q4 J) (K0 κ) x0 x1 x2 := by kernel_rfl
theorem k (κ : KT R) (k : Nat) (a0 : _) : runF (C R c1 c2) Tryz.f83 10000 k [.str a0] κ = r5_Fields.e c1 c2 a0 (q4 (G R c1 c2 κ k)) (K0 κ) := by kernel_rfl
theorem g4 (κ : KT R) : ∀ (f : Nat), q4 (G R c1 c2 κ f) = L4 c1 c2 (K0 κ) f
 | 0 => rfl
 | f + 1 => by
  funext x0 x1 x2
  show S R c1 c2 κ (G R c1 c2 κ f) 4 _ = _
  rw [k4, g4 κ f]
  rfl
end
theorem Γ_does {R : Type} (tab : Tab) (ht : TabOk tab) (g : Nat) : Does (R := R) Tryz.prog (tabTy tyL) tab g ((C R r5_head r5_trim).call g) := by
 refine does_of fun xs κ => ?_
 show DoesAt _ _ _ g xs κ (Γ R r5_head r5_trim g xs κ)
 unfold Γ
 split
 ·split
  ·exact r5_head.does tab ht _ κ
  ·exact DoesAt.none
 ·split
  ·exact r5_trim.does tab ht _ κ
  ·exact DoesAt.none
 ·exact DoesAt.none
theorem does {R : Type} (tab : Tab) (ht : TabOk tab) (a0 : _) (κ : KT R) : DoesAt Tryz.prog (tabTy tyL) tab 83 [.str a0] κ (r5_Fields a0 (K0 κ)) := doesAt_run (C := C R r5_head r5_trim) (fn := Tryz.f83) tyOk (Γ_does tab ht) (by kernel_rfl) (by kernel_rfl) (by rw [k]; rw [g4 R r5_head r5_trim κ fuelK]; rfl)
end r5_Fields
namespace r1_Lower
abbrev K0 {R : Type} (κ : KT R) : BA -> Option R := fun r0 => κ [.str r0]
section
variable (R : Type)
def Γ (g : Nat) (xs : List SV) (κ : KT R) : Option R :=
 match g with
 | _ => none
def h (n : Nat) : Option (List (Nat × List (Nat × Nat))) :=
 match n with
 | 3 => some [(0, [(0, 0)]), (3, [(0, 7)]), (4, [(0, 0)])]
 | _ => none
def C : Cfg R := ⟨tabTy tyL, Γ R, fun _ => false, h, 0⟩
noncomputable def S := S0 (C R) Tryz.f156 0
noncomputable def G := G0 (C R) Tryz.f156 0
def s3 := fun x0 x1 x2 => (⟨mkS 29 [(0, .str x0), (3, .own 256), (4, .int .i64 x1)], [(256, .row 5 x2 true)], top⟩ : St)
noncomputable abbrev q3 {R : Type} (J : JT R) : J3 R := fun x0 x1 x2 => J (placeOf Tryz.f156 3) (s3 x0 x1 x2)
theorem k3 (J : JT R) (κ : KT R) (x0 x1 x2 : _) : S R κ J 3 (s3 x0 x1 x2) = t3 (q3 J) (K0 κ) x0 x1 x2 := by kernel_rfl
theorem k (κ : KT R) (k : Nat) (a0 : _) : runF (C R) Tryz.f156 10000 k [.str a0] κ = r1_Lower.e a0 (q3 (G R κ k)) (K0 κ) := by kernel_rfl
theorem g3 (κ : KT R) : ∀ (f : Nat), q3 (G R κ f) = L3 (K0 κ) f
 | 0 => rfl
 | f + 1 => by
  funext x0 x1 x2
  show S R κ (G R κ f) 3 _ = _
  rw [k3, g3 κ f]
  rfl
end
theorem Γ_does {R : Type} (tab : Tab) (ht : TabOk tab) (g : Nat) : Does (R := R) Tryz.prog (tabTy tyL) tab g ((C R).call g) := by
 refine does_of fun xs κ => ?_
 show DoesAt _ _ _ g xs κ (Γ R g xs κ)
 unfold Γ
 split
 ·exact DoesAt.none
theorem does {R : Type} (tab : Tab) (ht : TabOk tab) (a0 : _) (κ : KT R) : DoesAt Tryz.prog (tabTy tyL) tab 156 [.str a0] κ (r1_Lower a0 (K0 κ)) := doesAt_run (C := C R) (fn := Tryz.f156) tyOk (Γ_does tab ht) (by kernel_rfl) (by kernel_rfl) (by rw [k]; rw [g3 R κ fuelK]; rfl)
end r1_Lower
namespace r1_Same
abbrev K0 {R : Type} (κ : KT R) : Bool -> Option R := fun r0 => κ [.bool r0]
section
variable (R : Type) (c1 : r1_Lower.F R)
def Γ (g : Nat) (xs : List SV) (κ : KT R) : Option R :=
 match g with
 | 156 => (match xs with
  | [.str a0] => c1 a0 (r1_Lower.K0 κ)
  | _ => none)
 | _ => none
def h (n : Nat) : Option (List (Nat × List (Nat × Nat))) :=
 match n with
 | _ => none
def C : Cfg R := ⟨tabTy tyL, Γ R c1, fun _ => false, h, 0⟩
theorem k (κ : KT R) (k : Nat) (a0 a1 : _) : runF (C R c1) Tryz.f116 10000 k [.str a0, .str a1] κ = r1_Same.e c1 a0 a1 (K0 κ) := by kernel_rfl
end
theorem Γ_does {R : Type} (tab : Tab) (ht : TabOk tab) (g : Nat) : Does (R := R) Tryz.prog (tabTy tyL) tab g ((C R r1_Lower).call g) := by
 refine does_of fun xs κ => ?_
 show DoesAt _ _ _ g xs κ (Γ R r1_Lower g xs κ)
 unfold Γ
 split
 ·split
  ·exact r1_Lower.does tab ht _ κ
  ·exact DoesAt.none
 ·exact DoesAt.none
theorem does {R : Type} (tab : Tab) (ht : TabOk tab) (a0 a1 : _) (κ : KT R) : DoesAt Tryz.prog (tabTy tyL) tab 116 [.str a0, .str a1] κ (r1_Same a0 a1 (K0 κ)) := doesAt_run (C := C R r1_Lower) (fn := Tryz.f116) tyOk (Γ_does tab ht) (by kernel_rfl) (by kernel_rfl) (by rw [k]; rfl)
end r1_Same
namespace r5_Get
abbrev K0 {R : Type} (κ : KT R) : Bool -> BA -> Option R := fun r0 r1 => κ [.agg [.bool r0, .str r1]]
section
variable (R : Type) (c1 : r1_Same.F R)
def Γ (g : Nat) (xs : List SV) (κ : KT R) : Option R :=
 match g with
 | 116 => (match xs with
  | [.str a0, .str a1] => c1 a0 a1 (r1_Same.K0 κ)
  | _ => none)
 | _ => none
def h (n : Nat) : Option (List (Nat × List (Nat × Nat))) :=
 match n with
 | 2 => some [(0, [(0, 0)]), (1, [(0, 0)]), (4, [(0, 0)]), (5, [(0, 0)])]
 | _ => none
def C : Cfg R := ⟨tabTy tyL, Γ R c1, fun _ => false, h, 0⟩
noncomputable def S := S0 (C R c1) Tryz.f99 0
noncomputable def G := G0 (C R c1) Tryz.f99 0
def s2 := fun x0 x1 x2 x3 x4 => (⟨mkS 26 [(0, .ro 168 x0 false), (1, .str x1), (4, .ptr 383 0), (5, .int .i64 x2)], [(383, .var 26 [.bool x3, .str x4])], top⟩ : St)
noncomputable abbrev q2 {R : Type} (J : JT R) : J2 R := fun x0 x1 x2 x3 x4 => J (placeOf Tryz.f99 2) (s2 x0 x1 x2 x3 x4)
theorem k2 (J : JT R) (κ : KT R) (x0 x1 x2 x3 x4 : _) : S R c1 κ J 2 (s2 x0 x1 x2 x3 x4) = t2 c1 (q2 J) (K0 κ) x0 x1 x2 x3 x4 := by kernel_rfl
theorem k (κ : KT R) (k : Nat) (a0 a1 : _) : runF (C R c1) Tryz.f99 10000 k [.ro 168 a0 false, .str a1] κ = r5_Get.e c1 a0 a1 (q2 (G R c1 κ k)) (K0 κ) := by kernel_rfl
theorem g2 (κ : KT R) : ∀ (f : Nat), q2 (G R c1 κ f) = L2 c1 (K0 κ) f
 | 0 => rfl
 | f + 1 => by
  funext x0 x1 x2 x3 x4
  show S R c1 κ (G R c1 κ f) 2 _ = _
  rw [k2, g2 κ f]
  rfl
end
theorem Γ_does {R : Type} (tab : Tab) (ht : TabOk tab) (g : Nat) : Does (R := R) Tryz.prog (tabTy tyL) tab g ((C R r1_Same).call g) := by
 refine does_of fun xs κ => ?_
 show DoesAt _ _ _ g xs κ (Γ R r1_Same g xs κ)
 unfold Γ
 split
 ·split
  ·exact r1_Same.does tab ht _ _ κ
  ·exact DoesAt.none
 ·exact DoesAt.none
theorem does {R : Type} (tab : Tab) (ht : TabOk tab) (a0 a1 : _) (κ : KT R) : DoesAt Tryz.prog (tabTy tyL) tab 99 [.ro 168 a0 false, .str a1] κ (r5_Get a0 a1 (K0 κ)) := doesAt_run (C := C R r1_Same) (fn := Tryz.f99) tyOk (Γ_does tab ht) (by kernel_rfl) (by kernel_rfl) (by rw [k]; rw [g2 R r1_Same κ fuelK]; rfl)
end r5_Get
namespace r6_blank
abbrev K0 {R : Type} (κ : KT R) : Int -> Option R := fun r0 => κ [.int .i64 r0]
section
variable (R : Type)
def Γ (g : Nat) (xs : List SV) (κ : KT R) : Option R :=
 match g with
 | _ => none
def h (n : Nat) : Option (List (Nat × List (Nat × Nat))) :=
 match n with
 | 1 => some [(0, [(0, 0)]), (1, [(0, 0)])]
 | 7 => some [(0, [(0, 0)]), (1, [(0, 0)]), (5, [(0, 0)])]
 | _ => none
def C : Cfg R := ⟨tabTy tyL, Γ R, fun _ => false, h, 0⟩
noncomputable def S := S0 (C R) Tryz.f143 0
noncomputable def G := G0 (C R) Tryz.f143 0
def s1 := fun x0 x1 => (⟨mkS 58 [(0, .str x0), (1, .int .i64 x1)], [], top⟩ : St)
def s7 := fun x0 x1 x2 => (⟨mkS 58 [(0, .str x0), (1, .int .i64 x1), (5, .int .i64 x2)], [], top⟩ : St)
noncomputable abbrev q1 {R : Type} (J : JT R) : BA -> Int -> Option R := fun x0 x1 => J (placeOf Tryz.f143 1) (s1 x0 x1)
noncomputable abbrev q7 {R : Type} (J : JT R) : J7 R := fun x0 x1 x2 => J (placeOf Tryz.f143 7) (s7 x0 x1 x2)
theorem k1 (J : JT R) (κ : KT R) (x0 x1 : _) : S R κ J 1 (s1 x0 x1) = t1 (q1 J) (q7 J) (K0 κ) x0 x1 := by kernel_rfl
theorem k7 (J : JT R) (κ : KT R) (x0 x1 x2 : _) : S R κ J 7 (s7 x0 x1 x2) = t7 (q1 J) (q7 J) x0 x1 x2 := by kernel_rfl
theorem k (κ : KT R) (k : Nat) (a0 a1 : _) : runF (C R) Tryz.f143 10000 k [.str a0, .int .i64 a1] κ = r6_blank.e a0 a1 (q1 (G R κ k)) (q7 (G R κ k)) (K0 κ) := by kernel_rfl
theorem gM1 (κ : KT R) : ∀ (f : Nat), (q1 (G R κ f) = L1 (K0 κ) f) /\ (q7 (G R κ f) = L7 (K0 κ) f)
 | 0 => ⟨rfl, rfl⟩
 | f + 1 => by
  obtain ⟨ih0, ih1⟩ := gM1 κ f
  refine ⟨?_, ?_⟩
  ·funext x0 x1
   show S R κ (G R κ f) 1 _ = _
   rw [k1, ih0, ih1]
   rfl
  ·funext x0 x1 x2
   show S R κ (G R κ f) 7 _ = _
   rw [k7, ih0, ih1]
   rfl
theorem g1 (κ : KT R) (f : Nat) : q1 (G R κ f) = L1 (K0 κ) f := (gM1 R κ f).1
theorem g7 (κ : KT R) (f : Nat) : q7 (G R κ f) = L7 (K0 κ) f := (gM1 R κ f).2
end
theorem Γ_does {R : Type} (tab : Tab) (ht : TabOk tab) (g : Nat) : Does (R := R) Tryz.prog (tabTy tyL) tab g ((C R).call g) := by
 refine does_of fun xs κ => ?_
 show DoesAt _ _ _ g xs κ (Γ R g xs κ)
 unfold Γ
 split
 ·exact DoesAt.none
theorem does {R : Type} (tab : Tab) (ht : TabOk tab) (a0 a1 : _) (κ : KT R) : DoesAt Tryz.prog (tabTy tyL) tab 143 [.str a0, .int .i64 a1] κ (r6_blank a0 a1 (K0 κ)) := doesAt_run (C := C R) (fn := Tryz.f143) tyOk (Γ_does tab ht) (by kernel_rfl) (by kernel_rfl) (by rw [k]; rw [g1 R κ fuelK, g7 R κ fuelK]; rfl)
end r6_blank
namespace r6_tokenByte
abbrev K0 {R : Type} (κ : KT R) : Bool -> Option R := fun r0 => κ [.bool r0]
section
variable (R : Type)
def Γ (g : Nat) (xs : List SV) (κ : KT R) : Option R :=
 match g with
 | _ => none
def h (n : Nat) : Option (List (Nat × List (Nat × Nat))) :=
 match n with
 | 5 => some [(0, [(0, 0)]), (3, [(0, 0)]), (4, [(0, 0)])]
 | _ => none
def C : Cfg R := ⟨tabTy tyL, Γ R, fun _ => false, h, 0⟩
noncomputable def S := S0 (C R) Tryz.f183 0
noncomputable def G := G0 (C R) Tryz.f183 0
def s5 := fun x0 x1 x2 => (⟨mkS 22 [(0, .int .u8 x0), (3, .str x1), (4, .int .i64 x2)], [], top⟩ : St)
noncomputable abbrev q5 {R : Type} (J : JT R) : J5 R := fun x0 x1 x2 => J (placeOf Tryz.f183 5) (s5 x0 x1 x2)
theorem k5 (J : JT R) (κ : KT R) (x0 x1 x2 : _) : S R κ J 5 (s5 x0 x1 x2) = t5 (q5 J) (K0 κ) x0 x1 x2 := by kernel_rfl
theorem k (κ : KT R) (k : Nat) (a0 : _) : runF (C R) Tryz.f183 10000 k [.int .u8 a0] κ = r6_tokenByte.e a0 (q5 (G R κ k)) (K0 κ) := by kernel_rfl
theorem g5 (κ : KT R) : ∀ (f : Nat), q5 (G R κ f) = L5 (K0 κ) f
 | 0 => rfl
 | f + 1 => by
  funext x0 x1 x2
  show S R κ (G R κ f) 5 _ = _
  rw [k5, g5 κ f]
  rfl
end
theorem Γ_does {R : Type} (tab : Tab) (ht : TabOk tab) (g : Nat) : Does (R := R) Tryz.prog (tabTy tyL) tab g ((C R).call g) := by
 refine does_of fun xs κ => ?_
 show DoesAt _ _ _ g xs κ (Γ R g xs κ)
 unfold Γ
 split
 ·exact DoesAt.none
theorem does {R : Type} (tab : Tab) (ht : TabOk tab) (a0 : _) (κ : KT R) : DoesAt Tryz.prog (tabTy tyL) tab 183 [.int .u8 a0] κ (r6_tokenByte a0 (K0 κ)) := doesAt_run (C := C R) (fn := Tryz.f183) tyOk (Γ_does tab ht) (by kernel_rfl) (by kernel_rfl) (by rw [k]; rw [g5 R κ fuelK]; rfl)
end r6_tokenByte
namespace r6_token
abbrev K0 {R : Type} (κ : KT R) : BA -> Option R := fun r0 => κ [.str r0]
section
variable (R : Type) (c1 : r6_tokenByte.F R)
def Γ (g : Nat) (xs : List SV) (κ : KT R) : Option R :=
 match g with
 | 183 => (match xs with
  | [.int .u8 a0] => c1 a0 (r6_tokenByte.K0 κ)
  | _ => none)
 | _ => none
def h (n : Nat) : Option (List (Nat × List (Nat × Nat))) :=
 match n with
 | 2 => some [(0, [(0, 0)]), (1, [(0, 0)]), (5, [(0, 0)])]
 | _ => none
def C : Cfg R := ⟨tabTy tyL, Γ R c1, fun _ => false, h, 0⟩
noncomputable def S := S0 (C R c1) Tryz.f144 0
noncomputable def G := G0 (C R c1) Tryz.f144 0
def s2 := fun x0 x1 x2 => (⟨mkS 23 [(0, .str x0), (1, .int .i64 x1), (5, .int .i64 x2)], [], top⟩ : St)
noncomputable abbrev q2 {R : Type} (J : JT R) : J2 R := fun x0 x1 x2 => J (placeOf Tryz.f144 2) (s2 x0 x1 x2)
theorem k2 (J : JT R) (κ : KT R) (x0 x1 x2 : _) : S R c1 κ J 2 (s2 x0 x1 x2) = t2 c1 (q2 J) (K0 κ) x0 x1 x2 := by kernel_rfl
theorem k (κ : KT R) (k : Nat) (a0 a1 : _) : runF (C R c1) Tryz.f144 10000 k [.str a0, .int .i64 a1] κ = r6_token.e c1 a0 a1 (q2 (G R c1 κ k)) (K0 κ) := by kernel_rfl
theorem g2 (κ : KT R) : ∀ (f : Nat), q2 (G R c1 κ f) = L2 c1 (K0 κ) f
 | 0 => rfl
 | f + 1 => by
  funext x0 x1 x2
  show S R c1 κ (G R c1 κ f) 2 _ = _
  rw [k2, g2 κ f]
  rfl
end
theorem Γ_does {R : Type} (tab : Tab) (ht : TabOk tab) (g : Nat) : Does (R := R) Tryz.prog (tabTy tyL) tab g ((C R r6_tokenByte).call g) := by
 refine does_of fun xs κ => ?_
 show DoesAt _ _ _ g xs κ (Γ R r6_tokenByte g xs κ)
 unfold Γ
 split
 ·split
  ·exact r6_tokenByte.does tab ht _ κ
  ·exact DoesAt.none
 ·exact DoesAt.none
theorem does {R : Type} (tab : Tab) (ht : TabOk tab) (a0 a1 : _) (κ : KT R) : DoesAt Tryz.prog (tabTy tyL) tab 144 [.str a0, .int .i64 a1] κ (r6_token a0 a1 (K0 κ)) := doesAt_run (C := C R r6_tokenByte) (fn := Tryz.f144) tyOk (Γ_does tab ht) (by kernel_rfl) (by kernel_rfl) (by rw [k]; rw [g2 R r6_tokenByte κ fuelK]; rfl)
end r6_token
namespace r6_lower
abbrev K0 {R : Type} (κ : KT R) : BA -> Option R := fun r0 => κ [.str r0]
section
variable (R : Type)
def Γ (g : Nat) (xs : List SV) (κ : KT R) : Option R :=
 match g with
 | _ => none
def h (n : Nat) : Option (List (Nat × List (Nat × Nat))) :=
 match n with
 | 3 => some [(0, [(0, 0)]), (3, [(0, 7)]), (4, [(0, 0)])]
 | _ => none
def C : Cfg R := ⟨tabTy tyL, Γ R, fun _ => false, h, 0⟩
noncomputable def S := S0 (C R) Tryz.f145 0
noncomputable def G := G0 (C R) Tryz.f145 0
def s3 := fun x0 x1 x2 => (⟨mkS 29 [(0, .str x0), (3, .own 256), (4, .int .i64 x1)], [(256, .row 5 x2 true)], top⟩ : St)
noncomputable abbrev q3 {R : Type} (J : JT R) : J3 R := fun x0 x1 x2 => J (placeOf Tryz.f145 3) (s3 x0 x1 x2)
theorem k3 (J : JT R) (κ : KT R) (x0 x1 x2 : _) : S R κ J 3 (s3 x0 x1 x2) = t3 (q3 J) (K0 κ) x0 x1 x2 := by kernel_rfl
theorem k (κ : KT R) (k : Nat) (a0 : _) : runF (C R) Tryz.f145 10000 k [.str a0] κ = r6_lower.e a0 (q3 (G R κ k)) (K0 κ) := by kernel_rfl
theorem g3 (κ : KT R) : ∀ (f : Nat), q3 (G R κ f) = L3 (K0 κ) f
 | 0 => rfl
 | f + 1 => by
  funext x0 x1 x2
  show S R κ (G R κ f) 3 _ = _
  rw [k3, g3 κ f]
  rfl
end
theorem Γ_does {R : Type} (tab : Tab) (ht : TabOk tab) (g : Nat) : Does (R := R) Tryz.prog (tabTy tyL) tab g ((C R).call g) := by
 refine does_of fun xs κ => ?_
 show DoesAt _ _ _ g xs κ (Γ R g xs κ)
 unfold Γ
 split
 ·exact DoesAt.none
theorem does {R : Type} (tab : Tab) (ht : TabOk tab) (a0 : _) (κ : KT R) : DoesAt Tryz.prog (tabTy tyL) tab 145 [.str a0] κ (r6_lower a0 (K0 κ)) := doesAt_run (C := C R) (fn := Tryz.f145) tyOk (Γ_does tab ht) (by kernel_rfl) (by kernel_rfl) (by rw [k]; rw [g3 R κ fuelK]; rfl)
end r6_lower
namespace r6_word
abbrev K0 {R : Type} (κ : KT R) : Q0 R := fun r0 r1 r2 => κ [.tup [.str r0, .int .i64 r1, .bool r2]]
section
variable (R : Type) (c1 : r6_token.F R)
def Γ (g : Nat) (xs : List SV) (κ : KT R) : Option R :=
 match g with
 | 144 => (match xs with
  | [.str a0, .int .i64 a1] => c1 a0 a1 (r6_token.K0 κ)
  | _ => none)
 | _ => none
def h (n : Nat) : Option (List (Nat × List (Nat × Nat))) :=
 match n with
 | 8 => some [(0, [(0, 0)]), (1, [(0, 0)]), (8, [(0, 7)]), (9, [(0, 0)])]
 | _ => none
def C : Cfg R := ⟨tabTy tyL, Γ R c1, fun _ => false, h, 0⟩
noncomputable def S := S0 (C R c1) Tryz.f147 0
noncomputable def G := G0 (C R c1) Tryz.f147 0
def s8 := fun x0 x1 x2 x3 => (⟨mkS 67 [(0, .str x0), (1, .int .i64 x1), (8, .own 576), (9, .int .i64 x2)], [(576, .row 5 x3 true)], top⟩ : St)
noncomputable abbrev q8 {R : Type} (J : JT R) : J8 R := fun x0 x1 x2 x3 => J (placeOf Tryz.f147 8) (s8 x0 x1 x2 x3)
theorem k8 (J : JT R) (κ : KT R) (x0 x1 x2 x3 : _) : S R c1 κ J 8 (s8 x0 x1 x2 x3) = t8 (q8 J) (K0 κ) x0 x1 x2 x3 := by kernel_rfl
theorem k (κ : KT R) (k : Nat) (a0 a1 : _) : runF (C R c1) Tryz.f147 10000 k [.str a0, .int .i64 a1] κ = r6_word.e c1 a0 a1 (q8 (G R c1 κ k)) (K0 κ) := by kernel_rfl
theorem g8 (κ : KT R) : ∀ (f : Nat), q8 (G R c1 κ f) = L8 c1 (K0 κ) f
 | 0 => rfl
 | f + 1 => by
  funext x0 x1 x2 x3
  show S R c1 κ (G R c1 κ f) 8 _ = _
  rw [k8, g8 κ f]
  rfl
end
theorem Γ_does {R : Type} (tab : Tab) (ht : TabOk tab) (g : Nat) : Does (R := R) Tryz.prog (tabTy tyL) tab g ((C R r6_token).call g) := by
 refine does_of fun xs κ => ?_
 show DoesAt _ _ _ g xs κ (Γ R r6_token g xs κ)
 unfold Γ
 split
 ·split
  ·exact r6_token.does tab ht _ _ κ
  ·exact DoesAt.none
 ·exact DoesAt.none
theorem does {R : Type} (tab : Tab) (ht : TabOk tab) (a0 a1 : _) (κ : KT R) : DoesAt Tryz.prog (tabTy tyL) tab 147 [.str a0, .int .i64 a1] κ (r6_word a0 a1 (K0 κ)) := doesAt_run (C := C R r6_token) (fn := Tryz.f147) tyOk (Γ_does tab ht) (by kernel_rfl) (by kernel_rfl) (by rw [k]; rw [g8 R r6_token κ fuelK]; rfl)
end r6_word
namespace r6_params
abbrev K0 {R : Type} (κ : KT R) : LA -> Option R := fun r0 => κ [.fr 129 r0 true]
section
variable (R : Type) (c1 : r6_blank.F R) (c2 : r6_token.F R) (c3 : r6_lower.F R) (c4 : r6_word.F R)
def Γ (g : Nat) (xs : List SV) (κ : KT R) : Option R :=
 match g with
 | 143 => (match xs with
  | [.str a0, .int .i64 a1] => c1 a0 a1 (r6_blank.K0 κ)
  | _ => none)
 | 144 => (match xs with
  | [.str a0, .int .i64 a1] => c2 a0 a1 (r6_token.K0 κ)
  | _ => none)
 | 145 => (match xs with
  | [.str a0] => c3 a0 (r6_lower.K0 κ)
  | _ => none)
 | 147 => (match xs with
  | [.str a0, .int .i64 a1] => c4 a0 a1 (r6_word.K0 κ)
  | _ => none)
 | _ => none
def h (n : Nat) : Option (List (Nat × List (Nat × Nat))) :=
 match n with
 | 2 => some [(0, [(0, 0)]), (1, [(0, 0)]), (5, [(0, 131)])]
 | 17 => some [(0, [(0, 0)]), (1, [(0, 0)]), (5, [(0, 0)]), (6, [(0, 0)]), (7, [(0, 0)]), (10, [(0, 0)]), (11, [(0, 0)])]
 | _ => none
def C : Cfg R := ⟨tabTy tyL, Γ R c1 c2 c3 c4, fun _ => false, h, 0⟩
noncomputable def S := S0 (C R c1 c2 c3 c4) Tryz.f102 0
noncomputable def G := G0 (C R c1 c2 c3 c4) Tryz.f102 0
def s2 := fun x0 x1 x2 => (⟨mkS 97 [(0, .str x0), (1, .int .i64 x1), (5, .own 384)], [(384, .row 129 x2 true)], top⟩ : St)
def s17 := fun x0 x1 x2 x3 x4 x5 x6 => (⟨mkS 97 [(0, .str x0), (1, .int .i64 x1), (5, .own 384), (6, .str x2), (7, .str x3), (10, .bool x4), (11, .int .i64 x5)], [(384, .row 129 x6 true)], top⟩ : St)
noncomputable abbrev q2 {R : Type} (J : JT R) : J2 R := fun x0 x1 x2 => J (placeOf Tryz.f102 2) (s2 x0 x1 x2)
noncomputable abbrev q17 {R : Type} (J : JT R) : J17 R := fun x0 x1 x2 x3 x4 x5 x6 => J (placeOf Tryz.f102 17) (s17 x0 x1 x2 x3 x4 x5 x6)
theorem k2 (J : JT R) (κ : KT R) (x0 x1 x2 : _) : S R c1 c2 c3 c4 κ J 2 (s2 x0 x1 x2) = t2 c1 c2 c3 c4 (q17 J) (K0 κ) x0 x1 x2 := by kernel_rfl
theorem k17 (J : JT R) (κ : KT R) (x0 x1 x2 x3 x4 x5 x6 : _) : S R c1 c2 c3 c4 κ J 17 (s17 x0 x1 x2 x3 x4 x5 x6) = t17 (q2 J) (q17 J) x0 x1 x2 x3 x4 x5 x6 := by kernel_rfl
theorem k (κ : KT R) (k : Nat) (a0 a1 : _) : runF (C R c1 c2 c3 c4) Tryz.f102 10000 k [.str a0, .int .i64 a1] κ = r6_params.e c1 c2 c3 c4 a0 a1 (q2 (G R c1 c2 c3 c4 κ k)) (q17 (G R c1 c2 c3 c4 κ k)) (K0 κ) := by kernel_rfl
theorem gM2 (κ : KT R) : ∀ (f : Nat), (q2 (G R c1 c2 c3 c4 κ f) = L2 c1 c2 c3 c4 (K0 κ) f) /\ (q17 (G R c1 c2 c3 c4 κ f) = L17 c1 c2 c3 c4 (K0 κ) f)
 | 0 => ⟨rfl, rfl⟩
 | f + 1 => by
  obtain ⟨ih0, ih1⟩ := gM2 κ f
  refine ⟨?_, ?_⟩
  ·funext x0 x1 x2
   show S R c1 c2 c3 c4 κ (G R c1 c2 c3 c4 κ f) 2 _ = _
   rw [k2, ih1]
   rfl
  ·funext x0 x1 x2 x3 x4 x5 x6
   show S R c1 c2 c3 c4 κ (G R c1 c2 c3 c4 κ f) 17 _ = _
   rw [k17, ih0, ih1]
   rfl
theorem g2 (κ : KT R) (f : Nat) : q2 (G R c1 c2 c3 c4 κ f) = L2 c1 c2 c3 c4 (K0 κ) f := (gM2 R c1 c2 c3 c4 κ f).1
theorem g17 (κ : KT R) (f : Nat) : q17 (G R c1 c2 c3 c4 κ f) = L17 c1 c2 c3 c4 (K0 κ) f := (gM2 R c1 c2 c3 c4 κ f).2
end
theorem Γ_does {R : Type} (tab : Tab) (ht : TabOk tab) (g : Nat) : Does (R := R) Tryz.prog (tabTy tyL) tab g ((C R r6_blank r6_token r6_lower r6_word).call g) := by
 refine does_of fun xs κ => ?_
 show DoesAt _ _ _ g xs κ (Γ R r6_blank r6_token r6_lower r6_word g xs κ)
 unfold Γ
 split
 ·split
  ·exact r6_blank.does tab ht _ _ κ
  ·exact DoesAt.none
 ·split
  ·exact r6_token.does tab ht _ _ κ
  ·exact DoesAt.none
 ·split
  ·exact r6_lower.does tab ht _ κ
  ·exact DoesAt.none
 ·split
  ·exact r6_word.does tab ht _ _ κ
  ·exact DoesAt.none
 ·exact DoesAt.none
theorem does {R : Type} (tab : Tab) (ht : TabOk tab) (a0 a1 : _) (κ : KT R) : DoesAt Tryz.prog (tabTy tyL) tab 102 [.str a0, .int .i64 a1] κ (r6_params a0 a1 (K0 κ)) := doesAt_run (C := C R r6_blank r6_token r6_lower r6_word) (fn := Tryz.f102) tyOk (Γ_does tab ht) (by kernel_rfl) (by kernel_rfl) (by rw [k]; rw [g2 R r6_blank r6_token r6_lower r6_word κ fuelK, g17 R r6_blank r6_token r6_lower r6_word κ fuelK]; rfl)
end r6_params
namespace r6_kind
abbrev K0 {R : Type} (κ : KT R) : Q0 R := fun r0 r1 r2 => κ [.tup [.str r0, .str r1, .fr 129 r2 true]]
abbrev K1 {R : Type} (κ : KT R) : BA -> BA -> Option R := fun r0 r1 => κ [.tup [.str r0, .str r1, .nil]]
section
variable (R : Type) (c1 : r6_blank.F R) (c2 : r6_token.F R) (c3 : r6_lower.F R) (c4 : r6_params.F R)
def Γ (g : Nat) (xs : List SV) (κ : KT R) : Option R :=
 match g with
 | 102 => (match xs with
  | [.str a0, .int .i64 a1] => c4 a0 a1 (r6_params.K0 κ)
  | _ => none)
 | 143 => (match xs with
  | [.str a0, .int .i64 a1] => c1 a0 a1 (r6_blank.K0 κ)
  | _ => none)
 | 144 => (match xs with
  | [.str a0, .int .i64 a1] => c2 a0 a1 (r6_token.K0 κ)
  | _ => none)
 | 145 => (match xs with
  | [.str a0] => c3 a0 (r6_lower.K0 κ)
  | _ => none)
 | _ => none
def h (n : Nat) : Option (List (Nat × List (Nat × Nat))) :=
 match n with
 | _ => none
def C : Cfg R := ⟨tabTy tyL, Γ R c1 c2 c3 c4, fun _ => false, h, 0⟩
theorem k (κ : KT R) (k : Nat) (a0 a1 a2 : _) : runF (C R c1 c2 c3 c4) Tryz.f98 10000 k [.agg [.bool a0, .str a1], .bool a2] κ = r6_kind.e c1 c2 c3 c4 a0 a1 a2 (K0 κ) (K1 κ) := by kernel_rfl
end
theorem Γ_does {R : Type} (tab : Tab) (ht : TabOk tab) (g : Nat) : Does (R := R) Tryz.prog (tabTy tyL) tab g ((C R r6_blank r6_token r6_lower r6_params).call g) := by
 refine does_of fun xs κ => ?_
 show DoesAt _ _ _ g xs κ (Γ R r6_blank r6_token r6_lower r6_params g xs κ)
 unfold Γ
 split
 ·split
  ·exact r6_params.does tab ht _ _ κ
  ·exact DoesAt.none
 ·split
  ·exact r6_blank.does tab ht _ _ κ
  ·exact DoesAt.none
 ·split
  ·exact r6_token.does tab ht _ _ κ
  ·exact DoesAt.none
 ·split
  ·exact r6_lower.does tab ht _ κ
  ·exact DoesAt.none
 ·exact DoesAt.none
theorem does {R : Type} (tab : Tab) (ht : TabOk tab) (a0 a1 a2 : _) (κ : KT R) : DoesAt Tryz.prog (tabTy tyL) tab 98 [.agg [.bool a0, .str a1], .bool a2] κ (r6_kind a0 a1 a2 (K0 κ) (K1 κ)) := doesAt_run (C := C R r6_blank r6_token r6_lower r6_params) (fn := Tryz.f98) tyOk (Γ_does tab ht) (by kernel_rfl) (by kernel_rfl) (by rw [k]; rfl)
end r6_kind
namespace r6_trim
abbrev K0 {R : Type} (κ : KT R) : BA -> Option R := fun r0 => κ [.str r0]
section
variable (R : Type)
def Γ (g : Nat) (xs : List SV) (κ : KT R) : Option R :=
 match g with
 | _ => none
def h (n : Nat) : Option (List (Nat × List (Nat × Nat))) :=
 match n with
 | 1 => some [(0, [(0, 0)])]
 | 3 => some [(0, [(0, 0)])]
 | _ => none
def C : Cfg R := ⟨tabTy tyL, Γ R, fun _ => false, h, 0⟩
noncomputable def S := S0 (C R) Tryz.f146 0
noncomputable def G := G0 (C R) Tryz.f146 0
def s1 := fun x0 => (⟨mkS 43 [(0, .str x0)], [], top⟩ : St)
def s3 := fun x0 => (⟨mkS 43 [(0, .str x0)], [], top⟩ : St)
noncomputable abbrev q1 {R : Type} (J : JT R) : BA -> Option R := fun x0 => J (placeOf Tryz.f146 1) (s1 x0)
noncomputable abbrev q3 {R : Type} (J : JT R) : BA -> Option R := fun x0 => J (placeOf Tryz.f146 3) (s3 x0)
theorem k1 (J : JT R) (κ : KT R) (x0 : _) : S R κ J 1 (s1 x0) = t1 (q1 J) (q3 J) x0 := by kernel_rfl
theorem k3 (J : JT R) (κ : KT R) (x0 : _) : S R κ J 3 (s3 x0) = t3 (q3 J) (K0 κ) x0 := by kernel_rfl
theorem k (κ : KT R) (k : Nat) (a0 : _) : runF (C R) Tryz.f146 10000 k [.str a0] κ = r6_trim.e a0 (q1 (G R κ k)) (q3 (G R κ k)) (K0 κ) := by kernel_rfl
theorem g3 (κ : KT R) : ∀ (f : Nat), q3 (G R κ f) = L3 (K0 κ) f
 | 0 => rfl
 | f + 1 => by
  funext x0
  show S R κ (G R κ f) 3 _ = _
  rw [k3, g3 κ f]
  rfl
theorem g1 (κ : KT R) : ∀ (f : Nat), q1 (G R κ f) = L1 (K0 κ) f
 | 0 => rfl
 | f + 1 => by
  funext x0
  show S R κ (G R κ f) 1 _ = _
  rw [k1, g1 κ f, g3 R κ f]
  rfl
end
theorem Γ_does {R : Type} (tab : Tab) (ht : TabOk tab) (g : Nat) : Does (R := R) Tryz.prog (tabTy tyL) tab g ((C R).call g) := by
 refine does_of fun xs κ => ?_
 show DoesAt _ _ _ g xs κ (Γ R g xs κ)
 unfold Γ
 split
 ·exact DoesAt.none
theorem does {R : Type} (tab : Tab) (ht : TabOk tab) (a0 : _) (κ : KT R) : DoesAt Tryz.prog (tabTy tyL) tab 146 [.str a0] κ (r6_trim a0 (K0 κ)) := doesAt_run (C := C R) (fn := Tryz.f146) tyOk (Γ_does tab ht) (by kernel_rfl) (by kernel_rfl) (by rw [k]; rw [g1 R κ fuelK, g3 R κ fuelK]; rfl)
end r6_trim
namespace r6_bare
abbrev K0 {R : Type} (κ : KT R) : Bool -> BA -> Option R := fun r0 r1 => κ [.agg [.bool r0, .str r1]]
section
variable (R : Type) (c1 : r6_trim.F R)
def Γ (g : Nat) (xs : List SV) (κ : KT R) : Option R :=
 match g with
 | 146 => (match xs with
  | [.str a0] => c1 a0 (r6_trim.K0 κ)
  | _ => none)
 | _ => none
def h (n : Nat) : Option (List (Nat × List (Nat × Nat))) :=
 match n with
 | _ => none
def C : Cfg R := ⟨tabTy tyL, Γ R c1, fun _ => false, h, 0⟩
theorem k (κ : KT R) (k : Nat) (a0 a1 : _) : runF (C R c1) Tryz.f100 10000 k [.agg [.bool a0, .str a1]] κ = r6_bare.e c1 a0 a1 (K0 κ) := by kernel_rfl
end
theorem Γ_does {R : Type} (tab : Tab) (ht : TabOk tab) (g : Nat) : Does (R := R) Tryz.prog (tabTy tyL) tab g ((C R r6_trim).call g) := by
 refine does_of fun xs κ => ?_
 show DoesAt _ _ _ g xs κ (Γ R r6_trim g xs κ)
 unfold Γ
 split
 ·split
  ·exact r6_trim.does tab ht _ κ
  ·exact DoesAt.none
 ·exact DoesAt.none
theorem does {R : Type} (tab : Tab) (ht : TabOk tab) (a0 a1 : _) (κ : KT R) : DoesAt Tryz.prog (tabTy tyL) tab 100 [.agg [.bool a0, .str a1]] κ (r6_bare a0 a1 (K0 κ)) := doesAt_run (C := C R r6_trim) (fn := Tryz.f100) tyOk (Γ_does tab ht) (by kernel_rfl) (by kernel_rfl) (by rw [k]; rfl)
end r6_bare
namespace r6_first
abbrev K0 {R : Type} (κ : KT R) : Q0 R := fun r0 r1 r2 => κ [.tup [.agg [.bool r0, .str r1], .int .i64 r2]]
section
variable (R : Type) (c1 : r6_blank.F R) (c2 : r6_token.F R) (c3 : r6_lower.F R)
def Γ (g : Nat) (xs : List SV) (κ : KT R) : Option R :=
 match g with
 | 143 => (match xs with
  | [.str a0, .int .i64 a1] => c1 a0 a1 (r6_blank.K0 κ)
  | _ => none)
 | 144 => (match xs with
  | [.str a0, .int .i64 a1] => c2 a0 a1 (r6_token.K0 κ)
  | _ => none)
 | 145 => (match xs with
  | [.str a0] => c3 a0 (r6_lower.K0 κ)
  | _ => none)
 | _ => none
def h (n : Nat) : Option (List (Nat × List (Nat × Nat))) :=
 match n with
 | _ => none
def C : Cfg R := ⟨tabTy tyL, Γ R c1 c2 c3, fun _ => false, h, 0⟩
theorem k (κ : KT R) (k : Nat) (a0 a1 : _) : runF (C R c1 c2 c3) Tryz.f101 10000 k [.agg [.bool a0, .str a1]] κ = r6_first.e c1 c2 c3 a0 a1 (K0 κ) := by kernel_rfl
end
theorem Γ_does {R : Type} (tab : Tab) (ht : TabOk tab) (g : Nat) : Does (R := R) Tryz.prog (tabTy tyL) tab g ((C R r6_blank r6_token r6_lower).call g) := by
 refine does_of fun xs κ => ?_
 show DoesAt _ _ _ g xs κ (Γ R r6_blank r6_token r6_lower g xs κ)
 unfold Γ
 split
 ·split
  ·exact r6_blank.does tab ht _ _ κ
  ·exact DoesAt.none
 ·split
  ·exact r6_token.does tab ht _ _ κ
  ·exact DoesAt.none
 ·split
  ·exact r6_lower.does tab ht _ κ
  ·exact DoesAt.none
 ·exact DoesAt.none
theorem does {R : Type} (tab : Tab) (ht : TabOk tab) (a0 a1 : _) (κ : KT R) : DoesAt Tryz.prog (tabTy tyL) tab 101 [.agg [.bool a0, .str a1]] κ (r6_first a0 a1 (K0 κ)) := doesAt_run (C := C R r6_blank r6_token r6_lower) (fn := Tryz.f101) tyOk (Γ_does tab ht) (by kernel_rfl) (by kernel_rfl) (by rw [k]; rfl)
end r6_first
namespace r6_langs
abbrev K0 {R : Type} (κ : KT R) : LA -> Option R := fun r0 => κ [.fr 9 r0 true]
section
variable (R : Type) (c1 : r6_blank.F R) (c2 : r6_token.F R) (c3 : r6_lower.F R)
def Γ (g : Nat) (xs : List SV) (κ : KT R) : Option R :=
 match g with
 | 143 => (match xs with
  | [.str a0, .int .i64 a1] => c1 a0 a1 (r6_blank.K0 κ)
  | _ => none)
 | 144 => (match xs with
  | [.str a0, .int .i64 a1] => c2 a0 a1 (r6_token.K0 κ)
  | _ => none)
 | 145 => (match xs with
  | [.str a0] => c3 a0 (r6_lower.K0 κ)
  | _ => none)
 | _ => none
def h (n : Nat) : Option (List (Nat × List (Nat × Nat))) :=
 match n with
 | 3 => some [(1, [(0, 0)]), (3, [(0, 11)]), (4, [(0, 0)])]
 | _ => none
def C : Cfg R := ⟨tabTy tyL, Γ R c1 c2 c3, fun _ => false, h, 0⟩
noncomputable def S := S0 (C R c1 c2 c3) Tryz.f103 0
noncomputable def G := G0 (C R c1 c2 c3) Tryz.f103 0
def s3 := fun x0 x1 x2 x3 => (⟨mkS 52 [(1, .ptr 191 0), (3, .own 256), (4, .int .i64 x0)], [(191, .var 26 [.bool x1, .str x2]), (256, .row 9 x3 true)], top⟩ : St)
noncomputable abbrev q3 {R : Type} (J : JT R) : J3 R := fun x0 x1 x2 x3 => J (placeOf Tryz.f103 3) (s3 x0 x1 x2 x3)
theorem k3 (J : JT R) (κ : KT R) (x0 x1 x2 x3 : _) : S R c1 c2 c3 κ J 3 (s3 x0 x1 x2 x3) = t3 c1 c2 c3 (q3 J) (K0 κ) x0 x1 x2 x3 := by kernel_rfl
theorem k (κ : KT R) (k : Nat) (a0 a1 : _) : runF (C R c1 c2 c3) Tryz.f103 10000 k [.agg [.bool a0, .str a1]] κ = r6_langs.e c1 c2 c3 a0 a1 (q3 (G R c1 c2 c3 κ k)) (K0 κ) := by kernel_rfl
theorem g3 (κ : KT R) : ∀ (f : Nat), q3 (G R c1 c2 c3 κ f) = L3 c1 c2 c3 (K0 κ) f
 | 0 => rfl
 | f + 1 => by
  funext x0 x1 x2 x3
  show S R c1 c2 c3 κ (G R c1 c2 c3 κ f) 3 _ = _
  rw [k3, g3 κ f]
  rfl
end
theorem Γ_does {R : Type} (tab : Tab) (ht : TabOk tab) (g : Nat) : Does (R := R) Tryz.prog (tabTy tyL) tab g ((C R r6_blank r6_token r6_lower).call g) := by
 refine does_of fun xs κ => ?_
 show DoesAt _ _ _ g xs κ (Γ R r6_blank r6_token r6_lower g xs κ)
 unfold Γ
 split
 ·split
  ·exact r6_blank.does tab ht _ _ κ
  ·exact DoesAt.none
 ·split
  ·exact r6_token.does tab ht _ _ κ
  ·exact DoesAt.none
 ·split
  ·exact r6_lower.does tab ht _ κ
  ·exact DoesAt.none
 ·exact DoesAt.none
theorem does {R : Type} (tab : Tab) (ht : TabOk tab) (a0 a1 : _) (κ : KT R) : DoesAt Tryz.prog (tabTy tyL) tab 103 [.agg [.bool a0, .str a1]] κ (r6_langs a0 a1 (K0 κ)) := doesAt_run (C := C R r6_blank r6_token r6_lower) (fn := Tryz.f103) tyOk (Γ_does tab ht) (by kernel_rfl) (by kernel_rfl) (by rw [k]; rw [g3 R r6_blank r6_token r6_lower κ fuelK]; rfl)
end r6_langs
namespace r6_limb
abbrev K0 {R : Type} (κ : KT R) : Q0 R := fun r0 r1 r2 r3 r4 r5 r6 r7 r8 r9 r10 r11 r12 r13 r14 r15 r16 r17 r18 r19 r20 => κ [.agg [.str r0, .str r1, .str r2, .ro 129 r3 true, .bool r4, .str r5, .bool r6, .str r7, .bool r8, .str r9, .bool r10, .str r11, .ro 129 r12 true, .ro 9 r13 true, .bool r14, .str r15, .int .i64 r16, .int .i64 r17, .int .i64 r18, .int .i64 r19, .int .i64 r20, .nil]]
section
variable (R : Type) (c1 : r5_Split.F R) (c2 : r5_Fields.F R) (c3 : r5_Get.F R) (c4 : r6_kind.F R) (c5 : r6_bare.F R) (c6 : r6_first.F R) (c7 : r6_params.F R) (c8 : r6_langs.F R)
def Γ (g : Nat) (xs : List SV) (κ : KT R) : Option R :=
 match g with
 | 83 => (match xs with
  | [.str a0] => c2 a0 (r5_Fields.K0 κ)
  | _ => none)
 | 97 => (match xs with
  | [.str a0] => c1 a0 (r5_Split.K0 κ)
  | _ => none)
 | 98 => (match xs with
  | [.agg [.bool a0, .str a1], .bool a2] => c4 a0 a1 a2 (r6_kind.K0 κ) (r6_kind.K1 κ)
  | _ => none)
 | 99 => (match xs with
  | [.ro 168 a0 false, .str a1] => c3 a0 a1 (r5_Get.K0 κ)
  | _ => none)
 | 100 => (match xs with
  | [.agg [.bool a0, .str a1]] => c5 a0 a1 (r6_bare.K0 κ)
  | _ => none)
 | 101 => (match xs with
  | [.agg [.bool a0, .str a1]] => c6 a0 a1 (r6_first.K0 κ)
  | _ => none)
 | 102 => (match xs with
  | [.str a0, .int .i64 a1] => c7 a0 a1 (r6_params.K0 κ)
  | _ => none)
 | 103 => (match xs with
  | [.agg [.bool a0, .str a1]] => c8 a0 a1 (r6_langs.K0 κ)
  | _ => none)
 | _ => none
def h (n : Nat) : Option (List (Nat × List (Nat × Nat))) :=
 match n with
 | 6 => some [(8, [(0, 0)]), (11, [(0, 0)]), (13, [(3, 131)])]
 | 16 => some [(8, [(0, 0)]), (13, [(3, 131), (3, 1), (12, 131), (12, 1), (13, 11), (13, 1)])]
 | _ => none
def C : Cfg R := ⟨tabTy tyL, Γ R c1 c2 c3 c4 c5 c6 c7 c8, fun _ => false, h, 0⟩
noncomputable def S := S0 (C R c1 c2 c3 c4 c5 c6 c7 c8) Tryz.f51 0
noncomputable def G := G0 (C R c1 c2 c3 c4 c5 c6 c7 c8) Tryz.f51 0
def s6 := fun x0 x1 x2 x3 x4 x5 x6 x7 x8 x9 x10 x11 x12 x13 x14 x15 x16 x17 x18 x19 x20 x21 x22 x23 x24 x25 x26 x27 x28 x29 x30 x31 x32 x33 x34 x35 x36 x37 => (⟨mkS 95 [(8, .ptr 639 0), (11, .own 768), (13, .ptr 959 0)], [(639, .var 32 [.str x0, .str x1, .str x2, .nil, .bool x3, .str x4, .bool x5, .str x6, .bool x7, .str x8, .bool x9, .str x10, .nil, .nil, .bool x11, .str x12, .int .i64 x13, .int .i64 x14, .int .i64 x15, .int .i64 x16, .int .i64 x17, .nil]), (768, .row 168 x18 true), (959, .var 32 [.str x19, .str x20, .str x21, .own 899, .bool x22, .str x23, .bool x24, .str x25, .bool x26, .str x27, .bool x28, .str x29, .nil, .nil, .bool x30, .str x31, .int .i64 x32, .int .i64 x33, .int .i64 x34, .int .i64 x35, .int .i64 x36, .nil]), (899, .row 129 x37 true)], top⟩ : St)
def s16 := fun x0 x1 x2 x3 x4 x5 x6 x7 x8 x9 x10 x11 x12 x13 x14 x15 x16 x17 x18 x19 x20 x21 x22 x23 x24 x25 x26 x27 x28 x29 x30 x31 x32 x33 x34 x35 x36 x37 x38 => (⟨mkS 95 [(8, .ptr 639 0), (13, .ptr 959 0)], [(639, .var 32 [.str x0, .str x1, .str x2, .nil, .bool x3, .str x4, .bool x5, .str x6, .bool x7, .str x8, .bool x9, .str x10, .nil, .nil, .bool x11, .str x12, .int .i64 x13, .int .i64 x14, .int .i64 x15, .int .i64 x16, .int .i64 x17, .nil]), (959, .var 32 [.str x18, .str x19, .str x20, .ro 129 x21 true, .bool x22, .str x23, .bool x24, .str x25, .bool x26, .str x27, .bool x28, .str x29, .ro 129 x30 true, .ro 9 x31 true, .bool x32, .str x33, .int .i64 x34, .int .i64 x35, .int .i64 x36, .int .i64 x37, .int .i64 x38, .nil])], top⟩ : St)
noncomputable abbrev q6 {R : Type} (J : JT R) : J6 R := fun x0 x1 x2 x3 x4 x5 x6 x7 x8 x9 x10 x11 x12 x13 x14 x15 x16 x17 x18 x19 x20 x21 x22 x23 x24 x25 x26 x27 x28 x29 x30 x31 x32 x33 x34 x35 x36 x37 => J (placeOf Tryz.f51 6) (s6 x0 x1 x2 x3 x4 x5 x6 x7 x8 x9 x10 x11 x12 x13 x14 x15 x16 x17 x18 x19 x20 x21 x22 x23 x24 x25 x26 x27 x28 x29 x30 x31 x32 x33 x34 x35 x36 x37)
noncomputable abbrev q16 {R : Type} (J : JT R) : J16 R := fun x0 x1 x2 x3 x4 x5 x6 x7 x8 x9 x10 x11 x12 x13 x14 x15 x16 x17 x18 x19 x20 x21 x22 x23 x24 x25 x26 x27 x28 x29 x30 x31 x32 x33 x34 x35 x36 x37 x38 => J (placeOf Tryz.f51 16) (s16 x0 x1 x2 x3 x4 x5 x6 x7 x8 x9 x10 x11 x12 x13 x14 x15 x16 x17 x18 x19 x20 x21 x22 x23 x24 x25 x26 x27 x28 x29 x30 x31 x32 x33 x34 x35 x36 x37 x38)
theorem k6 (J : JT R) (κ : KT R) (x0 x1 x2 x3 x4 x5 x6 x7 x8 x9 x10 x11 x12 x13 x14 x15 x16 x17 x18 x19 x20 x21 x22 x23 x24 x25 x26 x27 x28 x29 x30 x31 x32 x33 x34 x35 x36 x37 : _) : S R c1 c2 c3 c4 c5 c6 c7 c8 κ J 6 (s6 x0 x1 x2 x3 x4 x5 x6 x7 x8 x9 x10 x11 x12 x13 x14 x15 x16 x17 x18 x19 x20 x21 x22 x23 x24 x25 x26 x27 x28 x29 x30 x31 x32 x33 x34 x35 x36 x37) = t6 c3 c5 c6 c7 c8 (q16 J) x0 x1 x2 x3 x4 x5 x6 x7 x8 x9 x10 x11 x12 x13 x14 x15 x16 x17 x18 x19 x20 x21 x22 x23 x24 x25 x26 x27 x28 x29 x30 x31 x32 x33 x34 x35 x36 x37 := by kernel_rfl
theorem k16 (J : JT R) (κ : KT R) (x0 x1 x2 x3 x4 x5 x6 x7 x8 x9 x10 x11 x12 x13 x14 x15 x16 x17 x18 x19 x20 x21 x22 x23 x24 x25 x26 x27 x28 x29 x30 x31 x32 x33 x34 x35 x36 x37 x38 : _) : S R c1 c2 c3 c4 c5 c6 c7 c8 κ J 16 (s16 x0 x1 x2 x3 x4 x5 x6 x7 x8 x9 x10 x11 x12 x13 x14 x15 x16 x17 x18 x19 x20 x21 x22 x23 x24 x25 x26 x27 x28 x29 x30 x31 x32 x33 x34 x35 x36 x37 x38) = t16 (K0 κ) x0 x1 x2 x3 x4 x5 x6 x7 x8 x9 x10 x11 x12 x13 x14 x15 x16 x17 x18 x19 x20 x21 x22 x23 x24 x25 x26 x27 x28 x29 x30 x31 x32 x33 x34 x35 x36 x37 x38 := by kernel_rfl
theorem k (κ : KT R) (k : Nat) (a0 a1 a2 a3 a4 : _) : runF (C R c1 c2 c3 c4 c5 c6 c7 c8) Tryz.f51 10000 k [.str a0, .agg [.int .i64 a1, .int .i64 a2], .str a3, .bool a4] κ = r6_limb.e c1 c2 c3 c4 c5 c6 c7 c8 a0 a1 a2 a3 a4 (q6 (G R c1 c2 c3 c4 c5 c6 c7 c8 κ k)) (q16 (G R c1 c2 c3 c4 c5 c6 c7 c8 κ k)) (K0 κ) := by kernel_rfl
theorem g16 (κ : KT R) : ∀ (f : Nat), q16 (G R c1 c2 c3 c4 c5 c6 c7 c8 κ f) = L16 c1 c2 c3 c4 c5 c6 c7 c8 (K0 κ) f
 | 0 => rfl
 | f + 1 => by
  funext x0 x1 x2 x3 x4 x5 x6 x7 x8 x9 x10 x11 x12 x13 x14 x15 x16 x17 x18 x19 x20 x21 x22 x23 x24 x25 x26 x27 x28 x29 x30 x31 x32 x33 x34 x35 x36 x37 x38
  show S R c1 c2 c3 c4 c5 c6 c7 c8 κ (G R c1 c2 c3 c4 c5 c6 c7 c8 κ f) 16 _ = _
  rw [k16]
  rfl
theorem g6 (κ : KT R) : ∀ (f : Nat), q6 (G R c1 c2 c3 c4 c5 c6 c7 c8 κ f) = L6 c1 c2 c3 c4 c5 c6 c7 c8 (K0 κ) f
 | 0 => rfl
 | f + 1 => by
  funext x0 x1 x2 x3 x4 x5 x6 x7 x8 x9 x10 x11 x12 x13 x14 x15 x16 x17 x18 x19 x20 x21 x22 x23 x24 x25 x26 x27 x28 x29 x30 x31 x32 x33 x34 x35 x36 x37
  show S R c1 c2 c3 c4 c5 c6 c7 c8 κ (G R c1 c2 c3 c4 c5 c6 c7 c8 κ f) 6 _ = _
  rw [k6, g16 R c1 c2 c3 c4 c5 c6 c7 c8 κ f]
  rfl
end
theorem Γ_does {R : Type} (tab : Tab) (ht : TabOk tab) (g : Nat) : Does (R := R) Tryz.prog (tabTy tyL) tab g ((C R r5_Split r5_Fields r5_Get r6_kind r6_bare r6_first r6_params r6_langs).call g) := by
 refine does_of fun xs κ => ?_
 show DoesAt _ _ _ g xs κ (Γ R r5_Split r5_Fields r5_Get r6_kind r6_bare r6_first r6_params r6_langs g xs κ)
 unfold Γ
 split
 ·split
  ·exact r5_Fields.does tab ht _ κ
  ·exact DoesAt.none
 ·split
  ·exact r5_Split.does tab ht _ κ
  ·exact DoesAt.none
 ·split
  ·exact r6_kind.does tab ht _ _ _ κ
  ·exact DoesAt.none
 ·split
  ·exact r5_Get.does tab ht _ _ κ
  ·exact DoesAt.none
 ·split
  ·exact r6_bare.does tab ht _ _ κ
  ·exact DoesAt.none
 ·split
  ·exact r6_first.does tab ht _ _ κ
  ·exact DoesAt.none
 ·split
  ·exact r6_params.does tab ht _ _ κ
  ·exact DoesAt.none
 ·split
  ·exact r6_langs.does tab ht _ _ κ
  ·exact DoesAt.none
 ·exact DoesAt.none
theorem does {R : Type} (tab : Tab) (ht : TabOk tab) (a0 a1 a2 a3 a4 : _) (κ : KT R) : DoesAt Tryz.prog (tabTy tyL) tab 51 [.str a0, .agg [.int .i64 a1, .int .i64 a2], .str a3, .bool a4] κ (r6_limb a0 a1 a2 a3 a4 (K0 κ)) := doesAt_run (C := C R r5_Split r5_Fields r5_Get r6_kind r6_bare r6_first r6_params r6_langs) (fn := Tryz.f51) tyOk (Γ_does tab ht) (by kernel_rfl) (by kernel_rfl) (by rw [k]; rw [g6 R r5_Split r5_Fields r5_Get r6_kind r6_bare r6_first r6_params r6_langs κ fuelK, g16 R r5_Split r5_Fields r5_Get r6_kind r6_bare r6_first r6_params r6_langs κ fuelK]; rfl)
end r6_limb
namespace r6_ends
abbrev K0 {R : Type} (κ : KT R) : Int -> Option R := fun r0 => κ [.int .i64 r0]
section
variable (R : Type)
def Γ (g : Nat) (xs : List SV) (κ : KT R) : Option R :=
 match g with
 | _ => none
def h (n : Nat) : Option (List (Nat × List (Nat × Nat))) :=
 match n with
 | 3 => some [(0, [(0, 0)]), (3, [(0, 0)]), (4, [(0, 0)])]
 | _ => none
def C : Cfg R := ⟨tabTy tyL, Γ R, fun _ => false, h, 0⟩
noncomputable def S := S0 (C R) Tryz.f94 0
noncomputable def G := G0 (C R) Tryz.f94 0
def s3 := fun x0 x1 x2 => (⟨mkS 26 [(0, .str x0), (3, .int .i64 x1), (4, .int .i64 x2)], [], top⟩ : St)
noncomputable abbrev q3 {R : Type} (J : JT R) : J3 R := fun x0 x1 x2 => J (placeOf Tryz.f94 3) (s3 x0 x1 x2)
theorem k3 (J : JT R) (κ : KT R) (x0 x1 x2 : _) : S R κ J 3 (s3 x0 x1 x2) = t3 (q3 J) (K0 κ) x0 x1 x2 := by kernel_rfl
theorem k (κ : KT R) (k : Nat) (a0 : _) : runF (C R) Tryz.f94 10000 k [.str a0] κ = r6_ends.e a0 (q3 (G R κ k)) (K0 κ) := by kernel_rfl
theorem g3 (κ : KT R) : ∀ (f : Nat), q3 (G R κ f) = L3 (K0 κ) f
 | 0 => rfl
 | f + 1 => by
  funext x0 x1 x2
  show S R κ (G R κ f) 3 _ = _
  rw [k3, g3 κ f]
  rfl
end
theorem Γ_does {R : Type} (tab : Tab) (ht : TabOk tab) (g : Nat) : Does (R := R) Tryz.prog (tabTy tyL) tab g ((C R).call g) := by
 refine does_of fun xs κ => ?_
 show DoesAt _ _ _ g xs κ (Γ R g xs κ)
 unfold Γ
 split
 ·exact DoesAt.none
theorem does {R : Type} (tab : Tab) (ht : TabOk tab) (a0 : _) (κ : KT R) : DoesAt Tryz.prog (tabTy tyL) tab 94 [.str a0] κ (r6_ends a0 (K0 κ)) := doesAt_run (C := C R) (fn := Tryz.f94) tyOk (Γ_does tab ht) (by kernel_rfl) (by kernel_rfl) (by rw [k]; rw [g3 R κ fuelK]; rfl)
end r6_ends
namespace r6_value
abbrev K0 {R : Type} (κ : KT R) : BA -> Option R := fun r0 => κ [.str r0]
section
variable (R : Type)
def Γ (g : Nat) (xs : List SV) (κ : KT R) : Option R :=
 match g with
 | _ => none
def h (n : Nat) : Option (List (Nat × List (Nat × Nat))) :=
 match n with
 | 2 => some [(0, [(0, 0)]), (1, [(0, 0)]), (5, [(0, 0)])]
 | _ => none
def C : Cfg R := ⟨tabTy tyL, Γ R, fun _ => false, h, 0⟩
noncomputable def S := S0 (C R) Tryz.f138 0
noncomputable def G := G0 (C R) Tryz.f138 0
def s2 := fun x0 x1 x2 => (⟨mkS 24 [(0, .ro 129 x0 true), (1, .str x1), (5, .int .i64 x2)], [], top⟩ : St)
noncomputable abbrev q2 {R : Type} (J : JT R) : J2 R := fun x0 x1 x2 => J (placeOf Tryz.f138 2) (s2 x0 x1 x2)
theorem k2 (J : JT R) (κ : KT R) (x0 x1 x2 : _) : S R κ J 2 (s2 x0 x1 x2) = t2 (q2 J) (K0 κ) x0 x1 x2 := by kernel_rfl
theorem k (κ : KT R) (k : Nat) (a0 a1 : _) : runF (C R) Tryz.f138 10000 k [.ro 129 a0 true, .str a1] κ = r6_value.e a0 a1 (q2 (G R κ k)) (K0 κ) := by kernel_rfl
theorem g2 (κ : KT R) : ∀ (f : Nat), q2 (G R κ f) = L2 (K0 κ) f
 | 0 => rfl
 | f + 1 => by
  funext x0 x1 x2
  show S R κ (G R κ f) 2 _ = _
  rw [k2, g2 κ f]
  rfl
end
theorem Γ_does {R : Type} (tab : Tab) (ht : TabOk tab) (g : Nat) : Does (R := R) Tryz.prog (tabTy tyL) tab g ((C R).call g) := by
 refine does_of fun xs κ => ?_
 show DoesAt _ _ _ g xs κ (Γ R g xs κ)
 unfold Γ
 split
 ·exact DoesAt.none
theorem does {R : Type} (tab : Tab) (ht : TabOk tab) (a0 a1 : _) (κ : KT R) : DoesAt Tryz.prog (tabTy tyL) tab 138 [.ro 129 a0 true, .str a1] κ (r6_value a0 a1 (K0 κ)) := doesAt_run (C := C R) (fn := Tryz.f138) tyOk (Γ_does tab ht) (by kernel_rfl) (by kernel_rfl) (by rw [k]; rw [g2 R κ fuelK]; rfl)
end r6_value
namespace r6_broken
abbrev K0 {R : Type} (κ : KT R) : Bool -> Option R := fun r0 => κ [.bool r0]
section
variable (R : Type)
def Γ (g : Nat) (xs : List SV) (κ : KT R) : Option R :=
 match g with
 | _ => none
def h (n : Nat) : Option (List (Nat × List (Nat × Nat))) :=
 match n with
 | 2 => some [(0, [(0, 0)]), (3, [(0, 0)])]
 | _ => none
def C : Cfg R := ⟨tabTy tyL, Γ R, fun _ => false, h, 0⟩
noncomputable def S := S0 (C R) Tryz.f139 0
noncomputable def G := G0 (C R) Tryz.f139 0
def s2 := fun x0 x1 => (⟨mkS 22 [(0, .str x0), (3, .int .i64 x1)], [], top⟩ : St)
noncomputable abbrev q2 {R : Type} (J : JT R) : BA -> Int -> Option R := fun x0 x1 => J (placeOf Tryz.f139 2) (s2 x0 x1)
theorem k2 (J : JT R) (κ : KT R) (x0 x1 : _) : S R κ J 2 (s2 x0 x1) = t2 (q2 J) (K0 κ) x0 x1 := by kernel_rfl
theorem k (κ : KT R) (k : Nat) (a0 : _) : runF (C R) Tryz.f139 10000 k [.str a0] κ = r6_broken.e a0 (q2 (G R κ k)) (K0 κ) := by kernel_rfl
theorem g2 (κ : KT R) : ∀ (f : Nat), q2 (G R κ f) = L2 (K0 κ) f
 | 0 => rfl
 | f + 1 => by
  funext x0 x1
  show S R κ (G R κ f) 2 _ = _
  rw [k2, g2 κ f]
  rfl
end
theorem Γ_does {R : Type} (tab : Tab) (ht : TabOk tab) (g : Nat) : Does (R := R) Tryz.prog (tabTy tyL) tab g ((C R).call g) := by
 refine does_of fun xs κ => ?_
 show DoesAt _ _ _ g xs κ (Γ R g xs κ)
 unfold Γ
 split
 ·exact DoesAt.none
theorem does {R : Type} (tab : Tab) (ht : TabOk tab) (a0 : _) (κ : KT R) : DoesAt Tryz.prog (tabTy tyL) tab 139 [.str a0] κ (r6_broken a0 (K0 κ)) := doesAt_run (C := C R) (fn := Tryz.f139) tyOk (Γ_does tab ht) (by kernel_rfl) (by kernel_rfl) (by rw [k]; rw [g2 R κ fuelK]; rfl)
end r6_broken
namespace r6_boundary
abbrev K0 {R : Type} (κ : KT R) : Int -> Int -> Option R := fun r0 r1 => κ [.tup [.int .i64 r0, .int .i64 r1]]
section
variable (R : Type)
def Γ (g : Nat) (xs : List SV) (κ : KT R) : Option R :=
 match g with
 | _ => none
def h (n : Nat) : Option (List (Nat × List (Nat × Nat))) :=
 match n with
 | 9 => some [(0, [(0, 0)]), (9, [(0, 0)]), (10, [(0, 0)])]
 | _ => none
def C : Cfg R := ⟨tabTy tyL, Γ R, fun _ => false, h, 0⟩
noncomputable def S := S0 (C R) Tryz.f181 0
noncomputable def G := G0 (C R) Tryz.f181 0
def s9 := fun x0 x1 x2 => (⟨mkS 104 [(0, .str x0), (9, .int .i64 x1), (10, .int .i64 x2)], [], top⟩ : St)
noncomputable abbrev q9 {R : Type} (J : JT R) : J9 R := fun x0 x1 x2 => J (placeOf Tryz.f181 9) (s9 x0 x1 x2)
theorem k9 (J : JT R) (κ : KT R) (x0 x1 x2 : _) : S R κ J 9 (s9 x0 x1 x2) = t9 (q9 J) (K0 κ) x0 x1 x2 := by kernel_rfl
theorem k (κ : KT R) (k : Nat) (a0 a1 a2 : _) : runF (C R) Tryz.f181 10000 k [.str a0, .int .i64 a1, .str a2] κ = r6_boundary.e a0 a1 a2 (q9 (G R κ k)) (K0 κ) := by kernel_rfl
theorem g9 (κ : KT R) : ∀ (f : Nat), q9 (G R κ f) = L9 (K0 κ) f
 | 0 => rfl
 | f + 1 => by
  funext x0 x1 x2
  show S R κ (G R κ f) 9 _ = _
  rw [k9, g9 κ f]
  rfl
end
theorem Γ_does {R : Type} (tab : Tab) (ht : TabOk tab) (g : Nat) : Does (R := R) Tryz.prog (tabTy tyL) tab g ((C R).call g) := by
 refine does_of fun xs κ => ?_
 show DoesAt _ _ _ g xs κ (Γ R g xs κ)
 unfold Γ
 split
 ·exact DoesAt.none
theorem does {R : Type} (tab : Tab) (ht : TabOk tab) (a0 a1 a2 : _) (κ : KT R) : DoesAt Tryz.prog (tabTy tyL) tab 181 [.str a0, .int .i64 a1, .str a2] κ (r6_boundary a0 a1 a2 (K0 κ)) := doesAt_run (C := C R) (fn := Tryz.f181) tyOk (Γ_does tab ht) (by kernel_rfl) (by kernel_rfl) (by rw [k]; rw [g9 R κ fuelK]; rfl)
end r6_boundary
namespace r6_behind
abbrev K0 {R : Type} (κ : KT R) : Int -> Option R := fun r0 => κ [.int .i64 r0]
section
variable (R : Type)
def Γ (g : Nat) (xs : List SV) (κ : KT R) : Option R :=
 match g with
 | _ => none
def h (n : Nat) : Option (List (Nat × List (Nat × Nat))) :=
 match n with
 | 2 => some [(0, [(0, 0)]), (5, [(0, 0)])]
 | _ => none
def C : Cfg R := ⟨tabTy tyL, Γ R, fun _ => false, h, 0⟩
noncomputable def S := S0 (C R) Tryz.f182 0
noncomputable def G := G0 (C R) Tryz.f182 0
def s2 := fun x0 x1 => (⟨mkS 29 [(0, .str x0), (5, .int .i64 x1)], [], top⟩ : St)
noncomputable abbrev q2 {R : Type} (J : JT R) : BA -> Int -> Option R := fun x0 x1 => J (placeOf Tryz.f182 2) (s2 x0 x1)
theorem k2 (J : JT R) (κ : KT R) (x0 x1 : _) : S R κ J 2 (s2 x0 x1) = t2 (q2 J) (K0 κ) x0 x1 := by kernel_rfl
theorem k (κ : KT R) (k : Nat) (a0 a1 : _) : runF (C R) Tryz.f182 10000 k [.str a0, .int .i64 a1] κ = r6_behind.e a0 a1 (q2 (G R κ k)) (K0 κ) := by kernel_rfl
theorem g2 (κ : KT R) : ∀ (f : Nat), q2 (G R κ f) = L2 (K0 κ) f
 | 0 => rfl
 | f + 1 => by
  funext x0 x1
  show S R κ (G R κ f) 2 _ = _
  rw [k2, g2 κ f]
  rfl
end
theorem Γ_does {R : Type} (tab : Tab) (ht : TabOk tab) (g : Nat) : Does (R := R) Tryz.prog (tabTy tyL) tab g ((C R).call g) := by
 refine does_of fun xs κ => ?_
 show DoesAt _ _ _ g xs κ (Γ R g xs κ)
 unfold Γ
 split
 ·exact DoesAt.none
theorem does {R : Type} (tab : Tab) (ht : TabOk tab) (a0 a1 : _) (κ : KT R) : DoesAt Tryz.prog (tabTy tyL) tab 182 [.str a0, .int .i64 a1] κ (r6_behind a0 a1 (K0 κ)) := doesAt_run (C := C R) (fn := Tryz.f182) tyOk (Γ_does tab ht) (by kernel_rfl) (by kernel_rfl) (by rw [k]; rw [g2 R κ fuelK]; rfl)
end r6_behind
namespace r6_parts
abbrev K0 {R : Type} (κ : KT R) : LA -> Option R := fun r0 => κ [.fr 29 r0 true]
section
variable (R : Type) (c1 : r6_boundary.F R) (c2 : r6_behind.F R)
def Γ (g : Nat) (xs : List SV) (κ : KT R) : Option R :=
 match g with
 | 181 => (match xs with
  | [.str a0, .int .i64 a1, .str a2] => c1 a0 a1 a2 (r6_boundary.K0 κ)
  | _ => none)
 | 182 => (match xs with
  | [.str a0, .int .i64 a1] => c2 a0 a1 (r6_behind.K0 κ)
  | _ => none)
 | _ => none
def h (n : Nat) : Option (List (Nat × List (Nat × Nat))) :=
 match n with
 | 4 => some [(0, [(0, 0)]), (1, [(0, 0)]), (5, [(0, 31)]), (6, [(0, 0)]), (7, [(0, 0)])]
 | _ => none
def C : Cfg R := ⟨tabTy tyL, Γ R c1 c2, fun _ => false, h, 0⟩
noncomputable def S := S0 (C R c1 c2) Tryz.f140 0
noncomputable def G := G0 (C R c1 c2) Tryz.f140 0
def s4 := fun x0 x1 x2 x3 x4 => (⟨mkS 52 [(0, .str x0), (1, .str x1), (5, .own 384), (6, .int .i64 x2), (7, .int .i64 x3)], [(384, .row 29 x4 true)], top⟩ : St)
noncomputable abbrev q4 {R : Type} (J : JT R) : J4 R := fun x0 x1 x2 x3 x4 => J (placeOf Tryz.f140 4) (s4 x0 x1 x2 x3 x4)
theorem k4 (J : JT R) (κ : KT R) (x0 x1 x2 x3 x4 : _) : S R c1 c2 κ J 4 (s4 x0 x1 x2 x3 x4) = t4 c1 c2 (q4 J) (K0 κ) x0 x1 x2 x3 x4 := by kernel_rfl
theorem k (κ : KT R) (k : Nat) (a0 a1 : _) : runF (C R c1 c2) Tryz.f140 10000 k [.str a0, .str a1] κ = r6_parts.e c1 c2 a0 a1 (q4 (G R c1 c2 κ k)) (K0 κ) := by kernel_rfl
theorem g4 (κ : KT R) : ∀ (f : Nat), q4 (G R c1 c2 κ f) = L4 c1 c2 (K0 κ) f
 | 0 => rfl
 | f + 1 => by
  funext x0 x1 x2 x3 x4
  show S R c1 c2 κ (G R c1 c2 κ f) 4 _ = _
  rw [k4, g4 κ f]
  rfl
end
theorem Γ_does {R : Type} (tab : Tab) (ht : TabOk tab) (g : Nat) : Does (R := R) Tryz.prog (tabTy tyL) tab g ((C R r6_boundary r6_behind).call g) := by
 refine does_of fun xs κ => ?_
 show DoesAt _ _ _ g xs κ (Γ R r6_boundary r6_behind g xs κ)
 unfold Γ
 split
 ·split
  ·exact r6_boundary.does tab ht _ _ _ κ
  ·exact DoesAt.none
 ·split
  ·exact r6_behind.does tab ht _ _ κ
  ·exact DoesAt.none
 ·exact DoesAt.none
theorem does {R : Type} (tab : Tab) (ht : TabOk tab) (a0 a1 : _) (κ : KT R) : DoesAt Tryz.prog (tabTy tyL) tab 140 [.str a0, .str a1] κ (r6_parts a0 a1 (K0 κ)) := doesAt_run (C := C R r6_boundary r6_behind) (fn := Tryz.f140) tyOk (Γ_does tab ht) (by kernel_rfl) (by kernel_rfl) (by rw [k]; rw [g4 R r6_boundary r6_behind κ fuelK]; rfl)
end r6_parts
namespace r6_inside
abbrev K0 {R : Type} (κ : KT R) : Option R := κ [.nil]
abbrev K1 {R : Type} (κ : KT R) : LA -> Option R := fun r0 => κ [.fr 29 r0 true]
section
variable (R : Type) (c1 : r6_value.F R) (c2 : r6_broken.F R) (c3 : r6_parts.F R)
def Γ (g : Nat) (xs : List SV) (κ : KT R) : Option R :=
 match g with
 | 138 => (match xs with
  | [.ro 129 a0 true, .str a1] => c1 a0 a1 (r6_value.K0 κ)
  | _ => none)
 | 139 => (match xs with
  | [.str a0] => c2 a0 (r6_broken.K0 κ)
  | _ => none)
 | 140 => (match xs with
  | [.str a0, .str a1] => c3 a0 a1 (r6_parts.K0 κ)
  | _ => none)
 | _ => none
def h (n : Nat) : Option (List (Nat × List (Nat × Nat))) :=
 match n with
 | 11 => some [(3, [(0, 0)]), (7, [(0, 0)]), (8, [(0, 0)])]
 | _ => none
def C : Cfg R := ⟨tabTy tyL, Γ R c1 c2 c3, fun _ => false, h, 0⟩
noncomputable def S := S0 (C R c1 c2 c3) Tryz.f95 0
noncomputable def G := G0 (C R c1 c2 c3) Tryz.f95 0
def s11 := fun x0 x1 x2 x3 x4 x5 x6 x7 x8 x9 x10 x11 x12 x13 x14 x15 x16 x17 x18 x19 x20 x21 x22 => (⟨mkS 101 [(3, .ptr 319 0), (7, .own 512), (8, .int .i64 x0)], [(319, .var 32 [.str x1, .str x2, .str x3, .ro 129 x4 true, .bool x5, .str x6, .bool x7, .str x8, .bool x9, .str x10, .bool x11, .str x12, .ro 129 x13 true, .ro 9 x14 true, .bool x15, .str x16, .int .i64 x17, .int .i64 x18, .int .i64 x19, .int .i64 x20, .int .i64 x21, .nil]), (512, .row 29 x22 true)], top⟩ : St)
noncomputable abbrev q11 {R : Type} (J : JT R) : J11 R := fun x0 x1 x2 x3 x4 x5 x6 x7 x8 x9 x10 x11 x12 x13 x14 x15 x16 x17 x18 x19 x20 x21 x22 => J (placeOf Tryz.f95 11) (s11 x0 x1 x2 x3 x4 x5 x6 x7 x8 x9 x10 x11 x12 x13 x14 x15 x16 x17 x18 x19 x20 x21 x22)
theorem k11 (J : JT R) (κ : KT R) (x0 x1 x2 x3 x4 x5 x6 x7 x8 x9 x10 x11 x12 x13 x14 x15 x16 x17 x18 x19 x20 x21 x22 : _) : S R c1 c2 c3 κ J 11 (s11 x0 x1 x2 x3 x4 x5 x6 x7 x8 x9 x10 x11 x12 x13 x14 x15 x16 x17 x18 x19 x20 x21 x22) = t11 (q11 J) (K1 κ) x0 x1 x2 x3 x4 x5 x6 x7 x8 x9 x10 x11 x12 x13 x14 x15 x16 x17 x18 x19 x20 x21 x22 := by kernel_rfl
theorem k (κ : KT R) (k : Nat) (a0 a1 a2 a3 a4 a5 a6 a7 a8 a9 a10 a11 a12 a13 a14 a15 a16 a17 a18 a19 a20 a21 : _) : runF (C R c1 c2 c3) Tryz.f95 10000 k [.str a0, .agg [.str a1, .str a2, .str a3, .ro 129 a4 true, .bool a5, .str a6, .bool a7, .str a8, .bool a9, .str a10, .bool a11, .str a12, .ro 129 a13 true, .ro 9 a14 true, .bool a15, .str a16, .int .i64 a17, .int .i64 a18, .int .i64 a19, .int .i64 a20, .int .i64 a21, .nil]] κ = r6_inside.e c1 c2 c3 a0 a1 a2 a3 a4 a5 a6 a7 a8 a9 a10 a11 a12 a13 a14 a15 a16 a17 a18 a19 a20 a21 (q11 (G R c1 c2 c3 κ k)) (K0 κ) (K1 κ) := by kernel_rfl
theorem g11 (κ : KT R) : ∀ (f : Nat), q11 (G R c1 c2 c3 κ f) = L11 c1 c2 c3 (K0 κ) (K1 κ) f
 | 0 => rfl
 | f + 1 => by
  funext x0 x1 x2 x3 x4 x5 x6 x7 x8 x9 x10 x11 x12 x13 x14 x15 x16 x17 x18 x19 x20 x21 x22
  show S R c1 c2 c3 κ (G R c1 c2 c3 κ f) 11 _ = _
  rw [k11, g11 κ f]
  rfl
end
theorem Γ_does {R : Type} (tab : Tab) (ht : TabOk tab) (g : Nat) : Does (R := R) Tryz.prog (tabTy tyL) tab g ((C R r6_value r6_broken r6_parts).call g) := by
 refine does_of fun xs κ => ?_
 show DoesAt _ _ _ g xs κ (Γ R r6_value r6_broken r6_parts g xs κ)
 unfold Γ
 split
 ·split
  ·exact r6_value.does tab ht _ _ κ
  ·exact DoesAt.none
 ·split
  ·exact r6_broken.does tab ht _ κ
  ·exact DoesAt.none
 ·split
  ·exact r6_parts.does tab ht _ _ κ
  ·exact DoesAt.none
 ·exact DoesAt.none
theorem does {R : Type} (tab : Tab) (ht : TabOk tab) (a0 a1 a2 a3 a4 a5 a6 a7 a8 a9 a10 a11 a12 a13 a14 a15 a16 a17 a18 a19 a20 a21 : _) (κ : KT R) : DoesAt Tryz.prog (tabTy tyL) tab 95 [.str a0, .agg [.str a1, .str a2, .str a3, .ro 129 a4 true, .bool a5, .str a6, .bool a7, .str a8, .bool a9, .str a10, .bool a11, .str a12, .ro 129 a13 true, .ro 9 a14 true, .bool a15, .str a16, .int .i64 a17, .int .i64 a18, .int .i64 a19, .int .i64 a20, .int .i64 a21, .nil]] κ (r6_inside a0 a1 a2 a3 a4 a5 a6 a7 a8 a9 a10 a11 a12 a13 a14 a15 a16 a17 a18 a19 a20 a21 (K0 κ) (K1 κ)) := doesAt_run (C := C R r6_value r6_broken r6_parts) (fn := Tryz.f95) tyOk (Γ_does tab ht) (by kernel_rfl) (by kernel_rfl) (by rw [k]; rw [g11 R r6_value r6_broken r6_parts κ fuelK]; rfl)
end r6_inside
namespace r6_decimal
abbrev K0 {R : Type} (κ : KT R) : BA -> Option R := fun r0 => κ [.str r0]
section
variable (R : Type) (c1 : r6_decimal.F R)
def Γ (g : Nat) (xs : List SV) (κ : KT R) : Option R :=
 match g with
 | 141 => (match xs with
  | [.int .i64 a0] => c1 a0 (K0 κ)
  | _ => none)
 | _ => none
def h (n : Nat) : Option (List (Nat × List (Nat × Nat))) :=
 match n with
 | _ => none
def C : Cfg R := ⟨tabTy tyL, Γ R c1, fun _ => false, h, 0⟩
theorem k (κ : KT R) (k : Nat) (a0 : _) : runF (C R c1) Tryz.f141 10000 k [.int .i64 a0] κ = r6_decimal.e c1 a0 (K0 κ) := by kernel_rfl
end
theorem Γ_does {R : Type} (tab : Tab) (ht : TabOk tab) (n : Nat) (ih : ∀ (a0 : _) (κ : KT R), DoesAt Tryz.prog (tabTy tyL) tab 141 [.int .i64 a0] κ (r6_decimal.R n a0 (K0 κ))) (g : Nat) : Does (R := R) Tryz.prog (tabTy tyL) tab g ((C R (r6_decimal.R n)).call g) := by
 refine does_of fun xs κ => ?_
 show DoesAt _ _ _ g xs κ (Γ R (r6_decimal.R n) g xs κ)
 unfold Γ
 split
 ·split
  ·exact ih _ κ
  ·exact DoesAt.none
 ·exact DoesAt.none
theorem R_does {R : Type} (tab : Tab) (ht : TabOk tab) : ∀ (n : Nat) (a0 : _) (κ : KT R), DoesAt Tryz.prog (tabTy tyL) tab 141 [.int .i64 a0] κ (r6_decimal.R n a0 (K0 κ))
 | 0, _, _ => DoesAt.none
 | n + 1, a0, κ => doesAt_run (C := C R (r6_decimal.R n)) (fn := Tryz.f141) tyOk (Γ_does tab ht n (R_does tab ht n)) (by kernel_rfl) (by kernel_rfl) (show _ = B (r6_decimal.R n) a0 (K0 κ) by rw [k]; rfl)
theorem does {R : Type} (tab : Tab) (ht : TabOk tab) (a0 : _) (κ : KT R) : DoesAt Tryz.prog (tabTy tyL) tab 141 [.int .i64 a0] κ (r6_decimal a0 (K0 κ)) := R_does tab ht fuelK a0 κ
end r6_decimal
namespace r6_under
abbrev K0 {R : Type} (κ : KT R) : BA -> Option R := fun r0 => κ [.str r0]
section
variable (R : Type) (c1 : r6_decimal.F R)
def Γ (g : Nat) (xs : List SV) (κ : KT R) : Option R :=
 match g with
 | 141 => (match xs with
  | [.int .i64 a0] => c1 a0 (r6_decimal.K0 κ)
  | _ => none)
 | _ => none
def h (n : Nat) : Option (List (Nat × List (Nat × Nat))) :=
 match n with
 | _ => none
def C : Cfg R := ⟨tabTy tyL, Γ R c1, fun _ => false, h, 0⟩
theorem k (κ : KT R) (k : Nat) (a0 a1 : _) : runF (C R c1) Tryz.f96 10000 k [.str a0, .int .i64 a1] κ = r6_under.e c1 a0 a1 (K0 κ) := by kernel_rfl
end
theorem Γ_does {R : Type} (tab : Tab) (ht : TabOk tab) (g : Nat) : Does (R := R) Tryz.prog (tabTy tyL) tab g ((C R r6_decimal).call g) := by
 refine does_of fun xs κ => ?_
 show DoesAt _ _ _ g xs κ (Γ R r6_decimal g xs κ)
 unfold Γ
 split
 ·split
  ·exact r6_decimal.does tab ht _ κ
  ·exact DoesAt.none
 ·exact DoesAt.none
theorem does {R : Type} (tab : Tab) (ht : TabOk tab) (a0 a1 : _) (κ : KT R) : DoesAt Tryz.prog (tabTy tyL) tab 96 [.str a0, .int .i64 a1] κ (r6_under a0 a1 (K0 κ)) := doesAt_run (C := C R r6_decimal) (fn := Tryz.f96) tyOk (Γ_does tab ht) (by kernel_rfl) (by kernel_rfl) (by rw [k]; rfl)
end r6_under
end Go.Proofs.Ab
