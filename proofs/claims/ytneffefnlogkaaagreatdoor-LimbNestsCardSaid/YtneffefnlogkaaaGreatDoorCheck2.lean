/- Each plain function is what a call of its Go function does, checked by the kernel (no condition but what its checks ask). -/
import Derived.Test.YtneffefnlogkaaaGreatDoorSeat
import Derived.Test.YtneffefnlogkaaaGreatDoorText
import Derived.Test.YtneffefnlogkaaaGreatDoorCheck1
set_option linter.unusedVariables false
set_option linter.unusedSimpArgs false
set_option maxRecDepth 4000
namespace Go.Proofs.Ab
open Go Go.Proofs
set_option maxRecDepth 100000
namespace st_Count
abbrev K0 {R : Type} (κ : KT R) : Int -> Option R := fun r0 => κ [.int .i64 r0]
section
variable (R : Type) (c1 : u8_RuneCountInString.F R) (c2 : st_Index.F R)
def Γ (g : Nat) (xs : List SV) (κ : KT R) : Option R :=
 match g with
 | 128 => (match xs with
  | [.str a0, .str a1] => c2 a0 a1 (st_Index.K0 κ)
  | _ => none)
 | 136 => (match xs with
  | [.str a0] => c1 a0 (u8_RuneCountInString.K0 κ)
  | _ => none)
 | _ => none
def h (n : Nat) : Option (List (Nat × List (Nat × Nat))) :=
 match n with
 | 6 => some [(0, [(0, 0)]), (1, [(0, 0)]), (5, [(0, 0)])]
 | _ => none
def C : Cfg R := ⟨tabTy tyL, Γ R c1 c2, fun _ => false, h, 0, fun _ => false⟩
noncomputable def S := S0 (C R c1 c2) Tryz.f93 0
noncomputable def G := G0 (C R c1 c2) Tryz.f93 0
def s6 := fun x0 x1 x2 => (⟨mkS 34 [(0, .str x0), (1, .str x1), (5, .int .i64 x2)], [], top⟩ : St)
noncomputable abbrev q6 {R : Type} (J : JT R) : J6 R := fun x0 x1 x2 => J (placeOf Tryz.f93 6) (s6 x0 x1 x2)
theorem k6 (J : JT R) (κ : KT R) (x0 x1 x2 : _) : S R c1 c2 κ J 6 (s6 x0 x1 x2) = t6 c2 (q6 J) (K0 κ) x0 x1 x2 := by kernel_rfl
theorem k (κ : KT R) (k : Nat) (a0 a1 : _) : runF (C R c1 c2) Tryz.f93 10000 k [.str a0, .str a1] κ = st_Count.e c1 c2 a0 a1 (q6 (G R c1 c2 κ k)) (K0 κ) := by kernel_rfl
theorem g6 (κ : KT R) : ∀ (f : Nat), q6 (G R c1 c2 κ f) = L6 c1 c2 (K0 κ) f
 | 0 => rfl
 | f + 1 => by
  funext x0 x1 x2
  show S R c1 c2 κ (G R c1 c2 κ f) 6 _ = _
  rw [k6, g6 κ f]
  rfl
end
theorem Γ_does {R : Type} (tab : Tab) (ht : TabOk tab) (g : Nat) : Does (R := R) Tryz.prog (tabTy tyL) tab g ((C R u8_RuneCountInString st_Index).call g) := by
 refine does_of fun xs κ => ?_
 show DoesAt _ _ _ g xs κ (Γ R u8_RuneCountInString st_Index g xs κ)
 unfold Γ
 split
 ·split
  ·exact st_Index.does tab ht _ _ κ
  ·exact DoesAt.none
 ·split
  ·exact u8_RuneCountInString.does tab ht _ κ
  ·exact DoesAt.none
 ·exact DoesAt.none
theorem does {R : Type} (tab : Tab) (ht : TabOk tab) (a0 a1 : _) (κ : KT R) : DoesAt Tryz.prog (tabTy tyL) tab 93 [.str a0, .str a1] κ (st_Count a0 a1 (K0 κ)) := doesAt_run (C := C R u8_RuneCountInString st_Index) (fn := Tryz.f93) tyOk (Γ_does tab ht) (by kernel_rfl) (by kernel_rfl) (by rw [k]; rw [g6 R u8_RuneCountInString st_Index κ fuelK]; rfl)
end st_Count
namespace lm_isMessage1
abbrev K0 {R : Type} (κ : KT R) : Q0 R := fun r0 r1 r2 r3 r4 r5 r6 r7 r8 r9 r10 r11 r12 r13 r14 r15 r16 r17 r18 r19 r20 r21 r22 => κ [.bool r0, .vp 32 [.str r1, .str r2, .str r3, .ro 129 r4 true, .bool r5, .str r6, .bool r7, .str r8, .bool r9, .str r10, .bool r11, .str r12, .ro 129 r13 true, .ro 9 r14 true, .bool r15, .str r16, .int .i64 r17, .int .i64 r18, .int .i64 r19, .int .i64 r20, .int .i64 r21, .ro 32 r22 true]]
section
variable (R : Type)
def Γ (g : Nat) (xs : List SV) (κ : KT R) : Option R :=
 match g with
 | _ => none
def h (n : Nat) : Option (List (Nat × List (Nat × Nat))) :=
 match n with
 | _ => none
def C : Cfg R := ⟨tabTy tyL, Γ R, fun _ => false, h, 0, fun _ => false⟩
theorem k (κ : KT R) (k : Nat) (a0 a1 a2 a3 a4 a5 a6 a7 a8 a9 a10 a11 a12 a13 a14 a15 a16 a17 a18 a19 a20 a21 : _) : runF (C R) Tryz.f59 10000 k [.vp 32 [.str a0, .str a1, .str a2, .ro 129 a3 true, .bool a4, .str a5, .bool a6, .str a7, .bool a8, .str a9, .bool a10, .str a11, .ro 129 a12 true, .ro 9 a13 true, .bool a14, .str a15, .int .i64 a16, .int .i64 a17, .int .i64 a18, .int .i64 a19, .int .i64 a20, .ro 32 a21 true]] κ = lm_isMessage1.e a0 a1 a2 a3 a4 a5 a6 a7 a8 a9 a10 a11 a12 a13 a14 a15 a16 a17 a18 a19 a20 a21 (K0 κ) := by kernel_rfl
end
theorem Γ_does {R : Type} (tab : Tab) (ht : TabOk tab) (g : Nat) : Does (R := R) Tryz.prog (tabTy tyL) tab g ((C R).call g) := by
 refine does_of fun xs κ => ?_
 show DoesAt _ _ _ g xs κ (Γ R g xs κ)
 unfold Γ
 split
 ·exact DoesAt.none
theorem does {R : Type} (tab : Tab) (ht : TabOk tab) (a0 a1 a2 a3 a4 a5 a6 a7 a8 a9 a10 a11 a12 a13 a14 a15 a16 a17 a18 a19 a20 a21 : _) (κ : KT R) : DoesAt Tryz.prog (tabTy tyL) tab 59 [.vp 32 [.str a0, .str a1, .str a2, .ro 129 a3 true, .bool a4, .str a5, .bool a6, .str a7, .bool a8, .str a9, .bool a10, .str a11, .ro 129 a12 true, .ro 9 a13 true, .bool a14, .str a15, .int .i64 a16, .int .i64 a17, .int .i64 a18, .int .i64 a19, .int .i64 a20, .ro 32 a21 true]] κ (lm_isMessage1 a0 a1 a2 a3 a4 a5 a6 a7 a8 a9 a10 a11 a12 a13 a14 a15 a16 a17 a18 a19 a20 a21 (K0 κ)) := doesAt_run (C := C R) (fn := Tryz.f59) tyOk (Γ_does tab ht) (by kernel_rfl) (by kernel_rfl) (by rw [k]; rfl)
end lm_isMessage1
namespace lm_isMessage2
abbrev K0 {R : Type} (κ : KT R) : Q0 R := fun r0 r1 r2 r3 r4 r5 r6 r7 r8 r9 r10 r11 r12 r13 r14 r15 r16 r17 r18 r19 r20 r21 r22 => κ [.bool r0, .vp 32 [.str r1, .str r2, .str r3, .ro 129 r4 true, .bool r5, .str r6, .bool r7, .str r8, .bool r9, .str r10, .bool r11, .str r12, .ro 129 r13 true, .ro 9 r14 true, .bool r15, .str r16, .int .i64 r17, .int .i64 r18, .int .i64 r19, .int .i64 r20, .int .i64 r21, .fr 32 r22 true]]
section
variable (R : Type)
def Γ (g : Nat) (xs : List SV) (κ : KT R) : Option R :=
 match g with
 | _ => none
def h (n : Nat) : Option (List (Nat × List (Nat × Nat))) :=
 match n with
 | _ => none
def C : Cfg R := ⟨tabTy tyL, Γ R, fun _ => false, h, 0, fun _ => false⟩
theorem k (κ : KT R) (k : Nat) (a0 a1 a2 a3 a4 a5 a6 a7 a8 a9 a10 a11 a12 a13 a14 a15 a16 a17 a18 a19 a20 a21 : _) : runF (C R) Tryz.f59 10000 k [.vp 32 [.str a0, .str a1, .str a2, .ro 129 a3 true, .bool a4, .str a5, .bool a6, .str a7, .bool a8, .str a9, .bool a10, .str a11, .ro 129 a12 true, .ro 9 a13 true, .bool a14, .str a15, .int .i64 a16, .int .i64 a17, .int .i64 a18, .int .i64 a19, .int .i64 a20, .fr 32 a21 true]] κ = lm_isMessage2.e a0 a1 a2 a3 a4 a5 a6 a7 a8 a9 a10 a11 a12 a13 a14 a15 a16 a17 a18 a19 a20 a21 (K0 κ) := by kernel_rfl
end
theorem Γ_does {R : Type} (tab : Tab) (ht : TabOk tab) (g : Nat) : Does (R := R) Tryz.prog (tabTy tyL) tab g ((C R).call g) := by
 refine does_of fun xs κ => ?_
 show DoesAt _ _ _ g xs κ (Γ R g xs κ)
 unfold Γ
 split
 ·exact DoesAt.none
theorem does {R : Type} (tab : Tab) (ht : TabOk tab) (a0 a1 a2 a3 a4 a5 a6 a7 a8 a9 a10 a11 a12 a13 a14 a15 a16 a17 a18 a19 a20 a21 : _) (κ : KT R) : DoesAt Tryz.prog (tabTy tyL) tab 59 [.vp 32 [.str a0, .str a1, .str a2, .ro 129 a3 true, .bool a4, .str a5, .bool a6, .str a7, .bool a8, .str a9, .bool a10, .str a11, .ro 129 a12 true, .ro 9 a13 true, .bool a14, .str a15, .int .i64 a16, .int .i64 a17, .int .i64 a18, .int .i64 a19, .int .i64 a20, .fr 32 a21 true]] κ (lm_isMessage2 a0 a1 a2 a3 a4 a5 a6 a7 a8 a9 a10 a11 a12 a13 a14 a15 a16 a17 a18 a19 a20 a21 (K0 κ)) := doesAt_run (C := C R) (fn := Tryz.f59) tyOk (Γ_does tab ht) (by kernel_rfl) (by kernel_rfl) (by rw [k]; rfl)
end lm_isMessage2
namespace lm_place
abbrev K0 {R : Type} (κ : KT R) : Q0 R := fun r0 r1 r2 r3 r4 r5 r6 r7 r8 r9 r10 r11 r12 r13 r14 r15 r16 r17 r18 r19 r20 r21 r22 => κ [.str r0, .vp 32 [.str r1, .str r2, .str r3, .ro 129 r4 true, .bool r5, .str r6, .bool r7, .str r8, .bool r9, .str r10, .bool r11, .str r12, .ro 129 r13 true, .ro 9 r14 true, .bool r15, .str r16, .int .i64 r17, .int .i64 r18, .int .i64 r19, .int .i64 r20, .int .i64 r21, .fr 32 r22 true]]
section
variable (R : Type) (c1 : lm_isMessage2.F R) (c2 : sc_Itoa1.F R)
def Γ (g : Nat) (xs : List SV) (κ : KT R) : Option R :=
 match g with
 | 59 => (match xs with
  | [.vp 32 [.str a0, .str a1, .str a2, .ro 129 a3 true, .bool a4, .str a5, .bool a6, .str a7, .bool a8, .str a9, .bool a10, .str a11, .ro 129 a12 true, .ro 9 a13 true, .bool a14, .str a15, .int .i64 a16, .int .i64 a17, .int .i64 a18, .int .i64 a19, .int .i64 a20, .fr 32 a21 true]] => c1 a0 a1 a2 a3 a4 a5 a6 a7 a8 a9 a10 a11 a12 a13 a14 a15 a16 a17 a18 a19 a20 a21 (lm_isMessage2.K0 κ)
  | _ => none)
 | 135 => (match xs with
  | [.int .i64 a0] => c2 a0 (sc_Itoa1.K0 κ)
  | _ => none)
 | _ => none
def h (n : Nat) : Option (List (Nat × List (Nat × Nat))) :=
 match n with
 | _ => none
def C : Cfg R := ⟨tabTy tyL, Γ R c1 c2, fun _ => false, h, 0, fun _ => false⟩
theorem k (κ : KT R) (k : Nat) (a0 a1 a2 a3 a4 a5 a6 a7 a8 a9 a10 a11 a12 a13 a14 a15 a16 a17 a18 a19 a20 a21 a22 a23 a24 : _) : runF (C R c1 c2) Tryz.f92 10000 k [.vp 32 [.str a0, .str a1, .str a2, .ro 129 a3 true, .bool a4, .str a5, .bool a6, .str a7, .bool a8, .str a9, .bool a10, .str a11, .ro 129 a12 true, .ro 9 a13 true, .bool a14, .str a15, .int .i64 a16, .int .i64 a17, .int .i64 a18, .int .i64 a19, .int .i64 a20, .fr 32 a21 true], .int .i64 a22, .bool a23, .int .i64 a24] κ = lm_place.e c1 c2 a0 a1 a2 a3 a4 a5 a6 a7 a8 a9 a10 a11 a12 a13 a14 a15 a16 a17 a18 a19 a20 a21 a22 a23 a24 (K0 κ) := by kernel_rfl
end
theorem Γ_does {R : Type} (tab : Tab) (ht : TabOk tab) (g : Nat) : Does (R := R) Tryz.prog (tabTy tyL) tab g ((C R lm_isMessage2 sc_Itoa1).call g) := by
 refine does_of fun xs κ => ?_
 show DoesAt _ _ _ g xs κ (Γ R lm_isMessage2 sc_Itoa1 g xs κ)
 unfold Γ
 split
 ·split
  ·exact lm_isMessage2.does tab ht _ _ _ _ _ _ _ _ _ _ _ _ _ _ _ _ _ _ _ _ _ _ κ
  ·exact DoesAt.none
 ·split
  ·exact sc_Itoa1.does tab ht _ κ
  ·exact DoesAt.none
 ·exact DoesAt.none
theorem does {R : Type} (tab : Tab) (ht : TabOk tab) (a0 a1 a2 a3 a4 a5 a6 a7 a8 a9 a10 a11 a12 a13 a14 a15 a16 a17 a18 a19 a20 a21 a22 a23 a24 : _) (κ : KT R) : DoesAt Tryz.prog (tabTy tyL) tab 92 [.vp 32 [.str a0, .str a1, .str a2, .ro 129 a3 true, .bool a4, .str a5, .bool a6, .str a7, .bool a8, .str a9, .bool a10, .str a11, .ro 129 a12 true, .ro 9 a13 true, .bool a14, .str a15, .int .i64 a16, .int .i64 a17, .int .i64 a18, .int .i64 a19, .int .i64 a20, .fr 32 a21 true], .int .i64 a22, .bool a23, .int .i64 a24] κ (lm_place a0 a1 a2 a3 a4 a5 a6 a7 a8 a9 a10 a11 a12 a13 a14 a15 a16 a17 a18 a19 a20 a21 a22 a23 a24 (K0 κ)) := doesAt_run (C := C R lm_isMessage2 sc_Itoa1) (fn := Tryz.f92) tyOk (Γ_does tab ht) (by kernel_rfl) (by kernel_rfl) (by rw [k]; rfl)
end lm_place
namespace lm_tree_open
abbrev K0 {R : Type} (κ : KT R) : Q0 R := fun r0 r1 r2 r3 r4 r5 r6 r7 r8 r9 r10 r11 r12 r13 r14 r15 r16 r17 r18 r19 r20 r21 r22 r23 => κ [.tup [], .vp 94 [.str r0, .int .i64 r1], .vp 32 [.str r2, .str r3, .str r4, .ro 129 r5 true, .bool r6, .str r7, .bool r8, .str r9, .bool r10, .str r11, .bool r12, .str r13, .ro 129 r14 true, .ro 9 r15 true, .bool r16, .str r17, .int .i64 r18, .int .i64 r19, .int .i64 r20, .int .i64 r21, .int .i64 r22, .ro 32 r23 true]]
abbrev K1 {R : Type} (κ : KT R) : Q1 R := fun r0 r1 r2 r3 r4 r5 r6 r7 r8 r9 r10 r11 r12 r13 r14 r15 r16 r17 r18 r19 r20 r21 r22 => κ [.tup [], .vp 94 [.str r0, .int .i64 r1], .vp 32 [.str r2, .str r3, .str r4, .nil, .bool r5, .str r6, .bool r7, .str r8, .bool r9, .str r10, .bool r11, .str r12, .ro 129 r13 true, .ro 9 r14 true, .bool r15, .str r16, .int .i64 r17, .int .i64 r18, .int .i64 r19, .int .i64 r20, .int .i64 r21, .ro 32 r22 true]]
section
variable (R : Type) (c1 : lm_tree_parts.F R) (c2 : lm_tree_limb.F R) (c3 : st_Count.F R) (c4 : lm_isMessage1.F R) (c5 : lm_place.F R) (c6 : lm_isMessage2.F R) (c7 : lm_tree_open.F R)
def Γ (g : Nat) (xs : List SV) (κ : KT R) : Option R :=
 match g with
 | 48 => (match xs with
  | [.vp 94 [.str a0, .int .i64 a1], .agg [.int .i64 a2, .int .i64 a3], .bool a4] => c2 a0 a1 a2 a3 a4 (lm_tree_limb.K0 κ)
  | _ => none)
 | 49 => (match xs with
  | [.vp 94 [.str a0, .int .i64 a1], .vp 32 [.str a2, .str a3, .str a4, .ro 129 a5 true, .bool a6, .str a7, .bool a8, .str a9, .bool a10, .str a11, .bool a12, .str a13, .ro 129 a14 true, .ro 9 a15 true, .bool a16, .str a17, .int .i64 a18, .int .i64 a19, .int .i64 a20, .int .i64 a21, .int .i64 a22, .nil], .int .i64 a23, .bool a24] => c7 a0 a1 a2 a3 a4 a5 a6 a7 a8 a9 a10 a11 a12 a13 a14 a15 a16 a17 a18 a19 a20 a21 a22 a23 a24 (K0 κ) (K1 κ)
  | _ => none)
 | 59 => (match xs with
  | [.vp 32 [.str a0, .str a1, .str a2, .ro 129 a3 true, .bool a4, .str a5, .bool a6, .str a7, .bool a8, .str a9, .bool a10, .str a11, .ro 129 a12 true, .ro 9 a13 true, .bool a14, .str a15, .int .i64 a16, .int .i64 a17, .int .i64 a18, .int .i64 a19, .int .i64 a20, .ro 32 a21 true]] => c4 a0 a1 a2 a3 a4 a5 a6 a7 a8 a9 a10 a11 a12 a13 a14 a15 a16 a17 a18 a19 a20 a21 (lm_isMessage1.K0 κ)
  | [.vp 32 [.str a0, .str a1, .str a2, .ro 129 a3 true, .bool a4, .str a5, .bool a6, .str a7, .bool a8, .str a9, .bool a10, .str a11, .ro 129 a12 true, .ro 9 a13 true, .bool a14, .str a15, .int .i64 a16, .int .i64 a17, .int .i64 a18, .int .i64 a19, .int .i64 a20, .fr 32 a21 true]] => c6 a0 a1 a2 a3 a4 a5 a6 a7 a8 a9 a10 a11 a12 a13 a14 a15 a16 a17 a18 a19 a20 a21 (lm_isMessage2.K0 κ)
  | _ => none)
 | 91 => (match xs with
  | [.vp 94 [.str a0, .int .i64 a1], .vp 32 [.str a2, .str a3, .str a4, .ro 129 a5 true, .bool a6, .str a7, .bool a8, .str a9, .bool a10, .str a11, .bool a12, .str a13, .ro 129 a14 true, .ro 9 a15 true, .bool a16, .str a17, .int .i64 a18, .int .i64 a19, .int .i64 a20, .int .i64 a21, .int .i64 a22, .nil]] => c1 a0 a1 a2 a3 a4 a5 a6 a7 a8 a9 a10 a11 a12 a13 a14 a15 a16 a17 a18 a19 a20 a21 a22 (lm_tree_parts.K0 κ) (lm_tree_parts.K1 κ)
  | _ => none)
 | 92 => (match xs with
  | [.vp 32 [.str a0, .str a1, .str a2, .ro 129 a3 true, .bool a4, .str a5, .bool a6, .str a7, .bool a8, .str a9, .bool a10, .str a11, .ro 129 a12 true, .ro 9 a13 true, .bool a14, .str a15, .int .i64 a16, .int .i64 a17, .int .i64 a18, .int .i64 a19, .int .i64 a20, .fr 32 a21 true], .int .i64 a22, .bool a23, .int .i64 a24] => c5 a0 a1 a2 a3 a4 a5 a6 a7 a8 a9 a10 a11 a12 a13 a14 a15 a16 a17 a18 a19 a20 a21 a22 a23 a24 (lm_place.K0 κ)
  | _ => none)
 | 93 => (match xs with
  | [.str a0, .str a1] => c3 a0 a1 (st_Count.K0 κ)
  | _ => none)
 | _ => none
def h (n : Nat) : Option (List (Nat × List (Nat × Nat))) :=
 match n with
 | 2 => some [(0, [(0, 0)]), (1, [(0, 0)]), (2, [(0, 0)]), (3, [(0, 0)]), (8, [(0, 31)])]
 | 5 => some [(0, [(0, 0)]), (1, [(21, 34)]), (2, [(0, 0)]), (3, [(0, 0)]), (40, [(0, 0)]), (41, [(0, 0)]), (42, [(0, 0)])]
 | 8 => some [(0, [(0, 0)]), (1, [(0, 0)]), (2, [(0, 0)]), (3, [(0, 0)]), (9, [(0, 0)]), (11, [(0, 0)]), (40, [(0, 0)]), (41, [(0, 0)]), (42, [(0, 0)])]
 | 14 => some [(0, [(0, 0)]), (1, [(0, 0)]), (2, [(0, 0)]), (3, [(0, 0)]), (40, [(0, 0)]), (41, [(0, 0)]), (42, [(0, 0)])]
 | 15 => some [(0, [(0, 0)]), (1, [(3, 131), (3, 1), (12, 131), (12, 1), (13, 11), (13, 1), (21, 34), (21, 1)])]
 | _ => none
def C : Cfg R := ⟨tabTy tyL, Γ R c1 c2 c3 c4 c5 c6 c7, fun _ => false, h, 0, fun _ => false⟩
noncomputable def S := S0 (C R c1 c2 c3 c4 c5 c6 c7) Tryz.f49 2
noncomputable def G := G0 (C R c1 c2 c3 c4 c5 c6 c7) Tryz.f49 2
def s2 := fun x0 x1 x2 x3 x4 x5 x6 x7 x8 x9 x10 x11 x12 x13 x14 x15 x16 x17 x18 x19 x20 x21 x22 x23 x24 x25 => (⟨mkS 156 [(0, .ptr 0 0), (1, .ptr 1 0), (2, .int .i64 x0), (3, .bool x1), (8, .own 576)], [(1, .var 32 [.str x2, .str x3, .str x4, .ro 129 x5 true, .bool x6, .str x7, .bool x8, .str x9, .bool x10, .str x11, .bool x12, .str x13, .ro 129 x14 true, .ro 9 x15 true, .bool x16, .str x17, .int .i64 x18, .int .i64 x19, .int .i64 x20, .int .i64 x21, .int .i64 x22, .nil]), (0, .var 94 [.str x23, .int .i64 x24]), (576, .row 29 x25 true)], top⟩ : St)
def s5 := fun x0 x1 x2 x3 x4 x5 x6 x7 x8 x9 x10 x11 x12 x13 x14 x15 x16 x17 x18 x19 x20 x21 x22 x23 x24 x25 x26 x27 x28 => (⟨mkS 156 [(0, .ptr 0 0), (1, .ptr 1 0), (2, .int .i64 x0), (3, .bool x1), (40, .own 2624), (41, .int .i64 x2), (42, .int .i64 x3)], [(1, .var 32 [.str x4, .str x5, .str x6, .ro 129 x7 true, .bool x8, .str x9, .bool x10, .str x11, .bool x12, .str x13, .bool x14, .str x15, .ro 129 x16 true, .ro 9 x17 true, .bool x18, .str x19, .int .i64 x20, .int .i64 x21, .int .i64 x22, .int .i64 x23, .int .i64 x24, .own 149]), (0, .var 94 [.str x25, .int .i64 x26]), (149, .row 32 x27 true), (2624, .row 29 x28 true)], top⟩ : St)
def s8 := fun x0 x1 x2 x3 x4 x5 x6 x7 x8 x9 x10 x11 x12 x13 x14 x15 x16 x17 x18 x19 x20 x21 x22 x23 x24 x25 x26 x27 x28 x29 x30 x31 x32 x33 x34 x35 x36 x37 x38 x39 x40 x41 x42 x43 x44 x45 x46 x47 x48 x49 x50 => (⟨mkS 156 [(0, .ptr 0 0), (1, .ptr 1 0), (2, .int .i64 x0), (3, .bool x1), (9, .int .i64 x2), (11, .ptr 831 0), (40, .own 2624), (41, .int .i64 x3), (42, .int .i64 x4)], [(1, .var 32 [.str x5, .str x6, .str x7, .ro 129 x8 true, .bool x9, .str x10, .bool x11, .str x12, .bool x13, .str x14, .bool x15, .str x16, .ro 129 x17 true, .ro 9 x18 true, .bool x19, .str x20, .int .i64 x21, .int .i64 x22, .int .i64 x23, .int .i64 x24, .int .i64 x25, .own 149]), (0, .var 94 [.str x26, .int .i64 x27]), (149, .row 32 x28 true), (831, .var 32 [.str x29, .str x30, .str x31, .ro 129 x32 true, .bool x33, .str x34, .bool x35, .str x36, .bool x37, .str x38, .bool x39, .str x40, .ro 129 x41 true, .ro 9 x42 true, .bool x43, .str x44, .int .i64 x45, .int .i64 x46, .int .i64 x47, .int .i64 x48, .int .i64 x49, .nil]), (2624, .row 29 x50 true)], top⟩ : St)
def s15 := fun x0 x1 x2 x3 x4 x5 x6 x7 x8 x9 x10 x11 x12 x13 x14 x15 x16 x17 x18 x19 x20 x21 x22 x23 => (⟨mkS 156 [(0, .ptr 0 0), (1, .ptr 1 0)], [(1, .var 32 [.str x0, .str x1, .str x2, .ro 129 x3 true, .bool x4, .str x5, .bool x6, .str x7, .bool x8, .str x9, .bool x10, .str x11, .ro 129 x12 true, .ro 9 x13 true, .bool x14, .str x15, .int .i64 x16, .int .i64 x17, .int .i64 x18, .int .i64 x19, .int .i64 x20, .ro 32 x21 true]), (0, .var 94 [.str x22, .int .i64 x23])], top⟩ : St)
noncomputable abbrev q2 {R : Type} (J : JT R) : J2 R := fun x0 x1 x2 x3 x4 x5 x6 x7 x8 x9 x10 x11 x12 x13 x14 x15 x16 x17 x18 x19 x20 x21 x22 x23 x24 x25 => J (placeOf Tryz.f49 2) (s2 x0 x1 x2 x3 x4 x5 x6 x7 x8 x9 x10 x11 x12 x13 x14 x15 x16 x17 x18 x19 x20 x21 x22 x23 x24 x25)
noncomputable abbrev q5 {R : Type} (J : JT R) : J5 R := fun x0 x1 x2 x3 x4 x5 x6 x7 x8 x9 x10 x11 x12 x13 x14 x15 x16 x17 x18 x19 x20 x21 x22 x23 x24 x25 x26 x27 x28 => J (placeOf Tryz.f49 5) (s5 x0 x1 x2 x3 x4 x5 x6 x7 x8 x9 x10 x11 x12 x13 x14 x15 x16 x17 x18 x19 x20 x21 x22 x23 x24 x25 x26 x27 x28)
noncomputable abbrev q8 {R : Type} (J : JT R) : J8 R := fun x0 x1 x2 x3 x4 x5 x6 x7 x8 x9 x10 x11 x12 x13 x14 x15 x16 x17 x18 x19 x20 x21 x22 x23 x24 x25 x26 x27 x28 x29 x30 x31 x32 x33 x34 x35 x36 x37 x38 x39 x40 x41 x42 x43 x44 x45 x46 x47 x48 x49 x50 => J (placeOf Tryz.f49 8) (s8 x0 x1 x2 x3 x4 x5 x6 x7 x8 x9 x10 x11 x12 x13 x14 x15 x16 x17 x18 x19 x20 x21 x22 x23 x24 x25 x26 x27 x28 x29 x30 x31 x32 x33 x34 x35 x36 x37 x38 x39 x40 x41 x42 x43 x44 x45 x46 x47 x48 x49 x50)
noncomputable abbrev q14 {R : Type} (J : JT R) : J14 R := fun x0 x1 x2 x3 x4 x5 x6 x7 x8 x9 x10 x11 x12 x13 x14 x15 x16 x17 x18 x19 x20 x21 x22 x23 x24 x25 x26 x27 x28 => J (placeOf Tryz.f49 14) (s14 x0 x1 x2 x3 x4 x5 x6 x7 x8 x9 x10 x11 x12 x13 x14 x15 x16 x17 x18 x19 x20 x21 x22 x23 x24 x25 x26 x27 x28)
noncomputable abbrev q15 {R : Type} (J : JT R) : J15 R := fun x0 x1 x2 x3 x4 x5 x6 x7 x8 x9 x10 x11 x12 x13 x14 x15 x16 x17 x18 x19 x20 x21 x22 x23 => J (placeOf Tryz.f49 15) (s15 x0 x1 x2 x3 x4 x5 x6 x7 x8 x9 x10 x11 x12 x13 x14 x15 x16 x17 x18 x19 x20 x21 x22 x23)
theorem k2 (J : JT R) (κ : KT R) (x0 x1 x2 x3 x4 x5 x6 x7 x8 x9 x10 x11 x12 x13 x14 x15 x16 x17 x18 x19 x20 x21 x22 x23 x24 x25 : _) : S R c1 c2 c3 c4 c5 c6 c7 κ J 2 (s2 x0 x1 x2 x3 x4 x5 x6 x7 x8 x9 x10 x11 x12 x13 x14 x15 x16 x17 x18 x19 x20 x21 x22 x23 x24 x25) = t2 (q5 J) (q15 J) x0 x1 x2 x3 x4 x5 x6 x7 x8 x9 x10 x11 x12 x13 x14 x15 x16 x17 x18 x19 x20 x21 x22 x23 x24 x25 := by kernel_rfl
theorem k5 (J : JT R) (κ : KT R) (x0 x1 x2 x3 x4 x5 x6 x7 x8 x9 x10 x11 x12 x13 x14 x15 x16 x17 x18 x19 x20 x21 x22 x23 x24 x25 x26 x27 x28 : _) : S R c1 c2 c3 c4 c5 c6 c7 κ J 5 (s5 x0 x1 x2 x3 x4 x5 x6 x7 x8 x9 x10 x11 x12 x13 x14 x15 x16 x17 x18 x19 x20 x21 x22 x23 x24 x25 x26 x27 x28) = t5 c2 (q8 J) (q15 J) x0 x1 x2 x3 x4 x5 x6 x7 x8 x9 x10 x11 x12 x13 x14 x15 x16 x17 x18 x19 x20 x21 x22 x23 x24 x25 x26 x27 x28 := by kernel_rfl
theorem k8 (J : JT R) (κ : KT R) (x0 x1 x2 x3 x4 x5 x6 x7 x8 x9 x10 x11 x12 x13 x14 x15 x16 x17 x18 x19 x20 x21 x22 x23 x24 x25 x26 x27 x28 x29 x30 x31 x32 x33 x34 x35 x36 x37 x38 x39 x40 x41 x42 x43 x44 x45 x46 x47 x48 x49 x50 : _) : S R c1 c2 c3 c4 c5 c6 c7 κ J 8 (s8 x0 x1 x2 x3 x4 x5 x6 x7 x8 x9 x10 x11 x12 x13 x14 x15 x16 x17 x18 x19 x20 x21 x22 x23 x24 x25 x26 x27 x28 x29 x30 x31 x32 x33 x34 x35 x36 x37 x38 x39 x40 x41 x42 x43 x44 x45 x46 x47 x48 x49 x50) = t8 c5 c6 c7 (q14 J) x0 x1 x2 x3 x4 x5 x6 x7 x8 x9 x10 x11 x12 x13 x14 x15 x16 x17 x18 x19 x20 x21 x22 x23 x24 x25 x26 x27 x28 x29 x30 x31 x32 x33 x34 x35 x36 x37 x38 x39 x40 x41 x42 x43 x44 x45 x46 x47 x48 x49 x50 := by kernel_rfl
theorem k14 (J : JT R) (κ : KT R) (x0 x1 x2 x3 x4 x5 x6 x7 x8 x9 x10 x11 x12 x13 x14 x15 x16 x17 x18 x19 x20 x21 x22 x23 x24 x25 x26 x27 x28 : _) : S R c1 c2 c3 c4 c5 c6 c7 κ J 14 (s14 x0 x1 x2 x3 x4 x5 x6 x7 x8 x9 x10 x11 x12 x13 x14 x15 x16 x17 x18 x19 x20 x21 x22 x23 x24 x25 x26 x27 x28) = t14 (q5 J) x0 x1 x2 x3 x4 x5 x6 x7 x8 x9 x10 x11 x12 x13 x14 x15 x16 x17 x18 x19 x20 x21 x22 x23 x24 x25 x26 x27 x28 := by kernel_rfl
theorem k15 (J : JT R) (κ : KT R) (x0 x1 x2 x3 x4 x5 x6 x7 x8 x9 x10 x11 x12 x13 x14 x15 x16 x17 x18 x19 x20 x21 x22 x23 : _) : S R c1 c2 c3 c4 c5 c6 c7 κ J 15 (s15 x0 x1 x2 x3 x4 x5 x6 x7 x8 x9 x10 x11 x12 x13 x14 x15 x16 x17 x18 x19 x20 x21 x22 x23) = t15 c3 c4 (K0 κ) (K1 κ) x0 x1 x2 x3 x4 x5 x6 x7 x8 x9 x10 x11 x12 x13 x14 x15 x16 x17 x18 x19 x20 x21 x22 x23 := by kernel_rfl
theorem k (κ : KT R) (k : Nat) (a0 a1 a2 a3 a4 a5 a6 a7 a8 a9 a10 a11 a12 a13 a14 a15 a16 a17 a18 a19 a20 a21 a22 a23 a24 : _) : runF (C R c1 c2 c3 c4 c5 c6 c7) Tryz.f49 10000 k [.vp 94 [.str a0, .int .i64 a1], .vp 32 [.str a2, .str a3, .str a4, .ro 129 a5 true, .bool a6, .str a7, .bool a8, .str a9, .bool a10, .str a11, .bool a12, .str a13, .ro 129 a14 true, .ro 9 a15 true, .bool a16, .str a17, .int .i64 a18, .int .i64 a19, .int .i64 a20, .int .i64 a21, .int .i64 a22, .nil], .int .i64 a23, .bool a24] κ = lm_tree_open.e c1 c2 c3 c4 c5 c6 c7 a0 a1 a2 a3 a4 a5 a6 a7 a8 a9 a10 a11 a12 a13 a14 a15 a16 a17 a18 a19 a20 a21 a22 a23 a24 (q2 (G R c1 c2 c3 c4 c5 c6 c7 κ k)) (q5 (G R c1 c2 c3 c4 c5 c6 c7 κ k)) (q8 (G R c1 c2 c3 c4 c5 c6 c7 κ k)) (q14 (G R c1 c2 c3 c4 c5 c6 c7 κ k)) (q15 (G R c1 c2 c3 c4 c5 c6 c7 κ k)) (K0 κ) (K1 κ) := by kernel_rfl
theorem g15 (κ : KT R) : ∀ (f : Nat), q15 (G R c1 c2 c3 c4 c5 c6 c7 κ f) = L15 c1 c2 c3 c4 c5 c6 c7 (K0 κ) (K1 κ) f
 | 0 => rfl
 | f + 1 => by
  funext x0 x1 x2 x3 x4 x5 x6 x7 x8 x9 x10 x11 x12 x13 x14 x15 x16 x17 x18 x19 x20 x21 x22 x23
  show S R c1 c2 c3 c4 c5 c6 c7 κ (G R c1 c2 c3 c4 c5 c6 c7 κ f) 15 _ = _
  rw [k15]
  rfl
theorem gM5 (κ : KT R) : ∀ (f : Nat), (q5 (G R c1 c2 c3 c4 c5 c6 c7 κ f) = L5 c1 c2 c3 c4 c5 c6 c7 (K0 κ) (K1 κ) f) /\ (q8 (G R c1 c2 c3 c4 c5 c6 c7 κ f) = L8 c1 c2 c3 c4 c5 c6 c7 (K0 κ) (K1 κ) f) /\ (q14 (G R c1 c2 c3 c4 c5 c6 c7 κ f) = L14 c1 c2 c3 c4 c5 c6 c7 (K0 κ) (K1 κ) f)
 | 0 => ⟨rfl, rfl, rfl⟩
 | f + 1 => by
  obtain ⟨ih0, ih1, ih2⟩ := gM5 κ f
  refine ⟨?_, ?_, ?_⟩
  ·funext x0 x1 x2 x3 x4 x5 x6 x7 x8 x9 x10 x11 x12 x13 x14 x15 x16 x17 x18 x19 x20 x21 x22 x23 x24 x25 x26 x27 x28
   show S R c1 c2 c3 c4 c5 c6 c7 κ (G R c1 c2 c3 c4 c5 c6 c7 κ f) 5 _ = _
   rw [k5, ih1, g15 R c1 c2 c3 c4 c5 c6 c7 κ f]
   rfl
  ·funext x0 x1 x2 x3 x4 x5 x6 x7 x8 x9 x10 x11 x12 x13 x14 x15 x16 x17 x18 x19 x20 x21 x22 x23 x24 x25 x26 x27 x28 x29 x30 x31 x32 x33 x34 x35 x36 x37 x38 x39 x40 x41 x42 x43 x44 x45 x46 x47 x48 x49 x50
   show S R c1 c2 c3 c4 c5 c6 c7 κ (G R c1 c2 c3 c4 c5 c6 c7 κ f) 8 _ = _
   rw [k8, ih2]
   rfl
  ·funext x0 x1 x2 x3 x4 x5 x6 x7 x8 x9 x10 x11 x12 x13 x14 x15 x16 x17 x18 x19 x20 x21 x22 x23 x24 x25 x26 x27 x28
   show S R c1 c2 c3 c4 c5 c6 c7 κ (G R c1 c2 c3 c4 c5 c6 c7 κ f) 14 _ = _
   rw [k14, ih0]
   rfl
theorem g5 (κ : KT R) (f : Nat) : q5 (G R c1 c2 c3 c4 c5 c6 c7 κ f) = L5 c1 c2 c3 c4 c5 c6 c7 (K0 κ) (K1 κ) f := (gM5 R c1 c2 c3 c4 c5 c6 c7 κ f).1
theorem g8 (κ : KT R) (f : Nat) : q8 (G R c1 c2 c3 c4 c5 c6 c7 κ f) = L8 c1 c2 c3 c4 c5 c6 c7 (K0 κ) (K1 κ) f := (gM5 R c1 c2 c3 c4 c5 c6 c7 κ f).2.1
theorem g14 (κ : KT R) (f : Nat) : q14 (G R c1 c2 c3 c4 c5 c6 c7 κ f) = L14 c1 c2 c3 c4 c5 c6 c7 (K0 κ) (K1 κ) f := (gM5 R c1 c2 c3 c4 c5 c6 c7 κ f).2.2
theorem g2 (κ : KT R) : ∀ (f : Nat), q2 (G R c1 c2 c3 c4 c5 c6 c7 κ f) = L2 c1 c2 c3 c4 c5 c6 c7 (K0 κ) (K1 κ) f
 | 0 => rfl
 | f + 1 => by
  funext x0 x1 x2 x3 x4 x5 x6 x7 x8 x9 x10 x11 x12 x13 x14 x15 x16 x17 x18 x19 x20 x21 x22 x23 x24 x25
  show S R c1 c2 c3 c4 c5 c6 c7 κ (G R c1 c2 c3 c4 c5 c6 c7 κ f) 2 _ = _
  rw [k2, g5 R c1 c2 c3 c4 c5 c6 c7 κ f, g15 R c1 c2 c3 c4 c5 c6 c7 κ f]
  rfl
end
theorem Γ_does {R : Type} (tab : Tab) (ht : TabOk tab) (n : Nat) (ih : ∀ (a0 a1 a2 a3 a4 a5 a6 a7 a8 a9 a10 a11 a12 a13 a14 a15 a16 a17 a18 a19 a20 a21 a22 a23 a24 : _) (κ : KT R), DoesAt Tryz.prog (tabTy tyL) tab 49 [.vp 94 [.str a0, .int .i64 a1], .vp 32 [.str a2, .str a3, .str a4, .ro 129 a5 true, .bool a6, .str a7, .bool a8, .str a9, .bool a10, .str a11, .bool a12, .str a13, .ro 129 a14 true, .ro 9 a15 true, .bool a16, .str a17, .int .i64 a18, .int .i64 a19, .int .i64 a20, .int .i64 a21, .int .i64 a22, .nil], .int .i64 a23, .bool a24] κ (lm_tree_open.R n a0 a1 a2 a3 a4 a5 a6 a7 a8 a9 a10 a11 a12 a13 a14 a15 a16 a17 a18 a19 a20 a21 a22 a23 a24 (K0 κ) (K1 κ))) (g : Nat) : Does (R := R) Tryz.prog (tabTy tyL) tab g ((C R lm_tree_parts lm_tree_limb st_Count lm_isMessage1 lm_place lm_isMessage2 (lm_tree_open.R n)).call g) := by
 refine does_of fun xs κ => ?_
 show DoesAt _ _ _ g xs κ (Γ R lm_tree_parts lm_tree_limb st_Count lm_isMessage1 lm_place lm_isMessage2 (lm_tree_open.R n) g xs κ)
 unfold Γ
 split
 ·split
  ·exact lm_tree_limb.does tab ht _ _ _ _ _ κ
  ·exact DoesAt.none
 ·split
  ·exact ih _ _ _ _ _ _ _ _ _ _ _ _ _ _ _ _ _ _ _ _ _ _ _ _ _ κ
  ·exact DoesAt.none
 ·split
  ·exact lm_isMessage1.does tab ht _ _ _ _ _ _ _ _ _ _ _ _ _ _ _ _ _ _ _ _ _ _ κ
  ·exact lm_isMessage2.does tab ht _ _ _ _ _ _ _ _ _ _ _ _ _ _ _ _ _ _ _ _ _ _ κ
  ·exact DoesAt.none
 ·split
  ·exact lm_tree_parts.does tab ht _ _ _ _ _ _ _ _ _ _ _ _ _ _ _ _ _ _ _ _ _ _ _ κ
  ·exact DoesAt.none
 ·split
  ·exact lm_place.does tab ht _ _ _ _ _ _ _ _ _ _ _ _ _ _ _ _ _ _ _ _ _ _ _ _ _ κ
  ·exact DoesAt.none
 ·split
  ·exact st_Count.does tab ht _ _ κ
  ·exact DoesAt.none
 ·exact DoesAt.none
theorem R_does {R : Type} (tab : Tab) (ht : TabOk tab) : ∀ (n : Nat) (a0 a1 a2 a3 a4 a5 a6 a7 a8 a9 a10 a11 a12 a13 a14 a15 a16 a17 a18 a19 a20 a21 a22 a23 a24 : _) (κ : KT R), DoesAt Tryz.prog (tabTy tyL) tab 49 [.vp 94 [.str a0, .int .i64 a1], .vp 32 [.str a2, .str a3, .str a4, .ro 129 a5 true, .bool a6, .str a7, .bool a8, .str a9, .bool a10, .str a11, .bool a12, .str a13, .ro 129 a14 true, .ro 9 a15 true, .bool a16, .str a17, .int .i64 a18, .int .i64 a19, .int .i64 a20, .int .i64 a21, .int .i64 a22, .nil], .int .i64 a23, .bool a24] κ (lm_tree_open.R n a0 a1 a2 a3 a4 a5 a6 a7 a8 a9 a10 a11 a12 a13 a14 a15 a16 a17 a18 a19 a20 a21 a22 a23 a24 (K0 κ) (K1 κ))
 | 0, _, _, _, _, _, _, _, _, _, _, _, _, _, _, _, _, _, _, _, _, _, _, _, _, _, _ => DoesAt.none
 | n + 1, a0, a1, a2, a3, a4, a5, a6, a7, a8, a9, a10, a11, a12, a13, a14, a15, a16, a17, a18, a19, a20, a21, a22, a23, a24, κ => doesAt_run (C := C R lm_tree_parts lm_tree_limb st_Count lm_isMessage1 lm_place lm_isMessage2 (lm_tree_open.R n)) (fn := Tryz.f49) tyOk (Γ_does tab ht n (R_does tab ht n)) (by kernel_rfl) (by kernel_rfl) (show _ = B lm_tree_parts lm_tree_limb st_Count lm_isMessage1 lm_place lm_isMessage2 (lm_tree_open.R n) a0 a1 a2 a3 a4 a5 a6 a7 a8 a9 a10 a11 a12 a13 a14 a15 a16 a17 a18 a19 a20 a21 a22 a23 a24 (K0 κ) (K1 κ) by rw [k]; rw [g2 R lm_tree_parts lm_tree_limb st_Count lm_isMessage1 lm_place lm_isMessage2 (lm_tree_open.R n) κ fuelK, g5 R lm_tree_parts lm_tree_limb st_Count lm_isMessage1 lm_place lm_isMessage2 (lm_tree_open.R n) κ fuelK, g8 R lm_tree_parts lm_tree_limb st_Count lm_isMessage1 lm_place lm_isMessage2 (lm_tree_open.R n) κ fuelK, g14 R lm_tree_parts lm_tree_limb st_Count lm_isMessage1 lm_place lm_isMessage2 (lm_tree_open.R n) κ fuelK, g15 R lm_tree_parts lm_tree_limb st_Count lm_isMessage1 lm_place lm_isMessage2 (lm_tree_open.R n) κ fuelK]; rfl)
theorem does {R : Type} (tab : Tab) (ht : TabOk tab) (a0 a1 a2 a3 a4 a5 a6 a7 a8 a9 a10 a11 a12 a13 a14 a15 a16 a17 a18 a19 a20 a21 a22 a23 a24 : _) (κ : KT R) : DoesAt Tryz.prog (tabTy tyL) tab 49 [.vp 94 [.str a0, .int .i64 a1], .vp 32 [.str a2, .str a3, .str a4, .ro 129 a5 true, .bool a6, .str a7, .bool a8, .str a9, .bool a10, .str a11, .bool a12, .str a13, .ro 129 a14 true, .ro 9 a15 true, .bool a16, .str a17, .int .i64 a18, .int .i64 a19, .int .i64 a20, .int .i64 a21, .int .i64 a22, .nil], .int .i64 a23, .bool a24] κ (lm_tree_open a0 a1 a2 a3 a4 a5 a6 a7 a8 a9 a10 a11 a12 a13 a14 a15 a16 a17 a18 a19 a20 a21 a22 a23 a24 (K0 κ) (K1 κ)) := R_does tab ht fuelK a0 a1 a2 a3 a4 a5 a6 a7 a8 a9 a10 a11 a12 a13 a14 a15 a16 a17 a18 a19 a20 a21 a22 a23 a24 κ
end lm_tree_open
namespace lm_Parse
abbrev K0 {R : Type} (κ : KT R) : Q0 R := fun r0 r1 r2 r3 r4 r5 r6 r7 r8 r9 r10 r11 r12 r13 r14 r15 r16 r17 r18 r19 r20 r21 => κ [.agg [.str r0, .str r1, .str r2, .ro 129 r3 true, .bool r4, .str r5, .bool r6, .str r7, .bool r8, .str r9, .bool r10, .str r11, .ro 129 r12 true, .ro 9 r13 true, .bool r14, .str r15, .int .i64 r16, .int .i64 r17, .int .i64 r18, .int .i64 r19, .int .i64 r20, .ro 32 r21 true]]
section
variable (R : Type) (c1 : lm_tree_limb.F R) (c2 : lm_tree_open.F R)
def Γ (g : Nat) (xs : List SV) (κ : KT R) : Option R :=
 match g with
 | 48 => (match xs with
  | [.vp 94 [.str a0, .int .i64 a1], .agg [.int .i64 a2, .int .i64 a3], .bool a4] => c1 a0 a1 a2 a3 a4 (lm_tree_limb.K0 κ)
  | _ => none)
 | 49 => (match xs with
  | [.vp 94 [.str a0, .int .i64 a1], .vp 32 [.str a2, .str a3, .str a4, .ro 129 a5 true, .bool a6, .str a7, .bool a8, .str a9, .bool a10, .str a11, .bool a12, .str a13, .ro 129 a14 true, .ro 9 a15 true, .bool a16, .str a17, .int .i64 a18, .int .i64 a19, .int .i64 a20, .int .i64 a21, .int .i64 a22, .nil], .int .i64 a23, .bool a24] => c2 a0 a1 a2 a3 a4 a5 a6 a7 a8 a9 a10 a11 a12 a13 a14 a15 a16 a17 a18 a19 a20 a21 a22 a23 a24 (lm_tree_open.K0 κ) (lm_tree_open.K1 κ)
  | _ => none)
 | _ => none
def h (n : Nat) : Option (List (Nat × List (Nat × Nat))) :=
 match n with
 | 4 => some [(2, [(0, 0)]), (4, [(3, 131), (3, 1), (12, 131), (12, 1), (13, 11), (13, 1), (21, 34), (21, 1)])]
 | _ => none
def C : Cfg R := ⟨tabTy tyL, Γ R c1 c2, fun _ => false, h, 0, fun _ => false⟩
noncomputable def S := S0 (C R c1 c2) Tryz.f14 0
noncomputable def G := G0 (C R c1 c2) Tryz.f14 0
def s4 := fun x0 x1 x2 x3 x4 x5 x6 x7 x8 x9 x10 x11 x12 x13 x14 x15 x16 x17 x18 x19 x20 x21 x22 x23 x24 x25 x26 x27 x28 x29 x30 x31 x32 x33 x34 x35 x36 x37 x38 x39 => (⟨mkS 16 [(2, .ptr 255 0), (4, .ptr 383 0)], [(255, .var 32 [.str x0, .str x1, .str x2, .nil, .bool x3, .str x4, .bool x5, .str x6, .bool x7, .str x8, .bool x9, .str x10, .nil, .nil, .bool x11, .str x12, .int .i64 x13, .int .i64 x14, .int .i64 x15, .int .i64 x16, .int .i64 x17, .nil]), (383, .var 32 [.str x18, .str x19, .str x20, .ro 129 x21 true, .bool x22, .str x23, .bool x24, .str x25, .bool x26, .str x27, .bool x28, .str x29, .ro 129 x30 true, .ro 9 x31 true, .bool x32, .str x33, .int .i64 x34, .int .i64 x35, .int .i64 x36, .int .i64 x37, .int .i64 x38, .ro 32 x39 true])], top⟩ : St)
noncomputable abbrev q4 {R : Type} (J : JT R) : J4 R := fun x0 x1 x2 x3 x4 x5 x6 x7 x8 x9 x10 x11 x12 x13 x14 x15 x16 x17 x18 x19 x20 x21 x22 x23 x24 x25 x26 x27 x28 x29 x30 x31 x32 x33 x34 x35 x36 x37 x38 x39 => J (placeOf Tryz.f14 4) (s4 x0 x1 x2 x3 x4 x5 x6 x7 x8 x9 x10 x11 x12 x13 x14 x15 x16 x17 x18 x19 x20 x21 x22 x23 x24 x25 x26 x27 x28 x29 x30 x31 x32 x33 x34 x35 x36 x37 x38 x39)
theorem k4 (J : JT R) (κ : KT R) (x0 x1 x2 x3 x4 x5 x6 x7 x8 x9 x10 x11 x12 x13 x14 x15 x16 x17 x18 x19 x20 x21 x22 x23 x24 x25 x26 x27 x28 x29 x30 x31 x32 x33 x34 x35 x36 x37 x38 x39 : _) : S R c1 c2 κ J 4 (s4 x0 x1 x2 x3 x4 x5 x6 x7 x8 x9 x10 x11 x12 x13 x14 x15 x16 x17 x18 x19 x20 x21 x22 x23 x24 x25 x26 x27 x28 x29 x30 x31 x32 x33 x34 x35 x36 x37 x38 x39) = t4 (K0 κ) x0 x1 x2 x3 x4 x5 x6 x7 x8 x9 x10 x11 x12 x13 x14 x15 x16 x17 x18 x19 x20 x21 x22 x23 x24 x25 x26 x27 x28 x29 x30 x31 x32 x33 x34 x35 x36 x37 x38 x39 := by kernel_rfl
theorem k (κ : KT R) (k : Nat) (a0 : _) : runF (C R c1 c2) Tryz.f14 10000 k [.str a0] κ = lm_Parse.e c1 c2 a0 (q4 (G R c1 c2 κ k)) (K0 κ) := by kernel_rfl
theorem g4 (κ : KT R) : ∀ (f : Nat), q4 (G R c1 c2 κ f) = L4 c1 c2 (K0 κ) f
 | 0 => rfl
 | f + 1 => by
  funext x0 x1 x2 x3 x4 x5 x6 x7 x8 x9 x10 x11 x12 x13 x14 x15 x16 x17 x18 x19 x20 x21 x22 x23 x24 x25 x26 x27 x28 x29 x30 x31 x32 x33 x34 x35 x36 x37 x38 x39
  show S R c1 c2 κ (G R c1 c2 κ f) 4 _ = _
  rw [k4]
  rfl
end
theorem Γ_does {R : Type} (tab : Tab) (ht : TabOk tab) (g : Nat) : Does (R := R) Tryz.prog (tabTy tyL) tab g ((C R lm_tree_limb lm_tree_open).call g) := by
 refine does_of fun xs κ => ?_
 show DoesAt _ _ _ g xs κ (Γ R lm_tree_limb lm_tree_open g xs κ)
 unfold Γ
 split
 ·split
  ·exact lm_tree_limb.does tab ht _ _ _ _ _ κ
  ·exact DoesAt.none
 ·split
  ·exact lm_tree_open.does tab ht _ _ _ _ _ _ _ _ _ _ _ _ _ _ _ _ _ _ _ _ _ _ _ _ _ κ
  ·exact DoesAt.none
 ·exact DoesAt.none
theorem does {R : Type} (tab : Tab) (ht : TabOk tab) (a0 : _) (κ : KT R) : DoesAt Tryz.prog (tabTy tyL) tab 14 [.str a0] κ (lm_Parse a0 (K0 κ)) := doesAt_run (C := C R lm_tree_limb lm_tree_open) (fn := Tryz.f14) tyOk (Γ_does tab ht) (by kernel_rfl) (by kernel_rfl) (by rw [k]; rw [g4 R lm_tree_limb lm_tree_open κ fuelK]; rfl)
end lm_Parse
namespace lm_Partial
abbrev K0 {R : Type} (κ : KT R) : BA -> Option R := fun r0 => κ [.str r0]
section
variable (R : Type)
def Γ (g : Nat) (xs : List SV) (κ : KT R) : Option R :=
 match g with
 | _ => none
def h (n : Nat) : Option (List (Nat × List (Nat × Nat))) :=
 match n with
 | _ => none
def C : Cfg R := ⟨tabTy tyL, Γ R, fun _ => false, h, 0, fun _ => false⟩
theorem k (κ : KT R) (k : Nat) (a0 a1 a2 : _) : runF (C R) Tryz.f46 10000 k [.str a0, .int .i64 a1, .int .i64 a2] κ = lm_Partial.e a0 a1 a2 (K0 κ) := by kernel_rfl
end
theorem Γ_does {R : Type} (tab : Tab) (ht : TabOk tab) (g : Nat) : Does (R := R) Tryz.prog (tabTy tyL) tab g ((C R).call g) := by
 refine does_of fun xs κ => ?_
 show DoesAt _ _ _ g xs κ (Γ R g xs κ)
 unfold Γ
 split
 ·exact DoesAt.none
theorem does {R : Type} (tab : Tab) (ht : TabOk tab) (a0 a1 a2 : _) (κ : KT R) : DoesAt Tryz.prog (tabTy tyL) tab 46 [.str a0, .int .i64 a1, .int .i64 a2] κ (lm_Partial a0 a1 a2 (K0 κ)) := doesAt_run (C := C R) (fn := Tryz.f46) tyOk (Γ_does tab ht) (by kernel_rfl) (by kernel_rfl) (by rw [k]; rfl)
end lm_Partial
namespace w6_known
abbrev K0 {R : Type} (κ : KT R) : Bool -> Option R := fun r0 => κ [.bool r0]
section
variable (R : Type) (c1 : lm_Parse.F R) (c2 : lm_Partial.F R)
def Γ (g : Nat) (xs : List SV) (κ : KT R) : Option R :=
 match g with
 | 14 => (match xs with
  | [.str a0] => c1 a0 (lm_Parse.K0 κ)
  | _ => none)
 | 46 => (match xs with
  | [.str a0, .int .i64 a1, .int .i64 a2] => c2 a0 a1 a2 (lm_Partial.K0 κ)
  | _ => none)
 | _ => none
def h (n : Nat) : Option (List (Nat × List (Nat × Nat))) :=
 match n with
 | _ => none
def C : Cfg R := ⟨tabTy tyL, Γ R c1 c2, fun _ => false, h, 0, fun _ => false⟩
theorem k (κ : KT R) (k : Nat) : runF (C R c1 c2) Tryz.f12 10000 k [] κ = w6_known.e c1 c2 (K0 κ) := by kernel_rfl
end
theorem Γ_does {R : Type} (tab : Tab) (ht : TabOk tab) (g : Nat) : Does (R := R) Tryz.prog (tabTy tyL) tab g ((C R lm_Parse lm_Partial).call g) := by
 refine does_of fun xs κ => ?_
 show DoesAt _ _ _ g xs κ (Γ R lm_Parse lm_Partial g xs κ)
 unfold Γ
 split
 ·split
  ·exact lm_Parse.does tab ht _ κ
  ·exact DoesAt.none
 ·split
  ·exact lm_Partial.does tab ht _ _ _ κ
  ·exact DoesAt.none
 ·exact DoesAt.none
theorem does {R : Type} (tab : Tab) (ht : TabOk tab) (κ : KT R) : DoesAt Tryz.prog (tabTy tyL) tab 12 [] κ (w6_known (K0 κ)) := doesAt_run (C := C R lm_Parse lm_Partial) (fn := Tryz.f12) tyOk (Γ_does tab ht) (by kernel_rfl) (by kernel_rfl) (by rw [k]; rfl)
end w6_known
namespace lm_number
abbrev K0 {R : Type} (κ : KT R) : Int -> Option R := fun r0 => κ [.int .i64 r0]
section
variable (R : Type)
def Γ (g : Nat) (xs : List SV) (κ : KT R) : Option R :=
 match g with
 | _ => none
def h (n : Nat) : Option (List (Nat × List (Nat × Nat))) :=
 match n with
 | 3 => some [(0, [(0, 0)]), (3, [(0, 0)]), (6, [(0, 0)]), (7, [(0, 0)])]
 | _ => none
def C : Cfg R := ⟨tabTy tyL, Γ R, fun _ => false, h, 0, fun _ => false⟩
noncomputable def S := S0 (C R) Tryz.f108 0
noncomputable def G := G0 (C R) Tryz.f108 0
def s3 := fun x0 x1 x2 x3 => (⟨mkS 44 [(0, .str x0), (3, .int .i64 x1), (6, .int .i64 x2), (7, .int .i64 x3)], [], top⟩ : St)
noncomputable abbrev q3 {R : Type} (J : JT R) : J3 R := fun x0 x1 x2 x3 => J (placeOf Tryz.f108 3) (s3 x0 x1 x2 x3)
theorem k3 (J : JT R) (κ : KT R) (x0 x1 x2 x3 : _) : S R κ J 3 (s3 x0 x1 x2 x3) = t3 (q3 J) (K0 κ) x0 x1 x2 x3 := by kernel_rfl
theorem k (κ : KT R) (k : Nat) (a0 : _) : runF (C R) Tryz.f108 10000 k [.str a0] κ = lm_number.e a0 (q3 (G R κ k)) (K0 κ) := by kernel_rfl
theorem g3 (κ : KT R) : ∀ (f : Nat), q3 (G R κ f) = L3 (K0 κ) f
 | 0 => rfl
 | f + 1 => by
  funext x0 x1 x2 x3
  show S R κ (G R κ f) 3 _ = _
  rw [k3, g3 κ f]
  rfl
end
theorem Γ_does {R : Type} (tab : Tab) (ht : TabOk tab) (g : Nat) : Does (R := R) Tryz.prog (tabTy tyL) tab g ((C R).call g) := by
 refine does_of fun xs κ => ?_
 show DoesAt _ _ _ g xs κ (Γ R g xs κ)
 unfold Γ
 split
 ·exact DoesAt.none
theorem does {R : Type} (tab : Tab) (ht : TabOk tab) (a0 : _) (κ : KT R) : DoesAt Tryz.prog (tabTy tyL) tab 108 [.str a0] κ (lm_number a0 (K0 κ)) := doesAt_run (C := C R) (fn := Tryz.f108) tyOk (Γ_does tab ht) (by kernel_rfl) (by kernel_rfl) (by rw [k]; rw [g3 R κ fuelK]; rfl)
end lm_number
namespace lm_reach
abbrev K0 {R : Type} (κ : KT R) : Q0 R := fun r0 r1 r2 r3 r4 r5 r6 r7 r8 r9 r10 r11 r12 r13 r14 r15 r16 r17 r18 => κ [.tup [.agg [.str r0, .str r1, .str r2, .nil, .bool r3, .str r4, .bool r5, .str r6, .bool r7, .str r8, .bool r9, .str r10, .nil, .nil, .bool r11, .str r12, .int .i64 r13, .int .i64 r14, .int .i64 r15, .int .i64 r16, .int .i64 r17, .nil], .bool r18]]
abbrev K1 {R : Type} (κ : KT R) : Q1 R := fun r0 r1 r2 r3 r4 r5 r6 r7 r8 r9 r10 r11 r12 r13 r14 r15 r16 r17 r18 r19 r20 r21 r22 => κ [.tup [.agg [.str r0, .str r1, .str r2, .ro 129 r3 true, .bool r4, .str r5, .bool r6, .str r7, .bool r8, .str r9, .bool r10, .str r11, .ro 129 r12 true, .ro 9 r13 true, .bool r14, .str r15, .int .i64 r16, .int .i64 r17, .int .i64 r18, .int .i64 r19, .int .i64 r20, .ro 32 r21 true], .bool r22]]
section
variable (R : Type) (c1 : lm_isMessage1.F R) (c2 : lm_reach.F R)
def Γ (g : Nat) (xs : List SV) (κ : KT R) : Option R :=
 match g with
 | 59 => (match xs with
  | [.vp 32 [.str a0, .str a1, .str a2, .ro 129 a3 true, .bool a4, .str a5, .bool a6, .str a7, .bool a8, .str a9, .bool a10, .str a11, .ro 129 a12 true, .ro 9 a13 true, .bool a14, .str a15, .int .i64 a16, .int .i64 a17, .int .i64 a18, .int .i64 a19, .int .i64 a20, .ro 32 a21 true]] => c1 a0 a1 a2 a3 a4 a5 a6 a7 a8 a9 a10 a11 a12 a13 a14 a15 a16 a17 a18 a19 a20 a21 (lm_isMessage1.K0 κ)
  | _ => none)
 | 109 => (match xs with
  | [.agg [.str a0, .str a1, .str a2, .ro 129 a3 true, .bool a4, .str a5, .bool a6, .str a7, .bool a8, .str a9, .bool a10, .str a11, .ro 129 a12 true, .ro 9 a13 true, .bool a14, .str a15, .int .i64 a16, .int .i64 a17, .int .i64 a18, .int .i64 a19, .int .i64 a20, .ro 32 a21 true], .bool a22, .int .i64 a23] => c2 a0 a1 a2 a3 a4 a5 a6 a7 a8 a9 a10 a11 a12 a13 a14 a15 a16 a17 a18 a19 a20 a21 a22 a23 (K0 κ) (K1 κ)
  | _ => none)
 | _ => none
def h (n : Nat) : Option (List (Nat × List (Nat × Nat))) :=
 match n with
 | 3 => some [(1, [(0, 0)]), (2, [(0, 0)]), (3, [(0, 0)]), (6, [(0, 0)])]
 | _ => none
def C : Cfg R := ⟨tabTy tyL, Γ R c1 c2, fun _ => false, h, 0, fun _ => false⟩
noncomputable def S := S0 (C R c1 c2) Tryz.f109 0
noncomputable def G := G0 (C R c1 c2) Tryz.f109 0
def s3 := fun x0 x1 x2 x3 x4 x5 x6 x7 x8 x9 x10 x11 x12 x13 x14 x15 x16 x17 x18 x19 x20 x21 x22 x23 x24 x25 x26 x27 x28 x29 x30 x31 x32 x33 x34 x35 x36 x37 x38 x39 x40 x41 => (⟨mkS 58 [(1, .bool x0), (2, .int .i64 x1), (3, .ptr 319 0), (6, .ptr 511 0)], [(319, .var 32 [.str x2, .str x3, .str x4, .ro 129 x5 true, .bool x6, .str x7, .bool x8, .str x9, .bool x10, .str x11, .bool x12, .str x13, .ro 129 x14 true, .ro 9 x15 true, .bool x16, .str x17, .int .i64 x18, .int .i64 x19, .int .i64 x20, .int .i64 x21, .int .i64 x22, .ro 32 x23 true]), (511, .var 32 [.str x24, .str x25, .str x26, .nil, .bool x27, .str x28, .bool x29, .str x30, .bool x31, .str x32, .bool x33, .str x34, .nil, .nil, .bool x35, .str x36, .int .i64 x37, .int .i64 x38, .int .i64 x39, .int .i64 x40, .int .i64 x41, .nil])], top⟩ : St)
noncomputable abbrev q3 {R : Type} (J : JT R) : J3 R := fun x0 x1 x2 x3 x4 x5 x6 x7 x8 x9 x10 x11 x12 x13 x14 x15 x16 x17 x18 x19 x20 x21 x22 x23 x24 x25 x26 x27 x28 x29 x30 x31 x32 x33 x34 x35 x36 x37 x38 x39 x40 x41 => J (placeOf Tryz.f109 3) (s3 x0 x1 x2 x3 x4 x5 x6 x7 x8 x9 x10 x11 x12 x13 x14 x15 x16 x17 x18 x19 x20 x21 x22 x23 x24 x25 x26 x27 x28 x29 x30 x31 x32 x33 x34 x35 x36 x37 x38 x39 x40 x41)
theorem k3 (J : JT R) (κ : KT R) (x0 x1 x2 x3 x4 x5 x6 x7 x8 x9 x10 x11 x12 x13 x14 x15 x16 x17 x18 x19 x20 x21 x22 x23 x24 x25 x26 x27 x28 x29 x30 x31 x32 x33 x34 x35 x36 x37 x38 x39 x40 x41 : _) : S R c1 c2 κ J 3 (s3 x0 x1 x2 x3 x4 x5 x6 x7 x8 x9 x10 x11 x12 x13 x14 x15 x16 x17 x18 x19 x20 x21 x22 x23 x24 x25 x26 x27 x28 x29 x30 x31 x32 x33 x34 x35 x36 x37 x38 x39 x40 x41) = t3 (K0 κ) (K1 κ) x0 x1 x2 x3 x4 x5 x6 x7 x8 x9 x10 x11 x12 x13 x14 x15 x16 x17 x18 x19 x20 x21 x22 x23 x24 x25 x26 x27 x28 x29 x30 x31 x32 x33 x34 x35 x36 x37 x38 x39 x40 x41 := by kernel_rfl
theorem k (κ : KT R) (k : Nat) (a0 a1 a2 a3 a4 a5 a6 a7 a8 a9 a10 a11 a12 a13 a14 a15 a16 a17 a18 a19 a20 a21 a22 a23 : _) : runF (C R c1 c2) Tryz.f109 10000 k [.agg [.str a0, .str a1, .str a2, .ro 129 a3 true, .bool a4, .str a5, .bool a6, .str a7, .bool a8, .str a9, .bool a10, .str a11, .ro 129 a12 true, .ro 9 a13 true, .bool a14, .str a15, .int .i64 a16, .int .i64 a17, .int .i64 a18, .int .i64 a19, .int .i64 a20, .ro 32 a21 true], .bool a22, .int .i64 a23] κ = lm_reach.e c1 c2 a0 a1 a2 a3 a4 a5 a6 a7 a8 a9 a10 a11 a12 a13 a14 a15 a16 a17 a18 a19 a20 a21 a22 a23 (q3 (G R c1 c2 κ k)) (K0 κ) (K1 κ) := by kernel_rfl
theorem g3 (κ : KT R) : ∀ (f : Nat), q3 (G R c1 c2 κ f) = L3 c1 c2 (K0 κ) (K1 κ) f
 | 0 => rfl
 | f + 1 => by
  funext x0 x1 x2 x3 x4 x5 x6 x7 x8 x9 x10 x11 x12 x13 x14 x15 x16 x17 x18 x19 x20 x21 x22 x23 x24 x25 x26 x27 x28 x29 x30 x31 x32 x33 x34 x35 x36 x37 x38 x39 x40 x41
  show S R c1 c2 κ (G R c1 c2 κ f) 3 _ = _
  rw [k3]
  rfl
end
theorem Γ_does {R : Type} (tab : Tab) (ht : TabOk tab) (n : Nat) (ih : ∀ (a0 a1 a2 a3 a4 a5 a6 a7 a8 a9 a10 a11 a12 a13 a14 a15 a16 a17 a18 a19 a20 a21 a22 a23 : _) (κ : KT R), DoesAt Tryz.prog (tabTy tyL) tab 109 [.agg [.str a0, .str a1, .str a2, .ro 129 a3 true, .bool a4, .str a5, .bool a6, .str a7, .bool a8, .str a9, .bool a10, .str a11, .ro 129 a12 true, .ro 9 a13 true, .bool a14, .str a15, .int .i64 a16, .int .i64 a17, .int .i64 a18, .int .i64 a19, .int .i64 a20, .ro 32 a21 true], .bool a22, .int .i64 a23] κ (lm_reach.R n a0 a1 a2 a3 a4 a5 a6 a7 a8 a9 a10 a11 a12 a13 a14 a15 a16 a17 a18 a19 a20 a21 a22 a23 (K0 κ) (K1 κ))) (g : Nat) : Does (R := R) Tryz.prog (tabTy tyL) tab g ((C R lm_isMessage1 (lm_reach.R n)).call g) := by
 refine does_of fun xs κ => ?_
 show DoesAt _ _ _ g xs κ (Γ R lm_isMessage1 (lm_reach.R n) g xs κ)
 unfold Γ
 split
 ·split
  ·exact lm_isMessage1.does tab ht _ _ _ _ _ _ _ _ _ _ _ _ _ _ _ _ _ _ _ _ _ _ κ
  ·exact DoesAt.none
 ·split
  ·exact ih _ _ _ _ _ _ _ _ _ _ _ _ _ _ _ _ _ _ _ _ _ _ _ _ κ
  ·exact DoesAt.none
 ·exact DoesAt.none
theorem R_does {R : Type} (tab : Tab) (ht : TabOk tab) : ∀ (n : Nat) (a0 a1 a2 a3 a4 a5 a6 a7 a8 a9 a10 a11 a12 a13 a14 a15 a16 a17 a18 a19 a20 a21 a22 a23 : _) (κ : KT R), DoesAt Tryz.prog (tabTy tyL) tab 109 [.agg [.str a0, .str a1, .str a2, .ro 129 a3 true, .bool a4, .str a5, .bool a6, .str a7, .bool a8, .str a9, .bool a10, .str a11, .ro 129 a12 true, .ro 9 a13 true, .bool a14, .str a15, .int .i64 a16, .int .i64 a17, .int .i64 a18, .int .i64 a19, .int .i64 a20, .ro 32 a21 true], .bool a22, .int .i64 a23] κ (lm_reach.R n a0 a1 a2 a3 a4 a5 a6 a7 a8 a9 a10 a11 a12 a13 a14 a15 a16 a17 a18 a19 a20 a21 a22 a23 (K0 κ) (K1 κ))
 | 0, _, _, _, _, _, _, _, _, _, _, _, _, _, _, _, _, _, _, _, _, _, _, _, _, _ => DoesAt.none
 | n + 1, a0, a1, a2, a3, a4, a5, a6, a7, a8, a9, a10, a11, a12, a13, a14, a15, a16, a17, a18, a19, a20, a21, a22, a23, κ => doesAt_run (C := C R lm_isMessage1 (lm_reach.R n)) (fn := Tryz.f109) tyOk (Γ_does tab ht n (R_does tab ht n)) (by kernel_rfl) (by kernel_rfl) (show _ = B lm_isMessage1 (lm_reach.R n) a0 a1 a2 a3 a4 a5 a6 a7 a8 a9 a10 a11 a12 a13 a14 a15 a16 a17 a18 a19 a20 a21 a22 a23 (K0 κ) (K1 κ) by rw [k]; rw [g3 R lm_isMessage1 (lm_reach.R n) κ fuelK]; rfl)
theorem does {R : Type} (tab : Tab) (ht : TabOk tab) (a0 a1 a2 a3 a4 a5 a6 a7 a8 a9 a10 a11 a12 a13 a14 a15 a16 a17 a18 a19 a20 a21 a22 a23 : _) (κ : KT R) : DoesAt Tryz.prog (tabTy tyL) tab 109 [.agg [.str a0, .str a1, .str a2, .ro 129 a3 true, .bool a4, .str a5, .bool a6, .str a7, .bool a8, .str a9, .bool a10, .str a11, .ro 129 a12 true, .ro 9 a13 true, .bool a14, .str a15, .int .i64 a16, .int .i64 a17, .int .i64 a18, .int .i64 a19, .int .i64 a20, .ro 32 a21 true], .bool a22, .int .i64 a23] κ (lm_reach a0 a1 a2 a3 a4 a5 a6 a7 a8 a9 a10 a11 a12 a13 a14 a15 a16 a17 a18 a19 a20 a21 a22 a23 (K0 κ) (K1 κ)) := R_does tab ht fuelK a0 a1 a2 a3 a4 a5 a6 a7 a8 a9 a10 a11 a12 a13 a14 a15 a16 a17 a18 a19 a20 a21 a22 a23 κ
end lm_reach
namespace lm_find
abbrev K0 {R : Type} (κ : KT R) : BA -> BA -> BA -> Bool -> BA -> Bool -> BA -> Bool -> BA -> Bool -> BA -> Bool -> BA -> Int -> Int -> Int -> Int -> Int -> Bool -> Option R := fun r0 r1 r2 r3 r4 r5 r6 r7 r8 r9 r10 r11 r12 r13 r14 r15 r16 r17 r18 => κ [.tup [.agg [.str r0, .str r1, .str r2, .nil, .bool r3, .str r4, .bool r5, .str r6, .bool r7, .str r8, .bool r9, .str r10, .nil, .nil, .bool r11, .str r12, .int .i64 r13, .int .i64 r14, .int .i64 r15, .int .i64 r16, .int .i64 r17, .nil], .bool r18]]
abbrev K1 {R : Type} (κ : KT R) : BA -> BA -> BA -> LA -> Bool -> BA -> Bool -> BA -> Bool -> BA -> Bool -> BA -> LA -> LA -> Bool -> BA -> Int -> Int -> Int -> Int -> Int -> LA -> Bool -> Option R := fun r0 r1 r2 r3 r4 r5 r6 r7 r8 r9 r10 r11 r12 r13 r14 r15 r16 r17 r18 r19 r20 r21 r22 => κ [.tup [.agg [.str r0, .str r1, .str r2, .ro 129 r3 true, .bool r4, .str r5, .bool r6, .str r7, .bool r8, .str r9, .bool r10, .str r11, .ro 129 r12 true, .ro 9 r13 true, .bool r14, .str r15, .int .i64 r16, .int .i64 r17, .int .i64 r18, .int .i64 r19, .int .i64 r20, .ro 32 r21 true], .bool r22]]
section
variable (R : Type) (c1 : lm_number.F R) (c2 : lm_reach.F R) (c3 : st_Index.F R)
def Γ (g : Nat) (xs : List SV) (κ : KT R) : Option R :=
 match g with
 | 108 => (match xs with
  | [.str a0] => c1 a0 (lm_number.K0 κ)
  | _ => none)
 | 109 => (match xs with
  | [.agg [.str a0, .str a1, .str a2, .ro 129 a3 true, .bool a4, .str a5, .bool a6, .str a7, .bool a8, .str a9, .bool a10, .str a11, .ro 129 a12 true, .ro 9 a13 true, .bool a14, .str a15, .int .i64 a16, .int .i64 a17, .int .i64 a18, .int .i64 a19, .int .i64 a20, .ro 32 a21 true], .bool a22, .int .i64 a23] => c2 a0 a1 a2 a3 a4 a5 a6 a7 a8 a9 a10 a11 a12 a13 a14 a15 a16 a17 a18 a19 a20 a21 a22 a23 (lm_reach.K0 κ) (lm_reach.K1 κ)
  | _ => none)
 | 128 => (match xs with
  | [.str a0, .str a1] => c3 a0 a1 (st_Index.K0 κ)
  | _ => none)
 | _ => none
def C : Cfg R := ⟨tabTy tyL, Γ R c1 c2 c3, fun _ => false, fun _ => none, 0, fun _ => false⟩
def F0 : SpF := ⟨107, 128, fuelK, ⟨#[46]⟩⟩
def st := fun (a0 a1 a2 a3 a4 a5 a6 a7 a8 a9 a10 a11 a12 a13 a14 a15 a16 a17 a18 a19 a20 a21 a22 : _) (i : Bool) (x0 x1 x2 x3 x4 x5 x6 x7 x8 x9 x10 x11 x12 x13 x14 x15 x16 x17 x18 x19 x20 x21 : _) => (⟨mkS 34 [(0, .agg [.str a0, .str a1, .str a2, .ro 129 a3 true, .bool a4, .str a5, .bool a6, .str a7, .bool a8, .str a9, .bool a10, .str a11, .ro 129 a12 true, .ro 9 a13 true, .bool a14, .str a15, .int .i64 a16, .int .i64 a17, .int .i64 a18, .int .i64 a19, .int .i64 a20, .ro 32 a21 true]), (1, .str a22), (2, .ptr 64 0), (3, .undef), (4, .ptr 65 0), (5, .ptr 66 0), (6, .ptr 67 0), (10, .str a22), (11, .bool (decide (a22 = (⟨#[]⟩ : BA)))), (12, .undef), (13, .str a22), (14, .no), (31, .undef), (32, .undef), (33, .undef)], [(67, .var 4 [.bool i]), (66, .var 4 [.bool false]), (65, .var 32 [.str (⟨#[]⟩ : BA), .str (⟨#[]⟩ : BA), .str (⟨#[]⟩ : BA), .nil, .bool false, .str (⟨#[]⟩ : BA), .bool false, .str (⟨#[]⟩ : BA), .bool false, .str (⟨#[]⟩ : BA), .bool false, .str (⟨#[]⟩ : BA), .nil, .nil, .bool false, .str (⟨#[]⟩ : BA), .int .i64 0, .int .i64 0, .int .i64 0, .int .i64 0, .int .i64 0, .nil]), (64, .var 32 [.str x0, .str x1, .str x2, .ro 129 x3 true, .bool x4, .str x5, .bool x6, .str x7, .bool x8, .str x9, .bool x10, .str x11, .ro 129 x12 true, .ro 9 x13 true, .bool x14, .str x15, .int .i64 x16, .int .i64 x17, .int .i64 x18, .int .i64 x19, .int .i64 x20, .ro 32 x21 true])], 68⟩ : St)
noncomputable def I : SpI := (Tryz.f57.body.bind spIn).getD default
noncomputable def Z : Code := (Tryz.f57.body.bind spZ).getD .skip
noncomputable def κE (κ : KT R) : Exit -> St -> Option R := fun e s1 => (thenK (retE (C R c1 c2 c3) Tryz.f57 0 κ) fun s1 => cK (C R c1 c2 c3) Z s1 (endK (retE (C R c1 c2 c3) Tryz.f57 0 κ))) (blkK I.b e) s1
theorem kR (J : BA -> St -> Option R) (κ : KT R) (a0 a1 a2 a3 a4 a5 a6 a7 a8 a9 a10 a11 a12 a13 a14 a15 a16 a17 a18 a19 a20 a21 a22 : _) (i : Bool) (p : BA) (x0 x1 x2 x3 x4 x5 x6 x7 x8 x9 x10 x11 x12 x13 x14 x15 x16 x17 x18 x19 x20 x21 : _) : rdK (C R c1 c2 c3) 128 I (κE R c1 c2 c3 κ) J p (st a0 a1 a2 a3 a4 a5 a6 a7 a8 a9 a10 a11 a12 a13 a14 a15 a16 a17 a18 a19 a20 a21 a22 i x0 x1 x2 x3 x4 x5 x6 x7 x8 x9 x10 x11 x12 x13 x14 x15 x16 x17 x18 x19 x20 x21) = t c1 c2 c3 (K0 κ) (K1 κ) a22 (fun p x0 x1 x2 x3 x4 x5 x6 x7 x8 x9 x10 x11 x12 x13 x14 x15 x16 x17 x18 x19 x20 x21 => J p (st a0 a1 a2 a3 a4 a5 a6 a7 a8 a9 a10 a11 a12 a13 a14 a15 a16 a17 a18 a19 a20 a21 a22 false x0 x1 x2 x3 x4 x5 x6 x7 x8 x9 x10 x11 x12 x13 x14 x15 x16 x17 x18 x19 x20 x21)) p x0 x1 x2 x3 x4 x5 x6 x7 x8 x9 x10 x11 x12 x13 x14 x15 x16 x17 x18 x19 x20 x21 i := by kernel_rfl
theorem kL (κ : KT R) (a0 a1 a2 a3 a4 a5 a6 a7 a8 a9 a10 a11 a12 a13 a14 a15 a16 a17 a18 a19 a20 a21 a22 : _) : ∀ (f : Nat) (i : Bool) (p : BA) (x0 x1 x2 x3 x4 x5 x6 x7 x8 x9 x10 x11 x12 x13 x14 x15 x16 x17 x18 x19 x20 x21 : _), rlK (C R c1 c2 c3) 128 I (κE R c1 c2 c3 κ) f p (st a0 a1 a2 a3 a4 a5 a6 a7 a8 a9 a10 a11 a12 a13 a14 a15 a16 a17 a18 a19 a20 a21 a22 i x0 x1 x2 x3 x4 x5 x6 x7 x8 x9 x10 x11 x12 x13 x14 x15 x16 x17 x18 x19 x20 x21) = L c1 c2 c3 (K0 κ) (K1 κ) a22 f i p x0 x1 x2 x3 x4 x5 x6 x7 x8 x9 x10 x11 x12 x13 x14 x15 x16 x17 x18 x19 x20 x21
 | 0, _, _, _, _, _, _, _, _, _, _, _, _, _, _, _, _, _, _, _, _, _, _, _, _ => rfl
 | f + 1, i, p, x0, x1, x2, x3, x4, x5, x6, x7, x8, x9, x10, x11, x12, x13, x14, x15, x16, x17, x18, x19, x20, x21 => (kR R c1 c2 c3 (rlK (C R c1 c2 c3) 128 I (κE R c1 c2 c3 κ) f) κ a0 a1 a2 a3 a4 a5 a6 a7 a8 a9 a10 a11 a12 a13 a14 a15 a16 a17 a18 a19 a20 a21 a22 i p x0 x1 x2 x3 x4 x5 x6 x7 x8 x9 x10 x11 x12 x13 x14 x15 x16 x17 x18 x19 x20 x21).trans (congrArg (fun j => t c1 c2 c3 (K0 κ) (K1 κ) a22 j p x0 x1 x2 x3 x4 x5 x6 x7 x8 x9 x10 x11 x12 x13 x14 x15 x16 x17 x18 x19 x20 x21 i) (by
  funext p x0 x1 x2 x3 x4 x5 x6 x7 x8 x9 x10 x11 x12 x13 x14 x15 x16 x17 x18 x19 x20 x21
  exact kL κ a0 a1 a2 a3 a4 a5 a6 a7 a8 a9 a10 a11 a12 a13 a14 a15 a16 a17 a18 a19 a20 a21 a22 f false p x0 x1 x2 x3 x4 x5 x6 x7 x8 x9 x10 x11 x12 x13 x14 x15 x16 x17 x18 x19 x20 x21))
theorem k (κ : KT R) (a0 a1 a2 a3 a4 a5 a6 a7 a8 a9 a10 a11 a12 a13 a14 a15 a16 a17 a18 a19 a20 a21 a22 : _) : runG (C R c1 c2 c3) F0 Tryz.f57 [.agg [.str a0, .str a1, .str a2, .ro 129 a3 true, .bool a4, .str a5, .bool a6, .str a7, .bool a8, .str a9, .bool a10, .str a11, .ro 129 a12 true, .ro 9 a13 true, .bool a14, .str a15, .int .i64 a16, .int .i64 a17, .int .i64 a18, .int .i64 a19, .int .i64 a20, .ro 32 a21 true], .str a22] κ = (bif (decide (a22 = (⟨#[]⟩ : BA))) then (K1 κ a0 a1 a2 a3 a4 a5 a6 a7 a8 a9 a10 a11 a12 a13 a14 a15 a16 a17 a18 a19 a20 a21 true) else (chk (decide (a22.size < 281474976710656)) (rlK (C R c1 c2 c3) 128 I (κE R c1 c2 c3 κ) fuelK a22 (st a0 a1 a2 a3 a4 a5 a6 a7 a8 a9 a10 a11 a12 a13 a14 a15 a16 a17 a18 a19 a20 a21 a22 true a0 a1 a2 a3 a4 a5 a6 a7 a8 a9 a10 a11 a12 a13 a14 a15 a16 a17 a18 a19 a20 a21)))) := by kernel_rfl
end
theorem Γ_does {R : Type} (tab : Tab) (ht : TabOk tab) (g : Nat) : Does (R := R) Tryz.prog (tabTy tyL) tab g ((C R lm_number lm_reach st_Index).call g) := by
 refine does_of fun xs κ => ?_
 show DoesAt _ _ _ g xs κ (Γ R lm_number lm_reach st_Index g xs κ)
 unfold Γ
 split
 ·split
  ·exact lm_number.does tab ht _ κ
  ·exact DoesAt.none
 ·split
  ·exact lm_reach.does tab ht _ _ _ _ _ _ _ _ _ _ _ _ _ _ _ _ _ _ _ _ _ _ _ _ κ
  ·exact DoesAt.none
 ·split
  ·exact st_Index.does tab ht _ _ κ
  ·exact DoesAt.none
 ·exact DoesAt.none
theorem does {R : Type} (tab : Tab) (ht : TabOk tab) (a0 a1 a2 a3 a4 a5 a6 a7 a8 a9 a10 a11 a12 a13 a14 a15 a16 a17 a18 a19 a20 a21 a22 : _) (κ : KT R) : DoesAt Tryz.prog (tabTy tyL) tab 57 [.agg [.str a0, .str a1, .str a2, .ro 129 a3 true, .bool a4, .str a5, .bool a6, .str a7, .bool a8, .str a9, .bool a10, .str a11, .ro 129 a12 true, .ro 9 a13 true, .bool a14, .str a15, .int .i64 a16, .int .i64 a17, .int .i64 a18, .int .i64 a19, .int .i64 a20, .ro 32 a21 true], .str a22] κ (lm_find a0 a1 a2 a3 a4 a5 a6 a7 a8 a9 a10 a11 a12 a13 a14 a15 a16 a17 a18 a19 a20 a21 a22 (K0 κ) (K1 κ)) := doesAt_runG (C := C R lm_number lm_reach st_Index) (fn := Tryz.f57) tyOk (Γ_does tab ht) sp_ok (by kernel_rfl) (by kernel_rfl) ((k R lm_number lm_reach st_Index κ a0 a1 a2 a3 a4 a5 a6 a7 a8 a9 a10 a11 a12 a13 a14 a15 a16 a17 a18 a19 a20 a21 a22).trans (by rw [kL]; rfl))
end lm_find
namespace lm_isMessage3
abbrev K0 {R : Type} (κ : KT R) : Q0 R := fun r0 r1 r2 r3 r4 r5 r6 r7 r8 r9 r10 r11 r12 r13 r14 r15 r16 r17 r18 => κ [.bool r0, .vp 32 [.str r1, .str r2, .str r3, .nil, .bool r4, .str r5, .bool r6, .str r7, .bool r8, .str r9, .bool r10, .str r11, .nil, .nil, .bool r12, .str r13, .int .i64 r14, .int .i64 r15, .int .i64 r16, .int .i64 r17, .int .i64 r18, .nil]]
section
variable (R : Type)
def Γ (g : Nat) (xs : List SV) (κ : KT R) : Option R :=
 match g with
 | _ => none
def h (n : Nat) : Option (List (Nat × List (Nat × Nat))) :=
 match n with
 | _ => none
def C : Cfg R := ⟨tabTy tyL, Γ R, fun _ => false, h, 0, fun _ => false⟩
theorem k (κ : KT R) (k : Nat) (a0 a1 a2 a3 a4 a5 a6 a7 a8 a9 a10 a11 a12 a13 a14 a15 a16 a17 : _) : runF (C R) Tryz.f59 10000 k [.vp 32 [.str a0, .str a1, .str a2, .nil, .bool a3, .str a4, .bool a5, .str a6, .bool a7, .str a8, .bool a9, .str a10, .nil, .nil, .bool a11, .str a12, .int .i64 a13, .int .i64 a14, .int .i64 a15, .int .i64 a16, .int .i64 a17, .nil]] κ = lm_isMessage3.e a0 a1 a2 a3 a4 a5 a6 a7 a8 a9 a10 a11 a12 a13 a14 a15 a16 a17 (K0 κ) := by kernel_rfl
end
theorem Γ_does {R : Type} (tab : Tab) (ht : TabOk tab) (g : Nat) : Does (R := R) Tryz.prog (tabTy tyL) tab g ((C R).call g) := by
 refine does_of fun xs κ => ?_
 show DoesAt _ _ _ g xs κ (Γ R g xs κ)
 unfold Γ
 split
 ·exact DoesAt.none
theorem does {R : Type} (tab : Tab) (ht : TabOk tab) (a0 a1 a2 a3 a4 a5 a6 a7 a8 a9 a10 a11 a12 a13 a14 a15 a16 a17 : _) (κ : KT R) : DoesAt Tryz.prog (tabTy tyL) tab 59 [.vp 32 [.str a0, .str a1, .str a2, .nil, .bool a3, .str a4, .bool a5, .str a6, .bool a7, .str a8, .bool a9, .str a10, .nil, .nil, .bool a11, .str a12, .int .i64 a13, .int .i64 a14, .int .i64 a15, .int .i64 a16, .int .i64 a17, .nil]] κ (lm_isMessage3 a0 a1 a2 a3 a4 a5 a6 a7 a8 a9 a10 a11 a12 a13 a14 a15 a16 a17 (K0 κ)) := doesAt_run (C := C R) (fn := Tryz.f59) tyOk (Γ_does tab ht) (by kernel_rfl) (by kernel_rfl) (by rw [k]; rfl)
end lm_isMessage3
namespace lm_take
abbrev K0 {R : Type} (κ : KT R) : BA -> Bool -> Option R := fun r0 r1 => κ [.tup [.str r0, .bool r1]]
section
variable (R : Type)
def Γ (g : Nat) (xs : List SV) (κ : KT R) : Option R :=
 match g with
 | _ => none
def h (n : Nat) : Option (List (Nat × List (Nat × Nat))) :=
 match n with
 | _ => none
def C : Cfg R := ⟨tabTy tyL, Γ R, fun _ => false, h, 0, fun _ => false⟩
theorem k (κ : KT R) (k : Nat) (a0 a1 a2 : _) : runF (C R) Tryz.f60 10000 k [.str a0, .agg [.int .i64 a1, .int .i64 a2]] κ = lm_take.e a0 a1 a2 (K0 κ) := by kernel_rfl
end
theorem Γ_does {R : Type} (tab : Tab) (ht : TabOk tab) (g : Nat) : Does (R := R) Tryz.prog (tabTy tyL) tab g ((C R).call g) := by
 refine does_of fun xs κ => ?_
 show DoesAt _ _ _ g xs κ (Γ R g xs κ)
 unfold Γ
 split
 ·exact DoesAt.none
theorem does {R : Type} (tab : Tab) (ht : TabOk tab) (a0 a1 a2 : _) (κ : KT R) : DoesAt Tryz.prog (tabTy tyL) tab 60 [.str a0, .agg [.int .i64 a1, .int .i64 a2]] κ (lm_take a0 a1 a2 (K0 κ)) := doesAt_run (C := C R) (fn := Tryz.f60) tyOk (Γ_does tab ht) (by kernel_rfl) (by kernel_rfl) (by rw [k]; rfl)
end lm_take
namespace st_HasSuffix
abbrev K0 {R : Type} (κ : KT R) : Bool -> Option R := fun r0 => κ [.bool r0]
section
variable (R : Type) (c1 : sl_HasSuffix.F R)
def Γ (g : Nat) (xs : List SV) (κ : KT R) : Option R :=
 match g with
 | 153 => (match xs with
  | [.str a0, .str a1] => c1 a0 a1 (sl_HasSuffix.K0 κ)
  | _ => none)
 | _ => none
def h (n : Nat) : Option (List (Nat × List (Nat × Nat))) :=
 match n with
 | _ => none
def C : Cfg R := ⟨tabTy tyL, Γ R c1, fun _ => false, h, 0, fun _ => false⟩
theorem k (κ : KT R) (k : Nat) (a0 a1 : _) : runF (C R c1) Tryz.f113 10000 k [.str a0, .str a1] κ = st_HasSuffix.e c1 a0 a1 (K0 κ) := by kernel_rfl
end
theorem Γ_does {R : Type} (tab : Tab) (ht : TabOk tab) (g : Nat) : Does (R := R) Tryz.prog (tabTy tyL) tab g ((C R sl_HasSuffix).call g) := by
 refine does_of fun xs κ => ?_
 show DoesAt _ _ _ g xs κ (Γ R sl_HasSuffix g xs κ)
 unfold Γ
 split
 ·split
  ·exact sl_HasSuffix.does tab ht _ _ κ
  ·exact DoesAt.none
 ·exact DoesAt.none
theorem does {R : Type} (tab : Tab) (ht : TabOk tab) (a0 a1 : _) (κ : KT R) : DoesAt Tryz.prog (tabTy tyL) tab 113 [.str a0, .str a1] κ (st_HasSuffix a0 a1 (K0 κ)) := doesAt_run (C := C R sl_HasSuffix) (fn := Tryz.f113) tyOk (Γ_does tab ht) (by kernel_rfl) (by kernel_rfl) (by rw [k]; rfl)
end st_HasSuffix
namespace st_Builder_WriteString
abbrev K0 {R : Type} (κ : KT R) : Int -> LA -> Option R := fun r0 r1 => κ [.tup [.int .i64 r0, .nili], .vp 157 [.nos, .fr 5 r1 true]]
section
variable (R : Type) (c1 : st_Builder_copyCheck.F R)
def Γ (g : Nat) (xs : List SV) (κ : KT R) : Option R :=
 match g with
 | 152 => (match xs with
  | [.vp 157 [.nos, .fr 5 a0 true]] => c1 a0 (fun r0 => κ [.tup [], .vp 157 [.nos, .fr 5 r0 true]])
  | _ => none)
 | _ => none
def h (n : Nat) : Option (List (Nat × List (Nat × Nat))) :=
 match n with
 | _ => none
def C : Cfg R := ⟨tabTy tyL, Γ R c1, fun _ => false, h, 0, fun _ => false⟩
theorem k (κ : KT R) (k : Nat) (a0 a1 : _) : runF (C R c1) Tryz.f112 10000 k [.vp 157 [.nos, .fr 5 a0 true], .str a1] κ = st_Builder_WriteString.e c1 a0 a1 (K0 κ) := by kernel_rfl
end
theorem Γ_does {R : Type} (tab : Tab) (ht : TabOk tab) (g : Nat) : Does (R := R) Tryz.prog (tabTy tyL) tab g ((C R st_Builder_copyCheck).call g) := by
 refine does_of fun xs κ => ?_
 show DoesAt _ _ _ g xs κ (Γ R st_Builder_copyCheck g xs κ)
 unfold Γ
 split
 ·split
  ·exact st_Builder_copyCheck.does tab ht _ κ
  ·exact DoesAt.none
 ·exact DoesAt.none
theorem does {R : Type} (tab : Tab) (ht : TabOk tab) (a0 a1 : _) (κ : KT R) : DoesAt Tryz.prog (tabTy tyL) tab 112 [.vp 157 [.nos, .fr 5 a0 true], .str a1] κ (st_Builder_WriteString a0 a1 (K0 κ)) := doesAt_run (C := C R st_Builder_copyCheck) (fn := Tryz.f112) tyOk (Γ_does tab ht) (by kernel_rfl) (by kernel_rfl) (by rw [k]; rfl)
end st_Builder_WriteString
namespace le_Pick
abbrev K0 {R : Type} (κ : KT R) : BA -> Option R := fun r0 => κ [.str r0]
section
variable (R : Type) (c1 : le_rows.F R) (c2 : st_Builder_WriteString.F R) (c3 : st_Builder_String.F R) (c4 : st_HasSuffix.F R)
def Γ (g : Nat) (xs : List SV) (κ : KT R) : Option R :=
 match g with
 | 110 => (match xs with
  | [.str a0] => c1 a0 (le_rows.K0 κ)
  | _ => none)
 | 112 => (match xs with
  | [.vp 157 [.nos, .fr 5 a0 true], .str a1] => c2 a0 a1 (st_Builder_WriteString.K0 κ)
  | _ => none)
 | 113 => (match xs with
  | [.str a0, .str a1] => c4 a0 a1 (st_HasSuffix.K0 κ)
  | _ => none)
 | 114 => (match xs with
  | [.vp 157 [.nos, .fr 5 a0 true]] => c3 a0 (st_Builder_String.K0 κ)
  | _ => none)
 | _ => none
def h (n : Nat) : Option (List (Nat × List (Nat × Nat))) :=
 match n with
 | 3 => some [(1, [(0, 0)]), (2, [(0, 0)]), (7, [(1, 7)]), (14, [(0, 0)]), (15, [(0, 0)]), (16, [(0, 0)])]
 | 7 => some [(1, [(0, 0)]), (2, [(0, 0)]), (7, [(0, 0)]), (9, [(0, 0)]), (10, [(0, 0)]), (14, [(0, 0)]), (15, [(0, 0)]), (16, [(0, 0)]), (20, [(0, 0)]), (21, [(0, 0)]), (22, [(0, 0)])]
 | _ => none
def C : Cfg R := ⟨tabTy tyL, Γ R c1 c2 c3 c4, fun _ => false, h, 0, fun _ => false⟩
noncomputable def S := S0 (C R c1 c2 c3 c4) Tryz.f61 0
noncomputable def G := G0 (C R c1 c2 c3 c4) Tryz.f61 0
def s3 := fun x0 x1 x2 x3 x4 => (⟨mkS 52 [(1, .bool x0), (2, .nil), (7, .ptr 575 0), (14, .own 960), (15, .int .i64 x1), (16, .int .i64 x2)], [(575, .var 157 [.nos, .own 513]), (513, .row 5 x3 true), (960, .row 161 x4 true)], top⟩ : St)
def s7 := fun x0 x1 x2 x3 x4 x5 x6 x7 x8 x9 x10 x11 => (⟨mkS 52 [(1, .bool x0), (2, .nil), (7, .ptr 575 0), (9, .ptr 703 0), (10, .bool x1), (14, .own 960), (15, .int .i64 x2), (16, .int .i64 x3), (20, .nil), (21, .int .i64 x4), (22, .int .i64 x5)], [(575, .var 157 [.nos, .own 513]), (513, .row 5 x6 true), (703, .var 161 [.str x7, .str x8, .bool x9, .bool x10]), (960, .row 161 x11 true)], top⟩ : St)
noncomputable abbrev q3 {R : Type} (J : JT R) : J3 R := fun x0 x1 x2 x3 x4 => J (placeOf Tryz.f61 3) (s3 x0 x1 x2 x3 x4)
noncomputable abbrev q7 {R : Type} (J : JT R) : J7 R := fun x0 x1 x2 x3 x4 x5 x6 x7 x8 x9 x10 x11 => J (placeOf Tryz.f61 7) (s7 x0 x1 x2 x3 x4 x5 x6 x7 x8 x9 x10 x11)
theorem k3 (J : JT R) (κ : KT R) (x0 x1 x2 x3 x4 : _) : S R c1 c2 c3 c4 κ J 3 (s3 x0 x1 x2 x3 x4) = t3 c2 c3 (q7 J) (K0 κ) x0 x1 x2 x3 x4 := by kernel_rfl
theorem k7 (J : JT R) (κ : KT R) (x0 x1 x2 x3 x4 x5 x6 x7 x8 x9 x10 x11 : _) : S R c1 c2 c3 c4 κ J 7 (s7 x0 x1 x2 x3 x4 x5 x6 x7 x8 x9 x10 x11) = t7 c2 c4 (q3 J) x0 x1 x2 x3 x4 x5 x6 x7 x8 x9 x10 x11 := by kernel_rfl
theorem k (κ : KT R) (k : Nat) (a0 a1 : _) : runF (C R c1 c2 c3 c4) Tryz.f61 10000 k [.str a0, .bool a1, .nil] κ = le_Pick.e c1 c2 c3 c4 a0 a1 (q3 (G R c1 c2 c3 c4 κ k)) (q7 (G R c1 c2 c3 c4 κ k)) (K0 κ) := by kernel_rfl
theorem gM3 (κ : KT R) : ∀ (f : Nat), (q3 (G R c1 c2 c3 c4 κ f) = L3 c1 c2 c3 c4 (K0 κ) f) /\ (q7 (G R c1 c2 c3 c4 κ f) = L7 c1 c2 c3 c4 (K0 κ) f)
 | 0 => ⟨rfl, rfl⟩
 | f + 1 => by
  obtain ⟨ih0, ih1⟩ := gM3 κ f
  refine ⟨?_, ?_⟩
  ·funext x0 x1 x2 x3 x4
   show S R c1 c2 c3 c4 κ (G R c1 c2 c3 c4 κ f) 3 _ = _
   rw [k3, ih1]
   rfl
  ·funext x0 x1 x2 x3 x4 x5 x6 x7 x8 x9 x10 x11
   show S R c1 c2 c3 c4 κ (G R c1 c2 c3 c4 κ f) 7 _ = _
   rw [k7, ih0]
   rfl
theorem g3 (κ : KT R) (f : Nat) : q3 (G R c1 c2 c3 c4 κ f) = L3 c1 c2 c3 c4 (K0 κ) f := (gM3 R c1 c2 c3 c4 κ f).1
theorem g7 (κ : KT R) (f : Nat) : q7 (G R c1 c2 c3 c4 κ f) = L7 c1 c2 c3 c4 (K0 κ) f := (gM3 R c1 c2 c3 c4 κ f).2
end
theorem Γ_does {R : Type} (tab : Tab) (ht : TabOk tab) (g : Nat) : Does (R := R) Tryz.prog (tabTy tyL) tab g ((C R le_rows st_Builder_WriteString st_Builder_String st_HasSuffix).call g) := by
 refine does_of fun xs κ => ?_
 show DoesAt _ _ _ g xs κ (Γ R le_rows st_Builder_WriteString st_Builder_String st_HasSuffix g xs κ)
 unfold Γ
 split
 ·split
  ·exact le_rows.does tab ht _ κ
  ·exact DoesAt.none
 ·split
  ·exact st_Builder_WriteString.does tab ht _ _ κ
  ·exact DoesAt.none
 ·split
  ·exact st_HasSuffix.does tab ht _ _ κ
  ·exact DoesAt.none
 ·split
  ·exact st_Builder_String.does tab ht _ κ
  ·exact DoesAt.none
 ·exact DoesAt.none
theorem does {R : Type} (tab : Tab) (ht : TabOk tab) (a0 a1 : _) (κ : KT R) : DoesAt Tryz.prog (tabTy tyL) tab 61 [.str a0, .bool a1, .nil] κ (le_Pick a0 a1 (K0 κ)) := doesAt_run (C := C R le_rows st_Builder_WriteString st_Builder_String st_HasSuffix) (fn := Tryz.f61) tyOk (Γ_does tab ht) (by kernel_rfl) (by kernel_rfl) (by rw [k]; rw [g3 R le_rows st_Builder_WriteString st_Builder_String st_HasSuffix κ fuelK, g7 R le_rows st_Builder_WriteString st_Builder_String st_HasSuffix κ fuelK]; rfl)
end le_Pick
namespace lm_Section
abbrev K0 {R : Type} (κ : KT R) : BA -> Bool -> Option R := fun r0 r1 => κ [.tup [.str r0, .bool r1]]
section
variable (R : Type) (c1 : lm_find.F R) (c2 : lm_isMessage3.F R) (c3 : lm_isMessage1.F R) (c4 : lm_take.F R) (c5 : le_Pick.F R)
def Γ (g : Nat) (xs : List SV) (κ : KT R) : Option R :=
 match g with
 | 57 => (match xs with
  | [.agg [.str a0, .str a1, .str a2, .ro 129 a3 true, .bool a4, .str a5, .bool a6, .str a7, .bool a8, .str a9, .bool a10, .str a11, .ro 129 a12 true, .ro 9 a13 true, .bool a14, .str a15, .int .i64 a16, .int .i64 a17, .int .i64 a18, .int .i64 a19, .int .i64 a20, .ro 32 a21 true], .str a22] => c1 a0 a1 a2 a3 a4 a5 a6 a7 a8 a9 a10 a11 a12 a13 a14 a15 a16 a17 a18 a19 a20 a21 a22 (fun r0 r1 r2 r3 r4 r5 r6 r7 r8 r9 r10 r11 r12 r13 r14 r15 r16 r17 r18 => κ [.tup [.agg [.str r0, .str r1, .str r2, .nil, .bool r3, .str r4, .bool r5, .str r6, .bool r7, .str r8, .bool r9, .str r10, .nil, .nil, .bool r11, .str r12, .int .i64 r13, .int .i64 r14, .int .i64 r15, .int .i64 r16, .int .i64 r17, .nil], .bool r18]]) (fun r0 r1 r2 r3 r4 r5 r6 r7 r8 r9 r10 r11 r12 r13 r14 r15 r16 r17 r18 r19 r20 r21 r22 => κ [.tup [.agg [.str r0, .str r1, .str r2, .ro 129 r3 true, .bool r4, .str r5, .bool r6, .str r7, .bool r8, .str r9, .bool r10, .str r11, .ro 129 r12 true, .ro 9 r13 true, .bool r14, .str r15, .int .i64 r16, .int .i64 r17, .int .i64 r18, .int .i64 r19, .int .i64 r20, .ro 32 r21 true], .bool r22]])
  | _ => none)
 | 59 => (match xs with
  | [.vp 32 [.str a0, .str a1, .str a2, .nil, .bool a3, .str a4, .bool a5, .str a6, .bool a7, .str a8, .bool a9, .str a10, .nil, .nil, .bool a11, .str a12, .int .i64 a13, .int .i64 a14, .int .i64 a15, .int .i64 a16, .int .i64 a17, .nil]] => c2 a0 a1 a2 a3 a4 a5 a6 a7 a8 a9 a10 a11 a12 a13 a14 a15 a16 a17 (lm_isMessage3.K0 κ)
  | [.vp 32 [.str a0, .str a1, .str a2, .ro 129 a3 true, .bool a4, .str a5, .bool a6, .str a7, .bool a8, .str a9, .bool a10, .str a11, .ro 129 a12 true, .ro 9 a13 true, .bool a14, .str a15, .int .i64 a16, .int .i64 a17, .int .i64 a18, .int .i64 a19, .int .i64 a20, .ro 32 a21 true]] => c3 a0 a1 a2 a3 a4 a5 a6 a7 a8 a9 a10 a11 a12 a13 a14 a15 a16 a17 a18 a19 a20 a21 (lm_isMessage1.K0 κ)
  | _ => none)
 | 60 => (match xs with
  | [.str a0, .agg [.int .i64 a1, .int .i64 a2]] => c4 a0 a1 a2 (lm_take.K0 κ)
  | _ => none)
 | 61 => (match xs with
  | [.str a0, .bool a1, .nil] => c5 a0 a1 (le_Pick.K0 κ)
  | _ => none)
 | _ => none
def h (n : Nat) : Option (List (Nat × List (Nat × Nat))) :=
 match n with
 | 10 => some [(0, [(0, 0)]), (5, [(0, 0)]), (8, [(3, 131), (3, 1), (12, 131), (12, 1), (13, 11), (13, 1), (21, 34), (21, 1)]), (10, [(3, 131), (3, 1), (12, 131), (12, 1), (13, 11), (13, 1), (21, 34), (21, 1)]), (49, [(0, 0)])]
 | _ => none
def C : Cfg R := ⟨tabTy tyL, Γ R c1 c2 c3 c4 c5, fun _ => false, h, 0, fun _ => false⟩
noncomputable def S := S0 (C R c1 c2 c3 c4 c5) Tryz.f24 0
noncomputable def G := G0 (C R c1 c2 c3 c4 c5) Tryz.f24 0
def s10 := fun x0 x1 x2 x3 x4 x5 x6 x7 x8 x9 x10 x11 x12 x13 x14 x15 x16 x17 x18 x19 x20 x21 x22 x23 x24 x25 x26 x27 x28 x29 x30 x31 x32 x33 x34 x35 x36 x37 x38 x39 x40 x41 x42 x43 x44 x45 x46 x47 => (⟨mkS 108 [(0, .str x0), (5, .ptr 447 0), (8, .ptr 639 0), (10, .ptr 767 0), (49, .int .i64 x1)], [(447, .var 48 [.str x2, .int .i64 x3, .nil]), (639, .var 32 [.str x4, .str x5, .str x6, .ro 129 x7 true, .bool x8, .str x9, .bool x10, .str x11, .bool x12, .str x13, .bool x14, .str x15, .ro 129 x16 true, .ro 9 x17 true, .bool x18, .str x19, .int .i64 x20, .int .i64 x21, .int .i64 x22, .int .i64 x23, .int .i64 x24, .ro 32 x25 true]), (767, .var 32 [.str x26, .str x27, .str x28, .ro 129 x29 true, .bool x30, .str x31, .bool x32, .str x33, .bool x34, .str x35, .bool x36, .str x37, .ro 129 x38 true, .ro 9 x39 true, .bool x40, .str x41, .int .i64 x42, .int .i64 x43, .int .i64 x44, .int .i64 x45, .int .i64 x46, .ro 32 x47 true])], top⟩ : St)
noncomputable abbrev q10 {R : Type} (J : JT R) : J10 R := fun x0 x1 x2 x3 x4 x5 x6 x7 x8 x9 x10 x11 x12 x13 x14 x15 x16 x17 x18 x19 x20 x21 x22 x23 x24 x25 x26 x27 x28 x29 x30 x31 x32 x33 x34 x35 x36 x37 x38 x39 x40 x41 x42 x43 x44 x45 x46 x47 => J (placeOf Tryz.f24 10) (s10 x0 x1 x2 x3 x4 x5 x6 x7 x8 x9 x10 x11 x12 x13 x14 x15 x16 x17 x18 x19 x20 x21 x22 x23 x24 x25 x26 x27 x28 x29 x30 x31 x32 x33 x34 x35 x36 x37 x38 x39 x40 x41 x42 x43 x44 x45 x46 x47)
theorem k10 (J : JT R) (κ : KT R) (x0 x1 x2 x3 x4 x5 x6 x7 x8 x9 x10 x11 x12 x13 x14 x15 x16 x17 x18 x19 x20 x21 x22 x23 x24 x25 x26 x27 x28 x29 x30 x31 x32 x33 x34 x35 x36 x37 x38 x39 x40 x41 x42 x43 x44 x45 x46 x47 : _) : S R c1 c2 c3 c4 c5 κ J 10 (s10 x0 x1 x2 x3 x4 x5 x6 x7 x8 x9 x10 x11 x12 x13 x14 x15 x16 x17 x18 x19 x20 x21 x22 x23 x24 x25 x26 x27 x28 x29 x30 x31 x32 x33 x34 x35 x36 x37 x38 x39 x40 x41 x42 x43 x44 x45 x46 x47) = t10 c4 c5 (K0 κ) x0 x1 x2 x3 x4 x5 x6 x7 x8 x9 x10 x11 x12 x13 x14 x15 x16 x17 x18 x19 x20 x21 x22 x23 x24 x25 x26 x27 x28 x29 x30 x31 x32 x33 x34 x35 x36 x37 x38 x39 x40 x41 x42 x43 x44 x45 x46 x47 := by kernel_rfl
theorem k (κ : KT R) (k : Nat) (a0 a1 a2 a3 a4 a5 a6 a7 a8 a9 a10 a11 a12 a13 a14 a15 a16 a17 a18 a19 a20 a21 a22 a23 a24 : _) : runF (C R c1 c2 c3 c4 c5) Tryz.f24 10000 k [.str a0, .agg [.str a1, .str a2, .str a3, .ro 129 a4 true, .bool a5, .str a6, .bool a7, .str a8, .bool a9, .str a10, .bool a11, .str a12, .ro 129 a13 true, .ro 9 a14 true, .bool a15, .str a16, .int .i64 a17, .int .i64 a18, .int .i64 a19, .int .i64 a20, .int .i64 a21, .ro 32 a22 true], .agg [.str a23, .int .i64 a24, .nil]] κ = lm_Section.e c1 c2 c3 c4 c5 a0 a1 a2 a3 a4 a5 a6 a7 a8 a9 a10 a11 a12 a13 a14 a15 a16 a17 a18 a19 a20 a21 a22 a23 a24 (q10 (G R c1 c2 c3 c4 c5 κ k)) (K0 κ) := by kernel_rfl
theorem g10 (κ : KT R) : ∀ (f : Nat), q10 (G R c1 c2 c3 c4 c5 κ f) = L10 c1 c2 c3 c4 c5 (K0 κ) f
 | 0 => rfl
 | f + 1 => by
  funext x0 x1 x2 x3 x4 x5 x6 x7 x8 x9 x10 x11 x12 x13 x14 x15 x16 x17 x18 x19 x20 x21 x22 x23 x24 x25 x26 x27 x28 x29 x30 x31 x32 x33 x34 x35 x36 x37 x38 x39 x40 x41 x42 x43 x44 x45 x46 x47
  show S R c1 c2 c3 c4 c5 κ (G R c1 c2 c3 c4 c5 κ f) 10 _ = _
  rw [k10]
  rfl
end
theorem Γ_does {R : Type} (tab : Tab) (ht : TabOk tab) (g : Nat) : Does (R := R) Tryz.prog (tabTy tyL) tab g ((C R lm_find lm_isMessage3 lm_isMessage1 lm_take le_Pick).call g) := by
 refine does_of fun xs κ => ?_
 show DoesAt _ _ _ g xs κ (Γ R lm_find lm_isMessage3 lm_isMessage1 lm_take le_Pick g xs κ)
 unfold Γ
 split
 ·split
  ·exact lm_find.does tab ht _ _ _ _ _ _ _ _ _ _ _ _ _ _ _ _ _ _ _ _ _ _ _ κ
  ·exact DoesAt.none
 ·split
  ·exact lm_isMessage3.does tab ht _ _ _ _ _ _ _ _ _ _ _ _ _ _ _ _ _ _ κ
  ·exact lm_isMessage1.does tab ht _ _ _ _ _ _ _ _ _ _ _ _ _ _ _ _ _ _ _ _ _ _ κ
  ·exact DoesAt.none
 ·split
  ·exact lm_take.does tab ht _ _ _ κ
  ·exact DoesAt.none
 ·split
  ·exact le_Pick.does tab ht _ _ κ
  ·exact DoesAt.none
 ·exact DoesAt.none
theorem does {R : Type} (tab : Tab) (ht : TabOk tab) (a0 a1 a2 a3 a4 a5 a6 a7 a8 a9 a10 a11 a12 a13 a14 a15 a16 a17 a18 a19 a20 a21 a22 a23 a24 : _) (κ : KT R) : DoesAt Tryz.prog (tabTy tyL) tab 24 [.str a0, .agg [.str a1, .str a2, .str a3, .ro 129 a4 true, .bool a5, .str a6, .bool a7, .str a8, .bool a9, .str a10, .bool a11, .str a12, .ro 129 a13 true, .ro 9 a14 true, .bool a15, .str a16, .int .i64 a17, .int .i64 a18, .int .i64 a19, .int .i64 a20, .int .i64 a21, .ro 32 a22 true], .agg [.str a23, .int .i64 a24, .nil]] κ (lm_Section a0 a1 a2 a3 a4 a5 a6 a7 a8 a9 a10 a11 a12 a13 a14 a15 a16 a17 a18 a19 a20 a21 a22 a23 a24 (K0 κ)) := doesAt_run (C := C R lm_find lm_isMessage3 lm_isMessage1 lm_take le_Pick) (fn := Tryz.f24) tyOk (Γ_does tab ht) (by kernel_rfl) (by kernel_rfl) (by rw [k]; rw [g10 R lm_find lm_isMessage3 lm_isMessage1 lm_take le_Pick κ fuelK]; rfl)
end lm_Section
namespace w6_count
abbrev K0 {R : Type} (κ : KT R) : Int -> Option R := fun r0 => κ [.int .i64 r0]
section
variable (R : Type) (c1 : w6_count.F R)
def Γ (g : Nat) (xs : List SV) (κ : KT R) : Option R :=
 match g with
 | 27 => (match xs with
  | [.agg [.str a0, .str a1, .str a2, .ro 129 a3 true, .bool a4, .str a5, .bool a6, .str a7, .bool a8, .str a9, .bool a10, .str a11, .ro 129 a12 true, .ro 9 a13 true, .bool a14, .str a15, .int .i64 a16, .int .i64 a17, .int .i64 a18, .int .i64 a19, .int .i64 a20, .ro 32 a21 true]] => c1 a0 a1 a2 a3 a4 a5 a6 a7 a8 a9 a10 a11 a12 a13 a14 a15 a16 a17 a18 a19 a20 a21 (K0 κ)
  | _ => none)
 | _ => none
def h (n : Nat) : Option (List (Nat × List (Nat × Nat))) :=
 match n with
 | 3 => some [(1, [(0, 0)]), (3, [(0, 0)]), (4, [(0, 0)])]
 | _ => none
def C : Cfg R := ⟨tabTy tyL, Γ R c1, fun _ => false, h, 0, fun _ => false⟩
noncomputable def S := S0 (C R c1) Tryz.f27 0
noncomputable def G := G0 (C R c1) Tryz.f27 0
def s3 := fun x0 x1 x2 x3 x4 x5 x6 x7 x8 x9 x10 x11 x12 x13 x14 x15 x16 x17 x18 x19 x20 x21 x22 x23 => (⟨mkS 24 [(1, .ptr 191 0), (3, .int .i64 x0), (4, .int .i64 x1)], [(191, .var 32 [.str x2, .str x3, .str x4, .ro 129 x5 true, .bool x6, .str x7, .bool x8, .str x9, .bool x10, .str x11, .bool x12, .str x13, .ro 129 x14 true, .ro 9 x15 true, .bool x16, .str x17, .int .i64 x18, .int .i64 x19, .int .i64 x20, .int .i64 x21, .int .i64 x22, .ro 32 x23 true])], top⟩ : St)
noncomputable abbrev q3 {R : Type} (J : JT R) : J3 R := fun x0 x1 x2 x3 x4 x5 x6 x7 x8 x9 x10 x11 x12 x13 x14 x15 x16 x17 x18 x19 x20 x21 x22 x23 => J (placeOf Tryz.f27 3) (s3 x0 x1 x2 x3 x4 x5 x6 x7 x8 x9 x10 x11 x12 x13 x14 x15 x16 x17 x18 x19 x20 x21 x22 x23)
theorem k3 (J : JT R) (κ : KT R) (x0 x1 x2 x3 x4 x5 x6 x7 x8 x9 x10 x11 x12 x13 x14 x15 x16 x17 x18 x19 x20 x21 x22 x23 : _) : S R c1 κ J 3 (s3 x0 x1 x2 x3 x4 x5 x6 x7 x8 x9 x10 x11 x12 x13 x14 x15 x16 x17 x18 x19 x20 x21 x22 x23) = t3 c1 (q3 J) (K0 κ) x0 x1 x2 x3 x4 x5 x6 x7 x8 x9 x10 x11 x12 x13 x14 x15 x16 x17 x18 x19 x20 x21 x22 x23 := by kernel_rfl
theorem k (κ : KT R) (k : Nat) (a0 a1 a2 a3 a4 a5 a6 a7 a8 a9 a10 a11 a12 a13 a14 a15 a16 a17 a18 a19 a20 a21 : _) : runF (C R c1) Tryz.f27 10000 k [.agg [.str a0, .str a1, .str a2, .ro 129 a3 true, .bool a4, .str a5, .bool a6, .str a7, .bool a8, .str a9, .bool a10, .str a11, .ro 129 a12 true, .ro 9 a13 true, .bool a14, .str a15, .int .i64 a16, .int .i64 a17, .int .i64 a18, .int .i64 a19, .int .i64 a20, .ro 32 a21 true]] κ = w6_count.e c1 a0 a1 a2 a3 a4 a5 a6 a7 a8 a9 a10 a11 a12 a13 a14 a15 a16 a17 a18 a19 a20 a21 (q3 (G R c1 κ k)) (K0 κ) := by kernel_rfl
theorem g3 (κ : KT R) : ∀ (f : Nat), q3 (G R c1 κ f) = L3 c1 (K0 κ) f
 | 0 => rfl
 | f + 1 => by
  funext x0 x1 x2 x3 x4 x5 x6 x7 x8 x9 x10 x11 x12 x13 x14 x15 x16 x17 x18 x19 x20 x21 x22 x23
  show S R c1 κ (G R c1 κ f) 3 _ = _
  rw [k3, g3 κ f]
  rfl
end
theorem Γ_does {R : Type} (tab : Tab) (ht : TabOk tab) (n : Nat) (ih : ∀ (a0 a1 a2 a3 a4 a5 a6 a7 a8 a9 a10 a11 a12 a13 a14 a15 a16 a17 a18 a19 a20 a21 : _) (κ : KT R), DoesAt Tryz.prog (tabTy tyL) tab 27 [.agg [.str a0, .str a1, .str a2, .ro 129 a3 true, .bool a4, .str a5, .bool a6, .str a7, .bool a8, .str a9, .bool a10, .str a11, .ro 129 a12 true, .ro 9 a13 true, .bool a14, .str a15, .int .i64 a16, .int .i64 a17, .int .i64 a18, .int .i64 a19, .int .i64 a20, .ro 32 a21 true]] κ (w6_count.R n a0 a1 a2 a3 a4 a5 a6 a7 a8 a9 a10 a11 a12 a13 a14 a15 a16 a17 a18 a19 a20 a21 (K0 κ))) (g : Nat) : Does (R := R) Tryz.prog (tabTy tyL) tab g ((C R (w6_count.R n)).call g) := by
 refine does_of fun xs κ => ?_
 show DoesAt _ _ _ g xs κ (Γ R (w6_count.R n) g xs κ)
 unfold Γ
 split
 ·split
  ·exact ih _ _ _ _ _ _ _ _ _ _ _ _ _ _ _ _ _ _ _ _ _ _ κ
  ·exact DoesAt.none
 ·exact DoesAt.none
theorem R_does {R : Type} (tab : Tab) (ht : TabOk tab) : ∀ (n : Nat) (a0 a1 a2 a3 a4 a5 a6 a7 a8 a9 a10 a11 a12 a13 a14 a15 a16 a17 a18 a19 a20 a21 : _) (κ : KT R), DoesAt Tryz.prog (tabTy tyL) tab 27 [.agg [.str a0, .str a1, .str a2, .ro 129 a3 true, .bool a4, .str a5, .bool a6, .str a7, .bool a8, .str a9, .bool a10, .str a11, .ro 129 a12 true, .ro 9 a13 true, .bool a14, .str a15, .int .i64 a16, .int .i64 a17, .int .i64 a18, .int .i64 a19, .int .i64 a20, .ro 32 a21 true]] κ (w6_count.R n a0 a1 a2 a3 a4 a5 a6 a7 a8 a9 a10 a11 a12 a13 a14 a15 a16 a17 a18 a19 a20 a21 (K0 κ))
 | 0, _, _, _, _, _, _, _, _, _, _, _, _, _, _, _, _, _, _, _, _, _, _, _ => DoesAt.none
 | n + 1, a0, a1, a2, a3, a4, a5, a6, a7, a8, a9, a10, a11, a12, a13, a14, a15, a16, a17, a18, a19, a20, a21, κ => doesAt_run (C := C R (w6_count.R n)) (fn := Tryz.f27) tyOk (Γ_does tab ht n (R_does tab ht n)) (by kernel_rfl) (by kernel_rfl) (show _ = B (w6_count.R n) a0 a1 a2 a3 a4 a5 a6 a7 a8 a9 a10 a11 a12 a13 a14 a15 a16 a17 a18 a19 a20 a21 (K0 κ) by rw [k]; rw [g3 R (w6_count.R n) κ fuelK]; rfl)
theorem does {R : Type} (tab : Tab) (ht : TabOk tab) (a0 a1 a2 a3 a4 a5 a6 a7 a8 a9 a10 a11 a12 a13 a14 a15 a16 a17 a18 a19 a20 a21 : _) (κ : KT R) : DoesAt Tryz.prog (tabTy tyL) tab 27 [.agg [.str a0, .str a1, .str a2, .ro 129 a3 true, .bool a4, .str a5, .bool a6, .str a7, .bool a8, .str a9, .bool a10, .str a11, .ro 129 a12 true, .ro 9 a13 true, .bool a14, .str a15, .int .i64 a16, .int .i64 a17, .int .i64 a18, .int .i64 a19, .int .i64 a20, .ro 32 a21 true]] κ (w6_count a0 a1 a2 a3 a4 a5 a6 a7 a8 a9 a10 a11 a12 a13 a14 a15 a16 a17 a18 a19 a20 a21 (K0 κ)) := R_does tab ht fuelK a0 a1 a2 a3 a4 a5 a6 a7 a8 a9 a10 a11 a12 a13 a14 a15 a16 a17 a18 a19 a20 a21 κ
end w6_count
namespace w6_deep
abbrev K0 {R : Type} (κ : KT R) : Int -> Option R := fun r0 => κ [.int .i64 r0]
section
variable (R : Type) (c1 : w6_deep.F R)
def Γ (g : Nat) (xs : List SV) (κ : KT R) : Option R :=
 match g with
 | 28 => (match xs with
  | [.agg [.str a0, .str a1, .str a2, .ro 129 a3 true, .bool a4, .str a5, .bool a6, .str a7, .bool a8, .str a9, .bool a10, .str a11, .ro 129 a12 true, .ro 9 a13 true, .bool a14, .str a15, .int .i64 a16, .int .i64 a17, .int .i64 a18, .int .i64 a19, .int .i64 a20, .ro 32 a21 true]] => c1 a0 a1 a2 a3 a4 a5 a6 a7 a8 a9 a10 a11 a12 a13 a14 a15 a16 a17 a18 a19 a20 a21 (K0 κ)
  | _ => none)
 | _ => none
def h (n : Nat) : Option (List (Nat × List (Nat × Nat))) :=
 match n with
 | 3 => some [(1, [(0, 0)]), (3, [(0, 0)]), (4, [(0, 0)])]
 | _ => none
def C : Cfg R := ⟨tabTy tyL, Γ R c1, fun _ => false, h, 0, fun _ => false⟩
noncomputable def S := S0 (C R c1) Tryz.f28 0
noncomputable def G := G0 (C R c1) Tryz.f28 0
def s3 := fun x0 x1 x2 x3 x4 x5 x6 x7 x8 x9 x10 x11 x12 x13 x14 x15 x16 x17 x18 x19 x20 x21 x22 x23 => (⟨mkS 22 [(1, .ptr 191 0), (3, .int .i64 x0), (4, .int .i64 x1)], [(191, .var 32 [.str x2, .str x3, .str x4, .ro 129 x5 true, .bool x6, .str x7, .bool x8, .str x9, .bool x10, .str x11, .bool x12, .str x13, .ro 129 x14 true, .ro 9 x15 true, .bool x16, .str x17, .int .i64 x18, .int .i64 x19, .int .i64 x20, .int .i64 x21, .int .i64 x22, .ro 32 x23 true])], top⟩ : St)
noncomputable abbrev q3 {R : Type} (J : JT R) : J3 R := fun x0 x1 x2 x3 x4 x5 x6 x7 x8 x9 x10 x11 x12 x13 x14 x15 x16 x17 x18 x19 x20 x21 x22 x23 => J (placeOf Tryz.f28 3) (s3 x0 x1 x2 x3 x4 x5 x6 x7 x8 x9 x10 x11 x12 x13 x14 x15 x16 x17 x18 x19 x20 x21 x22 x23)
theorem k3 (J : JT R) (κ : KT R) (x0 x1 x2 x3 x4 x5 x6 x7 x8 x9 x10 x11 x12 x13 x14 x15 x16 x17 x18 x19 x20 x21 x22 x23 : _) : S R c1 κ J 3 (s3 x0 x1 x2 x3 x4 x5 x6 x7 x8 x9 x10 x11 x12 x13 x14 x15 x16 x17 x18 x19 x20 x21 x22 x23) = t3 c1 (q3 J) (K0 κ) x0 x1 x2 x3 x4 x5 x6 x7 x8 x9 x10 x11 x12 x13 x14 x15 x16 x17 x18 x19 x20 x21 x22 x23 := by kernel_rfl
theorem k (κ : KT R) (k : Nat) (a0 a1 a2 a3 a4 a5 a6 a7 a8 a9 a10 a11 a12 a13 a14 a15 a16 a17 a18 a19 a20 a21 : _) : runF (C R c1) Tryz.f28 10000 k [.agg [.str a0, .str a1, .str a2, .ro 129 a3 true, .bool a4, .str a5, .bool a6, .str a7, .bool a8, .str a9, .bool a10, .str a11, .ro 129 a12 true, .ro 9 a13 true, .bool a14, .str a15, .int .i64 a16, .int .i64 a17, .int .i64 a18, .int .i64 a19, .int .i64 a20, .ro 32 a21 true]] κ = w6_deep.e c1 a0 a1 a2 a3 a4 a5 a6 a7 a8 a9 a10 a11 a12 a13 a14 a15 a16 a17 a18 a19 a20 a21 (q3 (G R c1 κ k)) (K0 κ) := by kernel_rfl
theorem g3 (κ : KT R) : ∀ (f : Nat), q3 (G R c1 κ f) = L3 c1 (K0 κ) f
 | 0 => rfl
 | f + 1 => by
  funext x0 x1 x2 x3 x4 x5 x6 x7 x8 x9 x10 x11 x12 x13 x14 x15 x16 x17 x18 x19 x20 x21 x22 x23
  show S R c1 κ (G R c1 κ f) 3 _ = _
  rw [k3, g3 κ f]
  rfl
end
theorem Γ_does {R : Type} (tab : Tab) (ht : TabOk tab) (n : Nat) (ih : ∀ (a0 a1 a2 a3 a4 a5 a6 a7 a8 a9 a10 a11 a12 a13 a14 a15 a16 a17 a18 a19 a20 a21 : _) (κ : KT R), DoesAt Tryz.prog (tabTy tyL) tab 28 [.agg [.str a0, .str a1, .str a2, .ro 129 a3 true, .bool a4, .str a5, .bool a6, .str a7, .bool a8, .str a9, .bool a10, .str a11, .ro 129 a12 true, .ro 9 a13 true, .bool a14, .str a15, .int .i64 a16, .int .i64 a17, .int .i64 a18, .int .i64 a19, .int .i64 a20, .ro 32 a21 true]] κ (w6_deep.R n a0 a1 a2 a3 a4 a5 a6 a7 a8 a9 a10 a11 a12 a13 a14 a15 a16 a17 a18 a19 a20 a21 (K0 κ))) (g : Nat) : Does (R := R) Tryz.prog (tabTy tyL) tab g ((C R (w6_deep.R n)).call g) := by
 refine does_of fun xs κ => ?_
 show DoesAt _ _ _ g xs κ (Γ R (w6_deep.R n) g xs κ)
 unfold Γ
 split
 ·split
  ·exact ih _ _ _ _ _ _ _ _ _ _ _ _ _ _ _ _ _ _ _ _ _ _ κ
  ·exact DoesAt.none
 ·exact DoesAt.none
theorem R_does {R : Type} (tab : Tab) (ht : TabOk tab) : ∀ (n : Nat) (a0 a1 a2 a3 a4 a5 a6 a7 a8 a9 a10 a11 a12 a13 a14 a15 a16 a17 a18 a19 a20 a21 : _) (κ : KT R), DoesAt Tryz.prog (tabTy tyL) tab 28 [.agg [.str a0, .str a1, .str a2, .ro 129 a3 true, .bool a4, .str a5, .bool a6, .str a7, .bool a8, .str a9, .bool a10, .str a11, .ro 129 a12 true, .ro 9 a13 true, .bool a14, .str a15, .int .i64 a16, .int .i64 a17, .int .i64 a18, .int .i64 a19, .int .i64 a20, .ro 32 a21 true]] κ (w6_deep.R n a0 a1 a2 a3 a4 a5 a6 a7 a8 a9 a10 a11 a12 a13 a14 a15 a16 a17 a18 a19 a20 a21 (K0 κ))
 | 0, _, _, _, _, _, _, _, _, _, _, _, _, _, _, _, _, _, _, _, _, _, _, _ => DoesAt.none
 | n + 1, a0, a1, a2, a3, a4, a5, a6, a7, a8, a9, a10, a11, a12, a13, a14, a15, a16, a17, a18, a19, a20, a21, κ => doesAt_run (C := C R (w6_deep.R n)) (fn := Tryz.f28) tyOk (Γ_does tab ht n (R_does tab ht n)) (by kernel_rfl) (by kernel_rfl) (show _ = B (w6_deep.R n) a0 a1 a2 a3 a4 a5 a6 a7 a8 a9 a10 a11 a12 a13 a14 a15 a16 a17 a18 a19 a20 a21 (K0 κ) by rw [k]; rw [g3 R (w6_deep.R n) κ fuelK]; rfl)
theorem does {R : Type} (tab : Tab) (ht : TabOk tab) (a0 a1 a2 a3 a4 a5 a6 a7 a8 a9 a10 a11 a12 a13 a14 a15 a16 a17 a18 a19 a20 a21 : _) (κ : KT R) : DoesAt Tryz.prog (tabTy tyL) tab 28 [.agg [.str a0, .str a1, .str a2, .ro 129 a3 true, .bool a4, .str a5, .bool a6, .str a7, .bool a8, .str a9, .bool a10, .str a11, .ro 129 a12 true, .ro 9 a13 true, .bool a14, .str a15, .int .i64 a16, .int .i64 a17, .int .i64 a18, .int .i64 a19, .int .i64 a20, .ro 32 a21 true]] κ (w6_deep a0 a1 a2 a3 a4 a5 a6 a7 a8 a9 a10 a11 a12 a13 a14 a15 a16 a17 a18 a19 a20 a21 (K0 κ)) := R_does tab ht fuelK a0 a1 a2 a3 a4 a5 a6 a7 a8 a9 a10 a11 a12 a13 a14 a15 a16 a17 a18 a19 a20 a21 κ
end w6_deep
namespace w6_spot
abbrev K0 {R : Type} (κ : KT R) : Int -> Option R := fun r0 => κ [.int .i64 r0]
section
variable (R : Type)
def Γ (g : Nat) (xs : List SV) (κ : KT R) : Option R :=
 match g with
 | _ => none
def h (n : Nat) : Option (List (Nat × List (Nat × Nat))) :=
 match n with
 | _ => none
def C : Cfg R := ⟨tabTy tyL, Γ R, fun _ => false, h, 0, fun _ => false⟩
theorem k (κ : KT R) (k : Nat) (a0 a1 : _) : runF (C R) Tryz.f29 10000 k [.int .i64 a0, .int .i64 a1] κ = w6_spot.e a0 a1 (K0 κ) := by kernel_rfl
end
theorem Γ_does {R : Type} (tab : Tab) (ht : TabOk tab) (g : Nat) : Does (R := R) Tryz.prog (tabTy tyL) tab g ((C R).call g) := by
 refine does_of fun xs κ => ?_
 show DoesAt _ _ _ g xs κ (Γ R g xs κ)
 unfold Γ
 split
 ·exact DoesAt.none
theorem does {R : Type} (tab : Tab) (ht : TabOk tab) (a0 a1 : _) (κ : KT R) : DoesAt Tryz.prog (tabTy tyL) tab 29 [.int .i64 a0, .int .i64 a1] κ (w6_spot a0 a1 (K0 κ)) := doesAt_run (C := C R) (fn := Tryz.f29) tyOk (Γ_does tab ht) (by kernel_rfl) (by kernel_rfl) (by rw [k]; rfl)
end w6_spot
namespace w6_places
abbrev K0 {R : Type} (κ : KT R) : LA -> Option R := fun r0 => κ [.fr 9 r0 true]
section
variable (R : Type) (c1 : w6_places.F R)
def Γ (g : Nat) (xs : List SV) (κ : KT R) : Option R :=
 match g with
 | 21 => (match xs with
  | [.agg [.str a0, .str a1, .str a2, .ro 129 a3 true, .bool a4, .str a5, .bool a6, .str a7, .bool a8, .str a9, .bool a10, .str a11, .ro 129 a12 true, .ro 9 a13 true, .bool a14, .str a15, .int .i64 a16, .int .i64 a17, .int .i64 a18, .int .i64 a19, .int .i64 a20, .ro 32 a21 true]] => c1 a0 a1 a2 a3 a4 a5 a6 a7 a8 a9 a10 a11 a12 a13 a14 a15 a16 a17 a18 a19 a20 a21 (K0 κ)
  | _ => none)
 | _ => none
def h (n : Nat) : Option (List (Nat × List (Nat × Nat))) :=
 match n with
 | 5 => some [(1, [(0, 0)]), (3, [(0, 0)]), (4, [(0, 0)])]
 | _ => none
def C : Cfg R := ⟨tabTy tyL, Γ R c1, fun _ => false, h, 0, fun _ => false⟩
noncomputable def S := S0 (C R c1) Tryz.f21 0
noncomputable def G := G0 (C R c1) Tryz.f21 0
def s5 := fun x0 x1 x2 x3 x4 x5 x6 x7 x8 x9 x10 x11 x12 x13 x14 x15 x16 x17 x18 x19 x20 x21 x22 x23 => (⟨mkS 31 [(1, .ptr 191 0), (3, .own 256), (4, .int .i64 x0)], [(191, .var 32 [.str x1, .str x2, .str x3, .ro 129 x4 true, .bool x5, .str x6, .bool x7, .str x8, .bool x9, .str x10, .bool x11, .str x12, .ro 129 x13 true, .ro 9 x14 true, .bool x15, .str x16, .int .i64 x17, .int .i64 x18, .int .i64 x19, .int .i64 x20, .int .i64 x21, .ro 32 x22 true]), (256, .row 9 x23 true)], top⟩ : St)
noncomputable abbrev q5 {R : Type} (J : JT R) : J5 R := fun x0 x1 x2 x3 x4 x5 x6 x7 x8 x9 x10 x11 x12 x13 x14 x15 x16 x17 x18 x19 x20 x21 x22 x23 => J (placeOf Tryz.f21 5) (s5 x0 x1 x2 x3 x4 x5 x6 x7 x8 x9 x10 x11 x12 x13 x14 x15 x16 x17 x18 x19 x20 x21 x22 x23)
theorem k5 (J : JT R) (κ : KT R) (x0 x1 x2 x3 x4 x5 x6 x7 x8 x9 x10 x11 x12 x13 x14 x15 x16 x17 x18 x19 x20 x21 x22 x23 : _) : S R c1 κ J 5 (s5 x0 x1 x2 x3 x4 x5 x6 x7 x8 x9 x10 x11 x12 x13 x14 x15 x16 x17 x18 x19 x20 x21 x22 x23) = t5 c1 (q5 J) (K0 κ) x0 x1 x2 x3 x4 x5 x6 x7 x8 x9 x10 x11 x12 x13 x14 x15 x16 x17 x18 x19 x20 x21 x22 x23 := by kernel_rfl
theorem k (κ : KT R) (k : Nat) (a0 a1 a2 a3 a4 a5 a6 a7 a8 a9 a10 a11 a12 a13 a14 a15 a16 a17 a18 a19 a20 a21 : _) : runF (C R c1) Tryz.f21 10000 k [.agg [.str a0, .str a1, .str a2, .ro 129 a3 true, .bool a4, .str a5, .bool a6, .str a7, .bool a8, .str a9, .bool a10, .str a11, .ro 129 a12 true, .ro 9 a13 true, .bool a14, .str a15, .int .i64 a16, .int .i64 a17, .int .i64 a18, .int .i64 a19, .int .i64 a20, .ro 32 a21 true]] κ = w6_places.e c1 a0 a1 a2 a3 a4 a5 a6 a7 a8 a9 a10 a11 a12 a13 a14 a15 a16 a17 a18 a19 a20 a21 (q5 (G R c1 κ k)) (K0 κ) := by kernel_rfl
theorem g5 (κ : KT R) : ∀ (f : Nat), q5 (G R c1 κ f) = L5 c1 (K0 κ) f
 | 0 => rfl
 | f + 1 => by
  funext x0 x1 x2 x3 x4 x5 x6 x7 x8 x9 x10 x11 x12 x13 x14 x15 x16 x17 x18 x19 x20 x21 x22 x23
  show S R c1 κ (G R c1 κ f) 5 _ = _
  rw [k5, g5 κ f]
  rfl
end
theorem Γ_does {R : Type} (tab : Tab) (ht : TabOk tab) (n : Nat) (ih : ∀ (a0 a1 a2 a3 a4 a5 a6 a7 a8 a9 a10 a11 a12 a13 a14 a15 a16 a17 a18 a19 a20 a21 : _) (κ : KT R), DoesAt Tryz.prog (tabTy tyL) tab 21 [.agg [.str a0, .str a1, .str a2, .ro 129 a3 true, .bool a4, .str a5, .bool a6, .str a7, .bool a8, .str a9, .bool a10, .str a11, .ro 129 a12 true, .ro 9 a13 true, .bool a14, .str a15, .int .i64 a16, .int .i64 a17, .int .i64 a18, .int .i64 a19, .int .i64 a20, .ro 32 a21 true]] κ (w6_places.R n a0 a1 a2 a3 a4 a5 a6 a7 a8 a9 a10 a11 a12 a13 a14 a15 a16 a17 a18 a19 a20 a21 (K0 κ))) (g : Nat) : Does (R := R) Tryz.prog (tabTy tyL) tab g ((C R (w6_places.R n)).call g) := by
 refine does_of fun xs κ => ?_
 show DoesAt _ _ _ g xs κ (Γ R (w6_places.R n) g xs κ)
 unfold Γ
 split
 ·split
  ·exact ih _ _ _ _ _ _ _ _ _ _ _ _ _ _ _ _ _ _ _ _ _ _ κ
  ·exact DoesAt.none
 ·exact DoesAt.none
theorem R_does {R : Type} (tab : Tab) (ht : TabOk tab) : ∀ (n : Nat) (a0 a1 a2 a3 a4 a5 a6 a7 a8 a9 a10 a11 a12 a13 a14 a15 a16 a17 a18 a19 a20 a21 : _) (κ : KT R), DoesAt Tryz.prog (tabTy tyL) tab 21 [.agg [.str a0, .str a1, .str a2, .ro 129 a3 true, .bool a4, .str a5, .bool a6, .str a7, .bool a8, .str a9, .bool a10, .str a11, .ro 129 a12 true, .ro 9 a13 true, .bool a14, .str a15, .int .i64 a16, .int .i64 a17, .int .i64 a18, .int .i64 a19, .int .i64 a20, .ro 32 a21 true]] κ (w6_places.R n a0 a1 a2 a3 a4 a5 a6 a7 a8 a9 a10 a11 a12 a13 a14 a15 a16 a17 a18 a19 a20 a21 (K0 κ))
 | 0, _, _, _, _, _, _, _, _, _, _, _, _, _, _, _, _, _, _, _, _, _, _, _ => DoesAt.none
 | n + 1, a0, a1, a2, a3, a4, a5, a6, a7, a8, a9, a10, a11, a12, a13, a14, a15, a16, a17, a18, a19, a20, a21, κ => doesAt_run (C := C R (w6_places.R n)) (fn := Tryz.f21) tyOk (Γ_does tab ht n (R_does tab ht n)) (by kernel_rfl) (by kernel_rfl) (show _ = B (w6_places.R n) a0 a1 a2 a3 a4 a5 a6 a7 a8 a9 a10 a11 a12 a13 a14 a15 a16 a17 a18 a19 a20 a21 (K0 κ) by rw [k]; rw [g5 R (w6_places.R n) κ fuelK]; rfl)
theorem does {R : Type} (tab : Tab) (ht : TabOk tab) (a0 a1 a2 a3 a4 a5 a6 a7 a8 a9 a10 a11 a12 a13 a14 a15 a16 a17 a18 a19 a20 a21 : _) (κ : KT R) : DoesAt Tryz.prog (tabTy tyL) tab 21 [.agg [.str a0, .str a1, .str a2, .ro 129 a3 true, .bool a4, .str a5, .bool a6, .str a7, .bool a8, .str a9, .bool a10, .str a11, .ro 129 a12 true, .ro 9 a13 true, .bool a14, .str a15, .int .i64 a16, .int .i64 a17, .int .i64 a18, .int .i64 a19, .int .i64 a20, .ro 32 a21 true]] κ (w6_places a0 a1 a2 a3 a4 a5 a6 a7 a8 a9 a10 a11 a12 a13 a14 a15 a16 a17 a18 a19 a20 a21 (K0 κ)) := R_does tab ht fuelK a0 a1 a2 a3 a4 a5 a6 a7 a8 a9 a10 a11 a12 a13 a14 a15 a16 a17 a18 a19 a20 a21 κ
end w6_places
namespace le_Pick1
abbrev K0 {R : Type} (κ : KT R) : BA -> Option R := fun r0 => κ [.str r0]
section
variable (R : Type) (c1 : le_rows.F R) (c2 : st_Builder_WriteString.F R) (c3 : st_Builder_String.F R) (c4 : oc_Same.F R) (c5 : st_HasSuffix.F R)
def Γ (g : Nat) (xs : List SV) (κ : KT R) : Option R :=
 match g with
 | 110 => (match xs with
  | [.str a0] => c1 a0 (le_rows.K0 κ)
  | _ => none)
 | 111 => (match xs with
  | [.str a0, .str a1] => c4 a0 a1 (oc_Same.K0 κ)
  | _ => none)
 | 112 => (match xs with
  | [.vp 157 [.nos, .fr 5 a0 true], .str a1] => c2 a0 a1 (st_Builder_WriteString.K0 κ)
  | _ => none)
 | 113 => (match xs with
  | [.str a0, .str a1] => c5 a0 a1 (st_HasSuffix.K0 κ)
  | _ => none)
 | 114 => (match xs with
  | [.vp 157 [.nos, .fr 5 a0 true]] => c3 a0 (st_Builder_String.K0 κ)
  | _ => none)
 | _ => none
def h (n : Nat) : Option (List (Nat × List (Nat × Nat))) :=
 match n with
 | 3 => some [(1, [(0, 0)]), (2, [(0, 0)]), (7, [(1, 7)]), (14, [(0, 0)]), (15, [(0, 0)]), (16, [(0, 0)])]
 | 7 => some [(1, [(0, 0)]), (2, [(0, 0)]), (7, [(0, 0)]), (9, [(0, 0)]), (10, [(0, 0)]), (14, [(0, 0)]), (15, [(0, 0)]), (16, [(0, 0)]), (20, [(0, 0)]), (21, [(0, 0)]), (22, [(0, 0)])]
 | _ => none
def C : Cfg R := ⟨tabTy tyL, Γ R c1 c2 c3 c4 c5, fun _ => false, h, 0, fun _ => false⟩
noncomputable def S := S0 (C R c1 c2 c3 c4 c5) Tryz.f61 0
noncomputable def G := G0 (C R c1 c2 c3 c4 c5) Tryz.f61 0
def s3 := fun x0 x1 x2 x3 x4 x5 => (⟨mkS 52 [(1, .bool x0), (2, .ro 9 x1 false), (7, .ptr 575 0), (14, .own 960), (15, .int .i64 x2), (16, .int .i64 x3)], [(575, .var 157 [.nos, .own 513]), (513, .row 5 x4 true), (960, .row 161 x5 true)], top⟩ : St)
def s7 := fun x0 x1 x2 x3 x4 x5 x6 x7 x8 x9 x10 x11 x12 x13 => (⟨mkS 52 [(1, .bool x0), (2, .ro 9 x1 false), (7, .ptr 575 0), (9, .ptr 703 0), (10, .bool x2), (14, .own 960), (15, .int .i64 x3), (16, .int .i64 x4), (20, .ro 9 x5 false), (21, .int .i64 x6), (22, .int .i64 x7)], [(575, .var 157 [.nos, .own 513]), (513, .row 5 x8 true), (703, .var 161 [.str x9, .str x10, .bool x11, .bool x12]), (960, .row 161 x13 true)], top⟩ : St)
noncomputable abbrev q3 {R : Type} (J : JT R) : J3 R := fun x0 x1 x2 x3 x4 x5 => J (placeOf Tryz.f61 3) (s3 x0 x1 x2 x3 x4 x5)
noncomputable abbrev q7 {R : Type} (J : JT R) : J7 R := fun x0 x1 x2 x3 x4 x5 x6 x7 x8 x9 x10 x11 x12 x13 => J (placeOf Tryz.f61 7) (s7 x0 x1 x2 x3 x4 x5 x6 x7 x8 x9 x10 x11 x12 x13)
theorem k3 (J : JT R) (κ : KT R) (x0 x1 x2 x3 x4 x5 : _) : S R c1 c2 c3 c4 c5 κ J 3 (s3 x0 x1 x2 x3 x4 x5) = t3 c2 c3 (q7 J) (K0 κ) x0 x1 x2 x3 x4 x5 := by kernel_rfl
theorem k7 (J : JT R) (κ : KT R) (x0 x1 x2 x3 x4 x5 x6 x7 x8 x9 x10 x11 x12 x13 : _) : S R c1 c2 c3 c4 c5 κ J 7 (s7 x0 x1 x2 x3 x4 x5 x6 x7 x8 x9 x10 x11 x12 x13) = t7 c2 c4 c5 (q3 J) (q7 J) x0 x1 x2 x3 x4 x5 x6 x7 x8 x9 x10 x11 x12 x13 := by kernel_rfl
theorem k (κ : KT R) (k : Nat) (a0 a1 a2 : _) : runF (C R c1 c2 c3 c4 c5) Tryz.f61 10000 k [.str a0, .bool a1, .ro 9 a2 false] κ = le_Pick1.e c1 c2 c3 c4 c5 a0 a1 a2 (q3 (G R c1 c2 c3 c4 c5 κ k)) (q7 (G R c1 c2 c3 c4 c5 κ k)) (K0 κ) := by kernel_rfl
theorem gM3 (κ : KT R) : ∀ (f : Nat), (q3 (G R c1 c2 c3 c4 c5 κ f) = L3 c1 c2 c3 c4 c5 (K0 κ) f) /\ (q7 (G R c1 c2 c3 c4 c5 κ f) = L7 c1 c2 c3 c4 c5 (K0 κ) f)
 | 0 => ⟨rfl, rfl⟩
 | f + 1 => by
  obtain ⟨ih0, ih1⟩ := gM3 κ f
  refine ⟨?_, ?_⟩
  ·funext x0 x1 x2 x3 x4 x5
   show S R c1 c2 c3 c4 c5 κ (G R c1 c2 c3 c4 c5 κ f) 3 _ = _
   rw [k3, ih1]
   rfl
  ·funext x0 x1 x2 x3 x4 x5 x6 x7 x8 x9 x10 x11 x12 x13
   show S R c1 c2 c3 c4 c5 κ (G R c1 c2 c3 c4 c5 κ f) 7 _ = _
   rw [k7, ih0, ih1]
   rfl
theorem g3 (κ : KT R) (f : Nat) : q3 (G R c1 c2 c3 c4 c5 κ f) = L3 c1 c2 c3 c4 c5 (K0 κ) f := (gM3 R c1 c2 c3 c4 c5 κ f).1
theorem g7 (κ : KT R) (f : Nat) : q7 (G R c1 c2 c3 c4 c5 κ f) = L7 c1 c2 c3 c4 c5 (K0 κ) f := (gM3 R c1 c2 c3 c4 c5 κ f).2
end
theorem Γ_does {R : Type} (tab : Tab) (ht : TabOk tab) (g : Nat) : Does (R := R) Tryz.prog (tabTy tyL) tab g ((C R le_rows st_Builder_WriteString st_Builder_String oc_Same st_HasSuffix).call g) := by
 refine does_of fun xs κ => ?_
 show DoesAt _ _ _ g xs κ (Γ R le_rows st_Builder_WriteString st_Builder_String oc_Same st_HasSuffix g xs κ)
 unfold Γ
 split
 ·split
  ·exact le_rows.does tab ht _ κ
  ·exact DoesAt.none
 ·split
  ·exact oc_Same.does tab ht _ _ κ
  ·exact DoesAt.none
 ·split
  ·exact st_Builder_WriteString.does tab ht _ _ κ
  ·exact DoesAt.none
 ·split
  ·exact st_HasSuffix.does tab ht _ _ κ
  ·exact DoesAt.none
 ·split
  ·exact st_Builder_String.does tab ht _ κ
  ·exact DoesAt.none
 ·exact DoesAt.none
theorem does {R : Type} (tab : Tab) (ht : TabOk tab) (a0 a1 a2 : _) (κ : KT R) : DoesAt Tryz.prog (tabTy tyL) tab 61 [.str a0, .bool a1, .ro 9 a2 false] κ (le_Pick1 a0 a1 a2 (K0 κ)) := doesAt_run (C := C R le_rows st_Builder_WriteString st_Builder_String oc_Same st_HasSuffix) (fn := Tryz.f61) tyOk (Γ_does tab ht) (by kernel_rfl) (by kernel_rfl) (by rw [k]; rw [g3 R le_rows st_Builder_WriteString st_Builder_String oc_Same st_HasSuffix κ fuelK, g7 R le_rows st_Builder_WriteString st_Builder_String oc_Same st_HasSuffix κ fuelK]; rfl)
end le_Pick1
namespace lm_Section1
abbrev K0 {R : Type} (κ : KT R) : BA -> Bool -> Option R := fun r0 r1 => κ [.tup [.str r0, .bool r1]]
section
variable (R : Type) (c1 : lm_find.F R) (c2 : lm_isMessage3.F R) (c3 : lm_isMessage1.F R) (c4 : lm_take.F R) (c5 : le_Pick1.F R)
def Γ (g : Nat) (xs : List SV) (κ : KT R) : Option R :=
 match g with
 | 57 => (match xs with
  | [.agg [.str a0, .str a1, .str a2, .ro 129 a3 true, .bool a4, .str a5, .bool a6, .str a7, .bool a8, .str a9, .bool a10, .str a11, .ro 129 a12 true, .ro 9 a13 true, .bool a14, .str a15, .int .i64 a16, .int .i64 a17, .int .i64 a18, .int .i64 a19, .int .i64 a20, .ro 32 a21 true], .str a22] => c1 a0 a1 a2 a3 a4 a5 a6 a7 a8 a9 a10 a11 a12 a13 a14 a15 a16 a17 a18 a19 a20 a21 a22 (fun r0 r1 r2 r3 r4 r5 r6 r7 r8 r9 r10 r11 r12 r13 r14 r15 r16 r17 r18 => κ [.tup [.agg [.str r0, .str r1, .str r2, .nil, .bool r3, .str r4, .bool r5, .str r6, .bool r7, .str r8, .bool r9, .str r10, .nil, .nil, .bool r11, .str r12, .int .i64 r13, .int .i64 r14, .int .i64 r15, .int .i64 r16, .int .i64 r17, .nil], .bool r18]]) (fun r0 r1 r2 r3 r4 r5 r6 r7 r8 r9 r10 r11 r12 r13 r14 r15 r16 r17 r18 r19 r20 r21 r22 => κ [.tup [.agg [.str r0, .str r1, .str r2, .ro 129 r3 true, .bool r4, .str r5, .bool r6, .str r7, .bool r8, .str r9, .bool r10, .str r11, .ro 129 r12 true, .ro 9 r13 true, .bool r14, .str r15, .int .i64 r16, .int .i64 r17, .int .i64 r18, .int .i64 r19, .int .i64 r20, .ro 32 r21 true], .bool r22]])
  | _ => none)
 | 59 => (match xs with
  | [.vp 32 [.str a0, .str a1, .str a2, .nil, .bool a3, .str a4, .bool a5, .str a6, .bool a7, .str a8, .bool a9, .str a10, .nil, .nil, .bool a11, .str a12, .int .i64 a13, .int .i64 a14, .int .i64 a15, .int .i64 a16, .int .i64 a17, .nil]] => c2 a0 a1 a2 a3 a4 a5 a6 a7 a8 a9 a10 a11 a12 a13 a14 a15 a16 a17 (lm_isMessage3.K0 κ)
  | [.vp 32 [.str a0, .str a1, .str a2, .ro 129 a3 true, .bool a4, .str a5, .bool a6, .str a7, .bool a8, .str a9, .bool a10, .str a11, .ro 129 a12 true, .ro 9 a13 true, .bool a14, .str a15, .int .i64 a16, .int .i64 a17, .int .i64 a18, .int .i64 a19, .int .i64 a20, .ro 32 a21 true]] => c3 a0 a1 a2 a3 a4 a5 a6 a7 a8 a9 a10 a11 a12 a13 a14 a15 a16 a17 a18 a19 a20 a21 (lm_isMessage1.K0 κ)
  | _ => none)
 | 60 => (match xs with
  | [.str a0, .agg [.int .i64 a1, .int .i64 a2]] => c4 a0 a1 a2 (lm_take.K0 κ)
  | _ => none)
 | 61 => (match xs with
  | [.str a0, .bool a1, .ro 9 a2 false] => c5 a0 a1 a2 (le_Pick1.K0 κ)
  | _ => none)
 | _ => none
def h (n : Nat) : Option (List (Nat × List (Nat × Nat))) :=
 match n with
 | 10 => some [(0, [(0, 0)]), (5, [(0, 0)]), (8, [(3, 131), (3, 1), (12, 131), (12, 1), (13, 11), (13, 1), (21, 34), (21, 1)]), (10, [(3, 131), (3, 1), (12, 131), (12, 1), (13, 11), (13, 1), (21, 34), (21, 1)]), (49, [(0, 0)])]
 | _ => none
def C : Cfg R := ⟨tabTy tyL, Γ R c1 c2 c3 c4 c5, fun _ => false, h, 0, fun _ => false⟩
noncomputable def S := S0 (C R c1 c2 c3 c4 c5) Tryz.f24 0
noncomputable def G := G0 (C R c1 c2 c3 c4 c5) Tryz.f24 0
def s10 := fun x0 x1 x2 x3 x4 x5 x6 x7 x8 x9 x10 x11 x12 x13 x14 x15 x16 x17 x18 x19 x20 x21 x22 x23 x24 x25 x26 x27 x28 x29 x30 x31 x32 x33 x34 x35 x36 x37 x38 x39 x40 x41 x42 x43 x44 x45 x46 x47 x48 => (⟨mkS 108 [(0, .str x0), (5, .ptr 447 0), (8, .ptr 639 0), (10, .ptr 767 0), (49, .int .i64 x1)], [(447, .var 48 [.str x2, .int .i64 x3, .ro 9 x4 false]), (639, .var 32 [.str x5, .str x6, .str x7, .ro 129 x8 true, .bool x9, .str x10, .bool x11, .str x12, .bool x13, .str x14, .bool x15, .str x16, .ro 129 x17 true, .ro 9 x18 true, .bool x19, .str x20, .int .i64 x21, .int .i64 x22, .int .i64 x23, .int .i64 x24, .int .i64 x25, .ro 32 x26 true]), (767, .var 32 [.str x27, .str x28, .str x29, .ro 129 x30 true, .bool x31, .str x32, .bool x33, .str x34, .bool x35, .str x36, .bool x37, .str x38, .ro 129 x39 true, .ro 9 x40 true, .bool x41, .str x42, .int .i64 x43, .int .i64 x44, .int .i64 x45, .int .i64 x46, .int .i64 x47, .ro 32 x48 true])], top⟩ : St)
noncomputable abbrev q10 {R : Type} (J : JT R) : J10 R := fun x0 x1 x2 x3 x4 x5 x6 x7 x8 x9 x10 x11 x12 x13 x14 x15 x16 x17 x18 x19 x20 x21 x22 x23 x24 x25 x26 x27 x28 x29 x30 x31 x32 x33 x34 x35 x36 x37 x38 x39 x40 x41 x42 x43 x44 x45 x46 x47 x48 => J (placeOf Tryz.f24 10) (s10 x0 x1 x2 x3 x4 x5 x6 x7 x8 x9 x10 x11 x12 x13 x14 x15 x16 x17 x18 x19 x20 x21 x22 x23 x24 x25 x26 x27 x28 x29 x30 x31 x32 x33 x34 x35 x36 x37 x38 x39 x40 x41 x42 x43 x44 x45 x46 x47 x48)
theorem k10 (J : JT R) (κ : KT R) (x0 x1 x2 x3 x4 x5 x6 x7 x8 x9 x10 x11 x12 x13 x14 x15 x16 x17 x18 x19 x20 x21 x22 x23 x24 x25 x26 x27 x28 x29 x30 x31 x32 x33 x34 x35 x36 x37 x38 x39 x40 x41 x42 x43 x44 x45 x46 x47 x48 : _) : S R c1 c2 c3 c4 c5 κ J 10 (s10 x0 x1 x2 x3 x4 x5 x6 x7 x8 x9 x10 x11 x12 x13 x14 x15 x16 x17 x18 x19 x20 x21 x22 x23 x24 x25 x26 x27 x28 x29 x30 x31 x32 x33 x34 x35 x36 x37 x38 x39 x40 x41 x42 x43 x44 x45 x46 x47 x48) = t10 c4 c5 (K0 κ) x0 x1 x2 x3 x4 x5 x6 x7 x8 x9 x10 x11 x12 x13 x14 x15 x16 x17 x18 x19 x20 x21 x22 x23 x24 x25 x26 x27 x28 x29 x30 x31 x32 x33 x34 x35 x36 x37 x38 x39 x40 x41 x42 x43 x44 x45 x46 x47 x48 := by kernel_rfl
theorem k (κ : KT R) (k : Nat) (a0 a1 a2 a3 a4 a5 a6 a7 a8 a9 a10 a11 a12 a13 a14 a15 a16 a17 a18 a19 a20 a21 a22 a23 a24 a25 : _) : runF (C R c1 c2 c3 c4 c5) Tryz.f24 10000 k [.str a0, .agg [.str a1, .str a2, .str a3, .ro 129 a4 true, .bool a5, .str a6, .bool a7, .str a8, .bool a9, .str a10, .bool a11, .str a12, .ro 129 a13 true, .ro 9 a14 true, .bool a15, .str a16, .int .i64 a17, .int .i64 a18, .int .i64 a19, .int .i64 a20, .int .i64 a21, .ro 32 a22 true], .agg [.str a23, .int .i64 a24, .ro 9 a25 false]] κ = lm_Section1.e c1 c2 c3 c4 c5 a0 a1 a2 a3 a4 a5 a6 a7 a8 a9 a10 a11 a12 a13 a14 a15 a16 a17 a18 a19 a20 a21 a22 a23 a24 a25 (q10 (G R c1 c2 c3 c4 c5 κ k)) (K0 κ) := by kernel_rfl
theorem g10 (κ : KT R) : ∀ (f : Nat), q10 (G R c1 c2 c3 c4 c5 κ f) = L10 c1 c2 c3 c4 c5 (K0 κ) f
 | 0 => rfl
 | f + 1 => by
  funext x0 x1 x2 x3 x4 x5 x6 x7 x8 x9 x10 x11 x12 x13 x14 x15 x16 x17 x18 x19 x20 x21 x22 x23 x24 x25 x26 x27 x28 x29 x30 x31 x32 x33 x34 x35 x36 x37 x38 x39 x40 x41 x42 x43 x44 x45 x46 x47 x48
  show S R c1 c2 c3 c4 c5 κ (G R c1 c2 c3 c4 c5 κ f) 10 _ = _
  rw [k10]
  rfl
end
theorem Γ_does {R : Type} (tab : Tab) (ht : TabOk tab) (g : Nat) : Does (R := R) Tryz.prog (tabTy tyL) tab g ((C R lm_find lm_isMessage3 lm_isMessage1 lm_take le_Pick1).call g) := by
 refine does_of fun xs κ => ?_
 show DoesAt _ _ _ g xs κ (Γ R lm_find lm_isMessage3 lm_isMessage1 lm_take le_Pick1 g xs κ)
 unfold Γ
 split
 ·split
  ·exact lm_find.does tab ht _ _ _ _ _ _ _ _ _ _ _ _ _ _ _ _ _ _ _ _ _ _ _ κ
  ·exact DoesAt.none
 ·split
  ·exact lm_isMessage3.does tab ht _ _ _ _ _ _ _ _ _ _ _ _ _ _ _ _ _ _ κ
  ·exact lm_isMessage1.does tab ht _ _ _ _ _ _ _ _ _ _ _ _ _ _ _ _ _ _ _ _ _ _ κ
  ·exact DoesAt.none
 ·split
  ·exact lm_take.does tab ht _ _ _ κ
  ·exact DoesAt.none
 ·split
  ·exact le_Pick1.does tab ht _ _ _ κ
  ·exact DoesAt.none
 ·exact DoesAt.none
theorem does {R : Type} (tab : Tab) (ht : TabOk tab) (a0 a1 a2 a3 a4 a5 a6 a7 a8 a9 a10 a11 a12 a13 a14 a15 a16 a17 a18 a19 a20 a21 a22 a23 a24 a25 : _) (κ : KT R) : DoesAt Tryz.prog (tabTy tyL) tab 24 [.str a0, .agg [.str a1, .str a2, .str a3, .ro 129 a4 true, .bool a5, .str a6, .bool a7, .str a8, .bool a9, .str a10, .bool a11, .str a12, .ro 129 a13 true, .ro 9 a14 true, .bool a15, .str a16, .int .i64 a17, .int .i64 a18, .int .i64 a19, .int .i64 a20, .int .i64 a21, .ro 32 a22 true], .agg [.str a23, .int .i64 a24, .ro 9 a25 false]] κ (lm_Section1 a0 a1 a2 a3 a4 a5 a6 a7 a8 a9 a10 a11 a12 a13 a14 a15 a16 a17 a18 a19 a20 a21 a22 a23 a24 a25 (K0 κ)) := doesAt_run (C := C R lm_find lm_isMessage3 lm_isMessage1 lm_take le_Pick1) (fn := Tryz.f24) tyOk (Γ_does tab ht) (by kernel_rfl) (by kernel_rfl) (by rw [k]; rw [g10 R lm_find lm_isMessage3 lm_isMessage1 lm_take le_Pick1 κ fuelK]; rfl)
end lm_Section1
end Go.Proofs.Ab
