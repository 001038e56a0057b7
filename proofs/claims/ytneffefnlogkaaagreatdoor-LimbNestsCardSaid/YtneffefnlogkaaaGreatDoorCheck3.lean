/- Each plain function is what a call of its Go function does, checked by the kernel (no condition but what its checks ask). -/
import Derived.Test.YtneffefnlogkaaaGreatDoorSeat
import Derived.Test.YtneffefnlogkaaaGreatDoorText
import Derived.Test.YtneffefnlogkaaaGreatDoorCheck2
set_option linter.unusedVariables false
set_option linter.unusedSimpArgs false
set_option maxRecDepth 4000
namespace Go.Proofs.Ab
open Go Go.Proofs
set_option maxRecDepth 100000
namespace w6_LimbNests
abbrev K0 {R : Type} (κ : KT R) : Bool -> Option R := fun r0 => κ [.bool r0]
section
variable (R : Type) (c1 : w6_known.F R) (c2 : lm_Parse.F R) (c3 : lm_Section.F R) (c4 : w6_count.F R) (c5 : w6_deep.F R) (c6 : w6_spot.F R) (c7 : w6_places.F R) (c8 : lm_Section1.F R)
def Γ (g : Nat) (xs : List SV) (κ : KT R) : Option R :=
 match g with
 | 12 => (match xs with
  | [] => c1 (w6_known.K0 κ)
  | _ => none)
 | 14 => (match xs with
  | [.str a0] => c2 a0 (lm_Parse.K0 κ)
  | _ => none)
 | 21 => (match xs with
  | [.agg [.str a0, .str a1, .str a2, .ro 129 a3 true, .bool a4, .str a5, .bool a6, .str a7, .bool a8, .str a9, .bool a10, .str a11, .ro 129 a12 true, .ro 9 a13 true, .bool a14, .str a15, .int .i64 a16, .int .i64 a17, .int .i64 a18, .int .i64 a19, .int .i64 a20, .ro 32 a21 true]] => c7 a0 a1 a2 a3 a4 a5 a6 a7 a8 a9 a10 a11 a12 a13 a14 a15 a16 a17 a18 a19 a20 a21 (w6_places.K0 κ)
  | _ => none)
 | 24 => (match xs with
  | [.str a0, .agg [.str a1, .str a2, .str a3, .ro 129 a4 true, .bool a5, .str a6, .bool a7, .str a8, .bool a9, .str a10, .bool a11, .str a12, .ro 129 a13 true, .ro 9 a14 true, .bool a15, .str a16, .int .i64 a17, .int .i64 a18, .int .i64 a19, .int .i64 a20, .int .i64 a21, .ro 32 a22 true], .agg [.str a23, .int .i64 a24, .nil]] => c3 a0 a1 a2 a3 a4 a5 a6 a7 a8 a9 a10 a11 a12 a13 a14 a15 a16 a17 a18 a19 a20 a21 a22 a23 a24 (lm_Section.K0 κ)
  | [.str a0, .agg [.str a1, .str a2, .str a3, .ro 129 a4 true, .bool a5, .str a6, .bool a7, .str a8, .bool a9, .str a10, .bool a11, .str a12, .ro 129 a13 true, .ro 9 a14 true, .bool a15, .str a16, .int .i64 a17, .int .i64 a18, .int .i64 a19, .int .i64 a20, .int .i64 a21, .ro 32 a22 true], .agg [.str a23, .int .i64 a24, .ro 9 a25 false]] => c8 a0 a1 a2 a3 a4 a5 a6 a7 a8 a9 a10 a11 a12 a13 a14 a15 a16 a17 a18 a19 a20 a21 a22 a23 a24 a25 (lm_Section1.K0 κ)
  | _ => none)
 | 27 => (match xs with
  | [.agg [.str a0, .str a1, .str a2, .ro 129 a3 true, .bool a4, .str a5, .bool a6, .str a7, .bool a8, .str a9, .bool a10, .str a11, .ro 129 a12 true, .ro 9 a13 true, .bool a14, .str a15, .int .i64 a16, .int .i64 a17, .int .i64 a18, .int .i64 a19, .int .i64 a20, .ro 32 a21 true]] => c4 a0 a1 a2 a3 a4 a5 a6 a7 a8 a9 a10 a11 a12 a13 a14 a15 a16 a17 a18 a19 a20 a21 (w6_count.K0 κ)
  | _ => none)
 | 28 => (match xs with
  | [.agg [.str a0, .str a1, .str a2, .ro 129 a3 true, .bool a4, .str a5, .bool a6, .str a7, .bool a8, .str a9, .bool a10, .str a11, .ro 129 a12 true, .ro 9 a13 true, .bool a14, .str a15, .int .i64 a16, .int .i64 a17, .int .i64 a18, .int .i64 a19, .int .i64 a20, .ro 32 a21 true]] => c5 a0 a1 a2 a3 a4 a5 a6 a7 a8 a9 a10 a11 a12 a13 a14 a15 a16 a17 a18 a19 a20 a21 (w6_deep.K0 κ)
  | _ => none)
 | 29 => (match xs with
  | [.int .i64 a0, .int .i64 a1] => c6 a0 a1 (w6_spot.K0 κ)
  | _ => none)
 | _ => none
def h (n : Nat) : Option (List (Nat × List (Nat × Nat))) :=
 match n with
 | 12 => some [(0, [(0, 0)]), (2, [(0, 0)]), (3, [(0, 0)]), (10, [(0, 0)]), (11, [(0, 0)]), (12, [(0, 0)])]
 | 16 => some [(0, [(0, 0)]), (2, [(0, 0)]), (3, [(0, 0)]), (10, [(0, 0)]), (11, [(0, 0)])]
 | 26 => some [(0, [(0, 0)]), (3, [(0, 0)]), (10, [(0, 0)]), (11, [(0, 0)]), (13, [(0, 0)]), (14, [(0, 0)]), (17, [(0, 0)]), (18, [(0, 0)])]
 | _ => none
def C : Cfg R := ⟨tabTy tyL, Γ R c1 c2 c3 c4 c5 c6 c7 c8, fun _ => false, h, 0, fun _ => false⟩
noncomputable def S := S0 (C R c1 c2 c3 c4 c5 c6 c7 c8) Tryz.f8 0
noncomputable def G := G0 (C R c1 c2 c3 c4 c5 c6 c7 c8) Tryz.f8 0
def s12 := fun x0 x1 x2 x3 x4 x5 => (⟨mkS 158 [(0, .str x0), (2, .str x1), (3, .int .i64 x2), (10, .str x3), (11, .str x4), (12, .int .i64 x5)], [], top⟩ : St)
def s16 := fun x0 x1 x2 x3 x4 => (⟨mkS 158 [(0, .str x0), (2, .str x1), (3, .int .i64 x2), (10, .str x3), (11, .str x4)], [], top⟩ : St)
def s26 := fun x0 x1 x2 x3 x4 x5 x6 x7 x8 x9 x10 x11 x12 x13 x14 x15 x16 x17 x18 x19 x20 x21 x22 x23 x24 x25 x26 x27 x28 x29 x30 x31 x32 x33 x34 x35 x36 x37 x38 x39 x40 x41 x42 x43 x44 x45 x46 x47 x48 x49 => (⟨mkS 158 [(0, .str x0), (3, .int .i64 x1), (10, .str x2), (11, .str x3), (13, .ptr 959 0), (14, .ptr 1023 0), (17, .own 1152), (18, .int .i64 x4)], [(959, .var 32 [.str x5, .str x6, .str x7, .ro 129 x8 true, .bool x9, .str x10, .bool x11, .str x12, .bool x13, .str x14, .bool x15, .str x16, .ro 129 x17 true, .ro 9 x18 true, .bool x19, .str x20, .int .i64 x21, .int .i64 x22, .int .i64 x23, .int .i64 x24, .int .i64 x25, .ro 32 x26 true]), (1023, .var 32 [.str x27, .str x28, .str x29, .ro 129 x30 true, .bool x31, .str x32, .bool x33, .str x34, .bool x35, .str x36, .bool x37, .str x38, .ro 129 x39 true, .ro 9 x40 true, .bool x41, .str x42, .int .i64 x43, .int .i64 x44, .int .i64 x45, .int .i64 x46, .int .i64 x47, .ro 32 x48 true]), (1152, .row 9 x49 true)], top⟩ : St)
noncomputable abbrev q12 {R : Type} (J : JT R) : J12 R := fun x0 x1 x2 x3 x4 x5 => J (placeOf Tryz.f8 12) (s12 x0 x1 x2 x3 x4 x5)
noncomputable abbrev q16 {R : Type} (J : JT R) : J16 R := fun x0 x1 x2 x3 x4 => J (placeOf Tryz.f8 16) (s16 x0 x1 x2 x3 x4)
noncomputable abbrev q26 {R : Type} (J : JT R) : J26 R := fun x0 x1 x2 x3 x4 x5 x6 x7 x8 x9 x10 x11 x12 x13 x14 x15 x16 x17 x18 x19 x20 x21 x22 x23 x24 x25 x26 x27 x28 x29 x30 x31 x32 x33 x34 x35 x36 x37 x38 x39 x40 x41 x42 x43 x44 x45 x46 x47 x48 x49 => J (placeOf Tryz.f8 26) (s26 x0 x1 x2 x3 x4 x5 x6 x7 x8 x9 x10 x11 x12 x13 x14 x15 x16 x17 x18 x19 x20 x21 x22 x23 x24 x25 x26 x27 x28 x29 x30 x31 x32 x33 x34 x35 x36 x37 x38 x39 x40 x41 x42 x43 x44 x45 x46 x47 x48 x49)
theorem k12 (J : JT R) (κ : KT R) (x0 x1 x2 x3 x4 x5 : _) : S R c1 c2 c3 c4 c5 c6 c7 c8 κ J 12 (s12 x0 x1 x2 x3 x4 x5) = t12 (q12 J) (q16 J) (K0 κ) x0 x1 x2 x3 x4 x5 := by kernel_rfl
theorem k16 (J : JT R) (κ : KT R) (x0 x1 x2 x3 x4 : _) : S R c1 c2 c3 c4 c5 c6 c7 c8 κ J 16 (s16 x0 x1 x2 x3 x4) = t16 c2 c3 c4 c5 c6 c7 (q26 J) (K0 κ) x0 x1 x2 x3 x4 := by kernel_rfl
theorem k26 (J : JT R) (κ : KT R) (x0 x1 x2 x3 x4 x5 x6 x7 x8 x9 x10 x11 x12 x13 x14 x15 x16 x17 x18 x19 x20 x21 x22 x23 x24 x25 x26 x27 x28 x29 x30 x31 x32 x33 x34 x35 x36 x37 x38 x39 x40 x41 x42 x43 x44 x45 x46 x47 x48 x49 : _) : S R c1 c2 c3 c4 c5 c6 c7 c8 κ J 26 (s26 x0 x1 x2 x3 x4 x5 x6 x7 x8 x9 x10 x11 x12 x13 x14 x15 x16 x17 x18 x19 x20 x21 x22 x23 x24 x25 x26 x27 x28 x29 x30 x31 x32 x33 x34 x35 x36 x37 x38 x39 x40 x41 x42 x43 x44 x45 x46 x47 x48 x49) = t26 c3 c8 (q26 J) (K0 κ) x0 x1 x2 x3 x4 x5 x6 x7 x8 x9 x10 x11 x12 x13 x14 x15 x16 x17 x18 x19 x20 x21 x22 x23 x24 x25 x26 x27 x28 x29 x30 x31 x32 x33 x34 x35 x36 x37 x38 x39 x40 x41 x42 x43 x44 x45 x46 x47 x48 x49 := by kernel_rfl
theorem k (κ : KT R) (k : Nat) (a0 a1 a2 a3 : _) : runF (C R c1 c2 c3 c4 c5 c6 c7 c8) Tryz.f8 10000 k [.str a0, .bool a1, .str a2, .int .i64 a3] κ = w6_LimbNests.e c1 c2 c3 c4 c5 c6 c7 c8 a0 a1 a2 a3 (q12 (G R c1 c2 c3 c4 c5 c6 c7 c8 κ k)) (q16 (G R c1 c2 c3 c4 c5 c6 c7 c8 κ k)) (q26 (G R c1 c2 c3 c4 c5 c6 c7 c8 κ k)) (K0 κ) := by kernel_rfl
theorem g26 (κ : KT R) : ∀ (f : Nat), q26 (G R c1 c2 c3 c4 c5 c6 c7 c8 κ f) = L26 c1 c2 c3 c4 c5 c6 c7 c8 (K0 κ) f
 | 0 => rfl
 | f + 1 => by
  funext x0 x1 x2 x3 x4 x5 x6 x7 x8 x9 x10 x11 x12 x13 x14 x15 x16 x17 x18 x19 x20 x21 x22 x23 x24 x25 x26 x27 x28 x29 x30 x31 x32 x33 x34 x35 x36 x37 x38 x39 x40 x41 x42 x43 x44 x45 x46 x47 x48 x49
  show S R c1 c2 c3 c4 c5 c6 c7 c8 κ (G R c1 c2 c3 c4 c5 c6 c7 c8 κ f) 26 _ = _
  rw [k26, g26 κ f]
  rfl
theorem g16 (κ : KT R) : ∀ (f : Nat), q16 (G R c1 c2 c3 c4 c5 c6 c7 c8 κ f) = L16 c1 c2 c3 c4 c5 c6 c7 c8 (K0 κ) f
 | 0 => rfl
 | f + 1 => by
  funext x0 x1 x2 x3 x4
  show S R c1 c2 c3 c4 c5 c6 c7 c8 κ (G R c1 c2 c3 c4 c5 c6 c7 c8 κ f) 16 _ = _
  rw [k16, g26 R c1 c2 c3 c4 c5 c6 c7 c8 κ f]
  rfl
theorem g12 (κ : KT R) : ∀ (f : Nat), q12 (G R c1 c2 c3 c4 c5 c6 c7 c8 κ f) = L12 c1 c2 c3 c4 c5 c6 c7 c8 (K0 κ) f
 | 0 => rfl
 | f + 1 => by
  funext x0 x1 x2 x3 x4 x5
  show S R c1 c2 c3 c4 c5 c6 c7 c8 κ (G R c1 c2 c3 c4 c5 c6 c7 c8 κ f) 12 _ = _
  rw [k12, g12 κ f, g16 R c1 c2 c3 c4 c5 c6 c7 c8 κ f]
  rfl
end
theorem Γ_does {R : Type} (tab : Tab) (ht : TabOk tab) (g : Nat) : Does (R := R) Tryz.prog (tabTy tyL) tab g ((C R w6_known lm_Parse lm_Section w6_count w6_deep w6_spot w6_places lm_Section1).call g) := by
 refine does_of fun xs κ => ?_
 show DoesAt _ _ _ g xs κ (Γ R w6_known lm_Parse lm_Section w6_count w6_deep w6_spot w6_places lm_Section1 g xs κ)
 unfold Γ
 split
 ·split
  ·exact w6_known.does tab ht κ
  ·exact DoesAt.none
 ·split
  ·exact lm_Parse.does tab ht _ κ
  ·exact DoesAt.none
 ·split
  ·exact w6_places.does tab ht _ _ _ _ _ _ _ _ _ _ _ _ _ _ _ _ _ _ _ _ _ _ κ
  ·exact DoesAt.none
 ·split
  ·exact lm_Section.does tab ht _ _ _ _ _ _ _ _ _ _ _ _ _ _ _ _ _ _ _ _ _ _ _ _ _ κ
  ·exact lm_Section1.does tab ht _ _ _ _ _ _ _ _ _ _ _ _ _ _ _ _ _ _ _ _ _ _ _ _ _ _ κ
  ·exact DoesAt.none
 ·split
  ·exact w6_count.does tab ht _ _ _ _ _ _ _ _ _ _ _ _ _ _ _ _ _ _ _ _ _ _ κ
  ·exact DoesAt.none
 ·split
  ·exact w6_deep.does tab ht _ _ _ _ _ _ _ _ _ _ _ _ _ _ _ _ _ _ _ _ _ _ κ
  ·exact DoesAt.none
 ·split
  ·exact w6_spot.does tab ht _ _ κ
  ·exact DoesAt.none
 ·exact DoesAt.none
theorem does {R : Type} (tab : Tab) (ht : TabOk tab) (a0 a1 a2 a3 : _) (κ : KT R) : DoesAt Tryz.prog (tabTy tyL) tab 8 [.str a0, .bool a1, .str a2, .int .i64 a3] κ (w6_LimbNests a0 a1 a2 a3 (K0 κ)) := doesAt_run (C := C R w6_known lm_Parse lm_Section w6_count w6_deep w6_spot w6_places lm_Section1) (fn := Tryz.f8) tyOk (Γ_does tab ht) (by kernel_rfl) (by kernel_rfl) (by rw [k]; rw [g12 R w6_known lm_Parse lm_Section w6_count w6_deep w6_spot w6_places lm_Section1 κ fuelK, g16 R w6_known lm_Parse lm_Section w6_count w6_deep w6_spot w6_places lm_Section1 κ fuelK, g26 R w6_known lm_Parse lm_Section w6_count w6_deep w6_spot w6_places lm_Section1 κ fuelK]; rfl)
end w6_LimbNests
end Go.Proofs.Ab
