/- Each plain function is what a call of its Go function does, checked by the kernel (no condition but what its checks ask). -/
import Derived.Test.YtnipklplcipaiaaGreatDoorSeat
import Derived.Test.YtnipklplcipaiaaGreatDoorText
/- Each typed text is what its function does: checked by the kernel. -/
namespace Go.Proofs.Ab
set_option linter.unusedVariables false
set_option maxRecDepth 4000
open Go Go.Proofs
set_option maxRecDepth 100000
def postbagref5_mark_0.Γ {R : Type} (g : Nat) (xs : List SV) (κ : List SV → Option R) : Option R :=
  match g with
  | _ => none
def postbagref5_mark_0.h (n : Nat) : Option (List (Nat × List (Nat × Nat))) :=
  match n with
  | 1 => some [(0, [(0, 0)]), (1, [(0, 0)])]
  | _ => none
def postbagref5_mark_0.C (R : Type) : Cfg R := ⟨tabTy tyL, postbagref5_mark_0.Γ, fun _ => false, postbagref5_mark_0.h⟩
def postbagref5_mark_0.s1 (x0 : ByteArray) (x1 : Int) : St := ⟨mkS 16 [(0, .str x0), (1, .int .i64 x1)], [], top⟩
theorem postbagref5_mark_0.c1 (R : Type) (J : List Item → St → Option R) (κ : List SV → Option R) (x0 : ByteArray) (x1 : Int) :
    start (postbagref5_mark_0.C R) J (retK (postbagref5_mark_0.C R) Tryz.f102.results.toList (List.range 0) κ) 10000 (placeOf Tryz.f102 1) (postbagref5_mark_0.s1 x0 x1) = postbagref5_mark_0.t1 x0 x1 (fun y0 y1 => J (placeOf Tryz.f102 1) (postbagref5_mark_0.s1 y0 y1)) (fun r0 => κ [.int .i64 r0]) := by kernel_rfl
theorem postbagref5_mark_0.c (R : Type) (κ : List SV → Option R) (k : Nat) (a0 : ByteArray) (a1 : Int) :
    runF (postbagref5_mark_0.C R) Tryz.f102 10000 k [.str a0, .int .i64 a1] κ = postbagref5_mark_0.e a0 a1 (fun y0 y1 => goto (postbagref5_mark_0.C R) (retK (postbagref5_mark_0.C R) Tryz.f102.results.toList (List.range 0) κ) 10000 k (placeOf Tryz.f102 1) (postbagref5_mark_0.s1 y0 y1)) (fun r0 => κ [.int .i64 r0]) := by kernel_rfl
theorem postbagref5_mark_0.g1 (R : Type) (κ : List SV → Option R) : ∀ (f : Nat) (x0 : ByteArray) (x1 : Int), goto (postbagref5_mark_0.C R) (retK (postbagref5_mark_0.C R) Tryz.f102.results.toList (List.range 0) κ) 10000 f (placeOf Tryz.f102 1) (postbagref5_mark_0.s1 x0 x1) = postbagref5_mark_0.L1 (fun r0 => κ [.int .i64 r0]) f x0 x1
  | 0, _, _ => rfl
  | f + 1, x0, x1 => by
    show start (postbagref5_mark_0.C R) (goto (postbagref5_mark_0.C R) (retK (postbagref5_mark_0.C R) Tryz.f102.results.toList (List.range 0) κ) 10000 f) (retK (postbagref5_mark_0.C R) Tryz.f102.results.toList (List.range 0) κ) 10000 (placeOf Tryz.f102 1) (postbagref5_mark_0.s1 x0 x1) = _
    rw [postbagref5_mark_0.c1]
    simp only [postbagref5_mark_0.g1 R κ f]
    rfl
theorem postbagref5_mark_0.run (R : Type) (κ : List SV → Option R) (a0 : ByteArray) (a1 : Int) :
    runF (postbagref5_mark_0.C R) Tryz.f102 10000 fuelK [.str a0, .int .i64 a1] κ = postbagref5_mark_0 a0 a1 (fun r0 => κ [.int .i64 r0]) := by
  rw [postbagref5_mark_0.c]
  simp only [postbagref5_mark_0.g1 R κ fuelK]
  rfl
theorem postbagref5_mark_0.Γ_does {R : Type} (tab : Tab) (ht : TabOk tab) (g : Nat) : Does (R := R) Tryz.prog (tabTy tyL) tab g ((postbagref5_mark_0.C R).call g) := by
  refine does_of fun xs κ => ?_
  show DoesAt _ _ _ g xs κ (postbagref5_mark_0.Γ g xs κ)
  unfold postbagref5_mark_0.Γ
  split
  · exact DoesAt.none
theorem postbagref5_mark_0.does {R : Type} (tab : Tab) (ht : TabOk tab) (a0 : ByteArray) (a1 : Int) (κ : List SV → Option R) : DoesAt Tryz.prog (tabTy tyL) tab 102 [.str a0, .int .i64 a1] κ (postbagref5_mark_0 a0 a1 (fun r0 => κ [.int .i64 r0])) := by
  intro r h w vs Rt Ra bs hpre
  exact runF_sound tyOk (postbagref5_mark_0.Γ_does tab ht) (show Tryz.prog.funcs[102]? = some Tryz.f102 by kernel_rfl) (by kernel_rfl) ((postbagref5_mark_0.run R κ a0 a1).trans h) hpre
def postbagref1_Lower_0.Γ {R : Type} (g : Nat) (xs : List SV) (κ : List SV → Option R) : Option R :=
  match g with
  | _ => none
def postbagref1_Lower_0.h (n : Nat) : Option (List (Nat × List (Nat × Nat))) :=
  match n with
  | 3 => some [(0, [(0, 0)]), (3, [(0, 7)]), (4, [(0, 0)])]
  | _ => none
def postbagref1_Lower_0.C (R : Type) : Cfg R := ⟨tabTy tyL, postbagref1_Lower_0.Γ, fun _ => false, postbagref1_Lower_0.h⟩
def postbagref1_Lower_0.s3 (x0 : ByteArray) (x1 : Int) (x2 : List AV) : St := ⟨mkS 29 [(0, .str x0), (3, .own 256), (4, .int .i64 x1)], [(256, .row 5 x2 true)], top⟩
theorem postbagref1_Lower_0.c3 (R : Type) (J : List Item → St → Option R) (κ : List SV → Option R) (x0 : ByteArray) (x1 : Int) (x2 : List AV) :
    start (postbagref1_Lower_0.C R) J (retK (postbagref1_Lower_0.C R) Tryz.f101.results.toList (List.range 0) κ) 10000 (placeOf Tryz.f101 3) (postbagref1_Lower_0.s3 x0 x1 x2) = postbagref1_Lower_0.t3 x0 x1 x2 (fun y0 y1 y2 => J (placeOf Tryz.f101 3) (postbagref1_Lower_0.s3 y0 y1 y2)) (fun r0 => κ [.str r0]) := by kernel_rfl
theorem postbagref1_Lower_0.c (R : Type) (κ : List SV → Option R) (k : Nat) (a0 : ByteArray) :
    runF (postbagref1_Lower_0.C R) Tryz.f101 10000 k [.str a0] κ = postbagref1_Lower_0.e a0 (fun y0 y1 y2 => goto (postbagref1_Lower_0.C R) (retK (postbagref1_Lower_0.C R) Tryz.f101.results.toList (List.range 0) κ) 10000 k (placeOf Tryz.f101 3) (postbagref1_Lower_0.s3 y0 y1 y2)) (fun r0 => κ [.str r0]) := by kernel_rfl
theorem postbagref1_Lower_0.g3 (R : Type) (κ : List SV → Option R) : ∀ (f : Nat) (x0 : ByteArray) (x1 : Int) (x2 : List AV), goto (postbagref1_Lower_0.C R) (retK (postbagref1_Lower_0.C R) Tryz.f101.results.toList (List.range 0) κ) 10000 f (placeOf Tryz.f101 3) (postbagref1_Lower_0.s3 x0 x1 x2) = postbagref1_Lower_0.L3 (fun r0 => κ [.str r0]) f x0 x1 x2
  | 0, _, _, _ => rfl
  | f + 1, x0, x1, x2 => by
    show start (postbagref1_Lower_0.C R) (goto (postbagref1_Lower_0.C R) (retK (postbagref1_Lower_0.C R) Tryz.f101.results.toList (List.range 0) κ) 10000 f) (retK (postbagref1_Lower_0.C R) Tryz.f101.results.toList (List.range 0) κ) 10000 (placeOf Tryz.f101 3) (postbagref1_Lower_0.s3 x0 x1 x2) = _
    rw [postbagref1_Lower_0.c3]
    simp only [postbagref1_Lower_0.g3 R κ f]
    rfl
theorem postbagref1_Lower_0.run (R : Type) (κ : List SV → Option R) (a0 : ByteArray) :
    runF (postbagref1_Lower_0.C R) Tryz.f101 10000 fuelK [.str a0] κ = postbagref1_Lower_0 a0 (fun r0 => κ [.str r0]) := by
  rw [postbagref1_Lower_0.c]
  simp only [postbagref1_Lower_0.g3 R κ fuelK]
  rfl
theorem postbagref1_Lower_0.Γ_does {R : Type} (tab : Tab) (ht : TabOk tab) (g : Nat) : Does (R := R) Tryz.prog (tabTy tyL) tab g ((postbagref1_Lower_0.C R).call g) := by
  refine does_of fun xs κ => ?_
  show DoesAt _ _ _ g xs κ (postbagref1_Lower_0.Γ g xs κ)
  unfold postbagref1_Lower_0.Γ
  split
  · exact DoesAt.none
theorem postbagref1_Lower_0.does {R : Type} (tab : Tab) (ht : TabOk tab) (a0 : ByteArray) (κ : List SV → Option R) : DoesAt Tryz.prog (tabTy tyL) tab 101 [.str a0] κ (postbagref1_Lower_0 a0 (fun r0 => κ [.str r0])) := by
  intro r h w vs Rt Ra bs hpre
  exact runF_sound tyOk (postbagref1_Lower_0.Γ_does tab ht) (show Tryz.prog.funcs[101]? = some Tryz.f101 by kernel_rfl) (by kernel_rfl) ((postbagref1_Lower_0.run R κ a0).trans h) hpre
def postbagref1_worth_0.Γ {R : Type} (g : Nat) (xs : List SV) (κ : List SV → Option R) : Option R :=
  match g with
  | _ => none
def postbagref1_worth_0.h (n : Nat) : Option (List (Nat × List (Nat × Nat))) :=
  match n with
  | 2 => some [(0, [(0, 0)]), (3, [(0, 0)])]
  | _ => none
def postbagref1_worth_0.C (R : Type) : Cfg R := ⟨tabTy tyL, postbagref1_worth_0.Γ, fun _ => false, postbagref1_worth_0.h⟩
def postbagref1_worth_0.s2 (x0 : Int) (x1 : Int) : St := ⟨mkS 13 [(0, .int .u8 x0), (3, .int .i64 x1)], [], top⟩
theorem postbagref1_worth_0.c2 (R : Type) (J : List Item → St → Option R) (κ : List SV → Option R) (x0 : Int) (x1 : Int) :
    start (postbagref1_worth_0.C R) J (retK (postbagref1_worth_0.C R) Tryz.f137.results.toList (List.range 0) κ) 10000 (placeOf Tryz.f137 2) (postbagref1_worth_0.s2 x0 x1) = postbagref1_worth_0.t2 x0 x1 (fun y0 y1 => J (placeOf Tryz.f137 2) (postbagref1_worth_0.s2 y0 y1)) (fun r0 => κ [.int .i64 r0]) := by kernel_rfl
theorem postbagref1_worth_0.c (R : Type) (κ : List SV → Option R) (k : Nat) (a0 : Int) :
    runF (postbagref1_worth_0.C R) Tryz.f137 10000 k [.int .u8 a0] κ = postbagref1_worth_0.e a0 (fun y0 y1 => goto (postbagref1_worth_0.C R) (retK (postbagref1_worth_0.C R) Tryz.f137.results.toList (List.range 0) κ) 10000 k (placeOf Tryz.f137 2) (postbagref1_worth_0.s2 y0 y1)) (fun r0 => κ [.int .i64 r0]) := by kernel_rfl
theorem postbagref1_worth_0.g2 (R : Type) (κ : List SV → Option R) : ∀ (f : Nat) (x0 : Int) (x1 : Int), goto (postbagref1_worth_0.C R) (retK (postbagref1_worth_0.C R) Tryz.f137.results.toList (List.range 0) κ) 10000 f (placeOf Tryz.f137 2) (postbagref1_worth_0.s2 x0 x1) = postbagref1_worth_0.L2 (fun r0 => κ [.int .i64 r0]) f x0 x1
  | 0, _, _ => rfl
  | f + 1, x0, x1 => by
    show start (postbagref1_worth_0.C R) (goto (postbagref1_worth_0.C R) (retK (postbagref1_worth_0.C R) Tryz.f137.results.toList (List.range 0) κ) 10000 f) (retK (postbagref1_worth_0.C R) Tryz.f137.results.toList (List.range 0) κ) 10000 (placeOf Tryz.f137 2) (postbagref1_worth_0.s2 x0 x1) = _
    rw [postbagref1_worth_0.c2]
    simp only [postbagref1_worth_0.g2 R κ f]
    rfl
theorem postbagref1_worth_0.run (R : Type) (κ : List SV → Option R) (a0 : Int) :
    runF (postbagref1_worth_0.C R) Tryz.f137 10000 fuelK [.int .u8 a0] κ = postbagref1_worth_0 a0 (fun r0 => κ [.int .i64 r0]) := by
  rw [postbagref1_worth_0.c]
  simp only [postbagref1_worth_0.g2 R κ fuelK]
  rfl
theorem postbagref1_worth_0.Γ_does {R : Type} (tab : Tab) (ht : TabOk tab) (g : Nat) : Does (R := R) Tryz.prog (tabTy tyL) tab g ((postbagref1_worth_0.C R).call g) := by
  refine does_of fun xs κ => ?_
  show DoesAt _ _ _ g xs κ (postbagref1_worth_0.Γ g xs κ)
  unfold postbagref1_worth_0.Γ
  split
  · exact DoesAt.none
theorem postbagref1_worth_0.does {R : Type} (tab : Tab) (ht : TabOk tab) (a0 : Int) (κ : List SV → Option R) : DoesAt Tryz.prog (tabTy tyL) tab 137 [.int .u8 a0] κ (postbagref1_worth_0 a0 (fun r0 => κ [.int .i64 r0])) := by
  intro r h w vs Rt Ra bs hpre
  exact runF_sound tyOk (postbagref1_worth_0.Γ_does tab ht) (show Tryz.prog.funcs[137]? = some Tryz.f137 by kernel_rfl) (by kernel_rfl) ((postbagref1_worth_0.run R κ a0).trans h) hpre
def postbagref1_value_oii.Γ {R : Type} (g : Nat) (xs : List SV) (κ : List SV → Option R) : Option R :=
  match g with
  | _ => none
def postbagref1_value_oii.h (n : Nat) : Option (List (Nat × List (Nat × Nat))) :=
  match n with
  | 3 => some [(0, [(0, 0)]), (1, [(0, 0)]), (2, [(0, 0)]), (7, [(0, 0)]), (8, [(0, 0)])]
  | _ => none
def postbagref1_value_oii.C (R : Type) : Cfg R := ⟨tabTy tyL, postbagref1_value_oii.Γ, fun _ => false, postbagref1_value_oii.h⟩
def postbagref1_value_oii.s3 (x0 : List AV) (x1 : Int) (x2 : Int) (x3 : Int) (x4 : Int) : St := ⟨mkS 31 [(0, .ro 3 x0 false), (1, .int .i64 x1), (2, .int .i64 x2), (7, .int .i64 x3), (8, .int .i64 x4)], [], top⟩
theorem postbagref1_value_oii.c3 (R : Type) (J : List Item → St → Option R) (κ : List SV → Option R) (x0 : List AV) (x1 : Int) (x2 : Int) (x3 : Int) (x4 : Int) :
    start (postbagref1_value_oii.C R) J (retK (postbagref1_value_oii.C R) Tryz.f138.results.toList (List.range 0) κ) 10000 (placeOf Tryz.f138 3) (postbagref1_value_oii.s3 x0 x1 x2 x3 x4) = postbagref1_value_oii.t3 x0 x1 x2 x3 x4 (fun y0 y1 y2 y3 y4 => J (placeOf Tryz.f138 3) (postbagref1_value_oii.s3 y0 y1 y2 y3 y4)) (fun r0 => κ [.int .i64 r0]) := by kernel_rfl
theorem postbagref1_value_oii.c (R : Type) (κ : List SV → Option R) (k : Nat) (a0 : List AV) (a1 : Int) (a2 : Int) :
    runF (postbagref1_value_oii.C R) Tryz.f138 10000 k [.ro 3 a0 false, .int .i64 a1, .int .i64 a2] κ = postbagref1_value_oii.e a0 a1 a2 (fun y0 y1 y2 y3 y4 => goto (postbagref1_value_oii.C R) (retK (postbagref1_value_oii.C R) Tryz.f138.results.toList (List.range 0) κ) 10000 k (placeOf Tryz.f138 3) (postbagref1_value_oii.s3 y0 y1 y2 y3 y4)) (fun r0 => κ [.int .i64 r0]) := by kernel_rfl
theorem postbagref1_value_oii.g3 (R : Type) (κ : List SV → Option R) : ∀ (f : Nat) (x0 : List AV) (x1 : Int) (x2 : Int) (x3 : Int) (x4 : Int), goto (postbagref1_value_oii.C R) (retK (postbagref1_value_oii.C R) Tryz.f138.results.toList (List.range 0) κ) 10000 f (placeOf Tryz.f138 3) (postbagref1_value_oii.s3 x0 x1 x2 x3 x4) = postbagref1_value_oii.L3 (fun r0 => κ [.int .i64 r0]) f x0 x1 x2 x3 x4
  | 0, _, _, _, _, _ => rfl
  | f + 1, x0, x1, x2, x3, x4 => by
    show start (postbagref1_value_oii.C R) (goto (postbagref1_value_oii.C R) (retK (postbagref1_value_oii.C R) Tryz.f138.results.toList (List.range 0) κ) 10000 f) (retK (postbagref1_value_oii.C R) Tryz.f138.results.toList (List.range 0) κ) 10000 (placeOf Tryz.f138 3) (postbagref1_value_oii.s3 x0 x1 x2 x3 x4) = _
    rw [postbagref1_value_oii.c3]
    simp only [postbagref1_value_oii.g3 R κ f]
    rfl
theorem postbagref1_value_oii.run (R : Type) (κ : List SV → Option R) (a0 : List AV) (a1 : Int) (a2 : Int) :
    runF (postbagref1_value_oii.C R) Tryz.f138 10000 fuelK [.ro 3 a0 false, .int .i64 a1, .int .i64 a2] κ = postbagref1_value_oii a0 a1 a2 (fun r0 => κ [.int .i64 r0]) := by
  rw [postbagref1_value_oii.c]
  simp only [postbagref1_value_oii.g3 R κ fuelK]
  rfl
theorem postbagref1_value_oii.Γ_does {R : Type} (tab : Tab) (ht : TabOk tab) (g : Nat) : Does (R := R) Tryz.prog (tabTy tyL) tab g ((postbagref1_value_oii.C R).call g) := by
  refine does_of fun xs κ => ?_
  show DoesAt _ _ _ g xs κ (postbagref1_value_oii.Γ g xs κ)
  unfold postbagref1_value_oii.Γ
  split
  · exact DoesAt.none
theorem postbagref1_value_oii.does {R : Type} (tab : Tab) (ht : TabOk tab) (a0 : List AV) (a1 : Int) (a2 : Int) (κ : List SV → Option R) : DoesAt Tryz.prog (tabTy tyL) tab 138 [.ro 3 a0 false, .int .i64 a1, .int .i64 a2] κ (postbagref1_value_oii a0 a1 a2 (fun r0 => κ [.int .i64 r0])) := by
  intro r h w vs Rt Ra bs hpre
  exact runF_sound tyOk (postbagref1_value_oii.Γ_does tab ht) (show Tryz.prog.funcs[138]? = some Tryz.f138 by kernel_rfl) (by kernel_rfl) ((postbagref1_value_oii.run R κ a0 a1 a2).trans h) hpre
def postbagref1_Loose64_0.Γ {R : Type} (c1 : postbagref1_worth_0.F R) (c2 : postbagref1_value_oii.F R) (g : Nat) (xs : List SV) (κ : List SV → Option R) : Option R :=
  match g with
  | 137 => (match xs with
    | [.int .u8 a0] => c1 a0 (fun r0 => κ [.int .i64 r0])
    | _ => none)
  | 138 => (match xs with
    | [.ro 3 a0 false, .int .i64 a1, .int .i64 a2] => c2 a0 a1 a2 (fun r0 => κ [.int .i64 r0])
    | _ => none)
  | _ => none
def postbagref1_Loose64_0.h (n : Nat) : Option (List (Nat × List (Nat × Nat))) :=
  match n with
  | 3 => some [(0, [(0, 0)]), (3, [(0, 5)]), (4, [(0, 0)])]
  | 7 => some [(0, [(0, 0)]), (3, [(0, 5)]), (4, [(0, 0)]), (5, [(0, 0)]), (6, [(0, 0)])]
  | 12 => some [(3, [(0, 0)]), (7, [(0, 7)]), (8, [(0, 0)])]
  | _ => none
def postbagref1_Loose64_0.C (R : Type) (c1 : postbagref1_worth_0.F R) (c2 : postbagref1_value_oii.F R) : Cfg R := ⟨tabTy tyL, postbagref1_Loose64_0.Γ c1 c2, fun _ => false, postbagref1_Loose64_0.h⟩
def postbagref1_Loose64_0.s3 (x0 : ByteArray) (x1 : Int) (x2 : List AV) : St := ⟨mkS 56 [(0, .str x0), (3, .own 256), (4, .int .i64 x1)], [(256, .row 3 x2 true)], top⟩
def postbagref1_Loose64_0.s7 (x0 : ByteArray) (x1 : Int) (x2 : Int) (x3 : Int) (x4 : List AV) : St := ⟨mkS 56 [(0, .str x0), (3, .own 256), (4, .int .i64 x1), (5, .int .i64 x2), (6, .int .i64 x3)], [(256, .row 3 x4 true)], top⟩
def postbagref1_Loose64_0.s12 (x0 : Int) (x1 : List AV) (x2 : List AV) : St := ⟨mkS 56 [(3, .own 256), (7, .own 512), (8, .int .i64 x0)], [(256, .row 3 x1 true), (512, .row 5 x2 true)], top⟩
theorem postbagref1_Loose64_0.c3 (R : Type) (c1 : postbagref1_worth_0.F R) (c2 : postbagref1_value_oii.F R) (J : List Item → St → Option R) (κ : List SV → Option R) (x0 : ByteArray) (x1 : Int) (x2 : List AV) :
    start (postbagref1_Loose64_0.C R c1 c2) J (retK (postbagref1_Loose64_0.C R c1 c2) Tryz.f103.results.toList (List.range 0) κ) 10000 (placeOf Tryz.f103 3) (postbagref1_Loose64_0.s3 x0 x1 x2) = postbagref1_Loose64_0.t3 c1 c2 x0 x1 x2 (fun y0 y1 y2 => J (placeOf Tryz.f103 3) (postbagref1_Loose64_0.s3 y0 y1 y2)) (fun y0 y1 y2 y3 y4 => J (placeOf Tryz.f103 7) (postbagref1_Loose64_0.s7 y0 y1 y2 y3 y4)) (fun y0 y1 y2 => J (placeOf Tryz.f103 12) (postbagref1_Loose64_0.s12 y0 y1 y2)) (fun r0 => κ [.str r0]) := by kernel_rfl
theorem postbagref1_Loose64_0.c7 (R : Type) (c1 : postbagref1_worth_0.F R) (c2 : postbagref1_value_oii.F R) (J : List Item → St → Option R) (κ : List SV → Option R) (x0 : ByteArray) (x1 : Int) (x2 : Int) (x3 : Int) (x4 : List AV) :
    start (postbagref1_Loose64_0.C R c1 c2) J (retK (postbagref1_Loose64_0.C R c1 c2) Tryz.f103.results.toList (List.range 0) κ) 10000 (placeOf Tryz.f103 7) (postbagref1_Loose64_0.s7 x0 x1 x2 x3 x4) = postbagref1_Loose64_0.t7 c1 c2 x0 x1 x2 x3 x4 (fun y0 y1 y2 => J (placeOf Tryz.f103 3) (postbagref1_Loose64_0.s3 y0 y1 y2)) (fun y0 y1 y2 y3 y4 => J (placeOf Tryz.f103 7) (postbagref1_Loose64_0.s7 y0 y1 y2 y3 y4)) (fun y0 y1 y2 => J (placeOf Tryz.f103 12) (postbagref1_Loose64_0.s12 y0 y1 y2)) (fun r0 => κ [.str r0]) := by kernel_rfl
theorem postbagref1_Loose64_0.c12 (R : Type) (c1 : postbagref1_worth_0.F R) (c2 : postbagref1_value_oii.F R) (J : List Item → St → Option R) (κ : List SV → Option R) (x0 : Int) (x1 : List AV) (x2 : List AV) :
    start (postbagref1_Loose64_0.C R c1 c2) J (retK (postbagref1_Loose64_0.C R c1 c2) Tryz.f103.results.toList (List.range 0) κ) 10000 (placeOf Tryz.f103 12) (postbagref1_Loose64_0.s12 x0 x1 x2) = postbagref1_Loose64_0.t12 c1 c2 x0 x1 x2 (fun y0 y1 y2 => J (placeOf Tryz.f103 3) (postbagref1_Loose64_0.s3 y0 y1 y2)) (fun y0 y1 y2 y3 y4 => J (placeOf Tryz.f103 7) (postbagref1_Loose64_0.s7 y0 y1 y2 y3 y4)) (fun y0 y1 y2 => J (placeOf Tryz.f103 12) (postbagref1_Loose64_0.s12 y0 y1 y2)) (fun r0 => κ [.str r0]) := by kernel_rfl
theorem postbagref1_Loose64_0.c (R : Type) (c1 : postbagref1_worth_0.F R) (c2 : postbagref1_value_oii.F R) (κ : List SV → Option R) (k : Nat) (a0 : ByteArray) :
    runF (postbagref1_Loose64_0.C R c1 c2) Tryz.f103 10000 k [.str a0] κ = postbagref1_Loose64_0.e c1 c2 a0 (fun y0 y1 y2 => goto (postbagref1_Loose64_0.C R c1 c2) (retK (postbagref1_Loose64_0.C R c1 c2) Tryz.f103.results.toList (List.range 0) κ) 10000 k (placeOf Tryz.f103 3) (postbagref1_Loose64_0.s3 y0 y1 y2)) (fun y0 y1 y2 y3 y4 => goto (postbagref1_Loose64_0.C R c1 c2) (retK (postbagref1_Loose64_0.C R c1 c2) Tryz.f103.results.toList (List.range 0) κ) 10000 k (placeOf Tryz.f103 7) (postbagref1_Loose64_0.s7 y0 y1 y2 y3 y4)) (fun y0 y1 y2 => goto (postbagref1_Loose64_0.C R c1 c2) (retK (postbagref1_Loose64_0.C R c1 c2) Tryz.f103.results.toList (List.range 0) κ) 10000 k (placeOf Tryz.f103 12) (postbagref1_Loose64_0.s12 y0 y1 y2)) (fun r0 => κ [.str r0]) := by kernel_rfl
theorem postbagref1_Loose64_0.g12 (R : Type) (c1 : postbagref1_worth_0.F R) (c2 : postbagref1_value_oii.F R) (κ : List SV → Option R) : ∀ (f : Nat) (x0 : Int) (x1 : List AV) (x2 : List AV), goto (postbagref1_Loose64_0.C R c1 c2) (retK (postbagref1_Loose64_0.C R c1 c2) Tryz.f103.results.toList (List.range 0) κ) 10000 f (placeOf Tryz.f103 12) (postbagref1_Loose64_0.s12 x0 x1 x2) = postbagref1_Loose64_0.L12 c1 c2 (fun r0 => κ [.str r0]) f x0 x1 x2
  | 0, _, _, _ => rfl
  | f + 1, x0, x1, x2 => by
    show start (postbagref1_Loose64_0.C R c1 c2) (goto (postbagref1_Loose64_0.C R c1 c2) (retK (postbagref1_Loose64_0.C R c1 c2) Tryz.f103.results.toList (List.range 0) κ) 10000 f) (retK (postbagref1_Loose64_0.C R c1 c2) Tryz.f103.results.toList (List.range 0) κ) 10000 (placeOf Tryz.f103 12) (postbagref1_Loose64_0.s12 x0 x1 x2) = _
    rw [postbagref1_Loose64_0.c12]
    simp only [postbagref1_Loose64_0.g12 R c1 c2 κ f]
    rfl
theorem postbagref1_Loose64_0.gM3 (R : Type) (c1 : postbagref1_worth_0.F R) (c2 : postbagref1_value_oii.F R) (κ : List SV → Option R) : ∀ (f : Nat), (∀ (x0 : ByteArray) (x1 : Int) (x2 : List AV), goto (postbagref1_Loose64_0.C R c1 c2) (retK (postbagref1_Loose64_0.C R c1 c2) Tryz.f103.results.toList (List.range 0) κ) 10000 f (placeOf Tryz.f103 3) (postbagref1_Loose64_0.s3 x0 x1 x2) = postbagref1_Loose64_0.L3 c1 c2 (fun r0 => κ [.str r0]) f x0 x1 x2) ∧
    (∀ (x0 : ByteArray) (x1 : Int) (x2 : Int) (x3 : Int) (x4 : List AV), goto (postbagref1_Loose64_0.C R c1 c2) (retK (postbagref1_Loose64_0.C R c1 c2) Tryz.f103.results.toList (List.range 0) κ) 10000 f (placeOf Tryz.f103 7) (postbagref1_Loose64_0.s7 x0 x1 x2 x3 x4) = postbagref1_Loose64_0.L7 c1 c2 (fun r0 => κ [.str r0]) f x0 x1 x2 x3 x4)
  | 0 => ⟨fun _ _ _ => rfl, fun _ _ _ _ _ => rfl⟩
  | f + 1 => by
    obtain ⟨ih0, ih1⟩ := postbagref1_Loose64_0.gM3 R c1 c2 κ f
    refine ⟨?_, ?_⟩
    · intro x0 x1 x2
      show start (postbagref1_Loose64_0.C R c1 c2) (goto (postbagref1_Loose64_0.C R c1 c2) (retK (postbagref1_Loose64_0.C R c1 c2) Tryz.f103.results.toList (List.range 0) κ) 10000 f) (retK (postbagref1_Loose64_0.C R c1 c2) Tryz.f103.results.toList (List.range 0) κ) 10000 (placeOf Tryz.f103 3) (postbagref1_Loose64_0.s3 x0 x1 x2) = _
      rw [postbagref1_Loose64_0.c3]
      simp only [ih0, ih1, postbagref1_Loose64_0.g12 R c1 c2 κ f]
      rfl
    · intro x0 x1 x2 x3 x4
      show start (postbagref1_Loose64_0.C R c1 c2) (goto (postbagref1_Loose64_0.C R c1 c2) (retK (postbagref1_Loose64_0.C R c1 c2) Tryz.f103.results.toList (List.range 0) κ) 10000 f) (retK (postbagref1_Loose64_0.C R c1 c2) Tryz.f103.results.toList (List.range 0) κ) 10000 (placeOf Tryz.f103 7) (postbagref1_Loose64_0.s7 x0 x1 x2 x3 x4) = _
      rw [postbagref1_Loose64_0.c7]
      simp only [ih0, ih1, postbagref1_Loose64_0.g12 R c1 c2 κ f]
      rfl
theorem postbagref1_Loose64_0.g3 (R : Type) (c1 : postbagref1_worth_0.F R) (c2 : postbagref1_value_oii.F R) (κ : List SV → Option R) (f : Nat) (x0 : ByteArray) (x1 : Int) (x2 : List AV) : goto (postbagref1_Loose64_0.C R c1 c2) (retK (postbagref1_Loose64_0.C R c1 c2) Tryz.f103.results.toList (List.range 0) κ) 10000 f (placeOf Tryz.f103 3) (postbagref1_Loose64_0.s3 x0 x1 x2) = postbagref1_Loose64_0.L3 c1 c2 (fun r0 => κ [.str r0]) f x0 x1 x2 := (postbagref1_Loose64_0.gM3 R c1 c2 κ f).1 x0 x1 x2
theorem postbagref1_Loose64_0.g7 (R : Type) (c1 : postbagref1_worth_0.F R) (c2 : postbagref1_value_oii.F R) (κ : List SV → Option R) (f : Nat) (x0 : ByteArray) (x1 : Int) (x2 : Int) (x3 : Int) (x4 : List AV) : goto (postbagref1_Loose64_0.C R c1 c2) (retK (postbagref1_Loose64_0.C R c1 c2) Tryz.f103.results.toList (List.range 0) κ) 10000 f (placeOf Tryz.f103 7) (postbagref1_Loose64_0.s7 x0 x1 x2 x3 x4) = postbagref1_Loose64_0.L7 c1 c2 (fun r0 => κ [.str r0]) f x0 x1 x2 x3 x4 := (postbagref1_Loose64_0.gM3 R c1 c2 κ f).2 x0 x1 x2 x3 x4
theorem postbagref1_Loose64_0.run (R : Type) (κ : List SV → Option R) (a0 : ByteArray) :
    runF (postbagref1_Loose64_0.C R postbagref1_worth_0 postbagref1_value_oii) Tryz.f103 10000 fuelK [.str a0] κ = postbagref1_Loose64_0 a0 (fun r0 => κ [.str r0]) := by
  rw [postbagref1_Loose64_0.c]
  simp only [postbagref1_Loose64_0.g3 R postbagref1_worth_0 postbagref1_value_oii κ fuelK, postbagref1_Loose64_0.g7 R postbagref1_worth_0 postbagref1_value_oii κ fuelK, postbagref1_Loose64_0.g12 R postbagref1_worth_0 postbagref1_value_oii κ fuelK]
  rfl
theorem postbagref1_Loose64_0.Γ_does {R : Type} (tab : Tab) (ht : TabOk tab) (g : Nat) : Does (R := R) Tryz.prog (tabTy tyL) tab g ((postbagref1_Loose64_0.C R postbagref1_worth_0 postbagref1_value_oii).call g) := by
  refine does_of fun xs κ => ?_
  show DoesAt _ _ _ g xs κ (postbagref1_Loose64_0.Γ postbagref1_worth_0 postbagref1_value_oii g xs κ)
  unfold postbagref1_Loose64_0.Γ
  split
  · split
    · exact postbagref1_worth_0.does tab ht _ κ
    · exact DoesAt.none
  · split
    · exact postbagref1_value_oii.does tab ht _ _ _ κ
    · exact DoesAt.none
  · exact DoesAt.none
theorem postbagref1_Loose64_0.does {R : Type} (tab : Tab) (ht : TabOk tab) (a0 : ByteArray) (κ : List SV → Option R) : DoesAt Tryz.prog (tabTy tyL) tab 103 [.str a0] κ (postbagref1_Loose64_0 a0 (fun r0 => κ [.str r0])) := by
  intro r h w vs Rt Ra bs hpre
  exact runF_sound tyOk (postbagref1_Loose64_0.Γ_does tab ht) (show Tryz.prog.funcs[103]? = some Tryz.f103 by kernel_rfl) (by kernel_rfl) ((postbagref1_Loose64_0.run R κ a0).trans h) hpre
def postbagref5_latin_0.Γ {R : Type} (g : Nat) (xs : List SV) (κ : List SV → Option R) : Option R :=
  match g with
  | _ => none
def postbagref5_latin_0.h (n : Nat) : Option (List (Nat × List (Nat × Nat))) :=
  match n with
  | 3 => some [(0, [(0, 0)]), (3, [(0, 7)]), (4, [(0, 0)])]
  | _ => none
def postbagref5_latin_0.C (R : Type) : Cfg R := ⟨tabTy tyL, postbagref5_latin_0.Γ, fun _ => false, postbagref5_latin_0.h⟩
def postbagref5_latin_0.s3 (x0 : ByteArray) (x1 : Int) (x2 : List AV) : St := ⟨mkS 36 [(0, .str x0), (3, .own 256), (4, .int .i64 x1)], [(256, .row 5 x2 true)], top⟩
theorem postbagref5_latin_0.c3 (R : Type) (J : List Item → St → Option R) (κ : List SV → Option R) (x0 : ByteArray) (x1 : Int) (x2 : List AV) :
    start (postbagref5_latin_0.C R) J (retK (postbagref5_latin_0.C R) Tryz.f105.results.toList (List.range 0) κ) 10000 (placeOf Tryz.f105 3) (postbagref5_latin_0.s3 x0 x1 x2) = postbagref5_latin_0.t3 x0 x1 x2 (fun y0 y1 y2 => J (placeOf Tryz.f105 3) (postbagref5_latin_0.s3 y0 y1 y2)) (fun r0 => κ [.str r0]) := by kernel_rfl
theorem postbagref5_latin_0.c (R : Type) (κ : List SV → Option R) (k : Nat) (a0 : ByteArray) :
    runF (postbagref5_latin_0.C R) Tryz.f105 10000 k [.str a0] κ = postbagref5_latin_0.e a0 (fun y0 y1 y2 => goto (postbagref5_latin_0.C R) (retK (postbagref5_latin_0.C R) Tryz.f105.results.toList (List.range 0) κ) 10000 k (placeOf Tryz.f105 3) (postbagref5_latin_0.s3 y0 y1 y2)) (fun r0 => κ [.str r0]) := by kernel_rfl
theorem postbagref5_latin_0.g3 (R : Type) (κ : List SV → Option R) : ∀ (f : Nat) (x0 : ByteArray) (x1 : Int) (x2 : List AV), goto (postbagref5_latin_0.C R) (retK (postbagref5_latin_0.C R) Tryz.f105.results.toList (List.range 0) κ) 10000 f (placeOf Tryz.f105 3) (postbagref5_latin_0.s3 x0 x1 x2) = postbagref5_latin_0.L3 (fun r0 => κ [.str r0]) f x0 x1 x2
  | 0, _, _, _ => rfl
  | f + 1, x0, x1, x2 => by
    show start (postbagref5_latin_0.C R) (goto (postbagref5_latin_0.C R) (retK (postbagref5_latin_0.C R) Tryz.f105.results.toList (List.range 0) κ) 10000 f) (retK (postbagref5_latin_0.C R) Tryz.f105.results.toList (List.range 0) κ) 10000 (placeOf Tryz.f105 3) (postbagref5_latin_0.s3 x0 x1 x2) = _
    rw [postbagref5_latin_0.c3]
    simp only [postbagref5_latin_0.g3 R κ f]
    rfl
theorem postbagref5_latin_0.run (R : Type) (κ : List SV → Option R) (a0 : ByteArray) :
    runF (postbagref5_latin_0.C R) Tryz.f105 10000 fuelK [.str a0] κ = postbagref5_latin_0 a0 (fun r0 => κ [.str r0]) := by
  rw [postbagref5_latin_0.c]
  simp only [postbagref5_latin_0.g3 R κ fuelK]
  rfl
theorem postbagref5_latin_0.Γ_does {R : Type} (tab : Tab) (ht : TabOk tab) (g : Nat) : Does (R := R) Tryz.prog (tabTy tyL) tab g ((postbagref5_latin_0.C R).call g) := by
  refine does_of fun xs κ => ?_
  show DoesAt _ _ _ g xs κ (postbagref5_latin_0.Γ g xs κ)
  unfold postbagref5_latin_0.Γ
  split
  · exact DoesAt.none
theorem postbagref5_latin_0.does {R : Type} (tab : Tab) (ht : TabOk tab) (a0 : ByteArray) (κ : List SV → Option R) : DoesAt Tryz.prog (tabTy tyL) tab 105 [.str a0] κ (postbagref5_latin_0 a0 (fun r0 => κ [.str r0])) := by
  intro r h w vs Rt Ra bs hpre
  exact runF_sound tyOk (postbagref5_latin_0.Γ_does tab ht) (show Tryz.prog.funcs[105]? = some Tryz.f105 by kernel_rfl) (by kernel_rfl) ((postbagref5_latin_0.run R κ a0).trans h) hpre
def postbagref5_hex_0.Γ {R : Type} (g : Nat) (xs : List SV) (κ : List SV → Option R) : Option R :=
  match g with
  | _ => none
def postbagref5_hex_0.h (n : Nat) : Option (List (Nat × List (Nat × Nat))) :=
  match n with
  | _ => none
def postbagref5_hex_0.C (R : Type) : Cfg R := ⟨tabTy tyL, postbagref5_hex_0.Γ, fun _ => false, postbagref5_hex_0.h⟩
theorem postbagref5_hex_0.c (R : Type) (κ : List SV → Option R) (k : Nat) (a0 : Int) :
    runF (postbagref5_hex_0.C R) Tryz.f139 10000 k [.int .u8 a0] κ = postbagref5_hex_0.e a0 (fun r0 => κ [.int .i64 r0]) := by kernel_rfl
theorem postbagref5_hex_0.run (R : Type) (κ : List SV → Option R) (a0 : Int) :
    runF (postbagref5_hex_0.C R) Tryz.f139 10000 fuelK [.int .u8 a0] κ = postbagref5_hex_0 a0 (fun r0 => κ [.int .i64 r0]) := by
  rw [postbagref5_hex_0.c]
  rfl
theorem postbagref5_hex_0.Γ_does {R : Type} (tab : Tab) (ht : TabOk tab) (g : Nat) : Does (R := R) Tryz.prog (tabTy tyL) tab g ((postbagref5_hex_0.C R).call g) := by
  refine does_of fun xs κ => ?_
  show DoesAt _ _ _ g xs κ (postbagref5_hex_0.Γ g xs κ)
  unfold postbagref5_hex_0.Γ
  split
  · exact DoesAt.none
theorem postbagref5_hex_0.does {R : Type} (tab : Tab) (ht : TabOk tab) (a0 : Int) (κ : List SV → Option R) : DoesAt Tryz.prog (tabTy tyL) tab 139 [.int .u8 a0] κ (postbagref5_hex_0 a0 (fun r0 => κ [.int .i64 r0])) := by
  intro r h w vs Rt Ra bs hpre
  exact runF_sound tyOk (postbagref5_hex_0.Γ_does tab ht) (show Tryz.prog.funcs[139]? = some Tryz.f139 by kernel_rfl) (by kernel_rfl) ((postbagref5_hex_0.run R κ a0).trans h) hpre
def postbagref5_quoted_0.Γ {R : Type} (c1 : postbagref5_hex_0.F R) (g : Nat) (xs : List SV) (κ : List SV → Option R) : Option R :=
  match g with
  | 139 => (match xs with
    | [.int .u8 a0] => c1 a0 (fun r0 => κ [.int .i64 r0])
    | _ => none)
  | _ => none
def postbagref5_quoted_0.h (n : Nat) : Option (List (Nat × List (Nat × Nat))) :=
  match n with
  | 3 => some [(0, [(0, 0)]), (3, [(0, 7)]), (4, [(0, 0)])]
  | _ => none
def postbagref5_quoted_0.C (R : Type) (c1 : postbagref5_hex_0.F R) : Cfg R := ⟨tabTy tyL, postbagref5_quoted_0.Γ c1, fun _ => false, postbagref5_quoted_0.h⟩
def postbagref5_quoted_0.s3 (x0 : ByteArray) (x1 : Int) (x2 : List AV) : St := ⟨mkS 63 [(0, .str x0), (3, .own 256), (4, .int .i64 x1)], [(256, .row 5 x2 true)], top⟩
theorem postbagref5_quoted_0.c3 (R : Type) (c1 : postbagref5_hex_0.F R) (J : List Item → St → Option R) (κ : List SV → Option R) (x0 : ByteArray) (x1 : Int) (x2 : List AV) :
    start (postbagref5_quoted_0.C R c1) J (retK (postbagref5_quoted_0.C R c1) Tryz.f104.results.toList (List.range 0) κ) 10000 (placeOf Tryz.f104 3) (postbagref5_quoted_0.s3 x0 x1 x2) = postbagref5_quoted_0.t3 c1 x0 x1 x2 (fun y0 y1 y2 => J (placeOf Tryz.f104 3) (postbagref5_quoted_0.s3 y0 y1 y2)) (fun r0 => κ [.str r0]) := by kernel_rfl
theorem postbagref5_quoted_0.c (R : Type) (c1 : postbagref5_hex_0.F R) (κ : List SV → Option R) (k : Nat) (a0 : ByteArray) :
    runF (postbagref5_quoted_0.C R c1) Tryz.f104 10000 k [.str a0] κ = postbagref5_quoted_0.e c1 a0 (fun y0 y1 y2 => goto (postbagref5_quoted_0.C R c1) (retK (postbagref5_quoted_0.C R c1) Tryz.f104.results.toList (List.range 0) κ) 10000 k (placeOf Tryz.f104 3) (postbagref5_quoted_0.s3 y0 y1 y2)) (fun r0 => κ [.str r0]) := by kernel_rfl
theorem postbagref5_quoted_0.g3 (R : Type) (c1 : postbagref5_hex_0.F R) (κ : List SV → Option R) : ∀ (f : Nat) (x0 : ByteArray) (x1 : Int) (x2 : List AV), goto (postbagref5_quoted_0.C R c1) (retK (postbagref5_quoted_0.C R c1) Tryz.f104.results.toList (List.range 0) κ) 10000 f (placeOf Tryz.f104 3) (postbagref5_quoted_0.s3 x0 x1 x2) = postbagref5_quoted_0.L3 c1 (fun r0 => κ [.str r0]) f x0 x1 x2
  | 0, _, _, _ => rfl
  | f + 1, x0, x1, x2 => by
    show start (postbagref5_quoted_0.C R c1) (goto (postbagref5_quoted_0.C R c1) (retK (postbagref5_quoted_0.C R c1) Tryz.f104.results.toList (List.range 0) κ) 10000 f) (retK (postbagref5_quoted_0.C R c1) Tryz.f104.results.toList (List.range 0) κ) 10000 (placeOf Tryz.f104 3) (postbagref5_quoted_0.s3 x0 x1 x2) = _
    rw [postbagref5_quoted_0.c3]
    simp only [postbagref5_quoted_0.g3 R c1 κ f]
    rfl
theorem postbagref5_quoted_0.run (R : Type) (κ : List SV → Option R) (a0 : ByteArray) :
    runF (postbagref5_quoted_0.C R postbagref5_hex_0) Tryz.f104 10000 fuelK [.str a0] κ = postbagref5_quoted_0 a0 (fun r0 => κ [.str r0]) := by
  rw [postbagref5_quoted_0.c]
  simp only [postbagref5_quoted_0.g3 R postbagref5_hex_0 κ fuelK]
  rfl
theorem postbagref5_quoted_0.Γ_does {R : Type} (tab : Tab) (ht : TabOk tab) (g : Nat) : Does (R := R) Tryz.prog (tabTy tyL) tab g ((postbagref5_quoted_0.C R postbagref5_hex_0).call g) := by
  refine does_of fun xs κ => ?_
  show DoesAt _ _ _ g xs κ (postbagref5_quoted_0.Γ postbagref5_hex_0 g xs κ)
  unfold postbagref5_quoted_0.Γ
  split
  · split
    · exact postbagref5_hex_0.does tab ht _ κ
    · exact DoesAt.none
  · exact DoesAt.none
theorem postbagref5_quoted_0.does {R : Type} (tab : Tab) (ht : TabOk tab) (a0 : ByteArray) (κ : List SV → Option R) : DoesAt Tryz.prog (tabTy tyL) tab 104 [.str a0] κ (postbagref5_quoted_0 a0 (fun r0 => κ [.str r0])) := by
  intro r h w vs Rt Ra bs hpre
  exact runF_sound tyOk (postbagref5_quoted_0.Γ_does tab ht) (show Tryz.prog.funcs[104]? = some Tryz.f104 by kernel_rfl) (by kernel_rfl) ((postbagref5_quoted_0.run R κ a0).trans h) hpre
def postbagref5_encoded_0.Γ {R : Type} (c1 : postbagref5_mark_0.F R) (c2 : postbagref1_Lower_0.F R) (c3 : postbagref1_Loose64_0.F R) (c4 : postbagref5_latin_0.F R) (c5 : postbagref5_quoted_0.F R) (g : Nat) (xs : List SV) (κ : List SV → Option R) : Option R :=
  match g with
  | 101 => (match xs with
    | [.str a0] => c2 a0 (fun r0 => κ [.str r0])
    | _ => none)
  | 102 => (match xs with
    | [.str a0, .int .i64 a1] => c1 a0 a1 (fun r0 => κ [.int .i64 r0])
    | _ => none)
  | 103 => (match xs with
    | [.str a0] => c3 a0 (fun r0 => κ [.str r0])
    | _ => none)
  | 104 => (match xs with
    | [.str a0] => c5 a0 (fun r0 => κ [.str r0])
    | _ => none)
  | 105 => (match xs with
    | [.str a0] => c4 a0 (fun r0 => κ [.str r0])
    | _ => none)
  | _ => none
def postbagref5_encoded_0.h (n : Nat) : Option (List (Nat × List (Nat × Nat))) :=
  match n with
  | 13 => some [(5, [(0, 0)]), (6, [(0, 0)]), (7, [(0, 0)]), (8, [(0, 0)]), (9, [(0, 0)])]
  | 19 => some [(5, [(0, 0)]), (6, [(0, 0)]), (7, [(0, 0)]), (8, [(0, 0)])]
  | _ => none
def postbagref5_encoded_0.C (R : Type) (c1 : postbagref5_mark_0.F R) (c2 : postbagref1_Lower_0.F R) (c3 : postbagref1_Loose64_0.F R) (c4 : postbagref5_latin_0.F R) (c5 : postbagref5_quoted_0.F R) : Cfg R := ⟨tabTy tyL, postbagref5_encoded_0.Γ c1 c2 c3 c4 c5, fun _ => false, postbagref5_encoded_0.h⟩
def postbagref5_encoded_0.s13 (x0 : Int) (x1 : ByteArray) (x2 : ByteArray) (x3 : ByteArray) (x4 : Int) : St := ⟨mkS 124 [(5, .int .i64 x0), (6, .str x1), (7, .str x2), (8, .str x3), (9, .int .i64 x4)], [], top⟩
def postbagref5_encoded_0.s19 (x0 : Int) (x1 : ByteArray) (x2 : ByteArray) (x3 : ByteArray) : St := ⟨mkS 124 [(5, .int .i64 x0), (6, .str x1), (7, .str x2), (8, .str x3)], [], top⟩
theorem postbagref5_encoded_0.c13 (R : Type) (c1 : postbagref5_mark_0.F R) (c2 : postbagref1_Lower_0.F R) (c3 : postbagref1_Loose64_0.F R) (c4 : postbagref5_latin_0.F R) (c5 : postbagref5_quoted_0.F R) (J : List Item → St → Option R) (κ : List SV → Option R) (x0 : Int) (x1 : ByteArray) (x2 : ByteArray) (x3 : ByteArray) (x4 : Int) :
    start (postbagref5_encoded_0.C R c1 c2 c3 c4 c5) J (retK (postbagref5_encoded_0.C R c1 c2 c3 c4 c5) Tryz.f52.results.toList (List.range 0) κ) 10000 (placeOf Tryz.f52 13) (postbagref5_encoded_0.s13 x0 x1 x2 x3 x4) = postbagref5_encoded_0.t13 c1 c2 c3 c4 c5 x0 x1 x2 x3 x4 (fun y0 y1 y2 y3 y4 => J (placeOf Tryz.f52 13) (postbagref5_encoded_0.s13 y0 y1 y2 y3 y4)) (fun y0 y1 y2 y3 => J (placeOf Tryz.f52 19) (postbagref5_encoded_0.s19 y0 y1 y2 y3)) (fun r0 r1 => κ [.tup [.int .i64 r0, .str r1]]) := by kernel_rfl
theorem postbagref5_encoded_0.c19 (R : Type) (c1 : postbagref5_mark_0.F R) (c2 : postbagref1_Lower_0.F R) (c3 : postbagref1_Loose64_0.F R) (c4 : postbagref5_latin_0.F R) (c5 : postbagref5_quoted_0.F R) (J : List Item → St → Option R) (κ : List SV → Option R) (x0 : Int) (x1 : ByteArray) (x2 : ByteArray) (x3 : ByteArray) :
    start (postbagref5_encoded_0.C R c1 c2 c3 c4 c5) J (retK (postbagref5_encoded_0.C R c1 c2 c3 c4 c5) Tryz.f52.results.toList (List.range 0) κ) 10000 (placeOf Tryz.f52 19) (postbagref5_encoded_0.s19 x0 x1 x2 x3) = postbagref5_encoded_0.t19 c1 c2 c3 c4 c5 x0 x1 x2 x3 (fun y0 y1 y2 y3 y4 => J (placeOf Tryz.f52 13) (postbagref5_encoded_0.s13 y0 y1 y2 y3 y4)) (fun y0 y1 y2 y3 => J (placeOf Tryz.f52 19) (postbagref5_encoded_0.s19 y0 y1 y2 y3)) (fun r0 r1 => κ [.tup [.int .i64 r0, .str r1]]) := by kernel_rfl
theorem postbagref5_encoded_0.c (R : Type) (c1 : postbagref5_mark_0.F R) (c2 : postbagref1_Lower_0.F R) (c3 : postbagref1_Loose64_0.F R) (c4 : postbagref5_latin_0.F R) (c5 : postbagref5_quoted_0.F R) (κ : List SV → Option R) (k : Nat) (a0 : ByteArray) :
    runF (postbagref5_encoded_0.C R c1 c2 c3 c4 c5) Tryz.f52 10000 k [.str a0] κ = postbagref5_encoded_0.e c1 c2 c3 c4 c5 a0 (fun y0 y1 y2 y3 y4 => goto (postbagref5_encoded_0.C R c1 c2 c3 c4 c5) (retK (postbagref5_encoded_0.C R c1 c2 c3 c4 c5) Tryz.f52.results.toList (List.range 0) κ) 10000 k (placeOf Tryz.f52 13) (postbagref5_encoded_0.s13 y0 y1 y2 y3 y4)) (fun y0 y1 y2 y3 => goto (postbagref5_encoded_0.C R c1 c2 c3 c4 c5) (retK (postbagref5_encoded_0.C R c1 c2 c3 c4 c5) Tryz.f52.results.toList (List.range 0) κ) 10000 k (placeOf Tryz.f52 19) (postbagref5_encoded_0.s19 y0 y1 y2 y3)) (fun r0 r1 => κ [.tup [.int .i64 r0, .str r1]]) := by kernel_rfl
theorem postbagref5_encoded_0.g19 (R : Type) (c1 : postbagref5_mark_0.F R) (c2 : postbagref1_Lower_0.F R) (c3 : postbagref1_Loose64_0.F R) (c4 : postbagref5_latin_0.F R) (c5 : postbagref5_quoted_0.F R) (κ : List SV → Option R) : ∀ (f : Nat) (x0 : Int) (x1 : ByteArray) (x2 : ByteArray) (x3 : ByteArray), goto (postbagref5_encoded_0.C R c1 c2 c3 c4 c5) (retK (postbagref5_encoded_0.C R c1 c2 c3 c4 c5) Tryz.f52.results.toList (List.range 0) κ) 10000 f (placeOf Tryz.f52 19) (postbagref5_encoded_0.s19 x0 x1 x2 x3) = postbagref5_encoded_0.L19 c1 c2 c3 c4 c5 (fun r0 r1 => κ [.tup [.int .i64 r0, .str r1]]) f x0 x1 x2 x3
  | 0, _, _, _, _ => rfl
  | f + 1, x0, x1, x2, x3 => by
    show start (postbagref5_encoded_0.C R c1 c2 c3 c4 c5) (goto (postbagref5_encoded_0.C R c1 c2 c3 c4 c5) (retK (postbagref5_encoded_0.C R c1 c2 c3 c4 c5) Tryz.f52.results.toList (List.range 0) κ) 10000 f) (retK (postbagref5_encoded_0.C R c1 c2 c3 c4 c5) Tryz.f52.results.toList (List.range 0) κ) 10000 (placeOf Tryz.f52 19) (postbagref5_encoded_0.s19 x0 x1 x2 x3) = _
    rw [postbagref5_encoded_0.c19]
    skip
    rfl
theorem postbagref5_encoded_0.g13 (R : Type) (c1 : postbagref5_mark_0.F R) (c2 : postbagref1_Lower_0.F R) (c3 : postbagref1_Loose64_0.F R) (c4 : postbagref5_latin_0.F R) (c5 : postbagref5_quoted_0.F R) (κ : List SV → Option R) : ∀ (f : Nat) (x0 : Int) (x1 : ByteArray) (x2 : ByteArray) (x3 : ByteArray) (x4 : Int), goto (postbagref5_encoded_0.C R c1 c2 c3 c4 c5) (retK (postbagref5_encoded_0.C R c1 c2 c3 c4 c5) Tryz.f52.results.toList (List.range 0) κ) 10000 f (placeOf Tryz.f52 13) (postbagref5_encoded_0.s13 x0 x1 x2 x3 x4) = postbagref5_encoded_0.L13 c1 c2 c3 c4 c5 (fun r0 r1 => κ [.tup [.int .i64 r0, .str r1]]) f x0 x1 x2 x3 x4
  | 0, _, _, _, _, _ => rfl
  | f + 1, x0, x1, x2, x3, x4 => by
    show start (postbagref5_encoded_0.C R c1 c2 c3 c4 c5) (goto (postbagref5_encoded_0.C R c1 c2 c3 c4 c5) (retK (postbagref5_encoded_0.C R c1 c2 c3 c4 c5) Tryz.f52.results.toList (List.range 0) κ) 10000 f) (retK (postbagref5_encoded_0.C R c1 c2 c3 c4 c5) Tryz.f52.results.toList (List.range 0) κ) 10000 (placeOf Tryz.f52 13) (postbagref5_encoded_0.s13 x0 x1 x2 x3 x4) = _
    rw [postbagref5_encoded_0.c13]
    simp only [postbagref5_encoded_0.g13 R c1 c2 c3 c4 c5 κ f, postbagref5_encoded_0.g19 R c1 c2 c3 c4 c5 κ f]
    rfl
theorem postbagref5_encoded_0.run (R : Type) (κ : List SV → Option R) (a0 : ByteArray) :
    runF (postbagref5_encoded_0.C R postbagref5_mark_0 postbagref1_Lower_0 postbagref1_Loose64_0 postbagref5_latin_0 postbagref5_quoted_0) Tryz.f52 10000 fuelK [.str a0] κ = postbagref5_encoded_0 a0 (fun r0 r1 => κ [.tup [.int .i64 r0, .str r1]]) := by
  rw [postbagref5_encoded_0.c]
  simp only [postbagref5_encoded_0.g13 R postbagref5_mark_0 postbagref1_Lower_0 postbagref1_Loose64_0 postbagref5_latin_0 postbagref5_quoted_0 κ fuelK, postbagref5_encoded_0.g19 R postbagref5_mark_0 postbagref1_Lower_0 postbagref1_Loose64_0 postbagref5_latin_0 postbagref5_quoted_0 κ fuelK]
  rfl
theorem postbagref5_encoded_0.Γ_does {R : Type} (tab : Tab) (ht : TabOk tab) (g : Nat) : Does (R := R) Tryz.prog (tabTy tyL) tab g ((postbagref5_encoded_0.C R postbagref5_mark_0 postbagref1_Lower_0 postbagref1_Loose64_0 postbagref5_latin_0 postbagref5_quoted_0).call g) := by
  refine does_of fun xs κ => ?_
  show DoesAt _ _ _ g xs κ (postbagref5_encoded_0.Γ postbagref5_mark_0 postbagref1_Lower_0 postbagref1_Loose64_0 postbagref5_latin_0 postbagref5_quoted_0 g xs κ)
  unfold postbagref5_encoded_0.Γ
  split
  · split
    · exact postbagref1_Lower_0.does tab ht _ κ
    · exact DoesAt.none
  · split
    · exact postbagref5_mark_0.does tab ht _ _ κ
    · exact DoesAt.none
  · split
    · exact postbagref1_Loose64_0.does tab ht _ κ
    · exact DoesAt.none
  · split
    · exact postbagref5_quoted_0.does tab ht _ κ
    · exact DoesAt.none
  · split
    · exact postbagref5_latin_0.does tab ht _ κ
    · exact DoesAt.none
  · exact DoesAt.none
theorem postbagref5_encoded_0.does {R : Type} (tab : Tab) (ht : TabOk tab) (a0 : ByteArray) (κ : List SV → Option R) : DoesAt Tryz.prog (tabTy tyL) tab 52 [.str a0] κ (postbagref5_encoded_0 a0 (fun r0 r1 => κ [.tup [.int .i64 r0, .str r1]])) := by
  intro r h w vs Rt Ra bs hpre
  exact runF_sound tyOk (postbagref5_encoded_0.Γ_does tab ht) (show Tryz.prog.funcs[52]? = some Tryz.f52 by kernel_rfl) (by kernel_rfl) ((postbagref5_encoded_0.run R κ a0).trans h) hpre
def postbagref5_blank_0.Γ {R : Type} (g : Nat) (xs : List SV) (κ : List SV → Option R) : Option R :=
  match g with
  | _ => none
def postbagref5_blank_0.h (n : Nat) : Option (List (Nat × List (Nat × Nat))) :=
  match n with
  | _ => none
def postbagref5_blank_0.C (R : Type) : Cfg R := ⟨tabTy tyL, postbagref5_blank_0.Γ, fun _ => false, postbagref5_blank_0.h⟩
theorem postbagref5_blank_0.c (R : Type) (κ : List SV → Option R) (k : Nat) (a0 : Int) :
    runF (postbagref5_blank_0.C R) Tryz.f53 10000 k [.int .u8 a0] κ = postbagref5_blank_0.e a0 (fun r0 => κ [.bool r0]) := by kernel_rfl
theorem postbagref5_blank_0.run (R : Type) (κ : List SV → Option R) (a0 : Int) :
    runF (postbagref5_blank_0.C R) Tryz.f53 10000 fuelK [.int .u8 a0] κ = postbagref5_blank_0 a0 (fun r0 => κ [.bool r0]) := by
  rw [postbagref5_blank_0.c]
  rfl
theorem postbagref5_blank_0.Γ_does {R : Type} (tab : Tab) (ht : TabOk tab) (g : Nat) : Does (R := R) Tryz.prog (tabTy tyL) tab g ((postbagref5_blank_0.C R).call g) := by
  refine does_of fun xs κ => ?_
  show DoesAt _ _ _ g xs κ (postbagref5_blank_0.Γ g xs κ)
  unfold postbagref5_blank_0.Γ
  split
  · exact DoesAt.none
theorem postbagref5_blank_0.does {R : Type} (tab : Tab) (ht : TabOk tab) (a0 : Int) (κ : List SV → Option R) : DoesAt Tryz.prog (tabTy tyL) tab 53 [.int .u8 a0] κ (postbagref5_blank_0 a0 (fun r0 => κ [.bool r0])) := by
  intro r h w vs Rt Ra bs hpre
  exact runF_sound tyOk (postbagref5_blank_0.Γ_does tab ht) (show Tryz.prog.funcs[53]? = some Tryz.f53 by kernel_rfl) (by kernel_rfl) ((postbagref5_blank_0.run R κ a0).trans h) hpre
def postbagref5_Words_0.Γ {R : Type} (c1 : postbagref5_encoded_0.F R) (c2 : postbagref5_blank_0.F R) (g : Nat) (xs : List SV) (κ : List SV → Option R) : Option R :=
  match g with
  | 52 => (match xs with
    | [.str a0] => c1 a0 (fun r0 r1 => κ [.tup [.int .i64 r0, .str r1]])
    | _ => none)
  | 53 => (match xs with
    | [.int .u8 a0] => c2 a0 (fun r0 => κ [.bool r0])
    | _ => none)
  | _ => none
def postbagref5_Words_0.h (n : Nat) : Option (List (Nat × List (Nat × Nat))) :=
  match n with
  | 4 => some [(0, [(0, 0)]), (3, [(0, 0)]), (4, [(0, 0)]), (5, [(0, 0)])]
  | _ => none
def postbagref5_Words_0.C (R : Type) (c1 : postbagref5_encoded_0.F R) (c2 : postbagref5_blank_0.F R) : Cfg R := ⟨tabTy tyL, postbagref5_Words_0.Γ c1 c2, fun _ => false, postbagref5_Words_0.h⟩
def postbagref5_Words_0.s4 (x0 : ByteArray) (x1 : ByteArray) (x2 : ByteArray) (x3 : Bool) : St := ⟨mkS 49 [(0, .str x0), (3, .str x1), (4, .str x2), (5, .bool x3)], [], top⟩
theorem postbagref5_Words_0.c4 (R : Type) (c1 : postbagref5_encoded_0.F R) (c2 : postbagref5_blank_0.F R) (J : List Item → St → Option R) (κ : List SV → Option R) (x0 : ByteArray) (x1 : ByteArray) (x2 : ByteArray) (x3 : Bool) :
    start (postbagref5_Words_0.C R c1 c2) J (retK (postbagref5_Words_0.C R c1 c2) Tryz.f18.results.toList (List.range 0) κ) 10000 (placeOf Tryz.f18 4) (postbagref5_Words_0.s4 x0 x1 x2 x3) = postbagref5_Words_0.t4 c1 c2 x0 x1 x2 x3 (fun y0 y1 y2 y3 => J (placeOf Tryz.f18 4) (postbagref5_Words_0.s4 y0 y1 y2 y3)) (fun r0 => κ [.str r0]) := by kernel_rfl
theorem postbagref5_Words_0.c (R : Type) (c1 : postbagref5_encoded_0.F R) (c2 : postbagref5_blank_0.F R) (κ : List SV → Option R) (k : Nat) (a0 : ByteArray) :
    runF (postbagref5_Words_0.C R c1 c2) Tryz.f18 10000 k [.str a0] κ = postbagref5_Words_0.e c1 c2 a0 (fun y0 y1 y2 y3 => goto (postbagref5_Words_0.C R c1 c2) (retK (postbagref5_Words_0.C R c1 c2) Tryz.f18.results.toList (List.range 0) κ) 10000 k (placeOf Tryz.f18 4) (postbagref5_Words_0.s4 y0 y1 y2 y3)) (fun r0 => κ [.str r0]) := by kernel_rfl
theorem postbagref5_Words_0.g4 (R : Type) (c1 : postbagref5_encoded_0.F R) (c2 : postbagref5_blank_0.F R) (κ : List SV → Option R) : ∀ (f : Nat) (x0 : ByteArray) (x1 : ByteArray) (x2 : ByteArray) (x3 : Bool), goto (postbagref5_Words_0.C R c1 c2) (retK (postbagref5_Words_0.C R c1 c2) Tryz.f18.results.toList (List.range 0) κ) 10000 f (placeOf Tryz.f18 4) (postbagref5_Words_0.s4 x0 x1 x2 x3) = postbagref5_Words_0.L4 c1 c2 (fun r0 => κ [.str r0]) f x0 x1 x2 x3
  | 0, _, _, _, _ => rfl
  | f + 1, x0, x1, x2, x3 => by
    show start (postbagref5_Words_0.C R c1 c2) (goto (postbagref5_Words_0.C R c1 c2) (retK (postbagref5_Words_0.C R c1 c2) Tryz.f18.results.toList (List.range 0) κ) 10000 f) (retK (postbagref5_Words_0.C R c1 c2) Tryz.f18.results.toList (List.range 0) κ) 10000 (placeOf Tryz.f18 4) (postbagref5_Words_0.s4 x0 x1 x2 x3) = _
    rw [postbagref5_Words_0.c4]
    simp only [postbagref5_Words_0.g4 R c1 c2 κ f]
    rfl
theorem postbagref5_Words_0.run (R : Type) (κ : List SV → Option R) (a0 : ByteArray) :
    runF (postbagref5_Words_0.C R postbagref5_encoded_0 postbagref5_blank_0) Tryz.f18 10000 fuelK [.str a0] κ = postbagref5_Words_0 a0 (fun r0 => κ [.str r0]) := by
  rw [postbagref5_Words_0.c]
  simp only [postbagref5_Words_0.g4 R postbagref5_encoded_0 postbagref5_blank_0 κ fuelK]
  rfl
theorem postbagref5_Words_0.Γ_does {R : Type} (tab : Tab) (ht : TabOk tab) (g : Nat) : Does (R := R) Tryz.prog (tabTy tyL) tab g ((postbagref5_Words_0.C R postbagref5_encoded_0 postbagref5_blank_0).call g) := by
  refine does_of fun xs κ => ?_
  show DoesAt _ _ _ g xs κ (postbagref5_Words_0.Γ postbagref5_encoded_0 postbagref5_blank_0 g xs κ)
  unfold postbagref5_Words_0.Γ
  split
  · split
    · exact postbagref5_encoded_0.does tab ht _ κ
    · exact DoesAt.none
  · split
    · exact postbagref5_blank_0.does tab ht _ κ
    · exact DoesAt.none
  · exact DoesAt.none
theorem postbagref5_Words_0.does {R : Type} (tab : Tab) (ht : TabOk tab) (a0 : ByteArray) (κ : List SV → Option R) : DoesAt Tryz.prog (tabTy tyL) tab 18 [.str a0] κ (postbagref5_Words_0 a0 (fun r0 => κ [.str r0])) := by
  intro r h w vs Rt Ra bs hpre
  exact runF_sound tyOk (postbagref5_Words_0.Γ_does tab ht) (show Tryz.prog.funcs[18]? = some Tryz.f18 by kernel_rfl) (by kernel_rfl) ((postbagref5_Words_0.run R κ a0).trans h) hpre
def stringslite_HasPrefix_0.Γ {R : Type} (g : Nat) (xs : List SV) (κ : List SV → Option R) : Option R :=
  match g with
  | _ => none
def stringslite_HasPrefix_0.h (n : Nat) : Option (List (Nat × List (Nat × Nat))) :=
  match n with
  | _ => none
def stringslite_HasPrefix_0.C (R : Type) : Cfg R := ⟨tabTy tyL, stringslite_HasPrefix_0.Γ, fun _ => false, stringslite_HasPrefix_0.h⟩
theorem stringslite_HasPrefix_0.c (R : Type) (κ : List SV → Option R) (k : Nat) (a0 : ByteArray) (a1 : ByteArray) :
    runF (stringslite_HasPrefix_0.C R) Tryz.f129 10000 k [.str a0, .str a1] κ = stringslite_HasPrefix_0.e a0 a1 (fun r0 => κ [.bool r0]) := by kernel_rfl
theorem stringslite_HasPrefix_0.run (R : Type) (κ : List SV → Option R) (a0 : ByteArray) (a1 : ByteArray) :
    runF (stringslite_HasPrefix_0.C R) Tryz.f129 10000 fuelK [.str a0, .str a1] κ = stringslite_HasPrefix_0 a0 a1 (fun r0 => κ [.bool r0]) := by
  rw [stringslite_HasPrefix_0.c]
  rfl
theorem stringslite_HasPrefix_0.Γ_does {R : Type} (tab : Tab) (ht : TabOk tab) (g : Nat) : Does (R := R) Tryz.prog (tabTy tyL) tab g ((stringslite_HasPrefix_0.C R).call g) := by
  refine does_of fun xs κ => ?_
  show DoesAt _ _ _ g xs κ (stringslite_HasPrefix_0.Γ g xs κ)
  unfold stringslite_HasPrefix_0.Γ
  split
  · exact DoesAt.none
theorem stringslite_HasPrefix_0.does {R : Type} (tab : Tab) (ht : TabOk tab) (a0 : ByteArray) (a1 : ByteArray) (κ : List SV → Option R) : DoesAt Tryz.prog (tabTy tyL) tab 129 [.str a0, .str a1] κ (stringslite_HasPrefix_0 a0 a1 (fun r0 => κ [.bool r0])) := by
  intro r h w vs Rt Ra bs hpre
  exact runF_sound tyOk (stringslite_HasPrefix_0.Γ_does tab ht) (show Tryz.prog.funcs[129]? = some Tryz.f129 by kernel_rfl) (by kernel_rfl) ((stringslite_HasPrefix_0.run R κ a0 a1).trans h) hpre
def strings_HasPrefix_0.Γ {R : Type} (c1 : stringslite_HasPrefix_0.F R) (g : Nat) (xs : List SV) (κ : List SV → Option R) : Option R :=
  match g with
  | 129 => (match xs with
    | [.str a0, .str a1] => c1 a0 a1 (fun r0 => κ [.bool r0])
    | _ => none)
  | _ => none
def strings_HasPrefix_0.h (n : Nat) : Option (List (Nat × List (Nat × Nat))) :=
  match n with
  | _ => none
def strings_HasPrefix_0.C (R : Type) (c1 : stringslite_HasPrefix_0.F R) : Cfg R := ⟨tabTy tyL, strings_HasPrefix_0.Γ c1, fun _ => false, strings_HasPrefix_0.h⟩
theorem strings_HasPrefix_0.c (R : Type) (c1 : stringslite_HasPrefix_0.F R) (κ : List SV → Option R) (k : Nat) (a0 : ByteArray) (a1 : ByteArray) :
    runF (strings_HasPrefix_0.C R c1) Tryz.f84 10000 k [.str a0, .str a1] κ = strings_HasPrefix_0.e c1 a0 a1 (fun r0 => κ [.bool r0]) := by kernel_rfl
theorem strings_HasPrefix_0.run (R : Type) (κ : List SV → Option R) (a0 : ByteArray) (a1 : ByteArray) :
    runF (strings_HasPrefix_0.C R stringslite_HasPrefix_0) Tryz.f84 10000 fuelK [.str a0, .str a1] κ = strings_HasPrefix_0 a0 a1 (fun r0 => κ [.bool r0]) := by
  rw [strings_HasPrefix_0.c]
  rfl
theorem strings_HasPrefix_0.Γ_does {R : Type} (tab : Tab) (ht : TabOk tab) (g : Nat) : Does (R := R) Tryz.prog (tabTy tyL) tab g ((strings_HasPrefix_0.C R stringslite_HasPrefix_0).call g) := by
  refine does_of fun xs κ => ?_
  show DoesAt _ _ _ g xs κ (strings_HasPrefix_0.Γ stringslite_HasPrefix_0 g xs κ)
  unfold strings_HasPrefix_0.Γ
  split
  · split
    · exact stringslite_HasPrefix_0.does tab ht _ _ κ
    · exact DoesAt.none
  · exact DoesAt.none
theorem strings_HasPrefix_0.does {R : Type} (tab : Tab) (ht : TabOk tab) (a0 : ByteArray) (a1 : ByteArray) (κ : List SV → Option R) : DoesAt Tryz.prog (tabTy tyL) tab 84 [.str a0, .str a1] κ (strings_HasPrefix_0 a0 a1 (fun r0 => κ [.bool r0])) := by
  intro r h w vs Rt Ra bs hpre
  exact runF_sound tyOk (strings_HasPrefix_0.Γ_does tab ht) (show Tryz.prog.funcs[84]? = some Tryz.f84 by kernel_rfl) (by kernel_rfl) ((strings_HasPrefix_0.run R κ a0 a1).trans h) hpre
theorem stringslite_Index_0.does {R : Type} (tab : Tab) (ht : TabOk tab) (a0 a1 : ByteArray) (κ : List SV → Option R) : DoesAt Tryz.prog (tabTy tyL) tab 130 [.str a0, .str a1] κ (stringslite_Index_0 a0 a1 (fun r0 => κ [.int .i64 r0])) := by
  obtain ⟨m, cs, t, fz, ht, hm⟩ := ht
  exact chk_does fun h => strs2_does Tryz.call130 a0 a1 (.int .i64 _) (fun w hw => Any.stringslite_Index Tryz.lays219 a0 a1 m w (of_decide_eq_true h) (tab_cell hm (hw _ _ ht))) (fun c => res_int) κ
def strings_Index_0.Γ {R : Type} (c1 : stringslite_Index_0.F R) (g : Nat) (xs : List SV) (κ : List SV → Option R) : Option R :=
  match g with
  | 130 => (match xs with
    | [.str a0, .str a1] => c1 a0 a1 (fun r0 => κ [.int .i64 r0])
    | _ => none)
  | _ => none
def strings_Index_0.h (n : Nat) : Option (List (Nat × List (Nat × Nat))) :=
  match n with
  | _ => none
def strings_Index_0.C (R : Type) (c1 : stringslite_Index_0.F R) : Cfg R := ⟨tabTy tyL, strings_Index_0.Γ c1, fun _ => false, strings_Index_0.h⟩
theorem strings_Index_0.c (R : Type) (c1 : stringslite_Index_0.F R) (κ : List SV → Option R) (k : Nat) (a0 : ByteArray) (a1 : ByteArray) :
    runF (strings_Index_0.C R c1) Tryz.f85 10000 k [.str a0, .str a1] κ = strings_Index_0.e c1 a0 a1 (fun r0 => κ [.int .i64 r0]) := by kernel_rfl
theorem strings_Index_0.run (R : Type) (κ : List SV → Option R) (a0 : ByteArray) (a1 : ByteArray) :
    runF (strings_Index_0.C R stringslite_Index_0) Tryz.f85 10000 fuelK [.str a0, .str a1] κ = strings_Index_0 a0 a1 (fun r0 => κ [.int .i64 r0]) := by
  rw [strings_Index_0.c]
  rfl
theorem strings_Index_0.Γ_does {R : Type} (tab : Tab) (ht : TabOk tab) (g : Nat) : Does (R := R) Tryz.prog (tabTy tyL) tab g ((strings_Index_0.C R stringslite_Index_0).call g) := by
  refine does_of fun xs κ => ?_
  show DoesAt _ _ _ g xs κ (strings_Index_0.Γ stringslite_Index_0 g xs κ)
  unfold strings_Index_0.Γ
  split
  · split
    · exact stringslite_Index_0.does tab ht _ _ κ
    · exact DoesAt.none
  · exact DoesAt.none
theorem strings_Index_0.does {R : Type} (tab : Tab) (ht : TabOk tab) (a0 : ByteArray) (a1 : ByteArray) (κ : List SV → Option R) : DoesAt Tryz.prog (tabTy tyL) tab 85 [.str a0, .str a1] κ (strings_Index_0 a0 a1 (fun r0 => κ [.int .i64 r0])) := by
  intro r h w vs Rt Ra bs hpre
  exact runF_sound tyOk (strings_Index_0.Γ_does tab ht) (show Tryz.prog.funcs[85]? = some Tryz.f85 by kernel_rfl) (by kernel_rfl) ((strings_Index_0.run R κ a0 a1).trans h) hpre
def letter_Split_0.Γ {R : Type} (c1 : strings_HasPrefix_0.F R) (c2 : strings_Index_0.F R) (g : Nat) (xs : List SV) (κ : List SV → Option R) : Option R :=
  match g with
  | 84 => (match xs with
    | [.str a0, .str a1] => c1 a0 a1 (fun r0 => κ [.bool r0])
    | _ => none)
  | 85 => (match xs with
    | [.str a0, .str a1] => c2 a0 a1 (fun r0 => κ [.int .i64 r0])
    | _ => none)
  | _ => none
def letter_Split_0.h (n : Nat) : Option (List (Nat × List (Nat × Nat))) :=
  match n with
  | _ => none
def letter_Split_0.C (R : Type) (c1 : strings_HasPrefix_0.F R) (c2 : strings_Index_0.F R) : Cfg R := ⟨tabTy tyL, letter_Split_0.Γ c1 c2, fun _ => false, letter_Split_0.h⟩
theorem letter_Split_0.c (R : Type) (c1 : strings_HasPrefix_0.F R) (c2 : strings_Index_0.F R) (κ : List SV → Option R) (k : Nat) (a0 : ByteArray) :
    runF (letter_Split_0.C R c1 c2) Tryz.f44 10000 k [.str a0] κ = letter_Split_0.e c1 c2 a0 (fun r0 r1 => κ [.tup [.str r0, .str r1]]) := by kernel_rfl
theorem letter_Split_0.run (R : Type) (κ : List SV → Option R) (a0 : ByteArray) :
    runF (letter_Split_0.C R strings_HasPrefix_0 strings_Index_0) Tryz.f44 10000 fuelK [.str a0] κ = letter_Split_0 a0 (fun r0 r1 => κ [.tup [.str r0, .str r1]]) := by
  rw [letter_Split_0.c]
  rfl
theorem letter_Split_0.Γ_does {R : Type} (tab : Tab) (ht : TabOk tab) (g : Nat) : Does (R := R) Tryz.prog (tabTy tyL) tab g ((letter_Split_0.C R strings_HasPrefix_0 strings_Index_0).call g) := by
  refine does_of fun xs κ => ?_
  show DoesAt _ _ _ g xs κ (letter_Split_0.Γ strings_HasPrefix_0 strings_Index_0 g xs κ)
  unfold letter_Split_0.Γ
  split
  · split
    · exact strings_HasPrefix_0.does tab ht _ _ κ
    · exact DoesAt.none
  · split
    · exact strings_Index_0.does tab ht _ _ κ
    · exact DoesAt.none
  · exact DoesAt.none
theorem letter_Split_0.does {R : Type} (tab : Tab) (ht : TabOk tab) (a0 : ByteArray) (κ : List SV → Option R) : DoesAt Tryz.prog (tabTy tyL) tab 44 [.str a0] κ (letter_Split_0 a0 (fun r0 r1 => κ [.tup [.str r0, .str r1]])) := by
  intro r h w vs Rt Ra bs hpre
  exact runF_sound tyOk (letter_Split_0.Γ_does tab ht) (show Tryz.prog.funcs[44]? = some Tryz.f44 by kernel_rfl) (by kernel_rfl) ((letter_Split_0.run R κ a0).trans h) hpre
def letter_isBlank_0.Γ {R : Type} (g : Nat) (xs : List SV) (κ : List SV → Option R) : Option R :=
  match g with
  | _ => none
def letter_isBlank_0.h (n : Nat) : Option (List (Nat × List (Nat × Nat))) :=
  match n with
  | _ => none
def letter_isBlank_0.C (R : Type) : Cfg R := ⟨tabTy tyL, letter_isBlank_0.Γ, fun _ => false, letter_isBlank_0.h⟩
theorem letter_isBlank_0.c (R : Type) (κ : List SV → Option R) (k : Nat) (a0 : Int) :
    runF (letter_isBlank_0.C R) Tryz.f55 10000 k [.int .u8 a0] κ = letter_isBlank_0.e a0 (fun r0 => κ [.bool r0]) := by kernel_rfl
theorem letter_isBlank_0.run (R : Type) (κ : List SV → Option R) (a0 : Int) :
    runF (letter_isBlank_0.C R) Tryz.f55 10000 fuelK [.int .u8 a0] κ = letter_isBlank_0 a0 (fun r0 => κ [.bool r0]) := by
  rw [letter_isBlank_0.c]
  rfl
theorem letter_isBlank_0.Γ_does {R : Type} (tab : Tab) (ht : TabOk tab) (g : Nat) : Does (R := R) Tryz.prog (tabTy tyL) tab g ((letter_isBlank_0.C R).call g) := by
  refine does_of fun xs κ => ?_
  show DoesAt _ _ _ g xs κ (letter_isBlank_0.Γ g xs κ)
  unfold letter_isBlank_0.Γ
  split
  · exact DoesAt.none
theorem letter_isBlank_0.does {R : Type} (tab : Tab) (ht : TabOk tab) (a0 : Int) (κ : List SV → Option R) : DoesAt Tryz.prog (tabTy tyL) tab 55 [.int .u8 a0] κ (letter_isBlank_0 a0 (fun r0 => κ [.bool r0])) := by
  intro r h w vs Rt Ra bs hpre
  exact runF_sound tyOk (letter_isBlank_0.Γ_does tab ht) (show Tryz.prog.funcs[55]? = some Tryz.f55 by kernel_rfl) (by kernel_rfl) ((letter_isBlank_0.run R κ a0).trans h) hpre
def letter_begins_0.Γ {R : Type} (c1 : letter_isBlank_0.F R) (g : Nat) (xs : List SV) (κ : List SV → Option R) : Option R :=
  match g with
  | 55 => (match xs with
    | [.int .u8 a0] => c1 a0 (fun r0 => κ [.bool r0])
    | _ => none)
  | _ => none
def letter_begins_0.h (n : Nat) : Option (List (Nat × List (Nat × Nat))) :=
  match n with
  | 2 => some [(0, [(0, 0)]), (4, [(0, 0)])]
  | 5 => some [(0, [(0, 0)]), (4, [(0, 0)]), (5, [(0, 0)])]
  | _ => none
def letter_begins_0.C (R : Type) (c1 : letter_isBlank_0.F R) : Cfg R := ⟨tabTy tyL, letter_begins_0.Γ c1, fun _ => false, letter_begins_0.h⟩
def letter_begins_0.s2 (x0 : ByteArray) (x1 : Int) : St := ⟨mkS 60 [(0, .str x0), (4, .int .i64 x1)], [], top⟩
def letter_begins_0.s5 (x0 : ByteArray) (x1 : Int) (x2 : ByteArray) : St := ⟨mkS 60 [(0, .str x0), (4, .int .i64 x1), (5, .str x2)], [], top⟩
theorem letter_begins_0.c2 (R : Type) (c1 : letter_isBlank_0.F R) (J : List Item → St → Option R) (κ : List SV → Option R) (x0 : ByteArray) (x1 : Int) :
    start (letter_begins_0.C R c1) J (retK (letter_begins_0.C R c1) Tryz.f86.results.toList (List.range 0) κ) 10000 (placeOf Tryz.f86 2) (letter_begins_0.s2 x0 x1) = letter_begins_0.t2 c1 x0 x1 (fun y0 y1 => J (placeOf Tryz.f86 2) (letter_begins_0.s2 y0 y1)) (fun y0 y1 y2 => J (placeOf Tryz.f86 5) (letter_begins_0.s5 y0 y1 y2)) (fun r0 r1 => κ [.tup [.str r0, .bool r1]]) := by kernel_rfl
theorem letter_begins_0.c5 (R : Type) (c1 : letter_isBlank_0.F R) (J : List Item → St → Option R) (κ : List SV → Option R) (x0 : ByteArray) (x1 : Int) (x2 : ByteArray) :
    start (letter_begins_0.C R c1) J (retK (letter_begins_0.C R c1) Tryz.f86.results.toList (List.range 0) κ) 10000 (placeOf Tryz.f86 5) (letter_begins_0.s5 x0 x1 x2) = letter_begins_0.t5 c1 x0 x1 x2 (fun y0 y1 => J (placeOf Tryz.f86 2) (letter_begins_0.s2 y0 y1)) (fun y0 y1 y2 => J (placeOf Tryz.f86 5) (letter_begins_0.s5 y0 y1 y2)) (fun r0 r1 => κ [.tup [.str r0, .bool r1]]) := by kernel_rfl
theorem letter_begins_0.c (R : Type) (c1 : letter_isBlank_0.F R) (κ : List SV → Option R) (k : Nat) (a0 : ByteArray) :
    runF (letter_begins_0.C R c1) Tryz.f86 10000 k [.str a0] κ = letter_begins_0.e c1 a0 (fun y0 y1 => goto (letter_begins_0.C R c1) (retK (letter_begins_0.C R c1) Tryz.f86.results.toList (List.range 0) κ) 10000 k (placeOf Tryz.f86 2) (letter_begins_0.s2 y0 y1)) (fun y0 y1 y2 => goto (letter_begins_0.C R c1) (retK (letter_begins_0.C R c1) Tryz.f86.results.toList (List.range 0) κ) 10000 k (placeOf Tryz.f86 5) (letter_begins_0.s5 y0 y1 y2)) (fun r0 r1 => κ [.tup [.str r0, .bool r1]]) := by kernel_rfl
theorem letter_begins_0.g5 (R : Type) (c1 : letter_isBlank_0.F R) (κ : List SV → Option R) : ∀ (f : Nat) (x0 : ByteArray) (x1 : Int) (x2 : ByteArray), goto (letter_begins_0.C R c1) (retK (letter_begins_0.C R c1) Tryz.f86.results.toList (List.range 0) κ) 10000 f (placeOf Tryz.f86 5) (letter_begins_0.s5 x0 x1 x2) = letter_begins_0.L5 c1 (fun r0 r1 => κ [.tup [.str r0, .bool r1]]) f x0 x1 x2
  | 0, _, _, _ => rfl
  | f + 1, x0, x1, x2 => by
    show start (letter_begins_0.C R c1) (goto (letter_begins_0.C R c1) (retK (letter_begins_0.C R c1) Tryz.f86.results.toList (List.range 0) κ) 10000 f) (retK (letter_begins_0.C R c1) Tryz.f86.results.toList (List.range 0) κ) 10000 (placeOf Tryz.f86 5) (letter_begins_0.s5 x0 x1 x2) = _
    rw [letter_begins_0.c5]
    simp only [letter_begins_0.g5 R c1 κ f]
    rfl
theorem letter_begins_0.g2 (R : Type) (c1 : letter_isBlank_0.F R) (κ : List SV → Option R) : ∀ (f : Nat) (x0 : ByteArray) (x1 : Int), goto (letter_begins_0.C R c1) (retK (letter_begins_0.C R c1) Tryz.f86.results.toList (List.range 0) κ) 10000 f (placeOf Tryz.f86 2) (letter_begins_0.s2 x0 x1) = letter_begins_0.L2 c1 (fun r0 r1 => κ [.tup [.str r0, .bool r1]]) f x0 x1
  | 0, _, _ => rfl
  | f + 1, x0, x1 => by
    show start (letter_begins_0.C R c1) (goto (letter_begins_0.C R c1) (retK (letter_begins_0.C R c1) Tryz.f86.results.toList (List.range 0) κ) 10000 f) (retK (letter_begins_0.C R c1) Tryz.f86.results.toList (List.range 0) κ) 10000 (placeOf Tryz.f86 2) (letter_begins_0.s2 x0 x1) = _
    rw [letter_begins_0.c2]
    simp only [letter_begins_0.g2 R c1 κ f, letter_begins_0.g5 R c1 κ f]
    rfl
theorem letter_begins_0.run (R : Type) (κ : List SV → Option R) (a0 : ByteArray) :
    runF (letter_begins_0.C R letter_isBlank_0) Tryz.f86 10000 fuelK [.str a0] κ = letter_begins_0 a0 (fun r0 r1 => κ [.tup [.str r0, .bool r1]]) := by
  rw [letter_begins_0.c]
  simp only [letter_begins_0.g2 R letter_isBlank_0 κ fuelK, letter_begins_0.g5 R letter_isBlank_0 κ fuelK]
  rfl
theorem letter_begins_0.Γ_does {R : Type} (tab : Tab) (ht : TabOk tab) (g : Nat) : Does (R := R) Tryz.prog (tabTy tyL) tab g ((letter_begins_0.C R letter_isBlank_0).call g) := by
  refine does_of fun xs κ => ?_
  show DoesAt _ _ _ g xs κ (letter_begins_0.Γ letter_isBlank_0 g xs κ)
  unfold letter_begins_0.Γ
  split
  · split
    · exact letter_isBlank_0.does tab ht _ κ
    · exact DoesAt.none
  · exact DoesAt.none
theorem letter_begins_0.does {R : Type} (tab : Tab) (ht : TabOk tab) (a0 : ByteArray) (κ : List SV → Option R) : DoesAt Tryz.prog (tabTy tyL) tab 86 [.str a0] κ (letter_begins_0 a0 (fun r0 r1 => κ [.tup [.str r0, .bool r1]])) := by
  intro r h w vs Rt Ra bs hpre
  exact runF_sound tyOk (letter_begins_0.Γ_does tab ht) (show Tryz.prog.funcs[86]? = some Tryz.f86 by kernel_rfl) (by kernel_rfl) ((letter_begins_0.run R κ a0).trans h) hpre
def letter_rows_0.Γ {R : Type} (c1 : strings_HasPrefix_0.F R) (c2 : strings_Index_0.F R) (c3 : letter_isBlank_0.F R) (c4 : letter_begins_0.F R) (g : Nat) (xs : List SV) (κ : List SV → Option R) : Option R :=
  match g with
  | 55 => (match xs with
    | [.int .u8 a0] => c3 a0 (fun r0 => κ [.bool r0])
    | _ => none)
  | 84 => (match xs with
    | [.str a0, .str a1] => c1 a0 a1 (fun r0 => κ [.bool r0])
    | _ => none)
  | 85 => (match xs with
    | [.str a0, .str a1] => c2 a0 a1 (fun r0 => κ [.int .i64 r0])
    | _ => none)
  | 86 => (match xs with
    | [.str a0] => c4 a0 (fun r0 r1 => κ [.tup [.str r0, .bool r1]])
    | _ => none)
  | _ => none
def letter_rows_0.h (n : Nat) : Option (List (Nat × List (Nat × Nat))) :=
  match n with
  | 3 => some [(0, [(0, 0)]), (3, [(0, 67)]), (4, [(0, 0)]), (5, [(0, 0)])]
  | _ => none
def letter_rows_0.C (R : Type) (c1 : strings_HasPrefix_0.F R) (c2 : strings_Index_0.F R) (c3 : letter_isBlank_0.F R) (c4 : letter_begins_0.F R) : Cfg R := ⟨tabTy tyL, letter_rows_0.Γ c1 c2 c3 c4, fun _ => false, letter_rows_0.h⟩
def letter_rows_0.s3 (x0 : ByteArray) (x1 : Bool) (x2 : ByteArray) (x3 : List AV) : St := ⟨mkS 52 [(0, .str x0), (3, .own 256), (4, .bool x1), (5, .str x2)], [(256, .row 65 x3 true)], top⟩
theorem letter_rows_0.c3 (R : Type) (c1 : strings_HasPrefix_0.F R) (c2 : strings_Index_0.F R) (c3 : letter_isBlank_0.F R) (c4 : letter_begins_0.F R) (J : List Item → St → Option R) (κ : List SV → Option R) (x0 : ByteArray) (x1 : Bool) (x2 : ByteArray) (x3 : List AV) :
    start (letter_rows_0.C R c1 c2 c3 c4) J (retK (letter_rows_0.C R c1 c2 c3 c4) Tryz.f38.results.toList (List.range 0) κ) 10000 (placeOf Tryz.f38 3) (letter_rows_0.s3 x0 x1 x2 x3) = letter_rows_0.t3 c1 c2 c3 c4 x0 x1 x2 x3 (fun y0 y1 y2 y3 => J (placeOf Tryz.f38 3) (letter_rows_0.s3 y0 y1 y2 y3)) (fun r0 => κ [.fr 65 r0 true]) := by kernel_rfl
theorem letter_rows_0.c (R : Type) (c1 : strings_HasPrefix_0.F R) (c2 : strings_Index_0.F R) (c3 : letter_isBlank_0.F R) (c4 : letter_begins_0.F R) (κ : List SV → Option R) (k : Nat) (a0 : ByteArray) :
    runF (letter_rows_0.C R c1 c2 c3 c4) Tryz.f38 10000 k [.str a0] κ = letter_rows_0.e c1 c2 c3 c4 a0 (fun y0 y1 y2 y3 => goto (letter_rows_0.C R c1 c2 c3 c4) (retK (letter_rows_0.C R c1 c2 c3 c4) Tryz.f38.results.toList (List.range 0) κ) 10000 k (placeOf Tryz.f38 3) (letter_rows_0.s3 y0 y1 y2 y3)) (fun r0 => κ [.fr 65 r0 true]) := by kernel_rfl
theorem letter_rows_0.g3 (R : Type) (c1 : strings_HasPrefix_0.F R) (c2 : strings_Index_0.F R) (c3 : letter_isBlank_0.F R) (c4 : letter_begins_0.F R) (κ : List SV → Option R) : ∀ (f : Nat) (x0 : ByteArray) (x1 : Bool) (x2 : ByteArray) (x3 : List AV), goto (letter_rows_0.C R c1 c2 c3 c4) (retK (letter_rows_0.C R c1 c2 c3 c4) Tryz.f38.results.toList (List.range 0) κ) 10000 f (placeOf Tryz.f38 3) (letter_rows_0.s3 x0 x1 x2 x3) = letter_rows_0.L3 c1 c2 c3 c4 (fun r0 => κ [.fr 65 r0 true]) f x0 x1 x2 x3
  | 0, _, _, _, _ => rfl
  | f + 1, x0, x1, x2, x3 => by
    show start (letter_rows_0.C R c1 c2 c3 c4) (goto (letter_rows_0.C R c1 c2 c3 c4) (retK (letter_rows_0.C R c1 c2 c3 c4) Tryz.f38.results.toList (List.range 0) κ) 10000 f) (retK (letter_rows_0.C R c1 c2 c3 c4) Tryz.f38.results.toList (List.range 0) κ) 10000 (placeOf Tryz.f38 3) (letter_rows_0.s3 x0 x1 x2 x3) = _
    rw [letter_rows_0.c3]
    simp only [letter_rows_0.g3 R c1 c2 c3 c4 κ f]
    rfl
theorem letter_rows_0.run (R : Type) (κ : List SV → Option R) (a0 : ByteArray) :
    runF (letter_rows_0.C R strings_HasPrefix_0 strings_Index_0 letter_isBlank_0 letter_begins_0) Tryz.f38 10000 fuelK [.str a0] κ = letter_rows_0 a0 (fun r0 => κ [.fr 65 r0 true]) := by
  rw [letter_rows_0.c]
  simp only [letter_rows_0.g3 R strings_HasPrefix_0 strings_Index_0 letter_isBlank_0 letter_begins_0 κ fuelK]
  rfl
theorem letter_rows_0.Γ_does {R : Type} (tab : Tab) (ht : TabOk tab) (g : Nat) : Does (R := R) Tryz.prog (tabTy tyL) tab g ((letter_rows_0.C R strings_HasPrefix_0 strings_Index_0 letter_isBlank_0 letter_begins_0).call g) := by
  refine does_of fun xs κ => ?_
  show DoesAt _ _ _ g xs κ (letter_rows_0.Γ strings_HasPrefix_0 strings_Index_0 letter_isBlank_0 letter_begins_0 g xs κ)
  unfold letter_rows_0.Γ
  split
  · split
    · exact letter_isBlank_0.does tab ht _ κ
    · exact DoesAt.none
  · split
    · exact strings_HasPrefix_0.does tab ht _ _ κ
    · exact DoesAt.none
  · split
    · exact strings_Index_0.does tab ht _ _ κ
    · exact DoesAt.none
  · split
    · exact letter_begins_0.does tab ht _ κ
    · exact DoesAt.none
  · exact DoesAt.none
theorem letter_rows_0.does {R : Type} (tab : Tab) (ht : TabOk tab) (a0 : ByteArray) (κ : List SV → Option R) : DoesAt Tryz.prog (tabTy tyL) tab 38 [.str a0] κ (letter_rows_0 a0 (fun r0 => κ [.fr 65 r0 true])) := by
  intro r h w vs Rt Ra bs hpre
  exact runF_sound tyOk (letter_rows_0.Γ_does tab ht) (show Tryz.prog.funcs[38]? = some Tryz.f38 by kernel_rfl) (by kernel_rfl) ((letter_rows_0.run R κ a0).trans h) hpre
def stringslite_HasSuffix_0.Γ {R : Type} (g : Nat) (xs : List SV) (κ : List SV → Option R) : Option R :=
  match g with
  | _ => none
def stringslite_HasSuffix_0.h (n : Nat) : Option (List (Nat × List (Nat × Nat))) :=
  match n with
  | _ => none
def stringslite_HasSuffix_0.C (R : Type) : Cfg R := ⟨tabTy tyL, stringslite_HasSuffix_0.Γ, fun _ => false, stringslite_HasSuffix_0.h⟩
theorem stringslite_HasSuffix_0.c (R : Type) (κ : List SV → Option R) (k : Nat) (a0 : ByteArray) (a1 : ByteArray) :
    runF (stringslite_HasSuffix_0.C R) Tryz.f100 10000 k [.str a0, .str a1] κ = stringslite_HasSuffix_0.e a0 a1 (fun r0 => κ [.bool r0]) := by kernel_rfl
theorem stringslite_HasSuffix_0.run (R : Type) (κ : List SV → Option R) (a0 : ByteArray) (a1 : ByteArray) :
    runF (stringslite_HasSuffix_0.C R) Tryz.f100 10000 fuelK [.str a0, .str a1] κ = stringslite_HasSuffix_0 a0 a1 (fun r0 => κ [.bool r0]) := by
  rw [stringslite_HasSuffix_0.c]
  rfl
theorem stringslite_HasSuffix_0.Γ_does {R : Type} (tab : Tab) (ht : TabOk tab) (g : Nat) : Does (R := R) Tryz.prog (tabTy tyL) tab g ((stringslite_HasSuffix_0.C R).call g) := by
  refine does_of fun xs κ => ?_
  show DoesAt _ _ _ g xs κ (stringslite_HasSuffix_0.Γ g xs κ)
  unfold stringslite_HasSuffix_0.Γ
  split
  · exact DoesAt.none
theorem stringslite_HasSuffix_0.does {R : Type} (tab : Tab) (ht : TabOk tab) (a0 : ByteArray) (a1 : ByteArray) (κ : List SV → Option R) : DoesAt Tryz.prog (tabTy tyL) tab 100 [.str a0, .str a1] κ (stringslite_HasSuffix_0 a0 a1 (fun r0 => κ [.bool r0])) := by
  intro r h w vs Rt Ra bs hpre
  exact runF_sound tyOk (stringslite_HasSuffix_0.Γ_does tab ht) (show Tryz.prog.funcs[100]? = some Tryz.f100 by kernel_rfl) (by kernel_rfl) ((stringslite_HasSuffix_0.run R κ a0 a1).trans h) hpre
def stringslite_TrimSuffix_0.Γ {R : Type} (c1 : stringslite_HasSuffix_0.F R) (g : Nat) (xs : List SV) (κ : List SV → Option R) : Option R :=
  match g with
  | 100 => (match xs with
    | [.str a0, .str a1] => c1 a0 a1 (fun r0 => κ [.bool r0])
    | _ => none)
  | _ => none
def stringslite_TrimSuffix_0.h (n : Nat) : Option (List (Nat × List (Nat × Nat))) :=
  match n with
  | _ => none
def stringslite_TrimSuffix_0.C (R : Type) (c1 : stringslite_HasSuffix_0.F R) : Cfg R := ⟨tabTy tyL, stringslite_TrimSuffix_0.Γ c1, fun _ => false, stringslite_TrimSuffix_0.h⟩
theorem stringslite_TrimSuffix_0.c (R : Type) (c1 : stringslite_HasSuffix_0.F R) (κ : List SV → Option R) (k : Nat) (a0 : ByteArray) (a1 : ByteArray) :
    runF (stringslite_TrimSuffix_0.C R c1) Tryz.f87 10000 k [.str a0, .str a1] κ = stringslite_TrimSuffix_0.e c1 a0 a1 (fun r0 => κ [.str r0]) := by kernel_rfl
theorem stringslite_TrimSuffix_0.run (R : Type) (κ : List SV → Option R) (a0 : ByteArray) (a1 : ByteArray) :
    runF (stringslite_TrimSuffix_0.C R stringslite_HasSuffix_0) Tryz.f87 10000 fuelK [.str a0, .str a1] κ = stringslite_TrimSuffix_0 a0 a1 (fun r0 => κ [.str r0]) := by
  rw [stringslite_TrimSuffix_0.c]
  rfl
theorem stringslite_TrimSuffix_0.Γ_does {R : Type} (tab : Tab) (ht : TabOk tab) (g : Nat) : Does (R := R) Tryz.prog (tabTy tyL) tab g ((stringslite_TrimSuffix_0.C R stringslite_HasSuffix_0).call g) := by
  refine does_of fun xs κ => ?_
  show DoesAt _ _ _ g xs κ (stringslite_TrimSuffix_0.Γ stringslite_HasSuffix_0 g xs κ)
  unfold stringslite_TrimSuffix_0.Γ
  split
  · split
    · exact stringslite_HasSuffix_0.does tab ht _ _ κ
    · exact DoesAt.none
  · exact DoesAt.none
theorem stringslite_TrimSuffix_0.does {R : Type} (tab : Tab) (ht : TabOk tab) (a0 : ByteArray) (a1 : ByteArray) (κ : List SV → Option R) : DoesAt Tryz.prog (tabTy tyL) tab 87 [.str a0, .str a1] κ (stringslite_TrimSuffix_0 a0 a1 (fun r0 => κ [.str r0])) := by
  intro r h w vs Rt Ra bs hpre
  exact runF_sound tyOk (stringslite_TrimSuffix_0.Γ_does tab ht) (show Tryz.prog.funcs[87]? = some Tryz.f87 by kernel_rfl) (by kernel_rfl) ((stringslite_TrimSuffix_0.run R κ a0 a1).trans h) hpre
def strings_TrimSuffix_0.Γ {R : Type} (c1 : stringslite_TrimSuffix_0.F R) (g : Nat) (xs : List SV) (κ : List SV → Option R) : Option R :=
  match g with
  | 87 => (match xs with
    | [.str a0, .str a1] => c1 a0 a1 (fun r0 => κ [.str r0])
    | _ => none)
  | _ => none
def strings_TrimSuffix_0.h (n : Nat) : Option (List (Nat × List (Nat × Nat))) :=
  match n with
  | _ => none
def strings_TrimSuffix_0.C (R : Type) (c1 : stringslite_TrimSuffix_0.F R) : Cfg R := ⟨tabTy tyL, strings_TrimSuffix_0.Γ c1, fun _ => false, strings_TrimSuffix_0.h⟩
theorem strings_TrimSuffix_0.c (R : Type) (c1 : stringslite_TrimSuffix_0.F R) (κ : List SV → Option R) (k : Nat) (a0 : ByteArray) (a1 : ByteArray) :
    runF (strings_TrimSuffix_0.C R c1) Tryz.f39 10000 k [.str a0, .str a1] κ = strings_TrimSuffix_0.e c1 a0 a1 (fun r0 => κ [.str r0]) := by kernel_rfl
theorem strings_TrimSuffix_0.run (R : Type) (κ : List SV → Option R) (a0 : ByteArray) (a1 : ByteArray) :
    runF (strings_TrimSuffix_0.C R stringslite_TrimSuffix_0) Tryz.f39 10000 fuelK [.str a0, .str a1] κ = strings_TrimSuffix_0 a0 a1 (fun r0 => κ [.str r0]) := by
  rw [strings_TrimSuffix_0.c]
  rfl
theorem strings_TrimSuffix_0.Γ_does {R : Type} (tab : Tab) (ht : TabOk tab) (g : Nat) : Does (R := R) Tryz.prog (tabTy tyL) tab g ((strings_TrimSuffix_0.C R stringslite_TrimSuffix_0).call g) := by
  refine does_of fun xs κ => ?_
  show DoesAt _ _ _ g xs κ (strings_TrimSuffix_0.Γ stringslite_TrimSuffix_0 g xs κ)
  unfold strings_TrimSuffix_0.Γ
  split
  · split
    · exact stringslite_TrimSuffix_0.does tab ht _ _ κ
    · exact DoesAt.none
  · exact DoesAt.none
theorem strings_TrimSuffix_0.does {R : Type} (tab : Tab) (ht : TabOk tab) (a0 : ByteArray) (a1 : ByteArray) (κ : List SV → Option R) : DoesAt Tryz.prog (tabTy tyL) tab 39 [.str a0, .str a1] κ (strings_TrimSuffix_0 a0 a1 (fun r0 => κ [.str r0])) := by
  intro r h w vs Rt Ra bs hpre
  exact runF_sound tyOk (strings_TrimSuffix_0.Γ_does tab ht) (show Tryz.prog.funcs[39]? = some Tryz.f39 by kernel_rfl) (by kernel_rfl) ((strings_TrimSuffix_0.run R κ a0 a1).trans h) hpre
theorem bytealg_IndexByteString_0.does {R : Type} (tab : Tab) (ht : TabOk tab) (a0 : ByteArray) (a1 : Int) (κ : List SV → Option R) : DoesAt Tryz.prog (tabTy tyL) tab 131 [.str a0, .int .u8 a1] κ (bytealg_IndexByteString_0 a0 a1 (fun r0 => κ [.int .i64 r0])) :=
  indexByteString_does (show Tryz.prog.funcs[131]? = some Tryz.f131 by kernel_rfl) (by kernel_rfl) (by kernel_rfl) (by kernel_rfl) (by kernel_rfl) a0 a1 κ
def stringslite_IndexByte_0.Γ {R : Type} (c1 : bytealg_IndexByteString_0.F R) (g : Nat) (xs : List SV) (κ : List SV → Option R) : Option R :=
  match g with
  | 131 => (match xs with
    | [.str a0, .int .u8 a1] => c1 a0 a1 (fun r0 => κ [.int .i64 r0])
    | _ => none)
  | _ => none
def stringslite_IndexByte_0.h (n : Nat) : Option (List (Nat × List (Nat × Nat))) :=
  match n with
  | _ => none
def stringslite_IndexByte_0.C (R : Type) (c1 : bytealg_IndexByteString_0.F R) : Cfg R := ⟨tabTy tyL, stringslite_IndexByte_0.Γ c1, fun _ => false, stringslite_IndexByte_0.h⟩
theorem stringslite_IndexByte_0.c (R : Type) (c1 : bytealg_IndexByteString_0.F R) (κ : List SV → Option R) (k : Nat) (a0 : ByteArray) (a1 : Int) :
    runF (stringslite_IndexByte_0.C R c1) Tryz.f88 10000 k [.str a0, .int .u8 a1] κ = stringslite_IndexByte_0.e c1 a0 a1 (fun r0 => κ [.int .i64 r0]) := by kernel_rfl
theorem stringslite_IndexByte_0.run (R : Type) (κ : List SV → Option R) (a0 : ByteArray) (a1 : Int) :
    runF (stringslite_IndexByte_0.C R bytealg_IndexByteString_0) Tryz.f88 10000 fuelK [.str a0, .int .u8 a1] κ = stringslite_IndexByte_0 a0 a1 (fun r0 => κ [.int .i64 r0]) := by
  rw [stringslite_IndexByte_0.c]
  rfl
theorem stringslite_IndexByte_0.Γ_does {R : Type} (tab : Tab) (ht : TabOk tab) (g : Nat) : Does (R := R) Tryz.prog (tabTy tyL) tab g ((stringslite_IndexByte_0.C R bytealg_IndexByteString_0).call g) := by
  refine does_of fun xs κ => ?_
  show DoesAt _ _ _ g xs κ (stringslite_IndexByte_0.Γ bytealg_IndexByteString_0 g xs κ)
  unfold stringslite_IndexByte_0.Γ
  split
  · split
    · exact bytealg_IndexByteString_0.does tab ht _ _ κ
    · exact DoesAt.none
  · exact DoesAt.none
theorem stringslite_IndexByte_0.does {R : Type} (tab : Tab) (ht : TabOk tab) (a0 : ByteArray) (a1 : Int) (κ : List SV → Option R) : DoesAt Tryz.prog (tabTy tyL) tab 88 [.str a0, .int .u8 a1] κ (stringslite_IndexByte_0 a0 a1 (fun r0 => κ [.int .i64 r0])) := by
  intro r h w vs Rt Ra bs hpre
  exact runF_sound tyOk (stringslite_IndexByte_0.Γ_does tab ht) (show Tryz.prog.funcs[88]? = some Tryz.f88 by kernel_rfl) (by kernel_rfl) ((stringslite_IndexByte_0.run R κ a0 a1).trans h) hpre
def strings_IndexByte_0.Γ {R : Type} (c1 : stringslite_IndexByte_0.F R) (g : Nat) (xs : List SV) (κ : List SV → Option R) : Option R :=
  match g with
  | 88 => (match xs with
    | [.str a0, .int .u8 a1] => c1 a0 a1 (fun r0 => κ [.int .i64 r0])
    | _ => none)
  | _ => none
def strings_IndexByte_0.h (n : Nat) : Option (List (Nat × List (Nat × Nat))) :=
  match n with
  | _ => none
def strings_IndexByte_0.C (R : Type) (c1 : stringslite_IndexByte_0.F R) : Cfg R := ⟨tabTy tyL, strings_IndexByte_0.Γ c1, fun _ => false, strings_IndexByte_0.h⟩
theorem strings_IndexByte_0.c (R : Type) (c1 : stringslite_IndexByte_0.F R) (κ : List SV → Option R) (k : Nat) (a0 : ByteArray) (a1 : Int) :
    runF (strings_IndexByte_0.C R c1) Tryz.f40 10000 k [.str a0, .int .u8 a1] κ = strings_IndexByte_0.e c1 a0 a1 (fun r0 => κ [.int .i64 r0]) := by kernel_rfl
theorem strings_IndexByte_0.run (R : Type) (κ : List SV → Option R) (a0 : ByteArray) (a1 : Int) :
    runF (strings_IndexByte_0.C R stringslite_IndexByte_0) Tryz.f40 10000 fuelK [.str a0, .int .u8 a1] κ = strings_IndexByte_0 a0 a1 (fun r0 => κ [.int .i64 r0]) := by
  rw [strings_IndexByte_0.c]
  rfl
theorem strings_IndexByte_0.Γ_does {R : Type} (tab : Tab) (ht : TabOk tab) (g : Nat) : Does (R := R) Tryz.prog (tabTy tyL) tab g ((strings_IndexByte_0.C R stringslite_IndexByte_0).call g) := by
  refine does_of fun xs κ => ?_
  show DoesAt _ _ _ g xs κ (strings_IndexByte_0.Γ stringslite_IndexByte_0 g xs κ)
  unfold strings_IndexByte_0.Γ
  split
  · split
    · exact stringslite_IndexByte_0.does tab ht _ _ κ
    · exact DoesAt.none
  · exact DoesAt.none
theorem strings_IndexByte_0.does {R : Type} (tab : Tab) (ht : TabOk tab) (a0 : ByteArray) (a1 : Int) (κ : List SV → Option R) : DoesAt Tryz.prog (tabTy tyL) tab 40 [.str a0, .int .u8 a1] κ (strings_IndexByte_0 a0 a1 (fun r0 => κ [.int .i64 r0])) := by
  intro r h w vs Rt Ra bs hpre
  exact runF_sound tyOk (strings_IndexByte_0.Γ_does tab ht) (show Tryz.prog.funcs[40]? = some Tryz.f40 by kernel_rfl) (by kernel_rfl) ((strings_IndexByte_0.run R κ a0 a1).trans h) hpre
def strings_trimRightByte_0.Γ {R : Type} (g : Nat) (xs : List SV) (κ : List SV → Option R) : Option R :=
  match g with
  | _ => none
def strings_trimRightByte_0.h (n : Nat) : Option (List (Nat × List (Nat × Nat))) :=
  match n with
  | 1 => some [(0, [(0, 0)]), (1, [(0, 0)])]
  | _ => none
def strings_trimRightByte_0.C (R : Type) : Cfg R := ⟨tabTy tyL, strings_trimRightByte_0.Γ, fun _ => false, strings_trimRightByte_0.h⟩
def strings_trimRightByte_0.s1 (x0 : ByteArray) (x1 : Int) : St := ⟨mkS 23 [(0, .str x0), (1, .int .u8 x1)], [], top⟩
theorem strings_trimRightByte_0.c1 (R : Type) (J : List Item → St → Option R) (κ : List SV → Option R) (x0 : ByteArray) (x1 : Int) :
    start (strings_trimRightByte_0.C R) J (retK (strings_trimRightByte_0.C R) Tryz.f90.results.toList (List.range 0) κ) 10000 (placeOf Tryz.f90 1) (strings_trimRightByte_0.s1 x0 x1) = strings_trimRightByte_0.t1 x0 x1 (fun y0 y1 => J (placeOf Tryz.f90 1) (strings_trimRightByte_0.s1 y0 y1)) (fun r0 => κ [.str r0]) := by kernel_rfl
theorem strings_trimRightByte_0.c (R : Type) (κ : List SV → Option R) (k : Nat) (a0 : ByteArray) (a1 : Int) :
    runF (strings_trimRightByte_0.C R) Tryz.f90 10000 k [.str a0, .int .u8 a1] κ = strings_trimRightByte_0.e a0 a1 (fun y0 y1 => goto (strings_trimRightByte_0.C R) (retK (strings_trimRightByte_0.C R) Tryz.f90.results.toList (List.range 0) κ) 10000 k (placeOf Tryz.f90 1) (strings_trimRightByte_0.s1 y0 y1)) (fun r0 => κ [.str r0]) := by kernel_rfl
theorem strings_trimRightByte_0.g1 (R : Type) (κ : List SV → Option R) : ∀ (f : Nat) (x0 : ByteArray) (x1 : Int), goto (strings_trimRightByte_0.C R) (retK (strings_trimRightByte_0.C R) Tryz.f90.results.toList (List.range 0) κ) 10000 f (placeOf Tryz.f90 1) (strings_trimRightByte_0.s1 x0 x1) = strings_trimRightByte_0.L1 (fun r0 => κ [.str r0]) f x0 x1
  | 0, _, _ => rfl
  | f + 1, x0, x1 => by
    show start (strings_trimRightByte_0.C R) (goto (strings_trimRightByte_0.C R) (retK (strings_trimRightByte_0.C R) Tryz.f90.results.toList (List.range 0) κ) 10000 f) (retK (strings_trimRightByte_0.C R) Tryz.f90.results.toList (List.range 0) κ) 10000 (placeOf Tryz.f90 1) (strings_trimRightByte_0.s1 x0 x1) = _
    rw [strings_trimRightByte_0.c1]
    simp only [strings_trimRightByte_0.g1 R κ f]
    rfl
theorem strings_trimRightByte_0.run (R : Type) (κ : List SV → Option R) (a0 : ByteArray) (a1 : Int) :
    runF (strings_trimRightByte_0.C R) Tryz.f90 10000 fuelK [.str a0, .int .u8 a1] κ = strings_trimRightByte_0 a0 a1 (fun r0 => κ [.str r0]) := by
  rw [strings_trimRightByte_0.c]
  simp only [strings_trimRightByte_0.g1 R κ fuelK]
  rfl
theorem strings_trimRightByte_0.Γ_does {R : Type} (tab : Tab) (ht : TabOk tab) (g : Nat) : Does (R := R) Tryz.prog (tabTy tyL) tab g ((strings_trimRightByte_0.C R).call g) := by
  refine does_of fun xs κ => ?_
  show DoesAt _ _ _ g xs κ (strings_trimRightByte_0.Γ g xs κ)
  unfold strings_trimRightByte_0.Γ
  split
  · exact DoesAt.none
theorem strings_trimRightByte_0.does {R : Type} (tab : Tab) (ht : TabOk tab) (a0 : ByteArray) (a1 : Int) (κ : List SV → Option R) : DoesAt Tryz.prog (tabTy tyL) tab 90 [.str a0, .int .u8 a1] κ (strings_trimRightByte_0 a0 a1 (fun r0 => κ [.str r0])) := by
  intro r h w vs Rt Ra bs hpre
  exact runF_sound tyOk (strings_trimRightByte_0.Γ_does tab ht) (show Tryz.prog.funcs[90]? = some Tryz.f90 by kernel_rfl) (by kernel_rfl) ((strings_trimRightByte_0.run R κ a0 a1).trans h) hpre
def strings_trimLeftByte_0.Γ {R : Type} (g : Nat) (xs : List SV) (κ : List SV → Option R) : Option R :=
  match g with
  | _ => none
def strings_trimLeftByte_0.h (n : Nat) : Option (List (Nat × List (Nat × Nat))) :=
  match n with
  | 1 => some [(0, [(0, 0)]), (1, [(0, 0)])]
  | _ => none
def strings_trimLeftByte_0.C (R : Type) : Cfg R := ⟨tabTy tyL, strings_trimLeftByte_0.Γ, fun _ => false, strings_trimLeftByte_0.h⟩
def strings_trimLeftByte_0.s1 (x0 : ByteArray) (x1 : Int) : St := ⟨mkS 17 [(0, .str x0), (1, .int .u8 x1)], [], top⟩
theorem strings_trimLeftByte_0.c1 (R : Type) (J : List Item → St → Option R) (κ : List SV → Option R) (x0 : ByteArray) (x1 : Int) :
    start (strings_trimLeftByte_0.C R) J (retK (strings_trimLeftByte_0.C R) Tryz.f89.results.toList (List.range 0) κ) 10000 (placeOf Tryz.f89 1) (strings_trimLeftByte_0.s1 x0 x1) = strings_trimLeftByte_0.t1 x0 x1 (fun y0 y1 => J (placeOf Tryz.f89 1) (strings_trimLeftByte_0.s1 y0 y1)) (fun r0 => κ [.str r0]) := by kernel_rfl
theorem strings_trimLeftByte_0.c (R : Type) (κ : List SV → Option R) (k : Nat) (a0 : ByteArray) (a1 : Int) :
    runF (strings_trimLeftByte_0.C R) Tryz.f89 10000 k [.str a0, .int .u8 a1] κ = strings_trimLeftByte_0.e a0 a1 (fun y0 y1 => goto (strings_trimLeftByte_0.C R) (retK (strings_trimLeftByte_0.C R) Tryz.f89.results.toList (List.range 0) κ) 10000 k (placeOf Tryz.f89 1) (strings_trimLeftByte_0.s1 y0 y1)) (fun r0 => κ [.str r0]) := by kernel_rfl
theorem strings_trimLeftByte_0.g1 (R : Type) (κ : List SV → Option R) : ∀ (f : Nat) (x0 : ByteArray) (x1 : Int), goto (strings_trimLeftByte_0.C R) (retK (strings_trimLeftByte_0.C R) Tryz.f89.results.toList (List.range 0) κ) 10000 f (placeOf Tryz.f89 1) (strings_trimLeftByte_0.s1 x0 x1) = strings_trimLeftByte_0.L1 (fun r0 => κ [.str r0]) f x0 x1
  | 0, _, _ => rfl
  | f + 1, x0, x1 => by
    show start (strings_trimLeftByte_0.C R) (goto (strings_trimLeftByte_0.C R) (retK (strings_trimLeftByte_0.C R) Tryz.f89.results.toList (List.range 0) κ) 10000 f) (retK (strings_trimLeftByte_0.C R) Tryz.f89.results.toList (List.range 0) κ) 10000 (placeOf Tryz.f89 1) (strings_trimLeftByte_0.s1 x0 x1) = _
    rw [strings_trimLeftByte_0.c1]
    simp only [strings_trimLeftByte_0.g1 R κ f]
    rfl
theorem strings_trimLeftByte_0.run (R : Type) (κ : List SV → Option R) (a0 : ByteArray) (a1 : Int) :
    runF (strings_trimLeftByte_0.C R) Tryz.f89 10000 fuelK [.str a0, .int .u8 a1] κ = strings_trimLeftByte_0 a0 a1 (fun r0 => κ [.str r0]) := by
  rw [strings_trimLeftByte_0.c]
  simp only [strings_trimLeftByte_0.g1 R κ fuelK]
  rfl
theorem strings_trimLeftByte_0.Γ_does {R : Type} (tab : Tab) (ht : TabOk tab) (g : Nat) : Does (R := R) Tryz.prog (tabTy tyL) tab g ((strings_trimLeftByte_0.C R).call g) := by
  refine does_of fun xs κ => ?_
  show DoesAt _ _ _ g xs κ (strings_trimLeftByte_0.Γ g xs κ)
  unfold strings_trimLeftByte_0.Γ
  split
  · exact DoesAt.none
theorem strings_trimLeftByte_0.does {R : Type} (tab : Tab) (ht : TabOk tab) (a0 : ByteArray) (a1 : Int) (κ : List SV → Option R) : DoesAt Tryz.prog (tabTy tyL) tab 89 [.str a0, .int .u8 a1] κ (strings_trimLeftByte_0 a0 a1 (fun r0 => κ [.str r0])) := by
  intro r h w vs Rt Ra bs hpre
  exact runF_sound tyOk (strings_trimLeftByte_0.Γ_does tab ht) (show Tryz.prog.funcs[89]? = some Tryz.f89 by kernel_rfl) (by kernel_rfl) ((strings_trimLeftByte_0.run R κ a0 a1).trans h) hpre
def strings_makeASCIISet_0.Γ {R : Type} (g : Nat) (xs : List SV) (κ : List SV → Option R) : Option R :=
  match g with
  | _ => none
def strings_makeASCIISet_0.h (n : Nat) : Option (List (Nat × List (Nat × Nat))) :=
  match n with
  | 2 => some [(0, [(0, 0)]), (2, [(0, 0)]), (4, [(0, 0)])]
  | _ => none
def strings_makeASCIISet_0.C (R : Type) : Cfg R := ⟨tabTy tyL, strings_makeASCIISet_0.Γ, fun _ => false, strings_makeASCIISet_0.h⟩
def strings_makeASCIISet_0.s2 (x0 : ByteArray) (x1 : Int) (x2 : List AV) : St := ⟨mkS 21 [(0, .str x0), (2, .ap 192 256), (4, .int .i64 x1)], [(192, .row 4 x2 true)], top⟩
theorem strings_makeASCIISet_0.c2 (R : Type) (J : List Item → St → Option R) (κ : List SV → Option R) (x0 : ByteArray) (x1 : Int) (x2 : List AV) :
    start (strings_makeASCIISet_0.C R) J (retK (strings_makeASCIISet_0.C R) Tryz.f91.results.toList (List.range 0) κ) 10000 (placeOf Tryz.f91 2) (strings_makeASCIISet_0.s2 x0 x1 x2) = strings_makeASCIISet_0.t2 x0 x1 x2 (fun y0 y1 y2 => J (placeOf Tryz.f91 2) (strings_makeASCIISet_0.s2 y0 y1 y2)) (fun r0 r1 => κ [.tup [.ar 4 256 r0, .bool r1]]) := by kernel_rfl
theorem strings_makeASCIISet_0.c (R : Type) (κ : List SV → Option R) (k : Nat) (a0 : ByteArray) :
    runF (strings_makeASCIISet_0.C R) Tryz.f91 10000 k [.str a0] κ = strings_makeASCIISet_0.e a0 (fun y0 y1 y2 => goto (strings_makeASCIISet_0.C R) (retK (strings_makeASCIISet_0.C R) Tryz.f91.results.toList (List.range 0) κ) 10000 k (placeOf Tryz.f91 2) (strings_makeASCIISet_0.s2 y0 y1 y2)) (fun r0 r1 => κ [.tup [.ar 4 256 r0, .bool r1]]) := by kernel_rfl
theorem strings_makeASCIISet_0.g2 (R : Type) (κ : List SV → Option R) : ∀ (f : Nat) (x0 : ByteArray) (x1 : Int) (x2 : List AV), goto (strings_makeASCIISet_0.C R) (retK (strings_makeASCIISet_0.C R) Tryz.f91.results.toList (List.range 0) κ) 10000 f (placeOf Tryz.f91 2) (strings_makeASCIISet_0.s2 x0 x1 x2) = strings_makeASCIISet_0.L2 (fun r0 r1 => κ [.tup [.ar 4 256 r0, .bool r1]]) f x0 x1 x2
  | 0, _, _, _ => rfl
  | f + 1, x0, x1, x2 => by
    show start (strings_makeASCIISet_0.C R) (goto (strings_makeASCIISet_0.C R) (retK (strings_makeASCIISet_0.C R) Tryz.f91.results.toList (List.range 0) κ) 10000 f) (retK (strings_makeASCIISet_0.C R) Tryz.f91.results.toList (List.range 0) κ) 10000 (placeOf Tryz.f91 2) (strings_makeASCIISet_0.s2 x0 x1 x2) = _
    rw [strings_makeASCIISet_0.c2]
    simp only [strings_makeASCIISet_0.g2 R κ f]
    rfl
theorem strings_makeASCIISet_0.run (R : Type) (κ : List SV → Option R) (a0 : ByteArray) :
    runF (strings_makeASCIISet_0.C R) Tryz.f91 10000 fuelK [.str a0] κ = strings_makeASCIISet_0 a0 (fun r0 r1 => κ [.tup [.ar 4 256 r0, .bool r1]]) := by
  rw [strings_makeASCIISet_0.c]
  simp only [strings_makeASCIISet_0.g2 R κ fuelK]
  rfl
theorem strings_makeASCIISet_0.Γ_does {R : Type} (tab : Tab) (ht : TabOk tab) (g : Nat) : Does (R := R) Tryz.prog (tabTy tyL) tab g ((strings_makeASCIISet_0.C R).call g) := by
  refine does_of fun xs κ => ?_
  show DoesAt _ _ _ g xs κ (strings_makeASCIISet_0.Γ g xs κ)
  unfold strings_makeASCIISet_0.Γ
  split
  · exact DoesAt.none
theorem strings_makeASCIISet_0.does {R : Type} (tab : Tab) (ht : TabOk tab) (a0 : ByteArray) (κ : List SV → Option R) : DoesAt Tryz.prog (tabTy tyL) tab 91 [.str a0] κ (strings_makeASCIISet_0 a0 (fun r0 r1 => κ [.tup [.ar 4 256 r0, .bool r1]])) := by
  intro r h w vs Rt Ra bs hpre
  exact runF_sound tyOk (strings_makeASCIISet_0.Γ_does tab ht) (show Tryz.prog.funcs[91]? = some Tryz.f91 by kernel_rfl) (by kernel_rfl) ((strings_makeASCIISet_0.run R κ a0).trans h) hpre
def strings_asciiSet_contains_hi.Γ {R : Type} (g : Nat) (xs : List SV) (κ : List SV → Option R) : Option R :=
  match g with
  | _ => none
def strings_asciiSet_contains_hi.h (n : Nat) : Option (List (Nat × List (Nat × Nat))) :=
  match n with
  | _ => none
def strings_asciiSet_contains_hi.C (R : Type) : Cfg R := ⟨tabTy tyL, strings_asciiSet_contains_hi.Γ, fun _ => false, strings_asciiSet_contains_hi.h⟩
theorem strings_asciiSet_contains_hi.c (R : Type) (κ : List SV → Option R) (k : Nat) (a0 : List AV) (a1 : Int) :
    runF (strings_asciiSet_contains_hi.C R) Tryz.f132 10000 k [.ra 4 256 a0 true, .int .u8 a1] κ = strings_asciiSet_contains_hi.e a0 a1 (fun r0 => κ [.bool r0]) := by kernel_rfl
theorem strings_asciiSet_contains_hi.run (R : Type) (κ : List SV → Option R) (a0 : List AV) (a1 : Int) :
    runF (strings_asciiSet_contains_hi.C R) Tryz.f132 10000 fuelK [.ra 4 256 a0 true, .int .u8 a1] κ = strings_asciiSet_contains_hi a0 a1 (fun r0 => κ [.bool r0]) := by
  rw [strings_asciiSet_contains_hi.c]
  rfl
theorem strings_asciiSet_contains_hi.Γ_does {R : Type} (tab : Tab) (ht : TabOk tab) (g : Nat) : Does (R := R) Tryz.prog (tabTy tyL) tab g ((strings_asciiSet_contains_hi.C R).call g) := by
  refine does_of fun xs κ => ?_
  show DoesAt _ _ _ g xs κ (strings_asciiSet_contains_hi.Γ g xs κ)
  unfold strings_asciiSet_contains_hi.Γ
  split
  · exact DoesAt.none
theorem strings_asciiSet_contains_hi.does {R : Type} (tab : Tab) (ht : TabOk tab) (a0 : List AV) (a1 : Int) (κ : List SV → Option R) : DoesAt Tryz.prog (tabTy tyL) tab 132 [.ra 4 256 a0 true, .int .u8 a1] κ (strings_asciiSet_contains_hi a0 a1 (fun r0 => κ [.bool r0])) := by
  intro r h w vs Rt Ra bs hpre
  exact runF_sound tyOk (strings_asciiSet_contains_hi.Γ_does tab ht) (show Tryz.prog.funcs[132]? = some Tryz.f132 by kernel_rfl) (by kernel_rfl) ((strings_asciiSet_contains_hi.run R κ a0 a1).trans h) hpre
def strings_trimRightASCII_sh.Γ {R : Type} (c1 : strings_asciiSet_contains_hi.F R) (g : Nat) (xs : List SV) (κ : List SV → Option R) : Option R :=
  match g with
  | 132 => (match xs with
    | [.ra 4 256 a0 true, .int .u8 a1] => c1 a0 a1 (fun r0 => κ [.bool r0])
    | _ => none)
  | _ => none
def strings_trimRightASCII_sh.h (n : Nat) : Option (List (Nat × List (Nat × Nat))) :=
  match n with
  | 1 => some [(0, [(0, 0)]), (1, [(0, 0)])]
  | _ => none
def strings_trimRightASCII_sh.C (R : Type) (c1 : strings_asciiSet_contains_hi.F R) : Cfg R := ⟨tabTy tyL, strings_trimRightASCII_sh.Γ c1, fun g => Nat.beq g 132, strings_trimRightASCII_sh.h⟩
def strings_trimRightASCII_sh.s1 (x0 : ByteArray) (x1 : List AV) : St := ⟨mkS 22 [(0, .str x0), (1, .ra 4 256 x1 true)], [], top⟩
theorem strings_trimRightASCII_sh.c1 (R : Type) (c1 : strings_asciiSet_contains_hi.F R) (J : List Item → St → Option R) (κ : List SV → Option R) (x0 : ByteArray) (x1 : List AV) :
    start (strings_trimRightASCII_sh.C R c1) J (retK (strings_trimRightASCII_sh.C R c1) Tryz.f93.results.toList (List.range 0) κ) 10000 (placeOf Tryz.f93 1) (strings_trimRightASCII_sh.s1 x0 x1) = strings_trimRightASCII_sh.t1 c1 x0 x1 (fun y0 y1 => J (placeOf Tryz.f93 1) (strings_trimRightASCII_sh.s1 y0 y1)) (fun r0 => κ [.str r0]) := by kernel_rfl
theorem strings_trimRightASCII_sh.c (R : Type) (c1 : strings_asciiSet_contains_hi.F R) (κ : List SV → Option R) (k : Nat) (a0 : ByteArray) (a1 : List AV) :
    runF (strings_trimRightASCII_sh.C R c1) Tryz.f93 10000 k [.str a0, .ra 4 256 a1 true] κ = strings_trimRightASCII_sh.e c1 a0 a1 (fun y0 y1 => goto (strings_trimRightASCII_sh.C R c1) (retK (strings_trimRightASCII_sh.C R c1) Tryz.f93.results.toList (List.range 0) κ) 10000 k (placeOf Tryz.f93 1) (strings_trimRightASCII_sh.s1 y0 y1)) (fun r0 => κ [.str r0]) := by kernel_rfl
theorem strings_trimRightASCII_sh.g1 (R : Type) (c1 : strings_asciiSet_contains_hi.F R) (κ : List SV → Option R) : ∀ (f : Nat) (x0 : ByteArray) (x1 : List AV), goto (strings_trimRightASCII_sh.C R c1) (retK (strings_trimRightASCII_sh.C R c1) Tryz.f93.results.toList (List.range 0) κ) 10000 f (placeOf Tryz.f93 1) (strings_trimRightASCII_sh.s1 x0 x1) = strings_trimRightASCII_sh.L1 c1 (fun r0 => κ [.str r0]) f x0 x1
  | 0, _, _ => rfl
  | f + 1, x0, x1 => by
    show start (strings_trimRightASCII_sh.C R c1) (goto (strings_trimRightASCII_sh.C R c1) (retK (strings_trimRightASCII_sh.C R c1) Tryz.f93.results.toList (List.range 0) κ) 10000 f) (retK (strings_trimRightASCII_sh.C R c1) Tryz.f93.results.toList (List.range 0) κ) 10000 (placeOf Tryz.f93 1) (strings_trimRightASCII_sh.s1 x0 x1) = _
    rw [strings_trimRightASCII_sh.c1]
    simp only [strings_trimRightASCII_sh.g1 R c1 κ f]
    rfl
theorem strings_trimRightASCII_sh.run (R : Type) (κ : List SV → Option R) (a0 : ByteArray) (a1 : List AV) :
    runF (strings_trimRightASCII_sh.C R strings_asciiSet_contains_hi) Tryz.f93 10000 fuelK [.str a0, .ra 4 256 a1 true] κ = strings_trimRightASCII_sh a0 a1 (fun r0 => κ [.str r0]) := by
  rw [strings_trimRightASCII_sh.c]
  simp only [strings_trimRightASCII_sh.g1 R strings_asciiSet_contains_hi κ fuelK]
  rfl
theorem strings_trimRightASCII_sh.Γ_does {R : Type} (tab : Tab) (ht : TabOk tab) (g : Nat) : Does (R := R) Tryz.prog (tabTy tyL) tab g ((strings_trimRightASCII_sh.C R strings_asciiSet_contains_hi).call g) := by
  refine does_of fun xs κ => ?_
  show DoesAt _ _ _ g xs κ (strings_trimRightASCII_sh.Γ strings_asciiSet_contains_hi g xs κ)
  unfold strings_trimRightASCII_sh.Γ
  split
  · split
    · exact strings_asciiSet_contains_hi.does tab ht _ _ κ
    · exact DoesAt.none
  · exact DoesAt.none
theorem strings_trimRightASCII_sh.does {R : Type} (tab : Tab) (ht : TabOk tab) (a0 : ByteArray) (a1 : List AV) (κ : List SV → Option R) : DoesAt Tryz.prog (tabTy tyL) tab 93 [.str a0, .ra 4 256 a1 true] κ (strings_trimRightASCII_sh a0 a1 (fun r0 => κ [.str r0])) := by
  intro r h w vs Rt Ra bs hpre
  exact runF_sound tyOk (strings_trimRightASCII_sh.Γ_does tab ht) (show Tryz.prog.funcs[93]? = some Tryz.f93 by kernel_rfl) (by kernel_rfl) ((strings_trimRightASCII_sh.run R κ a0 a1).trans h) hpre
def strings_trimLeftASCII_sh.Γ {R : Type} (c1 : strings_asciiSet_contains_hi.F R) (g : Nat) (xs : List SV) (κ : List SV → Option R) : Option R :=
  match g with
  | 132 => (match xs with
    | [.ra 4 256 a0 true, .int .u8 a1] => c1 a0 a1 (fun r0 => κ [.bool r0])
    | _ => none)
  | _ => none
def strings_trimLeftASCII_sh.h (n : Nat) : Option (List (Nat × List (Nat × Nat))) :=
  match n with
  | 1 => some [(0, [(0, 0)]), (1, [(0, 0)])]
  | _ => none
def strings_trimLeftASCII_sh.C (R : Type) (c1 : strings_asciiSet_contains_hi.F R) : Cfg R := ⟨tabTy tyL, strings_trimLeftASCII_sh.Γ c1, fun g => Nat.beq g 132, strings_trimLeftASCII_sh.h⟩
def strings_trimLeftASCII_sh.s1 (x0 : ByteArray) (x1 : List AV) : St := ⟨mkS 16 [(0, .str x0), (1, .ra 4 256 x1 true)], [], top⟩
theorem strings_trimLeftASCII_sh.c1 (R : Type) (c1 : strings_asciiSet_contains_hi.F R) (J : List Item → St → Option R) (κ : List SV → Option R) (x0 : ByteArray) (x1 : List AV) :
    start (strings_trimLeftASCII_sh.C R c1) J (retK (strings_trimLeftASCII_sh.C R c1) Tryz.f92.results.toList (List.range 0) κ) 10000 (placeOf Tryz.f92 1) (strings_trimLeftASCII_sh.s1 x0 x1) = strings_trimLeftASCII_sh.t1 c1 x0 x1 (fun y0 y1 => J (placeOf Tryz.f92 1) (strings_trimLeftASCII_sh.s1 y0 y1)) (fun r0 => κ [.str r0]) := by kernel_rfl
theorem strings_trimLeftASCII_sh.c (R : Type) (c1 : strings_asciiSet_contains_hi.F R) (κ : List SV → Option R) (k : Nat) (a0 : ByteArray) (a1 : List AV) :
    runF (strings_trimLeftASCII_sh.C R c1) Tryz.f92 10000 k [.str a0, .ra 4 256 a1 true] κ = strings_trimLeftASCII_sh.e c1 a0 a1 (fun y0 y1 => goto (strings_trimLeftASCII_sh.C R c1) (retK (strings_trimLeftASCII_sh.C R c1) Tryz.f92.results.toList (List.range 0) κ) 10000 k (placeOf Tryz.f92 1) (strings_trimLeftASCII_sh.s1 y0 y1)) (fun r0 => κ [.str r0]) := by kernel_rfl
theorem strings_trimLeftASCII_sh.g1 (R : Type) (c1 : strings_asciiSet_contains_hi.F R) (κ : List SV → Option R) : ∀ (f : Nat) (x0 : ByteArray) (x1 : List AV), goto (strings_trimLeftASCII_sh.C R c1) (retK (strings_trimLeftASCII_sh.C R c1) Tryz.f92.results.toList (List.range 0) κ) 10000 f (placeOf Tryz.f92 1) (strings_trimLeftASCII_sh.s1 x0 x1) = strings_trimLeftASCII_sh.L1 c1 (fun r0 => κ [.str r0]) f x0 x1
  | 0, _, _ => rfl
  | f + 1, x0, x1 => by
    show start (strings_trimLeftASCII_sh.C R c1) (goto (strings_trimLeftASCII_sh.C R c1) (retK (strings_trimLeftASCII_sh.C R c1) Tryz.f92.results.toList (List.range 0) κ) 10000 f) (retK (strings_trimLeftASCII_sh.C R c1) Tryz.f92.results.toList (List.range 0) κ) 10000 (placeOf Tryz.f92 1) (strings_trimLeftASCII_sh.s1 x0 x1) = _
    rw [strings_trimLeftASCII_sh.c1]
    simp only [strings_trimLeftASCII_sh.g1 R c1 κ f]
    rfl
theorem strings_trimLeftASCII_sh.run (R : Type) (κ : List SV → Option R) (a0 : ByteArray) (a1 : List AV) :
    runF (strings_trimLeftASCII_sh.C R strings_asciiSet_contains_hi) Tryz.f92 10000 fuelK [.str a0, .ra 4 256 a1 true] κ = strings_trimLeftASCII_sh a0 a1 (fun r0 => κ [.str r0]) := by
  rw [strings_trimLeftASCII_sh.c]
  simp only [strings_trimLeftASCII_sh.g1 R strings_asciiSet_contains_hi κ fuelK]
  rfl
theorem strings_trimLeftASCII_sh.Γ_does {R : Type} (tab : Tab) (ht : TabOk tab) (g : Nat) : Does (R := R) Tryz.prog (tabTy tyL) tab g ((strings_trimLeftASCII_sh.C R strings_asciiSet_contains_hi).call g) := by
  refine does_of fun xs κ => ?_
  show DoesAt _ _ _ g xs κ (strings_trimLeftASCII_sh.Γ strings_asciiSet_contains_hi g xs κ)
  unfold strings_trimLeftASCII_sh.Γ
  split
  · split
    · exact strings_asciiSet_contains_hi.does tab ht _ _ κ
    · exact DoesAt.none
  · exact DoesAt.none
theorem strings_trimLeftASCII_sh.does {R : Type} (tab : Tab) (ht : TabOk tab) (a0 : ByteArray) (a1 : List AV) (κ : List SV → Option R) : DoesAt Tryz.prog (tabTy tyL) tab 92 [.str a0, .ra 4 256 a1 true] κ (strings_trimLeftASCII_sh a0 a1 (fun r0 => κ [.str r0])) := by
  intro r h w vs Rt Ra bs hpre
  exact runF_sound tyOk (strings_trimLeftASCII_sh.Γ_does tab ht) (show Tryz.prog.funcs[92]? = some Tryz.f92 by kernel_rfl) (by kernel_rfl) ((strings_trimLeftASCII_sh.run R κ a0 a1).trans h) hpre
def utf8_RuneStart_0.Γ {R : Type} (g : Nat) (xs : List SV) (κ : List SV → Option R) : Option R :=
  match g with
  | _ => none
def utf8_RuneStart_0.h (n : Nat) : Option (List (Nat × List (Nat × Nat))) :=
  match n with
  | _ => none
def utf8_RuneStart_0.C (R : Type) : Cfg R := ⟨tabTy tyL, utf8_RuneStart_0.Γ, fun _ => false, utf8_RuneStart_0.h⟩
theorem utf8_RuneStart_0.c (R : Type) (κ : List SV → Option R) (k : Nat) (a0 : Int) :
    runF (utf8_RuneStart_0.C R) Tryz.f156 10000 k [.int .u8 a0] κ = utf8_RuneStart_0.e a0 (fun r0 => κ [.bool r0]) := by kernel_rfl
theorem utf8_RuneStart_0.run (R : Type) (κ : List SV → Option R) (a0 : Int) :
    runF (utf8_RuneStart_0.C R) Tryz.f156 10000 fuelK [.int .u8 a0] κ = utf8_RuneStart_0 a0 (fun r0 => κ [.bool r0]) := by
  rw [utf8_RuneStart_0.c]
  rfl
theorem utf8_RuneStart_0.Γ_does {R : Type} (tab : Tab) (ht : TabOk tab) (g : Nat) : Does (R := R) Tryz.prog (tabTy tyL) tab g ((utf8_RuneStart_0.C R).call g) := by
  refine does_of fun xs κ => ?_
  show DoesAt _ _ _ g xs κ (utf8_RuneStart_0.Γ g xs κ)
  unfold utf8_RuneStart_0.Γ
  split
  · exact DoesAt.none
theorem utf8_RuneStart_0.does {R : Type} (tab : Tab) (ht : TabOk tab) (a0 : Int) (κ : List SV → Option R) : DoesAt Tryz.prog (tabTy tyL) tab 156 [.int .u8 a0] κ (utf8_RuneStart_0 a0 (fun r0 => κ [.bool r0])) := by
  intro r h w vs Rt Ra bs hpre
  exact runF_sound tyOk (utf8_RuneStart_0.Γ_does tab ht) (show Tryz.prog.funcs[156]? = some Tryz.f156 by kernel_rfl) (by kernel_rfl) ((utf8_RuneStart_0.run R κ a0).trans h) hpre
def strings_Trim_0.Γ {R : Type} (c1 : strings_trimRightByte_0.F R) (c2 : strings_trimLeftByte_0.F R) (c3 : strings_makeASCIISet_0.F R) (c4 : strings_trimRightASCII_sh.F R) (c5 : strings_trimLeftASCII_sh.F R) (g : Nat) (xs : List SV) (κ : List SV → Option R) : Option R :=
  match g with
  | 89 => (match xs with
    | [.str a0, .int .u8 a1] => c2 a0 a1 (fun r0 => κ [.str r0])
    | _ => none)
  | 90 => (match xs with
    | [.str a0, .int .u8 a1] => c1 a0 a1 (fun r0 => κ [.str r0])
    | _ => none)
  | 91 => (match xs with
    | [.str a0] => c3 a0 (fun r0 r1 => κ [.tup [.ar 4 256 r0, .bool r1]])
    | _ => none)
  | 92 => (match xs with
    | [.str a0, .ra 4 256 a1 true] => c5 a0 a1 (fun r0 => κ [.str r0])
    | _ => none)
  | 93 => (match xs with
    | [.str a0, .ra 4 256 a1 true] => c4 a0 a1 (fun r0 => κ [.str r0])
    | _ => none)
  | _ => none
def strings_Trim_0.h (n : Nat) : Option (List (Nat × List (Nat × Nat))) :=
  match n with
  | _ => none
def strings_Trim_0.C (R : Type) (c1 : strings_trimRightByte_0.F R) (c2 : strings_trimLeftByte_0.F R) (c3 : strings_makeASCIISet_0.F R) (c4 : strings_trimRightASCII_sh.F R) (c5 : strings_trimLeftASCII_sh.F R) : Cfg R := ⟨tabTy tyL, strings_Trim_0.Γ c1 c2 c3 c4 c5, fun g => Nat.beq g 92 || Nat.beq g 93, strings_Trim_0.h⟩
theorem strings_Trim_0.c (R : Type) (c1 : strings_trimRightByte_0.F R) (c2 : strings_trimLeftByte_0.F R) (c3 : strings_makeASCIISet_0.F R) (c4 : strings_trimRightASCII_sh.F R) (c5 : strings_trimLeftASCII_sh.F R) (κ : List SV → Option R) (k : Nat) (a0 : ByteArray) (a1 : ByteArray) :
    runF (strings_Trim_0.C R c1 c2 c3 c4 c5) Tryz.f41 10000 k [.str a0, .str a1] κ = strings_Trim_0.e c1 c2 c3 c4 c5 a0 a1 (fun r0 => κ [.str r0]) := by kernel_rfl
theorem strings_Trim_0.run (R : Type) (κ : List SV → Option R) (a0 : ByteArray) (a1 : ByteArray) :
    runF (strings_Trim_0.C R strings_trimRightByte_0 strings_trimLeftByte_0 strings_makeASCIISet_0 strings_trimRightASCII_sh strings_trimLeftASCII_sh) Tryz.f41 10000 fuelK [.str a0, .str a1] κ = strings_Trim_0 a0 a1 (fun r0 => κ [.str r0]) := by
  rw [strings_Trim_0.c]
  rfl
theorem strings_Trim_0.Γ_does {R : Type} (tab : Tab) (ht : TabOk tab) (g : Nat) : Does (R := R) Tryz.prog (tabTy tyL) tab g ((strings_Trim_0.C R strings_trimRightByte_0 strings_trimLeftByte_0 strings_makeASCIISet_0 strings_trimRightASCII_sh strings_trimLeftASCII_sh).call g) := by
  refine does_of fun xs κ => ?_
  show DoesAt _ _ _ g xs κ (strings_Trim_0.Γ strings_trimRightByte_0 strings_trimLeftByte_0 strings_makeASCIISet_0 strings_trimRightASCII_sh strings_trimLeftASCII_sh g xs κ)
  unfold strings_Trim_0.Γ
  split
  · split
    · exact strings_trimLeftByte_0.does tab ht _ _ κ
    · exact DoesAt.none
  · split
    · exact strings_trimRightByte_0.does tab ht _ _ κ
    · exact DoesAt.none
  · split
    · exact strings_makeASCIISet_0.does tab ht _ κ
    · exact DoesAt.none
  · split
    · exact strings_trimLeftASCII_sh.does tab ht _ _ κ
    · exact DoesAt.none
  · split
    · exact strings_trimRightASCII_sh.does tab ht _ _ κ
    · exact DoesAt.none
  · exact DoesAt.none
theorem strings_Trim_0.does {R : Type} (tab : Tab) (ht : TabOk tab) (a0 : ByteArray) (a1 : ByteArray) (κ : List SV → Option R) : DoesAt Tryz.prog (tabTy tyL) tab 41 [.str a0, .str a1] κ (strings_Trim_0 a0 a1 (fun r0 => κ [.str r0])) := by
  intro r h w vs Rt Ra bs hpre
  exact runF_sound tyOk (strings_Trim_0.Γ_does tab ht) (show Tryz.prog.funcs[41]? = some Tryz.f41 by kernel_rfl) (by kernel_rfl) ((strings_Trim_0.run R κ a0 a1).trans h) hpre
end Go.Proofs.Ab
