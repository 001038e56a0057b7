/- Each plain function is what a call of its Go function does, checked by the kernel (no condition but what its checks ask). -/
import Derived.Test.YtnipklplcipaiaaGreatDoorSeat
import Derived.Test.YtnipklplcipaiaaGreatDoorText
import Derived.Test.YtnipklplcipaiaaGreatDoorCheck1
/- Each typed text is what its function does: checked by the kernel. -/
namespace Go.Proofs.Ab
set_option linter.unusedVariables false
set_option maxRecDepth 4000
open Go Go.Proofs
set_option maxRecDepth 100000
def postbagref5_part_o.Γ {R : Type} (c1 : postbagref5_find_oi.F R) (g : Nat) (xs : List SV) (κ : List SV → Option R) : Option R :=
  match g with
  | 71 => (match xs with
    | [.ro 98 a0 false, .int .u8 a1] => c1 a0 a1 (fun r0 => κ [.int .i64 r0])
    | _ => none)
  | _ => none
def postbagref5_part_o.h (n : Nat) : Option (List (Nat × List (Nat × Nat))) :=
  match n with
  | 2 => some [(0, [(0, 0)]), (3, [(0, 0)])]
  | _ => none
def postbagref5_part_o.C (R : Type) (c1 : postbagref5_find_oi.F R) : Cfg R := ⟨tabTy tyL, postbagref5_part_o.Γ c1, fun _ => false, postbagref5_part_o.h⟩
def postbagref5_part_o.s2 (x0 : List AV) (x1 : Int) : St := ⟨mkS 30 [(0, .ro 98 x0 false), (3, .int .i64 x1)], [], top⟩
theorem postbagref5_part_o.c2 (R : Type) (c1 : postbagref5_find_oi.F R) (J : List Item → St → Option R) (κ : List SV → Option R) (x0 : List AV) (x1 : Int) :
    start (postbagref5_part_o.C R c1) J (retK (postbagref5_part_o.C R c1) Tryz.f63.results.toList (List.range 0) κ) 10000 (placeOf Tryz.f63 2) (postbagref5_part_o.s2 x0 x1) = postbagref5_part_o.t2 c1 x0 x1 (fun y0 y1 => J (placeOf Tryz.f63 2) (postbagref5_part_o.s2 y0 y1)) (fun r0 => κ [.int .i64 r0]) := by kernel_rfl
theorem postbagref5_part_o.c (R : Type) (c1 : postbagref5_find_oi.F R) (κ : List SV → Option R) (k : Nat) (a0 : List AV) :
    runF (postbagref5_part_o.C R c1) Tryz.f63 10000 k [.ro 98 a0 false] κ = postbagref5_part_o.e c1 a0 (fun y0 y1 => goto (postbagref5_part_o.C R c1) (retK (postbagref5_part_o.C R c1) Tryz.f63.results.toList (List.range 0) κ) 10000 k (placeOf Tryz.f63 2) (postbagref5_part_o.s2 y0 y1)) (fun r0 => κ [.int .i64 r0]) := by kernel_rfl
theorem postbagref5_part_o.g2 (R : Type) (c1 : postbagref5_find_oi.F R) (κ : List SV → Option R) : ∀ (f : Nat) (x0 : List AV) (x1 : Int), goto (postbagref5_part_o.C R c1) (retK (postbagref5_part_o.C R c1) Tryz.f63.results.toList (List.range 0) κ) 10000 f (placeOf Tryz.f63 2) (postbagref5_part_o.s2 x0 x1) = postbagref5_part_o.L2 c1 (fun r0 => κ [.int .i64 r0]) f x0 x1
  | 0, _, _ => rfl
  | f + 1, x0, x1 => by
    show start (postbagref5_part_o.C R c1) (goto (postbagref5_part_o.C R c1) (retK (postbagref5_part_o.C R c1) Tryz.f63.results.toList (List.range 0) κ) 10000 f) (retK (postbagref5_part_o.C R c1) Tryz.f63.results.toList (List.range 0) κ) 10000 (placeOf Tryz.f63 2) (postbagref5_part_o.s2 x0 x1) = _
    rw [postbagref5_part_o.c2]
    simp only [postbagref5_part_o.g2 R c1 κ f]
    rfl
theorem postbagref5_part_o.run (R : Type) (κ : List SV → Option R) (a0 : List AV) :
    runF (postbagref5_part_o.C R postbagref5_find_oi) Tryz.f63 10000 fuelK [.ro 98 a0 false] κ = postbagref5_part_o a0 (fun r0 => κ [.int .i64 r0]) := by
  rw [postbagref5_part_o.c]
  simp only [postbagref5_part_o.g2 R postbagref5_find_oi κ fuelK]
  rfl
theorem postbagref5_part_o.Γ_does {R : Type} (tab : Tab) (ht : TabOk tab) (g : Nat) : Does (R := R) Tryz.prog (tabTy tyL) tab g ((postbagref5_part_o.C R postbagref5_find_oi).call g) := by
  refine does_of fun xs κ => ?_
  show DoesAt _ _ _ g xs κ (postbagref5_part_o.Γ postbagref5_find_oi g xs κ)
  unfold postbagref5_part_o.Γ
  split
  · split
    · exact postbagref5_find_oi.does tab ht _ _ κ
    · exact DoesAt.none
  · exact DoesAt.none
theorem postbagref5_part_o.does {R : Type} (tab : Tab) (ht : TabOk tab) (a0 : List AV) (κ : List SV → Option R) : DoesAt Tryz.prog (tabTy tyL) tab 63 [.ro 98 a0 false] κ (postbagref5_part_o a0 (fun r0 => κ [.int .i64 r0])) := by
  intro r h w vs Rt Ra bs hpre
  exact runF_sound tyOk (postbagref5_part_o.Γ_does tab ht) (show Tryz.prog.funcs[63]? = some Tryz.f63 by kernel_rfl) (by kernel_rfl) ((postbagref5_part_o.run R κ a0).trans h) hpre
def postbagref5_text_o.Γ {R : Type} (g : Nat) (xs : List SV) (κ : List SV → Option R) : Option R :=
  match g with
  | _ => none
def postbagref5_text_o.h (n : Nat) : Option (List (Nat × List (Nat × Nat))) :=
  match n with
  | 5 => some [(0, [(0, 0)]), (3, [(0, 0)]), (4, [(0, 0)]), (5, [(0, 0)]), (6, [(0, 0)])]
  | _ => none
def postbagref5_text_o.C (R : Type) : Cfg R := ⟨tabTy tyL, postbagref5_text_o.Γ, fun _ => false, postbagref5_text_o.h⟩
def postbagref5_text_o.s5 (x0 : List AV) (x1 : ByteArray) (x2 : Bool) (x3 : Bool) (x4 : Int) : St := ⟨mkS 33 [(0, .ro 98 x0 false), (3, .str x1), (4, .bool x2), (5, .bool x3), (6, .int .i64 x4)], [], top⟩
theorem postbagref5_text_o.c5 (R : Type) (J : List Item → St → Option R) (κ : List SV → Option R) (x0 : List AV) (x1 : ByteArray) (x2 : Bool) (x3 : Bool) (x4 : Int) :
    start (postbagref5_text_o.C R) J (retK (postbagref5_text_o.C R) Tryz.f65.results.toList (List.range 0) κ) 10000 (placeOf Tryz.f65 5) (postbagref5_text_o.s5 x0 x1 x2 x3 x4) = postbagref5_text_o.t5 x0 x1 x2 x3 x4 (fun y0 y1 y2 y3 y4 => J (placeOf Tryz.f65 5) (postbagref5_text_o.s5 y0 y1 y2 y3 y4)) (fun r0 => κ [.str r0]) := by kernel_rfl
theorem postbagref5_text_o.c (R : Type) (κ : List SV → Option R) (k : Nat) (a0 : List AV) :
    runF (postbagref5_text_o.C R) Tryz.f65 10000 k [.ro 98 a0 false] κ = postbagref5_text_o.e a0 (fun y0 y1 y2 y3 y4 => goto (postbagref5_text_o.C R) (retK (postbagref5_text_o.C R) Tryz.f65.results.toList (List.range 0) κ) 10000 k (placeOf Tryz.f65 5) (postbagref5_text_o.s5 y0 y1 y2 y3 y4)) (fun r0 => κ [.str r0]) := by kernel_rfl
theorem postbagref5_text_o.g5 (R : Type) (κ : List SV → Option R) : ∀ (f : Nat) (x0 : List AV) (x1 : ByteArray) (x2 : Bool) (x3 : Bool) (x4 : Int), goto (postbagref5_text_o.C R) (retK (postbagref5_text_o.C R) Tryz.f65.results.toList (List.range 0) κ) 10000 f (placeOf Tryz.f65 5) (postbagref5_text_o.s5 x0 x1 x2 x3 x4) = postbagref5_text_o.L5 (fun r0 => κ [.str r0]) f x0 x1 x2 x3 x4
  | 0, _, _, _, _, _ => rfl
  | f + 1, x0, x1, x2, x3, x4 => by
    show start (postbagref5_text_o.C R) (goto (postbagref5_text_o.C R) (retK (postbagref5_text_o.C R) Tryz.f65.results.toList (List.range 0) κ) 10000 f) (retK (postbagref5_text_o.C R) Tryz.f65.results.toList (List.range 0) κ) 10000 (placeOf Tryz.f65 5) (postbagref5_text_o.s5 x0 x1 x2 x3 x4) = _
    rw [postbagref5_text_o.c5]
    simp only [postbagref5_text_o.g5 R κ f]
    rfl
theorem postbagref5_text_o.run (R : Type) (κ : List SV → Option R) (a0 : List AV) :
    runF (postbagref5_text_o.C R) Tryz.f65 10000 fuelK [.ro 98 a0 false] κ = postbagref5_text_o a0 (fun r0 => κ [.str r0]) := by
  rw [postbagref5_text_o.c]
  simp only [postbagref5_text_o.g5 R κ fuelK]
  rfl
theorem postbagref5_text_o.Γ_does {R : Type} (tab : Tab) (ht : TabOk tab) (g : Nat) : Does (R := R) Tryz.prog (tabTy tyL) tab g ((postbagref5_text_o.C R).call g) := by
  refine does_of fun xs κ => ?_
  show DoesAt _ _ _ g xs κ (postbagref5_text_o.Γ g xs κ)
  unfold postbagref5_text_o.Γ
  split
  · exact DoesAt.none
theorem postbagref5_text_o.does {R : Type} (tab : Tab) (ht : TabOk tab) (a0 : List AV) (κ : List SV → Option R) : DoesAt Tryz.prog (tabTy tyL) tab 65 [.ro 98 a0 false] κ (postbagref5_text_o a0 (fun r0 => κ [.str r0])) := by
  intro r h w vs Rt Ra bs hpre
  exact runF_sound tyOk (postbagref5_text_o.Γ_does tab ht) (show Tryz.prog.funcs[65]? = some Tryz.f65 by kernel_rfl) (by kernel_rfl) ((postbagref5_text_o.run R κ a0).trans h) hpre
def postbagref5_is_0.Γ {R : Type} (g : Nat) (xs : List SV) (κ : List SV → Option R) : Option R :=
  match g with
  | _ => none
def postbagref5_is_0.h (n : Nat) : Option (List (Nat × List (Nat × Nat))) :=
  match n with
  | _ => none
def postbagref5_is_0.C (R : Type) : Cfg R := ⟨tabTy tyL, postbagref5_is_0.Γ, fun _ => false, postbagref5_is_0.h⟩
theorem postbagref5_is_0.c (R : Type) (κ : List SV → Option R) (k : Nat) (a0 : ByteArray) :
    runF (postbagref5_is_0.C R) Tryz.f64 10000 k [.str a0] κ = postbagref5_is_0.e a0 (fun r0 r1 => κ [.agg [.bool r0, .str r1]]) := by kernel_rfl
theorem postbagref5_is_0.run (R : Type) (κ : List SV → Option R) (a0 : ByteArray) :
    runF (postbagref5_is_0.C R) Tryz.f64 10000 fuelK [.str a0] κ = postbagref5_is_0 a0 (fun r0 r1 => κ [.agg [.bool r0, .str r1]]) := by
  rw [postbagref5_is_0.c]
  rfl
theorem postbagref5_is_0.Γ_does {R : Type} (tab : Tab) (ht : TabOk tab) (g : Nat) : Does (R := R) Tryz.prog (tabTy tyL) tab g ((postbagref5_is_0.C R).call g) := by
  refine does_of fun xs κ => ?_
  show DoesAt _ _ _ g xs κ (postbagref5_is_0.Γ g xs κ)
  unfold postbagref5_is_0.Γ
  split
  · exact DoesAt.none
theorem postbagref5_is_0.does {R : Type} (tab : Tab) (ht : TabOk tab) (a0 : ByteArray) (κ : List SV → Option R) : DoesAt Tryz.prog (tabTy tyL) tab 64 [.str a0] κ (postbagref5_is_0 a0 (fun r0 r1 => κ [.agg [.bool r0, .str r1]])) := by
  intro r h w vs Rt Ra bs hpre
  exact runF_sound tyOk (postbagref5_is_0.Γ_does tab ht) (show Tryz.prog.funcs[64]? = some Tryz.f64 by kernel_rfl) (by kernel_rfl) ((postbagref5_is_0.run R κ a0).trans h) hpre
def postbagref5_find_0.Γ {R : Type} (g : Nat) (xs : List SV) (κ : List SV → Option R) : Option R :=
  match g with
  | _ => none
def postbagref5_find_0.h (n : Nat) : Option (List (Nat × List (Nat × Nat))) :=
  match n with
  | 2 => some [(0, [(0, 0)]), (1, [(0, 0)]), (5, [(0, 0)])]
  | _ => none
def postbagref5_find_0.C (R : Type) : Cfg R := ⟨tabTy tyL, postbagref5_find_0.Γ, fun _ => false, postbagref5_find_0.h⟩
def postbagref5_find_0.s2 (x0 : List AV) (x1 : Int) (x2 : Int) : St := ⟨mkS 22 [(0, .ro 98 x0 true), (1, .int .u8 x1), (5, .int .i64 x2)], [], top⟩
theorem postbagref5_find_0.c2 (R : Type) (J : List Item → St → Option R) (κ : List SV → Option R) (x0 : List AV) (x1 : Int) (x2 : Int) :
    start (postbagref5_find_0.C R) J (retK (postbagref5_find_0.C R) Tryz.f71.results.toList (List.range 0) κ) 10000 (placeOf Tryz.f71 2) (postbagref5_find_0.s2 x0 x1 x2) = postbagref5_find_0.t2 x0 x1 x2 (fun y0 y1 y2 => J (placeOf Tryz.f71 2) (postbagref5_find_0.s2 y0 y1 y2)) (fun r0 => κ [.int .i64 r0]) := by kernel_rfl
theorem postbagref5_find_0.c (R : Type) (κ : List SV → Option R) (k : Nat) (a0 : List AV) (a1 : Int) :
    runF (postbagref5_find_0.C R) Tryz.f71 10000 k [.ro 98 a0 true, .int .u8 a1] κ = postbagref5_find_0.e a0 a1 (fun y0 y1 y2 => goto (postbagref5_find_0.C R) (retK (postbagref5_find_0.C R) Tryz.f71.results.toList (List.range 0) κ) 10000 k (placeOf Tryz.f71 2) (postbagref5_find_0.s2 y0 y1 y2)) (fun r0 => κ [.int .i64 r0]) := by kernel_rfl
theorem postbagref5_find_0.g2 (R : Type) (κ : List SV → Option R) : ∀ (f : Nat) (x0 : List AV) (x1 : Int) (x2 : Int), goto (postbagref5_find_0.C R) (retK (postbagref5_find_0.C R) Tryz.f71.results.toList (List.range 0) κ) 10000 f (placeOf Tryz.f71 2) (postbagref5_find_0.s2 x0 x1 x2) = postbagref5_find_0.L2 (fun r0 => κ [.int .i64 r0]) f x0 x1 x2
  | 0, _, _, _ => rfl
  | f + 1, x0, x1, x2 => by
    show start (postbagref5_find_0.C R) (goto (postbagref5_find_0.C R) (retK (postbagref5_find_0.C R) Tryz.f71.results.toList (List.range 0) κ) 10000 f) (retK (postbagref5_find_0.C R) Tryz.f71.results.toList (List.range 0) κ) 10000 (placeOf Tryz.f71 2) (postbagref5_find_0.s2 x0 x1 x2) = _
    rw [postbagref5_find_0.c2]
    simp only [postbagref5_find_0.g2 R κ f]
    rfl
theorem postbagref5_find_0.run (R : Type) (κ : List SV → Option R) (a0 : List AV) (a1 : Int) :
    runF (postbagref5_find_0.C R) Tryz.f71 10000 fuelK [.ro 98 a0 true, .int .u8 a1] κ = postbagref5_find_0 a0 a1 (fun r0 => κ [.int .i64 r0]) := by
  rw [postbagref5_find_0.c]
  simp only [postbagref5_find_0.g2 R κ fuelK]
  rfl
theorem postbagref5_find_0.Γ_does {R : Type} (tab : Tab) (ht : TabOk tab) (g : Nat) : Does (R := R) Tryz.prog (tabTy tyL) tab g ((postbagref5_find_0.C R).call g) := by
  refine does_of fun xs κ => ?_
  show DoesAt _ _ _ g xs κ (postbagref5_find_0.Γ g xs κ)
  unfold postbagref5_find_0.Γ
  split
  · exact DoesAt.none
theorem postbagref5_find_0.does {R : Type} (tab : Tab) (ht : TabOk tab) (a0 : List AV) (a1 : Int) (κ : List SV → Option R) : DoesAt Tryz.prog (tabTy tyL) tab 71 [.ro 98 a0 true, .int .u8 a1] κ (postbagref5_find_0 a0 a1 (fun r0 => κ [.int .i64 r0])) := by
  intro r h w vs Rt Ra bs hpre
  exact runF_sound tyOk (postbagref5_find_0.Γ_does tab ht) (show Tryz.prog.funcs[71]? = some Tryz.f71 by kernel_rfl) (by kernel_rfl) ((postbagref5_find_0.run R κ a0 a1).trans h) hpre
def postbagref5_part_0.Γ {R : Type} (c1 : postbagref5_find_0.F R) (g : Nat) (xs : List SV) (κ : List SV → Option R) : Option R :=
  match g with
  | 71 => (match xs with
    | [.ro 98 a0 true, .int .u8 a1] => c1 a0 a1 (fun r0 => κ [.int .i64 r0])
    | _ => none)
  | _ => none
def postbagref5_part_0.h (n : Nat) : Option (List (Nat × List (Nat × Nat))) :=
  match n with
  | 2 => some [(0, [(0, 0)]), (3, [(0, 0)])]
  | _ => none
def postbagref5_part_0.C (R : Type) (c1 : postbagref5_find_0.F R) : Cfg R := ⟨tabTy tyL, postbagref5_part_0.Γ c1, fun _ => false, postbagref5_part_0.h⟩
def postbagref5_part_0.s2 (x0 : List AV) (x1 : Int) : St := ⟨mkS 30 [(0, .ro 98 x0 true), (3, .int .i64 x1)], [], top⟩
theorem postbagref5_part_0.c2 (R : Type) (c1 : postbagref5_find_0.F R) (J : List Item → St → Option R) (κ : List SV → Option R) (x0 : List AV) (x1 : Int) :
    start (postbagref5_part_0.C R c1) J (retK (postbagref5_part_0.C R c1) Tryz.f63.results.toList (List.range 0) κ) 10000 (placeOf Tryz.f63 2) (postbagref5_part_0.s2 x0 x1) = postbagref5_part_0.t2 c1 x0 x1 (fun y0 y1 => J (placeOf Tryz.f63 2) (postbagref5_part_0.s2 y0 y1)) (fun r0 => κ [.int .i64 r0]) := by kernel_rfl
theorem postbagref5_part_0.c (R : Type) (c1 : postbagref5_find_0.F R) (κ : List SV → Option R) (k : Nat) (a0 : List AV) :
    runF (postbagref5_part_0.C R c1) Tryz.f63 10000 k [.ro 98 a0 true] κ = postbagref5_part_0.e c1 a0 (fun y0 y1 => goto (postbagref5_part_0.C R c1) (retK (postbagref5_part_0.C R c1) Tryz.f63.results.toList (List.range 0) κ) 10000 k (placeOf Tryz.f63 2) (postbagref5_part_0.s2 y0 y1)) (fun r0 => κ [.int .i64 r0]) := by kernel_rfl
theorem postbagref5_part_0.g2 (R : Type) (c1 : postbagref5_find_0.F R) (κ : List SV → Option R) : ∀ (f : Nat) (x0 : List AV) (x1 : Int), goto (postbagref5_part_0.C R c1) (retK (postbagref5_part_0.C R c1) Tryz.f63.results.toList (List.range 0) κ) 10000 f (placeOf Tryz.f63 2) (postbagref5_part_0.s2 x0 x1) = postbagref5_part_0.L2 c1 (fun r0 => κ [.int .i64 r0]) f x0 x1
  | 0, _, _ => rfl
  | f + 1, x0, x1 => by
    show start (postbagref5_part_0.C R c1) (goto (postbagref5_part_0.C R c1) (retK (postbagref5_part_0.C R c1) Tryz.f63.results.toList (List.range 0) κ) 10000 f) (retK (postbagref5_part_0.C R c1) Tryz.f63.results.toList (List.range 0) κ) 10000 (placeOf Tryz.f63 2) (postbagref5_part_0.s2 x0 x1) = _
    rw [postbagref5_part_0.c2]
    simp only [postbagref5_part_0.g2 R c1 κ f]
    rfl
theorem postbagref5_part_0.run (R : Type) (κ : List SV → Option R) (a0 : List AV) :
    runF (postbagref5_part_0.C R postbagref5_find_0) Tryz.f63 10000 fuelK [.ro 98 a0 true] κ = postbagref5_part_0 a0 (fun r0 => κ [.int .i64 r0]) := by
  rw [postbagref5_part_0.c]
  simp only [postbagref5_part_0.g2 R postbagref5_find_0 κ fuelK]
  rfl
theorem postbagref5_part_0.Γ_does {R : Type} (tab : Tab) (ht : TabOk tab) (g : Nat) : Does (R := R) Tryz.prog (tabTy tyL) tab g ((postbagref5_part_0.C R postbagref5_find_0).call g) := by
  refine does_of fun xs κ => ?_
  show DoesAt _ _ _ g xs κ (postbagref5_part_0.Γ postbagref5_find_0 g xs κ)
  unfold postbagref5_part_0.Γ
  split
  · split
    · exact postbagref5_find_0.does tab ht _ _ κ
    · exact DoesAt.none
  · exact DoesAt.none
theorem postbagref5_part_0.does {R : Type} (tab : Tab) (ht : TabOk tab) (a0 : List AV) (κ : List SV → Option R) : DoesAt Tryz.prog (tabTy tyL) tab 63 [.ro 98 a0 true] κ (postbagref5_part_0 a0 (fun r0 => κ [.int .i64 r0])) := by
  intro r h w vs Rt Ra bs hpre
  exact runF_sound tyOk (postbagref5_part_0.Γ_does tab ht) (show Tryz.prog.funcs[63]? = some Tryz.f63 by kernel_rfl) (by kernel_rfl) ((postbagref5_part_0.run R κ a0).trans h) hpre
def postbagref5_text_0.Γ {R : Type} (g : Nat) (xs : List SV) (κ : List SV → Option R) : Option R :=
  match g with
  | _ => none
def postbagref5_text_0.h (n : Nat) : Option (List (Nat × List (Nat × Nat))) :=
  match n with
  | 5 => some [(0, [(0, 0)]), (3, [(0, 0)]), (4, [(0, 0)]), (5, [(0, 0)]), (6, [(0, 0)])]
  | _ => none
def postbagref5_text_0.C (R : Type) : Cfg R := ⟨tabTy tyL, postbagref5_text_0.Γ, fun _ => false, postbagref5_text_0.h⟩
def postbagref5_text_0.s5 (x0 : List AV) (x1 : ByteArray) (x2 : Bool) (x3 : Bool) (x4 : Int) : St := ⟨mkS 33 [(0, .ro 98 x0 true), (3, .str x1), (4, .bool x2), (5, .bool x3), (6, .int .i64 x4)], [], top⟩
theorem postbagref5_text_0.c5 (R : Type) (J : List Item → St → Option R) (κ : List SV → Option R) (x0 : List AV) (x1 : ByteArray) (x2 : Bool) (x3 : Bool) (x4 : Int) :
    start (postbagref5_text_0.C R) J (retK (postbagref5_text_0.C R) Tryz.f65.results.toList (List.range 0) κ) 10000 (placeOf Tryz.f65 5) (postbagref5_text_0.s5 x0 x1 x2 x3 x4) = postbagref5_text_0.t5 x0 x1 x2 x3 x4 (fun y0 y1 y2 y3 y4 => J (placeOf Tryz.f65 5) (postbagref5_text_0.s5 y0 y1 y2 y3 y4)) (fun r0 => κ [.str r0]) := by kernel_rfl
theorem postbagref5_text_0.c (R : Type) (κ : List SV → Option R) (k : Nat) (a0 : List AV) :
    runF (postbagref5_text_0.C R) Tryz.f65 10000 k [.ro 98 a0 true] κ = postbagref5_text_0.e a0 (fun y0 y1 y2 y3 y4 => goto (postbagref5_text_0.C R) (retK (postbagref5_text_0.C R) Tryz.f65.results.toList (List.range 0) κ) 10000 k (placeOf Tryz.f65 5) (postbagref5_text_0.s5 y0 y1 y2 y3 y4)) (fun r0 => κ [.str r0]) := by kernel_rfl
theorem postbagref5_text_0.g5 (R : Type) (κ : List SV → Option R) : ∀ (f : Nat) (x0 : List AV) (x1 : ByteArray) (x2 : Bool) (x3 : Bool) (x4 : Int), goto (postbagref5_text_0.C R) (retK (postbagref5_text_0.C R) Tryz.f65.results.toList (List.range 0) κ) 10000 f (placeOf Tryz.f65 5) (postbagref5_text_0.s5 x0 x1 x2 x3 x4) = postbagref5_text_0.L5 (fun r0 => κ [.str r0]) f x0 x1 x2 x3 x4
  | 0, _, _, _, _, _ => rfl
  | f + 1, x0, x1, x2, x3, x4 => by
    show start (postbagref5_text_0.C R) (goto (postbagref5_text_0.C R) (retK (postbagref5_text_0.C R) Tryz.f65.results.toList (List.range 0) κ) 10000 f) (retK (postbagref5_text_0.C R) Tryz.f65.results.toList (List.range 0) κ) 10000 (placeOf Tryz.f65 5) (postbagref5_text_0.s5 x0 x1 x2 x3 x4) = _
    rw [postbagref5_text_0.c5]
    simp only [postbagref5_text_0.g5 R κ f]
    rfl
theorem postbagref5_text_0.run (R : Type) (κ : List SV → Option R) (a0 : List AV) :
    runF (postbagref5_text_0.C R) Tryz.f65 10000 fuelK [.ro 98 a0 true] κ = postbagref5_text_0 a0 (fun r0 => κ [.str r0]) := by
  rw [postbagref5_text_0.c]
  simp only [postbagref5_text_0.g5 R κ fuelK]
  rfl
theorem postbagref5_text_0.Γ_does {R : Type} (tab : Tab) (ht : TabOk tab) (g : Nat) : Does (R := R) Tryz.prog (tabTy tyL) tab g ((postbagref5_text_0.C R).call g) := by
  refine does_of fun xs κ => ?_
  show DoesAt _ _ _ g xs κ (postbagref5_text_0.Γ g xs κ)
  unfold postbagref5_text_0.Γ
  split
  · exact DoesAt.none
theorem postbagref5_text_0.does {R : Type} (tab : Tab) (ht : TabOk tab) (a0 : List AV) (κ : List SV → Option R) : DoesAt Tryz.prog (tabTy tyL) tab 65 [.ro 98 a0 true] κ (postbagref5_text_0 a0 (fun r0 => κ [.str r0])) := by
  intro r h w vs Rt Ra bs hpre
  exact runF_sound tyOk (postbagref5_text_0.Γ_does tab ht) (show Tryz.prog.funcs[65]? = some Tryz.f65 by kernel_rfl) (by kernel_rfl) ((postbagref5_text_0.run R κ a0).trans h) hpre
def postbagref5_full_0.Γ {R : Type} (g : Nat) (xs : List SV) (κ : List SV → Option R) : Option R :=
  match g with
  | _ => none
def postbagref5_full_0.h (n : Nat) : Option (List (Nat × List (Nat × Nat))) :=
  match n with
  | 2 => some [(0, [(0, 0)]), (3, [(0, 0)])]
  | _ => none
def postbagref5_full_0.C (R : Type) : Cfg R := ⟨tabTy tyL, postbagref5_full_0.Γ, fun _ => false, postbagref5_full_0.h⟩
def postbagref5_full_0.s2 (x0 : List AV) (x1 : Int) : St := ⟨mkS 16 [(0, .ro 98 x0 true), (3, .int .i64 x1)], [], top⟩
theorem postbagref5_full_0.c2 (R : Type) (J : List Item → St → Option R) (κ : List SV → Option R) (x0 : List AV) (x1 : Int) :
    start (postbagref5_full_0.C R) J (retK (postbagref5_full_0.C R) Tryz.f66.results.toList (List.range 0) κ) 10000 (placeOf Tryz.f66 2) (postbagref5_full_0.s2 x0 x1) = postbagref5_full_0.t2 x0 x1 (fun y0 y1 => J (placeOf Tryz.f66 2) (postbagref5_full_0.s2 y0 y1)) (fun r0 => κ [.bool r0]) := by kernel_rfl
theorem postbagref5_full_0.c (R : Type) (κ : List SV → Option R) (k : Nat) (a0 : List AV) :
    runF (postbagref5_full_0.C R) Tryz.f66 10000 k [.ro 98 a0 true] κ = postbagref5_full_0.e a0 (fun y0 y1 => goto (postbagref5_full_0.C R) (retK (postbagref5_full_0.C R) Tryz.f66.results.toList (List.range 0) κ) 10000 k (placeOf Tryz.f66 2) (postbagref5_full_0.s2 y0 y1)) (fun r0 => κ [.bool r0]) := by kernel_rfl
theorem postbagref5_full_0.g2 (R : Type) (κ : List SV → Option R) : ∀ (f : Nat) (x0 : List AV) (x1 : Int), goto (postbagref5_full_0.C R) (retK (postbagref5_full_0.C R) Tryz.f66.results.toList (List.range 0) κ) 10000 f (placeOf Tryz.f66 2) (postbagref5_full_0.s2 x0 x1) = postbagref5_full_0.L2 (fun r0 => κ [.bool r0]) f x0 x1
  | 0, _, _ => rfl
  | f + 1, x0, x1 => by
    show start (postbagref5_full_0.C R) (goto (postbagref5_full_0.C R) (retK (postbagref5_full_0.C R) Tryz.f66.results.toList (List.range 0) κ) 10000 f) (retK (postbagref5_full_0.C R) Tryz.f66.results.toList (List.range 0) κ) 10000 (placeOf Tryz.f66 2) (postbagref5_full_0.s2 x0 x1) = _
    rw [postbagref5_full_0.c2]
    simp only [postbagref5_full_0.g2 R κ f]
    rfl
theorem postbagref5_full_0.run (R : Type) (κ : List SV → Option R) (a0 : List AV) :
    runF (postbagref5_full_0.C R) Tryz.f66 10000 fuelK [.ro 98 a0 true] κ = postbagref5_full_0 a0 (fun r0 => κ [.bool r0]) := by
  rw [postbagref5_full_0.c]
  simp only [postbagref5_full_0.g2 R κ fuelK]
  rfl
theorem postbagref5_full_0.Γ_does {R : Type} (tab : Tab) (ht : TabOk tab) (g : Nat) : Does (R := R) Tryz.prog (tabTy tyL) tab g ((postbagref5_full_0.C R).call g) := by
  refine does_of fun xs κ => ?_
  show DoesAt _ _ _ g xs κ (postbagref5_full_0.Γ g xs κ)
  unfold postbagref5_full_0.Γ
  split
  · exact DoesAt.none
theorem postbagref5_full_0.does {R : Type} (tab : Tab) (ht : TabOk tab) (a0 : List AV) (κ : List SV → Option R) : DoesAt Tryz.prog (tabTy tyL) tab 66 [.ro 98 a0 true] κ (postbagref5_full_0 a0 (fun r0 => κ [.bool r0])) := by
  intro r h w vs Rt Ra bs hpre
  exact runF_sound tyOk (postbagref5_full_0.Γ_does tab ht) (show Tryz.prog.funcs[66]? = some Tryz.f66 by kernel_rfl) (by kernel_rfl) ((postbagref5_full_0.run R κ a0).trans h) hpre
def postbagref5_closed_0.Γ {R : Type} (g : Nat) (xs : List SV) (κ : List SV → Option R) : Option R :=
  match g with
  | _ => none
def postbagref5_closed_0.h (n : Nat) : Option (List (Nat × List (Nat × Nat))) :=
  match n with
  | 3 => some [(0, [(0, 0)]), (3, [(0, 0)]), (4, [(0, 0)])]
  | _ => none
def postbagref5_closed_0.C (R : Type) : Cfg R := ⟨tabTy tyL, postbagref5_closed_0.Γ, fun _ => false, postbagref5_closed_0.h⟩
def postbagref5_closed_0.s3 (x0 : List AV) (x1 : ByteArray) (x2 : Int) : St := ⟨mkS 19 [(0, .ro 98 x0 true), (3, .str x1), (4, .int .i64 x2)], [], top⟩
theorem postbagref5_closed_0.c3 (R : Type) (J : List Item → St → Option R) (κ : List SV → Option R) (x0 : List AV) (x1 : ByteArray) (x2 : Int) :
    start (postbagref5_closed_0.C R) J (retK (postbagref5_closed_0.C R) Tryz.f72.results.toList (List.range 0) κ) 10000 (placeOf Tryz.f72 3) (postbagref5_closed_0.s3 x0 x1 x2) = postbagref5_closed_0.t3 x0 x1 x2 (fun y0 y1 y2 => J (placeOf Tryz.f72 3) (postbagref5_closed_0.s3 y0 y1 y2)) (fun r0 => κ [.str r0]) := by kernel_rfl
theorem postbagref5_closed_0.c (R : Type) (κ : List SV → Option R) (k : Nat) (a0 : List AV) :
    runF (postbagref5_closed_0.C R) Tryz.f72 10000 k [.ro 98 a0 true] κ = postbagref5_closed_0.e a0 (fun y0 y1 y2 => goto (postbagref5_closed_0.C R) (retK (postbagref5_closed_0.C R) Tryz.f72.results.toList (List.range 0) κ) 10000 k (placeOf Tryz.f72 3) (postbagref5_closed_0.s3 y0 y1 y2)) (fun r0 => κ [.str r0]) := by kernel_rfl
theorem postbagref5_closed_0.g3 (R : Type) (κ : List SV → Option R) : ∀ (f : Nat) (x0 : List AV) (x1 : ByteArray) (x2 : Int), goto (postbagref5_closed_0.C R) (retK (postbagref5_closed_0.C R) Tryz.f72.results.toList (List.range 0) κ) 10000 f (placeOf Tryz.f72 3) (postbagref5_closed_0.s3 x0 x1 x2) = postbagref5_closed_0.L3 (fun r0 => κ [.str r0]) f x0 x1 x2
  | 0, _, _, _ => rfl
  | f + 1, x0, x1, x2 => by
    show start (postbagref5_closed_0.C R) (goto (postbagref5_closed_0.C R) (retK (postbagref5_closed_0.C R) Tryz.f72.results.toList (List.range 0) κ) 10000 f) (retK (postbagref5_closed_0.C R) Tryz.f72.results.toList (List.range 0) κ) 10000 (placeOf Tryz.f72 3) (postbagref5_closed_0.s3 x0 x1 x2) = _
    rw [postbagref5_closed_0.c3]
    simp only [postbagref5_closed_0.g3 R κ f]
    rfl
theorem postbagref5_closed_0.run (R : Type) (κ : List SV → Option R) (a0 : List AV) :
    runF (postbagref5_closed_0.C R) Tryz.f72 10000 fuelK [.ro 98 a0 true] κ = postbagref5_closed_0 a0 (fun r0 => κ [.str r0]) := by
  rw [postbagref5_closed_0.c]
  simp only [postbagref5_closed_0.g3 R κ fuelK]
  rfl
theorem postbagref5_closed_0.Γ_does {R : Type} (tab : Tab) (ht : TabOk tab) (g : Nat) : Does (R := R) Tryz.prog (tabTy tyL) tab g ((postbagref5_closed_0.C R).call g) := by
  refine does_of fun xs κ => ?_
  show DoesAt _ _ _ g xs κ (postbagref5_closed_0.Γ g xs κ)
  unfold postbagref5_closed_0.Γ
  split
  · exact DoesAt.none
theorem postbagref5_closed_0.does {R : Type} (tab : Tab) (ht : TabOk tab) (a0 : List AV) (κ : List SV → Option R) : DoesAt Tryz.prog (tabTy tyL) tab 72 [.ro 98 a0 true] κ (postbagref5_closed_0 a0 (fun r0 => κ [.str r0])) := by
  intro r h w vs Rt Ra bs hpre
  exact runF_sound tyOk (postbagref5_closed_0.Γ_does tab ht) (show Tryz.prog.funcs[72]? = some Tryz.f72 by kernel_rfl) (by kernel_rfl) ((postbagref5_closed_0.run R κ a0).trans h) hpre
def postbagref5_address_0.Γ {R : Type} (c1 : postbagref5_find_0.F R) (c2 : postbagref5_full_0.F R) (c3 : postbagref5_text_0.F R) (c4 : postbagref5_is_0.F R) (c5 : postbagref5_closed_0.F R) (g : Nat) (xs : List SV) (κ : List SV → Option R) : Option R :=
  match g with
  | 64 => (match xs with
    | [.str a0] => c4 a0 (fun r0 r1 => κ [.agg [.bool r0, .str r1]])
    | _ => none)
  | 65 => (match xs with
    | [.ro 98 a0 true] => c3 a0 (fun r0 => κ [.str r0])
    | _ => none)
  | 66 => (match xs with
    | [.ro 98 a0 true] => c2 a0 (fun r0 => κ [.bool r0])
    | _ => none)
  | 71 => (match xs with
    | [.ro 98 a0 true, .int .u8 a1] => c1 a0 a1 (fun r0 => κ [.int .i64 r0])
    | _ => none)
  | 72 => (match xs with
    | [.ro 98 a0 true] => c5 a0 (fun r0 => κ [.str r0])
    | _ => none)
  | _ => none
def postbagref5_address_0.h (n : Nat) : Option (List (Nat × List (Nat × Nat))) :=
  match n with
  | 9 => some [(0, [(0, 0)]), (2, [(0, 0)]), (3, [(0, 0)]), (5, [(0, 0)])]
  | 11 => some [(0, [(0, 0)]), (2, [(0, 0)]), (3, [(0, 0)]), (5, [(0, 0)])]
  | 17 => some [(0, [(0, 0)]), (2, [(0, 0)]), (3, [(0, 0)]), (7, [(0, 0)]), (8, [(0, 0)])]
  | _ => none
def postbagref5_address_0.C (R : Type) (c1 : postbagref5_find_0.F R) (c2 : postbagref5_full_0.F R) (c3 : postbagref5_text_0.F R) (c4 : postbagref5_is_0.F R) (c5 : postbagref5_closed_0.F R) : Cfg R := ⟨tabTy tyL, postbagref5_address_0.Γ c1 c2 c3 c4 c5, fun _ => false, postbagref5_address_0.h⟩
def postbagref5_address_0.s9 (x0 : List AV) (x1 : Int) (x2 : Bool) (x3 : ByteArray) (x4 : Bool) (x5 : ByteArray) (x6 : Bool) (x7 : ByteArray) (x8 : Bool) (x9 : ByteArray) (x10 : Bool) (x11 : ByteArray) (x12 : Bool) (x13 : ByteArray) (x14 : Bool) (x15 : ByteArray) (x16 : Bool) (x17 : ByteArray) : St := ⟨mkS 113 [(0, .ro 98 x0 true), (2, .ptr 255 0), (3, .ptr 319 0), (5, .int .i64 x1)], [(255, .var 60 [.bool x2, .str x3, .bool x4, .str x5, .bool x6, .str x7, .bool x8, .str x9]), (319, .var 60 [.bool x10, .str x11, .bool x12, .str x13, .bool x14, .str x15, .bool x16, .str x17])], top⟩
def postbagref5_address_0.s11 (x0 : List AV) (x1 : Int) (x2 : Bool) (x3 : ByteArray) (x4 : Bool) (x5 : ByteArray) (x6 : Bool) (x7 : ByteArray) (x8 : Bool) (x9 : ByteArray) (x10 : Bool) (x11 : ByteArray) (x12 : Bool) (x13 : ByteArray) (x14 : Bool) (x15 : ByteArray) (x16 : Bool) (x17 : ByteArray) : St := ⟨mkS 113 [(0, .ro 98 x0 true), (2, .ptr 255 0), (3, .ptr 319 0), (5, .int .i64 x1)], [(255, .var 60 [.bool x2, .str x3, .bool x4, .str x5, .bool x6, .str x7, .bool x8, .str x9]), (319, .var 60 [.bool x10, .str x11, .bool x12, .str x13, .bool x14, .str x15, .bool x16, .str x17])], top⟩
def postbagref5_address_0.s17 (x0 : List AV) (x1 : Int) (x2 : Int) (x3 : Bool) (x4 : ByteArray) (x5 : Bool) (x6 : ByteArray) (x7 : Bool) (x8 : ByteArray) (x9 : Bool) (x10 : ByteArray) (x11 : Bool) (x12 : ByteArray) (x13 : Bool) (x14 : ByteArray) (x15 : Bool) (x16 : ByteArray) (x17 : Bool) (x18 : ByteArray) : St := ⟨mkS 113 [(0, .ro 98 x0 true), (2, .ptr 255 0), (3, .ptr 319 0), (7, .int .i64 x1), (8, .int .i64 x2)], [(255, .var 60 [.bool x3, .str x4, .bool x5, .str x6, .bool x7, .str x8, .bool x9, .str x10]), (319, .var 60 [.bool x11, .str x12, .bool x13, .str x14, .bool x15, .str x16, .bool x17, .str x18])], top⟩
theorem postbagref5_address_0.c9 (R : Type) (c1 : postbagref5_find_0.F R) (c2 : postbagref5_full_0.F R) (c3 : postbagref5_text_0.F R) (c4 : postbagref5_is_0.F R) (c5 : postbagref5_closed_0.F R) (J : List Item → St → Option R) (κ : List SV → Option R) (x0 : List AV) (x1 : Int) (x2 : Bool) (x3 : ByteArray) (x4 : Bool) (x5 : ByteArray) (x6 : Bool) (x7 : ByteArray) (x8 : Bool) (x9 : ByteArray) (x10 : Bool) (x11 : ByteArray) (x12 : Bool) (x13 : ByteArray) (x14 : Bool) (x15 : ByteArray) (x16 : Bool) (x17 : ByteArray) :
    start (postbagref5_address_0.C R c1 c2 c3 c4 c5) J (retK (postbagref5_address_0.C R c1 c2 c3 c4 c5) Tryz.f67.results.toList (List.range 0) κ) 10000 (placeOf Tryz.f67 9) (postbagref5_address_0.s9 x0 x1 x2 x3 x4 x5 x6 x7 x8 x9 x10 x11 x12 x13 x14 x15 x16 x17) = postbagref5_address_0.t9 c1 c2 c3 c4 c5 x0 x1 x2 x3 x4 x5 x6 x7 x8 x9 x10 x11 x12 x13 x14 x15 x16 x17 (fun y0 y1 y2 y3 y4 y5 y6 y7 y8 y9 y10 y11 y12 y13 y14 y15 y16 y17 => J (placeOf Tryz.f67 9) (postbagref5_address_0.s9 y0 y1 y2 y3 y4 y5 y6 y7 y8 y9 y10 y11 y12 y13 y14 y15 y16 y17)) (fun y0 y1 y2 y3 y4 y5 y6 y7 y8 y9 y10 y11 y12 y13 y14 y15 y16 y17 => J (placeOf Tryz.f67 11) (postbagref5_address_0.s11 y0 y1 y2 y3 y4 y5 y6 y7 y8 y9 y10 y11 y12 y13 y14 y15 y16 y17)) (fun y0 y1 y2 y3 y4 y5 y6 y7 y8 y9 y10 y11 y12 y13 y14 y15 y16 y17 y18 => J (placeOf Tryz.f67 17) (postbagref5_address_0.s17 y0 y1 y2 y3 y4 y5 y6 y7 y8 y9 y10 y11 y12 y13 y14 y15 y16 y17 y18)) (fun r0 r1 r2 r3 r4 r5 r6 r7 => κ [.agg [.bool r0, .str r1, .bool r2, .str r3, .bool r4, .str r5, .bool r6, .str r7]]) := by kernel_rfl
theorem postbagref5_address_0.c11 (R : Type) (c1 : postbagref5_find_0.F R) (c2 : postbagref5_full_0.F R) (c3 : postbagref5_text_0.F R) (c4 : postbagref5_is_0.F R) (c5 : postbagref5_closed_0.F R) (J : List Item → St → Option R) (κ : List SV → Option R) (x0 : List AV) (x1 : Int) (x2 : Bool) (x3 : ByteArray) (x4 : Bool) (x5 : ByteArray) (x6 : Bool) (x7 : ByteArray) (x8 : Bool) (x9 : ByteArray) (x10 : Bool) (x11 : ByteArray) (x12 : Bool) (x13 : ByteArray) (x14 : Bool) (x15 : ByteArray) (x16 : Bool) (x17 : ByteArray) :
    start (postbagref5_address_0.C R c1 c2 c3 c4 c5) J (retK (postbagref5_address_0.C R c1 c2 c3 c4 c5) Tryz.f67.results.toList (List.range 0) κ) 10000 (placeOf Tryz.f67 11) (postbagref5_address_0.s11 x0 x1 x2 x3 x4 x5 x6 x7 x8 x9 x10 x11 x12 x13 x14 x15 x16 x17) = postbagref5_address_0.t11 c1 c2 c3 c4 c5 x0 x1 x2 x3 x4 x5 x6 x7 x8 x9 x10 x11 x12 x13 x14 x15 x16 x17 (fun y0 y1 y2 y3 y4 y5 y6 y7 y8 y9 y10 y11 y12 y13 y14 y15 y16 y17 => J (placeOf Tryz.f67 9) (postbagref5_address_0.s9 y0 y1 y2 y3 y4 y5 y6 y7 y8 y9 y10 y11 y12 y13 y14 y15 y16 y17)) (fun y0 y1 y2 y3 y4 y5 y6 y7 y8 y9 y10 y11 y12 y13 y14 y15 y16 y17 => J (placeOf Tryz.f67 11) (postbagref5_address_0.s11 y0 y1 y2 y3 y4 y5 y6 y7 y8 y9 y10 y11 y12 y13 y14 y15 y16 y17)) (fun y0 y1 y2 y3 y4 y5 y6 y7 y8 y9 y10 y11 y12 y13 y14 y15 y16 y17 y18 => J (placeOf Tryz.f67 17) (postbagref5_address_0.s17 y0 y1 y2 y3 y4 y5 y6 y7 y8 y9 y10 y11 y12 y13 y14 y15 y16 y17 y18)) (fun r0 r1 r2 r3 r4 r5 r6 r7 => κ [.agg [.bool r0, .str r1, .bool r2, .str r3, .bool r4, .str r5, .bool r6, .str r7]]) := by kernel_rfl
theorem postbagref5_address_0.c17 (R : Type) (c1 : postbagref5_find_0.F R) (c2 : postbagref5_full_0.F R) (c3 : postbagref5_text_0.F R) (c4 : postbagref5_is_0.F R) (c5 : postbagref5_closed_0.F R) (J : List Item → St → Option R) (κ : List SV → Option R) (x0 : List AV) (x1 : Int) (x2 : Int) (x3 : Bool) (x4 : ByteArray) (x5 : Bool) (x6 : ByteArray) (x7 : Bool) (x8 : ByteArray) (x9 : Bool) (x10 : ByteArray) (x11 : Bool) (x12 : ByteArray) (x13 : Bool) (x14 : ByteArray) (x15 : Bool) (x16 : ByteArray) (x17 : Bool) (x18 : ByteArray) :
    start (postbagref5_address_0.C R c1 c2 c3 c4 c5) J (retK (postbagref5_address_0.C R c1 c2 c3 c4 c5) Tryz.f67.results.toList (List.range 0) κ) 10000 (placeOf Tryz.f67 17) (postbagref5_address_0.s17 x0 x1 x2 x3 x4 x5 x6 x7 x8 x9 x10 x11 x12 x13 x14 x15 x16 x17 x18) = postbagref5_address_0.t17 c1 c2 c3 c4 c5 x0 x1 x2 x3 x4 x5 x6 x7 x8 x9 x10 x11 x12 x13 x14 x15 x16 x17 x18 (fun y0 y1 y2 y3 y4 y5 y6 y7 y8 y9 y10 y11 y12 y13 y14 y15 y16 y17 => J (placeOf Tryz.f67 9) (postbagref5_address_0.s9 y0 y1 y2 y3 y4 y5 y6 y7 y8 y9 y10 y11 y12 y13 y14 y15 y16 y17)) (fun y0 y1 y2 y3 y4 y5 y6 y7 y8 y9 y10 y11 y12 y13 y14 y15 y16 y17 => J (placeOf Tryz.f67 11) (postbagref5_address_0.s11 y0 y1 y2 y3 y4 y5 y6 y7 y8 y9 y10 y11 y12 y13 y14 y15 y16 y17)) (fun y0 y1 y2 y3 y4 y5 y6 y7 y8 y9 y10 y11 y12 y13 y14 y15 y16 y17 y18 => J (placeOf Tryz.f67 17) (postbagref5_address_0.s17 y0 y1 y2 y3 y4 y5 y6 y7 y8 y9 y10 y11 y12 y13 y14 y15 y16 y17 y18)) (fun r0 r1 r2 r3 r4 r5 r6 r7 => κ [.agg [.bool r0, .str r1, .bool r2, .str r3, .bool r4, .str r5, .bool r6, .str r7]]) := by kernel_rfl
theorem postbagref5_address_0.c (R : Type) (c1 : postbagref5_find_0.F R) (c2 : postbagref5_full_0.F R) (c3 : postbagref5_text_0.F R) (c4 : postbagref5_is_0.F R) (c5 : postbagref5_closed_0.F R) (κ : List SV → Option R) (k : Nat) (a0 : List AV) :
    runF (postbagref5_address_0.C R c1 c2 c3 c4 c5) Tryz.f67 10000 k [.ro 98 a0 true] κ = postbagref5_address_0.e c1 c2 c3 c4 c5 a0 (fun y0 y1 y2 y3 y4 y5 y6 y7 y8 y9 y10 y11 y12 y13 y14 y15 y16 y17 => goto (postbagref5_address_0.C R c1 c2 c3 c4 c5) (retK (postbagref5_address_0.C R c1 c2 c3 c4 c5) Tryz.f67.results.toList (List.range 0) κ) 10000 k (placeOf Tryz.f67 9) (postbagref5_address_0.s9 y0 y1 y2 y3 y4 y5 y6 y7 y8 y9 y10 y11 y12 y13 y14 y15 y16 y17)) (fun y0 y1 y2 y3 y4 y5 y6 y7 y8 y9 y10 y11 y12 y13 y14 y15 y16 y17 => goto (postbagref5_address_0.C R c1 c2 c3 c4 c5) (retK (postbagref5_address_0.C R c1 c2 c3 c4 c5) Tryz.f67.results.toList (List.range 0) κ) 10000 k (placeOf Tryz.f67 11) (postbagref5_address_0.s11 y0 y1 y2 y3 y4 y5 y6 y7 y8 y9 y10 y11 y12 y13 y14 y15 y16 y17)) (fun y0 y1 y2 y3 y4 y5 y6 y7 y8 y9 y10 y11 y12 y13 y14 y15 y16 y17 y18 => goto (postbagref5_address_0.C R c1 c2 c3 c4 c5) (retK (postbagref5_address_0.C R c1 c2 c3 c4 c5) Tryz.f67.results.toList (List.range 0) κ) 10000 k (placeOf Tryz.f67 17) (postbagref5_address_0.s17 y0 y1 y2 y3 y4 y5 y6 y7 y8 y9 y10 y11 y12 y13 y14 y15 y16 y17 y18)) (fun r0 r1 r2 r3 r4 r5 r6 r7 => κ [.agg [.bool r0, .str r1, .bool r2, .str r3, .bool r4, .str r5, .bool r6, .str r7]]) := by kernel_rfl
theorem postbagref5_address_0.g17 (R : Type) (c1 : postbagref5_find_0.F R) (c2 : postbagref5_full_0.F R) (c3 : postbagref5_text_0.F R) (c4 : postbagref5_is_0.F R) (c5 : postbagref5_closed_0.F R) (κ : List SV → Option R) : ∀ (f : Nat) (x0 : List AV) (x1 : Int) (x2 : Int) (x3 : Bool) (x4 : ByteArray) (x5 : Bool) (x6 : ByteArray) (x7 : Bool) (x8 : ByteArray) (x9 : Bool) (x10 : ByteArray) (x11 : Bool) (x12 : ByteArray) (x13 : Bool) (x14 : ByteArray) (x15 : Bool) (x16 : ByteArray) (x17 : Bool) (x18 : ByteArray), goto (postbagref5_address_0.C R c1 c2 c3 c4 c5) (retK (postbagref5_address_0.C R c1 c2 c3 c4 c5) Tryz.f67.results.toList (List.range 0) κ) 10000 f (placeOf Tryz.f67 17) (postbagref5_address_0.s17 x0 x1 x2 x3 x4 x5 x6 x7 x8 x9 x10 x11 x12 x13 x14 x15 x16 x17 x18) = postbagref5_address_0.L17 c1 c2 c3 c4 c5 (fun r0 r1 r2 r3 r4 r5 r6 r7 => κ [.agg [.bool r0, .str r1, .bool r2, .str r3, .bool r4, .str r5, .bool r6, .str r7]]) f x0 x1 x2 x3 x4 x5 x6 x7 x8 x9 x10 x11 x12 x13 x14 x15 x16 x17 x18
  | 0, _, _, _, _, _, _, _, _, _, _, _, _, _, _, _, _, _, _, _ => rfl
  | f + 1, x0, x1, x2, x3, x4, x5, x6, x7, x8, x9, x10, x11, x12, x13, x14, x15, x16, x17, x18 => by
    show start (postbagref5_address_0.C R c1 c2 c3 c4 c5) (goto (postbagref5_address_0.C R c1 c2 c3 c4 c5) (retK (postbagref5_address_0.C R c1 c2 c3 c4 c5) Tryz.f67.results.toList (List.range 0) κ) 10000 f) (retK (postbagref5_address_0.C R c1 c2 c3 c4 c5) Tryz.f67.results.toList (List.range 0) κ) 10000 (placeOf Tryz.f67 17) (postbagref5_address_0.s17 x0 x1 x2 x3 x4 x5 x6 x7 x8 x9 x10 x11 x12 x13 x14 x15 x16 x17 x18) = _
    rw [postbagref5_address_0.c17]
    simp only [postbagref5_address_0.g17 R c1 c2 c3 c4 c5 κ f]
    rfl
theorem postbagref5_address_0.g11 (R : Type) (c1 : postbagref5_find_0.F R) (c2 : postbagref5_full_0.F R) (c3 : postbagref5_text_0.F R) (c4 : postbagref5_is_0.F R) (c5 : postbagref5_closed_0.F R) (κ : List SV → Option R) : ∀ (f : Nat) (x0 : List AV) (x1 : Int) (x2 : Bool) (x3 : ByteArray) (x4 : Bool) (x5 : ByteArray) (x6 : Bool) (x7 : ByteArray) (x8 : Bool) (x9 : ByteArray) (x10 : Bool) (x11 : ByteArray) (x12 : Bool) (x13 : ByteArray) (x14 : Bool) (x15 : ByteArray) (x16 : Bool) (x17 : ByteArray), goto (postbagref5_address_0.C R c1 c2 c3 c4 c5) (retK (postbagref5_address_0.C R c1 c2 c3 c4 c5) Tryz.f67.results.toList (List.range 0) κ) 10000 f (placeOf Tryz.f67 11) (postbagref5_address_0.s11 x0 x1 x2 x3 x4 x5 x6 x7 x8 x9 x10 x11 x12 x13 x14 x15 x16 x17) = postbagref5_address_0.L11 c1 c2 c3 c4 c5 (fun r0 r1 r2 r3 r4 r5 r6 r7 => κ [.agg [.bool r0, .str r1, .bool r2, .str r3, .bool r4, .str r5, .bool r6, .str r7]]) f x0 x1 x2 x3 x4 x5 x6 x7 x8 x9 x10 x11 x12 x13 x14 x15 x16 x17
  | 0, _, _, _, _, _, _, _, _, _, _, _, _, _, _, _, _, _, _ => rfl
  | f + 1, x0, x1, x2, x3, x4, x5, x6, x7, x8, x9, x10, x11, x12, x13, x14, x15, x16, x17 => by
    show start (postbagref5_address_0.C R c1 c2 c3 c4 c5) (goto (postbagref5_address_0.C R c1 c2 c3 c4 c5) (retK (postbagref5_address_0.C R c1 c2 c3 c4 c5) Tryz.f67.results.toList (List.range 0) κ) 10000 f) (retK (postbagref5_address_0.C R c1 c2 c3 c4 c5) Tryz.f67.results.toList (List.range 0) κ) 10000 (placeOf Tryz.f67 11) (postbagref5_address_0.s11 x0 x1 x2 x3 x4 x5 x6 x7 x8 x9 x10 x11 x12 x13 x14 x15 x16 x17) = _
    rw [postbagref5_address_0.c11]
    simp only [postbagref5_address_0.g17 R c1 c2 c3 c4 c5 κ f]
    rfl
theorem postbagref5_address_0.g9 (R : Type) (c1 : postbagref5_find_0.F R) (c2 : postbagref5_full_0.F R) (c3 : postbagref5_text_0.F R) (c4 : postbagref5_is_0.F R) (c5 : postbagref5_closed_0.F R) (κ : List SV → Option R) : ∀ (f : Nat) (x0 : List AV) (x1 : Int) (x2 : Bool) (x3 : ByteArray) (x4 : Bool) (x5 : ByteArray) (x6 : Bool) (x7 : ByteArray) (x8 : Bool) (x9 : ByteArray) (x10 : Bool) (x11 : ByteArray) (x12 : Bool) (x13 : ByteArray) (x14 : Bool) (x15 : ByteArray) (x16 : Bool) (x17 : ByteArray), goto (postbagref5_address_0.C R c1 c2 c3 c4 c5) (retK (postbagref5_address_0.C R c1 c2 c3 c4 c5) Tryz.f67.results.toList (List.range 0) κ) 10000 f (placeOf Tryz.f67 9) (postbagref5_address_0.s9 x0 x1 x2 x3 x4 x5 x6 x7 x8 x9 x10 x11 x12 x13 x14 x15 x16 x17) = postbagref5_address_0.L9 c1 c2 c3 c4 c5 (fun r0 r1 r2 r3 r4 r5 r6 r7 => κ [.agg [.bool r0, .str r1, .bool r2, .str r3, .bool r4, .str r5, .bool r6, .str r7]]) f x0 x1 x2 x3 x4 x5 x6 x7 x8 x9 x10 x11 x12 x13 x14 x15 x16 x17
  | 0, _, _, _, _, _, _, _, _, _, _, _, _, _, _, _, _, _, _ => rfl
  | f + 1, x0, x1, x2, x3, x4, x5, x6, x7, x8, x9, x10, x11, x12, x13, x14, x15, x16, x17 => by
    show start (postbagref5_address_0.C R c1 c2 c3 c4 c5) (goto (postbagref5_address_0.C R c1 c2 c3 c4 c5) (retK (postbagref5_address_0.C R c1 c2 c3 c4 c5) Tryz.f67.results.toList (List.range 0) κ) 10000 f) (retK (postbagref5_address_0.C R c1 c2 c3 c4 c5) Tryz.f67.results.toList (List.range 0) κ) 10000 (placeOf Tryz.f67 9) (postbagref5_address_0.s9 x0 x1 x2 x3 x4 x5 x6 x7 x8 x9 x10 x11 x12 x13 x14 x15 x16 x17) = _
    rw [postbagref5_address_0.c9]
    simp only [postbagref5_address_0.g9 R c1 c2 c3 c4 c5 κ f, postbagref5_address_0.g11 R c1 c2 c3 c4 c5 κ f]
    rfl
theorem postbagref5_address_0.run (R : Type) (κ : List SV → Option R) (a0 : List AV) :
    runF (postbagref5_address_0.C R postbagref5_find_0 postbagref5_full_0 postbagref5_text_0 postbagref5_is_0 postbagref5_closed_0) Tryz.f67 10000 fuelK [.ro 98 a0 true] κ = postbagref5_address_0 a0 (fun r0 r1 r2 r3 r4 r5 r6 r7 => κ [.agg [.bool r0, .str r1, .bool r2, .str r3, .bool r4, .str r5, .bool r6, .str r7]]) := by
  rw [postbagref5_address_0.c]
  simp only [postbagref5_address_0.g9 R postbagref5_find_0 postbagref5_full_0 postbagref5_text_0 postbagref5_is_0 postbagref5_closed_0 κ fuelK, postbagref5_address_0.g11 R postbagref5_find_0 postbagref5_full_0 postbagref5_text_0 postbagref5_is_0 postbagref5_closed_0 κ fuelK, postbagref5_address_0.g17 R postbagref5_find_0 postbagref5_full_0 postbagref5_text_0 postbagref5_is_0 postbagref5_closed_0 κ fuelK]
  rfl
theorem postbagref5_address_0.Γ_does {R : Type} (tab : Tab) (ht : TabOk tab) (g : Nat) : Does (R := R) Tryz.prog (tabTy tyL) tab g ((postbagref5_address_0.C R postbagref5_find_0 postbagref5_full_0 postbagref5_text_0 postbagref5_is_0 postbagref5_closed_0).call g) := by
  refine does_of fun xs κ => ?_
  show DoesAt _ _ _ g xs κ (postbagref5_address_0.Γ postbagref5_find_0 postbagref5_full_0 postbagref5_text_0 postbagref5_is_0 postbagref5_closed_0 g xs κ)
  unfold postbagref5_address_0.Γ
  split
  · split
    · exact postbagref5_is_0.does tab ht _ κ
    · exact DoesAt.none
  · split
    · exact postbagref5_text_0.does tab ht _ κ
    · exact DoesAt.none
  · split
    · exact postbagref5_full_0.does tab ht _ κ
    · exact DoesAt.none
  · split
    · exact postbagref5_find_0.does tab ht _ _ κ
    · exact DoesAt.none
  · split
    · exact postbagref5_closed_0.does tab ht _ κ
    · exact DoesAt.none
  · exact DoesAt.none
theorem postbagref5_address_0.does {R : Type} (tab : Tab) (ht : TabOk tab) (a0 : List AV) (κ : List SV → Option R) : DoesAt Tryz.prog (tabTy tyL) tab 67 [.ro 98 a0 true] κ (postbagref5_address_0 a0 (fun r0 r1 r2 r3 r4 r5 r6 r7 => κ [.agg [.bool r0, .str r1, .bool r2, .str r3, .bool r4, .str r5, .bool r6, .str r7]])) := by
  intro r h w vs Rt Ra bs hpre
  exact runF_sound tyOk (postbagref5_address_0.Γ_does tab ht) (show Tryz.prog.funcs[67]? = some Tryz.f67 by kernel_rfl) (by kernel_rfl) ((postbagref5_address_0.run R κ a0).trans h) hpre
def postbagref5_Addresses_0.Γ {R : Type} (c1 : postbagref5_pieces_0.F R) (c2 : postbagref5_part_0.F R) (c3 : postbagref5_text_0.F R) (c4 : postbagref5_is_0.F R) (c5 : postbagref5_full_0.F R) (c6 : postbagref5_address_0.F R) (g : Nat) (xs : List SV) (κ : List SV → Option R) : Option R :=
  match g with
  | 62 => (match xs with
    | [.str a0] => c1 a0 (fun r0 => κ [.fr 98 r0 true])
    | _ => none)
  | 63 => (match xs with
    | [.ro 98 a0 true] => c2 a0 (fun r0 => κ [.int .i64 r0])
    | _ => none)
  | 64 => (match xs with
    | [.str a0] => c4 a0 (fun r0 r1 => κ [.agg [.bool r0, .str r1]])
    | _ => none)
  | 65 => (match xs with
    | [.ro 98 a0 true] => c3 a0 (fun r0 => κ [.str r0])
    | _ => none)
  | 66 => (match xs with
    | [.ro 98 a0 true] => c5 a0 (fun r0 => κ [.bool r0])
    | _ => none)
  | 67 => (match xs with
    | [.ro 98 a0 true] => c6 a0 (fun r0 r1 r2 r3 r4 r5 r6 r7 => κ [.agg [.bool r0, .str r1, .bool r2, .str r3, .bool r4, .str r5, .bool r6, .str r7]])
    | _ => none)
  | _ => none
def postbagref5_Addresses_0.h (n : Nat) : Option (List (Nat × List (Nat × Nat))) :=
  match n with
  | 4 => some [(3, [(0, 62)]), (4, [(0, 0)]), (5, [(0, 1)])]
  | 17 => some [(3, [(0, 0)]), (4, [(0, 0)]), (5, [(0, 0)]), (8, [(0, 0)])]
  | 23 => some [(3, [(0, 1)])]
  | _ => none
def postbagref5_Addresses_0.C (R : Type) (c1 : postbagref5_pieces_0.F R) (c2 : postbagref5_part_0.F R) (c3 : postbagref5_text_0.F R) (c4 : postbagref5_is_0.F R) (c5 : postbagref5_full_0.F R) (c6 : postbagref5_address_0.F R) : Cfg R := ⟨tabTy tyL, postbagref5_Addresses_0.Γ c1 c2 c3 c4 c5 c6, fun _ => false, postbagref5_Addresses_0.h⟩
def postbagref5_Addresses_0.s4 (x0 : Bool) (x1 : List AV) (x2 : List AV) : St := ⟨mkS 73 [(3, .own 256), (4, .bool x0), (5, .ro 98 x1 true)], [(256, .row 60 x2 true)], top⟩
def postbagref5_Addresses_0.s17 (x0 : Bool) (x1 : List AV) (x2 : Int) (x3 : List AV) : St := ⟨mkS 73 [(3, .own 256), (4, .bool x0), (5, .ro 98 x1 true), (8, .int .u8 x2)], [(256, .row 60 x3 true)], top⟩
def postbagref5_Addresses_0.s23 (x0 : List AV) : St := ⟨mkS 73 [(3, .ro 60 x0 true)], [], top⟩
theorem postbagref5_Addresses_0.c4 (R : Type) (c1 : postbagref5_pieces_0.F R) (c2 : postbagref5_part_0.F R) (c3 : postbagref5_text_0.F R) (c4 : postbagref5_is_0.F R) (c5 : postbagref5_full_0.F R) (c6 : postbagref5_address_0.F R) (J : List Item → St → Option R) (κ : List SV → Option R) (x0 : Bool) (x1 : List AV) (x2 : List AV) :
    start (postbagref5_Addresses_0.C R c1 c2 c3 c4 c5 c6) J (retK (postbagref5_Addresses_0.C R c1 c2 c3 c4 c5 c6) Tryz.f21.results.toList (List.range 0) κ) 10000 (placeOf Tryz.f21 4) (postbagref5_Addresses_0.s4 x0 x1 x2) = postbagref5_Addresses_0.t4 c1 c2 c3 c4 c5 c6 x0 x1 x2 (fun y0 y1 y2 => J (placeOf Tryz.f21 4) (postbagref5_Addresses_0.s4 y0 y1 y2)) (fun y0 y1 y2 y3 => J (placeOf Tryz.f21 17) (postbagref5_Addresses_0.s17 y0 y1 y2 y3)) (fun y0 => J (placeOf Tryz.f21 23) (postbagref5_Addresses_0.s23 y0)) (fun r0 => κ [.fr 60 r0 true]) (fun r0 => κ [.ro 60 r0 true]) := by kernel_rfl
theorem postbagref5_Addresses_0.c17 (R : Type) (c1 : postbagref5_pieces_0.F R) (c2 : postbagref5_part_0.F R) (c3 : postbagref5_text_0.F R) (c4 : postbagref5_is_0.F R) (c5 : postbagref5_full_0.F R) (c6 : postbagref5_address_0.F R) (J : List Item → St → Option R) (κ : List SV → Option R) (x0 : Bool) (x1 : List AV) (x2 : Int) (x3 : List AV) :
    start (postbagref5_Addresses_0.C R c1 c2 c3 c4 c5 c6) J (retK (postbagref5_Addresses_0.C R c1 c2 c3 c4 c5 c6) Tryz.f21.results.toList (List.range 0) κ) 10000 (placeOf Tryz.f21 17) (postbagref5_Addresses_0.s17 x0 x1 x2 x3) = postbagref5_Addresses_0.t17 c1 c2 c3 c4 c5 c6 x0 x1 x2 x3 (fun y0 y1 y2 => J (placeOf Tryz.f21 4) (postbagref5_Addresses_0.s4 y0 y1 y2)) (fun y0 y1 y2 y3 => J (placeOf Tryz.f21 17) (postbagref5_Addresses_0.s17 y0 y1 y2 y3)) (fun y0 => J (placeOf Tryz.f21 23) (postbagref5_Addresses_0.s23 y0)) (fun r0 => κ [.fr 60 r0 true]) (fun r0 => κ [.ro 60 r0 true]) := by kernel_rfl
theorem postbagref5_Addresses_0.c23 (R : Type) (c1 : postbagref5_pieces_0.F R) (c2 : postbagref5_part_0.F R) (c3 : postbagref5_text_0.F R) (c4 : postbagref5_is_0.F R) (c5 : postbagref5_full_0.F R) (c6 : postbagref5_address_0.F R) (J : List Item → St → Option R) (κ : List SV → Option R) (x0 : List AV) :
    start (postbagref5_Addresses_0.C R c1 c2 c3 c4 c5 c6) J (retK (postbagref5_Addresses_0.C R c1 c2 c3 c4 c5 c6) Tryz.f21.results.toList (List.range 0) κ) 10000 (placeOf Tryz.f21 23) (postbagref5_Addresses_0.s23 x0) = postbagref5_Addresses_0.t23 c1 c2 c3 c4 c5 c6 x0 (fun y0 y1 y2 => J (placeOf Tryz.f21 4) (postbagref5_Addresses_0.s4 y0 y1 y2)) (fun y0 y1 y2 y3 => J (placeOf Tryz.f21 17) (postbagref5_Addresses_0.s17 y0 y1 y2 y3)) (fun y0 => J (placeOf Tryz.f21 23) (postbagref5_Addresses_0.s23 y0)) (fun r0 => κ [.fr 60 r0 true]) (fun r0 => κ [.ro 60 r0 true]) := by kernel_rfl
theorem postbagref5_Addresses_0.c (R : Type) (c1 : postbagref5_pieces_0.F R) (c2 : postbagref5_part_0.F R) (c3 : postbagref5_text_0.F R) (c4 : postbagref5_is_0.F R) (c5 : postbagref5_full_0.F R) (c6 : postbagref5_address_0.F R) (κ : List SV → Option R) (k : Nat) (a0 : ByteArray) :
    runF (postbagref5_Addresses_0.C R c1 c2 c3 c4 c5 c6) Tryz.f21 10000 k [.str a0] κ = postbagref5_Addresses_0.e c1 c2 c3 c4 c5 c6 a0 (fun y0 y1 y2 => goto (postbagref5_Addresses_0.C R c1 c2 c3 c4 c5 c6) (retK (postbagref5_Addresses_0.C R c1 c2 c3 c4 c5 c6) Tryz.f21.results.toList (List.range 0) κ) 10000 k (placeOf Tryz.f21 4) (postbagref5_Addresses_0.s4 y0 y1 y2)) (fun y0 y1 y2 y3 => goto (postbagref5_Addresses_0.C R c1 c2 c3 c4 c5 c6) (retK (postbagref5_Addresses_0.C R c1 c2 c3 c4 c5 c6) Tryz.f21.results.toList (List.range 0) κ) 10000 k (placeOf Tryz.f21 17) (postbagref5_Addresses_0.s17 y0 y1 y2 y3)) (fun y0 => goto (postbagref5_Addresses_0.C R c1 c2 c3 c4 c5 c6) (retK (postbagref5_Addresses_0.C R c1 c2 c3 c4 c5 c6) Tryz.f21.results.toList (List.range 0) κ) 10000 k (placeOf Tryz.f21 23) (postbagref5_Addresses_0.s23 y0)) (fun r0 => κ [.fr 60 r0 true]) (fun r0 => κ [.ro 60 r0 true]) := by kernel_rfl
theorem postbagref5_Addresses_0.g23 (R : Type) (c1 : postbagref5_pieces_0.F R) (c2 : postbagref5_part_0.F R) (c3 : postbagref5_text_0.F R) (c4 : postbagref5_is_0.F R) (c5 : postbagref5_full_0.F R) (c6 : postbagref5_address_0.F R) (κ : List SV → Option R) : ∀ (f : Nat) (x0 : List AV), goto (postbagref5_Addresses_0.C R c1 c2 c3 c4 c5 c6) (retK (postbagref5_Addresses_0.C R c1 c2 c3 c4 c5 c6) Tryz.f21.results.toList (List.range 0) κ) 10000 f (placeOf Tryz.f21 23) (postbagref5_Addresses_0.s23 x0) = postbagref5_Addresses_0.L23 c1 c2 c3 c4 c5 c6 (fun r0 => κ [.fr 60 r0 true]) (fun r0 => κ [.ro 60 r0 true]) f x0
  | 0, _ => rfl
  | f + 1, x0 => by
    show start (postbagref5_Addresses_0.C R c1 c2 c3 c4 c5 c6) (goto (postbagref5_Addresses_0.C R c1 c2 c3 c4 c5 c6) (retK (postbagref5_Addresses_0.C R c1 c2 c3 c4 c5 c6) Tryz.f21.results.toList (List.range 0) κ) 10000 f) (retK (postbagref5_Addresses_0.C R c1 c2 c3 c4 c5 c6) Tryz.f21.results.toList (List.range 0) κ) 10000 (placeOf Tryz.f21 23) (postbagref5_Addresses_0.s23 x0) = _
    rw [postbagref5_Addresses_0.c23]
    skip
    rfl
theorem postbagref5_Addresses_0.gM4 (R : Type) (c1 : postbagref5_pieces_0.F R) (c2 : postbagref5_part_0.F R) (c3 : postbagref5_text_0.F R) (c4 : postbagref5_is_0.F R) (c5 : postbagref5_full_0.F R) (c6 : postbagref5_address_0.F R) (κ : List SV → Option R) : ∀ (f : Nat), (∀ (x0 : Bool) (x1 : List AV) (x2 : List AV), goto (postbagref5_Addresses_0.C R c1 c2 c3 c4 c5 c6) (retK (postbagref5_Addresses_0.C R c1 c2 c3 c4 c5 c6) Tryz.f21.results.toList (List.range 0) κ) 10000 f (placeOf Tryz.f21 4) (postbagref5_Addresses_0.s4 x0 x1 x2) = postbagref5_Addresses_0.L4 c1 c2 c3 c4 c5 c6 (fun r0 => κ [.fr 60 r0 true]) (fun r0 => κ [.ro 60 r0 true]) f x0 x1 x2) ∧
    (∀ (x0 : Bool) (x1 : List AV) (x2 : Int) (x3 : List AV), goto (postbagref5_Addresses_0.C R c1 c2 c3 c4 c5 c6) (retK (postbagref5_Addresses_0.C R c1 c2 c3 c4 c5 c6) Tryz.f21.results.toList (List.range 0) κ) 10000 f (placeOf Tryz.f21 17) (postbagref5_Addresses_0.s17 x0 x1 x2 x3) = postbagref5_Addresses_0.L17 c1 c2 c3 c4 c5 c6 (fun r0 => κ [.fr 60 r0 true]) (fun r0 => κ [.ro 60 r0 true]) f x0 x1 x2 x3)
  | 0 => ⟨fun _ _ _ => rfl, fun _ _ _ _ => rfl⟩
  | f + 1 => by
    obtain ⟨ih0, ih1⟩ := postbagref5_Addresses_0.gM4 R c1 c2 c3 c4 c5 c6 κ f
    refine ⟨?_, ?_⟩
    · intro x0 x1 x2
      show start (postbagref5_Addresses_0.C R c1 c2 c3 c4 c5 c6) (goto (postbagref5_Addresses_0.C R c1 c2 c3 c4 c5 c6) (retK (postbagref5_Addresses_0.C R c1 c2 c3 c4 c5 c6) Tryz.f21.results.toList (List.range 0) κ) 10000 f) (retK (postbagref5_Addresses_0.C R c1 c2 c3 c4 c5 c6) Tryz.f21.results.toList (List.range 0) κ) 10000 (placeOf Tryz.f21 4) (postbagref5_Addresses_0.s4 x0 x1 x2) = _
      rw [postbagref5_Addresses_0.c4]
      simp only [ih0, ih1, postbagref5_Addresses_0.g23 R c1 c2 c3 c4 c5 c6 κ f]
      rfl
    · intro x0 x1 x2 x3
      show start (postbagref5_Addresses_0.C R c1 c2 c3 c4 c5 c6) (goto (postbagref5_Addresses_0.C R c1 c2 c3 c4 c5 c6) (retK (postbagref5_Addresses_0.C R c1 c2 c3 c4 c5 c6) Tryz.f21.results.toList (List.range 0) κ) 10000 f) (retK (postbagref5_Addresses_0.C R c1 c2 c3 c4 c5 c6) Tryz.f21.results.toList (List.range 0) κ) 10000 (placeOf Tryz.f21 17) (postbagref5_Addresses_0.s17 x0 x1 x2 x3) = _
      rw [postbagref5_Addresses_0.c17]
      simp only [ih0, ih1, postbagref5_Addresses_0.g23 R c1 c2 c3 c4 c5 c6 κ f]
      rfl
theorem postbagref5_Addresses_0.g4 (R : Type) (c1 : postbagref5_pieces_0.F R) (c2 : postbagref5_part_0.F R) (c3 : postbagref5_text_0.F R) (c4 : postbagref5_is_0.F R) (c5 : postbagref5_full_0.F R) (c6 : postbagref5_address_0.F R) (κ : List SV → Option R) (f : Nat) (x0 : Bool) (x1 : List AV) (x2 : List AV) : goto (postbagref5_Addresses_0.C R c1 c2 c3 c4 c5 c6) (retK (postbagref5_Addresses_0.C R c1 c2 c3 c4 c5 c6) Tryz.f21.results.toList (List.range 0) κ) 10000 f (placeOf Tryz.f21 4) (postbagref5_Addresses_0.s4 x0 x1 x2) = postbagref5_Addresses_0.L4 c1 c2 c3 c4 c5 c6 (fun r0 => κ [.fr 60 r0 true]) (fun r0 => κ [.ro 60 r0 true]) f x0 x1 x2 := (postbagref5_Addresses_0.gM4 R c1 c2 c3 c4 c5 c6 κ f).1 x0 x1 x2
theorem postbagref5_Addresses_0.g17 (R : Type) (c1 : postbagref5_pieces_0.F R) (c2 : postbagref5_part_0.F R) (c3 : postbagref5_text_0.F R) (c4 : postbagref5_is_0.F R) (c5 : postbagref5_full_0.F R) (c6 : postbagref5_address_0.F R) (κ : List SV → Option R) (f : Nat) (x0 : Bool) (x1 : List AV) (x2 : Int) (x3 : List AV) : goto (postbagref5_Addresses_0.C R c1 c2 c3 c4 c5 c6) (retK (postbagref5_Addresses_0.C R c1 c2 c3 c4 c5 c6) Tryz.f21.results.toList (List.range 0) κ) 10000 f (placeOf Tryz.f21 17) (postbagref5_Addresses_0.s17 x0 x1 x2 x3) = postbagref5_Addresses_0.L17 c1 c2 c3 c4 c5 c6 (fun r0 => κ [.fr 60 r0 true]) (fun r0 => κ [.ro 60 r0 true]) f x0 x1 x2 x3 := (postbagref5_Addresses_0.gM4 R c1 c2 c3 c4 c5 c6 κ f).2 x0 x1 x2 x3
theorem postbagref5_Addresses_0.run (R : Type) (κ : List SV → Option R) (a0 : ByteArray) :
    runF (postbagref5_Addresses_0.C R postbagref5_pieces_0 postbagref5_part_0 postbagref5_text_0 postbagref5_is_0 postbagref5_full_0 postbagref5_address_0) Tryz.f21 10000 fuelK [.str a0] κ = postbagref5_Addresses_0 a0 (fun r0 => κ [.fr 60 r0 true]) (fun r0 => κ [.ro 60 r0 true]) := by
  rw [postbagref5_Addresses_0.c]
  simp only [postbagref5_Addresses_0.g4 R postbagref5_pieces_0 postbagref5_part_0 postbagref5_text_0 postbagref5_is_0 postbagref5_full_0 postbagref5_address_0 κ fuelK, postbagref5_Addresses_0.g17 R postbagref5_pieces_0 postbagref5_part_0 postbagref5_text_0 postbagref5_is_0 postbagref5_full_0 postbagref5_address_0 κ fuelK, postbagref5_Addresses_0.g23 R postbagref5_pieces_0 postbagref5_part_0 postbagref5_text_0 postbagref5_is_0 postbagref5_full_0 postbagref5_address_0 κ fuelK]
  rfl
theorem postbagref5_Addresses_0.Γ_does {R : Type} (tab : Tab) (ht : TabOk tab) (g : Nat) : Does (R := R) Tryz.prog (tabTy tyL) tab g ((postbagref5_Addresses_0.C R postbagref5_pieces_0 postbagref5_part_0 postbagref5_text_0 postbagref5_is_0 postbagref5_full_0 postbagref5_address_0).call g) := by
  refine does_of fun xs κ => ?_
  show DoesAt _ _ _ g xs κ (postbagref5_Addresses_0.Γ postbagref5_pieces_0 postbagref5_part_0 postbagref5_text_0 postbagref5_is_0 postbagref5_full_0 postbagref5_address_0 g xs κ)
  unfold postbagref5_Addresses_0.Γ
  split
  · split
    · exact postbagref5_pieces_0.does tab ht _ κ
    · exact DoesAt.none
  · split
    · exact postbagref5_part_0.does tab ht _ κ
    · exact DoesAt.none
  · split
    · exact postbagref5_is_0.does tab ht _ κ
    · exact DoesAt.none
  · split
    · exact postbagref5_text_0.does tab ht _ κ
    · exact DoesAt.none
  · split
    · exact postbagref5_full_0.does tab ht _ κ
    · exact DoesAt.none
  · split
    · exact postbagref5_address_0.does tab ht _ κ
    · exact DoesAt.none
  · exact DoesAt.none
theorem postbagref5_Addresses_0.does {R : Type} (tab : Tab) (ht : TabOk tab) (a0 : ByteArray) (κ : List SV → Option R) : DoesAt Tryz.prog (tabTy tyL) tab 21 [.str a0] κ (postbagref5_Addresses_0 a0 (fun r0 => κ [.fr 60 r0 true]) (fun r0 => κ [.ro 60 r0 true])) := by
  intro r h w vs Rt Ra bs hpre
  exact runF_sound tyOk (postbagref5_Addresses_0.Γ_does tab ht) (show Tryz.prog.funcs[21]? = some Tryz.f21 by kernel_rfl) (by kernel_rfl) ((postbagref5_Addresses_0.run R κ a0).trans h) hpre
def stringslite_HasPrefix_0.Γ {R : Type} (g : Nat) (xs : List SV) (κ : List SV → Option R) : Option R :=
  match g with
  | _ => none
def stringslite_HasPrefix_0.h (n : Nat) : Option (List (Nat × List (Nat × Nat))) :=
  match n with
  | _ => none
def stringslite_HasPrefix_0.C (R : Type) : Cfg R := ⟨tabTy tyL, stringslite_HasPrefix_0.Γ, fun _ => false, stringslite_HasPrefix_0.h⟩
theorem stringslite_HasPrefix_0.c (R : Type) (κ : List SV → Option R) (k : Nat) (a0 : ByteArray) (a1 : ByteArray) :
    runF (stringslite_HasPrefix_0.C R) Tryz.f129 10000 k [.str a0, .str a1] κ = stringslite_HasPrefix_0.e a0 a1 (fun r0 => κ [.bool r0]) := by kernel_rfl
theorem stringslite_HasPrefix_0.run (R : Type) (κ : List SV → Option R) (a0 : ByteArray) (a1 : ByteArray) :
    runF (stringslite_HasPrefix_0.C R) Tryz.f129 10000 fuelK [.str a0, .str a1] κ = stringslite_HasPrefix_0 a0 a1 (fun r0 => κ [.bool r0]) := by
  rw [stringslite_HasPrefix_0.c]
  rfl
theorem stringslite_HasPrefix_0.Γ_does {R : Type} (tab : Tab) (ht : TabOk tab) (g : Nat) : Does (R := R) Tryz.prog (tabTy tyL) tab g ((stringslite_HasPrefix_0.C R).call g) := by
  refine does_of fun xs κ => ?_
  show DoesAt _ _ _ g xs κ (stringslite_HasPrefix_0.Γ g xs κ)
  unfold stringslite_HasPrefix_0.Γ
  split
  · exact DoesAt.none
theorem stringslite_HasPrefix_0.does {R : Type} (tab : Tab) (ht : TabOk tab) (a0 : ByteArray) (a1 : ByteArray) (κ : List SV → Option R) : DoesAt Tryz.prog (tabTy tyL) tab 129 [.str a0, .str a1] κ (stringslite_HasPrefix_0 a0 a1 (fun r0 => κ [.bool r0])) := by
  intro r h w vs Rt Ra bs hpre
  exact runF_sound tyOk (stringslite_HasPrefix_0.Γ_does tab ht) (show Tryz.prog.funcs[129]? = some Tryz.f129 by kernel_rfl) (by kernel_rfl) ((stringslite_HasPrefix_0.run R κ a0 a1).trans h) hpre
def strings_HasPrefix_0.Γ {R : Type} (c1 : stringslite_HasPrefix_0.F R) (g : Nat) (xs : List SV) (κ : List SV → Option R) : Option R :=
  match g with
  | 129 => (match xs with
    | [.str a0, .str a1] => c1 a0 a1 (fun r0 => κ [.bool r0])
    | _ => none)
  | _ => none
def strings_HasPrefix_0.h (n : Nat) : Option (List (Nat × List (Nat × Nat))) :=
  match n with
  | _ => none
def strings_HasPrefix_0.C (R : Type) (c1 : stringslite_HasPrefix_0.F R) : Cfg R := ⟨tabTy tyL, strings_HasPrefix_0.Γ c1, fun _ => false, strings_HasPrefix_0.h⟩
theorem strings_HasPrefix_0.c (R : Type) (c1 : stringslite_HasPrefix_0.F R) (κ : List SV → Option R) (k : Nat) (a0 : ByteArray) (a1 : ByteArray) :
    runF (strings_HasPrefix_0.C R c1) Tryz.f84 10000 k [.str a0, .str a1] κ = strings_HasPrefix_0.e c1 a0 a1 (fun r0 => κ [.bool r0]) := by kernel_rfl
theorem strings_HasPrefix_0.run (R : Type) (κ : List SV → Option R) (a0 : ByteArray) (a1 : ByteArray) :
    runF (strings_HasPrefix_0.C R stringslite_HasPrefix_0) Tryz.f84 10000 fuelK [.str a0, .str a1] κ = strings_HasPrefix_0 a0 a1 (fun r0 => κ [.bool r0]) := by
  rw [strings_HasPrefix_0.c]
  rfl
theorem strings_HasPrefix_0.Γ_does {R : Type} (tab : Tab) (ht : TabOk tab) (g : Nat) : Does (R := R) Tryz.prog (tabTy tyL) tab g ((strings_HasPrefix_0.C R stringslite_HasPrefix_0).call g) := by
  refine does_of fun xs κ => ?_
  show DoesAt _ _ _ g xs κ (strings_HasPrefix_0.Γ stringslite_HasPrefix_0 g xs κ)
  unfold strings_HasPrefix_0.Γ
  split
  · split
    · exact stringslite_HasPrefix_0.does tab ht _ _ κ
    · exact DoesAt.none
  · exact DoesAt.none
theorem strings_HasPrefix_0.does {R : Type} (tab : Tab) (ht : TabOk tab) (a0 : ByteArray) (a1 : ByteArray) (κ : List SV → Option R) : DoesAt Tryz.prog (tabTy tyL) tab 84 [.str a0, .str a1] κ (strings_HasPrefix_0 a0 a1 (fun r0 => κ [.bool r0])) := by
  intro r h w vs Rt Ra bs hpre
  exact runF_sound tyOk (strings_HasPrefix_0.Γ_does tab ht) (show Tryz.prog.funcs[84]? = some Tryz.f84 by kernel_rfl) (by kernel_rfl) ((strings_HasPrefix_0.run R κ a0 a1).trans h) hpre
theorem stringslite_Index_0.does {R : Type} (tab : Tab) (ht : TabOk tab) (a0 a1 : ByteArray) (κ : List SV → Option R) : DoesAt Tryz.prog (tabTy tyL) tab 130 [.str a0, .str a1] κ (stringslite_Index_0 a0 a1 (fun r0 => κ [.int .i64 r0])) := by
  obtain ⟨m, cs, t, fz, ht, hm⟩ := ht
  exact chk_does fun h => strs2_does Tryz.call130 a0 a1 (.int .i64 _) (fun w hw => Any.stringslite_Index Tryz.lays219 a0 a1 m w (of_decide_eq_true h) (tab_cell hm (hw _ _ ht))) (fun c => res_int) κ
def strings_Index_0.Γ {R : Type} (c1 : stringslite_Index_0.F R) (g : Nat) (xs : List SV) (κ : List SV → Option R) : Option R :=
  match g with
  | 130 => (match xs with
    | [.str a0, .str a1] => c1 a0 a1 (fun r0 => κ [.int .i64 r0])
    | _ => none)
  | _ => none
def strings_Index_0.h (n : Nat) : Option (List (Nat × List (Nat × Nat))) :=
  match n with
  | _ => none
def strings_Index_0.C (R : Type) (c1 : stringslite_Index_0.F R) : Cfg R := ⟨tabTy tyL, strings_Index_0.Γ c1, fun _ => false, strings_Index_0.h⟩
theorem strings_Index_0.c (R : Type) (c1 : stringslite_Index_0.F R) (κ : List SV → Option R) (k : Nat) (a0 : ByteArray) (a1 : ByteArray) :
    runF (strings_Index_0.C R c1) Tryz.f85 10000 k [.str a0, .str a1] κ = strings_Index_0.e c1 a0 a1 (fun r0 => κ [.int .i64 r0]) := by kernel_rfl
theorem strings_Index_0.run (R : Type) (κ : List SV → Option R) (a0 : ByteArray) (a1 : ByteArray) :
    runF (strings_Index_0.C R stringslite_Index_0) Tryz.f85 10000 fuelK [.str a0, .str a1] κ = strings_Index_0 a0 a1 (fun r0 => κ [.int .i64 r0]) := by
  rw [strings_Index_0.c]
  rfl
theorem strings_Index_0.Γ_does {R : Type} (tab : Tab) (ht : TabOk tab) (g : Nat) : Does (R := R) Tryz.prog (tabTy tyL) tab g ((strings_Index_0.C R stringslite_Index_0).call g) := by
  refine does_of fun xs κ => ?_
  show DoesAt _ _ _ g xs κ (strings_Index_0.Γ stringslite_Index_0 g xs κ)
  unfold strings_Index_0.Γ
  split
  · split
    · exact stringslite_Index_0.does tab ht _ _ κ
    · exact DoesAt.none
  · exact DoesAt.none
theorem strings_Index_0.does {R : Type} (tab : Tab) (ht : TabOk tab) (a0 : ByteArray) (a1 : ByteArray) (κ : List SV → Option R) : DoesAt Tryz.prog (tabTy tyL) tab 85 [.str a0, .str a1] κ (strings_Index_0 a0 a1 (fun r0 => κ [.int .i64 r0])) := by
  intro r h w vs Rt Ra bs hpre
  exact runF_sound tyOk (strings_Index_0.Γ_does tab ht) (show Tryz.prog.funcs[85]? = some Tryz.f85 by kernel_rfl) (by kernel_rfl) ((strings_Index_0.run R κ a0 a1).trans h) hpre
def letter_Split_0.Γ {R : Type} (c1 : strings_HasPrefix_0.F R) (c2 : strings_Index_0.F R) (g : Nat) (xs : List SV) (κ : List SV → Option R) : Option R :=
  match g with
  | 84 => (match xs with
    | [.str a0, .str a1] => c1 a0 a1 (fun r0 => κ [.bool r0])
    | _ => none)
  | 85 => (match xs with
    | [.str a0, .str a1] => c2 a0 a1 (fun r0 => κ [.int .i64 r0])
    | _ => none)
  | _ => none
def letter_Split_0.h (n : Nat) : Option (List (Nat × List (Nat × Nat))) :=
  match n with
  | _ => none
def letter_Split_0.C (R : Type) (c1 : strings_HasPrefix_0.F R) (c2 : strings_Index_0.F R) : Cfg R := ⟨tabTy tyL, letter_Split_0.Γ c1 c2, fun _ => false, letter_Split_0.h⟩
theorem letter_Split_0.c (R : Type) (c1 : strings_HasPrefix_0.F R) (c2 : strings_Index_0.F R) (κ : List SV → Option R) (k : Nat) (a0 : ByteArray) :
    runF (letter_Split_0.C R c1 c2) Tryz.f44 10000 k [.str a0] κ = letter_Split_0.e c1 c2 a0 (fun r0 r1 => κ [.tup [.str r0, .str r1]]) := by kernel_rfl
theorem letter_Split_0.run (R : Type) (κ : List SV → Option R) (a0 : ByteArray) :
    runF (letter_Split_0.C R strings_HasPrefix_0 strings_Index_0) Tryz.f44 10000 fuelK [.str a0] κ = letter_Split_0 a0 (fun r0 r1 => κ [.tup [.str r0, .str r1]]) := by
  rw [letter_Split_0.c]
  rfl
theorem letter_Split_0.Γ_does {R : Type} (tab : Tab) (ht : TabOk tab) (g : Nat) : Does (R := R) Tryz.prog (tabTy tyL) tab g ((letter_Split_0.C R strings_HasPrefix_0 strings_Index_0).call g) := by
  refine does_of fun xs κ => ?_
  show DoesAt _ _ _ g xs κ (letter_Split_0.Γ strings_HasPrefix_0 strings_Index_0 g xs κ)
  unfold letter_Split_0.Γ
  split
  · split
    · exact strings_HasPrefix_0.does tab ht _ _ κ
    · exact DoesAt.none
  · split
    · exact strings_Index_0.does tab ht _ _ κ
    · exact DoesAt.none
  · exact DoesAt.none
theorem letter_Split_0.does {R : Type} (tab : Tab) (ht : TabOk tab) (a0 : ByteArray) (κ : List SV → Option R) : DoesAt Tryz.prog (tabTy tyL) tab 44 [.str a0] κ (letter_Split_0 a0 (fun r0 r1 => κ [.tup [.str r0, .str r1]])) := by
  intro r h w vs Rt Ra bs hpre
  exact runF_sound tyOk (letter_Split_0.Γ_does tab ht) (show Tryz.prog.funcs[44]? = some Tryz.f44 by kernel_rfl) (by kernel_rfl) ((letter_Split_0.run R κ a0).trans h) hpre
def letter_isBlank_0.Γ {R : Type} (g : Nat) (xs : List SV) (κ : List SV → Option R) : Option R :=
  match g with
  | _ => none
def letter_isBlank_0.h (n : Nat) : Option (List (Nat × List (Nat × Nat))) :=
  match n with
  | _ => none
def letter_isBlank_0.C (R : Type) : Cfg R := ⟨tabTy tyL, letter_isBlank_0.Γ, fun _ => false, letter_isBlank_0.h⟩
theorem letter_isBlank_0.c (R : Type) (κ : List SV → Option R) (k : Nat) (a0 : Int) :
    runF (letter_isBlank_0.C R) Tryz.f55 10000 k [.int .u8 a0] κ = letter_isBlank_0.e a0 (fun r0 => κ [.bool r0]) := by kernel_rfl
theorem letter_isBlank_0.run (R : Type) (κ : List SV → Option R) (a0 : Int) :
    runF (letter_isBlank_0.C R) Tryz.f55 10000 fuelK [.int .u8 a0] κ = letter_isBlank_0 a0 (fun r0 => κ [.bool r0]) := by
  rw [letter_isBlank_0.c]
  rfl
theorem letter_isBlank_0.Γ_does {R : Type} (tab : Tab) (ht : TabOk tab) (g : Nat) : Does (R := R) Tryz.prog (tabTy tyL) tab g ((letter_isBlank_0.C R).call g) := by
  refine does_of fun xs κ => ?_
  show DoesAt _ _ _ g xs κ (letter_isBlank_0.Γ g xs κ)
  unfold letter_isBlank_0.Γ
  split
  · exact DoesAt.none
theorem letter_isBlank_0.does {R : Type} (tab : Tab) (ht : TabOk tab) (a0 : Int) (κ : List SV → Option R) : DoesAt Tryz.prog (tabTy tyL) tab 55 [.int .u8 a0] κ (letter_isBlank_0 a0 (fun r0 => κ [.bool r0])) := by
  intro r h w vs Rt Ra bs hpre
  exact runF_sound tyOk (letter_isBlank_0.Γ_does tab ht) (show Tryz.prog.funcs[55]? = some Tryz.f55 by kernel_rfl) (by kernel_rfl) ((letter_isBlank_0.run R κ a0).trans h) hpre
def letter_begins_0.Γ {R : Type} (c1 : letter_isBlank_0.F R) (g : Nat) (xs : List SV) (κ : List SV → Option R) : Option R :=
  match g with
  | 55 => (match xs with
    | [.int .u8 a0] => c1 a0 (fun r0 => κ [.bool r0])
    | _ => none)
  | _ => none
def letter_begins_0.h (n : Nat) : Option (List (Nat × List (Nat × Nat))) :=
  match n with
  | 2 => some [(0, [(0, 0)]), (4, [(0, 0)])]
  | 5 => some [(0, [(0, 0)]), (4, [(0, 0)]), (5, [(0, 0)])]
  | _ => none
def letter_begins_0.C (R : Type) (c1 : letter_isBlank_0.F R) : Cfg R := ⟨tabTy tyL, letter_begins_0.Γ c1, fun _ => false, letter_begins_0.h⟩
def letter_begins_0.s2 (x0 : ByteArray) (x1 : Int) : St := ⟨mkS 60 [(0, .str x0), (4, .int .i64 x1)], [], top⟩
def letter_begins_0.s5 (x0 : ByteArray) (x1 : Int) (x2 : ByteArray) : St := ⟨mkS 60 [(0, .str x0), (4, .int .i64 x1), (5, .str x2)], [], top⟩
theorem letter_begins_0.c2 (R : Type) (c1 : letter_isBlank_0.F R) (J : List Item → St → Option R) (κ : List SV → Option R) (x0 : ByteArray) (x1 : Int) :
    start (letter_begins_0.C R c1) J (retK (letter_begins_0.C R c1) Tryz.f86.results.toList (List.range 0) κ) 10000 (placeOf Tryz.f86 2) (letter_begins_0.s2 x0 x1) = letter_begins_0.t2 c1 x0 x1 (fun y0 y1 => J (placeOf Tryz.f86 2) (letter_begins_0.s2 y0 y1)) (fun y0 y1 y2 => J (placeOf Tryz.f86 5) (letter_begins_0.s5 y0 y1 y2)) (fun r0 r1 => κ [.tup [.str r0, .bool r1]]) := by kernel_rfl
theorem letter_begins_0.c5 (R : Type) (c1 : letter_isBlank_0.F R) (J : List Item → St → Option R) (κ : List SV → Option R) (x0 : ByteArray) (x1 : Int) (x2 : ByteArray) :
    start (letter_begins_0.C R c1) J (retK (letter_begins_0.C R c1) Tryz.f86.results.toList (List.range 0) κ) 10000 (placeOf Tryz.f86 5) (letter_begins_0.s5 x0 x1 x2) = letter_begins_0.t5 c1 x0 x1 x2 (fun y0 y1 => J (placeOf Tryz.f86 2) (letter_begins_0.s2 y0 y1)) (fun y0 y1 y2 => J (placeOf Tryz.f86 5) (letter_begins_0.s5 y0 y1 y2)) (fun r0 r1 => κ [.tup [.str r0, .bool r1]]) := by kernel_rfl
theorem letter_begins_0.c (R : Type) (c1 : letter_isBlank_0.F R) (κ : List SV → Option R) (k : Nat) (a0 : ByteArray) :
    runF (letter_begins_0.C R c1) Tryz.f86 10000 k [.str a0] κ = letter_begins_0.e c1 a0 (fun y0 y1 => goto (letter_begins_0.C R c1) (retK (letter_begins_0.C R c1) Tryz.f86.results.toList (List.range 0) κ) 10000 k (placeOf Tryz.f86 2) (letter_begins_0.s2 y0 y1)) (fun y0 y1 y2 => goto (letter_begins_0.C R c1) (retK (letter_begins_0.C R c1) Tryz.f86.results.toList (List.range 0) κ) 10000 k (placeOf Tryz.f86 5) (letter_begins_0.s5 y0 y1 y2)) (fun r0 r1 => κ [.tup [.str r0, .bool r1]]) := by kernel_rfl
theorem letter_begins_0.g5 (R : Type) (c1 : letter_isBlank_0.F R) (κ : List SV → Option R) : ∀ (f : Nat) (x0 : ByteArray) (x1 : Int) (x2 : ByteArray), goto (letter_begins_0.C R c1) (retK (letter_begins_0.C R c1) Tryz.f86.results.toList (List.range 0) κ) 10000 f (placeOf Tryz.f86 5) (letter_begins_0.s5 x0 x1 x2) = letter_begins_0.L5 c1 (fun r0 r1 => κ [.tup [.str r0, .bool r1]]) f x0 x1 x2
  | 0, _, _, _ => rfl
  | f + 1, x0, x1, x2 => by
    show start (letter_begins_0.C R c1) (goto (letter_begins_0.C R c1) (retK (letter_begins_0.C R c1) Tryz.f86.results.toList (List.range 0) κ) 10000 f) (retK (letter_begins_0.C R c1) Tryz.f86.results.toList (List.range 0) κ) 10000 (placeOf Tryz.f86 5) (letter_begins_0.s5 x0 x1 x2) = _
    rw [letter_begins_0.c5]
    simp only [letter_begins_0.g5 R c1 κ f]
    rfl
theorem letter_begins_0.g2 (R : Type) (c1 : letter_isBlank_0.F R) (κ : List SV → Option R) : ∀ (f : Nat) (x0 : ByteArray) (x1 : Int), goto (letter_begins_0.C R c1) (retK (letter_begins_0.C R c1) Tryz.f86.results.toList (List.range 0) κ) 10000 f (placeOf Tryz.f86 2) (letter_begins_0.s2 x0 x1) = letter_begins_0.L2 c1 (fun r0 r1 => κ [.tup [.str r0, .bool r1]]) f x0 x1
  | 0, _, _ => rfl
  | f + 1, x0, x1 => by
    show start (letter_begins_0.C R c1) (goto (letter_begins_0.C R c1) (retK (letter_begins_0.C R c1) Tryz.f86.results.toList (List.range 0) κ) 10000 f) (retK (letter_begins_0.C R c1) Tryz.f86.results.toList (List.range 0) κ) 10000 (placeOf Tryz.f86 2) (letter_begins_0.s2 x0 x1) = _
    rw [letter_begins_0.c2]
    simp only [letter_begins_0.g2 R c1 κ f, letter_begins_0.g5 R c1 κ f]
    rfl
theorem letter_begins_0.run (R : Type) (κ : List SV → Option R) (a0 : ByteArray) :
    runF (letter_begins_0.C R letter_isBlank_0) Tryz.f86 10000 fuelK [.str a0] κ = letter_begins_0 a0 (fun r0 r1 => κ [.tup [.str r0, .bool r1]]) := by
  rw [letter_begins_0.c]
  simp only [letter_begins_0.g2 R letter_isBlank_0 κ fuelK, letter_begins_0.g5 R letter_isBlank_0 κ fuelK]
  rfl
theorem letter_begins_0.Γ_does {R : Type} (tab : Tab) (ht : TabOk tab) (g : Nat) : Does (R := R) Tryz.prog (tabTy tyL) tab g ((letter_begins_0.C R letter_isBlank_0).call g) := by
  refine does_of fun xs κ => ?_
  show DoesAt _ _ _ g xs κ (letter_begins_0.Γ letter_isBlank_0 g xs κ)
  unfold letter_begins_0.Γ
  split
  · split
    · exact letter_isBlank_0.does tab ht _ κ
    · exact DoesAt.none
  · exact DoesAt.none
theorem letter_begins_0.does {R : Type} (tab : Tab) (ht : TabOk tab) (a0 : ByteArray) (κ : List SV → Option R) : DoesAt Tryz.prog (tabTy tyL) tab 86 [.str a0] κ (letter_begins_0 a0 (fun r0 r1 => κ [.tup [.str r0, .bool r1]])) := by
  intro r h w vs Rt Ra bs hpre
  exact runF_sound tyOk (letter_begins_0.Γ_does tab ht) (show Tryz.prog.funcs[86]? = some Tryz.f86 by kernel_rfl) (by kernel_rfl) ((letter_begins_0.run R κ a0).trans h) hpre
def letter_rows_0.Γ {R : Type} (c1 : strings_HasPrefix_0.F R) (c2 : strings_Index_0.F R) (c3 : letter_isBlank_0.F R) (c4 : letter_begins_0.F R) (g : Nat) (xs : List SV) (κ : List SV → Option R) : Option R :=
  match g with
  | 55 => (match xs with
    | [.int .u8 a0] => c3 a0 (fun r0 => κ [.bool r0])
    | _ => none)
  | 84 => (match xs with
    | [.str a0, .str a1] => c1 a0 a1 (fun r0 => κ [.bool r0])
    | _ => none)
  | 85 => (match xs with
    | [.str a0, .str a1] => c2 a0 a1 (fun r0 => κ [.int .i64 r0])
    | _ => none)
  | 86 => (match xs with
    | [.str a0] => c4 a0 (fun r0 r1 => κ [.tup [.str r0, .bool r1]])
    | _ => none)
  | _ => none
def letter_rows_0.h (n : Nat) : Option (List (Nat × List (Nat × Nat))) :=
  match n with
  | 3 => some [(0, [(0, 0)]), (3, [(0, 67)]), (4, [(0, 0)]), (5, [(0, 0)])]
  | _ => none
def letter_rows_0.C (R : Type) (c1 : strings_HasPrefix_0.F R) (c2 : strings_Index_0.F R) (c3 : letter_isBlank_0.F R) (c4 : letter_begins_0.F R) : Cfg R := ⟨tabTy tyL, letter_rows_0.Γ c1 c2 c3 c4, fun _ => false, letter_rows_0.h⟩
def letter_rows_0.s3 (x0 : ByteArray) (x1 : Bool) (x2 : ByteArray) (x3 : List AV) : St := ⟨mkS 52 [(0, .str x0), (3, .own 256), (4, .bool x1), (5, .str x2)], [(256, .row 65 x3 true)], top⟩
theorem letter_rows_0.c3 (R : Type) (c1 : strings_HasPrefix_0.F R) (c2 : strings_Index_0.F R) (c3 : letter_isBlank_0.F R) (c4 : letter_begins_0.F R) (J : List Item → St → Option R) (κ : List SV → Option R) (x0 : ByteArray) (x1 : Bool) (x2 : ByteArray) (x3 : List AV) :
    start (letter_rows_0.C R c1 c2 c3 c4) J (retK (letter_rows_0.C R c1 c2 c3 c4) Tryz.f38.results.toList (List.range 0) κ) 10000 (placeOf Tryz.f38 3) (letter_rows_0.s3 x0 x1 x2 x3) = letter_rows_0.t3 c1 c2 c3 c4 x0 x1 x2 x3 (fun y0 y1 y2 y3 => J (placeOf Tryz.f38 3) (letter_rows_0.s3 y0 y1 y2 y3)) (fun r0 => κ [.fr 65 r0 true]) := by kernel_rfl
theorem letter_rows_0.c (R : Type) (c1 : strings_HasPrefix_0.F R) (c2 : strings_Index_0.F R) (c3 : letter_isBlank_0.F R) (c4 : letter_begins_0.F R) (κ : List SV → Option R) (k : Nat) (a0 : ByteArray) :
    runF (letter_rows_0.C R c1 c2 c3 c4) Tryz.f38 10000 k [.str a0] κ = letter_rows_0.e c1 c2 c3 c4 a0 (fun y0 y1 y2 y3 => goto (letter_rows_0.C R c1 c2 c3 c4) (retK (letter_rows_0.C R c1 c2 c3 c4) Tryz.f38.results.toList (List.range 0) κ) 10000 k (placeOf Tryz.f38 3) (letter_rows_0.s3 y0 y1 y2 y3)) (fun r0 => κ [.fr 65 r0 true]) := by kernel_rfl
theorem letter_rows_0.g3 (R : Type) (c1 : strings_HasPrefix_0.F R) (c2 : strings_Index_0.F R) (c3 : letter_isBlank_0.F R) (c4 : letter_begins_0.F R) (κ : List SV → Option R) : ∀ (f : Nat) (x0 : ByteArray) (x1 : Bool) (x2 : ByteArray) (x3 : List AV), goto (letter_rows_0.C R c1 c2 c3 c4) (retK (letter_rows_0.C R c1 c2 c3 c4) Tryz.f38.results.toList (List.range 0) κ) 10000 f (placeOf Tryz.f38 3) (letter_rows_0.s3 x0 x1 x2 x3) = letter_rows_0.L3 c1 c2 c3 c4 (fun r0 => κ [.fr 65 r0 true]) f x0 x1 x2 x3
  | 0, _, _, _, _ => rfl
  | f + 1, x0, x1, x2, x3 => by
    show start (letter_rows_0.C R c1 c2 c3 c4) (goto (letter_rows_0.C R c1 c2 c3 c4) (retK (letter_rows_0.C R c1 c2 c3 c4) Tryz.f38.results.toList (List.range 0) κ) 10000 f) (retK (letter_rows_0.C R c1 c2 c3 c4) Tryz.f38.results.toList (List.range 0) κ) 10000 (placeOf Tryz.f38 3) (letter_rows_0.s3 x0 x1 x2 x3) = _
    rw [letter_rows_0.c3]
    simp only [letter_rows_0.g3 R c1 c2 c3 c4 κ f]
    rfl
theorem letter_rows_0.run (R : Type) (κ : List SV → Option R) (a0 : ByteArray) :
    runF (letter_rows_0.C R strings_HasPrefix_0 strings_Index_0 letter_isBlank_0 letter_begins_0) Tryz.f38 10000 fuelK [.str a0] κ = letter_rows_0 a0 (fun r0 => κ [.fr 65 r0 true]) := by
  rw [letter_rows_0.c]
  simp only [letter_rows_0.g3 R strings_HasPrefix_0 strings_Index_0 letter_isBlank_0 letter_begins_0 κ fuelK]
  rfl
theorem letter_rows_0.Γ_does {R : Type} (tab : Tab) (ht : TabOk tab) (g : Nat) : Does (R := R) Tryz.prog (tabTy tyL) tab g ((letter_rows_0.C R strings_HasPrefix_0 strings_Index_0 letter_isBlank_0 letter_begins_0).call g) := by
  refine does_of fun xs κ => ?_
  show DoesAt _ _ _ g xs κ (letter_rows_0.Γ strings_HasPrefix_0 strings_Index_0 letter_isBlank_0 letter_begins_0 g xs κ)
  unfold letter_rows_0.Γ
  split
  · split
    · exact letter_isBlank_0.does tab ht _ κ
    · exact DoesAt.none
  · split
    · exact strings_HasPrefix_0.does tab ht _ _ κ
    · exact DoesAt.none
  · split
    · exact strings_Index_0.does tab ht _ _ κ
    · exact DoesAt.none
  · split
    · exact letter_begins_0.does tab ht _ κ
    · exact DoesAt.none
  · exact DoesAt.none
theorem letter_rows_0.does {R : Type} (tab : Tab) (ht : TabOk tab) (a0 : ByteArray) (κ : List SV → Option R) : DoesAt Tryz.prog (tabTy tyL) tab 38 [.str a0] κ (letter_rows_0 a0 (fun r0 => κ [.fr 65 r0 true])) := by
  intro r h w vs Rt Ra bs hpre
  exact runF_sound tyOk (letter_rows_0.Γ_does tab ht) (show Tryz.prog.funcs[38]? = some Tryz.f38 by kernel_rfl) (by kernel_rfl) ((letter_rows_0.run R κ a0).trans h) hpre
def stringslite_HasSuffix_0.Γ {R : Type} (g : Nat) (xs : List SV) (κ : List SV → Option R) : Option R :=
  match g with
  | _ => none
def stringslite_HasSuffix_0.h (n : Nat) : Option (List (Nat × List (Nat × Nat))) :=
  match n with
  | _ => none
def stringslite_HasSuffix_0.C (R : Type) : Cfg R := ⟨tabTy tyL, stringslite_HasSuffix_0.Γ, fun _ => false, stringslite_HasSuffix_0.h⟩
theorem stringslite_HasSuffix_0.c (R : Type) (κ : List SV → Option R) (k : Nat) (a0 : ByteArray) (a1 : ByteArray) :
    runF (stringslite_HasSuffix_0.C R) Tryz.f100 10000 k [.str a0, .str a1] κ = stringslite_HasSuffix_0.e a0 a1 (fun r0 => κ [.bool r0]) := by kernel_rfl
theorem stringslite_HasSuffix_0.run (R : Type) (κ : List SV → Option R) (a0 : ByteArray) (a1 : ByteArray) :
    runF (stringslite_HasSuffix_0.C R) Tryz.f100 10000 fuelK [.str a0, .str a1] κ = stringslite_HasSuffix_0 a0 a1 (fun r0 => κ [.bool r0]) := by
  rw [stringslite_HasSuffix_0.c]
  rfl
theorem stringslite_HasSuffix_0.Γ_does {R : Type} (tab : Tab) (ht : TabOk tab) (g : Nat) : Does (R := R) Tryz.prog (tabTy tyL) tab g ((stringslite_HasSuffix_0.C R).call g) := by
  refine does_of fun xs κ => ?_
  show DoesAt _ _ _ g xs κ (stringslite_HasSuffix_0.Γ g xs κ)
  unfold stringslite_HasSuffix_0.Γ
  split
  · exact DoesAt.none
theorem stringslite_HasSuffix_0.does {R : Type} (tab : Tab) (ht : TabOk tab) (a0 : ByteArray) (a1 : ByteArray) (κ : List SV → Option R) : DoesAt Tryz.prog (tabTy tyL) tab 100 [.str a0, .str a1] κ (stringslite_HasSuffix_0 a0 a1 (fun r0 => κ [.bool r0])) := by
  intro r h w vs Rt Ra bs hpre
  exact runF_sound tyOk (stringslite_HasSuffix_0.Γ_does tab ht) (show Tryz.prog.funcs[100]? = some Tryz.f100 by kernel_rfl) (by kernel_rfl) ((stringslite_HasSuffix_0.run R κ a0 a1).trans h) hpre
def stringslite_TrimSuffix_0.Γ {R : Type} (c1 : stringslite_HasSuffix_0.F R) (g : Nat) (xs : List SV) (κ : List SV → Option R) : Option R :=
  match g with
  | 100 => (match xs with
    | [.str a0, .str a1] => c1 a0 a1 (fun r0 => κ [.bool r0])
    | _ => none)
  | _ => none
def stringslite_TrimSuffix_0.h (n : Nat) : Option (List (Nat × List (Nat × Nat))) :=
  match n with
  | _ => none
def stringslite_TrimSuffix_0.C (R : Type) (c1 : stringslite_HasSuffix_0.F R) : Cfg R := ⟨tabTy tyL, stringslite_TrimSuffix_0.Γ c1, fun _ => false, stringslite_TrimSuffix_0.h⟩
theorem stringslite_TrimSuffix_0.c (R : Type) (c1 : stringslite_HasSuffix_0.F R) (κ : List SV → Option R) (k : Nat) (a0 : ByteArray) (a1 : ByteArray) :
    runF (stringslite_TrimSuffix_0.C R c1) Tryz.f87 10000 k [.str a0, .str a1] κ = stringslite_TrimSuffix_0.e c1 a0 a1 (fun r0 => κ [.str r0]) := by kernel_rfl
theorem stringslite_TrimSuffix_0.run (R : Type) (κ : List SV → Option R) (a0 : ByteArray) (a1 : ByteArray) :
    runF (stringslite_TrimSuffix_0.C R stringslite_HasSuffix_0) Tryz.f87 10000 fuelK [.str a0, .str a1] κ = stringslite_TrimSuffix_0 a0 a1 (fun r0 => κ [.str r0]) := by
  rw [stringslite_TrimSuffix_0.c]
  rfl
theorem stringslite_TrimSuffix_0.Γ_does {R : Type} (tab : Tab) (ht : TabOk tab) (g : Nat) : Does (R := R) Tryz.prog (tabTy tyL) tab g ((stringslite_TrimSuffix_0.C R stringslite_HasSuffix_0).call g) := by
  refine does_of fun xs κ => ?_
  show DoesAt _ _ _ g xs κ (stringslite_TrimSuffix_0.Γ stringslite_HasSuffix_0 g xs κ)
  unfold stringslite_TrimSuffix_0.Γ
  split
  · split
    · exact stringslite_HasSuffix_0.does tab ht _ _ κ
    · exact DoesAt.none
  · exact DoesAt.none
theorem stringslite_TrimSuffix_0.does {R : Type} (tab : Tab) (ht : TabOk tab) (a0 : ByteArray) (a1 : ByteArray) (κ : List SV → Option R) : DoesAt Tryz.prog (tabTy tyL) tab 87 [.str a0, .str a1] κ (stringslite_TrimSuffix_0 a0 a1 (fun r0 => κ [.str r0])) := by
  intro r h w vs Rt Ra bs hpre
  exact runF_sound tyOk (stringslite_TrimSuffix_0.Γ_does tab ht) (show Tryz.prog.funcs[87]? = some Tryz.f87 by kernel_rfl) (by kernel_rfl) ((stringslite_TrimSuffix_0.run R κ a0 a1).trans h) hpre
def strings_TrimSuffix_0.Γ {R : Type} (c1 : stringslite_TrimSuffix_0.F R) (g : Nat) (xs : List SV) (κ : List SV → Option R) : Option R :=
  match g with
  | 87 => (match xs with
    | [.str a0, .str a1] => c1 a0 a1 (fun r0 => κ [.str r0])
    | _ => none)
  | _ => none
def strings_TrimSuffix_0.h (n : Nat) : Option (List (Nat × List (Nat × Nat))) :=
  match n with
  | _ => none
def strings_TrimSuffix_0.C (R : Type) (c1 : stringslite_TrimSuffix_0.F R) : Cfg R := ⟨tabTy tyL, strings_TrimSuffix_0.Γ c1, fun _ => false, strings_TrimSuffix_0.h⟩
theorem strings_TrimSuffix_0.c (R : Type) (c1 : stringslite_TrimSuffix_0.F R) (κ : List SV → Option R) (k : Nat) (a0 : ByteArray) (a1 : ByteArray) :
    runF (strings_TrimSuffix_0.C R c1) Tryz.f39 10000 k [.str a0, .str a1] κ = strings_TrimSuffix_0.e c1 a0 a1 (fun r0 => κ [.str r0]) := by kernel_rfl
theorem strings_TrimSuffix_0.run (R : Type) (κ : List SV → Option R) (a0 : ByteArray) (a1 : ByteArray) :
    runF (strings_TrimSuffix_0.C R stringslite_TrimSuffix_0) Tryz.f39 10000 fuelK [.str a0, .str a1] κ = strings_TrimSuffix_0 a0 a1 (fun r0 => κ [.str r0]) := by
  rw [strings_TrimSuffix_0.c]
  rfl
theorem strings_TrimSuffix_0.Γ_does {R : Type} (tab : Tab) (ht : TabOk tab) (g : Nat) : Does (R := R) Tryz.prog (tabTy tyL) tab g ((strings_TrimSuffix_0.C R stringslite_TrimSuffix_0).call g) := by
  refine does_of fun xs κ => ?_
  show DoesAt _ _ _ g xs κ (strings_TrimSuffix_0.Γ stringslite_TrimSuffix_0 g xs κ)
  unfold strings_TrimSuffix_0.Γ
  split
  · split
    · exact stringslite_TrimSuffix_0.does tab ht _ _ κ
    · exact DoesAt.none
  · exact DoesAt.none
theorem strings_TrimSuffix_0.does {R : Type} (tab : Tab) (ht : TabOk tab) (a0 : ByteArray) (a1 : ByteArray) (κ : List SV → Option R) : DoesAt Tryz.prog (tabTy tyL) tab 39 [.str a0, .str a1] κ (strings_TrimSuffix_0 a0 a1 (fun r0 => κ [.str r0])) := by
  intro r h w vs Rt Ra bs hpre
  exact runF_sound tyOk (strings_TrimSuffix_0.Γ_does tab ht) (show Tryz.prog.funcs[39]? = some Tryz.f39 by kernel_rfl) (by kernel_rfl) ((strings_TrimSuffix_0.run R κ a0 a1).trans h) hpre
def strings_trimRightByte_0.Γ {R : Type} (g : Nat) (xs : List SV) (κ : List SV → Option R) : Option R :=
  match g with
  | _ => none
def strings_trimRightByte_0.h (n : Nat) : Option (List (Nat × List (Nat × Nat))) :=
  match n with
  | 1 => some [(0, [(0, 0)]), (1, [(0, 0)])]
  | _ => none
def strings_trimRightByte_0.C (R : Type) : Cfg R := ⟨tabTy tyL, strings_trimRightByte_0.Γ, fun _ => false, strings_trimRightByte_0.h⟩
def strings_trimRightByte_0.s1 (x0 : ByteArray) (x1 : Int) : St := ⟨mkS 23 [(0, .str x0), (1, .int .u8 x1)], [], top⟩
theorem strings_trimRightByte_0.c1 (R : Type) (J : List Item → St → Option R) (κ : List SV → Option R) (x0 : ByteArray) (x1 : Int) :
    start (strings_trimRightByte_0.C R) J (retK (strings_trimRightByte_0.C R) Tryz.f90.results.toList (List.range 0) κ) 10000 (placeOf Tryz.f90 1) (strings_trimRightByte_0.s1 x0 x1) = strings_trimRightByte_0.t1 x0 x1 (fun y0 y1 => J (placeOf Tryz.f90 1) (strings_trimRightByte_0.s1 y0 y1)) (fun r0 => κ [.str r0]) := by kernel_rfl
theorem strings_trimRightByte_0.c (R : Type) (κ : List SV → Option R) (k : Nat) (a0 : ByteArray) (a1 : Int) :
    runF (strings_trimRightByte_0.C R) Tryz.f90 10000 k [.str a0, .int .u8 a1] κ = strings_trimRightByte_0.e a0 a1 (fun y0 y1 => goto (strings_trimRightByte_0.C R) (retK (strings_trimRightByte_0.C R) Tryz.f90.results.toList (List.range 0) κ) 10000 k (placeOf Tryz.f90 1) (strings_trimRightByte_0.s1 y0 y1)) (fun r0 => κ [.str r0]) := by kernel_rfl
theorem strings_trimRightByte_0.g1 (R : Type) (κ : List SV → Option R) : ∀ (f : Nat) (x0 : ByteArray) (x1 : Int), goto (strings_trimRightByte_0.C R) (retK (strings_trimRightByte_0.C R) Tryz.f90.results.toList (List.range 0) κ) 10000 f (placeOf Tryz.f90 1) (strings_trimRightByte_0.s1 x0 x1) = strings_trimRightByte_0.L1 (fun r0 => κ [.str r0]) f x0 x1
  | 0, _, _ => rfl
  | f + 1, x0, x1 => by
    show start (strings_trimRightByte_0.C R) (goto (strings_trimRightByte_0.C R) (retK (strings_trimRightByte_0.C R) Tryz.f90.results.toList (List.range 0) κ) 10000 f) (retK (strings_trimRightByte_0.C R) Tryz.f90.results.toList (List.range 0) κ) 10000 (placeOf Tryz.f90 1) (strings_trimRightByte_0.s1 x0 x1) = _
    rw [strings_trimRightByte_0.c1]
    simp only [strings_trimRightByte_0.g1 R κ f]
    rfl
theorem strings_trimRightByte_0.run (R : Type) (κ : List SV → Option R) (a0 : ByteArray) (a1 : Int) :
    runF (strings_trimRightByte_0.C R) Tryz.f90 10000 fuelK [.str a0, .int .u8 a1] κ = strings_trimRightByte_0 a0 a1 (fun r0 => κ [.str r0]) := by
  rw [strings_trimRightByte_0.c]
  simp only [strings_trimRightByte_0.g1 R κ fuelK]
  rfl
theorem strings_trimRightByte_0.Γ_does {R : Type} (tab : Tab) (ht : TabOk tab) (g : Nat) : Does (R := R) Tryz.prog (tabTy tyL) tab g ((strings_trimRightByte_0.C R).call g) := by
  refine does_of fun xs κ => ?_
  show DoesAt _ _ _ g xs κ (strings_trimRightByte_0.Γ g xs κ)
  unfold strings_trimRightByte_0.Γ
  split
  · exact DoesAt.none
theorem strings_trimRightByte_0.does {R : Type} (tab : Tab) (ht : TabOk tab) (a0 : ByteArray) (a1 : Int) (κ : List SV → Option R) : DoesAt Tryz.prog (tabTy tyL) tab 90 [.str a0, .int .u8 a1] κ (strings_trimRightByte_0 a0 a1 (fun r0 => κ [.str r0])) := by
  intro r h w vs Rt Ra bs hpre
  exact runF_sound tyOk (strings_trimRightByte_0.Γ_does tab ht) (show Tryz.prog.funcs[90]? = some Tryz.f90 by kernel_rfl) (by kernel_rfl) ((strings_trimRightByte_0.run R κ a0 a1).trans h) hpre
def strings_trimLeftByte_0.Γ {R : Type} (g : Nat) (xs : List SV) (κ : List SV → Option R) : Option R :=
  match g with
  | _ => none
def strings_trimLeftByte_0.h (n : Nat) : Option (List (Nat × List (Nat × Nat))) :=
  match n with
  | 1 => some [(0, [(0, 0)]), (1, [(0, 0)])]
  | _ => none
def strings_trimLeftByte_0.C (R : Type) : Cfg R := ⟨tabTy tyL, strings_trimLeftByte_0.Γ, fun _ => false, strings_trimLeftByte_0.h⟩
def strings_trimLeftByte_0.s1 (x0 : ByteArray) (x1 : Int) : St := ⟨mkS 17 [(0, .str x0), (1, .int .u8 x1)], [], top⟩
theorem strings_trimLeftByte_0.c1 (R : Type) (J : List Item → St → Option R) (κ : List SV → Option R) (x0 : ByteArray) (x1 : Int) :
    start (strings_trimLeftByte_0.C R) J (retK (strings_trimLeftByte_0.C R) Tryz.f89.results.toList (List.range 0) κ) 10000 (placeOf Tryz.f89 1) (strings_trimLeftByte_0.s1 x0 x1) = strings_trimLeftByte_0.t1 x0 x1 (fun y0 y1 => J (placeOf Tryz.f89 1) (strings_trimLeftByte_0.s1 y0 y1)) (fun r0 => κ [.str r0]) := by kernel_rfl
theorem strings_trimLeftByte_0.c (R : Type) (κ : List SV → Option R) (k : Nat) (a0 : ByteArray) (a1 : Int) :
    runF (strings_trimLeftByte_0.C R) Tryz.f89 10000 k [.str a0, .int .u8 a1] κ = strings_trimLeftByte_0.e a0 a1 (fun y0 y1 => goto (strings_trimLeftByte_0.C R) (retK (strings_trimLeftByte_0.C R) Tryz.f89.results.toList (List.range 0) κ) 10000 k (placeOf Tryz.f89 1) (strings_trimLeftByte_0.s1 y0 y1)) (fun r0 => κ [.str r0]) := by kernel_rfl
theorem strings_trimLeftByte_0.g1 (R : Type) (κ : List SV → Option R) : ∀ (f : Nat) (x0 : ByteArray) (x1 : Int), goto (strings_trimLeftByte_0.C R) (retK (strings_trimLeftByte_0.C R) Tryz.f89.results.toList (List.range 0) κ) 10000 f (placeOf Tryz.f89 1) (strings_trimLeftByte_0.s1 x0 x1) = strings_trimLeftByte_0.L1 (fun r0 => κ [.str r0]) f x0 x1
  | 0, _, _ => rfl
  | f + 1, x0, x1 => by
    show start (strings_trimLeftByte_0.C R) (goto (strings_trimLeftByte_0.C R) (retK (strings_trimLeftByte_0.C R) Tryz.f89.results.toList (List.range 0) κ) 10000 f) (retK (strings_trimLeftByte_0.C R) Tryz.f89.results.toList (List.range 0) κ) 10000 (placeOf Tryz.f89 1) (strings_trimLeftByte_0.s1 x0 x1) = _
    rw [strings_trimLeftByte_0.c1]
    simp only [strings_trimLeftByte_0.g1 R κ f]
    rfl
theorem strings_trimLeftByte_0.run (R : Type) (κ : List SV → Option R) (a0 : ByteArray) (a1 : Int) :
    runF (strings_trimLeftByte_0.C R) Tryz.f89 10000 fuelK [.str a0, .int .u8 a1] κ = strings_trimLeftByte_0 a0 a1 (fun r0 => κ [.str r0]) := by
  rw [strings_trimLeftByte_0.c]
  simp only [strings_trimLeftByte_0.g1 R κ fuelK]
  rfl
theorem strings_trimLeftByte_0.Γ_does {R : Type} (tab : Tab) (ht : TabOk tab) (g : Nat) : Does (R := R) Tryz.prog (tabTy tyL) tab g ((strings_trimLeftByte_0.C R).call g) := by
  refine does_of fun xs κ => ?_
  show DoesAt _ _ _ g xs κ (strings_trimLeftByte_0.Γ g xs κ)
  unfold strings_trimLeftByte_0.Γ
  split
  · exact DoesAt.none
theorem strings_trimLeftByte_0.does {R : Type} (tab : Tab) (ht : TabOk tab) (a0 : ByteArray) (a1 : Int) (κ : List SV → Option R) : DoesAt Tryz.prog (tabTy tyL) tab 89 [.str a0, .int .u8 a1] κ (strings_trimLeftByte_0 a0 a1 (fun r0 => κ [.str r0])) := by
  intro r h w vs Rt Ra bs hpre
  exact runF_sound tyOk (strings_trimLeftByte_0.Γ_does tab ht) (show Tryz.prog.funcs[89]? = some Tryz.f89 by kernel_rfl) (by kernel_rfl) ((strings_trimLeftByte_0.run R κ a0 a1).trans h) hpre
def strings_makeASCIISet_0.Γ {R : Type} (g : Nat) (xs : List SV) (κ : List SV → Option R) : Option R :=
  match g with
  | _ => none
def strings_makeASCIISet_0.h (n : Nat) : Option (List (Nat × List (Nat × Nat))) :=
  match n with
  | 2 => some [(0, [(0, 0)]), (2, [(0, 0)]), (4, [(0, 0)])]
  | _ => none
def strings_makeASCIISet_0.C (R : Type) : Cfg R := ⟨tabTy tyL, strings_makeASCIISet_0.Γ, fun _ => false, strings_makeASCIISet_0.h⟩
def strings_makeASCIISet_0.s2 (x0 : ByteArray) (x1 : Int) (x2 : List AV) : St := ⟨mkS 21 [(0, .str x0), (2, .ap 192 256), (4, .int .i64 x1)], [(192, .row 4 x2 true)], top⟩
theorem strings_makeASCIISet_0.c2 (R : Type) (J : List Item → St → Option R) (κ : List SV → Option R) (x0 : ByteArray) (x1 : Int) (x2 : List AV) :
    start (strings_makeASCIISet_0.C R) J (retK (strings_makeASCIISet_0.C R) Tryz.f91.results.toList (List.range 0) κ) 10000 (placeOf Tryz.f91 2) (strings_makeASCIISet_0.s2 x0 x1 x2) = strings_makeASCIISet_0.t2 x0 x1 x2 (fun y0 y1 y2 => J (placeOf Tryz.f91 2) (strings_makeASCIISet_0.s2 y0 y1 y2)) (fun r0 r1 => κ [.tup [.ar 4 256 r0, .bool r1]]) := by kernel_rfl
theorem strings_makeASCIISet_0.c (R : Type) (κ : List SV → Option R) (k : Nat) (a0 : ByteArray) :
    runF (strings_makeASCIISet_0.C R) Tryz.f91 10000 k [.str a0] κ = strings_makeASCIISet_0.e a0 (fun y0 y1 y2 => goto (strings_makeASCIISet_0.C R) (retK (strings_makeASCIISet_0.C R) Tryz.f91.results.toList (List.range 0) κ) 10000 k (placeOf Tryz.f91 2) (strings_makeASCIISet_0.s2 y0 y1 y2)) (fun r0 r1 => κ [.tup [.ar 4 256 r0, .bool r1]]) := by kernel_rfl
theorem strings_makeASCIISet_0.g2 (R : Type) (κ : List SV → Option R) : ∀ (f : Nat) (x0 : ByteArray) (x1 : Int) (x2 : List AV), goto (strings_makeASCIISet_0.C R) (retK (strings_makeASCIISet_0.C R) Tryz.f91.results.toList (List.range 0) κ) 10000 f (placeOf Tryz.f91 2) (strings_makeASCIISet_0.s2 x0 x1 x2) = strings_makeASCIISet_0.L2 (fun r0 r1 => κ [.tup [.ar 4 256 r0, .bool r1]]) f x0 x1 x2
  | 0, _, _, _ => rfl
  | f + 1, x0, x1, x2 => by
    show start (strings_makeASCIISet_0.C R) (goto (strings_makeASCIISet_0.C R) (retK (strings_makeASCIISet_0.C R) Tryz.f91.results.toList (List.range 0) κ) 10000 f) (retK (strings_makeASCIISet_0.C R) Tryz.f91.results.toList (List.range 0) κ) 10000 (placeOf Tryz.f91 2) (strings_makeASCIISet_0.s2 x0 x1 x2) = _
    rw [strings_makeASCIISet_0.c2]
    simp only [strings_makeASCIISet_0.g2 R κ f]
    rfl
theorem strings_makeASCIISet_0.run (R : Type) (κ : List SV → Option R) (a0 : ByteArray) :
    runF (strings_makeASCIISet_0.C R) Tryz.f91 10000 fuelK [.str a0] κ = strings_makeASCIISet_0 a0 (fun r0 r1 => κ [.tup [.ar 4 256 r0, .bool r1]]) := by
  rw [strings_makeASCIISet_0.c]
  simp only [strings_makeASCIISet_0.g2 R κ fuelK]
  rfl
theorem strings_makeASCIISet_0.Γ_does {R : Type} (tab : Tab) (ht : TabOk tab) (g : Nat) : Does (R := R) Tryz.prog (tabTy tyL) tab g ((strings_makeASCIISet_0.C R).call g) := by
  refine does_of fun xs κ => ?_
  show DoesAt _ _ _ g xs κ (strings_makeASCIISet_0.Γ g xs κ)
  unfold strings_makeASCIISet_0.Γ
  split
  · exact DoesAt.none
theorem strings_makeASCIISet_0.does {R : Type} (tab : Tab) (ht : TabOk tab) (a0 : ByteArray) (κ : List SV → Option R) : DoesAt Tryz.prog (tabTy tyL) tab 91 [.str a0] κ (strings_makeASCIISet_0 a0 (fun r0 r1 => κ [.tup [.ar 4 256 r0, .bool r1]])) := by
  intro r h w vs Rt Ra bs hpre
  exact runF_sound tyOk (strings_makeASCIISet_0.Γ_does tab ht) (show Tryz.prog.funcs[91]? = some Tryz.f91 by kernel_rfl) (by kernel_rfl) ((strings_makeASCIISet_0.run R κ a0).trans h) hpre
def strings_asciiSet_contains_hi.Γ {R : Type} (g : Nat) (xs : List SV) (κ : List SV → Option R) : Option R :=
  match g with
  | _ => none
def strings_asciiSet_contains_hi.h (n : Nat) : Option (List (Nat × List (Nat × Nat))) :=
  match n with
  | _ => none
def strings_asciiSet_contains_hi.C (R : Type) : Cfg R := ⟨tabTy tyL, strings_asciiSet_contains_hi.Γ, fun _ => false, strings_asciiSet_contains_hi.h⟩
theorem strings_asciiSet_contains_hi.c (R : Type) (κ : List SV → Option R) (k : Nat) (a0 : List AV) (a1 : Int) :
    runF (strings_asciiSet_contains_hi.C R) Tryz.f132 10000 k [.ra 4 256 a0 true, .int .u8 a1] κ = strings_asciiSet_contains_hi.e a0 a1 (fun r0 => κ [.bool r0]) := by kernel_rfl
theorem strings_asciiSet_contains_hi.run (R : Type) (κ : List SV → Option R) (a0 : List AV) (a1 : Int) :
    runF (strings_asciiSet_contains_hi.C R) Tryz.f132 10000 fuelK [.ra 4 256 a0 true, .int .u8 a1] κ = strings_asciiSet_contains_hi a0 a1 (fun r0 => κ [.bool r0]) := by
  rw [strings_asciiSet_contains_hi.c]
  rfl
theorem strings_asciiSet_contains_hi.Γ_does {R : Type} (tab : Tab) (ht : TabOk tab) (g : Nat) : Does (R := R) Tryz.prog (tabTy tyL) tab g ((strings_asciiSet_contains_hi.C R).call g) := by
  refine does_of fun xs κ => ?_
  show DoesAt _ _ _ g xs κ (strings_asciiSet_contains_hi.Γ g xs κ)
  unfold strings_asciiSet_contains_hi.Γ
  split
  · exact DoesAt.none
theorem strings_asciiSet_contains_hi.does {R : Type} (tab : Tab) (ht : TabOk tab) (a0 : List AV) (a1 : Int) (κ : List SV → Option R) : DoesAt Tryz.prog (tabTy tyL) tab 132 [.ra 4 256 a0 true, .int .u8 a1] κ (strings_asciiSet_contains_hi a0 a1 (fun r0 => κ [.bool r0])) := by
  intro r h w vs Rt Ra bs hpre
  exact runF_sound tyOk (strings_asciiSet_contains_hi.Γ_does tab ht) (show Tryz.prog.funcs[132]? = some Tryz.f132 by kernel_rfl) (by kernel_rfl) ((strings_asciiSet_contains_hi.run R κ a0 a1).trans h) hpre
def strings_trimRightASCII_sh.Γ {R : Type} (c1 : strings_asciiSet_contains_hi.F R) (g : Nat) (xs : List SV) (κ : List SV → Option R) : Option R :=
  match g with
  | 132 => (match xs with
    | [.ra 4 256 a0 true, .int .u8 a1] => c1 a0 a1 (fun r0 => κ [.bool r0])
    | _ => none)
  | _ => none
def strings_trimRightASCII_sh.h (n : Nat) : Option (List (Nat × List (Nat × Nat))) :=
  match n with
  | 1 => some [(0, [(0, 0)]), (1, [(0, 0)])]
  | _ => none
def strings_trimRightASCII_sh.C (R : Type) (c1 : strings_asciiSet_contains_hi.F R) : Cfg R := ⟨tabTy tyL, strings_trimRightASCII_sh.Γ c1, fun g => Nat.beq g 132, strings_trimRightASCII_sh.h⟩
def strings_trimRightASCII_sh.s1 (x0 : ByteArray) (x1 : List AV) : St := ⟨mkS 22 [(0, .str x0), (1, .ra 4 256 x1 true)], [], top⟩
theorem strings_trimRightASCII_sh.c1 (R : Type) (c1 : strings_asciiSet_contains_hi.F R) (J : List Item → St → Option R) (κ : List SV → Option R) (x0 : ByteArray) (x1 : List AV) :
    start (strings_trimRightASCII_sh.C R c1) J (retK (strings_trimRightASCII_sh.C R c1) Tryz.f93.results.toList (List.range 0) κ) 10000 (placeOf Tryz.f93 1) (strings_trimRightASCII_sh.s1 x0 x1) = strings_trimRightASCII_sh.t1 c1 x0 x1 (fun y0 y1 => J (placeOf Tryz.f93 1) (strings_trimRightASCII_sh.s1 y0 y1)) (fun r0 => κ [.str r0]) := by kernel_rfl
theorem strings_trimRightASCII_sh.c (R : Type) (c1 : strings_asciiSet_contains_hi.F R) (κ : List SV → Option R) (k : Nat) (a0 : ByteArray) (a1 : List AV) :
    runF (strings_trimRightASCII_sh.C R c1) Tryz.f93 10000 k [.str a0, .ra 4 256 a1 true] κ = strings_trimRightASCII_sh.e c1 a0 a1 (fun y0 y1 => goto (strings_trimRightASCII_sh.C R c1) (retK (strings_trimRightASCII_sh.C R c1) Tryz.f93.results.toList (List.range 0) κ) 10000 k (placeOf Tryz.f93 1) (strings_trimRightASCII_sh.s1 y0 y1)) (fun r0 => κ [.str r0]) := by kernel_rfl
theorem strings_trimRightASCII_sh.g1 (R : Type) (c1 : strings_asciiSet_contains_hi.F R) (κ : List SV → Option R) : ∀ (f : Nat) (x0 : ByteArray) (x1 : List AV), goto (strings_trimRightASCII_sh.C R c1) (retK (strings_trimRightASCII_sh.C R c1) Tryz.f93.results.toList (List.range 0) κ) 10000 f (placeOf Tryz.f93 1) (strings_trimRightASCII_sh.s1 x0 x1) = strings_trimRightASCII_sh.L1 c1 (fun r0 => κ [.str r0]) f x0 x1
  | 0, _, _ => rfl
  | f + 1, x0, x1 => by
    show start (strings_trimRightASCII_sh.C R c1) (goto (strings_trimRightASCII_sh.C R c1) (retK (strings_trimRightASCII_sh.C R c1) Tryz.f93.results.toList (List.range 0) κ) 10000 f) (retK (strings_trimRightASCII_sh.C R c1) Tryz.f93.results.toList (List.range 0) κ) 10000 (placeOf Tryz.f93 1) (strings_trimRightASCII_sh.s1 x0 x1) = _
    rw [strings_trimRightASCII_sh.c1]
    simp only [strings_trimRightASCII_sh.g1 R c1 κ f]
    rfl
theorem strings_trimRightASCII_sh.run (R : Type) (κ : List SV → Option R) (a0 : ByteArray) (a1 : List AV) :
    runF (strings_trimRightASCII_sh.C R strings_asciiSet_contains_hi) Tryz.f93 10000 fuelK [.str a0, .ra 4 256 a1 true] κ = strings_trimRightASCII_sh a0 a1 (fun r0 => κ [.str r0]) := by
  rw [strings_trimRightASCII_sh.c]
  simp only [strings_trimRightASCII_sh.g1 R strings_asciiSet_contains_hi κ fuelK]
  rfl
theorem strings_trimRightASCII_sh.Γ_does {R : Type} (tab : Tab) (ht : TabOk tab) (g : Nat) : Does (R := R) Tryz.prog (tabTy tyL) tab g ((strings_trimRightASCII_sh.C R strings_asciiSet_contains_hi).call g) := by
  refine does_of fun xs κ => ?_
  show DoesAt _ _ _ g xs κ (strings_trimRightASCII_sh.Γ strings_asciiSet_contains_hi g xs κ)
  unfold strings_trimRightASCII_sh.Γ
  split
  · split
    · exact strings_asciiSet_contains_hi.does tab ht _ _ κ
    · exact DoesAt.none
  · exact DoesAt.none
theorem strings_trimRightASCII_sh.does {R : Type} (tab : Tab) (ht : TabOk tab) (a0 : ByteArray) (a1 : List AV) (κ : List SV → Option R) : DoesAt Tryz.prog (tabTy tyL) tab 93 [.str a0, .ra 4 256 a1 true] κ (strings_trimRightASCII_sh a0 a1 (fun r0 => κ [.str r0])) := by
  intro r h w vs Rt Ra bs hpre
  exact runF_sound tyOk (strings_trimRightASCII_sh.Γ_does tab ht) (show Tryz.prog.funcs[93]? = some Tryz.f93 by kernel_rfl) (by kernel_rfl) ((strings_trimRightASCII_sh.run R κ a0 a1).trans h) hpre
def strings_trimLeftASCII_sh.Γ {R : Type} (c1 : strings_asciiSet_contains_hi.F R) (g : Nat) (xs : List SV) (κ : List SV → Option R) : Option R :=
  match g with
  | 132 => (match xs with
    | [.ra 4 256 a0 true, .int .u8 a1] => c1 a0 a1 (fun r0 => κ [.bool r0])
    | _ => none)
  | _ => none
def strings_trimLeftASCII_sh.h (n : Nat) : Option (List (Nat × List (Nat × Nat))) :=
  match n with
  | 1 => some [(0, [(0, 0)]), (1, [(0, 0)])]
  | _ => none
def strings_trimLeftASCII_sh.C (R : Type) (c1 : strings_asciiSet_contains_hi.F R) : Cfg R := ⟨tabTy tyL, strings_trimLeftASCII_sh.Γ c1, fun g => Nat.beq g 132, strings_trimLeftASCII_sh.h⟩
def strings_trimLeftASCII_sh.s1 (x0 : ByteArray) (x1 : List AV) : St := ⟨mkS 16 [(0, .str x0), (1, .ra 4 256 x1 true)], [], top⟩
theorem strings_trimLeftASCII_sh.c1 (R : Type) (c1 : strings_asciiSet_contains_hi.F R) (J : List Item → St → Option R) (κ : List SV → Option R) (x0 : ByteArray) (x1 : List AV) :
    start (strings_trimLeftASCII_sh.C R c1) J (retK (strings_trimLeftASCII_sh.C R c1) Tryz.f92.results.toList (List.range 0) κ) 10000 (placeOf Tryz.f92 1) (strings_trimLeftASCII_sh.s1 x0 x1) = strings_trimLeftASCII_sh.t1 c1 x0 x1 (fun y0 y1 => J (placeOf Tryz.f92 1) (strings_trimLeftASCII_sh.s1 y0 y1)) (fun r0 => κ [.str r0]) := by kernel_rfl
theorem strings_trimLeftASCII_sh.c (R : Type) (c1 : strings_asciiSet_contains_hi.F R) (κ : List SV → Option R) (k : Nat) (a0 : ByteArray) (a1 : List AV) :
    runF (strings_trimLeftASCII_sh.C R c1) Tryz.f92 10000 k [.str a0, .ra 4 256 a1 true] κ = strings_trimLeftASCII_sh.e c1 a0 a1 (fun y0 y1 => goto (strings_trimLeftASCII_sh.C R c1) (retK (strings_trimLeftASCII_sh.C R c1) Tryz.f92.results.toList (List.range 0) κ) 10000 k (placeOf Tryz.f92 1) (strings_trimLeftASCII_sh.s1 y0 y1)) (fun r0 => κ [.str r0]) := by kernel_rfl
theorem strings_trimLeftASCII_sh.g1 (R : Type) (c1 : strings_asciiSet_contains_hi.F R) (κ : List SV → Option R) : ∀ (f : Nat) (x0 : ByteArray) (x1 : List AV), goto (strings_trimLeftASCII_sh.C R c1) (retK (strings_trimLeftASCII_sh.C R c1) Tryz.f92.results.toList (List.range 0) κ) 10000 f (placeOf Tryz.f92 1) (strings_trimLeftASCII_sh.s1 x0 x1) = strings_trimLeftASCII_sh.L1 c1 (fun r0 => κ [.str r0]) f x0 x1
  | 0, _, _ => rfl
  | f + 1, x0, x1 => by
    show start (strings_trimLeftASCII_sh.C R c1) (goto (strings_trimLeftASCII_sh.C R c1) (retK (strings_trimLeftASCII_sh.C R c1) Tryz.f92.results.toList (List.range 0) κ) 10000 f) (retK (strings_trimLeftASCII_sh.C R c1) Tryz.f92.results.toList (List.range 0) κ) 10000 (placeOf Tryz.f92 1) (strings_trimLeftASCII_sh.s1 x0 x1) = _
    rw [strings_trimLeftASCII_sh.c1]
    simp only [strings_trimLeftASCII_sh.g1 R c1 κ f]
    rfl
theorem strings_trimLeftASCII_sh.run (R : Type) (κ : List SV → Option R) (a0 : ByteArray) (a1 : List AV) :
    runF (strings_trimLeftASCII_sh.C R strings_asciiSet_contains_hi) Tryz.f92 10000 fuelK [.str a0, .ra 4 256 a1 true] κ = strings_trimLeftASCII_sh a0 a1 (fun r0 => κ [.str r0]) := by
  rw [strings_trimLeftASCII_sh.c]
  simp only [strings_trimLeftASCII_sh.g1 R strings_asciiSet_contains_hi κ fuelK]
  rfl
theorem strings_trimLeftASCII_sh.Γ_does {R : Type} (tab : Tab) (ht : TabOk tab) (g : Nat) : Does (R := R) Tryz.prog (tabTy tyL) tab g ((strings_trimLeftASCII_sh.C R strings_asciiSet_contains_hi).call g) := by
  refine does_of fun xs κ => ?_
  show DoesAt _ _ _ g xs κ (strings_trimLeftASCII_sh.Γ strings_asciiSet_contains_hi g xs κ)
  unfold strings_trimLeftASCII_sh.Γ
  split
  · split
    · exact strings_asciiSet_contains_hi.does tab ht _ _ κ
    · exact DoesAt.none
  · exact DoesAt.none
theorem strings_trimLeftASCII_sh.does {R : Type} (tab : Tab) (ht : TabOk tab) (a0 : ByteArray) (a1 : List AV) (κ : List SV → Option R) : DoesAt Tryz.prog (tabTy tyL) tab 92 [.str a0, .ra 4 256 a1 true] κ (strings_trimLeftASCII_sh a0 a1 (fun r0 => κ [.str r0])) := by
  intro r h w vs Rt Ra bs hpre
  exact runF_sound tyOk (strings_trimLeftASCII_sh.Γ_does tab ht) (show Tryz.prog.funcs[92]? = some Tryz.f92 by kernel_rfl) (by kernel_rfl) ((strings_trimLeftASCII_sh.run R κ a0 a1).trans h) hpre
def utf8_RuneStart_0.Γ {R : Type} (g : Nat) (xs : List SV) (κ : List SV → Option R) : Option R :=
  match g with
  | _ => none
def utf8_RuneStart_0.h (n : Nat) : Option (List (Nat × List (Nat × Nat))) :=
  match n with
  | _ => none
def utf8_RuneStart_0.C (R : Type) : Cfg R := ⟨tabTy tyL, utf8_RuneStart_0.Γ, fun _ => false, utf8_RuneStart_0.h⟩
theorem utf8_RuneStart_0.c (R : Type) (κ : List SV → Option R) (k : Nat) (a0 : Int) :
    runF (utf8_RuneStart_0.C R) Tryz.f156 10000 k [.int .u8 a0] κ = utf8_RuneStart_0.e a0 (fun r0 => κ [.bool r0]) := by kernel_rfl
theorem utf8_RuneStart_0.run (R : Type) (κ : List SV → Option R) (a0 : Int) :
    runF (utf8_RuneStart_0.C R) Tryz.f156 10000 fuelK [.int .u8 a0] κ = utf8_RuneStart_0 a0 (fun r0 => κ [.bool r0]) := by
  rw [utf8_RuneStart_0.c]
  rfl
theorem utf8_RuneStart_0.Γ_does {R : Type} (tab : Tab) (ht : TabOk tab) (g : Nat) : Does (R := R) Tryz.prog (tabTy tyL) tab g ((utf8_RuneStart_0.C R).call g) := by
  refine does_of fun xs κ => ?_
  show DoesAt _ _ _ g xs κ (utf8_RuneStart_0.Γ g xs κ)
  unfold utf8_RuneStart_0.Γ
  split
  · exact DoesAt.none
theorem utf8_RuneStart_0.does {R : Type} (tab : Tab) (ht : TabOk tab) (a0 : Int) (κ : List SV → Option R) : DoesAt Tryz.prog (tabTy tyL) tab 156 [.int .u8 a0] κ (utf8_RuneStart_0 a0 (fun r0 => κ [.bool r0])) := by
  intro r h w vs Rt Ra bs hpre
  exact runF_sound tyOk (utf8_RuneStart_0.Γ_does tab ht) (show Tryz.prog.funcs[156]? = some Tryz.f156 by kernel_rfl) (by kernel_rfl) ((utf8_RuneStart_0.run R κ a0).trans h) hpre
def strings_Trim_0.Γ {R : Type} (c1 : strings_trimRightByte_0.F R) (c2 : strings_trimLeftByte_0.F R) (c3 : strings_makeASCIISet_0.F R) (c4 : strings_trimRightASCII_sh.F R) (c5 : strings_trimLeftASCII_sh.F R) (g : Nat) (xs : List SV) (κ : List SV → Option R) : Option R :=
  match g with
  | 89 => (match xs with
    | [.str a0, .int .u8 a1] => c2 a0 a1 (fun r0 => κ [.str r0])
    | _ => none)
  | 90 => (match xs with
    | [.str a0, .int .u8 a1] => c1 a0 a1 (fun r0 => κ [.str r0])
    | _ => none)
  | 91 => (match xs with
    | [.str a0] => c3 a0 (fun r0 r1 => κ [.tup [.ar 4 256 r0, .bool r1]])
    | _ => none)
  | 92 => (match xs with
    | [.str a0, .ra 4 256 a1 true] => c5 a0 a1 (fun r0 => κ [.str r0])
    | _ => none)
  | 93 => (match xs with
    | [.str a0, .ra 4 256 a1 true] => c4 a0 a1 (fun r0 => κ [.str r0])
    | _ => none)
  | _ => none
def strings_Trim_0.h (n : Nat) : Option (List (Nat × List (Nat × Nat))) :=
  match n with
  | _ => none
def strings_Trim_0.C (R : Type) (c1 : strings_trimRightByte_0.F R) (c2 : strings_trimLeftByte_0.F R) (c3 : strings_makeASCIISet_0.F R) (c4 : strings_trimRightASCII_sh.F R) (c5 : strings_trimLeftASCII_sh.F R) : Cfg R := ⟨tabTy tyL, strings_Trim_0.Γ c1 c2 c3 c4 c5, fun g => Nat.beq g 92 || Nat.beq g 93, strings_Trim_0.h⟩
theorem strings_Trim_0.c (R : Type) (c1 : strings_trimRightByte_0.F R) (c2 : strings_trimLeftByte_0.F R) (c3 : strings_makeASCIISet_0.F R) (c4 : strings_trimRightASCII_sh.F R) (c5 : strings_trimLeftASCII_sh.F R) (κ : List SV → Option R) (k : Nat) (a0 : ByteArray) (a1 : ByteArray) :
    runF (strings_Trim_0.C R c1 c2 c3 c4 c5) Tryz.f41 10000 k [.str a0, .str a1] κ = strings_Trim_0.e c1 c2 c3 c4 c5 a0 a1 (fun r0 => κ [.str r0]) := by kernel_rfl
theorem strings_Trim_0.run (R : Type) (κ : List SV → Option R) (a0 : ByteArray) (a1 : ByteArray) :
    runF (strings_Trim_0.C R strings_trimRightByte_0 strings_trimLeftByte_0 strings_makeASCIISet_0 strings_trimRightASCII_sh strings_trimLeftASCII_sh) Tryz.f41 10000 fuelK [.str a0, .str a1] κ = strings_Trim_0 a0 a1 (fun r0 => κ [.str r0]) := by
  rw [strings_Trim_0.c]
  rfl
theorem strings_Trim_0.Γ_does {R : Type} (tab : Tab) (ht : TabOk tab) (g : Nat) : Does (R := R) Tryz.prog (tabTy tyL) tab g ((strings_Trim_0.C R strings_trimRightByte_0 strings_trimLeftByte_0 strings_makeASCIISet_0 strings_trimRightASCII_sh strings_trimLeftASCII_sh).call g) := by
  refine does_of fun xs κ => ?_
  show DoesAt _ _ _ g xs κ (strings_Trim_0.Γ strings_trimRightByte_0 strings_trimLeftByte_0 strings_makeASCIISet_0 strings_trimRightASCII_sh strings_trimLeftASCII_sh g xs κ)
  unfold strings_Trim_0.Γ
  split
  · split
    · exact strings_trimLeftByte_0.does tab ht _ _ κ
    · exact DoesAt.none
  · split
    · exact strings_trimRightByte_0.does tab ht _ _ κ
    · exact DoesAt.none
  · split
    · exact strings_makeASCIISet_0.does tab ht _ κ
    · exact DoesAt.none
  · split
    · exact strings_trimLeftASCII_sh.does tab ht _ _ κ
    · exact DoesAt.none
  · split
    · exact strings_trimRightASCII_sh.does tab ht _ _ κ
    · exact DoesAt.none
  · exact DoesAt.none
theorem strings_Trim_0.does {R : Type} (tab : Tab) (ht : TabOk tab) (a0 : ByteArray) (a1 : ByteArray) (κ : List SV → Option R) : DoesAt Tryz.prog (tabTy tyL) tab 41 [.str a0, .str a1] κ (strings_Trim_0 a0 a1 (fun r0 => κ [.str r0])) := by
  intro r h w vs Rt Ra bs hpre
  exact runF_sound tyOk (strings_Trim_0.Γ_does tab ht) (show Tryz.prog.funcs[41]? = some Tryz.f41 by kernel_rfl) (by kernel_rfl) ((strings_Trim_0.run R κ a0 a1).trans h) hpre
end Go.Proofs.Ab
