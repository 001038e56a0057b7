/- Each plain function is what a call of its Go function does, checked by the kernel (no condition but what its checks ask). -/
import Derived.Test.YtnipklplcipaiaaGreatDoorSeat
import Derived.Test.YtnipklplcipaiaaGreatDoorText
import Derived.Test.YtnipklplcipaiaaGreatDoorCheck3
/- Each typed text is what its function does: checked by the kernel. -/
namespace Go.Proofs.Ab
set_option linter.unusedVariables false
set_option maxRecDepth 4000
open Go Go.Proofs
set_option maxRecDepth 100000
def postbagref1_Same_0.Γ {R : Type} (c1 : postbagref1_Lower_0.F R) (g : Nat) (xs : List SV) (κ : List SV → Option R) : Option R :=
  match g with
  | 101 => (match xs with
    | [.str a0] => c1 a0 (fun r0 => κ [.str r0])
    | _ => none)
  | _ => none
def postbagref1_Same_0.h (n : Nat) : Option (List (Nat × List (Nat × Nat))) :=
  match n with
  | _ => none
def postbagref1_Same_0.C (R : Type) (c1 : postbagref1_Lower_0.F R) : Cfg R := ⟨tabTy tyL, postbagref1_Same_0.Γ c1, fun _ => false, postbagref1_Same_0.h⟩
theorem postbagref1_Same_0.c (R : Type) (c1 : postbagref1_Lower_0.F R) (κ : List SV → Option R) (k : Nat) (a0 : ByteArray) (a1 : ByteArray) :
    runF (postbagref1_Same_0.C R c1) Tryz.f50 10000 k [.str a0, .str a1] κ = postbagref1_Same_0.e c1 a0 a1 (fun r0 => κ [.bool r0]) := by kernel_rfl
theorem postbagref1_Same_0.run (R : Type) (κ : List SV → Option R) (a0 : ByteArray) (a1 : ByteArray) :
    runF (postbagref1_Same_0.C R postbagref1_Lower_0) Tryz.f50 10000 fuelK [.str a0, .str a1] κ = postbagref1_Same_0 a0 a1 (fun r0 => κ [.bool r0]) := by
  rw [postbagref1_Same_0.c]
  rfl
theorem postbagref1_Same_0.Γ_does {R : Type} (tab : Tab) (ht : TabOk tab) (g : Nat) : Does (R := R) Tryz.prog (tabTy tyL) tab g ((postbagref1_Same_0.C R postbagref1_Lower_0).call g) := by
  refine does_of fun xs κ => ?_
  show DoesAt _ _ _ g xs κ (postbagref1_Same_0.Γ postbagref1_Lower_0 g xs κ)
  unfold postbagref1_Same_0.Γ
  split
  · split
    · exact postbagref1_Lower_0.does tab ht _ κ
    · exact DoesAt.none
  · exact DoesAt.none
theorem postbagref1_Same_0.does {R : Type} (tab : Tab) (ht : TabOk tab) (a0 : ByteArray) (a1 : ByteArray) (κ : List SV → Option R) : DoesAt Tryz.prog (tabTy tyL) tab 50 [.str a0, .str a1] κ (postbagref1_Same_0 a0 a1 (fun r0 => κ [.bool r0])) := by
  intro r h w vs Rt Ra bs hpre
  exact runF_sound tyOk (postbagref1_Same_0.Γ_does tab ht) (show Tryz.prog.funcs[50]? = some Tryz.f50 by kernel_rfl) (by kernel_rfl) ((postbagref1_Same_0.run R κ a0 a1).trans h) hpre
def postbagref5_Pick_0.Γ {R : Type} (c1 : postbagref5_head_0.F R) (c2 : postbagref1_Same_0.F R) (c3 : postbagref5_bare_0.F R) (g : Nat) (xs : List SV) (κ : List SV → Option R) : Option R :=
  match g with
  | 42 => (match xs with
    | [.str a0] => c1 a0 (fun r0 => κ [.fr 42 r0 true])
    | _ => none)
  | 50 => (match xs with
    | [.str a0, .str a1] => c2 a0 a1 (fun r0 => κ [.bool r0])
    | _ => none)
  | 51 => (match xs with
    | [.str a0] => c3 a0 (fun r0 => κ [.str r0])
    | _ => none)
  | _ => none
def postbagref5_Pick_0.h (n : Nat) : Option (List (Nat × List (Nat × Nat))) :=
  match n with
  | 4 => some [(1, [(0, 0)]), (2, [(0, 0)]), (7, [(0, 0)]), (8, [(0, 0)]), (9, [(0, 0)])]
  | 8 => some [(1, [(0, 0)]), (2, [(0, 0)]), (7, [(0, 0)]), (8, [(0, 0)]), (9, [(0, 0)]), (10, [(0, 0)]), (11, [(0, 0)])]
  | _ => none
def postbagref5_Pick_0.C (R : Type) (c1 : postbagref5_head_0.F R) (c2 : postbagref1_Same_0.F R) (c3 : postbagref5_bare_0.F R) : Cfg R := ⟨tabTy tyL, postbagref5_Pick_0.Γ c1 c2 c3, fun _ => false, postbagref5_Pick_0.h⟩
def postbagref5_Pick_0.s4 (x0 : Bool) (x1 : List AV) (x2 : ByteArray) (x3 : Int) (x4 : List AV) : St := ⟨mkS 95 [(1, .bool x0), (2, .ro 9 x1 true), (7, .str x2), (8, .own 576), (9, .int .i64 x3)], [(576, .row 42 x4 true)], top⟩
def postbagref5_Pick_0.s8 (x0 : Bool) (x1 : List AV) (x2 : ByteArray) (x3 : Int) (x4 : Bool) (x5 : Int) (x6 : List AV) : St := ⟨mkS 95 [(1, .bool x0), (2, .ro 9 x1 true), (7, .str x2), (8, .own 576), (9, .int .i64 x3), (10, .bool x4), (11, .int .i64 x5)], [(576, .row 42 x6 true)], top⟩
theorem postbagref5_Pick_0.c4 (R : Type) (c1 : postbagref5_head_0.F R) (c2 : postbagref1_Same_0.F R) (c3 : postbagref5_bare_0.F R) (J : List Item → St → Option R) (κ : List SV → Option R) (x0 : Bool) (x1 : List AV) (x2 : ByteArray) (x3 : Int) (x4 : List AV) :
    start (postbagref5_Pick_0.C R c1 c2 c3) J (retK (postbagref5_Pick_0.C R c1 c2 c3) Tryz.f16.results.toList (List.range 0) κ) 10000 (placeOf Tryz.f16 4) (postbagref5_Pick_0.s4 x0 x1 x2 x3 x4) = postbagref5_Pick_0.t4 c1 c2 c3 x0 x1 x2 x3 x4 (fun y0 y1 y2 y3 y4 => J (placeOf Tryz.f16 4) (postbagref5_Pick_0.s4 y0 y1 y2 y3 y4)) (fun y0 y1 y2 y3 y4 y5 y6 => J (placeOf Tryz.f16 8) (postbagref5_Pick_0.s8 y0 y1 y2 y3 y4 y5 y6)) (fun r0 => κ [.str r0]) := by kernel_rfl
theorem postbagref5_Pick_0.c8 (R : Type) (c1 : postbagref5_head_0.F R) (c2 : postbagref1_Same_0.F R) (c3 : postbagref5_bare_0.F R) (J : List Item → St → Option R) (κ : List SV → Option R) (x0 : Bool) (x1 : List AV) (x2 : ByteArray) (x3 : Int) (x4 : Bool) (x5 : Int) (x6 : List AV) :
    start (postbagref5_Pick_0.C R c1 c2 c3) J (retK (postbagref5_Pick_0.C R c1 c2 c3) Tryz.f16.results.toList (List.range 0) κ) 10000 (placeOf Tryz.f16 8) (postbagref5_Pick_0.s8 x0 x1 x2 x3 x4 x5 x6) = postbagref5_Pick_0.t8 c1 c2 c3 x0 x1 x2 x3 x4 x5 x6 (fun y0 y1 y2 y3 y4 => J (placeOf Tryz.f16 4) (postbagref5_Pick_0.s4 y0 y1 y2 y3 y4)) (fun y0 y1 y2 y3 y4 y5 y6 => J (placeOf Tryz.f16 8) (postbagref5_Pick_0.s8 y0 y1 y2 y3 y4 y5 y6)) (fun r0 => κ [.str r0]) := by kernel_rfl
theorem postbagref5_Pick_0.c (R : Type) (c1 : postbagref5_head_0.F R) (c2 : postbagref1_Same_0.F R) (c3 : postbagref5_bare_0.F R) (κ : List SV → Option R) (k : Nat) (a0 : ByteArray) (a1 : Bool) (a2 : List AV) :
    runF (postbagref5_Pick_0.C R c1 c2 c3) Tryz.f16 10000 k [.str a0, .bool a1, .ro 9 a2 true] κ = postbagref5_Pick_0.e c1 c2 c3 a0 a1 a2 (fun y0 y1 y2 y3 y4 => goto (postbagref5_Pick_0.C R c1 c2 c3) (retK (postbagref5_Pick_0.C R c1 c2 c3) Tryz.f16.results.toList (List.range 0) κ) 10000 k (placeOf Tryz.f16 4) (postbagref5_Pick_0.s4 y0 y1 y2 y3 y4)) (fun y0 y1 y2 y3 y4 y5 y6 => goto (postbagref5_Pick_0.C R c1 c2 c3) (retK (postbagref5_Pick_0.C R c1 c2 c3) Tryz.f16.results.toList (List.range 0) κ) 10000 k (placeOf Tryz.f16 8) (postbagref5_Pick_0.s8 y0 y1 y2 y3 y4 y5 y6)) (fun r0 => κ [.str r0]) := by kernel_rfl
theorem postbagref5_Pick_0.gM4 (R : Type) (c1 : postbagref5_head_0.F R) (c2 : postbagref1_Same_0.F R) (c3 : postbagref5_bare_0.F R) (κ : List SV → Option R) : ∀ (f : Nat), (∀ (x0 : Bool) (x1 : List AV) (x2 : ByteArray) (x3 : Int) (x4 : List AV), goto (postbagref5_Pick_0.C R c1 c2 c3) (retK (postbagref5_Pick_0.C R c1 c2 c3) Tryz.f16.results.toList (List.range 0) κ) 10000 f (placeOf Tryz.f16 4) (postbagref5_Pick_0.s4 x0 x1 x2 x3 x4) = postbagref5_Pick_0.L4 c1 c2 c3 (fun r0 => κ [.str r0]) f x0 x1 x2 x3 x4) ∧
    (∀ (x0 : Bool) (x1 : List AV) (x2 : ByteArray) (x3 : Int) (x4 : Bool) (x5 : Int) (x6 : List AV), goto (postbagref5_Pick_0.C R c1 c2 c3) (retK (postbagref5_Pick_0.C R c1 c2 c3) Tryz.f16.results.toList (List.range 0) κ) 10000 f (placeOf Tryz.f16 8) (postbagref5_Pick_0.s8 x0 x1 x2 x3 x4 x5 x6) = postbagref5_Pick_0.L8 c1 c2 c3 (fun r0 => κ [.str r0]) f x0 x1 x2 x3 x4 x5 x6)
  | 0 => ⟨fun _ _ _ _ _ => rfl, fun _ _ _ _ _ _ _ => rfl⟩
  | f + 1 => by
    obtain ⟨ih0, ih1⟩ := postbagref5_Pick_0.gM4 R c1 c2 c3 κ f
    refine ⟨?_, ?_⟩
    · intro x0 x1 x2 x3 x4
      show start (postbagref5_Pick_0.C R c1 c2 c3) (goto (postbagref5_Pick_0.C R c1 c2 c3) (retK (postbagref5_Pick_0.C R c1 c2 c3) Tryz.f16.results.toList (List.range 0) κ) 10000 f) (retK (postbagref5_Pick_0.C R c1 c2 c3) Tryz.f16.results.toList (List.range 0) κ) 10000 (placeOf Tryz.f16 4) (postbagref5_Pick_0.s4 x0 x1 x2 x3 x4) = _
      rw [postbagref5_Pick_0.c4]
      simp only [ih0, ih1]
      rfl
    · intro x0 x1 x2 x3 x4 x5 x6
      show start (postbagref5_Pick_0.C R c1 c2 c3) (goto (postbagref5_Pick_0.C R c1 c2 c3) (retK (postbagref5_Pick_0.C R c1 c2 c3) Tryz.f16.results.toList (List.range 0) κ) 10000 f) (retK (postbagref5_Pick_0.C R c1 c2 c3) Tryz.f16.results.toList (List.range 0) κ) 10000 (placeOf Tryz.f16 8) (postbagref5_Pick_0.s8 x0 x1 x2 x3 x4 x5 x6) = _
      rw [postbagref5_Pick_0.c8]
      simp only [ih0, ih1]
      rfl
theorem postbagref5_Pick_0.g4 (R : Type) (c1 : postbagref5_head_0.F R) (c2 : postbagref1_Same_0.F R) (c3 : postbagref5_bare_0.F R) (κ : List SV → Option R) (f : Nat) (x0 : Bool) (x1 : List AV) (x2 : ByteArray) (x3 : Int) (x4 : List AV) : goto (postbagref5_Pick_0.C R c1 c2 c3) (retK (postbagref5_Pick_0.C R c1 c2 c3) Tryz.f16.results.toList (List.range 0) κ) 10000 f (placeOf Tryz.f16 4) (postbagref5_Pick_0.s4 x0 x1 x2 x3 x4) = postbagref5_Pick_0.L4 c1 c2 c3 (fun r0 => κ [.str r0]) f x0 x1 x2 x3 x4 := (postbagref5_Pick_0.gM4 R c1 c2 c3 κ f).1 x0 x1 x2 x3 x4
theorem postbagref5_Pick_0.g8 (R : Type) (c1 : postbagref5_head_0.F R) (c2 : postbagref1_Same_0.F R) (c3 : postbagref5_bare_0.F R) (κ : List SV → Option R) (f : Nat) (x0 : Bool) (x1 : List AV) (x2 : ByteArray) (x3 : Int) (x4 : Bool) (x5 : Int) (x6 : List AV) : goto (postbagref5_Pick_0.C R c1 c2 c3) (retK (postbagref5_Pick_0.C R c1 c2 c3) Tryz.f16.results.toList (List.range 0) κ) 10000 f (placeOf Tryz.f16 8) (postbagref5_Pick_0.s8 x0 x1 x2 x3 x4 x5 x6) = postbagref5_Pick_0.L8 c1 c2 c3 (fun r0 => κ [.str r0]) f x0 x1 x2 x3 x4 x5 x6 := (postbagref5_Pick_0.gM4 R c1 c2 c3 κ f).2 x0 x1 x2 x3 x4 x5 x6
theorem postbagref5_Pick_0.run (R : Type) (κ : List SV → Option R) (a0 : ByteArray) (a1 : Bool) (a2 : List AV) :
    runF (postbagref5_Pick_0.C R postbagref5_head_0 postbagref1_Same_0 postbagref5_bare_0) Tryz.f16 10000 fuelK [.str a0, .bool a1, .ro 9 a2 true] κ = postbagref5_Pick_0 a0 a1 a2 (fun r0 => κ [.str r0]) := by
  rw [postbagref5_Pick_0.c]
  simp only [postbagref5_Pick_0.g4 R postbagref5_head_0 postbagref1_Same_0 postbagref5_bare_0 κ fuelK, postbagref5_Pick_0.g8 R postbagref5_head_0 postbagref1_Same_0 postbagref5_bare_0 κ fuelK]
  rfl
theorem postbagref5_Pick_0.Γ_does {R : Type} (tab : Tab) (ht : TabOk tab) (g : Nat) : Does (R := R) Tryz.prog (tabTy tyL) tab g ((postbagref5_Pick_0.C R postbagref5_head_0 postbagref1_Same_0 postbagref5_bare_0).call g) := by
  refine does_of fun xs κ => ?_
  show DoesAt _ _ _ g xs κ (postbagref5_Pick_0.Γ postbagref5_head_0 postbagref1_Same_0 postbagref5_bare_0 g xs κ)
  unfold postbagref5_Pick_0.Γ
  split
  · split
    · exact postbagref5_head_0.does tab ht _ κ
    · exact DoesAt.none
  · split
    · exact postbagref1_Same_0.does tab ht _ _ κ
    · exact DoesAt.none
  · split
    · exact postbagref5_bare_0.does tab ht _ κ
    · exact DoesAt.none
  · exact DoesAt.none
theorem postbagref5_Pick_0.does {R : Type} (tab : Tab) (ht : TabOk tab) (a0 : ByteArray) (a1 : Bool) (a2 : List AV) (κ : List SV → Option R) : DoesAt Tryz.prog (tabTy tyL) tab 16 [.str a0, .bool a1, .ro 9 a2 true] κ (postbagref5_Pick_0 a0 a1 a2 (fun r0 => κ [.str r0])) := by
  intro r h w vs Rt Ra bs hpre
  exact runF_sound tyOk (postbagref5_Pick_0.Γ_does tab ht) (show Tryz.prog.funcs[16]? = some Tryz.f16 by kernel_rfl) (by kernel_rfl) ((postbagref5_Pick_0.run R κ a0 a1 a2).trans h) hpre
def postbaglaw5_texts_or.Γ {R : Type} (g : Nat) (xs : List SV) (κ : List SV → Option R) : Option R :=
  match g with
  | _ => none
def postbaglaw5_texts_or.h (n : Nat) : Option (List (Nat × List (Nat × Nat))) :=
  match n with
  | 4 => some [(0, [(0, 0)]), (1, [(0, 0)]), (5, [(0, 0)])]
  | _ => none
def postbaglaw5_texts_or.C (R : Type) : Cfg R := ⟨tabTy tyL, postbaglaw5_texts_or.Γ, fun _ => false, postbaglaw5_texts_or.h⟩
def postbaglaw5_texts_or.s4 (x0 : List AV) (x1 : List AV) (x2 : Int) : St := ⟨mkS 26 [(0, .ro 9 x0 false), (1, .ro 9 x1 true), (5, .int .i64 x2)], [], top⟩
theorem postbaglaw5_texts_or.c4 (R : Type) (J : List Item → St → Option R) (κ : List SV → Option R) (x0 : List AV) (x1 : List AV) (x2 : Int) :
    start (postbaglaw5_texts_or.C R) J (retK (postbaglaw5_texts_or.C R) Tryz.f17.results.toList (List.range 0) κ) 10000 (placeOf Tryz.f17 4) (postbaglaw5_texts_or.s4 x0 x1 x2) = postbaglaw5_texts_or.t4 x0 x1 x2 (fun y0 y1 y2 => J (placeOf Tryz.f17 4) (postbaglaw5_texts_or.s4 y0 y1 y2)) (fun r0 => κ [.bool r0]) := by kernel_rfl
theorem postbaglaw5_texts_or.c (R : Type) (κ : List SV → Option R) (k : Nat) (a0 : List AV) (a1 : List AV) :
    runF (postbaglaw5_texts_or.C R) Tryz.f17 10000 k [.ro 9 a0 false, .ro 9 a1 true] κ = postbaglaw5_texts_or.e a0 a1 (fun y0 y1 y2 => goto (postbaglaw5_texts_or.C R) (retK (postbaglaw5_texts_or.C R) Tryz.f17.results.toList (List.range 0) κ) 10000 k (placeOf Tryz.f17 4) (postbaglaw5_texts_or.s4 y0 y1 y2)) (fun r0 => κ [.bool r0]) := by kernel_rfl
theorem postbaglaw5_texts_or.g4 (R : Type) (κ : List SV → Option R) : ∀ (f : Nat) (x0 : List AV) (x1 : List AV) (x2 : Int), goto (postbaglaw5_texts_or.C R) (retK (postbaglaw5_texts_or.C R) Tryz.f17.results.toList (List.range 0) κ) 10000 f (placeOf Tryz.f17 4) (postbaglaw5_texts_or.s4 x0 x1 x2) = postbaglaw5_texts_or.L4 (fun r0 => κ [.bool r0]) f x0 x1 x2
  | 0, _, _, _ => rfl
  | f + 1, x0, x1, x2 => by
    show start (postbaglaw5_texts_or.C R) (goto (postbaglaw5_texts_or.C R) (retK (postbaglaw5_texts_or.C R) Tryz.f17.results.toList (List.range 0) κ) 10000 f) (retK (postbaglaw5_texts_or.C R) Tryz.f17.results.toList (List.range 0) κ) 10000 (placeOf Tryz.f17 4) (postbaglaw5_texts_or.s4 x0 x1 x2) = _
    rw [postbaglaw5_texts_or.c4]
    simp only [postbaglaw5_texts_or.g4 R κ f]
    rfl
theorem postbaglaw5_texts_or.run (R : Type) (κ : List SV → Option R) (a0 : List AV) (a1 : List AV) :
    runF (postbaglaw5_texts_or.C R) Tryz.f17 10000 fuelK [.ro 9 a0 false, .ro 9 a1 true] κ = postbaglaw5_texts_or a0 a1 (fun r0 => κ [.bool r0]) := by
  rw [postbaglaw5_texts_or.c]
  simp only [postbaglaw5_texts_or.g4 R κ fuelK]
  rfl
theorem postbaglaw5_texts_or.Γ_does {R : Type} (tab : Tab) (ht : TabOk tab) (g : Nat) : Does (R := R) Tryz.prog (tabTy tyL) tab g ((postbaglaw5_texts_or.C R).call g) := by
  refine does_of fun xs κ => ?_
  show DoesAt _ _ _ g xs κ (postbaglaw5_texts_or.Γ g xs κ)
  unfold postbaglaw5_texts_or.Γ
  split
  · exact DoesAt.none
theorem postbaglaw5_texts_or.does {R : Type} (tab : Tab) (ht : TabOk tab) (a0 : List AV) (a1 : List AV) (κ : List SV → Option R) : DoesAt Tryz.prog (tabTy tyL) tab 17 [.ro 9 a0 false, .ro 9 a1 true] κ (postbaglaw5_texts_or a0 a1 (fun r0 => κ [.bool r0])) := by
  intro r h w vs Rt Ra bs hpre
  exact runF_sound tyOk (postbaglaw5_texts_or.Γ_does tab ht) (show Tryz.prog.funcs[17]? = some Tryz.f17 by kernel_rfl) (by kernel_rfl) ((postbaglaw5_texts_or.run R κ a0 a1).trans h) hpre
def postbagref5_Pick_sbo.Γ {R : Type} (c1 : postbagref5_head_0.F R) (c2 : postbagref1_Same_0.F R) (c3 : postbagref5_bare_0.F R) (g : Nat) (xs : List SV) (κ : List SV → Option R) : Option R :=
  match g with
  | 42 => (match xs with
    | [.str a0] => c1 a0 (fun r0 => κ [.fr 42 r0 true])
    | _ => none)
  | 50 => (match xs with
    | [.str a0, .str a1] => c2 a0 a1 (fun r0 => κ [.bool r0])
    | _ => none)
  | 51 => (match xs with
    | [.str a0] => c3 a0 (fun r0 => κ [.str r0])
    | _ => none)
  | _ => none
def postbagref5_Pick_sbo.h (n : Nat) : Option (List (Nat × List (Nat × Nat))) :=
  match n with
  | 4 => some [(1, [(0, 0)]), (2, [(0, 0)]), (7, [(0, 0)]), (8, [(0, 0)]), (9, [(0, 0)])]
  | 8 => some [(1, [(0, 0)]), (2, [(0, 0)]), (7, [(0, 0)]), (8, [(0, 0)]), (9, [(0, 0)]), (10, [(0, 0)]), (11, [(0, 0)])]
  | _ => none
def postbagref5_Pick_sbo.C (R : Type) (c1 : postbagref5_head_0.F R) (c2 : postbagref1_Same_0.F R) (c3 : postbagref5_bare_0.F R) : Cfg R := ⟨tabTy tyL, postbagref5_Pick_sbo.Γ c1 c2 c3, fun _ => false, postbagref5_Pick_sbo.h⟩
def postbagref5_Pick_sbo.s4 (x0 : Bool) (x1 : List AV) (x2 : ByteArray) (x3 : Int) (x4 : List AV) : St := ⟨mkS 95 [(1, .bool x0), (2, .ro 9 x1 false), (7, .str x2), (8, .own 576), (9, .int .i64 x3)], [(576, .row 42 x4 true)], top⟩
def postbagref5_Pick_sbo.s8 (x0 : Bool) (x1 : List AV) (x2 : ByteArray) (x3 : Int) (x4 : Bool) (x5 : Int) (x6 : List AV) : St := ⟨mkS 95 [(1, .bool x0), (2, .ro 9 x1 false), (7, .str x2), (8, .own 576), (9, .int .i64 x3), (10, .bool x4), (11, .int .i64 x5)], [(576, .row 42 x6 true)], top⟩
theorem postbagref5_Pick_sbo.c4 (R : Type) (c1 : postbagref5_head_0.F R) (c2 : postbagref1_Same_0.F R) (c3 : postbagref5_bare_0.F R) (J : List Item → St → Option R) (κ : List SV → Option R) (x0 : Bool) (x1 : List AV) (x2 : ByteArray) (x3 : Int) (x4 : List AV) :
    start (postbagref5_Pick_sbo.C R c1 c2 c3) J (retK (postbagref5_Pick_sbo.C R c1 c2 c3) Tryz.f16.results.toList (List.range 0) κ) 10000 (placeOf Tryz.f16 4) (postbagref5_Pick_sbo.s4 x0 x1 x2 x3 x4) = postbagref5_Pick_sbo.t4 c1 c2 c3 x0 x1 x2 x3 x4 (fun y0 y1 y2 y3 y4 => J (placeOf Tryz.f16 4) (postbagref5_Pick_sbo.s4 y0 y1 y2 y3 y4)) (fun y0 y1 y2 y3 y4 y5 y6 => J (placeOf Tryz.f16 8) (postbagref5_Pick_sbo.s8 y0 y1 y2 y3 y4 y5 y6)) (fun r0 => κ [.str r0]) := by kernel_rfl
theorem postbagref5_Pick_sbo.c8 (R : Type) (c1 : postbagref5_head_0.F R) (c2 : postbagref1_Same_0.F R) (c3 : postbagref5_bare_0.F R) (J : List Item → St → Option R) (κ : List SV → Option R) (x0 : Bool) (x1 : List AV) (x2 : ByteArray) (x3 : Int) (x4 : Bool) (x5 : Int) (x6 : List AV) :
    start (postbagref5_Pick_sbo.C R c1 c2 c3) J (retK (postbagref5_Pick_sbo.C R c1 c2 c3) Tryz.f16.results.toList (List.range 0) κ) 10000 (placeOf Tryz.f16 8) (postbagref5_Pick_sbo.s8 x0 x1 x2 x3 x4 x5 x6) = postbagref5_Pick_sbo.t8 c1 c2 c3 x0 x1 x2 x3 x4 x5 x6 (fun y0 y1 y2 y3 y4 => J (placeOf Tryz.f16 4) (postbagref5_Pick_sbo.s4 y0 y1 y2 y3 y4)) (fun y0 y1 y2 y3 y4 y5 y6 => J (placeOf Tryz.f16 8) (postbagref5_Pick_sbo.s8 y0 y1 y2 y3 y4 y5 y6)) (fun r0 => κ [.str r0]) := by kernel_rfl
theorem postbagref5_Pick_sbo.c (R : Type) (c1 : postbagref5_head_0.F R) (c2 : postbagref1_Same_0.F R) (c3 : postbagref5_bare_0.F R) (κ : List SV → Option R) (k : Nat) (a0 : ByteArray) (a1 : Bool) (a2 : List AV) :
    runF (postbagref5_Pick_sbo.C R c1 c2 c3) Tryz.f16 10000 k [.str a0, .bool a1, .ro 9 a2 false] κ = postbagref5_Pick_sbo.e c1 c2 c3 a0 a1 a2 (fun y0 y1 y2 y3 y4 => goto (postbagref5_Pick_sbo.C R c1 c2 c3) (retK (postbagref5_Pick_sbo.C R c1 c2 c3) Tryz.f16.results.toList (List.range 0) κ) 10000 k (placeOf Tryz.f16 4) (postbagref5_Pick_sbo.s4 y0 y1 y2 y3 y4)) (fun y0 y1 y2 y3 y4 y5 y6 => goto (postbagref5_Pick_sbo.C R c1 c2 c3) (retK (postbagref5_Pick_sbo.C R c1 c2 c3) Tryz.f16.results.toList (List.range 0) κ) 10000 k (placeOf Tryz.f16 8) (postbagref5_Pick_sbo.s8 y0 y1 y2 y3 y4 y5 y6)) (fun r0 => κ [.str r0]) := by kernel_rfl
theorem postbagref5_Pick_sbo.gM4 (R : Type) (c1 : postbagref5_head_0.F R) (c2 : postbagref1_Same_0.F R) (c3 : postbagref5_bare_0.F R) (κ : List SV → Option R) : ∀ (f : Nat), (∀ (x0 : Bool) (x1 : List AV) (x2 : ByteArray) (x3 : Int) (x4 : List AV), goto (postbagref5_Pick_sbo.C R c1 c2 c3) (retK (postbagref5_Pick_sbo.C R c1 c2 c3) Tryz.f16.results.toList (List.range 0) κ) 10000 f (placeOf Tryz.f16 4) (postbagref5_Pick_sbo.s4 x0 x1 x2 x3 x4) = postbagref5_Pick_sbo.L4 c1 c2 c3 (fun r0 => κ [.str r0]) f x0 x1 x2 x3 x4) ∧
    (∀ (x0 : Bool) (x1 : List AV) (x2 : ByteArray) (x3 : Int) (x4 : Bool) (x5 : Int) (x6 : List AV), goto (postbagref5_Pick_sbo.C R c1 c2 c3) (retK (postbagref5_Pick_sbo.C R c1 c2 c3) Tryz.f16.results.toList (List.range 0) κ) 10000 f (placeOf Tryz.f16 8) (postbagref5_Pick_sbo.s8 x0 x1 x2 x3 x4 x5 x6) = postbagref5_Pick_sbo.L8 c1 c2 c3 (fun r0 => κ [.str r0]) f x0 x1 x2 x3 x4 x5 x6)
  | 0 => ⟨fun _ _ _ _ _ => rfl, fun _ _ _ _ _ _ _ => rfl⟩
  | f + 1 => by
    obtain ⟨ih0, ih1⟩ := postbagref5_Pick_sbo.gM4 R c1 c2 c3 κ f
    refine ⟨?_, ?_⟩
    · intro x0 x1 x2 x3 x4
      show start (postbagref5_Pick_sbo.C R c1 c2 c3) (goto (postbagref5_Pick_sbo.C R c1 c2 c3) (retK (postbagref5_Pick_sbo.C R c1 c2 c3) Tryz.f16.results.toList (List.range 0) κ) 10000 f) (retK (postbagref5_Pick_sbo.C R c1 c2 c3) Tryz.f16.results.toList (List.range 0) κ) 10000 (placeOf Tryz.f16 4) (postbagref5_Pick_sbo.s4 x0 x1 x2 x3 x4) = _
      rw [postbagref5_Pick_sbo.c4]
      simp only [ih0, ih1]
      rfl
    · intro x0 x1 x2 x3 x4 x5 x6
      show start (postbagref5_Pick_sbo.C R c1 c2 c3) (goto (postbagref5_Pick_sbo.C R c1 c2 c3) (retK (postbagref5_Pick_sbo.C R c1 c2 c3) Tryz.f16.results.toList (List.range 0) κ) 10000 f) (retK (postbagref5_Pick_sbo.C R c1 c2 c3) Tryz.f16.results.toList (List.range 0) κ) 10000 (placeOf Tryz.f16 8) (postbagref5_Pick_sbo.s8 x0 x1 x2 x3 x4 x5 x6) = _
      rw [postbagref5_Pick_sbo.c8]
      simp only [ih0, ih1]
      rfl
theorem postbagref5_Pick_sbo.g4 (R : Type) (c1 : postbagref5_head_0.F R) (c2 : postbagref1_Same_0.F R) (c3 : postbagref5_bare_0.F R) (κ : List SV → Option R) (f : Nat) (x0 : Bool) (x1 : List AV) (x2 : ByteArray) (x3 : Int) (x4 : List AV) : goto (postbagref5_Pick_sbo.C R c1 c2 c3) (retK (postbagref5_Pick_sbo.C R c1 c2 c3) Tryz.f16.results.toList (List.range 0) κ) 10000 f (placeOf Tryz.f16 4) (postbagref5_Pick_sbo.s4 x0 x1 x2 x3 x4) = postbagref5_Pick_sbo.L4 c1 c2 c3 (fun r0 => κ [.str r0]) f x0 x1 x2 x3 x4 := (postbagref5_Pick_sbo.gM4 R c1 c2 c3 κ f).1 x0 x1 x2 x3 x4
theorem postbagref5_Pick_sbo.g8 (R : Type) (c1 : postbagref5_head_0.F R) (c2 : postbagref1_Same_0.F R) (c3 : postbagref5_bare_0.F R) (κ : List SV → Option R) (f : Nat) (x0 : Bool) (x1 : List AV) (x2 : ByteArray) (x3 : Int) (x4 : Bool) (x5 : Int) (x6 : List AV) : goto (postbagref5_Pick_sbo.C R c1 c2 c3) (retK (postbagref5_Pick_sbo.C R c1 c2 c3) Tryz.f16.results.toList (List.range 0) κ) 10000 f (placeOf Tryz.f16 8) (postbagref5_Pick_sbo.s8 x0 x1 x2 x3 x4 x5 x6) = postbagref5_Pick_sbo.L8 c1 c2 c3 (fun r0 => κ [.str r0]) f x0 x1 x2 x3 x4 x5 x6 := (postbagref5_Pick_sbo.gM4 R c1 c2 c3 κ f).2 x0 x1 x2 x3 x4 x5 x6
theorem postbagref5_Pick_sbo.run (R : Type) (κ : List SV → Option R) (a0 : ByteArray) (a1 : Bool) (a2 : List AV) :
    runF (postbagref5_Pick_sbo.C R postbagref5_head_0 postbagref1_Same_0 postbagref5_bare_0) Tryz.f16 10000 fuelK [.str a0, .bool a1, .ro 9 a2 false] κ = postbagref5_Pick_sbo a0 a1 a2 (fun r0 => κ [.str r0]) := by
  rw [postbagref5_Pick_sbo.c]
  simp only [postbagref5_Pick_sbo.g4 R postbagref5_head_0 postbagref1_Same_0 postbagref5_bare_0 κ fuelK, postbagref5_Pick_sbo.g8 R postbagref5_head_0 postbagref1_Same_0 postbagref5_bare_0 κ fuelK]
  rfl
theorem postbagref5_Pick_sbo.Γ_does {R : Type} (tab : Tab) (ht : TabOk tab) (g : Nat) : Does (R := R) Tryz.prog (tabTy tyL) tab g ((postbagref5_Pick_sbo.C R postbagref5_head_0 postbagref1_Same_0 postbagref5_bare_0).call g) := by
  refine does_of fun xs κ => ?_
  show DoesAt _ _ _ g xs κ (postbagref5_Pick_sbo.Γ postbagref5_head_0 postbagref1_Same_0 postbagref5_bare_0 g xs κ)
  unfold postbagref5_Pick_sbo.Γ
  split
  · split
    · exact postbagref5_head_0.does tab ht _ κ
    · exact DoesAt.none
  · split
    · exact postbagref1_Same_0.does tab ht _ _ κ
    · exact DoesAt.none
  · split
    · exact postbagref5_bare_0.does tab ht _ κ
    · exact DoesAt.none
  · exact DoesAt.none
theorem postbagref5_Pick_sbo.does {R : Type} (tab : Tab) (ht : TabOk tab) (a0 : ByteArray) (a1 : Bool) (a2 : List AV) (κ : List SV → Option R) : DoesAt Tryz.prog (tabTy tyL) tab 16 [.str a0, .bool a1, .ro 9 a2 false] κ (postbagref5_Pick_sbo a0 a1 a2 (fun r0 => κ [.str r0])) := by
  intro r h w vs Rt Ra bs hpre
  exact runF_sound tyOk (postbagref5_Pick_sbo.Γ_does tab ht) (show Tryz.prog.funcs[16]? = some Tryz.f16 by kernel_rfl) (by kernel_rfl) ((postbagref5_Pick_sbo.run R κ a0 a1 a2).trans h) hpre
def postbaglaw5_LetterPicks_0.Γ {R : Type} (c1 : postbaglaw5_known_0.F R) (c2 : letter_Pick_sbo.F R) (c3 : postbagref5_Pick_0.F R) (c4 : postbaglaw5_texts_or.F R) (c5 : postbagref5_Pick_sbo.F R) (g : Nat) (xs : List SV) (κ : List SV → Option R) : Option R :=
  match g with
  | 13 => (match xs with
    | [] => c1 (fun r0 => κ [.bool r0])
    | _ => none)
  | 15 => (match xs with
    | [.str a0, .bool a1, .ro 9 a2 false] => c2 a0 a1 a2 (fun r0 => κ [.str r0])
    | _ => none)
  | 16 => (match xs with
    | [.str a0, .bool a1, .ro 9 a2 true] => c3 a0 a1 a2 (fun r0 => κ [.str r0])
    | [.str a0, .bool a1, .ro 9 a2 false] => c5 a0 a1 a2 (fun r0 => κ [.str r0])
    | _ => none)
  | 17 => (match xs with
    | [.ro 9 a0 false, .ro 9 a1 true] => c4 a0 a1 (fun r0 => κ [.bool r0])
    | _ => none)
  | _ => none
def postbaglaw5_LetterPicks_0.h (n : Nat) : Option (List (Nat × List (Nat × Nat))) :=
  match n with
  | 10 => some [(0, [(0, 0)]), (2, [(0, 0)]), (8, [(0, 0)]), (9, [(0, 0)])]
  | _ => none
def postbaglaw5_LetterPicks_0.C (R : Type) (c1 : postbaglaw5_known_0.F R) (c2 : letter_Pick_sbo.F R) (c3 : postbagref5_Pick_0.F R) (c4 : postbaglaw5_texts_or.F R) (c5 : postbagref5_Pick_sbo.F R) : Cfg R := ⟨tabTy tyL, postbaglaw5_LetterPicks_0.Γ c1 c2 c3 c4 c5, fun _ => false, postbaglaw5_LetterPicks_0.h⟩
def postbaglaw5_LetterPicks_0.s10 (x0 : ByteArray) (x1 : List AV) (x2 : Int) (x3 : Int) (x4 : Int) (x5 : List AV) : St := ⟨mkS 106 [(0, .str x0), (2, .ro 9 x1 true), (8, .vw 576 x2 x3), (9, .int .i64 x4)], [(576, .row 9 x5 true)], top⟩
theorem postbaglaw5_LetterPicks_0.c10 (R : Type) (c1 : postbaglaw5_known_0.F R) (c2 : letter_Pick_sbo.F R) (c3 : postbagref5_Pick_0.F R) (c4 : postbaglaw5_texts_or.F R) (c5 : postbagref5_Pick_sbo.F R) (J : List Item → St → Option R) (κ : List SV → Option R) (x0 : ByteArray) (x1 : List AV) (x2 : Int) (x3 : Int) (x4 : Int) (x5 : List AV) :
    start (postbaglaw5_LetterPicks_0.C R c1 c2 c3 c4 c5) J (retK (postbaglaw5_LetterPicks_0.C R c1 c2 c3 c4 c5) Tryz.f4.results.toList (List.range 0) κ) 10000 (placeOf Tryz.f4 10) (postbaglaw5_LetterPicks_0.s10 x0 x1 x2 x3 x4 x5) = postbaglaw5_LetterPicks_0.t10 c1 c2 c3 c4 c5 x0 x1 x2 x3 x4 x5 (fun y0 y1 y2 y3 y4 y5 => J (placeOf Tryz.f4 10) (postbaglaw5_LetterPicks_0.s10 y0 y1 y2 y3 y4 y5)) (fun r0 => κ [.bool r0]) := by kernel_rfl
theorem postbaglaw5_LetterPicks_0.c (R : Type) (c1 : postbaglaw5_known_0.F R) (c2 : letter_Pick_sbo.F R) (c3 : postbagref5_Pick_0.F R) (c4 : postbaglaw5_texts_or.F R) (c5 : postbagref5_Pick_sbo.F R) (κ : List SV → Option R) (k : Nat) (a0 : ByteArray) (a1 : List AV) (a2 : List AV) :
    runF (postbaglaw5_LetterPicks_0.C R c1 c2 c3 c4 c5) Tryz.f4 10000 k [.str a0, .ro 9 a1 true, .ro 9 a2 true] κ = postbaglaw5_LetterPicks_0.e c1 c2 c3 c4 c5 a0 a1 a2 (fun y0 y1 y2 y3 y4 y5 => goto (postbaglaw5_LetterPicks_0.C R c1 c2 c3 c4 c5) (retK (postbaglaw5_LetterPicks_0.C R c1 c2 c3 c4 c5) Tryz.f4.results.toList (List.range 0) κ) 10000 k (placeOf Tryz.f4 10) (postbaglaw5_LetterPicks_0.s10 y0 y1 y2 y3 y4 y5)) (fun r0 => κ [.bool r0]) := by kernel_rfl
theorem postbaglaw5_LetterPicks_0.g10 (R : Type) (c1 : postbaglaw5_known_0.F R) (c2 : letter_Pick_sbo.F R) (c3 : postbagref5_Pick_0.F R) (c4 : postbaglaw5_texts_or.F R) (c5 : postbagref5_Pick_sbo.F R) (κ : List SV → Option R) : ∀ (f : Nat) (x0 : ByteArray) (x1 : List AV) (x2 : Int) (x3 : Int) (x4 : Int) (x5 : List AV), goto (postbaglaw5_LetterPicks_0.C R c1 c2 c3 c4 c5) (retK (postbaglaw5_LetterPicks_0.C R c1 c2 c3 c4 c5) Tryz.f4.results.toList (List.range 0) κ) 10000 f (placeOf Tryz.f4 10) (postbaglaw5_LetterPicks_0.s10 x0 x1 x2 x3 x4 x5) = postbaglaw5_LetterPicks_0.L10 c1 c2 c3 c4 c5 (fun r0 => κ [.bool r0]) f x0 x1 x2 x3 x4 x5
  | 0, _, _, _, _, _, _ => rfl
  | f + 1, x0, x1, x2, x3, x4, x5 => by
    show start (postbaglaw5_LetterPicks_0.C R c1 c2 c3 c4 c5) (goto (postbaglaw5_LetterPicks_0.C R c1 c2 c3 c4 c5) (retK (postbaglaw5_LetterPicks_0.C R c1 c2 c3 c4 c5) Tryz.f4.results.toList (List.range 0) κ) 10000 f) (retK (postbaglaw5_LetterPicks_0.C R c1 c2 c3 c4 c5) Tryz.f4.results.toList (List.range 0) κ) 10000 (placeOf Tryz.f4 10) (postbaglaw5_LetterPicks_0.s10 x0 x1 x2 x3 x4 x5) = _
    rw [postbaglaw5_LetterPicks_0.c10]
    simp only [postbaglaw5_LetterPicks_0.g10 R c1 c2 c3 c4 c5 κ f]
    rfl
theorem postbaglaw5_LetterPicks_0.run (R : Type) (κ : List SV → Option R) (a0 : ByteArray) (a1 : List AV) (a2 : List AV) :
    runF (postbaglaw5_LetterPicks_0.C R postbaglaw5_known_0 letter_Pick_sbo postbagref5_Pick_0 postbaglaw5_texts_or postbagref5_Pick_sbo) Tryz.f4 10000 fuelK [.str a0, .ro 9 a1 true, .ro 9 a2 true] κ = postbaglaw5_LetterPicks_0 a0 a1 a2 (fun r0 => κ [.bool r0]) := by
  rw [postbaglaw5_LetterPicks_0.c]
  simp only [postbaglaw5_LetterPicks_0.g10 R postbaglaw5_known_0 letter_Pick_sbo postbagref5_Pick_0 postbaglaw5_texts_or postbagref5_Pick_sbo κ fuelK]
  rfl
theorem postbaglaw5_LetterPicks_0.Γ_does {R : Type} (tab : Tab) (ht : TabOk tab) (g : Nat) : Does (R := R) Tryz.prog (tabTy tyL) tab g ((postbaglaw5_LetterPicks_0.C R postbaglaw5_known_0 letter_Pick_sbo postbagref5_Pick_0 postbaglaw5_texts_or postbagref5_Pick_sbo).call g) := by
  refine does_of fun xs κ => ?_
  show DoesAt _ _ _ g xs κ (postbaglaw5_LetterPicks_0.Γ postbaglaw5_known_0 letter_Pick_sbo postbagref5_Pick_0 postbaglaw5_texts_or postbagref5_Pick_sbo g xs κ)
  unfold postbaglaw5_LetterPicks_0.Γ
  split
  · split
    · exact postbaglaw5_known_0.does tab ht κ
    · exact DoesAt.none
  · split
    · exact letter_Pick_sbo.does tab ht _ _ _ κ
    · exact DoesAt.none
  · split
    · exact postbagref5_Pick_0.does tab ht _ _ _ κ
    · exact postbagref5_Pick_sbo.does tab ht _ _ _ κ
    · exact DoesAt.none
  · split
    · exact postbaglaw5_texts_or.does tab ht _ _ κ
    · exact DoesAt.none
  · exact DoesAt.none
theorem postbaglaw5_LetterPicks_0.does {R : Type} (tab : Tab) (ht : TabOk tab) (a0 : ByteArray) (a1 : List AV) (a2 : List AV) (κ : List SV → Option R) : DoesAt Tryz.prog (tabTy tyL) tab 4 [.str a0, .ro 9 a1 true, .ro 9 a2 true] κ (postbaglaw5_LetterPicks_0 a0 a1 a2 (fun r0 => κ [.bool r0])) := by
  intro r h w vs Rt Ra bs hpre
  exact runF_sound tyOk (postbaglaw5_LetterPicks_0.Γ_does tab ht) (show Tryz.prog.funcs[4]? = some Tryz.f4 by kernel_rfl) (by kernel_rfl) ((postbaglaw5_LetterPicks_0.run R κ a0 a1 a2).trans h) hpre
end Go.Proofs.Ab
