/- Each plain function is what a call of its Go function does, checked by the kernel (no condition but what its checks ask). -/
import Derived.Test.YtnipklplcipaiaaGreatDoorSeat
import Derived.Test.YtnipklplcipaiaaGreatDoorText
import Derived.Test.YtnipklplcipaiaaGreatDoorCheck3
/- Each typed text is what its function does: checked by the kernel. -/
namespace Go.Proofs.Ab
set_option linter.unusedVariables false
set_option maxRecDepth 4000
open Go Go.Proofs
set_option maxRecDepth 100000
def postbaglaw5_fields_oo.Γ {R : Type} (g : Nat) (xs : List SV) (κ : List SV → Option R) : Option R :=
  match g with
  | _ => none
def postbaglaw5_fields_oo.h (n : Nat) : Option (List (Nat × List (Nat × Nat))) :=
  match n with
  | 4 => some [(0, [(0, 0)]), (1, [(0, 0)]), (5, [(0, 0)])]
  | _ => none
def postbaglaw5_fields_oo.C (R : Type) : Cfg R := ⟨tabTy tyL, postbaglaw5_fields_oo.Γ, fun _ => false, postbaglaw5_fields_oo.h⟩
def postbaglaw5_fields_oo.s4 (x0 : List AV) (x1 : List AV) (x2 : Int) : St := ⟨mkS 26 [(0, .ro 42 x0 false), (1, .ro 42 x1 false), (5, .int .i64 x2)], [], top⟩
theorem postbaglaw5_fields_oo.c4 (R : Type) (J : List Item → St → Option R) (κ : List SV → Option R) (x0 : List AV) (x1 : List AV) (x2 : Int) :
    start (postbaglaw5_fields_oo.C R) J (retK (postbaglaw5_fields_oo.C R) Tryz.f14.results.toList (List.range 0) κ) 10000 (placeOf Tryz.f14 4) (postbaglaw5_fields_oo.s4 x0 x1 x2) = postbaglaw5_fields_oo.t4 x0 x1 x2 (fun y0 y1 y2 => J (placeOf Tryz.f14 4) (postbaglaw5_fields_oo.s4 y0 y1 y2)) (fun r0 => κ [.bool r0]) := by kernel_rfl
theorem postbaglaw5_fields_oo.c (R : Type) (κ : List SV → Option R) (k : Nat) (a0 : List AV) (a1 : List AV) :
    runF (postbaglaw5_fields_oo.C R) Tryz.f14 10000 k [.ro 42 a0 false, .ro 42 a1 false] κ = postbaglaw5_fields_oo.e a0 a1 (fun y0 y1 y2 => goto (postbaglaw5_fields_oo.C R) (retK (postbaglaw5_fields_oo.C R) Tryz.f14.results.toList (List.range 0) κ) 10000 k (placeOf Tryz.f14 4) (postbaglaw5_fields_oo.s4 y0 y1 y2)) (fun r0 => κ [.bool r0]) := by kernel_rfl
theorem postbaglaw5_fields_oo.g4 (R : Type) (κ : List SV → Option R) : ∀ (f : Nat) (x0 : List AV) (x1 : List AV) (x2 : Int), goto (postbaglaw5_fields_oo.C R) (retK (postbaglaw5_fields_oo.C R) Tryz.f14.results.toList (List.range 0) κ) 10000 f (placeOf Tryz.f14 4) (postbaglaw5_fields_oo.s4 x0 x1 x2) = postbaglaw5_fields_oo.L4 (fun r0 => κ [.bool r0]) f x0 x1 x2
  | 0, _, _, _ => rfl
  | f + 1, x0, x1, x2 => by
    show start (postbaglaw5_fields_oo.C R) (goto (postbaglaw5_fields_oo.C R) (retK (postbaglaw5_fields_oo.C R) Tryz.f14.results.toList (List.range 0) κ) 10000 f) (retK (postbaglaw5_fields_oo.C R) Tryz.f14.results.toList (List.range 0) κ) 10000 (placeOf Tryz.f14 4) (postbaglaw5_fields_oo.s4 x0 x1 x2) = _
    rw [postbaglaw5_fields_oo.c4]
    simp only [postbaglaw5_fields_oo.g4 R κ f]
    rfl
theorem postbaglaw5_fields_oo.run (R : Type) (κ : List SV → Option R) (a0 : List AV) (a1 : List AV) :
    runF (postbaglaw5_fields_oo.C R) Tryz.f14 10000 fuelK [.ro 42 a0 false, .ro 42 a1 false] κ = postbaglaw5_fields_oo a0 a1 (fun r0 => κ [.bool r0]) := by
  rw [postbaglaw5_fields_oo.c]
  simp only [postbaglaw5_fields_oo.g4 R κ fuelK]
  rfl
theorem postbaglaw5_fields_oo.Γ_does {R : Type} (tab : Tab) (ht : TabOk tab) (g : Nat) : Does (R := R) Tryz.prog (tabTy tyL) tab g ((postbaglaw5_fields_oo.C R).call g) := by
  refine does_of fun xs κ => ?_
  show DoesAt _ _ _ g xs κ (postbaglaw5_fields_oo.Γ g xs κ)
  unfold postbaglaw5_fields_oo.Γ
  split
  · exact DoesAt.none
theorem postbaglaw5_fields_oo.does {R : Type} (tab : Tab) (ht : TabOk tab) (a0 : List AV) (a1 : List AV) (κ : List SV → Option R) : DoesAt Tryz.prog (tabTy tyL) tab 14 [.ro 42 a0 false, .ro 42 a1 false] κ (postbaglaw5_fields_oo a0 a1 (fun r0 => κ [.bool r0])) := by
  intro r h w vs Rt Ra bs hpre
  exact runF_sound tyOk (postbaglaw5_fields_oo.Γ_does tab ht) (show Tryz.prog.funcs[14]? = some Tryz.f14 by kernel_rfl) (by kernel_rfl) ((postbaglaw5_fields_oo.run R κ a0 a1).trans h) hpre
def postbaglaw5_LetterFields_0.Γ {R : Type} (c1 : letter_Fields_0.F R) (c2 : postbagref5_Fields_0.F R) (c3 : postbaglaw5_known_0.F R) (c4 : postbaglaw5_fields_oo.F R) (g : Nat) (xs : List SV) (κ : List SV → Option R) : Option R :=
  match g with
  | 11 => (match xs with
    | [.str a0] => c1 a0 (fun r0 => κ [.fr 42 r0 true])
    | _ => none)
  | 12 => (match xs with
    | [.str a0] => c2 a0 (fun r0 => κ [.fr 42 r0 true])
    | _ => none)
  | 13 => (match xs with
    | [] => c3 (fun r0 => κ [.bool r0])
    | _ => none)
  | 14 => (match xs with
    | [.ro 42 a0 false, .ro 42 a1 false] => c4 a0 a1 (fun r0 => κ [.bool r0])
    | _ => none)
  | _ => none
def postbaglaw5_LetterFields_0.h (n : Nat) : Option (List (Nat × List (Nat × Nat))) :=
  match n with
  | _ => none
def postbaglaw5_LetterFields_0.C (R : Type) (c1 : letter_Fields_0.F R) (c2 : postbagref5_Fields_0.F R) (c3 : postbaglaw5_known_0.F R) (c4 : postbaglaw5_fields_oo.F R) : Cfg R := ⟨tabTy tyL, postbaglaw5_LetterFields_0.Γ c1 c2 c3 c4, fun _ => false, postbaglaw5_LetterFields_0.h⟩
theorem postbaglaw5_LetterFields_0.c (R : Type) (c1 : letter_Fields_0.F R) (c2 : postbagref5_Fields_0.F R) (c3 : postbaglaw5_known_0.F R) (c4 : postbaglaw5_fields_oo.F R) (κ : List SV → Option R) (k : Nat) (a0 : ByteArray) (a1 : ByteArray) :
    runF (postbaglaw5_LetterFields_0.C R c1 c2 c3 c4) Tryz.f3 10000 k [.str a0, .str a1] κ = postbaglaw5_LetterFields_0.e c1 c2 c3 c4 a0 a1 (fun r0 => κ [.bool r0]) := by kernel_rfl
theorem postbaglaw5_LetterFields_0.run (R : Type) (κ : List SV → Option R) (a0 : ByteArray) (a1 : ByteArray) :
    runF (postbaglaw5_LetterFields_0.C R letter_Fields_0 postbagref5_Fields_0 postbaglaw5_known_0 postbaglaw5_fields_oo) Tryz.f3 10000 fuelK [.str a0, .str a1] κ = postbaglaw5_LetterFields_0 a0 a1 (fun r0 => κ [.bool r0]) := by
  rw [postbaglaw5_LetterFields_0.c]
  rfl
theorem postbaglaw5_LetterFields_0.Γ_does {R : Type} (tab : Tab) (ht : TabOk tab) (g : Nat) : Does (R := R) Tryz.prog (tabTy tyL) tab g ((postbaglaw5_LetterFields_0.C R letter_Fields_0 postbagref5_Fields_0 postbaglaw5_known_0 postbaglaw5_fields_oo).call g) := by
  refine does_of fun xs κ => ?_
  show DoesAt _ _ _ g xs κ (postbaglaw5_LetterFields_0.Γ letter_Fields_0 postbagref5_Fields_0 postbaglaw5_known_0 postbaglaw5_fields_oo g xs κ)
  unfold postbaglaw5_LetterFields_0.Γ
  split
  · split
    · exact letter_Fields_0.does tab ht _ κ
    · exact DoesAt.none
  · split
    · exact postbagref5_Fields_0.does tab ht _ κ
    · exact DoesAt.none
  · split
    · exact postbaglaw5_known_0.does tab ht κ
    · exact DoesAt.none
  · split
    · exact postbaglaw5_fields_oo.does tab ht _ _ κ
    · exact DoesAt.none
  · exact DoesAt.none
theorem postbaglaw5_LetterFields_0.does {R : Type} (tab : Tab) (ht : TabOk tab) (a0 : ByteArray) (a1 : ByteArray) (κ : List SV → Option R) : DoesAt Tryz.prog (tabTy tyL) tab 3 [.str a0, .str a1] κ (postbaglaw5_LetterFields_0 a0 a1 (fun r0 => κ [.bool r0])) := by
  intro r h w vs Rt Ra bs hpre
  exact runF_sound tyOk (postbaglaw5_LetterFields_0.Γ_does tab ht) (show Tryz.prog.funcs[3]? = some Tryz.f3 by kernel_rfl) (by kernel_rfl) ((postbaglaw5_LetterFields_0.run R κ a0 a1).trans h) hpre
end Go.Proofs.Ab
