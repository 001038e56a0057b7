/- Each plain function is what a call of its Go function does, checked by the kernel (no condition but what its checks ask). -/
import Derived.Test.YtnipklplcipaiaaGreatDoorSeat
import Derived.Test.YtnipklplcipaiaaGreatDoorText
import Derived.Test.YtnipklplcipaiaaGreatDoorCheck3
/- Each typed text is what its function does: checked by the kernel. -/
namespace Go.Proofs.Ab
set_option linter.unusedVariables false
set_option maxRecDepth 4000
open Go Go.Proofs
set_option maxRecDepth 100000
def postbaglaw5_known_0.Γ {R : Type} (c1 : letter_Split_0.F R) (c2 : letter_Fields_0.F R) (c3 : letter_Addresses_0.F R) (c4 : letter_Ids_0.F R) (c5 : letter_Base_0.F R) (c6 : letter_Get_os.F R) (c7 : letter_Pick_sbn.F R) (g : Nat) (xs : List SV) (κ : List SV → Option R) : Option R :=
  match g with
  | 11 => (match xs with
    | [.str a0] => c2 a0 (fun r0 => κ [.fr 42 r0 true])
    | _ => none)
  | 15 => (match xs with
    | [.str a0, .bool a1, .nil] => c7 a0 a1 (fun r0 => κ [.str r0])
    | _ => none)
  | 20 => (match xs with
    | [.str a0] => c3 a0 (fun r0 => κ [.fr 60 r0 true])
    | _ => none)
  | 23 => (match xs with
    | [.str a0] => c4 a0 (fun r0 => κ [.fr 9 r0 true])
    | _ => none)
  | 25 => (match xs with
    | [.str a0] => c5 a0 (fun r0 r1 => κ [.tup [.str r0, .bool r1]])
    | _ => none)
  | 44 => (match xs with
    | [.str a0] => c1 a0 (fun r0 r1 => κ [.tup [.str r0, .str r1]])
    | _ => none)
  | 45 => (match xs with
    | [.ro 42 a0 false, .str a1] => c6 a0 a1 (fun r0 r1 => κ [.agg [.bool r0, .str r1]])
    | _ => none)
  | _ => none
def postbaglaw5_known_0.h (n : Nat) : Option (List (Nat × List (Nat × Nat))) :=
  match n with
  | _ => none
def postbaglaw5_known_0.C (R : Type) (c1 : letter_Split_0.F R) (c2 : letter_Fields_0.F R) (c3 : letter_Addresses_0.F R) (c4 : letter_Ids_0.F R) (c5 : letter_Base_0.F R) (c6 : letter_Get_os.F R) (c7 : letter_Pick_sbn.F R) : Cfg R := ⟨tabTy tyL, postbaglaw5_known_0.Γ c1 c2 c3 c4 c5 c6 c7, fun _ => false, postbaglaw5_known_0.h⟩
theorem postbaglaw5_known_0.c (R : Type) (c1 : letter_Split_0.F R) (c2 : letter_Fields_0.F R) (c3 : letter_Addresses_0.F R) (c4 : letter_Ids_0.F R) (c5 : letter_Base_0.F R) (c6 : letter_Get_os.F R) (c7 : letter_Pick_sbn.F R) (κ : List SV → Option R) (k : Nat) :
    runF (postbaglaw5_known_0.C R c1 c2 c3 c4 c5 c6 c7) Tryz.f13 10000 k [] κ = postbaglaw5_known_0.e c1 c2 c3 c4 c5 c6 c7 (fun r0 => κ [.bool r0]) := by kernel_rfl
theorem postbaglaw5_known_0.run (R : Type) (κ : List SV → Option R) :
    runF (postbaglaw5_known_0.C R letter_Split_0 letter_Fields_0 letter_Addresses_0 letter_Ids_0 letter_Base_0 letter_Get_os letter_Pick_sbn) Tryz.f13 10000 fuelK [] κ = postbaglaw5_known_0 (fun r0 => κ [.bool r0]) := by
  rw [postbaglaw5_known_0.c]
  rfl
theorem postbaglaw5_known_0.Γ_does {R : Type} (tab : Tab) (ht : TabOk tab) (g : Nat) : Does (R := R) Tryz.prog (tabTy tyL) tab g ((postbaglaw5_known_0.C R letter_Split_0 letter_Fields_0 letter_Addresses_0 letter_Ids_0 letter_Base_0 letter_Get_os letter_Pick_sbn).call g) := by
  refine does_of fun xs κ => ?_
  show DoesAt _ _ _ g xs κ (postbaglaw5_known_0.Γ letter_Split_0 letter_Fields_0 letter_Addresses_0 letter_Ids_0 letter_Base_0 letter_Get_os letter_Pick_sbn g xs κ)
  unfold postbaglaw5_known_0.Γ
  split
  · split
    · exact letter_Fields_0.does tab ht _ κ
    · exact DoesAt.none
  · split
    · exact letter_Pick_sbn.does tab ht _ _ κ
    · exact DoesAt.none
  · split
    · exact letter_Addresses_0.does tab ht _ κ
    · exact DoesAt.none
  · split
    · exact letter_Ids_0.does tab ht _ κ
    · exact DoesAt.none
  · split
    · exact letter_Base_0.does tab ht _ κ
    · exact DoesAt.none
  · split
    · exact letter_Split_0.does tab ht _ κ
    · exact DoesAt.none
  · split
    · exact letter_Get_os.does tab ht _ _ κ
    · exact DoesAt.none
  · exact DoesAt.none
theorem postbaglaw5_known_0.does {R : Type} (tab : Tab) (ht : TabOk tab) (κ : List SV → Option R) : DoesAt Tryz.prog (tabTy tyL) tab 13 [] κ (postbaglaw5_known_0 (fun r0 => κ [.bool r0])) := by
  intro r h w vs Rt Ra bs hpre
  exact runF_sound tyOk (postbaglaw5_known_0.Γ_does tab ht) (show Tryz.prog.funcs[13]? = some Tryz.f13 by kernel_rfl) (by kernel_rfl) ((postbaglaw5_known_0.run R κ).trans h) hpre
def postbaglaw5_texts_oo.Γ {R : Type} (g : Nat) (xs : List SV) (κ : List SV → Option R) : Option R :=
  match g with
  | _ => none
def postbaglaw5_texts_oo.h (n : Nat) : Option (List (Nat × List (Nat × Nat))) :=
  match n with
  | 4 => some [(0, [(0, 0)]), (1, [(0, 0)]), (5, [(0, 0)])]
  | _ => none
def postbaglaw5_texts_oo.C (R : Type) : Cfg R := ⟨tabTy tyL, postbaglaw5_texts_oo.Γ, fun _ => false, postbaglaw5_texts_oo.h⟩
def postbaglaw5_texts_oo.s4 (x0 : List AV) (x1 : List AV) (x2 : Int) : St := ⟨mkS 26 [(0, .ro 9 x0 false), (1, .ro 9 x1 false), (5, .int .i64 x2)], [], top⟩
theorem postbaglaw5_texts_oo.c4 (R : Type) (J : List Item → St → Option R) (κ : List SV → Option R) (x0 : List AV) (x1 : List AV) (x2 : Int) :
    start (postbaglaw5_texts_oo.C R) J (retK (postbaglaw5_texts_oo.C R) Tryz.f17.results.toList (List.range 0) κ) 10000 (placeOf Tryz.f17 4) (postbaglaw5_texts_oo.s4 x0 x1 x2) = postbaglaw5_texts_oo.t4 x0 x1 x2 (fun y0 y1 y2 => J (placeOf Tryz.f17 4) (postbaglaw5_texts_oo.s4 y0 y1 y2)) (fun r0 => κ [.bool r0]) := by kernel_rfl
theorem postbaglaw5_texts_oo.c (R : Type) (κ : List SV → Option R) (k : Nat) (a0 : List AV) (a1 : List AV) :
    runF (postbaglaw5_texts_oo.C R) Tryz.f17 10000 k [.ro 9 a0 false, .ro 9 a1 false] κ = postbaglaw5_texts_oo.e a0 a1 (fun y0 y1 y2 => goto (postbaglaw5_texts_oo.C R) (retK (postbaglaw5_texts_oo.C R) Tryz.f17.results.toList (List.range 0) κ) 10000 k (placeOf Tryz.f17 4) (postbaglaw5_texts_oo.s4 y0 y1 y2)) (fun r0 => κ [.bool r0]) := by kernel_rfl
theorem postbaglaw5_texts_oo.g4 (R : Type) (κ : List SV → Option R) : ∀ (f : Nat) (x0 : List AV) (x1 : List AV) (x2 : Int), goto (postbaglaw5_texts_oo.C R) (retK (postbaglaw5_texts_oo.C R) Tryz.f17.results.toList (List.range 0) κ) 10000 f (placeOf Tryz.f17 4) (postbaglaw5_texts_oo.s4 x0 x1 x2) = postbaglaw5_texts_oo.L4 (fun r0 => κ [.bool r0]) f x0 x1 x2
  | 0, _, _, _ => rfl
  | f + 1, x0, x1, x2 => by
    show start (postbaglaw5_texts_oo.C R) (goto (postbaglaw5_texts_oo.C R) (retK (postbaglaw5_texts_oo.C R) Tryz.f17.results.toList (List.range 0) κ) 10000 f) (retK (postbaglaw5_texts_oo.C R) Tryz.f17.results.toList (List.range 0) κ) 10000 (placeOf Tryz.f17 4) (postbaglaw5_texts_oo.s4 x0 x1 x2) = _
    rw [postbaglaw5_texts_oo.c4]
    simp only [postbaglaw5_texts_oo.g4 R κ f]
    rfl
theorem postbaglaw5_texts_oo.run (R : Type) (κ : List SV → Option R) (a0 : List AV) (a1 : List AV) :
    runF (postbaglaw5_texts_oo.C R) Tryz.f17 10000 fuelK [.ro 9 a0 false, .ro 9 a1 false] κ = postbaglaw5_texts_oo a0 a1 (fun r0 => κ [.bool r0]) := by
  rw [postbaglaw5_texts_oo.c]
  simp only [postbaglaw5_texts_oo.g4 R κ fuelK]
  rfl
theorem postbaglaw5_texts_oo.Γ_does {R : Type} (tab : Tab) (ht : TabOk tab) (g : Nat) : Does (R := R) Tryz.prog (tabTy tyL) tab g ((postbaglaw5_texts_oo.C R).call g) := by
  refine does_of fun xs κ => ?_
  show DoesAt _ _ _ g xs κ (postbaglaw5_texts_oo.Γ g xs κ)
  unfold postbaglaw5_texts_oo.Γ
  split
  · exact DoesAt.none
theorem postbaglaw5_texts_oo.does {R : Type} (tab : Tab) (ht : TabOk tab) (a0 : List AV) (a1 : List AV) (κ : List SV → Option R) : DoesAt Tryz.prog (tabTy tyL) tab 17 [.ro 9 a0 false, .ro 9 a1 false] κ (postbaglaw5_texts_oo a0 a1 (fun r0 => κ [.bool r0])) := by
  intro r h w vs Rt Ra bs hpre
  exact runF_sound tyOk (postbaglaw5_texts_oo.Γ_does tab ht) (show Tryz.prog.funcs[17]? = some Tryz.f17 by kernel_rfl) (by kernel_rfl) ((postbaglaw5_texts_oo.run R κ a0 a1).trans h) hpre
def postbaglaw5_texts_or.Γ {R : Type} (g : Nat) (xs : List SV) (κ : List SV → Option R) : Option R :=
  match g with
  | _ => none
def postbaglaw5_texts_or.h (n : Nat) : Option (List (Nat × List (Nat × Nat))) :=
  match n with
  | 4 => some [(0, [(0, 0)]), (1, [(0, 0)]), (5, [(0, 0)])]
  | _ => none
def postbaglaw5_texts_or.C (R : Type) : Cfg R := ⟨tabTy tyL, postbaglaw5_texts_or.Γ, fun _ => false, postbaglaw5_texts_or.h⟩
def postbaglaw5_texts_or.s4 (x0 : List AV) (x1 : List AV) (x2 : Int) : St := ⟨mkS 26 [(0, .ro 9 x0 false), (1, .ro 9 x1 true), (5, .int .i64 x2)], [], top⟩
theorem postbaglaw5_texts_or.c4 (R : Type) (J : List Item → St → Option R) (κ : List SV → Option R) (x0 : List AV) (x1 : List AV) (x2 : Int) :
    start (postbaglaw5_texts_or.C R) J (retK (postbaglaw5_texts_or.C R) Tryz.f17.results.toList (List.range 0) κ) 10000 (placeOf Tryz.f17 4) (postbaglaw5_texts_or.s4 x0 x1 x2) = postbaglaw5_texts_or.t4 x0 x1 x2 (fun y0 y1 y2 => J (placeOf Tryz.f17 4) (postbaglaw5_texts_or.s4 y0 y1 y2)) (fun r0 => κ [.bool r0]) := by kernel_rfl
theorem postbaglaw5_texts_or.c (R : Type) (κ : List SV → Option R) (k : Nat) (a0 : List AV) (a1 : List AV) :
    runF (postbaglaw5_texts_or.C R) Tryz.f17 10000 k [.ro 9 a0 false, .ro 9 a1 true] κ = postbaglaw5_texts_or.e a0 a1 (fun y0 y1 y2 => goto (postbaglaw5_texts_or.C R) (retK (postbaglaw5_texts_or.C R) Tryz.f17.results.toList (List.range 0) κ) 10000 k (placeOf Tryz.f17 4) (postbaglaw5_texts_or.s4 y0 y1 y2)) (fun r0 => κ [.bool r0]) := by kernel_rfl
theorem postbaglaw5_texts_or.g4 (R : Type) (κ : List SV → Option R) : ∀ (f : Nat) (x0 : List AV) (x1 : List AV) (x2 : Int), goto (postbaglaw5_texts_or.C R) (retK (postbaglaw5_texts_or.C R) Tryz.f17.results.toList (List.range 0) κ) 10000 f (placeOf Tryz.f17 4) (postbaglaw5_texts_or.s4 x0 x1 x2) = postbaglaw5_texts_or.L4 (fun r0 => κ [.bool r0]) f x0 x1 x2
  | 0, _, _, _ => rfl
  | f + 1, x0, x1, x2 => by
    show start (postbaglaw5_texts_or.C R) (goto (postbaglaw5_texts_or.C R) (retK (postbaglaw5_texts_or.C R) Tryz.f17.results.toList (List.range 0) κ) 10000 f) (retK (postbaglaw5_texts_or.C R) Tryz.f17.results.toList (List.range 0) κ) 10000 (placeOf Tryz.f17 4) (postbaglaw5_texts_or.s4 x0 x1 x2) = _
    rw [postbaglaw5_texts_or.c4]
    simp only [postbaglaw5_texts_or.g4 R κ f]
    rfl
theorem postbaglaw5_texts_or.run (R : Type) (κ : List SV → Option R) (a0 : List AV) (a1 : List AV) :
    runF (postbaglaw5_texts_or.C R) Tryz.f17 10000 fuelK [.ro 9 a0 false, .ro 9 a1 true] κ = postbaglaw5_texts_or a0 a1 (fun r0 => κ [.bool r0]) := by
  rw [postbaglaw5_texts_or.c]
  simp only [postbaglaw5_texts_or.g4 R κ fuelK]
  rfl
theorem postbaglaw5_texts_or.Γ_does {R : Type} (tab : Tab) (ht : TabOk tab) (g : Nat) : Does (R := R) Tryz.prog (tabTy tyL) tab g ((postbaglaw5_texts_or.C R).call g) := by
  refine does_of fun xs κ => ?_
  show DoesAt _ _ _ g xs κ (postbaglaw5_texts_or.Γ g xs κ)
  unfold postbaglaw5_texts_or.Γ
  split
  · exact DoesAt.none
theorem postbaglaw5_texts_or.does {R : Type} (tab : Tab) (ht : TabOk tab) (a0 : List AV) (a1 : List AV) (κ : List SV → Option R) : DoesAt Tryz.prog (tabTy tyL) tab 17 [.ro 9 a0 false, .ro 9 a1 true] κ (postbaglaw5_texts_or a0 a1 (fun r0 => κ [.bool r0])) := by
  intro r h w vs Rt Ra bs hpre
  exact runF_sound tyOk (postbaglaw5_texts_or.Γ_does tab ht) (show Tryz.prog.funcs[17]? = some Tryz.f17 by kernel_rfl) (by kernel_rfl) ((postbaglaw5_texts_or.run R κ a0 a1).trans h) hpre
def postbaglaw5_LetterIds_0.Γ {R : Type} (c1 : letter_Ids_0.F R) (c2 : postbagref5_Ids_0.F R) (c3 : postbaglaw5_known_0.F R) (c4 : postbaglaw5_texts_oo.F R) (c5 : postbaglaw5_texts_or.F R) (g : Nat) (xs : List SV) (κ : List SV → Option R) : Option R :=
  match g with
  | 13 => (match xs with
    | [] => c3 (fun r0 => κ [.bool r0])
    | _ => none)
  | 17 => (match xs with
    | [.ro 9 a0 false, .ro 9 a1 false] => c4 a0 a1 (fun r0 => κ [.bool r0])
    | [.ro 9 a0 false, .ro 9 a1 true] => c5 a0 a1 (fun r0 => κ [.bool r0])
    | _ => none)
  | 23 => (match xs with
    | [.str a0] => c1 a0 (fun r0 => κ [.fr 9 r0 true])
    | _ => none)
  | 24 => (match xs with
    | [.str a0] => c2 a0 (fun r0 => κ [.fr 9 r0 true]) (fun r0 => κ [.ro 9 r0 true])
    | _ => none)
  | _ => none
def postbaglaw5_LetterIds_0.h (n : Nat) : Option (List (Nat × List (Nat × Nat))) :=
  match n with
  | _ => none
def postbaglaw5_LetterIds_0.C (R : Type) (c1 : letter_Ids_0.F R) (c2 : postbagref5_Ids_0.F R) (c3 : postbaglaw5_known_0.F R) (c4 : postbaglaw5_texts_oo.F R) (c5 : postbaglaw5_texts_or.F R) : Cfg R := ⟨tabTy tyL, postbaglaw5_LetterIds_0.Γ c1 c2 c3 c4 c5, fun _ => false, postbaglaw5_LetterIds_0.h⟩
theorem postbaglaw5_LetterIds_0.c (R : Type) (c1 : letter_Ids_0.F R) (c2 : postbagref5_Ids_0.F R) (c3 : postbaglaw5_known_0.F R) (c4 : postbaglaw5_texts_oo.F R) (c5 : postbaglaw5_texts_or.F R) (κ : List SV → Option R) (k : Nat) (a0 : ByteArray) (a1 : ByteArray) :
    runF (postbaglaw5_LetterIds_0.C R c1 c2 c3 c4 c5) Tryz.f7 10000 k [.str a0, .str a1] κ = postbaglaw5_LetterIds_0.e c1 c2 c3 c4 c5 a0 a1 (fun r0 => κ [.bool r0]) := by kernel_rfl
theorem postbaglaw5_LetterIds_0.run (R : Type) (κ : List SV → Option R) (a0 : ByteArray) (a1 : ByteArray) :
    runF (postbaglaw5_LetterIds_0.C R letter_Ids_0 postbagref5_Ids_0 postbaglaw5_known_0 postbaglaw5_texts_oo postbaglaw5_texts_or) Tryz.f7 10000 fuelK [.str a0, .str a1] κ = postbaglaw5_LetterIds_0 a0 a1 (fun r0 => κ [.bool r0]) := by
  rw [postbaglaw5_LetterIds_0.c]
  rfl
theorem postbaglaw5_LetterIds_0.Γ_does {R : Type} (tab : Tab) (ht : TabOk tab) (g : Nat) : Does (R := R) Tryz.prog (tabTy tyL) tab g ((postbaglaw5_LetterIds_0.C R letter_Ids_0 postbagref5_Ids_0 postbaglaw5_known_0 postbaglaw5_texts_oo postbaglaw5_texts_or).call g) := by
  refine does_of fun xs κ => ?_
  show DoesAt _ _ _ g xs κ (postbaglaw5_LetterIds_0.Γ letter_Ids_0 postbagref5_Ids_0 postbaglaw5_known_0 postbaglaw5_texts_oo postbaglaw5_texts_or g xs κ)
  unfold postbaglaw5_LetterIds_0.Γ
  split
  · split
    · exact postbaglaw5_known_0.does tab ht κ
    · exact DoesAt.none
  · split
    · exact postbaglaw5_texts_oo.does tab ht _ _ κ
    · exact postbaglaw5_texts_or.does tab ht _ _ κ
    · exact DoesAt.none
  · split
    · exact letter_Ids_0.does tab ht _ κ
    · exact DoesAt.none
  · split
    · exact postbagref5_Ids_0.does tab ht _ κ
    · exact DoesAt.none
  · exact DoesAt.none
theorem postbaglaw5_LetterIds_0.does {R : Type} (tab : Tab) (ht : TabOk tab) (a0 : ByteArray) (a1 : ByteArray) (κ : List SV → Option R) : DoesAt Tryz.prog (tabTy tyL) tab 7 [.str a0, .str a1] κ (postbaglaw5_LetterIds_0 a0 a1 (fun r0 => κ [.bool r0])) := by
  intro r h w vs Rt Ra bs hpre
  exact runF_sound tyOk (postbaglaw5_LetterIds_0.Γ_does tab ht) (show Tryz.prog.funcs[7]? = some Tryz.f7 by kernel_rfl) (by kernel_rfl) ((postbaglaw5_LetterIds_0.run R κ a0 a1).trans h) hpre
end Go.Proofs.Ab
