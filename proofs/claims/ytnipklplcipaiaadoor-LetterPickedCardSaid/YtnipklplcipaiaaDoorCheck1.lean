/- Each plain function is what a call of its Go function does, checked by the kernel (no condition but what its checks ask). -/
import Derived.Test.YtnipklplcipaiaaDoorSeat
import Derived.Test.YtnipklplcipaiaaDoorText
/- Each typed text is what its function does: checked by the kernel. -/
namespace Go.Proofs.Ab
set_option linter.unusedVariables false
set_option maxRecDepth 4000
open Go Go.Proofs
set_option maxRecDepth 100000
def stringslite_HasPrefix_0.Γ {R : Type} (g : Nat) (xs : List SV) (κ : List SV → Option R) : Option R :=
  match g with
  | _ => none
def stringslite_HasPrefix_0.h (n : Nat) : Option (List (Nat × List (Nat × Nat))) :=
  match n with
  | _ => none
def stringslite_HasPrefix_0.C (R : Type) : Cfg R := ⟨tabTy tyL, stringslite_HasPrefix_0.Γ, fun _ => false, stringslite_HasPrefix_0.h⟩
theorem stringslite_HasPrefix_0.c (R : Type) (κ : List SV → Option R) (k : Nat) (a0 : ByteArray) (a1 : ByteArray) :
    runF (stringslite_HasPrefix_0.C R) Tryd.f55 10000 k [.str a0, .str a1] κ = stringslite_HasPrefix_0.e a0 a1 (fun r0 => κ [.bool r0]) := by kernel_rfl
theorem stringslite_HasPrefix_0.run (R : Type) (κ : List SV → Option R) (a0 : ByteArray) (a1 : ByteArray) :
    runF (stringslite_HasPrefix_0.C R) Tryd.f55 10000 fuelK [.str a0, .str a1] κ = stringslite_HasPrefix_0 a0 a1 (fun r0 => κ [.bool r0]) := by
  rw [stringslite_HasPrefix_0.c]
  rfl
theorem stringslite_HasPrefix_0.Γ_does {R : Type} (tab : Tab) (ht : TabOk tab) (g : Nat) : Does (R := R) Tryd.prog (tabTy tyL) tab g ((stringslite_HasPrefix_0.C R).call g) := by
  refine does_of fun xs κ => ?_
  show DoesAt _ _ _ g xs κ (stringslite_HasPrefix_0.Γ g xs κ)
  unfold stringslite_HasPrefix_0.Γ
  split
  · exact DoesAt.none
theorem stringslite_HasPrefix_0.does {R : Type} (tab : Tab) (ht : TabOk tab) (a0 : ByteArray) (a1 : ByteArray) (κ : List SV → Option R) : DoesAt Tryd.prog (tabTy tyL) tab 55 [.str a0, .str a1] κ (stringslite_HasPrefix_0 a0 a1 (fun r0 => κ [.bool r0])) := by
  intro r h w vs Rt Ra bs hpre
  exact runF_sound tyOk (stringslite_HasPrefix_0.Γ_does tab ht) (show Tryd.prog.funcs[55]? = some Tryd.f55 by kernel_rfl) (by kernel_rfl) ((stringslite_HasPrefix_0.run R κ a0 a1).trans h) hpre
def strings_HasPrefix_0.Γ {R : Type} (c1 : stringslite_HasPrefix_0.F R) (g : Nat) (xs : List SV) (κ : List SV → Option R) : Option R :=
  match g with
  | 55 => (match xs with
    | [.str a0, .str a1] => c1 a0 a1 (fun r0 => κ [.bool r0])
    | _ => none)
  | _ => none
def strings_HasPrefix_0.h (n : Nat) : Option (List (Nat × List (Nat × Nat))) :=
  match n with
  | _ => none
def strings_HasPrefix_0.C (R : Type) (c1 : stringslite_HasPrefix_0.F R) : Cfg R := ⟨tabTy tyL, strings_HasPrefix_0.Γ c1, fun _ => false, strings_HasPrefix_0.h⟩
theorem strings_HasPrefix_0.c (R : Type) (c1 : stringslite_HasPrefix_0.F R) (κ : List SV → Option R) (k : Nat) (a0 : ByteArray) (a1 : ByteArray) :
    runF (strings_HasPrefix_0.C R c1) Tryd.f30 10000 k [.str a0, .str a1] κ = strings_HasPrefix_0.e c1 a0 a1 (fun r0 => κ [.bool r0]) := by kernel_rfl
theorem strings_HasPrefix_0.run (R : Type) (κ : List SV → Option R) (a0 : ByteArray) (a1 : ByteArray) :
    runF (strings_HasPrefix_0.C R stringslite_HasPrefix_0) Tryd.f30 10000 fuelK [.str a0, .str a1] κ = strings_HasPrefix_0 a0 a1 (fun r0 => κ [.bool r0]) := by
  rw [strings_HasPrefix_0.c]
  rfl
theorem strings_HasPrefix_0.Γ_does {R : Type} (tab : Tab) (ht : TabOk tab) (g : Nat) : Does (R := R) Tryd.prog (tabTy tyL) tab g ((strings_HasPrefix_0.C R stringslite_HasPrefix_0).call g) := by
  refine does_of fun xs κ => ?_
  show DoesAt _ _ _ g xs κ (strings_HasPrefix_0.Γ stringslite_HasPrefix_0 g xs κ)
  unfold strings_HasPrefix_0.Γ
  split
  · split
    · exact stringslite_HasPrefix_0.does tab ht _ _ κ
    · exact DoesAt.none
  · exact DoesAt.none
theorem strings_HasPrefix_0.does {R : Type} (tab : Tab) (ht : TabOk tab) (a0 : ByteArray) (a1 : ByteArray) (κ : List SV → Option R) : DoesAt Tryd.prog (tabTy tyL) tab 30 [.str a0, .str a1] κ (strings_HasPrefix_0 a0 a1 (fun r0 => κ [.bool r0])) := by
  intro r h w vs Rt Ra bs hpre
  exact runF_sound tyOk (strings_HasPrefix_0.Γ_does tab ht) (show Tryd.prog.funcs[30]? = some Tryd.f30 by kernel_rfl) (by kernel_rfl) ((strings_HasPrefix_0.run R κ a0 a1).trans h) hpre
theorem stringslite_Index_0.does {R : Type} (tab : Tab) (ht : TabOk tab) (a0 a1 : ByteArray) (κ : List SV → Option R) : DoesAt Tryd.prog (tabTy tyL) tab 56 [.str a0, .str a1] κ (stringslite_Index_0 a0 a1 (fun r0 => κ [.int .i64 r0])) := by
  obtain ⟨m, cs, t, fz, ht, hm⟩ := ht
  exact chk_does fun h => strs2_does Tryd.call56 a0 a1 (.int .i64 _) (fun w hw => Any.stringslite_Index Tryd.lays219 a0 a1 m w (of_decide_eq_true h) (tab_cell hm (hw _ _ ht))) (fun c => res_int) κ
def strings_Index_0.Γ {R : Type} (c1 : stringslite_Index_0.F R) (g : Nat) (xs : List SV) (κ : List SV → Option R) : Option R :=
  match g with
  | 56 => (match xs with
    | [.str a0, .str a1] => c1 a0 a1 (fun r0 => κ [.int .i64 r0])
    | _ => none)
  | _ => none
def strings_Index_0.h (n : Nat) : Option (List (Nat × List (Nat × Nat))) :=
  match n with
  | _ => none
def strings_Index_0.C (R : Type) (c1 : stringslite_Index_0.F R) : Cfg R := ⟨tabTy tyL, strings_Index_0.Γ c1, fun _ => false, strings_Index_0.h⟩
theorem strings_Index_0.c (R : Type) (c1 : stringslite_Index_0.F R) (κ : List SV → Option R) (k : Nat) (a0 : ByteArray) (a1 : ByteArray) :
    runF (strings_Index_0.C R c1) Tryd.f31 10000 k [.str a0, .str a1] κ = strings_Index_0.e c1 a0 a1 (fun r0 => κ [.int .i64 r0]) := by kernel_rfl
theorem strings_Index_0.run (R : Type) (κ : List SV → Option R) (a0 : ByteArray) (a1 : ByteArray) :
    runF (strings_Index_0.C R stringslite_Index_0) Tryd.f31 10000 fuelK [.str a0, .str a1] κ = strings_Index_0 a0 a1 (fun r0 => κ [.int .i64 r0]) := by
  rw [strings_Index_0.c]
  rfl
theorem strings_Index_0.Γ_does {R : Type} (tab : Tab) (ht : TabOk tab) (g : Nat) : Does (R := R) Tryd.prog (tabTy tyL) tab g ((strings_Index_0.C R stringslite_Index_0).call g) := by
  refine does_of fun xs κ => ?_
  show DoesAt _ _ _ g xs κ (strings_Index_0.Γ stringslite_Index_0 g xs κ)
  unfold strings_Index_0.Γ
  split
  · split
    · exact stringslite_Index_0.does tab ht _ _ κ
    · exact DoesAt.none
  · exact DoesAt.none
theorem strings_Index_0.does {R : Type} (tab : Tab) (ht : TabOk tab) (a0 : ByteArray) (a1 : ByteArray) (κ : List SV → Option R) : DoesAt Tryd.prog (tabTy tyL) tab 31 [.str a0, .str a1] κ (strings_Index_0 a0 a1 (fun r0 => κ [.int .i64 r0])) := by
  intro r h w vs Rt Ra bs hpre
  exact runF_sound tyOk (strings_Index_0.Γ_does tab ht) (show Tryd.prog.funcs[31]? = some Tryd.f31 by kernel_rfl) (by kernel_rfl) ((strings_Index_0.run R κ a0 a1).trans h) hpre
def letter_Split_0.Γ {R : Type} (c1 : strings_HasPrefix_0.F R) (c2 : strings_Index_0.F R) (g : Nat) (xs : List SV) (κ : List SV → Option R) : Option R :=
  match g with
  | 30 => (match xs with
    | [.str a0, .str a1] => c1 a0 a1 (fun r0 => κ [.bool r0])
    | _ => none)
  | 31 => (match xs with
    | [.str a0, .str a1] => c2 a0 a1 (fun r0 => κ [.int .i64 r0])
    | _ => none)
  | _ => none
def letter_Split_0.h (n : Nat) : Option (List (Nat × List (Nat × Nat))) :=
  match n with
  | _ => none
def letter_Split_0.C (R : Type) (c1 : strings_HasPrefix_0.F R) (c2 : strings_Index_0.F R) : Cfg R := ⟨tabTy tyL, letter_Split_0.Γ c1 c2, fun _ => false, letter_Split_0.h⟩
theorem letter_Split_0.c (R : Type) (c1 : strings_HasPrefix_0.F R) (c2 : strings_Index_0.F R) (κ : List SV → Option R) (k : Nat) (a0 : ByteArray) :
    runF (letter_Split_0.C R c1 c2) Tryd.f11 10000 k [.str a0] κ = letter_Split_0.e c1 c2 a0 (fun r0 r1 => κ [.tup [.str r0, .str r1]]) := by kernel_rfl
theorem letter_Split_0.run (R : Type) (κ : List SV → Option R) (a0 : ByteArray) :
    runF (letter_Split_0.C R strings_HasPrefix_0 strings_Index_0) Tryd.f11 10000 fuelK [.str a0] κ = letter_Split_0 a0 (fun r0 r1 => κ [.tup [.str r0, .str r1]]) := by
  rw [letter_Split_0.c]
  rfl
theorem letter_Split_0.Γ_does {R : Type} (tab : Tab) (ht : TabOk tab) (g : Nat) : Does (R := R) Tryd.prog (tabTy tyL) tab g ((letter_Split_0.C R strings_HasPrefix_0 strings_Index_0).call g) := by
  refine does_of fun xs κ => ?_
  show DoesAt _ _ _ g xs κ (letter_Split_0.Γ strings_HasPrefix_0 strings_Index_0 g xs κ)
  unfold letter_Split_0.Γ
  split
  · split
    · exact strings_HasPrefix_0.does tab ht _ _ κ
    · exact DoesAt.none
  · split
    · exact strings_Index_0.does tab ht _ _ κ
    · exact DoesAt.none
  · exact DoesAt.none
theorem letter_Split_0.does {R : Type} (tab : Tab) (ht : TabOk tab) (a0 : ByteArray) (κ : List SV → Option R) : DoesAt Tryd.prog (tabTy tyL) tab 11 [.str a0] κ (letter_Split_0 a0 (fun r0 r1 => κ [.tup [.str r0, .str r1]])) := by
  intro r h w vs Rt Ra bs hpre
  exact runF_sound tyOk (letter_Split_0.Γ_does tab ht) (show Tryd.prog.funcs[11]? = some Tryd.f11 by kernel_rfl) (by kernel_rfl) ((letter_Split_0.run R κ a0).trans h) hpre
def letter_isBlank_0.Γ {R : Type} (g : Nat) (xs : List SV) (κ : List SV → Option R) : Option R :=
  match g with
  | _ => none
def letter_isBlank_0.h (n : Nat) : Option (List (Nat × List (Nat × Nat))) :=
  match n with
  | _ => none
def letter_isBlank_0.C (R : Type) : Cfg R := ⟨tabTy tyL, letter_isBlank_0.Γ, fun _ => false, letter_isBlank_0.h⟩
theorem letter_isBlank_0.c (R : Type) (κ : List SV → Option R) (k : Nat) (a0 : Int) :
    runF (letter_isBlank_0.C R) Tryd.f43 10000 k [.int .u8 a0] κ = letter_isBlank_0.e a0 (fun r0 => κ [.bool r0]) := by kernel_rfl
theorem letter_isBlank_0.run (R : Type) (κ : List SV → Option R) (a0 : Int) :
    runF (letter_isBlank_0.C R) Tryd.f43 10000 fuelK [.int .u8 a0] κ = letter_isBlank_0 a0 (fun r0 => κ [.bool r0]) := by
  rw [letter_isBlank_0.c]
  rfl
theorem letter_isBlank_0.Γ_does {R : Type} (tab : Tab) (ht : TabOk tab) (g : Nat) : Does (R := R) Tryd.prog (tabTy tyL) tab g ((letter_isBlank_0.C R).call g) := by
  refine does_of fun xs κ => ?_
  show DoesAt _ _ _ g xs κ (letter_isBlank_0.Γ g xs κ)
  unfold letter_isBlank_0.Γ
  split
  · exact DoesAt.none
theorem letter_isBlank_0.does {R : Type} (tab : Tab) (ht : TabOk tab) (a0 : Int) (κ : List SV → Option R) : DoesAt Tryd.prog (tabTy tyL) tab 43 [.int .u8 a0] κ (letter_isBlank_0 a0 (fun r0 => κ [.bool r0])) := by
  intro r h w vs Rt Ra bs hpre
  exact runF_sound tyOk (letter_isBlank_0.Γ_does tab ht) (show Tryd.prog.funcs[43]? = some Tryd.f43 by kernel_rfl) (by kernel_rfl) ((letter_isBlank_0.run R κ a0).trans h) hpre
def letter_begins_0.Γ {R : Type} (c1 : letter_isBlank_0.F R) (g : Nat) (xs : List SV) (κ : List SV → Option R) : Option R :=
  match g with
  | 43 => (match xs with
    | [.int .u8 a0] => c1 a0 (fun r0 => κ [.bool r0])
    | _ => none)
  | _ => none
def letter_begins_0.h (n : Nat) : Option (List (Nat × List (Nat × Nat))) :=
  match n with
  | 2 => some [(0, [(0, 0)]), (4, [(0, 0)])]
  | 5 => some [(0, [(0, 0)]), (4, [(0, 0)]), (5, [(0, 0)])]
  | _ => none
def letter_begins_0.C (R : Type) (c1 : letter_isBlank_0.F R) : Cfg R := ⟨tabTy tyL, letter_begins_0.Γ c1, fun _ => false, letter_begins_0.h⟩
def letter_begins_0.s2 (x0 : ByteArray) (x1 : Int) : St := ⟨mkS 60 [(0, .str x0), (4, .int .i64 x1)], [], top⟩
def letter_begins_0.s5 (x0 : ByteArray) (x1 : Int) (x2 : ByteArray) : St := ⟨mkS 60 [(0, .str x0), (4, .int .i64 x1), (5, .str x2)], [], top⟩
theorem letter_begins_0.c2 (R : Type) (c1 : letter_isBlank_0.F R) (J : List Item → St → Option R) (κ : List SV → Option R) (x0 : ByteArray) (x1 : Int) :
    start (letter_begins_0.C R c1) J (retK (letter_begins_0.C R c1) Tryd.f59.results.toList (List.range 0) κ) 10000 (placeOf Tryd.f59 2) (letter_begins_0.s2 x0 x1) = letter_begins_0.t2 c1 x0 x1 (fun y0 y1 => J (placeOf Tryd.f59 2) (letter_begins_0.s2 y0 y1)) (fun y0 y1 y2 => J (placeOf Tryd.f59 5) (letter_begins_0.s5 y0 y1 y2)) (fun r0 r1 => κ [.tup [.str r0, .bool r1]]) := by kernel_rfl
theorem letter_begins_0.c5 (R : Type) (c1 : letter_isBlank_0.F R) (J : List Item → St → Option R) (κ : List SV → Option R) (x0 : ByteArray) (x1 : Int) (x2 : ByteArray) :
    start (letter_begins_0.C R c1) J (retK (letter_begins_0.C R c1) Tryd.f59.results.toList (List.range 0) κ) 10000 (placeOf Tryd.f59 5) (letter_begins_0.s5 x0 x1 x2) = letter_begins_0.t5 c1 x0 x1 x2 (fun y0 y1 => J (placeOf Tryd.f59 2) (letter_begins_0.s2 y0 y1)) (fun y0 y1 y2 => J (placeOf Tryd.f59 5) (letter_begins_0.s5 y0 y1 y2)) (fun r0 r1 => κ [.tup [.str r0, .bool r1]]) := by kernel_rfl
theorem letter_begins_0.c (R : Type) (c1 : letter_isBlank_0.F R) (κ : List SV → Option R) (k : Nat) (a0 : ByteArray) :
    runF (letter_begins_0.C R c1) Tryd.f59 10000 k [.str a0] κ = letter_begins_0.e c1 a0 (fun y0 y1 => goto (letter_begins_0.C R c1) (retK (letter_begins_0.C R c1) Tryd.f59.results.toList (List.range 0) κ) 10000 k (placeOf Tryd.f59 2) (letter_begins_0.s2 y0 y1)) (fun y0 y1 y2 => goto (letter_begins_0.C R c1) (retK (letter_begins_0.C R c1) Tryd.f59.results.toList (List.range 0) κ) 10000 k (placeOf Tryd.f59 5) (letter_begins_0.s5 y0 y1 y2)) (fun r0 r1 => κ [.tup [.str r0, .bool r1]]) := by kernel_rfl
theorem letter_begins_0.g5 (R : Type) (c1 : letter_isBlank_0.F R) (κ : List SV → Option R) : ∀ (f : Nat) (x0 : ByteArray) (x1 : Int) (x2 : ByteArray), goto (letter_begins_0.C R c1) (retK (letter_begins_0.C R c1) Tryd.f59.results.toList (List.range 0) κ) 10000 f (placeOf Tryd.f59 5) (letter_begins_0.s5 x0 x1 x2) = letter_begins_0.L5 c1 (fun r0 r1 => κ [.tup [.str r0, .bool r1]]) f x0 x1 x2
  | 0, _, _, _ => rfl
  | f + 1, x0, x1, x2 => by
    show start (letter_begins_0.C R c1) (goto (letter_begins_0.C R c1) (retK (letter_begins_0.C R c1) Tryd.f59.results.toList (List.range 0) κ) 10000 f) (retK (letter_begins_0.C R c1) Tryd.f59.results.toList (List.range 0) κ) 10000 (placeOf Tryd.f59 5) (letter_begins_0.s5 x0 x1 x2) = _
    rw [letter_begins_0.c5]
    simp only [letter_begins_0.g5 R c1 κ f]
    rfl
theorem letter_begins_0.g2 (R : Type) (c1 : letter_isBlank_0.F R) (κ : List SV → Option R) : ∀ (f : Nat) (x0 : ByteArray) (x1 : Int), goto (letter_begins_0.C R c1) (retK (letter_begins_0.C R c1) Tryd.f59.results.toList (List.range 0) κ) 10000 f (placeOf Tryd.f59 2) (letter_begins_0.s2 x0 x1) = letter_begins_0.L2 c1 (fun r0 r1 => κ [.tup [.str r0, .bool r1]]) f x0 x1
  | 0, _, _ => rfl
  | f + 1, x0, x1 => by
    show start (letter_begins_0.C R c1) (goto (letter_begins_0.C R c1) (retK (letter_begins_0.C R c1) Tryd.f59.results.toList (List.range 0) κ) 10000 f) (retK (letter_begins_0.C R c1) Tryd.f59.results.toList (List.range 0) κ) 10000 (placeOf Tryd.f59 2) (letter_begins_0.s2 x0 x1) = _
    rw [letter_begins_0.c2]
    simp only [letter_begins_0.g2 R c1 κ f, letter_begins_0.g5 R c1 κ f]
    rfl
theorem letter_begins_0.run (R : Type) (κ : List SV → Option R) (a0 : ByteArray) :
    runF (letter_begins_0.C R letter_isBlank_0) Tryd.f59 10000 fuelK [.str a0] κ = letter_begins_0 a0 (fun r0 r1 => κ [.tup [.str r0, .bool r1]]) := by
  rw [letter_begins_0.c]
  simp only [letter_begins_0.g2 R letter_isBlank_0 κ fuelK, letter_begins_0.g5 R letter_isBlank_0 κ fuelK]
  rfl
theorem letter_begins_0.Γ_does {R : Type} (tab : Tab) (ht : TabOk tab) (g : Nat) : Does (R := R) Tryd.prog (tabTy tyL) tab g ((letter_begins_0.C R letter_isBlank_0).call g) := by
  refine does_of fun xs κ => ?_
  show DoesAt _ _ _ g xs κ (letter_begins_0.Γ letter_isBlank_0 g xs κ)
  unfold letter_begins_0.Γ
  split
  · split
    · exact letter_isBlank_0.does tab ht _ κ
    · exact DoesAt.none
  · exact DoesAt.none
theorem letter_begins_0.does {R : Type} (tab : Tab) (ht : TabOk tab) (a0 : ByteArray) (κ : List SV → Option R) : DoesAt Tryd.prog (tabTy tyL) tab 59 [.str a0] κ (letter_begins_0 a0 (fun r0 r1 => κ [.tup [.str r0, .bool r1]])) := by
  intro r h w vs Rt Ra bs hpre
  exact runF_sound tyOk (letter_begins_0.Γ_does tab ht) (show Tryd.prog.funcs[59]? = some Tryd.f59 by kernel_rfl) (by kernel_rfl) ((letter_begins_0.run R κ a0).trans h) hpre
def letter_rows_0.Γ {R : Type} (c1 : strings_HasPrefix_0.F R) (c2 : strings_Index_0.F R) (c3 : letter_isBlank_0.F R) (c4 : letter_begins_0.F R) (g : Nat) (xs : List SV) (κ : List SV → Option R) : Option R :=
  match g with
  | 30 => (match xs with
    | [.str a0, .str a1] => c1 a0 a1 (fun r0 => κ [.bool r0])
    | _ => none)
  | 31 => (match xs with
    | [.str a0, .str a1] => c2 a0 a1 (fun r0 => κ [.int .i64 r0])
    | _ => none)
  | 43 => (match xs with
    | [.int .u8 a0] => c3 a0 (fun r0 => κ [.bool r0])
    | _ => none)
  | 59 => (match xs with
    | [.str a0] => c4 a0 (fun r0 r1 => κ [.tup [.str r0, .bool r1]])
    | _ => none)
  | _ => none
def letter_rows_0.h (n : Nat) : Option (List (Nat × List (Nat × Nat))) :=
  match n with
  | 3 => some [(0, [(0, 0)]), (3, [(0, 60)]), (4, [(0, 0)]), (5, [(0, 0)])]
  | _ => none
def letter_rows_0.C (R : Type) (c1 : strings_HasPrefix_0.F R) (c2 : strings_Index_0.F R) (c3 : letter_isBlank_0.F R) (c4 : letter_begins_0.F R) : Cfg R := ⟨tabTy tyL, letter_rows_0.Γ c1 c2 c3 c4, fun _ => false, letter_rows_0.h⟩
def letter_rows_0.s3 (x0 : ByteArray) (x1 : Bool) (x2 : ByteArray) (x3 : List AV) : St := ⟨mkS 52 [(0, .str x0), (3, .own 256), (4, .bool x1), (5, .str x2)], [(256, .row 58 x3 true)], top⟩
theorem letter_rows_0.c3 (R : Type) (c1 : strings_HasPrefix_0.F R) (c2 : strings_Index_0.F R) (c3 : letter_isBlank_0.F R) (c4 : letter_begins_0.F R) (J : List Item → St → Option R) (κ : List SV → Option R) (x0 : ByteArray) (x1 : Bool) (x2 : ByteArray) (x3 : List AV) :
    start (letter_rows_0.C R c1 c2 c3 c4) J (retK (letter_rows_0.C R c1 c2 c3 c4) Tryd.f35.results.toList (List.range 0) κ) 10000 (placeOf Tryd.f35 3) (letter_rows_0.s3 x0 x1 x2 x3) = letter_rows_0.t3 c1 c2 c3 c4 x0 x1 x2 x3 (fun y0 y1 y2 y3 => J (placeOf Tryd.f35 3) (letter_rows_0.s3 y0 y1 y2 y3)) (fun r0 => κ [.fr 58 r0 true]) := by kernel_rfl
theorem letter_rows_0.c (R : Type) (c1 : strings_HasPrefix_0.F R) (c2 : strings_Index_0.F R) (c3 : letter_isBlank_0.F R) (c4 : letter_begins_0.F R) (κ : List SV → Option R) (k : Nat) (a0 : ByteArray) :
    runF (letter_rows_0.C R c1 c2 c3 c4) Tryd.f35 10000 k [.str a0] κ = letter_rows_0.e c1 c2 c3 c4 a0 (fun y0 y1 y2 y3 => goto (letter_rows_0.C R c1 c2 c3 c4) (retK (letter_rows_0.C R c1 c2 c3 c4) Tryd.f35.results.toList (List.range 0) κ) 10000 k (placeOf Tryd.f35 3) (letter_rows_0.s3 y0 y1 y2 y3)) (fun r0 => κ [.fr 58 r0 true]) := by kernel_rfl
theorem letter_rows_0.g3 (R : Type) (c1 : strings_HasPrefix_0.F R) (c2 : strings_Index_0.F R) (c3 : letter_isBlank_0.F R) (c4 : letter_begins_0.F R) (κ : List SV → Option R) : ∀ (f : Nat) (x0 : ByteArray) (x1 : Bool) (x2 : ByteArray) (x3 : List AV), goto (letter_rows_0.C R c1 c2 c3 c4) (retK (letter_rows_0.C R c1 c2 c3 c4) Tryd.f35.results.toList (List.range 0) κ) 10000 f (placeOf Tryd.f35 3) (letter_rows_0.s3 x0 x1 x2 x3) = letter_rows_0.L3 c1 c2 c3 c4 (fun r0 => κ [.fr 58 r0 true]) f x0 x1 x2 x3
  | 0, _, _, _, _ => rfl
  | f + 1, x0, x1, x2, x3 => by
    show start (letter_rows_0.C R c1 c2 c3 c4) (goto (letter_rows_0.C R c1 c2 c3 c4) (retK (letter_rows_0.C R c1 c2 c3 c4) Tryd.f35.results.toList (List.range 0) κ) 10000 f) (retK (letter_rows_0.C R c1 c2 c3 c4) Tryd.f35.results.toList (List.range 0) κ) 10000 (placeOf Tryd.f35 3) (letter_rows_0.s3 x0 x1 x2 x3) = _
    rw [letter_rows_0.c3]
    simp only [letter_rows_0.g3 R c1 c2 c3 c4 κ f]
    rfl
theorem letter_rows_0.run (R : Type) (κ : List SV → Option R) (a0 : ByteArray) :
    runF (letter_rows_0.C R strings_HasPrefix_0 strings_Index_0 letter_isBlank_0 letter_begins_0) Tryd.f35 10000 fuelK [.str a0] κ = letter_rows_0 a0 (fun r0 => κ [.fr 58 r0 true]) := by
  rw [letter_rows_0.c]
  simp only [letter_rows_0.g3 R strings_HasPrefix_0 strings_Index_0 letter_isBlank_0 letter_begins_0 κ fuelK]
  rfl
theorem letter_rows_0.Γ_does {R : Type} (tab : Tab) (ht : TabOk tab) (g : Nat) : Does (R := R) Tryd.prog (tabTy tyL) tab g ((letter_rows_0.C R strings_HasPrefix_0 strings_Index_0 letter_isBlank_0 letter_begins_0).call g) := by
  refine does_of fun xs κ => ?_
  show DoesAt _ _ _ g xs κ (letter_rows_0.Γ strings_HasPrefix_0 strings_Index_0 letter_isBlank_0 letter_begins_0 g xs κ)
  unfold letter_rows_0.Γ
  split
  · split
    · exact strings_HasPrefix_0.does tab ht _ _ κ
    · exact DoesAt.none
  · split
    · exact strings_Index_0.does tab ht _ _ κ
    · exact DoesAt.none
  · split
    · exact letter_isBlank_0.does tab ht _ κ
    · exact DoesAt.none
  · split
    · exact letter_begins_0.does tab ht _ κ
    · exact DoesAt.none
  · exact DoesAt.none
theorem letter_rows_0.does {R : Type} (tab : Tab) (ht : TabOk tab) (a0 : ByteArray) (κ : List SV → Option R) : DoesAt Tryd.prog (tabTy tyL) tab 35 [.str a0] κ (letter_rows_0 a0 (fun r0 => κ [.fr 58 r0 true])) := by
  intro r h w vs Rt Ra bs hpre
  exact runF_sound tyOk (letter_rows_0.Γ_does tab ht) (show Tryd.prog.funcs[35]? = some Tryd.f35 by kernel_rfl) (by kernel_rfl) ((letter_rows_0.run R κ a0).trans h) hpre
def stringslite_HasSuffix_0.Γ {R : Type} (g : Nat) (xs : List SV) (κ : List SV → Option R) : Option R :=
  match g with
  | _ => none
def stringslite_HasSuffix_0.h (n : Nat) : Option (List (Nat × List (Nat × Nat))) :=
  match n with
  | _ => none
def stringslite_HasSuffix_0.C (R : Type) : Cfg R := ⟨tabTy tyL, stringslite_HasSuffix_0.Γ, fun _ => false, stringslite_HasSuffix_0.h⟩
theorem stringslite_HasSuffix_0.c (R : Type) (κ : List SV → Option R) (k : Nat) (a0 : ByteArray) (a1 : ByteArray) :
    runF (stringslite_HasSuffix_0.C R) Tryd.f70 10000 k [.str a0, .str a1] κ = stringslite_HasSuffix_0.e a0 a1 (fun r0 => κ [.bool r0]) := by kernel_rfl
theorem stringslite_HasSuffix_0.run (R : Type) (κ : List SV → Option R) (a0 : ByteArray) (a1 : ByteArray) :
    runF (stringslite_HasSuffix_0.C R) Tryd.f70 10000 fuelK [.str a0, .str a1] κ = stringslite_HasSuffix_0 a0 a1 (fun r0 => κ [.bool r0]) := by
  rw [stringslite_HasSuffix_0.c]
  rfl
theorem stringslite_HasSuffix_0.Γ_does {R : Type} (tab : Tab) (ht : TabOk tab) (g : Nat) : Does (R := R) Tryd.prog (tabTy tyL) tab g ((stringslite_HasSuffix_0.C R).call g) := by
  refine does_of fun xs κ => ?_
  show DoesAt _ _ _ g xs κ (stringslite_HasSuffix_0.Γ g xs κ)
  unfold stringslite_HasSuffix_0.Γ
  split
  · exact DoesAt.none
theorem stringslite_HasSuffix_0.does {R : Type} (tab : Tab) (ht : TabOk tab) (a0 : ByteArray) (a1 : ByteArray) (κ : List SV → Option R) : DoesAt Tryd.prog (tabTy tyL) tab 70 [.str a0, .str a1] κ (stringslite_HasSuffix_0 a0 a1 (fun r0 => κ [.bool r0])) := by
  intro r h w vs Rt Ra bs hpre
  exact runF_sound tyOk (stringslite_HasSuffix_0.Γ_does tab ht) (show Tryd.prog.funcs[70]? = some Tryd.f70 by kernel_rfl) (by kernel_rfl) ((stringslite_HasSuffix_0.run R κ a0 a1).trans h) hpre
def stringslite_TrimSuffix_0.Γ {R : Type} (c1 : stringslite_HasSuffix_0.F R) (g : Nat) (xs : List SV) (κ : List SV → Option R) : Option R :=
  match g with
  | 70 => (match xs with
    | [.str a0, .str a1] => c1 a0 a1 (fun r0 => κ [.bool r0])
    | _ => none)
  | _ => none
def stringslite_TrimSuffix_0.h (n : Nat) : Option (List (Nat × List (Nat × Nat))) :=
  match n with
  | _ => none
def stringslite_TrimSuffix_0.C (R : Type) (c1 : stringslite_HasSuffix_0.F R) : Cfg R := ⟨tabTy tyL, stringslite_TrimSuffix_0.Γ c1, fun _ => false, stringslite_TrimSuffix_0.h⟩
theorem stringslite_TrimSuffix_0.c (R : Type) (c1 : stringslite_HasSuffix_0.F R) (κ : List SV → Option R) (k : Nat) (a0 : ByteArray) (a1 : ByteArray) :
    runF (stringslite_TrimSuffix_0.C R c1) Tryd.f60 10000 k [.str a0, .str a1] κ = stringslite_TrimSuffix_0.e c1 a0 a1 (fun r0 => κ [.str r0]) := by kernel_rfl
theorem stringslite_TrimSuffix_0.run (R : Type) (κ : List SV → Option R) (a0 : ByteArray) (a1 : ByteArray) :
    runF (stringslite_TrimSuffix_0.C R stringslite_HasSuffix_0) Tryd.f60 10000 fuelK [.str a0, .str a1] κ = stringslite_TrimSuffix_0 a0 a1 (fun r0 => κ [.str r0]) := by
  rw [stringslite_TrimSuffix_0.c]
  rfl
theorem stringslite_TrimSuffix_0.Γ_does {R : Type} (tab : Tab) (ht : TabOk tab) (g : Nat) : Does (R := R) Tryd.prog (tabTy tyL) tab g ((stringslite_TrimSuffix_0.C R stringslite_HasSuffix_0).call g) := by
  refine does_of fun xs κ => ?_
  show DoesAt _ _ _ g xs κ (stringslite_TrimSuffix_0.Γ stringslite_HasSuffix_0 g xs κ)
  unfold stringslite_TrimSuffix_0.Γ
  split
  · split
    · exact stringslite_HasSuffix_0.does tab ht _ _ κ
    · exact DoesAt.none
  · exact DoesAt.none
theorem stringslite_TrimSuffix_0.does {R : Type} (tab : Tab) (ht : TabOk tab) (a0 : ByteArray) (a1 : ByteArray) (κ : List SV → Option R) : DoesAt Tryd.prog (tabTy tyL) tab 60 [.str a0, .str a1] κ (stringslite_TrimSuffix_0 a0 a1 (fun r0 => κ [.str r0])) := by
  intro r h w vs Rt Ra bs hpre
  exact runF_sound tyOk (stringslite_TrimSuffix_0.Γ_does tab ht) (show Tryd.prog.funcs[60]? = some Tryd.f60 by kernel_rfl) (by kernel_rfl) ((stringslite_TrimSuffix_0.run R κ a0 a1).trans h) hpre
def strings_TrimSuffix_0.Γ {R : Type} (c1 : stringslite_TrimSuffix_0.F R) (g : Nat) (xs : List SV) (κ : List SV → Option R) : Option R :=
  match g with
  | 60 => (match xs with
    | [.str a0, .str a1] => c1 a0 a1 (fun r0 => κ [.str r0])
    | _ => none)
  | _ => none
def strings_TrimSuffix_0.h (n : Nat) : Option (List (Nat × List (Nat × Nat))) :=
  match n with
  | _ => none
def strings_TrimSuffix_0.C (R : Type) (c1 : stringslite_TrimSuffix_0.F R) : Cfg R := ⟨tabTy tyL, strings_TrimSuffix_0.Γ c1, fun _ => false, strings_TrimSuffix_0.h⟩
theorem strings_TrimSuffix_0.c (R : Type) (c1 : stringslite_TrimSuffix_0.F R) (κ : List SV → Option R) (k : Nat) (a0 : ByteArray) (a1 : ByteArray) :
    runF (strings_TrimSuffix_0.C R c1) Tryd.f36 10000 k [.str a0, .str a1] κ = strings_TrimSuffix_0.e c1 a0 a1 (fun r0 => κ [.str r0]) := by kernel_rfl
theorem strings_TrimSuffix_0.run (R : Type) (κ : List SV → Option R) (a0 : ByteArray) (a1 : ByteArray) :
    runF (strings_TrimSuffix_0.C R stringslite_TrimSuffix_0) Tryd.f36 10000 fuelK [.str a0, .str a1] κ = strings_TrimSuffix_0 a0 a1 (fun r0 => κ [.str r0]) := by
  rw [strings_TrimSuffix_0.c]
  rfl
theorem strings_TrimSuffix_0.Γ_does {R : Type} (tab : Tab) (ht : TabOk tab) (g : Nat) : Does (R := R) Tryd.prog (tabTy tyL) tab g ((strings_TrimSuffix_0.C R stringslite_TrimSuffix_0).call g) := by
  refine does_of fun xs κ => ?_
  show DoesAt _ _ _ g xs κ (strings_TrimSuffix_0.Γ stringslite_TrimSuffix_0 g xs κ)
  unfold strings_TrimSuffix_0.Γ
  split
  · split
    · exact stringslite_TrimSuffix_0.does tab ht _ _ κ
    · exact DoesAt.none
  · exact DoesAt.none
theorem strings_TrimSuffix_0.does {R : Type} (tab : Tab) (ht : TabOk tab) (a0 : ByteArray) (a1 : ByteArray) (κ : List SV → Option R) : DoesAt Tryd.prog (tabTy tyL) tab 36 [.str a0, .str a1] κ (strings_TrimSuffix_0 a0 a1 (fun r0 => κ [.str r0])) := by
  intro r h w vs Rt Ra bs hpre
  exact runF_sound tyOk (strings_TrimSuffix_0.Γ_does tab ht) (show Tryd.prog.funcs[36]? = some Tryd.f36 by kernel_rfl) (by kernel_rfl) ((strings_TrimSuffix_0.run R κ a0 a1).trans h) hpre
theorem bytealg_IndexByteString_0.does {R : Type} (tab : Tab) (ht : TabOk tab) (a0 : ByteArray) (a1 : Int) (κ : List SV → Option R) : DoesAt Tryd.prog (tabTy tyL) tab 92 [.str a0, .int .u8 a1] κ (bytealg_IndexByteString_0 a0 a1 (fun r0 => κ [.int .i64 r0])) :=
  indexByteString_does (show Tryd.prog.funcs[92]? = some Tryd.f92 by kernel_rfl) (by kernel_rfl) (by kernel_rfl) (by kernel_rfl) (by kernel_rfl) a0 a1 κ
def stringslite_IndexByte_0.Γ {R : Type} (c1 : bytealg_IndexByteString_0.F R) (g : Nat) (xs : List SV) (κ : List SV → Option R) : Option R :=
  match g with
  | 92 => (match xs with
    | [.str a0, .int .u8 a1] => c1 a0 a1 (fun r0 => κ [.int .i64 r0])
    | _ => none)
  | _ => none
def stringslite_IndexByte_0.h (n : Nat) : Option (List (Nat × List (Nat × Nat))) :=
  match n with
  | _ => none
def stringslite_IndexByte_0.C (R : Type) (c1 : bytealg_IndexByteString_0.F R) : Cfg R := ⟨tabTy tyL, stringslite_IndexByte_0.Γ c1, fun _ => false, stringslite_IndexByte_0.h⟩
theorem stringslite_IndexByte_0.c (R : Type) (c1 : bytealg_IndexByteString_0.F R) (κ : List SV → Option R) (k : Nat) (a0 : ByteArray) (a1 : Int) :
    runF (stringslite_IndexByte_0.C R c1) Tryd.f61 10000 k [.str a0, .int .u8 a1] κ = stringslite_IndexByte_0.e c1 a0 a1 (fun r0 => κ [.int .i64 r0]) := by kernel_rfl
theorem stringslite_IndexByte_0.run (R : Type) (κ : List SV → Option R) (a0 : ByteArray) (a1 : Int) :
    runF (stringslite_IndexByte_0.C R bytealg_IndexByteString_0) Tryd.f61 10000 fuelK [.str a0, .int .u8 a1] κ = stringslite_IndexByte_0 a0 a1 (fun r0 => κ [.int .i64 r0]) := by
  rw [stringslite_IndexByte_0.c]
  rfl
theorem stringslite_IndexByte_0.Γ_does {R : Type} (tab : Tab) (ht : TabOk tab) (g : Nat) : Does (R := R) Tryd.prog (tabTy tyL) tab g ((stringslite_IndexByte_0.C R bytealg_IndexByteString_0).call g) := by
  refine does_of fun xs κ => ?_
  show DoesAt _ _ _ g xs κ (stringslite_IndexByte_0.Γ bytealg_IndexByteString_0 g xs κ)
  unfold stringslite_IndexByte_0.Γ
  split
  · split
    · exact bytealg_IndexByteString_0.does tab ht _ _ κ
    · exact DoesAt.none
  · exact DoesAt.none
theorem stringslite_IndexByte_0.does {R : Type} (tab : Tab) (ht : TabOk tab) (a0 : ByteArray) (a1 : Int) (κ : List SV → Option R) : DoesAt Tryd.prog (tabTy tyL) tab 61 [.str a0, .int .u8 a1] κ (stringslite_IndexByte_0 a0 a1 (fun r0 => κ [.int .i64 r0])) := by
  intro r h w vs Rt Ra bs hpre
  exact runF_sound tyOk (stringslite_IndexByte_0.Γ_does tab ht) (show Tryd.prog.funcs[61]? = some Tryd.f61 by kernel_rfl) (by kernel_rfl) ((stringslite_IndexByte_0.run R κ a0 a1).trans h) hpre
def strings_IndexByte_0.Γ {R : Type} (c1 : stringslite_IndexByte_0.F R) (g : Nat) (xs : List SV) (κ : List SV → Option R) : Option R :=
  match g with
  | 61 => (match xs with
    | [.str a0, .int .u8 a1] => c1 a0 a1 (fun r0 => κ [.int .i64 r0])
    | _ => none)
  | _ => none
def strings_IndexByte_0.h (n : Nat) : Option (List (Nat × List (Nat × Nat))) :=
  match n with
  | _ => none
def strings_IndexByte_0.C (R : Type) (c1 : stringslite_IndexByte_0.F R) : Cfg R := ⟨tabTy tyL, strings_IndexByte_0.Γ c1, fun _ => false, strings_IndexByte_0.h⟩
theorem strings_IndexByte_0.c (R : Type) (c1 : stringslite_IndexByte_0.F R) (κ : List SV → Option R) (k : Nat) (a0 : ByteArray) (a1 : Int) :
    runF (strings_IndexByte_0.C R c1) Tryd.f37 10000 k [.str a0, .int .u8 a1] κ = strings_IndexByte_0.e c1 a0 a1 (fun r0 => κ [.int .i64 r0]) := by kernel_rfl
theorem strings_IndexByte_0.run (R : Type) (κ : List SV → Option R) (a0 : ByteArray) (a1 : Int) :
    runF (strings_IndexByte_0.C R stringslite_IndexByte_0) Tryd.f37 10000 fuelK [.str a0, .int .u8 a1] κ = strings_IndexByte_0 a0 a1 (fun r0 => κ [.int .i64 r0]) := by
  rw [strings_IndexByte_0.c]
  rfl
theorem strings_IndexByte_0.Γ_does {R : Type} (tab : Tab) (ht : TabOk tab) (g : Nat) : Does (R := R) Tryd.prog (tabTy tyL) tab g ((strings_IndexByte_0.C R stringslite_IndexByte_0).call g) := by
  refine does_of fun xs κ => ?_
  show DoesAt _ _ _ g xs κ (strings_IndexByte_0.Γ stringslite_IndexByte_0 g xs κ)
  unfold strings_IndexByte_0.Γ
  split
  · split
    · exact stringslite_IndexByte_0.does tab ht _ _ κ
    · exact DoesAt.none
  · exact DoesAt.none
theorem strings_IndexByte_0.does {R : Type} (tab : Tab) (ht : TabOk tab) (a0 : ByteArray) (a1 : Int) (κ : List SV → Option R) : DoesAt Tryd.prog (tabTy tyL) tab 37 [.str a0, .int .u8 a1] κ (strings_IndexByte_0 a0 a1 (fun r0 => κ [.int .i64 r0])) := by
  intro r h w vs Rt Ra bs hpre
  exact runF_sound tyOk (strings_IndexByte_0.Γ_does tab ht) (show Tryd.prog.funcs[37]? = some Tryd.f37 by kernel_rfl) (by kernel_rfl) ((strings_IndexByte_0.run R κ a0 a1).trans h) hpre
def strings_trimRightByte_0.Γ {R : Type} (g : Nat) (xs : List SV) (κ : List SV → Option R) : Option R :=
  match g with
  | _ => none
def strings_trimRightByte_0.h (n : Nat) : Option (List (Nat × List (Nat × Nat))) :=
  match n with
  | 1 => some [(0, [(0, 0)]), (1, [(0, 0)])]
  | _ => none
def strings_trimRightByte_0.C (R : Type) : Cfg R := ⟨tabTy tyL, strings_trimRightByte_0.Γ, fun _ => false, strings_trimRightByte_0.h⟩
def strings_trimRightByte_0.s1 (x0 : ByteArray) (x1 : Int) : St := ⟨mkS 23 [(0, .str x0), (1, .int .u8 x1)], [], top⟩
theorem strings_trimRightByte_0.c1 (R : Type) (J : List Item → St → Option R) (κ : List SV → Option R) (x0 : ByteArray) (x1 : Int) :
    start (strings_trimRightByte_0.C R) J (retK (strings_trimRightByte_0.C R) Tryd.f63.results.toList (List.range 0) κ) 10000 (placeOf Tryd.f63 1) (strings_trimRightByte_0.s1 x0 x1) = strings_trimRightByte_0.t1 x0 x1 (fun y0 y1 => J (placeOf Tryd.f63 1) (strings_trimRightByte_0.s1 y0 y1)) (fun r0 => κ [.str r0]) := by kernel_rfl
theorem strings_trimRightByte_0.c (R : Type) (κ : List SV → Option R) (k : Nat) (a0 : ByteArray) (a1 : Int) :
    runF (strings_trimRightByte_0.C R) Tryd.f63 10000 k [.str a0, .int .u8 a1] κ = strings_trimRightByte_0.e a0 a1 (fun y0 y1 => goto (strings_trimRightByte_0.C R) (retK (strings_trimRightByte_0.C R) Tryd.f63.results.toList (List.range 0) κ) 10000 k (placeOf Tryd.f63 1) (strings_trimRightByte_0.s1 y0 y1)) (fun r0 => κ [.str r0]) := by kernel_rfl
theorem strings_trimRightByte_0.g1 (R : Type) (κ : List SV → Option R) : ∀ (f : Nat) (x0 : ByteArray) (x1 : Int), goto (strings_trimRightByte_0.C R) (retK (strings_trimRightByte_0.C R) Tryd.f63.results.toList (List.range 0) κ) 10000 f (placeOf Tryd.f63 1) (strings_trimRightByte_0.s1 x0 x1) = strings_trimRightByte_0.L1 (fun r0 => κ [.str r0]) f x0 x1
  | 0, _, _ => rfl
  | f + 1, x0, x1 => by
    show start (strings_trimRightByte_0.C R) (goto (strings_trimRightByte_0.C R) (retK (strings_trimRightByte_0.C R) Tryd.f63.results.toList (List.range 0) κ) 10000 f) (retK (strings_trimRightByte_0.C R) Tryd.f63.results.toList (List.range 0) κ) 10000 (placeOf Tryd.f63 1) (strings_trimRightByte_0.s1 x0 x1) = _
    rw [strings_trimRightByte_0.c1]
    simp only [strings_trimRightByte_0.g1 R κ f]
    rfl
theorem strings_trimRightByte_0.run (R : Type) (κ : List SV → Option R) (a0 : ByteArray) (a1 : Int) :
    runF (strings_trimRightByte_0.C R) Tryd.f63 10000 fuelK [.str a0, .int .u8 a1] κ = strings_trimRightByte_0 a0 a1 (fun r0 => κ [.str r0]) := by
  rw [strings_trimRightByte_0.c]
  simp only [strings_trimRightByte_0.g1 R κ fuelK]
  rfl
theorem strings_trimRightByte_0.Γ_does {R : Type} (tab : Tab) (ht : TabOk tab) (g : Nat) : Does (R := R) Tryd.prog (tabTy tyL) tab g ((strings_trimRightByte_0.C R).call g) := by
  refine does_of fun xs κ => ?_
  show DoesAt _ _ _ g xs κ (strings_trimRightByte_0.Γ g xs κ)
  unfold strings_trimRightByte_0.Γ
  split
  · exact DoesAt.none
theorem strings_trimRightByte_0.does {R : Type} (tab : Tab) (ht : TabOk tab) (a0 : ByteArray) (a1 : Int) (κ : List SV → Option R) : DoesAt Tryd.prog (tabTy tyL) tab 63 [.str a0, .int .u8 a1] κ (strings_trimRightByte_0 a0 a1 (fun r0 => κ [.str r0])) := by
  intro r h w vs Rt Ra bs hpre
  exact runF_sound tyOk (strings_trimRightByte_0.Γ_does tab ht) (show Tryd.prog.funcs[63]? = some Tryd.f63 by kernel_rfl) (by kernel_rfl) ((strings_trimRightByte_0.run R κ a0 a1).trans h) hpre
def strings_trimLeftByte_0.Γ {R : Type} (g : Nat) (xs : List SV) (κ : List SV → Option R) : Option R :=
  match g with
  | _ => none
def strings_trimLeftByte_0.h (n : Nat) : Option (List (Nat × List (Nat × Nat))) :=
  match n with
  | 1 => some [(0, [(0, 0)]), (1, [(0, 0)])]
  | _ => none
def strings_trimLeftByte_0.C (R : Type) : Cfg R := ⟨tabTy tyL, strings_trimLeftByte_0.Γ, fun _ => false, strings_trimLeftByte_0.h⟩
def strings_trimLeftByte_0.s1 (x0 : ByteArray) (x1 : Int) : St := ⟨mkS 17 [(0, .str x0), (1, .int .u8 x1)], [], top⟩
theorem strings_trimLeftByte_0.c1 (R : Type) (J : List Item → St → Option R) (κ : List SV → Option R) (x0 : ByteArray) (x1 : Int) :
    start (strings_trimLeftByte_0.C R) J (retK (strings_trimLeftByte_0.C R) Tryd.f62.results.toList (List.range 0) κ) 10000 (placeOf Tryd.f62 1) (strings_trimLeftByte_0.s1 x0 x1) = strings_trimLeftByte_0.t1 x0 x1 (fun y0 y1 => J (placeOf Tryd.f62 1) (strings_trimLeftByte_0.s1 y0 y1)) (fun r0 => κ [.str r0]) := by kernel_rfl
theorem strings_trimLeftByte_0.c (R : Type) (κ : List SV → Option R) (k : Nat) (a0 : ByteArray) (a1 : Int) :
    runF (strings_trimLeftByte_0.C R) Tryd.f62 10000 k [.str a0, .int .u8 a1] κ = strings_trimLeftByte_0.e a0 a1 (fun y0 y1 => goto (strings_trimLeftByte_0.C R) (retK (strings_trimLeftByte_0.C R) Tryd.f62.results.toList (List.range 0) κ) 10000 k (placeOf Tryd.f62 1) (strings_trimLeftByte_0.s1 y0 y1)) (fun r0 => κ [.str r0]) := by kernel_rfl
theorem strings_trimLeftByte_0.g1 (R : Type) (κ : List SV → Option R) : ∀ (f : Nat) (x0 : ByteArray) (x1 : Int), goto (strings_trimLeftByte_0.C R) (retK (strings_trimLeftByte_0.C R) Tryd.f62.results.toList (List.range 0) κ) 10000 f (placeOf Tryd.f62 1) (strings_trimLeftByte_0.s1 x0 x1) = strings_trimLeftByte_0.L1 (fun r0 => κ [.str r0]) f x0 x1
  | 0, _, _ => rfl
  | f + 1, x0, x1 => by
    show start (strings_trimLeftByte_0.C R) (goto (strings_trimLeftByte_0.C R) (retK (strings_trimLeftByte_0.C R) Tryd.f62.results.toList (List.range 0) κ) 10000 f) (retK (strings_trimLeftByte_0.C R) Tryd.f62.results.toList (List.range 0) κ) 10000 (placeOf Tryd.f62 1) (strings_trimLeftByte_0.s1 x0 x1) = _
    rw [strings_trimLeftByte_0.c1]
    simp only [strings_trimLeftByte_0.g1 R κ f]
    rfl
theorem strings_trimLeftByte_0.run (R : Type) (κ : List SV → Option R) (a0 : ByteArray) (a1 : Int) :
    runF (strings_trimLeftByte_0.C R) Tryd.f62 10000 fuelK [.str a0, .int .u8 a1] κ = strings_trimLeftByte_0 a0 a1 (fun r0 => κ [.str r0]) := by
  rw [strings_trimLeftByte_0.c]
  simp only [strings_trimLeftByte_0.g1 R κ fuelK]
  rfl
theorem strings_trimLeftByte_0.Γ_does {R : Type} (tab : Tab) (ht : TabOk tab) (g : Nat) : Does (R := R) Tryd.prog (tabTy tyL) tab g ((strings_trimLeftByte_0.C R).call g) := by
  refine does_of fun xs κ => ?_
  show DoesAt _ _ _ g xs κ (strings_trimLeftByte_0.Γ g xs κ)
  unfold strings_trimLeftByte_0.Γ
  split
  · exact DoesAt.none
theorem strings_trimLeftByte_0.does {R : Type} (tab : Tab) (ht : TabOk tab) (a0 : ByteArray) (a1 : Int) (κ : List SV → Option R) : DoesAt Tryd.prog (tabTy tyL) tab 62 [.str a0, .int .u8 a1] κ (strings_trimLeftByte_0 a0 a1 (fun r0 => κ [.str r0])) := by
  intro r h w vs Rt Ra bs hpre
  exact runF_sound tyOk (strings_trimLeftByte_0.Γ_does tab ht) (show Tryd.prog.funcs[62]? = some Tryd.f62 by kernel_rfl) (by kernel_rfl) ((strings_trimLeftByte_0.run R κ a0 a1).trans h) hpre
def strings_makeASCIISet_0.Γ {R : Type} (g : Nat) (xs : List SV) (κ : List SV → Option R) : Option R :=
  match g with
  | _ => none
def strings_makeASCIISet_0.h (n : Nat) : Option (List (Nat × List (Nat × Nat))) :=
  match n with
  | 2 => some [(0, [(0, 0)]), (2, [(0, 0)]), (4, [(0, 0)])]
  | _ => none
def strings_makeASCIISet_0.C (R : Type) : Cfg R := ⟨tabTy tyL, strings_makeASCIISet_0.Γ, fun _ => false, strings_makeASCIISet_0.h⟩
def strings_makeASCIISet_0.s2 (x0 : ByteArray) (x1 : Int) (x2 : List AV) : St := ⟨mkS 21 [(0, .str x0), (2, .ap 192 256), (4, .int .i64 x1)], [(192, .row 4 x2 true)], top⟩
theorem strings_makeASCIISet_0.c2 (R : Type) (J : List Item → St → Option R) (κ : List SV → Option R) (x0 : ByteArray) (x1 : Int) (x2 : List AV) :
    start (strings_makeASCIISet_0.C R) J (retK (strings_makeASCIISet_0.C R) Tryd.f64.results.toList (List.range 0) κ) 10000 (placeOf Tryd.f64 2) (strings_makeASCIISet_0.s2 x0 x1 x2) = strings_makeASCIISet_0.t2 x0 x1 x2 (fun y0 y1 y2 => J (placeOf Tryd.f64 2) (strings_makeASCIISet_0.s2 y0 y1 y2)) (fun r0 r1 => κ [.tup [.ar 4 256 r0, .bool r1]]) := by kernel_rfl
theorem strings_makeASCIISet_0.c (R : Type) (κ : List SV → Option R) (k : Nat) (a0 : ByteArray) :
    runF (strings_makeASCIISet_0.C R) Tryd.f64 10000 k [.str a0] κ = strings_makeASCIISet_0.e a0 (fun y0 y1 y2 => goto (strings_makeASCIISet_0.C R) (retK (strings_makeASCIISet_0.C R) Tryd.f64.results.toList (List.range 0) κ) 10000 k (placeOf Tryd.f64 2) (strings_makeASCIISet_0.s2 y0 y1 y2)) (fun r0 r1 => κ [.tup [.ar 4 256 r0, .bool r1]]) := by kernel_rfl
theorem strings_makeASCIISet_0.g2 (R : Type) (κ : List SV → Option R) : ∀ (f : Nat) (x0 : ByteArray) (x1 : Int) (x2 : List AV), goto (strings_makeASCIISet_0.C R) (retK (strings_makeASCIISet_0.C R) Tryd.f64.results.toList (List.range 0) κ) 10000 f (placeOf Tryd.f64 2) (strings_makeASCIISet_0.s2 x0 x1 x2) = strings_makeASCIISet_0.L2 (fun r0 r1 => κ [.tup [.ar 4 256 r0, .bool r1]]) f x0 x1 x2
  | 0, _, _, _ => rfl
  | f + 1, x0, x1, x2 => by
    show start (strings_makeASCIISet_0.C R) (goto (strings_makeASCIISet_0.C R) (retK (strings_makeASCIISet_0.C R) Tryd.f64.results.toList (List.range 0) κ) 10000 f) (retK (strings_makeASCIISet_0.C R) Tryd.f64.results.toList (List.range 0) κ) 10000 (placeOf Tryd.f64 2) (strings_makeASCIISet_0.s2 x0 x1 x2) = _
    rw [strings_makeASCIISet_0.c2]
    simp only [strings_makeASCIISet_0.g2 R κ f]
    rfl
theorem strings_makeASCIISet_0.run (R : Type) (κ : List SV → Option R) (a0 : ByteArray) :
    runF (strings_makeASCIISet_0.C R) Tryd.f64 10000 fuelK [.str a0] κ = strings_makeASCIISet_0 a0 (fun r0 r1 => κ [.tup [.ar 4 256 r0, .bool r1]]) := by
  rw [strings_makeASCIISet_0.c]
  simp only [strings_makeASCIISet_0.g2 R κ fuelK]
  rfl
theorem strings_makeASCIISet_0.Γ_does {R : Type} (tab : Tab) (ht : TabOk tab) (g : Nat) : Does (R := R) Tryd.prog (tabTy tyL) tab g ((strings_makeASCIISet_0.C R).call g) := by
  refine does_of fun xs κ => ?_
  show DoesAt _ _ _ g xs κ (strings_makeASCIISet_0.Γ g xs κ)
  unfold strings_makeASCIISet_0.Γ
  split
  · exact DoesAt.none
theorem strings_makeASCIISet_0.does {R : Type} (tab : Tab) (ht : TabOk tab) (a0 : ByteArray) (κ : List SV → Option R) : DoesAt Tryd.prog (tabTy tyL) tab 64 [.str a0] κ (strings_makeASCIISet_0 a0 (fun r0 r1 => κ [.tup [.ar 4 256 r0, .bool r1]])) := by
  intro r h w vs Rt Ra bs hpre
  exact runF_sound tyOk (strings_makeASCIISet_0.Γ_does tab ht) (show Tryd.prog.funcs[64]? = some Tryd.f64 by kernel_rfl) (by kernel_rfl) ((strings_makeASCIISet_0.run R κ a0).trans h) hpre
def strings_asciiSet_contains_hi.Γ {R : Type} (g : Nat) (xs : List SV) (κ : List SV → Option R) : Option R :=
  match g with
  | _ => none
def strings_asciiSet_contains_hi.h (n : Nat) : Option (List (Nat × List (Nat × Nat))) :=
  match n with
  | _ => none
def strings_asciiSet_contains_hi.C (R : Type) : Cfg R := ⟨tabTy tyL, strings_asciiSet_contains_hi.Γ, fun _ => false, strings_asciiSet_contains_hi.h⟩
theorem strings_asciiSet_contains_hi.c (R : Type) (κ : List SV → Option R) (k : Nat) (a0 : List AV) (a1 : Int) :
    runF (strings_asciiSet_contains_hi.C R) Tryd.f93 10000 k [.ra 4 256 a0 true, .int .u8 a1] κ = strings_asciiSet_contains_hi.e a0 a1 (fun r0 => κ [.bool r0]) := by kernel_rfl
theorem strings_asciiSet_contains_hi.run (R : Type) (κ : List SV → Option R) (a0 : List AV) (a1 : Int) :
    runF (strings_asciiSet_contains_hi.C R) Tryd.f93 10000 fuelK [.ra 4 256 a0 true, .int .u8 a1] κ = strings_asciiSet_contains_hi a0 a1 (fun r0 => κ [.bool r0]) := by
  rw [strings_asciiSet_contains_hi.c]
  rfl
theorem strings_asciiSet_contains_hi.Γ_does {R : Type} (tab : Tab) (ht : TabOk tab) (g : Nat) : Does (R := R) Tryd.prog (tabTy tyL) tab g ((strings_asciiSet_contains_hi.C R).call g) := by
  refine does_of fun xs κ => ?_
  show DoesAt _ _ _ g xs κ (strings_asciiSet_contains_hi.Γ g xs κ)
  unfold strings_asciiSet_contains_hi.Γ
  split
  · exact DoesAt.none
theorem strings_asciiSet_contains_hi.does {R : Type} (tab : Tab) (ht : TabOk tab) (a0 : List AV) (a1 : Int) (κ : List SV → Option R) : DoesAt Tryd.prog (tabTy tyL) tab 93 [.ra 4 256 a0 true, .int .u8 a1] κ (strings_asciiSet_contains_hi a0 a1 (fun r0 => κ [.bool r0])) := by
  intro r h w vs Rt Ra bs hpre
  exact runF_sound tyOk (strings_asciiSet_contains_hi.Γ_does tab ht) (show Tryd.prog.funcs[93]? = some Tryd.f93 by kernel_rfl) (by kernel_rfl) ((strings_asciiSet_contains_hi.run R κ a0 a1).trans h) hpre
def strings_trimRightASCII_sh.Γ {R : Type} (c1 : strings_asciiSet_contains_hi.F R) (g : Nat) (xs : List SV) (κ : List SV → Option R) : Option R :=
  match g with
  | 93 => (match xs with
    | [.ra 4 256 a0 true, .int .u8 a1] => c1 a0 a1 (fun r0 => κ [.bool r0])
    | _ => none)
  | _ => none
def strings_trimRightASCII_sh.h (n : Nat) : Option (List (Nat × List (Nat × Nat))) :=
  match n with
  | 1 => some [(0, [(0, 0)]), (1, [(0, 0)])]
  | _ => none
def strings_trimRightASCII_sh.C (R : Type) (c1 : strings_asciiSet_contains_hi.F R) : Cfg R := ⟨tabTy tyL, strings_trimRightASCII_sh.Γ c1, fun g => Nat.beq g 93, strings_trimRightASCII_sh.h⟩
def strings_trimRightASCII_sh.s1 (x0 : ByteArray) (x1 : List AV) : St := ⟨mkS 22 [(0, .str x0), (1, .ra 4 256 x1 true)], [], top⟩
theorem strings_trimRightASCII_sh.c1 (R : Type) (c1 : strings_asciiSet_contains_hi.F R) (J : List Item → St → Option R) (κ : List SV → Option R) (x0 : ByteArray) (x1 : List AV) :
    start (strings_trimRightASCII_sh.C R c1) J (retK (strings_trimRightASCII_sh.C R c1) Tryd.f66.results.toList (List.range 0) κ) 10000 (placeOf Tryd.f66 1) (strings_trimRightASCII_sh.s1 x0 x1) = strings_trimRightASCII_sh.t1 c1 x0 x1 (fun y0 y1 => J (placeOf Tryd.f66 1) (strings_trimRightASCII_sh.s1 y0 y1)) (fun r0 => κ [.str r0]) := by kernel_rfl
theorem strings_trimRightASCII_sh.c (R : Type) (c1 : strings_asciiSet_contains_hi.F R) (κ : List SV → Option R) (k : Nat) (a0 : ByteArray) (a1 : List AV) :
    runF (strings_trimRightASCII_sh.C R c1) Tryd.f66 10000 k [.str a0, .ra 4 256 a1 true] κ = strings_trimRightASCII_sh.e c1 a0 a1 (fun y0 y1 => goto (strings_trimRightASCII_sh.C R c1) (retK (strings_trimRightASCII_sh.C R c1) Tryd.f66.results.toList (List.range 0) κ) 10000 k (placeOf Tryd.f66 1) (strings_trimRightASCII_sh.s1 y0 y1)) (fun r0 => κ [.str r0]) := by kernel_rfl
theorem strings_trimRightASCII_sh.g1 (R : Type) (c1 : strings_asciiSet_contains_hi.F R) (κ : List SV → Option R) : ∀ (f : Nat) (x0 : ByteArray) (x1 : List AV), goto (strings_trimRightASCII_sh.C R c1) (retK (strings_trimRightASCII_sh.C R c1) Tryd.f66.results.toList (List.range 0) κ) 10000 f (placeOf Tryd.f66 1) (strings_trimRightASCII_sh.s1 x0 x1) = strings_trimRightASCII_sh.L1 c1 (fun r0 => κ [.str r0]) f x0 x1
  | 0, _, _ => rfl
  | f + 1, x0, x1 => by
    show start (strings_trimRightASCII_sh.C R c1) (goto (strings_trimRightASCII_sh.C R c1) (retK (strings_trimRightASCII_sh.C R c1) Tryd.f66.results.toList (List.range 0) κ) 10000 f) (retK (strings_trimRightASCII_sh.C R c1) Tryd.f66.results.toList (List.range 0) κ) 10000 (placeOf Tryd.f66 1) (strings_trimRightASCII_sh.s1 x0 x1) = _
    rw [strings_trimRightASCII_sh.c1]
    simp only [strings_trimRightASCII_sh.g1 R c1 κ f]
    rfl
theorem strings_trimRightASCII_sh.run (R : Type) (κ : List SV → Option R) (a0 : ByteArray) (a1 : List AV) :
    runF (strings_trimRightASCII_sh.C R strings_asciiSet_contains_hi) Tryd.f66 10000 fuelK [.str a0, .ra 4 256 a1 true] κ = strings_trimRightASCII_sh a0 a1 (fun r0 => κ [.str r0]) := by
  rw [strings_trimRightASCII_sh.c]
  simp only [strings_trimRightASCII_sh.g1 R strings_asciiSet_contains_hi κ fuelK]
  rfl
theorem strings_trimRightASCII_sh.Γ_does {R : Type} (tab : Tab) (ht : TabOk tab) (g : Nat) : Does (R := R) Tryd.prog (tabTy tyL) tab g ((strings_trimRightASCII_sh.C R strings_asciiSet_contains_hi).call g) := by
  refine does_of fun xs κ => ?_
  show DoesAt _ _ _ g xs κ (strings_trimRightASCII_sh.Γ strings_asciiSet_contains_hi g xs κ)
  unfold strings_trimRightASCII_sh.Γ
  split
  · split
    · exact strings_asciiSet_contains_hi.does tab ht _ _ κ
    · exact DoesAt.none
  · exact DoesAt.none
theorem strings_trimRightASCII_sh.does {R : Type} (tab : Tab) (ht : TabOk tab) (a0 : ByteArray) (a1 : List AV) (κ : List SV → Option R) : DoesAt Tryd.prog (tabTy tyL) tab 66 [.str a0, .ra 4 256 a1 true] κ (strings_trimRightASCII_sh a0 a1 (fun r0 => κ [.str r0])) := by
  intro r h w vs Rt Ra bs hpre
  exact runF_sound tyOk (strings_trimRightASCII_sh.Γ_does tab ht) (show Tryd.prog.funcs[66]? = some Tryd.f66 by kernel_rfl) (by kernel_rfl) ((strings_trimRightASCII_sh.run R κ a0 a1).trans h) hpre
def strings_trimLeftASCII_sh.Γ {R : Type} (c1 : strings_asciiSet_contains_hi.F R) (g : Nat) (xs : List SV) (κ : List SV → Option R) : Option R :=
  match g with
  | 93 => (match xs with
    | [.ra 4 256 a0 true, .int .u8 a1] => c1 a0 a1 (fun r0 => κ [.bool r0])
    | _ => none)
  | _ => none
def strings_trimLeftASCII_sh.h (n : Nat) : Option (List (Nat × List (Nat × Nat))) :=
  match n with
  | 1 => some [(0, [(0, 0)]), (1, [(0, 0)])]
  | _ => none
def strings_trimLeftASCII_sh.C (R : Type) (c1 : strings_asciiSet_contains_hi.F R) : Cfg R := ⟨tabTy tyL, strings_trimLeftASCII_sh.Γ c1, fun g => Nat.beq g 93, strings_trimLeftASCII_sh.h⟩
def strings_trimLeftASCII_sh.s1 (x0 : ByteArray) (x1 : List AV) : St := ⟨mkS 16 [(0, .str x0), (1, .ra 4 256 x1 true)], [], top⟩
theorem strings_trimLeftASCII_sh.c1 (R : Type) (c1 : strings_asciiSet_contains_hi.F R) (J : List Item → St → Option R) (κ : List SV → Option R) (x0 : ByteArray) (x1 : List AV) :
    start (strings_trimLeftASCII_sh.C R c1) J (retK (strings_trimLeftASCII_sh.C R c1) Tryd.f65.results.toList (List.range 0) κ) 10000 (placeOf Tryd.f65 1) (strings_trimLeftASCII_sh.s1 x0 x1) = strings_trimLeftASCII_sh.t1 c1 x0 x1 (fun y0 y1 => J (placeOf Tryd.f65 1) (strings_trimLeftASCII_sh.s1 y0 y1)) (fun r0 => κ [.str r0]) := by kernel_rfl
theorem strings_trimLeftASCII_sh.c (R : Type) (c1 : strings_asciiSet_contains_hi.F R) (κ : List SV → Option R) (k : Nat) (a0 : ByteArray) (a1 : List AV) :
    runF (strings_trimLeftASCII_sh.C R c1) Tryd.f65 10000 k [.str a0, .ra 4 256 a1 true] κ = strings_trimLeftASCII_sh.e c1 a0 a1 (fun y0 y1 => goto (strings_trimLeftASCII_sh.C R c1) (retK (strings_trimLeftASCII_sh.C R c1) Tryd.f65.results.toList (List.range 0) κ) 10000 k (placeOf Tryd.f65 1) (strings_trimLeftASCII_sh.s1 y0 y1)) (fun r0 => κ [.str r0]) := by kernel_rfl
theorem strings_trimLeftASCII_sh.g1 (R : Type) (c1 : strings_asciiSet_contains_hi.F R) (κ : List SV → Option R) : ∀ (f : Nat) (x0 : ByteArray) (x1 : List AV), goto (strings_trimLeftASCII_sh.C R c1) (retK (strings_trimLeftASCII_sh.C R c1) Tryd.f65.results.toList (List.range 0) κ) 10000 f (placeOf Tryd.f65 1) (strings_trimLeftASCII_sh.s1 x0 x1) = strings_trimLeftASCII_sh.L1 c1 (fun r0 => κ [.str r0]) f x0 x1
  | 0, _, _ => rfl
  | f + 1, x0, x1 => by
    show start (strings_trimLeftASCII_sh.C R c1) (goto (strings_trimLeftASCII_sh.C R c1) (retK (strings_trimLeftASCII_sh.C R c1) Tryd.f65.results.toList (List.range 0) κ) 10000 f) (retK (strings_trimLeftASCII_sh.C R c1) Tryd.f65.results.toList (List.range 0) κ) 10000 (placeOf Tryd.f65 1) (strings_trimLeftASCII_sh.s1 x0 x1) = _
    rw [strings_trimLeftASCII_sh.c1]
    simp only [strings_trimLeftASCII_sh.g1 R c1 κ f]
    rfl
theorem strings_trimLeftASCII_sh.run (R : Type) (κ : List SV → Option R) (a0 : ByteArray) (a1 : List AV) :
    runF (strings_trimLeftASCII_sh.C R strings_asciiSet_contains_hi) Tryd.f65 10000 fuelK [.str a0, .ra 4 256 a1 true] κ = strings_trimLeftASCII_sh a0 a1 (fun r0 => κ [.str r0]) := by
  rw [strings_trimLeftASCII_sh.c]
  simp only [strings_trimLeftASCII_sh.g1 R strings_asciiSet_contains_hi κ fuelK]
  rfl
theorem strings_trimLeftASCII_sh.Γ_does {R : Type} (tab : Tab) (ht : TabOk tab) (g : Nat) : Does (R := R) Tryd.prog (tabTy tyL) tab g ((strings_trimLeftASCII_sh.C R strings_asciiSet_contains_hi).call g) := by
  refine does_of fun xs κ => ?_
  show DoesAt _ _ _ g xs κ (strings_trimLeftASCII_sh.Γ strings_asciiSet_contains_hi g xs κ)
  unfold strings_trimLeftASCII_sh.Γ
  split
  · split
    · exact strings_asciiSet_contains_hi.does tab ht _ _ κ
    · exact DoesAt.none
  · exact DoesAt.none
theorem strings_trimLeftASCII_sh.does {R : Type} (tab : Tab) (ht : TabOk tab) (a0 : ByteArray) (a1 : List AV) (κ : List SV → Option R) : DoesAt Tryd.prog (tabTy tyL) tab 65 [.str a0, .ra 4 256 a1 true] κ (strings_trimLeftASCII_sh a0 a1 (fun r0 => κ [.str r0])) := by
  intro r h w vs Rt Ra bs hpre
  exact runF_sound tyOk (strings_trimLeftASCII_sh.Γ_does tab ht) (show Tryd.prog.funcs[65]? = some Tryd.f65 by kernel_rfl) (by kernel_rfl) ((strings_trimLeftASCII_sh.run R κ a0 a1).trans h) hpre
def utf8_RuneStart_0.Γ {R : Type} (g : Nat) (xs : List SV) (κ : List SV → Option R) : Option R :=
  match g with
  | _ => none
def utf8_RuneStart_0.h (n : Nat) : Option (List (Nat × List (Nat × Nat))) :=
  match n with
  | _ => none
def utf8_RuneStart_0.C (R : Type) : Cfg R := ⟨tabTy tyL, utf8_RuneStart_0.Γ, fun _ => false, utf8_RuneStart_0.h⟩
theorem utf8_RuneStart_0.c (R : Type) (κ : List SV → Option R) (k : Nat) (a0 : Int) :
    runF (utf8_RuneStart_0.C R) Tryd.f112 10000 k [.int .u8 a0] κ = utf8_RuneStart_0.e a0 (fun r0 => κ [.bool r0]) := by kernel_rfl
theorem utf8_RuneStart_0.run (R : Type) (κ : List SV → Option R) (a0 : Int) :
    runF (utf8_RuneStart_0.C R) Tryd.f112 10000 fuelK [.int .u8 a0] κ = utf8_RuneStart_0 a0 (fun r0 => κ [.bool r0]) := by
  rw [utf8_RuneStart_0.c]
  rfl
theorem utf8_RuneStart_0.Γ_does {R : Type} (tab : Tab) (ht : TabOk tab) (g : Nat) : Does (R := R) Tryd.prog (tabTy tyL) tab g ((utf8_RuneStart_0.C R).call g) := by
  refine does_of fun xs κ => ?_
  show DoesAt _ _ _ g xs κ (utf8_RuneStart_0.Γ g xs κ)
  unfold utf8_RuneStart_0.Γ
  split
  · exact DoesAt.none
theorem utf8_RuneStart_0.does {R : Type} (tab : Tab) (ht : TabOk tab) (a0 : Int) (κ : List SV → Option R) : DoesAt Tryd.prog (tabTy tyL) tab 112 [.int .u8 a0] κ (utf8_RuneStart_0 a0 (fun r0 => κ [.bool r0])) := by
  intro r h w vs Rt Ra bs hpre
  exact runF_sound tyOk (utf8_RuneStart_0.Γ_does tab ht) (show Tryd.prog.funcs[112]? = some Tryd.f112 by kernel_rfl) (by kernel_rfl) ((utf8_RuneStart_0.run R κ a0).trans h) hpre
def strings_Trim_0.Γ {R : Type} (c1 : strings_trimRightByte_0.F R) (c2 : strings_trimLeftByte_0.F R) (c3 : strings_makeASCIISet_0.F R) (c4 : strings_trimRightASCII_sh.F R) (c5 : strings_trimLeftASCII_sh.F R) (g : Nat) (xs : List SV) (κ : List SV → Option R) : Option R :=
  match g with
  | 62 => (match xs with
    | [.str a0, .int .u8 a1] => c2 a0 a1 (fun r0 => κ [.str r0])
    | _ => none)
  | 63 => (match xs with
    | [.str a0, .int .u8 a1] => c1 a0 a1 (fun r0 => κ [.str r0])
    | _ => none)
  | 64 => (match xs with
    | [.str a0] => c3 a0 (fun r0 r1 => κ [.tup [.ar 4 256 r0, .bool r1]])
    | _ => none)
  | 65 => (match xs with
    | [.str a0, .ra 4 256 a1 true] => c5 a0 a1 (fun r0 => κ [.str r0])
    | _ => none)
  | 66 => (match xs with
    | [.str a0, .ra 4 256 a1 true] => c4 a0 a1 (fun r0 => κ [.str r0])
    | _ => none)
  | _ => none
def strings_Trim_0.h (n : Nat) : Option (List (Nat × List (Nat × Nat))) :=
  match n with
  | _ => none
def strings_Trim_0.C (R : Type) (c1 : strings_trimRightByte_0.F R) (c2 : strings_trimLeftByte_0.F R) (c3 : strings_makeASCIISet_0.F R) (c4 : strings_trimRightASCII_sh.F R) (c5 : strings_trimLeftASCII_sh.F R) : Cfg R := ⟨tabTy tyL, strings_Trim_0.Γ c1 c2 c3 c4 c5, fun g => Nat.beq g 65 || Nat.beq g 66, strings_Trim_0.h⟩
theorem strings_Trim_0.c (R : Type) (c1 : strings_trimRightByte_0.F R) (c2 : strings_trimLeftByte_0.F R) (c3 : strings_makeASCIISet_0.F R) (c4 : strings_trimRightASCII_sh.F R) (c5 : strings_trimLeftASCII_sh.F R) (κ : List SV → Option R) (k : Nat) (a0 : ByteArray) (a1 : ByteArray) :
    runF (strings_Trim_0.C R c1 c2 c3 c4 c5) Tryd.f38 10000 k [.str a0, .str a1] κ = strings_Trim_0.e c1 c2 c3 c4 c5 a0 a1 (fun r0 => κ [.str r0]) := by kernel_rfl
theorem strings_Trim_0.run (R : Type) (κ : List SV → Option R) (a0 : ByteArray) (a1 : ByteArray) :
    runF (strings_Trim_0.C R strings_trimRightByte_0 strings_trimLeftByte_0 strings_makeASCIISet_0 strings_trimRightASCII_sh strings_trimLeftASCII_sh) Tryd.f38 10000 fuelK [.str a0, .str a1] κ = strings_Trim_0 a0 a1 (fun r0 => κ [.str r0]) := by
  rw [strings_Trim_0.c]
  rfl
theorem strings_Trim_0.Γ_does {R : Type} (tab : Tab) (ht : TabOk tab) (g : Nat) : Does (R := R) Tryd.prog (tabTy tyL) tab g ((strings_Trim_0.C R strings_trimRightByte_0 strings_trimLeftByte_0 strings_makeASCIISet_0 strings_trimRightASCII_sh strings_trimLeftASCII_sh).call g) := by
  refine does_of fun xs κ => ?_
  show DoesAt _ _ _ g xs κ (strings_Trim_0.Γ strings_trimRightByte_0 strings_trimLeftByte_0 strings_makeASCIISet_0 strings_trimRightASCII_sh strings_trimLeftASCII_sh g xs κ)
  unfold strings_Trim_0.Γ
  split
  · split
    · exact strings_trimLeftByte_0.does tab ht _ _ κ
    · exact DoesAt.none
  · split
    · exact strings_trimRightByte_0.does tab ht _ _ κ
    · exact DoesAt.none
  · split
    · exact strings_makeASCIISet_0.does tab ht _ κ
    · exact DoesAt.none
  · split
    · exact strings_trimLeftASCII_sh.does tab ht _ _ κ
    · exact DoesAt.none
  · split
    · exact strings_trimRightASCII_sh.does tab ht _ _ κ
    · exact DoesAt.none
  · exact DoesAt.none
theorem strings_Trim_0.does {R : Type} (tab : Tab) (ht : TabOk tab) (a0 : ByteArray) (a1 : ByteArray) (κ : List SV → Option R) : DoesAt Tryd.prog (tabTy tyL) tab 38 [.str a0, .str a1] κ (strings_Trim_0 a0 a1 (fun r0 => κ [.str r0])) := by
  intro r h w vs Rt Ra bs hpre
  exact runF_sound tyOk (strings_Trim_0.Γ_does tab ht) (show Tryd.prog.funcs[38]? = some Tryd.f38 by kernel_rfl) (by kernel_rfl) ((strings_Trim_0.run R κ a0 a1).trans h) hpre
def letter_Fields_0.Γ {R : Type} (c1 : letter_rows_0.F R) (c2 : strings_Trim_0.F R) (c3 : strings_TrimSuffix_0.F R) (c4 : strings_IndexByte_0.F R) (g : Nat) (xs : List SV) (κ : List SV → Option R) : Option R :=
  match g with
  | 35 => (match xs with
    | [.str a0] => c1 a0 (fun r0 => κ [.fr 58 r0 true])
    | _ => none)
  | 36 => (match xs with
    | [.str a0, .str a1] => c3 a0 a1 (fun r0 => κ [.str r0])
    | _ => none)
  | 37 => (match xs with
    | [.str a0, .int .u8 a1] => c4 a0 a1 (fun r0 => κ [.int .i64 r0])
    | _ => none)
  | 38 => (match xs with
    | [.str a0, .str a1] => c2 a0 a1 (fun r0 => κ [.str r0])
    | _ => none)
  | _ => none
def letter_Fields_0.h (n : Nat) : Option (List (Nat × List (Nat × Nat))) :=
  match n with
  | 4 => some [(3, [(0, 30)]), (4, [(0, 11)]), (10, [(0, 0)]), (11, [(0, 0)]), (12, [(0, 0)])]
  | 8 => some [(3, [(0, 0)]), (4, [(0, 0)]), (6, [(0, 0)]), (10, [(0, 0)]), (11, [(0, 0)]), (12, [(0, 0)])]
  | 13 => some [(3, [(0, 30)]), (4, [(0, 11)]), (6, [(0, 0)]), (7, [(0, 0)]), (10, [(0, 0)]), (11, [(0, 0)]), (12, [(0, 0)])]
  | 15 => some [(3, [(0, 30)]), (4, [(0, 11)]), (10, [(0, 0)]), (11, [(0, 0)]), (12, [(0, 0)])]
  | 17 => some [(3, [(0, 0)]), (4, [(0, 0)]), (72, [(0, 0)]), (73, [(0, 0)])]
  | _ => none
def letter_Fields_0.C (R : Type) (c1 : letter_rows_0.F R) (c2 : strings_Trim_0.F R) (c3 : strings_TrimSuffix_0.F R) (c4 : strings_IndexByte_0.F R) : Cfg R := ⟨tabTy tyL, letter_Fields_0.Γ c1 c2 c3 c4, fun _ => false, letter_Fields_0.h⟩
def letter_Fields_0.s4 (x0 : Int) (x1 : Int) (x2 : List AV) (x3 : List AV) (x4 : List AV) : St := ⟨mkS 87 [(3, .own 256), (4, .own 320), (10, .own 704), (11, .int .i64 x0), (12, .int .i64 x1)], [(256, .row 28 x2 true), (320, .row 9 x3 true), (704, .row 58 x4 true)], top⟩
def letter_Fields_0.s8 (x0 : Int) (x1 : Int) (x2 : List AV) (x3 : List AV) (x4 : ByteArray) (x5 : ByteArray) (x6 : Bool) (x7 : Bool) (x8 : List AV) : St := ⟨mkS 87 [(3, .own 256), (4, .own 320), (6, .ptr 511 0), (10, .own 704), (11, .int .i64 x0), (12, .int .i64 x1)], [(256, .row 28 x2 true), (320, .row 9 x3 true), (511, .var 58 [.str x4, .str x5, .bool x6, .bool x7]), (704, .row 58 x8 true)], top⟩
def letter_Fields_0.s13 (x0 : ByteArray) (x1 : Int) (x2 : Int) (x3 : List AV) (x4 : List AV) (x5 : ByteArray) (x6 : ByteArray) (x7 : Bool) (x8 : Bool) (x9 : List AV) : St := ⟨mkS 87 [(3, .own 256), (4, .own 320), (6, .ptr 511 0), (7, .str x0), (10, .own 704), (11, .int .i64 x1), (12, .int .i64 x2)], [(256, .row 28 x3 true), (320, .row 9 x4 true), (511, .var 58 [.str x5, .str x6, .bool x7, .bool x8]), (704, .row 58 x9 true)], top⟩
def letter_Fields_0.s15 (x0 : Int) (x1 : Int) (x2 : List AV) (x3 : List AV) (x4 : List AV) : St := ⟨mkS 87 [(3, .own 256), (4, .own 320), (10, .own 704), (11, .int .i64 x0), (12, .int .i64 x1)], [(256, .row 28 x2 true), (320, .row 9 x3 true), (704, .row 58 x4 true)], top⟩
def letter_Fields_0.s17 (x0 : Int) (x1 : Int) (x2 : List AV) (x3 : List AV) : St := ⟨mkS 87 [(3, .own 256), (4, .own 320), (72, .int .i64 x0), (73, .int .i64 x1)], [(256, .row 28 x2 true), (320, .row 9 x3 true)], top⟩
theorem letter_Fields_0.c4 (R : Type) (c1 : letter_rows_0.F R) (c2 : strings_Trim_0.F R) (c3 : strings_TrimSuffix_0.F R) (c4 : strings_IndexByte_0.F R) (J : List Item → St → Option R) (κ : List SV → Option R) (x0 : Int) (x1 : Int) (x2 : List AV) (x3 : List AV) (x4 : List AV) :
    start (letter_Fields_0.C R c1 c2 c3 c4) J (retK (letter_Fields_0.C R c1 c2 c3 c4) Tryd.f17.results.toList (List.range 0) κ) 10000 (placeOf Tryd.f17 4) (letter_Fields_0.s4 x0 x1 x2 x3 x4) = letter_Fields_0.t4 c1 c2 c3 c4 x0 x1 x2 x3 x4 (fun y0 y1 y2 y3 y4 => J (placeOf Tryd.f17 4) (letter_Fields_0.s4 y0 y1 y2 y3 y4)) (fun y0 y1 y2 y3 y4 y5 y6 y7 y8 => J (placeOf Tryd.f17 8) (letter_Fields_0.s8 y0 y1 y2 y3 y4 y5 y6 y7 y8)) (fun y0 y1 y2 y3 y4 y5 y6 y7 y8 y9 => J (placeOf Tryd.f17 13) (letter_Fields_0.s13 y0 y1 y2 y3 y4 y5 y6 y7 y8 y9)) (fun y0 y1 y2 y3 y4 => J (placeOf Tryd.f17 15) (letter_Fields_0.s15 y0 y1 y2 y3 y4)) (fun y0 y1 y2 y3 => J (placeOf Tryd.f17 17) (letter_Fields_0.s17 y0 y1 y2 y3)) (fun r0 => κ [.fr 28 r0 true]) := by kernel_rfl
theorem letter_Fields_0.c8 (R : Type) (c1 : letter_rows_0.F R) (c2 : strings_Trim_0.F R) (c3 : strings_TrimSuffix_0.F R) (c4 : strings_IndexByte_0.F R) (J : List Item → St → Option R) (κ : List SV → Option R) (x0 : Int) (x1 : Int) (x2 : List AV) (x3 : List AV) (x4 : ByteArray) (x5 : ByteArray) (x6 : Bool) (x7 : Bool) (x8 : List AV) :
    start (letter_Fields_0.C R c1 c2 c3 c4) J (retK (letter_Fields_0.C R c1 c2 c3 c4) Tryd.f17.results.toList (List.range 0) κ) 10000 (placeOf Tryd.f17 8) (letter_Fields_0.s8 x0 x1 x2 x3 x4 x5 x6 x7 x8) = letter_Fields_0.t8 c1 c2 c3 c4 x0 x1 x2 x3 x4 x5 x6 x7 x8 (fun y0 y1 y2 y3 y4 => J (placeOf Tryd.f17 4) (letter_Fields_0.s4 y0 y1 y2 y3 y4)) (fun y0 y1 y2 y3 y4 y5 y6 y7 y8 => J (placeOf Tryd.f17 8) (letter_Fields_0.s8 y0 y1 y2 y3 y4 y5 y6 y7 y8)) (fun y0 y1 y2 y3 y4 y5 y6 y7 y8 y9 => J (placeOf Tryd.f17 13) (letter_Fields_0.s13 y0 y1 y2 y3 y4 y5 y6 y7 y8 y9)) (fun y0 y1 y2 y3 y4 => J (placeOf Tryd.f17 15) (letter_Fields_0.s15 y0 y1 y2 y3 y4)) (fun y0 y1 y2 y3 => J (placeOf Tryd.f17 17) (letter_Fields_0.s17 y0 y1 y2 y3)) (fun r0 => κ [.fr 28 r0 true]) := by kernel_rfl
theorem letter_Fields_0.c13 (R : Type) (c1 : letter_rows_0.F R) (c2 : strings_Trim_0.F R) (c3 : strings_TrimSuffix_0.F R) (c4 : strings_IndexByte_0.F R) (J : List Item → St → Option R) (κ : List SV → Option R) (x0 : ByteArray) (x1 : Int) (x2 : Int) (x3 : List AV) (x4 : List AV) (x5 : ByteArray) (x6 : ByteArray) (x7 : Bool) (x8 : Bool) (x9 : List AV) :
    start (letter_Fields_0.C R c1 c2 c3 c4) J (retK (letter_Fields_0.C R c1 c2 c3 c4) Tryd.f17.results.toList (List.range 0) κ) 10000 (placeOf Tryd.f17 13) (letter_Fields_0.s13 x0 x1 x2 x3 x4 x5 x6 x7 x8 x9) = letter_Fields_0.t13 c1 c2 c3 c4 x0 x1 x2 x3 x4 x5 x6 x7 x8 x9 (fun y0 y1 y2 y3 y4 => J (placeOf Tryd.f17 4) (letter_Fields_0.s4 y0 y1 y2 y3 y4)) (fun y0 y1 y2 y3 y4 y5 y6 y7 y8 => J (placeOf Tryd.f17 8) (letter_Fields_0.s8 y0 y1 y2 y3 y4 y5 y6 y7 y8)) (fun y0 y1 y2 y3 y4 y5 y6 y7 y8 y9 => J (placeOf Tryd.f17 13) (letter_Fields_0.s13 y0 y1 y2 y3 y4 y5 y6 y7 y8 y9)) (fun y0 y1 y2 y3 y4 => J (placeOf Tryd.f17 15) (letter_Fields_0.s15 y0 y1 y2 y3 y4)) (fun y0 y1 y2 y3 => J (placeOf Tryd.f17 17) (letter_Fields_0.s17 y0 y1 y2 y3)) (fun r0 => κ [.fr 28 r0 true]) := by kernel_rfl
theorem letter_Fields_0.c15 (R : Type) (c1 : letter_rows_0.F R) (c2 : strings_Trim_0.F R) (c3 : strings_TrimSuffix_0.F R) (c4 : strings_IndexByte_0.F R) (J : List Item → St → Option R) (κ : List SV → Option R) (x0 : Int) (x1 : Int) (x2 : List AV) (x3 : List AV) (x4 : List AV) :
    start (letter_Fields_0.C R c1 c2 c3 c4) J (retK (letter_Fields_0.C R c1 c2 c3 c4) Tryd.f17.results.toList (List.range 0) κ) 10000 (placeOf Tryd.f17 15) (letter_Fields_0.s15 x0 x1 x2 x3 x4) = letter_Fields_0.t15 c1 c2 c3 c4 x0 x1 x2 x3 x4 (fun y0 y1 y2 y3 y4 => J (placeOf Tryd.f17 4) (letter_Fields_0.s4 y0 y1 y2 y3 y4)) (fun y0 y1 y2 y3 y4 y5 y6 y7 y8 => J (placeOf Tryd.f17 8) (letter_Fields_0.s8 y0 y1 y2 y3 y4 y5 y6 y7 y8)) (fun y0 y1 y2 y3 y4 y5 y6 y7 y8 y9 => J (placeOf Tryd.f17 13) (letter_Fields_0.s13 y0 y1 y2 y3 y4 y5 y6 y7 y8 y9)) (fun y0 y1 y2 y3 y4 => J (placeOf Tryd.f17 15) (letter_Fields_0.s15 y0 y1 y2 y3 y4)) (fun y0 y1 y2 y3 => J (placeOf Tryd.f17 17) (letter_Fields_0.s17 y0 y1 y2 y3)) (fun r0 => κ [.fr 28 r0 true]) := by kernel_rfl
theorem letter_Fields_0.c17 (R : Type) (c1 : letter_rows_0.F R) (c2 : strings_Trim_0.F R) (c3 : strings_TrimSuffix_0.F R) (c4 : strings_IndexByte_0.F R) (J : List Item → St → Option R) (κ : List SV → Option R) (x0 : Int) (x1 : Int) (x2 : List AV) (x3 : List AV) :
    start (letter_Fields_0.C R c1 c2 c3 c4) J (retK (letter_Fields_0.C R c1 c2 c3 c4) Tryd.f17.results.toList (List.range 0) κ) 10000 (placeOf Tryd.f17 17) (letter_Fields_0.s17 x0 x1 x2 x3) = letter_Fields_0.t17 c1 c2 c3 c4 x0 x1 x2 x3 (fun y0 y1 y2 y3 y4 => J (placeOf Tryd.f17 4) (letter_Fields_0.s4 y0 y1 y2 y3 y4)) (fun y0 y1 y2 y3 y4 y5 y6 y7 y8 => J (placeOf Tryd.f17 8) (letter_Fields_0.s8 y0 y1 y2 y3 y4 y5 y6 y7 y8)) (fun y0 y1 y2 y3 y4 y5 y6 y7 y8 y9 => J (placeOf Tryd.f17 13) (letter_Fields_0.s13 y0 y1 y2 y3 y4 y5 y6 y7 y8 y9)) (fun y0 y1 y2 y3 y4 => J (placeOf Tryd.f17 15) (letter_Fields_0.s15 y0 y1 y2 y3 y4)) (fun y0 y1 y2 y3 => J (placeOf Tryd.f17 17) (letter_Fields_0.s17 y0 y1 y2 y3)) (fun r0 => κ [.fr 28 r0 true]) := by kernel_rfl
theorem letter_Fields_0.c (R : Type) (c1 : letter_rows_0.F R) (c2 : strings_Trim_0.F R) (c3 : strings_TrimSuffix_0.F R) (c4 : strings_IndexByte_0.F R) (κ : List SV → Option R) (k : Nat) (a0 : ByteArray) :
    runF (letter_Fields_0.C R c1 c2 c3 c4) Tryd.f17 10000 k [.str a0] κ = letter_Fields_0.e c1 c2 c3 c4 a0 (fun y0 y1 y2 y3 y4 => goto (letter_Fields_0.C R c1 c2 c3 c4) (retK (letter_Fields_0.C R c1 c2 c3 c4) Tryd.f17.results.toList (List.range 0) κ) 10000 k (placeOf Tryd.f17 4) (letter_Fields_0.s4 y0 y1 y2 y3 y4)) (fun y0 y1 y2 y3 y4 y5 y6 y7 y8 => goto (letter_Fields_0.C R c1 c2 c3 c4) (retK (letter_Fields_0.C R c1 c2 c3 c4) Tryd.f17.results.toList (List.range 0) κ) 10000 k (placeOf Tryd.f17 8) (letter_Fields_0.s8 y0 y1 y2 y3 y4 y5 y6 y7 y8)) (fun y0 y1 y2 y3 y4 y5 y6 y7 y8 y9 => goto (letter_Fields_0.C R c1 c2 c3 c4) (retK (letter_Fields_0.C R c1 c2 c3 c4) Tryd.f17.results.toList (List.range 0) κ) 10000 k (placeOf Tryd.f17 13) (letter_Fields_0.s13 y0 y1 y2 y3 y4 y5 y6 y7 y8 y9)) (fun y0 y1 y2 y3 y4 => goto (letter_Fields_0.C R c1 c2 c3 c4) (retK (letter_Fields_0.C R c1 c2 c3 c4) Tryd.f17.results.toList (List.range 0) κ) 10000 k (placeOf Tryd.f17 15) (letter_Fields_0.s15 y0 y1 y2 y3 y4)) (fun y0 y1 y2 y3 => goto (letter_Fields_0.C R c1 c2 c3 c4) (retK (letter_Fields_0.C R c1 c2 c3 c4) Tryd.f17.results.toList (List.range 0) κ) 10000 k (placeOf Tryd.f17 17) (letter_Fields_0.s17 y0 y1 y2 y3)) (fun r0 => κ [.fr 28 r0 true]) := by kernel_rfl
theorem letter_Fields_0.g17 (R : Type) (c1 : letter_rows_0.F R) (c2 : strings_Trim_0.F R) (c3 : strings_TrimSuffix_0.F R) (c4 : strings_IndexByte_0.F R) (κ : List SV → Option R) : ∀ (f : Nat) (x0 : Int) (x1 : Int) (x2 : List AV) (x3 : List AV), goto (letter_Fields_0.C R c1 c2 c3 c4) (retK (letter_Fields_0.C R c1 c2 c3 c4) Tryd.f17.results.toList (List.range 0) κ) 10000 f (placeOf Tryd.f17 17) (letter_Fields_0.s17 x0 x1 x2 x3) = letter_Fields_0.L17 c1 c2 c3 c4 (fun r0 => κ [.fr 28 r0 true]) f x0 x1 x2 x3
  | 0, _, _, _, _ => rfl
  | f + 1, x0, x1, x2, x3 => by
    show start (letter_Fields_0.C R c1 c2 c3 c4) (goto (letter_Fields_0.C R c1 c2 c3 c4) (retK (letter_Fields_0.C R c1 c2 c3 c4) Tryd.f17.results.toList (List.range 0) κ) 10000 f) (retK (letter_Fields_0.C R c1 c2 c3 c4) Tryd.f17.results.toList (List.range 0) κ) 10000 (placeOf Tryd.f17 17) (letter_Fields_0.s17 x0 x1 x2 x3) = _
    rw [letter_Fields_0.c17]
    simp only [letter_Fields_0.g17 R c1 c2 c3 c4 κ f]
    rfl
theorem letter_Fields_0.gM4 (R : Type) (c1 : letter_rows_0.F R) (c2 : strings_Trim_0.F R) (c3 : strings_TrimSuffix_0.F R) (c4 : strings_IndexByte_0.F R) (κ : List SV → Option R) : ∀ (f : Nat), (∀ (x0 : Int) (x1 : Int) (x2 : List AV) (x3 : List AV) (x4 : List AV), goto (letter_Fields_0.C R c1 c2 c3 c4) (retK (letter_Fields_0.C R c1 c2 c3 c4) Tryd.f17.results.toList (List.range 0) κ) 10000 f (placeOf Tryd.f17 4) (letter_Fields_0.s4 x0 x1 x2 x3 x4) = letter_Fields_0.L4 c1 c2 c3 c4 (fun r0 => κ [.fr 28 r0 true]) f x0 x1 x2 x3 x4) ∧
    (∀ (x0 : Int) (x1 : Int) (x2 : List AV) (x3 : List AV) (x4 : ByteArray) (x5 : ByteArray) (x6 : Bool) (x7 : Bool) (x8 : List AV), goto (letter_Fields_0.C R c1 c2 c3 c4) (retK (letter_Fields_0.C R c1 c2 c3 c4) Tryd.f17.results.toList (List.range 0) κ) 10000 f (placeOf Tryd.f17 8) (letter_Fields_0.s8 x0 x1 x2 x3 x4 x5 x6 x7 x8) = letter_Fields_0.L8 c1 c2 c3 c4 (fun r0 => κ [.fr 28 r0 true]) f x0 x1 x2 x3 x4 x5 x6 x7 x8) ∧
    (∀ (x0 : ByteArray) (x1 : Int) (x2 : Int) (x3 : List AV) (x4 : List AV) (x5 : ByteArray) (x6 : ByteArray) (x7 : Bool) (x8 : Bool) (x9 : List AV), goto (letter_Fields_0.C R c1 c2 c3 c4) (retK (letter_Fields_0.C R c1 c2 c3 c4) Tryd.f17.results.toList (List.range 0) κ) 10000 f (placeOf Tryd.f17 13) (letter_Fields_0.s13 x0 x1 x2 x3 x4 x5 x6 x7 x8 x9) = letter_Fields_0.L13 c1 c2 c3 c4 (fun r0 => κ [.fr 28 r0 true]) f x0 x1 x2 x3 x4 x5 x6 x7 x8 x9) ∧
    (∀ (x0 : Int) (x1 : Int) (x2 : List AV) (x3 : List AV) (x4 : List AV), goto (letter_Fields_0.C R c1 c2 c3 c4) (retK (letter_Fields_0.C R c1 c2 c3 c4) Tryd.f17.results.toList (List.range 0) κ) 10000 f (placeOf Tryd.f17 15) (letter_Fields_0.s15 x0 x1 x2 x3 x4) = letter_Fields_0.L15 c1 c2 c3 c4 (fun r0 => κ [.fr 28 r0 true]) f x0 x1 x2 x3 x4)
  | 0 => ⟨fun _ _ _ _ _ => rfl, fun _ _ _ _ _ _ _ _ _ => rfl, fun _ _ _ _ _ _ _ _ _ _ => rfl, fun _ _ _ _ _ => rfl⟩
  | f + 1 => by
    obtain ⟨ih0, ih1, ih2, ih3⟩ := letter_Fields_0.gM4 R c1 c2 c3 c4 κ f
    refine ⟨?_, ?_, ?_, ?_⟩
    · intro x0 x1 x2 x3 x4
      show start (letter_Fields_0.C R c1 c2 c3 c4) (goto (letter_Fields_0.C R c1 c2 c3 c4) (retK (letter_Fields_0.C R c1 c2 c3 c4) Tryd.f17.results.toList (List.range 0) κ) 10000 f) (retK (letter_Fields_0.C R c1 c2 c3 c4) Tryd.f17.results.toList (List.range 0) κ) 10000 (placeOf Tryd.f17 4) (letter_Fields_0.s4 x0 x1 x2 x3 x4) = _
      rw [letter_Fields_0.c4]
      simp only [ih0, ih1, ih2, ih3, letter_Fields_0.g17 R c1 c2 c3 c4 κ f]
      rfl
    · intro x0 x1 x2 x3 x4 x5 x6 x7 x8
      show start (letter_Fields_0.C R c1 c2 c3 c4) (goto (letter_Fields_0.C R c1 c2 c3 c4) (retK (letter_Fields_0.C R c1 c2 c3 c4) Tryd.f17.results.toList (List.range 0) κ) 10000 f) (retK (letter_Fields_0.C R c1 c2 c3 c4) Tryd.f17.results.toList (List.range 0) κ) 10000 (placeOf Tryd.f17 8) (letter_Fields_0.s8 x0 x1 x2 x3 x4 x5 x6 x7 x8) = _
      rw [letter_Fields_0.c8]
      simp only [ih0, ih1, ih2, ih3, letter_Fields_0.g17 R c1 c2 c3 c4 κ f]
      rfl
    · intro x0 x1 x2 x3 x4 x5 x6 x7 x8 x9
      show start (letter_Fields_0.C R c1 c2 c3 c4) (goto (letter_Fields_0.C R c1 c2 c3 c4) (retK (letter_Fields_0.C R c1 c2 c3 c4) Tryd.f17.results.toList (List.range 0) κ) 10000 f) (retK (letter_Fields_0.C R c1 c2 c3 c4) Tryd.f17.results.toList (List.range 0) κ) 10000 (placeOf Tryd.f17 13) (letter_Fields_0.s13 x0 x1 x2 x3 x4 x5 x6 x7 x8 x9) = _
      rw [letter_Fields_0.c13]
      simp only [ih0, ih1, ih2, ih3, letter_Fields_0.g17 R c1 c2 c3 c4 κ f]
      rfl
    · intro x0 x1 x2 x3 x4
      show start (letter_Fields_0.C R c1 c2 c3 c4) (goto (letter_Fields_0.C R c1 c2 c3 c4) (retK (letter_Fields_0.C R c1 c2 c3 c4) Tryd.f17.results.toList (List.range 0) κ) 10000 f) (retK (letter_Fields_0.C R c1 c2 c3 c4) Tryd.f17.results.toList (List.range 0) κ) 10000 (placeOf Tryd.f17 15) (letter_Fields_0.s15 x0 x1 x2 x3 x4) = _
      rw [letter_Fields_0.c15]
      simp only [ih0, ih1, ih2, ih3, letter_Fields_0.g17 R c1 c2 c3 c4 κ f]
      rfl
theorem letter_Fields_0.g4 (R : Type) (c1 : letter_rows_0.F R) (c2 : strings_Trim_0.F R) (c3 : strings_TrimSuffix_0.F R) (c4 : strings_IndexByte_0.F R) (κ : List SV → Option R) (f : Nat) (x0 : Int) (x1 : Int) (x2 : List AV) (x3 : List AV) (x4 : List AV) : goto (letter_Fields_0.C R c1 c2 c3 c4) (retK (letter_Fields_0.C R c1 c2 c3 c4) Tryd.f17.results.toList (List.range 0) κ) 10000 f (placeOf Tryd.f17 4) (letter_Fields_0.s4 x0 x1 x2 x3 x4) = letter_Fields_0.L4 c1 c2 c3 c4 (fun r0 => κ [.fr 28 r0 true]) f x0 x1 x2 x3 x4 := (letter_Fields_0.gM4 R c1 c2 c3 c4 κ f).1 x0 x1 x2 x3 x4
theorem letter_Fields_0.g8 (R : Type) (c1 : letter_rows_0.F R) (c2 : strings_Trim_0.F R) (c3 : strings_TrimSuffix_0.F R) (c4 : strings_IndexByte_0.F R) (κ : List SV → Option R) (f : Nat) (x0 : Int) (x1 : Int) (x2 : List AV) (x3 : List AV) (x4 : ByteArray) (x5 : ByteArray) (x6 : Bool) (x7 : Bool) (x8 : List AV) : goto (letter_Fields_0.C R c1 c2 c3 c4) (retK (letter_Fields_0.C R c1 c2 c3 c4) Tryd.f17.results.toList (List.range 0) κ) 10000 f (placeOf Tryd.f17 8) (letter_Fields_0.s8 x0 x1 x2 x3 x4 x5 x6 x7 x8) = letter_Fields_0.L8 c1 c2 c3 c4 (fun r0 => κ [.fr 28 r0 true]) f x0 x1 x2 x3 x4 x5 x6 x7 x8 := (letter_Fields_0.gM4 R c1 c2 c3 c4 κ f).2.1 x0 x1 x2 x3 x4 x5 x6 x7 x8
theorem letter_Fields_0.g13 (R : Type) (c1 : letter_rows_0.F R) (c2 : strings_Trim_0.F R) (c3 : strings_TrimSuffix_0.F R) (c4 : strings_IndexByte_0.F R) (κ : List SV → Option R) (f : Nat) (x0 : ByteArray) (x1 : Int) (x2 : Int) (x3 : List AV) (x4 : List AV) (x5 : ByteArray) (x6 : ByteArray) (x7 : Bool) (x8 : Bool) (x9 : List AV) : goto (letter_Fields_0.C R c1 c2 c3 c4) (retK (letter_Fields_0.C R c1 c2 c3 c4) Tryd.f17.results.toList (List.range 0) κ) 10000 f (placeOf Tryd.f17 13) (letter_Fields_0.s13 x0 x1 x2 x3 x4 x5 x6 x7 x8 x9) = letter_Fields_0.L13 c1 c2 c3 c4 (fun r0 => κ [.fr 28 r0 true]) f x0 x1 x2 x3 x4 x5 x6 x7 x8 x9 := (letter_Fields_0.gM4 R c1 c2 c3 c4 κ f).2.2.1 x0 x1 x2 x3 x4 x5 x6 x7 x8 x9
theorem letter_Fields_0.g15 (R : Type) (c1 : letter_rows_0.F R) (c2 : strings_Trim_0.F R) (c3 : strings_TrimSuffix_0.F R) (c4 : strings_IndexByte_0.F R) (κ : List SV → Option R) (f : Nat) (x0 : Int) (x1 : Int) (x2 : List AV) (x3 : List AV) (x4 : List AV) : goto (letter_Fields_0.C R c1 c2 c3 c4) (retK (letter_Fields_0.C R c1 c2 c3 c4) Tryd.f17.results.toList (List.range 0) κ) 10000 f (placeOf Tryd.f17 15) (letter_Fields_0.s15 x0 x1 x2 x3 x4) = letter_Fields_0.L15 c1 c2 c3 c4 (fun r0 => κ [.fr 28 r0 true]) f x0 x1 x2 x3 x4 := (letter_Fields_0.gM4 R c1 c2 c3 c4 κ f).2.2.2 x0 x1 x2 x3 x4
theorem letter_Fields_0.run (R : Type) (κ : List SV → Option R) (a0 : ByteArray) :
    runF (letter_Fields_0.C R letter_rows_0 strings_Trim_0 strings_TrimSuffix_0 strings_IndexByte_0) Tryd.f17 10000 fuelK [.str a0] κ = letter_Fields_0 a0 (fun r0 => κ [.fr 28 r0 true]) := by
  rw [letter_Fields_0.c]
  simp only [letter_Fields_0.g4 R letter_rows_0 strings_Trim_0 strings_TrimSuffix_0 strings_IndexByte_0 κ fuelK, letter_Fields_0.g8 R letter_rows_0 strings_Trim_0 strings_TrimSuffix_0 strings_IndexByte_0 κ fuelK, letter_Fields_0.g13 R letter_rows_0 strings_Trim_0 strings_TrimSuffix_0 strings_IndexByte_0 κ fuelK, letter_Fields_0.g15 R letter_rows_0 strings_Trim_0 strings_TrimSuffix_0 strings_IndexByte_0 κ fuelK, letter_Fields_0.g17 R letter_rows_0 strings_Trim_0 strings_TrimSuffix_0 strings_IndexByte_0 κ fuelK]
  rfl
theorem letter_Fields_0.Γ_does {R : Type} (tab : Tab) (ht : TabOk tab) (g : Nat) : Does (R := R) Tryd.prog (tabTy tyL) tab g ((letter_Fields_0.C R letter_rows_0 strings_Trim_0 strings_TrimSuffix_0 strings_IndexByte_0).call g) := by
  refine does_of fun xs κ => ?_
  show DoesAt _ _ _ g xs κ (letter_Fields_0.Γ letter_rows_0 strings_Trim_0 strings_TrimSuffix_0 strings_IndexByte_0 g xs κ)
  unfold letter_Fields_0.Γ
  split
  · split
    · exact letter_rows_0.does tab ht _ κ
    · exact DoesAt.none
  · split
    · exact strings_TrimSuffix_0.does tab ht _ _ κ
    · exact DoesAt.none
  · split
    · exact strings_IndexByte_0.does tab ht _ _ κ
    · exact DoesAt.none
  · split
    · exact strings_Trim_0.does tab ht _ _ κ
    · exact DoesAt.none
  · exact DoesAt.none
theorem letter_Fields_0.does {R : Type} (tab : Tab) (ht : TabOk tab) (a0 : ByteArray) (κ : List SV → Option R) : DoesAt Tryd.prog (tabTy tyL) tab 17 [.str a0] κ (letter_Fields_0 a0 (fun r0 => κ [.fr 28 r0 true])) := by
  intro r h w vs Rt Ra bs hpre
  exact runF_sound tyOk (letter_Fields_0.Γ_does tab ht) (show Tryd.prog.funcs[17]? = some Tryd.f17 by kernel_rfl) (by kernel_rfl) ((letter_Fields_0.run R κ a0).trans h) hpre
def letter_cursor_comment_vsie.Γ {R : Type} (g : Nat) (xs : List SV) (κ : List SV → Option R) : Option R :=
  match g with
  | _ => none
def letter_cursor_comment_vsie.h (n : Nat) : Option (List (Nat × List (Nat × Nat))) :=
  match n with
  | 1 => some [(0, [(0, 0)]), (2, [(0, 0)])]
  | _ => none
def letter_cursor_comment_vsie.C (R : Type) : Cfg R := ⟨tabTy tyL, letter_cursor_comment_vsie.Γ, fun _ => false, letter_cursor_comment_vsie.h⟩
def letter_cursor_comment_vsie.s1 (x0 : Int) (x1 : ByteArray) (x2 : Int) : St := ⟨mkS 61 [(0, .ptr 0 0), (2, .int .i64 x0)], [(0, .var 99 [.str x1, .int .i64 x2])], top⟩
theorem letter_cursor_comment_vsie.c1 (R : Type) (J : List Item → St → Option R) (κ : List SV → Option R) (x0 : Int) (x1 : ByteArray) (x2 : Int) :
    start (letter_cursor_comment_vsie.C R) J (retK (letter_cursor_comment_vsie.C R) Tryd.f104.results.toList (List.range 1) κ) 10000 (placeOf Tryd.f104 1) (letter_cursor_comment_vsie.s1 x0 x1 x2) = letter_cursor_comment_vsie.t1 x0 x1 x2 (fun y0 y1 y2 => J (placeOf Tryd.f104 1) (letter_cursor_comment_vsie.s1 y0 y1 y2)) (fun r0 r1 => κ [.tup [], .vp 99 [.str r0, .int .i64 r1]]) := by kernel_rfl
theorem letter_cursor_comment_vsie.c (R : Type) (κ : List SV → Option R) (k : Nat) (a0 : ByteArray) (a1 : Int) :
    runF (letter_cursor_comment_vsie.C R) Tryd.f104 10000 k [.vp 99 [.str a0, .int .i64 a1]] κ = letter_cursor_comment_vsie.e a0 a1 (fun y0 y1 y2 => goto (letter_cursor_comment_vsie.C R) (retK (letter_cursor_comment_vsie.C R) Tryd.f104.results.toList (List.range 1) κ) 10000 k (placeOf Tryd.f104 1) (letter_cursor_comment_vsie.s1 y0 y1 y2)) (fun r0 r1 => κ [.tup [], .vp 99 [.str r0, .int .i64 r1]]) := by kernel_rfl
theorem letter_cursor_comment_vsie.g1 (R : Type) (κ : List SV → Option R) : ∀ (f : Nat) (x0 : Int) (x1 : ByteArray) (x2 : Int), goto (letter_cursor_comment_vsie.C R) (retK (letter_cursor_comment_vsie.C R) Tryd.f104.results.toList (List.range 1) κ) 10000 f (placeOf Tryd.f104 1) (letter_cursor_comment_vsie.s1 x0 x1 x2) = letter_cursor_comment_vsie.L1 (fun r0 r1 => κ [.tup [], .vp 99 [.str r0, .int .i64 r1]]) f x0 x1 x2
  | 0, _, _, _ => rfl
  | f + 1, x0, x1, x2 => by
    show start (letter_cursor_comment_vsie.C R) (goto (letter_cursor_comment_vsie.C R) (retK (letter_cursor_comment_vsie.C R) Tryd.f104.results.toList (List.range 1) κ) 10000 f) (retK (letter_cursor_comment_vsie.C R) Tryd.f104.results.toList (List.range 1) κ) 10000 (placeOf Tryd.f104 1) (letter_cursor_comment_vsie.s1 x0 x1 x2) = _
    rw [letter_cursor_comment_vsie.c1]
    simp only [letter_cursor_comment_vsie.g1 R κ f]
    rfl
theorem letter_cursor_comment_vsie.run (R : Type) (κ : List SV → Option R) (a0 : ByteArray) (a1 : Int) :
    runF (letter_cursor_comment_vsie.C R) Tryd.f104 10000 fuelK [.vp 99 [.str a0, .int .i64 a1]] κ = letter_cursor_comment_vsie a0 a1 (fun r0 r1 => κ [.tup [], .vp 99 [.str r0, .int .i64 r1]]) := by
  rw [letter_cursor_comment_vsie.c]
  simp only [letter_cursor_comment_vsie.g1 R κ fuelK]
  rfl
theorem letter_cursor_comment_vsie.Γ_does {R : Type} (tab : Tab) (ht : TabOk tab) (g : Nat) : Does (R := R) Tryd.prog (tabTy tyL) tab g ((letter_cursor_comment_vsie.C R).call g) := by
  refine does_of fun xs κ => ?_
  show DoesAt _ _ _ g xs κ (letter_cursor_comment_vsie.Γ g xs κ)
  unfold letter_cursor_comment_vsie.Γ
  split
  · exact DoesAt.none
theorem letter_cursor_comment_vsie.does {R : Type} (tab : Tab) (ht : TabOk tab) (a0 : ByteArray) (a1 : Int) (κ : List SV → Option R) : DoesAt Tryd.prog (tabTy tyL) tab 104 [.vp 99 [.str a0, .int .i64 a1]] κ (letter_cursor_comment_vsie a0 a1 (fun r0 r1 => κ [.tup [], .vp 99 [.str r0, .int .i64 r1]])) := by
  intro r h w vs Rt Ra bs hpre
  exact runF_sound tyOk (letter_cursor_comment_vsie.Γ_does tab ht) (show Tryd.prog.funcs[104]? = some Tryd.f104 by kernel_rfl) (by kernel_rfl) ((letter_cursor_comment_vsie.run R κ a0 a1).trans h) hpre
theorem strings_Builder_copyCheck_vxne.does {R : Type} (tab : Tab) (ht : TabOk tab) (κ : List SV → Option R) : DoesAt Tryd.prog (tabTy tyL) tab 69 [.vp 63 [.nos, .nil]] κ (strings_Builder_copyCheck_vxne (κ [.tup [], .vp 63 [.nos, .nil]])) :=
  copyCheck_does Tryd.call69 cc_used cc_fresh (.nil) κ
def strings_Builder_WriteByte_vxnei.Γ {R : Type} (c1 : strings_Builder_copyCheck_vxne.F R) (g : Nat) (xs : List SV) (κ : List SV → Option R) : Option R :=
  match g with
  | 69 => (match xs with
    | [.vp 63 [.nos, .nil]] => c1 (κ [.tup [], .vp 63 [.nos, .nil]])
    | _ => none)
  | _ => none
def strings_Builder_WriteByte_vxnei.h (n : Nat) : Option (List (Nat × List (Nat × Nat))) :=
  match n with
  | _ => none
def strings_Builder_WriteByte_vxnei.C (R : Type) (c1 : strings_Builder_copyCheck_vxne.F R) : Cfg R := ⟨tabTy tyL, strings_Builder_WriteByte_vxnei.Γ c1, fun _ => false, strings_Builder_WriteByte_vxnei.h⟩
theorem strings_Builder_WriteByte_vxnei.c (R : Type) (c1 : strings_Builder_copyCheck_vxne.F R) (κ : List SV → Option R) (k : Nat) (a0 : Int) :
    runF (strings_Builder_WriteByte_vxnei.C R c1) Tryd.f75 10000 k [.vp 63 [.nos, .nil], .int .u8 a0] κ = strings_Builder_WriteByte_vxnei.e c1 a0 (fun r0 => κ [.nili, .vp 63 [.nos, .fr 5 r0 true]]) := by kernel_rfl
theorem strings_Builder_WriteByte_vxnei.run (R : Type) (κ : List SV → Option R) (a0 : Int) :
    runF (strings_Builder_WriteByte_vxnei.C R strings_Builder_copyCheck_vxne) Tryd.f75 10000 fuelK [.vp 63 [.nos, .nil], .int .u8 a0] κ = strings_Builder_WriteByte_vxnei a0 (fun r0 => κ [.nili, .vp 63 [.nos, .fr 5 r0 true]]) := by
  rw [strings_Builder_WriteByte_vxnei.c]
  rfl
theorem strings_Builder_WriteByte_vxnei.Γ_does {R : Type} (tab : Tab) (ht : TabOk tab) (g : Nat) : Does (R := R) Tryd.prog (tabTy tyL) tab g ((strings_Builder_WriteByte_vxnei.C R strings_Builder_copyCheck_vxne).call g) := by
  refine does_of fun xs κ => ?_
  show DoesAt _ _ _ g xs κ (strings_Builder_WriteByte_vxnei.Γ strings_Builder_copyCheck_vxne g xs κ)
  unfold strings_Builder_WriteByte_vxnei.Γ
  split
  · split
    · exact strings_Builder_copyCheck_vxne.does tab ht κ
    · exact DoesAt.none
  · exact DoesAt.none
theorem strings_Builder_WriteByte_vxnei.does {R : Type} (tab : Tab) (ht : TabOk tab) (a0 : Int) (κ : List SV → Option R) : DoesAt Tryd.prog (tabTy tyL) tab 75 [.vp 63 [.nos, .nil], .int .u8 a0] κ (strings_Builder_WriteByte_vxnei a0 (fun r0 => κ [.nili, .vp 63 [.nos, .fr 5 r0 true]])) := by
  intro r h w vs Rt Ra bs hpre
  exact runF_sound tyOk (strings_Builder_WriteByte_vxnei.Γ_does tab ht) (show Tryd.prog.funcs[75]? = some Tryd.f75 by kernel_rfl) (by kernel_rfl) ((strings_Builder_WriteByte_vxnei.run R κ a0).trans h) hpre
theorem strings_Builder_copyCheck_vxfe.does {R : Type} (tab : Tab) (ht : TabOk tab) (a0 : List AV) (κ : List SV → Option R) : DoesAt Tryd.prog (tabTy tyL) tab 69 [.vp 63 [.nos, .fr 5 a0 true]] κ (strings_Builder_copyCheck_vxfe a0 (fun r0 => κ [.tup [], .vp 63 [.nos, .fr 5 r0 true]])) :=
  copyCheck_does Tryd.call69 cc_used cc_fresh (.fr _ _) κ
def strings_Builder_WriteByte_vxfei.Γ {R : Type} (c1 : strings_Builder_copyCheck_vxfe.F R) (g : Nat) (xs : List SV) (κ : List SV → Option R) : Option R :=
  match g with
  | 69 => (match xs with
    | [.vp 63 [.nos, .fr 5 a0 true]] => c1 a0 (fun r0 => κ [.tup [], .vp 63 [.nos, .fr 5 r0 true]])
    | _ => none)
  | _ => none
def strings_Builder_WriteByte_vxfei.h (n : Nat) : Option (List (Nat × List (Nat × Nat))) :=
  match n with
  | _ => none
def strings_Builder_WriteByte_vxfei.C (R : Type) (c1 : strings_Builder_copyCheck_vxfe.F R) : Cfg R := ⟨tabTy tyL, strings_Builder_WriteByte_vxfei.Γ c1, fun _ => false, strings_Builder_WriteByte_vxfei.h⟩
theorem strings_Builder_WriteByte_vxfei.c (R : Type) (c1 : strings_Builder_copyCheck_vxfe.F R) (κ : List SV → Option R) (k : Nat) (a0 : List AV) (a1 : Int) :
    runF (strings_Builder_WriteByte_vxfei.C R c1) Tryd.f75 10000 k [.vp 63 [.nos, .fr 5 a0 true], .int .u8 a1] κ = strings_Builder_WriteByte_vxfei.e c1 a0 a1 (fun r0 => κ [.nili, .vp 63 [.nos, .fr 5 r0 true]]) := by kernel_rfl
theorem strings_Builder_WriteByte_vxfei.run (R : Type) (κ : List SV → Option R) (a0 : List AV) (a1 : Int) :
    runF (strings_Builder_WriteByte_vxfei.C R strings_Builder_copyCheck_vxfe) Tryd.f75 10000 fuelK [.vp 63 [.nos, .fr 5 a0 true], .int .u8 a1] κ = strings_Builder_WriteByte_vxfei a0 a1 (fun r0 => κ [.nili, .vp 63 [.nos, .fr 5 r0 true]]) := by
  rw [strings_Builder_WriteByte_vxfei.c]
  rfl
theorem strings_Builder_WriteByte_vxfei.Γ_does {R : Type} (tab : Tab) (ht : TabOk tab) (g : Nat) : Does (R := R) Tryd.prog (tabTy tyL) tab g ((strings_Builder_WriteByte_vxfei.C R strings_Builder_copyCheck_vxfe).call g) := by
  refine does_of fun xs κ => ?_
  show DoesAt _ _ _ g xs κ (strings_Builder_WriteByte_vxfei.Γ strings_Builder_copyCheck_vxfe g xs κ)
  unfold strings_Builder_WriteByte_vxfei.Γ
  split
  · split
    · exact strings_Builder_copyCheck_vxfe.does tab ht _ κ
    · exact DoesAt.none
  · exact DoesAt.none
theorem strings_Builder_WriteByte_vxfei.does {R : Type} (tab : Tab) (ht : TabOk tab) (a0 : List AV) (a1 : Int) (κ : List SV → Option R) : DoesAt Tryd.prog (tabTy tyL) tab 75 [.vp 63 [.nos, .fr 5 a0 true], .int .u8 a1] κ (strings_Builder_WriteByte_vxfei a0 a1 (fun r0 => κ [.nili, .vp 63 [.nos, .fr 5 r0 true]])) := by
  intro r h w vs Rt Ra bs hpre
  exact runF_sound tyOk (strings_Builder_WriteByte_vxfei.Γ_does tab ht) (show Tryd.prog.funcs[75]? = some Tryd.f75 by kernel_rfl) (by kernel_rfl) ((strings_Builder_WriteByte_vxfei.run R κ a0 a1).trans h) hpre
def strings_Builder_String_vxfe.Γ {R : Type} (g : Nat) (xs : List SV) (κ : List SV → Option R) : Option R :=
  match g with
  | _ => none
def strings_Builder_String_vxfe.h (n : Nat) : Option (List (Nat × List (Nat × Nat))) :=
  match n with
  | _ => none
def strings_Builder_String_vxfe.C (R : Type) : Cfg R := ⟨tabTy tyL, strings_Builder_String_vxfe.Γ, fun _ => false, strings_Builder_String_vxfe.h⟩
theorem strings_Builder_String_vxfe.c (R : Type) (κ : List SV → Option R) (k : Nat) (a0 : List AV) :
    runF (strings_Builder_String_vxfe.C R) Tryd.f41 10000 k [.vp 63 [.nos, .fr 5 a0 true]] κ = strings_Builder_String_vxfe.e a0 (fun r0 => κ [.str r0, .vp 63 [.nos, .no]]) := by kernel_rfl
theorem strings_Builder_String_vxfe.run (R : Type) (κ : List SV → Option R) (a0 : List AV) :
    runF (strings_Builder_String_vxfe.C R) Tryd.f41 10000 fuelK [.vp 63 [.nos, .fr 5 a0 true]] κ = strings_Builder_String_vxfe a0 (fun r0 => κ [.str r0, .vp 63 [.nos, .no]]) := by
  rw [strings_Builder_String_vxfe.c]
  rfl
theorem strings_Builder_String_vxfe.Γ_does {R : Type} (tab : Tab) (ht : TabOk tab) (g : Nat) : Does (R := R) Tryd.prog (tabTy tyL) tab g ((strings_Builder_String_vxfe.C R).call g) := by
  refine does_of fun xs κ => ?_
  show DoesAt _ _ _ g xs κ (strings_Builder_String_vxfe.Γ g xs κ)
  unfold strings_Builder_String_vxfe.Γ
  split
  · exact DoesAt.none
theorem strings_Builder_String_vxfe.does {R : Type} (tab : Tab) (ht : TabOk tab) (a0 : List AV) (κ : List SV → Option R) : DoesAt Tryd.prog (tabTy tyL) tab 41 [.vp 63 [.nos, .fr 5 a0 true]] κ (strings_Builder_String_vxfe a0 (fun r0 => κ [.str r0, .vp 63 [.nos, .no]])) := by
  intro r h w vs Rt Ra bs hpre
  exact runF_sound tyOk (strings_Builder_String_vxfe.Γ_does tab ht) (show Tryd.prog.funcs[41]? = some Tryd.f41 by kernel_rfl) (by kernel_rfl) ((strings_Builder_String_vxfe.run R κ a0).trans h) hpre
def letter_cursor_quotes_vsie.Γ {R : Type} (c1 : strings_Builder_WriteByte_vxfei.F R) (c2 : strings_Builder_String_vxfe.F R) (g : Nat) (xs : List SV) (κ : List SV → Option R) : Option R :=
  match g with
  | 41 => (match xs with
    | [.vp 63 [.nos, .fr 5 a0 true]] => c2 a0 (fun r0 => κ [.str r0, .vp 63 [.nos, .no]])
    | _ => none)
  | 75 => (match xs with
    | [.vp 63 [.nos, .fr 5 a0 true], .int .u8 a1] => c1 a0 a1 (fun r0 => κ [.nili, .vp 63 [.nos, .fr 5 r0 true]])
    | _ => none)
  | _ => none
def letter_cursor_quotes_vsie.h (n : Nat) : Option (List (Nat × List (Nat × Nat))) :=
  match n with
  | 3 => some [(0, [(0, 0)]), (3, [(1, 7)])]
  | _ => none
def letter_cursor_quotes_vsie.C (R : Type) (c1 : strings_Builder_WriteByte_vxfei.F R) (c2 : strings_Builder_String_vxfe.F R) : Cfg R := ⟨tabTy tyL, letter_cursor_quotes_vsie.Γ c1 c2, fun _ => false, letter_cursor_quotes_vsie.h⟩
def letter_cursor_quotes_vsie.s3 (x0 : ByteArray) (x1 : Int) (x2 : List AV) : St := ⟨mkS 92 [(0, .ptr 0 0), (3, .ptr 319 0)], [(0, .var 99 [.str x0, .int .i64 x1]), (319, .var 63 [.nos, .own 257]), (257, .row 5 x2 true)], top⟩
theorem letter_cursor_quotes_vsie.c3 (R : Type) (c1 : strings_Builder_WriteByte_vxfei.F R) (c2 : strings_Builder_String_vxfe.F R) (J : List Item → St → Option R) (κ : List SV → Option R) (x0 : ByteArray) (x1 : Int) (x2 : List AV) :
    start (letter_cursor_quotes_vsie.C R c1 c2) J (retK (letter_cursor_quotes_vsie.C R c1 c2) Tryd.f105.results.toList (List.range 1) κ) 10000 (placeOf Tryd.f105 3) (letter_cursor_quotes_vsie.s3 x0 x1 x2) = letter_cursor_quotes_vsie.t3 c1 c2 x0 x1 x2 (fun y0 y1 y2 => J (placeOf Tryd.f105 3) (letter_cursor_quotes_vsie.s3 y0 y1 y2)) (fun r0 r1 r2 => κ [.str r0, .vp 99 [.str r1, .int .i64 r2]]) := by kernel_rfl
theorem letter_cursor_quotes_vsie.c (R : Type) (c1 : strings_Builder_WriteByte_vxfei.F R) (c2 : strings_Builder_String_vxfe.F R) (κ : List SV → Option R) (k : Nat) (a0 : ByteArray) (a1 : Int) :
    runF (letter_cursor_quotes_vsie.C R c1 c2) Tryd.f105 10000 k [.vp 99 [.str a0, .int .i64 a1]] κ = letter_cursor_quotes_vsie.e c1 c2 a0 a1 (fun y0 y1 y2 => goto (letter_cursor_quotes_vsie.C R c1 c2) (retK (letter_cursor_quotes_vsie.C R c1 c2) Tryd.f105.results.toList (List.range 1) κ) 10000 k (placeOf Tryd.f105 3) (letter_cursor_quotes_vsie.s3 y0 y1 y2)) (fun r0 r1 r2 => κ [.str r0, .vp 99 [.str r1, .int .i64 r2]]) := by kernel_rfl
theorem letter_cursor_quotes_vsie.g3 (R : Type) (c1 : strings_Builder_WriteByte_vxfei.F R) (c2 : strings_Builder_String_vxfe.F R) (κ : List SV → Option R) : ∀ (f : Nat) (x0 : ByteArray) (x1 : Int) (x2 : List AV), goto (letter_cursor_quotes_vsie.C R c1 c2) (retK (letter_cursor_quotes_vsie.C R c1 c2) Tryd.f105.results.toList (List.range 1) κ) 10000 f (placeOf Tryd.f105 3) (letter_cursor_quotes_vsie.s3 x0 x1 x2) = letter_cursor_quotes_vsie.L3 c1 c2 (fun r0 r1 r2 => κ [.str r0, .vp 99 [.str r1, .int .i64 r2]]) f x0 x1 x2
  | 0, _, _, _ => rfl
  | f + 1, x0, x1, x2 => by
    show start (letter_cursor_quotes_vsie.C R c1 c2) (goto (letter_cursor_quotes_vsie.C R c1 c2) (retK (letter_cursor_quotes_vsie.C R c1 c2) Tryd.f105.results.toList (List.range 1) κ) 10000 f) (retK (letter_cursor_quotes_vsie.C R c1 c2) Tryd.f105.results.toList (List.range 1) κ) 10000 (placeOf Tryd.f105 3) (letter_cursor_quotes_vsie.s3 x0 x1 x2) = _
    rw [letter_cursor_quotes_vsie.c3]
    simp only [letter_cursor_quotes_vsie.g3 R c1 c2 κ f]
    rfl
theorem letter_cursor_quotes_vsie.run (R : Type) (κ : List SV → Option R) (a0 : ByteArray) (a1 : Int) :
    runF (letter_cursor_quotes_vsie.C R strings_Builder_WriteByte_vxfei strings_Builder_String_vxfe) Tryd.f105 10000 fuelK [.vp 99 [.str a0, .int .i64 a1]] κ = letter_cursor_quotes_vsie a0 a1 (fun r0 r1 r2 => κ [.str r0, .vp 99 [.str r1, .int .i64 r2]]) := by
  rw [letter_cursor_quotes_vsie.c]
  simp only [letter_cursor_quotes_vsie.g3 R strings_Builder_WriteByte_vxfei strings_Builder_String_vxfe κ fuelK]
  rfl
theorem letter_cursor_quotes_vsie.Γ_does {R : Type} (tab : Tab) (ht : TabOk tab) (g : Nat) : Does (R := R) Tryd.prog (tabTy tyL) tab g ((letter_cursor_quotes_vsie.C R strings_Builder_WriteByte_vxfei strings_Builder_String_vxfe).call g) := by
  refine does_of fun xs κ => ?_
  show DoesAt _ _ _ g xs κ (letter_cursor_quotes_vsie.Γ strings_Builder_WriteByte_vxfei strings_Builder_String_vxfe g xs κ)
  unfold letter_cursor_quotes_vsie.Γ
  split
  · split
    · exact strings_Builder_String_vxfe.does tab ht _ κ
    · exact DoesAt.none
  · split
    · exact strings_Builder_WriteByte_vxfei.does tab ht _ _ κ
    · exact DoesAt.none
  · exact DoesAt.none
theorem letter_cursor_quotes_vsie.does {R : Type} (tab : Tab) (ht : TabOk tab) (a0 : ByteArray) (a1 : Int) (κ : List SV → Option R) : DoesAt Tryd.prog (tabTy tyL) tab 105 [.vp 99 [.str a0, .int .i64 a1]] κ (letter_cursor_quotes_vsie a0 a1 (fun r0 r1 r2 => κ [.str r0, .vp 99 [.str r1, .int .i64 r2]])) := by
  intro r h w vs Rt Ra bs hpre
  exact runF_sound tyOk (letter_cursor_quotes_vsie.Γ_does tab ht) (show Tryd.prog.funcs[105]? = some Tryd.f105 by kernel_rfl) (by kernel_rfl) ((letter_cursor_quotes_vsie.run R κ a0 a1).trans h) hpre
def letter_cursor_host_vsie.Γ {R : Type} (g : Nat) (xs : List SV) (κ : List SV → Option R) : Option R :=
  match g with
  | _ => none
def letter_cursor_host_vsie.h (n : Nat) : Option (List (Nat × List (Nat × Nat))) :=
  match n with
  | 2 => some [(0, [(0, 0)]), (3, [(0, 0)])]
  | _ => none
def letter_cursor_host_vsie.C (R : Type) : Cfg R := ⟨tabTy tyL, letter_cursor_host_vsie.Γ, fun _ => false, letter_cursor_host_vsie.h⟩
def letter_cursor_host_vsie.s2 (x0 : Int) (x1 : ByteArray) (x2 : Int) : St := ⟨mkS 78 [(0, .ptr 0 0), (3, .int .i64 x0)], [(0, .var 99 [.str x1, .int .i64 x2])], top⟩
theorem letter_cursor_host_vsie.c2 (R : Type) (J : List Item → St → Option R) (κ : List SV → Option R) (x0 : Int) (x1 : ByteArray) (x2 : Int) :
    start (letter_cursor_host_vsie.C R) J (retK (letter_cursor_host_vsie.C R) Tryd.f106.results.toList (List.range 1) κ) 10000 (placeOf Tryd.f106 2) (letter_cursor_host_vsie.s2 x0 x1 x2) = letter_cursor_host_vsie.t2 x0 x1 x2 (fun y0 y1 y2 => J (placeOf Tryd.f106 2) (letter_cursor_host_vsie.s2 y0 y1 y2)) (fun r0 r1 r2 => κ [.str r0, .vp 99 [.str r1, .int .i64 r2]]) := by kernel_rfl
theorem letter_cursor_host_vsie.c (R : Type) (κ : List SV → Option R) (k : Nat) (a0 : ByteArray) (a1 : Int) :
    runF (letter_cursor_host_vsie.C R) Tryd.f106 10000 k [.vp 99 [.str a0, .int .i64 a1]] κ = letter_cursor_host_vsie.e a0 a1 (fun y0 y1 y2 => goto (letter_cursor_host_vsie.C R) (retK (letter_cursor_host_vsie.C R) Tryd.f106.results.toList (List.range 1) κ) 10000 k (placeOf Tryd.f106 2) (letter_cursor_host_vsie.s2 y0 y1 y2)) (fun r0 r1 r2 => κ [.str r0, .vp 99 [.str r1, .int .i64 r2]]) := by kernel_rfl
theorem letter_cursor_host_vsie.g2 (R : Type) (κ : List SV → Option R) : ∀ (f : Nat) (x0 : Int) (x1 : ByteArray) (x2 : Int), goto (letter_cursor_host_vsie.C R) (retK (letter_cursor_host_vsie.C R) Tryd.f106.results.toList (List.range 1) κ) 10000 f (placeOf Tryd.f106 2) (letter_cursor_host_vsie.s2 x0 x1 x2) = letter_cursor_host_vsie.L2 (fun r0 r1 r2 => κ [.str r0, .vp 99 [.str r1, .int .i64 r2]]) f x0 x1 x2
  | 0, _, _, _ => rfl
  | f + 1, x0, x1, x2 => by
    show start (letter_cursor_host_vsie.C R) (goto (letter_cursor_host_vsie.C R) (retK (letter_cursor_host_vsie.C R) Tryd.f106.results.toList (List.range 1) κ) 10000 f) (retK (letter_cursor_host_vsie.C R) Tryd.f106.results.toList (List.range 1) κ) 10000 (placeOf Tryd.f106 2) (letter_cursor_host_vsie.s2 x0 x1 x2) = _
    rw [letter_cursor_host_vsie.c2]
    simp only [letter_cursor_host_vsie.g2 R κ f]
    rfl
theorem letter_cursor_host_vsie.run (R : Type) (κ : List SV → Option R) (a0 : ByteArray) (a1 : Int) :
    runF (letter_cursor_host_vsie.C R) Tryd.f106 10000 fuelK [.vp 99 [.str a0, .int .i64 a1]] κ = letter_cursor_host_vsie a0 a1 (fun r0 r1 r2 => κ [.str r0, .vp 99 [.str r1, .int .i64 r2]]) := by
  rw [letter_cursor_host_vsie.c]
  simp only [letter_cursor_host_vsie.g2 R κ fuelK]
  rfl
theorem letter_cursor_host_vsie.Γ_does {R : Type} (tab : Tab) (ht : TabOk tab) (g : Nat) : Does (R := R) Tryd.prog (tabTy tyL) tab g ((letter_cursor_host_vsie.C R).call g) := by
  refine does_of fun xs κ => ?_
  show DoesAt _ _ _ g xs κ (letter_cursor_host_vsie.Γ g xs κ)
  unfold letter_cursor_host_vsie.Γ
  split
  · exact DoesAt.none
theorem letter_cursor_host_vsie.does {R : Type} (tab : Tab) (ht : TabOk tab) (a0 : ByteArray) (a1 : Int) (κ : List SV → Option R) : DoesAt Tryd.prog (tabTy tyL) tab 106 [.vp 99 [.str a0, .int .i64 a1]] κ (letter_cursor_host_vsie a0 a1 (fun r0 r1 r2 => κ [.str r0, .vp 99 [.str r1, .int .i64 r2]])) := by
  intro r h w vs Rt Ra bs hpre
  exact runF_sound tyOk (letter_cursor_host_vsie.Γ_does tab ht) (show Tryd.prog.funcs[106]? = some Tryd.f106 by kernel_rfl) (by kernel_rfl) ((letter_cursor_host_vsie.run R κ a0 a1).trans h) hpre
def letter_isSign_0.Γ {R : Type} (c1 : strings_IndexByte_0.F R) (g : Nat) (xs : List SV) (κ : List SV → Option R) : Option R :=
  match g with
  | 37 => (match xs with
    | [.str a0, .int .u8 a1] => c1 a0 a1 (fun r0 => κ [.int .i64 r0])
    | _ => none)
  | _ => none
def letter_isSign_0.h (n : Nat) : Option (List (Nat × List (Nat × Nat))) :=
  match n with
  | _ => none
def letter_isSign_0.C (R : Type) (c1 : strings_IndexByte_0.F R) : Cfg R := ⟨tabTy tyL, letter_isSign_0.Γ c1, fun _ => false, letter_isSign_0.h⟩
theorem letter_isSign_0.c (R : Type) (c1 : strings_IndexByte_0.F R) (κ : List SV → Option R) (k : Nat) (a0 : Int) :
    runF (letter_isSign_0.C R c1) Tryd.f107 10000 k [.int .u8 a0] κ = letter_isSign_0.e c1 a0 (fun r0 => κ [.bool r0]) := by kernel_rfl
theorem letter_isSign_0.run (R : Type) (κ : List SV → Option R) (a0 : Int) :
    runF (letter_isSign_0.C R strings_IndexByte_0) Tryd.f107 10000 fuelK [.int .u8 a0] κ = letter_isSign_0 a0 (fun r0 => κ [.bool r0]) := by
  rw [letter_isSign_0.c]
  rfl
theorem letter_isSign_0.Γ_does {R : Type} (tab : Tab) (ht : TabOk tab) (g : Nat) : Does (R := R) Tryd.prog (tabTy tyL) tab g ((letter_isSign_0.C R strings_IndexByte_0).call g) := by
  refine does_of fun xs κ => ?_
  show DoesAt _ _ _ g xs κ (letter_isSign_0.Γ strings_IndexByte_0 g xs κ)
  unfold letter_isSign_0.Γ
  split
  · split
    · exact strings_IndexByte_0.does tab ht _ _ κ
    · exact DoesAt.none
  · exact DoesAt.none
theorem letter_isSign_0.does {R : Type} (tab : Tab) (ht : TabOk tab) (a0 : Int) (κ : List SV → Option R) : DoesAt Tryd.prog (tabTy tyL) tab 107 [.int .u8 a0] κ (letter_isSign_0 a0 (fun r0 => κ [.bool r0])) := by
  intro r h w vs Rt Ra bs hpre
  exact runF_sound tyOk (letter_isSign_0.Γ_does tab ht) (show Tryd.prog.funcs[107]? = some Tryd.f107 by kernel_rfl) (by kernel_rfl) ((letter_isSign_0.run R κ a0).trans h) hpre
def letter_isSpace_0.Γ {R : Type} (g : Nat) (xs : List SV) (κ : List SV → Option R) : Option R :=
  match g with
  | _ => none
def letter_isSpace_0.h (n : Nat) : Option (List (Nat × List (Nat × Nat))) :=
  match n with
  | _ => none
def letter_isSpace_0.C (R : Type) : Cfg R := ⟨tabTy tyL, letter_isSpace_0.Γ, fun _ => false, letter_isSpace_0.h⟩
theorem letter_isSpace_0.c (R : Type) (κ : List SV → Option R) (k : Nat) (a0 : Int) :
    runF (letter_isSpace_0.C R) Tryd.f74 10000 k [.int .u8 a0] κ = letter_isSpace_0.e a0 (fun r0 => κ [.bool r0]) := by kernel_rfl
theorem letter_isSpace_0.run (R : Type) (κ : List SV → Option R) (a0 : Int) :
    runF (letter_isSpace_0.C R) Tryd.f74 10000 fuelK [.int .u8 a0] κ = letter_isSpace_0 a0 (fun r0 => κ [.bool r0]) := by
  rw [letter_isSpace_0.c]
  rfl
theorem letter_isSpace_0.Γ_does {R : Type} (tab : Tab) (ht : TabOk tab) (g : Nat) : Does (R := R) Tryd.prog (tabTy tyL) tab g ((letter_isSpace_0.C R).call g) := by
  refine does_of fun xs κ => ?_
  show DoesAt _ _ _ g xs κ (letter_isSpace_0.Γ g xs κ)
  unfold letter_isSpace_0.Γ
  split
  · exact DoesAt.none
theorem letter_isSpace_0.does {R : Type} (tab : Tab) (ht : TabOk tab) (a0 : Int) (κ : List SV → Option R) : DoesAt Tryd.prog (tabTy tyL) tab 74 [.int .u8 a0] κ (letter_isSpace_0 a0 (fun r0 => κ [.bool r0])) := by
  intro r h w vs Rt Ra bs hpre
  exact runF_sound tyOk (letter_isSpace_0.Γ_does tab ht) (show Tryd.prog.funcs[74]? = some Tryd.f74 by kernel_rfl) (by kernel_rfl) ((letter_isSpace_0.run R κ a0).trans h) hpre
def letter_isAtom_0.Γ {R : Type} (c1 : letter_isSpace_0.F R) (c2 : letter_isSign_0.F R) (c3 : strings_IndexByte_0.F R) (g : Nat) (xs : List SV) (κ : List SV → Option R) : Option R :=
  match g with
  | 37 => (match xs with
    | [.str a0, .int .u8 a1] => c3 a0 a1 (fun r0 => κ [.int .i64 r0])
    | _ => none)
  | 74 => (match xs with
    | [.int .u8 a0] => c1 a0 (fun r0 => κ [.bool r0])
    | _ => none)
  | 107 => (match xs with
    | [.int .u8 a0] => c2 a0 (fun r0 => κ [.bool r0])
    | _ => none)
  | _ => none
def letter_isAtom_0.h (n : Nat) : Option (List (Nat × List (Nat × Nat))) :=
  match n with
  | _ => none
def letter_isAtom_0.C (R : Type) (c1 : letter_isSpace_0.F R) (c2 : letter_isSign_0.F R) (c3 : strings_IndexByte_0.F R) : Cfg R := ⟨tabTy tyL, letter_isAtom_0.Γ c1 c2 c3, fun _ => false, letter_isAtom_0.h⟩
theorem letter_isAtom_0.c (R : Type) (c1 : letter_isSpace_0.F R) (c2 : letter_isSign_0.F R) (c3 : strings_IndexByte_0.F R) (κ : List SV → Option R) (k : Nat) (a0 : Int) :
    runF (letter_isAtom_0.C R c1 c2 c3) Tryd.f108 10000 k [.int .u8 a0] κ = letter_isAtom_0.e c1 c2 c3 a0 (fun r0 => κ [.bool r0]) := by kernel_rfl
theorem letter_isAtom_0.run (R : Type) (κ : List SV → Option R) (a0 : Int) :
    runF (letter_isAtom_0.C R letter_isSpace_0 letter_isSign_0 strings_IndexByte_0) Tryd.f108 10000 fuelK [.int .u8 a0] κ = letter_isAtom_0 a0 (fun r0 => κ [.bool r0]) := by
  rw [letter_isAtom_0.c]
  rfl
theorem letter_isAtom_0.Γ_does {R : Type} (tab : Tab) (ht : TabOk tab) (g : Nat) : Does (R := R) Tryd.prog (tabTy tyL) tab g ((letter_isAtom_0.C R letter_isSpace_0 letter_isSign_0 strings_IndexByte_0).call g) := by
  refine does_of fun xs κ => ?_
  show DoesAt _ _ _ g xs κ (letter_isAtom_0.Γ letter_isSpace_0 letter_isSign_0 strings_IndexByte_0 g xs κ)
  unfold letter_isAtom_0.Γ
  split
  · split
    · exact strings_IndexByte_0.does tab ht _ _ κ
    · exact DoesAt.none
  · split
    · exact letter_isSpace_0.does tab ht _ κ
    · exact DoesAt.none
  · split
    · exact letter_isSign_0.does tab ht _ κ
    · exact DoesAt.none
  · exact DoesAt.none
theorem letter_isAtom_0.does {R : Type} (tab : Tab) (ht : TabOk tab) (a0 : Int) (κ : List SV → Option R) : DoesAt Tryd.prog (tabTy tyL) tab 108 [.int .u8 a0] κ (letter_isAtom_0 a0 (fun r0 => κ [.bool r0])) := by
  intro r h w vs Rt Ra bs hpre
  exact runF_sound tyOk (letter_isAtom_0.Γ_does tab ht) (show Tryd.prog.funcs[108]? = some Tryd.f108 by kernel_rfl) (by kernel_rfl) ((letter_isAtom_0.run R κ a0).trans h) hpre
def letter_cursor_next_vsie.Γ {R : Type} (c1 : letter_cursor_comment_vsie.F R) (c2 : letter_cursor_quotes_vsie.F R) (c3 : letter_cursor_host_vsie.F R) (c4 : letter_isSign_0.F R) (c5 : letter_isAtom_0.F R) (g : Nat) (xs : List SV) (κ : List SV → Option R) : Option R :=
  match g with
  | 104 => (match xs with
    | [.vp 99 [.str a0, .int .i64 a1]] => c1 a0 a1 (fun r0 r1 => κ [.tup [], .vp 99 [.str r0, .int .i64 r1]])
    | _ => none)
  | 105 => (match xs with
    | [.vp 99 [.str a0, .int .i64 a1]] => c2 a0 a1 (fun r0 r1 r2 => κ [.str r0, .vp 99 [.str r1, .int .i64 r2]])
    | _ => none)
  | 106 => (match xs with
    | [.vp 99 [.str a0, .int .i64 a1]] => c3 a0 a1 (fun r0 r1 r2 => κ [.str r0, .vp 99 [.str r1, .int .i64 r2]])
    | _ => none)
  | 107 => (match xs with
    | [.int .u8 a0] => c4 a0 (fun r0 => κ [.bool r0])
    | _ => none)
  | 108 => (match xs with
    | [.int .u8 a0] => c5 a0 (fun r0 => κ [.bool r0])
    | _ => none)
  | _ => none
def letter_cursor_next_vsie.h (n : Nat) : Option (List (Nat × List (Nat × Nat))) :=
  match n with
  | 16 => some [(0, [(0, 0)]), (2, [(0, 0)]), (4, [(0, 0)])]
  | _ => none
def letter_cursor_next_vsie.C (R : Type) (c1 : letter_cursor_comment_vsie.F R) (c2 : letter_cursor_quotes_vsie.F R) (c3 : letter_cursor_host_vsie.F R) (c4 : letter_isSign_0.F R) (c5 : letter_isAtom_0.F R) : Cfg R := ⟨tabTy tyL, letter_cursor_next_vsie.Γ c1 c2 c3 c4 c5, fun _ => false, letter_cursor_next_vsie.h⟩
def letter_cursor_next_vsie.s16 (x0 : Int) (x1 : ByteArray) (x2 : Int) (x3 : Int) (x4 : ByteArray) : St := ⟨mkS 101 [(0, .ptr 0 0), (2, .ptr 255 0), (4, .int .i64 x0)], [(0, .var 99 [.str x1, .int .i64 x2]), (255, .var 80 [.int .i64 x3, .str x4])], top⟩
theorem letter_cursor_next_vsie.c16 (R : Type) (c1 : letter_cursor_comment_vsie.F R) (c2 : letter_cursor_quotes_vsie.F R) (c3 : letter_cursor_host_vsie.F R) (c4 : letter_isSign_0.F R) (c5 : letter_isAtom_0.F R) (J : List Item → St → Option R) (κ : List SV → Option R) (x0 : Int) (x1 : ByteArray) (x2 : Int) (x3 : Int) (x4 : ByteArray) :
    start (letter_cursor_next_vsie.C R c1 c2 c3 c4 c5) J (retK (letter_cursor_next_vsie.C R c1 c2 c3 c4 c5) Tryd.f87.results.toList (List.range 1) κ) 10000 (placeOf Tryd.f87 16) (letter_cursor_next_vsie.s16 x0 x1 x2 x3 x4) = letter_cursor_next_vsie.t16 c1 c2 c3 c4 c5 x0 x1 x2 x3 x4 (fun y0 y1 y2 y3 y4 => J (placeOf Tryd.f87 16) (letter_cursor_next_vsie.s16 y0 y1 y2 y3 y4)) (fun r0 r1 r2 r3 => κ [.agg [.int .i64 r0, .str r1], .vp 99 [.str r2, .int .i64 r3]]) := by kernel_rfl
theorem letter_cursor_next_vsie.c (R : Type) (c1 : letter_cursor_comment_vsie.F R) (c2 : letter_cursor_quotes_vsie.F R) (c3 : letter_cursor_host_vsie.F R) (c4 : letter_isSign_0.F R) (c5 : letter_isAtom_0.F R) (κ : List SV → Option R) (k : Nat) (a0 : ByteArray) (a1 : Int) :
    runF (letter_cursor_next_vsie.C R c1 c2 c3 c4 c5) Tryd.f87 10000 k [.vp 99 [.str a0, .int .i64 a1]] κ = letter_cursor_next_vsie.e c1 c2 c3 c4 c5 a0 a1 (fun y0 y1 y2 y3 y4 => goto (letter_cursor_next_vsie.C R c1 c2 c3 c4 c5) (retK (letter_cursor_next_vsie.C R c1 c2 c3 c4 c5) Tryd.f87.results.toList (List.range 1) κ) 10000 k (placeOf Tryd.f87 16) (letter_cursor_next_vsie.s16 y0 y1 y2 y3 y4)) (fun r0 r1 r2 r3 => κ [.agg [.int .i64 r0, .str r1], .vp 99 [.str r2, .int .i64 r3]]) := by kernel_rfl
theorem letter_cursor_next_vsie.g16 (R : Type) (c1 : letter_cursor_comment_vsie.F R) (c2 : letter_cursor_quotes_vsie.F R) (c3 : letter_cursor_host_vsie.F R) (c4 : letter_isSign_0.F R) (c5 : letter_isAtom_0.F R) (κ : List SV → Option R) : ∀ (f : Nat) (x0 : Int) (x1 : ByteArray) (x2 : Int) (x3 : Int) (x4 : ByteArray), goto (letter_cursor_next_vsie.C R c1 c2 c3 c4 c5) (retK (letter_cursor_next_vsie.C R c1 c2 c3 c4 c5) Tryd.f87.results.toList (List.range 1) κ) 10000 f (placeOf Tryd.f87 16) (letter_cursor_next_vsie.s16 x0 x1 x2 x3 x4) = letter_cursor_next_vsie.L16 c1 c2 c3 c4 c5 (fun r0 r1 r2 r3 => κ [.agg [.int .i64 r0, .str r1], .vp 99 [.str r2, .int .i64 r3]]) f x0 x1 x2 x3 x4
  | 0, _, _, _, _, _ => rfl
  | f + 1, x0, x1, x2, x3, x4 => by
    show start (letter_cursor_next_vsie.C R c1 c2 c3 c4 c5) (goto (letter_cursor_next_vsie.C R c1 c2 c3 c4 c5) (retK (letter_cursor_next_vsie.C R c1 c2 c3 c4 c5) Tryd.f87.results.toList (List.range 1) κ) 10000 f) (retK (letter_cursor_next_vsie.C R c1 c2 c3 c4 c5) Tryd.f87.results.toList (List.range 1) κ) 10000 (placeOf Tryd.f87 16) (letter_cursor_next_vsie.s16 x0 x1 x2 x3 x4) = _
    rw [letter_cursor_next_vsie.c16]
    simp only [letter_cursor_next_vsie.g16 R c1 c2 c3 c4 c5 κ f]
    rfl
theorem letter_cursor_next_vsie.run (R : Type) (κ : List SV → Option R) (a0 : ByteArray) (a1 : Int) :
    runF (letter_cursor_next_vsie.C R letter_cursor_comment_vsie letter_cursor_quotes_vsie letter_cursor_host_vsie letter_isSign_0 letter_isAtom_0) Tryd.f87 10000 fuelK [.vp 99 [.str a0, .int .i64 a1]] κ = letter_cursor_next_vsie a0 a1 (fun r0 r1 r2 r3 => κ [.agg [.int .i64 r0, .str r1], .vp 99 [.str r2, .int .i64 r3]]) := by
  rw [letter_cursor_next_vsie.c]
  simp only [letter_cursor_next_vsie.g16 R letter_cursor_comment_vsie letter_cursor_quotes_vsie letter_cursor_host_vsie letter_isSign_0 letter_isAtom_0 κ fuelK]
  rfl
theorem letter_cursor_next_vsie.Γ_does {R : Type} (tab : Tab) (ht : TabOk tab) (g : Nat) : Does (R := R) Tryd.prog (tabTy tyL) tab g ((letter_cursor_next_vsie.C R letter_cursor_comment_vsie letter_cursor_quotes_vsie letter_cursor_host_vsie letter_isSign_0 letter_isAtom_0).call g) := by
  refine does_of fun xs κ => ?_
  show DoesAt _ _ _ g xs κ (letter_cursor_next_vsie.Γ letter_cursor_comment_vsie letter_cursor_quotes_vsie letter_cursor_host_vsie letter_isSign_0 letter_isAtom_0 g xs κ)
  unfold letter_cursor_next_vsie.Γ
  split
  · split
    · exact letter_cursor_comment_vsie.does tab ht _ _ κ
    · exact DoesAt.none
  · split
    · exact letter_cursor_quotes_vsie.does tab ht _ _ κ
    · exact DoesAt.none
  · split
    · exact letter_cursor_host_vsie.does tab ht _ _ κ
    · exact DoesAt.none
  · split
    · exact letter_isSign_0.does tab ht _ κ
    · exact DoesAt.none
  · split
    · exact letter_isAtom_0.does tab ht _ κ
    · exact DoesAt.none
  · exact DoesAt.none
theorem letter_cursor_next_vsie.does {R : Type} (tab : Tab) (ht : TabOk tab) (a0 : ByteArray) (a1 : Int) (κ : List SV → Option R) : DoesAt Tryd.prog (tabTy tyL) tab 87 [.vp 99 [.str a0, .int .i64 a1]] κ (letter_cursor_next_vsie a0 a1 (fun r0 r1 r2 r3 => κ [.agg [.int .i64 r0, .str r1], .vp 99 [.str r2, .int .i64 r3]])) := by
  intro r h w vs Rt Ra bs hpre
  exact runF_sound tyOk (letter_cursor_next_vsie.Γ_does tab ht) (show Tryd.prog.funcs[87]? = some Tryd.f87 by kernel_rfl) (by kernel_rfl) ((letter_cursor_next_vsie.run R κ a0 a1).trans h) hpre
def letter_pieces_0.Γ {R : Type} (c1 : letter_cursor_next_vsie.F R) (g : Nat) (xs : List SV) (κ : List SV → Option R) : Option R :=
  match g with
  | 87 => (match xs with
    | [.vp 99 [.str a0, .int .i64 a1]] => c1 a0 a1 (fun r0 r1 r2 r3 => κ [.agg [.int .i64 r0, .str r1], .vp 99 [.str r2, .int .i64 r3]])
    | _ => none)
  | _ => none
def letter_pieces_0.h (n : Nat) : Option (List (Nat × List (Nat × Nat))) :=
  match n with
  | 3 => some [(3, [(0, 0)]), (4, [(0, 82)])]
  | _ => none
def letter_pieces_0.C (R : Type) (c1 : letter_cursor_next_vsie.F R) : Cfg R := ⟨tabTy tyL, letter_pieces_0.Γ c1, fun _ => false, letter_pieces_0.h⟩
def letter_pieces_0.s3 (x0 : ByteArray) (x1 : Int) (x2 : List AV) : St := ⟨mkS 24 [(3, .ptr 319 0), (4, .own 320)], [(319, .var 99 [.str x0, .int .i64 x1]), (320, .row 80 x2 true)], top⟩
theorem letter_pieces_0.c3 (R : Type) (c1 : letter_cursor_next_vsie.F R) (J : List Item → St → Option R) (κ : List SV → Option R) (x0 : ByteArray) (x1 : Int) (x2 : List AV) :
    start (letter_pieces_0.C R c1) J (retK (letter_pieces_0.C R c1) Tryd.f46.results.toList (List.range 0) κ) 10000 (placeOf Tryd.f46 3) (letter_pieces_0.s3 x0 x1 x2) = letter_pieces_0.t3 c1 x0 x1 x2 (fun y0 y1 y2 => J (placeOf Tryd.f46 3) (letter_pieces_0.s3 y0 y1 y2)) (fun r0 => κ [.fr 80 r0 true]) := by kernel_rfl
theorem letter_pieces_0.c (R : Type) (c1 : letter_cursor_next_vsie.F R) (κ : List SV → Option R) (k : Nat) (a0 : ByteArray) :
    runF (letter_pieces_0.C R c1) Tryd.f46 10000 k [.str a0] κ = letter_pieces_0.e c1 a0 (fun y0 y1 y2 => goto (letter_pieces_0.C R c1) (retK (letter_pieces_0.C R c1) Tryd.f46.results.toList (List.range 0) κ) 10000 k (placeOf Tryd.f46 3) (letter_pieces_0.s3 y0 y1 y2)) (fun r0 => κ [.fr 80 r0 true]) := by kernel_rfl
theorem letter_pieces_0.g3 (R : Type) (c1 : letter_cursor_next_vsie.F R) (κ : List SV → Option R) : ∀ (f : Nat) (x0 : ByteArray) (x1 : Int) (x2 : List AV), goto (letter_pieces_0.C R c1) (retK (letter_pieces_0.C R c1) Tryd.f46.results.toList (List.range 0) κ) 10000 f (placeOf Tryd.f46 3) (letter_pieces_0.s3 x0 x1 x2) = letter_pieces_0.L3 c1 (fun r0 => κ [.fr 80 r0 true]) f x0 x1 x2
  | 0, _, _, _ => rfl
  | f + 1, x0, x1, x2 => by
    show start (letter_pieces_0.C R c1) (goto (letter_pieces_0.C R c1) (retK (letter_pieces_0.C R c1) Tryd.f46.results.toList (List.range 0) κ) 10000 f) (retK (letter_pieces_0.C R c1) Tryd.f46.results.toList (List.range 0) κ) 10000 (placeOf Tryd.f46 3) (letter_pieces_0.s3 x0 x1 x2) = _
    rw [letter_pieces_0.c3]
    simp only [letter_pieces_0.g3 R c1 κ f]
    rfl
theorem letter_pieces_0.run (R : Type) (κ : List SV → Option R) (a0 : ByteArray) :
    runF (letter_pieces_0.C R letter_cursor_next_vsie) Tryd.f46 10000 fuelK [.str a0] κ = letter_pieces_0 a0 (fun r0 => κ [.fr 80 r0 true]) := by
  rw [letter_pieces_0.c]
  simp only [letter_pieces_0.g3 R letter_cursor_next_vsie κ fuelK]
  rfl
theorem letter_pieces_0.Γ_does {R : Type} (tab : Tab) (ht : TabOk tab) (g : Nat) : Does (R := R) Tryd.prog (tabTy tyL) tab g ((letter_pieces_0.C R letter_cursor_next_vsie).call g) := by
  refine does_of fun xs κ => ?_
  show DoesAt _ _ _ g xs κ (letter_pieces_0.Γ letter_cursor_next_vsie g xs κ)
  unfold letter_pieces_0.Γ
  split
  · split
    · exact letter_cursor_next_vsie.does tab ht _ _ κ
    · exact DoesAt.none
  · exact DoesAt.none
theorem letter_pieces_0.does {R : Type} (tab : Tab) (ht : TabOk tab) (a0 : ByteArray) (κ : List SV → Option R) : DoesAt Tryd.prog (tabTy tyL) tab 46 [.str a0] κ (letter_pieces_0 a0 (fun r0 => κ [.fr 80 r0 true])) := by
  intro r h w vs Rt Ra bs hpre
  exact runF_sound tyOk (letter_pieces_0.Γ_does tab ht) (show Tryd.prog.funcs[46]? = some Tryd.f46 by kernel_rfl) (by kernel_rfl) ((letter_pieces_0.run R κ a0).trans h) hpre
def letter_piece_is_0.Γ {R : Type} (g : Nat) (xs : List SV) (κ : List SV → Option R) : Option R :=
  match g with
  | _ => none
def letter_piece_is_0.h (n : Nat) : Option (List (Nat × List (Nat × Nat))) :=
  match n with
  | _ => none
def letter_piece_is_0.C (R : Type) : Cfg R := ⟨tabTy tyL, letter_piece_is_0.Γ, fun _ => false, letter_piece_is_0.h⟩
theorem letter_piece_is_0.c (R : Type) (κ : List SV → Option R) (k : Nat) (a0 : Int) (a1 : ByteArray) (a2 : ByteArray) :
    runF (letter_piece_is_0.C R) Tryd.f52 10000 k [.agg [.int .i64 a0, .str a1], .str a2] κ = letter_piece_is_0.e a0 a1 a2 (fun r0 => κ [.bool r0]) := by kernel_rfl
theorem letter_piece_is_0.run (R : Type) (κ : List SV → Option R) (a0 : Int) (a1 : ByteArray) (a2 : ByteArray) :
    runF (letter_piece_is_0.C R) Tryd.f52 10000 fuelK [.agg [.int .i64 a0, .str a1], .str a2] κ = letter_piece_is_0 a0 a1 a2 (fun r0 => κ [.bool r0]) := by
  rw [letter_piece_is_0.c]
  rfl
theorem letter_piece_is_0.Γ_does {R : Type} (tab : Tab) (ht : TabOk tab) (g : Nat) : Does (R := R) Tryd.prog (tabTy tyL) tab g ((letter_piece_is_0.C R).call g) := by
  refine does_of fun xs κ => ?_
  show DoesAt _ _ _ g xs κ (letter_piece_is_0.Γ g xs κ)
  unfold letter_piece_is_0.Γ
  split
  · exact DoesAt.none
theorem letter_piece_is_0.does {R : Type} (tab : Tab) (ht : TabOk tab) (a0 : Int) (a1 : ByteArray) (a2 : ByteArray) (κ : List SV → Option R) : DoesAt Tryd.prog (tabTy tyL) tab 52 [.agg [.int .i64 a0, .str a1], .str a2] κ (letter_piece_is_0 a0 a1 a2 (fun r0 => κ [.bool r0])) := by
  intro r h w vs Rt Ra bs hpre
  exact runF_sound tyOk (letter_piece_is_0.Γ_does tab ht) (show Tryd.prog.funcs[52]? = some Tryd.f52 by kernel_rfl) (by kernel_rfl) ((letter_piece_is_0.run R κ a0 a1 a2).trans h) hpre
def letter_find_ois.Γ {R : Type} (c1 : letter_piece_is_0.F R) (g : Nat) (xs : List SV) (κ : List SV → Option R) : Option R :=
  match g with
  | 52 => (match xs with
    | [.agg [.int .i64 a0, .str a1], .str a2] => c1 a0 a1 a2 (fun r0 => κ [.bool r0])
    | _ => none)
  | _ => none
def letter_find_ois.h (n : Nat) : Option (List (Nat × List (Nat × Nat))) :=
  match n with
  | 2 => some [(0, [(0, 0)]), (2, [(0, 0)]), (7, [(0, 0)])]
  | _ => none
def letter_find_ois.C (R : Type) (c1 : letter_piece_is_0.F R) : Cfg R := ⟨tabTy tyL, letter_find_ois.Γ c1, fun _ => false, letter_find_ois.h⟩
def letter_find_ois.s2 (x0 : List AV) (x1 : ByteArray) (x2 : Int) : St := ⟨mkS 24 [(0, .ro 80 x0 false), (2, .str x1), (7, .int .i64 x2)], [], top⟩
theorem letter_find_ois.c2 (R : Type) (c1 : letter_piece_is_0.F R) (J : List Item → St → Option R) (κ : List SV → Option R) (x0 : List AV) (x1 : ByteArray) (x2 : Int) :
    start (letter_find_ois.C R c1) J (retK (letter_find_ois.C R c1) Tryd.f53.results.toList (List.range 0) κ) 10000 (placeOf Tryd.f53 2) (letter_find_ois.s2 x0 x1 x2) = letter_find_ois.t2 c1 x0 x1 x2 (fun y0 y1 y2 => J (placeOf Tryd.f53 2) (letter_find_ois.s2 y0 y1 y2)) (fun r0 => κ [.int .i64 r0]) := by kernel_rfl
theorem letter_find_ois.c (R : Type) (c1 : letter_piece_is_0.F R) (κ : List SV → Option R) (k : Nat) (a0 : List AV) (a1 : Int) (a2 : ByteArray) :
    runF (letter_find_ois.C R c1) Tryd.f53 10000 k [.ro 80 a0 false, .int .i64 a1, .str a2] κ = letter_find_ois.e c1 a0 a1 a2 (fun y0 y1 y2 => goto (letter_find_ois.C R c1) (retK (letter_find_ois.C R c1) Tryd.f53.results.toList (List.range 0) κ) 10000 k (placeOf Tryd.f53 2) (letter_find_ois.s2 y0 y1 y2)) (fun r0 => κ [.int .i64 r0]) := by kernel_rfl
theorem letter_find_ois.g2 (R : Type) (c1 : letter_piece_is_0.F R) (κ : List SV → Option R) : ∀ (f : Nat) (x0 : List AV) (x1 : ByteArray) (x2 : Int), goto (letter_find_ois.C R c1) (retK (letter_find_ois.C R c1) Tryd.f53.results.toList (List.range 0) κ) 10000 f (placeOf Tryd.f53 2) (letter_find_ois.s2 x0 x1 x2) = letter_find_ois.L2 c1 (fun r0 => κ [.int .i64 r0]) f x0 x1 x2
  | 0, _, _, _ => rfl
  | f + 1, x0, x1, x2 => by
    show start (letter_find_ois.C R c1) (goto (letter_find_ois.C R c1) (retK (letter_find_ois.C R c1) Tryd.f53.results.toList (List.range 0) κ) 10000 f) (retK (letter_find_ois.C R c1) Tryd.f53.results.toList (List.range 0) κ) 10000 (placeOf Tryd.f53 2) (letter_find_ois.s2 x0 x1 x2) = _
    rw [letter_find_ois.c2]
    simp only [letter_find_ois.g2 R c1 κ f]
    rfl
theorem letter_find_ois.run (R : Type) (κ : List SV → Option R) (a0 : List AV) (a1 : Int) (a2 : ByteArray) :
    runF (letter_find_ois.C R letter_piece_is_0) Tryd.f53 10000 fuelK [.ro 80 a0 false, .int .i64 a1, .str a2] κ = letter_find_ois a0 a1 a2 (fun r0 => κ [.int .i64 r0]) := by
  rw [letter_find_ois.c]
  simp only [letter_find_ois.g2 R letter_piece_is_0 κ fuelK]
  rfl
theorem letter_find_ois.Γ_does {R : Type} (tab : Tab) (ht : TabOk tab) (g : Nat) : Does (R := R) Tryd.prog (tabTy tyL) tab g ((letter_find_ois.C R letter_piece_is_0).call g) := by
  refine does_of fun xs κ => ?_
  show DoesAt _ _ _ g xs κ (letter_find_ois.Γ letter_piece_is_0 g xs κ)
  unfold letter_find_ois.Γ
  split
  · split
    · exact letter_piece_is_0.does tab ht _ _ _ κ
    · exact DoesAt.none
  · exact DoesAt.none
theorem letter_find_ois.does {R : Type} (tab : Tab) (ht : TabOk tab) (a0 : List AV) (a1 : Int) (a2 : ByteArray) (κ : List SV → Option R) : DoesAt Tryd.prog (tabTy tyL) tab 53 [.ro 80 a0 false, .int .i64 a1, .str a2] κ (letter_find_ois a0 a1 a2 (fun r0 => κ [.int .i64 r0])) := by
  intro r h w vs Rt Ra bs hpre
  exact runF_sound tyOk (letter_find_ois.Γ_does tab ht) (show Tryd.prog.funcs[53]? = some Tryd.f53 by kernel_rfl) (by kernel_rfl) ((letter_find_ois.run R κ a0 a1 a2).trans h) hpre
end Go.Proofs.Ab
