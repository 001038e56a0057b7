/- Each plain function is what a call of its Go function does, checked by the kernel (no condition but what its checks ask). -/
import Derived.Test.YtnipklplcipaiaaGreatDoorSeat
import Derived.Test.YtnipklplcipaiaaGreatDoorText
import Derived.Test.YtnipklplcipaiaaGreatDoorCheck1
/- Each typed text is what its function does: checked by the kernel. -/
namespace Go.Proofs.Ab
set_option linter.unusedVariables false
set_option maxRecDepth 4000
open Go Go.Proofs
set_option maxRecDepth 100000
def letter_answered_0.Γ {R : Type} (c1 : letter_blob_0.F R) (c2 : letter_begin_0.F R) (c3 : letter_blanks_0.F R) (g : Nat) (xs : List SV) (κ : List SV → Option R) : Option R :=
  match g with
  | 125 => (match xs with
    | [.str a0] => c1 a0 (fun r0 => κ [.int .i64 r0])
    | _ => none)
  | 127 => (match xs with
    | [.str a0, .str a1] => c2 a0 a1 (fun r0 => κ [.bool r0])
    | _ => none)
  | 149 => (match xs with
    | [.str a0, .int .i64 a1] => c3 a0 a1 (fun r0 => κ [.int .i64 r0])
    | _ => none)
  | _ => none
def letter_answered_0.h (n : Nat) : Option (List (Nat × List (Nat × Nat))) :=
  match n with
  | 3 => some [(0, [(0, 0)]), (3, [(0, 0)]), (4, [(0, 0)])]
  | 7 => some [(0, [(0, 0)]), (3, [(0, 0)]), (19, [(0, 0)]), (20, [(0, 0)]), (21, [(0, 0)])]
  | _ => none
def letter_answered_0.C (R : Type) (c1 : letter_blob_0.F R) (c2 : letter_begin_0.F R) (c3 : letter_blanks_0.F R) : Cfg R := ⟨tabTy tyL, letter_answered_0.Γ c1 c2 c3, fun _ => false, letter_answered_0.h⟩
def letter_answered_0.s3 (x0 : ByteArray) (x1 : Int) (x2 : Int) : St := ⟨mkS 56 [(0, .str x0), (3, .int .i64 x1), (4, .int .i64 x2)], [], top⟩
def letter_answered_0.s7 (x0 : ByteArray) (x1 : Int) (x2 : Int) (x3 : Int) (x4 : List AV) : St := ⟨mkS 56 [(0, .str x0), (3, .int .i64 x1), (19, .own 1280), (20, .int .i64 x2), (21, .int .i64 x3)], [(1280, .row 9 x4 true)], top⟩
theorem letter_answered_0.c3 (R : Type) (c1 : letter_blob_0.F R) (c2 : letter_begin_0.F R) (c3 : letter_blanks_0.F R) (J : List Item → St → Option R) (κ : List SV → Option R) (x0 : ByteArray) (x1 : Int) (x2 : Int) :
    start (letter_answered_0.C R c1 c2 c3) J (retK (letter_answered_0.C R c1 c2 c3) Tryz.f123.results.toList (List.range 0) κ) 10000 (placeOf Tryz.f123 3) (letter_answered_0.s3 x0 x1 x2) = letter_answered_0.t3 c1 c2 c3 x0 x1 x2 (fun y0 y1 y2 => J (placeOf Tryz.f123 3) (letter_answered_0.s3 y0 y1 y2)) (fun y0 y1 y2 y3 y4 => J (placeOf Tryz.f123 7) (letter_answered_0.s7 y0 y1 y2 y3 y4)) (fun r0 => κ [.int .i64 r0]) := by kernel_rfl
theorem letter_answered_0.c7 (R : Type) (c1 : letter_blob_0.F R) (c2 : letter_begin_0.F R) (c3 : letter_blanks_0.F R) (J : List Item → St → Option R) (κ : List SV → Option R) (x0 : ByteArray) (x1 : Int) (x2 : Int) (x3 : Int) (x4 : List AV) :
    start (letter_answered_0.C R c1 c2 c3) J (retK (letter_answered_0.C R c1 c2 c3) Tryz.f123.results.toList (List.range 0) κ) 10000 (placeOf Tryz.f123 7) (letter_answered_0.s7 x0 x1 x2 x3 x4) = letter_answered_0.t7 c1 c2 c3 x0 x1 x2 x3 x4 (fun y0 y1 y2 => J (placeOf Tryz.f123 3) (letter_answered_0.s3 y0 y1 y2)) (fun y0 y1 y2 y3 y4 => J (placeOf Tryz.f123 7) (letter_answered_0.s7 y0 y1 y2 y3 y4)) (fun r0 => κ [.int .i64 r0]) := by kernel_rfl
theorem letter_answered_0.c (R : Type) (c1 : letter_blob_0.F R) (c2 : letter_begin_0.F R) (c3 : letter_blanks_0.F R) (κ : List SV → Option R) (k : Nat) (a0 : ByteArray) :
    runF (letter_answered_0.C R c1 c2 c3) Tryz.f123 10000 k [.str a0] κ = letter_answered_0.e c1 c2 c3 a0 (fun y0 y1 y2 => goto (letter_answered_0.C R c1 c2 c3) (retK (letter_answered_0.C R c1 c2 c3) Tryz.f123.results.toList (List.range 0) κ) 10000 k (placeOf Tryz.f123 3) (letter_answered_0.s3 y0 y1 y2)) (fun y0 y1 y2 y3 y4 => goto (letter_answered_0.C R c1 c2 c3) (retK (letter_answered_0.C R c1 c2 c3) Tryz.f123.results.toList (List.range 0) κ) 10000 k (placeOf Tryz.f123 7) (letter_answered_0.s7 y0 y1 y2 y3 y4)) (fun r0 => κ [.int .i64 r0]) := by kernel_rfl
theorem letter_answered_0.g7 (R : Type) (c1 : letter_blob_0.F R) (c2 : letter_begin_0.F R) (c3 : letter_blanks_0.F R) (κ : List SV → Option R) : ∀ (f : Nat) (x0 : ByteArray) (x1 : Int) (x2 : Int) (x3 : Int) (x4 : List AV), goto (letter_answered_0.C R c1 c2 c3) (retK (letter_answered_0.C R c1 c2 c3) Tryz.f123.results.toList (List.range 0) κ) 10000 f (placeOf Tryz.f123 7) (letter_answered_0.s7 x0 x1 x2 x3 x4) = letter_answered_0.L7 c1 c2 c3 (fun r0 => κ [.int .i64 r0]) f x0 x1 x2 x3 x4
  | 0, _, _, _, _, _ => rfl
  | f + 1, x0, x1, x2, x3, x4 => by
    show start (letter_answered_0.C R c1 c2 c3) (goto (letter_answered_0.C R c1 c2 c3) (retK (letter_answered_0.C R c1 c2 c3) Tryz.f123.results.toList (List.range 0) κ) 10000 f) (retK (letter_answered_0.C R c1 c2 c3) Tryz.f123.results.toList (List.range 0) κ) 10000 (placeOf Tryz.f123 7) (letter_answered_0.s7 x0 x1 x2 x3 x4) = _
    rw [letter_answered_0.c7]
    simp only [letter_answered_0.g7 R c1 c2 c3 κ f]
    rfl
theorem letter_answered_0.g3 (R : Type) (c1 : letter_blob_0.F R) (c2 : letter_begin_0.F R) (c3 : letter_blanks_0.F R) (κ : List SV → Option R) : ∀ (f : Nat) (x0 : ByteArray) (x1 : Int) (x2 : Int), goto (letter_answered_0.C R c1 c2 c3) (retK (letter_answered_0.C R c1 c2 c3) Tryz.f123.results.toList (List.range 0) κ) 10000 f (placeOf Tryz.f123 3) (letter_answered_0.s3 x0 x1 x2) = letter_answered_0.L3 c1 c2 c3 (fun r0 => κ [.int .i64 r0]) f x0 x1 x2
  | 0, _, _, _ => rfl
  | f + 1, x0, x1, x2 => by
    show start (letter_answered_0.C R c1 c2 c3) (goto (letter_answered_0.C R c1 c2 c3) (retK (letter_answered_0.C R c1 c2 c3) Tryz.f123.results.toList (List.range 0) κ) 10000 f) (retK (letter_answered_0.C R c1 c2 c3) Tryz.f123.results.toList (List.range 0) κ) 10000 (placeOf Tryz.f123 3) (letter_answered_0.s3 x0 x1 x2) = _
    rw [letter_answered_0.c3]
    simp only [letter_answered_0.g3 R c1 c2 c3 κ f, letter_answered_0.g7 R c1 c2 c3 κ f]
    rfl
theorem letter_answered_0.run (R : Type) (κ : List SV → Option R) (a0 : ByteArray) :
    runF (letter_answered_0.C R letter_blob_0 letter_begin_0 letter_blanks_0) Tryz.f123 10000 fuelK [.str a0] κ = letter_answered_0 a0 (fun r0 => κ [.int .i64 r0]) := by
  rw [letter_answered_0.c]
  simp only [letter_answered_0.g3 R letter_blob_0 letter_begin_0 letter_blanks_0 κ fuelK, letter_answered_0.g7 R letter_blob_0 letter_begin_0 letter_blanks_0 κ fuelK]
  rfl
theorem letter_answered_0.Γ_does {R : Type} (tab : Tab) (ht : TabOk tab) (g : Nat) : Does (R := R) Tryz.prog (tabTy tyL) tab g ((letter_answered_0.C R letter_blob_0 letter_begin_0 letter_blanks_0).call g) := by
  refine does_of fun xs κ => ?_
  show DoesAt _ _ _ g xs κ (letter_answered_0.Γ letter_blob_0 letter_begin_0 letter_blanks_0 g xs κ)
  unfold letter_answered_0.Γ
  split
  · split
    · exact letter_blob_0.does tab ht _ κ
    · exact DoesAt.none
  · split
    · exact letter_begin_0.does tab ht _ _ κ
    · exact DoesAt.none
  · split
    · exact letter_blanks_0.does tab ht _ _ κ
    · exact DoesAt.none
  · exact DoesAt.none
theorem letter_answered_0.does {R : Type} (tab : Tab) (ht : TabOk tab) (a0 : ByteArray) (κ : List SV → Option R) : DoesAt Tryz.prog (tabTy tyL) tab 123 [.str a0] κ (letter_answered_0 a0 (fun r0 => κ [.int .i64 r0])) := by
  intro r h w vs Rt Ra bs hpre
  exact runF_sound tyOk (letter_answered_0.Γ_does tab ht) (show Tryz.prog.funcs[123]? = some Tryz.f123 by kernel_rfl) (by kernel_rfl) ((letter_answered_0.run R κ a0).trans h) hpre
def letter_rules_4_0.Γ {R : Type} (c1 : letter_answered_0.F R) (g : Nat) (xs : List SV) (κ : List SV → Option R) : Option R :=
  match g with
  | 123 => (match xs with
    | [.str a0] => c1 a0 (fun r0 => κ [.int .i64 r0])
    | _ => none)
  | _ => none
def letter_rules_4_0.h (n : Nat) : Option (List (Nat × List (Nat × Nat))) :=
  match n with
  | _ => none
def letter_rules_4_0.C (R : Type) (c1 : letter_answered_0.F R) : Cfg R := ⟨tabTy tyL, letter_rules_4_0.Γ c1, fun _ => false, letter_rules_4_0.h⟩
theorem letter_rules_4_0.c (R : Type) (c1 : letter_answered_0.F R) (κ : List SV → Option R) (k : Nat) (a0 : ByteArray) :
    runF (letter_rules_4_0.C R c1) Tryz.f122 10000 k [.str a0] κ = letter_rules_4_0.e c1 a0 (fun r0 r1 => κ [.tup [.str r0, .bool r1]]) := by kernel_rfl
theorem letter_rules_4_0.run (R : Type) (κ : List SV → Option R) (a0 : ByteArray) :
    runF (letter_rules_4_0.C R letter_answered_0) Tryz.f122 10000 fuelK [.str a0] κ = letter_rules_4_0 a0 (fun r0 r1 => κ [.tup [.str r0, .bool r1]]) := by
  rw [letter_rules_4_0.c]
  rfl
theorem letter_rules_4_0.Γ_does {R : Type} (tab : Tab) (ht : TabOk tab) (g : Nat) : Does (R := R) Tryz.prog (tabTy tyL) tab g ((letter_rules_4_0.C R letter_answered_0).call g) := by
  refine does_of fun xs κ => ?_
  show DoesAt _ _ _ g xs κ (letter_rules_4_0.Γ letter_answered_0 g xs κ)
  unfold letter_rules_4_0.Γ
  split
  · split
    · exact letter_answered_0.does tab ht _ κ
    · exact DoesAt.none
  · exact DoesAt.none
theorem letter_rules_4_0.does {R : Type} (tab : Tab) (ht : TabOk tab) (a0 : ByteArray) (κ : List SV → Option R) : DoesAt Tryz.prog (tabTy tyL) tab 122 [.str a0] κ (letter_rules_4_0 a0 (fun r0 r1 => κ [.tup [.str r0, .bool r1]])) := by
  intro r h w vs Rt Ra bs hpre
  exact runF_sound tyOk (letter_rules_4_0.Γ_does tab ht) (show Tryz.prog.funcs[122]? = some Tryz.f122 by kernel_rfl) (by kernel_rfl) ((letter_rules_4_0.run R κ a0).trans h) hpre
def stringslite_CutPrefix_0.Γ {R : Type} (c1 : stringslite_HasPrefix_0.F R) (g : Nat) (xs : List SV) (κ : List SV → Option R) : Option R :=
  match g with
  | 129 => (match xs with
    | [.str a0, .str a1] => c1 a0 a1 (fun r0 => κ [.bool r0])
    | _ => none)
  | _ => none
def stringslite_CutPrefix_0.h (n : Nat) : Option (List (Nat × List (Nat × Nat))) :=
  match n with
  | _ => none
def stringslite_CutPrefix_0.C (R : Type) (c1 : stringslite_HasPrefix_0.F R) : Cfg R := ⟨tabTy tyL, stringslite_CutPrefix_0.Γ c1, fun _ => false, stringslite_CutPrefix_0.h⟩
theorem stringslite_CutPrefix_0.c (R : Type) (c1 : stringslite_HasPrefix_0.F R) (κ : List SV → Option R) (k : Nat) (a0 : ByteArray) (a1 : ByteArray) :
    runF (stringslite_CutPrefix_0.C R c1) Tryz.f148 10000 k [.str a0, .str a1] κ = stringslite_CutPrefix_0.e c1 a0 a1 (fun r0 r1 => κ [.tup [.str r0, .bool r1]]) := by kernel_rfl
theorem stringslite_CutPrefix_0.run (R : Type) (κ : List SV → Option R) (a0 : ByteArray) (a1 : ByteArray) :
    runF (stringslite_CutPrefix_0.C R stringslite_HasPrefix_0) Tryz.f148 10000 fuelK [.str a0, .str a1] κ = stringslite_CutPrefix_0 a0 a1 (fun r0 r1 => κ [.tup [.str r0, .bool r1]]) := by
  rw [stringslite_CutPrefix_0.c]
  rfl
theorem stringslite_CutPrefix_0.Γ_does {R : Type} (tab : Tab) (ht : TabOk tab) (g : Nat) : Does (R := R) Tryz.prog (tabTy tyL) tab g ((stringslite_CutPrefix_0.C R stringslite_HasPrefix_0).call g) := by
  refine does_of fun xs κ => ?_
  show DoesAt _ _ _ g xs κ (stringslite_CutPrefix_0.Γ stringslite_HasPrefix_0 g xs κ)
  unfold stringslite_CutPrefix_0.Γ
  split
  · split
    · exact stringslite_HasPrefix_0.does tab ht _ _ κ
    · exact DoesAt.none
  · exact DoesAt.none
theorem stringslite_CutPrefix_0.does {R : Type} (tab : Tab) (ht : TabOk tab) (a0 : ByteArray) (a1 : ByteArray) (κ : List SV → Option R) : DoesAt Tryz.prog (tabTy tyL) tab 148 [.str a0, .str a1] κ (stringslite_CutPrefix_0 a0 a1 (fun r0 r1 => κ [.tup [.str r0, .bool r1]])) := by
  intro r h w vs Rt Ra bs hpre
  exact runF_sound tyOk (stringslite_CutPrefix_0.Γ_does tab ht) (show Tryz.prog.funcs[148]? = some Tryz.f148 by kernel_rfl) (by kernel_rfl) ((stringslite_CutPrefix_0.run R κ a0 a1).trans h) hpre
def strings_CutPrefix_0.Γ {R : Type} (c1 : stringslite_CutPrefix_0.F R) (g : Nat) (xs : List SV) (κ : List SV → Option R) : Option R :=
  match g with
  | 148 => (match xs with
    | [.str a0, .str a1] => c1 a0 a1 (fun r0 r1 => κ [.tup [.str r0, .bool r1]])
    | _ => none)
  | _ => none
def strings_CutPrefix_0.h (n : Nat) : Option (List (Nat × List (Nat × Nat))) :=
  match n with
  | _ => none
def strings_CutPrefix_0.C (R : Type) (c1 : stringslite_CutPrefix_0.F R) : Cfg R := ⟨tabTy tyL, strings_CutPrefix_0.Γ c1, fun _ => false, strings_CutPrefix_0.h⟩
theorem strings_CutPrefix_0.c (R : Type) (c1 : stringslite_CutPrefix_0.F R) (κ : List SV → Option R) (k : Nat) (a0 : ByteArray) (a1 : ByteArray) :
    runF (strings_CutPrefix_0.C R c1) Tryz.f121 10000 k [.str a0, .str a1] κ = strings_CutPrefix_0.e c1 a0 a1 (fun r0 r1 => κ [.tup [.str r0, .bool r1]]) := by kernel_rfl
theorem strings_CutPrefix_0.run (R : Type) (κ : List SV → Option R) (a0 : ByteArray) (a1 : ByteArray) :
    runF (strings_CutPrefix_0.C R stringslite_CutPrefix_0) Tryz.f121 10000 fuelK [.str a0, .str a1] κ = strings_CutPrefix_0 a0 a1 (fun r0 r1 => κ [.tup [.str r0, .bool r1]]) := by
  rw [strings_CutPrefix_0.c]
  rfl
theorem strings_CutPrefix_0.Γ_does {R : Type} (tab : Tab) (ht : TabOk tab) (g : Nat) : Does (R := R) Tryz.prog (tabTy tyL) tab g ((strings_CutPrefix_0.C R stringslite_CutPrefix_0).call g) := by
  refine does_of fun xs κ => ?_
  show DoesAt _ _ _ g xs κ (strings_CutPrefix_0.Γ stringslite_CutPrefix_0 g xs κ)
  unfold strings_CutPrefix_0.Γ
  split
  · split
    · exact stringslite_CutPrefix_0.does tab ht _ _ κ
    · exact DoesAt.none
  · exact DoesAt.none
theorem strings_CutPrefix_0.does {R : Type} (tab : Tab) (ht : TabOk tab) (a0 : ByteArray) (a1 : ByteArray) (κ : List SV → Option R) : DoesAt Tryz.prog (tabTy tyL) tab 121 [.str a0, .str a1] κ (strings_CutPrefix_0 a0 a1 (fun r0 r1 => κ [.tup [.str r0, .bool r1]])) := by
  intro r h w vs Rt Ra bs hpre
  exact runF_sound tyOk (strings_CutPrefix_0.Γ_does tab ht) (show Tryz.prog.funcs[121]? = some Tryz.f121 by kernel_rfl) (by kernel_rfl) ((strings_CutPrefix_0.run R κ a0 a1).trans h) hpre
def letter_rules_3_0.Γ {R : Type} (c1 : strings_CutPrefix_0.F R) (g : Nat) (xs : List SV) (κ : List SV → Option R) : Option R :=
  match g with
  | 121 => (match xs with
    | [.str a0, .str a1] => c1 a0 a1 (fun r0 r1 => κ [.tup [.str r0, .bool r1]])
    | _ => none)
  | _ => none
def letter_rules_3_0.h (n : Nat) : Option (List (Nat × List (Nat × Nat))) :=
  match n with
  | _ => none
def letter_rules_3_0.C (R : Type) (c1 : strings_CutPrefix_0.F R) : Cfg R := ⟨tabTy tyL, letter_rules_3_0.Γ c1, fun _ => false, letter_rules_3_0.h⟩
theorem letter_rules_3_0.c (R : Type) (c1 : strings_CutPrefix_0.F R) (κ : List SV → Option R) (k : Nat) (a0 : ByteArray) :
    runF (letter_rules_3_0.C R c1) Tryz.f120 10000 k [.str a0] κ = letter_rules_3_0.e c1 a0 (fun r0 r1 => κ [.tup [.str r0, .bool r1]]) := by kernel_rfl
theorem letter_rules_3_0.run (R : Type) (κ : List SV → Option R) (a0 : ByteArray) :
    runF (letter_rules_3_0.C R strings_CutPrefix_0) Tryz.f120 10000 fuelK [.str a0] κ = letter_rules_3_0 a0 (fun r0 r1 => κ [.tup [.str r0, .bool r1]]) := by
  rw [letter_rules_3_0.c]
  rfl
theorem letter_rules_3_0.Γ_does {R : Type} (tab : Tab) (ht : TabOk tab) (g : Nat) : Does (R := R) Tryz.prog (tabTy tyL) tab g ((letter_rules_3_0.C R strings_CutPrefix_0).call g) := by
  refine does_of fun xs κ => ?_
  show DoesAt _ _ _ g xs κ (letter_rules_3_0.Γ strings_CutPrefix_0 g xs κ)
  unfold letter_rules_3_0.Γ
  split
  · split
    · exact strings_CutPrefix_0.does tab ht _ _ κ
    · exact DoesAt.none
  · exact DoesAt.none
theorem letter_rules_3_0.does {R : Type} (tab : Tab) (ht : TabOk tab) (a0 : ByteArray) (κ : List SV → Option R) : DoesAt Tryz.prog (tabTy tyL) tab 120 [.str a0] κ (letter_rules_3_0 a0 (fun r0 r1 => κ [.tup [.str r0, .bool r1]])) := by
  intro r h w vs Rt Ra bs hpre
  exact runF_sound tyOk (letter_rules_3_0.Γ_does tab ht) (show Tryz.prog.funcs[120]? = some Tryz.f120 by kernel_rfl) (by kernel_rfl) ((letter_rules_3_0.run R κ a0).trans h) hpre
def letter_rules_2_0.Γ {R : Type} (c1 : octet_Same_0.F R) (g : Nat) (xs : List SV) (κ : List SV → Option R) : Option R :=
  match g with
  | 46 => (match xs with
    | [.str a0, .str a1] => c1 a0 a1 (fun r0 => κ [.bool r0])
    | _ => none)
  | _ => none
def letter_rules_2_0.h (n : Nat) : Option (List (Nat × List (Nat × Nat))) :=
  match n with
  | _ => none
def letter_rules_2_0.C (R : Type) (c1 : octet_Same_0.F R) : Cfg R := ⟨tabTy tyL, letter_rules_2_0.Γ c1, fun _ => false, letter_rules_2_0.h⟩
theorem letter_rules_2_0.c (R : Type) (c1 : octet_Same_0.F R) (κ : List SV → Option R) (k : Nat) (a0 : ByteArray) :
    runF (letter_rules_2_0.C R c1) Tryz.f119 10000 k [.str a0] κ = letter_rules_2_0.e c1 a0 (fun r0 r1 => κ [.tup [.str r0, .bool r1]]) := by kernel_rfl
theorem letter_rules_2_0.run (R : Type) (κ : List SV → Option R) (a0 : ByteArray) :
    runF (letter_rules_2_0.C R octet_Same_0) Tryz.f119 10000 fuelK [.str a0] κ = letter_rules_2_0 a0 (fun r0 r1 => κ [.tup [.str r0, .bool r1]]) := by
  rw [letter_rules_2_0.c]
  rfl
theorem letter_rules_2_0.Γ_does {R : Type} (tab : Tab) (ht : TabOk tab) (g : Nat) : Does (R := R) Tryz.prog (tabTy tyL) tab g ((letter_rules_2_0.C R octet_Same_0).call g) := by
  refine does_of fun xs κ => ?_
  show DoesAt _ _ _ g xs κ (letter_rules_2_0.Γ octet_Same_0 g xs κ)
  unfold letter_rules_2_0.Γ
  split
  · split
    · exact octet_Same_0.does tab ht _ _ κ
    · exact DoesAt.none
  · exact DoesAt.none
theorem letter_rules_2_0.does {R : Type} (tab : Tab) (ht : TabOk tab) (a0 : ByteArray) (κ : List SV → Option R) : DoesAt Tryz.prog (tabTy tyL) tab 119 [.str a0] κ (letter_rules_2_0 a0 (fun r0 r1 => κ [.tup [.str r0, .bool r1]])) := by
  intro r h w vs Rt Ra bs hpre
  exact runF_sound tyOk (letter_rules_2_0.Γ_does tab ht) (show Tryz.prog.funcs[119]? = some Tryz.f119 by kernel_rfl) (by kernel_rfl) ((letter_rules_2_0.run R κ a0).trans h) hpre
def stringslite_CutSuffix_0.Γ {R : Type} (c1 : stringslite_HasSuffix_0.F R) (g : Nat) (xs : List SV) (κ : List SV → Option R) : Option R :=
  match g with
  | 100 => (match xs with
    | [.str a0, .str a1] => c1 a0 a1 (fun r0 => κ [.bool r0])
    | _ => none)
  | _ => none
def stringslite_CutSuffix_0.h (n : Nat) : Option (List (Nat × List (Nat × Nat))) :=
  match n with
  | _ => none
def stringslite_CutSuffix_0.C (R : Type) (c1 : stringslite_HasSuffix_0.F R) : Cfg R := ⟨tabTy tyL, stringslite_CutSuffix_0.Γ c1, fun _ => false, stringslite_CutSuffix_0.h⟩
theorem stringslite_CutSuffix_0.c (R : Type) (c1 : stringslite_HasSuffix_0.F R) (κ : List SV → Option R) (k : Nat) (a0 : ByteArray) (a1 : ByteArray) :
    runF (stringslite_CutSuffix_0.C R c1) Tryz.f147 10000 k [.str a0, .str a1] κ = stringslite_CutSuffix_0.e c1 a0 a1 (fun r0 r1 => κ [.tup [.str r0, .bool r1]]) := by kernel_rfl
theorem stringslite_CutSuffix_0.run (R : Type) (κ : List SV → Option R) (a0 : ByteArray) (a1 : ByteArray) :
    runF (stringslite_CutSuffix_0.C R stringslite_HasSuffix_0) Tryz.f147 10000 fuelK [.str a0, .str a1] κ = stringslite_CutSuffix_0 a0 a1 (fun r0 r1 => κ [.tup [.str r0, .bool r1]]) := by
  rw [stringslite_CutSuffix_0.c]
  rfl
theorem stringslite_CutSuffix_0.Γ_does {R : Type} (tab : Tab) (ht : TabOk tab) (g : Nat) : Does (R := R) Tryz.prog (tabTy tyL) tab g ((stringslite_CutSuffix_0.C R stringslite_HasSuffix_0).call g) := by
  refine does_of fun xs κ => ?_
  show DoesAt _ _ _ g xs κ (stringslite_CutSuffix_0.Γ stringslite_HasSuffix_0 g xs κ)
  unfold stringslite_CutSuffix_0.Γ
  split
  · split
    · exact stringslite_HasSuffix_0.does tab ht _ _ κ
    · exact DoesAt.none
  · exact DoesAt.none
theorem stringslite_CutSuffix_0.does {R : Type} (tab : Tab) (ht : TabOk tab) (a0 : ByteArray) (a1 : ByteArray) (κ : List SV → Option R) : DoesAt Tryz.prog (tabTy tyL) tab 147 [.str a0, .str a1] κ (stringslite_CutSuffix_0 a0 a1 (fun r0 r1 => κ [.tup [.str r0, .bool r1]])) := by
  intro r h w vs Rt Ra bs hpre
  exact runF_sound tyOk (stringslite_CutSuffix_0.Γ_does tab ht) (show Tryz.prog.funcs[147]? = some Tryz.f147 by kernel_rfl) (by kernel_rfl) ((stringslite_CutSuffix_0.run R κ a0 a1).trans h) hpre
def strings_CutSuffix_0.Γ {R : Type} (c1 : stringslite_CutSuffix_0.F R) (g : Nat) (xs : List SV) (κ : List SV → Option R) : Option R :=
  match g with
  | 147 => (match xs with
    | [.str a0, .str a1] => c1 a0 a1 (fun r0 r1 => κ [.tup [.str r0, .bool r1]])
    | _ => none)
  | _ => none
def strings_CutSuffix_0.h (n : Nat) : Option (List (Nat × List (Nat × Nat))) :=
  match n with
  | _ => none
def strings_CutSuffix_0.C (R : Type) (c1 : stringslite_CutSuffix_0.F R) : Cfg R := ⟨tabTy tyL, strings_CutSuffix_0.Γ c1, fun _ => false, strings_CutSuffix_0.h⟩
theorem strings_CutSuffix_0.c (R : Type) (c1 : stringslite_CutSuffix_0.F R) (κ : List SV → Option R) (k : Nat) (a0 : ByteArray) (a1 : ByteArray) :
    runF (strings_CutSuffix_0.C R c1) Tryz.f118 10000 k [.str a0, .str a1] κ = strings_CutSuffix_0.e c1 a0 a1 (fun r0 r1 => κ [.tup [.str r0, .bool r1]]) := by kernel_rfl
theorem strings_CutSuffix_0.run (R : Type) (κ : List SV → Option R) (a0 : ByteArray) (a1 : ByteArray) :
    runF (strings_CutSuffix_0.C R stringslite_CutSuffix_0) Tryz.f118 10000 fuelK [.str a0, .str a1] κ = strings_CutSuffix_0 a0 a1 (fun r0 r1 => κ [.tup [.str r0, .bool r1]]) := by
  rw [strings_CutSuffix_0.c]
  rfl
theorem strings_CutSuffix_0.Γ_does {R : Type} (tab : Tab) (ht : TabOk tab) (g : Nat) : Does (R := R) Tryz.prog (tabTy tyL) tab g ((strings_CutSuffix_0.C R stringslite_CutSuffix_0).call g) := by
  refine does_of fun xs κ => ?_
  show DoesAt _ _ _ g xs κ (strings_CutSuffix_0.Γ stringslite_CutSuffix_0 g xs κ)
  unfold strings_CutSuffix_0.Γ
  split
  · split
    · exact stringslite_CutSuffix_0.does tab ht _ _ κ
    · exact DoesAt.none
  · exact DoesAt.none
theorem strings_CutSuffix_0.does {R : Type} (tab : Tab) (ht : TabOk tab) (a0 : ByteArray) (a1 : ByteArray) (κ : List SV → Option R) : DoesAt Tryz.prog (tabTy tyL) tab 118 [.str a0, .str a1] κ (strings_CutSuffix_0 a0 a1 (fun r0 r1 => κ [.tup [.str r0, .bool r1]])) := by
  intro r h w vs Rt Ra bs hpre
  exact runF_sound tyOk (strings_CutSuffix_0.Γ_does tab ht) (show Tryz.prog.funcs[118]? = some Tryz.f118 by kernel_rfl) (by kernel_rfl) ((strings_CutSuffix_0.run R κ a0 a1).trans h) hpre
def letter_rules_1_0.Γ {R : Type} (c1 : strings_CutSuffix_0.F R) (g : Nat) (xs : List SV) (κ : List SV → Option R) : Option R :=
  match g with
  | 118 => (match xs with
    | [.str a0, .str a1] => c1 a0 a1 (fun r0 r1 => κ [.tup [.str r0, .bool r1]])
    | _ => none)
  | _ => none
def letter_rules_1_0.h (n : Nat) : Option (List (Nat × List (Nat × Nat))) :=
  match n with
  | _ => none
def letter_rules_1_0.C (R : Type) (c1 : strings_CutSuffix_0.F R) : Cfg R := ⟨tabTy tyL, letter_rules_1_0.Γ c1, fun _ => false, letter_rules_1_0.h⟩
theorem letter_rules_1_0.c (R : Type) (c1 : strings_CutSuffix_0.F R) (κ : List SV → Option R) (k : Nat) (a0 : ByteArray) :
    runF (letter_rules_1_0.C R c1) Tryz.f117 10000 k [.str a0] κ = letter_rules_1_0.e c1 a0 (fun r0 r1 => κ [.tup [.str r0, .bool r1]]) := by kernel_rfl
theorem letter_rules_1_0.run (R : Type) (κ : List SV → Option R) (a0 : ByteArray) :
    runF (letter_rules_1_0.C R strings_CutSuffix_0) Tryz.f117 10000 fuelK [.str a0] κ = letter_rules_1_0 a0 (fun r0 r1 => κ [.tup [.str r0, .bool r1]]) := by
  rw [letter_rules_1_0.c]
  rfl
theorem letter_rules_1_0.Γ_does {R : Type} (tab : Tab) (ht : TabOk tab) (g : Nat) : Does (R := R) Tryz.prog (tabTy tyL) tab g ((letter_rules_1_0.C R strings_CutSuffix_0).call g) := by
  refine does_of fun xs κ => ?_
  show DoesAt _ _ _ g xs κ (letter_rules_1_0.Γ strings_CutSuffix_0 g xs κ)
  unfold letter_rules_1_0.Γ
  split
  · split
    · exact strings_CutSuffix_0.does tab ht _ _ κ
    · exact DoesAt.none
  · exact DoesAt.none
theorem letter_rules_1_0.does {R : Type} (tab : Tab) (ht : TabOk tab) (a0 : ByteArray) (κ : List SV → Option R) : DoesAt Tryz.prog (tabTy tyL) tab 117 [.str a0] κ (letter_rules_1_0 a0 (fun r0 r1 => κ [.tup [.str r0, .bool r1]])) := by
  intro r h w vs Rt Ra bs hpre
  exact runF_sound tyOk (letter_rules_1_0.Γ_does tab ht) (show Tryz.prog.funcs[117]? = some Tryz.f117 by kernel_rfl) (by kernel_rfl) ((letter_rules_1_0.run R κ a0).trans h) hpre
def letter_Base_0.Γ {R : Type} (c1 : letter_Words_0.F R) (c2 : letter_one_0.F R) (c3 : letter_rules_0.F R) (c4 : letter_rules_6_0.F R) (c5 : letter_rules_5_0.F R) (c6 : letter_rules_4_0.F R) (c7 : letter_rules_3_0.F R) (c8 : letter_rules_2_0.F R) (c9 : letter_rules_1_0.F R) (g : Nat) (xs : List SV) (κ : List SV → Option R) : Option R :=
  match g with
  | 19 => (match xs with
    | [.str a0] => c1 a0 (fun r0 => κ [.str r0])
    | _ => none)
  | 73 => (match xs with
    | [.str a0] => c2 a0 (fun r0 => κ [.str r0])
    | _ => none)
  | 74 => (match xs with
    | [] => c3 (fun r0 r1 r2 r3 r4 r5 => κ [.agg [.fn 117, .bool r0, .fn 119, .bool r1, .fn 120, .bool r2, .fn 122, .bool r3, .fn 124, .bool r4, .fn 126, .bool r5]])
    | _ => none)
  | 117 => (match xs with
    | [.str a0] => c9 a0 (fun r0 r1 => κ [.tup [.str r0, .bool r1]])
    | _ => none)
  | 119 => (match xs with
    | [.str a0] => c8 a0 (fun r0 r1 => κ [.tup [.str r0, .bool r1]])
    | _ => none)
  | 120 => (match xs with
    | [.str a0] => c7 a0 (fun r0 r1 => κ [.tup [.str r0, .bool r1]])
    | _ => none)
  | 122 => (match xs with
    | [.str a0] => c6 a0 (fun r0 r1 => κ [.tup [.str r0, .bool r1]])
    | _ => none)
  | 124 => (match xs with
    | [.str a0] => c5 a0 (fun r0 r1 => κ [.tup [.str r0, .bool r1]])
    | _ => none)
  | 126 => (match xs with
    | [.str a0] => c4 a0 (fun r0 r1 => κ [.tup [.str r0, .bool r1]])
    | _ => none)
  | _ => none
def letter_Base_0.h (n : Nat) : Option (List (Nat × List (Nat × Nat))) :=
  match n with
  | 3 => some [(4, [(0, 0)]), (5, [(0, 0)])]
  | 4 => some [(4, [(0, 0)]), (5, [(0, 0)]), (13, [(0, 0)]), (14, [(0, 0)])]
  | _ => none
def letter_Base_0.C (R : Type) (c1 : letter_Words_0.F R) (c2 : letter_one_0.F R) (c3 : letter_rules_0.F R) (c4 : letter_rules_6_0.F R) (c5 : letter_rules_5_0.F R) (c6 : letter_rules_4_0.F R) (c7 : letter_rules_3_0.F R) (c8 : letter_rules_2_0.F R) (c9 : letter_rules_1_0.F R) : Cfg R := ⟨tabTy tyL, letter_Base_0.Γ c1 c2 c3 c4 c5 c6 c7 c8 c9, fun _ => false, letter_Base_0.h⟩
def letter_Base_0.s3 (x0 : ByteArray) (x1 : Bool) : St := ⟨mkS 34 [(4, .str x0), (5, .bool x1)], [], top⟩
def letter_Base_0.s4 (x0 : ByteArray) (x1 : Bool) (x2 : Bool) (x3 : Bool) (x4 : Bool) (x5 : Bool) (x6 : Bool) (x7 : Bool) (x8 : Int) : St := ⟨mkS 34 [(4, .str x0), (5, .bool x1), (13, .agg [.fn 117, .bool x2, .fn 119, .bool x3, .fn 120, .bool x4, .fn 122, .bool x5, .fn 124, .bool x6, .fn 126, .bool x7]), (14, .int .i64 x8)], [], top⟩
theorem letter_Base_0.c3 (R : Type) (c1 : letter_Words_0.F R) (c2 : letter_one_0.F R) (c3 : letter_rules_0.F R) (c4 : letter_rules_6_0.F R) (c5 : letter_rules_5_0.F R) (c6 : letter_rules_4_0.F R) (c7 : letter_rules_3_0.F R) (c8 : letter_rules_2_0.F R) (c9 : letter_rules_1_0.F R) (J : List Item → St → Option R) (κ : List SV → Option R) (x0 : ByteArray) (x1 : Bool) :
    start (letter_Base_0.C R c1 c2 c3 c4 c5 c6 c7 c8 c9) J (retK (letter_Base_0.C R c1 c2 c3 c4 c5 c6 c7 c8 c9) Tryz.f25.results.toList (List.range 0) κ) 10000 (placeOf Tryz.f25 3) (letter_Base_0.s3 x0 x1) = letter_Base_0.t3 c1 c2 c3 c4 c5 c6 c7 c8 c9 x0 x1 (fun y0 y1 => J (placeOf Tryz.f25 3) (letter_Base_0.s3 y0 y1)) (fun y0 y1 y2 y3 y4 y5 y6 y7 y8 => J (placeOf Tryz.f25 4) (letter_Base_0.s4 y0 y1 y2 y3 y4 y5 y6 y7 y8)) (fun r0 r1 => κ [.tup [.str r0, .bool r1]]) := by kernel_rfl
theorem letter_Base_0.c4 (R : Type) (c1 : letter_Words_0.F R) (c2 : letter_one_0.F R) (c3 : letter_rules_0.F R) (c4 : letter_rules_6_0.F R) (c5 : letter_rules_5_0.F R) (c6 : letter_rules_4_0.F R) (c7 : letter_rules_3_0.F R) (c8 : letter_rules_2_0.F R) (c9 : letter_rules_1_0.F R) (J : List Item → St → Option R) (κ : List SV → Option R) (x0 : ByteArray) (x1 : Bool) (x2 : Bool) (x3 : Bool) (x4 : Bool) (x5 : Bool) (x6 : Bool) (x7 : Bool) (x8 : Int) :
    start (letter_Base_0.C R c1 c2 c3 c4 c5 c6 c7 c8 c9) J (retK (letter_Base_0.C R c1 c2 c3 c4 c5 c6 c7 c8 c9) Tryz.f25.results.toList (List.range 0) κ) 10000 (placeOf Tryz.f25 4) (letter_Base_0.s4 x0 x1 x2 x3 x4 x5 x6 x7 x8) = letter_Base_0.t4 c1 c2 c3 c4 c5 c6 c7 c8 c9 x0 x1 x2 x3 x4 x5 x6 x7 x8 (fun y0 y1 => J (placeOf Tryz.f25 3) (letter_Base_0.s3 y0 y1)) (fun y0 y1 y2 y3 y4 y5 y6 y7 y8 => J (placeOf Tryz.f25 4) (letter_Base_0.s4 y0 y1 y2 y3 y4 y5 y6 y7 y8)) (fun r0 r1 => κ [.tup [.str r0, .bool r1]]) := by kernel_rfl
theorem letter_Base_0.c (R : Type) (c1 : letter_Words_0.F R) (c2 : letter_one_0.F R) (c3 : letter_rules_0.F R) (c4 : letter_rules_6_0.F R) (c5 : letter_rules_5_0.F R) (c6 : letter_rules_4_0.F R) (c7 : letter_rules_3_0.F R) (c8 : letter_rules_2_0.F R) (c9 : letter_rules_1_0.F R) (κ : List SV → Option R) (k : Nat) (a0 : ByteArray) :
    runF (letter_Base_0.C R c1 c2 c3 c4 c5 c6 c7 c8 c9) Tryz.f25 10000 k [.str a0] κ = letter_Base_0.e c1 c2 c3 c4 c5 c6 c7 c8 c9 a0 (fun y0 y1 => goto (letter_Base_0.C R c1 c2 c3 c4 c5 c6 c7 c8 c9) (retK (letter_Base_0.C R c1 c2 c3 c4 c5 c6 c7 c8 c9) Tryz.f25.results.toList (List.range 0) κ) 10000 k (placeOf Tryz.f25 3) (letter_Base_0.s3 y0 y1)) (fun y0 y1 y2 y3 y4 y5 y6 y7 y8 => goto (letter_Base_0.C R c1 c2 c3 c4 c5 c6 c7 c8 c9) (retK (letter_Base_0.C R c1 c2 c3 c4 c5 c6 c7 c8 c9) Tryz.f25.results.toList (List.range 0) κ) 10000 k (placeOf Tryz.f25 4) (letter_Base_0.s4 y0 y1 y2 y3 y4 y5 y6 y7 y8)) (fun r0 r1 => κ [.tup [.str r0, .bool r1]]) := by kernel_rfl
theorem letter_Base_0.gM3 (R : Type) (c1 : letter_Words_0.F R) (c2 : letter_one_0.F R) (c3 : letter_rules_0.F R) (c4 : letter_rules_6_0.F R) (c5 : letter_rules_5_0.F R) (c6 : letter_rules_4_0.F R) (c7 : letter_rules_3_0.F R) (c8 : letter_rules_2_0.F R) (c9 : letter_rules_1_0.F R) (κ : List SV → Option R) : ∀ (f : Nat), (∀ (x0 : ByteArray) (x1 : Bool), goto (letter_Base_0.C R c1 c2 c3 c4 c5 c6 c7 c8 c9) (retK (letter_Base_0.C R c1 c2 c3 c4 c5 c6 c7 c8 c9) Tryz.f25.results.toList (List.range 0) κ) 10000 f (placeOf Tryz.f25 3) (letter_Base_0.s3 x0 x1) = letter_Base_0.L3 c1 c2 c3 c4 c5 c6 c7 c8 c9 (fun r0 r1 => κ [.tup [.str r0, .bool r1]]) f x0 x1) ∧
    (∀ (x0 : ByteArray) (x1 : Bool) (x2 : Bool) (x3 : Bool) (x4 : Bool) (x5 : Bool) (x6 : Bool) (x7 : Bool) (x8 : Int), goto (letter_Base_0.C R c1 c2 c3 c4 c5 c6 c7 c8 c9) (retK (letter_Base_0.C R c1 c2 c3 c4 c5 c6 c7 c8 c9) Tryz.f25.results.toList (List.range 0) κ) 10000 f (placeOf Tryz.f25 4) (letter_Base_0.s4 x0 x1 x2 x3 x4 x5 x6 x7 x8) = letter_Base_0.L4 c1 c2 c3 c4 c5 c6 c7 c8 c9 (fun r0 r1 => κ [.tup [.str r0, .bool r1]]) f x0 x1 x2 x3 x4 x5 x6 x7 x8)
  | 0 => ⟨fun _ _ => rfl, fun _ _ _ _ _ _ _ _ _ => rfl⟩
  | f + 1 => by
    obtain ⟨ih0, ih1⟩ := letter_Base_0.gM3 R c1 c2 c3 c4 c5 c6 c7 c8 c9 κ f
    refine ⟨?_, ?_⟩
    · intro x0 x1
      show start (letter_Base_0.C R c1 c2 c3 c4 c5 c6 c7 c8 c9) (goto (letter_Base_0.C R c1 c2 c3 c4 c5 c6 c7 c8 c9) (retK (letter_Base_0.C R c1 c2 c3 c4 c5 c6 c7 c8 c9) Tryz.f25.results.toList (List.range 0) κ) 10000 f) (retK (letter_Base_0.C R c1 c2 c3 c4 c5 c6 c7 c8 c9) Tryz.f25.results.toList (List.range 0) κ) 10000 (placeOf Tryz.f25 3) (letter_Base_0.s3 x0 x1) = _
      rw [letter_Base_0.c3]
      simp only [ih0, ih1]
      rfl
    · intro x0 x1 x2 x3 x4 x5 x6 x7 x8
      show start (letter_Base_0.C R c1 c2 c3 c4 c5 c6 c7 c8 c9) (goto (letter_Base_0.C R c1 c2 c3 c4 c5 c6 c7 c8 c9) (retK (letter_Base_0.C R c1 c2 c3 c4 c5 c6 c7 c8 c9) Tryz.f25.results.toList (List.range 0) κ) 10000 f) (retK (letter_Base_0.C R c1 c2 c3 c4 c5 c6 c7 c8 c9) Tryz.f25.results.toList (List.range 0) κ) 10000 (placeOf Tryz.f25 4) (letter_Base_0.s4 x0 x1 x2 x3 x4 x5 x6 x7 x8) = _
      rw [letter_Base_0.c4]
      simp only [ih0, ih1]
      rfl
theorem letter_Base_0.g3 (R : Type) (c1 : letter_Words_0.F R) (c2 : letter_one_0.F R) (c3 : letter_rules_0.F R) (c4 : letter_rules_6_0.F R) (c5 : letter_rules_5_0.F R) (c6 : letter_rules_4_0.F R) (c7 : letter_rules_3_0.F R) (c8 : letter_rules_2_0.F R) (c9 : letter_rules_1_0.F R) (κ : List SV → Option R) (f : Nat) (x0 : ByteArray) (x1 : Bool) : goto (letter_Base_0.C R c1 c2 c3 c4 c5 c6 c7 c8 c9) (retK (letter_Base_0.C R c1 c2 c3 c4 c5 c6 c7 c8 c9) Tryz.f25.results.toList (List.range 0) κ) 10000 f (placeOf Tryz.f25 3) (letter_Base_0.s3 x0 x1) = letter_Base_0.L3 c1 c2 c3 c4 c5 c6 c7 c8 c9 (fun r0 r1 => κ [.tup [.str r0, .bool r1]]) f x0 x1 := (letter_Base_0.gM3 R c1 c2 c3 c4 c5 c6 c7 c8 c9 κ f).1 x0 x1
theorem letter_Base_0.g4 (R : Type) (c1 : letter_Words_0.F R) (c2 : letter_one_0.F R) (c3 : letter_rules_0.F R) (c4 : letter_rules_6_0.F R) (c5 : letter_rules_5_0.F R) (c6 : letter_rules_4_0.F R) (c7 : letter_rules_3_0.F R) (c8 : letter_rules_2_0.F R) (c9 : letter_rules_1_0.F R) (κ : List SV → Option R) (f : Nat) (x0 : ByteArray) (x1 : Bool) (x2 : Bool) (x3 : Bool) (x4 : Bool) (x5 : Bool) (x6 : Bool) (x7 : Bool) (x8 : Int) : goto (letter_Base_0.C R c1 c2 c3 c4 c5 c6 c7 c8 c9) (retK (letter_Base_0.C R c1 c2 c3 c4 c5 c6 c7 c8 c9) Tryz.f25.results.toList (List.range 0) κ) 10000 f (placeOf Tryz.f25 4) (letter_Base_0.s4 x0 x1 x2 x3 x4 x5 x6 x7 x8) = letter_Base_0.L4 c1 c2 c3 c4 c5 c6 c7 c8 c9 (fun r0 r1 => κ [.tup [.str r0, .bool r1]]) f x0 x1 x2 x3 x4 x5 x6 x7 x8 := (letter_Base_0.gM3 R c1 c2 c3 c4 c5 c6 c7 c8 c9 κ f).2 x0 x1 x2 x3 x4 x5 x6 x7 x8
theorem letter_Base_0.run (R : Type) (κ : List SV → Option R) (a0 : ByteArray) :
    runF (letter_Base_0.C R letter_Words_0 letter_one_0 letter_rules_0 letter_rules_6_0 letter_rules_5_0 letter_rules_4_0 letter_rules_3_0 letter_rules_2_0 letter_rules_1_0) Tryz.f25 10000 fuelK [.str a0] κ = letter_Base_0 a0 (fun r0 r1 => κ [.tup [.str r0, .bool r1]]) := by
  rw [letter_Base_0.c]
  simp only [letter_Base_0.g3 R letter_Words_0 letter_one_0 letter_rules_0 letter_rules_6_0 letter_rules_5_0 letter_rules_4_0 letter_rules_3_0 letter_rules_2_0 letter_rules_1_0 κ fuelK, letter_Base_0.g4 R letter_Words_0 letter_one_0 letter_rules_0 letter_rules_6_0 letter_rules_5_0 letter_rules_4_0 letter_rules_3_0 letter_rules_2_0 letter_rules_1_0 κ fuelK]
  rfl
theorem letter_Base_0.Γ_does {R : Type} (tab : Tab) (ht : TabOk tab) (g : Nat) : Does (R := R) Tryz.prog (tabTy tyL) tab g ((letter_Base_0.C R letter_Words_0 letter_one_0 letter_rules_0 letter_rules_6_0 letter_rules_5_0 letter_rules_4_0 letter_rules_3_0 letter_rules_2_0 letter_rules_1_0).call g) := by
  refine does_of fun xs κ => ?_
  show DoesAt _ _ _ g xs κ (letter_Base_0.Γ letter_Words_0 letter_one_0 letter_rules_0 letter_rules_6_0 letter_rules_5_0 letter_rules_4_0 letter_rules_3_0 letter_rules_2_0 letter_rules_1_0 g xs κ)
  unfold letter_Base_0.Γ
  split
  · split
    · exact letter_Words_0.does tab ht _ κ
    · exact DoesAt.none
  · split
    · exact letter_one_0.does tab ht _ κ
    · exact DoesAt.none
  · split
    · exact letter_rules_0.does tab ht κ
    · exact DoesAt.none
  · split
    · exact letter_rules_1_0.does tab ht _ κ
    · exact DoesAt.none
  · split
    · exact letter_rules_2_0.does tab ht _ κ
    · exact DoesAt.none
  · split
    · exact letter_rules_3_0.does tab ht _ κ
    · exact DoesAt.none
  · split
    · exact letter_rules_4_0.does tab ht _ κ
    · exact DoesAt.none
  · split
    · exact letter_rules_5_0.does tab ht _ κ
    · exact DoesAt.none
  · split
    · exact letter_rules_6_0.does tab ht _ κ
    · exact DoesAt.none
  · exact DoesAt.none
theorem letter_Base_0.does {R : Type} (tab : Tab) (ht : TabOk tab) (a0 : ByteArray) (κ : List SV → Option R) : DoesAt Tryz.prog (tabTy tyL) tab 25 [.str a0] κ (letter_Base_0 a0 (fun r0 r1 => κ [.tup [.str r0, .bool r1]])) := by
  intro r h w vs Rt Ra bs hpre
  exact runF_sound tyOk (letter_Base_0.Γ_does tab ht) (show Tryz.prog.funcs[25]? = some Tryz.f25 by kernel_rfl) (by kernel_rfl) ((letter_Base_0.run R κ a0).trans h) hpre
def postbagref5_mark_0.Γ {R : Type} (g : Nat) (xs : List SV) (κ : List SV → Option R) : Option R :=
  match g with
  | _ => none
def postbagref5_mark_0.h (n : Nat) : Option (List (Nat × List (Nat × Nat))) :=
  match n with
  | 1 => some [(0, [(0, 0)]), (1, [(0, 0)])]
  | _ => none
def postbagref5_mark_0.C (R : Type) : Cfg R := ⟨tabTy tyL, postbagref5_mark_0.Γ, fun _ => false, postbagref5_mark_0.h⟩
def postbagref5_mark_0.s1 (x0 : ByteArray) (x1 : Int) : St := ⟨mkS 16 [(0, .str x0), (1, .int .i64 x1)], [], top⟩
theorem postbagref5_mark_0.c1 (R : Type) (J : List Item → St → Option R) (κ : List SV → Option R) (x0 : ByteArray) (x1 : Int) :
    start (postbagref5_mark_0.C R) J (retK (postbagref5_mark_0.C R) Tryz.f102.results.toList (List.range 0) κ) 10000 (placeOf Tryz.f102 1) (postbagref5_mark_0.s1 x0 x1) = postbagref5_mark_0.t1 x0 x1 (fun y0 y1 => J (placeOf Tryz.f102 1) (postbagref5_mark_0.s1 y0 y1)) (fun r0 => κ [.int .i64 r0]) := by kernel_rfl
theorem postbagref5_mark_0.c (R : Type) (κ : List SV → Option R) (k : Nat) (a0 : ByteArray) (a1 : Int) :
    runF (postbagref5_mark_0.C R) Tryz.f102 10000 k [.str a0, .int .i64 a1] κ = postbagref5_mark_0.e a0 a1 (fun y0 y1 => goto (postbagref5_mark_0.C R) (retK (postbagref5_mark_0.C R) Tryz.f102.results.toList (List.range 0) κ) 10000 k (placeOf Tryz.f102 1) (postbagref5_mark_0.s1 y0 y1)) (fun r0 => κ [.int .i64 r0]) := by kernel_rfl
theorem postbagref5_mark_0.g1 (R : Type) (κ : List SV → Option R) : ∀ (f : Nat) (x0 : ByteArray) (x1 : Int), goto (postbagref5_mark_0.C R) (retK (postbagref5_mark_0.C R) Tryz.f102.results.toList (List.range 0) κ) 10000 f (placeOf Tryz.f102 1) (postbagref5_mark_0.s1 x0 x1) = postbagref5_mark_0.L1 (fun r0 => κ [.int .i64 r0]) f x0 x1
  | 0, _, _ => rfl
  | f + 1, x0, x1 => by
    show start (postbagref5_mark_0.C R) (goto (postbagref5_mark_0.C R) (retK (postbagref5_mark_0.C R) Tryz.f102.results.toList (List.range 0) κ) 10000 f) (retK (postbagref5_mark_0.C R) Tryz.f102.results.toList (List.range 0) κ) 10000 (placeOf Tryz.f102 1) (postbagref5_mark_0.s1 x0 x1) = _
    rw [postbagref5_mark_0.c1]
    simp only [postbagref5_mark_0.g1 R κ f]
    rfl
theorem postbagref5_mark_0.run (R : Type) (κ : List SV → Option R) (a0 : ByteArray) (a1 : Int) :
    runF (postbagref5_mark_0.C R) Tryz.f102 10000 fuelK [.str a0, .int .i64 a1] κ = postbagref5_mark_0 a0 a1 (fun r0 => κ [.int .i64 r0]) := by
  rw [postbagref5_mark_0.c]
  simp only [postbagref5_mark_0.g1 R κ fuelK]
  rfl
theorem postbagref5_mark_0.Γ_does {R : Type} (tab : Tab) (ht : TabOk tab) (g : Nat) : Does (R := R) Tryz.prog (tabTy tyL) tab g ((postbagref5_mark_0.C R).call g) := by
  refine does_of fun xs κ => ?_
  show DoesAt _ _ _ g xs κ (postbagref5_mark_0.Γ g xs κ)
  unfold postbagref5_mark_0.Γ
  split
  · exact DoesAt.none
theorem postbagref5_mark_0.does {R : Type} (tab : Tab) (ht : TabOk tab) (a0 : ByteArray) (a1 : Int) (κ : List SV → Option R) : DoesAt Tryz.prog (tabTy tyL) tab 102 [.str a0, .int .i64 a1] κ (postbagref5_mark_0 a0 a1 (fun r0 => κ [.int .i64 r0])) := by
  intro r h w vs Rt Ra bs hpre
  exact runF_sound tyOk (postbagref5_mark_0.Γ_does tab ht) (show Tryz.prog.funcs[102]? = some Tryz.f102 by kernel_rfl) (by kernel_rfl) ((postbagref5_mark_0.run R κ a0 a1).trans h) hpre
def postbagref1_Lower_0.Γ {R : Type} (g : Nat) (xs : List SV) (κ : List SV → Option R) : Option R :=
  match g with
  | _ => none
def postbagref1_Lower_0.h (n : Nat) : Option (List (Nat × List (Nat × Nat))) :=
  match n with
  | 3 => some [(0, [(0, 0)]), (3, [(0, 7)]), (4, [(0, 0)])]
  | _ => none
def postbagref1_Lower_0.C (R : Type) : Cfg R := ⟨tabTy tyL, postbagref1_Lower_0.Γ, fun _ => false, postbagref1_Lower_0.h⟩
def postbagref1_Lower_0.s3 (x0 : ByteArray) (x1 : Int) (x2 : List AV) : St := ⟨mkS 29 [(0, .str x0), (3, .own 256), (4, .int .i64 x1)], [(256, .row 5 x2 true)], top⟩
theorem postbagref1_Lower_0.c3 (R : Type) (J : List Item → St → Option R) (κ : List SV → Option R) (x0 : ByteArray) (x1 : Int) (x2 : List AV) :
    start (postbagref1_Lower_0.C R) J (retK (postbagref1_Lower_0.C R) Tryz.f101.results.toList (List.range 0) κ) 10000 (placeOf Tryz.f101 3) (postbagref1_Lower_0.s3 x0 x1 x2) = postbagref1_Lower_0.t3 x0 x1 x2 (fun y0 y1 y2 => J (placeOf Tryz.f101 3) (postbagref1_Lower_0.s3 y0 y1 y2)) (fun r0 => κ [.str r0]) := by kernel_rfl
theorem postbagref1_Lower_0.c (R : Type) (κ : List SV → Option R) (k : Nat) (a0 : ByteArray) :
    runF (postbagref1_Lower_0.C R) Tryz.f101 10000 k [.str a0] κ = postbagref1_Lower_0.e a0 (fun y0 y1 y2 => goto (postbagref1_Lower_0.C R) (retK (postbagref1_Lower_0.C R) Tryz.f101.results.toList (List.range 0) κ) 10000 k (placeOf Tryz.f101 3) (postbagref1_Lower_0.s3 y0 y1 y2)) (fun r0 => κ [.str r0]) := by kernel_rfl
theorem postbagref1_Lower_0.g3 (R : Type) (κ : List SV → Option R) : ∀ (f : Nat) (x0 : ByteArray) (x1 : Int) (x2 : List AV), goto (postbagref1_Lower_0.C R) (retK (postbagref1_Lower_0.C R) Tryz.f101.results.toList (List.range 0) κ) 10000 f (placeOf Tryz.f101 3) (postbagref1_Lower_0.s3 x0 x1 x2) = postbagref1_Lower_0.L3 (fun r0 => κ [.str r0]) f x0 x1 x2
  | 0, _, _, _ => rfl
  | f + 1, x0, x1, x2 => by
    show start (postbagref1_Lower_0.C R) (goto (postbagref1_Lower_0.C R) (retK (postbagref1_Lower_0.C R) Tryz.f101.results.toList (List.range 0) κ) 10000 f) (retK (postbagref1_Lower_0.C R) Tryz.f101.results.toList (List.range 0) κ) 10000 (placeOf Tryz.f101 3) (postbagref1_Lower_0.s3 x0 x1 x2) = _
    rw [postbagref1_Lower_0.c3]
    simp only [postbagref1_Lower_0.g3 R κ f]
    rfl
theorem postbagref1_Lower_0.run (R : Type) (κ : List SV → Option R) (a0 : ByteArray) :
    runF (postbagref1_Lower_0.C R) Tryz.f101 10000 fuelK [.str a0] κ = postbagref1_Lower_0 a0 (fun r0 => κ [.str r0]) := by
  rw [postbagref1_Lower_0.c]
  simp only [postbagref1_Lower_0.g3 R κ fuelK]
  rfl
theorem postbagref1_Lower_0.Γ_does {R : Type} (tab : Tab) (ht : TabOk tab) (g : Nat) : Does (R := R) Tryz.prog (tabTy tyL) tab g ((postbagref1_Lower_0.C R).call g) := by
  refine does_of fun xs κ => ?_
  show DoesAt _ _ _ g xs κ (postbagref1_Lower_0.Γ g xs κ)
  unfold postbagref1_Lower_0.Γ
  split
  · exact DoesAt.none
theorem postbagref1_Lower_0.does {R : Type} (tab : Tab) (ht : TabOk tab) (a0 : ByteArray) (κ : List SV → Option R) : DoesAt Tryz.prog (tabTy tyL) tab 101 [.str a0] κ (postbagref1_Lower_0 a0 (fun r0 => κ [.str r0])) := by
  intro r h w vs Rt Ra bs hpre
  exact runF_sound tyOk (postbagref1_Lower_0.Γ_does tab ht) (show Tryz.prog.funcs[101]? = some Tryz.f101 by kernel_rfl) (by kernel_rfl) ((postbagref1_Lower_0.run R κ a0).trans h) hpre
def postbagref1_worth_0.Γ {R : Type} (g : Nat) (xs : List SV) (κ : List SV → Option R) : Option R :=
  match g with
  | _ => none
def postbagref1_worth_0.h (n : Nat) : Option (List (Nat × List (Nat × Nat))) :=
  match n with
  | 2 => some [(0, [(0, 0)]), (3, [(0, 0)])]
  | _ => none
def postbagref1_worth_0.C (R : Type) : Cfg R := ⟨tabTy tyL, postbagref1_worth_0.Γ, fun _ => false, postbagref1_worth_0.h⟩
def postbagref1_worth_0.s2 (x0 : Int) (x1 : Int) : St := ⟨mkS 13 [(0, .int .u8 x0), (3, .int .i64 x1)], [], top⟩
theorem postbagref1_worth_0.c2 (R : Type) (J : List Item → St → Option R) (κ : List SV → Option R) (x0 : Int) (x1 : Int) :
    start (postbagref1_worth_0.C R) J (retK (postbagref1_worth_0.C R) Tryz.f137.results.toList (List.range 0) κ) 10000 (placeOf Tryz.f137 2) (postbagref1_worth_0.s2 x0 x1) = postbagref1_worth_0.t2 x0 x1 (fun y0 y1 => J (placeOf Tryz.f137 2) (postbagref1_worth_0.s2 y0 y1)) (fun r0 => κ [.int .i64 r0]) := by kernel_rfl
theorem postbagref1_worth_0.c (R : Type) (κ : List SV → Option R) (k : Nat) (a0 : Int) :
    runF (postbagref1_worth_0.C R) Tryz.f137 10000 k [.int .u8 a0] κ = postbagref1_worth_0.e a0 (fun y0 y1 => goto (postbagref1_worth_0.C R) (retK (postbagref1_worth_0.C R) Tryz.f137.results.toList (List.range 0) κ) 10000 k (placeOf Tryz.f137 2) (postbagref1_worth_0.s2 y0 y1)) (fun r0 => κ [.int .i64 r0]) := by kernel_rfl
theorem postbagref1_worth_0.g2 (R : Type) (κ : List SV → Option R) : ∀ (f : Nat) (x0 : Int) (x1 : Int), goto (postbagref1_worth_0.C R) (retK (postbagref1_worth_0.C R) Tryz.f137.results.toList (List.range 0) κ) 10000 f (placeOf Tryz.f137 2) (postbagref1_worth_0.s2 x0 x1) = postbagref1_worth_0.L2 (fun r0 => κ [.int .i64 r0]) f x0 x1
  | 0, _, _ => rfl
  | f + 1, x0, x1 => by
    show start (postbagref1_worth_0.C R) (goto (postbagref1_worth_0.C R) (retK (postbagref1_worth_0.C R) Tryz.f137.results.toList (List.range 0) κ) 10000 f) (retK (postbagref1_worth_0.C R) Tryz.f137.results.toList (List.range 0) κ) 10000 (placeOf Tryz.f137 2) (postbagref1_worth_0.s2 x0 x1) = _
    rw [postbagref1_worth_0.c2]
    simp only [postbagref1_worth_0.g2 R κ f]
    rfl
theorem postbagref1_worth_0.run (R : Type) (κ : List SV → Option R) (a0 : Int) :
    runF (postbagref1_worth_0.C R) Tryz.f137 10000 fuelK [.int .u8 a0] κ = postbagref1_worth_0 a0 (fun r0 => κ [.int .i64 r0]) := by
  rw [postbagref1_worth_0.c]
  simp only [postbagref1_worth_0.g2 R κ fuelK]
  rfl
theorem postbagref1_worth_0.Γ_does {R : Type} (tab : Tab) (ht : TabOk tab) (g : Nat) : Does (R := R) Tryz.prog (tabTy tyL) tab g ((postbagref1_worth_0.C R).call g) := by
  refine does_of fun xs κ => ?_
  show DoesAt _ _ _ g xs κ (postbagref1_worth_0.Γ g xs κ)
  unfold postbagref1_worth_0.Γ
  split
  · exact DoesAt.none
theorem postbagref1_worth_0.does {R : Type} (tab : Tab) (ht : TabOk tab) (a0 : Int) (κ : List SV → Option R) : DoesAt Tryz.prog (tabTy tyL) tab 137 [.int .u8 a0] κ (postbagref1_worth_0 a0 (fun r0 => κ [.int .i64 r0])) := by
  intro r h w vs Rt Ra bs hpre
  exact runF_sound tyOk (postbagref1_worth_0.Γ_does tab ht) (show Tryz.prog.funcs[137]? = some Tryz.f137 by kernel_rfl) (by kernel_rfl) ((postbagref1_worth_0.run R κ a0).trans h) hpre
def postbagref1_value_oii.Γ {R : Type} (g : Nat) (xs : List SV) (κ : List SV → Option R) : Option R :=
  match g with
  | _ => none
def postbagref1_value_oii.h (n : Nat) : Option (List (Nat × List (Nat × Nat))) :=
  match n with
  | 3 => some [(0, [(0, 0)]), (1, [(0, 0)]), (2, [(0, 0)]), (7, [(0, 0)]), (8, [(0, 0)])]
  | _ => none
def postbagref1_value_oii.C (R : Type) : Cfg R := ⟨tabTy tyL, postbagref1_value_oii.Γ, fun _ => false, postbagref1_value_oii.h⟩
def postbagref1_value_oii.s3 (x0 : List AV) (x1 : Int) (x2 : Int) (x3 : Int) (x4 : Int) : St := ⟨mkS 31 [(0, .ro 3 x0 false), (1, .int .i64 x1), (2, .int .i64 x2), (7, .int .i64 x3), (8, .int .i64 x4)], [], top⟩
theorem postbagref1_value_oii.c3 (R : Type) (J : List Item → St → Option R) (κ : List SV → Option R) (x0 : List AV) (x1 : Int) (x2 : Int) (x3 : Int) (x4 : Int) :
    start (postbagref1_value_oii.C R) J (retK (postbagref1_value_oii.C R) Tryz.f138.results.toList (List.range 0) κ) 10000 (placeOf Tryz.f138 3) (postbagref1_value_oii.s3 x0 x1 x2 x3 x4) = postbagref1_value_oii.t3 x0 x1 x2 x3 x4 (fun y0 y1 y2 y3 y4 => J (placeOf Tryz.f138 3) (postbagref1_value_oii.s3 y0 y1 y2 y3 y4)) (fun r0 => κ [.int .i64 r0]) := by kernel_rfl
theorem postbagref1_value_oii.c (R : Type) (κ : List SV → Option R) (k : Nat) (a0 : List AV) (a1 : Int) (a2 : Int) :
    runF (postbagref1_value_oii.C R) Tryz.f138 10000 k [.ro 3 a0 false, .int .i64 a1, .int .i64 a2] κ = postbagref1_value_oii.e a0 a1 a2 (fun y0 y1 y2 y3 y4 => goto (postbagref1_value_oii.C R) (retK (postbagref1_value_oii.C R) Tryz.f138.results.toList (List.range 0) κ) 10000 k (placeOf Tryz.f138 3) (postbagref1_value_oii.s3 y0 y1 y2 y3 y4)) (fun r0 => κ [.int .i64 r0]) := by kernel_rfl
theorem postbagref1_value_oii.g3 (R : Type) (κ : List SV → Option R) : ∀ (f : Nat) (x0 : List AV) (x1 : Int) (x2 : Int) (x3 : Int) (x4 : Int), goto (postbagref1_value_oii.C R) (retK (postbagref1_value_oii.C R) Tryz.f138.results.toList (List.range 0) κ) 10000 f (placeOf Tryz.f138 3) (postbagref1_value_oii.s3 x0 x1 x2 x3 x4) = postbagref1_value_oii.L3 (fun r0 => κ [.int .i64 r0]) f x0 x1 x2 x3 x4
  | 0, _, _, _, _, _ => rfl
  | f + 1, x0, x1, x2, x3, x4 => by
    show start (postbagref1_value_oii.C R) (goto (postbagref1_value_oii.C R) (retK (postbagref1_value_oii.C R) Tryz.f138.results.toList (List.range 0) κ) 10000 f) (retK (postbagref1_value_oii.C R) Tryz.f138.results.toList (List.range 0) κ) 10000 (placeOf Tryz.f138 3) (postbagref1_value_oii.s3 x0 x1 x2 x3 x4) = _
    rw [postbagref1_value_oii.c3]
    simp only [postbagref1_value_oii.g3 R κ f]
    rfl
theorem postbagref1_value_oii.run (R : Type) (κ : List SV → Option R) (a0 : List AV) (a1 : Int) (a2 : Int) :
    runF (postbagref1_value_oii.C R) Tryz.f138 10000 fuelK [.ro 3 a0 false, .int .i64 a1, .int .i64 a2] κ = postbagref1_value_oii a0 a1 a2 (fun r0 => κ [.int .i64 r0]) := by
  rw [postbagref1_value_oii.c]
  simp only [postbagref1_value_oii.g3 R κ fuelK]
  rfl
theorem postbagref1_value_oii.Γ_does {R : Type} (tab : Tab) (ht : TabOk tab) (g : Nat) : Does (R := R) Tryz.prog (tabTy tyL) tab g ((postbagref1_value_oii.C R).call g) := by
  refine does_of fun xs κ => ?_
  show DoesAt _ _ _ g xs κ (postbagref1_value_oii.Γ g xs κ)
  unfold postbagref1_value_oii.Γ
  split
  · exact DoesAt.none
theorem postbagref1_value_oii.does {R : Type} (tab : Tab) (ht : TabOk tab) (a0 : List AV) (a1 : Int) (a2 : Int) (κ : List SV → Option R) : DoesAt Tryz.prog (tabTy tyL) tab 138 [.ro 3 a0 false, .int .i64 a1, .int .i64 a2] κ (postbagref1_value_oii a0 a1 a2 (fun r0 => κ [.int .i64 r0])) := by
  intro r h w vs Rt Ra bs hpre
  exact runF_sound tyOk (postbagref1_value_oii.Γ_does tab ht) (show Tryz.prog.funcs[138]? = some Tryz.f138 by kernel_rfl) (by kernel_rfl) ((postbagref1_value_oii.run R κ a0 a1 a2).trans h) hpre
def postbagref1_Loose64_0.Γ {R : Type} (c1 : postbagref1_worth_0.F R) (c2 : postbagref1_value_oii.F R) (g : Nat) (xs : List SV) (κ : List SV → Option R) : Option R :=
  match g with
  | 137 => (match xs with
    | [.int .u8 a0] => c1 a0 (fun r0 => κ [.int .i64 r0])
    | _ => none)
  | 138 => (match xs with
    | [.ro 3 a0 false, .int .i64 a1, .int .i64 a2] => c2 a0 a1 a2 (fun r0 => κ [.int .i64 r0])
    | _ => none)
  | _ => none
def postbagref1_Loose64_0.h (n : Nat) : Option (List (Nat × List (Nat × Nat))) :=
  match n with
  | 3 => some [(0, [(0, 0)]), (3, [(0, 5)]), (4, [(0, 0)])]
  | 7 => some [(0, [(0, 0)]), (3, [(0, 5)]), (4, [(0, 0)]), (5, [(0, 0)]), (6, [(0, 0)])]
  | 12 => some [(3, [(0, 0)]), (7, [(0, 7)]), (8, [(0, 0)])]
  | _ => none
def postbagref1_Loose64_0.C (R : Type) (c1 : postbagref1_worth_0.F R) (c2 : postbagref1_value_oii.F R) : Cfg R := ⟨tabTy tyL, postbagref1_Loose64_0.Γ c1 c2, fun _ => false, postbagref1_Loose64_0.h⟩
def postbagref1_Loose64_0.s3 (x0 : ByteArray) (x1 : Int) (x2 : List AV) : St := ⟨mkS 56 [(0, .str x0), (3, .own 256), (4, .int .i64 x1)], [(256, .row 3 x2 true)], top⟩
def postbagref1_Loose64_0.s7 (x0 : ByteArray) (x1 : Int) (x2 : Int) (x3 : Int) (x4 : List AV) : St := ⟨mkS 56 [(0, .str x0), (3, .own 256), (4, .int .i64 x1), (5, .int .i64 x2), (6, .int .i64 x3)], [(256, .row 3 x4 true)], top⟩
def postbagref1_Loose64_0.s12 (x0 : Int) (x1 : List AV) (x2 : List AV) : St := ⟨mkS 56 [(3, .own 256), (7, .own 512), (8, .int .i64 x0)], [(256, .row 3 x1 true), (512, .row 5 x2 true)], top⟩
theorem postbagref1_Loose64_0.c3 (R : Type) (c1 : postbagref1_worth_0.F R) (c2 : postbagref1_value_oii.F R) (J : List Item → St → Option R) (κ : List SV → Option R) (x0 : ByteArray) (x1 : Int) (x2 : List AV) :
    start (postbagref1_Loose64_0.C R c1 c2) J (retK (postbagref1_Loose64_0.C R c1 c2) Tryz.f103.results.toList (List.range 0) κ) 10000 (placeOf Tryz.f103 3) (postbagref1_Loose64_0.s3 x0 x1 x2) = postbagref1_Loose64_0.t3 c1 c2 x0 x1 x2 (fun y0 y1 y2 => J (placeOf Tryz.f103 3) (postbagref1_Loose64_0.s3 y0 y1 y2)) (fun y0 y1 y2 y3 y4 => J (placeOf Tryz.f103 7) (postbagref1_Loose64_0.s7 y0 y1 y2 y3 y4)) (fun y0 y1 y2 => J (placeOf Tryz.f103 12) (postbagref1_Loose64_0.s12 y0 y1 y2)) (fun r0 => κ [.str r0]) := by kernel_rfl
theorem postbagref1_Loose64_0.c7 (R : Type) (c1 : postbagref1_worth_0.F R) (c2 : postbagref1_value_oii.F R) (J : List Item → St → Option R) (κ : List SV → Option R) (x0 : ByteArray) (x1 : Int) (x2 : Int) (x3 : Int) (x4 : List AV) :
    start (postbagref1_Loose64_0.C R c1 c2) J (retK (postbagref1_Loose64_0.C R c1 c2) Tryz.f103.results.toList (List.range 0) κ) 10000 (placeOf Tryz.f103 7) (postbagref1_Loose64_0.s7 x0 x1 x2 x3 x4) = postbagref1_Loose64_0.t7 c1 c2 x0 x1 x2 x3 x4 (fun y0 y1 y2 => J (placeOf Tryz.f103 3) (postbagref1_Loose64_0.s3 y0 y1 y2)) (fun y0 y1 y2 y3 y4 => J (placeOf Tryz.f103 7) (postbagref1_Loose64_0.s7 y0 y1 y2 y3 y4)) (fun y0 y1 y2 => J (placeOf Tryz.f103 12) (postbagref1_Loose64_0.s12 y0 y1 y2)) (fun r0 => κ [.str r0]) := by kernel_rfl
theorem postbagref1_Loose64_0.c12 (R : Type) (c1 : postbagref1_worth_0.F R) (c2 : postbagref1_value_oii.F R) (J : List Item → St → Option R) (κ : List SV → Option R) (x0 : Int) (x1 : List AV) (x2 : List AV) :
    start (postbagref1_Loose64_0.C R c1 c2) J (retK (postbagref1_Loose64_0.C R c1 c2) Tryz.f103.results.toList (List.range 0) κ) 10000 (placeOf Tryz.f103 12) (postbagref1_Loose64_0.s12 x0 x1 x2) = postbagref1_Loose64_0.t12 c1 c2 x0 x1 x2 (fun y0 y1 y2 => J (placeOf Tryz.f103 3) (postbagref1_Loose64_0.s3 y0 y1 y2)) (fun y0 y1 y2 y3 y4 => J (placeOf Tryz.f103 7) (postbagref1_Loose64_0.s7 y0 y1 y2 y3 y4)) (fun y0 y1 y2 => J (placeOf Tryz.f103 12) (postbagref1_Loose64_0.s12 y0 y1 y2)) (fun r0 => κ [.str r0]) := by kernel_rfl
theorem postbagref1_Loose64_0.c (R : Type) (c1 : postbagref1_worth_0.F R) (c2 : postbagref1_value_oii.F R) (κ : List SV → Option R) (k : Nat) (a0 : ByteArray) :
    runF (postbagref1_Loose64_0.C R c1 c2) Tryz.f103 10000 k [.str a0] κ = postbagref1_Loose64_0.e c1 c2 a0 (fun y0 y1 y2 => goto (postbagref1_Loose64_0.C R c1 c2) (retK (postbagref1_Loose64_0.C R c1 c2) Tryz.f103.results.toList (List.range 0) κ) 10000 k (placeOf Tryz.f103 3) (postbagref1_Loose64_0.s3 y0 y1 y2)) (fun y0 y1 y2 y3 y4 => goto (postbagref1_Loose64_0.C R c1 c2) (retK (postbagref1_Loose64_0.C R c1 c2) Tryz.f103.results.toList (List.range 0) κ) 10000 k (placeOf Tryz.f103 7) (postbagref1_Loose64_0.s7 y0 y1 y2 y3 y4)) (fun y0 y1 y2 => goto (postbagref1_Loose64_0.C R c1 c2) (retK (postbagref1_Loose64_0.C R c1 c2) Tryz.f103.results.toList (List.range 0) κ) 10000 k (placeOf Tryz.f103 12) (postbagref1_Loose64_0.s12 y0 y1 y2)) (fun r0 => κ [.str r0]) := by kernel_rfl
theorem postbagref1_Loose64_0.g12 (R : Type) (c1 : postbagref1_worth_0.F R) (c2 : postbagref1_value_oii.F R) (κ : List SV → Option R) : ∀ (f : Nat) (x0 : Int) (x1 : List AV) (x2 : List AV), goto (postbagref1_Loose64_0.C R c1 c2) (retK (postbagref1_Loose64_0.C R c1 c2) Tryz.f103.results.toList (List.range 0) κ) 10000 f (placeOf Tryz.f103 12) (postbagref1_Loose64_0.s12 x0 x1 x2) = postbagref1_Loose64_0.L12 c1 c2 (fun r0 => κ [.str r0]) f x0 x1 x2
  | 0, _, _, _ => rfl
  | f + 1, x0, x1, x2 => by
    show start (postbagref1_Loose64_0.C R c1 c2) (goto (postbagref1_Loose64_0.C R c1 c2) (retK (postbagref1_Loose64_0.C R c1 c2) Tryz.f103.results.toList (List.range 0) κ) 10000 f) (retK (postbagref1_Loose64_0.C R c1 c2) Tryz.f103.results.toList (List.range 0) κ) 10000 (placeOf Tryz.f103 12) (postbagref1_Loose64_0.s12 x0 x1 x2) = _
    rw [postbagref1_Loose64_0.c12]
    simp only [postbagref1_Loose64_0.g12 R c1 c2 κ f]
    rfl
theorem postbagref1_Loose64_0.gM3 (R : Type) (c1 : postbagref1_worth_0.F R) (c2 : postbagref1_value_oii.F R) (κ : List SV → Option R) : ∀ (f : Nat), (∀ (x0 : ByteArray) (x1 : Int) (x2 : List AV), goto (postbagref1_Loose64_0.C R c1 c2) (retK (postbagref1_Loose64_0.C R c1 c2) Tryz.f103.results.toList (List.range 0) κ) 10000 f (placeOf Tryz.f103 3) (postbagref1_Loose64_0.s3 x0 x1 x2) = postbagref1_Loose64_0.L3 c1 c2 (fun r0 => κ [.str r0]) f x0 x1 x2) ∧
    (∀ (x0 : ByteArray) (x1 : Int) (x2 : Int) (x3 : Int) (x4 : List AV), goto (postbagref1_Loose64_0.C R c1 c2) (retK (postbagref1_Loose64_0.C R c1 c2) Tryz.f103.results.toList (List.range 0) κ) 10000 f (placeOf Tryz.f103 7) (postbagref1_Loose64_0.s7 x0 x1 x2 x3 x4) = postbagref1_Loose64_0.L7 c1 c2 (fun r0 => κ [.str r0]) f x0 x1 x2 x3 x4)
  | 0 => ⟨fun _ _ _ => rfl, fun _ _ _ _ _ => rfl⟩
  | f + 1 => by
    obtain ⟨ih0, ih1⟩ := postbagref1_Loose64_0.gM3 R c1 c2 κ f
    refine ⟨?_, ?_⟩
    · intro x0 x1 x2
      show start (postbagref1_Loose64_0.C R c1 c2) (goto (postbagref1_Loose64_0.C R c1 c2) (retK (postbagref1_Loose64_0.C R c1 c2) Tryz.f103.results.toList (List.range 0) κ) 10000 f) (retK (postbagref1_Loose64_0.C R c1 c2) Tryz.f103.results.toList (List.range 0) κ) 10000 (placeOf Tryz.f103 3) (postbagref1_Loose64_0.s3 x0 x1 x2) = _
      rw [postbagref1_Loose64_0.c3]
      simp only [ih0, ih1, postbagref1_Loose64_0.g12 R c1 c2 κ f]
      rfl
    · intro x0 x1 x2 x3 x4
      show start (postbagref1_Loose64_0.C R c1 c2) (goto (postbagref1_Loose64_0.C R c1 c2) (retK (postbagref1_Loose64_0.C R c1 c2) Tryz.f103.results.toList (List.range 0) κ) 10000 f) (retK (postbagref1_Loose64_0.C R c1 c2) Tryz.f103.results.toList (List.range 0) κ) 10000 (placeOf Tryz.f103 7) (postbagref1_Loose64_0.s7 x0 x1 x2 x3 x4) = _
      rw [postbagref1_Loose64_0.c7]
      simp only [ih0, ih1, postbagref1_Loose64_0.g12 R c1 c2 κ f]
      rfl
theorem postbagref1_Loose64_0.g3 (R : Type) (c1 : postbagref1_worth_0.F R) (c2 : postbagref1_value_oii.F R) (κ : List SV → Option R) (f : Nat) (x0 : ByteArray) (x1 : Int) (x2 : List AV) : goto (postbagref1_Loose64_0.C R c1 c2) (retK (postbagref1_Loose64_0.C R c1 c2) Tryz.f103.results.toList (List.range 0) κ) 10000 f (placeOf Tryz.f103 3) (postbagref1_Loose64_0.s3 x0 x1 x2) = postbagref1_Loose64_0.L3 c1 c2 (fun r0 => κ [.str r0]) f x0 x1 x2 := (postbagref1_Loose64_0.gM3 R c1 c2 κ f).1 x0 x1 x2
theorem postbagref1_Loose64_0.g7 (R : Type) (c1 : postbagref1_worth_0.F R) (c2 : postbagref1_value_oii.F R) (κ : List SV → Option R) (f : Nat) (x0 : ByteArray) (x1 : Int) (x2 : Int) (x3 : Int) (x4 : List AV) : goto (postbagref1_Loose64_0.C R c1 c2) (retK (postbagref1_Loose64_0.C R c1 c2) Tryz.f103.results.toList (List.range 0) κ) 10000 f (placeOf Tryz.f103 7) (postbagref1_Loose64_0.s7 x0 x1 x2 x3 x4) = postbagref1_Loose64_0.L7 c1 c2 (fun r0 => κ [.str r0]) f x0 x1 x2 x3 x4 := (postbagref1_Loose64_0.gM3 R c1 c2 κ f).2 x0 x1 x2 x3 x4
theorem postbagref1_Loose64_0.run (R : Type) (κ : List SV → Option R) (a0 : ByteArray) :
    runF (postbagref1_Loose64_0.C R postbagref1_worth_0 postbagref1_value_oii) Tryz.f103 10000 fuelK [.str a0] κ = postbagref1_Loose64_0 a0 (fun r0 => κ [.str r0]) := by
  rw [postbagref1_Loose64_0.c]
  simp only [postbagref1_Loose64_0.g3 R postbagref1_worth_0 postbagref1_value_oii κ fuelK, postbagref1_Loose64_0.g7 R postbagref1_worth_0 postbagref1_value_oii κ fuelK, postbagref1_Loose64_0.g12 R postbagref1_worth_0 postbagref1_value_oii κ fuelK]
  rfl
theorem postbagref1_Loose64_0.Γ_does {R : Type} (tab : Tab) (ht : TabOk tab) (g : Nat) : Does (R := R) Tryz.prog (tabTy tyL) tab g ((postbagref1_Loose64_0.C R postbagref1_worth_0 postbagref1_value_oii).call g) := by
  refine does_of fun xs κ => ?_
  show DoesAt _ _ _ g xs κ (postbagref1_Loose64_0.Γ postbagref1_worth_0 postbagref1_value_oii g xs κ)
  unfold postbagref1_Loose64_0.Γ
  split
  · split
    · exact postbagref1_worth_0.does tab ht _ κ
    · exact DoesAt.none
  · split
    · exact postbagref1_value_oii.does tab ht _ _ _ κ
    · exact DoesAt.none
  · exact DoesAt.none
theorem postbagref1_Loose64_0.does {R : Type} (tab : Tab) (ht : TabOk tab) (a0 : ByteArray) (κ : List SV → Option R) : DoesAt Tryz.prog (tabTy tyL) tab 103 [.str a0] κ (postbagref1_Loose64_0 a0 (fun r0 => κ [.str r0])) := by
  intro r h w vs Rt Ra bs hpre
  exact runF_sound tyOk (postbagref1_Loose64_0.Γ_does tab ht) (show Tryz.prog.funcs[103]? = some Tryz.f103 by kernel_rfl) (by kernel_rfl) ((postbagref1_Loose64_0.run R κ a0).trans h) hpre
def postbagref5_latin_0.Γ {R : Type} (g : Nat) (xs : List SV) (κ : List SV → Option R) : Option R :=
  match g with
  | _ => none
def postbagref5_latin_0.h (n : Nat) : Option (List (Nat × List (Nat × Nat))) :=
  match n with
  | 3 => some [(0, [(0, 0)]), (3, [(0, 7)]), (4, [(0, 0)])]
  | _ => none
def postbagref5_latin_0.C (R : Type) : Cfg R := ⟨tabTy tyL, postbagref5_latin_0.Γ, fun _ => false, postbagref5_latin_0.h⟩
def postbagref5_latin_0.s3 (x0 : ByteArray) (x1 : Int) (x2 : List AV) : St := ⟨mkS 36 [(0, .str x0), (3, .own 256), (4, .int .i64 x1)], [(256, .row 5 x2 true)], top⟩
theorem postbagref5_latin_0.c3 (R : Type) (J : List Item → St → Option R) (κ : List SV → Option R) (x0 : ByteArray) (x1 : Int) (x2 : List AV) :
    start (postbagref5_latin_0.C R) J (retK (postbagref5_latin_0.C R) Tryz.f105.results.toList (List.range 0) κ) 10000 (placeOf Tryz.f105 3) (postbagref5_latin_0.s3 x0 x1 x2) = postbagref5_latin_0.t3 x0 x1 x2 (fun y0 y1 y2 => J (placeOf Tryz.f105 3) (postbagref5_latin_0.s3 y0 y1 y2)) (fun r0 => κ [.str r0]) := by kernel_rfl
theorem postbagref5_latin_0.c (R : Type) (κ : List SV → Option R) (k : Nat) (a0 : ByteArray) :
    runF (postbagref5_latin_0.C R) Tryz.f105 10000 k [.str a0] κ = postbagref5_latin_0.e a0 (fun y0 y1 y2 => goto (postbagref5_latin_0.C R) (retK (postbagref5_latin_0.C R) Tryz.f105.results.toList (List.range 0) κ) 10000 k (placeOf Tryz.f105 3) (postbagref5_latin_0.s3 y0 y1 y2)) (fun r0 => κ [.str r0]) := by kernel_rfl
theorem postbagref5_latin_0.g3 (R : Type) (κ : List SV → Option R) : ∀ (f : Nat) (x0 : ByteArray) (x1 : Int) (x2 : List AV), goto (postbagref5_latin_0.C R) (retK (postbagref5_latin_0.C R) Tryz.f105.results.toList (List.range 0) κ) 10000 f (placeOf Tryz.f105 3) (postbagref5_latin_0.s3 x0 x1 x2) = postbagref5_latin_0.L3 (fun r0 => κ [.str r0]) f x0 x1 x2
  | 0, _, _, _ => rfl
  | f + 1, x0, x1, x2 => by
    show start (postbagref5_latin_0.C R) (goto (postbagref5_latin_0.C R) (retK (postbagref5_latin_0.C R) Tryz.f105.results.toList (List.range 0) κ) 10000 f) (retK (postbagref5_latin_0.C R) Tryz.f105.results.toList (List.range 0) κ) 10000 (placeOf Tryz.f105 3) (postbagref5_latin_0.s3 x0 x1 x2) = _
    rw [postbagref5_latin_0.c3]
    simp only [postbagref5_latin_0.g3 R κ f]
    rfl
theorem postbagref5_latin_0.run (R : Type) (κ : List SV → Option R) (a0 : ByteArray) :
    runF (postbagref5_latin_0.C R) Tryz.f105 10000 fuelK [.str a0] κ = postbagref5_latin_0 a0 (fun r0 => κ [.str r0]) := by
  rw [postbagref5_latin_0.c]
  simp only [postbagref5_latin_0.g3 R κ fuelK]
  rfl
theorem postbagref5_latin_0.Γ_does {R : Type} (tab : Tab) (ht : TabOk tab) (g : Nat) : Does (R := R) Tryz.prog (tabTy tyL) tab g ((postbagref5_latin_0.C R).call g) := by
  refine does_of fun xs κ => ?_
  show DoesAt _ _ _ g xs κ (postbagref5_latin_0.Γ g xs κ)
  unfold postbagref5_latin_0.Γ
  split
  · exact DoesAt.none
theorem postbagref5_latin_0.does {R : Type} (tab : Tab) (ht : TabOk tab) (a0 : ByteArray) (κ : List SV → Option R) : DoesAt Tryz.prog (tabTy tyL) tab 105 [.str a0] κ (postbagref5_latin_0 a0 (fun r0 => κ [.str r0])) := by
  intro r h w vs Rt Ra bs hpre
  exact runF_sound tyOk (postbagref5_latin_0.Γ_does tab ht) (show Tryz.prog.funcs[105]? = some Tryz.f105 by kernel_rfl) (by kernel_rfl) ((postbagref5_latin_0.run R κ a0).trans h) hpre
def postbagref5_hex_0.Γ {R : Type} (g : Nat) (xs : List SV) (κ : List SV → Option R) : Option R :=
  match g with
  | _ => none
def postbagref5_hex_0.h (n : Nat) : Option (List (Nat × List (Nat × Nat))) :=
  match n with
  | _ => none
def postbagref5_hex_0.C (R : Type) : Cfg R := ⟨tabTy tyL, postbagref5_hex_0.Γ, fun _ => false, postbagref5_hex_0.h⟩
theorem postbagref5_hex_0.c (R : Type) (κ : List SV → Option R) (k : Nat) (a0 : Int) :
    runF (postbagref5_hex_0.C R) Tryz.f139 10000 k [.int .u8 a0] κ = postbagref5_hex_0.e a0 (fun r0 => κ [.int .i64 r0]) := by kernel_rfl
theorem postbagref5_hex_0.run (R : Type) (κ : List SV → Option R) (a0 : Int) :
    runF (postbagref5_hex_0.C R) Tryz.f139 10000 fuelK [.int .u8 a0] κ = postbagref5_hex_0 a0 (fun r0 => κ [.int .i64 r0]) := by
  rw [postbagref5_hex_0.c]
  rfl
theorem postbagref5_hex_0.Γ_does {R : Type} (tab : Tab) (ht : TabOk tab) (g : Nat) : Does (R := R) Tryz.prog (tabTy tyL) tab g ((postbagref5_hex_0.C R).call g) := by
  refine does_of fun xs κ => ?_
  show DoesAt _ _ _ g xs κ (postbagref5_hex_0.Γ g xs κ)
  unfold postbagref5_hex_0.Γ
  split
  · exact DoesAt.none
theorem postbagref5_hex_0.does {R : Type} (tab : Tab) (ht : TabOk tab) (a0 : Int) (κ : List SV → Option R) : DoesAt Tryz.prog (tabTy tyL) tab 139 [.int .u8 a0] κ (postbagref5_hex_0 a0 (fun r0 => κ [.int .i64 r0])) := by
  intro r h w vs Rt Ra bs hpre
  exact runF_sound tyOk (postbagref5_hex_0.Γ_does tab ht) (show Tryz.prog.funcs[139]? = some Tryz.f139 by kernel_rfl) (by kernel_rfl) ((postbagref5_hex_0.run R κ a0).trans h) hpre
def postbagref5_quoted_0.Γ {R : Type} (c1 : postbagref5_hex_0.F R) (g : Nat) (xs : List SV) (κ : List SV → Option R) : Option R :=
  match g with
  | 139 => (match xs with
    | [.int .u8 a0] => c1 a0 (fun r0 => κ [.int .i64 r0])
    | _ => none)
  | _ => none
def postbagref5_quoted_0.h (n : Nat) : Option (List (Nat × List (Nat × Nat))) :=
  match n with
  | 3 => some [(0, [(0, 0)]), (3, [(0, 7)]), (4, [(0, 0)])]
  | _ => none
def postbagref5_quoted_0.C (R : Type) (c1 : postbagref5_hex_0.F R) : Cfg R := ⟨tabTy tyL, postbagref5_quoted_0.Γ c1, fun _ => false, postbagref5_quoted_0.h⟩
def postbagref5_quoted_0.s3 (x0 : ByteArray) (x1 : Int) (x2 : List AV) : St := ⟨mkS 63 [(0, .str x0), (3, .own 256), (4, .int .i64 x1)], [(256, .row 5 x2 true)], top⟩
theorem postbagref5_quoted_0.c3 (R : Type) (c1 : postbagref5_hex_0.F R) (J : List Item → St → Option R) (κ : List SV → Option R) (x0 : ByteArray) (x1 : Int) (x2 : List AV) :
    start (postbagref5_quoted_0.C R c1) J (retK (postbagref5_quoted_0.C R c1) Tryz.f104.results.toList (List.range 0) κ) 10000 (placeOf Tryz.f104 3) (postbagref5_quoted_0.s3 x0 x1 x2) = postbagref5_quoted_0.t3 c1 x0 x1 x2 (fun y0 y1 y2 => J (placeOf Tryz.f104 3) (postbagref5_quoted_0.s3 y0 y1 y2)) (fun r0 => κ [.str r0]) := by kernel_rfl
theorem postbagref5_quoted_0.c (R : Type) (c1 : postbagref5_hex_0.F R) (κ : List SV → Option R) (k : Nat) (a0 : ByteArray) :
    runF (postbagref5_quoted_0.C R c1) Tryz.f104 10000 k [.str a0] κ = postbagref5_quoted_0.e c1 a0 (fun y0 y1 y2 => goto (postbagref5_quoted_0.C R c1) (retK (postbagref5_quoted_0.C R c1) Tryz.f104.results.toList (List.range 0) κ) 10000 k (placeOf Tryz.f104 3) (postbagref5_quoted_0.s3 y0 y1 y2)) (fun r0 => κ [.str r0]) := by kernel_rfl
theorem postbagref5_quoted_0.g3 (R : Type) (c1 : postbagref5_hex_0.F R) (κ : List SV → Option R) : ∀ (f : Nat) (x0 : ByteArray) (x1 : Int) (x2 : List AV), goto (postbagref5_quoted_0.C R c1) (retK (postbagref5_quoted_0.C R c1) Tryz.f104.results.toList (List.range 0) κ) 10000 f (placeOf Tryz.f104 3) (postbagref5_quoted_0.s3 x0 x1 x2) = postbagref5_quoted_0.L3 c1 (fun r0 => κ [.str r0]) f x0 x1 x2
  | 0, _, _, _ => rfl
  | f + 1, x0, x1, x2 => by
    show start (postbagref5_quoted_0.C R c1) (goto (postbagref5_quoted_0.C R c1) (retK (postbagref5_quoted_0.C R c1) Tryz.f104.results.toList (List.range 0) κ) 10000 f) (retK (postbagref5_quoted_0.C R c1) Tryz.f104.results.toList (List.range 0) κ) 10000 (placeOf Tryz.f104 3) (postbagref5_quoted_0.s3 x0 x1 x2) = _
    rw [postbagref5_quoted_0.c3]
    simp only [postbagref5_quoted_0.g3 R c1 κ f]
    rfl
theorem postbagref5_quoted_0.run (R : Type) (κ : List SV → Option R) (a0 : ByteArray) :
    runF (postbagref5_quoted_0.C R postbagref5_hex_0) Tryz.f104 10000 fuelK [.str a0] κ = postbagref5_quoted_0 a0 (fun r0 => κ [.str r0]) := by
  rw [postbagref5_quoted_0.c]
  simp only [postbagref5_quoted_0.g3 R postbagref5_hex_0 κ fuelK]
  rfl
theorem postbagref5_quoted_0.Γ_does {R : Type} (tab : Tab) (ht : TabOk tab) (g : Nat) : Does (R := R) Tryz.prog (tabTy tyL) tab g ((postbagref5_quoted_0.C R postbagref5_hex_0).call g) := by
  refine does_of fun xs κ => ?_
  show DoesAt _ _ _ g xs κ (postbagref5_quoted_0.Γ postbagref5_hex_0 g xs κ)
  unfold postbagref5_quoted_0.Γ
  split
  · split
    · exact postbagref5_hex_0.does tab ht _ κ
    · exact DoesAt.none
  · exact DoesAt.none
theorem postbagref5_quoted_0.does {R : Type} (tab : Tab) (ht : TabOk tab) (a0 : ByteArray) (κ : List SV → Option R) : DoesAt Tryz.prog (tabTy tyL) tab 104 [.str a0] κ (postbagref5_quoted_0 a0 (fun r0 => κ [.str r0])) := by
  intro r h w vs Rt Ra bs hpre
  exact runF_sound tyOk (postbagref5_quoted_0.Γ_does tab ht) (show Tryz.prog.funcs[104]? = some Tryz.f104 by kernel_rfl) (by kernel_rfl) ((postbagref5_quoted_0.run R κ a0).trans h) hpre
def postbagref5_encoded_0.Γ {R : Type} (c1 : postbagref5_mark_0.F R) (c2 : postbagref1_Lower_0.F R) (c3 : postbagref1_Loose64_0.F R) (c4 : postbagref5_latin_0.F R) (c5 : postbagref5_quoted_0.F R) (g : Nat) (xs : List SV) (κ : List SV → Option R) : Option R :=
  match g with
  | 101 => (match xs with
    | [.str a0] => c2 a0 (fun r0 => κ [.str r0])
    | _ => none)
  | 102 => (match xs with
    | [.str a0, .int .i64 a1] => c1 a0 a1 (fun r0 => κ [.int .i64 r0])
    | _ => none)
  | 103 => (match xs with
    | [.str a0] => c3 a0 (fun r0 => κ [.str r0])
    | _ => none)
  | 104 => (match xs with
    | [.str a0] => c5 a0 (fun r0 => κ [.str r0])
    | _ => none)
  | 105 => (match xs with
    | [.str a0] => c4 a0 (fun r0 => κ [.str r0])
    | _ => none)
  | _ => none
def postbagref5_encoded_0.h (n : Nat) : Option (List (Nat × List (Nat × Nat))) :=
  match n with
  | 13 => some [(5, [(0, 0)]), (6, [(0, 0)]), (7, [(0, 0)]), (8, [(0, 0)]), (9, [(0, 0)])]
  | 19 => some [(5, [(0, 0)]), (6, [(0, 0)]), (7, [(0, 0)]), (8, [(0, 0)])]
  | _ => none
def postbagref5_encoded_0.C (R : Type) (c1 : postbagref5_mark_0.F R) (c2 : postbagref1_Lower_0.F R) (c3 : postbagref1_Loose64_0.F R) (c4 : postbagref5_latin_0.F R) (c5 : postbagref5_quoted_0.F R) : Cfg R := ⟨tabTy tyL, postbagref5_encoded_0.Γ c1 c2 c3 c4 c5, fun _ => false, postbagref5_encoded_0.h⟩
def postbagref5_encoded_0.s13 (x0 : Int) (x1 : ByteArray) (x2 : ByteArray) (x3 : ByteArray) (x4 : Int) : St := ⟨mkS 124 [(5, .int .i64 x0), (6, .str x1), (7, .str x2), (8, .str x3), (9, .int .i64 x4)], [], top⟩
def postbagref5_encoded_0.s19 (x0 : Int) (x1 : ByteArray) (x2 : ByteArray) (x3 : ByteArray) : St := ⟨mkS 124 [(5, .int .i64 x0), (6, .str x1), (7, .str x2), (8, .str x3)], [], top⟩
theorem postbagref5_encoded_0.c13 (R : Type) (c1 : postbagref5_mark_0.F R) (c2 : postbagref1_Lower_0.F R) (c3 : postbagref1_Loose64_0.F R) (c4 : postbagref5_latin_0.F R) (c5 : postbagref5_quoted_0.F R) (J : List Item → St → Option R) (κ : List SV → Option R) (x0 : Int) (x1 : ByteArray) (x2 : ByteArray) (x3 : ByteArray) (x4 : Int) :
    start (postbagref5_encoded_0.C R c1 c2 c3 c4 c5) J (retK (postbagref5_encoded_0.C R c1 c2 c3 c4 c5) Tryz.f52.results.toList (List.range 0) κ) 10000 (placeOf Tryz.f52 13) (postbagref5_encoded_0.s13 x0 x1 x2 x3 x4) = postbagref5_encoded_0.t13 c1 c2 c3 c4 c5 x0 x1 x2 x3 x4 (fun y0 y1 y2 y3 y4 => J (placeOf Tryz.f52 13) (postbagref5_encoded_0.s13 y0 y1 y2 y3 y4)) (fun y0 y1 y2 y3 => J (placeOf Tryz.f52 19) (postbagref5_encoded_0.s19 y0 y1 y2 y3)) (fun r0 r1 => κ [.tup [.int .i64 r0, .str r1]]) := by kernel_rfl
theorem postbagref5_encoded_0.c19 (R : Type) (c1 : postbagref5_mark_0.F R) (c2 : postbagref1_Lower_0.F R) (c3 : postbagref1_Loose64_0.F R) (c4 : postbagref5_latin_0.F R) (c5 : postbagref5_quoted_0.F R) (J : List Item → St → Option R) (κ : List SV → Option R) (x0 : Int) (x1 : ByteArray) (x2 : ByteArray) (x3 : ByteArray) :
    start (postbagref5_encoded_0.C R c1 c2 c3 c4 c5) J (retK (postbagref5_encoded_0.C R c1 c2 c3 c4 c5) Tryz.f52.results.toList (List.range 0) κ) 10000 (placeOf Tryz.f52 19) (postbagref5_encoded_0.s19 x0 x1 x2 x3) = postbagref5_encoded_0.t19 c1 c2 c3 c4 c5 x0 x1 x2 x3 (fun y0 y1 y2 y3 y4 => J (placeOf Tryz.f52 13) (postbagref5_encoded_0.s13 y0 y1 y2 y3 y4)) (fun y0 y1 y2 y3 => J (placeOf Tryz.f52 19) (postbagref5_encoded_0.s19 y0 y1 y2 y3)) (fun r0 r1 => κ [.tup [.int .i64 r0, .str r1]]) := by kernel_rfl
theorem postbagref5_encoded_0.c (R : Type) (c1 : postbagref5_mark_0.F R) (c2 : postbagref1_Lower_0.F R) (c3 : postbagref1_Loose64_0.F R) (c4 : postbagref5_latin_0.F R) (c5 : postbagref5_quoted_0.F R) (κ : List SV → Option R) (k : Nat) (a0 : ByteArray) :
    runF (postbagref5_encoded_0.C R c1 c2 c3 c4 c5) Tryz.f52 10000 k [.str a0] κ = postbagref5_encoded_0.e c1 c2 c3 c4 c5 a0 (fun y0 y1 y2 y3 y4 => goto (postbagref5_encoded_0.C R c1 c2 c3 c4 c5) (retK (postbagref5_encoded_0.C R c1 c2 c3 c4 c5) Tryz.f52.results.toList (List.range 0) κ) 10000 k (placeOf Tryz.f52 13) (postbagref5_encoded_0.s13 y0 y1 y2 y3 y4)) (fun y0 y1 y2 y3 => goto (postbagref5_encoded_0.C R c1 c2 c3 c4 c5) (retK (postbagref5_encoded_0.C R c1 c2 c3 c4 c5) Tryz.f52.results.toList (List.range 0) κ) 10000 k (placeOf Tryz.f52 19) (postbagref5_encoded_0.s19 y0 y1 y2 y3)) (fun r0 r1 => κ [.tup [.int .i64 r0, .str r1]]) := by kernel_rfl
theorem postbagref5_encoded_0.g19 (R : Type) (c1 : postbagref5_mark_0.F R) (c2 : postbagref1_Lower_0.F R) (c3 : postbagref1_Loose64_0.F R) (c4 : postbagref5_latin_0.F R) (c5 : postbagref5_quoted_0.F R) (κ : List SV → Option R) : ∀ (f : Nat) (x0 : Int) (x1 : ByteArray) (x2 : ByteArray) (x3 : ByteArray), goto (postbagref5_encoded_0.C R c1 c2 c3 c4 c5) (retK (postbagref5_encoded_0.C R c1 c2 c3 c4 c5) Tryz.f52.results.toList (List.range 0) κ) 10000 f (placeOf Tryz.f52 19) (postbagref5_encoded_0.s19 x0 x1 x2 x3) = postbagref5_encoded_0.L19 c1 c2 c3 c4 c5 (fun r0 r1 => κ [.tup [.int .i64 r0, .str r1]]) f x0 x1 x2 x3
  | 0, _, _, _, _ => rfl
  | f + 1, x0, x1, x2, x3 => by
    show start (postbagref5_encoded_0.C R c1 c2 c3 c4 c5) (goto (postbagref5_encoded_0.C R c1 c2 c3 c4 c5) (retK (postbagref5_encoded_0.C R c1 c2 c3 c4 c5) Tryz.f52.results.toList (List.range 0) κ) 10000 f) (retK (postbagref5_encoded_0.C R c1 c2 c3 c4 c5) Tryz.f52.results.toList (List.range 0) κ) 10000 (placeOf Tryz.f52 19) (postbagref5_encoded_0.s19 x0 x1 x2 x3) = _
    rw [postbagref5_encoded_0.c19]
    skip
    rfl
theorem postbagref5_encoded_0.g13 (R : Type) (c1 : postbagref5_mark_0.F R) (c2 : postbagref1_Lower_0.F R) (c3 : postbagref1_Loose64_0.F R) (c4 : postbagref5_latin_0.F R) (c5 : postbagref5_quoted_0.F R) (κ : List SV → Option R) : ∀ (f : Nat) (x0 : Int) (x1 : ByteArray) (x2 : ByteArray) (x3 : ByteArray) (x4 : Int), goto (postbagref5_encoded_0.C R c1 c2 c3 c4 c5) (retK (postbagref5_encoded_0.C R c1 c2 c3 c4 c5) Tryz.f52.results.toList (List.range 0) κ) 10000 f (placeOf Tryz.f52 13) (postbagref5_encoded_0.s13 x0 x1 x2 x3 x4) = postbagref5_encoded_0.L13 c1 c2 c3 c4 c5 (fun r0 r1 => κ [.tup [.int .i64 r0, .str r1]]) f x0 x1 x2 x3 x4
  | 0, _, _, _, _, _ => rfl
  | f + 1, x0, x1, x2, x3, x4 => by
    show start (postbagref5_encoded_0.C R c1 c2 c3 c4 c5) (goto (postbagref5_encoded_0.C R c1 c2 c3 c4 c5) (retK (postbagref5_encoded_0.C R c1 c2 c3 c4 c5) Tryz.f52.results.toList (List.range 0) κ) 10000 f) (retK (postbagref5_encoded_0.C R c1 c2 c3 c4 c5) Tryz.f52.results.toList (List.range 0) κ) 10000 (placeOf Tryz.f52 13) (postbagref5_encoded_0.s13 x0 x1 x2 x3 x4) = _
    rw [postbagref5_encoded_0.c13]
    simp only [postbagref5_encoded_0.g13 R c1 c2 c3 c4 c5 κ f, postbagref5_encoded_0.g19 R c1 c2 c3 c4 c5 κ f]
    rfl
theorem postbagref5_encoded_0.run (R : Type) (κ : List SV → Option R) (a0 : ByteArray) :
    runF (postbagref5_encoded_0.C R postbagref5_mark_0 postbagref1_Lower_0 postbagref1_Loose64_0 postbagref5_latin_0 postbagref5_quoted_0) Tryz.f52 10000 fuelK [.str a0] κ = postbagref5_encoded_0 a0 (fun r0 r1 => κ [.tup [.int .i64 r0, .str r1]]) := by
  rw [postbagref5_encoded_0.c]
  simp only [postbagref5_encoded_0.g13 R postbagref5_mark_0 postbagref1_Lower_0 postbagref1_Loose64_0 postbagref5_latin_0 postbagref5_quoted_0 κ fuelK, postbagref5_encoded_0.g19 R postbagref5_mark_0 postbagref1_Lower_0 postbagref1_Loose64_0 postbagref5_latin_0 postbagref5_quoted_0 κ fuelK]
  rfl
theorem postbagref5_encoded_0.Γ_does {R : Type} (tab : Tab) (ht : TabOk tab) (g : Nat) : Does (R := R) Tryz.prog (tabTy tyL) tab g ((postbagref5_encoded_0.C R postbagref5_mark_0 postbagref1_Lower_0 postbagref1_Loose64_0 postbagref5_latin_0 postbagref5_quoted_0).call g) := by
  refine does_of fun xs κ => ?_
  show DoesAt _ _ _ g xs κ (postbagref5_encoded_0.Γ postbagref5_mark_0 postbagref1_Lower_0 postbagref1_Loose64_0 postbagref5_latin_0 postbagref5_quoted_0 g xs κ)
  unfold postbagref5_encoded_0.Γ
  split
  · split
    · exact postbagref1_Lower_0.does tab ht _ κ
    · exact DoesAt.none
  · split
    · exact postbagref5_mark_0.does tab ht _ _ κ
    · exact DoesAt.none
  · split
    · exact postbagref1_Loose64_0.does tab ht _ κ
    · exact DoesAt.none
  · split
    · exact postbagref5_quoted_0.does tab ht _ κ
    · exact DoesAt.none
  · split
    · exact postbagref5_latin_0.does tab ht _ κ
    · exact DoesAt.none
  · exact DoesAt.none
theorem postbagref5_encoded_0.does {R : Type} (tab : Tab) (ht : TabOk tab) (a0 : ByteArray) (κ : List SV → Option R) : DoesAt Tryz.prog (tabTy tyL) tab 52 [.str a0] κ (postbagref5_encoded_0 a0 (fun r0 r1 => κ [.tup [.int .i64 r0, .str r1]])) := by
  intro r h w vs Rt Ra bs hpre
  exact runF_sound tyOk (postbagref5_encoded_0.Γ_does tab ht) (show Tryz.prog.funcs[52]? = some Tryz.f52 by kernel_rfl) (by kernel_rfl) ((postbagref5_encoded_0.run R κ a0).trans h) hpre
def postbagref5_blank_0.Γ {R : Type} (g : Nat) (xs : List SV) (κ : List SV → Option R) : Option R :=
  match g with
  | _ => none
def postbagref5_blank_0.h (n : Nat) : Option (List (Nat × List (Nat × Nat))) :=
  match n with
  | _ => none
def postbagref5_blank_0.C (R : Type) : Cfg R := ⟨tabTy tyL, postbagref5_blank_0.Γ, fun _ => false, postbagref5_blank_0.h⟩
theorem postbagref5_blank_0.c (R : Type) (κ : List SV → Option R) (k : Nat) (a0 : Int) :
    runF (postbagref5_blank_0.C R) Tryz.f53 10000 k [.int .u8 a0] κ = postbagref5_blank_0.e a0 (fun r0 => κ [.bool r0]) := by kernel_rfl
theorem postbagref5_blank_0.run (R : Type) (κ : List SV → Option R) (a0 : Int) :
    runF (postbagref5_blank_0.C R) Tryz.f53 10000 fuelK [.int .u8 a0] κ = postbagref5_blank_0 a0 (fun r0 => κ [.bool r0]) := by
  rw [postbagref5_blank_0.c]
  rfl
theorem postbagref5_blank_0.Γ_does {R : Type} (tab : Tab) (ht : TabOk tab) (g : Nat) : Does (R := R) Tryz.prog (tabTy tyL) tab g ((postbagref5_blank_0.C R).call g) := by
  refine does_of fun xs κ => ?_
  show DoesAt _ _ _ g xs κ (postbagref5_blank_0.Γ g xs κ)
  unfold postbagref5_blank_0.Γ
  split
  · exact DoesAt.none
theorem postbagref5_blank_0.does {R : Type} (tab : Tab) (ht : TabOk tab) (a0 : Int) (κ : List SV → Option R) : DoesAt Tryz.prog (tabTy tyL) tab 53 [.int .u8 a0] κ (postbagref5_blank_0 a0 (fun r0 => κ [.bool r0])) := by
  intro r h w vs Rt Ra bs hpre
  exact runF_sound tyOk (postbagref5_blank_0.Γ_does tab ht) (show Tryz.prog.funcs[53]? = some Tryz.f53 by kernel_rfl) (by kernel_rfl) ((postbagref5_blank_0.run R κ a0).trans h) hpre
def postbagref5_Words_0.Γ {R : Type} (c1 : postbagref5_encoded_0.F R) (c2 : postbagref5_blank_0.F R) (g : Nat) (xs : List SV) (κ : List SV → Option R) : Option R :=
  match g with
  | 52 => (match xs with
    | [.str a0] => c1 a0 (fun r0 r1 => κ [.tup [.int .i64 r0, .str r1]])
    | _ => none)
  | 53 => (match xs with
    | [.int .u8 a0] => c2 a0 (fun r0 => κ [.bool r0])
    | _ => none)
  | _ => none
def postbagref5_Words_0.h (n : Nat) : Option (List (Nat × List (Nat × Nat))) :=
  match n with
  | 4 => some [(0, [(0, 0)]), (3, [(0, 0)]), (4, [(0, 0)]), (5, [(0, 0)])]
  | _ => none
def postbagref5_Words_0.C (R : Type) (c1 : postbagref5_encoded_0.F R) (c2 : postbagref5_blank_0.F R) : Cfg R := ⟨tabTy tyL, postbagref5_Words_0.Γ c1 c2, fun _ => false, postbagref5_Words_0.h⟩
def postbagref5_Words_0.s4 (x0 : ByteArray) (x1 : ByteArray) (x2 : ByteArray) (x3 : Bool) : St := ⟨mkS 49 [(0, .str x0), (3, .str x1), (4, .str x2), (5, .bool x3)], [], top⟩
theorem postbagref5_Words_0.c4 (R : Type) (c1 : postbagref5_encoded_0.F R) (c2 : postbagref5_blank_0.F R) (J : List Item → St → Option R) (κ : List SV → Option R) (x0 : ByteArray) (x1 : ByteArray) (x2 : ByteArray) (x3 : Bool) :
    start (postbagref5_Words_0.C R c1 c2) J (retK (postbagref5_Words_0.C R c1 c2) Tryz.f18.results.toList (List.range 0) κ) 10000 (placeOf Tryz.f18 4) (postbagref5_Words_0.s4 x0 x1 x2 x3) = postbagref5_Words_0.t4 c1 c2 x0 x1 x2 x3 (fun y0 y1 y2 y3 => J (placeOf Tryz.f18 4) (postbagref5_Words_0.s4 y0 y1 y2 y3)) (fun r0 => κ [.str r0]) := by kernel_rfl
theorem postbagref5_Words_0.c (R : Type) (c1 : postbagref5_encoded_0.F R) (c2 : postbagref5_blank_0.F R) (κ : List SV → Option R) (k : Nat) (a0 : ByteArray) :
    runF (postbagref5_Words_0.C R c1 c2) Tryz.f18 10000 k [.str a0] κ = postbagref5_Words_0.e c1 c2 a0 (fun y0 y1 y2 y3 => goto (postbagref5_Words_0.C R c1 c2) (retK (postbagref5_Words_0.C R c1 c2) Tryz.f18.results.toList (List.range 0) κ) 10000 k (placeOf Tryz.f18 4) (postbagref5_Words_0.s4 y0 y1 y2 y3)) (fun r0 => κ [.str r0]) := by kernel_rfl
theorem postbagref5_Words_0.g4 (R : Type) (c1 : postbagref5_encoded_0.F R) (c2 : postbagref5_blank_0.F R) (κ : List SV → Option R) : ∀ (f : Nat) (x0 : ByteArray) (x1 : ByteArray) (x2 : ByteArray) (x3 : Bool), goto (postbagref5_Words_0.C R c1 c2) (retK (postbagref5_Words_0.C R c1 c2) Tryz.f18.results.toList (List.range 0) κ) 10000 f (placeOf Tryz.f18 4) (postbagref5_Words_0.s4 x0 x1 x2 x3) = postbagref5_Words_0.L4 c1 c2 (fun r0 => κ [.str r0]) f x0 x1 x2 x3
  | 0, _, _, _, _ => rfl
  | f + 1, x0, x1, x2, x3 => by
    show start (postbagref5_Words_0.C R c1 c2) (goto (postbagref5_Words_0.C R c1 c2) (retK (postbagref5_Words_0.C R c1 c2) Tryz.f18.results.toList (List.range 0) κ) 10000 f) (retK (postbagref5_Words_0.C R c1 c2) Tryz.f18.results.toList (List.range 0) κ) 10000 (placeOf Tryz.f18 4) (postbagref5_Words_0.s4 x0 x1 x2 x3) = _
    rw [postbagref5_Words_0.c4]
    simp only [postbagref5_Words_0.g4 R c1 c2 κ f]
    rfl
theorem postbagref5_Words_0.run (R : Type) (κ : List SV → Option R) (a0 : ByteArray) :
    runF (postbagref5_Words_0.C R postbagref5_encoded_0 postbagref5_blank_0) Tryz.f18 10000 fuelK [.str a0] κ = postbagref5_Words_0 a0 (fun r0 => κ [.str r0]) := by
  rw [postbagref5_Words_0.c]
  simp only [postbagref5_Words_0.g4 R postbagref5_encoded_0 postbagref5_blank_0 κ fuelK]
  rfl
theorem postbagref5_Words_0.Γ_does {R : Type} (tab : Tab) (ht : TabOk tab) (g : Nat) : Does (R := R) Tryz.prog (tabTy tyL) tab g ((postbagref5_Words_0.C R postbagref5_encoded_0 postbagref5_blank_0).call g) := by
  refine does_of fun xs κ => ?_
  show DoesAt _ _ _ g xs κ (postbagref5_Words_0.Γ postbagref5_encoded_0 postbagref5_blank_0 g xs κ)
  unfold postbagref5_Words_0.Γ
  split
  · split
    · exact postbagref5_encoded_0.does tab ht _ κ
    · exact DoesAt.none
  · split
    · exact postbagref5_blank_0.does tab ht _ κ
    · exact DoesAt.none
  · exact DoesAt.none
theorem postbagref5_Words_0.does {R : Type} (tab : Tab) (ht : TabOk tab) (a0 : ByteArray) (κ : List SV → Option R) : DoesAt Tryz.prog (tabTy tyL) tab 18 [.str a0] κ (postbagref5_Words_0 a0 (fun r0 => κ [.str r0])) := by
  intro r h w vs Rt Ra bs hpre
  exact runF_sound tyOk (postbagref5_Words_0.Γ_does tab ht) (show Tryz.prog.funcs[18]? = some Tryz.f18 by kernel_rfl) (by kernel_rfl) ((postbagref5_Words_0.run R κ a0).trans h) hpre
def postbagref5_isSpace_0.Γ {R : Type} (g : Nat) (xs : List SV) (κ : List SV → Option R) : Option R :=
  match g with
  | _ => none
def postbagref5_isSpace_0.h (n : Nat) : Option (List (Nat × List (Nat × Nat))) :=
  match n with
  | _ => none
def postbagref5_isSpace_0.C (R : Type) : Cfg R := ⟨tabTy tyL, postbagref5_isSpace_0.Γ, fun _ => false, postbagref5_isSpace_0.h⟩
theorem postbagref5_isSpace_0.c (R : Type) (κ : List SV → Option R) (k : Nat) (a0 : Int) :
    runF (postbagref5_isSpace_0.C R) Tryz.f128 10000 k [.int .u8 a0] κ = postbagref5_isSpace_0.e a0 (fun r0 => κ [.bool r0]) := by kernel_rfl
theorem postbagref5_isSpace_0.run (R : Type) (κ : List SV → Option R) (a0 : Int) :
    runF (postbagref5_isSpace_0.C R) Tryz.f128 10000 fuelK [.int .u8 a0] κ = postbagref5_isSpace_0 a0 (fun r0 => κ [.bool r0]) := by
  rw [postbagref5_isSpace_0.c]
  rfl
theorem postbagref5_isSpace_0.Γ_does {R : Type} (tab : Tab) (ht : TabOk tab) (g : Nat) : Does (R := R) Tryz.prog (tabTy tyL) tab g ((postbagref5_isSpace_0.C R).call g) := by
  refine does_of fun xs κ => ?_
  show DoesAt _ _ _ g xs κ (postbagref5_isSpace_0.Γ g xs κ)
  unfold postbagref5_isSpace_0.Γ
  split
  · exact DoesAt.none
theorem postbagref5_isSpace_0.does {R : Type} (tab : Tab) (ht : TabOk tab) (a0 : Int) (κ : List SV → Option R) : DoesAt Tryz.prog (tabTy tyL) tab 128 [.int .u8 a0] κ (postbagref5_isSpace_0 a0 (fun r0 => κ [.bool r0])) := by
  intro r h w vs Rt Ra bs hpre
  exact runF_sound tyOk (postbagref5_isSpace_0.Γ_does tab ht) (show Tryz.prog.funcs[128]? = some Tryz.f128 by kernel_rfl) (by kernel_rfl) ((postbagref5_isSpace_0.run R κ a0).trans h) hpre
def postbagref5_single_0.Γ {R : Type} (c1 : postbagref5_isSpace_0.F R) (g : Nat) (xs : List SV) (κ : List SV → Option R) : Option R :=
  match g with
  | 128 => (match xs with
    | [.int .u8 a0] => c1 a0 (fun r0 => κ [.bool r0])
    | _ => none)
  | _ => none
def postbagref5_single_0.h (n : Nat) : Option (List (Nat × List (Nat × Nat))) :=
  match n with
  | 3 => some [(0, [(0, 0)]), (3, [(0, 7)]), (4, [(0, 0)])]
  | _ => none
def postbagref5_single_0.C (R : Type) (c1 : postbagref5_isSpace_0.F R) : Cfg R := ⟨tabTy tyL, postbagref5_single_0.Γ c1, fun _ => false, postbagref5_single_0.h⟩
def postbagref5_single_0.s3 (x0 : ByteArray) (x1 : Int) (x2 : List AV) : St := ⟨mkS 42 [(0, .str x0), (3, .own 256), (4, .int .i64 x1)], [(256, .row 5 x2 true)], top⟩
theorem postbagref5_single_0.c3 (R : Type) (c1 : postbagref5_isSpace_0.F R) (J : List Item → St → Option R) (κ : List SV → Option R) (x0 : ByteArray) (x1 : Int) (x2 : List AV) :
    start (postbagref5_single_0.C R c1) J (retK (postbagref5_single_0.C R c1) Tryz.f75.results.toList (List.range 0) κ) 10000 (placeOf Tryz.f75 3) (postbagref5_single_0.s3 x0 x1 x2) = postbagref5_single_0.t3 c1 x0 x1 x2 (fun y0 y1 y2 => J (placeOf Tryz.f75 3) (postbagref5_single_0.s3 y0 y1 y2)) (fun r0 => κ [.str r0]) := by kernel_rfl
theorem postbagref5_single_0.c (R : Type) (c1 : postbagref5_isSpace_0.F R) (κ : List SV → Option R) (k : Nat) (a0 : ByteArray) :
    runF (postbagref5_single_0.C R c1) Tryz.f75 10000 k [.str a0] κ = postbagref5_single_0.e c1 a0 (fun y0 y1 y2 => goto (postbagref5_single_0.C R c1) (retK (postbagref5_single_0.C R c1) Tryz.f75.results.toList (List.range 0) κ) 10000 k (placeOf Tryz.f75 3) (postbagref5_single_0.s3 y0 y1 y2)) (fun r0 => κ [.str r0]) := by kernel_rfl
theorem postbagref5_single_0.g3 (R : Type) (c1 : postbagref5_isSpace_0.F R) (κ : List SV → Option R) : ∀ (f : Nat) (x0 : ByteArray) (x1 : Int) (x2 : List AV), goto (postbagref5_single_0.C R c1) (retK (postbagref5_single_0.C R c1) Tryz.f75.results.toList (List.range 0) κ) 10000 f (placeOf Tryz.f75 3) (postbagref5_single_0.s3 x0 x1 x2) = postbagref5_single_0.L3 c1 (fun r0 => κ [.str r0]) f x0 x1 x2
  | 0, _, _, _ => rfl
  | f + 1, x0, x1, x2 => by
    show start (postbagref5_single_0.C R c1) (goto (postbagref5_single_0.C R c1) (retK (postbagref5_single_0.C R c1) Tryz.f75.results.toList (List.range 0) κ) 10000 f) (retK (postbagref5_single_0.C R c1) Tryz.f75.results.toList (List.range 0) κ) 10000 (placeOf Tryz.f75 3) (postbagref5_single_0.s3 x0 x1 x2) = _
    rw [postbagref5_single_0.c3]
    simp only [postbagref5_single_0.g3 R c1 κ f]
    rfl
theorem postbagref5_single_0.run (R : Type) (κ : List SV → Option R) (a0 : ByteArray) :
    runF (postbagref5_single_0.C R postbagref5_isSpace_0) Tryz.f75 10000 fuelK [.str a0] κ = postbagref5_single_0 a0 (fun r0 => κ [.str r0]) := by
  rw [postbagref5_single_0.c]
  simp only [postbagref5_single_0.g3 R postbagref5_isSpace_0 κ fuelK]
  rfl
theorem postbagref5_single_0.Γ_does {R : Type} (tab : Tab) (ht : TabOk tab) (g : Nat) : Does (R := R) Tryz.prog (tabTy tyL) tab g ((postbagref5_single_0.C R postbagref5_isSpace_0).call g) := by
  refine does_of fun xs κ => ?_
  show DoesAt _ _ _ g xs κ (postbagref5_single_0.Γ postbagref5_isSpace_0 g xs κ)
  unfold postbagref5_single_0.Γ
  split
  · split
    · exact postbagref5_isSpace_0.does tab ht _ κ
    · exact DoesAt.none
  · exact DoesAt.none
theorem postbagref5_single_0.does {R : Type} (tab : Tab) (ht : TabOk tab) (a0 : ByteArray) (κ : List SV → Option R) : DoesAt Tryz.prog (tabTy tyL) tab 75 [.str a0] κ (postbagref5_single_0 a0 (fun r0 => κ [.str r0])) := by
  intro r h w vs Rt Ra bs hpre
  exact runF_sound tyOk (postbagref5_single_0.Γ_does tab ht) (show Tryz.prog.funcs[75]? = some Tryz.f75 by kernel_rfl) (by kernel_rfl) ((postbagref5_single_0.run R κ a0).trans h) hpre
def postbagref1_Same_0.Γ {R : Type} (c1 : postbagref1_Lower_0.F R) (g : Nat) (xs : List SV) (κ : List SV → Option R) : Option R :=
  match g with
  | 101 => (match xs with
    | [.str a0] => c1 a0 (fun r0 => κ [.str r0])
    | _ => none)
  | _ => none
def postbagref1_Same_0.h (n : Nat) : Option (List (Nat × List (Nat × Nat))) :=
  match n with
  | _ => none
def postbagref1_Same_0.C (R : Type) (c1 : postbagref1_Lower_0.F R) : Cfg R := ⟨tabTy tyL, postbagref1_Same_0.Γ c1, fun _ => false, postbagref1_Same_0.h⟩
theorem postbagref1_Same_0.c (R : Type) (c1 : postbagref1_Lower_0.F R) (κ : List SV → Option R) (k : Nat) (a0 : ByteArray) (a1 : ByteArray) :
    runF (postbagref1_Same_0.C R c1) Tryz.f50 10000 k [.str a0, .str a1] κ = postbagref1_Same_0.e c1 a0 a1 (fun r0 => κ [.bool r0]) := by kernel_rfl
theorem postbagref1_Same_0.run (R : Type) (κ : List SV → Option R) (a0 : ByteArray) (a1 : ByteArray) :
    runF (postbagref1_Same_0.C R postbagref1_Lower_0) Tryz.f50 10000 fuelK [.str a0, .str a1] κ = postbagref1_Same_0 a0 a1 (fun r0 => κ [.bool r0]) := by
  rw [postbagref1_Same_0.c]
  rfl
theorem postbagref1_Same_0.Γ_does {R : Type} (tab : Tab) (ht : TabOk tab) (g : Nat) : Does (R := R) Tryz.prog (tabTy tyL) tab g ((postbagref1_Same_0.C R postbagref1_Lower_0).call g) := by
  refine does_of fun xs κ => ?_
  show DoesAt _ _ _ g xs κ (postbagref1_Same_0.Γ postbagref1_Lower_0 g xs κ)
  unfold postbagref1_Same_0.Γ
  split
  · split
    · exact postbagref1_Lower_0.does tab ht _ κ
    · exact DoesAt.none
  · exact DoesAt.none
theorem postbagref1_Same_0.does {R : Type} (tab : Tab) (ht : TabOk tab) (a0 : ByteArray) (a1 : ByteArray) (κ : List SV → Option R) : DoesAt Tryz.prog (tabTy tyL) tab 50 [.str a0, .str a1] κ (postbagref1_Same_0 a0 a1 (fun r0 => κ [.bool r0])) := by
  intro r h w vs Rt Ra bs hpre
  exact runF_sound tyOk (postbagref1_Same_0.Γ_does tab ht) (show Tryz.prog.funcs[50]? = some Tryz.f50 by kernel_rfl) (by kernel_rfl) ((postbagref1_Same_0.run R κ a0 a1).trans h) hpre
def postbagref5_ends_0.Γ {R : Type} (c1 : postbagref1_Same_0.F R) (g : Nat) (xs : List SV) (κ : List SV → Option R) : Option R :=
  match g with
  | 50 => (match xs with
    | [.str a0, .str a1] => c1 a0 a1 (fun r0 => κ [.bool r0])
    | _ => none)
  | _ => none
def postbagref5_ends_0.h (n : Nat) : Option (List (Nat × List (Nat × Nat))) :=
  match n with
  | _ => none
def postbagref5_ends_0.C (R : Type) (c1 : postbagref1_Same_0.F R) : Cfg R := ⟨tabTy tyL, postbagref5_ends_0.Γ c1, fun _ => false, postbagref5_ends_0.h⟩
theorem postbagref5_ends_0.c (R : Type) (c1 : postbagref1_Same_0.F R) (κ : List SV → Option R) (k : Nat) (a0 : ByteArray) (a1 : ByteArray) :
    runF (postbagref5_ends_0.C R c1) Tryz.f76 10000 k [.str a0, .str a1] κ = postbagref5_ends_0.e c1 a0 a1 (fun r0 => κ [.bool r0]) := by kernel_rfl
theorem postbagref5_ends_0.run (R : Type) (κ : List SV → Option R) (a0 : ByteArray) (a1 : ByteArray) :
    runF (postbagref5_ends_0.C R postbagref1_Same_0) Tryz.f76 10000 fuelK [.str a0, .str a1] κ = postbagref5_ends_0 a0 a1 (fun r0 => κ [.bool r0]) := by
  rw [postbagref5_ends_0.c]
  rfl
theorem postbagref5_ends_0.Γ_does {R : Type} (tab : Tab) (ht : TabOk tab) (g : Nat) : Does (R := R) Tryz.prog (tabTy tyL) tab g ((postbagref5_ends_0.C R postbagref1_Same_0).call g) := by
  refine does_of fun xs κ => ?_
  show DoesAt _ _ _ g xs κ (postbagref5_ends_0.Γ postbagref1_Same_0 g xs κ)
  unfold postbagref5_ends_0.Γ
  split
  · split
    · exact postbagref1_Same_0.does tab ht _ _ κ
    · exact DoesAt.none
  · exact DoesAt.none
theorem postbagref5_ends_0.does {R : Type} (tab : Tab) (ht : TabOk tab) (a0 : ByteArray) (a1 : ByteArray) (κ : List SV → Option R) : DoesAt Tryz.prog (tabTy tyL) tab 76 [.str a0, .str a1] κ (postbagref5_ends_0 a0 a1 (fun r0 => κ [.bool r0])) := by
  intro r h w vs Rt Ra bs hpre
  exact runF_sound tyOk (postbagref5_ends_0.Γ_does tab ht) (show Tryz.prog.funcs[76]? = some Tryz.f76 by kernel_rfl) (by kernel_rfl) ((postbagref5_ends_0.run R κ a0 a1).trans h) hpre
def postbagref5_begins_0.Γ {R : Type} (c1 : postbagref1_Same_0.F R) (g : Nat) (xs : List SV) (κ : List SV → Option R) : Option R :=
  match g with
  | 50 => (match xs with
    | [.str a0, .str a1] => c1 a0 a1 (fun r0 => κ [.bool r0])
    | _ => none)
  | _ => none
def postbagref5_begins_0.h (n : Nat) : Option (List (Nat × List (Nat × Nat))) :=
  match n with
  | _ => none
def postbagref5_begins_0.C (R : Type) (c1 : postbagref1_Same_0.F R) : Cfg R := ⟨tabTy tyL, postbagref5_begins_0.Γ c1, fun _ => false, postbagref5_begins_0.h⟩
theorem postbagref5_begins_0.c (R : Type) (c1 : postbagref1_Same_0.F R) (κ : List SV → Option R) (k : Nat) (a0 : ByteArray) (a1 : ByteArray) :
    runF (postbagref5_begins_0.C R c1) Tryz.f77 10000 k [.str a0, .str a1] κ = postbagref5_begins_0.e c1 a0 a1 (fun r0 => κ [.bool r0]) := by kernel_rfl
theorem postbagref5_begins_0.run (R : Type) (κ : List SV → Option R) (a0 : ByteArray) (a1 : ByteArray) :
    runF (postbagref5_begins_0.C R postbagref1_Same_0) Tryz.f77 10000 fuelK [.str a0, .str a1] κ = postbagref5_begins_0 a0 a1 (fun r0 => κ [.bool r0]) := by
  rw [postbagref5_begins_0.c]
  rfl
theorem postbagref5_begins_0.Γ_does {R : Type} (tab : Tab) (ht : TabOk tab) (g : Nat) : Does (R := R) Tryz.prog (tabTy tyL) tab g ((postbagref5_begins_0.C R postbagref1_Same_0).call g) := by
  refine does_of fun xs κ => ?_
  show DoesAt _ _ _ g xs κ (postbagref5_begins_0.Γ postbagref1_Same_0 g xs κ)
  unfold postbagref5_begins_0.Γ
  split
  · split
    · exact postbagref1_Same_0.does tab ht _ _ κ
    · exact DoesAt.none
  · exact DoesAt.none
theorem postbagref5_begins_0.does {R : Type} (tab : Tab) (ht : TabOk tab) (a0 : ByteArray) (a1 : ByteArray) (κ : List SV → Option R) : DoesAt Tryz.prog (tabTy tyL) tab 77 [.str a0, .str a1] κ (postbagref5_begins_0 a0 a1 (fun r0 => κ [.bool r0])) := by
  intro r h w vs Rt Ra bs hpre
  exact runF_sound tyOk (postbagref5_begins_0.Γ_does tab ht) (show Tryz.prog.funcs[77]? = some Tryz.f77 by kernel_rfl) (by kernel_rfl) ((postbagref5_begins_0.run R κ a0 a1).trans h) hpre
def postbagref5_blob_0.Γ {R : Type} (g : Nat) (xs : List SV) (κ : List SV → Option R) : Option R :=
  match g with
  | _ => none
def postbagref5_blob_0.h (n : Nat) : Option (List (Nat × List (Nat × Nat))) :=
  match n with
  | 4 => some [(0, [(0, 0)]), (3, [(0, 0)])]
  | 9 => some [(0, [(0, 0)]), (3, [(0, 0)])]
  | _ => none
def postbagref5_blob_0.C (R : Type) : Cfg R := ⟨tabTy tyL, postbagref5_blob_0.Γ, fun _ => false, postbagref5_blob_0.h⟩
def postbagref5_blob_0.s4 (x0 : ByteArray) (x1 : Int) : St := ⟨mkS 55 [(0, .str x0), (3, .int .i64 x1)], [], top⟩
def postbagref5_blob_0.s9 (x0 : ByteArray) (x1 : Int) : St := ⟨mkS 55 [(0, .str x0), (3, .int .i64 x1)], [], top⟩
theorem postbagref5_blob_0.c4 (R : Type) (J : List Item → St → Option R) (κ : List SV → Option R) (x0 : ByteArray) (x1 : Int) :
    start (postbagref5_blob_0.C R) J (retK (postbagref5_blob_0.C R) Tryz.f79.results.toList (List.range 0) κ) 10000 (placeOf Tryz.f79 4) (postbagref5_blob_0.s4 x0 x1) = postbagref5_blob_0.t4 x0 x1 (fun y0 y1 => J (placeOf Tryz.f79 4) (postbagref5_blob_0.s4 y0 y1)) (fun y0 y1 => J (placeOf Tryz.f79 9) (postbagref5_blob_0.s9 y0 y1)) (fun r0 => κ [.int .i64 r0]) := by kernel_rfl
theorem postbagref5_blob_0.c9 (R : Type) (J : List Item → St → Option R) (κ : List SV → Option R) (x0 : ByteArray) (x1 : Int) :
    start (postbagref5_blob_0.C R) J (retK (postbagref5_blob_0.C R) Tryz.f79.results.toList (List.range 0) κ) 10000 (placeOf Tryz.f79 9) (postbagref5_blob_0.s9 x0 x1) = postbagref5_blob_0.t9 x0 x1 (fun y0 y1 => J (placeOf Tryz.f79 4) (postbagref5_blob_0.s4 y0 y1)) (fun y0 y1 => J (placeOf Tryz.f79 9) (postbagref5_blob_0.s9 y0 y1)) (fun r0 => κ [.int .i64 r0]) := by kernel_rfl
theorem postbagref5_blob_0.c (R : Type) (κ : List SV → Option R) (k : Nat) (a0 : ByteArray) :
    runF (postbagref5_blob_0.C R) Tryz.f79 10000 k [.str a0] κ = postbagref5_blob_0.e a0 (fun y0 y1 => goto (postbagref5_blob_0.C R) (retK (postbagref5_blob_0.C R) Tryz.f79.results.toList (List.range 0) κ) 10000 k (placeOf Tryz.f79 4) (postbagref5_blob_0.s4 y0 y1)) (fun y0 y1 => goto (postbagref5_blob_0.C R) (retK (postbagref5_blob_0.C R) Tryz.f79.results.toList (List.range 0) κ) 10000 k (placeOf Tryz.f79 9) (postbagref5_blob_0.s9 y0 y1)) (fun r0 => κ [.int .i64 r0]) := by kernel_rfl
theorem postbagref5_blob_0.g9 (R : Type) (κ : List SV → Option R) : ∀ (f : Nat) (x0 : ByteArray) (x1 : Int), goto (postbagref5_blob_0.C R) (retK (postbagref5_blob_0.C R) Tryz.f79.results.toList (List.range 0) κ) 10000 f (placeOf Tryz.f79 9) (postbagref5_blob_0.s9 x0 x1) = postbagref5_blob_0.L9 (fun r0 => κ [.int .i64 r0]) f x0 x1
  | 0, _, _ => rfl
  | f + 1, x0, x1 => by
    show start (postbagref5_blob_0.C R) (goto (postbagref5_blob_0.C R) (retK (postbagref5_blob_0.C R) Tryz.f79.results.toList (List.range 0) κ) 10000 f) (retK (postbagref5_blob_0.C R) Tryz.f79.results.toList (List.range 0) κ) 10000 (placeOf Tryz.f79 9) (postbagref5_blob_0.s9 x0 x1) = _
    rw [postbagref5_blob_0.c9]
    simp only [postbagref5_blob_0.g9 R κ f]
    rfl
theorem postbagref5_blob_0.g4 (R : Type) (κ : List SV → Option R) : ∀ (f : Nat) (x0 : ByteArray) (x1 : Int), goto (postbagref5_blob_0.C R) (retK (postbagref5_blob_0.C R) Tryz.f79.results.toList (List.range 0) κ) 10000 f (placeOf Tryz.f79 4) (postbagref5_blob_0.s4 x0 x1) = postbagref5_blob_0.L4 (fun r0 => κ [.int .i64 r0]) f x0 x1
  | 0, _, _ => rfl
  | f + 1, x0, x1 => by
    show start (postbagref5_blob_0.C R) (goto (postbagref5_blob_0.C R) (retK (postbagref5_blob_0.C R) Tryz.f79.results.toList (List.range 0) κ) 10000 f) (retK (postbagref5_blob_0.C R) Tryz.f79.results.toList (List.range 0) κ) 10000 (placeOf Tryz.f79 4) (postbagref5_blob_0.s4 x0 x1) = _
    rw [postbagref5_blob_0.c4]
    simp only [postbagref5_blob_0.g4 R κ f, postbagref5_blob_0.g9 R κ f]
    rfl
theorem postbagref5_blob_0.run (R : Type) (κ : List SV → Option R) (a0 : ByteArray) :
    runF (postbagref5_blob_0.C R) Tryz.f79 10000 fuelK [.str a0] κ = postbagref5_blob_0 a0 (fun r0 => κ [.int .i64 r0]) := by
  rw [postbagref5_blob_0.c]
  simp only [postbagref5_blob_0.g4 R κ fuelK, postbagref5_blob_0.g9 R κ fuelK]
  rfl
theorem postbagref5_blob_0.Γ_does {R : Type} (tab : Tab) (ht : TabOk tab) (g : Nat) : Does (R := R) Tryz.prog (tabTy tyL) tab g ((postbagref5_blob_0.C R).call g) := by
  refine does_of fun xs κ => ?_
  show DoesAt _ _ _ g xs κ (postbagref5_blob_0.Γ g xs κ)
  unfold postbagref5_blob_0.Γ
  split
  · exact DoesAt.none
theorem postbagref5_blob_0.does {R : Type} (tab : Tab) (ht : TabOk tab) (a0 : ByteArray) (κ : List SV → Option R) : DoesAt Tryz.prog (tabTy tyL) tab 79 [.str a0] κ (postbagref5_blob_0 a0 (fun r0 => κ [.int .i64 r0])) := by
  intro r h w vs Rt Ra bs hpre
  exact runF_sound tyOk (postbagref5_blob_0.Γ_does tab ht) (show Tryz.prog.funcs[79]? = some Tryz.f79 by kernel_rfl) (by kernel_rfl) ((postbagref5_blob_0.run R κ a0).trans h) hpre
def postbagref5_leader_0.Γ {R : Type} (c1 : postbagref5_blob_0.F R) (c2 : postbagref5_begins_0.F R) (g : Nat) (xs : List SV) (κ : List SV → Option R) : Option R :=
  match g with
  | 77 => (match xs with
    | [.str a0, .str a1] => c2 a0 a1 (fun r0 => κ [.bool r0])
    | _ => none)
  | 79 => (match xs with
    | [.str a0] => c1 a0 (fun r0 => κ [.int .i64 r0])
    | _ => none)
  | _ => none
def postbagref5_leader_0.h (n : Nat) : Option (List (Nat × List (Nat × Nat))) :=
  match n with
  | 2 => some [(0, [(0, 0)]), (3, [(0, 0)])]
  | 11 => some [(0, [(0, 0)]), (3, [(0, 0)])]
  | _ => none
def postbagref5_leader_0.C (R : Type) (c1 : postbagref5_blob_0.F R) (c2 : postbagref5_begins_0.F R) : Cfg R := ⟨tabTy tyL, postbagref5_leader_0.Γ c1 c2, fun _ => false, postbagref5_leader_0.h⟩
def postbagref5_leader_0.s2 (x0 : ByteArray) (x1 : Int) : St := ⟨mkS 66 [(0, .str x0), (3, .int .i64 x1)], [], top⟩
def postbagref5_leader_0.s11 (x0 : ByteArray) (x1 : Int) : St := ⟨mkS 66 [(0, .str x0), (3, .int .i64 x1)], [], top⟩
theorem postbagref5_leader_0.c2 (R : Type) (c1 : postbagref5_blob_0.F R) (c2 : postbagref5_begins_0.F R) (J : List Item → St → Option R) (κ : List SV → Option R) (x0 : ByteArray) (x1 : Int) :
    start (postbagref5_leader_0.C R c1 c2) J (retK (postbagref5_leader_0.C R c1 c2) Tryz.f78.results.toList (List.range 0) κ) 10000 (placeOf Tryz.f78 2) (postbagref5_leader_0.s2 x0 x1) = postbagref5_leader_0.t2 c1 c2 x0 x1 (fun y0 y1 => J (placeOf Tryz.f78 2) (postbagref5_leader_0.s2 y0 y1)) (fun y0 y1 => J (placeOf Tryz.f78 11) (postbagref5_leader_0.s11 y0 y1)) (fun r0 => κ [.int .i64 r0]) := by kernel_rfl
theorem postbagref5_leader_0.c11 (R : Type) (c1 : postbagref5_blob_0.F R) (c2 : postbagref5_begins_0.F R) (J : List Item → St → Option R) (κ : List SV → Option R) (x0 : ByteArray) (x1 : Int) :
    start (postbagref5_leader_0.C R c1 c2) J (retK (postbagref5_leader_0.C R c1 c2) Tryz.f78.results.toList (List.range 0) κ) 10000 (placeOf Tryz.f78 11) (postbagref5_leader_0.s11 x0 x1) = postbagref5_leader_0.t11 c1 c2 x0 x1 (fun y0 y1 => J (placeOf Tryz.f78 2) (postbagref5_leader_0.s2 y0 y1)) (fun y0 y1 => J (placeOf Tryz.f78 11) (postbagref5_leader_0.s11 y0 y1)) (fun r0 => κ [.int .i64 r0]) := by kernel_rfl
theorem postbagref5_leader_0.c (R : Type) (c1 : postbagref5_blob_0.F R) (c2 : postbagref5_begins_0.F R) (κ : List SV → Option R) (k : Nat) (a0 : ByteArray) :
    runF (postbagref5_leader_0.C R c1 c2) Tryz.f78 10000 k [.str a0] κ = postbagref5_leader_0.e c1 c2 a0 (fun y0 y1 => goto (postbagref5_leader_0.C R c1 c2) (retK (postbagref5_leader_0.C R c1 c2) Tryz.f78.results.toList (List.range 0) κ) 10000 k (placeOf Tryz.f78 2) (postbagref5_leader_0.s2 y0 y1)) (fun y0 y1 => goto (postbagref5_leader_0.C R c1 c2) (retK (postbagref5_leader_0.C R c1 c2) Tryz.f78.results.toList (List.range 0) κ) 10000 k (placeOf Tryz.f78 11) (postbagref5_leader_0.s11 y0 y1)) (fun r0 => κ [.int .i64 r0]) := by kernel_rfl
theorem postbagref5_leader_0.g11 (R : Type) (c1 : postbagref5_blob_0.F R) (c2 : postbagref5_begins_0.F R) (κ : List SV → Option R) : ∀ (f : Nat) (x0 : ByteArray) (x1 : Int), goto (postbagref5_leader_0.C R c1 c2) (retK (postbagref5_leader_0.C R c1 c2) Tryz.f78.results.toList (List.range 0) κ) 10000 f (placeOf Tryz.f78 11) (postbagref5_leader_0.s11 x0 x1) = postbagref5_leader_0.L11 c1 c2 (fun r0 => κ [.int .i64 r0]) f x0 x1
  | 0, _, _ => rfl
  | f + 1, x0, x1 => by
    show start (postbagref5_leader_0.C R c1 c2) (goto (postbagref5_leader_0.C R c1 c2) (retK (postbagref5_leader_0.C R c1 c2) Tryz.f78.results.toList (List.range 0) κ) 10000 f) (retK (postbagref5_leader_0.C R c1 c2) Tryz.f78.results.toList (List.range 0) κ) 10000 (placeOf Tryz.f78 11) (postbagref5_leader_0.s11 x0 x1) = _
    rw [postbagref5_leader_0.c11]
    simp only [postbagref5_leader_0.g11 R c1 c2 κ f]
    rfl
theorem postbagref5_leader_0.g2 (R : Type) (c1 : postbagref5_blob_0.F R) (c2 : postbagref5_begins_0.F R) (κ : List SV → Option R) : ∀ (f : Nat) (x0 : ByteArray) (x1 : Int), goto (postbagref5_leader_0.C R c1 c2) (retK (postbagref5_leader_0.C R c1 c2) Tryz.f78.results.toList (List.range 0) κ) 10000 f (placeOf Tryz.f78 2) (postbagref5_leader_0.s2 x0 x1) = postbagref5_leader_0.L2 c1 c2 (fun r0 => κ [.int .i64 r0]) f x0 x1
  | 0, _, _ => rfl
  | f + 1, x0, x1 => by
    show start (postbagref5_leader_0.C R c1 c2) (goto (postbagref5_leader_0.C R c1 c2) (retK (postbagref5_leader_0.C R c1 c2) Tryz.f78.results.toList (List.range 0) κ) 10000 f) (retK (postbagref5_leader_0.C R c1 c2) Tryz.f78.results.toList (List.range 0) κ) 10000 (placeOf Tryz.f78 2) (postbagref5_leader_0.s2 x0 x1) = _
    rw [postbagref5_leader_0.c2]
    simp only [postbagref5_leader_0.g2 R c1 c2 κ f, postbagref5_leader_0.g11 R c1 c2 κ f]
    rfl
theorem postbagref5_leader_0.run (R : Type) (κ : List SV → Option R) (a0 : ByteArray) :
    runF (postbagref5_leader_0.C R postbagref5_blob_0 postbagref5_begins_0) Tryz.f78 10000 fuelK [.str a0] κ = postbagref5_leader_0 a0 (fun r0 => κ [.int .i64 r0]) := by
  rw [postbagref5_leader_0.c]
  simp only [postbagref5_leader_0.g2 R postbagref5_blob_0 postbagref5_begins_0 κ fuelK, postbagref5_leader_0.g11 R postbagref5_blob_0 postbagref5_begins_0 κ fuelK]
  rfl
theorem postbagref5_leader_0.Γ_does {R : Type} (tab : Tab) (ht : TabOk tab) (g : Nat) : Does (R := R) Tryz.prog (tabTy tyL) tab g ((postbagref5_leader_0.C R postbagref5_blob_0 postbagref5_begins_0).call g) := by
  refine does_of fun xs κ => ?_
  show DoesAt _ _ _ g xs κ (postbagref5_leader_0.Γ postbagref5_blob_0 postbagref5_begins_0 g xs κ)
  unfold postbagref5_leader_0.Γ
  split
  · split
    · exact postbagref5_begins_0.does tab ht _ _ κ
    · exact DoesAt.none
  · split
    · exact postbagref5_blob_0.does tab ht _ κ
    · exact DoesAt.none
  · exact DoesAt.none
theorem postbagref5_leader_0.does {R : Type} (tab : Tab) (ht : TabOk tab) (a0 : ByteArray) (κ : List SV → Option R) : DoesAt Tryz.prog (tabTy tyL) tab 78 [.str a0] κ (postbagref5_leader_0 a0 (fun r0 => κ [.int .i64 r0])) := by
  intro r h w vs Rt Ra bs hpre
  exact runF_sound tyOk (postbagref5_leader_0.Γ_does tab ht) (show Tryz.prog.funcs[78]? = some Tryz.f78 by kernel_rfl) (by kernel_rfl) ((postbagref5_leader_0.run R κ a0).trans h) hpre
def postbagref5_Base_0.Γ {R : Type} (c1 : postbagref5_Words_0.F R) (c2 : postbagref5_single_0.F R) (c3 : postbagref5_ends_0.F R) (c4 : postbagref5_begins_0.F R) (c5 : postbagref5_leader_0.F R) (c6 : postbagref5_blob_0.F R) (g : Nat) (xs : List SV) (κ : List SV → Option R) : Option R :=
  match g with
  | 18 => (match xs with
    | [.str a0] => c1 a0 (fun r0 => κ [.str r0])
    | _ => none)
  | 75 => (match xs with
    | [.str a0] => c2 a0 (fun r0 => κ [.str r0])
    | _ => none)
  | 76 => (match xs with
    | [.str a0, .str a1] => c3 a0 a1 (fun r0 => κ [.bool r0])
    | _ => none)
  | 77 => (match xs with
    | [.str a0, .str a1] => c4 a0 a1 (fun r0 => κ [.bool r0])
    | _ => none)
  | 78 => (match xs with
    | [.str a0] => c5 a0 (fun r0 => κ [.int .i64 r0])
    | _ => none)
  | 79 => (match xs with
    | [.str a0] => c6 a0 (fun r0 => κ [.int .i64 r0])
    | _ => none)
  | _ => none
def postbagref5_Base_0.h (n : Nat) : Option (List (Nat × List (Nat × Nat))) :=
  match n with
  | 3 => some [(4, [(0, 0)]), (5, [(0, 0)])]
  | _ => none
def postbagref5_Base_0.C (R : Type) (c1 : postbagref5_Words_0.F R) (c2 : postbagref5_single_0.F R) (c3 : postbagref5_ends_0.F R) (c4 : postbagref5_begins_0.F R) (c5 : postbagref5_leader_0.F R) (c6 : postbagref5_blob_0.F R) : Cfg R := ⟨tabTy tyL, postbagref5_Base_0.Γ c1 c2 c3 c4 c5 c6, fun _ => false, postbagref5_Base_0.h⟩
def postbagref5_Base_0.s3 (x0 : ByteArray) (x1 : Bool) : St := ⟨mkS 66 [(4, .str x0), (5, .bool x1)], [], top⟩
theorem postbagref5_Base_0.c3 (R : Type) (c1 : postbagref5_Words_0.F R) (c2 : postbagref5_single_0.F R) (c3 : postbagref5_ends_0.F R) (c4 : postbagref5_begins_0.F R) (c5 : postbagref5_leader_0.F R) (c6 : postbagref5_blob_0.F R) (J : List Item → St → Option R) (κ : List SV → Option R) (x0 : ByteArray) (x1 : Bool) :
    start (postbagref5_Base_0.C R c1 c2 c3 c4 c5 c6) J (retK (postbagref5_Base_0.C R c1 c2 c3 c4 c5 c6) Tryz.f26.results.toList (List.range 0) κ) 10000 (placeOf Tryz.f26 3) (postbagref5_Base_0.s3 x0 x1) = postbagref5_Base_0.t3 c1 c2 c3 c4 c5 c6 x0 x1 (fun y0 y1 => J (placeOf Tryz.f26 3) (postbagref5_Base_0.s3 y0 y1)) (fun r0 r1 => κ [.tup [.str r0, .bool r1]]) := by kernel_rfl
theorem postbagref5_Base_0.c (R : Type) (c1 : postbagref5_Words_0.F R) (c2 : postbagref5_single_0.F R) (c3 : postbagref5_ends_0.F R) (c4 : postbagref5_begins_0.F R) (c5 : postbagref5_leader_0.F R) (c6 : postbagref5_blob_0.F R) (κ : List SV → Option R) (k : Nat) (a0 : ByteArray) :
    runF (postbagref5_Base_0.C R c1 c2 c3 c4 c5 c6) Tryz.f26 10000 k [.str a0] κ = postbagref5_Base_0.e c1 c2 c3 c4 c5 c6 a0 (fun y0 y1 => goto (postbagref5_Base_0.C R c1 c2 c3 c4 c5 c6) (retK (postbagref5_Base_0.C R c1 c2 c3 c4 c5 c6) Tryz.f26.results.toList (List.range 0) κ) 10000 k (placeOf Tryz.f26 3) (postbagref5_Base_0.s3 y0 y1)) (fun r0 r1 => κ [.tup [.str r0, .bool r1]]) := by kernel_rfl
theorem postbagref5_Base_0.g3 (R : Type) (c1 : postbagref5_Words_0.F R) (c2 : postbagref5_single_0.F R) (c3 : postbagref5_ends_0.F R) (c4 : postbagref5_begins_0.F R) (c5 : postbagref5_leader_0.F R) (c6 : postbagref5_blob_0.F R) (κ : List SV → Option R) : ∀ (f : Nat) (x0 : ByteArray) (x1 : Bool), goto (postbagref5_Base_0.C R c1 c2 c3 c4 c5 c6) (retK (postbagref5_Base_0.C R c1 c2 c3 c4 c5 c6) Tryz.f26.results.toList (List.range 0) κ) 10000 f (placeOf Tryz.f26 3) (postbagref5_Base_0.s3 x0 x1) = postbagref5_Base_0.L3 c1 c2 c3 c4 c5 c6 (fun r0 r1 => κ [.tup [.str r0, .bool r1]]) f x0 x1
  | 0, _, _ => rfl
  | f + 1, x0, x1 => by
    show start (postbagref5_Base_0.C R c1 c2 c3 c4 c5 c6) (goto (postbagref5_Base_0.C R c1 c2 c3 c4 c5 c6) (retK (postbagref5_Base_0.C R c1 c2 c3 c4 c5 c6) Tryz.f26.results.toList (List.range 0) κ) 10000 f) (retK (postbagref5_Base_0.C R c1 c2 c3 c4 c5 c6) Tryz.f26.results.toList (List.range 0) κ) 10000 (placeOf Tryz.f26 3) (postbagref5_Base_0.s3 x0 x1) = _
    rw [postbagref5_Base_0.c3]
    simp only [postbagref5_Base_0.g3 R c1 c2 c3 c4 c5 c6 κ f]
    rfl
theorem postbagref5_Base_0.run (R : Type) (κ : List SV → Option R) (a0 : ByteArray) :
    runF (postbagref5_Base_0.C R postbagref5_Words_0 postbagref5_single_0 postbagref5_ends_0 postbagref5_begins_0 postbagref5_leader_0 postbagref5_blob_0) Tryz.f26 10000 fuelK [.str a0] κ = postbagref5_Base_0 a0 (fun r0 r1 => κ [.tup [.str r0, .bool r1]]) := by
  rw [postbagref5_Base_0.c]
  simp only [postbagref5_Base_0.g3 R postbagref5_Words_0 postbagref5_single_0 postbagref5_ends_0 postbagref5_begins_0 postbagref5_leader_0 postbagref5_blob_0 κ fuelK]
  rfl
theorem postbagref5_Base_0.Γ_does {R : Type} (tab : Tab) (ht : TabOk tab) (g : Nat) : Does (R := R) Tryz.prog (tabTy tyL) tab g ((postbagref5_Base_0.C R postbagref5_Words_0 postbagref5_single_0 postbagref5_ends_0 postbagref5_begins_0 postbagref5_leader_0 postbagref5_blob_0).call g) := by
  refine does_of fun xs κ => ?_
  show DoesAt _ _ _ g xs κ (postbagref5_Base_0.Γ postbagref5_Words_0 postbagref5_single_0 postbagref5_ends_0 postbagref5_begins_0 postbagref5_leader_0 postbagref5_blob_0 g xs κ)
  unfold postbagref5_Base_0.Γ
  split
  · split
    · exact postbagref5_Words_0.does tab ht _ κ
    · exact DoesAt.none
  · split
    · exact postbagref5_single_0.does tab ht _ κ
    · exact DoesAt.none
  · split
    · exact postbagref5_ends_0.does tab ht _ _ κ
    · exact DoesAt.none
  · split
    · exact postbagref5_begins_0.does tab ht _ _ κ
    · exact DoesAt.none
  · split
    · exact postbagref5_leader_0.does tab ht _ κ
    · exact DoesAt.none
  · split
    · exact postbagref5_blob_0.does tab ht _ κ
    · exact DoesAt.none
  · exact DoesAt.none
theorem postbagref5_Base_0.does {R : Type} (tab : Tab) (ht : TabOk tab) (a0 : ByteArray) (κ : List SV → Option R) : DoesAt Tryz.prog (tabTy tyL) tab 26 [.str a0] κ (postbagref5_Base_0 a0 (fun r0 r1 => κ [.tup [.str r0, .bool r1]])) := by
  intro r h w vs Rt Ra bs hpre
  exact runF_sound tyOk (postbagref5_Base_0.Γ_does tab ht) (show Tryz.prog.funcs[26]? = some Tryz.f26 by kernel_rfl) (by kernel_rfl) ((postbagref5_Base_0.run R κ a0).trans h) hpre
theorem stringslite_Index_0.does {R : Type} (tab : Tab) (ht : TabOk tab) (a0 a1 : ByteArray) (κ : List SV → Option R) : DoesAt Tryz.prog (tabTy tyL) tab 130 [.str a0, .str a1] κ (stringslite_Index_0 a0 a1 (fun r0 => κ [.int .i64 r0])) := by
  obtain ⟨m, cs, t, fz, ht, hm⟩ := ht
  exact chk_does fun h => strs2_does Tryz.call130 a0 a1 (.int .i64 _) (fun w hw => Any.stringslite_Index Tryz.lays219 a0 a1 m w (of_decide_eq_true h) (tab_cell hm (hw _ _ ht))) (fun c => res_int) κ
def strings_Index_0.Γ {R : Type} (c1 : stringslite_Index_0.F R) (g : Nat) (xs : List SV) (κ : List SV → Option R) : Option R :=
  match g with
  | 130 => (match xs with
    | [.str a0, .str a1] => c1 a0 a1 (fun r0 => κ [.int .i64 r0])
    | _ => none)
  | _ => none
def strings_Index_0.h (n : Nat) : Option (List (Nat × List (Nat × Nat))) :=
  match n with
  | _ => none
def strings_Index_0.C (R : Type) (c1 : stringslite_Index_0.F R) : Cfg R := ⟨tabTy tyL, strings_Index_0.Γ c1, fun _ => false, strings_Index_0.h⟩
theorem strings_Index_0.c (R : Type) (c1 : stringslite_Index_0.F R) (κ : List SV → Option R) (k : Nat) (a0 : ByteArray) (a1 : ByteArray) :
    runF (strings_Index_0.C R c1) Tryz.f85 10000 k [.str a0, .str a1] κ = strings_Index_0.e c1 a0 a1 (fun r0 => κ [.int .i64 r0]) := by kernel_rfl
theorem strings_Index_0.run (R : Type) (κ : List SV → Option R) (a0 : ByteArray) (a1 : ByteArray) :
    runF (strings_Index_0.C R stringslite_Index_0) Tryz.f85 10000 fuelK [.str a0, .str a1] κ = strings_Index_0 a0 a1 (fun r0 => κ [.int .i64 r0]) := by
  rw [strings_Index_0.c]
  rfl
theorem strings_Index_0.Γ_does {R : Type} (tab : Tab) (ht : TabOk tab) (g : Nat) : Does (R := R) Tryz.prog (tabTy tyL) tab g ((strings_Index_0.C R stringslite_Index_0).call g) := by
  refine does_of fun xs κ => ?_
  show DoesAt _ _ _ g xs κ (strings_Index_0.Γ stringslite_Index_0 g xs κ)
  unfold strings_Index_0.Γ
  split
  · split
    · exact stringslite_Index_0.does tab ht _ _ κ
    · exact DoesAt.none
  · exact DoesAt.none
theorem strings_Index_0.does {R : Type} (tab : Tab) (ht : TabOk tab) (a0 : ByteArray) (a1 : ByteArray) (κ : List SV → Option R) : DoesAt Tryz.prog (tabTy tyL) tab 85 [.str a0, .str a1] κ (strings_Index_0 a0 a1 (fun r0 => κ [.int .i64 r0])) := by
  intro r h w vs Rt Ra bs hpre
  exact runF_sound tyOk (strings_Index_0.Γ_does tab ht) (show Tryz.prog.funcs[85]? = some Tryz.f85 by kernel_rfl) (by kernel_rfl) ((strings_Index_0.run R κ a0 a1).trans h) hpre
def letter_Split_0.Γ {R : Type} (c1 : strings_HasPrefix_0.F R) (c2 : strings_Index_0.F R) (g : Nat) (xs : List SV) (κ : List SV → Option R) : Option R :=
  match g with
  | 84 => (match xs with
    | [.str a0, .str a1] => c1 a0 a1 (fun r0 => κ [.bool r0])
    | _ => none)
  | 85 => (match xs with
    | [.str a0, .str a1] => c2 a0 a1 (fun r0 => κ [.int .i64 r0])
    | _ => none)
  | _ => none
def letter_Split_0.h (n : Nat) : Option (List (Nat × List (Nat × Nat))) :=
  match n with
  | _ => none
def letter_Split_0.C (R : Type) (c1 : strings_HasPrefix_0.F R) (c2 : strings_Index_0.F R) : Cfg R := ⟨tabTy tyL, letter_Split_0.Γ c1 c2, fun _ => false, letter_Split_0.h⟩
theorem letter_Split_0.c (R : Type) (c1 : strings_HasPrefix_0.F R) (c2 : strings_Index_0.F R) (κ : List SV → Option R) (k : Nat) (a0 : ByteArray) :
    runF (letter_Split_0.C R c1 c2) Tryz.f44 10000 k [.str a0] κ = letter_Split_0.e c1 c2 a0 (fun r0 r1 => κ [.tup [.str r0, .str r1]]) := by kernel_rfl
theorem letter_Split_0.run (R : Type) (κ : List SV → Option R) (a0 : ByteArray) :
    runF (letter_Split_0.C R strings_HasPrefix_0 strings_Index_0) Tryz.f44 10000 fuelK [.str a0] κ = letter_Split_0 a0 (fun r0 r1 => κ [.tup [.str r0, .str r1]]) := by
  rw [letter_Split_0.c]
  rfl
theorem letter_Split_0.Γ_does {R : Type} (tab : Tab) (ht : TabOk tab) (g : Nat) : Does (R := R) Tryz.prog (tabTy tyL) tab g ((letter_Split_0.C R strings_HasPrefix_0 strings_Index_0).call g) := by
  refine does_of fun xs κ => ?_
  show DoesAt _ _ _ g xs κ (letter_Split_0.Γ strings_HasPrefix_0 strings_Index_0 g xs κ)
  unfold letter_Split_0.Γ
  split
  · split
    · exact strings_HasPrefix_0.does tab ht _ _ κ
    · exact DoesAt.none
  · split
    · exact strings_Index_0.does tab ht _ _ κ
    · exact DoesAt.none
  · exact DoesAt.none
theorem letter_Split_0.does {R : Type} (tab : Tab) (ht : TabOk tab) (a0 : ByteArray) (κ : List SV → Option R) : DoesAt Tryz.prog (tabTy tyL) tab 44 [.str a0] κ (letter_Split_0 a0 (fun r0 r1 => κ [.tup [.str r0, .str r1]])) := by
  intro r h w vs Rt Ra bs hpre
  exact runF_sound tyOk (letter_Split_0.Γ_does tab ht) (show Tryz.prog.funcs[44]? = some Tryz.f44 by kernel_rfl) (by kernel_rfl) ((letter_Split_0.run R κ a0).trans h) hpre
end Go.Proofs.Ab
