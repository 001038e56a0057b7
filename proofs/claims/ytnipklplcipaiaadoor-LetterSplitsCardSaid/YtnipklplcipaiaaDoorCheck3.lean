/- Each plain function is what a call of its Go function does, checked by the kernel (no condition but what its checks ask). -/
import Derived.Test.YtnipklplcipaiaaDoorSeat
import Derived.Test.YtnipklplcipaiaaDoorText
import Derived.Test.YtnipklplcipaiaaDoorCheck2
/- Each typed text is what its function does: checked by the kernel. -/
namespace Go.Proofs.Ab
set_option linter.unusedVariables false
set_option maxRecDepth 4000
open Go Go.Proofs
set_option maxRecDepth 100000
def letter_wide_0.Γ {R : Type} (c_strings_Builder_WriteByte_1 : List AV → Int → (List AV → Option R) → Option R) (c_strings_Builder_String_0 : List AV → (ByteArray → Option R) → Option R) (g : Nat) (xs : List SV) (κ : List SV → Option R) : Option R :=
  match g with
  | 41 => (match xs with
    | [.vp 63 [.nos, .fr 5 a0 true]] => c_strings_Builder_String_0 a0 (fun r0 => κ [.str r0, .vp 63 [.nos, .no]])
    | _ => none)
  | 75 => (match xs with
    | [.vp 63 [.nos, .fr 5 a0 true], .int .u8 a1] => c_strings_Builder_WriteByte_1 a0 a1 (fun r0 => κ [.nili, .vp 63 [.nos, .fr 5 r0 true]])
    | _ => none)
  | _ => none
def letter_wide_0.h (n : Nat) : Option (List (Nat × List (Nat × Nat))) :=
  match n with
  | 3 => some [(0, [(0, 0)]), (3, [(1, 7)]), (6, [(0, 0)]), (7, [(0, 0)])]
  | _ => none
def letter_wide_0.C (R : Type) (c_strings_Builder_WriteByte_1 : List AV → Int → (List AV → Option R) → Option R) (c_strings_Builder_String_0 : List AV → (ByteArray → Option R) → Option R) : Cfg R := ⟨tabTy tyL, letter_wide_0.Γ c_strings_Builder_WriteByte_1 c_strings_Builder_String_0, fun _ => false, letter_wide_0.h⟩
def letter_wide_0.s3 (x0 : ByteArray) (x1 : Int) (x2 : Int) (x3 : List AV) : St := ⟨mkS 32 [(0, .str x0), (3, .ptr 319 0), (6, .int .i64 x1), (7, .int .i64 x2)], [(319, .var 63 [.nos, .own 257]), (257, .row 5 x3 true)], top⟩
theorem letter_wide_0.c3 (R : Type) (c_strings_Builder_WriteByte_1 : List AV → Int → (List AV → Option R) → Option R) (c_strings_Builder_String_0 : List AV → (ByteArray → Option R) → Option R) (J : List Item → St → Option R) (κ : List SV → Option R) (x0 : ByteArray) (x1 : Int) (x2 : Int) (x3 : List AV) :
    start (letter_wide_0.C R c_strings_Builder_WriteByte_1 c_strings_Builder_String_0) J (retK (letter_wide_0.C R c_strings_Builder_WriteByte_1 c_strings_Builder_String_0) Tryd.f73.results.toList (List.range 0) κ) 10000 (placeOf Tryd.f73 3) (letter_wide_0.s3 x0 x1 x2 x3) = letter_wide_0.t3 c_strings_Builder_WriteByte_1 c_strings_Builder_String_0 x0 x1 x2 x3 (fun y0 y1 y2 y3 => J (placeOf Tryd.f73 3) (letter_wide_0.s3 y0 y1 y2 y3)) (fun r0 => κ [.str r0]) := by kernel_rfl
theorem letter_wide_0.c (R : Type) (c_strings_Builder_WriteByte_1 : List AV → Int → (List AV → Option R) → Option R) (c_strings_Builder_String_0 : List AV → (ByteArray → Option R) → Option R) (κ : List SV → Option R) (k : Nat) (a0 : ByteArray) :
    runF (letter_wide_0.C R c_strings_Builder_WriteByte_1 c_strings_Builder_String_0) Tryd.f73 10000 k [.str a0] κ = letter_wide_0.e c_strings_Builder_WriteByte_1 c_strings_Builder_String_0 a0 (fun y0 y1 y2 y3 => goto (letter_wide_0.C R c_strings_Builder_WriteByte_1 c_strings_Builder_String_0) (retK (letter_wide_0.C R c_strings_Builder_WriteByte_1 c_strings_Builder_String_0) Tryd.f73.results.toList (List.range 0) κ) 10000 k (placeOf Tryd.f73 3) (letter_wide_0.s3 y0 y1 y2 y3)) (fun r0 => κ [.str r0]) := by kernel_rfl
theorem letter_wide_0.g3 (R : Type) (c_strings_Builder_WriteByte_1 : List AV → Int → (List AV → Option R) → Option R) (c_strings_Builder_String_0 : List AV → (ByteArray → Option R) → Option R) (κ : List SV → Option R) : ∀ (f : Nat) (x0 : ByteArray) (x1 : Int) (x2 : Int) (x3 : List AV), goto (letter_wide_0.C R c_strings_Builder_WriteByte_1 c_strings_Builder_String_0) (retK (letter_wide_0.C R c_strings_Builder_WriteByte_1 c_strings_Builder_String_0) Tryd.f73.results.toList (List.range 0) κ) 10000 f (placeOf Tryd.f73 3) (letter_wide_0.s3 x0 x1 x2 x3) = letter_wide_0.L3 c_strings_Builder_WriteByte_1 c_strings_Builder_String_0 (fun r0 => κ [.str r0]) f x0 x1 x2 x3
  | 0, _, _, _, _ => rfl
  | f + 1, x0, x1, x2, x3 => by
    show start (letter_wide_0.C R c_strings_Builder_WriteByte_1 c_strings_Builder_String_0) (goto (letter_wide_0.C R c_strings_Builder_WriteByte_1 c_strings_Builder_String_0) (retK (letter_wide_0.C R c_strings_Builder_WriteByte_1 c_strings_Builder_String_0) Tryd.f73.results.toList (List.range 0) κ) 10000 f) (retK (letter_wide_0.C R c_strings_Builder_WriteByte_1 c_strings_Builder_String_0) Tryd.f73.results.toList (List.range 0) κ) 10000 (placeOf Tryd.f73 3) (letter_wide_0.s3 x0 x1 x2 x3) = _
    rw [letter_wide_0.c3]
    simp only [letter_wide_0.g3 R c_strings_Builder_WriteByte_1 c_strings_Builder_String_0 κ f]
    rfl
theorem letter_wide_0.run (R : Type) (κ : List SV → Option R) (a0 : ByteArray) :
    runF (letter_wide_0.C R strings_Builder_WriteByte_1 strings_Builder_String_0) Tryd.f73 10000 fuelK [.str a0] κ = letter_wide_0 a0 (fun r0 => κ [.str r0]) := by
  rw [letter_wide_0.c]
  simp only [letter_wide_0.g3 R strings_Builder_WriteByte_1 strings_Builder_String_0 κ fuelK]
  rfl
theorem letter_wide_0.Γ_does {R : Type} (tab : Tab) (ht : TabOk tab) (g : Nat) : Does (R := R) Tryd.prog (tabTy tyL) tab g ((letter_wide_0.C R strings_Builder_WriteByte_1 strings_Builder_String_0).call g) := by
  refine does_of fun xs κ => ?_
  show DoesAt _ _ _ g xs κ (letter_wide_0.Γ strings_Builder_WriteByte_1 strings_Builder_String_0 g xs κ)
  unfold letter_wide_0.Γ
  split
  · split
    · exact strings_Builder_String_0.does tab ht _ κ
    · exact DoesAt.none
  · split
    · exact strings_Builder_WriteByte_1.does tab ht _ _ κ
    · exact DoesAt.none
  · exact DoesAt.none
theorem letter_wide_0.does {R : Type} (tab : Tab) (ht : TabOk tab) (a0 : ByteArray) (κ : List SV → Option R) : DoesAt Tryd.prog (tabTy tyL) tab 73 [.str a0] κ (letter_wide_0 a0 (fun r0 => κ [.str r0])) := by
  intro r h w vs Rt Ra bs hpre
  exact runF_sound tyOk (letter_wide_0.Γ_does tab ht) (show Tryd.prog.funcs[73]? = some Tryd.f73 by kernel_rfl) (by kernel_rfl) ((letter_wide_0.run R κ a0).trans h) hpre
def letter_hex_0.Γ {R : Type} (c_octet_Lower_0 : ByteArray → (ByteArray → Option R) → Option R) (c_strings_IndexByte_0 : ByteArray → Int → (Int → Option R) → Option R) (g : Nat) (xs : List SV) (κ : List SV → Option R) : Option R :=
  match g with
  | 37 => (match xs with
    | [.str a0, .int .u8 a1] => c_strings_IndexByte_0 a0 a1 (fun r0 => κ [.int .i64 r0])
    | _ => none)
  | 57 => (match xs with
    | [.str a0] => c_octet_Lower_0 a0 (fun r0 => κ [.str r0])
    | _ => none)
  | _ => none
def letter_hex_0.h (n : Nat) : Option (List (Nat × List (Nat × Nat))) :=
  match n with
  | _ => none
def letter_hex_0.C (R : Type) (c_octet_Lower_0 : ByteArray → (ByteArray → Option R) → Option R) (c_strings_IndexByte_0 : ByteArray → Int → (Int → Option R) → Option R) : Cfg R := ⟨tabTy tyL, letter_hex_0.Γ c_octet_Lower_0 c_strings_IndexByte_0, fun _ => false, letter_hex_0.h⟩
theorem letter_hex_0.c (R : Type) (c_octet_Lower_0 : ByteArray → (ByteArray → Option R) → Option R) (c_strings_IndexByte_0 : ByteArray → Int → (Int → Option R) → Option R) (κ : List SV → Option R) (k : Nat) (a0 : Int) :
    runF (letter_hex_0.C R c_octet_Lower_0 c_strings_IndexByte_0) Tryd.f99 10000 k [.int .u8 a0] κ = letter_hex_0.e c_octet_Lower_0 c_strings_IndexByte_0 a0 (fun r0 => κ [.int .i64 r0]) := by kernel_rfl
theorem letter_hex_0.run (R : Type) (κ : List SV → Option R) (a0 : Int) :
    runF (letter_hex_0.C R octet_Lower_0 strings_IndexByte_0) Tryd.f99 10000 fuelK [.int .u8 a0] κ = letter_hex_0 a0 (fun r0 => κ [.int .i64 r0]) := by
  rw [letter_hex_0.c]
  rfl
theorem letter_hex_0.Γ_does {R : Type} (tab : Tab) (ht : TabOk tab) (g : Nat) : Does (R := R) Tryd.prog (tabTy tyL) tab g ((letter_hex_0.C R octet_Lower_0 strings_IndexByte_0).call g) := by
  refine does_of fun xs κ => ?_
  show DoesAt _ _ _ g xs κ (letter_hex_0.Γ octet_Lower_0 strings_IndexByte_0 g xs κ)
  unfold letter_hex_0.Γ
  split
  · split
    · exact strings_IndexByte_0.does tab ht _ _ κ
    · exact DoesAt.none
  · split
    · exact octet_Lower_0.does tab ht _ κ
    · exact DoesAt.none
  · exact DoesAt.none
theorem letter_hex_0.does {R : Type} (tab : Tab) (ht : TabOk tab) (a0 : Int) (κ : List SV → Option R) : DoesAt Tryd.prog (tabTy tyL) tab 99 [.int .u8 a0] κ (letter_hex_0 a0 (fun r0 => κ [.int .i64 r0])) := by
  intro r h w vs Rt Ra bs hpre
  exact runF_sound tyOk (letter_hex_0.Γ_does tab ht) (show Tryd.prog.funcs[99]? = some Tryd.f99 by kernel_rfl) (by kernel_rfl) ((letter_hex_0.run R κ a0).trans h) hpre
def letter_unquoted_0.Γ {R : Type} (c_strings_Builder_WriteByte_1 : List AV → Int → (List AV → Option R) → Option R) (c_letter_hex_0 : Int → (Int → Option R) → Option R) (c_strings_Builder_String_0 : List AV → (ByteArray → Option R) → Option R) (g : Nat) (xs : List SV) (κ : List SV → Option R) : Option R :=
  match g with
  | 41 => (match xs with
    | [.vp 63 [.nos, .fr 5 a0 true]] => c_strings_Builder_String_0 a0 (fun r0 => κ [.str r0, .vp 63 [.nos, .no]])
    | _ => none)
  | 75 => (match xs with
    | [.vp 63 [.nos, .fr 5 a0 true], .int .u8 a1] => c_strings_Builder_WriteByte_1 a0 a1 (fun r0 => κ [.nili, .vp 63 [.nos, .fr 5 r0 true]])
    | _ => none)
  | 99 => (match xs with
    | [.int .u8 a0] => c_letter_hex_0 a0 (fun r0 => κ [.int .i64 r0])
    | _ => none)
  | _ => none
def letter_unquoted_0.h (n : Nat) : Option (List (Nat × List (Nat × Nat))) :=
  match n with
  | 3 => some [(0, [(0, 0)]), (3, [(1, 7)]), (4, [(0, 0)])]
  | _ => none
def letter_unquoted_0.C (R : Type) (c_strings_Builder_WriteByte_1 : List AV → Int → (List AV → Option R) → Option R) (c_letter_hex_0 : Int → (Int → Option R) → Option R) (c_strings_Builder_String_0 : List AV → (ByteArray → Option R) → Option R) : Cfg R := ⟨tabTy tyL, letter_unquoted_0.Γ c_strings_Builder_WriteByte_1 c_letter_hex_0 c_strings_Builder_String_0, fun _ => false, letter_unquoted_0.h⟩
def letter_unquoted_0.s3 (x0 : ByteArray) (x1 : Int) (x2 : List AV) : St := ⟨mkS 66 [(0, .str x0), (3, .ptr 319 0), (4, .int .i64 x1)], [(319, .var 63 [.nos, .own 257]), (257, .row 5 x2 true)], top⟩
theorem letter_unquoted_0.c3 (R : Type) (c_strings_Builder_WriteByte_1 : List AV → Int → (List AV → Option R) → Option R) (c_letter_hex_0 : Int → (Int → Option R) → Option R) (c_strings_Builder_String_0 : List AV → (ByteArray → Option R) → Option R) (J : List Item → St → Option R) (κ : List SV → Option R) (x0 : ByteArray) (x1 : Int) (x2 : List AV) :
    start (letter_unquoted_0.C R c_strings_Builder_WriteByte_1 c_letter_hex_0 c_strings_Builder_String_0) J (retK (letter_unquoted_0.C R c_strings_Builder_WriteByte_1 c_letter_hex_0 c_strings_Builder_String_0) Tryd.f72.results.toList (List.range 0) κ) 10000 (placeOf Tryd.f72 3) (letter_unquoted_0.s3 x0 x1 x2) = letter_unquoted_0.t3 c_strings_Builder_WriteByte_1 c_letter_hex_0 c_strings_Builder_String_0 x0 x1 x2 (fun y0 y1 y2 => J (placeOf Tryd.f72 3) (letter_unquoted_0.s3 y0 y1 y2)) (fun r0 => κ [.str r0]) := by kernel_rfl
theorem letter_unquoted_0.c (R : Type) (c_strings_Builder_WriteByte_1 : List AV → Int → (List AV → Option R) → Option R) (c_letter_hex_0 : Int → (Int → Option R) → Option R) (c_strings_Builder_String_0 : List AV → (ByteArray → Option R) → Option R) (κ : List SV → Option R) (k : Nat) (a0 : ByteArray) :
    runF (letter_unquoted_0.C R c_strings_Builder_WriteByte_1 c_letter_hex_0 c_strings_Builder_String_0) Tryd.f72 10000 k [.str a0] κ = letter_unquoted_0.e c_strings_Builder_WriteByte_1 c_letter_hex_0 c_strings_Builder_String_0 a0 (fun y0 y1 y2 => goto (letter_unquoted_0.C R c_strings_Builder_WriteByte_1 c_letter_hex_0 c_strings_Builder_String_0) (retK (letter_unquoted_0.C R c_strings_Builder_WriteByte_1 c_letter_hex_0 c_strings_Builder_String_0) Tryd.f72.results.toList (List.range 0) κ) 10000 k (placeOf Tryd.f72 3) (letter_unquoted_0.s3 y0 y1 y2)) (fun r0 => κ [.str r0]) := by kernel_rfl
theorem letter_unquoted_0.g3 (R : Type) (c_strings_Builder_WriteByte_1 : List AV → Int → (List AV → Option R) → Option R) (c_letter_hex_0 : Int → (Int → Option R) → Option R) (c_strings_Builder_String_0 : List AV → (ByteArray → Option R) → Option R) (κ : List SV → Option R) : ∀ (f : Nat) (x0 : ByteArray) (x1 : Int) (x2 : List AV), goto (letter_unquoted_0.C R c_strings_Builder_WriteByte_1 c_letter_hex_0 c_strings_Builder_String_0) (retK (letter_unquoted_0.C R c_strings_Builder_WriteByte_1 c_letter_hex_0 c_strings_Builder_String_0) Tryd.f72.results.toList (List.range 0) κ) 10000 f (placeOf Tryd.f72 3) (letter_unquoted_0.s3 x0 x1 x2) = letter_unquoted_0.L3 c_strings_Builder_WriteByte_1 c_letter_hex_0 c_strings_Builder_String_0 (fun r0 => κ [.str r0]) f x0 x1 x2
  | 0, _, _, _ => rfl
  | f + 1, x0, x1, x2 => by
    show start (letter_unquoted_0.C R c_strings_Builder_WriteByte_1 c_letter_hex_0 c_strings_Builder_String_0) (goto (letter_unquoted_0.C R c_strings_Builder_WriteByte_1 c_letter_hex_0 c_strings_Builder_String_0) (retK (letter_unquoted_0.C R c_strings_Builder_WriteByte_1 c_letter_hex_0 c_strings_Builder_String_0) Tryd.f72.results.toList (List.range 0) κ) 10000 f) (retK (letter_unquoted_0.C R c_strings_Builder_WriteByte_1 c_letter_hex_0 c_strings_Builder_String_0) Tryd.f72.results.toList (List.range 0) κ) 10000 (placeOf Tryd.f72 3) (letter_unquoted_0.s3 x0 x1 x2) = _
    rw [letter_unquoted_0.c3]
    simp only [letter_unquoted_0.g3 R c_strings_Builder_WriteByte_1 c_letter_hex_0 c_strings_Builder_String_0 κ f]
    rfl
theorem letter_unquoted_0.run (R : Type) (κ : List SV → Option R) (a0 : ByteArray) :
    runF (letter_unquoted_0.C R strings_Builder_WriteByte_1 letter_hex_0 strings_Builder_String_0) Tryd.f72 10000 fuelK [.str a0] κ = letter_unquoted_0 a0 (fun r0 => κ [.str r0]) := by
  rw [letter_unquoted_0.c]
  simp only [letter_unquoted_0.g3 R strings_Builder_WriteByte_1 letter_hex_0 strings_Builder_String_0 κ fuelK]
  rfl
theorem letter_unquoted_0.Γ_does {R : Type} (tab : Tab) (ht : TabOk tab) (g : Nat) : Does (R := R) Tryd.prog (tabTy tyL) tab g ((letter_unquoted_0.C R strings_Builder_WriteByte_1 letter_hex_0 strings_Builder_String_0).call g) := by
  refine does_of fun xs κ => ?_
  show DoesAt _ _ _ g xs κ (letter_unquoted_0.Γ strings_Builder_WriteByte_1 letter_hex_0 strings_Builder_String_0 g xs κ)
  unfold letter_unquoted_0.Γ
  split
  · split
    · exact strings_Builder_String_0.does tab ht _ κ
    · exact DoesAt.none
  · split
    · exact strings_Builder_WriteByte_1.does tab ht _ _ κ
    · exact DoesAt.none
  · split
    · exact letter_hex_0.does tab ht _ κ
    · exact DoesAt.none
  · exact DoesAt.none
theorem letter_unquoted_0.does {R : Type} (tab : Tab) (ht : TabOk tab) (a0 : ByteArray) (κ : List SV → Option R) : DoesAt Tryd.prog (tabTy tyL) tab 72 [.str a0] κ (letter_unquoted_0 a0 (fun r0 => κ [.str r0])) := by
  intro r h w vs Rt Ra bs hpre
  exact runF_sound tyOk (letter_unquoted_0.Γ_does tab ht) (show Tryd.prog.funcs[72]? = some Tryd.f72 by kernel_rfl) (by kernel_rfl) ((letter_unquoted_0.run R κ a0).trans h) hpre
def letter_encoded_0.Γ {R : Type} (c_strings_HasPrefix_0 : ByteArray → ByteArray → (Bool → Option R) → Option R) (c_strings_IndexByte_0 : ByteArray → Int → (Int → Option R) → Option R) (c_octet_Lower_0 : ByteArray → (ByteArray → Option R) → Option R) (c_octet_Loose64_0 : ByteArray → (ByteArray → Option R) → Option R) (c_letter_wide_0 : ByteArray → (ByteArray → Option R) → Option R) (c_letter_unquoted_0 : ByteArray → (ByteArray → Option R) → Option R) (g : Nat) (xs : List SV) (κ : List SV → Option R) : Option R :=
  match g with
  | 30 => (match xs with
    | [.str a0, .str a1] => c_strings_HasPrefix_0 a0 a1 (fun r0 => κ [.bool r0])
    | _ => none)
  | 37 => (match xs with
    | [.str a0, .int .u8 a1] => c_strings_IndexByte_0 a0 a1 (fun r0 => κ [.int .i64 r0])
    | _ => none)
  | 57 => (match xs with
    | [.str a0] => c_octet_Lower_0 a0 (fun r0 => κ [.str r0])
    | _ => none)
  | 71 => (match xs with
    | [.str a0] => c_octet_Loose64_0 a0 (fun r0 => κ [.str r0])
    | _ => none)
  | 72 => (match xs with
    | [.str a0] => c_letter_unquoted_0 a0 (fun r0 => κ [.str r0])
    | _ => none)
  | 73 => (match xs with
    | [.str a0] => c_letter_wide_0 a0 (fun r0 => κ [.str r0])
    | _ => none)
  | _ => none
def letter_encoded_0.h (n : Nat) : Option (List (Nat × List (Nat × Nat))) :=
  match n with
  | 9 => some [(0, [(0, 0)]), (5, [(0, 0)]), (6, [(0, 0)]), (7, [(0, 0)]), (8, [(0, 0)])]
  | 12 => some [(0, [(0, 0)]), (5, [(0, 0)]), (6, [(0, 0)]), (7, [(0, 0)]), (8, [(0, 0)]), (9, [(0, 0)])]
  | 14 => some [(0, [(0, 0)]), (5, [(0, 0)]), (6, [(0, 0)]), (7, [(0, 0)]), (8, [(0, 0)])]
  | _ => none
def letter_encoded_0.C (R : Type) (c_strings_HasPrefix_0 : ByteArray → ByteArray → (Bool → Option R) → Option R) (c_strings_IndexByte_0 : ByteArray → Int → (Int → Option R) → Option R) (c_octet_Lower_0 : ByteArray → (ByteArray → Option R) → Option R) (c_octet_Loose64_0 : ByteArray → (ByteArray → Option R) → Option R) (c_letter_wide_0 : ByteArray → (ByteArray → Option R) → Option R) (c_letter_unquoted_0 : ByteArray → (ByteArray → Option R) → Option R) : Cfg R := ⟨tabTy tyL, letter_encoded_0.Γ c_strings_HasPrefix_0 c_strings_IndexByte_0 c_octet_Lower_0 c_octet_Loose64_0 c_letter_wide_0 c_letter_unquoted_0, fun _ => false, letter_encoded_0.h⟩
def letter_encoded_0.s9 (x0 : ByteArray) (x1 : ByteArray) (x2 : ByteArray) (x3 : Int) (x4 : Int) : St := ⟨mkS 116 [(0, .str x0), (5, .str x1), (6, .str x2), (7, .int .i64 x3), (8, .int .i64 x4)], [], top⟩
def letter_encoded_0.s12 (x0 : ByteArray) (x1 : ByteArray) (x2 : ByteArray) (x3 : Int) (x4 : Int) (x5 : Bool) : St := ⟨mkS 116 [(0, .str x0), (5, .str x1), (6, .str x2), (7, .int .i64 x3), (8, .int .i64 x4), (9, .bool x5)], [], top⟩
def letter_encoded_0.s14 (x0 : ByteArray) (x1 : ByteArray) (x2 : ByteArray) (x3 : Int) (x4 : Int) : St := ⟨mkS 116 [(0, .str x0), (5, .str x1), (6, .str x2), (7, .int .i64 x3), (8, .int .i64 x4)], [], top⟩
theorem letter_encoded_0.c9 (R : Type) (c_strings_HasPrefix_0 : ByteArray → ByteArray → (Bool → Option R) → Option R) (c_strings_IndexByte_0 : ByteArray → Int → (Int → Option R) → Option R) (c_octet_Lower_0 : ByteArray → (ByteArray → Option R) → Option R) (c_octet_Loose64_0 : ByteArray → (ByteArray → Option R) → Option R) (c_letter_wide_0 : ByteArray → (ByteArray → Option R) → Option R) (c_letter_unquoted_0 : ByteArray → (ByteArray → Option R) → Option R) (J : List Item → St → Option R) (κ : List SV → Option R) (x0 : ByteArray) (x1 : ByteArray) (x2 : ByteArray) (x3 : Int) (x4 : Int) :
    start (letter_encoded_0.C R c_strings_HasPrefix_0 c_strings_IndexByte_0 c_octet_Lower_0 c_octet_Loose64_0 c_letter_wide_0 c_letter_unquoted_0) J (retK (letter_encoded_0.C R c_strings_HasPrefix_0 c_strings_IndexByte_0 c_octet_Lower_0 c_octet_Loose64_0 c_letter_wide_0 c_letter_unquoted_0) Tryd.f42.results.toList (List.range 0) κ) 10000 (placeOf Tryd.f42 9) (letter_encoded_0.s9 x0 x1 x2 x3 x4) = letter_encoded_0.t9 c_strings_HasPrefix_0 c_strings_IndexByte_0 c_octet_Lower_0 c_octet_Loose64_0 c_letter_wide_0 c_letter_unquoted_0 x0 x1 x2 x3 x4 (fun y0 y1 y2 y3 y4 => J (placeOf Tryd.f42 9) (letter_encoded_0.s9 y0 y1 y2 y3 y4)) (fun y0 y1 y2 y3 y4 y5 => J (placeOf Tryd.f42 12) (letter_encoded_0.s12 y0 y1 y2 y3 y4 y5)) (fun y0 y1 y2 y3 y4 => J (placeOf Tryd.f42 14) (letter_encoded_0.s14 y0 y1 y2 y3 y4)) (fun r0 r1 => κ [.tup [.str r0, .int .i64 r1]]) := by kernel_rfl
theorem letter_encoded_0.c12 (R : Type) (c_strings_HasPrefix_0 : ByteArray → ByteArray → (Bool → Option R) → Option R) (c_strings_IndexByte_0 : ByteArray → Int → (Int → Option R) → Option R) (c_octet_Lower_0 : ByteArray → (ByteArray → Option R) → Option R) (c_octet_Loose64_0 : ByteArray → (ByteArray → Option R) → Option R) (c_letter_wide_0 : ByteArray → (ByteArray → Option R) → Option R) (c_letter_unquoted_0 : ByteArray → (ByteArray → Option R) → Option R) (J : List Item → St → Option R) (κ : List SV → Option R) (x0 : ByteArray) (x1 : ByteArray) (x2 : ByteArray) (x3 : Int) (x4 : Int) (x5 : Bool) :
    start (letter_encoded_0.C R c_strings_HasPrefix_0 c_strings_IndexByte_0 c_octet_Lower_0 c_octet_Loose64_0 c_letter_wide_0 c_letter_unquoted_0) J (retK (letter_encoded_0.C R c_strings_HasPrefix_0 c_strings_IndexByte_0 c_octet_Lower_0 c_octet_Loose64_0 c_letter_wide_0 c_letter_unquoted_0) Tryd.f42.results.toList (List.range 0) κ) 10000 (placeOf Tryd.f42 12) (letter_encoded_0.s12 x0 x1 x2 x3 x4 x5) = letter_encoded_0.t12 c_strings_HasPrefix_0 c_strings_IndexByte_0 c_octet_Lower_0 c_octet_Loose64_0 c_letter_wide_0 c_letter_unquoted_0 x0 x1 x2 x3 x4 x5 (fun y0 y1 y2 y3 y4 => J (placeOf Tryd.f42 9) (letter_encoded_0.s9 y0 y1 y2 y3 y4)) (fun y0 y1 y2 y3 y4 y5 => J (placeOf Tryd.f42 12) (letter_encoded_0.s12 y0 y1 y2 y3 y4 y5)) (fun y0 y1 y2 y3 y4 => J (placeOf Tryd.f42 14) (letter_encoded_0.s14 y0 y1 y2 y3 y4)) (fun r0 r1 => κ [.tup [.str r0, .int .i64 r1]]) := by kernel_rfl
theorem letter_encoded_0.c14 (R : Type) (c_strings_HasPrefix_0 : ByteArray → ByteArray → (Bool → Option R) → Option R) (c_strings_IndexByte_0 : ByteArray → Int → (Int → Option R) → Option R) (c_octet_Lower_0 : ByteArray → (ByteArray → Option R) → Option R) (c_octet_Loose64_0 : ByteArray → (ByteArray → Option R) → Option R) (c_letter_wide_0 : ByteArray → (ByteArray → Option R) → Option R) (c_letter_unquoted_0 : ByteArray → (ByteArray → Option R) → Option R) (J : List Item → St → Option R) (κ : List SV → Option R) (x0 : ByteArray) (x1 : ByteArray) (x2 : ByteArray) (x3 : Int) (x4 : Int) :
    start (letter_encoded_0.C R c_strings_HasPrefix_0 c_strings_IndexByte_0 c_octet_Lower_0 c_octet_Loose64_0 c_letter_wide_0 c_letter_unquoted_0) J (retK (letter_encoded_0.C R c_strings_HasPrefix_0 c_strings_IndexByte_0 c_octet_Lower_0 c_octet_Loose64_0 c_letter_wide_0 c_letter_unquoted_0) Tryd.f42.results.toList (List.range 0) κ) 10000 (placeOf Tryd.f42 14) (letter_encoded_0.s14 x0 x1 x2 x3 x4) = letter_encoded_0.t14 c_strings_HasPrefix_0 c_strings_IndexByte_0 c_octet_Lower_0 c_octet_Loose64_0 c_letter_wide_0 c_letter_unquoted_0 x0 x1 x2 x3 x4 (fun y0 y1 y2 y3 y4 => J (placeOf Tryd.f42 9) (letter_encoded_0.s9 y0 y1 y2 y3 y4)) (fun y0 y1 y2 y3 y4 y5 => J (placeOf Tryd.f42 12) (letter_encoded_0.s12 y0 y1 y2 y3 y4 y5)) (fun y0 y1 y2 y3 y4 => J (placeOf Tryd.f42 14) (letter_encoded_0.s14 y0 y1 y2 y3 y4)) (fun r0 r1 => κ [.tup [.str r0, .int .i64 r1]]) := by kernel_rfl
theorem letter_encoded_0.c (R : Type) (c_strings_HasPrefix_0 : ByteArray → ByteArray → (Bool → Option R) → Option R) (c_strings_IndexByte_0 : ByteArray → Int → (Int → Option R) → Option R) (c_octet_Lower_0 : ByteArray → (ByteArray → Option R) → Option R) (c_octet_Loose64_0 : ByteArray → (ByteArray → Option R) → Option R) (c_letter_wide_0 : ByteArray → (ByteArray → Option R) → Option R) (c_letter_unquoted_0 : ByteArray → (ByteArray → Option R) → Option R) (κ : List SV → Option R) (k : Nat) (a0 : ByteArray) :
    runF (letter_encoded_0.C R c_strings_HasPrefix_0 c_strings_IndexByte_0 c_octet_Lower_0 c_octet_Loose64_0 c_letter_wide_0 c_letter_unquoted_0) Tryd.f42 10000 k [.str a0] κ = letter_encoded_0.e c_strings_HasPrefix_0 c_strings_IndexByte_0 c_octet_Lower_0 c_octet_Loose64_0 c_letter_wide_0 c_letter_unquoted_0 a0 (fun y0 y1 y2 y3 y4 => goto (letter_encoded_0.C R c_strings_HasPrefix_0 c_strings_IndexByte_0 c_octet_Lower_0 c_octet_Loose64_0 c_letter_wide_0 c_letter_unquoted_0) (retK (letter_encoded_0.C R c_strings_HasPrefix_0 c_strings_IndexByte_0 c_octet_Lower_0 c_octet_Loose64_0 c_letter_wide_0 c_letter_unquoted_0) Tryd.f42.results.toList (List.range 0) κ) 10000 k (placeOf Tryd.f42 9) (letter_encoded_0.s9 y0 y1 y2 y3 y4)) (fun y0 y1 y2 y3 y4 y5 => goto (letter_encoded_0.C R c_strings_HasPrefix_0 c_strings_IndexByte_0 c_octet_Lower_0 c_octet_Loose64_0 c_letter_wide_0 c_letter_unquoted_0) (retK (letter_encoded_0.C R c_strings_HasPrefix_0 c_strings_IndexByte_0 c_octet_Lower_0 c_octet_Loose64_0 c_letter_wide_0 c_letter_unquoted_0) Tryd.f42.results.toList (List.range 0) κ) 10000 k (placeOf Tryd.f42 12) (letter_encoded_0.s12 y0 y1 y2 y3 y4 y5)) (fun y0 y1 y2 y3 y4 => goto (letter_encoded_0.C R c_strings_HasPrefix_0 c_strings_IndexByte_0 c_octet_Lower_0 c_octet_Loose64_0 c_letter_wide_0 c_letter_unquoted_0) (retK (letter_encoded_0.C R c_strings_HasPrefix_0 c_strings_IndexByte_0 c_octet_Lower_0 c_octet_Loose64_0 c_letter_wide_0 c_letter_unquoted_0) Tryd.f42.results.toList (List.range 0) κ) 10000 k (placeOf Tryd.f42 14) (letter_encoded_0.s14 y0 y1 y2 y3 y4)) (fun r0 r1 => κ [.tup [.str r0, .int .i64 r1]]) := by kernel_rfl
theorem letter_encoded_0.g14 (R : Type) (c_strings_HasPrefix_0 : ByteArray → ByteArray → (Bool → Option R) → Option R) (c_strings_IndexByte_0 : ByteArray → Int → (Int → Option R) → Option R) (c_octet_Lower_0 : ByteArray → (ByteArray → Option R) → Option R) (c_octet_Loose64_0 : ByteArray → (ByteArray → Option R) → Option R) (c_letter_wide_0 : ByteArray → (ByteArray → Option R) → Option R) (c_letter_unquoted_0 : ByteArray → (ByteArray → Option R) → Option R) (κ : List SV → Option R) : ∀ (f : Nat) (x0 : ByteArray) (x1 : ByteArray) (x2 : ByteArray) (x3 : Int) (x4 : Int), goto (letter_encoded_0.C R c_strings_HasPrefix_0 c_strings_IndexByte_0 c_octet_Lower_0 c_octet_Loose64_0 c_letter_wide_0 c_letter_unquoted_0) (retK (letter_encoded_0.C R c_strings_HasPrefix_0 c_strings_IndexByte_0 c_octet_Lower_0 c_octet_Loose64_0 c_letter_wide_0 c_letter_unquoted_0) Tryd.f42.results.toList (List.range 0) κ) 10000 f (placeOf Tryd.f42 14) (letter_encoded_0.s14 x0 x1 x2 x3 x4) = letter_encoded_0.L14 c_strings_HasPrefix_0 c_strings_IndexByte_0 c_octet_Lower_0 c_octet_Loose64_0 c_letter_wide_0 c_letter_unquoted_0 (fun r0 r1 => κ [.tup [.str r0, .int .i64 r1]]) f x0 x1 x2 x3 x4
  | 0, _, _, _, _, _ => rfl
  | f + 1, x0, x1, x2, x3, x4 => by
    show start (letter_encoded_0.C R c_strings_HasPrefix_0 c_strings_IndexByte_0 c_octet_Lower_0 c_octet_Loose64_0 c_letter_wide_0 c_letter_unquoted_0) (goto (letter_encoded_0.C R c_strings_HasPrefix_0 c_strings_IndexByte_0 c_octet_Lower_0 c_octet_Loose64_0 c_letter_wide_0 c_letter_unquoted_0) (retK (letter_encoded_0.C R c_strings_HasPrefix_0 c_strings_IndexByte_0 c_octet_Lower_0 c_octet_Loose64_0 c_letter_wide_0 c_letter_unquoted_0) Tryd.f42.results.toList (List.range 0) κ) 10000 f) (retK (letter_encoded_0.C R c_strings_HasPrefix_0 c_strings_IndexByte_0 c_octet_Lower_0 c_octet_Loose64_0 c_letter_wide_0 c_letter_unquoted_0) Tryd.f42.results.toList (List.range 0) κ) 10000 (placeOf Tryd.f42 14) (letter_encoded_0.s14 x0 x1 x2 x3 x4) = _
    rw [letter_encoded_0.c14]
    skip
    rfl
theorem letter_encoded_0.g12 (R : Type) (c_strings_HasPrefix_0 : ByteArray → ByteArray → (Bool → Option R) → Option R) (c_strings_IndexByte_0 : ByteArray → Int → (Int → Option R) → Option R) (c_octet_Lower_0 : ByteArray → (ByteArray → Option R) → Option R) (c_octet_Loose64_0 : ByteArray → (ByteArray → Option R) → Option R) (c_letter_wide_0 : ByteArray → (ByteArray → Option R) → Option R) (c_letter_unquoted_0 : ByteArray → (ByteArray → Option R) → Option R) (κ : List SV → Option R) : ∀ (f : Nat) (x0 : ByteArray) (x1 : ByteArray) (x2 : ByteArray) (x3 : Int) (x4 : Int) (x5 : Bool), goto (letter_encoded_0.C R c_strings_HasPrefix_0 c_strings_IndexByte_0 c_octet_Lower_0 c_octet_Loose64_0 c_letter_wide_0 c_letter_unquoted_0) (retK (letter_encoded_0.C R c_strings_HasPrefix_0 c_strings_IndexByte_0 c_octet_Lower_0 c_octet_Loose64_0 c_letter_wide_0 c_letter_unquoted_0) Tryd.f42.results.toList (List.range 0) κ) 10000 f (placeOf Tryd.f42 12) (letter_encoded_0.s12 x0 x1 x2 x3 x4 x5) = letter_encoded_0.L12 c_strings_HasPrefix_0 c_strings_IndexByte_0 c_octet_Lower_0 c_octet_Loose64_0 c_letter_wide_0 c_letter_unquoted_0 (fun r0 r1 => κ [.tup [.str r0, .int .i64 r1]]) f x0 x1 x2 x3 x4 x5
  | 0, _, _, _, _, _, _ => rfl
  | f + 1, x0, x1, x2, x3, x4, x5 => by
    show start (letter_encoded_0.C R c_strings_HasPrefix_0 c_strings_IndexByte_0 c_octet_Lower_0 c_octet_Loose64_0 c_letter_wide_0 c_letter_unquoted_0) (goto (letter_encoded_0.C R c_strings_HasPrefix_0 c_strings_IndexByte_0 c_octet_Lower_0 c_octet_Loose64_0 c_letter_wide_0 c_letter_unquoted_0) (retK (letter_encoded_0.C R c_strings_HasPrefix_0 c_strings_IndexByte_0 c_octet_Lower_0 c_octet_Loose64_0 c_letter_wide_0 c_letter_unquoted_0) Tryd.f42.results.toList (List.range 0) κ) 10000 f) (retK (letter_encoded_0.C R c_strings_HasPrefix_0 c_strings_IndexByte_0 c_octet_Lower_0 c_octet_Loose64_0 c_letter_wide_0 c_letter_unquoted_0) Tryd.f42.results.toList (List.range 0) κ) 10000 (placeOf Tryd.f42 12) (letter_encoded_0.s12 x0 x1 x2 x3 x4 x5) = _
    rw [letter_encoded_0.c12]
    simp only [letter_encoded_0.g14 R c_strings_HasPrefix_0 c_strings_IndexByte_0 c_octet_Lower_0 c_octet_Loose64_0 c_letter_wide_0 c_letter_unquoted_0 κ f]
    rfl
theorem letter_encoded_0.g9 (R : Type) (c_strings_HasPrefix_0 : ByteArray → ByteArray → (Bool → Option R) → Option R) (c_strings_IndexByte_0 : ByteArray → Int → (Int → Option R) → Option R) (c_octet_Lower_0 : ByteArray → (ByteArray → Option R) → Option R) (c_octet_Loose64_0 : ByteArray → (ByteArray → Option R) → Option R) (c_letter_wide_0 : ByteArray → (ByteArray → Option R) → Option R) (c_letter_unquoted_0 : ByteArray → (ByteArray → Option R) → Option R) (κ : List SV → Option R) : ∀ (f : Nat) (x0 : ByteArray) (x1 : ByteArray) (x2 : ByteArray) (x3 : Int) (x4 : Int), goto (letter_encoded_0.C R c_strings_HasPrefix_0 c_strings_IndexByte_0 c_octet_Lower_0 c_octet_Loose64_0 c_letter_wide_0 c_letter_unquoted_0) (retK (letter_encoded_0.C R c_strings_HasPrefix_0 c_strings_IndexByte_0 c_octet_Lower_0 c_octet_Loose64_0 c_letter_wide_0 c_letter_unquoted_0) Tryd.f42.results.toList (List.range 0) κ) 10000 f (placeOf Tryd.f42 9) (letter_encoded_0.s9 x0 x1 x2 x3 x4) = letter_encoded_0.L9 c_strings_HasPrefix_0 c_strings_IndexByte_0 c_octet_Lower_0 c_octet_Loose64_0 c_letter_wide_0 c_letter_unquoted_0 (fun r0 r1 => κ [.tup [.str r0, .int .i64 r1]]) f x0 x1 x2 x3 x4
  | 0, _, _, _, _, _ => rfl
  | f + 1, x0, x1, x2, x3, x4 => by
    show start (letter_encoded_0.C R c_strings_HasPrefix_0 c_strings_IndexByte_0 c_octet_Lower_0 c_octet_Loose64_0 c_letter_wide_0 c_letter_unquoted_0) (goto (letter_encoded_0.C R c_strings_HasPrefix_0 c_strings_IndexByte_0 c_octet_Lower_0 c_octet_Loose64_0 c_letter_wide_0 c_letter_unquoted_0) (retK (letter_encoded_0.C R c_strings_HasPrefix_0 c_strings_IndexByte_0 c_octet_Lower_0 c_octet_Loose64_0 c_letter_wide_0 c_letter_unquoted_0) Tryd.f42.results.toList (List.range 0) κ) 10000 f) (retK (letter_encoded_0.C R c_strings_HasPrefix_0 c_strings_IndexByte_0 c_octet_Lower_0 c_octet_Loose64_0 c_letter_wide_0 c_letter_unquoted_0) Tryd.f42.results.toList (List.range 0) κ) 10000 (placeOf Tryd.f42 9) (letter_encoded_0.s9 x0 x1 x2 x3 x4) = _
    rw [letter_encoded_0.c9]
    simp only [letter_encoded_0.g9 R c_strings_HasPrefix_0 c_strings_IndexByte_0 c_octet_Lower_0 c_octet_Loose64_0 c_letter_wide_0 c_letter_unquoted_0 κ f, letter_encoded_0.g12 R c_strings_HasPrefix_0 c_strings_IndexByte_0 c_octet_Lower_0 c_octet_Loose64_0 c_letter_wide_0 c_letter_unquoted_0 κ f]
    rfl
theorem letter_encoded_0.run (R : Type) (κ : List SV → Option R) (a0 : ByteArray) :
    runF (letter_encoded_0.C R strings_HasPrefix_0 strings_IndexByte_0 octet_Lower_0 octet_Loose64_0 letter_wide_0 letter_unquoted_0) Tryd.f42 10000 fuelK [.str a0] κ = letter_encoded_0 a0 (fun r0 r1 => κ [.tup [.str r0, .int .i64 r1]]) := by
  rw [letter_encoded_0.c]
  simp only [letter_encoded_0.g9 R strings_HasPrefix_0 strings_IndexByte_0 octet_Lower_0 octet_Loose64_0 letter_wide_0 letter_unquoted_0 κ fuelK, letter_encoded_0.g12 R strings_HasPrefix_0 strings_IndexByte_0 octet_Lower_0 octet_Loose64_0 letter_wide_0 letter_unquoted_0 κ fuelK, letter_encoded_0.g14 R strings_HasPrefix_0 strings_IndexByte_0 octet_Lower_0 octet_Loose64_0 letter_wide_0 letter_unquoted_0 κ fuelK]
  rfl
theorem letter_encoded_0.Γ_does {R : Type} (tab : Tab) (ht : TabOk tab) (g : Nat) : Does (R := R) Tryd.prog (tabTy tyL) tab g ((letter_encoded_0.C R strings_HasPrefix_0 strings_IndexByte_0 octet_Lower_0 octet_Loose64_0 letter_wide_0 letter_unquoted_0).call g) := by
  refine does_of fun xs κ => ?_
  show DoesAt _ _ _ g xs κ (letter_encoded_0.Γ strings_HasPrefix_0 strings_IndexByte_0 octet_Lower_0 octet_Loose64_0 letter_wide_0 letter_unquoted_0 g xs κ)
  unfold letter_encoded_0.Γ
  split
  · split
    · exact strings_HasPrefix_0.does tab ht _ _ κ
    · exact DoesAt.none
  · split
    · exact strings_IndexByte_0.does tab ht _ _ κ
    · exact DoesAt.none
  · split
    · exact octet_Lower_0.does tab ht _ κ
    · exact DoesAt.none
  · split
    · exact octet_Loose64_0.does tab ht _ κ
    · exact DoesAt.none
  · split
    · exact letter_unquoted_0.does tab ht _ κ
    · exact DoesAt.none
  · split
    · exact letter_wide_0.does tab ht _ κ
    · exact DoesAt.none
  · exact DoesAt.none
theorem letter_encoded_0.does {R : Type} (tab : Tab) (ht : TabOk tab) (a0 : ByteArray) (κ : List SV → Option R) : DoesAt Tryd.prog (tabTy tyL) tab 42 [.str a0] κ (letter_encoded_0 a0 (fun r0 r1 => κ [.tup [.str r0, .int .i64 r1]])) := by
  intro r h w vs Rt Ra bs hpre
  exact runF_sound tyOk (letter_encoded_0.Γ_does tab ht) (show Tryd.prog.funcs[42]? = some Tryd.f42 by kernel_rfl) (by kernel_rfl) ((letter_encoded_0.run R κ a0).trans h) hpre
def strings_Builder_WriteString_1.Γ {R : Type} (c_strings_Builder_copyCheck_0 : Option R → Option R) (g : Nat) (xs : List SV) (κ : List SV → Option R) : Option R :=
  match g with
  | 69 => (match xs with
    | [.vp 63 [.nos, .nil]] => c_strings_Builder_copyCheck_0 (κ [.tup [], .vp 63 [.nos, .nil]])
    | _ => none)
  | _ => none
def strings_Builder_WriteString_1.h (n : Nat) : Option (List (Nat × List (Nat × Nat))) :=
  match n with
  | _ => none
def strings_Builder_WriteString_1.C (R : Type) (c_strings_Builder_copyCheck_0 : Option R → Option R) : Cfg R := ⟨tabTy tyL, strings_Builder_WriteString_1.Γ c_strings_Builder_copyCheck_0, fun _ => false, strings_Builder_WriteString_1.h⟩
theorem strings_Builder_WriteString_1.c (R : Type) (c_strings_Builder_copyCheck_0 : Option R → Option R) (κ : List SV → Option R) (k : Nat) (a0 : ByteArray) :
    runF (strings_Builder_WriteString_1.C R c_strings_Builder_copyCheck_0) Tryd.f39 10000 k [.vp 63 [.nos, .nil], .str a0] κ = strings_Builder_WriteString_1.e c_strings_Builder_copyCheck_0 a0 (fun r0 r1 => κ [.tup [.int .i64 r0, .nili], .vp 63 [.nos, .fr 5 r1 true]]) := by kernel_rfl
theorem strings_Builder_WriteString_1.run (R : Type) (κ : List SV → Option R) (a0 : ByteArray) :
    runF (strings_Builder_WriteString_1.C R strings_Builder_copyCheck_0) Tryd.f39 10000 fuelK [.vp 63 [.nos, .nil], .str a0] κ = strings_Builder_WriteString_1 a0 (fun r0 r1 => κ [.tup [.int .i64 r0, .nili], .vp 63 [.nos, .fr 5 r1 true]]) := by
  rw [strings_Builder_WriteString_1.c]
  rfl
theorem strings_Builder_WriteString_1.Γ_does {R : Type} (tab : Tab) (ht : TabOk tab) (g : Nat) : Does (R := R) Tryd.prog (tabTy tyL) tab g ((strings_Builder_WriteString_1.C R strings_Builder_copyCheck_0).call g) := by
  refine does_of fun xs κ => ?_
  show DoesAt _ _ _ g xs κ (strings_Builder_WriteString_1.Γ strings_Builder_copyCheck_0 g xs κ)
  unfold strings_Builder_WriteString_1.Γ
  split
  · split
    · exact strings_Builder_copyCheck_0.does tab ht κ
    · exact DoesAt.none
  · exact DoesAt.none
theorem strings_Builder_WriteString_1.does {R : Type} (tab : Tab) (ht : TabOk tab) (a0 : ByteArray) (κ : List SV → Option R) : DoesAt Tryd.prog (tabTy tyL) tab 39 [.vp 63 [.nos, .nil], .str a0] κ (strings_Builder_WriteString_1 a0 (fun r0 r1 => κ [.tup [.int .i64 r0, .nili], .vp 63 [.nos, .fr 5 r1 true]])) := by
  intro r h w vs Rt Ra bs hpre
  exact runF_sound tyOk (strings_Builder_WriteString_1.Γ_does tab ht) (show Tryd.prog.funcs[39]? = some Tryd.f39 by kernel_rfl) (by kernel_rfl) ((strings_Builder_WriteString_1.run R κ a0).trans h) hpre
def letter_Words_0.Γ {R : Type} (c_letter_encoded_0 : ByteArray → (ByteArray → Int → Option R) → Option R) (c_strings_Builder_WriteString_0 : List AV → ByteArray → (Int → List AV → Option R) → Option R) (c_letter_isBlank_0 : Int → (Bool → Option R) → Option R) (c_strings_Builder_String_0 : List AV → (ByteArray → Option R) → Option R) (g : Nat) (xs : List SV) (κ : List SV → Option R) : Option R :=
  match g with
  | 39 => (match xs with
    | [.vp 63 [.nos, .fr 5 a0 true], .str a1] => c_strings_Builder_WriteString_0 a0 a1 (fun r0 r1 => κ [.tup [.int .i64 r0, .nili], .vp 63 [.nos, .fr 5 r1 true]])
    | _ => none)
  | 41 => (match xs with
    | [.vp 63 [.nos, .fr 5 a0 true]] => c_strings_Builder_String_0 a0 (fun r0 => κ [.str r0, .vp 63 [.nos, .no]])
    | _ => none)
  | 42 => (match xs with
    | [.str a0] => c_letter_encoded_0 a0 (fun r0 r1 => κ [.tup [.str r0, .int .i64 r1]])
    | _ => none)
  | 43 => (match xs with
    | [.int .u8 a0] => c_letter_isBlank_0 a0 (fun r0 => κ [.bool r0])
    | _ => none)
  | _ => none
def letter_Words_0.h (n : Nat) : Option (List (Nat × List (Nat × Nat))) :=
  match n with
  | 5 => some [(0, [(0, 0)]), (3, [(1, 7)]), (4, [(0, 0)]), (5, [(0, 0)]), (6, [(0, 0)])]
  | _ => none
def letter_Words_0.C (R : Type) (c_letter_encoded_0 : ByteArray → (ByteArray → Int → Option R) → Option R) (c_strings_Builder_WriteString_0 : List AV → ByteArray → (Int → List AV → Option R) → Option R) (c_letter_isBlank_0 : Int → (Bool → Option R) → Option R) (c_strings_Builder_String_0 : List AV → (ByteArray → Option R) → Option R) : Cfg R := ⟨tabTy tyL, letter_Words_0.Γ c_letter_encoded_0 c_strings_Builder_WriteString_0 c_letter_isBlank_0 c_strings_Builder_String_0, fun _ => false, letter_Words_0.h⟩
def letter_Words_0.s5 (x0 : ByteArray) (x1 : Bool) (x2 : Int) (x3 : Int) (x4 : List AV) : St := ⟨mkS 56 [(0, .str x0), (3, .ptr 319 0), (4, .bool x1), (5, .int .i64 x2), (6, .int .i64 x3)], [(319, .var 63 [.nos, .own 257]), (257, .row 5 x4 true)], top⟩
theorem letter_Words_0.c5 (R : Type) (c_letter_encoded_0 : ByteArray → (ByteArray → Int → Option R) → Option R) (c_strings_Builder_WriteString_0 : List AV → ByteArray → (Int → List AV → Option R) → Option R) (c_letter_isBlank_0 : Int → (Bool → Option R) → Option R) (c_strings_Builder_String_0 : List AV → (ByteArray → Option R) → Option R) (J : List Item → St → Option R) (κ : List SV → Option R) (x0 : ByteArray) (x1 : Bool) (x2 : Int) (x3 : Int) (x4 : List AV) :
    start (letter_Words_0.C R c_letter_encoded_0 c_strings_Builder_WriteString_0 c_letter_isBlank_0 c_strings_Builder_String_0) J (retK (letter_Words_0.C R c_letter_encoded_0 c_strings_Builder_WriteString_0 c_letter_isBlank_0 c_strings_Builder_String_0) Tryd.f22.results.toList (List.range 0) κ) 10000 (placeOf Tryd.f22 5) (letter_Words_0.s5 x0 x1 x2 x3 x4) = letter_Words_0.t5 c_letter_encoded_0 c_strings_Builder_WriteString_0 c_letter_isBlank_0 c_strings_Builder_String_0 x0 x1 x2 x3 x4 (fun y0 y1 y2 y3 y4 => J (placeOf Tryd.f22 5) (letter_Words_0.s5 y0 y1 y2 y3 y4)) (fun r0 => κ [.str r0]) := by kernel_rfl
theorem letter_Words_0.c (R : Type) (c_letter_encoded_0 : ByteArray → (ByteArray → Int → Option R) → Option R) (c_strings_Builder_WriteString_0 : List AV → ByteArray → (Int → List AV → Option R) → Option R) (c_letter_isBlank_0 : Int → (Bool → Option R) → Option R) (c_strings_Builder_String_0 : List AV → (ByteArray → Option R) → Option R) (κ : List SV → Option R) (k : Nat) (a0 : ByteArray) :
    runF (letter_Words_0.C R c_letter_encoded_0 c_strings_Builder_WriteString_0 c_letter_isBlank_0 c_strings_Builder_String_0) Tryd.f22 10000 k [.str a0] κ = letter_Words_0.e c_letter_encoded_0 c_strings_Builder_WriteString_0 c_letter_isBlank_0 c_strings_Builder_String_0 a0 (fun y0 y1 y2 y3 y4 => goto (letter_Words_0.C R c_letter_encoded_0 c_strings_Builder_WriteString_0 c_letter_isBlank_0 c_strings_Builder_String_0) (retK (letter_Words_0.C R c_letter_encoded_0 c_strings_Builder_WriteString_0 c_letter_isBlank_0 c_strings_Builder_String_0) Tryd.f22.results.toList (List.range 0) κ) 10000 k (placeOf Tryd.f22 5) (letter_Words_0.s5 y0 y1 y2 y3 y4)) (fun r0 => κ [.str r0]) := by kernel_rfl
theorem letter_Words_0.g5 (R : Type) (c_letter_encoded_0 : ByteArray → (ByteArray → Int → Option R) → Option R) (c_strings_Builder_WriteString_0 : List AV → ByteArray → (Int → List AV → Option R) → Option R) (c_letter_isBlank_0 : Int → (Bool → Option R) → Option R) (c_strings_Builder_String_0 : List AV → (ByteArray → Option R) → Option R) (κ : List SV → Option R) : ∀ (f : Nat) (x0 : ByteArray) (x1 : Bool) (x2 : Int) (x3 : Int) (x4 : List AV), goto (letter_Words_0.C R c_letter_encoded_0 c_strings_Builder_WriteString_0 c_letter_isBlank_0 c_strings_Builder_String_0) (retK (letter_Words_0.C R c_letter_encoded_0 c_strings_Builder_WriteString_0 c_letter_isBlank_0 c_strings_Builder_String_0) Tryd.f22.results.toList (List.range 0) κ) 10000 f (placeOf Tryd.f22 5) (letter_Words_0.s5 x0 x1 x2 x3 x4) = letter_Words_0.L5 c_letter_encoded_0 c_strings_Builder_WriteString_0 c_letter_isBlank_0 c_strings_Builder_String_0 (fun r0 => κ [.str r0]) f x0 x1 x2 x3 x4
  | 0, _, _, _, _, _ => rfl
  | f + 1, x0, x1, x2, x3, x4 => by
    show start (letter_Words_0.C R c_letter_encoded_0 c_strings_Builder_WriteString_0 c_letter_isBlank_0 c_strings_Builder_String_0) (goto (letter_Words_0.C R c_letter_encoded_0 c_strings_Builder_WriteString_0 c_letter_isBlank_0 c_strings_Builder_String_0) (retK (letter_Words_0.C R c_letter_encoded_0 c_strings_Builder_WriteString_0 c_letter_isBlank_0 c_strings_Builder_String_0) Tryd.f22.results.toList (List.range 0) κ) 10000 f) (retK (letter_Words_0.C R c_letter_encoded_0 c_strings_Builder_WriteString_0 c_letter_isBlank_0 c_strings_Builder_String_0) Tryd.f22.results.toList (List.range 0) κ) 10000 (placeOf Tryd.f22 5) (letter_Words_0.s5 x0 x1 x2 x3 x4) = _
    rw [letter_Words_0.c5]
    simp only [letter_Words_0.g5 R c_letter_encoded_0 c_strings_Builder_WriteString_0 c_letter_isBlank_0 c_strings_Builder_String_0 κ f]
    rfl
theorem letter_Words_0.run (R : Type) (κ : List SV → Option R) (a0 : ByteArray) :
    runF (letter_Words_0.C R letter_encoded_0 strings_Builder_WriteString_0 letter_isBlank_0 strings_Builder_String_0) Tryd.f22 10000 fuelK [.str a0] κ = letter_Words_0 a0 (fun r0 => κ [.str r0]) := by
  rw [letter_Words_0.c]
  simp only [letter_Words_0.g5 R letter_encoded_0 strings_Builder_WriteString_0 letter_isBlank_0 strings_Builder_String_0 κ fuelK]
  rfl
theorem letter_Words_0.Γ_does {R : Type} (tab : Tab) (ht : TabOk tab) (g : Nat) : Does (R := R) Tryd.prog (tabTy tyL) tab g ((letter_Words_0.C R letter_encoded_0 strings_Builder_WriteString_0 letter_isBlank_0 strings_Builder_String_0).call g) := by
  refine does_of fun xs κ => ?_
  show DoesAt _ _ _ g xs κ (letter_Words_0.Γ letter_encoded_0 strings_Builder_WriteString_0 letter_isBlank_0 strings_Builder_String_0 g xs κ)
  unfold letter_Words_0.Γ
  split
  · split
    · exact strings_Builder_WriteString_0.does tab ht _ _ κ
    · exact DoesAt.none
  · split
    · exact strings_Builder_String_0.does tab ht _ κ
    · exact DoesAt.none
  · split
    · exact letter_encoded_0.does tab ht _ κ
    · exact DoesAt.none
  · split
    · exact letter_isBlank_0.does tab ht _ κ
    · exact DoesAt.none
  · exact DoesAt.none
theorem letter_Words_0.does {R : Type} (tab : Tab) (ht : TabOk tab) (a0 : ByteArray) (κ : List SV → Option R) : DoesAt Tryd.prog (tabTy tyL) tab 22 [.str a0] κ (letter_Words_0 a0 (fun r0 => κ [.str r0])) := by
  intro r h w vs Rt Ra bs hpre
  exact runF_sound tyOk (letter_Words_0.Γ_does tab ht) (show Tryd.prog.funcs[22]? = some Tryd.f22 by kernel_rfl) (by kernel_rfl) ((letter_Words_0.run R κ a0).trans h) hpre
def letter_one_0.Γ {R : Type} (c_letter_isSpace_0 : Int → (Bool → Option R) → Option R) (c_strings_Builder_WriteByte_1 : List AV → Int → (List AV → Option R) → Option R) (c_strings_Builder_String_0 : List AV → (ByteArray → Option R) → Option R) (g : Nat) (xs : List SV) (κ : List SV → Option R) : Option R :=
  match g with
  | 41 => (match xs with
    | [.vp 63 [.nos, .fr 5 a0 true]] => c_strings_Builder_String_0 a0 (fun r0 => κ [.str r0, .vp 63 [.nos, .no]])
    | _ => none)
  | 74 => (match xs with
    | [.int .u8 a0] => c_letter_isSpace_0 a0 (fun r0 => κ [.bool r0])
    | _ => none)
  | 75 => (match xs with
    | [.vp 63 [.nos, .fr 5 a0 true], .int .u8 a1] => c_strings_Builder_WriteByte_1 a0 a1 (fun r0 => κ [.nili, .vp 63 [.nos, .fr 5 r0 true]])
    | _ => none)
  | _ => none
def letter_one_0.h (n : Nat) : Option (List (Nat × List (Nat × Nat))) :=
  match n with
  | 4 => some [(0, [(0, 0)]), (3, [(1, 7)]), (4, [(0, 0)]), (7, [(0, 0)]), (8, [(0, 0)])]
  | _ => none
def letter_one_0.C (R : Type) (c_letter_isSpace_0 : Int → (Bool → Option R) → Option R) (c_strings_Builder_WriteByte_1 : List AV → Int → (List AV → Option R) → Option R) (c_strings_Builder_String_0 : List AV → (ByteArray → Option R) → Option R) : Cfg R := ⟨tabTy tyL, letter_one_0.Γ c_letter_isSpace_0 c_strings_Builder_WriteByte_1 c_strings_Builder_String_0, fun _ => false, letter_one_0.h⟩
def letter_one_0.s4 (x0 : ByteArray) (x1 : Bool) (x2 : Int) (x3 : Int) (x4 : List AV) : St := ⟨mkS 29 [(0, .str x0), (3, .ptr 319 0), (4, .bool x1), (7, .int .i64 x2), (8, .int .i64 x3)], [(319, .var 63 [.nos, .own 257]), (257, .row 5 x4 true)], top⟩
theorem letter_one_0.c4 (R : Type) (c_letter_isSpace_0 : Int → (Bool → Option R) → Option R) (c_strings_Builder_WriteByte_1 : List AV → Int → (List AV → Option R) → Option R) (c_strings_Builder_String_0 : List AV → (ByteArray → Option R) → Option R) (J : List Item → St → Option R) (κ : List SV → Option R) (x0 : ByteArray) (x1 : Bool) (x2 : Int) (x3 : Int) (x4 : List AV) :
    start (letter_one_0.C R c_letter_isSpace_0 c_strings_Builder_WriteByte_1 c_strings_Builder_String_0) J (retK (letter_one_0.C R c_letter_isSpace_0 c_strings_Builder_WriteByte_1 c_strings_Builder_String_0) Tryd.f44.results.toList (List.range 0) κ) 10000 (placeOf Tryd.f44 4) (letter_one_0.s4 x0 x1 x2 x3 x4) = letter_one_0.t4 c_letter_isSpace_0 c_strings_Builder_WriteByte_1 c_strings_Builder_String_0 x0 x1 x2 x3 x4 (fun y0 y1 y2 y3 y4 => J (placeOf Tryd.f44 4) (letter_one_0.s4 y0 y1 y2 y3 y4)) (fun r0 => κ [.str r0]) := by kernel_rfl
theorem letter_one_0.c (R : Type) (c_letter_isSpace_0 : Int → (Bool → Option R) → Option R) (c_strings_Builder_WriteByte_1 : List AV → Int → (List AV → Option R) → Option R) (c_strings_Builder_String_0 : List AV → (ByteArray → Option R) → Option R) (κ : List SV → Option R) (k : Nat) (a0 : ByteArray) :
    runF (letter_one_0.C R c_letter_isSpace_0 c_strings_Builder_WriteByte_1 c_strings_Builder_String_0) Tryd.f44 10000 k [.str a0] κ = letter_one_0.e c_letter_isSpace_0 c_strings_Builder_WriteByte_1 c_strings_Builder_String_0 a0 (fun y0 y1 y2 y3 y4 => goto (letter_one_0.C R c_letter_isSpace_0 c_strings_Builder_WriteByte_1 c_strings_Builder_String_0) (retK (letter_one_0.C R c_letter_isSpace_0 c_strings_Builder_WriteByte_1 c_strings_Builder_String_0) Tryd.f44.results.toList (List.range 0) κ) 10000 k (placeOf Tryd.f44 4) (letter_one_0.s4 y0 y1 y2 y3 y4)) (fun r0 => κ [.str r0]) := by kernel_rfl
theorem letter_one_0.g4 (R : Type) (c_letter_isSpace_0 : Int → (Bool → Option R) → Option R) (c_strings_Builder_WriteByte_1 : List AV → Int → (List AV → Option R) → Option R) (c_strings_Builder_String_0 : List AV → (ByteArray → Option R) → Option R) (κ : List SV → Option R) : ∀ (f : Nat) (x0 : ByteArray) (x1 : Bool) (x2 : Int) (x3 : Int) (x4 : List AV), goto (letter_one_0.C R c_letter_isSpace_0 c_strings_Builder_WriteByte_1 c_strings_Builder_String_0) (retK (letter_one_0.C R c_letter_isSpace_0 c_strings_Builder_WriteByte_1 c_strings_Builder_String_0) Tryd.f44.results.toList (List.range 0) κ) 10000 f (placeOf Tryd.f44 4) (letter_one_0.s4 x0 x1 x2 x3 x4) = letter_one_0.L4 c_letter_isSpace_0 c_strings_Builder_WriteByte_1 c_strings_Builder_String_0 (fun r0 => κ [.str r0]) f x0 x1 x2 x3 x4
  | 0, _, _, _, _, _ => rfl
  | f + 1, x0, x1, x2, x3, x4 => by
    show start (letter_one_0.C R c_letter_isSpace_0 c_strings_Builder_WriteByte_1 c_strings_Builder_String_0) (goto (letter_one_0.C R c_letter_isSpace_0 c_strings_Builder_WriteByte_1 c_strings_Builder_String_0) (retK (letter_one_0.C R c_letter_isSpace_0 c_strings_Builder_WriteByte_1 c_strings_Builder_String_0) Tryd.f44.results.toList (List.range 0) κ) 10000 f) (retK (letter_one_0.C R c_letter_isSpace_0 c_strings_Builder_WriteByte_1 c_strings_Builder_String_0) Tryd.f44.results.toList (List.range 0) κ) 10000 (placeOf Tryd.f44 4) (letter_one_0.s4 x0 x1 x2 x3 x4) = _
    rw [letter_one_0.c4]
    simp only [letter_one_0.g4 R c_letter_isSpace_0 c_strings_Builder_WriteByte_1 c_strings_Builder_String_0 κ f]
    rfl
theorem letter_one_0.run (R : Type) (κ : List SV → Option R) (a0 : ByteArray) :
    runF (letter_one_0.C R letter_isSpace_0 strings_Builder_WriteByte_1 strings_Builder_String_0) Tryd.f44 10000 fuelK [.str a0] κ = letter_one_0 a0 (fun r0 => κ [.str r0]) := by
  rw [letter_one_0.c]
  simp only [letter_one_0.g4 R letter_isSpace_0 strings_Builder_WriteByte_1 strings_Builder_String_0 κ fuelK]
  rfl
theorem letter_one_0.Γ_does {R : Type} (tab : Tab) (ht : TabOk tab) (g : Nat) : Does (R := R) Tryd.prog (tabTy tyL) tab g ((letter_one_0.C R letter_isSpace_0 strings_Builder_WriteByte_1 strings_Builder_String_0).call g) := by
  refine does_of fun xs κ => ?_
  show DoesAt _ _ _ g xs κ (letter_one_0.Γ letter_isSpace_0 strings_Builder_WriteByte_1 strings_Builder_String_0 g xs κ)
  unfold letter_one_0.Γ
  split
  · split
    · exact strings_Builder_String_0.does tab ht _ κ
    · exact DoesAt.none
  · split
    · exact letter_isSpace_0.does tab ht _ κ
    · exact DoesAt.none
  · split
    · exact strings_Builder_WriteByte_1.does tab ht _ _ κ
    · exact DoesAt.none
  · exact DoesAt.none
theorem letter_one_0.does {R : Type} (tab : Tab) (ht : TabOk tab) (a0 : ByteArray) (κ : List SV → Option R) : DoesAt Tryd.prog (tabTy tyL) tab 44 [.str a0] κ (letter_one_0 a0 (fun r0 => κ [.str r0])) := by
  intro r h w vs Rt Ra bs hpre
  exact runF_sound tyOk (letter_one_0.Γ_does tab ht) (show Tryd.prog.funcs[44]? = some Tryd.f44 by kernel_rfl) (by kernel_rfl) ((letter_one_0.run R κ a0).trans h) hpre
def letter_rules_0.Γ {R : Type} (g : Nat) (xs : List SV) (κ : List SV → Option R) : Option R :=
  match g with
  | _ => none
def letter_rules_0.h (n : Nat) : Option (List (Nat × List (Nat × Nat))) :=
  match n with
  | _ => none
def letter_rules_0.C (R : Type) : Cfg R := ⟨tabTy tyL, letter_rules_0.Γ, fun _ => false, letter_rules_0.h⟩
theorem letter_rules_0.c (R : Type) (κ : List SV → Option R) (k : Nat) :
    runF (letter_rules_0.C R) Tryd.f45 10000 k [] κ = letter_rules_0.e (fun r0 r1 r2 r3 r4 r5 => κ [.agg [.fn 76, .bool r0, .fn 78, .bool r1, .fn 79, .bool r2, .fn 81, .bool r3, .fn 83, .bool r4, .fn 85, .bool r5]]) := by kernel_rfl
theorem letter_rules_0.run (R : Type) (κ : List SV → Option R) :
    runF (letter_rules_0.C R) Tryd.f45 10000 fuelK [] κ = letter_rules_0 (fun r0 r1 r2 r3 r4 r5 => κ [.agg [.fn 76, .bool r0, .fn 78, .bool r1, .fn 79, .bool r2, .fn 81, .bool r3, .fn 83, .bool r4, .fn 85, .bool r5]]) := by
  rw [letter_rules_0.c]
  rfl
theorem letter_rules_0.Γ_does {R : Type} (tab : Tab) (ht : TabOk tab) (g : Nat) : Does (R := R) Tryd.prog (tabTy tyL) tab g ((letter_rules_0.C R).call g) := by
  refine does_of fun xs κ => ?_
  show DoesAt _ _ _ g xs κ (letter_rules_0.Γ g xs κ)
  unfold letter_rules_0.Γ
  split
  · exact DoesAt.none
theorem letter_rules_0.does {R : Type} (tab : Tab) (ht : TabOk tab) (κ : List SV → Option R) : DoesAt Tryd.prog (tabTy tyL) tab 45 [] κ (letter_rules_0 (fun r0 r1 r2 r3 r4 r5 => κ [.agg [.fn 76, .bool r0, .fn 78, .bool r1, .fn 79, .bool r2, .fn 81, .bool r3, .fn 83, .bool r4, .fn 85, .bool r5]])) := by
  intro r h w vs Rt Ra bs hpre
  exact runF_sound tyOk (letter_rules_0.Γ_does tab ht) (show Tryd.prog.funcs[45]? = some Tryd.f45 by kernel_rfl) (by kernel_rfl) ((letter_rules_0.run R κ).trans h) hpre
def octet_Same_0.Γ {R : Type} (c_octet_Lower_0 : ByteArray → (ByteArray → Option R) → Option R) (g : Nat) (xs : List SV) (κ : List SV → Option R) : Option R :=
  match g with
  | 57 => (match xs with
    | [.str a0] => c_octet_Lower_0 a0 (fun r0 => κ [.str r0])
    | _ => none)
  | _ => none
def octet_Same_0.h (n : Nat) : Option (List (Nat × List (Nat × Nat))) :=
  match n with
  | _ => none
def octet_Same_0.C (R : Type) (c_octet_Lower_0 : ByteArray → (ByteArray → Option R) → Option R) : Cfg R := ⟨tabTy tyL, octet_Same_0.Γ c_octet_Lower_0, fun _ => false, octet_Same_0.h⟩
theorem octet_Same_0.c (R : Type) (c_octet_Lower_0 : ByteArray → (ByteArray → Option R) → Option R) (κ : List SV → Option R) (k : Nat) (a0 : ByteArray) (a1 : ByteArray) :
    runF (octet_Same_0.C R c_octet_Lower_0) Tryd.f33 10000 k [.str a0, .str a1] κ = octet_Same_0.e c_octet_Lower_0 a0 a1 (fun r0 => κ [.bool r0]) := by kernel_rfl
theorem octet_Same_0.run (R : Type) (κ : List SV → Option R) (a0 : ByteArray) (a1 : ByteArray) :
    runF (octet_Same_0.C R octet_Lower_0) Tryd.f33 10000 fuelK [.str a0, .str a1] κ = octet_Same_0 a0 a1 (fun r0 => κ [.bool r0]) := by
  rw [octet_Same_0.c]
  rfl
theorem octet_Same_0.Γ_does {R : Type} (tab : Tab) (ht : TabOk tab) (g : Nat) : Does (R := R) Tryd.prog (tabTy tyL) tab g ((octet_Same_0.C R octet_Lower_0).call g) := by
  refine does_of fun xs κ => ?_
  show DoesAt _ _ _ g xs κ (octet_Same_0.Γ octet_Lower_0 g xs κ)
  unfold octet_Same_0.Γ
  split
  · split
    · exact octet_Lower_0.does tab ht _ κ
    · exact DoesAt.none
  · exact DoesAt.none
theorem octet_Same_0.does {R : Type} (tab : Tab) (ht : TabOk tab) (a0 : ByteArray) (a1 : ByteArray) (κ : List SV → Option R) : DoesAt Tryd.prog (tabTy tyL) tab 33 [.str a0, .str a1] κ (octet_Same_0 a0 a1 (fun r0 => κ [.bool r0])) := by
  intro r h w vs Rt Ra bs hpre
  exact runF_sound tyOk (octet_Same_0.Γ_does tab ht) (show Tryd.prog.funcs[33]? = some Tryd.f33 by kernel_rfl) (by kernel_rfl) ((octet_Same_0.run R κ a0 a1).trans h) hpre
def letter_begin_0.Γ {R : Type} (c_octet_Same_0 : ByteArray → ByteArray → (Bool → Option R) → Option R) (g : Nat) (xs : List SV) (κ : List SV → Option R) : Option R :=
  match g with
  | 33 => (match xs with
    | [.str a0, .str a1] => c_octet_Same_0 a0 a1 (fun r0 => κ [.bool r0])
    | _ => none)
  | _ => none
def letter_begin_0.h (n : Nat) : Option (List (Nat × List (Nat × Nat))) :=
  match n with
  | _ => none
def letter_begin_0.C (R : Type) (c_octet_Same_0 : ByteArray → ByteArray → (Bool → Option R) → Option R) : Cfg R := ⟨tabTy tyL, letter_begin_0.Γ c_octet_Same_0, fun _ => false, letter_begin_0.h⟩
theorem letter_begin_0.c (R : Type) (c_octet_Same_0 : ByteArray → ByteArray → (Bool → Option R) → Option R) (κ : List SV → Option R) (k : Nat) (a0 : ByteArray) (a1 : ByteArray) :
    runF (letter_begin_0.C R c_octet_Same_0) Tryd.f86 10000 k [.str a0, .str a1] κ = letter_begin_0.e c_octet_Same_0 a0 a1 (fun r0 => κ [.bool r0]) := by kernel_rfl
theorem letter_begin_0.run (R : Type) (κ : List SV → Option R) (a0 : ByteArray) (a1 : ByteArray) :
    runF (letter_begin_0.C R octet_Same_0) Tryd.f86 10000 fuelK [.str a0, .str a1] κ = letter_begin_0 a0 a1 (fun r0 => κ [.bool r0]) := by
  rw [letter_begin_0.c]
  rfl
theorem letter_begin_0.Γ_does {R : Type} (tab : Tab) (ht : TabOk tab) (g : Nat) : Does (R := R) Tryd.prog (tabTy tyL) tab g ((letter_begin_0.C R octet_Same_0).call g) := by
  refine does_of fun xs κ => ?_
  show DoesAt _ _ _ g xs κ (letter_begin_0.Γ octet_Same_0 g xs κ)
  unfold letter_begin_0.Γ
  split
  · split
    · exact octet_Same_0.does tab ht _ _ κ
    · exact DoesAt.none
  · exact DoesAt.none
theorem letter_begin_0.does {R : Type} (tab : Tab) (ht : TabOk tab) (a0 : ByteArray) (a1 : ByteArray) (κ : List SV → Option R) : DoesAt Tryd.prog (tabTy tyL) tab 86 [.str a0, .str a1] κ (letter_begin_0 a0 a1 (fun r0 => κ [.bool r0])) := by
  intro r h w vs Rt Ra bs hpre
  exact runF_sound tyOk (letter_begin_0.Γ_does tab ht) (show Tryd.prog.funcs[86]? = some Tryd.f86 by kernel_rfl) (by kernel_rfl) ((letter_begin_0.run R κ a0 a1).trans h) hpre
def strings_HasSuffix_0.Γ {R : Type} (c_stringslite_HasSuffix_0 : ByteArray → ByteArray → (Bool → Option R) → Option R) (g : Nat) (xs : List SV) (κ : List SV → Option R) : Option R :=
  match g with
  | 70 => (match xs with
    | [.str a0, .str a1] => c_stringslite_HasSuffix_0 a0 a1 (fun r0 => κ [.bool r0])
    | _ => none)
  | _ => none
def strings_HasSuffix_0.h (n : Nat) : Option (List (Nat × List (Nat × Nat))) :=
  match n with
  | _ => none
def strings_HasSuffix_0.C (R : Type) (c_stringslite_HasSuffix_0 : ByteArray → ByteArray → (Bool → Option R) → Option R) : Cfg R := ⟨tabTy tyL, strings_HasSuffix_0.Γ c_stringslite_HasSuffix_0, fun _ => false, strings_HasSuffix_0.h⟩
theorem strings_HasSuffix_0.c (R : Type) (c_stringslite_HasSuffix_0 : ByteArray → ByteArray → (Bool → Option R) → Option R) (κ : List SV → Option R) (k : Nat) (a0 : ByteArray) (a1 : ByteArray) :
    runF (strings_HasSuffix_0.C R c_stringslite_HasSuffix_0) Tryd.f40 10000 k [.str a0, .str a1] κ = strings_HasSuffix_0.e c_stringslite_HasSuffix_0 a0 a1 (fun r0 => κ [.bool r0]) := by kernel_rfl
theorem strings_HasSuffix_0.run (R : Type) (κ : List SV → Option R) (a0 : ByteArray) (a1 : ByteArray) :
    runF (strings_HasSuffix_0.C R stringslite_HasSuffix_0) Tryd.f40 10000 fuelK [.str a0, .str a1] κ = strings_HasSuffix_0 a0 a1 (fun r0 => κ [.bool r0]) := by
  rw [strings_HasSuffix_0.c]
  rfl
theorem strings_HasSuffix_0.Γ_does {R : Type} (tab : Tab) (ht : TabOk tab) (g : Nat) : Does (R := R) Tryd.prog (tabTy tyL) tab g ((strings_HasSuffix_0.C R stringslite_HasSuffix_0).call g) := by
  refine does_of fun xs κ => ?_
  show DoesAt _ _ _ g xs κ (strings_HasSuffix_0.Γ stringslite_HasSuffix_0 g xs κ)
  unfold strings_HasSuffix_0.Γ
  split
  · split
    · exact stringslite_HasSuffix_0.does tab ht _ _ κ
    · exact DoesAt.none
  · exact DoesAt.none
theorem strings_HasSuffix_0.does {R : Type} (tab : Tab) (ht : TabOk tab) (a0 : ByteArray) (a1 : ByteArray) (κ : List SV → Option R) : DoesAt Tryd.prog (tabTy tyL) tab 40 [.str a0, .str a1] κ (strings_HasSuffix_0 a0 a1 (fun r0 => κ [.bool r0])) := by
  intro r h w vs Rt Ra bs hpre
  exact runF_sound tyOk (strings_HasSuffix_0.Γ_does tab ht) (show Tryd.prog.funcs[40]? = some Tryd.f40 by kernel_rfl) (by kernel_rfl) ((strings_HasSuffix_0.run R κ a0 a1).trans h) hpre
def letter_rules_6_0.Γ {R : Type} (c_letter_begin_0 : ByteArray → ByteArray → (Bool → Option R) → Option R) (c_strings_HasSuffix_0 : ByteArray → ByteArray → (Bool → Option R) → Option R) (g : Nat) (xs : List SV) (κ : List SV → Option R) : Option R :=
  match g with
  | 40 => (match xs with
    | [.str a0, .str a1] => c_strings_HasSuffix_0 a0 a1 (fun r0 => κ [.bool r0])
    | _ => none)
  | 86 => (match xs with
    | [.str a0, .str a1] => c_letter_begin_0 a0 a1 (fun r0 => κ [.bool r0])
    | _ => none)
  | _ => none
def letter_rules_6_0.h (n : Nat) : Option (List (Nat × List (Nat × Nat))) :=
  match n with
  | _ => none
def letter_rules_6_0.C (R : Type) (c_letter_begin_0 : ByteArray → ByteArray → (Bool → Option R) → Option R) (c_strings_HasSuffix_0 : ByteArray → ByteArray → (Bool → Option R) → Option R) : Cfg R := ⟨tabTy tyL, letter_rules_6_0.Γ c_letter_begin_0 c_strings_HasSuffix_0, fun _ => false, letter_rules_6_0.h⟩
theorem letter_rules_6_0.c (R : Type) (c_letter_begin_0 : ByteArray → ByteArray → (Bool → Option R) → Option R) (c_strings_HasSuffix_0 : ByteArray → ByteArray → (Bool → Option R) → Option R) (κ : List SV → Option R) (k : Nat) (a0 : ByteArray) :
    runF (letter_rules_6_0.C R c_letter_begin_0 c_strings_HasSuffix_0) Tryd.f85 10000 k [.str a0] κ = letter_rules_6_0.e c_letter_begin_0 c_strings_HasSuffix_0 a0 (fun r0 r1 => κ [.tup [.str r0, .bool r1]]) := by kernel_rfl
theorem letter_rules_6_0.run (R : Type) (κ : List SV → Option R) (a0 : ByteArray) :
    runF (letter_rules_6_0.C R letter_begin_0 strings_HasSuffix_0) Tryd.f85 10000 fuelK [.str a0] κ = letter_rules_6_0 a0 (fun r0 r1 => κ [.tup [.str r0, .bool r1]]) := by
  rw [letter_rules_6_0.c]
  rfl
theorem letter_rules_6_0.Γ_does {R : Type} (tab : Tab) (ht : TabOk tab) (g : Nat) : Does (R := R) Tryd.prog (tabTy tyL) tab g ((letter_rules_6_0.C R letter_begin_0 strings_HasSuffix_0).call g) := by
  refine does_of fun xs κ => ?_
  show DoesAt _ _ _ g xs κ (letter_rules_6_0.Γ letter_begin_0 strings_HasSuffix_0 g xs κ)
  unfold letter_rules_6_0.Γ
  split
  · split
    · exact strings_HasSuffix_0.does tab ht _ _ κ
    · exact DoesAt.none
  · split
    · exact letter_begin_0.does tab ht _ _ κ
    · exact DoesAt.none
  · exact DoesAt.none
theorem letter_rules_6_0.does {R : Type} (tab : Tab) (ht : TabOk tab) (a0 : ByteArray) (κ : List SV → Option R) : DoesAt Tryd.prog (tabTy tyL) tab 85 [.str a0] κ (letter_rules_6_0 a0 (fun r0 r1 => κ [.tup [.str r0, .bool r1]])) := by
  intro r h w vs Rt Ra bs hpre
  exact runF_sound tyOk (letter_rules_6_0.Γ_does tab ht) (show Tryd.prog.funcs[85]? = some Tryd.f85 by kernel_rfl) (by kernel_rfl) ((letter_rules_6_0.run R κ a0).trans h) hpre
def utf8_ValidRune_0.Γ {R : Type} (g : Nat) (xs : List SV) (κ : List SV → Option R) : Option R :=
  match g with
  | _ => none
def utf8_ValidRune_0.h (n : Nat) : Option (List (Nat × List (Nat × Nat))) :=
  match n with
  | _ => none
def utf8_ValidRune_0.C (R : Type) : Cfg R := ⟨tabTy tyL, utf8_ValidRune_0.Γ, fun _ => false, utf8_ValidRune_0.h⟩
theorem utf8_ValidRune_0.c (R : Type) (κ : List SV → Option R) (k : Nat) (a0 : Int) :
    runF (utf8_ValidRune_0.C R) Tryd.f115 10000 k [.int .i32 a0] κ = utf8_ValidRune_0.e a0 (fun r0 => κ [.bool r0]) := by kernel_rfl
theorem utf8_ValidRune_0.run (R : Type) (κ : List SV → Option R) (a0 : Int) :
    runF (utf8_ValidRune_0.C R) Tryd.f115 10000 fuelK [.int .i32 a0] κ = utf8_ValidRune_0 a0 (fun r0 => κ [.bool r0]) := by
  rw [utf8_ValidRune_0.c]
  rfl
theorem utf8_ValidRune_0.Γ_does {R : Type} (tab : Tab) (ht : TabOk tab) (g : Nat) : Does (R := R) Tryd.prog (tabTy tyL) tab g ((utf8_ValidRune_0.C R).call g) := by
  refine does_of fun xs κ => ?_
  show DoesAt _ _ _ g xs κ (utf8_ValidRune_0.Γ g xs κ)
  unfold utf8_ValidRune_0.Γ
  split
  · exact DoesAt.none
theorem utf8_ValidRune_0.does {R : Type} (tab : Tab) (ht : TabOk tab) (a0 : Int) (κ : List SV → Option R) : DoesAt Tryd.prog (tabTy tyL) tab 115 [.int .i32 a0] κ (utf8_ValidRune_0 a0 (fun r0 => κ [.bool r0])) := by
  intro r h w vs Rt Ra bs hpre
  exact runF_sound tyOk (utf8_ValidRune_0.Γ_does tab ht) (show Tryd.prog.funcs[115]? = some Tryd.f115 by kernel_rfl) (by kernel_rfl) ((utf8_ValidRune_0.run R κ a0).trans h) hpre
def bytealg_Cutover_0.Γ {R : Type} (g : Nat) (xs : List SV) (κ : List SV → Option R) : Option R :=
  match g with
  | _ => none
def bytealg_Cutover_0.h (n : Nat) : Option (List (Nat × List (Nat × Nat))) :=
  match n with
  | _ => none
def bytealg_Cutover_0.C (R : Type) : Cfg R := ⟨tabTy tyL, bytealg_Cutover_0.Γ, fun _ => false, bytealg_Cutover_0.h⟩
theorem bytealg_Cutover_0.c (R : Type) (κ : List SV → Option R) (k : Nat) (a0 : Int) :
    runF (bytealg_Cutover_0.C R) Tryd.f90 10000 k [.int .i64 a0] κ = bytealg_Cutover_0.e a0 (fun r0 => κ [.int .i64 r0]) := by kernel_rfl
theorem bytealg_Cutover_0.run (R : Type) (κ : List SV → Option R) (a0 : Int) :
    runF (bytealg_Cutover_0.C R) Tryd.f90 10000 fuelK [.int .i64 a0] κ = bytealg_Cutover_0 a0 (fun r0 => κ [.int .i64 r0]) := by
  rw [bytealg_Cutover_0.c]
  rfl
theorem bytealg_Cutover_0.Γ_does {R : Type} (tab : Tab) (ht : TabOk tab) (g : Nat) : Does (R := R) Tryd.prog (tabTy tyL) tab g ((bytealg_Cutover_0.C R).call g) := by
  refine does_of fun xs κ => ?_
  show DoesAt _ _ _ g xs κ (bytealg_Cutover_0.Γ g xs κ)
  unfold bytealg_Cutover_0.Γ
  split
  · exact DoesAt.none
theorem bytealg_Cutover_0.does {R : Type} (tab : Tab) (ht : TabOk tab) (a0 : Int) (κ : List SV → Option R) : DoesAt Tryd.prog (tabTy tyL) tab 90 [.int .i64 a0] κ (bytealg_Cutover_0 a0 (fun r0 => κ [.int .i64 r0])) := by
  intro r h w vs Rt Ra bs hpre
  exact runF_sound tyOk (bytealg_Cutover_0.Γ_does tab ht) (show Tryd.prog.funcs[90]? = some Tryd.f90 by kernel_rfl) (by kernel_rfl) ((bytealg_Cutover_0.run R κ a0).trans h) hpre
def strings_IndexRune_0.Γ {R : Type} (c_strings_IndexByte_0 : ByteArray → Int → (Int → Option R) → Option R) (c_utf8_ValidRune_0 : Int → (Bool → Option R) → Option R) (c_bytealg_Cutover_0 : Int → (Int → Option R) → Option R) (g : Nat) (xs : List SV) (κ : List SV → Option R) : Option R :=
  match g with
  | 37 => (match xs with
    | [.str a0, .int .u8 a1] => c_strings_IndexByte_0 a0 a1 (fun r0 => κ [.int .i64 r0])
    | _ => none)
  | 90 => (match xs with
    | [.int .i64 a0] => c_bytealg_Cutover_0 a0 (fun r0 => κ [.int .i64 r0])
    | _ => none)
  | 115 => (match xs with
    | [.int .i32 a0] => c_utf8_ValidRune_0 a0 (fun r0 => κ [.bool r0])
    | _ => none)
  | _ => none
def strings_IndexRune_0.h (n : Nat) : Option (List (Nat × List (Nat × Nat))) :=
  match n with
  | 5 => some [(0, [(0, 0)]), (1, [(0, 0)]), (7, [(0, 0)]), (8, [(0, 0)]), (9, [(0, 0)]), (10, [(0, 0)])]
  | 12 => some [(0, [(0, 0)]), (1, [(0, 0)]), (7, [(0, 0)]), (8, [(0, 0)]), (9, [(0, 0)]), (10, [(0, 0)]), (12, [(0, 0)])]
  | 38 => some [(175, [(0, 0)])]
  | _ => none
def strings_IndexRune_0.C (R : Type) (c_strings_IndexByte_0 : ByteArray → Int → (Int → Option R) → Option R) (c_utf8_ValidRune_0 : Int → (Bool → Option R) → Option R) (c_bytealg_Cutover_0 : Int → (Int → Option R) → Option R) : Cfg R := ⟨tabTy tyL, strings_IndexRune_0.Γ c_strings_IndexByte_0 c_utf8_ValidRune_0 c_bytealg_Cutover_0, fun _ => false, strings_IndexRune_0.h⟩
def strings_IndexRune_0.s5 (x0 : ByteArray) (x1 : Int) (x2 : ByteArray) (x3 : Int) (x4 : Int) (x5 : Int) : St := ⟨mkS 187 [(0, .str x0), (1, .int .i32 x1), (7, .str x2), (8, .int .i64 x3), (9, .int .i64 x4), (10, .int .i64 x5)], [], top⟩
def strings_IndexRune_0.s12 (x0 : ByteArray) (x1 : Int) (x2 : ByteArray) (x3 : Int) (x4 : Int) (x5 : Int) (x6 : Int) : St := ⟨mkS 187 [(0, .str x0), (1, .int .i32 x1), (7, .str x2), (8, .int .i64 x3), (9, .int .i64 x4), (10, .int .i64 x5), (12, .int .i64 x6)], [], top⟩
def strings_IndexRune_0.s38 (x0 : ByteArray) (x1 : Nat) : St := ⟨mkS 187 [(175, .ptr 11327 0)], [(11327, .sit x0 x1)], top⟩
theorem strings_IndexRune_0.c5 (R : Type) (c_strings_IndexByte_0 : ByteArray → Int → (Int → Option R) → Option R) (c_utf8_ValidRune_0 : Int → (Bool → Option R) → Option R) (c_bytealg_Cutover_0 : Int → (Int → Option R) → Option R) (J : List Item → St → Option R) (κ : List SV → Option R) (x0 : ByteArray) (x1 : Int) (x2 : ByteArray) (x3 : Int) (x4 : Int) (x5 : Int) :
    start (strings_IndexRune_0.C R c_strings_IndexByte_0 c_utf8_ValidRune_0 c_bytealg_Cutover_0) J (retK (strings_IndexRune_0.C R c_strings_IndexByte_0 c_utf8_ValidRune_0 c_bytealg_Cutover_0) Tryd.f111.results.toList (List.range 0) κ) 10000 (placeOf Tryd.f111 5) (strings_IndexRune_0.s5 x0 x1 x2 x3 x4 x5) = strings_IndexRune_0.t5 c_strings_IndexByte_0 c_utf8_ValidRune_0 c_bytealg_Cutover_0 x0 x1 x2 x3 x4 x5 (fun y0 y1 y2 y3 y4 y5 => J (placeOf Tryd.f111 5) (strings_IndexRune_0.s5 y0 y1 y2 y3 y4 y5)) (fun y0 y1 y2 y3 y4 y5 y6 => J (placeOf Tryd.f111 12) (strings_IndexRune_0.s12 y0 y1 y2 y3 y4 y5 y6)) (fun y0 y1 => J (placeOf Tryd.f111 38) (strings_IndexRune_0.s38 y0 y1)) (fun r0 => κ [.int .i64 r0]) := by kernel_rfl
theorem strings_IndexRune_0.c12 (R : Type) (c_strings_IndexByte_0 : ByteArray → Int → (Int → Option R) → Option R) (c_utf8_ValidRune_0 : Int → (Bool → Option R) → Option R) (c_bytealg_Cutover_0 : Int → (Int → Option R) → Option R) (J : List Item → St → Option R) (κ : List SV → Option R) (x0 : ByteArray) (x1 : Int) (x2 : ByteArray) (x3 : Int) (x4 : Int) (x5 : Int) (x6 : Int) :
    start (strings_IndexRune_0.C R c_strings_IndexByte_0 c_utf8_ValidRune_0 c_bytealg_Cutover_0) J (retK (strings_IndexRune_0.C R c_strings_IndexByte_0 c_utf8_ValidRune_0 c_bytealg_Cutover_0) Tryd.f111.results.toList (List.range 0) κ) 10000 (placeOf Tryd.f111 12) (strings_IndexRune_0.s12 x0 x1 x2 x3 x4 x5 x6) = strings_IndexRune_0.t12 c_strings_IndexByte_0 c_utf8_ValidRune_0 c_bytealg_Cutover_0 x0 x1 x2 x3 x4 x5 x6 (fun y0 y1 y2 y3 y4 y5 => J (placeOf Tryd.f111 5) (strings_IndexRune_0.s5 y0 y1 y2 y3 y4 y5)) (fun y0 y1 y2 y3 y4 y5 y6 => J (placeOf Tryd.f111 12) (strings_IndexRune_0.s12 y0 y1 y2 y3 y4 y5 y6)) (fun y0 y1 => J (placeOf Tryd.f111 38) (strings_IndexRune_0.s38 y0 y1)) (fun r0 => κ [.int .i64 r0]) := by kernel_rfl
theorem strings_IndexRune_0.c38 (R : Type) (c_strings_IndexByte_0 : ByteArray → Int → (Int → Option R) → Option R) (c_utf8_ValidRune_0 : Int → (Bool → Option R) → Option R) (c_bytealg_Cutover_0 : Int → (Int → Option R) → Option R) (J : List Item → St → Option R) (κ : List SV → Option R) (x0 : ByteArray) (x1 : Nat) :
    start (strings_IndexRune_0.C R c_strings_IndexByte_0 c_utf8_ValidRune_0 c_bytealg_Cutover_0) J (retK (strings_IndexRune_0.C R c_strings_IndexByte_0 c_utf8_ValidRune_0 c_bytealg_Cutover_0) Tryd.f111.results.toList (List.range 0) κ) 10000 (placeOf Tryd.f111 38) (strings_IndexRune_0.s38 x0 x1) = strings_IndexRune_0.t38 c_strings_IndexByte_0 c_utf8_ValidRune_0 c_bytealg_Cutover_0 x0 x1 (fun y0 y1 y2 y3 y4 y5 => J (placeOf Tryd.f111 5) (strings_IndexRune_0.s5 y0 y1 y2 y3 y4 y5)) (fun y0 y1 y2 y3 y4 y5 y6 => J (placeOf Tryd.f111 12) (strings_IndexRune_0.s12 y0 y1 y2 y3 y4 y5 y6)) (fun y0 y1 => J (placeOf Tryd.f111 38) (strings_IndexRune_0.s38 y0 y1)) (fun r0 => κ [.int .i64 r0]) := by kernel_rfl
theorem strings_IndexRune_0.c (R : Type) (c_strings_IndexByte_0 : ByteArray → Int → (Int → Option R) → Option R) (c_utf8_ValidRune_0 : Int → (Bool → Option R) → Option R) (c_bytealg_Cutover_0 : Int → (Int → Option R) → Option R) (κ : List SV → Option R) (k : Nat) (a0 : ByteArray) (a1 : Int) :
    runF (strings_IndexRune_0.C R c_strings_IndexByte_0 c_utf8_ValidRune_0 c_bytealg_Cutover_0) Tryd.f111 10000 k [.str a0, .int .i32 a1] κ = strings_IndexRune_0.e c_strings_IndexByte_0 c_utf8_ValidRune_0 c_bytealg_Cutover_0 a0 a1 (fun y0 y1 y2 y3 y4 y5 => goto (strings_IndexRune_0.C R c_strings_IndexByte_0 c_utf8_ValidRune_0 c_bytealg_Cutover_0) (retK (strings_IndexRune_0.C R c_strings_IndexByte_0 c_utf8_ValidRune_0 c_bytealg_Cutover_0) Tryd.f111.results.toList (List.range 0) κ) 10000 k (placeOf Tryd.f111 5) (strings_IndexRune_0.s5 y0 y1 y2 y3 y4 y5)) (fun y0 y1 y2 y3 y4 y5 y6 => goto (strings_IndexRune_0.C R c_strings_IndexByte_0 c_utf8_ValidRune_0 c_bytealg_Cutover_0) (retK (strings_IndexRune_0.C R c_strings_IndexByte_0 c_utf8_ValidRune_0 c_bytealg_Cutover_0) Tryd.f111.results.toList (List.range 0) κ) 10000 k (placeOf Tryd.f111 12) (strings_IndexRune_0.s12 y0 y1 y2 y3 y4 y5 y6)) (fun y0 y1 => goto (strings_IndexRune_0.C R c_strings_IndexByte_0 c_utf8_ValidRune_0 c_bytealg_Cutover_0) (retK (strings_IndexRune_0.C R c_strings_IndexByte_0 c_utf8_ValidRune_0 c_bytealg_Cutover_0) Tryd.f111.results.toList (List.range 0) κ) 10000 k (placeOf Tryd.f111 38) (strings_IndexRune_0.s38 y0 y1)) (fun r0 => κ [.int .i64 r0]) := by kernel_rfl
theorem strings_IndexRune_0.gM5 (R : Type) (c_strings_IndexByte_0 : ByteArray → Int → (Int → Option R) → Option R) (c_utf8_ValidRune_0 : Int → (Bool → Option R) → Option R) (c_bytealg_Cutover_0 : Int → (Int → Option R) → Option R) (κ : List SV → Option R) : ∀ (f : Nat), (∀ (x0 : ByteArray) (x1 : Int) (x2 : ByteArray) (x3 : Int) (x4 : Int) (x5 : Int), goto (strings_IndexRune_0.C R c_strings_IndexByte_0 c_utf8_ValidRune_0 c_bytealg_Cutover_0) (retK (strings_IndexRune_0.C R c_strings_IndexByte_0 c_utf8_ValidRune_0 c_bytealg_Cutover_0) Tryd.f111.results.toList (List.range 0) κ) 10000 f (placeOf Tryd.f111 5) (strings_IndexRune_0.s5 x0 x1 x2 x3 x4 x5) = strings_IndexRune_0.L5 c_strings_IndexByte_0 c_utf8_ValidRune_0 c_bytealg_Cutover_0 (fun r0 => κ [.int .i64 r0]) f x0 x1 x2 x3 x4 x5) ∧
    (∀ (x0 : ByteArray) (x1 : Int) (x2 : ByteArray) (x3 : Int) (x4 : Int) (x5 : Int) (x6 : Int), goto (strings_IndexRune_0.C R c_strings_IndexByte_0 c_utf8_ValidRune_0 c_bytealg_Cutover_0) (retK (strings_IndexRune_0.C R c_strings_IndexByte_0 c_utf8_ValidRune_0 c_bytealg_Cutover_0) Tryd.f111.results.toList (List.range 0) κ) 10000 f (placeOf Tryd.f111 12) (strings_IndexRune_0.s12 x0 x1 x2 x3 x4 x5 x6) = strings_IndexRune_0.L12 c_strings_IndexByte_0 c_utf8_ValidRune_0 c_bytealg_Cutover_0 (fun r0 => κ [.int .i64 r0]) f x0 x1 x2 x3 x4 x5 x6)
  | 0 => ⟨fun _ _ _ _ _ _ => rfl, fun _ _ _ _ _ _ _ => rfl⟩
  | f + 1 => by
    obtain ⟨ih0, ih1⟩ := strings_IndexRune_0.gM5 R c_strings_IndexByte_0 c_utf8_ValidRune_0 c_bytealg_Cutover_0 κ f
    refine ⟨?_, ?_⟩
    · intro x0 x1 x2 x3 x4 x5
      show start (strings_IndexRune_0.C R c_strings_IndexByte_0 c_utf8_ValidRune_0 c_bytealg_Cutover_0) (goto (strings_IndexRune_0.C R c_strings_IndexByte_0 c_utf8_ValidRune_0 c_bytealg_Cutover_0) (retK (strings_IndexRune_0.C R c_strings_IndexByte_0 c_utf8_ValidRune_0 c_bytealg_Cutover_0) Tryd.f111.results.toList (List.range 0) κ) 10000 f) (retK (strings_IndexRune_0.C R c_strings_IndexByte_0 c_utf8_ValidRune_0 c_bytealg_Cutover_0) Tryd.f111.results.toList (List.range 0) κ) 10000 (placeOf Tryd.f111 5) (strings_IndexRune_0.s5 x0 x1 x2 x3 x4 x5) = _
      rw [strings_IndexRune_0.c5]
      simp only [ih0, ih1]
      rfl
    · intro x0 x1 x2 x3 x4 x5 x6
      show start (strings_IndexRune_0.C R c_strings_IndexByte_0 c_utf8_ValidRune_0 c_bytealg_Cutover_0) (goto (strings_IndexRune_0.C R c_strings_IndexByte_0 c_utf8_ValidRune_0 c_bytealg_Cutover_0) (retK (strings_IndexRune_0.C R c_strings_IndexByte_0 c_utf8_ValidRune_0 c_bytealg_Cutover_0) Tryd.f111.results.toList (List.range 0) κ) 10000 f) (retK (strings_IndexRune_0.C R c_strings_IndexByte_0 c_utf8_ValidRune_0 c_bytealg_Cutover_0) Tryd.f111.results.toList (List.range 0) κ) 10000 (placeOf Tryd.f111 12) (strings_IndexRune_0.s12 x0 x1 x2 x3 x4 x5 x6) = _
      rw [strings_IndexRune_0.c12]
      simp only [ih0, ih1]
      rfl
theorem strings_IndexRune_0.g5 (R : Type) (c_strings_IndexByte_0 : ByteArray → Int → (Int → Option R) → Option R) (c_utf8_ValidRune_0 : Int → (Bool → Option R) → Option R) (c_bytealg_Cutover_0 : Int → (Int → Option R) → Option R) (κ : List SV → Option R) (f : Nat) (x0 : ByteArray) (x1 : Int) (x2 : ByteArray) (x3 : Int) (x4 : Int) (x5 : Int) : goto (strings_IndexRune_0.C R c_strings_IndexByte_0 c_utf8_ValidRune_0 c_bytealg_Cutover_0) (retK (strings_IndexRune_0.C R c_strings_IndexByte_0 c_utf8_ValidRune_0 c_bytealg_Cutover_0) Tryd.f111.results.toList (List.range 0) κ) 10000 f (placeOf Tryd.f111 5) (strings_IndexRune_0.s5 x0 x1 x2 x3 x4 x5) = strings_IndexRune_0.L5 c_strings_IndexByte_0 c_utf8_ValidRune_0 c_bytealg_Cutover_0 (fun r0 => κ [.int .i64 r0]) f x0 x1 x2 x3 x4 x5 := (strings_IndexRune_0.gM5 R c_strings_IndexByte_0 c_utf8_ValidRune_0 c_bytealg_Cutover_0 κ f).1 x0 x1 x2 x3 x4 x5
theorem strings_IndexRune_0.g12 (R : Type) (c_strings_IndexByte_0 : ByteArray → Int → (Int → Option R) → Option R) (c_utf8_ValidRune_0 : Int → (Bool → Option R) → Option R) (c_bytealg_Cutover_0 : Int → (Int → Option R) → Option R) (κ : List SV → Option R) (f : Nat) (x0 : ByteArray) (x1 : Int) (x2 : ByteArray) (x3 : Int) (x4 : Int) (x5 : Int) (x6 : Int) : goto (strings_IndexRune_0.C R c_strings_IndexByte_0 c_utf8_ValidRune_0 c_bytealg_Cutover_0) (retK (strings_IndexRune_0.C R c_strings_IndexByte_0 c_utf8_ValidRune_0 c_bytealg_Cutover_0) Tryd.f111.results.toList (List.range 0) κ) 10000 f (placeOf Tryd.f111 12) (strings_IndexRune_0.s12 x0 x1 x2 x3 x4 x5 x6) = strings_IndexRune_0.L12 c_strings_IndexByte_0 c_utf8_ValidRune_0 c_bytealg_Cutover_0 (fun r0 => κ [.int .i64 r0]) f x0 x1 x2 x3 x4 x5 x6 := (strings_IndexRune_0.gM5 R c_strings_IndexByte_0 c_utf8_ValidRune_0 c_bytealg_Cutover_0 κ f).2 x0 x1 x2 x3 x4 x5 x6
theorem strings_IndexRune_0.g38 (R : Type) (c_strings_IndexByte_0 : ByteArray → Int → (Int → Option R) → Option R) (c_utf8_ValidRune_0 : Int → (Bool → Option R) → Option R) (c_bytealg_Cutover_0 : Int → (Int → Option R) → Option R) (κ : List SV → Option R) : ∀ (f : Nat) (x0 : ByteArray) (x1 : Nat), goto (strings_IndexRune_0.C R c_strings_IndexByte_0 c_utf8_ValidRune_0 c_bytealg_Cutover_0) (retK (strings_IndexRune_0.C R c_strings_IndexByte_0 c_utf8_ValidRune_0 c_bytealg_Cutover_0) Tryd.f111.results.toList (List.range 0) κ) 10000 f (placeOf Tryd.f111 38) (strings_IndexRune_0.s38 x0 x1) = strings_IndexRune_0.L38 c_strings_IndexByte_0 c_utf8_ValidRune_0 c_bytealg_Cutover_0 (fun r0 => κ [.int .i64 r0]) f x0 x1
  | 0, _, _ => rfl
  | f + 1, x0, x1 => by
    show start (strings_IndexRune_0.C R c_strings_IndexByte_0 c_utf8_ValidRune_0 c_bytealg_Cutover_0) (goto (strings_IndexRune_0.C R c_strings_IndexByte_0 c_utf8_ValidRune_0 c_bytealg_Cutover_0) (retK (strings_IndexRune_0.C R c_strings_IndexByte_0 c_utf8_ValidRune_0 c_bytealg_Cutover_0) Tryd.f111.results.toList (List.range 0) κ) 10000 f) (retK (strings_IndexRune_0.C R c_strings_IndexByte_0 c_utf8_ValidRune_0 c_bytealg_Cutover_0) Tryd.f111.results.toList (List.range 0) κ) 10000 (placeOf Tryd.f111 38) (strings_IndexRune_0.s38 x0 x1) = _
    rw [strings_IndexRune_0.c38]
    simp only [strings_IndexRune_0.g38 R c_strings_IndexByte_0 c_utf8_ValidRune_0 c_bytealg_Cutover_0 κ f]
    rfl
theorem strings_IndexRune_0.run (R : Type) (κ : List SV → Option R) (a0 : ByteArray) (a1 : Int) :
    runF (strings_IndexRune_0.C R strings_IndexByte_0 utf8_ValidRune_0 bytealg_Cutover_0) Tryd.f111 10000 fuelK [.str a0, .int .i32 a1] κ = strings_IndexRune_0 a0 a1 (fun r0 => κ [.int .i64 r0]) := by
  rw [strings_IndexRune_0.c]
  simp only [strings_IndexRune_0.g5 R strings_IndexByte_0 utf8_ValidRune_0 bytealg_Cutover_0 κ fuelK, strings_IndexRune_0.g12 R strings_IndexByte_0 utf8_ValidRune_0 bytealg_Cutover_0 κ fuelK, strings_IndexRune_0.g38 R strings_IndexByte_0 utf8_ValidRune_0 bytealg_Cutover_0 κ fuelK]
  rfl
theorem strings_IndexRune_0.Γ_does {R : Type} (tab : Tab) (ht : TabOk tab) (g : Nat) : Does (R := R) Tryd.prog (tabTy tyL) tab g ((strings_IndexRune_0.C R strings_IndexByte_0 utf8_ValidRune_0 bytealg_Cutover_0).call g) := by
  refine does_of fun xs κ => ?_
  show DoesAt _ _ _ g xs κ (strings_IndexRune_0.Γ strings_IndexByte_0 utf8_ValidRune_0 bytealg_Cutover_0 g xs κ)
  unfold strings_IndexRune_0.Γ
  split
  · split
    · exact strings_IndexByte_0.does tab ht _ _ κ
    · exact DoesAt.none
  · split
    · exact bytealg_Cutover_0.does tab ht _ κ
    · exact DoesAt.none
  · split
    · exact utf8_ValidRune_0.does tab ht _ κ
    · exact DoesAt.none
  · exact DoesAt.none
theorem strings_IndexRune_0.does {R : Type} (tab : Tab) (ht : TabOk tab) (a0 : ByteArray) (a1 : Int) (κ : List SV → Option R) : DoesAt Tryd.prog (tabTy tyL) tab 111 [.str a0, .int .i32 a1] κ (strings_IndexRune_0 a0 a1 (fun r0 => κ [.int .i64 r0])) := by
  intro r h w vs Rt Ra bs hpre
  exact runF_sound tyOk (strings_IndexRune_0.Γ_does tab ht) (show Tryd.prog.funcs[111]? = some Tryd.f111 by kernel_rfl) (by kernel_rfl) ((strings_IndexRune_0.run R κ a0 a1).trans h) hpre
def strings_shouldUseASCIISet_0.Γ {R : Type} (g : Nat) (xs : List SV) (κ : List SV → Option R) : Option R :=
  match g with
  | _ => none
def strings_shouldUseASCIISet_0.h (n : Nat) : Option (List (Nat × List (Nat × Nat))) :=
  match n with
  | _ => none
def strings_shouldUseASCIISet_0.C (R : Type) : Cfg R := ⟨tabTy tyL, strings_shouldUseASCIISet_0.Γ, fun _ => false, strings_shouldUseASCIISet_0.h⟩
theorem strings_shouldUseASCIISet_0.c (R : Type) (κ : List SV → Option R) (k : Nat) (a0 : Int) :
    runF (strings_shouldUseASCIISet_0.C R) Tryd.f114 10000 k [.int .i64 a0] κ = strings_shouldUseASCIISet_0.e a0 (fun r0 => κ [.bool r0]) := by kernel_rfl
theorem strings_shouldUseASCIISet_0.run (R : Type) (κ : List SV → Option R) (a0 : Int) :
    runF (strings_shouldUseASCIISet_0.C R) Tryd.f114 10000 fuelK [.int .i64 a0] κ = strings_shouldUseASCIISet_0 a0 (fun r0 => κ [.bool r0]) := by
  rw [strings_shouldUseASCIISet_0.c]
  rfl
theorem strings_shouldUseASCIISet_0.Γ_does {R : Type} (tab : Tab) (ht : TabOk tab) (g : Nat) : Does (R := R) Tryd.prog (tabTy tyL) tab g ((strings_shouldUseASCIISet_0.C R).call g) := by
  refine does_of fun xs κ => ?_
  show DoesAt _ _ _ g xs κ (strings_shouldUseASCIISet_0.Γ g xs κ)
  unfold strings_shouldUseASCIISet_0.Γ
  split
  · exact DoesAt.none
theorem strings_shouldUseASCIISet_0.does {R : Type} (tab : Tab) (ht : TabOk tab) (a0 : Int) (κ : List SV → Option R) : DoesAt Tryd.prog (tabTy tyL) tab 114 [.int .i64 a0] κ (strings_shouldUseASCIISet_0 a0 (fun r0 => κ [.bool r0])) := by
  intro r h w vs Rt Ra bs hpre
  exact runF_sound tyOk (strings_shouldUseASCIISet_0.Γ_does tab ht) (show Tryd.prog.funcs[114]? = some Tryd.f114 by kernel_rfl) (by kernel_rfl) ((strings_shouldUseASCIISet_0.run R κ a0).trans h) hpre
def strings_IndexAny_0.Γ {R : Type} (c_strings_IndexRune_0 : ByteArray → Int → (Int → Option R) → Option R) (c_strings_shouldUseASCIISet_0 : Int → (Bool → Option R) → Option R) (c_strings_makeASCIISet_0 : ByteArray → (List AV → Bool → Option R) → Option R) (c_strings_asciiSet_contains_0 : List AV → Int → (Bool → Option R) → Option R) (g : Nat) (xs : List SV) (κ : List SV → Option R) : Option R :=
  match g with
  | 64 => (match xs with
    | [.str a0] => c_strings_makeASCIISet_0 a0 (fun r0 r1 => κ [.tup [.ar 4 256 r0, .bool r1]])
    | _ => none)
  | 93 => (match xs with
    | [.ra 4 256 a0 true, .int .u8 a1] => c_strings_asciiSet_contains_0 a0 a1 (fun r0 => κ [.bool r0])
    | _ => none)
  | 111 => (match xs with
    | [.str a0, .int .i32 a1] => c_strings_IndexRune_0 a0 a1 (fun r0 => κ [.int .i64 r0])
    | _ => none)
  | 114 => (match xs with
    | [.int .i64 a0] => c_strings_shouldUseASCIISet_0 a0 (fun r0 => κ [.bool r0])
    | _ => none)
  | _ => none
def strings_IndexAny_0.h (n : Nat) : Option (List (Nat × List (Nat × Nat))) :=
  match n with
  | 12 => some [(0, [(0, 0)]), (6, [(0, 1)]), (8, [(0, 0)])]
  | 18 => some [(1, [(0, 0)]), (45, [(0, 0)])]
  | _ => none
def strings_IndexAny_0.C (R : Type) (c_strings_IndexRune_0 : ByteArray → Int → (Int → Option R) → Option R) (c_strings_shouldUseASCIISet_0 : Int → (Bool → Option R) → Option R) (c_strings_makeASCIISet_0 : ByteArray → (List AV → Bool → Option R) → Option R) (c_strings_asciiSet_contains_0 : List AV → Int → (Bool → Option R) → Option R) : Cfg R := ⟨tabTy tyL, strings_IndexAny_0.Γ c_strings_IndexRune_0 c_strings_shouldUseASCIISet_0 c_strings_makeASCIISet_0 c_strings_asciiSet_contains_0, fun g => Nat.beq g 93, strings_IndexAny_0.h⟩
def strings_IndexAny_0.s12 (x0 : ByteArray) (x1 : List AV) (x2 : Int) : St := ⟨mkS 55 [(0, .str x0), (6, .ra 4 256 x1 true), (8, .int .i64 x2)], [], top⟩
def strings_IndexAny_0.s18 (x0 : ByteArray) (x1 : ByteArray) (x2 : Nat) : St := ⟨mkS 55 [(1, .str x0), (45, .ptr 3007 0)], [(3007, .sit x1 x2)], top⟩
theorem strings_IndexAny_0.c12 (R : Type) (c_strings_IndexRune_0 : ByteArray → Int → (Int → Option R) → Option R) (c_strings_shouldUseASCIISet_0 : Int → (Bool → Option R) → Option R) (c_strings_makeASCIISet_0 : ByteArray → (List AV → Bool → Option R) → Option R) (c_strings_asciiSet_contains_0 : List AV → Int → (Bool → Option R) → Option R) (J : List Item → St → Option R) (κ : List SV → Option R) (x0 : ByteArray) (x1 : List AV) (x2 : Int) :
    start (strings_IndexAny_0.C R c_strings_IndexRune_0 c_strings_shouldUseASCIISet_0 c_strings_makeASCIISet_0 c_strings_asciiSet_contains_0) J (retK (strings_IndexAny_0.C R c_strings_IndexRune_0 c_strings_shouldUseASCIISet_0 c_strings_makeASCIISet_0 c_strings_asciiSet_contains_0) Tryd.f103.results.toList (List.range 0) κ) 10000 (placeOf Tryd.f103 12) (strings_IndexAny_0.s12 x0 x1 x2) = strings_IndexAny_0.t12 c_strings_IndexRune_0 c_strings_shouldUseASCIISet_0 c_strings_makeASCIISet_0 c_strings_asciiSet_contains_0 x0 x1 x2 (fun y0 y1 y2 => J (placeOf Tryd.f103 12) (strings_IndexAny_0.s12 y0 y1 y2)) (fun y0 y1 y2 => J (placeOf Tryd.f103 18) (strings_IndexAny_0.s18 y0 y1 y2)) (fun r0 => κ [.int .i64 r0]) := by kernel_rfl
theorem strings_IndexAny_0.c18 (R : Type) (c_strings_IndexRune_0 : ByteArray → Int → (Int → Option R) → Option R) (c_strings_shouldUseASCIISet_0 : Int → (Bool → Option R) → Option R) (c_strings_makeASCIISet_0 : ByteArray → (List AV → Bool → Option R) → Option R) (c_strings_asciiSet_contains_0 : List AV → Int → (Bool → Option R) → Option R) (J : List Item → St → Option R) (κ : List SV → Option R) (x0 : ByteArray) (x1 : ByteArray) (x2 : Nat) :
    start (strings_IndexAny_0.C R c_strings_IndexRune_0 c_strings_shouldUseASCIISet_0 c_strings_makeASCIISet_0 c_strings_asciiSet_contains_0) J (retK (strings_IndexAny_0.C R c_strings_IndexRune_0 c_strings_shouldUseASCIISet_0 c_strings_makeASCIISet_0 c_strings_asciiSet_contains_0) Tryd.f103.results.toList (List.range 0) κ) 10000 (placeOf Tryd.f103 18) (strings_IndexAny_0.s18 x0 x1 x2) = strings_IndexAny_0.t18 c_strings_IndexRune_0 c_strings_shouldUseASCIISet_0 c_strings_makeASCIISet_0 c_strings_asciiSet_contains_0 x0 x1 x2 (fun y0 y1 y2 => J (placeOf Tryd.f103 12) (strings_IndexAny_0.s12 y0 y1 y2)) (fun y0 y1 y2 => J (placeOf Tryd.f103 18) (strings_IndexAny_0.s18 y0 y1 y2)) (fun r0 => κ [.int .i64 r0]) := by kernel_rfl
theorem strings_IndexAny_0.c (R : Type) (c_strings_IndexRune_0 : ByteArray → Int → (Int → Option R) → Option R) (c_strings_shouldUseASCIISet_0 : Int → (Bool → Option R) → Option R) (c_strings_makeASCIISet_0 : ByteArray → (List AV → Bool → Option R) → Option R) (c_strings_asciiSet_contains_0 : List AV → Int → (Bool → Option R) → Option R) (κ : List SV → Option R) (k : Nat) (a0 : ByteArray) (a1 : ByteArray) :
    runF (strings_IndexAny_0.C R c_strings_IndexRune_0 c_strings_shouldUseASCIISet_0 c_strings_makeASCIISet_0 c_strings_asciiSet_contains_0) Tryd.f103 10000 k [.str a0, .str a1] κ = strings_IndexAny_0.e c_strings_IndexRune_0 c_strings_shouldUseASCIISet_0 c_strings_makeASCIISet_0 c_strings_asciiSet_contains_0 a0 a1 (fun y0 y1 y2 => goto (strings_IndexAny_0.C R c_strings_IndexRune_0 c_strings_shouldUseASCIISet_0 c_strings_makeASCIISet_0 c_strings_asciiSet_contains_0) (retK (strings_IndexAny_0.C R c_strings_IndexRune_0 c_strings_shouldUseASCIISet_0 c_strings_makeASCIISet_0 c_strings_asciiSet_contains_0) Tryd.f103.results.toList (List.range 0) κ) 10000 k (placeOf Tryd.f103 12) (strings_IndexAny_0.s12 y0 y1 y2)) (fun y0 y1 y2 => goto (strings_IndexAny_0.C R c_strings_IndexRune_0 c_strings_shouldUseASCIISet_0 c_strings_makeASCIISet_0 c_strings_asciiSet_contains_0) (retK (strings_IndexAny_0.C R c_strings_IndexRune_0 c_strings_shouldUseASCIISet_0 c_strings_makeASCIISet_0 c_strings_asciiSet_contains_0) Tryd.f103.results.toList (List.range 0) κ) 10000 k (placeOf Tryd.f103 18) (strings_IndexAny_0.s18 y0 y1 y2)) (fun r0 => κ [.int .i64 r0]) := by kernel_rfl
theorem strings_IndexAny_0.g12 (R : Type) (c_strings_IndexRune_0 : ByteArray → Int → (Int → Option R) → Option R) (c_strings_shouldUseASCIISet_0 : Int → (Bool → Option R) → Option R) (c_strings_makeASCIISet_0 : ByteArray → (List AV → Bool → Option R) → Option R) (c_strings_asciiSet_contains_0 : List AV → Int → (Bool → Option R) → Option R) (κ : List SV → Option R) : ∀ (f : Nat) (x0 : ByteArray) (x1 : List AV) (x2 : Int), goto (strings_IndexAny_0.C R c_strings_IndexRune_0 c_strings_shouldUseASCIISet_0 c_strings_makeASCIISet_0 c_strings_asciiSet_contains_0) (retK (strings_IndexAny_0.C R c_strings_IndexRune_0 c_strings_shouldUseASCIISet_0 c_strings_makeASCIISet_0 c_strings_asciiSet_contains_0) Tryd.f103.results.toList (List.range 0) κ) 10000 f (placeOf Tryd.f103 12) (strings_IndexAny_0.s12 x0 x1 x2) = strings_IndexAny_0.L12 c_strings_IndexRune_0 c_strings_shouldUseASCIISet_0 c_strings_makeASCIISet_0 c_strings_asciiSet_contains_0 (fun r0 => κ [.int .i64 r0]) f x0 x1 x2
  | 0, _, _, _ => rfl
  | f + 1, x0, x1, x2 => by
    show start (strings_IndexAny_0.C R c_strings_IndexRune_0 c_strings_shouldUseASCIISet_0 c_strings_makeASCIISet_0 c_strings_asciiSet_contains_0) (goto (strings_IndexAny_0.C R c_strings_IndexRune_0 c_strings_shouldUseASCIISet_0 c_strings_makeASCIISet_0 c_strings_asciiSet_contains_0) (retK (strings_IndexAny_0.C R c_strings_IndexRune_0 c_strings_shouldUseASCIISet_0 c_strings_makeASCIISet_0 c_strings_asciiSet_contains_0) Tryd.f103.results.toList (List.range 0) κ) 10000 f) (retK (strings_IndexAny_0.C R c_strings_IndexRune_0 c_strings_shouldUseASCIISet_0 c_strings_makeASCIISet_0 c_strings_asciiSet_contains_0) Tryd.f103.results.toList (List.range 0) κ) 10000 (placeOf Tryd.f103 12) (strings_IndexAny_0.s12 x0 x1 x2) = _
    rw [strings_IndexAny_0.c12]
    simp only [strings_IndexAny_0.g12 R c_strings_IndexRune_0 c_strings_shouldUseASCIISet_0 c_strings_makeASCIISet_0 c_strings_asciiSet_contains_0 κ f]
    rfl
theorem strings_IndexAny_0.g18 (R : Type) (c_strings_IndexRune_0 : ByteArray → Int → (Int → Option R) → Option R) (c_strings_shouldUseASCIISet_0 : Int → (Bool → Option R) → Option R) (c_strings_makeASCIISet_0 : ByteArray → (List AV → Bool → Option R) → Option R) (c_strings_asciiSet_contains_0 : List AV → Int → (Bool → Option R) → Option R) (κ : List SV → Option R) : ∀ (f : Nat) (x0 : ByteArray) (x1 : ByteArray) (x2 : Nat), goto (strings_IndexAny_0.C R c_strings_IndexRune_0 c_strings_shouldUseASCIISet_0 c_strings_makeASCIISet_0 c_strings_asciiSet_contains_0) (retK (strings_IndexAny_0.C R c_strings_IndexRune_0 c_strings_shouldUseASCIISet_0 c_strings_makeASCIISet_0 c_strings_asciiSet_contains_0) Tryd.f103.results.toList (List.range 0) κ) 10000 f (placeOf Tryd.f103 18) (strings_IndexAny_0.s18 x0 x1 x2) = strings_IndexAny_0.L18 c_strings_IndexRune_0 c_strings_shouldUseASCIISet_0 c_strings_makeASCIISet_0 c_strings_asciiSet_contains_0 (fun r0 => κ [.int .i64 r0]) f x0 x1 x2
  | 0, _, _, _ => rfl
  | f + 1, x0, x1, x2 => by
    show start (strings_IndexAny_0.C R c_strings_IndexRune_0 c_strings_shouldUseASCIISet_0 c_strings_makeASCIISet_0 c_strings_asciiSet_contains_0) (goto (strings_IndexAny_0.C R c_strings_IndexRune_0 c_strings_shouldUseASCIISet_0 c_strings_makeASCIISet_0 c_strings_asciiSet_contains_0) (retK (strings_IndexAny_0.C R c_strings_IndexRune_0 c_strings_shouldUseASCIISet_0 c_strings_makeASCIISet_0 c_strings_asciiSet_contains_0) Tryd.f103.results.toList (List.range 0) κ) 10000 f) (retK (strings_IndexAny_0.C R c_strings_IndexRune_0 c_strings_shouldUseASCIISet_0 c_strings_makeASCIISet_0 c_strings_asciiSet_contains_0) Tryd.f103.results.toList (List.range 0) κ) 10000 (placeOf Tryd.f103 18) (strings_IndexAny_0.s18 x0 x1 x2) = _
    rw [strings_IndexAny_0.c18]
    simp only [strings_IndexAny_0.g18 R c_strings_IndexRune_0 c_strings_shouldUseASCIISet_0 c_strings_makeASCIISet_0 c_strings_asciiSet_contains_0 κ f]
    rfl
theorem strings_IndexAny_0.run (R : Type) (κ : List SV → Option R) (a0 : ByteArray) (a1 : ByteArray) :
    runF (strings_IndexAny_0.C R strings_IndexRune_0 strings_shouldUseASCIISet_0 strings_makeASCIISet_0 strings_asciiSet_contains_0) Tryd.f103 10000 fuelK [.str a0, .str a1] κ = strings_IndexAny_0 a0 a1 (fun r0 => κ [.int .i64 r0]) := by
  rw [strings_IndexAny_0.c]
  simp only [strings_IndexAny_0.g12 R strings_IndexRune_0 strings_shouldUseASCIISet_0 strings_makeASCIISet_0 strings_asciiSet_contains_0 κ fuelK, strings_IndexAny_0.g18 R strings_IndexRune_0 strings_shouldUseASCIISet_0 strings_makeASCIISet_0 strings_asciiSet_contains_0 κ fuelK]
  rfl
theorem strings_IndexAny_0.Γ_does {R : Type} (tab : Tab) (ht : TabOk tab) (g : Nat) : Does (R := R) Tryd.prog (tabTy tyL) tab g ((strings_IndexAny_0.C R strings_IndexRune_0 strings_shouldUseASCIISet_0 strings_makeASCIISet_0 strings_asciiSet_contains_0).call g) := by
  refine does_of fun xs κ => ?_
  show DoesAt _ _ _ g xs κ (strings_IndexAny_0.Γ strings_IndexRune_0 strings_shouldUseASCIISet_0 strings_makeASCIISet_0 strings_asciiSet_contains_0 g xs κ)
  unfold strings_IndexAny_0.Γ
  split
  · split
    · exact strings_makeASCIISet_0.does tab ht _ κ
    · exact DoesAt.none
  · split
    · exact strings_asciiSet_contains_0.does tab ht _ _ κ
    · exact DoesAt.none
  · split
    · exact strings_IndexRune_0.does tab ht _ _ κ
    · exact DoesAt.none
  · split
    · exact strings_shouldUseASCIISet_0.does tab ht _ κ
    · exact DoesAt.none
  · exact DoesAt.none
theorem strings_IndexAny_0.does {R : Type} (tab : Tab) (ht : TabOk tab) (a0 : ByteArray) (a1 : ByteArray) (κ : List SV → Option R) : DoesAt Tryd.prog (tabTy tyL) tab 103 [.str a0, .str a1] κ (strings_IndexAny_0 a0 a1 (fun r0 => κ [.int .i64 r0])) := by
  intro r h w vs Rt Ra bs hpre
  exact runF_sound tyOk (strings_IndexAny_0.Γ_does tab ht) (show Tryd.prog.funcs[103]? = some Tryd.f103 by kernel_rfl) (by kernel_rfl) ((strings_IndexAny_0.run R κ a0 a1).trans h) hpre
def letter_blanks_0.Γ {R : Type} (g : Nat) (xs : List SV) (κ : List SV → Option R) : Option R :=
  match g with
  | _ => none
def letter_blanks_0.h (n : Nat) : Option (List (Nat × List (Nat × Nat))) :=
  match n with
  | 1 => some [(0, [(0, 0)]), (1, [(0, 0)])]
  | _ => none
def letter_blanks_0.C (R : Type) : Cfg R := ⟨tabTy tyL, letter_blanks_0.Γ, fun _ => false, letter_blanks_0.h⟩
def letter_blanks_0.s1 (x0 : ByteArray) (x1 : Int) : St := ⟨mkS 18 [(0, .str x0), (1, .int .i64 x1)], [], top⟩
theorem letter_blanks_0.c1 (R : Type) (J : List Item → St → Option R) (κ : List SV → Option R) (x0 : ByteArray) (x1 : Int) :
    start (letter_blanks_0.C R) J (retK (letter_blanks_0.C R) Tryd.f102.results.toList (List.range 0) κ) 10000 (placeOf Tryd.f102 1) (letter_blanks_0.s1 x0 x1) = letter_blanks_0.t1 x0 x1 (fun y0 y1 => J (placeOf Tryd.f102 1) (letter_blanks_0.s1 y0 y1)) (fun r0 => κ [.int .i64 r0]) := by kernel_rfl
theorem letter_blanks_0.c (R : Type) (κ : List SV → Option R) (k : Nat) (a0 : ByteArray) (a1 : Int) :
    runF (letter_blanks_0.C R) Tryd.f102 10000 k [.str a0, .int .i64 a1] κ = letter_blanks_0.e a0 a1 (fun y0 y1 => goto (letter_blanks_0.C R) (retK (letter_blanks_0.C R) Tryd.f102.results.toList (List.range 0) κ) 10000 k (placeOf Tryd.f102 1) (letter_blanks_0.s1 y0 y1)) (fun r0 => κ [.int .i64 r0]) := by kernel_rfl
theorem letter_blanks_0.g1 (R : Type) (κ : List SV → Option R) : ∀ (f : Nat) (x0 : ByteArray) (x1 : Int), goto (letter_blanks_0.C R) (retK (letter_blanks_0.C R) Tryd.f102.results.toList (List.range 0) κ) 10000 f (placeOf Tryd.f102 1) (letter_blanks_0.s1 x0 x1) = letter_blanks_0.L1 (fun r0 => κ [.int .i64 r0]) f x0 x1
  | 0, _, _ => rfl
  | f + 1, x0, x1 => by
    show start (letter_blanks_0.C R) (goto (letter_blanks_0.C R) (retK (letter_blanks_0.C R) Tryd.f102.results.toList (List.range 0) κ) 10000 f) (retK (letter_blanks_0.C R) Tryd.f102.results.toList (List.range 0) κ) 10000 (placeOf Tryd.f102 1) (letter_blanks_0.s1 x0 x1) = _
    rw [letter_blanks_0.c1]
    simp only [letter_blanks_0.g1 R κ f]
    rfl
theorem letter_blanks_0.run (R : Type) (κ : List SV → Option R) (a0 : ByteArray) (a1 : Int) :
    runF (letter_blanks_0.C R) Tryd.f102 10000 fuelK [.str a0, .int .i64 a1] κ = letter_blanks_0 a0 a1 (fun r0 => κ [.int .i64 r0]) := by
  rw [letter_blanks_0.c]
  simp only [letter_blanks_0.g1 R κ fuelK]
  rfl
theorem letter_blanks_0.Γ_does {R : Type} (tab : Tab) (ht : TabOk tab) (g : Nat) : Does (R := R) Tryd.prog (tabTy tyL) tab g ((letter_blanks_0.C R).call g) := by
  refine does_of fun xs κ => ?_
  show DoesAt _ _ _ g xs κ (letter_blanks_0.Γ g xs κ)
  unfold letter_blanks_0.Γ
  split
  · exact DoesAt.none
theorem letter_blanks_0.does {R : Type} (tab : Tab) (ht : TabOk tab) (a0 : ByteArray) (a1 : Int) (κ : List SV → Option R) : DoesAt Tryd.prog (tabTy tyL) tab 102 [.str a0, .int .i64 a1] κ (letter_blanks_0 a0 a1 (fun r0 => κ [.int .i64 r0])) := by
  intro r h w vs Rt Ra bs hpre
  exact runF_sound tyOk (letter_blanks_0.Γ_does tab ht) (show Tryd.prog.funcs[102]? = some Tryd.f102 by kernel_rfl) (by kernel_rfl) ((letter_blanks_0.run R κ a0 a1).trans h) hpre
def letter_blob_0.Γ {R : Type} (c_strings_IndexAny_0 : ByteArray → ByteArray → (Int → Option R) → Option R) (c_letter_blanks_0 : ByteArray → Int → (Int → Option R) → Option R) (g : Nat) (xs : List SV) (κ : List SV → Option R) : Option R :=
  match g with
  | 102 => (match xs with
    | [.str a0, .int .i64 a1] => c_letter_blanks_0 a0 a1 (fun r0 => κ [.int .i64 r0])
    | _ => none)
  | 103 => (match xs with
    | [.str a0, .str a1] => c_strings_IndexAny_0 a0 a1 (fun r0 => κ [.int .i64 r0])
    | _ => none)
  | _ => none
def letter_blob_0.h (n : Nat) : Option (List (Nat × List (Nat × Nat))) :=
  match n with
  | _ => none
def letter_blob_0.C (R : Type) (c_strings_IndexAny_0 : ByteArray → ByteArray → (Int → Option R) → Option R) (c_letter_blanks_0 : ByteArray → Int → (Int → Option R) → Option R) : Cfg R := ⟨tabTy tyL, letter_blob_0.Γ c_strings_IndexAny_0 c_letter_blanks_0, fun _ => false, letter_blob_0.h⟩
theorem letter_blob_0.c (R : Type) (c_strings_IndexAny_0 : ByteArray → ByteArray → (Int → Option R) → Option R) (c_letter_blanks_0 : ByteArray → Int → (Int → Option R) → Option R) (κ : List SV → Option R) (k : Nat) (a0 : ByteArray) :
    runF (letter_blob_0.C R c_strings_IndexAny_0 c_letter_blanks_0) Tryd.f84 10000 k [.str a0] κ = letter_blob_0.e c_strings_IndexAny_0 c_letter_blanks_0 a0 (fun r0 => κ [.int .i64 r0]) := by kernel_rfl
theorem letter_blob_0.run (R : Type) (κ : List SV → Option R) (a0 : ByteArray) :
    runF (letter_blob_0.C R strings_IndexAny_0 letter_blanks_0) Tryd.f84 10000 fuelK [.str a0] κ = letter_blob_0 a0 (fun r0 => κ [.int .i64 r0]) := by
  rw [letter_blob_0.c]
  rfl
theorem letter_blob_0.Γ_does {R : Type} (tab : Tab) (ht : TabOk tab) (g : Nat) : Does (R := R) Tryd.prog (tabTy tyL) tab g ((letter_blob_0.C R strings_IndexAny_0 letter_blanks_0).call g) := by
  refine does_of fun xs κ => ?_
  show DoesAt _ _ _ g xs κ (letter_blob_0.Γ strings_IndexAny_0 letter_blanks_0 g xs κ)
  unfold letter_blob_0.Γ
  split
  · split
    · exact letter_blanks_0.does tab ht _ _ κ
    · exact DoesAt.none
  · split
    · exact strings_IndexAny_0.does tab ht _ _ κ
    · exact DoesAt.none
  · exact DoesAt.none
theorem letter_blob_0.does {R : Type} (tab : Tab) (ht : TabOk tab) (a0 : ByteArray) (κ : List SV → Option R) : DoesAt Tryd.prog (tabTy tyL) tab 84 [.str a0] κ (letter_blob_0 a0 (fun r0 => κ [.int .i64 r0])) := by
  intro r h w vs Rt Ra bs hpre
  exact runF_sound tyOk (letter_blob_0.Γ_does tab ht) (show Tryd.prog.funcs[84]? = some Tryd.f84 by kernel_rfl) (by kernel_rfl) ((letter_blob_0.run R κ a0).trans h) hpre
def letter_rules_5_0.Γ {R : Type} (c_letter_blob_0 : ByteArray → (Int → Option R) → Option R) (g : Nat) (xs : List SV) (κ : List SV → Option R) : Option R :=
  match g with
  | 84 => (match xs with
    | [.str a0] => c_letter_blob_0 a0 (fun r0 => κ [.int .i64 r0])
    | _ => none)
  | _ => none
def letter_rules_5_0.h (n : Nat) : Option (List (Nat × List (Nat × Nat))) :=
  match n with
  | _ => none
def letter_rules_5_0.C (R : Type) (c_letter_blob_0 : ByteArray → (Int → Option R) → Option R) : Cfg R := ⟨tabTy tyL, letter_rules_5_0.Γ c_letter_blob_0, fun _ => false, letter_rules_5_0.h⟩
theorem letter_rules_5_0.c (R : Type) (c_letter_blob_0 : ByteArray → (Int → Option R) → Option R) (κ : List SV → Option R) (k : Nat) (a0 : ByteArray) :
    runF (letter_rules_5_0.C R c_letter_blob_0) Tryd.f83 10000 k [.str a0] κ = letter_rules_5_0.e c_letter_blob_0 a0 (fun r0 r1 => κ [.tup [.str r0, .bool r1]]) := by kernel_rfl
theorem letter_rules_5_0.run (R : Type) (κ : List SV → Option R) (a0 : ByteArray) :
    runF (letter_rules_5_0.C R letter_blob_0) Tryd.f83 10000 fuelK [.str a0] κ = letter_rules_5_0 a0 (fun r0 r1 => κ [.tup [.str r0, .bool r1]]) := by
  rw [letter_rules_5_0.c]
  rfl
theorem letter_rules_5_0.Γ_does {R : Type} (tab : Tab) (ht : TabOk tab) (g : Nat) : Does (R := R) Tryd.prog (tabTy tyL) tab g ((letter_rules_5_0.C R letter_blob_0).call g) := by
  refine does_of fun xs κ => ?_
  show DoesAt _ _ _ g xs κ (letter_rules_5_0.Γ letter_blob_0 g xs κ)
  unfold letter_rules_5_0.Γ
  split
  · split
    · exact letter_blob_0.does tab ht _ κ
    · exact DoesAt.none
  · exact DoesAt.none
theorem letter_rules_5_0.does {R : Type} (tab : Tab) (ht : TabOk tab) (a0 : ByteArray) (κ : List SV → Option R) : DoesAt Tryd.prog (tabTy tyL) tab 83 [.str a0] κ (letter_rules_5_0 a0 (fun r0 r1 => κ [.tup [.str r0, .bool r1]])) := by
  intro r h w vs Rt Ra bs hpre
  exact runF_sound tyOk (letter_rules_5_0.Γ_does tab ht) (show Tryd.prog.funcs[83]? = some Tryd.f83 by kernel_rfl) (by kernel_rfl) ((letter_rules_5_0.run R κ a0).trans h) hpre
def letter_answered_0.Γ {R : Type} (c_letter_blob_0 : ByteArray → (Int → Option R) → Option R) (c_letter_begin_0 : ByteArray → ByteArray → (Bool → Option R) → Option R) (c_letter_blanks_0 : ByteArray → Int → (Int → Option R) → Option R) (g : Nat) (xs : List SV) (κ : List SV → Option R) : Option R :=
  match g with
  | 84 => (match xs with
    | [.str a0] => c_letter_blob_0 a0 (fun r0 => κ [.int .i64 r0])
    | _ => none)
  | 86 => (match xs with
    | [.str a0, .str a1] => c_letter_begin_0 a0 a1 (fun r0 => κ [.bool r0])
    | _ => none)
  | 102 => (match xs with
    | [.str a0, .int .i64 a1] => c_letter_blanks_0 a0 a1 (fun r0 => κ [.int .i64 r0])
    | _ => none)
  | _ => none
def letter_answered_0.h (n : Nat) : Option (List (Nat × List (Nat × Nat))) :=
  match n with
  | 3 => some [(0, [(0, 0)]), (3, [(0, 0)]), (4, [(0, 0)])]
  | 7 => some [(0, [(0, 0)]), (3, [(0, 0)]), (19, [(0, 0)]), (20, [(0, 0)]), (21, [(0, 0)])]
  | _ => none
def letter_answered_0.C (R : Type) (c_letter_blob_0 : ByteArray → (Int → Option R) → Option R) (c_letter_begin_0 : ByteArray → ByteArray → (Bool → Option R) → Option R) (c_letter_blanks_0 : ByteArray → Int → (Int → Option R) → Option R) : Cfg R := ⟨tabTy tyL, letter_answered_0.Γ c_letter_blob_0 c_letter_begin_0 c_letter_blanks_0, fun _ => false, letter_answered_0.h⟩
def letter_answered_0.s3 (x0 : ByteArray) (x1 : Int) (x2 : Int) : St := ⟨mkS 56 [(0, .str x0), (3, .int .i64 x1), (4, .int .i64 x2)], [], top⟩
def letter_answered_0.s7 (x0 : ByteArray) (x1 : Int) (x2 : Int) (x3 : Int) (x4 : List AV) : St := ⟨mkS 56 [(0, .str x0), (3, .int .i64 x1), (19, .own 1280), (20, .int .i64 x2), (21, .int .i64 x3)], [(1280, .row 9 x4 true)], top⟩
theorem letter_answered_0.c3 (R : Type) (c_letter_blob_0 : ByteArray → (Int → Option R) → Option R) (c_letter_begin_0 : ByteArray → ByteArray → (Bool → Option R) → Option R) (c_letter_blanks_0 : ByteArray → Int → (Int → Option R) → Option R) (J : List Item → St → Option R) (κ : List SV → Option R) (x0 : ByteArray) (x1 : Int) (x2 : Int) :
    start (letter_answered_0.C R c_letter_blob_0 c_letter_begin_0 c_letter_blanks_0) J (retK (letter_answered_0.C R c_letter_blob_0 c_letter_begin_0 c_letter_blanks_0) Tryd.f82.results.toList (List.range 0) κ) 10000 (placeOf Tryd.f82 3) (letter_answered_0.s3 x0 x1 x2) = letter_answered_0.t3 c_letter_blob_0 c_letter_begin_0 c_letter_blanks_0 x0 x1 x2 (fun y0 y1 y2 => J (placeOf Tryd.f82 3) (letter_answered_0.s3 y0 y1 y2)) (fun y0 y1 y2 y3 y4 => J (placeOf Tryd.f82 7) (letter_answered_0.s7 y0 y1 y2 y3 y4)) (fun r0 => κ [.int .i64 r0]) := by kernel_rfl
theorem letter_answered_0.c7 (R : Type) (c_letter_blob_0 : ByteArray → (Int → Option R) → Option R) (c_letter_begin_0 : ByteArray → ByteArray → (Bool → Option R) → Option R) (c_letter_blanks_0 : ByteArray → Int → (Int → Option R) → Option R) (J : List Item → St → Option R) (κ : List SV → Option R) (x0 : ByteArray) (x1 : Int) (x2 : Int) (x3 : Int) (x4 : List AV) :
    start (letter_answered_0.C R c_letter_blob_0 c_letter_begin_0 c_letter_blanks_0) J (retK (letter_answered_0.C R c_letter_blob_0 c_letter_begin_0 c_letter_blanks_0) Tryd.f82.results.toList (List.range 0) κ) 10000 (placeOf Tryd.f82 7) (letter_answered_0.s7 x0 x1 x2 x3 x4) = letter_answered_0.t7 c_letter_blob_0 c_letter_begin_0 c_letter_blanks_0 x0 x1 x2 x3 x4 (fun y0 y1 y2 => J (placeOf Tryd.f82 3) (letter_answered_0.s3 y0 y1 y2)) (fun y0 y1 y2 y3 y4 => J (placeOf Tryd.f82 7) (letter_answered_0.s7 y0 y1 y2 y3 y4)) (fun r0 => κ [.int .i64 r0]) := by kernel_rfl
theorem letter_answered_0.c (R : Type) (c_letter_blob_0 : ByteArray → (Int → Option R) → Option R) (c_letter_begin_0 : ByteArray → ByteArray → (Bool → Option R) → Option R) (c_letter_blanks_0 : ByteArray → Int → (Int → Option R) → Option R) (κ : List SV → Option R) (k : Nat) (a0 : ByteArray) :
    runF (letter_answered_0.C R c_letter_blob_0 c_letter_begin_0 c_letter_blanks_0) Tryd.f82 10000 k [.str a0] κ = letter_answered_0.e c_letter_blob_0 c_letter_begin_0 c_letter_blanks_0 a0 (fun y0 y1 y2 => goto (letter_answered_0.C R c_letter_blob_0 c_letter_begin_0 c_letter_blanks_0) (retK (letter_answered_0.C R c_letter_blob_0 c_letter_begin_0 c_letter_blanks_0) Tryd.f82.results.toList (List.range 0) κ) 10000 k (placeOf Tryd.f82 3) (letter_answered_0.s3 y0 y1 y2)) (fun y0 y1 y2 y3 y4 => goto (letter_answered_0.C R c_letter_blob_0 c_letter_begin_0 c_letter_blanks_0) (retK (letter_answered_0.C R c_letter_blob_0 c_letter_begin_0 c_letter_blanks_0) Tryd.f82.results.toList (List.range 0) κ) 10000 k (placeOf Tryd.f82 7) (letter_answered_0.s7 y0 y1 y2 y3 y4)) (fun r0 => κ [.int .i64 r0]) := by kernel_rfl
theorem letter_answered_0.g7 (R : Type) (c_letter_blob_0 : ByteArray → (Int → Option R) → Option R) (c_letter_begin_0 : ByteArray → ByteArray → (Bool → Option R) → Option R) (c_letter_blanks_0 : ByteArray → Int → (Int → Option R) → Option R) (κ : List SV → Option R) : ∀ (f : Nat) (x0 : ByteArray) (x1 : Int) (x2 : Int) (x3 : Int) (x4 : List AV), goto (letter_answered_0.C R c_letter_blob_0 c_letter_begin_0 c_letter_blanks_0) (retK (letter_answered_0.C R c_letter_blob_0 c_letter_begin_0 c_letter_blanks_0) Tryd.f82.results.toList (List.range 0) κ) 10000 f (placeOf Tryd.f82 7) (letter_answered_0.s7 x0 x1 x2 x3 x4) = letter_answered_0.L7 c_letter_blob_0 c_letter_begin_0 c_letter_blanks_0 (fun r0 => κ [.int .i64 r0]) f x0 x1 x2 x3 x4
  | 0, _, _, _, _, _ => rfl
  | f + 1, x0, x1, x2, x3, x4 => by
    show start (letter_answered_0.C R c_letter_blob_0 c_letter_begin_0 c_letter_blanks_0) (goto (letter_answered_0.C R c_letter_blob_0 c_letter_begin_0 c_letter_blanks_0) (retK (letter_answered_0.C R c_letter_blob_0 c_letter_begin_0 c_letter_blanks_0) Tryd.f82.results.toList (List.range 0) κ) 10000 f) (retK (letter_answered_0.C R c_letter_blob_0 c_letter_begin_0 c_letter_blanks_0) Tryd.f82.results.toList (List.range 0) κ) 10000 (placeOf Tryd.f82 7) (letter_answered_0.s7 x0 x1 x2 x3 x4) = _
    rw [letter_answered_0.c7]
    simp only [letter_answered_0.g7 R c_letter_blob_0 c_letter_begin_0 c_letter_blanks_0 κ f]
    rfl
theorem letter_answered_0.g3 (R : Type) (c_letter_blob_0 : ByteArray → (Int → Option R) → Option R) (c_letter_begin_0 : ByteArray → ByteArray → (Bool → Option R) → Option R) (c_letter_blanks_0 : ByteArray → Int → (Int → Option R) → Option R) (κ : List SV → Option R) : ∀ (f : Nat) (x0 : ByteArray) (x1 : Int) (x2 : Int), goto (letter_answered_0.C R c_letter_blob_0 c_letter_begin_0 c_letter_blanks_0) (retK (letter_answered_0.C R c_letter_blob_0 c_letter_begin_0 c_letter_blanks_0) Tryd.f82.results.toList (List.range 0) κ) 10000 f (placeOf Tryd.f82 3) (letter_answered_0.s3 x0 x1 x2) = letter_answered_0.L3 c_letter_blob_0 c_letter_begin_0 c_letter_blanks_0 (fun r0 => κ [.int .i64 r0]) f x0 x1 x2
  | 0, _, _, _ => rfl
  | f + 1, x0, x1, x2 => by
    show start (letter_answered_0.C R c_letter_blob_0 c_letter_begin_0 c_letter_blanks_0) (goto (letter_answered_0.C R c_letter_blob_0 c_letter_begin_0 c_letter_blanks_0) (retK (letter_answered_0.C R c_letter_blob_0 c_letter_begin_0 c_letter_blanks_0) Tryd.f82.results.toList (List.range 0) κ) 10000 f) (retK (letter_answered_0.C R c_letter_blob_0 c_letter_begin_0 c_letter_blanks_0) Tryd.f82.results.toList (List.range 0) κ) 10000 (placeOf Tryd.f82 3) (letter_answered_0.s3 x0 x1 x2) = _
    rw [letter_answered_0.c3]
    simp only [letter_answered_0.g3 R c_letter_blob_0 c_letter_begin_0 c_letter_blanks_0 κ f, letter_answered_0.g7 R c_letter_blob_0 c_letter_begin_0 c_letter_blanks_0 κ f]
    rfl
theorem letter_answered_0.run (R : Type) (κ : List SV → Option R) (a0 : ByteArray) :
    runF (letter_answered_0.C R letter_blob_0 letter_begin_0 letter_blanks_0) Tryd.f82 10000 fuelK [.str a0] κ = letter_answered_0 a0 (fun r0 => κ [.int .i64 r0]) := by
  rw [letter_answered_0.c]
  simp only [letter_answered_0.g3 R letter_blob_0 letter_begin_0 letter_blanks_0 κ fuelK, letter_answered_0.g7 R letter_blob_0 letter_begin_0 letter_blanks_0 κ fuelK]
  rfl
theorem letter_answered_0.Γ_does {R : Type} (tab : Tab) (ht : TabOk tab) (g : Nat) : Does (R := R) Tryd.prog (tabTy tyL) tab g ((letter_answered_0.C R letter_blob_0 letter_begin_0 letter_blanks_0).call g) := by
  refine does_of fun xs κ => ?_
  show DoesAt _ _ _ g xs κ (letter_answered_0.Γ letter_blob_0 letter_begin_0 letter_blanks_0 g xs κ)
  unfold letter_answered_0.Γ
  split
  · split
    · exact letter_blob_0.does tab ht _ κ
    · exact DoesAt.none
  · split
    · exact letter_begin_0.does tab ht _ _ κ
    · exact DoesAt.none
  · split
    · exact letter_blanks_0.does tab ht _ _ κ
    · exact DoesAt.none
  · exact DoesAt.none
theorem letter_answered_0.does {R : Type} (tab : Tab) (ht : TabOk tab) (a0 : ByteArray) (κ : List SV → Option R) : DoesAt Tryd.prog (tabTy tyL) tab 82 [.str a0] κ (letter_answered_0 a0 (fun r0 => κ [.int .i64 r0])) := by
  intro r h w vs Rt Ra bs hpre
  exact runF_sound tyOk (letter_answered_0.Γ_does tab ht) (show Tryd.prog.funcs[82]? = some Tryd.f82 by kernel_rfl) (by kernel_rfl) ((letter_answered_0.run R κ a0).trans h) hpre
def letter_rules_4_0.Γ {R : Type} (c_letter_answered_0 : ByteArray → (Int → Option R) → Option R) (g : Nat) (xs : List SV) (κ : List SV → Option R) : Option R :=
  match g with
  | 82 => (match xs with
    | [.str a0] => c_letter_answered_0 a0 (fun r0 => κ [.int .i64 r0])
    | _ => none)
  | _ => none
def letter_rules_4_0.h (n : Nat) : Option (List (Nat × List (Nat × Nat))) :=
  match n with
  | _ => none
def letter_rules_4_0.C (R : Type) (c_letter_answered_0 : ByteArray → (Int → Option R) → Option R) : Cfg R := ⟨tabTy tyL, letter_rules_4_0.Γ c_letter_answered_0, fun _ => false, letter_rules_4_0.h⟩
theorem letter_rules_4_0.c (R : Type) (c_letter_answered_0 : ByteArray → (Int → Option R) → Option R) (κ : List SV → Option R) (k : Nat) (a0 : ByteArray) :
    runF (letter_rules_4_0.C R c_letter_answered_0) Tryd.f81 10000 k [.str a0] κ = letter_rules_4_0.e c_letter_answered_0 a0 (fun r0 r1 => κ [.tup [.str r0, .bool r1]]) := by kernel_rfl
theorem letter_rules_4_0.run (R : Type) (κ : List SV → Option R) (a0 : ByteArray) :
    runF (letter_rules_4_0.C R letter_answered_0) Tryd.f81 10000 fuelK [.str a0] κ = letter_rules_4_0 a0 (fun r0 r1 => κ [.tup [.str r0, .bool r1]]) := by
  rw [letter_rules_4_0.c]
  rfl
theorem letter_rules_4_0.Γ_does {R : Type} (tab : Tab) (ht : TabOk tab) (g : Nat) : Does (R := R) Tryd.prog (tabTy tyL) tab g ((letter_rules_4_0.C R letter_answered_0).call g) := by
  refine does_of fun xs κ => ?_
  show DoesAt _ _ _ g xs κ (letter_rules_4_0.Γ letter_answered_0 g xs κ)
  unfold letter_rules_4_0.Γ
  split
  · split
    · exact letter_answered_0.does tab ht _ κ
    · exact DoesAt.none
  · exact DoesAt.none
theorem letter_rules_4_0.does {R : Type} (tab : Tab) (ht : TabOk tab) (a0 : ByteArray) (κ : List SV → Option R) : DoesAt Tryd.prog (tabTy tyL) tab 81 [.str a0] κ (letter_rules_4_0 a0 (fun r0 r1 => κ [.tup [.str r0, .bool r1]])) := by
  intro r h w vs Rt Ra bs hpre
  exact runF_sound tyOk (letter_rules_4_0.Γ_does tab ht) (show Tryd.prog.funcs[81]? = some Tryd.f81 by kernel_rfl) (by kernel_rfl) ((letter_rules_4_0.run R κ a0).trans h) hpre
def stringslite_CutPrefix_0.Γ {R : Type} (c_stringslite_HasPrefix_0 : ByteArray → ByteArray → (Bool → Option R) → Option R) (g : Nat) (xs : List SV) (κ : List SV → Option R) : Option R :=
  match g with
  | 55 => (match xs with
    | [.str a0, .str a1] => c_stringslite_HasPrefix_0 a0 a1 (fun r0 => κ [.bool r0])
    | _ => none)
  | _ => none
def stringslite_CutPrefix_0.h (n : Nat) : Option (List (Nat × List (Nat × Nat))) :=
  match n with
  | _ => none
def stringslite_CutPrefix_0.C (R : Type) (c_stringslite_HasPrefix_0 : ByteArray → ByteArray → (Bool → Option R) → Option R) : Cfg R := ⟨tabTy tyL, stringslite_CutPrefix_0.Γ c_stringslite_HasPrefix_0, fun _ => false, stringslite_CutPrefix_0.h⟩
theorem stringslite_CutPrefix_0.c (R : Type) (c_stringslite_HasPrefix_0 : ByteArray → ByteArray → (Bool → Option R) → Option R) (κ : List SV → Option R) (k : Nat) (a0 : ByteArray) (a1 : ByteArray) :
    runF (stringslite_CutPrefix_0.C R c_stringslite_HasPrefix_0) Tryd.f101 10000 k [.str a0, .str a1] κ = stringslite_CutPrefix_0.e c_stringslite_HasPrefix_0 a0 a1 (fun r0 r1 => κ [.tup [.str r0, .bool r1]]) := by kernel_rfl
theorem stringslite_CutPrefix_0.run (R : Type) (κ : List SV → Option R) (a0 : ByteArray) (a1 : ByteArray) :
    runF (stringslite_CutPrefix_0.C R stringslite_HasPrefix_0) Tryd.f101 10000 fuelK [.str a0, .str a1] κ = stringslite_CutPrefix_0 a0 a1 (fun r0 r1 => κ [.tup [.str r0, .bool r1]]) := by
  rw [stringslite_CutPrefix_0.c]
  rfl
theorem stringslite_CutPrefix_0.Γ_does {R : Type} (tab : Tab) (ht : TabOk tab) (g : Nat) : Does (R := R) Tryd.prog (tabTy tyL) tab g ((stringslite_CutPrefix_0.C R stringslite_HasPrefix_0).call g) := by
  refine does_of fun xs κ => ?_
  show DoesAt _ _ _ g xs κ (stringslite_CutPrefix_0.Γ stringslite_HasPrefix_0 g xs κ)
  unfold stringslite_CutPrefix_0.Γ
  split
  · split
    · exact stringslite_HasPrefix_0.does tab ht _ _ κ
    · exact DoesAt.none
  · exact DoesAt.none
theorem stringslite_CutPrefix_0.does {R : Type} (tab : Tab) (ht : TabOk tab) (a0 : ByteArray) (a1 : ByteArray) (κ : List SV → Option R) : DoesAt Tryd.prog (tabTy tyL) tab 101 [.str a0, .str a1] κ (stringslite_CutPrefix_0 a0 a1 (fun r0 r1 => κ [.tup [.str r0, .bool r1]])) := by
  intro r h w vs Rt Ra bs hpre
  exact runF_sound tyOk (stringslite_CutPrefix_0.Γ_does tab ht) (show Tryd.prog.funcs[101]? = some Tryd.f101 by kernel_rfl) (by kernel_rfl) ((stringslite_CutPrefix_0.run R κ a0 a1).trans h) hpre
def strings_CutPrefix_0.Γ {R : Type} (c_stringslite_CutPrefix_0 : ByteArray → ByteArray → (ByteArray → Bool → Option R) → Option R) (g : Nat) (xs : List SV) (κ : List SV → Option R) : Option R :=
  match g with
  | 101 => (match xs with
    | [.str a0, .str a1] => c_stringslite_CutPrefix_0 a0 a1 (fun r0 r1 => κ [.tup [.str r0, .bool r1]])
    | _ => none)
  | _ => none
def strings_CutPrefix_0.h (n : Nat) : Option (List (Nat × List (Nat × Nat))) :=
  match n with
  | _ => none
def strings_CutPrefix_0.C (R : Type) (c_stringslite_CutPrefix_0 : ByteArray → ByteArray → (ByteArray → Bool → Option R) → Option R) : Cfg R := ⟨tabTy tyL, strings_CutPrefix_0.Γ c_stringslite_CutPrefix_0, fun _ => false, strings_CutPrefix_0.h⟩
theorem strings_CutPrefix_0.c (R : Type) (c_stringslite_CutPrefix_0 : ByteArray → ByteArray → (ByteArray → Bool → Option R) → Option R) (κ : List SV → Option R) (k : Nat) (a0 : ByteArray) (a1 : ByteArray) :
    runF (strings_CutPrefix_0.C R c_stringslite_CutPrefix_0) Tryd.f80 10000 k [.str a0, .str a1] κ = strings_CutPrefix_0.e c_stringslite_CutPrefix_0 a0 a1 (fun r0 r1 => κ [.tup [.str r0, .bool r1]]) := by kernel_rfl
theorem strings_CutPrefix_0.run (R : Type) (κ : List SV → Option R) (a0 : ByteArray) (a1 : ByteArray) :
    runF (strings_CutPrefix_0.C R stringslite_CutPrefix_0) Tryd.f80 10000 fuelK [.str a0, .str a1] κ = strings_CutPrefix_0 a0 a1 (fun r0 r1 => κ [.tup [.str r0, .bool r1]]) := by
  rw [strings_CutPrefix_0.c]
  rfl
theorem strings_CutPrefix_0.Γ_does {R : Type} (tab : Tab) (ht : TabOk tab) (g : Nat) : Does (R := R) Tryd.prog (tabTy tyL) tab g ((strings_CutPrefix_0.C R stringslite_CutPrefix_0).call g) := by
  refine does_of fun xs κ => ?_
  show DoesAt _ _ _ g xs κ (strings_CutPrefix_0.Γ stringslite_CutPrefix_0 g xs κ)
  unfold strings_CutPrefix_0.Γ
  split
  · split
    · exact stringslite_CutPrefix_0.does tab ht _ _ κ
    · exact DoesAt.none
  · exact DoesAt.none
theorem strings_CutPrefix_0.does {R : Type} (tab : Tab) (ht : TabOk tab) (a0 : ByteArray) (a1 : ByteArray) (κ : List SV → Option R) : DoesAt Tryd.prog (tabTy tyL) tab 80 [.str a0, .str a1] κ (strings_CutPrefix_0 a0 a1 (fun r0 r1 => κ [.tup [.str r0, .bool r1]])) := by
  intro r h w vs Rt Ra bs hpre
  exact runF_sound tyOk (strings_CutPrefix_0.Γ_does tab ht) (show Tryd.prog.funcs[80]? = some Tryd.f80 by kernel_rfl) (by kernel_rfl) ((strings_CutPrefix_0.run R κ a0 a1).trans h) hpre
def letter_rules_3_0.Γ {R : Type} (c_strings_CutPrefix_0 : ByteArray → ByteArray → (ByteArray → Bool → Option R) → Option R) (g : Nat) (xs : List SV) (κ : List SV → Option R) : Option R :=
  match g with
  | 80 => (match xs with
    | [.str a0, .str a1] => c_strings_CutPrefix_0 a0 a1 (fun r0 r1 => κ [.tup [.str r0, .bool r1]])
    | _ => none)
  | _ => none
def letter_rules_3_0.h (n : Nat) : Option (List (Nat × List (Nat × Nat))) :=
  match n with
  | _ => none
def letter_rules_3_0.C (R : Type) (c_strings_CutPrefix_0 : ByteArray → ByteArray → (ByteArray → Bool → Option R) → Option R) : Cfg R := ⟨tabTy tyL, letter_rules_3_0.Γ c_strings_CutPrefix_0, fun _ => false, letter_rules_3_0.h⟩
theorem letter_rules_3_0.c (R : Type) (c_strings_CutPrefix_0 : ByteArray → ByteArray → (ByteArray → Bool → Option R) → Option R) (κ : List SV → Option R) (k : Nat) (a0 : ByteArray) :
    runF (letter_rules_3_0.C R c_strings_CutPrefix_0) Tryd.f79 10000 k [.str a0] κ = letter_rules_3_0.e c_strings_CutPrefix_0 a0 (fun r0 r1 => κ [.tup [.str r0, .bool r1]]) := by kernel_rfl
theorem letter_rules_3_0.run (R : Type) (κ : List SV → Option R) (a0 : ByteArray) :
    runF (letter_rules_3_0.C R strings_CutPrefix_0) Tryd.f79 10000 fuelK [.str a0] κ = letter_rules_3_0 a0 (fun r0 r1 => κ [.tup [.str r0, .bool r1]]) := by
  rw [letter_rules_3_0.c]
  rfl
theorem letter_rules_3_0.Γ_does {R : Type} (tab : Tab) (ht : TabOk tab) (g : Nat) : Does (R := R) Tryd.prog (tabTy tyL) tab g ((letter_rules_3_0.C R strings_CutPrefix_0).call g) := by
  refine does_of fun xs κ => ?_
  show DoesAt _ _ _ g xs κ (letter_rules_3_0.Γ strings_CutPrefix_0 g xs κ)
  unfold letter_rules_3_0.Γ
  split
  · split
    · exact strings_CutPrefix_0.does tab ht _ _ κ
    · exact DoesAt.none
  · exact DoesAt.none
theorem letter_rules_3_0.does {R : Type} (tab : Tab) (ht : TabOk tab) (a0 : ByteArray) (κ : List SV → Option R) : DoesAt Tryd.prog (tabTy tyL) tab 79 [.str a0] κ (letter_rules_3_0 a0 (fun r0 r1 => κ [.tup [.str r0, .bool r1]])) := by
  intro r h w vs Rt Ra bs hpre
  exact runF_sound tyOk (letter_rules_3_0.Γ_does tab ht) (show Tryd.prog.funcs[79]? = some Tryd.f79 by kernel_rfl) (by kernel_rfl) ((letter_rules_3_0.run R κ a0).trans h) hpre
def letter_rules_2_0.Γ {R : Type} (c_octet_Same_0 : ByteArray → ByteArray → (Bool → Option R) → Option R) (g : Nat) (xs : List SV) (κ : List SV → Option R) : Option R :=
  match g with
  | 33 => (match xs with
    | [.str a0, .str a1] => c_octet_Same_0 a0 a1 (fun r0 => κ [.bool r0])
    | _ => none)
  | _ => none
def letter_rules_2_0.h (n : Nat) : Option (List (Nat × List (Nat × Nat))) :=
  match n with
  | _ => none
def letter_rules_2_0.C (R : Type) (c_octet_Same_0 : ByteArray → ByteArray → (Bool → Option R) → Option R) : Cfg R := ⟨tabTy tyL, letter_rules_2_0.Γ c_octet_Same_0, fun _ => false, letter_rules_2_0.h⟩
theorem letter_rules_2_0.c (R : Type) (c_octet_Same_0 : ByteArray → ByteArray → (Bool → Option R) → Option R) (κ : List SV → Option R) (k : Nat) (a0 : ByteArray) :
    runF (letter_rules_2_0.C R c_octet_Same_0) Tryd.f78 10000 k [.str a0] κ = letter_rules_2_0.e c_octet_Same_0 a0 (fun r0 r1 => κ [.tup [.str r0, .bool r1]]) := by kernel_rfl
theorem letter_rules_2_0.run (R : Type) (κ : List SV → Option R) (a0 : ByteArray) :
    runF (letter_rules_2_0.C R octet_Same_0) Tryd.f78 10000 fuelK [.str a0] κ = letter_rules_2_0 a0 (fun r0 r1 => κ [.tup [.str r0, .bool r1]]) := by
  rw [letter_rules_2_0.c]
  rfl
theorem letter_rules_2_0.Γ_does {R : Type} (tab : Tab) (ht : TabOk tab) (g : Nat) : Does (R := R) Tryd.prog (tabTy tyL) tab g ((letter_rules_2_0.C R octet_Same_0).call g) := by
  refine does_of fun xs κ => ?_
  show DoesAt _ _ _ g xs κ (letter_rules_2_0.Γ octet_Same_0 g xs κ)
  unfold letter_rules_2_0.Γ
  split
  · split
    · exact octet_Same_0.does tab ht _ _ κ
    · exact DoesAt.none
  · exact DoesAt.none
theorem letter_rules_2_0.does {R : Type} (tab : Tab) (ht : TabOk tab) (a0 : ByteArray) (κ : List SV → Option R) : DoesAt Tryd.prog (tabTy tyL) tab 78 [.str a0] κ (letter_rules_2_0 a0 (fun r0 r1 => κ [.tup [.str r0, .bool r1]])) := by
  intro r h w vs Rt Ra bs hpre
  exact runF_sound tyOk (letter_rules_2_0.Γ_does tab ht) (show Tryd.prog.funcs[78]? = some Tryd.f78 by kernel_rfl) (by kernel_rfl) ((letter_rules_2_0.run R κ a0).trans h) hpre
end Go.Proofs.Ab
