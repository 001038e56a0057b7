/- Each plain function is what a call of its Go function does, checked by the kernel (no condition but what its checks ask). -/
import Derived.Test.YtnipklplcipaiaaDoorSeat
import Derived.Test.YtnipklplcipaiaaDoorText
import Derived.Test.YtnipklplcipaiaaDoorCheck1
/- Each typed text is what its function does: checked by the kernel. -/
namespace Go.Proofs.Ab
set_option linter.unusedVariables false
set_option maxRecDepth 4000
open Go Go.Proofs
set_option maxRecDepth 100000
def letter_cursor_host_0.Γ {R : Type} (g : Nat) (xs : List SV) (κ : List SV → Option R) : Option R :=
  match g with
  | _ => none
def letter_cursor_host_0.h (n : Nat) : Option (List (Nat × List (Nat × Nat))) :=
  match n with
  | 2 => some [(0, [(0, 0)]), (3, [(0, 0)])]
  | _ => none
def letter_cursor_host_0.C (R : Type) : Cfg R := ⟨tabTy tyL, letter_cursor_host_0.Γ, fun _ => false, letter_cursor_host_0.h⟩
def letter_cursor_host_0.s2 (x0 : Int) (x1 : ByteArray) (x2 : Int) : St := ⟨mkS 78 [(0, .ptr 0 0), (3, .int .i64 x0)], [(0, .var 99 [.str x1, .int .i64 x2])], top⟩
theorem letter_cursor_host_0.c2 (R : Type) (J : List Item → St → Option R) (κ : List SV → Option R) (x0 : Int) (x1 : ByteArray) (x2 : Int) :
    start (letter_cursor_host_0.C R) J (retK (letter_cursor_host_0.C R) Tryd.f106.results.toList (List.range 1) κ) 10000 (placeOf Tryd.f106 2) (letter_cursor_host_0.s2 x0 x1 x2) = letter_cursor_host_0.t2 x0 x1 x2 (fun y0 y1 y2 => J (placeOf Tryd.f106 2) (letter_cursor_host_0.s2 y0 y1 y2)) (fun r0 r1 r2 => κ [.str r0, .vp 99 [.str r1, .int .i64 r2]]) := by kernel_rfl
theorem letter_cursor_host_0.c (R : Type) (κ : List SV → Option R) (k : Nat) (a0 : ByteArray) (a1 : Int) :
    runF (letter_cursor_host_0.C R) Tryd.f106 10000 k [.vp 99 [.str a0, .int .i64 a1]] κ = letter_cursor_host_0.e a0 a1 (fun y0 y1 y2 => goto (letter_cursor_host_0.C R) (retK (letter_cursor_host_0.C R) Tryd.f106.results.toList (List.range 1) κ) 10000 k (placeOf Tryd.f106 2) (letter_cursor_host_0.s2 y0 y1 y2)) (fun r0 r1 r2 => κ [.str r0, .vp 99 [.str r1, .int .i64 r2]]) := by kernel_rfl
theorem letter_cursor_host_0.g2 (R : Type) (κ : List SV → Option R) : ∀ (f : Nat) (x0 : Int) (x1 : ByteArray) (x2 : Int), goto (letter_cursor_host_0.C R) (retK (letter_cursor_host_0.C R) Tryd.f106.results.toList (List.range 1) κ) 10000 f (placeOf Tryd.f106 2) (letter_cursor_host_0.s2 x0 x1 x2) = letter_cursor_host_0.L2 (fun r0 r1 r2 => κ [.str r0, .vp 99 [.str r1, .int .i64 r2]]) f x0 x1 x2
  | 0, _, _, _ => rfl
  | f + 1, x0, x1, x2 => by
    show start (letter_cursor_host_0.C R) (goto (letter_cursor_host_0.C R) (retK (letter_cursor_host_0.C R) Tryd.f106.results.toList (List.range 1) κ) 10000 f) (retK (letter_cursor_host_0.C R) Tryd.f106.results.toList (List.range 1) κ) 10000 (placeOf Tryd.f106 2) (letter_cursor_host_0.s2 x0 x1 x2) = _
    rw [letter_cursor_host_0.c2]
    simp only [letter_cursor_host_0.g2 R κ f]
    rfl
theorem letter_cursor_host_0.run (R : Type) (κ : List SV → Option R) (a0 : ByteArray) (a1 : Int) :
    runF (letter_cursor_host_0.C R) Tryd.f106 10000 fuelK [.vp 99 [.str a0, .int .i64 a1]] κ = letter_cursor_host_0 a0 a1 (fun r0 r1 r2 => κ [.str r0, .vp 99 [.str r1, .int .i64 r2]]) := by
  rw [letter_cursor_host_0.c]
  simp only [letter_cursor_host_0.g2 R κ fuelK]
  rfl
theorem letter_cursor_host_0.Γ_does {R : Type} (tab : Tab) (ht : TabOk tab) (g : Nat) : Does (R := R) Tryd.prog (tabTy tyL) tab g ((letter_cursor_host_0.C R).call g) := by
  refine does_of fun xs κ => ?_
  show DoesAt _ _ _ g xs κ (letter_cursor_host_0.Γ g xs κ)
  unfold letter_cursor_host_0.Γ
  split
  · exact DoesAt.none
theorem letter_cursor_host_0.does {R : Type} (tab : Tab) (ht : TabOk tab) (a0 : ByteArray) (a1 : Int) (κ : List SV → Option R) : DoesAt Tryd.prog (tabTy tyL) tab 106 [.vp 99 [.str a0, .int .i64 a1]] κ (letter_cursor_host_0 a0 a1 (fun r0 r1 r2 => κ [.str r0, .vp 99 [.str r1, .int .i64 r2]])) := by
  intro r h w vs Rt Ra bs hpre
  exact runF_sound tyOk (letter_cursor_host_0.Γ_does tab ht) (show Tryd.prog.funcs[106]? = some Tryd.f106 by kernel_rfl) (by kernel_rfl) ((letter_cursor_host_0.run R κ a0 a1).trans h) hpre
def letter_isSign_0.Γ {R : Type} (c_strings_IndexByte_0 : ByteArray → Int → (Int → Option R) → Option R) (g : Nat) (xs : List SV) (κ : List SV → Option R) : Option R :=
  match g with
  | 37 => (match xs with
    | [.str a0, .int .u8 a1] => c_strings_IndexByte_0 a0 a1 (fun r0 => κ [.int .i64 r0])
    | _ => none)
  | _ => none
def letter_isSign_0.h (n : Nat) : Option (List (Nat × List (Nat × Nat))) :=
  match n with
  | _ => none
def letter_isSign_0.C (R : Type) (c_strings_IndexByte_0 : ByteArray → Int → (Int → Option R) → Option R) : Cfg R := ⟨tabTy tyL, letter_isSign_0.Γ c_strings_IndexByte_0, fun _ => false, letter_isSign_0.h⟩
theorem letter_isSign_0.c (R : Type) (c_strings_IndexByte_0 : ByteArray → Int → (Int → Option R) → Option R) (κ : List SV → Option R) (k : Nat) (a0 : Int) :
    runF (letter_isSign_0.C R c_strings_IndexByte_0) Tryd.f107 10000 k [.int .u8 a0] κ = letter_isSign_0.e c_strings_IndexByte_0 a0 (fun r0 => κ [.bool r0]) := by kernel_rfl
theorem letter_isSign_0.run (R : Type) (κ : List SV → Option R) (a0 : Int) :
    runF (letter_isSign_0.C R strings_IndexByte_0) Tryd.f107 10000 fuelK [.int .u8 a0] κ = letter_isSign_0 a0 (fun r0 => κ [.bool r0]) := by
  rw [letter_isSign_0.c]
  rfl
theorem letter_isSign_0.Γ_does {R : Type} (tab : Tab) (ht : TabOk tab) (g : Nat) : Does (R := R) Tryd.prog (tabTy tyL) tab g ((letter_isSign_0.C R strings_IndexByte_0).call g) := by
  refine does_of fun xs κ => ?_
  show DoesAt _ _ _ g xs κ (letter_isSign_0.Γ strings_IndexByte_0 g xs κ)
  unfold letter_isSign_0.Γ
  split
  · split
    · exact strings_IndexByte_0.does tab ht _ _ κ
    · exact DoesAt.none
  · exact DoesAt.none
theorem letter_isSign_0.does {R : Type} (tab : Tab) (ht : TabOk tab) (a0 : Int) (κ : List SV → Option R) : DoesAt Tryd.prog (tabTy tyL) tab 107 [.int .u8 a0] κ (letter_isSign_0 a0 (fun r0 => κ [.bool r0])) := by
  intro r h w vs Rt Ra bs hpre
  exact runF_sound tyOk (letter_isSign_0.Γ_does tab ht) (show Tryd.prog.funcs[107]? = some Tryd.f107 by kernel_rfl) (by kernel_rfl) ((letter_isSign_0.run R κ a0).trans h) hpre
def letter_isSpace_0.Γ {R : Type} (g : Nat) (xs : List SV) (κ : List SV → Option R) : Option R :=
  match g with
  | _ => none
def letter_isSpace_0.h (n : Nat) : Option (List (Nat × List (Nat × Nat))) :=
  match n with
  | _ => none
def letter_isSpace_0.C (R : Type) : Cfg R := ⟨tabTy tyL, letter_isSpace_0.Γ, fun _ => false, letter_isSpace_0.h⟩
theorem letter_isSpace_0.c (R : Type) (κ : List SV → Option R) (k : Nat) (a0 : Int) :
    runF (letter_isSpace_0.C R) Tryd.f74 10000 k [.int .u8 a0] κ = letter_isSpace_0.e a0 (fun r0 => κ [.bool r0]) := by kernel_rfl
theorem letter_isSpace_0.run (R : Type) (κ : List SV → Option R) (a0 : Int) :
    runF (letter_isSpace_0.C R) Tryd.f74 10000 fuelK [.int .u8 a0] κ = letter_isSpace_0 a0 (fun r0 => κ [.bool r0]) := by
  rw [letter_isSpace_0.c]
  rfl
theorem letter_isSpace_0.Γ_does {R : Type} (tab : Tab) (ht : TabOk tab) (g : Nat) : Does (R := R) Tryd.prog (tabTy tyL) tab g ((letter_isSpace_0.C R).call g) := by
  refine does_of fun xs κ => ?_
  show DoesAt _ _ _ g xs κ (letter_isSpace_0.Γ g xs κ)
  unfold letter_isSpace_0.Γ
  split
  · exact DoesAt.none
theorem letter_isSpace_0.does {R : Type} (tab : Tab) (ht : TabOk tab) (a0 : Int) (κ : List SV → Option R) : DoesAt Tryd.prog (tabTy tyL) tab 74 [.int .u8 a0] κ (letter_isSpace_0 a0 (fun r0 => κ [.bool r0])) := by
  intro r h w vs Rt Ra bs hpre
  exact runF_sound tyOk (letter_isSpace_0.Γ_does tab ht) (show Tryd.prog.funcs[74]? = some Tryd.f74 by kernel_rfl) (by kernel_rfl) ((letter_isSpace_0.run R κ a0).trans h) hpre
def letter_isAtom_0.Γ {R : Type} (c_letter_isSpace_0 : Int → (Bool → Option R) → Option R) (c_letter_isSign_0 : Int → (Bool → Option R) → Option R) (c_strings_IndexByte_0 : ByteArray → Int → (Int → Option R) → Option R) (g : Nat) (xs : List SV) (κ : List SV → Option R) : Option R :=
  match g with
  | 37 => (match xs with
    | [.str a0, .int .u8 a1] => c_strings_IndexByte_0 a0 a1 (fun r0 => κ [.int .i64 r0])
    | _ => none)
  | 74 => (match xs with
    | [.int .u8 a0] => c_letter_isSpace_0 a0 (fun r0 => κ [.bool r0])
    | _ => none)
  | 107 => (match xs with
    | [.int .u8 a0] => c_letter_isSign_0 a0 (fun r0 => κ [.bool r0])
    | _ => none)
  | _ => none
def letter_isAtom_0.h (n : Nat) : Option (List (Nat × List (Nat × Nat))) :=
  match n with
  | _ => none
def letter_isAtom_0.C (R : Type) (c_letter_isSpace_0 : Int → (Bool → Option R) → Option R) (c_letter_isSign_0 : Int → (Bool → Option R) → Option R) (c_strings_IndexByte_0 : ByteArray → Int → (Int → Option R) → Option R) : Cfg R := ⟨tabTy tyL, letter_isAtom_0.Γ c_letter_isSpace_0 c_letter_isSign_0 c_strings_IndexByte_0, fun _ => false, letter_isAtom_0.h⟩
theorem letter_isAtom_0.c (R : Type) (c_letter_isSpace_0 : Int → (Bool → Option R) → Option R) (c_letter_isSign_0 : Int → (Bool → Option R) → Option R) (c_strings_IndexByte_0 : ByteArray → Int → (Int → Option R) → Option R) (κ : List SV → Option R) (k : Nat) (a0 : Int) :
    runF (letter_isAtom_0.C R c_letter_isSpace_0 c_letter_isSign_0 c_strings_IndexByte_0) Tryd.f108 10000 k [.int .u8 a0] κ = letter_isAtom_0.e c_letter_isSpace_0 c_letter_isSign_0 c_strings_IndexByte_0 a0 (fun r0 => κ [.bool r0]) := by kernel_rfl
theorem letter_isAtom_0.run (R : Type) (κ : List SV → Option R) (a0 : Int) :
    runF (letter_isAtom_0.C R letter_isSpace_0 letter_isSign_0 strings_IndexByte_0) Tryd.f108 10000 fuelK [.int .u8 a0] κ = letter_isAtom_0 a0 (fun r0 => κ [.bool r0]) := by
  rw [letter_isAtom_0.c]
  rfl
theorem letter_isAtom_0.Γ_does {R : Type} (tab : Tab) (ht : TabOk tab) (g : Nat) : Does (R := R) Tryd.prog (tabTy tyL) tab g ((letter_isAtom_0.C R letter_isSpace_0 letter_isSign_0 strings_IndexByte_0).call g) := by
  refine does_of fun xs κ => ?_
  show DoesAt _ _ _ g xs κ (letter_isAtom_0.Γ letter_isSpace_0 letter_isSign_0 strings_IndexByte_0 g xs κ)
  unfold letter_isAtom_0.Γ
  split
  · split
    · exact strings_IndexByte_0.does tab ht _ _ κ
    · exact DoesAt.none
  · split
    · exact letter_isSpace_0.does tab ht _ κ
    · exact DoesAt.none
  · split
    · exact letter_isSign_0.does tab ht _ κ
    · exact DoesAt.none
  · exact DoesAt.none
theorem letter_isAtom_0.does {R : Type} (tab : Tab) (ht : TabOk tab) (a0 : Int) (κ : List SV → Option R) : DoesAt Tryd.prog (tabTy tyL) tab 108 [.int .u8 a0] κ (letter_isAtom_0 a0 (fun r0 => κ [.bool r0])) := by
  intro r h w vs Rt Ra bs hpre
  exact runF_sound tyOk (letter_isAtom_0.Γ_does tab ht) (show Tryd.prog.funcs[108]? = some Tryd.f108 by kernel_rfl) (by kernel_rfl) ((letter_isAtom_0.run R κ a0).trans h) hpre
def letter_cursor_next_0.Γ {R : Type} (c_letter_cursor_comment_0 : ByteArray → Int → (ByteArray → Int → Option R) → Option R) (c_letter_cursor_quotes_0 : ByteArray → Int → (ByteArray → ByteArray → Int → Option R) → Option R) (c_letter_cursor_host_0 : ByteArray → Int → (ByteArray → ByteArray → Int → Option R) → Option R) (c_letter_isSign_0 : Int → (Bool → Option R) → Option R) (c_letter_isAtom_0 : Int → (Bool → Option R) → Option R) (g : Nat) (xs : List SV) (κ : List SV → Option R) : Option R :=
  match g with
  | 104 => (match xs with
    | [.vp 99 [.str a0, .int .i64 a1]] => c_letter_cursor_comment_0 a0 a1 (fun r0 r1 => κ [.tup [], .vp 99 [.str r0, .int .i64 r1]])
    | _ => none)
  | 105 => (match xs with
    | [.vp 99 [.str a0, .int .i64 a1]] => c_letter_cursor_quotes_0 a0 a1 (fun r0 r1 r2 => κ [.str r0, .vp 99 [.str r1, .int .i64 r2]])
    | _ => none)
  | 106 => (match xs with
    | [.vp 99 [.str a0, .int .i64 a1]] => c_letter_cursor_host_0 a0 a1 (fun r0 r1 r2 => κ [.str r0, .vp 99 [.str r1, .int .i64 r2]])
    | _ => none)
  | 107 => (match xs with
    | [.int .u8 a0] => c_letter_isSign_0 a0 (fun r0 => κ [.bool r0])
    | _ => none)
  | 108 => (match xs with
    | [.int .u8 a0] => c_letter_isAtom_0 a0 (fun r0 => κ [.bool r0])
    | _ => none)
  | _ => none
def letter_cursor_next_0.h (n : Nat) : Option (List (Nat × List (Nat × Nat))) :=
  match n with
  | 16 => some [(0, [(0, 0)]), (2, [(0, 0)]), (4, [(0, 0)])]
  | _ => none
def letter_cursor_next_0.C (R : Type) (c_letter_cursor_comment_0 : ByteArray → Int → (ByteArray → Int → Option R) → Option R) (c_letter_cursor_quotes_0 : ByteArray → Int → (ByteArray → ByteArray → Int → Option R) → Option R) (c_letter_cursor_host_0 : ByteArray → Int → (ByteArray → ByteArray → Int → Option R) → Option R) (c_letter_isSign_0 : Int → (Bool → Option R) → Option R) (c_letter_isAtom_0 : Int → (Bool → Option R) → Option R) : Cfg R := ⟨tabTy tyL, letter_cursor_next_0.Γ c_letter_cursor_comment_0 c_letter_cursor_quotes_0 c_letter_cursor_host_0 c_letter_isSign_0 c_letter_isAtom_0, fun _ => false, letter_cursor_next_0.h⟩
def letter_cursor_next_0.s16 (x0 : Int) (x1 : ByteArray) (x2 : Int) (x3 : Int) (x4 : ByteArray) : St := ⟨mkS 101 [(0, .ptr 0 0), (2, .ptr 255 0), (4, .int .i64 x0)], [(0, .var 99 [.str x1, .int .i64 x2]), (255, .var 80 [.int .i64 x3, .str x4])], top⟩
theorem letter_cursor_next_0.c16 (R : Type) (c_letter_cursor_comment_0 : ByteArray → Int → (ByteArray → Int → Option R) → Option R) (c_letter_cursor_quotes_0 : ByteArray → Int → (ByteArray → ByteArray → Int → Option R) → Option R) (c_letter_cursor_host_0 : ByteArray → Int → (ByteArray → ByteArray → Int → Option R) → Option R) (c_letter_isSign_0 : Int → (Bool → Option R) → Option R) (c_letter_isAtom_0 : Int → (Bool → Option R) → Option R) (J : List Item → St → Option R) (κ : List SV → Option R) (x0 : Int) (x1 : ByteArray) (x2 : Int) (x3 : Int) (x4 : ByteArray) :
    start (letter_cursor_next_0.C R c_letter_cursor_comment_0 c_letter_cursor_quotes_0 c_letter_cursor_host_0 c_letter_isSign_0 c_letter_isAtom_0) J (retK (letter_cursor_next_0.C R c_letter_cursor_comment_0 c_letter_cursor_quotes_0 c_letter_cursor_host_0 c_letter_isSign_0 c_letter_isAtom_0) Tryd.f87.results.toList (List.range 1) κ) 10000 (placeOf Tryd.f87 16) (letter_cursor_next_0.s16 x0 x1 x2 x3 x4) = letter_cursor_next_0.t16 c_letter_cursor_comment_0 c_letter_cursor_quotes_0 c_letter_cursor_host_0 c_letter_isSign_0 c_letter_isAtom_0 x0 x1 x2 x3 x4 (fun y0 y1 y2 y3 y4 => J (placeOf Tryd.f87 16) (letter_cursor_next_0.s16 y0 y1 y2 y3 y4)) (fun r0 r1 r2 r3 => κ [.agg [.int .i64 r0, .str r1], .vp 99 [.str r2, .int .i64 r3]]) := by kernel_rfl
theorem letter_cursor_next_0.c (R : Type) (c_letter_cursor_comment_0 : ByteArray → Int → (ByteArray → Int → Option R) → Option R) (c_letter_cursor_quotes_0 : ByteArray → Int → (ByteArray → ByteArray → Int → Option R) → Option R) (c_letter_cursor_host_0 : ByteArray → Int → (ByteArray → ByteArray → Int → Option R) → Option R) (c_letter_isSign_0 : Int → (Bool → Option R) → Option R) (c_letter_isAtom_0 : Int → (Bool → Option R) → Option R) (κ : List SV → Option R) (k : Nat) (a0 : ByteArray) (a1 : Int) :
    runF (letter_cursor_next_0.C R c_letter_cursor_comment_0 c_letter_cursor_quotes_0 c_letter_cursor_host_0 c_letter_isSign_0 c_letter_isAtom_0) Tryd.f87 10000 k [.vp 99 [.str a0, .int .i64 a1]] κ = letter_cursor_next_0.e c_letter_cursor_comment_0 c_letter_cursor_quotes_0 c_letter_cursor_host_0 c_letter_isSign_0 c_letter_isAtom_0 a0 a1 (fun y0 y1 y2 y3 y4 => goto (letter_cursor_next_0.C R c_letter_cursor_comment_0 c_letter_cursor_quotes_0 c_letter_cursor_host_0 c_letter_isSign_0 c_letter_isAtom_0) (retK (letter_cursor_next_0.C R c_letter_cursor_comment_0 c_letter_cursor_quotes_0 c_letter_cursor_host_0 c_letter_isSign_0 c_letter_isAtom_0) Tryd.f87.results.toList (List.range 1) κ) 10000 k (placeOf Tryd.f87 16) (letter_cursor_next_0.s16 y0 y1 y2 y3 y4)) (fun r0 r1 r2 r3 => κ [.agg [.int .i64 r0, .str r1], .vp 99 [.str r2, .int .i64 r3]]) := by kernel_rfl
theorem letter_cursor_next_0.g16 (R : Type) (c_letter_cursor_comment_0 : ByteArray → Int → (ByteArray → Int → Option R) → Option R) (c_letter_cursor_quotes_0 : ByteArray → Int → (ByteArray → ByteArray → Int → Option R) → Option R) (c_letter_cursor_host_0 : ByteArray → Int → (ByteArray → ByteArray → Int → Option R) → Option R) (c_letter_isSign_0 : Int → (Bool → Option R) → Option R) (c_letter_isAtom_0 : Int → (Bool → Option R) → Option R) (κ : List SV → Option R) : ∀ (f : Nat) (x0 : Int) (x1 : ByteArray) (x2 : Int) (x3 : Int) (x4 : ByteArray), goto (letter_cursor_next_0.C R c_letter_cursor_comment_0 c_letter_cursor_quotes_0 c_letter_cursor_host_0 c_letter_isSign_0 c_letter_isAtom_0) (retK (letter_cursor_next_0.C R c_letter_cursor_comment_0 c_letter_cursor_quotes_0 c_letter_cursor_host_0 c_letter_isSign_0 c_letter_isAtom_0) Tryd.f87.results.toList (List.range 1) κ) 10000 f (placeOf Tryd.f87 16) (letter_cursor_next_0.s16 x0 x1 x2 x3 x4) = letter_cursor_next_0.L16 c_letter_cursor_comment_0 c_letter_cursor_quotes_0 c_letter_cursor_host_0 c_letter_isSign_0 c_letter_isAtom_0 (fun r0 r1 r2 r3 => κ [.agg [.int .i64 r0, .str r1], .vp 99 [.str r2, .int .i64 r3]]) f x0 x1 x2 x3 x4
  | 0, _, _, _, _, _ => rfl
  | f + 1, x0, x1, x2, x3, x4 => by
    show start (letter_cursor_next_0.C R c_letter_cursor_comment_0 c_letter_cursor_quotes_0 c_letter_cursor_host_0 c_letter_isSign_0 c_letter_isAtom_0) (goto (letter_cursor_next_0.C R c_letter_cursor_comment_0 c_letter_cursor_quotes_0 c_letter_cursor_host_0 c_letter_isSign_0 c_letter_isAtom_0) (retK (letter_cursor_next_0.C R c_letter_cursor_comment_0 c_letter_cursor_quotes_0 c_letter_cursor_host_0 c_letter_isSign_0 c_letter_isAtom_0) Tryd.f87.results.toList (List.range 1) κ) 10000 f) (retK (letter_cursor_next_0.C R c_letter_cursor_comment_0 c_letter_cursor_quotes_0 c_letter_cursor_host_0 c_letter_isSign_0 c_letter_isAtom_0) Tryd.f87.results.toList (List.range 1) κ) 10000 (placeOf Tryd.f87 16) (letter_cursor_next_0.s16 x0 x1 x2 x3 x4) = _
    rw [letter_cursor_next_0.c16]
    simp only [letter_cursor_next_0.g16 R c_letter_cursor_comment_0 c_letter_cursor_quotes_0 c_letter_cursor_host_0 c_letter_isSign_0 c_letter_isAtom_0 κ f]
    rfl
theorem letter_cursor_next_0.run (R : Type) (κ : List SV → Option R) (a0 : ByteArray) (a1 : Int) :
    runF (letter_cursor_next_0.C R letter_cursor_comment_0 letter_cursor_quotes_0 letter_cursor_host_0 letter_isSign_0 letter_isAtom_0) Tryd.f87 10000 fuelK [.vp 99 [.str a0, .int .i64 a1]] κ = letter_cursor_next_0 a0 a1 (fun r0 r1 r2 r3 => κ [.agg [.int .i64 r0, .str r1], .vp 99 [.str r2, .int .i64 r3]]) := by
  rw [letter_cursor_next_0.c]
  simp only [letter_cursor_next_0.g16 R letter_cursor_comment_0 letter_cursor_quotes_0 letter_cursor_host_0 letter_isSign_0 letter_isAtom_0 κ fuelK]
  rfl
theorem letter_cursor_next_0.Γ_does {R : Type} (tab : Tab) (ht : TabOk tab) (g : Nat) : Does (R := R) Tryd.prog (tabTy tyL) tab g ((letter_cursor_next_0.C R letter_cursor_comment_0 letter_cursor_quotes_0 letter_cursor_host_0 letter_isSign_0 letter_isAtom_0).call g) := by
  refine does_of fun xs κ => ?_
  show DoesAt _ _ _ g xs κ (letter_cursor_next_0.Γ letter_cursor_comment_0 letter_cursor_quotes_0 letter_cursor_host_0 letter_isSign_0 letter_isAtom_0 g xs κ)
  unfold letter_cursor_next_0.Γ
  split
  · split
    · exact letter_cursor_comment_0.does tab ht _ _ κ
    · exact DoesAt.none
  · split
    · exact letter_cursor_quotes_0.does tab ht _ _ κ
    · exact DoesAt.none
  · split
    · exact letter_cursor_host_0.does tab ht _ _ κ
    · exact DoesAt.none
  · split
    · exact letter_isSign_0.does tab ht _ κ
    · exact DoesAt.none
  · split
    · exact letter_isAtom_0.does tab ht _ κ
    · exact DoesAt.none
  · exact DoesAt.none
theorem letter_cursor_next_0.does {R : Type} (tab : Tab) (ht : TabOk tab) (a0 : ByteArray) (a1 : Int) (κ : List SV → Option R) : DoesAt Tryd.prog (tabTy tyL) tab 87 [.vp 99 [.str a0, .int .i64 a1]] κ (letter_cursor_next_0 a0 a1 (fun r0 r1 r2 r3 => κ [.agg [.int .i64 r0, .str r1], .vp 99 [.str r2, .int .i64 r3]])) := by
  intro r h w vs Rt Ra bs hpre
  exact runF_sound tyOk (letter_cursor_next_0.Γ_does tab ht) (show Tryd.prog.funcs[87]? = some Tryd.f87 by kernel_rfl) (by kernel_rfl) ((letter_cursor_next_0.run R κ a0 a1).trans h) hpre
def letter_pieces_0.Γ {R : Type} (c_letter_cursor_next_0 : ByteArray → Int → (Int → ByteArray → ByteArray → Int → Option R) → Option R) (g : Nat) (xs : List SV) (κ : List SV → Option R) : Option R :=
  match g with
  | 87 => (match xs with
    | [.vp 99 [.str a0, .int .i64 a1]] => c_letter_cursor_next_0 a0 a1 (fun r0 r1 r2 r3 => κ [.agg [.int .i64 r0, .str r1], .vp 99 [.str r2, .int .i64 r3]])
    | _ => none)
  | _ => none
def letter_pieces_0.h (n : Nat) : Option (List (Nat × List (Nat × Nat))) :=
  match n with
  | 3 => some [(3, [(0, 0)]), (4, [(0, 82)])]
  | _ => none
def letter_pieces_0.C (R : Type) (c_letter_cursor_next_0 : ByteArray → Int → (Int → ByteArray → ByteArray → Int → Option R) → Option R) : Cfg R := ⟨tabTy tyL, letter_pieces_0.Γ c_letter_cursor_next_0, fun _ => false, letter_pieces_0.h⟩
def letter_pieces_0.s3 (x0 : ByteArray) (x1 : Int) (x2 : List AV) : St := ⟨mkS 24 [(3, .ptr 319 0), (4, .own 320)], [(319, .var 99 [.str x0, .int .i64 x1]), (320, .row 80 x2 true)], top⟩
theorem letter_pieces_0.c3 (R : Type) (c_letter_cursor_next_0 : ByteArray → Int → (Int → ByteArray → ByteArray → Int → Option R) → Option R) (J : List Item → St → Option R) (κ : List SV → Option R) (x0 : ByteArray) (x1 : Int) (x2 : List AV) :
    start (letter_pieces_0.C R c_letter_cursor_next_0) J (retK (letter_pieces_0.C R c_letter_cursor_next_0) Tryd.f46.results.toList (List.range 0) κ) 10000 (placeOf Tryd.f46 3) (letter_pieces_0.s3 x0 x1 x2) = letter_pieces_0.t3 c_letter_cursor_next_0 x0 x1 x2 (fun y0 y1 y2 => J (placeOf Tryd.f46 3) (letter_pieces_0.s3 y0 y1 y2)) (fun r0 => κ [.fr 80 r0 true]) := by kernel_rfl
theorem letter_pieces_0.c (R : Type) (c_letter_cursor_next_0 : ByteArray → Int → (Int → ByteArray → ByteArray → Int → Option R) → Option R) (κ : List SV → Option R) (k : Nat) (a0 : ByteArray) :
    runF (letter_pieces_0.C R c_letter_cursor_next_0) Tryd.f46 10000 k [.str a0] κ = letter_pieces_0.e c_letter_cursor_next_0 a0 (fun y0 y1 y2 => goto (letter_pieces_0.C R c_letter_cursor_next_0) (retK (letter_pieces_0.C R c_letter_cursor_next_0) Tryd.f46.results.toList (List.range 0) κ) 10000 k (placeOf Tryd.f46 3) (letter_pieces_0.s3 y0 y1 y2)) (fun r0 => κ [.fr 80 r0 true]) := by kernel_rfl
theorem letter_pieces_0.g3 (R : Type) (c_letter_cursor_next_0 : ByteArray → Int → (Int → ByteArray → ByteArray → Int → Option R) → Option R) (κ : List SV → Option R) : ∀ (f : Nat) (x0 : ByteArray) (x1 : Int) (x2 : List AV), goto (letter_pieces_0.C R c_letter_cursor_next_0) (retK (letter_pieces_0.C R c_letter_cursor_next_0) Tryd.f46.results.toList (List.range 0) κ) 10000 f (placeOf Tryd.f46 3) (letter_pieces_0.s3 x0 x1 x2) = letter_pieces_0.L3 c_letter_cursor_next_0 (fun r0 => κ [.fr 80 r0 true]) f x0 x1 x2
  | 0, _, _, _ => rfl
  | f + 1, x0, x1, x2 => by
    show start (letter_pieces_0.C R c_letter_cursor_next_0) (goto (letter_pieces_0.C R c_letter_cursor_next_0) (retK (letter_pieces_0.C R c_letter_cursor_next_0) Tryd.f46.results.toList (List.range 0) κ) 10000 f) (retK (letter_pieces_0.C R c_letter_cursor_next_0) Tryd.f46.results.toList (List.range 0) κ) 10000 (placeOf Tryd.f46 3) (letter_pieces_0.s3 x0 x1 x2) = _
    rw [letter_pieces_0.c3]
    simp only [letter_pieces_0.g3 R c_letter_cursor_next_0 κ f]
    rfl
theorem letter_pieces_0.run (R : Type) (κ : List SV → Option R) (a0 : ByteArray) :
    runF (letter_pieces_0.C R letter_cursor_next_0) Tryd.f46 10000 fuelK [.str a0] κ = letter_pieces_0 a0 (fun r0 => κ [.fr 80 r0 true]) := by
  rw [letter_pieces_0.c]
  simp only [letter_pieces_0.g3 R letter_cursor_next_0 κ fuelK]
  rfl
theorem letter_pieces_0.Γ_does {R : Type} (tab : Tab) (ht : TabOk tab) (g : Nat) : Does (R := R) Tryd.prog (tabTy tyL) tab g ((letter_pieces_0.C R letter_cursor_next_0).call g) := by
  refine does_of fun xs κ => ?_
  show DoesAt _ _ _ g xs κ (letter_pieces_0.Γ letter_cursor_next_0 g xs κ)
  unfold letter_pieces_0.Γ
  split
  · split
    · exact letter_cursor_next_0.does tab ht _ _ κ
    · exact DoesAt.none
  · exact DoesAt.none
theorem letter_pieces_0.does {R : Type} (tab : Tab) (ht : TabOk tab) (a0 : ByteArray) (κ : List SV → Option R) : DoesAt Tryd.prog (tabTy tyL) tab 46 [.str a0] κ (letter_pieces_0 a0 (fun r0 => κ [.fr 80 r0 true])) := by
  intro r h w vs Rt Ra bs hpre
  exact runF_sound tyOk (letter_pieces_0.Γ_does tab ht) (show Tryd.prog.funcs[46]? = some Tryd.f46 by kernel_rfl) (by kernel_rfl) ((letter_pieces_0.run R κ a0).trans h) hpre
def letter_piece_is_0.Γ {R : Type} (g : Nat) (xs : List SV) (κ : List SV → Option R) : Option R :=
  match g with
  | _ => none
def letter_piece_is_0.h (n : Nat) : Option (List (Nat × List (Nat × Nat))) :=
  match n with
  | _ => none
def letter_piece_is_0.C (R : Type) : Cfg R := ⟨tabTy tyL, letter_piece_is_0.Γ, fun _ => false, letter_piece_is_0.h⟩
theorem letter_piece_is_0.c (R : Type) (κ : List SV → Option R) (k : Nat) (a0 : Int) (a1 : ByteArray) (a2 : ByteArray) :
    runF (letter_piece_is_0.C R) Tryd.f52 10000 k [.agg [.int .i64 a0, .str a1], .str a2] κ = letter_piece_is_0.e a0 a1 a2 (fun r0 => κ [.bool r0]) := by kernel_rfl
theorem letter_piece_is_0.run (R : Type) (κ : List SV → Option R) (a0 : Int) (a1 : ByteArray) (a2 : ByteArray) :
    runF (letter_piece_is_0.C R) Tryd.f52 10000 fuelK [.agg [.int .i64 a0, .str a1], .str a2] κ = letter_piece_is_0 a0 a1 a2 (fun r0 => κ [.bool r0]) := by
  rw [letter_piece_is_0.c]
  rfl
theorem letter_piece_is_0.Γ_does {R : Type} (tab : Tab) (ht : TabOk tab) (g : Nat) : Does (R := R) Tryd.prog (tabTy tyL) tab g ((letter_piece_is_0.C R).call g) := by
  refine does_of fun xs κ => ?_
  show DoesAt _ _ _ g xs κ (letter_piece_is_0.Γ g xs κ)
  unfold letter_piece_is_0.Γ
  split
  · exact DoesAt.none
theorem letter_piece_is_0.does {R : Type} (tab : Tab) (ht : TabOk tab) (a0 : Int) (a1 : ByteArray) (a2 : ByteArray) (κ : List SV → Option R) : DoesAt Tryd.prog (tabTy tyL) tab 52 [.agg [.int .i64 a0, .str a1], .str a2] κ (letter_piece_is_0 a0 a1 a2 (fun r0 => κ [.bool r0])) := by
  intro r h w vs Rt Ra bs hpre
  exact runF_sound tyOk (letter_piece_is_0.Γ_does tab ht) (show Tryd.prog.funcs[52]? = some Tryd.f52 by kernel_rfl) (by kernel_rfl) ((letter_piece_is_0.run R κ a0 a1 a2).trans h) hpre
def letter_find_0.Γ {R : Type} (c_letter_piece_is_0 : Int → ByteArray → ByteArray → (Bool → Option R) → Option R) (g : Nat) (xs : List SV) (κ : List SV → Option R) : Option R :=
  match g with
  | 52 => (match xs with
    | [.agg [.int .i64 a0, .str a1], .str a2] => c_letter_piece_is_0 a0 a1 a2 (fun r0 => κ [.bool r0])
    | _ => none)
  | _ => none
def letter_find_0.h (n : Nat) : Option (List (Nat × List (Nat × Nat))) :=
  match n with
  | 2 => some [(0, [(0, 0)]), (2, [(0, 0)]), (7, [(0, 0)])]
  | _ => none
def letter_find_0.C (R : Type) (c_letter_piece_is_0 : Int → ByteArray → ByteArray → (Bool → Option R) → Option R) : Cfg R := ⟨tabTy tyL, letter_find_0.Γ c_letter_piece_is_0, fun _ => false, letter_find_0.h⟩
def letter_find_0.s2 (x0 : List AV) (x1 : ByteArray) (x2 : Int) : St := ⟨mkS 24 [(0, .ro 80 x0 false), (2, .str x1), (7, .int .i64 x2)], [], top⟩
theorem letter_find_0.c2 (R : Type) (c_letter_piece_is_0 : Int → ByteArray → ByteArray → (Bool → Option R) → Option R) (J : List Item → St → Option R) (κ : List SV → Option R) (x0 : List AV) (x1 : ByteArray) (x2 : Int) :
    start (letter_find_0.C R c_letter_piece_is_0) J (retK (letter_find_0.C R c_letter_piece_is_0) Tryd.f53.results.toList (List.range 0) κ) 10000 (placeOf Tryd.f53 2) (letter_find_0.s2 x0 x1 x2) = letter_find_0.t2 c_letter_piece_is_0 x0 x1 x2 (fun y0 y1 y2 => J (placeOf Tryd.f53 2) (letter_find_0.s2 y0 y1 y2)) (fun r0 => κ [.int .i64 r0]) := by kernel_rfl
theorem letter_find_0.c (R : Type) (c_letter_piece_is_0 : Int → ByteArray → ByteArray → (Bool → Option R) → Option R) (κ : List SV → Option R) (k : Nat) (a0 : List AV) (a1 : Int) (a2 : ByteArray) :
    runF (letter_find_0.C R c_letter_piece_is_0) Tryd.f53 10000 k [.ro 80 a0 false, .int .i64 a1, .str a2] κ = letter_find_0.e c_letter_piece_is_0 a0 a1 a2 (fun y0 y1 y2 => goto (letter_find_0.C R c_letter_piece_is_0) (retK (letter_find_0.C R c_letter_piece_is_0) Tryd.f53.results.toList (List.range 0) κ) 10000 k (placeOf Tryd.f53 2) (letter_find_0.s2 y0 y1 y2)) (fun r0 => κ [.int .i64 r0]) := by kernel_rfl
theorem letter_find_0.g2 (R : Type) (c_letter_piece_is_0 : Int → ByteArray → ByteArray → (Bool → Option R) → Option R) (κ : List SV → Option R) : ∀ (f : Nat) (x0 : List AV) (x1 : ByteArray) (x2 : Int), goto (letter_find_0.C R c_letter_piece_is_0) (retK (letter_find_0.C R c_letter_piece_is_0) Tryd.f53.results.toList (List.range 0) κ) 10000 f (placeOf Tryd.f53 2) (letter_find_0.s2 x0 x1 x2) = letter_find_0.L2 c_letter_piece_is_0 (fun r0 => κ [.int .i64 r0]) f x0 x1 x2
  | 0, _, _, _ => rfl
  | f + 1, x0, x1, x2 => by
    show start (letter_find_0.C R c_letter_piece_is_0) (goto (letter_find_0.C R c_letter_piece_is_0) (retK (letter_find_0.C R c_letter_piece_is_0) Tryd.f53.results.toList (List.range 0) κ) 10000 f) (retK (letter_find_0.C R c_letter_piece_is_0) Tryd.f53.results.toList (List.range 0) κ) 10000 (placeOf Tryd.f53 2) (letter_find_0.s2 x0 x1 x2) = _
    rw [letter_find_0.c2]
    simp only [letter_find_0.g2 R c_letter_piece_is_0 κ f]
    rfl
theorem letter_find_0.run (R : Type) (κ : List SV → Option R) (a0 : List AV) (a1 : Int) (a2 : ByteArray) :
    runF (letter_find_0.C R letter_piece_is_0) Tryd.f53 10000 fuelK [.ro 80 a0 false, .int .i64 a1, .str a2] κ = letter_find_0 a0 a1 a2 (fun r0 => κ [.int .i64 r0]) := by
  rw [letter_find_0.c]
  simp only [letter_find_0.g2 R letter_piece_is_0 κ fuelK]
  rfl
theorem letter_find_0.Γ_does {R : Type} (tab : Tab) (ht : TabOk tab) (g : Nat) : Does (R := R) Tryd.prog (tabTy tyL) tab g ((letter_find_0.C R letter_piece_is_0).call g) := by
  refine does_of fun xs κ => ?_
  show DoesAt _ _ _ g xs κ (letter_find_0.Γ letter_piece_is_0 g xs κ)
  unfold letter_find_0.Γ
  split
  · split
    · exact letter_piece_is_0.does tab ht _ _ _ κ
    · exact DoesAt.none
  · exact DoesAt.none
theorem letter_find_0.does {R : Type} (tab : Tab) (ht : TabOk tab) (a0 : List AV) (a1 : Int) (a2 : ByteArray) (κ : List SV → Option R) : DoesAt Tryd.prog (tabTy tyL) tab 53 [.ro 80 a0 false, .int .i64 a1, .str a2] κ (letter_find_0 a0 a1 a2 (fun r0 => κ [.int .i64 r0])) := by
  intro r h w vs Rt Ra bs hpre
  exact runF_sound tyOk (letter_find_0.Γ_does tab ht) (show Tryd.prog.funcs[53]? = some Tryd.f53 by kernel_rfl) (by kernel_rfl) ((letter_find_0.run R κ a0 a1 a2).trans h) hpre
def letter_part_0.Γ {R : Type} (c_letter_piece_is_0 : Int → ByteArray → ByteArray → (Bool → Option R) → Option R) (c_letter_find_0 : List AV → Int → ByteArray → (Int → Option R) → Option R) (g : Nat) (xs : List SV) (κ : List SV → Option R) : Option R :=
  match g with
  | 52 => (match xs with
    | [.agg [.int .i64 a0, .str a1], .str a2] => c_letter_piece_is_0 a0 a1 a2 (fun r0 => κ [.bool r0])
    | _ => none)
  | 53 => (match xs with
    | [.ro 80 a0 false, .int .i64 a1, .str a2] => c_letter_find_0 a0 a1 a2 (fun r0 => κ [.int .i64 r0])
    | _ => none)
  | _ => none
def letter_part_0.h (n : Nat) : Option (List (Nat × List (Nat × Nat))) :=
  match n with
  | 2 => some [(0, [(0, 0)]), (5, [(0, 0)])]
  | _ => none
def letter_part_0.C (R : Type) (c_letter_piece_is_0 : Int → ByteArray → ByteArray → (Bool → Option R) → Option R) (c_letter_find_0 : List AV → Int → ByteArray → (Int → Option R) → Option R) : Cfg R := ⟨tabTy tyL, letter_part_0.Γ c_letter_piece_is_0 c_letter_find_0, fun _ => false, letter_part_0.h⟩
def letter_part_0.s2 (x0 : List AV) (x1 : Int) : St := ⟨mkS 50 [(0, .ro 80 x0 false), (5, .int .i64 x1)], [], top⟩
theorem letter_part_0.c2 (R : Type) (c_letter_piece_is_0 : Int → ByteArray → ByteArray → (Bool → Option R) → Option R) (c_letter_find_0 : List AV → Int → ByteArray → (Int → Option R) → Option R) (J : List Item → St → Option R) (κ : List SV → Option R) (x0 : List AV) (x1 : Int) :
    start (letter_part_0.C R c_letter_piece_is_0 c_letter_find_0) J (retK (letter_part_0.C R c_letter_piece_is_0 c_letter_find_0) Tryd.f47.results.toList (List.range 0) κ) 10000 (placeOf Tryd.f47 2) (letter_part_0.s2 x0 x1) = letter_part_0.t2 c_letter_piece_is_0 c_letter_find_0 x0 x1 (fun y0 y1 => J (placeOf Tryd.f47 2) (letter_part_0.s2 y0 y1)) (fun r0 => κ [.int .i64 r0]) := by kernel_rfl
theorem letter_part_0.c (R : Type) (c_letter_piece_is_0 : Int → ByteArray → ByteArray → (Bool → Option R) → Option R) (c_letter_find_0 : List AV → Int → ByteArray → (Int → Option R) → Option R) (κ : List SV → Option R) (k : Nat) (a0 : List AV) (a1 : Int) :
    runF (letter_part_0.C R c_letter_piece_is_0 c_letter_find_0) Tryd.f47 10000 k [.ro 80 a0 false, .int .i64 a1] κ = letter_part_0.e c_letter_piece_is_0 c_letter_find_0 a0 a1 (fun y0 y1 => goto (letter_part_0.C R c_letter_piece_is_0 c_letter_find_0) (retK (letter_part_0.C R c_letter_piece_is_0 c_letter_find_0) Tryd.f47.results.toList (List.range 0) κ) 10000 k (placeOf Tryd.f47 2) (letter_part_0.s2 y0 y1)) (fun r0 => κ [.int .i64 r0]) := by kernel_rfl
theorem letter_part_0.g2 (R : Type) (c_letter_piece_is_0 : Int → ByteArray → ByteArray → (Bool → Option R) → Option R) (c_letter_find_0 : List AV → Int → ByteArray → (Int → Option R) → Option R) (κ : List SV → Option R) : ∀ (f : Nat) (x0 : List AV) (x1 : Int), goto (letter_part_0.C R c_letter_piece_is_0 c_letter_find_0) (retK (letter_part_0.C R c_letter_piece_is_0 c_letter_find_0) Tryd.f47.results.toList (List.range 0) κ) 10000 f (placeOf Tryd.f47 2) (letter_part_0.s2 x0 x1) = letter_part_0.L2 c_letter_piece_is_0 c_letter_find_0 (fun r0 => κ [.int .i64 r0]) f x0 x1
  | 0, _, _ => rfl
  | f + 1, x0, x1 => by
    show start (letter_part_0.C R c_letter_piece_is_0 c_letter_find_0) (goto (letter_part_0.C R c_letter_piece_is_0 c_letter_find_0) (retK (letter_part_0.C R c_letter_piece_is_0 c_letter_find_0) Tryd.f47.results.toList (List.range 0) κ) 10000 f) (retK (letter_part_0.C R c_letter_piece_is_0 c_letter_find_0) Tryd.f47.results.toList (List.range 0) κ) 10000 (placeOf Tryd.f47 2) (letter_part_0.s2 x0 x1) = _
    rw [letter_part_0.c2]
    simp only [letter_part_0.g2 R c_letter_piece_is_0 c_letter_find_0 κ f]
    rfl
theorem letter_part_0.run (R : Type) (κ : List SV → Option R) (a0 : List AV) (a1 : Int) :
    runF (letter_part_0.C R letter_piece_is_0 letter_find_0) Tryd.f47 10000 fuelK [.ro 80 a0 false, .int .i64 a1] κ = letter_part_0 a0 a1 (fun r0 => κ [.int .i64 r0]) := by
  rw [letter_part_0.c]
  simp only [letter_part_0.g2 R letter_piece_is_0 letter_find_0 κ fuelK]
  rfl
theorem letter_part_0.Γ_does {R : Type} (tab : Tab) (ht : TabOk tab) (g : Nat) : Does (R := R) Tryd.prog (tabTy tyL) tab g ((letter_part_0.C R letter_piece_is_0 letter_find_0).call g) := by
  refine does_of fun xs κ => ?_
  show DoesAt _ _ _ g xs κ (letter_part_0.Γ letter_piece_is_0 letter_find_0 g xs κ)
  unfold letter_part_0.Γ
  split
  · split
    · exact letter_piece_is_0.does tab ht _ _ _ κ
    · exact DoesAt.none
  · split
    · exact letter_find_0.does tab ht _ _ _ κ
    · exact DoesAt.none
  · exact DoesAt.none
theorem letter_part_0.does {R : Type} (tab : Tab) (ht : TabOk tab) (a0 : List AV) (a1 : Int) (κ : List SV → Option R) : DoesAt Tryd.prog (tabTy tyL) tab 47 [.ro 80 a0 false, .int .i64 a1] κ (letter_part_0 a0 a1 (fun r0 => κ [.int .i64 r0])) := by
  intro r h w vs Rt Ra bs hpre
  exact runF_sound tyOk (letter_part_0.Γ_does tab ht) (show Tryd.prog.funcs[47]? = some Tryd.f47 by kernel_rfl) (by kernel_rfl) ((letter_part_0.run R κ a0 a1).trans h) hpre
def strings_Builder_WriteString_0.Γ {R : Type} (c_strings_Builder_copyCheck_1 : List AV → (List AV → Option R) → Option R) (g : Nat) (xs : List SV) (κ : List SV → Option R) : Option R :=
  match g with
  | 69 => (match xs with
    | [.vp 63 [.nos, .fr 5 a0 true]] => c_strings_Builder_copyCheck_1 a0 (fun r0 => κ [.tup [], .vp 63 [.nos, .fr 5 r0 true]])
    | _ => none)
  | _ => none
def strings_Builder_WriteString_0.h (n : Nat) : Option (List (Nat × List (Nat × Nat))) :=
  match n with
  | _ => none
def strings_Builder_WriteString_0.C (R : Type) (c_strings_Builder_copyCheck_1 : List AV → (List AV → Option R) → Option R) : Cfg R := ⟨tabTy tyL, strings_Builder_WriteString_0.Γ c_strings_Builder_copyCheck_1, fun _ => false, strings_Builder_WriteString_0.h⟩
theorem strings_Builder_WriteString_0.c (R : Type) (c_strings_Builder_copyCheck_1 : List AV → (List AV → Option R) → Option R) (κ : List SV → Option R) (k : Nat) (a0 : List AV) (a1 : ByteArray) :
    runF (strings_Builder_WriteString_0.C R c_strings_Builder_copyCheck_1) Tryd.f39 10000 k [.vp 63 [.nos, .fr 5 a0 true], .str a1] κ = strings_Builder_WriteString_0.e c_strings_Builder_copyCheck_1 a0 a1 (fun r0 r1 => κ [.tup [.int .i64 r0, .nili], .vp 63 [.nos, .fr 5 r1 true]]) := by kernel_rfl
theorem strings_Builder_WriteString_0.run (R : Type) (κ : List SV → Option R) (a0 : List AV) (a1 : ByteArray) :
    runF (strings_Builder_WriteString_0.C R strings_Builder_copyCheck_1) Tryd.f39 10000 fuelK [.vp 63 [.nos, .fr 5 a0 true], .str a1] κ = strings_Builder_WriteString_0 a0 a1 (fun r0 r1 => κ [.tup [.int .i64 r0, .nili], .vp 63 [.nos, .fr 5 r1 true]]) := by
  rw [strings_Builder_WriteString_0.c]
  rfl
theorem strings_Builder_WriteString_0.Γ_does {R : Type} (tab : Tab) (ht : TabOk tab) (g : Nat) : Does (R := R) Tryd.prog (tabTy tyL) tab g ((strings_Builder_WriteString_0.C R strings_Builder_copyCheck_1).call g) := by
  refine does_of fun xs κ => ?_
  show DoesAt _ _ _ g xs κ (strings_Builder_WriteString_0.Γ strings_Builder_copyCheck_1 g xs κ)
  unfold strings_Builder_WriteString_0.Γ
  split
  · split
    · exact strings_Builder_copyCheck_1.does tab ht _ κ
    · exact DoesAt.none
  · exact DoesAt.none
theorem strings_Builder_WriteString_0.does {R : Type} (tab : Tab) (ht : TabOk tab) (a0 : List AV) (a1 : ByteArray) (κ : List SV → Option R) : DoesAt Tryd.prog (tabTy tyL) tab 39 [.vp 63 [.nos, .fr 5 a0 true], .str a1] κ (strings_Builder_WriteString_0 a0 a1 (fun r0 r1 => κ [.tup [.int .i64 r0, .nili], .vp 63 [.nos, .fr 5 r1 true]])) := by
  intro r h w vs Rt Ra bs hpre
  exact runF_sound tyOk (strings_Builder_WriteString_0.Γ_does tab ht) (show Tryd.prog.funcs[39]? = some Tryd.f39 by kernel_rfl) (by kernel_rfl) ((strings_Builder_WriteString_0.run R κ a0 a1).trans h) hpre
def letter_text_0.Γ {R : Type} (c_strings_Builder_WriteByte_1 : List AV → Int → (List AV → Option R) → Option R) (c_strings_Builder_WriteString_0 : List AV → ByteArray → (Int → List AV → Option R) → Option R) (c_strings_Builder_String_0 : List AV → (ByteArray → Option R) → Option R) (g : Nat) (xs : List SV) (κ : List SV → Option R) : Option R :=
  match g with
  | 39 => (match xs with
    | [.vp 63 [.nos, .fr 5 a0 true], .str a1] => c_strings_Builder_WriteString_0 a0 a1 (fun r0 r1 => κ [.tup [.int .i64 r0, .nili], .vp 63 [.nos, .fr 5 r1 true]])
    | _ => none)
  | 41 => (match xs with
    | [.vp 63 [.nos, .fr 5 a0 true]] => c_strings_Builder_String_0 a0 (fun r0 => κ [.str r0, .vp 63 [.nos, .no]])
    | _ => none)
  | 75 => (match xs with
    | [.vp 63 [.nos, .fr 5 a0 true], .int .u8 a1] => c_strings_Builder_WriteByte_1 a0 a1 (fun r0 => κ [.nili, .vp 63 [.nos, .fr 5 r0 true]])
    | _ => none)
  | _ => none
def letter_text_0.h (n : Nat) : Option (List (Nat × List (Nat × Nat))) :=
  match n with
  | 4 => some [(1, [(0, 0)]), (5, [(1, 7)]), (6, [(0, 0)]), (7, [(0, 0)]), (10, [(0, 0)]), (11, [(0, 0)]), (12, [(0, 0)])]
  | _ => none
def letter_text_0.C (R : Type) (c_strings_Builder_WriteByte_1 : List AV → Int → (List AV → Option R) → Option R) (c_strings_Builder_WriteString_0 : List AV → ByteArray → (Int → List AV → Option R) → Option R) (c_strings_Builder_String_0 : List AV → (ByteArray → Option R) → Option R) : Cfg R := ⟨tabTy tyL, letter_text_0.Γ c_strings_Builder_WriteByte_1 c_strings_Builder_WriteString_0 c_strings_Builder_String_0, fun _ => false, letter_text_0.h⟩
def letter_text_0.s4 (x0 : Bool) (x1 : Bool) (x2 : Bool) (x3 : List AV) (x4 : Int) (x5 : Int) (x6 : List AV) : St := ⟨mkS 31 [(1, .bool x0), (5, .ptr 447 0), (6, .bool x1), (7, .bool x2), (10, .ro 80 x3 false), (11, .int .i64 x4), (12, .int .i64 x5)], [(447, .var 63 [.nos, .own 385]), (385, .row 5 x6 true)], top⟩
theorem letter_text_0.c4 (R : Type) (c_strings_Builder_WriteByte_1 : List AV → Int → (List AV → Option R) → Option R) (c_strings_Builder_WriteString_0 : List AV → ByteArray → (Int → List AV → Option R) → Option R) (c_strings_Builder_String_0 : List AV → (ByteArray → Option R) → Option R) (J : List Item → St → Option R) (κ : List SV → Option R) (x0 : Bool) (x1 : Bool) (x2 : Bool) (x3 : List AV) (x4 : Int) (x5 : Int) (x6 : List AV) :
    start (letter_text_0.C R c_strings_Builder_WriteByte_1 c_strings_Builder_WriteString_0 c_strings_Builder_String_0) J (retK (letter_text_0.C R c_strings_Builder_WriteByte_1 c_strings_Builder_WriteString_0 c_strings_Builder_String_0) Tryd.f49.results.toList (List.range 0) κ) 10000 (placeOf Tryd.f49 4) (letter_text_0.s4 x0 x1 x2 x3 x4 x5 x6) = letter_text_0.t4 c_strings_Builder_WriteByte_1 c_strings_Builder_WriteString_0 c_strings_Builder_String_0 x0 x1 x2 x3 x4 x5 x6 (fun y0 y1 y2 y3 y4 y5 y6 => J (placeOf Tryd.f49 4) (letter_text_0.s4 y0 y1 y2 y3 y4 y5 y6)) (fun r0 => κ [.str r0]) := by kernel_rfl
theorem letter_text_0.c (R : Type) (c_strings_Builder_WriteByte_1 : List AV → Int → (List AV → Option R) → Option R) (c_strings_Builder_WriteString_0 : List AV → ByteArray → (Int → List AV → Option R) → Option R) (c_strings_Builder_String_0 : List AV → (ByteArray → Option R) → Option R) (κ : List SV → Option R) (k : Nat) (a0 : List AV) (a1 : Bool) :
    runF (letter_text_0.C R c_strings_Builder_WriteByte_1 c_strings_Builder_WriteString_0 c_strings_Builder_String_0) Tryd.f49 10000 k [.ro 80 a0 false, .bool a1] κ = letter_text_0.e c_strings_Builder_WriteByte_1 c_strings_Builder_WriteString_0 c_strings_Builder_String_0 a0 a1 (fun y0 y1 y2 y3 y4 y5 y6 => goto (letter_text_0.C R c_strings_Builder_WriteByte_1 c_strings_Builder_WriteString_0 c_strings_Builder_String_0) (retK (letter_text_0.C R c_strings_Builder_WriteByte_1 c_strings_Builder_WriteString_0 c_strings_Builder_String_0) Tryd.f49.results.toList (List.range 0) κ) 10000 k (placeOf Tryd.f49 4) (letter_text_0.s4 y0 y1 y2 y3 y4 y5 y6)) (fun r0 => κ [.str r0]) := by kernel_rfl
theorem letter_text_0.g4 (R : Type) (c_strings_Builder_WriteByte_1 : List AV → Int → (List AV → Option R) → Option R) (c_strings_Builder_WriteString_0 : List AV → ByteArray → (Int → List AV → Option R) → Option R) (c_strings_Builder_String_0 : List AV → (ByteArray → Option R) → Option R) (κ : List SV → Option R) : ∀ (f : Nat) (x0 : Bool) (x1 : Bool) (x2 : Bool) (x3 : List AV) (x4 : Int) (x5 : Int) (x6 : List AV), goto (letter_text_0.C R c_strings_Builder_WriteByte_1 c_strings_Builder_WriteString_0 c_strings_Builder_String_0) (retK (letter_text_0.C R c_strings_Builder_WriteByte_1 c_strings_Builder_WriteString_0 c_strings_Builder_String_0) Tryd.f49.results.toList (List.range 0) κ) 10000 f (placeOf Tryd.f49 4) (letter_text_0.s4 x0 x1 x2 x3 x4 x5 x6) = letter_text_0.L4 c_strings_Builder_WriteByte_1 c_strings_Builder_WriteString_0 c_strings_Builder_String_0 (fun r0 => κ [.str r0]) f x0 x1 x2 x3 x4 x5 x6
  | 0, _, _, _, _, _, _, _ => rfl
  | f + 1, x0, x1, x2, x3, x4, x5, x6 => by
    show start (letter_text_0.C R c_strings_Builder_WriteByte_1 c_strings_Builder_WriteString_0 c_strings_Builder_String_0) (goto (letter_text_0.C R c_strings_Builder_WriteByte_1 c_strings_Builder_WriteString_0 c_strings_Builder_String_0) (retK (letter_text_0.C R c_strings_Builder_WriteByte_1 c_strings_Builder_WriteString_0 c_strings_Builder_String_0) Tryd.f49.results.toList (List.range 0) κ) 10000 f) (retK (letter_text_0.C R c_strings_Builder_WriteByte_1 c_strings_Builder_WriteString_0 c_strings_Builder_String_0) Tryd.f49.results.toList (List.range 0) κ) 10000 (placeOf Tryd.f49 4) (letter_text_0.s4 x0 x1 x2 x3 x4 x5 x6) = _
    rw [letter_text_0.c4]
    simp only [letter_text_0.g4 R c_strings_Builder_WriteByte_1 c_strings_Builder_WriteString_0 c_strings_Builder_String_0 κ f]
    rfl
theorem letter_text_0.run (R : Type) (κ : List SV → Option R) (a0 : List AV) (a1 : Bool) :
    runF (letter_text_0.C R strings_Builder_WriteByte_1 strings_Builder_WriteString_0 strings_Builder_String_0) Tryd.f49 10000 fuelK [.ro 80 a0 false, .bool a1] κ = letter_text_0 a0 a1 (fun r0 => κ [.str r0]) := by
  rw [letter_text_0.c]
  simp only [letter_text_0.g4 R strings_Builder_WriteByte_1 strings_Builder_WriteString_0 strings_Builder_String_0 κ fuelK]
  rfl
theorem letter_text_0.Γ_does {R : Type} (tab : Tab) (ht : TabOk tab) (g : Nat) : Does (R := R) Tryd.prog (tabTy tyL) tab g ((letter_text_0.C R strings_Builder_WriteByte_1 strings_Builder_WriteString_0 strings_Builder_String_0).call g) := by
  refine does_of fun xs κ => ?_
  show DoesAt _ _ _ g xs κ (letter_text_0.Γ strings_Builder_WriteByte_1 strings_Builder_WriteString_0 strings_Builder_String_0 g xs κ)
  unfold letter_text_0.Γ
  split
  · split
    · exact strings_Builder_WriteString_0.does tab ht _ _ κ
    · exact DoesAt.none
  · split
    · exact strings_Builder_String_0.does tab ht _ κ
    · exact DoesAt.none
  · split
    · exact strings_Builder_WriteByte_1.does tab ht _ _ κ
    · exact DoesAt.none
  · exact DoesAt.none
theorem letter_text_0.does {R : Type} (tab : Tab) (ht : TabOk tab) (a0 : List AV) (a1 : Bool) (κ : List SV → Option R) : DoesAt Tryd.prog (tabTy tyL) tab 49 [.ro 80 a0 false, .bool a1] κ (letter_text_0 a0 a1 (fun r0 => κ [.str r0])) := by
  intro r h w vs Rt Ra bs hpre
  exact runF_sound tyOk (letter_text_0.Γ_does tab ht) (show Tryd.prog.funcs[49]? = some Tryd.f49 by kernel_rfl) (by kernel_rfl) ((letter_text_0.run R κ a0 a1).trans h) hpre
def letter_some_0.Γ {R : Type} (g : Nat) (xs : List SV) (κ : List SV → Option R) : Option R :=
  match g with
  | _ => none
def letter_some_0.h (n : Nat) : Option (List (Nat × List (Nat × Nat))) :=
  match n with
  | _ => none
def letter_some_0.C (R : Type) : Cfg R := ⟨tabTy tyL, letter_some_0.Γ, fun _ => false, letter_some_0.h⟩
theorem letter_some_0.c (R : Type) (κ : List SV → Option R) (k : Nat) (a0 : ByteArray) :
    runF (letter_some_0.C R) Tryd.f48 10000 k [.str a0] κ = letter_some_0.e a0 (fun r0 r1 => κ [.agg [.bool r0, .str r1]]) := by kernel_rfl
theorem letter_some_0.run (R : Type) (κ : List SV → Option R) (a0 : ByteArray) :
    runF (letter_some_0.C R) Tryd.f48 10000 fuelK [.str a0] κ = letter_some_0 a0 (fun r0 r1 => κ [.agg [.bool r0, .str r1]]) := by
  rw [letter_some_0.c]
  rfl
theorem letter_some_0.Γ_does {R : Type} (tab : Tab) (ht : TabOk tab) (g : Nat) : Does (R := R) Tryd.prog (tabTy tyL) tab g ((letter_some_0.C R).call g) := by
  refine does_of fun xs κ => ?_
  show DoesAt _ _ _ g xs κ (letter_some_0.Γ g xs κ)
  unfold letter_some_0.Γ
  split
  · exact DoesAt.none
theorem letter_some_0.does {R : Type} (tab : Tab) (ht : TabOk tab) (a0 : ByteArray) (κ : List SV → Option R) : DoesAt Tryd.prog (tabTy tyL) tab 48 [.str a0] κ (letter_some_0 a0 (fun r0 r1 => κ [.agg [.bool r0, .str r1]])) := by
  intro r h w vs Rt Ra bs hpre
  exact runF_sound tyOk (letter_some_0.Γ_does tab ht) (show Tryd.prog.funcs[48]? = some Tryd.f48 by kernel_rfl) (by kernel_rfl) ((letter_some_0.run R κ a0).trans h) hpre
def letter_held_0.Γ {R : Type} (g : Nat) (xs : List SV) (κ : List SV → Option R) : Option R :=
  match g with
  | _ => none
def letter_held_0.h (n : Nat) : Option (List (Nat × List (Nat × Nat))) :=
  match n with
  | 2 => some [(5, [(0, 0)]), (6, [(0, 0)]), (7, [(0, 0)])]
  | _ => none
def letter_held_0.C (R : Type) : Cfg R := ⟨tabTy tyL, letter_held_0.Γ, fun _ => false, letter_held_0.h⟩
def letter_held_0.s2 (x0 : List AV) (x1 : Int) (x2 : Int) : St := ⟨mkS 15 [(5, .ro 80 x0 false), (6, .int .i64 x1), (7, .int .i64 x2)], [], top⟩
theorem letter_held_0.c2 (R : Type) (J : List Item → St → Option R) (κ : List SV → Option R) (x0 : List AV) (x1 : Int) (x2 : Int) :
    start (letter_held_0.C R) J (retK (letter_held_0.C R) Tryd.f50.results.toList (List.range 0) κ) 10000 (placeOf Tryd.f50 2) (letter_held_0.s2 x0 x1 x2) = letter_held_0.t2 x0 x1 x2 (fun y0 y1 y2 => J (placeOf Tryd.f50 2) (letter_held_0.s2 y0 y1 y2)) (fun r0 => κ [.bool r0]) := by kernel_rfl
theorem letter_held_0.c (R : Type) (κ : List SV → Option R) (k : Nat) (a0 : List AV) :
    runF (letter_held_0.C R) Tryd.f50 10000 k [.ro 80 a0 false] κ = letter_held_0.e a0 (fun y0 y1 y2 => goto (letter_held_0.C R) (retK (letter_held_0.C R) Tryd.f50.results.toList (List.range 0) κ) 10000 k (placeOf Tryd.f50 2) (letter_held_0.s2 y0 y1 y2)) (fun r0 => κ [.bool r0]) := by kernel_rfl
theorem letter_held_0.g2 (R : Type) (κ : List SV → Option R) : ∀ (f : Nat) (x0 : List AV) (x1 : Int) (x2 : Int), goto (letter_held_0.C R) (retK (letter_held_0.C R) Tryd.f50.results.toList (List.range 0) κ) 10000 f (placeOf Tryd.f50 2) (letter_held_0.s2 x0 x1 x2) = letter_held_0.L2 (fun r0 => κ [.bool r0]) f x0 x1 x2
  | 0, _, _, _ => rfl
  | f + 1, x0, x1, x2 => by
    show start (letter_held_0.C R) (goto (letter_held_0.C R) (retK (letter_held_0.C R) Tryd.f50.results.toList (List.range 0) κ) 10000 f) (retK (letter_held_0.C R) Tryd.f50.results.toList (List.range 0) κ) 10000 (placeOf Tryd.f50 2) (letter_held_0.s2 x0 x1 x2) = _
    rw [letter_held_0.c2]
    simp only [letter_held_0.g2 R κ f]
    rfl
theorem letter_held_0.run (R : Type) (κ : List SV → Option R) (a0 : List AV) :
    runF (letter_held_0.C R) Tryd.f50 10000 fuelK [.ro 80 a0 false] κ = letter_held_0 a0 (fun r0 => κ [.bool r0]) := by
  rw [letter_held_0.c]
  simp only [letter_held_0.g2 R κ fuelK]
  rfl
theorem letter_held_0.Γ_does {R : Type} (tab : Tab) (ht : TabOk tab) (g : Nat) : Does (R := R) Tryd.prog (tabTy tyL) tab g ((letter_held_0.C R).call g) := by
  refine does_of fun xs κ => ?_
  show DoesAt _ _ _ g xs κ (letter_held_0.Γ g xs κ)
  unfold letter_held_0.Γ
  split
  · exact DoesAt.none
theorem letter_held_0.does {R : Type} (tab : Tab) (ht : TabOk tab) (a0 : List AV) (κ : List SV → Option R) : DoesAt Tryd.prog (tabTy tyL) tab 50 [.ro 80 a0 false] κ (letter_held_0 a0 (fun r0 => κ [.bool r0])) := by
  intro r h w vs Rt Ra bs hpre
  exact runF_sound tyOk (letter_held_0.Γ_does tab ht) (show Tryd.prog.funcs[50]? = some Tryd.f50 by kernel_rfl) (by kernel_rfl) ((letter_held_0.run R κ a0).trans h) hpre
def letter_routed_0.Γ {R : Type} (c_letter_piece_is_0 : Int → ByteArray → ByteArray → (Bool → Option R) → Option R) (g : Nat) (xs : List SV) (κ : List SV → Option R) : Option R :=
  match g with
  | 52 => (match xs with
    | [.agg [.int .i64 a0, .str a1], .str a2] => c_letter_piece_is_0 a0 a1 a2 (fun r0 => κ [.bool r0])
    | _ => none)
  | _ => none
def letter_routed_0.h (n : Nat) : Option (List (Nat × List (Nat × Nat))) :=
  match n with
  | 2 => some [(5, [(0, 0)]), (6, [(0, 0)]), (7, [(0, 0)])]
  | _ => none
def letter_routed_0.C (R : Type) (c_letter_piece_is_0 : Int → ByteArray → ByteArray → (Bool → Option R) → Option R) : Cfg R := ⟨tabTy tyL, letter_routed_0.Γ c_letter_piece_is_0, fun _ => false, letter_routed_0.h⟩
def letter_routed_0.s2 (x0 : List AV) (x1 : Int) (x2 : Int) : St := ⟨mkS 17 [(5, .ro 80 x0 false), (6, .int .i64 x1), (7, .int .i64 x2)], [], top⟩
theorem letter_routed_0.c2 (R : Type) (c_letter_piece_is_0 : Int → ByteArray → ByteArray → (Bool → Option R) → Option R) (J : List Item → St → Option R) (κ : List SV → Option R) (x0 : List AV) (x1 : Int) (x2 : Int) :
    start (letter_routed_0.C R c_letter_piece_is_0) J (retK (letter_routed_0.C R c_letter_piece_is_0) Tryd.f88.results.toList (List.range 0) κ) 10000 (placeOf Tryd.f88 2) (letter_routed_0.s2 x0 x1 x2) = letter_routed_0.t2 c_letter_piece_is_0 x0 x1 x2 (fun y0 y1 y2 => J (placeOf Tryd.f88 2) (letter_routed_0.s2 y0 y1 y2)) (fun r0 => κ [.bool r0]) := by kernel_rfl
theorem letter_routed_0.c (R : Type) (c_letter_piece_is_0 : Int → ByteArray → ByteArray → (Bool → Option R) → Option R) (κ : List SV → Option R) (k : Nat) (a0 : List AV) :
    runF (letter_routed_0.C R c_letter_piece_is_0) Tryd.f88 10000 k [.ro 80 a0 false] κ = letter_routed_0.e c_letter_piece_is_0 a0 (fun y0 y1 y2 => goto (letter_routed_0.C R c_letter_piece_is_0) (retK (letter_routed_0.C R c_letter_piece_is_0) Tryd.f88.results.toList (List.range 0) κ) 10000 k (placeOf Tryd.f88 2) (letter_routed_0.s2 y0 y1 y2)) (fun r0 => κ [.bool r0]) := by kernel_rfl
theorem letter_routed_0.g2 (R : Type) (c_letter_piece_is_0 : Int → ByteArray → ByteArray → (Bool → Option R) → Option R) (κ : List SV → Option R) : ∀ (f : Nat) (x0 : List AV) (x1 : Int) (x2 : Int), goto (letter_routed_0.C R c_letter_piece_is_0) (retK (letter_routed_0.C R c_letter_piece_is_0) Tryd.f88.results.toList (List.range 0) κ) 10000 f (placeOf Tryd.f88 2) (letter_routed_0.s2 x0 x1 x2) = letter_routed_0.L2 c_letter_piece_is_0 (fun r0 => κ [.bool r0]) f x0 x1 x2
  | 0, _, _, _ => rfl
  | f + 1, x0, x1, x2 => by
    show start (letter_routed_0.C R c_letter_piece_is_0) (goto (letter_routed_0.C R c_letter_piece_is_0) (retK (letter_routed_0.C R c_letter_piece_is_0) Tryd.f88.results.toList (List.range 0) κ) 10000 f) (retK (letter_routed_0.C R c_letter_piece_is_0) Tryd.f88.results.toList (List.range 0) κ) 10000 (placeOf Tryd.f88 2) (letter_routed_0.s2 x0 x1 x2) = _
    rw [letter_routed_0.c2]
    simp only [letter_routed_0.g2 R c_letter_piece_is_0 κ f]
    rfl
theorem letter_routed_0.run (R : Type) (κ : List SV → Option R) (a0 : List AV) :
    runF (letter_routed_0.C R letter_piece_is_0) Tryd.f88 10000 fuelK [.ro 80 a0 false] κ = letter_routed_0 a0 (fun r0 => κ [.bool r0]) := by
  rw [letter_routed_0.c]
  simp only [letter_routed_0.g2 R letter_piece_is_0 κ fuelK]
  rfl
theorem letter_routed_0.Γ_does {R : Type} (tab : Tab) (ht : TabOk tab) (g : Nat) : Does (R := R) Tryd.prog (tabTy tyL) tab g ((letter_routed_0.C R letter_piece_is_0).call g) := by
  refine does_of fun xs κ => ?_
  show DoesAt _ _ _ g xs κ (letter_routed_0.Γ letter_piece_is_0 g xs κ)
  unfold letter_routed_0.Γ
  split
  · split
    · exact letter_piece_is_0.does tab ht _ _ _ κ
    · exact DoesAt.none
  · exact DoesAt.none
theorem letter_routed_0.does {R : Type} (tab : Tab) (ht : TabOk tab) (a0 : List AV) (κ : List SV → Option R) : DoesAt Tryd.prog (tabTy tyL) tab 88 [.ro 80 a0 false] κ (letter_routed_0 a0 (fun r0 => κ [.bool r0])) := by
  intro r h w vs Rt Ra bs hpre
  exact runF_sound tyOk (letter_routed_0.Γ_does tab ht) (show Tryd.prog.funcs[88]? = some Tryd.f88 by kernel_rfl) (by kernel_rfl) ((letter_routed_0.run R κ a0).trans h) hpre
def letter_address_0.Γ {R : Type} (c_letter_find_0 : List AV → Int → ByteArray → (Int → Option R) → Option R) (c_letter_held_0 : List AV → (Bool → Option R) → Option R) (c_letter_text_0 : List AV → Bool → (ByteArray → Option R) → Option R) (c_letter_some_0 : ByteArray → (Bool → ByteArray → Option R) → Option R) (c_letter_routed_0 : List AV → (Bool → Option R) → Option R) (c_letter_piece_is_0 : Int → ByteArray → ByteArray → (Bool → Option R) → Option R) (g : Nat) (xs : List SV) (κ : List SV → Option R) : Option R :=
  match g with
  | 48 => (match xs with
    | [.str a0] => c_letter_some_0 a0 (fun r0 r1 => κ [.agg [.bool r0, .str r1]])
    | _ => none)
  | 49 => (match xs with
    | [.ro 80 a0 false, .bool a1] => c_letter_text_0 a0 a1 (fun r0 => κ [.str r0])
    | _ => none)
  | 50 => (match xs with
    | [.ro 80 a0 false] => c_letter_held_0 a0 (fun r0 => κ [.bool r0])
    | _ => none)
  | 52 => (match xs with
    | [.agg [.int .i64 a0, .str a1], .str a2] => c_letter_piece_is_0 a0 a1 a2 (fun r0 => κ [.bool r0])
    | _ => none)
  | 53 => (match xs with
    | [.ro 80 a0 false, .int .i64 a1, .str a2] => c_letter_find_0 a0 a1 a2 (fun r0 => κ [.int .i64 r0])
    | _ => none)
  | 88 => (match xs with
    | [.ro 80 a0 false] => c_letter_routed_0 a0 (fun r0 => κ [.bool r0])
    | _ => none)
  | _ => none
def letter_address_0.h (n : Nat) : Option (List (Nat × List (Nat × Nat))) :=
  match n with
  | 7 => some [(0, [(0, 0)]), (2, [(0, 0)]), (3, [(0, 0)]), (5, [(0, 0)])]
  | 13 => some [(2, [(0, 0)]), (3, [(0, 0)]), (4, [(0, 0)]), (7, [(0, 0)])]
  | 14 => some [(2, [(0, 0)]), (3, [(0, 0)]), (4, [(0, 0)]), (7, [(0, 0)]), (54, [(0, 0)]), (55, [(0, 0)]), (56, [(0, 0)])]
  | _ => none
def letter_address_0.C (R : Type) (c_letter_find_0 : List AV → Int → ByteArray → (Int → Option R) → Option R) (c_letter_held_0 : List AV → (Bool → Option R) → Option R) (c_letter_text_0 : List AV → Bool → (ByteArray → Option R) → Option R) (c_letter_some_0 : ByteArray → (Bool → ByteArray → Option R) → Option R) (c_letter_routed_0 : List AV → (Bool → Option R) → Option R) (c_letter_piece_is_0 : Int → ByteArray → ByteArray → (Bool → Option R) → Option R) : Cfg R := ⟨tabTy tyL, letter_address_0.Γ c_letter_find_0 c_letter_held_0 c_letter_text_0 c_letter_some_0 c_letter_routed_0 c_letter_piece_is_0, fun _ => false, letter_address_0.h⟩
def letter_address_0.s7 (x0 : List AV) (x1 : Int) (x2 : Bool) (x3 : ByteArray) (x4 : Bool) (x5 : ByteArray) (x6 : Bool) (x7 : ByteArray) (x8 : Bool) (x9 : ByteArray) (x10 : Bool) (x11 : ByteArray) (x12 : Bool) (x13 : ByteArray) (x14 : Bool) (x15 : ByteArray) (x16 : Bool) (x17 : ByteArray) : St := ⟨mkS 88 [(0, .ro 80 x0 false), (2, .ptr 255 0), (3, .ptr 319 0), (5, .int .i64 x1)], [(255, .var 46 [.bool x2, .str x3, .bool x4, .str x5, .bool x6, .str x7, .bool x8, .str x9]), (319, .var 46 [.bool x10, .str x11, .bool x12, .str x13, .bool x14, .str x15, .bool x16, .str x17])], top⟩
def letter_address_0.s13 (x0 : List AV) (x1 : Int) (x2 : Bool) (x3 : ByteArray) (x4 : Bool) (x5 : ByteArray) (x6 : Bool) (x7 : ByteArray) (x8 : Bool) (x9 : ByteArray) (x10 : Bool) (x11 : ByteArray) (x12 : Bool) (x13 : ByteArray) (x14 : Bool) (x15 : ByteArray) (x16 : Bool) (x17 : ByteArray) : St := ⟨mkS 88 [(2, .ptr 255 0), (3, .ptr 319 0), (4, .ro 80 x0 false), (7, .int .i64 x1)], [(255, .var 46 [.bool x2, .str x3, .bool x4, .str x5, .bool x6, .str x7, .bool x8, .str x9]), (319, .var 46 [.bool x10, .str x11, .bool x12, .str x13, .bool x14, .str x15, .bool x16, .str x17])], top⟩
def letter_address_0.s14 (x0 : List AV) (x1 : Int) (x2 : List AV) (x3 : Int) (x4 : Int) (x5 : Bool) (x6 : ByteArray) (x7 : Bool) (x8 : ByteArray) (x9 : Bool) (x10 : ByteArray) (x11 : Bool) (x12 : ByteArray) (x13 : Bool) (x14 : ByteArray) (x15 : Bool) (x16 : ByteArray) (x17 : Bool) (x18 : ByteArray) (x19 : Bool) (x20 : ByteArray) : St := ⟨mkS 88 [(2, .ptr 255 0), (3, .ptr 319 0), (4, .ro 80 x0 false), (7, .int .i64 x1), (54, .ro 80 x2 false), (55, .int .i64 x3), (56, .int .i64 x4)], [(255, .var 46 [.bool x5, .str x6, .bool x7, .str x8, .bool x9, .str x10, .bool x11, .str x12]), (319, .var 46 [.bool x13, .str x14, .bool x15, .str x16, .bool x17, .str x18, .bool x19, .str x20])], top⟩
theorem letter_address_0.c7 (R : Type) (c_letter_find_0 : List AV → Int → ByteArray → (Int → Option R) → Option R) (c_letter_held_0 : List AV → (Bool → Option R) → Option R) (c_letter_text_0 : List AV → Bool → (ByteArray → Option R) → Option R) (c_letter_some_0 : ByteArray → (Bool → ByteArray → Option R) → Option R) (c_letter_routed_0 : List AV → (Bool → Option R) → Option R) (c_letter_piece_is_0 : Int → ByteArray → ByteArray → (Bool → Option R) → Option R) (J : List Item → St → Option R) (κ : List SV → Option R) (x0 : List AV) (x1 : Int) (x2 : Bool) (x3 : ByteArray) (x4 : Bool) (x5 : ByteArray) (x6 : Bool) (x7 : ByteArray) (x8 : Bool) (x9 : ByteArray) (x10 : Bool) (x11 : ByteArray) (x12 : Bool) (x13 : ByteArray) (x14 : Bool) (x15 : ByteArray) (x16 : Bool) (x17 : ByteArray) :
    start (letter_address_0.C R c_letter_find_0 c_letter_held_0 c_letter_text_0 c_letter_some_0 c_letter_routed_0 c_letter_piece_is_0) J (retK (letter_address_0.C R c_letter_find_0 c_letter_held_0 c_letter_text_0 c_letter_some_0 c_letter_routed_0 c_letter_piece_is_0) Tryd.f51.results.toList (List.range 0) κ) 10000 (placeOf Tryd.f51 7) (letter_address_0.s7 x0 x1 x2 x3 x4 x5 x6 x7 x8 x9 x10 x11 x12 x13 x14 x15 x16 x17) = letter_address_0.t7 c_letter_find_0 c_letter_held_0 c_letter_text_0 c_letter_some_0 c_letter_routed_0 c_letter_piece_is_0 x0 x1 x2 x3 x4 x5 x6 x7 x8 x9 x10 x11 x12 x13 x14 x15 x16 x17 (fun y0 y1 y2 y3 y4 y5 y6 y7 y8 y9 y10 y11 y12 y13 y14 y15 y16 y17 => J (placeOf Tryd.f51 7) (letter_address_0.s7 y0 y1 y2 y3 y4 y5 y6 y7 y8 y9 y10 y11 y12 y13 y14 y15 y16 y17)) (fun y0 y1 y2 y3 y4 y5 y6 y7 y8 y9 y10 y11 y12 y13 y14 y15 y16 y17 => J (placeOf Tryd.f51 13) (letter_address_0.s13 y0 y1 y2 y3 y4 y5 y6 y7 y8 y9 y10 y11 y12 y13 y14 y15 y16 y17)) (fun y0 y1 y2 y3 y4 y5 y6 y7 y8 y9 y10 y11 y12 y13 y14 y15 y16 y17 y18 y19 y20 => J (placeOf Tryd.f51 14) (letter_address_0.s14 y0 y1 y2 y3 y4 y5 y6 y7 y8 y9 y10 y11 y12 y13 y14 y15 y16 y17 y18 y19 y20)) (fun r0 r1 r2 r3 r4 r5 r6 r7 => κ [.agg [.bool r0, .str r1, .bool r2, .str r3, .bool r4, .str r5, .bool r6, .str r7]]) := by kernel_rfl
theorem letter_address_0.c13 (R : Type) (c_letter_find_0 : List AV → Int → ByteArray → (Int → Option R) → Option R) (c_letter_held_0 : List AV → (Bool → Option R) → Option R) (c_letter_text_0 : List AV → Bool → (ByteArray → Option R) → Option R) (c_letter_some_0 : ByteArray → (Bool → ByteArray → Option R) → Option R) (c_letter_routed_0 : List AV → (Bool → Option R) → Option R) (c_letter_piece_is_0 : Int → ByteArray → ByteArray → (Bool → Option R) → Option R) (J : List Item → St → Option R) (κ : List SV → Option R) (x0 : List AV) (x1 : Int) (x2 : Bool) (x3 : ByteArray) (x4 : Bool) (x5 : ByteArray) (x6 : Bool) (x7 : ByteArray) (x8 : Bool) (x9 : ByteArray) (x10 : Bool) (x11 : ByteArray) (x12 : Bool) (x13 : ByteArray) (x14 : Bool) (x15 : ByteArray) (x16 : Bool) (x17 : ByteArray) :
    start (letter_address_0.C R c_letter_find_0 c_letter_held_0 c_letter_text_0 c_letter_some_0 c_letter_routed_0 c_letter_piece_is_0) J (retK (letter_address_0.C R c_letter_find_0 c_letter_held_0 c_letter_text_0 c_letter_some_0 c_letter_routed_0 c_letter_piece_is_0) Tryd.f51.results.toList (List.range 0) κ) 10000 (placeOf Tryd.f51 13) (letter_address_0.s13 x0 x1 x2 x3 x4 x5 x6 x7 x8 x9 x10 x11 x12 x13 x14 x15 x16 x17) = letter_address_0.t13 c_letter_find_0 c_letter_held_0 c_letter_text_0 c_letter_some_0 c_letter_routed_0 c_letter_piece_is_0 x0 x1 x2 x3 x4 x5 x6 x7 x8 x9 x10 x11 x12 x13 x14 x15 x16 x17 (fun y0 y1 y2 y3 y4 y5 y6 y7 y8 y9 y10 y11 y12 y13 y14 y15 y16 y17 => J (placeOf Tryd.f51 7) (letter_address_0.s7 y0 y1 y2 y3 y4 y5 y6 y7 y8 y9 y10 y11 y12 y13 y14 y15 y16 y17)) (fun y0 y1 y2 y3 y4 y5 y6 y7 y8 y9 y10 y11 y12 y13 y14 y15 y16 y17 => J (placeOf Tryd.f51 13) (letter_address_0.s13 y0 y1 y2 y3 y4 y5 y6 y7 y8 y9 y10 y11 y12 y13 y14 y15 y16 y17)) (fun y0 y1 y2 y3 y4 y5 y6 y7 y8 y9 y10 y11 y12 y13 y14 y15 y16 y17 y18 y19 y20 => J (placeOf Tryd.f51 14) (letter_address_0.s14 y0 y1 y2 y3 y4 y5 y6 y7 y8 y9 y10 y11 y12 y13 y14 y15 y16 y17 y18 y19 y20)) (fun r0 r1 r2 r3 r4 r5 r6 r7 => κ [.agg [.bool r0, .str r1, .bool r2, .str r3, .bool r4, .str r5, .bool r6, .str r7]]) := by kernel_rfl
theorem letter_address_0.c14 (R : Type) (c_letter_find_0 : List AV → Int → ByteArray → (Int → Option R) → Option R) (c_letter_held_0 : List AV → (Bool → Option R) → Option R) (c_letter_text_0 : List AV → Bool → (ByteArray → Option R) → Option R) (c_letter_some_0 : ByteArray → (Bool → ByteArray → Option R) → Option R) (c_letter_routed_0 : List AV → (Bool → Option R) → Option R) (c_letter_piece_is_0 : Int → ByteArray → ByteArray → (Bool → Option R) → Option R) (J : List Item → St → Option R) (κ : List SV → Option R) (x0 : List AV) (x1 : Int) (x2 : List AV) (x3 : Int) (x4 : Int) (x5 : Bool) (x6 : ByteArray) (x7 : Bool) (x8 : ByteArray) (x9 : Bool) (x10 : ByteArray) (x11 : Bool) (x12 : ByteArray) (x13 : Bool) (x14 : ByteArray) (x15 : Bool) (x16 : ByteArray) (x17 : Bool) (x18 : ByteArray) (x19 : Bool) (x20 : ByteArray) :
    start (letter_address_0.C R c_letter_find_0 c_letter_held_0 c_letter_text_0 c_letter_some_0 c_letter_routed_0 c_letter_piece_is_0) J (retK (letter_address_0.C R c_letter_find_0 c_letter_held_0 c_letter_text_0 c_letter_some_0 c_letter_routed_0 c_letter_piece_is_0) Tryd.f51.results.toList (List.range 0) κ) 10000 (placeOf Tryd.f51 14) (letter_address_0.s14 x0 x1 x2 x3 x4 x5 x6 x7 x8 x9 x10 x11 x12 x13 x14 x15 x16 x17 x18 x19 x20) = letter_address_0.t14 c_letter_find_0 c_letter_held_0 c_letter_text_0 c_letter_some_0 c_letter_routed_0 c_letter_piece_is_0 x0 x1 x2 x3 x4 x5 x6 x7 x8 x9 x10 x11 x12 x13 x14 x15 x16 x17 x18 x19 x20 (fun y0 y1 y2 y3 y4 y5 y6 y7 y8 y9 y10 y11 y12 y13 y14 y15 y16 y17 => J (placeOf Tryd.f51 7) (letter_address_0.s7 y0 y1 y2 y3 y4 y5 y6 y7 y8 y9 y10 y11 y12 y13 y14 y15 y16 y17)) (fun y0 y1 y2 y3 y4 y5 y6 y7 y8 y9 y10 y11 y12 y13 y14 y15 y16 y17 => J (placeOf Tryd.f51 13) (letter_address_0.s13 y0 y1 y2 y3 y4 y5 y6 y7 y8 y9 y10 y11 y12 y13 y14 y15 y16 y17)) (fun y0 y1 y2 y3 y4 y5 y6 y7 y8 y9 y10 y11 y12 y13 y14 y15 y16 y17 y18 y19 y20 => J (placeOf Tryd.f51 14) (letter_address_0.s14 y0 y1 y2 y3 y4 y5 y6 y7 y8 y9 y10 y11 y12 y13 y14 y15 y16 y17 y18 y19 y20)) (fun r0 r1 r2 r3 r4 r5 r6 r7 => κ [.agg [.bool r0, .str r1, .bool r2, .str r3, .bool r4, .str r5, .bool r6, .str r7]]) := by kernel_rfl
theorem letter_address_0.c (R : Type) (c_letter_find_0 : List AV → Int → ByteArray → (Int → Option R) → Option R) (c_letter_held_0 : List AV → (Bool → Option R) → Option R) (c_letter_text_0 : List AV → Bool → (ByteArray → Option R) → Option R) (c_letter_some_0 : ByteArray → (Bool → ByteArray → Option R) → Option R) (c_letter_routed_0 : List AV → (Bool → Option R) → Option R) (c_letter_piece_is_0 : Int → ByteArray → ByteArray → (Bool → Option R) → Option R) (κ : List SV → Option R) (k : Nat) (a0 : List AV) :
    runF (letter_address_0.C R c_letter_find_0 c_letter_held_0 c_letter_text_0 c_letter_some_0 c_letter_routed_0 c_letter_piece_is_0) Tryd.f51 10000 k [.ro 80 a0 false] κ = letter_address_0.e c_letter_find_0 c_letter_held_0 c_letter_text_0 c_letter_some_0 c_letter_routed_0 c_letter_piece_is_0 a0 (fun y0 y1 y2 y3 y4 y5 y6 y7 y8 y9 y10 y11 y12 y13 y14 y15 y16 y17 => goto (letter_address_0.C R c_letter_find_0 c_letter_held_0 c_letter_text_0 c_letter_some_0 c_letter_routed_0 c_letter_piece_is_0) (retK (letter_address_0.C R c_letter_find_0 c_letter_held_0 c_letter_text_0 c_letter_some_0 c_letter_routed_0 c_letter_piece_is_0) Tryd.f51.results.toList (List.range 0) κ) 10000 k (placeOf Tryd.f51 7) (letter_address_0.s7 y0 y1 y2 y3 y4 y5 y6 y7 y8 y9 y10 y11 y12 y13 y14 y15 y16 y17)) (fun y0 y1 y2 y3 y4 y5 y6 y7 y8 y9 y10 y11 y12 y13 y14 y15 y16 y17 => goto (letter_address_0.C R c_letter_find_0 c_letter_held_0 c_letter_text_0 c_letter_some_0 c_letter_routed_0 c_letter_piece_is_0) (retK (letter_address_0.C R c_letter_find_0 c_letter_held_0 c_letter_text_0 c_letter_some_0 c_letter_routed_0 c_letter_piece_is_0) Tryd.f51.results.toList (List.range 0) κ) 10000 k (placeOf Tryd.f51 13) (letter_address_0.s13 y0 y1 y2 y3 y4 y5 y6 y7 y8 y9 y10 y11 y12 y13 y14 y15 y16 y17)) (fun y0 y1 y2 y3 y4 y5 y6 y7 y8 y9 y10 y11 y12 y13 y14 y15 y16 y17 y18 y19 y20 => goto (letter_address_0.C R c_letter_find_0 c_letter_held_0 c_letter_text_0 c_letter_some_0 c_letter_routed_0 c_letter_piece_is_0) (retK (letter_address_0.C R c_letter_find_0 c_letter_held_0 c_letter_text_0 c_letter_some_0 c_letter_routed_0 c_letter_piece_is_0) Tryd.f51.results.toList (List.range 0) κ) 10000 k (placeOf Tryd.f51 14) (letter_address_0.s14 y0 y1 y2 y3 y4 y5 y6 y7 y8 y9 y10 y11 y12 y13 y14 y15 y16 y17 y18 y19 y20)) (fun r0 r1 r2 r3 r4 r5 r6 r7 => κ [.agg [.bool r0, .str r1, .bool r2, .str r3, .bool r4, .str r5, .bool r6, .str r7]]) := by kernel_rfl
theorem letter_address_0.g14 (R : Type) (c_letter_find_0 : List AV → Int → ByteArray → (Int → Option R) → Option R) (c_letter_held_0 : List AV → (Bool → Option R) → Option R) (c_letter_text_0 : List AV → Bool → (ByteArray → Option R) → Option R) (c_letter_some_0 : ByteArray → (Bool → ByteArray → Option R) → Option R) (c_letter_routed_0 : List AV → (Bool → Option R) → Option R) (c_letter_piece_is_0 : Int → ByteArray → ByteArray → (Bool → Option R) → Option R) (κ : List SV → Option R) : ∀ (f : Nat) (x0 : List AV) (x1 : Int) (x2 : List AV) (x3 : Int) (x4 : Int) (x5 : Bool) (x6 : ByteArray) (x7 : Bool) (x8 : ByteArray) (x9 : Bool) (x10 : ByteArray) (x11 : Bool) (x12 : ByteArray) (x13 : Bool) (x14 : ByteArray) (x15 : Bool) (x16 : ByteArray) (x17 : Bool) (x18 : ByteArray) (x19 : Bool) (x20 : ByteArray), goto (letter_address_0.C R c_letter_find_0 c_letter_held_0 c_letter_text_0 c_letter_some_0 c_letter_routed_0 c_letter_piece_is_0) (retK (letter_address_0.C R c_letter_find_0 c_letter_held_0 c_letter_text_0 c_letter_some_0 c_letter_routed_0 c_letter_piece_is_0) Tryd.f51.results.toList (List.range 0) κ) 10000 f (placeOf Tryd.f51 14) (letter_address_0.s14 x0 x1 x2 x3 x4 x5 x6 x7 x8 x9 x10 x11 x12 x13 x14 x15 x16 x17 x18 x19 x20) = letter_address_0.L14 c_letter_find_0 c_letter_held_0 c_letter_text_0 c_letter_some_0 c_letter_routed_0 c_letter_piece_is_0 (fun r0 r1 r2 r3 r4 r5 r6 r7 => κ [.agg [.bool r0, .str r1, .bool r2, .str r3, .bool r4, .str r5, .bool r6, .str r7]]) f x0 x1 x2 x3 x4 x5 x6 x7 x8 x9 x10 x11 x12 x13 x14 x15 x16 x17 x18 x19 x20
  | 0, _, _, _, _, _, _, _, _, _, _, _, _, _, _, _, _, _, _, _, _, _ => rfl
  | f + 1, x0, x1, x2, x3, x4, x5, x6, x7, x8, x9, x10, x11, x12, x13, x14, x15, x16, x17, x18, x19, x20 => by
    show start (letter_address_0.C R c_letter_find_0 c_letter_held_0 c_letter_text_0 c_letter_some_0 c_letter_routed_0 c_letter_piece_is_0) (goto (letter_address_0.C R c_letter_find_0 c_letter_held_0 c_letter_text_0 c_letter_some_0 c_letter_routed_0 c_letter_piece_is_0) (retK (letter_address_0.C R c_letter_find_0 c_letter_held_0 c_letter_text_0 c_letter_some_0 c_letter_routed_0 c_letter_piece_is_0) Tryd.f51.results.toList (List.range 0) κ) 10000 f) (retK (letter_address_0.C R c_letter_find_0 c_letter_held_0 c_letter_text_0 c_letter_some_0 c_letter_routed_0 c_letter_piece_is_0) Tryd.f51.results.toList (List.range 0) κ) 10000 (placeOf Tryd.f51 14) (letter_address_0.s14 x0 x1 x2 x3 x4 x5 x6 x7 x8 x9 x10 x11 x12 x13 x14 x15 x16 x17 x18 x19 x20) = _
    rw [letter_address_0.c14]
    simp only [letter_address_0.g14 R c_letter_find_0 c_letter_held_0 c_letter_text_0 c_letter_some_0 c_letter_routed_0 c_letter_piece_is_0 κ f]
    rfl
theorem letter_address_0.g13 (R : Type) (c_letter_find_0 : List AV → Int → ByteArray → (Int → Option R) → Option R) (c_letter_held_0 : List AV → (Bool → Option R) → Option R) (c_letter_text_0 : List AV → Bool → (ByteArray → Option R) → Option R) (c_letter_some_0 : ByteArray → (Bool → ByteArray → Option R) → Option R) (c_letter_routed_0 : List AV → (Bool → Option R) → Option R) (c_letter_piece_is_0 : Int → ByteArray → ByteArray → (Bool → Option R) → Option R) (κ : List SV → Option R) : ∀ (f : Nat) (x0 : List AV) (x1 : Int) (x2 : Bool) (x3 : ByteArray) (x4 : Bool) (x5 : ByteArray) (x6 : Bool) (x7 : ByteArray) (x8 : Bool) (x9 : ByteArray) (x10 : Bool) (x11 : ByteArray) (x12 : Bool) (x13 : ByteArray) (x14 : Bool) (x15 : ByteArray) (x16 : Bool) (x17 : ByteArray), goto (letter_address_0.C R c_letter_find_0 c_letter_held_0 c_letter_text_0 c_letter_some_0 c_letter_routed_0 c_letter_piece_is_0) (retK (letter_address_0.C R c_letter_find_0 c_letter_held_0 c_letter_text_0 c_letter_some_0 c_letter_routed_0 c_letter_piece_is_0) Tryd.f51.results.toList (List.range 0) κ) 10000 f (placeOf Tryd.f51 13) (letter_address_0.s13 x0 x1 x2 x3 x4 x5 x6 x7 x8 x9 x10 x11 x12 x13 x14 x15 x16 x17) = letter_address_0.L13 c_letter_find_0 c_letter_held_0 c_letter_text_0 c_letter_some_0 c_letter_routed_0 c_letter_piece_is_0 (fun r0 r1 r2 r3 r4 r5 r6 r7 => κ [.agg [.bool r0, .str r1, .bool r2, .str r3, .bool r4, .str r5, .bool r6, .str r7]]) f x0 x1 x2 x3 x4 x5 x6 x7 x8 x9 x10 x11 x12 x13 x14 x15 x16 x17
  | 0, _, _, _, _, _, _, _, _, _, _, _, _, _, _, _, _, _, _ => rfl
  | f + 1, x0, x1, x2, x3, x4, x5, x6, x7, x8, x9, x10, x11, x12, x13, x14, x15, x16, x17 => by
    show start (letter_address_0.C R c_letter_find_0 c_letter_held_0 c_letter_text_0 c_letter_some_0 c_letter_routed_0 c_letter_piece_is_0) (goto (letter_address_0.C R c_letter_find_0 c_letter_held_0 c_letter_text_0 c_letter_some_0 c_letter_routed_0 c_letter_piece_is_0) (retK (letter_address_0.C R c_letter_find_0 c_letter_held_0 c_letter_text_0 c_letter_some_0 c_letter_routed_0 c_letter_piece_is_0) Tryd.f51.results.toList (List.range 0) κ) 10000 f) (retK (letter_address_0.C R c_letter_find_0 c_letter_held_0 c_letter_text_0 c_letter_some_0 c_letter_routed_0 c_letter_piece_is_0) Tryd.f51.results.toList (List.range 0) κ) 10000 (placeOf Tryd.f51 13) (letter_address_0.s13 x0 x1 x2 x3 x4 x5 x6 x7 x8 x9 x10 x11 x12 x13 x14 x15 x16 x17) = _
    rw [letter_address_0.c13]
    simp only [letter_address_0.g14 R c_letter_find_0 c_letter_held_0 c_letter_text_0 c_letter_some_0 c_letter_routed_0 c_letter_piece_is_0 κ f]
    rfl
theorem letter_address_0.g7 (R : Type) (c_letter_find_0 : List AV → Int → ByteArray → (Int → Option R) → Option R) (c_letter_held_0 : List AV → (Bool → Option R) → Option R) (c_letter_text_0 : List AV → Bool → (ByteArray → Option R) → Option R) (c_letter_some_0 : ByteArray → (Bool → ByteArray → Option R) → Option R) (c_letter_routed_0 : List AV → (Bool → Option R) → Option R) (c_letter_piece_is_0 : Int → ByteArray → ByteArray → (Bool → Option R) → Option R) (κ : List SV → Option R) : ∀ (f : Nat) (x0 : List AV) (x1 : Int) (x2 : Bool) (x3 : ByteArray) (x4 : Bool) (x5 : ByteArray) (x6 : Bool) (x7 : ByteArray) (x8 : Bool) (x9 : ByteArray) (x10 : Bool) (x11 : ByteArray) (x12 : Bool) (x13 : ByteArray) (x14 : Bool) (x15 : ByteArray) (x16 : Bool) (x17 : ByteArray), goto (letter_address_0.C R c_letter_find_0 c_letter_held_0 c_letter_text_0 c_letter_some_0 c_letter_routed_0 c_letter_piece_is_0) (retK (letter_address_0.C R c_letter_find_0 c_letter_held_0 c_letter_text_0 c_letter_some_0 c_letter_routed_0 c_letter_piece_is_0) Tryd.f51.results.toList (List.range 0) κ) 10000 f (placeOf Tryd.f51 7) (letter_address_0.s7 x0 x1 x2 x3 x4 x5 x6 x7 x8 x9 x10 x11 x12 x13 x14 x15 x16 x17) = letter_address_0.L7 c_letter_find_0 c_letter_held_0 c_letter_text_0 c_letter_some_0 c_letter_routed_0 c_letter_piece_is_0 (fun r0 r1 r2 r3 r4 r5 r6 r7 => κ [.agg [.bool r0, .str r1, .bool r2, .str r3, .bool r4, .str r5, .bool r6, .str r7]]) f x0 x1 x2 x3 x4 x5 x6 x7 x8 x9 x10 x11 x12 x13 x14 x15 x16 x17
  | 0, _, _, _, _, _, _, _, _, _, _, _, _, _, _, _, _, _, _ => rfl
  | f + 1, x0, x1, x2, x3, x4, x5, x6, x7, x8, x9, x10, x11, x12, x13, x14, x15, x16, x17 => by
    show start (letter_address_0.C R c_letter_find_0 c_letter_held_0 c_letter_text_0 c_letter_some_0 c_letter_routed_0 c_letter_piece_is_0) (goto (letter_address_0.C R c_letter_find_0 c_letter_held_0 c_letter_text_0 c_letter_some_0 c_letter_routed_0 c_letter_piece_is_0) (retK (letter_address_0.C R c_letter_find_0 c_letter_held_0 c_letter_text_0 c_letter_some_0 c_letter_routed_0 c_letter_piece_is_0) Tryd.f51.results.toList (List.range 0) κ) 10000 f) (retK (letter_address_0.C R c_letter_find_0 c_letter_held_0 c_letter_text_0 c_letter_some_0 c_letter_routed_0 c_letter_piece_is_0) Tryd.f51.results.toList (List.range 0) κ) 10000 (placeOf Tryd.f51 7) (letter_address_0.s7 x0 x1 x2 x3 x4 x5 x6 x7 x8 x9 x10 x11 x12 x13 x14 x15 x16 x17) = _
    rw [letter_address_0.c7]
    simp only [letter_address_0.g13 R c_letter_find_0 c_letter_held_0 c_letter_text_0 c_letter_some_0 c_letter_routed_0 c_letter_piece_is_0 κ f]
    rfl
theorem letter_address_0.run (R : Type) (κ : List SV → Option R) (a0 : List AV) :
    runF (letter_address_0.C R letter_find_0 letter_held_0 letter_text_0 letter_some_0 letter_routed_0 letter_piece_is_0) Tryd.f51 10000 fuelK [.ro 80 a0 false] κ = letter_address_0 a0 (fun r0 r1 r2 r3 r4 r5 r6 r7 => κ [.agg [.bool r0, .str r1, .bool r2, .str r3, .bool r4, .str r5, .bool r6, .str r7]]) := by
  rw [letter_address_0.c]
  simp only [letter_address_0.g7 R letter_find_0 letter_held_0 letter_text_0 letter_some_0 letter_routed_0 letter_piece_is_0 κ fuelK, letter_address_0.g13 R letter_find_0 letter_held_0 letter_text_0 letter_some_0 letter_routed_0 letter_piece_is_0 κ fuelK, letter_address_0.g14 R letter_find_0 letter_held_0 letter_text_0 letter_some_0 letter_routed_0 letter_piece_is_0 κ fuelK]
  rfl
theorem letter_address_0.Γ_does {R : Type} (tab : Tab) (ht : TabOk tab) (g : Nat) : Does (R := R) Tryd.prog (tabTy tyL) tab g ((letter_address_0.C R letter_find_0 letter_held_0 letter_text_0 letter_some_0 letter_routed_0 letter_piece_is_0).call g) := by
  refine does_of fun xs κ => ?_
  show DoesAt _ _ _ g xs κ (letter_address_0.Γ letter_find_0 letter_held_0 letter_text_0 letter_some_0 letter_routed_0 letter_piece_is_0 g xs κ)
  unfold letter_address_0.Γ
  split
  · split
    · exact letter_some_0.does tab ht _ κ
    · exact DoesAt.none
  · split
    · exact letter_text_0.does tab ht _ _ κ
    · exact DoesAt.none
  · split
    · exact letter_held_0.does tab ht _ κ
    · exact DoesAt.none
  · split
    · exact letter_piece_is_0.does tab ht _ _ _ κ
    · exact DoesAt.none
  · split
    · exact letter_find_0.does tab ht _ _ _ κ
    · exact DoesAt.none
  · split
    · exact letter_routed_0.does tab ht _ κ
    · exact DoesAt.none
  · exact DoesAt.none
theorem letter_address_0.does {R : Type} (tab : Tab) (ht : TabOk tab) (a0 : List AV) (κ : List SV → Option R) : DoesAt Tryd.prog (tabTy tyL) tab 51 [.ro 80 a0 false] κ (letter_address_0 a0 (fun r0 r1 r2 r3 r4 r5 r6 r7 => κ [.agg [.bool r0, .str r1, .bool r2, .str r3, .bool r4, .str r5, .bool r6, .str r7]])) := by
  intro r h w vs Rt Ra bs hpre
  exact runF_sound tyOk (letter_address_0.Γ_does tab ht) (show Tryd.prog.funcs[51]? = some Tryd.f51 by kernel_rfl) (by kernel_rfl) ((letter_address_0.run R κ a0).trans h) hpre
def letter_Addresses_0.Γ {R : Type} (c_letter_pieces_0 : ByteArray → (List AV → Option R) → Option R) (c_letter_part_0 : List AV → Int → (Int → Option R) → Option R) (c_letter_text_0 : List AV → Bool → (ByteArray → Option R) → Option R) (c_letter_some_0 : ByteArray → (Bool → ByteArray → Option R) → Option R) (c_letter_held_0 : List AV → (Bool → Option R) → Option R) (c_letter_address_0 : List AV → (Bool → ByteArray → Bool → ByteArray → Bool → ByteArray → Bool → ByteArray → Option R) → Option R) (g : Nat) (xs : List SV) (κ : List SV → Option R) : Option R :=
  match g with
  | 46 => (match xs with
    | [.str a0] => c_letter_pieces_0 a0 (fun r0 => κ [.fr 80 r0 true])
    | _ => none)
  | 47 => (match xs with
    | [.ro 80 a0 false, .int .i64 a1] => c_letter_part_0 a0 a1 (fun r0 => κ [.int .i64 r0])
    | _ => none)
  | 48 => (match xs with
    | [.str a0] => c_letter_some_0 a0 (fun r0 r1 => κ [.agg [.bool r0, .str r1]])
    | _ => none)
  | 49 => (match xs with
    | [.ro 80 a0 false, .bool a1] => c_letter_text_0 a0 a1 (fun r0 => κ [.str r0])
    | _ => none)
  | 50 => (match xs with
    | [.ro 80 a0 false] => c_letter_held_0 a0 (fun r0 => κ [.bool r0])
    | _ => none)
  | 51 => (match xs with
    | [.ro 80 a0 false] => c_letter_address_0 a0 (fun r0 r1 r2 r3 r4 r5 r6 r7 => κ [.agg [.bool r0, .str r1, .bool r2, .str r3, .bool r4, .str r5, .bool r6, .str r7]])
    | _ => none)
  | _ => none
def letter_Addresses_0.h (n : Nat) : Option (List (Nat × List (Nat × Nat))) :=
  match n with
  | 5 => some [(3, [(0, 48)]), (4, [(0, 0)]), (5, [(0, 0)]), (6, [(0, 0)])]
  | 13 => some [(3, [(0, 0)]), (4, [(0, 0)]), (5, [(0, 0)]), (7, [(0, 0)]), (8, [(0, 0)])]
  | _ => none
def letter_Addresses_0.C (R : Type) (c_letter_pieces_0 : ByteArray → (List AV → Option R) → Option R) (c_letter_part_0 : List AV → Int → (Int → Option R) → Option R) (c_letter_text_0 : List AV → Bool → (ByteArray → Option R) → Option R) (c_letter_some_0 : ByteArray → (Bool → ByteArray → Option R) → Option R) (c_letter_held_0 : List AV → (Bool → Option R) → Option R) (c_letter_address_0 : List AV → (Bool → ByteArray → Bool → ByteArray → Bool → ByteArray → Bool → ByteArray → Option R) → Option R) : Cfg R := ⟨tabTy tyL, letter_Addresses_0.Γ c_letter_pieces_0 c_letter_part_0 c_letter_text_0 c_letter_some_0 c_letter_held_0 c_letter_address_0, fun _ => false, letter_Addresses_0.h⟩
def letter_Addresses_0.s5 (x0 : Bool) (x1 : Int) (x2 : List AV) (x3 : List AV) : St := ⟨mkS 75 [(3, .own 256), (4, .own 320), (5, .bool x0), (6, .int .i64 x1)], [(256, .row 46 x2 true), (320, .row 80 x3 true)], top⟩
def letter_Addresses_0.s13 (x0 : Bool) (x1 : Int) (x2 : ByteArray) (x3 : List AV) (x4 : List AV) : St := ⟨mkS 75 [(3, .own 256), (4, .own 320), (5, .bool x0), (7, .int .i64 x1), (8, .str x2)], [(256, .row 46 x3 true), (320, .row 80 x4 true)], top⟩
theorem letter_Addresses_0.c5 (R : Type) (c_letter_pieces_0 : ByteArray → (List AV → Option R) → Option R) (c_letter_part_0 : List AV → Int → (Int → Option R) → Option R) (c_letter_text_0 : List AV → Bool → (ByteArray → Option R) → Option R) (c_letter_some_0 : ByteArray → (Bool → ByteArray → Option R) → Option R) (c_letter_held_0 : List AV → (Bool → Option R) → Option R) (c_letter_address_0 : List AV → (Bool → ByteArray → Bool → ByteArray → Bool → ByteArray → Bool → ByteArray → Option R) → Option R) (J : List Item → St → Option R) (κ : List SV → Option R) (x0 : Bool) (x1 : Int) (x2 : List AV) (x3 : List AV) :
    start (letter_Addresses_0.C R c_letter_pieces_0 c_letter_part_0 c_letter_text_0 c_letter_some_0 c_letter_held_0 c_letter_address_0) J (retK (letter_Addresses_0.C R c_letter_pieces_0 c_letter_part_0 c_letter_text_0 c_letter_some_0 c_letter_held_0 c_letter_address_0) Tryd.f24.results.toList (List.range 0) κ) 10000 (placeOf Tryd.f24 5) (letter_Addresses_0.s5 x0 x1 x2 x3) = letter_Addresses_0.t5 c_letter_pieces_0 c_letter_part_0 c_letter_text_0 c_letter_some_0 c_letter_held_0 c_letter_address_0 x0 x1 x2 x3 (fun y0 y1 y2 y3 => J (placeOf Tryd.f24 5) (letter_Addresses_0.s5 y0 y1 y2 y3)) (fun y0 y1 y2 y3 y4 => J (placeOf Tryd.f24 13) (letter_Addresses_0.s13 y0 y1 y2 y3 y4)) (fun r0 => κ [.fr 46 r0 true]) := by kernel_rfl
theorem letter_Addresses_0.c13 (R : Type) (c_letter_pieces_0 : ByteArray → (List AV → Option R) → Option R) (c_letter_part_0 : List AV → Int → (Int → Option R) → Option R) (c_letter_text_0 : List AV → Bool → (ByteArray → Option R) → Option R) (c_letter_some_0 : ByteArray → (Bool → ByteArray → Option R) → Option R) (c_letter_held_0 : List AV → (Bool → Option R) → Option R) (c_letter_address_0 : List AV → (Bool → ByteArray → Bool → ByteArray → Bool → ByteArray → Bool → ByteArray → Option R) → Option R) (J : List Item → St → Option R) (κ : List SV → Option R) (x0 : Bool) (x1 : Int) (x2 : ByteArray) (x3 : List AV) (x4 : List AV) :
    start (letter_Addresses_0.C R c_letter_pieces_0 c_letter_part_0 c_letter_text_0 c_letter_some_0 c_letter_held_0 c_letter_address_0) J (retK (letter_Addresses_0.C R c_letter_pieces_0 c_letter_part_0 c_letter_text_0 c_letter_some_0 c_letter_held_0 c_letter_address_0) Tryd.f24.results.toList (List.range 0) κ) 10000 (placeOf Tryd.f24 13) (letter_Addresses_0.s13 x0 x1 x2 x3 x4) = letter_Addresses_0.t13 c_letter_pieces_0 c_letter_part_0 c_letter_text_0 c_letter_some_0 c_letter_held_0 c_letter_address_0 x0 x1 x2 x3 x4 (fun y0 y1 y2 y3 => J (placeOf Tryd.f24 5) (letter_Addresses_0.s5 y0 y1 y2 y3)) (fun y0 y1 y2 y3 y4 => J (placeOf Tryd.f24 13) (letter_Addresses_0.s13 y0 y1 y2 y3 y4)) (fun r0 => κ [.fr 46 r0 true]) := by kernel_rfl
theorem letter_Addresses_0.c (R : Type) (c_letter_pieces_0 : ByteArray → (List AV → Option R) → Option R) (c_letter_part_0 : List AV → Int → (Int → Option R) → Option R) (c_letter_text_0 : List AV → Bool → (ByteArray → Option R) → Option R) (c_letter_some_0 : ByteArray → (Bool → ByteArray → Option R) → Option R) (c_letter_held_0 : List AV → (Bool → Option R) → Option R) (c_letter_address_0 : List AV → (Bool → ByteArray → Bool → ByteArray → Bool → ByteArray → Bool → ByteArray → Option R) → Option R) (κ : List SV → Option R) (k : Nat) (a0 : ByteArray) :
    runF (letter_Addresses_0.C R c_letter_pieces_0 c_letter_part_0 c_letter_text_0 c_letter_some_0 c_letter_held_0 c_letter_address_0) Tryd.f24 10000 k [.str a0] κ = letter_Addresses_0.e c_letter_pieces_0 c_letter_part_0 c_letter_text_0 c_letter_some_0 c_letter_held_0 c_letter_address_0 a0 (fun y0 y1 y2 y3 => goto (letter_Addresses_0.C R c_letter_pieces_0 c_letter_part_0 c_letter_text_0 c_letter_some_0 c_letter_held_0 c_letter_address_0) (retK (letter_Addresses_0.C R c_letter_pieces_0 c_letter_part_0 c_letter_text_0 c_letter_some_0 c_letter_held_0 c_letter_address_0) Tryd.f24.results.toList (List.range 0) κ) 10000 k (placeOf Tryd.f24 5) (letter_Addresses_0.s5 y0 y1 y2 y3)) (fun y0 y1 y2 y3 y4 => goto (letter_Addresses_0.C R c_letter_pieces_0 c_letter_part_0 c_letter_text_0 c_letter_some_0 c_letter_held_0 c_letter_address_0) (retK (letter_Addresses_0.C R c_letter_pieces_0 c_letter_part_0 c_letter_text_0 c_letter_some_0 c_letter_held_0 c_letter_address_0) Tryd.f24.results.toList (List.range 0) κ) 10000 k (placeOf Tryd.f24 13) (letter_Addresses_0.s13 y0 y1 y2 y3 y4)) (fun r0 => κ [.fr 46 r0 true]) := by kernel_rfl
theorem letter_Addresses_0.gM5 (R : Type) (c_letter_pieces_0 : ByteArray → (List AV → Option R) → Option R) (c_letter_part_0 : List AV → Int → (Int → Option R) → Option R) (c_letter_text_0 : List AV → Bool → (ByteArray → Option R) → Option R) (c_letter_some_0 : ByteArray → (Bool → ByteArray → Option R) → Option R) (c_letter_held_0 : List AV → (Bool → Option R) → Option R) (c_letter_address_0 : List AV → (Bool → ByteArray → Bool → ByteArray → Bool → ByteArray → Bool → ByteArray → Option R) → Option R) (κ : List SV → Option R) : ∀ (f : Nat), (∀ (x0 : Bool) (x1 : Int) (x2 : List AV) (x3 : List AV), goto (letter_Addresses_0.C R c_letter_pieces_0 c_letter_part_0 c_letter_text_0 c_letter_some_0 c_letter_held_0 c_letter_address_0) (retK (letter_Addresses_0.C R c_letter_pieces_0 c_letter_part_0 c_letter_text_0 c_letter_some_0 c_letter_held_0 c_letter_address_0) Tryd.f24.results.toList (List.range 0) κ) 10000 f (placeOf Tryd.f24 5) (letter_Addresses_0.s5 x0 x1 x2 x3) = letter_Addresses_0.L5 c_letter_pieces_0 c_letter_part_0 c_letter_text_0 c_letter_some_0 c_letter_held_0 c_letter_address_0 (fun r0 => κ [.fr 46 r0 true]) f x0 x1 x2 x3) ∧
    (∀ (x0 : Bool) (x1 : Int) (x2 : ByteArray) (x3 : List AV) (x4 : List AV), goto (letter_Addresses_0.C R c_letter_pieces_0 c_letter_part_0 c_letter_text_0 c_letter_some_0 c_letter_held_0 c_letter_address_0) (retK (letter_Addresses_0.C R c_letter_pieces_0 c_letter_part_0 c_letter_text_0 c_letter_some_0 c_letter_held_0 c_letter_address_0) Tryd.f24.results.toList (List.range 0) κ) 10000 f (placeOf Tryd.f24 13) (letter_Addresses_0.s13 x0 x1 x2 x3 x4) = letter_Addresses_0.L13 c_letter_pieces_0 c_letter_part_0 c_letter_text_0 c_letter_some_0 c_letter_held_0 c_letter_address_0 (fun r0 => κ [.fr 46 r0 true]) f x0 x1 x2 x3 x4)
  | 0 => ⟨fun _ _ _ _ => rfl, fun _ _ _ _ _ => rfl⟩
  | f + 1 => by
    obtain ⟨ih0, ih1⟩ := letter_Addresses_0.gM5 R c_letter_pieces_0 c_letter_part_0 c_letter_text_0 c_letter_some_0 c_letter_held_0 c_letter_address_0 κ f
    refine ⟨?_, ?_⟩
    · intro x0 x1 x2 x3
      show start (letter_Addresses_0.C R c_letter_pieces_0 c_letter_part_0 c_letter_text_0 c_letter_some_0 c_letter_held_0 c_letter_address_0) (goto (letter_Addresses_0.C R c_letter_pieces_0 c_letter_part_0 c_letter_text_0 c_letter_some_0 c_letter_held_0 c_letter_address_0) (retK (letter_Addresses_0.C R c_letter_pieces_0 c_letter_part_0 c_letter_text_0 c_letter_some_0 c_letter_held_0 c_letter_address_0) Tryd.f24.results.toList (List.range 0) κ) 10000 f) (retK (letter_Addresses_0.C R c_letter_pieces_0 c_letter_part_0 c_letter_text_0 c_letter_some_0 c_letter_held_0 c_letter_address_0) Tryd.f24.results.toList (List.range 0) κ) 10000 (placeOf Tryd.f24 5) (letter_Addresses_0.s5 x0 x1 x2 x3) = _
      rw [letter_Addresses_0.c5]
      simp only [ih0, ih1]
      rfl
    · intro x0 x1 x2 x3 x4
      show start (letter_Addresses_0.C R c_letter_pieces_0 c_letter_part_0 c_letter_text_0 c_letter_some_0 c_letter_held_0 c_letter_address_0) (goto (letter_Addresses_0.C R c_letter_pieces_0 c_letter_part_0 c_letter_text_0 c_letter_some_0 c_letter_held_0 c_letter_address_0) (retK (letter_Addresses_0.C R c_letter_pieces_0 c_letter_part_0 c_letter_text_0 c_letter_some_0 c_letter_held_0 c_letter_address_0) Tryd.f24.results.toList (List.range 0) κ) 10000 f) (retK (letter_Addresses_0.C R c_letter_pieces_0 c_letter_part_0 c_letter_text_0 c_letter_some_0 c_letter_held_0 c_letter_address_0) Tryd.f24.results.toList (List.range 0) κ) 10000 (placeOf Tryd.f24 13) (letter_Addresses_0.s13 x0 x1 x2 x3 x4) = _
      rw [letter_Addresses_0.c13]
      simp only [ih0, ih1]
      rfl
theorem letter_Addresses_0.g5 (R : Type) (c_letter_pieces_0 : ByteArray → (List AV → Option R) → Option R) (c_letter_part_0 : List AV → Int → (Int → Option R) → Option R) (c_letter_text_0 : List AV → Bool → (ByteArray → Option R) → Option R) (c_letter_some_0 : ByteArray → (Bool → ByteArray → Option R) → Option R) (c_letter_held_0 : List AV → (Bool → Option R) → Option R) (c_letter_address_0 : List AV → (Bool → ByteArray → Bool → ByteArray → Bool → ByteArray → Bool → ByteArray → Option R) → Option R) (κ : List SV → Option R) (f : Nat) (x0 : Bool) (x1 : Int) (x2 : List AV) (x3 : List AV) : goto (letter_Addresses_0.C R c_letter_pieces_0 c_letter_part_0 c_letter_text_0 c_letter_some_0 c_letter_held_0 c_letter_address_0) (retK (letter_Addresses_0.C R c_letter_pieces_0 c_letter_part_0 c_letter_text_0 c_letter_some_0 c_letter_held_0 c_letter_address_0) Tryd.f24.results.toList (List.range 0) κ) 10000 f (placeOf Tryd.f24 5) (letter_Addresses_0.s5 x0 x1 x2 x3) = letter_Addresses_0.L5 c_letter_pieces_0 c_letter_part_0 c_letter_text_0 c_letter_some_0 c_letter_held_0 c_letter_address_0 (fun r0 => κ [.fr 46 r0 true]) f x0 x1 x2 x3 := (letter_Addresses_0.gM5 R c_letter_pieces_0 c_letter_part_0 c_letter_text_0 c_letter_some_0 c_letter_held_0 c_letter_address_0 κ f).1 x0 x1 x2 x3
theorem letter_Addresses_0.g13 (R : Type) (c_letter_pieces_0 : ByteArray → (List AV → Option R) → Option R) (c_letter_part_0 : List AV → Int → (Int → Option R) → Option R) (c_letter_text_0 : List AV → Bool → (ByteArray → Option R) → Option R) (c_letter_some_0 : ByteArray → (Bool → ByteArray → Option R) → Option R) (c_letter_held_0 : List AV → (Bool → Option R) → Option R) (c_letter_address_0 : List AV → (Bool → ByteArray → Bool → ByteArray → Bool → ByteArray → Bool → ByteArray → Option R) → Option R) (κ : List SV → Option R) (f : Nat) (x0 : Bool) (x1 : Int) (x2 : ByteArray) (x3 : List AV) (x4 : List AV) : goto (letter_Addresses_0.C R c_letter_pieces_0 c_letter_part_0 c_letter_text_0 c_letter_some_0 c_letter_held_0 c_letter_address_0) (retK (letter_Addresses_0.C R c_letter_pieces_0 c_letter_part_0 c_letter_text_0 c_letter_some_0 c_letter_held_0 c_letter_address_0) Tryd.f24.results.toList (List.range 0) κ) 10000 f (placeOf Tryd.f24 13) (letter_Addresses_0.s13 x0 x1 x2 x3 x4) = letter_Addresses_0.L13 c_letter_pieces_0 c_letter_part_0 c_letter_text_0 c_letter_some_0 c_letter_held_0 c_letter_address_0 (fun r0 => κ [.fr 46 r0 true]) f x0 x1 x2 x3 x4 := (letter_Addresses_0.gM5 R c_letter_pieces_0 c_letter_part_0 c_letter_text_0 c_letter_some_0 c_letter_held_0 c_letter_address_0 κ f).2 x0 x1 x2 x3 x4
theorem letter_Addresses_0.run (R : Type) (κ : List SV → Option R) (a0 : ByteArray) :
    runF (letter_Addresses_0.C R letter_pieces_0 letter_part_0 letter_text_0 letter_some_0 letter_held_0 letter_address_0) Tryd.f24 10000 fuelK [.str a0] κ = letter_Addresses_0 a0 (fun r0 => κ [.fr 46 r0 true]) := by
  rw [letter_Addresses_0.c]
  simp only [letter_Addresses_0.g5 R letter_pieces_0 letter_part_0 letter_text_0 letter_some_0 letter_held_0 letter_address_0 κ fuelK, letter_Addresses_0.g13 R letter_pieces_0 letter_part_0 letter_text_0 letter_some_0 letter_held_0 letter_address_0 κ fuelK]
  rfl
theorem letter_Addresses_0.Γ_does {R : Type} (tab : Tab) (ht : TabOk tab) (g : Nat) : Does (R := R) Tryd.prog (tabTy tyL) tab g ((letter_Addresses_0.C R letter_pieces_0 letter_part_0 letter_text_0 letter_some_0 letter_held_0 letter_address_0).call g) := by
  refine does_of fun xs κ => ?_
  show DoesAt _ _ _ g xs κ (letter_Addresses_0.Γ letter_pieces_0 letter_part_0 letter_text_0 letter_some_0 letter_held_0 letter_address_0 g xs κ)
  unfold letter_Addresses_0.Γ
  split
  · split
    · exact letter_pieces_0.does tab ht _ κ
    · exact DoesAt.none
  · split
    · exact letter_part_0.does tab ht _ _ κ
    · exact DoesAt.none
  · split
    · exact letter_some_0.does tab ht _ κ
    · exact DoesAt.none
  · split
    · exact letter_text_0.does tab ht _ _ κ
    · exact DoesAt.none
  · split
    · exact letter_held_0.does tab ht _ κ
    · exact DoesAt.none
  · split
    · exact letter_address_0.does tab ht _ κ
    · exact DoesAt.none
  · exact DoesAt.none
theorem letter_Addresses_0.does {R : Type} (tab : Tab) (ht : TabOk tab) (a0 : ByteArray) (κ : List SV → Option R) : DoesAt Tryd.prog (tabTy tyL) tab 24 [.str a0] κ (letter_Addresses_0 a0 (fun r0 => κ [.fr 46 r0 true])) := by
  intro r h w vs Rt Ra bs hpre
  exact runF_sound tyOk (letter_Addresses_0.Γ_does tab ht) (show Tryd.prog.funcs[24]? = some Tryd.f24 by kernel_rfl) (by kernel_rfl) ((letter_Addresses_0.run R κ a0).trans h) hpre
def strings_Contains_0.Γ {R : Type} (c_strings_Index_0 : ByteArray → ByteArray → (Int → Option R) → Option R) (g : Nat) (xs : List SV) (κ : List SV → Option R) : Option R :=
  match g with
  | 31 => (match xs with
    | [.str a0, .str a1] => c_strings_Index_0 a0 a1 (fun r0 => κ [.int .i64 r0])
    | _ => none)
  | _ => none
def strings_Contains_0.h (n : Nat) : Option (List (Nat × List (Nat × Nat))) :=
  match n with
  | _ => none
def strings_Contains_0.C (R : Type) (c_strings_Index_0 : ByteArray → ByteArray → (Int → Option R) → Option R) : Cfg R := ⟨tabTy tyL, strings_Contains_0.Γ c_strings_Index_0, fun _ => false, strings_Contains_0.h⟩
theorem strings_Contains_0.c (R : Type) (c_strings_Index_0 : ByteArray → ByteArray → (Int → Option R) → Option R) (κ : List SV → Option R) (k : Nat) (a0 : ByteArray) (a1 : ByteArray) :
    runF (strings_Contains_0.C R c_strings_Index_0) Tryd.f54 10000 k [.str a0, .str a1] κ = strings_Contains_0.e c_strings_Index_0 a0 a1 (fun r0 => κ [.bool r0]) := by kernel_rfl
theorem strings_Contains_0.run (R : Type) (κ : List SV → Option R) (a0 : ByteArray) (a1 : ByteArray) :
    runF (strings_Contains_0.C R strings_Index_0) Tryd.f54 10000 fuelK [.str a0, .str a1] κ = strings_Contains_0 a0 a1 (fun r0 => κ [.bool r0]) := by
  rw [strings_Contains_0.c]
  rfl
theorem strings_Contains_0.Γ_does {R : Type} (tab : Tab) (ht : TabOk tab) (g : Nat) : Does (R := R) Tryd.prog (tabTy tyL) tab g ((strings_Contains_0.C R strings_Index_0).call g) := by
  refine does_of fun xs κ => ?_
  show DoesAt _ _ _ g xs κ (strings_Contains_0.Γ strings_Index_0 g xs κ)
  unfold strings_Contains_0.Γ
  split
  · split
    · exact strings_Index_0.does tab ht _ _ κ
    · exact DoesAt.none
  · exact DoesAt.none
theorem strings_Contains_0.does {R : Type} (tab : Tab) (ht : TabOk tab) (a0 : ByteArray) (a1 : ByteArray) (κ : List SV → Option R) : DoesAt Tryd.prog (tabTy tyL) tab 54 [.str a0, .str a1] κ (strings_Contains_0 a0 a1 (fun r0 => κ [.bool r0])) := by
  intro r h w vs Rt Ra bs hpre
  exact runF_sound tyOk (strings_Contains_0.Γ_does tab ht) (show Tryd.prog.funcs[54]? = some Tryd.f54 by kernel_rfl) (by kernel_rfl) ((strings_Contains_0.run R κ a0 a1).trans h) hpre
def letter_Ids_0.Γ {R : Type} (c_letter_pieces_0 : ByteArray → (List AV → Option R) → Option R) (c_letter_piece_is_0 : Int → ByteArray → ByteArray → (Bool → Option R) → Option R) (c_letter_find_0 : List AV → Int → ByteArray → (Int → Option R) → Option R) (c_letter_text_0 : List AV → Bool → (ByteArray → Option R) → Option R) (c_strings_Contains_0 : ByteArray → ByteArray → (Bool → Option R) → Option R) (g : Nat) (xs : List SV) (κ : List SV → Option R) : Option R :=
  match g with
  | 46 => (match xs with
    | [.str a0] => c_letter_pieces_0 a0 (fun r0 => κ [.fr 80 r0 true])
    | _ => none)
  | 49 => (match xs with
    | [.ro 80 a0 false, .bool a1] => c_letter_text_0 a0 a1 (fun r0 => κ [.str r0])
    | _ => none)
  | 52 => (match xs with
    | [.agg [.int .i64 a0, .str a1], .str a2] => c_letter_piece_is_0 a0 a1 a2 (fun r0 => κ [.bool r0])
    | _ => none)
  | 53 => (match xs with
    | [.ro 80 a0 false, .int .i64 a1, .str a2] => c_letter_find_0 a0 a1 a2 (fun r0 => κ [.int .i64 r0])
    | _ => none)
  | 54 => (match xs with
    | [.str a0, .str a1] => c_strings_Contains_0 a0 a1 (fun r0 => κ [.bool r0])
    | _ => none)
  | _ => none
def letter_Ids_0.h (n : Nat) : Option (List (Nat × List (Nat × Nat))) :=
  match n with
  | 4 => some [(3, [(0, 11)]), (4, [(0, 0)]), (5, [(0, 0)])]
  | _ => none
def letter_Ids_0.C (R : Type) (c_letter_pieces_0 : ByteArray → (List AV → Option R) → Option R) (c_letter_piece_is_0 : Int → ByteArray → ByteArray → (Bool → Option R) → Option R) (c_letter_find_0 : List AV → Int → ByteArray → (Int → Option R) → Option R) (c_letter_text_0 : List AV → Bool → (ByteArray → Option R) → Option R) (c_strings_Contains_0 : ByteArray → ByteArray → (Bool → Option R) → Option R) : Cfg R := ⟨tabTy tyL, letter_Ids_0.Γ c_letter_pieces_0 c_letter_piece_is_0 c_letter_find_0 c_letter_text_0 c_strings_Contains_0, fun _ => false, letter_Ids_0.h⟩
def letter_Ids_0.s4 (x0 : Int) (x1 : List AV) (x2 : List AV) : St := ⟨mkS 61 [(3, .own 256), (4, .own 320), (5, .int .i64 x0)], [(256, .row 9 x1 true), (320, .row 80 x2 true)], top⟩
theorem letter_Ids_0.c4 (R : Type) (c_letter_pieces_0 : ByteArray → (List AV → Option R) → Option R) (c_letter_piece_is_0 : Int → ByteArray → ByteArray → (Bool → Option R) → Option R) (c_letter_find_0 : List AV → Int → ByteArray → (Int → Option R) → Option R) (c_letter_text_0 : List AV → Bool → (ByteArray → Option R) → Option R) (c_strings_Contains_0 : ByteArray → ByteArray → (Bool → Option R) → Option R) (J : List Item → St → Option R) (κ : List SV → Option R) (x0 : Int) (x1 : List AV) (x2 : List AV) :
    start (letter_Ids_0.C R c_letter_pieces_0 c_letter_piece_is_0 c_letter_find_0 c_letter_text_0 c_strings_Contains_0) J (retK (letter_Ids_0.C R c_letter_pieces_0 c_letter_piece_is_0 c_letter_find_0 c_letter_text_0 c_strings_Contains_0) Tryd.f27.results.toList (List.range 0) κ) 10000 (placeOf Tryd.f27 4) (letter_Ids_0.s4 x0 x1 x2) = letter_Ids_0.t4 c_letter_pieces_0 c_letter_piece_is_0 c_letter_find_0 c_letter_text_0 c_strings_Contains_0 x0 x1 x2 (fun y0 y1 y2 => J (placeOf Tryd.f27 4) (letter_Ids_0.s4 y0 y1 y2)) (fun r0 => κ [.fr 9 r0 true]) := by kernel_rfl
theorem letter_Ids_0.c (R : Type) (c_letter_pieces_0 : ByteArray → (List AV → Option R) → Option R) (c_letter_piece_is_0 : Int → ByteArray → ByteArray → (Bool → Option R) → Option R) (c_letter_find_0 : List AV → Int → ByteArray → (Int → Option R) → Option R) (c_letter_text_0 : List AV → Bool → (ByteArray → Option R) → Option R) (c_strings_Contains_0 : ByteArray → ByteArray → (Bool → Option R) → Option R) (κ : List SV → Option R) (k : Nat) (a0 : ByteArray) :
    runF (letter_Ids_0.C R c_letter_pieces_0 c_letter_piece_is_0 c_letter_find_0 c_letter_text_0 c_strings_Contains_0) Tryd.f27 10000 k [.str a0] κ = letter_Ids_0.e c_letter_pieces_0 c_letter_piece_is_0 c_letter_find_0 c_letter_text_0 c_strings_Contains_0 a0 (fun y0 y1 y2 => goto (letter_Ids_0.C R c_letter_pieces_0 c_letter_piece_is_0 c_letter_find_0 c_letter_text_0 c_strings_Contains_0) (retK (letter_Ids_0.C R c_letter_pieces_0 c_letter_piece_is_0 c_letter_find_0 c_letter_text_0 c_strings_Contains_0) Tryd.f27.results.toList (List.range 0) κ) 10000 k (placeOf Tryd.f27 4) (letter_Ids_0.s4 y0 y1 y2)) (fun r0 => κ [.fr 9 r0 true]) := by kernel_rfl
theorem letter_Ids_0.g4 (R : Type) (c_letter_pieces_0 : ByteArray → (List AV → Option R) → Option R) (c_letter_piece_is_0 : Int → ByteArray → ByteArray → (Bool → Option R) → Option R) (c_letter_find_0 : List AV → Int → ByteArray → (Int → Option R) → Option R) (c_letter_text_0 : List AV → Bool → (ByteArray → Option R) → Option R) (c_strings_Contains_0 : ByteArray → ByteArray → (Bool → Option R) → Option R) (κ : List SV → Option R) : ∀ (f : Nat) (x0 : Int) (x1 : List AV) (x2 : List AV), goto (letter_Ids_0.C R c_letter_pieces_0 c_letter_piece_is_0 c_letter_find_0 c_letter_text_0 c_strings_Contains_0) (retK (letter_Ids_0.C R c_letter_pieces_0 c_letter_piece_is_0 c_letter_find_0 c_letter_text_0 c_strings_Contains_0) Tryd.f27.results.toList (List.range 0) κ) 10000 f (placeOf Tryd.f27 4) (letter_Ids_0.s4 x0 x1 x2) = letter_Ids_0.L4 c_letter_pieces_0 c_letter_piece_is_0 c_letter_find_0 c_letter_text_0 c_strings_Contains_0 (fun r0 => κ [.fr 9 r0 true]) f x0 x1 x2
  | 0, _, _, _ => rfl
  | f + 1, x0, x1, x2 => by
    show start (letter_Ids_0.C R c_letter_pieces_0 c_letter_piece_is_0 c_letter_find_0 c_letter_text_0 c_strings_Contains_0) (goto (letter_Ids_0.C R c_letter_pieces_0 c_letter_piece_is_0 c_letter_find_0 c_letter_text_0 c_strings_Contains_0) (retK (letter_Ids_0.C R c_letter_pieces_0 c_letter_piece_is_0 c_letter_find_0 c_letter_text_0 c_strings_Contains_0) Tryd.f27.results.toList (List.range 0) κ) 10000 f) (retK (letter_Ids_0.C R c_letter_pieces_0 c_letter_piece_is_0 c_letter_find_0 c_letter_text_0 c_strings_Contains_0) Tryd.f27.results.toList (List.range 0) κ) 10000 (placeOf Tryd.f27 4) (letter_Ids_0.s4 x0 x1 x2) = _
    rw [letter_Ids_0.c4]
    simp only [letter_Ids_0.g4 R c_letter_pieces_0 c_letter_piece_is_0 c_letter_find_0 c_letter_text_0 c_strings_Contains_0 κ f]
    rfl
theorem letter_Ids_0.run (R : Type) (κ : List SV → Option R) (a0 : ByteArray) :
    runF (letter_Ids_0.C R letter_pieces_0 letter_piece_is_0 letter_find_0 letter_text_0 strings_Contains_0) Tryd.f27 10000 fuelK [.str a0] κ = letter_Ids_0 a0 (fun r0 => κ [.fr 9 r0 true]) := by
  rw [letter_Ids_0.c]
  simp only [letter_Ids_0.g4 R letter_pieces_0 letter_piece_is_0 letter_find_0 letter_text_0 strings_Contains_0 κ fuelK]
  rfl
theorem letter_Ids_0.Γ_does {R : Type} (tab : Tab) (ht : TabOk tab) (g : Nat) : Does (R := R) Tryd.prog (tabTy tyL) tab g ((letter_Ids_0.C R letter_pieces_0 letter_piece_is_0 letter_find_0 letter_text_0 strings_Contains_0).call g) := by
  refine does_of fun xs κ => ?_
  show DoesAt _ _ _ g xs κ (letter_Ids_0.Γ letter_pieces_0 letter_piece_is_0 letter_find_0 letter_text_0 strings_Contains_0 g xs κ)
  unfold letter_Ids_0.Γ
  split
  · split
    · exact letter_pieces_0.does tab ht _ κ
    · exact DoesAt.none
  · split
    · exact letter_text_0.does tab ht _ _ κ
    · exact DoesAt.none
  · split
    · exact letter_piece_is_0.does tab ht _ _ _ κ
    · exact DoesAt.none
  · split
    · exact letter_find_0.does tab ht _ _ _ κ
    · exact DoesAt.none
  · split
    · exact strings_Contains_0.does tab ht _ _ κ
    · exact DoesAt.none
  · exact DoesAt.none
theorem letter_Ids_0.does {R : Type} (tab : Tab) (ht : TabOk tab) (a0 : ByteArray) (κ : List SV → Option R) : DoesAt Tryd.prog (tabTy tyL) tab 27 [.str a0] κ (letter_Ids_0 a0 (fun r0 => κ [.fr 9 r0 true])) := by
  intro r h w vs Rt Ra bs hpre
  exact runF_sound tyOk (letter_Ids_0.Γ_does tab ht) (show Tryd.prog.funcs[27]? = some Tryd.f27 by kernel_rfl) (by kernel_rfl) ((letter_Ids_0.run R κ a0).trans h) hpre
def octet_Lower_0.Γ {R : Type} (g : Nat) (xs : List SV) (κ : List SV → Option R) : Option R :=
  match g with
  | _ => none
def octet_Lower_0.h (n : Nat) : Option (List (Nat × List (Nat × Nat))) :=
  match n with
  | 3 => some [(3, [(0, 0)]), (8, [(0, 0)]), (9, [(0, 0)]), (10, [(0, 0)])]
  | _ => none
def octet_Lower_0.C (R : Type) : Cfg R := ⟨tabTy tyL, octet_Lower_0.Γ, fun _ => false, octet_Lower_0.h⟩
def octet_Lower_0.s3 (x0 : Int) (x1 : Int) (x2 : List AV) : St := ⟨mkS 30 [(3, .own 256), (8, .own 256), (9, .int .i64 x0), (10, .int .i64 x1)], [(256, .row 5 x2 true)], top⟩
theorem octet_Lower_0.c3 (R : Type) (J : List Item → St → Option R) (κ : List SV → Option R) (x0 : Int) (x1 : Int) (x2 : List AV) :
    start (octet_Lower_0.C R) J (retK (octet_Lower_0.C R) Tryd.f57.results.toList (List.range 0) κ) 10000 (placeOf Tryd.f57 3) (octet_Lower_0.s3 x0 x1 x2) = octet_Lower_0.t3 x0 x1 x2 (fun y0 y1 y2 => J (placeOf Tryd.f57 3) (octet_Lower_0.s3 y0 y1 y2)) (fun r0 => κ [.str r0]) := by kernel_rfl
theorem octet_Lower_0.c (R : Type) (κ : List SV → Option R) (k : Nat) (a0 : ByteArray) :
    runF (octet_Lower_0.C R) Tryd.f57 10000 k [.str a0] κ = octet_Lower_0.e a0 (fun y0 y1 y2 => goto (octet_Lower_0.C R) (retK (octet_Lower_0.C R) Tryd.f57.results.toList (List.range 0) κ) 10000 k (placeOf Tryd.f57 3) (octet_Lower_0.s3 y0 y1 y2)) (fun r0 => κ [.str r0]) := by kernel_rfl
theorem octet_Lower_0.g3 (R : Type) (κ : List SV → Option R) : ∀ (f : Nat) (x0 : Int) (x1 : Int) (x2 : List AV), goto (octet_Lower_0.C R) (retK (octet_Lower_0.C R) Tryd.f57.results.toList (List.range 0) κ) 10000 f (placeOf Tryd.f57 3) (octet_Lower_0.s3 x0 x1 x2) = octet_Lower_0.L3 (fun r0 => κ [.str r0]) f x0 x1 x2
  | 0, _, _, _ => rfl
  | f + 1, x0, x1, x2 => by
    show start (octet_Lower_0.C R) (goto (octet_Lower_0.C R) (retK (octet_Lower_0.C R) Tryd.f57.results.toList (List.range 0) κ) 10000 f) (retK (octet_Lower_0.C R) Tryd.f57.results.toList (List.range 0) κ) 10000 (placeOf Tryd.f57 3) (octet_Lower_0.s3 x0 x1 x2) = _
    rw [octet_Lower_0.c3]
    simp only [octet_Lower_0.g3 R κ f]
    rfl
theorem octet_Lower_0.run (R : Type) (κ : List SV → Option R) (a0 : ByteArray) :
    runF (octet_Lower_0.C R) Tryd.f57 10000 fuelK [.str a0] κ = octet_Lower_0 a0 (fun r0 => κ [.str r0]) := by
  rw [octet_Lower_0.c]
  simp only [octet_Lower_0.g3 R κ fuelK]
  rfl
theorem octet_Lower_0.Γ_does {R : Type} (tab : Tab) (ht : TabOk tab) (g : Nat) : Does (R := R) Tryd.prog (tabTy tyL) tab g ((octet_Lower_0.C R).call g) := by
  refine does_of fun xs κ => ?_
  show DoesAt _ _ _ g xs κ (octet_Lower_0.Γ g xs κ)
  unfold octet_Lower_0.Γ
  split
  · exact DoesAt.none
theorem octet_Lower_0.does {R : Type} (tab : Tab) (ht : TabOk tab) (a0 : ByteArray) (κ : List SV → Option R) : DoesAt Tryd.prog (tabTy tyL) tab 57 [.str a0] κ (octet_Lower_0 a0 (fun r0 => κ [.str r0])) := by
  intro r h w vs Rt Ra bs hpre
  exact runF_sound tyOk (octet_Lower_0.Γ_does tab ht) (show Tryd.prog.funcs[57]? = some Tryd.f57 by kernel_rfl) (by kernel_rfl) ((octet_Lower_0.run R κ a0).trans h) hpre
def octet_worths_0.Γ {R : Type} (g : Nat) (xs : List SV) (κ : List SV → Option R) : Option R :=
  match g with
  | _ => none
def octet_worths_0.h (n : Nat) : Option (List (Nat × List (Nat × Nat))) :=
  match n with
  | 3 => some [(0, [(0, 0)]), (1, [(0, 0)]), (3, [(0, 0)])]
  | _ => none
def octet_worths_0.C (R : Type) : Cfg R := ⟨tabTy tyL, octet_worths_0.Γ, fun _ => false, octet_worths_0.h⟩
def octet_worths_0.s3 (x0 : Int) (x1 : List AV) (x2 : List AV) : St := ⟨mkS 14 [(0, .ap 64 256), (1, .ap 128 256), (3, .int .i64 x0)], [(64, .row 5 x1 true), (128, .row 5 x2 true)], top⟩
theorem octet_worths_0.c3 (R : Type) (J : List Item → St → Option R) (κ : List SV → Option R) (x0 : Int) (x1 : List AV) (x2 : List AV) :
    start (octet_worths_0.C R) J (retK (octet_worths_0.C R) Tryd.f113.results.toList (List.range 0) κ) 10000 (placeOf Tryd.f113 3) (octet_worths_0.s3 x0 x1 x2) = octet_worths_0.t3 x0 x1 x2 (fun y0 y1 y2 => J (placeOf Tryd.f113 3) (octet_worths_0.s3 y0 y1 y2)) (fun r0 => κ [.ar 5 256 r0]) := by kernel_rfl
theorem octet_worths_0.c (R : Type) (κ : List SV → Option R) (k : Nat) :
    runF (octet_worths_0.C R) Tryd.f113 10000 k [] κ = octet_worths_0.e (fun y0 y1 y2 => goto (octet_worths_0.C R) (retK (octet_worths_0.C R) Tryd.f113.results.toList (List.range 0) κ) 10000 k (placeOf Tryd.f113 3) (octet_worths_0.s3 y0 y1 y2)) (fun r0 => κ [.ar 5 256 r0]) := by kernel_rfl
theorem octet_worths_0.g3 (R : Type) (κ : List SV → Option R) : ∀ (f : Nat) (x0 : Int) (x1 : List AV) (x2 : List AV), goto (octet_worths_0.C R) (retK (octet_worths_0.C R) Tryd.f113.results.toList (List.range 0) κ) 10000 f (placeOf Tryd.f113 3) (octet_worths_0.s3 x0 x1 x2) = octet_worths_0.L3 (fun r0 => κ [.ar 5 256 r0]) f x0 x1 x2
  | 0, _, _, _ => rfl
  | f + 1, x0, x1, x2 => by
    show start (octet_worths_0.C R) (goto (octet_worths_0.C R) (retK (octet_worths_0.C R) Tryd.f113.results.toList (List.range 0) κ) 10000 f) (retK (octet_worths_0.C R) Tryd.f113.results.toList (List.range 0) κ) 10000 (placeOf Tryd.f113 3) (octet_worths_0.s3 x0 x1 x2) = _
    rw [octet_worths_0.c3]
    simp only [octet_worths_0.g3 R κ f]
    rfl
theorem octet_worths_0.run (R : Type) (κ : List SV → Option R) :
    runF (octet_worths_0.C R) Tryd.f113 10000 fuelK [] κ = octet_worths_0 (fun r0 => κ [.ar 5 256 r0]) := by
  rw [octet_worths_0.c]
  simp only [octet_worths_0.g3 R κ fuelK]
  rfl
theorem octet_worths_0.Γ_does {R : Type} (tab : Tab) (ht : TabOk tab) (g : Nat) : Does (R := R) Tryd.prog (tabTy tyL) tab g ((octet_worths_0.C R).call g) := by
  refine does_of fun xs κ => ?_
  show DoesAt _ _ _ g xs κ (octet_worths_0.Γ g xs κ)
  unfold octet_worths_0.Γ
  split
  · exact DoesAt.none
theorem octet_worths_0.does {R : Type} (tab : Tab) (ht : TabOk tab) (κ : List SV → Option R) : DoesAt Tryd.prog (tabTy tyL) tab 113 [] κ (octet_worths_0 (fun r0 => κ [.ar 5 256 r0])) := by
  intro r h w vs Rt Ra bs hpre
  exact runF_sound tyOk (octet_worths_0.Γ_does tab ht) (show Tryd.prog.funcs[113]? = some Tryd.f113 by kernel_rfl) (by kernel_rfl) ((octet_worths_0.run R κ).trans h) hpre
def octet_read64_0.Γ {R : Type} (c_octet_worths_0 : (List AV → Option R) → Option R) (g : Nat) (xs : List SV) (κ : List SV → Option R) : Option R :=
  match g with
  | 113 => (match xs with
    | [] => c_octet_worths_0 (fun r0 => κ [.ar 5 256 r0])
    | _ => none)
  | _ => none
def octet_read64_0.h (n : Nat) : Option (List (Nat × List (Nat × Nat))) :=
  match n with
  | 5 => some [(0, [(0, 0)]), (1, [(0, 0)]), (5, [(0, 7)]), (6, [(0, 0)]), (7, [(0, 0)]), (8, [(0, 0)]), (9, [(0, 0)])]
  | _ => none
def octet_read64_0.C (R : Type) (c_octet_worths_0 : (List AV → Option R) → Option R) : Cfg R := ⟨tabTy tyL, octet_read64_0.Γ c_octet_worths_0, fun _ => false, octet_read64_0.h⟩
def octet_read64_0.s5 (x0 : ByteArray) (x1 : Int) (x2 : Int) (x3 : Int) (x4 : Int) (x5 : List AV) (x6 : List AV) : St := ⟨mkS 81 [(0, .str x0), (1, .int .u8 x1), (5, .own 384), (6, .ap 448 256), (7, .int .i64 x2), (8, .int .i64 x3), (9, .int .i64 x4)], [(384, .row 5 x5 true), (448, .row 5 x6 true)], top⟩
theorem octet_read64_0.c5 (R : Type) (c_octet_worths_0 : (List AV → Option R) → Option R) (J : List Item → St → Option R) (κ : List SV → Option R) (x0 : ByteArray) (x1 : Int) (x2 : Int) (x3 : Int) (x4 : Int) (x5 : List AV) (x6 : List AV) :
    start (octet_read64_0.C R c_octet_worths_0) J (retK (octet_read64_0.C R c_octet_worths_0) Tryd.f98.results.toList (List.range 0) κ) 10000 (placeOf Tryd.f98 5) (octet_read64_0.s5 x0 x1 x2 x3 x4 x5 x6) = octet_read64_0.t5 c_octet_worths_0 x0 x1 x2 x3 x4 x5 x6 (fun y0 y1 y2 y3 y4 y5 y6 => J (placeOf Tryd.f98 5) (octet_read64_0.s5 y0 y1 y2 y3 y4 y5 y6)) (fun r0 => κ [.str r0]) := by kernel_rfl
theorem octet_read64_0.c (R : Type) (c_octet_worths_0 : (List AV → Option R) → Option R) (κ : List SV → Option R) (k : Nat) (a0 : ByteArray) (a1 : Int) :
    runF (octet_read64_0.C R c_octet_worths_0) Tryd.f98 10000 k [.str a0, .int .u8 a1] κ = octet_read64_0.e c_octet_worths_0 a0 a1 (fun y0 y1 y2 y3 y4 y5 y6 => goto (octet_read64_0.C R c_octet_worths_0) (retK (octet_read64_0.C R c_octet_worths_0) Tryd.f98.results.toList (List.range 0) κ) 10000 k (placeOf Tryd.f98 5) (octet_read64_0.s5 y0 y1 y2 y3 y4 y5 y6)) (fun r0 => κ [.str r0]) := by kernel_rfl
theorem octet_read64_0.g5 (R : Type) (c_octet_worths_0 : (List AV → Option R) → Option R) (κ : List SV → Option R) : ∀ (f : Nat) (x0 : ByteArray) (x1 : Int) (x2 : Int) (x3 : Int) (x4 : Int) (x5 : List AV) (x6 : List AV), goto (octet_read64_0.C R c_octet_worths_0) (retK (octet_read64_0.C R c_octet_worths_0) Tryd.f98.results.toList (List.range 0) κ) 10000 f (placeOf Tryd.f98 5) (octet_read64_0.s5 x0 x1 x2 x3 x4 x5 x6) = octet_read64_0.L5 c_octet_worths_0 (fun r0 => κ [.str r0]) f x0 x1 x2 x3 x4 x5 x6
  | 0, _, _, _, _, _, _, _ => rfl
  | f + 1, x0, x1, x2, x3, x4, x5, x6 => by
    show start (octet_read64_0.C R c_octet_worths_0) (goto (octet_read64_0.C R c_octet_worths_0) (retK (octet_read64_0.C R c_octet_worths_0) Tryd.f98.results.toList (List.range 0) κ) 10000 f) (retK (octet_read64_0.C R c_octet_worths_0) Tryd.f98.results.toList (List.range 0) κ) 10000 (placeOf Tryd.f98 5) (octet_read64_0.s5 x0 x1 x2 x3 x4 x5 x6) = _
    rw [octet_read64_0.c5]
    simp only [octet_read64_0.g5 R c_octet_worths_0 κ f]
    rfl
theorem octet_read64_0.run (R : Type) (κ : List SV → Option R) (a0 : ByteArray) (a1 : Int) :
    runF (octet_read64_0.C R octet_worths_0) Tryd.f98 10000 fuelK [.str a0, .int .u8 a1] κ = octet_read64_0 a0 a1 (fun r0 => κ [.str r0]) := by
  rw [octet_read64_0.c]
  simp only [octet_read64_0.g5 R octet_worths_0 κ fuelK]
  rfl
theorem octet_read64_0.Γ_does {R : Type} (tab : Tab) (ht : TabOk tab) (g : Nat) : Does (R := R) Tryd.prog (tabTy tyL) tab g ((octet_read64_0.C R octet_worths_0).call g) := by
  refine does_of fun xs κ => ?_
  show DoesAt _ _ _ g xs κ (octet_read64_0.Γ octet_worths_0 g xs κ)
  unfold octet_read64_0.Γ
  split
  · split
    · exact octet_worths_0.does tab ht κ
    · exact DoesAt.none
  · exact DoesAt.none
theorem octet_read64_0.does {R : Type} (tab : Tab) (ht : TabOk tab) (a0 : ByteArray) (a1 : Int) (κ : List SV → Option R) : DoesAt Tryd.prog (tabTy tyL) tab 98 [.str a0, .int .u8 a1] κ (octet_read64_0 a0 a1 (fun r0 => κ [.str r0])) := by
  intro r h w vs Rt Ra bs hpre
  exact runF_sound tyOk (octet_read64_0.Γ_does tab ht) (show Tryd.prog.funcs[98]? = some Tryd.f98 by kernel_rfl) (by kernel_rfl) ((octet_read64_0.run R κ a0 a1).trans h) hpre
def octet_Loose64_0.Γ {R : Type} (c_octet_read64_0 : ByteArray → Int → (ByteArray → Option R) → Option R) (g : Nat) (xs : List SV) (κ : List SV → Option R) : Option R :=
  match g with
  | 98 => (match xs with
    | [.str a0, .int .u8 a1] => c_octet_read64_0 a0 a1 (fun r0 => κ [.str r0])
    | _ => none)
  | _ => none
def octet_Loose64_0.h (n : Nat) : Option (List (Nat × List (Nat × Nat))) :=
  match n with
  | _ => none
def octet_Loose64_0.C (R : Type) (c_octet_read64_0 : ByteArray → Int → (ByteArray → Option R) → Option R) : Cfg R := ⟨tabTy tyL, octet_Loose64_0.Γ c_octet_read64_0, fun _ => false, octet_Loose64_0.h⟩
theorem octet_Loose64_0.c (R : Type) (c_octet_read64_0 : ByteArray → Int → (ByteArray → Option R) → Option R) (κ : List SV → Option R) (k : Nat) (a0 : ByteArray) :
    runF (octet_Loose64_0.C R c_octet_read64_0) Tryd.f71 10000 k [.str a0] κ = octet_Loose64_0.e c_octet_read64_0 a0 (fun r0 => κ [.str r0]) := by kernel_rfl
theorem octet_Loose64_0.run (R : Type) (κ : List SV → Option R) (a0 : ByteArray) :
    runF (octet_Loose64_0.C R octet_read64_0) Tryd.f71 10000 fuelK [.str a0] κ = octet_Loose64_0 a0 (fun r0 => κ [.str r0]) := by
  rw [octet_Loose64_0.c]
  rfl
theorem octet_Loose64_0.Γ_does {R : Type} (tab : Tab) (ht : TabOk tab) (g : Nat) : Does (R := R) Tryd.prog (tabTy tyL) tab g ((octet_Loose64_0.C R octet_read64_0).call g) := by
  refine does_of fun xs κ => ?_
  show DoesAt _ _ _ g xs κ (octet_Loose64_0.Γ octet_read64_0 g xs κ)
  unfold octet_Loose64_0.Γ
  split
  · split
    · exact octet_read64_0.does tab ht _ _ κ
    · exact DoesAt.none
  · exact DoesAt.none
theorem octet_Loose64_0.does {R : Type} (tab : Tab) (ht : TabOk tab) (a0 : ByteArray) (κ : List SV → Option R) : DoesAt Tryd.prog (tabTy tyL) tab 71 [.str a0] κ (octet_Loose64_0 a0 (fun r0 => κ [.str r0])) := by
  intro r h w vs Rt Ra bs hpre
  exact runF_sound tyOk (octet_Loose64_0.Γ_does tab ht) (show Tryd.prog.funcs[71]? = some Tryd.f71 by kernel_rfl) (by kernel_rfl) ((octet_Loose64_0.run R κ a0).trans h) hpre
end Go.Proofs.Ab
