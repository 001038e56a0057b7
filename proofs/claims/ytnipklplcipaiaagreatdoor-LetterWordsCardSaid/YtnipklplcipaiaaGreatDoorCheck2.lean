/- Each plain function is what a call of its Go function does, checked by the kernel (no condition but what its checks ask). -/
import Derived.Test.YtnipklplcipaiaaGreatDoorSeat
import Derived.Test.YtnipklplcipaiaaGreatDoorText
import Derived.Test.YtnipklplcipaiaaGreatDoorCheck1
/- Each typed text is what its function does: checked by the kernel. -/
namespace Go.Proofs.Ab
set_option linter.unusedVariables false
set_option maxRecDepth 4000
open Go Go.Proofs
set_option maxRecDepth 100000
def letter_Fields_0.Γ {R : Type} (c1 : letter_rows_0.F R) (c2 : strings_Trim_0.F R) (c3 : strings_TrimSuffix_0.F R) (c4 : strings_IndexByte_0.F R) (g : Nat) (xs : List SV) (κ : List SV → Option R) : Option R :=
  match g with
  | 38 => (match xs with
    | [.str a0] => c1 a0 (fun r0 => κ [.fr 65 r0 true])
    | _ => none)
  | 39 => (match xs with
    | [.str a0, .str a1] => c3 a0 a1 (fun r0 => κ [.str r0])
    | _ => none)
  | 40 => (match xs with
    | [.str a0, .int .u8 a1] => c4 a0 a1 (fun r0 => κ [.int .i64 r0])
    | _ => none)
  | 41 => (match xs with
    | [.str a0, .str a1] => c2 a0 a1 (fun r0 => κ [.str r0])
    | _ => none)
  | _ => none
def letter_Fields_0.h (n : Nat) : Option (List (Nat × List (Nat × Nat))) :=
  match n with
  | 4 => some [(3, [(0, 44)]), (4, [(0, 11)]), (10, [(0, 0)]), (11, [(0, 0)]), (12, [(0, 0)])]
  | 8 => some [(3, [(0, 0)]), (4, [(0, 0)]), (6, [(0, 0)]), (10, [(0, 0)]), (11, [(0, 0)]), (12, [(0, 0)])]
  | 13 => some [(3, [(0, 44)]), (4, [(0, 11)]), (6, [(0, 0)]), (7, [(0, 0)]), (10, [(0, 0)]), (11, [(0, 0)]), (12, [(0, 0)])]
  | 15 => some [(3, [(0, 44)]), (4, [(0, 11)]), (10, [(0, 0)]), (11, [(0, 0)]), (12, [(0, 0)])]
  | 17 => some [(3, [(0, 0)]), (4, [(0, 0)]), (72, [(0, 0)]), (73, [(0, 0)])]
  | _ => none
def letter_Fields_0.C (R : Type) (c1 : letter_rows_0.F R) (c2 : strings_Trim_0.F R) (c3 : strings_TrimSuffix_0.F R) (c4 : strings_IndexByte_0.F R) : Cfg R := ⟨tabTy tyL, letter_Fields_0.Γ c1 c2 c3 c4, fun _ => false, letter_Fields_0.h⟩
def letter_Fields_0.s4 (x0 : Int) (x1 : Int) (x2 : List AV) (x3 : List AV) (x4 : List AV) : St := ⟨mkS 87 [(3, .own 256), (4, .own 320), (10, .own 704), (11, .int .i64 x0), (12, .int .i64 x1)], [(256, .row 42 x2 true), (320, .row 9 x3 true), (704, .row 65 x4 true)], top⟩
def letter_Fields_0.s8 (x0 : Int) (x1 : Int) (x2 : List AV) (x3 : List AV) (x4 : ByteArray) (x5 : ByteArray) (x6 : Bool) (x7 : Bool) (x8 : List AV) : St := ⟨mkS 87 [(3, .own 256), (4, .own 320), (6, .ptr 511 0), (10, .own 704), (11, .int .i64 x0), (12, .int .i64 x1)], [(256, .row 42 x2 true), (320, .row 9 x3 true), (511, .var 65 [.str x4, .str x5, .bool x6, .bool x7]), (704, .row 65 x8 true)], top⟩
def letter_Fields_0.s13 (x0 : ByteArray) (x1 : Int) (x2 : Int) (x3 : List AV) (x4 : List AV) (x5 : ByteArray) (x6 : ByteArray) (x7 : Bool) (x8 : Bool) (x9 : List AV) : St := ⟨mkS 87 [(3, .own 256), (4, .own 320), (6, .ptr 511 0), (7, .str x0), (10, .own 704), (11, .int .i64 x1), (12, .int .i64 x2)], [(256, .row 42 x3 true), (320, .row 9 x4 true), (511, .var 65 [.str x5, .str x6, .bool x7, .bool x8]), (704, .row 65 x9 true)], top⟩
def letter_Fields_0.s15 (x0 : Int) (x1 : Int) (x2 : List AV) (x3 : List AV) (x4 : List AV) : St := ⟨mkS 87 [(3, .own 256), (4, .own 320), (10, .own 704), (11, .int .i64 x0), (12, .int .i64 x1)], [(256, .row 42 x2 true), (320, .row 9 x3 true), (704, .row 65 x4 true)], top⟩
def letter_Fields_0.s17 (x0 : Int) (x1 : Int) (x2 : List AV) (x3 : List AV) : St := ⟨mkS 87 [(3, .own 256), (4, .own 320), (72, .int .i64 x0), (73, .int .i64 x1)], [(256, .row 42 x2 true), (320, .row 9 x3 true)], top⟩
theorem letter_Fields_0.c4 (R : Type) (c1 : letter_rows_0.F R) (c2 : strings_Trim_0.F R) (c3 : strings_TrimSuffix_0.F R) (c4 : strings_IndexByte_0.F R) (J : List Item → St → Option R) (κ : List SV → Option R) (x0 : Int) (x1 : Int) (x2 : List AV) (x3 : List AV) (x4 : List AV) :
    start (letter_Fields_0.C R c1 c2 c3 c4) J (retK (letter_Fields_0.C R c1 c2 c3 c4) Tryz.f11.results.toList (List.range 0) κ) 10000 (placeOf Tryz.f11 4) (letter_Fields_0.s4 x0 x1 x2 x3 x4) = letter_Fields_0.t4 c1 c2 c3 c4 x0 x1 x2 x3 x4 (fun y0 y1 y2 y3 y4 => J (placeOf Tryz.f11 4) (letter_Fields_0.s4 y0 y1 y2 y3 y4)) (fun y0 y1 y2 y3 y4 y5 y6 y7 y8 => J (placeOf Tryz.f11 8) (letter_Fields_0.s8 y0 y1 y2 y3 y4 y5 y6 y7 y8)) (fun y0 y1 y2 y3 y4 y5 y6 y7 y8 y9 => J (placeOf Tryz.f11 13) (letter_Fields_0.s13 y0 y1 y2 y3 y4 y5 y6 y7 y8 y9)) (fun y0 y1 y2 y3 y4 => J (placeOf Tryz.f11 15) (letter_Fields_0.s15 y0 y1 y2 y3 y4)) (fun y0 y1 y2 y3 => J (placeOf Tryz.f11 17) (letter_Fields_0.s17 y0 y1 y2 y3)) (fun r0 => κ [.fr 42 r0 true]) := by kernel_rfl
theorem letter_Fields_0.c8 (R : Type) (c1 : letter_rows_0.F R) (c2 : strings_Trim_0.F R) (c3 : strings_TrimSuffix_0.F R) (c4 : strings_IndexByte_0.F R) (J : List Item → St → Option R) (κ : List SV → Option R) (x0 : Int) (x1 : Int) (x2 : List AV) (x3 : List AV) (x4 : ByteArray) (x5 : ByteArray) (x6 : Bool) (x7 : Bool) (x8 : List AV) :
    start (letter_Fields_0.C R c1 c2 c3 c4) J (retK (letter_Fields_0.C R c1 c2 c3 c4) Tryz.f11.results.toList (List.range 0) κ) 10000 (placeOf Tryz.f11 8) (letter_Fields_0.s8 x0 x1 x2 x3 x4 x5 x6 x7 x8) = letter_Fields_0.t8 c1 c2 c3 c4 x0 x1 x2 x3 x4 x5 x6 x7 x8 (fun y0 y1 y2 y3 y4 => J (placeOf Tryz.f11 4) (letter_Fields_0.s4 y0 y1 y2 y3 y4)) (fun y0 y1 y2 y3 y4 y5 y6 y7 y8 => J (placeOf Tryz.f11 8) (letter_Fields_0.s8 y0 y1 y2 y3 y4 y5 y6 y7 y8)) (fun y0 y1 y2 y3 y4 y5 y6 y7 y8 y9 => J (placeOf Tryz.f11 13) (letter_Fields_0.s13 y0 y1 y2 y3 y4 y5 y6 y7 y8 y9)) (fun y0 y1 y2 y3 y4 => J (placeOf Tryz.f11 15) (letter_Fields_0.s15 y0 y1 y2 y3 y4)) (fun y0 y1 y2 y3 => J (placeOf Tryz.f11 17) (letter_Fields_0.s17 y0 y1 y2 y3)) (fun r0 => κ [.fr 42 r0 true]) := by kernel_rfl
theorem letter_Fields_0.c13 (R : Type) (c1 : letter_rows_0.F R) (c2 : strings_Trim_0.F R) (c3 : strings_TrimSuffix_0.F R) (c4 : strings_IndexByte_0.F R) (J : List Item → St → Option R) (κ : List SV → Option R) (x0 : ByteArray) (x1 : Int) (x2 : Int) (x3 : List AV) (x4 : List AV) (x5 : ByteArray) (x6 : ByteArray) (x7 : Bool) (x8 : Bool) (x9 : List AV) :
    start (letter_Fields_0.C R c1 c2 c3 c4) J (retK (letter_Fields_0.C R c1 c2 c3 c4) Tryz.f11.results.toList (List.range 0) κ) 10000 (placeOf Tryz.f11 13) (letter_Fields_0.s13 x0 x1 x2 x3 x4 x5 x6 x7 x8 x9) = letter_Fields_0.t13 c1 c2 c3 c4 x0 x1 x2 x3 x4 x5 x6 x7 x8 x9 (fun y0 y1 y2 y3 y4 => J (placeOf Tryz.f11 4) (letter_Fields_0.s4 y0 y1 y2 y3 y4)) (fun y0 y1 y2 y3 y4 y5 y6 y7 y8 => J (placeOf Tryz.f11 8) (letter_Fields_0.s8 y0 y1 y2 y3 y4 y5 y6 y7 y8)) (fun y0 y1 y2 y3 y4 y5 y6 y7 y8 y9 => J (placeOf Tryz.f11 13) (letter_Fields_0.s13 y0 y1 y2 y3 y4 y5 y6 y7 y8 y9)) (fun y0 y1 y2 y3 y4 => J (placeOf Tryz.f11 15) (letter_Fields_0.s15 y0 y1 y2 y3 y4)) (fun y0 y1 y2 y3 => J (placeOf Tryz.f11 17) (letter_Fields_0.s17 y0 y1 y2 y3)) (fun r0 => κ [.fr 42 r0 true]) := by kernel_rfl
theorem letter_Fields_0.c15 (R : Type) (c1 : letter_rows_0.F R) (c2 : strings_Trim_0.F R) (c3 : strings_TrimSuffix_0.F R) (c4 : strings_IndexByte_0.F R) (J : List Item → St → Option R) (κ : List SV → Option R) (x0 : Int) (x1 : Int) (x2 : List AV) (x3 : List AV) (x4 : List AV) :
    start (letter_Fields_0.C R c1 c2 c3 c4) J (retK (letter_Fields_0.C R c1 c2 c3 c4) Tryz.f11.results.toList (List.range 0) κ) 10000 (placeOf Tryz.f11 15) (letter_Fields_0.s15 x0 x1 x2 x3 x4) = letter_Fields_0.t15 c1 c2 c3 c4 x0 x1 x2 x3 x4 (fun y0 y1 y2 y3 y4 => J (placeOf Tryz.f11 4) (letter_Fields_0.s4 y0 y1 y2 y3 y4)) (fun y0 y1 y2 y3 y4 y5 y6 y7 y8 => J (placeOf Tryz.f11 8) (letter_Fields_0.s8 y0 y1 y2 y3 y4 y5 y6 y7 y8)) (fun y0 y1 y2 y3 y4 y5 y6 y7 y8 y9 => J (placeOf Tryz.f11 13) (letter_Fields_0.s13 y0 y1 y2 y3 y4 y5 y6 y7 y8 y9)) (fun y0 y1 y2 y3 y4 => J (placeOf Tryz.f11 15) (letter_Fields_0.s15 y0 y1 y2 y3 y4)) (fun y0 y1 y2 y3 => J (placeOf Tryz.f11 17) (letter_Fields_0.s17 y0 y1 y2 y3)) (fun r0 => κ [.fr 42 r0 true]) := by kernel_rfl
theorem letter_Fields_0.c17 (R : Type) (c1 : letter_rows_0.F R) (c2 : strings_Trim_0.F R) (c3 : strings_TrimSuffix_0.F R) (c4 : strings_IndexByte_0.F R) (J : List Item → St → Option R) (κ : List SV → Option R) (x0 : Int) (x1 : Int) (x2 : List AV) (x3 : List AV) :
    start (letter_Fields_0.C R c1 c2 c3 c4) J (retK (letter_Fields_0.C R c1 c2 c3 c4) Tryz.f11.results.toList (List.range 0) κ) 10000 (placeOf Tryz.f11 17) (letter_Fields_0.s17 x0 x1 x2 x3) = letter_Fields_0.t17 c1 c2 c3 c4 x0 x1 x2 x3 (fun y0 y1 y2 y3 y4 => J (placeOf Tryz.f11 4) (letter_Fields_0.s4 y0 y1 y2 y3 y4)) (fun y0 y1 y2 y3 y4 y5 y6 y7 y8 => J (placeOf Tryz.f11 8) (letter_Fields_0.s8 y0 y1 y2 y3 y4 y5 y6 y7 y8)) (fun y0 y1 y2 y3 y4 y5 y6 y7 y8 y9 => J (placeOf Tryz.f11 13) (letter_Fields_0.s13 y0 y1 y2 y3 y4 y5 y6 y7 y8 y9)) (fun y0 y1 y2 y3 y4 => J (placeOf Tryz.f11 15) (letter_Fields_0.s15 y0 y1 y2 y3 y4)) (fun y0 y1 y2 y3 => J (placeOf Tryz.f11 17) (letter_Fields_0.s17 y0 y1 y2 y3)) (fun r0 => κ [.fr 42 r0 true]) := by kernel_rfl
theorem letter_Fields_0.c (R : Type) (c1 : letter_rows_0.F R) (c2 : strings_Trim_0.F R) (c3 : strings_TrimSuffix_0.F R) (c4 : strings_IndexByte_0.F R) (κ : List SV → Option R) (k : Nat) (a0 : ByteArray) :
    runF (letter_Fields_0.C R c1 c2 c3 c4) Tryz.f11 10000 k [.str a0] κ = letter_Fields_0.e c1 c2 c3 c4 a0 (fun y0 y1 y2 y3 y4 => goto (letter_Fields_0.C R c1 c2 c3 c4) (retK (letter_Fields_0.C R c1 c2 c3 c4) Tryz.f11.results.toList (List.range 0) κ) 10000 k (placeOf Tryz.f11 4) (letter_Fields_0.s4 y0 y1 y2 y3 y4)) (fun y0 y1 y2 y3 y4 y5 y6 y7 y8 => goto (letter_Fields_0.C R c1 c2 c3 c4) (retK (letter_Fields_0.C R c1 c2 c3 c4) Tryz.f11.results.toList (List.range 0) κ) 10000 k (placeOf Tryz.f11 8) (letter_Fields_0.s8 y0 y1 y2 y3 y4 y5 y6 y7 y8)) (fun y0 y1 y2 y3 y4 y5 y6 y7 y8 y9 => goto (letter_Fields_0.C R c1 c2 c3 c4) (retK (letter_Fields_0.C R c1 c2 c3 c4) Tryz.f11.results.toList (List.range 0) κ) 10000 k (placeOf Tryz.f11 13) (letter_Fields_0.s13 y0 y1 y2 y3 y4 y5 y6 y7 y8 y9)) (fun y0 y1 y2 y3 y4 => goto (letter_Fields_0.C R c1 c2 c3 c4) (retK (letter_Fields_0.C R c1 c2 c3 c4) Tryz.f11.results.toList (List.range 0) κ) 10000 k (placeOf Tryz.f11 15) (letter_Fields_0.s15 y0 y1 y2 y3 y4)) (fun y0 y1 y2 y3 => goto (letter_Fields_0.C R c1 c2 c3 c4) (retK (letter_Fields_0.C R c1 c2 c3 c4) Tryz.f11.results.toList (List.range 0) κ) 10000 k (placeOf Tryz.f11 17) (letter_Fields_0.s17 y0 y1 y2 y3)) (fun r0 => κ [.fr 42 r0 true]) := by kernel_rfl
theorem letter_Fields_0.g17 (R : Type) (c1 : letter_rows_0.F R) (c2 : strings_Trim_0.F R) (c3 : strings_TrimSuffix_0.F R) (c4 : strings_IndexByte_0.F R) (κ : List SV → Option R) : ∀ (f : Nat) (x0 : Int) (x1 : Int) (x2 : List AV) (x3 : List AV), goto (letter_Fields_0.C R c1 c2 c3 c4) (retK (letter_Fields_0.C R c1 c2 c3 c4) Tryz.f11.results.toList (List.range 0) κ) 10000 f (placeOf Tryz.f11 17) (letter_Fields_0.s17 x0 x1 x2 x3) = letter_Fields_0.L17 c1 c2 c3 c4 (fun r0 => κ [.fr 42 r0 true]) f x0 x1 x2 x3
  | 0, _, _, _, _ => rfl
  | f + 1, x0, x1, x2, x3 => by
    show start (letter_Fields_0.C R c1 c2 c3 c4) (goto (letter_Fields_0.C R c1 c2 c3 c4) (retK (letter_Fields_0.C R c1 c2 c3 c4) Tryz.f11.results.toList (List.range 0) κ) 10000 f) (retK (letter_Fields_0.C R c1 c2 c3 c4) Tryz.f11.results.toList (List.range 0) κ) 10000 (placeOf Tryz.f11 17) (letter_Fields_0.s17 x0 x1 x2 x3) = _
    rw [letter_Fields_0.c17]
    simp only [letter_Fields_0.g17 R c1 c2 c3 c4 κ f]
    rfl
theorem letter_Fields_0.gM4 (R : Type) (c1 : letter_rows_0.F R) (c2 : strings_Trim_0.F R) (c3 : strings_TrimSuffix_0.F R) (c4 : strings_IndexByte_0.F R) (κ : List SV → Option R) : ∀ (f : Nat), (∀ (x0 : Int) (x1 : Int) (x2 : List AV) (x3 : List AV) (x4 : List AV), goto (letter_Fields_0.C R c1 c2 c3 c4) (retK (letter_Fields_0.C R c1 c2 c3 c4) Tryz.f11.results.toList (List.range 0) κ) 10000 f (placeOf Tryz.f11 4) (letter_Fields_0.s4 x0 x1 x2 x3 x4) = letter_Fields_0.L4 c1 c2 c3 c4 (fun r0 => κ [.fr 42 r0 true]) f x0 x1 x2 x3 x4) ∧
    (∀ (x0 : Int) (x1 : Int) (x2 : List AV) (x3 : List AV) (x4 : ByteArray) (x5 : ByteArray) (x6 : Bool) (x7 : Bool) (x8 : List AV), goto (letter_Fields_0.C R c1 c2 c3 c4) (retK (letter_Fields_0.C R c1 c2 c3 c4) Tryz.f11.results.toList (List.range 0) κ) 10000 f (placeOf Tryz.f11 8) (letter_Fields_0.s8 x0 x1 x2 x3 x4 x5 x6 x7 x8) = letter_Fields_0.L8 c1 c2 c3 c4 (fun r0 => κ [.fr 42 r0 true]) f x0 x1 x2 x3 x4 x5 x6 x7 x8) ∧
    (∀ (x0 : ByteArray) (x1 : Int) (x2 : Int) (x3 : List AV) (x4 : List AV) (x5 : ByteArray) (x6 : ByteArray) (x7 : Bool) (x8 : Bool) (x9 : List AV), goto (letter_Fields_0.C R c1 c2 c3 c4) (retK (letter_Fields_0.C R c1 c2 c3 c4) Tryz.f11.results.toList (List.range 0) κ) 10000 f (placeOf Tryz.f11 13) (letter_Fields_0.s13 x0 x1 x2 x3 x4 x5 x6 x7 x8 x9) = letter_Fields_0.L13 c1 c2 c3 c4 (fun r0 => κ [.fr 42 r0 true]) f x0 x1 x2 x3 x4 x5 x6 x7 x8 x9) ∧
    (∀ (x0 : Int) (x1 : Int) (x2 : List AV) (x3 : List AV) (x4 : List AV), goto (letter_Fields_0.C R c1 c2 c3 c4) (retK (letter_Fields_0.C R c1 c2 c3 c4) Tryz.f11.results.toList (List.range 0) κ) 10000 f (placeOf Tryz.f11 15) (letter_Fields_0.s15 x0 x1 x2 x3 x4) = letter_Fields_0.L15 c1 c2 c3 c4 (fun r0 => κ [.fr 42 r0 true]) f x0 x1 x2 x3 x4)
  | 0 => ⟨fun _ _ _ _ _ => rfl, fun _ _ _ _ _ _ _ _ _ => rfl, fun _ _ _ _ _ _ _ _ _ _ => rfl, fun _ _ _ _ _ => rfl⟩
  | f + 1 => by
    obtain ⟨ih0, ih1, ih2, ih3⟩ := letter_Fields_0.gM4 R c1 c2 c3 c4 κ f
    refine ⟨?_, ?_, ?_, ?_⟩
    · intro x0 x1 x2 x3 x4
      show start (letter_Fields_0.C R c1 c2 c3 c4) (goto (letter_Fields_0.C R c1 c2 c3 c4) (retK (letter_Fields_0.C R c1 c2 c3 c4) Tryz.f11.results.toList (List.range 0) κ) 10000 f) (retK (letter_Fields_0.C R c1 c2 c3 c4) Tryz.f11.results.toList (List.range 0) κ) 10000 (placeOf Tryz.f11 4) (letter_Fields_0.s4 x0 x1 x2 x3 x4) = _
      rw [letter_Fields_0.c4]
      simp only [ih0, ih1, ih2, ih3, letter_Fields_0.g17 R c1 c2 c3 c4 κ f]
      rfl
    · intro x0 x1 x2 x3 x4 x5 x6 x7 x8
      show start (letter_Fields_0.C R c1 c2 c3 c4) (goto (letter_Fields_0.C R c1 c2 c3 c4) (retK (letter_Fields_0.C R c1 c2 c3 c4) Tryz.f11.results.toList (List.range 0) κ) 10000 f) (retK (letter_Fields_0.C R c1 c2 c3 c4) Tryz.f11.results.toList (List.range 0) κ) 10000 (placeOf Tryz.f11 8) (letter_Fields_0.s8 x0 x1 x2 x3 x4 x5 x6 x7 x8) = _
      rw [letter_Fields_0.c8]
      simp only [ih0, ih1, ih2, ih3, letter_Fields_0.g17 R c1 c2 c3 c4 κ f]
      rfl
    · intro x0 x1 x2 x3 x4 x5 x6 x7 x8 x9
      show start (letter_Fields_0.C R c1 c2 c3 c4) (goto (letter_Fields_0.C R c1 c2 c3 c4) (retK (letter_Fields_0.C R c1 c2 c3 c4) Tryz.f11.results.toList (List.range 0) κ) 10000 f) (retK (letter_Fields_0.C R c1 c2 c3 c4) Tryz.f11.results.toList (List.range 0) κ) 10000 (placeOf Tryz.f11 13) (letter_Fields_0.s13 x0 x1 x2 x3 x4 x5 x6 x7 x8 x9) = _
      rw [letter_Fields_0.c13]
      simp only [ih0, ih1, ih2, ih3, letter_Fields_0.g17 R c1 c2 c3 c4 κ f]
      rfl
    · intro x0 x1 x2 x3 x4
      show start (letter_Fields_0.C R c1 c2 c3 c4) (goto (letter_Fields_0.C R c1 c2 c3 c4) (retK (letter_Fields_0.C R c1 c2 c3 c4) Tryz.f11.results.toList (List.range 0) κ) 10000 f) (retK (letter_Fields_0.C R c1 c2 c3 c4) Tryz.f11.results.toList (List.range 0) κ) 10000 (placeOf Tryz.f11 15) (letter_Fields_0.s15 x0 x1 x2 x3 x4) = _
      rw [letter_Fields_0.c15]
      simp only [ih0, ih1, ih2, ih3, letter_Fields_0.g17 R c1 c2 c3 c4 κ f]
      rfl
theorem letter_Fields_0.g4 (R : Type) (c1 : letter_rows_0.F R) (c2 : strings_Trim_0.F R) (c3 : strings_TrimSuffix_0.F R) (c4 : strings_IndexByte_0.F R) (κ : List SV → Option R) (f : Nat) (x0 : Int) (x1 : Int) (x2 : List AV) (x3 : List AV) (x4 : List AV) : goto (letter_Fields_0.C R c1 c2 c3 c4) (retK (letter_Fields_0.C R c1 c2 c3 c4) Tryz.f11.results.toList (List.range 0) κ) 10000 f (placeOf Tryz.f11 4) (letter_Fields_0.s4 x0 x1 x2 x3 x4) = letter_Fields_0.L4 c1 c2 c3 c4 (fun r0 => κ [.fr 42 r0 true]) f x0 x1 x2 x3 x4 := (letter_Fields_0.gM4 R c1 c2 c3 c4 κ f).1 x0 x1 x2 x3 x4
theorem letter_Fields_0.g8 (R : Type) (c1 : letter_rows_0.F R) (c2 : strings_Trim_0.F R) (c3 : strings_TrimSuffix_0.F R) (c4 : strings_IndexByte_0.F R) (κ : List SV → Option R) (f : Nat) (x0 : Int) (x1 : Int) (x2 : List AV) (x3 : List AV) (x4 : ByteArray) (x5 : ByteArray) (x6 : Bool) (x7 : Bool) (x8 : List AV) : goto (letter_Fields_0.C R c1 c2 c3 c4) (retK (letter_Fields_0.C R c1 c2 c3 c4) Tryz.f11.results.toList (List.range 0) κ) 10000 f (placeOf Tryz.f11 8) (letter_Fields_0.s8 x0 x1 x2 x3 x4 x5 x6 x7 x8) = letter_Fields_0.L8 c1 c2 c3 c4 (fun r0 => κ [.fr 42 r0 true]) f x0 x1 x2 x3 x4 x5 x6 x7 x8 := (letter_Fields_0.gM4 R c1 c2 c3 c4 κ f).2.1 x0 x1 x2 x3 x4 x5 x6 x7 x8
theorem letter_Fields_0.g13 (R : Type) (c1 : letter_rows_0.F R) (c2 : strings_Trim_0.F R) (c3 : strings_TrimSuffix_0.F R) (c4 : strings_IndexByte_0.F R) (κ : List SV → Option R) (f : Nat) (x0 : ByteArray) (x1 : Int) (x2 : Int) (x3 : List AV) (x4 : List AV) (x5 : ByteArray) (x6 : ByteArray) (x7 : Bool) (x8 : Bool) (x9 : List AV) : goto (letter_Fields_0.C R c1 c2 c3 c4) (retK (letter_Fields_0.C R c1 c2 c3 c4) Tryz.f11.results.toList (List.range 0) κ) 10000 f (placeOf Tryz.f11 13) (letter_Fields_0.s13 x0 x1 x2 x3 x4 x5 x6 x7 x8 x9) = letter_Fields_0.L13 c1 c2 c3 c4 (fun r0 => κ [.fr 42 r0 true]) f x0 x1 x2 x3 x4 x5 x6 x7 x8 x9 := (letter_Fields_0.gM4 R c1 c2 c3 c4 κ f).2.2.1 x0 x1 x2 x3 x4 x5 x6 x7 x8 x9
theorem letter_Fields_0.g15 (R : Type) (c1 : letter_rows_0.F R) (c2 : strings_Trim_0.F R) (c3 : strings_TrimSuffix_0.F R) (c4 : strings_IndexByte_0.F R) (κ : List SV → Option R) (f : Nat) (x0 : Int) (x1 : Int) (x2 : List AV) (x3 : List AV) (x4 : List AV) : goto (letter_Fields_0.C R c1 c2 c3 c4) (retK (letter_Fields_0.C R c1 c2 c3 c4) Tryz.f11.results.toList (List.range 0) κ) 10000 f (placeOf Tryz.f11 15) (letter_Fields_0.s15 x0 x1 x2 x3 x4) = letter_Fields_0.L15 c1 c2 c3 c4 (fun r0 => κ [.fr 42 r0 true]) f x0 x1 x2 x3 x4 := (letter_Fields_0.gM4 R c1 c2 c3 c4 κ f).2.2.2 x0 x1 x2 x3 x4
theorem letter_Fields_0.run (R : Type) (κ : List SV → Option R) (a0 : ByteArray) :
    runF (letter_Fields_0.C R letter_rows_0 strings_Trim_0 strings_TrimSuffix_0 strings_IndexByte_0) Tryz.f11 10000 fuelK [.str a0] κ = letter_Fields_0 a0 (fun r0 => κ [.fr 42 r0 true]) := by
  rw [letter_Fields_0.c]
  simp only [letter_Fields_0.g4 R letter_rows_0 strings_Trim_0 strings_TrimSuffix_0 strings_IndexByte_0 κ fuelK, letter_Fields_0.g8 R letter_rows_0 strings_Trim_0 strings_TrimSuffix_0 strings_IndexByte_0 κ fuelK, letter_Fields_0.g13 R letter_rows_0 strings_Trim_0 strings_TrimSuffix_0 strings_IndexByte_0 κ fuelK, letter_Fields_0.g15 R letter_rows_0 strings_Trim_0 strings_TrimSuffix_0 strings_IndexByte_0 κ fuelK, letter_Fields_0.g17 R letter_rows_0 strings_Trim_0 strings_TrimSuffix_0 strings_IndexByte_0 κ fuelK]
  rfl
theorem letter_Fields_0.Γ_does {R : Type} (tab : Tab) (ht : TabOk tab) (g : Nat) : Does (R := R) Tryz.prog (tabTy tyL) tab g ((letter_Fields_0.C R letter_rows_0 strings_Trim_0 strings_TrimSuffix_0 strings_IndexByte_0).call g) := by
  refine does_of fun xs κ => ?_
  show DoesAt _ _ _ g xs κ (letter_Fields_0.Γ letter_rows_0 strings_Trim_0 strings_TrimSuffix_0 strings_IndexByte_0 g xs κ)
  unfold letter_Fields_0.Γ
  split
  · split
    · exact letter_rows_0.does tab ht _ κ
    · exact DoesAt.none
  · split
    · exact strings_TrimSuffix_0.does tab ht _ _ κ
    · exact DoesAt.none
  · split
    · exact strings_IndexByte_0.does tab ht _ _ κ
    · exact DoesAt.none
  · split
    · exact strings_Trim_0.does tab ht _ _ κ
    · exact DoesAt.none
  · exact DoesAt.none
theorem letter_Fields_0.does {R : Type} (tab : Tab) (ht : TabOk tab) (a0 : ByteArray) (κ : List SV → Option R) : DoesAt Tryz.prog (tabTy tyL) tab 11 [.str a0] κ (letter_Fields_0 a0 (fun r0 => κ [.fr 42 r0 true])) := by
  intro r h w vs Rt Ra bs hpre
  exact runF_sound tyOk (letter_Fields_0.Γ_does tab ht) (show Tryz.prog.funcs[11]? = some Tryz.f11 by kernel_rfl) (by kernel_rfl) ((letter_Fields_0.run R κ a0).trans h) hpre
def letter_cursor_comment_vsie.Γ {R : Type} (g : Nat) (xs : List SV) (κ : List SV → Option R) : Option R :=
  match g with
  | _ => none
def letter_cursor_comment_vsie.h (n : Nat) : Option (List (Nat × List (Nat × Nat))) :=
  match n with
  | 1 => some [(0, [(0, 0)]), (2, [(0, 0)])]
  | _ => none
def letter_cursor_comment_vsie.C (R : Type) : Cfg R := ⟨tabTy tyL, letter_cursor_comment_vsie.Γ, fun _ => false, letter_cursor_comment_vsie.h⟩
def letter_cursor_comment_vsie.s1 (x0 : Int) (x1 : ByteArray) (x2 : Int) : St := ⟨mkS 61 [(0, .ptr 0 0), (2, .int .i64 x0)], [(0, .var 125 [.str x1, .int .i64 x2])], top⟩
theorem letter_cursor_comment_vsie.c1 (R : Type) (J : List Item → St → Option R) (κ : List SV → Option R) (x0 : Int) (x1 : ByteArray) (x2 : Int) :
    start (letter_cursor_comment_vsie.C R) J (retK (letter_cursor_comment_vsie.C R) Tryz.f142.results.toList (List.range 1) κ) 10000 (placeOf Tryz.f142 1) (letter_cursor_comment_vsie.s1 x0 x1 x2) = letter_cursor_comment_vsie.t1 x0 x1 x2 (fun y0 y1 y2 => J (placeOf Tryz.f142 1) (letter_cursor_comment_vsie.s1 y0 y1 y2)) (fun r0 r1 => κ [.tup [], .vp 125 [.str r0, .int .i64 r1]]) := by kernel_rfl
theorem letter_cursor_comment_vsie.c (R : Type) (κ : List SV → Option R) (k : Nat) (a0 : ByteArray) (a1 : Int) :
    runF (letter_cursor_comment_vsie.C R) Tryz.f142 10000 k [.vp 125 [.str a0, .int .i64 a1]] κ = letter_cursor_comment_vsie.e a0 a1 (fun y0 y1 y2 => goto (letter_cursor_comment_vsie.C R) (retK (letter_cursor_comment_vsie.C R) Tryz.f142.results.toList (List.range 1) κ) 10000 k (placeOf Tryz.f142 1) (letter_cursor_comment_vsie.s1 y0 y1 y2)) (fun r0 r1 => κ [.tup [], .vp 125 [.str r0, .int .i64 r1]]) := by kernel_rfl
theorem letter_cursor_comment_vsie.g1 (R : Type) (κ : List SV → Option R) : ∀ (f : Nat) (x0 : Int) (x1 : ByteArray) (x2 : Int), goto (letter_cursor_comment_vsie.C R) (retK (letter_cursor_comment_vsie.C R) Tryz.f142.results.toList (List.range 1) κ) 10000 f (placeOf Tryz.f142 1) (letter_cursor_comment_vsie.s1 x0 x1 x2) = letter_cursor_comment_vsie.L1 (fun r0 r1 => κ [.tup [], .vp 125 [.str r0, .int .i64 r1]]) f x0 x1 x2
  | 0, _, _, _ => rfl
  | f + 1, x0, x1, x2 => by
    show start (letter_cursor_comment_vsie.C R) (goto (letter_cursor_comment_vsie.C R) (retK (letter_cursor_comment_vsie.C R) Tryz.f142.results.toList (List.range 1) κ) 10000 f) (retK (letter_cursor_comment_vsie.C R) Tryz.f142.results.toList (List.range 1) κ) 10000 (placeOf Tryz.f142 1) (letter_cursor_comment_vsie.s1 x0 x1 x2) = _
    rw [letter_cursor_comment_vsie.c1]
    simp only [letter_cursor_comment_vsie.g1 R κ f]
    rfl
theorem letter_cursor_comment_vsie.run (R : Type) (κ : List SV → Option R) (a0 : ByteArray) (a1 : Int) :
    runF (letter_cursor_comment_vsie.C R) Tryz.f142 10000 fuelK [.vp 125 [.str a0, .int .i64 a1]] κ = letter_cursor_comment_vsie a0 a1 (fun r0 r1 => κ [.tup [], .vp 125 [.str r0, .int .i64 r1]]) := by
  rw [letter_cursor_comment_vsie.c]
  simp only [letter_cursor_comment_vsie.g1 R κ fuelK]
  rfl
theorem letter_cursor_comment_vsie.Γ_does {R : Type} (tab : Tab) (ht : TabOk tab) (g : Nat) : Does (R := R) Tryz.prog (tabTy tyL) tab g ((letter_cursor_comment_vsie.C R).call g) := by
  refine does_of fun xs κ => ?_
  show DoesAt _ _ _ g xs κ (letter_cursor_comment_vsie.Γ g xs κ)
  unfold letter_cursor_comment_vsie.Γ
  split
  · exact DoesAt.none
theorem letter_cursor_comment_vsie.does {R : Type} (tab : Tab) (ht : TabOk tab) (a0 : ByteArray) (a1 : Int) (κ : List SV → Option R) : DoesAt Tryz.prog (tabTy tyL) tab 142 [.vp 125 [.str a0, .int .i64 a1]] κ (letter_cursor_comment_vsie a0 a1 (fun r0 r1 => κ [.tup [], .vp 125 [.str r0, .int .i64 r1]])) := by
  intro r h w vs Rt Ra bs hpre
  exact runF_sound tyOk (letter_cursor_comment_vsie.Γ_does tab ht) (show Tryz.prog.funcs[142]? = some Tryz.f142 by kernel_rfl) (by kernel_rfl) ((letter_cursor_comment_vsie.run R κ a0 a1).trans h) hpre
theorem strings_Builder_copyCheck_vxne.does {R : Type} (tab : Tab) (ht : TabOk tab) (κ : List SV → Option R) : DoesAt Tryz.prog (tabTy tyL) tab 99 [.vp 74 [.nos, .nil]] κ (strings_Builder_copyCheck_vxne (κ [.tup [], .vp 74 [.nos, .nil]])) :=
  copyCheck_does Tryz.call99 cc_used cc_fresh (.nil) κ
def strings_Builder_WriteByte_vxnei.Γ {R : Type} (c1 : strings_Builder_copyCheck_vxne.F R) (g : Nat) (xs : List SV) (κ : List SV → Option R) : Option R :=
  match g with
  | 99 => (match xs with
    | [.vp 74 [.nos, .nil]] => c1 (κ [.tup [], .vp 74 [.nos, .nil]])
    | _ => none)
  | _ => none
def strings_Builder_WriteByte_vxnei.h (n : Nat) : Option (List (Nat × List (Nat × Nat))) :=
  match n with
  | _ => none
def strings_Builder_WriteByte_vxnei.C (R : Type) (c1 : strings_Builder_copyCheck_vxne.F R) : Cfg R := ⟨tabTy tyL, strings_Builder_WriteByte_vxnei.Γ c1, fun _ => false, strings_Builder_WriteByte_vxnei.h⟩
theorem strings_Builder_WriteByte_vxnei.c (R : Type) (c1 : strings_Builder_copyCheck_vxne.F R) (κ : List SV → Option R) (k : Nat) (a0 : Int) :
    runF (strings_Builder_WriteByte_vxnei.C R c1) Tryz.f110 10000 k [.vp 74 [.nos, .nil], .int .u8 a0] κ = strings_Builder_WriteByte_vxnei.e c1 a0 (fun r0 => κ [.nili, .vp 74 [.nos, .fr 5 r0 true]]) := by kernel_rfl
theorem strings_Builder_WriteByte_vxnei.run (R : Type) (κ : List SV → Option R) (a0 : Int) :
    runF (strings_Builder_WriteByte_vxnei.C R strings_Builder_copyCheck_vxne) Tryz.f110 10000 fuelK [.vp 74 [.nos, .nil], .int .u8 a0] κ = strings_Builder_WriteByte_vxnei a0 (fun r0 => κ [.nili, .vp 74 [.nos, .fr 5 r0 true]]) := by
  rw [strings_Builder_WriteByte_vxnei.c]
  rfl
theorem strings_Builder_WriteByte_vxnei.Γ_does {R : Type} (tab : Tab) (ht : TabOk tab) (g : Nat) : Does (R := R) Tryz.prog (tabTy tyL) tab g ((strings_Builder_WriteByte_vxnei.C R strings_Builder_copyCheck_vxne).call g) := by
  refine does_of fun xs κ => ?_
  show DoesAt _ _ _ g xs κ (strings_Builder_WriteByte_vxnei.Γ strings_Builder_copyCheck_vxne g xs κ)
  unfold strings_Builder_WriteByte_vxnei.Γ
  split
  · split
    · exact strings_Builder_copyCheck_vxne.does tab ht κ
    · exact DoesAt.none
  · exact DoesAt.none
theorem strings_Builder_WriteByte_vxnei.does {R : Type} (tab : Tab) (ht : TabOk tab) (a0 : Int) (κ : List SV → Option R) : DoesAt Tryz.prog (tabTy tyL) tab 110 [.vp 74 [.nos, .nil], .int .u8 a0] κ (strings_Builder_WriteByte_vxnei a0 (fun r0 => κ [.nili, .vp 74 [.nos, .fr 5 r0 true]])) := by
  intro r h w vs Rt Ra bs hpre
  exact runF_sound tyOk (strings_Builder_WriteByte_vxnei.Γ_does tab ht) (show Tryz.prog.funcs[110]? = some Tryz.f110 by kernel_rfl) (by kernel_rfl) ((strings_Builder_WriteByte_vxnei.run R κ a0).trans h) hpre
theorem strings_Builder_copyCheck_vxfe.does {R : Type} (tab : Tab) (ht : TabOk tab) (a0 : List AV) (κ : List SV → Option R) : DoesAt Tryz.prog (tabTy tyL) tab 99 [.vp 74 [.nos, .fr 5 a0 true]] κ (strings_Builder_copyCheck_vxfe a0 (fun r0 => κ [.tup [], .vp 74 [.nos, .fr 5 r0 true]])) :=
  copyCheck_does Tryz.call99 cc_used cc_fresh (.fr _ _) κ
def strings_Builder_WriteByte_vxfei.Γ {R : Type} (c1 : strings_Builder_copyCheck_vxfe.F R) (g : Nat) (xs : List SV) (κ : List SV → Option R) : Option R :=
  match g with
  | 99 => (match xs with
    | [.vp 74 [.nos, .fr 5 a0 true]] => c1 a0 (fun r0 => κ [.tup [], .vp 74 [.nos, .fr 5 r0 true]])
    | _ => none)
  | _ => none
def strings_Builder_WriteByte_vxfei.h (n : Nat) : Option (List (Nat × List (Nat × Nat))) :=
  match n with
  | _ => none
def strings_Builder_WriteByte_vxfei.C (R : Type) (c1 : strings_Builder_copyCheck_vxfe.F R) : Cfg R := ⟨tabTy tyL, strings_Builder_WriteByte_vxfei.Γ c1, fun _ => false, strings_Builder_WriteByte_vxfei.h⟩
theorem strings_Builder_WriteByte_vxfei.c (R : Type) (c1 : strings_Builder_copyCheck_vxfe.F R) (κ : List SV → Option R) (k : Nat) (a0 : List AV) (a1 : Int) :
    runF (strings_Builder_WriteByte_vxfei.C R c1) Tryz.f110 10000 k [.vp 74 [.nos, .fr 5 a0 true], .int .u8 a1] κ = strings_Builder_WriteByte_vxfei.e c1 a0 a1 (fun r0 => κ [.nili, .vp 74 [.nos, .fr 5 r0 true]]) := by kernel_rfl
theorem strings_Builder_WriteByte_vxfei.run (R : Type) (κ : List SV → Option R) (a0 : List AV) (a1 : Int) :
    runF (strings_Builder_WriteByte_vxfei.C R strings_Builder_copyCheck_vxfe) Tryz.f110 10000 fuelK [.vp 74 [.nos, .fr 5 a0 true], .int .u8 a1] κ = strings_Builder_WriteByte_vxfei a0 a1 (fun r0 => κ [.nili, .vp 74 [.nos, .fr 5 r0 true]]) := by
  rw [strings_Builder_WriteByte_vxfei.c]
  rfl
theorem strings_Builder_WriteByte_vxfei.Γ_does {R : Type} (tab : Tab) (ht : TabOk tab) (g : Nat) : Does (R := R) Tryz.prog (tabTy tyL) tab g ((strings_Builder_WriteByte_vxfei.C R strings_Builder_copyCheck_vxfe).call g) := by
  refine does_of fun xs κ => ?_
  show DoesAt _ _ _ g xs κ (strings_Builder_WriteByte_vxfei.Γ strings_Builder_copyCheck_vxfe g xs κ)
  unfold strings_Builder_WriteByte_vxfei.Γ
  split
  · split
    · exact strings_Builder_copyCheck_vxfe.does tab ht _ κ
    · exact DoesAt.none
  · exact DoesAt.none
theorem strings_Builder_WriteByte_vxfei.does {R : Type} (tab : Tab) (ht : TabOk tab) (a0 : List AV) (a1 : Int) (κ : List SV → Option R) : DoesAt Tryz.prog (tabTy tyL) tab 110 [.vp 74 [.nos, .fr 5 a0 true], .int .u8 a1] κ (strings_Builder_WriteByte_vxfei a0 a1 (fun r0 => κ [.nili, .vp 74 [.nos, .fr 5 r0 true]])) := by
  intro r h w vs Rt Ra bs hpre
  exact runF_sound tyOk (strings_Builder_WriteByte_vxfei.Γ_does tab ht) (show Tryz.prog.funcs[110]? = some Tryz.f110 by kernel_rfl) (by kernel_rfl) ((strings_Builder_WriteByte_vxfei.run R κ a0 a1).trans h) hpre
def strings_Builder_String_vxfe.Γ {R : Type} (g : Nat) (xs : List SV) (κ : List SV → Option R) : Option R :=
  match g with
  | _ => none
def strings_Builder_String_vxfe.h (n : Nat) : Option (List (Nat × List (Nat × Nat))) :=
  match n with
  | _ => none
def strings_Builder_String_vxfe.C (R : Type) : Cfg R := ⟨tabTy tyL, strings_Builder_String_vxfe.Γ, fun _ => false, strings_Builder_String_vxfe.h⟩
theorem strings_Builder_String_vxfe.c (R : Type) (κ : List SV → Option R) (k : Nat) (a0 : List AV) :
    runF (strings_Builder_String_vxfe.C R) Tryz.f49 10000 k [.vp 74 [.nos, .fr 5 a0 true]] κ = strings_Builder_String_vxfe.e a0 (fun r0 => κ [.str r0, .vp 74 [.nos, .no]]) := by kernel_rfl
theorem strings_Builder_String_vxfe.run (R : Type) (κ : List SV → Option R) (a0 : List AV) :
    runF (strings_Builder_String_vxfe.C R) Tryz.f49 10000 fuelK [.vp 74 [.nos, .fr 5 a0 true]] κ = strings_Builder_String_vxfe a0 (fun r0 => κ [.str r0, .vp 74 [.nos, .no]]) := by
  rw [strings_Builder_String_vxfe.c]
  rfl
theorem strings_Builder_String_vxfe.Γ_does {R : Type} (tab : Tab) (ht : TabOk tab) (g : Nat) : Does (R := R) Tryz.prog (tabTy tyL) tab g ((strings_Builder_String_vxfe.C R).call g) := by
  refine does_of fun xs κ => ?_
  show DoesAt _ _ _ g xs κ (strings_Builder_String_vxfe.Γ g xs κ)
  unfold strings_Builder_String_vxfe.Γ
  split
  · exact DoesAt.none
theorem strings_Builder_String_vxfe.does {R : Type} (tab : Tab) (ht : TabOk tab) (a0 : List AV) (κ : List SV → Option R) : DoesAt Tryz.prog (tabTy tyL) tab 49 [.vp 74 [.nos, .fr 5 a0 true]] κ (strings_Builder_String_vxfe a0 (fun r0 => κ [.str r0, .vp 74 [.nos, .no]])) := by
  intro r h w vs Rt Ra bs hpre
  exact runF_sound tyOk (strings_Builder_String_vxfe.Γ_does tab ht) (show Tryz.prog.funcs[49]? = some Tryz.f49 by kernel_rfl) (by kernel_rfl) ((strings_Builder_String_vxfe.run R κ a0).trans h) hpre
def letter_cursor_quotes_vsie.Γ {R : Type} (c1 : strings_Builder_WriteByte_vxfei.F R) (c2 : strings_Builder_String_vxfe.F R) (g : Nat) (xs : List SV) (κ : List SV → Option R) : Option R :=
  match g with
  | 49 => (match xs with
    | [.vp 74 [.nos, .fr 5 a0 true]] => c2 a0 (fun r0 => κ [.str r0, .vp 74 [.nos, .no]])
    | _ => none)
  | 110 => (match xs with
    | [.vp 74 [.nos, .fr 5 a0 true], .int .u8 a1] => c1 a0 a1 (fun r0 => κ [.nili, .vp 74 [.nos, .fr 5 r0 true]])
    | _ => none)
  | _ => none
def letter_cursor_quotes_vsie.h (n : Nat) : Option (List (Nat × List (Nat × Nat))) :=
  match n with
  | 3 => some [(0, [(0, 0)]), (3, [(1, 7)])]
  | _ => none
def letter_cursor_quotes_vsie.C (R : Type) (c1 : strings_Builder_WriteByte_vxfei.F R) (c2 : strings_Builder_String_vxfe.F R) : Cfg R := ⟨tabTy tyL, letter_cursor_quotes_vsie.Γ c1 c2, fun _ => false, letter_cursor_quotes_vsie.h⟩
def letter_cursor_quotes_vsie.s3 (x0 : ByteArray) (x1 : Int) (x2 : List AV) : St := ⟨mkS 92 [(0, .ptr 0 0), (3, .ptr 319 0)], [(0, .var 125 [.str x0, .int .i64 x1]), (319, .var 74 [.nos, .own 257]), (257, .row 5 x2 true)], top⟩
theorem letter_cursor_quotes_vsie.c3 (R : Type) (c1 : strings_Builder_WriteByte_vxfei.F R) (c2 : strings_Builder_String_vxfe.F R) (J : List Item → St → Option R) (κ : List SV → Option R) (x0 : ByteArray) (x1 : Int) (x2 : List AV) :
    start (letter_cursor_quotes_vsie.C R c1 c2) J (retK (letter_cursor_quotes_vsie.C R c1 c2) Tryz.f143.results.toList (List.range 1) κ) 10000 (placeOf Tryz.f143 3) (letter_cursor_quotes_vsie.s3 x0 x1 x2) = letter_cursor_quotes_vsie.t3 c1 c2 x0 x1 x2 (fun y0 y1 y2 => J (placeOf Tryz.f143 3) (letter_cursor_quotes_vsie.s3 y0 y1 y2)) (fun r0 r1 r2 => κ [.str r0, .vp 125 [.str r1, .int .i64 r2]]) := by kernel_rfl
theorem letter_cursor_quotes_vsie.c (R : Type) (c1 : strings_Builder_WriteByte_vxfei.F R) (c2 : strings_Builder_String_vxfe.F R) (κ : List SV → Option R) (k : Nat) (a0 : ByteArray) (a1 : Int) :
    runF (letter_cursor_quotes_vsie.C R c1 c2) Tryz.f143 10000 k [.vp 125 [.str a0, .int .i64 a1]] κ = letter_cursor_quotes_vsie.e c1 c2 a0 a1 (fun y0 y1 y2 => goto (letter_cursor_quotes_vsie.C R c1 c2) (retK (letter_cursor_quotes_vsie.C R c1 c2) Tryz.f143.results.toList (List.range 1) κ) 10000 k (placeOf Tryz.f143 3) (letter_cursor_quotes_vsie.s3 y0 y1 y2)) (fun r0 r1 r2 => κ [.str r0, .vp 125 [.str r1, .int .i64 r2]]) := by kernel_rfl
theorem letter_cursor_quotes_vsie.g3 (R : Type) (c1 : strings_Builder_WriteByte_vxfei.F R) (c2 : strings_Builder_String_vxfe.F R) (κ : List SV → Option R) : ∀ (f : Nat) (x0 : ByteArray) (x1 : Int) (x2 : List AV), goto (letter_cursor_quotes_vsie.C R c1 c2) (retK (letter_cursor_quotes_vsie.C R c1 c2) Tryz.f143.results.toList (List.range 1) κ) 10000 f (placeOf Tryz.f143 3) (letter_cursor_quotes_vsie.s3 x0 x1 x2) = letter_cursor_quotes_vsie.L3 c1 c2 (fun r0 r1 r2 => κ [.str r0, .vp 125 [.str r1, .int .i64 r2]]) f x0 x1 x2
  | 0, _, _, _ => rfl
  | f + 1, x0, x1, x2 => by
    show start (letter_cursor_quotes_vsie.C R c1 c2) (goto (letter_cursor_quotes_vsie.C R c1 c2) (retK (letter_cursor_quotes_vsie.C R c1 c2) Tryz.f143.results.toList (List.range 1) κ) 10000 f) (retK (letter_cursor_quotes_vsie.C R c1 c2) Tryz.f143.results.toList (List.range 1) κ) 10000 (placeOf Tryz.f143 3) (letter_cursor_quotes_vsie.s3 x0 x1 x2) = _
    rw [letter_cursor_quotes_vsie.c3]
    simp only [letter_cursor_quotes_vsie.g3 R c1 c2 κ f]
    rfl
theorem letter_cursor_quotes_vsie.run (R : Type) (κ : List SV → Option R) (a0 : ByteArray) (a1 : Int) :
    runF (letter_cursor_quotes_vsie.C R strings_Builder_WriteByte_vxfei strings_Builder_String_vxfe) Tryz.f143 10000 fuelK [.vp 125 [.str a0, .int .i64 a1]] κ = letter_cursor_quotes_vsie a0 a1 (fun r0 r1 r2 => κ [.str r0, .vp 125 [.str r1, .int .i64 r2]]) := by
  rw [letter_cursor_quotes_vsie.c]
  simp only [letter_cursor_quotes_vsie.g3 R strings_Builder_WriteByte_vxfei strings_Builder_String_vxfe κ fuelK]
  rfl
theorem letter_cursor_quotes_vsie.Γ_does {R : Type} (tab : Tab) (ht : TabOk tab) (g : Nat) : Does (R := R) Tryz.prog (tabTy tyL) tab g ((letter_cursor_quotes_vsie.C R strings_Builder_WriteByte_vxfei strings_Builder_String_vxfe).call g) := by
  refine does_of fun xs κ => ?_
  show DoesAt _ _ _ g xs κ (letter_cursor_quotes_vsie.Γ strings_Builder_WriteByte_vxfei strings_Builder_String_vxfe g xs κ)
  unfold letter_cursor_quotes_vsie.Γ
  split
  · split
    · exact strings_Builder_String_vxfe.does tab ht _ κ
    · exact DoesAt.none
  · split
    · exact strings_Builder_WriteByte_vxfei.does tab ht _ _ κ
    · exact DoesAt.none
  · exact DoesAt.none
theorem letter_cursor_quotes_vsie.does {R : Type} (tab : Tab) (ht : TabOk tab) (a0 : ByteArray) (a1 : Int) (κ : List SV → Option R) : DoesAt Tryz.prog (tabTy tyL) tab 143 [.vp 125 [.str a0, .int .i64 a1]] κ (letter_cursor_quotes_vsie a0 a1 (fun r0 r1 r2 => κ [.str r0, .vp 125 [.str r1, .int .i64 r2]])) := by
  intro r h w vs Rt Ra bs hpre
  exact runF_sound tyOk (letter_cursor_quotes_vsie.Γ_does tab ht) (show Tryz.prog.funcs[143]? = some Tryz.f143 by kernel_rfl) (by kernel_rfl) ((letter_cursor_quotes_vsie.run R κ a0 a1).trans h) hpre
def letter_cursor_host_vsie.Γ {R : Type} (g : Nat) (xs : List SV) (κ : List SV → Option R) : Option R :=
  match g with
  | _ => none
def letter_cursor_host_vsie.h (n : Nat) : Option (List (Nat × List (Nat × Nat))) :=
  match n with
  | 2 => some [(0, [(0, 0)]), (3, [(0, 0)])]
  | _ => none
def letter_cursor_host_vsie.C (R : Type) : Cfg R := ⟨tabTy tyL, letter_cursor_host_vsie.Γ, fun _ => false, letter_cursor_host_vsie.h⟩
def letter_cursor_host_vsie.s2 (x0 : Int) (x1 : ByteArray) (x2 : Int) : St := ⟨mkS 78 [(0, .ptr 0 0), (3, .int .i64 x0)], [(0, .var 125 [.str x1, .int .i64 x2])], top⟩
theorem letter_cursor_host_vsie.c2 (R : Type) (J : List Item → St → Option R) (κ : List SV → Option R) (x0 : Int) (x1 : ByteArray) (x2 : Int) :
    start (letter_cursor_host_vsie.C R) J (retK (letter_cursor_host_vsie.C R) Tryz.f144.results.toList (List.range 1) κ) 10000 (placeOf Tryz.f144 2) (letter_cursor_host_vsie.s2 x0 x1 x2) = letter_cursor_host_vsie.t2 x0 x1 x2 (fun y0 y1 y2 => J (placeOf Tryz.f144 2) (letter_cursor_host_vsie.s2 y0 y1 y2)) (fun r0 r1 r2 => κ [.str r0, .vp 125 [.str r1, .int .i64 r2]]) := by kernel_rfl
theorem letter_cursor_host_vsie.c (R : Type) (κ : List SV → Option R) (k : Nat) (a0 : ByteArray) (a1 : Int) :
    runF (letter_cursor_host_vsie.C R) Tryz.f144 10000 k [.vp 125 [.str a0, .int .i64 a1]] κ = letter_cursor_host_vsie.e a0 a1 (fun y0 y1 y2 => goto (letter_cursor_host_vsie.C R) (retK (letter_cursor_host_vsie.C R) Tryz.f144.results.toList (List.range 1) κ) 10000 k (placeOf Tryz.f144 2) (letter_cursor_host_vsie.s2 y0 y1 y2)) (fun r0 r1 r2 => κ [.str r0, .vp 125 [.str r1, .int .i64 r2]]) := by kernel_rfl
theorem letter_cursor_host_vsie.g2 (R : Type) (κ : List SV → Option R) : ∀ (f : Nat) (x0 : Int) (x1 : ByteArray) (x2 : Int), goto (letter_cursor_host_vsie.C R) (retK (letter_cursor_host_vsie.C R) Tryz.f144.results.toList (List.range 1) κ) 10000 f (placeOf Tryz.f144 2) (letter_cursor_host_vsie.s2 x0 x1 x2) = letter_cursor_host_vsie.L2 (fun r0 r1 r2 => κ [.str r0, .vp 125 [.str r1, .int .i64 r2]]) f x0 x1 x2
  | 0, _, _, _ => rfl
  | f + 1, x0, x1, x2 => by
    show start (letter_cursor_host_vsie.C R) (goto (letter_cursor_host_vsie.C R) (retK (letter_cursor_host_vsie.C R) Tryz.f144.results.toList (List.range 1) κ) 10000 f) (retK (letter_cursor_host_vsie.C R) Tryz.f144.results.toList (List.range 1) κ) 10000 (placeOf Tryz.f144 2) (letter_cursor_host_vsie.s2 x0 x1 x2) = _
    rw [letter_cursor_host_vsie.c2]
    simp only [letter_cursor_host_vsie.g2 R κ f]
    rfl
theorem letter_cursor_host_vsie.run (R : Type) (κ : List SV → Option R) (a0 : ByteArray) (a1 : Int) :
    runF (letter_cursor_host_vsie.C R) Tryz.f144 10000 fuelK [.vp 125 [.str a0, .int .i64 a1]] κ = letter_cursor_host_vsie a0 a1 (fun r0 r1 r2 => κ [.str r0, .vp 125 [.str r1, .int .i64 r2]]) := by
  rw [letter_cursor_host_vsie.c]
  simp only [letter_cursor_host_vsie.g2 R κ fuelK]
  rfl
theorem letter_cursor_host_vsie.Γ_does {R : Type} (tab : Tab) (ht : TabOk tab) (g : Nat) : Does (R := R) Tryz.prog (tabTy tyL) tab g ((letter_cursor_host_vsie.C R).call g) := by
  refine does_of fun xs κ => ?_
  show DoesAt _ _ _ g xs κ (letter_cursor_host_vsie.Γ g xs κ)
  unfold letter_cursor_host_vsie.Γ
  split
  · exact DoesAt.none
theorem letter_cursor_host_vsie.does {R : Type} (tab : Tab) (ht : TabOk tab) (a0 : ByteArray) (a1 : Int) (κ : List SV → Option R) : DoesAt Tryz.prog (tabTy tyL) tab 144 [.vp 125 [.str a0, .int .i64 a1]] κ (letter_cursor_host_vsie a0 a1 (fun r0 r1 r2 => κ [.str r0, .vp 125 [.str r1, .int .i64 r2]])) := by
  intro r h w vs Rt Ra bs hpre
  exact runF_sound tyOk (letter_cursor_host_vsie.Γ_does tab ht) (show Tryz.prog.funcs[144]? = some Tryz.f144 by kernel_rfl) (by kernel_rfl) ((letter_cursor_host_vsie.run R κ a0 a1).trans h) hpre
def letter_isSign_0.Γ {R : Type} (c1 : strings_IndexByte_0.F R) (g : Nat) (xs : List SV) (κ : List SV → Option R) : Option R :=
  match g with
  | 40 => (match xs with
    | [.str a0, .int .u8 a1] => c1 a0 a1 (fun r0 => κ [.int .i64 r0])
    | _ => none)
  | _ => none
def letter_isSign_0.h (n : Nat) : Option (List (Nat × List (Nat × Nat))) :=
  match n with
  | _ => none
def letter_isSign_0.C (R : Type) (c1 : strings_IndexByte_0.F R) : Cfg R := ⟨tabTy tyL, letter_isSign_0.Γ c1, fun _ => false, letter_isSign_0.h⟩
theorem letter_isSign_0.c (R : Type) (c1 : strings_IndexByte_0.F R) (κ : List SV → Option R) (k : Nat) (a0 : Int) :
    runF (letter_isSign_0.C R c1) Tryz.f145 10000 k [.int .u8 a0] κ = letter_isSign_0.e c1 a0 (fun r0 => κ [.bool r0]) := by kernel_rfl
theorem letter_isSign_0.run (R : Type) (κ : List SV → Option R) (a0 : Int) :
    runF (letter_isSign_0.C R strings_IndexByte_0) Tryz.f145 10000 fuelK [.int .u8 a0] κ = letter_isSign_0 a0 (fun r0 => κ [.bool r0]) := by
  rw [letter_isSign_0.c]
  rfl
theorem letter_isSign_0.Γ_does {R : Type} (tab : Tab) (ht : TabOk tab) (g : Nat) : Does (R := R) Tryz.prog (tabTy tyL) tab g ((letter_isSign_0.C R strings_IndexByte_0).call g) := by
  refine does_of fun xs κ => ?_
  show DoesAt _ _ _ g xs κ (letter_isSign_0.Γ strings_IndexByte_0 g xs κ)
  unfold letter_isSign_0.Γ
  split
  · split
    · exact strings_IndexByte_0.does tab ht _ _ κ
    · exact DoesAt.none
  · exact DoesAt.none
theorem letter_isSign_0.does {R : Type} (tab : Tab) (ht : TabOk tab) (a0 : Int) (κ : List SV → Option R) : DoesAt Tryz.prog (tabTy tyL) tab 145 [.int .u8 a0] κ (letter_isSign_0 a0 (fun r0 => κ [.bool r0])) := by
  intro r h w vs Rt Ra bs hpre
  exact runF_sound tyOk (letter_isSign_0.Γ_does tab ht) (show Tryz.prog.funcs[145]? = some Tryz.f145 by kernel_rfl) (by kernel_rfl) ((letter_isSign_0.run R κ a0).trans h) hpre
def letter_isSpace_0.Γ {R : Type} (g : Nat) (xs : List SV) (κ : List SV → Option R) : Option R :=
  match g with
  | _ => none
def letter_isSpace_0.h (n : Nat) : Option (List (Nat × List (Nat × Nat))) :=
  match n with
  | _ => none
def letter_isSpace_0.C (R : Type) : Cfg R := ⟨tabTy tyL, letter_isSpace_0.Γ, fun _ => false, letter_isSpace_0.h⟩
theorem letter_isSpace_0.c (R : Type) (κ : List SV → Option R) (k : Nat) (a0 : Int) :
    runF (letter_isSpace_0.C R) Tryz.f116 10000 k [.int .u8 a0] κ = letter_isSpace_0.e a0 (fun r0 => κ [.bool r0]) := by kernel_rfl
theorem letter_isSpace_0.run (R : Type) (κ : List SV → Option R) (a0 : Int) :
    runF (letter_isSpace_0.C R) Tryz.f116 10000 fuelK [.int .u8 a0] κ = letter_isSpace_0 a0 (fun r0 => κ [.bool r0]) := by
  rw [letter_isSpace_0.c]
  rfl
theorem letter_isSpace_0.Γ_does {R : Type} (tab : Tab) (ht : TabOk tab) (g : Nat) : Does (R := R) Tryz.prog (tabTy tyL) tab g ((letter_isSpace_0.C R).call g) := by
  refine does_of fun xs κ => ?_
  show DoesAt _ _ _ g xs κ (letter_isSpace_0.Γ g xs κ)
  unfold letter_isSpace_0.Γ
  split
  · exact DoesAt.none
theorem letter_isSpace_0.does {R : Type} (tab : Tab) (ht : TabOk tab) (a0 : Int) (κ : List SV → Option R) : DoesAt Tryz.prog (tabTy tyL) tab 116 [.int .u8 a0] κ (letter_isSpace_0 a0 (fun r0 => κ [.bool r0])) := by
  intro r h w vs Rt Ra bs hpre
  exact runF_sound tyOk (letter_isSpace_0.Γ_does tab ht) (show Tryz.prog.funcs[116]? = some Tryz.f116 by kernel_rfl) (by kernel_rfl) ((letter_isSpace_0.run R κ a0).trans h) hpre
def letter_isAtom_0.Γ {R : Type} (c1 : letter_isSpace_0.F R) (c2 : letter_isSign_0.F R) (c3 : strings_IndexByte_0.F R) (g : Nat) (xs : List SV) (κ : List SV → Option R) : Option R :=
  match g with
  | 40 => (match xs with
    | [.str a0, .int .u8 a1] => c3 a0 a1 (fun r0 => κ [.int .i64 r0])
    | _ => none)
  | 116 => (match xs with
    | [.int .u8 a0] => c1 a0 (fun r0 => κ [.bool r0])
    | _ => none)
  | 145 => (match xs with
    | [.int .u8 a0] => c2 a0 (fun r0 => κ [.bool r0])
    | _ => none)
  | _ => none
def letter_isAtom_0.h (n : Nat) : Option (List (Nat × List (Nat × Nat))) :=
  match n with
  | _ => none
def letter_isAtom_0.C (R : Type) (c1 : letter_isSpace_0.F R) (c2 : letter_isSign_0.F R) (c3 : strings_IndexByte_0.F R) : Cfg R := ⟨tabTy tyL, letter_isAtom_0.Γ c1 c2 c3, fun _ => false, letter_isAtom_0.h⟩
theorem letter_isAtom_0.c (R : Type) (c1 : letter_isSpace_0.F R) (c2 : letter_isSign_0.F R) (c3 : strings_IndexByte_0.F R) (κ : List SV → Option R) (k : Nat) (a0 : Int) :
    runF (letter_isAtom_0.C R c1 c2 c3) Tryz.f146 10000 k [.int .u8 a0] κ = letter_isAtom_0.e c1 c2 c3 a0 (fun r0 => κ [.bool r0]) := by kernel_rfl
theorem letter_isAtom_0.run (R : Type) (κ : List SV → Option R) (a0 : Int) :
    runF (letter_isAtom_0.C R letter_isSpace_0 letter_isSign_0 strings_IndexByte_0) Tryz.f146 10000 fuelK [.int .u8 a0] κ = letter_isAtom_0 a0 (fun r0 => κ [.bool r0]) := by
  rw [letter_isAtom_0.c]
  rfl
theorem letter_isAtom_0.Γ_does {R : Type} (tab : Tab) (ht : TabOk tab) (g : Nat) : Does (R := R) Tryz.prog (tabTy tyL) tab g ((letter_isAtom_0.C R letter_isSpace_0 letter_isSign_0 strings_IndexByte_0).call g) := by
  refine does_of fun xs κ => ?_
  show DoesAt _ _ _ g xs κ (letter_isAtom_0.Γ letter_isSpace_0 letter_isSign_0 strings_IndexByte_0 g xs κ)
  unfold letter_isAtom_0.Γ
  split
  · split
    · exact strings_IndexByte_0.does tab ht _ _ κ
    · exact DoesAt.none
  · split
    · exact letter_isSpace_0.does tab ht _ κ
    · exact DoesAt.none
  · split
    · exact letter_isSign_0.does tab ht _ κ
    · exact DoesAt.none
  · exact DoesAt.none
theorem letter_isAtom_0.does {R : Type} (tab : Tab) (ht : TabOk tab) (a0 : Int) (κ : List SV → Option R) : DoesAt Tryz.prog (tabTy tyL) tab 146 [.int .u8 a0] κ (letter_isAtom_0 a0 (fun r0 => κ [.bool r0])) := by
  intro r h w vs Rt Ra bs hpre
  exact runF_sound tyOk (letter_isAtom_0.Γ_does tab ht) (show Tryz.prog.funcs[146]? = some Tryz.f146 by kernel_rfl) (by kernel_rfl) ((letter_isAtom_0.run R κ a0).trans h) hpre
def letter_cursor_next_vsie.Γ {R : Type} (c1 : letter_cursor_comment_vsie.F R) (c2 : letter_cursor_quotes_vsie.F R) (c3 : letter_cursor_host_vsie.F R) (c4 : letter_isSign_0.F R) (c5 : letter_isAtom_0.F R) (g : Nat) (xs : List SV) (κ : List SV → Option R) : Option R :=
  match g with
  | 142 => (match xs with
    | [.vp 125 [.str a0, .int .i64 a1]] => c1 a0 a1 (fun r0 r1 => κ [.tup [], .vp 125 [.str r0, .int .i64 r1]])
    | _ => none)
  | 143 => (match xs with
    | [.vp 125 [.str a0, .int .i64 a1]] => c2 a0 a1 (fun r0 r1 r2 => κ [.str r0, .vp 125 [.str r1, .int .i64 r2]])
    | _ => none)
  | 144 => (match xs with
    | [.vp 125 [.str a0, .int .i64 a1]] => c3 a0 a1 (fun r0 r1 r2 => κ [.str r0, .vp 125 [.str r1, .int .i64 r2]])
    | _ => none)
  | 145 => (match xs with
    | [.int .u8 a0] => c4 a0 (fun r0 => κ [.bool r0])
    | _ => none)
  | 146 => (match xs with
    | [.int .u8 a0] => c5 a0 (fun r0 => κ [.bool r0])
    | _ => none)
  | _ => none
def letter_cursor_next_vsie.h (n : Nat) : Option (List (Nat × List (Nat × Nat))) :=
  match n with
  | 16 => some [(0, [(0, 0)]), (2, [(0, 0)]), (4, [(0, 0)])]
  | _ => none
def letter_cursor_next_vsie.C (R : Type) (c1 : letter_cursor_comment_vsie.F R) (c2 : letter_cursor_quotes_vsie.F R) (c3 : letter_cursor_host_vsie.F R) (c4 : letter_isSign_0.F R) (c5 : letter_isAtom_0.F R) : Cfg R := ⟨tabTy tyL, letter_cursor_next_vsie.Γ c1 c2 c3 c4 c5, fun _ => false, letter_cursor_next_vsie.h⟩
def letter_cursor_next_vsie.s16 (x0 : Int) (x1 : ByteArray) (x2 : Int) (x3 : Int) (x4 : ByteArray) : St := ⟨mkS 101 [(0, .ptr 0 0), (2, .ptr 255 0), (4, .int .i64 x0)], [(0, .var 125 [.str x1, .int .i64 x2]), (255, .var 89 [.int .i64 x3, .str x4])], top⟩
theorem letter_cursor_next_vsie.c16 (R : Type) (c1 : letter_cursor_comment_vsie.F R) (c2 : letter_cursor_quotes_vsie.F R) (c3 : letter_cursor_host_vsie.F R) (c4 : letter_isSign_0.F R) (c5 : letter_isAtom_0.F R) (J : List Item → St → Option R) (κ : List SV → Option R) (x0 : Int) (x1 : ByteArray) (x2 : Int) (x3 : Int) (x4 : ByteArray) :
    start (letter_cursor_next_vsie.C R c1 c2 c3 c4 c5) J (retK (letter_cursor_next_vsie.C R c1 c2 c3 c4 c5) Tryz.f109.results.toList (List.range 1) κ) 10000 (placeOf Tryz.f109 16) (letter_cursor_next_vsie.s16 x0 x1 x2 x3 x4) = letter_cursor_next_vsie.t16 c1 c2 c3 c4 c5 x0 x1 x2 x3 x4 (fun y0 y1 y2 y3 y4 => J (placeOf Tryz.f109 16) (letter_cursor_next_vsie.s16 y0 y1 y2 y3 y4)) (fun r0 r1 r2 r3 => κ [.agg [.int .i64 r0, .str r1], .vp 125 [.str r2, .int .i64 r3]]) := by kernel_rfl
theorem letter_cursor_next_vsie.c (R : Type) (c1 : letter_cursor_comment_vsie.F R) (c2 : letter_cursor_quotes_vsie.F R) (c3 : letter_cursor_host_vsie.F R) (c4 : letter_isSign_0.F R) (c5 : letter_isAtom_0.F R) (κ : List SV → Option R) (k : Nat) (a0 : ByteArray) (a1 : Int) :
    runF (letter_cursor_next_vsie.C R c1 c2 c3 c4 c5) Tryz.f109 10000 k [.vp 125 [.str a0, .int .i64 a1]] κ = letter_cursor_next_vsie.e c1 c2 c3 c4 c5 a0 a1 (fun y0 y1 y2 y3 y4 => goto (letter_cursor_next_vsie.C R c1 c2 c3 c4 c5) (retK (letter_cursor_next_vsie.C R c1 c2 c3 c4 c5) Tryz.f109.results.toList (List.range 1) κ) 10000 k (placeOf Tryz.f109 16) (letter_cursor_next_vsie.s16 y0 y1 y2 y3 y4)) (fun r0 r1 r2 r3 => κ [.agg [.int .i64 r0, .str r1], .vp 125 [.str r2, .int .i64 r3]]) := by kernel_rfl
theorem letter_cursor_next_vsie.g16 (R : Type) (c1 : letter_cursor_comment_vsie.F R) (c2 : letter_cursor_quotes_vsie.F R) (c3 : letter_cursor_host_vsie.F R) (c4 : letter_isSign_0.F R) (c5 : letter_isAtom_0.F R) (κ : List SV → Option R) : ∀ (f : Nat) (x0 : Int) (x1 : ByteArray) (x2 : Int) (x3 : Int) (x4 : ByteArray), goto (letter_cursor_next_vsie.C R c1 c2 c3 c4 c5) (retK (letter_cursor_next_vsie.C R c1 c2 c3 c4 c5) Tryz.f109.results.toList (List.range 1) κ) 10000 f (placeOf Tryz.f109 16) (letter_cursor_next_vsie.s16 x0 x1 x2 x3 x4) = letter_cursor_next_vsie.L16 c1 c2 c3 c4 c5 (fun r0 r1 r2 r3 => κ [.agg [.int .i64 r0, .str r1], .vp 125 [.str r2, .int .i64 r3]]) f x0 x1 x2 x3 x4
  | 0, _, _, _, _, _ => rfl
  | f + 1, x0, x1, x2, x3, x4 => by
    show start (letter_cursor_next_vsie.C R c1 c2 c3 c4 c5) (goto (letter_cursor_next_vsie.C R c1 c2 c3 c4 c5) (retK (letter_cursor_next_vsie.C R c1 c2 c3 c4 c5) Tryz.f109.results.toList (List.range 1) κ) 10000 f) (retK (letter_cursor_next_vsie.C R c1 c2 c3 c4 c5) Tryz.f109.results.toList (List.range 1) κ) 10000 (placeOf Tryz.f109 16) (letter_cursor_next_vsie.s16 x0 x1 x2 x3 x4) = _
    rw [letter_cursor_next_vsie.c16]
    simp only [letter_cursor_next_vsie.g16 R c1 c2 c3 c4 c5 κ f]
    rfl
theorem letter_cursor_next_vsie.run (R : Type) (κ : List SV → Option R) (a0 : ByteArray) (a1 : Int) :
    runF (letter_cursor_next_vsie.C R letter_cursor_comment_vsie letter_cursor_quotes_vsie letter_cursor_host_vsie letter_isSign_0 letter_isAtom_0) Tryz.f109 10000 fuelK [.vp 125 [.str a0, .int .i64 a1]] κ = letter_cursor_next_vsie a0 a1 (fun r0 r1 r2 r3 => κ [.agg [.int .i64 r0, .str r1], .vp 125 [.str r2, .int .i64 r3]]) := by
  rw [letter_cursor_next_vsie.c]
  simp only [letter_cursor_next_vsie.g16 R letter_cursor_comment_vsie letter_cursor_quotes_vsie letter_cursor_host_vsie letter_isSign_0 letter_isAtom_0 κ fuelK]
  rfl
theorem letter_cursor_next_vsie.Γ_does {R : Type} (tab : Tab) (ht : TabOk tab) (g : Nat) : Does (R := R) Tryz.prog (tabTy tyL) tab g ((letter_cursor_next_vsie.C R letter_cursor_comment_vsie letter_cursor_quotes_vsie letter_cursor_host_vsie letter_isSign_0 letter_isAtom_0).call g) := by
  refine does_of fun xs κ => ?_
  show DoesAt _ _ _ g xs κ (letter_cursor_next_vsie.Γ letter_cursor_comment_vsie letter_cursor_quotes_vsie letter_cursor_host_vsie letter_isSign_0 letter_isAtom_0 g xs κ)
  unfold letter_cursor_next_vsie.Γ
  split
  · split
    · exact letter_cursor_comment_vsie.does tab ht _ _ κ
    · exact DoesAt.none
  · split
    · exact letter_cursor_quotes_vsie.does tab ht _ _ κ
    · exact DoesAt.none
  · split
    · exact letter_cursor_host_vsie.does tab ht _ _ κ
    · exact DoesAt.none
  · split
    · exact letter_isSign_0.does tab ht _ κ
    · exact DoesAt.none
  · split
    · exact letter_isAtom_0.does tab ht _ κ
    · exact DoesAt.none
  · exact DoesAt.none
theorem letter_cursor_next_vsie.does {R : Type} (tab : Tab) (ht : TabOk tab) (a0 : ByteArray) (a1 : Int) (κ : List SV → Option R) : DoesAt Tryz.prog (tabTy tyL) tab 109 [.vp 125 [.str a0, .int .i64 a1]] κ (letter_cursor_next_vsie a0 a1 (fun r0 r1 r2 r3 => κ [.agg [.int .i64 r0, .str r1], .vp 125 [.str r2, .int .i64 r3]])) := by
  intro r h w vs Rt Ra bs hpre
  exact runF_sound tyOk (letter_cursor_next_vsie.Γ_does tab ht) (show Tryz.prog.funcs[109]? = some Tryz.f109 by kernel_rfl) (by kernel_rfl) ((letter_cursor_next_vsie.run R κ a0 a1).trans h) hpre
def letter_pieces_0.Γ {R : Type} (c1 : letter_cursor_next_vsie.F R) (g : Nat) (xs : List SV) (κ : List SV → Option R) : Option R :=
  match g with
  | 109 => (match xs with
    | [.vp 125 [.str a0, .int .i64 a1]] => c1 a0 a1 (fun r0 r1 r2 r3 => κ [.agg [.int .i64 r0, .str r1], .vp 125 [.str r2, .int .i64 r3]])
    | _ => none)
  | _ => none
def letter_pieces_0.h (n : Nat) : Option (List (Nat × List (Nat × Nat))) :=
  match n with
  | 3 => some [(3, [(0, 0)]), (4, [(0, 91)])]
  | _ => none
def letter_pieces_0.C (R : Type) (c1 : letter_cursor_next_vsie.F R) : Cfg R := ⟨tabTy tyL, letter_pieces_0.Γ c1, fun _ => false, letter_pieces_0.h⟩
def letter_pieces_0.s3 (x0 : ByteArray) (x1 : Int) (x2 : List AV) : St := ⟨mkS 24 [(3, .ptr 319 0), (4, .own 320)], [(319, .var 125 [.str x0, .int .i64 x1]), (320, .row 89 x2 true)], top⟩
theorem letter_pieces_0.c3 (R : Type) (c1 : letter_cursor_next_vsie.F R) (J : List Item → St → Option R) (κ : List SV → Option R) (x0 : ByteArray) (x1 : Int) (x2 : List AV) :
    start (letter_pieces_0.C R c1) J (retK (letter_pieces_0.C R c1) Tryz.f56.results.toList (List.range 0) κ) 10000 (placeOf Tryz.f56 3) (letter_pieces_0.s3 x0 x1 x2) = letter_pieces_0.t3 c1 x0 x1 x2 (fun y0 y1 y2 => J (placeOf Tryz.f56 3) (letter_pieces_0.s3 y0 y1 y2)) (fun r0 => κ [.fr 89 r0 true]) := by kernel_rfl
theorem letter_pieces_0.c (R : Type) (c1 : letter_cursor_next_vsie.F R) (κ : List SV → Option R) (k : Nat) (a0 : ByteArray) :
    runF (letter_pieces_0.C R c1) Tryz.f56 10000 k [.str a0] κ = letter_pieces_0.e c1 a0 (fun y0 y1 y2 => goto (letter_pieces_0.C R c1) (retK (letter_pieces_0.C R c1) Tryz.f56.results.toList (List.range 0) κ) 10000 k (placeOf Tryz.f56 3) (letter_pieces_0.s3 y0 y1 y2)) (fun r0 => κ [.fr 89 r0 true]) := by kernel_rfl
theorem letter_pieces_0.g3 (R : Type) (c1 : letter_cursor_next_vsie.F R) (κ : List SV → Option R) : ∀ (f : Nat) (x0 : ByteArray) (x1 : Int) (x2 : List AV), goto (letter_pieces_0.C R c1) (retK (letter_pieces_0.C R c1) Tryz.f56.results.toList (List.range 0) κ) 10000 f (placeOf Tryz.f56 3) (letter_pieces_0.s3 x0 x1 x2) = letter_pieces_0.L3 c1 (fun r0 => κ [.fr 89 r0 true]) f x0 x1 x2
  | 0, _, _, _ => rfl
  | f + 1, x0, x1, x2 => by
    show start (letter_pieces_0.C R c1) (goto (letter_pieces_0.C R c1) (retK (letter_pieces_0.C R c1) Tryz.f56.results.toList (List.range 0) κ) 10000 f) (retK (letter_pieces_0.C R c1) Tryz.f56.results.toList (List.range 0) κ) 10000 (placeOf Tryz.f56 3) (letter_pieces_0.s3 x0 x1 x2) = _
    rw [letter_pieces_0.c3]
    simp only [letter_pieces_0.g3 R c1 κ f]
    rfl
theorem letter_pieces_0.run (R : Type) (κ : List SV → Option R) (a0 : ByteArray) :
    runF (letter_pieces_0.C R letter_cursor_next_vsie) Tryz.f56 10000 fuelK [.str a0] κ = letter_pieces_0 a0 (fun r0 => κ [.fr 89 r0 true]) := by
  rw [letter_pieces_0.c]
  simp only [letter_pieces_0.g3 R letter_cursor_next_vsie κ fuelK]
  rfl
theorem letter_pieces_0.Γ_does {R : Type} (tab : Tab) (ht : TabOk tab) (g : Nat) : Does (R := R) Tryz.prog (tabTy tyL) tab g ((letter_pieces_0.C R letter_cursor_next_vsie).call g) := by
  refine does_of fun xs κ => ?_
  show DoesAt _ _ _ g xs κ (letter_pieces_0.Γ letter_cursor_next_vsie g xs κ)
  unfold letter_pieces_0.Γ
  split
  · split
    · exact letter_cursor_next_vsie.does tab ht _ _ κ
    · exact DoesAt.none
  · exact DoesAt.none
theorem letter_pieces_0.does {R : Type} (tab : Tab) (ht : TabOk tab) (a0 : ByteArray) (κ : List SV → Option R) : DoesAt Tryz.prog (tabTy tyL) tab 56 [.str a0] κ (letter_pieces_0 a0 (fun r0 => κ [.fr 89 r0 true])) := by
  intro r h w vs Rt Ra bs hpre
  exact runF_sound tyOk (letter_pieces_0.Γ_does tab ht) (show Tryz.prog.funcs[56]? = some Tryz.f56 by kernel_rfl) (by kernel_rfl) ((letter_pieces_0.run R κ a0).trans h) hpre
def letter_piece_is_0.Γ {R : Type} (g : Nat) (xs : List SV) (κ : List SV → Option R) : Option R :=
  match g with
  | _ => none
def letter_piece_is_0.h (n : Nat) : Option (List (Nat × List (Nat × Nat))) :=
  match n with
  | _ => none
def letter_piece_is_0.C (R : Type) : Cfg R := ⟨tabTy tyL, letter_piece_is_0.Γ, fun _ => false, letter_piece_is_0.h⟩
theorem letter_piece_is_0.c (R : Type) (κ : List SV → Option R) (k : Nat) (a0 : Int) (a1 : ByteArray) (a2 : ByteArray) :
    runF (letter_piece_is_0.C R) Tryz.f68 10000 k [.agg [.int .i64 a0, .str a1], .str a2] κ = letter_piece_is_0.e a0 a1 a2 (fun r0 => κ [.bool r0]) := by kernel_rfl
theorem letter_piece_is_0.run (R : Type) (κ : List SV → Option R) (a0 : Int) (a1 : ByteArray) (a2 : ByteArray) :
    runF (letter_piece_is_0.C R) Tryz.f68 10000 fuelK [.agg [.int .i64 a0, .str a1], .str a2] κ = letter_piece_is_0 a0 a1 a2 (fun r0 => κ [.bool r0]) := by
  rw [letter_piece_is_0.c]
  rfl
theorem letter_piece_is_0.Γ_does {R : Type} (tab : Tab) (ht : TabOk tab) (g : Nat) : Does (R := R) Tryz.prog (tabTy tyL) tab g ((letter_piece_is_0.C R).call g) := by
  refine does_of fun xs κ => ?_
  show DoesAt _ _ _ g xs κ (letter_piece_is_0.Γ g xs κ)
  unfold letter_piece_is_0.Γ
  split
  · exact DoesAt.none
theorem letter_piece_is_0.does {R : Type} (tab : Tab) (ht : TabOk tab) (a0 : Int) (a1 : ByteArray) (a2 : ByteArray) (κ : List SV → Option R) : DoesAt Tryz.prog (tabTy tyL) tab 68 [.agg [.int .i64 a0, .str a1], .str a2] κ (letter_piece_is_0 a0 a1 a2 (fun r0 => κ [.bool r0])) := by
  intro r h w vs Rt Ra bs hpre
  exact runF_sound tyOk (letter_piece_is_0.Γ_does tab ht) (show Tryz.prog.funcs[68]? = some Tryz.f68 by kernel_rfl) (by kernel_rfl) ((letter_piece_is_0.run R κ a0 a1 a2).trans h) hpre
def letter_find_ois.Γ {R : Type} (c1 : letter_piece_is_0.F R) (g : Nat) (xs : List SV) (κ : List SV → Option R) : Option R :=
  match g with
  | 68 => (match xs with
    | [.agg [.int .i64 a0, .str a1], .str a2] => c1 a0 a1 a2 (fun r0 => κ [.bool r0])
    | _ => none)
  | _ => none
def letter_find_ois.h (n : Nat) : Option (List (Nat × List (Nat × Nat))) :=
  match n with
  | 2 => some [(0, [(0, 0)]), (2, [(0, 0)]), (7, [(0, 0)])]
  | _ => none
def letter_find_ois.C (R : Type) (c1 : letter_piece_is_0.F R) : Cfg R := ⟨tabTy tyL, letter_find_ois.Γ c1, fun _ => false, letter_find_ois.h⟩
def letter_find_ois.s2 (x0 : List AV) (x1 : ByteArray) (x2 : Int) : St := ⟨mkS 24 [(0, .ro 89 x0 false), (2, .str x1), (7, .int .i64 x2)], [], top⟩
theorem letter_find_ois.c2 (R : Type) (c1 : letter_piece_is_0.F R) (J : List Item → St → Option R) (κ : List SV → Option R) (x0 : List AV) (x1 : ByteArray) (x2 : Int) :
    start (letter_find_ois.C R c1) J (retK (letter_find_ois.C R c1) Tryz.f69.results.toList (List.range 0) κ) 10000 (placeOf Tryz.f69 2) (letter_find_ois.s2 x0 x1 x2) = letter_find_ois.t2 c1 x0 x1 x2 (fun y0 y1 y2 => J (placeOf Tryz.f69 2) (letter_find_ois.s2 y0 y1 y2)) (fun r0 => κ [.int .i64 r0]) := by kernel_rfl
theorem letter_find_ois.c (R : Type) (c1 : letter_piece_is_0.F R) (κ : List SV → Option R) (k : Nat) (a0 : List AV) (a1 : Int) (a2 : ByteArray) :
    runF (letter_find_ois.C R c1) Tryz.f69 10000 k [.ro 89 a0 false, .int .i64 a1, .str a2] κ = letter_find_ois.e c1 a0 a1 a2 (fun y0 y1 y2 => goto (letter_find_ois.C R c1) (retK (letter_find_ois.C R c1) Tryz.f69.results.toList (List.range 0) κ) 10000 k (placeOf Tryz.f69 2) (letter_find_ois.s2 y0 y1 y2)) (fun r0 => κ [.int .i64 r0]) := by kernel_rfl
theorem letter_find_ois.g2 (R : Type) (c1 : letter_piece_is_0.F R) (κ : List SV → Option R) : ∀ (f : Nat) (x0 : List AV) (x1 : ByteArray) (x2 : Int), goto (letter_find_ois.C R c1) (retK (letter_find_ois.C R c1) Tryz.f69.results.toList (List.range 0) κ) 10000 f (placeOf Tryz.f69 2) (letter_find_ois.s2 x0 x1 x2) = letter_find_ois.L2 c1 (fun r0 => κ [.int .i64 r0]) f x0 x1 x2
  | 0, _, _, _ => rfl
  | f + 1, x0, x1, x2 => by
    show start (letter_find_ois.C R c1) (goto (letter_find_ois.C R c1) (retK (letter_find_ois.C R c1) Tryz.f69.results.toList (List.range 0) κ) 10000 f) (retK (letter_find_ois.C R c1) Tryz.f69.results.toList (List.range 0) κ) 10000 (placeOf Tryz.f69 2) (letter_find_ois.s2 x0 x1 x2) = _
    rw [letter_find_ois.c2]
    simp only [letter_find_ois.g2 R c1 κ f]
    rfl
theorem letter_find_ois.run (R : Type) (κ : List SV → Option R) (a0 : List AV) (a1 : Int) (a2 : ByteArray) :
    runF (letter_find_ois.C R letter_piece_is_0) Tryz.f69 10000 fuelK [.ro 89 a0 false, .int .i64 a1, .str a2] κ = letter_find_ois a0 a1 a2 (fun r0 => κ [.int .i64 r0]) := by
  rw [letter_find_ois.c]
  simp only [letter_find_ois.g2 R letter_piece_is_0 κ fuelK]
  rfl
theorem letter_find_ois.Γ_does {R : Type} (tab : Tab) (ht : TabOk tab) (g : Nat) : Does (R := R) Tryz.prog (tabTy tyL) tab g ((letter_find_ois.C R letter_piece_is_0).call g) := by
  refine does_of fun xs κ => ?_
  show DoesAt _ _ _ g xs κ (letter_find_ois.Γ letter_piece_is_0 g xs κ)
  unfold letter_find_ois.Γ
  split
  · split
    · exact letter_piece_is_0.does tab ht _ _ _ κ
    · exact DoesAt.none
  · exact DoesAt.none
theorem letter_find_ois.does {R : Type} (tab : Tab) (ht : TabOk tab) (a0 : List AV) (a1 : Int) (a2 : ByteArray) (κ : List SV → Option R) : DoesAt Tryz.prog (tabTy tyL) tab 69 [.ro 89 a0 false, .int .i64 a1, .str a2] κ (letter_find_ois a0 a1 a2 (fun r0 => κ [.int .i64 r0])) := by
  intro r h w vs Rt Ra bs hpre
  exact runF_sound tyOk (letter_find_ois.Γ_does tab ht) (show Tryz.prog.funcs[69]? = some Tryz.f69 by kernel_rfl) (by kernel_rfl) ((letter_find_ois.run R κ a0 a1 a2).trans h) hpre
def letter_part_oi.Γ {R : Type} (c1 : letter_piece_is_0.F R) (c2 : letter_find_ois.F R) (g : Nat) (xs : List SV) (κ : List SV → Option R) : Option R :=
  match g with
  | 68 => (match xs with
    | [.agg [.int .i64 a0, .str a1], .str a2] => c1 a0 a1 a2 (fun r0 => κ [.bool r0])
    | _ => none)
  | 69 => (match xs with
    | [.ro 89 a0 false, .int .i64 a1, .str a2] => c2 a0 a1 a2 (fun r0 => κ [.int .i64 r0])
    | _ => none)
  | _ => none
def letter_part_oi.h (n : Nat) : Option (List (Nat × List (Nat × Nat))) :=
  match n with
  | 2 => some [(0, [(0, 0)]), (5, [(0, 0)])]
  | _ => none
def letter_part_oi.C (R : Type) (c1 : letter_piece_is_0.F R) (c2 : letter_find_ois.F R) : Cfg R := ⟨tabTy tyL, letter_part_oi.Γ c1 c2, fun _ => false, letter_part_oi.h⟩
def letter_part_oi.s2 (x0 : List AV) (x1 : Int) : St := ⟨mkS 50 [(0, .ro 89 x0 false), (5, .int .i64 x1)], [], top⟩
theorem letter_part_oi.c2 (R : Type) (c1 : letter_piece_is_0.F R) (c2 : letter_find_ois.F R) (J : List Item → St → Option R) (κ : List SV → Option R) (x0 : List AV) (x1 : Int) :
    start (letter_part_oi.C R c1 c2) J (retK (letter_part_oi.C R c1 c2) Tryz.f57.results.toList (List.range 0) κ) 10000 (placeOf Tryz.f57 2) (letter_part_oi.s2 x0 x1) = letter_part_oi.t2 c1 c2 x0 x1 (fun y0 y1 => J (placeOf Tryz.f57 2) (letter_part_oi.s2 y0 y1)) (fun r0 => κ [.int .i64 r0]) := by kernel_rfl
theorem letter_part_oi.c (R : Type) (c1 : letter_piece_is_0.F R) (c2 : letter_find_ois.F R) (κ : List SV → Option R) (k : Nat) (a0 : List AV) (a1 : Int) :
    runF (letter_part_oi.C R c1 c2) Tryz.f57 10000 k [.ro 89 a0 false, .int .i64 a1] κ = letter_part_oi.e c1 c2 a0 a1 (fun y0 y1 => goto (letter_part_oi.C R c1 c2) (retK (letter_part_oi.C R c1 c2) Tryz.f57.results.toList (List.range 0) κ) 10000 k (placeOf Tryz.f57 2) (letter_part_oi.s2 y0 y1)) (fun r0 => κ [.int .i64 r0]) := by kernel_rfl
theorem letter_part_oi.g2 (R : Type) (c1 : letter_piece_is_0.F R) (c2 : letter_find_ois.F R) (κ : List SV → Option R) : ∀ (f : Nat) (x0 : List AV) (x1 : Int), goto (letter_part_oi.C R c1 c2) (retK (letter_part_oi.C R c1 c2) Tryz.f57.results.toList (List.range 0) κ) 10000 f (placeOf Tryz.f57 2) (letter_part_oi.s2 x0 x1) = letter_part_oi.L2 c1 c2 (fun r0 => κ [.int .i64 r0]) f x0 x1
  | 0, _, _ => rfl
  | f + 1, x0, x1 => by
    show start (letter_part_oi.C R c1 c2) (goto (letter_part_oi.C R c1 c2) (retK (letter_part_oi.C R c1 c2) Tryz.f57.results.toList (List.range 0) κ) 10000 f) (retK (letter_part_oi.C R c1 c2) Tryz.f57.results.toList (List.range 0) κ) 10000 (placeOf Tryz.f57 2) (letter_part_oi.s2 x0 x1) = _
    rw [letter_part_oi.c2]
    simp only [letter_part_oi.g2 R c1 c2 κ f]
    rfl
theorem letter_part_oi.run (R : Type) (κ : List SV → Option R) (a0 : List AV) (a1 : Int) :
    runF (letter_part_oi.C R letter_piece_is_0 letter_find_ois) Tryz.f57 10000 fuelK [.ro 89 a0 false, .int .i64 a1] κ = letter_part_oi a0 a1 (fun r0 => κ [.int .i64 r0]) := by
  rw [letter_part_oi.c]
  simp only [letter_part_oi.g2 R letter_piece_is_0 letter_find_ois κ fuelK]
  rfl
theorem letter_part_oi.Γ_does {R : Type} (tab : Tab) (ht : TabOk tab) (g : Nat) : Does (R := R) Tryz.prog (tabTy tyL) tab g ((letter_part_oi.C R letter_piece_is_0 letter_find_ois).call g) := by
  refine does_of fun xs κ => ?_
  show DoesAt _ _ _ g xs κ (letter_part_oi.Γ letter_piece_is_0 letter_find_ois g xs κ)
  unfold letter_part_oi.Γ
  split
  · split
    · exact letter_piece_is_0.does tab ht _ _ _ κ
    · exact DoesAt.none
  · split
    · exact letter_find_ois.does tab ht _ _ _ κ
    · exact DoesAt.none
  · exact DoesAt.none
theorem letter_part_oi.does {R : Type} (tab : Tab) (ht : TabOk tab) (a0 : List AV) (a1 : Int) (κ : List SV → Option R) : DoesAt Tryz.prog (tabTy tyL) tab 57 [.ro 89 a0 false, .int .i64 a1] κ (letter_part_oi a0 a1 (fun r0 => κ [.int .i64 r0])) := by
  intro r h w vs Rt Ra bs hpre
  exact runF_sound tyOk (letter_part_oi.Γ_does tab ht) (show Tryz.prog.funcs[57]? = some Tryz.f57 by kernel_rfl) (by kernel_rfl) ((letter_part_oi.run R κ a0 a1).trans h) hpre
def strings_Builder_WriteString_vxfes.Γ {R : Type} (c1 : strings_Builder_copyCheck_vxfe.F R) (g : Nat) (xs : List SV) (κ : List SV → Option R) : Option R :=
  match g with
  | 99 => (match xs with
    | [.vp 74 [.nos, .fr 5 a0 true]] => c1 a0 (fun r0 => κ [.tup [], .vp 74 [.nos, .fr 5 r0 true]])
    | _ => none)
  | _ => none
def strings_Builder_WriteString_vxfes.h (n : Nat) : Option (List (Nat × List (Nat × Nat))) :=
  match n with
  | _ => none
def strings_Builder_WriteString_vxfes.C (R : Type) (c1 : strings_Builder_copyCheck_vxfe.F R) : Cfg R := ⟨tabTy tyL, strings_Builder_WriteString_vxfes.Γ c1, fun _ => false, strings_Builder_WriteString_vxfes.h⟩
theorem strings_Builder_WriteString_vxfes.c (R : Type) (c1 : strings_Builder_copyCheck_vxfe.F R) (κ : List SV → Option R) (k : Nat) (a0 : List AV) (a1 : ByteArray) :
    runF (strings_Builder_WriteString_vxfes.C R c1) Tryz.f47 10000 k [.vp 74 [.nos, .fr 5 a0 true], .str a1] κ = strings_Builder_WriteString_vxfes.e c1 a0 a1 (fun r0 r1 => κ [.tup [.int .i64 r0, .nili], .vp 74 [.nos, .fr 5 r1 true]]) := by kernel_rfl
theorem strings_Builder_WriteString_vxfes.run (R : Type) (κ : List SV → Option R) (a0 : List AV) (a1 : ByteArray) :
    runF (strings_Builder_WriteString_vxfes.C R strings_Builder_copyCheck_vxfe) Tryz.f47 10000 fuelK [.vp 74 [.nos, .fr 5 a0 true], .str a1] κ = strings_Builder_WriteString_vxfes a0 a1 (fun r0 r1 => κ [.tup [.int .i64 r0, .nili], .vp 74 [.nos, .fr 5 r1 true]]) := by
  rw [strings_Builder_WriteString_vxfes.c]
  rfl
theorem strings_Builder_WriteString_vxfes.Γ_does {R : Type} (tab : Tab) (ht : TabOk tab) (g : Nat) : Does (R := R) Tryz.prog (tabTy tyL) tab g ((strings_Builder_WriteString_vxfes.C R strings_Builder_copyCheck_vxfe).call g) := by
  refine does_of fun xs κ => ?_
  show DoesAt _ _ _ g xs κ (strings_Builder_WriteString_vxfes.Γ strings_Builder_copyCheck_vxfe g xs κ)
  unfold strings_Builder_WriteString_vxfes.Γ
  split
  · split
    · exact strings_Builder_copyCheck_vxfe.does tab ht _ κ
    · exact DoesAt.none
  · exact DoesAt.none
theorem strings_Builder_WriteString_vxfes.does {R : Type} (tab : Tab) (ht : TabOk tab) (a0 : List AV) (a1 : ByteArray) (κ : List SV → Option R) : DoesAt Tryz.prog (tabTy tyL) tab 47 [.vp 74 [.nos, .fr 5 a0 true], .str a1] κ (strings_Builder_WriteString_vxfes a0 a1 (fun r0 r1 => κ [.tup [.int .i64 r0, .nili], .vp 74 [.nos, .fr 5 r1 true]])) := by
  intro r h w vs Rt Ra bs hpre
  exact runF_sound tyOk (strings_Builder_WriteString_vxfes.Γ_does tab ht) (show Tryz.prog.funcs[47]? = some Tryz.f47 by kernel_rfl) (by kernel_rfl) ((strings_Builder_WriteString_vxfes.run R κ a0 a1).trans h) hpre
def letter_text_ob.Γ {R : Type} (c1 : strings_Builder_WriteByte_vxfei.F R) (c2 : strings_Builder_WriteString_vxfes.F R) (c3 : strings_Builder_String_vxfe.F R) (g : Nat) (xs : List SV) (κ : List SV → Option R) : Option R :=
  match g with
  | 47 => (match xs with
    | [.vp 74 [.nos, .fr 5 a0 true], .str a1] => c2 a0 a1 (fun r0 r1 => κ [.tup [.int .i64 r0, .nili], .vp 74 [.nos, .fr 5 r1 true]])
    | _ => none)
  | 49 => (match xs with
    | [.vp 74 [.nos, .fr 5 a0 true]] => c3 a0 (fun r0 => κ [.str r0, .vp 74 [.nos, .no]])
    | _ => none)
  | 110 => (match xs with
    | [.vp 74 [.nos, .fr 5 a0 true], .int .u8 a1] => c1 a0 a1 (fun r0 => κ [.nili, .vp 74 [.nos, .fr 5 r0 true]])
    | _ => none)
  | _ => none
def letter_text_ob.h (n : Nat) : Option (List (Nat × List (Nat × Nat))) :=
  match n with
  | 4 => some [(1, [(0, 0)]), (5, [(1, 7)]), (6, [(0, 0)]), (7, [(0, 0)]), (10, [(0, 0)]), (11, [(0, 0)]), (12, [(0, 0)])]
  | _ => none
def letter_text_ob.C (R : Type) (c1 : strings_Builder_WriteByte_vxfei.F R) (c2 : strings_Builder_WriteString_vxfes.F R) (c3 : strings_Builder_String_vxfe.F R) : Cfg R := ⟨tabTy tyL, letter_text_ob.Γ c1 c2 c3, fun _ => false, letter_text_ob.h⟩
def letter_text_ob.s4 (x0 : Bool) (x1 : Bool) (x2 : Bool) (x3 : List AV) (x4 : Int) (x5 : Int) (x6 : List AV) : St := ⟨mkS 31 [(1, .bool x0), (5, .ptr 447 0), (6, .bool x1), (7, .bool x2), (10, .ro 89 x3 false), (11, .int .i64 x4), (12, .int .i64 x5)], [(447, .var 74 [.nos, .own 385]), (385, .row 5 x6 true)], top⟩
theorem letter_text_ob.c4 (R : Type) (c1 : strings_Builder_WriteByte_vxfei.F R) (c2 : strings_Builder_WriteString_vxfes.F R) (c3 : strings_Builder_String_vxfe.F R) (J : List Item → St → Option R) (κ : List SV → Option R) (x0 : Bool) (x1 : Bool) (x2 : Bool) (x3 : List AV) (x4 : Int) (x5 : Int) (x6 : List AV) :
    start (letter_text_ob.C R c1 c2 c3) J (retK (letter_text_ob.C R c1 c2 c3) Tryz.f59.results.toList (List.range 0) κ) 10000 (placeOf Tryz.f59 4) (letter_text_ob.s4 x0 x1 x2 x3 x4 x5 x6) = letter_text_ob.t4 c1 c2 c3 x0 x1 x2 x3 x4 x5 x6 (fun y0 y1 y2 y3 y4 y5 y6 => J (placeOf Tryz.f59 4) (letter_text_ob.s4 y0 y1 y2 y3 y4 y5 y6)) (fun r0 => κ [.str r0]) := by kernel_rfl
theorem letter_text_ob.c (R : Type) (c1 : strings_Builder_WriteByte_vxfei.F R) (c2 : strings_Builder_WriteString_vxfes.F R) (c3 : strings_Builder_String_vxfe.F R) (κ : List SV → Option R) (k : Nat) (a0 : List AV) (a1 : Bool) :
    runF (letter_text_ob.C R c1 c2 c3) Tryz.f59 10000 k [.ro 89 a0 false, .bool a1] κ = letter_text_ob.e c1 c2 c3 a0 a1 (fun y0 y1 y2 y3 y4 y5 y6 => goto (letter_text_ob.C R c1 c2 c3) (retK (letter_text_ob.C R c1 c2 c3) Tryz.f59.results.toList (List.range 0) κ) 10000 k (placeOf Tryz.f59 4) (letter_text_ob.s4 y0 y1 y2 y3 y4 y5 y6)) (fun r0 => κ [.str r0]) := by kernel_rfl
theorem letter_text_ob.g4 (R : Type) (c1 : strings_Builder_WriteByte_vxfei.F R) (c2 : strings_Builder_WriteString_vxfes.F R) (c3 : strings_Builder_String_vxfe.F R) (κ : List SV → Option R) : ∀ (f : Nat) (x0 : Bool) (x1 : Bool) (x2 : Bool) (x3 : List AV) (x4 : Int) (x5 : Int) (x6 : List AV), goto (letter_text_ob.C R c1 c2 c3) (retK (letter_text_ob.C R c1 c2 c3) Tryz.f59.results.toList (List.range 0) κ) 10000 f (placeOf Tryz.f59 4) (letter_text_ob.s4 x0 x1 x2 x3 x4 x5 x6) = letter_text_ob.L4 c1 c2 c3 (fun r0 => κ [.str r0]) f x0 x1 x2 x3 x4 x5 x6
  | 0, _, _, _, _, _, _, _ => rfl
  | f + 1, x0, x1, x2, x3, x4, x5, x6 => by
    show start (letter_text_ob.C R c1 c2 c3) (goto (letter_text_ob.C R c1 c2 c3) (retK (letter_text_ob.C R c1 c2 c3) Tryz.f59.results.toList (List.range 0) κ) 10000 f) (retK (letter_text_ob.C R c1 c2 c3) Tryz.f59.results.toList (List.range 0) κ) 10000 (placeOf Tryz.f59 4) (letter_text_ob.s4 x0 x1 x2 x3 x4 x5 x6) = _
    rw [letter_text_ob.c4]
    simp only [letter_text_ob.g4 R c1 c2 c3 κ f]
    rfl
theorem letter_text_ob.run (R : Type) (κ : List SV → Option R) (a0 : List AV) (a1 : Bool) :
    runF (letter_text_ob.C R strings_Builder_WriteByte_vxfei strings_Builder_WriteString_vxfes strings_Builder_String_vxfe) Tryz.f59 10000 fuelK [.ro 89 a0 false, .bool a1] κ = letter_text_ob a0 a1 (fun r0 => κ [.str r0]) := by
  rw [letter_text_ob.c]
  simp only [letter_text_ob.g4 R strings_Builder_WriteByte_vxfei strings_Builder_WriteString_vxfes strings_Builder_String_vxfe κ fuelK]
  rfl
theorem letter_text_ob.Γ_does {R : Type} (tab : Tab) (ht : TabOk tab) (g : Nat) : Does (R := R) Tryz.prog (tabTy tyL) tab g ((letter_text_ob.C R strings_Builder_WriteByte_vxfei strings_Builder_WriteString_vxfes strings_Builder_String_vxfe).call g) := by
  refine does_of fun xs κ => ?_
  show DoesAt _ _ _ g xs κ (letter_text_ob.Γ strings_Builder_WriteByte_vxfei strings_Builder_WriteString_vxfes strings_Builder_String_vxfe g xs κ)
  unfold letter_text_ob.Γ
  split
  · split
    · exact strings_Builder_WriteString_vxfes.does tab ht _ _ κ
    · exact DoesAt.none
  · split
    · exact strings_Builder_String_vxfe.does tab ht _ κ
    · exact DoesAt.none
  · split
    · exact strings_Builder_WriteByte_vxfei.does tab ht _ _ κ
    · exact DoesAt.none
  · exact DoesAt.none
theorem letter_text_ob.does {R : Type} (tab : Tab) (ht : TabOk tab) (a0 : List AV) (a1 : Bool) (κ : List SV → Option R) : DoesAt Tryz.prog (tabTy tyL) tab 59 [.ro 89 a0 false, .bool a1] κ (letter_text_ob a0 a1 (fun r0 => κ [.str r0])) := by
  intro r h w vs Rt Ra bs hpre
  exact runF_sound tyOk (letter_text_ob.Γ_does tab ht) (show Tryz.prog.funcs[59]? = some Tryz.f59 by kernel_rfl) (by kernel_rfl) ((letter_text_ob.run R κ a0 a1).trans h) hpre
def letter_some_0.Γ {R : Type} (g : Nat) (xs : List SV) (κ : List SV → Option R) : Option R :=
  match g with
  | _ => none
def letter_some_0.h (n : Nat) : Option (List (Nat × List (Nat × Nat))) :=
  match n with
  | _ => none
def letter_some_0.C (R : Type) : Cfg R := ⟨tabTy tyL, letter_some_0.Γ, fun _ => false, letter_some_0.h⟩
theorem letter_some_0.c (R : Type) (κ : List SV → Option R) (k : Nat) (a0 : ByteArray) :
    runF (letter_some_0.C R) Tryz.f58 10000 k [.str a0] κ = letter_some_0.e a0 (fun r0 r1 => κ [.agg [.bool r0, .str r1]]) := by kernel_rfl
theorem letter_some_0.run (R : Type) (κ : List SV → Option R) (a0 : ByteArray) :
    runF (letter_some_0.C R) Tryz.f58 10000 fuelK [.str a0] κ = letter_some_0 a0 (fun r0 r1 => κ [.agg [.bool r0, .str r1]]) := by
  rw [letter_some_0.c]
  rfl
theorem letter_some_0.Γ_does {R : Type} (tab : Tab) (ht : TabOk tab) (g : Nat) : Does (R := R) Tryz.prog (tabTy tyL) tab g ((letter_some_0.C R).call g) := by
  refine does_of fun xs κ => ?_
  show DoesAt _ _ _ g xs κ (letter_some_0.Γ g xs κ)
  unfold letter_some_0.Γ
  split
  · exact DoesAt.none
theorem letter_some_0.does {R : Type} (tab : Tab) (ht : TabOk tab) (a0 : ByteArray) (κ : List SV → Option R) : DoesAt Tryz.prog (tabTy tyL) tab 58 [.str a0] κ (letter_some_0 a0 (fun r0 r1 => κ [.agg [.bool r0, .str r1]])) := by
  intro r h w vs Rt Ra bs hpre
  exact runF_sound tyOk (letter_some_0.Γ_does tab ht) (show Tryz.prog.funcs[58]? = some Tryz.f58 by kernel_rfl) (by kernel_rfl) ((letter_some_0.run R κ a0).trans h) hpre
def letter_held_o.Γ {R : Type} (g : Nat) (xs : List SV) (κ : List SV → Option R) : Option R :=
  match g with
  | _ => none
def letter_held_o.h (n : Nat) : Option (List (Nat × List (Nat × Nat))) :=
  match n with
  | 2 => some [(5, [(0, 0)]), (6, [(0, 0)]), (7, [(0, 0)])]
  | _ => none
def letter_held_o.C (R : Type) : Cfg R := ⟨tabTy tyL, letter_held_o.Γ, fun _ => false, letter_held_o.h⟩
def letter_held_o.s2 (x0 : List AV) (x1 : Int) (x2 : Int) : St := ⟨mkS 15 [(5, .ro 89 x0 false), (6, .int .i64 x1), (7, .int .i64 x2)], [], top⟩
theorem letter_held_o.c2 (R : Type) (J : List Item → St → Option R) (κ : List SV → Option R) (x0 : List AV) (x1 : Int) (x2 : Int) :
    start (letter_held_o.C R) J (retK (letter_held_o.C R) Tryz.f60.results.toList (List.range 0) κ) 10000 (placeOf Tryz.f60 2) (letter_held_o.s2 x0 x1 x2) = letter_held_o.t2 x0 x1 x2 (fun y0 y1 y2 => J (placeOf Tryz.f60 2) (letter_held_o.s2 y0 y1 y2)) (fun r0 => κ [.bool r0]) := by kernel_rfl
theorem letter_held_o.c (R : Type) (κ : List SV → Option R) (k : Nat) (a0 : List AV) :
    runF (letter_held_o.C R) Tryz.f60 10000 k [.ro 89 a0 false] κ = letter_held_o.e a0 (fun y0 y1 y2 => goto (letter_held_o.C R) (retK (letter_held_o.C R) Tryz.f60.results.toList (List.range 0) κ) 10000 k (placeOf Tryz.f60 2) (letter_held_o.s2 y0 y1 y2)) (fun r0 => κ [.bool r0]) := by kernel_rfl
theorem letter_held_o.g2 (R : Type) (κ : List SV → Option R) : ∀ (f : Nat) (x0 : List AV) (x1 : Int) (x2 : Int), goto (letter_held_o.C R) (retK (letter_held_o.C R) Tryz.f60.results.toList (List.range 0) κ) 10000 f (placeOf Tryz.f60 2) (letter_held_o.s2 x0 x1 x2) = letter_held_o.L2 (fun r0 => κ [.bool r0]) f x0 x1 x2
  | 0, _, _, _ => rfl
  | f + 1, x0, x1, x2 => by
    show start (letter_held_o.C R) (goto (letter_held_o.C R) (retK (letter_held_o.C R) Tryz.f60.results.toList (List.range 0) κ) 10000 f) (retK (letter_held_o.C R) Tryz.f60.results.toList (List.range 0) κ) 10000 (placeOf Tryz.f60 2) (letter_held_o.s2 x0 x1 x2) = _
    rw [letter_held_o.c2]
    simp only [letter_held_o.g2 R κ f]
    rfl
theorem letter_held_o.run (R : Type) (κ : List SV → Option R) (a0 : List AV) :
    runF (letter_held_o.C R) Tryz.f60 10000 fuelK [.ro 89 a0 false] κ = letter_held_o a0 (fun r0 => κ [.bool r0]) := by
  rw [letter_held_o.c]
  simp only [letter_held_o.g2 R κ fuelK]
  rfl
theorem letter_held_o.Γ_does {R : Type} (tab : Tab) (ht : TabOk tab) (g : Nat) : Does (R := R) Tryz.prog (tabTy tyL) tab g ((letter_held_o.C R).call g) := by
  refine does_of fun xs κ => ?_
  show DoesAt _ _ _ g xs κ (letter_held_o.Γ g xs κ)
  unfold letter_held_o.Γ
  split
  · exact DoesAt.none
theorem letter_held_o.does {R : Type} (tab : Tab) (ht : TabOk tab) (a0 : List AV) (κ : List SV → Option R) : DoesAt Tryz.prog (tabTy tyL) tab 60 [.ro 89 a0 false] κ (letter_held_o a0 (fun r0 => κ [.bool r0])) := by
  intro r h w vs Rt Ra bs hpre
  exact runF_sound tyOk (letter_held_o.Γ_does tab ht) (show Tryz.prog.funcs[60]? = some Tryz.f60 by kernel_rfl) (by kernel_rfl) ((letter_held_o.run R κ a0).trans h) hpre
def letter_routed_o.Γ {R : Type} (c1 : letter_piece_is_0.F R) (g : Nat) (xs : List SV) (κ : List SV → Option R) : Option R :=
  match g with
  | 68 => (match xs with
    | [.agg [.int .i64 a0, .str a1], .str a2] => c1 a0 a1 a2 (fun r0 => κ [.bool r0])
    | _ => none)
  | _ => none
def letter_routed_o.h (n : Nat) : Option (List (Nat × List (Nat × Nat))) :=
  match n with
  | 2 => some [(5, [(0, 0)]), (6, [(0, 0)]), (7, [(0, 0)])]
  | _ => none
def letter_routed_o.C (R : Type) (c1 : letter_piece_is_0.F R) : Cfg R := ⟨tabTy tyL, letter_routed_o.Γ c1, fun _ => false, letter_routed_o.h⟩
def letter_routed_o.s2 (x0 : List AV) (x1 : Int) (x2 : Int) : St := ⟨mkS 17 [(5, .ro 89 x0 false), (6, .int .i64 x1), (7, .int .i64 x2)], [], top⟩
theorem letter_routed_o.c2 (R : Type) (c1 : letter_piece_is_0.F R) (J : List Item → St → Option R) (κ : List SV → Option R) (x0 : List AV) (x1 : Int) (x2 : Int) :
    start (letter_routed_o.C R c1) J (retK (letter_routed_o.C R c1) Tryz.f111.results.toList (List.range 0) κ) 10000 (placeOf Tryz.f111 2) (letter_routed_o.s2 x0 x1 x2) = letter_routed_o.t2 c1 x0 x1 x2 (fun y0 y1 y2 => J (placeOf Tryz.f111 2) (letter_routed_o.s2 y0 y1 y2)) (fun r0 => κ [.bool r0]) := by kernel_rfl
theorem letter_routed_o.c (R : Type) (c1 : letter_piece_is_0.F R) (κ : List SV → Option R) (k : Nat) (a0 : List AV) :
    runF (letter_routed_o.C R c1) Tryz.f111 10000 k [.ro 89 a0 false] κ = letter_routed_o.e c1 a0 (fun y0 y1 y2 => goto (letter_routed_o.C R c1) (retK (letter_routed_o.C R c1) Tryz.f111.results.toList (List.range 0) κ) 10000 k (placeOf Tryz.f111 2) (letter_routed_o.s2 y0 y1 y2)) (fun r0 => κ [.bool r0]) := by kernel_rfl
theorem letter_routed_o.g2 (R : Type) (c1 : letter_piece_is_0.F R) (κ : List SV → Option R) : ∀ (f : Nat) (x0 : List AV) (x1 : Int) (x2 : Int), goto (letter_routed_o.C R c1) (retK (letter_routed_o.C R c1) Tryz.f111.results.toList (List.range 0) κ) 10000 f (placeOf Tryz.f111 2) (letter_routed_o.s2 x0 x1 x2) = letter_routed_o.L2 c1 (fun r0 => κ [.bool r0]) f x0 x1 x2
  | 0, _, _, _ => rfl
  | f + 1, x0, x1, x2 => by
    show start (letter_routed_o.C R c1) (goto (letter_routed_o.C R c1) (retK (letter_routed_o.C R c1) Tryz.f111.results.toList (List.range 0) κ) 10000 f) (retK (letter_routed_o.C R c1) Tryz.f111.results.toList (List.range 0) κ) 10000 (placeOf Tryz.f111 2) (letter_routed_o.s2 x0 x1 x2) = _
    rw [letter_routed_o.c2]
    simp only [letter_routed_o.g2 R c1 κ f]
    rfl
theorem letter_routed_o.run (R : Type) (κ : List SV → Option R) (a0 : List AV) :
    runF (letter_routed_o.C R letter_piece_is_0) Tryz.f111 10000 fuelK [.ro 89 a0 false] κ = letter_routed_o a0 (fun r0 => κ [.bool r0]) := by
  rw [letter_routed_o.c]
  simp only [letter_routed_o.g2 R letter_piece_is_0 κ fuelK]
  rfl
theorem letter_routed_o.Γ_does {R : Type} (tab : Tab) (ht : TabOk tab) (g : Nat) : Does (R := R) Tryz.prog (tabTy tyL) tab g ((letter_routed_o.C R letter_piece_is_0).call g) := by
  refine does_of fun xs κ => ?_
  show DoesAt _ _ _ g xs κ (letter_routed_o.Γ letter_piece_is_0 g xs κ)
  unfold letter_routed_o.Γ
  split
  · split
    · exact letter_piece_is_0.does tab ht _ _ _ κ
    · exact DoesAt.none
  · exact DoesAt.none
theorem letter_routed_o.does {R : Type} (tab : Tab) (ht : TabOk tab) (a0 : List AV) (κ : List SV → Option R) : DoesAt Tryz.prog (tabTy tyL) tab 111 [.ro 89 a0 false] κ (letter_routed_o a0 (fun r0 => κ [.bool r0])) := by
  intro r h w vs Rt Ra bs hpre
  exact runF_sound tyOk (letter_routed_o.Γ_does tab ht) (show Tryz.prog.funcs[111]? = some Tryz.f111 by kernel_rfl) (by kernel_rfl) ((letter_routed_o.run R κ a0).trans h) hpre
def letter_address_o.Γ {R : Type} (c1 : letter_find_ois.F R) (c2 : letter_held_o.F R) (c3 : letter_text_ob.F R) (c4 : letter_some_0.F R) (c5 : letter_routed_o.F R) (c6 : letter_piece_is_0.F R) (g : Nat) (xs : List SV) (κ : List SV → Option R) : Option R :=
  match g with
  | 58 => (match xs with
    | [.str a0] => c4 a0 (fun r0 r1 => κ [.agg [.bool r0, .str r1]])
    | _ => none)
  | 59 => (match xs with
    | [.ro 89 a0 false, .bool a1] => c3 a0 a1 (fun r0 => κ [.str r0])
    | _ => none)
  | 60 => (match xs with
    | [.ro 89 a0 false] => c2 a0 (fun r0 => κ [.bool r0])
    | _ => none)
  | 68 => (match xs with
    | [.agg [.int .i64 a0, .str a1], .str a2] => c6 a0 a1 a2 (fun r0 => κ [.bool r0])
    | _ => none)
  | 69 => (match xs with
    | [.ro 89 a0 false, .int .i64 a1, .str a2] => c1 a0 a1 a2 (fun r0 => κ [.int .i64 r0])
    | _ => none)
  | 111 => (match xs with
    | [.ro 89 a0 false] => c5 a0 (fun r0 => κ [.bool r0])
    | _ => none)
  | _ => none
def letter_address_o.h (n : Nat) : Option (List (Nat × List (Nat × Nat))) :=
  match n with
  | 7 => some [(0, [(0, 0)]), (2, [(0, 0)]), (3, [(0, 0)]), (5, [(0, 0)])]
  | 13 => some [(2, [(0, 0)]), (3, [(0, 0)]), (4, [(0, 0)]), (7, [(0, 0)])]
  | 14 => some [(2, [(0, 0)]), (3, [(0, 0)]), (4, [(0, 0)]), (7, [(0, 0)]), (54, [(0, 0)]), (55, [(0, 0)]), (56, [(0, 0)])]
  | _ => none
def letter_address_o.C (R : Type) (c1 : letter_find_ois.F R) (c2 : letter_held_o.F R) (c3 : letter_text_ob.F R) (c4 : letter_some_0.F R) (c5 : letter_routed_o.F R) (c6 : letter_piece_is_0.F R) : Cfg R := ⟨tabTy tyL, letter_address_o.Γ c1 c2 c3 c4 c5 c6, fun _ => false, letter_address_o.h⟩
def letter_address_o.s7 (x0 : List AV) (x1 : Int) (x2 : Bool) (x3 : ByteArray) (x4 : Bool) (x5 : ByteArray) (x6 : Bool) (x7 : ByteArray) (x8 : Bool) (x9 : ByteArray) (x10 : Bool) (x11 : ByteArray) (x12 : Bool) (x13 : ByteArray) (x14 : Bool) (x15 : ByteArray) (x16 : Bool) (x17 : ByteArray) : St := ⟨mkS 88 [(0, .ro 89 x0 false), (2, .ptr 255 0), (3, .ptr 319 0), (5, .int .i64 x1)], [(255, .var 60 [.bool x2, .str x3, .bool x4, .str x5, .bool x6, .str x7, .bool x8, .str x9]), (319, .var 60 [.bool x10, .str x11, .bool x12, .str x13, .bool x14, .str x15, .bool x16, .str x17])], top⟩
def letter_address_o.s13 (x0 : List AV) (x1 : Int) (x2 : Bool) (x3 : ByteArray) (x4 : Bool) (x5 : ByteArray) (x6 : Bool) (x7 : ByteArray) (x8 : Bool) (x9 : ByteArray) (x10 : Bool) (x11 : ByteArray) (x12 : Bool) (x13 : ByteArray) (x14 : Bool) (x15 : ByteArray) (x16 : Bool) (x17 : ByteArray) : St := ⟨mkS 88 [(2, .ptr 255 0), (3, .ptr 319 0), (4, .ro 89 x0 false), (7, .int .i64 x1)], [(255, .var 60 [.bool x2, .str x3, .bool x4, .str x5, .bool x6, .str x7, .bool x8, .str x9]), (319, .var 60 [.bool x10, .str x11, .bool x12, .str x13, .bool x14, .str x15, .bool x16, .str x17])], top⟩
def letter_address_o.s14 (x0 : List AV) (x1 : Int) (x2 : List AV) (x3 : Int) (x4 : Int) (x5 : Bool) (x6 : ByteArray) (x7 : Bool) (x8 : ByteArray) (x9 : Bool) (x10 : ByteArray) (x11 : Bool) (x12 : ByteArray) (x13 : Bool) (x14 : ByteArray) (x15 : Bool) (x16 : ByteArray) (x17 : Bool) (x18 : ByteArray) (x19 : Bool) (x20 : ByteArray) : St := ⟨mkS 88 [(2, .ptr 255 0), (3, .ptr 319 0), (4, .ro 89 x0 false), (7, .int .i64 x1), (54, .ro 89 x2 false), (55, .int .i64 x3), (56, .int .i64 x4)], [(255, .var 60 [.bool x5, .str x6, .bool x7, .str x8, .bool x9, .str x10, .bool x11, .str x12]), (319, .var 60 [.bool x13, .str x14, .bool x15, .str x16, .bool x17, .str x18, .bool x19, .str x20])], top⟩
theorem letter_address_o.c7 (R : Type) (c1 : letter_find_ois.F R) (c2 : letter_held_o.F R) (c3 : letter_text_ob.F R) (c4 : letter_some_0.F R) (c5 : letter_routed_o.F R) (c6 : letter_piece_is_0.F R) (J : List Item → St → Option R) (κ : List SV → Option R) (x0 : List AV) (x1 : Int) (x2 : Bool) (x3 : ByteArray) (x4 : Bool) (x5 : ByteArray) (x6 : Bool) (x7 : ByteArray) (x8 : Bool) (x9 : ByteArray) (x10 : Bool) (x11 : ByteArray) (x12 : Bool) (x13 : ByteArray) (x14 : Bool) (x15 : ByteArray) (x16 : Bool) (x17 : ByteArray) :
    start (letter_address_o.C R c1 c2 c3 c4 c5 c6) J (retK (letter_address_o.C R c1 c2 c3 c4 c5 c6) Tryz.f61.results.toList (List.range 0) κ) 10000 (placeOf Tryz.f61 7) (letter_address_o.s7 x0 x1 x2 x3 x4 x5 x6 x7 x8 x9 x10 x11 x12 x13 x14 x15 x16 x17) = letter_address_o.t7 c1 c2 c3 c4 c5 c6 x0 x1 x2 x3 x4 x5 x6 x7 x8 x9 x10 x11 x12 x13 x14 x15 x16 x17 (fun y0 y1 y2 y3 y4 y5 y6 y7 y8 y9 y10 y11 y12 y13 y14 y15 y16 y17 => J (placeOf Tryz.f61 7) (letter_address_o.s7 y0 y1 y2 y3 y4 y5 y6 y7 y8 y9 y10 y11 y12 y13 y14 y15 y16 y17)) (fun y0 y1 y2 y3 y4 y5 y6 y7 y8 y9 y10 y11 y12 y13 y14 y15 y16 y17 => J (placeOf Tryz.f61 13) (letter_address_o.s13 y0 y1 y2 y3 y4 y5 y6 y7 y8 y9 y10 y11 y12 y13 y14 y15 y16 y17)) (fun y0 y1 y2 y3 y4 y5 y6 y7 y8 y9 y10 y11 y12 y13 y14 y15 y16 y17 y18 y19 y20 => J (placeOf Tryz.f61 14) (letter_address_o.s14 y0 y1 y2 y3 y4 y5 y6 y7 y8 y9 y10 y11 y12 y13 y14 y15 y16 y17 y18 y19 y20)) (fun r0 r1 r2 r3 r4 r5 r6 r7 => κ [.agg [.bool r0, .str r1, .bool r2, .str r3, .bool r4, .str r5, .bool r6, .str r7]]) := by kernel_rfl
theorem letter_address_o.c13 (R : Type) (c1 : letter_find_ois.F R) (c2 : letter_held_o.F R) (c3 : letter_text_ob.F R) (c4 : letter_some_0.F R) (c5 : letter_routed_o.F R) (c6 : letter_piece_is_0.F R) (J : List Item → St → Option R) (κ : List SV → Option R) (x0 : List AV) (x1 : Int) (x2 : Bool) (x3 : ByteArray) (x4 : Bool) (x5 : ByteArray) (x6 : Bool) (x7 : ByteArray) (x8 : Bool) (x9 : ByteArray) (x10 : Bool) (x11 : ByteArray) (x12 : Bool) (x13 : ByteArray) (x14 : Bool) (x15 : ByteArray) (x16 : Bool) (x17 : ByteArray) :
    start (letter_address_o.C R c1 c2 c3 c4 c5 c6) J (retK (letter_address_o.C R c1 c2 c3 c4 c5 c6) Tryz.f61.results.toList (List.range 0) κ) 10000 (placeOf Tryz.f61 13) (letter_address_o.s13 x0 x1 x2 x3 x4 x5 x6 x7 x8 x9 x10 x11 x12 x13 x14 x15 x16 x17) = letter_address_o.t13 c1 c2 c3 c4 c5 c6 x0 x1 x2 x3 x4 x5 x6 x7 x8 x9 x10 x11 x12 x13 x14 x15 x16 x17 (fun y0 y1 y2 y3 y4 y5 y6 y7 y8 y9 y10 y11 y12 y13 y14 y15 y16 y17 => J (placeOf Tryz.f61 7) (letter_address_o.s7 y0 y1 y2 y3 y4 y5 y6 y7 y8 y9 y10 y11 y12 y13 y14 y15 y16 y17)) (fun y0 y1 y2 y3 y4 y5 y6 y7 y8 y9 y10 y11 y12 y13 y14 y15 y16 y17 => J (placeOf Tryz.f61 13) (letter_address_o.s13 y0 y1 y2 y3 y4 y5 y6 y7 y8 y9 y10 y11 y12 y13 y14 y15 y16 y17)) (fun y0 y1 y2 y3 y4 y5 y6 y7 y8 y9 y10 y11 y12 y13 y14 y15 y16 y17 y18 y19 y20 => J (placeOf Tryz.f61 14) (letter_address_o.s14 y0 y1 y2 y3 y4 y5 y6 y7 y8 y9 y10 y11 y12 y13 y14 y15 y16 y17 y18 y19 y20)) (fun r0 r1 r2 r3 r4 r5 r6 r7 => κ [.agg [.bool r0, .str r1, .bool r2, .str r3, .bool r4, .str r5, .bool r6, .str r7]]) := by kernel_rfl
theorem letter_address_o.c14 (R : Type) (c1 : letter_find_ois.F R) (c2 : letter_held_o.F R) (c3 : letter_text_ob.F R) (c4 : letter_some_0.F R) (c5 : letter_routed_o.F R) (c6 : letter_piece_is_0.F R) (J : List Item → St → Option R) (κ : List SV → Option R) (x0 : List AV) (x1 : Int) (x2 : List AV) (x3 : Int) (x4 : Int) (x5 : Bool) (x6 : ByteArray) (x7 : Bool) (x8 : ByteArray) (x9 : Bool) (x10 : ByteArray) (x11 : Bool) (x12 : ByteArray) (x13 : Bool) (x14 : ByteArray) (x15 : Bool) (x16 : ByteArray) (x17 : Bool) (x18 : ByteArray) (x19 : Bool) (x20 : ByteArray) :
    start (letter_address_o.C R c1 c2 c3 c4 c5 c6) J (retK (letter_address_o.C R c1 c2 c3 c4 c5 c6) Tryz.f61.results.toList (List.range 0) κ) 10000 (placeOf Tryz.f61 14) (letter_address_o.s14 x0 x1 x2 x3 x4 x5 x6 x7 x8 x9 x10 x11 x12 x13 x14 x15 x16 x17 x18 x19 x20) = letter_address_o.t14 c1 c2 c3 c4 c5 c6 x0 x1 x2 x3 x4 x5 x6 x7 x8 x9 x10 x11 x12 x13 x14 x15 x16 x17 x18 x19 x20 (fun y0 y1 y2 y3 y4 y5 y6 y7 y8 y9 y10 y11 y12 y13 y14 y15 y16 y17 => J (placeOf Tryz.f61 7) (letter_address_o.s7 y0 y1 y2 y3 y4 y5 y6 y7 y8 y9 y10 y11 y12 y13 y14 y15 y16 y17)) (fun y0 y1 y2 y3 y4 y5 y6 y7 y8 y9 y10 y11 y12 y13 y14 y15 y16 y17 => J (placeOf Tryz.f61 13) (letter_address_o.s13 y0 y1 y2 y3 y4 y5 y6 y7 y8 y9 y10 y11 y12 y13 y14 y15 y16 y17)) (fun y0 y1 y2 y3 y4 y5 y6 y7 y8 y9 y10 y11 y12 y13 y14 y15 y16 y17 y18 y19 y20 => J (placeOf Tryz.f61 14) (letter_address_o.s14 y0 y1 y2 y3 y4 y5 y6 y7 y8 y9 y10 y11 y12 y13 y14 y15 y16 y17 y18 y19 y20)) (fun r0 r1 r2 r3 r4 r5 r6 r7 => κ [.agg [.bool r0, .str r1, .bool r2, .str r3, .bool r4, .str r5, .bool r6, .str r7]]) := by kernel_rfl
theorem letter_address_o.c (R : Type) (c1 : letter_find_ois.F R) (c2 : letter_held_o.F R) (c3 : letter_text_ob.F R) (c4 : letter_some_0.F R) (c5 : letter_routed_o.F R) (c6 : letter_piece_is_0.F R) (κ : List SV → Option R) (k : Nat) (a0 : List AV) :
    runF (letter_address_o.C R c1 c2 c3 c4 c5 c6) Tryz.f61 10000 k [.ro 89 a0 false] κ = letter_address_o.e c1 c2 c3 c4 c5 c6 a0 (fun y0 y1 y2 y3 y4 y5 y6 y7 y8 y9 y10 y11 y12 y13 y14 y15 y16 y17 => goto (letter_address_o.C R c1 c2 c3 c4 c5 c6) (retK (letter_address_o.C R c1 c2 c3 c4 c5 c6) Tryz.f61.results.toList (List.range 0) κ) 10000 k (placeOf Tryz.f61 7) (letter_address_o.s7 y0 y1 y2 y3 y4 y5 y6 y7 y8 y9 y10 y11 y12 y13 y14 y15 y16 y17)) (fun y0 y1 y2 y3 y4 y5 y6 y7 y8 y9 y10 y11 y12 y13 y14 y15 y16 y17 => goto (letter_address_o.C R c1 c2 c3 c4 c5 c6) (retK (letter_address_o.C R c1 c2 c3 c4 c5 c6) Tryz.f61.results.toList (List.range 0) κ) 10000 k (placeOf Tryz.f61 13) (letter_address_o.s13 y0 y1 y2 y3 y4 y5 y6 y7 y8 y9 y10 y11 y12 y13 y14 y15 y16 y17)) (fun y0 y1 y2 y3 y4 y5 y6 y7 y8 y9 y10 y11 y12 y13 y14 y15 y16 y17 y18 y19 y20 => goto (letter_address_o.C R c1 c2 c3 c4 c5 c6) (retK (letter_address_o.C R c1 c2 c3 c4 c5 c6) Tryz.f61.results.toList (List.range 0) κ) 10000 k (placeOf Tryz.f61 14) (letter_address_o.s14 y0 y1 y2 y3 y4 y5 y6 y7 y8 y9 y10 y11 y12 y13 y14 y15 y16 y17 y18 y19 y20)) (fun r0 r1 r2 r3 r4 r5 r6 r7 => κ [.agg [.bool r0, .str r1, .bool r2, .str r3, .bool r4, .str r5, .bool r6, .str r7]]) := by kernel_rfl
theorem letter_address_o.g14 (R : Type) (c1 : letter_find_ois.F R) (c2 : letter_held_o.F R) (c3 : letter_text_ob.F R) (c4 : letter_some_0.F R) (c5 : letter_routed_o.F R) (c6 : letter_piece_is_0.F R) (κ : List SV → Option R) : ∀ (f : Nat) (x0 : List AV) (x1 : Int) (x2 : List AV) (x3 : Int) (x4 : Int) (x5 : Bool) (x6 : ByteArray) (x7 : Bool) (x8 : ByteArray) (x9 : Bool) (x10 : ByteArray) (x11 : Bool) (x12 : ByteArray) (x13 : Bool) (x14 : ByteArray) (x15 : Bool) (x16 : ByteArray) (x17 : Bool) (x18 : ByteArray) (x19 : Bool) (x20 : ByteArray), goto (letter_address_o.C R c1 c2 c3 c4 c5 c6) (retK (letter_address_o.C R c1 c2 c3 c4 c5 c6) Tryz.f61.results.toList (List.range 0) κ) 10000 f (placeOf Tryz.f61 14) (letter_address_o.s14 x0 x1 x2 x3 x4 x5 x6 x7 x8 x9 x10 x11 x12 x13 x14 x15 x16 x17 x18 x19 x20) = letter_address_o.L14 c1 c2 c3 c4 c5 c6 (fun r0 r1 r2 r3 r4 r5 r6 r7 => κ [.agg [.bool r0, .str r1, .bool r2, .str r3, .bool r4, .str r5, .bool r6, .str r7]]) f x0 x1 x2 x3 x4 x5 x6 x7 x8 x9 x10 x11 x12 x13 x14 x15 x16 x17 x18 x19 x20
  | 0, _, _, _, _, _, _, _, _, _, _, _, _, _, _, _, _, _, _, _, _, _ => rfl
  | f + 1, x0, x1, x2, x3, x4, x5, x6, x7, x8, x9, x10, x11, x12, x13, x14, x15, x16, x17, x18, x19, x20 => by
    show start (letter_address_o.C R c1 c2 c3 c4 c5 c6) (goto (letter_address_o.C R c1 c2 c3 c4 c5 c6) (retK (letter_address_o.C R c1 c2 c3 c4 c5 c6) Tryz.f61.results.toList (List.range 0) κ) 10000 f) (retK (letter_address_o.C R c1 c2 c3 c4 c5 c6) Tryz.f61.results.toList (List.range 0) κ) 10000 (placeOf Tryz.f61 14) (letter_address_o.s14 x0 x1 x2 x3 x4 x5 x6 x7 x8 x9 x10 x11 x12 x13 x14 x15 x16 x17 x18 x19 x20) = _
    rw [letter_address_o.c14]
    simp only [letter_address_o.g14 R c1 c2 c3 c4 c5 c6 κ f]
    rfl
theorem letter_address_o.g13 (R : Type) (c1 : letter_find_ois.F R) (c2 : letter_held_o.F R) (c3 : letter_text_ob.F R) (c4 : letter_some_0.F R) (c5 : letter_routed_o.F R) (c6 : letter_piece_is_0.F R) (κ : List SV → Option R) : ∀ (f : Nat) (x0 : List AV) (x1 : Int) (x2 : Bool) (x3 : ByteArray) (x4 : Bool) (x5 : ByteArray) (x6 : Bool) (x7 : ByteArray) (x8 : Bool) (x9 : ByteArray) (x10 : Bool) (x11 : ByteArray) (x12 : Bool) (x13 : ByteArray) (x14 : Bool) (x15 : ByteArray) (x16 : Bool) (x17 : ByteArray), goto (letter_address_o.C R c1 c2 c3 c4 c5 c6) (retK (letter_address_o.C R c1 c2 c3 c4 c5 c6) Tryz.f61.results.toList (List.range 0) κ) 10000 f (placeOf Tryz.f61 13) (letter_address_o.s13 x0 x1 x2 x3 x4 x5 x6 x7 x8 x9 x10 x11 x12 x13 x14 x15 x16 x17) = letter_address_o.L13 c1 c2 c3 c4 c5 c6 (fun r0 r1 r2 r3 r4 r5 r6 r7 => κ [.agg [.bool r0, .str r1, .bool r2, .str r3, .bool r4, .str r5, .bool r6, .str r7]]) f x0 x1 x2 x3 x4 x5 x6 x7 x8 x9 x10 x11 x12 x13 x14 x15 x16 x17
  | 0, _, _, _, _, _, _, _, _, _, _, _, _, _, _, _, _, _, _ => rfl
  | f + 1, x0, x1, x2, x3, x4, x5, x6, x7, x8, x9, x10, x11, x12, x13, x14, x15, x16, x17 => by
    show start (letter_address_o.C R c1 c2 c3 c4 c5 c6) (goto (letter_address_o.C R c1 c2 c3 c4 c5 c6) (retK (letter_address_o.C R c1 c2 c3 c4 c5 c6) Tryz.f61.results.toList (List.range 0) κ) 10000 f) (retK (letter_address_o.C R c1 c2 c3 c4 c5 c6) Tryz.f61.results.toList (List.range 0) κ) 10000 (placeOf Tryz.f61 13) (letter_address_o.s13 x0 x1 x2 x3 x4 x5 x6 x7 x8 x9 x10 x11 x12 x13 x14 x15 x16 x17) = _
    rw [letter_address_o.c13]
    simp only [letter_address_o.g14 R c1 c2 c3 c4 c5 c6 κ f]
    rfl
theorem letter_address_o.g7 (R : Type) (c1 : letter_find_ois.F R) (c2 : letter_held_o.F R) (c3 : letter_text_ob.F R) (c4 : letter_some_0.F R) (c5 : letter_routed_o.F R) (c6 : letter_piece_is_0.F R) (κ : List SV → Option R) : ∀ (f : Nat) (x0 : List AV) (x1 : Int) (x2 : Bool) (x3 : ByteArray) (x4 : Bool) (x5 : ByteArray) (x6 : Bool) (x7 : ByteArray) (x8 : Bool) (x9 : ByteArray) (x10 : Bool) (x11 : ByteArray) (x12 : Bool) (x13 : ByteArray) (x14 : Bool) (x15 : ByteArray) (x16 : Bool) (x17 : ByteArray), goto (letter_address_o.C R c1 c2 c3 c4 c5 c6) (retK (letter_address_o.C R c1 c2 c3 c4 c5 c6) Tryz.f61.results.toList (List.range 0) κ) 10000 f (placeOf Tryz.f61 7) (letter_address_o.s7 x0 x1 x2 x3 x4 x5 x6 x7 x8 x9 x10 x11 x12 x13 x14 x15 x16 x17) = letter_address_o.L7 c1 c2 c3 c4 c5 c6 (fun r0 r1 r2 r3 r4 r5 r6 r7 => κ [.agg [.bool r0, .str r1, .bool r2, .str r3, .bool r4, .str r5, .bool r6, .str r7]]) f x0 x1 x2 x3 x4 x5 x6 x7 x8 x9 x10 x11 x12 x13 x14 x15 x16 x17
  | 0, _, _, _, _, _, _, _, _, _, _, _, _, _, _, _, _, _, _ => rfl
  | f + 1, x0, x1, x2, x3, x4, x5, x6, x7, x8, x9, x10, x11, x12, x13, x14, x15, x16, x17 => by
    show start (letter_address_o.C R c1 c2 c3 c4 c5 c6) (goto (letter_address_o.C R c1 c2 c3 c4 c5 c6) (retK (letter_address_o.C R c1 c2 c3 c4 c5 c6) Tryz.f61.results.toList (List.range 0) κ) 10000 f) (retK (letter_address_o.C R c1 c2 c3 c4 c5 c6) Tryz.f61.results.toList (List.range 0) κ) 10000 (placeOf Tryz.f61 7) (letter_address_o.s7 x0 x1 x2 x3 x4 x5 x6 x7 x8 x9 x10 x11 x12 x13 x14 x15 x16 x17) = _
    rw [letter_address_o.c7]
    simp only [letter_address_o.g13 R c1 c2 c3 c4 c5 c6 κ f]
    rfl
theorem letter_address_o.run (R : Type) (κ : List SV → Option R) (a0 : List AV) :
    runF (letter_address_o.C R letter_find_ois letter_held_o letter_text_ob letter_some_0 letter_routed_o letter_piece_is_0) Tryz.f61 10000 fuelK [.ro 89 a0 false] κ = letter_address_o a0 (fun r0 r1 r2 r3 r4 r5 r6 r7 => κ [.agg [.bool r0, .str r1, .bool r2, .str r3, .bool r4, .str r5, .bool r6, .str r7]]) := by
  rw [letter_address_o.c]
  simp only [letter_address_o.g7 R letter_find_ois letter_held_o letter_text_ob letter_some_0 letter_routed_o letter_piece_is_0 κ fuelK, letter_address_o.g13 R letter_find_ois letter_held_o letter_text_ob letter_some_0 letter_routed_o letter_piece_is_0 κ fuelK, letter_address_o.g14 R letter_find_ois letter_held_o letter_text_ob letter_some_0 letter_routed_o letter_piece_is_0 κ fuelK]
  rfl
theorem letter_address_o.Γ_does {R : Type} (tab : Tab) (ht : TabOk tab) (g : Nat) : Does (R := R) Tryz.prog (tabTy tyL) tab g ((letter_address_o.C R letter_find_ois letter_held_o letter_text_ob letter_some_0 letter_routed_o letter_piece_is_0).call g) := by
  refine does_of fun xs κ => ?_
  show DoesAt _ _ _ g xs κ (letter_address_o.Γ letter_find_ois letter_held_o letter_text_ob letter_some_0 letter_routed_o letter_piece_is_0 g xs κ)
  unfold letter_address_o.Γ
  split
  · split
    · exact letter_some_0.does tab ht _ κ
    · exact DoesAt.none
  · split
    · exact letter_text_ob.does tab ht _ _ κ
    · exact DoesAt.none
  · split
    · exact letter_held_o.does tab ht _ κ
    · exact DoesAt.none
  · split
    · exact letter_piece_is_0.does tab ht _ _ _ κ
    · exact DoesAt.none
  · split
    · exact letter_find_ois.does tab ht _ _ _ κ
    · exact DoesAt.none
  · split
    · exact letter_routed_o.does tab ht _ κ
    · exact DoesAt.none
  · exact DoesAt.none
theorem letter_address_o.does {R : Type} (tab : Tab) (ht : TabOk tab) (a0 : List AV) (κ : List SV → Option R) : DoesAt Tryz.prog (tabTy tyL) tab 61 [.ro 89 a0 false] κ (letter_address_o a0 (fun r0 r1 r2 r3 r4 r5 r6 r7 => κ [.agg [.bool r0, .str r1, .bool r2, .str r3, .bool r4, .str r5, .bool r6, .str r7]])) := by
  intro r h w vs Rt Ra bs hpre
  exact runF_sound tyOk (letter_address_o.Γ_does tab ht) (show Tryz.prog.funcs[61]? = some Tryz.f61 by kernel_rfl) (by kernel_rfl) ((letter_address_o.run R κ a0).trans h) hpre
def letter_Addresses_0.Γ {R : Type} (c1 : letter_pieces_0.F R) (c2 : letter_part_oi.F R) (c3 : letter_text_ob.F R) (c4 : letter_some_0.F R) (c5 : letter_held_o.F R) (c6 : letter_address_o.F R) (g : Nat) (xs : List SV) (κ : List SV → Option R) : Option R :=
  match g with
  | 56 => (match xs with
    | [.str a0] => c1 a0 (fun r0 => κ [.fr 89 r0 true])
    | _ => none)
  | 57 => (match xs with
    | [.ro 89 a0 false, .int .i64 a1] => c2 a0 a1 (fun r0 => κ [.int .i64 r0])
    | _ => none)
  | 58 => (match xs with
    | [.str a0] => c4 a0 (fun r0 r1 => κ [.agg [.bool r0, .str r1]])
    | _ => none)
  | 59 => (match xs with
    | [.ro 89 a0 false, .bool a1] => c3 a0 a1 (fun r0 => κ [.str r0])
    | _ => none)
  | 60 => (match xs with
    | [.ro 89 a0 false] => c5 a0 (fun r0 => κ [.bool r0])
    | _ => none)
  | 61 => (match xs with
    | [.ro 89 a0 false] => c6 a0 (fun r0 r1 r2 r3 r4 r5 r6 r7 => κ [.agg [.bool r0, .str r1, .bool r2, .str r3, .bool r4, .str r5, .bool r6, .str r7]])
    | _ => none)
  | _ => none
def letter_Addresses_0.h (n : Nat) : Option (List (Nat × List (Nat × Nat))) :=
  match n with
  | 5 => some [(3, [(0, 62)]), (4, [(0, 0)]), (5, [(0, 0)]), (6, [(0, 0)])]
  | 13 => some [(3, [(0, 0)]), (4, [(0, 0)]), (5, [(0, 0)]), (7, [(0, 0)]), (8, [(0, 0)])]
  | _ => none
def letter_Addresses_0.C (R : Type) (c1 : letter_pieces_0.F R) (c2 : letter_part_oi.F R) (c3 : letter_text_ob.F R) (c4 : letter_some_0.F R) (c5 : letter_held_o.F R) (c6 : letter_address_o.F R) : Cfg R := ⟨tabTy tyL, letter_Addresses_0.Γ c1 c2 c3 c4 c5 c6, fun _ => false, letter_Addresses_0.h⟩
def letter_Addresses_0.s5 (x0 : Bool) (x1 : Int) (x2 : List AV) (x3 : List AV) : St := ⟨mkS 75 [(3, .own 256), (4, .own 320), (5, .bool x0), (6, .int .i64 x1)], [(256, .row 60 x2 true), (320, .row 89 x3 true)], top⟩
def letter_Addresses_0.s13 (x0 : Bool) (x1 : Int) (x2 : ByteArray) (x3 : List AV) (x4 : List AV) : St := ⟨mkS 75 [(3, .own 256), (4, .own 320), (5, .bool x0), (7, .int .i64 x1), (8, .str x2)], [(256, .row 60 x3 true), (320, .row 89 x4 true)], top⟩
theorem letter_Addresses_0.c5 (R : Type) (c1 : letter_pieces_0.F R) (c2 : letter_part_oi.F R) (c3 : letter_text_ob.F R) (c4 : letter_some_0.F R) (c5 : letter_held_o.F R) (c6 : letter_address_o.F R) (J : List Item → St → Option R) (κ : List SV → Option R) (x0 : Bool) (x1 : Int) (x2 : List AV) (x3 : List AV) :
    start (letter_Addresses_0.C R c1 c2 c3 c4 c5 c6) J (retK (letter_Addresses_0.C R c1 c2 c3 c4 c5 c6) Tryz.f20.results.toList (List.range 0) κ) 10000 (placeOf Tryz.f20 5) (letter_Addresses_0.s5 x0 x1 x2 x3) = letter_Addresses_0.t5 c1 c2 c3 c4 c5 c6 x0 x1 x2 x3 (fun y0 y1 y2 y3 => J (placeOf Tryz.f20 5) (letter_Addresses_0.s5 y0 y1 y2 y3)) (fun y0 y1 y2 y3 y4 => J (placeOf Tryz.f20 13) (letter_Addresses_0.s13 y0 y1 y2 y3 y4)) (fun r0 => κ [.fr 60 r0 true]) := by kernel_rfl
theorem letter_Addresses_0.c13 (R : Type) (c1 : letter_pieces_0.F R) (c2 : letter_part_oi.F R) (c3 : letter_text_ob.F R) (c4 : letter_some_0.F R) (c5 : letter_held_o.F R) (c6 : letter_address_o.F R) (J : List Item → St → Option R) (κ : List SV → Option R) (x0 : Bool) (x1 : Int) (x2 : ByteArray) (x3 : List AV) (x4 : List AV) :
    start (letter_Addresses_0.C R c1 c2 c3 c4 c5 c6) J (retK (letter_Addresses_0.C R c1 c2 c3 c4 c5 c6) Tryz.f20.results.toList (List.range 0) κ) 10000 (placeOf Tryz.f20 13) (letter_Addresses_0.s13 x0 x1 x2 x3 x4) = letter_Addresses_0.t13 c1 c2 c3 c4 c5 c6 x0 x1 x2 x3 x4 (fun y0 y1 y2 y3 => J (placeOf Tryz.f20 5) (letter_Addresses_0.s5 y0 y1 y2 y3)) (fun y0 y1 y2 y3 y4 => J (placeOf Tryz.f20 13) (letter_Addresses_0.s13 y0 y1 y2 y3 y4)) (fun r0 => κ [.fr 60 r0 true]) := by kernel_rfl
theorem letter_Addresses_0.c (R : Type) (c1 : letter_pieces_0.F R) (c2 : letter_part_oi.F R) (c3 : letter_text_ob.F R) (c4 : letter_some_0.F R) (c5 : letter_held_o.F R) (c6 : letter_address_o.F R) (κ : List SV → Option R) (k : Nat) (a0 : ByteArray) :
    runF (letter_Addresses_0.C R c1 c2 c3 c4 c5 c6) Tryz.f20 10000 k [.str a0] κ = letter_Addresses_0.e c1 c2 c3 c4 c5 c6 a0 (fun y0 y1 y2 y3 => goto (letter_Addresses_0.C R c1 c2 c3 c4 c5 c6) (retK (letter_Addresses_0.C R c1 c2 c3 c4 c5 c6) Tryz.f20.results.toList (List.range 0) κ) 10000 k (placeOf Tryz.f20 5) (letter_Addresses_0.s5 y0 y1 y2 y3)) (fun y0 y1 y2 y3 y4 => goto (letter_Addresses_0.C R c1 c2 c3 c4 c5 c6) (retK (letter_Addresses_0.C R c1 c2 c3 c4 c5 c6) Tryz.f20.results.toList (List.range 0) κ) 10000 k (placeOf Tryz.f20 13) (letter_Addresses_0.s13 y0 y1 y2 y3 y4)) (fun r0 => κ [.fr 60 r0 true]) := by kernel_rfl
theorem letter_Addresses_0.gM5 (R : Type) (c1 : letter_pieces_0.F R) (c2 : letter_part_oi.F R) (c3 : letter_text_ob.F R) (c4 : letter_some_0.F R) (c5 : letter_held_o.F R) (c6 : letter_address_o.F R) (κ : List SV → Option R) : ∀ (f : Nat), (∀ (x0 : Bool) (x1 : Int) (x2 : List AV) (x3 : List AV), goto (letter_Addresses_0.C R c1 c2 c3 c4 c5 c6) (retK (letter_Addresses_0.C R c1 c2 c3 c4 c5 c6) Tryz.f20.results.toList (List.range 0) κ) 10000 f (placeOf Tryz.f20 5) (letter_Addresses_0.s5 x0 x1 x2 x3) = letter_Addresses_0.L5 c1 c2 c3 c4 c5 c6 (fun r0 => κ [.fr 60 r0 true]) f x0 x1 x2 x3) ∧
    (∀ (x0 : Bool) (x1 : Int) (x2 : ByteArray) (x3 : List AV) (x4 : List AV), goto (letter_Addresses_0.C R c1 c2 c3 c4 c5 c6) (retK (letter_Addresses_0.C R c1 c2 c3 c4 c5 c6) Tryz.f20.results.toList (List.range 0) κ) 10000 f (placeOf Tryz.f20 13) (letter_Addresses_0.s13 x0 x1 x2 x3 x4) = letter_Addresses_0.L13 c1 c2 c3 c4 c5 c6 (fun r0 => κ [.fr 60 r0 true]) f x0 x1 x2 x3 x4)
  | 0 => ⟨fun _ _ _ _ => rfl, fun _ _ _ _ _ => rfl⟩
  | f + 1 => by
    obtain ⟨ih0, ih1⟩ := letter_Addresses_0.gM5 R c1 c2 c3 c4 c5 c6 κ f
    refine ⟨?_, ?_⟩
    · intro x0 x1 x2 x3
      show start (letter_Addresses_0.C R c1 c2 c3 c4 c5 c6) (goto (letter_Addresses_0.C R c1 c2 c3 c4 c5 c6) (retK (letter_Addresses_0.C R c1 c2 c3 c4 c5 c6) Tryz.f20.results.toList (List.range 0) κ) 10000 f) (retK (letter_Addresses_0.C R c1 c2 c3 c4 c5 c6) Tryz.f20.results.toList (List.range 0) κ) 10000 (placeOf Tryz.f20 5) (letter_Addresses_0.s5 x0 x1 x2 x3) = _
      rw [letter_Addresses_0.c5]
      simp only [ih0, ih1]
      rfl
    · intro x0 x1 x2 x3 x4
      show start (letter_Addresses_0.C R c1 c2 c3 c4 c5 c6) (goto (letter_Addresses_0.C R c1 c2 c3 c4 c5 c6) (retK (letter_Addresses_0.C R c1 c2 c3 c4 c5 c6) Tryz.f20.results.toList (List.range 0) κ) 10000 f) (retK (letter_Addresses_0.C R c1 c2 c3 c4 c5 c6) Tryz.f20.results.toList (List.range 0) κ) 10000 (placeOf Tryz.f20 13) (letter_Addresses_0.s13 x0 x1 x2 x3 x4) = _
      rw [letter_Addresses_0.c13]
      simp only [ih0, ih1]
      rfl
theorem letter_Addresses_0.g5 (R : Type) (c1 : letter_pieces_0.F R) (c2 : letter_part_oi.F R) (c3 : letter_text_ob.F R) (c4 : letter_some_0.F R) (c5 : letter_held_o.F R) (c6 : letter_address_o.F R) (κ : List SV → Option R) (f : Nat) (x0 : Bool) (x1 : Int) (x2 : List AV) (x3 : List AV) : goto (letter_Addresses_0.C R c1 c2 c3 c4 c5 c6) (retK (letter_Addresses_0.C R c1 c2 c3 c4 c5 c6) Tryz.f20.results.toList (List.range 0) κ) 10000 f (placeOf Tryz.f20 5) (letter_Addresses_0.s5 x0 x1 x2 x3) = letter_Addresses_0.L5 c1 c2 c3 c4 c5 c6 (fun r0 => κ [.fr 60 r0 true]) f x0 x1 x2 x3 := (letter_Addresses_0.gM5 R c1 c2 c3 c4 c5 c6 κ f).1 x0 x1 x2 x3
theorem letter_Addresses_0.g13 (R : Type) (c1 : letter_pieces_0.F R) (c2 : letter_part_oi.F R) (c3 : letter_text_ob.F R) (c4 : letter_some_0.F R) (c5 : letter_held_o.F R) (c6 : letter_address_o.F R) (κ : List SV → Option R) (f : Nat) (x0 : Bool) (x1 : Int) (x2 : ByteArray) (x3 : List AV) (x4 : List AV) : goto (letter_Addresses_0.C R c1 c2 c3 c4 c5 c6) (retK (letter_Addresses_0.C R c1 c2 c3 c4 c5 c6) Tryz.f20.results.toList (List.range 0) κ) 10000 f (placeOf Tryz.f20 13) (letter_Addresses_0.s13 x0 x1 x2 x3 x4) = letter_Addresses_0.L13 c1 c2 c3 c4 c5 c6 (fun r0 => κ [.fr 60 r0 true]) f x0 x1 x2 x3 x4 := (letter_Addresses_0.gM5 R c1 c2 c3 c4 c5 c6 κ f).2 x0 x1 x2 x3 x4
theorem letter_Addresses_0.run (R : Type) (κ : List SV → Option R) (a0 : ByteArray) :
    runF (letter_Addresses_0.C R letter_pieces_0 letter_part_oi letter_text_ob letter_some_0 letter_held_o letter_address_o) Tryz.f20 10000 fuelK [.str a0] κ = letter_Addresses_0 a0 (fun r0 => κ [.fr 60 r0 true]) := by
  rw [letter_Addresses_0.c]
  simp only [letter_Addresses_0.g5 R letter_pieces_0 letter_part_oi letter_text_ob letter_some_0 letter_held_o letter_address_o κ fuelK, letter_Addresses_0.g13 R letter_pieces_0 letter_part_oi letter_text_ob letter_some_0 letter_held_o letter_address_o κ fuelK]
  rfl
theorem letter_Addresses_0.Γ_does {R : Type} (tab : Tab) (ht : TabOk tab) (g : Nat) : Does (R := R) Tryz.prog (tabTy tyL) tab g ((letter_Addresses_0.C R letter_pieces_0 letter_part_oi letter_text_ob letter_some_0 letter_held_o letter_address_o).call g) := by
  refine does_of fun xs κ => ?_
  show DoesAt _ _ _ g xs κ (letter_Addresses_0.Γ letter_pieces_0 letter_part_oi letter_text_ob letter_some_0 letter_held_o letter_address_o g xs κ)
  unfold letter_Addresses_0.Γ
  split
  · split
    · exact letter_pieces_0.does tab ht _ κ
    · exact DoesAt.none
  · split
    · exact letter_part_oi.does tab ht _ _ κ
    · exact DoesAt.none
  · split
    · exact letter_some_0.does tab ht _ κ
    · exact DoesAt.none
  · split
    · exact letter_text_ob.does tab ht _ _ κ
    · exact DoesAt.none
  · split
    · exact letter_held_o.does tab ht _ κ
    · exact DoesAt.none
  · split
    · exact letter_address_o.does tab ht _ κ
    · exact DoesAt.none
  · exact DoesAt.none
theorem letter_Addresses_0.does {R : Type} (tab : Tab) (ht : TabOk tab) (a0 : ByteArray) (κ : List SV → Option R) : DoesAt Tryz.prog (tabTy tyL) tab 20 [.str a0] κ (letter_Addresses_0 a0 (fun r0 => κ [.fr 60 r0 true])) := by
  intro r h w vs Rt Ra bs hpre
  exact runF_sound tyOk (letter_Addresses_0.Γ_does tab ht) (show Tryz.prog.funcs[20]? = some Tryz.f20 by kernel_rfl) (by kernel_rfl) ((letter_Addresses_0.run R κ a0).trans h) hpre
def strings_Contains_0.Γ {R : Type} (c1 : strings_Index_0.F R) (g : Nat) (xs : List SV) (κ : List SV → Option R) : Option R :=
  match g with
  | 85 => (match xs with
    | [.str a0, .str a1] => c1 a0 a1 (fun r0 => κ [.int .i64 r0])
    | _ => none)
  | _ => none
def strings_Contains_0.h (n : Nat) : Option (List (Nat × List (Nat × Nat))) :=
  match n with
  | _ => none
def strings_Contains_0.C (R : Type) (c1 : strings_Index_0.F R) : Cfg R := ⟨tabTy tyL, strings_Contains_0.Γ c1, fun _ => false, strings_Contains_0.h⟩
theorem strings_Contains_0.c (R : Type) (c1 : strings_Index_0.F R) (κ : List SV → Option R) (k : Nat) (a0 : ByteArray) (a1 : ByteArray) :
    runF (strings_Contains_0.C R c1) Tryz.f70 10000 k [.str a0, .str a1] κ = strings_Contains_0.e c1 a0 a1 (fun r0 => κ [.bool r0]) := by kernel_rfl
theorem strings_Contains_0.run (R : Type) (κ : List SV → Option R) (a0 : ByteArray) (a1 : ByteArray) :
    runF (strings_Contains_0.C R strings_Index_0) Tryz.f70 10000 fuelK [.str a0, .str a1] κ = strings_Contains_0 a0 a1 (fun r0 => κ [.bool r0]) := by
  rw [strings_Contains_0.c]
  rfl
theorem strings_Contains_0.Γ_does {R : Type} (tab : Tab) (ht : TabOk tab) (g : Nat) : Does (R := R) Tryz.prog (tabTy tyL) tab g ((strings_Contains_0.C R strings_Index_0).call g) := by
  refine does_of fun xs κ => ?_
  show DoesAt _ _ _ g xs κ (strings_Contains_0.Γ strings_Index_0 g xs κ)
  unfold strings_Contains_0.Γ
  split
  · split
    · exact strings_Index_0.does tab ht _ _ κ
    · exact DoesAt.none
  · exact DoesAt.none
theorem strings_Contains_0.does {R : Type} (tab : Tab) (ht : TabOk tab) (a0 : ByteArray) (a1 : ByteArray) (κ : List SV → Option R) : DoesAt Tryz.prog (tabTy tyL) tab 70 [.str a0, .str a1] κ (strings_Contains_0 a0 a1 (fun r0 => κ [.bool r0])) := by
  intro r h w vs Rt Ra bs hpre
  exact runF_sound tyOk (strings_Contains_0.Γ_does tab ht) (show Tryz.prog.funcs[70]? = some Tryz.f70 by kernel_rfl) (by kernel_rfl) ((strings_Contains_0.run R κ a0 a1).trans h) hpre
def letter_Ids_0.Γ {R : Type} (c1 : letter_pieces_0.F R) (c2 : letter_piece_is_0.F R) (c3 : letter_find_ois.F R) (c4 : letter_text_ob.F R) (c5 : strings_Contains_0.F R) (g : Nat) (xs : List SV) (κ : List SV → Option R) : Option R :=
  match g with
  | 56 => (match xs with
    | [.str a0] => c1 a0 (fun r0 => κ [.fr 89 r0 true])
    | _ => none)
  | 59 => (match xs with
    | [.ro 89 a0 false, .bool a1] => c4 a0 a1 (fun r0 => κ [.str r0])
    | _ => none)
  | 68 => (match xs with
    | [.agg [.int .i64 a0, .str a1], .str a2] => c2 a0 a1 a2 (fun r0 => κ [.bool r0])
    | _ => none)
  | 69 => (match xs with
    | [.ro 89 a0 false, .int .i64 a1, .str a2] => c3 a0 a1 a2 (fun r0 => κ [.int .i64 r0])
    | _ => none)
  | 70 => (match xs with
    | [.str a0, .str a1] => c5 a0 a1 (fun r0 => κ [.bool r0])
    | _ => none)
  | _ => none
def letter_Ids_0.h (n : Nat) : Option (List (Nat × List (Nat × Nat))) :=
  match n with
  | 4 => some [(3, [(0, 11)]), (4, [(0, 0)]), (5, [(0, 0)])]
  | _ => none
def letter_Ids_0.C (R : Type) (c1 : letter_pieces_0.F R) (c2 : letter_piece_is_0.F R) (c3 : letter_find_ois.F R) (c4 : letter_text_ob.F R) (c5 : strings_Contains_0.F R) : Cfg R := ⟨tabTy tyL, letter_Ids_0.Γ c1 c2 c3 c4 c5, fun _ => false, letter_Ids_0.h⟩
def letter_Ids_0.s4 (x0 : Int) (x1 : List AV) (x2 : List AV) : St := ⟨mkS 61 [(3, .own 256), (4, .own 320), (5, .int .i64 x0)], [(256, .row 9 x1 true), (320, .row 89 x2 true)], top⟩
theorem letter_Ids_0.c4 (R : Type) (c1 : letter_pieces_0.F R) (c2 : letter_piece_is_0.F R) (c3 : letter_find_ois.F R) (c4 : letter_text_ob.F R) (c5 : strings_Contains_0.F R) (J : List Item → St → Option R) (κ : List SV → Option R) (x0 : Int) (x1 : List AV) (x2 : List AV) :
    start (letter_Ids_0.C R c1 c2 c3 c4 c5) J (retK (letter_Ids_0.C R c1 c2 c3 c4 c5) Tryz.f23.results.toList (List.range 0) κ) 10000 (placeOf Tryz.f23 4) (letter_Ids_0.s4 x0 x1 x2) = letter_Ids_0.t4 c1 c2 c3 c4 c5 x0 x1 x2 (fun y0 y1 y2 => J (placeOf Tryz.f23 4) (letter_Ids_0.s4 y0 y1 y2)) (fun r0 => κ [.fr 9 r0 true]) := by kernel_rfl
theorem letter_Ids_0.c (R : Type) (c1 : letter_pieces_0.F R) (c2 : letter_piece_is_0.F R) (c3 : letter_find_ois.F R) (c4 : letter_text_ob.F R) (c5 : strings_Contains_0.F R) (κ : List SV → Option R) (k : Nat) (a0 : ByteArray) :
    runF (letter_Ids_0.C R c1 c2 c3 c4 c5) Tryz.f23 10000 k [.str a0] κ = letter_Ids_0.e c1 c2 c3 c4 c5 a0 (fun y0 y1 y2 => goto (letter_Ids_0.C R c1 c2 c3 c4 c5) (retK (letter_Ids_0.C R c1 c2 c3 c4 c5) Tryz.f23.results.toList (List.range 0) κ) 10000 k (placeOf Tryz.f23 4) (letter_Ids_0.s4 y0 y1 y2)) (fun r0 => κ [.fr 9 r0 true]) := by kernel_rfl
theorem letter_Ids_0.g4 (R : Type) (c1 : letter_pieces_0.F R) (c2 : letter_piece_is_0.F R) (c3 : letter_find_ois.F R) (c4 : letter_text_ob.F R) (c5 : strings_Contains_0.F R) (κ : List SV → Option R) : ∀ (f : Nat) (x0 : Int) (x1 : List AV) (x2 : List AV), goto (letter_Ids_0.C R c1 c2 c3 c4 c5) (retK (letter_Ids_0.C R c1 c2 c3 c4 c5) Tryz.f23.results.toList (List.range 0) κ) 10000 f (placeOf Tryz.f23 4) (letter_Ids_0.s4 x0 x1 x2) = letter_Ids_0.L4 c1 c2 c3 c4 c5 (fun r0 => κ [.fr 9 r0 true]) f x0 x1 x2
  | 0, _, _, _ => rfl
  | f + 1, x0, x1, x2 => by
    show start (letter_Ids_0.C R c1 c2 c3 c4 c5) (goto (letter_Ids_0.C R c1 c2 c3 c4 c5) (retK (letter_Ids_0.C R c1 c2 c3 c4 c5) Tryz.f23.results.toList (List.range 0) κ) 10000 f) (retK (letter_Ids_0.C R c1 c2 c3 c4 c5) Tryz.f23.results.toList (List.range 0) κ) 10000 (placeOf Tryz.f23 4) (letter_Ids_0.s4 x0 x1 x2) = _
    rw [letter_Ids_0.c4]
    simp only [letter_Ids_0.g4 R c1 c2 c3 c4 c5 κ f]
    rfl
theorem letter_Ids_0.run (R : Type) (κ : List SV → Option R) (a0 : ByteArray) :
    runF (letter_Ids_0.C R letter_pieces_0 letter_piece_is_0 letter_find_ois letter_text_ob strings_Contains_0) Tryz.f23 10000 fuelK [.str a0] κ = letter_Ids_0 a0 (fun r0 => κ [.fr 9 r0 true]) := by
  rw [letter_Ids_0.c]
  simp only [letter_Ids_0.g4 R letter_pieces_0 letter_piece_is_0 letter_find_ois letter_text_ob strings_Contains_0 κ fuelK]
  rfl
theorem letter_Ids_0.Γ_does {R : Type} (tab : Tab) (ht : TabOk tab) (g : Nat) : Does (R := R) Tryz.prog (tabTy tyL) tab g ((letter_Ids_0.C R letter_pieces_0 letter_piece_is_0 letter_find_ois letter_text_ob strings_Contains_0).call g) := by
  refine does_of fun xs κ => ?_
  show DoesAt _ _ _ g xs κ (letter_Ids_0.Γ letter_pieces_0 letter_piece_is_0 letter_find_ois letter_text_ob strings_Contains_0 g xs κ)
  unfold letter_Ids_0.Γ
  split
  · split
    · exact letter_pieces_0.does tab ht _ κ
    · exact DoesAt.none
  · split
    · exact letter_text_ob.does tab ht _ _ κ
    · exact DoesAt.none
  · split
    · exact letter_piece_is_0.does tab ht _ _ _ κ
    · exact DoesAt.none
  · split
    · exact letter_find_ois.does tab ht _ _ _ κ
    · exact DoesAt.none
  · split
    · exact strings_Contains_0.does tab ht _ _ κ
    · exact DoesAt.none
  · exact DoesAt.none
theorem letter_Ids_0.does {R : Type} (tab : Tab) (ht : TabOk tab) (a0 : ByteArray) (κ : List SV → Option R) : DoesAt Tryz.prog (tabTy tyL) tab 23 [.str a0] κ (letter_Ids_0 a0 (fun r0 => κ [.fr 9 r0 true])) := by
  intro r h w vs Rt Ra bs hpre
  exact runF_sound tyOk (letter_Ids_0.Γ_does tab ht) (show Tryz.prog.funcs[23]? = some Tryz.f23 by kernel_rfl) (by kernel_rfl) ((letter_Ids_0.run R κ a0).trans h) hpre
def octet_Lower_0.Γ {R : Type} (g : Nat) (xs : List SV) (κ : List SV → Option R) : Option R :=
  match g with
  | _ => none
def octet_Lower_0.h (n : Nat) : Option (List (Nat × List (Nat × Nat))) :=
  match n with
  | 3 => some [(3, [(0, 0)]), (8, [(0, 0)]), (9, [(0, 0)]), (10, [(0, 0)])]
  | _ => none
def octet_Lower_0.C (R : Type) : Cfg R := ⟨tabTy tyL, octet_Lower_0.Γ, fun _ => false, octet_Lower_0.h⟩
def octet_Lower_0.s3 (x0 : Int) (x1 : Int) (x2 : List AV) : St := ⟨mkS 30 [(3, .own 256), (8, .own 256), (9, .int .i64 x0), (10, .int .i64 x1)], [(256, .row 5 x2 true)], top⟩
theorem octet_Lower_0.c3 (R : Type) (J : List Item → St → Option R) (κ : List SV → Option R) (x0 : Int) (x1 : Int) (x2 : List AV) :
    start (octet_Lower_0.C R) J (retK (octet_Lower_0.C R) Tryz.f98.results.toList (List.range 0) κ) 10000 (placeOf Tryz.f98 3) (octet_Lower_0.s3 x0 x1 x2) = octet_Lower_0.t3 x0 x1 x2 (fun y0 y1 y2 => J (placeOf Tryz.f98 3) (octet_Lower_0.s3 y0 y1 y2)) (fun r0 => κ [.str r0]) := by kernel_rfl
theorem octet_Lower_0.c (R : Type) (κ : List SV → Option R) (k : Nat) (a0 : ByteArray) :
    runF (octet_Lower_0.C R) Tryz.f98 10000 k [.str a0] κ = octet_Lower_0.e a0 (fun y0 y1 y2 => goto (octet_Lower_0.C R) (retK (octet_Lower_0.C R) Tryz.f98.results.toList (List.range 0) κ) 10000 k (placeOf Tryz.f98 3) (octet_Lower_0.s3 y0 y1 y2)) (fun r0 => κ [.str r0]) := by kernel_rfl
theorem octet_Lower_0.g3 (R : Type) (κ : List SV → Option R) : ∀ (f : Nat) (x0 : Int) (x1 : Int) (x2 : List AV), goto (octet_Lower_0.C R) (retK (octet_Lower_0.C R) Tryz.f98.results.toList (List.range 0) κ) 10000 f (placeOf Tryz.f98 3) (octet_Lower_0.s3 x0 x1 x2) = octet_Lower_0.L3 (fun r0 => κ [.str r0]) f x0 x1 x2
  | 0, _, _, _ => rfl
  | f + 1, x0, x1, x2 => by
    show start (octet_Lower_0.C R) (goto (octet_Lower_0.C R) (retK (octet_Lower_0.C R) Tryz.f98.results.toList (List.range 0) κ) 10000 f) (retK (octet_Lower_0.C R) Tryz.f98.results.toList (List.range 0) κ) 10000 (placeOf Tryz.f98 3) (octet_Lower_0.s3 x0 x1 x2) = _
    rw [octet_Lower_0.c3]
    simp only [octet_Lower_0.g3 R κ f]
    rfl
theorem octet_Lower_0.run (R : Type) (κ : List SV → Option R) (a0 : ByteArray) :
    runF (octet_Lower_0.C R) Tryz.f98 10000 fuelK [.str a0] κ = octet_Lower_0 a0 (fun r0 => κ [.str r0]) := by
  rw [octet_Lower_0.c]
  simp only [octet_Lower_0.g3 R κ fuelK]
  rfl
theorem octet_Lower_0.Γ_does {R : Type} (tab : Tab) (ht : TabOk tab) (g : Nat) : Does (R := R) Tryz.prog (tabTy tyL) tab g ((octet_Lower_0.C R).call g) := by
  refine does_of fun xs κ => ?_
  show DoesAt _ _ _ g xs κ (octet_Lower_0.Γ g xs κ)
  unfold octet_Lower_0.Γ
  split
  · exact DoesAt.none
theorem octet_Lower_0.does {R : Type} (tab : Tab) (ht : TabOk tab) (a0 : ByteArray) (κ : List SV → Option R) : DoesAt Tryz.prog (tabTy tyL) tab 98 [.str a0] κ (octet_Lower_0 a0 (fun r0 => κ [.str r0])) := by
  intro r h w vs Rt Ra bs hpre
  exact runF_sound tyOk (octet_Lower_0.Γ_does tab ht) (show Tryz.prog.funcs[98]? = some Tryz.f98 by kernel_rfl) (by kernel_rfl) ((octet_Lower_0.run R κ a0).trans h) hpre
end Go.Proofs.Ab
