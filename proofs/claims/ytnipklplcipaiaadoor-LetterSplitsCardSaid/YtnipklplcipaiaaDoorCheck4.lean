/- Each plain function is what a call of its Go function does, checked by the kernel (no condition but what its checks ask). -/
import Derived.Test.YtnipklplcipaiaaDoorSeat
import Derived.Test.YtnipklplcipaiaaDoorText
import Derived.Test.YtnipklplcipaiaaDoorCheck3
/- Each typed text is what its function does: checked by the kernel. -/
namespace Go.Proofs.Ab
set_option linter.unusedVariables false
set_option maxRecDepth 4000
open Go Go.Proofs
set_option maxRecDepth 100000
def stringslite_CutSuffix_0.Γ {R : Type} (c_stringslite_HasSuffix_0 : ByteArray → ByteArray → (Bool → Option R) → Option R) (g : Nat) (xs : List SV) (κ : List SV → Option R) : Option R :=
  match g with
  | 70 => (match xs with
    | [.str a0, .str a1] => c_stringslite_HasSuffix_0 a0 a1 (fun r0 => κ [.bool r0])
    | _ => none)
  | _ => none
def stringslite_CutSuffix_0.h (n : Nat) : Option (List (Nat × List (Nat × Nat))) :=
  match n with
  | _ => none
def stringslite_CutSuffix_0.C (R : Type) (c_stringslite_HasSuffix_0 : ByteArray → ByteArray → (Bool → Option R) → Option R) : Cfg R := ⟨tabTy tyL, stringslite_CutSuffix_0.Γ c_stringslite_HasSuffix_0, fun _ => false, stringslite_CutSuffix_0.h⟩
theorem stringslite_CutSuffix_0.c (R : Type) (c_stringslite_HasSuffix_0 : ByteArray → ByteArray → (Bool → Option R) → Option R) (κ : List SV → Option R) (k : Nat) (a0 : ByteArray) (a1 : ByteArray) :
    runF (stringslite_CutSuffix_0.C R c_stringslite_HasSuffix_0) Tryd.f100 10000 k [.str a0, .str a1] κ = stringslite_CutSuffix_0.e c_stringslite_HasSuffix_0 a0 a1 (fun r0 r1 => κ [.tup [.str r0, .bool r1]]) := by kernel_rfl
theorem stringslite_CutSuffix_0.run (R : Type) (κ : List SV → Option R) (a0 : ByteArray) (a1 : ByteArray) :
    runF (stringslite_CutSuffix_0.C R stringslite_HasSuffix_0) Tryd.f100 10000 fuelK [.str a0, .str a1] κ = stringslite_CutSuffix_0 a0 a1 (fun r0 r1 => κ [.tup [.str r0, .bool r1]]) := by
  rw [stringslite_CutSuffix_0.c]
  rfl
theorem stringslite_CutSuffix_0.Γ_does {R : Type} (tab : Tab) (ht : TabOk tab) (g : Nat) : Does (R := R) Tryd.prog (tabTy tyL) tab g ((stringslite_CutSuffix_0.C R stringslite_HasSuffix_0).call g) := by
  refine does_of fun xs κ => ?_
  show DoesAt _ _ _ g xs κ (stringslite_CutSuffix_0.Γ stringslite_HasSuffix_0 g xs κ)
  unfold stringslite_CutSuffix_0.Γ
  split
  · split
    · exact stringslite_HasSuffix_0.does tab ht _ _ κ
    · exact DoesAt.none
  · exact DoesAt.none
theorem stringslite_CutSuffix_0.does {R : Type} (tab : Tab) (ht : TabOk tab) (a0 : ByteArray) (a1 : ByteArray) (κ : List SV → Option R) : DoesAt Tryd.prog (tabTy tyL) tab 100 [.str a0, .str a1] κ (stringslite_CutSuffix_0 a0 a1 (fun r0 r1 => κ [.tup [.str r0, .bool r1]])) := by
  intro r h w vs Rt Ra bs hpre
  exact runF_sound tyOk (stringslite_CutSuffix_0.Γ_does tab ht) (show Tryd.prog.funcs[100]? = some Tryd.f100 by kernel_rfl) (by kernel_rfl) ((stringslite_CutSuffix_0.run R κ a0 a1).trans h) hpre
def strings_CutSuffix_0.Γ {R : Type} (c_stringslite_CutSuffix_0 : ByteArray → ByteArray → (ByteArray → Bool → Option R) → Option R) (g : Nat) (xs : List SV) (κ : List SV → Option R) : Option R :=
  match g with
  | 100 => (match xs with
    | [.str a0, .str a1] => c_stringslite_CutSuffix_0 a0 a1 (fun r0 r1 => κ [.tup [.str r0, .bool r1]])
    | _ => none)
  | _ => none
def strings_CutSuffix_0.h (n : Nat) : Option (List (Nat × List (Nat × Nat))) :=
  match n with
  | _ => none
def strings_CutSuffix_0.C (R : Type) (c_stringslite_CutSuffix_0 : ByteArray → ByteArray → (ByteArray → Bool → Option R) → Option R) : Cfg R := ⟨tabTy tyL, strings_CutSuffix_0.Γ c_stringslite_CutSuffix_0, fun _ => false, strings_CutSuffix_0.h⟩
theorem strings_CutSuffix_0.c (R : Type) (c_stringslite_CutSuffix_0 : ByteArray → ByteArray → (ByteArray → Bool → Option R) → Option R) (κ : List SV → Option R) (k : Nat) (a0 : ByteArray) (a1 : ByteArray) :
    runF (strings_CutSuffix_0.C R c_stringslite_CutSuffix_0) Tryd.f77 10000 k [.str a0, .str a1] κ = strings_CutSuffix_0.e c_stringslite_CutSuffix_0 a0 a1 (fun r0 r1 => κ [.tup [.str r0, .bool r1]]) := by kernel_rfl
theorem strings_CutSuffix_0.run (R : Type) (κ : List SV → Option R) (a0 : ByteArray) (a1 : ByteArray) :
    runF (strings_CutSuffix_0.C R stringslite_CutSuffix_0) Tryd.f77 10000 fuelK [.str a0, .str a1] κ = strings_CutSuffix_0 a0 a1 (fun r0 r1 => κ [.tup [.str r0, .bool r1]]) := by
  rw [strings_CutSuffix_0.c]
  rfl
theorem strings_CutSuffix_0.Γ_does {R : Type} (tab : Tab) (ht : TabOk tab) (g : Nat) : Does (R := R) Tryd.prog (tabTy tyL) tab g ((strings_CutSuffix_0.C R stringslite_CutSuffix_0).call g) := by
  refine does_of fun xs κ => ?_
  show DoesAt _ _ _ g xs κ (strings_CutSuffix_0.Γ stringslite_CutSuffix_0 g xs κ)
  unfold strings_CutSuffix_0.Γ
  split
  · split
    · exact stringslite_CutSuffix_0.does tab ht _ _ κ
    · exact DoesAt.none
  · exact DoesAt.none
theorem strings_CutSuffix_0.does {R : Type} (tab : Tab) (ht : TabOk tab) (a0 : ByteArray) (a1 : ByteArray) (κ : List SV → Option R) : DoesAt Tryd.prog (tabTy tyL) tab 77 [.str a0, .str a1] κ (strings_CutSuffix_0 a0 a1 (fun r0 r1 => κ [.tup [.str r0, .bool r1]])) := by
  intro r h w vs Rt Ra bs hpre
  exact runF_sound tyOk (strings_CutSuffix_0.Γ_does tab ht) (show Tryd.prog.funcs[77]? = some Tryd.f77 by kernel_rfl) (by kernel_rfl) ((strings_CutSuffix_0.run R κ a0 a1).trans h) hpre
def letter_rules_1_0.Γ {R : Type} (c_strings_CutSuffix_0 : ByteArray → ByteArray → (ByteArray → Bool → Option R) → Option R) (g : Nat) (xs : List SV) (κ : List SV → Option R) : Option R :=
  match g with
  | 77 => (match xs with
    | [.str a0, .str a1] => c_strings_CutSuffix_0 a0 a1 (fun r0 r1 => κ [.tup [.str r0, .bool r1]])
    | _ => none)
  | _ => none
def letter_rules_1_0.h (n : Nat) : Option (List (Nat × List (Nat × Nat))) :=
  match n with
  | _ => none
def letter_rules_1_0.C (R : Type) (c_strings_CutSuffix_0 : ByteArray → ByteArray → (ByteArray → Bool → Option R) → Option R) : Cfg R := ⟨tabTy tyL, letter_rules_1_0.Γ c_strings_CutSuffix_0, fun _ => false, letter_rules_1_0.h⟩
theorem letter_rules_1_0.c (R : Type) (c_strings_CutSuffix_0 : ByteArray → ByteArray → (ByteArray → Bool → Option R) → Option R) (κ : List SV → Option R) (k : Nat) (a0 : ByteArray) :
    runF (letter_rules_1_0.C R c_strings_CutSuffix_0) Tryd.f76 10000 k [.str a0] κ = letter_rules_1_0.e c_strings_CutSuffix_0 a0 (fun r0 r1 => κ [.tup [.str r0, .bool r1]]) := by kernel_rfl
theorem letter_rules_1_0.run (R : Type) (κ : List SV → Option R) (a0 : ByteArray) :
    runF (letter_rules_1_0.C R strings_CutSuffix_0) Tryd.f76 10000 fuelK [.str a0] κ = letter_rules_1_0 a0 (fun r0 r1 => κ [.tup [.str r0, .bool r1]]) := by
  rw [letter_rules_1_0.c]
  rfl
theorem letter_rules_1_0.Γ_does {R : Type} (tab : Tab) (ht : TabOk tab) (g : Nat) : Does (R := R) Tryd.prog (tabTy tyL) tab g ((letter_rules_1_0.C R strings_CutSuffix_0).call g) := by
  refine does_of fun xs κ => ?_
  show DoesAt _ _ _ g xs κ (letter_rules_1_0.Γ strings_CutSuffix_0 g xs κ)
  unfold letter_rules_1_0.Γ
  split
  · split
    · exact strings_CutSuffix_0.does tab ht _ _ κ
    · exact DoesAt.none
  · exact DoesAt.none
theorem letter_rules_1_0.does {R : Type} (tab : Tab) (ht : TabOk tab) (a0 : ByteArray) (κ : List SV → Option R) : DoesAt Tryd.prog (tabTy tyL) tab 76 [.str a0] κ (letter_rules_1_0 a0 (fun r0 r1 => κ [.tup [.str r0, .bool r1]])) := by
  intro r h w vs Rt Ra bs hpre
  exact runF_sound tyOk (letter_rules_1_0.Γ_does tab ht) (show Tryd.prog.funcs[76]? = some Tryd.f76 by kernel_rfl) (by kernel_rfl) ((letter_rules_1_0.run R κ a0).trans h) hpre
def letter_Base_0.Γ {R : Type} (c_letter_Words_0 : ByteArray → (ByteArray → Option R) → Option R) (c_letter_one_0 : ByteArray → (ByteArray → Option R) → Option R) (c_letter_rules_0 : (Bool → Bool → Bool → Bool → Bool → Bool → Option R) → Option R) (c_letter_rules_6_0 : ByteArray → (ByteArray → Bool → Option R) → Option R) (c_letter_rules_5_0 : ByteArray → (ByteArray → Bool → Option R) → Option R) (c_letter_rules_4_0 : ByteArray → (ByteArray → Bool → Option R) → Option R) (c_letter_rules_3_0 : ByteArray → (ByteArray → Bool → Option R) → Option R) (c_letter_rules_2_0 : ByteArray → (ByteArray → Bool → Option R) → Option R) (c_letter_rules_1_0 : ByteArray → (ByteArray → Bool → Option R) → Option R) (g : Nat) (xs : List SV) (κ : List SV → Option R) : Option R :=
  match g with
  | 22 => (match xs with
    | [.str a0] => c_letter_Words_0 a0 (fun r0 => κ [.str r0])
    | _ => none)
  | 44 => (match xs with
    | [.str a0] => c_letter_one_0 a0 (fun r0 => κ [.str r0])
    | _ => none)
  | 45 => (match xs with
    | [] => c_letter_rules_0 (fun r0 r1 r2 r3 r4 r5 => κ [.agg [.fn 76, .bool r0, .fn 78, .bool r1, .fn 79, .bool r2, .fn 81, .bool r3, .fn 83, .bool r4, .fn 85, .bool r5]])
    | _ => none)
  | 76 => (match xs with
    | [.str a0] => c_letter_rules_1_0 a0 (fun r0 r1 => κ [.tup [.str r0, .bool r1]])
    | _ => none)
  | 78 => (match xs with
    | [.str a0] => c_letter_rules_2_0 a0 (fun r0 r1 => κ [.tup [.str r0, .bool r1]])
    | _ => none)
  | 79 => (match xs with
    | [.str a0] => c_letter_rules_3_0 a0 (fun r0 r1 => κ [.tup [.str r0, .bool r1]])
    | _ => none)
  | 81 => (match xs with
    | [.str a0] => c_letter_rules_4_0 a0 (fun r0 r1 => κ [.tup [.str r0, .bool r1]])
    | _ => none)
  | 83 => (match xs with
    | [.str a0] => c_letter_rules_5_0 a0 (fun r0 r1 => κ [.tup [.str r0, .bool r1]])
    | _ => none)
  | 85 => (match xs with
    | [.str a0] => c_letter_rules_6_0 a0 (fun r0 r1 => κ [.tup [.str r0, .bool r1]])
    | _ => none)
  | _ => none
def letter_Base_0.h (n : Nat) : Option (List (Nat × List (Nat × Nat))) :=
  match n with
  | 3 => some [(4, [(0, 0)]), (5, [(0, 0)])]
  | 4 => some [(4, [(0, 0)]), (5, [(0, 0)]), (13, [(0, 0)]), (14, [(0, 0)])]
  | _ => none
def letter_Base_0.C (R : Type) (c_letter_Words_0 : ByteArray → (ByteArray → Option R) → Option R) (c_letter_one_0 : ByteArray → (ByteArray → Option R) → Option R) (c_letter_rules_0 : (Bool → Bool → Bool → Bool → Bool → Bool → Option R) → Option R) (c_letter_rules_6_0 : ByteArray → (ByteArray → Bool → Option R) → Option R) (c_letter_rules_5_0 : ByteArray → (ByteArray → Bool → Option R) → Option R) (c_letter_rules_4_0 : ByteArray → (ByteArray → Bool → Option R) → Option R) (c_letter_rules_3_0 : ByteArray → (ByteArray → Bool → Option R) → Option R) (c_letter_rules_2_0 : ByteArray → (ByteArray → Bool → Option R) → Option R) (c_letter_rules_1_0 : ByteArray → (ByteArray → Bool → Option R) → Option R) : Cfg R := ⟨tabTy tyL, letter_Base_0.Γ c_letter_Words_0 c_letter_one_0 c_letter_rules_0 c_letter_rules_6_0 c_letter_rules_5_0 c_letter_rules_4_0 c_letter_rules_3_0 c_letter_rules_2_0 c_letter_rules_1_0, fun _ => false, letter_Base_0.h⟩
def letter_Base_0.s3 (x0 : ByteArray) (x1 : Bool) : St := ⟨mkS 34 [(4, .str x0), (5, .bool x1)], [], top⟩
def letter_Base_0.s4 (x0 : ByteArray) (x1 : Bool) (x2 : Bool) (x3 : Bool) (x4 : Bool) (x5 : Bool) (x6 : Bool) (x7 : Bool) (x8 : Int) : St := ⟨mkS 34 [(4, .str x0), (5, .bool x1), (13, .agg [.fn 76, .bool x2, .fn 78, .bool x3, .fn 79, .bool x4, .fn 81, .bool x5, .fn 83, .bool x6, .fn 85, .bool x7]), (14, .int .i64 x8)], [], top⟩
theorem letter_Base_0.c3 (R : Type) (c_letter_Words_0 : ByteArray → (ByteArray → Option R) → Option R) (c_letter_one_0 : ByteArray → (ByteArray → Option R) → Option R) (c_letter_rules_0 : (Bool → Bool → Bool → Bool → Bool → Bool → Option R) → Option R) (c_letter_rules_6_0 : ByteArray → (ByteArray → Bool → Option R) → Option R) (c_letter_rules_5_0 : ByteArray → (ByteArray → Bool → Option R) → Option R) (c_letter_rules_4_0 : ByteArray → (ByteArray → Bool → Option R) → Option R) (c_letter_rules_3_0 : ByteArray → (ByteArray → Bool → Option R) → Option R) (c_letter_rules_2_0 : ByteArray → (ByteArray → Bool → Option R) → Option R) (c_letter_rules_1_0 : ByteArray → (ByteArray → Bool → Option R) → Option R) (J : List Item → St → Option R) (κ : List SV → Option R) (x0 : ByteArray) (x1 : Bool) :
    start (letter_Base_0.C R c_letter_Words_0 c_letter_one_0 c_letter_rules_0 c_letter_rules_6_0 c_letter_rules_5_0 c_letter_rules_4_0 c_letter_rules_3_0 c_letter_rules_2_0 c_letter_rules_1_0) J (retK (letter_Base_0.C R c_letter_Words_0 c_letter_one_0 c_letter_rules_0 c_letter_rules_6_0 c_letter_rules_5_0 c_letter_rules_4_0 c_letter_rules_3_0 c_letter_rules_2_0 c_letter_rules_1_0) Tryd.f23.results.toList (List.range 0) κ) 10000 (placeOf Tryd.f23 3) (letter_Base_0.s3 x0 x1) = letter_Base_0.t3 c_letter_Words_0 c_letter_one_0 c_letter_rules_0 c_letter_rules_6_0 c_letter_rules_5_0 c_letter_rules_4_0 c_letter_rules_3_0 c_letter_rules_2_0 c_letter_rules_1_0 x0 x1 (fun y0 y1 => J (placeOf Tryd.f23 3) (letter_Base_0.s3 y0 y1)) (fun y0 y1 y2 y3 y4 y5 y6 y7 y8 => J (placeOf Tryd.f23 4) (letter_Base_0.s4 y0 y1 y2 y3 y4 y5 y6 y7 y8)) (fun r0 r1 => κ [.tup [.str r0, .bool r1]]) := by kernel_rfl
theorem letter_Base_0.c4 (R : Type) (c_letter_Words_0 : ByteArray → (ByteArray → Option R) → Option R) (c_letter_one_0 : ByteArray → (ByteArray → Option R) → Option R) (c_letter_rules_0 : (Bool → Bool → Bool → Bool → Bool → Bool → Option R) → Option R) (c_letter_rules_6_0 : ByteArray → (ByteArray → Bool → Option R) → Option R) (c_letter_rules_5_0 : ByteArray → (ByteArray → Bool → Option R) → Option R) (c_letter_rules_4_0 : ByteArray → (ByteArray → Bool → Option R) → Option R) (c_letter_rules_3_0 : ByteArray → (ByteArray → Bool → Option R) → Option R) (c_letter_rules_2_0 : ByteArray → (ByteArray → Bool → Option R) → Option R) (c_letter_rules_1_0 : ByteArray → (ByteArray → Bool → Option R) → Option R) (J : List Item → St → Option R) (κ : List SV → Option R) (x0 : ByteArray) (x1 : Bool) (x2 : Bool) (x3 : Bool) (x4 : Bool) (x5 : Bool) (x6 : Bool) (x7 : Bool) (x8 : Int) :
    start (letter_Base_0.C R c_letter_Words_0 c_letter_one_0 c_letter_rules_0 c_letter_rules_6_0 c_letter_rules_5_0 c_letter_rules_4_0 c_letter_rules_3_0 c_letter_rules_2_0 c_letter_rules_1_0) J (retK (letter_Base_0.C R c_letter_Words_0 c_letter_one_0 c_letter_rules_0 c_letter_rules_6_0 c_letter_rules_5_0 c_letter_rules_4_0 c_letter_rules_3_0 c_letter_rules_2_0 c_letter_rules_1_0) Tryd.f23.results.toList (List.range 0) κ) 10000 (placeOf Tryd.f23 4) (letter_Base_0.s4 x0 x1 x2 x3 x4 x5 x6 x7 x8) = letter_Base_0.t4 c_letter_Words_0 c_letter_one_0 c_letter_rules_0 c_letter_rules_6_0 c_letter_rules_5_0 c_letter_rules_4_0 c_letter_rules_3_0 c_letter_rules_2_0 c_letter_rules_1_0 x0 x1 x2 x3 x4 x5 x6 x7 x8 (fun y0 y1 => J (placeOf Tryd.f23 3) (letter_Base_0.s3 y0 y1)) (fun y0 y1 y2 y3 y4 y5 y6 y7 y8 => J (placeOf Tryd.f23 4) (letter_Base_0.s4 y0 y1 y2 y3 y4 y5 y6 y7 y8)) (fun r0 r1 => κ [.tup [.str r0, .bool r1]]) := by kernel_rfl
theorem letter_Base_0.c (R : Type) (c_letter_Words_0 : ByteArray → (ByteArray → Option R) → Option R) (c_letter_one_0 : ByteArray → (ByteArray → Option R) → Option R) (c_letter_rules_0 : (Bool → Bool → Bool → Bool → Bool → Bool → Option R) → Option R) (c_letter_rules_6_0 : ByteArray → (ByteArray → Bool → Option R) → Option R) (c_letter_rules_5_0 : ByteArray → (ByteArray → Bool → Option R) → Option R) (c_letter_rules_4_0 : ByteArray → (ByteArray → Bool → Option R) → Option R) (c_letter_rules_3_0 : ByteArray → (ByteArray → Bool → Option R) → Option R) (c_letter_rules_2_0 : ByteArray → (ByteArray → Bool → Option R) → Option R) (c_letter_rules_1_0 : ByteArray → (ByteArray → Bool → Option R) → Option R) (κ : List SV → Option R) (k : Nat) (a0 : ByteArray) :
    runF (letter_Base_0.C R c_letter_Words_0 c_letter_one_0 c_letter_rules_0 c_letter_rules_6_0 c_letter_rules_5_0 c_letter_rules_4_0 c_letter_rules_3_0 c_letter_rules_2_0 c_letter_rules_1_0) Tryd.f23 10000 k [.str a0] κ = letter_Base_0.e c_letter_Words_0 c_letter_one_0 c_letter_rules_0 c_letter_rules_6_0 c_letter_rules_5_0 c_letter_rules_4_0 c_letter_rules_3_0 c_letter_rules_2_0 c_letter_rules_1_0 a0 (fun y0 y1 => goto (letter_Base_0.C R c_letter_Words_0 c_letter_one_0 c_letter_rules_0 c_letter_rules_6_0 c_letter_rules_5_0 c_letter_rules_4_0 c_letter_rules_3_0 c_letter_rules_2_0 c_letter_rules_1_0) (retK (letter_Base_0.C R c_letter_Words_0 c_letter_one_0 c_letter_rules_0 c_letter_rules_6_0 c_letter_rules_5_0 c_letter_rules_4_0 c_letter_rules_3_0 c_letter_rules_2_0 c_letter_rules_1_0) Tryd.f23.results.toList (List.range 0) κ) 10000 k (placeOf Tryd.f23 3) (letter_Base_0.s3 y0 y1)) (fun y0 y1 y2 y3 y4 y5 y6 y7 y8 => goto (letter_Base_0.C R c_letter_Words_0 c_letter_one_0 c_letter_rules_0 c_letter_rules_6_0 c_letter_rules_5_0 c_letter_rules_4_0 c_letter_rules_3_0 c_letter_rules_2_0 c_letter_rules_1_0) (retK (letter_Base_0.C R c_letter_Words_0 c_letter_one_0 c_letter_rules_0 c_letter_rules_6_0 c_letter_rules_5_0 c_letter_rules_4_0 c_letter_rules_3_0 c_letter_rules_2_0 c_letter_rules_1_0) Tryd.f23.results.toList (List.range 0) κ) 10000 k (placeOf Tryd.f23 4) (letter_Base_0.s4 y0 y1 y2 y3 y4 y5 y6 y7 y8)) (fun r0 r1 => κ [.tup [.str r0, .bool r1]]) := by kernel_rfl
theorem letter_Base_0.gM3 (R : Type) (c_letter_Words_0 : ByteArray → (ByteArray → Option R) → Option R) (c_letter_one_0 : ByteArray → (ByteArray → Option R) → Option R) (c_letter_rules_0 : (Bool → Bool → Bool → Bool → Bool → Bool → Option R) → Option R) (c_letter_rules_6_0 : ByteArray → (ByteArray → Bool → Option R) → Option R) (c_letter_rules_5_0 : ByteArray → (ByteArray → Bool → Option R) → Option R) (c_letter_rules_4_0 : ByteArray → (ByteArray → Bool → Option R) → Option R) (c_letter_rules_3_0 : ByteArray → (ByteArray → Bool → Option R) → Option R) (c_letter_rules_2_0 : ByteArray → (ByteArray → Bool → Option R) → Option R) (c_letter_rules_1_0 : ByteArray → (ByteArray → Bool → Option R) → Option R) (κ : List SV → Option R) : ∀ (f : Nat), (∀ (x0 : ByteArray) (x1 : Bool), goto (letter_Base_0.C R c_letter_Words_0 c_letter_one_0 c_letter_rules_0 c_letter_rules_6_0 c_letter_rules_5_0 c_letter_rules_4_0 c_letter_rules_3_0 c_letter_rules_2_0 c_letter_rules_1_0) (retK (letter_Base_0.C R c_letter_Words_0 c_letter_one_0 c_letter_rules_0 c_letter_rules_6_0 c_letter_rules_5_0 c_letter_rules_4_0 c_letter_rules_3_0 c_letter_rules_2_0 c_letter_rules_1_0) Tryd.f23.results.toList (List.range 0) κ) 10000 f (placeOf Tryd.f23 3) (letter_Base_0.s3 x0 x1) = letter_Base_0.L3 c_letter_Words_0 c_letter_one_0 c_letter_rules_0 c_letter_rules_6_0 c_letter_rules_5_0 c_letter_rules_4_0 c_letter_rules_3_0 c_letter_rules_2_0 c_letter_rules_1_0 (fun r0 r1 => κ [.tup [.str r0, .bool r1]]) f x0 x1) ∧
    (∀ (x0 : ByteArray) (x1 : Bool) (x2 : Bool) (x3 : Bool) (x4 : Bool) (x5 : Bool) (x6 : Bool) (x7 : Bool) (x8 : Int), goto (letter_Base_0.C R c_letter_Words_0 c_letter_one_0 c_letter_rules_0 c_letter_rules_6_0 c_letter_rules_5_0 c_letter_rules_4_0 c_letter_rules_3_0 c_letter_rules_2_0 c_letter_rules_1_0) (retK (letter_Base_0.C R c_letter_Words_0 c_letter_one_0 c_letter_rules_0 c_letter_rules_6_0 c_letter_rules_5_0 c_letter_rules_4_0 c_letter_rules_3_0 c_letter_rules_2_0 c_letter_rules_1_0) Tryd.f23.results.toList (List.range 0) κ) 10000 f (placeOf Tryd.f23 4) (letter_Base_0.s4 x0 x1 x2 x3 x4 x5 x6 x7 x8) = letter_Base_0.L4 c_letter_Words_0 c_letter_one_0 c_letter_rules_0 c_letter_rules_6_0 c_letter_rules_5_0 c_letter_rules_4_0 c_letter_rules_3_0 c_letter_rules_2_0 c_letter_rules_1_0 (fun r0 r1 => κ [.tup [.str r0, .bool r1]]) f x0 x1 x2 x3 x4 x5 x6 x7 x8)
  | 0 => ⟨fun _ _ => rfl, fun _ _ _ _ _ _ _ _ _ => rfl⟩
  | f + 1 => by
    obtain ⟨ih0, ih1⟩ := letter_Base_0.gM3 R c_letter_Words_0 c_letter_one_0 c_letter_rules_0 c_letter_rules_6_0 c_letter_rules_5_0 c_letter_rules_4_0 c_letter_rules_3_0 c_letter_rules_2_0 c_letter_rules_1_0 κ f
    refine ⟨?_, ?_⟩
    · intro x0 x1
      show start (letter_Base_0.C R c_letter_Words_0 c_letter_one_0 c_letter_rules_0 c_letter_rules_6_0 c_letter_rules_5_0 c_letter_rules_4_0 c_letter_rules_3_0 c_letter_rules_2_0 c_letter_rules_1_0) (goto (letter_Base_0.C R c_letter_Words_0 c_letter_one_0 c_letter_rules_0 c_letter_rules_6_0 c_letter_rules_5_0 c_letter_rules_4_0 c_letter_rules_3_0 c_letter_rules_2_0 c_letter_rules_1_0) (retK (letter_Base_0.C R c_letter_Words_0 c_letter_one_0 c_letter_rules_0 c_letter_rules_6_0 c_letter_rules_5_0 c_letter_rules_4_0 c_letter_rules_3_0 c_letter_rules_2_0 c_letter_rules_1_0) Tryd.f23.results.toList (List.range 0) κ) 10000 f) (retK (letter_Base_0.C R c_letter_Words_0 c_letter_one_0 c_letter_rules_0 c_letter_rules_6_0 c_letter_rules_5_0 c_letter_rules_4_0 c_letter_rules_3_0 c_letter_rules_2_0 c_letter_rules_1_0) Tryd.f23.results.toList (List.range 0) κ) 10000 (placeOf Tryd.f23 3) (letter_Base_0.s3 x0 x1) = _
      rw [letter_Base_0.c3]
      simp only [ih0, ih1]
      rfl
    · intro x0 x1 x2 x3 x4 x5 x6 x7 x8
      show start (letter_Base_0.C R c_letter_Words_0 c_letter_one_0 c_letter_rules_0 c_letter_rules_6_0 c_letter_rules_5_0 c_letter_rules_4_0 c_letter_rules_3_0 c_letter_rules_2_0 c_letter_rules_1_0) (goto (letter_Base_0.C R c_letter_Words_0 c_letter_one_0 c_letter_rules_0 c_letter_rules_6_0 c_letter_rules_5_0 c_letter_rules_4_0 c_letter_rules_3_0 c_letter_rules_2_0 c_letter_rules_1_0) (retK (letter_Base_0.C R c_letter_Words_0 c_letter_one_0 c_letter_rules_0 c_letter_rules_6_0 c_letter_rules_5_0 c_letter_rules_4_0 c_letter_rules_3_0 c_letter_rules_2_0 c_letter_rules_1_0) Tryd.f23.results.toList (List.range 0) κ) 10000 f) (retK (letter_Base_0.C R c_letter_Words_0 c_letter_one_0 c_letter_rules_0 c_letter_rules_6_0 c_letter_rules_5_0 c_letter_rules_4_0 c_letter_rules_3_0 c_letter_rules_2_0 c_letter_rules_1_0) Tryd.f23.results.toList (List.range 0) κ) 10000 (placeOf Tryd.f23 4) (letter_Base_0.s4 x0 x1 x2 x3 x4 x5 x6 x7 x8) = _
      rw [letter_Base_0.c4]
      simp only [ih0, ih1]
      rfl
theorem letter_Base_0.g3 (R : Type) (c_letter_Words_0 : ByteArray → (ByteArray → Option R) → Option R) (c_letter_one_0 : ByteArray → (ByteArray → Option R) → Option R) (c_letter_rules_0 : (Bool → Bool → Bool → Bool → Bool → Bool → Option R) → Option R) (c_letter_rules_6_0 : ByteArray → (ByteArray → Bool → Option R) → Option R) (c_letter_rules_5_0 : ByteArray → (ByteArray → Bool → Option R) → Option R) (c_letter_rules_4_0 : ByteArray → (ByteArray → Bool → Option R) → Option R) (c_letter_rules_3_0 : ByteArray → (ByteArray → Bool → Option R) → Option R) (c_letter_rules_2_0 : ByteArray → (ByteArray → Bool → Option R) → Option R) (c_letter_rules_1_0 : ByteArray → (ByteArray → Bool → Option R) → Option R) (κ : List SV → Option R) (f : Nat) (x0 : ByteArray) (x1 : Bool) : goto (letter_Base_0.C R c_letter_Words_0 c_letter_one_0 c_letter_rules_0 c_letter_rules_6_0 c_letter_rules_5_0 c_letter_rules_4_0 c_letter_rules_3_0 c_letter_rules_2_0 c_letter_rules_1_0) (retK (letter_Base_0.C R c_letter_Words_0 c_letter_one_0 c_letter_rules_0 c_letter_rules_6_0 c_letter_rules_5_0 c_letter_rules_4_0 c_letter_rules_3_0 c_letter_rules_2_0 c_letter_rules_1_0) Tryd.f23.results.toList (List.range 0) κ) 10000 f (placeOf Tryd.f23 3) (letter_Base_0.s3 x0 x1) = letter_Base_0.L3 c_letter_Words_0 c_letter_one_0 c_letter_rules_0 c_letter_rules_6_0 c_letter_rules_5_0 c_letter_rules_4_0 c_letter_rules_3_0 c_letter_rules_2_0 c_letter_rules_1_0 (fun r0 r1 => κ [.tup [.str r0, .bool r1]]) f x0 x1 := (letter_Base_0.gM3 R c_letter_Words_0 c_letter_one_0 c_letter_rules_0 c_letter_rules_6_0 c_letter_rules_5_0 c_letter_rules_4_0 c_letter_rules_3_0 c_letter_rules_2_0 c_letter_rules_1_0 κ f).1 x0 x1
theorem letter_Base_0.g4 (R : Type) (c_letter_Words_0 : ByteArray → (ByteArray → Option R) → Option R) (c_letter_one_0 : ByteArray → (ByteArray → Option R) → Option R) (c_letter_rules_0 : (Bool → Bool → Bool → Bool → Bool → Bool → Option R) → Option R) (c_letter_rules_6_0 : ByteArray → (ByteArray → Bool → Option R) → Option R) (c_letter_rules_5_0 : ByteArray → (ByteArray → Bool → Option R) → Option R) (c_letter_rules_4_0 : ByteArray → (ByteArray → Bool → Option R) → Option R) (c_letter_rules_3_0 : ByteArray → (ByteArray → Bool → Option R) → Option R) (c_letter_rules_2_0 : ByteArray → (ByteArray → Bool → Option R) → Option R) (c_letter_rules_1_0 : ByteArray → (ByteArray → Bool → Option R) → Option R) (κ : List SV → Option R) (f : Nat) (x0 : ByteArray) (x1 : Bool) (x2 : Bool) (x3 : Bool) (x4 : Bool) (x5 : Bool) (x6 : Bool) (x7 : Bool) (x8 : Int) : goto (letter_Base_0.C R c_letter_Words_0 c_letter_one_0 c_letter_rules_0 c_letter_rules_6_0 c_letter_rules_5_0 c_letter_rules_4_0 c_letter_rules_3_0 c_letter_rules_2_0 c_letter_rules_1_0) (retK (letter_Base_0.C R c_letter_Words_0 c_letter_one_0 c_letter_rules_0 c_letter_rules_6_0 c_letter_rules_5_0 c_letter_rules_4_0 c_letter_rules_3_0 c_letter_rules_2_0 c_letter_rules_1_0) Tryd.f23.results.toList (List.range 0) κ) 10000 f (placeOf Tryd.f23 4) (letter_Base_0.s4 x0 x1 x2 x3 x4 x5 x6 x7 x8) = letter_Base_0.L4 c_letter_Words_0 c_letter_one_0 c_letter_rules_0 c_letter_rules_6_0 c_letter_rules_5_0 c_letter_rules_4_0 c_letter_rules_3_0 c_letter_rules_2_0 c_letter_rules_1_0 (fun r0 r1 => κ [.tup [.str r0, .bool r1]]) f x0 x1 x2 x3 x4 x5 x6 x7 x8 := (letter_Base_0.gM3 R c_letter_Words_0 c_letter_one_0 c_letter_rules_0 c_letter_rules_6_0 c_letter_rules_5_0 c_letter_rules_4_0 c_letter_rules_3_0 c_letter_rules_2_0 c_letter_rules_1_0 κ f).2 x0 x1 x2 x3 x4 x5 x6 x7 x8
theorem letter_Base_0.run (R : Type) (κ : List SV → Option R) (a0 : ByteArray) :
    runF (letter_Base_0.C R letter_Words_0 letter_one_0 letter_rules_0 letter_rules_6_0 letter_rules_5_0 letter_rules_4_0 letter_rules_3_0 letter_rules_2_0 letter_rules_1_0) Tryd.f23 10000 fuelK [.str a0] κ = letter_Base_0 a0 (fun r0 r1 => κ [.tup [.str r0, .bool r1]]) := by
  rw [letter_Base_0.c]
  simp only [letter_Base_0.g3 R letter_Words_0 letter_one_0 letter_rules_0 letter_rules_6_0 letter_rules_5_0 letter_rules_4_0 letter_rules_3_0 letter_rules_2_0 letter_rules_1_0 κ fuelK, letter_Base_0.g4 R letter_Words_0 letter_one_0 letter_rules_0 letter_rules_6_0 letter_rules_5_0 letter_rules_4_0 letter_rules_3_0 letter_rules_2_0 letter_rules_1_0 κ fuelK]
  rfl
theorem letter_Base_0.Γ_does {R : Type} (tab : Tab) (ht : TabOk tab) (g : Nat) : Does (R := R) Tryd.prog (tabTy tyL) tab g ((letter_Base_0.C R letter_Words_0 letter_one_0 letter_rules_0 letter_rules_6_0 letter_rules_5_0 letter_rules_4_0 letter_rules_3_0 letter_rules_2_0 letter_rules_1_0).call g) := by
  refine does_of fun xs κ => ?_
  show DoesAt _ _ _ g xs κ (letter_Base_0.Γ letter_Words_0 letter_one_0 letter_rules_0 letter_rules_6_0 letter_rules_5_0 letter_rules_4_0 letter_rules_3_0 letter_rules_2_0 letter_rules_1_0 g xs κ)
  unfold letter_Base_0.Γ
  split
  · split
    · exact letter_Words_0.does tab ht _ κ
    · exact DoesAt.none
  · split
    · exact letter_one_0.does tab ht _ κ
    · exact DoesAt.none
  · split
    · exact letter_rules_0.does tab ht κ
    · exact DoesAt.none
  · split
    · exact letter_rules_1_0.does tab ht _ κ
    · exact DoesAt.none
  · split
    · exact letter_rules_2_0.does tab ht _ κ
    · exact DoesAt.none
  · split
    · exact letter_rules_3_0.does tab ht _ κ
    · exact DoesAt.none
  · split
    · exact letter_rules_4_0.does tab ht _ κ
    · exact DoesAt.none
  · split
    · exact letter_rules_5_0.does tab ht _ κ
    · exact DoesAt.none
  · split
    · exact letter_rules_6_0.does tab ht _ κ
    · exact DoesAt.none
  · exact DoesAt.none
theorem letter_Base_0.does {R : Type} (tab : Tab) (ht : TabOk tab) (a0 : ByteArray) (κ : List SV → Option R) : DoesAt Tryd.prog (tabTy tyL) tab 23 [.str a0] κ (letter_Base_0 a0 (fun r0 r1 => κ [.tup [.str r0, .bool r1]])) := by
  intro r h w vs Rt Ra bs hpre
  exact runF_sound tyOk (letter_Base_0.Γ_does tab ht) (show Tryd.prog.funcs[23]? = some Tryd.f23 by kernel_rfl) (by kernel_rfl) ((letter_Base_0.run R κ a0).trans h) hpre
def letter_Get_0.Γ {R : Type} (c_octet_Same_0 : ByteArray → ByteArray → (Bool → Option R) → Option R) (g : Nat) (xs : List SV) (κ : List SV → Option R) : Option R :=
  match g with
  | 33 => (match xs with
    | [.str a0, .str a1] => c_octet_Same_0 a0 a1 (fun r0 => κ [.bool r0])
    | _ => none)
  | _ => none
def letter_Get_0.h (n : Nat) : Option (List (Nat × List (Nat × Nat))) :=
  match n with
  | 2 => some [(1, [(0, 0)]), (4, [(0, 0)]), (7, [(0, 0)]), (8, [(0, 0)]), (9, [(0, 0)])]
  | _ => none
def letter_Get_0.C (R : Type) (c_octet_Same_0 : ByteArray → ByteArray → (Bool → Option R) → Option R) : Cfg R := ⟨tabTy tyL, letter_Get_0.Γ c_octet_Same_0, fun _ => false, letter_Get_0.h⟩
def letter_Get_0.s2 (x0 : ByteArray) (x1 : List AV) (x2 : Int) (x3 : Int) (x4 : Bool) (x5 : ByteArray) : St := ⟨mkS 22 [(1, .str x0), (4, .ptr 383 0), (7, .ro 28 x1 false), (8, .int .i64 x2), (9, .int .i64 x3)], [(383, .var 30 [.bool x4, .str x5])], top⟩
theorem letter_Get_0.c2 (R : Type) (c_octet_Same_0 : ByteArray → ByteArray → (Bool → Option R) → Option R) (J : List Item → St → Option R) (κ : List SV → Option R) (x0 : ByteArray) (x1 : List AV) (x2 : Int) (x3 : Int) (x4 : Bool) (x5 : ByteArray) :
    start (letter_Get_0.C R c_octet_Same_0) J (retK (letter_Get_0.C R c_octet_Same_0) Tryd.f14.results.toList (List.range 0) κ) 10000 (placeOf Tryd.f14 2) (letter_Get_0.s2 x0 x1 x2 x3 x4 x5) = letter_Get_0.t2 c_octet_Same_0 x0 x1 x2 x3 x4 x5 (fun y0 y1 y2 y3 y4 y5 => J (placeOf Tryd.f14 2) (letter_Get_0.s2 y0 y1 y2 y3 y4 y5)) (fun r0 r1 => κ [.agg [.bool r0, .str r1]]) := by kernel_rfl
theorem letter_Get_0.c (R : Type) (c_octet_Same_0 : ByteArray → ByteArray → (Bool → Option R) → Option R) (κ : List SV → Option R) (k : Nat) (a0 : List AV) (a1 : ByteArray) :
    runF (letter_Get_0.C R c_octet_Same_0) Tryd.f14 10000 k [.ro 28 a0 false, .str a1] κ = letter_Get_0.e c_octet_Same_0 a0 a1 (fun y0 y1 y2 y3 y4 y5 => goto (letter_Get_0.C R c_octet_Same_0) (retK (letter_Get_0.C R c_octet_Same_0) Tryd.f14.results.toList (List.range 0) κ) 10000 k (placeOf Tryd.f14 2) (letter_Get_0.s2 y0 y1 y2 y3 y4 y5)) (fun r0 r1 => κ [.agg [.bool r0, .str r1]]) := by kernel_rfl
theorem letter_Get_0.g2 (R : Type) (c_octet_Same_0 : ByteArray → ByteArray → (Bool → Option R) → Option R) (κ : List SV → Option R) : ∀ (f : Nat) (x0 : ByteArray) (x1 : List AV) (x2 : Int) (x3 : Int) (x4 : Bool) (x5 : ByteArray), goto (letter_Get_0.C R c_octet_Same_0) (retK (letter_Get_0.C R c_octet_Same_0) Tryd.f14.results.toList (List.range 0) κ) 10000 f (placeOf Tryd.f14 2) (letter_Get_0.s2 x0 x1 x2 x3 x4 x5) = letter_Get_0.L2 c_octet_Same_0 (fun r0 r1 => κ [.agg [.bool r0, .str r1]]) f x0 x1 x2 x3 x4 x5
  | 0, _, _, _, _, _, _ => rfl
  | f + 1, x0, x1, x2, x3, x4, x5 => by
    show start (letter_Get_0.C R c_octet_Same_0) (goto (letter_Get_0.C R c_octet_Same_0) (retK (letter_Get_0.C R c_octet_Same_0) Tryd.f14.results.toList (List.range 0) κ) 10000 f) (retK (letter_Get_0.C R c_octet_Same_0) Tryd.f14.results.toList (List.range 0) κ) 10000 (placeOf Tryd.f14 2) (letter_Get_0.s2 x0 x1 x2 x3 x4 x5) = _
    rw [letter_Get_0.c2]
    simp only [letter_Get_0.g2 R c_octet_Same_0 κ f]
    rfl
theorem letter_Get_0.run (R : Type) (κ : List SV → Option R) (a0 : List AV) (a1 : ByteArray) :
    runF (letter_Get_0.C R octet_Same_0) Tryd.f14 10000 fuelK [.ro 28 a0 false, .str a1] κ = letter_Get_0 a0 a1 (fun r0 r1 => κ [.agg [.bool r0, .str r1]]) := by
  rw [letter_Get_0.c]
  simp only [letter_Get_0.g2 R octet_Same_0 κ fuelK]
  rfl
theorem letter_Get_0.Γ_does {R : Type} (tab : Tab) (ht : TabOk tab) (g : Nat) : Does (R := R) Tryd.prog (tabTy tyL) tab g ((letter_Get_0.C R octet_Same_0).call g) := by
  refine does_of fun xs κ => ?_
  show DoesAt _ _ _ g xs κ (letter_Get_0.Γ octet_Same_0 g xs κ)
  unfold letter_Get_0.Γ
  split
  · split
    · exact octet_Same_0.does tab ht _ _ κ
    · exact DoesAt.none
  · exact DoesAt.none
theorem letter_Get_0.does {R : Type} (tab : Tab) (ht : TabOk tab) (a0 : List AV) (a1 : ByteArray) (κ : List SV → Option R) : DoesAt Tryd.prog (tabTy tyL) tab 14 [.ro 28 a0 false, .str a1] κ (letter_Get_0 a0 a1 (fun r0 r1 => κ [.agg [.bool r0, .str r1]])) := by
  intro r h w vs Rt Ra bs hpre
  exact runF_sound tyOk (letter_Get_0.Γ_does tab ht) (show Tryd.prog.funcs[14]? = some Tryd.f14 by kernel_rfl) (by kernel_rfl) ((letter_Get_0.run R κ a0 a1).trans h) hpre
def letter_Pick_0.Γ {R : Type} (c_letter_rows_0 : ByteArray → (List AV → Option R) → Option R) (c_strings_Builder_WriteString_0 : List AV → ByteArray → (Int → List AV → Option R) → Option R) (c_strings_Builder_String_0 : List AV → (ByteArray → Option R) → Option R) (c_strings_HasSuffix_0 : ByteArray → ByteArray → (Bool → Option R) → Option R) (g : Nat) (xs : List SV) (κ : List SV → Option R) : Option R :=
  match g with
  | 35 => (match xs with
    | [.str a0] => c_letter_rows_0 a0 (fun r0 => κ [.fr 58 r0 true])
    | _ => none)
  | 39 => (match xs with
    | [.vp 63 [.nos, .fr 5 a0 true], .str a1] => c_strings_Builder_WriteString_0 a0 a1 (fun r0 r1 => κ [.tup [.int .i64 r0, .nili], .vp 63 [.nos, .fr 5 r1 true]])
    | _ => none)
  | 40 => (match xs with
    | [.str a0, .str a1] => c_strings_HasSuffix_0 a0 a1 (fun r0 => κ [.bool r0])
    | _ => none)
  | 41 => (match xs with
    | [.vp 63 [.nos, .fr 5 a0 true]] => c_strings_Builder_String_0 a0 (fun r0 => κ [.str r0, .vp 63 [.nos, .no]])
    | _ => none)
  | _ => none
def letter_Pick_0.h (n : Nat) : Option (List (Nat × List (Nat × Nat))) :=
  match n with
  | 3 => some [(1, [(0, 0)]), (2, [(0, 0)]), (7, [(1, 7)]), (14, [(0, 0)]), (15, [(0, 0)]), (16, [(0, 0)])]
  | 7 => some [(1, [(0, 0)]), (2, [(0, 0)]), (7, [(0, 0)]), (9, [(0, 0)]), (10, [(0, 0)]), (14, [(0, 0)]), (15, [(0, 0)]), (16, [(0, 0)]), (20, [(0, 0)]), (21, [(0, 0)]), (22, [(0, 0)])]
  | _ => none
def letter_Pick_0.C (R : Type) (c_letter_rows_0 : ByteArray → (List AV → Option R) → Option R) (c_strings_Builder_WriteString_0 : List AV → ByteArray → (Int → List AV → Option R) → Option R) (c_strings_Builder_String_0 : List AV → (ByteArray → Option R) → Option R) (c_strings_HasSuffix_0 : ByteArray → ByteArray → (Bool → Option R) → Option R) : Cfg R := ⟨tabTy tyL, letter_Pick_0.Γ c_letter_rows_0 c_strings_Builder_WriteString_0 c_strings_Builder_String_0 c_strings_HasSuffix_0, fun _ => false, letter_Pick_0.h⟩
def letter_Pick_0.s3 (x0 : Bool) (x1 : Int) (x2 : Int) (x3 : List AV) (x4 : List AV) : St := ⟨mkS 52 [(1, .bool x0), (2, .nil), (7, .ptr 575 0), (14, .own 960), (15, .int .i64 x1), (16, .int .i64 x2)], [(575, .var 63 [.nos, .own 513]), (513, .row 5 x3 true), (960, .row 58 x4 true)], top⟩
def letter_Pick_0.s7 (x0 : Bool) (x1 : Bool) (x2 : Int) (x3 : Int) (x4 : Int) (x5 : Int) (x6 : List AV) (x7 : ByteArray) (x8 : ByteArray) (x9 : Bool) (x10 : Bool) (x11 : List AV) : St := ⟨mkS 52 [(1, .bool x0), (2, .nil), (7, .ptr 575 0), (9, .ptr 703 0), (10, .bool x1), (14, .own 960), (15, .int .i64 x2), (16, .int .i64 x3), (20, .nil), (21, .int .i64 x4), (22, .int .i64 x5)], [(575, .var 63 [.nos, .own 513]), (513, .row 5 x6 true), (703, .var 58 [.str x7, .str x8, .bool x9, .bool x10]), (960, .row 58 x11 true)], top⟩
theorem letter_Pick_0.c3 (R : Type) (c_letter_rows_0 : ByteArray → (List AV → Option R) → Option R) (c_strings_Builder_WriteString_0 : List AV → ByteArray → (Int → List AV → Option R) → Option R) (c_strings_Builder_String_0 : List AV → (ByteArray → Option R) → Option R) (c_strings_HasSuffix_0 : ByteArray → ByteArray → (Bool → Option R) → Option R) (J : List Item → St → Option R) (κ : List SV → Option R) (x0 : Bool) (x1 : Int) (x2 : Int) (x3 : List AV) (x4 : List AV) :
    start (letter_Pick_0.C R c_letter_rows_0 c_strings_Builder_WriteString_0 c_strings_Builder_String_0 c_strings_HasSuffix_0) J (retK (letter_Pick_0.C R c_letter_rows_0 c_strings_Builder_WriteString_0 c_strings_Builder_String_0 c_strings_HasSuffix_0) Tryd.f18.results.toList (List.range 0) κ) 10000 (placeOf Tryd.f18 3) (letter_Pick_0.s3 x0 x1 x2 x3 x4) = letter_Pick_0.t3 c_letter_rows_0 c_strings_Builder_WriteString_0 c_strings_Builder_String_0 c_strings_HasSuffix_0 x0 x1 x2 x3 x4 (fun y0 y1 y2 y3 y4 => J (placeOf Tryd.f18 3) (letter_Pick_0.s3 y0 y1 y2 y3 y4)) (fun y0 y1 y2 y3 y4 y5 y6 y7 y8 y9 y10 y11 => J (placeOf Tryd.f18 7) (letter_Pick_0.s7 y0 y1 y2 y3 y4 y5 y6 y7 y8 y9 y10 y11)) (fun r0 => κ [.str r0]) := by kernel_rfl
theorem letter_Pick_0.c7 (R : Type) (c_letter_rows_0 : ByteArray → (List AV → Option R) → Option R) (c_strings_Builder_WriteString_0 : List AV → ByteArray → (Int → List AV → Option R) → Option R) (c_strings_Builder_String_0 : List AV → (ByteArray → Option R) → Option R) (c_strings_HasSuffix_0 : ByteArray → ByteArray → (Bool → Option R) → Option R) (J : List Item → St → Option R) (κ : List SV → Option R) (x0 : Bool) (x1 : Bool) (x2 : Int) (x3 : Int) (x4 : Int) (x5 : Int) (x6 : List AV) (x7 : ByteArray) (x8 : ByteArray) (x9 : Bool) (x10 : Bool) (x11 : List AV) :
    start (letter_Pick_0.C R c_letter_rows_0 c_strings_Builder_WriteString_0 c_strings_Builder_String_0 c_strings_HasSuffix_0) J (retK (letter_Pick_0.C R c_letter_rows_0 c_strings_Builder_WriteString_0 c_strings_Builder_String_0 c_strings_HasSuffix_0) Tryd.f18.results.toList (List.range 0) κ) 10000 (placeOf Tryd.f18 7) (letter_Pick_0.s7 x0 x1 x2 x3 x4 x5 x6 x7 x8 x9 x10 x11) = letter_Pick_0.t7 c_letter_rows_0 c_strings_Builder_WriteString_0 c_strings_Builder_String_0 c_strings_HasSuffix_0 x0 x1 x2 x3 x4 x5 x6 x7 x8 x9 x10 x11 (fun y0 y1 y2 y3 y4 => J (placeOf Tryd.f18 3) (letter_Pick_0.s3 y0 y1 y2 y3 y4)) (fun y0 y1 y2 y3 y4 y5 y6 y7 y8 y9 y10 y11 => J (placeOf Tryd.f18 7) (letter_Pick_0.s7 y0 y1 y2 y3 y4 y5 y6 y7 y8 y9 y10 y11)) (fun r0 => κ [.str r0]) := by kernel_rfl
theorem letter_Pick_0.c (R : Type) (c_letter_rows_0 : ByteArray → (List AV → Option R) → Option R) (c_strings_Builder_WriteString_0 : List AV → ByteArray → (Int → List AV → Option R) → Option R) (c_strings_Builder_String_0 : List AV → (ByteArray → Option R) → Option R) (c_strings_HasSuffix_0 : ByteArray → ByteArray → (Bool → Option R) → Option R) (κ : List SV → Option R) (k : Nat) (a0 : ByteArray) (a1 : Bool) :
    runF (letter_Pick_0.C R c_letter_rows_0 c_strings_Builder_WriteString_0 c_strings_Builder_String_0 c_strings_HasSuffix_0) Tryd.f18 10000 k [.str a0, .bool a1, .nil] κ = letter_Pick_0.e c_letter_rows_0 c_strings_Builder_WriteString_0 c_strings_Builder_String_0 c_strings_HasSuffix_0 a0 a1 (fun y0 y1 y2 y3 y4 => goto (letter_Pick_0.C R c_letter_rows_0 c_strings_Builder_WriteString_0 c_strings_Builder_String_0 c_strings_HasSuffix_0) (retK (letter_Pick_0.C R c_letter_rows_0 c_strings_Builder_WriteString_0 c_strings_Builder_String_0 c_strings_HasSuffix_0) Tryd.f18.results.toList (List.range 0) κ) 10000 k (placeOf Tryd.f18 3) (letter_Pick_0.s3 y0 y1 y2 y3 y4)) (fun y0 y1 y2 y3 y4 y5 y6 y7 y8 y9 y10 y11 => goto (letter_Pick_0.C R c_letter_rows_0 c_strings_Builder_WriteString_0 c_strings_Builder_String_0 c_strings_HasSuffix_0) (retK (letter_Pick_0.C R c_letter_rows_0 c_strings_Builder_WriteString_0 c_strings_Builder_String_0 c_strings_HasSuffix_0) Tryd.f18.results.toList (List.range 0) κ) 10000 k (placeOf Tryd.f18 7) (letter_Pick_0.s7 y0 y1 y2 y3 y4 y5 y6 y7 y8 y9 y10 y11)) (fun r0 => κ [.str r0]) := by kernel_rfl
theorem letter_Pick_0.gM3 (R : Type) (c_letter_rows_0 : ByteArray → (List AV → Option R) → Option R) (c_strings_Builder_WriteString_0 : List AV → ByteArray → (Int → List AV → Option R) → Option R) (c_strings_Builder_String_0 : List AV → (ByteArray → Option R) → Option R) (c_strings_HasSuffix_0 : ByteArray → ByteArray → (Bool → Option R) → Option R) (κ : List SV → Option R) : ∀ (f : Nat), (∀ (x0 : Bool) (x1 : Int) (x2 : Int) (x3 : List AV) (x4 : List AV), goto (letter_Pick_0.C R c_letter_rows_0 c_strings_Builder_WriteString_0 c_strings_Builder_String_0 c_strings_HasSuffix_0) (retK (letter_Pick_0.C R c_letter_rows_0 c_strings_Builder_WriteString_0 c_strings_Builder_String_0 c_strings_HasSuffix_0) Tryd.f18.results.toList (List.range 0) κ) 10000 f (placeOf Tryd.f18 3) (letter_Pick_0.s3 x0 x1 x2 x3 x4) = letter_Pick_0.L3 c_letter_rows_0 c_strings_Builder_WriteString_0 c_strings_Builder_String_0 c_strings_HasSuffix_0 (fun r0 => κ [.str r0]) f x0 x1 x2 x3 x4) ∧
    (∀ (x0 : Bool) (x1 : Bool) (x2 : Int) (x3 : Int) (x4 : Int) (x5 : Int) (x6 : List AV) (x7 : ByteArray) (x8 : ByteArray) (x9 : Bool) (x10 : Bool) (x11 : List AV), goto (letter_Pick_0.C R c_letter_rows_0 c_strings_Builder_WriteString_0 c_strings_Builder_String_0 c_strings_HasSuffix_0) (retK (letter_Pick_0.C R c_letter_rows_0 c_strings_Builder_WriteString_0 c_strings_Builder_String_0 c_strings_HasSuffix_0) Tryd.f18.results.toList (List.range 0) κ) 10000 f (placeOf Tryd.f18 7) (letter_Pick_0.s7 x0 x1 x2 x3 x4 x5 x6 x7 x8 x9 x10 x11) = letter_Pick_0.L7 c_letter_rows_0 c_strings_Builder_WriteString_0 c_strings_Builder_String_0 c_strings_HasSuffix_0 (fun r0 => κ [.str r0]) f x0 x1 x2 x3 x4 x5 x6 x7 x8 x9 x10 x11)
  | 0 => ⟨fun _ _ _ _ _ => rfl, fun _ _ _ _ _ _ _ _ _ _ _ _ => rfl⟩
  | f + 1 => by
    obtain ⟨ih0, ih1⟩ := letter_Pick_0.gM3 R c_letter_rows_0 c_strings_Builder_WriteString_0 c_strings_Builder_String_0 c_strings_HasSuffix_0 κ f
    refine ⟨?_, ?_⟩
    · intro x0 x1 x2 x3 x4
      show start (letter_Pick_0.C R c_letter_rows_0 c_strings_Builder_WriteString_0 c_strings_Builder_String_0 c_strings_HasSuffix_0) (goto (letter_Pick_0.C R c_letter_rows_0 c_strings_Builder_WriteString_0 c_strings_Builder_String_0 c_strings_HasSuffix_0) (retK (letter_Pick_0.C R c_letter_rows_0 c_strings_Builder_WriteString_0 c_strings_Builder_String_0 c_strings_HasSuffix_0) Tryd.f18.results.toList (List.range 0) κ) 10000 f) (retK (letter_Pick_0.C R c_letter_rows_0 c_strings_Builder_WriteString_0 c_strings_Builder_String_0 c_strings_HasSuffix_0) Tryd.f18.results.toList (List.range 0) κ) 10000 (placeOf Tryd.f18 3) (letter_Pick_0.s3 x0 x1 x2 x3 x4) = _
      rw [letter_Pick_0.c3]
      simp only [ih0, ih1]
      rfl
    · intro x0 x1 x2 x3 x4 x5 x6 x7 x8 x9 x10 x11
      show start (letter_Pick_0.C R c_letter_rows_0 c_strings_Builder_WriteString_0 c_strings_Builder_String_0 c_strings_HasSuffix_0) (goto (letter_Pick_0.C R c_letter_rows_0 c_strings_Builder_WriteString_0 c_strings_Builder_String_0 c_strings_HasSuffix_0) (retK (letter_Pick_0.C R c_letter_rows_0 c_strings_Builder_WriteString_0 c_strings_Builder_String_0 c_strings_HasSuffix_0) Tryd.f18.results.toList (List.range 0) κ) 10000 f) (retK (letter_Pick_0.C R c_letter_rows_0 c_strings_Builder_WriteString_0 c_strings_Builder_String_0 c_strings_HasSuffix_0) Tryd.f18.results.toList (List.range 0) κ) 10000 (placeOf Tryd.f18 7) (letter_Pick_0.s7 x0 x1 x2 x3 x4 x5 x6 x7 x8 x9 x10 x11) = _
      rw [letter_Pick_0.c7]
      simp only [ih0, ih1]
      rfl
theorem letter_Pick_0.g3 (R : Type) (c_letter_rows_0 : ByteArray → (List AV → Option R) → Option R) (c_strings_Builder_WriteString_0 : List AV → ByteArray → (Int → List AV → Option R) → Option R) (c_strings_Builder_String_0 : List AV → (ByteArray → Option R) → Option R) (c_strings_HasSuffix_0 : ByteArray → ByteArray → (Bool → Option R) → Option R) (κ : List SV → Option R) (f : Nat) (x0 : Bool) (x1 : Int) (x2 : Int) (x3 : List AV) (x4 : List AV) : goto (letter_Pick_0.C R c_letter_rows_0 c_strings_Builder_WriteString_0 c_strings_Builder_String_0 c_strings_HasSuffix_0) (retK (letter_Pick_0.C R c_letter_rows_0 c_strings_Builder_WriteString_0 c_strings_Builder_String_0 c_strings_HasSuffix_0) Tryd.f18.results.toList (List.range 0) κ) 10000 f (placeOf Tryd.f18 3) (letter_Pick_0.s3 x0 x1 x2 x3 x4) = letter_Pick_0.L3 c_letter_rows_0 c_strings_Builder_WriteString_0 c_strings_Builder_String_0 c_strings_HasSuffix_0 (fun r0 => κ [.str r0]) f x0 x1 x2 x3 x4 := (letter_Pick_0.gM3 R c_letter_rows_0 c_strings_Builder_WriteString_0 c_strings_Builder_String_0 c_strings_HasSuffix_0 κ f).1 x0 x1 x2 x3 x4
theorem letter_Pick_0.g7 (R : Type) (c_letter_rows_0 : ByteArray → (List AV → Option R) → Option R) (c_strings_Builder_WriteString_0 : List AV → ByteArray → (Int → List AV → Option R) → Option R) (c_strings_Builder_String_0 : List AV → (ByteArray → Option R) → Option R) (c_strings_HasSuffix_0 : ByteArray → ByteArray → (Bool → Option R) → Option R) (κ : List SV → Option R) (f : Nat) (x0 : Bool) (x1 : Bool) (x2 : Int) (x3 : Int) (x4 : Int) (x5 : Int) (x6 : List AV) (x7 : ByteArray) (x8 : ByteArray) (x9 : Bool) (x10 : Bool) (x11 : List AV) : goto (letter_Pick_0.C R c_letter_rows_0 c_strings_Builder_WriteString_0 c_strings_Builder_String_0 c_strings_HasSuffix_0) (retK (letter_Pick_0.C R c_letter_rows_0 c_strings_Builder_WriteString_0 c_strings_Builder_String_0 c_strings_HasSuffix_0) Tryd.f18.results.toList (List.range 0) κ) 10000 f (placeOf Tryd.f18 7) (letter_Pick_0.s7 x0 x1 x2 x3 x4 x5 x6 x7 x8 x9 x10 x11) = letter_Pick_0.L7 c_letter_rows_0 c_strings_Builder_WriteString_0 c_strings_Builder_String_0 c_strings_HasSuffix_0 (fun r0 => κ [.str r0]) f x0 x1 x2 x3 x4 x5 x6 x7 x8 x9 x10 x11 := (letter_Pick_0.gM3 R c_letter_rows_0 c_strings_Builder_WriteString_0 c_strings_Builder_String_0 c_strings_HasSuffix_0 κ f).2 x0 x1 x2 x3 x4 x5 x6 x7 x8 x9 x10 x11
theorem letter_Pick_0.run (R : Type) (κ : List SV → Option R) (a0 : ByteArray) (a1 : Bool) :
    runF (letter_Pick_0.C R letter_rows_0 strings_Builder_WriteString_0 strings_Builder_String_0 strings_HasSuffix_0) Tryd.f18 10000 fuelK [.str a0, .bool a1, .nil] κ = letter_Pick_0 a0 a1 (fun r0 => κ [.str r0]) := by
  rw [letter_Pick_0.c]
  simp only [letter_Pick_0.g3 R letter_rows_0 strings_Builder_WriteString_0 strings_Builder_String_0 strings_HasSuffix_0 κ fuelK, letter_Pick_0.g7 R letter_rows_0 strings_Builder_WriteString_0 strings_Builder_String_0 strings_HasSuffix_0 κ fuelK]
  rfl
theorem letter_Pick_0.Γ_does {R : Type} (tab : Tab) (ht : TabOk tab) (g : Nat) : Does (R := R) Tryd.prog (tabTy tyL) tab g ((letter_Pick_0.C R letter_rows_0 strings_Builder_WriteString_0 strings_Builder_String_0 strings_HasSuffix_0).call g) := by
  refine does_of fun xs κ => ?_
  show DoesAt _ _ _ g xs κ (letter_Pick_0.Γ letter_rows_0 strings_Builder_WriteString_0 strings_Builder_String_0 strings_HasSuffix_0 g xs κ)
  unfold letter_Pick_0.Γ
  split
  · split
    · exact letter_rows_0.does tab ht _ κ
    · exact DoesAt.none
  · split
    · exact strings_Builder_WriteString_0.does tab ht _ _ κ
    · exact DoesAt.none
  · split
    · exact strings_HasSuffix_0.does tab ht _ _ κ
    · exact DoesAt.none
  · split
    · exact strings_Builder_String_0.does tab ht _ κ
    · exact DoesAt.none
  · exact DoesAt.none
theorem letter_Pick_0.does {R : Type} (tab : Tab) (ht : TabOk tab) (a0 : ByteArray) (a1 : Bool) (κ : List SV → Option R) : DoesAt Tryd.prog (tabTy tyL) tab 18 [.str a0, .bool a1, .nil] κ (letter_Pick_0 a0 a1 (fun r0 => κ [.str r0])) := by
  intro r h w vs Rt Ra bs hpre
  exact runF_sound tyOk (letter_Pick_0.Γ_does tab ht) (show Tryd.prog.funcs[18]? = some Tryd.f18 by kernel_rfl) (by kernel_rfl) ((letter_Pick_0.run R κ a0 a1).trans h) hpre
def postbaglaw5_known_0.Γ {R : Type} (c_letter_Split_0 : ByteArray → (ByteArray → ByteArray → Option R) → Option R) (c_letter_Fields_0 : ByteArray → (List AV → Option R) → Option R) (c_letter_Addresses_0 : ByteArray → (List AV → Option R) → Option R) (c_letter_Ids_0 : ByteArray → (List AV → Option R) → Option R) (c_letter_Base_0 : ByteArray → (ByteArray → Bool → Option R) → Option R) (c_letter_Get_0 : List AV → ByteArray → (Bool → ByteArray → Option R) → Option R) (c_letter_Pick_0 : ByteArray → Bool → (ByteArray → Option R) → Option R) (g : Nat) (xs : List SV) (κ : List SV → Option R) : Option R :=
  match g with
  | 11 => (match xs with
    | [.str a0] => c_letter_Split_0 a0 (fun r0 r1 => κ [.tup [.str r0, .str r1]])
    | _ => none)
  | 14 => (match xs with
    | [.ro 28 a0 false, .str a1] => c_letter_Get_0 a0 a1 (fun r0 r1 => κ [.agg [.bool r0, .str r1]])
    | _ => none)
  | 17 => (match xs with
    | [.str a0] => c_letter_Fields_0 a0 (fun r0 => κ [.fr 28 r0 true])
    | _ => none)
  | 18 => (match xs with
    | [.str a0, .bool a1, .nil] => c_letter_Pick_0 a0 a1 (fun r0 => κ [.str r0])
    | _ => none)
  | 23 => (match xs with
    | [.str a0] => c_letter_Base_0 a0 (fun r0 r1 => κ [.tup [.str r0, .bool r1]])
    | _ => none)
  | 24 => (match xs with
    | [.str a0] => c_letter_Addresses_0 a0 (fun r0 => κ [.fr 46 r0 true])
    | _ => none)
  | 27 => (match xs with
    | [.str a0] => c_letter_Ids_0 a0 (fun r0 => κ [.fr 9 r0 true])
    | _ => none)
  | _ => none
def postbaglaw5_known_0.h (n : Nat) : Option (List (Nat × List (Nat × Nat))) :=
  match n with
  | _ => none
def postbaglaw5_known_0.C (R : Type) (c_letter_Split_0 : ByteArray → (ByteArray → ByteArray → Option R) → Option R) (c_letter_Fields_0 : ByteArray → (List AV → Option R) → Option R) (c_letter_Addresses_0 : ByteArray → (List AV → Option R) → Option R) (c_letter_Ids_0 : ByteArray → (List AV → Option R) → Option R) (c_letter_Base_0 : ByteArray → (ByteArray → Bool → Option R) → Option R) (c_letter_Get_0 : List AV → ByteArray → (Bool → ByteArray → Option R) → Option R) (c_letter_Pick_0 : ByteArray → Bool → (ByteArray → Option R) → Option R) : Cfg R := ⟨tabTy tyL, postbaglaw5_known_0.Γ c_letter_Split_0 c_letter_Fields_0 c_letter_Addresses_0 c_letter_Ids_0 c_letter_Base_0 c_letter_Get_0 c_letter_Pick_0, fun _ => false, postbaglaw5_known_0.h⟩
theorem postbaglaw5_known_0.c (R : Type) (c_letter_Split_0 : ByteArray → (ByteArray → ByteArray → Option R) → Option R) (c_letter_Fields_0 : ByteArray → (List AV → Option R) → Option R) (c_letter_Addresses_0 : ByteArray → (List AV → Option R) → Option R) (c_letter_Ids_0 : ByteArray → (List AV → Option R) → Option R) (c_letter_Base_0 : ByteArray → (ByteArray → Bool → Option R) → Option R) (c_letter_Get_0 : List AV → ByteArray → (Bool → ByteArray → Option R) → Option R) (c_letter_Pick_0 : ByteArray → Bool → (ByteArray → Option R) → Option R) (κ : List SV → Option R) (k : Nat) :
    runF (postbaglaw5_known_0.C R c_letter_Split_0 c_letter_Fields_0 c_letter_Addresses_0 c_letter_Ids_0 c_letter_Base_0 c_letter_Get_0 c_letter_Pick_0) Tryd.f13 10000 k [] κ = postbaglaw5_known_0.e c_letter_Split_0 c_letter_Fields_0 c_letter_Addresses_0 c_letter_Ids_0 c_letter_Base_0 c_letter_Get_0 c_letter_Pick_0 (fun r0 => κ [.bool r0]) := by kernel_rfl
theorem postbaglaw5_known_0.run (R : Type) (κ : List SV → Option R) :
    runF (postbaglaw5_known_0.C R letter_Split_0 letter_Fields_0 letter_Addresses_0 letter_Ids_0 letter_Base_0 letter_Get_0 letter_Pick_0) Tryd.f13 10000 fuelK [] κ = postbaglaw5_known_0 (fun r0 => κ [.bool r0]) := by
  rw [postbaglaw5_known_0.c]
  rfl
theorem postbaglaw5_known_0.Γ_does {R : Type} (tab : Tab) (ht : TabOk tab) (g : Nat) : Does (R := R) Tryd.prog (tabTy tyL) tab g ((postbaglaw5_known_0.C R letter_Split_0 letter_Fields_0 letter_Addresses_0 letter_Ids_0 letter_Base_0 letter_Get_0 letter_Pick_0).call g) := by
  refine does_of fun xs κ => ?_
  show DoesAt _ _ _ g xs κ (postbaglaw5_known_0.Γ letter_Split_0 letter_Fields_0 letter_Addresses_0 letter_Ids_0 letter_Base_0 letter_Get_0 letter_Pick_0 g xs κ)
  unfold postbaglaw5_known_0.Γ
  split
  · split
    · exact letter_Split_0.does tab ht _ κ
    · exact DoesAt.none
  · split
    · exact letter_Get_0.does tab ht _ _ κ
    · exact DoesAt.none
  · split
    · exact letter_Fields_0.does tab ht _ κ
    · exact DoesAt.none
  · split
    · exact letter_Pick_0.does tab ht _ _ κ
    · exact DoesAt.none
  · split
    · exact letter_Base_0.does tab ht _ κ
    · exact DoesAt.none
  · split
    · exact letter_Addresses_0.does tab ht _ κ
    · exact DoesAt.none
  · split
    · exact letter_Ids_0.does tab ht _ κ
    · exact DoesAt.none
  · exact DoesAt.none
theorem postbaglaw5_known_0.does {R : Type} (tab : Tab) (ht : TabOk tab) (κ : List SV → Option R) : DoesAt Tryd.prog (tabTy tyL) tab 13 [] κ (postbaglaw5_known_0 (fun r0 => κ [.bool r0])) := by
  intro r h w vs Rt Ra bs hpre
  exact runF_sound tyOk (postbaglaw5_known_0.Γ_does tab ht) (show Tryd.prog.funcs[13]? = some Tryd.f13 by kernel_rfl) (by kernel_rfl) ((postbaglaw5_known_0.run R κ).trans h) hpre
def postbaglaw5_LetterSplits_0.Γ {R : Type} (c_letter_Split_0 : ByteArray → (ByteArray → ByteArray → Option R) → Option R) (c_postbagref5_Split_0 : ByteArray → (ByteArray → ByteArray → Option R) → Option R) (c_postbaglaw5_known_0 : (Bool → Option R) → Option R) (g : Nat) (xs : List SV) (κ : List SV → Option R) : Option R :=
  match g with
  | 11 => (match xs with
    | [.str a0] => c_letter_Split_0 a0 (fun r0 r1 => κ [.tup [.str r0, .str r1]])
    | _ => none)
  | 12 => (match xs with
    | [.str a0] => c_postbagref5_Split_0 a0 (fun r0 r1 => κ [.tup [.str r0, .str r1]])
    | _ => none)
  | 13 => (match xs with
    | [] => c_postbaglaw5_known_0 (fun r0 => κ [.bool r0])
    | _ => none)
  | _ => none
def postbaglaw5_LetterSplits_0.h (n : Nat) : Option (List (Nat × List (Nat × Nat))) :=
  match n with
  | _ => none
def postbaglaw5_LetterSplits_0.C (R : Type) (c_letter_Split_0 : ByteArray → (ByteArray → ByteArray → Option R) → Option R) (c_postbagref5_Split_0 : ByteArray → (ByteArray → ByteArray → Option R) → Option R) (c_postbaglaw5_known_0 : (Bool → Option R) → Option R) : Cfg R := ⟨tabTy tyL, postbaglaw5_LetterSplits_0.Γ c_letter_Split_0 c_postbagref5_Split_0 c_postbaglaw5_known_0, fun _ => false, postbaglaw5_LetterSplits_0.h⟩
theorem postbaglaw5_LetterSplits_0.c (R : Type) (c_letter_Split_0 : ByteArray → (ByteArray → ByteArray → Option R) → Option R) (c_postbagref5_Split_0 : ByteArray → (ByteArray → ByteArray → Option R) → Option R) (c_postbaglaw5_known_0 : (Bool → Option R) → Option R) (κ : List SV → Option R) (k : Nat) (a0 : ByteArray) :
    runF (postbaglaw5_LetterSplits_0.C R c_letter_Split_0 c_postbagref5_Split_0 c_postbaglaw5_known_0) Tryd.f3 10000 k [.str a0] κ = postbaglaw5_LetterSplits_0.e c_letter_Split_0 c_postbagref5_Split_0 c_postbaglaw5_known_0 a0 (fun r0 => κ [.bool r0]) := by kernel_rfl
theorem postbaglaw5_LetterSplits_0.run (R : Type) (κ : List SV → Option R) (a0 : ByteArray) :
    runF (postbaglaw5_LetterSplits_0.C R letter_Split_0 postbagref5_Split_0 postbaglaw5_known_0) Tryd.f3 10000 fuelK [.str a0] κ = postbaglaw5_LetterSplits_0 a0 (fun r0 => κ [.bool r0]) := by
  rw [postbaglaw5_LetterSplits_0.c]
  rfl
theorem postbaglaw5_LetterSplits_0.Γ_does {R : Type} (tab : Tab) (ht : TabOk tab) (g : Nat) : Does (R := R) Tryd.prog (tabTy tyL) tab g ((postbaglaw5_LetterSplits_0.C R letter_Split_0 postbagref5_Split_0 postbaglaw5_known_0).call g) := by
  refine does_of fun xs κ => ?_
  show DoesAt _ _ _ g xs κ (postbaglaw5_LetterSplits_0.Γ letter_Split_0 postbagref5_Split_0 postbaglaw5_known_0 g xs κ)
  unfold postbaglaw5_LetterSplits_0.Γ
  split
  · split
    · exact letter_Split_0.does tab ht _ κ
    · exact DoesAt.none
  · split
    · exact postbagref5_Split_0.does tab ht _ κ
    · exact DoesAt.none
  · split
    · exact postbaglaw5_known_0.does tab ht κ
    · exact DoesAt.none
  · exact DoesAt.none
theorem postbaglaw5_LetterSplits_0.does {R : Type} (tab : Tab) (ht : TabOk tab) (a0 : ByteArray) (κ : List SV → Option R) : DoesAt Tryd.prog (tabTy tyL) tab 3 [.str a0] κ (postbaglaw5_LetterSplits_0 a0 (fun r0 => κ [.bool r0])) := by
  intro r h w vs Rt Ra bs hpre
  exact runF_sound tyOk (postbaglaw5_LetterSplits_0.Γ_does tab ht) (show Tryd.prog.funcs[3]? = some Tryd.f3 by kernel_rfl) (by kernel_rfl) ((postbaglaw5_LetterSplits_0.run R κ a0).trans h) hpre
end Go.Proofs.Ab
