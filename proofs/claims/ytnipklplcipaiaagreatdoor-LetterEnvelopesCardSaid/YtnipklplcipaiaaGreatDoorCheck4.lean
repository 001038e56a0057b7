/- Each plain function is what a call of its Go function does, checked by the kernel (no condition but what its checks ask). -/
import Derived.Test.YtnipklplcipaiaaGreatDoorSeat
import Derived.Test.YtnipklplcipaiaaGreatDoorText
import Derived.Test.YtnipklplcipaiaaGreatDoorCheck3
namespace Go.Proofs.Ab
set_option linter.unusedVariables false
set_option maxRecDepth 4000
open Go Go.Proofs
set_option maxRecDepth 100000
namespace postbagref5_Envelope_o
abbrev K0 {R : Type} (κ : List SV -> Option R) (r0 : Bool) (r1 : ByteArray) (r2 : Bool) (r3 : ByteArray) (r4 : List AV) (r5 : List AV) (r6 : List AV) (r7 : List AV) (r8 : List AV) (r9 : List AV) (r10 : Bool) (r11 : ByteArray) (r12 : Bool) (r13 : ByteArray) : Option R := κ [.agg [.bool r0, .str r1, .bool r2, .str r3, .ro 60 r4 true, .ro 60 r5 true, .ro 60 r6 true, .ro 60 r7 true, .ro 60 r8 true, .ro 60 r9 true, .bool r10, .str r11, .bool r12, .str r13]]
section
variable (R : Type) (c1 : postbagref5_Get_os.F R) (c2 : postbagref5_of_os.F R)
def Γ (g : Nat) (xs : List SV) (κ : List SV -> Option R) : Option R :=
 match g with
 | 81 => (match xs with
  | [.ro 42 a0 false, .str a1] => c1 a0 a1 (postbagref5_Get_os.K0 κ)
  | _ => none)
 | 82 => (match xs with
  | [.ro 42 a0 false, .str a1] => c2 a0 a1 (postbagref5_of_os.K0 κ) (postbagref5_of_os.K1 κ) (postbagref5_of_os.K2 κ)
  | _ => none)
 | _ => none
def h (n : Nat) : Option (List (Nat × List (Nat × Nat))) :=
 match n with
 | 3 => some [(0, [(0, 0)]), (2, [(0, 0)]), (3, [(4, 62), (4, 1)])]
 | 4 => some [(0, [(0, 0)]), (2, [(0, 0)]), (3, [(5, 62), (5, 1)])]
 | 5 => some [(0, [(0, 0)]), (2, [(0, 0)]), (3, [(6, 62), (6, 1)])]
 | 7 => some [(0, [(0, 0)]), (2, [(0, 0)]), (3, [(5, 62), (5, 1)])]
 | 9 => some [(0, [(0, 0)]), (2, [(0, 0)]), (3, [(6, 62), (6, 1)])]
 | 10 => some [(0, [(0, 0)]), (2, [(0, 0)]), (3, [(7, 62), (7, 1)])]
 | 11 => some [(0, [(0, 0)]), (2, [(0, 0)]), (3, [(8, 62), (8, 1)])]
 | 12 => some [(2, [(0, 0)]), (3, [(9, 62), (9, 1)])]
 | _ => none
def C : Cfg R := ⟨tabTy tyL, Γ R c1 c2, fun _ => false, h⟩
noncomputable abbrev P (i : Nat) : List Item := placeOf Tryz.f30 i
noncomputable def S (κ : List SV -> Option R) (J : List Item -> St -> Option R) (i : Nat) (s : St) : Option R := start (C R c1 c2) J (retK (C R c1 c2) Tryz.f30.results.toList (List.range 0) κ) 10000 (P i) s
noncomputable def G (κ : List SV -> Option R) (f : Nat) (p : List Item) (s : St) : Option R := goto (C R c1 c2) (retK (C R c1 c2) Tryz.f30.results.toList (List.range 0) κ) 10000 f p s
def s3 (x0 : List AV) (x1 : Bool) (x2 : ByteArray) (x3 : Bool) (x4 : ByteArray) (x5 : Bool) (x6 : ByteArray) (x7 : Bool) (x8 : ByteArray) (x9 : Bool) (x10 : ByteArray) (x11 : Bool) (x12 : ByteArray) (x13 : List AV) (x14 : Bool) (x15 : ByteArray) (x16 : Bool) (x17 : ByteArray) : St := ⟨mkS 46 [(0, .ro 42 x0 false), (2, .ptr 255 0), (3, .ptr 319 0)], [(255, .var 46 [.bool x1, .str x2, .bool x3, .str x4, .nil, .nil, .nil, .nil, .nil, .nil, .bool x5, .str x6, .bool x7, .str x8]), (319, .var 46 [.bool x9, .str x10, .bool x11, .str x12, .ro 60 x13 true, .nil, .nil, .nil, .nil, .nil, .bool x14, .str x15, .bool x16, .str x17])], top⟩
def s4 (x0 : List AV) (x1 : Bool) (x2 : ByteArray) (x3 : Bool) (x4 : ByteArray) (x5 : Bool) (x6 : ByteArray) (x7 : Bool) (x8 : ByteArray) (x9 : Bool) (x10 : ByteArray) (x11 : Bool) (x12 : ByteArray) (x13 : List AV) (x14 : List AV) (x15 : Bool) (x16 : ByteArray) (x17 : Bool) (x18 : ByteArray) : St := ⟨mkS 46 [(0, .ro 42 x0 false), (2, .ptr 255 0), (3, .ptr 319 0)], [(255, .var 46 [.bool x1, .str x2, .bool x3, .str x4, .nil, .nil, .nil, .nil, .nil, .nil, .bool x5, .str x6, .bool x7, .str x8]), (319, .var 46 [.bool x9, .str x10, .bool x11, .str x12, .ro 60 x13 true, .ro 60 x14 true, .nil, .nil, .nil, .nil, .bool x15, .str x16, .bool x17, .str x18])], top⟩
def s5 (x0 : List AV) (x1 : Bool) (x2 : ByteArray) (x3 : Bool) (x4 : ByteArray) (x5 : Bool) (x6 : ByteArray) (x7 : Bool) (x8 : ByteArray) (x9 : Bool) (x10 : ByteArray) (x11 : Bool) (x12 : ByteArray) (x13 : List AV) (x14 : List AV) (x15 : List AV) (x16 : Bool) (x17 : ByteArray) (x18 : Bool) (x19 : ByteArray) : St := ⟨mkS 46 [(0, .ro 42 x0 false), (2, .ptr 255 0), (3, .ptr 319 0)], [(255, .var 46 [.bool x1, .str x2, .bool x3, .str x4, .nil, .nil, .nil, .nil, .nil, .nil, .bool x5, .str x6, .bool x7, .str x8]), (319, .var 46 [.bool x9, .str x10, .bool x11, .str x12, .ro 60 x13 true, .ro 60 x14 true, .ro 60 x15 true, .nil, .nil, .nil, .bool x16, .str x17, .bool x18, .str x19])], top⟩
def s7 (x0 : List AV) (x1 : Bool) (x2 : ByteArray) (x3 : Bool) (x4 : ByteArray) (x5 : Bool) (x6 : ByteArray) (x7 : Bool) (x8 : ByteArray) (x9 : Bool) (x10 : ByteArray) (x11 : Bool) (x12 : ByteArray) (x13 : List AV) (x14 : List AV) (x15 : List AV) (x16 : Bool) (x17 : ByteArray) (x18 : Bool) (x19 : ByteArray) : St := ⟨mkS 46 [(0, .ro 42 x0 false), (2, .ptr 255 0), (3, .ptr 319 0)], [(255, .var 46 [.bool x1, .str x2, .bool x3, .str x4, .nil, .nil, .nil, .nil, .nil, .nil, .bool x5, .str x6, .bool x7, .str x8]), (319, .var 46 [.bool x9, .str x10, .bool x11, .str x12, .ro 60 x13 true, .ro 60 x14 true, .ro 60 x15 true, .nil, .nil, .nil, .bool x16, .str x17, .bool x18, .str x19])], top⟩
def s9 (x0 : List AV) (x1 : Bool) (x2 : ByteArray) (x3 : Bool) (x4 : ByteArray) (x5 : Bool) (x6 : ByteArray) (x7 : Bool) (x8 : ByteArray) (x9 : Bool) (x10 : ByteArray) (x11 : Bool) (x12 : ByteArray) (x13 : List AV) (x14 : List AV) (x15 : List AV) (x16 : Bool) (x17 : ByteArray) (x18 : Bool) (x19 : ByteArray) : St := ⟨mkS 46 [(0, .ro 42 x0 false), (2, .ptr 255 0), (3, .ptr 319 0)], [(255, .var 46 [.bool x1, .str x2, .bool x3, .str x4, .nil, .nil, .nil, .nil, .nil, .nil, .bool x5, .str x6, .bool x7, .str x8]), (319, .var 46 [.bool x9, .str x10, .bool x11, .str x12, .ro 60 x13 true, .ro 60 x14 true, .ro 60 x15 true, .nil, .nil, .nil, .bool x16, .str x17, .bool x18, .str x19])], top⟩
def s10 (x0 : List AV) (x1 : Bool) (x2 : ByteArray) (x3 : Bool) (x4 : ByteArray) (x5 : Bool) (x6 : ByteArray) (x7 : Bool) (x8 : ByteArray) (x9 : Bool) (x10 : ByteArray) (x11 : Bool) (x12 : ByteArray) (x13 : List AV) (x14 : List AV) (x15 : List AV) (x16 : List AV) (x17 : Bool) (x18 : ByteArray) (x19 : Bool) (x20 : ByteArray) : St := ⟨mkS 46 [(0, .ro 42 x0 false), (2, .ptr 255 0), (3, .ptr 319 0)], [(255, .var 46 [.bool x1, .str x2, .bool x3, .str x4, .nil, .nil, .nil, .nil, .nil, .nil, .bool x5, .str x6, .bool x7, .str x8]), (319, .var 46 [.bool x9, .str x10, .bool x11, .str x12, .ro 60 x13 true, .ro 60 x14 true, .ro 60 x15 true, .ro 60 x16 true, .nil, .nil, .bool x17, .str x18, .bool x19, .str x20])], top⟩
def s11 (x0 : List AV) (x1 : Bool) (x2 : ByteArray) (x3 : Bool) (x4 : ByteArray) (x5 : Bool) (x6 : ByteArray) (x7 : Bool) (x8 : ByteArray) (x9 : Bool) (x10 : ByteArray) (x11 : Bool) (x12 : ByteArray) (x13 : List AV) (x14 : List AV) (x15 : List AV) (x16 : List AV) (x17 : List AV) (x18 : Bool) (x19 : ByteArray) (x20 : Bool) (x21 : ByteArray) : St := ⟨mkS 46 [(0, .ro 42 x0 false), (2, .ptr 255 0), (3, .ptr 319 0)], [(255, .var 46 [.bool x1, .str x2, .bool x3, .str x4, .nil, .nil, .nil, .nil, .nil, .nil, .bool x5, .str x6, .bool x7, .str x8]), (319, .var 46 [.bool x9, .str x10, .bool x11, .str x12, .ro 60 x13 true, .ro 60 x14 true, .ro 60 x15 true, .ro 60 x16 true, .ro 60 x17 true, .nil, .bool x18, .str x19, .bool x20, .str x21])], top⟩
def s12 (x0 : Bool) (x1 : ByteArray) (x2 : Bool) (x3 : ByteArray) (x4 : Bool) (x5 : ByteArray) (x6 : Bool) (x7 : ByteArray) (x8 : Bool) (x9 : ByteArray) (x10 : Bool) (x11 : ByteArray) (x12 : List AV) (x13 : List AV) (x14 : List AV) (x15 : List AV) (x16 : List AV) (x17 : List AV) (x18 : Bool) (x19 : ByteArray) (x20 : Bool) (x21 : ByteArray) : St := ⟨mkS 46 [(2, .ptr 255 0), (3, .ptr 319 0)], [(255, .var 46 [.bool x0, .str x1, .bool x2, .str x3, .nil, .nil, .nil, .nil, .nil, .nil, .bool x4, .str x5, .bool x6, .str x7]), (319, .var 46 [.bool x8, .str x9, .bool x10, .str x11, .ro 60 x12 true, .ro 60 x13 true, .ro 60 x14 true, .ro 60 x15 true, .ro 60 x16 true, .ro 60 x17 true, .bool x18, .str x19, .bool x20, .str x21])], top⟩
noncomputable abbrev q3 {R : Type} (J : List Item -> St -> Option R) (x0 : List AV) (x1 : Bool) (x2 : ByteArray) (x3 : Bool) (x4 : ByteArray) (x5 : Bool) (x6 : ByteArray) (x7 : Bool) (x8 : ByteArray) (x9 : Bool) (x10 : ByteArray) (x11 : Bool) (x12 : ByteArray) (x13 : List AV) (x14 : Bool) (x15 : ByteArray) (x16 : Bool) (x17 : ByteArray) : Option R := J (P 3) (s3 x0 x1 x2 x3 x4 x5 x6 x7 x8 x9 x10 x11 x12 x13 x14 x15 x16 x17)
noncomputable abbrev q4 {R : Type} (J : List Item -> St -> Option R) (x0 : List AV) (x1 : Bool) (x2 : ByteArray) (x3 : Bool) (x4 : ByteArray) (x5 : Bool) (x6 : ByteArray) (x7 : Bool) (x8 : ByteArray) (x9 : Bool) (x10 : ByteArray) (x11 : Bool) (x12 : ByteArray) (x13 : List AV) (x14 : List AV) (x15 : Bool) (x16 : ByteArray) (x17 : Bool) (x18 : ByteArray) : Option R := J (P 4) (s4 x0 x1 x2 x3 x4 x5 x6 x7 x8 x9 x10 x11 x12 x13 x14 x15 x16 x17 x18)
noncomputable abbrev q5 {R : Type} (J : List Item -> St -> Option R) (x0 : List AV) (x1 : Bool) (x2 : ByteArray) (x3 : Bool) (x4 : ByteArray) (x5 : Bool) (x6 : ByteArray) (x7 : Bool) (x8 : ByteArray) (x9 : Bool) (x10 : ByteArray) (x11 : Bool) (x12 : ByteArray) (x13 : List AV) (x14 : List AV) (x15 : List AV) (x16 : Bool) (x17 : ByteArray) (x18 : Bool) (x19 : ByteArray) : Option R := J (P 5) (s5 x0 x1 x2 x3 x4 x5 x6 x7 x8 x9 x10 x11 x12 x13 x14 x15 x16 x17 x18 x19)
noncomputable abbrev q7 {R : Type} (J : List Item -> St -> Option R) (x0 : List AV) (x1 : Bool) (x2 : ByteArray) (x3 : Bool) (x4 : ByteArray) (x5 : Bool) (x6 : ByteArray) (x7 : Bool) (x8 : ByteArray) (x9 : Bool) (x10 : ByteArray) (x11 : Bool) (x12 : ByteArray) (x13 : List AV) (x14 : List AV) (x15 : List AV) (x16 : Bool) (x17 : ByteArray) (x18 : Bool) (x19 : ByteArray) : Option R := J (P 7) (s7 x0 x1 x2 x3 x4 x5 x6 x7 x8 x9 x10 x11 x12 x13 x14 x15 x16 x17 x18 x19)
noncomputable abbrev q9 {R : Type} (J : List Item -> St -> Option R) (x0 : List AV) (x1 : Bool) (x2 : ByteArray) (x3 : Bool) (x4 : ByteArray) (x5 : Bool) (x6 : ByteArray) (x7 : Bool) (x8 : ByteArray) (x9 : Bool) (x10 : ByteArray) (x11 : Bool) (x12 : ByteArray) (x13 : List AV) (x14 : List AV) (x15 : List AV) (x16 : Bool) (x17 : ByteArray) (x18 : Bool) (x19 : ByteArray) : Option R := J (P 9) (s9 x0 x1 x2 x3 x4 x5 x6 x7 x8 x9 x10 x11 x12 x13 x14 x15 x16 x17 x18 x19)
noncomputable abbrev q10 {R : Type} (J : List Item -> St -> Option R) (x0 : List AV) (x1 : Bool) (x2 : ByteArray) (x3 : Bool) (x4 : ByteArray) (x5 : Bool) (x6 : ByteArray) (x7 : Bool) (x8 : ByteArray) (x9 : Bool) (x10 : ByteArray) (x11 : Bool) (x12 : ByteArray) (x13 : List AV) (x14 : List AV) (x15 : List AV) (x16 : List AV) (x17 : Bool) (x18 : ByteArray) (x19 : Bool) (x20 : ByteArray) : Option R := J (P 10) (s10 x0 x1 x2 x3 x4 x5 x6 x7 x8 x9 x10 x11 x12 x13 x14 x15 x16 x17 x18 x19 x20)
noncomputable abbrev q11 {R : Type} (J : List Item -> St -> Option R) (x0 : List AV) (x1 : Bool) (x2 : ByteArray) (x3 : Bool) (x4 : ByteArray) (x5 : Bool) (x6 : ByteArray) (x7 : Bool) (x8 : ByteArray) (x9 : Bool) (x10 : ByteArray) (x11 : Bool) (x12 : ByteArray) (x13 : List AV) (x14 : List AV) (x15 : List AV) (x16 : List AV) (x17 : List AV) (x18 : Bool) (x19 : ByteArray) (x20 : Bool) (x21 : ByteArray) : Option R := J (P 11) (s11 x0 x1 x2 x3 x4 x5 x6 x7 x8 x9 x10 x11 x12 x13 x14 x15 x16 x17 x18 x19 x20 x21)
noncomputable abbrev q12 {R : Type} (J : List Item -> St -> Option R) (x0 : Bool) (x1 : ByteArray) (x2 : Bool) (x3 : ByteArray) (x4 : Bool) (x5 : ByteArray) (x6 : Bool) (x7 : ByteArray) (x8 : Bool) (x9 : ByteArray) (x10 : Bool) (x11 : ByteArray) (x12 : List AV) (x13 : List AV) (x14 : List AV) (x15 : List AV) (x16 : List AV) (x17 : List AV) (x18 : Bool) (x19 : ByteArray) (x20 : Bool) (x21 : ByteArray) : Option R := J (P 12) (s12 x0 x1 x2 x3 x4 x5 x6 x7 x8 x9 x10 x11 x12 x13 x14 x15 x16 x17 x18 x19 x20 x21)
theorem k3 (J : List Item -> St -> Option R) (κ : List SV -> Option R) (x0 : List AV) (x1 : Bool) (x2 : ByteArray) (x3 : Bool) (x4 : ByteArray) (x5 : Bool) (x6 : ByteArray) (x7 : Bool) (x8 : ByteArray) (x9 : Bool) (x10 : ByteArray) (x11 : Bool) (x12 : ByteArray) (x13 : List AV) (x14 : Bool) (x15 : ByteArray) (x16 : Bool) (x17 : ByteArray) : S R c1 c2 κ J 3 (s3 x0 x1 x2 x3 x4 x5 x6 x7 x8 x9 x10 x11 x12 x13 x14 x15 x16 x17) = t3 c1 c2 x0 x1 x2 x3 x4 x5 x6 x7 x8 x9 x10 x11 x12 x13 x14 x15 x16 x17 (q3 J) (q4 J) (q5 J) (q7 J) (q9 J) (q10 J) (q11 J) (q12 J) (K0 κ) := by kernel_rfl
theorem k4 (J : List Item -> St -> Option R) (κ : List SV -> Option R) (x0 : List AV) (x1 : Bool) (x2 : ByteArray) (x3 : Bool) (x4 : ByteArray) (x5 : Bool) (x6 : ByteArray) (x7 : Bool) (x8 : ByteArray) (x9 : Bool) (x10 : ByteArray) (x11 : Bool) (x12 : ByteArray) (x13 : List AV) (x14 : List AV) (x15 : Bool) (x16 : ByteArray) (x17 : Bool) (x18 : ByteArray) : S R c1 c2 κ J 4 (s4 x0 x1 x2 x3 x4 x5 x6 x7 x8 x9 x10 x11 x12 x13 x14 x15 x16 x17 x18) = t4 c1 c2 x0 x1 x2 x3 x4 x5 x6 x7 x8 x9 x10 x11 x12 x13 x14 x15 x16 x17 x18 (q3 J) (q4 J) (q5 J) (q7 J) (q9 J) (q10 J) (q11 J) (q12 J) (K0 κ) := by kernel_rfl
theorem k5 (J : List Item -> St -> Option R) (κ : List SV -> Option R) (x0 : List AV) (x1 : Bool) (x2 : ByteArray) (x3 : Bool) (x4 : ByteArray) (x5 : Bool) (x6 : ByteArray) (x7 : Bool) (x8 : ByteArray) (x9 : Bool) (x10 : ByteArray) (x11 : Bool) (x12 : ByteArray) (x13 : List AV) (x14 : List AV) (x15 : List AV) (x16 : Bool) (x17 : ByteArray) (x18 : Bool) (x19 : ByteArray) : S R c1 c2 κ J 5 (s5 x0 x1 x2 x3 x4 x5 x6 x7 x8 x9 x10 x11 x12 x13 x14 x15 x16 x17 x18 x19) = t5 c1 c2 x0 x1 x2 x3 x4 x5 x6 x7 x8 x9 x10 x11 x12 x13 x14 x15 x16 x17 x18 x19 (q3 J) (q4 J) (q5 J) (q7 J) (q9 J) (q10 J) (q11 J) (q12 J) (K0 κ) := by kernel_rfl
theorem k7 (J : List Item -> St -> Option R) (κ : List SV -> Option R) (x0 : List AV) (x1 : Bool) (x2 : ByteArray) (x3 : Bool) (x4 : ByteArray) (x5 : Bool) (x6 : ByteArray) (x7 : Bool) (x8 : ByteArray) (x9 : Bool) (x10 : ByteArray) (x11 : Bool) (x12 : ByteArray) (x13 : List AV) (x14 : List AV) (x15 : List AV) (x16 : Bool) (x17 : ByteArray) (x18 : Bool) (x19 : ByteArray) : S R c1 c2 κ J 7 (s7 x0 x1 x2 x3 x4 x5 x6 x7 x8 x9 x10 x11 x12 x13 x14 x15 x16 x17 x18 x19) = t7 c1 c2 x0 x1 x2 x3 x4 x5 x6 x7 x8 x9 x10 x11 x12 x13 x14 x15 x16 x17 x18 x19 (q3 J) (q4 J) (q5 J) (q7 J) (q9 J) (q10 J) (q11 J) (q12 J) (K0 κ) := by kernel_rfl
theorem k9 (J : List Item -> St -> Option R) (κ : List SV -> Option R) (x0 : List AV) (x1 : Bool) (x2 : ByteArray) (x3 : Bool) (x4 : ByteArray) (x5 : Bool) (x6 : ByteArray) (x7 : Bool) (x8 : ByteArray) (x9 : Bool) (x10 : ByteArray) (x11 : Bool) (x12 : ByteArray) (x13 : List AV) (x14 : List AV) (x15 : List AV) (x16 : Bool) (x17 : ByteArray) (x18 : Bool) (x19 : ByteArray) : S R c1 c2 κ J 9 (s9 x0 x1 x2 x3 x4 x5 x6 x7 x8 x9 x10 x11 x12 x13 x14 x15 x16 x17 x18 x19) = t9 c1 c2 x0 x1 x2 x3 x4 x5 x6 x7 x8 x9 x10 x11 x12 x13 x14 x15 x16 x17 x18 x19 (q3 J) (q4 J) (q5 J) (q7 J) (q9 J) (q10 J) (q11 J) (q12 J) (K0 κ) := by kernel_rfl
theorem k10 (J : List Item -> St -> Option R) (κ : List SV -> Option R) (x0 : List AV) (x1 : Bool) (x2 : ByteArray) (x3 : Bool) (x4 : ByteArray) (x5 : Bool) (x6 : ByteArray) (x7 : Bool) (x8 : ByteArray) (x9 : Bool) (x10 : ByteArray) (x11 : Bool) (x12 : ByteArray) (x13 : List AV) (x14 : List AV) (x15 : List AV) (x16 : List AV) (x17 : Bool) (x18 : ByteArray) (x19 : Bool) (x20 : ByteArray) : S R c1 c2 κ J 10 (s10 x0 x1 x2 x3 x4 x5 x6 x7 x8 x9 x10 x11 x12 x13 x14 x15 x16 x17 x18 x19 x20) = t10 c1 c2 x0 x1 x2 x3 x4 x5 x6 x7 x8 x9 x10 x11 x12 x13 x14 x15 x16 x17 x18 x19 x20 (q3 J) (q4 J) (q5 J) (q7 J) (q9 J) (q10 J) (q11 J) (q12 J) (K0 κ) := by kernel_rfl
theorem k11 (J : List Item -> St -> Option R) (κ : List SV -> Option R) (x0 : List AV) (x1 : Bool) (x2 : ByteArray) (x3 : Bool) (x4 : ByteArray) (x5 : Bool) (x6 : ByteArray) (x7 : Bool) (x8 : ByteArray) (x9 : Bool) (x10 : ByteArray) (x11 : Bool) (x12 : ByteArray) (x13 : List AV) (x14 : List AV) (x15 : List AV) (x16 : List AV) (x17 : List AV) (x18 : Bool) (x19 : ByteArray) (x20 : Bool) (x21 : ByteArray) : S R c1 c2 κ J 11 (s11 x0 x1 x2 x3 x4 x5 x6 x7 x8 x9 x10 x11 x12 x13 x14 x15 x16 x17 x18 x19 x20 x21) = t11 c1 c2 x0 x1 x2 x3 x4 x5 x6 x7 x8 x9 x10 x11 x12 x13 x14 x15 x16 x17 x18 x19 x20 x21 (q3 J) (q4 J) (q5 J) (q7 J) (q9 J) (q10 J) (q11 J) (q12 J) (K0 κ) := by kernel_rfl
theorem k12 (J : List Item -> St -> Option R) (κ : List SV -> Option R) (x0 : Bool) (x1 : ByteArray) (x2 : Bool) (x3 : ByteArray) (x4 : Bool) (x5 : ByteArray) (x6 : Bool) (x7 : ByteArray) (x8 : Bool) (x9 : ByteArray) (x10 : Bool) (x11 : ByteArray) (x12 : List AV) (x13 : List AV) (x14 : List AV) (x15 : List AV) (x16 : List AV) (x17 : List AV) (x18 : Bool) (x19 : ByteArray) (x20 : Bool) (x21 : ByteArray) : S R c1 c2 κ J 12 (s12 x0 x1 x2 x3 x4 x5 x6 x7 x8 x9 x10 x11 x12 x13 x14 x15 x16 x17 x18 x19 x20 x21) = t12 c1 c2 x0 x1 x2 x3 x4 x5 x6 x7 x8 x9 x10 x11 x12 x13 x14 x15 x16 x17 x18 x19 x20 x21 (q3 J) (q4 J) (q5 J) (q7 J) (q9 J) (q10 J) (q11 J) (q12 J) (K0 κ) := by kernel_rfl
theorem k (κ : List SV -> Option R) (k : Nat) (a0 : List AV) : runF (C R c1 c2) Tryz.f30 10000 k [.ro 42 a0 false] κ = postbagref5_Envelope_o.e c1 c2 a0 (q3 (G R c1 c2 κ k)) (q4 (G R c1 c2 κ k)) (q5 (G R c1 c2 κ k)) (q7 (G R c1 c2 κ k)) (q9 (G R c1 c2 κ k)) (q10 (G R c1 c2 κ k)) (q11 (G R c1 c2 κ k)) (q12 (G R c1 c2 κ k)) (K0 κ) := by kernel_rfl
theorem g12 (κ : List SV -> Option R) : ∀ (f : Nat), q12 (G R c1 c2 κ f) = L12 c1 c2 (K0 κ) f
 | 0 => rfl
 | f + 1 => by
  funext x0 x1 x2 x3 x4 x5 x6 x7 x8 x9 x10 x11 x12 x13 x14 x15 x16 x17 x18 x19 x20 x21
  show S R c1 c2 κ (G R c1 c2 κ f) 12 _ = _
  rw [k12]
  rfl
theorem g11 (κ : List SV -> Option R) : ∀ (f : Nat), q11 (G R c1 c2 κ f) = L11 c1 c2 (K0 κ) f
 | 0 => rfl
 | f + 1 => by
  funext x0 x1 x2 x3 x4 x5 x6 x7 x8 x9 x10 x11 x12 x13 x14 x15 x16 x17 x18 x19 x20 x21
  show S R c1 c2 κ (G R c1 c2 κ f) 11 _ = _
  rw [k11, g12 R c1 c2 κ f]
  rfl
theorem g10 (κ : List SV -> Option R) : ∀ (f : Nat), q10 (G R c1 c2 κ f) = L10 c1 c2 (K0 κ) f
 | 0 => rfl
 | f + 1 => by
  funext x0 x1 x2 x3 x4 x5 x6 x7 x8 x9 x10 x11 x12 x13 x14 x15 x16 x17 x18 x19 x20
  show S R c1 c2 κ (G R c1 c2 κ f) 10 _ = _
  rw [k10, g11 R c1 c2 κ f]
  rfl
theorem g9 (κ : List SV -> Option R) : ∀ (f : Nat), q9 (G R c1 c2 κ f) = L9 c1 c2 (K0 κ) f
 | 0 => rfl
 | f + 1 => by
  funext x0 x1 x2 x3 x4 x5 x6 x7 x8 x9 x10 x11 x12 x13 x14 x15 x16 x17 x18 x19
  show S R c1 c2 κ (G R c1 c2 κ f) 9 _ = _
  rw [k9, g10 R c1 c2 κ f]
  rfl
theorem g7 (κ : List SV -> Option R) : ∀ (f : Nat), q7 (G R c1 c2 κ f) = L7 c1 c2 (K0 κ) f
 | 0 => rfl
 | f + 1 => by
  funext x0 x1 x2 x3 x4 x5 x6 x7 x8 x9 x10 x11 x12 x13 x14 x15 x16 x17 x18 x19
  show S R c1 c2 κ (G R c1 c2 κ f) 7 _ = _
  rw [k7, g9 R c1 c2 κ f]
  rfl
theorem g5 (κ : List SV -> Option R) : ∀ (f : Nat), q5 (G R c1 c2 κ f) = L5 c1 c2 (K0 κ) f
 | 0 => rfl
 | f + 1 => by
  funext x0 x1 x2 x3 x4 x5 x6 x7 x8 x9 x10 x11 x12 x13 x14 x15 x16 x17 x18 x19
  show S R c1 c2 κ (G R c1 c2 κ f) 5 _ = _
  rw [k5, g7 R c1 c2 κ f]
  rfl
theorem g4 (κ : List SV -> Option R) : ∀ (f : Nat), q4 (G R c1 c2 κ f) = L4 c1 c2 (K0 κ) f
 | 0 => rfl
 | f + 1 => by
  funext x0 x1 x2 x3 x4 x5 x6 x7 x8 x9 x10 x11 x12 x13 x14 x15 x16 x17 x18
  show S R c1 c2 κ (G R c1 c2 κ f) 4 _ = _
  rw [k4, g5 R c1 c2 κ f]
  rfl
theorem g3 (κ : List SV -> Option R) : ∀ (f : Nat), q3 (G R c1 c2 κ f) = L3 c1 c2 (K0 κ) f
 | 0 => rfl
 | f + 1 => by
  funext x0 x1 x2 x3 x4 x5 x6 x7 x8 x9 x10 x11 x12 x13 x14 x15 x16 x17
  show S R c1 c2 κ (G R c1 c2 κ f) 3 _ = _
  rw [k3, g4 R c1 c2 κ f]
  rfl
end
theorem run (R : Type) (κ : List SV -> Option R) (a0 : List AV) : runF (C R postbagref5_Get_os postbagref5_of_os) Tryz.f30 10000 fuelK [.ro 42 a0 false] κ = postbagref5_Envelope_o a0 (K0 κ) := by
 rw [k]
 rw [g3 R postbagref5_Get_os postbagref5_of_os κ fuelK, g4 R postbagref5_Get_os postbagref5_of_os κ fuelK, g5 R postbagref5_Get_os postbagref5_of_os κ fuelK, g7 R postbagref5_Get_os postbagref5_of_os κ fuelK, g9 R postbagref5_Get_os postbagref5_of_os κ fuelK, g10 R postbagref5_Get_os postbagref5_of_os κ fuelK, g11 R postbagref5_Get_os postbagref5_of_os κ fuelK, g12 R postbagref5_Get_os postbagref5_of_os κ fuelK]
 rfl
theorem Γ_does {R : Type} (tab : Tab) (ht : TabOk tab) (g : Nat) : Does (R := R) Tryz.prog (tabTy tyL) tab g ((C R postbagref5_Get_os postbagref5_of_os).call g) := by
 refine does_of fun xs κ => ?_
 show DoesAt _ _ _ g xs κ (Γ R postbagref5_Get_os postbagref5_of_os g xs κ)
 unfold Γ
 split
 ·split
  ·exact postbagref5_Get_os.does tab ht _ _ κ
  ·exact DoesAt.none
 ·split
  ·exact postbagref5_of_os.does tab ht _ _ κ
  ·exact DoesAt.none
 ·exact DoesAt.none
theorem does {R : Type} (tab : Tab) (ht : TabOk tab) (a0 : List AV) (κ : List SV -> Option R) : DoesAt Tryz.prog (tabTy tyL) tab 30 [.ro 42 a0 false] κ (postbagref5_Envelope_o a0 (K0 κ)) := by
 intro r h w vs Rt Ra bs hpre
 exact runF_sound tyOk (Γ_does tab ht) (show Tryz.prog.funcs[30]? = some Tryz.f30 by kernel_rfl) (by kernel_rfl) ((run R κ a0).trans h) hpre
end postbagref5_Envelope_o
namespace postbaglaw5_LetterEnvelopes_0
abbrev K0 {R : Type} (κ : List SV -> Option R) (r0 : Bool) : Option R := κ [.bool r0]
section
variable (R : Type) (c1 : postbaglaw5_short_0.F R) (c2 : letter_Envelope_o.F R) (c3 : postbaglaw5_known_0.F R) (c4 : postbagref5_Envelope_0.F R) (c5 : postbaglaw5_envelopes_absbsoooooobsbseabsbsrrrrrrbsbse.F R) (c6 : postbaglaw5_fields_or.F R) (c7 : postbagref5_Envelope_o.F R)
def Γ (g : Nat) (xs : List SV) (κ : List SV -> Option R) : Option R :=
 match g with
 | 13 => (match xs with
  | [] => c3 (postbaglaw5_known_0.K0 κ)
  | _ => none)
 | 14 => (match xs with
  | [.ro 42 a0 false, .ro 42 a1 true] => c6 a0 a1 (postbaglaw5_fields_or.K0 κ)
  | _ => none)
 | 27 => (match xs with
  | [.ro 42 a0 true] => c1 a0 (postbaglaw5_short_0.K0 κ)
  | _ => none)
 | 28 => (match xs with
  | [.ro 42 a0 false] => c2 a0 (letter_Envelope_o.K0 κ)
  | _ => none)
 | 29 => (match xs with
  | [.agg [.bool a0, .str a1, .bool a2, .str a3, .ro 60 a4 false, .ro 60 a5 false, .ro 60 a6 false, .ro 60 a7 false, .ro 60 a8 false, .ro 60 a9 false, .bool a10, .str a11, .bool a12, .str a13], .agg [.bool a14, .str a15, .bool a16, .str a17, .ro 60 a18 true, .ro 60 a19 true, .ro 60 a20 true, .ro 60 a21 true, .ro 60 a22 true, .ro 60 a23 true, .bool a24, .str a25, .bool a26, .str a27]] => c5 a0 a1 a2 a3 a4 a5 a6 a7 a8 a9 a10 a11 a12 a13 a14 a15 a16 a17 a18 a19 a20 a21 a22 a23 a24 a25 a26 a27 (postbaglaw5_envelopes_absbsoooooobsbseabsbsrrrrrrbsbse.K0 κ)
  | _ => none)
 | 30 => (match xs with
  | [.ro 42 a0 true] => c4 a0 (postbagref5_Envelope_0.K0 κ)
  | [.ro 42 a0 false] => c7 a0 (postbagref5_Envelope_o.K0 κ)
  | _ => none)
 | _ => none
def h (n : Nat) : Option (List (Nat × List (Nat × Nat))) :=
 match n with
 | 10 => some [(0, [(0, 0)]), (1, [(0, 0)]), (5, [(0, 0)]), (6, [(0, 0)]), (7, [(0, 0)])]
 | _ => none
def C : Cfg R := ⟨tabTy tyL, Γ R c1 c2 c3 c4 c5 c6 c7, fun _ => false, h⟩
noncomputable abbrev P (i : Nat) : List Item := placeOf Tryz.f9 i
noncomputable def S (κ : List SV -> Option R) (J : List Item -> St -> Option R) (i : Nat) (s : St) : Option R := start (C R c1 c2 c3 c4 c5 c6 c7) J (retK (C R c1 c2 c3 c4 c5 c6 c7) Tryz.f9.results.toList (List.range 0) κ) 10000 (P i) s
noncomputable def G (κ : List SV -> Option R) (f : Nat) (p : List Item) (s : St) : Option R := goto (C R c1 c2 c3 c4 c5 c6 c7) (retK (C R c1 c2 c3 c4 c5 c6 c7) Tryz.f9.results.toList (List.range 0) κ) 10000 f p s
def s10 (x0 : List AV) (x1 : List AV) (x2 : Int) (x3 : List AV) (x4 : Bool) (x5 : ByteArray) (x6 : Bool) (x7 : ByteArray) (x8 : Bool) (x9 : ByteArray) (x10 : Bool) (x11 : ByteArray) (x12 : List AV) (x13 : List AV) (x14 : List AV) (x15 : List AV) (x16 : List AV) (x17 : List AV) : St := ⟨mkS 107 [(0, .ro 42 x0 true), (1, .ro 42 x1 true), (5, .own 384), (6, .ptr 511 0), (7, .int .i64 x2)], [(384, .row 42 x3 true), (511, .var 46 [.bool x4, .str x5, .bool x6, .str x7, .own 452, .own 453, .own 454, .own 455, .own 456, .own 457, .bool x8, .str x9, .bool x10, .str x11]), (452, .row 60 x12 true), (453, .row 60 x13 true), (454, .row 60 x14 true), (455, .row 60 x15 true), (456, .row 60 x16 true), (457, .row 60 x17 true)], top⟩
noncomputable abbrev q10 {R : Type} (J : List Item -> St -> Option R) (x0 : List AV) (x1 : List AV) (x2 : Int) (x3 : List AV) (x4 : Bool) (x5 : ByteArray) (x6 : Bool) (x7 : ByteArray) (x8 : Bool) (x9 : ByteArray) (x10 : Bool) (x11 : ByteArray) (x12 : List AV) (x13 : List AV) (x14 : List AV) (x15 : List AV) (x16 : List AV) (x17 : List AV) : Option R := J (P 10) (s10 x0 x1 x2 x3 x4 x5 x6 x7 x8 x9 x10 x11 x12 x13 x14 x15 x16 x17)
theorem k10 (J : List Item -> St -> Option R) (κ : List SV -> Option R) (x0 : List AV) (x1 : List AV) (x2 : Int) (x3 : List AV) (x4 : Bool) (x5 : ByteArray) (x6 : Bool) (x7 : ByteArray) (x8 : Bool) (x9 : ByteArray) (x10 : Bool) (x11 : ByteArray) (x12 : List AV) (x13 : List AV) (x14 : List AV) (x15 : List AV) (x16 : List AV) (x17 : List AV) : S R c1 c2 c3 c4 c5 c6 c7 κ J 10 (s10 x0 x1 x2 x3 x4 x5 x6 x7 x8 x9 x10 x11 x12 x13 x14 x15 x16 x17) = t10 c1 c2 c3 c4 c5 c6 c7 x0 x1 x2 x3 x4 x5 x6 x7 x8 x9 x10 x11 x12 x13 x14 x15 x16 x17 (q10 J) (K0 κ) := by kernel_rfl
theorem k (κ : List SV -> Option R) (k : Nat) (a0 : List AV) (a1 : List AV) : runF (C R c1 c2 c3 c4 c5 c6 c7) Tryz.f9 10000 k [.ro 42 a0 true, .ro 42 a1 true] κ = postbaglaw5_LetterEnvelopes_0.e c1 c2 c3 c4 c5 c6 c7 a0 a1 (q10 (G R c1 c2 c3 c4 c5 c6 c7 κ k)) (K0 κ) := by kernel_rfl
theorem g10 (κ : List SV -> Option R) : ∀ (f : Nat), q10 (G R c1 c2 c3 c4 c5 c6 c7 κ f) = L10 c1 c2 c3 c4 c5 c6 c7 (K0 κ) f
 | 0 => rfl
 | f + 1 => by
  funext x0 x1 x2 x3 x4 x5 x6 x7 x8 x9 x10 x11 x12 x13 x14 x15 x16 x17
  show S R c1 c2 c3 c4 c5 c6 c7 κ (G R c1 c2 c3 c4 c5 c6 c7 κ f) 10 _ = _
  rw [k10, g10 κ f]
  rfl
end
theorem run (R : Type) (κ : List SV -> Option R) (a0 : List AV) (a1 : List AV) : runF (C R postbaglaw5_short_0 letter_Envelope_o postbaglaw5_known_0 postbagref5_Envelope_0 postbaglaw5_envelopes_absbsoooooobsbseabsbsrrrrrrbsbse postbaglaw5_fields_or postbagref5_Envelope_o) Tryz.f9 10000 fuelK [.ro 42 a0 true, .ro 42 a1 true] κ = postbaglaw5_LetterEnvelopes_0 a0 a1 (K0 κ) := by
 rw [k]
 rw [g10 R postbaglaw5_short_0 letter_Envelope_o postbaglaw5_known_0 postbagref5_Envelope_0 postbaglaw5_envelopes_absbsoooooobsbseabsbsrrrrrrbsbse postbaglaw5_fields_or postbagref5_Envelope_o κ fuelK]
 rfl
theorem Γ_does {R : Type} (tab : Tab) (ht : TabOk tab) (g : Nat) : Does (R := R) Tryz.prog (tabTy tyL) tab g ((C R postbaglaw5_short_0 letter_Envelope_o postbaglaw5_known_0 postbagref5_Envelope_0 postbaglaw5_envelopes_absbsoooooobsbseabsbsrrrrrrbsbse postbaglaw5_fields_or postbagref5_Envelope_o).call g) := by
 refine does_of fun xs κ => ?_
 show DoesAt _ _ _ g xs κ (Γ R postbaglaw5_short_0 letter_Envelope_o postbaglaw5_known_0 postbagref5_Envelope_0 postbaglaw5_envelopes_absbsoooooobsbseabsbsrrrrrrbsbse postbaglaw5_fields_or postbagref5_Envelope_o g xs κ)
 unfold Γ
 split
 ·split
  ·exact postbaglaw5_known_0.does tab ht κ
  ·exact DoesAt.none
 ·split
  ·exact postbaglaw5_fields_or.does tab ht _ _ κ
  ·exact DoesAt.none
 ·split
  ·exact postbaglaw5_short_0.does tab ht _ κ
  ·exact DoesAt.none
 ·split
  ·exact letter_Envelope_o.does tab ht _ κ
  ·exact DoesAt.none
 ·split
  ·exact postbaglaw5_envelopes_absbsoooooobsbseabsbsrrrrrrbsbse.does tab ht _ _ _ _ _ _ _ _ _ _ _ _ _ _ _ _ _ _ _ _ _ _ _ _ _ _ _ _ κ
  ·exact DoesAt.none
 ·split
  ·exact postbagref5_Envelope_0.does tab ht _ κ
  ·exact postbagref5_Envelope_o.does tab ht _ κ
  ·exact DoesAt.none
 ·exact DoesAt.none
theorem does {R : Type} (tab : Tab) (ht : TabOk tab) (a0 : List AV) (a1 : List AV) (κ : List SV -> Option R) : DoesAt Tryz.prog (tabTy tyL) tab 9 [.ro 42 a0 true, .ro 42 a1 true] κ (postbaglaw5_LetterEnvelopes_0 a0 a1 (K0 κ)) := by
 intro r h w vs Rt Ra bs hpre
 exact runF_sound tyOk (Γ_does tab ht) (show Tryz.prog.funcs[9]? = some Tryz.f9 by kernel_rfl) (by kernel_rfl) ((run R κ a0 a1).trans h) hpre
end postbaglaw5_LetterEnvelopes_0
end Go.Proofs.Ab
