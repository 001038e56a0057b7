/- Each plain function is what a call of its Go function does, checked by the kernel (no condition but what its checks ask). -/
import Derived.Test.YtnipklplcipaiaaGreatDoorSeat
import Derived.Test.YtnipklplcipaiaaGreatDoorText
import Derived.Test.YtnipklplcipaiaaGreatDoorCheck3
/- Each typed text is what its function does: checked by the kernel. -/
namespace Go.Proofs.Ab
set_option linter.unusedVariables false
set_option maxRecDepth 4000
open Go Go.Proofs
set_option maxRecDepth 100000
def letter_Base_0.Γ {R : Type} (c1 : letter_Words_0.F R) (c2 : letter_one_0.F R) (c3 : letter_rules_0.F R) (c4 : letter_rules_6_0.F R) (c5 : letter_rules_5_0.F R) (c6 : letter_rules_4_0.F R) (c7 : letter_rules_3_0.F R) (c8 : letter_rules_2_0.F R) (c9 : letter_rules_1_0.F R) (g : Nat) (xs : List SV) (κ : List SV → Option R) : Option R :=
  match g with
  | 19 => (match xs with
    | [.str a0] => c1 a0 (fun r0 => κ [.str r0])
    | _ => none)
  | 73 => (match xs with
    | [.str a0] => c2 a0 (fun r0 => κ [.str r0])
    | _ => none)
  | 74 => (match xs with
    | [] => c3 (fun r0 r1 r2 r3 r4 r5 => κ [.agg [.fn 117, .bool r0, .fn 119, .bool r1, .fn 120, .bool r2, .fn 122, .bool r3, .fn 124, .bool r4, .fn 126, .bool r5]])
    | _ => none)
  | 117 => (match xs with
    | [.str a0] => c9 a0 (fun r0 r1 => κ [.tup [.str r0, .bool r1]])
    | _ => none)
  | 119 => (match xs with
    | [.str a0] => c8 a0 (fun r0 r1 => κ [.tup [.str r0, .bool r1]])
    | _ => none)
  | 120 => (match xs with
    | [.str a0] => c7 a0 (fun r0 r1 => κ [.tup [.str r0, .bool r1]])
    | _ => none)
  | 122 => (match xs with
    | [.str a0] => c6 a0 (fun r0 r1 => κ [.tup [.str r0, .bool r1]])
    | _ => none)
  | 124 => (match xs with
    | [.str a0] => c5 a0 (fun r0 r1 => κ [.tup [.str r0, .bool r1]])
    | _ => none)
  | 126 => (match xs with
    | [.str a0] => c4 a0 (fun r0 r1 => κ [.tup [.str r0, .bool r1]])
    | _ => none)
  | _ => none
def letter_Base_0.h (n : Nat) : Option (List (Nat × List (Nat × Nat))) :=
  match n with
  | 3 => some [(4, [(0, 0)]), (5, [(0, 0)])]
  | 4 => some [(4, [(0, 0)]), (5, [(0, 0)]), (13, [(0, 0)]), (14, [(0, 0)])]
  | _ => none
def letter_Base_0.C (R : Type) (c1 : letter_Words_0.F R) (c2 : letter_one_0.F R) (c3 : letter_rules_0.F R) (c4 : letter_rules_6_0.F R) (c5 : letter_rules_5_0.F R) (c6 : letter_rules_4_0.F R) (c7 : letter_rules_3_0.F R) (c8 : letter_rules_2_0.F R) (c9 : letter_rules_1_0.F R) : Cfg R := ⟨tabTy tyL, letter_Base_0.Γ c1 c2 c3 c4 c5 c6 c7 c8 c9, fun _ => false, letter_Base_0.h⟩
def letter_Base_0.s3 (x0 : ByteArray) (x1 : Bool) : St := ⟨mkS 34 [(4, .str x0), (5, .bool x1)], [], top⟩
def letter_Base_0.s4 (x0 : ByteArray) (x1 : Bool) (x2 : Bool) (x3 : Bool) (x4 : Bool) (x5 : Bool) (x6 : Bool) (x7 : Bool) (x8 : Int) : St := ⟨mkS 34 [(4, .str x0), (5, .bool x1), (13, .agg [.fn 117, .bool x2, .fn 119, .bool x3, .fn 120, .bool x4, .fn 122, .bool x5, .fn 124, .bool x6, .fn 126, .bool x7]), (14, .int .i64 x8)], [], top⟩
theorem letter_Base_0.c3 (R : Type) (c1 : letter_Words_0.F R) (c2 : letter_one_0.F R) (c3 : letter_rules_0.F R) (c4 : letter_rules_6_0.F R) (c5 : letter_rules_5_0.F R) (c6 : letter_rules_4_0.F R) (c7 : letter_rules_3_0.F R) (c8 : letter_rules_2_0.F R) (c9 : letter_rules_1_0.F R) (J : List Item → St → Option R) (κ : List SV → Option R) (x0 : ByteArray) (x1 : Bool) :
    start (letter_Base_0.C R c1 c2 c3 c4 c5 c6 c7 c8 c9) J (retK (letter_Base_0.C R c1 c2 c3 c4 c5 c6 c7 c8 c9) Tryz.f25.results.toList (List.range 0) κ) 10000 (placeOf Tryz.f25 3) (letter_Base_0.s3 x0 x1) = letter_Base_0.t3 c1 c2 c3 c4 c5 c6 c7 c8 c9 x0 x1 (fun y0 y1 => J (placeOf Tryz.f25 3) (letter_Base_0.s3 y0 y1)) (fun y0 y1 y2 y3 y4 y5 y6 y7 y8 => J (placeOf Tryz.f25 4) (letter_Base_0.s4 y0 y1 y2 y3 y4 y5 y6 y7 y8)) (fun r0 r1 => κ [.tup [.str r0, .bool r1]]) := by kernel_rfl
theorem letter_Base_0.c4 (R : Type) (c1 : letter_Words_0.F R) (c2 : letter_one_0.F R) (c3 : letter_rules_0.F R) (c4 : letter_rules_6_0.F R) (c5 : letter_rules_5_0.F R) (c6 : letter_rules_4_0.F R) (c7 : letter_rules_3_0.F R) (c8 : letter_rules_2_0.F R) (c9 : letter_rules_1_0.F R) (J : List Item → St → Option R) (κ : List SV → Option R) (x0 : ByteArray) (x1 : Bool) (x2 : Bool) (x3 : Bool) (x4 : Bool) (x5 : Bool) (x6 : Bool) (x7 : Bool) (x8 : Int) :
    start (letter_Base_0.C R c1 c2 c3 c4 c5 c6 c7 c8 c9) J (retK (letter_Base_0.C R c1 c2 c3 c4 c5 c6 c7 c8 c9) Tryz.f25.results.toList (List.range 0) κ) 10000 (placeOf Tryz.f25 4) (letter_Base_0.s4 x0 x1 x2 x3 x4 x5 x6 x7 x8) = letter_Base_0.t4 c1 c2 c3 c4 c5 c6 c7 c8 c9 x0 x1 x2 x3 x4 x5 x6 x7 x8 (fun y0 y1 => J (placeOf Tryz.f25 3) (letter_Base_0.s3 y0 y1)) (fun y0 y1 y2 y3 y4 y5 y6 y7 y8 => J (placeOf Tryz.f25 4) (letter_Base_0.s4 y0 y1 y2 y3 y4 y5 y6 y7 y8)) (fun r0 r1 => κ [.tup [.str r0, .bool r1]]) := by kernel_rfl
theorem letter_Base_0.c (R : Type) (c1 : letter_Words_0.F R) (c2 : letter_one_0.F R) (c3 : letter_rules_0.F R) (c4 : letter_rules_6_0.F R) (c5 : letter_rules_5_0.F R) (c6 : letter_rules_4_0.F R) (c7 : letter_rules_3_0.F R) (c8 : letter_rules_2_0.F R) (c9 : letter_rules_1_0.F R) (κ : List SV → Option R) (k : Nat) (a0 : ByteArray) :
    runF (letter_Base_0.C R c1 c2 c3 c4 c5 c6 c7 c8 c9) Tryz.f25 10000 k [.str a0] κ = letter_Base_0.e c1 c2 c3 c4 c5 c6 c7 c8 c9 a0 (fun y0 y1 => goto (letter_Base_0.C R c1 c2 c3 c4 c5 c6 c7 c8 c9) (retK (letter_Base_0.C R c1 c2 c3 c4 c5 c6 c7 c8 c9) Tryz.f25.results.toList (List.range 0) κ) 10000 k (placeOf Tryz.f25 3) (letter_Base_0.s3 y0 y1)) (fun y0 y1 y2 y3 y4 y5 y6 y7 y8 => goto (letter_Base_0.C R c1 c2 c3 c4 c5 c6 c7 c8 c9) (retK (letter_Base_0.C R c1 c2 c3 c4 c5 c6 c7 c8 c9) Tryz.f25.results.toList (List.range 0) κ) 10000 k (placeOf Tryz.f25 4) (letter_Base_0.s4 y0 y1 y2 y3 y4 y5 y6 y7 y8)) (fun r0 r1 => κ [.tup [.str r0, .bool r1]]) := by kernel_rfl
theorem letter_Base_0.gM3 (R : Type) (c1 : letter_Words_0.F R) (c2 : letter_one_0.F R) (c3 : letter_rules_0.F R) (c4 : letter_rules_6_0.F R) (c5 : letter_rules_5_0.F R) (c6 : letter_rules_4_0.F R) (c7 : letter_rules_3_0.F R) (c8 : letter_rules_2_0.F R) (c9 : letter_rules_1_0.F R) (κ : List SV → Option R) : ∀ (f : Nat), (∀ (x0 : ByteArray) (x1 : Bool), goto (letter_Base_0.C R c1 c2 c3 c4 c5 c6 c7 c8 c9) (retK (letter_Base_0.C R c1 c2 c3 c4 c5 c6 c7 c8 c9) Tryz.f25.results.toList (List.range 0) κ) 10000 f (placeOf Tryz.f25 3) (letter_Base_0.s3 x0 x1) = letter_Base_0.L3 c1 c2 c3 c4 c5 c6 c7 c8 c9 (fun r0 r1 => κ [.tup [.str r0, .bool r1]]) f x0 x1) ∧
    (∀ (x0 : ByteArray) (x1 : Bool) (x2 : Bool) (x3 : Bool) (x4 : Bool) (x5 : Bool) (x6 : Bool) (x7 : Bool) (x8 : Int), goto (letter_Base_0.C R c1 c2 c3 c4 c5 c6 c7 c8 c9) (retK (letter_Base_0.C R c1 c2 c3 c4 c5 c6 c7 c8 c9) Tryz.f25.results.toList (List.range 0) κ) 10000 f (placeOf Tryz.f25 4) (letter_Base_0.s4 x0 x1 x2 x3 x4 x5 x6 x7 x8) = letter_Base_0.L4 c1 c2 c3 c4 c5 c6 c7 c8 c9 (fun r0 r1 => κ [.tup [.str r0, .bool r1]]) f x0 x1 x2 x3 x4 x5 x6 x7 x8)
  | 0 => ⟨fun _ _ => rfl, fun _ _ _ _ _ _ _ _ _ => rfl⟩
  | f + 1 => by
    obtain ⟨ih0, ih1⟩ := letter_Base_0.gM3 R c1 c2 c3 c4 c5 c6 c7 c8 c9 κ f
    refine ⟨?_, ?_⟩
    · intro x0 x1
      show start (letter_Base_0.C R c1 c2 c3 c4 c5 c6 c7 c8 c9) (goto (letter_Base_0.C R c1 c2 c3 c4 c5 c6 c7 c8 c9) (retK (letter_Base_0.C R c1 c2 c3 c4 c5 c6 c7 c8 c9) Tryz.f25.results.toList (List.range 0) κ) 10000 f) (retK (letter_Base_0.C R c1 c2 c3 c4 c5 c6 c7 c8 c9) Tryz.f25.results.toList (List.range 0) κ) 10000 (placeOf Tryz.f25 3) (letter_Base_0.s3 x0 x1) = _
      rw [letter_Base_0.c3]
      simp only [ih0, ih1]
      rfl
    · intro x0 x1 x2 x3 x4 x5 x6 x7 x8
      show start (letter_Base_0.C R c1 c2 c3 c4 c5 c6 c7 c8 c9) (goto (letter_Base_0.C R c1 c2 c3 c4 c5 c6 c7 c8 c9) (retK (letter_Base_0.C R c1 c2 c3 c4 c5 c6 c7 c8 c9) Tryz.f25.results.toList (List.range 0) κ) 10000 f) (retK (letter_Base_0.C R c1 c2 c3 c4 c5 c6 c7 c8 c9) Tryz.f25.results.toList (List.range 0) κ) 10000 (placeOf Tryz.f25 4) (letter_Base_0.s4 x0 x1 x2 x3 x4 x5 x6 x7 x8) = _
      rw [letter_Base_0.c4]
      simp only [ih0, ih1]
      rfl
theorem letter_Base_0.g3 (R : Type) (c1 : letter_Words_0.F R) (c2 : letter_one_0.F R) (c3 : letter_rules_0.F R) (c4 : letter_rules_6_0.F R) (c5 : letter_rules_5_0.F R) (c6 : letter_rules_4_0.F R) (c7 : letter_rules_3_0.F R) (c8 : letter_rules_2_0.F R) (c9 : letter_rules_1_0.F R) (κ : List SV → Option R) (f : Nat) (x0 : ByteArray) (x1 : Bool) : goto (letter_Base_0.C R c1 c2 c3 c4 c5 c6 c7 c8 c9) (retK (letter_Base_0.C R c1 c2 c3 c4 c5 c6 c7 c8 c9) Tryz.f25.results.toList (List.range 0) κ) 10000 f (placeOf Tryz.f25 3) (letter_Base_0.s3 x0 x1) = letter_Base_0.L3 c1 c2 c3 c4 c5 c6 c7 c8 c9 (fun r0 r1 => κ [.tup [.str r0, .bool r1]]) f x0 x1 := (letter_Base_0.gM3 R c1 c2 c3 c4 c5 c6 c7 c8 c9 κ f).1 x0 x1
theorem letter_Base_0.g4 (R : Type) (c1 : letter_Words_0.F R) (c2 : letter_one_0.F R) (c3 : letter_rules_0.F R) (c4 : letter_rules_6_0.F R) (c5 : letter_rules_5_0.F R) (c6 : letter_rules_4_0.F R) (c7 : letter_rules_3_0.F R) (c8 : letter_rules_2_0.F R) (c9 : letter_rules_1_0.F R) (κ : List SV → Option R) (f : Nat) (x0 : ByteArray) (x1 : Bool) (x2 : Bool) (x3 : Bool) (x4 : Bool) (x5 : Bool) (x6 : Bool) (x7 : Bool) (x8 : Int) : goto (letter_Base_0.C R c1 c2 c3 c4 c5 c6 c7 c8 c9) (retK (letter_Base_0.C R c1 c2 c3 c4 c5 c6 c7 c8 c9) Tryz.f25.results.toList (List.range 0) κ) 10000 f (placeOf Tryz.f25 4) (letter_Base_0.s4 x0 x1 x2 x3 x4 x5 x6 x7 x8) = letter_Base_0.L4 c1 c2 c3 c4 c5 c6 c7 c8 c9 (fun r0 r1 => κ [.tup [.str r0, .bool r1]]) f x0 x1 x2 x3 x4 x5 x6 x7 x8 := (letter_Base_0.gM3 R c1 c2 c3 c4 c5 c6 c7 c8 c9 κ f).2 x0 x1 x2 x3 x4 x5 x6 x7 x8
theorem letter_Base_0.run (R : Type) (κ : List SV → Option R) (a0 : ByteArray) :
    runF (letter_Base_0.C R letter_Words_0 letter_one_0 letter_rules_0 letter_rules_6_0 letter_rules_5_0 letter_rules_4_0 letter_rules_3_0 letter_rules_2_0 letter_rules_1_0) Tryz.f25 10000 fuelK [.str a0] κ = letter_Base_0 a0 (fun r0 r1 => κ [.tup [.str r0, .bool r1]]) := by
  rw [letter_Base_0.c]
  simp only [letter_Base_0.g3 R letter_Words_0 letter_one_0 letter_rules_0 letter_rules_6_0 letter_rules_5_0 letter_rules_4_0 letter_rules_3_0 letter_rules_2_0 letter_rules_1_0 κ fuelK, letter_Base_0.g4 R letter_Words_0 letter_one_0 letter_rules_0 letter_rules_6_0 letter_rules_5_0 letter_rules_4_0 letter_rules_3_0 letter_rules_2_0 letter_rules_1_0 κ fuelK]
  rfl
theorem letter_Base_0.Γ_does {R : Type} (tab : Tab) (ht : TabOk tab) (g : Nat) : Does (R := R) Tryz.prog (tabTy tyL) tab g ((letter_Base_0.C R letter_Words_0 letter_one_0 letter_rules_0 letter_rules_6_0 letter_rules_5_0 letter_rules_4_0 letter_rules_3_0 letter_rules_2_0 letter_rules_1_0).call g) := by
  refine does_of fun xs κ => ?_
  show DoesAt _ _ _ g xs κ (letter_Base_0.Γ letter_Words_0 letter_one_0 letter_rules_0 letter_rules_6_0 letter_rules_5_0 letter_rules_4_0 letter_rules_3_0 letter_rules_2_0 letter_rules_1_0 g xs κ)
  unfold letter_Base_0.Γ
  split
  · split
    · exact letter_Words_0.does tab ht _ κ
    · exact DoesAt.none
  · split
    · exact letter_one_0.does tab ht _ κ
    · exact DoesAt.none
  · split
    · exact letter_rules_0.does tab ht κ
    · exact DoesAt.none
  · split
    · exact letter_rules_1_0.does tab ht _ κ
    · exact DoesAt.none
  · split
    · exact letter_rules_2_0.does tab ht _ κ
    · exact DoesAt.none
  · split
    · exact letter_rules_3_0.does tab ht _ κ
    · exact DoesAt.none
  · split
    · exact letter_rules_4_0.does tab ht _ κ
    · exact DoesAt.none
  · split
    · exact letter_rules_5_0.does tab ht _ κ
    · exact DoesAt.none
  · split
    · exact letter_rules_6_0.does tab ht _ κ
    · exact DoesAt.none
  · exact DoesAt.none
theorem letter_Base_0.does {R : Type} (tab : Tab) (ht : TabOk tab) (a0 : ByteArray) (κ : List SV → Option R) : DoesAt Tryz.prog (tabTy tyL) tab 25 [.str a0] κ (letter_Base_0 a0 (fun r0 r1 => κ [.tup [.str r0, .bool r1]])) := by
  intro r h w vs Rt Ra bs hpre
  exact runF_sound tyOk (letter_Base_0.Γ_does tab ht) (show Tryz.prog.funcs[25]? = some Tryz.f25 by kernel_rfl) (by kernel_rfl) ((letter_Base_0.run R κ a0).trans h) hpre
def letter_Get_os.Γ {R : Type} (c1 : octet_Same_0.F R) (g : Nat) (xs : List SV) (κ : List SV → Option R) : Option R :=
  match g with
  | 46 => (match xs with
    | [.str a0, .str a1] => c1 a0 a1 (fun r0 => κ [.bool r0])
    | _ => none)
  | _ => none
def letter_Get_os.h (n : Nat) : Option (List (Nat × List (Nat × Nat))) :=
  match n with
  | 2 => some [(1, [(0, 0)]), (4, [(0, 0)]), (7, [(0, 0)]), (8, [(0, 0)]), (9, [(0, 0)])]
  | _ => none
def letter_Get_os.C (R : Type) (c1 : octet_Same_0.F R) : Cfg R := ⟨tabTy tyL, letter_Get_os.Γ c1, fun _ => false, letter_Get_os.h⟩
def letter_Get_os.s2 (x0 : ByteArray) (x1 : List AV) (x2 : Int) (x3 : Int) (x4 : Bool) (x5 : ByteArray) : St := ⟨mkS 22 [(1, .str x0), (4, .ptr 383 0), (7, .ro 42 x1 false), (8, .int .i64 x2), (9, .int .i64 x3)], [(383, .var 44 [.bool x4, .str x5])], top⟩
theorem letter_Get_os.c2 (R : Type) (c1 : octet_Same_0.F R) (J : List Item → St → Option R) (κ : List SV → Option R) (x0 : ByteArray) (x1 : List AV) (x2 : Int) (x3 : Int) (x4 : Bool) (x5 : ByteArray) :
    start (letter_Get_os.C R c1) J (retK (letter_Get_os.C R c1) Tryz.f45.results.toList (List.range 0) κ) 10000 (placeOf Tryz.f45 2) (letter_Get_os.s2 x0 x1 x2 x3 x4 x5) = letter_Get_os.t2 c1 x0 x1 x2 x3 x4 x5 (fun y0 y1 y2 y3 y4 y5 => J (placeOf Tryz.f45 2) (letter_Get_os.s2 y0 y1 y2 y3 y4 y5)) (fun r0 r1 => κ [.agg [.bool r0, .str r1]]) := by kernel_rfl
theorem letter_Get_os.c (R : Type) (c1 : octet_Same_0.F R) (κ : List SV → Option R) (k : Nat) (a0 : List AV) (a1 : ByteArray) :
    runF (letter_Get_os.C R c1) Tryz.f45 10000 k [.ro 42 a0 false, .str a1] κ = letter_Get_os.e c1 a0 a1 (fun y0 y1 y2 y3 y4 y5 => goto (letter_Get_os.C R c1) (retK (letter_Get_os.C R c1) Tryz.f45.results.toList (List.range 0) κ) 10000 k (placeOf Tryz.f45 2) (letter_Get_os.s2 y0 y1 y2 y3 y4 y5)) (fun r0 r1 => κ [.agg [.bool r0, .str r1]]) := by kernel_rfl
theorem letter_Get_os.g2 (R : Type) (c1 : octet_Same_0.F R) (κ : List SV → Option R) : ∀ (f : Nat) (x0 : ByteArray) (x1 : List AV) (x2 : Int) (x3 : Int) (x4 : Bool) (x5 : ByteArray), goto (letter_Get_os.C R c1) (retK (letter_Get_os.C R c1) Tryz.f45.results.toList (List.range 0) κ) 10000 f (placeOf Tryz.f45 2) (letter_Get_os.s2 x0 x1 x2 x3 x4 x5) = letter_Get_os.L2 c1 (fun r0 r1 => κ [.agg [.bool r0, .str r1]]) f x0 x1 x2 x3 x4 x5
  | 0, _, _, _, _, _, _ => rfl
  | f + 1, x0, x1, x2, x3, x4, x5 => by
    show start (letter_Get_os.C R c1) (goto (letter_Get_os.C R c1) (retK (letter_Get_os.C R c1) Tryz.f45.results.toList (List.range 0) κ) 10000 f) (retK (letter_Get_os.C R c1) Tryz.f45.results.toList (List.range 0) κ) 10000 (placeOf Tryz.f45 2) (letter_Get_os.s2 x0 x1 x2 x3 x4 x5) = _
    rw [letter_Get_os.c2]
    simp only [letter_Get_os.g2 R c1 κ f]
    rfl
theorem letter_Get_os.run (R : Type) (κ : List SV → Option R) (a0 : List AV) (a1 : ByteArray) :
    runF (letter_Get_os.C R octet_Same_0) Tryz.f45 10000 fuelK [.ro 42 a0 false, .str a1] κ = letter_Get_os a0 a1 (fun r0 r1 => κ [.agg [.bool r0, .str r1]]) := by
  rw [letter_Get_os.c]
  simp only [letter_Get_os.g2 R octet_Same_0 κ fuelK]
  rfl
theorem letter_Get_os.Γ_does {R : Type} (tab : Tab) (ht : TabOk tab) (g : Nat) : Does (R := R) Tryz.prog (tabTy tyL) tab g ((letter_Get_os.C R octet_Same_0).call g) := by
  refine does_of fun xs κ => ?_
  show DoesAt _ _ _ g xs κ (letter_Get_os.Γ octet_Same_0 g xs κ)
  unfold letter_Get_os.Γ
  split
  · split
    · exact octet_Same_0.does tab ht _ _ κ
    · exact DoesAt.none
  · exact DoesAt.none
theorem letter_Get_os.does {R : Type} (tab : Tab) (ht : TabOk tab) (a0 : List AV) (a1 : ByteArray) (κ : List SV → Option R) : DoesAt Tryz.prog (tabTy tyL) tab 45 [.ro 42 a0 false, .str a1] κ (letter_Get_os a0 a1 (fun r0 r1 => κ [.agg [.bool r0, .str r1]])) := by
  intro r h w vs Rt Ra bs hpre
  exact runF_sound tyOk (letter_Get_os.Γ_does tab ht) (show Tryz.prog.funcs[45]? = some Tryz.f45 by kernel_rfl) (by kernel_rfl) ((letter_Get_os.run R κ a0 a1).trans h) hpre
def letter_Pick_sbn.Γ {R : Type} (c1 : letter_rows_0.F R) (c2 : strings_Builder_WriteString_vxfes.F R) (c3 : strings_Builder_String_vxfe.F R) (c4 : strings_HasSuffix_0.F R) (g : Nat) (xs : List SV) (κ : List SV → Option R) : Option R :=
  match g with
  | 38 => (match xs with
    | [.str a0] => c1 a0 (fun r0 => κ [.fr 65 r0 true])
    | _ => none)
  | 47 => (match xs with
    | [.vp 74 [.nos, .fr 5 a0 true], .str a1] => c2 a0 a1 (fun r0 r1 => κ [.tup [.int .i64 r0, .nili], .vp 74 [.nos, .fr 5 r1 true]])
    | _ => none)
  | 48 => (match xs with
    | [.str a0, .str a1] => c4 a0 a1 (fun r0 => κ [.bool r0])
    | _ => none)
  | 49 => (match xs with
    | [.vp 74 [.nos, .fr 5 a0 true]] => c3 a0 (fun r0 => κ [.str r0, .vp 74 [.nos, .no]])
    | _ => none)
  | _ => none
def letter_Pick_sbn.h (n : Nat) : Option (List (Nat × List (Nat × Nat))) :=
  match n with
  | 3 => some [(1, [(0, 0)]), (2, [(0, 0)]), (7, [(1, 7)]), (14, [(0, 0)]), (15, [(0, 0)]), (16, [(0, 0)])]
  | 7 => some [(1, [(0, 0)]), (2, [(0, 0)]), (7, [(0, 0)]), (9, [(0, 0)]), (10, [(0, 0)]), (14, [(0, 0)]), (15, [(0, 0)]), (16, [(0, 0)]), (20, [(0, 0)]), (21, [(0, 0)]), (22, [(0, 0)])]
  | _ => none
def letter_Pick_sbn.C (R : Type) (c1 : letter_rows_0.F R) (c2 : strings_Builder_WriteString_vxfes.F R) (c3 : strings_Builder_String_vxfe.F R) (c4 : strings_HasSuffix_0.F R) : Cfg R := ⟨tabTy tyL, letter_Pick_sbn.Γ c1 c2 c3 c4, fun _ => false, letter_Pick_sbn.h⟩
def letter_Pick_sbn.s3 (x0 : Bool) (x1 : Int) (x2 : Int) (x3 : List AV) (x4 : List AV) : St := ⟨mkS 52 [(1, .bool x0), (2, .nil), (7, .ptr 575 0), (14, .own 960), (15, .int .i64 x1), (16, .int .i64 x2)], [(575, .var 74 [.nos, .own 513]), (513, .row 5 x3 true), (960, .row 65 x4 true)], top⟩
def letter_Pick_sbn.s7 (x0 : Bool) (x1 : Bool) (x2 : Int) (x3 : Int) (x4 : Int) (x5 : Int) (x6 : List AV) (x7 : ByteArray) (x8 : ByteArray) (x9 : Bool) (x10 : Bool) (x11 : List AV) : St := ⟨mkS 52 [(1, .bool x0), (2, .nil), (7, .ptr 575 0), (9, .ptr 703 0), (10, .bool x1), (14, .own 960), (15, .int .i64 x2), (16, .int .i64 x3), (20, .nil), (21, .int .i64 x4), (22, .int .i64 x5)], [(575, .var 74 [.nos, .own 513]), (513, .row 5 x6 true), (703, .var 65 [.str x7, .str x8, .bool x9, .bool x10]), (960, .row 65 x11 true)], top⟩
theorem letter_Pick_sbn.c3 (R : Type) (c1 : letter_rows_0.F R) (c2 : strings_Builder_WriteString_vxfes.F R) (c3 : strings_Builder_String_vxfe.F R) (c4 : strings_HasSuffix_0.F R) (J : List Item → St → Option R) (κ : List SV → Option R) (x0 : Bool) (x1 : Int) (x2 : Int) (x3 : List AV) (x4 : List AV) :
    start (letter_Pick_sbn.C R c1 c2 c3 c4) J (retK (letter_Pick_sbn.C R c1 c2 c3 c4) Tryz.f15.results.toList (List.range 0) κ) 10000 (placeOf Tryz.f15 3) (letter_Pick_sbn.s3 x0 x1 x2 x3 x4) = letter_Pick_sbn.t3 c1 c2 c3 c4 x0 x1 x2 x3 x4 (fun y0 y1 y2 y3 y4 => J (placeOf Tryz.f15 3) (letter_Pick_sbn.s3 y0 y1 y2 y3 y4)) (fun y0 y1 y2 y3 y4 y5 y6 y7 y8 y9 y10 y11 => J (placeOf Tryz.f15 7) (letter_Pick_sbn.s7 y0 y1 y2 y3 y4 y5 y6 y7 y8 y9 y10 y11)) (fun r0 => κ [.str r0]) := by kernel_rfl
theorem letter_Pick_sbn.c7 (R : Type) (c1 : letter_rows_0.F R) (c2 : strings_Builder_WriteString_vxfes.F R) (c3 : strings_Builder_String_vxfe.F R) (c4 : strings_HasSuffix_0.F R) (J : List Item → St → Option R) (κ : List SV → Option R) (x0 : Bool) (x1 : Bool) (x2 : Int) (x3 : Int) (x4 : Int) (x5 : Int) (x6 : List AV) (x7 : ByteArray) (x8 : ByteArray) (x9 : Bool) (x10 : Bool) (x11 : List AV) :
    start (letter_Pick_sbn.C R c1 c2 c3 c4) J (retK (letter_Pick_sbn.C R c1 c2 c3 c4) Tryz.f15.results.toList (List.range 0) κ) 10000 (placeOf Tryz.f15 7) (letter_Pick_sbn.s7 x0 x1 x2 x3 x4 x5 x6 x7 x8 x9 x10 x11) = letter_Pick_sbn.t7 c1 c2 c3 c4 x0 x1 x2 x3 x4 x5 x6 x7 x8 x9 x10 x11 (fun y0 y1 y2 y3 y4 => J (placeOf Tryz.f15 3) (letter_Pick_sbn.s3 y0 y1 y2 y3 y4)) (fun y0 y1 y2 y3 y4 y5 y6 y7 y8 y9 y10 y11 => J (placeOf Tryz.f15 7) (letter_Pick_sbn.s7 y0 y1 y2 y3 y4 y5 y6 y7 y8 y9 y10 y11)) (fun r0 => κ [.str r0]) := by kernel_rfl
theorem letter_Pick_sbn.c (R : Type) (c1 : letter_rows_0.F R) (c2 : strings_Builder_WriteString_vxfes.F R) (c3 : strings_Builder_String_vxfe.F R) (c4 : strings_HasSuffix_0.F R) (κ : List SV → Option R) (k : Nat) (a0 : ByteArray) (a1 : Bool) :
    runF (letter_Pick_sbn.C R c1 c2 c3 c4) Tryz.f15 10000 k [.str a0, .bool a1, .nil] κ = letter_Pick_sbn.e c1 c2 c3 c4 a0 a1 (fun y0 y1 y2 y3 y4 => goto (letter_Pick_sbn.C R c1 c2 c3 c4) (retK (letter_Pick_sbn.C R c1 c2 c3 c4) Tryz.f15.results.toList (List.range 0) κ) 10000 k (placeOf Tryz.f15 3) (letter_Pick_sbn.s3 y0 y1 y2 y3 y4)) (fun y0 y1 y2 y3 y4 y5 y6 y7 y8 y9 y10 y11 => goto (letter_Pick_sbn.C R c1 c2 c3 c4) (retK (letter_Pick_sbn.C R c1 c2 c3 c4) Tryz.f15.results.toList (List.range 0) κ) 10000 k (placeOf Tryz.f15 7) (letter_Pick_sbn.s7 y0 y1 y2 y3 y4 y5 y6 y7 y8 y9 y10 y11)) (fun r0 => κ [.str r0]) := by kernel_rfl
theorem letter_Pick_sbn.gM3 (R : Type) (c1 : letter_rows_0.F R) (c2 : strings_Builder_WriteString_vxfes.F R) (c3 : strings_Builder_String_vxfe.F R) (c4 : strings_HasSuffix_0.F R) (κ : List SV → Option R) : ∀ (f : Nat), (∀ (x0 : Bool) (x1 : Int) (x2 : Int) (x3 : List AV) (x4 : List AV), goto (letter_Pick_sbn.C R c1 c2 c3 c4) (retK (letter_Pick_sbn.C R c1 c2 c3 c4) Tryz.f15.results.toList (List.range 0) κ) 10000 f (placeOf Tryz.f15 3) (letter_Pick_sbn.s3 x0 x1 x2 x3 x4) = letter_Pick_sbn.L3 c1 c2 c3 c4 (fun r0 => κ [.str r0]) f x0 x1 x2 x3 x4) ∧
    (∀ (x0 : Bool) (x1 : Bool) (x2 : Int) (x3 : Int) (x4 : Int) (x5 : Int) (x6 : List AV) (x7 : ByteArray) (x8 : ByteArray) (x9 : Bool) (x10 : Bool) (x11 : List AV), goto (letter_Pick_sbn.C R c1 c2 c3 c4) (retK (letter_Pick_sbn.C R c1 c2 c3 c4) Tryz.f15.results.toList (List.range 0) κ) 10000 f (placeOf Tryz.f15 7) (letter_Pick_sbn.s7 x0 x1 x2 x3 x4 x5 x6 x7 x8 x9 x10 x11) = letter_Pick_sbn.L7 c1 c2 c3 c4 (fun r0 => κ [.str r0]) f x0 x1 x2 x3 x4 x5 x6 x7 x8 x9 x10 x11)
  | 0 => ⟨fun _ _ _ _ _ => rfl, fun _ _ _ _ _ _ _ _ _ _ _ _ => rfl⟩
  | f + 1 => by
    obtain ⟨ih0, ih1⟩ := letter_Pick_sbn.gM3 R c1 c2 c3 c4 κ f
    refine ⟨?_, ?_⟩
    · intro x0 x1 x2 x3 x4
      show start (letter_Pick_sbn.C R c1 c2 c3 c4) (goto (letter_Pick_sbn.C R c1 c2 c3 c4) (retK (letter_Pick_sbn.C R c1 c2 c3 c4) Tryz.f15.results.toList (List.range 0) κ) 10000 f) (retK (letter_Pick_sbn.C R c1 c2 c3 c4) Tryz.f15.results.toList (List.range 0) κ) 10000 (placeOf Tryz.f15 3) (letter_Pick_sbn.s3 x0 x1 x2 x3 x4) = _
      rw [letter_Pick_sbn.c3]
      simp only [ih0, ih1]
      rfl
    · intro x0 x1 x2 x3 x4 x5 x6 x7 x8 x9 x10 x11
      show start (letter_Pick_sbn.C R c1 c2 c3 c4) (goto (letter_Pick_sbn.C R c1 c2 c3 c4) (retK (letter_Pick_sbn.C R c1 c2 c3 c4) Tryz.f15.results.toList (List.range 0) κ) 10000 f) (retK (letter_Pick_sbn.C R c1 c2 c3 c4) Tryz.f15.results.toList (List.range 0) κ) 10000 (placeOf Tryz.f15 7) (letter_Pick_sbn.s7 x0 x1 x2 x3 x4 x5 x6 x7 x8 x9 x10 x11) = _
      rw [letter_Pick_sbn.c7]
      simp only [ih0, ih1]
      rfl
theorem letter_Pick_sbn.g3 (R : Type) (c1 : letter_rows_0.F R) (c2 : strings_Builder_WriteString_vxfes.F R) (c3 : strings_Builder_String_vxfe.F R) (c4 : strings_HasSuffix_0.F R) (κ : List SV → Option R) (f : Nat) (x0 : Bool) (x1 : Int) (x2 : Int) (x3 : List AV) (x4 : List AV) : goto (letter_Pick_sbn.C R c1 c2 c3 c4) (retK (letter_Pick_sbn.C R c1 c2 c3 c4) Tryz.f15.results.toList (List.range 0) κ) 10000 f (placeOf Tryz.f15 3) (letter_Pick_sbn.s3 x0 x1 x2 x3 x4) = letter_Pick_sbn.L3 c1 c2 c3 c4 (fun r0 => κ [.str r0]) f x0 x1 x2 x3 x4 := (letter_Pick_sbn.gM3 R c1 c2 c3 c4 κ f).1 x0 x1 x2 x3 x4
theorem letter_Pick_sbn.g7 (R : Type) (c1 : letter_rows_0.F R) (c2 : strings_Builder_WriteString_vxfes.F R) (c3 : strings_Builder_String_vxfe.F R) (c4 : strings_HasSuffix_0.F R) (κ : List SV → Option R) (f : Nat) (x0 : Bool) (x1 : Bool) (x2 : Int) (x3 : Int) (x4 : Int) (x5 : Int) (x6 : List AV) (x7 : ByteArray) (x8 : ByteArray) (x9 : Bool) (x10 : Bool) (x11 : List AV) : goto (letter_Pick_sbn.C R c1 c2 c3 c4) (retK (letter_Pick_sbn.C R c1 c2 c3 c4) Tryz.f15.results.toList (List.range 0) κ) 10000 f (placeOf Tryz.f15 7) (letter_Pick_sbn.s7 x0 x1 x2 x3 x4 x5 x6 x7 x8 x9 x10 x11) = letter_Pick_sbn.L7 c1 c2 c3 c4 (fun r0 => κ [.str r0]) f x0 x1 x2 x3 x4 x5 x6 x7 x8 x9 x10 x11 := (letter_Pick_sbn.gM3 R c1 c2 c3 c4 κ f).2 x0 x1 x2 x3 x4 x5 x6 x7 x8 x9 x10 x11
theorem letter_Pick_sbn.run (R : Type) (κ : List SV → Option R) (a0 : ByteArray) (a1 : Bool) :
    runF (letter_Pick_sbn.C R letter_rows_0 strings_Builder_WriteString_vxfes strings_Builder_String_vxfe strings_HasSuffix_0) Tryz.f15 10000 fuelK [.str a0, .bool a1, .nil] κ = letter_Pick_sbn a0 a1 (fun r0 => κ [.str r0]) := by
  rw [letter_Pick_sbn.c]
  simp only [letter_Pick_sbn.g3 R letter_rows_0 strings_Builder_WriteString_vxfes strings_Builder_String_vxfe strings_HasSuffix_0 κ fuelK, letter_Pick_sbn.g7 R letter_rows_0 strings_Builder_WriteString_vxfes strings_Builder_String_vxfe strings_HasSuffix_0 κ fuelK]
  rfl
theorem letter_Pick_sbn.Γ_does {R : Type} (tab : Tab) (ht : TabOk tab) (g : Nat) : Does (R := R) Tryz.prog (tabTy tyL) tab g ((letter_Pick_sbn.C R letter_rows_0 strings_Builder_WriteString_vxfes strings_Builder_String_vxfe strings_HasSuffix_0).call g) := by
  refine does_of fun xs κ => ?_
  show DoesAt _ _ _ g xs κ (letter_Pick_sbn.Γ letter_rows_0 strings_Builder_WriteString_vxfes strings_Builder_String_vxfe strings_HasSuffix_0 g xs κ)
  unfold letter_Pick_sbn.Γ
  split
  · split
    · exact letter_rows_0.does tab ht _ κ
    · exact DoesAt.none
  · split
    · exact strings_Builder_WriteString_vxfes.does tab ht _ _ κ
    · exact DoesAt.none
  · split
    · exact strings_HasSuffix_0.does tab ht _ _ κ
    · exact DoesAt.none
  · split
    · exact strings_Builder_String_vxfe.does tab ht _ κ
    · exact DoesAt.none
  · exact DoesAt.none
theorem letter_Pick_sbn.does {R : Type} (tab : Tab) (ht : TabOk tab) (a0 : ByteArray) (a1 : Bool) (κ : List SV → Option R) : DoesAt Tryz.prog (tabTy tyL) tab 15 [.str a0, .bool a1, .nil] κ (letter_Pick_sbn a0 a1 (fun r0 => κ [.str r0])) := by
  intro r h w vs Rt Ra bs hpre
  exact runF_sound tyOk (letter_Pick_sbn.Γ_does tab ht) (show Tryz.prog.funcs[15]? = some Tryz.f15 by kernel_rfl) (by kernel_rfl) ((letter_Pick_sbn.run R κ a0 a1).trans h) hpre
def postbaglaw5_known_0.Γ {R : Type} (c1 : letter_Split_0.F R) (c2 : letter_Fields_0.F R) (c3 : letter_Addresses_0.F R) (c4 : letter_Ids_0.F R) (c5 : letter_Base_0.F R) (c6 : letter_Get_os.F R) (c7 : letter_Pick_sbn.F R) (g : Nat) (xs : List SV) (κ : List SV → Option R) : Option R :=
  match g with
  | 11 => (match xs with
    | [.str a0] => c2 a0 (fun r0 => κ [.fr 42 r0 true])
    | _ => none)
  | 15 => (match xs with
    | [.str a0, .bool a1, .nil] => c7 a0 a1 (fun r0 => κ [.str r0])
    | _ => none)
  | 20 => (match xs with
    | [.str a0] => c3 a0 (fun r0 => κ [.fr 60 r0 true])
    | _ => none)
  | 23 => (match xs with
    | [.str a0] => c4 a0 (fun r0 => κ [.fr 9 r0 true])
    | _ => none)
  | 25 => (match xs with
    | [.str a0] => c5 a0 (fun r0 r1 => κ [.tup [.str r0, .bool r1]])
    | _ => none)
  | 44 => (match xs with
    | [.str a0] => c1 a0 (fun r0 r1 => κ [.tup [.str r0, .str r1]])
    | _ => none)
  | 45 => (match xs with
    | [.ro 42 a0 false, .str a1] => c6 a0 a1 (fun r0 r1 => κ [.agg [.bool r0, .str r1]])
    | _ => none)
  | _ => none
def postbaglaw5_known_0.h (n : Nat) : Option (List (Nat × List (Nat × Nat))) :=
  match n with
  | _ => none
def postbaglaw5_known_0.C (R : Type) (c1 : letter_Split_0.F R) (c2 : letter_Fields_0.F R) (c3 : letter_Addresses_0.F R) (c4 : letter_Ids_0.F R) (c5 : letter_Base_0.F R) (c6 : letter_Get_os.F R) (c7 : letter_Pick_sbn.F R) : Cfg R := ⟨tabTy tyL, postbaglaw5_known_0.Γ c1 c2 c3 c4 c5 c6 c7, fun _ => false, postbaglaw5_known_0.h⟩
theorem postbaglaw5_known_0.c (R : Type) (c1 : letter_Split_0.F R) (c2 : letter_Fields_0.F R) (c3 : letter_Addresses_0.F R) (c4 : letter_Ids_0.F R) (c5 : letter_Base_0.F R) (c6 : letter_Get_os.F R) (c7 : letter_Pick_sbn.F R) (κ : List SV → Option R) (k : Nat) :
    runF (postbaglaw5_known_0.C R c1 c2 c3 c4 c5 c6 c7) Tryz.f13 10000 k [] κ = postbaglaw5_known_0.e c1 c2 c3 c4 c5 c6 c7 (fun r0 => κ [.bool r0]) := by kernel_rfl
theorem postbaglaw5_known_0.run (R : Type) (κ : List SV → Option R) :
    runF (postbaglaw5_known_0.C R letter_Split_0 letter_Fields_0 letter_Addresses_0 letter_Ids_0 letter_Base_0 letter_Get_os letter_Pick_sbn) Tryz.f13 10000 fuelK [] κ = postbaglaw5_known_0 (fun r0 => κ [.bool r0]) := by
  rw [postbaglaw5_known_0.c]
  rfl
theorem postbaglaw5_known_0.Γ_does {R : Type} (tab : Tab) (ht : TabOk tab) (g : Nat) : Does (R := R) Tryz.prog (tabTy tyL) tab g ((postbaglaw5_known_0.C R letter_Split_0 letter_Fields_0 letter_Addresses_0 letter_Ids_0 letter_Base_0 letter_Get_os letter_Pick_sbn).call g) := by
  refine does_of fun xs κ => ?_
  show DoesAt _ _ _ g xs κ (postbaglaw5_known_0.Γ letter_Split_0 letter_Fields_0 letter_Addresses_0 letter_Ids_0 letter_Base_0 letter_Get_os letter_Pick_sbn g xs κ)
  unfold postbaglaw5_known_0.Γ
  split
  · split
    · exact letter_Fields_0.does tab ht _ κ
    · exact DoesAt.none
  · split
    · exact letter_Pick_sbn.does tab ht _ _ κ
    · exact DoesAt.none
  · split
    · exact letter_Addresses_0.does tab ht _ κ
    · exact DoesAt.none
  · split
    · exact letter_Ids_0.does tab ht _ κ
    · exact DoesAt.none
  · split
    · exact letter_Base_0.does tab ht _ κ
    · exact DoesAt.none
  · split
    · exact letter_Split_0.does tab ht _ κ
    · exact DoesAt.none
  · split
    · exact letter_Get_os.does tab ht _ _ κ
    · exact DoesAt.none
  · exact DoesAt.none
theorem postbaglaw5_known_0.does {R : Type} (tab : Tab) (ht : TabOk tab) (κ : List SV → Option R) : DoesAt Tryz.prog (tabTy tyL) tab 13 [] κ (postbaglaw5_known_0 (fun r0 => κ [.bool r0])) := by
  intro r h w vs Rt Ra bs hpre
  exact runF_sound tyOk (postbaglaw5_known_0.Γ_does tab ht) (show Tryz.prog.funcs[13]? = some Tryz.f13 by kernel_rfl) (by kernel_rfl) ((postbaglaw5_known_0.run R κ).trans h) hpre
def postbaglaw5_LetterWords_0.Γ {R : Type} (c1 : postbagref5_Words_0.F R) (c2 : postbaglaw5_known_0.F R) (c3 : letter_Words_0.F R) (g : Nat) (xs : List SV) (κ : List SV → Option R) : Option R :=
  match g with
  | 13 => (match xs with
    | [] => c2 (fun r0 => κ [.bool r0])
    | _ => none)
  | 18 => (match xs with
    | [.str a0] => c1 a0 (fun r0 => κ [.str r0])
    | _ => none)
  | 19 => (match xs with
    | [.str a0] => c3 a0 (fun r0 => κ [.str r0])
    | _ => none)
  | _ => none
def postbaglaw5_LetterWords_0.h (n : Nat) : Option (List (Nat × List (Nat × Nat))) :=
  match n with
  | _ => none
def postbaglaw5_LetterWords_0.C (R : Type) (c1 : postbagref5_Words_0.F R) (c2 : postbaglaw5_known_0.F R) (c3 : letter_Words_0.F R) : Cfg R := ⟨tabTy tyL, postbaglaw5_LetterWords_0.Γ c1 c2 c3, fun _ => false, postbaglaw5_LetterWords_0.h⟩
theorem postbaglaw5_LetterWords_0.c (R : Type) (c1 : postbagref5_Words_0.F R) (c2 : postbaglaw5_known_0.F R) (c3 : letter_Words_0.F R) (κ : List SV → Option R) (k : Nat) (a0 : ByteArray) (a1 : ByteArray) :
    runF (postbaglaw5_LetterWords_0.C R c1 c2 c3) Tryz.f5 10000 k [.str a0, .str a1] κ = postbaglaw5_LetterWords_0.e c1 c2 c3 a0 a1 (fun r0 => κ [.bool r0]) := by kernel_rfl
theorem postbaglaw5_LetterWords_0.run (R : Type) (κ : List SV → Option R) (a0 : ByteArray) (a1 : ByteArray) :
    runF (postbaglaw5_LetterWords_0.C R postbagref5_Words_0 postbaglaw5_known_0 letter_Words_0) Tryz.f5 10000 fuelK [.str a0, .str a1] κ = postbaglaw5_LetterWords_0 a0 a1 (fun r0 => κ [.bool r0]) := by
  rw [postbaglaw5_LetterWords_0.c]
  rfl
theorem postbaglaw5_LetterWords_0.Γ_does {R : Type} (tab : Tab) (ht : TabOk tab) (g : Nat) : Does (R := R) Tryz.prog (tabTy tyL) tab g ((postbaglaw5_LetterWords_0.C R postbagref5_Words_0 postbaglaw5_known_0 letter_Words_0).call g) := by
  refine does_of fun xs κ => ?_
  show DoesAt _ _ _ g xs κ (postbaglaw5_LetterWords_0.Γ postbagref5_Words_0 postbaglaw5_known_0 letter_Words_0 g xs κ)
  unfold postbaglaw5_LetterWords_0.Γ
  split
  · split
    · exact postbaglaw5_known_0.does tab ht κ
    · exact DoesAt.none
  · split
    · exact postbagref5_Words_0.does tab ht _ κ
    · exact DoesAt.none
  · split
    · exact letter_Words_0.does tab ht _ κ
    · exact DoesAt.none
  · exact DoesAt.none
theorem postbaglaw5_LetterWords_0.does {R : Type} (tab : Tab) (ht : TabOk tab) (a0 : ByteArray) (a1 : ByteArray) (κ : List SV → Option R) : DoesAt Tryz.prog (tabTy tyL) tab 5 [.str a0, .str a1] κ (postbaglaw5_LetterWords_0 a0 a1 (fun r0 => κ [.bool r0])) := by
  intro r h w vs Rt Ra bs hpre
  exact runF_sound tyOk (postbaglaw5_LetterWords_0.Γ_does tab ht) (show Tryz.prog.funcs[5]? = some Tryz.f5 by kernel_rfl) (by kernel_rfl) ((postbaglaw5_LetterWords_0.run R κ a0 a1).trans h) hpre
end Go.Proofs.Ab
