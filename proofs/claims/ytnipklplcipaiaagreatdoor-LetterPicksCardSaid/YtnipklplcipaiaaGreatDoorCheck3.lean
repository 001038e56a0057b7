/- Each plain function is what a call of its Go function does, checked by the kernel (no condition but what its checks ask). -/
import Derived.Test.YtnipklplcipaiaaGreatDoorSeat
import Derived.Test.YtnipklplcipaiaaGreatDoorText
import Derived.Test.YtnipklplcipaiaaGreatDoorCheck2
/- Each typed text is what its function does: checked by the kernel. -/
namespace Go.Proofs.Ab
set_option linter.unusedVariables false
set_option maxRecDepth 4000
open Go Go.Proofs
set_option maxRecDepth 100000
def strings_IndexRune_0.Γ {R : Type} (c1 : strings_IndexByte_0.F R) (c2 : utf8_ValidRune_0.F R) (c3 : bytealg_Cutover_0.F R) (g : Nat) (xs : List SV) (κ : List SV → Option R) : Option R :=
  match g with
  | 40 => (match xs with
    | [.str a0, .int .u8 a1] => c1 a0 a1 (fun r0 => κ [.int .i64 r0])
    | _ => none)
  | 152 => (match xs with
    | [.int .i64 a0] => c3 a0 (fun r0 => κ [.int .i64 r0])
    | _ => none)
  | 160 => (match xs with
    | [.int .i32 a0] => c2 a0 (fun r0 => κ [.bool r0])
    | _ => none)
  | _ => none
def strings_IndexRune_0.h (n : Nat) : Option (List (Nat × List (Nat × Nat))) :=
  match n with
  | 5 => some [(0, [(0, 0)]), (1, [(0, 0)]), (7, [(0, 0)]), (8, [(0, 0)]), (9, [(0, 0)]), (10, [(0, 0)])]
  | 12 => some [(0, [(0, 0)]), (1, [(0, 0)]), (7, [(0, 0)]), (8, [(0, 0)]), (9, [(0, 0)]), (10, [(0, 0)]), (12, [(0, 0)])]
  | 38 => some [(175, [(0, 0)])]
  | _ => none
def strings_IndexRune_0.C (R : Type) (c1 : strings_IndexByte_0.F R) (c2 : utf8_ValidRune_0.F R) (c3 : bytealg_Cutover_0.F R) : Cfg R := ⟨tabTy tyL, strings_IndexRune_0.Γ c1 c2 c3, fun _ => false, strings_IndexRune_0.h⟩
def strings_IndexRune_0.s5 (x0 : ByteArray) (x1 : Int) (x2 : ByteArray) (x3 : Int) (x4 : Int) (x5 : Int) : St := ⟨mkS 187 [(0, .str x0), (1, .int .i32 x1), (7, .str x2), (8, .int .i64 x3), (9, .int .i64 x4), (10, .int .i64 x5)], [], top⟩
def strings_IndexRune_0.s12 (x0 : ByteArray) (x1 : Int) (x2 : ByteArray) (x3 : Int) (x4 : Int) (x5 : Int) (x6 : Int) : St := ⟨mkS 187 [(0, .str x0), (1, .int .i32 x1), (7, .str x2), (8, .int .i64 x3), (9, .int .i64 x4), (10, .int .i64 x5), (12, .int .i64 x6)], [], top⟩
def strings_IndexRune_0.s38 (x0 : ByteArray) (x1 : Nat) : St := ⟨mkS 187 [(175, .ptr 11327 0)], [(11327, .sit x0 x1)], top⟩
theorem strings_IndexRune_0.c5 (R : Type) (c1 : strings_IndexByte_0.F R) (c2 : utf8_ValidRune_0.F R) (c3 : bytealg_Cutover_0.F R) (J : List Item → St → Option R) (κ : List SV → Option R) (x0 : ByteArray) (x1 : Int) (x2 : ByteArray) (x3 : Int) (x4 : Int) (x5 : Int) :
    start (strings_IndexRune_0.C R c1 c2 c3) J (retK (strings_IndexRune_0.C R c1 c2 c3) Tryz.f155.results.toList (List.range 0) κ) 10000 (placeOf Tryz.f155 5) (strings_IndexRune_0.s5 x0 x1 x2 x3 x4 x5) = strings_IndexRune_0.t5 c1 c2 c3 x0 x1 x2 x3 x4 x5 (fun y0 y1 y2 y3 y4 y5 => J (placeOf Tryz.f155 5) (strings_IndexRune_0.s5 y0 y1 y2 y3 y4 y5)) (fun y0 y1 y2 y3 y4 y5 y6 => J (placeOf Tryz.f155 12) (strings_IndexRune_0.s12 y0 y1 y2 y3 y4 y5 y6)) (fun y0 y1 => J (placeOf Tryz.f155 38) (strings_IndexRune_0.s38 y0 y1)) (fun r0 => κ [.int .i64 r0]) := by kernel_rfl
theorem strings_IndexRune_0.c12 (R : Type) (c1 : strings_IndexByte_0.F R) (c2 : utf8_ValidRune_0.F R) (c3 : bytealg_Cutover_0.F R) (J : List Item → St → Option R) (κ : List SV → Option R) (x0 : ByteArray) (x1 : Int) (x2 : ByteArray) (x3 : Int) (x4 : Int) (x5 : Int) (x6 : Int) :
    start (strings_IndexRune_0.C R c1 c2 c3) J (retK (strings_IndexRune_0.C R c1 c2 c3) Tryz.f155.results.toList (List.range 0) κ) 10000 (placeOf Tryz.f155 12) (strings_IndexRune_0.s12 x0 x1 x2 x3 x4 x5 x6) = strings_IndexRune_0.t12 c1 c2 c3 x0 x1 x2 x3 x4 x5 x6 (fun y0 y1 y2 y3 y4 y5 => J (placeOf Tryz.f155 5) (strings_IndexRune_0.s5 y0 y1 y2 y3 y4 y5)) (fun y0 y1 y2 y3 y4 y5 y6 => J (placeOf Tryz.f155 12) (strings_IndexRune_0.s12 y0 y1 y2 y3 y4 y5 y6)) (fun y0 y1 => J (placeOf Tryz.f155 38) (strings_IndexRune_0.s38 y0 y1)) (fun r0 => κ [.int .i64 r0]) := by kernel_rfl
theorem strings_IndexRune_0.c38 (R : Type) (c1 : strings_IndexByte_0.F R) (c2 : utf8_ValidRune_0.F R) (c3 : bytealg_Cutover_0.F R) (J : List Item → St → Option R) (κ : List SV → Option R) (x0 : ByteArray) (x1 : Nat) :
    start (strings_IndexRune_0.C R c1 c2 c3) J (retK (strings_IndexRune_0.C R c1 c2 c3) Tryz.f155.results.toList (List.range 0) κ) 10000 (placeOf Tryz.f155 38) (strings_IndexRune_0.s38 x0 x1) = strings_IndexRune_0.t38 c1 c2 c3 x0 x1 (fun y0 y1 y2 y3 y4 y5 => J (placeOf Tryz.f155 5) (strings_IndexRune_0.s5 y0 y1 y2 y3 y4 y5)) (fun y0 y1 y2 y3 y4 y5 y6 => J (placeOf Tryz.f155 12) (strings_IndexRune_0.s12 y0 y1 y2 y3 y4 y5 y6)) (fun y0 y1 => J (placeOf Tryz.f155 38) (strings_IndexRune_0.s38 y0 y1)) (fun r0 => κ [.int .i64 r0]) := by kernel_rfl
theorem strings_IndexRune_0.c (R : Type) (c1 : strings_IndexByte_0.F R) (c2 : utf8_ValidRune_0.F R) (c3 : bytealg_Cutover_0.F R) (κ : List SV → Option R) (k : Nat) (a0 : ByteArray) (a1 : Int) :
    runF (strings_IndexRune_0.C R c1 c2 c3) Tryz.f155 10000 k [.str a0, .int .i32 a1] κ = strings_IndexRune_0.e c1 c2 c3 a0 a1 (fun y0 y1 y2 y3 y4 y5 => goto (strings_IndexRune_0.C R c1 c2 c3) (retK (strings_IndexRune_0.C R c1 c2 c3) Tryz.f155.results.toList (List.range 0) κ) 10000 k (placeOf Tryz.f155 5) (strings_IndexRune_0.s5 y0 y1 y2 y3 y4 y5)) (fun y0 y1 y2 y3 y4 y5 y6 => goto (strings_IndexRune_0.C R c1 c2 c3) (retK (strings_IndexRune_0.C R c1 c2 c3) Tryz.f155.results.toList (List.range 0) κ) 10000 k (placeOf Tryz.f155 12) (strings_IndexRune_0.s12 y0 y1 y2 y3 y4 y5 y6)) (fun y0 y1 => goto (strings_IndexRune_0.C R c1 c2 c3) (retK (strings_IndexRune_0.C R c1 c2 c3) Tryz.f155.results.toList (List.range 0) κ) 10000 k (placeOf Tryz.f155 38) (strings_IndexRune_0.s38 y0 y1)) (fun r0 => κ [.int .i64 r0]) := by kernel_rfl
theorem strings_IndexRune_0.gM5 (R : Type) (c1 : strings_IndexByte_0.F R) (c2 : utf8_ValidRune_0.F R) (c3 : bytealg_Cutover_0.F R) (κ : List SV → Option R) : ∀ (f : Nat), (∀ (x0 : ByteArray) (x1 : Int) (x2 : ByteArray) (x3 : Int) (x4 : Int) (x5 : Int), goto (strings_IndexRune_0.C R c1 c2 c3) (retK (strings_IndexRune_0.C R c1 c2 c3) Tryz.f155.results.toList (List.range 0) κ) 10000 f (placeOf Tryz.f155 5) (strings_IndexRune_0.s5 x0 x1 x2 x3 x4 x5) = strings_IndexRune_0.L5 c1 c2 c3 (fun r0 => κ [.int .i64 r0]) f x0 x1 x2 x3 x4 x5) ∧
    (∀ (x0 : ByteArray) (x1 : Int) (x2 : ByteArray) (x3 : Int) (x4 : Int) (x5 : Int) (x6 : Int), goto (strings_IndexRune_0.C R c1 c2 c3) (retK (strings_IndexRune_0.C R c1 c2 c3) Tryz.f155.results.toList (List.range 0) κ) 10000 f (placeOf Tryz.f155 12) (strings_IndexRune_0.s12 x0 x1 x2 x3 x4 x5 x6) = strings_IndexRune_0.L12 c1 c2 c3 (fun r0 => κ [.int .i64 r0]) f x0 x1 x2 x3 x4 x5 x6)
  | 0 => ⟨fun _ _ _ _ _ _ => rfl, fun _ _ _ _ _ _ _ => rfl⟩
  | f + 1 => by
    obtain ⟨ih0, ih1⟩ := strings_IndexRune_0.gM5 R c1 c2 c3 κ f
    refine ⟨?_, ?_⟩
    · intro x0 x1 x2 x3 x4 x5
      show start (strings_IndexRune_0.C R c1 c2 c3) (goto (strings_IndexRune_0.C R c1 c2 c3) (retK (strings_IndexRune_0.C R c1 c2 c3) Tryz.f155.results.toList (List.range 0) κ) 10000 f) (retK (strings_IndexRune_0.C R c1 c2 c3) Tryz.f155.results.toList (List.range 0) κ) 10000 (placeOf Tryz.f155 5) (strings_IndexRune_0.s5 x0 x1 x2 x3 x4 x5) = _
      rw [strings_IndexRune_0.c5]
      simp only [ih0, ih1]
      rfl
    · intro x0 x1 x2 x3 x4 x5 x6
      show start (strings_IndexRune_0.C R c1 c2 c3) (goto (strings_IndexRune_0.C R c1 c2 c3) (retK (strings_IndexRune_0.C R c1 c2 c3) Tryz.f155.results.toList (List.range 0) κ) 10000 f) (retK (strings_IndexRune_0.C R c1 c2 c3) Tryz.f155.results.toList (List.range 0) κ) 10000 (placeOf Tryz.f155 12) (strings_IndexRune_0.s12 x0 x1 x2 x3 x4 x5 x6) = _
      rw [strings_IndexRune_0.c12]
      simp only [ih0, ih1]
      rfl
theorem strings_IndexRune_0.g5 (R : Type) (c1 : strings_IndexByte_0.F R) (c2 : utf8_ValidRune_0.F R) (c3 : bytealg_Cutover_0.F R) (κ : List SV → Option R) (f : Nat) (x0 : ByteArray) (x1 : Int) (x2 : ByteArray) (x3 : Int) (x4 : Int) (x5 : Int) : goto (strings_IndexRune_0.C R c1 c2 c3) (retK (strings_IndexRune_0.C R c1 c2 c3) Tryz.f155.results.toList (List.range 0) κ) 10000 f (placeOf Tryz.f155 5) (strings_IndexRune_0.s5 x0 x1 x2 x3 x4 x5) = strings_IndexRune_0.L5 c1 c2 c3 (fun r0 => κ [.int .i64 r0]) f x0 x1 x2 x3 x4 x5 := (strings_IndexRune_0.gM5 R c1 c2 c3 κ f).1 x0 x1 x2 x3 x4 x5
theorem strings_IndexRune_0.g12 (R : Type) (c1 : strings_IndexByte_0.F R) (c2 : utf8_ValidRune_0.F R) (c3 : bytealg_Cutover_0.F R) (κ : List SV → Option R) (f : Nat) (x0 : ByteArray) (x1 : Int) (x2 : ByteArray) (x3 : Int) (x4 : Int) (x5 : Int) (x6 : Int) : goto (strings_IndexRune_0.C R c1 c2 c3) (retK (strings_IndexRune_0.C R c1 c2 c3) Tryz.f155.results.toList (List.range 0) κ) 10000 f (placeOf Tryz.f155 12) (strings_IndexRune_0.s12 x0 x1 x2 x3 x4 x5 x6) = strings_IndexRune_0.L12 c1 c2 c3 (fun r0 => κ [.int .i64 r0]) f x0 x1 x2 x3 x4 x5 x6 := (strings_IndexRune_0.gM5 R c1 c2 c3 κ f).2 x0 x1 x2 x3 x4 x5 x6
theorem strings_IndexRune_0.g38 (R : Type) (c1 : strings_IndexByte_0.F R) (c2 : utf8_ValidRune_0.F R) (c3 : bytealg_Cutover_0.F R) (κ : List SV → Option R) : ∀ (f : Nat) (x0 : ByteArray) (x1 : Nat), goto (strings_IndexRune_0.C R c1 c2 c3) (retK (strings_IndexRune_0.C R c1 c2 c3) Tryz.f155.results.toList (List.range 0) κ) 10000 f (placeOf Tryz.f155 38) (strings_IndexRune_0.s38 x0 x1) = strings_IndexRune_0.L38 c1 c2 c3 (fun r0 => κ [.int .i64 r0]) f x0 x1
  | 0, _, _ => rfl
  | f + 1, x0, x1 => by
    show start (strings_IndexRune_0.C R c1 c2 c3) (goto (strings_IndexRune_0.C R c1 c2 c3) (retK (strings_IndexRune_0.C R c1 c2 c3) Tryz.f155.results.toList (List.range 0) κ) 10000 f) (retK (strings_IndexRune_0.C R c1 c2 c3) Tryz.f155.results.toList (List.range 0) κ) 10000 (placeOf Tryz.f155 38) (strings_IndexRune_0.s38 x0 x1) = _
    rw [strings_IndexRune_0.c38]
    simp only [strings_IndexRune_0.g38 R c1 c2 c3 κ f]
    rfl
theorem strings_IndexRune_0.run (R : Type) (κ : List SV → Option R) (a0 : ByteArray) (a1 : Int) :
    runF (strings_IndexRune_0.C R strings_IndexByte_0 utf8_ValidRune_0 bytealg_Cutover_0) Tryz.f155 10000 fuelK [.str a0, .int .i32 a1] κ = strings_IndexRune_0 a0 a1 (fun r0 => κ [.int .i64 r0]) := by
  rw [strings_IndexRune_0.c]
  simp only [strings_IndexRune_0.g5 R strings_IndexByte_0 utf8_ValidRune_0 bytealg_Cutover_0 κ fuelK, strings_IndexRune_0.g12 R strings_IndexByte_0 utf8_ValidRune_0 bytealg_Cutover_0 κ fuelK, strings_IndexRune_0.g38 R strings_IndexByte_0 utf8_ValidRune_0 bytealg_Cutover_0 κ fuelK]
  rfl
theorem strings_IndexRune_0.Γ_does {R : Type} (tab : Tab) (ht : TabOk tab) (g : Nat) : Does (R := R) Tryz.prog (tabTy tyL) tab g ((strings_IndexRune_0.C R strings_IndexByte_0 utf8_ValidRune_0 bytealg_Cutover_0).call g) := by
  refine does_of fun xs κ => ?_
  show DoesAt _ _ _ g xs κ (strings_IndexRune_0.Γ strings_IndexByte_0 utf8_ValidRune_0 bytealg_Cutover_0 g xs κ)
  unfold strings_IndexRune_0.Γ
  split
  · split
    · exact strings_IndexByte_0.does tab ht _ _ κ
    · exact DoesAt.none
  · split
    · exact bytealg_Cutover_0.does tab ht _ κ
    · exact DoesAt.none
  · split
    · exact utf8_ValidRune_0.does tab ht _ κ
    · exact DoesAt.none
  · exact DoesAt.none
theorem strings_IndexRune_0.does {R : Type} (tab : Tab) (ht : TabOk tab) (a0 : ByteArray) (a1 : Int) (κ : List SV → Option R) : DoesAt Tryz.prog (tabTy tyL) tab 155 [.str a0, .int .i32 a1] κ (strings_IndexRune_0 a0 a1 (fun r0 => κ [.int .i64 r0])) := by
  intro r h w vs Rt Ra bs hpre
  exact runF_sound tyOk (strings_IndexRune_0.Γ_does tab ht) (show Tryz.prog.funcs[155]? = some Tryz.f155 by kernel_rfl) (by kernel_rfl) ((strings_IndexRune_0.run R κ a0 a1).trans h) hpre
def strings_shouldUseASCIISet_0.Γ {R : Type} (g : Nat) (xs : List SV) (κ : List SV → Option R) : Option R :=
  match g with
  | _ => none
def strings_shouldUseASCIISet_0.h (n : Nat) : Option (List (Nat × List (Nat × Nat))) :=
  match n with
  | _ => none
def strings_shouldUseASCIISet_0.C (R : Type) : Cfg R := ⟨tabTy tyL, strings_shouldUseASCIISet_0.Γ, fun _ => false, strings_shouldUseASCIISet_0.h⟩
theorem strings_shouldUseASCIISet_0.c (R : Type) (κ : List SV → Option R) (k : Nat) (a0 : Int) :
    runF (strings_shouldUseASCIISet_0.C R) Tryz.f158 10000 k [.int .i64 a0] κ = strings_shouldUseASCIISet_0.e a0 (fun r0 => κ [.bool r0]) := by kernel_rfl
theorem strings_shouldUseASCIISet_0.run (R : Type) (κ : List SV → Option R) (a0 : Int) :
    runF (strings_shouldUseASCIISet_0.C R) Tryz.f158 10000 fuelK [.int .i64 a0] κ = strings_shouldUseASCIISet_0 a0 (fun r0 => κ [.bool r0]) := by
  rw [strings_shouldUseASCIISet_0.c]
  rfl
theorem strings_shouldUseASCIISet_0.Γ_does {R : Type} (tab : Tab) (ht : TabOk tab) (g : Nat) : Does (R := R) Tryz.prog (tabTy tyL) tab g ((strings_shouldUseASCIISet_0.C R).call g) := by
  refine does_of fun xs κ => ?_
  show DoesAt _ _ _ g xs κ (strings_shouldUseASCIISet_0.Γ g xs κ)
  unfold strings_shouldUseASCIISet_0.Γ
  split
  · exact DoesAt.none
theorem strings_shouldUseASCIISet_0.does {R : Type} (tab : Tab) (ht : TabOk tab) (a0 : Int) (κ : List SV → Option R) : DoesAt Tryz.prog (tabTy tyL) tab 158 [.int .i64 a0] κ (strings_shouldUseASCIISet_0 a0 (fun r0 => κ [.bool r0])) := by
  intro r h w vs Rt Ra bs hpre
  exact runF_sound tyOk (strings_shouldUseASCIISet_0.Γ_does tab ht) (show Tryz.prog.funcs[158]? = some Tryz.f158 by kernel_rfl) (by kernel_rfl) ((strings_shouldUseASCIISet_0.run R κ a0).trans h) hpre
def strings_IndexAny_0.Γ {R : Type} (c1 : strings_IndexRune_0.F R) (c2 : strings_shouldUseASCIISet_0.F R) (c3 : strings_makeASCIISet_0.F R) (c4 : strings_asciiSet_contains_hi.F R) (g : Nat) (xs : List SV) (κ : List SV → Option R) : Option R :=
  match g with
  | 91 => (match xs with
    | [.str a0] => c3 a0 (fun r0 r1 => κ [.tup [.ar 4 256 r0, .bool r1]])
    | _ => none)
  | 132 => (match xs with
    | [.ra 4 256 a0 true, .int .u8 a1] => c4 a0 a1 (fun r0 => κ [.bool r0])
    | _ => none)
  | 155 => (match xs with
    | [.str a0, .int .i32 a1] => c1 a0 a1 (fun r0 => κ [.int .i64 r0])
    | _ => none)
  | 158 => (match xs with
    | [.int .i64 a0] => c2 a0 (fun r0 => κ [.bool r0])
    | _ => none)
  | _ => none
def strings_IndexAny_0.h (n : Nat) : Option (List (Nat × List (Nat × Nat))) :=
  match n with
  | 12 => some [(0, [(0, 0)]), (6, [(0, 1)]), (8, [(0, 0)])]
  | 18 => some [(1, [(0, 0)]), (45, [(0, 0)])]
  | _ => none
def strings_IndexAny_0.C (R : Type) (c1 : strings_IndexRune_0.F R) (c2 : strings_shouldUseASCIISet_0.F R) (c3 : strings_makeASCIISet_0.F R) (c4 : strings_asciiSet_contains_hi.F R) : Cfg R := ⟨tabTy tyL, strings_IndexAny_0.Γ c1 c2 c3 c4, fun g => Nat.beq g 132, strings_IndexAny_0.h⟩
def strings_IndexAny_0.s12 (x0 : ByteArray) (x1 : List AV) (x2 : Int) : St := ⟨mkS 55 [(0, .str x0), (6, .ra 4 256 x1 true), (8, .int .i64 x2)], [], top⟩
def strings_IndexAny_0.s18 (x0 : ByteArray) (x1 : ByteArray) (x2 : Nat) : St := ⟨mkS 55 [(1, .str x0), (45, .ptr 3007 0)], [(3007, .sit x1 x2)], top⟩
theorem strings_IndexAny_0.c12 (R : Type) (c1 : strings_IndexRune_0.F R) (c2 : strings_shouldUseASCIISet_0.F R) (c3 : strings_makeASCIISet_0.F R) (c4 : strings_asciiSet_contains_hi.F R) (J : List Item → St → Option R) (κ : List SV → Option R) (x0 : ByteArray) (x1 : List AV) (x2 : Int) :
    start (strings_IndexAny_0.C R c1 c2 c3 c4) J (retK (strings_IndexAny_0.C R c1 c2 c3 c4) Tryz.f150.results.toList (List.range 0) κ) 10000 (placeOf Tryz.f150 12) (strings_IndexAny_0.s12 x0 x1 x2) = strings_IndexAny_0.t12 c1 c2 c3 c4 x0 x1 x2 (fun y0 y1 y2 => J (placeOf Tryz.f150 12) (strings_IndexAny_0.s12 y0 y1 y2)) (fun y0 y1 y2 => J (placeOf Tryz.f150 18) (strings_IndexAny_0.s18 y0 y1 y2)) (fun r0 => κ [.int .i64 r0]) := by kernel_rfl
theorem strings_IndexAny_0.c18 (R : Type) (c1 : strings_IndexRune_0.F R) (c2 : strings_shouldUseASCIISet_0.F R) (c3 : strings_makeASCIISet_0.F R) (c4 : strings_asciiSet_contains_hi.F R) (J : List Item → St → Option R) (κ : List SV → Option R) (x0 : ByteArray) (x1 : ByteArray) (x2 : Nat) :
    start (strings_IndexAny_0.C R c1 c2 c3 c4) J (retK (strings_IndexAny_0.C R c1 c2 c3 c4) Tryz.f150.results.toList (List.range 0) κ) 10000 (placeOf Tryz.f150 18) (strings_IndexAny_0.s18 x0 x1 x2) = strings_IndexAny_0.t18 c1 c2 c3 c4 x0 x1 x2 (fun y0 y1 y2 => J (placeOf Tryz.f150 12) (strings_IndexAny_0.s12 y0 y1 y2)) (fun y0 y1 y2 => J (placeOf Tryz.f150 18) (strings_IndexAny_0.s18 y0 y1 y2)) (fun r0 => κ [.int .i64 r0]) := by kernel_rfl
theorem strings_IndexAny_0.c (R : Type) (c1 : strings_IndexRune_0.F R) (c2 : strings_shouldUseASCIISet_0.F R) (c3 : strings_makeASCIISet_0.F R) (c4 : strings_asciiSet_contains_hi.F R) (κ : List SV → Option R) (k : Nat) (a0 : ByteArray) (a1 : ByteArray) :
    runF (strings_IndexAny_0.C R c1 c2 c3 c4) Tryz.f150 10000 k [.str a0, .str a1] κ = strings_IndexAny_0.e c1 c2 c3 c4 a0 a1 (fun y0 y1 y2 => goto (strings_IndexAny_0.C R c1 c2 c3 c4) (retK (strings_IndexAny_0.C R c1 c2 c3 c4) Tryz.f150.results.toList (List.range 0) κ) 10000 k (placeOf Tryz.f150 12) (strings_IndexAny_0.s12 y0 y1 y2)) (fun y0 y1 y2 => goto (strings_IndexAny_0.C R c1 c2 c3 c4) (retK (strings_IndexAny_0.C R c1 c2 c3 c4) Tryz.f150.results.toList (List.range 0) κ) 10000 k (placeOf Tryz.f150 18) (strings_IndexAny_0.s18 y0 y1 y2)) (fun r0 => κ [.int .i64 r0]) := by kernel_rfl
theorem strings_IndexAny_0.g12 (R : Type) (c1 : strings_IndexRune_0.F R) (c2 : strings_shouldUseASCIISet_0.F R) (c3 : strings_makeASCIISet_0.F R) (c4 : strings_asciiSet_contains_hi.F R) (κ : List SV → Option R) : ∀ (f : Nat) (x0 : ByteArray) (x1 : List AV) (x2 : Int), goto (strings_IndexAny_0.C R c1 c2 c3 c4) (retK (strings_IndexAny_0.C R c1 c2 c3 c4) Tryz.f150.results.toList (List.range 0) κ) 10000 f (placeOf Tryz.f150 12) (strings_IndexAny_0.s12 x0 x1 x2) = strings_IndexAny_0.L12 c1 c2 c3 c4 (fun r0 => κ [.int .i64 r0]) f x0 x1 x2
  | 0, _, _, _ => rfl
  | f + 1, x0, x1, x2 => by
    show start (strings_IndexAny_0.C R c1 c2 c3 c4) (goto (strings_IndexAny_0.C R c1 c2 c3 c4) (retK (strings_IndexAny_0.C R c1 c2 c3 c4) Tryz.f150.results.toList (List.range 0) κ) 10000 f) (retK (strings_IndexAny_0.C R c1 c2 c3 c4) Tryz.f150.results.toList (List.range 0) κ) 10000 (placeOf Tryz.f150 12) (strings_IndexAny_0.s12 x0 x1 x2) = _
    rw [strings_IndexAny_0.c12]
    simp only [strings_IndexAny_0.g12 R c1 c2 c3 c4 κ f]
    rfl
theorem strings_IndexAny_0.g18 (R : Type) (c1 : strings_IndexRune_0.F R) (c2 : strings_shouldUseASCIISet_0.F R) (c3 : strings_makeASCIISet_0.F R) (c4 : strings_asciiSet_contains_hi.F R) (κ : List SV → Option R) : ∀ (f : Nat) (x0 : ByteArray) (x1 : ByteArray) (x2 : Nat), goto (strings_IndexAny_0.C R c1 c2 c3 c4) (retK (strings_IndexAny_0.C R c1 c2 c3 c4) Tryz.f150.results.toList (List.range 0) κ) 10000 f (placeOf Tryz.f150 18) (strings_IndexAny_0.s18 x0 x1 x2) = strings_IndexAny_0.L18 c1 c2 c3 c4 (fun r0 => κ [.int .i64 r0]) f x0 x1 x2
  | 0, _, _, _ => rfl
  | f + 1, x0, x1, x2 => by
    show start (strings_IndexAny_0.C R c1 c2 c3 c4) (goto (strings_IndexAny_0.C R c1 c2 c3 c4) (retK (strings_IndexAny_0.C R c1 c2 c3 c4) Tryz.f150.results.toList (List.range 0) κ) 10000 f) (retK (strings_IndexAny_0.C R c1 c2 c3 c4) Tryz.f150.results.toList (List.range 0) κ) 10000 (placeOf Tryz.f150 18) (strings_IndexAny_0.s18 x0 x1 x2) = _
    rw [strings_IndexAny_0.c18]
    simp only [strings_IndexAny_0.g18 R c1 c2 c3 c4 κ f]
    rfl
theorem strings_IndexAny_0.run (R : Type) (κ : List SV → Option R) (a0 : ByteArray) (a1 : ByteArray) :
    runF (strings_IndexAny_0.C R strings_IndexRune_0 strings_shouldUseASCIISet_0 strings_makeASCIISet_0 strings_asciiSet_contains_hi) Tryz.f150 10000 fuelK [.str a0, .str a1] κ = strings_IndexAny_0 a0 a1 (fun r0 => κ [.int .i64 r0]) := by
  rw [strings_IndexAny_0.c]
  simp only [strings_IndexAny_0.g12 R strings_IndexRune_0 strings_shouldUseASCIISet_0 strings_makeASCIISet_0 strings_asciiSet_contains_hi κ fuelK, strings_IndexAny_0.g18 R strings_IndexRune_0 strings_shouldUseASCIISet_0 strings_makeASCIISet_0 strings_asciiSet_contains_hi κ fuelK]
  rfl
theorem strings_IndexAny_0.Γ_does {R : Type} (tab : Tab) (ht : TabOk tab) (g : Nat) : Does (R := R) Tryz.prog (tabTy tyL) tab g ((strings_IndexAny_0.C R strings_IndexRune_0 strings_shouldUseASCIISet_0 strings_makeASCIISet_0 strings_asciiSet_contains_hi).call g) := by
  refine does_of fun xs κ => ?_
  show DoesAt _ _ _ g xs κ (strings_IndexAny_0.Γ strings_IndexRune_0 strings_shouldUseASCIISet_0 strings_makeASCIISet_0 strings_asciiSet_contains_hi g xs κ)
  unfold strings_IndexAny_0.Γ
  split
  · split
    · exact strings_makeASCIISet_0.does tab ht _ κ
    · exact DoesAt.none
  · split
    · exact strings_asciiSet_contains_hi.does tab ht _ _ κ
    · exact DoesAt.none
  · split
    · exact strings_IndexRune_0.does tab ht _ _ κ
    · exact DoesAt.none
  · split
    · exact strings_shouldUseASCIISet_0.does tab ht _ κ
    · exact DoesAt.none
  · exact DoesAt.none
theorem strings_IndexAny_0.does {R : Type} (tab : Tab) (ht : TabOk tab) (a0 : ByteArray) (a1 : ByteArray) (κ : List SV → Option R) : DoesAt Tryz.prog (tabTy tyL) tab 150 [.str a0, .str a1] κ (strings_IndexAny_0 a0 a1 (fun r0 => κ [.int .i64 r0])) := by
  intro r h w vs Rt Ra bs hpre
  exact runF_sound tyOk (strings_IndexAny_0.Γ_does tab ht) (show Tryz.prog.funcs[150]? = some Tryz.f150 by kernel_rfl) (by kernel_rfl) ((strings_IndexAny_0.run R κ a0 a1).trans h) hpre
def letter_blanks_0.Γ {R : Type} (g : Nat) (xs : List SV) (κ : List SV → Option R) : Option R :=
  match g with
  | _ => none
def letter_blanks_0.h (n : Nat) : Option (List (Nat × List (Nat × Nat))) :=
  match n with
  | 1 => some [(0, [(0, 0)]), (1, [(0, 0)])]
  | _ => none
def letter_blanks_0.C (R : Type) : Cfg R := ⟨tabTy tyL, letter_blanks_0.Γ, fun _ => false, letter_blanks_0.h⟩
def letter_blanks_0.s1 (x0 : ByteArray) (x1 : Int) : St := ⟨mkS 18 [(0, .str x0), (1, .int .i64 x1)], [], top⟩
theorem letter_blanks_0.c1 (R : Type) (J : List Item → St → Option R) (κ : List SV → Option R) (x0 : ByteArray) (x1 : Int) :
    start (letter_blanks_0.C R) J (retK (letter_blanks_0.C R) Tryz.f149.results.toList (List.range 0) κ) 10000 (placeOf Tryz.f149 1) (letter_blanks_0.s1 x0 x1) = letter_blanks_0.t1 x0 x1 (fun y0 y1 => J (placeOf Tryz.f149 1) (letter_blanks_0.s1 y0 y1)) (fun r0 => κ [.int .i64 r0]) := by kernel_rfl
theorem letter_blanks_0.c (R : Type) (κ : List SV → Option R) (k : Nat) (a0 : ByteArray) (a1 : Int) :
    runF (letter_blanks_0.C R) Tryz.f149 10000 k [.str a0, .int .i64 a1] κ = letter_blanks_0.e a0 a1 (fun y0 y1 => goto (letter_blanks_0.C R) (retK (letter_blanks_0.C R) Tryz.f149.results.toList (List.range 0) κ) 10000 k (placeOf Tryz.f149 1) (letter_blanks_0.s1 y0 y1)) (fun r0 => κ [.int .i64 r0]) := by kernel_rfl
theorem letter_blanks_0.g1 (R : Type) (κ : List SV → Option R) : ∀ (f : Nat) (x0 : ByteArray) (x1 : Int), goto (letter_blanks_0.C R) (retK (letter_blanks_0.C R) Tryz.f149.results.toList (List.range 0) κ) 10000 f (placeOf Tryz.f149 1) (letter_blanks_0.s1 x0 x1) = letter_blanks_0.L1 (fun r0 => κ [.int .i64 r0]) f x0 x1
  | 0, _, _ => rfl
  | f + 1, x0, x1 => by
    show start (letter_blanks_0.C R) (goto (letter_blanks_0.C R) (retK (letter_blanks_0.C R) Tryz.f149.results.toList (List.range 0) κ) 10000 f) (retK (letter_blanks_0.C R) Tryz.f149.results.toList (List.range 0) κ) 10000 (placeOf Tryz.f149 1) (letter_blanks_0.s1 x0 x1) = _
    rw [letter_blanks_0.c1]
    simp only [letter_blanks_0.g1 R κ f]
    rfl
theorem letter_blanks_0.run (R : Type) (κ : List SV → Option R) (a0 : ByteArray) (a1 : Int) :
    runF (letter_blanks_0.C R) Tryz.f149 10000 fuelK [.str a0, .int .i64 a1] κ = letter_blanks_0 a0 a1 (fun r0 => κ [.int .i64 r0]) := by
  rw [letter_blanks_0.c]
  simp only [letter_blanks_0.g1 R κ fuelK]
  rfl
theorem letter_blanks_0.Γ_does {R : Type} (tab : Tab) (ht : TabOk tab) (g : Nat) : Does (R := R) Tryz.prog (tabTy tyL) tab g ((letter_blanks_0.C R).call g) := by
  refine does_of fun xs κ => ?_
  show DoesAt _ _ _ g xs κ (letter_blanks_0.Γ g xs κ)
  unfold letter_blanks_0.Γ
  split
  · exact DoesAt.none
theorem letter_blanks_0.does {R : Type} (tab : Tab) (ht : TabOk tab) (a0 : ByteArray) (a1 : Int) (κ : List SV → Option R) : DoesAt Tryz.prog (tabTy tyL) tab 149 [.str a0, .int .i64 a1] κ (letter_blanks_0 a0 a1 (fun r0 => κ [.int .i64 r0])) := by
  intro r h w vs Rt Ra bs hpre
  exact runF_sound tyOk (letter_blanks_0.Γ_does tab ht) (show Tryz.prog.funcs[149]? = some Tryz.f149 by kernel_rfl) (by kernel_rfl) ((letter_blanks_0.run R κ a0 a1).trans h) hpre
def letter_blob_0.Γ {R : Type} (c1 : strings_IndexAny_0.F R) (c2 : letter_blanks_0.F R) (g : Nat) (xs : List SV) (κ : List SV → Option R) : Option R :=
  match g with
  | 149 => (match xs with
    | [.str a0, .int .i64 a1] => c2 a0 a1 (fun r0 => κ [.int .i64 r0])
    | _ => none)
  | 150 => (match xs with
    | [.str a0, .str a1] => c1 a0 a1 (fun r0 => κ [.int .i64 r0])
    | _ => none)
  | _ => none
def letter_blob_0.h (n : Nat) : Option (List (Nat × List (Nat × Nat))) :=
  match n with
  | _ => none
def letter_blob_0.C (R : Type) (c1 : strings_IndexAny_0.F R) (c2 : letter_blanks_0.F R) : Cfg R := ⟨tabTy tyL, letter_blob_0.Γ c1 c2, fun _ => false, letter_blob_0.h⟩
theorem letter_blob_0.c (R : Type) (c1 : strings_IndexAny_0.F R) (c2 : letter_blanks_0.F R) (κ : List SV → Option R) (k : Nat) (a0 : ByteArray) :
    runF (letter_blob_0.C R c1 c2) Tryz.f125 10000 k [.str a0] κ = letter_blob_0.e c1 c2 a0 (fun r0 => κ [.int .i64 r0]) := by kernel_rfl
theorem letter_blob_0.run (R : Type) (κ : List SV → Option R) (a0 : ByteArray) :
    runF (letter_blob_0.C R strings_IndexAny_0 letter_blanks_0) Tryz.f125 10000 fuelK [.str a0] κ = letter_blob_0 a0 (fun r0 => κ [.int .i64 r0]) := by
  rw [letter_blob_0.c]
  rfl
theorem letter_blob_0.Γ_does {R : Type} (tab : Tab) (ht : TabOk tab) (g : Nat) : Does (R := R) Tryz.prog (tabTy tyL) tab g ((letter_blob_0.C R strings_IndexAny_0 letter_blanks_0).call g) := by
  refine does_of fun xs κ => ?_
  show DoesAt _ _ _ g xs κ (letter_blob_0.Γ strings_IndexAny_0 letter_blanks_0 g xs κ)
  unfold letter_blob_0.Γ
  split
  · split
    · exact letter_blanks_0.does tab ht _ _ κ
    · exact DoesAt.none
  · split
    · exact strings_IndexAny_0.does tab ht _ _ κ
    · exact DoesAt.none
  · exact DoesAt.none
theorem letter_blob_0.does {R : Type} (tab : Tab) (ht : TabOk tab) (a0 : ByteArray) (κ : List SV → Option R) : DoesAt Tryz.prog (tabTy tyL) tab 125 [.str a0] κ (letter_blob_0 a0 (fun r0 => κ [.int .i64 r0])) := by
  intro r h w vs Rt Ra bs hpre
  exact runF_sound tyOk (letter_blob_0.Γ_does tab ht) (show Tryz.prog.funcs[125]? = some Tryz.f125 by kernel_rfl) (by kernel_rfl) ((letter_blob_0.run R κ a0).trans h) hpre
def letter_rules_5_0.Γ {R : Type} (c1 : letter_blob_0.F R) (g : Nat) (xs : List SV) (κ : List SV → Option R) : Option R :=
  match g with
  | 125 => (match xs with
    | [.str a0] => c1 a0 (fun r0 => κ [.int .i64 r0])
    | _ => none)
  | _ => none
def letter_rules_5_0.h (n : Nat) : Option (List (Nat × List (Nat × Nat))) :=
  match n with
  | _ => none
def letter_rules_5_0.C (R : Type) (c1 : letter_blob_0.F R) : Cfg R := ⟨tabTy tyL, letter_rules_5_0.Γ c1, fun _ => false, letter_rules_5_0.h⟩
theorem letter_rules_5_0.c (R : Type) (c1 : letter_blob_0.F R) (κ : List SV → Option R) (k : Nat) (a0 : ByteArray) :
    runF (letter_rules_5_0.C R c1) Tryz.f124 10000 k [.str a0] κ = letter_rules_5_0.e c1 a0 (fun r0 r1 => κ [.tup [.str r0, .bool r1]]) := by kernel_rfl
theorem letter_rules_5_0.run (R : Type) (κ : List SV → Option R) (a0 : ByteArray) :
    runF (letter_rules_5_0.C R letter_blob_0) Tryz.f124 10000 fuelK [.str a0] κ = letter_rules_5_0 a0 (fun r0 r1 => κ [.tup [.str r0, .bool r1]]) := by
  rw [letter_rules_5_0.c]
  rfl
theorem letter_rules_5_0.Γ_does {R : Type} (tab : Tab) (ht : TabOk tab) (g : Nat) : Does (R := R) Tryz.prog (tabTy tyL) tab g ((letter_rules_5_0.C R letter_blob_0).call g) := by
  refine does_of fun xs κ => ?_
  show DoesAt _ _ _ g xs κ (letter_rules_5_0.Γ letter_blob_0 g xs κ)
  unfold letter_rules_5_0.Γ
  split
  · split
    · exact letter_blob_0.does tab ht _ κ
    · exact DoesAt.none
  · exact DoesAt.none
theorem letter_rules_5_0.does {R : Type} (tab : Tab) (ht : TabOk tab) (a0 : ByteArray) (κ : List SV → Option R) : DoesAt Tryz.prog (tabTy tyL) tab 124 [.str a0] κ (letter_rules_5_0 a0 (fun r0 r1 => κ [.tup [.str r0, .bool r1]])) := by
  intro r h w vs Rt Ra bs hpre
  exact runF_sound tyOk (letter_rules_5_0.Γ_does tab ht) (show Tryz.prog.funcs[124]? = some Tryz.f124 by kernel_rfl) (by kernel_rfl) ((letter_rules_5_0.run R κ a0).trans h) hpre
def letter_answered_0.Γ {R : Type} (c1 : letter_blob_0.F R) (c2 : letter_begin_0.F R) (c3 : letter_blanks_0.F R) (g : Nat) (xs : List SV) (κ : List SV → Option R) : Option R :=
  match g with
  | 125 => (match xs with
    | [.str a0] => c1 a0 (fun r0 => κ [.int .i64 r0])
    | _ => none)
  | 127 => (match xs with
    | [.str a0, .str a1] => c2 a0 a1 (fun r0 => κ [.bool r0])
    | _ => none)
  | 149 => (match xs with
    | [.str a0, .int .i64 a1] => c3 a0 a1 (fun r0 => κ [.int .i64 r0])
    | _ => none)
  | _ => none
def letter_answered_0.h (n : Nat) : Option (List (Nat × List (Nat × Nat))) :=
  match n with
  | 3 => some [(0, [(0, 0)]), (3, [(0, 0)]), (4, [(0, 0)])]
  | 7 => some [(0, [(0, 0)]), (3, [(0, 0)]), (19, [(0, 0)]), (20, [(0, 0)]), (21, [(0, 0)])]
  | _ => none
def letter_answered_0.C (R : Type) (c1 : letter_blob_0.F R) (c2 : letter_begin_0.F R) (c3 : letter_blanks_0.F R) : Cfg R := ⟨tabTy tyL, letter_answered_0.Γ c1 c2 c3, fun _ => false, letter_answered_0.h⟩
def letter_answered_0.s3 (x0 : ByteArray) (x1 : Int) (x2 : Int) : St := ⟨mkS 56 [(0, .str x0), (3, .int .i64 x1), (4, .int .i64 x2)], [], top⟩
def letter_answered_0.s7 (x0 : ByteArray) (x1 : Int) (x2 : Int) (x3 : Int) (x4 : List AV) : St := ⟨mkS 56 [(0, .str x0), (3, .int .i64 x1), (19, .own 1280), (20, .int .i64 x2), (21, .int .i64 x3)], [(1280, .row 9 x4 true)], top⟩
theorem letter_answered_0.c3 (R : Type) (c1 : letter_blob_0.F R) (c2 : letter_begin_0.F R) (c3 : letter_blanks_0.F R) (J : List Item → St → Option R) (κ : List SV → Option R) (x0 : ByteArray) (x1 : Int) (x2 : Int) :
    start (letter_answered_0.C R c1 c2 c3) J (retK (letter_answered_0.C R c1 c2 c3) Tryz.f123.results.toList (List.range 0) κ) 10000 (placeOf Tryz.f123 3) (letter_answered_0.s3 x0 x1 x2) = letter_answered_0.t3 c1 c2 c3 x0 x1 x2 (fun y0 y1 y2 => J (placeOf Tryz.f123 3) (letter_answered_0.s3 y0 y1 y2)) (fun y0 y1 y2 y3 y4 => J (placeOf Tryz.f123 7) (letter_answered_0.s7 y0 y1 y2 y3 y4)) (fun r0 => κ [.int .i64 r0]) := by kernel_rfl
theorem letter_answered_0.c7 (R : Type) (c1 : letter_blob_0.F R) (c2 : letter_begin_0.F R) (c3 : letter_blanks_0.F R) (J : List Item → St → Option R) (κ : List SV → Option R) (x0 : ByteArray) (x1 : Int) (x2 : Int) (x3 : Int) (x4 : List AV) :
    start (letter_answered_0.C R c1 c2 c3) J (retK (letter_answered_0.C R c1 c2 c3) Tryz.f123.results.toList (List.range 0) κ) 10000 (placeOf Tryz.f123 7) (letter_answered_0.s7 x0 x1 x2 x3 x4) = letter_answered_0.t7 c1 c2 c3 x0 x1 x2 x3 x4 (fun y0 y1 y2 => J (placeOf Tryz.f123 3) (letter_answered_0.s3 y0 y1 y2)) (fun y0 y1 y2 y3 y4 => J (placeOf Tryz.f123 7) (letter_answered_0.s7 y0 y1 y2 y3 y4)) (fun r0 => κ [.int .i64 r0]) := by kernel_rfl
theorem letter_answered_0.c (R : Type) (c1 : letter_blob_0.F R) (c2 : letter_begin_0.F R) (c3 : letter_blanks_0.F R) (κ : List SV → Option R) (k : Nat) (a0 : ByteArray) :
    runF (letter_answered_0.C R c1 c2 c3) Tryz.f123 10000 k [.str a0] κ = letter_answered_0.e c1 c2 c3 a0 (fun y0 y1 y2 => goto (letter_answered_0.C R c1 c2 c3) (retK (letter_answered_0.C R c1 c2 c3) Tryz.f123.results.toList (List.range 0) κ) 10000 k (placeOf Tryz.f123 3) (letter_answered_0.s3 y0 y1 y2)) (fun y0 y1 y2 y3 y4 => goto (letter_answered_0.C R c1 c2 c3) (retK (letter_answered_0.C R c1 c2 c3) Tryz.f123.results.toList (List.range 0) κ) 10000 k (placeOf Tryz.f123 7) (letter_answered_0.s7 y0 y1 y2 y3 y4)) (fun r0 => κ [.int .i64 r0]) := by kernel_rfl
theorem letter_answered_0.g7 (R : Type) (c1 : letter_blob_0.F R) (c2 : letter_begin_0.F R) (c3 : letter_blanks_0.F R) (κ : List SV → Option R) : ∀ (f : Nat) (x0 : ByteArray) (x1 : Int) (x2 : Int) (x3 : Int) (x4 : List AV), goto (letter_answered_0.C R c1 c2 c3) (retK (letter_answered_0.C R c1 c2 c3) Tryz.f123.results.toList (List.range 0) κ) 10000 f (placeOf Tryz.f123 7) (letter_answered_0.s7 x0 x1 x2 x3 x4) = letter_answered_0.L7 c1 c2 c3 (fun r0 => κ [.int .i64 r0]) f x0 x1 x2 x3 x4
  | 0, _, _, _, _, _ => rfl
  | f + 1, x0, x1, x2, x3, x4 => by
    show start (letter_answered_0.C R c1 c2 c3) (goto (letter_answered_0.C R c1 c2 c3) (retK (letter_answered_0.C R c1 c2 c3) Tryz.f123.results.toList (List.range 0) κ) 10000 f) (retK (letter_answered_0.C R c1 c2 c3) Tryz.f123.results.toList (List.range 0) κ) 10000 (placeOf Tryz.f123 7) (letter_answered_0.s7 x0 x1 x2 x3 x4) = _
    rw [letter_answered_0.c7]
    simp only [letter_answered_0.g7 R c1 c2 c3 κ f]
    rfl
theorem letter_answered_0.g3 (R : Type) (c1 : letter_blob_0.F R) (c2 : letter_begin_0.F R) (c3 : letter_blanks_0.F R) (κ : List SV → Option R) : ∀ (f : Nat) (x0 : ByteArray) (x1 : Int) (x2 : Int), goto (letter_answered_0.C R c1 c2 c3) (retK (letter_answered_0.C R c1 c2 c3) Tryz.f123.results.toList (List.range 0) κ) 10000 f (placeOf Tryz.f123 3) (letter_answered_0.s3 x0 x1 x2) = letter_answered_0.L3 c1 c2 c3 (fun r0 => κ [.int .i64 r0]) f x0 x1 x2
  | 0, _, _, _ => rfl
  | f + 1, x0, x1, x2 => by
    show start (letter_answered_0.C R c1 c2 c3) (goto (letter_answered_0.C R c1 c2 c3) (retK (letter_answered_0.C R c1 c2 c3) Tryz.f123.results.toList (List.range 0) κ) 10000 f) (retK (letter_answered_0.C R c1 c2 c3) Tryz.f123.results.toList (List.range 0) κ) 10000 (placeOf Tryz.f123 3) (letter_answered_0.s3 x0 x1 x2) = _
    rw [letter_answered_0.c3]
    simp only [letter_answered_0.g3 R c1 c2 c3 κ f, letter_answered_0.g7 R c1 c2 c3 κ f]
    rfl
theorem letter_answered_0.run (R : Type) (κ : List SV → Option R) (a0 : ByteArray) :
    runF (letter_answered_0.C R letter_blob_0 letter_begin_0 letter_blanks_0) Tryz.f123 10000 fuelK [.str a0] κ = letter_answered_0 a0 (fun r0 => κ [.int .i64 r0]) := by
  rw [letter_answered_0.c]
  simp only [letter_answered_0.g3 R letter_blob_0 letter_begin_0 letter_blanks_0 κ fuelK, letter_answered_0.g7 R letter_blob_0 letter_begin_0 letter_blanks_0 κ fuelK]
  rfl
theorem letter_answered_0.Γ_does {R : Type} (tab : Tab) (ht : TabOk tab) (g : Nat) : Does (R := R) Tryz.prog (tabTy tyL) tab g ((letter_answered_0.C R letter_blob_0 letter_begin_0 letter_blanks_0).call g) := by
  refine does_of fun xs κ => ?_
  show DoesAt _ _ _ g xs κ (letter_answered_0.Γ letter_blob_0 letter_begin_0 letter_blanks_0 g xs κ)
  unfold letter_answered_0.Γ
  split
  · split
    · exact letter_blob_0.does tab ht _ κ
    · exact DoesAt.none
  · split
    · exact letter_begin_0.does tab ht _ _ κ
    · exact DoesAt.none
  · split
    · exact letter_blanks_0.does tab ht _ _ κ
    · exact DoesAt.none
  · exact DoesAt.none
theorem letter_answered_0.does {R : Type} (tab : Tab) (ht : TabOk tab) (a0 : ByteArray) (κ : List SV → Option R) : DoesAt Tryz.prog (tabTy tyL) tab 123 [.str a0] κ (letter_answered_0 a0 (fun r0 => κ [.int .i64 r0])) := by
  intro r h w vs Rt Ra bs hpre
  exact runF_sound tyOk (letter_answered_0.Γ_does tab ht) (show Tryz.prog.funcs[123]? = some Tryz.f123 by kernel_rfl) (by kernel_rfl) ((letter_answered_0.run R κ a0).trans h) hpre
def letter_rules_4_0.Γ {R : Type} (c1 : letter_answered_0.F R) (g : Nat) (xs : List SV) (κ : List SV → Option R) : Option R :=
  match g with
  | 123 => (match xs with
    | [.str a0] => c1 a0 (fun r0 => κ [.int .i64 r0])
    | _ => none)
  | _ => none
def letter_rules_4_0.h (n : Nat) : Option (List (Nat × List (Nat × Nat))) :=
  match n with
  | _ => none
def letter_rules_4_0.C (R : Type) (c1 : letter_answered_0.F R) : Cfg R := ⟨tabTy tyL, letter_rules_4_0.Γ c1, fun _ => false, letter_rules_4_0.h⟩
theorem letter_rules_4_0.c (R : Type) (c1 : letter_answered_0.F R) (κ : List SV → Option R) (k : Nat) (a0 : ByteArray) :
    runF (letter_rules_4_0.C R c1) Tryz.f122 10000 k [.str a0] κ = letter_rules_4_0.e c1 a0 (fun r0 r1 => κ [.tup [.str r0, .bool r1]]) := by kernel_rfl
theorem letter_rules_4_0.run (R : Type) (κ : List SV → Option R) (a0 : ByteArray) :
    runF (letter_rules_4_0.C R letter_answered_0) Tryz.f122 10000 fuelK [.str a0] κ = letter_rules_4_0 a0 (fun r0 r1 => κ [.tup [.str r0, .bool r1]]) := by
  rw [letter_rules_4_0.c]
  rfl
theorem letter_rules_4_0.Γ_does {R : Type} (tab : Tab) (ht : TabOk tab) (g : Nat) : Does (R := R) Tryz.prog (tabTy tyL) tab g ((letter_rules_4_0.C R letter_answered_0).call g) := by
  refine does_of fun xs κ => ?_
  show DoesAt _ _ _ g xs κ (letter_rules_4_0.Γ letter_answered_0 g xs κ)
  unfold letter_rules_4_0.Γ
  split
  · split
    · exact letter_answered_0.does tab ht _ κ
    · exact DoesAt.none
  · exact DoesAt.none
theorem letter_rules_4_0.does {R : Type} (tab : Tab) (ht : TabOk tab) (a0 : ByteArray) (κ : List SV → Option R) : DoesAt Tryz.prog (tabTy tyL) tab 122 [.str a0] κ (letter_rules_4_0 a0 (fun r0 r1 => κ [.tup [.str r0, .bool r1]])) := by
  intro r h w vs Rt Ra bs hpre
  exact runF_sound tyOk (letter_rules_4_0.Γ_does tab ht) (show Tryz.prog.funcs[122]? = some Tryz.f122 by kernel_rfl) (by kernel_rfl) ((letter_rules_4_0.run R κ a0).trans h) hpre
def stringslite_CutPrefix_0.Γ {R : Type} (c1 : stringslite_HasPrefix_0.F R) (g : Nat) (xs : List SV) (κ : List SV → Option R) : Option R :=
  match g with
  | 129 => (match xs with
    | [.str a0, .str a1] => c1 a0 a1 (fun r0 => κ [.bool r0])
    | _ => none)
  | _ => none
def stringslite_CutPrefix_0.h (n : Nat) : Option (List (Nat × List (Nat × Nat))) :=
  match n with
  | _ => none
def stringslite_CutPrefix_0.C (R : Type) (c1 : stringslite_HasPrefix_0.F R) : Cfg R := ⟨tabTy tyL, stringslite_CutPrefix_0.Γ c1, fun _ => false, stringslite_CutPrefix_0.h⟩
theorem stringslite_CutPrefix_0.c (R : Type) (c1 : stringslite_HasPrefix_0.F R) (κ : List SV → Option R) (k : Nat) (a0 : ByteArray) (a1 : ByteArray) :
    runF (stringslite_CutPrefix_0.C R c1) Tryz.f148 10000 k [.str a0, .str a1] κ = stringslite_CutPrefix_0.e c1 a0 a1 (fun r0 r1 => κ [.tup [.str r0, .bool r1]]) := by kernel_rfl
theorem stringslite_CutPrefix_0.run (R : Type) (κ : List SV → Option R) (a0 : ByteArray) (a1 : ByteArray) :
    runF (stringslite_CutPrefix_0.C R stringslite_HasPrefix_0) Tryz.f148 10000 fuelK [.str a0, .str a1] κ = stringslite_CutPrefix_0 a0 a1 (fun r0 r1 => κ [.tup [.str r0, .bool r1]]) := by
  rw [stringslite_CutPrefix_0.c]
  rfl
theorem stringslite_CutPrefix_0.Γ_does {R : Type} (tab : Tab) (ht : TabOk tab) (g : Nat) : Does (R := R) Tryz.prog (tabTy tyL) tab g ((stringslite_CutPrefix_0.C R stringslite_HasPrefix_0).call g) := by
  refine does_of fun xs κ => ?_
  show DoesAt _ _ _ g xs κ (stringslite_CutPrefix_0.Γ stringslite_HasPrefix_0 g xs κ)
  unfold stringslite_CutPrefix_0.Γ
  split
  · split
    · exact stringslite_HasPrefix_0.does tab ht _ _ κ
    · exact DoesAt.none
  · exact DoesAt.none
theorem stringslite_CutPrefix_0.does {R : Type} (tab : Tab) (ht : TabOk tab) (a0 : ByteArray) (a1 : ByteArray) (κ : List SV → Option R) : DoesAt Tryz.prog (tabTy tyL) tab 148 [.str a0, .str a1] κ (stringslite_CutPrefix_0 a0 a1 (fun r0 r1 => κ [.tup [.str r0, .bool r1]])) := by
  intro r h w vs Rt Ra bs hpre
  exact runF_sound tyOk (stringslite_CutPrefix_0.Γ_does tab ht) (show Tryz.prog.funcs[148]? = some Tryz.f148 by kernel_rfl) (by kernel_rfl) ((stringslite_CutPrefix_0.run R κ a0 a1).trans h) hpre
def strings_CutPrefix_0.Γ {R : Type} (c1 : stringslite_CutPrefix_0.F R) (g : Nat) (xs : List SV) (κ : List SV → Option R) : Option R :=
  match g with
  | 148 => (match xs with
    | [.str a0, .str a1] => c1 a0 a1 (fun r0 r1 => κ [.tup [.str r0, .bool r1]])
    | _ => none)
  | _ => none
def strings_CutPrefix_0.h (n : Nat) : Option (List (Nat × List (Nat × Nat))) :=
  match n with
  | _ => none
def strings_CutPrefix_0.C (R : Type) (c1 : stringslite_CutPrefix_0.F R) : Cfg R := ⟨tabTy tyL, strings_CutPrefix_0.Γ c1, fun _ => false, strings_CutPrefix_0.h⟩
theorem strings_CutPrefix_0.c (R : Type) (c1 : stringslite_CutPrefix_0.F R) (κ : List SV → Option R) (k : Nat) (a0 : ByteArray) (a1 : ByteArray) :
    runF (strings_CutPrefix_0.C R c1) Tryz.f121 10000 k [.str a0, .str a1] κ = strings_CutPrefix_0.e c1 a0 a1 (fun r0 r1 => κ [.tup [.str r0, .bool r1]]) := by kernel_rfl
theorem strings_CutPrefix_0.run (R : Type) (κ : List SV → Option R) (a0 : ByteArray) (a1 : ByteArray) :
    runF (strings_CutPrefix_0.C R stringslite_CutPrefix_0) Tryz.f121 10000 fuelK [.str a0, .str a1] κ = strings_CutPrefix_0 a0 a1 (fun r0 r1 => κ [.tup [.str r0, .bool r1]]) := by
  rw [strings_CutPrefix_0.c]
  rfl
theorem strings_CutPrefix_0.Γ_does {R : Type} (tab : Tab) (ht : TabOk tab) (g : Nat) : Does (R := R) Tryz.prog (tabTy tyL) tab g ((strings_CutPrefix_0.C R stringslite_CutPrefix_0).call g) := by
  refine does_of fun xs κ => ?_
  show DoesAt _ _ _ g xs κ (strings_CutPrefix_0.Γ stringslite_CutPrefix_0 g xs κ)
  unfold strings_CutPrefix_0.Γ
  split
  · split
    · exact stringslite_CutPrefix_0.does tab ht _ _ κ
    · exact DoesAt.none
  · exact DoesAt.none
theorem strings_CutPrefix_0.does {R : Type} (tab : Tab) (ht : TabOk tab) (a0 : ByteArray) (a1 : ByteArray) (κ : List SV → Option R) : DoesAt Tryz.prog (tabTy tyL) tab 121 [.str a0, .str a1] κ (strings_CutPrefix_0 a0 a1 (fun r0 r1 => κ [.tup [.str r0, .bool r1]])) := by
  intro r h w vs Rt Ra bs hpre
  exact runF_sound tyOk (strings_CutPrefix_0.Γ_does tab ht) (show Tryz.prog.funcs[121]? = some Tryz.f121 by kernel_rfl) (by kernel_rfl) ((strings_CutPrefix_0.run R κ a0 a1).trans h) hpre
def letter_rules_3_0.Γ {R : Type} (c1 : strings_CutPrefix_0.F R) (g : Nat) (xs : List SV) (κ : List SV → Option R) : Option R :=
  match g with
  | 121 => (match xs with
    | [.str a0, .str a1] => c1 a0 a1 (fun r0 r1 => κ [.tup [.str r0, .bool r1]])
    | _ => none)
  | _ => none
def letter_rules_3_0.h (n : Nat) : Option (List (Nat × List (Nat × Nat))) :=
  match n with
  | _ => none
def letter_rules_3_0.C (R : Type) (c1 : strings_CutPrefix_0.F R) : Cfg R := ⟨tabTy tyL, letter_rules_3_0.Γ c1, fun _ => false, letter_rules_3_0.h⟩
theorem letter_rules_3_0.c (R : Type) (c1 : strings_CutPrefix_0.F R) (κ : List SV → Option R) (k : Nat) (a0 : ByteArray) :
    runF (letter_rules_3_0.C R c1) Tryz.f120 10000 k [.str a0] κ = letter_rules_3_0.e c1 a0 (fun r0 r1 => κ [.tup [.str r0, .bool r1]]) := by kernel_rfl
theorem letter_rules_3_0.run (R : Type) (κ : List SV → Option R) (a0 : ByteArray) :
    runF (letter_rules_3_0.C R strings_CutPrefix_0) Tryz.f120 10000 fuelK [.str a0] κ = letter_rules_3_0 a0 (fun r0 r1 => κ [.tup [.str r0, .bool r1]]) := by
  rw [letter_rules_3_0.c]
  rfl
theorem letter_rules_3_0.Γ_does {R : Type} (tab : Tab) (ht : TabOk tab) (g : Nat) : Does (R := R) Tryz.prog (tabTy tyL) tab g ((letter_rules_3_0.C R strings_CutPrefix_0).call g) := by
  refine does_of fun xs κ => ?_
  show DoesAt _ _ _ g xs κ (letter_rules_3_0.Γ strings_CutPrefix_0 g xs κ)
  unfold letter_rules_3_0.Γ
  split
  · split
    · exact strings_CutPrefix_0.does tab ht _ _ κ
    · exact DoesAt.none
  · exact DoesAt.none
theorem letter_rules_3_0.does {R : Type} (tab : Tab) (ht : TabOk tab) (a0 : ByteArray) (κ : List SV → Option R) : DoesAt Tryz.prog (tabTy tyL) tab 120 [.str a0] κ (letter_rules_3_0 a0 (fun r0 r1 => κ [.tup [.str r0, .bool r1]])) := by
  intro r h w vs Rt Ra bs hpre
  exact runF_sound tyOk (letter_rules_3_0.Γ_does tab ht) (show Tryz.prog.funcs[120]? = some Tryz.f120 by kernel_rfl) (by kernel_rfl) ((letter_rules_3_0.run R κ a0).trans h) hpre
def letter_rules_2_0.Γ {R : Type} (c1 : octet_Same_0.F R) (g : Nat) (xs : List SV) (κ : List SV → Option R) : Option R :=
  match g with
  | 46 => (match xs with
    | [.str a0, .str a1] => c1 a0 a1 (fun r0 => κ [.bool r0])
    | _ => none)
  | _ => none
def letter_rules_2_0.h (n : Nat) : Option (List (Nat × List (Nat × Nat))) :=
  match n with
  | _ => none
def letter_rules_2_0.C (R : Type) (c1 : octet_Same_0.F R) : Cfg R := ⟨tabTy tyL, letter_rules_2_0.Γ c1, fun _ => false, letter_rules_2_0.h⟩
theorem letter_rules_2_0.c (R : Type) (c1 : octet_Same_0.F R) (κ : List SV → Option R) (k : Nat) (a0 : ByteArray) :
    runF (letter_rules_2_0.C R c1) Tryz.f119 10000 k [.str a0] κ = letter_rules_2_0.e c1 a0 (fun r0 r1 => κ [.tup [.str r0, .bool r1]]) := by kernel_rfl
theorem letter_rules_2_0.run (R : Type) (κ : List SV → Option R) (a0 : ByteArray) :
    runF (letter_rules_2_0.C R octet_Same_0) Tryz.f119 10000 fuelK [.str a0] κ = letter_rules_2_0 a0 (fun r0 r1 => κ [.tup [.str r0, .bool r1]]) := by
  rw [letter_rules_2_0.c]
  rfl
theorem letter_rules_2_0.Γ_does {R : Type} (tab : Tab) (ht : TabOk tab) (g : Nat) : Does (R := R) Tryz.prog (tabTy tyL) tab g ((letter_rules_2_0.C R octet_Same_0).call g) := by
  refine does_of fun xs κ => ?_
  show DoesAt _ _ _ g xs κ (letter_rules_2_0.Γ octet_Same_0 g xs κ)
  unfold letter_rules_2_0.Γ
  split
  · split
    · exact octet_Same_0.does tab ht _ _ κ
    · exact DoesAt.none
  · exact DoesAt.none
theorem letter_rules_2_0.does {R : Type} (tab : Tab) (ht : TabOk tab) (a0 : ByteArray) (κ : List SV → Option R) : DoesAt Tryz.prog (tabTy tyL) tab 119 [.str a0] κ (letter_rules_2_0 a0 (fun r0 r1 => κ [.tup [.str r0, .bool r1]])) := by
  intro r h w vs Rt Ra bs hpre
  exact runF_sound tyOk (letter_rules_2_0.Γ_does tab ht) (show Tryz.prog.funcs[119]? = some Tryz.f119 by kernel_rfl) (by kernel_rfl) ((letter_rules_2_0.run R κ a0).trans h) hpre
def stringslite_CutSuffix_0.Γ {R : Type} (c1 : stringslite_HasSuffix_0.F R) (g : Nat) (xs : List SV) (κ : List SV → Option R) : Option R :=
  match g with
  | 100 => (match xs with
    | [.str a0, .str a1] => c1 a0 a1 (fun r0 => κ [.bool r0])
    | _ => none)
  | _ => none
def stringslite_CutSuffix_0.h (n : Nat) : Option (List (Nat × List (Nat × Nat))) :=
  match n with
  | _ => none
def stringslite_CutSuffix_0.C (R : Type) (c1 : stringslite_HasSuffix_0.F R) : Cfg R := ⟨tabTy tyL, stringslite_CutSuffix_0.Γ c1, fun _ => false, stringslite_CutSuffix_0.h⟩
theorem stringslite_CutSuffix_0.c (R : Type) (c1 : stringslite_HasSuffix_0.F R) (κ : List SV → Option R) (k : Nat) (a0 : ByteArray) (a1 : ByteArray) :
    runF (stringslite_CutSuffix_0.C R c1) Tryz.f147 10000 k [.str a0, .str a1] κ = stringslite_CutSuffix_0.e c1 a0 a1 (fun r0 r1 => κ [.tup [.str r0, .bool r1]]) := by kernel_rfl
theorem stringslite_CutSuffix_0.run (R : Type) (κ : List SV → Option R) (a0 : ByteArray) (a1 : ByteArray) :
    runF (stringslite_CutSuffix_0.C R stringslite_HasSuffix_0) Tryz.f147 10000 fuelK [.str a0, .str a1] κ = stringslite_CutSuffix_0 a0 a1 (fun r0 r1 => κ [.tup [.str r0, .bool r1]]) := by
  rw [stringslite_CutSuffix_0.c]
  rfl
theorem stringslite_CutSuffix_0.Γ_does {R : Type} (tab : Tab) (ht : TabOk tab) (g : Nat) : Does (R := R) Tryz.prog (tabTy tyL) tab g ((stringslite_CutSuffix_0.C R stringslite_HasSuffix_0).call g) := by
  refine does_of fun xs κ => ?_
  show DoesAt _ _ _ g xs κ (stringslite_CutSuffix_0.Γ stringslite_HasSuffix_0 g xs κ)
  unfold stringslite_CutSuffix_0.Γ
  split
  · split
    · exact stringslite_HasSuffix_0.does tab ht _ _ κ
    · exact DoesAt.none
  · exact DoesAt.none
theorem stringslite_CutSuffix_0.does {R : Type} (tab : Tab) (ht : TabOk tab) (a0 : ByteArray) (a1 : ByteArray) (κ : List SV → Option R) : DoesAt Tryz.prog (tabTy tyL) tab 147 [.str a0, .str a1] κ (stringslite_CutSuffix_0 a0 a1 (fun r0 r1 => κ [.tup [.str r0, .bool r1]])) := by
  intro r h w vs Rt Ra bs hpre
  exact runF_sound tyOk (stringslite_CutSuffix_0.Γ_does tab ht) (show Tryz.prog.funcs[147]? = some Tryz.f147 by kernel_rfl) (by kernel_rfl) ((stringslite_CutSuffix_0.run R κ a0 a1).trans h) hpre
def strings_CutSuffix_0.Γ {R : Type} (c1 : stringslite_CutSuffix_0.F R) (g : Nat) (xs : List SV) (κ : List SV → Option R) : Option R :=
  match g with
  | 147 => (match xs with
    | [.str a0, .str a1] => c1 a0 a1 (fun r0 r1 => κ [.tup [.str r0, .bool r1]])
    | _ => none)
  | _ => none
def strings_CutSuffix_0.h (n : Nat) : Option (List (Nat × List (Nat × Nat))) :=
  match n with
  | _ => none
def strings_CutSuffix_0.C (R : Type) (c1 : stringslite_CutSuffix_0.F R) : Cfg R := ⟨tabTy tyL, strings_CutSuffix_0.Γ c1, fun _ => false, strings_CutSuffix_0.h⟩
theorem strings_CutSuffix_0.c (R : Type) (c1 : stringslite_CutSuffix_0.F R) (κ : List SV → Option R) (k : Nat) (a0 : ByteArray) (a1 : ByteArray) :
    runF (strings_CutSuffix_0.C R c1) Tryz.f118 10000 k [.str a0, .str a1] κ = strings_CutSuffix_0.e c1 a0 a1 (fun r0 r1 => κ [.tup [.str r0, .bool r1]]) := by kernel_rfl
theorem strings_CutSuffix_0.run (R : Type) (κ : List SV → Option R) (a0 : ByteArray) (a1 : ByteArray) :
    runF (strings_CutSuffix_0.C R stringslite_CutSuffix_0) Tryz.f118 10000 fuelK [.str a0, .str a1] κ = strings_CutSuffix_0 a0 a1 (fun r0 r1 => κ [.tup [.str r0, .bool r1]]) := by
  rw [strings_CutSuffix_0.c]
  rfl
theorem strings_CutSuffix_0.Γ_does {R : Type} (tab : Tab) (ht : TabOk tab) (g : Nat) : Does (R := R) Tryz.prog (tabTy tyL) tab g ((strings_CutSuffix_0.C R stringslite_CutSuffix_0).call g) := by
  refine does_of fun xs κ => ?_
  show DoesAt _ _ _ g xs κ (strings_CutSuffix_0.Γ stringslite_CutSuffix_0 g xs κ)
  unfold strings_CutSuffix_0.Γ
  split
  · split
    · exact stringslite_CutSuffix_0.does tab ht _ _ κ
    · exact DoesAt.none
  · exact DoesAt.none
theorem strings_CutSuffix_0.does {R : Type} (tab : Tab) (ht : TabOk tab) (a0 : ByteArray) (a1 : ByteArray) (κ : List SV → Option R) : DoesAt Tryz.prog (tabTy tyL) tab 118 [.str a0, .str a1] κ (strings_CutSuffix_0 a0 a1 (fun r0 r1 => κ [.tup [.str r0, .bool r1]])) := by
  intro r h w vs Rt Ra bs hpre
  exact runF_sound tyOk (strings_CutSuffix_0.Γ_does tab ht) (show Tryz.prog.funcs[118]? = some Tryz.f118 by kernel_rfl) (by kernel_rfl) ((strings_CutSuffix_0.run R κ a0 a1).trans h) hpre
def letter_rules_1_0.Γ {R : Type} (c1 : strings_CutSuffix_0.F R) (g : Nat) (xs : List SV) (κ : List SV → Option R) : Option R :=
  match g with
  | 118 => (match xs with
    | [.str a0, .str a1] => c1 a0 a1 (fun r0 r1 => κ [.tup [.str r0, .bool r1]])
    | _ => none)
  | _ => none
def letter_rules_1_0.h (n : Nat) : Option (List (Nat × List (Nat × Nat))) :=
  match n with
  | _ => none
def letter_rules_1_0.C (R : Type) (c1 : strings_CutSuffix_0.F R) : Cfg R := ⟨tabTy tyL, letter_rules_1_0.Γ c1, fun _ => false, letter_rules_1_0.h⟩
theorem letter_rules_1_0.c (R : Type) (c1 : strings_CutSuffix_0.F R) (κ : List SV → Option R) (k : Nat) (a0 : ByteArray) :
    runF (letter_rules_1_0.C R c1) Tryz.f117 10000 k [.str a0] κ = letter_rules_1_0.e c1 a0 (fun r0 r1 => κ [.tup [.str r0, .bool r1]]) := by kernel_rfl
theorem letter_rules_1_0.run (R : Type) (κ : List SV → Option R) (a0 : ByteArray) :
    runF (letter_rules_1_0.C R strings_CutSuffix_0) Tryz.f117 10000 fuelK [.str a0] κ = letter_rules_1_0 a0 (fun r0 r1 => κ [.tup [.str r0, .bool r1]]) := by
  rw [letter_rules_1_0.c]
  rfl
theorem letter_rules_1_0.Γ_does {R : Type} (tab : Tab) (ht : TabOk tab) (g : Nat) : Does (R := R) Tryz.prog (tabTy tyL) tab g ((letter_rules_1_0.C R strings_CutSuffix_0).call g) := by
  refine does_of fun xs κ => ?_
  show DoesAt _ _ _ g xs κ (letter_rules_1_0.Γ strings_CutSuffix_0 g xs κ)
  unfold letter_rules_1_0.Γ
  split
  · split
    · exact strings_CutSuffix_0.does tab ht _ _ κ
    · exact DoesAt.none
  · exact DoesAt.none
theorem letter_rules_1_0.does {R : Type} (tab : Tab) (ht : TabOk tab) (a0 : ByteArray) (κ : List SV → Option R) : DoesAt Tryz.prog (tabTy tyL) tab 117 [.str a0] κ (letter_rules_1_0 a0 (fun r0 r1 => κ [.tup [.str r0, .bool r1]])) := by
  intro r h w vs Rt Ra bs hpre
  exact runF_sound tyOk (letter_rules_1_0.Γ_does tab ht) (show Tryz.prog.funcs[117]? = some Tryz.f117 by kernel_rfl) (by kernel_rfl) ((letter_rules_1_0.run R κ a0).trans h) hpre
def letter_Base_0.Γ {R : Type} (c1 : letter_Words_0.F R) (c2 : letter_one_0.F R) (c3 : letter_rules_0.F R) (c4 : letter_rules_6_0.F R) (c5 : letter_rules_5_0.F R) (c6 : letter_rules_4_0.F R) (c7 : letter_rules_3_0.F R) (c8 : letter_rules_2_0.F R) (c9 : letter_rules_1_0.F R) (g : Nat) (xs : List SV) (κ : List SV → Option R) : Option R :=
  match g with
  | 19 => (match xs with
    | [.str a0] => c1 a0 (fun r0 => κ [.str r0])
    | _ => none)
  | 73 => (match xs with
    | [.str a0] => c2 a0 (fun r0 => κ [.str r0])
    | _ => none)
  | 74 => (match xs with
    | [] => c3 (fun r0 r1 r2 r3 r4 r5 => κ [.agg [.fn 117, .bool r0, .fn 119, .bool r1, .fn 120, .bool r2, .fn 122, .bool r3, .fn 124, .bool r4, .fn 126, .bool r5]])
    | _ => none)
  | 117 => (match xs with
    | [.str a0] => c9 a0 (fun r0 r1 => κ [.tup [.str r0, .bool r1]])
    | _ => none)
  | 119 => (match xs with
    | [.str a0] => c8 a0 (fun r0 r1 => κ [.tup [.str r0, .bool r1]])
    | _ => none)
  | 120 => (match xs with
    | [.str a0] => c7 a0 (fun r0 r1 => κ [.tup [.str r0, .bool r1]])
    | _ => none)
  | 122 => (match xs with
    | [.str a0] => c6 a0 (fun r0 r1 => κ [.tup [.str r0, .bool r1]])
    | _ => none)
  | 124 => (match xs with
    | [.str a0] => c5 a0 (fun r0 r1 => κ [.tup [.str r0, .bool r1]])
    | _ => none)
  | 126 => (match xs with
    | [.str a0] => c4 a0 (fun r0 r1 => κ [.tup [.str r0, .bool r1]])
    | _ => none)
  | _ => none
def letter_Base_0.h (n : Nat) : Option (List (Nat × List (Nat × Nat))) :=
  match n with
  | 3 => some [(4, [(0, 0)]), (5, [(0, 0)])]
  | 4 => some [(4, [(0, 0)]), (5, [(0, 0)]), (13, [(0, 0)]), (14, [(0, 0)])]
  | _ => none
def letter_Base_0.C (R : Type) (c1 : letter_Words_0.F R) (c2 : letter_one_0.F R) (c3 : letter_rules_0.F R) (c4 : letter_rules_6_0.F R) (c5 : letter_rules_5_0.F R) (c6 : letter_rules_4_0.F R) (c7 : letter_rules_3_0.F R) (c8 : letter_rules_2_0.F R) (c9 : letter_rules_1_0.F R) : Cfg R := ⟨tabTy tyL, letter_Base_0.Γ c1 c2 c3 c4 c5 c6 c7 c8 c9, fun _ => false, letter_Base_0.h⟩
def letter_Base_0.s3 (x0 : ByteArray) (x1 : Bool) : St := ⟨mkS 34 [(4, .str x0), (5, .bool x1)], [], top⟩
def letter_Base_0.s4 (x0 : ByteArray) (x1 : Bool) (x2 : Bool) (x3 : Bool) (x4 : Bool) (x5 : Bool) (x6 : Bool) (x7 : Bool) (x8 : Int) : St := ⟨mkS 34 [(4, .str x0), (5, .bool x1), (13, .agg [.fn 117, .bool x2, .fn 119, .bool x3, .fn 120, .bool x4, .fn 122, .bool x5, .fn 124, .bool x6, .fn 126, .bool x7]), (14, .int .i64 x8)], [], top⟩
theorem letter_Base_0.c3 (R : Type) (c1 : letter_Words_0.F R) (c2 : letter_one_0.F R) (c3 : letter_rules_0.F R) (c4 : letter_rules_6_0.F R) (c5 : letter_rules_5_0.F R) (c6 : letter_rules_4_0.F R) (c7 : letter_rules_3_0.F R) (c8 : letter_rules_2_0.F R) (c9 : letter_rules_1_0.F R) (J : List Item → St → Option R) (κ : List SV → Option R) (x0 : ByteArray) (x1 : Bool) :
    start (letter_Base_0.C R c1 c2 c3 c4 c5 c6 c7 c8 c9) J (retK (letter_Base_0.C R c1 c2 c3 c4 c5 c6 c7 c8 c9) Tryz.f25.results.toList (List.range 0) κ) 10000 (placeOf Tryz.f25 3) (letter_Base_0.s3 x0 x1) = letter_Base_0.t3 c1 c2 c3 c4 c5 c6 c7 c8 c9 x0 x1 (fun y0 y1 => J (placeOf Tryz.f25 3) (letter_Base_0.s3 y0 y1)) (fun y0 y1 y2 y3 y4 y5 y6 y7 y8 => J (placeOf Tryz.f25 4) (letter_Base_0.s4 y0 y1 y2 y3 y4 y5 y6 y7 y8)) (fun r0 r1 => κ [.tup [.str r0, .bool r1]]) := by kernel_rfl
theorem letter_Base_0.c4 (R : Type) (c1 : letter_Words_0.F R) (c2 : letter_one_0.F R) (c3 : letter_rules_0.F R) (c4 : letter_rules_6_0.F R) (c5 : letter_rules_5_0.F R) (c6 : letter_rules_4_0.F R) (c7 : letter_rules_3_0.F R) (c8 : letter_rules_2_0.F R) (c9 : letter_rules_1_0.F R) (J : List Item → St → Option R) (κ : List SV → Option R) (x0 : ByteArray) (x1 : Bool) (x2 : Bool) (x3 : Bool) (x4 : Bool) (x5 : Bool) (x6 : Bool) (x7 : Bool) (x8 : Int) :
    start (letter_Base_0.C R c1 c2 c3 c4 c5 c6 c7 c8 c9) J (retK (letter_Base_0.C R c1 c2 c3 c4 c5 c6 c7 c8 c9) Tryz.f25.results.toList (List.range 0) κ) 10000 (placeOf Tryz.f25 4) (letter_Base_0.s4 x0 x1 x2 x3 x4 x5 x6 x7 x8) = letter_Base_0.t4 c1 c2 c3 c4 c5 c6 c7 c8 c9 x0 x1 x2 x3 x4 x5 x6 x7 x8 (fun y0 y1 => J (placeOf Tryz.f25 3) (letter_Base_0.s3 y0 y1)) (fun y0 y1 y2 y3 y4 y5 y6 y7 y8 => J (placeOf Tryz.f25 4) (letter_Base_0.s4 y0 y1 y2 y3 y4 y5 y6 y7 y8)) (fun r0 r1 => κ [.tup [.str r0, .bool r1]]) := by kernel_rfl
theorem letter_Base_0.c (R : Type) (c1 : letter_Words_0.F R) (c2 : letter_one_0.F R) (c3 : letter_rules_0.F R) (c4 : letter_rules_6_0.F R) (c5 : letter_rules_5_0.F R) (c6 : letter_rules_4_0.F R) (c7 : letter_rules_3_0.F R) (c8 : letter_rules_2_0.F R) (c9 : letter_rules_1_0.F R) (κ : List SV → Option R) (k : Nat) (a0 : ByteArray) :
    runF (letter_Base_0.C R c1 c2 c3 c4 c5 c6 c7 c8 c9) Tryz.f25 10000 k [.str a0] κ = letter_Base_0.e c1 c2 c3 c4 c5 c6 c7 c8 c9 a0 (fun y0 y1 => goto (letter_Base_0.C R c1 c2 c3 c4 c5 c6 c7 c8 c9) (retK (letter_Base_0.C R c1 c2 c3 c4 c5 c6 c7 c8 c9) Tryz.f25.results.toList (List.range 0) κ) 10000 k (placeOf Tryz.f25 3) (letter_Base_0.s3 y0 y1)) (fun y0 y1 y2 y3 y4 y5 y6 y7 y8 => goto (letter_Base_0.C R c1 c2 c3 c4 c5 c6 c7 c8 c9) (retK (letter_Base_0.C R c1 c2 c3 c4 c5 c6 c7 c8 c9) Tryz.f25.results.toList (List.range 0) κ) 10000 k (placeOf Tryz.f25 4) (letter_Base_0.s4 y0 y1 y2 y3 y4 y5 y6 y7 y8)) (fun r0 r1 => κ [.tup [.str r0, .bool r1]]) := by kernel_rfl
theorem letter_Base_0.gM3 (R : Type) (c1 : letter_Words_0.F R) (c2 : letter_one_0.F R) (c3 : letter_rules_0.F R) (c4 : letter_rules_6_0.F R) (c5 : letter_rules_5_0.F R) (c6 : letter_rules_4_0.F R) (c7 : letter_rules_3_0.F R) (c8 : letter_rules_2_0.F R) (c9 : letter_rules_1_0.F R) (κ : List SV → Option R) : ∀ (f : Nat), (∀ (x0 : ByteArray) (x1 : Bool), goto (letter_Base_0.C R c1 c2 c3 c4 c5 c6 c7 c8 c9) (retK (letter_Base_0.C R c1 c2 c3 c4 c5 c6 c7 c8 c9) Tryz.f25.results.toList (List.range 0) κ) 10000 f (placeOf Tryz.f25 3) (letter_Base_0.s3 x0 x1) = letter_Base_0.L3 c1 c2 c3 c4 c5 c6 c7 c8 c9 (fun r0 r1 => κ [.tup [.str r0, .bool r1]]) f x0 x1) ∧
    (∀ (x0 : ByteArray) (x1 : Bool) (x2 : Bool) (x3 : Bool) (x4 : Bool) (x5 : Bool) (x6 : Bool) (x7 : Bool) (x8 : Int), goto (letter_Base_0.C R c1 c2 c3 c4 c5 c6 c7 c8 c9) (retK (letter_Base_0.C R c1 c2 c3 c4 c5 c6 c7 c8 c9) Tryz.f25.results.toList (List.range 0) κ) 10000 f (placeOf Tryz.f25 4) (letter_Base_0.s4 x0 x1 x2 x3 x4 x5 x6 x7 x8) = letter_Base_0.L4 c1 c2 c3 c4 c5 c6 c7 c8 c9 (fun r0 r1 => κ [.tup [.str r0, .bool r1]]) f x0 x1 x2 x3 x4 x5 x6 x7 x8)
  | 0 => ⟨fun _ _ => rfl, fun _ _ _ _ _ _ _ _ _ => rfl⟩
  | f + 1 => by
    obtain ⟨ih0, ih1⟩ := letter_Base_0.gM3 R c1 c2 c3 c4 c5 c6 c7 c8 c9 κ f
    refine ⟨?_, ?_⟩
    · intro x0 x1
      show start (letter_Base_0.C R c1 c2 c3 c4 c5 c6 c7 c8 c9) (goto (letter_Base_0.C R c1 c2 c3 c4 c5 c6 c7 c8 c9) (retK (letter_Base_0.C R c1 c2 c3 c4 c5 c6 c7 c8 c9) Tryz.f25.results.toList (List.range 0) κ) 10000 f) (retK (letter_Base_0.C R c1 c2 c3 c4 c5 c6 c7 c8 c9) Tryz.f25.results.toList (List.range 0) κ) 10000 (placeOf Tryz.f25 3) (letter_Base_0.s3 x0 x1) = _
      rw [letter_Base_0.c3]
      simp only [ih0, ih1]
      rfl
    · intro x0 x1 x2 x3 x4 x5 x6 x7 x8
      show start (letter_Base_0.C R c1 c2 c3 c4 c5 c6 c7 c8 c9) (goto (letter_Base_0.C R c1 c2 c3 c4 c5 c6 c7 c8 c9) (retK (letter_Base_0.C R c1 c2 c3 c4 c5 c6 c7 c8 c9) Tryz.f25.results.toList (List.range 0) κ) 10000 f) (retK (letter_Base_0.C R c1 c2 c3 c4 c5 c6 c7 c8 c9) Tryz.f25.results.toList (List.range 0) κ) 10000 (placeOf Tryz.f25 4) (letter_Base_0.s4 x0 x1 x2 x3 x4 x5 x6 x7 x8) = _
      rw [letter_Base_0.c4]
      simp only [ih0, ih1]
      rfl
theorem letter_Base_0.g3 (R : Type) (c1 : letter_Words_0.F R) (c2 : letter_one_0.F R) (c3 : letter_rules_0.F R) (c4 : letter_rules_6_0.F R) (c5 : letter_rules_5_0.F R) (c6 : letter_rules_4_0.F R) (c7 : letter_rules_3_0.F R) (c8 : letter_rules_2_0.F R) (c9 : letter_rules_1_0.F R) (κ : List SV → Option R) (f : Nat) (x0 : ByteArray) (x1 : Bool) : goto (letter_Base_0.C R c1 c2 c3 c4 c5 c6 c7 c8 c9) (retK (letter_Base_0.C R c1 c2 c3 c4 c5 c6 c7 c8 c9) Tryz.f25.results.toList (List.range 0) κ) 10000 f (placeOf Tryz.f25 3) (letter_Base_0.s3 x0 x1) = letter_Base_0.L3 c1 c2 c3 c4 c5 c6 c7 c8 c9 (fun r0 r1 => κ [.tup [.str r0, .bool r1]]) f x0 x1 := (letter_Base_0.gM3 R c1 c2 c3 c4 c5 c6 c7 c8 c9 κ f).1 x0 x1
theorem letter_Base_0.g4 (R : Type) (c1 : letter_Words_0.F R) (c2 : letter_one_0.F R) (c3 : letter_rules_0.F R) (c4 : letter_rules_6_0.F R) (c5 : letter_rules_5_0.F R) (c6 : letter_rules_4_0.F R) (c7 : letter_rules_3_0.F R) (c8 : letter_rules_2_0.F R) (c9 : letter_rules_1_0.F R) (κ : List SV → Option R) (f : Nat) (x0 : ByteArray) (x1 : Bool) (x2 : Bool) (x3 : Bool) (x4 : Bool) (x5 : Bool) (x6 : Bool) (x7 : Bool) (x8 : Int) : goto (letter_Base_0.C R c1 c2 c3 c4 c5 c6 c7 c8 c9) (retK (letter_Base_0.C R c1 c2 c3 c4 c5 c6 c7 c8 c9) Tryz.f25.results.toList (List.range 0) κ) 10000 f (placeOf Tryz.f25 4) (letter_Base_0.s4 x0 x1 x2 x3 x4 x5 x6 x7 x8) = letter_Base_0.L4 c1 c2 c3 c4 c5 c6 c7 c8 c9 (fun r0 r1 => κ [.tup [.str r0, .bool r1]]) f x0 x1 x2 x3 x4 x5 x6 x7 x8 := (letter_Base_0.gM3 R c1 c2 c3 c4 c5 c6 c7 c8 c9 κ f).2 x0 x1 x2 x3 x4 x5 x6 x7 x8
theorem letter_Base_0.run (R : Type) (κ : List SV → Option R) (a0 : ByteArray) :
    runF (letter_Base_0.C R letter_Words_0 letter_one_0 letter_rules_0 letter_rules_6_0 letter_rules_5_0 letter_rules_4_0 letter_rules_3_0 letter_rules_2_0 letter_rules_1_0) Tryz.f25 10000 fuelK [.str a0] κ = letter_Base_0 a0 (fun r0 r1 => κ [.tup [.str r0, .bool r1]]) := by
  rw [letter_Base_0.c]
  simp only [letter_Base_0.g3 R letter_Words_0 letter_one_0 letter_rules_0 letter_rules_6_0 letter_rules_5_0 letter_rules_4_0 letter_rules_3_0 letter_rules_2_0 letter_rules_1_0 κ fuelK, letter_Base_0.g4 R letter_Words_0 letter_one_0 letter_rules_0 letter_rules_6_0 letter_rules_5_0 letter_rules_4_0 letter_rules_3_0 letter_rules_2_0 letter_rules_1_0 κ fuelK]
  rfl
theorem letter_Base_0.Γ_does {R : Type} (tab : Tab) (ht : TabOk tab) (g : Nat) : Does (R := R) Tryz.prog (tabTy tyL) tab g ((letter_Base_0.C R letter_Words_0 letter_one_0 letter_rules_0 letter_rules_6_0 letter_rules_5_0 letter_rules_4_0 letter_rules_3_0 letter_rules_2_0 letter_rules_1_0).call g) := by
  refine does_of fun xs κ => ?_
  show DoesAt _ _ _ g xs κ (letter_Base_0.Γ letter_Words_0 letter_one_0 letter_rules_0 letter_rules_6_0 letter_rules_5_0 letter_rules_4_0 letter_rules_3_0 letter_rules_2_0 letter_rules_1_0 g xs κ)
  unfold letter_Base_0.Γ
  split
  · split
    · exact letter_Words_0.does tab ht _ κ
    · exact DoesAt.none
  · split
    · exact letter_one_0.does tab ht _ κ
    · exact DoesAt.none
  · split
    · exact letter_rules_0.does tab ht κ
    · exact DoesAt.none
  · split
    · exact letter_rules_1_0.does tab ht _ κ
    · exact DoesAt.none
  · split
    · exact letter_rules_2_0.does tab ht _ κ
    · exact DoesAt.none
  · split
    · exact letter_rules_3_0.does tab ht _ κ
    · exact DoesAt.none
  · split
    · exact letter_rules_4_0.does tab ht _ κ
    · exact DoesAt.none
  · split
    · exact letter_rules_5_0.does tab ht _ κ
    · exact DoesAt.none
  · split
    · exact letter_rules_6_0.does tab ht _ κ
    · exact DoesAt.none
  · exact DoesAt.none
theorem letter_Base_0.does {R : Type} (tab : Tab) (ht : TabOk tab) (a0 : ByteArray) (κ : List SV → Option R) : DoesAt Tryz.prog (tabTy tyL) tab 25 [.str a0] κ (letter_Base_0 a0 (fun r0 r1 => κ [.tup [.str r0, .bool r1]])) := by
  intro r h w vs Rt Ra bs hpre
  exact runF_sound tyOk (letter_Base_0.Γ_does tab ht) (show Tryz.prog.funcs[25]? = some Tryz.f25 by kernel_rfl) (by kernel_rfl) ((letter_Base_0.run R κ a0).trans h) hpre
def letter_Get_os.Γ {R : Type} (c1 : octet_Same_0.F R) (g : Nat) (xs : List SV) (κ : List SV → Option R) : Option R :=
  match g with
  | 46 => (match xs with
    | [.str a0, .str a1] => c1 a0 a1 (fun r0 => κ [.bool r0])
    | _ => none)
  | _ => none
def letter_Get_os.h (n : Nat) : Option (List (Nat × List (Nat × Nat))) :=
  match n with
  | 2 => some [(1, [(0, 0)]), (4, [(0, 0)]), (7, [(0, 0)]), (8, [(0, 0)]), (9, [(0, 0)])]
  | _ => none
def letter_Get_os.C (R : Type) (c1 : octet_Same_0.F R) : Cfg R := ⟨tabTy tyL, letter_Get_os.Γ c1, fun _ => false, letter_Get_os.h⟩
def letter_Get_os.s2 (x0 : ByteArray) (x1 : List AV) (x2 : Int) (x3 : Int) (x4 : Bool) (x5 : ByteArray) : St := ⟨mkS 22 [(1, .str x0), (4, .ptr 383 0), (7, .ro 42 x1 false), (8, .int .i64 x2), (9, .int .i64 x3)], [(383, .var 44 [.bool x4, .str x5])], top⟩
theorem letter_Get_os.c2 (R : Type) (c1 : octet_Same_0.F R) (J : List Item → St → Option R) (κ : List SV → Option R) (x0 : ByteArray) (x1 : List AV) (x2 : Int) (x3 : Int) (x4 : Bool) (x5 : ByteArray) :
    start (letter_Get_os.C R c1) J (retK (letter_Get_os.C R c1) Tryz.f45.results.toList (List.range 0) κ) 10000 (placeOf Tryz.f45 2) (letter_Get_os.s2 x0 x1 x2 x3 x4 x5) = letter_Get_os.t2 c1 x0 x1 x2 x3 x4 x5 (fun y0 y1 y2 y3 y4 y5 => J (placeOf Tryz.f45 2) (letter_Get_os.s2 y0 y1 y2 y3 y4 y5)) (fun r0 r1 => κ [.agg [.bool r0, .str r1]]) := by kernel_rfl
theorem letter_Get_os.c (R : Type) (c1 : octet_Same_0.F R) (κ : List SV → Option R) (k : Nat) (a0 : List AV) (a1 : ByteArray) :
    runF (letter_Get_os.C R c1) Tryz.f45 10000 k [.ro 42 a0 false, .str a1] κ = letter_Get_os.e c1 a0 a1 (fun y0 y1 y2 y3 y4 y5 => goto (letter_Get_os.C R c1) (retK (letter_Get_os.C R c1) Tryz.f45.results.toList (List.range 0) κ) 10000 k (placeOf Tryz.f45 2) (letter_Get_os.s2 y0 y1 y2 y3 y4 y5)) (fun r0 r1 => κ [.agg [.bool r0, .str r1]]) := by kernel_rfl
theorem letter_Get_os.g2 (R : Type) (c1 : octet_Same_0.F R) (κ : List SV → Option R) : ∀ (f : Nat) (x0 : ByteArray) (x1 : List AV) (x2 : Int) (x3 : Int) (x4 : Bool) (x5 : ByteArray), goto (letter_Get_os.C R c1) (retK (letter_Get_os.C R c1) Tryz.f45.results.toList (List.range 0) κ) 10000 f (placeOf Tryz.f45 2) (letter_Get_os.s2 x0 x1 x2 x3 x4 x5) = letter_Get_os.L2 c1 (fun r0 r1 => κ [.agg [.bool r0, .str r1]]) f x0 x1 x2 x3 x4 x5
  | 0, _, _, _, _, _, _ => rfl
  | f + 1, x0, x1, x2, x3, x4, x5 => by
    show start (letter_Get_os.C R c1) (goto (letter_Get_os.C R c1) (retK (letter_Get_os.C R c1) Tryz.f45.results.toList (List.range 0) κ) 10000 f) (retK (letter_Get_os.C R c1) Tryz.f45.results.toList (List.range 0) κ) 10000 (placeOf Tryz.f45 2) (letter_Get_os.s2 x0 x1 x2 x3 x4 x5) = _
    rw [letter_Get_os.c2]
    simp only [letter_Get_os.g2 R c1 κ f]
    rfl
theorem letter_Get_os.run (R : Type) (κ : List SV → Option R) (a0 : List AV) (a1 : ByteArray) :
    runF (letter_Get_os.C R octet_Same_0) Tryz.f45 10000 fuelK [.ro 42 a0 false, .str a1] κ = letter_Get_os a0 a1 (fun r0 r1 => κ [.agg [.bool r0, .str r1]]) := by
  rw [letter_Get_os.c]
  simp only [letter_Get_os.g2 R octet_Same_0 κ fuelK]
  rfl
theorem letter_Get_os.Γ_does {R : Type} (tab : Tab) (ht : TabOk tab) (g : Nat) : Does (R := R) Tryz.prog (tabTy tyL) tab g ((letter_Get_os.C R octet_Same_0).call g) := by
  refine does_of fun xs κ => ?_
  show DoesAt _ _ _ g xs κ (letter_Get_os.Γ octet_Same_0 g xs κ)
  unfold letter_Get_os.Γ
  split
  · split
    · exact octet_Same_0.does tab ht _ _ κ
    · exact DoesAt.none
  · exact DoesAt.none
theorem letter_Get_os.does {R : Type} (tab : Tab) (ht : TabOk tab) (a0 : List AV) (a1 : ByteArray) (κ : List SV → Option R) : DoesAt Tryz.prog (tabTy tyL) tab 45 [.ro 42 a0 false, .str a1] κ (letter_Get_os a0 a1 (fun r0 r1 => κ [.agg [.bool r0, .str r1]])) := by
  intro r h w vs Rt Ra bs hpre
  exact runF_sound tyOk (letter_Get_os.Γ_does tab ht) (show Tryz.prog.funcs[45]? = some Tryz.f45 by kernel_rfl) (by kernel_rfl) ((letter_Get_os.run R κ a0 a1).trans h) hpre
def letter_Pick_sbn.Γ {R : Type} (c1 : letter_rows_0.F R) (c2 : strings_Builder_WriteString_vxfes.F R) (c3 : strings_Builder_String_vxfe.F R) (c4 : strings_HasSuffix_0.F R) (g : Nat) (xs : List SV) (κ : List SV → Option R) : Option R :=
  match g with
  | 38 => (match xs with
    | [.str a0] => c1 a0 (fun r0 => κ [.fr 65 r0 true])
    | _ => none)
  | 47 => (match xs with
    | [.vp 74 [.nos, .fr 5 a0 true], .str a1] => c2 a0 a1 (fun r0 r1 => κ [.tup [.int .i64 r0, .nili], .vp 74 [.nos, .fr 5 r1 true]])
    | _ => none)
  | 48 => (match xs with
    | [.str a0, .str a1] => c4 a0 a1 (fun r0 => κ [.bool r0])
    | _ => none)
  | 49 => (match xs with
    | [.vp 74 [.nos, .fr 5 a0 true]] => c3 a0 (fun r0 => κ [.str r0, .vp 74 [.nos, .no]])
    | _ => none)
  | _ => none
def letter_Pick_sbn.h (n : Nat) : Option (List (Nat × List (Nat × Nat))) :=
  match n with
  | 3 => some [(1, [(0, 0)]), (2, [(0, 0)]), (7, [(1, 7)]), (14, [(0, 0)]), (15, [(0, 0)]), (16, [(0, 0)])]
  | 7 => some [(1, [(0, 0)]), (2, [(0, 0)]), (7, [(0, 0)]), (9, [(0, 0)]), (10, [(0, 0)]), (14, [(0, 0)]), (15, [(0, 0)]), (16, [(0, 0)]), (20, [(0, 0)]), (21, [(0, 0)]), (22, [(0, 0)])]
  | _ => none
def letter_Pick_sbn.C (R : Type) (c1 : letter_rows_0.F R) (c2 : strings_Builder_WriteString_vxfes.F R) (c3 : strings_Builder_String_vxfe.F R) (c4 : strings_HasSuffix_0.F R) : Cfg R := ⟨tabTy tyL, letter_Pick_sbn.Γ c1 c2 c3 c4, fun _ => false, letter_Pick_sbn.h⟩
def letter_Pick_sbn.s3 (x0 : Bool) (x1 : Int) (x2 : Int) (x3 : List AV) (x4 : List AV) : St := ⟨mkS 52 [(1, .bool x0), (2, .nil), (7, .ptr 575 0), (14, .own 960), (15, .int .i64 x1), (16, .int .i64 x2)], [(575, .var 74 [.nos, .own 513]), (513, .row 5 x3 true), (960, .row 65 x4 true)], top⟩
def letter_Pick_sbn.s7 (x0 : Bool) (x1 : Bool) (x2 : Int) (x3 : Int) (x4 : Int) (x5 : Int) (x6 : List AV) (x7 : ByteArray) (x8 : ByteArray) (x9 : Bool) (x10 : Bool) (x11 : List AV) : St := ⟨mkS 52 [(1, .bool x0), (2, .nil), (7, .ptr 575 0), (9, .ptr 703 0), (10, .bool x1), (14, .own 960), (15, .int .i64 x2), (16, .int .i64 x3), (20, .nil), (21, .int .i64 x4), (22, .int .i64 x5)], [(575, .var 74 [.nos, .own 513]), (513, .row 5 x6 true), (703, .var 65 [.str x7, .str x8, .bool x9, .bool x10]), (960, .row 65 x11 true)], top⟩
theorem letter_Pick_sbn.c3 (R : Type) (c1 : letter_rows_0.F R) (c2 : strings_Builder_WriteString_vxfes.F R) (c3 : strings_Builder_String_vxfe.F R) (c4 : strings_HasSuffix_0.F R) (J : List Item → St → Option R) (κ : List SV → Option R) (x0 : Bool) (x1 : Int) (x2 : Int) (x3 : List AV) (x4 : List AV) :
    start (letter_Pick_sbn.C R c1 c2 c3 c4) J (retK (letter_Pick_sbn.C R c1 c2 c3 c4) Tryz.f15.results.toList (List.range 0) κ) 10000 (placeOf Tryz.f15 3) (letter_Pick_sbn.s3 x0 x1 x2 x3 x4) = letter_Pick_sbn.t3 c1 c2 c3 c4 x0 x1 x2 x3 x4 (fun y0 y1 y2 y3 y4 => J (placeOf Tryz.f15 3) (letter_Pick_sbn.s3 y0 y1 y2 y3 y4)) (fun y0 y1 y2 y3 y4 y5 y6 y7 y8 y9 y10 y11 => J (placeOf Tryz.f15 7) (letter_Pick_sbn.s7 y0 y1 y2 y3 y4 y5 y6 y7 y8 y9 y10 y11)) (fun r0 => κ [.str r0]) := by kernel_rfl
theorem letter_Pick_sbn.c7 (R : Type) (c1 : letter_rows_0.F R) (c2 : strings_Builder_WriteString_vxfes.F R) (c3 : strings_Builder_String_vxfe.F R) (c4 : strings_HasSuffix_0.F R) (J : List Item → St → Option R) (κ : List SV → Option R) (x0 : Bool) (x1 : Bool) (x2 : Int) (x3 : Int) (x4 : Int) (x5 : Int) (x6 : List AV) (x7 : ByteArray) (x8 : ByteArray) (x9 : Bool) (x10 : Bool) (x11 : List AV) :
    start (letter_Pick_sbn.C R c1 c2 c3 c4) J (retK (letter_Pick_sbn.C R c1 c2 c3 c4) Tryz.f15.results.toList (List.range 0) κ) 10000 (placeOf Tryz.f15 7) (letter_Pick_sbn.s7 x0 x1 x2 x3 x4 x5 x6 x7 x8 x9 x10 x11) = letter_Pick_sbn.t7 c1 c2 c3 c4 x0 x1 x2 x3 x4 x5 x6 x7 x8 x9 x10 x11 (fun y0 y1 y2 y3 y4 => J (placeOf Tryz.f15 3) (letter_Pick_sbn.s3 y0 y1 y2 y3 y4)) (fun y0 y1 y2 y3 y4 y5 y6 y7 y8 y9 y10 y11 => J (placeOf Tryz.f15 7) (letter_Pick_sbn.s7 y0 y1 y2 y3 y4 y5 y6 y7 y8 y9 y10 y11)) (fun r0 => κ [.str r0]) := by kernel_rfl
theorem letter_Pick_sbn.c (R : Type) (c1 : letter_rows_0.F R) (c2 : strings_Builder_WriteString_vxfes.F R) (c3 : strings_Builder_String_vxfe.F R) (c4 : strings_HasSuffix_0.F R) (κ : List SV → Option R) (k : Nat) (a0 : ByteArray) (a1 : Bool) :
    runF (letter_Pick_sbn.C R c1 c2 c3 c4) Tryz.f15 10000 k [.str a0, .bool a1, .nil] κ = letter_Pick_sbn.e c1 c2 c3 c4 a0 a1 (fun y0 y1 y2 y3 y4 => goto (letter_Pick_sbn.C R c1 c2 c3 c4) (retK (letter_Pick_sbn.C R c1 c2 c3 c4) Tryz.f15.results.toList (List.range 0) κ) 10000 k (placeOf Tryz.f15 3) (letter_Pick_sbn.s3 y0 y1 y2 y3 y4)) (fun y0 y1 y2 y3 y4 y5 y6 y7 y8 y9 y10 y11 => goto (letter_Pick_sbn.C R c1 c2 c3 c4) (retK (letter_Pick_sbn.C R c1 c2 c3 c4) Tryz.f15.results.toList (List.range 0) κ) 10000 k (placeOf Tryz.f15 7) (letter_Pick_sbn.s7 y0 y1 y2 y3 y4 y5 y6 y7 y8 y9 y10 y11)) (fun r0 => κ [.str r0]) := by kernel_rfl
theorem letter_Pick_sbn.gM3 (R : Type) (c1 : letter_rows_0.F R) (c2 : strings_Builder_WriteString_vxfes.F R) (c3 : strings_Builder_String_vxfe.F R) (c4 : strings_HasSuffix_0.F R) (κ : List SV → Option R) : ∀ (f : Nat), (∀ (x0 : Bool) (x1 : Int) (x2 : Int) (x3 : List AV) (x4 : List AV), goto (letter_Pick_sbn.C R c1 c2 c3 c4) (retK (letter_Pick_sbn.C R c1 c2 c3 c4) Tryz.f15.results.toList (List.range 0) κ) 10000 f (placeOf Tryz.f15 3) (letter_Pick_sbn.s3 x0 x1 x2 x3 x4) = letter_Pick_sbn.L3 c1 c2 c3 c4 (fun r0 => κ [.str r0]) f x0 x1 x2 x3 x4) ∧
    (∀ (x0 : Bool) (x1 : Bool) (x2 : Int) (x3 : Int) (x4 : Int) (x5 : Int) (x6 : List AV) (x7 : ByteArray) (x8 : ByteArray) (x9 : Bool) (x10 : Bool) (x11 : List AV), goto (letter_Pick_sbn.C R c1 c2 c3 c4) (retK (letter_Pick_sbn.C R c1 c2 c3 c4) Tryz.f15.results.toList (List.range 0) κ) 10000 f (placeOf Tryz.f15 7) (letter_Pick_sbn.s7 x0 x1 x2 x3 x4 x5 x6 x7 x8 x9 x10 x11) = letter_Pick_sbn.L7 c1 c2 c3 c4 (fun r0 => κ [.str r0]) f x0 x1 x2 x3 x4 x5 x6 x7 x8 x9 x10 x11)
  | 0 => ⟨fun _ _ _ _ _ => rfl, fun _ _ _ _ _ _ _ _ _ _ _ _ => rfl⟩
  | f + 1 => by
    obtain ⟨ih0, ih1⟩ := letter_Pick_sbn.gM3 R c1 c2 c3 c4 κ f
    refine ⟨?_, ?_⟩
    · intro x0 x1 x2 x3 x4
      show start (letter_Pick_sbn.C R c1 c2 c3 c4) (goto (letter_Pick_sbn.C R c1 c2 c3 c4) (retK (letter_Pick_sbn.C R c1 c2 c3 c4) Tryz.f15.results.toList (List.range 0) κ) 10000 f) (retK (letter_Pick_sbn.C R c1 c2 c3 c4) Tryz.f15.results.toList (List.range 0) κ) 10000 (placeOf Tryz.f15 3) (letter_Pick_sbn.s3 x0 x1 x2 x3 x4) = _
      rw [letter_Pick_sbn.c3]
      simp only [ih0, ih1]
      rfl
    · intro x0 x1 x2 x3 x4 x5 x6 x7 x8 x9 x10 x11
      show start (letter_Pick_sbn.C R c1 c2 c3 c4) (goto (letter_Pick_sbn.C R c1 c2 c3 c4) (retK (letter_Pick_sbn.C R c1 c2 c3 c4) Tryz.f15.results.toList (List.range 0) κ) 10000 f) (retK (letter_Pick_sbn.C R c1 c2 c3 c4) Tryz.f15.results.toList (List.range 0) κ) 10000 (placeOf Tryz.f15 7) (letter_Pick_sbn.s7 x0 x1 x2 x3 x4 x5 x6 x7 x8 x9 x10 x11) = _
      rw [letter_Pick_sbn.c7]
      simp only [ih0, ih1]
      rfl
theorem letter_Pick_sbn.g3 (R : Type) (c1 : letter_rows_0.F R) (c2 : strings_Builder_WriteString_vxfes.F R) (c3 : strings_Builder_String_vxfe.F R) (c4 : strings_HasSuffix_0.F R) (κ : List SV → Option R) (f : Nat) (x0 : Bool) (x1 : Int) (x2 : Int) (x3 : List AV) (x4 : List AV) : goto (letter_Pick_sbn.C R c1 c2 c3 c4) (retK (letter_Pick_sbn.C R c1 c2 c3 c4) Tryz.f15.results.toList (List.range 0) κ) 10000 f (placeOf Tryz.f15 3) (letter_Pick_sbn.s3 x0 x1 x2 x3 x4) = letter_Pick_sbn.L3 c1 c2 c3 c4 (fun r0 => κ [.str r0]) f x0 x1 x2 x3 x4 := (letter_Pick_sbn.gM3 R c1 c2 c3 c4 κ f).1 x0 x1 x2 x3 x4
theorem letter_Pick_sbn.g7 (R : Type) (c1 : letter_rows_0.F R) (c2 : strings_Builder_WriteString_vxfes.F R) (c3 : strings_Builder_String_vxfe.F R) (c4 : strings_HasSuffix_0.F R) (κ : List SV → Option R) (f : Nat) (x0 : Bool) (x1 : Bool) (x2 : Int) (x3 : Int) (x4 : Int) (x5 : Int) (x6 : List AV) (x7 : ByteArray) (x8 : ByteArray) (x9 : Bool) (x10 : Bool) (x11 : List AV) : goto (letter_Pick_sbn.C R c1 c2 c3 c4) (retK (letter_Pick_sbn.C R c1 c2 c3 c4) Tryz.f15.results.toList (List.range 0) κ) 10000 f (placeOf Tryz.f15 7) (letter_Pick_sbn.s7 x0 x1 x2 x3 x4 x5 x6 x7 x8 x9 x10 x11) = letter_Pick_sbn.L7 c1 c2 c3 c4 (fun r0 => κ [.str r0]) f x0 x1 x2 x3 x4 x5 x6 x7 x8 x9 x10 x11 := (letter_Pick_sbn.gM3 R c1 c2 c3 c4 κ f).2 x0 x1 x2 x3 x4 x5 x6 x7 x8 x9 x10 x11
theorem letter_Pick_sbn.run (R : Type) (κ : List SV → Option R) (a0 : ByteArray) (a1 : Bool) :
    runF (letter_Pick_sbn.C R letter_rows_0 strings_Builder_WriteString_vxfes strings_Builder_String_vxfe strings_HasSuffix_0) Tryz.f15 10000 fuelK [.str a0, .bool a1, .nil] κ = letter_Pick_sbn a0 a1 (fun r0 => κ [.str r0]) := by
  rw [letter_Pick_sbn.c]
  simp only [letter_Pick_sbn.g3 R letter_rows_0 strings_Builder_WriteString_vxfes strings_Builder_String_vxfe strings_HasSuffix_0 κ fuelK, letter_Pick_sbn.g7 R letter_rows_0 strings_Builder_WriteString_vxfes strings_Builder_String_vxfe strings_HasSuffix_0 κ fuelK]
  rfl
theorem letter_Pick_sbn.Γ_does {R : Type} (tab : Tab) (ht : TabOk tab) (g : Nat) : Does (R := R) Tryz.prog (tabTy tyL) tab g ((letter_Pick_sbn.C R letter_rows_0 strings_Builder_WriteString_vxfes strings_Builder_String_vxfe strings_HasSuffix_0).call g) := by
  refine does_of fun xs κ => ?_
  show DoesAt _ _ _ g xs κ (letter_Pick_sbn.Γ letter_rows_0 strings_Builder_WriteString_vxfes strings_Builder_String_vxfe strings_HasSuffix_0 g xs κ)
  unfold letter_Pick_sbn.Γ
  split
  · split
    · exact letter_rows_0.does tab ht _ κ
    · exact DoesAt.none
  · split
    · exact strings_Builder_WriteString_vxfes.does tab ht _ _ κ
    · exact DoesAt.none
  · split
    · exact strings_HasSuffix_0.does tab ht _ _ κ
    · exact DoesAt.none
  · split
    · exact strings_Builder_String_vxfe.does tab ht _ κ
    · exact DoesAt.none
  · exact DoesAt.none
theorem letter_Pick_sbn.does {R : Type} (tab : Tab) (ht : TabOk tab) (a0 : ByteArray) (a1 : Bool) (κ : List SV → Option R) : DoesAt Tryz.prog (tabTy tyL) tab 15 [.str a0, .bool a1, .nil] κ (letter_Pick_sbn a0 a1 (fun r0 => κ [.str r0])) := by
  intro r h w vs Rt Ra bs hpre
  exact runF_sound tyOk (letter_Pick_sbn.Γ_does tab ht) (show Tryz.prog.funcs[15]? = some Tryz.f15 by kernel_rfl) (by kernel_rfl) ((letter_Pick_sbn.run R κ a0 a1).trans h) hpre
def postbaglaw5_known_0.Γ {R : Type} (c1 : letter_Split_0.F R) (c2 : letter_Fields_0.F R) (c3 : letter_Addresses_0.F R) (c4 : letter_Ids_0.F R) (c5 : letter_Base_0.F R) (c6 : letter_Get_os.F R) (c7 : letter_Pick_sbn.F R) (g : Nat) (xs : List SV) (κ : List SV → Option R) : Option R :=
  match g with
  | 11 => (match xs with
    | [.str a0] => c2 a0 (fun r0 => κ [.fr 42 r0 true])
    | _ => none)
  | 15 => (match xs with
    | [.str a0, .bool a1, .nil] => c7 a0 a1 (fun r0 => κ [.str r0])
    | _ => none)
  | 20 => (match xs with
    | [.str a0] => c3 a0 (fun r0 => κ [.fr 60 r0 true])
    | _ => none)
  | 23 => (match xs with
    | [.str a0] => c4 a0 (fun r0 => κ [.fr 9 r0 true])
    | _ => none)
  | 25 => (match xs with
    | [.str a0] => c5 a0 (fun r0 r1 => κ [.tup [.str r0, .bool r1]])
    | _ => none)
  | 44 => (match xs with
    | [.str a0] => c1 a0 (fun r0 r1 => κ [.tup [.str r0, .str r1]])
    | _ => none)
  | 45 => (match xs with
    | [.ro 42 a0 false, .str a1] => c6 a0 a1 (fun r0 r1 => κ [.agg [.bool r0, .str r1]])
    | _ => none)
  | _ => none
def postbaglaw5_known_0.h (n : Nat) : Option (List (Nat × List (Nat × Nat))) :=
  match n with
  | _ => none
def postbaglaw5_known_0.C (R : Type) (c1 : letter_Split_0.F R) (c2 : letter_Fields_0.F R) (c3 : letter_Addresses_0.F R) (c4 : letter_Ids_0.F R) (c5 : letter_Base_0.F R) (c6 : letter_Get_os.F R) (c7 : letter_Pick_sbn.F R) : Cfg R := ⟨tabTy tyL, postbaglaw5_known_0.Γ c1 c2 c3 c4 c5 c6 c7, fun _ => false, postbaglaw5_known_0.h⟩
theorem postbaglaw5_known_0.c (R : Type) (c1 : letter_Split_0.F R) (c2 : letter_Fields_0.F R) (c3 : letter_Addresses_0.F R) (c4 : letter_Ids_0.F R) (c5 : letter_Base_0.F R) (c6 : letter_Get_os.F R) (c7 : letter_Pick_sbn.F R) (κ : List SV → Option R) (k : Nat) :
    runF (postbaglaw5_known_0.C R c1 c2 c3 c4 c5 c6 c7) Tryz.f13 10000 k [] κ = postbaglaw5_known_0.e c1 c2 c3 c4 c5 c6 c7 (fun r0 => κ [.bool r0]) := by kernel_rfl
theorem postbaglaw5_known_0.run (R : Type) (κ : List SV → Option R) :
    runF (postbaglaw5_known_0.C R letter_Split_0 letter_Fields_0 letter_Addresses_0 letter_Ids_0 letter_Base_0 letter_Get_os letter_Pick_sbn) Tryz.f13 10000 fuelK [] κ = postbaglaw5_known_0 (fun r0 => κ [.bool r0]) := by
  rw [postbaglaw5_known_0.c]
  rfl
theorem postbaglaw5_known_0.Γ_does {R : Type} (tab : Tab) (ht : TabOk tab) (g : Nat) : Does (R := R) Tryz.prog (tabTy tyL) tab g ((postbaglaw5_known_0.C R letter_Split_0 letter_Fields_0 letter_Addresses_0 letter_Ids_0 letter_Base_0 letter_Get_os letter_Pick_sbn).call g) := by
  refine does_of fun xs κ => ?_
  show DoesAt _ _ _ g xs κ (postbaglaw5_known_0.Γ letter_Split_0 letter_Fields_0 letter_Addresses_0 letter_Ids_0 letter_Base_0 letter_Get_os letter_Pick_sbn g xs κ)
  unfold postbaglaw5_known_0.Γ
  split
  · split
    · exact letter_Fields_0.does tab ht _ κ
    · exact DoesAt.none
  · split
    · exact letter_Pick_sbn.does tab ht _ _ κ
    · exact DoesAt.none
  · split
    · exact letter_Addresses_0.does tab ht _ κ
    · exact DoesAt.none
  · split
    · exact letter_Ids_0.does tab ht _ κ
    · exact DoesAt.none
  · split
    · exact letter_Base_0.does tab ht _ κ
    · exact DoesAt.none
  · split
    · exact letter_Split_0.does tab ht _ κ
    · exact DoesAt.none
  · split
    · exact letter_Get_os.does tab ht _ _ κ
    · exact DoesAt.none
  · exact DoesAt.none
theorem postbaglaw5_known_0.does {R : Type} (tab : Tab) (ht : TabOk tab) (κ : List SV → Option R) : DoesAt Tryz.prog (tabTy tyL) tab 13 [] κ (postbaglaw5_known_0 (fun r0 => κ [.bool r0])) := by
  intro r h w vs Rt Ra bs hpre
  exact runF_sound tyOk (postbaglaw5_known_0.Γ_does tab ht) (show Tryz.prog.funcs[13]? = some Tryz.f13 by kernel_rfl) (by kernel_rfl) ((postbaglaw5_known_0.run R κ).trans h) hpre
def letter_Pick_sbo.Γ {R : Type} (c1 : letter_rows_0.F R) (c2 : strings_Builder_WriteString_vxfes.F R) (c3 : strings_Builder_String_vxfe.F R) (c4 : octet_Same_0.F R) (c5 : strings_HasSuffix_0.F R) (g : Nat) (xs : List SV) (κ : List SV → Option R) : Option R :=
  match g with
  | 38 => (match xs with
    | [.str a0] => c1 a0 (fun r0 => κ [.fr 65 r0 true])
    | _ => none)
  | 46 => (match xs with
    | [.str a0, .str a1] => c4 a0 a1 (fun r0 => κ [.bool r0])
    | _ => none)
  | 47 => (match xs with
    | [.vp 74 [.nos, .fr 5 a0 true], .str a1] => c2 a0 a1 (fun r0 r1 => κ [.tup [.int .i64 r0, .nili], .vp 74 [.nos, .fr 5 r1 true]])
    | _ => none)
  | 48 => (match xs with
    | [.str a0, .str a1] => c5 a0 a1 (fun r0 => κ [.bool r0])
    | _ => none)
  | 49 => (match xs with
    | [.vp 74 [.nos, .fr 5 a0 true]] => c3 a0 (fun r0 => κ [.str r0, .vp 74 [.nos, .no]])
    | _ => none)
  | _ => none
def letter_Pick_sbo.h (n : Nat) : Option (List (Nat × List (Nat × Nat))) :=
  match n with
  | 3 => some [(1, [(0, 0)]), (2, [(0, 0)]), (7, [(1, 7)]), (14, [(0, 0)]), (15, [(0, 0)]), (16, [(0, 0)])]
  | 7 => some [(1, [(0, 0)]), (2, [(0, 0)]), (7, [(0, 0)]), (9, [(0, 0)]), (10, [(0, 0)]), (14, [(0, 0)]), (15, [(0, 0)]), (16, [(0, 0)]), (20, [(0, 0)]), (21, [(0, 0)]), (22, [(0, 0)])]
  | _ => none
def letter_Pick_sbo.C (R : Type) (c1 : letter_rows_0.F R) (c2 : strings_Builder_WriteString_vxfes.F R) (c3 : strings_Builder_String_vxfe.F R) (c4 : octet_Same_0.F R) (c5 : strings_HasSuffix_0.F R) : Cfg R := ⟨tabTy tyL, letter_Pick_sbo.Γ c1 c2 c3 c4 c5, fun _ => false, letter_Pick_sbo.h⟩
def letter_Pick_sbo.s3 (x0 : Bool) (x1 : List AV) (x2 : Int) (x3 : Int) (x4 : List AV) (x5 : List AV) : St := ⟨mkS 52 [(1, .bool x0), (2, .ro 9 x1 false), (7, .ptr 575 0), (14, .own 960), (15, .int .i64 x2), (16, .int .i64 x3)], [(575, .var 74 [.nos, .own 513]), (513, .row 5 x4 true), (960, .row 65 x5 true)], top⟩
def letter_Pick_sbo.s7 (x0 : Bool) (x1 : List AV) (x2 : Bool) (x3 : Int) (x4 : Int) (x5 : List AV) (x6 : Int) (x7 : Int) (x8 : List AV) (x9 : ByteArray) (x10 : ByteArray) (x11 : Bool) (x12 : Bool) (x13 : List AV) : St := ⟨mkS 52 [(1, .bool x0), (2, .ro 9 x1 false), (7, .ptr 575 0), (9, .ptr 703 0), (10, .bool x2), (14, .own 960), (15, .int .i64 x3), (16, .int .i64 x4), (20, .ro 9 x5 false), (21, .int .i64 x6), (22, .int .i64 x7)], [(575, .var 74 [.nos, .own 513]), (513, .row 5 x8 true), (703, .var 65 [.str x9, .str x10, .bool x11, .bool x12]), (960, .row 65 x13 true)], top⟩
theorem letter_Pick_sbo.c3 (R : Type) (c1 : letter_rows_0.F R) (c2 : strings_Builder_WriteString_vxfes.F R) (c3 : strings_Builder_String_vxfe.F R) (c4 : octet_Same_0.F R) (c5 : strings_HasSuffix_0.F R) (J : List Item → St → Option R) (κ : List SV → Option R) (x0 : Bool) (x1 : List AV) (x2 : Int) (x3 : Int) (x4 : List AV) (x5 : List AV) :
    start (letter_Pick_sbo.C R c1 c2 c3 c4 c5) J (retK (letter_Pick_sbo.C R c1 c2 c3 c4 c5) Tryz.f15.results.toList (List.range 0) κ) 10000 (placeOf Tryz.f15 3) (letter_Pick_sbo.s3 x0 x1 x2 x3 x4 x5) = letter_Pick_sbo.t3 c1 c2 c3 c4 c5 x0 x1 x2 x3 x4 x5 (fun y0 y1 y2 y3 y4 y5 => J (placeOf Tryz.f15 3) (letter_Pick_sbo.s3 y0 y1 y2 y3 y4 y5)) (fun y0 y1 y2 y3 y4 y5 y6 y7 y8 y9 y10 y11 y12 y13 => J (placeOf Tryz.f15 7) (letter_Pick_sbo.s7 y0 y1 y2 y3 y4 y5 y6 y7 y8 y9 y10 y11 y12 y13)) (fun r0 => κ [.str r0]) := by kernel_rfl
theorem letter_Pick_sbo.c7 (R : Type) (c1 : letter_rows_0.F R) (c2 : strings_Builder_WriteString_vxfes.F R) (c3 : strings_Builder_String_vxfe.F R) (c4 : octet_Same_0.F R) (c5 : strings_HasSuffix_0.F R) (J : List Item → St → Option R) (κ : List SV → Option R) (x0 : Bool) (x1 : List AV) (x2 : Bool) (x3 : Int) (x4 : Int) (x5 : List AV) (x6 : Int) (x7 : Int) (x8 : List AV) (x9 : ByteArray) (x10 : ByteArray) (x11 : Bool) (x12 : Bool) (x13 : List AV) :
    start (letter_Pick_sbo.C R c1 c2 c3 c4 c5) J (retK (letter_Pick_sbo.C R c1 c2 c3 c4 c5) Tryz.f15.results.toList (List.range 0) κ) 10000 (placeOf Tryz.f15 7) (letter_Pick_sbo.s7 x0 x1 x2 x3 x4 x5 x6 x7 x8 x9 x10 x11 x12 x13) = letter_Pick_sbo.t7 c1 c2 c3 c4 c5 x0 x1 x2 x3 x4 x5 x6 x7 x8 x9 x10 x11 x12 x13 (fun y0 y1 y2 y3 y4 y5 => J (placeOf Tryz.f15 3) (letter_Pick_sbo.s3 y0 y1 y2 y3 y4 y5)) (fun y0 y1 y2 y3 y4 y5 y6 y7 y8 y9 y10 y11 y12 y13 => J (placeOf Tryz.f15 7) (letter_Pick_sbo.s7 y0 y1 y2 y3 y4 y5 y6 y7 y8 y9 y10 y11 y12 y13)) (fun r0 => κ [.str r0]) := by kernel_rfl
theorem letter_Pick_sbo.c (R : Type) (c1 : letter_rows_0.F R) (c2 : strings_Builder_WriteString_vxfes.F R) (c3 : strings_Builder_String_vxfe.F R) (c4 : octet_Same_0.F R) (c5 : strings_HasSuffix_0.F R) (κ : List SV → Option R) (k : Nat) (a0 : ByteArray) (a1 : Bool) (a2 : List AV) :
    runF (letter_Pick_sbo.C R c1 c2 c3 c4 c5) Tryz.f15 10000 k [.str a0, .bool a1, .ro 9 a2 false] κ = letter_Pick_sbo.e c1 c2 c3 c4 c5 a0 a1 a2 (fun y0 y1 y2 y3 y4 y5 => goto (letter_Pick_sbo.C R c1 c2 c3 c4 c5) (retK (letter_Pick_sbo.C R c1 c2 c3 c4 c5) Tryz.f15.results.toList (List.range 0) κ) 10000 k (placeOf Tryz.f15 3) (letter_Pick_sbo.s3 y0 y1 y2 y3 y4 y5)) (fun y0 y1 y2 y3 y4 y5 y6 y7 y8 y9 y10 y11 y12 y13 => goto (letter_Pick_sbo.C R c1 c2 c3 c4 c5) (retK (letter_Pick_sbo.C R c1 c2 c3 c4 c5) Tryz.f15.results.toList (List.range 0) κ) 10000 k (placeOf Tryz.f15 7) (letter_Pick_sbo.s7 y0 y1 y2 y3 y4 y5 y6 y7 y8 y9 y10 y11 y12 y13)) (fun r0 => κ [.str r0]) := by kernel_rfl
theorem letter_Pick_sbo.gM3 (R : Type) (c1 : letter_rows_0.F R) (c2 : strings_Builder_WriteString_vxfes.F R) (c3 : strings_Builder_String_vxfe.F R) (c4 : octet_Same_0.F R) (c5 : strings_HasSuffix_0.F R) (κ : List SV → Option R) : ∀ (f : Nat), (∀ (x0 : Bool) (x1 : List AV) (x2 : Int) (x3 : Int) (x4 : List AV) (x5 : List AV), goto (letter_Pick_sbo.C R c1 c2 c3 c4 c5) (retK (letter_Pick_sbo.C R c1 c2 c3 c4 c5) Tryz.f15.results.toList (List.range 0) κ) 10000 f (placeOf Tryz.f15 3) (letter_Pick_sbo.s3 x0 x1 x2 x3 x4 x5) = letter_Pick_sbo.L3 c1 c2 c3 c4 c5 (fun r0 => κ [.str r0]) f x0 x1 x2 x3 x4 x5) ∧
    (∀ (x0 : Bool) (x1 : List AV) (x2 : Bool) (x3 : Int) (x4 : Int) (x5 : List AV) (x6 : Int) (x7 : Int) (x8 : List AV) (x9 : ByteArray) (x10 : ByteArray) (x11 : Bool) (x12 : Bool) (x13 : List AV), goto (letter_Pick_sbo.C R c1 c2 c3 c4 c5) (retK (letter_Pick_sbo.C R c1 c2 c3 c4 c5) Tryz.f15.results.toList (List.range 0) κ) 10000 f (placeOf Tryz.f15 7) (letter_Pick_sbo.s7 x0 x1 x2 x3 x4 x5 x6 x7 x8 x9 x10 x11 x12 x13) = letter_Pick_sbo.L7 c1 c2 c3 c4 c5 (fun r0 => κ [.str r0]) f x0 x1 x2 x3 x4 x5 x6 x7 x8 x9 x10 x11 x12 x13)
  | 0 => ⟨fun _ _ _ _ _ _ => rfl, fun _ _ _ _ _ _ _ _ _ _ _ _ _ _ => rfl⟩
  | f + 1 => by
    obtain ⟨ih0, ih1⟩ := letter_Pick_sbo.gM3 R c1 c2 c3 c4 c5 κ f
    refine ⟨?_, ?_⟩
    · intro x0 x1 x2 x3 x4 x5
      show start (letter_Pick_sbo.C R c1 c2 c3 c4 c5) (goto (letter_Pick_sbo.C R c1 c2 c3 c4 c5) (retK (letter_Pick_sbo.C R c1 c2 c3 c4 c5) Tryz.f15.results.toList (List.range 0) κ) 10000 f) (retK (letter_Pick_sbo.C R c1 c2 c3 c4 c5) Tryz.f15.results.toList (List.range 0) κ) 10000 (placeOf Tryz.f15 3) (letter_Pick_sbo.s3 x0 x1 x2 x3 x4 x5) = _
      rw [letter_Pick_sbo.c3]
      simp only [ih0, ih1]
      rfl
    · intro x0 x1 x2 x3 x4 x5 x6 x7 x8 x9 x10 x11 x12 x13
      show start (letter_Pick_sbo.C R c1 c2 c3 c4 c5) (goto (letter_Pick_sbo.C R c1 c2 c3 c4 c5) (retK (letter_Pick_sbo.C R c1 c2 c3 c4 c5) Tryz.f15.results.toList (List.range 0) κ) 10000 f) (retK (letter_Pick_sbo.C R c1 c2 c3 c4 c5) Tryz.f15.results.toList (List.range 0) κ) 10000 (placeOf Tryz.f15 7) (letter_Pick_sbo.s7 x0 x1 x2 x3 x4 x5 x6 x7 x8 x9 x10 x11 x12 x13) = _
      rw [letter_Pick_sbo.c7]
      simp only [ih0, ih1]
      rfl
theorem letter_Pick_sbo.g3 (R : Type) (c1 : letter_rows_0.F R) (c2 : strings_Builder_WriteString_vxfes.F R) (c3 : strings_Builder_String_vxfe.F R) (c4 : octet_Same_0.F R) (c5 : strings_HasSuffix_0.F R) (κ : List SV → Option R) (f : Nat) (x0 : Bool) (x1 : List AV) (x2 : Int) (x3 : Int) (x4 : List AV) (x5 : List AV) : goto (letter_Pick_sbo.C R c1 c2 c3 c4 c5) (retK (letter_Pick_sbo.C R c1 c2 c3 c4 c5) Tryz.f15.results.toList (List.range 0) κ) 10000 f (placeOf Tryz.f15 3) (letter_Pick_sbo.s3 x0 x1 x2 x3 x4 x5) = letter_Pick_sbo.L3 c1 c2 c3 c4 c5 (fun r0 => κ [.str r0]) f x0 x1 x2 x3 x4 x5 := (letter_Pick_sbo.gM3 R c1 c2 c3 c4 c5 κ f).1 x0 x1 x2 x3 x4 x5
theorem letter_Pick_sbo.g7 (R : Type) (c1 : letter_rows_0.F R) (c2 : strings_Builder_WriteString_vxfes.F R) (c3 : strings_Builder_String_vxfe.F R) (c4 : octet_Same_0.F R) (c5 : strings_HasSuffix_0.F R) (κ : List SV → Option R) (f : Nat) (x0 : Bool) (x1 : List AV) (x2 : Bool) (x3 : Int) (x4 : Int) (x5 : List AV) (x6 : Int) (x7 : Int) (x8 : List AV) (x9 : ByteArray) (x10 : ByteArray) (x11 : Bool) (x12 : Bool) (x13 : List AV) : goto (letter_Pick_sbo.C R c1 c2 c3 c4 c5) (retK (letter_Pick_sbo.C R c1 c2 c3 c4 c5) Tryz.f15.results.toList (List.range 0) κ) 10000 f (placeOf Tryz.f15 7) (letter_Pick_sbo.s7 x0 x1 x2 x3 x4 x5 x6 x7 x8 x9 x10 x11 x12 x13) = letter_Pick_sbo.L7 c1 c2 c3 c4 c5 (fun r0 => κ [.str r0]) f x0 x1 x2 x3 x4 x5 x6 x7 x8 x9 x10 x11 x12 x13 := (letter_Pick_sbo.gM3 R c1 c2 c3 c4 c5 κ f).2 x0 x1 x2 x3 x4 x5 x6 x7 x8 x9 x10 x11 x12 x13
theorem letter_Pick_sbo.run (R : Type) (κ : List SV → Option R) (a0 : ByteArray) (a1 : Bool) (a2 : List AV) :
    runF (letter_Pick_sbo.C R letter_rows_0 strings_Builder_WriteString_vxfes strings_Builder_String_vxfe octet_Same_0 strings_HasSuffix_0) Tryz.f15 10000 fuelK [.str a0, .bool a1, .ro 9 a2 false] κ = letter_Pick_sbo a0 a1 a2 (fun r0 => κ [.str r0]) := by
  rw [letter_Pick_sbo.c]
  simp only [letter_Pick_sbo.g3 R letter_rows_0 strings_Builder_WriteString_vxfes strings_Builder_String_vxfe octet_Same_0 strings_HasSuffix_0 κ fuelK, letter_Pick_sbo.g7 R letter_rows_0 strings_Builder_WriteString_vxfes strings_Builder_String_vxfe octet_Same_0 strings_HasSuffix_0 κ fuelK]
  rfl
theorem letter_Pick_sbo.Γ_does {R : Type} (tab : Tab) (ht : TabOk tab) (g : Nat) : Does (R := R) Tryz.prog (tabTy tyL) tab g ((letter_Pick_sbo.C R letter_rows_0 strings_Builder_WriteString_vxfes strings_Builder_String_vxfe octet_Same_0 strings_HasSuffix_0).call g) := by
  refine does_of fun xs κ => ?_
  show DoesAt _ _ _ g xs κ (letter_Pick_sbo.Γ letter_rows_0 strings_Builder_WriteString_vxfes strings_Builder_String_vxfe octet_Same_0 strings_HasSuffix_0 g xs κ)
  unfold letter_Pick_sbo.Γ
  split
  · split
    · exact letter_rows_0.does tab ht _ κ
    · exact DoesAt.none
  · split
    · exact octet_Same_0.does tab ht _ _ κ
    · exact DoesAt.none
  · split
    · exact strings_Builder_WriteString_vxfes.does tab ht _ _ κ
    · exact DoesAt.none
  · split
    · exact strings_HasSuffix_0.does tab ht _ _ κ
    · exact DoesAt.none
  · split
    · exact strings_Builder_String_vxfe.does tab ht _ κ
    · exact DoesAt.none
  · exact DoesAt.none
theorem letter_Pick_sbo.does {R : Type} (tab : Tab) (ht : TabOk tab) (a0 : ByteArray) (a1 : Bool) (a2 : List AV) (κ : List SV → Option R) : DoesAt Tryz.prog (tabTy tyL) tab 15 [.str a0, .bool a1, .ro 9 a2 false] κ (letter_Pick_sbo a0 a1 a2 (fun r0 => κ [.str r0])) := by
  intro r h w vs Rt Ra bs hpre
  exact runF_sound tyOk (letter_Pick_sbo.Γ_does tab ht) (show Tryz.prog.funcs[15]? = some Tryz.f15 by kernel_rfl) (by kernel_rfl) ((letter_Pick_sbo.run R κ a0 a1 a2).trans h) hpre
def postbagref5_lines_0.Γ {R : Type} (g : Nat) (xs : List SV) (κ : List SV → Option R) : Option R :=
  match g with
  | _ => none
def postbagref5_lines_0.h (n : Nat) : Option (List (Nat × List (Nat × Nat))) :=
  match n with
  | 4 => some [(0, [(0, 0)]), (3, [(0, 11)]), (4, [(0, 0)]), (5, [(0, 0)])]
  | _ => none
def postbagref5_lines_0.C (R : Type) : Cfg R := ⟨tabTy tyL, postbagref5_lines_0.Γ, fun _ => false, postbagref5_lines_0.h⟩
def postbagref5_lines_0.s4 (x0 : ByteArray) (x1 : Int) (x2 : Int) (x3 : List AV) : St := ⟨mkS 47 [(0, .str x0), (3, .own 256), (4, .int .i64 x1), (5, .int .i64 x2)], [(256, .row 9 x3 true)], top⟩
theorem postbagref5_lines_0.c4 (R : Type) (J : List Item → St → Option R) (κ : List SV → Option R) (x0 : ByteArray) (x1 : Int) (x2 : Int) (x3 : List AV) :
    start (postbagref5_lines_0.C R) J (retK (postbagref5_lines_0.C R) Tryz.f96.results.toList (List.range 0) κ) 10000 (placeOf Tryz.f96 4) (postbagref5_lines_0.s4 x0 x1 x2 x3) = postbagref5_lines_0.t4 x0 x1 x2 x3 (fun y0 y1 y2 y3 => J (placeOf Tryz.f96 4) (postbagref5_lines_0.s4 y0 y1 y2 y3)) (fun r0 => κ [.fr 9 r0 true]) := by kernel_rfl
theorem postbagref5_lines_0.c (R : Type) (κ : List SV → Option R) (k : Nat) (a0 : ByteArray) :
    runF (postbagref5_lines_0.C R) Tryz.f96 10000 k [.str a0] κ = postbagref5_lines_0.e a0 (fun y0 y1 y2 y3 => goto (postbagref5_lines_0.C R) (retK (postbagref5_lines_0.C R) Tryz.f96.results.toList (List.range 0) κ) 10000 k (placeOf Tryz.f96 4) (postbagref5_lines_0.s4 y0 y1 y2 y3)) (fun r0 => κ [.fr 9 r0 true]) := by kernel_rfl
theorem postbagref5_lines_0.g4 (R : Type) (κ : List SV → Option R) : ∀ (f : Nat) (x0 : ByteArray) (x1 : Int) (x2 : Int) (x3 : List AV), goto (postbagref5_lines_0.C R) (retK (postbagref5_lines_0.C R) Tryz.f96.results.toList (List.range 0) κ) 10000 f (placeOf Tryz.f96 4) (postbagref5_lines_0.s4 x0 x1 x2 x3) = postbagref5_lines_0.L4 (fun r0 => κ [.fr 9 r0 true]) f x0 x1 x2 x3
  | 0, _, _, _, _ => rfl
  | f + 1, x0, x1, x2, x3 => by
    show start (postbagref5_lines_0.C R) (goto (postbagref5_lines_0.C R) (retK (postbagref5_lines_0.C R) Tryz.f96.results.toList (List.range 0) κ) 10000 f) (retK (postbagref5_lines_0.C R) Tryz.f96.results.toList (List.range 0) κ) 10000 (placeOf Tryz.f96 4) (postbagref5_lines_0.s4 x0 x1 x2 x3) = _
    rw [postbagref5_lines_0.c4]
    simp only [postbagref5_lines_0.g4 R κ f]
    rfl
theorem postbagref5_lines_0.run (R : Type) (κ : List SV → Option R) (a0 : ByteArray) :
    runF (postbagref5_lines_0.C R) Tryz.f96 10000 fuelK [.str a0] κ = postbagref5_lines_0 a0 (fun r0 => κ [.fr 9 r0 true]) := by
  rw [postbagref5_lines_0.c]
  simp only [postbagref5_lines_0.g4 R κ fuelK]
  rfl
theorem postbagref5_lines_0.Γ_does {R : Type} (tab : Tab) (ht : TabOk tab) (g : Nat) : Does (R := R) Tryz.prog (tabTy tyL) tab g ((postbagref5_lines_0.C R).call g) := by
  refine does_of fun xs κ => ?_
  show DoesAt _ _ _ g xs κ (postbagref5_lines_0.Γ g xs κ)
  unfold postbagref5_lines_0.Γ
  split
  · exact DoesAt.none
theorem postbagref5_lines_0.does {R : Type} (tab : Tab) (ht : TabOk tab) (a0 : ByteArray) (κ : List SV → Option R) : DoesAt Tryz.prog (tabTy tyL) tab 96 [.str a0] κ (postbagref5_lines_0 a0 (fun r0 => κ [.fr 9 r0 true])) := by
  intro r h w vs Rt Ra bs hpre
  exact runF_sound tyOk (postbagref5_lines_0.Γ_does tab ht) (show Tryz.prog.funcs[96]? = some Tryz.f96 by kernel_rfl) (by kernel_rfl) ((postbagref5_lines_0.run R κ a0).trans h) hpre
def postbagref5_blank_0.Γ {R : Type} (g : Nat) (xs : List SV) (κ : List SV → Option R) : Option R :=
  match g with
  | _ => none
def postbagref5_blank_0.h (n : Nat) : Option (List (Nat × List (Nat × Nat))) :=
  match n with
  | _ => none
def postbagref5_blank_0.C (R : Type) : Cfg R := ⟨tabTy tyL, postbagref5_blank_0.Γ, fun _ => false, postbagref5_blank_0.h⟩
theorem postbagref5_blank_0.c (R : Type) (κ : List SV → Option R) (k : Nat) (a0 : Int) :
    runF (postbagref5_blank_0.C R) Tryz.f53 10000 k [.int .u8 a0] κ = postbagref5_blank_0.e a0 (fun r0 => κ [.bool r0]) := by kernel_rfl
theorem postbagref5_blank_0.run (R : Type) (κ : List SV → Option R) (a0 : Int) :
    runF (postbagref5_blank_0.C R) Tryz.f53 10000 fuelK [.int .u8 a0] κ = postbagref5_blank_0 a0 (fun r0 => κ [.bool r0]) := by
  rw [postbagref5_blank_0.c]
  rfl
theorem postbagref5_blank_0.Γ_does {R : Type} (tab : Tab) (ht : TabOk tab) (g : Nat) : Does (R := R) Tryz.prog (tabTy tyL) tab g ((postbagref5_blank_0.C R).call g) := by
  refine does_of fun xs κ => ?_
  show DoesAt _ _ _ g xs κ (postbagref5_blank_0.Γ g xs κ)
  unfold postbagref5_blank_0.Γ
  split
  · exact DoesAt.none
theorem postbagref5_blank_0.does {R : Type} (tab : Tab) (ht : TabOk tab) (a0 : Int) (κ : List SV → Option R) : DoesAt Tryz.prog (tabTy tyL) tab 53 [.int .u8 a0] κ (postbagref5_blank_0 a0 (fun r0 => κ [.bool r0])) := by
  intro r h w vs Rt Ra bs hpre
  exact runF_sound tyOk (postbagref5_blank_0.Γ_does tab ht) (show Tryz.prog.funcs[53]? = some Tryz.f53 by kernel_rfl) (by kernel_rfl) ((postbagref5_blank_0.run R κ a0).trans h) hpre
def postbagref5_colon_0.Γ {R : Type} (c1 : postbagref5_blank_0.F R) (g : Nat) (xs : List SV) (κ : List SV → Option R) : Option R :=
  match g with
  | 53 => (match xs with
    | [.int .u8 a0] => c1 a0 (fun r0 => κ [.bool r0])
    | _ => none)
  | _ => none
def postbagref5_colon_0.h (n : Nat) : Option (List (Nat × List (Nat × Nat))) :=
  match n with
  | 2 => some [(0, [(0, 0)]), (4, [(0, 0)])]
  | 5 => some [(0, [(0, 0)]), (4, [(0, 0)]), (5, [(0, 0)])]
  | _ => none
def postbagref5_colon_0.C (R : Type) (c1 : postbagref5_blank_0.F R) : Cfg R := ⟨tabTy tyL, postbagref5_colon_0.Γ c1, fun _ => false, postbagref5_colon_0.h⟩
def postbagref5_colon_0.s2 (x0 : ByteArray) (x1 : Int) : St := ⟨mkS 59 [(0, .str x0), (4, .int .i64 x1)], [], top⟩
def postbagref5_colon_0.s5 (x0 : ByteArray) (x1 : Int) (x2 : Int) : St := ⟨mkS 59 [(0, .str x0), (4, .int .i64 x1), (5, .int .i64 x2)], [], top⟩
theorem postbagref5_colon_0.c2 (R : Type) (c1 : postbagref5_blank_0.F R) (J : List Item → St → Option R) (κ : List SV → Option R) (x0 : ByteArray) (x1 : Int) :
    start (postbagref5_colon_0.C R c1) J (retK (postbagref5_colon_0.C R c1) Tryz.f97.results.toList (List.range 0) κ) 10000 (placeOf Tryz.f97 2) (postbagref5_colon_0.s2 x0 x1) = postbagref5_colon_0.t2 c1 x0 x1 (fun y0 y1 => J (placeOf Tryz.f97 2) (postbagref5_colon_0.s2 y0 y1)) (fun y0 y1 y2 => J (placeOf Tryz.f97 5) (postbagref5_colon_0.s5 y0 y1 y2)) (fun r0 r1 => κ [.tup [.int .i64 r0, .int .i64 r1]]) := by kernel_rfl
theorem postbagref5_colon_0.c5 (R : Type) (c1 : postbagref5_blank_0.F R) (J : List Item → St → Option R) (κ : List SV → Option R) (x0 : ByteArray) (x1 : Int) (x2 : Int) :
    start (postbagref5_colon_0.C R c1) J (retK (postbagref5_colon_0.C R c1) Tryz.f97.results.toList (List.range 0) κ) 10000 (placeOf Tryz.f97 5) (postbagref5_colon_0.s5 x0 x1 x2) = postbagref5_colon_0.t5 c1 x0 x1 x2 (fun y0 y1 => J (placeOf Tryz.f97 2) (postbagref5_colon_0.s2 y0 y1)) (fun y0 y1 y2 => J (placeOf Tryz.f97 5) (postbagref5_colon_0.s5 y0 y1 y2)) (fun r0 r1 => κ [.tup [.int .i64 r0, .int .i64 r1]]) := by kernel_rfl
theorem postbagref5_colon_0.c (R : Type) (c1 : postbagref5_blank_0.F R) (κ : List SV → Option R) (k : Nat) (a0 : ByteArray) :
    runF (postbagref5_colon_0.C R c1) Tryz.f97 10000 k [.str a0] κ = postbagref5_colon_0.e c1 a0 (fun y0 y1 => goto (postbagref5_colon_0.C R c1) (retK (postbagref5_colon_0.C R c1) Tryz.f97.results.toList (List.range 0) κ) 10000 k (placeOf Tryz.f97 2) (postbagref5_colon_0.s2 y0 y1)) (fun y0 y1 y2 => goto (postbagref5_colon_0.C R c1) (retK (postbagref5_colon_0.C R c1) Tryz.f97.results.toList (List.range 0) κ) 10000 k (placeOf Tryz.f97 5) (postbagref5_colon_0.s5 y0 y1 y2)) (fun r0 r1 => κ [.tup [.int .i64 r0, .int .i64 r1]]) := by kernel_rfl
theorem postbagref5_colon_0.g5 (R : Type) (c1 : postbagref5_blank_0.F R) (κ : List SV → Option R) : ∀ (f : Nat) (x0 : ByteArray) (x1 : Int) (x2 : Int), goto (postbagref5_colon_0.C R c1) (retK (postbagref5_colon_0.C R c1) Tryz.f97.results.toList (List.range 0) κ) 10000 f (placeOf Tryz.f97 5) (postbagref5_colon_0.s5 x0 x1 x2) = postbagref5_colon_0.L5 c1 (fun r0 r1 => κ [.tup [.int .i64 r0, .int .i64 r1]]) f x0 x1 x2
  | 0, _, _, _ => rfl
  | f + 1, x0, x1, x2 => by
    show start (postbagref5_colon_0.C R c1) (goto (postbagref5_colon_0.C R c1) (retK (postbagref5_colon_0.C R c1) Tryz.f97.results.toList (List.range 0) κ) 10000 f) (retK (postbagref5_colon_0.C R c1) Tryz.f97.results.toList (List.range 0) κ) 10000 (placeOf Tryz.f97 5) (postbagref5_colon_0.s5 x0 x1 x2) = _
    rw [postbagref5_colon_0.c5]
    simp only [postbagref5_colon_0.g5 R c1 κ f]
    rfl
theorem postbagref5_colon_0.g2 (R : Type) (c1 : postbagref5_blank_0.F R) (κ : List SV → Option R) : ∀ (f : Nat) (x0 : ByteArray) (x1 : Int), goto (postbagref5_colon_0.C R c1) (retK (postbagref5_colon_0.C R c1) Tryz.f97.results.toList (List.range 0) κ) 10000 f (placeOf Tryz.f97 2) (postbagref5_colon_0.s2 x0 x1) = postbagref5_colon_0.L2 c1 (fun r0 r1 => κ [.tup [.int .i64 r0, .int .i64 r1]]) f x0 x1
  | 0, _, _ => rfl
  | f + 1, x0, x1 => by
    show start (postbagref5_colon_0.C R c1) (goto (postbagref5_colon_0.C R c1) (retK (postbagref5_colon_0.C R c1) Tryz.f97.results.toList (List.range 0) κ) 10000 f) (retK (postbagref5_colon_0.C R c1) Tryz.f97.results.toList (List.range 0) κ) 10000 (placeOf Tryz.f97 2) (postbagref5_colon_0.s2 x0 x1) = _
    rw [postbagref5_colon_0.c2]
    simp only [postbagref5_colon_0.g2 R c1 κ f, postbagref5_colon_0.g5 R c1 κ f]
    rfl
theorem postbagref5_colon_0.run (R : Type) (κ : List SV → Option R) (a0 : ByteArray) :
    runF (postbagref5_colon_0.C R postbagref5_blank_0) Tryz.f97 10000 fuelK [.str a0] κ = postbagref5_colon_0 a0 (fun r0 r1 => κ [.tup [.int .i64 r0, .int .i64 r1]]) := by
  rw [postbagref5_colon_0.c]
  simp only [postbagref5_colon_0.g2 R postbagref5_blank_0 κ fuelK, postbagref5_colon_0.g5 R postbagref5_blank_0 κ fuelK]
  rfl
theorem postbagref5_colon_0.Γ_does {R : Type} (tab : Tab) (ht : TabOk tab) (g : Nat) : Does (R := R) Tryz.prog (tabTy tyL) tab g ((postbagref5_colon_0.C R postbagref5_blank_0).call g) := by
  refine does_of fun xs κ => ?_
  show DoesAt _ _ _ g xs κ (postbagref5_colon_0.Γ postbagref5_blank_0 g xs κ)
  unfold postbagref5_colon_0.Γ
  split
  · split
    · exact postbagref5_blank_0.does tab ht _ κ
    · exact DoesAt.none
  · exact DoesAt.none
theorem postbagref5_colon_0.does {R : Type} (tab : Tab) (ht : TabOk tab) (a0 : ByteArray) (κ : List SV → Option R) : DoesAt Tryz.prog (tabTy tyL) tab 97 [.str a0] κ (postbagref5_colon_0 a0 (fun r0 r1 => κ [.tup [.int .i64 r0, .int .i64 r1]])) := by
  intro r h w vs Rt Ra bs hpre
  exact runF_sound tyOk (postbagref5_colon_0.Γ_does tab ht) (show Tryz.prog.funcs[97]? = some Tryz.f97 by kernel_rfl) (by kernel_rfl) ((postbagref5_colon_0.run R κ a0).trans h) hpre
def postbagref5_bare_0.Γ {R : Type} (g : Nat) (xs : List SV) (κ : List SV → Option R) : Option R :=
  match g with
  | _ => none
def postbagref5_bare_0.h (n : Nat) : Option (List (Nat × List (Nat × Nat))) :=
  match n with
  | _ => none
def postbagref5_bare_0.C (R : Type) : Cfg R := ⟨tabTy tyL, postbagref5_bare_0.Γ, fun _ => false, postbagref5_bare_0.h⟩
theorem postbagref5_bare_0.c (R : Type) (κ : List SV → Option R) (k : Nat) (a0 : ByteArray) :
    runF (postbagref5_bare_0.C R) Tryz.f51 10000 k [.str a0] κ = postbagref5_bare_0.e a0 (fun r0 => κ [.str r0]) := by kernel_rfl
theorem postbagref5_bare_0.run (R : Type) (κ : List SV → Option R) (a0 : ByteArray) :
    runF (postbagref5_bare_0.C R) Tryz.f51 10000 fuelK [.str a0] κ = postbagref5_bare_0 a0 (fun r0 => κ [.str r0]) := by
  rw [postbagref5_bare_0.c]
  rfl
theorem postbagref5_bare_0.Γ_does {R : Type} (tab : Tab) (ht : TabOk tab) (g : Nat) : Does (R := R) Tryz.prog (tabTy tyL) tab g ((postbagref5_bare_0.C R).call g) := by
  refine does_of fun xs κ => ?_
  show DoesAt _ _ _ g xs κ (postbagref5_bare_0.Γ g xs κ)
  unfold postbagref5_bare_0.Γ
  split
  · exact DoesAt.none
theorem postbagref5_bare_0.does {R : Type} (tab : Tab) (ht : TabOk tab) (a0 : ByteArray) (κ : List SV → Option R) : DoesAt Tryz.prog (tabTy tyL) tab 51 [.str a0] κ (postbagref5_bare_0 a0 (fun r0 => κ [.str r0])) := by
  intro r h w vs Rt Ra bs hpre
  exact runF_sound tyOk (postbagref5_bare_0.Γ_does tab ht) (show Tryz.prog.funcs[51]? = some Tryz.f51 by kernel_rfl) (by kernel_rfl) ((postbagref5_bare_0.run R κ a0).trans h) hpre
def postbagref5_head_0.Γ {R : Type} (c1 : postbagref5_lines_0.F R) (c2 : postbagref5_blank_0.F R) (c3 : postbagref5_bare_0.F R) (c4 : postbagref5_colon_0.F R) (g : Nat) (xs : List SV) (κ : List SV → Option R) : Option R :=
  match g with
  | 51 => (match xs with
    | [.str a0] => c3 a0 (fun r0 => κ [.str r0])
    | _ => none)
  | 53 => (match xs with
    | [.int .u8 a0] => c2 a0 (fun r0 => κ [.bool r0])
    | _ => none)
  | 96 => (match xs with
    | [.str a0] => c1 a0 (fun r0 => κ [.fr 9 r0 true])
    | _ => none)
  | 97 => (match xs with
    | [.str a0] => c4 a0 (fun r0 r1 => κ [.tup [.int .i64 r0, .int .i64 r1]])
    | _ => none)
  | _ => none
def postbagref5_head_0.h (n : Nat) : Option (List (Nat × List (Nat × Nat))) :=
  match n with
  | 4 => some [(3, [(0, 44)]), (4, [(0, 0)]), (5, [(0, 0)])]
  | 5 => some [(3, [(0, 0)]), (4, [(0, 0)]), (5, [(0, 0)])]
  | 11 => some [(3, [(0, 0)]), (4, [(0, 0)]), (5, [(0, 0)]), (6, [(0, 0)])]
  | _ => none
def postbagref5_head_0.C (R : Type) (c1 : postbagref5_lines_0.F R) (c2 : postbagref5_blank_0.F R) (c3 : postbagref5_bare_0.F R) (c4 : postbagref5_colon_0.F R) : Cfg R := ⟨tabTy tyL, postbagref5_head_0.Γ c1 c2 c3 c4, fun _ => false, postbagref5_head_0.h⟩
def postbagref5_head_0.s4 (x0 : Int) (x1 : List AV) (x2 : List AV) : St := ⟨mkS 93 [(3, .own 256), (4, .own 320), (5, .int .i64 x0)], [(256, .row 42 x1 true), (320, .row 9 x2 true)], top⟩
def postbagref5_head_0.s5 (x0 : Int) (x1 : List AV) (x2 : List AV) : St := ⟨mkS 93 [(3, .own 256), (4, .own 320), (5, .int .i64 x0)], [(256, .row 42 x1 true), (320, .row 9 x2 true)], top⟩
def postbagref5_head_0.s11 (x0 : Int) (x1 : ByteArray) (x2 : List AV) (x3 : List AV) : St := ⟨mkS 93 [(3, .own 256), (4, .own 320), (5, .int .i64 x0), (6, .str x1)], [(256, .row 42 x2 true), (320, .row 9 x3 true)], top⟩
theorem postbagref5_head_0.c4 (R : Type) (c1 : postbagref5_lines_0.F R) (c2 : postbagref5_blank_0.F R) (c3 : postbagref5_bare_0.F R) (c4 : postbagref5_colon_0.F R) (J : List Item → St → Option R) (κ : List SV → Option R) (x0 : Int) (x1 : List AV) (x2 : List AV) :
    start (postbagref5_head_0.C R c1 c2 c3 c4) J (retK (postbagref5_head_0.C R c1 c2 c3 c4) Tryz.f42.results.toList (List.range 0) κ) 10000 (placeOf Tryz.f42 4) (postbagref5_head_0.s4 x0 x1 x2) = postbagref5_head_0.t4 c1 c2 c3 c4 x0 x1 x2 (fun y0 y1 y2 => J (placeOf Tryz.f42 4) (postbagref5_head_0.s4 y0 y1 y2)) (fun y0 y1 y2 => J (placeOf Tryz.f42 5) (postbagref5_head_0.s5 y0 y1 y2)) (fun y0 y1 y2 y3 => J (placeOf Tryz.f42 11) (postbagref5_head_0.s11 y0 y1 y2 y3)) (fun r0 => κ [.fr 42 r0 true]) := by kernel_rfl
theorem postbagref5_head_0.c5 (R : Type) (c1 : postbagref5_lines_0.F R) (c2 : postbagref5_blank_0.F R) (c3 : postbagref5_bare_0.F R) (c4 : postbagref5_colon_0.F R) (J : List Item → St → Option R) (κ : List SV → Option R) (x0 : Int) (x1 : List AV) (x2 : List AV) :
    start (postbagref5_head_0.C R c1 c2 c3 c4) J (retK (postbagref5_head_0.C R c1 c2 c3 c4) Tryz.f42.results.toList (List.range 0) κ) 10000 (placeOf Tryz.f42 5) (postbagref5_head_0.s5 x0 x1 x2) = postbagref5_head_0.t5 c1 c2 c3 c4 x0 x1 x2 (fun y0 y1 y2 => J (placeOf Tryz.f42 4) (postbagref5_head_0.s4 y0 y1 y2)) (fun y0 y1 y2 => J (placeOf Tryz.f42 5) (postbagref5_head_0.s5 y0 y1 y2)) (fun y0 y1 y2 y3 => J (placeOf Tryz.f42 11) (postbagref5_head_0.s11 y0 y1 y2 y3)) (fun r0 => κ [.fr 42 r0 true]) := by kernel_rfl
theorem postbagref5_head_0.c11 (R : Type) (c1 : postbagref5_lines_0.F R) (c2 : postbagref5_blank_0.F R) (c3 : postbagref5_bare_0.F R) (c4 : postbagref5_colon_0.F R) (J : List Item → St → Option R) (κ : List SV → Option R) (x0 : Int) (x1 : ByteArray) (x2 : List AV) (x3 : List AV) :
    start (postbagref5_head_0.C R c1 c2 c3 c4) J (retK (postbagref5_head_0.C R c1 c2 c3 c4) Tryz.f42.results.toList (List.range 0) κ) 10000 (placeOf Tryz.f42 11) (postbagref5_head_0.s11 x0 x1 x2 x3) = postbagref5_head_0.t11 c1 c2 c3 c4 x0 x1 x2 x3 (fun y0 y1 y2 => J (placeOf Tryz.f42 4) (postbagref5_head_0.s4 y0 y1 y2)) (fun y0 y1 y2 => J (placeOf Tryz.f42 5) (postbagref5_head_0.s5 y0 y1 y2)) (fun y0 y1 y2 y3 => J (placeOf Tryz.f42 11) (postbagref5_head_0.s11 y0 y1 y2 y3)) (fun r0 => κ [.fr 42 r0 true]) := by kernel_rfl
theorem postbagref5_head_0.c (R : Type) (c1 : postbagref5_lines_0.F R) (c2 : postbagref5_blank_0.F R) (c3 : postbagref5_bare_0.F R) (c4 : postbagref5_colon_0.F R) (κ : List SV → Option R) (k : Nat) (a0 : ByteArray) :
    runF (postbagref5_head_0.C R c1 c2 c3 c4) Tryz.f42 10000 k [.str a0] κ = postbagref5_head_0.e c1 c2 c3 c4 a0 (fun y0 y1 y2 => goto (postbagref5_head_0.C R c1 c2 c3 c4) (retK (postbagref5_head_0.C R c1 c2 c3 c4) Tryz.f42.results.toList (List.range 0) κ) 10000 k (placeOf Tryz.f42 4) (postbagref5_head_0.s4 y0 y1 y2)) (fun y0 y1 y2 => goto (postbagref5_head_0.C R c1 c2 c3 c4) (retK (postbagref5_head_0.C R c1 c2 c3 c4) Tryz.f42.results.toList (List.range 0) κ) 10000 k (placeOf Tryz.f42 5) (postbagref5_head_0.s5 y0 y1 y2)) (fun y0 y1 y2 y3 => goto (postbagref5_head_0.C R c1 c2 c3 c4) (retK (postbagref5_head_0.C R c1 c2 c3 c4) Tryz.f42.results.toList (List.range 0) κ) 10000 k (placeOf Tryz.f42 11) (postbagref5_head_0.s11 y0 y1 y2 y3)) (fun r0 => κ [.fr 42 r0 true]) := by kernel_rfl
theorem postbagref5_head_0.gM4 (R : Type) (c1 : postbagref5_lines_0.F R) (c2 : postbagref5_blank_0.F R) (c3 : postbagref5_bare_0.F R) (c4 : postbagref5_colon_0.F R) (κ : List SV → Option R) : ∀ (f : Nat), (∀ (x0 : Int) (x1 : List AV) (x2 : List AV), goto (postbagref5_head_0.C R c1 c2 c3 c4) (retK (postbagref5_head_0.C R c1 c2 c3 c4) Tryz.f42.results.toList (List.range 0) κ) 10000 f (placeOf Tryz.f42 4) (postbagref5_head_0.s4 x0 x1 x2) = postbagref5_head_0.L4 c1 c2 c3 c4 (fun r0 => κ [.fr 42 r0 true]) f x0 x1 x2) ∧
    (∀ (x0 : Int) (x1 : List AV) (x2 : List AV), goto (postbagref5_head_0.C R c1 c2 c3 c4) (retK (postbagref5_head_0.C R c1 c2 c3 c4) Tryz.f42.results.toList (List.range 0) κ) 10000 f (placeOf Tryz.f42 5) (postbagref5_head_0.s5 x0 x1 x2) = postbagref5_head_0.L5 c1 c2 c3 c4 (fun r0 => κ [.fr 42 r0 true]) f x0 x1 x2) ∧
    (∀ (x0 : Int) (x1 : ByteArray) (x2 : List AV) (x3 : List AV), goto (postbagref5_head_0.C R c1 c2 c3 c4) (retK (postbagref5_head_0.C R c1 c2 c3 c4) Tryz.f42.results.toList (List.range 0) κ) 10000 f (placeOf Tryz.f42 11) (postbagref5_head_0.s11 x0 x1 x2 x3) = postbagref5_head_0.L11 c1 c2 c3 c4 (fun r0 => κ [.fr 42 r0 true]) f x0 x1 x2 x3)
  | 0 => ⟨fun _ _ _ => rfl, fun _ _ _ => rfl, fun _ _ _ _ => rfl⟩
  | f + 1 => by
    obtain ⟨ih0, ih1, ih2⟩ := postbagref5_head_0.gM4 R c1 c2 c3 c4 κ f
    refine ⟨?_, ?_, ?_⟩
    · intro x0 x1 x2
      show start (postbagref5_head_0.C R c1 c2 c3 c4) (goto (postbagref5_head_0.C R c1 c2 c3 c4) (retK (postbagref5_head_0.C R c1 c2 c3 c4) Tryz.f42.results.toList (List.range 0) κ) 10000 f) (retK (postbagref5_head_0.C R c1 c2 c3 c4) Tryz.f42.results.toList (List.range 0) κ) 10000 (placeOf Tryz.f42 4) (postbagref5_head_0.s4 x0 x1 x2) = _
      rw [postbagref5_head_0.c4]
      simp only [ih0, ih1, ih2]
      rfl
    · intro x0 x1 x2
      show start (postbagref5_head_0.C R c1 c2 c3 c4) (goto (postbagref5_head_0.C R c1 c2 c3 c4) (retK (postbagref5_head_0.C R c1 c2 c3 c4) Tryz.f42.results.toList (List.range 0) κ) 10000 f) (retK (postbagref5_head_0.C R c1 c2 c3 c4) Tryz.f42.results.toList (List.range 0) κ) 10000 (placeOf Tryz.f42 5) (postbagref5_head_0.s5 x0 x1 x2) = _
      rw [postbagref5_head_0.c5]
      simp only [ih0, ih1, ih2]
      rfl
    · intro x0 x1 x2 x3
      show start (postbagref5_head_0.C R c1 c2 c3 c4) (goto (postbagref5_head_0.C R c1 c2 c3 c4) (retK (postbagref5_head_0.C R c1 c2 c3 c4) Tryz.f42.results.toList (List.range 0) κ) 10000 f) (retK (postbagref5_head_0.C R c1 c2 c3 c4) Tryz.f42.results.toList (List.range 0) κ) 10000 (placeOf Tryz.f42 11) (postbagref5_head_0.s11 x0 x1 x2 x3) = _
      rw [postbagref5_head_0.c11]
      simp only [ih0, ih1, ih2]
      rfl
theorem postbagref5_head_0.g4 (R : Type) (c1 : postbagref5_lines_0.F R) (c2 : postbagref5_blank_0.F R) (c3 : postbagref5_bare_0.F R) (c4 : postbagref5_colon_0.F R) (κ : List SV → Option R) (f : Nat) (x0 : Int) (x1 : List AV) (x2 : List AV) : goto (postbagref5_head_0.C R c1 c2 c3 c4) (retK (postbagref5_head_0.C R c1 c2 c3 c4) Tryz.f42.results.toList (List.range 0) κ) 10000 f (placeOf Tryz.f42 4) (postbagref5_head_0.s4 x0 x1 x2) = postbagref5_head_0.L4 c1 c2 c3 c4 (fun r0 => κ [.fr 42 r0 true]) f x0 x1 x2 := (postbagref5_head_0.gM4 R c1 c2 c3 c4 κ f).1 x0 x1 x2
theorem postbagref5_head_0.g5 (R : Type) (c1 : postbagref5_lines_0.F R) (c2 : postbagref5_blank_0.F R) (c3 : postbagref5_bare_0.F R) (c4 : postbagref5_colon_0.F R) (κ : List SV → Option R) (f : Nat) (x0 : Int) (x1 : List AV) (x2 : List AV) : goto (postbagref5_head_0.C R c1 c2 c3 c4) (retK (postbagref5_head_0.C R c1 c2 c3 c4) Tryz.f42.results.toList (List.range 0) κ) 10000 f (placeOf Tryz.f42 5) (postbagref5_head_0.s5 x0 x1 x2) = postbagref5_head_0.L5 c1 c2 c3 c4 (fun r0 => κ [.fr 42 r0 true]) f x0 x1 x2 := (postbagref5_head_0.gM4 R c1 c2 c3 c4 κ f).2.1 x0 x1 x2
theorem postbagref5_head_0.g11 (R : Type) (c1 : postbagref5_lines_0.F R) (c2 : postbagref5_blank_0.F R) (c3 : postbagref5_bare_0.F R) (c4 : postbagref5_colon_0.F R) (κ : List SV → Option R) (f : Nat) (x0 : Int) (x1 : ByteArray) (x2 : List AV) (x3 : List AV) : goto (postbagref5_head_0.C R c1 c2 c3 c4) (retK (postbagref5_head_0.C R c1 c2 c3 c4) Tryz.f42.results.toList (List.range 0) κ) 10000 f (placeOf Tryz.f42 11) (postbagref5_head_0.s11 x0 x1 x2 x3) = postbagref5_head_0.L11 c1 c2 c3 c4 (fun r0 => κ [.fr 42 r0 true]) f x0 x1 x2 x3 := (postbagref5_head_0.gM4 R c1 c2 c3 c4 κ f).2.2 x0 x1 x2 x3
theorem postbagref5_head_0.run (R : Type) (κ : List SV → Option R) (a0 : ByteArray) :
    runF (postbagref5_head_0.C R postbagref5_lines_0 postbagref5_blank_0 postbagref5_bare_0 postbagref5_colon_0) Tryz.f42 10000 fuelK [.str a0] κ = postbagref5_head_0 a0 (fun r0 => κ [.fr 42 r0 true]) := by
  rw [postbagref5_head_0.c]
  simp only [postbagref5_head_0.g4 R postbagref5_lines_0 postbagref5_blank_0 postbagref5_bare_0 postbagref5_colon_0 κ fuelK, postbagref5_head_0.g5 R postbagref5_lines_0 postbagref5_blank_0 postbagref5_bare_0 postbagref5_colon_0 κ fuelK, postbagref5_head_0.g11 R postbagref5_lines_0 postbagref5_blank_0 postbagref5_bare_0 postbagref5_colon_0 κ fuelK]
  rfl
theorem postbagref5_head_0.Γ_does {R : Type} (tab : Tab) (ht : TabOk tab) (g : Nat) : Does (R := R) Tryz.prog (tabTy tyL) tab g ((postbagref5_head_0.C R postbagref5_lines_0 postbagref5_blank_0 postbagref5_bare_0 postbagref5_colon_0).call g) := by
  refine does_of fun xs κ => ?_
  show DoesAt _ _ _ g xs κ (postbagref5_head_0.Γ postbagref5_lines_0 postbagref5_blank_0 postbagref5_bare_0 postbagref5_colon_0 g xs κ)
  unfold postbagref5_head_0.Γ
  split
  · split
    · exact postbagref5_bare_0.does tab ht _ κ
    · exact DoesAt.none
  · split
    · exact postbagref5_blank_0.does tab ht _ κ
    · exact DoesAt.none
  · split
    · exact postbagref5_lines_0.does tab ht _ κ
    · exact DoesAt.none
  · split
    · exact postbagref5_colon_0.does tab ht _ κ
    · exact DoesAt.none
  · exact DoesAt.none
theorem postbagref5_head_0.does {R : Type} (tab : Tab) (ht : TabOk tab) (a0 : ByteArray) (κ : List SV → Option R) : DoesAt Tryz.prog (tabTy tyL) tab 42 [.str a0] κ (postbagref5_head_0 a0 (fun r0 => κ [.fr 42 r0 true])) := by
  intro r h w vs Rt Ra bs hpre
  exact runF_sound tyOk (postbagref5_head_0.Γ_does tab ht) (show Tryz.prog.funcs[42]? = some Tryz.f42 by kernel_rfl) (by kernel_rfl) ((postbagref5_head_0.run R κ a0).trans h) hpre
def postbagref1_Lower_0.Γ {R : Type} (g : Nat) (xs : List SV) (κ : List SV → Option R) : Option R :=
  match g with
  | _ => none
def postbagref1_Lower_0.h (n : Nat) : Option (List (Nat × List (Nat × Nat))) :=
  match n with
  | 3 => some [(0, [(0, 0)]), (3, [(0, 7)]), (4, [(0, 0)])]
  | _ => none
def postbagref1_Lower_0.C (R : Type) : Cfg R := ⟨tabTy tyL, postbagref1_Lower_0.Γ, fun _ => false, postbagref1_Lower_0.h⟩
def postbagref1_Lower_0.s3 (x0 : ByteArray) (x1 : Int) (x2 : List AV) : St := ⟨mkS 29 [(0, .str x0), (3, .own 256), (4, .int .i64 x1)], [(256, .row 5 x2 true)], top⟩
theorem postbagref1_Lower_0.c3 (R : Type) (J : List Item → St → Option R) (κ : List SV → Option R) (x0 : ByteArray) (x1 : Int) (x2 : List AV) :
    start (postbagref1_Lower_0.C R) J (retK (postbagref1_Lower_0.C R) Tryz.f101.results.toList (List.range 0) κ) 10000 (placeOf Tryz.f101 3) (postbagref1_Lower_0.s3 x0 x1 x2) = postbagref1_Lower_0.t3 x0 x1 x2 (fun y0 y1 y2 => J (placeOf Tryz.f101 3) (postbagref1_Lower_0.s3 y0 y1 y2)) (fun r0 => κ [.str r0]) := by kernel_rfl
theorem postbagref1_Lower_0.c (R : Type) (κ : List SV → Option R) (k : Nat) (a0 : ByteArray) :
    runF (postbagref1_Lower_0.C R) Tryz.f101 10000 k [.str a0] κ = postbagref1_Lower_0.e a0 (fun y0 y1 y2 => goto (postbagref1_Lower_0.C R) (retK (postbagref1_Lower_0.C R) Tryz.f101.results.toList (List.range 0) κ) 10000 k (placeOf Tryz.f101 3) (postbagref1_Lower_0.s3 y0 y1 y2)) (fun r0 => κ [.str r0]) := by kernel_rfl
theorem postbagref1_Lower_0.g3 (R : Type) (κ : List SV → Option R) : ∀ (f : Nat) (x0 : ByteArray) (x1 : Int) (x2 : List AV), goto (postbagref1_Lower_0.C R) (retK (postbagref1_Lower_0.C R) Tryz.f101.results.toList (List.range 0) κ) 10000 f (placeOf Tryz.f101 3) (postbagref1_Lower_0.s3 x0 x1 x2) = postbagref1_Lower_0.L3 (fun r0 => κ [.str r0]) f x0 x1 x2
  | 0, _, _, _ => rfl
  | f + 1, x0, x1, x2 => by
    show start (postbagref1_Lower_0.C R) (goto (postbagref1_Lower_0.C R) (retK (postbagref1_Lower_0.C R) Tryz.f101.results.toList (List.range 0) κ) 10000 f) (retK (postbagref1_Lower_0.C R) Tryz.f101.results.toList (List.range 0) κ) 10000 (placeOf Tryz.f101 3) (postbagref1_Lower_0.s3 x0 x1 x2) = _
    rw [postbagref1_Lower_0.c3]
    simp only [postbagref1_Lower_0.g3 R κ f]
    rfl
theorem postbagref1_Lower_0.run (R : Type) (κ : List SV → Option R) (a0 : ByteArray) :
    runF (postbagref1_Lower_0.C R) Tryz.f101 10000 fuelK [.str a0] κ = postbagref1_Lower_0 a0 (fun r0 => κ [.str r0]) := by
  rw [postbagref1_Lower_0.c]
  simp only [postbagref1_Lower_0.g3 R κ fuelK]
  rfl
theorem postbagref1_Lower_0.Γ_does {R : Type} (tab : Tab) (ht : TabOk tab) (g : Nat) : Does (R := R) Tryz.prog (tabTy tyL) tab g ((postbagref1_Lower_0.C R).call g) := by
  refine does_of fun xs κ => ?_
  show DoesAt _ _ _ g xs κ (postbagref1_Lower_0.Γ g xs κ)
  unfold postbagref1_Lower_0.Γ
  split
  · exact DoesAt.none
theorem postbagref1_Lower_0.does {R : Type} (tab : Tab) (ht : TabOk tab) (a0 : ByteArray) (κ : List SV → Option R) : DoesAt Tryz.prog (tabTy tyL) tab 101 [.str a0] κ (postbagref1_Lower_0 a0 (fun r0 => κ [.str r0])) := by
  intro r h w vs Rt Ra bs hpre
  exact runF_sound tyOk (postbagref1_Lower_0.Γ_does tab ht) (show Tryz.prog.funcs[101]? = some Tryz.f101 by kernel_rfl) (by kernel_rfl) ((postbagref1_Lower_0.run R κ a0).trans h) hpre
end Go.Proofs.Ab
