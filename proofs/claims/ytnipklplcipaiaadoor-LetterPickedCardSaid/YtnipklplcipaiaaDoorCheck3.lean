/- Each plain function is what a call of its Go function does, checked by the kernel (no condition but what its checks ask). -/
import Derived.Test.YtnipklplcipaiaaDoorSeat
import Derived.Test.YtnipklplcipaiaaDoorText
import Derived.Test.YtnipklplcipaiaaDoorCheck2
/- Each typed text is what its function does: checked by the kernel. -/
namespace Go.Proofs.Ab
set_option linter.unusedVariables false
set_option maxRecDepth 4000
open Go Go.Proofs
set_option maxRecDepth 100000
def strings_IndexRune_0.Γ {R : Type} (c1 : strings_IndexByte_0.F R) (c2 : utf8_ValidRune_0.F R) (c3 : bytealg_Cutover_0.F R) (g : Nat) (xs : List SV) (κ : List SV → Option R) : Option R :=
  match g with
  | 37 => (match xs with
    | [.str a0, .int .u8 a1] => c1 a0 a1 (fun r0 => κ [.int .i64 r0])
    | _ => none)
  | 90 => (match xs with
    | [.int .i64 a0] => c3 a0 (fun r0 => κ [.int .i64 r0])
    | _ => none)
  | 115 => (match xs with
    | [.int .i32 a0] => c2 a0 (fun r0 => κ [.bool r0])
    | _ => none)
  | _ => none
def strings_IndexRune_0.h (n : Nat) : Option (List (Nat × List (Nat × Nat))) :=
  match n with
  | 5 => some [(0, [(0, 0)]), (1, [(0, 0)]), (7, [(0, 0)]), (8, [(0, 0)]), (9, [(0, 0)]), (10, [(0, 0)])]
  | 12 => some [(0, [(0, 0)]), (1, [(0, 0)]), (7, [(0, 0)]), (8, [(0, 0)]), (9, [(0, 0)]), (10, [(0, 0)]), (12, [(0, 0)])]
  | 38 => some [(175, [(0, 0)])]
  | _ => none
def strings_IndexRune_0.C (R : Type) (c1 : strings_IndexByte_0.F R) (c2 : utf8_ValidRune_0.F R) (c3 : bytealg_Cutover_0.F R) : Cfg R := ⟨tabTy tyL, strings_IndexRune_0.Γ c1 c2 c3, fun _ => false, strings_IndexRune_0.h⟩
def strings_IndexRune_0.s5 (x0 : ByteArray) (x1 : Int) (x2 : ByteArray) (x3 : Int) (x4 : Int) (x5 : Int) : St := ⟨mkS 187 [(0, .str x0), (1, .int .i32 x1), (7, .str x2), (8, .int .i64 x3), (9, .int .i64 x4), (10, .int .i64 x5)], [], top⟩
def strings_IndexRune_0.s12 (x0 : ByteArray) (x1 : Int) (x2 : ByteArray) (x3 : Int) (x4 : Int) (x5 : Int) (x6 : Int) : St := ⟨mkS 187 [(0, .str x0), (1, .int .i32 x1), (7, .str x2), (8, .int .i64 x3), (9, .int .i64 x4), (10, .int .i64 x5), (12, .int .i64 x6)], [], top⟩
def strings_IndexRune_0.s38 (x0 : ByteArray) (x1 : Nat) : St := ⟨mkS 187 [(175, .ptr 11327 0)], [(11327, .sit x0 x1)], top⟩
theorem strings_IndexRune_0.c5 (R : Type) (c1 : strings_IndexByte_0.F R) (c2 : utf8_ValidRune_0.F R) (c3 : bytealg_Cutover_0.F R) (J : List Item → St → Option R) (κ : List SV → Option R) (x0 : ByteArray) (x1 : Int) (x2 : ByteArray) (x3 : Int) (x4 : Int) (x5 : Int) :
    start (strings_IndexRune_0.C R c1 c2 c3) J (retK (strings_IndexRune_0.C R c1 c2 c3) Tryd.f111.results.toList (List.range 0) κ) 10000 (placeOf Tryd.f111 5) (strings_IndexRune_0.s5 x0 x1 x2 x3 x4 x5) = strings_IndexRune_0.t5 c1 c2 c3 x0 x1 x2 x3 x4 x5 (fun y0 y1 y2 y3 y4 y5 => J (placeOf Tryd.f111 5) (strings_IndexRune_0.s5 y0 y1 y2 y3 y4 y5)) (fun y0 y1 y2 y3 y4 y5 y6 => J (placeOf Tryd.f111 12) (strings_IndexRune_0.s12 y0 y1 y2 y3 y4 y5 y6)) (fun y0 y1 => J (placeOf Tryd.f111 38) (strings_IndexRune_0.s38 y0 y1)) (fun r0 => κ [.int .i64 r0]) := by kernel_rfl
theorem strings_IndexRune_0.c12 (R : Type) (c1 : strings_IndexByte_0.F R) (c2 : utf8_ValidRune_0.F R) (c3 : bytealg_Cutover_0.F R) (J : List Item → St → Option R) (κ : List SV → Option R) (x0 : ByteArray) (x1 : Int) (x2 : ByteArray) (x3 : Int) (x4 : Int) (x5 : Int) (x6 : Int) :
    start (strings_IndexRune_0.C R c1 c2 c3) J (retK (strings_IndexRune_0.C R c1 c2 c3) Tryd.f111.results.toList (List.range 0) κ) 10000 (placeOf Tryd.f111 12) (strings_IndexRune_0.s12 x0 x1 x2 x3 x4 x5 x6) = strings_IndexRune_0.t12 c1 c2 c3 x0 x1 x2 x3 x4 x5 x6 (fun y0 y1 y2 y3 y4 y5 => J (placeOf Tryd.f111 5) (strings_IndexRune_0.s5 y0 y1 y2 y3 y4 y5)) (fun y0 y1 y2 y3 y4 y5 y6 => J (placeOf Tryd.f111 12) (strings_IndexRune_0.s12 y0 y1 y2 y3 y4 y5 y6)) (fun y0 y1 => J (placeOf Tryd.f111 38) (strings_IndexRune_0.s38 y0 y1)) (fun r0 => κ [.int .i64 r0]) := by kernel_rfl
theorem strings_IndexRune_0.c38 (R : Type) (c1 : strings_IndexByte_0.F R) (c2 : utf8_ValidRune_0.F R) (c3 : bytealg_Cutover_0.F R) (J : List Item → St → Option R) (κ : List SV → Option R) (x0 : ByteArray) (x1 : Nat) :
    start (strings_IndexRune_0.C R c1 c2 c3) J (retK (strings_IndexRune_0.C R c1 c2 c3) Tryd.f111.results.toList (List.range 0) κ) 10000 (placeOf Tryd.f111 38) (strings_IndexRune_0.s38 x0 x1) = strings_IndexRune_0.t38 c1 c2 c3 x0 x1 (fun y0 y1 y2 y3 y4 y5 => J (placeOf Tryd.f111 5) (strings_IndexRune_0.s5 y0 y1 y2 y3 y4 y5)) (fun y0 y1 y2 y3 y4 y5 y6 => J (placeOf Tryd.f111 12) (strings_IndexRune_0.s12 y0 y1 y2 y3 y4 y5 y6)) (fun y0 y1 => J (placeOf Tryd.f111 38) (strings_IndexRune_0.s38 y0 y1)) (fun r0 => κ [.int .i64 r0]) := by kernel_rfl
theorem strings_IndexRune_0.c (R : Type) (c1 : strings_IndexByte_0.F R) (c2 : utf8_ValidRune_0.F R) (c3 : bytealg_Cutover_0.F R) (κ : List SV → Option R) (k : Nat) (a0 : ByteArray) (a1 : Int) :
    runF (strings_IndexRune_0.C R c1 c2 c3) Tryd.f111 10000 k [.str a0, .int .i32 a1] κ = strings_IndexRune_0.e c1 c2 c3 a0 a1 (fun y0 y1 y2 y3 y4 y5 => goto (strings_IndexRune_0.C R c1 c2 c3) (retK (strings_IndexRune_0.C R c1 c2 c3) Tryd.f111.results.toList (List.range 0) κ) 10000 k (placeOf Tryd.f111 5) (strings_IndexRune_0.s5 y0 y1 y2 y3 y4 y5)) (fun y0 y1 y2 y3 y4 y5 y6 => goto (strings_IndexRune_0.C R c1 c2 c3) (retK (strings_IndexRune_0.C R c1 c2 c3) Tryd.f111.results.toList (List.range 0) κ) 10000 k (placeOf Tryd.f111 12) (strings_IndexRune_0.s12 y0 y1 y2 y3 y4 y5 y6)) (fun y0 y1 => goto (strings_IndexRune_0.C R c1 c2 c3) (retK (strings_IndexRune_0.C R c1 c2 c3) Tryd.f111.results.toList (List.range 0) κ) 10000 k (placeOf Tryd.f111 38) (strings_IndexRune_0.s38 y0 y1)) (fun r0 => κ [.int .i64 r0]) := by kernel_rfl
theorem strings_IndexRune_0.gM5 (R : Type) (c1 : strings_IndexByte_0.F R) (c2 : utf8_ValidRune_0.F R) (c3 : bytealg_Cutover_0.F R) (κ : List SV → Option R) : ∀ (f : Nat), (∀ (x0 : ByteArray) (x1 : Int) (x2 : ByteArray) (x3 : Int) (x4 : Int) (x5 : Int), goto (strings_IndexRune_0.C R c1 c2 c3) (retK (strings_IndexRune_0.C R c1 c2 c3) Tryd.f111.results.toList (List.range 0) κ) 10000 f (placeOf Tryd.f111 5) (strings_IndexRune_0.s5 x0 x1 x2 x3 x4 x5) = strings_IndexRune_0.L5 c1 c2 c3 (fun r0 => κ [.int .i64 r0]) f x0 x1 x2 x3 x4 x5) ∧
    (∀ (x0 : ByteArray) (x1 : Int) (x2 : ByteArray) (x3 : Int) (x4 : Int) (x5 : Int) (x6 : Int), goto (strings_IndexRune_0.C R c1 c2 c3) (retK (strings_IndexRune_0.C R c1 c2 c3) Tryd.f111.results.toList (List.range 0) κ) 10000 f (placeOf Tryd.f111 12) (strings_IndexRune_0.s12 x0 x1 x2 x3 x4 x5 x6) = strings_IndexRune_0.L12 c1 c2 c3 (fun r0 => κ [.int .i64 r0]) f x0 x1 x2 x3 x4 x5 x6)
  | 0 => ⟨fun _ _ _ _ _ _ => rfl, fun _ _ _ _ _ _ _ => rfl⟩
  | f + 1 => by
    obtain ⟨ih0, ih1⟩ := strings_IndexRune_0.gM5 R c1 c2 c3 κ f
    refine ⟨?_, ?_⟩
    · intro x0 x1 x2 x3 x4 x5
      show start (strings_IndexRune_0.C R c1 c2 c3) (goto (strings_IndexRune_0.C R c1 c2 c3) (retK (strings_IndexRune_0.C R c1 c2 c3) Tryd.f111.results.toList (List.range 0) κ) 10000 f) (retK (strings_IndexRune_0.C R c1 c2 c3) Tryd.f111.results.toList (List.range 0) κ) 10000 (placeOf Tryd.f111 5) (strings_IndexRune_0.s5 x0 x1 x2 x3 x4 x5) = _
      rw [strings_IndexRune_0.c5]
      simp only [ih0, ih1]
      rfl
    · intro x0 x1 x2 x3 x4 x5 x6
      show start (strings_IndexRune_0.C R c1 c2 c3) (goto (strings_IndexRune_0.C R c1 c2 c3) (retK (strings_IndexRune_0.C R c1 c2 c3) Tryd.f111.results.toList (List.range 0) κ) 10000 f) (retK (strings_IndexRune_0.C R c1 c2 c3) Tryd.f111.results.toList (List.range 0) κ) 10000 (placeOf Tryd.f111 12) (strings_IndexRune_0.s12 x0 x1 x2 x3 x4 x5 x6) = _
      rw [strings_IndexRune_0.c12]
      simp only [ih0, ih1]
      rfl
theorem strings_IndexRune_0.g5 (R : Type) (c1 : strings_IndexByte_0.F R) (c2 : utf8_ValidRune_0.F R) (c3 : bytealg_Cutover_0.F R) (κ : List SV → Option R) (f : Nat) (x0 : ByteArray) (x1 : Int) (x2 : ByteArray) (x3 : Int) (x4 : Int) (x5 : Int) : goto (strings_IndexRune_0.C R c1 c2 c3) (retK (strings_IndexRune_0.C R c1 c2 c3) Tryd.f111.results.toList (List.range 0) κ) 10000 f (placeOf Tryd.f111 5) (strings_IndexRune_0.s5 x0 x1 x2 x3 x4 x5) = strings_IndexRune_0.L5 c1 c2 c3 (fun r0 => κ [.int .i64 r0]) f x0 x1 x2 x3 x4 x5 := (strings_IndexRune_0.gM5 R c1 c2 c3 κ f).1 x0 x1 x2 x3 x4 x5
theorem strings_IndexRune_0.g12 (R : Type) (c1 : strings_IndexByte_0.F R) (c2 : utf8_ValidRune_0.F R) (c3 : bytealg_Cutover_0.F R) (κ : List SV → Option R) (f : Nat) (x0 : ByteArray) (x1 : Int) (x2 : ByteArray) (x3 : Int) (x4 : Int) (x5 : Int) (x6 : Int) : goto (strings_IndexRune_0.C R c1 c2 c3) (retK (strings_IndexRune_0.C R c1 c2 c3) Tryd.f111.results.toList (List.range 0) κ) 10000 f (placeOf Tryd.f111 12) (strings_IndexRune_0.s12 x0 x1 x2 x3 x4 x5 x6) = strings_IndexRune_0.L12 c1 c2 c3 (fun r0 => κ [.int .i64 r0]) f x0 x1 x2 x3 x4 x5 x6 := (strings_IndexRune_0.gM5 R c1 c2 c3 κ f).2 x0 x1 x2 x3 x4 x5 x6
theorem strings_IndexRune_0.g38 (R : Type) (c1 : strings_IndexByte_0.F R) (c2 : utf8_ValidRune_0.F R) (c3 : bytealg_Cutover_0.F R) (κ : List SV → Option R) : ∀ (f : Nat) (x0 : ByteArray) (x1 : Nat), goto (strings_IndexRune_0.C R c1 c2 c3) (retK (strings_IndexRune_0.C R c1 c2 c3) Tryd.f111.results.toList (List.range 0) κ) 10000 f (placeOf Tryd.f111 38) (strings_IndexRune_0.s38 x0 x1) = strings_IndexRune_0.L38 c1 c2 c3 (fun r0 => κ [.int .i64 r0]) f x0 x1
  | 0, _, _ => rfl
  | f + 1, x0, x1 => by
    show start (strings_IndexRune_0.C R c1 c2 c3) (goto (strings_IndexRune_0.C R c1 c2 c3) (retK (strings_IndexRune_0.C R c1 c2 c3) Tryd.f111.results.toList (List.range 0) κ) 10000 f) (retK (strings_IndexRune_0.C R c1 c2 c3) Tryd.f111.results.toList (List.range 0) κ) 10000 (placeOf Tryd.f111 38) (strings_IndexRune_0.s38 x0 x1) = _
    rw [strings_IndexRune_0.c38]
    simp only [strings_IndexRune_0.g38 R c1 c2 c3 κ f]
    rfl
theorem strings_IndexRune_0.run (R : Type) (κ : List SV → Option R) (a0 : ByteArray) (a1 : Int) :
    runF (strings_IndexRune_0.C R strings_IndexByte_0 utf8_ValidRune_0 bytealg_Cutover_0) Tryd.f111 10000 fuelK [.str a0, .int .i32 a1] κ = strings_IndexRune_0 a0 a1 (fun r0 => κ [.int .i64 r0]) := by
  rw [strings_IndexRune_0.c]
  simp only [strings_IndexRune_0.g5 R strings_IndexByte_0 utf8_ValidRune_0 bytealg_Cutover_0 κ fuelK, strings_IndexRune_0.g12 R strings_IndexByte_0 utf8_ValidRune_0 bytealg_Cutover_0 κ fuelK, strings_IndexRune_0.g38 R strings_IndexByte_0 utf8_ValidRune_0 bytealg_Cutover_0 κ fuelK]
  rfl
theorem strings_IndexRune_0.Γ_does {R : Type} (tab : Tab) (ht : TabOk tab) (g : Nat) : Does (R := R) Tryd.prog (tabTy tyL) tab g ((strings_IndexRune_0.C R strings_IndexByte_0 utf8_ValidRune_0 bytealg_Cutover_0).call g) := by
  refine does_of fun xs κ => ?_
  show DoesAt _ _ _ g xs κ (strings_IndexRune_0.Γ strings_IndexByte_0 utf8_ValidRune_0 bytealg_Cutover_0 g xs κ)
  unfold strings_IndexRune_0.Γ
  split
  · split
    · exact strings_IndexByte_0.does tab ht _ _ κ
    · exact DoesAt.none
  · split
    · exact bytealg_Cutover_0.does tab ht _ κ
    · exact DoesAt.none
  · split
    · exact utf8_ValidRune_0.does tab ht _ κ
    · exact DoesAt.none
  · exact DoesAt.none
theorem strings_IndexRune_0.does {R : Type} (tab : Tab) (ht : TabOk tab) (a0 : ByteArray) (a1 : Int) (κ : List SV → Option R) : DoesAt Tryd.prog (tabTy tyL) tab 111 [.str a0, .int .i32 a1] κ (strings_IndexRune_0 a0 a1 (fun r0 => κ [.int .i64 r0])) := by
  intro r h w vs Rt Ra bs hpre
  exact runF_sound tyOk (strings_IndexRune_0.Γ_does tab ht) (show Tryd.prog.funcs[111]? = some Tryd.f111 by kernel_rfl) (by kernel_rfl) ((strings_IndexRune_0.run R κ a0 a1).trans h) hpre
def strings_shouldUseASCIISet_0.Γ {R : Type} (g : Nat) (xs : List SV) (κ : List SV → Option R) : Option R :=
  match g with
  | _ => none
def strings_shouldUseASCIISet_0.h (n : Nat) : Option (List (Nat × List (Nat × Nat))) :=
  match n with
  | _ => none
def strings_shouldUseASCIISet_0.C (R : Type) : Cfg R := ⟨tabTy tyL, strings_shouldUseASCIISet_0.Γ, fun _ => false, strings_shouldUseASCIISet_0.h⟩
theorem strings_shouldUseASCIISet_0.c (R : Type) (κ : List SV → Option R) (k : Nat) (a0 : Int) :
    runF (strings_shouldUseASCIISet_0.C R) Tryd.f114 10000 k [.int .i64 a0] κ = strings_shouldUseASCIISet_0.e a0 (fun r0 => κ [.bool r0]) := by kernel_rfl
theorem strings_shouldUseASCIISet_0.run (R : Type) (κ : List SV → Option R) (a0 : Int) :
    runF (strings_shouldUseASCIISet_0.C R) Tryd.f114 10000 fuelK [.int .i64 a0] κ = strings_shouldUseASCIISet_0 a0 (fun r0 => κ [.bool r0]) := by
  rw [strings_shouldUseASCIISet_0.c]
  rfl
theorem strings_shouldUseASCIISet_0.Γ_does {R : Type} (tab : Tab) (ht : TabOk tab) (g : Nat) : Does (R := R) Tryd.prog (tabTy tyL) tab g ((strings_shouldUseASCIISet_0.C R).call g) := by
  refine does_of fun xs κ => ?_
  show DoesAt _ _ _ g xs κ (strings_shouldUseASCIISet_0.Γ g xs κ)
  unfold strings_shouldUseASCIISet_0.Γ
  split
  · exact DoesAt.none
theorem strings_shouldUseASCIISet_0.does {R : Type} (tab : Tab) (ht : TabOk tab) (a0 : Int) (κ : List SV → Option R) : DoesAt Tryd.prog (tabTy tyL) tab 114 [.int .i64 a0] κ (strings_shouldUseASCIISet_0 a0 (fun r0 => κ [.bool r0])) := by
  intro r h w vs Rt Ra bs hpre
  exact runF_sound tyOk (strings_shouldUseASCIISet_0.Γ_does tab ht) (show Tryd.prog.funcs[114]? = some Tryd.f114 by kernel_rfl) (by kernel_rfl) ((strings_shouldUseASCIISet_0.run R κ a0).trans h) hpre
def strings_IndexAny_0.Γ {R : Type} (c1 : strings_IndexRune_0.F R) (c2 : strings_shouldUseASCIISet_0.F R) (c3 : strings_makeASCIISet_0.F R) (c4 : strings_asciiSet_contains_hi.F R) (g : Nat) (xs : List SV) (κ : List SV → Option R) : Option R :=
  match g with
  | 64 => (match xs with
    | [.str a0] => c3 a0 (fun r0 r1 => κ [.tup [.ar 4 256 r0, .bool r1]])
    | _ => none)
  | 93 => (match xs with
    | [.ra 4 256 a0 true, .int .u8 a1] => c4 a0 a1 (fun r0 => κ [.bool r0])
    | _ => none)
  | 111 => (match xs with
    | [.str a0, .int .i32 a1] => c1 a0 a1 (fun r0 => κ [.int .i64 r0])
    | _ => none)
  | 114 => (match xs with
    | [.int .i64 a0] => c2 a0 (fun r0 => κ [.bool r0])
    | _ => none)
  | _ => none
def strings_IndexAny_0.h (n : Nat) : Option (List (Nat × List (Nat × Nat))) :=
  match n with
  | 12 => some [(0, [(0, 0)]), (6, [(0, 1)]), (8, [(0, 0)])]
  | 18 => some [(1, [(0, 0)]), (45, [(0, 0)])]
  | _ => none
def strings_IndexAny_0.C (R : Type) (c1 : strings_IndexRune_0.F R) (c2 : strings_shouldUseASCIISet_0.F R) (c3 : strings_makeASCIISet_0.F R) (c4 : strings_asciiSet_contains_hi.F R) : Cfg R := ⟨tabTy tyL, strings_IndexAny_0.Γ c1 c2 c3 c4, fun g => Nat.beq g 93, strings_IndexAny_0.h⟩
def strings_IndexAny_0.s12 (x0 : ByteArray) (x1 : List AV) (x2 : Int) : St := ⟨mkS 55 [(0, .str x0), (6, .ra 4 256 x1 true), (8, .int .i64 x2)], [], top⟩
def strings_IndexAny_0.s18 (x0 : ByteArray) (x1 : ByteArray) (x2 : Nat) : St := ⟨mkS 55 [(1, .str x0), (45, .ptr 3007 0)], [(3007, .sit x1 x2)], top⟩
theorem strings_IndexAny_0.c12 (R : Type) (c1 : strings_IndexRune_0.F R) (c2 : strings_shouldUseASCIISet_0.F R) (c3 : strings_makeASCIISet_0.F R) (c4 : strings_asciiSet_contains_hi.F R) (J : List Item → St → Option R) (κ : List SV → Option R) (x0 : ByteArray) (x1 : List AV) (x2 : Int) :
    start (strings_IndexAny_0.C R c1 c2 c3 c4) J (retK (strings_IndexAny_0.C R c1 c2 c3 c4) Tryd.f103.results.toList (List.range 0) κ) 10000 (placeOf Tryd.f103 12) (strings_IndexAny_0.s12 x0 x1 x2) = strings_IndexAny_0.t12 c1 c2 c3 c4 x0 x1 x2 (fun y0 y1 y2 => J (placeOf Tryd.f103 12) (strings_IndexAny_0.s12 y0 y1 y2)) (fun y0 y1 y2 => J (placeOf Tryd.f103 18) (strings_IndexAny_0.s18 y0 y1 y2)) (fun r0 => κ [.int .i64 r0]) := by kernel_rfl
theorem strings_IndexAny_0.c18 (R : Type) (c1 : strings_IndexRune_0.F R) (c2 : strings_shouldUseASCIISet_0.F R) (c3 : strings_makeASCIISet_0.F R) (c4 : strings_asciiSet_contains_hi.F R) (J : List Item → St → Option R) (κ : List SV → Option R) (x0 : ByteArray) (x1 : ByteArray) (x2 : Nat) :
    start (strings_IndexAny_0.C R c1 c2 c3 c4) J (retK (strings_IndexAny_0.C R c1 c2 c3 c4) Tryd.f103.results.toList (List.range 0) κ) 10000 (placeOf Tryd.f103 18) (strings_IndexAny_0.s18 x0 x1 x2) = strings_IndexAny_0.t18 c1 c2 c3 c4 x0 x1 x2 (fun y0 y1 y2 => J (placeOf Tryd.f103 12) (strings_IndexAny_0.s12 y0 y1 y2)) (fun y0 y1 y2 => J (placeOf Tryd.f103 18) (strings_IndexAny_0.s18 y0 y1 y2)) (fun r0 => κ [.int .i64 r0]) := by kernel_rfl
theorem strings_IndexAny_0.c (R : Type) (c1 : strings_IndexRune_0.F R) (c2 : strings_shouldUseASCIISet_0.F R) (c3 : strings_makeASCIISet_0.F R) (c4 : strings_asciiSet_contains_hi.F R) (κ : List SV → Option R) (k : Nat) (a0 : ByteArray) (a1 : ByteArray) :
    runF (strings_IndexAny_0.C R c1 c2 c3 c4) Tryd.f103 10000 k [.str a0, .str a1] κ = strings_IndexAny_0.e c1 c2 c3 c4 a0 a1 (fun y0 y1 y2 => goto (strings_IndexAny_0.C R c1 c2 c3 c4) (retK (strings_IndexAny_0.C R c1 c2 c3 c4) Tryd.f103.results.toList (List.range 0) κ) 10000 k (placeOf Tryd.f103 12) (strings_IndexAny_0.s12 y0 y1 y2)) (fun y0 y1 y2 => goto (strings_IndexAny_0.C R c1 c2 c3 c4) (retK (strings_IndexAny_0.C R c1 c2 c3 c4) Tryd.f103.results.toList (List.range 0) κ) 10000 k (placeOf Tryd.f103 18) (strings_IndexAny_0.s18 y0 y1 y2)) (fun r0 => κ [.int .i64 r0]) := by kernel_rfl
theorem strings_IndexAny_0.g12 (R : Type) (c1 : strings_IndexRune_0.F R) (c2 : strings_shouldUseASCIISet_0.F R) (c3 : strings_makeASCIISet_0.F R) (c4 : strings_asciiSet_contains_hi.F R) (κ : List SV → Option R) : ∀ (f : Nat) (x0 : ByteArray) (x1 : List AV) (x2 : Int), goto (strings_IndexAny_0.C R c1 c2 c3 c4) (retK (strings_IndexAny_0.C R c1 c2 c3 c4) Tryd.f103.results.toList (List.range 0) κ) 10000 f (placeOf Tryd.f103 12) (strings_IndexAny_0.s12 x0 x1 x2) = strings_IndexAny_0.L12 c1 c2 c3 c4 (fun r0 => κ [.int .i64 r0]) f x0 x1 x2
  | 0, _, _, _ => rfl
  | f + 1, x0, x1, x2 => by
    show start (strings_IndexAny_0.C R c1 c2 c3 c4) (goto (strings_IndexAny_0.C R c1 c2 c3 c4) (retK (strings_IndexAny_0.C R c1 c2 c3 c4) Tryd.f103.results.toList (List.range 0) κ) 10000 f) (retK (strings_IndexAny_0.C R c1 c2 c3 c4) Tryd.f103.results.toList (List.range 0) κ) 10000 (placeOf Tryd.f103 12) (strings_IndexAny_0.s12 x0 x1 x2) = _
    rw [strings_IndexAny_0.c12]
    simp only [strings_IndexAny_0.g12 R c1 c2 c3 c4 κ f]
    rfl
theorem strings_IndexAny_0.g18 (R : Type) (c1 : strings_IndexRune_0.F R) (c2 : strings_shouldUseASCIISet_0.F R) (c3 : strings_makeASCIISet_0.F R) (c4 : strings_asciiSet_contains_hi.F R) (κ : List SV → Option R) : ∀ (f : Nat) (x0 : ByteArray) (x1 : ByteArray) (x2 : Nat), goto (strings_IndexAny_0.C R c1 c2 c3 c4) (retK (strings_IndexAny_0.C R c1 c2 c3 c4) Tryd.f103.results.toList (List.range 0) κ) 10000 f (placeOf Tryd.f103 18) (strings_IndexAny_0.s18 x0 x1 x2) = strings_IndexAny_0.L18 c1 c2 c3 c4 (fun r0 => κ [.int .i64 r0]) f x0 x1 x2
  | 0, _, _, _ => rfl
  | f + 1, x0, x1, x2 => by
    show start (strings_IndexAny_0.C R c1 c2 c3 c4) (goto (strings_IndexAny_0.C R c1 c2 c3 c4) (retK (strings_IndexAny_0.C R c1 c2 c3 c4) Tryd.f103.results.toList (List.range 0) κ) 10000 f) (retK (strings_IndexAny_0.C R c1 c2 c3 c4) Tryd.f103.results.toList (List.range 0) κ) 10000 (placeOf Tryd.f103 18) (strings_IndexAny_0.s18 x0 x1 x2) = _
    rw [strings_IndexAny_0.c18]
    simp only [strings_IndexAny_0.g18 R c1 c2 c3 c4 κ f]
    rfl
theorem strings_IndexAny_0.run (R : Type) (κ : List SV → Option R) (a0 : ByteArray) (a1 : ByteArray) :
    runF (strings_IndexAny_0.C R strings_IndexRune_0 strings_shouldUseASCIISet_0 strings_makeASCIISet_0 strings_asciiSet_contains_hi) Tryd.f103 10000 fuelK [.str a0, .str a1] κ = strings_IndexAny_0 a0 a1 (fun r0 => κ [.int .i64 r0]) := by
  rw [strings_IndexAny_0.c]
  simp only [strings_IndexAny_0.g12 R strings_IndexRune_0 strings_shouldUseASCIISet_0 strings_makeASCIISet_0 strings_asciiSet_contains_hi κ fuelK, strings_IndexAny_0.g18 R strings_IndexRune_0 strings_shouldUseASCIISet_0 strings_makeASCIISet_0 strings_asciiSet_contains_hi κ fuelK]
  rfl
theorem strings_IndexAny_0.Γ_does {R : Type} (tab : Tab) (ht : TabOk tab) (g : Nat) : Does (R := R) Tryd.prog (tabTy tyL) tab g ((strings_IndexAny_0.C R strings_IndexRune_0 strings_shouldUseASCIISet_0 strings_makeASCIISet_0 strings_asciiSet_contains_hi).call g) := by
  refine does_of fun xs κ => ?_
  show DoesAt _ _ _ g xs κ (strings_IndexAny_0.Γ strings_IndexRune_0 strings_shouldUseASCIISet_0 strings_makeASCIISet_0 strings_asciiSet_contains_hi g xs κ)
  unfold strings_IndexAny_0.Γ
  split
  · split
    · exact strings_makeASCIISet_0.does tab ht _ κ
    · exact DoesAt.none
  · split
    · exact strings_asciiSet_contains_hi.does tab ht _ _ κ
    · exact DoesAt.none
  · split
    · exact strings_IndexRune_0.does tab ht _ _ κ
    · exact DoesAt.none
  · split
    · exact strings_shouldUseASCIISet_0.does tab ht _ κ
    · exact DoesAt.none
  · exact DoesAt.none
theorem strings_IndexAny_0.does {R : Type} (tab : Tab) (ht : TabOk tab) (a0 : ByteArray) (a1 : ByteArray) (κ : List SV → Option R) : DoesAt Tryd.prog (tabTy tyL) tab 103 [.str a0, .str a1] κ (strings_IndexAny_0 a0 a1 (fun r0 => κ [.int .i64 r0])) := by
  intro r h w vs Rt Ra bs hpre
  exact runF_sound tyOk (strings_IndexAny_0.Γ_does tab ht) (show Tryd.prog.funcs[103]? = some Tryd.f103 by kernel_rfl) (by kernel_rfl) ((strings_IndexAny_0.run R κ a0 a1).trans h) hpre
def letter_blanks_0.Γ {R : Type} (g : Nat) (xs : List SV) (κ : List SV → Option R) : Option R :=
  match g with
  | _ => none
def letter_blanks_0.h (n : Nat) : Option (List (Nat × List (Nat × Nat))) :=
  match n with
  | 1 => some [(0, [(0, 0)]), (1, [(0, 0)])]
  | _ => none
def letter_blanks_0.C (R : Type) : Cfg R := ⟨tabTy tyL, letter_blanks_0.Γ, fun _ => false, letter_blanks_0.h⟩
def letter_blanks_0.s1 (x0 : ByteArray) (x1 : Int) : St := ⟨mkS 18 [(0, .str x0), (1, .int .i64 x1)], [], top⟩
theorem letter_blanks_0.c1 (R : Type) (J : List Item → St → Option R) (κ : List SV → Option R) (x0 : ByteArray) (x1 : Int) :
    start (letter_blanks_0.C R) J (retK (letter_blanks_0.C R) Tryd.f102.results.toList (List.range 0) κ) 10000 (placeOf Tryd.f102 1) (letter_blanks_0.s1 x0 x1) = letter_blanks_0.t1 x0 x1 (fun y0 y1 => J (placeOf Tryd.f102 1) (letter_blanks_0.s1 y0 y1)) (fun r0 => κ [.int .i64 r0]) := by kernel_rfl
theorem letter_blanks_0.c (R : Type) (κ : List SV → Option R) (k : Nat) (a0 : ByteArray) (a1 : Int) :
    runF (letter_blanks_0.C R) Tryd.f102 10000 k [.str a0, .int .i64 a1] κ = letter_blanks_0.e a0 a1 (fun y0 y1 => goto (letter_blanks_0.C R) (retK (letter_blanks_0.C R) Tryd.f102.results.toList (List.range 0) κ) 10000 k (placeOf Tryd.f102 1) (letter_blanks_0.s1 y0 y1)) (fun r0 => κ [.int .i64 r0]) := by kernel_rfl
theorem letter_blanks_0.g1 (R : Type) (κ : List SV → Option R) : ∀ (f : Nat) (x0 : ByteArray) (x1 : Int), goto (letter_blanks_0.C R) (retK (letter_blanks_0.C R) Tryd.f102.results.toList (List.range 0) κ) 10000 f (placeOf Tryd.f102 1) (letter_blanks_0.s1 x0 x1) = letter_blanks_0.L1 (fun r0 => κ [.int .i64 r0]) f x0 x1
  | 0, _, _ => rfl
  | f + 1, x0, x1 => by
    show start (letter_blanks_0.C R) (goto (letter_blanks_0.C R) (retK (letter_blanks_0.C R) Tryd.f102.results.toList (List.range 0) κ) 10000 f) (retK (letter_blanks_0.C R) Tryd.f102.results.toList (List.range 0) κ) 10000 (placeOf Tryd.f102 1) (letter_blanks_0.s1 x0 x1) = _
    rw [letter_blanks_0.c1]
    simp only [letter_blanks_0.g1 R κ f]
    rfl
theorem letter_blanks_0.run (R : Type) (κ : List SV → Option R) (a0 : ByteArray) (a1 : Int) :
    runF (letter_blanks_0.C R) Tryd.f102 10000 fuelK [.str a0, .int .i64 a1] κ = letter_blanks_0 a0 a1 (fun r0 => κ [.int .i64 r0]) := by
  rw [letter_blanks_0.c]
  simp only [letter_blanks_0.g1 R κ fuelK]
  rfl
theorem letter_blanks_0.Γ_does {R : Type} (tab : Tab) (ht : TabOk tab) (g : Nat) : Does (R := R) Tryd.prog (tabTy tyL) tab g ((letter_blanks_0.C R).call g) := by
  refine does_of fun xs κ => ?_
  show DoesAt _ _ _ g xs κ (letter_blanks_0.Γ g xs κ)
  unfold letter_blanks_0.Γ
  split
  · exact DoesAt.none
theorem letter_blanks_0.does {R : Type} (tab : Tab) (ht : TabOk tab) (a0 : ByteArray) (a1 : Int) (κ : List SV → Option R) : DoesAt Tryd.prog (tabTy tyL) tab 102 [.str a0, .int .i64 a1] κ (letter_blanks_0 a0 a1 (fun r0 => κ [.int .i64 r0])) := by
  intro r h w vs Rt Ra bs hpre
  exact runF_sound tyOk (letter_blanks_0.Γ_does tab ht) (show Tryd.prog.funcs[102]? = some Tryd.f102 by kernel_rfl) (by kernel_rfl) ((letter_blanks_0.run R κ a0 a1).trans h) hpre
def letter_blob_0.Γ {R : Type} (c1 : strings_IndexAny_0.F R) (c2 : letter_blanks_0.F R) (g : Nat) (xs : List SV) (κ : List SV → Option R) : Option R :=
  match g with
  | 102 => (match xs with
    | [.str a0, .int .i64 a1] => c2 a0 a1 (fun r0 => κ [.int .i64 r0])
    | _ => none)
  | 103 => (match xs with
    | [.str a0, .str a1] => c1 a0 a1 (fun r0 => κ [.int .i64 r0])
    | _ => none)
  | _ => none
def letter_blob_0.h (n : Nat) : Option (List (Nat × List (Nat × Nat))) :=
  match n with
  | _ => none
def letter_blob_0.C (R : Type) (c1 : strings_IndexAny_0.F R) (c2 : letter_blanks_0.F R) : Cfg R := ⟨tabTy tyL, letter_blob_0.Γ c1 c2, fun _ => false, letter_blob_0.h⟩
theorem letter_blob_0.c (R : Type) (c1 : strings_IndexAny_0.F R) (c2 : letter_blanks_0.F R) (κ : List SV → Option R) (k : Nat) (a0 : ByteArray) :
    runF (letter_blob_0.C R c1 c2) Tryd.f84 10000 k [.str a0] κ = letter_blob_0.e c1 c2 a0 (fun r0 => κ [.int .i64 r0]) := by kernel_rfl
theorem letter_blob_0.run (R : Type) (κ : List SV → Option R) (a0 : ByteArray) :
    runF (letter_blob_0.C R strings_IndexAny_0 letter_blanks_0) Tryd.f84 10000 fuelK [.str a0] κ = letter_blob_0 a0 (fun r0 => κ [.int .i64 r0]) := by
  rw [letter_blob_0.c]
  rfl
theorem letter_blob_0.Γ_does {R : Type} (tab : Tab) (ht : TabOk tab) (g : Nat) : Does (R := R) Tryd.prog (tabTy tyL) tab g ((letter_blob_0.C R strings_IndexAny_0 letter_blanks_0).call g) := by
  refine does_of fun xs κ => ?_
  show DoesAt _ _ _ g xs κ (letter_blob_0.Γ strings_IndexAny_0 letter_blanks_0 g xs κ)
  unfold letter_blob_0.Γ
  split
  · split
    · exact letter_blanks_0.does tab ht _ _ κ
    · exact DoesAt.none
  · split
    · exact strings_IndexAny_0.does tab ht _ _ κ
    · exact DoesAt.none
  · exact DoesAt.none
theorem letter_blob_0.does {R : Type} (tab : Tab) (ht : TabOk tab) (a0 : ByteArray) (κ : List SV → Option R) : DoesAt Tryd.prog (tabTy tyL) tab 84 [.str a0] κ (letter_blob_0 a0 (fun r0 => κ [.int .i64 r0])) := by
  intro r h w vs Rt Ra bs hpre
  exact runF_sound tyOk (letter_blob_0.Γ_does tab ht) (show Tryd.prog.funcs[84]? = some Tryd.f84 by kernel_rfl) (by kernel_rfl) ((letter_blob_0.run R κ a0).trans h) hpre
def letter_rules_5_0.Γ {R : Type} (c1 : letter_blob_0.F R) (g : Nat) (xs : List SV) (κ : List SV → Option R) : Option R :=
  match g with
  | 84 => (match xs with
    | [.str a0] => c1 a0 (fun r0 => κ [.int .i64 r0])
    | _ => none)
  | _ => none
def letter_rules_5_0.h (n : Nat) : Option (List (Nat × List (Nat × Nat))) :=
  match n with
  | _ => none
def letter_rules_5_0.C (R : Type) (c1 : letter_blob_0.F R) : Cfg R := ⟨tabTy tyL, letter_rules_5_0.Γ c1, fun _ => false, letter_rules_5_0.h⟩
theorem letter_rules_5_0.c (R : Type) (c1 : letter_blob_0.F R) (κ : List SV → Option R) (k : Nat) (a0 : ByteArray) :
    runF (letter_rules_5_0.C R c1) Tryd.f83 10000 k [.str a0] κ = letter_rules_5_0.e c1 a0 (fun r0 r1 => κ [.tup [.str r0, .bool r1]]) := by kernel_rfl
theorem letter_rules_5_0.run (R : Type) (κ : List SV → Option R) (a0 : ByteArray) :
    runF (letter_rules_5_0.C R letter_blob_0) Tryd.f83 10000 fuelK [.str a0] κ = letter_rules_5_0 a0 (fun r0 r1 => κ [.tup [.str r0, .bool r1]]) := by
  rw [letter_rules_5_0.c]
  rfl
theorem letter_rules_5_0.Γ_does {R : Type} (tab : Tab) (ht : TabOk tab) (g : Nat) : Does (R := R) Tryd.prog (tabTy tyL) tab g ((letter_rules_5_0.C R letter_blob_0).call g) := by
  refine does_of fun xs κ => ?_
  show DoesAt _ _ _ g xs κ (letter_rules_5_0.Γ letter_blob_0 g xs κ)
  unfold letter_rules_5_0.Γ
  split
  · split
    · exact letter_blob_0.does tab ht _ κ
    · exact DoesAt.none
  · exact DoesAt.none
theorem letter_rules_5_0.does {R : Type} (tab : Tab) (ht : TabOk tab) (a0 : ByteArray) (κ : List SV → Option R) : DoesAt Tryd.prog (tabTy tyL) tab 83 [.str a0] κ (letter_rules_5_0 a0 (fun r0 r1 => κ [.tup [.str r0, .bool r1]])) := by
  intro r h w vs Rt Ra bs hpre
  exact runF_sound tyOk (letter_rules_5_0.Γ_does tab ht) (show Tryd.prog.funcs[83]? = some Tryd.f83 by kernel_rfl) (by kernel_rfl) ((letter_rules_5_0.run R κ a0).trans h) hpre
def letter_answered_0.Γ {R : Type} (c1 : letter_blob_0.F R) (c2 : letter_begin_0.F R) (c3 : letter_blanks_0.F R) (g : Nat) (xs : List SV) (κ : List SV → Option R) : Option R :=
  match g with
  | 84 => (match xs with
    | [.str a0] => c1 a0 (fun r0 => κ [.int .i64 r0])
    | _ => none)
  | 86 => (match xs with
    | [.str a0, .str a1] => c2 a0 a1 (fun r0 => κ [.bool r0])
    | _ => none)
  | 102 => (match xs with
    | [.str a0, .int .i64 a1] => c3 a0 a1 (fun r0 => κ [.int .i64 r0])
    | _ => none)
  | _ => none
def letter_answered_0.h (n : Nat) : Option (List (Nat × List (Nat × Nat))) :=
  match n with
  | 3 => some [(0, [(0, 0)]), (3, [(0, 0)]), (4, [(0, 0)])]
  | 7 => some [(0, [(0, 0)]), (3, [(0, 0)]), (19, [(0, 0)]), (20, [(0, 0)]), (21, [(0, 0)])]
  | _ => none
def letter_answered_0.C (R : Type) (c1 : letter_blob_0.F R) (c2 : letter_begin_0.F R) (c3 : letter_blanks_0.F R) : Cfg R := ⟨tabTy tyL, letter_answered_0.Γ c1 c2 c3, fun _ => false, letter_answered_0.h⟩
def letter_answered_0.s3 (x0 : ByteArray) (x1 : Int) (x2 : Int) : St := ⟨mkS 56 [(0, .str x0), (3, .int .i64 x1), (4, .int .i64 x2)], [], top⟩
def letter_answered_0.s7 (x0 : ByteArray) (x1 : Int) (x2 : Int) (x3 : Int) (x4 : List AV) : St := ⟨mkS 56 [(0, .str x0), (3, .int .i64 x1), (19, .own 1280), (20, .int .i64 x2), (21, .int .i64 x3)], [(1280, .row 9 x4 true)], top⟩
theorem letter_answered_0.c3 (R : Type) (c1 : letter_blob_0.F R) (c2 : letter_begin_0.F R) (c3 : letter_blanks_0.F R) (J : List Item → St → Option R) (κ : List SV → Option R) (x0 : ByteArray) (x1 : Int) (x2 : Int) :
    start (letter_answered_0.C R c1 c2 c3) J (retK (letter_answered_0.C R c1 c2 c3) Tryd.f82.results.toList (List.range 0) κ) 10000 (placeOf Tryd.f82 3) (letter_answered_0.s3 x0 x1 x2) = letter_answered_0.t3 c1 c2 c3 x0 x1 x2 (fun y0 y1 y2 => J (placeOf Tryd.f82 3) (letter_answered_0.s3 y0 y1 y2)) (fun y0 y1 y2 y3 y4 => J (placeOf Tryd.f82 7) (letter_answered_0.s7 y0 y1 y2 y3 y4)) (fun r0 => κ [.int .i64 r0]) := by kernel_rfl
theorem letter_answered_0.c7 (R : Type) (c1 : letter_blob_0.F R) (c2 : letter_begin_0.F R) (c3 : letter_blanks_0.F R) (J : List Item → St → Option R) (κ : List SV → Option R) (x0 : ByteArray) (x1 : Int) (x2 : Int) (x3 : Int) (x4 : List AV) :
    start (letter_answered_0.C R c1 c2 c3) J (retK (letter_answered_0.C R c1 c2 c3) Tryd.f82.results.toList (List.range 0) κ) 10000 (placeOf Tryd.f82 7) (letter_answered_0.s7 x0 x1 x2 x3 x4) = letter_answered_0.t7 c1 c2 c3 x0 x1 x2 x3 x4 (fun y0 y1 y2 => J (placeOf Tryd.f82 3) (letter_answered_0.s3 y0 y1 y2)) (fun y0 y1 y2 y3 y4 => J (placeOf Tryd.f82 7) (letter_answered_0.s7 y0 y1 y2 y3 y4)) (fun r0 => κ [.int .i64 r0]) := by kernel_rfl
theorem letter_answered_0.c (R : Type) (c1 : letter_blob_0.F R) (c2 : letter_begin_0.F R) (c3 : letter_blanks_0.F R) (κ : List SV → Option R) (k : Nat) (a0 : ByteArray) :
    runF (letter_answered_0.C R c1 c2 c3) Tryd.f82 10000 k [.str a0] κ = letter_answered_0.e c1 c2 c3 a0 (fun y0 y1 y2 => goto (letter_answered_0.C R c1 c2 c3) (retK (letter_answered_0.C R c1 c2 c3) Tryd.f82.results.toList (List.range 0) κ) 10000 k (placeOf Tryd.f82 3) (letter_answered_0.s3 y0 y1 y2)) (fun y0 y1 y2 y3 y4 => goto (letter_answered_0.C R c1 c2 c3) (retK (letter_answered_0.C R c1 c2 c3) Tryd.f82.results.toList (List.range 0) κ) 10000 k (placeOf Tryd.f82 7) (letter_answered_0.s7 y0 y1 y2 y3 y4)) (fun r0 => κ [.int .i64 r0]) := by kernel_rfl
theorem letter_answered_0.g7 (R : Type) (c1 : letter_blob_0.F R) (c2 : letter_begin_0.F R) (c3 : letter_blanks_0.F R) (κ : List SV → Option R) : ∀ (f : Nat) (x0 : ByteArray) (x1 : Int) (x2 : Int) (x3 : Int) (x4 : List AV), goto (letter_answered_0.C R c1 c2 c3) (retK (letter_answered_0.C R c1 c2 c3) Tryd.f82.results.toList (List.range 0) κ) 10000 f (placeOf Tryd.f82 7) (letter_answered_0.s7 x0 x1 x2 x3 x4) = letter_answered_0.L7 c1 c2 c3 (fun r0 => κ [.int .i64 r0]) f x0 x1 x2 x3 x4
  | 0, _, _, _, _, _ => rfl
  | f + 1, x0, x1, x2, x3, x4 => by
    show start (letter_answered_0.C R c1 c2 c3) (goto (letter_answered_0.C R c1 c2 c3) (retK (letter_answered_0.C R c1 c2 c3) Tryd.f82.results.toList (List.range 0) κ) 10000 f) (retK (letter_answered_0.C R c1 c2 c3) Tryd.f82.results.toList (List.range 0) κ) 10000 (placeOf Tryd.f82 7) (letter_answered_0.s7 x0 x1 x2 x3 x4) = _
    rw [letter_answered_0.c7]
    simp only [letter_answered_0.g7 R c1 c2 c3 κ f]
    rfl
theorem letter_answered_0.g3 (R : Type) (c1 : letter_blob_0.F R) (c2 : letter_begin_0.F R) (c3 : letter_blanks_0.F R) (κ : List SV → Option R) : ∀ (f : Nat) (x0 : ByteArray) (x1 : Int) (x2 : Int), goto (letter_answered_0.C R c1 c2 c3) (retK (letter_answered_0.C R c1 c2 c3) Tryd.f82.results.toList (List.range 0) κ) 10000 f (placeOf Tryd.f82 3) (letter_answered_0.s3 x0 x1 x2) = letter_answered_0.L3 c1 c2 c3 (fun r0 => κ [.int .i64 r0]) f x0 x1 x2
  | 0, _, _, _ => rfl
  | f + 1, x0, x1, x2 => by
    show start (letter_answered_0.C R c1 c2 c3) (goto (letter_answered_0.C R c1 c2 c3) (retK (letter_answered_0.C R c1 c2 c3) Tryd.f82.results.toList (List.range 0) κ) 10000 f) (retK (letter_answered_0.C R c1 c2 c3) Tryd.f82.results.toList (List.range 0) κ) 10000 (placeOf Tryd.f82 3) (letter_answered_0.s3 x0 x1 x2) = _
    rw [letter_answered_0.c3]
    simp only [letter_answered_0.g3 R c1 c2 c3 κ f, letter_answered_0.g7 R c1 c2 c3 κ f]
    rfl
theorem letter_answered_0.run (R : Type) (κ : List SV → Option R) (a0 : ByteArray) :
    runF (letter_answered_0.C R letter_blob_0 letter_begin_0 letter_blanks_0) Tryd.f82 10000 fuelK [.str a0] κ = letter_answered_0 a0 (fun r0 => κ [.int .i64 r0]) := by
  rw [letter_answered_0.c]
  simp only [letter_answered_0.g3 R letter_blob_0 letter_begin_0 letter_blanks_0 κ fuelK, letter_answered_0.g7 R letter_blob_0 letter_begin_0 letter_blanks_0 κ fuelK]
  rfl
theorem letter_answered_0.Γ_does {R : Type} (tab : Tab) (ht : TabOk tab) (g : Nat) : Does (R := R) Tryd.prog (tabTy tyL) tab g ((letter_answered_0.C R letter_blob_0 letter_begin_0 letter_blanks_0).call g) := by
  refine does_of fun xs κ => ?_
  show DoesAt _ _ _ g xs κ (letter_answered_0.Γ letter_blob_0 letter_begin_0 letter_blanks_0 g xs κ)
  unfold letter_answered_0.Γ
  split
  · split
    · exact letter_blob_0.does tab ht _ κ
    · exact DoesAt.none
  · split
    · exact letter_begin_0.does tab ht _ _ κ
    · exact DoesAt.none
  · split
    · exact letter_blanks_0.does tab ht _ _ κ
    · exact DoesAt.none
  · exact DoesAt.none
theorem letter_answered_0.does {R : Type} (tab : Tab) (ht : TabOk tab) (a0 : ByteArray) (κ : List SV → Option R) : DoesAt Tryd.prog (tabTy tyL) tab 82 [.str a0] κ (letter_answered_0 a0 (fun r0 => κ [.int .i64 r0])) := by
  intro r h w vs Rt Ra bs hpre
  exact runF_sound tyOk (letter_answered_0.Γ_does tab ht) (show Tryd.prog.funcs[82]? = some Tryd.f82 by kernel_rfl) (by kernel_rfl) ((letter_answered_0.run R κ a0).trans h) hpre
def letter_rules_4_0.Γ {R : Type} (c1 : letter_answered_0.F R) (g : Nat) (xs : List SV) (κ : List SV → Option R) : Option R :=
  match g with
  | 82 => (match xs with
    | [.str a0] => c1 a0 (fun r0 => κ [.int .i64 r0])
    | _ => none)
  | _ => none
def letter_rules_4_0.h (n : Nat) : Option (List (Nat × List (Nat × Nat))) :=
  match n with
  | _ => none
def letter_rules_4_0.C (R : Type) (c1 : letter_answered_0.F R) : Cfg R := ⟨tabTy tyL, letter_rules_4_0.Γ c1, fun _ => false, letter_rules_4_0.h⟩
theorem letter_rules_4_0.c (R : Type) (c1 : letter_answered_0.F R) (κ : List SV → Option R) (k : Nat) (a0 : ByteArray) :
    runF (letter_rules_4_0.C R c1) Tryd.f81 10000 k [.str a0] κ = letter_rules_4_0.e c1 a0 (fun r0 r1 => κ [.tup [.str r0, .bool r1]]) := by kernel_rfl
theorem letter_rules_4_0.run (R : Type) (κ : List SV → Option R) (a0 : ByteArray) :
    runF (letter_rules_4_0.C R letter_answered_0) Tryd.f81 10000 fuelK [.str a0] κ = letter_rules_4_0 a0 (fun r0 r1 => κ [.tup [.str r0, .bool r1]]) := by
  rw [letter_rules_4_0.c]
  rfl
theorem letter_rules_4_0.Γ_does {R : Type} (tab : Tab) (ht : TabOk tab) (g : Nat) : Does (R := R) Tryd.prog (tabTy tyL) tab g ((letter_rules_4_0.C R letter_answered_0).call g) := by
  refine does_of fun xs κ => ?_
  show DoesAt _ _ _ g xs κ (letter_rules_4_0.Γ letter_answered_0 g xs κ)
  unfold letter_rules_4_0.Γ
  split
  · split
    · exact letter_answered_0.does tab ht _ κ
    · exact DoesAt.none
  · exact DoesAt.none
theorem letter_rules_4_0.does {R : Type} (tab : Tab) (ht : TabOk tab) (a0 : ByteArray) (κ : List SV → Option R) : DoesAt Tryd.prog (tabTy tyL) tab 81 [.str a0] κ (letter_rules_4_0 a0 (fun r0 r1 => κ [.tup [.str r0, .bool r1]])) := by
  intro r h w vs Rt Ra bs hpre
  exact runF_sound tyOk (letter_rules_4_0.Γ_does tab ht) (show Tryd.prog.funcs[81]? = some Tryd.f81 by kernel_rfl) (by kernel_rfl) ((letter_rules_4_0.run R κ a0).trans h) hpre
def stringslite_CutPrefix_0.Γ {R : Type} (c1 : stringslite_HasPrefix_0.F R) (g : Nat) (xs : List SV) (κ : List SV → Option R) : Option R :=
  match g with
  | 55 => (match xs with
    | [.str a0, .str a1] => c1 a0 a1 (fun r0 => κ [.bool r0])
    | _ => none)
  | _ => none
def stringslite_CutPrefix_0.h (n : Nat) : Option (List (Nat × List (Nat × Nat))) :=
  match n with
  | _ => none
def stringslite_CutPrefix_0.C (R : Type) (c1 : stringslite_HasPrefix_0.F R) : Cfg R := ⟨tabTy tyL, stringslite_CutPrefix_0.Γ c1, fun _ => false, stringslite_CutPrefix_0.h⟩
theorem stringslite_CutPrefix_0.c (R : Type) (c1 : stringslite_HasPrefix_0.F R) (κ : List SV → Option R) (k : Nat) (a0 : ByteArray) (a1 : ByteArray) :
    runF (stringslite_CutPrefix_0.C R c1) Tryd.f101 10000 k [.str a0, .str a1] κ = stringslite_CutPrefix_0.e c1 a0 a1 (fun r0 r1 => κ [.tup [.str r0, .bool r1]]) := by kernel_rfl
theorem stringslite_CutPrefix_0.run (R : Type) (κ : List SV → Option R) (a0 : ByteArray) (a1 : ByteArray) :
    runF (stringslite_CutPrefix_0.C R stringslite_HasPrefix_0) Tryd.f101 10000 fuelK [.str a0, .str a1] κ = stringslite_CutPrefix_0 a0 a1 (fun r0 r1 => κ [.tup [.str r0, .bool r1]]) := by
  rw [stringslite_CutPrefix_0.c]
  rfl
theorem stringslite_CutPrefix_0.Γ_does {R : Type} (tab : Tab) (ht : TabOk tab) (g : Nat) : Does (R := R) Tryd.prog (tabTy tyL) tab g ((stringslite_CutPrefix_0.C R stringslite_HasPrefix_0).call g) := by
  refine does_of fun xs κ => ?_
  show DoesAt _ _ _ g xs κ (stringslite_CutPrefix_0.Γ stringslite_HasPrefix_0 g xs κ)
  unfold stringslite_CutPrefix_0.Γ
  split
  · split
    · exact stringslite_HasPrefix_0.does tab ht _ _ κ
    · exact DoesAt.none
  · exact DoesAt.none
theorem stringslite_CutPrefix_0.does {R : Type} (tab : Tab) (ht : TabOk tab) (a0 : ByteArray) (a1 : ByteArray) (κ : List SV → Option R) : DoesAt Tryd.prog (tabTy tyL) tab 101 [.str a0, .str a1] κ (stringslite_CutPrefix_0 a0 a1 (fun r0 r1 => κ [.tup [.str r0, .bool r1]])) := by
  intro r h w vs Rt Ra bs hpre
  exact runF_sound tyOk (stringslite_CutPrefix_0.Γ_does tab ht) (show Tryd.prog.funcs[101]? = some Tryd.f101 by kernel_rfl) (by kernel_rfl) ((stringslite_CutPrefix_0.run R κ a0 a1).trans h) hpre
def strings_CutPrefix_0.Γ {R : Type} (c1 : stringslite_CutPrefix_0.F R) (g : Nat) (xs : List SV) (κ : List SV → Option R) : Option R :=
  match g with
  | 101 => (match xs with
    | [.str a0, .str a1] => c1 a0 a1 (fun r0 r1 => κ [.tup [.str r0, .bool r1]])
    | _ => none)
  | _ => none
def strings_CutPrefix_0.h (n : Nat) : Option (List (Nat × List (Nat × Nat))) :=
  match n with
  | _ => none
def strings_CutPrefix_0.C (R : Type) (c1 : stringslite_CutPrefix_0.F R) : Cfg R := ⟨tabTy tyL, strings_CutPrefix_0.Γ c1, fun _ => false, strings_CutPrefix_0.h⟩
theorem strings_CutPrefix_0.c (R : Type) (c1 : stringslite_CutPrefix_0.F R) (κ : List SV → Option R) (k : Nat) (a0 : ByteArray) (a1 : ByteArray) :
    runF (strings_CutPrefix_0.C R c1) Tryd.f80 10000 k [.str a0, .str a1] κ = strings_CutPrefix_0.e c1 a0 a1 (fun r0 r1 => κ [.tup [.str r0, .bool r1]]) := by kernel_rfl
theorem strings_CutPrefix_0.run (R : Type) (κ : List SV → Option R) (a0 : ByteArray) (a1 : ByteArray) :
    runF (strings_CutPrefix_0.C R stringslite_CutPrefix_0) Tryd.f80 10000 fuelK [.str a0, .str a1] κ = strings_CutPrefix_0 a0 a1 (fun r0 r1 => κ [.tup [.str r0, .bool r1]]) := by
  rw [strings_CutPrefix_0.c]
  rfl
theorem strings_CutPrefix_0.Γ_does {R : Type} (tab : Tab) (ht : TabOk tab) (g : Nat) : Does (R := R) Tryd.prog (tabTy tyL) tab g ((strings_CutPrefix_0.C R stringslite_CutPrefix_0).call g) := by
  refine does_of fun xs κ => ?_
  show DoesAt _ _ _ g xs κ (strings_CutPrefix_0.Γ stringslite_CutPrefix_0 g xs κ)
  unfold strings_CutPrefix_0.Γ
  split
  · split
    · exact stringslite_CutPrefix_0.does tab ht _ _ κ
    · exact DoesAt.none
  · exact DoesAt.none
theorem strings_CutPrefix_0.does {R : Type} (tab : Tab) (ht : TabOk tab) (a0 : ByteArray) (a1 : ByteArray) (κ : List SV → Option R) : DoesAt Tryd.prog (tabTy tyL) tab 80 [.str a0, .str a1] κ (strings_CutPrefix_0 a0 a1 (fun r0 r1 => κ [.tup [.str r0, .bool r1]])) := by
  intro r h w vs Rt Ra bs hpre
  exact runF_sound tyOk (strings_CutPrefix_0.Γ_does tab ht) (show Tryd.prog.funcs[80]? = some Tryd.f80 by kernel_rfl) (by kernel_rfl) ((strings_CutPrefix_0.run R κ a0 a1).trans h) hpre
def letter_rules_3_0.Γ {R : Type} (c1 : strings_CutPrefix_0.F R) (g : Nat) (xs : List SV) (κ : List SV → Option R) : Option R :=
  match g with
  | 80 => (match xs with
    | [.str a0, .str a1] => c1 a0 a1 (fun r0 r1 => κ [.tup [.str r0, .bool r1]])
    | _ => none)
  | _ => none
def letter_rules_3_0.h (n : Nat) : Option (List (Nat × List (Nat × Nat))) :=
  match n with
  | _ => none
def letter_rules_3_0.C (R : Type) (c1 : strings_CutPrefix_0.F R) : Cfg R := ⟨tabTy tyL, letter_rules_3_0.Γ c1, fun _ => false, letter_rules_3_0.h⟩
theorem letter_rules_3_0.c (R : Type) (c1 : strings_CutPrefix_0.F R) (κ : List SV → Option R) (k : Nat) (a0 : ByteArray) :
    runF (letter_rules_3_0.C R c1) Tryd.f79 10000 k [.str a0] κ = letter_rules_3_0.e c1 a0 (fun r0 r1 => κ [.tup [.str r0, .bool r1]]) := by kernel_rfl
theorem letter_rules_3_0.run (R : Type) (κ : List SV → Option R) (a0 : ByteArray) :
    runF (letter_rules_3_0.C R strings_CutPrefix_0) Tryd.f79 10000 fuelK [.str a0] κ = letter_rules_3_0 a0 (fun r0 r1 => κ [.tup [.str r0, .bool r1]]) := by
  rw [letter_rules_3_0.c]
  rfl
theorem letter_rules_3_0.Γ_does {R : Type} (tab : Tab) (ht : TabOk tab) (g : Nat) : Does (R := R) Tryd.prog (tabTy tyL) tab g ((letter_rules_3_0.C R strings_CutPrefix_0).call g) := by
  refine does_of fun xs κ => ?_
  show DoesAt _ _ _ g xs κ (letter_rules_3_0.Γ strings_CutPrefix_0 g xs κ)
  unfold letter_rules_3_0.Γ
  split
  · split
    · exact strings_CutPrefix_0.does tab ht _ _ κ
    · exact DoesAt.none
  · exact DoesAt.none
theorem letter_rules_3_0.does {R : Type} (tab : Tab) (ht : TabOk tab) (a0 : ByteArray) (κ : List SV → Option R) : DoesAt Tryd.prog (tabTy tyL) tab 79 [.str a0] κ (letter_rules_3_0 a0 (fun r0 r1 => κ [.tup [.str r0, .bool r1]])) := by
  intro r h w vs Rt Ra bs hpre
  exact runF_sound tyOk (letter_rules_3_0.Γ_does tab ht) (show Tryd.prog.funcs[79]? = some Tryd.f79 by kernel_rfl) (by kernel_rfl) ((letter_rules_3_0.run R κ a0).trans h) hpre
def letter_rules_2_0.Γ {R : Type} (c1 : octet_Same_0.F R) (g : Nat) (xs : List SV) (κ : List SV → Option R) : Option R :=
  match g with
  | 33 => (match xs with
    | [.str a0, .str a1] => c1 a0 a1 (fun r0 => κ [.bool r0])
    | _ => none)
  | _ => none
def letter_rules_2_0.h (n : Nat) : Option (List (Nat × List (Nat × Nat))) :=
  match n with
  | _ => none
def letter_rules_2_0.C (R : Type) (c1 : octet_Same_0.F R) : Cfg R := ⟨tabTy tyL, letter_rules_2_0.Γ c1, fun _ => false, letter_rules_2_0.h⟩
theorem letter_rules_2_0.c (R : Type) (c1 : octet_Same_0.F R) (κ : List SV → Option R) (k : Nat) (a0 : ByteArray) :
    runF (letter_rules_2_0.C R c1) Tryd.f78 10000 k [.str a0] κ = letter_rules_2_0.e c1 a0 (fun r0 r1 => κ [.tup [.str r0, .bool r1]]) := by kernel_rfl
theorem letter_rules_2_0.run (R : Type) (κ : List SV → Option R) (a0 : ByteArray) :
    runF (letter_rules_2_0.C R octet_Same_0) Tryd.f78 10000 fuelK [.str a0] κ = letter_rules_2_0 a0 (fun r0 r1 => κ [.tup [.str r0, .bool r1]]) := by
  rw [letter_rules_2_0.c]
  rfl
theorem letter_rules_2_0.Γ_does {R : Type} (tab : Tab) (ht : TabOk tab) (g : Nat) : Does (R := R) Tryd.prog (tabTy tyL) tab g ((letter_rules_2_0.C R octet_Same_0).call g) := by
  refine does_of fun xs κ => ?_
  show DoesAt _ _ _ g xs κ (letter_rules_2_0.Γ octet_Same_0 g xs κ)
  unfold letter_rules_2_0.Γ
  split
  · split
    · exact octet_Same_0.does tab ht _ _ κ
    · exact DoesAt.none
  · exact DoesAt.none
theorem letter_rules_2_0.does {R : Type} (tab : Tab) (ht : TabOk tab) (a0 : ByteArray) (κ : List SV → Option R) : DoesAt Tryd.prog (tabTy tyL) tab 78 [.str a0] κ (letter_rules_2_0 a0 (fun r0 r1 => κ [.tup [.str r0, .bool r1]])) := by
  intro r h w vs Rt Ra bs hpre
  exact runF_sound tyOk (letter_rules_2_0.Γ_does tab ht) (show Tryd.prog.funcs[78]? = some Tryd.f78 by kernel_rfl) (by kernel_rfl) ((letter_rules_2_0.run R κ a0).trans h) hpre
def stringslite_CutSuffix_0.Γ {R : Type} (c1 : stringslite_HasSuffix_0.F R) (g : Nat) (xs : List SV) (κ : List SV → Option R) : Option R :=
  match g with
  | 70 => (match xs with
    | [.str a0, .str a1] => c1 a0 a1 (fun r0 => κ [.bool r0])
    | _ => none)
  | _ => none
def stringslite_CutSuffix_0.h (n : Nat) : Option (List (Nat × List (Nat × Nat))) :=
  match n with
  | _ => none
def stringslite_CutSuffix_0.C (R : Type) (c1 : stringslite_HasSuffix_0.F R) : Cfg R := ⟨tabTy tyL, stringslite_CutSuffix_0.Γ c1, fun _ => false, stringslite_CutSuffix_0.h⟩
theorem stringslite_CutSuffix_0.c (R : Type) (c1 : stringslite_HasSuffix_0.F R) (κ : List SV → Option R) (k : Nat) (a0 : ByteArray) (a1 : ByteArray) :
    runF (stringslite_CutSuffix_0.C R c1) Tryd.f100 10000 k [.str a0, .str a1] κ = stringslite_CutSuffix_0.e c1 a0 a1 (fun r0 r1 => κ [.tup [.str r0, .bool r1]]) := by kernel_rfl
theorem stringslite_CutSuffix_0.run (R : Type) (κ : List SV → Option R) (a0 : ByteArray) (a1 : ByteArray) :
    runF (stringslite_CutSuffix_0.C R stringslite_HasSuffix_0) Tryd.f100 10000 fuelK [.str a0, .str a1] κ = stringslite_CutSuffix_0 a0 a1 (fun r0 r1 => κ [.tup [.str r0, .bool r1]]) := by
  rw [stringslite_CutSuffix_0.c]
  rfl
theorem stringslite_CutSuffix_0.Γ_does {R : Type} (tab : Tab) (ht : TabOk tab) (g : Nat) : Does (R := R) Tryd.prog (tabTy tyL) tab g ((stringslite_CutSuffix_0.C R stringslite_HasSuffix_0).call g) := by
  refine does_of fun xs κ => ?_
  show DoesAt _ _ _ g xs κ (stringslite_CutSuffix_0.Γ stringslite_HasSuffix_0 g xs κ)
  unfold stringslite_CutSuffix_0.Γ
  split
  · split
    · exact stringslite_HasSuffix_0.does tab ht _ _ κ
    · exact DoesAt.none
  · exact DoesAt.none
theorem stringslite_CutSuffix_0.does {R : Type} (tab : Tab) (ht : TabOk tab) (a0 : ByteArray) (a1 : ByteArray) (κ : List SV → Option R) : DoesAt Tryd.prog (tabTy tyL) tab 100 [.str a0, .str a1] κ (stringslite_CutSuffix_0 a0 a1 (fun r0 r1 => κ [.tup [.str r0, .bool r1]])) := by
  intro r h w vs Rt Ra bs hpre
  exact runF_sound tyOk (stringslite_CutSuffix_0.Γ_does tab ht) (show Tryd.prog.funcs[100]? = some Tryd.f100 by kernel_rfl) (by kernel_rfl) ((stringslite_CutSuffix_0.run R κ a0 a1).trans h) hpre
def strings_CutSuffix_0.Γ {R : Type} (c1 : stringslite_CutSuffix_0.F R) (g : Nat) (xs : List SV) (κ : List SV → Option R) : Option R :=
  match g with
  | 100 => (match xs with
    | [.str a0, .str a1] => c1 a0 a1 (fun r0 r1 => κ [.tup [.str r0, .bool r1]])
    | _ => none)
  | _ => none
def strings_CutSuffix_0.h (n : Nat) : Option (List (Nat × List (Nat × Nat))) :=
  match n with
  | _ => none
def strings_CutSuffix_0.C (R : Type) (c1 : stringslite_CutSuffix_0.F R) : Cfg R := ⟨tabTy tyL, strings_CutSuffix_0.Γ c1, fun _ => false, strings_CutSuffix_0.h⟩
theorem strings_CutSuffix_0.c (R : Type) (c1 : stringslite_CutSuffix_0.F R) (κ : List SV → Option R) (k : Nat) (a0 : ByteArray) (a1 : ByteArray) :
    runF (strings_CutSuffix_0.C R c1) Tryd.f77 10000 k [.str a0, .str a1] κ = strings_CutSuffix_0.e c1 a0 a1 (fun r0 r1 => κ [.tup [.str r0, .bool r1]]) := by kernel_rfl
theorem strings_CutSuffix_0.run (R : Type) (κ : List SV → Option R) (a0 : ByteArray) (a1 : ByteArray) :
    runF (strings_CutSuffix_0.C R stringslite_CutSuffix_0) Tryd.f77 10000 fuelK [.str a0, .str a1] κ = strings_CutSuffix_0 a0 a1 (fun r0 r1 => κ [.tup [.str r0, .bool r1]]) := by
  rw [strings_CutSuffix_0.c]
  rfl
theorem strings_CutSuffix_0.Γ_does {R : Type} (tab : Tab) (ht : TabOk tab) (g : Nat) : Does (R := R) Tryd.prog (tabTy tyL) tab g ((strings_CutSuffix_0.C R stringslite_CutSuffix_0).call g) := by
  refine does_of fun xs κ => ?_
  show DoesAt _ _ _ g xs κ (strings_CutSuffix_0.Γ stringslite_CutSuffix_0 g xs κ)
  unfold strings_CutSuffix_0.Γ
  split
  · split
    · exact stringslite_CutSuffix_0.does tab ht _ _ κ
    · exact DoesAt.none
  · exact DoesAt.none
theorem strings_CutSuffix_0.does {R : Type} (tab : Tab) (ht : TabOk tab) (a0 : ByteArray) (a1 : ByteArray) (κ : List SV → Option R) : DoesAt Tryd.prog (tabTy tyL) tab 77 [.str a0, .str a1] κ (strings_CutSuffix_0 a0 a1 (fun r0 r1 => κ [.tup [.str r0, .bool r1]])) := by
  intro r h w vs Rt Ra bs hpre
  exact runF_sound tyOk (strings_CutSuffix_0.Γ_does tab ht) (show Tryd.prog.funcs[77]? = some Tryd.f77 by kernel_rfl) (by kernel_rfl) ((strings_CutSuffix_0.run R κ a0 a1).trans h) hpre
def letter_rules_1_0.Γ {R : Type} (c1 : strings_CutSuffix_0.F R) (g : Nat) (xs : List SV) (κ : List SV → Option R) : Option R :=
  match g with
  | 77 => (match xs with
    | [.str a0, .str a1] => c1 a0 a1 (fun r0 r1 => κ [.tup [.str r0, .bool r1]])
    | _ => none)
  | _ => none
def letter_rules_1_0.h (n : Nat) : Option (List (Nat × List (Nat × Nat))) :=
  match n with
  | _ => none
def letter_rules_1_0.C (R : Type) (c1 : strings_CutSuffix_0.F R) : Cfg R := ⟨tabTy tyL, letter_rules_1_0.Γ c1, fun _ => false, letter_rules_1_0.h⟩
theorem letter_rules_1_0.c (R : Type) (c1 : strings_CutSuffix_0.F R) (κ : List SV → Option R) (k : Nat) (a0 : ByteArray) :
    runF (letter_rules_1_0.C R c1) Tryd.f76 10000 k [.str a0] κ = letter_rules_1_0.e c1 a0 (fun r0 r1 => κ [.tup [.str r0, .bool r1]]) := by kernel_rfl
theorem letter_rules_1_0.run (R : Type) (κ : List SV → Option R) (a0 : ByteArray) :
    runF (letter_rules_1_0.C R strings_CutSuffix_0) Tryd.f76 10000 fuelK [.str a0] κ = letter_rules_1_0 a0 (fun r0 r1 => κ [.tup [.str r0, .bool r1]]) := by
  rw [letter_rules_1_0.c]
  rfl
theorem letter_rules_1_0.Γ_does {R : Type} (tab : Tab) (ht : TabOk tab) (g : Nat) : Does (R := R) Tryd.prog (tabTy tyL) tab g ((letter_rules_1_0.C R strings_CutSuffix_0).call g) := by
  refine does_of fun xs κ => ?_
  show DoesAt _ _ _ g xs κ (letter_rules_1_0.Γ strings_CutSuffix_0 g xs κ)
  unfold letter_rules_1_0.Γ
  split
  · split
    · exact strings_CutSuffix_0.does tab ht _ _ κ
    · exact DoesAt.none
  · exact DoesAt.none
theorem letter_rules_1_0.does {R : Type} (tab : Tab) (ht : TabOk tab) (a0 : ByteArray) (κ : List SV → Option R) : DoesAt Tryd.prog (tabTy tyL) tab 76 [.str a0] κ (letter_rules_1_0 a0 (fun r0 r1 => κ [.tup [.str r0, .bool r1]])) := by
  intro r h w vs Rt Ra bs hpre
  exact runF_sound tyOk (letter_rules_1_0.Γ_does tab ht) (show Tryd.prog.funcs[76]? = some Tryd.f76 by kernel_rfl) (by kernel_rfl) ((letter_rules_1_0.run R κ a0).trans h) hpre
def letter_Base_0.Γ {R : Type} (c1 : letter_Words_0.F R) (c2 : letter_one_0.F R) (c3 : letter_rules_0.F R) (c4 : letter_rules_6_0.F R) (c5 : letter_rules_5_0.F R) (c6 : letter_rules_4_0.F R) (c7 : letter_rules_3_0.F R) (c8 : letter_rules_2_0.F R) (c9 : letter_rules_1_0.F R) (g : Nat) (xs : List SV) (κ : List SV → Option R) : Option R :=
  match g with
  | 22 => (match xs with
    | [.str a0] => c1 a0 (fun r0 => κ [.str r0])
    | _ => none)
  | 44 => (match xs with
    | [.str a0] => c2 a0 (fun r0 => κ [.str r0])
    | _ => none)
  | 45 => (match xs with
    | [] => c3 (fun r0 r1 r2 r3 r4 r5 => κ [.agg [.fn 76, .bool r0, .fn 78, .bool r1, .fn 79, .bool r2, .fn 81, .bool r3, .fn 83, .bool r4, .fn 85, .bool r5]])
    | _ => none)
  | 76 => (match xs with
    | [.str a0] => c9 a0 (fun r0 r1 => κ [.tup [.str r0, .bool r1]])
    | _ => none)
  | 78 => (match xs with
    | [.str a0] => c8 a0 (fun r0 r1 => κ [.tup [.str r0, .bool r1]])
    | _ => none)
  | 79 => (match xs with
    | [.str a0] => c7 a0 (fun r0 r1 => κ [.tup [.str r0, .bool r1]])
    | _ => none)
  | 81 => (match xs with
    | [.str a0] => c6 a0 (fun r0 r1 => κ [.tup [.str r0, .bool r1]])
    | _ => none)
  | 83 => (match xs with
    | [.str a0] => c5 a0 (fun r0 r1 => κ [.tup [.str r0, .bool r1]])
    | _ => none)
  | 85 => (match xs with
    | [.str a0] => c4 a0 (fun r0 r1 => κ [.tup [.str r0, .bool r1]])
    | _ => none)
  | _ => none
def letter_Base_0.h (n : Nat) : Option (List (Nat × List (Nat × Nat))) :=
  match n with
  | 3 => some [(4, [(0, 0)]), (5, [(0, 0)])]
  | 4 => some [(4, [(0, 0)]), (5, [(0, 0)]), (13, [(0, 0)]), (14, [(0, 0)])]
  | _ => none
def letter_Base_0.C (R : Type) (c1 : letter_Words_0.F R) (c2 : letter_one_0.F R) (c3 : letter_rules_0.F R) (c4 : letter_rules_6_0.F R) (c5 : letter_rules_5_0.F R) (c6 : letter_rules_4_0.F R) (c7 : letter_rules_3_0.F R) (c8 : letter_rules_2_0.F R) (c9 : letter_rules_1_0.F R) : Cfg R := ⟨tabTy tyL, letter_Base_0.Γ c1 c2 c3 c4 c5 c6 c7 c8 c9, fun _ => false, letter_Base_0.h⟩
def letter_Base_0.s3 (x0 : ByteArray) (x1 : Bool) : St := ⟨mkS 34 [(4, .str x0), (5, .bool x1)], [], top⟩
def letter_Base_0.s4 (x0 : ByteArray) (x1 : Bool) (x2 : Bool) (x3 : Bool) (x4 : Bool) (x5 : Bool) (x6 : Bool) (x7 : Bool) (x8 : Int) : St := ⟨mkS 34 [(4, .str x0), (5, .bool x1), (13, .agg [.fn 76, .bool x2, .fn 78, .bool x3, .fn 79, .bool x4, .fn 81, .bool x5, .fn 83, .bool x6, .fn 85, .bool x7]), (14, .int .i64 x8)], [], top⟩
theorem letter_Base_0.c3 (R : Type) (c1 : letter_Words_0.F R) (c2 : letter_one_0.F R) (c3 : letter_rules_0.F R) (c4 : letter_rules_6_0.F R) (c5 : letter_rules_5_0.F R) (c6 : letter_rules_4_0.F R) (c7 : letter_rules_3_0.F R) (c8 : letter_rules_2_0.F R) (c9 : letter_rules_1_0.F R) (J : List Item → St → Option R) (κ : List SV → Option R) (x0 : ByteArray) (x1 : Bool) :
    start (letter_Base_0.C R c1 c2 c3 c4 c5 c6 c7 c8 c9) J (retK (letter_Base_0.C R c1 c2 c3 c4 c5 c6 c7 c8 c9) Tryd.f23.results.toList (List.range 0) κ) 10000 (placeOf Tryd.f23 3) (letter_Base_0.s3 x0 x1) = letter_Base_0.t3 c1 c2 c3 c4 c5 c6 c7 c8 c9 x0 x1 (fun y0 y1 => J (placeOf Tryd.f23 3) (letter_Base_0.s3 y0 y1)) (fun y0 y1 y2 y3 y4 y5 y6 y7 y8 => J (placeOf Tryd.f23 4) (letter_Base_0.s4 y0 y1 y2 y3 y4 y5 y6 y7 y8)) (fun r0 r1 => κ [.tup [.str r0, .bool r1]]) := by kernel_rfl
theorem letter_Base_0.c4 (R : Type) (c1 : letter_Words_0.F R) (c2 : letter_one_0.F R) (c3 : letter_rules_0.F R) (c4 : letter_rules_6_0.F R) (c5 : letter_rules_5_0.F R) (c6 : letter_rules_4_0.F R) (c7 : letter_rules_3_0.F R) (c8 : letter_rules_2_0.F R) (c9 : letter_rules_1_0.F R) (J : List Item → St → Option R) (κ : List SV → Option R) (x0 : ByteArray) (x1 : Bool) (x2 : Bool) (x3 : Bool) (x4 : Bool) (x5 : Bool) (x6 : Bool) (x7 : Bool) (x8 : Int) :
    start (letter_Base_0.C R c1 c2 c3 c4 c5 c6 c7 c8 c9) J (retK (letter_Base_0.C R c1 c2 c3 c4 c5 c6 c7 c8 c9) Tryd.f23.results.toList (List.range 0) κ) 10000 (placeOf Tryd.f23 4) (letter_Base_0.s4 x0 x1 x2 x3 x4 x5 x6 x7 x8) = letter_Base_0.t4 c1 c2 c3 c4 c5 c6 c7 c8 c9 x0 x1 x2 x3 x4 x5 x6 x7 x8 (fun y0 y1 => J (placeOf Tryd.f23 3) (letter_Base_0.s3 y0 y1)) (fun y0 y1 y2 y3 y4 y5 y6 y7 y8 => J (placeOf Tryd.f23 4) (letter_Base_0.s4 y0 y1 y2 y3 y4 y5 y6 y7 y8)) (fun r0 r1 => κ [.tup [.str r0, .bool r1]]) := by kernel_rfl
theorem letter_Base_0.c (R : Type) (c1 : letter_Words_0.F R) (c2 : letter_one_0.F R) (c3 : letter_rules_0.F R) (c4 : letter_rules_6_0.F R) (c5 : letter_rules_5_0.F R) (c6 : letter_rules_4_0.F R) (c7 : letter_rules_3_0.F R) (c8 : letter_rules_2_0.F R) (c9 : letter_rules_1_0.F R) (κ : List SV → Option R) (k : Nat) (a0 : ByteArray) :
    runF (letter_Base_0.C R c1 c2 c3 c4 c5 c6 c7 c8 c9) Tryd.f23 10000 k [.str a0] κ = letter_Base_0.e c1 c2 c3 c4 c5 c6 c7 c8 c9 a0 (fun y0 y1 => goto (letter_Base_0.C R c1 c2 c3 c4 c5 c6 c7 c8 c9) (retK (letter_Base_0.C R c1 c2 c3 c4 c5 c6 c7 c8 c9) Tryd.f23.results.toList (List.range 0) κ) 10000 k (placeOf Tryd.f23 3) (letter_Base_0.s3 y0 y1)) (fun y0 y1 y2 y3 y4 y5 y6 y7 y8 => goto (letter_Base_0.C R c1 c2 c3 c4 c5 c6 c7 c8 c9) (retK (letter_Base_0.C R c1 c2 c3 c4 c5 c6 c7 c8 c9) Tryd.f23.results.toList (List.range 0) κ) 10000 k (placeOf Tryd.f23 4) (letter_Base_0.s4 y0 y1 y2 y3 y4 y5 y6 y7 y8)) (fun r0 r1 => κ [.tup [.str r0, .bool r1]]) := by kernel_rfl
theorem letter_Base_0.gM3 (R : Type) (c1 : letter_Words_0.F R) (c2 : letter_one_0.F R) (c3 : letter_rules_0.F R) (c4 : letter_rules_6_0.F R) (c5 : letter_rules_5_0.F R) (c6 : letter_rules_4_0.F R) (c7 : letter_rules_3_0.F R) (c8 : letter_rules_2_0.F R) (c9 : letter_rules_1_0.F R) (κ : List SV → Option R) : ∀ (f : Nat), (∀ (x0 : ByteArray) (x1 : Bool), goto (letter_Base_0.C R c1 c2 c3 c4 c5 c6 c7 c8 c9) (retK (letter_Base_0.C R c1 c2 c3 c4 c5 c6 c7 c8 c9) Tryd.f23.results.toList (List.range 0) κ) 10000 f (placeOf Tryd.f23 3) (letter_Base_0.s3 x0 x1) = letter_Base_0.L3 c1 c2 c3 c4 c5 c6 c7 c8 c9 (fun r0 r1 => κ [.tup [.str r0, .bool r1]]) f x0 x1) ∧
    (∀ (x0 : ByteArray) (x1 : Bool) (x2 : Bool) (x3 : Bool) (x4 : Bool) (x5 : Bool) (x6 : Bool) (x7 : Bool) (x8 : Int), goto (letter_Base_0.C R c1 c2 c3 c4 c5 c6 c7 c8 c9) (retK (letter_Base_0.C R c1 c2 c3 c4 c5 c6 c7 c8 c9) Tryd.f23.results.toList (List.range 0) κ) 10000 f (placeOf Tryd.f23 4) (letter_Base_0.s4 x0 x1 x2 x3 x4 x5 x6 x7 x8) = letter_Base_0.L4 c1 c2 c3 c4 c5 c6 c7 c8 c9 (fun r0 r1 => κ [.tup [.str r0, .bool r1]]) f x0 x1 x2 x3 x4 x5 x6 x7 x8)
  | 0 => ⟨fun _ _ => rfl, fun _ _ _ _ _ _ _ _ _ => rfl⟩
  | f + 1 => by
    obtain ⟨ih0, ih1⟩ := letter_Base_0.gM3 R c1 c2 c3 c4 c5 c6 c7 c8 c9 κ f
    refine ⟨?_, ?_⟩
    · intro x0 x1
      show start (letter_Base_0.C R c1 c2 c3 c4 c5 c6 c7 c8 c9) (goto (letter_Base_0.C R c1 c2 c3 c4 c5 c6 c7 c8 c9) (retK (letter_Base_0.C R c1 c2 c3 c4 c5 c6 c7 c8 c9) Tryd.f23.results.toList (List.range 0) κ) 10000 f) (retK (letter_Base_0.C R c1 c2 c3 c4 c5 c6 c7 c8 c9) Tryd.f23.results.toList (List.range 0) κ) 10000 (placeOf Tryd.f23 3) (letter_Base_0.s3 x0 x1) = _
      rw [letter_Base_0.c3]
      simp only [ih0, ih1]
      rfl
    · intro x0 x1 x2 x3 x4 x5 x6 x7 x8
      show start (letter_Base_0.C R c1 c2 c3 c4 c5 c6 c7 c8 c9) (goto (letter_Base_0.C R c1 c2 c3 c4 c5 c6 c7 c8 c9) (retK (letter_Base_0.C R c1 c2 c3 c4 c5 c6 c7 c8 c9) Tryd.f23.results.toList (List.range 0) κ) 10000 f) (retK (letter_Base_0.C R c1 c2 c3 c4 c5 c6 c7 c8 c9) Tryd.f23.results.toList (List.range 0) κ) 10000 (placeOf Tryd.f23 4) (letter_Base_0.s4 x0 x1 x2 x3 x4 x5 x6 x7 x8) = _
      rw [letter_Base_0.c4]
      simp only [ih0, ih1]
      rfl
theorem letter_Base_0.g3 (R : Type) (c1 : letter_Words_0.F R) (c2 : letter_one_0.F R) (c3 : letter_rules_0.F R) (c4 : letter_rules_6_0.F R) (c5 : letter_rules_5_0.F R) (c6 : letter_rules_4_0.F R) (c7 : letter_rules_3_0.F R) (c8 : letter_rules_2_0.F R) (c9 : letter_rules_1_0.F R) (κ : List SV → Option R) (f : Nat) (x0 : ByteArray) (x1 : Bool) : goto (letter_Base_0.C R c1 c2 c3 c4 c5 c6 c7 c8 c9) (retK (letter_Base_0.C R c1 c2 c3 c4 c5 c6 c7 c8 c9) Tryd.f23.results.toList (List.range 0) κ) 10000 f (placeOf Tryd.f23 3) (letter_Base_0.s3 x0 x1) = letter_Base_0.L3 c1 c2 c3 c4 c5 c6 c7 c8 c9 (fun r0 r1 => κ [.tup [.str r0, .bool r1]]) f x0 x1 := (letter_Base_0.gM3 R c1 c2 c3 c4 c5 c6 c7 c8 c9 κ f).1 x0 x1
theorem letter_Base_0.g4 (R : Type) (c1 : letter_Words_0.F R) (c2 : letter_one_0.F R) (c3 : letter_rules_0.F R) (c4 : letter_rules_6_0.F R) (c5 : letter_rules_5_0.F R) (c6 : letter_rules_4_0.F R) (c7 : letter_rules_3_0.F R) (c8 : letter_rules_2_0.F R) (c9 : letter_rules_1_0.F R) (κ : List SV → Option R) (f : Nat) (x0 : ByteArray) (x1 : Bool) (x2 : Bool) (x3 : Bool) (x4 : Bool) (x5 : Bool) (x6 : Bool) (x7 : Bool) (x8 : Int) : goto (letter_Base_0.C R c1 c2 c3 c4 c5 c6 c7 c8 c9) (retK (letter_Base_0.C R c1 c2 c3 c4 c5 c6 c7 c8 c9) Tryd.f23.results.toList (List.range 0) κ) 10000 f (placeOf Tryd.f23 4) (letter_Base_0.s4 x0 x1 x2 x3 x4 x5 x6 x7 x8) = letter_Base_0.L4 c1 c2 c3 c4 c5 c6 c7 c8 c9 (fun r0 r1 => κ [.tup [.str r0, .bool r1]]) f x0 x1 x2 x3 x4 x5 x6 x7 x8 := (letter_Base_0.gM3 R c1 c2 c3 c4 c5 c6 c7 c8 c9 κ f).2 x0 x1 x2 x3 x4 x5 x6 x7 x8
theorem letter_Base_0.run (R : Type) (κ : List SV → Option R) (a0 : ByteArray) :
    runF (letter_Base_0.C R letter_Words_0 letter_one_0 letter_rules_0 letter_rules_6_0 letter_rules_5_0 letter_rules_4_0 letter_rules_3_0 letter_rules_2_0 letter_rules_1_0) Tryd.f23 10000 fuelK [.str a0] κ = letter_Base_0 a0 (fun r0 r1 => κ [.tup [.str r0, .bool r1]]) := by
  rw [letter_Base_0.c]
  simp only [letter_Base_0.g3 R letter_Words_0 letter_one_0 letter_rules_0 letter_rules_6_0 letter_rules_5_0 letter_rules_4_0 letter_rules_3_0 letter_rules_2_0 letter_rules_1_0 κ fuelK, letter_Base_0.g4 R letter_Words_0 letter_one_0 letter_rules_0 letter_rules_6_0 letter_rules_5_0 letter_rules_4_0 letter_rules_3_0 letter_rules_2_0 letter_rules_1_0 κ fuelK]
  rfl
theorem letter_Base_0.Γ_does {R : Type} (tab : Tab) (ht : TabOk tab) (g : Nat) : Does (R := R) Tryd.prog (tabTy tyL) tab g ((letter_Base_0.C R letter_Words_0 letter_one_0 letter_rules_0 letter_rules_6_0 letter_rules_5_0 letter_rules_4_0 letter_rules_3_0 letter_rules_2_0 letter_rules_1_0).call g) := by
  refine does_of fun xs κ => ?_
  show DoesAt _ _ _ g xs κ (letter_Base_0.Γ letter_Words_0 letter_one_0 letter_rules_0 letter_rules_6_0 letter_rules_5_0 letter_rules_4_0 letter_rules_3_0 letter_rules_2_0 letter_rules_1_0 g xs κ)
  unfold letter_Base_0.Γ
  split
  · split
    · exact letter_Words_0.does tab ht _ κ
    · exact DoesAt.none
  · split
    · exact letter_one_0.does tab ht _ κ
    · exact DoesAt.none
  · split
    · exact letter_rules_0.does tab ht κ
    · exact DoesAt.none
  · split
    · exact letter_rules_1_0.does tab ht _ κ
    · exact DoesAt.none
  · split
    · exact letter_rules_2_0.does tab ht _ κ
    · exact DoesAt.none
  · split
    · exact letter_rules_3_0.does tab ht _ κ
    · exact DoesAt.none
  · split
    · exact letter_rules_4_0.does tab ht _ κ
    · exact DoesAt.none
  · split
    · exact letter_rules_5_0.does tab ht _ κ
    · exact DoesAt.none
  · split
    · exact letter_rules_6_0.does tab ht _ κ
    · exact DoesAt.none
  · exact DoesAt.none
theorem letter_Base_0.does {R : Type} (tab : Tab) (ht : TabOk tab) (a0 : ByteArray) (κ : List SV → Option R) : DoesAt Tryd.prog (tabTy tyL) tab 23 [.str a0] κ (letter_Base_0 a0 (fun r0 r1 => κ [.tup [.str r0, .bool r1]])) := by
  intro r h w vs Rt Ra bs hpre
  exact runF_sound tyOk (letter_Base_0.Γ_does tab ht) (show Tryd.prog.funcs[23]? = some Tryd.f23 by kernel_rfl) (by kernel_rfl) ((letter_Base_0.run R κ a0).trans h) hpre
def letter_Get_os.Γ {R : Type} (c1 : octet_Same_0.F R) (g : Nat) (xs : List SV) (κ : List SV → Option R) : Option R :=
  match g with
  | 33 => (match xs with
    | [.str a0, .str a1] => c1 a0 a1 (fun r0 => κ [.bool r0])
    | _ => none)
  | _ => none
def letter_Get_os.h (n : Nat) : Option (List (Nat × List (Nat × Nat))) :=
  match n with
  | 2 => some [(1, [(0, 0)]), (4, [(0, 0)]), (7, [(0, 0)]), (8, [(0, 0)]), (9, [(0, 0)])]
  | _ => none
def letter_Get_os.C (R : Type) (c1 : octet_Same_0.F R) : Cfg R := ⟨tabTy tyL, letter_Get_os.Γ c1, fun _ => false, letter_Get_os.h⟩
def letter_Get_os.s2 (x0 : ByteArray) (x1 : List AV) (x2 : Int) (x3 : Int) (x4 : Bool) (x5 : ByteArray) : St := ⟨mkS 22 [(1, .str x0), (4, .ptr 383 0), (7, .ro 28 x1 false), (8, .int .i64 x2), (9, .int .i64 x3)], [(383, .var 30 [.bool x4, .str x5])], top⟩
theorem letter_Get_os.c2 (R : Type) (c1 : octet_Same_0.F R) (J : List Item → St → Option R) (κ : List SV → Option R) (x0 : ByteArray) (x1 : List AV) (x2 : Int) (x3 : Int) (x4 : Bool) (x5 : ByteArray) :
    start (letter_Get_os.C R c1) J (retK (letter_Get_os.C R c1) Tryd.f14.results.toList (List.range 0) κ) 10000 (placeOf Tryd.f14 2) (letter_Get_os.s2 x0 x1 x2 x3 x4 x5) = letter_Get_os.t2 c1 x0 x1 x2 x3 x4 x5 (fun y0 y1 y2 y3 y4 y5 => J (placeOf Tryd.f14 2) (letter_Get_os.s2 y0 y1 y2 y3 y4 y5)) (fun r0 r1 => κ [.agg [.bool r0, .str r1]]) := by kernel_rfl
theorem letter_Get_os.c (R : Type) (c1 : octet_Same_0.F R) (κ : List SV → Option R) (k : Nat) (a0 : List AV) (a1 : ByteArray) :
    runF (letter_Get_os.C R c1) Tryd.f14 10000 k [.ro 28 a0 false, .str a1] κ = letter_Get_os.e c1 a0 a1 (fun y0 y1 y2 y3 y4 y5 => goto (letter_Get_os.C R c1) (retK (letter_Get_os.C R c1) Tryd.f14.results.toList (List.range 0) κ) 10000 k (placeOf Tryd.f14 2) (letter_Get_os.s2 y0 y1 y2 y3 y4 y5)) (fun r0 r1 => κ [.agg [.bool r0, .str r1]]) := by kernel_rfl
theorem letter_Get_os.g2 (R : Type) (c1 : octet_Same_0.F R) (κ : List SV → Option R) : ∀ (f : Nat) (x0 : ByteArray) (x1 : List AV) (x2 : Int) (x3 : Int) (x4 : Bool) (x5 : ByteArray), goto (letter_Get_os.C R c1) (retK (letter_Get_os.C R c1) Tryd.f14.results.toList (List.range 0) κ) 10000 f (placeOf Tryd.f14 2) (letter_Get_os.s2 x0 x1 x2 x3 x4 x5) = letter_Get_os.L2 c1 (fun r0 r1 => κ [.agg [.bool r0, .str r1]]) f x0 x1 x2 x3 x4 x5
  | 0, _, _, _, _, _, _ => rfl
  | f + 1, x0, x1, x2, x3, x4, x5 => by
    show start (letter_Get_os.C R c1) (goto (letter_Get_os.C R c1) (retK (letter_Get_os.C R c1) Tryd.f14.results.toList (List.range 0) κ) 10000 f) (retK (letter_Get_os.C R c1) Tryd.f14.results.toList (List.range 0) κ) 10000 (placeOf Tryd.f14 2) (letter_Get_os.s2 x0 x1 x2 x3 x4 x5) = _
    rw [letter_Get_os.c2]
    simp only [letter_Get_os.g2 R c1 κ f]
    rfl
theorem letter_Get_os.run (R : Type) (κ : List SV → Option R) (a0 : List AV) (a1 : ByteArray) :
    runF (letter_Get_os.C R octet_Same_0) Tryd.f14 10000 fuelK [.ro 28 a0 false, .str a1] κ = letter_Get_os a0 a1 (fun r0 r1 => κ [.agg [.bool r0, .str r1]]) := by
  rw [letter_Get_os.c]
  simp only [letter_Get_os.g2 R octet_Same_0 κ fuelK]
  rfl
theorem letter_Get_os.Γ_does {R : Type} (tab : Tab) (ht : TabOk tab) (g : Nat) : Does (R := R) Tryd.prog (tabTy tyL) tab g ((letter_Get_os.C R octet_Same_0).call g) := by
  refine does_of fun xs κ => ?_
  show DoesAt _ _ _ g xs κ (letter_Get_os.Γ octet_Same_0 g xs κ)
  unfold letter_Get_os.Γ
  split
  · split
    · exact octet_Same_0.does tab ht _ _ κ
    · exact DoesAt.none
  · exact DoesAt.none
theorem letter_Get_os.does {R : Type} (tab : Tab) (ht : TabOk tab) (a0 : List AV) (a1 : ByteArray) (κ : List SV → Option R) : DoesAt Tryd.prog (tabTy tyL) tab 14 [.ro 28 a0 false, .str a1] κ (letter_Get_os a0 a1 (fun r0 r1 => κ [.agg [.bool r0, .str r1]])) := by
  intro r h w vs Rt Ra bs hpre
  exact runF_sound tyOk (letter_Get_os.Γ_does tab ht) (show Tryd.prog.funcs[14]? = some Tryd.f14 by kernel_rfl) (by kernel_rfl) ((letter_Get_os.run R κ a0 a1).trans h) hpre
def letter_Pick_sbn.Γ {R : Type} (c1 : letter_rows_0.F R) (c2 : strings_Builder_WriteString_vxfes.F R) (c3 : strings_Builder_String_vxfe.F R) (c4 : strings_HasSuffix_0.F R) (g : Nat) (xs : List SV) (κ : List SV → Option R) : Option R :=
  match g with
  | 35 => (match xs with
    | [.str a0] => c1 a0 (fun r0 => κ [.fr 58 r0 true])
    | _ => none)
  | 39 => (match xs with
    | [.vp 63 [.nos, .fr 5 a0 true], .str a1] => c2 a0 a1 (fun r0 r1 => κ [.tup [.int .i64 r0, .nili], .vp 63 [.nos, .fr 5 r1 true]])
    | _ => none)
  | 40 => (match xs with
    | [.str a0, .str a1] => c4 a0 a1 (fun r0 => κ [.bool r0])
    | _ => none)
  | 41 => (match xs with
    | [.vp 63 [.nos, .fr 5 a0 true]] => c3 a0 (fun r0 => κ [.str r0, .vp 63 [.nos, .no]])
    | _ => none)
  | _ => none
def letter_Pick_sbn.h (n : Nat) : Option (List (Nat × List (Nat × Nat))) :=
  match n with
  | 3 => some [(1, [(0, 0)]), (2, [(0, 0)]), (7, [(1, 7)]), (14, [(0, 0)]), (15, [(0, 0)]), (16, [(0, 0)])]
  | 7 => some [(1, [(0, 0)]), (2, [(0, 0)]), (7, [(0, 0)]), (9, [(0, 0)]), (10, [(0, 0)]), (14, [(0, 0)]), (15, [(0, 0)]), (16, [(0, 0)]), (20, [(0, 0)]), (21, [(0, 0)]), (22, [(0, 0)])]
  | _ => none
def letter_Pick_sbn.C (R : Type) (c1 : letter_rows_0.F R) (c2 : strings_Builder_WriteString_vxfes.F R) (c3 : strings_Builder_String_vxfe.F R) (c4 : strings_HasSuffix_0.F R) : Cfg R := ⟨tabTy tyL, letter_Pick_sbn.Γ c1 c2 c3 c4, fun _ => false, letter_Pick_sbn.h⟩
def letter_Pick_sbn.s3 (x0 : Bool) (x1 : Int) (x2 : Int) (x3 : List AV) (x4 : List AV) : St := ⟨mkS 52 [(1, .bool x0), (2, .nil), (7, .ptr 575 0), (14, .own 960), (15, .int .i64 x1), (16, .int .i64 x2)], [(575, .var 63 [.nos, .own 513]), (513, .row 5 x3 true), (960, .row 58 x4 true)], top⟩
def letter_Pick_sbn.s7 (x0 : Bool) (x1 : Bool) (x2 : Int) (x3 : Int) (x4 : Int) (x5 : Int) (x6 : List AV) (x7 : ByteArray) (x8 : ByteArray) (x9 : Bool) (x10 : Bool) (x11 : List AV) : St := ⟨mkS 52 [(1, .bool x0), (2, .nil), (7, .ptr 575 0), (9, .ptr 703 0), (10, .bool x1), (14, .own 960), (15, .int .i64 x2), (16, .int .i64 x3), (20, .nil), (21, .int .i64 x4), (22, .int .i64 x5)], [(575, .var 63 [.nos, .own 513]), (513, .row 5 x6 true), (703, .var 58 [.str x7, .str x8, .bool x9, .bool x10]), (960, .row 58 x11 true)], top⟩
theorem letter_Pick_sbn.c3 (R : Type) (c1 : letter_rows_0.F R) (c2 : strings_Builder_WriteString_vxfes.F R) (c3 : strings_Builder_String_vxfe.F R) (c4 : strings_HasSuffix_0.F R) (J : List Item → St → Option R) (κ : List SV → Option R) (x0 : Bool) (x1 : Int) (x2 : Int) (x3 : List AV) (x4 : List AV) :
    start (letter_Pick_sbn.C R c1 c2 c3 c4) J (retK (letter_Pick_sbn.C R c1 c2 c3 c4) Tryd.f18.results.toList (List.range 0) κ) 10000 (placeOf Tryd.f18 3) (letter_Pick_sbn.s3 x0 x1 x2 x3 x4) = letter_Pick_sbn.t3 c1 c2 c3 c4 x0 x1 x2 x3 x4 (fun y0 y1 y2 y3 y4 => J (placeOf Tryd.f18 3) (letter_Pick_sbn.s3 y0 y1 y2 y3 y4)) (fun y0 y1 y2 y3 y4 y5 y6 y7 y8 y9 y10 y11 => J (placeOf Tryd.f18 7) (letter_Pick_sbn.s7 y0 y1 y2 y3 y4 y5 y6 y7 y8 y9 y10 y11)) (fun r0 => κ [.str r0]) := by kernel_rfl
theorem letter_Pick_sbn.c7 (R : Type) (c1 : letter_rows_0.F R) (c2 : strings_Builder_WriteString_vxfes.F R) (c3 : strings_Builder_String_vxfe.F R) (c4 : strings_HasSuffix_0.F R) (J : List Item → St → Option R) (κ : List SV → Option R) (x0 : Bool) (x1 : Bool) (x2 : Int) (x3 : Int) (x4 : Int) (x5 : Int) (x6 : List AV) (x7 : ByteArray) (x8 : ByteArray) (x9 : Bool) (x10 : Bool) (x11 : List AV) :
    start (letter_Pick_sbn.C R c1 c2 c3 c4) J (retK (letter_Pick_sbn.C R c1 c2 c3 c4) Tryd.f18.results.toList (List.range 0) κ) 10000 (placeOf Tryd.f18 7) (letter_Pick_sbn.s7 x0 x1 x2 x3 x4 x5 x6 x7 x8 x9 x10 x11) = letter_Pick_sbn.t7 c1 c2 c3 c4 x0 x1 x2 x3 x4 x5 x6 x7 x8 x9 x10 x11 (fun y0 y1 y2 y3 y4 => J (placeOf Tryd.f18 3) (letter_Pick_sbn.s3 y0 y1 y2 y3 y4)) (fun y0 y1 y2 y3 y4 y5 y6 y7 y8 y9 y10 y11 => J (placeOf Tryd.f18 7) (letter_Pick_sbn.s7 y0 y1 y2 y3 y4 y5 y6 y7 y8 y9 y10 y11)) (fun r0 => κ [.str r0]) := by kernel_rfl
theorem letter_Pick_sbn.c (R : Type) (c1 : letter_rows_0.F R) (c2 : strings_Builder_WriteString_vxfes.F R) (c3 : strings_Builder_String_vxfe.F R) (c4 : strings_HasSuffix_0.F R) (κ : List SV → Option R) (k : Nat) (a0 : ByteArray) (a1 : Bool) :
    runF (letter_Pick_sbn.C R c1 c2 c3 c4) Tryd.f18 10000 k [.str a0, .bool a1, .nil] κ = letter_Pick_sbn.e c1 c2 c3 c4 a0 a1 (fun y0 y1 y2 y3 y4 => goto (letter_Pick_sbn.C R c1 c2 c3 c4) (retK (letter_Pick_sbn.C R c1 c2 c3 c4) Tryd.f18.results.toList (List.range 0) κ) 10000 k (placeOf Tryd.f18 3) (letter_Pick_sbn.s3 y0 y1 y2 y3 y4)) (fun y0 y1 y2 y3 y4 y5 y6 y7 y8 y9 y10 y11 => goto (letter_Pick_sbn.C R c1 c2 c3 c4) (retK (letter_Pick_sbn.C R c1 c2 c3 c4) Tryd.f18.results.toList (List.range 0) κ) 10000 k (placeOf Tryd.f18 7) (letter_Pick_sbn.s7 y0 y1 y2 y3 y4 y5 y6 y7 y8 y9 y10 y11)) (fun r0 => κ [.str r0]) := by kernel_rfl
theorem letter_Pick_sbn.gM3 (R : Type) (c1 : letter_rows_0.F R) (c2 : strings_Builder_WriteString_vxfes.F R) (c3 : strings_Builder_String_vxfe.F R) (c4 : strings_HasSuffix_0.F R) (κ : List SV → Option R) : ∀ (f : Nat), (∀ (x0 : Bool) (x1 : Int) (x2 : Int) (x3 : List AV) (x4 : List AV), goto (letter_Pick_sbn.C R c1 c2 c3 c4) (retK (letter_Pick_sbn.C R c1 c2 c3 c4) Tryd.f18.results.toList (List.range 0) κ) 10000 f (placeOf Tryd.f18 3) (letter_Pick_sbn.s3 x0 x1 x2 x3 x4) = letter_Pick_sbn.L3 c1 c2 c3 c4 (fun r0 => κ [.str r0]) f x0 x1 x2 x3 x4) ∧
    (∀ (x0 : Bool) (x1 : Bool) (x2 : Int) (x3 : Int) (x4 : Int) (x5 : Int) (x6 : List AV) (x7 : ByteArray) (x8 : ByteArray) (x9 : Bool) (x10 : Bool) (x11 : List AV), goto (letter_Pick_sbn.C R c1 c2 c3 c4) (retK (letter_Pick_sbn.C R c1 c2 c3 c4) Tryd.f18.results.toList (List.range 0) κ) 10000 f (placeOf Tryd.f18 7) (letter_Pick_sbn.s7 x0 x1 x2 x3 x4 x5 x6 x7 x8 x9 x10 x11) = letter_Pick_sbn.L7 c1 c2 c3 c4 (fun r0 => κ [.str r0]) f x0 x1 x2 x3 x4 x5 x6 x7 x8 x9 x10 x11)
  | 0 => ⟨fun _ _ _ _ _ => rfl, fun _ _ _ _ _ _ _ _ _ _ _ _ => rfl⟩
  | f + 1 => by
    obtain ⟨ih0, ih1⟩ := letter_Pick_sbn.gM3 R c1 c2 c3 c4 κ f
    refine ⟨?_, ?_⟩
    · intro x0 x1 x2 x3 x4
      show start (letter_Pick_sbn.C R c1 c2 c3 c4) (goto (letter_Pick_sbn.C R c1 c2 c3 c4) (retK (letter_Pick_sbn.C R c1 c2 c3 c4) Tryd.f18.results.toList (List.range 0) κ) 10000 f) (retK (letter_Pick_sbn.C R c1 c2 c3 c4) Tryd.f18.results.toList (List.range 0) κ) 10000 (placeOf Tryd.f18 3) (letter_Pick_sbn.s3 x0 x1 x2 x3 x4) = _
      rw [letter_Pick_sbn.c3]
      simp only [ih0, ih1]
      rfl
    · intro x0 x1 x2 x3 x4 x5 x6 x7 x8 x9 x10 x11
      show start (letter_Pick_sbn.C R c1 c2 c3 c4) (goto (letter_Pick_sbn.C R c1 c2 c3 c4) (retK (letter_Pick_sbn.C R c1 c2 c3 c4) Tryd.f18.results.toList (List.range 0) κ) 10000 f) (retK (letter_Pick_sbn.C R c1 c2 c3 c4) Tryd.f18.results.toList (List.range 0) κ) 10000 (placeOf Tryd.f18 7) (letter_Pick_sbn.s7 x0 x1 x2 x3 x4 x5 x6 x7 x8 x9 x10 x11) = _
      rw [letter_Pick_sbn.c7]
      simp only [ih0, ih1]
      rfl
theorem letter_Pick_sbn.g3 (R : Type) (c1 : letter_rows_0.F R) (c2 : strings_Builder_WriteString_vxfes.F R) (c3 : strings_Builder_String_vxfe.F R) (c4 : strings_HasSuffix_0.F R) (κ : List SV → Option R) (f : Nat) (x0 : Bool) (x1 : Int) (x2 : Int) (x3 : List AV) (x4 : List AV) : goto (letter_Pick_sbn.C R c1 c2 c3 c4) (retK (letter_Pick_sbn.C R c1 c2 c3 c4) Tryd.f18.results.toList (List.range 0) κ) 10000 f (placeOf Tryd.f18 3) (letter_Pick_sbn.s3 x0 x1 x2 x3 x4) = letter_Pick_sbn.L3 c1 c2 c3 c4 (fun r0 => κ [.str r0]) f x0 x1 x2 x3 x4 := (letter_Pick_sbn.gM3 R c1 c2 c3 c4 κ f).1 x0 x1 x2 x3 x4
theorem letter_Pick_sbn.g7 (R : Type) (c1 : letter_rows_0.F R) (c2 : strings_Builder_WriteString_vxfes.F R) (c3 : strings_Builder_String_vxfe.F R) (c4 : strings_HasSuffix_0.F R) (κ : List SV → Option R) (f : Nat) (x0 : Bool) (x1 : Bool) (x2 : Int) (x3 : Int) (x4 : Int) (x5 : Int) (x6 : List AV) (x7 : ByteArray) (x8 : ByteArray) (x9 : Bool) (x10 : Bool) (x11 : List AV) : goto (letter_Pick_sbn.C R c1 c2 c3 c4) (retK (letter_Pick_sbn.C R c1 c2 c3 c4) Tryd.f18.results.toList (List.range 0) κ) 10000 f (placeOf Tryd.f18 7) (letter_Pick_sbn.s7 x0 x1 x2 x3 x4 x5 x6 x7 x8 x9 x10 x11) = letter_Pick_sbn.L7 c1 c2 c3 c4 (fun r0 => κ [.str r0]) f x0 x1 x2 x3 x4 x5 x6 x7 x8 x9 x10 x11 := (letter_Pick_sbn.gM3 R c1 c2 c3 c4 κ f).2 x0 x1 x2 x3 x4 x5 x6 x7 x8 x9 x10 x11
theorem letter_Pick_sbn.run (R : Type) (κ : List SV → Option R) (a0 : ByteArray) (a1 : Bool) :
    runF (letter_Pick_sbn.C R letter_rows_0 strings_Builder_WriteString_vxfes strings_Builder_String_vxfe strings_HasSuffix_0) Tryd.f18 10000 fuelK [.str a0, .bool a1, .nil] κ = letter_Pick_sbn a0 a1 (fun r0 => κ [.str r0]) := by
  rw [letter_Pick_sbn.c]
  simp only [letter_Pick_sbn.g3 R letter_rows_0 strings_Builder_WriteString_vxfes strings_Builder_String_vxfe strings_HasSuffix_0 κ fuelK, letter_Pick_sbn.g7 R letter_rows_0 strings_Builder_WriteString_vxfes strings_Builder_String_vxfe strings_HasSuffix_0 κ fuelK]
  rfl
theorem letter_Pick_sbn.Γ_does {R : Type} (tab : Tab) (ht : TabOk tab) (g : Nat) : Does (R := R) Tryd.prog (tabTy tyL) tab g ((letter_Pick_sbn.C R letter_rows_0 strings_Builder_WriteString_vxfes strings_Builder_String_vxfe strings_HasSuffix_0).call g) := by
  refine does_of fun xs κ => ?_
  show DoesAt _ _ _ g xs κ (letter_Pick_sbn.Γ letter_rows_0 strings_Builder_WriteString_vxfes strings_Builder_String_vxfe strings_HasSuffix_0 g xs κ)
  unfold letter_Pick_sbn.Γ
  split
  · split
    · exact letter_rows_0.does tab ht _ κ
    · exact DoesAt.none
  · split
    · exact strings_Builder_WriteString_vxfes.does tab ht _ _ κ
    · exact DoesAt.none
  · split
    · exact strings_HasSuffix_0.does tab ht _ _ κ
    · exact DoesAt.none
  · split
    · exact strings_Builder_String_vxfe.does tab ht _ κ
    · exact DoesAt.none
  · exact DoesAt.none
theorem letter_Pick_sbn.does {R : Type} (tab : Tab) (ht : TabOk tab) (a0 : ByteArray) (a1 : Bool) (κ : List SV → Option R) : DoesAt Tryd.prog (tabTy tyL) tab 18 [.str a0, .bool a1, .nil] κ (letter_Pick_sbn a0 a1 (fun r0 => κ [.str r0])) := by
  intro r h w vs Rt Ra bs hpre
  exact runF_sound tyOk (letter_Pick_sbn.Γ_does tab ht) (show Tryd.prog.funcs[18]? = some Tryd.f18 by kernel_rfl) (by kernel_rfl) ((letter_Pick_sbn.run R κ a0 a1).trans h) hpre
def postbaglaw5_known_0.Γ {R : Type} (c1 : letter_Split_0.F R) (c2 : letter_Fields_0.F R) (c3 : letter_Addresses_0.F R) (c4 : letter_Ids_0.F R) (c5 : letter_Base_0.F R) (c6 : letter_Get_os.F R) (c7 : letter_Pick_sbn.F R) (g : Nat) (xs : List SV) (κ : List SV → Option R) : Option R :=
  match g with
  | 11 => (match xs with
    | [.str a0] => c1 a0 (fun r0 r1 => κ [.tup [.str r0, .str r1]])
    | _ => none)
  | 14 => (match xs with
    | [.ro 28 a0 false, .str a1] => c6 a0 a1 (fun r0 r1 => κ [.agg [.bool r0, .str r1]])
    | _ => none)
  | 17 => (match xs with
    | [.str a0] => c2 a0 (fun r0 => κ [.fr 28 r0 true])
    | _ => none)
  | 18 => (match xs with
    | [.str a0, .bool a1, .nil] => c7 a0 a1 (fun r0 => κ [.str r0])
    | _ => none)
  | 23 => (match xs with
    | [.str a0] => c5 a0 (fun r0 r1 => κ [.tup [.str r0, .bool r1]])
    | _ => none)
  | 24 => (match xs with
    | [.str a0] => c3 a0 (fun r0 => κ [.fr 46 r0 true])
    | _ => none)
  | 27 => (match xs with
    | [.str a0] => c4 a0 (fun r0 => κ [.fr 9 r0 true])
    | _ => none)
  | _ => none
def postbaglaw5_known_0.h (n : Nat) : Option (List (Nat × List (Nat × Nat))) :=
  match n with
  | _ => none
def postbaglaw5_known_0.C (R : Type) (c1 : letter_Split_0.F R) (c2 : letter_Fields_0.F R) (c3 : letter_Addresses_0.F R) (c4 : letter_Ids_0.F R) (c5 : letter_Base_0.F R) (c6 : letter_Get_os.F R) (c7 : letter_Pick_sbn.F R) : Cfg R := ⟨tabTy tyL, postbaglaw5_known_0.Γ c1 c2 c3 c4 c5 c6 c7, fun _ => false, postbaglaw5_known_0.h⟩
theorem postbaglaw5_known_0.c (R : Type) (c1 : letter_Split_0.F R) (c2 : letter_Fields_0.F R) (c3 : letter_Addresses_0.F R) (c4 : letter_Ids_0.F R) (c5 : letter_Base_0.F R) (c6 : letter_Get_os.F R) (c7 : letter_Pick_sbn.F R) (κ : List SV → Option R) (k : Nat) :
    runF (postbaglaw5_known_0.C R c1 c2 c3 c4 c5 c6 c7) Tryd.f13 10000 k [] κ = postbaglaw5_known_0.e c1 c2 c3 c4 c5 c6 c7 (fun r0 => κ [.bool r0]) := by kernel_rfl
theorem postbaglaw5_known_0.run (R : Type) (κ : List SV → Option R) :
    runF (postbaglaw5_known_0.C R letter_Split_0 letter_Fields_0 letter_Addresses_0 letter_Ids_0 letter_Base_0 letter_Get_os letter_Pick_sbn) Tryd.f13 10000 fuelK [] κ = postbaglaw5_known_0 (fun r0 => κ [.bool r0]) := by
  rw [postbaglaw5_known_0.c]
  rfl
theorem postbaglaw5_known_0.Γ_does {R : Type} (tab : Tab) (ht : TabOk tab) (g : Nat) : Does (R := R) Tryd.prog (tabTy tyL) tab g ((postbaglaw5_known_0.C R letter_Split_0 letter_Fields_0 letter_Addresses_0 letter_Ids_0 letter_Base_0 letter_Get_os letter_Pick_sbn).call g) := by
  refine does_of fun xs κ => ?_
  show DoesAt _ _ _ g xs κ (postbaglaw5_known_0.Γ letter_Split_0 letter_Fields_0 letter_Addresses_0 letter_Ids_0 letter_Base_0 letter_Get_os letter_Pick_sbn g xs κ)
  unfold postbaglaw5_known_0.Γ
  split
  · split
    · exact letter_Split_0.does tab ht _ κ
    · exact DoesAt.none
  · split
    · exact letter_Get_os.does tab ht _ _ κ
    · exact DoesAt.none
  · split
    · exact letter_Fields_0.does tab ht _ κ
    · exact DoesAt.none
  · split
    · exact letter_Pick_sbn.does tab ht _ _ κ
    · exact DoesAt.none
  · split
    · exact letter_Base_0.does tab ht _ κ
    · exact DoesAt.none
  · split
    · exact letter_Addresses_0.does tab ht _ κ
    · exact DoesAt.none
  · split
    · exact letter_Ids_0.does tab ht _ κ
    · exact DoesAt.none
  · exact DoesAt.none
theorem postbaglaw5_known_0.does {R : Type} (tab : Tab) (ht : TabOk tab) (κ : List SV → Option R) : DoesAt Tryd.prog (tabTy tyL) tab 13 [] κ (postbaglaw5_known_0 (fun r0 => κ [.bool r0])) := by
  intro r h w vs Rt Ra bs hpre
  exact runF_sound tyOk (postbaglaw5_known_0.Γ_does tab ht) (show Tryd.prog.funcs[13]? = some Tryd.f13 by kernel_rfl) (by kernel_rfl) ((postbaglaw5_known_0.run R κ).trans h) hpre
def letter_Pick_sbo.Γ {R : Type} (c1 : letter_rows_0.F R) (c2 : strings_Builder_WriteString_vxfes.F R) (c3 : strings_Builder_String_vxfe.F R) (c4 : octet_Same_0.F R) (c5 : strings_HasSuffix_0.F R) (g : Nat) (xs : List SV) (κ : List SV → Option R) : Option R :=
  match g with
  | 33 => (match xs with
    | [.str a0, .str a1] => c4 a0 a1 (fun r0 => κ [.bool r0])
    | _ => none)
  | 35 => (match xs with
    | [.str a0] => c1 a0 (fun r0 => κ [.fr 58 r0 true])
    | _ => none)
  | 39 => (match xs with
    | [.vp 63 [.nos, .fr 5 a0 true], .str a1] => c2 a0 a1 (fun r0 r1 => κ [.tup [.int .i64 r0, .nili], .vp 63 [.nos, .fr 5 r1 true]])
    | _ => none)
  | 40 => (match xs with
    | [.str a0, .str a1] => c5 a0 a1 (fun r0 => κ [.bool r0])
    | _ => none)
  | 41 => (match xs with
    | [.vp 63 [.nos, .fr 5 a0 true]] => c3 a0 (fun r0 => κ [.str r0, .vp 63 [.nos, .no]])
    | _ => none)
  | _ => none
def letter_Pick_sbo.h (n : Nat) : Option (List (Nat × List (Nat × Nat))) :=
  match n with
  | 3 => some [(1, [(0, 0)]), (2, [(0, 0)]), (7, [(1, 7)]), (14, [(0, 0)]), (15, [(0, 0)]), (16, [(0, 0)])]
  | 7 => some [(1, [(0, 0)]), (2, [(0, 0)]), (7, [(0, 0)]), (9, [(0, 0)]), (10, [(0, 0)]), (14, [(0, 0)]), (15, [(0, 0)]), (16, [(0, 0)]), (20, [(0, 0)]), (21, [(0, 0)]), (22, [(0, 0)])]
  | _ => none
def letter_Pick_sbo.C (R : Type) (c1 : letter_rows_0.F R) (c2 : strings_Builder_WriteString_vxfes.F R) (c3 : strings_Builder_String_vxfe.F R) (c4 : octet_Same_0.F R) (c5 : strings_HasSuffix_0.F R) : Cfg R := ⟨tabTy tyL, letter_Pick_sbo.Γ c1 c2 c3 c4 c5, fun _ => false, letter_Pick_sbo.h⟩
def letter_Pick_sbo.s3 (x0 : Bool) (x1 : List AV) (x2 : Int) (x3 : Int) (x4 : List AV) (x5 : List AV) : St := ⟨mkS 52 [(1, .bool x0), (2, .ro 9 x1 false), (7, .ptr 575 0), (14, .own 960), (15, .int .i64 x2), (16, .int .i64 x3)], [(575, .var 63 [.nos, .own 513]), (513, .row 5 x4 true), (960, .row 58 x5 true)], top⟩
def letter_Pick_sbo.s7 (x0 : Bool) (x1 : List AV) (x2 : Bool) (x3 : Int) (x4 : Int) (x5 : List AV) (x6 : Int) (x7 : Int) (x8 : List AV) (x9 : ByteArray) (x10 : ByteArray) (x11 : Bool) (x12 : Bool) (x13 : List AV) : St := ⟨mkS 52 [(1, .bool x0), (2, .ro 9 x1 false), (7, .ptr 575 0), (9, .ptr 703 0), (10, .bool x2), (14, .own 960), (15, .int .i64 x3), (16, .int .i64 x4), (20, .ro 9 x5 false), (21, .int .i64 x6), (22, .int .i64 x7)], [(575, .var 63 [.nos, .own 513]), (513, .row 5 x8 true), (703, .var 58 [.str x9, .str x10, .bool x11, .bool x12]), (960, .row 58 x13 true)], top⟩
theorem letter_Pick_sbo.c3 (R : Type) (c1 : letter_rows_0.F R) (c2 : strings_Builder_WriteString_vxfes.F R) (c3 : strings_Builder_String_vxfe.F R) (c4 : octet_Same_0.F R) (c5 : strings_HasSuffix_0.F R) (J : List Item → St → Option R) (κ : List SV → Option R) (x0 : Bool) (x1 : List AV) (x2 : Int) (x3 : Int) (x4 : List AV) (x5 : List AV) :
    start (letter_Pick_sbo.C R c1 c2 c3 c4 c5) J (retK (letter_Pick_sbo.C R c1 c2 c3 c4 c5) Tryd.f18.results.toList (List.range 0) κ) 10000 (placeOf Tryd.f18 3) (letter_Pick_sbo.s3 x0 x1 x2 x3 x4 x5) = letter_Pick_sbo.t3 c1 c2 c3 c4 c5 x0 x1 x2 x3 x4 x5 (fun y0 y1 y2 y3 y4 y5 => J (placeOf Tryd.f18 3) (letter_Pick_sbo.s3 y0 y1 y2 y3 y4 y5)) (fun y0 y1 y2 y3 y4 y5 y6 y7 y8 y9 y10 y11 y12 y13 => J (placeOf Tryd.f18 7) (letter_Pick_sbo.s7 y0 y1 y2 y3 y4 y5 y6 y7 y8 y9 y10 y11 y12 y13)) (fun r0 => κ [.str r0]) := by kernel_rfl
theorem letter_Pick_sbo.c7 (R : Type) (c1 : letter_rows_0.F R) (c2 : strings_Builder_WriteString_vxfes.F R) (c3 : strings_Builder_String_vxfe.F R) (c4 : octet_Same_0.F R) (c5 : strings_HasSuffix_0.F R) (J : List Item → St → Option R) (κ : List SV → Option R) (x0 : Bool) (x1 : List AV) (x2 : Bool) (x3 : Int) (x4 : Int) (x5 : List AV) (x6 : Int) (x7 : Int) (x8 : List AV) (x9 : ByteArray) (x10 : ByteArray) (x11 : Bool) (x12 : Bool) (x13 : List AV) :
    start (letter_Pick_sbo.C R c1 c2 c3 c4 c5) J (retK (letter_Pick_sbo.C R c1 c2 c3 c4 c5) Tryd.f18.results.toList (List.range 0) κ) 10000 (placeOf Tryd.f18 7) (letter_Pick_sbo.s7 x0 x1 x2 x3 x4 x5 x6 x7 x8 x9 x10 x11 x12 x13) = letter_Pick_sbo.t7 c1 c2 c3 c4 c5 x0 x1 x2 x3 x4 x5 x6 x7 x8 x9 x10 x11 x12 x13 (fun y0 y1 y2 y3 y4 y5 => J (placeOf Tryd.f18 3) (letter_Pick_sbo.s3 y0 y1 y2 y3 y4 y5)) (fun y0 y1 y2 y3 y4 y5 y6 y7 y8 y9 y10 y11 y12 y13 => J (placeOf Tryd.f18 7) (letter_Pick_sbo.s7 y0 y1 y2 y3 y4 y5 y6 y7 y8 y9 y10 y11 y12 y13)) (fun r0 => κ [.str r0]) := by kernel_rfl
theorem letter_Pick_sbo.c (R : Type) (c1 : letter_rows_0.F R) (c2 : strings_Builder_WriteString_vxfes.F R) (c3 : strings_Builder_String_vxfe.F R) (c4 : octet_Same_0.F R) (c5 : strings_HasSuffix_0.F R) (κ : List SV → Option R) (k : Nat) (a0 : ByteArray) (a1 : Bool) (a2 : List AV) :
    runF (letter_Pick_sbo.C R c1 c2 c3 c4 c5) Tryd.f18 10000 k [.str a0, .bool a1, .ro 9 a2 false] κ = letter_Pick_sbo.e c1 c2 c3 c4 c5 a0 a1 a2 (fun y0 y1 y2 y3 y4 y5 => goto (letter_Pick_sbo.C R c1 c2 c3 c4 c5) (retK (letter_Pick_sbo.C R c1 c2 c3 c4 c5) Tryd.f18.results.toList (List.range 0) κ) 10000 k (placeOf Tryd.f18 3) (letter_Pick_sbo.s3 y0 y1 y2 y3 y4 y5)) (fun y0 y1 y2 y3 y4 y5 y6 y7 y8 y9 y10 y11 y12 y13 => goto (letter_Pick_sbo.C R c1 c2 c3 c4 c5) (retK (letter_Pick_sbo.C R c1 c2 c3 c4 c5) Tryd.f18.results.toList (List.range 0) κ) 10000 k (placeOf Tryd.f18 7) (letter_Pick_sbo.s7 y0 y1 y2 y3 y4 y5 y6 y7 y8 y9 y10 y11 y12 y13)) (fun r0 => κ [.str r0]) := by kernel_rfl
theorem letter_Pick_sbo.gM3 (R : Type) (c1 : letter_rows_0.F R) (c2 : strings_Builder_WriteString_vxfes.F R) (c3 : strings_Builder_String_vxfe.F R) (c4 : octet_Same_0.F R) (c5 : strings_HasSuffix_0.F R) (κ : List SV → Option R) : ∀ (f : Nat), (∀ (x0 : Bool) (x1 : List AV) (x2 : Int) (x3 : Int) (x4 : List AV) (x5 : List AV), goto (letter_Pick_sbo.C R c1 c2 c3 c4 c5) (retK (letter_Pick_sbo.C R c1 c2 c3 c4 c5) Tryd.f18.results.toList (List.range 0) κ) 10000 f (placeOf Tryd.f18 3) (letter_Pick_sbo.s3 x0 x1 x2 x3 x4 x5) = letter_Pick_sbo.L3 c1 c2 c3 c4 c5 (fun r0 => κ [.str r0]) f x0 x1 x2 x3 x4 x5) ∧
    (∀ (x0 : Bool) (x1 : List AV) (x2 : Bool) (x3 : Int) (x4 : Int) (x5 : List AV) (x6 : Int) (x7 : Int) (x8 : List AV) (x9 : ByteArray) (x10 : ByteArray) (x11 : Bool) (x12 : Bool) (x13 : List AV), goto (letter_Pick_sbo.C R c1 c2 c3 c4 c5) (retK (letter_Pick_sbo.C R c1 c2 c3 c4 c5) Tryd.f18.results.toList (List.range 0) κ) 10000 f (placeOf Tryd.f18 7) (letter_Pick_sbo.s7 x0 x1 x2 x3 x4 x5 x6 x7 x8 x9 x10 x11 x12 x13) = letter_Pick_sbo.L7 c1 c2 c3 c4 c5 (fun r0 => κ [.str r0]) f x0 x1 x2 x3 x4 x5 x6 x7 x8 x9 x10 x11 x12 x13)
  | 0 => ⟨fun _ _ _ _ _ _ => rfl, fun _ _ _ _ _ _ _ _ _ _ _ _ _ _ => rfl⟩
  | f + 1 => by
    obtain ⟨ih0, ih1⟩ := letter_Pick_sbo.gM3 R c1 c2 c3 c4 c5 κ f
    refine ⟨?_, ?_⟩
    · intro x0 x1 x2 x3 x4 x5
      show start (letter_Pick_sbo.C R c1 c2 c3 c4 c5) (goto (letter_Pick_sbo.C R c1 c2 c3 c4 c5) (retK (letter_Pick_sbo.C R c1 c2 c3 c4 c5) Tryd.f18.results.toList (List.range 0) κ) 10000 f) (retK (letter_Pick_sbo.C R c1 c2 c3 c4 c5) Tryd.f18.results.toList (List.range 0) κ) 10000 (placeOf Tryd.f18 3) (letter_Pick_sbo.s3 x0 x1 x2 x3 x4 x5) = _
      rw [letter_Pick_sbo.c3]
      simp only [ih0, ih1]
      rfl
    · intro x0 x1 x2 x3 x4 x5 x6 x7 x8 x9 x10 x11 x12 x13
      show start (letter_Pick_sbo.C R c1 c2 c3 c4 c5) (goto (letter_Pick_sbo.C R c1 c2 c3 c4 c5) (retK (letter_Pick_sbo.C R c1 c2 c3 c4 c5) Tryd.f18.results.toList (List.range 0) κ) 10000 f) (retK (letter_Pick_sbo.C R c1 c2 c3 c4 c5) Tryd.f18.results.toList (List.range 0) κ) 10000 (placeOf Tryd.f18 7) (letter_Pick_sbo.s7 x0 x1 x2 x3 x4 x5 x6 x7 x8 x9 x10 x11 x12 x13) = _
      rw [letter_Pick_sbo.c7]
      simp only [ih0, ih1]
      rfl
theorem letter_Pick_sbo.g3 (R : Type) (c1 : letter_rows_0.F R) (c2 : strings_Builder_WriteString_vxfes.F R) (c3 : strings_Builder_String_vxfe.F R) (c4 : octet_Same_0.F R) (c5 : strings_HasSuffix_0.F R) (κ : List SV → Option R) (f : Nat) (x0 : Bool) (x1 : List AV) (x2 : Int) (x3 : Int) (x4 : List AV) (x5 : List AV) : goto (letter_Pick_sbo.C R c1 c2 c3 c4 c5) (retK (letter_Pick_sbo.C R c1 c2 c3 c4 c5) Tryd.f18.results.toList (List.range 0) κ) 10000 f (placeOf Tryd.f18 3) (letter_Pick_sbo.s3 x0 x1 x2 x3 x4 x5) = letter_Pick_sbo.L3 c1 c2 c3 c4 c5 (fun r0 => κ [.str r0]) f x0 x1 x2 x3 x4 x5 := (letter_Pick_sbo.gM3 R c1 c2 c3 c4 c5 κ f).1 x0 x1 x2 x3 x4 x5
theorem letter_Pick_sbo.g7 (R : Type) (c1 : letter_rows_0.F R) (c2 : strings_Builder_WriteString_vxfes.F R) (c3 : strings_Builder_String_vxfe.F R) (c4 : octet_Same_0.F R) (c5 : strings_HasSuffix_0.F R) (κ : List SV → Option R) (f : Nat) (x0 : Bool) (x1 : List AV) (x2 : Bool) (x3 : Int) (x4 : Int) (x5 : List AV) (x6 : Int) (x7 : Int) (x8 : List AV) (x9 : ByteArray) (x10 : ByteArray) (x11 : Bool) (x12 : Bool) (x13 : List AV) : goto (letter_Pick_sbo.C R c1 c2 c3 c4 c5) (retK (letter_Pick_sbo.C R c1 c2 c3 c4 c5) Tryd.f18.results.toList (List.range 0) κ) 10000 f (placeOf Tryd.f18 7) (letter_Pick_sbo.s7 x0 x1 x2 x3 x4 x5 x6 x7 x8 x9 x10 x11 x12 x13) = letter_Pick_sbo.L7 c1 c2 c3 c4 c5 (fun r0 => κ [.str r0]) f x0 x1 x2 x3 x4 x5 x6 x7 x8 x9 x10 x11 x12 x13 := (letter_Pick_sbo.gM3 R c1 c2 c3 c4 c5 κ f).2 x0 x1 x2 x3 x4 x5 x6 x7 x8 x9 x10 x11 x12 x13
theorem letter_Pick_sbo.run (R : Type) (κ : List SV → Option R) (a0 : ByteArray) (a1 : Bool) (a2 : List AV) :
    runF (letter_Pick_sbo.C R letter_rows_0 strings_Builder_WriteString_vxfes strings_Builder_String_vxfe octet_Same_0 strings_HasSuffix_0) Tryd.f18 10000 fuelK [.str a0, .bool a1, .ro 9 a2 false] κ = letter_Pick_sbo a0 a1 a2 (fun r0 => κ [.str r0]) := by
  rw [letter_Pick_sbo.c]
  simp only [letter_Pick_sbo.g3 R letter_rows_0 strings_Builder_WriteString_vxfes strings_Builder_String_vxfe octet_Same_0 strings_HasSuffix_0 κ fuelK, letter_Pick_sbo.g7 R letter_rows_0 strings_Builder_WriteString_vxfes strings_Builder_String_vxfe octet_Same_0 strings_HasSuffix_0 κ fuelK]
  rfl
theorem letter_Pick_sbo.Γ_does {R : Type} (tab : Tab) (ht : TabOk tab) (g : Nat) : Does (R := R) Tryd.prog (tabTy tyL) tab g ((letter_Pick_sbo.C R letter_rows_0 strings_Builder_WriteString_vxfes strings_Builder_String_vxfe octet_Same_0 strings_HasSuffix_0).call g) := by
  refine does_of fun xs κ => ?_
  show DoesAt _ _ _ g xs κ (letter_Pick_sbo.Γ letter_rows_0 strings_Builder_WriteString_vxfes strings_Builder_String_vxfe octet_Same_0 strings_HasSuffix_0 g xs κ)
  unfold letter_Pick_sbo.Γ
  split
  · split
    · exact octet_Same_0.does tab ht _ _ κ
    · exact DoesAt.none
  · split
    · exact letter_rows_0.does tab ht _ κ
    · exact DoesAt.none
  · split
    · exact strings_Builder_WriteString_vxfes.does tab ht _ _ κ
    · exact DoesAt.none
  · split
    · exact strings_HasSuffix_0.does tab ht _ _ κ
    · exact DoesAt.none
  · split
    · exact strings_Builder_String_vxfe.does tab ht _ κ
    · exact DoesAt.none
  · exact DoesAt.none
theorem letter_Pick_sbo.does {R : Type} (tab : Tab) (ht : TabOk tab) (a0 : ByteArray) (a1 : Bool) (a2 : List AV) (κ : List SV → Option R) : DoesAt Tryd.prog (tabTy tyL) tab 18 [.str a0, .bool a1, .ro 9 a2 false] κ (letter_Pick_sbo a0 a1 a2 (fun r0 => κ [.str r0])) := by
  intro r h w vs Rt Ra bs hpre
  exact runF_sound tyOk (letter_Pick_sbo.Γ_does tab ht) (show Tryd.prog.funcs[18]? = some Tryd.f18 by kernel_rfl) (by kernel_rfl) ((letter_Pick_sbo.run R κ a0 a1 a2).trans h) hpre
def postbaglaw5_starts_0.Γ {R : Type} (g : Nat) (xs : List SV) (κ : List SV → Option R) : Option R :=
  match g with
  | _ => none
def postbaglaw5_starts_0.h (n : Nat) : Option (List (Nat × List (Nat × Nat))) :=
  match n with
  | _ => none
def postbaglaw5_starts_0.C (R : Type) : Cfg R := ⟨tabTy tyL, postbaglaw5_starts_0.Γ, fun _ => false, postbaglaw5_starts_0.h⟩
theorem postbaglaw5_starts_0.c (R : Type) (κ : List SV → Option R) (k : Nat) (a0 : ByteArray) (a1 : ByteArray) :
    runF (postbaglaw5_starts_0.C R) Tryd.f19 10000 k [.str a0, .str a1] κ = postbaglaw5_starts_0.e a0 a1 (fun r0 => κ [.bool r0]) := by kernel_rfl
theorem postbaglaw5_starts_0.run (R : Type) (κ : List SV → Option R) (a0 : ByteArray) (a1 : ByteArray) :
    runF (postbaglaw5_starts_0.C R) Tryd.f19 10000 fuelK [.str a0, .str a1] κ = postbaglaw5_starts_0 a0 a1 (fun r0 => κ [.bool r0]) := by
  rw [postbaglaw5_starts_0.c]
  rfl
theorem postbaglaw5_starts_0.Γ_does {R : Type} (tab : Tab) (ht : TabOk tab) (g : Nat) : Does (R := R) Tryd.prog (tabTy tyL) tab g ((postbaglaw5_starts_0.C R).call g) := by
  refine does_of fun xs κ => ?_
  show DoesAt _ _ _ g xs κ (postbaglaw5_starts_0.Γ g xs κ)
  unfold postbaglaw5_starts_0.Γ
  split
  · exact DoesAt.none
theorem postbaglaw5_starts_0.does {R : Type} (tab : Tab) (ht : TabOk tab) (a0 : ByteArray) (a1 : ByteArray) (κ : List SV → Option R) : DoesAt Tryd.prog (tabTy tyL) tab 19 [.str a0, .str a1] κ (postbaglaw5_starts_0 a0 a1 (fun r0 => κ [.bool r0])) := by
  intro r h w vs Rt Ra bs hpre
  exact runF_sound tyOk (postbaglaw5_starts_0.Γ_does tab ht) (show Tryd.prog.funcs[19]? = some Tryd.f19 by kernel_rfl) (by kernel_rfl) ((postbaglaw5_starts_0.run R κ a0 a1).trans h) hpre
def postbaglaw5_LetterPicked_0.Γ {R : Type} (c1 : postbaglaw5_known_0.F R) (c2 : letter_Pick_sbo.F R) (c3 : letter_Pick_sbn.F R) (c4 : letter_Fields_0.F R) (c5 : letter_Get_os.F R) (c6 : postbaglaw5_starts_0.F R) (g : Nat) (xs : List SV) (κ : List SV → Option R) : Option R :=
  match g with
  | 13 => (match xs with
    | [] => c1 (fun r0 => κ [.bool r0])
    | _ => none)
  | 14 => (match xs with
    | [.ro 28 a0 false, .str a1] => c5 a0 a1 (fun r0 r1 => κ [.agg [.bool r0, .str r1]])
    | _ => none)
  | 17 => (match xs with
    | [.str a0] => c4 a0 (fun r0 => κ [.fr 28 r0 true])
    | _ => none)
  | 18 => (match xs with
    | [.str a0, .bool a1, .ro 9 a2 false] => c2 a0 a1 a2 (fun r0 => κ [.str r0])
    | [.str a0, .bool a1, .nil] => c3 a0 a1 (fun r0 => κ [.str r0])
    | _ => none)
  | 19 => (match xs with
    | [.str a0, .str a1] => c6 a0 a1 (fun r0 => κ [.bool r0])
    | _ => none)
  | _ => none
def postbaglaw5_LetterPicked_0.h (n : Nat) : Option (List (Nat × List (Nat × Nat))) :=
  match n with
  | 14 => some [(1, [(0, 0)]), (6, [(0, 0)]), (8, [(0, 0)]), (9, [(0, 0)]), (10, [(0, 0)]), (11, [(0, 0)])]
  | 23 => some [(1, [(0, 0)]), (8, [(0, 0)]), (9, [(0, 0)]), (10, [(0, 0)]), (13, [(0, 0)]), (14, [(0, 0)])]
  | _ => none
def postbaglaw5_LetterPicked_0.C (R : Type) (c1 : postbaglaw5_known_0.F R) (c2 : letter_Pick_sbo.F R) (c3 : letter_Pick_sbn.F R) (c4 : letter_Fields_0.F R) (c5 : letter_Get_os.F R) (c6 : postbaglaw5_starts_0.F R) : Cfg R := ⟨tabTy tyL, postbaglaw5_LetterPicked_0.Γ c1 c2 c3 c4 c5 c6, fun _ => false, postbaglaw5_LetterPicked_0.h⟩
def postbaglaw5_LetterPicked_0.s14 (x0 : ByteArray) (x1 : ByteArray) (x2 : Int) (x3 : Int) (x4 : List AV) (x5 : List AV) : St := ⟨mkS 130 [(1, .str x0), (6, .str x1), (8, .own 576), (9, .own 640), (10, .int .i64 x2), (11, .int .i64 x3)], [(576, .row 28 x4 true), (640, .row 28 x5 true)], top⟩
def postbaglaw5_LetterPicked_0.s23 (x0 : ByteArray) (x1 : Int) (x2 : Int) (x3 : List AV) (x4 : List AV) (x5 : List AV) : St := ⟨mkS 130 [(1, .str x0), (8, .own 576), (9, .own 640), (10, .int .i64 x1), (13, .own 896), (14, .int .i64 x2)], [(576, .row 28 x3 true), (640, .row 28 x4 true), (896, .row 28 x5 true)], top⟩
theorem postbaglaw5_LetterPicked_0.c14 (R : Type) (c1 : postbaglaw5_known_0.F R) (c2 : letter_Pick_sbo.F R) (c3 : letter_Pick_sbn.F R) (c4 : letter_Fields_0.F R) (c5 : letter_Get_os.F R) (c6 : postbaglaw5_starts_0.F R) (J : List Item → St → Option R) (κ : List SV → Option R) (x0 : ByteArray) (x1 : ByteArray) (x2 : Int) (x3 : Int) (x4 : List AV) (x5 : List AV) :
    start (postbaglaw5_LetterPicked_0.C R c1 c2 c3 c4 c5 c6) J (retK (postbaglaw5_LetterPicked_0.C R c1 c2 c3 c4 c5 c6) Tryd.f6.results.toList (List.range 0) κ) 10000 (placeOf Tryd.f6 14) (postbaglaw5_LetterPicked_0.s14 x0 x1 x2 x3 x4 x5) = postbaglaw5_LetterPicked_0.t14 c1 c2 c3 c4 c5 c6 x0 x1 x2 x3 x4 x5 (fun y0 y1 y2 y3 y4 y5 => J (placeOf Tryd.f6 14) (postbaglaw5_LetterPicked_0.s14 y0 y1 y2 y3 y4 y5)) (fun y0 y1 y2 y3 y4 y5 => J (placeOf Tryd.f6 23) (postbaglaw5_LetterPicked_0.s23 y0 y1 y2 y3 y4 y5)) (fun r0 => κ [.bool r0]) := by kernel_rfl
theorem postbaglaw5_LetterPicked_0.c23 (R : Type) (c1 : postbaglaw5_known_0.F R) (c2 : letter_Pick_sbo.F R) (c3 : letter_Pick_sbn.F R) (c4 : letter_Fields_0.F R) (c5 : letter_Get_os.F R) (c6 : postbaglaw5_starts_0.F R) (J : List Item → St → Option R) (κ : List SV → Option R) (x0 : ByteArray) (x1 : Int) (x2 : Int) (x3 : List AV) (x4 : List AV) (x5 : List AV) :
    start (postbaglaw5_LetterPicked_0.C R c1 c2 c3 c4 c5 c6) J (retK (postbaglaw5_LetterPicked_0.C R c1 c2 c3 c4 c5 c6) Tryd.f6.results.toList (List.range 0) κ) 10000 (placeOf Tryd.f6 23) (postbaglaw5_LetterPicked_0.s23 x0 x1 x2 x3 x4 x5) = postbaglaw5_LetterPicked_0.t23 c1 c2 c3 c4 c5 c6 x0 x1 x2 x3 x4 x5 (fun y0 y1 y2 y3 y4 y5 => J (placeOf Tryd.f6 14) (postbaglaw5_LetterPicked_0.s14 y0 y1 y2 y3 y4 y5)) (fun y0 y1 y2 y3 y4 y5 => J (placeOf Tryd.f6 23) (postbaglaw5_LetterPicked_0.s23 y0 y1 y2 y3 y4 y5)) (fun r0 => κ [.bool r0]) := by kernel_rfl
theorem postbaglaw5_LetterPicked_0.c (R : Type) (c1 : postbaglaw5_known_0.F R) (c2 : letter_Pick_sbo.F R) (c3 : letter_Pick_sbn.F R) (c4 : letter_Fields_0.F R) (c5 : letter_Get_os.F R) (c6 : postbaglaw5_starts_0.F R) (κ : List SV → Option R) (k : Nat) (a0 : ByteArray) (a1 : ByteArray) :
    runF (postbaglaw5_LetterPicked_0.C R c1 c2 c3 c4 c5 c6) Tryd.f6 10000 k [.str a0, .str a1] κ = postbaglaw5_LetterPicked_0.e c1 c2 c3 c4 c5 c6 a0 a1 (fun y0 y1 y2 y3 y4 y5 => goto (postbaglaw5_LetterPicked_0.C R c1 c2 c3 c4 c5 c6) (retK (postbaglaw5_LetterPicked_0.C R c1 c2 c3 c4 c5 c6) Tryd.f6.results.toList (List.range 0) κ) 10000 k (placeOf Tryd.f6 14) (postbaglaw5_LetterPicked_0.s14 y0 y1 y2 y3 y4 y5)) (fun y0 y1 y2 y3 y4 y5 => goto (postbaglaw5_LetterPicked_0.C R c1 c2 c3 c4 c5 c6) (retK (postbaglaw5_LetterPicked_0.C R c1 c2 c3 c4 c5 c6) Tryd.f6.results.toList (List.range 0) κ) 10000 k (placeOf Tryd.f6 23) (postbaglaw5_LetterPicked_0.s23 y0 y1 y2 y3 y4 y5)) (fun r0 => κ [.bool r0]) := by kernel_rfl
theorem postbaglaw5_LetterPicked_0.g23 (R : Type) (c1 : postbaglaw5_known_0.F R) (c2 : letter_Pick_sbo.F R) (c3 : letter_Pick_sbn.F R) (c4 : letter_Fields_0.F R) (c5 : letter_Get_os.F R) (c6 : postbaglaw5_starts_0.F R) (κ : List SV → Option R) : ∀ (f : Nat) (x0 : ByteArray) (x1 : Int) (x2 : Int) (x3 : List AV) (x4 : List AV) (x5 : List AV), goto (postbaglaw5_LetterPicked_0.C R c1 c2 c3 c4 c5 c6) (retK (postbaglaw5_LetterPicked_0.C R c1 c2 c3 c4 c5 c6) Tryd.f6.results.toList (List.range 0) κ) 10000 f (placeOf Tryd.f6 23) (postbaglaw5_LetterPicked_0.s23 x0 x1 x2 x3 x4 x5) = postbaglaw5_LetterPicked_0.L23 c1 c2 c3 c4 c5 c6 (fun r0 => κ [.bool r0]) f x0 x1 x2 x3 x4 x5
  | 0, _, _, _, _, _, _ => rfl
  | f + 1, x0, x1, x2, x3, x4, x5 => by
    show start (postbaglaw5_LetterPicked_0.C R c1 c2 c3 c4 c5 c6) (goto (postbaglaw5_LetterPicked_0.C R c1 c2 c3 c4 c5 c6) (retK (postbaglaw5_LetterPicked_0.C R c1 c2 c3 c4 c5 c6) Tryd.f6.results.toList (List.range 0) κ) 10000 f) (retK (postbaglaw5_LetterPicked_0.C R c1 c2 c3 c4 c5 c6) Tryd.f6.results.toList (List.range 0) κ) 10000 (placeOf Tryd.f6 23) (postbaglaw5_LetterPicked_0.s23 x0 x1 x2 x3 x4 x5) = _
    rw [postbaglaw5_LetterPicked_0.c23]
    simp only [postbaglaw5_LetterPicked_0.g23 R c1 c2 c3 c4 c5 c6 κ f]
    rfl
theorem postbaglaw5_LetterPicked_0.g14 (R : Type) (c1 : postbaglaw5_known_0.F R) (c2 : letter_Pick_sbo.F R) (c3 : letter_Pick_sbn.F R) (c4 : letter_Fields_0.F R) (c5 : letter_Get_os.F R) (c6 : postbaglaw5_starts_0.F R) (κ : List SV → Option R) : ∀ (f : Nat) (x0 : ByteArray) (x1 : ByteArray) (x2 : Int) (x3 : Int) (x4 : List AV) (x5 : List AV), goto (postbaglaw5_LetterPicked_0.C R c1 c2 c3 c4 c5 c6) (retK (postbaglaw5_LetterPicked_0.C R c1 c2 c3 c4 c5 c6) Tryd.f6.results.toList (List.range 0) κ) 10000 f (placeOf Tryd.f6 14) (postbaglaw5_LetterPicked_0.s14 x0 x1 x2 x3 x4 x5) = postbaglaw5_LetterPicked_0.L14 c1 c2 c3 c4 c5 c6 (fun r0 => κ [.bool r0]) f x0 x1 x2 x3 x4 x5
  | 0, _, _, _, _, _, _ => rfl
  | f + 1, x0, x1, x2, x3, x4, x5 => by
    show start (postbaglaw5_LetterPicked_0.C R c1 c2 c3 c4 c5 c6) (goto (postbaglaw5_LetterPicked_0.C R c1 c2 c3 c4 c5 c6) (retK (postbaglaw5_LetterPicked_0.C R c1 c2 c3 c4 c5 c6) Tryd.f6.results.toList (List.range 0) κ) 10000 f) (retK (postbaglaw5_LetterPicked_0.C R c1 c2 c3 c4 c5 c6) Tryd.f6.results.toList (List.range 0) κ) 10000 (placeOf Tryd.f6 14) (postbaglaw5_LetterPicked_0.s14 x0 x1 x2 x3 x4 x5) = _
    rw [postbaglaw5_LetterPicked_0.c14]
    simp only [postbaglaw5_LetterPicked_0.g14 R c1 c2 c3 c4 c5 c6 κ f, postbaglaw5_LetterPicked_0.g23 R c1 c2 c3 c4 c5 c6 κ f]
    rfl
theorem postbaglaw5_LetterPicked_0.run (R : Type) (κ : List SV → Option R) (a0 : ByteArray) (a1 : ByteArray) :
    runF (postbaglaw5_LetterPicked_0.C R postbaglaw5_known_0 letter_Pick_sbo letter_Pick_sbn letter_Fields_0 letter_Get_os postbaglaw5_starts_0) Tryd.f6 10000 fuelK [.str a0, .str a1] κ = postbaglaw5_LetterPicked_0 a0 a1 (fun r0 => κ [.bool r0]) := by
  rw [postbaglaw5_LetterPicked_0.c]
  simp only [postbaglaw5_LetterPicked_0.g14 R postbaglaw5_known_0 letter_Pick_sbo letter_Pick_sbn letter_Fields_0 letter_Get_os postbaglaw5_starts_0 κ fuelK, postbaglaw5_LetterPicked_0.g23 R postbaglaw5_known_0 letter_Pick_sbo letter_Pick_sbn letter_Fields_0 letter_Get_os postbaglaw5_starts_0 κ fuelK]
  rfl
theorem postbaglaw5_LetterPicked_0.Γ_does {R : Type} (tab : Tab) (ht : TabOk tab) (g : Nat) : Does (R := R) Tryd.prog (tabTy tyL) tab g ((postbaglaw5_LetterPicked_0.C R postbaglaw5_known_0 letter_Pick_sbo letter_Pick_sbn letter_Fields_0 letter_Get_os postbaglaw5_starts_0).call g) := by
  refine does_of fun xs κ => ?_
  show DoesAt _ _ _ g xs κ (postbaglaw5_LetterPicked_0.Γ postbaglaw5_known_0 letter_Pick_sbo letter_Pick_sbn letter_Fields_0 letter_Get_os postbaglaw5_starts_0 g xs κ)
  unfold postbaglaw5_LetterPicked_0.Γ
  split
  · split
    · exact postbaglaw5_known_0.does tab ht κ
    · exact DoesAt.none
  · split
    · exact letter_Get_os.does tab ht _ _ κ
    · exact DoesAt.none
  · split
    · exact letter_Fields_0.does tab ht _ κ
    · exact DoesAt.none
  · split
    · exact letter_Pick_sbo.does tab ht _ _ _ κ
    · exact letter_Pick_sbn.does tab ht _ _ κ
    · exact DoesAt.none
  · split
    · exact postbaglaw5_starts_0.does tab ht _ _ κ
    · exact DoesAt.none
  · exact DoesAt.none
theorem postbaglaw5_LetterPicked_0.does {R : Type} (tab : Tab) (ht : TabOk tab) (a0 : ByteArray) (a1 : ByteArray) (κ : List SV → Option R) : DoesAt Tryd.prog (tabTy tyL) tab 6 [.str a0, .str a1] κ (postbaglaw5_LetterPicked_0 a0 a1 (fun r0 => κ [.bool r0])) := by
  intro r h w vs Rt Ra bs hpre
  exact runF_sound tyOk (postbaglaw5_LetterPicked_0.Γ_does tab ht) (show Tryd.prog.funcs[6]? = some Tryd.f6 by kernel_rfl) (by kernel_rfl) ((postbaglaw5_LetterPicked_0.run R κ a0 a1).trans h) hpre
end Go.Proofs.Ab
