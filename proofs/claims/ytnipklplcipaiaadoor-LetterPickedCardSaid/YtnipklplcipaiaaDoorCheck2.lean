/- Each plain function is what a call of its Go function does, checked by the kernel (no condition but what its checks ask). -/
import Derived.Test.YtnipklplcipaiaaDoorSeat
import Derived.Test.YtnipklplcipaiaaDoorText
import Derived.Test.YtnipklplcipaiaaDoorCheck1
/- Each typed text is what its function does: checked by the kernel. -/
namespace Go.Proofs.Ab
set_option linter.unusedVariables false
set_option maxRecDepth 4000
open Go Go.Proofs
set_option maxRecDepth 100000
def letter_part_oi.Γ {R : Type} (c1 : letter_piece_is_0.F R) (c2 : letter_find_ois.F R) (g : Nat) (xs : List SV) (κ : List SV → Option R) : Option R :=
  match g with
  | 52 => (match xs with
    | [.agg [.int .i64 a0, .str a1], .str a2] => c1 a0 a1 a2 (fun r0 => κ [.bool r0])
    | _ => none)
  | 53 => (match xs with
    | [.ro 80 a0 false, .int .i64 a1, .str a2] => c2 a0 a1 a2 (fun r0 => κ [.int .i64 r0])
    | _ => none)
  | _ => none
def letter_part_oi.h (n : Nat) : Option (List (Nat × List (Nat × Nat))) :=
  match n with
  | 2 => some [(0, [(0, 0)]), (5, [(0, 0)])]
  | _ => none
def letter_part_oi.C (R : Type) (c1 : letter_piece_is_0.F R) (c2 : letter_find_ois.F R) : Cfg R := ⟨tabTy tyL, letter_part_oi.Γ c1 c2, fun _ => false, letter_part_oi.h⟩
def letter_part_oi.s2 (x0 : List AV) (x1 : Int) : St := ⟨mkS 50 [(0, .ro 80 x0 false), (5, .int .i64 x1)], [], top⟩
theorem letter_part_oi.c2 (R : Type) (c1 : letter_piece_is_0.F R) (c2 : letter_find_ois.F R) (J : List Item → St → Option R) (κ : List SV → Option R) (x0 : List AV) (x1 : Int) :
    start (letter_part_oi.C R c1 c2) J (retK (letter_part_oi.C R c1 c2) Tryd.f47.results.toList (List.range 0) κ) 10000 (placeOf Tryd.f47 2) (letter_part_oi.s2 x0 x1) = letter_part_oi.t2 c1 c2 x0 x1 (fun y0 y1 => J (placeOf Tryd.f47 2) (letter_part_oi.s2 y0 y1)) (fun r0 => κ [.int .i64 r0]) := by kernel_rfl
theorem letter_part_oi.c (R : Type) (c1 : letter_piece_is_0.F R) (c2 : letter_find_ois.F R) (κ : List SV → Option R) (k : Nat) (a0 : List AV) (a1 : Int) :
    runF (letter_part_oi.C R c1 c2) Tryd.f47 10000 k [.ro 80 a0 false, .int .i64 a1] κ = letter_part_oi.e c1 c2 a0 a1 (fun y0 y1 => goto (letter_part_oi.C R c1 c2) (retK (letter_part_oi.C R c1 c2) Tryd.f47.results.toList (List.range 0) κ) 10000 k (placeOf Tryd.f47 2) (letter_part_oi.s2 y0 y1)) (fun r0 => κ [.int .i64 r0]) := by kernel_rfl
theorem letter_part_oi.g2 (R : Type) (c1 : letter_piece_is_0.F R) (c2 : letter_find_ois.F R) (κ : List SV → Option R) : ∀ (f : Nat) (x0 : List AV) (x1 : Int), goto (letter_part_oi.C R c1 c2) (retK (letter_part_oi.C R c1 c2) Tryd.f47.results.toList (List.range 0) κ) 10000 f (placeOf Tryd.f47 2) (letter_part_oi.s2 x0 x1) = letter_part_oi.L2 c1 c2 (fun r0 => κ [.int .i64 r0]) f x0 x1
  | 0, _, _ => rfl
  | f + 1, x0, x1 => by
    show start (letter_part_oi.C R c1 c2) (goto (letter_part_oi.C R c1 c2) (retK (letter_part_oi.C R c1 c2) Tryd.f47.results.toList (List.range 0) κ) 10000 f) (retK (letter_part_oi.C R c1 c2) Tryd.f47.results.toList (List.range 0) κ) 10000 (placeOf Tryd.f47 2) (letter_part_oi.s2 x0 x1) = _
    rw [letter_part_oi.c2]
    simp only [letter_part_oi.g2 R c1 c2 κ f]
    rfl
theorem letter_part_oi.run (R : Type) (κ : List SV → Option R) (a0 : List AV) (a1 : Int) :
    runF (letter_part_oi.C R letter_piece_is_0 letter_find_ois) Tryd.f47 10000 fuelK [.ro 80 a0 false, .int .i64 a1] κ = letter_part_oi a0 a1 (fun r0 => κ [.int .i64 r0]) := by
  rw [letter_part_oi.c]
  simp only [letter_part_oi.g2 R letter_piece_is_0 letter_find_ois κ fuelK]
  rfl
theorem letter_part_oi.Γ_does {R : Type} (tab : Tab) (ht : TabOk tab) (g : Nat) : Does (R := R) Tryd.prog (tabTy tyL) tab g ((letter_part_oi.C R letter_piece_is_0 letter_find_ois).call g) := by
  refine does_of fun xs κ => ?_
  show DoesAt _ _ _ g xs κ (letter_part_oi.Γ letter_piece_is_0 letter_find_ois g xs κ)
  unfold letter_part_oi.Γ
  split
  · split
    · exact letter_piece_is_0.does tab ht _ _ _ κ
    · exact DoesAt.none
  · split
    · exact letter_find_ois.does tab ht _ _ _ κ
    · exact DoesAt.none
  · exact DoesAt.none
theorem letter_part_oi.does {R : Type} (tab : Tab) (ht : TabOk tab) (a0 : List AV) (a1 : Int) (κ : List SV → Option R) : DoesAt Tryd.prog (tabTy tyL) tab 47 [.ro 80 a0 false, .int .i64 a1] κ (letter_part_oi a0 a1 (fun r0 => κ [.int .i64 r0])) := by
  intro r h w vs Rt Ra bs hpre
  exact runF_sound tyOk (letter_part_oi.Γ_does tab ht) (show Tryd.prog.funcs[47]? = some Tryd.f47 by kernel_rfl) (by kernel_rfl) ((letter_part_oi.run R κ a0 a1).trans h) hpre
def strings_Builder_WriteString_vxfes.Γ {R : Type} (c1 : strings_Builder_copyCheck_vxfe.F R) (g : Nat) (xs : List SV) (κ : List SV → Option R) : Option R :=
  match g with
  | 69 => (match xs with
    | [.vp 63 [.nos, .fr 5 a0 true]] => c1 a0 (fun r0 => κ [.tup [], .vp 63 [.nos, .fr 5 r0 true]])
    | _ => none)
  | _ => none
def strings_Builder_WriteString_vxfes.h (n : Nat) : Option (List (Nat × List (Nat × Nat))) :=
  match n with
  | _ => none
def strings_Builder_WriteString_vxfes.C (R : Type) (c1 : strings_Builder_copyCheck_vxfe.F R) : Cfg R := ⟨tabTy tyL, strings_Builder_WriteString_vxfes.Γ c1, fun _ => false, strings_Builder_WriteString_vxfes.h⟩
theorem strings_Builder_WriteString_vxfes.c (R : Type) (c1 : strings_Builder_copyCheck_vxfe.F R) (κ : List SV → Option R) (k : Nat) (a0 : List AV) (a1 : ByteArray) :
    runF (strings_Builder_WriteString_vxfes.C R c1) Tryd.f39 10000 k [.vp 63 [.nos, .fr 5 a0 true], .str a1] κ = strings_Builder_WriteString_vxfes.e c1 a0 a1 (fun r0 r1 => κ [.tup [.int .i64 r0, .nili], .vp 63 [.nos, .fr 5 r1 true]]) := by kernel_rfl
theorem strings_Builder_WriteString_vxfes.run (R : Type) (κ : List SV → Option R) (a0 : List AV) (a1 : ByteArray) :
    runF (strings_Builder_WriteString_vxfes.C R strings_Builder_copyCheck_vxfe) Tryd.f39 10000 fuelK [.vp 63 [.nos, .fr 5 a0 true], .str a1] κ = strings_Builder_WriteString_vxfes a0 a1 (fun r0 r1 => κ [.tup [.int .i64 r0, .nili], .vp 63 [.nos, .fr 5 r1 true]]) := by
  rw [strings_Builder_WriteString_vxfes.c]
  rfl
theorem strings_Builder_WriteString_vxfes.Γ_does {R : Type} (tab : Tab) (ht : TabOk tab) (g : Nat) : Does (R := R) Tryd.prog (tabTy tyL) tab g ((strings_Builder_WriteString_vxfes.C R strings_Builder_copyCheck_vxfe).call g) := by
  refine does_of fun xs κ => ?_
  show DoesAt _ _ _ g xs κ (strings_Builder_WriteString_vxfes.Γ strings_Builder_copyCheck_vxfe g xs κ)
  unfold strings_Builder_WriteString_vxfes.Γ
  split
  · split
    · exact strings_Builder_copyCheck_vxfe.does tab ht _ κ
    · exact DoesAt.none
  · exact DoesAt.none
theorem strings_Builder_WriteString_vxfes.does {R : Type} (tab : Tab) (ht : TabOk tab) (a0 : List AV) (a1 : ByteArray) (κ : List SV → Option R) : DoesAt Tryd.prog (tabTy tyL) tab 39 [.vp 63 [.nos, .fr 5 a0 true], .str a1] κ (strings_Builder_WriteString_vxfes a0 a1 (fun r0 r1 => κ [.tup [.int .i64 r0, .nili], .vp 63 [.nos, .fr 5 r1 true]])) := by
  intro r h w vs Rt Ra bs hpre
  exact runF_sound tyOk (strings_Builder_WriteString_vxfes.Γ_does tab ht) (show Tryd.prog.funcs[39]? = some Tryd.f39 by kernel_rfl) (by kernel_rfl) ((strings_Builder_WriteString_vxfes.run R κ a0 a1).trans h) hpre
def letter_text_ob.Γ {R : Type} (c1 : strings_Builder_WriteByte_vxfei.F R) (c2 : strings_Builder_WriteString_vxfes.F R) (c3 : strings_Builder_String_vxfe.F R) (g : Nat) (xs : List SV) (κ : List SV → Option R) : Option R :=
  match g with
  | 39 => (match xs with
    | [.vp 63 [.nos, .fr 5 a0 true], .str a1] => c2 a0 a1 (fun r0 r1 => κ [.tup [.int .i64 r0, .nili], .vp 63 [.nos, .fr 5 r1 true]])
    | _ => none)
  | 41 => (match xs with
    | [.vp 63 [.nos, .fr 5 a0 true]] => c3 a0 (fun r0 => κ [.str r0, .vp 63 [.nos, .no]])
    | _ => none)
  | 75 => (match xs with
    | [.vp 63 [.nos, .fr 5 a0 true], .int .u8 a1] => c1 a0 a1 (fun r0 => κ [.nili, .vp 63 [.nos, .fr 5 r0 true]])
    | _ => none)
  | _ => none
def letter_text_ob.h (n : Nat) : Option (List (Nat × List (Nat × Nat))) :=
  match n with
  | 4 => some [(1, [(0, 0)]), (5, [(1, 7)]), (6, [(0, 0)]), (7, [(0, 0)]), (10, [(0, 0)]), (11, [(0, 0)]), (12, [(0, 0)])]
  | _ => none
def letter_text_ob.C (R : Type) (c1 : strings_Builder_WriteByte_vxfei.F R) (c2 : strings_Builder_WriteString_vxfes.F R) (c3 : strings_Builder_String_vxfe.F R) : Cfg R := ⟨tabTy tyL, letter_text_ob.Γ c1 c2 c3, fun _ => false, letter_text_ob.h⟩
def letter_text_ob.s4 (x0 : Bool) (x1 : Bool) (x2 : Bool) (x3 : List AV) (x4 : Int) (x5 : Int) (x6 : List AV) : St := ⟨mkS 31 [(1, .bool x0), (5, .ptr 447 0), (6, .bool x1), (7, .bool x2), (10, .ro 80 x3 false), (11, .int .i64 x4), (12, .int .i64 x5)], [(447, .var 63 [.nos, .own 385]), (385, .row 5 x6 true)], top⟩
theorem letter_text_ob.c4 (R : Type) (c1 : strings_Builder_WriteByte_vxfei.F R) (c2 : strings_Builder_WriteString_vxfes.F R) (c3 : strings_Builder_String_vxfe.F R) (J : List Item → St → Option R) (κ : List SV → Option R) (x0 : Bool) (x1 : Bool) (x2 : Bool) (x3 : List AV) (x4 : Int) (x5 : Int) (x6 : List AV) :
    start (letter_text_ob.C R c1 c2 c3) J (retK (letter_text_ob.C R c1 c2 c3) Tryd.f49.results.toList (List.range 0) κ) 10000 (placeOf Tryd.f49 4) (letter_text_ob.s4 x0 x1 x2 x3 x4 x5 x6) = letter_text_ob.t4 c1 c2 c3 x0 x1 x2 x3 x4 x5 x6 (fun y0 y1 y2 y3 y4 y5 y6 => J (placeOf Tryd.f49 4) (letter_text_ob.s4 y0 y1 y2 y3 y4 y5 y6)) (fun r0 => κ [.str r0]) := by kernel_rfl
theorem letter_text_ob.c (R : Type) (c1 : strings_Builder_WriteByte_vxfei.F R) (c2 : strings_Builder_WriteString_vxfes.F R) (c3 : strings_Builder_String_vxfe.F R) (κ : List SV → Option R) (k : Nat) (a0 : List AV) (a1 : Bool) :
    runF (letter_text_ob.C R c1 c2 c3) Tryd.f49 10000 k [.ro 80 a0 false, .bool a1] κ = letter_text_ob.e c1 c2 c3 a0 a1 (fun y0 y1 y2 y3 y4 y5 y6 => goto (letter_text_ob.C R c1 c2 c3) (retK (letter_text_ob.C R c1 c2 c3) Tryd.f49.results.toList (List.range 0) κ) 10000 k (placeOf Tryd.f49 4) (letter_text_ob.s4 y0 y1 y2 y3 y4 y5 y6)) (fun r0 => κ [.str r0]) := by kernel_rfl
theorem letter_text_ob.g4 (R : Type) (c1 : strings_Builder_WriteByte_vxfei.F R) (c2 : strings_Builder_WriteString_vxfes.F R) (c3 : strings_Builder_String_vxfe.F R) (κ : List SV → Option R) : ∀ (f : Nat) (x0 : Bool) (x1 : Bool) (x2 : Bool) (x3 : List AV) (x4 : Int) (x5 : Int) (x6 : List AV), goto (letter_text_ob.C R c1 c2 c3) (retK (letter_text_ob.C R c1 c2 c3) Tryd.f49.results.toList (List.range 0) κ) 10000 f (placeOf Tryd.f49 4) (letter_text_ob.s4 x0 x1 x2 x3 x4 x5 x6) = letter_text_ob.L4 c1 c2 c3 (fun r0 => κ [.str r0]) f x0 x1 x2 x3 x4 x5 x6
  | 0, _, _, _, _, _, _, _ => rfl
  | f + 1, x0, x1, x2, x3, x4, x5, x6 => by
    show start (letter_text_ob.C R c1 c2 c3) (goto (letter_text_ob.C R c1 c2 c3) (retK (letter_text_ob.C R c1 c2 c3) Tryd.f49.results.toList (List.range 0) κ) 10000 f) (retK (letter_text_ob.C R c1 c2 c3) Tryd.f49.results.toList (List.range 0) κ) 10000 (placeOf Tryd.f49 4) (letter_text_ob.s4 x0 x1 x2 x3 x4 x5 x6) = _
    rw [letter_text_ob.c4]
    simp only [letter_text_ob.g4 R c1 c2 c3 κ f]
    rfl
theorem letter_text_ob.run (R : Type) (κ : List SV → Option R) (a0 : List AV) (a1 : Bool) :
    runF (letter_text_ob.C R strings_Builder_WriteByte_vxfei strings_Builder_WriteString_vxfes strings_Builder_String_vxfe) Tryd.f49 10000 fuelK [.ro 80 a0 false, .bool a1] κ = letter_text_ob a0 a1 (fun r0 => κ [.str r0]) := by
  rw [letter_text_ob.c]
  simp only [letter_text_ob.g4 R strings_Builder_WriteByte_vxfei strings_Builder_WriteString_vxfes strings_Builder_String_vxfe κ fuelK]
  rfl
theorem letter_text_ob.Γ_does {R : Type} (tab : Tab) (ht : TabOk tab) (g : Nat) : Does (R := R) Tryd.prog (tabTy tyL) tab g ((letter_text_ob.C R strings_Builder_WriteByte_vxfei strings_Builder_WriteString_vxfes strings_Builder_String_vxfe).call g) := by
  refine does_of fun xs κ => ?_
  show DoesAt _ _ _ g xs κ (letter_text_ob.Γ strings_Builder_WriteByte_vxfei strings_Builder_WriteString_vxfes strings_Builder_String_vxfe g xs κ)
  unfold letter_text_ob.Γ
  split
  · split
    · exact strings_Builder_WriteString_vxfes.does tab ht _ _ κ
    · exact DoesAt.none
  · split
    · exact strings_Builder_String_vxfe.does tab ht _ κ
    · exact DoesAt.none
  · split
    · exact strings_Builder_WriteByte_vxfei.does tab ht _ _ κ
    · exact DoesAt.none
  · exact DoesAt.none
theorem letter_text_ob.does {R : Type} (tab : Tab) (ht : TabOk tab) (a0 : List AV) (a1 : Bool) (κ : List SV → Option R) : DoesAt Tryd.prog (tabTy tyL) tab 49 [.ro 80 a0 false, .bool a1] κ (letter_text_ob a0 a1 (fun r0 => κ [.str r0])) := by
  intro r h w vs Rt Ra bs hpre
  exact runF_sound tyOk (letter_text_ob.Γ_does tab ht) (show Tryd.prog.funcs[49]? = some Tryd.f49 by kernel_rfl) (by kernel_rfl) ((letter_text_ob.run R κ a0 a1).trans h) hpre
def letter_some_0.Γ {R : Type} (g : Nat) (xs : List SV) (κ : List SV → Option R) : Option R :=
  match g with
  | _ => none
def letter_some_0.h (n : Nat) : Option (List (Nat × List (Nat × Nat))) :=
  match n with
  | _ => none
def letter_some_0.C (R : Type) : Cfg R := ⟨tabTy tyL, letter_some_0.Γ, fun _ => false, letter_some_0.h⟩
theorem letter_some_0.c (R : Type) (κ : List SV → Option R) (k : Nat) (a0 : ByteArray) :
    runF (letter_some_0.C R) Tryd.f48 10000 k [.str a0] κ = letter_some_0.e a0 (fun r0 r1 => κ [.agg [.bool r0, .str r1]]) := by kernel_rfl
theorem letter_some_0.run (R : Type) (κ : List SV → Option R) (a0 : ByteArray) :
    runF (letter_some_0.C R) Tryd.f48 10000 fuelK [.str a0] κ = letter_some_0 a0 (fun r0 r1 => κ [.agg [.bool r0, .str r1]]) := by
  rw [letter_some_0.c]
  rfl
theorem letter_some_0.Γ_does {R : Type} (tab : Tab) (ht : TabOk tab) (g : Nat) : Does (R := R) Tryd.prog (tabTy tyL) tab g ((letter_some_0.C R).call g) := by
  refine does_of fun xs κ => ?_
  show DoesAt _ _ _ g xs κ (letter_some_0.Γ g xs κ)
  unfold letter_some_0.Γ
  split
  · exact DoesAt.none
theorem letter_some_0.does {R : Type} (tab : Tab) (ht : TabOk tab) (a0 : ByteArray) (κ : List SV → Option R) : DoesAt Tryd.prog (tabTy tyL) tab 48 [.str a0] κ (letter_some_0 a0 (fun r0 r1 => κ [.agg [.bool r0, .str r1]])) := by
  intro r h w vs Rt Ra bs hpre
  exact runF_sound tyOk (letter_some_0.Γ_does tab ht) (show Tryd.prog.funcs[48]? = some Tryd.f48 by kernel_rfl) (by kernel_rfl) ((letter_some_0.run R κ a0).trans h) hpre
def letter_held_o.Γ {R : Type} (g : Nat) (xs : List SV) (κ : List SV → Option R) : Option R :=
  match g with
  | _ => none
def letter_held_o.h (n : Nat) : Option (List (Nat × List (Nat × Nat))) :=
  match n with
  | 2 => some [(5, [(0, 0)]), (6, [(0, 0)]), (7, [(0, 0)])]
  | _ => none
def letter_held_o.C (R : Type) : Cfg R := ⟨tabTy tyL, letter_held_o.Γ, fun _ => false, letter_held_o.h⟩
def letter_held_o.s2 (x0 : List AV) (x1 : Int) (x2 : Int) : St := ⟨mkS 15 [(5, .ro 80 x0 false), (6, .int .i64 x1), (7, .int .i64 x2)], [], top⟩
theorem letter_held_o.c2 (R : Type) (J : List Item → St → Option R) (κ : List SV → Option R) (x0 : List AV) (x1 : Int) (x2 : Int) :
    start (letter_held_o.C R) J (retK (letter_held_o.C R) Tryd.f50.results.toList (List.range 0) κ) 10000 (placeOf Tryd.f50 2) (letter_held_o.s2 x0 x1 x2) = letter_held_o.t2 x0 x1 x2 (fun y0 y1 y2 => J (placeOf Tryd.f50 2) (letter_held_o.s2 y0 y1 y2)) (fun r0 => κ [.bool r0]) := by kernel_rfl
theorem letter_held_o.c (R : Type) (κ : List SV → Option R) (k : Nat) (a0 : List AV) :
    runF (letter_held_o.C R) Tryd.f50 10000 k [.ro 80 a0 false] κ = letter_held_o.e a0 (fun y0 y1 y2 => goto (letter_held_o.C R) (retK (letter_held_o.C R) Tryd.f50.results.toList (List.range 0) κ) 10000 k (placeOf Tryd.f50 2) (letter_held_o.s2 y0 y1 y2)) (fun r0 => κ [.bool r0]) := by kernel_rfl
theorem letter_held_o.g2 (R : Type) (κ : List SV → Option R) : ∀ (f : Nat) (x0 : List AV) (x1 : Int) (x2 : Int), goto (letter_held_o.C R) (retK (letter_held_o.C R) Tryd.f50.results.toList (List.range 0) κ) 10000 f (placeOf Tryd.f50 2) (letter_held_o.s2 x0 x1 x2) = letter_held_o.L2 (fun r0 => κ [.bool r0]) f x0 x1 x2
  | 0, _, _, _ => rfl
  | f + 1, x0, x1, x2 => by
    show start (letter_held_o.C R) (goto (letter_held_o.C R) (retK (letter_held_o.C R) Tryd.f50.results.toList (List.range 0) κ) 10000 f) (retK (letter_held_o.C R) Tryd.f50.results.toList (List.range 0) κ) 10000 (placeOf Tryd.f50 2) (letter_held_o.s2 x0 x1 x2) = _
    rw [letter_held_o.c2]
    simp only [letter_held_o.g2 R κ f]
    rfl
theorem letter_held_o.run (R : Type) (κ : List SV → Option R) (a0 : List AV) :
    runF (letter_held_o.C R) Tryd.f50 10000 fuelK [.ro 80 a0 false] κ = letter_held_o a0 (fun r0 => κ [.bool r0]) := by
  rw [letter_held_o.c]
  simp only [letter_held_o.g2 R κ fuelK]
  rfl
theorem letter_held_o.Γ_does {R : Type} (tab : Tab) (ht : TabOk tab) (g : Nat) : Does (R := R) Tryd.prog (tabTy tyL) tab g ((letter_held_o.C R).call g) := by
  refine does_of fun xs κ => ?_
  show DoesAt _ _ _ g xs κ (letter_held_o.Γ g xs κ)
  unfold letter_held_o.Γ
  split
  · exact DoesAt.none
theorem letter_held_o.does {R : Type} (tab : Tab) (ht : TabOk tab) (a0 : List AV) (κ : List SV → Option R) : DoesAt Tryd.prog (tabTy tyL) tab 50 [.ro 80 a0 false] κ (letter_held_o a0 (fun r0 => κ [.bool r0])) := by
  intro r h w vs Rt Ra bs hpre
  exact runF_sound tyOk (letter_held_o.Γ_does tab ht) (show Tryd.prog.funcs[50]? = some Tryd.f50 by kernel_rfl) (by kernel_rfl) ((letter_held_o.run R κ a0).trans h) hpre
def letter_routed_o.Γ {R : Type} (c1 : letter_piece_is_0.F R) (g : Nat) (xs : List SV) (κ : List SV → Option R) : Option R :=
  match g with
  | 52 => (match xs with
    | [.agg [.int .i64 a0, .str a1], .str a2] => c1 a0 a1 a2 (fun r0 => κ [.bool r0])
    | _ => none)
  | _ => none
def letter_routed_o.h (n : Nat) : Option (List (Nat × List (Nat × Nat))) :=
  match n with
  | 2 => some [(5, [(0, 0)]), (6, [(0, 0)]), (7, [(0, 0)])]
  | _ => none
def letter_routed_o.C (R : Type) (c1 : letter_piece_is_0.F R) : Cfg R := ⟨tabTy tyL, letter_routed_o.Γ c1, fun _ => false, letter_routed_o.h⟩
def letter_routed_o.s2 (x0 : List AV) (x1 : Int) (x2 : Int) : St := ⟨mkS 17 [(5, .ro 80 x0 false), (6, .int .i64 x1), (7, .int .i64 x2)], [], top⟩
theorem letter_routed_o.c2 (R : Type) (c1 : letter_piece_is_0.F R) (J : List Item → St → Option R) (κ : List SV → Option R) (x0 : List AV) (x1 : Int) (x2 : Int) :
    start (letter_routed_o.C R c1) J (retK (letter_routed_o.C R c1) Tryd.f88.results.toList (List.range 0) κ) 10000 (placeOf Tryd.f88 2) (letter_routed_o.s2 x0 x1 x2) = letter_routed_o.t2 c1 x0 x1 x2 (fun y0 y1 y2 => J (placeOf Tryd.f88 2) (letter_routed_o.s2 y0 y1 y2)) (fun r0 => κ [.bool r0]) := by kernel_rfl
theorem letter_routed_o.c (R : Type) (c1 : letter_piece_is_0.F R) (κ : List SV → Option R) (k : Nat) (a0 : List AV) :
    runF (letter_routed_o.C R c1) Tryd.f88 10000 k [.ro 80 a0 false] κ = letter_routed_o.e c1 a0 (fun y0 y1 y2 => goto (letter_routed_o.C R c1) (retK (letter_routed_o.C R c1) Tryd.f88.results.toList (List.range 0) κ) 10000 k (placeOf Tryd.f88 2) (letter_routed_o.s2 y0 y1 y2)) (fun r0 => κ [.bool r0]) := by kernel_rfl
theorem letter_routed_o.g2 (R : Type) (c1 : letter_piece_is_0.F R) (κ : List SV → Option R) : ∀ (f : Nat) (x0 : List AV) (x1 : Int) (x2 : Int), goto (letter_routed_o.C R c1) (retK (letter_routed_o.C R c1) Tryd.f88.results.toList (List.range 0) κ) 10000 f (placeOf Tryd.f88 2) (letter_routed_o.s2 x0 x1 x2) = letter_routed_o.L2 c1 (fun r0 => κ [.bool r0]) f x0 x1 x2
  | 0, _, _, _ => rfl
  | f + 1, x0, x1, x2 => by
    show start (letter_routed_o.C R c1) (goto (letter_routed_o.C R c1) (retK (letter_routed_o.C R c1) Tryd.f88.results.toList (List.range 0) κ) 10000 f) (retK (letter_routed_o.C R c1) Tryd.f88.results.toList (List.range 0) κ) 10000 (placeOf Tryd.f88 2) (letter_routed_o.s2 x0 x1 x2) = _
    rw [letter_routed_o.c2]
    simp only [letter_routed_o.g2 R c1 κ f]
    rfl
theorem letter_routed_o.run (R : Type) (κ : List SV → Option R) (a0 : List AV) :
    runF (letter_routed_o.C R letter_piece_is_0) Tryd.f88 10000 fuelK [.ro 80 a0 false] κ = letter_routed_o a0 (fun r0 => κ [.bool r0]) := by
  rw [letter_routed_o.c]
  simp only [letter_routed_o.g2 R letter_piece_is_0 κ fuelK]
  rfl
theorem letter_routed_o.Γ_does {R : Type} (tab : Tab) (ht : TabOk tab) (g : Nat) : Does (R := R) Tryd.prog (tabTy tyL) tab g ((letter_routed_o.C R letter_piece_is_0).call g) := by
  refine does_of fun xs κ => ?_
  show DoesAt _ _ _ g xs κ (letter_routed_o.Γ letter_piece_is_0 g xs κ)
  unfold letter_routed_o.Γ
  split
  · split
    · exact letter_piece_is_0.does tab ht _ _ _ κ
    · exact DoesAt.none
  · exact DoesAt.none
theorem letter_routed_o.does {R : Type} (tab : Tab) (ht : TabOk tab) (a0 : List AV) (κ : List SV → Option R) : DoesAt Tryd.prog (tabTy tyL) tab 88 [.ro 80 a0 false] κ (letter_routed_o a0 (fun r0 => κ [.bool r0])) := by
  intro r h w vs Rt Ra bs hpre
  exact runF_sound tyOk (letter_routed_o.Γ_does tab ht) (show Tryd.prog.funcs[88]? = some Tryd.f88 by kernel_rfl) (by kernel_rfl) ((letter_routed_o.run R κ a0).trans h) hpre
def letter_address_o.Γ {R : Type} (c1 : letter_find_ois.F R) (c2 : letter_held_o.F R) (c3 : letter_text_ob.F R) (c4 : letter_some_0.F R) (c5 : letter_routed_o.F R) (c6 : letter_piece_is_0.F R) (g : Nat) (xs : List SV) (κ : List SV → Option R) : Option R :=
  match g with
  | 48 => (match xs with
    | [.str a0] => c4 a0 (fun r0 r1 => κ [.agg [.bool r0, .str r1]])
    | _ => none)
  | 49 => (match xs with
    | [.ro 80 a0 false, .bool a1] => c3 a0 a1 (fun r0 => κ [.str r0])
    | _ => none)
  | 50 => (match xs with
    | [.ro 80 a0 false] => c2 a0 (fun r0 => κ [.bool r0])
    | _ => none)
  | 52 => (match xs with
    | [.agg [.int .i64 a0, .str a1], .str a2] => c6 a0 a1 a2 (fun r0 => κ [.bool r0])
    | _ => none)
  | 53 => (match xs with
    | [.ro 80 a0 false, .int .i64 a1, .str a2] => c1 a0 a1 a2 (fun r0 => κ [.int .i64 r0])
    | _ => none)
  | 88 => (match xs with
    | [.ro 80 a0 false] => c5 a0 (fun r0 => κ [.bool r0])
    | _ => none)
  | _ => none
def letter_address_o.h (n : Nat) : Option (List (Nat × List (Nat × Nat))) :=
  match n with
  | 7 => some [(0, [(0, 0)]), (2, [(0, 0)]), (3, [(0, 0)]), (5, [(0, 0)])]
  | 13 => some [(2, [(0, 0)]), (3, [(0, 0)]), (4, [(0, 0)]), (7, [(0, 0)])]
  | 14 => some [(2, [(0, 0)]), (3, [(0, 0)]), (4, [(0, 0)]), (7, [(0, 0)]), (54, [(0, 0)]), (55, [(0, 0)]), (56, [(0, 0)])]
  | _ => none
def letter_address_o.C (R : Type) (c1 : letter_find_ois.F R) (c2 : letter_held_o.F R) (c3 : letter_text_ob.F R) (c4 : letter_some_0.F R) (c5 : letter_routed_o.F R) (c6 : letter_piece_is_0.F R) : Cfg R := ⟨tabTy tyL, letter_address_o.Γ c1 c2 c3 c4 c5 c6, fun _ => false, letter_address_o.h⟩
def letter_address_o.s7 (x0 : List AV) (x1 : Int) (x2 : Bool) (x3 : ByteArray) (x4 : Bool) (x5 : ByteArray) (x6 : Bool) (x7 : ByteArray) (x8 : Bool) (x9 : ByteArray) (x10 : Bool) (x11 : ByteArray) (x12 : Bool) (x13 : ByteArray) (x14 : Bool) (x15 : ByteArray) (x16 : Bool) (x17 : ByteArray) : St := ⟨mkS 88 [(0, .ro 80 x0 false), (2, .ptr 255 0), (3, .ptr 319 0), (5, .int .i64 x1)], [(255, .var 46 [.bool x2, .str x3, .bool x4, .str x5, .bool x6, .str x7, .bool x8, .str x9]), (319, .var 46 [.bool x10, .str x11, .bool x12, .str x13, .bool x14, .str x15, .bool x16, .str x17])], top⟩
def letter_address_o.s13 (x0 : List AV) (x1 : Int) (x2 : Bool) (x3 : ByteArray) (x4 : Bool) (x5 : ByteArray) (x6 : Bool) (x7 : ByteArray) (x8 : Bool) (x9 : ByteArray) (x10 : Bool) (x11 : ByteArray) (x12 : Bool) (x13 : ByteArray) (x14 : Bool) (x15 : ByteArray) (x16 : Bool) (x17 : ByteArray) : St := ⟨mkS 88 [(2, .ptr 255 0), (3, .ptr 319 0), (4, .ro 80 x0 false), (7, .int .i64 x1)], [(255, .var 46 [.bool x2, .str x3, .bool x4, .str x5, .bool x6, .str x7, .bool x8, .str x9]), (319, .var 46 [.bool x10, .str x11, .bool x12, .str x13, .bool x14, .str x15, .bool x16, .str x17])], top⟩
def letter_address_o.s14 (x0 : List AV) (x1 : Int) (x2 : List AV) (x3 : Int) (x4 : Int) (x5 : Bool) (x6 : ByteArray) (x7 : Bool) (x8 : ByteArray) (x9 : Bool) (x10 : ByteArray) (x11 : Bool) (x12 : ByteArray) (x13 : Bool) (x14 : ByteArray) (x15 : Bool) (x16 : ByteArray) (x17 : Bool) (x18 : ByteArray) (x19 : Bool) (x20 : ByteArray) : St := ⟨mkS 88 [(2, .ptr 255 0), (3, .ptr 319 0), (4, .ro 80 x0 false), (7, .int .i64 x1), (54, .ro 80 x2 false), (55, .int .i64 x3), (56, .int .i64 x4)], [(255, .var 46 [.bool x5, .str x6, .bool x7, .str x8, .bool x9, .str x10, .bool x11, .str x12]), (319, .var 46 [.bool x13, .str x14, .bool x15, .str x16, .bool x17, .str x18, .bool x19, .str x20])], top⟩
theorem letter_address_o.c7 (R : Type) (c1 : letter_find_ois.F R) (c2 : letter_held_o.F R) (c3 : letter_text_ob.F R) (c4 : letter_some_0.F R) (c5 : letter_routed_o.F R) (c6 : letter_piece_is_0.F R) (J : List Item → St → Option R) (κ : List SV → Option R) (x0 : List AV) (x1 : Int) (x2 : Bool) (x3 : ByteArray) (x4 : Bool) (x5 : ByteArray) (x6 : Bool) (x7 : ByteArray) (x8 : Bool) (x9 : ByteArray) (x10 : Bool) (x11 : ByteArray) (x12 : Bool) (x13 : ByteArray) (x14 : Bool) (x15 : ByteArray) (x16 : Bool) (x17 : ByteArray) :
    start (letter_address_o.C R c1 c2 c3 c4 c5 c6) J (retK (letter_address_o.C R c1 c2 c3 c4 c5 c6) Tryd.f51.results.toList (List.range 0) κ) 10000 (placeOf Tryd.f51 7) (letter_address_o.s7 x0 x1 x2 x3 x4 x5 x6 x7 x8 x9 x10 x11 x12 x13 x14 x15 x16 x17) = letter_address_o.t7 c1 c2 c3 c4 c5 c6 x0 x1 x2 x3 x4 x5 x6 x7 x8 x9 x10 x11 x12 x13 x14 x15 x16 x17 (fun y0 y1 y2 y3 y4 y5 y6 y7 y8 y9 y10 y11 y12 y13 y14 y15 y16 y17 => J (placeOf Tryd.f51 7) (letter_address_o.s7 y0 y1 y2 y3 y4 y5 y6 y7 y8 y9 y10 y11 y12 y13 y14 y15 y16 y17)) (fun y0 y1 y2 y3 y4 y5 y6 y7 y8 y9 y10 y11 y12 y13 y14 y15 y16 y17 => J (placeOf Tryd.f51 13) (letter_address_o.s13 y0 y1 y2 y3 y4 y5 y6 y7 y8 y9 y10 y11 y12 y13 y14 y15 y16 y17)) (fun y0 y1 y2 y3 y4 y5 y6 y7 y8 y9 y10 y11 y12 y13 y14 y15 y16 y17 y18 y19 y20 => J (placeOf Tryd.f51 14) (letter_address_o.s14 y0 y1 y2 y3 y4 y5 y6 y7 y8 y9 y10 y11 y12 y13 y14 y15 y16 y17 y18 y19 y20)) (fun r0 r1 r2 r3 r4 r5 r6 r7 => κ [.agg [.bool r0, .str r1, .bool r2, .str r3, .bool r4, .str r5, .bool r6, .str r7]]) := by kernel_rfl
theorem letter_address_o.c13 (R : Type) (c1 : letter_find_ois.F R) (c2 : letter_held_o.F R) (c3 : letter_text_ob.F R) (c4 : letter_some_0.F R) (c5 : letter_routed_o.F R) (c6 : letter_piece_is_0.F R) (J : List Item → St → Option R) (κ : List SV → Option R) (x0 : List AV) (x1 : Int) (x2 : Bool) (x3 : ByteArray) (x4 : Bool) (x5 : ByteArray) (x6 : Bool) (x7 : ByteArray) (x8 : Bool) (x9 : ByteArray) (x10 : Bool) (x11 : ByteArray) (x12 : Bool) (x13 : ByteArray) (x14 : Bool) (x15 : ByteArray) (x16 : Bool) (x17 : ByteArray) :
    start (letter_address_o.C R c1 c2 c3 c4 c5 c6) J (retK (letter_address_o.C R c1 c2 c3 c4 c5 c6) Tryd.f51.results.toList (List.range 0) κ) 10000 (placeOf Tryd.f51 13) (letter_address_o.s13 x0 x1 x2 x3 x4 x5 x6 x7 x8 x9 x10 x11 x12 x13 x14 x15 x16 x17) = letter_address_o.t13 c1 c2 c3 c4 c5 c6 x0 x1 x2 x3 x4 x5 x6 x7 x8 x9 x10 x11 x12 x13 x14 x15 x16 x17 (fun y0 y1 y2 y3 y4 y5 y6 y7 y8 y9 y10 y11 y12 y13 y14 y15 y16 y17 => J (placeOf Tryd.f51 7) (letter_address_o.s7 y0 y1 y2 y3 y4 y5 y6 y7 y8 y9 y10 y11 y12 y13 y14 y15 y16 y17)) (fun y0 y1 y2 y3 y4 y5 y6 y7 y8 y9 y10 y11 y12 y13 y14 y15 y16 y17 => J (placeOf Tryd.f51 13) (letter_address_o.s13 y0 y1 y2 y3 y4 y5 y6 y7 y8 y9 y10 y11 y12 y13 y14 y15 y16 y17)) (fun y0 y1 y2 y3 y4 y5 y6 y7 y8 y9 y10 y11 y12 y13 y14 y15 y16 y17 y18 y19 y20 => J (placeOf Tryd.f51 14) (letter_address_o.s14 y0 y1 y2 y3 y4 y5 y6 y7 y8 y9 y10 y11 y12 y13 y14 y15 y16 y17 y18 y19 y20)) (fun r0 r1 r2 r3 r4 r5 r6 r7 => κ [.agg [.bool r0, .str r1, .bool r2, .str r3, .bool r4, .str r5, .bool r6, .str r7]]) := by kernel_rfl
theorem letter_address_o.c14 (R : Type) (c1 : letter_find_ois.F R) (c2 : letter_held_o.F R) (c3 : letter_text_ob.F R) (c4 : letter_some_0.F R) (c5 : letter_routed_o.F R) (c6 : letter_piece_is_0.F R) (J : List Item → St → Option R) (κ : List SV → Option R) (x0 : List AV) (x1 : Int) (x2 : List AV) (x3 : Int) (x4 : Int) (x5 : Bool) (x6 : ByteArray) (x7 : Bool) (x8 : ByteArray) (x9 : Bool) (x10 : ByteArray) (x11 : Bool) (x12 : ByteArray) (x13 : Bool) (x14 : ByteArray) (x15 : Bool) (x16 : ByteArray) (x17 : Bool) (x18 : ByteArray) (x19 : Bool) (x20 : ByteArray) :
    start (letter_address_o.C R c1 c2 c3 c4 c5 c6) J (retK (letter_address_o.C R c1 c2 c3 c4 c5 c6) Tryd.f51.results.toList (List.range 0) κ) 10000 (placeOf Tryd.f51 14) (letter_address_o.s14 x0 x1 x2 x3 x4 x5 x6 x7 x8 x9 x10 x11 x12 x13 x14 x15 x16 x17 x18 x19 x20) = letter_address_o.t14 c1 c2 c3 c4 c5 c6 x0 x1 x2 x3 x4 x5 x6 x7 x8 x9 x10 x11 x12 x13 x14 x15 x16 x17 x18 x19 x20 (fun y0 y1 y2 y3 y4 y5 y6 y7 y8 y9 y10 y11 y12 y13 y14 y15 y16 y17 => J (placeOf Tryd.f51 7) (letter_address_o.s7 y0 y1 y2 y3 y4 y5 y6 y7 y8 y9 y10 y11 y12 y13 y14 y15 y16 y17)) (fun y0 y1 y2 y3 y4 y5 y6 y7 y8 y9 y10 y11 y12 y13 y14 y15 y16 y17 => J (placeOf Tryd.f51 13) (letter_address_o.s13 y0 y1 y2 y3 y4 y5 y6 y7 y8 y9 y10 y11 y12 y13 y14 y15 y16 y17)) (fun y0 y1 y2 y3 y4 y5 y6 y7 y8 y9 y10 y11 y12 y13 y14 y15 y16 y17 y18 y19 y20 => J (placeOf Tryd.f51 14) (letter_address_o.s14 y0 y1 y2 y3 y4 y5 y6 y7 y8 y9 y10 y11 y12 y13 y14 y15 y16 y17 y18 y19 y20)) (fun r0 r1 r2 r3 r4 r5 r6 r7 => κ [.agg [.bool r0, .str r1, .bool r2, .str r3, .bool r4, .str r5, .bool r6, .str r7]]) := by kernel_rfl
theorem letter_address_o.c (R : Type) (c1 : letter_find_ois.F R) (c2 : letter_held_o.F R) (c3 : letter_text_ob.F R) (c4 : letter_some_0.F R) (c5 : letter_routed_o.F R) (c6 : letter_piece_is_0.F R) (κ : List SV → Option R) (k : Nat) (a0 : List AV) :
    runF (letter_address_o.C R c1 c2 c3 c4 c5 c6) Tryd.f51 10000 k [.ro 80 a0 false] κ = letter_address_o.e c1 c2 c3 c4 c5 c6 a0 (fun y0 y1 y2 y3 y4 y5 y6 y7 y8 y9 y10 y11 y12 y13 y14 y15 y16 y17 => goto (letter_address_o.C R c1 c2 c3 c4 c5 c6) (retK (letter_address_o.C R c1 c2 c3 c4 c5 c6) Tryd.f51.results.toList (List.range 0) κ) 10000 k (placeOf Tryd.f51 7) (letter_address_o.s7 y0 y1 y2 y3 y4 y5 y6 y7 y8 y9 y10 y11 y12 y13 y14 y15 y16 y17)) (fun y0 y1 y2 y3 y4 y5 y6 y7 y8 y9 y10 y11 y12 y13 y14 y15 y16 y17 => goto (letter_address_o.C R c1 c2 c3 c4 c5 c6) (retK (letter_address_o.C R c1 c2 c3 c4 c5 c6) Tryd.f51.results.toList (List.range 0) κ) 10000 k (placeOf Tryd.f51 13) (letter_address_o.s13 y0 y1 y2 y3 y4 y5 y6 y7 y8 y9 y10 y11 y12 y13 y14 y15 y16 y17)) (fun y0 y1 y2 y3 y4 y5 y6 y7 y8 y9 y10 y11 y12 y13 y14 y15 y16 y17 y18 y19 y20 => goto (letter_address_o.C R c1 c2 c3 c4 c5 c6) (retK (letter_address_o.C R c1 c2 c3 c4 c5 c6) Tryd.f51.results.toList (List.range 0) κ) 10000 k (placeOf Tryd.f51 14) (letter_address_o.s14 y0 y1 y2 y3 y4 y5 y6 y7 y8 y9 y10 y11 y12 y13 y14 y15 y16 y17 y18 y19 y20)) (fun r0 r1 r2 r3 r4 r5 r6 r7 => κ [.agg [.bool r0, .str r1, .bool r2, .str r3, .bool r4, .str r5, .bool r6, .str r7]]) := by kernel_rfl
theorem letter_address_o.g14 (R : Type) (c1 : letter_find_ois.F R) (c2 : letter_held_o.F R) (c3 : letter_text_ob.F R) (c4 : letter_some_0.F R) (c5 : letter_routed_o.F R) (c6 : letter_piece_is_0.F R) (κ : List SV → Option R) : ∀ (f : Nat) (x0 : List AV) (x1 : Int) (x2 : List AV) (x3 : Int) (x4 : Int) (x5 : Bool) (x6 : ByteArray) (x7 : Bool) (x8 : ByteArray) (x9 : Bool) (x10 : ByteArray) (x11 : Bool) (x12 : ByteArray) (x13 : Bool) (x14 : ByteArray) (x15 : Bool) (x16 : ByteArray) (x17 : Bool) (x18 : ByteArray) (x19 : Bool) (x20 : ByteArray), goto (letter_address_o.C R c1 c2 c3 c4 c5 c6) (retK (letter_address_o.C R c1 c2 c3 c4 c5 c6) Tryd.f51.results.toList (List.range 0) κ) 10000 f (placeOf Tryd.f51 14) (letter_address_o.s14 x0 x1 x2 x3 x4 x5 x6 x7 x8 x9 x10 x11 x12 x13 x14 x15 x16 x17 x18 x19 x20) = letter_address_o.L14 c1 c2 c3 c4 c5 c6 (fun r0 r1 r2 r3 r4 r5 r6 r7 => κ [.agg [.bool r0, .str r1, .bool r2, .str r3, .bool r4, .str r5, .bool r6, .str r7]]) f x0 x1 x2 x3 x4 x5 x6 x7 x8 x9 x10 x11 x12 x13 x14 x15 x16 x17 x18 x19 x20
  | 0, _, _, _, _, _, _, _, _, _, _, _, _, _, _, _, _, _, _, _, _, _ => rfl
  | f + 1, x0, x1, x2, x3, x4, x5, x6, x7, x8, x9, x10, x11, x12, x13, x14, x15, x16, x17, x18, x19, x20 => by
    show start (letter_address_o.C R c1 c2 c3 c4 c5 c6) (goto (letter_address_o.C R c1 c2 c3 c4 c5 c6) (retK (letter_address_o.C R c1 c2 c3 c4 c5 c6) Tryd.f51.results.toList (List.range 0) κ) 10000 f) (retK (letter_address_o.C R c1 c2 c3 c4 c5 c6) Tryd.f51.results.toList (List.range 0) κ) 10000 (placeOf Tryd.f51 14) (letter_address_o.s14 x0 x1 x2 x3 x4 x5 x6 x7 x8 x9 x10 x11 x12 x13 x14 x15 x16 x17 x18 x19 x20) = _
    rw [letter_address_o.c14]
    simp only [letter_address_o.g14 R c1 c2 c3 c4 c5 c6 κ f]
    rfl
theorem letter_address_o.g13 (R : Type) (c1 : letter_find_ois.F R) (c2 : letter_held_o.F R) (c3 : letter_text_ob.F R) (c4 : letter_some_0.F R) (c5 : letter_routed_o.F R) (c6 : letter_piece_is_0.F R) (κ : List SV → Option R) : ∀ (f : Nat) (x0 : List AV) (x1 : Int) (x2 : Bool) (x3 : ByteArray) (x4 : Bool) (x5 : ByteArray) (x6 : Bool) (x7 : ByteArray) (x8 : Bool) (x9 : ByteArray) (x10 : Bool) (x11 : ByteArray) (x12 : Bool) (x13 : ByteArray) (x14 : Bool) (x15 : ByteArray) (x16 : Bool) (x17 : ByteArray), goto (letter_address_o.C R c1 c2 c3 c4 c5 c6) (retK (letter_address_o.C R c1 c2 c3 c4 c5 c6) Tryd.f51.results.toList (List.range 0) κ) 10000 f (placeOf Tryd.f51 13) (letter_address_o.s13 x0 x1 x2 x3 x4 x5 x6 x7 x8 x9 x10 x11 x12 x13 x14 x15 x16 x17) = letter_address_o.L13 c1 c2 c3 c4 c5 c6 (fun r0 r1 r2 r3 r4 r5 r6 r7 => κ [.agg [.bool r0, .str r1, .bool r2, .str r3, .bool r4, .str r5, .bool r6, .str r7]]) f x0 x1 x2 x3 x4 x5 x6 x7 x8 x9 x10 x11 x12 x13 x14 x15 x16 x17
  | 0, _, _, _, _, _, _, _, _, _, _, _, _, _, _, _, _, _, _ => rfl
  | f + 1, x0, x1, x2, x3, x4, x5, x6, x7, x8, x9, x10, x11, x12, x13, x14, x15, x16, x17 => by
    show start (letter_address_o.C R c1 c2 c3 c4 c5 c6) (goto (letter_address_o.C R c1 c2 c3 c4 c5 c6) (retK (letter_address_o.C R c1 c2 c3 c4 c5 c6) Tryd.f51.results.toList (List.range 0) κ) 10000 f) (retK (letter_address_o.C R c1 c2 c3 c4 c5 c6) Tryd.f51.results.toList (List.range 0) κ) 10000 (placeOf Tryd.f51 13) (letter_address_o.s13 x0 x1 x2 x3 x4 x5 x6 x7 x8 x9 x10 x11 x12 x13 x14 x15 x16 x17) = _
    rw [letter_address_o.c13]
    simp only [letter_address_o.g14 R c1 c2 c3 c4 c5 c6 κ f]
    rfl
theorem letter_address_o.g7 (R : Type) (c1 : letter_find_ois.F R) (c2 : letter_held_o.F R) (c3 : letter_text_ob.F R) (c4 : letter_some_0.F R) (c5 : letter_routed_o.F R) (c6 : letter_piece_is_0.F R) (κ : List SV → Option R) : ∀ (f : Nat) (x0 : List AV) (x1 : Int) (x2 : Bool) (x3 : ByteArray) (x4 : Bool) (x5 : ByteArray) (x6 : Bool) (x7 : ByteArray) (x8 : Bool) (x9 : ByteArray) (x10 : Bool) (x11 : ByteArray) (x12 : Bool) (x13 : ByteArray) (x14 : Bool) (x15 : ByteArray) (x16 : Bool) (x17 : ByteArray), goto (letter_address_o.C R c1 c2 c3 c4 c5 c6) (retK (letter_address_o.C R c1 c2 c3 c4 c5 c6) Tryd.f51.results.toList (List.range 0) κ) 10000 f (placeOf Tryd.f51 7) (letter_address_o.s7 x0 x1 x2 x3 x4 x5 x6 x7 x8 x9 x10 x11 x12 x13 x14 x15 x16 x17) = letter_address_o.L7 c1 c2 c3 c4 c5 c6 (fun r0 r1 r2 r3 r4 r5 r6 r7 => κ [.agg [.bool r0, .str r1, .bool r2, .str r3, .bool r4, .str r5, .bool r6, .str r7]]) f x0 x1 x2 x3 x4 x5 x6 x7 x8 x9 x10 x11 x12 x13 x14 x15 x16 x17
  | 0, _, _, _, _, _, _, _, _, _, _, _, _, _, _, _, _, _, _ => rfl
  | f + 1, x0, x1, x2, x3, x4, x5, x6, x7, x8, x9, x10, x11, x12, x13, x14, x15, x16, x17 => by
    show start (letter_address_o.C R c1 c2 c3 c4 c5 c6) (goto (letter_address_o.C R c1 c2 c3 c4 c5 c6) (retK (letter_address_o.C R c1 c2 c3 c4 c5 c6) Tryd.f51.results.toList (List.range 0) κ) 10000 f) (retK (letter_address_o.C R c1 c2 c3 c4 c5 c6) Tryd.f51.results.toList (List.range 0) κ) 10000 (placeOf Tryd.f51 7) (letter_address_o.s7 x0 x1 x2 x3 x4 x5 x6 x7 x8 x9 x10 x11 x12 x13 x14 x15 x16 x17) = _
    rw [letter_address_o.c7]
    simp only [letter_address_o.g13 R c1 c2 c3 c4 c5 c6 κ f]
    rfl
theorem letter_address_o.run (R : Type) (κ : List SV → Option R) (a0 : List AV) :
    runF (letter_address_o.C R letter_find_ois letter_held_o letter_text_ob letter_some_0 letter_routed_o letter_piece_is_0) Tryd.f51 10000 fuelK [.ro 80 a0 false] κ = letter_address_o a0 (fun r0 r1 r2 r3 r4 r5 r6 r7 => κ [.agg [.bool r0, .str r1, .bool r2, .str r3, .bool r4, .str r5, .bool r6, .str r7]]) := by
  rw [letter_address_o.c]
  simp only [letter_address_o.g7 R letter_find_ois letter_held_o letter_text_ob letter_some_0 letter_routed_o letter_piece_is_0 κ fuelK, letter_address_o.g13 R letter_find_ois letter_held_o letter_text_ob letter_some_0 letter_routed_o letter_piece_is_0 κ fuelK, letter_address_o.g14 R letter_find_ois letter_held_o letter_text_ob letter_some_0 letter_routed_o letter_piece_is_0 κ fuelK]
  rfl
theorem letter_address_o.Γ_does {R : Type} (tab : Tab) (ht : TabOk tab) (g : Nat) : Does (R := R) Tryd.prog (tabTy tyL) tab g ((letter_address_o.C R letter_find_ois letter_held_o letter_text_ob letter_some_0 letter_routed_o letter_piece_is_0).call g) := by
  refine does_of fun xs κ => ?_
  show DoesAt _ _ _ g xs κ (letter_address_o.Γ letter_find_ois letter_held_o letter_text_ob letter_some_0 letter_routed_o letter_piece_is_0 g xs κ)
  unfold letter_address_o.Γ
  split
  · split
    · exact letter_some_0.does tab ht _ κ
    · exact DoesAt.none
  · split
    · exact letter_text_ob.does tab ht _ _ κ
    · exact DoesAt.none
  · split
    · exact letter_held_o.does tab ht _ κ
    · exact DoesAt.none
  · split
    · exact letter_piece_is_0.does tab ht _ _ _ κ
    · exact DoesAt.none
  · split
    · exact letter_find_ois.does tab ht _ _ _ κ
    · exact DoesAt.none
  · split
    · exact letter_routed_o.does tab ht _ κ
    · exact DoesAt.none
  · exact DoesAt.none
theorem letter_address_o.does {R : Type} (tab : Tab) (ht : TabOk tab) (a0 : List AV) (κ : List SV → Option R) : DoesAt Tryd.prog (tabTy tyL) tab 51 [.ro 80 a0 false] κ (letter_address_o a0 (fun r0 r1 r2 r3 r4 r5 r6 r7 => κ [.agg [.bool r0, .str r1, .bool r2, .str r3, .bool r4, .str r5, .bool r6, .str r7]])) := by
  intro r h w vs Rt Ra bs hpre
  exact runF_sound tyOk (letter_address_o.Γ_does tab ht) (show Tryd.prog.funcs[51]? = some Tryd.f51 by kernel_rfl) (by kernel_rfl) ((letter_address_o.run R κ a0).trans h) hpre
def letter_Addresses_0.Γ {R : Type} (c1 : letter_pieces_0.F R) (c2 : letter_part_oi.F R) (c3 : letter_text_ob.F R) (c4 : letter_some_0.F R) (c5 : letter_held_o.F R) (c6 : letter_address_o.F R) (g : Nat) (xs : List SV) (κ : List SV → Option R) : Option R :=
  match g with
  | 46 => (match xs with
    | [.str a0] => c1 a0 (fun r0 => κ [.fr 80 r0 true])
    | _ => none)
  | 47 => (match xs with
    | [.ro 80 a0 false, .int .i64 a1] => c2 a0 a1 (fun r0 => κ [.int .i64 r0])
    | _ => none)
  | 48 => (match xs with
    | [.str a0] => c4 a0 (fun r0 r1 => κ [.agg [.bool r0, .str r1]])
    | _ => none)
  | 49 => (match xs with
    | [.ro 80 a0 false, .bool a1] => c3 a0 a1 (fun r0 => κ [.str r0])
    | _ => none)
  | 50 => (match xs with
    | [.ro 80 a0 false] => c5 a0 (fun r0 => κ [.bool r0])
    | _ => none)
  | 51 => (match xs with
    | [.ro 80 a0 false] => c6 a0 (fun r0 r1 r2 r3 r4 r5 r6 r7 => κ [.agg [.bool r0, .str r1, .bool r2, .str r3, .bool r4, .str r5, .bool r6, .str r7]])
    | _ => none)
  | _ => none
def letter_Addresses_0.h (n : Nat) : Option (List (Nat × List (Nat × Nat))) :=
  match n with
  | 5 => some [(3, [(0, 48)]), (4, [(0, 0)]), (5, [(0, 0)]), (6, [(0, 0)])]
  | 13 => some [(3, [(0, 0)]), (4, [(0, 0)]), (5, [(0, 0)]), (7, [(0, 0)]), (8, [(0, 0)])]
  | _ => none
def letter_Addresses_0.C (R : Type) (c1 : letter_pieces_0.F R) (c2 : letter_part_oi.F R) (c3 : letter_text_ob.F R) (c4 : letter_some_0.F R) (c5 : letter_held_o.F R) (c6 : letter_address_o.F R) : Cfg R := ⟨tabTy tyL, letter_Addresses_0.Γ c1 c2 c3 c4 c5 c6, fun _ => false, letter_Addresses_0.h⟩
def letter_Addresses_0.s5 (x0 : Bool) (x1 : Int) (x2 : List AV) (x3 : List AV) : St := ⟨mkS 75 [(3, .own 256), (4, .own 320), (5, .bool x0), (6, .int .i64 x1)], [(256, .row 46 x2 true), (320, .row 80 x3 true)], top⟩
def letter_Addresses_0.s13 (x0 : Bool) (x1 : Int) (x2 : ByteArray) (x3 : List AV) (x4 : List AV) : St := ⟨mkS 75 [(3, .own 256), (4, .own 320), (5, .bool x0), (7, .int .i64 x1), (8, .str x2)], [(256, .row 46 x3 true), (320, .row 80 x4 true)], top⟩
theorem letter_Addresses_0.c5 (R : Type) (c1 : letter_pieces_0.F R) (c2 : letter_part_oi.F R) (c3 : letter_text_ob.F R) (c4 : letter_some_0.F R) (c5 : letter_held_o.F R) (c6 : letter_address_o.F R) (J : List Item → St → Option R) (κ : List SV → Option R) (x0 : Bool) (x1 : Int) (x2 : List AV) (x3 : List AV) :
    start (letter_Addresses_0.C R c1 c2 c3 c4 c5 c6) J (retK (letter_Addresses_0.C R c1 c2 c3 c4 c5 c6) Tryd.f24.results.toList (List.range 0) κ) 10000 (placeOf Tryd.f24 5) (letter_Addresses_0.s5 x0 x1 x2 x3) = letter_Addresses_0.t5 c1 c2 c3 c4 c5 c6 x0 x1 x2 x3 (fun y0 y1 y2 y3 => J (placeOf Tryd.f24 5) (letter_Addresses_0.s5 y0 y1 y2 y3)) (fun y0 y1 y2 y3 y4 => J (placeOf Tryd.f24 13) (letter_Addresses_0.s13 y0 y1 y2 y3 y4)) (fun r0 => κ [.fr 46 r0 true]) := by kernel_rfl
theorem letter_Addresses_0.c13 (R : Type) (c1 : letter_pieces_0.F R) (c2 : letter_part_oi.F R) (c3 : letter_text_ob.F R) (c4 : letter_some_0.F R) (c5 : letter_held_o.F R) (c6 : letter_address_o.F R) (J : List Item → St → Option R) (κ : List SV → Option R) (x0 : Bool) (x1 : Int) (x2 : ByteArray) (x3 : List AV) (x4 : List AV) :
    start (letter_Addresses_0.C R c1 c2 c3 c4 c5 c6) J (retK (letter_Addresses_0.C R c1 c2 c3 c4 c5 c6) Tryd.f24.results.toList (List.range 0) κ) 10000 (placeOf Tryd.f24 13) (letter_Addresses_0.s13 x0 x1 x2 x3 x4) = letter_Addresses_0.t13 c1 c2 c3 c4 c5 c6 x0 x1 x2 x3 x4 (fun y0 y1 y2 y3 => J (placeOf Tryd.f24 5) (letter_Addresses_0.s5 y0 y1 y2 y3)) (fun y0 y1 y2 y3 y4 => J (placeOf Tryd.f24 13) (letter_Addresses_0.s13 y0 y1 y2 y3 y4)) (fun r0 => κ [.fr 46 r0 true]) := by kernel_rfl
theorem letter_Addresses_0.c (R : Type) (c1 : letter_pieces_0.F R) (c2 : letter_part_oi.F R) (c3 : letter_text_ob.F R) (c4 : letter_some_0.F R) (c5 : letter_held_o.F R) (c6 : letter_address_o.F R) (κ : List SV → Option R) (k : Nat) (a0 : ByteArray) :
    runF (letter_Addresses_0.C R c1 c2 c3 c4 c5 c6) Tryd.f24 10000 k [.str a0] κ = letter_Addresses_0.e c1 c2 c3 c4 c5 c6 a0 (fun y0 y1 y2 y3 => goto (letter_Addresses_0.C R c1 c2 c3 c4 c5 c6) (retK (letter_Addresses_0.C R c1 c2 c3 c4 c5 c6) Tryd.f24.results.toList (List.range 0) κ) 10000 k (placeOf Tryd.f24 5) (letter_Addresses_0.s5 y0 y1 y2 y3)) (fun y0 y1 y2 y3 y4 => goto (letter_Addresses_0.C R c1 c2 c3 c4 c5 c6) (retK (letter_Addresses_0.C R c1 c2 c3 c4 c5 c6) Tryd.f24.results.toList (List.range 0) κ) 10000 k (placeOf Tryd.f24 13) (letter_Addresses_0.s13 y0 y1 y2 y3 y4)) (fun r0 => κ [.fr 46 r0 true]) := by kernel_rfl
theorem letter_Addresses_0.gM5 (R : Type) (c1 : letter_pieces_0.F R) (c2 : letter_part_oi.F R) (c3 : letter_text_ob.F R) (c4 : letter_some_0.F R) (c5 : letter_held_o.F R) (c6 : letter_address_o.F R) (κ : List SV → Option R) : ∀ (f : Nat), (∀ (x0 : Bool) (x1 : Int) (x2 : List AV) (x3 : List AV), goto (letter_Addresses_0.C R c1 c2 c3 c4 c5 c6) (retK (letter_Addresses_0.C R c1 c2 c3 c4 c5 c6) Tryd.f24.results.toList (List.range 0) κ) 10000 f (placeOf Tryd.f24 5) (letter_Addresses_0.s5 x0 x1 x2 x3) = letter_Addresses_0.L5 c1 c2 c3 c4 c5 c6 (fun r0 => κ [.fr 46 r0 true]) f x0 x1 x2 x3) ∧
    (∀ (x0 : Bool) (x1 : Int) (x2 : ByteArray) (x3 : List AV) (x4 : List AV), goto (letter_Addresses_0.C R c1 c2 c3 c4 c5 c6) (retK (letter_Addresses_0.C R c1 c2 c3 c4 c5 c6) Tryd.f24.results.toList (List.range 0) κ) 10000 f (placeOf Tryd.f24 13) (letter_Addresses_0.s13 x0 x1 x2 x3 x4) = letter_Addresses_0.L13 c1 c2 c3 c4 c5 c6 (fun r0 => κ [.fr 46 r0 true]) f x0 x1 x2 x3 x4)
  | 0 => ⟨fun _ _ _ _ => rfl, fun _ _ _ _ _ => rfl⟩
  | f + 1 => by
    obtain ⟨ih0, ih1⟩ := letter_Addresses_0.gM5 R c1 c2 c3 c4 c5 c6 κ f
    refine ⟨?_, ?_⟩
    · intro x0 x1 x2 x3
      show start (letter_Addresses_0.C R c1 c2 c3 c4 c5 c6) (goto (letter_Addresses_0.C R c1 c2 c3 c4 c5 c6) (retK (letter_Addresses_0.C R c1 c2 c3 c4 c5 c6) Tryd.f24.results.toList (List.range 0) κ) 10000 f) (retK (letter_Addresses_0.C R c1 c2 c3 c4 c5 c6) Tryd.f24.results.toList (List.range 0) κ) 10000 (placeOf Tryd.f24 5) (letter_Addresses_0.s5 x0 x1 x2 x3) = _
      rw [letter_Addresses_0.c5]
      simp only [ih0, ih1]
      rfl
    · intro x0 x1 x2 x3 x4
      show start (letter_Addresses_0.C R c1 c2 c3 c4 c5 c6) (goto (letter_Addresses_0.C R c1 c2 c3 c4 c5 c6) (retK (letter_Addresses_0.C R c1 c2 c3 c4 c5 c6) Tryd.f24.results.toList (List.range 0) κ) 10000 f) (retK (letter_Addresses_0.C R c1 c2 c3 c4 c5 c6) Tryd.f24.results.toList (List.range 0) κ) 10000 (placeOf Tryd.f24 13) (letter_Addresses_0.s13 x0 x1 x2 x3 x4) = _
      rw [letter_Addresses_0.c13]
      simp only [ih0, ih1]
      rfl
theorem letter_Addresses_0.g5 (R : Type) (c1 : letter_pieces_0.F R) (c2 : letter_part_oi.F R) (c3 : letter_text_ob.F R) (c4 : letter_some_0.F R) (c5 : letter_held_o.F R) (c6 : letter_address_o.F R) (κ : List SV → Option R) (f : Nat) (x0 : Bool) (x1 : Int) (x2 : List AV) (x3 : List AV) : goto (letter_Addresses_0.C R c1 c2 c3 c4 c5 c6) (retK (letter_Addresses_0.C R c1 c2 c3 c4 c5 c6) Tryd.f24.results.toList (List.range 0) κ) 10000 f (placeOf Tryd.f24 5) (letter_Addresses_0.s5 x0 x1 x2 x3) = letter_Addresses_0.L5 c1 c2 c3 c4 c5 c6 (fun r0 => κ [.fr 46 r0 true]) f x0 x1 x2 x3 := (letter_Addresses_0.gM5 R c1 c2 c3 c4 c5 c6 κ f).1 x0 x1 x2 x3
theorem letter_Addresses_0.g13 (R : Type) (c1 : letter_pieces_0.F R) (c2 : letter_part_oi.F R) (c3 : letter_text_ob.F R) (c4 : letter_some_0.F R) (c5 : letter_held_o.F R) (c6 : letter_address_o.F R) (κ : List SV → Option R) (f : Nat) (x0 : Bool) (x1 : Int) (x2 : ByteArray) (x3 : List AV) (x4 : List AV) : goto (letter_Addresses_0.C R c1 c2 c3 c4 c5 c6) (retK (letter_Addresses_0.C R c1 c2 c3 c4 c5 c6) Tryd.f24.results.toList (List.range 0) κ) 10000 f (placeOf Tryd.f24 13) (letter_Addresses_0.s13 x0 x1 x2 x3 x4) = letter_Addresses_0.L13 c1 c2 c3 c4 c5 c6 (fun r0 => κ [.fr 46 r0 true]) f x0 x1 x2 x3 x4 := (letter_Addresses_0.gM5 R c1 c2 c3 c4 c5 c6 κ f).2 x0 x1 x2 x3 x4
theorem letter_Addresses_0.run (R : Type) (κ : List SV → Option R) (a0 : ByteArray) :
    runF (letter_Addresses_0.C R letter_pieces_0 letter_part_oi letter_text_ob letter_some_0 letter_held_o letter_address_o) Tryd.f24 10000 fuelK [.str a0] κ = letter_Addresses_0 a0 (fun r0 => κ [.fr 46 r0 true]) := by
  rw [letter_Addresses_0.c]
  simp only [letter_Addresses_0.g5 R letter_pieces_0 letter_part_oi letter_text_ob letter_some_0 letter_held_o letter_address_o κ fuelK, letter_Addresses_0.g13 R letter_pieces_0 letter_part_oi letter_text_ob letter_some_0 letter_held_o letter_address_o κ fuelK]
  rfl
theorem letter_Addresses_0.Γ_does {R : Type} (tab : Tab) (ht : TabOk tab) (g : Nat) : Does (R := R) Tryd.prog (tabTy tyL) tab g ((letter_Addresses_0.C R letter_pieces_0 letter_part_oi letter_text_ob letter_some_0 letter_held_o letter_address_o).call g) := by
  refine does_of fun xs κ => ?_
  show DoesAt _ _ _ g xs κ (letter_Addresses_0.Γ letter_pieces_0 letter_part_oi letter_text_ob letter_some_0 letter_held_o letter_address_o g xs κ)
  unfold letter_Addresses_0.Γ
  split
  · split
    · exact letter_pieces_0.does tab ht _ κ
    · exact DoesAt.none
  · split
    · exact letter_part_oi.does tab ht _ _ κ
    · exact DoesAt.none
  · split
    · exact letter_some_0.does tab ht _ κ
    · exact DoesAt.none
  · split
    · exact letter_text_ob.does tab ht _ _ κ
    · exact DoesAt.none
  · split
    · exact letter_held_o.does tab ht _ κ
    · exact DoesAt.none
  · split
    · exact letter_address_o.does tab ht _ κ
    · exact DoesAt.none
  · exact DoesAt.none
theorem letter_Addresses_0.does {R : Type} (tab : Tab) (ht : TabOk tab) (a0 : ByteArray) (κ : List SV → Option R) : DoesAt Tryd.prog (tabTy tyL) tab 24 [.str a0] κ (letter_Addresses_0 a0 (fun r0 => κ [.fr 46 r0 true])) := by
  intro r h w vs Rt Ra bs hpre
  exact runF_sound tyOk (letter_Addresses_0.Γ_does tab ht) (show Tryd.prog.funcs[24]? = some Tryd.f24 by kernel_rfl) (by kernel_rfl) ((letter_Addresses_0.run R κ a0).trans h) hpre
def strings_Contains_0.Γ {R : Type} (c1 : strings_Index_0.F R) (g : Nat) (xs : List SV) (κ : List SV → Option R) : Option R :=
  match g with
  | 31 => (match xs with
    | [.str a0, .str a1] => c1 a0 a1 (fun r0 => κ [.int .i64 r0])
    | _ => none)
  | _ => none
def strings_Contains_0.h (n : Nat) : Option (List (Nat × List (Nat × Nat))) :=
  match n with
  | _ => none
def strings_Contains_0.C (R : Type) (c1 : strings_Index_0.F R) : Cfg R := ⟨tabTy tyL, strings_Contains_0.Γ c1, fun _ => false, strings_Contains_0.h⟩
theorem strings_Contains_0.c (R : Type) (c1 : strings_Index_0.F R) (κ : List SV → Option R) (k : Nat) (a0 : ByteArray) (a1 : ByteArray) :
    runF (strings_Contains_0.C R c1) Tryd.f54 10000 k [.str a0, .str a1] κ = strings_Contains_0.e c1 a0 a1 (fun r0 => κ [.bool r0]) := by kernel_rfl
theorem strings_Contains_0.run (R : Type) (κ : List SV → Option R) (a0 : ByteArray) (a1 : ByteArray) :
    runF (strings_Contains_0.C R strings_Index_0) Tryd.f54 10000 fuelK [.str a0, .str a1] κ = strings_Contains_0 a0 a1 (fun r0 => κ [.bool r0]) := by
  rw [strings_Contains_0.c]
  rfl
theorem strings_Contains_0.Γ_does {R : Type} (tab : Tab) (ht : TabOk tab) (g : Nat) : Does (R := R) Tryd.prog (tabTy tyL) tab g ((strings_Contains_0.C R strings_Index_0).call g) := by
  refine does_of fun xs κ => ?_
  show DoesAt _ _ _ g xs κ (strings_Contains_0.Γ strings_Index_0 g xs κ)
  unfold strings_Contains_0.Γ
  split
  · split
    · exact strings_Index_0.does tab ht _ _ κ
    · exact DoesAt.none
  · exact DoesAt.none
theorem strings_Contains_0.does {R : Type} (tab : Tab) (ht : TabOk tab) (a0 : ByteArray) (a1 : ByteArray) (κ : List SV → Option R) : DoesAt Tryd.prog (tabTy tyL) tab 54 [.str a0, .str a1] κ (strings_Contains_0 a0 a1 (fun r0 => κ [.bool r0])) := by
  intro r h w vs Rt Ra bs hpre
  exact runF_sound tyOk (strings_Contains_0.Γ_does tab ht) (show Tryd.prog.funcs[54]? = some Tryd.f54 by kernel_rfl) (by kernel_rfl) ((strings_Contains_0.run R κ a0 a1).trans h) hpre
def letter_Ids_0.Γ {R : Type} (c1 : letter_pieces_0.F R) (c2 : letter_piece_is_0.F R) (c3 : letter_find_ois.F R) (c4 : letter_text_ob.F R) (c5 : strings_Contains_0.F R) (g : Nat) (xs : List SV) (κ : List SV → Option R) : Option R :=
  match g with
  | 46 => (match xs with
    | [.str a0] => c1 a0 (fun r0 => κ [.fr 80 r0 true])
    | _ => none)
  | 49 => (match xs with
    | [.ro 80 a0 false, .bool a1] => c4 a0 a1 (fun r0 => κ [.str r0])
    | _ => none)
  | 52 => (match xs with
    | [.agg [.int .i64 a0, .str a1], .str a2] => c2 a0 a1 a2 (fun r0 => κ [.bool r0])
    | _ => none)
  | 53 => (match xs with
    | [.ro 80 a0 false, .int .i64 a1, .str a2] => c3 a0 a1 a2 (fun r0 => κ [.int .i64 r0])
    | _ => none)
  | 54 => (match xs with
    | [.str a0, .str a1] => c5 a0 a1 (fun r0 => κ [.bool r0])
    | _ => none)
  | _ => none
def letter_Ids_0.h (n : Nat) : Option (List (Nat × List (Nat × Nat))) :=
  match n with
  | 4 => some [(3, [(0, 11)]), (4, [(0, 0)]), (5, [(0, 0)])]
  | _ => none
def letter_Ids_0.C (R : Type) (c1 : letter_pieces_0.F R) (c2 : letter_piece_is_0.F R) (c3 : letter_find_ois.F R) (c4 : letter_text_ob.F R) (c5 : strings_Contains_0.F R) : Cfg R := ⟨tabTy tyL, letter_Ids_0.Γ c1 c2 c3 c4 c5, fun _ => false, letter_Ids_0.h⟩
def letter_Ids_0.s4 (x0 : Int) (x1 : List AV) (x2 : List AV) : St := ⟨mkS 61 [(3, .own 256), (4, .own 320), (5, .int .i64 x0)], [(256, .row 9 x1 true), (320, .row 80 x2 true)], top⟩
theorem letter_Ids_0.c4 (R : Type) (c1 : letter_pieces_0.F R) (c2 : letter_piece_is_0.F R) (c3 : letter_find_ois.F R) (c4 : letter_text_ob.F R) (c5 : strings_Contains_0.F R) (J : List Item → St → Option R) (κ : List SV → Option R) (x0 : Int) (x1 : List AV) (x2 : List AV) :
    start (letter_Ids_0.C R c1 c2 c3 c4 c5) J (retK (letter_Ids_0.C R c1 c2 c3 c4 c5) Tryd.f27.results.toList (List.range 0) κ) 10000 (placeOf Tryd.f27 4) (letter_Ids_0.s4 x0 x1 x2) = letter_Ids_0.t4 c1 c2 c3 c4 c5 x0 x1 x2 (fun y0 y1 y2 => J (placeOf Tryd.f27 4) (letter_Ids_0.s4 y0 y1 y2)) (fun r0 => κ [.fr 9 r0 true]) := by kernel_rfl
theorem letter_Ids_0.c (R : Type) (c1 : letter_pieces_0.F R) (c2 : letter_piece_is_0.F R) (c3 : letter_find_ois.F R) (c4 : letter_text_ob.F R) (c5 : strings_Contains_0.F R) (κ : List SV → Option R) (k : Nat) (a0 : ByteArray) :
    runF (letter_Ids_0.C R c1 c2 c3 c4 c5) Tryd.f27 10000 k [.str a0] κ = letter_Ids_0.e c1 c2 c3 c4 c5 a0 (fun y0 y1 y2 => goto (letter_Ids_0.C R c1 c2 c3 c4 c5) (retK (letter_Ids_0.C R c1 c2 c3 c4 c5) Tryd.f27.results.toList (List.range 0) κ) 10000 k (placeOf Tryd.f27 4) (letter_Ids_0.s4 y0 y1 y2)) (fun r0 => κ [.fr 9 r0 true]) := by kernel_rfl
theorem letter_Ids_0.g4 (R : Type) (c1 : letter_pieces_0.F R) (c2 : letter_piece_is_0.F R) (c3 : letter_find_ois.F R) (c4 : letter_text_ob.F R) (c5 : strings_Contains_0.F R) (κ : List SV → Option R) : ∀ (f : Nat) (x0 : Int) (x1 : List AV) (x2 : List AV), goto (letter_Ids_0.C R c1 c2 c3 c4 c5) (retK (letter_Ids_0.C R c1 c2 c3 c4 c5) Tryd.f27.results.toList (List.range 0) κ) 10000 f (placeOf Tryd.f27 4) (letter_Ids_0.s4 x0 x1 x2) = letter_Ids_0.L4 c1 c2 c3 c4 c5 (fun r0 => κ [.fr 9 r0 true]) f x0 x1 x2
  | 0, _, _, _ => rfl
  | f + 1, x0, x1, x2 => by
    show start (letter_Ids_0.C R c1 c2 c3 c4 c5) (goto (letter_Ids_0.C R c1 c2 c3 c4 c5) (retK (letter_Ids_0.C R c1 c2 c3 c4 c5) Tryd.f27.results.toList (List.range 0) κ) 10000 f) (retK (letter_Ids_0.C R c1 c2 c3 c4 c5) Tryd.f27.results.toList (List.range 0) κ) 10000 (placeOf Tryd.f27 4) (letter_Ids_0.s4 x0 x1 x2) = _
    rw [letter_Ids_0.c4]
    simp only [letter_Ids_0.g4 R c1 c2 c3 c4 c5 κ f]
    rfl
theorem letter_Ids_0.run (R : Type) (κ : List SV → Option R) (a0 : ByteArray) :
    runF (letter_Ids_0.C R letter_pieces_0 letter_piece_is_0 letter_find_ois letter_text_ob strings_Contains_0) Tryd.f27 10000 fuelK [.str a0] κ = letter_Ids_0 a0 (fun r0 => κ [.fr 9 r0 true]) := by
  rw [letter_Ids_0.c]
  simp only [letter_Ids_0.g4 R letter_pieces_0 letter_piece_is_0 letter_find_ois letter_text_ob strings_Contains_0 κ fuelK]
  rfl
theorem letter_Ids_0.Γ_does {R : Type} (tab : Tab) (ht : TabOk tab) (g : Nat) : Does (R := R) Tryd.prog (tabTy tyL) tab g ((letter_Ids_0.C R letter_pieces_0 letter_piece_is_0 letter_find_ois letter_text_ob strings_Contains_0).call g) := by
  refine does_of fun xs κ => ?_
  show DoesAt _ _ _ g xs κ (letter_Ids_0.Γ letter_pieces_0 letter_piece_is_0 letter_find_ois letter_text_ob strings_Contains_0 g xs κ)
  unfold letter_Ids_0.Γ
  split
  · split
    · exact letter_pieces_0.does tab ht _ κ
    · exact DoesAt.none
  · split
    · exact letter_text_ob.does tab ht _ _ κ
    · exact DoesAt.none
  · split
    · exact letter_piece_is_0.does tab ht _ _ _ κ
    · exact DoesAt.none
  · split
    · exact letter_find_ois.does tab ht _ _ _ κ
    · exact DoesAt.none
  · split
    · exact strings_Contains_0.does tab ht _ _ κ
    · exact DoesAt.none
  · exact DoesAt.none
theorem letter_Ids_0.does {R : Type} (tab : Tab) (ht : TabOk tab) (a0 : ByteArray) (κ : List SV → Option R) : DoesAt Tryd.prog (tabTy tyL) tab 27 [.str a0] κ (letter_Ids_0 a0 (fun r0 => κ [.fr 9 r0 true])) := by
  intro r h w vs Rt Ra bs hpre
  exact runF_sound tyOk (letter_Ids_0.Γ_does tab ht) (show Tryd.prog.funcs[27]? = some Tryd.f27 by kernel_rfl) (by kernel_rfl) ((letter_Ids_0.run R κ a0).trans h) hpre
def octet_Lower_0.Γ {R : Type} (g : Nat) (xs : List SV) (κ : List SV → Option R) : Option R :=
  match g with
  | _ => none
def octet_Lower_0.h (n : Nat) : Option (List (Nat × List (Nat × Nat))) :=
  match n with
  | 3 => some [(3, [(0, 0)]), (8, [(0, 0)]), (9, [(0, 0)]), (10, [(0, 0)])]
  | _ => none
def octet_Lower_0.C (R : Type) : Cfg R := ⟨tabTy tyL, octet_Lower_0.Γ, fun _ => false, octet_Lower_0.h⟩
def octet_Lower_0.s3 (x0 : Int) (x1 : Int) (x2 : List AV) : St := ⟨mkS 30 [(3, .own 256), (8, .own 256), (9, .int .i64 x0), (10, .int .i64 x1)], [(256, .row 5 x2 true)], top⟩
theorem octet_Lower_0.c3 (R : Type) (J : List Item → St → Option R) (κ : List SV → Option R) (x0 : Int) (x1 : Int) (x2 : List AV) :
    start (octet_Lower_0.C R) J (retK (octet_Lower_0.C R) Tryd.f57.results.toList (List.range 0) κ) 10000 (placeOf Tryd.f57 3) (octet_Lower_0.s3 x0 x1 x2) = octet_Lower_0.t3 x0 x1 x2 (fun y0 y1 y2 => J (placeOf Tryd.f57 3) (octet_Lower_0.s3 y0 y1 y2)) (fun r0 => κ [.str r0]) := by kernel_rfl
theorem octet_Lower_0.c (R : Type) (κ : List SV → Option R) (k : Nat) (a0 : ByteArray) :
    runF (octet_Lower_0.C R) Tryd.f57 10000 k [.str a0] κ = octet_Lower_0.e a0 (fun y0 y1 y2 => goto (octet_Lower_0.C R) (retK (octet_Lower_0.C R) Tryd.f57.results.toList (List.range 0) κ) 10000 k (placeOf Tryd.f57 3) (octet_Lower_0.s3 y0 y1 y2)) (fun r0 => κ [.str r0]) := by kernel_rfl
theorem octet_Lower_0.g3 (R : Type) (κ : List SV → Option R) : ∀ (f : Nat) (x0 : Int) (x1 : Int) (x2 : List AV), goto (octet_Lower_0.C R) (retK (octet_Lower_0.C R) Tryd.f57.results.toList (List.range 0) κ) 10000 f (placeOf Tryd.f57 3) (octet_Lower_0.s3 x0 x1 x2) = octet_Lower_0.L3 (fun r0 => κ [.str r0]) f x0 x1 x2
  | 0, _, _, _ => rfl
  | f + 1, x0, x1, x2 => by
    show start (octet_Lower_0.C R) (goto (octet_Lower_0.C R) (retK (octet_Lower_0.C R) Tryd.f57.results.toList (List.range 0) κ) 10000 f) (retK (octet_Lower_0.C R) Tryd.f57.results.toList (List.range 0) κ) 10000 (placeOf Tryd.f57 3) (octet_Lower_0.s3 x0 x1 x2) = _
    rw [octet_Lower_0.c3]
    simp only [octet_Lower_0.g3 R κ f]
    rfl
theorem octet_Lower_0.run (R : Type) (κ : List SV → Option R) (a0 : ByteArray) :
    runF (octet_Lower_0.C R) Tryd.f57 10000 fuelK [.str a0] κ = octet_Lower_0 a0 (fun r0 => κ [.str r0]) := by
  rw [octet_Lower_0.c]
  simp only [octet_Lower_0.g3 R κ fuelK]
  rfl
theorem octet_Lower_0.Γ_does {R : Type} (tab : Tab) (ht : TabOk tab) (g : Nat) : Does (R := R) Tryd.prog (tabTy tyL) tab g ((octet_Lower_0.C R).call g) := by
  refine does_of fun xs κ => ?_
  show DoesAt _ _ _ g xs κ (octet_Lower_0.Γ g xs κ)
  unfold octet_Lower_0.Γ
  split
  · exact DoesAt.none
theorem octet_Lower_0.does {R : Type} (tab : Tab) (ht : TabOk tab) (a0 : ByteArray) (κ : List SV → Option R) : DoesAt Tryd.prog (tabTy tyL) tab 57 [.str a0] κ (octet_Lower_0 a0 (fun r0 => κ [.str r0])) := by
  intro r h w vs Rt Ra bs hpre
  exact runF_sound tyOk (octet_Lower_0.Γ_does tab ht) (show Tryd.prog.funcs[57]? = some Tryd.f57 by kernel_rfl) (by kernel_rfl) ((octet_Lower_0.run R κ a0).trans h) hpre
def octet_worths_0.Γ {R : Type} (g : Nat) (xs : List SV) (κ : List SV → Option R) : Option R :=
  match g with
  | _ => none
def octet_worths_0.h (n : Nat) : Option (List (Nat × List (Nat × Nat))) :=
  match n with
  | 3 => some [(0, [(0, 0)]), (1, [(0, 0)]), (3, [(0, 0)])]
  | _ => none
def octet_worths_0.C (R : Type) : Cfg R := ⟨tabTy tyL, octet_worths_0.Γ, fun _ => false, octet_worths_0.h⟩
def octet_worths_0.s3 (x0 : Int) (x1 : List AV) (x2 : List AV) : St := ⟨mkS 14 [(0, .ap 64 256), (1, .ap 128 256), (3, .int .i64 x0)], [(64, .row 5 x1 true), (128, .row 5 x2 true)], top⟩
theorem octet_worths_0.c3 (R : Type) (J : List Item → St → Option R) (κ : List SV → Option R) (x0 : Int) (x1 : List AV) (x2 : List AV) :
    start (octet_worths_0.C R) J (retK (octet_worths_0.C R) Tryd.f113.results.toList (List.range 0) κ) 10000 (placeOf Tryd.f113 3) (octet_worths_0.s3 x0 x1 x2) = octet_worths_0.t3 x0 x1 x2 (fun y0 y1 y2 => J (placeOf Tryd.f113 3) (octet_worths_0.s3 y0 y1 y2)) (fun r0 => κ [.ar 5 256 r0]) := by kernel_rfl
theorem octet_worths_0.c (R : Type) (κ : List SV → Option R) (k : Nat) :
    runF (octet_worths_0.C R) Tryd.f113 10000 k [] κ = octet_worths_0.e (fun y0 y1 y2 => goto (octet_worths_0.C R) (retK (octet_worths_0.C R) Tryd.f113.results.toList (List.range 0) κ) 10000 k (placeOf Tryd.f113 3) (octet_worths_0.s3 y0 y1 y2)) (fun r0 => κ [.ar 5 256 r0]) := by kernel_rfl
theorem octet_worths_0.g3 (R : Type) (κ : List SV → Option R) : ∀ (f : Nat) (x0 : Int) (x1 : List AV) (x2 : List AV), goto (octet_worths_0.C R) (retK (octet_worths_0.C R) Tryd.f113.results.toList (List.range 0) κ) 10000 f (placeOf Tryd.f113 3) (octet_worths_0.s3 x0 x1 x2) = octet_worths_0.L3 (fun r0 => κ [.ar 5 256 r0]) f x0 x1 x2
  | 0, _, _, _ => rfl
  | f + 1, x0, x1, x2 => by
    show start (octet_worths_0.C R) (goto (octet_worths_0.C R) (retK (octet_worths_0.C R) Tryd.f113.results.toList (List.range 0) κ) 10000 f) (retK (octet_worths_0.C R) Tryd.f113.results.toList (List.range 0) κ) 10000 (placeOf Tryd.f113 3) (octet_worths_0.s3 x0 x1 x2) = _
    rw [octet_worths_0.c3]
    simp only [octet_worths_0.g3 R κ f]
    rfl
theorem octet_worths_0.run (R : Type) (κ : List SV → Option R) :
    runF (octet_worths_0.C R) Tryd.f113 10000 fuelK [] κ = octet_worths_0 (fun r0 => κ [.ar 5 256 r0]) := by
  rw [octet_worths_0.c]
  simp only [octet_worths_0.g3 R κ fuelK]
  rfl
theorem octet_worths_0.Γ_does {R : Type} (tab : Tab) (ht : TabOk tab) (g : Nat) : Does (R := R) Tryd.prog (tabTy tyL) tab g ((octet_worths_0.C R).call g) := by
  refine does_of fun xs κ => ?_
  show DoesAt _ _ _ g xs κ (octet_worths_0.Γ g xs κ)
  unfold octet_worths_0.Γ
  split
  · exact DoesAt.none
theorem octet_worths_0.does {R : Type} (tab : Tab) (ht : TabOk tab) (κ : List SV → Option R) : DoesAt Tryd.prog (tabTy tyL) tab 113 [] κ (octet_worths_0 (fun r0 => κ [.ar 5 256 r0])) := by
  intro r h w vs Rt Ra bs hpre
  exact runF_sound tyOk (octet_worths_0.Γ_does tab ht) (show Tryd.prog.funcs[113]? = some Tryd.f113 by kernel_rfl) (by kernel_rfl) ((octet_worths_0.run R κ).trans h) hpre
def octet_read64_0.Γ {R : Type} (c1 : octet_worths_0.F R) (g : Nat) (xs : List SV) (κ : List SV → Option R) : Option R :=
  match g with
  | 113 => (match xs with
    | [] => c1 (fun r0 => κ [.ar 5 256 r0])
    | _ => none)
  | _ => none
def octet_read64_0.h (n : Nat) : Option (List (Nat × List (Nat × Nat))) :=
  match n with
  | 5 => some [(0, [(0, 0)]), (1, [(0, 0)]), (5, [(0, 7)]), (6, [(0, 0)]), (7, [(0, 0)]), (8, [(0, 0)]), (9, [(0, 0)])]
  | _ => none
def octet_read64_0.C (R : Type) (c1 : octet_worths_0.F R) : Cfg R := ⟨tabTy tyL, octet_read64_0.Γ c1, fun _ => false, octet_read64_0.h⟩
def octet_read64_0.s5 (x0 : ByteArray) (x1 : Int) (x2 : Int) (x3 : Int) (x4 : Int) (x5 : List AV) (x6 : List AV) : St := ⟨mkS 81 [(0, .str x0), (1, .int .u8 x1), (5, .own 384), (6, .ap 448 256), (7, .int .i64 x2), (8, .int .i64 x3), (9, .int .i64 x4)], [(384, .row 5 x5 true), (448, .row 5 x6 true)], top⟩
theorem octet_read64_0.c5 (R : Type) (c1 : octet_worths_0.F R) (J : List Item → St → Option R) (κ : List SV → Option R) (x0 : ByteArray) (x1 : Int) (x2 : Int) (x3 : Int) (x4 : Int) (x5 : List AV) (x6 : List AV) :
    start (octet_read64_0.C R c1) J (retK (octet_read64_0.C R c1) Tryd.f98.results.toList (List.range 0) κ) 10000 (placeOf Tryd.f98 5) (octet_read64_0.s5 x0 x1 x2 x3 x4 x5 x6) = octet_read64_0.t5 c1 x0 x1 x2 x3 x4 x5 x6 (fun y0 y1 y2 y3 y4 y5 y6 => J (placeOf Tryd.f98 5) (octet_read64_0.s5 y0 y1 y2 y3 y4 y5 y6)) (fun r0 => κ [.str r0]) := by kernel_rfl
theorem octet_read64_0.c (R : Type) (c1 : octet_worths_0.F R) (κ : List SV → Option R) (k : Nat) (a0 : ByteArray) (a1 : Int) :
    runF (octet_read64_0.C R c1) Tryd.f98 10000 k [.str a0, .int .u8 a1] κ = octet_read64_0.e c1 a0 a1 (fun y0 y1 y2 y3 y4 y5 y6 => goto (octet_read64_0.C R c1) (retK (octet_read64_0.C R c1) Tryd.f98.results.toList (List.range 0) κ) 10000 k (placeOf Tryd.f98 5) (octet_read64_0.s5 y0 y1 y2 y3 y4 y5 y6)) (fun r0 => κ [.str r0]) := by kernel_rfl
theorem octet_read64_0.g5 (R : Type) (c1 : octet_worths_0.F R) (κ : List SV → Option R) : ∀ (f : Nat) (x0 : ByteArray) (x1 : Int) (x2 : Int) (x3 : Int) (x4 : Int) (x5 : List AV) (x6 : List AV), goto (octet_read64_0.C R c1) (retK (octet_read64_0.C R c1) Tryd.f98.results.toList (List.range 0) κ) 10000 f (placeOf Tryd.f98 5) (octet_read64_0.s5 x0 x1 x2 x3 x4 x5 x6) = octet_read64_0.L5 c1 (fun r0 => κ [.str r0]) f x0 x1 x2 x3 x4 x5 x6
  | 0, _, _, _, _, _, _, _ => rfl
  | f + 1, x0, x1, x2, x3, x4, x5, x6 => by
    show start (octet_read64_0.C R c1) (goto (octet_read64_0.C R c1) (retK (octet_read64_0.C R c1) Tryd.f98.results.toList (List.range 0) κ) 10000 f) (retK (octet_read64_0.C R c1) Tryd.f98.results.toList (List.range 0) κ) 10000 (placeOf Tryd.f98 5) (octet_read64_0.s5 x0 x1 x2 x3 x4 x5 x6) = _
    rw [octet_read64_0.c5]
    simp only [octet_read64_0.g5 R c1 κ f]
    rfl
theorem octet_read64_0.run (R : Type) (κ : List SV → Option R) (a0 : ByteArray) (a1 : Int) :
    runF (octet_read64_0.C R octet_worths_0) Tryd.f98 10000 fuelK [.str a0, .int .u8 a1] κ = octet_read64_0 a0 a1 (fun r0 => κ [.str r0]) := by
  rw [octet_read64_0.c]
  simp only [octet_read64_0.g5 R octet_worths_0 κ fuelK]
  rfl
theorem octet_read64_0.Γ_does {R : Type} (tab : Tab) (ht : TabOk tab) (g : Nat) : Does (R := R) Tryd.prog (tabTy tyL) tab g ((octet_read64_0.C R octet_worths_0).call g) := by
  refine does_of fun xs κ => ?_
  show DoesAt _ _ _ g xs κ (octet_read64_0.Γ octet_worths_0 g xs κ)
  unfold octet_read64_0.Γ
  split
  · split
    · exact octet_worths_0.does tab ht κ
    · exact DoesAt.none
  · exact DoesAt.none
theorem octet_read64_0.does {R : Type} (tab : Tab) (ht : TabOk tab) (a0 : ByteArray) (a1 : Int) (κ : List SV → Option R) : DoesAt Tryd.prog (tabTy tyL) tab 98 [.str a0, .int .u8 a1] κ (octet_read64_0 a0 a1 (fun r0 => κ [.str r0])) := by
  intro r h w vs Rt Ra bs hpre
  exact runF_sound tyOk (octet_read64_0.Γ_does tab ht) (show Tryd.prog.funcs[98]? = some Tryd.f98 by kernel_rfl) (by kernel_rfl) ((octet_read64_0.run R κ a0 a1).trans h) hpre
def octet_Loose64_0.Γ {R : Type} (c1 : octet_read64_0.F R) (g : Nat) (xs : List SV) (κ : List SV → Option R) : Option R :=
  match g with
  | 98 => (match xs with
    | [.str a0, .int .u8 a1] => c1 a0 a1 (fun r0 => κ [.str r0])
    | _ => none)
  | _ => none
def octet_Loose64_0.h (n : Nat) : Option (List (Nat × List (Nat × Nat))) :=
  match n with
  | _ => none
def octet_Loose64_0.C (R : Type) (c1 : octet_read64_0.F R) : Cfg R := ⟨tabTy tyL, octet_Loose64_0.Γ c1, fun _ => false, octet_Loose64_0.h⟩
theorem octet_Loose64_0.c (R : Type) (c1 : octet_read64_0.F R) (κ : List SV → Option R) (k : Nat) (a0 : ByteArray) :
    runF (octet_Loose64_0.C R c1) Tryd.f71 10000 k [.str a0] κ = octet_Loose64_0.e c1 a0 (fun r0 => κ [.str r0]) := by kernel_rfl
theorem octet_Loose64_0.run (R : Type) (κ : List SV → Option R) (a0 : ByteArray) :
    runF (octet_Loose64_0.C R octet_read64_0) Tryd.f71 10000 fuelK [.str a0] κ = octet_Loose64_0 a0 (fun r0 => κ [.str r0]) := by
  rw [octet_Loose64_0.c]
  rfl
theorem octet_Loose64_0.Γ_does {R : Type} (tab : Tab) (ht : TabOk tab) (g : Nat) : Does (R := R) Tryd.prog (tabTy tyL) tab g ((octet_Loose64_0.C R octet_read64_0).call g) := by
  refine does_of fun xs κ => ?_
  show DoesAt _ _ _ g xs κ (octet_Loose64_0.Γ octet_read64_0 g xs κ)
  unfold octet_Loose64_0.Γ
  split
  · split
    · exact octet_read64_0.does tab ht _ _ κ
    · exact DoesAt.none
  · exact DoesAt.none
theorem octet_Loose64_0.does {R : Type} (tab : Tab) (ht : TabOk tab) (a0 : ByteArray) (κ : List SV → Option R) : DoesAt Tryd.prog (tabTy tyL) tab 71 [.str a0] κ (octet_Loose64_0 a0 (fun r0 => κ [.str r0])) := by
  intro r h w vs Rt Ra bs hpre
  exact runF_sound tyOk (octet_Loose64_0.Γ_does tab ht) (show Tryd.prog.funcs[71]? = some Tryd.f71 by kernel_rfl) (by kernel_rfl) ((octet_Loose64_0.run R κ a0).trans h) hpre
def letter_wide_0.Γ {R : Type} (c1 : strings_Builder_WriteByte_vxfei.F R) (c2 : strings_Builder_String_vxfe.F R) (g : Nat) (xs : List SV) (κ : List SV → Option R) : Option R :=
  match g with
  | 41 => (match xs with
    | [.vp 63 [.nos, .fr 5 a0 true]] => c2 a0 (fun r0 => κ [.str r0, .vp 63 [.nos, .no]])
    | _ => none)
  | 75 => (match xs with
    | [.vp 63 [.nos, .fr 5 a0 true], .int .u8 a1] => c1 a0 a1 (fun r0 => κ [.nili, .vp 63 [.nos, .fr 5 r0 true]])
    | _ => none)
  | _ => none
def letter_wide_0.h (n : Nat) : Option (List (Nat × List (Nat × Nat))) :=
  match n with
  | 3 => some [(0, [(0, 0)]), (3, [(1, 7)]), (6, [(0, 0)]), (7, [(0, 0)])]
  | _ => none
def letter_wide_0.C (R : Type) (c1 : strings_Builder_WriteByte_vxfei.F R) (c2 : strings_Builder_String_vxfe.F R) : Cfg R := ⟨tabTy tyL, letter_wide_0.Γ c1 c2, fun _ => false, letter_wide_0.h⟩
def letter_wide_0.s3 (x0 : ByteArray) (x1 : Int) (x2 : Int) (x3 : List AV) : St := ⟨mkS 32 [(0, .str x0), (3, .ptr 319 0), (6, .int .i64 x1), (7, .int .i64 x2)], [(319, .var 63 [.nos, .own 257]), (257, .row 5 x3 true)], top⟩
theorem letter_wide_0.c3 (R : Type) (c1 : strings_Builder_WriteByte_vxfei.F R) (c2 : strings_Builder_String_vxfe.F R) (J : List Item → St → Option R) (κ : List SV → Option R) (x0 : ByteArray) (x1 : Int) (x2 : Int) (x3 : List AV) :
    start (letter_wide_0.C R c1 c2) J (retK (letter_wide_0.C R c1 c2) Tryd.f73.results.toList (List.range 0) κ) 10000 (placeOf Tryd.f73 3) (letter_wide_0.s3 x0 x1 x2 x3) = letter_wide_0.t3 c1 c2 x0 x1 x2 x3 (fun y0 y1 y2 y3 => J (placeOf Tryd.f73 3) (letter_wide_0.s3 y0 y1 y2 y3)) (fun r0 => κ [.str r0]) := by kernel_rfl
theorem letter_wide_0.c (R : Type) (c1 : strings_Builder_WriteByte_vxfei.F R) (c2 : strings_Builder_String_vxfe.F R) (κ : List SV → Option R) (k : Nat) (a0 : ByteArray) :
    runF (letter_wide_0.C R c1 c2) Tryd.f73 10000 k [.str a0] κ = letter_wide_0.e c1 c2 a0 (fun y0 y1 y2 y3 => goto (letter_wide_0.C R c1 c2) (retK (letter_wide_0.C R c1 c2) Tryd.f73.results.toList (List.range 0) κ) 10000 k (placeOf Tryd.f73 3) (letter_wide_0.s3 y0 y1 y2 y3)) (fun r0 => κ [.str r0]) := by kernel_rfl
theorem letter_wide_0.g3 (R : Type) (c1 : strings_Builder_WriteByte_vxfei.F R) (c2 : strings_Builder_String_vxfe.F R) (κ : List SV → Option R) : ∀ (f : Nat) (x0 : ByteArray) (x1 : Int) (x2 : Int) (x3 : List AV), goto (letter_wide_0.C R c1 c2) (retK (letter_wide_0.C R c1 c2) Tryd.f73.results.toList (List.range 0) κ) 10000 f (placeOf Tryd.f73 3) (letter_wide_0.s3 x0 x1 x2 x3) = letter_wide_0.L3 c1 c2 (fun r0 => κ [.str r0]) f x0 x1 x2 x3
  | 0, _, _, _, _ => rfl
  | f + 1, x0, x1, x2, x3 => by
    show start (letter_wide_0.C R c1 c2) (goto (letter_wide_0.C R c1 c2) (retK (letter_wide_0.C R c1 c2) Tryd.f73.results.toList (List.range 0) κ) 10000 f) (retK (letter_wide_0.C R c1 c2) Tryd.f73.results.toList (List.range 0) κ) 10000 (placeOf Tryd.f73 3) (letter_wide_0.s3 x0 x1 x2 x3) = _
    rw [letter_wide_0.c3]
    simp only [letter_wide_0.g3 R c1 c2 κ f]
    rfl
theorem letter_wide_0.run (R : Type) (κ : List SV → Option R) (a0 : ByteArray) :
    runF (letter_wide_0.C R strings_Builder_WriteByte_vxfei strings_Builder_String_vxfe) Tryd.f73 10000 fuelK [.str a0] κ = letter_wide_0 a0 (fun r0 => κ [.str r0]) := by
  rw [letter_wide_0.c]
  simp only [letter_wide_0.g3 R strings_Builder_WriteByte_vxfei strings_Builder_String_vxfe κ fuelK]
  rfl
theorem letter_wide_0.Γ_does {R : Type} (tab : Tab) (ht : TabOk tab) (g : Nat) : Does (R := R) Tryd.prog (tabTy tyL) tab g ((letter_wide_0.C R strings_Builder_WriteByte_vxfei strings_Builder_String_vxfe).call g) := by
  refine does_of fun xs κ => ?_
  show DoesAt _ _ _ g xs κ (letter_wide_0.Γ strings_Builder_WriteByte_vxfei strings_Builder_String_vxfe g xs κ)
  unfold letter_wide_0.Γ
  split
  · split
    · exact strings_Builder_String_vxfe.does tab ht _ κ
    · exact DoesAt.none
  · split
    · exact strings_Builder_WriteByte_vxfei.does tab ht _ _ κ
    · exact DoesAt.none
  · exact DoesAt.none
theorem letter_wide_0.does {R : Type} (tab : Tab) (ht : TabOk tab) (a0 : ByteArray) (κ : List SV → Option R) : DoesAt Tryd.prog (tabTy tyL) tab 73 [.str a0] κ (letter_wide_0 a0 (fun r0 => κ [.str r0])) := by
  intro r h w vs Rt Ra bs hpre
  exact runF_sound tyOk (letter_wide_0.Γ_does tab ht) (show Tryd.prog.funcs[73]? = some Tryd.f73 by kernel_rfl) (by kernel_rfl) ((letter_wide_0.run R κ a0).trans h) hpre
def letter_hex_0.Γ {R : Type} (c1 : octet_Lower_0.F R) (c2 : strings_IndexByte_0.F R) (g : Nat) (xs : List SV) (κ : List SV → Option R) : Option R :=
  match g with
  | 37 => (match xs with
    | [.str a0, .int .u8 a1] => c2 a0 a1 (fun r0 => κ [.int .i64 r0])
    | _ => none)
  | 57 => (match xs with
    | [.str a0] => c1 a0 (fun r0 => κ [.str r0])
    | _ => none)
  | _ => none
def letter_hex_0.h (n : Nat) : Option (List (Nat × List (Nat × Nat))) :=
  match n with
  | _ => none
def letter_hex_0.C (R : Type) (c1 : octet_Lower_0.F R) (c2 : strings_IndexByte_0.F R) : Cfg R := ⟨tabTy tyL, letter_hex_0.Γ c1 c2, fun _ => false, letter_hex_0.h⟩
theorem letter_hex_0.c (R : Type) (c1 : octet_Lower_0.F R) (c2 : strings_IndexByte_0.F R) (κ : List SV → Option R) (k : Nat) (a0 : Int) :
    runF (letter_hex_0.C R c1 c2) Tryd.f99 10000 k [.int .u8 a0] κ = letter_hex_0.e c1 c2 a0 (fun r0 => κ [.int .i64 r0]) := by kernel_rfl
theorem letter_hex_0.run (R : Type) (κ : List SV → Option R) (a0 : Int) :
    runF (letter_hex_0.C R octet_Lower_0 strings_IndexByte_0) Tryd.f99 10000 fuelK [.int .u8 a0] κ = letter_hex_0 a0 (fun r0 => κ [.int .i64 r0]) := by
  rw [letter_hex_0.c]
  rfl
theorem letter_hex_0.Γ_does {R : Type} (tab : Tab) (ht : TabOk tab) (g : Nat) : Does (R := R) Tryd.prog (tabTy tyL) tab g ((letter_hex_0.C R octet_Lower_0 strings_IndexByte_0).call g) := by
  refine does_of fun xs κ => ?_
  show DoesAt _ _ _ g xs κ (letter_hex_0.Γ octet_Lower_0 strings_IndexByte_0 g xs κ)
  unfold letter_hex_0.Γ
  split
  · split
    · exact strings_IndexByte_0.does tab ht _ _ κ
    · exact DoesAt.none
  · split
    · exact octet_Lower_0.does tab ht _ κ
    · exact DoesAt.none
  · exact DoesAt.none
theorem letter_hex_0.does {R : Type} (tab : Tab) (ht : TabOk tab) (a0 : Int) (κ : List SV → Option R) : DoesAt Tryd.prog (tabTy tyL) tab 99 [.int .u8 a0] κ (letter_hex_0 a0 (fun r0 => κ [.int .i64 r0])) := by
  intro r h w vs Rt Ra bs hpre
  exact runF_sound tyOk (letter_hex_0.Γ_does tab ht) (show Tryd.prog.funcs[99]? = some Tryd.f99 by kernel_rfl) (by kernel_rfl) ((letter_hex_0.run R κ a0).trans h) hpre
def letter_unquoted_0.Γ {R : Type} (c1 : strings_Builder_WriteByte_vxfei.F R) (c2 : letter_hex_0.F R) (c3 : strings_Builder_String_vxfe.F R) (g : Nat) (xs : List SV) (κ : List SV → Option R) : Option R :=
  match g with
  | 41 => (match xs with
    | [.vp 63 [.nos, .fr 5 a0 true]] => c3 a0 (fun r0 => κ [.str r0, .vp 63 [.nos, .no]])
    | _ => none)
  | 75 => (match xs with
    | [.vp 63 [.nos, .fr 5 a0 true], .int .u8 a1] => c1 a0 a1 (fun r0 => κ [.nili, .vp 63 [.nos, .fr 5 r0 true]])
    | _ => none)
  | 99 => (match xs with
    | [.int .u8 a0] => c2 a0 (fun r0 => κ [.int .i64 r0])
    | _ => none)
  | _ => none
def letter_unquoted_0.h (n : Nat) : Option (List (Nat × List (Nat × Nat))) :=
  match n with
  | 3 => some [(0, [(0, 0)]), (3, [(1, 7)]), (4, [(0, 0)])]
  | _ => none
def letter_unquoted_0.C (R : Type) (c1 : strings_Builder_WriteByte_vxfei.F R) (c2 : letter_hex_0.F R) (c3 : strings_Builder_String_vxfe.F R) : Cfg R := ⟨tabTy tyL, letter_unquoted_0.Γ c1 c2 c3, fun _ => false, letter_unquoted_0.h⟩
def letter_unquoted_0.s3 (x0 : ByteArray) (x1 : Int) (x2 : List AV) : St := ⟨mkS 66 [(0, .str x0), (3, .ptr 319 0), (4, .int .i64 x1)], [(319, .var 63 [.nos, .own 257]), (257, .row 5 x2 true)], top⟩
theorem letter_unquoted_0.c3 (R : Type) (c1 : strings_Builder_WriteByte_vxfei.F R) (c2 : letter_hex_0.F R) (c3 : strings_Builder_String_vxfe.F R) (J : List Item → St → Option R) (κ : List SV → Option R) (x0 : ByteArray) (x1 : Int) (x2 : List AV) :
    start (letter_unquoted_0.C R c1 c2 c3) J (retK (letter_unquoted_0.C R c1 c2 c3) Tryd.f72.results.toList (List.range 0) κ) 10000 (placeOf Tryd.f72 3) (letter_unquoted_0.s3 x0 x1 x2) = letter_unquoted_0.t3 c1 c2 c3 x0 x1 x2 (fun y0 y1 y2 => J (placeOf Tryd.f72 3) (letter_unquoted_0.s3 y0 y1 y2)) (fun r0 => κ [.str r0]) := by kernel_rfl
theorem letter_unquoted_0.c (R : Type) (c1 : strings_Builder_WriteByte_vxfei.F R) (c2 : letter_hex_0.F R) (c3 : strings_Builder_String_vxfe.F R) (κ : List SV → Option R) (k : Nat) (a0 : ByteArray) :
    runF (letter_unquoted_0.C R c1 c2 c3) Tryd.f72 10000 k [.str a0] κ = letter_unquoted_0.e c1 c2 c3 a0 (fun y0 y1 y2 => goto (letter_unquoted_0.C R c1 c2 c3) (retK (letter_unquoted_0.C R c1 c2 c3) Tryd.f72.results.toList (List.range 0) κ) 10000 k (placeOf Tryd.f72 3) (letter_unquoted_0.s3 y0 y1 y2)) (fun r0 => κ [.str r0]) := by kernel_rfl
theorem letter_unquoted_0.g3 (R : Type) (c1 : strings_Builder_WriteByte_vxfei.F R) (c2 : letter_hex_0.F R) (c3 : strings_Builder_String_vxfe.F R) (κ : List SV → Option R) : ∀ (f : Nat) (x0 : ByteArray) (x1 : Int) (x2 : List AV), goto (letter_unquoted_0.C R c1 c2 c3) (retK (letter_unquoted_0.C R c1 c2 c3) Tryd.f72.results.toList (List.range 0) κ) 10000 f (placeOf Tryd.f72 3) (letter_unquoted_0.s3 x0 x1 x2) = letter_unquoted_0.L3 c1 c2 c3 (fun r0 => κ [.str r0]) f x0 x1 x2
  | 0, _, _, _ => rfl
  | f + 1, x0, x1, x2 => by
    show start (letter_unquoted_0.C R c1 c2 c3) (goto (letter_unquoted_0.C R c1 c2 c3) (retK (letter_unquoted_0.C R c1 c2 c3) Tryd.f72.results.toList (List.range 0) κ) 10000 f) (retK (letter_unquoted_0.C R c1 c2 c3) Tryd.f72.results.toList (List.range 0) κ) 10000 (placeOf Tryd.f72 3) (letter_unquoted_0.s3 x0 x1 x2) = _
    rw [letter_unquoted_0.c3]
    simp only [letter_unquoted_0.g3 R c1 c2 c3 κ f]
    rfl
theorem letter_unquoted_0.run (R : Type) (κ : List SV → Option R) (a0 : ByteArray) :
    runF (letter_unquoted_0.C R strings_Builder_WriteByte_vxfei letter_hex_0 strings_Builder_String_vxfe) Tryd.f72 10000 fuelK [.str a0] κ = letter_unquoted_0 a0 (fun r0 => κ [.str r0]) := by
  rw [letter_unquoted_0.c]
  simp only [letter_unquoted_0.g3 R strings_Builder_WriteByte_vxfei letter_hex_0 strings_Builder_String_vxfe κ fuelK]
  rfl
theorem letter_unquoted_0.Γ_does {R : Type} (tab : Tab) (ht : TabOk tab) (g : Nat) : Does (R := R) Tryd.prog (tabTy tyL) tab g ((letter_unquoted_0.C R strings_Builder_WriteByte_vxfei letter_hex_0 strings_Builder_String_vxfe).call g) := by
  refine does_of fun xs κ => ?_
  show DoesAt _ _ _ g xs κ (letter_unquoted_0.Γ strings_Builder_WriteByte_vxfei letter_hex_0 strings_Builder_String_vxfe g xs κ)
  unfold letter_unquoted_0.Γ
  split
  · split
    · exact strings_Builder_String_vxfe.does tab ht _ κ
    · exact DoesAt.none
  · split
    · exact strings_Builder_WriteByte_vxfei.does tab ht _ _ κ
    · exact DoesAt.none
  · split
    · exact letter_hex_0.does tab ht _ κ
    · exact DoesAt.none
  · exact DoesAt.none
theorem letter_unquoted_0.does {R : Type} (tab : Tab) (ht : TabOk tab) (a0 : ByteArray) (κ : List SV → Option R) : DoesAt Tryd.prog (tabTy tyL) tab 72 [.str a0] κ (letter_unquoted_0 a0 (fun r0 => κ [.str r0])) := by
  intro r h w vs Rt Ra bs hpre
  exact runF_sound tyOk (letter_unquoted_0.Γ_does tab ht) (show Tryd.prog.funcs[72]? = some Tryd.f72 by kernel_rfl) (by kernel_rfl) ((letter_unquoted_0.run R κ a0).trans h) hpre
def letter_encoded_0.Γ {R : Type} (c1 : strings_HasPrefix_0.F R) (c2 : strings_IndexByte_0.F R) (c3 : octet_Lower_0.F R) (c4 : octet_Loose64_0.F R) (c5 : letter_wide_0.F R) (c6 : letter_unquoted_0.F R) (g : Nat) (xs : List SV) (κ : List SV → Option R) : Option R :=
  match g with
  | 30 => (match xs with
    | [.str a0, .str a1] => c1 a0 a1 (fun r0 => κ [.bool r0])
    | _ => none)
  | 37 => (match xs with
    | [.str a0, .int .u8 a1] => c2 a0 a1 (fun r0 => κ [.int .i64 r0])
    | _ => none)
  | 57 => (match xs with
    | [.str a0] => c3 a0 (fun r0 => κ [.str r0])
    | _ => none)
  | 71 => (match xs with
    | [.str a0] => c4 a0 (fun r0 => κ [.str r0])
    | _ => none)
  | 72 => (match xs with
    | [.str a0] => c6 a0 (fun r0 => κ [.str r0])
    | _ => none)
  | 73 => (match xs with
    | [.str a0] => c5 a0 (fun r0 => κ [.str r0])
    | _ => none)
  | _ => none
def letter_encoded_0.h (n : Nat) : Option (List (Nat × List (Nat × Nat))) :=
  match n with
  | 9 => some [(0, [(0, 0)]), (5, [(0, 0)]), (6, [(0, 0)]), (7, [(0, 0)]), (8, [(0, 0)])]
  | 12 => some [(0, [(0, 0)]), (5, [(0, 0)]), (6, [(0, 0)]), (7, [(0, 0)]), (8, [(0, 0)]), (9, [(0, 0)])]
  | 14 => some [(0, [(0, 0)]), (5, [(0, 0)]), (6, [(0, 0)]), (7, [(0, 0)]), (8, [(0, 0)])]
  | _ => none
def letter_encoded_0.C (R : Type) (c1 : strings_HasPrefix_0.F R) (c2 : strings_IndexByte_0.F R) (c3 : octet_Lower_0.F R) (c4 : octet_Loose64_0.F R) (c5 : letter_wide_0.F R) (c6 : letter_unquoted_0.F R) : Cfg R := ⟨tabTy tyL, letter_encoded_0.Γ c1 c2 c3 c4 c5 c6, fun _ => false, letter_encoded_0.h⟩
def letter_encoded_0.s9 (x0 : ByteArray) (x1 : ByteArray) (x2 : ByteArray) (x3 : Int) (x4 : Int) : St := ⟨mkS 116 [(0, .str x0), (5, .str x1), (6, .str x2), (7, .int .i64 x3), (8, .int .i64 x4)], [], top⟩
def letter_encoded_0.s12 (x0 : ByteArray) (x1 : ByteArray) (x2 : ByteArray) (x3 : Int) (x4 : Int) (x5 : Bool) : St := ⟨mkS 116 [(0, .str x0), (5, .str x1), (6, .str x2), (7, .int .i64 x3), (8, .int .i64 x4), (9, .bool x5)], [], top⟩
def letter_encoded_0.s14 (x0 : ByteArray) (x1 : ByteArray) (x2 : ByteArray) (x3 : Int) (x4 : Int) : St := ⟨mkS 116 [(0, .str x0), (5, .str x1), (6, .str x2), (7, .int .i64 x3), (8, .int .i64 x4)], [], top⟩
theorem letter_encoded_0.c9 (R : Type) (c1 : strings_HasPrefix_0.F R) (c2 : strings_IndexByte_0.F R) (c3 : octet_Lower_0.F R) (c4 : octet_Loose64_0.F R) (c5 : letter_wide_0.F R) (c6 : letter_unquoted_0.F R) (J : List Item → St → Option R) (κ : List SV → Option R) (x0 : ByteArray) (x1 : ByteArray) (x2 : ByteArray) (x3 : Int) (x4 : Int) :
    start (letter_encoded_0.C R c1 c2 c3 c4 c5 c6) J (retK (letter_encoded_0.C R c1 c2 c3 c4 c5 c6) Tryd.f42.results.toList (List.range 0) κ) 10000 (placeOf Tryd.f42 9) (letter_encoded_0.s9 x0 x1 x2 x3 x4) = letter_encoded_0.t9 c1 c2 c3 c4 c5 c6 x0 x1 x2 x3 x4 (fun y0 y1 y2 y3 y4 => J (placeOf Tryd.f42 9) (letter_encoded_0.s9 y0 y1 y2 y3 y4)) (fun y0 y1 y2 y3 y4 y5 => J (placeOf Tryd.f42 12) (letter_encoded_0.s12 y0 y1 y2 y3 y4 y5)) (fun y0 y1 y2 y3 y4 => J (placeOf Tryd.f42 14) (letter_encoded_0.s14 y0 y1 y2 y3 y4)) (fun r0 r1 => κ [.tup [.str r0, .int .i64 r1]]) := by kernel_rfl
theorem letter_encoded_0.c12 (R : Type) (c1 : strings_HasPrefix_0.F R) (c2 : strings_IndexByte_0.F R) (c3 : octet_Lower_0.F R) (c4 : octet_Loose64_0.F R) (c5 : letter_wide_0.F R) (c6 : letter_unquoted_0.F R) (J : List Item → St → Option R) (κ : List SV → Option R) (x0 : ByteArray) (x1 : ByteArray) (x2 : ByteArray) (x3 : Int) (x4 : Int) (x5 : Bool) :
    start (letter_encoded_0.C R c1 c2 c3 c4 c5 c6) J (retK (letter_encoded_0.C R c1 c2 c3 c4 c5 c6) Tryd.f42.results.toList (List.range 0) κ) 10000 (placeOf Tryd.f42 12) (letter_encoded_0.s12 x0 x1 x2 x3 x4 x5) = letter_encoded_0.t12 c1 c2 c3 c4 c5 c6 x0 x1 x2 x3 x4 x5 (fun y0 y1 y2 y3 y4 => J (placeOf Tryd.f42 9) (letter_encoded_0.s9 y0 y1 y2 y3 y4)) (fun y0 y1 y2 y3 y4 y5 => J (placeOf Tryd.f42 12) (letter_encoded_0.s12 y0 y1 y2 y3 y4 y5)) (fun y0 y1 y2 y3 y4 => J (placeOf Tryd.f42 14) (letter_encoded_0.s14 y0 y1 y2 y3 y4)) (fun r0 r1 => κ [.tup [.str r0, .int .i64 r1]]) := by kernel_rfl
theorem letter_encoded_0.c14 (R : Type) (c1 : strings_HasPrefix_0.F R) (c2 : strings_IndexByte_0.F R) (c3 : octet_Lower_0.F R) (c4 : octet_Loose64_0.F R) (c5 : letter_wide_0.F R) (c6 : letter_unquoted_0.F R) (J : List Item → St → Option R) (κ : List SV → Option R) (x0 : ByteArray) (x1 : ByteArray) (x2 : ByteArray) (x3 : Int) (x4 : Int) :
    start (letter_encoded_0.C R c1 c2 c3 c4 c5 c6) J (retK (letter_encoded_0.C R c1 c2 c3 c4 c5 c6) Tryd.f42.results.toList (List.range 0) κ) 10000 (placeOf Tryd.f42 14) (letter_encoded_0.s14 x0 x1 x2 x3 x4) = letter_encoded_0.t14 c1 c2 c3 c4 c5 c6 x0 x1 x2 x3 x4 (fun y0 y1 y2 y3 y4 => J (placeOf Tryd.f42 9) (letter_encoded_0.s9 y0 y1 y2 y3 y4)) (fun y0 y1 y2 y3 y4 y5 => J (placeOf Tryd.f42 12) (letter_encoded_0.s12 y0 y1 y2 y3 y4 y5)) (fun y0 y1 y2 y3 y4 => J (placeOf Tryd.f42 14) (letter_encoded_0.s14 y0 y1 y2 y3 y4)) (fun r0 r1 => κ [.tup [.str r0, .int .i64 r1]]) := by kernel_rfl
theorem letter_encoded_0.c (R : Type) (c1 : strings_HasPrefix_0.F R) (c2 : strings_IndexByte_0.F R) (c3 : octet_Lower_0.F R) (c4 : octet_Loose64_0.F R) (c5 : letter_wide_0.F R) (c6 : letter_unquoted_0.F R) (κ : List SV → Option R) (k : Nat) (a0 : ByteArray) :
    runF (letter_encoded_0.C R c1 c2 c3 c4 c5 c6) Tryd.f42 10000 k [.str a0] κ = letter_encoded_0.e c1 c2 c3 c4 c5 c6 a0 (fun y0 y1 y2 y3 y4 => goto (letter_encoded_0.C R c1 c2 c3 c4 c5 c6) (retK (letter_encoded_0.C R c1 c2 c3 c4 c5 c6) Tryd.f42.results.toList (List.range 0) κ) 10000 k (placeOf Tryd.f42 9) (letter_encoded_0.s9 y0 y1 y2 y3 y4)) (fun y0 y1 y2 y3 y4 y5 => goto (letter_encoded_0.C R c1 c2 c3 c4 c5 c6) (retK (letter_encoded_0.C R c1 c2 c3 c4 c5 c6) Tryd.f42.results.toList (List.range 0) κ) 10000 k (placeOf Tryd.f42 12) (letter_encoded_0.s12 y0 y1 y2 y3 y4 y5)) (fun y0 y1 y2 y3 y4 => goto (letter_encoded_0.C R c1 c2 c3 c4 c5 c6) (retK (letter_encoded_0.C R c1 c2 c3 c4 c5 c6) Tryd.f42.results.toList (List.range 0) κ) 10000 k (placeOf Tryd.f42 14) (letter_encoded_0.s14 y0 y1 y2 y3 y4)) (fun r0 r1 => κ [.tup [.str r0, .int .i64 r1]]) := by kernel_rfl
theorem letter_encoded_0.g14 (R : Type) (c1 : strings_HasPrefix_0.F R) (c2 : strings_IndexByte_0.F R) (c3 : octet_Lower_0.F R) (c4 : octet_Loose64_0.F R) (c5 : letter_wide_0.F R) (c6 : letter_unquoted_0.F R) (κ : List SV → Option R) : ∀ (f : Nat) (x0 : ByteArray) (x1 : ByteArray) (x2 : ByteArray) (x3 : Int) (x4 : Int), goto (letter_encoded_0.C R c1 c2 c3 c4 c5 c6) (retK (letter_encoded_0.C R c1 c2 c3 c4 c5 c6) Tryd.f42.results.toList (List.range 0) κ) 10000 f (placeOf Tryd.f42 14) (letter_encoded_0.s14 x0 x1 x2 x3 x4) = letter_encoded_0.L14 c1 c2 c3 c4 c5 c6 (fun r0 r1 => κ [.tup [.str r0, .int .i64 r1]]) f x0 x1 x2 x3 x4
  | 0, _, _, _, _, _ => rfl
  | f + 1, x0, x1, x2, x3, x4 => by
    show start (letter_encoded_0.C R c1 c2 c3 c4 c5 c6) (goto (letter_encoded_0.C R c1 c2 c3 c4 c5 c6) (retK (letter_encoded_0.C R c1 c2 c3 c4 c5 c6) Tryd.f42.results.toList (List.range 0) κ) 10000 f) (retK (letter_encoded_0.C R c1 c2 c3 c4 c5 c6) Tryd.f42.results.toList (List.range 0) κ) 10000 (placeOf Tryd.f42 14) (letter_encoded_0.s14 x0 x1 x2 x3 x4) = _
    rw [letter_encoded_0.c14]
    skip
    rfl
theorem letter_encoded_0.g12 (R : Type) (c1 : strings_HasPrefix_0.F R) (c2 : strings_IndexByte_0.F R) (c3 : octet_Lower_0.F R) (c4 : octet_Loose64_0.F R) (c5 : letter_wide_0.F R) (c6 : letter_unquoted_0.F R) (κ : List SV → Option R) : ∀ (f : Nat) (x0 : ByteArray) (x1 : ByteArray) (x2 : ByteArray) (x3 : Int) (x4 : Int) (x5 : Bool), goto (letter_encoded_0.C R c1 c2 c3 c4 c5 c6) (retK (letter_encoded_0.C R c1 c2 c3 c4 c5 c6) Tryd.f42.results.toList (List.range 0) κ) 10000 f (placeOf Tryd.f42 12) (letter_encoded_0.s12 x0 x1 x2 x3 x4 x5) = letter_encoded_0.L12 c1 c2 c3 c4 c5 c6 (fun r0 r1 => κ [.tup [.str r0, .int .i64 r1]]) f x0 x1 x2 x3 x4 x5
  | 0, _, _, _, _, _, _ => rfl
  | f + 1, x0, x1, x2, x3, x4, x5 => by
    show start (letter_encoded_0.C R c1 c2 c3 c4 c5 c6) (goto (letter_encoded_0.C R c1 c2 c3 c4 c5 c6) (retK (letter_encoded_0.C R c1 c2 c3 c4 c5 c6) Tryd.f42.results.toList (List.range 0) κ) 10000 f) (retK (letter_encoded_0.C R c1 c2 c3 c4 c5 c6) Tryd.f42.results.toList (List.range 0) κ) 10000 (placeOf Tryd.f42 12) (letter_encoded_0.s12 x0 x1 x2 x3 x4 x5) = _
    rw [letter_encoded_0.c12]
    simp only [letter_encoded_0.g14 R c1 c2 c3 c4 c5 c6 κ f]
    rfl
theorem letter_encoded_0.g9 (R : Type) (c1 : strings_HasPrefix_0.F R) (c2 : strings_IndexByte_0.F R) (c3 : octet_Lower_0.F R) (c4 : octet_Loose64_0.F R) (c5 : letter_wide_0.F R) (c6 : letter_unquoted_0.F R) (κ : List SV → Option R) : ∀ (f : Nat) (x0 : ByteArray) (x1 : ByteArray) (x2 : ByteArray) (x3 : Int) (x4 : Int), goto (letter_encoded_0.C R c1 c2 c3 c4 c5 c6) (retK (letter_encoded_0.C R c1 c2 c3 c4 c5 c6) Tryd.f42.results.toList (List.range 0) κ) 10000 f (placeOf Tryd.f42 9) (letter_encoded_0.s9 x0 x1 x2 x3 x4) = letter_encoded_0.L9 c1 c2 c3 c4 c5 c6 (fun r0 r1 => κ [.tup [.str r0, .int .i64 r1]]) f x0 x1 x2 x3 x4
  | 0, _, _, _, _, _ => rfl
  | f + 1, x0, x1, x2, x3, x4 => by
    show start (letter_encoded_0.C R c1 c2 c3 c4 c5 c6) (goto (letter_encoded_0.C R c1 c2 c3 c4 c5 c6) (retK (letter_encoded_0.C R c1 c2 c3 c4 c5 c6) Tryd.f42.results.toList (List.range 0) κ) 10000 f) (retK (letter_encoded_0.C R c1 c2 c3 c4 c5 c6) Tryd.f42.results.toList (List.range 0) κ) 10000 (placeOf Tryd.f42 9) (letter_encoded_0.s9 x0 x1 x2 x3 x4) = _
    rw [letter_encoded_0.c9]
    simp only [letter_encoded_0.g9 R c1 c2 c3 c4 c5 c6 κ f, letter_encoded_0.g12 R c1 c2 c3 c4 c5 c6 κ f]
    rfl
theorem letter_encoded_0.run (R : Type) (κ : List SV → Option R) (a0 : ByteArray) :
    runF (letter_encoded_0.C R strings_HasPrefix_0 strings_IndexByte_0 octet_Lower_0 octet_Loose64_0 letter_wide_0 letter_unquoted_0) Tryd.f42 10000 fuelK [.str a0] κ = letter_encoded_0 a0 (fun r0 r1 => κ [.tup [.str r0, .int .i64 r1]]) := by
  rw [letter_encoded_0.c]
  simp only [letter_encoded_0.g9 R strings_HasPrefix_0 strings_IndexByte_0 octet_Lower_0 octet_Loose64_0 letter_wide_0 letter_unquoted_0 κ fuelK, letter_encoded_0.g12 R strings_HasPrefix_0 strings_IndexByte_0 octet_Lower_0 octet_Loose64_0 letter_wide_0 letter_unquoted_0 κ fuelK, letter_encoded_0.g14 R strings_HasPrefix_0 strings_IndexByte_0 octet_Lower_0 octet_Loose64_0 letter_wide_0 letter_unquoted_0 κ fuelK]
  rfl
theorem letter_encoded_0.Γ_does {R : Type} (tab : Tab) (ht : TabOk tab) (g : Nat) : Does (R := R) Tryd.prog (tabTy tyL) tab g ((letter_encoded_0.C R strings_HasPrefix_0 strings_IndexByte_0 octet_Lower_0 octet_Loose64_0 letter_wide_0 letter_unquoted_0).call g) := by
  refine does_of fun xs κ => ?_
  show DoesAt _ _ _ g xs κ (letter_encoded_0.Γ strings_HasPrefix_0 strings_IndexByte_0 octet_Lower_0 octet_Loose64_0 letter_wide_0 letter_unquoted_0 g xs κ)
  unfold letter_encoded_0.Γ
  split
  · split
    · exact strings_HasPrefix_0.does tab ht _ _ κ
    · exact DoesAt.none
  · split
    · exact strings_IndexByte_0.does tab ht _ _ κ
    · exact DoesAt.none
  · split
    · exact octet_Lower_0.does tab ht _ κ
    · exact DoesAt.none
  · split
    · exact octet_Loose64_0.does tab ht _ κ
    · exact DoesAt.none
  · split
    · exact letter_unquoted_0.does tab ht _ κ
    · exact DoesAt.none
  · split
    · exact letter_wide_0.does tab ht _ κ
    · exact DoesAt.none
  · exact DoesAt.none
theorem letter_encoded_0.does {R : Type} (tab : Tab) (ht : TabOk tab) (a0 : ByteArray) (κ : List SV → Option R) : DoesAt Tryd.prog (tabTy tyL) tab 42 [.str a0] κ (letter_encoded_0 a0 (fun r0 r1 => κ [.tup [.str r0, .int .i64 r1]])) := by
  intro r h w vs Rt Ra bs hpre
  exact runF_sound tyOk (letter_encoded_0.Γ_does tab ht) (show Tryd.prog.funcs[42]? = some Tryd.f42 by kernel_rfl) (by kernel_rfl) ((letter_encoded_0.run R κ a0).trans h) hpre
def strings_Builder_WriteString_vxnes.Γ {R : Type} (c1 : strings_Builder_copyCheck_vxne.F R) (g : Nat) (xs : List SV) (κ : List SV → Option R) : Option R :=
  match g with
  | 69 => (match xs with
    | [.vp 63 [.nos, .nil]] => c1 (κ [.tup [], .vp 63 [.nos, .nil]])
    | _ => none)
  | _ => none
def strings_Builder_WriteString_vxnes.h (n : Nat) : Option (List (Nat × List (Nat × Nat))) :=
  match n with
  | _ => none
def strings_Builder_WriteString_vxnes.C (R : Type) (c1 : strings_Builder_copyCheck_vxne.F R) : Cfg R := ⟨tabTy tyL, strings_Builder_WriteString_vxnes.Γ c1, fun _ => false, strings_Builder_WriteString_vxnes.h⟩
theorem strings_Builder_WriteString_vxnes.c (R : Type) (c1 : strings_Builder_copyCheck_vxne.F R) (κ : List SV → Option R) (k : Nat) (a0 : ByteArray) :
    runF (strings_Builder_WriteString_vxnes.C R c1) Tryd.f39 10000 k [.vp 63 [.nos, .nil], .str a0] κ = strings_Builder_WriteString_vxnes.e c1 a0 (fun r0 r1 => κ [.tup [.int .i64 r0, .nili], .vp 63 [.nos, .fr 5 r1 true]]) := by kernel_rfl
theorem strings_Builder_WriteString_vxnes.run (R : Type) (κ : List SV → Option R) (a0 : ByteArray) :
    runF (strings_Builder_WriteString_vxnes.C R strings_Builder_copyCheck_vxne) Tryd.f39 10000 fuelK [.vp 63 [.nos, .nil], .str a0] κ = strings_Builder_WriteString_vxnes a0 (fun r0 r1 => κ [.tup [.int .i64 r0, .nili], .vp 63 [.nos, .fr 5 r1 true]]) := by
  rw [strings_Builder_WriteString_vxnes.c]
  rfl
theorem strings_Builder_WriteString_vxnes.Γ_does {R : Type} (tab : Tab) (ht : TabOk tab) (g : Nat) : Does (R := R) Tryd.prog (tabTy tyL) tab g ((strings_Builder_WriteString_vxnes.C R strings_Builder_copyCheck_vxne).call g) := by
  refine does_of fun xs κ => ?_
  show DoesAt _ _ _ g xs κ (strings_Builder_WriteString_vxnes.Γ strings_Builder_copyCheck_vxne g xs κ)
  unfold strings_Builder_WriteString_vxnes.Γ
  split
  · split
    · exact strings_Builder_copyCheck_vxne.does tab ht κ
    · exact DoesAt.none
  · exact DoesAt.none
theorem strings_Builder_WriteString_vxnes.does {R : Type} (tab : Tab) (ht : TabOk tab) (a0 : ByteArray) (κ : List SV → Option R) : DoesAt Tryd.prog (tabTy tyL) tab 39 [.vp 63 [.nos, .nil], .str a0] κ (strings_Builder_WriteString_vxnes a0 (fun r0 r1 => κ [.tup [.int .i64 r0, .nili], .vp 63 [.nos, .fr 5 r1 true]])) := by
  intro r h w vs Rt Ra bs hpre
  exact runF_sound tyOk (strings_Builder_WriteString_vxnes.Γ_does tab ht) (show Tryd.prog.funcs[39]? = some Tryd.f39 by kernel_rfl) (by kernel_rfl) ((strings_Builder_WriteString_vxnes.run R κ a0).trans h) hpre
def letter_Words_0.Γ {R : Type} (c1 : letter_encoded_0.F R) (c2 : strings_Builder_WriteString_vxfes.F R) (c3 : letter_isBlank_0.F R) (c4 : strings_Builder_String_vxfe.F R) (g : Nat) (xs : List SV) (κ : List SV → Option R) : Option R :=
  match g with
  | 39 => (match xs with
    | [.vp 63 [.nos, .fr 5 a0 true], .str a1] => c2 a0 a1 (fun r0 r1 => κ [.tup [.int .i64 r0, .nili], .vp 63 [.nos, .fr 5 r1 true]])
    | _ => none)
  | 41 => (match xs with
    | [.vp 63 [.nos, .fr 5 a0 true]] => c4 a0 (fun r0 => κ [.str r0, .vp 63 [.nos, .no]])
    | _ => none)
  | 42 => (match xs with
    | [.str a0] => c1 a0 (fun r0 r1 => κ [.tup [.str r0, .int .i64 r1]])
    | _ => none)
  | 43 => (match xs with
    | [.int .u8 a0] => c3 a0 (fun r0 => κ [.bool r0])
    | _ => none)
  | _ => none
def letter_Words_0.h (n : Nat) : Option (List (Nat × List (Nat × Nat))) :=
  match n with
  | 5 => some [(0, [(0, 0)]), (3, [(1, 7)]), (4, [(0, 0)]), (5, [(0, 0)]), (6, [(0, 0)])]
  | _ => none
def letter_Words_0.C (R : Type) (c1 : letter_encoded_0.F R) (c2 : strings_Builder_WriteString_vxfes.F R) (c3 : letter_isBlank_0.F R) (c4 : strings_Builder_String_vxfe.F R) : Cfg R := ⟨tabTy tyL, letter_Words_0.Γ c1 c2 c3 c4, fun _ => false, letter_Words_0.h⟩
def letter_Words_0.s5 (x0 : ByteArray) (x1 : Bool) (x2 : Int) (x3 : Int) (x4 : List AV) : St := ⟨mkS 56 [(0, .str x0), (3, .ptr 319 0), (4, .bool x1), (5, .int .i64 x2), (6, .int .i64 x3)], [(319, .var 63 [.nos, .own 257]), (257, .row 5 x4 true)], top⟩
theorem letter_Words_0.c5 (R : Type) (c1 : letter_encoded_0.F R) (c2 : strings_Builder_WriteString_vxfes.F R) (c3 : letter_isBlank_0.F R) (c4 : strings_Builder_String_vxfe.F R) (J : List Item → St → Option R) (κ : List SV → Option R) (x0 : ByteArray) (x1 : Bool) (x2 : Int) (x3 : Int) (x4 : List AV) :
    start (letter_Words_0.C R c1 c2 c3 c4) J (retK (letter_Words_0.C R c1 c2 c3 c4) Tryd.f22.results.toList (List.range 0) κ) 10000 (placeOf Tryd.f22 5) (letter_Words_0.s5 x0 x1 x2 x3 x4) = letter_Words_0.t5 c1 c2 c3 c4 x0 x1 x2 x3 x4 (fun y0 y1 y2 y3 y4 => J (placeOf Tryd.f22 5) (letter_Words_0.s5 y0 y1 y2 y3 y4)) (fun r0 => κ [.str r0]) := by kernel_rfl
theorem letter_Words_0.c (R : Type) (c1 : letter_encoded_0.F R) (c2 : strings_Builder_WriteString_vxfes.F R) (c3 : letter_isBlank_0.F R) (c4 : strings_Builder_String_vxfe.F R) (κ : List SV → Option R) (k : Nat) (a0 : ByteArray) :
    runF (letter_Words_0.C R c1 c2 c3 c4) Tryd.f22 10000 k [.str a0] κ = letter_Words_0.e c1 c2 c3 c4 a0 (fun y0 y1 y2 y3 y4 => goto (letter_Words_0.C R c1 c2 c3 c4) (retK (letter_Words_0.C R c1 c2 c3 c4) Tryd.f22.results.toList (List.range 0) κ) 10000 k (placeOf Tryd.f22 5) (letter_Words_0.s5 y0 y1 y2 y3 y4)) (fun r0 => κ [.str r0]) := by kernel_rfl
theorem letter_Words_0.g5 (R : Type) (c1 : letter_encoded_0.F R) (c2 : strings_Builder_WriteString_vxfes.F R) (c3 : letter_isBlank_0.F R) (c4 : strings_Builder_String_vxfe.F R) (κ : List SV → Option R) : ∀ (f : Nat) (x0 : ByteArray) (x1 : Bool) (x2 : Int) (x3 : Int) (x4 : List AV), goto (letter_Words_0.C R c1 c2 c3 c4) (retK (letter_Words_0.C R c1 c2 c3 c4) Tryd.f22.results.toList (List.range 0) κ) 10000 f (placeOf Tryd.f22 5) (letter_Words_0.s5 x0 x1 x2 x3 x4) = letter_Words_0.L5 c1 c2 c3 c4 (fun r0 => κ [.str r0]) f x0 x1 x2 x3 x4
  | 0, _, _, _, _, _ => rfl
  | f + 1, x0, x1, x2, x3, x4 => by
    show start (letter_Words_0.C R c1 c2 c3 c4) (goto (letter_Words_0.C R c1 c2 c3 c4) (retK (letter_Words_0.C R c1 c2 c3 c4) Tryd.f22.results.toList (List.range 0) κ) 10000 f) (retK (letter_Words_0.C R c1 c2 c3 c4) Tryd.f22.results.toList (List.range 0) κ) 10000 (placeOf Tryd.f22 5) (letter_Words_0.s5 x0 x1 x2 x3 x4) = _
    rw [letter_Words_0.c5]
    simp only [letter_Words_0.g5 R c1 c2 c3 c4 κ f]
    rfl
theorem letter_Words_0.run (R : Type) (κ : List SV → Option R) (a0 : ByteArray) :
    runF (letter_Words_0.C R letter_encoded_0 strings_Builder_WriteString_vxfes letter_isBlank_0 strings_Builder_String_vxfe) Tryd.f22 10000 fuelK [.str a0] κ = letter_Words_0 a0 (fun r0 => κ [.str r0]) := by
  rw [letter_Words_0.c]
  simp only [letter_Words_0.g5 R letter_encoded_0 strings_Builder_WriteString_vxfes letter_isBlank_0 strings_Builder_String_vxfe κ fuelK]
  rfl
theorem letter_Words_0.Γ_does {R : Type} (tab : Tab) (ht : TabOk tab) (g : Nat) : Does (R := R) Tryd.prog (tabTy tyL) tab g ((letter_Words_0.C R letter_encoded_0 strings_Builder_WriteString_vxfes letter_isBlank_0 strings_Builder_String_vxfe).call g) := by
  refine does_of fun xs κ => ?_
  show DoesAt _ _ _ g xs κ (letter_Words_0.Γ letter_encoded_0 strings_Builder_WriteString_vxfes letter_isBlank_0 strings_Builder_String_vxfe g xs κ)
  unfold letter_Words_0.Γ
  split
  · split
    · exact strings_Builder_WriteString_vxfes.does tab ht _ _ κ
    · exact DoesAt.none
  · split
    · exact strings_Builder_String_vxfe.does tab ht _ κ
    · exact DoesAt.none
  · split
    · exact letter_encoded_0.does tab ht _ κ
    · exact DoesAt.none
  · split
    · exact letter_isBlank_0.does tab ht _ κ
    · exact DoesAt.none
  · exact DoesAt.none
theorem letter_Words_0.does {R : Type} (tab : Tab) (ht : TabOk tab) (a0 : ByteArray) (κ : List SV → Option R) : DoesAt Tryd.prog (tabTy tyL) tab 22 [.str a0] κ (letter_Words_0 a0 (fun r0 => κ [.str r0])) := by
  intro r h w vs Rt Ra bs hpre
  exact runF_sound tyOk (letter_Words_0.Γ_does tab ht) (show Tryd.prog.funcs[22]? = some Tryd.f22 by kernel_rfl) (by kernel_rfl) ((letter_Words_0.run R κ a0).trans h) hpre
def letter_one_0.Γ {R : Type} (c1 : letter_isSpace_0.F R) (c2 : strings_Builder_WriteByte_vxfei.F R) (c3 : strings_Builder_String_vxfe.F R) (g : Nat) (xs : List SV) (κ : List SV → Option R) : Option R :=
  match g with
  | 41 => (match xs with
    | [.vp 63 [.nos, .fr 5 a0 true]] => c3 a0 (fun r0 => κ [.str r0, .vp 63 [.nos, .no]])
    | _ => none)
  | 74 => (match xs with
    | [.int .u8 a0] => c1 a0 (fun r0 => κ [.bool r0])
    | _ => none)
  | 75 => (match xs with
    | [.vp 63 [.nos, .fr 5 a0 true], .int .u8 a1] => c2 a0 a1 (fun r0 => κ [.nili, .vp 63 [.nos, .fr 5 r0 true]])
    | _ => none)
  | _ => none
def letter_one_0.h (n : Nat) : Option (List (Nat × List (Nat × Nat))) :=
  match n with
  | 4 => some [(0, [(0, 0)]), (3, [(1, 7)]), (4, [(0, 0)]), (7, [(0, 0)]), (8, [(0, 0)])]
  | _ => none
def letter_one_0.C (R : Type) (c1 : letter_isSpace_0.F R) (c2 : strings_Builder_WriteByte_vxfei.F R) (c3 : strings_Builder_String_vxfe.F R) : Cfg R := ⟨tabTy tyL, letter_one_0.Γ c1 c2 c3, fun _ => false, letter_one_0.h⟩
def letter_one_0.s4 (x0 : ByteArray) (x1 : Bool) (x2 : Int) (x3 : Int) (x4 : List AV) : St := ⟨mkS 29 [(0, .str x0), (3, .ptr 319 0), (4, .bool x1), (7, .int .i64 x2), (8, .int .i64 x3)], [(319, .var 63 [.nos, .own 257]), (257, .row 5 x4 true)], top⟩
theorem letter_one_0.c4 (R : Type) (c1 : letter_isSpace_0.F R) (c2 : strings_Builder_WriteByte_vxfei.F R) (c3 : strings_Builder_String_vxfe.F R) (J : List Item → St → Option R) (κ : List SV → Option R) (x0 : ByteArray) (x1 : Bool) (x2 : Int) (x3 : Int) (x4 : List AV) :
    start (letter_one_0.C R c1 c2 c3) J (retK (letter_one_0.C R c1 c2 c3) Tryd.f44.results.toList (List.range 0) κ) 10000 (placeOf Tryd.f44 4) (letter_one_0.s4 x0 x1 x2 x3 x4) = letter_one_0.t4 c1 c2 c3 x0 x1 x2 x3 x4 (fun y0 y1 y2 y3 y4 => J (placeOf Tryd.f44 4) (letter_one_0.s4 y0 y1 y2 y3 y4)) (fun r0 => κ [.str r0]) := by kernel_rfl
theorem letter_one_0.c (R : Type) (c1 : letter_isSpace_0.F R) (c2 : strings_Builder_WriteByte_vxfei.F R) (c3 : strings_Builder_String_vxfe.F R) (κ : List SV → Option R) (k : Nat) (a0 : ByteArray) :
    runF (letter_one_0.C R c1 c2 c3) Tryd.f44 10000 k [.str a0] κ = letter_one_0.e c1 c2 c3 a0 (fun y0 y1 y2 y3 y4 => goto (letter_one_0.C R c1 c2 c3) (retK (letter_one_0.C R c1 c2 c3) Tryd.f44.results.toList (List.range 0) κ) 10000 k (placeOf Tryd.f44 4) (letter_one_0.s4 y0 y1 y2 y3 y4)) (fun r0 => κ [.str r0]) := by kernel_rfl
theorem letter_one_0.g4 (R : Type) (c1 : letter_isSpace_0.F R) (c2 : strings_Builder_WriteByte_vxfei.F R) (c3 : strings_Builder_String_vxfe.F R) (κ : List SV → Option R) : ∀ (f : Nat) (x0 : ByteArray) (x1 : Bool) (x2 : Int) (x3 : Int) (x4 : List AV), goto (letter_one_0.C R c1 c2 c3) (retK (letter_one_0.C R c1 c2 c3) Tryd.f44.results.toList (List.range 0) κ) 10000 f (placeOf Tryd.f44 4) (letter_one_0.s4 x0 x1 x2 x3 x4) = letter_one_0.L4 c1 c2 c3 (fun r0 => κ [.str r0]) f x0 x1 x2 x3 x4
  | 0, _, _, _, _, _ => rfl
  | f + 1, x0, x1, x2, x3, x4 => by
    show start (letter_one_0.C R c1 c2 c3) (goto (letter_one_0.C R c1 c2 c3) (retK (letter_one_0.C R c1 c2 c3) Tryd.f44.results.toList (List.range 0) κ) 10000 f) (retK (letter_one_0.C R c1 c2 c3) Tryd.f44.results.toList (List.range 0) κ) 10000 (placeOf Tryd.f44 4) (letter_one_0.s4 x0 x1 x2 x3 x4) = _
    rw [letter_one_0.c4]
    simp only [letter_one_0.g4 R c1 c2 c3 κ f]
    rfl
theorem letter_one_0.run (R : Type) (κ : List SV → Option R) (a0 : ByteArray) :
    runF (letter_one_0.C R letter_isSpace_0 strings_Builder_WriteByte_vxfei strings_Builder_String_vxfe) Tryd.f44 10000 fuelK [.str a0] κ = letter_one_0 a0 (fun r0 => κ [.str r0]) := by
  rw [letter_one_0.c]
  simp only [letter_one_0.g4 R letter_isSpace_0 strings_Builder_WriteByte_vxfei strings_Builder_String_vxfe κ fuelK]
  rfl
theorem letter_one_0.Γ_does {R : Type} (tab : Tab) (ht : TabOk tab) (g : Nat) : Does (R := R) Tryd.prog (tabTy tyL) tab g ((letter_one_0.C R letter_isSpace_0 strings_Builder_WriteByte_vxfei strings_Builder_String_vxfe).call g) := by
  refine does_of fun xs κ => ?_
  show DoesAt _ _ _ g xs κ (letter_one_0.Γ letter_isSpace_0 strings_Builder_WriteByte_vxfei strings_Builder_String_vxfe g xs κ)
  unfold letter_one_0.Γ
  split
  · split
    · exact strings_Builder_String_vxfe.does tab ht _ κ
    · exact DoesAt.none
  · split
    · exact letter_isSpace_0.does tab ht _ κ
    · exact DoesAt.none
  · split
    · exact strings_Builder_WriteByte_vxfei.does tab ht _ _ κ
    · exact DoesAt.none
  · exact DoesAt.none
theorem letter_one_0.does {R : Type} (tab : Tab) (ht : TabOk tab) (a0 : ByteArray) (κ : List SV → Option R) : DoesAt Tryd.prog (tabTy tyL) tab 44 [.str a0] κ (letter_one_0 a0 (fun r0 => κ [.str r0])) := by
  intro r h w vs Rt Ra bs hpre
  exact runF_sound tyOk (letter_one_0.Γ_does tab ht) (show Tryd.prog.funcs[44]? = some Tryd.f44 by kernel_rfl) (by kernel_rfl) ((letter_one_0.run R κ a0).trans h) hpre
def letter_rules_0.Γ {R : Type} (g : Nat) (xs : List SV) (κ : List SV → Option R) : Option R :=
  match g with
  | _ => none
def letter_rules_0.h (n : Nat) : Option (List (Nat × List (Nat × Nat))) :=
  match n with
  | _ => none
def letter_rules_0.C (R : Type) : Cfg R := ⟨tabTy tyL, letter_rules_0.Γ, fun _ => false, letter_rules_0.h⟩
theorem letter_rules_0.c (R : Type) (κ : List SV → Option R) (k : Nat) :
    runF (letter_rules_0.C R) Tryd.f45 10000 k [] κ = letter_rules_0.e (fun r0 r1 r2 r3 r4 r5 => κ [.agg [.fn 76, .bool r0, .fn 78, .bool r1, .fn 79, .bool r2, .fn 81, .bool r3, .fn 83, .bool r4, .fn 85, .bool r5]]) := by kernel_rfl
theorem letter_rules_0.run (R : Type) (κ : List SV → Option R) :
    runF (letter_rules_0.C R) Tryd.f45 10000 fuelK [] κ = letter_rules_0 (fun r0 r1 r2 r3 r4 r5 => κ [.agg [.fn 76, .bool r0, .fn 78, .bool r1, .fn 79, .bool r2, .fn 81, .bool r3, .fn 83, .bool r4, .fn 85, .bool r5]]) := by
  rw [letter_rules_0.c]
  rfl
theorem letter_rules_0.Γ_does {R : Type} (tab : Tab) (ht : TabOk tab) (g : Nat) : Does (R := R) Tryd.prog (tabTy tyL) tab g ((letter_rules_0.C R).call g) := by
  refine does_of fun xs κ => ?_
  show DoesAt _ _ _ g xs κ (letter_rules_0.Γ g xs κ)
  unfold letter_rules_0.Γ
  split
  · exact DoesAt.none
theorem letter_rules_0.does {R : Type} (tab : Tab) (ht : TabOk tab) (κ : List SV → Option R) : DoesAt Tryd.prog (tabTy tyL) tab 45 [] κ (letter_rules_0 (fun r0 r1 r2 r3 r4 r5 => κ [.agg [.fn 76, .bool r0, .fn 78, .bool r1, .fn 79, .bool r2, .fn 81, .bool r3, .fn 83, .bool r4, .fn 85, .bool r5]])) := by
  intro r h w vs Rt Ra bs hpre
  exact runF_sound tyOk (letter_rules_0.Γ_does tab ht) (show Tryd.prog.funcs[45]? = some Tryd.f45 by kernel_rfl) (by kernel_rfl) ((letter_rules_0.run R κ).trans h) hpre
def octet_Same_0.Γ {R : Type} (c1 : octet_Lower_0.F R) (g : Nat) (xs : List SV) (κ : List SV → Option R) : Option R :=
  match g with
  | 57 => (match xs with
    | [.str a0] => c1 a0 (fun r0 => κ [.str r0])
    | _ => none)
  | _ => none
def octet_Same_0.h (n : Nat) : Option (List (Nat × List (Nat × Nat))) :=
  match n with
  | _ => none
def octet_Same_0.C (R : Type) (c1 : octet_Lower_0.F R) : Cfg R := ⟨tabTy tyL, octet_Same_0.Γ c1, fun _ => false, octet_Same_0.h⟩
theorem octet_Same_0.c (R : Type) (c1 : octet_Lower_0.F R) (κ : List SV → Option R) (k : Nat) (a0 : ByteArray) (a1 : ByteArray) :
    runF (octet_Same_0.C R c1) Tryd.f33 10000 k [.str a0, .str a1] κ = octet_Same_0.e c1 a0 a1 (fun r0 => κ [.bool r0]) := by kernel_rfl
theorem octet_Same_0.run (R : Type) (κ : List SV → Option R) (a0 : ByteArray) (a1 : ByteArray) :
    runF (octet_Same_0.C R octet_Lower_0) Tryd.f33 10000 fuelK [.str a0, .str a1] κ = octet_Same_0 a0 a1 (fun r0 => κ [.bool r0]) := by
  rw [octet_Same_0.c]
  rfl
theorem octet_Same_0.Γ_does {R : Type} (tab : Tab) (ht : TabOk tab) (g : Nat) : Does (R := R) Tryd.prog (tabTy tyL) tab g ((octet_Same_0.C R octet_Lower_0).call g) := by
  refine does_of fun xs κ => ?_
  show DoesAt _ _ _ g xs κ (octet_Same_0.Γ octet_Lower_0 g xs κ)
  unfold octet_Same_0.Γ
  split
  · split
    · exact octet_Lower_0.does tab ht _ κ
    · exact DoesAt.none
  · exact DoesAt.none
theorem octet_Same_0.does {R : Type} (tab : Tab) (ht : TabOk tab) (a0 : ByteArray) (a1 : ByteArray) (κ : List SV → Option R) : DoesAt Tryd.prog (tabTy tyL) tab 33 [.str a0, .str a1] κ (octet_Same_0 a0 a1 (fun r0 => κ [.bool r0])) := by
  intro r h w vs Rt Ra bs hpre
  exact runF_sound tyOk (octet_Same_0.Γ_does tab ht) (show Tryd.prog.funcs[33]? = some Tryd.f33 by kernel_rfl) (by kernel_rfl) ((octet_Same_0.run R κ a0 a1).trans h) hpre
def letter_begin_0.Γ {R : Type} (c1 : octet_Same_0.F R) (g : Nat) (xs : List SV) (κ : List SV → Option R) : Option R :=
  match g with
  | 33 => (match xs with
    | [.str a0, .str a1] => c1 a0 a1 (fun r0 => κ [.bool r0])
    | _ => none)
  | _ => none
def letter_begin_0.h (n : Nat) : Option (List (Nat × List (Nat × Nat))) :=
  match n with
  | _ => none
def letter_begin_0.C (R : Type) (c1 : octet_Same_0.F R) : Cfg R := ⟨tabTy tyL, letter_begin_0.Γ c1, fun _ => false, letter_begin_0.h⟩
theorem letter_begin_0.c (R : Type) (c1 : octet_Same_0.F R) (κ : List SV → Option R) (k : Nat) (a0 : ByteArray) (a1 : ByteArray) :
    runF (letter_begin_0.C R c1) Tryd.f86 10000 k [.str a0, .str a1] κ = letter_begin_0.e c1 a0 a1 (fun r0 => κ [.bool r0]) := by kernel_rfl
theorem letter_begin_0.run (R : Type) (κ : List SV → Option R) (a0 : ByteArray) (a1 : ByteArray) :
    runF (letter_begin_0.C R octet_Same_0) Tryd.f86 10000 fuelK [.str a0, .str a1] κ = letter_begin_0 a0 a1 (fun r0 => κ [.bool r0]) := by
  rw [letter_begin_0.c]
  rfl
theorem letter_begin_0.Γ_does {R : Type} (tab : Tab) (ht : TabOk tab) (g : Nat) : Does (R := R) Tryd.prog (tabTy tyL) tab g ((letter_begin_0.C R octet_Same_0).call g) := by
  refine does_of fun xs κ => ?_
  show DoesAt _ _ _ g xs κ (letter_begin_0.Γ octet_Same_0 g xs κ)
  unfold letter_begin_0.Γ
  split
  · split
    · exact octet_Same_0.does tab ht _ _ κ
    · exact DoesAt.none
  · exact DoesAt.none
theorem letter_begin_0.does {R : Type} (tab : Tab) (ht : TabOk tab) (a0 : ByteArray) (a1 : ByteArray) (κ : List SV → Option R) : DoesAt Tryd.prog (tabTy tyL) tab 86 [.str a0, .str a1] κ (letter_begin_0 a0 a1 (fun r0 => κ [.bool r0])) := by
  intro r h w vs Rt Ra bs hpre
  exact runF_sound tyOk (letter_begin_0.Γ_does tab ht) (show Tryd.prog.funcs[86]? = some Tryd.f86 by kernel_rfl) (by kernel_rfl) ((letter_begin_0.run R κ a0 a1).trans h) hpre
def strings_HasSuffix_0.Γ {R : Type} (c1 : stringslite_HasSuffix_0.F R) (g : Nat) (xs : List SV) (κ : List SV → Option R) : Option R :=
  match g with
  | 70 => (match xs with
    | [.str a0, .str a1] => c1 a0 a1 (fun r0 => κ [.bool r0])
    | _ => none)
  | _ => none
def strings_HasSuffix_0.h (n : Nat) : Option (List (Nat × List (Nat × Nat))) :=
  match n with
  | _ => none
def strings_HasSuffix_0.C (R : Type) (c1 : stringslite_HasSuffix_0.F R) : Cfg R := ⟨tabTy tyL, strings_HasSuffix_0.Γ c1, fun _ => false, strings_HasSuffix_0.h⟩
theorem strings_HasSuffix_0.c (R : Type) (c1 : stringslite_HasSuffix_0.F R) (κ : List SV → Option R) (k : Nat) (a0 : ByteArray) (a1 : ByteArray) :
    runF (strings_HasSuffix_0.C R c1) Tryd.f40 10000 k [.str a0, .str a1] κ = strings_HasSuffix_0.e c1 a0 a1 (fun r0 => κ [.bool r0]) := by kernel_rfl
theorem strings_HasSuffix_0.run (R : Type) (κ : List SV → Option R) (a0 : ByteArray) (a1 : ByteArray) :
    runF (strings_HasSuffix_0.C R stringslite_HasSuffix_0) Tryd.f40 10000 fuelK [.str a0, .str a1] κ = strings_HasSuffix_0 a0 a1 (fun r0 => κ [.bool r0]) := by
  rw [strings_HasSuffix_0.c]
  rfl
theorem strings_HasSuffix_0.Γ_does {R : Type} (tab : Tab) (ht : TabOk tab) (g : Nat) : Does (R := R) Tryd.prog (tabTy tyL) tab g ((strings_HasSuffix_0.C R stringslite_HasSuffix_0).call g) := by
  refine does_of fun xs κ => ?_
  show DoesAt _ _ _ g xs κ (strings_HasSuffix_0.Γ stringslite_HasSuffix_0 g xs κ)
  unfold strings_HasSuffix_0.Γ
  split
  · split
    · exact stringslite_HasSuffix_0.does tab ht _ _ κ
    · exact DoesAt.none
  · exact DoesAt.none
theorem strings_HasSuffix_0.does {R : Type} (tab : Tab) (ht : TabOk tab) (a0 : ByteArray) (a1 : ByteArray) (κ : List SV → Option R) : DoesAt Tryd.prog (tabTy tyL) tab 40 [.str a0, .str a1] κ (strings_HasSuffix_0 a0 a1 (fun r0 => κ [.bool r0])) := by
  intro r h w vs Rt Ra bs hpre
  exact runF_sound tyOk (strings_HasSuffix_0.Γ_does tab ht) (show Tryd.prog.funcs[40]? = some Tryd.f40 by kernel_rfl) (by kernel_rfl) ((strings_HasSuffix_0.run R κ a0 a1).trans h) hpre
def letter_rules_6_0.Γ {R : Type} (c1 : letter_begin_0.F R) (c2 : strings_HasSuffix_0.F R) (g : Nat) (xs : List SV) (κ : List SV → Option R) : Option R :=
  match g with
  | 40 => (match xs with
    | [.str a0, .str a1] => c2 a0 a1 (fun r0 => κ [.bool r0])
    | _ => none)
  | 86 => (match xs with
    | [.str a0, .str a1] => c1 a0 a1 (fun r0 => κ [.bool r0])
    | _ => none)
  | _ => none
def letter_rules_6_0.h (n : Nat) : Option (List (Nat × List (Nat × Nat))) :=
  match n with
  | _ => none
def letter_rules_6_0.C (R : Type) (c1 : letter_begin_0.F R) (c2 : strings_HasSuffix_0.F R) : Cfg R := ⟨tabTy tyL, letter_rules_6_0.Γ c1 c2, fun _ => false, letter_rules_6_0.h⟩
theorem letter_rules_6_0.c (R : Type) (c1 : letter_begin_0.F R) (c2 : strings_HasSuffix_0.F R) (κ : List SV → Option R) (k : Nat) (a0 : ByteArray) :
    runF (letter_rules_6_0.C R c1 c2) Tryd.f85 10000 k [.str a0] κ = letter_rules_6_0.e c1 c2 a0 (fun r0 r1 => κ [.tup [.str r0, .bool r1]]) := by kernel_rfl
theorem letter_rules_6_0.run (R : Type) (κ : List SV → Option R) (a0 : ByteArray) :
    runF (letter_rules_6_0.C R letter_begin_0 strings_HasSuffix_0) Tryd.f85 10000 fuelK [.str a0] κ = letter_rules_6_0 a0 (fun r0 r1 => κ [.tup [.str r0, .bool r1]]) := by
  rw [letter_rules_6_0.c]
  rfl
theorem letter_rules_6_0.Γ_does {R : Type} (tab : Tab) (ht : TabOk tab) (g : Nat) : Does (R := R) Tryd.prog (tabTy tyL) tab g ((letter_rules_6_0.C R letter_begin_0 strings_HasSuffix_0).call g) := by
  refine does_of fun xs κ => ?_
  show DoesAt _ _ _ g xs κ (letter_rules_6_0.Γ letter_begin_0 strings_HasSuffix_0 g xs κ)
  unfold letter_rules_6_0.Γ
  split
  · split
    · exact strings_HasSuffix_0.does tab ht _ _ κ
    · exact DoesAt.none
  · split
    · exact letter_begin_0.does tab ht _ _ κ
    · exact DoesAt.none
  · exact DoesAt.none
theorem letter_rules_6_0.does {R : Type} (tab : Tab) (ht : TabOk tab) (a0 : ByteArray) (κ : List SV → Option R) : DoesAt Tryd.prog (tabTy tyL) tab 85 [.str a0] κ (letter_rules_6_0 a0 (fun r0 r1 => κ [.tup [.str r0, .bool r1]])) := by
  intro r h w vs Rt Ra bs hpre
  exact runF_sound tyOk (letter_rules_6_0.Γ_does tab ht) (show Tryd.prog.funcs[85]? = some Tryd.f85 by kernel_rfl) (by kernel_rfl) ((letter_rules_6_0.run R κ a0).trans h) hpre
def utf8_ValidRune_0.Γ {R : Type} (g : Nat) (xs : List SV) (κ : List SV → Option R) : Option R :=
  match g with
  | _ => none
def utf8_ValidRune_0.h (n : Nat) : Option (List (Nat × List (Nat × Nat))) :=
  match n with
  | _ => none
def utf8_ValidRune_0.C (R : Type) : Cfg R := ⟨tabTy tyL, utf8_ValidRune_0.Γ, fun _ => false, utf8_ValidRune_0.h⟩
theorem utf8_ValidRune_0.c (R : Type) (κ : List SV → Option R) (k : Nat) (a0 : Int) :
    runF (utf8_ValidRune_0.C R) Tryd.f115 10000 k [.int .i32 a0] κ = utf8_ValidRune_0.e a0 (fun r0 => κ [.bool r0]) := by kernel_rfl
theorem utf8_ValidRune_0.run (R : Type) (κ : List SV → Option R) (a0 : Int) :
    runF (utf8_ValidRune_0.C R) Tryd.f115 10000 fuelK [.int .i32 a0] κ = utf8_ValidRune_0 a0 (fun r0 => κ [.bool r0]) := by
  rw [utf8_ValidRune_0.c]
  rfl
theorem utf8_ValidRune_0.Γ_does {R : Type} (tab : Tab) (ht : TabOk tab) (g : Nat) : Does (R := R) Tryd.prog (tabTy tyL) tab g ((utf8_ValidRune_0.C R).call g) := by
  refine does_of fun xs κ => ?_
  show DoesAt _ _ _ g xs κ (utf8_ValidRune_0.Γ g xs κ)
  unfold utf8_ValidRune_0.Γ
  split
  · exact DoesAt.none
theorem utf8_ValidRune_0.does {R : Type} (tab : Tab) (ht : TabOk tab) (a0 : Int) (κ : List SV → Option R) : DoesAt Tryd.prog (tabTy tyL) tab 115 [.int .i32 a0] κ (utf8_ValidRune_0 a0 (fun r0 => κ [.bool r0])) := by
  intro r h w vs Rt Ra bs hpre
  exact runF_sound tyOk (utf8_ValidRune_0.Γ_does tab ht) (show Tryd.prog.funcs[115]? = some Tryd.f115 by kernel_rfl) (by kernel_rfl) ((utf8_ValidRune_0.run R κ a0).trans h) hpre
def bytealg_Cutover_0.Γ {R : Type} (g : Nat) (xs : List SV) (κ : List SV → Option R) : Option R :=
  match g with
  | _ => none
def bytealg_Cutover_0.h (n : Nat) : Option (List (Nat × List (Nat × Nat))) :=
  match n with
  | _ => none
def bytealg_Cutover_0.C (R : Type) : Cfg R := ⟨tabTy tyL, bytealg_Cutover_0.Γ, fun _ => false, bytealg_Cutover_0.h⟩
theorem bytealg_Cutover_0.c (R : Type) (κ : List SV → Option R) (k : Nat) (a0 : Int) :
    runF (bytealg_Cutover_0.C R) Tryd.f90 10000 k [.int .i64 a0] κ = bytealg_Cutover_0.e a0 (fun r0 => κ [.int .i64 r0]) := by kernel_rfl
theorem bytealg_Cutover_0.run (R : Type) (κ : List SV → Option R) (a0 : Int) :
    runF (bytealg_Cutover_0.C R) Tryd.f90 10000 fuelK [.int .i64 a0] κ = bytealg_Cutover_0 a0 (fun r0 => κ [.int .i64 r0]) := by
  rw [bytealg_Cutover_0.c]
  rfl
theorem bytealg_Cutover_0.Γ_does {R : Type} (tab : Tab) (ht : TabOk tab) (g : Nat) : Does (R := R) Tryd.prog (tabTy tyL) tab g ((bytealg_Cutover_0.C R).call g) := by
  refine does_of fun xs κ => ?_
  show DoesAt _ _ _ g xs κ (bytealg_Cutover_0.Γ g xs κ)
  unfold bytealg_Cutover_0.Γ
  split
  · exact DoesAt.none
theorem bytealg_Cutover_0.does {R : Type} (tab : Tab) (ht : TabOk tab) (a0 : Int) (κ : List SV → Option R) : DoesAt Tryd.prog (tabTy tyL) tab 90 [.int .i64 a0] κ (bytealg_Cutover_0 a0 (fun r0 => κ [.int .i64 r0])) := by
  intro r h w vs Rt Ra bs hpre
  exact runF_sound tyOk (bytealg_Cutover_0.Γ_does tab ht) (show Tryd.prog.funcs[90]? = some Tryd.f90 by kernel_rfl) (by kernel_rfl) ((bytealg_Cutover_0.run R κ a0).trans h) hpre
end Go.Proofs.Ab
