/- Each plain function is what a call of its Go function does, checked by the kernel (no condition but what its checks ask). -/
import Derived.Test.YtnipklplcipaiaaGreatDoorSeat
import Derived.Test.YtnipklplcipaiaaGreatDoorText
/- Each typed text is what its function does: checked by the kernel. -/
namespace Go.Proofs.Ab
set_option linter.unusedVariables false
set_option maxRecDepth 4000
open Go Go.Proofs
set_option maxRecDepth 100000
def letter_cursor_comment_vsie.Γ {R : Type} (g : Nat) (xs : List SV) (κ : List SV → Option R) : Option R :=
  match g with
  | _ => none
def letter_cursor_comment_vsie.h (n : Nat) : Option (List (Nat × List (Nat × Nat))) :=
  match n with
  | 1 => some [(0, [(0, 0)]), (2, [(0, 0)])]
  | _ => none
def letter_cursor_comment_vsie.C (R : Type) : Cfg R := ⟨tabTy tyL, letter_cursor_comment_vsie.Γ, fun _ => false, letter_cursor_comment_vsie.h⟩
def letter_cursor_comment_vsie.s1 (x0 : Int) (x1 : ByteArray) (x2 : Int) : St := ⟨mkS 61 [(0, .ptr 0 0), (2, .int .i64 x0)], [(0, .var 125 [.str x1, .int .i64 x2])], top⟩
theorem letter_cursor_comment_vsie.c1 (R : Type) (J : List Item → St → Option R) (κ : List SV → Option R) (x0 : Int) (x1 : ByteArray) (x2 : Int) :
    start (letter_cursor_comment_vsie.C R) J (retK (letter_cursor_comment_vsie.C R) Tryz.f142.results.toList (List.range 1) κ) 10000 (placeOf Tryz.f142 1) (letter_cursor_comment_vsie.s1 x0 x1 x2) = letter_cursor_comment_vsie.t1 x0 x1 x2 (fun y0 y1 y2 => J (placeOf Tryz.f142 1) (letter_cursor_comment_vsie.s1 y0 y1 y2)) (fun r0 r1 => κ [.tup [], .vp 125 [.str r0, .int .i64 r1]]) := by kernel_rfl
theorem letter_cursor_comment_vsie.c (R : Type) (κ : List SV → Option R) (k : Nat) (a0 : ByteArray) (a1 : Int) :
    runF (letter_cursor_comment_vsie.C R) Tryz.f142 10000 k [.vp 125 [.str a0, .int .i64 a1]] κ = letter_cursor_comment_vsie.e a0 a1 (fun y0 y1 y2 => goto (letter_cursor_comment_vsie.C R) (retK (letter_cursor_comment_vsie.C R) Tryz.f142.results.toList (List.range 1) κ) 10000 k (placeOf Tryz.f142 1) (letter_cursor_comment_vsie.s1 y0 y1 y2)) (fun r0 r1 => κ [.tup [], .vp 125 [.str r0, .int .i64 r1]]) := by kernel_rfl
theorem letter_cursor_comment_vsie.g1 (R : Type) (κ : List SV → Option R) : ∀ (f : Nat) (x0 : Int) (x1 : ByteArray) (x2 : Int), goto (letter_cursor_comment_vsie.C R) (retK (letter_cursor_comment_vsie.C R) Tryz.f142.results.toList (List.range 1) κ) 10000 f (placeOf Tryz.f142 1) (letter_cursor_comment_vsie.s1 x0 x1 x2) = letter_cursor_comment_vsie.L1 (fun r0 r1 => κ [.tup [], .vp 125 [.str r0, .int .i64 r1]]) f x0 x1 x2
  | 0, _, _, _ => rfl
  | f + 1, x0, x1, x2 => by
    show start (letter_cursor_comment_vsie.C R) (goto (letter_cursor_comment_vsie.C R) (retK (letter_cursor_comment_vsie.C R) Tryz.f142.results.toList (List.range 1) κ) 10000 f) (retK (letter_cursor_comment_vsie.C R) Tryz.f142.results.toList (List.range 1) κ) 10000 (placeOf Tryz.f142 1) (letter_cursor_comment_vsie.s1 x0 x1 x2) = _
    rw [letter_cursor_comment_vsie.c1]
    simp only [letter_cursor_comment_vsie.g1 R κ f]
    rfl
theorem letter_cursor_comment_vsie.run (R : Type) (κ : List SV → Option R) (a0 : ByteArray) (a1 : Int) :
    runF (letter_cursor_comment_vsie.C R) Tryz.f142 10000 fuelK [.vp 125 [.str a0, .int .i64 a1]] κ = letter_cursor_comment_vsie a0 a1 (fun r0 r1 => κ [.tup [], .vp 125 [.str r0, .int .i64 r1]]) := by
  rw [letter_cursor_comment_vsie.c]
  simp only [letter_cursor_comment_vsie.g1 R κ fuelK]
  rfl
theorem letter_cursor_comment_vsie.Γ_does {R : Type} (tab : Tab) (ht : TabOk tab) (g : Nat) : Does (R := R) Tryz.prog (tabTy tyL) tab g ((letter_cursor_comment_vsie.C R).call g) := by
  refine does_of fun xs κ => ?_
  show DoesAt _ _ _ g xs κ (letter_cursor_comment_vsie.Γ g xs κ)
  unfold letter_cursor_comment_vsie.Γ
  split
  · exact DoesAt.none
theorem letter_cursor_comment_vsie.does {R : Type} (tab : Tab) (ht : TabOk tab) (a0 : ByteArray) (a1 : Int) (κ : List SV → Option R) : DoesAt Tryz.prog (tabTy tyL) tab 142 [.vp 125 [.str a0, .int .i64 a1]] κ (letter_cursor_comment_vsie a0 a1 (fun r0 r1 => κ [.tup [], .vp 125 [.str r0, .int .i64 r1]])) := by
  intro r h w vs Rt Ra bs hpre
  exact runF_sound tyOk (letter_cursor_comment_vsie.Γ_does tab ht) (show Tryz.prog.funcs[142]? = some Tryz.f142 by kernel_rfl) (by kernel_rfl) ((letter_cursor_comment_vsie.run R κ a0 a1).trans h) hpre
theorem strings_Builder_copyCheck_vxne.does {R : Type} (tab : Tab) (ht : TabOk tab) (κ : List SV → Option R) : DoesAt Tryz.prog (tabTy tyL) tab 99 [.vp 74 [.nos, .nil]] κ (strings_Builder_copyCheck_vxne (κ [.tup [], .vp 74 [.nos, .nil]])) :=
  copyCheck_does Tryz.call99 cc_used cc_fresh (.nil) κ
def strings_Builder_WriteByte_vxnei.Γ {R : Type} (c1 : strings_Builder_copyCheck_vxne.F R) (g : Nat) (xs : List SV) (κ : List SV → Option R) : Option R :=
  match g with
  | 99 => (match xs with
    | [.vp 74 [.nos, .nil]] => c1 (κ [.tup [], .vp 74 [.nos, .nil]])
    | _ => none)
  | _ => none
def strings_Builder_WriteByte_vxnei.h (n : Nat) : Option (List (Nat × List (Nat × Nat))) :=
  match n with
  | _ => none
def strings_Builder_WriteByte_vxnei.C (R : Type) (c1 : strings_Builder_copyCheck_vxne.F R) : Cfg R := ⟨tabTy tyL, strings_Builder_WriteByte_vxnei.Γ c1, fun _ => false, strings_Builder_WriteByte_vxnei.h⟩
theorem strings_Builder_WriteByte_vxnei.c (R : Type) (c1 : strings_Builder_copyCheck_vxne.F R) (κ : List SV → Option R) (k : Nat) (a0 : Int) :
    runF (strings_Builder_WriteByte_vxnei.C R c1) Tryz.f110 10000 k [.vp 74 [.nos, .nil], .int .u8 a0] κ = strings_Builder_WriteByte_vxnei.e c1 a0 (fun r0 => κ [.nili, .vp 74 [.nos, .fr 5 r0 true]]) := by kernel_rfl
theorem strings_Builder_WriteByte_vxnei.run (R : Type) (κ : List SV → Option R) (a0 : Int) :
    runF (strings_Builder_WriteByte_vxnei.C R strings_Builder_copyCheck_vxne) Tryz.f110 10000 fuelK [.vp 74 [.nos, .nil], .int .u8 a0] κ = strings_Builder_WriteByte_vxnei a0 (fun r0 => κ [.nili, .vp 74 [.nos, .fr 5 r0 true]]) := by
  rw [strings_Builder_WriteByte_vxnei.c]
  rfl
theorem strings_Builder_WriteByte_vxnei.Γ_does {R : Type} (tab : Tab) (ht : TabOk tab) (g : Nat) : Does (R := R) Tryz.prog (tabTy tyL) tab g ((strings_Builder_WriteByte_vxnei.C R strings_Builder_copyCheck_vxne).call g) := by
  refine does_of fun xs κ => ?_
  show DoesAt _ _ _ g xs κ (strings_Builder_WriteByte_vxnei.Γ strings_Builder_copyCheck_vxne g xs κ)
  unfold strings_Builder_WriteByte_vxnei.Γ
  split
  · split
    · exact strings_Builder_copyCheck_vxne.does tab ht κ
    · exact DoesAt.none
  · exact DoesAt.none
theorem strings_Builder_WriteByte_vxnei.does {R : Type} (tab : Tab) (ht : TabOk tab) (a0 : Int) (κ : List SV → Option R) : DoesAt Tryz.prog (tabTy tyL) tab 110 [.vp 74 [.nos, .nil], .int .u8 a0] κ (strings_Builder_WriteByte_vxnei a0 (fun r0 => κ [.nili, .vp 74 [.nos, .fr 5 r0 true]])) := by
  intro r h w vs Rt Ra bs hpre
  exact runF_sound tyOk (strings_Builder_WriteByte_vxnei.Γ_does tab ht) (show Tryz.prog.funcs[110]? = some Tryz.f110 by kernel_rfl) (by kernel_rfl) ((strings_Builder_WriteByte_vxnei.run R κ a0).trans h) hpre
theorem strings_Builder_copyCheck_vxfe.does {R : Type} (tab : Tab) (ht : TabOk tab) (a0 : List AV) (κ : List SV → Option R) : DoesAt Tryz.prog (tabTy tyL) tab 99 [.vp 74 [.nos, .fr 5 a0 true]] κ (strings_Builder_copyCheck_vxfe a0 (fun r0 => κ [.tup [], .vp 74 [.nos, .fr 5 r0 true]])) :=
  copyCheck_does Tryz.call99 cc_used cc_fresh (.fr _ _) κ
def strings_Builder_WriteByte_vxfei.Γ {R : Type} (c1 : strings_Builder_copyCheck_vxfe.F R) (g : Nat) (xs : List SV) (κ : List SV → Option R) : Option R :=
  match g with
  | 99 => (match xs with
    | [.vp 74 [.nos, .fr 5 a0 true]] => c1 a0 (fun r0 => κ [.tup [], .vp 74 [.nos, .fr 5 r0 true]])
    | _ => none)
  | _ => none
def strings_Builder_WriteByte_vxfei.h (n : Nat) : Option (List (Nat × List (Nat × Nat))) :=
  match n with
  | _ => none
def strings_Builder_WriteByte_vxfei.C (R : Type) (c1 : strings_Builder_copyCheck_vxfe.F R) : Cfg R := ⟨tabTy tyL, strings_Builder_WriteByte_vxfei.Γ c1, fun _ => false, strings_Builder_WriteByte_vxfei.h⟩
theorem strings_Builder_WriteByte_vxfei.c (R : Type) (c1 : strings_Builder_copyCheck_vxfe.F R) (κ : List SV → Option R) (k : Nat) (a0 : List AV) (a1 : Int) :
    runF (strings_Builder_WriteByte_vxfei.C R c1) Tryz.f110 10000 k [.vp 74 [.nos, .fr 5 a0 true], .int .u8 a1] κ = strings_Builder_WriteByte_vxfei.e c1 a0 a1 (fun r0 => κ [.nili, .vp 74 [.nos, .fr 5 r0 true]]) := by kernel_rfl
theorem strings_Builder_WriteByte_vxfei.run (R : Type) (κ : List SV → Option R) (a0 : List AV) (a1 : Int) :
    runF (strings_Builder_WriteByte_vxfei.C R strings_Builder_copyCheck_vxfe) Tryz.f110 10000 fuelK [.vp 74 [.nos, .fr 5 a0 true], .int .u8 a1] κ = strings_Builder_WriteByte_vxfei a0 a1 (fun r0 => κ [.nili, .vp 74 [.nos, .fr 5 r0 true]]) := by
  rw [strings_Builder_WriteByte_vxfei.c]
  rfl
theorem strings_Builder_WriteByte_vxfei.Γ_does {R : Type} (tab : Tab) (ht : TabOk tab) (g : Nat) : Does (R := R) Tryz.prog (tabTy tyL) tab g ((strings_Builder_WriteByte_vxfei.C R strings_Builder_copyCheck_vxfe).call g) := by
  refine does_of fun xs κ => ?_
  show DoesAt _ _ _ g xs κ (strings_Builder_WriteByte_vxfei.Γ strings_Builder_copyCheck_vxfe g xs κ)
  unfold strings_Builder_WriteByte_vxfei.Γ
  split
  · split
    · exact strings_Builder_copyCheck_vxfe.does tab ht _ κ
    · exact DoesAt.none
  · exact DoesAt.none
theorem strings_Builder_WriteByte_vxfei.does {R : Type} (tab : Tab) (ht : TabOk tab) (a0 : List AV) (a1 : Int) (κ : List SV → Option R) : DoesAt Tryz.prog (tabTy tyL) tab 110 [.vp 74 [.nos, .fr 5 a0 true], .int .u8 a1] κ (strings_Builder_WriteByte_vxfei a0 a1 (fun r0 => κ [.nili, .vp 74 [.nos, .fr 5 r0 true]])) := by
  intro r h w vs Rt Ra bs hpre
  exact runF_sound tyOk (strings_Builder_WriteByte_vxfei.Γ_does tab ht) (show Tryz.prog.funcs[110]? = some Tryz.f110 by kernel_rfl) (by kernel_rfl) ((strings_Builder_WriteByte_vxfei.run R κ a0 a1).trans h) hpre
def strings_Builder_String_vxfe.Γ {R : Type} (g : Nat) (xs : List SV) (κ : List SV → Option R) : Option R :=
  match g with
  | _ => none
def strings_Builder_String_vxfe.h (n : Nat) : Option (List (Nat × List (Nat × Nat))) :=
  match n with
  | _ => none
def strings_Builder_String_vxfe.C (R : Type) : Cfg R := ⟨tabTy tyL, strings_Builder_String_vxfe.Γ, fun _ => false, strings_Builder_String_vxfe.h⟩
theorem strings_Builder_String_vxfe.c (R : Type) (κ : List SV → Option R) (k : Nat) (a0 : List AV) :
    runF (strings_Builder_String_vxfe.C R) Tryz.f49 10000 k [.vp 74 [.nos, .fr 5 a0 true]] κ = strings_Builder_String_vxfe.e a0 (fun r0 => κ [.str r0, .vp 74 [.nos, .no]]) := by kernel_rfl
theorem strings_Builder_String_vxfe.run (R : Type) (κ : List SV → Option R) (a0 : List AV) :
    runF (strings_Builder_String_vxfe.C R) Tryz.f49 10000 fuelK [.vp 74 [.nos, .fr 5 a0 true]] κ = strings_Builder_String_vxfe a0 (fun r0 => κ [.str r0, .vp 74 [.nos, .no]]) := by
  rw [strings_Builder_String_vxfe.c]
  rfl
theorem strings_Builder_String_vxfe.Γ_does {R : Type} (tab : Tab) (ht : TabOk tab) (g : Nat) : Does (R := R) Tryz.prog (tabTy tyL) tab g ((strings_Builder_String_vxfe.C R).call g) := by
  refine does_of fun xs κ => ?_
  show DoesAt _ _ _ g xs κ (strings_Builder_String_vxfe.Γ g xs κ)
  unfold strings_Builder_String_vxfe.Γ
  split
  · exact DoesAt.none
theorem strings_Builder_String_vxfe.does {R : Type} (tab : Tab) (ht : TabOk tab) (a0 : List AV) (κ : List SV → Option R) : DoesAt Tryz.prog (tabTy tyL) tab 49 [.vp 74 [.nos, .fr 5 a0 true]] κ (strings_Builder_String_vxfe a0 (fun r0 => κ [.str r0, .vp 74 [.nos, .no]])) := by
  intro r h w vs Rt Ra bs hpre
  exact runF_sound tyOk (strings_Builder_String_vxfe.Γ_does tab ht) (show Tryz.prog.funcs[49]? = some Tryz.f49 by kernel_rfl) (by kernel_rfl) ((strings_Builder_String_vxfe.run R κ a0).trans h) hpre
def letter_cursor_quotes_vsie.Γ {R : Type} (c1 : strings_Builder_WriteByte_vxfei.F R) (c2 : strings_Builder_String_vxfe.F R) (g : Nat) (xs : List SV) (κ : List SV → Option R) : Option R :=
  match g with
  | 49 => (match xs with
    | [.vp 74 [.nos, .fr 5 a0 true]] => c2 a0 (fun r0 => κ [.str r0, .vp 74 [.nos, .no]])
    | _ => none)
  | 110 => (match xs with
    | [.vp 74 [.nos, .fr 5 a0 true], .int .u8 a1] => c1 a0 a1 (fun r0 => κ [.nili, .vp 74 [.nos, .fr 5 r0 true]])
    | _ => none)
  | _ => none
def letter_cursor_quotes_vsie.h (n : Nat) : Option (List (Nat × List (Nat × Nat))) :=
  match n with
  | 3 => some [(0, [(0, 0)]), (3, [(1, 7)])]
  | _ => none
def letter_cursor_quotes_vsie.C (R : Type) (c1 : strings_Builder_WriteByte_vxfei.F R) (c2 : strings_Builder_String_vxfe.F R) : Cfg R := ⟨tabTy tyL, letter_cursor_quotes_vsie.Γ c1 c2, fun _ => false, letter_cursor_quotes_vsie.h⟩
def letter_cursor_quotes_vsie.s3 (x0 : ByteArray) (x1 : Int) (x2 : List AV) : St := ⟨mkS 92 [(0, .ptr 0 0), (3, .ptr 319 0)], [(0, .var 125 [.str x0, .int .i64 x1]), (319, .var 74 [.nos, .own 257]), (257, .row 5 x2 true)], top⟩
theorem letter_cursor_quotes_vsie.c3 (R : Type) (c1 : strings_Builder_WriteByte_vxfei.F R) (c2 : strings_Builder_String_vxfe.F R) (J : List Item → St → Option R) (κ : List SV → Option R) (x0 : ByteArray) (x1 : Int) (x2 : List AV) :
    start (letter_cursor_quotes_vsie.C R c1 c2) J (retK (letter_cursor_quotes_vsie.C R c1 c2) Tryz.f143.results.toList (List.range 1) κ) 10000 (placeOf Tryz.f143 3) (letter_cursor_quotes_vsie.s3 x0 x1 x2) = letter_cursor_quotes_vsie.t3 c1 c2 x0 x1 x2 (fun y0 y1 y2 => J (placeOf Tryz.f143 3) (letter_cursor_quotes_vsie.s3 y0 y1 y2)) (fun r0 r1 r2 => κ [.str r0, .vp 125 [.str r1, .int .i64 r2]]) := by kernel_rfl
theorem letter_cursor_quotes_vsie.c (R : Type) (c1 : strings_Builder_WriteByte_vxfei.F R) (c2 : strings_Builder_String_vxfe.F R) (κ : List SV → Option R) (k : Nat) (a0 : ByteArray) (a1 : Int) :
    runF (letter_cursor_quotes_vsie.C R c1 c2) Tryz.f143 10000 k [.vp 125 [.str a0, .int .i64 a1]] κ = letter_cursor_quotes_vsie.e c1 c2 a0 a1 (fun y0 y1 y2 => goto (letter_cursor_quotes_vsie.C R c1 c2) (retK (letter_cursor_quotes_vsie.C R c1 c2) Tryz.f143.results.toList (List.range 1) κ) 10000 k (placeOf Tryz.f143 3) (letter_cursor_quotes_vsie.s3 y0 y1 y2)) (fun r0 r1 r2 => κ [.str r0, .vp 125 [.str r1, .int .i64 r2]]) := by kernel_rfl
theorem letter_cursor_quotes_vsie.g3 (R : Type) (c1 : strings_Builder_WriteByte_vxfei.F R) (c2 : strings_Builder_String_vxfe.F R) (κ : List SV → Option R) : ∀ (f : Nat) (x0 : ByteArray) (x1 : Int) (x2 : List AV), goto (letter_cursor_quotes_vsie.C R c1 c2) (retK (letter_cursor_quotes_vsie.C R c1 c2) Tryz.f143.results.toList (List.range 1) κ) 10000 f (placeOf Tryz.f143 3) (letter_cursor_quotes_vsie.s3 x0 x1 x2) = letter_cursor_quotes_vsie.L3 c1 c2 (fun r0 r1 r2 => κ [.str r0, .vp 125 [.str r1, .int .i64 r2]]) f x0 x1 x2
  | 0, _, _, _ => rfl
  | f + 1, x0, x1, x2 => by
    show start (letter_cursor_quotes_vsie.C R c1 c2) (goto (letter_cursor_quotes_vsie.C R c1 c2) (retK (letter_cursor_quotes_vsie.C R c1 c2) Tryz.f143.results.toList (List.range 1) κ) 10000 f) (retK (letter_cursor_quotes_vsie.C R c1 c2) Tryz.f143.results.toList (List.range 1) κ) 10000 (placeOf Tryz.f143 3) (letter_cursor_quotes_vsie.s3 x0 x1 x2) = _
    rw [letter_cursor_quotes_vsie.c3]
    simp only [letter_cursor_quotes_vsie.g3 R c1 c2 κ f]
    rfl
theorem letter_cursor_quotes_vsie.run (R : Type) (κ : List SV → Option R) (a0 : ByteArray) (a1 : Int) :
    runF (letter_cursor_quotes_vsie.C R strings_Builder_WriteByte_vxfei strings_Builder_String_vxfe) Tryz.f143 10000 fuelK [.vp 125 [.str a0, .int .i64 a1]] κ = letter_cursor_quotes_vsie a0 a1 (fun r0 r1 r2 => κ [.str r0, .vp 125 [.str r1, .int .i64 r2]]) := by
  rw [letter_cursor_quotes_vsie.c]
  simp only [letter_cursor_quotes_vsie.g3 R strings_Builder_WriteByte_vxfei strings_Builder_String_vxfe κ fuelK]
  rfl
theorem letter_cursor_quotes_vsie.Γ_does {R : Type} (tab : Tab) (ht : TabOk tab) (g : Nat) : Does (R := R) Tryz.prog (tabTy tyL) tab g ((letter_cursor_quotes_vsie.C R strings_Builder_WriteByte_vxfei strings_Builder_String_vxfe).call g) := by
  refine does_of fun xs κ => ?_
  show DoesAt _ _ _ g xs κ (letter_cursor_quotes_vsie.Γ strings_Builder_WriteByte_vxfei strings_Builder_String_vxfe g xs κ)
  unfold letter_cursor_quotes_vsie.Γ
  split
  · split
    · exact strings_Builder_String_vxfe.does tab ht _ κ
    · exact DoesAt.none
  · split
    · exact strings_Builder_WriteByte_vxfei.does tab ht _ _ κ
    · exact DoesAt.none
  · exact DoesAt.none
theorem letter_cursor_quotes_vsie.does {R : Type} (tab : Tab) (ht : TabOk tab) (a0 : ByteArray) (a1 : Int) (κ : List SV → Option R) : DoesAt Tryz.prog (tabTy tyL) tab 143 [.vp 125 [.str a0, .int .i64 a1]] κ (letter_cursor_quotes_vsie a0 a1 (fun r0 r1 r2 => κ [.str r0, .vp 125 [.str r1, .int .i64 r2]])) := by
  intro r h w vs Rt Ra bs hpre
  exact runF_sound tyOk (letter_cursor_quotes_vsie.Γ_does tab ht) (show Tryz.prog.funcs[143]? = some Tryz.f143 by kernel_rfl) (by kernel_rfl) ((letter_cursor_quotes_vsie.run R κ a0 a1).trans h) hpre
def letter_cursor_host_vsie.Γ {R : Type} (g : Nat) (xs : List SV) (κ : List SV → Option R) : Option R :=
  match g with
  | _ => none
def letter_cursor_host_vsie.h (n : Nat) : Option (List (Nat × List (Nat × Nat))) :=
  match n with
  | 2 => some [(0, [(0, 0)]), (3, [(0, 0)])]
  | _ => none
def letter_cursor_host_vsie.C (R : Type) : Cfg R := ⟨tabTy tyL, letter_cursor_host_vsie.Γ, fun _ => false, letter_cursor_host_vsie.h⟩
def letter_cursor_host_vsie.s2 (x0 : Int) (x1 : ByteArray) (x2 : Int) : St := ⟨mkS 78 [(0, .ptr 0 0), (3, .int .i64 x0)], [(0, .var 125 [.str x1, .int .i64 x2])], top⟩
theorem letter_cursor_host_vsie.c2 (R : Type) (J : List Item → St → Option R) (κ : List SV → Option R) (x0 : Int) (x1 : ByteArray) (x2 : Int) :
    start (letter_cursor_host_vsie.C R) J (retK (letter_cursor_host_vsie.C R) Tryz.f144.results.toList (List.range 1) κ) 10000 (placeOf Tryz.f144 2) (letter_cursor_host_vsie.s2 x0 x1 x2) = letter_cursor_host_vsie.t2 x0 x1 x2 (fun y0 y1 y2 => J (placeOf Tryz.f144 2) (letter_cursor_host_vsie.s2 y0 y1 y2)) (fun r0 r1 r2 => κ [.str r0, .vp 125 [.str r1, .int .i64 r2]]) := by kernel_rfl
theorem letter_cursor_host_vsie.c (R : Type) (κ : List SV → Option R) (k : Nat) (a0 : ByteArray) (a1 : Int) :
    runF (letter_cursor_host_vsie.C R) Tryz.f144 10000 k [.vp 125 [.str a0, .int .i64 a1]] κ = letter_cursor_host_vsie.e a0 a1 (fun y0 y1 y2 => goto (letter_cursor_host_vsie.C R) (retK (letter_cursor_host_vsie.C R) Tryz.f144.results.toList (List.range 1) κ) 10000 k (placeOf Tryz.f144 2) (letter_cursor_host_vsie.s2 y0 y1 y2)) (fun r0 r1 r2 => κ [.str r0, .vp 125 [.str r1, .int .i64 r2]]) := by kernel_rfl
theorem letter_cursor_host_vsie.g2 (R : Type) (κ : List SV → Option R) : ∀ (f : Nat) (x0 : Int) (x1 : ByteArray) (x2 : Int), goto (letter_cursor_host_vsie.C R) (retK (letter_cursor_host_vsie.C R) Tryz.f144.results.toList (List.range 1) κ) 10000 f (placeOf Tryz.f144 2) (letter_cursor_host_vsie.s2 x0 x1 x2) = letter_cursor_host_vsie.L2 (fun r0 r1 r2 => κ [.str r0, .vp 125 [.str r1, .int .i64 r2]]) f x0 x1 x2
  | 0, _, _, _ => rfl
  | f + 1, x0, x1, x2 => by
    show start (letter_cursor_host_vsie.C R) (goto (letter_cursor_host_vsie.C R) (retK (letter_cursor_host_vsie.C R) Tryz.f144.results.toList (List.range 1) κ) 10000 f) (retK (letter_cursor_host_vsie.C R) Tryz.f144.results.toList (List.range 1) κ) 10000 (placeOf Tryz.f144 2) (letter_cursor_host_vsie.s2 x0 x1 x2) = _
    rw [letter_cursor_host_vsie.c2]
    simp only [letter_cursor_host_vsie.g2 R κ f]
    rfl
theorem letter_cursor_host_vsie.run (R : Type) (κ : List SV → Option R) (a0 : ByteArray) (a1 : Int) :
    runF (letter_cursor_host_vsie.C R) Tryz.f144 10000 fuelK [.vp 125 [.str a0, .int .i64 a1]] κ = letter_cursor_host_vsie a0 a1 (fun r0 r1 r2 => κ [.str r0, .vp 125 [.str r1, .int .i64 r2]]) := by
  rw [letter_cursor_host_vsie.c]
  simp only [letter_cursor_host_vsie.g2 R κ fuelK]
  rfl
theorem letter_cursor_host_vsie.Γ_does {R : Type} (tab : Tab) (ht : TabOk tab) (g : Nat) : Does (R := R) Tryz.prog (tabTy tyL) tab g ((letter_cursor_host_vsie.C R).call g) := by
  refine does_of fun xs κ => ?_
  show DoesAt _ _ _ g xs κ (letter_cursor_host_vsie.Γ g xs κ)
  unfold letter_cursor_host_vsie.Γ
  split
  · exact DoesAt.none
theorem letter_cursor_host_vsie.does {R : Type} (tab : Tab) (ht : TabOk tab) (a0 : ByteArray) (a1 : Int) (κ : List SV → Option R) : DoesAt Tryz.prog (tabTy tyL) tab 144 [.vp 125 [.str a0, .int .i64 a1]] κ (letter_cursor_host_vsie a0 a1 (fun r0 r1 r2 => κ [.str r0, .vp 125 [.str r1, .int .i64 r2]])) := by
  intro r h w vs Rt Ra bs hpre
  exact runF_sound tyOk (letter_cursor_host_vsie.Γ_does tab ht) (show Tryz.prog.funcs[144]? = some Tryz.f144 by kernel_rfl) (by kernel_rfl) ((letter_cursor_host_vsie.run R κ a0 a1).trans h) hpre
theorem bytealg_IndexByteString_0.does {R : Type} (tab : Tab) (ht : TabOk tab) (a0 : ByteArray) (a1 : Int) (κ : List SV → Option R) : DoesAt Tryz.prog (tabTy tyL) tab 131 [.str a0, .int .u8 a1] κ (bytealg_IndexByteString_0 a0 a1 (fun r0 => κ [.int .i64 r0])) :=
  indexByteString_does (show Tryz.prog.funcs[131]? = some Tryz.f131 by kernel_rfl) (by kernel_rfl) (by kernel_rfl) (by kernel_rfl) (by kernel_rfl) a0 a1 κ
def stringslite_IndexByte_0.Γ {R : Type} (c1 : bytealg_IndexByteString_0.F R) (g : Nat) (xs : List SV) (κ : List SV → Option R) : Option R :=
  match g with
  | 131 => (match xs with
    | [.str a0, .int .u8 a1] => c1 a0 a1 (fun r0 => κ [.int .i64 r0])
    | _ => none)
  | _ => none
def stringslite_IndexByte_0.h (n : Nat) : Option (List (Nat × List (Nat × Nat))) :=
  match n with
  | _ => none
def stringslite_IndexByte_0.C (R : Type) (c1 : bytealg_IndexByteString_0.F R) : Cfg R := ⟨tabTy tyL, stringslite_IndexByte_0.Γ c1, fun _ => false, stringslite_IndexByte_0.h⟩
theorem stringslite_IndexByte_0.c (R : Type) (c1 : bytealg_IndexByteString_0.F R) (κ : List SV → Option R) (k : Nat) (a0 : ByteArray) (a1 : Int) :
    runF (stringslite_IndexByte_0.C R c1) Tryz.f88 10000 k [.str a0, .int .u8 a1] κ = stringslite_IndexByte_0.e c1 a0 a1 (fun r0 => κ [.int .i64 r0]) := by kernel_rfl
theorem stringslite_IndexByte_0.run (R : Type) (κ : List SV → Option R) (a0 : ByteArray) (a1 : Int) :
    runF (stringslite_IndexByte_0.C R bytealg_IndexByteString_0) Tryz.f88 10000 fuelK [.str a0, .int .u8 a1] κ = stringslite_IndexByte_0 a0 a1 (fun r0 => κ [.int .i64 r0]) := by
  rw [stringslite_IndexByte_0.c]
  rfl
theorem stringslite_IndexByte_0.Γ_does {R : Type} (tab : Tab) (ht : TabOk tab) (g : Nat) : Does (R := R) Tryz.prog (tabTy tyL) tab g ((stringslite_IndexByte_0.C R bytealg_IndexByteString_0).call g) := by
  refine does_of fun xs κ => ?_
  show DoesAt _ _ _ g xs κ (stringslite_IndexByte_0.Γ bytealg_IndexByteString_0 g xs κ)
  unfold stringslite_IndexByte_0.Γ
  split
  · split
    · exact bytealg_IndexByteString_0.does tab ht _ _ κ
    · exact DoesAt.none
  · exact DoesAt.none
theorem stringslite_IndexByte_0.does {R : Type} (tab : Tab) (ht : TabOk tab) (a0 : ByteArray) (a1 : Int) (κ : List SV → Option R) : DoesAt Tryz.prog (tabTy tyL) tab 88 [.str a0, .int .u8 a1] κ (stringslite_IndexByte_0 a0 a1 (fun r0 => κ [.int .i64 r0])) := by
  intro r h w vs Rt Ra bs hpre
  exact runF_sound tyOk (stringslite_IndexByte_0.Γ_does tab ht) (show Tryz.prog.funcs[88]? = some Tryz.f88 by kernel_rfl) (by kernel_rfl) ((stringslite_IndexByte_0.run R κ a0 a1).trans h) hpre
def strings_IndexByte_0.Γ {R : Type} (c1 : stringslite_IndexByte_0.F R) (g : Nat) (xs : List SV) (κ : List SV → Option R) : Option R :=
  match g with
  | 88 => (match xs with
    | [.str a0, .int .u8 a1] => c1 a0 a1 (fun r0 => κ [.int .i64 r0])
    | _ => none)
  | _ => none
def strings_IndexByte_0.h (n : Nat) : Option (List (Nat × List (Nat × Nat))) :=
  match n with
  | _ => none
def strings_IndexByte_0.C (R : Type) (c1 : stringslite_IndexByte_0.F R) : Cfg R := ⟨tabTy tyL, strings_IndexByte_0.Γ c1, fun _ => false, strings_IndexByte_0.h⟩
theorem strings_IndexByte_0.c (R : Type) (c1 : stringslite_IndexByte_0.F R) (κ : List SV → Option R) (k : Nat) (a0 : ByteArray) (a1 : Int) :
    runF (strings_IndexByte_0.C R c1) Tryz.f40 10000 k [.str a0, .int .u8 a1] κ = strings_IndexByte_0.e c1 a0 a1 (fun r0 => κ [.int .i64 r0]) := by kernel_rfl
theorem strings_IndexByte_0.run (R : Type) (κ : List SV → Option R) (a0 : ByteArray) (a1 : Int) :
    runF (strings_IndexByte_0.C R stringslite_IndexByte_0) Tryz.f40 10000 fuelK [.str a0, .int .u8 a1] κ = strings_IndexByte_0 a0 a1 (fun r0 => κ [.int .i64 r0]) := by
  rw [strings_IndexByte_0.c]
  rfl
theorem strings_IndexByte_0.Γ_does {R : Type} (tab : Tab) (ht : TabOk tab) (g : Nat) : Does (R := R) Tryz.prog (tabTy tyL) tab g ((strings_IndexByte_0.C R stringslite_IndexByte_0).call g) := by
  refine does_of fun xs κ => ?_
  show DoesAt _ _ _ g xs κ (strings_IndexByte_0.Γ stringslite_IndexByte_0 g xs κ)
  unfold strings_IndexByte_0.Γ
  split
  · split
    · exact stringslite_IndexByte_0.does tab ht _ _ κ
    · exact DoesAt.none
  · exact DoesAt.none
theorem strings_IndexByte_0.does {R : Type} (tab : Tab) (ht : TabOk tab) (a0 : ByteArray) (a1 : Int) (κ : List SV → Option R) : DoesAt Tryz.prog (tabTy tyL) tab 40 [.str a0, .int .u8 a1] κ (strings_IndexByte_0 a0 a1 (fun r0 => κ [.int .i64 r0])) := by
  intro r h w vs Rt Ra bs hpre
  exact runF_sound tyOk (strings_IndexByte_0.Γ_does tab ht) (show Tryz.prog.funcs[40]? = some Tryz.f40 by kernel_rfl) (by kernel_rfl) ((strings_IndexByte_0.run R κ a0 a1).trans h) hpre
def letter_isSign_0.Γ {R : Type} (c1 : strings_IndexByte_0.F R) (g : Nat) (xs : List SV) (κ : List SV → Option R) : Option R :=
  match g with
  | 40 => (match xs with
    | [.str a0, .int .u8 a1] => c1 a0 a1 (fun r0 => κ [.int .i64 r0])
    | _ => none)
  | _ => none
def letter_isSign_0.h (n : Nat) : Option (List (Nat × List (Nat × Nat))) :=
  match n with
  | _ => none
def letter_isSign_0.C (R : Type) (c1 : strings_IndexByte_0.F R) : Cfg R := ⟨tabTy tyL, letter_isSign_0.Γ c1, fun _ => false, letter_isSign_0.h⟩
theorem letter_isSign_0.c (R : Type) (c1 : strings_IndexByte_0.F R) (κ : List SV → Option R) (k : Nat) (a0 : Int) :
    runF (letter_isSign_0.C R c1) Tryz.f145 10000 k [.int .u8 a0] κ = letter_isSign_0.e c1 a0 (fun r0 => κ [.bool r0]) := by kernel_rfl
theorem letter_isSign_0.run (R : Type) (κ : List SV → Option R) (a0 : Int) :
    runF (letter_isSign_0.C R strings_IndexByte_0) Tryz.f145 10000 fuelK [.int .u8 a0] κ = letter_isSign_0 a0 (fun r0 => κ [.bool r0]) := by
  rw [letter_isSign_0.c]
  rfl
theorem letter_isSign_0.Γ_does {R : Type} (tab : Tab) (ht : TabOk tab) (g : Nat) : Does (R := R) Tryz.prog (tabTy tyL) tab g ((letter_isSign_0.C R strings_IndexByte_0).call g) := by
  refine does_of fun xs κ => ?_
  show DoesAt _ _ _ g xs κ (letter_isSign_0.Γ strings_IndexByte_0 g xs κ)
  unfold letter_isSign_0.Γ
  split
  · split
    · exact strings_IndexByte_0.does tab ht _ _ κ
    · exact DoesAt.none
  · exact DoesAt.none
theorem letter_isSign_0.does {R : Type} (tab : Tab) (ht : TabOk tab) (a0 : Int) (κ : List SV → Option R) : DoesAt Tryz.prog (tabTy tyL) tab 145 [.int .u8 a0] κ (letter_isSign_0 a0 (fun r0 => κ [.bool r0])) := by
  intro r h w vs Rt Ra bs hpre
  exact runF_sound tyOk (letter_isSign_0.Γ_does tab ht) (show Tryz.prog.funcs[145]? = some Tryz.f145 by kernel_rfl) (by kernel_rfl) ((letter_isSign_0.run R κ a0).trans h) hpre
def letter_isSpace_0.Γ {R : Type} (g : Nat) (xs : List SV) (κ : List SV → Option R) : Option R :=
  match g with
  | _ => none
def letter_isSpace_0.h (n : Nat) : Option (List (Nat × List (Nat × Nat))) :=
  match n with
  | _ => none
def letter_isSpace_0.C (R : Type) : Cfg R := ⟨tabTy tyL, letter_isSpace_0.Γ, fun _ => false, letter_isSpace_0.h⟩
theorem letter_isSpace_0.c (R : Type) (κ : List SV → Option R) (k : Nat) (a0 : Int) :
    runF (letter_isSpace_0.C R) Tryz.f116 10000 k [.int .u8 a0] κ = letter_isSpace_0.e a0 (fun r0 => κ [.bool r0]) := by kernel_rfl
theorem letter_isSpace_0.run (R : Type) (κ : List SV → Option R) (a0 : Int) :
    runF (letter_isSpace_0.C R) Tryz.f116 10000 fuelK [.int .u8 a0] κ = letter_isSpace_0 a0 (fun r0 => κ [.bool r0]) := by
  rw [letter_isSpace_0.c]
  rfl
theorem letter_isSpace_0.Γ_does {R : Type} (tab : Tab) (ht : TabOk tab) (g : Nat) : Does (R := R) Tryz.prog (tabTy tyL) tab g ((letter_isSpace_0.C R).call g) := by
  refine does_of fun xs κ => ?_
  show DoesAt _ _ _ g xs κ (letter_isSpace_0.Γ g xs κ)
  unfold letter_isSpace_0.Γ
  split
  · exact DoesAt.none
theorem letter_isSpace_0.does {R : Type} (tab : Tab) (ht : TabOk tab) (a0 : Int) (κ : List SV → Option R) : DoesAt Tryz.prog (tabTy tyL) tab 116 [.int .u8 a0] κ (letter_isSpace_0 a0 (fun r0 => κ [.bool r0])) := by
  intro r h w vs Rt Ra bs hpre
  exact runF_sound tyOk (letter_isSpace_0.Γ_does tab ht) (show Tryz.prog.funcs[116]? = some Tryz.f116 by kernel_rfl) (by kernel_rfl) ((letter_isSpace_0.run R κ a0).trans h) hpre
def letter_isAtom_0.Γ {R : Type} (c1 : letter_isSpace_0.F R) (c2 : letter_isSign_0.F R) (c3 : strings_IndexByte_0.F R) (g : Nat) (xs : List SV) (κ : List SV → Option R) : Option R :=
  match g with
  | 40 => (match xs with
    | [.str a0, .int .u8 a1] => c3 a0 a1 (fun r0 => κ [.int .i64 r0])
    | _ => none)
  | 116 => (match xs with
    | [.int .u8 a0] => c1 a0 (fun r0 => κ [.bool r0])
    | _ => none)
  | 145 => (match xs with
    | [.int .u8 a0] => c2 a0 (fun r0 => κ [.bool r0])
    | _ => none)
  | _ => none
def letter_isAtom_0.h (n : Nat) : Option (List (Nat × List (Nat × Nat))) :=
  match n with
  | _ => none
def letter_isAtom_0.C (R : Type) (c1 : letter_isSpace_0.F R) (c2 : letter_isSign_0.F R) (c3 : strings_IndexByte_0.F R) : Cfg R := ⟨tabTy tyL, letter_isAtom_0.Γ c1 c2 c3, fun _ => false, letter_isAtom_0.h⟩
theorem letter_isAtom_0.c (R : Type) (c1 : letter_isSpace_0.F R) (c2 : letter_isSign_0.F R) (c3 : strings_IndexByte_0.F R) (κ : List SV → Option R) (k : Nat) (a0 : Int) :
    runF (letter_isAtom_0.C R c1 c2 c3) Tryz.f146 10000 k [.int .u8 a0] κ = letter_isAtom_0.e c1 c2 c3 a0 (fun r0 => κ [.bool r0]) := by kernel_rfl
theorem letter_isAtom_0.run (R : Type) (κ : List SV → Option R) (a0 : Int) :
    runF (letter_isAtom_0.C R letter_isSpace_0 letter_isSign_0 strings_IndexByte_0) Tryz.f146 10000 fuelK [.int .u8 a0] κ = letter_isAtom_0 a0 (fun r0 => κ [.bool r0]) := by
  rw [letter_isAtom_0.c]
  rfl
theorem letter_isAtom_0.Γ_does {R : Type} (tab : Tab) (ht : TabOk tab) (g : Nat) : Does (R := R) Tryz.prog (tabTy tyL) tab g ((letter_isAtom_0.C R letter_isSpace_0 letter_isSign_0 strings_IndexByte_0).call g) := by
  refine does_of fun xs κ => ?_
  show DoesAt _ _ _ g xs κ (letter_isAtom_0.Γ letter_isSpace_0 letter_isSign_0 strings_IndexByte_0 g xs κ)
  unfold letter_isAtom_0.Γ
  split
  · split
    · exact strings_IndexByte_0.does tab ht _ _ κ
    · exact DoesAt.none
  · split
    · exact letter_isSpace_0.does tab ht _ κ
    · exact DoesAt.none
  · split
    · exact letter_isSign_0.does tab ht _ κ
    · exact DoesAt.none
  · exact DoesAt.none
theorem letter_isAtom_0.does {R : Type} (tab : Tab) (ht : TabOk tab) (a0 : Int) (κ : List SV → Option R) : DoesAt Tryz.prog (tabTy tyL) tab 146 [.int .u8 a0] κ (letter_isAtom_0 a0 (fun r0 => κ [.bool r0])) := by
  intro r h w vs Rt Ra bs hpre
  exact runF_sound tyOk (letter_isAtom_0.Γ_does tab ht) (show Tryz.prog.funcs[146]? = some Tryz.f146 by kernel_rfl) (by kernel_rfl) ((letter_isAtom_0.run R κ a0).trans h) hpre
def letter_cursor_next_vsie.Γ {R : Type} (c1 : letter_cursor_comment_vsie.F R) (c2 : letter_cursor_quotes_vsie.F R) (c3 : letter_cursor_host_vsie.F R) (c4 : letter_isSign_0.F R) (c5 : letter_isAtom_0.F R) (g : Nat) (xs : List SV) (κ : List SV → Option R) : Option R :=
  match g with
  | 142 => (match xs with
    | [.vp 125 [.str a0, .int .i64 a1]] => c1 a0 a1 (fun r0 r1 => κ [.tup [], .vp 125 [.str r0, .int .i64 r1]])
    | _ => none)
  | 143 => (match xs with
    | [.vp 125 [.str a0, .int .i64 a1]] => c2 a0 a1 (fun r0 r1 r2 => κ [.str r0, .vp 125 [.str r1, .int .i64 r2]])
    | _ => none)
  | 144 => (match xs with
    | [.vp 125 [.str a0, .int .i64 a1]] => c3 a0 a1 (fun r0 r1 r2 => κ [.str r0, .vp 125 [.str r1, .int .i64 r2]])
    | _ => none)
  | 145 => (match xs with
    | [.int .u8 a0] => c4 a0 (fun r0 => κ [.bool r0])
    | _ => none)
  | 146 => (match xs with
    | [.int .u8 a0] => c5 a0 (fun r0 => κ [.bool r0])
    | _ => none)
  | _ => none
def letter_cursor_next_vsie.h (n : Nat) : Option (List (Nat × List (Nat × Nat))) :=
  match n with
  | 16 => some [(0, [(0, 0)]), (2, [(0, 0)]), (4, [(0, 0)])]
  | _ => none
def letter_cursor_next_vsie.C (R : Type) (c1 : letter_cursor_comment_vsie.F R) (c2 : letter_cursor_quotes_vsie.F R) (c3 : letter_cursor_host_vsie.F R) (c4 : letter_isSign_0.F R) (c5 : letter_isAtom_0.F R) : Cfg R := ⟨tabTy tyL, letter_cursor_next_vsie.Γ c1 c2 c3 c4 c5, fun _ => false, letter_cursor_next_vsie.h⟩
def letter_cursor_next_vsie.s16 (x0 : Int) (x1 : ByteArray) (x2 : Int) (x3 : Int) (x4 : ByteArray) : St := ⟨mkS 101 [(0, .ptr 0 0), (2, .ptr 255 0), (4, .int .i64 x0)], [(0, .var 125 [.str x1, .int .i64 x2]), (255, .var 89 [.int .i64 x3, .str x4])], top⟩
theorem letter_cursor_next_vsie.c16 (R : Type) (c1 : letter_cursor_comment_vsie.F R) (c2 : letter_cursor_quotes_vsie.F R) (c3 : letter_cursor_host_vsie.F R) (c4 : letter_isSign_0.F R) (c5 : letter_isAtom_0.F R) (J : List Item → St → Option R) (κ : List SV → Option R) (x0 : Int) (x1 : ByteArray) (x2 : Int) (x3 : Int) (x4 : ByteArray) :
    start (letter_cursor_next_vsie.C R c1 c2 c3 c4 c5) J (retK (letter_cursor_next_vsie.C R c1 c2 c3 c4 c5) Tryz.f109.results.toList (List.range 1) κ) 10000 (placeOf Tryz.f109 16) (letter_cursor_next_vsie.s16 x0 x1 x2 x3 x4) = letter_cursor_next_vsie.t16 c1 c2 c3 c4 c5 x0 x1 x2 x3 x4 (fun y0 y1 y2 y3 y4 => J (placeOf Tryz.f109 16) (letter_cursor_next_vsie.s16 y0 y1 y2 y3 y4)) (fun r0 r1 r2 r3 => κ [.agg [.int .i64 r0, .str r1], .vp 125 [.str r2, .int .i64 r3]]) := by kernel_rfl
theorem letter_cursor_next_vsie.c (R : Type) (c1 : letter_cursor_comment_vsie.F R) (c2 : letter_cursor_quotes_vsie.F R) (c3 : letter_cursor_host_vsie.F R) (c4 : letter_isSign_0.F R) (c5 : letter_isAtom_0.F R) (κ : List SV → Option R) (k : Nat) (a0 : ByteArray) (a1 : Int) :
    runF (letter_cursor_next_vsie.C R c1 c2 c3 c4 c5) Tryz.f109 10000 k [.vp 125 [.str a0, .int .i64 a1]] κ = letter_cursor_next_vsie.e c1 c2 c3 c4 c5 a0 a1 (fun y0 y1 y2 y3 y4 => goto (letter_cursor_next_vsie.C R c1 c2 c3 c4 c5) (retK (letter_cursor_next_vsie.C R c1 c2 c3 c4 c5) Tryz.f109.results.toList (List.range 1) κ) 10000 k (placeOf Tryz.f109 16) (letter_cursor_next_vsie.s16 y0 y1 y2 y3 y4)) (fun r0 r1 r2 r3 => κ [.agg [.int .i64 r0, .str r1], .vp 125 [.str r2, .int .i64 r3]]) := by kernel_rfl
theorem letter_cursor_next_vsie.g16 (R : Type) (c1 : letter_cursor_comment_vsie.F R) (c2 : letter_cursor_quotes_vsie.F R) (c3 : letter_cursor_host_vsie.F R) (c4 : letter_isSign_0.F R) (c5 : letter_isAtom_0.F R) (κ : List SV → Option R) : ∀ (f : Nat) (x0 : Int) (x1 : ByteArray) (x2 : Int) (x3 : Int) (x4 : ByteArray), goto (letter_cursor_next_vsie.C R c1 c2 c3 c4 c5) (retK (letter_cursor_next_vsie.C R c1 c2 c3 c4 c5) Tryz.f109.results.toList (List.range 1) κ) 10000 f (placeOf Tryz.f109 16) (letter_cursor_next_vsie.s16 x0 x1 x2 x3 x4) = letter_cursor_next_vsie.L16 c1 c2 c3 c4 c5 (fun r0 r1 r2 r3 => κ [.agg [.int .i64 r0, .str r1], .vp 125 [.str r2, .int .i64 r3]]) f x0 x1 x2 x3 x4
  | 0, _, _, _, _, _ => rfl
  | f + 1, x0, x1, x2, x3, x4 => by
    show start (letter_cursor_next_vsie.C R c1 c2 c3 c4 c5) (goto (letter_cursor_next_vsie.C R c1 c2 c3 c4 c5) (retK (letter_cursor_next_vsie.C R c1 c2 c3 c4 c5) Tryz.f109.results.toList (List.range 1) κ) 10000 f) (retK (letter_cursor_next_vsie.C R c1 c2 c3 c4 c5) Tryz.f109.results.toList (List.range 1) κ) 10000 (placeOf Tryz.f109 16) (letter_cursor_next_vsie.s16 x0 x1 x2 x3 x4) = _
    rw [letter_cursor_next_vsie.c16]
    simp only [letter_cursor_next_vsie.g16 R c1 c2 c3 c4 c5 κ f]
    rfl
theorem letter_cursor_next_vsie.run (R : Type) (κ : List SV → Option R) (a0 : ByteArray) (a1 : Int) :
    runF (letter_cursor_next_vsie.C R letter_cursor_comment_vsie letter_cursor_quotes_vsie letter_cursor_host_vsie letter_isSign_0 letter_isAtom_0) Tryz.f109 10000 fuelK [.vp 125 [.str a0, .int .i64 a1]] κ = letter_cursor_next_vsie a0 a1 (fun r0 r1 r2 r3 => κ [.agg [.int .i64 r0, .str r1], .vp 125 [.str r2, .int .i64 r3]]) := by
  rw [letter_cursor_next_vsie.c]
  simp only [letter_cursor_next_vsie.g16 R letter_cursor_comment_vsie letter_cursor_quotes_vsie letter_cursor_host_vsie letter_isSign_0 letter_isAtom_0 κ fuelK]
  rfl
theorem letter_cursor_next_vsie.Γ_does {R : Type} (tab : Tab) (ht : TabOk tab) (g : Nat) : Does (R := R) Tryz.prog (tabTy tyL) tab g ((letter_cursor_next_vsie.C R letter_cursor_comment_vsie letter_cursor_quotes_vsie letter_cursor_host_vsie letter_isSign_0 letter_isAtom_0).call g) := by
  refine does_of fun xs κ => ?_
  show DoesAt _ _ _ g xs κ (letter_cursor_next_vsie.Γ letter_cursor_comment_vsie letter_cursor_quotes_vsie letter_cursor_host_vsie letter_isSign_0 letter_isAtom_0 g xs κ)
  unfold letter_cursor_next_vsie.Γ
  split
  · split
    · exact letter_cursor_comment_vsie.does tab ht _ _ κ
    · exact DoesAt.none
  · split
    · exact letter_cursor_quotes_vsie.does tab ht _ _ κ
    · exact DoesAt.none
  · split
    · exact letter_cursor_host_vsie.does tab ht _ _ κ
    · exact DoesAt.none
  · split
    · exact letter_isSign_0.does tab ht _ κ
    · exact DoesAt.none
  · split
    · exact letter_isAtom_0.does tab ht _ κ
    · exact DoesAt.none
  · exact DoesAt.none
theorem letter_cursor_next_vsie.does {R : Type} (tab : Tab) (ht : TabOk tab) (a0 : ByteArray) (a1 : Int) (κ : List SV → Option R) : DoesAt Tryz.prog (tabTy tyL) tab 109 [.vp 125 [.str a0, .int .i64 a1]] κ (letter_cursor_next_vsie a0 a1 (fun r0 r1 r2 r3 => κ [.agg [.int .i64 r0, .str r1], .vp 125 [.str r2, .int .i64 r3]])) := by
  intro r h w vs Rt Ra bs hpre
  exact runF_sound tyOk (letter_cursor_next_vsie.Γ_does tab ht) (show Tryz.prog.funcs[109]? = some Tryz.f109 by kernel_rfl) (by kernel_rfl) ((letter_cursor_next_vsie.run R κ a0 a1).trans h) hpre
def letter_pieces_0.Γ {R : Type} (c1 : letter_cursor_next_vsie.F R) (g : Nat) (xs : List SV) (κ : List SV → Option R) : Option R :=
  match g with
  | 109 => (match xs with
    | [.vp 125 [.str a0, .int .i64 a1]] => c1 a0 a1 (fun r0 r1 r2 r3 => κ [.agg [.int .i64 r0, .str r1], .vp 125 [.str r2, .int .i64 r3]])
    | _ => none)
  | _ => none
def letter_pieces_0.h (n : Nat) : Option (List (Nat × List (Nat × Nat))) :=
  match n with
  | 3 => some [(3, [(0, 0)]), (4, [(0, 91)])]
  | _ => none
def letter_pieces_0.C (R : Type) (c1 : letter_cursor_next_vsie.F R) : Cfg R := ⟨tabTy tyL, letter_pieces_0.Γ c1, fun _ => false, letter_pieces_0.h⟩
def letter_pieces_0.s3 (x0 : ByteArray) (x1 : Int) (x2 : List AV) : St := ⟨mkS 24 [(3, .ptr 319 0), (4, .own 320)], [(319, .var 125 [.str x0, .int .i64 x1]), (320, .row 89 x2 true)], top⟩
theorem letter_pieces_0.c3 (R : Type) (c1 : letter_cursor_next_vsie.F R) (J : List Item → St → Option R) (κ : List SV → Option R) (x0 : ByteArray) (x1 : Int) (x2 : List AV) :
    start (letter_pieces_0.C R c1) J (retK (letter_pieces_0.C R c1) Tryz.f56.results.toList (List.range 0) κ) 10000 (placeOf Tryz.f56 3) (letter_pieces_0.s3 x0 x1 x2) = letter_pieces_0.t3 c1 x0 x1 x2 (fun y0 y1 y2 => J (placeOf Tryz.f56 3) (letter_pieces_0.s3 y0 y1 y2)) (fun r0 => κ [.fr 89 r0 true]) := by kernel_rfl
theorem letter_pieces_0.c (R : Type) (c1 : letter_cursor_next_vsie.F R) (κ : List SV → Option R) (k : Nat) (a0 : ByteArray) :
    runF (letter_pieces_0.C R c1) Tryz.f56 10000 k [.str a0] κ = letter_pieces_0.e c1 a0 (fun y0 y1 y2 => goto (letter_pieces_0.C R c1) (retK (letter_pieces_0.C R c1) Tryz.f56.results.toList (List.range 0) κ) 10000 k (placeOf Tryz.f56 3) (letter_pieces_0.s3 y0 y1 y2)) (fun r0 => κ [.fr 89 r0 true]) := by kernel_rfl
theorem letter_pieces_0.g3 (R : Type) (c1 : letter_cursor_next_vsie.F R) (κ : List SV → Option R) : ∀ (f : Nat) (x0 : ByteArray) (x1 : Int) (x2 : List AV), goto (letter_pieces_0.C R c1) (retK (letter_pieces_0.C R c1) Tryz.f56.results.toList (List.range 0) κ) 10000 f (placeOf Tryz.f56 3) (letter_pieces_0.s3 x0 x1 x2) = letter_pieces_0.L3 c1 (fun r0 => κ [.fr 89 r0 true]) f x0 x1 x2
  | 0, _, _, _ => rfl
  | f + 1, x0, x1, x2 => by
    show start (letter_pieces_0.C R c1) (goto (letter_pieces_0.C R c1) (retK (letter_pieces_0.C R c1) Tryz.f56.results.toList (List.range 0) κ) 10000 f) (retK (letter_pieces_0.C R c1) Tryz.f56.results.toList (List.range 0) κ) 10000 (placeOf Tryz.f56 3) (letter_pieces_0.s3 x0 x1 x2) = _
    rw [letter_pieces_0.c3]
    simp only [letter_pieces_0.g3 R c1 κ f]
    rfl
theorem letter_pieces_0.run (R : Type) (κ : List SV → Option R) (a0 : ByteArray) :
    runF (letter_pieces_0.C R letter_cursor_next_vsie) Tryz.f56 10000 fuelK [.str a0] κ = letter_pieces_0 a0 (fun r0 => κ [.fr 89 r0 true]) := by
  rw [letter_pieces_0.c]
  simp only [letter_pieces_0.g3 R letter_cursor_next_vsie κ fuelK]
  rfl
theorem letter_pieces_0.Γ_does {R : Type} (tab : Tab) (ht : TabOk tab) (g : Nat) : Does (R := R) Tryz.prog (tabTy tyL) tab g ((letter_pieces_0.C R letter_cursor_next_vsie).call g) := by
  refine does_of fun xs κ => ?_
  show DoesAt _ _ _ g xs κ (letter_pieces_0.Γ letter_cursor_next_vsie g xs κ)
  unfold letter_pieces_0.Γ
  split
  · split
    · exact letter_cursor_next_vsie.does tab ht _ _ κ
    · exact DoesAt.none
  · exact DoesAt.none
theorem letter_pieces_0.does {R : Type} (tab : Tab) (ht : TabOk tab) (a0 : ByteArray) (κ : List SV → Option R) : DoesAt Tryz.prog (tabTy tyL) tab 56 [.str a0] κ (letter_pieces_0 a0 (fun r0 => κ [.fr 89 r0 true])) := by
  intro r h w vs Rt Ra bs hpre
  exact runF_sound tyOk (letter_pieces_0.Γ_does tab ht) (show Tryz.prog.funcs[56]? = some Tryz.f56 by kernel_rfl) (by kernel_rfl) ((letter_pieces_0.run R κ a0).trans h) hpre
def letter_piece_is_0.Γ {R : Type} (g : Nat) (xs : List SV) (κ : List SV → Option R) : Option R :=
  match g with
  | _ => none
def letter_piece_is_0.h (n : Nat) : Option (List (Nat × List (Nat × Nat))) :=
  match n with
  | _ => none
def letter_piece_is_0.C (R : Type) : Cfg R := ⟨tabTy tyL, letter_piece_is_0.Γ, fun _ => false, letter_piece_is_0.h⟩
theorem letter_piece_is_0.c (R : Type) (κ : List SV → Option R) (k : Nat) (a0 : Int) (a1 : ByteArray) (a2 : ByteArray) :
    runF (letter_piece_is_0.C R) Tryz.f68 10000 k [.agg [.int .i64 a0, .str a1], .str a2] κ = letter_piece_is_0.e a0 a1 a2 (fun r0 => κ [.bool r0]) := by kernel_rfl
theorem letter_piece_is_0.run (R : Type) (κ : List SV → Option R) (a0 : Int) (a1 : ByteArray) (a2 : ByteArray) :
    runF (letter_piece_is_0.C R) Tryz.f68 10000 fuelK [.agg [.int .i64 a0, .str a1], .str a2] κ = letter_piece_is_0 a0 a1 a2 (fun r0 => κ [.bool r0]) := by
  rw [letter_piece_is_0.c]
  rfl
theorem letter_piece_is_0.Γ_does {R : Type} (tab : Tab) (ht : TabOk tab) (g : Nat) : Does (R := R) Tryz.prog (tabTy tyL) tab g ((letter_piece_is_0.C R).call g) := by
  refine does_of fun xs κ => ?_
  show DoesAt _ _ _ g xs κ (letter_piece_is_0.Γ g xs κ)
  unfold letter_piece_is_0.Γ
  split
  · exact DoesAt.none
theorem letter_piece_is_0.does {R : Type} (tab : Tab) (ht : TabOk tab) (a0 : Int) (a1 : ByteArray) (a2 : ByteArray) (κ : List SV → Option R) : DoesAt Tryz.prog (tabTy tyL) tab 68 [.agg [.int .i64 a0, .str a1], .str a2] κ (letter_piece_is_0 a0 a1 a2 (fun r0 => κ [.bool r0])) := by
  intro r h w vs Rt Ra bs hpre
  exact runF_sound tyOk (letter_piece_is_0.Γ_does tab ht) (show Tryz.prog.funcs[68]? = some Tryz.f68 by kernel_rfl) (by kernel_rfl) ((letter_piece_is_0.run R κ a0 a1 a2).trans h) hpre
def letter_find_ois.Γ {R : Type} (c1 : letter_piece_is_0.F R) (g : Nat) (xs : List SV) (κ : List SV → Option R) : Option R :=
  match g with
  | 68 => (match xs with
    | [.agg [.int .i64 a0, .str a1], .str a2] => c1 a0 a1 a2 (fun r0 => κ [.bool r0])
    | _ => none)
  | _ => none
def letter_find_ois.h (n : Nat) : Option (List (Nat × List (Nat × Nat))) :=
  match n with
  | 2 => some [(0, [(0, 0)]), (2, [(0, 0)]), (7, [(0, 0)])]
  | _ => none
def letter_find_ois.C (R : Type) (c1 : letter_piece_is_0.F R) : Cfg R := ⟨tabTy tyL, letter_find_ois.Γ c1, fun _ => false, letter_find_ois.h⟩
def letter_find_ois.s2 (x0 : List AV) (x1 : ByteArray) (x2 : Int) : St := ⟨mkS 24 [(0, .ro 89 x0 false), (2, .str x1), (7, .int .i64 x2)], [], top⟩
theorem letter_find_ois.c2 (R : Type) (c1 : letter_piece_is_0.F R) (J : List Item → St → Option R) (κ : List SV → Option R) (x0 : List AV) (x1 : ByteArray) (x2 : Int) :
    start (letter_find_ois.C R c1) J (retK (letter_find_ois.C R c1) Tryz.f69.results.toList (List.range 0) κ) 10000 (placeOf Tryz.f69 2) (letter_find_ois.s2 x0 x1 x2) = letter_find_ois.t2 c1 x0 x1 x2 (fun y0 y1 y2 => J (placeOf Tryz.f69 2) (letter_find_ois.s2 y0 y1 y2)) (fun r0 => κ [.int .i64 r0]) := by kernel_rfl
theorem letter_find_ois.c (R : Type) (c1 : letter_piece_is_0.F R) (κ : List SV → Option R) (k : Nat) (a0 : List AV) (a1 : Int) (a2 : ByteArray) :
    runF (letter_find_ois.C R c1) Tryz.f69 10000 k [.ro 89 a0 false, .int .i64 a1, .str a2] κ = letter_find_ois.e c1 a0 a1 a2 (fun y0 y1 y2 => goto (letter_find_ois.C R c1) (retK (letter_find_ois.C R c1) Tryz.f69.results.toList (List.range 0) κ) 10000 k (placeOf Tryz.f69 2) (letter_find_ois.s2 y0 y1 y2)) (fun r0 => κ [.int .i64 r0]) := by kernel_rfl
theorem letter_find_ois.g2 (R : Type) (c1 : letter_piece_is_0.F R) (κ : List SV → Option R) : ∀ (f : Nat) (x0 : List AV) (x1 : ByteArray) (x2 : Int), goto (letter_find_ois.C R c1) (retK (letter_find_ois.C R c1) Tryz.f69.results.toList (List.range 0) κ) 10000 f (placeOf Tryz.f69 2) (letter_find_ois.s2 x0 x1 x2) = letter_find_ois.L2 c1 (fun r0 => κ [.int .i64 r0]) f x0 x1 x2
  | 0, _, _, _ => rfl
  | f + 1, x0, x1, x2 => by
    show start (letter_find_ois.C R c1) (goto (letter_find_ois.C R c1) (retK (letter_find_ois.C R c1) Tryz.f69.results.toList (List.range 0) κ) 10000 f) (retK (letter_find_ois.C R c1) Tryz.f69.results.toList (List.range 0) κ) 10000 (placeOf Tryz.f69 2) (letter_find_ois.s2 x0 x1 x2) = _
    rw [letter_find_ois.c2]
    simp only [letter_find_ois.g2 R c1 κ f]
    rfl
theorem letter_find_ois.run (R : Type) (κ : List SV → Option R) (a0 : List AV) (a1 : Int) (a2 : ByteArray) :
    runF (letter_find_ois.C R letter_piece_is_0) Tryz.f69 10000 fuelK [.ro 89 a0 false, .int .i64 a1, .str a2] κ = letter_find_ois a0 a1 a2 (fun r0 => κ [.int .i64 r0]) := by
  rw [letter_find_ois.c]
  simp only [letter_find_ois.g2 R letter_piece_is_0 κ fuelK]
  rfl
theorem letter_find_ois.Γ_does {R : Type} (tab : Tab) (ht : TabOk tab) (g : Nat) : Does (R := R) Tryz.prog (tabTy tyL) tab g ((letter_find_ois.C R letter_piece_is_0).call g) := by
  refine does_of fun xs κ => ?_
  show DoesAt _ _ _ g xs κ (letter_find_ois.Γ letter_piece_is_0 g xs κ)
  unfold letter_find_ois.Γ
  split
  · split
    · exact letter_piece_is_0.does tab ht _ _ _ κ
    · exact DoesAt.none
  · exact DoesAt.none
theorem letter_find_ois.does {R : Type} (tab : Tab) (ht : TabOk tab) (a0 : List AV) (a1 : Int) (a2 : ByteArray) (κ : List SV → Option R) : DoesAt Tryz.prog (tabTy tyL) tab 69 [.ro 89 a0 false, .int .i64 a1, .str a2] κ (letter_find_ois a0 a1 a2 (fun r0 => κ [.int .i64 r0])) := by
  intro r h w vs Rt Ra bs hpre
  exact runF_sound tyOk (letter_find_ois.Γ_does tab ht) (show Tryz.prog.funcs[69]? = some Tryz.f69 by kernel_rfl) (by kernel_rfl) ((letter_find_ois.run R κ a0 a1 a2).trans h) hpre
def strings_Builder_WriteString_vxfes.Γ {R : Type} (c1 : strings_Builder_copyCheck_vxfe.F R) (g : Nat) (xs : List SV) (κ : List SV → Option R) : Option R :=
  match g with
  | 99 => (match xs with
    | [.vp 74 [.nos, .fr 5 a0 true]] => c1 a0 (fun r0 => κ [.tup [], .vp 74 [.nos, .fr 5 r0 true]])
    | _ => none)
  | _ => none
def strings_Builder_WriteString_vxfes.h (n : Nat) : Option (List (Nat × List (Nat × Nat))) :=
  match n with
  | _ => none
def strings_Builder_WriteString_vxfes.C (R : Type) (c1 : strings_Builder_copyCheck_vxfe.F R) : Cfg R := ⟨tabTy tyL, strings_Builder_WriteString_vxfes.Γ c1, fun _ => false, strings_Builder_WriteString_vxfes.h⟩
theorem strings_Builder_WriteString_vxfes.c (R : Type) (c1 : strings_Builder_copyCheck_vxfe.F R) (κ : List SV → Option R) (k : Nat) (a0 : List AV) (a1 : ByteArray) :
    runF (strings_Builder_WriteString_vxfes.C R c1) Tryz.f47 10000 k [.vp 74 [.nos, .fr 5 a0 true], .str a1] κ = strings_Builder_WriteString_vxfes.e c1 a0 a1 (fun r0 r1 => κ [.tup [.int .i64 r0, .nili], .vp 74 [.nos, .fr 5 r1 true]]) := by kernel_rfl
theorem strings_Builder_WriteString_vxfes.run (R : Type) (κ : List SV → Option R) (a0 : List AV) (a1 : ByteArray) :
    runF (strings_Builder_WriteString_vxfes.C R strings_Builder_copyCheck_vxfe) Tryz.f47 10000 fuelK [.vp 74 [.nos, .fr 5 a0 true], .str a1] κ = strings_Builder_WriteString_vxfes a0 a1 (fun r0 r1 => κ [.tup [.int .i64 r0, .nili], .vp 74 [.nos, .fr 5 r1 true]]) := by
  rw [strings_Builder_WriteString_vxfes.c]
  rfl
theorem strings_Builder_WriteString_vxfes.Γ_does {R : Type} (tab : Tab) (ht : TabOk tab) (g : Nat) : Does (R := R) Tryz.prog (tabTy tyL) tab g ((strings_Builder_WriteString_vxfes.C R strings_Builder_copyCheck_vxfe).call g) := by
  refine does_of fun xs κ => ?_
  show DoesAt _ _ _ g xs κ (strings_Builder_WriteString_vxfes.Γ strings_Builder_copyCheck_vxfe g xs κ)
  unfold strings_Builder_WriteString_vxfes.Γ
  split
  · split
    · exact strings_Builder_copyCheck_vxfe.does tab ht _ κ
    · exact DoesAt.none
  · exact DoesAt.none
theorem strings_Builder_WriteString_vxfes.does {R : Type} (tab : Tab) (ht : TabOk tab) (a0 : List AV) (a1 : ByteArray) (κ : List SV → Option R) : DoesAt Tryz.prog (tabTy tyL) tab 47 [.vp 74 [.nos, .fr 5 a0 true], .str a1] κ (strings_Builder_WriteString_vxfes a0 a1 (fun r0 r1 => κ [.tup [.int .i64 r0, .nili], .vp 74 [.nos, .fr 5 r1 true]])) := by
  intro r h w vs Rt Ra bs hpre
  exact runF_sound tyOk (strings_Builder_WriteString_vxfes.Γ_does tab ht) (show Tryz.prog.funcs[47]? = some Tryz.f47 by kernel_rfl) (by kernel_rfl) ((strings_Builder_WriteString_vxfes.run R κ a0 a1).trans h) hpre
def letter_text_ob.Γ {R : Type} (c1 : strings_Builder_WriteByte_vxfei.F R) (c2 : strings_Builder_WriteString_vxfes.F R) (c3 : strings_Builder_String_vxfe.F R) (g : Nat) (xs : List SV) (κ : List SV → Option R) : Option R :=
  match g with
  | 47 => (match xs with
    | [.vp 74 [.nos, .fr 5 a0 true], .str a1] => c2 a0 a1 (fun r0 r1 => κ [.tup [.int .i64 r0, .nili], .vp 74 [.nos, .fr 5 r1 true]])
    | _ => none)
  | 49 => (match xs with
    | [.vp 74 [.nos, .fr 5 a0 true]] => c3 a0 (fun r0 => κ [.str r0, .vp 74 [.nos, .no]])
    | _ => none)
  | 110 => (match xs with
    | [.vp 74 [.nos, .fr 5 a0 true], .int .u8 a1] => c1 a0 a1 (fun r0 => κ [.nili, .vp 74 [.nos, .fr 5 r0 true]])
    | _ => none)
  | _ => none
def letter_text_ob.h (n : Nat) : Option (List (Nat × List (Nat × Nat))) :=
  match n with
  | 4 => some [(1, [(0, 0)]), (5, [(1, 7)]), (6, [(0, 0)]), (7, [(0, 0)]), (10, [(0, 0)]), (11, [(0, 0)]), (12, [(0, 0)])]
  | _ => none
def letter_text_ob.C (R : Type) (c1 : strings_Builder_WriteByte_vxfei.F R) (c2 : strings_Builder_WriteString_vxfes.F R) (c3 : strings_Builder_String_vxfe.F R) : Cfg R := ⟨tabTy tyL, letter_text_ob.Γ c1 c2 c3, fun _ => false, letter_text_ob.h⟩
def letter_text_ob.s4 (x0 : Bool) (x1 : Bool) (x2 : Bool) (x3 : List AV) (x4 : Int) (x5 : Int) (x6 : List AV) : St := ⟨mkS 31 [(1, .bool x0), (5, .ptr 447 0), (6, .bool x1), (7, .bool x2), (10, .ro 89 x3 false), (11, .int .i64 x4), (12, .int .i64 x5)], [(447, .var 74 [.nos, .own 385]), (385, .row 5 x6 true)], top⟩
theorem letter_text_ob.c4 (R : Type) (c1 : strings_Builder_WriteByte_vxfei.F R) (c2 : strings_Builder_WriteString_vxfes.F R) (c3 : strings_Builder_String_vxfe.F R) (J : List Item → St → Option R) (κ : List SV → Option R) (x0 : Bool) (x1 : Bool) (x2 : Bool) (x3 : List AV) (x4 : Int) (x5 : Int) (x6 : List AV) :
    start (letter_text_ob.C R c1 c2 c3) J (retK (letter_text_ob.C R c1 c2 c3) Tryz.f59.results.toList (List.range 0) κ) 10000 (placeOf Tryz.f59 4) (letter_text_ob.s4 x0 x1 x2 x3 x4 x5 x6) = letter_text_ob.t4 c1 c2 c3 x0 x1 x2 x3 x4 x5 x6 (fun y0 y1 y2 y3 y4 y5 y6 => J (placeOf Tryz.f59 4) (letter_text_ob.s4 y0 y1 y2 y3 y4 y5 y6)) (fun r0 => κ [.str r0]) := by kernel_rfl
theorem letter_text_ob.c (R : Type) (c1 : strings_Builder_WriteByte_vxfei.F R) (c2 : strings_Builder_WriteString_vxfes.F R) (c3 : strings_Builder_String_vxfe.F R) (κ : List SV → Option R) (k : Nat) (a0 : List AV) (a1 : Bool) :
    runF (letter_text_ob.C R c1 c2 c3) Tryz.f59 10000 k [.ro 89 a0 false, .bool a1] κ = letter_text_ob.e c1 c2 c3 a0 a1 (fun y0 y1 y2 y3 y4 y5 y6 => goto (letter_text_ob.C R c1 c2 c3) (retK (letter_text_ob.C R c1 c2 c3) Tryz.f59.results.toList (List.range 0) κ) 10000 k (placeOf Tryz.f59 4) (letter_text_ob.s4 y0 y1 y2 y3 y4 y5 y6)) (fun r0 => κ [.str r0]) := by kernel_rfl
theorem letter_text_ob.g4 (R : Type) (c1 : strings_Builder_WriteByte_vxfei.F R) (c2 : strings_Builder_WriteString_vxfes.F R) (c3 : strings_Builder_String_vxfe.F R) (κ : List SV → Option R) : ∀ (f : Nat) (x0 : Bool) (x1 : Bool) (x2 : Bool) (x3 : List AV) (x4 : Int) (x5 : Int) (x6 : List AV), goto (letter_text_ob.C R c1 c2 c3) (retK (letter_text_ob.C R c1 c2 c3) Tryz.f59.results.toList (List.range 0) κ) 10000 f (placeOf Tryz.f59 4) (letter_text_ob.s4 x0 x1 x2 x3 x4 x5 x6) = letter_text_ob.L4 c1 c2 c3 (fun r0 => κ [.str r0]) f x0 x1 x2 x3 x4 x5 x6
  | 0, _, _, _, _, _, _, _ => rfl
  | f + 1, x0, x1, x2, x3, x4, x5, x6 => by
    show start (letter_text_ob.C R c1 c2 c3) (goto (letter_text_ob.C R c1 c2 c3) (retK (letter_text_ob.C R c1 c2 c3) Tryz.f59.results.toList (List.range 0) κ) 10000 f) (retK (letter_text_ob.C R c1 c2 c3) Tryz.f59.results.toList (List.range 0) κ) 10000 (placeOf Tryz.f59 4) (letter_text_ob.s4 x0 x1 x2 x3 x4 x5 x6) = _
    rw [letter_text_ob.c4]
    simp only [letter_text_ob.g4 R c1 c2 c3 κ f]
    rfl
theorem letter_text_ob.run (R : Type) (κ : List SV → Option R) (a0 : List AV) (a1 : Bool) :
    runF (letter_text_ob.C R strings_Builder_WriteByte_vxfei strings_Builder_WriteString_vxfes strings_Builder_String_vxfe) Tryz.f59 10000 fuelK [.ro 89 a0 false, .bool a1] κ = letter_text_ob a0 a1 (fun r0 => κ [.str r0]) := by
  rw [letter_text_ob.c]
  simp only [letter_text_ob.g4 R strings_Builder_WriteByte_vxfei strings_Builder_WriteString_vxfes strings_Builder_String_vxfe κ fuelK]
  rfl
theorem letter_text_ob.Γ_does {R : Type} (tab : Tab) (ht : TabOk tab) (g : Nat) : Does (R := R) Tryz.prog (tabTy tyL) tab g ((letter_text_ob.C R strings_Builder_WriteByte_vxfei strings_Builder_WriteString_vxfes strings_Builder_String_vxfe).call g) := by
  refine does_of fun xs κ => ?_
  show DoesAt _ _ _ g xs κ (letter_text_ob.Γ strings_Builder_WriteByte_vxfei strings_Builder_WriteString_vxfes strings_Builder_String_vxfe g xs κ)
  unfold letter_text_ob.Γ
  split
  · split
    · exact strings_Builder_WriteString_vxfes.does tab ht _ _ κ
    · exact DoesAt.none
  · split
    · exact strings_Builder_String_vxfe.does tab ht _ κ
    · exact DoesAt.none
  · split
    · exact strings_Builder_WriteByte_vxfei.does tab ht _ _ κ
    · exact DoesAt.none
  · exact DoesAt.none
theorem letter_text_ob.does {R : Type} (tab : Tab) (ht : TabOk tab) (a0 : List AV) (a1 : Bool) (κ : List SV → Option R) : DoesAt Tryz.prog (tabTy tyL) tab 59 [.ro 89 a0 false, .bool a1] κ (letter_text_ob a0 a1 (fun r0 => κ [.str r0])) := by
  intro r h w vs Rt Ra bs hpre
  exact runF_sound tyOk (letter_text_ob.Γ_does tab ht) (show Tryz.prog.funcs[59]? = some Tryz.f59 by kernel_rfl) (by kernel_rfl) ((letter_text_ob.run R κ a0 a1).trans h) hpre
theorem stringslite_Index_0.does {R : Type} (tab : Tab) (ht : TabOk tab) (a0 a1 : ByteArray) (κ : List SV → Option R) : DoesAt Tryz.prog (tabTy tyL) tab 130 [.str a0, .str a1] κ (stringslite_Index_0 a0 a1 (fun r0 => κ [.int .i64 r0])) := by
  obtain ⟨m, cs, t, fz, ht, hm⟩ := ht
  exact chk_does fun h => strs2_does Tryz.call130 a0 a1 (.int .i64 _) (fun w hw => Any.stringslite_Index Tryz.lays219 a0 a1 m w (of_decide_eq_true h) (tab_cell hm (hw _ _ ht))) (fun c => res_int) κ
def strings_Index_0.Γ {R : Type} (c1 : stringslite_Index_0.F R) (g : Nat) (xs : List SV) (κ : List SV → Option R) : Option R :=
  match g with
  | 130 => (match xs with
    | [.str a0, .str a1] => c1 a0 a1 (fun r0 => κ [.int .i64 r0])
    | _ => none)
  | _ => none
def strings_Index_0.h (n : Nat) : Option (List (Nat × List (Nat × Nat))) :=
  match n with
  | _ => none
def strings_Index_0.C (R : Type) (c1 : stringslite_Index_0.F R) : Cfg R := ⟨tabTy tyL, strings_Index_0.Γ c1, fun _ => false, strings_Index_0.h⟩
theorem strings_Index_0.c (R : Type) (c1 : stringslite_Index_0.F R) (κ : List SV → Option R) (k : Nat) (a0 : ByteArray) (a1 : ByteArray) :
    runF (strings_Index_0.C R c1) Tryz.f85 10000 k [.str a0, .str a1] κ = strings_Index_0.e c1 a0 a1 (fun r0 => κ [.int .i64 r0]) := by kernel_rfl
theorem strings_Index_0.run (R : Type) (κ : List SV → Option R) (a0 : ByteArray) (a1 : ByteArray) :
    runF (strings_Index_0.C R stringslite_Index_0) Tryz.f85 10000 fuelK [.str a0, .str a1] κ = strings_Index_0 a0 a1 (fun r0 => κ [.int .i64 r0]) := by
  rw [strings_Index_0.c]
  rfl
theorem strings_Index_0.Γ_does {R : Type} (tab : Tab) (ht : TabOk tab) (g : Nat) : Does (R := R) Tryz.prog (tabTy tyL) tab g ((strings_Index_0.C R stringslite_Index_0).call g) := by
  refine does_of fun xs κ => ?_
  show DoesAt _ _ _ g xs κ (strings_Index_0.Γ stringslite_Index_0 g xs κ)
  unfold strings_Index_0.Γ
  split
  · split
    · exact stringslite_Index_0.does tab ht _ _ κ
    · exact DoesAt.none
  · exact DoesAt.none
theorem strings_Index_0.does {R : Type} (tab : Tab) (ht : TabOk tab) (a0 : ByteArray) (a1 : ByteArray) (κ : List SV → Option R) : DoesAt Tryz.prog (tabTy tyL) tab 85 [.str a0, .str a1] κ (strings_Index_0 a0 a1 (fun r0 => κ [.int .i64 r0])) := by
  intro r h w vs Rt Ra bs hpre
  exact runF_sound tyOk (strings_Index_0.Γ_does tab ht) (show Tryz.prog.funcs[85]? = some Tryz.f85 by kernel_rfl) (by kernel_rfl) ((strings_Index_0.run R κ a0 a1).trans h) hpre
def strings_Contains_0.Γ {R : Type} (c1 : strings_Index_0.F R) (g : Nat) (xs : List SV) (κ : List SV → Option R) : Option R :=
  match g with
  | 85 => (match xs with
    | [.str a0, .str a1] => c1 a0 a1 (fun r0 => κ [.int .i64 r0])
    | _ => none)
  | _ => none
def strings_Contains_0.h (n : Nat) : Option (List (Nat × List (Nat × Nat))) :=
  match n with
  | _ => none
def strings_Contains_0.C (R : Type) (c1 : strings_Index_0.F R) : Cfg R := ⟨tabTy tyL, strings_Contains_0.Γ c1, fun _ => false, strings_Contains_0.h⟩
theorem strings_Contains_0.c (R : Type) (c1 : strings_Index_0.F R) (κ : List SV → Option R) (k : Nat) (a0 : ByteArray) (a1 : ByteArray) :
    runF (strings_Contains_0.C R c1) Tryz.f70 10000 k [.str a0, .str a1] κ = strings_Contains_0.e c1 a0 a1 (fun r0 => κ [.bool r0]) := by kernel_rfl
theorem strings_Contains_0.run (R : Type) (κ : List SV → Option R) (a0 : ByteArray) (a1 : ByteArray) :
    runF (strings_Contains_0.C R strings_Index_0) Tryz.f70 10000 fuelK [.str a0, .str a1] κ = strings_Contains_0 a0 a1 (fun r0 => κ [.bool r0]) := by
  rw [strings_Contains_0.c]
  rfl
theorem strings_Contains_0.Γ_does {R : Type} (tab : Tab) (ht : TabOk tab) (g : Nat) : Does (R := R) Tryz.prog (tabTy tyL) tab g ((strings_Contains_0.C R strings_Index_0).call g) := by
  refine does_of fun xs κ => ?_
  show DoesAt _ _ _ g xs κ (strings_Contains_0.Γ strings_Index_0 g xs κ)
  unfold strings_Contains_0.Γ
  split
  · split
    · exact strings_Index_0.does tab ht _ _ κ
    · exact DoesAt.none
  · exact DoesAt.none
theorem strings_Contains_0.does {R : Type} (tab : Tab) (ht : TabOk tab) (a0 : ByteArray) (a1 : ByteArray) (κ : List SV → Option R) : DoesAt Tryz.prog (tabTy tyL) tab 70 [.str a0, .str a1] κ (strings_Contains_0 a0 a1 (fun r0 => κ [.bool r0])) := by
  intro r h w vs Rt Ra bs hpre
  exact runF_sound tyOk (strings_Contains_0.Γ_does tab ht) (show Tryz.prog.funcs[70]? = some Tryz.f70 by kernel_rfl) (by kernel_rfl) ((strings_Contains_0.run R κ a0 a1).trans h) hpre
def letter_Ids_0.Γ {R : Type} (c1 : letter_pieces_0.F R) (c2 : letter_piece_is_0.F R) (c3 : letter_find_ois.F R) (c4 : letter_text_ob.F R) (c5 : strings_Contains_0.F R) (g : Nat) (xs : List SV) (κ : List SV → Option R) : Option R :=
  match g with
  | 56 => (match xs with
    | [.str a0] => c1 a0 (fun r0 => κ [.fr 89 r0 true])
    | _ => none)
  | 59 => (match xs with
    | [.ro 89 a0 false, .bool a1] => c4 a0 a1 (fun r0 => κ [.str r0])
    | _ => none)
  | 68 => (match xs with
    | [.agg [.int .i64 a0, .str a1], .str a2] => c2 a0 a1 a2 (fun r0 => κ [.bool r0])
    | _ => none)
  | 69 => (match xs with
    | [.ro 89 a0 false, .int .i64 a1, .str a2] => c3 a0 a1 a2 (fun r0 => κ [.int .i64 r0])
    | _ => none)
  | 70 => (match xs with
    | [.str a0, .str a1] => c5 a0 a1 (fun r0 => κ [.bool r0])
    | _ => none)
  | _ => none
def letter_Ids_0.h (n : Nat) : Option (List (Nat × List (Nat × Nat))) :=
  match n with
  | 4 => some [(3, [(0, 11)]), (4, [(0, 0)]), (5, [(0, 0)])]
  | _ => none
def letter_Ids_0.C (R : Type) (c1 : letter_pieces_0.F R) (c2 : letter_piece_is_0.F R) (c3 : letter_find_ois.F R) (c4 : letter_text_ob.F R) (c5 : strings_Contains_0.F R) : Cfg R := ⟨tabTy tyL, letter_Ids_0.Γ c1 c2 c3 c4 c5, fun _ => false, letter_Ids_0.h⟩
def letter_Ids_0.s4 (x0 : Int) (x1 : List AV) (x2 : List AV) : St := ⟨mkS 61 [(3, .own 256), (4, .own 320), (5, .int .i64 x0)], [(256, .row 9 x1 true), (320, .row 89 x2 true)], top⟩
theorem letter_Ids_0.c4 (R : Type) (c1 : letter_pieces_0.F R) (c2 : letter_piece_is_0.F R) (c3 : letter_find_ois.F R) (c4 : letter_text_ob.F R) (c5 : strings_Contains_0.F R) (J : List Item → St → Option R) (κ : List SV → Option R) (x0 : Int) (x1 : List AV) (x2 : List AV) :
    start (letter_Ids_0.C R c1 c2 c3 c4 c5) J (retK (letter_Ids_0.C R c1 c2 c3 c4 c5) Tryz.f23.results.toList (List.range 0) κ) 10000 (placeOf Tryz.f23 4) (letter_Ids_0.s4 x0 x1 x2) = letter_Ids_0.t4 c1 c2 c3 c4 c5 x0 x1 x2 (fun y0 y1 y2 => J (placeOf Tryz.f23 4) (letter_Ids_0.s4 y0 y1 y2)) (fun r0 => κ [.fr 9 r0 true]) := by kernel_rfl
theorem letter_Ids_0.c (R : Type) (c1 : letter_pieces_0.F R) (c2 : letter_piece_is_0.F R) (c3 : letter_find_ois.F R) (c4 : letter_text_ob.F R) (c5 : strings_Contains_0.F R) (κ : List SV → Option R) (k : Nat) (a0 : ByteArray) :
    runF (letter_Ids_0.C R c1 c2 c3 c4 c5) Tryz.f23 10000 k [.str a0] κ = letter_Ids_0.e c1 c2 c3 c4 c5 a0 (fun y0 y1 y2 => goto (letter_Ids_0.C R c1 c2 c3 c4 c5) (retK (letter_Ids_0.C R c1 c2 c3 c4 c5) Tryz.f23.results.toList (List.range 0) κ) 10000 k (placeOf Tryz.f23 4) (letter_Ids_0.s4 y0 y1 y2)) (fun r0 => κ [.fr 9 r0 true]) := by kernel_rfl
theorem letter_Ids_0.g4 (R : Type) (c1 : letter_pieces_0.F R) (c2 : letter_piece_is_0.F R) (c3 : letter_find_ois.F R) (c4 : letter_text_ob.F R) (c5 : strings_Contains_0.F R) (κ : List SV → Option R) : ∀ (f : Nat) (x0 : Int) (x1 : List AV) (x2 : List AV), goto (letter_Ids_0.C R c1 c2 c3 c4 c5) (retK (letter_Ids_0.C R c1 c2 c3 c4 c5) Tryz.f23.results.toList (List.range 0) κ) 10000 f (placeOf Tryz.f23 4) (letter_Ids_0.s4 x0 x1 x2) = letter_Ids_0.L4 c1 c2 c3 c4 c5 (fun r0 => κ [.fr 9 r0 true]) f x0 x1 x2
  | 0, _, _, _ => rfl
  | f + 1, x0, x1, x2 => by
    show start (letter_Ids_0.C R c1 c2 c3 c4 c5) (goto (letter_Ids_0.C R c1 c2 c3 c4 c5) (retK (letter_Ids_0.C R c1 c2 c3 c4 c5) Tryz.f23.results.toList (List.range 0) κ) 10000 f) (retK (letter_Ids_0.C R c1 c2 c3 c4 c5) Tryz.f23.results.toList (List.range 0) κ) 10000 (placeOf Tryz.f23 4) (letter_Ids_0.s4 x0 x1 x2) = _
    rw [letter_Ids_0.c4]
    simp only [letter_Ids_0.g4 R c1 c2 c3 c4 c5 κ f]
    rfl
theorem letter_Ids_0.run (R : Type) (κ : List SV → Option R) (a0 : ByteArray) :
    runF (letter_Ids_0.C R letter_pieces_0 letter_piece_is_0 letter_find_ois letter_text_ob strings_Contains_0) Tryz.f23 10000 fuelK [.str a0] κ = letter_Ids_0 a0 (fun r0 => κ [.fr 9 r0 true]) := by
  rw [letter_Ids_0.c]
  simp only [letter_Ids_0.g4 R letter_pieces_0 letter_piece_is_0 letter_find_ois letter_text_ob strings_Contains_0 κ fuelK]
  rfl
theorem letter_Ids_0.Γ_does {R : Type} (tab : Tab) (ht : TabOk tab) (g : Nat) : Does (R := R) Tryz.prog (tabTy tyL) tab g ((letter_Ids_0.C R letter_pieces_0 letter_piece_is_0 letter_find_ois letter_text_ob strings_Contains_0).call g) := by
  refine does_of fun xs κ => ?_
  show DoesAt _ _ _ g xs κ (letter_Ids_0.Γ letter_pieces_0 letter_piece_is_0 letter_find_ois letter_text_ob strings_Contains_0 g xs κ)
  unfold letter_Ids_0.Γ
  split
  · split
    · exact letter_pieces_0.does tab ht _ κ
    · exact DoesAt.none
  · split
    · exact letter_text_ob.does tab ht _ _ κ
    · exact DoesAt.none
  · split
    · exact letter_piece_is_0.does tab ht _ _ _ κ
    · exact DoesAt.none
  · split
    · exact letter_find_ois.does tab ht _ _ _ κ
    · exact DoesAt.none
  · split
    · exact strings_Contains_0.does tab ht _ _ κ
    · exact DoesAt.none
  · exact DoesAt.none
theorem letter_Ids_0.does {R : Type} (tab : Tab) (ht : TabOk tab) (a0 : ByteArray) (κ : List SV → Option R) : DoesAt Tryz.prog (tabTy tyL) tab 23 [.str a0] κ (letter_Ids_0 a0 (fun r0 => κ [.fr 9 r0 true])) := by
  intro r h w vs Rt Ra bs hpre
  exact runF_sound tyOk (letter_Ids_0.Γ_does tab ht) (show Tryz.prog.funcs[23]? = some Tryz.f23 by kernel_rfl) (by kernel_rfl) ((letter_Ids_0.run R κ a0).trans h) hpre
def postbagref5_comment_0.Γ {R : Type} (g : Nat) (xs : List SV) (κ : List SV → Option R) : Option R :=
  match g with
  | _ => none
def postbagref5_comment_0.h (n : Nat) : Option (List (Nat × List (Nat × Nat))) :=
  match n with
  | 2 => some [(0, [(0, 0)]), (1, [(0, 0)]), (5, [(0, 0)])]
  | _ => none
def postbagref5_comment_0.C (R : Type) : Cfg R := ⟨tabTy tyL, postbagref5_comment_0.Γ, fun _ => false, postbagref5_comment_0.h⟩
def postbagref5_comment_0.s2 (x0 : ByteArray) (x1 : Int) (x2 : Int) : St := ⟨mkS 32 [(0, .str x0), (1, .int .i64 x1), (5, .int .i64 x2)], [], top⟩
theorem postbagref5_comment_0.c2 (R : Type) (J : List Item → St → Option R) (κ : List SV → Option R) (x0 : ByteArray) (x1 : Int) (x2 : Int) :
    start (postbagref5_comment_0.C R) J (retK (postbagref5_comment_0.C R) Tryz.f112.results.toList (List.range 0) κ) 10000 (placeOf Tryz.f112 2) (postbagref5_comment_0.s2 x0 x1 x2) = postbagref5_comment_0.t2 x0 x1 x2 (fun y0 y1 y2 => J (placeOf Tryz.f112 2) (postbagref5_comment_0.s2 y0 y1 y2)) (fun r0 => κ [.int .i64 r0]) := by kernel_rfl
theorem postbagref5_comment_0.c (R : Type) (κ : List SV → Option R) (k : Nat) (a0 : ByteArray) (a1 : Int) :
    runF (postbagref5_comment_0.C R) Tryz.f112 10000 k [.str a0, .int .i64 a1] κ = postbagref5_comment_0.e a0 a1 (fun y0 y1 y2 => goto (postbagref5_comment_0.C R) (retK (postbagref5_comment_0.C R) Tryz.f112.results.toList (List.range 0) κ) 10000 k (placeOf Tryz.f112 2) (postbagref5_comment_0.s2 y0 y1 y2)) (fun r0 => κ [.int .i64 r0]) := by kernel_rfl
theorem postbagref5_comment_0.g2 (R : Type) (κ : List SV → Option R) : ∀ (f : Nat) (x0 : ByteArray) (x1 : Int) (x2 : Int), goto (postbagref5_comment_0.C R) (retK (postbagref5_comment_0.C R) Tryz.f112.results.toList (List.range 0) κ) 10000 f (placeOf Tryz.f112 2) (postbagref5_comment_0.s2 x0 x1 x2) = postbagref5_comment_0.L2 (fun r0 => κ [.int .i64 r0]) f x0 x1 x2
  | 0, _, _, _ => rfl
  | f + 1, x0, x1, x2 => by
    show start (postbagref5_comment_0.C R) (goto (postbagref5_comment_0.C R) (retK (postbagref5_comment_0.C R) Tryz.f112.results.toList (List.range 0) κ) 10000 f) (retK (postbagref5_comment_0.C R) Tryz.f112.results.toList (List.range 0) κ) 10000 (placeOf Tryz.f112 2) (postbagref5_comment_0.s2 x0 x1 x2) = _
    rw [postbagref5_comment_0.c2]
    simp only [postbagref5_comment_0.g2 R κ f]
    rfl
theorem postbagref5_comment_0.run (R : Type) (κ : List SV → Option R) (a0 : ByteArray) (a1 : Int) :
    runF (postbagref5_comment_0.C R) Tryz.f112 10000 fuelK [.str a0, .int .i64 a1] κ = postbagref5_comment_0 a0 a1 (fun r0 => κ [.int .i64 r0]) := by
  rw [postbagref5_comment_0.c]
  simp only [postbagref5_comment_0.g2 R κ fuelK]
  rfl
theorem postbagref5_comment_0.Γ_does {R : Type} (tab : Tab) (ht : TabOk tab) (g : Nat) : Does (R := R) Tryz.prog (tabTy tyL) tab g ((postbagref5_comment_0.C R).call g) := by
  refine does_of fun xs κ => ?_
  show DoesAt _ _ _ g xs κ (postbagref5_comment_0.Γ g xs κ)
  unfold postbagref5_comment_0.Γ
  split
  · exact DoesAt.none
theorem postbagref5_comment_0.does {R : Type} (tab : Tab) (ht : TabOk tab) (a0 : ByteArray) (a1 : Int) (κ : List SV → Option R) : DoesAt Tryz.prog (tabTy tyL) tab 112 [.str a0, .int .i64 a1] κ (postbagref5_comment_0 a0 a1 (fun r0 => κ [.int .i64 r0])) := by
  intro r h w vs Rt Ra bs hpre
  exact runF_sound tyOk (postbagref5_comment_0.Γ_does tab ht) (show Tryz.prog.funcs[112]? = some Tryz.f112 by kernel_rfl) (by kernel_rfl) ((postbagref5_comment_0.run R κ a0 a1).trans h) hpre
def postbagref5_between_0.Γ {R : Type} (g : Nat) (xs : List SV) (κ : List SV → Option R) : Option R :=
  match g with
  | _ => none
def postbagref5_between_0.h (n : Nat) : Option (List (Nat × List (Nat × Nat))) :=
  match n with
  | 3 => some [(0, [(0, 0)]), (1, [(0, 0)]), (2, [(0, 0)]), (3, [(0, 0)]), (10, [(0, 7)])]
  | _ => none
def postbagref5_between_0.C (R : Type) : Cfg R := ⟨tabTy tyL, postbagref5_between_0.Γ, fun _ => false, postbagref5_between_0.h⟩
def postbagref5_between_0.s3 (x0 : ByteArray) (x1 : Int) (x2 : Int) (x3 : Bool) (x4 : List AV) : St := ⟨mkS 64 [(0, .str x0), (1, .int .i64 x1), (2, .int .u8 x2), (3, .bool x3), (10, .own 704)], [(704, .row 5 x4 true)], top⟩
theorem postbagref5_between_0.c3 (R : Type) (J : List Item → St → Option R) (κ : List SV → Option R) (x0 : ByteArray) (x1 : Int) (x2 : Int) (x3 : Bool) (x4 : List AV) :
    start (postbagref5_between_0.C R) J (retK (postbagref5_between_0.C R) Tryz.f113.results.toList (List.range 0) κ) 10000 (placeOf Tryz.f113 3) (postbagref5_between_0.s3 x0 x1 x2 x3 x4) = postbagref5_between_0.t3 x0 x1 x2 x3 x4 (fun y0 y1 y2 y3 y4 => J (placeOf Tryz.f113 3) (postbagref5_between_0.s3 y0 y1 y2 y3 y4)) (fun r0 r1 => κ [.tup [.str r0, .int .i64 r1]]) := by kernel_rfl
theorem postbagref5_between_0.c (R : Type) (κ : List SV → Option R) (k : Nat) (a0 : ByteArray) (a1 : Int) (a2 : Int) (a3 : Bool) :
    runF (postbagref5_between_0.C R) Tryz.f113 10000 k [.str a0, .int .i64 a1, .int .u8 a2, .bool a3] κ = postbagref5_between_0.e a0 a1 a2 a3 (fun y0 y1 y2 y3 y4 => goto (postbagref5_between_0.C R) (retK (postbagref5_between_0.C R) Tryz.f113.results.toList (List.range 0) κ) 10000 k (placeOf Tryz.f113 3) (postbagref5_between_0.s3 y0 y1 y2 y3 y4)) (fun r0 r1 => κ [.tup [.str r0, .int .i64 r1]]) := by kernel_rfl
theorem postbagref5_between_0.g3 (R : Type) (κ : List SV → Option R) : ∀ (f : Nat) (x0 : ByteArray) (x1 : Int) (x2 : Int) (x3 : Bool) (x4 : List AV), goto (postbagref5_between_0.C R) (retK (postbagref5_between_0.C R) Tryz.f113.results.toList (List.range 0) κ) 10000 f (placeOf Tryz.f113 3) (postbagref5_between_0.s3 x0 x1 x2 x3 x4) = postbagref5_between_0.L3 (fun r0 r1 => κ [.tup [.str r0, .int .i64 r1]]) f x0 x1 x2 x3 x4
  | 0, _, _, _, _, _ => rfl
  | f + 1, x0, x1, x2, x3, x4 => by
    show start (postbagref5_between_0.C R) (goto (postbagref5_between_0.C R) (retK (postbagref5_between_0.C R) Tryz.f113.results.toList (List.range 0) κ) 10000 f) (retK (postbagref5_between_0.C R) Tryz.f113.results.toList (List.range 0) κ) 10000 (placeOf Tryz.f113 3) (postbagref5_between_0.s3 x0 x1 x2 x3 x4) = _
    rw [postbagref5_between_0.c3]
    simp only [postbagref5_between_0.g3 R κ f]
    rfl
theorem postbagref5_between_0.run (R : Type) (κ : List SV → Option R) (a0 : ByteArray) (a1 : Int) (a2 : Int) (a3 : Bool) :
    runF (postbagref5_between_0.C R) Tryz.f113 10000 fuelK [.str a0, .int .i64 a1, .int .u8 a2, .bool a3] κ = postbagref5_between_0 a0 a1 a2 a3 (fun r0 r1 => κ [.tup [.str r0, .int .i64 r1]]) := by
  rw [postbagref5_between_0.c]
  simp only [postbagref5_between_0.g3 R κ fuelK]
  rfl
theorem postbagref5_between_0.Γ_does {R : Type} (tab : Tab) (ht : TabOk tab) (g : Nat) : Does (R := R) Tryz.prog (tabTy tyL) tab g ((postbagref5_between_0.C R).call g) := by
  refine does_of fun xs κ => ?_
  show DoesAt _ _ _ g xs κ (postbagref5_between_0.Γ g xs κ)
  unfold postbagref5_between_0.Γ
  split
  · exact DoesAt.none
theorem postbagref5_between_0.does {R : Type} (tab : Tab) (ht : TabOk tab) (a0 : ByteArray) (a1 : Int) (a2 : Int) (a3 : Bool) (κ : List SV → Option R) : DoesAt Tryz.prog (tabTy tyL) tab 113 [.str a0, .int .i64 a1, .int .u8 a2, .bool a3] κ (postbagref5_between_0 a0 a1 a2 a3 (fun r0 r1 => κ [.tup [.str r0, .int .i64 r1]])) := by
  intro r h w vs Rt Ra bs hpre
  exact runF_sound tyOk (postbagref5_between_0.Γ_does tab ht) (show Tryz.prog.funcs[113]? = some Tryz.f113 by kernel_rfl) (by kernel_rfl) ((postbagref5_between_0.run R κ a0 a1 a2 a3).trans h) hpre
def postbagref5_isSign_0.Γ {R : Type} (g : Nat) (xs : List SV) (κ : List SV → Option R) : Option R :=
  match g with
  | _ => none
def postbagref5_isSign_0.h (n : Nat) : Option (List (Nat × List (Nat × Nat))) :=
  match n with
  | _ => none
def postbagref5_isSign_0.C (R : Type) : Cfg R := ⟨tabTy tyL, postbagref5_isSign_0.Γ, fun _ => false, postbagref5_isSign_0.h⟩
theorem postbagref5_isSign_0.c (R : Type) (κ : List SV → Option R) (k : Nat) (a0 : Int) :
    runF (postbagref5_isSign_0.C R) Tryz.f114 10000 k [.int .u8 a0] κ = postbagref5_isSign_0.e a0 (fun r0 => κ [.bool r0]) := by kernel_rfl
theorem postbagref5_isSign_0.run (R : Type) (κ : List SV → Option R) (a0 : Int) :
    runF (postbagref5_isSign_0.C R) Tryz.f114 10000 fuelK [.int .u8 a0] κ = postbagref5_isSign_0 a0 (fun r0 => κ [.bool r0]) := by
  rw [postbagref5_isSign_0.c]
  rfl
theorem postbagref5_isSign_0.Γ_does {R : Type} (tab : Tab) (ht : TabOk tab) (g : Nat) : Does (R := R) Tryz.prog (tabTy tyL) tab g ((postbagref5_isSign_0.C R).call g) := by
  refine does_of fun xs κ => ?_
  show DoesAt _ _ _ g xs κ (postbagref5_isSign_0.Γ g xs κ)
  unfold postbagref5_isSign_0.Γ
  split
  · exact DoesAt.none
theorem postbagref5_isSign_0.does {R : Type} (tab : Tab) (ht : TabOk tab) (a0 : Int) (κ : List SV → Option R) : DoesAt Tryz.prog (tabTy tyL) tab 114 [.int .u8 a0] κ (postbagref5_isSign_0 a0 (fun r0 => κ [.bool r0])) := by
  intro r h w vs Rt Ra bs hpre
  exact runF_sound tyOk (postbagref5_isSign_0.Γ_does tab ht) (show Tryz.prog.funcs[114]? = some Tryz.f114 by kernel_rfl) (by kernel_rfl) ((postbagref5_isSign_0.run R κ a0).trans h) hpre
def postbagref5_isSpace_0.Γ {R : Type} (g : Nat) (xs : List SV) (κ : List SV → Option R) : Option R :=
  match g with
  | _ => none
def postbagref5_isSpace_0.h (n : Nat) : Option (List (Nat × List (Nat × Nat))) :=
  match n with
  | _ => none
def postbagref5_isSpace_0.C (R : Type) : Cfg R := ⟨tabTy tyL, postbagref5_isSpace_0.Γ, fun _ => false, postbagref5_isSpace_0.h⟩
theorem postbagref5_isSpace_0.c (R : Type) (κ : List SV → Option R) (k : Nat) (a0 : Int) :
    runF (postbagref5_isSpace_0.C R) Tryz.f128 10000 k [.int .u8 a0] κ = postbagref5_isSpace_0.e a0 (fun r0 => κ [.bool r0]) := by kernel_rfl
theorem postbagref5_isSpace_0.run (R : Type) (κ : List SV → Option R) (a0 : Int) :
    runF (postbagref5_isSpace_0.C R) Tryz.f128 10000 fuelK [.int .u8 a0] κ = postbagref5_isSpace_0 a0 (fun r0 => κ [.bool r0]) := by
  rw [postbagref5_isSpace_0.c]
  rfl
theorem postbagref5_isSpace_0.Γ_does {R : Type} (tab : Tab) (ht : TabOk tab) (g : Nat) : Does (R := R) Tryz.prog (tabTy tyL) tab g ((postbagref5_isSpace_0.C R).call g) := by
  refine does_of fun xs κ => ?_
  show DoesAt _ _ _ g xs κ (postbagref5_isSpace_0.Γ g xs κ)
  unfold postbagref5_isSpace_0.Γ
  split
  · exact DoesAt.none
theorem postbagref5_isSpace_0.does {R : Type} (tab : Tab) (ht : TabOk tab) (a0 : Int) (κ : List SV → Option R) : DoesAt Tryz.prog (tabTy tyL) tab 128 [.int .u8 a0] κ (postbagref5_isSpace_0 a0 (fun r0 => κ [.bool r0])) := by
  intro r h w vs Rt Ra bs hpre
  exact runF_sound tyOk (postbagref5_isSpace_0.Γ_does tab ht) (show Tryz.prog.funcs[128]? = some Tryz.f128 by kernel_rfl) (by kernel_rfl) ((postbagref5_isSpace_0.run R κ a0).trans h) hpre
def postbagref5_isAtom_0.Γ {R : Type} (c1 : postbagref5_isSpace_0.F R) (c2 : postbagref5_isSign_0.F R) (g : Nat) (xs : List SV) (κ : List SV → Option R) : Option R :=
  match g with
  | 114 => (match xs with
    | [.int .u8 a0] => c2 a0 (fun r0 => κ [.bool r0])
    | _ => none)
  | 128 => (match xs with
    | [.int .u8 a0] => c1 a0 (fun r0 => κ [.bool r0])
    | _ => none)
  | _ => none
def postbagref5_isAtom_0.h (n : Nat) : Option (List (Nat × List (Nat × Nat))) :=
  match n with
  | _ => none
def postbagref5_isAtom_0.C (R : Type) (c1 : postbagref5_isSpace_0.F R) (c2 : postbagref5_isSign_0.F R) : Cfg R := ⟨tabTy tyL, postbagref5_isAtom_0.Γ c1 c2, fun _ => false, postbagref5_isAtom_0.h⟩
theorem postbagref5_isAtom_0.c (R : Type) (c1 : postbagref5_isSpace_0.F R) (c2 : postbagref5_isSign_0.F R) (κ : List SV → Option R) (k : Nat) (a0 : Int) :
    runF (postbagref5_isAtom_0.C R c1 c2) Tryz.f115 10000 k [.int .u8 a0] κ = postbagref5_isAtom_0.e c1 c2 a0 (fun r0 => κ [.bool r0]) := by kernel_rfl
theorem postbagref5_isAtom_0.run (R : Type) (κ : List SV → Option R) (a0 : Int) :
    runF (postbagref5_isAtom_0.C R postbagref5_isSpace_0 postbagref5_isSign_0) Tryz.f115 10000 fuelK [.int .u8 a0] κ = postbagref5_isAtom_0 a0 (fun r0 => κ [.bool r0]) := by
  rw [postbagref5_isAtom_0.c]
  rfl
theorem postbagref5_isAtom_0.Γ_does {R : Type} (tab : Tab) (ht : TabOk tab) (g : Nat) : Does (R := R) Tryz.prog (tabTy tyL) tab g ((postbagref5_isAtom_0.C R postbagref5_isSpace_0 postbagref5_isSign_0).call g) := by
  refine does_of fun xs κ => ?_
  show DoesAt _ _ _ g xs κ (postbagref5_isAtom_0.Γ postbagref5_isSpace_0 postbagref5_isSign_0 g xs κ)
  unfold postbagref5_isAtom_0.Γ
  split
  · split
    · exact postbagref5_isSign_0.does tab ht _ κ
    · exact DoesAt.none
  · split
    · exact postbagref5_isSpace_0.does tab ht _ κ
    · exact DoesAt.none
  · exact DoesAt.none
theorem postbagref5_isAtom_0.does {R : Type} (tab : Tab) (ht : TabOk tab) (a0 : Int) (κ : List SV → Option R) : DoesAt Tryz.prog (tabTy tyL) tab 115 [.int .u8 a0] κ (postbagref5_isAtom_0 a0 (fun r0 => κ [.bool r0])) := by
  intro r h w vs Rt Ra bs hpre
  exact runF_sound tyOk (postbagref5_isAtom_0.Γ_does tab ht) (show Tryz.prog.funcs[115]? = some Tryz.f115 by kernel_rfl) (by kernel_rfl) ((postbagref5_isAtom_0.run R κ a0).trans h) hpre
def postbagref5_pieces_0.Γ {R : Type} (c1 : postbagref5_comment_0.F R) (c2 : postbagref5_between_0.F R) (c3 : postbagref5_isSign_0.F R) (c4 : postbagref5_isAtom_0.F R) (g : Nat) (xs : List SV) (κ : List SV → Option R) : Option R :=
  match g with
  | 112 => (match xs with
    | [.str a0, .int .i64 a1] => c1 a0 a1 (fun r0 => κ [.int .i64 r0])
    | _ => none)
  | 113 => (match xs with
    | [.str a0, .int .i64 a1, .int .u8 a2, .bool a3] => c2 a0 a1 a2 a3 (fun r0 r1 => κ [.tup [.str r0, .int .i64 r1]])
    | _ => none)
  | 114 => (match xs with
    | [.int .u8 a0] => c3 a0 (fun r0 => κ [.bool r0])
    | _ => none)
  | 115 => (match xs with
    | [.int .u8 a0] => c4 a0 (fun r0 => κ [.bool r0])
    | _ => none)
  | _ => none
def postbagref5_pieces_0.h (n : Nat) : Option (List (Nat × List (Nat × Nat))) :=
  match n with
  | 3 => some [(0, [(0, 0)]), (3, [(0, 100)]), (4, [(0, 0)])]
  | 25 => some [(0, [(0, 0)]), (3, [(0, 0)]), (4, [(0, 0)]), (10, [(0, 0)])]
  | _ => none
def postbagref5_pieces_0.C (R : Type) (c1 : postbagref5_comment_0.F R) (c2 : postbagref5_between_0.F R) (c3 : postbagref5_isSign_0.F R) (c4 : postbagref5_isAtom_0.F R) : Cfg R := ⟨tabTy tyL, postbagref5_pieces_0.Γ c1 c2 c3 c4, fun _ => false, postbagref5_pieces_0.h⟩
def postbagref5_pieces_0.s3 (x0 : ByteArray) (x1 : Int) (x2 : List AV) : St := ⟨mkS 111 [(0, .str x0), (3, .own 256), (4, .int .i64 x1)], [(256, .row 98 x2 true)], top⟩
def postbagref5_pieces_0.s25 (x0 : ByteArray) (x1 : Int) (x2 : Int) (x3 : List AV) : St := ⟨mkS 111 [(0, .str x0), (3, .own 256), (4, .int .i64 x1), (10, .int .i64 x2)], [(256, .row 98 x3 true)], top⟩
theorem postbagref5_pieces_0.c3 (R : Type) (c1 : postbagref5_comment_0.F R) (c2 : postbagref5_between_0.F R) (c3 : postbagref5_isSign_0.F R) (c4 : postbagref5_isAtom_0.F R) (J : List Item → St → Option R) (κ : List SV → Option R) (x0 : ByteArray) (x1 : Int) (x2 : List AV) :
    start (postbagref5_pieces_0.C R c1 c2 c3 c4) J (retK (postbagref5_pieces_0.C R c1 c2 c3 c4) Tryz.f62.results.toList (List.range 0) κ) 10000 (placeOf Tryz.f62 3) (postbagref5_pieces_0.s3 x0 x1 x2) = postbagref5_pieces_0.t3 c1 c2 c3 c4 x0 x1 x2 (fun y0 y1 y2 => J (placeOf Tryz.f62 3) (postbagref5_pieces_0.s3 y0 y1 y2)) (fun y0 y1 y2 y3 => J (placeOf Tryz.f62 25) (postbagref5_pieces_0.s25 y0 y1 y2 y3)) (fun r0 => κ [.fr 98 r0 true]) := by kernel_rfl
theorem postbagref5_pieces_0.c25 (R : Type) (c1 : postbagref5_comment_0.F R) (c2 : postbagref5_between_0.F R) (c3 : postbagref5_isSign_0.F R) (c4 : postbagref5_isAtom_0.F R) (J : List Item → St → Option R) (κ : List SV → Option R) (x0 : ByteArray) (x1 : Int) (x2 : Int) (x3 : List AV) :
    start (postbagref5_pieces_0.C R c1 c2 c3 c4) J (retK (postbagref5_pieces_0.C R c1 c2 c3 c4) Tryz.f62.results.toList (List.range 0) κ) 10000 (placeOf Tryz.f62 25) (postbagref5_pieces_0.s25 x0 x1 x2 x3) = postbagref5_pieces_0.t25 c1 c2 c3 c4 x0 x1 x2 x3 (fun y0 y1 y2 => J (placeOf Tryz.f62 3) (postbagref5_pieces_0.s3 y0 y1 y2)) (fun y0 y1 y2 y3 => J (placeOf Tryz.f62 25) (postbagref5_pieces_0.s25 y0 y1 y2 y3)) (fun r0 => κ [.fr 98 r0 true]) := by kernel_rfl
theorem postbagref5_pieces_0.c (R : Type) (c1 : postbagref5_comment_0.F R) (c2 : postbagref5_between_0.F R) (c3 : postbagref5_isSign_0.F R) (c4 : postbagref5_isAtom_0.F R) (κ : List SV → Option R) (k : Nat) (a0 : ByteArray) :
    runF (postbagref5_pieces_0.C R c1 c2 c3 c4) Tryz.f62 10000 k [.str a0] κ = postbagref5_pieces_0.e c1 c2 c3 c4 a0 (fun y0 y1 y2 => goto (postbagref5_pieces_0.C R c1 c2 c3 c4) (retK (postbagref5_pieces_0.C R c1 c2 c3 c4) Tryz.f62.results.toList (List.range 0) κ) 10000 k (placeOf Tryz.f62 3) (postbagref5_pieces_0.s3 y0 y1 y2)) (fun y0 y1 y2 y3 => goto (postbagref5_pieces_0.C R c1 c2 c3 c4) (retK (postbagref5_pieces_0.C R c1 c2 c3 c4) Tryz.f62.results.toList (List.range 0) κ) 10000 k (placeOf Tryz.f62 25) (postbagref5_pieces_0.s25 y0 y1 y2 y3)) (fun r0 => κ [.fr 98 r0 true]) := by kernel_rfl
theorem postbagref5_pieces_0.gM3 (R : Type) (c1 : postbagref5_comment_0.F R) (c2 : postbagref5_between_0.F R) (c3 : postbagref5_isSign_0.F R) (c4 : postbagref5_isAtom_0.F R) (κ : List SV → Option R) : ∀ (f : Nat), (∀ (x0 : ByteArray) (x1 : Int) (x2 : List AV), goto (postbagref5_pieces_0.C R c1 c2 c3 c4) (retK (postbagref5_pieces_0.C R c1 c2 c3 c4) Tryz.f62.results.toList (List.range 0) κ) 10000 f (placeOf Tryz.f62 3) (postbagref5_pieces_0.s3 x0 x1 x2) = postbagref5_pieces_0.L3 c1 c2 c3 c4 (fun r0 => κ [.fr 98 r0 true]) f x0 x1 x2) ∧
    (∀ (x0 : ByteArray) (x1 : Int) (x2 : Int) (x3 : List AV), goto (postbagref5_pieces_0.C R c1 c2 c3 c4) (retK (postbagref5_pieces_0.C R c1 c2 c3 c4) Tryz.f62.results.toList (List.range 0) κ) 10000 f (placeOf Tryz.f62 25) (postbagref5_pieces_0.s25 x0 x1 x2 x3) = postbagref5_pieces_0.L25 c1 c2 c3 c4 (fun r0 => κ [.fr 98 r0 true]) f x0 x1 x2 x3)
  | 0 => ⟨fun _ _ _ => rfl, fun _ _ _ _ => rfl⟩
  | f + 1 => by
    obtain ⟨ih0, ih1⟩ := postbagref5_pieces_0.gM3 R c1 c2 c3 c4 κ f
    refine ⟨?_, ?_⟩
    · intro x0 x1 x2
      show start (postbagref5_pieces_0.C R c1 c2 c3 c4) (goto (postbagref5_pieces_0.C R c1 c2 c3 c4) (retK (postbagref5_pieces_0.C R c1 c2 c3 c4) Tryz.f62.results.toList (List.range 0) κ) 10000 f) (retK (postbagref5_pieces_0.C R c1 c2 c3 c4) Tryz.f62.results.toList (List.range 0) κ) 10000 (placeOf Tryz.f62 3) (postbagref5_pieces_0.s3 x0 x1 x2) = _
      rw [postbagref5_pieces_0.c3]
      simp only [ih0, ih1]
      rfl
    · intro x0 x1 x2 x3
      show start (postbagref5_pieces_0.C R c1 c2 c3 c4) (goto (postbagref5_pieces_0.C R c1 c2 c3 c4) (retK (postbagref5_pieces_0.C R c1 c2 c3 c4) Tryz.f62.results.toList (List.range 0) κ) 10000 f) (retK (postbagref5_pieces_0.C R c1 c2 c3 c4) Tryz.f62.results.toList (List.range 0) κ) 10000 (placeOf Tryz.f62 25) (postbagref5_pieces_0.s25 x0 x1 x2 x3) = _
      rw [postbagref5_pieces_0.c25]
      simp only [ih0, ih1]
      rfl
theorem postbagref5_pieces_0.g3 (R : Type) (c1 : postbagref5_comment_0.F R) (c2 : postbagref5_between_0.F R) (c3 : postbagref5_isSign_0.F R) (c4 : postbagref5_isAtom_0.F R) (κ : List SV → Option R) (f : Nat) (x0 : ByteArray) (x1 : Int) (x2 : List AV) : goto (postbagref5_pieces_0.C R c1 c2 c3 c4) (retK (postbagref5_pieces_0.C R c1 c2 c3 c4) Tryz.f62.results.toList (List.range 0) κ) 10000 f (placeOf Tryz.f62 3) (postbagref5_pieces_0.s3 x0 x1 x2) = postbagref5_pieces_0.L3 c1 c2 c3 c4 (fun r0 => κ [.fr 98 r0 true]) f x0 x1 x2 := (postbagref5_pieces_0.gM3 R c1 c2 c3 c4 κ f).1 x0 x1 x2
theorem postbagref5_pieces_0.g25 (R : Type) (c1 : postbagref5_comment_0.F R) (c2 : postbagref5_between_0.F R) (c3 : postbagref5_isSign_0.F R) (c4 : postbagref5_isAtom_0.F R) (κ : List SV → Option R) (f : Nat) (x0 : ByteArray) (x1 : Int) (x2 : Int) (x3 : List AV) : goto (postbagref5_pieces_0.C R c1 c2 c3 c4) (retK (postbagref5_pieces_0.C R c1 c2 c3 c4) Tryz.f62.results.toList (List.range 0) κ) 10000 f (placeOf Tryz.f62 25) (postbagref5_pieces_0.s25 x0 x1 x2 x3) = postbagref5_pieces_0.L25 c1 c2 c3 c4 (fun r0 => κ [.fr 98 r0 true]) f x0 x1 x2 x3 := (postbagref5_pieces_0.gM3 R c1 c2 c3 c4 κ f).2 x0 x1 x2 x3
theorem postbagref5_pieces_0.run (R : Type) (κ : List SV → Option R) (a0 : ByteArray) :
    runF (postbagref5_pieces_0.C R postbagref5_comment_0 postbagref5_between_0 postbagref5_isSign_0 postbagref5_isAtom_0) Tryz.f62 10000 fuelK [.str a0] κ = postbagref5_pieces_0 a0 (fun r0 => κ [.fr 98 r0 true]) := by
  rw [postbagref5_pieces_0.c]
  simp only [postbagref5_pieces_0.g3 R postbagref5_comment_0 postbagref5_between_0 postbagref5_isSign_0 postbagref5_isAtom_0 κ fuelK, postbagref5_pieces_0.g25 R postbagref5_comment_0 postbagref5_between_0 postbagref5_isSign_0 postbagref5_isAtom_0 κ fuelK]
  rfl
theorem postbagref5_pieces_0.Γ_does {R : Type} (tab : Tab) (ht : TabOk tab) (g : Nat) : Does (R := R) Tryz.prog (tabTy tyL) tab g ((postbagref5_pieces_0.C R postbagref5_comment_0 postbagref5_between_0 postbagref5_isSign_0 postbagref5_isAtom_0).call g) := by
  refine does_of fun xs κ => ?_
  show DoesAt _ _ _ g xs κ (postbagref5_pieces_0.Γ postbagref5_comment_0 postbagref5_between_0 postbagref5_isSign_0 postbagref5_isAtom_0 g xs κ)
  unfold postbagref5_pieces_0.Γ
  split
  · split
    · exact postbagref5_comment_0.does tab ht _ _ κ
    · exact DoesAt.none
  · split
    · exact postbagref5_between_0.does tab ht _ _ _ _ κ
    · exact DoesAt.none
  · split
    · exact postbagref5_isSign_0.does tab ht _ κ
    · exact DoesAt.none
  · split
    · exact postbagref5_isAtom_0.does tab ht _ κ
    · exact DoesAt.none
  · exact DoesAt.none
theorem postbagref5_pieces_0.does {R : Type} (tab : Tab) (ht : TabOk tab) (a0 : ByteArray) (κ : List SV → Option R) : DoesAt Tryz.prog (tabTy tyL) tab 62 [.str a0] κ (postbagref5_pieces_0 a0 (fun r0 => κ [.fr 98 r0 true])) := by
  intro r h w vs Rt Ra bs hpre
  exact runF_sound tyOk (postbagref5_pieces_0.Γ_does tab ht) (show Tryz.prog.funcs[62]? = some Tryz.f62 by kernel_rfl) (by kernel_rfl) ((postbagref5_pieces_0.run R κ a0).trans h) hpre
def postbagref5_find_oi.Γ {R : Type} (g : Nat) (xs : List SV) (κ : List SV → Option R) : Option R :=
  match g with
  | _ => none
def postbagref5_find_oi.h (n : Nat) : Option (List (Nat × List (Nat × Nat))) :=
  match n with
  | 2 => some [(0, [(0, 0)]), (1, [(0, 0)]), (5, [(0, 0)])]
  | _ => none
def postbagref5_find_oi.C (R : Type) : Cfg R := ⟨tabTy tyL, postbagref5_find_oi.Γ, fun _ => false, postbagref5_find_oi.h⟩
def postbagref5_find_oi.s2 (x0 : List AV) (x1 : Int) (x2 : Int) : St := ⟨mkS 22 [(0, .ro 98 x0 false), (1, .int .u8 x1), (5, .int .i64 x2)], [], top⟩
theorem postbagref5_find_oi.c2 (R : Type) (J : List Item → St → Option R) (κ : List SV → Option R) (x0 : List AV) (x1 : Int) (x2 : Int) :
    start (postbagref5_find_oi.C R) J (retK (postbagref5_find_oi.C R) Tryz.f71.results.toList (List.range 0) κ) 10000 (placeOf Tryz.f71 2) (postbagref5_find_oi.s2 x0 x1 x2) = postbagref5_find_oi.t2 x0 x1 x2 (fun y0 y1 y2 => J (placeOf Tryz.f71 2) (postbagref5_find_oi.s2 y0 y1 y2)) (fun r0 => κ [.int .i64 r0]) := by kernel_rfl
theorem postbagref5_find_oi.c (R : Type) (κ : List SV → Option R) (k : Nat) (a0 : List AV) (a1 : Int) :
    runF (postbagref5_find_oi.C R) Tryz.f71 10000 k [.ro 98 a0 false, .int .u8 a1] κ = postbagref5_find_oi.e a0 a1 (fun y0 y1 y2 => goto (postbagref5_find_oi.C R) (retK (postbagref5_find_oi.C R) Tryz.f71.results.toList (List.range 0) κ) 10000 k (placeOf Tryz.f71 2) (postbagref5_find_oi.s2 y0 y1 y2)) (fun r0 => κ [.int .i64 r0]) := by kernel_rfl
theorem postbagref5_find_oi.g2 (R : Type) (κ : List SV → Option R) : ∀ (f : Nat) (x0 : List AV) (x1 : Int) (x2 : Int), goto (postbagref5_find_oi.C R) (retK (postbagref5_find_oi.C R) Tryz.f71.results.toList (List.range 0) κ) 10000 f (placeOf Tryz.f71 2) (postbagref5_find_oi.s2 x0 x1 x2) = postbagref5_find_oi.L2 (fun r0 => κ [.int .i64 r0]) f x0 x1 x2
  | 0, _, _, _ => rfl
  | f + 1, x0, x1, x2 => by
    show start (postbagref5_find_oi.C R) (goto (postbagref5_find_oi.C R) (retK (postbagref5_find_oi.C R) Tryz.f71.results.toList (List.range 0) κ) 10000 f) (retK (postbagref5_find_oi.C R) Tryz.f71.results.toList (List.range 0) κ) 10000 (placeOf Tryz.f71 2) (postbagref5_find_oi.s2 x0 x1 x2) = _
    rw [postbagref5_find_oi.c2]
    simp only [postbagref5_find_oi.g2 R κ f]
    rfl
theorem postbagref5_find_oi.run (R : Type) (κ : List SV → Option R) (a0 : List AV) (a1 : Int) :
    runF (postbagref5_find_oi.C R) Tryz.f71 10000 fuelK [.ro 98 a0 false, .int .u8 a1] κ = postbagref5_find_oi a0 a1 (fun r0 => κ [.int .i64 r0]) := by
  rw [postbagref5_find_oi.c]
  simp only [postbagref5_find_oi.g2 R κ fuelK]
  rfl
theorem postbagref5_find_oi.Γ_does {R : Type} (tab : Tab) (ht : TabOk tab) (g : Nat) : Does (R := R) Tryz.prog (tabTy tyL) tab g ((postbagref5_find_oi.C R).call g) := by
  refine does_of fun xs κ => ?_
  show DoesAt _ _ _ g xs κ (postbagref5_find_oi.Γ g xs κ)
  unfold postbagref5_find_oi.Γ
  split
  · exact DoesAt.none
theorem postbagref5_find_oi.does {R : Type} (tab : Tab) (ht : TabOk tab) (a0 : List AV) (a1 : Int) (κ : List SV → Option R) : DoesAt Tryz.prog (tabTy tyL) tab 71 [.ro 98 a0 false, .int .u8 a1] κ (postbagref5_find_oi a0 a1 (fun r0 => κ [.int .i64 r0])) := by
  intro r h w vs Rt Ra bs hpre
  exact runF_sound tyOk (postbagref5_find_oi.Γ_does tab ht) (show Tryz.prog.funcs[71]? = some Tryz.f71 by kernel_rfl) (by kernel_rfl) ((postbagref5_find_oi.run R κ a0 a1).trans h) hpre
def postbagref5_find_0.Γ {R : Type} (g : Nat) (xs : List SV) (κ : List SV → Option R) : Option R :=
  match g with
  | _ => none
def postbagref5_find_0.h (n : Nat) : Option (List (Nat × List (Nat × Nat))) :=
  match n with
  | 2 => some [(0, [(0, 0)]), (1, [(0, 0)]), (5, [(0, 0)])]
  | _ => none
def postbagref5_find_0.C (R : Type) : Cfg R := ⟨tabTy tyL, postbagref5_find_0.Γ, fun _ => false, postbagref5_find_0.h⟩
def postbagref5_find_0.s2 (x0 : List AV) (x1 : Int) (x2 : Int) : St := ⟨mkS 22 [(0, .ro 98 x0 true), (1, .int .u8 x1), (5, .int .i64 x2)], [], top⟩
theorem postbagref5_find_0.c2 (R : Type) (J : List Item → St → Option R) (κ : List SV → Option R) (x0 : List AV) (x1 : Int) (x2 : Int) :
    start (postbagref5_find_0.C R) J (retK (postbagref5_find_0.C R) Tryz.f71.results.toList (List.range 0) κ) 10000 (placeOf Tryz.f71 2) (postbagref5_find_0.s2 x0 x1 x2) = postbagref5_find_0.t2 x0 x1 x2 (fun y0 y1 y2 => J (placeOf Tryz.f71 2) (postbagref5_find_0.s2 y0 y1 y2)) (fun r0 => κ [.int .i64 r0]) := by kernel_rfl
theorem postbagref5_find_0.c (R : Type) (κ : List SV → Option R) (k : Nat) (a0 : List AV) (a1 : Int) :
    runF (postbagref5_find_0.C R) Tryz.f71 10000 k [.ro 98 a0 true, .int .u8 a1] κ = postbagref5_find_0.e a0 a1 (fun y0 y1 y2 => goto (postbagref5_find_0.C R) (retK (postbagref5_find_0.C R) Tryz.f71.results.toList (List.range 0) κ) 10000 k (placeOf Tryz.f71 2) (postbagref5_find_0.s2 y0 y1 y2)) (fun r0 => κ [.int .i64 r0]) := by kernel_rfl
theorem postbagref5_find_0.g2 (R : Type) (κ : List SV → Option R) : ∀ (f : Nat) (x0 : List AV) (x1 : Int) (x2 : Int), goto (postbagref5_find_0.C R) (retK (postbagref5_find_0.C R) Tryz.f71.results.toList (List.range 0) κ) 10000 f (placeOf Tryz.f71 2) (postbagref5_find_0.s2 x0 x1 x2) = postbagref5_find_0.L2 (fun r0 => κ [.int .i64 r0]) f x0 x1 x2
  | 0, _, _, _ => rfl
  | f + 1, x0, x1, x2 => by
    show start (postbagref5_find_0.C R) (goto (postbagref5_find_0.C R) (retK (postbagref5_find_0.C R) Tryz.f71.results.toList (List.range 0) κ) 10000 f) (retK (postbagref5_find_0.C R) Tryz.f71.results.toList (List.range 0) κ) 10000 (placeOf Tryz.f71 2) (postbagref5_find_0.s2 x0 x1 x2) = _
    rw [postbagref5_find_0.c2]
    simp only [postbagref5_find_0.g2 R κ f]
    rfl
theorem postbagref5_find_0.run (R : Type) (κ : List SV → Option R) (a0 : List AV) (a1 : Int) :
    runF (postbagref5_find_0.C R) Tryz.f71 10000 fuelK [.ro 98 a0 true, .int .u8 a1] κ = postbagref5_find_0 a0 a1 (fun r0 => κ [.int .i64 r0]) := by
  rw [postbagref5_find_0.c]
  simp only [postbagref5_find_0.g2 R κ fuelK]
  rfl
theorem postbagref5_find_0.Γ_does {R : Type} (tab : Tab) (ht : TabOk tab) (g : Nat) : Does (R := R) Tryz.prog (tabTy tyL) tab g ((postbagref5_find_0.C R).call g) := by
  refine does_of fun xs κ => ?_
  show DoesAt _ _ _ g xs κ (postbagref5_find_0.Γ g xs κ)
  unfold postbagref5_find_0.Γ
  split
  · exact DoesAt.none
theorem postbagref5_find_0.does {R : Type} (tab : Tab) (ht : TabOk tab) (a0 : List AV) (a1 : Int) (κ : List SV → Option R) : DoesAt Tryz.prog (tabTy tyL) tab 71 [.ro 98 a0 true, .int .u8 a1] κ (postbagref5_find_0 a0 a1 (fun r0 => κ [.int .i64 r0])) := by
  intro r h w vs Rt Ra bs hpre
  exact runF_sound tyOk (postbagref5_find_0.Γ_does tab ht) (show Tryz.prog.funcs[71]? = some Tryz.f71 by kernel_rfl) (by kernel_rfl) ((postbagref5_find_0.run R κ a0 a1).trans h) hpre
def postbagref5_closed_0.Γ {R : Type} (g : Nat) (xs : List SV) (κ : List SV → Option R) : Option R :=
  match g with
  | _ => none
def postbagref5_closed_0.h (n : Nat) : Option (List (Nat × List (Nat × Nat))) :=
  match n with
  | 3 => some [(0, [(0, 0)]), (3, [(0, 0)]), (4, [(0, 0)])]
  | _ => none
def postbagref5_closed_0.C (R : Type) : Cfg R := ⟨tabTy tyL, postbagref5_closed_0.Γ, fun _ => false, postbagref5_closed_0.h⟩
def postbagref5_closed_0.s3 (x0 : List AV) (x1 : ByteArray) (x2 : Int) : St := ⟨mkS 19 [(0, .ro 98 x0 true), (3, .str x1), (4, .int .i64 x2)], [], top⟩
theorem postbagref5_closed_0.c3 (R : Type) (J : List Item → St → Option R) (κ : List SV → Option R) (x0 : List AV) (x1 : ByteArray) (x2 : Int) :
    start (postbagref5_closed_0.C R) J (retK (postbagref5_closed_0.C R) Tryz.f72.results.toList (List.range 0) κ) 10000 (placeOf Tryz.f72 3) (postbagref5_closed_0.s3 x0 x1 x2) = postbagref5_closed_0.t3 x0 x1 x2 (fun y0 y1 y2 => J (placeOf Tryz.f72 3) (postbagref5_closed_0.s3 y0 y1 y2)) (fun r0 => κ [.str r0]) := by kernel_rfl
theorem postbagref5_closed_0.c (R : Type) (κ : List SV → Option R) (k : Nat) (a0 : List AV) :
    runF (postbagref5_closed_0.C R) Tryz.f72 10000 k [.ro 98 a0 true] κ = postbagref5_closed_0.e a0 (fun y0 y1 y2 => goto (postbagref5_closed_0.C R) (retK (postbagref5_closed_0.C R) Tryz.f72.results.toList (List.range 0) κ) 10000 k (placeOf Tryz.f72 3) (postbagref5_closed_0.s3 y0 y1 y2)) (fun r0 => κ [.str r0]) := by kernel_rfl
theorem postbagref5_closed_0.g3 (R : Type) (κ : List SV → Option R) : ∀ (f : Nat) (x0 : List AV) (x1 : ByteArray) (x2 : Int), goto (postbagref5_closed_0.C R) (retK (postbagref5_closed_0.C R) Tryz.f72.results.toList (List.range 0) κ) 10000 f (placeOf Tryz.f72 3) (postbagref5_closed_0.s3 x0 x1 x2) = postbagref5_closed_0.L3 (fun r0 => κ [.str r0]) f x0 x1 x2
  | 0, _, _, _ => rfl
  | f + 1, x0, x1, x2 => by
    show start (postbagref5_closed_0.C R) (goto (postbagref5_closed_0.C R) (retK (postbagref5_closed_0.C R) Tryz.f72.results.toList (List.range 0) κ) 10000 f) (retK (postbagref5_closed_0.C R) Tryz.f72.results.toList (List.range 0) κ) 10000 (placeOf Tryz.f72 3) (postbagref5_closed_0.s3 x0 x1 x2) = _
    rw [postbagref5_closed_0.c3]
    simp only [postbagref5_closed_0.g3 R κ f]
    rfl
theorem postbagref5_closed_0.run (R : Type) (κ : List SV → Option R) (a0 : List AV) :
    runF (postbagref5_closed_0.C R) Tryz.f72 10000 fuelK [.ro 98 a0 true] κ = postbagref5_closed_0 a0 (fun r0 => κ [.str r0]) := by
  rw [postbagref5_closed_0.c]
  simp only [postbagref5_closed_0.g3 R κ fuelK]
  rfl
theorem postbagref5_closed_0.Γ_does {R : Type} (tab : Tab) (ht : TabOk tab) (g : Nat) : Does (R := R) Tryz.prog (tabTy tyL) tab g ((postbagref5_closed_0.C R).call g) := by
  refine does_of fun xs κ => ?_
  show DoesAt _ _ _ g xs κ (postbagref5_closed_0.Γ g xs κ)
  unfold postbagref5_closed_0.Γ
  split
  · exact DoesAt.none
theorem postbagref5_closed_0.does {R : Type} (tab : Tab) (ht : TabOk tab) (a0 : List AV) (κ : List SV → Option R) : DoesAt Tryz.prog (tabTy tyL) tab 72 [.ro 98 a0 true] κ (postbagref5_closed_0 a0 (fun r0 => κ [.str r0])) := by
  intro r h w vs Rt Ra bs hpre
  exact runF_sound tyOk (postbagref5_closed_0.Γ_does tab ht) (show Tryz.prog.funcs[72]? = some Tryz.f72 by kernel_rfl) (by kernel_rfl) ((postbagref5_closed_0.run R κ a0).trans h) hpre
def postbagref5_Ids_0.Γ {R : Type} (c1 : postbagref5_pieces_0.F R) (c2 : postbagref5_find_0.F R) (c3 : postbagref5_closed_0.F R) (g : Nat) (xs : List SV) (κ : List SV → Option R) : Option R :=
  match g with
  | 62 => (match xs with
    | [.str a0] => c1 a0 (fun r0 => κ [.fr 98 r0 true])
    | _ => none)
  | 71 => (match xs with
    | [.ro 98 a0 true, .int .u8 a1] => c2 a0 a1 (fun r0 => κ [.int .i64 r0])
    | _ => none)
  | 72 => (match xs with
    | [.ro 98 a0 true] => c3 a0 (fun r0 => κ [.str r0])
    | _ => none)
  | _ => none
def postbagref5_Ids_0.h (n : Nat) : Option (List (Nat × List (Nat × Nat))) :=
  match n with
  | 3 => some [(3, [(0, 11)]), (4, [(0, 1)])]
  | 13 => some [(3, [(0, 0)]), (4, [(0, 0)]), (6, [(0, 0)]), (7, [(0, 0)]), (8, [(0, 0)])]
  | 19 => some [(3, [(0, 1)])]
  | _ => none
def postbagref5_Ids_0.C (R : Type) (c1 : postbagref5_pieces_0.F R) (c2 : postbagref5_find_0.F R) (c3 : postbagref5_closed_0.F R) : Cfg R := ⟨tabTy tyL, postbagref5_Ids_0.Γ c1 c2 c3, fun _ => false, postbagref5_Ids_0.h⟩
def postbagref5_Ids_0.s3 (x0 : List AV) (x1 : List AV) : St := ⟨mkS 65 [(3, .own 256), (4, .ro 98 x0 true)], [(256, .row 9 x1 true)], top⟩
def postbagref5_Ids_0.s13 (x0 : List AV) (x1 : ByteArray) (x2 : Bool) (x3 : Int) (x4 : List AV) : St := ⟨mkS 65 [(3, .own 256), (4, .ro 98 x0 true), (6, .str x1), (7, .bool x2), (8, .int .i64 x3)], [(256, .row 9 x4 true)], top⟩
def postbagref5_Ids_0.s19 (x0 : List AV) : St := ⟨mkS 65 [(3, .ro 9 x0 true)], [], top⟩
theorem postbagref5_Ids_0.c3 (R : Type) (c1 : postbagref5_pieces_0.F R) (c2 : postbagref5_find_0.F R) (c3 : postbagref5_closed_0.F R) (J : List Item → St → Option R) (κ : List SV → Option R) (x0 : List AV) (x1 : List AV) :
    start (postbagref5_Ids_0.C R c1 c2 c3) J (retK (postbagref5_Ids_0.C R c1 c2 c3) Tryz.f24.results.toList (List.range 0) κ) 10000 (placeOf Tryz.f24 3) (postbagref5_Ids_0.s3 x0 x1) = postbagref5_Ids_0.t3 c1 c2 c3 x0 x1 (fun y0 y1 => J (placeOf Tryz.f24 3) (postbagref5_Ids_0.s3 y0 y1)) (fun y0 y1 y2 y3 y4 => J (placeOf Tryz.f24 13) (postbagref5_Ids_0.s13 y0 y1 y2 y3 y4)) (fun y0 => J (placeOf Tryz.f24 19) (postbagref5_Ids_0.s19 y0)) (fun r0 => κ [.fr 9 r0 true]) (fun r0 => κ [.ro 9 r0 true]) := by kernel_rfl
theorem postbagref5_Ids_0.c13 (R : Type) (c1 : postbagref5_pieces_0.F R) (c2 : postbagref5_find_0.F R) (c3 : postbagref5_closed_0.F R) (J : List Item → St → Option R) (κ : List SV → Option R) (x0 : List AV) (x1 : ByteArray) (x2 : Bool) (x3 : Int) (x4 : List AV) :
    start (postbagref5_Ids_0.C R c1 c2 c3) J (retK (postbagref5_Ids_0.C R c1 c2 c3) Tryz.f24.results.toList (List.range 0) κ) 10000 (placeOf Tryz.f24 13) (postbagref5_Ids_0.s13 x0 x1 x2 x3 x4) = postbagref5_Ids_0.t13 c1 c2 c3 x0 x1 x2 x3 x4 (fun y0 y1 => J (placeOf Tryz.f24 3) (postbagref5_Ids_0.s3 y0 y1)) (fun y0 y1 y2 y3 y4 => J (placeOf Tryz.f24 13) (postbagref5_Ids_0.s13 y0 y1 y2 y3 y4)) (fun y0 => J (placeOf Tryz.f24 19) (postbagref5_Ids_0.s19 y0)) (fun r0 => κ [.fr 9 r0 true]) (fun r0 => κ [.ro 9 r0 true]) := by kernel_rfl
theorem postbagref5_Ids_0.c19 (R : Type) (c1 : postbagref5_pieces_0.F R) (c2 : postbagref5_find_0.F R) (c3 : postbagref5_closed_0.F R) (J : List Item → St → Option R) (κ : List SV → Option R) (x0 : List AV) :
    start (postbagref5_Ids_0.C R c1 c2 c3) J (retK (postbagref5_Ids_0.C R c1 c2 c3) Tryz.f24.results.toList (List.range 0) κ) 10000 (placeOf Tryz.f24 19) (postbagref5_Ids_0.s19 x0) = postbagref5_Ids_0.t19 c1 c2 c3 x0 (fun y0 y1 => J (placeOf Tryz.f24 3) (postbagref5_Ids_0.s3 y0 y1)) (fun y0 y1 y2 y3 y4 => J (placeOf Tryz.f24 13) (postbagref5_Ids_0.s13 y0 y1 y2 y3 y4)) (fun y0 => J (placeOf Tryz.f24 19) (postbagref5_Ids_0.s19 y0)) (fun r0 => κ [.fr 9 r0 true]) (fun r0 => κ [.ro 9 r0 true]) := by kernel_rfl
theorem postbagref5_Ids_0.c (R : Type) (c1 : postbagref5_pieces_0.F R) (c2 : postbagref5_find_0.F R) (c3 : postbagref5_closed_0.F R) (κ : List SV → Option R) (k : Nat) (a0 : ByteArray) :
    runF (postbagref5_Ids_0.C R c1 c2 c3) Tryz.f24 10000 k [.str a0] κ = postbagref5_Ids_0.e c1 c2 c3 a0 (fun y0 y1 => goto (postbagref5_Ids_0.C R c1 c2 c3) (retK (postbagref5_Ids_0.C R c1 c2 c3) Tryz.f24.results.toList (List.range 0) κ) 10000 k (placeOf Tryz.f24 3) (postbagref5_Ids_0.s3 y0 y1)) (fun y0 y1 y2 y3 y4 => goto (postbagref5_Ids_0.C R c1 c2 c3) (retK (postbagref5_Ids_0.C R c1 c2 c3) Tryz.f24.results.toList (List.range 0) κ) 10000 k (placeOf Tryz.f24 13) (postbagref5_Ids_0.s13 y0 y1 y2 y3 y4)) (fun y0 => goto (postbagref5_Ids_0.C R c1 c2 c3) (retK (postbagref5_Ids_0.C R c1 c2 c3) Tryz.f24.results.toList (List.range 0) κ) 10000 k (placeOf Tryz.f24 19) (postbagref5_Ids_0.s19 y0)) (fun r0 => κ [.fr 9 r0 true]) (fun r0 => κ [.ro 9 r0 true]) := by kernel_rfl
theorem postbagref5_Ids_0.g19 (R : Type) (c1 : postbagref5_pieces_0.F R) (c2 : postbagref5_find_0.F R) (c3 : postbagref5_closed_0.F R) (κ : List SV → Option R) : ∀ (f : Nat) (x0 : List AV), goto (postbagref5_Ids_0.C R c1 c2 c3) (retK (postbagref5_Ids_0.C R c1 c2 c3) Tryz.f24.results.toList (List.range 0) κ) 10000 f (placeOf Tryz.f24 19) (postbagref5_Ids_0.s19 x0) = postbagref5_Ids_0.L19 c1 c2 c3 (fun r0 => κ [.fr 9 r0 true]) (fun r0 => κ [.ro 9 r0 true]) f x0
  | 0, _ => rfl
  | f + 1, x0 => by
    show start (postbagref5_Ids_0.C R c1 c2 c3) (goto (postbagref5_Ids_0.C R c1 c2 c3) (retK (postbagref5_Ids_0.C R c1 c2 c3) Tryz.f24.results.toList (List.range 0) κ) 10000 f) (retK (postbagref5_Ids_0.C R c1 c2 c3) Tryz.f24.results.toList (List.range 0) κ) 10000 (placeOf Tryz.f24 19) (postbagref5_Ids_0.s19 x0) = _
    rw [postbagref5_Ids_0.c19]
    skip
    rfl
theorem postbagref5_Ids_0.gM3 (R : Type) (c1 : postbagref5_pieces_0.F R) (c2 : postbagref5_find_0.F R) (c3 : postbagref5_closed_0.F R) (κ : List SV → Option R) : ∀ (f : Nat), (∀ (x0 : List AV) (x1 : List AV), goto (postbagref5_Ids_0.C R c1 c2 c3) (retK (postbagref5_Ids_0.C R c1 c2 c3) Tryz.f24.results.toList (List.range 0) κ) 10000 f (placeOf Tryz.f24 3) (postbagref5_Ids_0.s3 x0 x1) = postbagref5_Ids_0.L3 c1 c2 c3 (fun r0 => κ [.fr 9 r0 true]) (fun r0 => κ [.ro 9 r0 true]) f x0 x1) ∧
    (∀ (x0 : List AV) (x1 : ByteArray) (x2 : Bool) (x3 : Int) (x4 : List AV), goto (postbagref5_Ids_0.C R c1 c2 c3) (retK (postbagref5_Ids_0.C R c1 c2 c3) Tryz.f24.results.toList (List.range 0) κ) 10000 f (placeOf Tryz.f24 13) (postbagref5_Ids_0.s13 x0 x1 x2 x3 x4) = postbagref5_Ids_0.L13 c1 c2 c3 (fun r0 => κ [.fr 9 r0 true]) (fun r0 => κ [.ro 9 r0 true]) f x0 x1 x2 x3 x4)
  | 0 => ⟨fun _ _ => rfl, fun _ _ _ _ _ => rfl⟩
  | f + 1 => by
    obtain ⟨ih0, ih1⟩ := postbagref5_Ids_0.gM3 R c1 c2 c3 κ f
    refine ⟨?_, ?_⟩
    · intro x0 x1
      show start (postbagref5_Ids_0.C R c1 c2 c3) (goto (postbagref5_Ids_0.C R c1 c2 c3) (retK (postbagref5_Ids_0.C R c1 c2 c3) Tryz.f24.results.toList (List.range 0) κ) 10000 f) (retK (postbagref5_Ids_0.C R c1 c2 c3) Tryz.f24.results.toList (List.range 0) κ) 10000 (placeOf Tryz.f24 3) (postbagref5_Ids_0.s3 x0 x1) = _
      rw [postbagref5_Ids_0.c3]
      simp only [ih0, ih1, postbagref5_Ids_0.g19 R c1 c2 c3 κ f]
      rfl
    · intro x0 x1 x2 x3 x4
      show start (postbagref5_Ids_0.C R c1 c2 c3) (goto (postbagref5_Ids_0.C R c1 c2 c3) (retK (postbagref5_Ids_0.C R c1 c2 c3) Tryz.f24.results.toList (List.range 0) κ) 10000 f) (retK (postbagref5_Ids_0.C R c1 c2 c3) Tryz.f24.results.toList (List.range 0) κ) 10000 (placeOf Tryz.f24 13) (postbagref5_Ids_0.s13 x0 x1 x2 x3 x4) = _
      rw [postbagref5_Ids_0.c13]
      simp only [ih0, ih1, postbagref5_Ids_0.g19 R c1 c2 c3 κ f]
      rfl
theorem postbagref5_Ids_0.g3 (R : Type) (c1 : postbagref5_pieces_0.F R) (c2 : postbagref5_find_0.F R) (c3 : postbagref5_closed_0.F R) (κ : List SV → Option R) (f : Nat) (x0 : List AV) (x1 : List AV) : goto (postbagref5_Ids_0.C R c1 c2 c3) (retK (postbagref5_Ids_0.C R c1 c2 c3) Tryz.f24.results.toList (List.range 0) κ) 10000 f (placeOf Tryz.f24 3) (postbagref5_Ids_0.s3 x0 x1) = postbagref5_Ids_0.L3 c1 c2 c3 (fun r0 => κ [.fr 9 r0 true]) (fun r0 => κ [.ro 9 r0 true]) f x0 x1 := (postbagref5_Ids_0.gM3 R c1 c2 c3 κ f).1 x0 x1
theorem postbagref5_Ids_0.g13 (R : Type) (c1 : postbagref5_pieces_0.F R) (c2 : postbagref5_find_0.F R) (c3 : postbagref5_closed_0.F R) (κ : List SV → Option R) (f : Nat) (x0 : List AV) (x1 : ByteArray) (x2 : Bool) (x3 : Int) (x4 : List AV) : goto (postbagref5_Ids_0.C R c1 c2 c3) (retK (postbagref5_Ids_0.C R c1 c2 c3) Tryz.f24.results.toList (List.range 0) κ) 10000 f (placeOf Tryz.f24 13) (postbagref5_Ids_0.s13 x0 x1 x2 x3 x4) = postbagref5_Ids_0.L13 c1 c2 c3 (fun r0 => κ [.fr 9 r0 true]) (fun r0 => κ [.ro 9 r0 true]) f x0 x1 x2 x3 x4 := (postbagref5_Ids_0.gM3 R c1 c2 c3 κ f).2 x0 x1 x2 x3 x4
theorem postbagref5_Ids_0.run (R : Type) (κ : List SV → Option R) (a0 : ByteArray) :
    runF (postbagref5_Ids_0.C R postbagref5_pieces_0 postbagref5_find_0 postbagref5_closed_0) Tryz.f24 10000 fuelK [.str a0] κ = postbagref5_Ids_0 a0 (fun r0 => κ [.fr 9 r0 true]) (fun r0 => κ [.ro 9 r0 true]) := by
  rw [postbagref5_Ids_0.c]
  simp only [postbagref5_Ids_0.g3 R postbagref5_pieces_0 postbagref5_find_0 postbagref5_closed_0 κ fuelK, postbagref5_Ids_0.g13 R postbagref5_pieces_0 postbagref5_find_0 postbagref5_closed_0 κ fuelK, postbagref5_Ids_0.g19 R postbagref5_pieces_0 postbagref5_find_0 postbagref5_closed_0 κ fuelK]
  rfl
theorem postbagref5_Ids_0.Γ_does {R : Type} (tab : Tab) (ht : TabOk tab) (g : Nat) : Does (R := R) Tryz.prog (tabTy tyL) tab g ((postbagref5_Ids_0.C R postbagref5_pieces_0 postbagref5_find_0 postbagref5_closed_0).call g) := by
  refine does_of fun xs κ => ?_
  show DoesAt _ _ _ g xs κ (postbagref5_Ids_0.Γ postbagref5_pieces_0 postbagref5_find_0 postbagref5_closed_0 g xs κ)
  unfold postbagref5_Ids_0.Γ
  split
  · split
    · exact postbagref5_pieces_0.does tab ht _ κ
    · exact DoesAt.none
  · split
    · exact postbagref5_find_0.does tab ht _ _ κ
    · exact DoesAt.none
  · split
    · exact postbagref5_closed_0.does tab ht _ κ
    · exact DoesAt.none
  · exact DoesAt.none
theorem postbagref5_Ids_0.does {R : Type} (tab : Tab) (ht : TabOk tab) (a0 : ByteArray) (κ : List SV → Option R) : DoesAt Tryz.prog (tabTy tyL) tab 24 [.str a0] κ (postbagref5_Ids_0 a0 (fun r0 => κ [.fr 9 r0 true]) (fun r0 => κ [.ro 9 r0 true])) := by
  intro r h w vs Rt Ra bs hpre
  exact runF_sound tyOk (postbagref5_Ids_0.Γ_does tab ht) (show Tryz.prog.funcs[24]? = some Tryz.f24 by kernel_rfl) (by kernel_rfl) ((postbagref5_Ids_0.run R κ a0).trans h) hpre
def stringslite_HasPrefix_0.Γ {R : Type} (g : Nat) (xs : List SV) (κ : List SV → Option R) : Option R :=
  match g with
  | _ => none
def stringslite_HasPrefix_0.h (n : Nat) : Option (List (Nat × List (Nat × Nat))) :=
  match n with
  | _ => none
def stringslite_HasPrefix_0.C (R : Type) : Cfg R := ⟨tabTy tyL, stringslite_HasPrefix_0.Γ, fun _ => false, stringslite_HasPrefix_0.h⟩
theorem stringslite_HasPrefix_0.c (R : Type) (κ : List SV → Option R) (k : Nat) (a0 : ByteArray) (a1 : ByteArray) :
    runF (stringslite_HasPrefix_0.C R) Tryz.f129 10000 k [.str a0, .str a1] κ = stringslite_HasPrefix_0.e a0 a1 (fun r0 => κ [.bool r0]) := by kernel_rfl
theorem stringslite_HasPrefix_0.run (R : Type) (κ : List SV → Option R) (a0 : ByteArray) (a1 : ByteArray) :
    runF (stringslite_HasPrefix_0.C R) Tryz.f129 10000 fuelK [.str a0, .str a1] κ = stringslite_HasPrefix_0 a0 a1 (fun r0 => κ [.bool r0]) := by
  rw [stringslite_HasPrefix_0.c]
  rfl
theorem stringslite_HasPrefix_0.Γ_does {R : Type} (tab : Tab) (ht : TabOk tab) (g : Nat) : Does (R := R) Tryz.prog (tabTy tyL) tab g ((stringslite_HasPrefix_0.C R).call g) := by
  refine does_of fun xs κ => ?_
  show DoesAt _ _ _ g xs κ (stringslite_HasPrefix_0.Γ g xs κ)
  unfold stringslite_HasPrefix_0.Γ
  split
  · exact DoesAt.none
theorem stringslite_HasPrefix_0.does {R : Type} (tab : Tab) (ht : TabOk tab) (a0 : ByteArray) (a1 : ByteArray) (κ : List SV → Option R) : DoesAt Tryz.prog (tabTy tyL) tab 129 [.str a0, .str a1] κ (stringslite_HasPrefix_0 a0 a1 (fun r0 => κ [.bool r0])) := by
  intro r h w vs Rt Ra bs hpre
  exact runF_sound tyOk (stringslite_HasPrefix_0.Γ_does tab ht) (show Tryz.prog.funcs[129]? = some Tryz.f129 by kernel_rfl) (by kernel_rfl) ((stringslite_HasPrefix_0.run R κ a0 a1).trans h) hpre
def strings_HasPrefix_0.Γ {R : Type} (c1 : stringslite_HasPrefix_0.F R) (g : Nat) (xs : List SV) (κ : List SV → Option R) : Option R :=
  match g with
  | 129 => (match xs with
    | [.str a0, .str a1] => c1 a0 a1 (fun r0 => κ [.bool r0])
    | _ => none)
  | _ => none
def strings_HasPrefix_0.h (n : Nat) : Option (List (Nat × List (Nat × Nat))) :=
  match n with
  | _ => none
def strings_HasPrefix_0.C (R : Type) (c1 : stringslite_HasPrefix_0.F R) : Cfg R := ⟨tabTy tyL, strings_HasPrefix_0.Γ c1, fun _ => false, strings_HasPrefix_0.h⟩
theorem strings_HasPrefix_0.c (R : Type) (c1 : stringslite_HasPrefix_0.F R) (κ : List SV → Option R) (k : Nat) (a0 : ByteArray) (a1 : ByteArray) :
    runF (strings_HasPrefix_0.C R c1) Tryz.f84 10000 k [.str a0, .str a1] κ = strings_HasPrefix_0.e c1 a0 a1 (fun r0 => κ [.bool r0]) := by kernel_rfl
theorem strings_HasPrefix_0.run (R : Type) (κ : List SV → Option R) (a0 : ByteArray) (a1 : ByteArray) :
    runF (strings_HasPrefix_0.C R stringslite_HasPrefix_0) Tryz.f84 10000 fuelK [.str a0, .str a1] κ = strings_HasPrefix_0 a0 a1 (fun r0 => κ [.bool r0]) := by
  rw [strings_HasPrefix_0.c]
  rfl
theorem strings_HasPrefix_0.Γ_does {R : Type} (tab : Tab) (ht : TabOk tab) (g : Nat) : Does (R := R) Tryz.prog (tabTy tyL) tab g ((strings_HasPrefix_0.C R stringslite_HasPrefix_0).call g) := by
  refine does_of fun xs κ => ?_
  show DoesAt _ _ _ g xs κ (strings_HasPrefix_0.Γ stringslite_HasPrefix_0 g xs κ)
  unfold strings_HasPrefix_0.Γ
  split
  · split
    · exact stringslite_HasPrefix_0.does tab ht _ _ κ
    · exact DoesAt.none
  · exact DoesAt.none
theorem strings_HasPrefix_0.does {R : Type} (tab : Tab) (ht : TabOk tab) (a0 : ByteArray) (a1 : ByteArray) (κ : List SV → Option R) : DoesAt Tryz.prog (tabTy tyL) tab 84 [.str a0, .str a1] κ (strings_HasPrefix_0 a0 a1 (fun r0 => κ [.bool r0])) := by
  intro r h w vs Rt Ra bs hpre
  exact runF_sound tyOk (strings_HasPrefix_0.Γ_does tab ht) (show Tryz.prog.funcs[84]? = some Tryz.f84 by kernel_rfl) (by kernel_rfl) ((strings_HasPrefix_0.run R κ a0 a1).trans h) hpre
def letter_Split_0.Γ {R : Type} (c1 : strings_HasPrefix_0.F R) (c2 : strings_Index_0.F R) (g : Nat) (xs : List SV) (κ : List SV → Option R) : Option R :=
  match g with
  | 84 => (match xs with
    | [.str a0, .str a1] => c1 a0 a1 (fun r0 => κ [.bool r0])
    | _ => none)
  | 85 => (match xs with
    | [.str a0, .str a1] => c2 a0 a1 (fun r0 => κ [.int .i64 r0])
    | _ => none)
  | _ => none
def letter_Split_0.h (n : Nat) : Option (List (Nat × List (Nat × Nat))) :=
  match n with
  | _ => none
def letter_Split_0.C (R : Type) (c1 : strings_HasPrefix_0.F R) (c2 : strings_Index_0.F R) : Cfg R := ⟨tabTy tyL, letter_Split_0.Γ c1 c2, fun _ => false, letter_Split_0.h⟩
theorem letter_Split_0.c (R : Type) (c1 : strings_HasPrefix_0.F R) (c2 : strings_Index_0.F R) (κ : List SV → Option R) (k : Nat) (a0 : ByteArray) :
    runF (letter_Split_0.C R c1 c2) Tryz.f44 10000 k [.str a0] κ = letter_Split_0.e c1 c2 a0 (fun r0 r1 => κ [.tup [.str r0, .str r1]]) := by kernel_rfl
theorem letter_Split_0.run (R : Type) (κ : List SV → Option R) (a0 : ByteArray) :
    runF (letter_Split_0.C R strings_HasPrefix_0 strings_Index_0) Tryz.f44 10000 fuelK [.str a0] κ = letter_Split_0 a0 (fun r0 r1 => κ [.tup [.str r0, .str r1]]) := by
  rw [letter_Split_0.c]
  rfl
theorem letter_Split_0.Γ_does {R : Type} (tab : Tab) (ht : TabOk tab) (g : Nat) : Does (R := R) Tryz.prog (tabTy tyL) tab g ((letter_Split_0.C R strings_HasPrefix_0 strings_Index_0).call g) := by
  refine does_of fun xs κ => ?_
  show DoesAt _ _ _ g xs κ (letter_Split_0.Γ strings_HasPrefix_0 strings_Index_0 g xs κ)
  unfold letter_Split_0.Γ
  split
  · split
    · exact strings_HasPrefix_0.does tab ht _ _ κ
    · exact DoesAt.none
  · split
    · exact strings_Index_0.does tab ht _ _ κ
    · exact DoesAt.none
  · exact DoesAt.none
theorem letter_Split_0.does {R : Type} (tab : Tab) (ht : TabOk tab) (a0 : ByteArray) (κ : List SV → Option R) : DoesAt Tryz.prog (tabTy tyL) tab 44 [.str a0] κ (letter_Split_0 a0 (fun r0 r1 => κ [.tup [.str r0, .str r1]])) := by
  intro r h w vs Rt Ra bs hpre
  exact runF_sound tyOk (letter_Split_0.Γ_does tab ht) (show Tryz.prog.funcs[44]? = some Tryz.f44 by kernel_rfl) (by kernel_rfl) ((letter_Split_0.run R κ a0).trans h) hpre
def letter_isBlank_0.Γ {R : Type} (g : Nat) (xs : List SV) (κ : List SV → Option R) : Option R :=
  match g with
  | _ => none
def letter_isBlank_0.h (n : Nat) : Option (List (Nat × List (Nat × Nat))) :=
  match n with
  | _ => none
def letter_isBlank_0.C (R : Type) : Cfg R := ⟨tabTy tyL, letter_isBlank_0.Γ, fun _ => false, letter_isBlank_0.h⟩
theorem letter_isBlank_0.c (R : Type) (κ : List SV → Option R) (k : Nat) (a0 : Int) :
    runF (letter_isBlank_0.C R) Tryz.f55 10000 k [.int .u8 a0] κ = letter_isBlank_0.e a0 (fun r0 => κ [.bool r0]) := by kernel_rfl
theorem letter_isBlank_0.run (R : Type) (κ : List SV → Option R) (a0 : Int) :
    runF (letter_isBlank_0.C R) Tryz.f55 10000 fuelK [.int .u8 a0] κ = letter_isBlank_0 a0 (fun r0 => κ [.bool r0]) := by
  rw [letter_isBlank_0.c]
  rfl
theorem letter_isBlank_0.Γ_does {R : Type} (tab : Tab) (ht : TabOk tab) (g : Nat) : Does (R := R) Tryz.prog (tabTy tyL) tab g ((letter_isBlank_0.C R).call g) := by
  refine does_of fun xs κ => ?_
  show DoesAt _ _ _ g xs κ (letter_isBlank_0.Γ g xs κ)
  unfold letter_isBlank_0.Γ
  split
  · exact DoesAt.none
theorem letter_isBlank_0.does {R : Type} (tab : Tab) (ht : TabOk tab) (a0 : Int) (κ : List SV → Option R) : DoesAt Tryz.prog (tabTy tyL) tab 55 [.int .u8 a0] κ (letter_isBlank_0 a0 (fun r0 => κ [.bool r0])) := by
  intro r h w vs Rt Ra bs hpre
  exact runF_sound tyOk (letter_isBlank_0.Γ_does tab ht) (show Tryz.prog.funcs[55]? = some Tryz.f55 by kernel_rfl) (by kernel_rfl) ((letter_isBlank_0.run R κ a0).trans h) hpre
end Go.Proofs.Ab
