/- Each plain function is what a call of its Go function does, checked by the kernel (no condition but what its checks ask). -/
import Derived.Test.YtnipklplcipaiaaGreatDoorSeat
import Derived.Test.YtnipklplcipaiaaGreatDoorText
/- Each typed text is what its function does: checked by the kernel. -/
namespace Go.Proofs.Ab
set_option linter.unusedVariables false
set_option maxRecDepth 4000
open Go Go.Proofs
set_option maxRecDepth 100000
def stringslite_HasPrefix_0.Γ {R : Type} (g : Nat) (xs : List SV) (κ : List SV → Option R) : Option R :=
  match g with
  | _ => none
def stringslite_HasPrefix_0.h (n : Nat) : Option (List (Nat × List (Nat × Nat))) :=
  match n with
  | _ => none
def stringslite_HasPrefix_0.C (R : Type) : Cfg R := ⟨tabTy tyL, stringslite_HasPrefix_0.Γ, fun _ => false, stringslite_HasPrefix_0.h⟩
theorem stringslite_HasPrefix_0.c (R : Type) (κ : List SV → Option R) (k : Nat) (a0 : ByteArray) (a1 : ByteArray) :
    runF (stringslite_HasPrefix_0.C R) Tryz.f129 10000 k [.str a0, .str a1] κ = stringslite_HasPrefix_0.e a0 a1 (fun r0 => κ [.bool r0]) := by kernel_rfl
theorem stringslite_HasPrefix_0.run (R : Type) (κ : List SV → Option R) (a0 : ByteArray) (a1 : ByteArray) :
    runF (stringslite_HasPrefix_0.C R) Tryz.f129 10000 fuelK [.str a0, .str a1] κ = stringslite_HasPrefix_0 a0 a1 (fun r0 => κ [.bool r0]) := by
  rw [stringslite_HasPrefix_0.c]
  rfl
theorem stringslite_HasPrefix_0.Γ_does {R : Type} (tab : Tab) (ht : TabOk tab) (g : Nat) : Does (R := R) Tryz.prog (tabTy tyL) tab g ((stringslite_HasPrefix_0.C R).call g) := by
  refine does_of fun xs κ => ?_
  show DoesAt _ _ _ g xs κ (stringslite_HasPrefix_0.Γ g xs κ)
  unfold stringslite_HasPrefix_0.Γ
  split
  · exact DoesAt.none
theorem stringslite_HasPrefix_0.does {R : Type} (tab : Tab) (ht : TabOk tab) (a0 : ByteArray) (a1 : ByteArray) (κ : List SV → Option R) : DoesAt Tryz.prog (tabTy tyL) tab 129 [.str a0, .str a1] κ (stringslite_HasPrefix_0 a0 a1 (fun r0 => κ [.bool r0])) := by
  intro r h w vs Rt Ra bs hpre
  exact runF_sound tyOk (stringslite_HasPrefix_0.Γ_does tab ht) (show Tryz.prog.funcs[129]? = some Tryz.f129 by kernel_rfl) (by kernel_rfl) ((stringslite_HasPrefix_0.run R κ a0 a1).trans h) hpre
def strings_HasPrefix_0.Γ {R : Type} (c1 : stringslite_HasPrefix_0.F R) (g : Nat) (xs : List SV) (κ : List SV → Option R) : Option R :=
  match g with
  | 129 => (match xs with
    | [.str a0, .str a1] => c1 a0 a1 (fun r0 => κ [.bool r0])
    | _ => none)
  | _ => none
def strings_HasPrefix_0.h (n : Nat) : Option (List (Nat × List (Nat × Nat))) :=
  match n with
  | _ => none
def strings_HasPrefix_0.C (R : Type) (c1 : stringslite_HasPrefix_0.F R) : Cfg R := ⟨tabTy tyL, strings_HasPrefix_0.Γ c1, fun _ => false, strings_HasPrefix_0.h⟩
theorem strings_HasPrefix_0.c (R : Type) (c1 : stringslite_HasPrefix_0.F R) (κ : List SV → Option R) (k : Nat) (a0 : ByteArray) (a1 : ByteArray) :
    runF (strings_HasPrefix_0.C R c1) Tryz.f84 10000 k [.str a0, .str a1] κ = strings_HasPrefix_0.e c1 a0 a1 (fun r0 => κ [.bool r0]) := by kernel_rfl
theorem strings_HasPrefix_0.run (R : Type) (κ : List SV → Option R) (a0 : ByteArray) (a1 : ByteArray) :
    runF (strings_HasPrefix_0.C R stringslite_HasPrefix_0) Tryz.f84 10000 fuelK [.str a0, .str a1] κ = strings_HasPrefix_0 a0 a1 (fun r0 => κ [.bool r0]) := by
  rw [strings_HasPrefix_0.c]
  rfl
theorem strings_HasPrefix_0.Γ_does {R : Type} (tab : Tab) (ht : TabOk tab) (g : Nat) : Does (R := R) Tryz.prog (tabTy tyL) tab g ((strings_HasPrefix_0.C R stringslite_HasPrefix_0).call g) := by
  refine does_of fun xs κ => ?_
  show DoesAt _ _ _ g xs κ (strings_HasPrefix_0.Γ stringslite_HasPrefix_0 g xs κ)
  unfold strings_HasPrefix_0.Γ
  split
  · split
    · exact stringslite_HasPrefix_0.does tab ht _ _ κ
    · exact DoesAt.none
  · exact DoesAt.none
theorem strings_HasPrefix_0.does {R : Type} (tab : Tab) (ht : TabOk tab) (a0 : ByteArray) (a1 : ByteArray) (κ : List SV → Option R) : DoesAt Tryz.prog (tabTy tyL) tab 84 [.str a0, .str a1] κ (strings_HasPrefix_0 a0 a1 (fun r0 => κ [.bool r0])) := by
  intro r h w vs Rt Ra bs hpre
  exact runF_sound tyOk (strings_HasPrefix_0.Γ_does tab ht) (show Tryz.prog.funcs[84]? = some Tryz.f84 by kernel_rfl) (by kernel_rfl) ((strings_HasPrefix_0.run R κ a0 a1).trans h) hpre
theorem bytealg_IndexByteString_0.does {R : Type} (tab : Tab) (ht : TabOk tab) (a0 : ByteArray) (a1 : Int) (κ : List SV → Option R) : DoesAt Tryz.prog (tabTy tyL) tab 131 [.str a0, .int .u8 a1] κ (bytealg_IndexByteString_0 a0 a1 (fun r0 => κ [.int .i64 r0])) :=
  indexByteString_does (show Tryz.prog.funcs[131]? = some Tryz.f131 by kernel_rfl) (by kernel_rfl) (by kernel_rfl) (by kernel_rfl) (by kernel_rfl) a0 a1 κ
def stringslite_IndexByte_0.Γ {R : Type} (c1 : bytealg_IndexByteString_0.F R) (g : Nat) (xs : List SV) (κ : List SV → Option R) : Option R :=
  match g with
  | 131 => (match xs with
    | [.str a0, .int .u8 a1] => c1 a0 a1 (fun r0 => κ [.int .i64 r0])
    | _ => none)
  | _ => none
def stringslite_IndexByte_0.h (n : Nat) : Option (List (Nat × List (Nat × Nat))) :=
  match n with
  | _ => none
def stringslite_IndexByte_0.C (R : Type) (c1 : bytealg_IndexByteString_0.F R) : Cfg R := ⟨tabTy tyL, stringslite_IndexByte_0.Γ c1, fun _ => false, stringslite_IndexByte_0.h⟩
theorem stringslite_IndexByte_0.c (R : Type) (c1 : bytealg_IndexByteString_0.F R) (κ : List SV → Option R) (k : Nat) (a0 : ByteArray) (a1 : Int) :
    runF (stringslite_IndexByte_0.C R c1) Tryz.f88 10000 k [.str a0, .int .u8 a1] κ = stringslite_IndexByte_0.e c1 a0 a1 (fun r0 => κ [.int .i64 r0]) := by kernel_rfl
theorem stringslite_IndexByte_0.run (R : Type) (κ : List SV → Option R) (a0 : ByteArray) (a1 : Int) :
    runF (stringslite_IndexByte_0.C R bytealg_IndexByteString_0) Tryz.f88 10000 fuelK [.str a0, .int .u8 a1] κ = stringslite_IndexByte_0 a0 a1 (fun r0 => κ [.int .i64 r0]) := by
  rw [stringslite_IndexByte_0.c]
  rfl
theorem stringslite_IndexByte_0.Γ_does {R : Type} (tab : Tab) (ht : TabOk tab) (g : Nat) : Does (R := R) Tryz.prog (tabTy tyL) tab g ((stringslite_IndexByte_0.C R bytealg_IndexByteString_0).call g) := by
  refine does_of fun xs κ => ?_
  show DoesAt _ _ _ g xs κ (stringslite_IndexByte_0.Γ bytealg_IndexByteString_0 g xs κ)
  unfold stringslite_IndexByte_0.Γ
  split
  · split
    · exact bytealg_IndexByteString_0.does tab ht _ _ κ
    · exact DoesAt.none
  · exact DoesAt.none
theorem stringslite_IndexByte_0.does {R : Type} (tab : Tab) (ht : TabOk tab) (a0 : ByteArray) (a1 : Int) (κ : List SV → Option R) : DoesAt Tryz.prog (tabTy tyL) tab 88 [.str a0, .int .u8 a1] κ (stringslite_IndexByte_0 a0 a1 (fun r0 => κ [.int .i64 r0])) := by
  intro r h w vs Rt Ra bs hpre
  exact runF_sound tyOk (stringslite_IndexByte_0.Γ_does tab ht) (show Tryz.prog.funcs[88]? = some Tryz.f88 by kernel_rfl) (by kernel_rfl) ((stringslite_IndexByte_0.run R κ a0 a1).trans h) hpre
def strings_IndexByte_0.Γ {R : Type} (c1 : stringslite_IndexByte_0.F R) (g : Nat) (xs : List SV) (κ : List SV → Option R) : Option R :=
  match g with
  | 88 => (match xs with
    | [.str a0, .int .u8 a1] => c1 a0 a1 (fun r0 => κ [.int .i64 r0])
    | _ => none)
  | _ => none
def strings_IndexByte_0.h (n : Nat) : Option (List (Nat × List (Nat × Nat))) :=
  match n with
  | _ => none
def strings_IndexByte_0.C (R : Type) (c1 : stringslite_IndexByte_0.F R) : Cfg R := ⟨tabTy tyL, strings_IndexByte_0.Γ c1, fun _ => false, strings_IndexByte_0.h⟩
theorem strings_IndexByte_0.c (R : Type) (c1 : stringslite_IndexByte_0.F R) (κ : List SV → Option R) (k : Nat) (a0 : ByteArray) (a1 : Int) :
    runF (strings_IndexByte_0.C R c1) Tryz.f40 10000 k [.str a0, .int .u8 a1] κ = strings_IndexByte_0.e c1 a0 a1 (fun r0 => κ [.int .i64 r0]) := by kernel_rfl
theorem strings_IndexByte_0.run (R : Type) (κ : List SV → Option R) (a0 : ByteArray) (a1 : Int) :
    runF (strings_IndexByte_0.C R stringslite_IndexByte_0) Tryz.f40 10000 fuelK [.str a0, .int .u8 a1] κ = strings_IndexByte_0 a0 a1 (fun r0 => κ [.int .i64 r0]) := by
  rw [strings_IndexByte_0.c]
  rfl
theorem strings_IndexByte_0.Γ_does {R : Type} (tab : Tab) (ht : TabOk tab) (g : Nat) : Does (R := R) Tryz.prog (tabTy tyL) tab g ((strings_IndexByte_0.C R stringslite_IndexByte_0).call g) := by
  refine does_of fun xs κ => ?_
  show DoesAt _ _ _ g xs κ (strings_IndexByte_0.Γ stringslite_IndexByte_0 g xs κ)
  unfold strings_IndexByte_0.Γ
  split
  · split
    · exact stringslite_IndexByte_0.does tab ht _ _ κ
    · exact DoesAt.none
  · exact DoesAt.none
theorem strings_IndexByte_0.does {R : Type} (tab : Tab) (ht : TabOk tab) (a0 : ByteArray) (a1 : Int) (κ : List SV → Option R) : DoesAt Tryz.prog (tabTy tyL) tab 40 [.str a0, .int .u8 a1] κ (strings_IndexByte_0 a0 a1 (fun r0 => κ [.int .i64 r0])) := by
  intro r h w vs Rt Ra bs hpre
  exact runF_sound tyOk (strings_IndexByte_0.Γ_does tab ht) (show Tryz.prog.funcs[40]? = some Tryz.f40 by kernel_rfl) (by kernel_rfl) ((strings_IndexByte_0.run R κ a0 a1).trans h) hpre
def octet_Lower_0.Γ {R : Type} (g : Nat) (xs : List SV) (κ : List SV → Option R) : Option R :=
  match g with
  | _ => none
def octet_Lower_0.h (n : Nat) : Option (List (Nat × List (Nat × Nat))) :=
  match n with
  | 3 => some [(3, [(0, 0)]), (8, [(0, 0)]), (9, [(0, 0)]), (10, [(0, 0)])]
  | _ => none
def octet_Lower_0.C (R : Type) : Cfg R := ⟨tabTy tyL, octet_Lower_0.Γ, fun _ => false, octet_Lower_0.h⟩
def octet_Lower_0.s3 (x0 : Int) (x1 : Int) (x2 : List AV) : St := ⟨mkS 30 [(3, .own 256), (8, .own 256), (9, .int .i64 x0), (10, .int .i64 x1)], [(256, .row 5 x2 true)], top⟩
theorem octet_Lower_0.c3 (R : Type) (J : List Item → St → Option R) (κ : List SV → Option R) (x0 : Int) (x1 : Int) (x2 : List AV) :
    start (octet_Lower_0.C R) J (retK (octet_Lower_0.C R) Tryz.f98.results.toList (List.range 0) κ) 10000 (placeOf Tryz.f98 3) (octet_Lower_0.s3 x0 x1 x2) = octet_Lower_0.t3 x0 x1 x2 (fun y0 y1 y2 => J (placeOf Tryz.f98 3) (octet_Lower_0.s3 y0 y1 y2)) (fun r0 => κ [.str r0]) := by kernel_rfl
theorem octet_Lower_0.c (R : Type) (κ : List SV → Option R) (k : Nat) (a0 : ByteArray) :
    runF (octet_Lower_0.C R) Tryz.f98 10000 k [.str a0] κ = octet_Lower_0.e a0 (fun y0 y1 y2 => goto (octet_Lower_0.C R) (retK (octet_Lower_0.C R) Tryz.f98.results.toList (List.range 0) κ) 10000 k (placeOf Tryz.f98 3) (octet_Lower_0.s3 y0 y1 y2)) (fun r0 => κ [.str r0]) := by kernel_rfl
theorem octet_Lower_0.g3 (R : Type) (κ : List SV → Option R) : ∀ (f : Nat) (x0 : Int) (x1 : Int) (x2 : List AV), goto (octet_Lower_0.C R) (retK (octet_Lower_0.C R) Tryz.f98.results.toList (List.range 0) κ) 10000 f (placeOf Tryz.f98 3) (octet_Lower_0.s3 x0 x1 x2) = octet_Lower_0.L3 (fun r0 => κ [.str r0]) f x0 x1 x2
  | 0, _, _, _ => rfl
  | f + 1, x0, x1, x2 => by
    show start (octet_Lower_0.C R) (goto (octet_Lower_0.C R) (retK (octet_Lower_0.C R) Tryz.f98.results.toList (List.range 0) κ) 10000 f) (retK (octet_Lower_0.C R) Tryz.f98.results.toList (List.range 0) κ) 10000 (placeOf Tryz.f98 3) (octet_Lower_0.s3 x0 x1 x2) = _
    rw [octet_Lower_0.c3]
    simp only [octet_Lower_0.g3 R κ f]
    rfl
theorem octet_Lower_0.run (R : Type) (κ : List SV → Option R) (a0 : ByteArray) :
    runF (octet_Lower_0.C R) Tryz.f98 10000 fuelK [.str a0] κ = octet_Lower_0 a0 (fun r0 => κ [.str r0]) := by
  rw [octet_Lower_0.c]
  simp only [octet_Lower_0.g3 R κ fuelK]
  rfl
theorem octet_Lower_0.Γ_does {R : Type} (tab : Tab) (ht : TabOk tab) (g : Nat) : Does (R := R) Tryz.prog (tabTy tyL) tab g ((octet_Lower_0.C R).call g) := by
  refine does_of fun xs κ => ?_
  show DoesAt _ _ _ g xs κ (octet_Lower_0.Γ g xs κ)
  unfold octet_Lower_0.Γ
  split
  · exact DoesAt.none
theorem octet_Lower_0.does {R : Type} (tab : Tab) (ht : TabOk tab) (a0 : ByteArray) (κ : List SV → Option R) : DoesAt Tryz.prog (tabTy tyL) tab 98 [.str a0] κ (octet_Lower_0 a0 (fun r0 => κ [.str r0])) := by
  intro r h w vs Rt Ra bs hpre
  exact runF_sound tyOk (octet_Lower_0.Γ_does tab ht) (show Tryz.prog.funcs[98]? = some Tryz.f98 by kernel_rfl) (by kernel_rfl) ((octet_Lower_0.run R κ a0).trans h) hpre
def octet_worths_0.Γ {R : Type} (g : Nat) (xs : List SV) (κ : List SV → Option R) : Option R :=
  match g with
  | _ => none
def octet_worths_0.h (n : Nat) : Option (List (Nat × List (Nat × Nat))) :=
  match n with
  | 3 => some [(0, [(0, 0)]), (1, [(0, 0)]), (3, [(0, 0)])]
  | _ => none
def octet_worths_0.C (R : Type) : Cfg R := ⟨tabTy tyL, octet_worths_0.Γ, fun _ => false, octet_worths_0.h⟩
def octet_worths_0.s3 (x0 : Int) (x1 : List AV) (x2 : List AV) : St := ⟨mkS 14 [(0, .ap 64 256), (1, .ap 128 256), (3, .int .i64 x0)], [(64, .row 5 x1 true), (128, .row 5 x2 true)], top⟩
theorem octet_worths_0.c3 (R : Type) (J : List Item → St → Option R) (κ : List SV → Option R) (x0 : Int) (x1 : List AV) (x2 : List AV) :
    start (octet_worths_0.C R) J (retK (octet_worths_0.C R) Tryz.f157.results.toList (List.range 0) κ) 10000 (placeOf Tryz.f157 3) (octet_worths_0.s3 x0 x1 x2) = octet_worths_0.t3 x0 x1 x2 (fun y0 y1 y2 => J (placeOf Tryz.f157 3) (octet_worths_0.s3 y0 y1 y2)) (fun r0 => κ [.ar 5 256 r0]) := by kernel_rfl
theorem octet_worths_0.c (R : Type) (κ : List SV → Option R) (k : Nat) :
    runF (octet_worths_0.C R) Tryz.f157 10000 k [] κ = octet_worths_0.e (fun y0 y1 y2 => goto (octet_worths_0.C R) (retK (octet_worths_0.C R) Tryz.f157.results.toList (List.range 0) κ) 10000 k (placeOf Tryz.f157 3) (octet_worths_0.s3 y0 y1 y2)) (fun r0 => κ [.ar 5 256 r0]) := by kernel_rfl
theorem octet_worths_0.g3 (R : Type) (κ : List SV → Option R) : ∀ (f : Nat) (x0 : Int) (x1 : List AV) (x2 : List AV), goto (octet_worths_0.C R) (retK (octet_worths_0.C R) Tryz.f157.results.toList (List.range 0) κ) 10000 f (placeOf Tryz.f157 3) (octet_worths_0.s3 x0 x1 x2) = octet_worths_0.L3 (fun r0 => κ [.ar 5 256 r0]) f x0 x1 x2
  | 0, _, _, _ => rfl
  | f + 1, x0, x1, x2 => by
    show start (octet_worths_0.C R) (goto (octet_worths_0.C R) (retK (octet_worths_0.C R) Tryz.f157.results.toList (List.range 0) κ) 10000 f) (retK (octet_worths_0.C R) Tryz.f157.results.toList (List.range 0) κ) 10000 (placeOf Tryz.f157 3) (octet_worths_0.s3 x0 x1 x2) = _
    rw [octet_worths_0.c3]
    simp only [octet_worths_0.g3 R κ f]
    rfl
theorem octet_worths_0.run (R : Type) (κ : List SV → Option R) :
    runF (octet_worths_0.C R) Tryz.f157 10000 fuelK [] κ = octet_worths_0 (fun r0 => κ [.ar 5 256 r0]) := by
  rw [octet_worths_0.c]
  simp only [octet_worths_0.g3 R κ fuelK]
  rfl
theorem octet_worths_0.Γ_does {R : Type} (tab : Tab) (ht : TabOk tab) (g : Nat) : Does (R := R) Tryz.prog (tabTy tyL) tab g ((octet_worths_0.C R).call g) := by
  refine does_of fun xs κ => ?_
  show DoesAt _ _ _ g xs κ (octet_worths_0.Γ g xs κ)
  unfold octet_worths_0.Γ
  split
  · exact DoesAt.none
theorem octet_worths_0.does {R : Type} (tab : Tab) (ht : TabOk tab) (κ : List SV → Option R) : DoesAt Tryz.prog (tabTy tyL) tab 157 [] κ (octet_worths_0 (fun r0 => κ [.ar 5 256 r0])) := by
  intro r h w vs Rt Ra bs hpre
  exact runF_sound tyOk (octet_worths_0.Γ_does tab ht) (show Tryz.prog.funcs[157]? = some Tryz.f157 by kernel_rfl) (by kernel_rfl) ((octet_worths_0.run R κ).trans h) hpre
def octet_read64_0.Γ {R : Type} (c1 : octet_worths_0.F R) (g : Nat) (xs : List SV) (κ : List SV → Option R) : Option R :=
  match g with
  | 157 => (match xs with
    | [] => c1 (fun r0 => κ [.ar 5 256 r0])
    | _ => none)
  | _ => none
def octet_read64_0.h (n : Nat) : Option (List (Nat × List (Nat × Nat))) :=
  match n with
  | 5 => some [(0, [(0, 0)]), (1, [(0, 0)]), (5, [(0, 7)]), (6, [(0, 0)]), (7, [(0, 0)]), (8, [(0, 0)]), (9, [(0, 0)])]
  | _ => none
def octet_read64_0.C (R : Type) (c1 : octet_worths_0.F R) : Cfg R := ⟨tabTy tyL, octet_read64_0.Γ c1, fun _ => false, octet_read64_0.h⟩
def octet_read64_0.s5 (x0 : ByteArray) (x1 : Int) (x2 : Int) (x3 : Int) (x4 : Int) (x5 : List AV) (x6 : List AV) : St := ⟨mkS 81 [(0, .str x0), (1, .int .u8 x1), (5, .own 384), (6, .ap 448 256), (7, .int .i64 x2), (8, .int .i64 x3), (9, .int .i64 x4)], [(384, .row 5 x5 true), (448, .row 5 x6 true)], top⟩
theorem octet_read64_0.c5 (R : Type) (c1 : octet_worths_0.F R) (J : List Item → St → Option R) (κ : List SV → Option R) (x0 : ByteArray) (x1 : Int) (x2 : Int) (x3 : Int) (x4 : Int) (x5 : List AV) (x6 : List AV) :
    start (octet_read64_0.C R c1) J (retK (octet_read64_0.C R c1) Tryz.f140.results.toList (List.range 0) κ) 10000 (placeOf Tryz.f140 5) (octet_read64_0.s5 x0 x1 x2 x3 x4 x5 x6) = octet_read64_0.t5 c1 x0 x1 x2 x3 x4 x5 x6 (fun y0 y1 y2 y3 y4 y5 y6 => J (placeOf Tryz.f140 5) (octet_read64_0.s5 y0 y1 y2 y3 y4 y5 y6)) (fun r0 => κ [.str r0]) := by kernel_rfl
theorem octet_read64_0.c (R : Type) (c1 : octet_worths_0.F R) (κ : List SV → Option R) (k : Nat) (a0 : ByteArray) (a1 : Int) :
    runF (octet_read64_0.C R c1) Tryz.f140 10000 k [.str a0, .int .u8 a1] κ = octet_read64_0.e c1 a0 a1 (fun y0 y1 y2 y3 y4 y5 y6 => goto (octet_read64_0.C R c1) (retK (octet_read64_0.C R c1) Tryz.f140.results.toList (List.range 0) κ) 10000 k (placeOf Tryz.f140 5) (octet_read64_0.s5 y0 y1 y2 y3 y4 y5 y6)) (fun r0 => κ [.str r0]) := by kernel_rfl
theorem octet_read64_0.g5 (R : Type) (c1 : octet_worths_0.F R) (κ : List SV → Option R) : ∀ (f : Nat) (x0 : ByteArray) (x1 : Int) (x2 : Int) (x3 : Int) (x4 : Int) (x5 : List AV) (x6 : List AV), goto (octet_read64_0.C R c1) (retK (octet_read64_0.C R c1) Tryz.f140.results.toList (List.range 0) κ) 10000 f (placeOf Tryz.f140 5) (octet_read64_0.s5 x0 x1 x2 x3 x4 x5 x6) = octet_read64_0.L5 c1 (fun r0 => κ [.str r0]) f x0 x1 x2 x3 x4 x5 x6
  | 0, _, _, _, _, _, _, _ => rfl
  | f + 1, x0, x1, x2, x3, x4, x5, x6 => by
    show start (octet_read64_0.C R c1) (goto (octet_read64_0.C R c1) (retK (octet_read64_0.C R c1) Tryz.f140.results.toList (List.range 0) κ) 10000 f) (retK (octet_read64_0.C R c1) Tryz.f140.results.toList (List.range 0) κ) 10000 (placeOf Tryz.f140 5) (octet_read64_0.s5 x0 x1 x2 x3 x4 x5 x6) = _
    rw [octet_read64_0.c5]
    simp only [octet_read64_0.g5 R c1 κ f]
    rfl
theorem octet_read64_0.run (R : Type) (κ : List SV → Option R) (a0 : ByteArray) (a1 : Int) :
    runF (octet_read64_0.C R octet_worths_0) Tryz.f140 10000 fuelK [.str a0, .int .u8 a1] κ = octet_read64_0 a0 a1 (fun r0 => κ [.str r0]) := by
  rw [octet_read64_0.c]
  simp only [octet_read64_0.g5 R octet_worths_0 κ fuelK]
  rfl
theorem octet_read64_0.Γ_does {R : Type} (tab : Tab) (ht : TabOk tab) (g : Nat) : Does (R := R) Tryz.prog (tabTy tyL) tab g ((octet_read64_0.C R octet_worths_0).call g) := by
  refine does_of fun xs κ => ?_
  show DoesAt _ _ _ g xs κ (octet_read64_0.Γ octet_worths_0 g xs κ)
  unfold octet_read64_0.Γ
  split
  · split
    · exact octet_worths_0.does tab ht κ
    · exact DoesAt.none
  · exact DoesAt.none
theorem octet_read64_0.does {R : Type} (tab : Tab) (ht : TabOk tab) (a0 : ByteArray) (a1 : Int) (κ : List SV → Option R) : DoesAt Tryz.prog (tabTy tyL) tab 140 [.str a0, .int .u8 a1] κ (octet_read64_0 a0 a1 (fun r0 => κ [.str r0])) := by
  intro r h w vs Rt Ra bs hpre
  exact runF_sound tyOk (octet_read64_0.Γ_does tab ht) (show Tryz.prog.funcs[140]? = some Tryz.f140 by kernel_rfl) (by kernel_rfl) ((octet_read64_0.run R κ a0 a1).trans h) hpre
def octet_Loose64_0.Γ {R : Type} (c1 : octet_read64_0.F R) (g : Nat) (xs : List SV) (κ : List SV → Option R) : Option R :=
  match g with
  | 140 => (match xs with
    | [.str a0, .int .u8 a1] => c1 a0 a1 (fun r0 => κ [.str r0])
    | _ => none)
  | _ => none
def octet_Loose64_0.h (n : Nat) : Option (List (Nat × List (Nat × Nat))) :=
  match n with
  | _ => none
def octet_Loose64_0.C (R : Type) (c1 : octet_read64_0.F R) : Cfg R := ⟨tabTy tyL, octet_Loose64_0.Γ c1, fun _ => false, octet_Loose64_0.h⟩
theorem octet_Loose64_0.c (R : Type) (c1 : octet_read64_0.F R) (κ : List SV → Option R) (k : Nat) (a0 : ByteArray) :
    runF (octet_Loose64_0.C R c1) Tryz.f106 10000 k [.str a0] κ = octet_Loose64_0.e c1 a0 (fun r0 => κ [.str r0]) := by kernel_rfl
theorem octet_Loose64_0.run (R : Type) (κ : List SV → Option R) (a0 : ByteArray) :
    runF (octet_Loose64_0.C R octet_read64_0) Tryz.f106 10000 fuelK [.str a0] κ = octet_Loose64_0 a0 (fun r0 => κ [.str r0]) := by
  rw [octet_Loose64_0.c]
  rfl
theorem octet_Loose64_0.Γ_does {R : Type} (tab : Tab) (ht : TabOk tab) (g : Nat) : Does (R := R) Tryz.prog (tabTy tyL) tab g ((octet_Loose64_0.C R octet_read64_0).call g) := by
  refine does_of fun xs κ => ?_
  show DoesAt _ _ _ g xs κ (octet_Loose64_0.Γ octet_read64_0 g xs κ)
  unfold octet_Loose64_0.Γ
  split
  · split
    · exact octet_read64_0.does tab ht _ _ κ
    · exact DoesAt.none
  · exact DoesAt.none
theorem octet_Loose64_0.does {R : Type} (tab : Tab) (ht : TabOk tab) (a0 : ByteArray) (κ : List SV → Option R) : DoesAt Tryz.prog (tabTy tyL) tab 106 [.str a0] κ (octet_Loose64_0 a0 (fun r0 => κ [.str r0])) := by
  intro r h w vs Rt Ra bs hpre
  exact runF_sound tyOk (octet_Loose64_0.Γ_does tab ht) (show Tryz.prog.funcs[106]? = some Tryz.f106 by kernel_rfl) (by kernel_rfl) ((octet_Loose64_0.run R κ a0).trans h) hpre
theorem strings_Builder_copyCheck_vxne.does {R : Type} (tab : Tab) (ht : TabOk tab) (κ : List SV → Option R) : DoesAt Tryz.prog (tabTy tyL) tab 99 [.vp 74 [.nos, .nil]] κ (strings_Builder_copyCheck_vxne (κ [.tup [], .vp 74 [.nos, .nil]])) :=
  copyCheck_does Tryz.call99 cc_used cc_fresh (.nil) κ
def strings_Builder_WriteByte_vxnei.Γ {R : Type} (c1 : strings_Builder_copyCheck_vxne.F R) (g : Nat) (xs : List SV) (κ : List SV → Option R) : Option R :=
  match g with
  | 99 => (match xs with
    | [.vp 74 [.nos, .nil]] => c1 (κ [.tup [], .vp 74 [.nos, .nil]])
    | _ => none)
  | _ => none
def strings_Builder_WriteByte_vxnei.h (n : Nat) : Option (List (Nat × List (Nat × Nat))) :=
  match n with
  | _ => none
def strings_Builder_WriteByte_vxnei.C (R : Type) (c1 : strings_Builder_copyCheck_vxne.F R) : Cfg R := ⟨tabTy tyL, strings_Builder_WriteByte_vxnei.Γ c1, fun _ => false, strings_Builder_WriteByte_vxnei.h⟩
theorem strings_Builder_WriteByte_vxnei.c (R : Type) (c1 : strings_Builder_copyCheck_vxne.F R) (κ : List SV → Option R) (k : Nat) (a0 : Int) :
    runF (strings_Builder_WriteByte_vxnei.C R c1) Tryz.f110 10000 k [.vp 74 [.nos, .nil], .int .u8 a0] κ = strings_Builder_WriteByte_vxnei.e c1 a0 (fun r0 => κ [.nili, .vp 74 [.nos, .fr 5 r0 true]]) := by kernel_rfl
theorem strings_Builder_WriteByte_vxnei.run (R : Type) (κ : List SV → Option R) (a0 : Int) :
    runF (strings_Builder_WriteByte_vxnei.C R strings_Builder_copyCheck_vxne) Tryz.f110 10000 fuelK [.vp 74 [.nos, .nil], .int .u8 a0] κ = strings_Builder_WriteByte_vxnei a0 (fun r0 => κ [.nili, .vp 74 [.nos, .fr 5 r0 true]]) := by
  rw [strings_Builder_WriteByte_vxnei.c]
  rfl
theorem strings_Builder_WriteByte_vxnei.Γ_does {R : Type} (tab : Tab) (ht : TabOk tab) (g : Nat) : Does (R := R) Tryz.prog (tabTy tyL) tab g ((strings_Builder_WriteByte_vxnei.C R strings_Builder_copyCheck_vxne).call g) := by
  refine does_of fun xs κ => ?_
  show DoesAt _ _ _ g xs κ (strings_Builder_WriteByte_vxnei.Γ strings_Builder_copyCheck_vxne g xs κ)
  unfold strings_Builder_WriteByte_vxnei.Γ
  split
  · split
    · exact strings_Builder_copyCheck_vxne.does tab ht κ
    · exact DoesAt.none
  · exact DoesAt.none
theorem strings_Builder_WriteByte_vxnei.does {R : Type} (tab : Tab) (ht : TabOk tab) (a0 : Int) (κ : List SV → Option R) : DoesAt Tryz.prog (tabTy tyL) tab 110 [.vp 74 [.nos, .nil], .int .u8 a0] κ (strings_Builder_WriteByte_vxnei a0 (fun r0 => κ [.nili, .vp 74 [.nos, .fr 5 r0 true]])) := by
  intro r h w vs Rt Ra bs hpre
  exact runF_sound tyOk (strings_Builder_WriteByte_vxnei.Γ_does tab ht) (show Tryz.prog.funcs[110]? = some Tryz.f110 by kernel_rfl) (by kernel_rfl) ((strings_Builder_WriteByte_vxnei.run R κ a0).trans h) hpre
theorem strings_Builder_copyCheck_vxfe.does {R : Type} (tab : Tab) (ht : TabOk tab) (a0 : List AV) (κ : List SV → Option R) : DoesAt Tryz.prog (tabTy tyL) tab 99 [.vp 74 [.nos, .fr 5 a0 true]] κ (strings_Builder_copyCheck_vxfe a0 (fun r0 => κ [.tup [], .vp 74 [.nos, .fr 5 r0 true]])) :=
  copyCheck_does Tryz.call99 cc_used cc_fresh (.fr _ _) κ
def strings_Builder_WriteByte_vxfei.Γ {R : Type} (c1 : strings_Builder_copyCheck_vxfe.F R) (g : Nat) (xs : List SV) (κ : List SV → Option R) : Option R :=
  match g with
  | 99 => (match xs with
    | [.vp 74 [.nos, .fr 5 a0 true]] => c1 a0 (fun r0 => κ [.tup [], .vp 74 [.nos, .fr 5 r0 true]])
    | _ => none)
  | _ => none
def strings_Builder_WriteByte_vxfei.h (n : Nat) : Option (List (Nat × List (Nat × Nat))) :=
  match n with
  | _ => none
def strings_Builder_WriteByte_vxfei.C (R : Type) (c1 : strings_Builder_copyCheck_vxfe.F R) : Cfg R := ⟨tabTy tyL, strings_Builder_WriteByte_vxfei.Γ c1, fun _ => false, strings_Builder_WriteByte_vxfei.h⟩
theorem strings_Builder_WriteByte_vxfei.c (R : Type) (c1 : strings_Builder_copyCheck_vxfe.F R) (κ : List SV → Option R) (k : Nat) (a0 : List AV) (a1 : Int) :
    runF (strings_Builder_WriteByte_vxfei.C R c1) Tryz.f110 10000 k [.vp 74 [.nos, .fr 5 a0 true], .int .u8 a1] κ = strings_Builder_WriteByte_vxfei.e c1 a0 a1 (fun r0 => κ [.nili, .vp 74 [.nos, .fr 5 r0 true]]) := by kernel_rfl
theorem strings_Builder_WriteByte_vxfei.run (R : Type) (κ : List SV → Option R) (a0 : List AV) (a1 : Int) :
    runF (strings_Builder_WriteByte_vxfei.C R strings_Builder_copyCheck_vxfe) Tryz.f110 10000 fuelK [.vp 74 [.nos, .fr 5 a0 true], .int .u8 a1] κ = strings_Builder_WriteByte_vxfei a0 a1 (fun r0 => κ [.nili, .vp 74 [.nos, .fr 5 r0 true]]) := by
  rw [strings_Builder_WriteByte_vxfei.c]
  rfl
theorem strings_Builder_WriteByte_vxfei.Γ_does {R : Type} (tab : Tab) (ht : TabOk tab) (g : Nat) : Does (R := R) Tryz.prog (tabTy tyL) tab g ((strings_Builder_WriteByte_vxfei.C R strings_Builder_copyCheck_vxfe).call g) := by
  refine does_of fun xs κ => ?_
  show DoesAt _ _ _ g xs κ (strings_Builder_WriteByte_vxfei.Γ strings_Builder_copyCheck_vxfe g xs κ)
  unfold strings_Builder_WriteByte_vxfei.Γ
  split
  · split
    · exact strings_Builder_copyCheck_vxfe.does tab ht _ κ
    · exact DoesAt.none
  · exact DoesAt.none
theorem strings_Builder_WriteByte_vxfei.does {R : Type} (tab : Tab) (ht : TabOk tab) (a0 : List AV) (a1 : Int) (κ : List SV → Option R) : DoesAt Tryz.prog (tabTy tyL) tab 110 [.vp 74 [.nos, .fr 5 a0 true], .int .u8 a1] κ (strings_Builder_WriteByte_vxfei a0 a1 (fun r0 => κ [.nili, .vp 74 [.nos, .fr 5 r0 true]])) := by
  intro r h w vs Rt Ra bs hpre
  exact runF_sound tyOk (strings_Builder_WriteByte_vxfei.Γ_does tab ht) (show Tryz.prog.funcs[110]? = some Tryz.f110 by kernel_rfl) (by kernel_rfl) ((strings_Builder_WriteByte_vxfei.run R κ a0 a1).trans h) hpre
def strings_Builder_String_vxfe.Γ {R : Type} (g : Nat) (xs : List SV) (κ : List SV → Option R) : Option R :=
  match g with
  | _ => none
def strings_Builder_String_vxfe.h (n : Nat) : Option (List (Nat × List (Nat × Nat))) :=
  match n with
  | _ => none
def strings_Builder_String_vxfe.C (R : Type) : Cfg R := ⟨tabTy tyL, strings_Builder_String_vxfe.Γ, fun _ => false, strings_Builder_String_vxfe.h⟩
theorem strings_Builder_String_vxfe.c (R : Type) (κ : List SV → Option R) (k : Nat) (a0 : List AV) :
    runF (strings_Builder_String_vxfe.C R) Tryz.f49 10000 k [.vp 74 [.nos, .fr 5 a0 true]] κ = strings_Builder_String_vxfe.e a0 (fun r0 => κ [.str r0, .vp 74 [.nos, .no]]) := by kernel_rfl
theorem strings_Builder_String_vxfe.run (R : Type) (κ : List SV → Option R) (a0 : List AV) :
    runF (strings_Builder_String_vxfe.C R) Tryz.f49 10000 fuelK [.vp 74 [.nos, .fr 5 a0 true]] κ = strings_Builder_String_vxfe a0 (fun r0 => κ [.str r0, .vp 74 [.nos, .no]]) := by
  rw [strings_Builder_String_vxfe.c]
  rfl
theorem strings_Builder_String_vxfe.Γ_does {R : Type} (tab : Tab) (ht : TabOk tab) (g : Nat) : Does (R := R) Tryz.prog (tabTy tyL) tab g ((strings_Builder_String_vxfe.C R).call g) := by
  refine does_of fun xs κ => ?_
  show DoesAt _ _ _ g xs κ (strings_Builder_String_vxfe.Γ g xs κ)
  unfold strings_Builder_String_vxfe.Γ
  split
  · exact DoesAt.none
theorem strings_Builder_String_vxfe.does {R : Type} (tab : Tab) (ht : TabOk tab) (a0 : List AV) (κ : List SV → Option R) : DoesAt Tryz.prog (tabTy tyL) tab 49 [.vp 74 [.nos, .fr 5 a0 true]] κ (strings_Builder_String_vxfe a0 (fun r0 => κ [.str r0, .vp 74 [.nos, .no]])) := by
  intro r h w vs Rt Ra bs hpre
  exact runF_sound tyOk (strings_Builder_String_vxfe.Γ_does tab ht) (show Tryz.prog.funcs[49]? = some Tryz.f49 by kernel_rfl) (by kernel_rfl) ((strings_Builder_String_vxfe.run R κ a0).trans h) hpre
def letter_wide_0.Γ {R : Type} (c1 : strings_Builder_WriteByte_vxfei.F R) (c2 : strings_Builder_String_vxfe.F R) (g : Nat) (xs : List SV) (κ : List SV → Option R) : Option R :=
  match g with
  | 49 => (match xs with
    | [.vp 74 [.nos, .fr 5 a0 true]] => c2 a0 (fun r0 => κ [.str r0, .vp 74 [.nos, .no]])
    | _ => none)
  | 110 => (match xs with
    | [.vp 74 [.nos, .fr 5 a0 true], .int .u8 a1] => c1 a0 a1 (fun r0 => κ [.nili, .vp 74 [.nos, .fr 5 r0 true]])
    | _ => none)
  | _ => none
def letter_wide_0.h (n : Nat) : Option (List (Nat × List (Nat × Nat))) :=
  match n with
  | 3 => some [(0, [(0, 0)]), (3, [(1, 7)]), (6, [(0, 0)]), (7, [(0, 0)])]
  | _ => none
def letter_wide_0.C (R : Type) (c1 : strings_Builder_WriteByte_vxfei.F R) (c2 : strings_Builder_String_vxfe.F R) : Cfg R := ⟨tabTy tyL, letter_wide_0.Γ c1 c2, fun _ => false, letter_wide_0.h⟩
def letter_wide_0.s3 (x0 : ByteArray) (x1 : Int) (x2 : Int) (x3 : List AV) : St := ⟨mkS 32 [(0, .str x0), (3, .ptr 319 0), (6, .int .i64 x1), (7, .int .i64 x2)], [(319, .var 74 [.nos, .own 257]), (257, .row 5 x3 true)], top⟩
theorem letter_wide_0.c3 (R : Type) (c1 : strings_Builder_WriteByte_vxfei.F R) (c2 : strings_Builder_String_vxfe.F R) (J : List Item → St → Option R) (κ : List SV → Option R) (x0 : ByteArray) (x1 : Int) (x2 : Int) (x3 : List AV) :
    start (letter_wide_0.C R c1 c2) J (retK (letter_wide_0.C R c1 c2) Tryz.f108.results.toList (List.range 0) κ) 10000 (placeOf Tryz.f108 3) (letter_wide_0.s3 x0 x1 x2 x3) = letter_wide_0.t3 c1 c2 x0 x1 x2 x3 (fun y0 y1 y2 y3 => J (placeOf Tryz.f108 3) (letter_wide_0.s3 y0 y1 y2 y3)) (fun r0 => κ [.str r0]) := by kernel_rfl
theorem letter_wide_0.c (R : Type) (c1 : strings_Builder_WriteByte_vxfei.F R) (c2 : strings_Builder_String_vxfe.F R) (κ : List SV → Option R) (k : Nat) (a0 : ByteArray) :
    runF (letter_wide_0.C R c1 c2) Tryz.f108 10000 k [.str a0] κ = letter_wide_0.e c1 c2 a0 (fun y0 y1 y2 y3 => goto (letter_wide_0.C R c1 c2) (retK (letter_wide_0.C R c1 c2) Tryz.f108.results.toList (List.range 0) κ) 10000 k (placeOf Tryz.f108 3) (letter_wide_0.s3 y0 y1 y2 y3)) (fun r0 => κ [.str r0]) := by kernel_rfl
theorem letter_wide_0.g3 (R : Type) (c1 : strings_Builder_WriteByte_vxfei.F R) (c2 : strings_Builder_String_vxfe.F R) (κ : List SV → Option R) : ∀ (f : Nat) (x0 : ByteArray) (x1 : Int) (x2 : Int) (x3 : List AV), goto (letter_wide_0.C R c1 c2) (retK (letter_wide_0.C R c1 c2) Tryz.f108.results.toList (List.range 0) κ) 10000 f (placeOf Tryz.f108 3) (letter_wide_0.s3 x0 x1 x2 x3) = letter_wide_0.L3 c1 c2 (fun r0 => κ [.str r0]) f x0 x1 x2 x3
  | 0, _, _, _, _ => rfl
  | f + 1, x0, x1, x2, x3 => by
    show start (letter_wide_0.C R c1 c2) (goto (letter_wide_0.C R c1 c2) (retK (letter_wide_0.C R c1 c2) Tryz.f108.results.toList (List.range 0) κ) 10000 f) (retK (letter_wide_0.C R c1 c2) Tryz.f108.results.toList (List.range 0) κ) 10000 (placeOf Tryz.f108 3) (letter_wide_0.s3 x0 x1 x2 x3) = _
    rw [letter_wide_0.c3]
    simp only [letter_wide_0.g3 R c1 c2 κ f]
    rfl
theorem letter_wide_0.run (R : Type) (κ : List SV → Option R) (a0 : ByteArray) :
    runF (letter_wide_0.C R strings_Builder_WriteByte_vxfei strings_Builder_String_vxfe) Tryz.f108 10000 fuelK [.str a0] κ = letter_wide_0 a0 (fun r0 => κ [.str r0]) := by
  rw [letter_wide_0.c]
  simp only [letter_wide_0.g3 R strings_Builder_WriteByte_vxfei strings_Builder_String_vxfe κ fuelK]
  rfl
theorem letter_wide_0.Γ_does {R : Type} (tab : Tab) (ht : TabOk tab) (g : Nat) : Does (R := R) Tryz.prog (tabTy tyL) tab g ((letter_wide_0.C R strings_Builder_WriteByte_vxfei strings_Builder_String_vxfe).call g) := by
  refine does_of fun xs κ => ?_
  show DoesAt _ _ _ g xs κ (letter_wide_0.Γ strings_Builder_WriteByte_vxfei strings_Builder_String_vxfe g xs κ)
  unfold letter_wide_0.Γ
  split
  · split
    · exact strings_Builder_String_vxfe.does tab ht _ κ
    · exact DoesAt.none
  · split
    · exact strings_Builder_WriteByte_vxfei.does tab ht _ _ κ
    · exact DoesAt.none
  · exact DoesAt.none
theorem letter_wide_0.does {R : Type} (tab : Tab) (ht : TabOk tab) (a0 : ByteArray) (κ : List SV → Option R) : DoesAt Tryz.prog (tabTy tyL) tab 108 [.str a0] κ (letter_wide_0 a0 (fun r0 => κ [.str r0])) := by
  intro r h w vs Rt Ra bs hpre
  exact runF_sound tyOk (letter_wide_0.Γ_does tab ht) (show Tryz.prog.funcs[108]? = some Tryz.f108 by kernel_rfl) (by kernel_rfl) ((letter_wide_0.run R κ a0).trans h) hpre
def letter_hex_0.Γ {R : Type} (c1 : octet_Lower_0.F R) (c2 : strings_IndexByte_0.F R) (g : Nat) (xs : List SV) (κ : List SV → Option R) : Option R :=
  match g with
  | 40 => (match xs with
    | [.str a0, .int .u8 a1] => c2 a0 a1 (fun r0 => κ [.int .i64 r0])
    | _ => none)
  | 98 => (match xs with
    | [.str a0] => c1 a0 (fun r0 => κ [.str r0])
    | _ => none)
  | _ => none
def letter_hex_0.h (n : Nat) : Option (List (Nat × List (Nat × Nat))) :=
  match n with
  | _ => none
def letter_hex_0.C (R : Type) (c1 : octet_Lower_0.F R) (c2 : strings_IndexByte_0.F R) : Cfg R := ⟨tabTy tyL, letter_hex_0.Γ c1 c2, fun _ => false, letter_hex_0.h⟩
theorem letter_hex_0.c (R : Type) (c1 : octet_Lower_0.F R) (c2 : strings_IndexByte_0.F R) (κ : List SV → Option R) (k : Nat) (a0 : Int) :
    runF (letter_hex_0.C R c1 c2) Tryz.f141 10000 k [.int .u8 a0] κ = letter_hex_0.e c1 c2 a0 (fun r0 => κ [.int .i64 r0]) := by kernel_rfl
theorem letter_hex_0.run (R : Type) (κ : List SV → Option R) (a0 : Int) :
    runF (letter_hex_0.C R octet_Lower_0 strings_IndexByte_0) Tryz.f141 10000 fuelK [.int .u8 a0] κ = letter_hex_0 a0 (fun r0 => κ [.int .i64 r0]) := by
  rw [letter_hex_0.c]
  rfl
theorem letter_hex_0.Γ_does {R : Type} (tab : Tab) (ht : TabOk tab) (g : Nat) : Does (R := R) Tryz.prog (tabTy tyL) tab g ((letter_hex_0.C R octet_Lower_0 strings_IndexByte_0).call g) := by
  refine does_of fun xs κ => ?_
  show DoesAt _ _ _ g xs κ (letter_hex_0.Γ octet_Lower_0 strings_IndexByte_0 g xs κ)
  unfold letter_hex_0.Γ
  split
  · split
    · exact strings_IndexByte_0.does tab ht _ _ κ
    · exact DoesAt.none
  · split
    · exact octet_Lower_0.does tab ht _ κ
    · exact DoesAt.none
  · exact DoesAt.none
theorem letter_hex_0.does {R : Type} (tab : Tab) (ht : TabOk tab) (a0 : Int) (κ : List SV → Option R) : DoesAt Tryz.prog (tabTy tyL) tab 141 [.int .u8 a0] κ (letter_hex_0 a0 (fun r0 => κ [.int .i64 r0])) := by
  intro r h w vs Rt Ra bs hpre
  exact runF_sound tyOk (letter_hex_0.Γ_does tab ht) (show Tryz.prog.funcs[141]? = some Tryz.f141 by kernel_rfl) (by kernel_rfl) ((letter_hex_0.run R κ a0).trans h) hpre
def letter_unquoted_0.Γ {R : Type} (c1 : strings_Builder_WriteByte_vxfei.F R) (c2 : letter_hex_0.F R) (c3 : strings_Builder_String_vxfe.F R) (g : Nat) (xs : List SV) (κ : List SV → Option R) : Option R :=
  match g with
  | 49 => (match xs with
    | [.vp 74 [.nos, .fr 5 a0 true]] => c3 a0 (fun r0 => κ [.str r0, .vp 74 [.nos, .no]])
    | _ => none)
  | 110 => (match xs with
    | [.vp 74 [.nos, .fr 5 a0 true], .int .u8 a1] => c1 a0 a1 (fun r0 => κ [.nili, .vp 74 [.nos, .fr 5 r0 true]])
    | _ => none)
  | 141 => (match xs with
    | [.int .u8 a0] => c2 a0 (fun r0 => κ [.int .i64 r0])
    | _ => none)
  | _ => none
def letter_unquoted_0.h (n : Nat) : Option (List (Nat × List (Nat × Nat))) :=
  match n with
  | 3 => some [(0, [(0, 0)]), (3, [(1, 7)]), (4, [(0, 0)])]
  | _ => none
def letter_unquoted_0.C (R : Type) (c1 : strings_Builder_WriteByte_vxfei.F R) (c2 : letter_hex_0.F R) (c3 : strings_Builder_String_vxfe.F R) : Cfg R := ⟨tabTy tyL, letter_unquoted_0.Γ c1 c2 c3, fun _ => false, letter_unquoted_0.h⟩
def letter_unquoted_0.s3 (x0 : ByteArray) (x1 : Int) (x2 : List AV) : St := ⟨mkS 66 [(0, .str x0), (3, .ptr 319 0), (4, .int .i64 x1)], [(319, .var 74 [.nos, .own 257]), (257, .row 5 x2 true)], top⟩
theorem letter_unquoted_0.c3 (R : Type) (c1 : strings_Builder_WriteByte_vxfei.F R) (c2 : letter_hex_0.F R) (c3 : strings_Builder_String_vxfe.F R) (J : List Item → St → Option R) (κ : List SV → Option R) (x0 : ByteArray) (x1 : Int) (x2 : List AV) :
    start (letter_unquoted_0.C R c1 c2 c3) J (retK (letter_unquoted_0.C R c1 c2 c3) Tryz.f107.results.toList (List.range 0) κ) 10000 (placeOf Tryz.f107 3) (letter_unquoted_0.s3 x0 x1 x2) = letter_unquoted_0.t3 c1 c2 c3 x0 x1 x2 (fun y0 y1 y2 => J (placeOf Tryz.f107 3) (letter_unquoted_0.s3 y0 y1 y2)) (fun r0 => κ [.str r0]) := by kernel_rfl
theorem letter_unquoted_0.c (R : Type) (c1 : strings_Builder_WriteByte_vxfei.F R) (c2 : letter_hex_0.F R) (c3 : strings_Builder_String_vxfe.F R) (κ : List SV → Option R) (k : Nat) (a0 : ByteArray) :
    runF (letter_unquoted_0.C R c1 c2 c3) Tryz.f107 10000 k [.str a0] κ = letter_unquoted_0.e c1 c2 c3 a0 (fun y0 y1 y2 => goto (letter_unquoted_0.C R c1 c2 c3) (retK (letter_unquoted_0.C R c1 c2 c3) Tryz.f107.results.toList (List.range 0) κ) 10000 k (placeOf Tryz.f107 3) (letter_unquoted_0.s3 y0 y1 y2)) (fun r0 => κ [.str r0]) := by kernel_rfl
theorem letter_unquoted_0.g3 (R : Type) (c1 : strings_Builder_WriteByte_vxfei.F R) (c2 : letter_hex_0.F R) (c3 : strings_Builder_String_vxfe.F R) (κ : List SV → Option R) : ∀ (f : Nat) (x0 : ByteArray) (x1 : Int) (x2 : List AV), goto (letter_unquoted_0.C R c1 c2 c3) (retK (letter_unquoted_0.C R c1 c2 c3) Tryz.f107.results.toList (List.range 0) κ) 10000 f (placeOf Tryz.f107 3) (letter_unquoted_0.s3 x0 x1 x2) = letter_unquoted_0.L3 c1 c2 c3 (fun r0 => κ [.str r0]) f x0 x1 x2
  | 0, _, _, _ => rfl
  | f + 1, x0, x1, x2 => by
    show start (letter_unquoted_0.C R c1 c2 c3) (goto (letter_unquoted_0.C R c1 c2 c3) (retK (letter_unquoted_0.C R c1 c2 c3) Tryz.f107.results.toList (List.range 0) κ) 10000 f) (retK (letter_unquoted_0.C R c1 c2 c3) Tryz.f107.results.toList (List.range 0) κ) 10000 (placeOf Tryz.f107 3) (letter_unquoted_0.s3 x0 x1 x2) = _
    rw [letter_unquoted_0.c3]
    simp only [letter_unquoted_0.g3 R c1 c2 c3 κ f]
    rfl
theorem letter_unquoted_0.run (R : Type) (κ : List SV → Option R) (a0 : ByteArray) :
    runF (letter_unquoted_0.C R strings_Builder_WriteByte_vxfei letter_hex_0 strings_Builder_String_vxfe) Tryz.f107 10000 fuelK [.str a0] κ = letter_unquoted_0 a0 (fun r0 => κ [.str r0]) := by
  rw [letter_unquoted_0.c]
  simp only [letter_unquoted_0.g3 R strings_Builder_WriteByte_vxfei letter_hex_0 strings_Builder_String_vxfe κ fuelK]
  rfl
theorem letter_unquoted_0.Γ_does {R : Type} (tab : Tab) (ht : TabOk tab) (g : Nat) : Does (R := R) Tryz.prog (tabTy tyL) tab g ((letter_unquoted_0.C R strings_Builder_WriteByte_vxfei letter_hex_0 strings_Builder_String_vxfe).call g) := by
  refine does_of fun xs κ => ?_
  show DoesAt _ _ _ g xs κ (letter_unquoted_0.Γ strings_Builder_WriteByte_vxfei letter_hex_0 strings_Builder_String_vxfe g xs κ)
  unfold letter_unquoted_0.Γ
  split
  · split
    · exact strings_Builder_String_vxfe.does tab ht _ κ
    · exact DoesAt.none
  · split
    · exact strings_Builder_WriteByte_vxfei.does tab ht _ _ κ
    · exact DoesAt.none
  · split
    · exact letter_hex_0.does tab ht _ κ
    · exact DoesAt.none
  · exact DoesAt.none
theorem letter_unquoted_0.does {R : Type} (tab : Tab) (ht : TabOk tab) (a0 : ByteArray) (κ : List SV → Option R) : DoesAt Tryz.prog (tabTy tyL) tab 107 [.str a0] κ (letter_unquoted_0 a0 (fun r0 => κ [.str r0])) := by
  intro r h w vs Rt Ra bs hpre
  exact runF_sound tyOk (letter_unquoted_0.Γ_does tab ht) (show Tryz.prog.funcs[107]? = some Tryz.f107 by kernel_rfl) (by kernel_rfl) ((letter_unquoted_0.run R κ a0).trans h) hpre
def letter_encoded_0.Γ {R : Type} (c1 : strings_HasPrefix_0.F R) (c2 : strings_IndexByte_0.F R) (c3 : octet_Lower_0.F R) (c4 : octet_Loose64_0.F R) (c5 : letter_wide_0.F R) (c6 : letter_unquoted_0.F R) (g : Nat) (xs : List SV) (κ : List SV → Option R) : Option R :=
  match g with
  | 40 => (match xs with
    | [.str a0, .int .u8 a1] => c2 a0 a1 (fun r0 => κ [.int .i64 r0])
    | _ => none)
  | 84 => (match xs with
    | [.str a0, .str a1] => c1 a0 a1 (fun r0 => κ [.bool r0])
    | _ => none)
  | 98 => (match xs with
    | [.str a0] => c3 a0 (fun r0 => κ [.str r0])
    | _ => none)
  | 106 => (match xs with
    | [.str a0] => c4 a0 (fun r0 => κ [.str r0])
    | _ => none)
  | 107 => (match xs with
    | [.str a0] => c6 a0 (fun r0 => κ [.str r0])
    | _ => none)
  | 108 => (match xs with
    | [.str a0] => c5 a0 (fun r0 => κ [.str r0])
    | _ => none)
  | _ => none
def letter_encoded_0.h (n : Nat) : Option (List (Nat × List (Nat × Nat))) :=
  match n with
  | 9 => some [(0, [(0, 0)]), (5, [(0, 0)]), (6, [(0, 0)]), (7, [(0, 0)]), (8, [(0, 0)])]
  | 12 => some [(0, [(0, 0)]), (5, [(0, 0)]), (6, [(0, 0)]), (7, [(0, 0)]), (8, [(0, 0)]), (9, [(0, 0)])]
  | 14 => some [(0, [(0, 0)]), (5, [(0, 0)]), (6, [(0, 0)]), (7, [(0, 0)]), (8, [(0, 0)])]
  | _ => none
def letter_encoded_0.C (R : Type) (c1 : strings_HasPrefix_0.F R) (c2 : strings_IndexByte_0.F R) (c3 : octet_Lower_0.F R) (c4 : octet_Loose64_0.F R) (c5 : letter_wide_0.F R) (c6 : letter_unquoted_0.F R) : Cfg R := ⟨tabTy tyL, letter_encoded_0.Γ c1 c2 c3 c4 c5 c6, fun _ => false, letter_encoded_0.h⟩
def letter_encoded_0.s9 (x0 : ByteArray) (x1 : ByteArray) (x2 : ByteArray) (x3 : Int) (x4 : Int) : St := ⟨mkS 116 [(0, .str x0), (5, .str x1), (6, .str x2), (7, .int .i64 x3), (8, .int .i64 x4)], [], top⟩
def letter_encoded_0.s12 (x0 : ByteArray) (x1 : ByteArray) (x2 : ByteArray) (x3 : Int) (x4 : Int) (x5 : Bool) : St := ⟨mkS 116 [(0, .str x0), (5, .str x1), (6, .str x2), (7, .int .i64 x3), (8, .int .i64 x4), (9, .bool x5)], [], top⟩
def letter_encoded_0.s14 (x0 : ByteArray) (x1 : ByteArray) (x2 : ByteArray) (x3 : Int) (x4 : Int) : St := ⟨mkS 116 [(0, .str x0), (5, .str x1), (6, .str x2), (7, .int .i64 x3), (8, .int .i64 x4)], [], top⟩
theorem letter_encoded_0.c9 (R : Type) (c1 : strings_HasPrefix_0.F R) (c2 : strings_IndexByte_0.F R) (c3 : octet_Lower_0.F R) (c4 : octet_Loose64_0.F R) (c5 : letter_wide_0.F R) (c6 : letter_unquoted_0.F R) (J : List Item → St → Option R) (κ : List SV → Option R) (x0 : ByteArray) (x1 : ByteArray) (x2 : ByteArray) (x3 : Int) (x4 : Int) :
    start (letter_encoded_0.C R c1 c2 c3 c4 c5 c6) J (retK (letter_encoded_0.C R c1 c2 c3 c4 c5 c6) Tryz.f54.results.toList (List.range 0) κ) 10000 (placeOf Tryz.f54 9) (letter_encoded_0.s9 x0 x1 x2 x3 x4) = letter_encoded_0.t9 c1 c2 c3 c4 c5 c6 x0 x1 x2 x3 x4 (fun y0 y1 y2 y3 y4 => J (placeOf Tryz.f54 9) (letter_encoded_0.s9 y0 y1 y2 y3 y4)) (fun y0 y1 y2 y3 y4 y5 => J (placeOf Tryz.f54 12) (letter_encoded_0.s12 y0 y1 y2 y3 y4 y5)) (fun y0 y1 y2 y3 y4 => J (placeOf Tryz.f54 14) (letter_encoded_0.s14 y0 y1 y2 y3 y4)) (fun r0 r1 => κ [.tup [.str r0, .int .i64 r1]]) := by kernel_rfl
theorem letter_encoded_0.c12 (R : Type) (c1 : strings_HasPrefix_0.F R) (c2 : strings_IndexByte_0.F R) (c3 : octet_Lower_0.F R) (c4 : octet_Loose64_0.F R) (c5 : letter_wide_0.F R) (c6 : letter_unquoted_0.F R) (J : List Item → St → Option R) (κ : List SV → Option R) (x0 : ByteArray) (x1 : ByteArray) (x2 : ByteArray) (x3 : Int) (x4 : Int) (x5 : Bool) :
    start (letter_encoded_0.C R c1 c2 c3 c4 c5 c6) J (retK (letter_encoded_0.C R c1 c2 c3 c4 c5 c6) Tryz.f54.results.toList (List.range 0) κ) 10000 (placeOf Tryz.f54 12) (letter_encoded_0.s12 x0 x1 x2 x3 x4 x5) = letter_encoded_0.t12 c1 c2 c3 c4 c5 c6 x0 x1 x2 x3 x4 x5 (fun y0 y1 y2 y3 y4 => J (placeOf Tryz.f54 9) (letter_encoded_0.s9 y0 y1 y2 y3 y4)) (fun y0 y1 y2 y3 y4 y5 => J (placeOf Tryz.f54 12) (letter_encoded_0.s12 y0 y1 y2 y3 y4 y5)) (fun y0 y1 y2 y3 y4 => J (placeOf Tryz.f54 14) (letter_encoded_0.s14 y0 y1 y2 y3 y4)) (fun r0 r1 => κ [.tup [.str r0, .int .i64 r1]]) := by kernel_rfl
theorem letter_encoded_0.c14 (R : Type) (c1 : strings_HasPrefix_0.F R) (c2 : strings_IndexByte_0.F R) (c3 : octet_Lower_0.F R) (c4 : octet_Loose64_0.F R) (c5 : letter_wide_0.F R) (c6 : letter_unquoted_0.F R) (J : List Item → St → Option R) (κ : List SV → Option R) (x0 : ByteArray) (x1 : ByteArray) (x2 : ByteArray) (x3 : Int) (x4 : Int) :
    start (letter_encoded_0.C R c1 c2 c3 c4 c5 c6) J (retK (letter_encoded_0.C R c1 c2 c3 c4 c5 c6) Tryz.f54.results.toList (List.range 0) κ) 10000 (placeOf Tryz.f54 14) (letter_encoded_0.s14 x0 x1 x2 x3 x4) = letter_encoded_0.t14 c1 c2 c3 c4 c5 c6 x0 x1 x2 x3 x4 (fun y0 y1 y2 y3 y4 => J (placeOf Tryz.f54 9) (letter_encoded_0.s9 y0 y1 y2 y3 y4)) (fun y0 y1 y2 y3 y4 y5 => J (placeOf Tryz.f54 12) (letter_encoded_0.s12 y0 y1 y2 y3 y4 y5)) (fun y0 y1 y2 y3 y4 => J (placeOf Tryz.f54 14) (letter_encoded_0.s14 y0 y1 y2 y3 y4)) (fun r0 r1 => κ [.tup [.str r0, .int .i64 r1]]) := by kernel_rfl
theorem letter_encoded_0.c (R : Type) (c1 : strings_HasPrefix_0.F R) (c2 : strings_IndexByte_0.F R) (c3 : octet_Lower_0.F R) (c4 : octet_Loose64_0.F R) (c5 : letter_wide_0.F R) (c6 : letter_unquoted_0.F R) (κ : List SV → Option R) (k : Nat) (a0 : ByteArray) :
    runF (letter_encoded_0.C R c1 c2 c3 c4 c5 c6) Tryz.f54 10000 k [.str a0] κ = letter_encoded_0.e c1 c2 c3 c4 c5 c6 a0 (fun y0 y1 y2 y3 y4 => goto (letter_encoded_0.C R c1 c2 c3 c4 c5 c6) (retK (letter_encoded_0.C R c1 c2 c3 c4 c5 c6) Tryz.f54.results.toList (List.range 0) κ) 10000 k (placeOf Tryz.f54 9) (letter_encoded_0.s9 y0 y1 y2 y3 y4)) (fun y0 y1 y2 y3 y4 y5 => goto (letter_encoded_0.C R c1 c2 c3 c4 c5 c6) (retK (letter_encoded_0.C R c1 c2 c3 c4 c5 c6) Tryz.f54.results.toList (List.range 0) κ) 10000 k (placeOf Tryz.f54 12) (letter_encoded_0.s12 y0 y1 y2 y3 y4 y5)) (fun y0 y1 y2 y3 y4 => goto (letter_encoded_0.C R c1 c2 c3 c4 c5 c6) (retK (letter_encoded_0.C R c1 c2 c3 c4 c5 c6) Tryz.f54.results.toList (List.range 0) κ) 10000 k (placeOf Tryz.f54 14) (letter_encoded_0.s14 y0 y1 y2 y3 y4)) (fun r0 r1 => κ [.tup [.str r0, .int .i64 r1]]) := by kernel_rfl
theorem letter_encoded_0.g14 (R : Type) (c1 : strings_HasPrefix_0.F R) (c2 : strings_IndexByte_0.F R) (c3 : octet_Lower_0.F R) (c4 : octet_Loose64_0.F R) (c5 : letter_wide_0.F R) (c6 : letter_unquoted_0.F R) (κ : List SV → Option R) : ∀ (f : Nat) (x0 : ByteArray) (x1 : ByteArray) (x2 : ByteArray) (x3 : Int) (x4 : Int), goto (letter_encoded_0.C R c1 c2 c3 c4 c5 c6) (retK (letter_encoded_0.C R c1 c2 c3 c4 c5 c6) Tryz.f54.results.toList (List.range 0) κ) 10000 f (placeOf Tryz.f54 14) (letter_encoded_0.s14 x0 x1 x2 x3 x4) = letter_encoded_0.L14 c1 c2 c3 c4 c5 c6 (fun r0 r1 => κ [.tup [.str r0, .int .i64 r1]]) f x0 x1 x2 x3 x4
  | 0, _, _, _, _, _ => rfl
  | f + 1, x0, x1, x2, x3, x4 => by
    show start (letter_encoded_0.C R c1 c2 c3 c4 c5 c6) (goto (letter_encoded_0.C R c1 c2 c3 c4 c5 c6) (retK (letter_encoded_0.C R c1 c2 c3 c4 c5 c6) Tryz.f54.results.toList (List.range 0) κ) 10000 f) (retK (letter_encoded_0.C R c1 c2 c3 c4 c5 c6) Tryz.f54.results.toList (List.range 0) κ) 10000 (placeOf Tryz.f54 14) (letter_encoded_0.s14 x0 x1 x2 x3 x4) = _
    rw [letter_encoded_0.c14]
    skip
    rfl
theorem letter_encoded_0.g12 (R : Type) (c1 : strings_HasPrefix_0.F R) (c2 : strings_IndexByte_0.F R) (c3 : octet_Lower_0.F R) (c4 : octet_Loose64_0.F R) (c5 : letter_wide_0.F R) (c6 : letter_unquoted_0.F R) (κ : List SV → Option R) : ∀ (f : Nat) (x0 : ByteArray) (x1 : ByteArray) (x2 : ByteArray) (x3 : Int) (x4 : Int) (x5 : Bool), goto (letter_encoded_0.C R c1 c2 c3 c4 c5 c6) (retK (letter_encoded_0.C R c1 c2 c3 c4 c5 c6) Tryz.f54.results.toList (List.range 0) κ) 10000 f (placeOf Tryz.f54 12) (letter_encoded_0.s12 x0 x1 x2 x3 x4 x5) = letter_encoded_0.L12 c1 c2 c3 c4 c5 c6 (fun r0 r1 => κ [.tup [.str r0, .int .i64 r1]]) f x0 x1 x2 x3 x4 x5
  | 0, _, _, _, _, _, _ => rfl
  | f + 1, x0, x1, x2, x3, x4, x5 => by
    show start (letter_encoded_0.C R c1 c2 c3 c4 c5 c6) (goto (letter_encoded_0.C R c1 c2 c3 c4 c5 c6) (retK (letter_encoded_0.C R c1 c2 c3 c4 c5 c6) Tryz.f54.results.toList (List.range 0) κ) 10000 f) (retK (letter_encoded_0.C R c1 c2 c3 c4 c5 c6) Tryz.f54.results.toList (List.range 0) κ) 10000 (placeOf Tryz.f54 12) (letter_encoded_0.s12 x0 x1 x2 x3 x4 x5) = _
    rw [letter_encoded_0.c12]
    simp only [letter_encoded_0.g14 R c1 c2 c3 c4 c5 c6 κ f]
    rfl
theorem letter_encoded_0.g9 (R : Type) (c1 : strings_HasPrefix_0.F R) (c2 : strings_IndexByte_0.F R) (c3 : octet_Lower_0.F R) (c4 : octet_Loose64_0.F R) (c5 : letter_wide_0.F R) (c6 : letter_unquoted_0.F R) (κ : List SV → Option R) : ∀ (f : Nat) (x0 : ByteArray) (x1 : ByteArray) (x2 : ByteArray) (x3 : Int) (x4 : Int), goto (letter_encoded_0.C R c1 c2 c3 c4 c5 c6) (retK (letter_encoded_0.C R c1 c2 c3 c4 c5 c6) Tryz.f54.results.toList (List.range 0) κ) 10000 f (placeOf Tryz.f54 9) (letter_encoded_0.s9 x0 x1 x2 x3 x4) = letter_encoded_0.L9 c1 c2 c3 c4 c5 c6 (fun r0 r1 => κ [.tup [.str r0, .int .i64 r1]]) f x0 x1 x2 x3 x4
  | 0, _, _, _, _, _ => rfl
  | f + 1, x0, x1, x2, x3, x4 => by
    show start (letter_encoded_0.C R c1 c2 c3 c4 c5 c6) (goto (letter_encoded_0.C R c1 c2 c3 c4 c5 c6) (retK (letter_encoded_0.C R c1 c2 c3 c4 c5 c6) Tryz.f54.results.toList (List.range 0) κ) 10000 f) (retK (letter_encoded_0.C R c1 c2 c3 c4 c5 c6) Tryz.f54.results.toList (List.range 0) κ) 10000 (placeOf Tryz.f54 9) (letter_encoded_0.s9 x0 x1 x2 x3 x4) = _
    rw [letter_encoded_0.c9]
    simp only [letter_encoded_0.g9 R c1 c2 c3 c4 c5 c6 κ f, letter_encoded_0.g12 R c1 c2 c3 c4 c5 c6 κ f]
    rfl
theorem letter_encoded_0.run (R : Type) (κ : List SV → Option R) (a0 : ByteArray) :
    runF (letter_encoded_0.C R strings_HasPrefix_0 strings_IndexByte_0 octet_Lower_0 octet_Loose64_0 letter_wide_0 letter_unquoted_0) Tryz.f54 10000 fuelK [.str a0] κ = letter_encoded_0 a0 (fun r0 r1 => κ [.tup [.str r0, .int .i64 r1]]) := by
  rw [letter_encoded_0.c]
  simp only [letter_encoded_0.g9 R strings_HasPrefix_0 strings_IndexByte_0 octet_Lower_0 octet_Loose64_0 letter_wide_0 letter_unquoted_0 κ fuelK, letter_encoded_0.g12 R strings_HasPrefix_0 strings_IndexByte_0 octet_Lower_0 octet_Loose64_0 letter_wide_0 letter_unquoted_0 κ fuelK, letter_encoded_0.g14 R strings_HasPrefix_0 strings_IndexByte_0 octet_Lower_0 octet_Loose64_0 letter_wide_0 letter_unquoted_0 κ fuelK]
  rfl
theorem letter_encoded_0.Γ_does {R : Type} (tab : Tab) (ht : TabOk tab) (g : Nat) : Does (R := R) Tryz.prog (tabTy tyL) tab g ((letter_encoded_0.C R strings_HasPrefix_0 strings_IndexByte_0 octet_Lower_0 octet_Loose64_0 letter_wide_0 letter_unquoted_0).call g) := by
  refine does_of fun xs κ => ?_
  show DoesAt _ _ _ g xs κ (letter_encoded_0.Γ strings_HasPrefix_0 strings_IndexByte_0 octet_Lower_0 octet_Loose64_0 letter_wide_0 letter_unquoted_0 g xs κ)
  unfold letter_encoded_0.Γ
  split
  · split
    · exact strings_IndexByte_0.does tab ht _ _ κ
    · exact DoesAt.none
  · split
    · exact strings_HasPrefix_0.does tab ht _ _ κ
    · exact DoesAt.none
  · split
    · exact octet_Lower_0.does tab ht _ κ
    · exact DoesAt.none
  · split
    · exact octet_Loose64_0.does tab ht _ κ
    · exact DoesAt.none
  · split
    · exact letter_unquoted_0.does tab ht _ κ
    · exact DoesAt.none
  · split
    · exact letter_wide_0.does tab ht _ κ
    · exact DoesAt.none
  · exact DoesAt.none
theorem letter_encoded_0.does {R : Type} (tab : Tab) (ht : TabOk tab) (a0 : ByteArray) (κ : List SV → Option R) : DoesAt Tryz.prog (tabTy tyL) tab 54 [.str a0] κ (letter_encoded_0 a0 (fun r0 r1 => κ [.tup [.str r0, .int .i64 r1]])) := by
  intro r h w vs Rt Ra bs hpre
  exact runF_sound tyOk (letter_encoded_0.Γ_does tab ht) (show Tryz.prog.funcs[54]? = some Tryz.f54 by kernel_rfl) (by kernel_rfl) ((letter_encoded_0.run R κ a0).trans h) hpre
def strings_Builder_WriteString_vxnes.Γ {R : Type} (c1 : strings_Builder_copyCheck_vxne.F R) (g : Nat) (xs : List SV) (κ : List SV → Option R) : Option R :=
  match g with
  | 99 => (match xs with
    | [.vp 74 [.nos, .nil]] => c1 (κ [.tup [], .vp 74 [.nos, .nil]])
    | _ => none)
  | _ => none
def strings_Builder_WriteString_vxnes.h (n : Nat) : Option (List (Nat × List (Nat × Nat))) :=
  match n with
  | _ => none
def strings_Builder_WriteString_vxnes.C (R : Type) (c1 : strings_Builder_copyCheck_vxne.F R) : Cfg R := ⟨tabTy tyL, strings_Builder_WriteString_vxnes.Γ c1, fun _ => false, strings_Builder_WriteString_vxnes.h⟩
theorem strings_Builder_WriteString_vxnes.c (R : Type) (c1 : strings_Builder_copyCheck_vxne.F R) (κ : List SV → Option R) (k : Nat) (a0 : ByteArray) :
    runF (strings_Builder_WriteString_vxnes.C R c1) Tryz.f47 10000 k [.vp 74 [.nos, .nil], .str a0] κ = strings_Builder_WriteString_vxnes.e c1 a0 (fun r0 r1 => κ [.tup [.int .i64 r0, .nili], .vp 74 [.nos, .fr 5 r1 true]]) := by kernel_rfl
theorem strings_Builder_WriteString_vxnes.run (R : Type) (κ : List SV → Option R) (a0 : ByteArray) :
    runF (strings_Builder_WriteString_vxnes.C R strings_Builder_copyCheck_vxne) Tryz.f47 10000 fuelK [.vp 74 [.nos, .nil], .str a0] κ = strings_Builder_WriteString_vxnes a0 (fun r0 r1 => κ [.tup [.int .i64 r0, .nili], .vp 74 [.nos, .fr 5 r1 true]]) := by
  rw [strings_Builder_WriteString_vxnes.c]
  rfl
theorem strings_Builder_WriteString_vxnes.Γ_does {R : Type} (tab : Tab) (ht : TabOk tab) (g : Nat) : Does (R := R) Tryz.prog (tabTy tyL) tab g ((strings_Builder_WriteString_vxnes.C R strings_Builder_copyCheck_vxne).call g) := by
  refine does_of fun xs κ => ?_
  show DoesAt _ _ _ g xs κ (strings_Builder_WriteString_vxnes.Γ strings_Builder_copyCheck_vxne g xs κ)
  unfold strings_Builder_WriteString_vxnes.Γ
  split
  · split
    · exact strings_Builder_copyCheck_vxne.does tab ht κ
    · exact DoesAt.none
  · exact DoesAt.none
theorem strings_Builder_WriteString_vxnes.does {R : Type} (tab : Tab) (ht : TabOk tab) (a0 : ByteArray) (κ : List SV → Option R) : DoesAt Tryz.prog (tabTy tyL) tab 47 [.vp 74 [.nos, .nil], .str a0] κ (strings_Builder_WriteString_vxnes a0 (fun r0 r1 => κ [.tup [.int .i64 r0, .nili], .vp 74 [.nos, .fr 5 r1 true]])) := by
  intro r h w vs Rt Ra bs hpre
  exact runF_sound tyOk (strings_Builder_WriteString_vxnes.Γ_does tab ht) (show Tryz.prog.funcs[47]? = some Tryz.f47 by kernel_rfl) (by kernel_rfl) ((strings_Builder_WriteString_vxnes.run R κ a0).trans h) hpre
def strings_Builder_WriteString_vxfes.Γ {R : Type} (c1 : strings_Builder_copyCheck_vxfe.F R) (g : Nat) (xs : List SV) (κ : List SV → Option R) : Option R :=
  match g with
  | 99 => (match xs with
    | [.vp 74 [.nos, .fr 5 a0 true]] => c1 a0 (fun r0 => κ [.tup [], .vp 74 [.nos, .fr 5 r0 true]])
    | _ => none)
  | _ => none
def strings_Builder_WriteString_vxfes.h (n : Nat) : Option (List (Nat × List (Nat × Nat))) :=
  match n with
  | _ => none
def strings_Builder_WriteString_vxfes.C (R : Type) (c1 : strings_Builder_copyCheck_vxfe.F R) : Cfg R := ⟨tabTy tyL, strings_Builder_WriteString_vxfes.Γ c1, fun _ => false, strings_Builder_WriteString_vxfes.h⟩
theorem strings_Builder_WriteString_vxfes.c (R : Type) (c1 : strings_Builder_copyCheck_vxfe.F R) (κ : List SV → Option R) (k : Nat) (a0 : List AV) (a1 : ByteArray) :
    runF (strings_Builder_WriteString_vxfes.C R c1) Tryz.f47 10000 k [.vp 74 [.nos, .fr 5 a0 true], .str a1] κ = strings_Builder_WriteString_vxfes.e c1 a0 a1 (fun r0 r1 => κ [.tup [.int .i64 r0, .nili], .vp 74 [.nos, .fr 5 r1 true]]) := by kernel_rfl
theorem strings_Builder_WriteString_vxfes.run (R : Type) (κ : List SV → Option R) (a0 : List AV) (a1 : ByteArray) :
    runF (strings_Builder_WriteString_vxfes.C R strings_Builder_copyCheck_vxfe) Tryz.f47 10000 fuelK [.vp 74 [.nos, .fr 5 a0 true], .str a1] κ = strings_Builder_WriteString_vxfes a0 a1 (fun r0 r1 => κ [.tup [.int .i64 r0, .nili], .vp 74 [.nos, .fr 5 r1 true]]) := by
  rw [strings_Builder_WriteString_vxfes.c]
  rfl
theorem strings_Builder_WriteString_vxfes.Γ_does {R : Type} (tab : Tab) (ht : TabOk tab) (g : Nat) : Does (R := R) Tryz.prog (tabTy tyL) tab g ((strings_Builder_WriteString_vxfes.C R strings_Builder_copyCheck_vxfe).call g) := by
  refine does_of fun xs κ => ?_
  show DoesAt _ _ _ g xs κ (strings_Builder_WriteString_vxfes.Γ strings_Builder_copyCheck_vxfe g xs κ)
  unfold strings_Builder_WriteString_vxfes.Γ
  split
  · split
    · exact strings_Builder_copyCheck_vxfe.does tab ht _ κ
    · exact DoesAt.none
  · exact DoesAt.none
theorem strings_Builder_WriteString_vxfes.does {R : Type} (tab : Tab) (ht : TabOk tab) (a0 : List AV) (a1 : ByteArray) (κ : List SV → Option R) : DoesAt Tryz.prog (tabTy tyL) tab 47 [.vp 74 [.nos, .fr 5 a0 true], .str a1] κ (strings_Builder_WriteString_vxfes a0 a1 (fun r0 r1 => κ [.tup [.int .i64 r0, .nili], .vp 74 [.nos, .fr 5 r1 true]])) := by
  intro r h w vs Rt Ra bs hpre
  exact runF_sound tyOk (strings_Builder_WriteString_vxfes.Γ_does tab ht) (show Tryz.prog.funcs[47]? = some Tryz.f47 by kernel_rfl) (by kernel_rfl) ((strings_Builder_WriteString_vxfes.run R κ a0 a1).trans h) hpre
def letter_isBlank_0.Γ {R : Type} (g : Nat) (xs : List SV) (κ : List SV → Option R) : Option R :=
  match g with
  | _ => none
def letter_isBlank_0.h (n : Nat) : Option (List (Nat × List (Nat × Nat))) :=
  match n with
  | _ => none
def letter_isBlank_0.C (R : Type) : Cfg R := ⟨tabTy tyL, letter_isBlank_0.Γ, fun _ => false, letter_isBlank_0.h⟩
theorem letter_isBlank_0.c (R : Type) (κ : List SV → Option R) (k : Nat) (a0 : Int) :
    runF (letter_isBlank_0.C R) Tryz.f55 10000 k [.int .u8 a0] κ = letter_isBlank_0.e a0 (fun r0 => κ [.bool r0]) := by kernel_rfl
theorem letter_isBlank_0.run (R : Type) (κ : List SV → Option R) (a0 : Int) :
    runF (letter_isBlank_0.C R) Tryz.f55 10000 fuelK [.int .u8 a0] κ = letter_isBlank_0 a0 (fun r0 => κ [.bool r0]) := by
  rw [letter_isBlank_0.c]
  rfl
theorem letter_isBlank_0.Γ_does {R : Type} (tab : Tab) (ht : TabOk tab) (g : Nat) : Does (R := R) Tryz.prog (tabTy tyL) tab g ((letter_isBlank_0.C R).call g) := by
  refine does_of fun xs κ => ?_
  show DoesAt _ _ _ g xs κ (letter_isBlank_0.Γ g xs κ)
  unfold letter_isBlank_0.Γ
  split
  · exact DoesAt.none
theorem letter_isBlank_0.does {R : Type} (tab : Tab) (ht : TabOk tab) (a0 : Int) (κ : List SV → Option R) : DoesAt Tryz.prog (tabTy tyL) tab 55 [.int .u8 a0] κ (letter_isBlank_0 a0 (fun r0 => κ [.bool r0])) := by
  intro r h w vs Rt Ra bs hpre
  exact runF_sound tyOk (letter_isBlank_0.Γ_does tab ht) (show Tryz.prog.funcs[55]? = some Tryz.f55 by kernel_rfl) (by kernel_rfl) ((letter_isBlank_0.run R κ a0).trans h) hpre
def letter_Words_0.Γ {R : Type} (c1 : letter_encoded_0.F R) (c2 : strings_Builder_WriteString_vxfes.F R) (c3 : letter_isBlank_0.F R) (c4 : strings_Builder_String_vxfe.F R) (g : Nat) (xs : List SV) (κ : List SV → Option R) : Option R :=
  match g with
  | 47 => (match xs with
    | [.vp 74 [.nos, .fr 5 a0 true], .str a1] => c2 a0 a1 (fun r0 r1 => κ [.tup [.int .i64 r0, .nili], .vp 74 [.nos, .fr 5 r1 true]])
    | _ => none)
  | 49 => (match xs with
    | [.vp 74 [.nos, .fr 5 a0 true]] => c4 a0 (fun r0 => κ [.str r0, .vp 74 [.nos, .no]])
    | _ => none)
  | 54 => (match xs with
    | [.str a0] => c1 a0 (fun r0 r1 => κ [.tup [.str r0, .int .i64 r1]])
    | _ => none)
  | 55 => (match xs with
    | [.int .u8 a0] => c3 a0 (fun r0 => κ [.bool r0])
    | _ => none)
  | _ => none
def letter_Words_0.h (n : Nat) : Option (List (Nat × List (Nat × Nat))) :=
  match n with
  | 5 => some [(0, [(0, 0)]), (3, [(1, 7)]), (4, [(0, 0)]), (5, [(0, 0)]), (6, [(0, 0)])]
  | _ => none
def letter_Words_0.C (R : Type) (c1 : letter_encoded_0.F R) (c2 : strings_Builder_WriteString_vxfes.F R) (c3 : letter_isBlank_0.F R) (c4 : strings_Builder_String_vxfe.F R) : Cfg R := ⟨tabTy tyL, letter_Words_0.Γ c1 c2 c3 c4, fun _ => false, letter_Words_0.h⟩
def letter_Words_0.s5 (x0 : ByteArray) (x1 : Bool) (x2 : Int) (x3 : Int) (x4 : List AV) : St := ⟨mkS 56 [(0, .str x0), (3, .ptr 319 0), (4, .bool x1), (5, .int .i64 x2), (6, .int .i64 x3)], [(319, .var 74 [.nos, .own 257]), (257, .row 5 x4 true)], top⟩
theorem letter_Words_0.c5 (R : Type) (c1 : letter_encoded_0.F R) (c2 : strings_Builder_WriteString_vxfes.F R) (c3 : letter_isBlank_0.F R) (c4 : strings_Builder_String_vxfe.F R) (J : List Item → St → Option R) (κ : List SV → Option R) (x0 : ByteArray) (x1 : Bool) (x2 : Int) (x3 : Int) (x4 : List AV) :
    start (letter_Words_0.C R c1 c2 c3 c4) J (retK (letter_Words_0.C R c1 c2 c3 c4) Tryz.f19.results.toList (List.range 0) κ) 10000 (placeOf Tryz.f19 5) (letter_Words_0.s5 x0 x1 x2 x3 x4) = letter_Words_0.t5 c1 c2 c3 c4 x0 x1 x2 x3 x4 (fun y0 y1 y2 y3 y4 => J (placeOf Tryz.f19 5) (letter_Words_0.s5 y0 y1 y2 y3 y4)) (fun r0 => κ [.str r0]) := by kernel_rfl
theorem letter_Words_0.c (R : Type) (c1 : letter_encoded_0.F R) (c2 : strings_Builder_WriteString_vxfes.F R) (c3 : letter_isBlank_0.F R) (c4 : strings_Builder_String_vxfe.F R) (κ : List SV → Option R) (k : Nat) (a0 : ByteArray) :
    runF (letter_Words_0.C R c1 c2 c3 c4) Tryz.f19 10000 k [.str a0] κ = letter_Words_0.e c1 c2 c3 c4 a0 (fun y0 y1 y2 y3 y4 => goto (letter_Words_0.C R c1 c2 c3 c4) (retK (letter_Words_0.C R c1 c2 c3 c4) Tryz.f19.results.toList (List.range 0) κ) 10000 k (placeOf Tryz.f19 5) (letter_Words_0.s5 y0 y1 y2 y3 y4)) (fun r0 => κ [.str r0]) := by kernel_rfl
theorem letter_Words_0.g5 (R : Type) (c1 : letter_encoded_0.F R) (c2 : strings_Builder_WriteString_vxfes.F R) (c3 : letter_isBlank_0.F R) (c4 : strings_Builder_String_vxfe.F R) (κ : List SV → Option R) : ∀ (f : Nat) (x0 : ByteArray) (x1 : Bool) (x2 : Int) (x3 : Int) (x4 : List AV), goto (letter_Words_0.C R c1 c2 c3 c4) (retK (letter_Words_0.C R c1 c2 c3 c4) Tryz.f19.results.toList (List.range 0) κ) 10000 f (placeOf Tryz.f19 5) (letter_Words_0.s5 x0 x1 x2 x3 x4) = letter_Words_0.L5 c1 c2 c3 c4 (fun r0 => κ [.str r0]) f x0 x1 x2 x3 x4
  | 0, _, _, _, _, _ => rfl
  | f + 1, x0, x1, x2, x3, x4 => by
    show start (letter_Words_0.C R c1 c2 c3 c4) (goto (letter_Words_0.C R c1 c2 c3 c4) (retK (letter_Words_0.C R c1 c2 c3 c4) Tryz.f19.results.toList (List.range 0) κ) 10000 f) (retK (letter_Words_0.C R c1 c2 c3 c4) Tryz.f19.results.toList (List.range 0) κ) 10000 (placeOf Tryz.f19 5) (letter_Words_0.s5 x0 x1 x2 x3 x4) = _
    rw [letter_Words_0.c5]
    simp only [letter_Words_0.g5 R c1 c2 c3 c4 κ f]
    rfl
theorem letter_Words_0.run (R : Type) (κ : List SV → Option R) (a0 : ByteArray) :
    runF (letter_Words_0.C R letter_encoded_0 strings_Builder_WriteString_vxfes letter_isBlank_0 strings_Builder_String_vxfe) Tryz.f19 10000 fuelK [.str a0] κ = letter_Words_0 a0 (fun r0 => κ [.str r0]) := by
  rw [letter_Words_0.c]
  simp only [letter_Words_0.g5 R letter_encoded_0 strings_Builder_WriteString_vxfes letter_isBlank_0 strings_Builder_String_vxfe κ fuelK]
  rfl
theorem letter_Words_0.Γ_does {R : Type} (tab : Tab) (ht : TabOk tab) (g : Nat) : Does (R := R) Tryz.prog (tabTy tyL) tab g ((letter_Words_0.C R letter_encoded_0 strings_Builder_WriteString_vxfes letter_isBlank_0 strings_Builder_String_vxfe).call g) := by
  refine does_of fun xs κ => ?_
  show DoesAt _ _ _ g xs κ (letter_Words_0.Γ letter_encoded_0 strings_Builder_WriteString_vxfes letter_isBlank_0 strings_Builder_String_vxfe g xs κ)
  unfold letter_Words_0.Γ
  split
  · split
    · exact strings_Builder_WriteString_vxfes.does tab ht _ _ κ
    · exact DoesAt.none
  · split
    · exact strings_Builder_String_vxfe.does tab ht _ κ
    · exact DoesAt.none
  · split
    · exact letter_encoded_0.does tab ht _ κ
    · exact DoesAt.none
  · split
    · exact letter_isBlank_0.does tab ht _ κ
    · exact DoesAt.none
  · exact DoesAt.none
theorem letter_Words_0.does {R : Type} (tab : Tab) (ht : TabOk tab) (a0 : ByteArray) (κ : List SV → Option R) : DoesAt Tryz.prog (tabTy tyL) tab 19 [.str a0] κ (letter_Words_0 a0 (fun r0 => κ [.str r0])) := by
  intro r h w vs Rt Ra bs hpre
  exact runF_sound tyOk (letter_Words_0.Γ_does tab ht) (show Tryz.prog.funcs[19]? = some Tryz.f19 by kernel_rfl) (by kernel_rfl) ((letter_Words_0.run R κ a0).trans h) hpre
def letter_isSpace_0.Γ {R : Type} (g : Nat) (xs : List SV) (κ : List SV → Option R) : Option R :=
  match g with
  | _ => none
def letter_isSpace_0.h (n : Nat) : Option (List (Nat × List (Nat × Nat))) :=
  match n with
  | _ => none
def letter_isSpace_0.C (R : Type) : Cfg R := ⟨tabTy tyL, letter_isSpace_0.Γ, fun _ => false, letter_isSpace_0.h⟩
theorem letter_isSpace_0.c (R : Type) (κ : List SV → Option R) (k : Nat) (a0 : Int) :
    runF (letter_isSpace_0.C R) Tryz.f116 10000 k [.int .u8 a0] κ = letter_isSpace_0.e a0 (fun r0 => κ [.bool r0]) := by kernel_rfl
theorem letter_isSpace_0.run (R : Type) (κ : List SV → Option R) (a0 : Int) :
    runF (letter_isSpace_0.C R) Tryz.f116 10000 fuelK [.int .u8 a0] κ = letter_isSpace_0 a0 (fun r0 => κ [.bool r0]) := by
  rw [letter_isSpace_0.c]
  rfl
theorem letter_isSpace_0.Γ_does {R : Type} (tab : Tab) (ht : TabOk tab) (g : Nat) : Does (R := R) Tryz.prog (tabTy tyL) tab g ((letter_isSpace_0.C R).call g) := by
  refine does_of fun xs κ => ?_
  show DoesAt _ _ _ g xs κ (letter_isSpace_0.Γ g xs κ)
  unfold letter_isSpace_0.Γ
  split
  · exact DoesAt.none
theorem letter_isSpace_0.does {R : Type} (tab : Tab) (ht : TabOk tab) (a0 : Int) (κ : List SV → Option R) : DoesAt Tryz.prog (tabTy tyL) tab 116 [.int .u8 a0] κ (letter_isSpace_0 a0 (fun r0 => κ [.bool r0])) := by
  intro r h w vs Rt Ra bs hpre
  exact runF_sound tyOk (letter_isSpace_0.Γ_does tab ht) (show Tryz.prog.funcs[116]? = some Tryz.f116 by kernel_rfl) (by kernel_rfl) ((letter_isSpace_0.run R κ a0).trans h) hpre
def letter_one_0.Γ {R : Type} (c1 : letter_isSpace_0.F R) (c2 : strings_Builder_WriteByte_vxfei.F R) (c3 : strings_Builder_String_vxfe.F R) (g : Nat) (xs : List SV) (κ : List SV → Option R) : Option R :=
  match g with
  | 49 => (match xs with
    | [.vp 74 [.nos, .fr 5 a0 true]] => c3 a0 (fun r0 => κ [.str r0, .vp 74 [.nos, .no]])
    | _ => none)
  | 110 => (match xs with
    | [.vp 74 [.nos, .fr 5 a0 true], .int .u8 a1] => c2 a0 a1 (fun r0 => κ [.nili, .vp 74 [.nos, .fr 5 r0 true]])
    | _ => none)
  | 116 => (match xs with
    | [.int .u8 a0] => c1 a0 (fun r0 => κ [.bool r0])
    | _ => none)
  | _ => none
def letter_one_0.h (n : Nat) : Option (List (Nat × List (Nat × Nat))) :=
  match n with
  | 4 => some [(0, [(0, 0)]), (3, [(1, 7)]), (4, [(0, 0)]), (7, [(0, 0)]), (8, [(0, 0)])]
  | _ => none
def letter_one_0.C (R : Type) (c1 : letter_isSpace_0.F R) (c2 : strings_Builder_WriteByte_vxfei.F R) (c3 : strings_Builder_String_vxfe.F R) : Cfg R := ⟨tabTy tyL, letter_one_0.Γ c1 c2 c3, fun _ => false, letter_one_0.h⟩
def letter_one_0.s4 (x0 : ByteArray) (x1 : Bool) (x2 : Int) (x3 : Int) (x4 : List AV) : St := ⟨mkS 29 [(0, .str x0), (3, .ptr 319 0), (4, .bool x1), (7, .int .i64 x2), (8, .int .i64 x3)], [(319, .var 74 [.nos, .own 257]), (257, .row 5 x4 true)], top⟩
theorem letter_one_0.c4 (R : Type) (c1 : letter_isSpace_0.F R) (c2 : strings_Builder_WriteByte_vxfei.F R) (c3 : strings_Builder_String_vxfe.F R) (J : List Item → St → Option R) (κ : List SV → Option R) (x0 : ByteArray) (x1 : Bool) (x2 : Int) (x3 : Int) (x4 : List AV) :
    start (letter_one_0.C R c1 c2 c3) J (retK (letter_one_0.C R c1 c2 c3) Tryz.f73.results.toList (List.range 0) κ) 10000 (placeOf Tryz.f73 4) (letter_one_0.s4 x0 x1 x2 x3 x4) = letter_one_0.t4 c1 c2 c3 x0 x1 x2 x3 x4 (fun y0 y1 y2 y3 y4 => J (placeOf Tryz.f73 4) (letter_one_0.s4 y0 y1 y2 y3 y4)) (fun r0 => κ [.str r0]) := by kernel_rfl
theorem letter_one_0.c (R : Type) (c1 : letter_isSpace_0.F R) (c2 : strings_Builder_WriteByte_vxfei.F R) (c3 : strings_Builder_String_vxfe.F R) (κ : List SV → Option R) (k : Nat) (a0 : ByteArray) :
    runF (letter_one_0.C R c1 c2 c3) Tryz.f73 10000 k [.str a0] κ = letter_one_0.e c1 c2 c3 a0 (fun y0 y1 y2 y3 y4 => goto (letter_one_0.C R c1 c2 c3) (retK (letter_one_0.C R c1 c2 c3) Tryz.f73.results.toList (List.range 0) κ) 10000 k (placeOf Tryz.f73 4) (letter_one_0.s4 y0 y1 y2 y3 y4)) (fun r0 => κ [.str r0]) := by kernel_rfl
theorem letter_one_0.g4 (R : Type) (c1 : letter_isSpace_0.F R) (c2 : strings_Builder_WriteByte_vxfei.F R) (c3 : strings_Builder_String_vxfe.F R) (κ : List SV → Option R) : ∀ (f : Nat) (x0 : ByteArray) (x1 : Bool) (x2 : Int) (x3 : Int) (x4 : List AV), goto (letter_one_0.C R c1 c2 c3) (retK (letter_one_0.C R c1 c2 c3) Tryz.f73.results.toList (List.range 0) κ) 10000 f (placeOf Tryz.f73 4) (letter_one_0.s4 x0 x1 x2 x3 x4) = letter_one_0.L4 c1 c2 c3 (fun r0 => κ [.str r0]) f x0 x1 x2 x3 x4
  | 0, _, _, _, _, _ => rfl
  | f + 1, x0, x1, x2, x3, x4 => by
    show start (letter_one_0.C R c1 c2 c3) (goto (letter_one_0.C R c1 c2 c3) (retK (letter_one_0.C R c1 c2 c3) Tryz.f73.results.toList (List.range 0) κ) 10000 f) (retK (letter_one_0.C R c1 c2 c3) Tryz.f73.results.toList (List.range 0) κ) 10000 (placeOf Tryz.f73 4) (letter_one_0.s4 x0 x1 x2 x3 x4) = _
    rw [letter_one_0.c4]
    simp only [letter_one_0.g4 R c1 c2 c3 κ f]
    rfl
theorem letter_one_0.run (R : Type) (κ : List SV → Option R) (a0 : ByteArray) :
    runF (letter_one_0.C R letter_isSpace_0 strings_Builder_WriteByte_vxfei strings_Builder_String_vxfe) Tryz.f73 10000 fuelK [.str a0] κ = letter_one_0 a0 (fun r0 => κ [.str r0]) := by
  rw [letter_one_0.c]
  simp only [letter_one_0.g4 R letter_isSpace_0 strings_Builder_WriteByte_vxfei strings_Builder_String_vxfe κ fuelK]
  rfl
theorem letter_one_0.Γ_does {R : Type} (tab : Tab) (ht : TabOk tab) (g : Nat) : Does (R := R) Tryz.prog (tabTy tyL) tab g ((letter_one_0.C R letter_isSpace_0 strings_Builder_WriteByte_vxfei strings_Builder_String_vxfe).call g) := by
  refine does_of fun xs κ => ?_
  show DoesAt _ _ _ g xs κ (letter_one_0.Γ letter_isSpace_0 strings_Builder_WriteByte_vxfei strings_Builder_String_vxfe g xs κ)
  unfold letter_one_0.Γ
  split
  · split
    · exact strings_Builder_String_vxfe.does tab ht _ κ
    · exact DoesAt.none
  · split
    · exact strings_Builder_WriteByte_vxfei.does tab ht _ _ κ
    · exact DoesAt.none
  · split
    · exact letter_isSpace_0.does tab ht _ κ
    · exact DoesAt.none
  · exact DoesAt.none
theorem letter_one_0.does {R : Type} (tab : Tab) (ht : TabOk tab) (a0 : ByteArray) (κ : List SV → Option R) : DoesAt Tryz.prog (tabTy tyL) tab 73 [.str a0] κ (letter_one_0 a0 (fun r0 => κ [.str r0])) := by
  intro r h w vs Rt Ra bs hpre
  exact runF_sound tyOk (letter_one_0.Γ_does tab ht) (show Tryz.prog.funcs[73]? = some Tryz.f73 by kernel_rfl) (by kernel_rfl) ((letter_one_0.run R κ a0).trans h) hpre
def letter_rules_0.Γ {R : Type} (g : Nat) (xs : List SV) (κ : List SV → Option R) : Option R :=
  match g with
  | _ => none
def letter_rules_0.h (n : Nat) : Option (List (Nat × List (Nat × Nat))) :=
  match n with
  | _ => none
def letter_rules_0.C (R : Type) : Cfg R := ⟨tabTy tyL, letter_rules_0.Γ, fun _ => false, letter_rules_0.h⟩
theorem letter_rules_0.c (R : Type) (κ : List SV → Option R) (k : Nat) :
    runF (letter_rules_0.C R) Tryz.f74 10000 k [] κ = letter_rules_0.e (fun r0 r1 r2 r3 r4 r5 => κ [.agg [.fn 117, .bool r0, .fn 119, .bool r1, .fn 120, .bool r2, .fn 122, .bool r3, .fn 124, .bool r4, .fn 126, .bool r5]]) := by kernel_rfl
theorem letter_rules_0.run (R : Type) (κ : List SV → Option R) :
    runF (letter_rules_0.C R) Tryz.f74 10000 fuelK [] κ = letter_rules_0 (fun r0 r1 r2 r3 r4 r5 => κ [.agg [.fn 117, .bool r0, .fn 119, .bool r1, .fn 120, .bool r2, .fn 122, .bool r3, .fn 124, .bool r4, .fn 126, .bool r5]]) := by
  rw [letter_rules_0.c]
  rfl
theorem letter_rules_0.Γ_does {R : Type} (tab : Tab) (ht : TabOk tab) (g : Nat) : Does (R := R) Tryz.prog (tabTy tyL) tab g ((letter_rules_0.C R).call g) := by
  refine does_of fun xs κ => ?_
  show DoesAt _ _ _ g xs κ (letter_rules_0.Γ g xs κ)
  unfold letter_rules_0.Γ
  split
  · exact DoesAt.none
theorem letter_rules_0.does {R : Type} (tab : Tab) (ht : TabOk tab) (κ : List SV → Option R) : DoesAt Tryz.prog (tabTy tyL) tab 74 [] κ (letter_rules_0 (fun r0 r1 r2 r3 r4 r5 => κ [.agg [.fn 117, .bool r0, .fn 119, .bool r1, .fn 120, .bool r2, .fn 122, .bool r3, .fn 124, .bool r4, .fn 126, .bool r5]])) := by
  intro r h w vs Rt Ra bs hpre
  exact runF_sound tyOk (letter_rules_0.Γ_does tab ht) (show Tryz.prog.funcs[74]? = some Tryz.f74 by kernel_rfl) (by kernel_rfl) ((letter_rules_0.run R κ).trans h) hpre
def octet_Same_0.Γ {R : Type} (c1 : octet_Lower_0.F R) (g : Nat) (xs : List SV) (κ : List SV → Option R) : Option R :=
  match g with
  | 98 => (match xs with
    | [.str a0] => c1 a0 (fun r0 => κ [.str r0])
    | _ => none)
  | _ => none
def octet_Same_0.h (n : Nat) : Option (List (Nat × List (Nat × Nat))) :=
  match n with
  | _ => none
def octet_Same_0.C (R : Type) (c1 : octet_Lower_0.F R) : Cfg R := ⟨tabTy tyL, octet_Same_0.Γ c1, fun _ => false, octet_Same_0.h⟩
theorem octet_Same_0.c (R : Type) (c1 : octet_Lower_0.F R) (κ : List SV → Option R) (k : Nat) (a0 : ByteArray) (a1 : ByteArray) :
    runF (octet_Same_0.C R c1) Tryz.f46 10000 k [.str a0, .str a1] κ = octet_Same_0.e c1 a0 a1 (fun r0 => κ [.bool r0]) := by kernel_rfl
theorem octet_Same_0.run (R : Type) (κ : List SV → Option R) (a0 : ByteArray) (a1 : ByteArray) :
    runF (octet_Same_0.C R octet_Lower_0) Tryz.f46 10000 fuelK [.str a0, .str a1] κ = octet_Same_0 a0 a1 (fun r0 => κ [.bool r0]) := by
  rw [octet_Same_0.c]
  rfl
theorem octet_Same_0.Γ_does {R : Type} (tab : Tab) (ht : TabOk tab) (g : Nat) : Does (R := R) Tryz.prog (tabTy tyL) tab g ((octet_Same_0.C R octet_Lower_0).call g) := by
  refine does_of fun xs κ => ?_
  show DoesAt _ _ _ g xs κ (octet_Same_0.Γ octet_Lower_0 g xs κ)
  unfold octet_Same_0.Γ
  split
  · split
    · exact octet_Lower_0.does tab ht _ κ
    · exact DoesAt.none
  · exact DoesAt.none
theorem octet_Same_0.does {R : Type} (tab : Tab) (ht : TabOk tab) (a0 : ByteArray) (a1 : ByteArray) (κ : List SV → Option R) : DoesAt Tryz.prog (tabTy tyL) tab 46 [.str a0, .str a1] κ (octet_Same_0 a0 a1 (fun r0 => κ [.bool r0])) := by
  intro r h w vs Rt Ra bs hpre
  exact runF_sound tyOk (octet_Same_0.Γ_does tab ht) (show Tryz.prog.funcs[46]? = some Tryz.f46 by kernel_rfl) (by kernel_rfl) ((octet_Same_0.run R κ a0 a1).trans h) hpre
def letter_begin_0.Γ {R : Type} (c1 : octet_Same_0.F R) (g : Nat) (xs : List SV) (κ : List SV → Option R) : Option R :=
  match g with
  | 46 => (match xs with
    | [.str a0, .str a1] => c1 a0 a1 (fun r0 => κ [.bool r0])
    | _ => none)
  | _ => none
def letter_begin_0.h (n : Nat) : Option (List (Nat × List (Nat × Nat))) :=
  match n with
  | _ => none
def letter_begin_0.C (R : Type) (c1 : octet_Same_0.F R) : Cfg R := ⟨tabTy tyL, letter_begin_0.Γ c1, fun _ => false, letter_begin_0.h⟩
theorem letter_begin_0.c (R : Type) (c1 : octet_Same_0.F R) (κ : List SV → Option R) (k : Nat) (a0 : ByteArray) (a1 : ByteArray) :
    runF (letter_begin_0.C R c1) Tryz.f127 10000 k [.str a0, .str a1] κ = letter_begin_0.e c1 a0 a1 (fun r0 => κ [.bool r0]) := by kernel_rfl
theorem letter_begin_0.run (R : Type) (κ : List SV → Option R) (a0 : ByteArray) (a1 : ByteArray) :
    runF (letter_begin_0.C R octet_Same_0) Tryz.f127 10000 fuelK [.str a0, .str a1] κ = letter_begin_0 a0 a1 (fun r0 => κ [.bool r0]) := by
  rw [letter_begin_0.c]
  rfl
theorem letter_begin_0.Γ_does {R : Type} (tab : Tab) (ht : TabOk tab) (g : Nat) : Does (R := R) Tryz.prog (tabTy tyL) tab g ((letter_begin_0.C R octet_Same_0).call g) := by
  refine does_of fun xs κ => ?_
  show DoesAt _ _ _ g xs κ (letter_begin_0.Γ octet_Same_0 g xs κ)
  unfold letter_begin_0.Γ
  split
  · split
    · exact octet_Same_0.does tab ht _ _ κ
    · exact DoesAt.none
  · exact DoesAt.none
theorem letter_begin_0.does {R : Type} (tab : Tab) (ht : TabOk tab) (a0 : ByteArray) (a1 : ByteArray) (κ : List SV → Option R) : DoesAt Tryz.prog (tabTy tyL) tab 127 [.str a0, .str a1] κ (letter_begin_0 a0 a1 (fun r0 => κ [.bool r0])) := by
  intro r h w vs Rt Ra bs hpre
  exact runF_sound tyOk (letter_begin_0.Γ_does tab ht) (show Tryz.prog.funcs[127]? = some Tryz.f127 by kernel_rfl) (by kernel_rfl) ((letter_begin_0.run R κ a0 a1).trans h) hpre
def stringslite_HasSuffix_0.Γ {R : Type} (g : Nat) (xs : List SV) (κ : List SV → Option R) : Option R :=
  match g with
  | _ => none
def stringslite_HasSuffix_0.h (n : Nat) : Option (List (Nat × List (Nat × Nat))) :=
  match n with
  | _ => none
def stringslite_HasSuffix_0.C (R : Type) : Cfg R := ⟨tabTy tyL, stringslite_HasSuffix_0.Γ, fun _ => false, stringslite_HasSuffix_0.h⟩
theorem stringslite_HasSuffix_0.c (R : Type) (κ : List SV → Option R) (k : Nat) (a0 : ByteArray) (a1 : ByteArray) :
    runF (stringslite_HasSuffix_0.C R) Tryz.f100 10000 k [.str a0, .str a1] κ = stringslite_HasSuffix_0.e a0 a1 (fun r0 => κ [.bool r0]) := by kernel_rfl
theorem stringslite_HasSuffix_0.run (R : Type) (κ : List SV → Option R) (a0 : ByteArray) (a1 : ByteArray) :
    runF (stringslite_HasSuffix_0.C R) Tryz.f100 10000 fuelK [.str a0, .str a1] κ = stringslite_HasSuffix_0 a0 a1 (fun r0 => κ [.bool r0]) := by
  rw [stringslite_HasSuffix_0.c]
  rfl
theorem stringslite_HasSuffix_0.Γ_does {R : Type} (tab : Tab) (ht : TabOk tab) (g : Nat) : Does (R := R) Tryz.prog (tabTy tyL) tab g ((stringslite_HasSuffix_0.C R).call g) := by
  refine does_of fun xs κ => ?_
  show DoesAt _ _ _ g xs κ (stringslite_HasSuffix_0.Γ g xs κ)
  unfold stringslite_HasSuffix_0.Γ
  split
  · exact DoesAt.none
theorem stringslite_HasSuffix_0.does {R : Type} (tab : Tab) (ht : TabOk tab) (a0 : ByteArray) (a1 : ByteArray) (κ : List SV → Option R) : DoesAt Tryz.prog (tabTy tyL) tab 100 [.str a0, .str a1] κ (stringslite_HasSuffix_0 a0 a1 (fun r0 => κ [.bool r0])) := by
  intro r h w vs Rt Ra bs hpre
  exact runF_sound tyOk (stringslite_HasSuffix_0.Γ_does tab ht) (show Tryz.prog.funcs[100]? = some Tryz.f100 by kernel_rfl) (by kernel_rfl) ((stringslite_HasSuffix_0.run R κ a0 a1).trans h) hpre
def strings_HasSuffix_0.Γ {R : Type} (c1 : stringslite_HasSuffix_0.F R) (g : Nat) (xs : List SV) (κ : List SV → Option R) : Option R :=
  match g with
  | 100 => (match xs with
    | [.str a0, .str a1] => c1 a0 a1 (fun r0 => κ [.bool r0])
    | _ => none)
  | _ => none
def strings_HasSuffix_0.h (n : Nat) : Option (List (Nat × List (Nat × Nat))) :=
  match n with
  | _ => none
def strings_HasSuffix_0.C (R : Type) (c1 : stringslite_HasSuffix_0.F R) : Cfg R := ⟨tabTy tyL, strings_HasSuffix_0.Γ c1, fun _ => false, strings_HasSuffix_0.h⟩
theorem strings_HasSuffix_0.c (R : Type) (c1 : stringslite_HasSuffix_0.F R) (κ : List SV → Option R) (k : Nat) (a0 : ByteArray) (a1 : ByteArray) :
    runF (strings_HasSuffix_0.C R c1) Tryz.f48 10000 k [.str a0, .str a1] κ = strings_HasSuffix_0.e c1 a0 a1 (fun r0 => κ [.bool r0]) := by kernel_rfl
theorem strings_HasSuffix_0.run (R : Type) (κ : List SV → Option R) (a0 : ByteArray) (a1 : ByteArray) :
    runF (strings_HasSuffix_0.C R stringslite_HasSuffix_0) Tryz.f48 10000 fuelK [.str a0, .str a1] κ = strings_HasSuffix_0 a0 a1 (fun r0 => κ [.bool r0]) := by
  rw [strings_HasSuffix_0.c]
  rfl
theorem strings_HasSuffix_0.Γ_does {R : Type} (tab : Tab) (ht : TabOk tab) (g : Nat) : Does (R := R) Tryz.prog (tabTy tyL) tab g ((strings_HasSuffix_0.C R stringslite_HasSuffix_0).call g) := by
  refine does_of fun xs κ => ?_
  show DoesAt _ _ _ g xs κ (strings_HasSuffix_0.Γ stringslite_HasSuffix_0 g xs κ)
  unfold strings_HasSuffix_0.Γ
  split
  · split
    · exact stringslite_HasSuffix_0.does tab ht _ _ κ
    · exact DoesAt.none
  · exact DoesAt.none
theorem strings_HasSuffix_0.does {R : Type} (tab : Tab) (ht : TabOk tab) (a0 : ByteArray) (a1 : ByteArray) (κ : List SV → Option R) : DoesAt Tryz.prog (tabTy tyL) tab 48 [.str a0, .str a1] κ (strings_HasSuffix_0 a0 a1 (fun r0 => κ [.bool r0])) := by
  intro r h w vs Rt Ra bs hpre
  exact runF_sound tyOk (strings_HasSuffix_0.Γ_does tab ht) (show Tryz.prog.funcs[48]? = some Tryz.f48 by kernel_rfl) (by kernel_rfl) ((strings_HasSuffix_0.run R κ a0 a1).trans h) hpre
def letter_rules_6_0.Γ {R : Type} (c1 : letter_begin_0.F R) (c2 : strings_HasSuffix_0.F R) (g : Nat) (xs : List SV) (κ : List SV → Option R) : Option R :=
  match g with
  | 48 => (match xs with
    | [.str a0, .str a1] => c2 a0 a1 (fun r0 => κ [.bool r0])
    | _ => none)
  | 127 => (match xs with
    | [.str a0, .str a1] => c1 a0 a1 (fun r0 => κ [.bool r0])
    | _ => none)
  | _ => none
def letter_rules_6_0.h (n : Nat) : Option (List (Nat × List (Nat × Nat))) :=
  match n with
  | _ => none
def letter_rules_6_0.C (R : Type) (c1 : letter_begin_0.F R) (c2 : strings_HasSuffix_0.F R) : Cfg R := ⟨tabTy tyL, letter_rules_6_0.Γ c1 c2, fun _ => false, letter_rules_6_0.h⟩
theorem letter_rules_6_0.c (R : Type) (c1 : letter_begin_0.F R) (c2 : strings_HasSuffix_0.F R) (κ : List SV → Option R) (k : Nat) (a0 : ByteArray) :
    runF (letter_rules_6_0.C R c1 c2) Tryz.f126 10000 k [.str a0] κ = letter_rules_6_0.e c1 c2 a0 (fun r0 r1 => κ [.tup [.str r0, .bool r1]]) := by kernel_rfl
theorem letter_rules_6_0.run (R : Type) (κ : List SV → Option R) (a0 : ByteArray) :
    runF (letter_rules_6_0.C R letter_begin_0 strings_HasSuffix_0) Tryz.f126 10000 fuelK [.str a0] κ = letter_rules_6_0 a0 (fun r0 r1 => κ [.tup [.str r0, .bool r1]]) := by
  rw [letter_rules_6_0.c]
  rfl
theorem letter_rules_6_0.Γ_does {R : Type} (tab : Tab) (ht : TabOk tab) (g : Nat) : Does (R := R) Tryz.prog (tabTy tyL) tab g ((letter_rules_6_0.C R letter_begin_0 strings_HasSuffix_0).call g) := by
  refine does_of fun xs κ => ?_
  show DoesAt _ _ _ g xs κ (letter_rules_6_0.Γ letter_begin_0 strings_HasSuffix_0 g xs κ)
  unfold letter_rules_6_0.Γ
  split
  · split
    · exact strings_HasSuffix_0.does tab ht _ _ κ
    · exact DoesAt.none
  · split
    · exact letter_begin_0.does tab ht _ _ κ
    · exact DoesAt.none
  · exact DoesAt.none
theorem letter_rules_6_0.does {R : Type} (tab : Tab) (ht : TabOk tab) (a0 : ByteArray) (κ : List SV → Option R) : DoesAt Tryz.prog (tabTy tyL) tab 126 [.str a0] κ (letter_rules_6_0 a0 (fun r0 r1 => κ [.tup [.str r0, .bool r1]])) := by
  intro r h w vs Rt Ra bs hpre
  exact runF_sound tyOk (letter_rules_6_0.Γ_does tab ht) (show Tryz.prog.funcs[126]? = some Tryz.f126 by kernel_rfl) (by kernel_rfl) ((letter_rules_6_0.run R κ a0).trans h) hpre
def utf8_ValidRune_0.Γ {R : Type} (g : Nat) (xs : List SV) (κ : List SV → Option R) : Option R :=
  match g with
  | _ => none
def utf8_ValidRune_0.h (n : Nat) : Option (List (Nat × List (Nat × Nat))) :=
  match n with
  | _ => none
def utf8_ValidRune_0.C (R : Type) : Cfg R := ⟨tabTy tyL, utf8_ValidRune_0.Γ, fun _ => false, utf8_ValidRune_0.h⟩
theorem utf8_ValidRune_0.c (R : Type) (κ : List SV → Option R) (k : Nat) (a0 : Int) :
    runF (utf8_ValidRune_0.C R) Tryz.f160 10000 k [.int .i32 a0] κ = utf8_ValidRune_0.e a0 (fun r0 => κ [.bool r0]) := by kernel_rfl
theorem utf8_ValidRune_0.run (R : Type) (κ : List SV → Option R) (a0 : Int) :
    runF (utf8_ValidRune_0.C R) Tryz.f160 10000 fuelK [.int .i32 a0] κ = utf8_ValidRune_0 a0 (fun r0 => κ [.bool r0]) := by
  rw [utf8_ValidRune_0.c]
  rfl
theorem utf8_ValidRune_0.Γ_does {R : Type} (tab : Tab) (ht : TabOk tab) (g : Nat) : Does (R := R) Tryz.prog (tabTy tyL) tab g ((utf8_ValidRune_0.C R).call g) := by
  refine does_of fun xs κ => ?_
  show DoesAt _ _ _ g xs κ (utf8_ValidRune_0.Γ g xs κ)
  unfold utf8_ValidRune_0.Γ
  split
  · exact DoesAt.none
theorem utf8_ValidRune_0.does {R : Type} (tab : Tab) (ht : TabOk tab) (a0 : Int) (κ : List SV → Option R) : DoesAt Tryz.prog (tabTy tyL) tab 160 [.int .i32 a0] κ (utf8_ValidRune_0 a0 (fun r0 => κ [.bool r0])) := by
  intro r h w vs Rt Ra bs hpre
  exact runF_sound tyOk (utf8_ValidRune_0.Γ_does tab ht) (show Tryz.prog.funcs[160]? = some Tryz.f160 by kernel_rfl) (by kernel_rfl) ((utf8_ValidRune_0.run R κ a0).trans h) hpre
def bytealg_Cutover_0.Γ {R : Type} (g : Nat) (xs : List SV) (κ : List SV → Option R) : Option R :=
  match g with
  | _ => none
def bytealg_Cutover_0.h (n : Nat) : Option (List (Nat × List (Nat × Nat))) :=
  match n with
  | _ => none
def bytealg_Cutover_0.C (R : Type) : Cfg R := ⟨tabTy tyL, bytealg_Cutover_0.Γ, fun _ => false, bytealg_Cutover_0.h⟩
theorem bytealg_Cutover_0.c (R : Type) (κ : List SV → Option R) (k : Nat) (a0 : Int) :
    runF (bytealg_Cutover_0.C R) Tryz.f152 10000 k [.int .i64 a0] κ = bytealg_Cutover_0.e a0 (fun r0 => κ [.int .i64 r0]) := by kernel_rfl
theorem bytealg_Cutover_0.run (R : Type) (κ : List SV → Option R) (a0 : Int) :
    runF (bytealg_Cutover_0.C R) Tryz.f152 10000 fuelK [.int .i64 a0] κ = bytealg_Cutover_0 a0 (fun r0 => κ [.int .i64 r0]) := by
  rw [bytealg_Cutover_0.c]
  rfl
theorem bytealg_Cutover_0.Γ_does {R : Type} (tab : Tab) (ht : TabOk tab) (g : Nat) : Does (R := R) Tryz.prog (tabTy tyL) tab g ((bytealg_Cutover_0.C R).call g) := by
  refine does_of fun xs κ => ?_
  show DoesAt _ _ _ g xs κ (bytealg_Cutover_0.Γ g xs κ)
  unfold bytealg_Cutover_0.Γ
  split
  · exact DoesAt.none
theorem bytealg_Cutover_0.does {R : Type} (tab : Tab) (ht : TabOk tab) (a0 : Int) (κ : List SV → Option R) : DoesAt Tryz.prog (tabTy tyL) tab 152 [.int .i64 a0] κ (bytealg_Cutover_0 a0 (fun r0 => κ [.int .i64 r0])) := by
  intro r h w vs Rt Ra bs hpre
  exact runF_sound tyOk (bytealg_Cutover_0.Γ_does tab ht) (show Tryz.prog.funcs[152]? = some Tryz.f152 by kernel_rfl) (by kernel_rfl) ((bytealg_Cutover_0.run R κ a0).trans h) hpre
def strings_IndexRune_0.Γ {R : Type} (c1 : strings_IndexByte_0.F R) (c2 : utf8_ValidRune_0.F R) (c3 : bytealg_Cutover_0.F R) (g : Nat) (xs : List SV) (κ : List SV → Option R) : Option R :=
  match g with
  | 40 => (match xs with
    | [.str a0, .int .u8 a1] => c1 a0 a1 (fun r0 => κ [.int .i64 r0])
    | _ => none)
  | 152 => (match xs with
    | [.int .i64 a0] => c3 a0 (fun r0 => κ [.int .i64 r0])
    | _ => none)
  | 160 => (match xs with
    | [.int .i32 a0] => c2 a0 (fun r0 => κ [.bool r0])
    | _ => none)
  | _ => none
def strings_IndexRune_0.h (n : Nat) : Option (List (Nat × List (Nat × Nat))) :=
  match n with
  | 5 => some [(0, [(0, 0)]), (1, [(0, 0)]), (7, [(0, 0)]), (8, [(0, 0)]), (9, [(0, 0)]), (10, [(0, 0)])]
  | 12 => some [(0, [(0, 0)]), (1, [(0, 0)]), (7, [(0, 0)]), (8, [(0, 0)]), (9, [(0, 0)]), (10, [(0, 0)]), (12, [(0, 0)])]
  | 38 => some [(175, [(0, 0)])]
  | _ => none
def strings_IndexRune_0.C (R : Type) (c1 : strings_IndexByte_0.F R) (c2 : utf8_ValidRune_0.F R) (c3 : bytealg_Cutover_0.F R) : Cfg R := ⟨tabTy tyL, strings_IndexRune_0.Γ c1 c2 c3, fun _ => false, strings_IndexRune_0.h⟩
def strings_IndexRune_0.s5 (x0 : ByteArray) (x1 : Int) (x2 : ByteArray) (x3 : Int) (x4 : Int) (x5 : Int) : St := ⟨mkS 187 [(0, .str x0), (1, .int .i32 x1), (7, .str x2), (8, .int .i64 x3), (9, .int .i64 x4), (10, .int .i64 x5)], [], top⟩
def strings_IndexRune_0.s12 (x0 : ByteArray) (x1 : Int) (x2 : ByteArray) (x3 : Int) (x4 : Int) (x5 : Int) (x6 : Int) : St := ⟨mkS 187 [(0, .str x0), (1, .int .i32 x1), (7, .str x2), (8, .int .i64 x3), (9, .int .i64 x4), (10, .int .i64 x5), (12, .int .i64 x6)], [], top⟩
def strings_IndexRune_0.s38 (x0 : ByteArray) (x1 : Nat) : St := ⟨mkS 187 [(175, .ptr 11327 0)], [(11327, .sit x0 x1)], top⟩
theorem strings_IndexRune_0.c5 (R : Type) (c1 : strings_IndexByte_0.F R) (c2 : utf8_ValidRune_0.F R) (c3 : bytealg_Cutover_0.F R) (J : List Item → St → Option R) (κ : List SV → Option R) (x0 : ByteArray) (x1 : Int) (x2 : ByteArray) (x3 : Int) (x4 : Int) (x5 : Int) :
    start (strings_IndexRune_0.C R c1 c2 c3) J (retK (strings_IndexRune_0.C R c1 c2 c3) Tryz.f155.results.toList (List.range 0) κ) 10000 (placeOf Tryz.f155 5) (strings_IndexRune_0.s5 x0 x1 x2 x3 x4 x5) = strings_IndexRune_0.t5 c1 c2 c3 x0 x1 x2 x3 x4 x5 (fun y0 y1 y2 y3 y4 y5 => J (placeOf Tryz.f155 5) (strings_IndexRune_0.s5 y0 y1 y2 y3 y4 y5)) (fun y0 y1 y2 y3 y4 y5 y6 => J (placeOf Tryz.f155 12) (strings_IndexRune_0.s12 y0 y1 y2 y3 y4 y5 y6)) (fun y0 y1 => J (placeOf Tryz.f155 38) (strings_IndexRune_0.s38 y0 y1)) (fun r0 => κ [.int .i64 r0]) := by kernel_rfl
theorem strings_IndexRune_0.c12 (R : Type) (c1 : strings_IndexByte_0.F R) (c2 : utf8_ValidRune_0.F R) (c3 : bytealg_Cutover_0.F R) (J : List Item → St → Option R) (κ : List SV → Option R) (x0 : ByteArray) (x1 : Int) (x2 : ByteArray) (x3 : Int) (x4 : Int) (x5 : Int) (x6 : Int) :
    start (strings_IndexRune_0.C R c1 c2 c3) J (retK (strings_IndexRune_0.C R c1 c2 c3) Tryz.f155.results.toList (List.range 0) κ) 10000 (placeOf Tryz.f155 12) (strings_IndexRune_0.s12 x0 x1 x2 x3 x4 x5 x6) = strings_IndexRune_0.t12 c1 c2 c3 x0 x1 x2 x3 x4 x5 x6 (fun y0 y1 y2 y3 y4 y5 => J (placeOf Tryz.f155 5) (strings_IndexRune_0.s5 y0 y1 y2 y3 y4 y5)) (fun y0 y1 y2 y3 y4 y5 y6 => J (placeOf Tryz.f155 12) (strings_IndexRune_0.s12 y0 y1 y2 y3 y4 y5 y6)) (fun y0 y1 => J (placeOf Tryz.f155 38) (strings_IndexRune_0.s38 y0 y1)) (fun r0 => κ [.int .i64 r0]) := by kernel_rfl
theorem strings_IndexRune_0.c38 (R : Type) (c1 : strings_IndexByte_0.F R) (c2 : utf8_ValidRune_0.F R) (c3 : bytealg_Cutover_0.F R) (J : List Item → St → Option R) (κ : List SV → Option R) (x0 : ByteArray) (x1 : Nat) :
    start (strings_IndexRune_0.C R c1 c2 c3) J (retK (strings_IndexRune_0.C R c1 c2 c3) Tryz.f155.results.toList (List.range 0) κ) 10000 (placeOf Tryz.f155 38) (strings_IndexRune_0.s38 x0 x1) = strings_IndexRune_0.t38 c1 c2 c3 x0 x1 (fun y0 y1 y2 y3 y4 y5 => J (placeOf Tryz.f155 5) (strings_IndexRune_0.s5 y0 y1 y2 y3 y4 y5)) (fun y0 y1 y2 y3 y4 y5 y6 => J (placeOf Tryz.f155 12) (strings_IndexRune_0.s12 y0 y1 y2 y3 y4 y5 y6)) (fun y0 y1 => J (placeOf Tryz.f155 38) (strings_IndexRune_0.s38 y0 y1)) (fun r0 => κ [.int .i64 r0]) := by kernel_rfl
theorem strings_IndexRune_0.c (R : Type) (c1 : strings_IndexByte_0.F R) (c2 : utf8_ValidRune_0.F R) (c3 : bytealg_Cutover_0.F R) (κ : List SV → Option R) (k : Nat) (a0 : ByteArray) (a1 : Int) :
    runF (strings_IndexRune_0.C R c1 c2 c3) Tryz.f155 10000 k [.str a0, .int .i32 a1] κ = strings_IndexRune_0.e c1 c2 c3 a0 a1 (fun y0 y1 y2 y3 y4 y5 => goto (strings_IndexRune_0.C R c1 c2 c3) (retK (strings_IndexRune_0.C R c1 c2 c3) Tryz.f155.results.toList (List.range 0) κ) 10000 k (placeOf Tryz.f155 5) (strings_IndexRune_0.s5 y0 y1 y2 y3 y4 y5)) (fun y0 y1 y2 y3 y4 y5 y6 => goto (strings_IndexRune_0.C R c1 c2 c3) (retK (strings_IndexRune_0.C R c1 c2 c3) Tryz.f155.results.toList (List.range 0) κ) 10000 k (placeOf Tryz.f155 12) (strings_IndexRune_0.s12 y0 y1 y2 y3 y4 y5 y6)) (fun y0 y1 => goto (strings_IndexRune_0.C R c1 c2 c3) (retK (strings_IndexRune_0.C R c1 c2 c3) Tryz.f155.results.toList (List.range 0) κ) 10000 k (placeOf Tryz.f155 38) (strings_IndexRune_0.s38 y0 y1)) (fun r0 => κ [.int .i64 r0]) := by kernel_rfl
theorem strings_IndexRune_0.gM5 (R : Type) (c1 : strings_IndexByte_0.F R) (c2 : utf8_ValidRune_0.F R) (c3 : bytealg_Cutover_0.F R) (κ : List SV → Option R) : ∀ (f : Nat), (∀ (x0 : ByteArray) (x1 : Int) (x2 : ByteArray) (x3 : Int) (x4 : Int) (x5 : Int), goto (strings_IndexRune_0.C R c1 c2 c3) (retK (strings_IndexRune_0.C R c1 c2 c3) Tryz.f155.results.toList (List.range 0) κ) 10000 f (placeOf Tryz.f155 5) (strings_IndexRune_0.s5 x0 x1 x2 x3 x4 x5) = strings_IndexRune_0.L5 c1 c2 c3 (fun r0 => κ [.int .i64 r0]) f x0 x1 x2 x3 x4 x5) ∧
    (∀ (x0 : ByteArray) (x1 : Int) (x2 : ByteArray) (x3 : Int) (x4 : Int) (x5 : Int) (x6 : Int), goto (strings_IndexRune_0.C R c1 c2 c3) (retK (strings_IndexRune_0.C R c1 c2 c3) Tryz.f155.results.toList (List.range 0) κ) 10000 f (placeOf Tryz.f155 12) (strings_IndexRune_0.s12 x0 x1 x2 x3 x4 x5 x6) = strings_IndexRune_0.L12 c1 c2 c3 (fun r0 => κ [.int .i64 r0]) f x0 x1 x2 x3 x4 x5 x6)
  | 0 => ⟨fun _ _ _ _ _ _ => rfl, fun _ _ _ _ _ _ _ => rfl⟩
  | f + 1 => by
    obtain ⟨ih0, ih1⟩ := strings_IndexRune_0.gM5 R c1 c2 c3 κ f
    refine ⟨?_, ?_⟩
    · intro x0 x1 x2 x3 x4 x5
      show start (strings_IndexRune_0.C R c1 c2 c3) (goto (strings_IndexRune_0.C R c1 c2 c3) (retK (strings_IndexRune_0.C R c1 c2 c3) Tryz.f155.results.toList (List.range 0) κ) 10000 f) (retK (strings_IndexRune_0.C R c1 c2 c3) Tryz.f155.results.toList (List.range 0) κ) 10000 (placeOf Tryz.f155 5) (strings_IndexRune_0.s5 x0 x1 x2 x3 x4 x5) = _
      rw [strings_IndexRune_0.c5]
      simp only [ih0, ih1]
      rfl
    · intro x0 x1 x2 x3 x4 x5 x6
      show start (strings_IndexRune_0.C R c1 c2 c3) (goto (strings_IndexRune_0.C R c1 c2 c3) (retK (strings_IndexRune_0.C R c1 c2 c3) Tryz.f155.results.toList (List.range 0) κ) 10000 f) (retK (strings_IndexRune_0.C R c1 c2 c3) Tryz.f155.results.toList (List.range 0) κ) 10000 (placeOf Tryz.f155 12) (strings_IndexRune_0.s12 x0 x1 x2 x3 x4 x5 x6) = _
      rw [strings_IndexRune_0.c12]
      simp only [ih0, ih1]
      rfl
theorem strings_IndexRune_0.g5 (R : Type) (c1 : strings_IndexByte_0.F R) (c2 : utf8_ValidRune_0.F R) (c3 : bytealg_Cutover_0.F R) (κ : List SV → Option R) (f : Nat) (x0 : ByteArray) (x1 : Int) (x2 : ByteArray) (x3 : Int) (x4 : Int) (x5 : Int) : goto (strings_IndexRune_0.C R c1 c2 c3) (retK (strings_IndexRune_0.C R c1 c2 c3) Tryz.f155.results.toList (List.range 0) κ) 10000 f (placeOf Tryz.f155 5) (strings_IndexRune_0.s5 x0 x1 x2 x3 x4 x5) = strings_IndexRune_0.L5 c1 c2 c3 (fun r0 => κ [.int .i64 r0]) f x0 x1 x2 x3 x4 x5 := (strings_IndexRune_0.gM5 R c1 c2 c3 κ f).1 x0 x1 x2 x3 x4 x5
theorem strings_IndexRune_0.g12 (R : Type) (c1 : strings_IndexByte_0.F R) (c2 : utf8_ValidRune_0.F R) (c3 : bytealg_Cutover_0.F R) (κ : List SV → Option R) (f : Nat) (x0 : ByteArray) (x1 : Int) (x2 : ByteArray) (x3 : Int) (x4 : Int) (x5 : Int) (x6 : Int) : goto (strings_IndexRune_0.C R c1 c2 c3) (retK (strings_IndexRune_0.C R c1 c2 c3) Tryz.f155.results.toList (List.range 0) κ) 10000 f (placeOf Tryz.f155 12) (strings_IndexRune_0.s12 x0 x1 x2 x3 x4 x5 x6) = strings_IndexRune_0.L12 c1 c2 c3 (fun r0 => κ [.int .i64 r0]) f x0 x1 x2 x3 x4 x5 x6 := (strings_IndexRune_0.gM5 R c1 c2 c3 κ f).2 x0 x1 x2 x3 x4 x5 x6
theorem strings_IndexRune_0.g38 (R : Type) (c1 : strings_IndexByte_0.F R) (c2 : utf8_ValidRune_0.F R) (c3 : bytealg_Cutover_0.F R) (κ : List SV → Option R) : ∀ (f : Nat) (x0 : ByteArray) (x1 : Nat), goto (strings_IndexRune_0.C R c1 c2 c3) (retK (strings_IndexRune_0.C R c1 c2 c3) Tryz.f155.results.toList (List.range 0) κ) 10000 f (placeOf Tryz.f155 38) (strings_IndexRune_0.s38 x0 x1) = strings_IndexRune_0.L38 c1 c2 c3 (fun r0 => κ [.int .i64 r0]) f x0 x1
  | 0, _, _ => rfl
  | f + 1, x0, x1 => by
    show start (strings_IndexRune_0.C R c1 c2 c3) (goto (strings_IndexRune_0.C R c1 c2 c3) (retK (strings_IndexRune_0.C R c1 c2 c3) Tryz.f155.results.toList (List.range 0) κ) 10000 f) (retK (strings_IndexRune_0.C R c1 c2 c3) Tryz.f155.results.toList (List.range 0) κ) 10000 (placeOf Tryz.f155 38) (strings_IndexRune_0.s38 x0 x1) = _
    rw [strings_IndexRune_0.c38]
    simp only [strings_IndexRune_0.g38 R c1 c2 c3 κ f]
    rfl
theorem strings_IndexRune_0.run (R : Type) (κ : List SV → Option R) (a0 : ByteArray) (a1 : Int) :
    runF (strings_IndexRune_0.C R strings_IndexByte_0 utf8_ValidRune_0 bytealg_Cutover_0) Tryz.f155 10000 fuelK [.str a0, .int .i32 a1] κ = strings_IndexRune_0 a0 a1 (fun r0 => κ [.int .i64 r0]) := by
  rw [strings_IndexRune_0.c]
  simp only [strings_IndexRune_0.g5 R strings_IndexByte_0 utf8_ValidRune_0 bytealg_Cutover_0 κ fuelK, strings_IndexRune_0.g12 R strings_IndexByte_0 utf8_ValidRune_0 bytealg_Cutover_0 κ fuelK, strings_IndexRune_0.g38 R strings_IndexByte_0 utf8_ValidRune_0 bytealg_Cutover_0 κ fuelK]
  rfl
theorem strings_IndexRune_0.Γ_does {R : Type} (tab : Tab) (ht : TabOk tab) (g : Nat) : Does (R := R) Tryz.prog (tabTy tyL) tab g ((strings_IndexRune_0.C R strings_IndexByte_0 utf8_ValidRune_0 bytealg_Cutover_0).call g) := by
  refine does_of fun xs κ => ?_
  show DoesAt _ _ _ g xs κ (strings_IndexRune_0.Γ strings_IndexByte_0 utf8_ValidRune_0 bytealg_Cutover_0 g xs κ)
  unfold strings_IndexRune_0.Γ
  split
  · split
    · exact strings_IndexByte_0.does tab ht _ _ κ
    · exact DoesAt.none
  · split
    · exact bytealg_Cutover_0.does tab ht _ κ
    · exact DoesAt.none
  · split
    · exact utf8_ValidRune_0.does tab ht _ κ
    · exact DoesAt.none
  · exact DoesAt.none
theorem strings_IndexRune_0.does {R : Type} (tab : Tab) (ht : TabOk tab) (a0 : ByteArray) (a1 : Int) (κ : List SV → Option R) : DoesAt Tryz.prog (tabTy tyL) tab 155 [.str a0, .int .i32 a1] κ (strings_IndexRune_0 a0 a1 (fun r0 => κ [.int .i64 r0])) := by
  intro r h w vs Rt Ra bs hpre
  exact runF_sound tyOk (strings_IndexRune_0.Γ_does tab ht) (show Tryz.prog.funcs[155]? = some Tryz.f155 by kernel_rfl) (by kernel_rfl) ((strings_IndexRune_0.run R κ a0 a1).trans h) hpre
def strings_shouldUseASCIISet_0.Γ {R : Type} (g : Nat) (xs : List SV) (κ : List SV → Option R) : Option R :=
  match g with
  | _ => none
def strings_shouldUseASCIISet_0.h (n : Nat) : Option (List (Nat × List (Nat × Nat))) :=
  match n with
  | _ => none
def strings_shouldUseASCIISet_0.C (R : Type) : Cfg R := ⟨tabTy tyL, strings_shouldUseASCIISet_0.Γ, fun _ => false, strings_shouldUseASCIISet_0.h⟩
theorem strings_shouldUseASCIISet_0.c (R : Type) (κ : List SV → Option R) (k : Nat) (a0 : Int) :
    runF (strings_shouldUseASCIISet_0.C R) Tryz.f158 10000 k [.int .i64 a0] κ = strings_shouldUseASCIISet_0.e a0 (fun r0 => κ [.bool r0]) := by kernel_rfl
theorem strings_shouldUseASCIISet_0.run (R : Type) (κ : List SV → Option R) (a0 : Int) :
    runF (strings_shouldUseASCIISet_0.C R) Tryz.f158 10000 fuelK [.int .i64 a0] κ = strings_shouldUseASCIISet_0 a0 (fun r0 => κ [.bool r0]) := by
  rw [strings_shouldUseASCIISet_0.c]
  rfl
theorem strings_shouldUseASCIISet_0.Γ_does {R : Type} (tab : Tab) (ht : TabOk tab) (g : Nat) : Does (R := R) Tryz.prog (tabTy tyL) tab g ((strings_shouldUseASCIISet_0.C R).call g) := by
  refine does_of fun xs κ => ?_
  show DoesAt _ _ _ g xs κ (strings_shouldUseASCIISet_0.Γ g xs κ)
  unfold strings_shouldUseASCIISet_0.Γ
  split
  · exact DoesAt.none
theorem strings_shouldUseASCIISet_0.does {R : Type} (tab : Tab) (ht : TabOk tab) (a0 : Int) (κ : List SV → Option R) : DoesAt Tryz.prog (tabTy tyL) tab 158 [.int .i64 a0] κ (strings_shouldUseASCIISet_0 a0 (fun r0 => κ [.bool r0])) := by
  intro r h w vs Rt Ra bs hpre
  exact runF_sound tyOk (strings_shouldUseASCIISet_0.Γ_does tab ht) (show Tryz.prog.funcs[158]? = some Tryz.f158 by kernel_rfl) (by kernel_rfl) ((strings_shouldUseASCIISet_0.run R κ a0).trans h) hpre
def strings_makeASCIISet_0.Γ {R : Type} (g : Nat) (xs : List SV) (κ : List SV → Option R) : Option R :=
  match g with
  | _ => none
def strings_makeASCIISet_0.h (n : Nat) : Option (List (Nat × List (Nat × Nat))) :=
  match n with
  | 2 => some [(0, [(0, 0)]), (2, [(0, 0)]), (4, [(0, 0)])]
  | _ => none
def strings_makeASCIISet_0.C (R : Type) : Cfg R := ⟨tabTy tyL, strings_makeASCIISet_0.Γ, fun _ => false, strings_makeASCIISet_0.h⟩
def strings_makeASCIISet_0.s2 (x0 : ByteArray) (x1 : Int) (x2 : List AV) : St := ⟨mkS 21 [(0, .str x0), (2, .ap 192 256), (4, .int .i64 x1)], [(192, .row 4 x2 true)], top⟩
theorem strings_makeASCIISet_0.c2 (R : Type) (J : List Item → St → Option R) (κ : List SV → Option R) (x0 : ByteArray) (x1 : Int) (x2 : List AV) :
    start (strings_makeASCIISet_0.C R) J (retK (strings_makeASCIISet_0.C R) Tryz.f91.results.toList (List.range 0) κ) 10000 (placeOf Tryz.f91 2) (strings_makeASCIISet_0.s2 x0 x1 x2) = strings_makeASCIISet_0.t2 x0 x1 x2 (fun y0 y1 y2 => J (placeOf Tryz.f91 2) (strings_makeASCIISet_0.s2 y0 y1 y2)) (fun r0 r1 => κ [.tup [.ar 4 256 r0, .bool r1]]) := by kernel_rfl
theorem strings_makeASCIISet_0.c (R : Type) (κ : List SV → Option R) (k : Nat) (a0 : ByteArray) :
    runF (strings_makeASCIISet_0.C R) Tryz.f91 10000 k [.str a0] κ = strings_makeASCIISet_0.e a0 (fun y0 y1 y2 => goto (strings_makeASCIISet_0.C R) (retK (strings_makeASCIISet_0.C R) Tryz.f91.results.toList (List.range 0) κ) 10000 k (placeOf Tryz.f91 2) (strings_makeASCIISet_0.s2 y0 y1 y2)) (fun r0 r1 => κ [.tup [.ar 4 256 r0, .bool r1]]) := by kernel_rfl
theorem strings_makeASCIISet_0.g2 (R : Type) (κ : List SV → Option R) : ∀ (f : Nat) (x0 : ByteArray) (x1 : Int) (x2 : List AV), goto (strings_makeASCIISet_0.C R) (retK (strings_makeASCIISet_0.C R) Tryz.f91.results.toList (List.range 0) κ) 10000 f (placeOf Tryz.f91 2) (strings_makeASCIISet_0.s2 x0 x1 x2) = strings_makeASCIISet_0.L2 (fun r0 r1 => κ [.tup [.ar 4 256 r0, .bool r1]]) f x0 x1 x2
  | 0, _, _, _ => rfl
  | f + 1, x0, x1, x2 => by
    show start (strings_makeASCIISet_0.C R) (goto (strings_makeASCIISet_0.C R) (retK (strings_makeASCIISet_0.C R) Tryz.f91.results.toList (List.range 0) κ) 10000 f) (retK (strings_makeASCIISet_0.C R) Tryz.f91.results.toList (List.range 0) κ) 10000 (placeOf Tryz.f91 2) (strings_makeASCIISet_0.s2 x0 x1 x2) = _
    rw [strings_makeASCIISet_0.c2]
    simp only [strings_makeASCIISet_0.g2 R κ f]
    rfl
theorem strings_makeASCIISet_0.run (R : Type) (κ : List SV → Option R) (a0 : ByteArray) :
    runF (strings_makeASCIISet_0.C R) Tryz.f91 10000 fuelK [.str a0] κ = strings_makeASCIISet_0 a0 (fun r0 r1 => κ [.tup [.ar 4 256 r0, .bool r1]]) := by
  rw [strings_makeASCIISet_0.c]
  simp only [strings_makeASCIISet_0.g2 R κ fuelK]
  rfl
theorem strings_makeASCIISet_0.Γ_does {R : Type} (tab : Tab) (ht : TabOk tab) (g : Nat) : Does (R := R) Tryz.prog (tabTy tyL) tab g ((strings_makeASCIISet_0.C R).call g) := by
  refine does_of fun xs κ => ?_
  show DoesAt _ _ _ g xs κ (strings_makeASCIISet_0.Γ g xs κ)
  unfold strings_makeASCIISet_0.Γ
  split
  · exact DoesAt.none
theorem strings_makeASCIISet_0.does {R : Type} (tab : Tab) (ht : TabOk tab) (a0 : ByteArray) (κ : List SV → Option R) : DoesAt Tryz.prog (tabTy tyL) tab 91 [.str a0] κ (strings_makeASCIISet_0 a0 (fun r0 r1 => κ [.tup [.ar 4 256 r0, .bool r1]])) := by
  intro r h w vs Rt Ra bs hpre
  exact runF_sound tyOk (strings_makeASCIISet_0.Γ_does tab ht) (show Tryz.prog.funcs[91]? = some Tryz.f91 by kernel_rfl) (by kernel_rfl) ((strings_makeASCIISet_0.run R κ a0).trans h) hpre
def strings_asciiSet_contains_hi.Γ {R : Type} (g : Nat) (xs : List SV) (κ : List SV → Option R) : Option R :=
  match g with
  | _ => none
def strings_asciiSet_contains_hi.h (n : Nat) : Option (List (Nat × List (Nat × Nat))) :=
  match n with
  | _ => none
def strings_asciiSet_contains_hi.C (R : Type) : Cfg R := ⟨tabTy tyL, strings_asciiSet_contains_hi.Γ, fun _ => false, strings_asciiSet_contains_hi.h⟩
theorem strings_asciiSet_contains_hi.c (R : Type) (κ : List SV → Option R) (k : Nat) (a0 : List AV) (a1 : Int) :
    runF (strings_asciiSet_contains_hi.C R) Tryz.f132 10000 k [.ra 4 256 a0 true, .int .u8 a1] κ = strings_asciiSet_contains_hi.e a0 a1 (fun r0 => κ [.bool r0]) := by kernel_rfl
theorem strings_asciiSet_contains_hi.run (R : Type) (κ : List SV → Option R) (a0 : List AV) (a1 : Int) :
    runF (strings_asciiSet_contains_hi.C R) Tryz.f132 10000 fuelK [.ra 4 256 a0 true, .int .u8 a1] κ = strings_asciiSet_contains_hi a0 a1 (fun r0 => κ [.bool r0]) := by
  rw [strings_asciiSet_contains_hi.c]
  rfl
theorem strings_asciiSet_contains_hi.Γ_does {R : Type} (tab : Tab) (ht : TabOk tab) (g : Nat) : Does (R := R) Tryz.prog (tabTy tyL) tab g ((strings_asciiSet_contains_hi.C R).call g) := by
  refine does_of fun xs κ => ?_
  show DoesAt _ _ _ g xs κ (strings_asciiSet_contains_hi.Γ g xs κ)
  unfold strings_asciiSet_contains_hi.Γ
  split
  · exact DoesAt.none
theorem strings_asciiSet_contains_hi.does {R : Type} (tab : Tab) (ht : TabOk tab) (a0 : List AV) (a1 : Int) (κ : List SV → Option R) : DoesAt Tryz.prog (tabTy tyL) tab 132 [.ra 4 256 a0 true, .int .u8 a1] κ (strings_asciiSet_contains_hi a0 a1 (fun r0 => κ [.bool r0])) := by
  intro r h w vs Rt Ra bs hpre
  exact runF_sound tyOk (strings_asciiSet_contains_hi.Γ_does tab ht) (show Tryz.prog.funcs[132]? = some Tryz.f132 by kernel_rfl) (by kernel_rfl) ((strings_asciiSet_contains_hi.run R κ a0 a1).trans h) hpre
def strings_IndexAny_0.Γ {R : Type} (c1 : strings_IndexRune_0.F R) (c2 : strings_shouldUseASCIISet_0.F R) (c3 : strings_makeASCIISet_0.F R) (c4 : strings_asciiSet_contains_hi.F R) (g : Nat) (xs : List SV) (κ : List SV → Option R) : Option R :=
  match g with
  | 91 => (match xs with
    | [.str a0] => c3 a0 (fun r0 r1 => κ [.tup [.ar 4 256 r0, .bool r1]])
    | _ => none)
  | 132 => (match xs with
    | [.ra 4 256 a0 true, .int .u8 a1] => c4 a0 a1 (fun r0 => κ [.bool r0])
    | _ => none)
  | 155 => (match xs with
    | [.str a0, .int .i32 a1] => c1 a0 a1 (fun r0 => κ [.int .i64 r0])
    | _ => none)
  | 158 => (match xs with
    | [.int .i64 a0] => c2 a0 (fun r0 => κ [.bool r0])
    | _ => none)
  | _ => none
def strings_IndexAny_0.h (n : Nat) : Option (List (Nat × List (Nat × Nat))) :=
  match n with
  | 12 => some [(0, [(0, 0)]), (6, [(0, 1)]), (8, [(0, 0)])]
  | 18 => some [(1, [(0, 0)]), (45, [(0, 0)])]
  | _ => none
def strings_IndexAny_0.C (R : Type) (c1 : strings_IndexRune_0.F R) (c2 : strings_shouldUseASCIISet_0.F R) (c3 : strings_makeASCIISet_0.F R) (c4 : strings_asciiSet_contains_hi.F R) : Cfg R := ⟨tabTy tyL, strings_IndexAny_0.Γ c1 c2 c3 c4, fun g => Nat.beq g 132, strings_IndexAny_0.h⟩
def strings_IndexAny_0.s12 (x0 : ByteArray) (x1 : List AV) (x2 : Int) : St := ⟨mkS 55 [(0, .str x0), (6, .ra 4 256 x1 true), (8, .int .i64 x2)], [], top⟩
def strings_IndexAny_0.s18 (x0 : ByteArray) (x1 : ByteArray) (x2 : Nat) : St := ⟨mkS 55 [(1, .str x0), (45, .ptr 3007 0)], [(3007, .sit x1 x2)], top⟩
theorem strings_IndexAny_0.c12 (R : Type) (c1 : strings_IndexRune_0.F R) (c2 : strings_shouldUseASCIISet_0.F R) (c3 : strings_makeASCIISet_0.F R) (c4 : strings_asciiSet_contains_hi.F R) (J : List Item → St → Option R) (κ : List SV → Option R) (x0 : ByteArray) (x1 : List AV) (x2 : Int) :
    start (strings_IndexAny_0.C R c1 c2 c3 c4) J (retK (strings_IndexAny_0.C R c1 c2 c3 c4) Tryz.f150.results.toList (List.range 0) κ) 10000 (placeOf Tryz.f150 12) (strings_IndexAny_0.s12 x0 x1 x2) = strings_IndexAny_0.t12 c1 c2 c3 c4 x0 x1 x2 (fun y0 y1 y2 => J (placeOf Tryz.f150 12) (strings_IndexAny_0.s12 y0 y1 y2)) (fun y0 y1 y2 => J (placeOf Tryz.f150 18) (strings_IndexAny_0.s18 y0 y1 y2)) (fun r0 => κ [.int .i64 r0]) := by kernel_rfl
theorem strings_IndexAny_0.c18 (R : Type) (c1 : strings_IndexRune_0.F R) (c2 : strings_shouldUseASCIISet_0.F R) (c3 : strings_makeASCIISet_0.F R) (c4 : strings_asciiSet_contains_hi.F R) (J : List Item → St → Option R) (κ : List SV → Option R) (x0 : ByteArray) (x1 : ByteArray) (x2 : Nat) :
    start (strings_IndexAny_0.C R c1 c2 c3 c4) J (retK (strings_IndexAny_0.C R c1 c2 c3 c4) Tryz.f150.results.toList (List.range 0) κ) 10000 (placeOf Tryz.f150 18) (strings_IndexAny_0.s18 x0 x1 x2) = strings_IndexAny_0.t18 c1 c2 c3 c4 x0 x1 x2 (fun y0 y1 y2 => J (placeOf Tryz.f150 12) (strings_IndexAny_0.s12 y0 y1 y2)) (fun y0 y1 y2 => J (placeOf Tryz.f150 18) (strings_IndexAny_0.s18 y0 y1 y2)) (fun r0 => κ [.int .i64 r0]) := by kernel_rfl
theorem strings_IndexAny_0.c (R : Type) (c1 : strings_IndexRune_0.F R) (c2 : strings_shouldUseASCIISet_0.F R) (c3 : strings_makeASCIISet_0.F R) (c4 : strings_asciiSet_contains_hi.F R) (κ : List SV → Option R) (k : Nat) (a0 : ByteArray) (a1 : ByteArray) :
    runF (strings_IndexAny_0.C R c1 c2 c3 c4) Tryz.f150 10000 k [.str a0, .str a1] κ = strings_IndexAny_0.e c1 c2 c3 c4 a0 a1 (fun y0 y1 y2 => goto (strings_IndexAny_0.C R c1 c2 c3 c4) (retK (strings_IndexAny_0.C R c1 c2 c3 c4) Tryz.f150.results.toList (List.range 0) κ) 10000 k (placeOf Tryz.f150 12) (strings_IndexAny_0.s12 y0 y1 y2)) (fun y0 y1 y2 => goto (strings_IndexAny_0.C R c1 c2 c3 c4) (retK (strings_IndexAny_0.C R c1 c2 c3 c4) Tryz.f150.results.toList (List.range 0) κ) 10000 k (placeOf Tryz.f150 18) (strings_IndexAny_0.s18 y0 y1 y2)) (fun r0 => κ [.int .i64 r0]) := by kernel_rfl
theorem strings_IndexAny_0.g12 (R : Type) (c1 : strings_IndexRune_0.F R) (c2 : strings_shouldUseASCIISet_0.F R) (c3 : strings_makeASCIISet_0.F R) (c4 : strings_asciiSet_contains_hi.F R) (κ : List SV → Option R) : ∀ (f : Nat) (x0 : ByteArray) (x1 : List AV) (x2 : Int), goto (strings_IndexAny_0.C R c1 c2 c3 c4) (retK (strings_IndexAny_0.C R c1 c2 c3 c4) Tryz.f150.results.toList (List.range 0) κ) 10000 f (placeOf Tryz.f150 12) (strings_IndexAny_0.s12 x0 x1 x2) = strings_IndexAny_0.L12 c1 c2 c3 c4 (fun r0 => κ [.int .i64 r0]) f x0 x1 x2
  | 0, _, _, _ => rfl
  | f + 1, x0, x1, x2 => by
    show start (strings_IndexAny_0.C R c1 c2 c3 c4) (goto (strings_IndexAny_0.C R c1 c2 c3 c4) (retK (strings_IndexAny_0.C R c1 c2 c3 c4) Tryz.f150.results.toList (List.range 0) κ) 10000 f) (retK (strings_IndexAny_0.C R c1 c2 c3 c4) Tryz.f150.results.toList (List.range 0) κ) 10000 (placeOf Tryz.f150 12) (strings_IndexAny_0.s12 x0 x1 x2) = _
    rw [strings_IndexAny_0.c12]
    simp only [strings_IndexAny_0.g12 R c1 c2 c3 c4 κ f]
    rfl
theorem strings_IndexAny_0.g18 (R : Type) (c1 : strings_IndexRune_0.F R) (c2 : strings_shouldUseASCIISet_0.F R) (c3 : strings_makeASCIISet_0.F R) (c4 : strings_asciiSet_contains_hi.F R) (κ : List SV → Option R) : ∀ (f : Nat) (x0 : ByteArray) (x1 : ByteArray) (x2 : Nat), goto (strings_IndexAny_0.C R c1 c2 c3 c4) (retK (strings_IndexAny_0.C R c1 c2 c3 c4) Tryz.f150.results.toList (List.range 0) κ) 10000 f (placeOf Tryz.f150 18) (strings_IndexAny_0.s18 x0 x1 x2) = strings_IndexAny_0.L18 c1 c2 c3 c4 (fun r0 => κ [.int .i64 r0]) f x0 x1 x2
  | 0, _, _, _ => rfl
  | f + 1, x0, x1, x2 => by
    show start (strings_IndexAny_0.C R c1 c2 c3 c4) (goto (strings_IndexAny_0.C R c1 c2 c3 c4) (retK (strings_IndexAny_0.C R c1 c2 c3 c4) Tryz.f150.results.toList (List.range 0) κ) 10000 f) (retK (strings_IndexAny_0.C R c1 c2 c3 c4) Tryz.f150.results.toList (List.range 0) κ) 10000 (placeOf Tryz.f150 18) (strings_IndexAny_0.s18 x0 x1 x2) = _
    rw [strings_IndexAny_0.c18]
    simp only [strings_IndexAny_0.g18 R c1 c2 c3 c4 κ f]
    rfl
theorem strings_IndexAny_0.run (R : Type) (κ : List SV → Option R) (a0 : ByteArray) (a1 : ByteArray) :
    runF (strings_IndexAny_0.C R strings_IndexRune_0 strings_shouldUseASCIISet_0 strings_makeASCIISet_0 strings_asciiSet_contains_hi) Tryz.f150 10000 fuelK [.str a0, .str a1] κ = strings_IndexAny_0 a0 a1 (fun r0 => κ [.int .i64 r0]) := by
  rw [strings_IndexAny_0.c]
  simp only [strings_IndexAny_0.g12 R strings_IndexRune_0 strings_shouldUseASCIISet_0 strings_makeASCIISet_0 strings_asciiSet_contains_hi κ fuelK, strings_IndexAny_0.g18 R strings_IndexRune_0 strings_shouldUseASCIISet_0 strings_makeASCIISet_0 strings_asciiSet_contains_hi κ fuelK]
  rfl
theorem strings_IndexAny_0.Γ_does {R : Type} (tab : Tab) (ht : TabOk tab) (g : Nat) : Does (R := R) Tryz.prog (tabTy tyL) tab g ((strings_IndexAny_0.C R strings_IndexRune_0 strings_shouldUseASCIISet_0 strings_makeASCIISet_0 strings_asciiSet_contains_hi).call g) := by
  refine does_of fun xs κ => ?_
  show DoesAt _ _ _ g xs κ (strings_IndexAny_0.Γ strings_IndexRune_0 strings_shouldUseASCIISet_0 strings_makeASCIISet_0 strings_asciiSet_contains_hi g xs κ)
  unfold strings_IndexAny_0.Γ
  split
  · split
    · exact strings_makeASCIISet_0.does tab ht _ κ
    · exact DoesAt.none
  · split
    · exact strings_asciiSet_contains_hi.does tab ht _ _ κ
    · exact DoesAt.none
  · split
    · exact strings_IndexRune_0.does tab ht _ _ κ
    · exact DoesAt.none
  · split
    · exact strings_shouldUseASCIISet_0.does tab ht _ κ
    · exact DoesAt.none
  · exact DoesAt.none
theorem strings_IndexAny_0.does {R : Type} (tab : Tab) (ht : TabOk tab) (a0 : ByteArray) (a1 : ByteArray) (κ : List SV → Option R) : DoesAt Tryz.prog (tabTy tyL) tab 150 [.str a0, .str a1] κ (strings_IndexAny_0 a0 a1 (fun r0 => κ [.int .i64 r0])) := by
  intro r h w vs Rt Ra bs hpre
  exact runF_sound tyOk (strings_IndexAny_0.Γ_does tab ht) (show Tryz.prog.funcs[150]? = some Tryz.f150 by kernel_rfl) (by kernel_rfl) ((strings_IndexAny_0.run R κ a0 a1).trans h) hpre
def letter_blanks_0.Γ {R : Type} (g : Nat) (xs : List SV) (κ : List SV → Option R) : Option R :=
  match g with
  | _ => none
def letter_blanks_0.h (n : Nat) : Option (List (Nat × List (Nat × Nat))) :=
  match n with
  | 1 => some [(0, [(0, 0)]), (1, [(0, 0)])]
  | _ => none
def letter_blanks_0.C (R : Type) : Cfg R := ⟨tabTy tyL, letter_blanks_0.Γ, fun _ => false, letter_blanks_0.h⟩
def letter_blanks_0.s1 (x0 : ByteArray) (x1 : Int) : St := ⟨mkS 18 [(0, .str x0), (1, .int .i64 x1)], [], top⟩
theorem letter_blanks_0.c1 (R : Type) (J : List Item → St → Option R) (κ : List SV → Option R) (x0 : ByteArray) (x1 : Int) :
    start (letter_blanks_0.C R) J (retK (letter_blanks_0.C R) Tryz.f149.results.toList (List.range 0) κ) 10000 (placeOf Tryz.f149 1) (letter_blanks_0.s1 x0 x1) = letter_blanks_0.t1 x0 x1 (fun y0 y1 => J (placeOf Tryz.f149 1) (letter_blanks_0.s1 y0 y1)) (fun r0 => κ [.int .i64 r0]) := by kernel_rfl
theorem letter_blanks_0.c (R : Type) (κ : List SV → Option R) (k : Nat) (a0 : ByteArray) (a1 : Int) :
    runF (letter_blanks_0.C R) Tryz.f149 10000 k [.str a0, .int .i64 a1] κ = letter_blanks_0.e a0 a1 (fun y0 y1 => goto (letter_blanks_0.C R) (retK (letter_blanks_0.C R) Tryz.f149.results.toList (List.range 0) κ) 10000 k (placeOf Tryz.f149 1) (letter_blanks_0.s1 y0 y1)) (fun r0 => κ [.int .i64 r0]) := by kernel_rfl
theorem letter_blanks_0.g1 (R : Type) (κ : List SV → Option R) : ∀ (f : Nat) (x0 : ByteArray) (x1 : Int), goto (letter_blanks_0.C R) (retK (letter_blanks_0.C R) Tryz.f149.results.toList (List.range 0) κ) 10000 f (placeOf Tryz.f149 1) (letter_blanks_0.s1 x0 x1) = letter_blanks_0.L1 (fun r0 => κ [.int .i64 r0]) f x0 x1
  | 0, _, _ => rfl
  | f + 1, x0, x1 => by
    show start (letter_blanks_0.C R) (goto (letter_blanks_0.C R) (retK (letter_blanks_0.C R) Tryz.f149.results.toList (List.range 0) κ) 10000 f) (retK (letter_blanks_0.C R) Tryz.f149.results.toList (List.range 0) κ) 10000 (placeOf Tryz.f149 1) (letter_blanks_0.s1 x0 x1) = _
    rw [letter_blanks_0.c1]
    simp only [letter_blanks_0.g1 R κ f]
    rfl
theorem letter_blanks_0.run (R : Type) (κ : List SV → Option R) (a0 : ByteArray) (a1 : Int) :
    runF (letter_blanks_0.C R) Tryz.f149 10000 fuelK [.str a0, .int .i64 a1] κ = letter_blanks_0 a0 a1 (fun r0 => κ [.int .i64 r0]) := by
  rw [letter_blanks_0.c]
  simp only [letter_blanks_0.g1 R κ fuelK]
  rfl
theorem letter_blanks_0.Γ_does {R : Type} (tab : Tab) (ht : TabOk tab) (g : Nat) : Does (R := R) Tryz.prog (tabTy tyL) tab g ((letter_blanks_0.C R).call g) := by
  refine does_of fun xs κ => ?_
  show DoesAt _ _ _ g xs κ (letter_blanks_0.Γ g xs κ)
  unfold letter_blanks_0.Γ
  split
  · exact DoesAt.none
theorem letter_blanks_0.does {R : Type} (tab : Tab) (ht : TabOk tab) (a0 : ByteArray) (a1 : Int) (κ : List SV → Option R) : DoesAt Tryz.prog (tabTy tyL) tab 149 [.str a0, .int .i64 a1] κ (letter_blanks_0 a0 a1 (fun r0 => κ [.int .i64 r0])) := by
  intro r h w vs Rt Ra bs hpre
  exact runF_sound tyOk (letter_blanks_0.Γ_does tab ht) (show Tryz.prog.funcs[149]? = some Tryz.f149 by kernel_rfl) (by kernel_rfl) ((letter_blanks_0.run R κ a0 a1).trans h) hpre
def letter_blob_0.Γ {R : Type} (c1 : strings_IndexAny_0.F R) (c2 : letter_blanks_0.F R) (g : Nat) (xs : List SV) (κ : List SV → Option R) : Option R :=
  match g with
  | 149 => (match xs with
    | [.str a0, .int .i64 a1] => c2 a0 a1 (fun r0 => κ [.int .i64 r0])
    | _ => none)
  | 150 => (match xs with
    | [.str a0, .str a1] => c1 a0 a1 (fun r0 => κ [.int .i64 r0])
    | _ => none)
  | _ => none
def letter_blob_0.h (n : Nat) : Option (List (Nat × List (Nat × Nat))) :=
  match n with
  | _ => none
def letter_blob_0.C (R : Type) (c1 : strings_IndexAny_0.F R) (c2 : letter_blanks_0.F R) : Cfg R := ⟨tabTy tyL, letter_blob_0.Γ c1 c2, fun _ => false, letter_blob_0.h⟩
theorem letter_blob_0.c (R : Type) (c1 : strings_IndexAny_0.F R) (c2 : letter_blanks_0.F R) (κ : List SV → Option R) (k : Nat) (a0 : ByteArray) :
    runF (letter_blob_0.C R c1 c2) Tryz.f125 10000 k [.str a0] κ = letter_blob_0.e c1 c2 a0 (fun r0 => κ [.int .i64 r0]) := by kernel_rfl
theorem letter_blob_0.run (R : Type) (κ : List SV → Option R) (a0 : ByteArray) :
    runF (letter_blob_0.C R strings_IndexAny_0 letter_blanks_0) Tryz.f125 10000 fuelK [.str a0] κ = letter_blob_0 a0 (fun r0 => κ [.int .i64 r0]) := by
  rw [letter_blob_0.c]
  rfl
theorem letter_blob_0.Γ_does {R : Type} (tab : Tab) (ht : TabOk tab) (g : Nat) : Does (R := R) Tryz.prog (tabTy tyL) tab g ((letter_blob_0.C R strings_IndexAny_0 letter_blanks_0).call g) := by
  refine does_of fun xs κ => ?_
  show DoesAt _ _ _ g xs κ (letter_blob_0.Γ strings_IndexAny_0 letter_blanks_0 g xs κ)
  unfold letter_blob_0.Γ
  split
  · split
    · exact letter_blanks_0.does tab ht _ _ κ
    · exact DoesAt.none
  · split
    · exact strings_IndexAny_0.does tab ht _ _ κ
    · exact DoesAt.none
  · exact DoesAt.none
theorem letter_blob_0.does {R : Type} (tab : Tab) (ht : TabOk tab) (a0 : ByteArray) (κ : List SV → Option R) : DoesAt Tryz.prog (tabTy tyL) tab 125 [.str a0] κ (letter_blob_0 a0 (fun r0 => κ [.int .i64 r0])) := by
  intro r h w vs Rt Ra bs hpre
  exact runF_sound tyOk (letter_blob_0.Γ_does tab ht) (show Tryz.prog.funcs[125]? = some Tryz.f125 by kernel_rfl) (by kernel_rfl) ((letter_blob_0.run R κ a0).trans h) hpre
def letter_rules_5_0.Γ {R : Type} (c1 : letter_blob_0.F R) (g : Nat) (xs : List SV) (κ : List SV → Option R) : Option R :=
  match g with
  | 125 => (match xs with
    | [.str a0] => c1 a0 (fun r0 => κ [.int .i64 r0])
    | _ => none)
  | _ => none
def letter_rules_5_0.h (n : Nat) : Option (List (Nat × List (Nat × Nat))) :=
  match n with
  | _ => none
def letter_rules_5_0.C (R : Type) (c1 : letter_blob_0.F R) : Cfg R := ⟨tabTy tyL, letter_rules_5_0.Γ c1, fun _ => false, letter_rules_5_0.h⟩
theorem letter_rules_5_0.c (R : Type) (c1 : letter_blob_0.F R) (κ : List SV → Option R) (k : Nat) (a0 : ByteArray) :
    runF (letter_rules_5_0.C R c1) Tryz.f124 10000 k [.str a0] κ = letter_rules_5_0.e c1 a0 (fun r0 r1 => κ [.tup [.str r0, .bool r1]]) := by kernel_rfl
theorem letter_rules_5_0.run (R : Type) (κ : List SV → Option R) (a0 : ByteArray) :
    runF (letter_rules_5_0.C R letter_blob_0) Tryz.f124 10000 fuelK [.str a0] κ = letter_rules_5_0 a0 (fun r0 r1 => κ [.tup [.str r0, .bool r1]]) := by
  rw [letter_rules_5_0.c]
  rfl
theorem letter_rules_5_0.Γ_does {R : Type} (tab : Tab) (ht : TabOk tab) (g : Nat) : Does (R := R) Tryz.prog (tabTy tyL) tab g ((letter_rules_5_0.C R letter_blob_0).call g) := by
  refine does_of fun xs κ => ?_
  show DoesAt _ _ _ g xs κ (letter_rules_5_0.Γ letter_blob_0 g xs κ)
  unfold letter_rules_5_0.Γ
  split
  · split
    · exact letter_blob_0.does tab ht _ κ
    · exact DoesAt.none
  · exact DoesAt.none
theorem letter_rules_5_0.does {R : Type} (tab : Tab) (ht : TabOk tab) (a0 : ByteArray) (κ : List SV → Option R) : DoesAt Tryz.prog (tabTy tyL) tab 124 [.str a0] κ (letter_rules_5_0 a0 (fun r0 r1 => κ [.tup [.str r0, .bool r1]])) := by
  intro r h w vs Rt Ra bs hpre
  exact runF_sound tyOk (letter_rules_5_0.Γ_does tab ht) (show Tryz.prog.funcs[124]? = some Tryz.f124 by kernel_rfl) (by kernel_rfl) ((letter_rules_5_0.run R κ a0).trans h) hpre
end Go.Proofs.Ab
