/- Each plain function is what a call of its Go function does, checked by the kernel (no condition but what its checks ask). -/
import Derived.Test.YtnipklplcipaiaaGreatDoorSeat
import Derived.Test.YtnipklplcipaiaaGreatDoorText
import Derived.Test.YtnipklplcipaiaaGreatDoorCheck1
namespace Go.Proofs.Ab
set_option linter.unusedVariables false
set_option maxRecDepth 4000
open Go Go.Proofs
set_option maxRecDepth 100000
namespace strings_makeASCIISet_0
abbrev K0 {R : Type} (κ : List SV -> Option R) (r0 : List AV) (r1 : Bool) : Option R := κ [.tup [.ar 4 256 r0, .bool r1]]
section
variable (R : Type)
def Γ (g : Nat) (xs : List SV) (κ : List SV -> Option R) : Option R :=
 match g with
 | _ => none
def h (n : Nat) : Option (List (Nat × List (Nat × Nat))) :=
 match n with
 | 2 => some [(0, [(0, 0)]), (2, [(0, 0)]), (4, [(0, 0)])]
 | _ => none
def C : Cfg R := ⟨tabTy tyL, Γ R, fun _ => false, h⟩
noncomputable abbrev P (i : Nat) : List Item := placeOf Tryz.f91 i
noncomputable def S (κ : List SV -> Option R) (J : List Item -> St -> Option R) (i : Nat) (s : St) : Option R := start (C R) J (retK (C R) Tryz.f91.results.toList (List.range 0) κ) 10000 (P i) s
noncomputable def G (κ : List SV -> Option R) (f : Nat) (p : List Item) (s : St) : Option R := goto (C R) (retK (C R) Tryz.f91.results.toList (List.range 0) κ) 10000 f p s
def s2 (x0 : ByteArray) (x1 : Int) (x2 : List AV) : St := ⟨mkS 21 [(0, .str x0), (2, .ap 192 256), (4, .int .i64 x1)], [(192, .row 4 x2 true)], top⟩
noncomputable abbrev q2 {R : Type} (J : List Item -> St -> Option R) (x0 : ByteArray) (x1 : Int) (x2 : List AV) : Option R := J (P 2) (s2 x0 x1 x2)
theorem k2 (J : List Item -> St -> Option R) (κ : List SV -> Option R) (x0 : ByteArray) (x1 : Int) (x2 : List AV) : S R κ J 2 (s2 x0 x1 x2) = t2 x0 x1 x2 (q2 J) (K0 κ) := by kernel_rfl
theorem k (κ : List SV -> Option R) (k : Nat) (a0 : ByteArray) : runF (C R) Tryz.f91 10000 k [.str a0] κ = strings_makeASCIISet_0.e a0 (q2 (G R κ k)) (K0 κ) := by kernel_rfl
theorem g2 (κ : List SV -> Option R) : ∀ (f : Nat), q2 (G R κ f) = L2 (K0 κ) f
 | 0 => rfl
 | f + 1 => by
  funext x0 x1 x2
  show S R κ (G R κ f) 2 _ = _
  rw [k2, g2 κ f]
  rfl
end
theorem run (R : Type) (κ : List SV -> Option R) (a0 : ByteArray) : runF (C R) Tryz.f91 10000 fuelK [.str a0] κ = strings_makeASCIISet_0 a0 (K0 κ) := by
 rw [k]
 rw [g2 R κ fuelK]
 rfl
theorem Γ_does {R : Type} (tab : Tab) (ht : TabOk tab) (g : Nat) : Does (R := R) Tryz.prog (tabTy tyL) tab g ((C R).call g) := by
 refine does_of fun xs κ => ?_
 show DoesAt _ _ _ g xs κ (Γ R g xs κ)
 unfold Γ
 split
 ·exact DoesAt.none
theorem does {R : Type} (tab : Tab) (ht : TabOk tab) (a0 : ByteArray) (κ : List SV -> Option R) : DoesAt Tryz.prog (tabTy tyL) tab 91 [.str a0] κ (strings_makeASCIISet_0 a0 (K0 κ)) := by
 intro r h w vs Rt Ra bs hpre
 exact runF_sound tyOk (Γ_does tab ht) (show Tryz.prog.funcs[91]? = some Tryz.f91 by kernel_rfl) (by kernel_rfl) ((run R κ a0).trans h) hpre
end strings_makeASCIISet_0
namespace strings_asciiSet_contains_hi
abbrev K0 {R : Type} (κ : List SV -> Option R) (r0 : Bool) : Option R := κ [.bool r0]
section
variable (R : Type)
def Γ (g : Nat) (xs : List SV) (κ : List SV -> Option R) : Option R :=
 match g with
 | _ => none
def h (n : Nat) : Option (List (Nat × List (Nat × Nat))) :=
 match n with
 | _ => none
def C : Cfg R := ⟨tabTy tyL, Γ R, fun _ => false, h⟩
theorem k (κ : List SV -> Option R) (k : Nat) (a0 : List AV) (a1 : Int) : runF (C R) Tryz.f132 10000 k [.ra 4 256 a0 true, .int .u8 a1] κ = strings_asciiSet_contains_hi.e a0 a1 (K0 κ) := by kernel_rfl
end
theorem run (R : Type) (κ : List SV -> Option R) (a0 : List AV) (a1 : Int) : runF (C R) Tryz.f132 10000 fuelK [.ra 4 256 a0 true, .int .u8 a1] κ = strings_asciiSet_contains_hi a0 a1 (K0 κ) := by
 rw [k]
 rfl
theorem Γ_does {R : Type} (tab : Tab) (ht : TabOk tab) (g : Nat) : Does (R := R) Tryz.prog (tabTy tyL) tab g ((C R).call g) := by
 refine does_of fun xs κ => ?_
 show DoesAt _ _ _ g xs κ (Γ R g xs κ)
 unfold Γ
 split
 ·exact DoesAt.none
theorem does {R : Type} (tab : Tab) (ht : TabOk tab) (a0 : List AV) (a1 : Int) (κ : List SV -> Option R) : DoesAt Tryz.prog (tabTy tyL) tab 132 [.ra 4 256 a0 true, .int .u8 a1] κ (strings_asciiSet_contains_hi a0 a1 (K0 κ)) := by
 intro r h w vs Rt Ra bs hpre
 exact runF_sound tyOk (Γ_does tab ht) (show Tryz.prog.funcs[132]? = some Tryz.f132 by kernel_rfl) (by kernel_rfl) ((run R κ a0 a1).trans h) hpre
end strings_asciiSet_contains_hi
namespace strings_trimRightASCII_sh
abbrev K0 {R : Type} (κ : List SV -> Option R) (r0 : ByteArray) : Option R := κ [.str r0]
section
variable (R : Type) (c1 : strings_asciiSet_contains_hi.F R)
def Γ (g : Nat) (xs : List SV) (κ : List SV -> Option R) : Option R :=
 match g with
 | 132 => (match xs with
  | [.ra 4 256 a0 true, .int .u8 a1] => c1 a0 a1 (strings_asciiSet_contains_hi.K0 κ)
  | _ => none)
 | _ => none
def h (n : Nat) : Option (List (Nat × List (Nat × Nat))) :=
 match n with
 | 1 => some [(0, [(0, 0)]), (1, [(0, 0)])]
 | _ => none
def C : Cfg R := ⟨tabTy tyL, Γ R c1, fun g => Nat.beq g 132, h⟩
noncomputable abbrev P (i : Nat) : List Item := placeOf Tryz.f93 i
noncomputable def S (κ : List SV -> Option R) (J : List Item -> St -> Option R) (i : Nat) (s : St) : Option R := start (C R c1) J (retK (C R c1) Tryz.f93.results.toList (List.range 0) κ) 10000 (P i) s
noncomputable def G (κ : List SV -> Option R) (f : Nat) (p : List Item) (s : St) : Option R := goto (C R c1) (retK (C R c1) Tryz.f93.results.toList (List.range 0) κ) 10000 f p s
def s1 (x0 : ByteArray) (x1 : List AV) : St := ⟨mkS 22 [(0, .str x0), (1, .ra 4 256 x1 true)], [], top⟩
noncomputable abbrev q1 {R : Type} (J : List Item -> St -> Option R) (x0 : ByteArray) (x1 : List AV) : Option R := J (P 1) (s1 x0 x1)
theorem k1 (J : List Item -> St -> Option R) (κ : List SV -> Option R) (x0 : ByteArray) (x1 : List AV) : S R c1 κ J 1 (s1 x0 x1) = t1 c1 x0 x1 (q1 J) (K0 κ) := by kernel_rfl
theorem k (κ : List SV -> Option R) (k : Nat) (a0 : ByteArray) (a1 : List AV) : runF (C R c1) Tryz.f93 10000 k [.str a0, .ra 4 256 a1 true] κ = strings_trimRightASCII_sh.e c1 a0 a1 (q1 (G R c1 κ k)) (K0 κ) := by kernel_rfl
theorem g1 (κ : List SV -> Option R) : ∀ (f : Nat), q1 (G R c1 κ f) = L1 c1 (K0 κ) f
 | 0 => rfl
 | f + 1 => by
  funext x0 x1
  show S R c1 κ (G R c1 κ f) 1 _ = _
  rw [k1, g1 κ f]
  rfl
end
theorem run (R : Type) (κ : List SV -> Option R) (a0 : ByteArray) (a1 : List AV) : runF (C R strings_asciiSet_contains_hi) Tryz.f93 10000 fuelK [.str a0, .ra 4 256 a1 true] κ = strings_trimRightASCII_sh a0 a1 (K0 κ) := by
 rw [k]
 rw [g1 R strings_asciiSet_contains_hi κ fuelK]
 rfl
theorem Γ_does {R : Type} (tab : Tab) (ht : TabOk tab) (g : Nat) : Does (R := R) Tryz.prog (tabTy tyL) tab g ((C R strings_asciiSet_contains_hi).call g) := by
 refine does_of fun xs κ => ?_
 show DoesAt _ _ _ g xs κ (Γ R strings_asciiSet_contains_hi g xs κ)
 unfold Γ
 split
 ·split
  ·exact strings_asciiSet_contains_hi.does tab ht _ _ κ
  ·exact DoesAt.none
 ·exact DoesAt.none
theorem does {R : Type} (tab : Tab) (ht : TabOk tab) (a0 : ByteArray) (a1 : List AV) (κ : List SV -> Option R) : DoesAt Tryz.prog (tabTy tyL) tab 93 [.str a0, .ra 4 256 a1 true] κ (strings_trimRightASCII_sh a0 a1 (K0 κ)) := by
 intro r h w vs Rt Ra bs hpre
 exact runF_sound tyOk (Γ_does tab ht) (show Tryz.prog.funcs[93]? = some Tryz.f93 by kernel_rfl) (by kernel_rfl) ((run R κ a0 a1).trans h) hpre
end strings_trimRightASCII_sh
namespace strings_trimLeftASCII_sh
abbrev K0 {R : Type} (κ : List SV -> Option R) (r0 : ByteArray) : Option R := κ [.str r0]
section
variable (R : Type) (c1 : strings_asciiSet_contains_hi.F R)
def Γ (g : Nat) (xs : List SV) (κ : List SV -> Option R) : Option R :=
 match g with
 | 132 => (match xs with
  | [.ra 4 256 a0 true, .int .u8 a1] => c1 a0 a1 (strings_asciiSet_contains_hi.K0 κ)
  | _ => none)
 | _ => none
def h (n : Nat) : Option (List (Nat × List (Nat × Nat))) :=
 match n with
 | 1 => some [(0, [(0, 0)]), (1, [(0, 0)])]
 | _ => none
def C : Cfg R := ⟨tabTy tyL, Γ R c1, fun g => Nat.beq g 132, h⟩
noncomputable abbrev P (i : Nat) : List Item := placeOf Tryz.f92 i
noncomputable def S (κ : List SV -> Option R) (J : List Item -> St -> Option R) (i : Nat) (s : St) : Option R := start (C R c1) J (retK (C R c1) Tryz.f92.results.toList (List.range 0) κ) 10000 (P i) s
noncomputable def G (κ : List SV -> Option R) (f : Nat) (p : List Item) (s : St) : Option R := goto (C R c1) (retK (C R c1) Tryz.f92.results.toList (List.range 0) κ) 10000 f p s
def s1 (x0 : ByteArray) (x1 : List AV) : St := ⟨mkS 16 [(0, .str x0), (1, .ra 4 256 x1 true)], [], top⟩
noncomputable abbrev q1 {R : Type} (J : List Item -> St -> Option R) (x0 : ByteArray) (x1 : List AV) : Option R := J (P 1) (s1 x0 x1)
theorem k1 (J : List Item -> St -> Option R) (κ : List SV -> Option R) (x0 : ByteArray) (x1 : List AV) : S R c1 κ J 1 (s1 x0 x1) = t1 c1 x0 x1 (q1 J) (K0 κ) := by kernel_rfl
theorem k (κ : List SV -> Option R) (k : Nat) (a0 : ByteArray) (a1 : List AV) : runF (C R c1) Tryz.f92 10000 k [.str a0, .ra 4 256 a1 true] κ = strings_trimLeftASCII_sh.e c1 a0 a1 (q1 (G R c1 κ k)) (K0 κ) := by kernel_rfl
theorem g1 (κ : List SV -> Option R) : ∀ (f : Nat), q1 (G R c1 κ f) = L1 c1 (K0 κ) f
 | 0 => rfl
 | f + 1 => by
  funext x0 x1
  show S R c1 κ (G R c1 κ f) 1 _ = _
  rw [k1, g1 κ f]
  rfl
end
theorem run (R : Type) (κ : List SV -> Option R) (a0 : ByteArray) (a1 : List AV) : runF (C R strings_asciiSet_contains_hi) Tryz.f92 10000 fuelK [.str a0, .ra 4 256 a1 true] κ = strings_trimLeftASCII_sh a0 a1 (K0 κ) := by
 rw [k]
 rw [g1 R strings_asciiSet_contains_hi κ fuelK]
 rfl
theorem Γ_does {R : Type} (tab : Tab) (ht : TabOk tab) (g : Nat) : Does (R := R) Tryz.prog (tabTy tyL) tab g ((C R strings_asciiSet_contains_hi).call g) := by
 refine does_of fun xs κ => ?_
 show DoesAt _ _ _ g xs κ (Γ R strings_asciiSet_contains_hi g xs κ)
 unfold Γ
 split
 ·split
  ·exact strings_asciiSet_contains_hi.does tab ht _ _ κ
  ·exact DoesAt.none
 ·exact DoesAt.none
theorem does {R : Type} (tab : Tab) (ht : TabOk tab) (a0 : ByteArray) (a1 : List AV) (κ : List SV -> Option R) : DoesAt Tryz.prog (tabTy tyL) tab 92 [.str a0, .ra 4 256 a1 true] κ (strings_trimLeftASCII_sh a0 a1 (K0 κ)) := by
 intro r h w vs Rt Ra bs hpre
 exact runF_sound tyOk (Γ_does tab ht) (show Tryz.prog.funcs[92]? = some Tryz.f92 by kernel_rfl) (by kernel_rfl) ((run R κ a0 a1).trans h) hpre
end strings_trimLeftASCII_sh
namespace utf8_RuneStart_0
abbrev K0 {R : Type} (κ : List SV -> Option R) (r0 : Bool) : Option R := κ [.bool r0]
section
variable (R : Type)
def Γ (g : Nat) (xs : List SV) (κ : List SV -> Option R) : Option R :=
 match g with
 | _ => none
def h (n : Nat) : Option (List (Nat × List (Nat × Nat))) :=
 match n with
 | _ => none
def C : Cfg R := ⟨tabTy tyL, Γ R, fun _ => false, h⟩
theorem k (κ : List SV -> Option R) (k : Nat) (a0 : Int) : runF (C R) Tryz.f156 10000 k [.int .u8 a0] κ = utf8_RuneStart_0.e a0 (K0 κ) := by kernel_rfl
end
theorem run (R : Type) (κ : List SV -> Option R) (a0 : Int) : runF (C R) Tryz.f156 10000 fuelK [.int .u8 a0] κ = utf8_RuneStart_0 a0 (K0 κ) := by
 rw [k]
 rfl
theorem Γ_does {R : Type} (tab : Tab) (ht : TabOk tab) (g : Nat) : Does (R := R) Tryz.prog (tabTy tyL) tab g ((C R).call g) := by
 refine does_of fun xs κ => ?_
 show DoesAt _ _ _ g xs κ (Γ R g xs κ)
 unfold Γ
 split
 ·exact DoesAt.none
theorem does {R : Type} (tab : Tab) (ht : TabOk tab) (a0 : Int) (κ : List SV -> Option R) : DoesAt Tryz.prog (tabTy tyL) tab 156 [.int .u8 a0] κ (utf8_RuneStart_0 a0 (K0 κ)) := by
 intro r h w vs Rt Ra bs hpre
 exact runF_sound tyOk (Γ_does tab ht) (show Tryz.prog.funcs[156]? = some Tryz.f156 by kernel_rfl) (by kernel_rfl) ((run R κ a0).trans h) hpre
end utf8_RuneStart_0
namespace strings_Trim_0
abbrev K0 {R : Type} (κ : List SV -> Option R) (r0 : ByteArray) : Option R := κ [.str r0]
section
variable (R : Type) (c1 : strings_trimRightByte_0.F R) (c2 : strings_trimLeftByte_0.F R) (c3 : strings_makeASCIISet_0.F R) (c4 : strings_trimRightASCII_sh.F R) (c5 : strings_trimLeftASCII_sh.F R)
def Γ (g : Nat) (xs : List SV) (κ : List SV -> Option R) : Option R :=
 match g with
 | 89 => (match xs with
  | [.str a0, .int .u8 a1] => c2 a0 a1 (strings_trimLeftByte_0.K0 κ)
  | _ => none)
 | 90 => (match xs with
  | [.str a0, .int .u8 a1] => c1 a0 a1 (strings_trimRightByte_0.K0 κ)
  | _ => none)
 | 91 => (match xs with
  | [.str a0] => c3 a0 (strings_makeASCIISet_0.K0 κ)
  | _ => none)
 | 92 => (match xs with
  | [.str a0, .ra 4 256 a1 true] => c5 a0 a1 (strings_trimLeftASCII_sh.K0 κ)
  | _ => none)
 | 93 => (match xs with
  | [.str a0, .ra 4 256 a1 true] => c4 a0 a1 (strings_trimRightASCII_sh.K0 κ)
  | _ => none)
 | _ => none
def h (n : Nat) : Option (List (Nat × List (Nat × Nat))) :=
 match n with
 | _ => none
def C : Cfg R := ⟨tabTy tyL, Γ R c1 c2 c3 c4 c5, fun g => Nat.beq g 92 || Nat.beq g 93, h⟩
theorem k (κ : List SV -> Option R) (k : Nat) (a0 : ByteArray) (a1 : ByteArray) : runF (C R c1 c2 c3 c4 c5) Tryz.f41 10000 k [.str a0, .str a1] κ = strings_Trim_0.e c1 c2 c3 c4 c5 a0 a1 (K0 κ) := by kernel_rfl
end
theorem run (R : Type) (κ : List SV -> Option R) (a0 : ByteArray) (a1 : ByteArray) : runF (C R strings_trimRightByte_0 strings_trimLeftByte_0 strings_makeASCIISet_0 strings_trimRightASCII_sh strings_trimLeftASCII_sh) Tryz.f41 10000 fuelK [.str a0, .str a1] κ = strings_Trim_0 a0 a1 (K0 κ) := by
 rw [k]
 rfl
theorem Γ_does {R : Type} (tab : Tab) (ht : TabOk tab) (g : Nat) : Does (R := R) Tryz.prog (tabTy tyL) tab g ((C R strings_trimRightByte_0 strings_trimLeftByte_0 strings_makeASCIISet_0 strings_trimRightASCII_sh strings_trimLeftASCII_sh).call g) := by
 refine does_of fun xs κ => ?_
 show DoesAt _ _ _ g xs κ (Γ R strings_trimRightByte_0 strings_trimLeftByte_0 strings_makeASCIISet_0 strings_trimRightASCII_sh strings_trimLeftASCII_sh g xs κ)
 unfold Γ
 split
 ·split
  ·exact strings_trimLeftByte_0.does tab ht _ _ κ
  ·exact DoesAt.none
 ·split
  ·exact strings_trimRightByte_0.does tab ht _ _ κ
  ·exact DoesAt.none
 ·split
  ·exact strings_makeASCIISet_0.does tab ht _ κ
  ·exact DoesAt.none
 ·split
  ·exact strings_trimLeftASCII_sh.does tab ht _ _ κ
  ·exact DoesAt.none
 ·split
  ·exact strings_trimRightASCII_sh.does tab ht _ _ κ
  ·exact DoesAt.none
 ·exact DoesAt.none
theorem does {R : Type} (tab : Tab) (ht : TabOk tab) (a0 : ByteArray) (a1 : ByteArray) (κ : List SV -> Option R) : DoesAt Tryz.prog (tabTy tyL) tab 41 [.str a0, .str a1] κ (strings_Trim_0 a0 a1 (K0 κ)) := by
 intro r h w vs Rt Ra bs hpre
 exact runF_sound tyOk (Γ_does tab ht) (show Tryz.prog.funcs[41]? = some Tryz.f41 by kernel_rfl) (by kernel_rfl) ((run R κ a0 a1).trans h) hpre
end strings_Trim_0
namespace letter_Fields_0
abbrev K0 {R : Type} (κ : List SV -> Option R) (r0 : List AV) : Option R := κ [.fr 42 r0 true]
section
variable (R : Type) (c1 : letter_rows_0.F R) (c2 : strings_Trim_0.F R) (c3 : strings_TrimSuffix_0.F R) (c4 : strings_IndexByte_0.F R)
def Γ (g : Nat) (xs : List SV) (κ : List SV -> Option R) : Option R :=
 match g with
 | 38 => (match xs with
  | [.str a0] => c1 a0 (letter_rows_0.K0 κ)
  | _ => none)
 | 39 => (match xs with
  | [.str a0, .str a1] => c3 a0 a1 (strings_TrimSuffix_0.K0 κ)
  | _ => none)
 | 40 => (match xs with
  | [.str a0, .int .u8 a1] => c4 a0 a1 (strings_IndexByte_0.K0 κ)
  | _ => none)
 | 41 => (match xs with
  | [.str a0, .str a1] => c2 a0 a1 (strings_Trim_0.K0 κ)
  | _ => none)
 | _ => none
def h (n : Nat) : Option (List (Nat × List (Nat × Nat))) :=
 match n with
 | 4 => some [(3, [(0, 44)]), (4, [(0, 11)]), (10, [(0, 0)]), (11, [(0, 0)]), (12, [(0, 0)])]
 | 8 => some [(3, [(0, 0)]), (4, [(0, 0)]), (6, [(0, 0)]), (10, [(0, 0)]), (11, [(0, 0)]), (12, [(0, 0)])]
 | 13 => some [(3, [(0, 44)]), (4, [(0, 11)]), (6, [(0, 0)]), (7, [(0, 0)]), (10, [(0, 0)]), (11, [(0, 0)]), (12, [(0, 0)])]
 | 15 => some [(3, [(0, 44)]), (4, [(0, 11)]), (10, [(0, 0)]), (11, [(0, 0)]), (12, [(0, 0)])]
 | 17 => some [(3, [(0, 0)]), (4, [(0, 0)]), (72, [(0, 0)]), (73, [(0, 0)])]
 | _ => none
def C : Cfg R := ⟨tabTy tyL, Γ R c1 c2 c3 c4, fun _ => false, h⟩
noncomputable abbrev P (i : Nat) : List Item := placeOf Tryz.f11 i
noncomputable def S (κ : List SV -> Option R) (J : List Item -> St -> Option R) (i : Nat) (s : St) : Option R := start (C R c1 c2 c3 c4) J (retK (C R c1 c2 c3 c4) Tryz.f11.results.toList (List.range 0) κ) 10000 (P i) s
noncomputable def G (κ : List SV -> Option R) (f : Nat) (p : List Item) (s : St) : Option R := goto (C R c1 c2 c3 c4) (retK (C R c1 c2 c3 c4) Tryz.f11.results.toList (List.range 0) κ) 10000 f p s
def s4 (x0 : Int) (x1 : Int) (x2 : List AV) (x3 : List AV) (x4 : List AV) : St := ⟨mkS 87 [(3, .own 256), (4, .own 320), (10, .own 704), (11, .int .i64 x0), (12, .int .i64 x1)], [(256, .row 42 x2 true), (320, .row 9 x3 true), (704, .row 65 x4 true)], top⟩
def s8 (x0 : Int) (x1 : Int) (x2 : List AV) (x3 : List AV) (x4 : ByteArray) (x5 : ByteArray) (x6 : Bool) (x7 : Bool) (x8 : List AV) : St := ⟨mkS 87 [(3, .own 256), (4, .own 320), (6, .ptr 511 0), (10, .own 704), (11, .int .i64 x0), (12, .int .i64 x1)], [(256, .row 42 x2 true), (320, .row 9 x3 true), (511, .var 65 [.str x4, .str x5, .bool x6, .bool x7]), (704, .row 65 x8 true)], top⟩
def s13 (x0 : ByteArray) (x1 : Int) (x2 : Int) (x3 : List AV) (x4 : List AV) (x5 : ByteArray) (x6 : ByteArray) (x7 : Bool) (x8 : Bool) (x9 : List AV) : St := ⟨mkS 87 [(3, .own 256), (4, .own 320), (6, .ptr 511 0), (7, .str x0), (10, .own 704), (11, .int .i64 x1), (12, .int .i64 x2)], [(256, .row 42 x3 true), (320, .row 9 x4 true), (511, .var 65 [.str x5, .str x6, .bool x7, .bool x8]), (704, .row 65 x9 true)], top⟩
def s15 (x0 : Int) (x1 : Int) (x2 : List AV) (x3 : List AV) (x4 : List AV) : St := ⟨mkS 87 [(3, .own 256), (4, .own 320), (10, .own 704), (11, .int .i64 x0), (12, .int .i64 x1)], [(256, .row 42 x2 true), (320, .row 9 x3 true), (704, .row 65 x4 true)], top⟩
def s17 (x0 : Int) (x1 : Int) (x2 : List AV) (x3 : List AV) : St := ⟨mkS 87 [(3, .own 256), (4, .own 320), (72, .int .i64 x0), (73, .int .i64 x1)], [(256, .row 42 x2 true), (320, .row 9 x3 true)], top⟩
noncomputable abbrev q4 {R : Type} (J : List Item -> St -> Option R) (x0 : Int) (x1 : Int) (x2 : List AV) (x3 : List AV) (x4 : List AV) : Option R := J (P 4) (s4 x0 x1 x2 x3 x4)
noncomputable abbrev q8 {R : Type} (J : List Item -> St -> Option R) (x0 : Int) (x1 : Int) (x2 : List AV) (x3 : List AV) (x4 : ByteArray) (x5 : ByteArray) (x6 : Bool) (x7 : Bool) (x8 : List AV) : Option R := J (P 8) (s8 x0 x1 x2 x3 x4 x5 x6 x7 x8)
noncomputable abbrev q13 {R : Type} (J : List Item -> St -> Option R) (x0 : ByteArray) (x1 : Int) (x2 : Int) (x3 : List AV) (x4 : List AV) (x5 : ByteArray) (x6 : ByteArray) (x7 : Bool) (x8 : Bool) (x9 : List AV) : Option R := J (P 13) (s13 x0 x1 x2 x3 x4 x5 x6 x7 x8 x9)
noncomputable abbrev q15 {R : Type} (J : List Item -> St -> Option R) (x0 : Int) (x1 : Int) (x2 : List AV) (x3 : List AV) (x4 : List AV) : Option R := J (P 15) (s15 x0 x1 x2 x3 x4)
noncomputable abbrev q17 {R : Type} (J : List Item -> St -> Option R) (x0 : Int) (x1 : Int) (x2 : List AV) (x3 : List AV) : Option R := J (P 17) (s17 x0 x1 x2 x3)
theorem k4 (J : List Item -> St -> Option R) (κ : List SV -> Option R) (x0 : Int) (x1 : Int) (x2 : List AV) (x3 : List AV) (x4 : List AV) : S R c1 c2 c3 c4 κ J 4 (s4 x0 x1 x2 x3 x4) = t4 c1 c2 c3 c4 x0 x1 x2 x3 x4 (q4 J) (q8 J) (q13 J) (q15 J) (q17 J) (K0 κ) := by kernel_rfl
theorem k8 (J : List Item -> St -> Option R) (κ : List SV -> Option R) (x0 : Int) (x1 : Int) (x2 : List AV) (x3 : List AV) (x4 : ByteArray) (x5 : ByteArray) (x6 : Bool) (x7 : Bool) (x8 : List AV) : S R c1 c2 c3 c4 κ J 8 (s8 x0 x1 x2 x3 x4 x5 x6 x7 x8) = t8 c1 c2 c3 c4 x0 x1 x2 x3 x4 x5 x6 x7 x8 (q4 J) (q8 J) (q13 J) (q15 J) (q17 J) (K0 κ) := by kernel_rfl
theorem k13 (J : List Item -> St -> Option R) (κ : List SV -> Option R) (x0 : ByteArray) (x1 : Int) (x2 : Int) (x3 : List AV) (x4 : List AV) (x5 : ByteArray) (x6 : ByteArray) (x7 : Bool) (x8 : Bool) (x9 : List AV) : S R c1 c2 c3 c4 κ J 13 (s13 x0 x1 x2 x3 x4 x5 x6 x7 x8 x9) = t13 c1 c2 c3 c4 x0 x1 x2 x3 x4 x5 x6 x7 x8 x9 (q4 J) (q8 J) (q13 J) (q15 J) (q17 J) (K0 κ) := by kernel_rfl
theorem k15 (J : List Item -> St -> Option R) (κ : List SV -> Option R) (x0 : Int) (x1 : Int) (x2 : List AV) (x3 : List AV) (x4 : List AV) : S R c1 c2 c3 c4 κ J 15 (s15 x0 x1 x2 x3 x4) = t15 c1 c2 c3 c4 x0 x1 x2 x3 x4 (q4 J) (q8 J) (q13 J) (q15 J) (q17 J) (K0 κ) := by kernel_rfl
theorem k17 (J : List Item -> St -> Option R) (κ : List SV -> Option R) (x0 : Int) (x1 : Int) (x2 : List AV) (x3 : List AV) : S R c1 c2 c3 c4 κ J 17 (s17 x0 x1 x2 x3) = t17 c1 c2 c3 c4 x0 x1 x2 x3 (q4 J) (q8 J) (q13 J) (q15 J) (q17 J) (K0 κ) := by kernel_rfl
theorem k (κ : List SV -> Option R) (k : Nat) (a0 : ByteArray) : runF (C R c1 c2 c3 c4) Tryz.f11 10000 k [.str a0] κ = letter_Fields_0.e c1 c2 c3 c4 a0 (q4 (G R c1 c2 c3 c4 κ k)) (q8 (G R c1 c2 c3 c4 κ k)) (q13 (G R c1 c2 c3 c4 κ k)) (q15 (G R c1 c2 c3 c4 κ k)) (q17 (G R c1 c2 c3 c4 κ k)) (K0 κ) := by kernel_rfl
theorem g17 (κ : List SV -> Option R) : ∀ (f : Nat), q17 (G R c1 c2 c3 c4 κ f) = L17 c1 c2 c3 c4 (K0 κ) f
 | 0 => rfl
 | f + 1 => by
  funext x0 x1 x2 x3
  show S R c1 c2 c3 c4 κ (G R c1 c2 c3 c4 κ f) 17 _ = _
  rw [k17, g17 κ f]
  rfl
theorem gM4 (κ : List SV -> Option R) : ∀ (f : Nat), (q4 (G R c1 c2 c3 c4 κ f) = L4 c1 c2 c3 c4 (K0 κ) f) /\ (q8 (G R c1 c2 c3 c4 κ f) = L8 c1 c2 c3 c4 (K0 κ) f) /\ (q13 (G R c1 c2 c3 c4 κ f) = L13 c1 c2 c3 c4 (K0 κ) f) /\ (q15 (G R c1 c2 c3 c4 κ f) = L15 c1 c2 c3 c4 (K0 κ) f)
 | 0 => ⟨rfl, rfl, rfl, rfl⟩
 | f + 1 => by
  obtain ⟨ih0, ih1, ih2, ih3⟩ := gM4 κ f
  refine ⟨?_, ?_, ?_, ?_⟩
  ·funext x0 x1 x2 x3 x4
   show S R c1 c2 c3 c4 κ (G R c1 c2 c3 c4 κ f) 4 _ = _
   rw [k4, ih1, ih3, g17 R c1 c2 c3 c4 κ f]
   rfl
  ·funext x0 x1 x2 x3 x4 x5 x6 x7 x8
   show S R c1 c2 c3 c4 κ (G R c1 c2 c3 c4 κ f) 8 _ = _
   rw [k8, ih2]
   rfl
  ·funext x0 x1 x2 x3 x4 x5 x6 x7 x8 x9
   show S R c1 c2 c3 c4 κ (G R c1 c2 c3 c4 κ f) 13 _ = _
   rw [k13, ih3]
   rfl
  ·funext x0 x1 x2 x3 x4
   show S R c1 c2 c3 c4 κ (G R c1 c2 c3 c4 κ f) 15 _ = _
   rw [k15, ih0]
   rfl
theorem g4 (κ : List SV -> Option R) (f : Nat) : q4 (G R c1 c2 c3 c4 κ f) = L4 c1 c2 c3 c4 (K0 κ) f := (gM4 R c1 c2 c3 c4 κ f).1
theorem g8 (κ : List SV -> Option R) (f : Nat) : q8 (G R c1 c2 c3 c4 κ f) = L8 c1 c2 c3 c4 (K0 κ) f := (gM4 R c1 c2 c3 c4 κ f).2.1
theorem g13 (κ : List SV -> Option R) (f : Nat) : q13 (G R c1 c2 c3 c4 κ f) = L13 c1 c2 c3 c4 (K0 κ) f := (gM4 R c1 c2 c3 c4 κ f).2.2.1
theorem g15 (κ : List SV -> Option R) (f : Nat) : q15 (G R c1 c2 c3 c4 κ f) = L15 c1 c2 c3 c4 (K0 κ) f := (gM4 R c1 c2 c3 c4 κ f).2.2.2
end
theorem run (R : Type) (κ : List SV -> Option R) (a0 : ByteArray) : runF (C R letter_rows_0 strings_Trim_0 strings_TrimSuffix_0 strings_IndexByte_0) Tryz.f11 10000 fuelK [.str a0] κ = letter_Fields_0 a0 (K0 κ) := by
 rw [k]
 rw [g4 R letter_rows_0 strings_Trim_0 strings_TrimSuffix_0 strings_IndexByte_0 κ fuelK, g8 R letter_rows_0 strings_Trim_0 strings_TrimSuffix_0 strings_IndexByte_0 κ fuelK, g13 R letter_rows_0 strings_Trim_0 strings_TrimSuffix_0 strings_IndexByte_0 κ fuelK, g15 R letter_rows_0 strings_Trim_0 strings_TrimSuffix_0 strings_IndexByte_0 κ fuelK, g17 R letter_rows_0 strings_Trim_0 strings_TrimSuffix_0 strings_IndexByte_0 κ fuelK]
 rfl
theorem Γ_does {R : Type} (tab : Tab) (ht : TabOk tab) (g : Nat) : Does (R := R) Tryz.prog (tabTy tyL) tab g ((C R letter_rows_0 strings_Trim_0 strings_TrimSuffix_0 strings_IndexByte_0).call g) := by
 refine does_of fun xs κ => ?_
 show DoesAt _ _ _ g xs κ (Γ R letter_rows_0 strings_Trim_0 strings_TrimSuffix_0 strings_IndexByte_0 g xs κ)
 unfold Γ
 split
 ·split
  ·exact letter_rows_0.does tab ht _ κ
  ·exact DoesAt.none
 ·split
  ·exact strings_TrimSuffix_0.does tab ht _ _ κ
  ·exact DoesAt.none
 ·split
  ·exact strings_IndexByte_0.does tab ht _ _ κ
  ·exact DoesAt.none
 ·split
  ·exact strings_Trim_0.does tab ht _ _ κ
  ·exact DoesAt.none
 ·exact DoesAt.none
theorem does {R : Type} (tab : Tab) (ht : TabOk tab) (a0 : ByteArray) (κ : List SV -> Option R) : DoesAt Tryz.prog (tabTy tyL) tab 11 [.str a0] κ (letter_Fields_0 a0 (K0 κ)) := by
 intro r h w vs Rt Ra bs hpre
 exact runF_sound tyOk (Γ_does tab ht) (show Tryz.prog.funcs[11]? = some Tryz.f11 by kernel_rfl) (by kernel_rfl) ((run R κ a0).trans h) hpre
end letter_Fields_0
namespace strings_Contains_0
abbrev K0 {R : Type} (κ : List SV -> Option R) (r0 : Bool) : Option R := κ [.bool r0]
section
variable (R : Type) (c1 : strings_Index_0.F R)
def Γ (g : Nat) (xs : List SV) (κ : List SV -> Option R) : Option R :=
 match g with
 | 85 => (match xs with
  | [.str a0, .str a1] => c1 a0 a1 (strings_Index_0.K0 κ)
  | _ => none)
 | _ => none
def h (n : Nat) : Option (List (Nat × List (Nat × Nat))) :=
 match n with
 | _ => none
def C : Cfg R := ⟨tabTy tyL, Γ R c1, fun _ => false, h⟩
theorem k (κ : List SV -> Option R) (k : Nat) (a0 : ByteArray) (a1 : ByteArray) : runF (C R c1) Tryz.f70 10000 k [.str a0, .str a1] κ = strings_Contains_0.e c1 a0 a1 (K0 κ) := by kernel_rfl
end
theorem run (R : Type) (κ : List SV -> Option R) (a0 : ByteArray) (a1 : ByteArray) : runF (C R strings_Index_0) Tryz.f70 10000 fuelK [.str a0, .str a1] κ = strings_Contains_0 a0 a1 (K0 κ) := by
 rw [k]
 rfl
theorem Γ_does {R : Type} (tab : Tab) (ht : TabOk tab) (g : Nat) : Does (R := R) Tryz.prog (tabTy tyL) tab g ((C R strings_Index_0).call g) := by
 refine does_of fun xs κ => ?_
 show DoesAt _ _ _ g xs κ (Γ R strings_Index_0 g xs κ)
 unfold Γ
 split
 ·split
  ·exact strings_Index_0.does tab ht _ _ κ
  ·exact DoesAt.none
 ·exact DoesAt.none
theorem does {R : Type} (tab : Tab) (ht : TabOk tab) (a0 : ByteArray) (a1 : ByteArray) (κ : List SV -> Option R) : DoesAt Tryz.prog (tabTy tyL) tab 70 [.str a0, .str a1] κ (strings_Contains_0 a0 a1 (K0 κ)) := by
 intro r h w vs Rt Ra bs hpre
 exact runF_sound tyOk (Γ_does tab ht) (show Tryz.prog.funcs[70]? = some Tryz.f70 by kernel_rfl) (by kernel_rfl) ((run R κ a0 a1).trans h) hpre
end strings_Contains_0
namespace letter_Ids_0
abbrev K0 {R : Type} (κ : List SV -> Option R) (r0 : List AV) : Option R := κ [.fr 9 r0 true]
section
variable (R : Type) (c1 : letter_pieces_0.F R) (c2 : letter_piece_is_0.F R) (c3 : letter_find_ois.F R) (c4 : letter_text_ob.F R) (c5 : strings_Contains_0.F R)
def Γ (g : Nat) (xs : List SV) (κ : List SV -> Option R) : Option R :=
 match g with
 | 56 => (match xs with
  | [.str a0] => c1 a0 (letter_pieces_0.K0 κ)
  | _ => none)
 | 59 => (match xs with
  | [.ro 89 a0 false, .bool a1] => c4 a0 a1 (letter_text_ob.K0 κ)
  | _ => none)
 | 68 => (match xs with
  | [.agg [.int .i64 a0, .str a1], .str a2] => c2 a0 a1 a2 (letter_piece_is_0.K0 κ)
  | _ => none)
 | 69 => (match xs with
  | [.ro 89 a0 false, .int .i64 a1, .str a2] => c3 a0 a1 a2 (letter_find_ois.K0 κ)
  | _ => none)
 | 70 => (match xs with
  | [.str a0, .str a1] => c5 a0 a1 (strings_Contains_0.K0 κ)
  | _ => none)
 | _ => none
def h (n : Nat) : Option (List (Nat × List (Nat × Nat))) :=
 match n with
 | 4 => some [(3, [(0, 11)]), (4, [(0, 0)]), (5, [(0, 0)])]
 | _ => none
def C : Cfg R := ⟨tabTy tyL, Γ R c1 c2 c3 c4 c5, fun _ => false, h⟩
noncomputable abbrev P (i : Nat) : List Item := placeOf Tryz.f23 i
noncomputable def S (κ : List SV -> Option R) (J : List Item -> St -> Option R) (i : Nat) (s : St) : Option R := start (C R c1 c2 c3 c4 c5) J (retK (C R c1 c2 c3 c4 c5) Tryz.f23.results.toList (List.range 0) κ) 10000 (P i) s
noncomputable def G (κ : List SV -> Option R) (f : Nat) (p : List Item) (s : St) : Option R := goto (C R c1 c2 c3 c4 c5) (retK (C R c1 c2 c3 c4 c5) Tryz.f23.results.toList (List.range 0) κ) 10000 f p s
def s4 (x0 : Int) (x1 : List AV) (x2 : List AV) : St := ⟨mkS 61 [(3, .own 256), (4, .own 320), (5, .int .i64 x0)], [(256, .row 9 x1 true), (320, .row 89 x2 true)], top⟩
noncomputable abbrev q4 {R : Type} (J : List Item -> St -> Option R) (x0 : Int) (x1 : List AV) (x2 : List AV) : Option R := J (P 4) (s4 x0 x1 x2)
theorem k4 (J : List Item -> St -> Option R) (κ : List SV -> Option R) (x0 : Int) (x1 : List AV) (x2 : List AV) : S R c1 c2 c3 c4 c5 κ J 4 (s4 x0 x1 x2) = t4 c1 c2 c3 c4 c5 x0 x1 x2 (q4 J) (K0 κ) := by kernel_rfl
theorem k (κ : List SV -> Option R) (k : Nat) (a0 : ByteArray) : runF (C R c1 c2 c3 c4 c5) Tryz.f23 10000 k [.str a0] κ = letter_Ids_0.e c1 c2 c3 c4 c5 a0 (q4 (G R c1 c2 c3 c4 c5 κ k)) (K0 κ) := by kernel_rfl
theorem g4 (κ : List SV -> Option R) : ∀ (f : Nat), q4 (G R c1 c2 c3 c4 c5 κ f) = L4 c1 c2 c3 c4 c5 (K0 κ) f
 | 0 => rfl
 | f + 1 => by
  funext x0 x1 x2
  show S R c1 c2 c3 c4 c5 κ (G R c1 c2 c3 c4 c5 κ f) 4 _ = _
  rw [k4, g4 κ f]
  rfl
end
theorem run (R : Type) (κ : List SV -> Option R) (a0 : ByteArray) : runF (C R letter_pieces_0 letter_piece_is_0 letter_find_ois letter_text_ob strings_Contains_0) Tryz.f23 10000 fuelK [.str a0] κ = letter_Ids_0 a0 (K0 κ) := by
 rw [k]
 rw [g4 R letter_pieces_0 letter_piece_is_0 letter_find_ois letter_text_ob strings_Contains_0 κ fuelK]
 rfl
theorem Γ_does {R : Type} (tab : Tab) (ht : TabOk tab) (g : Nat) : Does (R := R) Tryz.prog (tabTy tyL) tab g ((C R letter_pieces_0 letter_piece_is_0 letter_find_ois letter_text_ob strings_Contains_0).call g) := by
 refine does_of fun xs κ => ?_
 show DoesAt _ _ _ g xs κ (Γ R letter_pieces_0 letter_piece_is_0 letter_find_ois letter_text_ob strings_Contains_0 g xs κ)
 unfold Γ
 split
 ·split
  ·exact letter_pieces_0.does tab ht _ κ
  ·exact DoesAt.none
 ·split
  ·exact letter_text_ob.does tab ht _ _ κ
  ·exact DoesAt.none
 ·split
  ·exact letter_piece_is_0.does tab ht _ _ _ κ
  ·exact DoesAt.none
 ·split
  ·exact letter_find_ois.does tab ht _ _ _ κ
  ·exact DoesAt.none
 ·split
  ·exact strings_Contains_0.does tab ht _ _ κ
  ·exact DoesAt.none
 ·exact DoesAt.none
theorem does {R : Type} (tab : Tab) (ht : TabOk tab) (a0 : ByteArray) (κ : List SV -> Option R) : DoesAt Tryz.prog (tabTy tyL) tab 23 [.str a0] κ (letter_Ids_0 a0 (K0 κ)) := by
 intro r h w vs Rt Ra bs hpre
 exact runF_sound tyOk (Γ_does tab ht) (show Tryz.prog.funcs[23]? = some Tryz.f23 by kernel_rfl) (by kernel_rfl) ((run R κ a0).trans h) hpre
end letter_Ids_0
namespace octet_worths_0
abbrev K0 {R : Type} (κ : List SV -> Option R) (r0 : List AV) : Option R := κ [.ar 5 256 r0]
section
variable (R : Type)
def Γ (g : Nat) (xs : List SV) (κ : List SV -> Option R) : Option R :=
 match g with
 | _ => none
def h (n : Nat) : Option (List (Nat × List (Nat × Nat))) :=
 match n with
 | 3 => some [(0, [(0, 0)]), (1, [(0, 0)]), (3, [(0, 0)])]
 | _ => none
def C : Cfg R := ⟨tabTy tyL, Γ R, fun _ => false, h⟩
noncomputable abbrev P (i : Nat) : List Item := placeOf Tryz.f157 i
noncomputable def S (κ : List SV -> Option R) (J : List Item -> St -> Option R) (i : Nat) (s : St) : Option R := start (C R) J (retK (C R) Tryz.f157.results.toList (List.range 0) κ) 10000 (P i) s
noncomputable def G (κ : List SV -> Option R) (f : Nat) (p : List Item) (s : St) : Option R := goto (C R) (retK (C R) Tryz.f157.results.toList (List.range 0) κ) 10000 f p s
def s3 (x0 : Int) (x1 : List AV) (x2 : List AV) : St := ⟨mkS 14 [(0, .ap 64 256), (1, .ap 128 256), (3, .int .i64 x0)], [(64, .row 5 x1 true), (128, .row 5 x2 true)], top⟩
noncomputable abbrev q3 {R : Type} (J : List Item -> St -> Option R) (x0 : Int) (x1 : List AV) (x2 : List AV) : Option R := J (P 3) (s3 x0 x1 x2)
theorem k3 (J : List Item -> St -> Option R) (κ : List SV -> Option R) (x0 : Int) (x1 : List AV) (x2 : List AV) : S R κ J 3 (s3 x0 x1 x2) = t3 x0 x1 x2 (q3 J) (K0 κ) := by kernel_rfl
theorem k (κ : List SV -> Option R) (k : Nat) : runF (C R) Tryz.f157 10000 k [] κ = octet_worths_0.e (q3 (G R κ k)) (K0 κ) := by kernel_rfl
theorem g3 (κ : List SV -> Option R) : ∀ (f : Nat), q3 (G R κ f) = L3 (K0 κ) f
 | 0 => rfl
 | f + 1 => by
  funext x0 x1 x2
  show S R κ (G R κ f) 3 _ = _
  rw [k3, g3 κ f]
  rfl
end
theorem run (R : Type) (κ : List SV -> Option R) : runF (C R) Tryz.f157 10000 fuelK [] κ = octet_worths_0 (K0 κ) := by
 rw [k]
 rw [g3 R κ fuelK]
 rfl
theorem Γ_does {R : Type} (tab : Tab) (ht : TabOk tab) (g : Nat) : Does (R := R) Tryz.prog (tabTy tyL) tab g ((C R).call g) := by
 refine does_of fun xs κ => ?_
 show DoesAt _ _ _ g xs κ (Γ R g xs κ)
 unfold Γ
 split
 ·exact DoesAt.none
theorem does {R : Type} (tab : Tab) (ht : TabOk tab) (κ : List SV -> Option R) : DoesAt Tryz.prog (tabTy tyL) tab 157 [] κ (octet_worths_0 (K0 κ)) := by
 intro r h w vs Rt Ra bs hpre
 exact runF_sound tyOk (Γ_does tab ht) (show Tryz.prog.funcs[157]? = some Tryz.f157 by kernel_rfl) (by kernel_rfl) ((run R κ).trans h) hpre
end octet_worths_0
namespace octet_read64_0
abbrev K0 {R : Type} (κ : List SV -> Option R) (r0 : ByteArray) : Option R := κ [.str r0]
section
variable (R : Type) (c1 : octet_worths_0.F R)
def Γ (g : Nat) (xs : List SV) (κ : List SV -> Option R) : Option R :=
 match g with
 | 157 => (match xs with
  | [] => c1 (octet_worths_0.K0 κ)
  | _ => none)
 | _ => none
def h (n : Nat) : Option (List (Nat × List (Nat × Nat))) :=
 match n with
 | 5 => some [(0, [(0, 0)]), (1, [(0, 0)]), (5, [(0, 7)]), (6, [(0, 0)]), (7, [(0, 0)]), (8, [(0, 0)]), (9, [(0, 0)])]
 | _ => none
def C : Cfg R := ⟨tabTy tyL, Γ R c1, fun _ => false, h⟩
noncomputable abbrev P (i : Nat) : List Item := placeOf Tryz.f140 i
noncomputable def S (κ : List SV -> Option R) (J : List Item -> St -> Option R) (i : Nat) (s : St) : Option R := start (C R c1) J (retK (C R c1) Tryz.f140.results.toList (List.range 0) κ) 10000 (P i) s
noncomputable def G (κ : List SV -> Option R) (f : Nat) (p : List Item) (s : St) : Option R := goto (C R c1) (retK (C R c1) Tryz.f140.results.toList (List.range 0) κ) 10000 f p s
def s5 (x0 : ByteArray) (x1 : Int) (x2 : Int) (x3 : Int) (x4 : Int) (x5 : List AV) (x6 : List AV) : St := ⟨mkS 81 [(0, .str x0), (1, .int .u8 x1), (5, .own 384), (6, .ap 448 256), (7, .int .i64 x2), (8, .int .i64 x3), (9, .int .i64 x4)], [(384, .row 5 x5 true), (448, .row 5 x6 true)], top⟩
noncomputable abbrev q5 {R : Type} (J : List Item -> St -> Option R) (x0 : ByteArray) (x1 : Int) (x2 : Int) (x3 : Int) (x4 : Int) (x5 : List AV) (x6 : List AV) : Option R := J (P 5) (s5 x0 x1 x2 x3 x4 x5 x6)
theorem k5 (J : List Item -> St -> Option R) (κ : List SV -> Option R) (x0 : ByteArray) (x1 : Int) (x2 : Int) (x3 : Int) (x4 : Int) (x5 : List AV) (x6 : List AV) : S R c1 κ J 5 (s5 x0 x1 x2 x3 x4 x5 x6) = t5 c1 x0 x1 x2 x3 x4 x5 x6 (q5 J) (K0 κ) := by kernel_rfl
theorem k (κ : List SV -> Option R) (k : Nat) (a0 : ByteArray) (a1 : Int) : runF (C R c1) Tryz.f140 10000 k [.str a0, .int .u8 a1] κ = octet_read64_0.e c1 a0 a1 (q5 (G R c1 κ k)) (K0 κ) := by kernel_rfl
theorem g5 (κ : List SV -> Option R) : ∀ (f : Nat), q5 (G R c1 κ f) = L5 c1 (K0 κ) f
 | 0 => rfl
 | f + 1 => by
  funext x0 x1 x2 x3 x4 x5 x6
  show S R c1 κ (G R c1 κ f) 5 _ = _
  rw [k5, g5 κ f]
  rfl
end
theorem run (R : Type) (κ : List SV -> Option R) (a0 : ByteArray) (a1 : Int) : runF (C R octet_worths_0) Tryz.f140 10000 fuelK [.str a0, .int .u8 a1] κ = octet_read64_0 a0 a1 (K0 κ) := by
 rw [k]
 rw [g5 R octet_worths_0 κ fuelK]
 rfl
theorem Γ_does {R : Type} (tab : Tab) (ht : TabOk tab) (g : Nat) : Does (R := R) Tryz.prog (tabTy tyL) tab g ((C R octet_worths_0).call g) := by
 refine does_of fun xs κ => ?_
 show DoesAt _ _ _ g xs κ (Γ R octet_worths_0 g xs κ)
 unfold Γ
 split
 ·split
  ·exact octet_worths_0.does tab ht κ
  ·exact DoesAt.none
 ·exact DoesAt.none
theorem does {R : Type} (tab : Tab) (ht : TabOk tab) (a0 : ByteArray) (a1 : Int) (κ : List SV -> Option R) : DoesAt Tryz.prog (tabTy tyL) tab 140 [.str a0, .int .u8 a1] κ (octet_read64_0 a0 a1 (K0 κ)) := by
 intro r h w vs Rt Ra bs hpre
 exact runF_sound tyOk (Γ_does tab ht) (show Tryz.prog.funcs[140]? = some Tryz.f140 by kernel_rfl) (by kernel_rfl) ((run R κ a0 a1).trans h) hpre
end octet_read64_0
namespace octet_Loose64_0
abbrev K0 {R : Type} (κ : List SV -> Option R) (r0 : ByteArray) : Option R := κ [.str r0]
section
variable (R : Type) (c1 : octet_read64_0.F R)
def Γ (g : Nat) (xs : List SV) (κ : List SV -> Option R) : Option R :=
 match g with
 | 140 => (match xs with
  | [.str a0, .int .u8 a1] => c1 a0 a1 (octet_read64_0.K0 κ)
  | _ => none)
 | _ => none
def h (n : Nat) : Option (List (Nat × List (Nat × Nat))) :=
 match n with
 | _ => none
def C : Cfg R := ⟨tabTy tyL, Γ R c1, fun _ => false, h⟩
theorem k (κ : List SV -> Option R) (k : Nat) (a0 : ByteArray) : runF (C R c1) Tryz.f106 10000 k [.str a0] κ = octet_Loose64_0.e c1 a0 (K0 κ) := by kernel_rfl
end
theorem run (R : Type) (κ : List SV -> Option R) (a0 : ByteArray) : runF (C R octet_read64_0) Tryz.f106 10000 fuelK [.str a0] κ = octet_Loose64_0 a0 (K0 κ) := by
 rw [k]
 rfl
theorem Γ_does {R : Type} (tab : Tab) (ht : TabOk tab) (g : Nat) : Does (R := R) Tryz.prog (tabTy tyL) tab g ((C R octet_read64_0).call g) := by
 refine does_of fun xs κ => ?_
 show DoesAt _ _ _ g xs κ (Γ R octet_read64_0 g xs κ)
 unfold Γ
 split
 ·split
  ·exact octet_read64_0.does tab ht _ _ κ
  ·exact DoesAt.none
 ·exact DoesAt.none
theorem does {R : Type} (tab : Tab) (ht : TabOk tab) (a0 : ByteArray) (κ : List SV -> Option R) : DoesAt Tryz.prog (tabTy tyL) tab 106 [.str a0] κ (octet_Loose64_0 a0 (K0 κ)) := by
 intro r h w vs Rt Ra bs hpre
 exact runF_sound tyOk (Γ_does tab ht) (show Tryz.prog.funcs[106]? = some Tryz.f106 by kernel_rfl) (by kernel_rfl) ((run R κ a0).trans h) hpre
end octet_Loose64_0
namespace letter_wide_0
abbrev K0 {R : Type} (κ : List SV -> Option R) (r0 : ByteArray) : Option R := κ [.str r0]
section
variable (R : Type) (c1 : strings_Builder_WriteByte_vxfei.F R) (c2 : strings_Builder_String_vxfe.F R)
def Γ (g : Nat) (xs : List SV) (κ : List SV -> Option R) : Option R :=
 match g with
 | 49 => (match xs with
  | [.vp 74 [.nos, .fr 5 a0 true]] => c2 a0 (strings_Builder_String_vxfe.K0 κ)
  | _ => none)
 | 110 => (match xs with
  | [.vp 74 [.nos, .fr 5 a0 true], .int .u8 a1] => c1 a0 a1 (strings_Builder_WriteByte_vxfei.K0 κ)
  | _ => none)
 | _ => none
def h (n : Nat) : Option (List (Nat × List (Nat × Nat))) :=
 match n with
 | 3 => some [(0, [(0, 0)]), (3, [(1, 7)]), (6, [(0, 0)]), (7, [(0, 0)])]
 | _ => none
def C : Cfg R := ⟨tabTy tyL, Γ R c1 c2, fun _ => false, h⟩
noncomputable abbrev P (i : Nat) : List Item := placeOf Tryz.f108 i
noncomputable def S (κ : List SV -> Option R) (J : List Item -> St -> Option R) (i : Nat) (s : St) : Option R := start (C R c1 c2) J (retK (C R c1 c2) Tryz.f108.results.toList (List.range 0) κ) 10000 (P i) s
noncomputable def G (κ : List SV -> Option R) (f : Nat) (p : List Item) (s : St) : Option R := goto (C R c1 c2) (retK (C R c1 c2) Tryz.f108.results.toList (List.range 0) κ) 10000 f p s
def s3 (x0 : ByteArray) (x1 : Int) (x2 : Int) (x3 : List AV) : St := ⟨mkS 32 [(0, .str x0), (3, .ptr 319 0), (6, .int .i64 x1), (7, .int .i64 x2)], [(319, .var 74 [.nos, .own 257]), (257, .row 5 x3 true)], top⟩
noncomputable abbrev q3 {R : Type} (J : List Item -> St -> Option R) (x0 : ByteArray) (x1 : Int) (x2 : Int) (x3 : List AV) : Option R := J (P 3) (s3 x0 x1 x2 x3)
theorem k3 (J : List Item -> St -> Option R) (κ : List SV -> Option R) (x0 : ByteArray) (x1 : Int) (x2 : Int) (x3 : List AV) : S R c1 c2 κ J 3 (s3 x0 x1 x2 x3) = t3 c1 c2 x0 x1 x2 x3 (q3 J) (K0 κ) := by kernel_rfl
theorem k (κ : List SV -> Option R) (k : Nat) (a0 : ByteArray) : runF (C R c1 c2) Tryz.f108 10000 k [.str a0] κ = letter_wide_0.e c1 c2 a0 (q3 (G R c1 c2 κ k)) (K0 κ) := by kernel_rfl
theorem g3 (κ : List SV -> Option R) : ∀ (f : Nat), q3 (G R c1 c2 κ f) = L3 c1 c2 (K0 κ) f
 | 0 => rfl
 | f + 1 => by
  funext x0 x1 x2 x3
  show S R c1 c2 κ (G R c1 c2 κ f) 3 _ = _
  rw [k3, g3 κ f]
  rfl
end
theorem run (R : Type) (κ : List SV -> Option R) (a0 : ByteArray) : runF (C R strings_Builder_WriteByte_vxfei strings_Builder_String_vxfe) Tryz.f108 10000 fuelK [.str a0] κ = letter_wide_0 a0 (K0 κ) := by
 rw [k]
 rw [g3 R strings_Builder_WriteByte_vxfei strings_Builder_String_vxfe κ fuelK]
 rfl
theorem Γ_does {R : Type} (tab : Tab) (ht : TabOk tab) (g : Nat) : Does (R := R) Tryz.prog (tabTy tyL) tab g ((C R strings_Builder_WriteByte_vxfei strings_Builder_String_vxfe).call g) := by
 refine does_of fun xs κ => ?_
 show DoesAt _ _ _ g xs κ (Γ R strings_Builder_WriteByte_vxfei strings_Builder_String_vxfe g xs κ)
 unfold Γ
 split
 ·split
  ·exact strings_Builder_String_vxfe.does tab ht _ κ
  ·exact DoesAt.none
 ·split
  ·exact strings_Builder_WriteByte_vxfei.does tab ht _ _ κ
  ·exact DoesAt.none
 ·exact DoesAt.none
theorem does {R : Type} (tab : Tab) (ht : TabOk tab) (a0 : ByteArray) (κ : List SV -> Option R) : DoesAt Tryz.prog (tabTy tyL) tab 108 [.str a0] κ (letter_wide_0 a0 (K0 κ)) := by
 intro r h w vs Rt Ra bs hpre
 exact runF_sound tyOk (Γ_does tab ht) (show Tryz.prog.funcs[108]? = some Tryz.f108 by kernel_rfl) (by kernel_rfl) ((run R κ a0).trans h) hpre
end letter_wide_0
namespace letter_hex_0
abbrev K0 {R : Type} (κ : List SV -> Option R) (r0 : Int) : Option R := κ [.int .i64 r0]
section
variable (R : Type) (c1 : octet_Lower_0.F R) (c2 : strings_IndexByte_0.F R)
def Γ (g : Nat) (xs : List SV) (κ : List SV -> Option R) : Option R :=
 match g with
 | 40 => (match xs with
  | [.str a0, .int .u8 a1] => c2 a0 a1 (strings_IndexByte_0.K0 κ)
  | _ => none)
 | 98 => (match xs with
  | [.str a0] => c1 a0 (octet_Lower_0.K0 κ)
  | _ => none)
 | _ => none
def h (n : Nat) : Option (List (Nat × List (Nat × Nat))) :=
 match n with
 | _ => none
def C : Cfg R := ⟨tabTy tyL, Γ R c1 c2, fun _ => false, h⟩
theorem k (κ : List SV -> Option R) (k : Nat) (a0 : Int) : runF (C R c1 c2) Tryz.f141 10000 k [.int .u8 a0] κ = letter_hex_0.e c1 c2 a0 (K0 κ) := by kernel_rfl
end
theorem run (R : Type) (κ : List SV -> Option R) (a0 : Int) : runF (C R octet_Lower_0 strings_IndexByte_0) Tryz.f141 10000 fuelK [.int .u8 a0] κ = letter_hex_0 a0 (K0 κ) := by
 rw [k]
 rfl
theorem Γ_does {R : Type} (tab : Tab) (ht : TabOk tab) (g : Nat) : Does (R := R) Tryz.prog (tabTy tyL) tab g ((C R octet_Lower_0 strings_IndexByte_0).call g) := by
 refine does_of fun xs κ => ?_
 show DoesAt _ _ _ g xs κ (Γ R octet_Lower_0 strings_IndexByte_0 g xs κ)
 unfold Γ
 split
 ·split
  ·exact strings_IndexByte_0.does tab ht _ _ κ
  ·exact DoesAt.none
 ·split
  ·exact octet_Lower_0.does tab ht _ κ
  ·exact DoesAt.none
 ·exact DoesAt.none
theorem does {R : Type} (tab : Tab) (ht : TabOk tab) (a0 : Int) (κ : List SV -> Option R) : DoesAt Tryz.prog (tabTy tyL) tab 141 [.int .u8 a0] κ (letter_hex_0 a0 (K0 κ)) := by
 intro r h w vs Rt Ra bs hpre
 exact runF_sound tyOk (Γ_does tab ht) (show Tryz.prog.funcs[141]? = some Tryz.f141 by kernel_rfl) (by kernel_rfl) ((run R κ a0).trans h) hpre
end letter_hex_0
namespace letter_unquoted_0
abbrev K0 {R : Type} (κ : List SV -> Option R) (r0 : ByteArray) : Option R := κ [.str r0]
section
variable (R : Type) (c1 : strings_Builder_WriteByte_vxfei.F R) (c2 : letter_hex_0.F R) (c3 : strings_Builder_String_vxfe.F R)
def Γ (g : Nat) (xs : List SV) (κ : List SV -> Option R) : Option R :=
 match g with
 | 49 => (match xs with
  | [.vp 74 [.nos, .fr 5 a0 true]] => c3 a0 (strings_Builder_String_vxfe.K0 κ)
  | _ => none)
 | 110 => (match xs with
  | [.vp 74 [.nos, .fr 5 a0 true], .int .u8 a1] => c1 a0 a1 (strings_Builder_WriteByte_vxfei.K0 κ)
  | _ => none)
 | 141 => (match xs with
  | [.int .u8 a0] => c2 a0 (letter_hex_0.K0 κ)
  | _ => none)
 | _ => none
def h (n : Nat) : Option (List (Nat × List (Nat × Nat))) :=
 match n with
 | 3 => some [(0, [(0, 0)]), (3, [(1, 7)]), (4, [(0, 0)])]
 | _ => none
def C : Cfg R := ⟨tabTy tyL, Γ R c1 c2 c3, fun _ => false, h⟩
noncomputable abbrev P (i : Nat) : List Item := placeOf Tryz.f107 i
noncomputable def S (κ : List SV -> Option R) (J : List Item -> St -> Option R) (i : Nat) (s : St) : Option R := start (C R c1 c2 c3) J (retK (C R c1 c2 c3) Tryz.f107.results.toList (List.range 0) κ) 10000 (P i) s
noncomputable def G (κ : List SV -> Option R) (f : Nat) (p : List Item) (s : St) : Option R := goto (C R c1 c2 c3) (retK (C R c1 c2 c3) Tryz.f107.results.toList (List.range 0) κ) 10000 f p s
def s3 (x0 : ByteArray) (x1 : Int) (x2 : List AV) : St := ⟨mkS 66 [(0, .str x0), (3, .ptr 319 0), (4, .int .i64 x1)], [(319, .var 74 [.nos, .own 257]), (257, .row 5 x2 true)], top⟩
noncomputable abbrev q3 {R : Type} (J : List Item -> St -> Option R) (x0 : ByteArray) (x1 : Int) (x2 : List AV) : Option R := J (P 3) (s3 x0 x1 x2)
theorem k3 (J : List Item -> St -> Option R) (κ : List SV -> Option R) (x0 : ByteArray) (x1 : Int) (x2 : List AV) : S R c1 c2 c3 κ J 3 (s3 x0 x1 x2) = t3 c1 c2 c3 x0 x1 x2 (q3 J) (K0 κ) := by kernel_rfl
theorem k (κ : List SV -> Option R) (k : Nat) (a0 : ByteArray) : runF (C R c1 c2 c3) Tryz.f107 10000 k [.str a0] κ = letter_unquoted_0.e c1 c2 c3 a0 (q3 (G R c1 c2 c3 κ k)) (K0 κ) := by kernel_rfl
theorem g3 (κ : List SV -> Option R) : ∀ (f : Nat), q3 (G R c1 c2 c3 κ f) = L3 c1 c2 c3 (K0 κ) f
 | 0 => rfl
 | f + 1 => by
  funext x0 x1 x2
  show S R c1 c2 c3 κ (G R c1 c2 c3 κ f) 3 _ = _
  rw [k3, g3 κ f]
  rfl
end
theorem run (R : Type) (κ : List SV -> Option R) (a0 : ByteArray) : runF (C R strings_Builder_WriteByte_vxfei letter_hex_0 strings_Builder_String_vxfe) Tryz.f107 10000 fuelK [.str a0] κ = letter_unquoted_0 a0 (K0 κ) := by
 rw [k]
 rw [g3 R strings_Builder_WriteByte_vxfei letter_hex_0 strings_Builder_String_vxfe κ fuelK]
 rfl
theorem Γ_does {R : Type} (tab : Tab) (ht : TabOk tab) (g : Nat) : Does (R := R) Tryz.prog (tabTy tyL) tab g ((C R strings_Builder_WriteByte_vxfei letter_hex_0 strings_Builder_String_vxfe).call g) := by
 refine does_of fun xs κ => ?_
 show DoesAt _ _ _ g xs κ (Γ R strings_Builder_WriteByte_vxfei letter_hex_0 strings_Builder_String_vxfe g xs κ)
 unfold Γ
 split
 ·split
  ·exact strings_Builder_String_vxfe.does tab ht _ κ
  ·exact DoesAt.none
 ·split
  ·exact strings_Builder_WriteByte_vxfei.does tab ht _ _ κ
  ·exact DoesAt.none
 ·split
  ·exact letter_hex_0.does tab ht _ κ
  ·exact DoesAt.none
 ·exact DoesAt.none
theorem does {R : Type} (tab : Tab) (ht : TabOk tab) (a0 : ByteArray) (κ : List SV -> Option R) : DoesAt Tryz.prog (tabTy tyL) tab 107 [.str a0] κ (letter_unquoted_0 a0 (K0 κ)) := by
 intro r h w vs Rt Ra bs hpre
 exact runF_sound tyOk (Γ_does tab ht) (show Tryz.prog.funcs[107]? = some Tryz.f107 by kernel_rfl) (by kernel_rfl) ((run R κ a0).trans h) hpre
end letter_unquoted_0
namespace letter_encoded_0
abbrev K0 {R : Type} (κ : List SV -> Option R) (r0 : ByteArray) (r1 : Int) : Option R := κ [.tup [.str r0, .int .i64 r1]]
section
variable (R : Type) (c1 : strings_HasPrefix_0.F R) (c2 : strings_IndexByte_0.F R) (c3 : octet_Lower_0.F R) (c4 : octet_Loose64_0.F R) (c5 : letter_wide_0.F R) (c6 : letter_unquoted_0.F R)
def Γ (g : Nat) (xs : List SV) (κ : List SV -> Option R) : Option R :=
 match g with
 | 40 => (match xs with
  | [.str a0, .int .u8 a1] => c2 a0 a1 (strings_IndexByte_0.K0 κ)
  | _ => none)
 | 84 => (match xs with
  | [.str a0, .str a1] => c1 a0 a1 (strings_HasPrefix_0.K0 κ)
  | _ => none)
 | 98 => (match xs with
  | [.str a0] => c3 a0 (octet_Lower_0.K0 κ)
  | _ => none)
 | 106 => (match xs with
  | [.str a0] => c4 a0 (octet_Loose64_0.K0 κ)
  | _ => none)
 | 107 => (match xs with
  | [.str a0] => c6 a0 (letter_unquoted_0.K0 κ)
  | _ => none)
 | 108 => (match xs with
  | [.str a0] => c5 a0 (letter_wide_0.K0 κ)
  | _ => none)
 | _ => none
def h (n : Nat) : Option (List (Nat × List (Nat × Nat))) :=
 match n with
 | 9 => some [(0, [(0, 0)]), (5, [(0, 0)]), (6, [(0, 0)]), (7, [(0, 0)]), (8, [(0, 0)])]
 | 12 => some [(0, [(0, 0)]), (5, [(0, 0)]), (6, [(0, 0)]), (7, [(0, 0)]), (8, [(0, 0)]), (9, [(0, 0)])]
 | 14 => some [(0, [(0, 0)]), (5, [(0, 0)]), (6, [(0, 0)]), (7, [(0, 0)]), (8, [(0, 0)])]
 | _ => none
def C : Cfg R := ⟨tabTy tyL, Γ R c1 c2 c3 c4 c5 c6, fun _ => false, h⟩
noncomputable abbrev P (i : Nat) : List Item := placeOf Tryz.f54 i
noncomputable def S (κ : List SV -> Option R) (J : List Item -> St -> Option R) (i : Nat) (s : St) : Option R := start (C R c1 c2 c3 c4 c5 c6) J (retK (C R c1 c2 c3 c4 c5 c6) Tryz.f54.results.toList (List.range 0) κ) 10000 (P i) s
noncomputable def G (κ : List SV -> Option R) (f : Nat) (p : List Item) (s : St) : Option R := goto (C R c1 c2 c3 c4 c5 c6) (retK (C R c1 c2 c3 c4 c5 c6) Tryz.f54.results.toList (List.range 0) κ) 10000 f p s
def s9 (x0 : ByteArray) (x1 : ByteArray) (x2 : ByteArray) (x3 : Int) (x4 : Int) : St := ⟨mkS 116 [(0, .str x0), (5, .str x1), (6, .str x2), (7, .int .i64 x3), (8, .int .i64 x4)], [], top⟩
def s12 (x0 : ByteArray) (x1 : ByteArray) (x2 : ByteArray) (x3 : Int) (x4 : Int) (x5 : Bool) : St := ⟨mkS 116 [(0, .str x0), (5, .str x1), (6, .str x2), (7, .int .i64 x3), (8, .int .i64 x4), (9, .bool x5)], [], top⟩
def s14 (x0 : ByteArray) (x1 : ByteArray) (x2 : ByteArray) (x3 : Int) (x4 : Int) : St := ⟨mkS 116 [(0, .str x0), (5, .str x1), (6, .str x2), (7, .int .i64 x3), (8, .int .i64 x4)], [], top⟩
noncomputable abbrev q9 {R : Type} (J : List Item -> St -> Option R) (x0 : ByteArray) (x1 : ByteArray) (x2 : ByteArray) (x3 : Int) (x4 : Int) : Option R := J (P 9) (s9 x0 x1 x2 x3 x4)
noncomputable abbrev q12 {R : Type} (J : List Item -> St -> Option R) (x0 : ByteArray) (x1 : ByteArray) (x2 : ByteArray) (x3 : Int) (x4 : Int) (x5 : Bool) : Option R := J (P 12) (s12 x0 x1 x2 x3 x4 x5)
noncomputable abbrev q14 {R : Type} (J : List Item -> St -> Option R) (x0 : ByteArray) (x1 : ByteArray) (x2 : ByteArray) (x3 : Int) (x4 : Int) : Option R := J (P 14) (s14 x0 x1 x2 x3 x4)
theorem k9 (J : List Item -> St -> Option R) (κ : List SV -> Option R) (x0 : ByteArray) (x1 : ByteArray) (x2 : ByteArray) (x3 : Int) (x4 : Int) : S R c1 c2 c3 c4 c5 c6 κ J 9 (s9 x0 x1 x2 x3 x4) = t9 c1 c2 c3 c4 c5 c6 x0 x1 x2 x3 x4 (q9 J) (q12 J) (q14 J) (K0 κ) := by kernel_rfl
theorem k12 (J : List Item -> St -> Option R) (κ : List SV -> Option R) (x0 : ByteArray) (x1 : ByteArray) (x2 : ByteArray) (x3 : Int) (x4 : Int) (x5 : Bool) : S R c1 c2 c3 c4 c5 c6 κ J 12 (s12 x0 x1 x2 x3 x4 x5) = t12 c1 c2 c3 c4 c5 c6 x0 x1 x2 x3 x4 x5 (q9 J) (q12 J) (q14 J) (K0 κ) := by kernel_rfl
theorem k14 (J : List Item -> St -> Option R) (κ : List SV -> Option R) (x0 : ByteArray) (x1 : ByteArray) (x2 : ByteArray) (x3 : Int) (x4 : Int) : S R c1 c2 c3 c4 c5 c6 κ J 14 (s14 x0 x1 x2 x3 x4) = t14 c1 c2 c3 c4 c5 c6 x0 x1 x2 x3 x4 (q9 J) (q12 J) (q14 J) (K0 κ) := by kernel_rfl
theorem k (κ : List SV -> Option R) (k : Nat) (a0 : ByteArray) : runF (C R c1 c2 c3 c4 c5 c6) Tryz.f54 10000 k [.str a0] κ = letter_encoded_0.e c1 c2 c3 c4 c5 c6 a0 (q9 (G R c1 c2 c3 c4 c5 c6 κ k)) (q12 (G R c1 c2 c3 c4 c5 c6 κ k)) (q14 (G R c1 c2 c3 c4 c5 c6 κ k)) (K0 κ) := by kernel_rfl
theorem g14 (κ : List SV -> Option R) : ∀ (f : Nat), q14 (G R c1 c2 c3 c4 c5 c6 κ f) = L14 c1 c2 c3 c4 c5 c6 (K0 κ) f
 | 0 => rfl
 | f + 1 => by
  funext x0 x1 x2 x3 x4
  show S R c1 c2 c3 c4 c5 c6 κ (G R c1 c2 c3 c4 c5 c6 κ f) 14 _ = _
  rw [k14]
  rfl
theorem g12 (κ : List SV -> Option R) : ∀ (f : Nat), q12 (G R c1 c2 c3 c4 c5 c6 κ f) = L12 c1 c2 c3 c4 c5 c6 (K0 κ) f
 | 0 => rfl
 | f + 1 => by
  funext x0 x1 x2 x3 x4 x5
  show S R c1 c2 c3 c4 c5 c6 κ (G R c1 c2 c3 c4 c5 c6 κ f) 12 _ = _
  rw [k12, g14 R c1 c2 c3 c4 c5 c6 κ f]
  rfl
theorem g9 (κ : List SV -> Option R) : ∀ (f : Nat), q9 (G R c1 c2 c3 c4 c5 c6 κ f) = L9 c1 c2 c3 c4 c5 c6 (K0 κ) f
 | 0 => rfl
 | f + 1 => by
  funext x0 x1 x2 x3 x4
  show S R c1 c2 c3 c4 c5 c6 κ (G R c1 c2 c3 c4 c5 c6 κ f) 9 _ = _
  rw [k9, g9 κ f, g12 R c1 c2 c3 c4 c5 c6 κ f]
  rfl
end
theorem run (R : Type) (κ : List SV -> Option R) (a0 : ByteArray) : runF (C R strings_HasPrefix_0 strings_IndexByte_0 octet_Lower_0 octet_Loose64_0 letter_wide_0 letter_unquoted_0) Tryz.f54 10000 fuelK [.str a0] κ = letter_encoded_0 a0 (K0 κ) := by
 rw [k]
 rw [g9 R strings_HasPrefix_0 strings_IndexByte_0 octet_Lower_0 octet_Loose64_0 letter_wide_0 letter_unquoted_0 κ fuelK, g12 R strings_HasPrefix_0 strings_IndexByte_0 octet_Lower_0 octet_Loose64_0 letter_wide_0 letter_unquoted_0 κ fuelK, g14 R strings_HasPrefix_0 strings_IndexByte_0 octet_Lower_0 octet_Loose64_0 letter_wide_0 letter_unquoted_0 κ fuelK]
 rfl
theorem Γ_does {R : Type} (tab : Tab) (ht : TabOk tab) (g : Nat) : Does (R := R) Tryz.prog (tabTy tyL) tab g ((C R strings_HasPrefix_0 strings_IndexByte_0 octet_Lower_0 octet_Loose64_0 letter_wide_0 letter_unquoted_0).call g) := by
 refine does_of fun xs κ => ?_
 show DoesAt _ _ _ g xs κ (Γ R strings_HasPrefix_0 strings_IndexByte_0 octet_Lower_0 octet_Loose64_0 letter_wide_0 letter_unquoted_0 g xs κ)
 unfold Γ
 split
 ·split
  ·exact strings_IndexByte_0.does tab ht _ _ κ
  ·exact DoesAt.none
 ·split
  ·exact strings_HasPrefix_0.does tab ht _ _ κ
  ·exact DoesAt.none
 ·split
  ·exact octet_Lower_0.does tab ht _ κ
  ·exact DoesAt.none
 ·split
  ·exact octet_Loose64_0.does tab ht _ κ
  ·exact DoesAt.none
 ·split
  ·exact letter_unquoted_0.does tab ht _ κ
  ·exact DoesAt.none
 ·split
  ·exact letter_wide_0.does tab ht _ κ
  ·exact DoesAt.none
 ·exact DoesAt.none
theorem does {R : Type} (tab : Tab) (ht : TabOk tab) (a0 : ByteArray) (κ : List SV -> Option R) : DoesAt Tryz.prog (tabTy tyL) tab 54 [.str a0] κ (letter_encoded_0 a0 (K0 κ)) := by
 intro r h w vs Rt Ra bs hpre
 exact runF_sound tyOk (Γ_does tab ht) (show Tryz.prog.funcs[54]? = some Tryz.f54 by kernel_rfl) (by kernel_rfl) ((run R κ a0).trans h) hpre
end letter_encoded_0
namespace strings_Builder_WriteString_vxnes
abbrev K0 {R : Type} (κ : List SV -> Option R) (r0 : Int) (r1 : List AV) : Option R := κ [.tup [.int .i64 r0, .nili], .vp 74 [.nos, .fr 5 r1 true]]
section
variable (R : Type) (c1 : strings_Builder_copyCheck_vxne.F R)
def Γ (g : Nat) (xs : List SV) (κ : List SV -> Option R) : Option R :=
 match g with
 | 99 => (match xs with
  | [.vp 74 [.nos, .nil]] => c1 (κ [.tup [], .vp 74 [.nos, .nil]])
  | _ => none)
 | _ => none
def h (n : Nat) : Option (List (Nat × List (Nat × Nat))) :=
 match n with
 | _ => none
def C : Cfg R := ⟨tabTy tyL, Γ R c1, fun _ => false, h⟩
theorem k (κ : List SV -> Option R) (k : Nat) (a0 : ByteArray) : runF (C R c1) Tryz.f47 10000 k [.vp 74 [.nos, .nil], .str a0] κ = strings_Builder_WriteString_vxnes.e c1 a0 (K0 κ) := by kernel_rfl
end
theorem run (R : Type) (κ : List SV -> Option R) (a0 : ByteArray) : runF (C R strings_Builder_copyCheck_vxne) Tryz.f47 10000 fuelK [.vp 74 [.nos, .nil], .str a0] κ = strings_Builder_WriteString_vxnes a0 (K0 κ) := by
 rw [k]
 rfl
theorem Γ_does {R : Type} (tab : Tab) (ht : TabOk tab) (g : Nat) : Does (R := R) Tryz.prog (tabTy tyL) tab g ((C R strings_Builder_copyCheck_vxne).call g) := by
 refine does_of fun xs κ => ?_
 show DoesAt _ _ _ g xs κ (Γ R strings_Builder_copyCheck_vxne g xs κ)
 unfold Γ
 split
 ·split
  ·exact strings_Builder_copyCheck_vxne.does tab ht κ
  ·exact DoesAt.none
 ·exact DoesAt.none
theorem does {R : Type} (tab : Tab) (ht : TabOk tab) (a0 : ByteArray) (κ : List SV -> Option R) : DoesAt Tryz.prog (tabTy tyL) tab 47 [.vp 74 [.nos, .nil], .str a0] κ (strings_Builder_WriteString_vxnes a0 (K0 κ)) := by
 intro r h w vs Rt Ra bs hpre
 exact runF_sound tyOk (Γ_does tab ht) (show Tryz.prog.funcs[47]? = some Tryz.f47 by kernel_rfl) (by kernel_rfl) ((run R κ a0).trans h) hpre
end strings_Builder_WriteString_vxnes
namespace letter_Words_0
abbrev K0 {R : Type} (κ : List SV -> Option R) (r0 : ByteArray) : Option R := κ [.str r0]
section
variable (R : Type) (c1 : letter_encoded_0.F R) (c2 : strings_Builder_WriteString_vxfes.F R) (c3 : letter_isBlank_0.F R) (c4 : strings_Builder_String_vxfe.F R)
def Γ (g : Nat) (xs : List SV) (κ : List SV -> Option R) : Option R :=
 match g with
 | 47 => (match xs with
  | [.vp 74 [.nos, .fr 5 a0 true], .str a1] => c2 a0 a1 (strings_Builder_WriteString_vxfes.K0 κ)
  | _ => none)
 | 49 => (match xs with
  | [.vp 74 [.nos, .fr 5 a0 true]] => c4 a0 (strings_Builder_String_vxfe.K0 κ)
  | _ => none)
 | 54 => (match xs with
  | [.str a0] => c1 a0 (letter_encoded_0.K0 κ)
  | _ => none)
 | 55 => (match xs with
  | [.int .u8 a0] => c3 a0 (letter_isBlank_0.K0 κ)
  | _ => none)
 | _ => none
def h (n : Nat) : Option (List (Nat × List (Nat × Nat))) :=
 match n with
 | 5 => some [(0, [(0, 0)]), (3, [(1, 7)]), (4, [(0, 0)]), (5, [(0, 0)]), (6, [(0, 0)])]
 | _ => none
def C : Cfg R := ⟨tabTy tyL, Γ R c1 c2 c3 c4, fun _ => false, h⟩
noncomputable abbrev P (i : Nat) : List Item := placeOf Tryz.f19 i
noncomputable def S (κ : List SV -> Option R) (J : List Item -> St -> Option R) (i : Nat) (s : St) : Option R := start (C R c1 c2 c3 c4) J (retK (C R c1 c2 c3 c4) Tryz.f19.results.toList (List.range 0) κ) 10000 (P i) s
noncomputable def G (κ : List SV -> Option R) (f : Nat) (p : List Item) (s : St) : Option R := goto (C R c1 c2 c3 c4) (retK (C R c1 c2 c3 c4) Tryz.f19.results.toList (List.range 0) κ) 10000 f p s
def s5 (x0 : ByteArray) (x1 : Bool) (x2 : Int) (x3 : Int) (x4 : List AV) : St := ⟨mkS 56 [(0, .str x0), (3, .ptr 319 0), (4, .bool x1), (5, .int .i64 x2), (6, .int .i64 x3)], [(319, .var 74 [.nos, .own 257]), (257, .row 5 x4 true)], top⟩
noncomputable abbrev q5 {R : Type} (J : List Item -> St -> Option R) (x0 : ByteArray) (x1 : Bool) (x2 : Int) (x3 : Int) (x4 : List AV) : Option R := J (P 5) (s5 x0 x1 x2 x3 x4)
theorem k5 (J : List Item -> St -> Option R) (κ : List SV -> Option R) (x0 : ByteArray) (x1 : Bool) (x2 : Int) (x3 : Int) (x4 : List AV) : S R c1 c2 c3 c4 κ J 5 (s5 x0 x1 x2 x3 x4) = t5 c1 c2 c3 c4 x0 x1 x2 x3 x4 (q5 J) (K0 κ) := by kernel_rfl
theorem k (κ : List SV -> Option R) (k : Nat) (a0 : ByteArray) : runF (C R c1 c2 c3 c4) Tryz.f19 10000 k [.str a0] κ = letter_Words_0.e c1 c2 c3 c4 a0 (q5 (G R c1 c2 c3 c4 κ k)) (K0 κ) := by kernel_rfl
theorem g5 (κ : List SV -> Option R) : ∀ (f : Nat), q5 (G R c1 c2 c3 c4 κ f) = L5 c1 c2 c3 c4 (K0 κ) f
 | 0 => rfl
 | f + 1 => by
  funext x0 x1 x2 x3 x4
  show S R c1 c2 c3 c4 κ (G R c1 c2 c3 c4 κ f) 5 _ = _
  rw [k5, g5 κ f]
  rfl
end
theorem run (R : Type) (κ : List SV -> Option R) (a0 : ByteArray) : runF (C R letter_encoded_0 strings_Builder_WriteString_vxfes letter_isBlank_0 strings_Builder_String_vxfe) Tryz.f19 10000 fuelK [.str a0] κ = letter_Words_0 a0 (K0 κ) := by
 rw [k]
 rw [g5 R letter_encoded_0 strings_Builder_WriteString_vxfes letter_isBlank_0 strings_Builder_String_vxfe κ fuelK]
 rfl
theorem Γ_does {R : Type} (tab : Tab) (ht : TabOk tab) (g : Nat) : Does (R := R) Tryz.prog (tabTy tyL) tab g ((C R letter_encoded_0 strings_Builder_WriteString_vxfes letter_isBlank_0 strings_Builder_String_vxfe).call g) := by
 refine does_of fun xs κ => ?_
 show DoesAt _ _ _ g xs κ (Γ R letter_encoded_0 strings_Builder_WriteString_vxfes letter_isBlank_0 strings_Builder_String_vxfe g xs κ)
 unfold Γ
 split
 ·split
  ·exact strings_Builder_WriteString_vxfes.does tab ht _ _ κ
  ·exact DoesAt.none
 ·split
  ·exact strings_Builder_String_vxfe.does tab ht _ κ
  ·exact DoesAt.none
 ·split
  ·exact letter_encoded_0.does tab ht _ κ
  ·exact DoesAt.none
 ·split
  ·exact letter_isBlank_0.does tab ht _ κ
  ·exact DoesAt.none
 ·exact DoesAt.none
theorem does {R : Type} (tab : Tab) (ht : TabOk tab) (a0 : ByteArray) (κ : List SV -> Option R) : DoesAt Tryz.prog (tabTy tyL) tab 19 [.str a0] κ (letter_Words_0 a0 (K0 κ)) := by
 intro r h w vs Rt Ra bs hpre
 exact runF_sound tyOk (Γ_does tab ht) (show Tryz.prog.funcs[19]? = some Tryz.f19 by kernel_rfl) (by kernel_rfl) ((run R κ a0).trans h) hpre
end letter_Words_0
namespace letter_one_0
abbrev K0 {R : Type} (κ : List SV -> Option R) (r0 : ByteArray) : Option R := κ [.str r0]
section
variable (R : Type) (c1 : letter_isSpace_0.F R) (c2 : strings_Builder_WriteByte_vxfei.F R) (c3 : strings_Builder_String_vxfe.F R)
def Γ (g : Nat) (xs : List SV) (κ : List SV -> Option R) : Option R :=
 match g with
 | 49 => (match xs with
  | [.vp 74 [.nos, .fr 5 a0 true]] => c3 a0 (strings_Builder_String_vxfe.K0 κ)
  | _ => none)
 | 110 => (match xs with
  | [.vp 74 [.nos, .fr 5 a0 true], .int .u8 a1] => c2 a0 a1 (strings_Builder_WriteByte_vxfei.K0 κ)
  | _ => none)
 | 116 => (match xs with
  | [.int .u8 a0] => c1 a0 (letter_isSpace_0.K0 κ)
  | _ => none)
 | _ => none
def h (n : Nat) : Option (List (Nat × List (Nat × Nat))) :=
 match n with
 | 4 => some [(0, [(0, 0)]), (3, [(1, 7)]), (4, [(0, 0)]), (7, [(0, 0)]), (8, [(0, 0)])]
 | _ => none
def C : Cfg R := ⟨tabTy tyL, Γ R c1 c2 c3, fun _ => false, h⟩
noncomputable abbrev P (i : Nat) : List Item := placeOf Tryz.f73 i
noncomputable def S (κ : List SV -> Option R) (J : List Item -> St -> Option R) (i : Nat) (s : St) : Option R := start (C R c1 c2 c3) J (retK (C R c1 c2 c3) Tryz.f73.results.toList (List.range 0) κ) 10000 (P i) s
noncomputable def G (κ : List SV -> Option R) (f : Nat) (p : List Item) (s : St) : Option R := goto (C R c1 c2 c3) (retK (C R c1 c2 c3) Tryz.f73.results.toList (List.range 0) κ) 10000 f p s
def s4 (x0 : ByteArray) (x1 : Bool) (x2 : Int) (x3 : Int) (x4 : List AV) : St := ⟨mkS 29 [(0, .str x0), (3, .ptr 319 0), (4, .bool x1), (7, .int .i64 x2), (8, .int .i64 x3)], [(319, .var 74 [.nos, .own 257]), (257, .row 5 x4 true)], top⟩
noncomputable abbrev q4 {R : Type} (J : List Item -> St -> Option R) (x0 : ByteArray) (x1 : Bool) (x2 : Int) (x3 : Int) (x4 : List AV) : Option R := J (P 4) (s4 x0 x1 x2 x3 x4)
theorem k4 (J : List Item -> St -> Option R) (κ : List SV -> Option R) (x0 : ByteArray) (x1 : Bool) (x2 : Int) (x3 : Int) (x4 : List AV) : S R c1 c2 c3 κ J 4 (s4 x0 x1 x2 x3 x4) = t4 c1 c2 c3 x0 x1 x2 x3 x4 (q4 J) (K0 κ) := by kernel_rfl
theorem k (κ : List SV -> Option R) (k : Nat) (a0 : ByteArray) : runF (C R c1 c2 c3) Tryz.f73 10000 k [.str a0] κ = letter_one_0.e c1 c2 c3 a0 (q4 (G R c1 c2 c3 κ k)) (K0 κ) := by kernel_rfl
theorem g4 (κ : List SV -> Option R) : ∀ (f : Nat), q4 (G R c1 c2 c3 κ f) = L4 c1 c2 c3 (K0 κ) f
 | 0 => rfl
 | f + 1 => by
  funext x0 x1 x2 x3 x4
  show S R c1 c2 c3 κ (G R c1 c2 c3 κ f) 4 _ = _
  rw [k4, g4 κ f]
  rfl
end
theorem run (R : Type) (κ : List SV -> Option R) (a0 : ByteArray) : runF (C R letter_isSpace_0 strings_Builder_WriteByte_vxfei strings_Builder_String_vxfe) Tryz.f73 10000 fuelK [.str a0] κ = letter_one_0 a0 (K0 κ) := by
 rw [k]
 rw [g4 R letter_isSpace_0 strings_Builder_WriteByte_vxfei strings_Builder_String_vxfe κ fuelK]
 rfl
theorem Γ_does {R : Type} (tab : Tab) (ht : TabOk tab) (g : Nat) : Does (R := R) Tryz.prog (tabTy tyL) tab g ((C R letter_isSpace_0 strings_Builder_WriteByte_vxfei strings_Builder_String_vxfe).call g) := by
 refine does_of fun xs κ => ?_
 show DoesAt _ _ _ g xs κ (Γ R letter_isSpace_0 strings_Builder_WriteByte_vxfei strings_Builder_String_vxfe g xs κ)
 unfold Γ
 split
 ·split
  ·exact strings_Builder_String_vxfe.does tab ht _ κ
  ·exact DoesAt.none
 ·split
  ·exact strings_Builder_WriteByte_vxfei.does tab ht _ _ κ
  ·exact DoesAt.none
 ·split
  ·exact letter_isSpace_0.does tab ht _ κ
  ·exact DoesAt.none
 ·exact DoesAt.none
theorem does {R : Type} (tab : Tab) (ht : TabOk tab) (a0 : ByteArray) (κ : List SV -> Option R) : DoesAt Tryz.prog (tabTy tyL) tab 73 [.str a0] κ (letter_one_0 a0 (K0 κ)) := by
 intro r h w vs Rt Ra bs hpre
 exact runF_sound tyOk (Γ_does tab ht) (show Tryz.prog.funcs[73]? = some Tryz.f73 by kernel_rfl) (by kernel_rfl) ((run R κ a0).trans h) hpre
end letter_one_0
namespace letter_rules_0
abbrev K0 {R : Type} (κ : List SV -> Option R) (r0 : Bool) (r1 : Bool) (r2 : Bool) (r3 : Bool) (r4 : Bool) (r5 : Bool) : Option R := κ [.agg [.fn 117, .bool r0, .fn 119, .bool r1, .fn 120, .bool r2, .fn 122, .bool r3, .fn 124, .bool r4, .fn 126, .bool r5]]
section
variable (R : Type)
def Γ (g : Nat) (xs : List SV) (κ : List SV -> Option R) : Option R :=
 match g with
 | _ => none
def h (n : Nat) : Option (List (Nat × List (Nat × Nat))) :=
 match n with
 | _ => none
def C : Cfg R := ⟨tabTy tyL, Γ R, fun _ => false, h⟩
theorem k (κ : List SV -> Option R) (k : Nat) : runF (C R) Tryz.f74 10000 k [] κ = letter_rules_0.e (K0 κ) := by kernel_rfl
end
theorem run (R : Type) (κ : List SV -> Option R) : runF (C R) Tryz.f74 10000 fuelK [] κ = letter_rules_0 (K0 κ) := by
 rw [k]
 rfl
theorem Γ_does {R : Type} (tab : Tab) (ht : TabOk tab) (g : Nat) : Does (R := R) Tryz.prog (tabTy tyL) tab g ((C R).call g) := by
 refine does_of fun xs κ => ?_
 show DoesAt _ _ _ g xs κ (Γ R g xs κ)
 unfold Γ
 split
 ·exact DoesAt.none
theorem does {R : Type} (tab : Tab) (ht : TabOk tab) (κ : List SV -> Option R) : DoesAt Tryz.prog (tabTy tyL) tab 74 [] κ (letter_rules_0 (K0 κ)) := by
 intro r h w vs Rt Ra bs hpre
 exact runF_sound tyOk (Γ_does tab ht) (show Tryz.prog.funcs[74]? = some Tryz.f74 by kernel_rfl) (by kernel_rfl) ((run R κ).trans h) hpre
end letter_rules_0
namespace letter_begin_0
abbrev K0 {R : Type} (κ : List SV -> Option R) (r0 : Bool) : Option R := κ [.bool r0]
section
variable (R : Type) (c1 : octet_Same_0.F R)
def Γ (g : Nat) (xs : List SV) (κ : List SV -> Option R) : Option R :=
 match g with
 | 46 => (match xs with
  | [.str a0, .str a1] => c1 a0 a1 (octet_Same_0.K0 κ)
  | _ => none)
 | _ => none
def h (n : Nat) : Option (List (Nat × List (Nat × Nat))) :=
 match n with
 | _ => none
def C : Cfg R := ⟨tabTy tyL, Γ R c1, fun _ => false, h⟩
theorem k (κ : List SV -> Option R) (k : Nat) (a0 : ByteArray) (a1 : ByteArray) : runF (C R c1) Tryz.f127 10000 k [.str a0, .str a1] κ = letter_begin_0.e c1 a0 a1 (K0 κ) := by kernel_rfl
end
theorem run (R : Type) (κ : List SV -> Option R) (a0 : ByteArray) (a1 : ByteArray) : runF (C R octet_Same_0) Tryz.f127 10000 fuelK [.str a0, .str a1] κ = letter_begin_0 a0 a1 (K0 κ) := by
 rw [k]
 rfl
theorem Γ_does {R : Type} (tab : Tab) (ht : TabOk tab) (g : Nat) : Does (R := R) Tryz.prog (tabTy tyL) tab g ((C R octet_Same_0).call g) := by
 refine does_of fun xs κ => ?_
 show DoesAt _ _ _ g xs κ (Γ R octet_Same_0 g xs κ)
 unfold Γ
 split
 ·split
  ·exact octet_Same_0.does tab ht _ _ κ
  ·exact DoesAt.none
 ·exact DoesAt.none
theorem does {R : Type} (tab : Tab) (ht : TabOk tab) (a0 : ByteArray) (a1 : ByteArray) (κ : List SV -> Option R) : DoesAt Tryz.prog (tabTy tyL) tab 127 [.str a0, .str a1] κ (letter_begin_0 a0 a1 (K0 κ)) := by
 intro r h w vs Rt Ra bs hpre
 exact runF_sound tyOk (Γ_does tab ht) (show Tryz.prog.funcs[127]? = some Tryz.f127 by kernel_rfl) (by kernel_rfl) ((run R κ a0 a1).trans h) hpre
end letter_begin_0
namespace strings_HasSuffix_0
abbrev K0 {R : Type} (κ : List SV -> Option R) (r0 : Bool) : Option R := κ [.bool r0]
section
variable (R : Type) (c1 : stringslite_HasSuffix_0.F R)
def Γ (g : Nat) (xs : List SV) (κ : List SV -> Option R) : Option R :=
 match g with
 | 100 => (match xs with
  | [.str a0, .str a1] => c1 a0 a1 (stringslite_HasSuffix_0.K0 κ)
  | _ => none)
 | _ => none
def h (n : Nat) : Option (List (Nat × List (Nat × Nat))) :=
 match n with
 | _ => none
def C : Cfg R := ⟨tabTy tyL, Γ R c1, fun _ => false, h⟩
theorem k (κ : List SV -> Option R) (k : Nat) (a0 : ByteArray) (a1 : ByteArray) : runF (C R c1) Tryz.f48 10000 k [.str a0, .str a1] κ = strings_HasSuffix_0.e c1 a0 a1 (K0 κ) := by kernel_rfl
end
theorem run (R : Type) (κ : List SV -> Option R) (a0 : ByteArray) (a1 : ByteArray) : runF (C R stringslite_HasSuffix_0) Tryz.f48 10000 fuelK [.str a0, .str a1] κ = strings_HasSuffix_0 a0 a1 (K0 κ) := by
 rw [k]
 rfl
theorem Γ_does {R : Type} (tab : Tab) (ht : TabOk tab) (g : Nat) : Does (R := R) Tryz.prog (tabTy tyL) tab g ((C R stringslite_HasSuffix_0).call g) := by
 refine does_of fun xs κ => ?_
 show DoesAt _ _ _ g xs κ (Γ R stringslite_HasSuffix_0 g xs κ)
 unfold Γ
 split
 ·split
  ·exact stringslite_HasSuffix_0.does tab ht _ _ κ
  ·exact DoesAt.none
 ·exact DoesAt.none
theorem does {R : Type} (tab : Tab) (ht : TabOk tab) (a0 : ByteArray) (a1 : ByteArray) (κ : List SV -> Option R) : DoesAt Tryz.prog (tabTy tyL) tab 48 [.str a0, .str a1] κ (strings_HasSuffix_0 a0 a1 (K0 κ)) := by
 intro r h w vs Rt Ra bs hpre
 exact runF_sound tyOk (Γ_does tab ht) (show Tryz.prog.funcs[48]? = some Tryz.f48 by kernel_rfl) (by kernel_rfl) ((run R κ a0 a1).trans h) hpre
end strings_HasSuffix_0
namespace letter_rules_6_0
abbrev K0 {R : Type} (κ : List SV -> Option R) (r0 : ByteArray) (r1 : Bool) : Option R := κ [.tup [.str r0, .bool r1]]
section
variable (R : Type) (c1 : letter_begin_0.F R) (c2 : strings_HasSuffix_0.F R)
def Γ (g : Nat) (xs : List SV) (κ : List SV -> Option R) : Option R :=
 match g with
 | 48 => (match xs with
  | [.str a0, .str a1] => c2 a0 a1 (strings_HasSuffix_0.K0 κ)
  | _ => none)
 | 127 => (match xs with
  | [.str a0, .str a1] => c1 a0 a1 (letter_begin_0.K0 κ)
  | _ => none)
 | _ => none
def h (n : Nat) : Option (List (Nat × List (Nat × Nat))) :=
 match n with
 | _ => none
def C : Cfg R := ⟨tabTy tyL, Γ R c1 c2, fun _ => false, h⟩
theorem k (κ : List SV -> Option R) (k : Nat) (a0 : ByteArray) : runF (C R c1 c2) Tryz.f126 10000 k [.str a0] κ = letter_rules_6_0.e c1 c2 a0 (K0 κ) := by kernel_rfl
end
theorem run (R : Type) (κ : List SV -> Option R) (a0 : ByteArray) : runF (C R letter_begin_0 strings_HasSuffix_0) Tryz.f126 10000 fuelK [.str a0] κ = letter_rules_6_0 a0 (K0 κ) := by
 rw [k]
 rfl
theorem Γ_does {R : Type} (tab : Tab) (ht : TabOk tab) (g : Nat) : Does (R := R) Tryz.prog (tabTy tyL) tab g ((C R letter_begin_0 strings_HasSuffix_0).call g) := by
 refine does_of fun xs κ => ?_
 show DoesAt _ _ _ g xs κ (Γ R letter_begin_0 strings_HasSuffix_0 g xs κ)
 unfold Γ
 split
 ·split
  ·exact strings_HasSuffix_0.does tab ht _ _ κ
  ·exact DoesAt.none
 ·split
  ·exact letter_begin_0.does tab ht _ _ κ
  ·exact DoesAt.none
 ·exact DoesAt.none
theorem does {R : Type} (tab : Tab) (ht : TabOk tab) (a0 : ByteArray) (κ : List SV -> Option R) : DoesAt Tryz.prog (tabTy tyL) tab 126 [.str a0] κ (letter_rules_6_0 a0 (K0 κ)) := by
 intro r h w vs Rt Ra bs hpre
 exact runF_sound tyOk (Γ_does tab ht) (show Tryz.prog.funcs[126]? = some Tryz.f126 by kernel_rfl) (by kernel_rfl) ((run R κ a0).trans h) hpre
end letter_rules_6_0
namespace utf8_ValidRune_0
abbrev K0 {R : Type} (κ : List SV -> Option R) (r0 : Bool) : Option R := κ [.bool r0]
section
variable (R : Type)
def Γ (g : Nat) (xs : List SV) (κ : List SV -> Option R) : Option R :=
 match g with
 | _ => none
def h (n : Nat) : Option (List (Nat × List (Nat × Nat))) :=
 match n with
 | _ => none
def C : Cfg R := ⟨tabTy tyL, Γ R, fun _ => false, h⟩
theorem k (κ : List SV -> Option R) (k : Nat) (a0 : Int) : runF (C R) Tryz.f160 10000 k [.int .i32 a0] κ = utf8_ValidRune_0.e a0 (K0 κ) := by kernel_rfl
end
theorem run (R : Type) (κ : List SV -> Option R) (a0 : Int) : runF (C R) Tryz.f160 10000 fuelK [.int .i32 a0] κ = utf8_ValidRune_0 a0 (K0 κ) := by
 rw [k]
 rfl
theorem Γ_does {R : Type} (tab : Tab) (ht : TabOk tab) (g : Nat) : Does (R := R) Tryz.prog (tabTy tyL) tab g ((C R).call g) := by
 refine does_of fun xs κ => ?_
 show DoesAt _ _ _ g xs κ (Γ R g xs κ)
 unfold Γ
 split
 ·exact DoesAt.none
theorem does {R : Type} (tab : Tab) (ht : TabOk tab) (a0 : Int) (κ : List SV -> Option R) : DoesAt Tryz.prog (tabTy tyL) tab 160 [.int .i32 a0] κ (utf8_ValidRune_0 a0 (K0 κ)) := by
 intro r h w vs Rt Ra bs hpre
 exact runF_sound tyOk (Γ_does tab ht) (show Tryz.prog.funcs[160]? = some Tryz.f160 by kernel_rfl) (by kernel_rfl) ((run R κ a0).trans h) hpre
end utf8_ValidRune_0
namespace bytealg_Cutover_0
abbrev K0 {R : Type} (κ : List SV -> Option R) (r0 : Int) : Option R := κ [.int .i64 r0]
section
variable (R : Type)
def Γ (g : Nat) (xs : List SV) (κ : List SV -> Option R) : Option R :=
 match g with
 | _ => none
def h (n : Nat) : Option (List (Nat × List (Nat × Nat))) :=
 match n with
 | _ => none
def C : Cfg R := ⟨tabTy tyL, Γ R, fun _ => false, h⟩
theorem k (κ : List SV -> Option R) (k : Nat) (a0 : Int) : runF (C R) Tryz.f152 10000 k [.int .i64 a0] κ = bytealg_Cutover_0.e a0 (K0 κ) := by kernel_rfl
end
theorem run (R : Type) (κ : List SV -> Option R) (a0 : Int) : runF (C R) Tryz.f152 10000 fuelK [.int .i64 a0] κ = bytealg_Cutover_0 a0 (K0 κ) := by
 rw [k]
 rfl
theorem Γ_does {R : Type} (tab : Tab) (ht : TabOk tab) (g : Nat) : Does (R := R) Tryz.prog (tabTy tyL) tab g ((C R).call g) := by
 refine does_of fun xs κ => ?_
 show DoesAt _ _ _ g xs κ (Γ R g xs κ)
 unfold Γ
 split
 ·exact DoesAt.none
theorem does {R : Type} (tab : Tab) (ht : TabOk tab) (a0 : Int) (κ : List SV -> Option R) : DoesAt Tryz.prog (tabTy tyL) tab 152 [.int .i64 a0] κ (bytealg_Cutover_0 a0 (K0 κ)) := by
 intro r h w vs Rt Ra bs hpre
 exact runF_sound tyOk (Γ_does tab ht) (show Tryz.prog.funcs[152]? = some Tryz.f152 by kernel_rfl) (by kernel_rfl) ((run R κ a0).trans h) hpre
end bytealg_Cutover_0
namespace strings_IndexRune_0
abbrev K0 {R : Type} (κ : List SV -> Option R) (r0 : Int) : Option R := κ [.int .i64 r0]
section
variable (R : Type) (c1 : strings_IndexByte_0.F R) (c2 : utf8_ValidRune_0.F R) (c3 : bytealg_Cutover_0.F R)
def Γ (g : Nat) (xs : List SV) (κ : List SV -> Option R) : Option R :=
 match g with
 | 40 => (match xs with
  | [.str a0, .int .u8 a1] => c1 a0 a1 (strings_IndexByte_0.K0 κ)
  | _ => none)
 | 152 => (match xs with
  | [.int .i64 a0] => c3 a0 (bytealg_Cutover_0.K0 κ)
  | _ => none)
 | 160 => (match xs with
  | [.int .i32 a0] => c2 a0 (utf8_ValidRune_0.K0 κ)
  | _ => none)
 | _ => none
def h (n : Nat) : Option (List (Nat × List (Nat × Nat))) :=
 match n with
 | 5 => some [(0, [(0, 0)]), (1, [(0, 0)]), (7, [(0, 0)]), (8, [(0, 0)]), (9, [(0, 0)]), (10, [(0, 0)])]
 | 12 => some [(0, [(0, 0)]), (1, [(0, 0)]), (7, [(0, 0)]), (8, [(0, 0)]), (9, [(0, 0)]), (10, [(0, 0)]), (12, [(0, 0)])]
 | 38 => some [(175, [(0, 0)])]
 | _ => none
def C : Cfg R := ⟨tabTy tyL, Γ R c1 c2 c3, fun _ => false, h⟩
noncomputable abbrev P (i : Nat) : List Item := placeOf Tryz.f155 i
noncomputable def S (κ : List SV -> Option R) (J : List Item -> St -> Option R) (i : Nat) (s : St) : Option R := start (C R c1 c2 c3) J (retK (C R c1 c2 c3) Tryz.f155.results.toList (List.range 0) κ) 10000 (P i) s
noncomputable def G (κ : List SV -> Option R) (f : Nat) (p : List Item) (s : St) : Option R := goto (C R c1 c2 c3) (retK (C R c1 c2 c3) Tryz.f155.results.toList (List.range 0) κ) 10000 f p s
def s5 (x0 : ByteArray) (x1 : Int) (x2 : ByteArray) (x3 : Int) (x4 : Int) (x5 : Int) : St := ⟨mkS 187 [(0, .str x0), (1, .int .i32 x1), (7, .str x2), (8, .int .i64 x3), (9, .int .i64 x4), (10, .int .i64 x5)], [], top⟩
def s12 (x0 : ByteArray) (x1 : Int) (x2 : ByteArray) (x3 : Int) (x4 : Int) (x5 : Int) (x6 : Int) : St := ⟨mkS 187 [(0, .str x0), (1, .int .i32 x1), (7, .str x2), (8, .int .i64 x3), (9, .int .i64 x4), (10, .int .i64 x5), (12, .int .i64 x6)], [], top⟩
def s38 (x0 : ByteArray) (x1 : Nat) : St := ⟨mkS 187 [(175, .ptr 11327 0)], [(11327, .sit x0 x1)], top⟩
noncomputable abbrev q5 {R : Type} (J : List Item -> St -> Option R) (x0 : ByteArray) (x1 : Int) (x2 : ByteArray) (x3 : Int) (x4 : Int) (x5 : Int) : Option R := J (P 5) (s5 x0 x1 x2 x3 x4 x5)
noncomputable abbrev q12 {R : Type} (J : List Item -> St -> Option R) (x0 : ByteArray) (x1 : Int) (x2 : ByteArray) (x3 : Int) (x4 : Int) (x5 : Int) (x6 : Int) : Option R := J (P 12) (s12 x0 x1 x2 x3 x4 x5 x6)
noncomputable abbrev q38 {R : Type} (J : List Item -> St -> Option R) (x0 : ByteArray) (x1 : Nat) : Option R := J (P 38) (s38 x0 x1)
theorem k5 (J : List Item -> St -> Option R) (κ : List SV -> Option R) (x0 : ByteArray) (x1 : Int) (x2 : ByteArray) (x3 : Int) (x4 : Int) (x5 : Int) : S R c1 c2 c3 κ J 5 (s5 x0 x1 x2 x3 x4 x5) = t5 c1 c2 c3 x0 x1 x2 x3 x4 x5 (q5 J) (q12 J) (q38 J) (K0 κ) := by kernel_rfl
theorem k12 (J : List Item -> St -> Option R) (κ : List SV -> Option R) (x0 : ByteArray) (x1 : Int) (x2 : ByteArray) (x3 : Int) (x4 : Int) (x5 : Int) (x6 : Int) : S R c1 c2 c3 κ J 12 (s12 x0 x1 x2 x3 x4 x5 x6) = t12 c1 c2 c3 x0 x1 x2 x3 x4 x5 x6 (q5 J) (q12 J) (q38 J) (K0 κ) := by kernel_rfl
theorem k38 (J : List Item -> St -> Option R) (κ : List SV -> Option R) (x0 : ByteArray) (x1 : Nat) : S R c1 c2 c3 κ J 38 (s38 x0 x1) = t38 c1 c2 c3 x0 x1 (q5 J) (q12 J) (q38 J) (K0 κ) := by kernel_rfl
theorem k (κ : List SV -> Option R) (k : Nat) (a0 : ByteArray) (a1 : Int) : runF (C R c1 c2 c3) Tryz.f155 10000 k [.str a0, .int .i32 a1] κ = strings_IndexRune_0.e c1 c2 c3 a0 a1 (q5 (G R c1 c2 c3 κ k)) (q12 (G R c1 c2 c3 κ k)) (q38 (G R c1 c2 c3 κ k)) (K0 κ) := by kernel_rfl
theorem gM5 (κ : List SV -> Option R) : ∀ (f : Nat), (q5 (G R c1 c2 c3 κ f) = L5 c1 c2 c3 (K0 κ) f) /\ (q12 (G R c1 c2 c3 κ f) = L12 c1 c2 c3 (K0 κ) f)
 | 0 => ⟨rfl, rfl⟩
 | f + 1 => by
  obtain ⟨ih0, ih1⟩ := gM5 κ f
  refine ⟨?_, ?_⟩
  ·funext x0 x1 x2 x3 x4 x5
   show S R c1 c2 c3 κ (G R c1 c2 c3 κ f) 5 _ = _
   rw [k5, ih1]
   rfl
  ·funext x0 x1 x2 x3 x4 x5 x6
   show S R c1 c2 c3 κ (G R c1 c2 c3 κ f) 12 _ = _
   rw [k12, ih0, ih1]
   rfl
theorem g5 (κ : List SV -> Option R) (f : Nat) : q5 (G R c1 c2 c3 κ f) = L5 c1 c2 c3 (K0 κ) f := (gM5 R c1 c2 c3 κ f).1
theorem g12 (κ : List SV -> Option R) (f : Nat) : q12 (G R c1 c2 c3 κ f) = L12 c1 c2 c3 (K0 κ) f := (gM5 R c1 c2 c3 κ f).2
theorem g38 (κ : List SV -> Option R) : ∀ (f : Nat), q38 (G R c1 c2 c3 κ f) = L38 c1 c2 c3 (K0 κ) f
 | 0 => rfl
 | f + 1 => by
  funext x0 x1
  show S R c1 c2 c3 κ (G R c1 c2 c3 κ f) 38 _ = _
  rw [k38, g38 κ f]
  rfl
end
theorem run (R : Type) (κ : List SV -> Option R) (a0 : ByteArray) (a1 : Int) : runF (C R strings_IndexByte_0 utf8_ValidRune_0 bytealg_Cutover_0) Tryz.f155 10000 fuelK [.str a0, .int .i32 a1] κ = strings_IndexRune_0 a0 a1 (K0 κ) := by
 rw [k]
 rw [g5 R strings_IndexByte_0 utf8_ValidRune_0 bytealg_Cutover_0 κ fuelK, g12 R strings_IndexByte_0 utf8_ValidRune_0 bytealg_Cutover_0 κ fuelK, g38 R strings_IndexByte_0 utf8_ValidRune_0 bytealg_Cutover_0 κ fuelK]
 rfl
theorem Γ_does {R : Type} (tab : Tab) (ht : TabOk tab) (g : Nat) : Does (R := R) Tryz.prog (tabTy tyL) tab g ((C R strings_IndexByte_0 utf8_ValidRune_0 bytealg_Cutover_0).call g) := by
 refine does_of fun xs κ => ?_
 show DoesAt _ _ _ g xs κ (Γ R strings_IndexByte_0 utf8_ValidRune_0 bytealg_Cutover_0 g xs κ)
 unfold Γ
 split
 ·split
  ·exact strings_IndexByte_0.does tab ht _ _ κ
  ·exact DoesAt.none
 ·split
  ·exact bytealg_Cutover_0.does tab ht _ κ
  ·exact DoesAt.none
 ·split
  ·exact utf8_ValidRune_0.does tab ht _ κ
  ·exact DoesAt.none
 ·exact DoesAt.none
theorem does {R : Type} (tab : Tab) (ht : TabOk tab) (a0 : ByteArray) (a1 : Int) (κ : List SV -> Option R) : DoesAt Tryz.prog (tabTy tyL) tab 155 [.str a0, .int .i32 a1] κ (strings_IndexRune_0 a0 a1 (K0 κ)) := by
 intro r h w vs Rt Ra bs hpre
 exact runF_sound tyOk (Γ_does tab ht) (show Tryz.prog.funcs[155]? = some Tryz.f155 by kernel_rfl) (by kernel_rfl) ((run R κ a0 a1).trans h) hpre
end strings_IndexRune_0
namespace strings_shouldUseASCIISet_0
abbrev K0 {R : Type} (κ : List SV -> Option R) (r0 : Bool) : Option R := κ [.bool r0]
section
variable (R : Type)
def Γ (g : Nat) (xs : List SV) (κ : List SV -> Option R) : Option R :=
 match g with
 | _ => none
def h (n : Nat) : Option (List (Nat × List (Nat × Nat))) :=
 match n with
 | _ => none
def C : Cfg R := ⟨tabTy tyL, Γ R, fun _ => false, h⟩
theorem k (κ : List SV -> Option R) (k : Nat) (a0 : Int) : runF (C R) Tryz.f158 10000 k [.int .i64 a0] κ = strings_shouldUseASCIISet_0.e a0 (K0 κ) := by kernel_rfl
end
theorem run (R : Type) (κ : List SV -> Option R) (a0 : Int) : runF (C R) Tryz.f158 10000 fuelK [.int .i64 a0] κ = strings_shouldUseASCIISet_0 a0 (K0 κ) := by
 rw [k]
 rfl
theorem Γ_does {R : Type} (tab : Tab) (ht : TabOk tab) (g : Nat) : Does (R := R) Tryz.prog (tabTy tyL) tab g ((C R).call g) := by
 refine does_of fun xs κ => ?_
 show DoesAt _ _ _ g xs κ (Γ R g xs κ)
 unfold Γ
 split
 ·exact DoesAt.none
theorem does {R : Type} (tab : Tab) (ht : TabOk tab) (a0 : Int) (κ : List SV -> Option R) : DoesAt Tryz.prog (tabTy tyL) tab 158 [.int .i64 a0] κ (strings_shouldUseASCIISet_0 a0 (K0 κ)) := by
 intro r h w vs Rt Ra bs hpre
 exact runF_sound tyOk (Γ_does tab ht) (show Tryz.prog.funcs[158]? = some Tryz.f158 by kernel_rfl) (by kernel_rfl) ((run R κ a0).trans h) hpre
end strings_shouldUseASCIISet_0
namespace strings_IndexAny_0
abbrev K0 {R : Type} (κ : List SV -> Option R) (r0 : Int) : Option R := κ [.int .i64 r0]
section
variable (R : Type) (c1 : strings_IndexRune_0.F R) (c2 : strings_shouldUseASCIISet_0.F R) (c3 : strings_makeASCIISet_0.F R) (c4 : strings_asciiSet_contains_hi.F R)
def Γ (g : Nat) (xs : List SV) (κ : List SV -> Option R) : Option R :=
 match g with
 | 91 => (match xs with
  | [.str a0] => c3 a0 (strings_makeASCIISet_0.K0 κ)
  | _ => none)
 | 132 => (match xs with
  | [.ra 4 256 a0 true, .int .u8 a1] => c4 a0 a1 (strings_asciiSet_contains_hi.K0 κ)
  | _ => none)
 | 155 => (match xs with
  | [.str a0, .int .i32 a1] => c1 a0 a1 (strings_IndexRune_0.K0 κ)
  | _ => none)
 | 158 => (match xs with
  | [.int .i64 a0] => c2 a0 (strings_shouldUseASCIISet_0.K0 κ)
  | _ => none)
 | _ => none
def h (n : Nat) : Option (List (Nat × List (Nat × Nat))) :=
 match n with
 | 12 => some [(0, [(0, 0)]), (6, [(0, 1)]), (8, [(0, 0)])]
 | 18 => some [(1, [(0, 0)]), (45, [(0, 0)])]
 | _ => none
def C : Cfg R := ⟨tabTy tyL, Γ R c1 c2 c3 c4, fun g => Nat.beq g 132, h⟩
noncomputable abbrev P (i : Nat) : List Item := placeOf Tryz.f150 i
noncomputable def S (κ : List SV -> Option R) (J : List Item -> St -> Option R) (i : Nat) (s : St) : Option R := start (C R c1 c2 c3 c4) J (retK (C R c1 c2 c3 c4) Tryz.f150.results.toList (List.range 0) κ) 10000 (P i) s
noncomputable def G (κ : List SV -> Option R) (f : Nat) (p : List Item) (s : St) : Option R := goto (C R c1 c2 c3 c4) (retK (C R c1 c2 c3 c4) Tryz.f150.results.toList (List.range 0) κ) 10000 f p s
def s12 (x0 : ByteArray) (x1 : List AV) (x2 : Int) : St := ⟨mkS 55 [(0, .str x0), (6, .ra 4 256 x1 true), (8, .int .i64 x2)], [], top⟩
def s18 (x0 : ByteArray) (x1 : ByteArray) (x2 : Nat) : St := ⟨mkS 55 [(1, .str x0), (45, .ptr 3007 0)], [(3007, .sit x1 x2)], top⟩
noncomputable abbrev q12 {R : Type} (J : List Item -> St -> Option R) (x0 : ByteArray) (x1 : List AV) (x2 : Int) : Option R := J (P 12) (s12 x0 x1 x2)
noncomputable abbrev q18 {R : Type} (J : List Item -> St -> Option R) (x0 : ByteArray) (x1 : ByteArray) (x2 : Nat) : Option R := J (P 18) (s18 x0 x1 x2)
theorem k12 (J : List Item -> St -> Option R) (κ : List SV -> Option R) (x0 : ByteArray) (x1 : List AV) (x2 : Int) : S R c1 c2 c3 c4 κ J 12 (s12 x0 x1 x2) = t12 c1 c2 c3 c4 x0 x1 x2 (q12 J) (q18 J) (K0 κ) := by kernel_rfl
theorem k18 (J : List Item -> St -> Option R) (κ : List SV -> Option R) (x0 : ByteArray) (x1 : ByteArray) (x2 : Nat) : S R c1 c2 c3 c4 κ J 18 (s18 x0 x1 x2) = t18 c1 c2 c3 c4 x0 x1 x2 (q12 J) (q18 J) (K0 κ) := by kernel_rfl
theorem k (κ : List SV -> Option R) (k : Nat) (a0 : ByteArray) (a1 : ByteArray) : runF (C R c1 c2 c3 c4) Tryz.f150 10000 k [.str a0, .str a1] κ = strings_IndexAny_0.e c1 c2 c3 c4 a0 a1 (q12 (G R c1 c2 c3 c4 κ k)) (q18 (G R c1 c2 c3 c4 κ k)) (K0 κ) := by kernel_rfl
theorem g12 (κ : List SV -> Option R) : ∀ (f : Nat), q12 (G R c1 c2 c3 c4 κ f) = L12 c1 c2 c3 c4 (K0 κ) f
 | 0 => rfl
 | f + 1 => by
  funext x0 x1 x2
  show S R c1 c2 c3 c4 κ (G R c1 c2 c3 c4 κ f) 12 _ = _
  rw [k12, g12 κ f]
  rfl
theorem g18 (κ : List SV -> Option R) : ∀ (f : Nat), q18 (G R c1 c2 c3 c4 κ f) = L18 c1 c2 c3 c4 (K0 κ) f
 | 0 => rfl
 | f + 1 => by
  funext x0 x1 x2
  show S R c1 c2 c3 c4 κ (G R c1 c2 c3 c4 κ f) 18 _ = _
  rw [k18, g18 κ f]
  rfl
end
theorem run (R : Type) (κ : List SV -> Option R) (a0 : ByteArray) (a1 : ByteArray) : runF (C R strings_IndexRune_0 strings_shouldUseASCIISet_0 strings_makeASCIISet_0 strings_asciiSet_contains_hi) Tryz.f150 10000 fuelK [.str a0, .str a1] κ = strings_IndexAny_0 a0 a1 (K0 κ) := by
 rw [k]
 rw [g12 R strings_IndexRune_0 strings_shouldUseASCIISet_0 strings_makeASCIISet_0 strings_asciiSet_contains_hi κ fuelK, g18 R strings_IndexRune_0 strings_shouldUseASCIISet_0 strings_makeASCIISet_0 strings_asciiSet_contains_hi κ fuelK]
 rfl
theorem Γ_does {R : Type} (tab : Tab) (ht : TabOk tab) (g : Nat) : Does (R := R) Tryz.prog (tabTy tyL) tab g ((C R strings_IndexRune_0 strings_shouldUseASCIISet_0 strings_makeASCIISet_0 strings_asciiSet_contains_hi).call g) := by
 refine does_of fun xs κ => ?_
 show DoesAt _ _ _ g xs κ (Γ R strings_IndexRune_0 strings_shouldUseASCIISet_0 strings_makeASCIISet_0 strings_asciiSet_contains_hi g xs κ)
 unfold Γ
 split
 ·split
  ·exact strings_makeASCIISet_0.does tab ht _ κ
  ·exact DoesAt.none
 ·split
  ·exact strings_asciiSet_contains_hi.does tab ht _ _ κ
  ·exact DoesAt.none
 ·split
  ·exact strings_IndexRune_0.does tab ht _ _ κ
  ·exact DoesAt.none
 ·split
  ·exact strings_shouldUseASCIISet_0.does tab ht _ κ
  ·exact DoesAt.none
 ·exact DoesAt.none
theorem does {R : Type} (tab : Tab) (ht : TabOk tab) (a0 : ByteArray) (a1 : ByteArray) (κ : List SV -> Option R) : DoesAt Tryz.prog (tabTy tyL) tab 150 [.str a0, .str a1] κ (strings_IndexAny_0 a0 a1 (K0 κ)) := by
 intro r h w vs Rt Ra bs hpre
 exact runF_sound tyOk (Γ_does tab ht) (show Tryz.prog.funcs[150]? = some Tryz.f150 by kernel_rfl) (by kernel_rfl) ((run R κ a0 a1).trans h) hpre
end strings_IndexAny_0
namespace letter_blanks_0
abbrev K0 {R : Type} (κ : List SV -> Option R) (r0 : Int) : Option R := κ [.int .i64 r0]
section
variable (R : Type)
def Γ (g : Nat) (xs : List SV) (κ : List SV -> Option R) : Option R :=
 match g with
 | _ => none
def h (n : Nat) : Option (List (Nat × List (Nat × Nat))) :=
 match n with
 | 1 => some [(0, [(0, 0)]), (1, [(0, 0)])]
 | _ => none
def C : Cfg R := ⟨tabTy tyL, Γ R, fun _ => false, h⟩
noncomputable abbrev P (i : Nat) : List Item := placeOf Tryz.f149 i
noncomputable def S (κ : List SV -> Option R) (J : List Item -> St -> Option R) (i : Nat) (s : St) : Option R := start (C R) J (retK (C R) Tryz.f149.results.toList (List.range 0) κ) 10000 (P i) s
noncomputable def G (κ : List SV -> Option R) (f : Nat) (p : List Item) (s : St) : Option R := goto (C R) (retK (C R) Tryz.f149.results.toList (List.range 0) κ) 10000 f p s
def s1 (x0 : ByteArray) (x1 : Int) : St := ⟨mkS 18 [(0, .str x0), (1, .int .i64 x1)], [], top⟩
noncomputable abbrev q1 {R : Type} (J : List Item -> St -> Option R) (x0 : ByteArray) (x1 : Int) : Option R := J (P 1) (s1 x0 x1)
theorem k1 (J : List Item -> St -> Option R) (κ : List SV -> Option R) (x0 : ByteArray) (x1 : Int) : S R κ J 1 (s1 x0 x1) = t1 x0 x1 (q1 J) (K0 κ) := by kernel_rfl
theorem k (κ : List SV -> Option R) (k : Nat) (a0 : ByteArray) (a1 : Int) : runF (C R) Tryz.f149 10000 k [.str a0, .int .i64 a1] κ = letter_blanks_0.e a0 a1 (q1 (G R κ k)) (K0 κ) := by kernel_rfl
theorem g1 (κ : List SV -> Option R) : ∀ (f : Nat), q1 (G R κ f) = L1 (K0 κ) f
 | 0 => rfl
 | f + 1 => by
  funext x0 x1
  show S R κ (G R κ f) 1 _ = _
  rw [k1, g1 κ f]
  rfl
end
theorem run (R : Type) (κ : List SV -> Option R) (a0 : ByteArray) (a1 : Int) : runF (C R) Tryz.f149 10000 fuelK [.str a0, .int .i64 a1] κ = letter_blanks_0 a0 a1 (K0 κ) := by
 rw [k]
 rw [g1 R κ fuelK]
 rfl
theorem Γ_does {R : Type} (tab : Tab) (ht : TabOk tab) (g : Nat) : Does (R := R) Tryz.prog (tabTy tyL) tab g ((C R).call g) := by
 refine does_of fun xs κ => ?_
 show DoesAt _ _ _ g xs κ (Γ R g xs κ)
 unfold Γ
 split
 ·exact DoesAt.none
theorem does {R : Type} (tab : Tab) (ht : TabOk tab) (a0 : ByteArray) (a1 : Int) (κ : List SV -> Option R) : DoesAt Tryz.prog (tabTy tyL) tab 149 [.str a0, .int .i64 a1] κ (letter_blanks_0 a0 a1 (K0 κ)) := by
 intro r h w vs Rt Ra bs hpre
 exact runF_sound tyOk (Γ_does tab ht) (show Tryz.prog.funcs[149]? = some Tryz.f149 by kernel_rfl) (by kernel_rfl) ((run R κ a0 a1).trans h) hpre
end letter_blanks_0
namespace letter_blob_0
abbrev K0 {R : Type} (κ : List SV -> Option R) (r0 : Int) : Option R := κ [.int .i64 r0]
section
variable (R : Type) (c1 : strings_IndexAny_0.F R) (c2 : letter_blanks_0.F R)
def Γ (g : Nat) (xs : List SV) (κ : List SV -> Option R) : Option R :=
 match g with
 | 149 => (match xs with
  | [.str a0, .int .i64 a1] => c2 a0 a1 (letter_blanks_0.K0 κ)
  | _ => none)
 | 150 => (match xs with
  | [.str a0, .str a1] => c1 a0 a1 (strings_IndexAny_0.K0 κ)
  | _ => none)
 | _ => none
def h (n : Nat) : Option (List (Nat × List (Nat × Nat))) :=
 match n with
 | _ => none
def C : Cfg R := ⟨tabTy tyL, Γ R c1 c2, fun _ => false, h⟩
theorem k (κ : List SV -> Option R) (k : Nat) (a0 : ByteArray) : runF (C R c1 c2) Tryz.f125 10000 k [.str a0] κ = letter_blob_0.e c1 c2 a0 (K0 κ) := by kernel_rfl
end
theorem run (R : Type) (κ : List SV -> Option R) (a0 : ByteArray) : runF (C R strings_IndexAny_0 letter_blanks_0) Tryz.f125 10000 fuelK [.str a0] κ = letter_blob_0 a0 (K0 κ) := by
 rw [k]
 rfl
theorem Γ_does {R : Type} (tab : Tab) (ht : TabOk tab) (g : Nat) : Does (R := R) Tryz.prog (tabTy tyL) tab g ((C R strings_IndexAny_0 letter_blanks_0).call g) := by
 refine does_of fun xs κ => ?_
 show DoesAt _ _ _ g xs κ (Γ R strings_IndexAny_0 letter_blanks_0 g xs κ)
 unfold Γ
 split
 ·split
  ·exact letter_blanks_0.does tab ht _ _ κ
  ·exact DoesAt.none
 ·split
  ·exact strings_IndexAny_0.does tab ht _ _ κ
  ·exact DoesAt.none
 ·exact DoesAt.none
theorem does {R : Type} (tab : Tab) (ht : TabOk tab) (a0 : ByteArray) (κ : List SV -> Option R) : DoesAt Tryz.prog (tabTy tyL) tab 125 [.str a0] κ (letter_blob_0 a0 (K0 κ)) := by
 intro r h w vs Rt Ra bs hpre
 exact runF_sound tyOk (Γ_does tab ht) (show Tryz.prog.funcs[125]? = some Tryz.f125 by kernel_rfl) (by kernel_rfl) ((run R κ a0).trans h) hpre
end letter_blob_0
namespace letter_rules_5_0
abbrev K0 {R : Type} (κ : List SV -> Option R) (r0 : ByteArray) (r1 : Bool) : Option R := κ [.tup [.str r0, .bool r1]]
section
variable (R : Type) (c1 : letter_blob_0.F R)
def Γ (g : Nat) (xs : List SV) (κ : List SV -> Option R) : Option R :=
 match g with
 | 125 => (match xs with
  | [.str a0] => c1 a0 (letter_blob_0.K0 κ)
  | _ => none)
 | _ => none
def h (n : Nat) : Option (List (Nat × List (Nat × Nat))) :=
 match n with
 | _ => none
def C : Cfg R := ⟨tabTy tyL, Γ R c1, fun _ => false, h⟩
theorem k (κ : List SV -> Option R) (k : Nat) (a0 : ByteArray) : runF (C R c1) Tryz.f124 10000 k [.str a0] κ = letter_rules_5_0.e c1 a0 (K0 κ) := by kernel_rfl
end
theorem run (R : Type) (κ : List SV -> Option R) (a0 : ByteArray) : runF (C R letter_blob_0) Tryz.f124 10000 fuelK [.str a0] κ = letter_rules_5_0 a0 (K0 κ) := by
 rw [k]
 rfl
theorem Γ_does {R : Type} (tab : Tab) (ht : TabOk tab) (g : Nat) : Does (R := R) Tryz.prog (tabTy tyL) tab g ((C R letter_blob_0).call g) := by
 refine does_of fun xs κ => ?_
 show DoesAt _ _ _ g xs κ (Γ R letter_blob_0 g xs κ)
 unfold Γ
 split
 ·split
  ·exact letter_blob_0.does tab ht _ κ
  ·exact DoesAt.none
 ·exact DoesAt.none
theorem does {R : Type} (tab : Tab) (ht : TabOk tab) (a0 : ByteArray) (κ : List SV -> Option R) : DoesAt Tryz.prog (tabTy tyL) tab 124 [.str a0] κ (letter_rules_5_0 a0 (K0 κ)) := by
 intro r h w vs Rt Ra bs hpre
 exact runF_sound tyOk (Γ_does tab ht) (show Tryz.prog.funcs[124]? = some Tryz.f124 by kernel_rfl) (by kernel_rfl) ((run R κ a0).trans h) hpre
end letter_rules_5_0
namespace letter_answered_0
abbrev K0 {R : Type} (κ : List SV -> Option R) (r0 : Int) : Option R := κ [.int .i64 r0]
section
variable (R : Type) (c1 : letter_blob_0.F R) (c2 : letter_begin_0.F R) (c3 : letter_blanks_0.F R)
def Γ (g : Nat) (xs : List SV) (κ : List SV -> Option R) : Option R :=
 match g with
 | 125 => (match xs with
  | [.str a0] => c1 a0 (letter_blob_0.K0 κ)
  | _ => none)
 | 127 => (match xs with
  | [.str a0, .str a1] => c2 a0 a1 (letter_begin_0.K0 κ)
  | _ => none)
 | 149 => (match xs with
  | [.str a0, .int .i64 a1] => c3 a0 a1 (letter_blanks_0.K0 κ)
  | _ => none)
 | _ => none
def h (n : Nat) : Option (List (Nat × List (Nat × Nat))) :=
 match n with
 | 3 => some [(0, [(0, 0)]), (3, [(0, 0)]), (4, [(0, 0)])]
 | 7 => some [(0, [(0, 0)]), (3, [(0, 0)]), (19, [(0, 0)]), (20, [(0, 0)]), (21, [(0, 0)])]
 | _ => none
def C : Cfg R := ⟨tabTy tyL, Γ R c1 c2 c3, fun _ => false, h⟩
noncomputable abbrev P (i : Nat) : List Item := placeOf Tryz.f123 i
noncomputable def S (κ : List SV -> Option R) (J : List Item -> St -> Option R) (i : Nat) (s : St) : Option R := start (C R c1 c2 c3) J (retK (C R c1 c2 c3) Tryz.f123.results.toList (List.range 0) κ) 10000 (P i) s
noncomputable def G (κ : List SV -> Option R) (f : Nat) (p : List Item) (s : St) : Option R := goto (C R c1 c2 c3) (retK (C R c1 c2 c3) Tryz.f123.results.toList (List.range 0) κ) 10000 f p s
def s3 (x0 : ByteArray) (x1 : Int) (x2 : Int) : St := ⟨mkS 56 [(0, .str x0), (3, .int .i64 x1), (4, .int .i64 x2)], [], top⟩
def s7 (x0 : ByteArray) (x1 : Int) (x2 : Int) (x3 : Int) (x4 : List AV) : St := ⟨mkS 56 [(0, .str x0), (3, .int .i64 x1), (19, .own 1280), (20, .int .i64 x2), (21, .int .i64 x3)], [(1280, .row 9 x4 true)], top⟩
noncomputable abbrev q3 {R : Type} (J : List Item -> St -> Option R) (x0 : ByteArray) (x1 : Int) (x2 : Int) : Option R := J (P 3) (s3 x0 x1 x2)
noncomputable abbrev q7 {R : Type} (J : List Item -> St -> Option R) (x0 : ByteArray) (x1 : Int) (x2 : Int) (x3 : Int) (x4 : List AV) : Option R := J (P 7) (s7 x0 x1 x2 x3 x4)
theorem k3 (J : List Item -> St -> Option R) (κ : List SV -> Option R) (x0 : ByteArray) (x1 : Int) (x2 : Int) : S R c1 c2 c3 κ J 3 (s3 x0 x1 x2) = t3 c1 c2 c3 x0 x1 x2 (q3 J) (q7 J) (K0 κ) := by kernel_rfl
theorem k7 (J : List Item -> St -> Option R) (κ : List SV -> Option R) (x0 : ByteArray) (x1 : Int) (x2 : Int) (x3 : Int) (x4 : List AV) : S R c1 c2 c3 κ J 7 (s7 x0 x1 x2 x3 x4) = t7 c1 c2 c3 x0 x1 x2 x3 x4 (q3 J) (q7 J) (K0 κ) := by kernel_rfl
theorem k (κ : List SV -> Option R) (k : Nat) (a0 : ByteArray) : runF (C R c1 c2 c3) Tryz.f123 10000 k [.str a0] κ = letter_answered_0.e c1 c2 c3 a0 (q3 (G R c1 c2 c3 κ k)) (q7 (G R c1 c2 c3 κ k)) (K0 κ) := by kernel_rfl
theorem g7 (κ : List SV -> Option R) : ∀ (f : Nat), q7 (G R c1 c2 c3 κ f) = L7 c1 c2 c3 (K0 κ) f
 | 0 => rfl
 | f + 1 => by
  funext x0 x1 x2 x3 x4
  show S R c1 c2 c3 κ (G R c1 c2 c3 κ f) 7 _ = _
  rw [k7, g7 κ f]
  rfl
theorem g3 (κ : List SV -> Option R) : ∀ (f : Nat), q3 (G R c1 c2 c3 κ f) = L3 c1 c2 c3 (K0 κ) f
 | 0 => rfl
 | f + 1 => by
  funext x0 x1 x2
  show S R c1 c2 c3 κ (G R c1 c2 c3 κ f) 3 _ = _
  rw [k3, g3 κ f, g7 R c1 c2 c3 κ f]
  rfl
end
theorem run (R : Type) (κ : List SV -> Option R) (a0 : ByteArray) : runF (C R letter_blob_0 letter_begin_0 letter_blanks_0) Tryz.f123 10000 fuelK [.str a0] κ = letter_answered_0 a0 (K0 κ) := by
 rw [k]
 rw [g3 R letter_blob_0 letter_begin_0 letter_blanks_0 κ fuelK, g7 R letter_blob_0 letter_begin_0 letter_blanks_0 κ fuelK]
 rfl
theorem Γ_does {R : Type} (tab : Tab) (ht : TabOk tab) (g : Nat) : Does (R := R) Tryz.prog (tabTy tyL) tab g ((C R letter_blob_0 letter_begin_0 letter_blanks_0).call g) := by
 refine does_of fun xs κ => ?_
 show DoesAt _ _ _ g xs κ (Γ R letter_blob_0 letter_begin_0 letter_blanks_0 g xs κ)
 unfold Γ
 split
 ·split
  ·exact letter_blob_0.does tab ht _ κ
  ·exact DoesAt.none
 ·split
  ·exact letter_begin_0.does tab ht _ _ κ
  ·exact DoesAt.none
 ·split
  ·exact letter_blanks_0.does tab ht _ _ κ
  ·exact DoesAt.none
 ·exact DoesAt.none
theorem does {R : Type} (tab : Tab) (ht : TabOk tab) (a0 : ByteArray) (κ : List SV -> Option R) : DoesAt Tryz.prog (tabTy tyL) tab 123 [.str a0] κ (letter_answered_0 a0 (K0 κ)) := by
 intro r h w vs Rt Ra bs hpre
 exact runF_sound tyOk (Γ_does tab ht) (show Tryz.prog.funcs[123]? = some Tryz.f123 by kernel_rfl) (by kernel_rfl) ((run R κ a0).trans h) hpre
end letter_answered_0
namespace letter_rules_4_0
abbrev K0 {R : Type} (κ : List SV -> Option R) (r0 : ByteArray) (r1 : Bool) : Option R := κ [.tup [.str r0, .bool r1]]
section
variable (R : Type) (c1 : letter_answered_0.F R)
def Γ (g : Nat) (xs : List SV) (κ : List SV -> Option R) : Option R :=
 match g with
 | 123 => (match xs with
  | [.str a0] => c1 a0 (letter_answered_0.K0 κ)
  | _ => none)
 | _ => none
def h (n : Nat) : Option (List (Nat × List (Nat × Nat))) :=
 match n with
 | _ => none
def C : Cfg R := ⟨tabTy tyL, Γ R c1, fun _ => false, h⟩
theorem k (κ : List SV -> Option R) (k : Nat) (a0 : ByteArray) : runF (C R c1) Tryz.f122 10000 k [.str a0] κ = letter_rules_4_0.e c1 a0 (K0 κ) := by kernel_rfl
end
theorem run (R : Type) (κ : List SV -> Option R) (a0 : ByteArray) : runF (C R letter_answered_0) Tryz.f122 10000 fuelK [.str a0] κ = letter_rules_4_0 a0 (K0 κ) := by
 rw [k]
 rfl
theorem Γ_does {R : Type} (tab : Tab) (ht : TabOk tab) (g : Nat) : Does (R := R) Tryz.prog (tabTy tyL) tab g ((C R letter_answered_0).call g) := by
 refine does_of fun xs κ => ?_
 show DoesAt _ _ _ g xs κ (Γ R letter_answered_0 g xs κ)
 unfold Γ
 split
 ·split
  ·exact letter_answered_0.does tab ht _ κ
  ·exact DoesAt.none
 ·exact DoesAt.none
theorem does {R : Type} (tab : Tab) (ht : TabOk tab) (a0 : ByteArray) (κ : List SV -> Option R) : DoesAt Tryz.prog (tabTy tyL) tab 122 [.str a0] κ (letter_rules_4_0 a0 (K0 κ)) := by
 intro r h w vs Rt Ra bs hpre
 exact runF_sound tyOk (Γ_does tab ht) (show Tryz.prog.funcs[122]? = some Tryz.f122 by kernel_rfl) (by kernel_rfl) ((run R κ a0).trans h) hpre
end letter_rules_4_0
namespace stringslite_CutPrefix_0
abbrev K0 {R : Type} (κ : List SV -> Option R) (r0 : ByteArray) (r1 : Bool) : Option R := κ [.tup [.str r0, .bool r1]]
section
variable (R : Type) (c1 : stringslite_HasPrefix_0.F R)
def Γ (g : Nat) (xs : List SV) (κ : List SV -> Option R) : Option R :=
 match g with
 | 129 => (match xs with
  | [.str a0, .str a1] => c1 a0 a1 (stringslite_HasPrefix_0.K0 κ)
  | _ => none)
 | _ => none
def h (n : Nat) : Option (List (Nat × List (Nat × Nat))) :=
 match n with
 | _ => none
def C : Cfg R := ⟨tabTy tyL, Γ R c1, fun _ => false, h⟩
theorem k (κ : List SV -> Option R) (k : Nat) (a0 : ByteArray) (a1 : ByteArray) : runF (C R c1) Tryz.f148 10000 k [.str a0, .str a1] κ = stringslite_CutPrefix_0.e c1 a0 a1 (K0 κ) := by kernel_rfl
end
theorem run (R : Type) (κ : List SV -> Option R) (a0 : ByteArray) (a1 : ByteArray) : runF (C R stringslite_HasPrefix_0) Tryz.f148 10000 fuelK [.str a0, .str a1] κ = stringslite_CutPrefix_0 a0 a1 (K0 κ) := by
 rw [k]
 rfl
theorem Γ_does {R : Type} (tab : Tab) (ht : TabOk tab) (g : Nat) : Does (R := R) Tryz.prog (tabTy tyL) tab g ((C R stringslite_HasPrefix_0).call g) := by
 refine does_of fun xs κ => ?_
 show DoesAt _ _ _ g xs κ (Γ R stringslite_HasPrefix_0 g xs κ)
 unfold Γ
 split
 ·split
  ·exact stringslite_HasPrefix_0.does tab ht _ _ κ
  ·exact DoesAt.none
 ·exact DoesAt.none
theorem does {R : Type} (tab : Tab) (ht : TabOk tab) (a0 : ByteArray) (a1 : ByteArray) (κ : List SV -> Option R) : DoesAt Tryz.prog (tabTy tyL) tab 148 [.str a0, .str a1] κ (stringslite_CutPrefix_0 a0 a1 (K0 κ)) := by
 intro r h w vs Rt Ra bs hpre
 exact runF_sound tyOk (Γ_does tab ht) (show Tryz.prog.funcs[148]? = some Tryz.f148 by kernel_rfl) (by kernel_rfl) ((run R κ a0 a1).trans h) hpre
end stringslite_CutPrefix_0
namespace strings_CutPrefix_0
abbrev K0 {R : Type} (κ : List SV -> Option R) (r0 : ByteArray) (r1 : Bool) : Option R := κ [.tup [.str r0, .bool r1]]
section
variable (R : Type) (c1 : stringslite_CutPrefix_0.F R)
def Γ (g : Nat) (xs : List SV) (κ : List SV -> Option R) : Option R :=
 match g with
 | 148 => (match xs with
  | [.str a0, .str a1] => c1 a0 a1 (stringslite_CutPrefix_0.K0 κ)
  | _ => none)
 | _ => none
def h (n : Nat) : Option (List (Nat × List (Nat × Nat))) :=
 match n with
 | _ => none
def C : Cfg R := ⟨tabTy tyL, Γ R c1, fun _ => false, h⟩
theorem k (κ : List SV -> Option R) (k : Nat) (a0 : ByteArray) (a1 : ByteArray) : runF (C R c1) Tryz.f121 10000 k [.str a0, .str a1] κ = strings_CutPrefix_0.e c1 a0 a1 (K0 κ) := by kernel_rfl
end
theorem run (R : Type) (κ : List SV -> Option R) (a0 : ByteArray) (a1 : ByteArray) : runF (C R stringslite_CutPrefix_0) Tryz.f121 10000 fuelK [.str a0, .str a1] κ = strings_CutPrefix_0 a0 a1 (K0 κ) := by
 rw [k]
 rfl
theorem Γ_does {R : Type} (tab : Tab) (ht : TabOk tab) (g : Nat) : Does (R := R) Tryz.prog (tabTy tyL) tab g ((C R stringslite_CutPrefix_0).call g) := by
 refine does_of fun xs κ => ?_
 show DoesAt _ _ _ g xs κ (Γ R stringslite_CutPrefix_0 g xs κ)
 unfold Γ
 split
 ·split
  ·exact stringslite_CutPrefix_0.does tab ht _ _ κ
  ·exact DoesAt.none
 ·exact DoesAt.none
theorem does {R : Type} (tab : Tab) (ht : TabOk tab) (a0 : ByteArray) (a1 : ByteArray) (κ : List SV -> Option R) : DoesAt Tryz.prog (tabTy tyL) tab 121 [.str a0, .str a1] κ (strings_CutPrefix_0 a0 a1 (K0 κ)) := by
 intro r h w vs Rt Ra bs hpre
 exact runF_sound tyOk (Γ_does tab ht) (show Tryz.prog.funcs[121]? = some Tryz.f121 by kernel_rfl) (by kernel_rfl) ((run R κ a0 a1).trans h) hpre
end strings_CutPrefix_0
namespace letter_rules_3_0
abbrev K0 {R : Type} (κ : List SV -> Option R) (r0 : ByteArray) (r1 : Bool) : Option R := κ [.tup [.str r0, .bool r1]]
section
variable (R : Type) (c1 : strings_CutPrefix_0.F R)
def Γ (g : Nat) (xs : List SV) (κ : List SV -> Option R) : Option R :=
 match g with
 | 121 => (match xs with
  | [.str a0, .str a1] => c1 a0 a1 (strings_CutPrefix_0.K0 κ)
  | _ => none)
 | _ => none
def h (n : Nat) : Option (List (Nat × List (Nat × Nat))) :=
 match n with
 | _ => none
def C : Cfg R := ⟨tabTy tyL, Γ R c1, fun _ => false, h⟩
theorem k (κ : List SV -> Option R) (k : Nat) (a0 : ByteArray) : runF (C R c1) Tryz.f120 10000 k [.str a0] κ = letter_rules_3_0.e c1 a0 (K0 κ) := by kernel_rfl
end
theorem run (R : Type) (κ : List SV -> Option R) (a0 : ByteArray) : runF (C R strings_CutPrefix_0) Tryz.f120 10000 fuelK [.str a0] κ = letter_rules_3_0 a0 (K0 κ) := by
 rw [k]
 rfl
theorem Γ_does {R : Type} (tab : Tab) (ht : TabOk tab) (g : Nat) : Does (R := R) Tryz.prog (tabTy tyL) tab g ((C R strings_CutPrefix_0).call g) := by
 refine does_of fun xs κ => ?_
 show DoesAt _ _ _ g xs κ (Γ R strings_CutPrefix_0 g xs κ)
 unfold Γ
 split
 ·split
  ·exact strings_CutPrefix_0.does tab ht _ _ κ
  ·exact DoesAt.none
 ·exact DoesAt.none
theorem does {R : Type} (tab : Tab) (ht : TabOk tab) (a0 : ByteArray) (κ : List SV -> Option R) : DoesAt Tryz.prog (tabTy tyL) tab 120 [.str a0] κ (letter_rules_3_0 a0 (K0 κ)) := by
 intro r h w vs Rt Ra bs hpre
 exact runF_sound tyOk (Γ_does tab ht) (show Tryz.prog.funcs[120]? = some Tryz.f120 by kernel_rfl) (by kernel_rfl) ((run R κ a0).trans h) hpre
end letter_rules_3_0
namespace letter_rules_2_0
abbrev K0 {R : Type} (κ : List SV -> Option R) (r0 : ByteArray) (r1 : Bool) : Option R := κ [.tup [.str r0, .bool r1]]
section
variable (R : Type) (c1 : octet_Same_0.F R)
def Γ (g : Nat) (xs : List SV) (κ : List SV -> Option R) : Option R :=
 match g with
 | 46 => (match xs with
  | [.str a0, .str a1] => c1 a0 a1 (octet_Same_0.K0 κ)
  | _ => none)
 | _ => none
def h (n : Nat) : Option (List (Nat × List (Nat × Nat))) :=
 match n with
 | _ => none
def C : Cfg R := ⟨tabTy tyL, Γ R c1, fun _ => false, h⟩
theorem k (κ : List SV -> Option R) (k : Nat) (a0 : ByteArray) : runF (C R c1) Tryz.f119 10000 k [.str a0] κ = letter_rules_2_0.e c1 a0 (K0 κ) := by kernel_rfl
end
theorem run (R : Type) (κ : List SV -> Option R) (a0 : ByteArray) : runF (C R octet_Same_0) Tryz.f119 10000 fuelK [.str a0] κ = letter_rules_2_0 a0 (K0 κ) := by
 rw [k]
 rfl
theorem Γ_does {R : Type} (tab : Tab) (ht : TabOk tab) (g : Nat) : Does (R := R) Tryz.prog (tabTy tyL) tab g ((C R octet_Same_0).call g) := by
 refine does_of fun xs κ => ?_
 show DoesAt _ _ _ g xs κ (Γ R octet_Same_0 g xs κ)
 unfold Γ
 split
 ·split
  ·exact octet_Same_0.does tab ht _ _ κ
  ·exact DoesAt.none
 ·exact DoesAt.none
theorem does {R : Type} (tab : Tab) (ht : TabOk tab) (a0 : ByteArray) (κ : List SV -> Option R) : DoesAt Tryz.prog (tabTy tyL) tab 119 [.str a0] κ (letter_rules_2_0 a0 (K0 κ)) := by
 intro r h w vs Rt Ra bs hpre
 exact runF_sound tyOk (Γ_does tab ht) (show Tryz.prog.funcs[119]? = some Tryz.f119 by kernel_rfl) (by kernel_rfl) ((run R κ a0).trans h) hpre
end letter_rules_2_0
namespace stringslite_CutSuffix_0
abbrev K0 {R : Type} (κ : List SV -> Option R) (r0 : ByteArray) (r1 : Bool) : Option R := κ [.tup [.str r0, .bool r1]]
section
variable (R : Type) (c1 : stringslite_HasSuffix_0.F R)
def Γ (g : Nat) (xs : List SV) (κ : List SV -> Option R) : Option R :=
 match g with
 | 100 => (match xs with
  | [.str a0, .str a1] => c1 a0 a1 (stringslite_HasSuffix_0.K0 κ)
  | _ => none)
 | _ => none
def h (n : Nat) : Option (List (Nat × List (Nat × Nat))) :=
 match n with
 | _ => none
def C : Cfg R := ⟨tabTy tyL, Γ R c1, fun _ => false, h⟩
theorem k (κ : List SV -> Option R) (k : Nat) (a0 : ByteArray) (a1 : ByteArray) : runF (C R c1) Tryz.f147 10000 k [.str a0, .str a1] κ = stringslite_CutSuffix_0.e c1 a0 a1 (K0 κ) := by kernel_rfl
end
theorem run (R : Type) (κ : List SV -> Option R) (a0 : ByteArray) (a1 : ByteArray) : runF (C R stringslite_HasSuffix_0) Tryz.f147 10000 fuelK [.str a0, .str a1] κ = stringslite_CutSuffix_0 a0 a1 (K0 κ) := by
 rw [k]
 rfl
theorem Γ_does {R : Type} (tab : Tab) (ht : TabOk tab) (g : Nat) : Does (R := R) Tryz.prog (tabTy tyL) tab g ((C R stringslite_HasSuffix_0).call g) := by
 refine does_of fun xs κ => ?_
 show DoesAt _ _ _ g xs κ (Γ R stringslite_HasSuffix_0 g xs κ)
 unfold Γ
 split
 ·split
  ·exact stringslite_HasSuffix_0.does tab ht _ _ κ
  ·exact DoesAt.none
 ·exact DoesAt.none
theorem does {R : Type} (tab : Tab) (ht : TabOk tab) (a0 : ByteArray) (a1 : ByteArray) (κ : List SV -> Option R) : DoesAt Tryz.prog (tabTy tyL) tab 147 [.str a0, .str a1] κ (stringslite_CutSuffix_0 a0 a1 (K0 κ)) := by
 intro r h w vs Rt Ra bs hpre
 exact runF_sound tyOk (Γ_does tab ht) (show Tryz.prog.funcs[147]? = some Tryz.f147 by kernel_rfl) (by kernel_rfl) ((run R κ a0 a1).trans h) hpre
end stringslite_CutSuffix_0
namespace strings_CutSuffix_0
abbrev K0 {R : Type} (κ : List SV -> Option R) (r0 : ByteArray) (r1 : Bool) : Option R := κ [.tup [.str r0, .bool r1]]
section
variable (R : Type) (c1 : stringslite_CutSuffix_0.F R)
def Γ (g : Nat) (xs : List SV) (κ : List SV -> Option R) : Option R :=
 match g with
 | 147 => (match xs with
  | [.str a0, .str a1] => c1 a0 a1 (stringslite_CutSuffix_0.K0 κ)
  | _ => none)
 | _ => none
def h (n : Nat) : Option (List (Nat × List (Nat × Nat))) :=
 match n with
 | _ => none
def C : Cfg R := ⟨tabTy tyL, Γ R c1, fun _ => false, h⟩
theorem k (κ : List SV -> Option R) (k : Nat) (a0 : ByteArray) (a1 : ByteArray) : runF (C R c1) Tryz.f118 10000 k [.str a0, .str a1] κ = strings_CutSuffix_0.e c1 a0 a1 (K0 κ) := by kernel_rfl
end
theorem run (R : Type) (κ : List SV -> Option R) (a0 : ByteArray) (a1 : ByteArray) : runF (C R stringslite_CutSuffix_0) Tryz.f118 10000 fuelK [.str a0, .str a1] κ = strings_CutSuffix_0 a0 a1 (K0 κ) := by
 rw [k]
 rfl
theorem Γ_does {R : Type} (tab : Tab) (ht : TabOk tab) (g : Nat) : Does (R := R) Tryz.prog (tabTy tyL) tab g ((C R stringslite_CutSuffix_0).call g) := by
 refine does_of fun xs κ => ?_
 show DoesAt _ _ _ g xs κ (Γ R stringslite_CutSuffix_0 g xs κ)
 unfold Γ
 split
 ·split
  ·exact stringslite_CutSuffix_0.does tab ht _ _ κ
  ·exact DoesAt.none
 ·exact DoesAt.none
theorem does {R : Type} (tab : Tab) (ht : TabOk tab) (a0 : ByteArray) (a1 : ByteArray) (κ : List SV -> Option R) : DoesAt Tryz.prog (tabTy tyL) tab 118 [.str a0, .str a1] κ (strings_CutSuffix_0 a0 a1 (K0 κ)) := by
 intro r h w vs Rt Ra bs hpre
 exact runF_sound tyOk (Γ_does tab ht) (show Tryz.prog.funcs[118]? = some Tryz.f118 by kernel_rfl) (by kernel_rfl) ((run R κ a0 a1).trans h) hpre
end strings_CutSuffix_0
namespace letter_rules_1_0
abbrev K0 {R : Type} (κ : List SV -> Option R) (r0 : ByteArray) (r1 : Bool) : Option R := κ [.tup [.str r0, .bool r1]]
section
variable (R : Type) (c1 : strings_CutSuffix_0.F R)
def Γ (g : Nat) (xs : List SV) (κ : List SV -> Option R) : Option R :=
 match g with
 | 118 => (match xs with
  | [.str a0, .str a1] => c1 a0 a1 (strings_CutSuffix_0.K0 κ)
  | _ => none)
 | _ => none
def h (n : Nat) : Option (List (Nat × List (Nat × Nat))) :=
 match n with
 | _ => none
def C : Cfg R := ⟨tabTy tyL, Γ R c1, fun _ => false, h⟩
theorem k (κ : List SV -> Option R) (k : Nat) (a0 : ByteArray) : runF (C R c1) Tryz.f117 10000 k [.str a0] κ = letter_rules_1_0.e c1 a0 (K0 κ) := by kernel_rfl
end
theorem run (R : Type) (κ : List SV -> Option R) (a0 : ByteArray) : runF (C R strings_CutSuffix_0) Tryz.f117 10000 fuelK [.str a0] κ = letter_rules_1_0 a0 (K0 κ) := by
 rw [k]
 rfl
theorem Γ_does {R : Type} (tab : Tab) (ht : TabOk tab) (g : Nat) : Does (R := R) Tryz.prog (tabTy tyL) tab g ((C R strings_CutSuffix_0).call g) := by
 refine does_of fun xs κ => ?_
 show DoesAt _ _ _ g xs κ (Γ R strings_CutSuffix_0 g xs κ)
 unfold Γ
 split
 ·split
  ·exact strings_CutSuffix_0.does tab ht _ _ κ
  ·exact DoesAt.none
 ·exact DoesAt.none
theorem does {R : Type} (tab : Tab) (ht : TabOk tab) (a0 : ByteArray) (κ : List SV -> Option R) : DoesAt Tryz.prog (tabTy tyL) tab 117 [.str a0] κ (letter_rules_1_0 a0 (K0 κ)) := by
 intro r h w vs Rt Ra bs hpre
 exact runF_sound tyOk (Γ_does tab ht) (show Tryz.prog.funcs[117]? = some Tryz.f117 by kernel_rfl) (by kernel_rfl) ((run R κ a0).trans h) hpre
end letter_rules_1_0
namespace letter_Base_0
abbrev K0 {R : Type} (κ : List SV -> Option R) (r0 : ByteArray) (r1 : Bool) : Option R := κ [.tup [.str r0, .bool r1]]
section
variable (R : Type) (c1 : letter_Words_0.F R) (c2 : letter_one_0.F R) (c3 : letter_rules_0.F R) (c4 : letter_rules_6_0.F R) (c5 : letter_rules_5_0.F R) (c6 : letter_rules_4_0.F R) (c7 : letter_rules_3_0.F R) (c8 : letter_rules_2_0.F R) (c9 : letter_rules_1_0.F R)
def Γ (g : Nat) (xs : List SV) (κ : List SV -> Option R) : Option R :=
 match g with
 | 19 => (match xs with
  | [.str a0] => c1 a0 (letter_Words_0.K0 κ)
  | _ => none)
 | 73 => (match xs with
  | [.str a0] => c2 a0 (letter_one_0.K0 κ)
  | _ => none)
 | 74 => (match xs with
  | [] => c3 (letter_rules_0.K0 κ)
  | _ => none)
 | 117 => (match xs with
  | [.str a0] => c9 a0 (letter_rules_1_0.K0 κ)
  | _ => none)
 | 119 => (match xs with
  | [.str a0] => c8 a0 (letter_rules_2_0.K0 κ)
  | _ => none)
 | 120 => (match xs with
  | [.str a0] => c7 a0 (letter_rules_3_0.K0 κ)
  | _ => none)
 | 122 => (match xs with
  | [.str a0] => c6 a0 (letter_rules_4_0.K0 κ)
  | _ => none)
 | 124 => (match xs with
  | [.str a0] => c5 a0 (letter_rules_5_0.K0 κ)
  | _ => none)
 | 126 => (match xs with
  | [.str a0] => c4 a0 (letter_rules_6_0.K0 κ)
  | _ => none)
 | _ => none
def h (n : Nat) : Option (List (Nat × List (Nat × Nat))) :=
 match n with
 | 3 => some [(4, [(0, 0)]), (5, [(0, 0)])]
 | 4 => some [(4, [(0, 0)]), (5, [(0, 0)]), (13, [(0, 0)]), (14, [(0, 0)])]
 | _ => none
def C : Cfg R := ⟨tabTy tyL, Γ R c1 c2 c3 c4 c5 c6 c7 c8 c9, fun _ => false, h⟩
noncomputable abbrev P (i : Nat) : List Item := placeOf Tryz.f25 i
noncomputable def S (κ : List SV -> Option R) (J : List Item -> St -> Option R) (i : Nat) (s : St) : Option R := start (C R c1 c2 c3 c4 c5 c6 c7 c8 c9) J (retK (C R c1 c2 c3 c4 c5 c6 c7 c8 c9) Tryz.f25.results.toList (List.range 0) κ) 10000 (P i) s
noncomputable def G (κ : List SV -> Option R) (f : Nat) (p : List Item) (s : St) : Option R := goto (C R c1 c2 c3 c4 c5 c6 c7 c8 c9) (retK (C R c1 c2 c3 c4 c5 c6 c7 c8 c9) Tryz.f25.results.toList (List.range 0) κ) 10000 f p s
def s3 (x0 : ByteArray) (x1 : Bool) : St := ⟨mkS 34 [(4, .str x0), (5, .bool x1)], [], top⟩
def s4 (x0 : ByteArray) (x1 : Bool) (x2 : Bool) (x3 : Bool) (x4 : Bool) (x5 : Bool) (x6 : Bool) (x7 : Bool) (x8 : Int) : St := ⟨mkS 34 [(4, .str x0), (5, .bool x1), (13, .agg [.fn 117, .bool x2, .fn 119, .bool x3, .fn 120, .bool x4, .fn 122, .bool x5, .fn 124, .bool x6, .fn 126, .bool x7]), (14, .int .i64 x8)], [], top⟩
noncomputable abbrev q3 {R : Type} (J : List Item -> St -> Option R) (x0 : ByteArray) (x1 : Bool) : Option R := J (P 3) (s3 x0 x1)
noncomputable abbrev q4 {R : Type} (J : List Item -> St -> Option R) (x0 : ByteArray) (x1 : Bool) (x2 : Bool) (x3 : Bool) (x4 : Bool) (x5 : Bool) (x6 : Bool) (x7 : Bool) (x8 : Int) : Option R := J (P 4) (s4 x0 x1 x2 x3 x4 x5 x6 x7 x8)
theorem k3 (J : List Item -> St -> Option R) (κ : List SV -> Option R) (x0 : ByteArray) (x1 : Bool) : S R c1 c2 c3 c4 c5 c6 c7 c8 c9 κ J 3 (s3 x0 x1) = t3 c1 c2 c3 c4 c5 c6 c7 c8 c9 x0 x1 (q3 J) (q4 J) (K0 κ) := by kernel_rfl
theorem k4 (J : List Item -> St -> Option R) (κ : List SV -> Option R) (x0 : ByteArray) (x1 : Bool) (x2 : Bool) (x3 : Bool) (x4 : Bool) (x5 : Bool) (x6 : Bool) (x7 : Bool) (x8 : Int) : S R c1 c2 c3 c4 c5 c6 c7 c8 c9 κ J 4 (s4 x0 x1 x2 x3 x4 x5 x6 x7 x8) = t4 c1 c2 c3 c4 c5 c6 c7 c8 c9 x0 x1 x2 x3 x4 x5 x6 x7 x8 (q3 J) (q4 J) (K0 κ) := by kernel_rfl
theorem k (κ : List SV -> Option R) (k : Nat) (a0 : ByteArray) : runF (C R c1 c2 c3 c4 c5 c6 c7 c8 c9) Tryz.f25 10000 k [.str a0] κ = letter_Base_0.e c1 c2 c3 c4 c5 c6 c7 c8 c9 a0 (q3 (G R c1 c2 c3 c4 c5 c6 c7 c8 c9 κ k)) (q4 (G R c1 c2 c3 c4 c5 c6 c7 c8 c9 κ k)) (K0 κ) := by kernel_rfl
theorem gM3 (κ : List SV -> Option R) : ∀ (f : Nat), (q3 (G R c1 c2 c3 c4 c5 c6 c7 c8 c9 κ f) = L3 c1 c2 c3 c4 c5 c6 c7 c8 c9 (K0 κ) f) /\ (q4 (G R c1 c2 c3 c4 c5 c6 c7 c8 c9 κ f) = L4 c1 c2 c3 c4 c5 c6 c7 c8 c9 (K0 κ) f)
 | 0 => ⟨rfl, rfl⟩
 | f + 1 => by
  obtain ⟨ih0, ih1⟩ := gM3 κ f
  refine ⟨?_, ?_⟩
  ·funext x0 x1
   show S R c1 c2 c3 c4 c5 c6 c7 c8 c9 κ (G R c1 c2 c3 c4 c5 c6 c7 c8 c9 κ f) 3 _ = _
   rw [k3, ih1]
   rfl
  ·funext x0 x1 x2 x3 x4 x5 x6 x7 x8
   show S R c1 c2 c3 c4 c5 c6 c7 c8 c9 κ (G R c1 c2 c3 c4 c5 c6 c7 c8 c9 κ f) 4 _ = _
   rw [k4, ih0, ih1]
   rfl
theorem g3 (κ : List SV -> Option R) (f : Nat) : q3 (G R c1 c2 c3 c4 c5 c6 c7 c8 c9 κ f) = L3 c1 c2 c3 c4 c5 c6 c7 c8 c9 (K0 κ) f := (gM3 R c1 c2 c3 c4 c5 c6 c7 c8 c9 κ f).1
theorem g4 (κ : List SV -> Option R) (f : Nat) : q4 (G R c1 c2 c3 c4 c5 c6 c7 c8 c9 κ f) = L4 c1 c2 c3 c4 c5 c6 c7 c8 c9 (K0 κ) f := (gM3 R c1 c2 c3 c4 c5 c6 c7 c8 c9 κ f).2
end
theorem run (R : Type) (κ : List SV -> Option R) (a0 : ByteArray) : runF (C R letter_Words_0 letter_one_0 letter_rules_0 letter_rules_6_0 letter_rules_5_0 letter_rules_4_0 letter_rules_3_0 letter_rules_2_0 letter_rules_1_0) Tryz.f25 10000 fuelK [.str a0] κ = letter_Base_0 a0 (K0 κ) := by
 rw [k]
 rw [g3 R letter_Words_0 letter_one_0 letter_rules_0 letter_rules_6_0 letter_rules_5_0 letter_rules_4_0 letter_rules_3_0 letter_rules_2_0 letter_rules_1_0 κ fuelK, g4 R letter_Words_0 letter_one_0 letter_rules_0 letter_rules_6_0 letter_rules_5_0 letter_rules_4_0 letter_rules_3_0 letter_rules_2_0 letter_rules_1_0 κ fuelK]
 rfl
theorem Γ_does {R : Type} (tab : Tab) (ht : TabOk tab) (g : Nat) : Does (R := R) Tryz.prog (tabTy tyL) tab g ((C R letter_Words_0 letter_one_0 letter_rules_0 letter_rules_6_0 letter_rules_5_0 letter_rules_4_0 letter_rules_3_0 letter_rules_2_0 letter_rules_1_0).call g) := by
 refine does_of fun xs κ => ?_
 show DoesAt _ _ _ g xs κ (Γ R letter_Words_0 letter_one_0 letter_rules_0 letter_rules_6_0 letter_rules_5_0 letter_rules_4_0 letter_rules_3_0 letter_rules_2_0 letter_rules_1_0 g xs κ)
 unfold Γ
 split
 ·split
  ·exact letter_Words_0.does tab ht _ κ
  ·exact DoesAt.none
 ·split
  ·exact letter_one_0.does tab ht _ κ
  ·exact DoesAt.none
 ·split
  ·exact letter_rules_0.does tab ht κ
  ·exact DoesAt.none
 ·split
  ·exact letter_rules_1_0.does tab ht _ κ
  ·exact DoesAt.none
 ·split
  ·exact letter_rules_2_0.does tab ht _ κ
  ·exact DoesAt.none
 ·split
  ·exact letter_rules_3_0.does tab ht _ κ
  ·exact DoesAt.none
 ·split
  ·exact letter_rules_4_0.does tab ht _ κ
  ·exact DoesAt.none
 ·split
  ·exact letter_rules_5_0.does tab ht _ κ
  ·exact DoesAt.none
 ·split
  ·exact letter_rules_6_0.does tab ht _ κ
  ·exact DoesAt.none
 ·exact DoesAt.none
theorem does {R : Type} (tab : Tab) (ht : TabOk tab) (a0 : ByteArray) (κ : List SV -> Option R) : DoesAt Tryz.prog (tabTy tyL) tab 25 [.str a0] κ (letter_Base_0 a0 (K0 κ)) := by
 intro r h w vs Rt Ra bs hpre
 exact runF_sound tyOk (Γ_does tab ht) (show Tryz.prog.funcs[25]? = some Tryz.f25 by kernel_rfl) (by kernel_rfl) ((run R κ a0).trans h) hpre
end letter_Base_0
end Go.Proofs.Ab
