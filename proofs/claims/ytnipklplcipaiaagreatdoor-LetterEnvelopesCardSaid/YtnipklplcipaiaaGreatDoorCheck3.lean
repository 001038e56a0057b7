/- Each plain function is what a call of its Go function does, checked by the kernel (no condition but what its checks ask). -/
import Derived.Test.YtnipklplcipaiaaGreatDoorSeat
import Derived.Test.YtnipklplcipaiaaGreatDoorText
import Derived.Test.YtnipklplcipaiaaGreatDoorCheck2
namespace Go.Proofs.Ab
set_option linter.unusedVariables false
set_option maxRecDepth 4000
open Go Go.Proofs
set_option maxRecDepth 100000
namespace letter_Pick_sbn
abbrev K0 {R : Type} (κ : List SV -> Option R) (r0 : ByteArray) : Option R := κ [.str r0]
section
variable (R : Type) (c1 : letter_rows_0.F R) (c2 : strings_Builder_WriteString_vxfes.F R) (c3 : strings_Builder_String_vxfe.F R) (c4 : strings_HasSuffix_0.F R)
def Γ (g : Nat) (xs : List SV) (κ : List SV -> Option R) : Option R :=
 match g with
 | 38 => (match xs with
  | [.str a0] => c1 a0 (letter_rows_0.K0 κ)
  | _ => none)
 | 47 => (match xs with
  | [.vp 74 [.nos, .fr 5 a0 true], .str a1] => c2 a0 a1 (strings_Builder_WriteString_vxfes.K0 κ)
  | _ => none)
 | 48 => (match xs with
  | [.str a0, .str a1] => c4 a0 a1 (strings_HasSuffix_0.K0 κ)
  | _ => none)
 | 49 => (match xs with
  | [.vp 74 [.nos, .fr 5 a0 true]] => c3 a0 (strings_Builder_String_vxfe.K0 κ)
  | _ => none)
 | _ => none
def h (n : Nat) : Option (List (Nat × List (Nat × Nat))) :=
 match n with
 | 3 => some [(1, [(0, 0)]), (2, [(0, 0)]), (7, [(1, 7)]), (14, [(0, 0)]), (15, [(0, 0)]), (16, [(0, 0)])]
 | 7 => some [(1, [(0, 0)]), (2, [(0, 0)]), (7, [(0, 0)]), (9, [(0, 0)]), (10, [(0, 0)]), (14, [(0, 0)]), (15, [(0, 0)]), (16, [(0, 0)]), (20, [(0, 0)]), (21, [(0, 0)]), (22, [(0, 0)])]
 | _ => none
def C : Cfg R := ⟨tabTy tyL, Γ R c1 c2 c3 c4, fun _ => false, h⟩
noncomputable abbrev P (i : Nat) : List Item := placeOf Tryz.f15 i
noncomputable def S (κ : List SV -> Option R) (J : List Item -> St -> Option R) (i : Nat) (s : St) : Option R := start (C R c1 c2 c3 c4) J (retK (C R c1 c2 c3 c4) Tryz.f15.results.toList (List.range 0) κ) 10000 (P i) s
noncomputable def G (κ : List SV -> Option R) (f : Nat) (p : List Item) (s : St) : Option R := goto (C R c1 c2 c3 c4) (retK (C R c1 c2 c3 c4) Tryz.f15.results.toList (List.range 0) κ) 10000 f p s
def s3 (x0 : Bool) (x1 : Int) (x2 : Int) (x3 : List AV) (x4 : List AV) : St := ⟨mkS 52 [(1, .bool x0), (2, .nil), (7, .ptr 575 0), (14, .own 960), (15, .int .i64 x1), (16, .int .i64 x2)], [(575, .var 74 [.nos, .own 513]), (513, .row 5 x3 true), (960, .row 65 x4 true)], top⟩
def s7 (x0 : Bool) (x1 : Bool) (x2 : Int) (x3 : Int) (x4 : Int) (x5 : Int) (x6 : List AV) (x7 : ByteArray) (x8 : ByteArray) (x9 : Bool) (x10 : Bool) (x11 : List AV) : St := ⟨mkS 52 [(1, .bool x0), (2, .nil), (7, .ptr 575 0), (9, .ptr 703 0), (10, .bool x1), (14, .own 960), (15, .int .i64 x2), (16, .int .i64 x3), (20, .nil), (21, .int .i64 x4), (22, .int .i64 x5)], [(575, .var 74 [.nos, .own 513]), (513, .row 5 x6 true), (703, .var 65 [.str x7, .str x8, .bool x9, .bool x10]), (960, .row 65 x11 true)], top⟩
noncomputable abbrev q3 {R : Type} (J : List Item -> St -> Option R) (x0 : Bool) (x1 : Int) (x2 : Int) (x3 : List AV) (x4 : List AV) : Option R := J (P 3) (s3 x0 x1 x2 x3 x4)
noncomputable abbrev q7 {R : Type} (J : List Item -> St -> Option R) (x0 : Bool) (x1 : Bool) (x2 : Int) (x3 : Int) (x4 : Int) (x5 : Int) (x6 : List AV) (x7 : ByteArray) (x8 : ByteArray) (x9 : Bool) (x10 : Bool) (x11 : List AV) : Option R := J (P 7) (s7 x0 x1 x2 x3 x4 x5 x6 x7 x8 x9 x10 x11)
theorem k3 (J : List Item -> St -> Option R) (κ : List SV -> Option R) (x0 : Bool) (x1 : Int) (x2 : Int) (x3 : List AV) (x4 : List AV) : S R c1 c2 c3 c4 κ J 3 (s3 x0 x1 x2 x3 x4) = t3 c1 c2 c3 c4 x0 x1 x2 x3 x4 (q3 J) (q7 J) (K0 κ) := by kernel_rfl
theorem k7 (J : List Item -> St -> Option R) (κ : List SV -> Option R) (x0 : Bool) (x1 : Bool) (x2 : Int) (x3 : Int) (x4 : Int) (x5 : Int) (x6 : List AV) (x7 : ByteArray) (x8 : ByteArray) (x9 : Bool) (x10 : Bool) (x11 : List AV) : S R c1 c2 c3 c4 κ J 7 (s7 x0 x1 x2 x3 x4 x5 x6 x7 x8 x9 x10 x11) = t7 c1 c2 c3 c4 x0 x1 x2 x3 x4 x5 x6 x7 x8 x9 x10 x11 (q3 J) (q7 J) (K0 κ) := by kernel_rfl
theorem k (κ : List SV -> Option R) (k : Nat) (a0 : ByteArray) (a1 : Bool) : runF (C R c1 c2 c3 c4) Tryz.f15 10000 k [.str a0, .bool a1, .nil] κ = letter_Pick_sbn.e c1 c2 c3 c4 a0 a1 (q3 (G R c1 c2 c3 c4 κ k)) (q7 (G R c1 c2 c3 c4 κ k)) (K0 κ) := by kernel_rfl
theorem gM3 (κ : List SV -> Option R) : ∀ (f : Nat), (q3 (G R c1 c2 c3 c4 κ f) = L3 c1 c2 c3 c4 (K0 κ) f) /\ (q7 (G R c1 c2 c3 c4 κ f) = L7 c1 c2 c3 c4 (K0 κ) f)
 | 0 => ⟨rfl, rfl⟩
 | f + 1 => by
  obtain ⟨ih0, ih1⟩ := gM3 κ f
  refine ⟨?_, ?_⟩
  ·funext x0 x1 x2 x3 x4
   show S R c1 c2 c3 c4 κ (G R c1 c2 c3 c4 κ f) 3 _ = _
   rw [k3, ih1]
   rfl
  ·funext x0 x1 x2 x3 x4 x5 x6 x7 x8 x9 x10 x11
   show S R c1 c2 c3 c4 κ (G R c1 c2 c3 c4 κ f) 7 _ = _
   rw [k7, ih0]
   rfl
theorem g3 (κ : List SV -> Option R) (f : Nat) : q3 (G R c1 c2 c3 c4 κ f) = L3 c1 c2 c3 c4 (K0 κ) f := (gM3 R c1 c2 c3 c4 κ f).1
theorem g7 (κ : List SV -> Option R) (f : Nat) : q7 (G R c1 c2 c3 c4 κ f) = L7 c1 c2 c3 c4 (K0 κ) f := (gM3 R c1 c2 c3 c4 κ f).2
end
theorem run (R : Type) (κ : List SV -> Option R) (a0 : ByteArray) (a1 : Bool) : runF (C R letter_rows_0 strings_Builder_WriteString_vxfes strings_Builder_String_vxfe strings_HasSuffix_0) Tryz.f15 10000 fuelK [.str a0, .bool a1, .nil] κ = letter_Pick_sbn a0 a1 (K0 κ) := by
 rw [k]
 rw [g3 R letter_rows_0 strings_Builder_WriteString_vxfes strings_Builder_String_vxfe strings_HasSuffix_0 κ fuelK, g7 R letter_rows_0 strings_Builder_WriteString_vxfes strings_Builder_String_vxfe strings_HasSuffix_0 κ fuelK]
 rfl
theorem Γ_does {R : Type} (tab : Tab) (ht : TabOk tab) (g : Nat) : Does (R := R) Tryz.prog (tabTy tyL) tab g ((C R letter_rows_0 strings_Builder_WriteString_vxfes strings_Builder_String_vxfe strings_HasSuffix_0).call g) := by
 refine does_of fun xs κ => ?_
 show DoesAt _ _ _ g xs κ (Γ R letter_rows_0 strings_Builder_WriteString_vxfes strings_Builder_String_vxfe strings_HasSuffix_0 g xs κ)
 unfold Γ
 split
 ·split
  ·exact letter_rows_0.does tab ht _ κ
  ·exact DoesAt.none
 ·split
  ·exact strings_Builder_WriteString_vxfes.does tab ht _ _ κ
  ·exact DoesAt.none
 ·split
  ·exact strings_HasSuffix_0.does tab ht _ _ κ
  ·exact DoesAt.none
 ·split
  ·exact strings_Builder_String_vxfe.does tab ht _ κ
  ·exact DoesAt.none
 ·exact DoesAt.none
theorem does {R : Type} (tab : Tab) (ht : TabOk tab) (a0 : ByteArray) (a1 : Bool) (κ : List SV -> Option R) : DoesAt Tryz.prog (tabTy tyL) tab 15 [.str a0, .bool a1, .nil] κ (letter_Pick_sbn a0 a1 (K0 κ)) := by
 intro r h w vs Rt Ra bs hpre
 exact runF_sound tyOk (Γ_does tab ht) (show Tryz.prog.funcs[15]? = some Tryz.f15 by kernel_rfl) (by kernel_rfl) ((run R κ a0 a1).trans h) hpre
end letter_Pick_sbn
namespace postbaglaw5_known_0
abbrev K0 {R : Type} (κ : List SV -> Option R) (r0 : Bool) : Option R := κ [.bool r0]
section
variable (R : Type) (c1 : letter_Split_0.F R) (c2 : letter_Fields_0.F R) (c3 : letter_Addresses_0.F R) (c4 : letter_Ids_0.F R) (c5 : letter_Base_0.F R) (c6 : letter_Get_os.F R) (c7 : letter_Pick_sbn.F R)
def Γ (g : Nat) (xs : List SV) (κ : List SV -> Option R) : Option R :=
 match g with
 | 11 => (match xs with
  | [.str a0] => c2 a0 (letter_Fields_0.K0 κ)
  | _ => none)
 | 15 => (match xs with
  | [.str a0, .bool a1, .nil] => c7 a0 a1 (letter_Pick_sbn.K0 κ)
  | _ => none)
 | 20 => (match xs with
  | [.str a0] => c3 a0 (letter_Addresses_0.K0 κ)
  | _ => none)
 | 23 => (match xs with
  | [.str a0] => c4 a0 (letter_Ids_0.K0 κ)
  | _ => none)
 | 25 => (match xs with
  | [.str a0] => c5 a0 (letter_Base_0.K0 κ)
  | _ => none)
 | 44 => (match xs with
  | [.str a0] => c1 a0 (letter_Split_0.K0 κ)
  | _ => none)
 | 45 => (match xs with
  | [.ro 42 a0 false, .str a1] => c6 a0 a1 (letter_Get_os.K0 κ)
  | _ => none)
 | _ => none
def h (n : Nat) : Option (List (Nat × List (Nat × Nat))) :=
 match n with
 | _ => none
def C : Cfg R := ⟨tabTy tyL, Γ R c1 c2 c3 c4 c5 c6 c7, fun _ => false, h⟩
theorem k (κ : List SV -> Option R) (k : Nat) : runF (C R c1 c2 c3 c4 c5 c6 c7) Tryz.f13 10000 k [] κ = postbaglaw5_known_0.e c1 c2 c3 c4 c5 c6 c7 (K0 κ) := by kernel_rfl
end
theorem run (R : Type) (κ : List SV -> Option R) : runF (C R letter_Split_0 letter_Fields_0 letter_Addresses_0 letter_Ids_0 letter_Base_0 letter_Get_os letter_Pick_sbn) Tryz.f13 10000 fuelK [] κ = postbaglaw5_known_0 (K0 κ) := by
 rw [k]
 rfl
theorem Γ_does {R : Type} (tab : Tab) (ht : TabOk tab) (g : Nat) : Does (R := R) Tryz.prog (tabTy tyL) tab g ((C R letter_Split_0 letter_Fields_0 letter_Addresses_0 letter_Ids_0 letter_Base_0 letter_Get_os letter_Pick_sbn).call g) := by
 refine does_of fun xs κ => ?_
 show DoesAt _ _ _ g xs κ (Γ R letter_Split_0 letter_Fields_0 letter_Addresses_0 letter_Ids_0 letter_Base_0 letter_Get_os letter_Pick_sbn g xs κ)
 unfold Γ
 split
 ·split
  ·exact letter_Fields_0.does tab ht _ κ
  ·exact DoesAt.none
 ·split
  ·exact letter_Pick_sbn.does tab ht _ _ κ
  ·exact DoesAt.none
 ·split
  ·exact letter_Addresses_0.does tab ht _ κ
  ·exact DoesAt.none
 ·split
  ·exact letter_Ids_0.does tab ht _ κ
  ·exact DoesAt.none
 ·split
  ·exact letter_Base_0.does tab ht _ κ
  ·exact DoesAt.none
 ·split
  ·exact letter_Split_0.does tab ht _ κ
  ·exact DoesAt.none
 ·split
  ·exact letter_Get_os.does tab ht _ _ κ
  ·exact DoesAt.none
 ·exact DoesAt.none
theorem does {R : Type} (tab : Tab) (ht : TabOk tab) (κ : List SV -> Option R) : DoesAt Tryz.prog (tabTy tyL) tab 13 [] κ (postbaglaw5_known_0 (K0 κ)) := by
 intro r h w vs Rt Ra bs hpre
 exact runF_sound tyOk (Γ_does tab ht) (show Tryz.prog.funcs[13]? = some Tryz.f13 by kernel_rfl) (by kernel_rfl) ((run R κ).trans h) hpre
end postbaglaw5_known_0
namespace postbagref1_Lower_0
abbrev K0 {R : Type} (κ : List SV -> Option R) (r0 : ByteArray) : Option R := κ [.str r0]
section
variable (R : Type)
def Γ (g : Nat) (xs : List SV) (κ : List SV -> Option R) : Option R :=
 match g with
 | _ => none
def h (n : Nat) : Option (List (Nat × List (Nat × Nat))) :=
 match n with
 | 3 => some [(0, [(0, 0)]), (3, [(0, 7)]), (4, [(0, 0)])]
 | _ => none
def C : Cfg R := ⟨tabTy tyL, Γ R, fun _ => false, h⟩
noncomputable abbrev P (i : Nat) : List Item := placeOf Tryz.f101 i
noncomputable def S (κ : List SV -> Option R) (J : List Item -> St -> Option R) (i : Nat) (s : St) : Option R := start (C R) J (retK (C R) Tryz.f101.results.toList (List.range 0) κ) 10000 (P i) s
noncomputable def G (κ : List SV -> Option R) (f : Nat) (p : List Item) (s : St) : Option R := goto (C R) (retK (C R) Tryz.f101.results.toList (List.range 0) κ) 10000 f p s
def s3 (x0 : ByteArray) (x1 : Int) (x2 : List AV) : St := ⟨mkS 29 [(0, .str x0), (3, .own 256), (4, .int .i64 x1)], [(256, .row 5 x2 true)], top⟩
noncomputable abbrev q3 {R : Type} (J : List Item -> St -> Option R) (x0 : ByteArray) (x1 : Int) (x2 : List AV) : Option R := J (P 3) (s3 x0 x1 x2)
theorem k3 (J : List Item -> St -> Option R) (κ : List SV -> Option R) (x0 : ByteArray) (x1 : Int) (x2 : List AV) : S R κ J 3 (s3 x0 x1 x2) = t3 x0 x1 x2 (q3 J) (K0 κ) := by kernel_rfl
theorem k (κ : List SV -> Option R) (k : Nat) (a0 : ByteArray) : runF (C R) Tryz.f101 10000 k [.str a0] κ = postbagref1_Lower_0.e a0 (q3 (G R κ k)) (K0 κ) := by kernel_rfl
theorem g3 (κ : List SV -> Option R) : ∀ (f : Nat), q3 (G R κ f) = L3 (K0 κ) f
 | 0 => rfl
 | f + 1 => by
  funext x0 x1 x2
  show S R κ (G R κ f) 3 _ = _
  rw [k3, g3 κ f]
  rfl
end
theorem run (R : Type) (κ : List SV -> Option R) (a0 : ByteArray) : runF (C R) Tryz.f101 10000 fuelK [.str a0] κ = postbagref1_Lower_0 a0 (K0 κ) := by
 rw [k]
 rw [g3 R κ fuelK]
 rfl
theorem Γ_does {R : Type} (tab : Tab) (ht : TabOk tab) (g : Nat) : Does (R := R) Tryz.prog (tabTy tyL) tab g ((C R).call g) := by
 refine does_of fun xs κ => ?_
 show DoesAt _ _ _ g xs κ (Γ R g xs κ)
 unfold Γ
 split
 ·exact DoesAt.none
theorem does {R : Type} (tab : Tab) (ht : TabOk tab) (a0 : ByteArray) (κ : List SV -> Option R) : DoesAt Tryz.prog (tabTy tyL) tab 101 [.str a0] κ (postbagref1_Lower_0 a0 (K0 κ)) := by
 intro r h w vs Rt Ra bs hpre
 exact runF_sound tyOk (Γ_does tab ht) (show Tryz.prog.funcs[101]? = some Tryz.f101 by kernel_rfl) (by kernel_rfl) ((run R κ a0).trans h) hpre
end postbagref1_Lower_0
namespace postbagref1_Same_0
abbrev K0 {R : Type} (κ : List SV -> Option R) (r0 : Bool) : Option R := κ [.bool r0]
section
variable (R : Type) (c1 : postbagref1_Lower_0.F R)
def Γ (g : Nat) (xs : List SV) (κ : List SV -> Option R) : Option R :=
 match g with
 | 101 => (match xs with
  | [.str a0] => c1 a0 (postbagref1_Lower_0.K0 κ)
  | _ => none)
 | _ => none
def h (n : Nat) : Option (List (Nat × List (Nat × Nat))) :=
 match n with
 | _ => none
def C : Cfg R := ⟨tabTy tyL, Γ R c1, fun _ => false, h⟩
theorem k (κ : List SV -> Option R) (k : Nat) (a0 : ByteArray) (a1 : ByteArray) : runF (C R c1) Tryz.f50 10000 k [.str a0, .str a1] κ = postbagref1_Same_0.e c1 a0 a1 (K0 κ) := by kernel_rfl
end
theorem run (R : Type) (κ : List SV -> Option R) (a0 : ByteArray) (a1 : ByteArray) : runF (C R postbagref1_Lower_0) Tryz.f50 10000 fuelK [.str a0, .str a1] κ = postbagref1_Same_0 a0 a1 (K0 κ) := by
 rw [k]
 rfl
theorem Γ_does {R : Type} (tab : Tab) (ht : TabOk tab) (g : Nat) : Does (R := R) Tryz.prog (tabTy tyL) tab g ((C R postbagref1_Lower_0).call g) := by
 refine does_of fun xs κ => ?_
 show DoesAt _ _ _ g xs κ (Γ R postbagref1_Lower_0 g xs κ)
 unfold Γ
 split
 ·split
  ·exact postbagref1_Lower_0.does tab ht _ κ
  ·exact DoesAt.none
 ·exact DoesAt.none
theorem does {R : Type} (tab : Tab) (ht : TabOk tab) (a0 : ByteArray) (a1 : ByteArray) (κ : List SV -> Option R) : DoesAt Tryz.prog (tabTy tyL) tab 50 [.str a0, .str a1] κ (postbagref1_Same_0 a0 a1 (K0 κ)) := by
 intro r h w vs Rt Ra bs hpre
 exact runF_sound tyOk (Γ_does tab ht) (show Tryz.prog.funcs[50]? = some Tryz.f50 by kernel_rfl) (by kernel_rfl) ((run R κ a0 a1).trans h) hpre
end postbagref1_Same_0
namespace postbagref5_Get_0
abbrev K0 {R : Type} (κ : List SV -> Option R) (r0 : Bool) (r1 : ByteArray) : Option R := κ [.agg [.bool r0, .str r1]]
section
variable (R : Type) (c1 : postbagref1_Same_0.F R)
def Γ (g : Nat) (xs : List SV) (κ : List SV -> Option R) : Option R :=
 match g with
 | 50 => (match xs with
  | [.str a0, .str a1] => c1 a0 a1 (postbagref1_Same_0.K0 κ)
  | _ => none)
 | _ => none
def h (n : Nat) : Option (List (Nat × List (Nat × Nat))) :=
 match n with
 | 2 => some [(0, [(0, 0)]), (1, [(0, 0)]), (4, [(0, 0)]), (5, [(0, 0)])]
 | _ => none
def C : Cfg R := ⟨tabTy tyL, Γ R c1, fun _ => false, h⟩
noncomputable abbrev P (i : Nat) : List Item := placeOf Tryz.f81 i
noncomputable def S (κ : List SV -> Option R) (J : List Item -> St -> Option R) (i : Nat) (s : St) : Option R := start (C R c1) J (retK (C R c1) Tryz.f81.results.toList (List.range 0) κ) 10000 (P i) s
noncomputable def G (κ : List SV -> Option R) (f : Nat) (p : List Item) (s : St) : Option R := goto (C R c1) (retK (C R c1) Tryz.f81.results.toList (List.range 0) κ) 10000 f p s
def s2 (x0 : List AV) (x1 : ByteArray) (x2 : Int) (x3 : Bool) (x4 : ByteArray) : St := ⟨mkS 26 [(0, .ro 42 x0 true), (1, .str x1), (4, .ptr 383 0), (5, .int .i64 x2)], [(383, .var 44 [.bool x3, .str x4])], top⟩
noncomputable abbrev q2 {R : Type} (J : List Item -> St -> Option R) (x0 : List AV) (x1 : ByteArray) (x2 : Int) (x3 : Bool) (x4 : ByteArray) : Option R := J (P 2) (s2 x0 x1 x2 x3 x4)
theorem k2 (J : List Item -> St -> Option R) (κ : List SV -> Option R) (x0 : List AV) (x1 : ByteArray) (x2 : Int) (x3 : Bool) (x4 : ByteArray) : S R c1 κ J 2 (s2 x0 x1 x2 x3 x4) = t2 c1 x0 x1 x2 x3 x4 (q2 J) (K0 κ) := by kernel_rfl
theorem k (κ : List SV -> Option R) (k : Nat) (a0 : List AV) (a1 : ByteArray) : runF (C R c1) Tryz.f81 10000 k [.ro 42 a0 true, .str a1] κ = postbagref5_Get_0.e c1 a0 a1 (q2 (G R c1 κ k)) (K0 κ) := by kernel_rfl
theorem g2 (κ : List SV -> Option R) : ∀ (f : Nat), q2 (G R c1 κ f) = L2 c1 (K0 κ) f
 | 0 => rfl
 | f + 1 => by
  funext x0 x1 x2 x3 x4
  show S R c1 κ (G R c1 κ f) 2 _ = _
  rw [k2, g2 κ f]
  rfl
end
theorem run (R : Type) (κ : List SV -> Option R) (a0 : List AV) (a1 : ByteArray) : runF (C R postbagref1_Same_0) Tryz.f81 10000 fuelK [.ro 42 a0 true, .str a1] κ = postbagref5_Get_0 a0 a1 (K0 κ) := by
 rw [k]
 rw [g2 R postbagref1_Same_0 κ fuelK]
 rfl
theorem Γ_does {R : Type} (tab : Tab) (ht : TabOk tab) (g : Nat) : Does (R := R) Tryz.prog (tabTy tyL) tab g ((C R postbagref1_Same_0).call g) := by
 refine does_of fun xs κ => ?_
 show DoesAt _ _ _ g xs κ (Γ R postbagref1_Same_0 g xs κ)
 unfold Γ
 split
 ·split
  ·exact postbagref1_Same_0.does tab ht _ _ κ
  ·exact DoesAt.none
 ·exact DoesAt.none
theorem does {R : Type} (tab : Tab) (ht : TabOk tab) (a0 : List AV) (a1 : ByteArray) (κ : List SV -> Option R) : DoesAt Tryz.prog (tabTy tyL) tab 81 [.ro 42 a0 true, .str a1] κ (postbagref5_Get_0 a0 a1 (K0 κ)) := by
 intro r h w vs Rt Ra bs hpre
 exact runF_sound tyOk (Γ_does tab ht) (show Tryz.prog.funcs[81]? = some Tryz.f81 by kernel_rfl) (by kernel_rfl) ((run R κ a0 a1).trans h) hpre
end postbagref5_Get_0
namespace postbagref5_comment_0
abbrev K0 {R : Type} (κ : List SV -> Option R) (r0 : Int) : Option R := κ [.int .i64 r0]
section
variable (R : Type)
def Γ (g : Nat) (xs : List SV) (κ : List SV -> Option R) : Option R :=
 match g with
 | _ => none
def h (n : Nat) : Option (List (Nat × List (Nat × Nat))) :=
 match n with
 | 2 => some [(0, [(0, 0)]), (1, [(0, 0)]), (5, [(0, 0)])]
 | _ => none
def C : Cfg R := ⟨tabTy tyL, Γ R, fun _ => false, h⟩
noncomputable abbrev P (i : Nat) : List Item := placeOf Tryz.f112 i
noncomputable def S (κ : List SV -> Option R) (J : List Item -> St -> Option R) (i : Nat) (s : St) : Option R := start (C R) J (retK (C R) Tryz.f112.results.toList (List.range 0) κ) 10000 (P i) s
noncomputable def G (κ : List SV -> Option R) (f : Nat) (p : List Item) (s : St) : Option R := goto (C R) (retK (C R) Tryz.f112.results.toList (List.range 0) κ) 10000 f p s
def s2 (x0 : ByteArray) (x1 : Int) (x2 : Int) : St := ⟨mkS 32 [(0, .str x0), (1, .int .i64 x1), (5, .int .i64 x2)], [], top⟩
noncomputable abbrev q2 {R : Type} (J : List Item -> St -> Option R) (x0 : ByteArray) (x1 : Int) (x2 : Int) : Option R := J (P 2) (s2 x0 x1 x2)
theorem k2 (J : List Item -> St -> Option R) (κ : List SV -> Option R) (x0 : ByteArray) (x1 : Int) (x2 : Int) : S R κ J 2 (s2 x0 x1 x2) = t2 x0 x1 x2 (q2 J) (K0 κ) := by kernel_rfl
theorem k (κ : List SV -> Option R) (k : Nat) (a0 : ByteArray) (a1 : Int) : runF (C R) Tryz.f112 10000 k [.str a0, .int .i64 a1] κ = postbagref5_comment_0.e a0 a1 (q2 (G R κ k)) (K0 κ) := by kernel_rfl
theorem g2 (κ : List SV -> Option R) : ∀ (f : Nat), q2 (G R κ f) = L2 (K0 κ) f
 | 0 => rfl
 | f + 1 => by
  funext x0 x1 x2
  show S R κ (G R κ f) 2 _ = _
  rw [k2, g2 κ f]
  rfl
end
theorem run (R : Type) (κ : List SV -> Option R) (a0 : ByteArray) (a1 : Int) : runF (C R) Tryz.f112 10000 fuelK [.str a0, .int .i64 a1] κ = postbagref5_comment_0 a0 a1 (K0 κ) := by
 rw [k]
 rw [g2 R κ fuelK]
 rfl
theorem Γ_does {R : Type} (tab : Tab) (ht : TabOk tab) (g : Nat) : Does (R := R) Tryz.prog (tabTy tyL) tab g ((C R).call g) := by
 refine does_of fun xs κ => ?_
 show DoesAt _ _ _ g xs κ (Γ R g xs κ)
 unfold Γ
 split
 ·exact DoesAt.none
theorem does {R : Type} (tab : Tab) (ht : TabOk tab) (a0 : ByteArray) (a1 : Int) (κ : List SV -> Option R) : DoesAt Tryz.prog (tabTy tyL) tab 112 [.str a0, .int .i64 a1] κ (postbagref5_comment_0 a0 a1 (K0 κ)) := by
 intro r h w vs Rt Ra bs hpre
 exact runF_sound tyOk (Γ_does tab ht) (show Tryz.prog.funcs[112]? = some Tryz.f112 by kernel_rfl) (by kernel_rfl) ((run R κ a0 a1).trans h) hpre
end postbagref5_comment_0
namespace postbagref5_between_0
abbrev K0 {R : Type} (κ : List SV -> Option R) (r0 : ByteArray) (r1 : Int) : Option R := κ [.tup [.str r0, .int .i64 r1]]
section
variable (R : Type)
def Γ (g : Nat) (xs : List SV) (κ : List SV -> Option R) : Option R :=
 match g with
 | _ => none
def h (n : Nat) : Option (List (Nat × List (Nat × Nat))) :=
 match n with
 | 3 => some [(0, [(0, 0)]), (1, [(0, 0)]), (2, [(0, 0)]), (3, [(0, 0)]), (10, [(0, 7)])]
 | _ => none
def C : Cfg R := ⟨tabTy tyL, Γ R, fun _ => false, h⟩
noncomputable abbrev P (i : Nat) : List Item := placeOf Tryz.f113 i
noncomputable def S (κ : List SV -> Option R) (J : List Item -> St -> Option R) (i : Nat) (s : St) : Option R := start (C R) J (retK (C R) Tryz.f113.results.toList (List.range 0) κ) 10000 (P i) s
noncomputable def G (κ : List SV -> Option R) (f : Nat) (p : List Item) (s : St) : Option R := goto (C R) (retK (C R) Tryz.f113.results.toList (List.range 0) κ) 10000 f p s
def s3 (x0 : ByteArray) (x1 : Int) (x2 : Int) (x3 : Bool) (x4 : List AV) : St := ⟨mkS 64 [(0, .str x0), (1, .int .i64 x1), (2, .int .u8 x2), (3, .bool x3), (10, .own 704)], [(704, .row 5 x4 true)], top⟩
noncomputable abbrev q3 {R : Type} (J : List Item -> St -> Option R) (x0 : ByteArray) (x1 : Int) (x2 : Int) (x3 : Bool) (x4 : List AV) : Option R := J (P 3) (s3 x0 x1 x2 x3 x4)
theorem k3 (J : List Item -> St -> Option R) (κ : List SV -> Option R) (x0 : ByteArray) (x1 : Int) (x2 : Int) (x3 : Bool) (x4 : List AV) : S R κ J 3 (s3 x0 x1 x2 x3 x4) = t3 x0 x1 x2 x3 x4 (q3 J) (K0 κ) := by kernel_rfl
theorem k (κ : List SV -> Option R) (k : Nat) (a0 : ByteArray) (a1 : Int) (a2 : Int) (a3 : Bool) : runF (C R) Tryz.f113 10000 k [.str a0, .int .i64 a1, .int .u8 a2, .bool a3] κ = postbagref5_between_0.e a0 a1 a2 a3 (q3 (G R κ k)) (K0 κ) := by kernel_rfl
theorem g3 (κ : List SV -> Option R) : ∀ (f : Nat), q3 (G R κ f) = L3 (K0 κ) f
 | 0 => rfl
 | f + 1 => by
  funext x0 x1 x2 x3 x4
  show S R κ (G R κ f) 3 _ = _
  rw [k3, g3 κ f]
  rfl
end
theorem run (R : Type) (κ : List SV -> Option R) (a0 : ByteArray) (a1 : Int) (a2 : Int) (a3 : Bool) : runF (C R) Tryz.f113 10000 fuelK [.str a0, .int .i64 a1, .int .u8 a2, .bool a3] κ = postbagref5_between_0 a0 a1 a2 a3 (K0 κ) := by
 rw [k]
 rw [g3 R κ fuelK]
 rfl
theorem Γ_does {R : Type} (tab : Tab) (ht : TabOk tab) (g : Nat) : Does (R := R) Tryz.prog (tabTy tyL) tab g ((C R).call g) := by
 refine does_of fun xs κ => ?_
 show DoesAt _ _ _ g xs κ (Γ R g xs κ)
 unfold Γ
 split
 ·exact DoesAt.none
theorem does {R : Type} (tab : Tab) (ht : TabOk tab) (a0 : ByteArray) (a1 : Int) (a2 : Int) (a3 : Bool) (κ : List SV -> Option R) : DoesAt Tryz.prog (tabTy tyL) tab 113 [.str a0, .int .i64 a1, .int .u8 a2, .bool a3] κ (postbagref5_between_0 a0 a1 a2 a3 (K0 κ)) := by
 intro r h w vs Rt Ra bs hpre
 exact runF_sound tyOk (Γ_does tab ht) (show Tryz.prog.funcs[113]? = some Tryz.f113 by kernel_rfl) (by kernel_rfl) ((run R κ a0 a1 a2 a3).trans h) hpre
end postbagref5_between_0
namespace postbagref5_isSign_0
abbrev K0 {R : Type} (κ : List SV -> Option R) (r0 : Bool) : Option R := κ [.bool r0]
section
variable (R : Type)
def Γ (g : Nat) (xs : List SV) (κ : List SV -> Option R) : Option R :=
 match g with
 | _ => none
def h (n : Nat) : Option (List (Nat × List (Nat × Nat))) :=
 match n with
 | _ => none
def C : Cfg R := ⟨tabTy tyL, Γ R, fun _ => false, h⟩
theorem k (κ : List SV -> Option R) (k : Nat) (a0 : Int) : runF (C R) Tryz.f114 10000 k [.int .u8 a0] κ = postbagref5_isSign_0.e a0 (K0 κ) := by kernel_rfl
end
theorem run (R : Type) (κ : List SV -> Option R) (a0 : Int) : runF (C R) Tryz.f114 10000 fuelK [.int .u8 a0] κ = postbagref5_isSign_0 a0 (K0 κ) := by
 rw [k]
 rfl
theorem Γ_does {R : Type} (tab : Tab) (ht : TabOk tab) (g : Nat) : Does (R := R) Tryz.prog (tabTy tyL) tab g ((C R).call g) := by
 refine does_of fun xs κ => ?_
 show DoesAt _ _ _ g xs κ (Γ R g xs κ)
 unfold Γ
 split
 ·exact DoesAt.none
theorem does {R : Type} (tab : Tab) (ht : TabOk tab) (a0 : Int) (κ : List SV -> Option R) : DoesAt Tryz.prog (tabTy tyL) tab 114 [.int .u8 a0] κ (postbagref5_isSign_0 a0 (K0 κ)) := by
 intro r h w vs Rt Ra bs hpre
 exact runF_sound tyOk (Γ_does tab ht) (show Tryz.prog.funcs[114]? = some Tryz.f114 by kernel_rfl) (by kernel_rfl) ((run R κ a0).trans h) hpre
end postbagref5_isSign_0
namespace postbagref5_isSpace_0
abbrev K0 {R : Type} (κ : List SV -> Option R) (r0 : Bool) : Option R := κ [.bool r0]
section
variable (R : Type)
def Γ (g : Nat) (xs : List SV) (κ : List SV -> Option R) : Option R :=
 match g with
 | _ => none
def h (n : Nat) : Option (List (Nat × List (Nat × Nat))) :=
 match n with
 | _ => none
def C : Cfg R := ⟨tabTy tyL, Γ R, fun _ => false, h⟩
theorem k (κ : List SV -> Option R) (k : Nat) (a0 : Int) : runF (C R) Tryz.f128 10000 k [.int .u8 a0] κ = postbagref5_isSpace_0.e a0 (K0 κ) := by kernel_rfl
end
theorem run (R : Type) (κ : List SV -> Option R) (a0 : Int) : runF (C R) Tryz.f128 10000 fuelK [.int .u8 a0] κ = postbagref5_isSpace_0 a0 (K0 κ) := by
 rw [k]
 rfl
theorem Γ_does {R : Type} (tab : Tab) (ht : TabOk tab) (g : Nat) : Does (R := R) Tryz.prog (tabTy tyL) tab g ((C R).call g) := by
 refine does_of fun xs κ => ?_
 show DoesAt _ _ _ g xs κ (Γ R g xs κ)
 unfold Γ
 split
 ·exact DoesAt.none
theorem does {R : Type} (tab : Tab) (ht : TabOk tab) (a0 : Int) (κ : List SV -> Option R) : DoesAt Tryz.prog (tabTy tyL) tab 128 [.int .u8 a0] κ (postbagref5_isSpace_0 a0 (K0 κ)) := by
 intro r h w vs Rt Ra bs hpre
 exact runF_sound tyOk (Γ_does tab ht) (show Tryz.prog.funcs[128]? = some Tryz.f128 by kernel_rfl) (by kernel_rfl) ((run R κ a0).trans h) hpre
end postbagref5_isSpace_0
namespace postbagref5_isAtom_0
abbrev K0 {R : Type} (κ : List SV -> Option R) (r0 : Bool) : Option R := κ [.bool r0]
section
variable (R : Type) (c1 : postbagref5_isSpace_0.F R) (c2 : postbagref5_isSign_0.F R)
def Γ (g : Nat) (xs : List SV) (κ : List SV -> Option R) : Option R :=
 match g with
 | 114 => (match xs with
  | [.int .u8 a0] => c2 a0 (postbagref5_isSign_0.K0 κ)
  | _ => none)
 | 128 => (match xs with
  | [.int .u8 a0] => c1 a0 (postbagref5_isSpace_0.K0 κ)
  | _ => none)
 | _ => none
def h (n : Nat) : Option (List (Nat × List (Nat × Nat))) :=
 match n with
 | _ => none
def C : Cfg R := ⟨tabTy tyL, Γ R c1 c2, fun _ => false, h⟩
theorem k (κ : List SV -> Option R) (k : Nat) (a0 : Int) : runF (C R c1 c2) Tryz.f115 10000 k [.int .u8 a0] κ = postbagref5_isAtom_0.e c1 c2 a0 (K0 κ) := by kernel_rfl
end
theorem run (R : Type) (κ : List SV -> Option R) (a0 : Int) : runF (C R postbagref5_isSpace_0 postbagref5_isSign_0) Tryz.f115 10000 fuelK [.int .u8 a0] κ = postbagref5_isAtom_0 a0 (K0 κ) := by
 rw [k]
 rfl
theorem Γ_does {R : Type} (tab : Tab) (ht : TabOk tab) (g : Nat) : Does (R := R) Tryz.prog (tabTy tyL) tab g ((C R postbagref5_isSpace_0 postbagref5_isSign_0).call g) := by
 refine does_of fun xs κ => ?_
 show DoesAt _ _ _ g xs κ (Γ R postbagref5_isSpace_0 postbagref5_isSign_0 g xs κ)
 unfold Γ
 split
 ·split
  ·exact postbagref5_isSign_0.does tab ht _ κ
  ·exact DoesAt.none
 ·split
  ·exact postbagref5_isSpace_0.does tab ht _ κ
  ·exact DoesAt.none
 ·exact DoesAt.none
theorem does {R : Type} (tab : Tab) (ht : TabOk tab) (a0 : Int) (κ : List SV -> Option R) : DoesAt Tryz.prog (tabTy tyL) tab 115 [.int .u8 a0] κ (postbagref5_isAtom_0 a0 (K0 κ)) := by
 intro r h w vs Rt Ra bs hpre
 exact runF_sound tyOk (Γ_does tab ht) (show Tryz.prog.funcs[115]? = some Tryz.f115 by kernel_rfl) (by kernel_rfl) ((run R κ a0).trans h) hpre
end postbagref5_isAtom_0
namespace postbagref5_pieces_0
abbrev K0 {R : Type} (κ : List SV -> Option R) (r0 : List AV) : Option R := κ [.fr 98 r0 true]
section
variable (R : Type) (c1 : postbagref5_comment_0.F R) (c2 : postbagref5_between_0.F R) (c3 : postbagref5_isSign_0.F R) (c4 : postbagref5_isAtom_0.F R)
def Γ (g : Nat) (xs : List SV) (κ : List SV -> Option R) : Option R :=
 match g with
 | 112 => (match xs with
  | [.str a0, .int .i64 a1] => c1 a0 a1 (postbagref5_comment_0.K0 κ)
  | _ => none)
 | 113 => (match xs with
  | [.str a0, .int .i64 a1, .int .u8 a2, .bool a3] => c2 a0 a1 a2 a3 (postbagref5_between_0.K0 κ)
  | _ => none)
 | 114 => (match xs with
  | [.int .u8 a0] => c3 a0 (postbagref5_isSign_0.K0 κ)
  | _ => none)
 | 115 => (match xs with
  | [.int .u8 a0] => c4 a0 (postbagref5_isAtom_0.K0 κ)
  | _ => none)
 | _ => none
def h (n : Nat) : Option (List (Nat × List (Nat × Nat))) :=
 match n with
 | 3 => some [(0, [(0, 0)]), (3, [(0, 100)]), (4, [(0, 0)])]
 | 25 => some [(0, [(0, 0)]), (3, [(0, 0)]), (4, [(0, 0)]), (10, [(0, 0)])]
 | _ => none
def C : Cfg R := ⟨tabTy tyL, Γ R c1 c2 c3 c4, fun _ => false, h⟩
noncomputable abbrev P (i : Nat) : List Item := placeOf Tryz.f62 i
noncomputable def S (κ : List SV -> Option R) (J : List Item -> St -> Option R) (i : Nat) (s : St) : Option R := start (C R c1 c2 c3 c4) J (retK (C R c1 c2 c3 c4) Tryz.f62.results.toList (List.range 0) κ) 10000 (P i) s
noncomputable def G (κ : List SV -> Option R) (f : Nat) (p : List Item) (s : St) : Option R := goto (C R c1 c2 c3 c4) (retK (C R c1 c2 c3 c4) Tryz.f62.results.toList (List.range 0) κ) 10000 f p s
def s3 (x0 : ByteArray) (x1 : Int) (x2 : List AV) : St := ⟨mkS 111 [(0, .str x0), (3, .own 256), (4, .int .i64 x1)], [(256, .row 98 x2 true)], top⟩
def s25 (x0 : ByteArray) (x1 : Int) (x2 : Int) (x3 : List AV) : St := ⟨mkS 111 [(0, .str x0), (3, .own 256), (4, .int .i64 x1), (10, .int .i64 x2)], [(256, .row 98 x3 true)], top⟩
noncomputable abbrev q3 {R : Type} (J : List Item -> St -> Option R) (x0 : ByteArray) (x1 : Int) (x2 : List AV) : Option R := J (P 3) (s3 x0 x1 x2)
noncomputable abbrev q25 {R : Type} (J : List Item -> St -> Option R) (x0 : ByteArray) (x1 : Int) (x2 : Int) (x3 : List AV) : Option R := J (P 25) (s25 x0 x1 x2 x3)
theorem k3 (J : List Item -> St -> Option R) (κ : List SV -> Option R) (x0 : ByteArray) (x1 : Int) (x2 : List AV) : S R c1 c2 c3 c4 κ J 3 (s3 x0 x1 x2) = t3 c1 c2 c3 c4 x0 x1 x2 (q3 J) (q25 J) (K0 κ) := by kernel_rfl
theorem k25 (J : List Item -> St -> Option R) (κ : List SV -> Option R) (x0 : ByteArray) (x1 : Int) (x2 : Int) (x3 : List AV) : S R c1 c2 c3 c4 κ J 25 (s25 x0 x1 x2 x3) = t25 c1 c2 c3 c4 x0 x1 x2 x3 (q3 J) (q25 J) (K0 κ) := by kernel_rfl
theorem k (κ : List SV -> Option R) (k : Nat) (a0 : ByteArray) : runF (C R c1 c2 c3 c4) Tryz.f62 10000 k [.str a0] κ = postbagref5_pieces_0.e c1 c2 c3 c4 a0 (q3 (G R c1 c2 c3 c4 κ k)) (q25 (G R c1 c2 c3 c4 κ k)) (K0 κ) := by kernel_rfl
theorem gM3 (κ : List SV -> Option R) : ∀ (f : Nat), (q3 (G R c1 c2 c3 c4 κ f) = L3 c1 c2 c3 c4 (K0 κ) f) /\ (q25 (G R c1 c2 c3 c4 κ f) = L25 c1 c2 c3 c4 (K0 κ) f)
 | 0 => ⟨rfl, rfl⟩
 | f + 1 => by
  obtain ⟨ih0, ih1⟩ := gM3 κ f
  refine ⟨?_, ?_⟩
  ·funext x0 x1 x2
   show S R c1 c2 c3 c4 κ (G R c1 c2 c3 c4 κ f) 3 _ = _
   rw [k3, ih0, ih1]
   rfl
  ·funext x0 x1 x2 x3
   show S R c1 c2 c3 c4 κ (G R c1 c2 c3 c4 κ f) 25 _ = _
   rw [k25, ih0, ih1]
   rfl
theorem g3 (κ : List SV -> Option R) (f : Nat) : q3 (G R c1 c2 c3 c4 κ f) = L3 c1 c2 c3 c4 (K0 κ) f := (gM3 R c1 c2 c3 c4 κ f).1
theorem g25 (κ : List SV -> Option R) (f : Nat) : q25 (G R c1 c2 c3 c4 κ f) = L25 c1 c2 c3 c4 (K0 κ) f := (gM3 R c1 c2 c3 c4 κ f).2
end
theorem run (R : Type) (κ : List SV -> Option R) (a0 : ByteArray) : runF (C R postbagref5_comment_0 postbagref5_between_0 postbagref5_isSign_0 postbagref5_isAtom_0) Tryz.f62 10000 fuelK [.str a0] κ = postbagref5_pieces_0 a0 (K0 κ) := by
 rw [k]
 rw [g3 R postbagref5_comment_0 postbagref5_between_0 postbagref5_isSign_0 postbagref5_isAtom_0 κ fuelK, g25 R postbagref5_comment_0 postbagref5_between_0 postbagref5_isSign_0 postbagref5_isAtom_0 κ fuelK]
 rfl
theorem Γ_does {R : Type} (tab : Tab) (ht : TabOk tab) (g : Nat) : Does (R := R) Tryz.prog (tabTy tyL) tab g ((C R postbagref5_comment_0 postbagref5_between_0 postbagref5_isSign_0 postbagref5_isAtom_0).call g) := by
 refine does_of fun xs κ => ?_
 show DoesAt _ _ _ g xs κ (Γ R postbagref5_comment_0 postbagref5_between_0 postbagref5_isSign_0 postbagref5_isAtom_0 g xs κ)
 unfold Γ
 split
 ·split
  ·exact postbagref5_comment_0.does tab ht _ _ κ
  ·exact DoesAt.none
 ·split
  ·exact postbagref5_between_0.does tab ht _ _ _ _ κ
  ·exact DoesAt.none
 ·split
  ·exact postbagref5_isSign_0.does tab ht _ κ
  ·exact DoesAt.none
 ·split
  ·exact postbagref5_isAtom_0.does tab ht _ κ
  ·exact DoesAt.none
 ·exact DoesAt.none
theorem does {R : Type} (tab : Tab) (ht : TabOk tab) (a0 : ByteArray) (κ : List SV -> Option R) : DoesAt Tryz.prog (tabTy tyL) tab 62 [.str a0] κ (postbagref5_pieces_0 a0 (K0 κ)) := by
 intro r h w vs Rt Ra bs hpre
 exact runF_sound tyOk (Γ_does tab ht) (show Tryz.prog.funcs[62]? = some Tryz.f62 by kernel_rfl) (by kernel_rfl) ((run R κ a0).trans h) hpre
end postbagref5_pieces_0
namespace postbagref5_find_oi
abbrev K0 {R : Type} (κ : List SV -> Option R) (r0 : Int) : Option R := κ [.int .i64 r0]
section
variable (R : Type)
def Γ (g : Nat) (xs : List SV) (κ : List SV -> Option R) : Option R :=
 match g with
 | _ => none
def h (n : Nat) : Option (List (Nat × List (Nat × Nat))) :=
 match n with
 | 2 => some [(0, [(0, 0)]), (1, [(0, 0)]), (5, [(0, 0)])]
 | _ => none
def C : Cfg R := ⟨tabTy tyL, Γ R, fun _ => false, h⟩
noncomputable abbrev P (i : Nat) : List Item := placeOf Tryz.f71 i
noncomputable def S (κ : List SV -> Option R) (J : List Item -> St -> Option R) (i : Nat) (s : St) : Option R := start (C R) J (retK (C R) Tryz.f71.results.toList (List.range 0) κ) 10000 (P i) s
noncomputable def G (κ : List SV -> Option R) (f : Nat) (p : List Item) (s : St) : Option R := goto (C R) (retK (C R) Tryz.f71.results.toList (List.range 0) κ) 10000 f p s
def s2 (x0 : List AV) (x1 : Int) (x2 : Int) : St := ⟨mkS 22 [(0, .ro 98 x0 false), (1, .int .u8 x1), (5, .int .i64 x2)], [], top⟩
noncomputable abbrev q2 {R : Type} (J : List Item -> St -> Option R) (x0 : List AV) (x1 : Int) (x2 : Int) : Option R := J (P 2) (s2 x0 x1 x2)
theorem k2 (J : List Item -> St -> Option R) (κ : List SV -> Option R) (x0 : List AV) (x1 : Int) (x2 : Int) : S R κ J 2 (s2 x0 x1 x2) = t2 x0 x1 x2 (q2 J) (K0 κ) := by kernel_rfl
theorem k (κ : List SV -> Option R) (k : Nat) (a0 : List AV) (a1 : Int) : runF (C R) Tryz.f71 10000 k [.ro 98 a0 false, .int .u8 a1] κ = postbagref5_find_oi.e a0 a1 (q2 (G R κ k)) (K0 κ) := by kernel_rfl
theorem g2 (κ : List SV -> Option R) : ∀ (f : Nat), q2 (G R κ f) = L2 (K0 κ) f
 | 0 => rfl
 | f + 1 => by
  funext x0 x1 x2
  show S R κ (G R κ f) 2 _ = _
  rw [k2, g2 κ f]
  rfl
end
theorem run (R : Type) (κ : List SV -> Option R) (a0 : List AV) (a1 : Int) : runF (C R) Tryz.f71 10000 fuelK [.ro 98 a0 false, .int .u8 a1] κ = postbagref5_find_oi a0 a1 (K0 κ) := by
 rw [k]
 rw [g2 R κ fuelK]
 rfl
theorem Γ_does {R : Type} (tab : Tab) (ht : TabOk tab) (g : Nat) : Does (R := R) Tryz.prog (tabTy tyL) tab g ((C R).call g) := by
 refine does_of fun xs κ => ?_
 show DoesAt _ _ _ g xs κ (Γ R g xs κ)
 unfold Γ
 split
 ·exact DoesAt.none
theorem does {R : Type} (tab : Tab) (ht : TabOk tab) (a0 : List AV) (a1 : Int) (κ : List SV -> Option R) : DoesAt Tryz.prog (tabTy tyL) tab 71 [.ro 98 a0 false, .int .u8 a1] κ (postbagref5_find_oi a0 a1 (K0 κ)) := by
 intro r h w vs Rt Ra bs hpre
 exact runF_sound tyOk (Γ_does tab ht) (show Tryz.prog.funcs[71]? = some Tryz.f71 by kernel_rfl) (by kernel_rfl) ((run R κ a0 a1).trans h) hpre
end postbagref5_find_oi
namespace postbagref5_part_o
abbrev K0 {R : Type} (κ : List SV -> Option R) (r0 : Int) : Option R := κ [.int .i64 r0]
section
variable (R : Type) (c1 : postbagref5_find_oi.F R)
def Γ (g : Nat) (xs : List SV) (κ : List SV -> Option R) : Option R :=
 match g with
 | 71 => (match xs with
  | [.ro 98 a0 false, .int .u8 a1] => c1 a0 a1 (postbagref5_find_oi.K0 κ)
  | _ => none)
 | _ => none
def h (n : Nat) : Option (List (Nat × List (Nat × Nat))) :=
 match n with
 | 2 => some [(0, [(0, 0)]), (3, [(0, 0)])]
 | _ => none
def C : Cfg R := ⟨tabTy tyL, Γ R c1, fun _ => false, h⟩
noncomputable abbrev P (i : Nat) : List Item := placeOf Tryz.f63 i
noncomputable def S (κ : List SV -> Option R) (J : List Item -> St -> Option R) (i : Nat) (s : St) : Option R := start (C R c1) J (retK (C R c1) Tryz.f63.results.toList (List.range 0) κ) 10000 (P i) s
noncomputable def G (κ : List SV -> Option R) (f : Nat) (p : List Item) (s : St) : Option R := goto (C R c1) (retK (C R c1) Tryz.f63.results.toList (List.range 0) κ) 10000 f p s
def s2 (x0 : List AV) (x1 : Int) : St := ⟨mkS 30 [(0, .ro 98 x0 false), (3, .int .i64 x1)], [], top⟩
noncomputable abbrev q2 {R : Type} (J : List Item -> St -> Option R) (x0 : List AV) (x1 : Int) : Option R := J (P 2) (s2 x0 x1)
theorem k2 (J : List Item -> St -> Option R) (κ : List SV -> Option R) (x0 : List AV) (x1 : Int) : S R c1 κ J 2 (s2 x0 x1) = t2 c1 x0 x1 (q2 J) (K0 κ) := by kernel_rfl
theorem k (κ : List SV -> Option R) (k : Nat) (a0 : List AV) : runF (C R c1) Tryz.f63 10000 k [.ro 98 a0 false] κ = postbagref5_part_o.e c1 a0 (q2 (G R c1 κ k)) (K0 κ) := by kernel_rfl
theorem g2 (κ : List SV -> Option R) : ∀ (f : Nat), q2 (G R c1 κ f) = L2 c1 (K0 κ) f
 | 0 => rfl
 | f + 1 => by
  funext x0 x1
  show S R c1 κ (G R c1 κ f) 2 _ = _
  rw [k2, g2 κ f]
  rfl
end
theorem run (R : Type) (κ : List SV -> Option R) (a0 : List AV) : runF (C R postbagref5_find_oi) Tryz.f63 10000 fuelK [.ro 98 a0 false] κ = postbagref5_part_o a0 (K0 κ) := by
 rw [k]
 rw [g2 R postbagref5_find_oi κ fuelK]
 rfl
theorem Γ_does {R : Type} (tab : Tab) (ht : TabOk tab) (g : Nat) : Does (R := R) Tryz.prog (tabTy tyL) tab g ((C R postbagref5_find_oi).call g) := by
 refine does_of fun xs κ => ?_
 show DoesAt _ _ _ g xs κ (Γ R postbagref5_find_oi g xs κ)
 unfold Γ
 split
 ·split
  ·exact postbagref5_find_oi.does tab ht _ _ κ
  ·exact DoesAt.none
 ·exact DoesAt.none
theorem does {R : Type} (tab : Tab) (ht : TabOk tab) (a0 : List AV) (κ : List SV -> Option R) : DoesAt Tryz.prog (tabTy tyL) tab 63 [.ro 98 a0 false] κ (postbagref5_part_o a0 (K0 κ)) := by
 intro r h w vs Rt Ra bs hpre
 exact runF_sound tyOk (Γ_does tab ht) (show Tryz.prog.funcs[63]? = some Tryz.f63 by kernel_rfl) (by kernel_rfl) ((run R κ a0).trans h) hpre
end postbagref5_part_o
namespace postbagref5_text_o
abbrev K0 {R : Type} (κ : List SV -> Option R) (r0 : ByteArray) : Option R := κ [.str r0]
section
variable (R : Type)
def Γ (g : Nat) (xs : List SV) (κ : List SV -> Option R) : Option R :=
 match g with
 | _ => none
def h (n : Nat) : Option (List (Nat × List (Nat × Nat))) :=
 match n with
 | 5 => some [(0, [(0, 0)]), (3, [(0, 0)]), (4, [(0, 0)]), (5, [(0, 0)]), (6, [(0, 0)])]
 | _ => none
def C : Cfg R := ⟨tabTy tyL, Γ R, fun _ => false, h⟩
noncomputable abbrev P (i : Nat) : List Item := placeOf Tryz.f65 i
noncomputable def S (κ : List SV -> Option R) (J : List Item -> St -> Option R) (i : Nat) (s : St) : Option R := start (C R) J (retK (C R) Tryz.f65.results.toList (List.range 0) κ) 10000 (P i) s
noncomputable def G (κ : List SV -> Option R) (f : Nat) (p : List Item) (s : St) : Option R := goto (C R) (retK (C R) Tryz.f65.results.toList (List.range 0) κ) 10000 f p s
def s5 (x0 : List AV) (x1 : ByteArray) (x2 : Bool) (x3 : Bool) (x4 : Int) : St := ⟨mkS 33 [(0, .ro 98 x0 false), (3, .str x1), (4, .bool x2), (5, .bool x3), (6, .int .i64 x4)], [], top⟩
noncomputable abbrev q5 {R : Type} (J : List Item -> St -> Option R) (x0 : List AV) (x1 : ByteArray) (x2 : Bool) (x3 : Bool) (x4 : Int) : Option R := J (P 5) (s5 x0 x1 x2 x3 x4)
theorem k5 (J : List Item -> St -> Option R) (κ : List SV -> Option R) (x0 : List AV) (x1 : ByteArray) (x2 : Bool) (x3 : Bool) (x4 : Int) : S R κ J 5 (s5 x0 x1 x2 x3 x4) = t5 x0 x1 x2 x3 x4 (q5 J) (K0 κ) := by kernel_rfl
theorem k (κ : List SV -> Option R) (k : Nat) (a0 : List AV) : runF (C R) Tryz.f65 10000 k [.ro 98 a0 false] κ = postbagref5_text_o.e a0 (q5 (G R κ k)) (K0 κ) := by kernel_rfl
theorem g5 (κ : List SV -> Option R) : ∀ (f : Nat), q5 (G R κ f) = L5 (K0 κ) f
 | 0 => rfl
 | f + 1 => by
  funext x0 x1 x2 x3 x4
  show S R κ (G R κ f) 5 _ = _
  rw [k5, g5 κ f]
  rfl
end
theorem run (R : Type) (κ : List SV -> Option R) (a0 : List AV) : runF (C R) Tryz.f65 10000 fuelK [.ro 98 a0 false] κ = postbagref5_text_o a0 (K0 κ) := by
 rw [k]
 rw [g5 R κ fuelK]
 rfl
theorem Γ_does {R : Type} (tab : Tab) (ht : TabOk tab) (g : Nat) : Does (R := R) Tryz.prog (tabTy tyL) tab g ((C R).call g) := by
 refine does_of fun xs κ => ?_
 show DoesAt _ _ _ g xs κ (Γ R g xs κ)
 unfold Γ
 split
 ·exact DoesAt.none
theorem does {R : Type} (tab : Tab) (ht : TabOk tab) (a0 : List AV) (κ : List SV -> Option R) : DoesAt Tryz.prog (tabTy tyL) tab 65 [.ro 98 a0 false] κ (postbagref5_text_o a0 (K0 κ)) := by
 intro r h w vs Rt Ra bs hpre
 exact runF_sound tyOk (Γ_does tab ht) (show Tryz.prog.funcs[65]? = some Tryz.f65 by kernel_rfl) (by kernel_rfl) ((run R κ a0).trans h) hpre
end postbagref5_text_o
namespace postbagref5_is_0
abbrev K0 {R : Type} (κ : List SV -> Option R) (r0 : Bool) (r1 : ByteArray) : Option R := κ [.agg [.bool r0, .str r1]]
section
variable (R : Type)
def Γ (g : Nat) (xs : List SV) (κ : List SV -> Option R) : Option R :=
 match g with
 | _ => none
def h (n : Nat) : Option (List (Nat × List (Nat × Nat))) :=
 match n with
 | _ => none
def C : Cfg R := ⟨tabTy tyL, Γ R, fun _ => false, h⟩
theorem k (κ : List SV -> Option R) (k : Nat) (a0 : ByteArray) : runF (C R) Tryz.f64 10000 k [.str a0] κ = postbagref5_is_0.e a0 (K0 κ) := by kernel_rfl
end
theorem run (R : Type) (κ : List SV -> Option R) (a0 : ByteArray) : runF (C R) Tryz.f64 10000 fuelK [.str a0] κ = postbagref5_is_0 a0 (K0 κ) := by
 rw [k]
 rfl
theorem Γ_does {R : Type} (tab : Tab) (ht : TabOk tab) (g : Nat) : Does (R := R) Tryz.prog (tabTy tyL) tab g ((C R).call g) := by
 refine does_of fun xs κ => ?_
 show DoesAt _ _ _ g xs κ (Γ R g xs κ)
 unfold Γ
 split
 ·exact DoesAt.none
theorem does {R : Type} (tab : Tab) (ht : TabOk tab) (a0 : ByteArray) (κ : List SV -> Option R) : DoesAt Tryz.prog (tabTy tyL) tab 64 [.str a0] κ (postbagref5_is_0 a0 (K0 κ)) := by
 intro r h w vs Rt Ra bs hpre
 exact runF_sound tyOk (Γ_does tab ht) (show Tryz.prog.funcs[64]? = some Tryz.f64 by kernel_rfl) (by kernel_rfl) ((run R κ a0).trans h) hpre
end postbagref5_is_0
namespace postbagref5_find_0
abbrev K0 {R : Type} (κ : List SV -> Option R) (r0 : Int) : Option R := κ [.int .i64 r0]
section
variable (R : Type)
def Γ (g : Nat) (xs : List SV) (κ : List SV -> Option R) : Option R :=
 match g with
 | _ => none
def h (n : Nat) : Option (List (Nat × List (Nat × Nat))) :=
 match n with
 | 2 => some [(0, [(0, 0)]), (1, [(0, 0)]), (5, [(0, 0)])]
 | _ => none
def C : Cfg R := ⟨tabTy tyL, Γ R, fun _ => false, h⟩
noncomputable abbrev P (i : Nat) : List Item := placeOf Tryz.f71 i
noncomputable def S (κ : List SV -> Option R) (J : List Item -> St -> Option R) (i : Nat) (s : St) : Option R := start (C R) J (retK (C R) Tryz.f71.results.toList (List.range 0) κ) 10000 (P i) s
noncomputable def G (κ : List SV -> Option R) (f : Nat) (p : List Item) (s : St) : Option R := goto (C R) (retK (C R) Tryz.f71.results.toList (List.range 0) κ) 10000 f p s
def s2 (x0 : List AV) (x1 : Int) (x2 : Int) : St := ⟨mkS 22 [(0, .ro 98 x0 true), (1, .int .u8 x1), (5, .int .i64 x2)], [], top⟩
noncomputable abbrev q2 {R : Type} (J : List Item -> St -> Option R) (x0 : List AV) (x1 : Int) (x2 : Int) : Option R := J (P 2) (s2 x0 x1 x2)
theorem k2 (J : List Item -> St -> Option R) (κ : List SV -> Option R) (x0 : List AV) (x1 : Int) (x2 : Int) : S R κ J 2 (s2 x0 x1 x2) = t2 x0 x1 x2 (q2 J) (K0 κ) := by kernel_rfl
theorem k (κ : List SV -> Option R) (k : Nat) (a0 : List AV) (a1 : Int) : runF (C R) Tryz.f71 10000 k [.ro 98 a0 true, .int .u8 a1] κ = postbagref5_find_0.e a0 a1 (q2 (G R κ k)) (K0 κ) := by kernel_rfl
theorem g2 (κ : List SV -> Option R) : ∀ (f : Nat), q2 (G R κ f) = L2 (K0 κ) f
 | 0 => rfl
 | f + 1 => by
  funext x0 x1 x2
  show S R κ (G R κ f) 2 _ = _
  rw [k2, g2 κ f]
  rfl
end
theorem run (R : Type) (κ : List SV -> Option R) (a0 : List AV) (a1 : Int) : runF (C R) Tryz.f71 10000 fuelK [.ro 98 a0 true, .int .u8 a1] κ = postbagref5_find_0 a0 a1 (K0 κ) := by
 rw [k]
 rw [g2 R κ fuelK]
 rfl
theorem Γ_does {R : Type} (tab : Tab) (ht : TabOk tab) (g : Nat) : Does (R := R) Tryz.prog (tabTy tyL) tab g ((C R).call g) := by
 refine does_of fun xs κ => ?_
 show DoesAt _ _ _ g xs κ (Γ R g xs κ)
 unfold Γ
 split
 ·exact DoesAt.none
theorem does {R : Type} (tab : Tab) (ht : TabOk tab) (a0 : List AV) (a1 : Int) (κ : List SV -> Option R) : DoesAt Tryz.prog (tabTy tyL) tab 71 [.ro 98 a0 true, .int .u8 a1] κ (postbagref5_find_0 a0 a1 (K0 κ)) := by
 intro r h w vs Rt Ra bs hpre
 exact runF_sound tyOk (Γ_does tab ht) (show Tryz.prog.funcs[71]? = some Tryz.f71 by kernel_rfl) (by kernel_rfl) ((run R κ a0 a1).trans h) hpre
end postbagref5_find_0
namespace postbagref5_part_0
abbrev K0 {R : Type} (κ : List SV -> Option R) (r0 : Int) : Option R := κ [.int .i64 r0]
section
variable (R : Type) (c1 : postbagref5_find_0.F R)
def Γ (g : Nat) (xs : List SV) (κ : List SV -> Option R) : Option R :=
 match g with
 | 71 => (match xs with
  | [.ro 98 a0 true, .int .u8 a1] => c1 a0 a1 (postbagref5_find_0.K0 κ)
  | _ => none)
 | _ => none
def h (n : Nat) : Option (List (Nat × List (Nat × Nat))) :=
 match n with
 | 2 => some [(0, [(0, 0)]), (3, [(0, 0)])]
 | _ => none
def C : Cfg R := ⟨tabTy tyL, Γ R c1, fun _ => false, h⟩
noncomputable abbrev P (i : Nat) : List Item := placeOf Tryz.f63 i
noncomputable def S (κ : List SV -> Option R) (J : List Item -> St -> Option R) (i : Nat) (s : St) : Option R := start (C R c1) J (retK (C R c1) Tryz.f63.results.toList (List.range 0) κ) 10000 (P i) s
noncomputable def G (κ : List SV -> Option R) (f : Nat) (p : List Item) (s : St) : Option R := goto (C R c1) (retK (C R c1) Tryz.f63.results.toList (List.range 0) κ) 10000 f p s
def s2 (x0 : List AV) (x1 : Int) : St := ⟨mkS 30 [(0, .ro 98 x0 true), (3, .int .i64 x1)], [], top⟩
noncomputable abbrev q2 {R : Type} (J : List Item -> St -> Option R) (x0 : List AV) (x1 : Int) : Option R := J (P 2) (s2 x0 x1)
theorem k2 (J : List Item -> St -> Option R) (κ : List SV -> Option R) (x0 : List AV) (x1 : Int) : S R c1 κ J 2 (s2 x0 x1) = t2 c1 x0 x1 (q2 J) (K0 κ) := by kernel_rfl
theorem k (κ : List SV -> Option R) (k : Nat) (a0 : List AV) : runF (C R c1) Tryz.f63 10000 k [.ro 98 a0 true] κ = postbagref5_part_0.e c1 a0 (q2 (G R c1 κ k)) (K0 κ) := by kernel_rfl
theorem g2 (κ : List SV -> Option R) : ∀ (f : Nat), q2 (G R c1 κ f) = L2 c1 (K0 κ) f
 | 0 => rfl
 | f + 1 => by
  funext x0 x1
  show S R c1 κ (G R c1 κ f) 2 _ = _
  rw [k2, g2 κ f]
  rfl
end
theorem run (R : Type) (κ : List SV -> Option R) (a0 : List AV) : runF (C R postbagref5_find_0) Tryz.f63 10000 fuelK [.ro 98 a0 true] κ = postbagref5_part_0 a0 (K0 κ) := by
 rw [k]
 rw [g2 R postbagref5_find_0 κ fuelK]
 rfl
theorem Γ_does {R : Type} (tab : Tab) (ht : TabOk tab) (g : Nat) : Does (R := R) Tryz.prog (tabTy tyL) tab g ((C R postbagref5_find_0).call g) := by
 refine does_of fun xs κ => ?_
 show DoesAt _ _ _ g xs κ (Γ R postbagref5_find_0 g xs κ)
 unfold Γ
 split
 ·split
  ·exact postbagref5_find_0.does tab ht _ _ κ
  ·exact DoesAt.none
 ·exact DoesAt.none
theorem does {R : Type} (tab : Tab) (ht : TabOk tab) (a0 : List AV) (κ : List SV -> Option R) : DoesAt Tryz.prog (tabTy tyL) tab 63 [.ro 98 a0 true] κ (postbagref5_part_0 a0 (K0 κ)) := by
 intro r h w vs Rt Ra bs hpre
 exact runF_sound tyOk (Γ_does tab ht) (show Tryz.prog.funcs[63]? = some Tryz.f63 by kernel_rfl) (by kernel_rfl) ((run R κ a0).trans h) hpre
end postbagref5_part_0
namespace postbagref5_text_0
abbrev K0 {R : Type} (κ : List SV -> Option R) (r0 : ByteArray) : Option R := κ [.str r0]
section
variable (R : Type)
def Γ (g : Nat) (xs : List SV) (κ : List SV -> Option R) : Option R :=
 match g with
 | _ => none
def h (n : Nat) : Option (List (Nat × List (Nat × Nat))) :=
 match n with
 | 5 => some [(0, [(0, 0)]), (3, [(0, 0)]), (4, [(0, 0)]), (5, [(0, 0)]), (6, [(0, 0)])]
 | _ => none
def C : Cfg R := ⟨tabTy tyL, Γ R, fun _ => false, h⟩
noncomputable abbrev P (i : Nat) : List Item := placeOf Tryz.f65 i
noncomputable def S (κ : List SV -> Option R) (J : List Item -> St -> Option R) (i : Nat) (s : St) : Option R := start (C R) J (retK (C R) Tryz.f65.results.toList (List.range 0) κ) 10000 (P i) s
noncomputable def G (κ : List SV -> Option R) (f : Nat) (p : List Item) (s : St) : Option R := goto (C R) (retK (C R) Tryz.f65.results.toList (List.range 0) κ) 10000 f p s
def s5 (x0 : List AV) (x1 : ByteArray) (x2 : Bool) (x3 : Bool) (x4 : Int) : St := ⟨mkS 33 [(0, .ro 98 x0 true), (3, .str x1), (4, .bool x2), (5, .bool x3), (6, .int .i64 x4)], [], top⟩
noncomputable abbrev q5 {R : Type} (J : List Item -> St -> Option R) (x0 : List AV) (x1 : ByteArray) (x2 : Bool) (x3 : Bool) (x4 : Int) : Option R := J (P 5) (s5 x0 x1 x2 x3 x4)
theorem k5 (J : List Item -> St -> Option R) (κ : List SV -> Option R) (x0 : List AV) (x1 : ByteArray) (x2 : Bool) (x3 : Bool) (x4 : Int) : S R κ J 5 (s5 x0 x1 x2 x3 x4) = t5 x0 x1 x2 x3 x4 (q5 J) (K0 κ) := by kernel_rfl
theorem k (κ : List SV -> Option R) (k : Nat) (a0 : List AV) : runF (C R) Tryz.f65 10000 k [.ro 98 a0 true] κ = postbagref5_text_0.e a0 (q5 (G R κ k)) (K0 κ) := by kernel_rfl
theorem g5 (κ : List SV -> Option R) : ∀ (f : Nat), q5 (G R κ f) = L5 (K0 κ) f
 | 0 => rfl
 | f + 1 => by
  funext x0 x1 x2 x3 x4
  show S R κ (G R κ f) 5 _ = _
  rw [k5, g5 κ f]
  rfl
end
theorem run (R : Type) (κ : List SV -> Option R) (a0 : List AV) : runF (C R) Tryz.f65 10000 fuelK [.ro 98 a0 true] κ = postbagref5_text_0 a0 (K0 κ) := by
 rw [k]
 rw [g5 R κ fuelK]
 rfl
theorem Γ_does {R : Type} (tab : Tab) (ht : TabOk tab) (g : Nat) : Does (R := R) Tryz.prog (tabTy tyL) tab g ((C R).call g) := by
 refine does_of fun xs κ => ?_
 show DoesAt _ _ _ g xs κ (Γ R g xs κ)
 unfold Γ
 split
 ·exact DoesAt.none
theorem does {R : Type} (tab : Tab) (ht : TabOk tab) (a0 : List AV) (κ : List SV -> Option R) : DoesAt Tryz.prog (tabTy tyL) tab 65 [.ro 98 a0 true] κ (postbagref5_text_0 a0 (K0 κ)) := by
 intro r h w vs Rt Ra bs hpre
 exact runF_sound tyOk (Γ_does tab ht) (show Tryz.prog.funcs[65]? = some Tryz.f65 by kernel_rfl) (by kernel_rfl) ((run R κ a0).trans h) hpre
end postbagref5_text_0
namespace postbagref5_full_0
abbrev K0 {R : Type} (κ : List SV -> Option R) (r0 : Bool) : Option R := κ [.bool r0]
section
variable (R : Type)
def Γ (g : Nat) (xs : List SV) (κ : List SV -> Option R) : Option R :=
 match g with
 | _ => none
def h (n : Nat) : Option (List (Nat × List (Nat × Nat))) :=
 match n with
 | 2 => some [(0, [(0, 0)]), (3, [(0, 0)])]
 | _ => none
def C : Cfg R := ⟨tabTy tyL, Γ R, fun _ => false, h⟩
noncomputable abbrev P (i : Nat) : List Item := placeOf Tryz.f66 i
noncomputable def S (κ : List SV -> Option R) (J : List Item -> St -> Option R) (i : Nat) (s : St) : Option R := start (C R) J (retK (C R) Tryz.f66.results.toList (List.range 0) κ) 10000 (P i) s
noncomputable def G (κ : List SV -> Option R) (f : Nat) (p : List Item) (s : St) : Option R := goto (C R) (retK (C R) Tryz.f66.results.toList (List.range 0) κ) 10000 f p s
def s2 (x0 : List AV) (x1 : Int) : St := ⟨mkS 16 [(0, .ro 98 x0 true), (3, .int .i64 x1)], [], top⟩
noncomputable abbrev q2 {R : Type} (J : List Item -> St -> Option R) (x0 : List AV) (x1 : Int) : Option R := J (P 2) (s2 x0 x1)
theorem k2 (J : List Item -> St -> Option R) (κ : List SV -> Option R) (x0 : List AV) (x1 : Int) : S R κ J 2 (s2 x0 x1) = t2 x0 x1 (q2 J) (K0 κ) := by kernel_rfl
theorem k (κ : List SV -> Option R) (k : Nat) (a0 : List AV) : runF (C R) Tryz.f66 10000 k [.ro 98 a0 true] κ = postbagref5_full_0.e a0 (q2 (G R κ k)) (K0 κ) := by kernel_rfl
theorem g2 (κ : List SV -> Option R) : ∀ (f : Nat), q2 (G R κ f) = L2 (K0 κ) f
 | 0 => rfl
 | f + 1 => by
  funext x0 x1
  show S R κ (G R κ f) 2 _ = _
  rw [k2, g2 κ f]
  rfl
end
theorem run (R : Type) (κ : List SV -> Option R) (a0 : List AV) : runF (C R) Tryz.f66 10000 fuelK [.ro 98 a0 true] κ = postbagref5_full_0 a0 (K0 κ) := by
 rw [k]
 rw [g2 R κ fuelK]
 rfl
theorem Γ_does {R : Type} (tab : Tab) (ht : TabOk tab) (g : Nat) : Does (R := R) Tryz.prog (tabTy tyL) tab g ((C R).call g) := by
 refine does_of fun xs κ => ?_
 show DoesAt _ _ _ g xs κ (Γ R g xs κ)
 unfold Γ
 split
 ·exact DoesAt.none
theorem does {R : Type} (tab : Tab) (ht : TabOk tab) (a0 : List AV) (κ : List SV -> Option R) : DoesAt Tryz.prog (tabTy tyL) tab 66 [.ro 98 a0 true] κ (postbagref5_full_0 a0 (K0 κ)) := by
 intro r h w vs Rt Ra bs hpre
 exact runF_sound tyOk (Γ_does tab ht) (show Tryz.prog.funcs[66]? = some Tryz.f66 by kernel_rfl) (by kernel_rfl) ((run R κ a0).trans h) hpre
end postbagref5_full_0
namespace postbagref5_closed_0
abbrev K0 {R : Type} (κ : List SV -> Option R) (r0 : ByteArray) : Option R := κ [.str r0]
section
variable (R : Type)
def Γ (g : Nat) (xs : List SV) (κ : List SV -> Option R) : Option R :=
 match g with
 | _ => none
def h (n : Nat) : Option (List (Nat × List (Nat × Nat))) :=
 match n with
 | 3 => some [(0, [(0, 0)]), (3, [(0, 0)]), (4, [(0, 0)])]
 | _ => none
def C : Cfg R := ⟨tabTy tyL, Γ R, fun _ => false, h⟩
noncomputable abbrev P (i : Nat) : List Item := placeOf Tryz.f72 i
noncomputable def S (κ : List SV -> Option R) (J : List Item -> St -> Option R) (i : Nat) (s : St) : Option R := start (C R) J (retK (C R) Tryz.f72.results.toList (List.range 0) κ) 10000 (P i) s
noncomputable def G (κ : List SV -> Option R) (f : Nat) (p : List Item) (s : St) : Option R := goto (C R) (retK (C R) Tryz.f72.results.toList (List.range 0) κ) 10000 f p s
def s3 (x0 : List AV) (x1 : ByteArray) (x2 : Int) : St := ⟨mkS 19 [(0, .ro 98 x0 true), (3, .str x1), (4, .int .i64 x2)], [], top⟩
noncomputable abbrev q3 {R : Type} (J : List Item -> St -> Option R) (x0 : List AV) (x1 : ByteArray) (x2 : Int) : Option R := J (P 3) (s3 x0 x1 x2)
theorem k3 (J : List Item -> St -> Option R) (κ : List SV -> Option R) (x0 : List AV) (x1 : ByteArray) (x2 : Int) : S R κ J 3 (s3 x0 x1 x2) = t3 x0 x1 x2 (q3 J) (K0 κ) := by kernel_rfl
theorem k (κ : List SV -> Option R) (k : Nat) (a0 : List AV) : runF (C R) Tryz.f72 10000 k [.ro 98 a0 true] κ = postbagref5_closed_0.e a0 (q3 (G R κ k)) (K0 κ) := by kernel_rfl
theorem g3 (κ : List SV -> Option R) : ∀ (f : Nat), q3 (G R κ f) = L3 (K0 κ) f
 | 0 => rfl
 | f + 1 => by
  funext x0 x1 x2
  show S R κ (G R κ f) 3 _ = _
  rw [k3, g3 κ f]
  rfl
end
theorem run (R : Type) (κ : List SV -> Option R) (a0 : List AV) : runF (C R) Tryz.f72 10000 fuelK [.ro 98 a0 true] κ = postbagref5_closed_0 a0 (K0 κ) := by
 rw [k]
 rw [g3 R κ fuelK]
 rfl
theorem Γ_does {R : Type} (tab : Tab) (ht : TabOk tab) (g : Nat) : Does (R := R) Tryz.prog (tabTy tyL) tab g ((C R).call g) := by
 refine does_of fun xs κ => ?_
 show DoesAt _ _ _ g xs κ (Γ R g xs κ)
 unfold Γ
 split
 ·exact DoesAt.none
theorem does {R : Type} (tab : Tab) (ht : TabOk tab) (a0 : List AV) (κ : List SV -> Option R) : DoesAt Tryz.prog (tabTy tyL) tab 72 [.ro 98 a0 true] κ (postbagref5_closed_0 a0 (K0 κ)) := by
 intro r h w vs Rt Ra bs hpre
 exact runF_sound tyOk (Γ_does tab ht) (show Tryz.prog.funcs[72]? = some Tryz.f72 by kernel_rfl) (by kernel_rfl) ((run R κ a0).trans h) hpre
end postbagref5_closed_0
namespace postbagref5_address_0
abbrev K0 {R : Type} (κ : List SV -> Option R) (r0 : Bool) (r1 : ByteArray) (r2 : Bool) (r3 : ByteArray) (r4 : Bool) (r5 : ByteArray) (r6 : Bool) (r7 : ByteArray) : Option R := κ [.agg [.bool r0, .str r1, .bool r2, .str r3, .bool r4, .str r5, .bool r6, .str r7]]
section
variable (R : Type) (c1 : postbagref5_find_0.F R) (c2 : postbagref5_full_0.F R) (c3 : postbagref5_text_0.F R) (c4 : postbagref5_is_0.F R) (c5 : postbagref5_closed_0.F R)
def Γ (g : Nat) (xs : List SV) (κ : List SV -> Option R) : Option R :=
 match g with
 | 64 => (match xs with
  | [.str a0] => c4 a0 (postbagref5_is_0.K0 κ)
  | _ => none)
 | 65 => (match xs with
  | [.ro 98 a0 true] => c3 a0 (postbagref5_text_0.K0 κ)
  | _ => none)
 | 66 => (match xs with
  | [.ro 98 a0 true] => c2 a0 (postbagref5_full_0.K0 κ)
  | _ => none)
 | 71 => (match xs with
  | [.ro 98 a0 true, .int .u8 a1] => c1 a0 a1 (postbagref5_find_0.K0 κ)
  | _ => none)
 | 72 => (match xs with
  | [.ro 98 a0 true] => c5 a0 (postbagref5_closed_0.K0 κ)
  | _ => none)
 | _ => none
def h (n : Nat) : Option (List (Nat × List (Nat × Nat))) :=
 match n with
 | 9 => some [(0, [(0, 0)]), (2, [(0, 0)]), (3, [(0, 0)]), (5, [(0, 0)])]
 | 11 => some [(0, [(0, 0)]), (2, [(0, 0)]), (3, [(0, 0)]), (5, [(0, 0)])]
 | 17 => some [(0, [(0, 0)]), (2, [(0, 0)]), (3, [(0, 0)]), (7, [(0, 0)]), (8, [(0, 0)])]
 | _ => none
def C : Cfg R := ⟨tabTy tyL, Γ R c1 c2 c3 c4 c5, fun _ => false, h⟩
noncomputable abbrev P (i : Nat) : List Item := placeOf Tryz.f67 i
noncomputable def S (κ : List SV -> Option R) (J : List Item -> St -> Option R) (i : Nat) (s : St) : Option R := start (C R c1 c2 c3 c4 c5) J (retK (C R c1 c2 c3 c4 c5) Tryz.f67.results.toList (List.range 0) κ) 10000 (P i) s
noncomputable def G (κ : List SV -> Option R) (f : Nat) (p : List Item) (s : St) : Option R := goto (C R c1 c2 c3 c4 c5) (retK (C R c1 c2 c3 c4 c5) Tryz.f67.results.toList (List.range 0) κ) 10000 f p s
def s9 (x0 : List AV) (x1 : Int) (x2 : Bool) (x3 : ByteArray) (x4 : Bool) (x5 : ByteArray) (x6 : Bool) (x7 : ByteArray) (x8 : Bool) (x9 : ByteArray) (x10 : Bool) (x11 : ByteArray) (x12 : Bool) (x13 : ByteArray) (x14 : Bool) (x15 : ByteArray) (x16 : Bool) (x17 : ByteArray) : St := ⟨mkS 113 [(0, .ro 98 x0 true), (2, .ptr 255 0), (3, .ptr 319 0), (5, .int .i64 x1)], [(255, .var 60 [.bool x2, .str x3, .bool x4, .str x5, .bool x6, .str x7, .bool x8, .str x9]), (319, .var 60 [.bool x10, .str x11, .bool x12, .str x13, .bool x14, .str x15, .bool x16, .str x17])], top⟩
def s11 (x0 : List AV) (x1 : Int) (x2 : Bool) (x3 : ByteArray) (x4 : Bool) (x5 : ByteArray) (x6 : Bool) (x7 : ByteArray) (x8 : Bool) (x9 : ByteArray) (x10 : Bool) (x11 : ByteArray) (x12 : Bool) (x13 : ByteArray) (x14 : Bool) (x15 : ByteArray) (x16 : Bool) (x17 : ByteArray) : St := ⟨mkS 113 [(0, .ro 98 x0 true), (2, .ptr 255 0), (3, .ptr 319 0), (5, .int .i64 x1)], [(255, .var 60 [.bool x2, .str x3, .bool x4, .str x5, .bool x6, .str x7, .bool x8, .str x9]), (319, .var 60 [.bool x10, .str x11, .bool x12, .str x13, .bool x14, .str x15, .bool x16, .str x17])], top⟩
def s17 (x0 : List AV) (x1 : Int) (x2 : Int) (x3 : Bool) (x4 : ByteArray) (x5 : Bool) (x6 : ByteArray) (x7 : Bool) (x8 : ByteArray) (x9 : Bool) (x10 : ByteArray) (x11 : Bool) (x12 : ByteArray) (x13 : Bool) (x14 : ByteArray) (x15 : Bool) (x16 : ByteArray) (x17 : Bool) (x18 : ByteArray) : St := ⟨mkS 113 [(0, .ro 98 x0 true), (2, .ptr 255 0), (3, .ptr 319 0), (7, .int .i64 x1), (8, .int .i64 x2)], [(255, .var 60 [.bool x3, .str x4, .bool x5, .str x6, .bool x7, .str x8, .bool x9, .str x10]), (319, .var 60 [.bool x11, .str x12, .bool x13, .str x14, .bool x15, .str x16, .bool x17, .str x18])], top⟩
noncomputable abbrev q9 {R : Type} (J : List Item -> St -> Option R) (x0 : List AV) (x1 : Int) (x2 : Bool) (x3 : ByteArray) (x4 : Bool) (x5 : ByteArray) (x6 : Bool) (x7 : ByteArray) (x8 : Bool) (x9 : ByteArray) (x10 : Bool) (x11 : ByteArray) (x12 : Bool) (x13 : ByteArray) (x14 : Bool) (x15 : ByteArray) (x16 : Bool) (x17 : ByteArray) : Option R := J (P 9) (s9 x0 x1 x2 x3 x4 x5 x6 x7 x8 x9 x10 x11 x12 x13 x14 x15 x16 x17)
noncomputable abbrev q11 {R : Type} (J : List Item -> St -> Option R) (x0 : List AV) (x1 : Int) (x2 : Bool) (x3 : ByteArray) (x4 : Bool) (x5 : ByteArray) (x6 : Bool) (x7 : ByteArray) (x8 : Bool) (x9 : ByteArray) (x10 : Bool) (x11 : ByteArray) (x12 : Bool) (x13 : ByteArray) (x14 : Bool) (x15 : ByteArray) (x16 : Bool) (x17 : ByteArray) : Option R := J (P 11) (s11 x0 x1 x2 x3 x4 x5 x6 x7 x8 x9 x10 x11 x12 x13 x14 x15 x16 x17)
noncomputable abbrev q17 {R : Type} (J : List Item -> St -> Option R) (x0 : List AV) (x1 : Int) (x2 : Int) (x3 : Bool) (x4 : ByteArray) (x5 : Bool) (x6 : ByteArray) (x7 : Bool) (x8 : ByteArray) (x9 : Bool) (x10 : ByteArray) (x11 : Bool) (x12 : ByteArray) (x13 : Bool) (x14 : ByteArray) (x15 : Bool) (x16 : ByteArray) (x17 : Bool) (x18 : ByteArray) : Option R := J (P 17) (s17 x0 x1 x2 x3 x4 x5 x6 x7 x8 x9 x10 x11 x12 x13 x14 x15 x16 x17 x18)
theorem k9 (J : List Item -> St -> Option R) (κ : List SV -> Option R) (x0 : List AV) (x1 : Int) (x2 : Bool) (x3 : ByteArray) (x4 : Bool) (x5 : ByteArray) (x6 : Bool) (x7 : ByteArray) (x8 : Bool) (x9 : ByteArray) (x10 : Bool) (x11 : ByteArray) (x12 : Bool) (x13 : ByteArray) (x14 : Bool) (x15 : ByteArray) (x16 : Bool) (x17 : ByteArray) : S R c1 c2 c3 c4 c5 κ J 9 (s9 x0 x1 x2 x3 x4 x5 x6 x7 x8 x9 x10 x11 x12 x13 x14 x15 x16 x17) = t9 c1 c2 c3 c4 c5 x0 x1 x2 x3 x4 x5 x6 x7 x8 x9 x10 x11 x12 x13 x14 x15 x16 x17 (q9 J) (q11 J) (q17 J) (K0 κ) := by kernel_rfl
theorem k11 (J : List Item -> St -> Option R) (κ : List SV -> Option R) (x0 : List AV) (x1 : Int) (x2 : Bool) (x3 : ByteArray) (x4 : Bool) (x5 : ByteArray) (x6 : Bool) (x7 : ByteArray) (x8 : Bool) (x9 : ByteArray) (x10 : Bool) (x11 : ByteArray) (x12 : Bool) (x13 : ByteArray) (x14 : Bool) (x15 : ByteArray) (x16 : Bool) (x17 : ByteArray) : S R c1 c2 c3 c4 c5 κ J 11 (s11 x0 x1 x2 x3 x4 x5 x6 x7 x8 x9 x10 x11 x12 x13 x14 x15 x16 x17) = t11 c1 c2 c3 c4 c5 x0 x1 x2 x3 x4 x5 x6 x7 x8 x9 x10 x11 x12 x13 x14 x15 x16 x17 (q9 J) (q11 J) (q17 J) (K0 κ) := by kernel_rfl
theorem k17 (J : List Item -> St -> Option R) (κ : List SV -> Option R) (x0 : List AV) (x1 : Int) (x2 : Int) (x3 : Bool) (x4 : ByteArray) (x5 : Bool) (x6 : ByteArray) (x7 : Bool) (x8 : ByteArray) (x9 : Bool) (x10 : ByteArray) (x11 : Bool) (x12 : ByteArray) (x13 : Bool) (x14 : ByteArray) (x15 : Bool) (x16 : ByteArray) (x17 : Bool) (x18 : ByteArray) : S R c1 c2 c3 c4 c5 κ J 17 (s17 x0 x1 x2 x3 x4 x5 x6 x7 x8 x9 x10 x11 x12 x13 x14 x15 x16 x17 x18) = t17 c1 c2 c3 c4 c5 x0 x1 x2 x3 x4 x5 x6 x7 x8 x9 x10 x11 x12 x13 x14 x15 x16 x17 x18 (q9 J) (q11 J) (q17 J) (K0 κ) := by kernel_rfl
theorem k (κ : List SV -> Option R) (k : Nat) (a0 : List AV) : runF (C R c1 c2 c3 c4 c5) Tryz.f67 10000 k [.ro 98 a0 true] κ = postbagref5_address_0.e c1 c2 c3 c4 c5 a0 (q9 (G R c1 c2 c3 c4 c5 κ k)) (q11 (G R c1 c2 c3 c4 c5 κ k)) (q17 (G R c1 c2 c3 c4 c5 κ k)) (K0 κ) := by kernel_rfl
theorem g17 (κ : List SV -> Option R) : ∀ (f : Nat), q17 (G R c1 c2 c3 c4 c5 κ f) = L17 c1 c2 c3 c4 c5 (K0 κ) f
 | 0 => rfl
 | f + 1 => by
  funext x0 x1 x2 x3 x4 x5 x6 x7 x8 x9 x10 x11 x12 x13 x14 x15 x16 x17 x18
  show S R c1 c2 c3 c4 c5 κ (G R c1 c2 c3 c4 c5 κ f) 17 _ = _
  rw [k17, g17 κ f]
  rfl
theorem g11 (κ : List SV -> Option R) : ∀ (f : Nat), q11 (G R c1 c2 c3 c4 c5 κ f) = L11 c1 c2 c3 c4 c5 (K0 κ) f
 | 0 => rfl
 | f + 1 => by
  funext x0 x1 x2 x3 x4 x5 x6 x7 x8 x9 x10 x11 x12 x13 x14 x15 x16 x17
  show S R c1 c2 c3 c4 c5 κ (G R c1 c2 c3 c4 c5 κ f) 11 _ = _
  rw [k11, g17 R c1 c2 c3 c4 c5 κ f]
  rfl
theorem g9 (κ : List SV -> Option R) : ∀ (f : Nat), q9 (G R c1 c2 c3 c4 c5 κ f) = L9 c1 c2 c3 c4 c5 (K0 κ) f
 | 0 => rfl
 | f + 1 => by
  funext x0 x1 x2 x3 x4 x5 x6 x7 x8 x9 x10 x11 x12 x13 x14 x15 x16 x17
  show S R c1 c2 c3 c4 c5 κ (G R c1 c2 c3 c4 c5 κ f) 9 _ = _
  rw [k9, g9 κ f, g11 R c1 c2 c3 c4 c5 κ f]
  rfl
end
theorem run (R : Type) (κ : List SV -> Option R) (a0 : List AV) : runF (C R postbagref5_find_0 postbagref5_full_0 postbagref5_text_0 postbagref5_is_0 postbagref5_closed_0) Tryz.f67 10000 fuelK [.ro 98 a0 true] κ = postbagref5_address_0 a0 (K0 κ) := by
 rw [k]
 rw [g9 R postbagref5_find_0 postbagref5_full_0 postbagref5_text_0 postbagref5_is_0 postbagref5_closed_0 κ fuelK, g11 R postbagref5_find_0 postbagref5_full_0 postbagref5_text_0 postbagref5_is_0 postbagref5_closed_0 κ fuelK, g17 R postbagref5_find_0 postbagref5_full_0 postbagref5_text_0 postbagref5_is_0 postbagref5_closed_0 κ fuelK]
 rfl
theorem Γ_does {R : Type} (tab : Tab) (ht : TabOk tab) (g : Nat) : Does (R := R) Tryz.prog (tabTy tyL) tab g ((C R postbagref5_find_0 postbagref5_full_0 postbagref5_text_0 postbagref5_is_0 postbagref5_closed_0).call g) := by
 refine does_of fun xs κ => ?_
 show DoesAt _ _ _ g xs κ (Γ R postbagref5_find_0 postbagref5_full_0 postbagref5_text_0 postbagref5_is_0 postbagref5_closed_0 g xs κ)
 unfold Γ
 split
 ·split
  ·exact postbagref5_is_0.does tab ht _ κ
  ·exact DoesAt.none
 ·split
  ·exact postbagref5_text_0.does tab ht _ κ
  ·exact DoesAt.none
 ·split
  ·exact postbagref5_full_0.does tab ht _ κ
  ·exact DoesAt.none
 ·split
  ·exact postbagref5_find_0.does tab ht _ _ κ
  ·exact DoesAt.none
 ·split
  ·exact postbagref5_closed_0.does tab ht _ κ
  ·exact DoesAt.none
 ·exact DoesAt.none
theorem does {R : Type} (tab : Tab) (ht : TabOk tab) (a0 : List AV) (κ : List SV -> Option R) : DoesAt Tryz.prog (tabTy tyL) tab 67 [.ro 98 a0 true] κ (postbagref5_address_0 a0 (K0 κ)) := by
 intro r h w vs Rt Ra bs hpre
 exact runF_sound tyOk (Γ_does tab ht) (show Tryz.prog.funcs[67]? = some Tryz.f67 by kernel_rfl) (by kernel_rfl) ((run R κ a0).trans h) hpre
end postbagref5_address_0
namespace postbagref5_Addresses_0
abbrev K0 {R : Type} (κ : List SV -> Option R) (r0 : List AV) : Option R := κ [.fr 60 r0 true]
abbrev K1 {R : Type} (κ : List SV -> Option R) (r0 : List AV) : Option R := κ [.ro 60 r0 true]
section
variable (R : Type) (c1 : postbagref5_pieces_0.F R) (c2 : postbagref5_part_0.F R) (c3 : postbagref5_text_0.F R) (c4 : postbagref5_is_0.F R) (c5 : postbagref5_full_0.F R) (c6 : postbagref5_address_0.F R)
def Γ (g : Nat) (xs : List SV) (κ : List SV -> Option R) : Option R :=
 match g with
 | 62 => (match xs with
  | [.str a0] => c1 a0 (postbagref5_pieces_0.K0 κ)
  | _ => none)
 | 63 => (match xs with
  | [.ro 98 a0 true] => c2 a0 (postbagref5_part_0.K0 κ)
  | _ => none)
 | 64 => (match xs with
  | [.str a0] => c4 a0 (postbagref5_is_0.K0 κ)
  | _ => none)
 | 65 => (match xs with
  | [.ro 98 a0 true] => c3 a0 (postbagref5_text_0.K0 κ)
  | _ => none)
 | 66 => (match xs with
  | [.ro 98 a0 true] => c5 a0 (postbagref5_full_0.K0 κ)
  | _ => none)
 | 67 => (match xs with
  | [.ro 98 a0 true] => c6 a0 (postbagref5_address_0.K0 κ)
  | _ => none)
 | _ => none
def h (n : Nat) : Option (List (Nat × List (Nat × Nat))) :=
 match n with
 | 4 => some [(3, [(0, 62)]), (4, [(0, 0)]), (5, [(0, 1)])]
 | 17 => some [(3, [(0, 0)]), (4, [(0, 0)]), (5, [(0, 0)]), (8, [(0, 0)])]
 | 23 => some [(3, [(0, 1)])]
 | _ => none
def C : Cfg R := ⟨tabTy tyL, Γ R c1 c2 c3 c4 c5 c6, fun _ => false, h⟩
noncomputable abbrev P (i : Nat) : List Item := placeOf Tryz.f21 i
noncomputable def S (κ : List SV -> Option R) (J : List Item -> St -> Option R) (i : Nat) (s : St) : Option R := start (C R c1 c2 c3 c4 c5 c6) J (retK (C R c1 c2 c3 c4 c5 c6) Tryz.f21.results.toList (List.range 0) κ) 10000 (P i) s
noncomputable def G (κ : List SV -> Option R) (f : Nat) (p : List Item) (s : St) : Option R := goto (C R c1 c2 c3 c4 c5 c6) (retK (C R c1 c2 c3 c4 c5 c6) Tryz.f21.results.toList (List.range 0) κ) 10000 f p s
def s4 (x0 : Bool) (x1 : List AV) (x2 : List AV) : St := ⟨mkS 73 [(3, .own 256), (4, .bool x0), (5, .ro 98 x1 true)], [(256, .row 60 x2 true)], top⟩
def s17 (x0 : Bool) (x1 : List AV) (x2 : Int) (x3 : List AV) : St := ⟨mkS 73 [(3, .own 256), (4, .bool x0), (5, .ro 98 x1 true), (8, .int .u8 x2)], [(256, .row 60 x3 true)], top⟩
def s23 (x0 : List AV) : St := ⟨mkS 73 [(3, .ro 60 x0 true)], [], top⟩
noncomputable abbrev q4 {R : Type} (J : List Item -> St -> Option R) (x0 : Bool) (x1 : List AV) (x2 : List AV) : Option R := J (P 4) (s4 x0 x1 x2)
noncomputable abbrev q17 {R : Type} (J : List Item -> St -> Option R) (x0 : Bool) (x1 : List AV) (x2 : Int) (x3 : List AV) : Option R := J (P 17) (s17 x0 x1 x2 x3)
noncomputable abbrev q23 {R : Type} (J : List Item -> St -> Option R) (x0 : List AV) : Option R := J (P 23) (s23 x0)
theorem k4 (J : List Item -> St -> Option R) (κ : List SV -> Option R) (x0 : Bool) (x1 : List AV) (x2 : List AV) : S R c1 c2 c3 c4 c5 c6 κ J 4 (s4 x0 x1 x2) = t4 c1 c2 c3 c4 c5 c6 x0 x1 x2 (q4 J) (q17 J) (q23 J) (K0 κ) (K1 κ) := by kernel_rfl
theorem k17 (J : List Item -> St -> Option R) (κ : List SV -> Option R) (x0 : Bool) (x1 : List AV) (x2 : Int) (x3 : List AV) : S R c1 c2 c3 c4 c5 c6 κ J 17 (s17 x0 x1 x2 x3) = t17 c1 c2 c3 c4 c5 c6 x0 x1 x2 x3 (q4 J) (q17 J) (q23 J) (K0 κ) (K1 κ) := by kernel_rfl
theorem k23 (J : List Item -> St -> Option R) (κ : List SV -> Option R) (x0 : List AV) : S R c1 c2 c3 c4 c5 c6 κ J 23 (s23 x0) = t23 c1 c2 c3 c4 c5 c6 x0 (q4 J) (q17 J) (q23 J) (K0 κ) (K1 κ) := by kernel_rfl
theorem k (κ : List SV -> Option R) (k : Nat) (a0 : ByteArray) : runF (C R c1 c2 c3 c4 c5 c6) Tryz.f21 10000 k [.str a0] κ = postbagref5_Addresses_0.e c1 c2 c3 c4 c5 c6 a0 (q4 (G R c1 c2 c3 c4 c5 c6 κ k)) (q17 (G R c1 c2 c3 c4 c5 c6 κ k)) (q23 (G R c1 c2 c3 c4 c5 c6 κ k)) (K0 κ) (K1 κ) := by kernel_rfl
theorem g23 (κ : List SV -> Option R) : ∀ (f : Nat), q23 (G R c1 c2 c3 c4 c5 c6 κ f) = L23 c1 c2 c3 c4 c5 c6 (K0 κ) (K1 κ) f
 | 0 => rfl
 | f + 1 => by
  funext x0
  show S R c1 c2 c3 c4 c5 c6 κ (G R c1 c2 c3 c4 c5 c6 κ f) 23 _ = _
  rw [k23]
  rfl
theorem gM4 (κ : List SV -> Option R) : ∀ (f : Nat), (q4 (G R c1 c2 c3 c4 c5 c6 κ f) = L4 c1 c2 c3 c4 c5 c6 (K0 κ) (K1 κ) f) /\ (q17 (G R c1 c2 c3 c4 c5 c6 κ f) = L17 c1 c2 c3 c4 c5 c6 (K0 κ) (K1 κ) f)
 | 0 => ⟨rfl, rfl⟩
 | f + 1 => by
  obtain ⟨ih0, ih1⟩ := gM4 κ f
  refine ⟨?_, ?_⟩
  ·funext x0 x1 x2
   show S R c1 c2 c3 c4 c5 c6 κ (G R c1 c2 c3 c4 c5 c6 κ f) 4 _ = _
   rw [k4, ih0, ih1, g23 R c1 c2 c3 c4 c5 c6 κ f]
   rfl
  ·funext x0 x1 x2 x3
   show S R c1 c2 c3 c4 c5 c6 κ (G R c1 c2 c3 c4 c5 c6 κ f) 17 _ = _
   rw [k17, ih0]
   rfl
theorem g4 (κ : List SV -> Option R) (f : Nat) : q4 (G R c1 c2 c3 c4 c5 c6 κ f) = L4 c1 c2 c3 c4 c5 c6 (K0 κ) (K1 κ) f := (gM4 R c1 c2 c3 c4 c5 c6 κ f).1
theorem g17 (κ : List SV -> Option R) (f : Nat) : q17 (G R c1 c2 c3 c4 c5 c6 κ f) = L17 c1 c2 c3 c4 c5 c6 (K0 κ) (K1 κ) f := (gM4 R c1 c2 c3 c4 c5 c6 κ f).2
end
theorem run (R : Type) (κ : List SV -> Option R) (a0 : ByteArray) : runF (C R postbagref5_pieces_0 postbagref5_part_0 postbagref5_text_0 postbagref5_is_0 postbagref5_full_0 postbagref5_address_0) Tryz.f21 10000 fuelK [.str a0] κ = postbagref5_Addresses_0 a0 (K0 κ) (K1 κ) := by
 rw [k]
 rw [g4 R postbagref5_pieces_0 postbagref5_part_0 postbagref5_text_0 postbagref5_is_0 postbagref5_full_0 postbagref5_address_0 κ fuelK, g17 R postbagref5_pieces_0 postbagref5_part_0 postbagref5_text_0 postbagref5_is_0 postbagref5_full_0 postbagref5_address_0 κ fuelK, g23 R postbagref5_pieces_0 postbagref5_part_0 postbagref5_text_0 postbagref5_is_0 postbagref5_full_0 postbagref5_address_0 κ fuelK]
 rfl
theorem Γ_does {R : Type} (tab : Tab) (ht : TabOk tab) (g : Nat) : Does (R := R) Tryz.prog (tabTy tyL) tab g ((C R postbagref5_pieces_0 postbagref5_part_0 postbagref5_text_0 postbagref5_is_0 postbagref5_full_0 postbagref5_address_0).call g) := by
 refine does_of fun xs κ => ?_
 show DoesAt _ _ _ g xs κ (Γ R postbagref5_pieces_0 postbagref5_part_0 postbagref5_text_0 postbagref5_is_0 postbagref5_full_0 postbagref5_address_0 g xs κ)
 unfold Γ
 split
 ·split
  ·exact postbagref5_pieces_0.does tab ht _ κ
  ·exact DoesAt.none
 ·split
  ·exact postbagref5_part_0.does tab ht _ κ
  ·exact DoesAt.none
 ·split
  ·exact postbagref5_is_0.does tab ht _ κ
  ·exact DoesAt.none
 ·split
  ·exact postbagref5_text_0.does tab ht _ κ
  ·exact DoesAt.none
 ·split
  ·exact postbagref5_full_0.does tab ht _ κ
  ·exact DoesAt.none
 ·split
  ·exact postbagref5_address_0.does tab ht _ κ
  ·exact DoesAt.none
 ·exact DoesAt.none
theorem does {R : Type} (tab : Tab) (ht : TabOk tab) (a0 : ByteArray) (κ : List SV -> Option R) : DoesAt Tryz.prog (tabTy tyL) tab 21 [.str a0] κ (postbagref5_Addresses_0 a0 (K0 κ) (K1 κ)) := by
 intro r h w vs Rt Ra bs hpre
 exact runF_sound tyOk (Γ_does tab ht) (show Tryz.prog.funcs[21]? = some Tryz.f21 by kernel_rfl) (by kernel_rfl) ((run R κ a0).trans h) hpre
end postbagref5_Addresses_0
namespace postbagref5_of_0
abbrev K0 {R : Type} (κ : List SV -> Option R) : Option R := κ [.nil]
abbrev K1 {R : Type} (κ : List SV -> Option R) (r0 : List AV) : Option R := κ [.fr 60 r0 true]
abbrev K2 {R : Type} (κ : List SV -> Option R) (r0 : List AV) : Option R := κ [.ro 60 r0 true]
section
variable (R : Type) (c1 : postbagref5_Get_0.F R) (c2 : postbagref5_Addresses_0.F R)
def Γ (g : Nat) (xs : List SV) (κ : List SV -> Option R) : Option R :=
 match g with
 | 21 => (match xs with
  | [.str a0] => c2 a0 (postbagref5_Addresses_0.K0 κ) (postbagref5_Addresses_0.K1 κ)
  | _ => none)
 | 81 => (match xs with
  | [.ro 42 a0 true, .str a1] => c1 a0 a1 (postbagref5_Get_0.K0 κ)
  | _ => none)
 | _ => none
def h (n : Nat) : Option (List (Nat × List (Nat × Nat))) :=
 match n with
 | _ => none
def C : Cfg R := ⟨tabTy tyL, Γ R c1 c2, fun _ => false, h⟩
theorem k (κ : List SV -> Option R) (k : Nat) (a0 : List AV) (a1 : ByteArray) : runF (C R c1 c2) Tryz.f82 10000 k [.ro 42 a0 true, .str a1] κ = postbagref5_of_0.e c1 c2 a0 a1 (K0 κ) (K1 κ) (K2 κ) := by kernel_rfl
end
theorem run (R : Type) (κ : List SV -> Option R) (a0 : List AV) (a1 : ByteArray) : runF (C R postbagref5_Get_0 postbagref5_Addresses_0) Tryz.f82 10000 fuelK [.ro 42 a0 true, .str a1] κ = postbagref5_of_0 a0 a1 (K0 κ) (K1 κ) (K2 κ) := by
 rw [k]
 rfl
theorem Γ_does {R : Type} (tab : Tab) (ht : TabOk tab) (g : Nat) : Does (R := R) Tryz.prog (tabTy tyL) tab g ((C R postbagref5_Get_0 postbagref5_Addresses_0).call g) := by
 refine does_of fun xs κ => ?_
 show DoesAt _ _ _ g xs κ (Γ R postbagref5_Get_0 postbagref5_Addresses_0 g xs κ)
 unfold Γ
 split
 ·split
  ·exact postbagref5_Addresses_0.does tab ht _ κ
  ·exact DoesAt.none
 ·split
  ·exact postbagref5_Get_0.does tab ht _ _ κ
  ·exact DoesAt.none
 ·exact DoesAt.none
theorem does {R : Type} (tab : Tab) (ht : TabOk tab) (a0 : List AV) (a1 : ByteArray) (κ : List SV -> Option R) : DoesAt Tryz.prog (tabTy tyL) tab 82 [.ro 42 a0 true, .str a1] κ (postbagref5_of_0 a0 a1 (K0 κ) (K1 κ) (K2 κ)) := by
 intro r h w vs Rt Ra bs hpre
 exact runF_sound tyOk (Γ_does tab ht) (show Tryz.prog.funcs[82]? = some Tryz.f82 by kernel_rfl) (by kernel_rfl) ((run R κ a0 a1).trans h) hpre
end postbagref5_of_0
namespace postbagref5_Envelope_0
abbrev K0 {R : Type} (κ : List SV -> Option R) (r0 : Bool) (r1 : ByteArray) (r2 : Bool) (r3 : ByteArray) (r4 : List AV) (r5 : List AV) (r6 : List AV) (r7 : List AV) (r8 : List AV) (r9 : List AV) (r10 : Bool) (r11 : ByteArray) (r12 : Bool) (r13 : ByteArray) : Option R := κ [.agg [.bool r0, .str r1, .bool r2, .str r3, .ro 60 r4 true, .ro 60 r5 true, .ro 60 r6 true, .ro 60 r7 true, .ro 60 r8 true, .ro 60 r9 true, .bool r10, .str r11, .bool r12, .str r13]]
section
variable (R : Type) (c1 : postbagref5_Get_0.F R) (c2 : postbagref5_of_0.F R)
def Γ (g : Nat) (xs : List SV) (κ : List SV -> Option R) : Option R :=
 match g with
 | 81 => (match xs with
  | [.ro 42 a0 true, .str a1] => c1 a0 a1 (postbagref5_Get_0.K0 κ)
  | _ => none)
 | 82 => (match xs with
  | [.ro 42 a0 true, .str a1] => c2 a0 a1 (postbagref5_of_0.K0 κ) (postbagref5_of_0.K1 κ) (postbagref5_of_0.K2 κ)
  | _ => none)
 | _ => none
def h (n : Nat) : Option (List (Nat × List (Nat × Nat))) :=
 match n with
 | 3 => some [(0, [(0, 0)]), (2, [(0, 0)]), (3, [(4, 62), (4, 1)])]
 | 4 => some [(0, [(0, 0)]), (2, [(0, 0)]), (3, [(5, 62), (5, 1)])]
 | 5 => some [(0, [(0, 0)]), (2, [(0, 0)]), (3, [(6, 62), (6, 1)])]
 | 7 => some [(0, [(0, 0)]), (2, [(0, 0)]), (3, [(5, 62), (5, 1)])]
 | 9 => some [(0, [(0, 0)]), (2, [(0, 0)]), (3, [(6, 62), (6, 1)])]
 | 10 => some [(0, [(0, 0)]), (2, [(0, 0)]), (3, [(7, 62), (7, 1)])]
 | 11 => some [(0, [(0, 0)]), (2, [(0, 0)]), (3, [(8, 62), (8, 1)])]
 | 12 => some [(2, [(0, 0)]), (3, [(9, 62), (9, 1)])]
 | _ => none
def C : Cfg R := ⟨tabTy tyL, Γ R c1 c2, fun _ => false, h⟩
noncomputable abbrev P (i : Nat) : List Item := placeOf Tryz.f30 i
noncomputable def S (κ : List SV -> Option R) (J : List Item -> St -> Option R) (i : Nat) (s : St) : Option R := start (C R c1 c2) J (retK (C R c1 c2) Tryz.f30.results.toList (List.range 0) κ) 10000 (P i) s
noncomputable def G (κ : List SV -> Option R) (f : Nat) (p : List Item) (s : St) : Option R := goto (C R c1 c2) (retK (C R c1 c2) Tryz.f30.results.toList (List.range 0) κ) 10000 f p s
def s3 (x0 : List AV) (x1 : Bool) (x2 : ByteArray) (x3 : Bool) (x4 : ByteArray) (x5 : Bool) (x6 : ByteArray) (x7 : Bool) (x8 : ByteArray) (x9 : Bool) (x10 : ByteArray) (x11 : Bool) (x12 : ByteArray) (x13 : List AV) (x14 : Bool) (x15 : ByteArray) (x16 : Bool) (x17 : ByteArray) : St := ⟨mkS 46 [(0, .ro 42 x0 true), (2, .ptr 255 0), (3, .ptr 319 0)], [(255, .var 46 [.bool x1, .str x2, .bool x3, .str x4, .nil, .nil, .nil, .nil, .nil, .nil, .bool x5, .str x6, .bool x7, .str x8]), (319, .var 46 [.bool x9, .str x10, .bool x11, .str x12, .ro 60 x13 true, .nil, .nil, .nil, .nil, .nil, .bool x14, .str x15, .bool x16, .str x17])], top⟩
def s4 (x0 : List AV) (x1 : Bool) (x2 : ByteArray) (x3 : Bool) (x4 : ByteArray) (x5 : Bool) (x6 : ByteArray) (x7 : Bool) (x8 : ByteArray) (x9 : Bool) (x10 : ByteArray) (x11 : Bool) (x12 : ByteArray) (x13 : List AV) (x14 : List AV) (x15 : Bool) (x16 : ByteArray) (x17 : Bool) (x18 : ByteArray) : St := ⟨mkS 46 [(0, .ro 42 x0 true), (2, .ptr 255 0), (3, .ptr 319 0)], [(255, .var 46 [.bool x1, .str x2, .bool x3, .str x4, .nil, .nil, .nil, .nil, .nil, .nil, .bool x5, .str x6, .bool x7, .str x8]), (319, .var 46 [.bool x9, .str x10, .bool x11, .str x12, .ro 60 x13 true, .ro 60 x14 true, .nil, .nil, .nil, .nil, .bool x15, .str x16, .bool x17, .str x18])], top⟩
def s5 (x0 : List AV) (x1 : Bool) (x2 : ByteArray) (x3 : Bool) (x4 : ByteArray) (x5 : Bool) (x6 : ByteArray) (x7 : Bool) (x8 : ByteArray) (x9 : Bool) (x10 : ByteArray) (x11 : Bool) (x12 : ByteArray) (x13 : List AV) (x14 : List AV) (x15 : List AV) (x16 : Bool) (x17 : ByteArray) (x18 : Bool) (x19 : ByteArray) : St := ⟨mkS 46 [(0, .ro 42 x0 true), (2, .ptr 255 0), (3, .ptr 319 0)], [(255, .var 46 [.bool x1, .str x2, .bool x3, .str x4, .nil, .nil, .nil, .nil, .nil, .nil, .bool x5, .str x6, .bool x7, .str x8]), (319, .var 46 [.bool x9, .str x10, .bool x11, .str x12, .ro 60 x13 true, .ro 60 x14 true, .ro 60 x15 true, .nil, .nil, .nil, .bool x16, .str x17, .bool x18, .str x19])], top⟩
def s7 (x0 : List AV) (x1 : Bool) (x2 : ByteArray) (x3 : Bool) (x4 : ByteArray) (x5 : Bool) (x6 : ByteArray) (x7 : Bool) (x8 : ByteArray) (x9 : Bool) (x10 : ByteArray) (x11 : Bool) (x12 : ByteArray) (x13 : List AV) (x14 : List AV) (x15 : List AV) (x16 : Bool) (x17 : ByteArray) (x18 : Bool) (x19 : ByteArray) : St := ⟨mkS 46 [(0, .ro 42 x0 true), (2, .ptr 255 0), (3, .ptr 319 0)], [(255, .var 46 [.bool x1, .str x2, .bool x3, .str x4, .nil, .nil, .nil, .nil, .nil, .nil, .bool x5, .str x6, .bool x7, .str x8]), (319, .var 46 [.bool x9, .str x10, .bool x11, .str x12, .ro 60 x13 true, .ro 60 x14 true, .ro 60 x15 true, .nil, .nil, .nil, .bool x16, .str x17, .bool x18, .str x19])], top⟩
def s9 (x0 : List AV) (x1 : Bool) (x2 : ByteArray) (x3 : Bool) (x4 : ByteArray) (x5 : Bool) (x6 : ByteArray) (x7 : Bool) (x8 : ByteArray) (x9 : Bool) (x10 : ByteArray) (x11 : Bool) (x12 : ByteArray) (x13 : List AV) (x14 : List AV) (x15 : List AV) (x16 : Bool) (x17 : ByteArray) (x18 : Bool) (x19 : ByteArray) : St := ⟨mkS 46 [(0, .ro 42 x0 true), (2, .ptr 255 0), (3, .ptr 319 0)], [(255, .var 46 [.bool x1, .str x2, .bool x3, .str x4, .nil, .nil, .nil, .nil, .nil, .nil, .bool x5, .str x6, .bool x7, .str x8]), (319, .var 46 [.bool x9, .str x10, .bool x11, .str x12, .ro 60 x13 true, .ro 60 x14 true, .ro 60 x15 true, .nil, .nil, .nil, .bool x16, .str x17, .bool x18, .str x19])], top⟩
def s10 (x0 : List AV) (x1 : Bool) (x2 : ByteArray) (x3 : Bool) (x4 : ByteArray) (x5 : Bool) (x6 : ByteArray) (x7 : Bool) (x8 : ByteArray) (x9 : Bool) (x10 : ByteArray) (x11 : Bool) (x12 : ByteArray) (x13 : List AV) (x14 : List AV) (x15 : List AV) (x16 : List AV) (x17 : Bool) (x18 : ByteArray) (x19 : Bool) (x20 : ByteArray) : St := ⟨mkS 46 [(0, .ro 42 x0 true), (2, .ptr 255 0), (3, .ptr 319 0)], [(255, .var 46 [.bool x1, .str x2, .bool x3, .str x4, .nil, .nil, .nil, .nil, .nil, .nil, .bool x5, .str x6, .bool x7, .str x8]), (319, .var 46 [.bool x9, .str x10, .bool x11, .str x12, .ro 60 x13 true, .ro 60 x14 true, .ro 60 x15 true, .ro 60 x16 true, .nil, .nil, .bool x17, .str x18, .bool x19, .str x20])], top⟩
def s11 (x0 : List AV) (x1 : Bool) (x2 : ByteArray) (x3 : Bool) (x4 : ByteArray) (x5 : Bool) (x6 : ByteArray) (x7 : Bool) (x8 : ByteArray) (x9 : Bool) (x10 : ByteArray) (x11 : Bool) (x12 : ByteArray) (x13 : List AV) (x14 : List AV) (x15 : List AV) (x16 : List AV) (x17 : List AV) (x18 : Bool) (x19 : ByteArray) (x20 : Bool) (x21 : ByteArray) : St := ⟨mkS 46 [(0, .ro 42 x0 true), (2, .ptr 255 0), (3, .ptr 319 0)], [(255, .var 46 [.bool x1, .str x2, .bool x3, .str x4, .nil, .nil, .nil, .nil, .nil, .nil, .bool x5, .str x6, .bool x7, .str x8]), (319, .var 46 [.bool x9, .str x10, .bool x11, .str x12, .ro 60 x13 true, .ro 60 x14 true, .ro 60 x15 true, .ro 60 x16 true, .ro 60 x17 true, .nil, .bool x18, .str x19, .bool x20, .str x21])], top⟩
def s12 (x0 : Bool) (x1 : ByteArray) (x2 : Bool) (x3 : ByteArray) (x4 : Bool) (x5 : ByteArray) (x6 : Bool) (x7 : ByteArray) (x8 : Bool) (x9 : ByteArray) (x10 : Bool) (x11 : ByteArray) (x12 : List AV) (x13 : List AV) (x14 : List AV) (x15 : List AV) (x16 : List AV) (x17 : List AV) (x18 : Bool) (x19 : ByteArray) (x20 : Bool) (x21 : ByteArray) : St := ⟨mkS 46 [(2, .ptr 255 0), (3, .ptr 319 0)], [(255, .var 46 [.bool x0, .str x1, .bool x2, .str x3, .nil, .nil, .nil, .nil, .nil, .nil, .bool x4, .str x5, .bool x6, .str x7]), (319, .var 46 [.bool x8, .str x9, .bool x10, .str x11, .ro 60 x12 true, .ro 60 x13 true, .ro 60 x14 true, .ro 60 x15 true, .ro 60 x16 true, .ro 60 x17 true, .bool x18, .str x19, .bool x20, .str x21])], top⟩
noncomputable abbrev q3 {R : Type} (J : List Item -> St -> Option R) (x0 : List AV) (x1 : Bool) (x2 : ByteArray) (x3 : Bool) (x4 : ByteArray) (x5 : Bool) (x6 : ByteArray) (x7 : Bool) (x8 : ByteArray) (x9 : Bool) (x10 : ByteArray) (x11 : Bool) (x12 : ByteArray) (x13 : List AV) (x14 : Bool) (x15 : ByteArray) (x16 : Bool) (x17 : ByteArray) : Option R := J (P 3) (s3 x0 x1 x2 x3 x4 x5 x6 x7 x8 x9 x10 x11 x12 x13 x14 x15 x16 x17)
noncomputable abbrev q4 {R : Type} (J : List Item -> St -> Option R) (x0 : List AV) (x1 : Bool) (x2 : ByteArray) (x3 : Bool) (x4 : ByteArray) (x5 : Bool) (x6 : ByteArray) (x7 : Bool) (x8 : ByteArray) (x9 : Bool) (x10 : ByteArray) (x11 : Bool) (x12 : ByteArray) (x13 : List AV) (x14 : List AV) (x15 : Bool) (x16 : ByteArray) (x17 : Bool) (x18 : ByteArray) : Option R := J (P 4) (s4 x0 x1 x2 x3 x4 x5 x6 x7 x8 x9 x10 x11 x12 x13 x14 x15 x16 x17 x18)
noncomputable abbrev q5 {R : Type} (J : List Item -> St -> Option R) (x0 : List AV) (x1 : Bool) (x2 : ByteArray) (x3 : Bool) (x4 : ByteArray) (x5 : Bool) (x6 : ByteArray) (x7 : Bool) (x8 : ByteArray) (x9 : Bool) (x10 : ByteArray) (x11 : Bool) (x12 : ByteArray) (x13 : List AV) (x14 : List AV) (x15 : List AV) (x16 : Bool) (x17 : ByteArray) (x18 : Bool) (x19 : ByteArray) : Option R := J (P 5) (s5 x0 x1 x2 x3 x4 x5 x6 x7 x8 x9 x10 x11 x12 x13 x14 x15 x16 x17 x18 x19)
noncomputable abbrev q7 {R : Type} (J : List Item -> St -> Option R) (x0 : List AV) (x1 : Bool) (x2 : ByteArray) (x3 : Bool) (x4 : ByteArray) (x5 : Bool) (x6 : ByteArray) (x7 : Bool) (x8 : ByteArray) (x9 : Bool) (x10 : ByteArray) (x11 : Bool) (x12 : ByteArray) (x13 : List AV) (x14 : List AV) (x15 : List AV) (x16 : Bool) (x17 : ByteArray) (x18 : Bool) (x19 : ByteArray) : Option R := J (P 7) (s7 x0 x1 x2 x3 x4 x5 x6 x7 x8 x9 x10 x11 x12 x13 x14 x15 x16 x17 x18 x19)
noncomputable abbrev q9 {R : Type} (J : List Item -> St -> Option R) (x0 : List AV) (x1 : Bool) (x2 : ByteArray) (x3 : Bool) (x4 : ByteArray) (x5 : Bool) (x6 : ByteArray) (x7 : Bool) (x8 : ByteArray) (x9 : Bool) (x10 : ByteArray) (x11 : Bool) (x12 : ByteArray) (x13 : List AV) (x14 : List AV) (x15 : List AV) (x16 : Bool) (x17 : ByteArray) (x18 : Bool) (x19 : ByteArray) : Option R := J (P 9) (s9 x0 x1 x2 x3 x4 x5 x6 x7 x8 x9 x10 x11 x12 x13 x14 x15 x16 x17 x18 x19)
noncomputable abbrev q10 {R : Type} (J : List Item -> St -> Option R) (x0 : List AV) (x1 : Bool) (x2 : ByteArray) (x3 : Bool) (x4 : ByteArray) (x5 : Bool) (x6 : ByteArray) (x7 : Bool) (x8 : ByteArray) (x9 : Bool) (x10 : ByteArray) (x11 : Bool) (x12 : ByteArray) (x13 : List AV) (x14 : List AV) (x15 : List AV) (x16 : List AV) (x17 : Bool) (x18 : ByteArray) (x19 : Bool) (x20 : ByteArray) : Option R := J (P 10) (s10 x0 x1 x2 x3 x4 x5 x6 x7 x8 x9 x10 x11 x12 x13 x14 x15 x16 x17 x18 x19 x20)
noncomputable abbrev q11 {R : Type} (J : List Item -> St -> Option R) (x0 : List AV) (x1 : Bool) (x2 : ByteArray) (x3 : Bool) (x4 : ByteArray) (x5 : Bool) (x6 : ByteArray) (x7 : Bool) (x8 : ByteArray) (x9 : Bool) (x10 : ByteArray) (x11 : Bool) (x12 : ByteArray) (x13 : List AV) (x14 : List AV) (x15 : List AV) (x16 : List AV) (x17 : List AV) (x18 : Bool) (x19 : ByteArray) (x20 : Bool) (x21 : ByteArray) : Option R := J (P 11) (s11 x0 x1 x2 x3 x4 x5 x6 x7 x8 x9 x10 x11 x12 x13 x14 x15 x16 x17 x18 x19 x20 x21)
noncomputable abbrev q12 {R : Type} (J : List Item -> St -> Option R) (x0 : Bool) (x1 : ByteArray) (x2 : Bool) (x3 : ByteArray) (x4 : Bool) (x5 : ByteArray) (x6 : Bool) (x7 : ByteArray) (x8 : Bool) (x9 : ByteArray) (x10 : Bool) (x11 : ByteArray) (x12 : List AV) (x13 : List AV) (x14 : List AV) (x15 : List AV) (x16 : List AV) (x17 : List AV) (x18 : Bool) (x19 : ByteArray) (x20 : Bool) (x21 : ByteArray) : Option R := J (P 12) (s12 x0 x1 x2 x3 x4 x5 x6 x7 x8 x9 x10 x11 x12 x13 x14 x15 x16 x17 x18 x19 x20 x21)
theorem k3 (J : List Item -> St -> Option R) (κ : List SV -> Option R) (x0 : List AV) (x1 : Bool) (x2 : ByteArray) (x3 : Bool) (x4 : ByteArray) (x5 : Bool) (x6 : ByteArray) (x7 : Bool) (x8 : ByteArray) (x9 : Bool) (x10 : ByteArray) (x11 : Bool) (x12 : ByteArray) (x13 : List AV) (x14 : Bool) (x15 : ByteArray) (x16 : Bool) (x17 : ByteArray) : S R c1 c2 κ J 3 (s3 x0 x1 x2 x3 x4 x5 x6 x7 x8 x9 x10 x11 x12 x13 x14 x15 x16 x17) = t3 c1 c2 x0 x1 x2 x3 x4 x5 x6 x7 x8 x9 x10 x11 x12 x13 x14 x15 x16 x17 (q3 J) (q4 J) (q5 J) (q7 J) (q9 J) (q10 J) (q11 J) (q12 J) (K0 κ) := by kernel_rfl
theorem k4 (J : List Item -> St -> Option R) (κ : List SV -> Option R) (x0 : List AV) (x1 : Bool) (x2 : ByteArray) (x3 : Bool) (x4 : ByteArray) (x5 : Bool) (x6 : ByteArray) (x7 : Bool) (x8 : ByteArray) (x9 : Bool) (x10 : ByteArray) (x11 : Bool) (x12 : ByteArray) (x13 : List AV) (x14 : List AV) (x15 : Bool) (x16 : ByteArray) (x17 : Bool) (x18 : ByteArray) : S R c1 c2 κ J 4 (s4 x0 x1 x2 x3 x4 x5 x6 x7 x8 x9 x10 x11 x12 x13 x14 x15 x16 x17 x18) = t4 c1 c2 x0 x1 x2 x3 x4 x5 x6 x7 x8 x9 x10 x11 x12 x13 x14 x15 x16 x17 x18 (q3 J) (q4 J) (q5 J) (q7 J) (q9 J) (q10 J) (q11 J) (q12 J) (K0 κ) := by kernel_rfl
theorem k5 (J : List Item -> St -> Option R) (κ : List SV -> Option R) (x0 : List AV) (x1 : Bool) (x2 : ByteArray) (x3 : Bool) (x4 : ByteArray) (x5 : Bool) (x6 : ByteArray) (x7 : Bool) (x8 : ByteArray) (x9 : Bool) (x10 : ByteArray) (x11 : Bool) (x12 : ByteArray) (x13 : List AV) (x14 : List AV) (x15 : List AV) (x16 : Bool) (x17 : ByteArray) (x18 : Bool) (x19 : ByteArray) : S R c1 c2 κ J 5 (s5 x0 x1 x2 x3 x4 x5 x6 x7 x8 x9 x10 x11 x12 x13 x14 x15 x16 x17 x18 x19) = t5 c1 c2 x0 x1 x2 x3 x4 x5 x6 x7 x8 x9 x10 x11 x12 x13 x14 x15 x16 x17 x18 x19 (q3 J) (q4 J) (q5 J) (q7 J) (q9 J) (q10 J) (q11 J) (q12 J) (K0 κ) := by kernel_rfl
theorem k7 (J : List Item -> St -> Option R) (κ : List SV -> Option R) (x0 : List AV) (x1 : Bool) (x2 : ByteArray) (x3 : Bool) (x4 : ByteArray) (x5 : Bool) (x6 : ByteArray) (x7 : Bool) (x8 : ByteArray) (x9 : Bool) (x10 : ByteArray) (x11 : Bool) (x12 : ByteArray) (x13 : List AV) (x14 : List AV) (x15 : List AV) (x16 : Bool) (x17 : ByteArray) (x18 : Bool) (x19 : ByteArray) : S R c1 c2 κ J 7 (s7 x0 x1 x2 x3 x4 x5 x6 x7 x8 x9 x10 x11 x12 x13 x14 x15 x16 x17 x18 x19) = t7 c1 c2 x0 x1 x2 x3 x4 x5 x6 x7 x8 x9 x10 x11 x12 x13 x14 x15 x16 x17 x18 x19 (q3 J) (q4 J) (q5 J) (q7 J) (q9 J) (q10 J) (q11 J) (q12 J) (K0 κ) := by kernel_rfl
theorem k9 (J : List Item -> St -> Option R) (κ : List SV -> Option R) (x0 : List AV) (x1 : Bool) (x2 : ByteArray) (x3 : Bool) (x4 : ByteArray) (x5 : Bool) (x6 : ByteArray) (x7 : Bool) (x8 : ByteArray) (x9 : Bool) (x10 : ByteArray) (x11 : Bool) (x12 : ByteArray) (x13 : List AV) (x14 : List AV) (x15 : List AV) (x16 : Bool) (x17 : ByteArray) (x18 : Bool) (x19 : ByteArray) : S R c1 c2 κ J 9 (s9 x0 x1 x2 x3 x4 x5 x6 x7 x8 x9 x10 x11 x12 x13 x14 x15 x16 x17 x18 x19) = t9 c1 c2 x0 x1 x2 x3 x4 x5 x6 x7 x8 x9 x10 x11 x12 x13 x14 x15 x16 x17 x18 x19 (q3 J) (q4 J) (q5 J) (q7 J) (q9 J) (q10 J) (q11 J) (q12 J) (K0 κ) := by kernel_rfl
theorem k10 (J : List Item -> St -> Option R) (κ : List SV -> Option R) (x0 : List AV) (x1 : Bool) (x2 : ByteArray) (x3 : Bool) (x4 : ByteArray) (x5 : Bool) (x6 : ByteArray) (x7 : Bool) (x8 : ByteArray) (x9 : Bool) (x10 : ByteArray) (x11 : Bool) (x12 : ByteArray) (x13 : List AV) (x14 : List AV) (x15 : List AV) (x16 : List AV) (x17 : Bool) (x18 : ByteArray) (x19 : Bool) (x20 : ByteArray) : S R c1 c2 κ J 10 (s10 x0 x1 x2 x3 x4 x5 x6 x7 x8 x9 x10 x11 x12 x13 x14 x15 x16 x17 x18 x19 x20) = t10 c1 c2 x0 x1 x2 x3 x4 x5 x6 x7 x8 x9 x10 x11 x12 x13 x14 x15 x16 x17 x18 x19 x20 (q3 J) (q4 J) (q5 J) (q7 J) (q9 J) (q10 J) (q11 J) (q12 J) (K0 κ) := by kernel_rfl
theorem k11 (J : List Item -> St -> Option R) (κ : List SV -> Option R) (x0 : List AV) (x1 : Bool) (x2 : ByteArray) (x3 : Bool) (x4 : ByteArray) (x5 : Bool) (x6 : ByteArray) (x7 : Bool) (x8 : ByteArray) (x9 : Bool) (x10 : ByteArray) (x11 : Bool) (x12 : ByteArray) (x13 : List AV) (x14 : List AV) (x15 : List AV) (x16 : List AV) (x17 : List AV) (x18 : Bool) (x19 : ByteArray) (x20 : Bool) (x21 : ByteArray) : S R c1 c2 κ J 11 (s11 x0 x1 x2 x3 x4 x5 x6 x7 x8 x9 x10 x11 x12 x13 x14 x15 x16 x17 x18 x19 x20 x21) = t11 c1 c2 x0 x1 x2 x3 x4 x5 x6 x7 x8 x9 x10 x11 x12 x13 x14 x15 x16 x17 x18 x19 x20 x21 (q3 J) (q4 J) (q5 J) (q7 J) (q9 J) (q10 J) (q11 J) (q12 J) (K0 κ) := by kernel_rfl
theorem k12 (J : List Item -> St -> Option R) (κ : List SV -> Option R) (x0 : Bool) (x1 : ByteArray) (x2 : Bool) (x3 : ByteArray) (x4 : Bool) (x5 : ByteArray) (x6 : Bool) (x7 : ByteArray) (x8 : Bool) (x9 : ByteArray) (x10 : Bool) (x11 : ByteArray) (x12 : List AV) (x13 : List AV) (x14 : List AV) (x15 : List AV) (x16 : List AV) (x17 : List AV) (x18 : Bool) (x19 : ByteArray) (x20 : Bool) (x21 : ByteArray) : S R c1 c2 κ J 12 (s12 x0 x1 x2 x3 x4 x5 x6 x7 x8 x9 x10 x11 x12 x13 x14 x15 x16 x17 x18 x19 x20 x21) = t12 c1 c2 x0 x1 x2 x3 x4 x5 x6 x7 x8 x9 x10 x11 x12 x13 x14 x15 x16 x17 x18 x19 x20 x21 (q3 J) (q4 J) (q5 J) (q7 J) (q9 J) (q10 J) (q11 J) (q12 J) (K0 κ) := by kernel_rfl
theorem k (κ : List SV -> Option R) (k : Nat) (a0 : List AV) : runF (C R c1 c2) Tryz.f30 10000 k [.ro 42 a0 true] κ = postbagref5_Envelope_0.e c1 c2 a0 (q3 (G R c1 c2 κ k)) (q4 (G R c1 c2 κ k)) (q5 (G R c1 c2 κ k)) (q7 (G R c1 c2 κ k)) (q9 (G R c1 c2 κ k)) (q10 (G R c1 c2 κ k)) (q11 (G R c1 c2 κ k)) (q12 (G R c1 c2 κ k)) (K0 κ) := by kernel_rfl
theorem g12 (κ : List SV -> Option R) : ∀ (f : Nat), q12 (G R c1 c2 κ f) = L12 c1 c2 (K0 κ) f
 | 0 => rfl
 | f + 1 => by
  funext x0 x1 x2 x3 x4 x5 x6 x7 x8 x9 x10 x11 x12 x13 x14 x15 x16 x17 x18 x19 x20 x21
  show S R c1 c2 κ (G R c1 c2 κ f) 12 _ = _
  rw [k12]
  rfl
theorem g11 (κ : List SV -> Option R) : ∀ (f : Nat), q11 (G R c1 c2 κ f) = L11 c1 c2 (K0 κ) f
 | 0 => rfl
 | f + 1 => by
  funext x0 x1 x2 x3 x4 x5 x6 x7 x8 x9 x10 x11 x12 x13 x14 x15 x16 x17 x18 x19 x20 x21
  show S R c1 c2 κ (G R c1 c2 κ f) 11 _ = _
  rw [k11, g12 R c1 c2 κ f]
  rfl
theorem g10 (κ : List SV -> Option R) : ∀ (f : Nat), q10 (G R c1 c2 κ f) = L10 c1 c2 (K0 κ) f
 | 0 => rfl
 | f + 1 => by
  funext x0 x1 x2 x3 x4 x5 x6 x7 x8 x9 x10 x11 x12 x13 x14 x15 x16 x17 x18 x19 x20
  show S R c1 c2 κ (G R c1 c2 κ f) 10 _ = _
  rw [k10, g11 R c1 c2 κ f]
  rfl
theorem g9 (κ : List SV -> Option R) : ∀ (f : Nat), q9 (G R c1 c2 κ f) = L9 c1 c2 (K0 κ) f
 | 0 => rfl
 | f + 1 => by
  funext x0 x1 x2 x3 x4 x5 x6 x7 x8 x9 x10 x11 x12 x13 x14 x15 x16 x17 x18 x19
  show S R c1 c2 κ (G R c1 c2 κ f) 9 _ = _
  rw [k9, g10 R c1 c2 κ f]
  rfl
theorem g7 (κ : List SV -> Option R) : ∀ (f : Nat), q7 (G R c1 c2 κ f) = L7 c1 c2 (K0 κ) f
 | 0 => rfl
 | f + 1 => by
  funext x0 x1 x2 x3 x4 x5 x6 x7 x8 x9 x10 x11 x12 x13 x14 x15 x16 x17 x18 x19
  show S R c1 c2 κ (G R c1 c2 κ f) 7 _ = _
  rw [k7, g9 R c1 c2 κ f]
  rfl
theorem g5 (κ : List SV -> Option R) : ∀ (f : Nat), q5 (G R c1 c2 κ f) = L5 c1 c2 (K0 κ) f
 | 0 => rfl
 | f + 1 => by
  funext x0 x1 x2 x3 x4 x5 x6 x7 x8 x9 x10 x11 x12 x13 x14 x15 x16 x17 x18 x19
  show S R c1 c2 κ (G R c1 c2 κ f) 5 _ = _
  rw [k5, g7 R c1 c2 κ f]
  rfl
theorem g4 (κ : List SV -> Option R) : ∀ (f : Nat), q4 (G R c1 c2 κ f) = L4 c1 c2 (K0 κ) f
 | 0 => rfl
 | f + 1 => by
  funext x0 x1 x2 x3 x4 x5 x6 x7 x8 x9 x10 x11 x12 x13 x14 x15 x16 x17 x18
  show S R c1 c2 κ (G R c1 c2 κ f) 4 _ = _
  rw [k4, g5 R c1 c2 κ f]
  rfl
theorem g3 (κ : List SV -> Option R) : ∀ (f : Nat), q3 (G R c1 c2 κ f) = L3 c1 c2 (K0 κ) f
 | 0 => rfl
 | f + 1 => by
  funext x0 x1 x2 x3 x4 x5 x6 x7 x8 x9 x10 x11 x12 x13 x14 x15 x16 x17
  show S R c1 c2 κ (G R c1 c2 κ f) 3 _ = _
  rw [k3, g4 R c1 c2 κ f]
  rfl
end
theorem run (R : Type) (κ : List SV -> Option R) (a0 : List AV) : runF (C R postbagref5_Get_0 postbagref5_of_0) Tryz.f30 10000 fuelK [.ro 42 a0 true] κ = postbagref5_Envelope_0 a0 (K0 κ) := by
 rw [k]
 rw [g3 R postbagref5_Get_0 postbagref5_of_0 κ fuelK, g4 R postbagref5_Get_0 postbagref5_of_0 κ fuelK, g5 R postbagref5_Get_0 postbagref5_of_0 κ fuelK, g7 R postbagref5_Get_0 postbagref5_of_0 κ fuelK, g9 R postbagref5_Get_0 postbagref5_of_0 κ fuelK, g10 R postbagref5_Get_0 postbagref5_of_0 κ fuelK, g11 R postbagref5_Get_0 postbagref5_of_0 κ fuelK, g12 R postbagref5_Get_0 postbagref5_of_0 κ fuelK]
 rfl
theorem Γ_does {R : Type} (tab : Tab) (ht : TabOk tab) (g : Nat) : Does (R := R) Tryz.prog (tabTy tyL) tab g ((C R postbagref5_Get_0 postbagref5_of_0).call g) := by
 refine does_of fun xs κ => ?_
 show DoesAt _ _ _ g xs κ (Γ R postbagref5_Get_0 postbagref5_of_0 g xs κ)
 unfold Γ
 split
 ·split
  ·exact postbagref5_Get_0.does tab ht _ _ κ
  ·exact DoesAt.none
 ·split
  ·exact postbagref5_of_0.does tab ht _ _ κ
  ·exact DoesAt.none
 ·exact DoesAt.none
theorem does {R : Type} (tab : Tab) (ht : TabOk tab) (a0 : List AV) (κ : List SV -> Option R) : DoesAt Tryz.prog (tabTy tyL) tab 30 [.ro 42 a0 true] κ (postbagref5_Envelope_0 a0 (K0 κ)) := by
 intro r h w vs Rt Ra bs hpre
 exact runF_sound tyOk (Γ_does tab ht) (show Tryz.prog.funcs[30]? = some Tryz.f30 by kernel_rfl) (by kernel_rfl) ((run R κ a0).trans h) hpre
end postbagref5_Envelope_0
namespace postbaglaw5_addresses_or
abbrev K0 {R : Type} (κ : List SV -> Option R) (r0 : Bool) : Option R := κ [.bool r0]
section
variable (R : Type)
def Γ (g : Nat) (xs : List SV) (κ : List SV -> Option R) : Option R :=
 match g with
 | _ => none
def h (n : Nat) : Option (List (Nat × List (Nat × Nat))) :=
 match n with
 | 4 => some [(0, [(0, 0)]), (1, [(0, 0)]), (5, [(0, 0)])]
 | _ => none
def C : Cfg R := ⟨tabTy tyL, Γ R, fun _ => false, h⟩
noncomputable abbrev P (i : Nat) : List Item := placeOf Tryz.f22 i
noncomputable def S (κ : List SV -> Option R) (J : List Item -> St -> Option R) (i : Nat) (s : St) : Option R := start (C R) J (retK (C R) Tryz.f22.results.toList (List.range 0) κ) 10000 (P i) s
noncomputable def G (κ : List SV -> Option R) (f : Nat) (p : List Item) (s : St) : Option R := goto (C R) (retK (C R) Tryz.f22.results.toList (List.range 0) κ) 10000 f p s
def s4 (x0 : List AV) (x1 : List AV) (x2 : Int) : St := ⟨mkS 26 [(0, .ro 60 x0 false), (1, .ro 60 x1 true), (5, .int .i64 x2)], [], top⟩
noncomputable abbrev q4 {R : Type} (J : List Item -> St -> Option R) (x0 : List AV) (x1 : List AV) (x2 : Int) : Option R := J (P 4) (s4 x0 x1 x2)
theorem k4 (J : List Item -> St -> Option R) (κ : List SV -> Option R) (x0 : List AV) (x1 : List AV) (x2 : Int) : S R κ J 4 (s4 x0 x1 x2) = t4 x0 x1 x2 (q4 J) (K0 κ) := by kernel_rfl
theorem k (κ : List SV -> Option R) (k : Nat) (a0 : List AV) (a1 : List AV) : runF (C R) Tryz.f22 10000 k [.ro 60 a0 false, .ro 60 a1 true] κ = postbaglaw5_addresses_or.e a0 a1 (q4 (G R κ k)) (K0 κ) := by kernel_rfl
theorem g4 (κ : List SV -> Option R) : ∀ (f : Nat), q4 (G R κ f) = L4 (K0 κ) f
 | 0 => rfl
 | f + 1 => by
  funext x0 x1 x2
  show S R κ (G R κ f) 4 _ = _
  rw [k4, g4 κ f]
  rfl
end
theorem run (R : Type) (κ : List SV -> Option R) (a0 : List AV) (a1 : List AV) : runF (C R) Tryz.f22 10000 fuelK [.ro 60 a0 false, .ro 60 a1 true] κ = postbaglaw5_addresses_or a0 a1 (K0 κ) := by
 rw [k]
 rw [g4 R κ fuelK]
 rfl
theorem Γ_does {R : Type} (tab : Tab) (ht : TabOk tab) (g : Nat) : Does (R := R) Tryz.prog (tabTy tyL) tab g ((C R).call g) := by
 refine does_of fun xs κ => ?_
 show DoesAt _ _ _ g xs κ (Γ R g xs κ)
 unfold Γ
 split
 ·exact DoesAt.none
theorem does {R : Type} (tab : Tab) (ht : TabOk tab) (a0 : List AV) (a1 : List AV) (κ : List SV -> Option R) : DoesAt Tryz.prog (tabTy tyL) tab 22 [.ro 60 a0 false, .ro 60 a1 true] κ (postbaglaw5_addresses_or a0 a1 (K0 κ)) := by
 intro r h w vs Rt Ra bs hpre
 exact runF_sound tyOk (Γ_does tab ht) (show Tryz.prog.funcs[22]? = some Tryz.f22 by kernel_rfl) (by kernel_rfl) ((run R κ a0 a1).trans h) hpre
end postbaglaw5_addresses_or
namespace postbaglaw5_envelopes_absbsoooooobsbseabsbsrrrrrrbsbse
abbrev K0 {R : Type} (κ : List SV -> Option R) (r0 : Bool) : Option R := κ [.bool r0]
section
variable (R : Type) (c1 : postbaglaw5_addresses_or.F R)
def Γ (g : Nat) (xs : List SV) (κ : List SV -> Option R) : Option R :=
 match g with
 | 22 => (match xs with
  | [.ro 60 a0 false, .ro 60 a1 true] => c1 a0 a1 (postbaglaw5_addresses_or.K0 κ)
  | _ => none)
 | _ => none
def h (n : Nat) : Option (List (Nat × List (Nat × Nat))) :=
 match n with
 | _ => none
def C : Cfg R := ⟨tabTy tyL, Γ R c1, fun _ => false, h⟩
theorem k (κ : List SV -> Option R) (k : Nat) (a0 : Bool) (a1 : ByteArray) (a2 : Bool) (a3 : ByteArray) (a4 : List AV) (a5 : List AV) (a6 : List AV) (a7 : List AV) (a8 : List AV) (a9 : List AV) (a10 : Bool) (a11 : ByteArray) (a12 : Bool) (a13 : ByteArray) (a14 : Bool) (a15 : ByteArray) (a16 : Bool) (a17 : ByteArray) (a18 : List AV) (a19 : List AV) (a20 : List AV) (a21 : List AV) (a22 : List AV) (a23 : List AV) (a24 : Bool) (a25 : ByteArray) (a26 : Bool) (a27 : ByteArray) : runF (C R c1) Tryz.f29 10000 k [.agg [.bool a0, .str a1, .bool a2, .str a3, .ro 60 a4 false, .ro 60 a5 false, .ro 60 a6 false, .ro 60 a7 false, .ro 60 a8 false, .ro 60 a9 false, .bool a10, .str a11, .bool a12, .str a13], .agg [.bool a14, .str a15, .bool a16, .str a17, .ro 60 a18 true, .ro 60 a19 true, .ro 60 a20 true, .ro 60 a21 true, .ro 60 a22 true, .ro 60 a23 true, .bool a24, .str a25, .bool a26, .str a27]] κ = postbaglaw5_envelopes_absbsoooooobsbseabsbsrrrrrrbsbse.e c1 a0 a1 a2 a3 a4 a5 a6 a7 a8 a9 a10 a11 a12 a13 a14 a15 a16 a17 a18 a19 a20 a21 a22 a23 a24 a25 a26 a27 (K0 κ) := by kernel_rfl
end
theorem run (R : Type) (κ : List SV -> Option R) (a0 : Bool) (a1 : ByteArray) (a2 : Bool) (a3 : ByteArray) (a4 : List AV) (a5 : List AV) (a6 : List AV) (a7 : List AV) (a8 : List AV) (a9 : List AV) (a10 : Bool) (a11 : ByteArray) (a12 : Bool) (a13 : ByteArray) (a14 : Bool) (a15 : ByteArray) (a16 : Bool) (a17 : ByteArray) (a18 : List AV) (a19 : List AV) (a20 : List AV) (a21 : List AV) (a22 : List AV) (a23 : List AV) (a24 : Bool) (a25 : ByteArray) (a26 : Bool) (a27 : ByteArray) : runF (C R postbaglaw5_addresses_or) Tryz.f29 10000 fuelK [.agg [.bool a0, .str a1, .bool a2, .str a3, .ro 60 a4 false, .ro 60 a5 false, .ro 60 a6 false, .ro 60 a7 false, .ro 60 a8 false, .ro 60 a9 false, .bool a10, .str a11, .bool a12, .str a13], .agg [.bool a14, .str a15, .bool a16, .str a17, .ro 60 a18 true, .ro 60 a19 true, .ro 60 a20 true, .ro 60 a21 true, .ro 60 a22 true, .ro 60 a23 true, .bool a24, .str a25, .bool a26, .str a27]] κ = postbaglaw5_envelopes_absbsoooooobsbseabsbsrrrrrrbsbse a0 a1 a2 a3 a4 a5 a6 a7 a8 a9 a10 a11 a12 a13 a14 a15 a16 a17 a18 a19 a20 a21 a22 a23 a24 a25 a26 a27 (K0 κ) := by
 rw [k]
 rfl
theorem Γ_does {R : Type} (tab : Tab) (ht : TabOk tab) (g : Nat) : Does (R := R) Tryz.prog (tabTy tyL) tab g ((C R postbaglaw5_addresses_or).call g) := by
 refine does_of fun xs κ => ?_
 show DoesAt _ _ _ g xs κ (Γ R postbaglaw5_addresses_or g xs κ)
 unfold Γ
 split
 ·split
  ·exact postbaglaw5_addresses_or.does tab ht _ _ κ
  ·exact DoesAt.none
 ·exact DoesAt.none
theorem does {R : Type} (tab : Tab) (ht : TabOk tab) (a0 : Bool) (a1 : ByteArray) (a2 : Bool) (a3 : ByteArray) (a4 : List AV) (a5 : List AV) (a6 : List AV) (a7 : List AV) (a8 : List AV) (a9 : List AV) (a10 : Bool) (a11 : ByteArray) (a12 : Bool) (a13 : ByteArray) (a14 : Bool) (a15 : ByteArray) (a16 : Bool) (a17 : ByteArray) (a18 : List AV) (a19 : List AV) (a20 : List AV) (a21 : List AV) (a22 : List AV) (a23 : List AV) (a24 : Bool) (a25 : ByteArray) (a26 : Bool) (a27 : ByteArray) (κ : List SV -> Option R) : DoesAt Tryz.prog (tabTy tyL) tab 29 [.agg [.bool a0, .str a1, .bool a2, .str a3, .ro 60 a4 false, .ro 60 a5 false, .ro 60 a6 false, .ro 60 a7 false, .ro 60 a8 false, .ro 60 a9 false, .bool a10, .str a11, .bool a12, .str a13], .agg [.bool a14, .str a15, .bool a16, .str a17, .ro 60 a18 true, .ro 60 a19 true, .ro 60 a20 true, .ro 60 a21 true, .ro 60 a22 true, .ro 60 a23 true, .bool a24, .str a25, .bool a26, .str a27]] κ (postbaglaw5_envelopes_absbsoooooobsbseabsbsrrrrrrbsbse a0 a1 a2 a3 a4 a5 a6 a7 a8 a9 a10 a11 a12 a13 a14 a15 a16 a17 a18 a19 a20 a21 a22 a23 a24 a25 a26 a27 (K0 κ)) := by
 intro r h w vs Rt Ra bs hpre
 exact runF_sound tyOk (Γ_does tab ht) (show Tryz.prog.funcs[29]? = some Tryz.f29 by kernel_rfl) (by kernel_rfl) ((run R κ a0 a1 a2 a3 a4 a5 a6 a7 a8 a9 a10 a11 a12 a13 a14 a15 a16 a17 a18 a19 a20 a21 a22 a23 a24 a25 a26 a27).trans h) hpre
end postbaglaw5_envelopes_absbsoooooobsbseabsbsrrrrrrbsbse
namespace postbaglaw5_fields_or
abbrev K0 {R : Type} (κ : List SV -> Option R) (r0 : Bool) : Option R := κ [.bool r0]
section
variable (R : Type)
def Γ (g : Nat) (xs : List SV) (κ : List SV -> Option R) : Option R :=
 match g with
 | _ => none
def h (n : Nat) : Option (List (Nat × List (Nat × Nat))) :=
 match n with
 | 4 => some [(0, [(0, 0)]), (1, [(0, 0)]), (5, [(0, 0)])]
 | _ => none
def C : Cfg R := ⟨tabTy tyL, Γ R, fun _ => false, h⟩
noncomputable abbrev P (i : Nat) : List Item := placeOf Tryz.f14 i
noncomputable def S (κ : List SV -> Option R) (J : List Item -> St -> Option R) (i : Nat) (s : St) : Option R := start (C R) J (retK (C R) Tryz.f14.results.toList (List.range 0) κ) 10000 (P i) s
noncomputable def G (κ : List SV -> Option R) (f : Nat) (p : List Item) (s : St) : Option R := goto (C R) (retK (C R) Tryz.f14.results.toList (List.range 0) κ) 10000 f p s
def s4 (x0 : List AV) (x1 : List AV) (x2 : Int) : St := ⟨mkS 26 [(0, .ro 42 x0 false), (1, .ro 42 x1 true), (5, .int .i64 x2)], [], top⟩
noncomputable abbrev q4 {R : Type} (J : List Item -> St -> Option R) (x0 : List AV) (x1 : List AV) (x2 : Int) : Option R := J (P 4) (s4 x0 x1 x2)
theorem k4 (J : List Item -> St -> Option R) (κ : List SV -> Option R) (x0 : List AV) (x1 : List AV) (x2 : Int) : S R κ J 4 (s4 x0 x1 x2) = t4 x0 x1 x2 (q4 J) (K0 κ) := by kernel_rfl
theorem k (κ : List SV -> Option R) (k : Nat) (a0 : List AV) (a1 : List AV) : runF (C R) Tryz.f14 10000 k [.ro 42 a0 false, .ro 42 a1 true] κ = postbaglaw5_fields_or.e a0 a1 (q4 (G R κ k)) (K0 κ) := by kernel_rfl
theorem g4 (κ : List SV -> Option R) : ∀ (f : Nat), q4 (G R κ f) = L4 (K0 κ) f
 | 0 => rfl
 | f + 1 => by
  funext x0 x1 x2
  show S R κ (G R κ f) 4 _ = _
  rw [k4, g4 κ f]
  rfl
end
theorem run (R : Type) (κ : List SV -> Option R) (a0 : List AV) (a1 : List AV) : runF (C R) Tryz.f14 10000 fuelK [.ro 42 a0 false, .ro 42 a1 true] κ = postbaglaw5_fields_or a0 a1 (K0 κ) := by
 rw [k]
 rw [g4 R κ fuelK]
 rfl
theorem Γ_does {R : Type} (tab : Tab) (ht : TabOk tab) (g : Nat) : Does (R := R) Tryz.prog (tabTy tyL) tab g ((C R).call g) := by
 refine does_of fun xs κ => ?_
 show DoesAt _ _ _ g xs κ (Γ R g xs κ)
 unfold Γ
 split
 ·exact DoesAt.none
theorem does {R : Type} (tab : Tab) (ht : TabOk tab) (a0 : List AV) (a1 : List AV) (κ : List SV -> Option R) : DoesAt Tryz.prog (tabTy tyL) tab 14 [.ro 42 a0 false, .ro 42 a1 true] κ (postbaglaw5_fields_or a0 a1 (K0 κ)) := by
 intro r h w vs Rt Ra bs hpre
 exact runF_sound tyOk (Γ_does tab ht) (show Tryz.prog.funcs[14]? = some Tryz.f14 by kernel_rfl) (by kernel_rfl) ((run R κ a0 a1).trans h) hpre
end postbaglaw5_fields_or
namespace postbagref5_Get_os
abbrev K0 {R : Type} (κ : List SV -> Option R) (r0 : Bool) (r1 : ByteArray) : Option R := κ [.agg [.bool r0, .str r1]]
section
variable (R : Type) (c1 : postbagref1_Same_0.F R)
def Γ (g : Nat) (xs : List SV) (κ : List SV -> Option R) : Option R :=
 match g with
 | 50 => (match xs with
  | [.str a0, .str a1] => c1 a0 a1 (postbagref1_Same_0.K0 κ)
  | _ => none)
 | _ => none
def h (n : Nat) : Option (List (Nat × List (Nat × Nat))) :=
 match n with
 | 2 => some [(0, [(0, 0)]), (1, [(0, 0)]), (4, [(0, 0)]), (5, [(0, 0)])]
 | _ => none
def C : Cfg R := ⟨tabTy tyL, Γ R c1, fun _ => false, h⟩
noncomputable abbrev P (i : Nat) : List Item := placeOf Tryz.f81 i
noncomputable def S (κ : List SV -> Option R) (J : List Item -> St -> Option R) (i : Nat) (s : St) : Option R := start (C R c1) J (retK (C R c1) Tryz.f81.results.toList (List.range 0) κ) 10000 (P i) s
noncomputable def G (κ : List SV -> Option R) (f : Nat) (p : List Item) (s : St) : Option R := goto (C R c1) (retK (C R c1) Tryz.f81.results.toList (List.range 0) κ) 10000 f p s
def s2 (x0 : List AV) (x1 : ByteArray) (x2 : Int) (x3 : Bool) (x4 : ByteArray) : St := ⟨mkS 26 [(0, .ro 42 x0 false), (1, .str x1), (4, .ptr 383 0), (5, .int .i64 x2)], [(383, .var 44 [.bool x3, .str x4])], top⟩
noncomputable abbrev q2 {R : Type} (J : List Item -> St -> Option R) (x0 : List AV) (x1 : ByteArray) (x2 : Int) (x3 : Bool) (x4 : ByteArray) : Option R := J (P 2) (s2 x0 x1 x2 x3 x4)
theorem k2 (J : List Item -> St -> Option R) (κ : List SV -> Option R) (x0 : List AV) (x1 : ByteArray) (x2 : Int) (x3 : Bool) (x4 : ByteArray) : S R c1 κ J 2 (s2 x0 x1 x2 x3 x4) = t2 c1 x0 x1 x2 x3 x4 (q2 J) (K0 κ) := by kernel_rfl
theorem k (κ : List SV -> Option R) (k : Nat) (a0 : List AV) (a1 : ByteArray) : runF (C R c1) Tryz.f81 10000 k [.ro 42 a0 false, .str a1] κ = postbagref5_Get_os.e c1 a0 a1 (q2 (G R c1 κ k)) (K0 κ) := by kernel_rfl
theorem g2 (κ : List SV -> Option R) : ∀ (f : Nat), q2 (G R c1 κ f) = L2 c1 (K0 κ) f
 | 0 => rfl
 | f + 1 => by
  funext x0 x1 x2 x3 x4
  show S R c1 κ (G R c1 κ f) 2 _ = _
  rw [k2, g2 κ f]
  rfl
end
theorem run (R : Type) (κ : List SV -> Option R) (a0 : List AV) (a1 : ByteArray) : runF (C R postbagref1_Same_0) Tryz.f81 10000 fuelK [.ro 42 a0 false, .str a1] κ = postbagref5_Get_os a0 a1 (K0 κ) := by
 rw [k]
 rw [g2 R postbagref1_Same_0 κ fuelK]
 rfl
theorem Γ_does {R : Type} (tab : Tab) (ht : TabOk tab) (g : Nat) : Does (R := R) Tryz.prog (tabTy tyL) tab g ((C R postbagref1_Same_0).call g) := by
 refine does_of fun xs κ => ?_
 show DoesAt _ _ _ g xs κ (Γ R postbagref1_Same_0 g xs κ)
 unfold Γ
 split
 ·split
  ·exact postbagref1_Same_0.does tab ht _ _ κ
  ·exact DoesAt.none
 ·exact DoesAt.none
theorem does {R : Type} (tab : Tab) (ht : TabOk tab) (a0 : List AV) (a1 : ByteArray) (κ : List SV -> Option R) : DoesAt Tryz.prog (tabTy tyL) tab 81 [.ro 42 a0 false, .str a1] κ (postbagref5_Get_os a0 a1 (K0 κ)) := by
 intro r h w vs Rt Ra bs hpre
 exact runF_sound tyOk (Γ_does tab ht) (show Tryz.prog.funcs[81]? = some Tryz.f81 by kernel_rfl) (by kernel_rfl) ((run R κ a0 a1).trans h) hpre
end postbagref5_Get_os
namespace postbagref5_of_os
abbrev K0 {R : Type} (κ : List SV -> Option R) : Option R := κ [.nil]
abbrev K1 {R : Type} (κ : List SV -> Option R) (r0 : List AV) : Option R := κ [.fr 60 r0 true]
abbrev K2 {R : Type} (κ : List SV -> Option R) (r0 : List AV) : Option R := κ [.ro 60 r0 true]
section
variable (R : Type) (c1 : postbagref5_Get_os.F R) (c2 : postbagref5_Addresses_0.F R)
def Γ (g : Nat) (xs : List SV) (κ : List SV -> Option R) : Option R :=
 match g with
 | 21 => (match xs with
  | [.str a0] => c2 a0 (postbagref5_Addresses_0.K0 κ) (postbagref5_Addresses_0.K1 κ)
  | _ => none)
 | 81 => (match xs with
  | [.ro 42 a0 false, .str a1] => c1 a0 a1 (postbagref5_Get_os.K0 κ)
  | _ => none)
 | _ => none
def h (n : Nat) : Option (List (Nat × List (Nat × Nat))) :=
 match n with
 | _ => none
def C : Cfg R := ⟨tabTy tyL, Γ R c1 c2, fun _ => false, h⟩
theorem k (κ : List SV -> Option R) (k : Nat) (a0 : List AV) (a1 : ByteArray) : runF (C R c1 c2) Tryz.f82 10000 k [.ro 42 a0 false, .str a1] κ = postbagref5_of_os.e c1 c2 a0 a1 (K0 κ) (K1 κ) (K2 κ) := by kernel_rfl
end
theorem run (R : Type) (κ : List SV -> Option R) (a0 : List AV) (a1 : ByteArray) : runF (C R postbagref5_Get_os postbagref5_Addresses_0) Tryz.f82 10000 fuelK [.ro 42 a0 false, .str a1] κ = postbagref5_of_os a0 a1 (K0 κ) (K1 κ) (K2 κ) := by
 rw [k]
 rfl
theorem Γ_does {R : Type} (tab : Tab) (ht : TabOk tab) (g : Nat) : Does (R := R) Tryz.prog (tabTy tyL) tab g ((C R postbagref5_Get_os postbagref5_Addresses_0).call g) := by
 refine does_of fun xs κ => ?_
 show DoesAt _ _ _ g xs κ (Γ R postbagref5_Get_os postbagref5_Addresses_0 g xs κ)
 unfold Γ
 split
 ·split
  ·exact postbagref5_Addresses_0.does tab ht _ κ
  ·exact DoesAt.none
 ·split
  ·exact postbagref5_Get_os.does tab ht _ _ κ
  ·exact DoesAt.none
 ·exact DoesAt.none
theorem does {R : Type} (tab : Tab) (ht : TabOk tab) (a0 : List AV) (a1 : ByteArray) (κ : List SV -> Option R) : DoesAt Tryz.prog (tabTy tyL) tab 82 [.ro 42 a0 false, .str a1] κ (postbagref5_of_os a0 a1 (K0 κ) (K1 κ) (K2 κ)) := by
 intro r h w vs Rt Ra bs hpre
 exact runF_sound tyOk (Γ_does tab ht) (show Tryz.prog.funcs[82]? = some Tryz.f82 by kernel_rfl) (by kernel_rfl) ((run R κ a0 a1).trans h) hpre
end postbagref5_of_os
end Go.Proofs.Ab
