/- Each plain function is what a call of its Go function does, checked by the kernel (no condition but what its checks ask). -/
import Derived.Test.YtnipklplcipaiaaGreatDoorSeat
import Derived.Test.YtnipklplcipaiaaGreatDoorText
namespace Go.Proofs.Ab
set_option linter.unusedVariables false
set_option maxRecDepth 4000
open Go Go.Proofs
set_option maxRecDepth 100000
namespace postbaglaw5_short_0
abbrev K0 {R : Type} (κ : List SV -> Option R) (r0 : Bool) : Option R := κ [.bool r0]
section
variable (R : Type)
def Γ (g : Nat) (xs : List SV) (κ : List SV -> Option R) : Option R :=
 match g with
 | _ => none
def h (n : Nat) : Option (List (Nat × List (Nat × Nat))) :=
 match n with
 | 3 => some [(0, [(0, 0)]), (3, [(0, 0)]), (4, [(0, 0)])]
 | _ => none
def C : Cfg R := ⟨tabTy tyL, Γ R, fun _ => false, h⟩
noncomputable abbrev P (i : Nat) : List Item := placeOf Tryz.f27 i
noncomputable def S (κ : List SV -> Option R) (J : List Item -> St -> Option R) (i : Nat) (s : St) : Option R := start (C R) J (retK (C R) Tryz.f27.results.toList (List.range 0) κ) 10000 (P i) s
noncomputable def G (κ : List SV -> Option R) (f : Nat) (p : List Item) (s : St) : Option R := goto (C R) (retK (C R) Tryz.f27.results.toList (List.range 0) κ) 10000 f p s
def s3 (x0 : List AV) (x1 : Int) (x2 : Int) : St := ⟨mkS 21 [(0, .ro 42 x0 true), (3, .int .i64 x1), (4, .int .i64 x2)], [], top⟩
noncomputable abbrev q3 {R : Type} (J : List Item -> St -> Option R) (x0 : List AV) (x1 : Int) (x2 : Int) : Option R := J (P 3) (s3 x0 x1 x2)
theorem k3 (J : List Item -> St -> Option R) (κ : List SV -> Option R) (x0 : List AV) (x1 : Int) (x2 : Int) : S R κ J 3 (s3 x0 x1 x2) = t3 x0 x1 x2 (q3 J) (K0 κ) := by kernel_rfl
theorem k (κ : List SV -> Option R) (k : Nat) (a0 : List AV) : runF (C R) Tryz.f27 10000 k [.ro 42 a0 true] κ = postbaglaw5_short_0.e a0 (q3 (G R κ k)) (K0 κ) := by kernel_rfl
theorem g3 (κ : List SV -> Option R) : ∀ (f : Nat), q3 (G R κ f) = L3 (K0 κ) f
 | 0 => rfl
 | f + 1 => by
  funext x0 x1 x2
  show S R κ (G R κ f) 3 _ = _
  rw [k3, g3 κ f]
  rfl
end
theorem run (R : Type) (κ : List SV -> Option R) (a0 : List AV) : runF (C R) Tryz.f27 10000 fuelK [.ro 42 a0 true] κ = postbaglaw5_short_0 a0 (K0 κ) := by
 rw [k]
 rw [g3 R κ fuelK]
 rfl
theorem Γ_does {R : Type} (tab : Tab) (ht : TabOk tab) (g : Nat) : Does (R := R) Tryz.prog (tabTy tyL) tab g ((C R).call g) := by
 refine does_of fun xs κ => ?_
 show DoesAt _ _ _ g xs κ (Γ R g xs κ)
 unfold Γ
 split
 ·exact DoesAt.none
theorem does {R : Type} (tab : Tab) (ht : TabOk tab) (a0 : List AV) (κ : List SV -> Option R) : DoesAt Tryz.prog (tabTy tyL) tab 27 [.ro 42 a0 true] κ (postbaglaw5_short_0 a0 (K0 κ)) := by
 intro r h w vs Rt Ra bs hpre
 exact runF_sound tyOk (Γ_does tab ht) (show Tryz.prog.funcs[27]? = some Tryz.f27 by kernel_rfl) (by kernel_rfl) ((run R κ a0).trans h) hpre
end postbaglaw5_short_0
namespace octet_Lower_0
abbrev K0 {R : Type} (κ : List SV -> Option R) (r0 : ByteArray) : Option R := κ [.str r0]
section
variable (R : Type)
def Γ (g : Nat) (xs : List SV) (κ : List SV -> Option R) : Option R :=
 match g with
 | _ => none
def h (n : Nat) : Option (List (Nat × List (Nat × Nat))) :=
 match n with
 | 3 => some [(3, [(0, 0)]), (8, [(0, 0)]), (9, [(0, 0)]), (10, [(0, 0)])]
 | _ => none
def C : Cfg R := ⟨tabTy tyL, Γ R, fun _ => false, h⟩
noncomputable abbrev P (i : Nat) : List Item := placeOf Tryz.f98 i
noncomputable def S (κ : List SV -> Option R) (J : List Item -> St -> Option R) (i : Nat) (s : St) : Option R := start (C R) J (retK (C R) Tryz.f98.results.toList (List.range 0) κ) 10000 (P i) s
noncomputable def G (κ : List SV -> Option R) (f : Nat) (p : List Item) (s : St) : Option R := goto (C R) (retK (C R) Tryz.f98.results.toList (List.range 0) κ) 10000 f p s
def s3 (x0 : Int) (x1 : Int) (x2 : List AV) : St := ⟨mkS 30 [(3, .own 256), (8, .own 256), (9, .int .i64 x0), (10, .int .i64 x1)], [(256, .row 5 x2 true)], top⟩
noncomputable abbrev q3 {R : Type} (J : List Item -> St -> Option R) (x0 : Int) (x1 : Int) (x2 : List AV) : Option R := J (P 3) (s3 x0 x1 x2)
theorem k3 (J : List Item -> St -> Option R) (κ : List SV -> Option R) (x0 : Int) (x1 : Int) (x2 : List AV) : S R κ J 3 (s3 x0 x1 x2) = t3 x0 x1 x2 (q3 J) (K0 κ) := by kernel_rfl
theorem k (κ : List SV -> Option R) (k : Nat) (a0 : ByteArray) : runF (C R) Tryz.f98 10000 k [.str a0] κ = octet_Lower_0.e a0 (q3 (G R κ k)) (K0 κ) := by kernel_rfl
theorem g3 (κ : List SV -> Option R) : ∀ (f : Nat), q3 (G R κ f) = L3 (K0 κ) f
 | 0 => rfl
 | f + 1 => by
  funext x0 x1 x2
  show S R κ (G R κ f) 3 _ = _
  rw [k3, g3 κ f]
  rfl
end
theorem run (R : Type) (κ : List SV -> Option R) (a0 : ByteArray) : runF (C R) Tryz.f98 10000 fuelK [.str a0] κ = octet_Lower_0 a0 (K0 κ) := by
 rw [k]
 rw [g3 R κ fuelK]
 rfl
theorem Γ_does {R : Type} (tab : Tab) (ht : TabOk tab) (g : Nat) : Does (R := R) Tryz.prog (tabTy tyL) tab g ((C R).call g) := by
 refine does_of fun xs κ => ?_
 show DoesAt _ _ _ g xs κ (Γ R g xs κ)
 unfold Γ
 split
 ·exact DoesAt.none
theorem does {R : Type} (tab : Tab) (ht : TabOk tab) (a0 : ByteArray) (κ : List SV -> Option R) : DoesAt Tryz.prog (tabTy tyL) tab 98 [.str a0] κ (octet_Lower_0 a0 (K0 κ)) := by
 intro r h w vs Rt Ra bs hpre
 exact runF_sound tyOk (Γ_does tab ht) (show Tryz.prog.funcs[98]? = some Tryz.f98 by kernel_rfl) (by kernel_rfl) ((run R κ a0).trans h) hpre
end octet_Lower_0
namespace octet_Same_0
abbrev K0 {R : Type} (κ : List SV -> Option R) (r0 : Bool) : Option R := κ [.bool r0]
section
variable (R : Type) (c1 : octet_Lower_0.F R)
def Γ (g : Nat) (xs : List SV) (κ : List SV -> Option R) : Option R :=
 match g with
 | 98 => (match xs with
  | [.str a0] => c1 a0 (octet_Lower_0.K0 κ)
  | _ => none)
 | _ => none
def h (n : Nat) : Option (List (Nat × List (Nat × Nat))) :=
 match n with
 | _ => none
def C : Cfg R := ⟨tabTy tyL, Γ R c1, fun _ => false, h⟩
theorem k (κ : List SV -> Option R) (k : Nat) (a0 : ByteArray) (a1 : ByteArray) : runF (C R c1) Tryz.f46 10000 k [.str a0, .str a1] κ = octet_Same_0.e c1 a0 a1 (K0 κ) := by kernel_rfl
end
theorem run (R : Type) (κ : List SV -> Option R) (a0 : ByteArray) (a1 : ByteArray) : runF (C R octet_Lower_0) Tryz.f46 10000 fuelK [.str a0, .str a1] κ = octet_Same_0 a0 a1 (K0 κ) := by
 rw [k]
 rfl
theorem Γ_does {R : Type} (tab : Tab) (ht : TabOk tab) (g : Nat) : Does (R := R) Tryz.prog (tabTy tyL) tab g ((C R octet_Lower_0).call g) := by
 refine does_of fun xs κ => ?_
 show DoesAt _ _ _ g xs κ (Γ R octet_Lower_0 g xs κ)
 unfold Γ
 split
 ·split
  ·exact octet_Lower_0.does tab ht _ κ
  ·exact DoesAt.none
 ·exact DoesAt.none
theorem does {R : Type} (tab : Tab) (ht : TabOk tab) (a0 : ByteArray) (a1 : ByteArray) (κ : List SV -> Option R) : DoesAt Tryz.prog (tabTy tyL) tab 46 [.str a0, .str a1] κ (octet_Same_0 a0 a1 (K0 κ)) := by
 intro r h w vs Rt Ra bs hpre
 exact runF_sound tyOk (Γ_does tab ht) (show Tryz.prog.funcs[46]? = some Tryz.f46 by kernel_rfl) (by kernel_rfl) ((run R κ a0 a1).trans h) hpre
end octet_Same_0
namespace letter_Get_os
abbrev K0 {R : Type} (κ : List SV -> Option R) (r0 : Bool) (r1 : ByteArray) : Option R := κ [.agg [.bool r0, .str r1]]
section
variable (R : Type) (c1 : octet_Same_0.F R)
def Γ (g : Nat) (xs : List SV) (κ : List SV -> Option R) : Option R :=
 match g with
 | 46 => (match xs with
  | [.str a0, .str a1] => c1 a0 a1 (octet_Same_0.K0 κ)
  | _ => none)
 | _ => none
def h (n : Nat) : Option (List (Nat × List (Nat × Nat))) :=
 match n with
 | 2 => some [(1, [(0, 0)]), (4, [(0, 0)]), (7, [(0, 0)]), (8, [(0, 0)]), (9, [(0, 0)])]
 | _ => none
def C : Cfg R := ⟨tabTy tyL, Γ R c1, fun _ => false, h⟩
noncomputable abbrev P (i : Nat) : List Item := placeOf Tryz.f45 i
noncomputable def S (κ : List SV -> Option R) (J : List Item -> St -> Option R) (i : Nat) (s : St) : Option R := start (C R c1) J (retK (C R c1) Tryz.f45.results.toList (List.range 0) κ) 10000 (P i) s
noncomputable def G (κ : List SV -> Option R) (f : Nat) (p : List Item) (s : St) : Option R := goto (C R c1) (retK (C R c1) Tryz.f45.results.toList (List.range 0) κ) 10000 f p s
def s2 (x0 : ByteArray) (x1 : List AV) (x2 : Int) (x3 : Int) (x4 : Bool) (x5 : ByteArray) : St := ⟨mkS 22 [(1, .str x0), (4, .ptr 383 0), (7, .ro 42 x1 false), (8, .int .i64 x2), (9, .int .i64 x3)], [(383, .var 44 [.bool x4, .str x5])], top⟩
noncomputable abbrev q2 {R : Type} (J : List Item -> St -> Option R) (x0 : ByteArray) (x1 : List AV) (x2 : Int) (x3 : Int) (x4 : Bool) (x5 : ByteArray) : Option R := J (P 2) (s2 x0 x1 x2 x3 x4 x5)
theorem k2 (J : List Item -> St -> Option R) (κ : List SV -> Option R) (x0 : ByteArray) (x1 : List AV) (x2 : Int) (x3 : Int) (x4 : Bool) (x5 : ByteArray) : S R c1 κ J 2 (s2 x0 x1 x2 x3 x4 x5) = t2 c1 x0 x1 x2 x3 x4 x5 (q2 J) (K0 κ) := by kernel_rfl
theorem k (κ : List SV -> Option R) (k : Nat) (a0 : List AV) (a1 : ByteArray) : runF (C R c1) Tryz.f45 10000 k [.ro 42 a0 false, .str a1] κ = letter_Get_os.e c1 a0 a1 (q2 (G R c1 κ k)) (K0 κ) := by kernel_rfl
theorem g2 (κ : List SV -> Option R) : ∀ (f : Nat), q2 (G R c1 κ f) = L2 c1 (K0 κ) f
 | 0 => rfl
 | f + 1 => by
  funext x0 x1 x2 x3 x4 x5
  show S R c1 κ (G R c1 κ f) 2 _ = _
  rw [k2, g2 κ f]
  rfl
end
theorem run (R : Type) (κ : List SV -> Option R) (a0 : List AV) (a1 : ByteArray) : runF (C R octet_Same_0) Tryz.f45 10000 fuelK [.ro 42 a0 false, .str a1] κ = letter_Get_os a0 a1 (K0 κ) := by
 rw [k]
 rw [g2 R octet_Same_0 κ fuelK]
 rfl
theorem Γ_does {R : Type} (tab : Tab) (ht : TabOk tab) (g : Nat) : Does (R := R) Tryz.prog (tabTy tyL) tab g ((C R octet_Same_0).call g) := by
 refine does_of fun xs κ => ?_
 show DoesAt _ _ _ g xs κ (Γ R octet_Same_0 g xs κ)
 unfold Γ
 split
 ·split
  ·exact octet_Same_0.does tab ht _ _ κ
  ·exact DoesAt.none
 ·exact DoesAt.none
theorem does {R : Type} (tab : Tab) (ht : TabOk tab) (a0 : List AV) (a1 : ByteArray) (κ : List SV -> Option R) : DoesAt Tryz.prog (tabTy tyL) tab 45 [.ro 42 a0 false, .str a1] κ (letter_Get_os a0 a1 (K0 κ)) := by
 intro r h w vs Rt Ra bs hpre
 exact runF_sound tyOk (Γ_does tab ht) (show Tryz.prog.funcs[45]? = some Tryz.f45 by kernel_rfl) (by kernel_rfl) ((run R κ a0 a1).trans h) hpre
end letter_Get_os
namespace letter_cursor_comment_vsie
abbrev K0 {R : Type} (κ : List SV -> Option R) (r0 : ByteArray) (r1 : Int) : Option R := κ [.tup [], .vp 125 [.str r0, .int .i64 r1]]
section
variable (R : Type)
def Γ (g : Nat) (xs : List SV) (κ : List SV -> Option R) : Option R :=
 match g with
 | _ => none
def h (n : Nat) : Option (List (Nat × List (Nat × Nat))) :=
 match n with
 | 1 => some [(0, [(0, 0)]), (2, [(0, 0)])]
 | _ => none
def C : Cfg R := ⟨tabTy tyL, Γ R, fun _ => false, h⟩
noncomputable abbrev P (i : Nat) : List Item := placeOf Tryz.f142 i
noncomputable def S (κ : List SV -> Option R) (J : List Item -> St -> Option R) (i : Nat) (s : St) : Option R := start (C R) J (retK (C R) Tryz.f142.results.toList (List.range 1) κ) 10000 (P i) s
noncomputable def G (κ : List SV -> Option R) (f : Nat) (p : List Item) (s : St) : Option R := goto (C R) (retK (C R) Tryz.f142.results.toList (List.range 1) κ) 10000 f p s
def s1 (x0 : Int) (x1 : ByteArray) (x2 : Int) : St := ⟨mkS 61 [(0, .ptr 0 0), (2, .int .i64 x0)], [(0, .var 125 [.str x1, .int .i64 x2])], top⟩
noncomputable abbrev q1 {R : Type} (J : List Item -> St -> Option R) (x0 : Int) (x1 : ByteArray) (x2 : Int) : Option R := J (P 1) (s1 x0 x1 x2)
theorem k1 (J : List Item -> St -> Option R) (κ : List SV -> Option R) (x0 : Int) (x1 : ByteArray) (x2 : Int) : S R κ J 1 (s1 x0 x1 x2) = t1 x0 x1 x2 (q1 J) (K0 κ) := by kernel_rfl
theorem k (κ : List SV -> Option R) (k : Nat) (a0 : ByteArray) (a1 : Int) : runF (C R) Tryz.f142 10000 k [.vp 125 [.str a0, .int .i64 a1]] κ = letter_cursor_comment_vsie.e a0 a1 (q1 (G R κ k)) (K0 κ) := by kernel_rfl
theorem g1 (κ : List SV -> Option R) : ∀ (f : Nat), q1 (G R κ f) = L1 (K0 κ) f
 | 0 => rfl
 | f + 1 => by
  funext x0 x1 x2
  show S R κ (G R κ f) 1 _ = _
  rw [k1, g1 κ f]
  rfl
end
theorem run (R : Type) (κ : List SV -> Option R) (a0 : ByteArray) (a1 : Int) : runF (C R) Tryz.f142 10000 fuelK [.vp 125 [.str a0, .int .i64 a1]] κ = letter_cursor_comment_vsie a0 a1 (K0 κ) := by
 rw [k]
 rw [g1 R κ fuelK]
 rfl
theorem Γ_does {R : Type} (tab : Tab) (ht : TabOk tab) (g : Nat) : Does (R := R) Tryz.prog (tabTy tyL) tab g ((C R).call g) := by
 refine does_of fun xs κ => ?_
 show DoesAt _ _ _ g xs κ (Γ R g xs κ)
 unfold Γ
 split
 ·exact DoesAt.none
theorem does {R : Type} (tab : Tab) (ht : TabOk tab) (a0 : ByteArray) (a1 : Int) (κ : List SV -> Option R) : DoesAt Tryz.prog (tabTy tyL) tab 142 [.vp 125 [.str a0, .int .i64 a1]] κ (letter_cursor_comment_vsie a0 a1 (K0 κ)) := by
 intro r h w vs Rt Ra bs hpre
 exact runF_sound tyOk (Γ_does tab ht) (show Tryz.prog.funcs[142]? = some Tryz.f142 by kernel_rfl) (by kernel_rfl) ((run R κ a0 a1).trans h) hpre
end letter_cursor_comment_vsie
theorem strings_Builder_copyCheck_vxne.does {R : Type} (tab : Tab) (ht : TabOk tab) (κ : List SV -> Option R) : DoesAt Tryz.prog (tabTy tyL) tab 99 [.vp 74 [.nos, .nil]] κ (strings_Builder_copyCheck_vxne (κ [.tup [], .vp 74 [.nos, .nil]])) :=
 copyCheck_does Tryz.call99 cc_used cc_fresh (.nil) κ
namespace strings_Builder_WriteByte_vxnei
abbrev K0 {R : Type} (κ : List SV -> Option R) (r0 : List AV) : Option R := κ [.nili, .vp 74 [.nos, .fr 5 r0 true]]
section
variable (R : Type) (c1 : strings_Builder_copyCheck_vxne.F R)
def Γ (g : Nat) (xs : List SV) (κ : List SV -> Option R) : Option R :=
 match g with
 | 99 => (match xs with
  | [.vp 74 [.nos, .nil]] => c1 (κ [.tup [], .vp 74 [.nos, .nil]])
  | _ => none)
 | _ => none
def h (n : Nat) : Option (List (Nat × List (Nat × Nat))) :=
 match n with
 | _ => none
def C : Cfg R := ⟨tabTy tyL, Γ R c1, fun _ => false, h⟩
theorem k (κ : List SV -> Option R) (k : Nat) (a0 : Int) : runF (C R c1) Tryz.f110 10000 k [.vp 74 [.nos, .nil], .int .u8 a0] κ = strings_Builder_WriteByte_vxnei.e c1 a0 (K0 κ) := by kernel_rfl
end
theorem run (R : Type) (κ : List SV -> Option R) (a0 : Int) : runF (C R strings_Builder_copyCheck_vxne) Tryz.f110 10000 fuelK [.vp 74 [.nos, .nil], .int .u8 a0] κ = strings_Builder_WriteByte_vxnei a0 (K0 κ) := by
 rw [k]
 rfl
theorem Γ_does {R : Type} (tab : Tab) (ht : TabOk tab) (g : Nat) : Does (R := R) Tryz.prog (tabTy tyL) tab g ((C R strings_Builder_copyCheck_vxne).call g) := by
 refine does_of fun xs κ => ?_
 show DoesAt _ _ _ g xs κ (Γ R strings_Builder_copyCheck_vxne g xs κ)
 unfold Γ
 split
 ·split
  ·exact strings_Builder_copyCheck_vxne.does tab ht κ
  ·exact DoesAt.none
 ·exact DoesAt.none
theorem does {R : Type} (tab : Tab) (ht : TabOk tab) (a0 : Int) (κ : List SV -> Option R) : DoesAt Tryz.prog (tabTy tyL) tab 110 [.vp 74 [.nos, .nil], .int .u8 a0] κ (strings_Builder_WriteByte_vxnei a0 (K0 κ)) := by
 intro r h w vs Rt Ra bs hpre
 exact runF_sound tyOk (Γ_does tab ht) (show Tryz.prog.funcs[110]? = some Tryz.f110 by kernel_rfl) (by kernel_rfl) ((run R κ a0).trans h) hpre
end strings_Builder_WriteByte_vxnei
theorem strings_Builder_copyCheck_vxfe.does {R : Type} (tab : Tab) (ht : TabOk tab) (a0 : List AV) (κ : List SV -> Option R) : DoesAt Tryz.prog (tabTy tyL) tab 99 [.vp 74 [.nos, .fr 5 a0 true]] κ (strings_Builder_copyCheck_vxfe a0 (fun r0 => κ [.tup [], .vp 74 [.nos, .fr 5 r0 true]])) :=
 copyCheck_does Tryz.call99 cc_used cc_fresh (.fr _ _) κ
namespace strings_Builder_WriteByte_vxfei
abbrev K0 {R : Type} (κ : List SV -> Option R) (r0 : List AV) : Option R := κ [.nili, .vp 74 [.nos, .fr 5 r0 true]]
section
variable (R : Type) (c1 : strings_Builder_copyCheck_vxfe.F R)
def Γ (g : Nat) (xs : List SV) (κ : List SV -> Option R) : Option R :=
 match g with
 | 99 => (match xs with
  | [.vp 74 [.nos, .fr 5 a0 true]] => c1 a0 (fun r0 => κ [.tup [], .vp 74 [.nos, .fr 5 r0 true]])
  | _ => none)
 | _ => none
def h (n : Nat) : Option (List (Nat × List (Nat × Nat))) :=
 match n with
 | _ => none
def C : Cfg R := ⟨tabTy tyL, Γ R c1, fun _ => false, h⟩
theorem k (κ : List SV -> Option R) (k : Nat) (a0 : List AV) (a1 : Int) : runF (C R c1) Tryz.f110 10000 k [.vp 74 [.nos, .fr 5 a0 true], .int .u8 a1] κ = strings_Builder_WriteByte_vxfei.e c1 a0 a1 (K0 κ) := by kernel_rfl
end
theorem run (R : Type) (κ : List SV -> Option R) (a0 : List AV) (a1 : Int) : runF (C R strings_Builder_copyCheck_vxfe) Tryz.f110 10000 fuelK [.vp 74 [.nos, .fr 5 a0 true], .int .u8 a1] κ = strings_Builder_WriteByte_vxfei a0 a1 (K0 κ) := by
 rw [k]
 rfl
theorem Γ_does {R : Type} (tab : Tab) (ht : TabOk tab) (g : Nat) : Does (R := R) Tryz.prog (tabTy tyL) tab g ((C R strings_Builder_copyCheck_vxfe).call g) := by
 refine does_of fun xs κ => ?_
 show DoesAt _ _ _ g xs κ (Γ R strings_Builder_copyCheck_vxfe g xs κ)
 unfold Γ
 split
 ·split
  ·exact strings_Builder_copyCheck_vxfe.does tab ht _ κ
  ·exact DoesAt.none
 ·exact DoesAt.none
theorem does {R : Type} (tab : Tab) (ht : TabOk tab) (a0 : List AV) (a1 : Int) (κ : List SV -> Option R) : DoesAt Tryz.prog (tabTy tyL) tab 110 [.vp 74 [.nos, .fr 5 a0 true], .int .u8 a1] κ (strings_Builder_WriteByte_vxfei a0 a1 (K0 κ)) := by
 intro r h w vs Rt Ra bs hpre
 exact runF_sound tyOk (Γ_does tab ht) (show Tryz.prog.funcs[110]? = some Tryz.f110 by kernel_rfl) (by kernel_rfl) ((run R κ a0 a1).trans h) hpre
end strings_Builder_WriteByte_vxfei
namespace strings_Builder_String_vxfe
abbrev K0 {R : Type} (κ : List SV -> Option R) (r0 : ByteArray) : Option R := κ [.str r0, .vp 74 [.nos, .no]]
section
variable (R : Type)
def Γ (g : Nat) (xs : List SV) (κ : List SV -> Option R) : Option R :=
 match g with
 | _ => none
def h (n : Nat) : Option (List (Nat × List (Nat × Nat))) :=
 match n with
 | _ => none
def C : Cfg R := ⟨tabTy tyL, Γ R, fun _ => false, h⟩
theorem k (κ : List SV -> Option R) (k : Nat) (a0 : List AV) : runF (C R) Tryz.f49 10000 k [.vp 74 [.nos, .fr 5 a0 true]] κ = strings_Builder_String_vxfe.e a0 (K0 κ) := by kernel_rfl
end
theorem run (R : Type) (κ : List SV -> Option R) (a0 : List AV) : runF (C R) Tryz.f49 10000 fuelK [.vp 74 [.nos, .fr 5 a0 true]] κ = strings_Builder_String_vxfe a0 (K0 κ) := by
 rw [k]
 rfl
theorem Γ_does {R : Type} (tab : Tab) (ht : TabOk tab) (g : Nat) : Does (R := R) Tryz.prog (tabTy tyL) tab g ((C R).call g) := by
 refine does_of fun xs κ => ?_
 show DoesAt _ _ _ g xs κ (Γ R g xs κ)
 unfold Γ
 split
 ·exact DoesAt.none
theorem does {R : Type} (tab : Tab) (ht : TabOk tab) (a0 : List AV) (κ : List SV -> Option R) : DoesAt Tryz.prog (tabTy tyL) tab 49 [.vp 74 [.nos, .fr 5 a0 true]] κ (strings_Builder_String_vxfe a0 (K0 κ)) := by
 intro r h w vs Rt Ra bs hpre
 exact runF_sound tyOk (Γ_does tab ht) (show Tryz.prog.funcs[49]? = some Tryz.f49 by kernel_rfl) (by kernel_rfl) ((run R κ a0).trans h) hpre
end strings_Builder_String_vxfe
namespace letter_cursor_quotes_vsie
abbrev K0 {R : Type} (κ : List SV -> Option R) (r0 : ByteArray) (r1 : ByteArray) (r2 : Int) : Option R := κ [.str r0, .vp 125 [.str r1, .int .i64 r2]]
section
variable (R : Type) (c1 : strings_Builder_WriteByte_vxfei.F R) (c2 : strings_Builder_String_vxfe.F R)
def Γ (g : Nat) (xs : List SV) (κ : List SV -> Option R) : Option R :=
 match g with
 | 49 => (match xs with
  | [.vp 74 [.nos, .fr 5 a0 true]] => c2 a0 (strings_Builder_String_vxfe.K0 κ)
  | _ => none)
 | 110 => (match xs with
  | [.vp 74 [.nos, .fr 5 a0 true], .int .u8 a1] => c1 a0 a1 (strings_Builder_WriteByte_vxfei.K0 κ)
  | _ => none)
 | _ => none
def h (n : Nat) : Option (List (Nat × List (Nat × Nat))) :=
 match n with
 | 3 => some [(0, [(0, 0)]), (3, [(1, 7)])]
 | _ => none
def C : Cfg R := ⟨tabTy tyL, Γ R c1 c2, fun _ => false, h⟩
noncomputable abbrev P (i : Nat) : List Item := placeOf Tryz.f143 i
noncomputable def S (κ : List SV -> Option R) (J : List Item -> St -> Option R) (i : Nat) (s : St) : Option R := start (C R c1 c2) J (retK (C R c1 c2) Tryz.f143.results.toList (List.range 1) κ) 10000 (P i) s
noncomputable def G (κ : List SV -> Option R) (f : Nat) (p : List Item) (s : St) : Option R := goto (C R c1 c2) (retK (C R c1 c2) Tryz.f143.results.toList (List.range 1) κ) 10000 f p s
def s3 (x0 : ByteArray) (x1 : Int) (x2 : List AV) : St := ⟨mkS 92 [(0, .ptr 0 0), (3, .ptr 319 0)], [(0, .var 125 [.str x0, .int .i64 x1]), (319, .var 74 [.nos, .own 257]), (257, .row 5 x2 true)], top⟩
noncomputable abbrev q3 {R : Type} (J : List Item -> St -> Option R) (x0 : ByteArray) (x1 : Int) (x2 : List AV) : Option R := J (P 3) (s3 x0 x1 x2)
theorem k3 (J : List Item -> St -> Option R) (κ : List SV -> Option R) (x0 : ByteArray) (x1 : Int) (x2 : List AV) : S R c1 c2 κ J 3 (s3 x0 x1 x2) = t3 c1 c2 x0 x1 x2 (q3 J) (K0 κ) := by kernel_rfl
theorem k (κ : List SV -> Option R) (k : Nat) (a0 : ByteArray) (a1 : Int) : runF (C R c1 c2) Tryz.f143 10000 k [.vp 125 [.str a0, .int .i64 a1]] κ = letter_cursor_quotes_vsie.e c1 c2 a0 a1 (q3 (G R c1 c2 κ k)) (K0 κ) := by kernel_rfl
theorem g3 (κ : List SV -> Option R) : ∀ (f : Nat), q3 (G R c1 c2 κ f) = L3 c1 c2 (K0 κ) f
 | 0 => rfl
 | f + 1 => by
  funext x0 x1 x2
  show S R c1 c2 κ (G R c1 c2 κ f) 3 _ = _
  rw [k3, g3 κ f]
  rfl
end
theorem run (R : Type) (κ : List SV -> Option R) (a0 : ByteArray) (a1 : Int) : runF (C R strings_Builder_WriteByte_vxfei strings_Builder_String_vxfe) Tryz.f143 10000 fuelK [.vp 125 [.str a0, .int .i64 a1]] κ = letter_cursor_quotes_vsie a0 a1 (K0 κ) := by
 rw [k]
 rw [g3 R strings_Builder_WriteByte_vxfei strings_Builder_String_vxfe κ fuelK]
 rfl
theorem Γ_does {R : Type} (tab : Tab) (ht : TabOk tab) (g : Nat) : Does (R := R) Tryz.prog (tabTy tyL) tab g ((C R strings_Builder_WriteByte_vxfei strings_Builder_String_vxfe).call g) := by
 refine does_of fun xs κ => ?_
 show DoesAt _ _ _ g xs κ (Γ R strings_Builder_WriteByte_vxfei strings_Builder_String_vxfe g xs κ)
 unfold Γ
 split
 ·split
  ·exact strings_Builder_String_vxfe.does tab ht _ κ
  ·exact DoesAt.none
 ·split
  ·exact strings_Builder_WriteByte_vxfei.does tab ht _ _ κ
  ·exact DoesAt.none
 ·exact DoesAt.none
theorem does {R : Type} (tab : Tab) (ht : TabOk tab) (a0 : ByteArray) (a1 : Int) (κ : List SV -> Option R) : DoesAt Tryz.prog (tabTy tyL) tab 143 [.vp 125 [.str a0, .int .i64 a1]] κ (letter_cursor_quotes_vsie a0 a1 (K0 κ)) := by
 intro r h w vs Rt Ra bs hpre
 exact runF_sound tyOk (Γ_does tab ht) (show Tryz.prog.funcs[143]? = some Tryz.f143 by kernel_rfl) (by kernel_rfl) ((run R κ a0 a1).trans h) hpre
end letter_cursor_quotes_vsie
namespace letter_cursor_host_vsie
abbrev K0 {R : Type} (κ : List SV -> Option R) (r0 : ByteArray) (r1 : ByteArray) (r2 : Int) : Option R := κ [.str r0, .vp 125 [.str r1, .int .i64 r2]]
section
variable (R : Type)
def Γ (g : Nat) (xs : List SV) (κ : List SV -> Option R) : Option R :=
 match g with
 | _ => none
def h (n : Nat) : Option (List (Nat × List (Nat × Nat))) :=
 match n with
 | 2 => some [(0, [(0, 0)]), (3, [(0, 0)])]
 | _ => none
def C : Cfg R := ⟨tabTy tyL, Γ R, fun _ => false, h⟩
noncomputable abbrev P (i : Nat) : List Item := placeOf Tryz.f144 i
noncomputable def S (κ : List SV -> Option R) (J : List Item -> St -> Option R) (i : Nat) (s : St) : Option R := start (C R) J (retK (C R) Tryz.f144.results.toList (List.range 1) κ) 10000 (P i) s
noncomputable def G (κ : List SV -> Option R) (f : Nat) (p : List Item) (s : St) : Option R := goto (C R) (retK (C R) Tryz.f144.results.toList (List.range 1) κ) 10000 f p s
def s2 (x0 : Int) (x1 : ByteArray) (x2 : Int) : St := ⟨mkS 78 [(0, .ptr 0 0), (3, .int .i64 x0)], [(0, .var 125 [.str x1, .int .i64 x2])], top⟩
noncomputable abbrev q2 {R : Type} (J : List Item -> St -> Option R) (x0 : Int) (x1 : ByteArray) (x2 : Int) : Option R := J (P 2) (s2 x0 x1 x2)
theorem k2 (J : List Item -> St -> Option R) (κ : List SV -> Option R) (x0 : Int) (x1 : ByteArray) (x2 : Int) : S R κ J 2 (s2 x0 x1 x2) = t2 x0 x1 x2 (q2 J) (K0 κ) := by kernel_rfl
theorem k (κ : List SV -> Option R) (k : Nat) (a0 : ByteArray) (a1 : Int) : runF (C R) Tryz.f144 10000 k [.vp 125 [.str a0, .int .i64 a1]] κ = letter_cursor_host_vsie.e a0 a1 (q2 (G R κ k)) (K0 κ) := by kernel_rfl
theorem g2 (κ : List SV -> Option R) : ∀ (f : Nat), q2 (G R κ f) = L2 (K0 κ) f
 | 0 => rfl
 | f + 1 => by
  funext x0 x1 x2
  show S R κ (G R κ f) 2 _ = _
  rw [k2, g2 κ f]
  rfl
end
theorem run (R : Type) (κ : List SV -> Option R) (a0 : ByteArray) (a1 : Int) : runF (C R) Tryz.f144 10000 fuelK [.vp 125 [.str a0, .int .i64 a1]] κ = letter_cursor_host_vsie a0 a1 (K0 κ) := by
 rw [k]
 rw [g2 R κ fuelK]
 rfl
theorem Γ_does {R : Type} (tab : Tab) (ht : TabOk tab) (g : Nat) : Does (R := R) Tryz.prog (tabTy tyL) tab g ((C R).call g) := by
 refine does_of fun xs κ => ?_
 show DoesAt _ _ _ g xs κ (Γ R g xs κ)
 unfold Γ
 split
 ·exact DoesAt.none
theorem does {R : Type} (tab : Tab) (ht : TabOk tab) (a0 : ByteArray) (a1 : Int) (κ : List SV -> Option R) : DoesAt Tryz.prog (tabTy tyL) tab 144 [.vp 125 [.str a0, .int .i64 a1]] κ (letter_cursor_host_vsie a0 a1 (K0 κ)) := by
 intro r h w vs Rt Ra bs hpre
 exact runF_sound tyOk (Γ_does tab ht) (show Tryz.prog.funcs[144]? = some Tryz.f144 by kernel_rfl) (by kernel_rfl) ((run R κ a0 a1).trans h) hpre
end letter_cursor_host_vsie
theorem bytealg_IndexByteString_0.does {R : Type} (tab : Tab) (ht : TabOk tab) (a0 : ByteArray) (a1 : Int) (κ : List SV -> Option R) : DoesAt Tryz.prog (tabTy tyL) tab 131 [.str a0, .int .u8 a1] κ (bytealg_IndexByteString_0 a0 a1 (fun r0 => κ [.int .i64 r0])) :=
 indexByteString_does (show Tryz.prog.funcs[131]? = some Tryz.f131 by kernel_rfl) (by kernel_rfl) (by kernel_rfl) (by kernel_rfl) (by kernel_rfl) a0 a1 κ
namespace stringslite_IndexByte_0
abbrev K0 {R : Type} (κ : List SV -> Option R) (r0 : Int) : Option R := κ [.int .i64 r0]
section
variable (R : Type) (c1 : bytealg_IndexByteString_0.F R)
def Γ (g : Nat) (xs : List SV) (κ : List SV -> Option R) : Option R :=
 match g with
 | 131 => (match xs with
  | [.str a0, .int .u8 a1] => c1 a0 a1 (fun r0 => κ [.int .i64 r0])
  | _ => none)
 | _ => none
def h (n : Nat) : Option (List (Nat × List (Nat × Nat))) :=
 match n with
 | _ => none
def C : Cfg R := ⟨tabTy tyL, Γ R c1, fun _ => false, h⟩
theorem k (κ : List SV -> Option R) (k : Nat) (a0 : ByteArray) (a1 : Int) : runF (C R c1) Tryz.f88 10000 k [.str a0, .int .u8 a1] κ = stringslite_IndexByte_0.e c1 a0 a1 (K0 κ) := by kernel_rfl
end
theorem run (R : Type) (κ : List SV -> Option R) (a0 : ByteArray) (a1 : Int) : runF (C R bytealg_IndexByteString_0) Tryz.f88 10000 fuelK [.str a0, .int .u8 a1] κ = stringslite_IndexByte_0 a0 a1 (K0 κ) := by
 rw [k]
 rfl
theorem Γ_does {R : Type} (tab : Tab) (ht : TabOk tab) (g : Nat) : Does (R := R) Tryz.prog (tabTy tyL) tab g ((C R bytealg_IndexByteString_0).call g) := by
 refine does_of fun xs κ => ?_
 show DoesAt _ _ _ g xs κ (Γ R bytealg_IndexByteString_0 g xs κ)
 unfold Γ
 split
 ·split
  ·exact bytealg_IndexByteString_0.does tab ht _ _ κ
  ·exact DoesAt.none
 ·exact DoesAt.none
theorem does {R : Type} (tab : Tab) (ht : TabOk tab) (a0 : ByteArray) (a1 : Int) (κ : List SV -> Option R) : DoesAt Tryz.prog (tabTy tyL) tab 88 [.str a0, .int .u8 a1] κ (stringslite_IndexByte_0 a0 a1 (K0 κ)) := by
 intro r h w vs Rt Ra bs hpre
 exact runF_sound tyOk (Γ_does tab ht) (show Tryz.prog.funcs[88]? = some Tryz.f88 by kernel_rfl) (by kernel_rfl) ((run R κ a0 a1).trans h) hpre
end stringslite_IndexByte_0
namespace strings_IndexByte_0
abbrev K0 {R : Type} (κ : List SV -> Option R) (r0 : Int) : Option R := κ [.int .i64 r0]
section
variable (R : Type) (c1 : stringslite_IndexByte_0.F R)
def Γ (g : Nat) (xs : List SV) (κ : List SV -> Option R) : Option R :=
 match g with
 | 88 => (match xs with
  | [.str a0, .int .u8 a1] => c1 a0 a1 (stringslite_IndexByte_0.K0 κ)
  | _ => none)
 | _ => none
def h (n : Nat) : Option (List (Nat × List (Nat × Nat))) :=
 match n with
 | _ => none
def C : Cfg R := ⟨tabTy tyL, Γ R c1, fun _ => false, h⟩
theorem k (κ : List SV -> Option R) (k : Nat) (a0 : ByteArray) (a1 : Int) : runF (C R c1) Tryz.f40 10000 k [.str a0, .int .u8 a1] κ = strings_IndexByte_0.e c1 a0 a1 (K0 κ) := by kernel_rfl
end
theorem run (R : Type) (κ : List SV -> Option R) (a0 : ByteArray) (a1 : Int) : runF (C R stringslite_IndexByte_0) Tryz.f40 10000 fuelK [.str a0, .int .u8 a1] κ = strings_IndexByte_0 a0 a1 (K0 κ) := by
 rw [k]
 rfl
theorem Γ_does {R : Type} (tab : Tab) (ht : TabOk tab) (g : Nat) : Does (R := R) Tryz.prog (tabTy tyL) tab g ((C R stringslite_IndexByte_0).call g) := by
 refine does_of fun xs κ => ?_
 show DoesAt _ _ _ g xs κ (Γ R stringslite_IndexByte_0 g xs κ)
 unfold Γ
 split
 ·split
  ·exact stringslite_IndexByte_0.does tab ht _ _ κ
  ·exact DoesAt.none
 ·exact DoesAt.none
theorem does {R : Type} (tab : Tab) (ht : TabOk tab) (a0 : ByteArray) (a1 : Int) (κ : List SV -> Option R) : DoesAt Tryz.prog (tabTy tyL) tab 40 [.str a0, .int .u8 a1] κ (strings_IndexByte_0 a0 a1 (K0 κ)) := by
 intro r h w vs Rt Ra bs hpre
 exact runF_sound tyOk (Γ_does tab ht) (show Tryz.prog.funcs[40]? = some Tryz.f40 by kernel_rfl) (by kernel_rfl) ((run R κ a0 a1).trans h) hpre
end strings_IndexByte_0
namespace letter_isSign_0
abbrev K0 {R : Type} (κ : List SV -> Option R) (r0 : Bool) : Option R := κ [.bool r0]
section
variable (R : Type) (c1 : strings_IndexByte_0.F R)
def Γ (g : Nat) (xs : List SV) (κ : List SV -> Option R) : Option R :=
 match g with
 | 40 => (match xs with
  | [.str a0, .int .u8 a1] => c1 a0 a1 (strings_IndexByte_0.K0 κ)
  | _ => none)
 | _ => none
def h (n : Nat) : Option (List (Nat × List (Nat × Nat))) :=
 match n with
 | _ => none
def C : Cfg R := ⟨tabTy tyL, Γ R c1, fun _ => false, h⟩
theorem k (κ : List SV -> Option R) (k : Nat) (a0 : Int) : runF (C R c1) Tryz.f145 10000 k [.int .u8 a0] κ = letter_isSign_0.e c1 a0 (K0 κ) := by kernel_rfl
end
theorem run (R : Type) (κ : List SV -> Option R) (a0 : Int) : runF (C R strings_IndexByte_0) Tryz.f145 10000 fuelK [.int .u8 a0] κ = letter_isSign_0 a0 (K0 κ) := by
 rw [k]
 rfl
theorem Γ_does {R : Type} (tab : Tab) (ht : TabOk tab) (g : Nat) : Does (R := R) Tryz.prog (tabTy tyL) tab g ((C R strings_IndexByte_0).call g) := by
 refine does_of fun xs κ => ?_
 show DoesAt _ _ _ g xs κ (Γ R strings_IndexByte_0 g xs κ)
 unfold Γ
 split
 ·split
  ·exact strings_IndexByte_0.does tab ht _ _ κ
  ·exact DoesAt.none
 ·exact DoesAt.none
theorem does {R : Type} (tab : Tab) (ht : TabOk tab) (a0 : Int) (κ : List SV -> Option R) : DoesAt Tryz.prog (tabTy tyL) tab 145 [.int .u8 a0] κ (letter_isSign_0 a0 (K0 κ)) := by
 intro r h w vs Rt Ra bs hpre
 exact runF_sound tyOk (Γ_does tab ht) (show Tryz.prog.funcs[145]? = some Tryz.f145 by kernel_rfl) (by kernel_rfl) ((run R κ a0).trans h) hpre
end letter_isSign_0
namespace letter_isSpace_0
abbrev K0 {R : Type} (κ : List SV -> Option R) (r0 : Bool) : Option R := κ [.bool r0]
section
variable (R : Type)
def Γ (g : Nat) (xs : List SV) (κ : List SV -> Option R) : Option R :=
 match g with
 | _ => none
def h (n : Nat) : Option (List (Nat × List (Nat × Nat))) :=
 match n with
 | _ => none
def C : Cfg R := ⟨tabTy tyL, Γ R, fun _ => false, h⟩
theorem k (κ : List SV -> Option R) (k : Nat) (a0 : Int) : runF (C R) Tryz.f116 10000 k [.int .u8 a0] κ = letter_isSpace_0.e a0 (K0 κ) := by kernel_rfl
end
theorem run (R : Type) (κ : List SV -> Option R) (a0 : Int) : runF (C R) Tryz.f116 10000 fuelK [.int .u8 a0] κ = letter_isSpace_0 a0 (K0 κ) := by
 rw [k]
 rfl
theorem Γ_does {R : Type} (tab : Tab) (ht : TabOk tab) (g : Nat) : Does (R := R) Tryz.prog (tabTy tyL) tab g ((C R).call g) := by
 refine does_of fun xs κ => ?_
 show DoesAt _ _ _ g xs κ (Γ R g xs κ)
 unfold Γ
 split
 ·exact DoesAt.none
theorem does {R : Type} (tab : Tab) (ht : TabOk tab) (a0 : Int) (κ : List SV -> Option R) : DoesAt Tryz.prog (tabTy tyL) tab 116 [.int .u8 a0] κ (letter_isSpace_0 a0 (K0 κ)) := by
 intro r h w vs Rt Ra bs hpre
 exact runF_sound tyOk (Γ_does tab ht) (show Tryz.prog.funcs[116]? = some Tryz.f116 by kernel_rfl) (by kernel_rfl) ((run R κ a0).trans h) hpre
end letter_isSpace_0
namespace letter_isAtom_0
abbrev K0 {R : Type} (κ : List SV -> Option R) (r0 : Bool) : Option R := κ [.bool r0]
section
variable (R : Type) (c1 : letter_isSpace_0.F R) (c2 : letter_isSign_0.F R) (c3 : strings_IndexByte_0.F R)
def Γ (g : Nat) (xs : List SV) (κ : List SV -> Option R) : Option R :=
 match g with
 | 40 => (match xs with
  | [.str a0, .int .u8 a1] => c3 a0 a1 (strings_IndexByte_0.K0 κ)
  | _ => none)
 | 116 => (match xs with
  | [.int .u8 a0] => c1 a0 (letter_isSpace_0.K0 κ)
  | _ => none)
 | 145 => (match xs with
  | [.int .u8 a0] => c2 a0 (letter_isSign_0.K0 κ)
  | _ => none)
 | _ => none
def h (n : Nat) : Option (List (Nat × List (Nat × Nat))) :=
 match n with
 | _ => none
def C : Cfg R := ⟨tabTy tyL, Γ R c1 c2 c3, fun _ => false, h⟩
theorem k (κ : List SV -> Option R) (k : Nat) (a0 : Int) : runF (C R c1 c2 c3) Tryz.f146 10000 k [.int .u8 a0] κ = letter_isAtom_0.e c1 c2 c3 a0 (K0 κ) := by kernel_rfl
end
theorem run (R : Type) (κ : List SV -> Option R) (a0 : Int) : runF (C R letter_isSpace_0 letter_isSign_0 strings_IndexByte_0) Tryz.f146 10000 fuelK [.int .u8 a0] κ = letter_isAtom_0 a0 (K0 κ) := by
 rw [k]
 rfl
theorem Γ_does {R : Type} (tab : Tab) (ht : TabOk tab) (g : Nat) : Does (R := R) Tryz.prog (tabTy tyL) tab g ((C R letter_isSpace_0 letter_isSign_0 strings_IndexByte_0).call g) := by
 refine does_of fun xs κ => ?_
 show DoesAt _ _ _ g xs κ (Γ R letter_isSpace_0 letter_isSign_0 strings_IndexByte_0 g xs κ)
 unfold Γ
 split
 ·split
  ·exact strings_IndexByte_0.does tab ht _ _ κ
  ·exact DoesAt.none
 ·split
  ·exact letter_isSpace_0.does tab ht _ κ
  ·exact DoesAt.none
 ·split
  ·exact letter_isSign_0.does tab ht _ κ
  ·exact DoesAt.none
 ·exact DoesAt.none
theorem does {R : Type} (tab : Tab) (ht : TabOk tab) (a0 : Int) (κ : List SV -> Option R) : DoesAt Tryz.prog (tabTy tyL) tab 146 [.int .u8 a0] κ (letter_isAtom_0 a0 (K0 κ)) := by
 intro r h w vs Rt Ra bs hpre
 exact runF_sound tyOk (Γ_does tab ht) (show Tryz.prog.funcs[146]? = some Tryz.f146 by kernel_rfl) (by kernel_rfl) ((run R κ a0).trans h) hpre
end letter_isAtom_0
namespace letter_cursor_next_vsie
abbrev K0 {R : Type} (κ : List SV -> Option R) (r0 : Int) (r1 : ByteArray) (r2 : ByteArray) (r3 : Int) : Option R := κ [.agg [.int .i64 r0, .str r1], .vp 125 [.str r2, .int .i64 r3]]
section
variable (R : Type) (c1 : letter_cursor_comment_vsie.F R) (c2 : letter_cursor_quotes_vsie.F R) (c3 : letter_cursor_host_vsie.F R) (c4 : letter_isSign_0.F R) (c5 : letter_isAtom_0.F R)
def Γ (g : Nat) (xs : List SV) (κ : List SV -> Option R) : Option R :=
 match g with
 | 142 => (match xs with
  | [.vp 125 [.str a0, .int .i64 a1]] => c1 a0 a1 (letter_cursor_comment_vsie.K0 κ)
  | _ => none)
 | 143 => (match xs with
  | [.vp 125 [.str a0, .int .i64 a1]] => c2 a0 a1 (letter_cursor_quotes_vsie.K0 κ)
  | _ => none)
 | 144 => (match xs with
  | [.vp 125 [.str a0, .int .i64 a1]] => c3 a0 a1 (letter_cursor_host_vsie.K0 κ)
  | _ => none)
 | 145 => (match xs with
  | [.int .u8 a0] => c4 a0 (letter_isSign_0.K0 κ)
  | _ => none)
 | 146 => (match xs with
  | [.int .u8 a0] => c5 a0 (letter_isAtom_0.K0 κ)
  | _ => none)
 | _ => none
def h (n : Nat) : Option (List (Nat × List (Nat × Nat))) :=
 match n with
 | 16 => some [(0, [(0, 0)]), (2, [(0, 0)]), (4, [(0, 0)])]
 | _ => none
def C : Cfg R := ⟨tabTy tyL, Γ R c1 c2 c3 c4 c5, fun _ => false, h⟩
noncomputable abbrev P (i : Nat) : List Item := placeOf Tryz.f109 i
noncomputable def S (κ : List SV -> Option R) (J : List Item -> St -> Option R) (i : Nat) (s : St) : Option R := start (C R c1 c2 c3 c4 c5) J (retK (C R c1 c2 c3 c4 c5) Tryz.f109.results.toList (List.range 1) κ) 10000 (P i) s
noncomputable def G (κ : List SV -> Option R) (f : Nat) (p : List Item) (s : St) : Option R := goto (C R c1 c2 c3 c4 c5) (retK (C R c1 c2 c3 c4 c5) Tryz.f109.results.toList (List.range 1) κ) 10000 f p s
def s16 (x0 : Int) (x1 : ByteArray) (x2 : Int) (x3 : Int) (x4 : ByteArray) : St := ⟨mkS 101 [(0, .ptr 0 0), (2, .ptr 255 0), (4, .int .i64 x0)], [(0, .var 125 [.str x1, .int .i64 x2]), (255, .var 89 [.int .i64 x3, .str x4])], top⟩
noncomputable abbrev q16 {R : Type} (J : List Item -> St -> Option R) (x0 : Int) (x1 : ByteArray) (x2 : Int) (x3 : Int) (x4 : ByteArray) : Option R := J (P 16) (s16 x0 x1 x2 x3 x4)
theorem k16 (J : List Item -> St -> Option R) (κ : List SV -> Option R) (x0 : Int) (x1 : ByteArray) (x2 : Int) (x3 : Int) (x4 : ByteArray) : S R c1 c2 c3 c4 c5 κ J 16 (s16 x0 x1 x2 x3 x4) = t16 c1 c2 c3 c4 c5 x0 x1 x2 x3 x4 (q16 J) (K0 κ) := by kernel_rfl
theorem k (κ : List SV -> Option R) (k : Nat) (a0 : ByteArray) (a1 : Int) : runF (C R c1 c2 c3 c4 c5) Tryz.f109 10000 k [.vp 125 [.str a0, .int .i64 a1]] κ = letter_cursor_next_vsie.e c1 c2 c3 c4 c5 a0 a1 (q16 (G R c1 c2 c3 c4 c5 κ k)) (K0 κ) := by kernel_rfl
theorem g16 (κ : List SV -> Option R) : ∀ (f : Nat), q16 (G R c1 c2 c3 c4 c5 κ f) = L16 c1 c2 c3 c4 c5 (K0 κ) f
 | 0 => rfl
 | f + 1 => by
  funext x0 x1 x2 x3 x4
  show S R c1 c2 c3 c4 c5 κ (G R c1 c2 c3 c4 c5 κ f) 16 _ = _
  rw [k16, g16 κ f]
  rfl
end
theorem run (R : Type) (κ : List SV -> Option R) (a0 : ByteArray) (a1 : Int) : runF (C R letter_cursor_comment_vsie letter_cursor_quotes_vsie letter_cursor_host_vsie letter_isSign_0 letter_isAtom_0) Tryz.f109 10000 fuelK [.vp 125 [.str a0, .int .i64 a1]] κ = letter_cursor_next_vsie a0 a1 (K0 κ) := by
 rw [k]
 rw [g16 R letter_cursor_comment_vsie letter_cursor_quotes_vsie letter_cursor_host_vsie letter_isSign_0 letter_isAtom_0 κ fuelK]
 rfl
theorem Γ_does {R : Type} (tab : Tab) (ht : TabOk tab) (g : Nat) : Does (R := R) Tryz.prog (tabTy tyL) tab g ((C R letter_cursor_comment_vsie letter_cursor_quotes_vsie letter_cursor_host_vsie letter_isSign_0 letter_isAtom_0).call g) := by
 refine does_of fun xs κ => ?_
 show DoesAt _ _ _ g xs κ (Γ R letter_cursor_comment_vsie letter_cursor_quotes_vsie letter_cursor_host_vsie letter_isSign_0 letter_isAtom_0 g xs κ)
 unfold Γ
 split
 ·split
  ·exact letter_cursor_comment_vsie.does tab ht _ _ κ
  ·exact DoesAt.none
 ·split
  ·exact letter_cursor_quotes_vsie.does tab ht _ _ κ
  ·exact DoesAt.none
 ·split
  ·exact letter_cursor_host_vsie.does tab ht _ _ κ
  ·exact DoesAt.none
 ·split
  ·exact letter_isSign_0.does tab ht _ κ
  ·exact DoesAt.none
 ·split
  ·exact letter_isAtom_0.does tab ht _ κ
  ·exact DoesAt.none
 ·exact DoesAt.none
theorem does {R : Type} (tab : Tab) (ht : TabOk tab) (a0 : ByteArray) (a1 : Int) (κ : List SV -> Option R) : DoesAt Tryz.prog (tabTy tyL) tab 109 [.vp 125 [.str a0, .int .i64 a1]] κ (letter_cursor_next_vsie a0 a1 (K0 κ)) := by
 intro r h w vs Rt Ra bs hpre
 exact runF_sound tyOk (Γ_does tab ht) (show Tryz.prog.funcs[109]? = some Tryz.f109 by kernel_rfl) (by kernel_rfl) ((run R κ a0 a1).trans h) hpre
end letter_cursor_next_vsie
namespace letter_pieces_0
abbrev K0 {R : Type} (κ : List SV -> Option R) (r0 : List AV) : Option R := κ [.fr 89 r0 true]
section
variable (R : Type) (c1 : letter_cursor_next_vsie.F R)
def Γ (g : Nat) (xs : List SV) (κ : List SV -> Option R) : Option R :=
 match g with
 | 109 => (match xs with
  | [.vp 125 [.str a0, .int .i64 a1]] => c1 a0 a1 (letter_cursor_next_vsie.K0 κ)
  | _ => none)
 | _ => none
def h (n : Nat) : Option (List (Nat × List (Nat × Nat))) :=
 match n with
 | 3 => some [(3, [(0, 0)]), (4, [(0, 91)])]
 | _ => none
def C : Cfg R := ⟨tabTy tyL, Γ R c1, fun _ => false, h⟩
noncomputable abbrev P (i : Nat) : List Item := placeOf Tryz.f56 i
noncomputable def S (κ : List SV -> Option R) (J : List Item -> St -> Option R) (i : Nat) (s : St) : Option R := start (C R c1) J (retK (C R c1) Tryz.f56.results.toList (List.range 0) κ) 10000 (P i) s
noncomputable def G (κ : List SV -> Option R) (f : Nat) (p : List Item) (s : St) : Option R := goto (C R c1) (retK (C R c1) Tryz.f56.results.toList (List.range 0) κ) 10000 f p s
def s3 (x0 : ByteArray) (x1 : Int) (x2 : List AV) : St := ⟨mkS 24 [(3, .ptr 319 0), (4, .own 320)], [(319, .var 125 [.str x0, .int .i64 x1]), (320, .row 89 x2 true)], top⟩
noncomputable abbrev q3 {R : Type} (J : List Item -> St -> Option R) (x0 : ByteArray) (x1 : Int) (x2 : List AV) : Option R := J (P 3) (s3 x0 x1 x2)
theorem k3 (J : List Item -> St -> Option R) (κ : List SV -> Option R) (x0 : ByteArray) (x1 : Int) (x2 : List AV) : S R c1 κ J 3 (s3 x0 x1 x2) = t3 c1 x0 x1 x2 (q3 J) (K0 κ) := by kernel_rfl
theorem k (κ : List SV -> Option R) (k : Nat) (a0 : ByteArray) : runF (C R c1) Tryz.f56 10000 k [.str a0] κ = letter_pieces_0.e c1 a0 (q3 (G R c1 κ k)) (K0 κ) := by kernel_rfl
theorem g3 (κ : List SV -> Option R) : ∀ (f : Nat), q3 (G R c1 κ f) = L3 c1 (K0 κ) f
 | 0 => rfl
 | f + 1 => by
  funext x0 x1 x2
  show S R c1 κ (G R c1 κ f) 3 _ = _
  rw [k3, g3 κ f]
  rfl
end
theorem run (R : Type) (κ : List SV -> Option R) (a0 : ByteArray) : runF (C R letter_cursor_next_vsie) Tryz.f56 10000 fuelK [.str a0] κ = letter_pieces_0 a0 (K0 κ) := by
 rw [k]
 rw [g3 R letter_cursor_next_vsie κ fuelK]
 rfl
theorem Γ_does {R : Type} (tab : Tab) (ht : TabOk tab) (g : Nat) : Does (R := R) Tryz.prog (tabTy tyL) tab g ((C R letter_cursor_next_vsie).call g) := by
 refine does_of fun xs κ => ?_
 show DoesAt _ _ _ g xs κ (Γ R letter_cursor_next_vsie g xs κ)
 unfold Γ
 split
 ·split
  ·exact letter_cursor_next_vsie.does tab ht _ _ κ
  ·exact DoesAt.none
 ·exact DoesAt.none
theorem does {R : Type} (tab : Tab) (ht : TabOk tab) (a0 : ByteArray) (κ : List SV -> Option R) : DoesAt Tryz.prog (tabTy tyL) tab 56 [.str a0] κ (letter_pieces_0 a0 (K0 κ)) := by
 intro r h w vs Rt Ra bs hpre
 exact runF_sound tyOk (Γ_does tab ht) (show Tryz.prog.funcs[56]? = some Tryz.f56 by kernel_rfl) (by kernel_rfl) ((run R κ a0).trans h) hpre
end letter_pieces_0
namespace letter_piece_is_0
abbrev K0 {R : Type} (κ : List SV -> Option R) (r0 : Bool) : Option R := κ [.bool r0]
section
variable (R : Type)
def Γ (g : Nat) (xs : List SV) (κ : List SV -> Option R) : Option R :=
 match g with
 | _ => none
def h (n : Nat) : Option (List (Nat × List (Nat × Nat))) :=
 match n with
 | _ => none
def C : Cfg R := ⟨tabTy tyL, Γ R, fun _ => false, h⟩
theorem k (κ : List SV -> Option R) (k : Nat) (a0 : Int) (a1 : ByteArray) (a2 : ByteArray) : runF (C R) Tryz.f68 10000 k [.agg [.int .i64 a0, .str a1], .str a2] κ = letter_piece_is_0.e a0 a1 a2 (K0 κ) := by kernel_rfl
end
theorem run (R : Type) (κ : List SV -> Option R) (a0 : Int) (a1 : ByteArray) (a2 : ByteArray) : runF (C R) Tryz.f68 10000 fuelK [.agg [.int .i64 a0, .str a1], .str a2] κ = letter_piece_is_0 a0 a1 a2 (K0 κ) := by
 rw [k]
 rfl
theorem Γ_does {R : Type} (tab : Tab) (ht : TabOk tab) (g : Nat) : Does (R := R) Tryz.prog (tabTy tyL) tab g ((C R).call g) := by
 refine does_of fun xs κ => ?_
 show DoesAt _ _ _ g xs κ (Γ R g xs κ)
 unfold Γ
 split
 ·exact DoesAt.none
theorem does {R : Type} (tab : Tab) (ht : TabOk tab) (a0 : Int) (a1 : ByteArray) (a2 : ByteArray) (κ : List SV -> Option R) : DoesAt Tryz.prog (tabTy tyL) tab 68 [.agg [.int .i64 a0, .str a1], .str a2] κ (letter_piece_is_0 a0 a1 a2 (K0 κ)) := by
 intro r h w vs Rt Ra bs hpre
 exact runF_sound tyOk (Γ_does tab ht) (show Tryz.prog.funcs[68]? = some Tryz.f68 by kernel_rfl) (by kernel_rfl) ((run R κ a0 a1 a2).trans h) hpre
end letter_piece_is_0
namespace letter_find_ois
abbrev K0 {R : Type} (κ : List SV -> Option R) (r0 : Int) : Option R := κ [.int .i64 r0]
section
variable (R : Type) (c1 : letter_piece_is_0.F R)
def Γ (g : Nat) (xs : List SV) (κ : List SV -> Option R) : Option R :=
 match g with
 | 68 => (match xs with
  | [.agg [.int .i64 a0, .str a1], .str a2] => c1 a0 a1 a2 (letter_piece_is_0.K0 κ)
  | _ => none)
 | _ => none
def h (n : Nat) : Option (List (Nat × List (Nat × Nat))) :=
 match n with
 | 2 => some [(0, [(0, 0)]), (2, [(0, 0)]), (7, [(0, 0)])]
 | _ => none
def C : Cfg R := ⟨tabTy tyL, Γ R c1, fun _ => false, h⟩
noncomputable abbrev P (i : Nat) : List Item := placeOf Tryz.f69 i
noncomputable def S (κ : List SV -> Option R) (J : List Item -> St -> Option R) (i : Nat) (s : St) : Option R := start (C R c1) J (retK (C R c1) Tryz.f69.results.toList (List.range 0) κ) 10000 (P i) s
noncomputable def G (κ : List SV -> Option R) (f : Nat) (p : List Item) (s : St) : Option R := goto (C R c1) (retK (C R c1) Tryz.f69.results.toList (List.range 0) κ) 10000 f p s
def s2 (x0 : List AV) (x1 : ByteArray) (x2 : Int) : St := ⟨mkS 24 [(0, .ro 89 x0 false), (2, .str x1), (7, .int .i64 x2)], [], top⟩
noncomputable abbrev q2 {R : Type} (J : List Item -> St -> Option R) (x0 : List AV) (x1 : ByteArray) (x2 : Int) : Option R := J (P 2) (s2 x0 x1 x2)
theorem k2 (J : List Item -> St -> Option R) (κ : List SV -> Option R) (x0 : List AV) (x1 : ByteArray) (x2 : Int) : S R c1 κ J 2 (s2 x0 x1 x2) = t2 c1 x0 x1 x2 (q2 J) (K0 κ) := by kernel_rfl
theorem k (κ : List SV -> Option R) (k : Nat) (a0 : List AV) (a1 : Int) (a2 : ByteArray) : runF (C R c1) Tryz.f69 10000 k [.ro 89 a0 false, .int .i64 a1, .str a2] κ = letter_find_ois.e c1 a0 a1 a2 (q2 (G R c1 κ k)) (K0 κ) := by kernel_rfl
theorem g2 (κ : List SV -> Option R) : ∀ (f : Nat), q2 (G R c1 κ f) = L2 c1 (K0 κ) f
 | 0 => rfl
 | f + 1 => by
  funext x0 x1 x2
  show S R c1 κ (G R c1 κ f) 2 _ = _
  rw [k2, g2 κ f]
  rfl
end
theorem run (R : Type) (κ : List SV -> Option R) (a0 : List AV) (a1 : Int) (a2 : ByteArray) : runF (C R letter_piece_is_0) Tryz.f69 10000 fuelK [.ro 89 a0 false, .int .i64 a1, .str a2] κ = letter_find_ois a0 a1 a2 (K0 κ) := by
 rw [k]
 rw [g2 R letter_piece_is_0 κ fuelK]
 rfl
theorem Γ_does {R : Type} (tab : Tab) (ht : TabOk tab) (g : Nat) : Does (R := R) Tryz.prog (tabTy tyL) tab g ((C R letter_piece_is_0).call g) := by
 refine does_of fun xs κ => ?_
 show DoesAt _ _ _ g xs κ (Γ R letter_piece_is_0 g xs κ)
 unfold Γ
 split
 ·split
  ·exact letter_piece_is_0.does tab ht _ _ _ κ
  ·exact DoesAt.none
 ·exact DoesAt.none
theorem does {R : Type} (tab : Tab) (ht : TabOk tab) (a0 : List AV) (a1 : Int) (a2 : ByteArray) (κ : List SV -> Option R) : DoesAt Tryz.prog (tabTy tyL) tab 69 [.ro 89 a0 false, .int .i64 a1, .str a2] κ (letter_find_ois a0 a1 a2 (K0 κ)) := by
 intro r h w vs Rt Ra bs hpre
 exact runF_sound tyOk (Γ_does tab ht) (show Tryz.prog.funcs[69]? = some Tryz.f69 by kernel_rfl) (by kernel_rfl) ((run R κ a0 a1 a2).trans h) hpre
end letter_find_ois
namespace letter_part_oi
abbrev K0 {R : Type} (κ : List SV -> Option R) (r0 : Int) : Option R := κ [.int .i64 r0]
section
variable (R : Type) (c1 : letter_piece_is_0.F R) (c2 : letter_find_ois.F R)
def Γ (g : Nat) (xs : List SV) (κ : List SV -> Option R) : Option R :=
 match g with
 | 68 => (match xs with
  | [.agg [.int .i64 a0, .str a1], .str a2] => c1 a0 a1 a2 (letter_piece_is_0.K0 κ)
  | _ => none)
 | 69 => (match xs with
  | [.ro 89 a0 false, .int .i64 a1, .str a2] => c2 a0 a1 a2 (letter_find_ois.K0 κ)
  | _ => none)
 | _ => none
def h (n : Nat) : Option (List (Nat × List (Nat × Nat))) :=
 match n with
 | 2 => some [(0, [(0, 0)]), (5, [(0, 0)])]
 | _ => none
def C : Cfg R := ⟨tabTy tyL, Γ R c1 c2, fun _ => false, h⟩
noncomputable abbrev P (i : Nat) : List Item := placeOf Tryz.f57 i
noncomputable def S (κ : List SV -> Option R) (J : List Item -> St -> Option R) (i : Nat) (s : St) : Option R := start (C R c1 c2) J (retK (C R c1 c2) Tryz.f57.results.toList (List.range 0) κ) 10000 (P i) s
noncomputable def G (κ : List SV -> Option R) (f : Nat) (p : List Item) (s : St) : Option R := goto (C R c1 c2) (retK (C R c1 c2) Tryz.f57.results.toList (List.range 0) κ) 10000 f p s
def s2 (x0 : List AV) (x1 : Int) : St := ⟨mkS 50 [(0, .ro 89 x0 false), (5, .int .i64 x1)], [], top⟩
noncomputable abbrev q2 {R : Type} (J : List Item -> St -> Option R) (x0 : List AV) (x1 : Int) : Option R := J (P 2) (s2 x0 x1)
theorem k2 (J : List Item -> St -> Option R) (κ : List SV -> Option R) (x0 : List AV) (x1 : Int) : S R c1 c2 κ J 2 (s2 x0 x1) = t2 c1 c2 x0 x1 (q2 J) (K0 κ) := by kernel_rfl
theorem k (κ : List SV -> Option R) (k : Nat) (a0 : List AV) (a1 : Int) : runF (C R c1 c2) Tryz.f57 10000 k [.ro 89 a0 false, .int .i64 a1] κ = letter_part_oi.e c1 c2 a0 a1 (q2 (G R c1 c2 κ k)) (K0 κ) := by kernel_rfl
theorem g2 (κ : List SV -> Option R) : ∀ (f : Nat), q2 (G R c1 c2 κ f) = L2 c1 c2 (K0 κ) f
 | 0 => rfl
 | f + 1 => by
  funext x0 x1
  show S R c1 c2 κ (G R c1 c2 κ f) 2 _ = _
  rw [k2, g2 κ f]
  rfl
end
theorem run (R : Type) (κ : List SV -> Option R) (a0 : List AV) (a1 : Int) : runF (C R letter_piece_is_0 letter_find_ois) Tryz.f57 10000 fuelK [.ro 89 a0 false, .int .i64 a1] κ = letter_part_oi a0 a1 (K0 κ) := by
 rw [k]
 rw [g2 R letter_piece_is_0 letter_find_ois κ fuelK]
 rfl
theorem Γ_does {R : Type} (tab : Tab) (ht : TabOk tab) (g : Nat) : Does (R := R) Tryz.prog (tabTy tyL) tab g ((C R letter_piece_is_0 letter_find_ois).call g) := by
 refine does_of fun xs κ => ?_
 show DoesAt _ _ _ g xs κ (Γ R letter_piece_is_0 letter_find_ois g xs κ)
 unfold Γ
 split
 ·split
  ·exact letter_piece_is_0.does tab ht _ _ _ κ
  ·exact DoesAt.none
 ·split
  ·exact letter_find_ois.does tab ht _ _ _ κ
  ·exact DoesAt.none
 ·exact DoesAt.none
theorem does {R : Type} (tab : Tab) (ht : TabOk tab) (a0 : List AV) (a1 : Int) (κ : List SV -> Option R) : DoesAt Tryz.prog (tabTy tyL) tab 57 [.ro 89 a0 false, .int .i64 a1] κ (letter_part_oi a0 a1 (K0 κ)) := by
 intro r h w vs Rt Ra bs hpre
 exact runF_sound tyOk (Γ_does tab ht) (show Tryz.prog.funcs[57]? = some Tryz.f57 by kernel_rfl) (by kernel_rfl) ((run R κ a0 a1).trans h) hpre
end letter_part_oi
namespace strings_Builder_WriteString_vxfes
abbrev K0 {R : Type} (κ : List SV -> Option R) (r0 : Int) (r1 : List AV) : Option R := κ [.tup [.int .i64 r0, .nili], .vp 74 [.nos, .fr 5 r1 true]]
section
variable (R : Type) (c1 : strings_Builder_copyCheck_vxfe.F R)
def Γ (g : Nat) (xs : List SV) (κ : List SV -> Option R) : Option R :=
 match g with
 | 99 => (match xs with
  | [.vp 74 [.nos, .fr 5 a0 true]] => c1 a0 (fun r0 => κ [.tup [], .vp 74 [.nos, .fr 5 r0 true]])
  | _ => none)
 | _ => none
def h (n : Nat) : Option (List (Nat × List (Nat × Nat))) :=
 match n with
 | _ => none
def C : Cfg R := ⟨tabTy tyL, Γ R c1, fun _ => false, h⟩
theorem k (κ : List SV -> Option R) (k : Nat) (a0 : List AV) (a1 : ByteArray) : runF (C R c1) Tryz.f47 10000 k [.vp 74 [.nos, .fr 5 a0 true], .str a1] κ = strings_Builder_WriteString_vxfes.e c1 a0 a1 (K0 κ) := by kernel_rfl
end
theorem run (R : Type) (κ : List SV -> Option R) (a0 : List AV) (a1 : ByteArray) : runF (C R strings_Builder_copyCheck_vxfe) Tryz.f47 10000 fuelK [.vp 74 [.nos, .fr 5 a0 true], .str a1] κ = strings_Builder_WriteString_vxfes a0 a1 (K0 κ) := by
 rw [k]
 rfl
theorem Γ_does {R : Type} (tab : Tab) (ht : TabOk tab) (g : Nat) : Does (R := R) Tryz.prog (tabTy tyL) tab g ((C R strings_Builder_copyCheck_vxfe).call g) := by
 refine does_of fun xs κ => ?_
 show DoesAt _ _ _ g xs κ (Γ R strings_Builder_copyCheck_vxfe g xs κ)
 unfold Γ
 split
 ·split
  ·exact strings_Builder_copyCheck_vxfe.does tab ht _ κ
  ·exact DoesAt.none
 ·exact DoesAt.none
theorem does {R : Type} (tab : Tab) (ht : TabOk tab) (a0 : List AV) (a1 : ByteArray) (κ : List SV -> Option R) : DoesAt Tryz.prog (tabTy tyL) tab 47 [.vp 74 [.nos, .fr 5 a0 true], .str a1] κ (strings_Builder_WriteString_vxfes a0 a1 (K0 κ)) := by
 intro r h w vs Rt Ra bs hpre
 exact runF_sound tyOk (Γ_does tab ht) (show Tryz.prog.funcs[47]? = some Tryz.f47 by kernel_rfl) (by kernel_rfl) ((run R κ a0 a1).trans h) hpre
end strings_Builder_WriteString_vxfes
namespace letter_text_ob
abbrev K0 {R : Type} (κ : List SV -> Option R) (r0 : ByteArray) : Option R := κ [.str r0]
section
variable (R : Type) (c1 : strings_Builder_WriteByte_vxfei.F R) (c2 : strings_Builder_WriteString_vxfes.F R) (c3 : strings_Builder_String_vxfe.F R)
def Γ (g : Nat) (xs : List SV) (κ : List SV -> Option R) : Option R :=
 match g with
 | 47 => (match xs with
  | [.vp 74 [.nos, .fr 5 a0 true], .str a1] => c2 a0 a1 (strings_Builder_WriteString_vxfes.K0 κ)
  | _ => none)
 | 49 => (match xs with
  | [.vp 74 [.nos, .fr 5 a0 true]] => c3 a0 (strings_Builder_String_vxfe.K0 κ)
  | _ => none)
 | 110 => (match xs with
  | [.vp 74 [.nos, .fr 5 a0 true], .int .u8 a1] => c1 a0 a1 (strings_Builder_WriteByte_vxfei.K0 κ)
  | _ => none)
 | _ => none
def h (n : Nat) : Option (List (Nat × List (Nat × Nat))) :=
 match n with
 | 4 => some [(1, [(0, 0)]), (5, [(1, 7)]), (6, [(0, 0)]), (7, [(0, 0)]), (10, [(0, 0)]), (11, [(0, 0)]), (12, [(0, 0)])]
 | _ => none
def C : Cfg R := ⟨tabTy tyL, Γ R c1 c2 c3, fun _ => false, h⟩
noncomputable abbrev P (i : Nat) : List Item := placeOf Tryz.f59 i
noncomputable def S (κ : List SV -> Option R) (J : List Item -> St -> Option R) (i : Nat) (s : St) : Option R := start (C R c1 c2 c3) J (retK (C R c1 c2 c3) Tryz.f59.results.toList (List.range 0) κ) 10000 (P i) s
noncomputable def G (κ : List SV -> Option R) (f : Nat) (p : List Item) (s : St) : Option R := goto (C R c1 c2 c3) (retK (C R c1 c2 c3) Tryz.f59.results.toList (List.range 0) κ) 10000 f p s
def s4 (x0 : Bool) (x1 : Bool) (x2 : Bool) (x3 : List AV) (x4 : Int) (x5 : Int) (x6 : List AV) : St := ⟨mkS 31 [(1, .bool x0), (5, .ptr 447 0), (6, .bool x1), (7, .bool x2), (10, .ro 89 x3 false), (11, .int .i64 x4), (12, .int .i64 x5)], [(447, .var 74 [.nos, .own 385]), (385, .row 5 x6 true)], top⟩
noncomputable abbrev q4 {R : Type} (J : List Item -> St -> Option R) (x0 : Bool) (x1 : Bool) (x2 : Bool) (x3 : List AV) (x4 : Int) (x5 : Int) (x6 : List AV) : Option R := J (P 4) (s4 x0 x1 x2 x3 x4 x5 x6)
theorem k4 (J : List Item -> St -> Option R) (κ : List SV -> Option R) (x0 : Bool) (x1 : Bool) (x2 : Bool) (x3 : List AV) (x4 : Int) (x5 : Int) (x6 : List AV) : S R c1 c2 c3 κ J 4 (s4 x0 x1 x2 x3 x4 x5 x6) = t4 c1 c2 c3 x0 x1 x2 x3 x4 x5 x6 (q4 J) (K0 κ) := by kernel_rfl
theorem k (κ : List SV -> Option R) (k : Nat) (a0 : List AV) (a1 : Bool) : runF (C R c1 c2 c3) Tryz.f59 10000 k [.ro 89 a0 false, .bool a1] κ = letter_text_ob.e c1 c2 c3 a0 a1 (q4 (G R c1 c2 c3 κ k)) (K0 κ) := by kernel_rfl
theorem g4 (κ : List SV -> Option R) : ∀ (f : Nat), q4 (G R c1 c2 c3 κ f) = L4 c1 c2 c3 (K0 κ) f
 | 0 => rfl
 | f + 1 => by
  funext x0 x1 x2 x3 x4 x5 x6
  show S R c1 c2 c3 κ (G R c1 c2 c3 κ f) 4 _ = _
  rw [k4, g4 κ f]
  rfl
end
theorem run (R : Type) (κ : List SV -> Option R) (a0 : List AV) (a1 : Bool) : runF (C R strings_Builder_WriteByte_vxfei strings_Builder_WriteString_vxfes strings_Builder_String_vxfe) Tryz.f59 10000 fuelK [.ro 89 a0 false, .bool a1] κ = letter_text_ob a0 a1 (K0 κ) := by
 rw [k]
 rw [g4 R strings_Builder_WriteByte_vxfei strings_Builder_WriteString_vxfes strings_Builder_String_vxfe κ fuelK]
 rfl
theorem Γ_does {R : Type} (tab : Tab) (ht : TabOk tab) (g : Nat) : Does (R := R) Tryz.prog (tabTy tyL) tab g ((C R strings_Builder_WriteByte_vxfei strings_Builder_WriteString_vxfes strings_Builder_String_vxfe).call g) := by
 refine does_of fun xs κ => ?_
 show DoesAt _ _ _ g xs κ (Γ R strings_Builder_WriteByte_vxfei strings_Builder_WriteString_vxfes strings_Builder_String_vxfe g xs κ)
 unfold Γ
 split
 ·split
  ·exact strings_Builder_WriteString_vxfes.does tab ht _ _ κ
  ·exact DoesAt.none
 ·split
  ·exact strings_Builder_String_vxfe.does tab ht _ κ
  ·exact DoesAt.none
 ·split
  ·exact strings_Builder_WriteByte_vxfei.does tab ht _ _ κ
  ·exact DoesAt.none
 ·exact DoesAt.none
theorem does {R : Type} (tab : Tab) (ht : TabOk tab) (a0 : List AV) (a1 : Bool) (κ : List SV -> Option R) : DoesAt Tryz.prog (tabTy tyL) tab 59 [.ro 89 a0 false, .bool a1] κ (letter_text_ob a0 a1 (K0 κ)) := by
 intro r h w vs Rt Ra bs hpre
 exact runF_sound tyOk (Γ_does tab ht) (show Tryz.prog.funcs[59]? = some Tryz.f59 by kernel_rfl) (by kernel_rfl) ((run R κ a0 a1).trans h) hpre
end letter_text_ob
namespace letter_some_0
abbrev K0 {R : Type} (κ : List SV -> Option R) (r0 : Bool) (r1 : ByteArray) : Option R := κ [.agg [.bool r0, .str r1]]
section
variable (R : Type)
def Γ (g : Nat) (xs : List SV) (κ : List SV -> Option R) : Option R :=
 match g with
 | _ => none
def h (n : Nat) : Option (List (Nat × List (Nat × Nat))) :=
 match n with
 | _ => none
def C : Cfg R := ⟨tabTy tyL, Γ R, fun _ => false, h⟩
theorem k (κ : List SV -> Option R) (k : Nat) (a0 : ByteArray) : runF (C R) Tryz.f58 10000 k [.str a0] κ = letter_some_0.e a0 (K0 κ) := by kernel_rfl
end
theorem run (R : Type) (κ : List SV -> Option R) (a0 : ByteArray) : runF (C R) Tryz.f58 10000 fuelK [.str a0] κ = letter_some_0 a0 (K0 κ) := by
 rw [k]
 rfl
theorem Γ_does {R : Type} (tab : Tab) (ht : TabOk tab) (g : Nat) : Does (R := R) Tryz.prog (tabTy tyL) tab g ((C R).call g) := by
 refine does_of fun xs κ => ?_
 show DoesAt _ _ _ g xs κ (Γ R g xs κ)
 unfold Γ
 split
 ·exact DoesAt.none
theorem does {R : Type} (tab : Tab) (ht : TabOk tab) (a0 : ByteArray) (κ : List SV -> Option R) : DoesAt Tryz.prog (tabTy tyL) tab 58 [.str a0] κ (letter_some_0 a0 (K0 κ)) := by
 intro r h w vs Rt Ra bs hpre
 exact runF_sound tyOk (Γ_does tab ht) (show Tryz.prog.funcs[58]? = some Tryz.f58 by kernel_rfl) (by kernel_rfl) ((run R κ a0).trans h) hpre
end letter_some_0
namespace letter_held_o
abbrev K0 {R : Type} (κ : List SV -> Option R) (r0 : Bool) : Option R := κ [.bool r0]
section
variable (R : Type)
def Γ (g : Nat) (xs : List SV) (κ : List SV -> Option R) : Option R :=
 match g with
 | _ => none
def h (n : Nat) : Option (List (Nat × List (Nat × Nat))) :=
 match n with
 | 2 => some [(5, [(0, 0)]), (6, [(0, 0)]), (7, [(0, 0)])]
 | _ => none
def C : Cfg R := ⟨tabTy tyL, Γ R, fun _ => false, h⟩
noncomputable abbrev P (i : Nat) : List Item := placeOf Tryz.f60 i
noncomputable def S (κ : List SV -> Option R) (J : List Item -> St -> Option R) (i : Nat) (s : St) : Option R := start (C R) J (retK (C R) Tryz.f60.results.toList (List.range 0) κ) 10000 (P i) s
noncomputable def G (κ : List SV -> Option R) (f : Nat) (p : List Item) (s : St) : Option R := goto (C R) (retK (C R) Tryz.f60.results.toList (List.range 0) κ) 10000 f p s
def s2 (x0 : List AV) (x1 : Int) (x2 : Int) : St := ⟨mkS 15 [(5, .ro 89 x0 false), (6, .int .i64 x1), (7, .int .i64 x2)], [], top⟩
noncomputable abbrev q2 {R : Type} (J : List Item -> St -> Option R) (x0 : List AV) (x1 : Int) (x2 : Int) : Option R := J (P 2) (s2 x0 x1 x2)
theorem k2 (J : List Item -> St -> Option R) (κ : List SV -> Option R) (x0 : List AV) (x1 : Int) (x2 : Int) : S R κ J 2 (s2 x0 x1 x2) = t2 x0 x1 x2 (q2 J) (K0 κ) := by kernel_rfl
theorem k (κ : List SV -> Option R) (k : Nat) (a0 : List AV) : runF (C R) Tryz.f60 10000 k [.ro 89 a0 false] κ = letter_held_o.e a0 (q2 (G R κ k)) (K0 κ) := by kernel_rfl
theorem g2 (κ : List SV -> Option R) : ∀ (f : Nat), q2 (G R κ f) = L2 (K0 κ) f
 | 0 => rfl
 | f + 1 => by
  funext x0 x1 x2
  show S R κ (G R κ f) 2 _ = _
  rw [k2, g2 κ f]
  rfl
end
theorem run (R : Type) (κ : List SV -> Option R) (a0 : List AV) : runF (C R) Tryz.f60 10000 fuelK [.ro 89 a0 false] κ = letter_held_o a0 (K0 κ) := by
 rw [k]
 rw [g2 R κ fuelK]
 rfl
theorem Γ_does {R : Type} (tab : Tab) (ht : TabOk tab) (g : Nat) : Does (R := R) Tryz.prog (tabTy tyL) tab g ((C R).call g) := by
 refine does_of fun xs κ => ?_
 show DoesAt _ _ _ g xs κ (Γ R g xs κ)
 unfold Γ
 split
 ·exact DoesAt.none
theorem does {R : Type} (tab : Tab) (ht : TabOk tab) (a0 : List AV) (κ : List SV -> Option R) : DoesAt Tryz.prog (tabTy tyL) tab 60 [.ro 89 a0 false] κ (letter_held_o a0 (K0 κ)) := by
 intro r h w vs Rt Ra bs hpre
 exact runF_sound tyOk (Γ_does tab ht) (show Tryz.prog.funcs[60]? = some Tryz.f60 by kernel_rfl) (by kernel_rfl) ((run R κ a0).trans h) hpre
end letter_held_o
namespace letter_routed_o
abbrev K0 {R : Type} (κ : List SV -> Option R) (r0 : Bool) : Option R := κ [.bool r0]
section
variable (R : Type) (c1 : letter_piece_is_0.F R)
def Γ (g : Nat) (xs : List SV) (κ : List SV -> Option R) : Option R :=
 match g with
 | 68 => (match xs with
  | [.agg [.int .i64 a0, .str a1], .str a2] => c1 a0 a1 a2 (letter_piece_is_0.K0 κ)
  | _ => none)
 | _ => none
def h (n : Nat) : Option (List (Nat × List (Nat × Nat))) :=
 match n with
 | 2 => some [(5, [(0, 0)]), (6, [(0, 0)]), (7, [(0, 0)])]
 | _ => none
def C : Cfg R := ⟨tabTy tyL, Γ R c1, fun _ => false, h⟩
noncomputable abbrev P (i : Nat) : List Item := placeOf Tryz.f111 i
noncomputable def S (κ : List SV -> Option R) (J : List Item -> St -> Option R) (i : Nat) (s : St) : Option R := start (C R c1) J (retK (C R c1) Tryz.f111.results.toList (List.range 0) κ) 10000 (P i) s
noncomputable def G (κ : List SV -> Option R) (f : Nat) (p : List Item) (s : St) : Option R := goto (C R c1) (retK (C R c1) Tryz.f111.results.toList (List.range 0) κ) 10000 f p s
def s2 (x0 : List AV) (x1 : Int) (x2 : Int) : St := ⟨mkS 17 [(5, .ro 89 x0 false), (6, .int .i64 x1), (7, .int .i64 x2)], [], top⟩
noncomputable abbrev q2 {R : Type} (J : List Item -> St -> Option R) (x0 : List AV) (x1 : Int) (x2 : Int) : Option R := J (P 2) (s2 x0 x1 x2)
theorem k2 (J : List Item -> St -> Option R) (κ : List SV -> Option R) (x0 : List AV) (x1 : Int) (x2 : Int) : S R c1 κ J 2 (s2 x0 x1 x2) = t2 c1 x0 x1 x2 (q2 J) (K0 κ) := by kernel_rfl
theorem k (κ : List SV -> Option R) (k : Nat) (a0 : List AV) : runF (C R c1) Tryz.f111 10000 k [.ro 89 a0 false] κ = letter_routed_o.e c1 a0 (q2 (G R c1 κ k)) (K0 κ) := by kernel_rfl
theorem g2 (κ : List SV -> Option R) : ∀ (f : Nat), q2 (G R c1 κ f) = L2 c1 (K0 κ) f
 | 0 => rfl
 | f + 1 => by
  funext x0 x1 x2
  show S R c1 κ (G R c1 κ f) 2 _ = _
  rw [k2, g2 κ f]
  rfl
end
theorem run (R : Type) (κ : List SV -> Option R) (a0 : List AV) : runF (C R letter_piece_is_0) Tryz.f111 10000 fuelK [.ro 89 a0 false] κ = letter_routed_o a0 (K0 κ) := by
 rw [k]
 rw [g2 R letter_piece_is_0 κ fuelK]
 rfl
theorem Γ_does {R : Type} (tab : Tab) (ht : TabOk tab) (g : Nat) : Does (R := R) Tryz.prog (tabTy tyL) tab g ((C R letter_piece_is_0).call g) := by
 refine does_of fun xs κ => ?_
 show DoesAt _ _ _ g xs κ (Γ R letter_piece_is_0 g xs κ)
 unfold Γ
 split
 ·split
  ·exact letter_piece_is_0.does tab ht _ _ _ κ
  ·exact DoesAt.none
 ·exact DoesAt.none
theorem does {R : Type} (tab : Tab) (ht : TabOk tab) (a0 : List AV) (κ : List SV -> Option R) : DoesAt Tryz.prog (tabTy tyL) tab 111 [.ro 89 a0 false] κ (letter_routed_o a0 (K0 κ)) := by
 intro r h w vs Rt Ra bs hpre
 exact runF_sound tyOk (Γ_does tab ht) (show Tryz.prog.funcs[111]? = some Tryz.f111 by kernel_rfl) (by kernel_rfl) ((run R κ a0).trans h) hpre
end letter_routed_o
namespace letter_address_o
abbrev K0 {R : Type} (κ : List SV -> Option R) (r0 : Bool) (r1 : ByteArray) (r2 : Bool) (r3 : ByteArray) (r4 : Bool) (r5 : ByteArray) (r6 : Bool) (r7 : ByteArray) : Option R := κ [.agg [.bool r0, .str r1, .bool r2, .str r3, .bool r4, .str r5, .bool r6, .str r7]]
section
variable (R : Type) (c1 : letter_find_ois.F R) (c2 : letter_held_o.F R) (c3 : letter_text_ob.F R) (c4 : letter_some_0.F R) (c5 : letter_routed_o.F R) (c6 : letter_piece_is_0.F R)
def Γ (g : Nat) (xs : List SV) (κ : List SV -> Option R) : Option R :=
 match g with
 | 58 => (match xs with
  | [.str a0] => c4 a0 (letter_some_0.K0 κ)
  | _ => none)
 | 59 => (match xs with
  | [.ro 89 a0 false, .bool a1] => c3 a0 a1 (letter_text_ob.K0 κ)
  | _ => none)
 | 60 => (match xs with
  | [.ro 89 a0 false] => c2 a0 (letter_held_o.K0 κ)
  | _ => none)
 | 68 => (match xs with
  | [.agg [.int .i64 a0, .str a1], .str a2] => c6 a0 a1 a2 (letter_piece_is_0.K0 κ)
  | _ => none)
 | 69 => (match xs with
  | [.ro 89 a0 false, .int .i64 a1, .str a2] => c1 a0 a1 a2 (letter_find_ois.K0 κ)
  | _ => none)
 | 111 => (match xs with
  | [.ro 89 a0 false] => c5 a0 (letter_routed_o.K0 κ)
  | _ => none)
 | _ => none
def h (n : Nat) : Option (List (Nat × List (Nat × Nat))) :=
 match n with
 | 7 => some [(0, [(0, 0)]), (2, [(0, 0)]), (3, [(0, 0)]), (5, [(0, 0)])]
 | 13 => some [(2, [(0, 0)]), (3, [(0, 0)]), (4, [(0, 0)]), (7, [(0, 0)])]
 | 14 => some [(2, [(0, 0)]), (3, [(0, 0)]), (4, [(0, 0)]), (7, [(0, 0)]), (54, [(0, 0)]), (55, [(0, 0)]), (56, [(0, 0)])]
 | _ => none
def C : Cfg R := ⟨tabTy tyL, Γ R c1 c2 c3 c4 c5 c6, fun _ => false, h⟩
noncomputable abbrev P (i : Nat) : List Item := placeOf Tryz.f61 i
noncomputable def S (κ : List SV -> Option R) (J : List Item -> St -> Option R) (i : Nat) (s : St) : Option R := start (C R c1 c2 c3 c4 c5 c6) J (retK (C R c1 c2 c3 c4 c5 c6) Tryz.f61.results.toList (List.range 0) κ) 10000 (P i) s
noncomputable def G (κ : List SV -> Option R) (f : Nat) (p : List Item) (s : St) : Option R := goto (C R c1 c2 c3 c4 c5 c6) (retK (C R c1 c2 c3 c4 c5 c6) Tryz.f61.results.toList (List.range 0) κ) 10000 f p s
def s7 (x0 : List AV) (x1 : Int) (x2 : Bool) (x3 : ByteArray) (x4 : Bool) (x5 : ByteArray) (x6 : Bool) (x7 : ByteArray) (x8 : Bool) (x9 : ByteArray) (x10 : Bool) (x11 : ByteArray) (x12 : Bool) (x13 : ByteArray) (x14 : Bool) (x15 : ByteArray) (x16 : Bool) (x17 : ByteArray) : St := ⟨mkS 88 [(0, .ro 89 x0 false), (2, .ptr 255 0), (3, .ptr 319 0), (5, .int .i64 x1)], [(255, .var 60 [.bool x2, .str x3, .bool x4, .str x5, .bool x6, .str x7, .bool x8, .str x9]), (319, .var 60 [.bool x10, .str x11, .bool x12, .str x13, .bool x14, .str x15, .bool x16, .str x17])], top⟩
def s13 (x0 : List AV) (x1 : Int) (x2 : Bool) (x3 : ByteArray) (x4 : Bool) (x5 : ByteArray) (x6 : Bool) (x7 : ByteArray) (x8 : Bool) (x9 : ByteArray) (x10 : Bool) (x11 : ByteArray) (x12 : Bool) (x13 : ByteArray) (x14 : Bool) (x15 : ByteArray) (x16 : Bool) (x17 : ByteArray) : St := ⟨mkS 88 [(2, .ptr 255 0), (3, .ptr 319 0), (4, .ro 89 x0 false), (7, .int .i64 x1)], [(255, .var 60 [.bool x2, .str x3, .bool x4, .str x5, .bool x6, .str x7, .bool x8, .str x9]), (319, .var 60 [.bool x10, .str x11, .bool x12, .str x13, .bool x14, .str x15, .bool x16, .str x17])], top⟩
def s14 (x0 : List AV) (x1 : Int) (x2 : List AV) (x3 : Int) (x4 : Int) (x5 : Bool) (x6 : ByteArray) (x7 : Bool) (x8 : ByteArray) (x9 : Bool) (x10 : ByteArray) (x11 : Bool) (x12 : ByteArray) (x13 : Bool) (x14 : ByteArray) (x15 : Bool) (x16 : ByteArray) (x17 : Bool) (x18 : ByteArray) (x19 : Bool) (x20 : ByteArray) : St := ⟨mkS 88 [(2, .ptr 255 0), (3, .ptr 319 0), (4, .ro 89 x0 false), (7, .int .i64 x1), (54, .ro 89 x2 false), (55, .int .i64 x3), (56, .int .i64 x4)], [(255, .var 60 [.bool x5, .str x6, .bool x7, .str x8, .bool x9, .str x10, .bool x11, .str x12]), (319, .var 60 [.bool x13, .str x14, .bool x15, .str x16, .bool x17, .str x18, .bool x19, .str x20])], top⟩
noncomputable abbrev q7 {R : Type} (J : List Item -> St -> Option R) (x0 : List AV) (x1 : Int) (x2 : Bool) (x3 : ByteArray) (x4 : Bool) (x5 : ByteArray) (x6 : Bool) (x7 : ByteArray) (x8 : Bool) (x9 : ByteArray) (x10 : Bool) (x11 : ByteArray) (x12 : Bool) (x13 : ByteArray) (x14 : Bool) (x15 : ByteArray) (x16 : Bool) (x17 : ByteArray) : Option R := J (P 7) (s7 x0 x1 x2 x3 x4 x5 x6 x7 x8 x9 x10 x11 x12 x13 x14 x15 x16 x17)
noncomputable abbrev q13 {R : Type} (J : List Item -> St -> Option R) (x0 : List AV) (x1 : Int) (x2 : Bool) (x3 : ByteArray) (x4 : Bool) (x5 : ByteArray) (x6 : Bool) (x7 : ByteArray) (x8 : Bool) (x9 : ByteArray) (x10 : Bool) (x11 : ByteArray) (x12 : Bool) (x13 : ByteArray) (x14 : Bool) (x15 : ByteArray) (x16 : Bool) (x17 : ByteArray) : Option R := J (P 13) (s13 x0 x1 x2 x3 x4 x5 x6 x7 x8 x9 x10 x11 x12 x13 x14 x15 x16 x17)
noncomputable abbrev q14 {R : Type} (J : List Item -> St -> Option R) (x0 : List AV) (x1 : Int) (x2 : List AV) (x3 : Int) (x4 : Int) (x5 : Bool) (x6 : ByteArray) (x7 : Bool) (x8 : ByteArray) (x9 : Bool) (x10 : ByteArray) (x11 : Bool) (x12 : ByteArray) (x13 : Bool) (x14 : ByteArray) (x15 : Bool) (x16 : ByteArray) (x17 : Bool) (x18 : ByteArray) (x19 : Bool) (x20 : ByteArray) : Option R := J (P 14) (s14 x0 x1 x2 x3 x4 x5 x6 x7 x8 x9 x10 x11 x12 x13 x14 x15 x16 x17 x18 x19 x20)
theorem k7 (J : List Item -> St -> Option R) (κ : List SV -> Option R) (x0 : List AV) (x1 : Int) (x2 : Bool) (x3 : ByteArray) (x4 : Bool) (x5 : ByteArray) (x6 : Bool) (x7 : ByteArray) (x8 : Bool) (x9 : ByteArray) (x10 : Bool) (x11 : ByteArray) (x12 : Bool) (x13 : ByteArray) (x14 : Bool) (x15 : ByteArray) (x16 : Bool) (x17 : ByteArray) : S R c1 c2 c3 c4 c5 c6 κ J 7 (s7 x0 x1 x2 x3 x4 x5 x6 x7 x8 x9 x10 x11 x12 x13 x14 x15 x16 x17) = t7 c1 c2 c3 c4 c5 c6 x0 x1 x2 x3 x4 x5 x6 x7 x8 x9 x10 x11 x12 x13 x14 x15 x16 x17 (q7 J) (q13 J) (q14 J) (K0 κ) := by kernel_rfl
theorem k13 (J : List Item -> St -> Option R) (κ : List SV -> Option R) (x0 : List AV) (x1 : Int) (x2 : Bool) (x3 : ByteArray) (x4 : Bool) (x5 : ByteArray) (x6 : Bool) (x7 : ByteArray) (x8 : Bool) (x9 : ByteArray) (x10 : Bool) (x11 : ByteArray) (x12 : Bool) (x13 : ByteArray) (x14 : Bool) (x15 : ByteArray) (x16 : Bool) (x17 : ByteArray) : S R c1 c2 c3 c4 c5 c6 κ J 13 (s13 x0 x1 x2 x3 x4 x5 x6 x7 x8 x9 x10 x11 x12 x13 x14 x15 x16 x17) = t13 c1 c2 c3 c4 c5 c6 x0 x1 x2 x3 x4 x5 x6 x7 x8 x9 x10 x11 x12 x13 x14 x15 x16 x17 (q7 J) (q13 J) (q14 J) (K0 κ) := by kernel_rfl
theorem k14 (J : List Item -> St -> Option R) (κ : List SV -> Option R) (x0 : List AV) (x1 : Int) (x2 : List AV) (x3 : Int) (x4 : Int) (x5 : Bool) (x6 : ByteArray) (x7 : Bool) (x8 : ByteArray) (x9 : Bool) (x10 : ByteArray) (x11 : Bool) (x12 : ByteArray) (x13 : Bool) (x14 : ByteArray) (x15 : Bool) (x16 : ByteArray) (x17 : Bool) (x18 : ByteArray) (x19 : Bool) (x20 : ByteArray) : S R c1 c2 c3 c4 c5 c6 κ J 14 (s14 x0 x1 x2 x3 x4 x5 x6 x7 x8 x9 x10 x11 x12 x13 x14 x15 x16 x17 x18 x19 x20) = t14 c1 c2 c3 c4 c5 c6 x0 x1 x2 x3 x4 x5 x6 x7 x8 x9 x10 x11 x12 x13 x14 x15 x16 x17 x18 x19 x20 (q7 J) (q13 J) (q14 J) (K0 κ) := by kernel_rfl
theorem k (κ : List SV -> Option R) (k : Nat) (a0 : List AV) : runF (C R c1 c2 c3 c4 c5 c6) Tryz.f61 10000 k [.ro 89 a0 false] κ = letter_address_o.e c1 c2 c3 c4 c5 c6 a0 (q7 (G R c1 c2 c3 c4 c5 c6 κ k)) (q13 (G R c1 c2 c3 c4 c5 c6 κ k)) (q14 (G R c1 c2 c3 c4 c5 c6 κ k)) (K0 κ) := by kernel_rfl
theorem g14 (κ : List SV -> Option R) : ∀ (f : Nat), q14 (G R c1 c2 c3 c4 c5 c6 κ f) = L14 c1 c2 c3 c4 c5 c6 (K0 κ) f
 | 0 => rfl
 | f + 1 => by
  funext x0 x1 x2 x3 x4 x5 x6 x7 x8 x9 x10 x11 x12 x13 x14 x15 x16 x17 x18 x19 x20
  show S R c1 c2 c3 c4 c5 c6 κ (G R c1 c2 c3 c4 c5 c6 κ f) 14 _ = _
  rw [k14, g14 κ f]
  rfl
theorem g13 (κ : List SV -> Option R) : ∀ (f : Nat), q13 (G R c1 c2 c3 c4 c5 c6 κ f) = L13 c1 c2 c3 c4 c5 c6 (K0 κ) f
 | 0 => rfl
 | f + 1 => by
  funext x0 x1 x2 x3 x4 x5 x6 x7 x8 x9 x10 x11 x12 x13 x14 x15 x16 x17
  show S R c1 c2 c3 c4 c5 c6 κ (G R c1 c2 c3 c4 c5 c6 κ f) 13 _ = _
  rw [k13, g14 R c1 c2 c3 c4 c5 c6 κ f]
  rfl
theorem g7 (κ : List SV -> Option R) : ∀ (f : Nat), q7 (G R c1 c2 c3 c4 c5 c6 κ f) = L7 c1 c2 c3 c4 c5 c6 (K0 κ) f
 | 0 => rfl
 | f + 1 => by
  funext x0 x1 x2 x3 x4 x5 x6 x7 x8 x9 x10 x11 x12 x13 x14 x15 x16 x17
  show S R c1 c2 c3 c4 c5 c6 κ (G R c1 c2 c3 c4 c5 c6 κ f) 7 _ = _
  rw [k7, g13 R c1 c2 c3 c4 c5 c6 κ f]
  rfl
end
theorem run (R : Type) (κ : List SV -> Option R) (a0 : List AV) : runF (C R letter_find_ois letter_held_o letter_text_ob letter_some_0 letter_routed_o letter_piece_is_0) Tryz.f61 10000 fuelK [.ro 89 a0 false] κ = letter_address_o a0 (K0 κ) := by
 rw [k]
 rw [g7 R letter_find_ois letter_held_o letter_text_ob letter_some_0 letter_routed_o letter_piece_is_0 κ fuelK, g13 R letter_find_ois letter_held_o letter_text_ob letter_some_0 letter_routed_o letter_piece_is_0 κ fuelK, g14 R letter_find_ois letter_held_o letter_text_ob letter_some_0 letter_routed_o letter_piece_is_0 κ fuelK]
 rfl
theorem Γ_does {R : Type} (tab : Tab) (ht : TabOk tab) (g : Nat) : Does (R := R) Tryz.prog (tabTy tyL) tab g ((C R letter_find_ois letter_held_o letter_text_ob letter_some_0 letter_routed_o letter_piece_is_0).call g) := by
 refine does_of fun xs κ => ?_
 show DoesAt _ _ _ g xs κ (Γ R letter_find_ois letter_held_o letter_text_ob letter_some_0 letter_routed_o letter_piece_is_0 g xs κ)
 unfold Γ
 split
 ·split
  ·exact letter_some_0.does tab ht _ κ
  ·exact DoesAt.none
 ·split
  ·exact letter_text_ob.does tab ht _ _ κ
  ·exact DoesAt.none
 ·split
  ·exact letter_held_o.does tab ht _ κ
  ·exact DoesAt.none
 ·split
  ·exact letter_piece_is_0.does tab ht _ _ _ κ
  ·exact DoesAt.none
 ·split
  ·exact letter_find_ois.does tab ht _ _ _ κ
  ·exact DoesAt.none
 ·split
  ·exact letter_routed_o.does tab ht _ κ
  ·exact DoesAt.none
 ·exact DoesAt.none
theorem does {R : Type} (tab : Tab) (ht : TabOk tab) (a0 : List AV) (κ : List SV -> Option R) : DoesAt Tryz.prog (tabTy tyL) tab 61 [.ro 89 a0 false] κ (letter_address_o a0 (K0 κ)) := by
 intro r h w vs Rt Ra bs hpre
 exact runF_sound tyOk (Γ_does tab ht) (show Tryz.prog.funcs[61]? = some Tryz.f61 by kernel_rfl) (by kernel_rfl) ((run R κ a0).trans h) hpre
end letter_address_o
namespace letter_Addresses_0
abbrev K0 {R : Type} (κ : List SV -> Option R) (r0 : List AV) : Option R := κ [.fr 60 r0 true]
section
variable (R : Type) (c1 : letter_pieces_0.F R) (c2 : letter_part_oi.F R) (c3 : letter_text_ob.F R) (c4 : letter_some_0.F R) (c5 : letter_held_o.F R) (c6 : letter_address_o.F R)
def Γ (g : Nat) (xs : List SV) (κ : List SV -> Option R) : Option R :=
 match g with
 | 56 => (match xs with
  | [.str a0] => c1 a0 (letter_pieces_0.K0 κ)
  | _ => none)
 | 57 => (match xs with
  | [.ro 89 a0 false, .int .i64 a1] => c2 a0 a1 (letter_part_oi.K0 κ)
  | _ => none)
 | 58 => (match xs with
  | [.str a0] => c4 a0 (letter_some_0.K0 κ)
  | _ => none)
 | 59 => (match xs with
  | [.ro 89 a0 false, .bool a1] => c3 a0 a1 (letter_text_ob.K0 κ)
  | _ => none)
 | 60 => (match xs with
  | [.ro 89 a0 false] => c5 a0 (letter_held_o.K0 κ)
  | _ => none)
 | 61 => (match xs with
  | [.ro 89 a0 false] => c6 a0 (letter_address_o.K0 κ)
  | _ => none)
 | _ => none
def h (n : Nat) : Option (List (Nat × List (Nat × Nat))) :=
 match n with
 | 5 => some [(3, [(0, 62)]), (4, [(0, 0)]), (5, [(0, 0)]), (6, [(0, 0)])]
 | 13 => some [(3, [(0, 0)]), (4, [(0, 0)]), (5, [(0, 0)]), (7, [(0, 0)]), (8, [(0, 0)])]
 | _ => none
def C : Cfg R := ⟨tabTy tyL, Γ R c1 c2 c3 c4 c5 c6, fun _ => false, h⟩
noncomputable abbrev P (i : Nat) : List Item := placeOf Tryz.f20 i
noncomputable def S (κ : List SV -> Option R) (J : List Item -> St -> Option R) (i : Nat) (s : St) : Option R := start (C R c1 c2 c3 c4 c5 c6) J (retK (C R c1 c2 c3 c4 c5 c6) Tryz.f20.results.toList (List.range 0) κ) 10000 (P i) s
noncomputable def G (κ : List SV -> Option R) (f : Nat) (p : List Item) (s : St) : Option R := goto (C R c1 c2 c3 c4 c5 c6) (retK (C R c1 c2 c3 c4 c5 c6) Tryz.f20.results.toList (List.range 0) κ) 10000 f p s
def s5 (x0 : Bool) (x1 : Int) (x2 : List AV) (x3 : List AV) : St := ⟨mkS 75 [(3, .own 256), (4, .own 320), (5, .bool x0), (6, .int .i64 x1)], [(256, .row 60 x2 true), (320, .row 89 x3 true)], top⟩
def s13 (x0 : Bool) (x1 : Int) (x2 : ByteArray) (x3 : List AV) (x4 : List AV) : St := ⟨mkS 75 [(3, .own 256), (4, .own 320), (5, .bool x0), (7, .int .i64 x1), (8, .str x2)], [(256, .row 60 x3 true), (320, .row 89 x4 true)], top⟩
noncomputable abbrev q5 {R : Type} (J : List Item -> St -> Option R) (x0 : Bool) (x1 : Int) (x2 : List AV) (x3 : List AV) : Option R := J (P 5) (s5 x0 x1 x2 x3)
noncomputable abbrev q13 {R : Type} (J : List Item -> St -> Option R) (x0 : Bool) (x1 : Int) (x2 : ByteArray) (x3 : List AV) (x4 : List AV) : Option R := J (P 13) (s13 x0 x1 x2 x3 x4)
theorem k5 (J : List Item -> St -> Option R) (κ : List SV -> Option R) (x0 : Bool) (x1 : Int) (x2 : List AV) (x3 : List AV) : S R c1 c2 c3 c4 c5 c6 κ J 5 (s5 x0 x1 x2 x3) = t5 c1 c2 c3 c4 c5 c6 x0 x1 x2 x3 (q5 J) (q13 J) (K0 κ) := by kernel_rfl
theorem k13 (J : List Item -> St -> Option R) (κ : List SV -> Option R) (x0 : Bool) (x1 : Int) (x2 : ByteArray) (x3 : List AV) (x4 : List AV) : S R c1 c2 c3 c4 c5 c6 κ J 13 (s13 x0 x1 x2 x3 x4) = t13 c1 c2 c3 c4 c5 c6 x0 x1 x2 x3 x4 (q5 J) (q13 J) (K0 κ) := by kernel_rfl
theorem k (κ : List SV -> Option R) (k : Nat) (a0 : ByteArray) : runF (C R c1 c2 c3 c4 c5 c6) Tryz.f20 10000 k [.str a0] κ = letter_Addresses_0.e c1 c2 c3 c4 c5 c6 a0 (q5 (G R c1 c2 c3 c4 c5 c6 κ k)) (q13 (G R c1 c2 c3 c4 c5 c6 κ k)) (K0 κ) := by kernel_rfl
theorem gM5 (κ : List SV -> Option R) : ∀ (f : Nat), (q5 (G R c1 c2 c3 c4 c5 c6 κ f) = L5 c1 c2 c3 c4 c5 c6 (K0 κ) f) /\ (q13 (G R c1 c2 c3 c4 c5 c6 κ f) = L13 c1 c2 c3 c4 c5 c6 (K0 κ) f)
 | 0 => ⟨rfl, rfl⟩
 | f + 1 => by
  obtain ⟨ih0, ih1⟩ := gM5 κ f
  refine ⟨?_, ?_⟩
  ·funext x0 x1 x2 x3
   show S R c1 c2 c3 c4 c5 c6 κ (G R c1 c2 c3 c4 c5 c6 κ f) 5 _ = _
   rw [k5, ih0, ih1]
   rfl
  ·funext x0 x1 x2 x3 x4
   show S R c1 c2 c3 c4 c5 c6 κ (G R c1 c2 c3 c4 c5 c6 κ f) 13 _ = _
   rw [k13, ih0]
   rfl
theorem g5 (κ : List SV -> Option R) (f : Nat) : q5 (G R c1 c2 c3 c4 c5 c6 κ f) = L5 c1 c2 c3 c4 c5 c6 (K0 κ) f := (gM5 R c1 c2 c3 c4 c5 c6 κ f).1
theorem g13 (κ : List SV -> Option R) (f : Nat) : q13 (G R c1 c2 c3 c4 c5 c6 κ f) = L13 c1 c2 c3 c4 c5 c6 (K0 κ) f := (gM5 R c1 c2 c3 c4 c5 c6 κ f).2
end
theorem run (R : Type) (κ : List SV -> Option R) (a0 : ByteArray) : runF (C R letter_pieces_0 letter_part_oi letter_text_ob letter_some_0 letter_held_o letter_address_o) Tryz.f20 10000 fuelK [.str a0] κ = letter_Addresses_0 a0 (K0 κ) := by
 rw [k]
 rw [g5 R letter_pieces_0 letter_part_oi letter_text_ob letter_some_0 letter_held_o letter_address_o κ fuelK, g13 R letter_pieces_0 letter_part_oi letter_text_ob letter_some_0 letter_held_o letter_address_o κ fuelK]
 rfl
theorem Γ_does {R : Type} (tab : Tab) (ht : TabOk tab) (g : Nat) : Does (R := R) Tryz.prog (tabTy tyL) tab g ((C R letter_pieces_0 letter_part_oi letter_text_ob letter_some_0 letter_held_o letter_address_o).call g) := by
 refine does_of fun xs κ => ?_
 show DoesAt _ _ _ g xs κ (Γ R letter_pieces_0 letter_part_oi letter_text_ob letter_some_0 letter_held_o letter_address_o g xs κ)
 unfold Γ
 split
 ·split
  ·exact letter_pieces_0.does tab ht _ κ
  ·exact DoesAt.none
 ·split
  ·exact letter_part_oi.does tab ht _ _ κ
  ·exact DoesAt.none
 ·split
  ·exact letter_some_0.does tab ht _ κ
  ·exact DoesAt.none
 ·split
  ·exact letter_text_ob.does tab ht _ _ κ
  ·exact DoesAt.none
 ·split
  ·exact letter_held_o.does tab ht _ κ
  ·exact DoesAt.none
 ·split
  ·exact letter_address_o.does tab ht _ κ
  ·exact DoesAt.none
 ·exact DoesAt.none
theorem does {R : Type} (tab : Tab) (ht : TabOk tab) (a0 : ByteArray) (κ : List SV -> Option R) : DoesAt Tryz.prog (tabTy tyL) tab 20 [.str a0] κ (letter_Addresses_0 a0 (K0 κ)) := by
 intro r h w vs Rt Ra bs hpre
 exact runF_sound tyOk (Γ_does tab ht) (show Tryz.prog.funcs[20]? = some Tryz.f20 by kernel_rfl) (by kernel_rfl) ((run R κ a0).trans h) hpre
end letter_Addresses_0
namespace letter_Envelope_1_sw
abbrev K0 {R : Type} (κ : List SV -> Option R) : Option R := κ [.nil]
abbrev K1 {R : Type} (κ : List SV -> Option R) (r0 : List AV) : Option R := κ [.fr 60 r0 true]
section
variable (R : Type) (c1 : letter_Get_os.F R) (c2 : letter_Addresses_0.F R)
def Γ (g : Nat) (xs : List SV) (κ : List SV -> Option R) : Option R :=
 match g with
 | 20 => (match xs with
  | [.str a0] => c2 a0 (letter_Addresses_0.K0 κ)
  | _ => none)
 | 45 => (match xs with
  | [.ro 42 a0 false, .str a1] => c1 a0 a1 (letter_Get_os.K0 κ)
  | _ => none)
 | _ => none
def h (n : Nat) : Option (List (Nat × List (Nat × Nat))) :=
 match n with
 | _ => none
def C : Cfg R := ⟨tabTy tyL, Γ R c1 c2, fun _ => false, h⟩
theorem k (κ : List SV -> Option R) (k : Nat) (a0 : ByteArray) (a1 : List AV) : runF (C R c1 c2) Tryz.f80 10000 k [.str a0, .rl 22 a1 false 0 0] κ = letter_Envelope_1_sw.e c1 c2 a0 a1 (K0 κ) (K1 κ) := by kernel_rfl
end
theorem run (R : Type) (κ : List SV -> Option R) (a0 : ByteArray) (a1 : List AV) : runF (C R letter_Get_os letter_Addresses_0) Tryz.f80 10000 fuelK [.str a0, .rl 22 a1 false 0 0] κ = letter_Envelope_1_sw a0 a1 (K0 κ) (K1 κ) := by
 rw [k]
 rfl
theorem Γ_does {R : Type} (tab : Tab) (ht : TabOk tab) (g : Nat) : Does (R := R) Tryz.prog (tabTy tyL) tab g ((C R letter_Get_os letter_Addresses_0).call g) := by
 refine does_of fun xs κ => ?_
 show DoesAt _ _ _ g xs κ (Γ R letter_Get_os letter_Addresses_0 g xs κ)
 unfold Γ
 split
 ·split
  ·exact letter_Addresses_0.does tab ht _ κ
  ·exact DoesAt.none
 ·split
  ·exact letter_Get_os.does tab ht _ _ κ
  ·exact DoesAt.none
 ·exact DoesAt.none
theorem does {R : Type} (tab : Tab) (ht : TabOk tab) (a0 : ByteArray) (a1 : List AV) (κ : List SV -> Option R) : DoesAt Tryz.prog (tabTy tyL) tab 80 [.str a0, .rl 22 a1 false 0 0] κ (letter_Envelope_1_sw a0 a1 (K0 κ) (K1 κ)) := by
 intro r h w vs Rt Ra bs hpre
 exact runF_sound tyOk (Γ_does tab ht) (show Tryz.prog.funcs[80]? = some Tryz.f80 by kernel_rfl) (by kernel_rfl) ((run R κ a0 a1).trans h) hpre
end letter_Envelope_1_sw
namespace letter_Envelope_o
abbrev K0 {R : Type} (κ : List SV -> Option R) (r0 : Bool) (r1 : ByteArray) (r2 : Bool) (r3 : ByteArray) (r4 : List AV) (r5 : List AV) (r6 : List AV) (r7 : List AV) (r8 : List AV) (r9 : List AV) (r10 : Bool) (r11 : ByteArray) (r12 : Bool) (r13 : ByteArray) : Option R := κ [.agg [.bool r0, .str r1, .bool r2, .str r3, .fr 60 r4 true, .fr 60 r5 true, .fr 60 r6 true, .fr 60 r7 true, .fr 60 r8 true, .fr 60 r9 true, .bool r10, .str r11, .bool r12, .str r13]]
section
variable (R : Type) (c1 : letter_Get_os.F R) (c2 : letter_Envelope_1_sw.F R)
def Γ (g : Nat) (xs : List SV) (κ : List SV -> Option R) : Option R :=
 match g with
 | 45 => (match xs with
  | [.ro 42 a0 false, .str a1] => c1 a0 a1 (letter_Get_os.K0 κ)
  | _ => none)
 | 80 => (match xs with
  | [.str a0, .rl 22 a1 false 0 0] => c2 a0 a1 (letter_Envelope_1_sw.K0 κ) (letter_Envelope_1_sw.K1 κ)
  | _ => none)
 | _ => none
def h (n : Nat) : Option (List (Nat × List (Nat × Nat))) :=
 match n with
 | 4 => some [(2, [(0, 0)]), (3, [(0, 0)]), (4, [(4, 62), (7, 62), (8, 62), (9, 62)])]
 | 5 => some [(2, [(0, 0)]), (3, [(0, 0)]), (4, [(5, 62), (6, 62)])]
 | 7 => some [(2, [(0, 0)]), (3, [(0, 0)]), (4, [(5, 62)])]
 | 9 => some [(2, [(0, 0)]), (4, [(6, 62)])]
 | _ => none
def C : Cfg R := ⟨tabTy tyL, Γ R c1 c2, fun g => Nat.beq g 80, h⟩
noncomputable abbrev P (i : Nat) : List Item := placeOf Tryz.f28 i
noncomputable def S (κ : List SV -> Option R) (J : List Item -> St -> Option R) (i : Nat) (s : St) : Option R := start (C R c1 c2) J (retK (C R c1 c2) Tryz.f28.results.toList (List.range 0) κ) 10000 (P i) s
noncomputable def G (κ : List SV -> Option R) (f : Nat) (p : List Item) (s : St) : Option R := goto (C R c1 c2) (retK (C R c1 c2) Tryz.f28.results.toList (List.range 0) κ) 10000 f p s
def s4 (x0 : Bool) (x1 : ByteArray) (x2 : Bool) (x3 : ByteArray) (x4 : Bool) (x5 : ByteArray) (x6 : Bool) (x7 : ByteArray) (x8 : List AV) (x9 : Bool) (x10 : ByteArray) (x11 : Bool) (x12 : ByteArray) (x13 : Bool) (x14 : ByteArray) (x15 : Bool) (x16 : ByteArray) (x17 : List AV) (x18 : List AV) (x19 : List AV) (x20 : List AV) : St := ⟨mkS 48 [(2, .ptr 255 0), (3, .clo 80 318), (4, .ptr 383 0)], [(255, .var 46 [.bool x0, .str x1, .bool x2, .str x3, .nil, .nil, .nil, .nil, .nil, .nil, .bool x4, .str x5, .bool x6, .str x7]), (318, .var 22 [.ro 42 x8 false]), (383, .var 46 [.bool x9, .str x10, .bool x11, .str x12, .own 324, .nil, .nil, .own 327, .own 328, .own 329, .bool x13, .str x14, .bool x15, .str x16]), (324, .row 60 x17 true), (327, .row 60 x18 true), (328, .row 60 x19 true), (329, .row 60 x20 true)], top⟩
def s5 (x0 : Bool) (x1 : ByteArray) (x2 : Bool) (x3 : ByteArray) (x4 : Bool) (x5 : ByteArray) (x6 : Bool) (x7 : ByteArray) (x8 : List AV) (x9 : Bool) (x10 : ByteArray) (x11 : Bool) (x12 : ByteArray) (x13 : Bool) (x14 : ByteArray) (x15 : Bool) (x16 : ByteArray) (x17 : List AV) (x18 : List AV) (x19 : List AV) (x20 : List AV) (x21 : List AV) (x22 : List AV) : St := ⟨mkS 48 [(2, .ptr 255 0), (3, .clo 80 318), (4, .ptr 383 0)], [(255, .var 46 [.bool x0, .str x1, .bool x2, .str x3, .nil, .nil, .nil, .nil, .nil, .nil, .bool x4, .str x5, .bool x6, .str x7]), (318, .var 22 [.ro 42 x8 false]), (383, .var 46 [.bool x9, .str x10, .bool x11, .str x12, .own 324, .own 325, .own 326, .own 327, .own 328, .own 329, .bool x13, .str x14, .bool x15, .str x16]), (324, .row 60 x17 true), (325, .row 60 x18 true), (326, .row 60 x19 true), (327, .row 60 x20 true), (328, .row 60 x21 true), (329, .row 60 x22 true)], top⟩
def s7 (x0 : Bool) (x1 : ByteArray) (x2 : Bool) (x3 : ByteArray) (x4 : Bool) (x5 : ByteArray) (x6 : Bool) (x7 : ByteArray) (x8 : List AV) (x9 : Bool) (x10 : ByteArray) (x11 : Bool) (x12 : ByteArray) (x13 : Bool) (x14 : ByteArray) (x15 : Bool) (x16 : ByteArray) (x17 : List AV) (x18 : List AV) (x19 : List AV) (x20 : List AV) (x21 : List AV) (x22 : List AV) : St := ⟨mkS 48 [(2, .ptr 255 0), (3, .clo 80 318), (4, .ptr 383 0)], [(255, .var 46 [.bool x0, .str x1, .bool x2, .str x3, .nil, .nil, .nil, .nil, .nil, .nil, .bool x4, .str x5, .bool x6, .str x7]), (318, .var 22 [.ro 42 x8 false]), (383, .var 46 [.bool x9, .str x10, .bool x11, .str x12, .own 324, .own 325, .own 326, .own 327, .own 328, .own 329, .bool x13, .str x14, .bool x15, .str x16]), (324, .row 60 x17 true), (325, .row 60 x18 true), (326, .row 60 x19 true), (327, .row 60 x20 true), (328, .row 60 x21 true), (329, .row 60 x22 true)], top⟩
def s9 (x0 : Bool) (x1 : ByteArray) (x2 : Bool) (x3 : ByteArray) (x4 : Bool) (x5 : ByteArray) (x6 : Bool) (x7 : ByteArray) (x8 : Bool) (x9 : ByteArray) (x10 : Bool) (x11 : ByteArray) (x12 : Bool) (x13 : ByteArray) (x14 : Bool) (x15 : ByteArray) (x16 : List AV) (x17 : List AV) (x18 : List AV) (x19 : List AV) (x20 : List AV) (x21 : List AV) : St := ⟨mkS 48 [(2, .ptr 255 0), (4, .ptr 383 0)], [(255, .var 46 [.bool x0, .str x1, .bool x2, .str x3, .nil, .nil, .nil, .nil, .nil, .nil, .bool x4, .str x5, .bool x6, .str x7]), (383, .var 46 [.bool x8, .str x9, .bool x10, .str x11, .own 324, .own 325, .own 326, .own 327, .own 328, .own 329, .bool x12, .str x13, .bool x14, .str x15]), (324, .row 60 x16 true), (325, .row 60 x17 true), (326, .row 60 x18 true), (327, .row 60 x19 true), (328, .row 60 x20 true), (329, .row 60 x21 true)], top⟩
noncomputable abbrev q4 {R : Type} (J : List Item -> St -> Option R) (x0 : Bool) (x1 : ByteArray) (x2 : Bool) (x3 : ByteArray) (x4 : Bool) (x5 : ByteArray) (x6 : Bool) (x7 : ByteArray) (x8 : List AV) (x9 : Bool) (x10 : ByteArray) (x11 : Bool) (x12 : ByteArray) (x13 : Bool) (x14 : ByteArray) (x15 : Bool) (x16 : ByteArray) (x17 : List AV) (x18 : List AV) (x19 : List AV) (x20 : List AV) : Option R := J (P 4) (s4 x0 x1 x2 x3 x4 x5 x6 x7 x8 x9 x10 x11 x12 x13 x14 x15 x16 x17 x18 x19 x20)
noncomputable abbrev q5 {R : Type} (J : List Item -> St -> Option R) (x0 : Bool) (x1 : ByteArray) (x2 : Bool) (x3 : ByteArray) (x4 : Bool) (x5 : ByteArray) (x6 : Bool) (x7 : ByteArray) (x8 : List AV) (x9 : Bool) (x10 : ByteArray) (x11 : Bool) (x12 : ByteArray) (x13 : Bool) (x14 : ByteArray) (x15 : Bool) (x16 : ByteArray) (x17 : List AV) (x18 : List AV) (x19 : List AV) (x20 : List AV) (x21 : List AV) (x22 : List AV) : Option R := J (P 5) (s5 x0 x1 x2 x3 x4 x5 x6 x7 x8 x9 x10 x11 x12 x13 x14 x15 x16 x17 x18 x19 x20 x21 x22)
noncomputable abbrev q7 {R : Type} (J : List Item -> St -> Option R) (x0 : Bool) (x1 : ByteArray) (x2 : Bool) (x3 : ByteArray) (x4 : Bool) (x5 : ByteArray) (x6 : Bool) (x7 : ByteArray) (x8 : List AV) (x9 : Bool) (x10 : ByteArray) (x11 : Bool) (x12 : ByteArray) (x13 : Bool) (x14 : ByteArray) (x15 : Bool) (x16 : ByteArray) (x17 : List AV) (x18 : List AV) (x19 : List AV) (x20 : List AV) (x21 : List AV) (x22 : List AV) : Option R := J (P 7) (s7 x0 x1 x2 x3 x4 x5 x6 x7 x8 x9 x10 x11 x12 x13 x14 x15 x16 x17 x18 x19 x20 x21 x22)
noncomputable abbrev q9 {R : Type} (J : List Item -> St -> Option R) (x0 : Bool) (x1 : ByteArray) (x2 : Bool) (x3 : ByteArray) (x4 : Bool) (x5 : ByteArray) (x6 : Bool) (x7 : ByteArray) (x8 : Bool) (x9 : ByteArray) (x10 : Bool) (x11 : ByteArray) (x12 : Bool) (x13 : ByteArray) (x14 : Bool) (x15 : ByteArray) (x16 : List AV) (x17 : List AV) (x18 : List AV) (x19 : List AV) (x20 : List AV) (x21 : List AV) : Option R := J (P 9) (s9 x0 x1 x2 x3 x4 x5 x6 x7 x8 x9 x10 x11 x12 x13 x14 x15 x16 x17 x18 x19 x20 x21)
theorem k4 (J : List Item -> St -> Option R) (κ : List SV -> Option R) (x0 : Bool) (x1 : ByteArray) (x2 : Bool) (x3 : ByteArray) (x4 : Bool) (x5 : ByteArray) (x6 : Bool) (x7 : ByteArray) (x8 : List AV) (x9 : Bool) (x10 : ByteArray) (x11 : Bool) (x12 : ByteArray) (x13 : Bool) (x14 : ByteArray) (x15 : Bool) (x16 : ByteArray) (x17 : List AV) (x18 : List AV) (x19 : List AV) (x20 : List AV) : S R c1 c2 κ J 4 (s4 x0 x1 x2 x3 x4 x5 x6 x7 x8 x9 x10 x11 x12 x13 x14 x15 x16 x17 x18 x19 x20) = t4 c1 c2 x0 x1 x2 x3 x4 x5 x6 x7 x8 x9 x10 x11 x12 x13 x14 x15 x16 x17 x18 x19 x20 (q4 J) (q5 J) (q7 J) (q9 J) (K0 κ) := by kernel_rfl
theorem k5 (J : List Item -> St -> Option R) (κ : List SV -> Option R) (x0 : Bool) (x1 : ByteArray) (x2 : Bool) (x3 : ByteArray) (x4 : Bool) (x5 : ByteArray) (x6 : Bool) (x7 : ByteArray) (x8 : List AV) (x9 : Bool) (x10 : ByteArray) (x11 : Bool) (x12 : ByteArray) (x13 : Bool) (x14 : ByteArray) (x15 : Bool) (x16 : ByteArray) (x17 : List AV) (x18 : List AV) (x19 : List AV) (x20 : List AV) (x21 : List AV) (x22 : List AV) : S R c1 c2 κ J 5 (s5 x0 x1 x2 x3 x4 x5 x6 x7 x8 x9 x10 x11 x12 x13 x14 x15 x16 x17 x18 x19 x20 x21 x22) = t5 c1 c2 x0 x1 x2 x3 x4 x5 x6 x7 x8 x9 x10 x11 x12 x13 x14 x15 x16 x17 x18 x19 x20 x21 x22 (q4 J) (q5 J) (q7 J) (q9 J) (K0 κ) := by kernel_rfl
theorem k7 (J : List Item -> St -> Option R) (κ : List SV -> Option R) (x0 : Bool) (x1 : ByteArray) (x2 : Bool) (x3 : ByteArray) (x4 : Bool) (x5 : ByteArray) (x6 : Bool) (x7 : ByteArray) (x8 : List AV) (x9 : Bool) (x10 : ByteArray) (x11 : Bool) (x12 : ByteArray) (x13 : Bool) (x14 : ByteArray) (x15 : Bool) (x16 : ByteArray) (x17 : List AV) (x18 : List AV) (x19 : List AV) (x20 : List AV) (x21 : List AV) (x22 : List AV) : S R c1 c2 κ J 7 (s7 x0 x1 x2 x3 x4 x5 x6 x7 x8 x9 x10 x11 x12 x13 x14 x15 x16 x17 x18 x19 x20 x21 x22) = t7 c1 c2 x0 x1 x2 x3 x4 x5 x6 x7 x8 x9 x10 x11 x12 x13 x14 x15 x16 x17 x18 x19 x20 x21 x22 (q4 J) (q5 J) (q7 J) (q9 J) (K0 κ) := by kernel_rfl
theorem k9 (J : List Item -> St -> Option R) (κ : List SV -> Option R) (x0 : Bool) (x1 : ByteArray) (x2 : Bool) (x3 : ByteArray) (x4 : Bool) (x5 : ByteArray) (x6 : Bool) (x7 : ByteArray) (x8 : Bool) (x9 : ByteArray) (x10 : Bool) (x11 : ByteArray) (x12 : Bool) (x13 : ByteArray) (x14 : Bool) (x15 : ByteArray) (x16 : List AV) (x17 : List AV) (x18 : List AV) (x19 : List AV) (x20 : List AV) (x21 : List AV) : S R c1 c2 κ J 9 (s9 x0 x1 x2 x3 x4 x5 x6 x7 x8 x9 x10 x11 x12 x13 x14 x15 x16 x17 x18 x19 x20 x21) = t9 c1 c2 x0 x1 x2 x3 x4 x5 x6 x7 x8 x9 x10 x11 x12 x13 x14 x15 x16 x17 x18 x19 x20 x21 (q4 J) (q5 J) (q7 J) (q9 J) (K0 κ) := by kernel_rfl
theorem k (κ : List SV -> Option R) (k : Nat) (a0 : List AV) : runF (C R c1 c2) Tryz.f28 10000 k [.ro 42 a0 false] κ = letter_Envelope_o.e c1 c2 a0 (q4 (G R c1 c2 κ k)) (q5 (G R c1 c2 κ k)) (q7 (G R c1 c2 κ k)) (q9 (G R c1 c2 κ k)) (K0 κ) := by kernel_rfl
theorem g9 (κ : List SV -> Option R) : ∀ (f : Nat), q9 (G R c1 c2 κ f) = L9 c1 c2 (K0 κ) f
 | 0 => rfl
 | f + 1 => by
  funext x0 x1 x2 x3 x4 x5 x6 x7 x8 x9 x10 x11 x12 x13 x14 x15 x16 x17 x18 x19 x20 x21
  show S R c1 c2 κ (G R c1 c2 κ f) 9 _ = _
  rw [k9]
  rfl
theorem g7 (κ : List SV -> Option R) : ∀ (f : Nat), q7 (G R c1 c2 κ f) = L7 c1 c2 (K0 κ) f
 | 0 => rfl
 | f + 1 => by
  funext x0 x1 x2 x3 x4 x5 x6 x7 x8 x9 x10 x11 x12 x13 x14 x15 x16 x17 x18 x19 x20 x21 x22
  show S R c1 c2 κ (G R c1 c2 κ f) 7 _ = _
  rw [k7, g9 R c1 c2 κ f]
  rfl
theorem g5 (κ : List SV -> Option R) : ∀ (f : Nat), q5 (G R c1 c2 κ f) = L5 c1 c2 (K0 κ) f
 | 0 => rfl
 | f + 1 => by
  funext x0 x1 x2 x3 x4 x5 x6 x7 x8 x9 x10 x11 x12 x13 x14 x15 x16 x17 x18 x19 x20 x21 x22
  show S R c1 c2 κ (G R c1 c2 κ f) 5 _ = _
  rw [k5, g7 R c1 c2 κ f]
  rfl
theorem g4 (κ : List SV -> Option R) : ∀ (f : Nat), q4 (G R c1 c2 κ f) = L4 c1 c2 (K0 κ) f
 | 0 => rfl
 | f + 1 => by
  funext x0 x1 x2 x3 x4 x5 x6 x7 x8 x9 x10 x11 x12 x13 x14 x15 x16 x17 x18 x19 x20
  show S R c1 c2 κ (G R c1 c2 κ f) 4 _ = _
  rw [k4, g5 R c1 c2 κ f]
  rfl
end
theorem run (R : Type) (κ : List SV -> Option R) (a0 : List AV) : runF (C R letter_Get_os letter_Envelope_1_sw) Tryz.f28 10000 fuelK [.ro 42 a0 false] κ = letter_Envelope_o a0 (K0 κ) := by
 rw [k]
 rw [g4 R letter_Get_os letter_Envelope_1_sw κ fuelK, g5 R letter_Get_os letter_Envelope_1_sw κ fuelK, g7 R letter_Get_os letter_Envelope_1_sw κ fuelK, g9 R letter_Get_os letter_Envelope_1_sw κ fuelK]
 rfl
theorem Γ_does {R : Type} (tab : Tab) (ht : TabOk tab) (g : Nat) : Does (R := R) Tryz.prog (tabTy tyL) tab g ((C R letter_Get_os letter_Envelope_1_sw).call g) := by
 refine does_of fun xs κ => ?_
 show DoesAt _ _ _ g xs κ (Γ R letter_Get_os letter_Envelope_1_sw g xs κ)
 unfold Γ
 split
 ·split
  ·exact letter_Get_os.does tab ht _ _ κ
  ·exact DoesAt.none
 ·split
  ·exact letter_Envelope_1_sw.does tab ht _ _ κ
  ·exact DoesAt.none
 ·exact DoesAt.none
theorem does {R : Type} (tab : Tab) (ht : TabOk tab) (a0 : List AV) (κ : List SV -> Option R) : DoesAt Tryz.prog (tabTy tyL) tab 28 [.ro 42 a0 false] κ (letter_Envelope_o a0 (K0 κ)) := by
 intro r h w vs Rt Ra bs hpre
 exact runF_sound tyOk (Γ_does tab ht) (show Tryz.prog.funcs[28]? = some Tryz.f28 by kernel_rfl) (by kernel_rfl) ((run R κ a0).trans h) hpre
end letter_Envelope_o
namespace stringslite_HasPrefix_0
abbrev K0 {R : Type} (κ : List SV -> Option R) (r0 : Bool) : Option R := κ [.bool r0]
section
variable (R : Type)
def Γ (g : Nat) (xs : List SV) (κ : List SV -> Option R) : Option R :=
 match g with
 | _ => none
def h (n : Nat) : Option (List (Nat × List (Nat × Nat))) :=
 match n with
 | _ => none
def C : Cfg R := ⟨tabTy tyL, Γ R, fun _ => false, h⟩
theorem k (κ : List SV -> Option R) (k : Nat) (a0 : ByteArray) (a1 : ByteArray) : runF (C R) Tryz.f129 10000 k [.str a0, .str a1] κ = stringslite_HasPrefix_0.e a0 a1 (K0 κ) := by kernel_rfl
end
theorem run (R : Type) (κ : List SV -> Option R) (a0 : ByteArray) (a1 : ByteArray) : runF (C R) Tryz.f129 10000 fuelK [.str a0, .str a1] κ = stringslite_HasPrefix_0 a0 a1 (K0 κ) := by
 rw [k]
 rfl
theorem Γ_does {R : Type} (tab : Tab) (ht : TabOk tab) (g : Nat) : Does (R := R) Tryz.prog (tabTy tyL) tab g ((C R).call g) := by
 refine does_of fun xs κ => ?_
 show DoesAt _ _ _ g xs κ (Γ R g xs κ)
 unfold Γ
 split
 ·exact DoesAt.none
theorem does {R : Type} (tab : Tab) (ht : TabOk tab) (a0 : ByteArray) (a1 : ByteArray) (κ : List SV -> Option R) : DoesAt Tryz.prog (tabTy tyL) tab 129 [.str a0, .str a1] κ (stringslite_HasPrefix_0 a0 a1 (K0 κ)) := by
 intro r h w vs Rt Ra bs hpre
 exact runF_sound tyOk (Γ_does tab ht) (show Tryz.prog.funcs[129]? = some Tryz.f129 by kernel_rfl) (by kernel_rfl) ((run R κ a0 a1).trans h) hpre
end stringslite_HasPrefix_0
namespace strings_HasPrefix_0
abbrev K0 {R : Type} (κ : List SV -> Option R) (r0 : Bool) : Option R := κ [.bool r0]
section
variable (R : Type) (c1 : stringslite_HasPrefix_0.F R)
def Γ (g : Nat) (xs : List SV) (κ : List SV -> Option R) : Option R :=
 match g with
 | 129 => (match xs with
  | [.str a0, .str a1] => c1 a0 a1 (stringslite_HasPrefix_0.K0 κ)
  | _ => none)
 | _ => none
def h (n : Nat) : Option (List (Nat × List (Nat × Nat))) :=
 match n with
 | _ => none
def C : Cfg R := ⟨tabTy tyL, Γ R c1, fun _ => false, h⟩
theorem k (κ : List SV -> Option R) (k : Nat) (a0 : ByteArray) (a1 : ByteArray) : runF (C R c1) Tryz.f84 10000 k [.str a0, .str a1] κ = strings_HasPrefix_0.e c1 a0 a1 (K0 κ) := by kernel_rfl
end
theorem run (R : Type) (κ : List SV -> Option R) (a0 : ByteArray) (a1 : ByteArray) : runF (C R stringslite_HasPrefix_0) Tryz.f84 10000 fuelK [.str a0, .str a1] κ = strings_HasPrefix_0 a0 a1 (K0 κ) := by
 rw [k]
 rfl
theorem Γ_does {R : Type} (tab : Tab) (ht : TabOk tab) (g : Nat) : Does (R := R) Tryz.prog (tabTy tyL) tab g ((C R stringslite_HasPrefix_0).call g) := by
 refine does_of fun xs κ => ?_
 show DoesAt _ _ _ g xs κ (Γ R stringslite_HasPrefix_0 g xs κ)
 unfold Γ
 split
 ·split
  ·exact stringslite_HasPrefix_0.does tab ht _ _ κ
  ·exact DoesAt.none
 ·exact DoesAt.none
theorem does {R : Type} (tab : Tab) (ht : TabOk tab) (a0 : ByteArray) (a1 : ByteArray) (κ : List SV -> Option R) : DoesAt Tryz.prog (tabTy tyL) tab 84 [.str a0, .str a1] κ (strings_HasPrefix_0 a0 a1 (K0 κ)) := by
 intro r h w vs Rt Ra bs hpre
 exact runF_sound tyOk (Γ_does tab ht) (show Tryz.prog.funcs[84]? = some Tryz.f84 by kernel_rfl) (by kernel_rfl) ((run R κ a0 a1).trans h) hpre
end strings_HasPrefix_0
theorem stringslite_Index_0.does {R : Type} (tab : Tab) (ht : TabOk tab) (a0 a1 : ByteArray) (κ : List SV -> Option R) : DoesAt Tryz.prog (tabTy tyL) tab 130 [.str a0, .str a1] κ (stringslite_Index_0 a0 a1 (fun r0 => κ [.int .i64 r0])) := by
 obtain ⟨m, cs, t, fz, ht, hm⟩ := ht
 exact chk_does fun h => strs2_does Tryz.call130 a0 a1 (.int .i64 _) (fun w hw => Any.stringslite_Index Tryz.lays219 a0 a1 m w (of_decide_eq_true h) (tab_cell hm (hw _ _ ht))) (fun c => res_int) κ
namespace strings_Index_0
abbrev K0 {R : Type} (κ : List SV -> Option R) (r0 : Int) : Option R := κ [.int .i64 r0]
section
variable (R : Type) (c1 : stringslite_Index_0.F R)
def Γ (g : Nat) (xs : List SV) (κ : List SV -> Option R) : Option R :=
 match g with
 | 130 => (match xs with
  | [.str a0, .str a1] => c1 a0 a1 (fun r0 => κ [.int .i64 r0])
  | _ => none)
 | _ => none
def h (n : Nat) : Option (List (Nat × List (Nat × Nat))) :=
 match n with
 | _ => none
def C : Cfg R := ⟨tabTy tyL, Γ R c1, fun _ => false, h⟩
theorem k (κ : List SV -> Option R) (k : Nat) (a0 : ByteArray) (a1 : ByteArray) : runF (C R c1) Tryz.f85 10000 k [.str a0, .str a1] κ = strings_Index_0.e c1 a0 a1 (K0 κ) := by kernel_rfl
end
theorem run (R : Type) (κ : List SV -> Option R) (a0 : ByteArray) (a1 : ByteArray) : runF (C R stringslite_Index_0) Tryz.f85 10000 fuelK [.str a0, .str a1] κ = strings_Index_0 a0 a1 (K0 κ) := by
 rw [k]
 rfl
theorem Γ_does {R : Type} (tab : Tab) (ht : TabOk tab) (g : Nat) : Does (R := R) Tryz.prog (tabTy tyL) tab g ((C R stringslite_Index_0).call g) := by
 refine does_of fun xs κ => ?_
 show DoesAt _ _ _ g xs κ (Γ R stringslite_Index_0 g xs κ)
 unfold Γ
 split
 ·split
  ·exact stringslite_Index_0.does tab ht _ _ κ
  ·exact DoesAt.none
 ·exact DoesAt.none
theorem does {R : Type} (tab : Tab) (ht : TabOk tab) (a0 : ByteArray) (a1 : ByteArray) (κ : List SV -> Option R) : DoesAt Tryz.prog (tabTy tyL) tab 85 [.str a0, .str a1] κ (strings_Index_0 a0 a1 (K0 κ)) := by
 intro r h w vs Rt Ra bs hpre
 exact runF_sound tyOk (Γ_does tab ht) (show Tryz.prog.funcs[85]? = some Tryz.f85 by kernel_rfl) (by kernel_rfl) ((run R κ a0 a1).trans h) hpre
end strings_Index_0
namespace letter_Split_0
abbrev K0 {R : Type} (κ : List SV -> Option R) (r0 : ByteArray) (r1 : ByteArray) : Option R := κ [.tup [.str r0, .str r1]]
section
variable (R : Type) (c1 : strings_HasPrefix_0.F R) (c2 : strings_Index_0.F R)
def Γ (g : Nat) (xs : List SV) (κ : List SV -> Option R) : Option R :=
 match g with
 | 84 => (match xs with
  | [.str a0, .str a1] => c1 a0 a1 (strings_HasPrefix_0.K0 κ)
  | _ => none)
 | 85 => (match xs with
  | [.str a0, .str a1] => c2 a0 a1 (strings_Index_0.K0 κ)
  | _ => none)
 | _ => none
def h (n : Nat) : Option (List (Nat × List (Nat × Nat))) :=
 match n with
 | _ => none
def C : Cfg R := ⟨tabTy tyL, Γ R c1 c2, fun _ => false, h⟩
theorem k (κ : List SV -> Option R) (k : Nat) (a0 : ByteArray) : runF (C R c1 c2) Tryz.f44 10000 k [.str a0] κ = letter_Split_0.e c1 c2 a0 (K0 κ) := by kernel_rfl
end
theorem run (R : Type) (κ : List SV -> Option R) (a0 : ByteArray) : runF (C R strings_HasPrefix_0 strings_Index_0) Tryz.f44 10000 fuelK [.str a0] κ = letter_Split_0 a0 (K0 κ) := by
 rw [k]
 rfl
theorem Γ_does {R : Type} (tab : Tab) (ht : TabOk tab) (g : Nat) : Does (R := R) Tryz.prog (tabTy tyL) tab g ((C R strings_HasPrefix_0 strings_Index_0).call g) := by
 refine does_of fun xs κ => ?_
 show DoesAt _ _ _ g xs κ (Γ R strings_HasPrefix_0 strings_Index_0 g xs κ)
 unfold Γ
 split
 ·split
  ·exact strings_HasPrefix_0.does tab ht _ _ κ
  ·exact DoesAt.none
 ·split
  ·exact strings_Index_0.does tab ht _ _ κ
  ·exact DoesAt.none
 ·exact DoesAt.none
theorem does {R : Type} (tab : Tab) (ht : TabOk tab) (a0 : ByteArray) (κ : List SV -> Option R) : DoesAt Tryz.prog (tabTy tyL) tab 44 [.str a0] κ (letter_Split_0 a0 (K0 κ)) := by
 intro r h w vs Rt Ra bs hpre
 exact runF_sound tyOk (Γ_does tab ht) (show Tryz.prog.funcs[44]? = some Tryz.f44 by kernel_rfl) (by kernel_rfl) ((run R κ a0).trans h) hpre
end letter_Split_0
namespace letter_isBlank_0
abbrev K0 {R : Type} (κ : List SV -> Option R) (r0 : Bool) : Option R := κ [.bool r0]
section
variable (R : Type)
def Γ (g : Nat) (xs : List SV) (κ : List SV -> Option R) : Option R :=
 match g with
 | _ => none
def h (n : Nat) : Option (List (Nat × List (Nat × Nat))) :=
 match n with
 | _ => none
def C : Cfg R := ⟨tabTy tyL, Γ R, fun _ => false, h⟩
theorem k (κ : List SV -> Option R) (k : Nat) (a0 : Int) : runF (C R) Tryz.f55 10000 k [.int .u8 a0] κ = letter_isBlank_0.e a0 (K0 κ) := by kernel_rfl
end
theorem run (R : Type) (κ : List SV -> Option R) (a0 : Int) : runF (C R) Tryz.f55 10000 fuelK [.int .u8 a0] κ = letter_isBlank_0 a0 (K0 κ) := by
 rw [k]
 rfl
theorem Γ_does {R : Type} (tab : Tab) (ht : TabOk tab) (g : Nat) : Does (R := R) Tryz.prog (tabTy tyL) tab g ((C R).call g) := by
 refine does_of fun xs κ => ?_
 show DoesAt _ _ _ g xs κ (Γ R g xs κ)
 unfold Γ
 split
 ·exact DoesAt.none
theorem does {R : Type} (tab : Tab) (ht : TabOk tab) (a0 : Int) (κ : List SV -> Option R) : DoesAt Tryz.prog (tabTy tyL) tab 55 [.int .u8 a0] κ (letter_isBlank_0 a0 (K0 κ)) := by
 intro r h w vs Rt Ra bs hpre
 exact runF_sound tyOk (Γ_does tab ht) (show Tryz.prog.funcs[55]? = some Tryz.f55 by kernel_rfl) (by kernel_rfl) ((run R κ a0).trans h) hpre
end letter_isBlank_0
namespace letter_begins_0
abbrev K0 {R : Type} (κ : List SV -> Option R) (r0 : ByteArray) (r1 : Bool) : Option R := κ [.tup [.str r0, .bool r1]]
section
variable (R : Type) (c1 : letter_isBlank_0.F R)
def Γ (g : Nat) (xs : List SV) (κ : List SV -> Option R) : Option R :=
 match g with
 | 55 => (match xs with
  | [.int .u8 a0] => c1 a0 (letter_isBlank_0.K0 κ)
  | _ => none)
 | _ => none
def h (n : Nat) : Option (List (Nat × List (Nat × Nat))) :=
 match n with
 | 2 => some [(0, [(0, 0)]), (4, [(0, 0)])]
 | 5 => some [(0, [(0, 0)]), (4, [(0, 0)]), (5, [(0, 0)])]
 | _ => none
def C : Cfg R := ⟨tabTy tyL, Γ R c1, fun _ => false, h⟩
noncomputable abbrev P (i : Nat) : List Item := placeOf Tryz.f86 i
noncomputable def S (κ : List SV -> Option R) (J : List Item -> St -> Option R) (i : Nat) (s : St) : Option R := start (C R c1) J (retK (C R c1) Tryz.f86.results.toList (List.range 0) κ) 10000 (P i) s
noncomputable def G (κ : List SV -> Option R) (f : Nat) (p : List Item) (s : St) : Option R := goto (C R c1) (retK (C R c1) Tryz.f86.results.toList (List.range 0) κ) 10000 f p s
def s2 (x0 : ByteArray) (x1 : Int) : St := ⟨mkS 60 [(0, .str x0), (4, .int .i64 x1)], [], top⟩
def s5 (x0 : ByteArray) (x1 : Int) (x2 : ByteArray) : St := ⟨mkS 60 [(0, .str x0), (4, .int .i64 x1), (5, .str x2)], [], top⟩
noncomputable abbrev q2 {R : Type} (J : List Item -> St -> Option R) (x0 : ByteArray) (x1 : Int) : Option R := J (P 2) (s2 x0 x1)
noncomputable abbrev q5 {R : Type} (J : List Item -> St -> Option R) (x0 : ByteArray) (x1 : Int) (x2 : ByteArray) : Option R := J (P 5) (s5 x0 x1 x2)
theorem k2 (J : List Item -> St -> Option R) (κ : List SV -> Option R) (x0 : ByteArray) (x1 : Int) : S R c1 κ J 2 (s2 x0 x1) = t2 c1 x0 x1 (q2 J) (q5 J) (K0 κ) := by kernel_rfl
theorem k5 (J : List Item -> St -> Option R) (κ : List SV -> Option R) (x0 : ByteArray) (x1 : Int) (x2 : ByteArray) : S R c1 κ J 5 (s5 x0 x1 x2) = t5 c1 x0 x1 x2 (q2 J) (q5 J) (K0 κ) := by kernel_rfl
theorem k (κ : List SV -> Option R) (k : Nat) (a0 : ByteArray) : runF (C R c1) Tryz.f86 10000 k [.str a0] κ = letter_begins_0.e c1 a0 (q2 (G R c1 κ k)) (q5 (G R c1 κ k)) (K0 κ) := by kernel_rfl
theorem g5 (κ : List SV -> Option R) : ∀ (f : Nat), q5 (G R c1 κ f) = L5 c1 (K0 κ) f
 | 0 => rfl
 | f + 1 => by
  funext x0 x1 x2
  show S R c1 κ (G R c1 κ f) 5 _ = _
  rw [k5, g5 κ f]
  rfl
theorem g2 (κ : List SV -> Option R) : ∀ (f : Nat), q2 (G R c1 κ f) = L2 c1 (K0 κ) f
 | 0 => rfl
 | f + 1 => by
  funext x0 x1
  show S R c1 κ (G R c1 κ f) 2 _ = _
  rw [k2, g2 κ f, g5 R c1 κ f]
  rfl
end
theorem run (R : Type) (κ : List SV -> Option R) (a0 : ByteArray) : runF (C R letter_isBlank_0) Tryz.f86 10000 fuelK [.str a0] κ = letter_begins_0 a0 (K0 κ) := by
 rw [k]
 rw [g2 R letter_isBlank_0 κ fuelK, g5 R letter_isBlank_0 κ fuelK]
 rfl
theorem Γ_does {R : Type} (tab : Tab) (ht : TabOk tab) (g : Nat) : Does (R := R) Tryz.prog (tabTy tyL) tab g ((C R letter_isBlank_0).call g) := by
 refine does_of fun xs κ => ?_
 show DoesAt _ _ _ g xs κ (Γ R letter_isBlank_0 g xs κ)
 unfold Γ
 split
 ·split
  ·exact letter_isBlank_0.does tab ht _ κ
  ·exact DoesAt.none
 ·exact DoesAt.none
theorem does {R : Type} (tab : Tab) (ht : TabOk tab) (a0 : ByteArray) (κ : List SV -> Option R) : DoesAt Tryz.prog (tabTy tyL) tab 86 [.str a0] κ (letter_begins_0 a0 (K0 κ)) := by
 intro r h w vs Rt Ra bs hpre
 exact runF_sound tyOk (Γ_does tab ht) (show Tryz.prog.funcs[86]? = some Tryz.f86 by kernel_rfl) (by kernel_rfl) ((run R κ a0).trans h) hpre
end letter_begins_0
namespace letter_rows_0
abbrev K0 {R : Type} (κ : List SV -> Option R) (r0 : List AV) : Option R := κ [.fr 65 r0 true]
section
variable (R : Type) (c1 : strings_HasPrefix_0.F R) (c2 : strings_Index_0.F R) (c3 : letter_isBlank_0.F R) (c4 : letter_begins_0.F R)
def Γ (g : Nat) (xs : List SV) (κ : List SV -> Option R) : Option R :=
 match g with
 | 55 => (match xs with
  | [.int .u8 a0] => c3 a0 (letter_isBlank_0.K0 κ)
  | _ => none)
 | 84 => (match xs with
  | [.str a0, .str a1] => c1 a0 a1 (strings_HasPrefix_0.K0 κ)
  | _ => none)
 | 85 => (match xs with
  | [.str a0, .str a1] => c2 a0 a1 (strings_Index_0.K0 κ)
  | _ => none)
 | 86 => (match xs with
  | [.str a0] => c4 a0 (letter_begins_0.K0 κ)
  | _ => none)
 | _ => none
def h (n : Nat) : Option (List (Nat × List (Nat × Nat))) :=
 match n with
 | 3 => some [(0, [(0, 0)]), (3, [(0, 67)]), (4, [(0, 0)]), (5, [(0, 0)])]
 | _ => none
def C : Cfg R := ⟨tabTy tyL, Γ R c1 c2 c3 c4, fun _ => false, h⟩
noncomputable abbrev P (i : Nat) : List Item := placeOf Tryz.f38 i
noncomputable def S (κ : List SV -> Option R) (J : List Item -> St -> Option R) (i : Nat) (s : St) : Option R := start (C R c1 c2 c3 c4) J (retK (C R c1 c2 c3 c4) Tryz.f38.results.toList (List.range 0) κ) 10000 (P i) s
noncomputable def G (κ : List SV -> Option R) (f : Nat) (p : List Item) (s : St) : Option R := goto (C R c1 c2 c3 c4) (retK (C R c1 c2 c3 c4) Tryz.f38.results.toList (List.range 0) κ) 10000 f p s
def s3 (x0 : ByteArray) (x1 : Bool) (x2 : ByteArray) (x3 : List AV) : St := ⟨mkS 52 [(0, .str x0), (3, .own 256), (4, .bool x1), (5, .str x2)], [(256, .row 65 x3 true)], top⟩
noncomputable abbrev q3 {R : Type} (J : List Item -> St -> Option R) (x0 : ByteArray) (x1 : Bool) (x2 : ByteArray) (x3 : List AV) : Option R := J (P 3) (s3 x0 x1 x2 x3)
theorem k3 (J : List Item -> St -> Option R) (κ : List SV -> Option R) (x0 : ByteArray) (x1 : Bool) (x2 : ByteArray) (x3 : List AV) : S R c1 c2 c3 c4 κ J 3 (s3 x0 x1 x2 x3) = t3 c1 c2 c3 c4 x0 x1 x2 x3 (q3 J) (K0 κ) := by kernel_rfl
theorem k (κ : List SV -> Option R) (k : Nat) (a0 : ByteArray) : runF (C R c1 c2 c3 c4) Tryz.f38 10000 k [.str a0] κ = letter_rows_0.e c1 c2 c3 c4 a0 (q3 (G R c1 c2 c3 c4 κ k)) (K0 κ) := by kernel_rfl
theorem g3 (κ : List SV -> Option R) : ∀ (f : Nat), q3 (G R c1 c2 c3 c4 κ f) = L3 c1 c2 c3 c4 (K0 κ) f
 | 0 => rfl
 | f + 1 => by
  funext x0 x1 x2 x3
  show S R c1 c2 c3 c4 κ (G R c1 c2 c3 c4 κ f) 3 _ = _
  rw [k3, g3 κ f]
  rfl
end
theorem run (R : Type) (κ : List SV -> Option R) (a0 : ByteArray) : runF (C R strings_HasPrefix_0 strings_Index_0 letter_isBlank_0 letter_begins_0) Tryz.f38 10000 fuelK [.str a0] κ = letter_rows_0 a0 (K0 κ) := by
 rw [k]
 rw [g3 R strings_HasPrefix_0 strings_Index_0 letter_isBlank_0 letter_begins_0 κ fuelK]
 rfl
theorem Γ_does {R : Type} (tab : Tab) (ht : TabOk tab) (g : Nat) : Does (R := R) Tryz.prog (tabTy tyL) tab g ((C R strings_HasPrefix_0 strings_Index_0 letter_isBlank_0 letter_begins_0).call g) := by
 refine does_of fun xs κ => ?_
 show DoesAt _ _ _ g xs κ (Γ R strings_HasPrefix_0 strings_Index_0 letter_isBlank_0 letter_begins_0 g xs κ)
 unfold Γ
 split
 ·split
  ·exact letter_isBlank_0.does tab ht _ κ
  ·exact DoesAt.none
 ·split
  ·exact strings_HasPrefix_0.does tab ht _ _ κ
  ·exact DoesAt.none
 ·split
  ·exact strings_Index_0.does tab ht _ _ κ
  ·exact DoesAt.none
 ·split
  ·exact letter_begins_0.does tab ht _ κ
  ·exact DoesAt.none
 ·exact DoesAt.none
theorem does {R : Type} (tab : Tab) (ht : TabOk tab) (a0 : ByteArray) (κ : List SV -> Option R) : DoesAt Tryz.prog (tabTy tyL) tab 38 [.str a0] κ (letter_rows_0 a0 (K0 κ)) := by
 intro r h w vs Rt Ra bs hpre
 exact runF_sound tyOk (Γ_does tab ht) (show Tryz.prog.funcs[38]? = some Tryz.f38 by kernel_rfl) (by kernel_rfl) ((run R κ a0).trans h) hpre
end letter_rows_0
namespace stringslite_HasSuffix_0
abbrev K0 {R : Type} (κ : List SV -> Option R) (r0 : Bool) : Option R := κ [.bool r0]
section
variable (R : Type)
def Γ (g : Nat) (xs : List SV) (κ : List SV -> Option R) : Option R :=
 match g with
 | _ => none
def h (n : Nat) : Option (List (Nat × List (Nat × Nat))) :=
 match n with
 | _ => none
def C : Cfg R := ⟨tabTy tyL, Γ R, fun _ => false, h⟩
theorem k (κ : List SV -> Option R) (k : Nat) (a0 : ByteArray) (a1 : ByteArray) : runF (C R) Tryz.f100 10000 k [.str a0, .str a1] κ = stringslite_HasSuffix_0.e a0 a1 (K0 κ) := by kernel_rfl
end
theorem run (R : Type) (κ : List SV -> Option R) (a0 : ByteArray) (a1 : ByteArray) : runF (C R) Tryz.f100 10000 fuelK [.str a0, .str a1] κ = stringslite_HasSuffix_0 a0 a1 (K0 κ) := by
 rw [k]
 rfl
theorem Γ_does {R : Type} (tab : Tab) (ht : TabOk tab) (g : Nat) : Does (R := R) Tryz.prog (tabTy tyL) tab g ((C R).call g) := by
 refine does_of fun xs κ => ?_
 show DoesAt _ _ _ g xs κ (Γ R g xs κ)
 unfold Γ
 split
 ·exact DoesAt.none
theorem does {R : Type} (tab : Tab) (ht : TabOk tab) (a0 : ByteArray) (a1 : ByteArray) (κ : List SV -> Option R) : DoesAt Tryz.prog (tabTy tyL) tab 100 [.str a0, .str a1] κ (stringslite_HasSuffix_0 a0 a1 (K0 κ)) := by
 intro r h w vs Rt Ra bs hpre
 exact runF_sound tyOk (Γ_does tab ht) (show Tryz.prog.funcs[100]? = some Tryz.f100 by kernel_rfl) (by kernel_rfl) ((run R κ a0 a1).trans h) hpre
end stringslite_HasSuffix_0
namespace stringslite_TrimSuffix_0
abbrev K0 {R : Type} (κ : List SV -> Option R) (r0 : ByteArray) : Option R := κ [.str r0]
section
variable (R : Type) (c1 : stringslite_HasSuffix_0.F R)
def Γ (g : Nat) (xs : List SV) (κ : List SV -> Option R) : Option R :=
 match g with
 | 100 => (match xs with
  | [.str a0, .str a1] => c1 a0 a1 (stringslite_HasSuffix_0.K0 κ)
  | _ => none)
 | _ => none
def h (n : Nat) : Option (List (Nat × List (Nat × Nat))) :=
 match n with
 | _ => none
def C : Cfg R := ⟨tabTy tyL, Γ R c1, fun _ => false, h⟩
theorem k (κ : List SV -> Option R) (k : Nat) (a0 : ByteArray) (a1 : ByteArray) : runF (C R c1) Tryz.f87 10000 k [.str a0, .str a1] κ = stringslite_TrimSuffix_0.e c1 a0 a1 (K0 κ) := by kernel_rfl
end
theorem run (R : Type) (κ : List SV -> Option R) (a0 : ByteArray) (a1 : ByteArray) : runF (C R stringslite_HasSuffix_0) Tryz.f87 10000 fuelK [.str a0, .str a1] κ = stringslite_TrimSuffix_0 a0 a1 (K0 κ) := by
 rw [k]
 rfl
theorem Γ_does {R : Type} (tab : Tab) (ht : TabOk tab) (g : Nat) : Does (R := R) Tryz.prog (tabTy tyL) tab g ((C R stringslite_HasSuffix_0).call g) := by
 refine does_of fun xs κ => ?_
 show DoesAt _ _ _ g xs κ (Γ R stringslite_HasSuffix_0 g xs κ)
 unfold Γ
 split
 ·split
  ·exact stringslite_HasSuffix_0.does tab ht _ _ κ
  ·exact DoesAt.none
 ·exact DoesAt.none
theorem does {R : Type} (tab : Tab) (ht : TabOk tab) (a0 : ByteArray) (a1 : ByteArray) (κ : List SV -> Option R) : DoesAt Tryz.prog (tabTy tyL) tab 87 [.str a0, .str a1] κ (stringslite_TrimSuffix_0 a0 a1 (K0 κ)) := by
 intro r h w vs Rt Ra bs hpre
 exact runF_sound tyOk (Γ_does tab ht) (show Tryz.prog.funcs[87]? = some Tryz.f87 by kernel_rfl) (by kernel_rfl) ((run R κ a0 a1).trans h) hpre
end stringslite_TrimSuffix_0
namespace strings_TrimSuffix_0
abbrev K0 {R : Type} (κ : List SV -> Option R) (r0 : ByteArray) : Option R := κ [.str r0]
section
variable (R : Type) (c1 : stringslite_TrimSuffix_0.F R)
def Γ (g : Nat) (xs : List SV) (κ : List SV -> Option R) : Option R :=
 match g with
 | 87 => (match xs with
  | [.str a0, .str a1] => c1 a0 a1 (stringslite_TrimSuffix_0.K0 κ)
  | _ => none)
 | _ => none
def h (n : Nat) : Option (List (Nat × List (Nat × Nat))) :=
 match n with
 | _ => none
def C : Cfg R := ⟨tabTy tyL, Γ R c1, fun _ => false, h⟩
theorem k (κ : List SV -> Option R) (k : Nat) (a0 : ByteArray) (a1 : ByteArray) : runF (C R c1) Tryz.f39 10000 k [.str a0, .str a1] κ = strings_TrimSuffix_0.e c1 a0 a1 (K0 κ) := by kernel_rfl
end
theorem run (R : Type) (κ : List SV -> Option R) (a0 : ByteArray) (a1 : ByteArray) : runF (C R stringslite_TrimSuffix_0) Tryz.f39 10000 fuelK [.str a0, .str a1] κ = strings_TrimSuffix_0 a0 a1 (K0 κ) := by
 rw [k]
 rfl
theorem Γ_does {R : Type} (tab : Tab) (ht : TabOk tab) (g : Nat) : Does (R := R) Tryz.prog (tabTy tyL) tab g ((C R stringslite_TrimSuffix_0).call g) := by
 refine does_of fun xs κ => ?_
 show DoesAt _ _ _ g xs κ (Γ R stringslite_TrimSuffix_0 g xs κ)
 unfold Γ
 split
 ·split
  ·exact stringslite_TrimSuffix_0.does tab ht _ _ κ
  ·exact DoesAt.none
 ·exact DoesAt.none
theorem does {R : Type} (tab : Tab) (ht : TabOk tab) (a0 : ByteArray) (a1 : ByteArray) (κ : List SV -> Option R) : DoesAt Tryz.prog (tabTy tyL) tab 39 [.str a0, .str a1] κ (strings_TrimSuffix_0 a0 a1 (K0 κ)) := by
 intro r h w vs Rt Ra bs hpre
 exact runF_sound tyOk (Γ_does tab ht) (show Tryz.prog.funcs[39]? = some Tryz.f39 by kernel_rfl) (by kernel_rfl) ((run R κ a0 a1).trans h) hpre
end strings_TrimSuffix_0
namespace strings_trimRightByte_0
abbrev K0 {R : Type} (κ : List SV -> Option R) (r0 : ByteArray) : Option R := κ [.str r0]
section
variable (R : Type)
def Γ (g : Nat) (xs : List SV) (κ : List SV -> Option R) : Option R :=
 match g with
 | _ => none
def h (n : Nat) : Option (List (Nat × List (Nat × Nat))) :=
 match n with
 | 1 => some [(0, [(0, 0)]), (1, [(0, 0)])]
 | _ => none
def C : Cfg R := ⟨tabTy tyL, Γ R, fun _ => false, h⟩
noncomputable abbrev P (i : Nat) : List Item := placeOf Tryz.f90 i
noncomputable def S (κ : List SV -> Option R) (J : List Item -> St -> Option R) (i : Nat) (s : St) : Option R := start (C R) J (retK (C R) Tryz.f90.results.toList (List.range 0) κ) 10000 (P i) s
noncomputable def G (κ : List SV -> Option R) (f : Nat) (p : List Item) (s : St) : Option R := goto (C R) (retK (C R) Tryz.f90.results.toList (List.range 0) κ) 10000 f p s
def s1 (x0 : ByteArray) (x1 : Int) : St := ⟨mkS 23 [(0, .str x0), (1, .int .u8 x1)], [], top⟩
noncomputable abbrev q1 {R : Type} (J : List Item -> St -> Option R) (x0 : ByteArray) (x1 : Int) : Option R := J (P 1) (s1 x0 x1)
theorem k1 (J : List Item -> St -> Option R) (κ : List SV -> Option R) (x0 : ByteArray) (x1 : Int) : S R κ J 1 (s1 x0 x1) = t1 x0 x1 (q1 J) (K0 κ) := by kernel_rfl
theorem k (κ : List SV -> Option R) (k : Nat) (a0 : ByteArray) (a1 : Int) : runF (C R) Tryz.f90 10000 k [.str a0, .int .u8 a1] κ = strings_trimRightByte_0.e a0 a1 (q1 (G R κ k)) (K0 κ) := by kernel_rfl
theorem g1 (κ : List SV -> Option R) : ∀ (f : Nat), q1 (G R κ f) = L1 (K0 κ) f
 | 0 => rfl
 | f + 1 => by
  funext x0 x1
  show S R κ (G R κ f) 1 _ = _
  rw [k1, g1 κ f]
  rfl
end
theorem run (R : Type) (κ : List SV -> Option R) (a0 : ByteArray) (a1 : Int) : runF (C R) Tryz.f90 10000 fuelK [.str a0, .int .u8 a1] κ = strings_trimRightByte_0 a0 a1 (K0 κ) := by
 rw [k]
 rw [g1 R κ fuelK]
 rfl
theorem Γ_does {R : Type} (tab : Tab) (ht : TabOk tab) (g : Nat) : Does (R := R) Tryz.prog (tabTy tyL) tab g ((C R).call g) := by
 refine does_of fun xs κ => ?_
 show DoesAt _ _ _ g xs κ (Γ R g xs κ)
 unfold Γ
 split
 ·exact DoesAt.none
theorem does {R : Type} (tab : Tab) (ht : TabOk tab) (a0 : ByteArray) (a1 : Int) (κ : List SV -> Option R) : DoesAt Tryz.prog (tabTy tyL) tab 90 [.str a0, .int .u8 a1] κ (strings_trimRightByte_0 a0 a1 (K0 κ)) := by
 intro r h w vs Rt Ra bs hpre
 exact runF_sound tyOk (Γ_does tab ht) (show Tryz.prog.funcs[90]? = some Tryz.f90 by kernel_rfl) (by kernel_rfl) ((run R κ a0 a1).trans h) hpre
end strings_trimRightByte_0
namespace strings_trimLeftByte_0
abbrev K0 {R : Type} (κ : List SV -> Option R) (r0 : ByteArray) : Option R := κ [.str r0]
section
variable (R : Type)
def Γ (g : Nat) (xs : List SV) (κ : List SV -> Option R) : Option R :=
 match g with
 | _ => none
def h (n : Nat) : Option (List (Nat × List (Nat × Nat))) :=
 match n with
 | 1 => some [(0, [(0, 0)]), (1, [(0, 0)])]
 | _ => none
def C : Cfg R := ⟨tabTy tyL, Γ R, fun _ => false, h⟩
noncomputable abbrev P (i : Nat) : List Item := placeOf Tryz.f89 i
noncomputable def S (κ : List SV -> Option R) (J : List Item -> St -> Option R) (i : Nat) (s : St) : Option R := start (C R) J (retK (C R) Tryz.f89.results.toList (List.range 0) κ) 10000 (P i) s
noncomputable def G (κ : List SV -> Option R) (f : Nat) (p : List Item) (s : St) : Option R := goto (C R) (retK (C R) Tryz.f89.results.toList (List.range 0) κ) 10000 f p s
def s1 (x0 : ByteArray) (x1 : Int) : St := ⟨mkS 17 [(0, .str x0), (1, .int .u8 x1)], [], top⟩
noncomputable abbrev q1 {R : Type} (J : List Item -> St -> Option R) (x0 : ByteArray) (x1 : Int) : Option R := J (P 1) (s1 x0 x1)
theorem k1 (J : List Item -> St -> Option R) (κ : List SV -> Option R) (x0 : ByteArray) (x1 : Int) : S R κ J 1 (s1 x0 x1) = t1 x0 x1 (q1 J) (K0 κ) := by kernel_rfl
theorem k (κ : List SV -> Option R) (k : Nat) (a0 : ByteArray) (a1 : Int) : runF (C R) Tryz.f89 10000 k [.str a0, .int .u8 a1] κ = strings_trimLeftByte_0.e a0 a1 (q1 (G R κ k)) (K0 κ) := by kernel_rfl
theorem g1 (κ : List SV -> Option R) : ∀ (f : Nat), q1 (G R κ f) = L1 (K0 κ) f
 | 0 => rfl
 | f + 1 => by
  funext x0 x1
  show S R κ (G R κ f) 1 _ = _
  rw [k1, g1 κ f]
  rfl
end
theorem run (R : Type) (κ : List SV -> Option R) (a0 : ByteArray) (a1 : Int) : runF (C R) Tryz.f89 10000 fuelK [.str a0, .int .u8 a1] κ = strings_trimLeftByte_0 a0 a1 (K0 κ) := by
 rw [k]
 rw [g1 R κ fuelK]
 rfl
theorem Γ_does {R : Type} (tab : Tab) (ht : TabOk tab) (g : Nat) : Does (R := R) Tryz.prog (tabTy tyL) tab g ((C R).call g) := by
 refine does_of fun xs κ => ?_
 show DoesAt _ _ _ g xs κ (Γ R g xs κ)
 unfold Γ
 split
 ·exact DoesAt.none
theorem does {R : Type} (tab : Tab) (ht : TabOk tab) (a0 : ByteArray) (a1 : Int) (κ : List SV -> Option R) : DoesAt Tryz.prog (tabTy tyL) tab 89 [.str a0, .int .u8 a1] κ (strings_trimLeftByte_0 a0 a1 (K0 κ)) := by
 intro r h w vs Rt Ra bs hpre
 exact runF_sound tyOk (Γ_does tab ht) (show Tryz.prog.funcs[89]? = some Tryz.f89 by kernel_rfl) (by kernel_rfl) ((run R κ a0 a1).trans h) hpre
end strings_trimLeftByte_0
end Go.Proofs.Ab
