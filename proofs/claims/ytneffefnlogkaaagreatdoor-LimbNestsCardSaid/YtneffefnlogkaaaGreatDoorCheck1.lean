/- Each plain function is what a call of its Go function does, checked by the kernel (no condition but what its checks ask). -/
import Derived.Test.YtneffefnlogkaaaGreatDoorSeat
import Derived.Test.YtneffefnlogkaaaGreatDoorText
set_option linter.unusedVariables false
set_option linter.unusedSimpArgs false
set_option maxRecDepth 4000
namespace Go.Proofs.Ab
open Go Go.Proofs
set_option maxRecDepth 100000
abbrev KT (R : Type) : Type := List SV -> Option R
abbrev JT (R : Type) : Type := List Item -> St -> Option R
noncomputable def S0 {R : Type} (C : Cfg R) (F : Func) (n : Nat) (κ : KT R) (J : JT R) (i : Nat) (s : St) : Option R := start C J (retK C F.results.toList (List.range n) κ) 10000 (placeOf F i) s
noncomputable def G0 {R : Type} (C : Cfg R) (F : Func) (n : Nat) (κ : KT R) (f : Nat) (p : List Item) (s : St) : Option R := goto C (retK C F.results.toList (List.range n) κ) 10000 f p s
theorem doesAt_run {R : Type} {P : Program} {C : Cfg R} {fn : Func} {tab : Tab} (hP : Ok P C.ty) (hD : ∀ g, Does P C.ty tab g (C.call g)) {g : Nat} (hf : P.funcs[g]? = some fn) (hn : (fn.name == "runtime.NumGoroutine") = false) {xs : List SV} {κ : KT R} {X : Option R} (h : runF C fn 10000 fuelK xs κ = X) : DoesAt P C.ty tab g xs κ X := by
 intro r e w vs Rt Ra bs hpre
 exact runF_sound hP hD hf hn (h.trans e) hpre
namespace sl_HasPrefix
abbrev K0 {R : Type} (κ : KT R) : Bool -> Option R := fun r0 => κ [.bool r0]
section
variable (R : Type)
def Γ (g : Nat) (xs : List SV) (κ : KT R) : Option R :=
 match g with
 | _ => none
def h (n : Nat) : Option (List (Nat × List (Nat × Nat))) :=
 match n with
 | _ => none
def C : Cfg R := ⟨tabTy tyL, Γ R, fun _ => false, h, 0, fun _ => false⟩
theorem k (κ : KT R) (k : Nat) (a0 a1 : _) : runF (C R) Tryz.f173 10000 k [.str a0, .str a1] κ = sl_HasPrefix.e a0 a1 (K0 κ) := by kernel_rfl
end
theorem Γ_does {R : Type} (tab : Tab) (ht : TabOk tab) (g : Nat) : Does (R := R) Tryz.prog (tabTy tyL) tab g ((C R).call g) := by
 refine does_of fun xs κ => ?_
 show DoesAt _ _ _ g xs κ (Γ R g xs κ)
 unfold Γ
 split
 ·exact DoesAt.none
theorem does {R : Type} (tab : Tab) (ht : TabOk tab) (a0 a1 : _) (κ : KT R) : DoesAt Tryz.prog (tabTy tyL) tab 173 [.str a0, .str a1] κ (sl_HasPrefix a0 a1 (K0 κ)) := doesAt_run (C := C R) (fn := Tryz.f173) tyOk (Γ_does tab ht) (by kernel_rfl) (by kernel_rfl) (by rw [k]; rfl)
end sl_HasPrefix
namespace st_HasPrefix
abbrev K0 {R : Type} (κ : KT R) : Bool -> Option R := fun r0 => κ [.bool r0]
section
variable (R : Type) (c1 : sl_HasPrefix.F R)
def Γ (g : Nat) (xs : List SV) (κ : KT R) : Option R :=
 match g with
 | 173 => (match xs with
  | [.str a0, .str a1] => c1 a0 a1 (sl_HasPrefix.K0 κ)
  | _ => none)
 | _ => none
def h (n : Nat) : Option (List (Nat × List (Nat × Nat))) :=
 match n with
 | _ => none
def C : Cfg R := ⟨tabTy tyL, Γ R c1, fun _ => false, h, 0, fun _ => false⟩
theorem k (κ : KT R) (k : Nat) (a0 a1 : _) : runF (C R c1) Tryz.f127 10000 k [.str a0, .str a1] κ = st_HasPrefix.e c1 a0 a1 (K0 κ) := by kernel_rfl
end
theorem Γ_does {R : Type} (tab : Tab) (ht : TabOk tab) (g : Nat) : Does (R := R) Tryz.prog (tabTy tyL) tab g ((C R sl_HasPrefix).call g) := by
 refine does_of fun xs κ => ?_
 show DoesAt _ _ _ g xs κ (Γ R sl_HasPrefix g xs κ)
 unfold Γ
 split
 ·split
  ·exact sl_HasPrefix.does tab ht _ _ κ
  ·exact DoesAt.none
 ·exact DoesAt.none
theorem does {R : Type} (tab : Tab) (ht : TabOk tab) (a0 a1 : _) (κ : KT R) : DoesAt Tryz.prog (tabTy tyL) tab 127 [.str a0, .str a1] κ (st_HasPrefix a0 a1 (K0 κ)) := doesAt_run (C := C R sl_HasPrefix) (fn := Tryz.f127) tyOk (Γ_does tab ht) (by kernel_rfl) (by kernel_rfl) (by rw [k]; rfl)
end st_HasPrefix
theorem by_IndexByteString.does {R : Type} (tab : Tab) (ht : TabOk tab) (a0 : BA) (a1 : Int) (κ : List SV -> Option R) : DoesAt Tryz.prog (tabTy tyL) tab 192 [.str a0, .int .u8 a1] κ (by_IndexByteString a0 a1 (fun r0 => κ [.int .i64 r0])) :=
 indexByteString_does (show Tryz.prog.funcs[192]? = some Tryz.f192 by kernel_rfl) (by kernel_rfl) (by kernel_rfl) (by kernel_rfl) (by kernel_rfl) a0 a1 κ
namespace sl_IndexByte
abbrev K0 {R : Type} (κ : KT R) : Int -> Option R := fun r0 => κ [.int .i64 r0]
section
variable (R : Type) (c1 : by_IndexByteString.F R)
def Γ (g : Nat) (xs : List SV) (κ : KT R) : Option R :=
 match g with
 | 192 => (match xs with
  | [.str a0, .int .u8 a1] => c1 a0 a1 (fun r0 => κ [.int .i64 r0])
  | _ => none)
 | _ => none
def h (n : Nat) : Option (List (Nat × List (Nat × Nat))) :=
 match n with
 | _ => none
def C : Cfg R := ⟨tabTy tyL, Γ R c1, fun _ => false, h, 0, fun _ => false⟩
theorem k (κ : KT R) (k : Nat) (a0 a1 : _) : runF (C R c1) Tryz.f164 10000 k [.str a0, .int .u8 a1] κ = sl_IndexByte.e c1 a0 a1 (K0 κ) := by kernel_rfl
end
theorem Γ_does {R : Type} (tab : Tab) (ht : TabOk tab) (g : Nat) : Does (R := R) Tryz.prog (tabTy tyL) tab g ((C R by_IndexByteString).call g) := by
 refine does_of fun xs κ => ?_
 show DoesAt _ _ _ g xs κ (Γ R by_IndexByteString g xs κ)
 unfold Γ
 split
 ·split
  ·exact by_IndexByteString.does tab ht _ _ κ
  ·exact DoesAt.none
 ·exact DoesAt.none
theorem does {R : Type} (tab : Tab) (ht : TabOk tab) (a0 a1 : _) (κ : KT R) : DoesAt Tryz.prog (tabTy tyL) tab 164 [.str a0, .int .u8 a1] κ (sl_IndexByte a0 a1 (K0 κ)) := doesAt_run (C := C R by_IndexByteString) (fn := Tryz.f164) tyOk (Γ_does tab ht) (by kernel_rfl) (by kernel_rfl) (by rw [k]; rfl)
end sl_IndexByte
theorem sl_Index.one (c : UInt8) : ∀ l : List UInt8, Lib.index l [c] = Lib.indexByte l c
 | [] => rfl
 | b :: l => by
  rw [Lib.index, Lib.indexByte, sl_Index.one c l]
  simp [List.isPrefixOf, Bool.beq_comm (a := c)]
namespace sl_Index
section
variable (R : Type) (c1 : sl_IndexByte.F R)
def Γ (g : Nat) (xs : List SV) (κ : KT R) : Option R :=
 match g with
 | 164 => (match xs with
  | [.str a0, .int .u8 a1] => c1 a0 a1 (sl_IndexByte.K0 κ)
  | _ => none)
 | _ => none
def C : Cfg R := ⟨tabTy tyL, Γ R c1, fun _ => false, fun _ => none, 0, fun _ => false⟩
theorem k (κ : KT R) (k : Nat) (a0 : BA) : runF (C R c1) Tryz.f174 10000 k [.str a0, .str ⟨#[46]⟩] κ = (bif decide ((⟨#[46]⟩ : BA) = a0) then κ [.int .i64 0] else c1 a0 46 (fun r => κ [.int .i64 r])) := by kernel_rfl
end
theorem Γ_does {R : Type} (tab : Tab) (ht : TabOk tab) (g : Nat) : Does (R := R) Tryz.prog (tabTy tyL) tab g ((C R sl_IndexByte).call g) := by
 refine does_of fun xs κ => ?_
 show DoesAt _ _ _ g xs κ (Γ R sl_IndexByte g xs κ)
 unfold Γ
 split
 ·split
  ·exact sl_IndexByte.does tab ht _ _ κ
  ·exact DoesAt.none
 ·exact DoesAt.none
theorem dot {R : Type} (tab : Tab) (ht : TabOk tab) (a0 : BA) (h : ¬ a0.size < 4294967281) (κ : KT R) : DoesAt Tryz.prog (tabTy tyL) tab 174 [.str a0, .str ⟨#[46]⟩] κ (κ [.int .i64 (Lib.index a0.data.toList [46])]) :=
 doesAt_run (C := C R sl_IndexByte) (fn := Tryz.f174) tyOk (Γ_does tab ht) (by kernel_rfl) (by kernel_rfl) (by
  have hne : ¬ (⟨#[46]⟩ : BA) = a0 := fun e => by subst e; exact h (by decide)
  rw [k, decide_eq_false hne, cond_false, one]; rfl)
end sl_Index
theorem sl_Index.does {R : Type} (tab : Tab) (ht : TabOk tab) (a0 a1 : BA) (κ : List SV -> Option R) : DoesAt Tryz.prog (tabTy tyL) tab 174 [.str a0, .str a1] κ (sl_Index a0 a1 (fun r0 => κ [.int .i64 r0])) := by
 refine chk_does fun h => ?_
 by_cases h1 : a0.size < 4294967281
 ·obtain ⟨m, cs, t, fz, ht, hm⟩ := ht
  exact strs2_does Tryz.call174 a0 a1 (.int .i64 _) (fun w hw => Any.stringslite_Index Tryz.lays219 a0 a1 m w h1 (tab_cell hm (hw _ _ ht))) (fun c => res_int) κ
 ·obtain rfl : a1 = ⟨#[46]⟩ := (of_decide_eq_true h).resolve_left h1
  exact sl_Index.dot tab ht a0 h1 κ
namespace st_Index
abbrev K0 {R : Type} (κ : KT R) : Int -> Option R := fun r0 => κ [.int .i64 r0]
section
variable (R : Type) (c1 : sl_Index.F R)
def Γ (g : Nat) (xs : List SV) (κ : KT R) : Option R :=
 match g with
 | 174 => (match xs with
  | [.str a0, .str a1] => c1 a0 a1 (fun r0 => κ [.int .i64 r0])
  | _ => none)
 | _ => none
def h (n : Nat) : Option (List (Nat × List (Nat × Nat))) :=
 match n with
 | _ => none
def C : Cfg R := ⟨tabTy tyL, Γ R c1, fun _ => false, h, 0, fun _ => false⟩
theorem k (κ : KT R) (k : Nat) (a0 a1 : _) : runF (C R c1) Tryz.f128 10000 k [.str a0, .str a1] κ = st_Index.e c1 a0 a1 (K0 κ) := by kernel_rfl
end
theorem Γ_does {R : Type} (tab : Tab) (ht : TabOk tab) (g : Nat) : Does (R := R) Tryz.prog (tabTy tyL) tab g ((C R sl_Index).call g) := by
 refine does_of fun xs κ => ?_
 show DoesAt _ _ _ g xs κ (Γ R sl_Index g xs κ)
 unfold Γ
 split
 ·split
  ·exact sl_Index.does tab ht _ _ κ
  ·exact DoesAt.none
 ·exact DoesAt.none
theorem does {R : Type} (tab : Tab) (ht : TabOk tab) (a0 a1 : _) (κ : KT R) : DoesAt Tryz.prog (tabTy tyL) tab 128 [.str a0, .str a1] κ (st_Index a0 a1 (K0 κ)) := doesAt_run (C := C R sl_Index) (fn := Tryz.f128) tyOk (Γ_does tab ht) (by kernel_rfl) (by kernel_rfl) (by rw [k]; rfl)
end st_Index
namespace le_Split
abbrev K0 {R : Type} (κ : KT R) : BA -> BA -> Option R := fun r0 r1 => κ [.tup [.str r0, .str r1]]
section
variable (R : Type) (c1 : st_HasPrefix.F R) (c2 : st_Index.F R)
def Γ (g : Nat) (xs : List SV) (κ : KT R) : Option R :=
 match g with
 | 127 => (match xs with
  | [.str a0, .str a1] => c1 a0 a1 (st_HasPrefix.K0 κ)
  | _ => none)
 | 128 => (match xs with
  | [.str a0, .str a1] => c2 a0 a1 (st_Index.K0 κ)
  | _ => none)
 | _ => none
def h (n : Nat) : Option (List (Nat × List (Nat × Nat))) :=
 match n with
 | _ => none
def C : Cfg R := ⟨tabTy tyL, Γ R c1 c2, fun _ => false, h, 0, fun _ => false⟩
theorem k (κ : KT R) (k : Nat) (a0 : _) : runF (C R c1 c2) Tryz.f89 10000 k [.str a0] κ = le_Split.e c1 c2 a0 (K0 κ) := by kernel_rfl
end
theorem Γ_does {R : Type} (tab : Tab) (ht : TabOk tab) (g : Nat) : Does (R := R) Tryz.prog (tabTy tyL) tab g ((C R st_HasPrefix st_Index).call g) := by
 refine does_of fun xs κ => ?_
 show DoesAt _ _ _ g xs κ (Γ R st_HasPrefix st_Index g xs κ)
 unfold Γ
 split
 ·split
  ·exact st_HasPrefix.does tab ht _ _ κ
  ·exact DoesAt.none
 ·split
  ·exact st_Index.does tab ht _ _ κ
  ·exact DoesAt.none
 ·exact DoesAt.none
theorem does {R : Type} (tab : Tab) (ht : TabOk tab) (a0 : _) (κ : KT R) : DoesAt Tryz.prog (tabTy tyL) tab 89 [.str a0] κ (le_Split a0 (K0 κ)) := doesAt_run (C := C R st_HasPrefix st_Index) (fn := Tryz.f89) tyOk (Γ_does tab ht) (by kernel_rfl) (by kernel_rfl) (by rw [k]; rfl)
end le_Split
namespace le_isBlank
abbrev K0 {R : Type} (κ : KT R) : Bool -> Option R := fun r0 => κ [.bool r0]
section
variable (R : Type)
def Γ (g : Nat) (xs : List SV) (κ : KT R) : Option R :=
 match g with
 | _ => none
def h (n : Nat) : Option (List (Nat × List (Nat × Nat))) :=
 match n with
 | _ => none
def C : Cfg R := ⟨tabTy tyL, Γ R, fun _ => false, h, 0, fun _ => false⟩
theorem k (κ : KT R) (k : Nat) (a0 : _) : runF (C R) Tryz.f149 10000 k [.int .u8 a0] κ = le_isBlank.e a0 (K0 κ) := by kernel_rfl
end
theorem Γ_does {R : Type} (tab : Tab) (ht : TabOk tab) (g : Nat) : Does (R := R) Tryz.prog (tabTy tyL) tab g ((C R).call g) := by
 refine does_of fun xs κ => ?_
 show DoesAt _ _ _ g xs κ (Γ R g xs κ)
 unfold Γ
 split
 ·exact DoesAt.none
theorem does {R : Type} (tab : Tab) (ht : TabOk tab) (a0 : _) (κ : KT R) : DoesAt Tryz.prog (tabTy tyL) tab 149 [.int .u8 a0] κ (le_isBlank a0 (K0 κ)) := doesAt_run (C := C R) (fn := Tryz.f149) tyOk (Γ_does tab ht) (by kernel_rfl) (by kernel_rfl) (by rw [k]; rfl)
end le_isBlank
namespace le_begins
abbrev K0 {R : Type} (κ : KT R) : BA -> Bool -> Option R := fun r0 r1 => κ [.tup [.str r0, .bool r1]]
section
variable (R : Type) (c1 : le_isBlank.F R)
def Γ (g : Nat) (xs : List SV) (κ : KT R) : Option R :=
 match g with
 | 149 => (match xs with
  | [.int .u8 a0] => c1 a0 (le_isBlank.K0 κ)
  | _ => none)
 | _ => none
def h (n : Nat) : Option (List (Nat × List (Nat × Nat))) :=
 match n with
 | 2 => some [(0, [(0, 0)]), (4, [(0, 0)])]
 | 5 => some [(0, [(0, 0)]), (4, [(0, 0)]), (5, [(0, 0)])]
 | _ => none
def C : Cfg R := ⟨tabTy tyL, Γ R c1, fun _ => false, h, 0, fun _ => false⟩
noncomputable def S := S0 (C R c1) Tryz.f150 0
noncomputable def G := G0 (C R c1) Tryz.f150 0
def s2 := fun x0 x1 => (⟨mkS 60 [(0, .str x0), (4, .int .i64 x1)], [], top⟩ : St)
def s5 := fun x0 x1 x2 => (⟨mkS 60 [(0, .str x0), (4, .int .i64 x1), (5, .str x2)], [], top⟩ : St)
noncomputable abbrev q2 {R : Type} (J : JT R) : BA -> Int -> Option R := fun x0 x1 => J (placeOf Tryz.f150 2) (s2 x0 x1)
noncomputable abbrev q5 {R : Type} (J : JT R) : J5 R := fun x0 x1 x2 => J (placeOf Tryz.f150 5) (s5 x0 x1 x2)
theorem k2 (J : JT R) (κ : KT R) (x0 x1 : _) : S R c1 κ J 2 (s2 x0 x1) = t2 (q2 J) (q5 J) x0 x1 := by kernel_rfl
theorem k5 (J : JT R) (κ : KT R) (x0 x1 x2 : _) : S R c1 κ J 5 (s5 x0 x1 x2) = t5 c1 (q5 J) (K0 κ) x0 x1 x2 := by kernel_rfl
theorem k (κ : KT R) (k : Nat) (a0 : _) : runF (C R c1) Tryz.f150 10000 k [.str a0] κ = le_begins.e c1 a0 (q2 (G R c1 κ k)) (q5 (G R c1 κ k)) (K0 κ) := by kernel_rfl
theorem g5 (κ : KT R) : ∀ (f : Nat), q5 (G R c1 κ f) = L5 c1 (K0 κ) f
 | 0 => rfl
 | f + 1 => by
  funext x0 x1 x2
  show S R c1 κ (G R c1 κ f) 5 _ = _
  rw [k5, g5 κ f]
  rfl
theorem g2 (κ : KT R) : ∀ (f : Nat), q2 (G R c1 κ f) = L2 c1 (K0 κ) f
 | 0 => rfl
 | f + 1 => by
  funext x0 x1
  show S R c1 κ (G R c1 κ f) 2 _ = _
  rw [k2, g2 κ f, g5 R c1 κ f]
  rfl
end
theorem Γ_does {R : Type} (tab : Tab) (ht : TabOk tab) (g : Nat) : Does (R := R) Tryz.prog (tabTy tyL) tab g ((C R le_isBlank).call g) := by
 refine does_of fun xs κ => ?_
 show DoesAt _ _ _ g xs κ (Γ R le_isBlank g xs κ)
 unfold Γ
 split
 ·split
  ·exact le_isBlank.does tab ht _ κ
  ·exact DoesAt.none
 ·exact DoesAt.none
theorem does {R : Type} (tab : Tab) (ht : TabOk tab) (a0 : _) (κ : KT R) : DoesAt Tryz.prog (tabTy tyL) tab 150 [.str a0] κ (le_begins a0 (K0 κ)) := doesAt_run (C := C R le_isBlank) (fn := Tryz.f150) tyOk (Γ_does tab ht) (by kernel_rfl) (by kernel_rfl) (by rw [k]; rw [g2 R le_isBlank κ fuelK, g5 R le_isBlank κ fuelK]; rfl)
end le_begins
namespace le_rows
abbrev K0 {R : Type} (κ : KT R) : LA -> Option R := fun r0 => κ [.fr 161 r0 true]
section
variable (R : Type) (c1 : st_HasPrefix.F R) (c2 : st_Index.F R) (c3 : le_isBlank.F R) (c4 : le_begins.F R)
def Γ (g : Nat) (xs : List SV) (κ : KT R) : Option R :=
 match g with
 | 127 => (match xs with
  | [.str a0, .str a1] => c1 a0 a1 (st_HasPrefix.K0 κ)
  | _ => none)
 | 128 => (match xs with
  | [.str a0, .str a1] => c2 a0 a1 (st_Index.K0 κ)
  | _ => none)
 | 149 => (match xs with
  | [.int .u8 a0] => c3 a0 (le_isBlank.K0 κ)
  | _ => none)
 | 150 => (match xs with
  | [.str a0] => c4 a0 (le_begins.K0 κ)
  | _ => none)
 | _ => none
def h (n : Nat) : Option (List (Nat × List (Nat × Nat))) :=
 match n with
 | 3 => some [(0, [(0, 0)]), (3, [(0, 163)]), (4, [(0, 0)]), (5, [(0, 0)])]
 | _ => none
def C : Cfg R := ⟨tabTy tyL, Γ R c1 c2 c3 c4, fun _ => false, h, 0, fun _ => false⟩
noncomputable def S := S0 (C R c1 c2 c3 c4) Tryz.f110 0
noncomputable def G := G0 (C R c1 c2 c3 c4) Tryz.f110 0
def s3 := fun x0 x1 x2 x3 => (⟨mkS 52 [(0, .str x0), (3, .own 256), (4, .bool x1), (5, .str x2)], [(256, .row 161 x3 true)], top⟩ : St)
noncomputable abbrev q3 {R : Type} (J : JT R) : J3 R := fun x0 x1 x2 x3 => J (placeOf Tryz.f110 3) (s3 x0 x1 x2 x3)
theorem k3 (J : JT R) (κ : KT R) (x0 x1 x2 x3 : _) : S R c1 c2 c3 c4 κ J 3 (s3 x0 x1 x2 x3) = t3 c1 c2 c3 c4 (q3 J) (K0 κ) x0 x1 x2 x3 := by kernel_rfl
theorem k (κ : KT R) (k : Nat) (a0 : _) : runF (C R c1 c2 c3 c4) Tryz.f110 10000 k [.str a0] κ = le_rows.e c1 c2 c3 c4 a0 (q3 (G R c1 c2 c3 c4 κ k)) (K0 κ) := by kernel_rfl
theorem g3 (κ : KT R) : ∀ (f : Nat), q3 (G R c1 c2 c3 c4 κ f) = L3 c1 c2 c3 c4 (K0 κ) f
 | 0 => rfl
 | f + 1 => by
  funext x0 x1 x2 x3
  show S R c1 c2 c3 c4 κ (G R c1 c2 c3 c4 κ f) 3 _ = _
  rw [k3, g3 κ f]
  rfl
end
theorem Γ_does {R : Type} (tab : Tab) (ht : TabOk tab) (g : Nat) : Does (R := R) Tryz.prog (tabTy tyL) tab g ((C R st_HasPrefix st_Index le_isBlank le_begins).call g) := by
 refine does_of fun xs κ => ?_
 show DoesAt _ _ _ g xs κ (Γ R st_HasPrefix st_Index le_isBlank le_begins g xs κ)
 unfold Γ
 split
 ·split
  ·exact st_HasPrefix.does tab ht _ _ κ
  ·exact DoesAt.none
 ·split
  ·exact st_Index.does tab ht _ _ κ
  ·exact DoesAt.none
 ·split
  ·exact le_isBlank.does tab ht _ κ
  ·exact DoesAt.none
 ·split
  ·exact le_begins.does tab ht _ κ
  ·exact DoesAt.none
 ·exact DoesAt.none
theorem does {R : Type} (tab : Tab) (ht : TabOk tab) (a0 : _) (κ : KT R) : DoesAt Tryz.prog (tabTy tyL) tab 110 [.str a0] κ (le_rows a0 (K0 κ)) := doesAt_run (C := C R st_HasPrefix st_Index le_isBlank le_begins) (fn := Tryz.f110) tyOk (Γ_does tab ht) (by kernel_rfl) (by kernel_rfl) (by rw [k]; rw [g3 R st_HasPrefix st_Index le_isBlank le_begins κ fuelK]; rfl)
end le_rows
namespace sl_HasSuffix
abbrev K0 {R : Type} (κ : KT R) : Bool -> Option R := fun r0 => κ [.bool r0]
section
variable (R : Type)
def Γ (g : Nat) (xs : List SV) (κ : KT R) : Option R :=
 match g with
 | _ => none
def h (n : Nat) : Option (List (Nat × List (Nat × Nat))) :=
 match n with
 | _ => none
def C : Cfg R := ⟨tabTy tyL, Γ R, fun _ => false, h, 0, fun _ => false⟩
theorem k (κ : KT R) (k : Nat) (a0 a1 : _) : runF (C R) Tryz.f153 10000 k [.str a0, .str a1] κ = sl_HasSuffix.e a0 a1 (K0 κ) := by kernel_rfl
end
theorem Γ_does {R : Type} (tab : Tab) (ht : TabOk tab) (g : Nat) : Does (R := R) Tryz.prog (tabTy tyL) tab g ((C R).call g) := by
 refine does_of fun xs κ => ?_
 show DoesAt _ _ _ g xs κ (Γ R g xs κ)
 unfold Γ
 split
 ·exact DoesAt.none
theorem does {R : Type} (tab : Tab) (ht : TabOk tab) (a0 a1 : _) (κ : KT R) : DoesAt Tryz.prog (tabTy tyL) tab 153 [.str a0, .str a1] κ (sl_HasSuffix a0 a1 (K0 κ)) := doesAt_run (C := C R) (fn := Tryz.f153) tyOk (Γ_does tab ht) (by kernel_rfl) (by kernel_rfl) (by rw [k]; rfl)
end sl_HasSuffix
namespace sl_TrimSuffix
abbrev K0 {R : Type} (κ : KT R) : BA -> Option R := fun r0 => κ [.str r0]
section
variable (R : Type) (c1 : sl_HasSuffix.F R)
def Γ (g : Nat) (xs : List SV) (κ : KT R) : Option R :=
 match g with
 | 153 => (match xs with
  | [.str a0, .str a1] => c1 a0 a1 (sl_HasSuffix.K0 κ)
  | _ => none)
 | _ => none
def h (n : Nat) : Option (List (Nat × List (Nat × Nat))) :=
 match n with
 | _ => none
def C : Cfg R := ⟨tabTy tyL, Γ R c1, fun _ => false, h, 0, fun _ => false⟩
theorem k (κ : KT R) (k : Nat) (a0 a1 : _) : runF (C R c1) Tryz.f163 10000 k [.str a0, .str a1] κ = sl_TrimSuffix.e c1 a0 a1 (K0 κ) := by kernel_rfl
end
theorem Γ_does {R : Type} (tab : Tab) (ht : TabOk tab) (g : Nat) : Does (R := R) Tryz.prog (tabTy tyL) tab g ((C R sl_HasSuffix).call g) := by
 refine does_of fun xs κ => ?_
 show DoesAt _ _ _ g xs κ (Γ R sl_HasSuffix g xs κ)
 unfold Γ
 split
 ·split
  ·exact sl_HasSuffix.does tab ht _ _ κ
  ·exact DoesAt.none
 ·exact DoesAt.none
theorem does {R : Type} (tab : Tab) (ht : TabOk tab) (a0 a1 : _) (κ : KT R) : DoesAt Tryz.prog (tabTy tyL) tab 163 [.str a0, .str a1] κ (sl_TrimSuffix a0 a1 (K0 κ)) := doesAt_run (C := C R sl_HasSuffix) (fn := Tryz.f163) tyOk (Γ_does tab ht) (by kernel_rfl) (by kernel_rfl) (by rw [k]; rfl)
end sl_TrimSuffix
namespace st_TrimSuffix
abbrev K0 {R : Type} (κ : KT R) : BA -> Option R := fun r0 => κ [.str r0]
section
variable (R : Type) (c1 : sl_TrimSuffix.F R)
def Γ (g : Nat) (xs : List SV) (κ : KT R) : Option R :=
 match g with
 | 163 => (match xs with
  | [.str a0, .str a1] => c1 a0 a1 (sl_TrimSuffix.K0 κ)
  | _ => none)
 | _ => none
def h (n : Nat) : Option (List (Nat × List (Nat × Nat))) :=
 match n with
 | _ => none
def C : Cfg R := ⟨tabTy tyL, Γ R c1, fun _ => false, h, 0, fun _ => false⟩
theorem k (κ : KT R) (k : Nat) (a0 a1 : _) : runF (C R c1) Tryz.f122 10000 k [.str a0, .str a1] κ = st_TrimSuffix.e c1 a0 a1 (K0 κ) := by kernel_rfl
end
theorem Γ_does {R : Type} (tab : Tab) (ht : TabOk tab) (g : Nat) : Does (R := R) Tryz.prog (tabTy tyL) tab g ((C R sl_TrimSuffix).call g) := by
 refine does_of fun xs κ => ?_
 show DoesAt _ _ _ g xs κ (Γ R sl_TrimSuffix g xs κ)
 unfold Γ
 split
 ·split
  ·exact sl_TrimSuffix.does tab ht _ _ κ
  ·exact DoesAt.none
 ·exact DoesAt.none
theorem does {R : Type} (tab : Tab) (ht : TabOk tab) (a0 a1 : _) (κ : KT R) : DoesAt Tryz.prog (tabTy tyL) tab 122 [.str a0, .str a1] κ (st_TrimSuffix a0 a1 (K0 κ)) := doesAt_run (C := C R sl_TrimSuffix) (fn := Tryz.f122) tyOk (Γ_does tab ht) (by kernel_rfl) (by kernel_rfl) (by rw [k]; rfl)
end st_TrimSuffix
namespace st_IndexByte
abbrev K0 {R : Type} (κ : KT R) : Int -> Option R := fun r0 => κ [.int .i64 r0]
section
variable (R : Type) (c1 : sl_IndexByte.F R)
def Γ (g : Nat) (xs : List SV) (κ : KT R) : Option R :=
 match g with
 | 164 => (match xs with
  | [.str a0, .int .u8 a1] => c1 a0 a1 (sl_IndexByte.K0 κ)
  | _ => none)
 | _ => none
def h (n : Nat) : Option (List (Nat × List (Nat × Nat))) :=
 match n with
 | _ => none
def C : Cfg R := ⟨tabTy tyL, Γ R c1, fun _ => false, h, 0, fun _ => false⟩
theorem k (κ : KT R) (k : Nat) (a0 a1 : _) : runF (C R c1) Tryz.f123 10000 k [.str a0, .int .u8 a1] κ = st_IndexByte.e c1 a0 a1 (K0 κ) := by kernel_rfl
end
theorem Γ_does {R : Type} (tab : Tab) (ht : TabOk tab) (g : Nat) : Does (R := R) Tryz.prog (tabTy tyL) tab g ((C R sl_IndexByte).call g) := by
 refine does_of fun xs κ => ?_
 show DoesAt _ _ _ g xs κ (Γ R sl_IndexByte g xs κ)
 unfold Γ
 split
 ·split
  ·exact sl_IndexByte.does tab ht _ _ κ
  ·exact DoesAt.none
 ·exact DoesAt.none
theorem does {R : Type} (tab : Tab) (ht : TabOk tab) (a0 a1 : _) (κ : KT R) : DoesAt Tryz.prog (tabTy tyL) tab 123 [.str a0, .int .u8 a1] κ (st_IndexByte a0 a1 (K0 κ)) := doesAt_run (C := C R sl_IndexByte) (fn := Tryz.f123) tyOk (Γ_does tab ht) (by kernel_rfl) (by kernel_rfl) (by rw [k]; rfl)
end st_IndexByte
namespace st_trimRightByte
abbrev K0 {R : Type} (κ : KT R) : BA -> Option R := fun r0 => κ [.str r0]
section
variable (R : Type)
def Γ (g : Nat) (xs : List SV) (κ : KT R) : Option R :=
 match g with
 | _ => none
def h (n : Nat) : Option (List (Nat × List (Nat × Nat))) :=
 match n with
 | 1 => some [(0, [(0, 0)]), (1, [(0, 0)])]
 | _ => none
def C : Cfg R := ⟨tabTy tyL, Γ R, fun _ => false, h, 0, fun _ => false⟩
noncomputable def S := S0 (C R) Tryz.f166 0
noncomputable def G := G0 (C R) Tryz.f166 0
def s1 := fun x0 x1 => (⟨mkS 23 [(0, .str x0), (1, .int .u8 x1)], [], top⟩ : St)
noncomputable abbrev q1 {R : Type} (J : JT R) : BA -> Int -> Option R := fun x0 x1 => J (placeOf Tryz.f166 1) (s1 x0 x1)
theorem k1 (J : JT R) (κ : KT R) (x0 x1 : _) : S R κ J 1 (s1 x0 x1) = t1 (q1 J) (K0 κ) x0 x1 := by kernel_rfl
theorem k (κ : KT R) (k : Nat) (a0 a1 : _) : runF (C R) Tryz.f166 10000 k [.str a0, .int .u8 a1] κ = st_trimRightByte.e a0 a1 (q1 (G R κ k)) (K0 κ) := by kernel_rfl
theorem g1 (κ : KT R) : ∀ (f : Nat), q1 (G R κ f) = L1 (K0 κ) f
 | 0 => rfl
 | f + 1 => by
  funext x0 x1
  show S R κ (G R κ f) 1 _ = _
  rw [k1, g1 κ f]
  rfl
end
theorem Γ_does {R : Type} (tab : Tab) (ht : TabOk tab) (g : Nat) : Does (R := R) Tryz.prog (tabTy tyL) tab g ((C R).call g) := by
 refine does_of fun xs κ => ?_
 show DoesAt _ _ _ g xs κ (Γ R g xs κ)
 unfold Γ
 split
 ·exact DoesAt.none
theorem does {R : Type} (tab : Tab) (ht : TabOk tab) (a0 a1 : _) (κ : KT R) : DoesAt Tryz.prog (tabTy tyL) tab 166 [.str a0, .int .u8 a1] κ (st_trimRightByte a0 a1 (K0 κ)) := doesAt_run (C := C R) (fn := Tryz.f166) tyOk (Γ_does tab ht) (by kernel_rfl) (by kernel_rfl) (by rw [k]; rw [g1 R κ fuelK]; rfl)
end st_trimRightByte
namespace st_trimLeftByte
abbrev K0 {R : Type} (κ : KT R) : BA -> Option R := fun r0 => κ [.str r0]
section
variable (R : Type)
def Γ (g : Nat) (xs : List SV) (κ : KT R) : Option R :=
 match g with
 | _ => none
def h (n : Nat) : Option (List (Nat × List (Nat × Nat))) :=
 match n with
 | 1 => some [(0, [(0, 0)]), (1, [(0, 0)])]
 | _ => none
def C : Cfg R := ⟨tabTy tyL, Γ R, fun _ => false, h, 0, fun _ => false⟩
noncomputable def S := S0 (C R) Tryz.f165 0
noncomputable def G := G0 (C R) Tryz.f165 0
def s1 := fun x0 x1 => (⟨mkS 17 [(0, .str x0), (1, .int .u8 x1)], [], top⟩ : St)
noncomputable abbrev q1 {R : Type} (J : JT R) : BA -> Int -> Option R := fun x0 x1 => J (placeOf Tryz.f165 1) (s1 x0 x1)
theorem k1 (J : JT R) (κ : KT R) (x0 x1 : _) : S R κ J 1 (s1 x0 x1) = t1 (q1 J) (K0 κ) x0 x1 := by kernel_rfl
theorem k (κ : KT R) (k : Nat) (a0 a1 : _) : runF (C R) Tryz.f165 10000 k [.str a0, .int .u8 a1] κ = st_trimLeftByte.e a0 a1 (q1 (G R κ k)) (K0 κ) := by kernel_rfl
theorem g1 (κ : KT R) : ∀ (f : Nat), q1 (G R κ f) = L1 (K0 κ) f
 | 0 => rfl
 | f + 1 => by
  funext x0 x1
  show S R κ (G R κ f) 1 _ = _
  rw [k1, g1 κ f]
  rfl
end
theorem Γ_does {R : Type} (tab : Tab) (ht : TabOk tab) (g : Nat) : Does (R := R) Tryz.prog (tabTy tyL) tab g ((C R).call g) := by
 refine does_of fun xs κ => ?_
 show DoesAt _ _ _ g xs κ (Γ R g xs κ)
 unfold Γ
 split
 ·exact DoesAt.none
theorem does {R : Type} (tab : Tab) (ht : TabOk tab) (a0 a1 : _) (κ : KT R) : DoesAt Tryz.prog (tabTy tyL) tab 165 [.str a0, .int .u8 a1] κ (st_trimLeftByte a0 a1 (K0 κ)) := doesAt_run (C := C R) (fn := Tryz.f165) tyOk (Γ_does tab ht) (by kernel_rfl) (by kernel_rfl) (by rw [k]; rw [g1 R κ fuelK]; rfl)
end st_trimLeftByte
namespace st_makeASCIISet
abbrev K0 {R : Type} (κ : KT R) : LA -> Bool -> Option R := fun r0 r1 => κ [.tup [.ar 4 256 r0, .bool r1]]
section
variable (R : Type)
def Γ (g : Nat) (xs : List SV) (κ : KT R) : Option R :=
 match g with
 | _ => none
def h (n : Nat) : Option (List (Nat × List (Nat × Nat))) :=
 match n with
 | 2 => some [(0, [(0, 0)]), (2, [(0, 0)]), (4, [(0, 0)])]
 | _ => none
def C : Cfg R := ⟨tabTy tyL, Γ R, fun _ => false, h, 0, fun _ => false⟩
noncomputable def S := S0 (C R) Tryz.f167 0
noncomputable def G := G0 (C R) Tryz.f167 0
def s2 := fun x0 x1 x2 => (⟨mkS 21 [(0, .str x0), (2, .ap 192 256), (4, .int .i64 x1)], [(192, .row 4 x2 true)], top⟩ : St)
noncomputable abbrev q2 {R : Type} (J : JT R) : J2 R := fun x0 x1 x2 => J (placeOf Tryz.f167 2) (s2 x0 x1 x2)
theorem k2 (J : JT R) (κ : KT R) (x0 x1 x2 : _) : S R κ J 2 (s2 x0 x1 x2) = t2 (q2 J) (K0 κ) x0 x1 x2 := by kernel_rfl
theorem k (κ : KT R) (k : Nat) (a0 : _) : runF (C R) Tryz.f167 10000 k [.str a0] κ = st_makeASCIISet.e a0 (q2 (G R κ k)) (K0 κ) := by kernel_rfl
theorem g2 (κ : KT R) : ∀ (f : Nat), q2 (G R κ f) = L2 (K0 κ) f
 | 0 => rfl
 | f + 1 => by
  funext x0 x1 x2
  show S R κ (G R κ f) 2 _ = _
  rw [k2, g2 κ f]
  rfl
end
theorem Γ_does {R : Type} (tab : Tab) (ht : TabOk tab) (g : Nat) : Does (R := R) Tryz.prog (tabTy tyL) tab g ((C R).call g) := by
 refine does_of fun xs κ => ?_
 show DoesAt _ _ _ g xs κ (Γ R g xs κ)
 unfold Γ
 split
 ·exact DoesAt.none
theorem does {R : Type} (tab : Tab) (ht : TabOk tab) (a0 : _) (κ : KT R) : DoesAt Tryz.prog (tabTy tyL) tab 167 [.str a0] κ (st_makeASCIISet a0 (K0 κ)) := doesAt_run (C := C R) (fn := Tryz.f167) tyOk (Γ_does tab ht) (by kernel_rfl) (by kernel_rfl) (by rw [k]; rw [g2 R κ fuelK]; rfl)
end st_makeASCIISet
namespace st_asciiSet_contains
abbrev K0 {R : Type} (κ : KT R) : Bool -> Option R := fun r0 => κ [.bool r0]
section
variable (R : Type)
def Γ (g : Nat) (xs : List SV) (κ : KT R) : Option R :=
 match g with
 | _ => none
def h (n : Nat) : Option (List (Nat × List (Nat × Nat))) :=
 match n with
 | _ => none
def C : Cfg R := ⟨tabTy tyL, Γ R, fun _ => false, h, 0, fun _ => false⟩
theorem k (κ : KT R) (k : Nat) (a0 a1 : _) : runF (C R) Tryz.f193 10000 k [.ra 4 256 a0 true, .int .u8 a1] κ = st_asciiSet_contains.e a0 a1 (K0 κ) := by kernel_rfl
end
theorem Γ_does {R : Type} (tab : Tab) (ht : TabOk tab) (g : Nat) : Does (R := R) Tryz.prog (tabTy tyL) tab g ((C R).call g) := by
 refine does_of fun xs κ => ?_
 show DoesAt _ _ _ g xs κ (Γ R g xs κ)
 unfold Γ
 split
 ·exact DoesAt.none
theorem does {R : Type} (tab : Tab) (ht : TabOk tab) (a0 a1 : _) (κ : KT R) : DoesAt Tryz.prog (tabTy tyL) tab 193 [.ra 4 256 a0 true, .int .u8 a1] κ (st_asciiSet_contains a0 a1 (K0 κ)) := doesAt_run (C := C R) (fn := Tryz.f193) tyOk (Γ_does tab ht) (by kernel_rfl) (by kernel_rfl) (by rw [k]; rfl)
end st_asciiSet_contains
namespace st_trimRightASCII
abbrev K0 {R : Type} (κ : KT R) : BA -> Option R := fun r0 => κ [.str r0]
section
variable (R : Type) (c1 : st_asciiSet_contains.F R)
def Γ (g : Nat) (xs : List SV) (κ : KT R) : Option R :=
 match g with
 | 193 => (match xs with
  | [.ra 4 256 a0 true, .int .u8 a1] => c1 a0 a1 (st_asciiSet_contains.K0 κ)
  | _ => none)
 | _ => none
def h (n : Nat) : Option (List (Nat × List (Nat × Nat))) :=
 match n with
 | 1 => some [(0, [(0, 0)]), (1, [(0, 0)])]
 | _ => none
def C : Cfg R := ⟨tabTy tyL, Γ R c1, fun g => Nat.beq g 193, h, 0, fun _ => false⟩
noncomputable def S := S0 (C R c1) Tryz.f169 0
noncomputable def G := G0 (C R c1) Tryz.f169 0
def s1 := fun x0 x1 => (⟨mkS 22 [(0, .str x0), (1, .ra 4 256 x1 true)], [], top⟩ : St)
noncomputable abbrev q1 {R : Type} (J : JT R) : BA -> LA -> Option R := fun x0 x1 => J (placeOf Tryz.f169 1) (s1 x0 x1)
theorem k1 (J : JT R) (κ : KT R) (x0 x1 : _) : S R c1 κ J 1 (s1 x0 x1) = t1 c1 (q1 J) (K0 κ) x0 x1 := by kernel_rfl
theorem k (κ : KT R) (k : Nat) (a0 a1 : _) : runF (C R c1) Tryz.f169 10000 k [.str a0, .ra 4 256 a1 true] κ = st_trimRightASCII.e c1 a0 a1 (q1 (G R c1 κ k)) (K0 κ) := by kernel_rfl
theorem g1 (κ : KT R) : ∀ (f : Nat), q1 (G R c1 κ f) = L1 c1 (K0 κ) f
 | 0 => rfl
 | f + 1 => by
  funext x0 x1
  show S R c1 κ (G R c1 κ f) 1 _ = _
  rw [k1, g1 κ f]
  rfl
end
theorem Γ_does {R : Type} (tab : Tab) (ht : TabOk tab) (g : Nat) : Does (R := R) Tryz.prog (tabTy tyL) tab g ((C R st_asciiSet_contains).call g) := by
 refine does_of fun xs κ => ?_
 show DoesAt _ _ _ g xs κ (Γ R st_asciiSet_contains g xs κ)
 unfold Γ
 split
 ·split
  ·exact st_asciiSet_contains.does tab ht _ _ κ
  ·exact DoesAt.none
 ·exact DoesAt.none
theorem does {R : Type} (tab : Tab) (ht : TabOk tab) (a0 a1 : _) (κ : KT R) : DoesAt Tryz.prog (tabTy tyL) tab 169 [.str a0, .ra 4 256 a1 true] κ (st_trimRightASCII a0 a1 (K0 κ)) := doesAt_run (C := C R st_asciiSet_contains) (fn := Tryz.f169) tyOk (Γ_does tab ht) (by kernel_rfl) (by kernel_rfl) (by rw [k]; rw [g1 R st_asciiSet_contains κ fuelK]; rfl)
end st_trimRightASCII
namespace st_trimLeftASCII
abbrev K0 {R : Type} (κ : KT R) : BA -> Option R := fun r0 => κ [.str r0]
section
variable (R : Type) (c1 : st_asciiSet_contains.F R)
def Γ (g : Nat) (xs : List SV) (κ : KT R) : Option R :=
 match g with
 | 193 => (match xs with
  | [.ra 4 256 a0 true, .int .u8 a1] => c1 a0 a1 (st_asciiSet_contains.K0 κ)
  | _ => none)
 | _ => none
def h (n : Nat) : Option (List (Nat × List (Nat × Nat))) :=
 match n with
 | 1 => some [(0, [(0, 0)]), (1, [(0, 0)])]
 | _ => none
def C : Cfg R := ⟨tabTy tyL, Γ R c1, fun g => Nat.beq g 193, h, 0, fun _ => false⟩
noncomputable def S := S0 (C R c1) Tryz.f168 0
noncomputable def G := G0 (C R c1) Tryz.f168 0
def s1 := fun x0 x1 => (⟨mkS 16 [(0, .str x0), (1, .ra 4 256 x1 true)], [], top⟩ : St)
noncomputable abbrev q1 {R : Type} (J : JT R) : BA -> LA -> Option R := fun x0 x1 => J (placeOf Tryz.f168 1) (s1 x0 x1)
theorem k1 (J : JT R) (κ : KT R) (x0 x1 : _) : S R c1 κ J 1 (s1 x0 x1) = t1 c1 (q1 J) (K0 κ) x0 x1 := by kernel_rfl
theorem k (κ : KT R) (k : Nat) (a0 a1 : _) : runF (C R c1) Tryz.f168 10000 k [.str a0, .ra 4 256 a1 true] κ = st_trimLeftASCII.e c1 a0 a1 (q1 (G R c1 κ k)) (K0 κ) := by kernel_rfl
theorem g1 (κ : KT R) : ∀ (f : Nat), q1 (G R c1 κ f) = L1 c1 (K0 κ) f
 | 0 => rfl
 | f + 1 => by
  funext x0 x1
  show S R c1 κ (G R c1 κ f) 1 _ = _
  rw [k1, g1 κ f]
  rfl
end
theorem Γ_does {R : Type} (tab : Tab) (ht : TabOk tab) (g : Nat) : Does (R := R) Tryz.prog (tabTy tyL) tab g ((C R st_asciiSet_contains).call g) := by
 refine does_of fun xs κ => ?_
 show DoesAt _ _ _ g xs κ (Γ R st_asciiSet_contains g xs κ)
 unfold Γ
 split
 ·split
  ·exact st_asciiSet_contains.does tab ht _ _ κ
  ·exact DoesAt.none
 ·exact DoesAt.none
theorem does {R : Type} (tab : Tab) (ht : TabOk tab) (a0 a1 : _) (κ : KT R) : DoesAt Tryz.prog (tabTy tyL) tab 168 [.str a0, .ra 4 256 a1 true] κ (st_trimLeftASCII a0 a1 (K0 κ)) := doesAt_run (C := C R st_asciiSet_contains) (fn := Tryz.f168) tyOk (Γ_does tab ht) (by kernel_rfl) (by kernel_rfl) (by rw [k]; rw [g1 R st_asciiSet_contains κ fuelK]; rfl)
end st_trimLeftASCII
namespace st_Trim
abbrev K0 {R : Type} (κ : KT R) : BA -> Option R := fun r0 => κ [.str r0]
section
variable (R : Type) (c1 : st_trimRightByte.F R) (c2 : st_trimLeftByte.F R) (c3 : st_makeASCIISet.F R) (c4 : st_trimRightASCII.F R) (c5 : st_trimLeftASCII.F R)
def Γ (g : Nat) (xs : List SV) (κ : KT R) : Option R :=
 match g with
 | 165 => (match xs with
  | [.str a0, .int .u8 a1] => c2 a0 a1 (st_trimLeftByte.K0 κ)
  | _ => none)
 | 166 => (match xs with
  | [.str a0, .int .u8 a1] => c1 a0 a1 (st_trimRightByte.K0 κ)
  | _ => none)
 | 167 => (match xs with
  | [.str a0] => c3 a0 (st_makeASCIISet.K0 κ)
  | _ => none)
 | 168 => (match xs with
  | [.str a0, .ra 4 256 a1 true] => c5 a0 a1 (st_trimLeftASCII.K0 κ)
  | _ => none)
 | 169 => (match xs with
  | [.str a0, .ra 4 256 a1 true] => c4 a0 a1 (st_trimRightASCII.K0 κ)
  | _ => none)
 | _ => none
def h (n : Nat) : Option (List (Nat × List (Nat × Nat))) :=
 match n with
 | _ => none
def C : Cfg R := ⟨tabTy tyL, Γ R c1 c2 c3 c4 c5, fun g => Nat.beq g 168 || Nat.beq g 169, h, 0, fun _ => false⟩
theorem k (κ : KT R) (k : Nat) (a0 a1 : _) : runF (C R c1 c2 c3 c4 c5) Tryz.f124 10000 k [.str a0, .str a1] κ = st_Trim.e c1 c2 c3 c4 c5 a0 a1 (K0 κ) := by kernel_rfl
end
theorem Γ_does {R : Type} (tab : Tab) (ht : TabOk tab) (g : Nat) : Does (R := R) Tryz.prog (tabTy tyL) tab g ((C R st_trimRightByte st_trimLeftByte st_makeASCIISet st_trimRightASCII st_trimLeftASCII).call g) := by
 refine does_of fun xs κ => ?_
 show DoesAt _ _ _ g xs κ (Γ R st_trimRightByte st_trimLeftByte st_makeASCIISet st_trimRightASCII st_trimLeftASCII g xs κ)
 unfold Γ
 split
 ·split
  ·exact st_trimLeftByte.does tab ht _ _ κ
  ·exact DoesAt.none
 ·split
  ·exact st_trimRightByte.does tab ht _ _ κ
  ·exact DoesAt.none
 ·split
  ·exact st_makeASCIISet.does tab ht _ κ
  ·exact DoesAt.none
 ·split
  ·exact st_trimLeftASCII.does tab ht _ _ κ
  ·exact DoesAt.none
 ·split
  ·exact st_trimRightASCII.does tab ht _ _ κ
  ·exact DoesAt.none
 ·exact DoesAt.none
theorem does {R : Type} (tab : Tab) (ht : TabOk tab) (a0 a1 : _) (κ : KT R) : DoesAt Tryz.prog (tabTy tyL) tab 124 [.str a0, .str a1] κ (st_Trim a0 a1 (K0 κ)) := doesAt_run (C := C R st_trimRightByte st_trimLeftByte st_makeASCIISet st_trimRightASCII st_trimLeftASCII) (fn := Tryz.f124) tyOk (Γ_does tab ht) (by kernel_rfl) (by kernel_rfl) (by rw [k]; rfl)
end st_Trim
namespace le_Fields
abbrev K0 {R : Type} (κ : KT R) : LA -> Option R := fun r0 => κ [.fr 168 r0 true]
section
variable (R : Type) (c1 : le_rows.F R) (c2 : st_Trim.F R) (c3 : st_TrimSuffix.F R) (c4 : st_IndexByte.F R)
def Γ (g : Nat) (xs : List SV) (κ : KT R) : Option R :=
 match g with
 | 110 => (match xs with
  | [.str a0] => c1 a0 (le_rows.K0 κ)
  | _ => none)
 | 122 => (match xs with
  | [.str a0, .str a1] => c3 a0 a1 (st_TrimSuffix.K0 κ)
  | _ => none)
 | 123 => (match xs with
  | [.str a0, .int .u8 a1] => c4 a0 a1 (st_IndexByte.K0 κ)
  | _ => none)
 | 124 => (match xs with
  | [.str a0, .str a1] => c2 a0 a1 (st_Trim.K0 κ)
  | _ => none)
 | _ => none
def h (n : Nat) : Option (List (Nat × List (Nat × Nat))) :=
 match n with
 | 4 => some [(3, [(0, 170)]), (4, [(0, 11)]), (10, [(0, 0)]), (11, [(0, 0)]), (12, [(0, 0)])]
 | 8 => some [(3, [(0, 0)]), (4, [(0, 0)]), (6, [(0, 0)]), (10, [(0, 0)]), (11, [(0, 0)]), (12, [(0, 0)])]
 | 13 => some [(3, [(0, 170)]), (4, [(0, 11)]), (6, [(0, 0)]), (7, [(0, 0)]), (10, [(0, 0)]), (11, [(0, 0)]), (12, [(0, 0)])]
 | 15 => some [(3, [(0, 170)]), (4, [(0, 11)]), (10, [(0, 0)]), (11, [(0, 0)]), (12, [(0, 0)])]
 | 17 => some [(3, [(0, 0)]), (4, [(0, 0)]), (72, [(0, 0)]), (73, [(0, 0)])]
 | _ => none
def C : Cfg R := ⟨tabTy tyL, Γ R c1 c2 c3 c4, fun _ => false, h, 0, fun _ => false⟩
noncomputable def S := S0 (C R c1 c2 c3 c4) Tryz.f76 0
noncomputable def G := G0 (C R c1 c2 c3 c4) Tryz.f76 0
def s4 := fun x0 x1 x2 x3 x4 => (⟨mkS 87 [(3, .own 256), (4, .own 320), (10, .own 704), (11, .int .i64 x0), (12, .int .i64 x1)], [(256, .row 168 x2 true), (320, .row 9 x3 true), (704, .row 161 x4 true)], top⟩ : St)
def s8 := fun x0 x1 x2 x3 x4 x5 x6 x7 x8 => (⟨mkS 87 [(3, .own 256), (4, .own 320), (6, .ptr 511 0), (10, .own 704), (11, .int .i64 x0), (12, .int .i64 x1)], [(256, .row 168 x2 true), (320, .row 9 x3 true), (511, .var 161 [.str x4, .str x5, .bool x6, .bool x7]), (704, .row 161 x8 true)], top⟩ : St)
def s13 := fun x0 x1 x2 x3 x4 x5 x6 x7 x8 x9 => (⟨mkS 87 [(3, .own 256), (4, .own 320), (6, .ptr 511 0), (7, .str x0), (10, .own 704), (11, .int .i64 x1), (12, .int .i64 x2)], [(256, .row 168 x3 true), (320, .row 9 x4 true), (511, .var 161 [.str x5, .str x6, .bool x7, .bool x8]), (704, .row 161 x9 true)], top⟩ : St)
def s15 := fun x0 x1 x2 x3 x4 => (⟨mkS 87 [(3, .own 256), (4, .own 320), (10, .own 704), (11, .int .i64 x0), (12, .int .i64 x1)], [(256, .row 168 x2 true), (320, .row 9 x3 true), (704, .row 161 x4 true)], top⟩ : St)
def s17 := fun x0 x1 x2 x3 => (⟨mkS 87 [(3, .own 256), (4, .own 320), (72, .int .i64 x0), (73, .int .i64 x1)], [(256, .row 168 x2 true), (320, .row 9 x3 true)], top⟩ : St)
noncomputable abbrev q4 {R : Type} (J : JT R) : J4 R := fun x0 x1 x2 x3 x4 => J (placeOf Tryz.f76 4) (s4 x0 x1 x2 x3 x4)
noncomputable abbrev q8 {R : Type} (J : JT R) : J8 R := fun x0 x1 x2 x3 x4 x5 x6 x7 x8 => J (placeOf Tryz.f76 8) (s8 x0 x1 x2 x3 x4 x5 x6 x7 x8)
noncomputable abbrev q13 {R : Type} (J : JT R) : J13 R := fun x0 x1 x2 x3 x4 x5 x6 x7 x8 x9 => J (placeOf Tryz.f76 13) (s13 x0 x1 x2 x3 x4 x5 x6 x7 x8 x9)
noncomputable abbrev q15 {R : Type} (J : JT R) : J15 R := fun x0 x1 x2 x3 x4 => J (placeOf Tryz.f76 15) (s15 x0 x1 x2 x3 x4)
noncomputable abbrev q17 {R : Type} (J : JT R) : J17 R := fun x0 x1 x2 x3 => J (placeOf Tryz.f76 17) (s17 x0 x1 x2 x3)
theorem k4 (J : JT R) (κ : KT R) (x0 x1 x2 x3 x4 : _) : S R c1 c2 c3 c4 κ J 4 (s4 x0 x1 x2 x3 x4) = t4 (q8 J) (q15 J) (q17 J) x0 x1 x2 x3 x4 := by kernel_rfl
theorem k8 (J : JT R) (κ : KT R) (x0 x1 x2 x3 x4 x5 x6 x7 x8 : _) : S R c1 c2 c3 c4 κ J 8 (s8 x0 x1 x2 x3 x4 x5 x6 x7 x8) = t8 c3 c4 (q13 J) x0 x1 x2 x3 x4 x5 x6 x7 x8 := by kernel_rfl
theorem k13 (J : JT R) (κ : KT R) (x0 x1 x2 x3 x4 x5 x6 x7 x8 x9 : _) : S R c1 c2 c3 c4 κ J 13 (s13 x0 x1 x2 x3 x4 x5 x6 x7 x8 x9) = t13 (q15 J) x0 x1 x2 x3 x4 x5 x6 x7 x8 x9 := by kernel_rfl
theorem k15 (J : JT R) (κ : KT R) (x0 x1 x2 x3 x4 : _) : S R c1 c2 c3 c4 κ J 15 (s15 x0 x1 x2 x3 x4) = t15 (q4 J) x0 x1 x2 x3 x4 := by kernel_rfl
theorem k17 (J : JT R) (κ : KT R) (x0 x1 x2 x3 : _) : S R c1 c2 c3 c4 κ J 17 (s17 x0 x1 x2 x3) = t17 c2 (q17 J) (K0 κ) x0 x1 x2 x3 := by kernel_rfl
theorem k (κ : KT R) (k : Nat) (a0 : _) : runF (C R c1 c2 c3 c4) Tryz.f76 10000 k [.str a0] κ = le_Fields.e c1 c2 c3 c4 a0 (q4 (G R c1 c2 c3 c4 κ k)) (q8 (G R c1 c2 c3 c4 κ k)) (q13 (G R c1 c2 c3 c4 κ k)) (q15 (G R c1 c2 c3 c4 κ k)) (q17 (G R c1 c2 c3 c4 κ k)) (K0 κ) := by kernel_rfl
theorem g17 (κ : KT R) : ∀ (f : Nat), q17 (G R c1 c2 c3 c4 κ f) = L17 c1 c2 c3 c4 (K0 κ) f
 | 0 => rfl
 | f + 1 => by
  funext x0 x1 x2 x3
  show S R c1 c2 c3 c4 κ (G R c1 c2 c3 c4 κ f) 17 _ = _
  rw [k17, g17 κ f]
  rfl
theorem gM4 (κ : KT R) : ∀ (f : Nat), (q4 (G R c1 c2 c3 c4 κ f) = L4 c1 c2 c3 c4 (K0 κ) f) /\ (q8 (G R c1 c2 c3 c4 κ f) = L8 c1 c2 c3 c4 (K0 κ) f) /\ (q13 (G R c1 c2 c3 c4 κ f) = L13 c1 c2 c3 c4 (K0 κ) f) /\ (q15 (G R c1 c2 c3 c4 κ f) = L15 c1 c2 c3 c4 (K0 κ) f)
 | 0 => ⟨rfl, rfl, rfl, rfl⟩
 | f + 1 => by
  obtain ⟨ih0, ih1, ih2, ih3⟩ := gM4 κ f
  refine ⟨?_, ?_, ?_, ?_⟩
  ·funext x0 x1 x2 x3 x4
   show S R c1 c2 c3 c4 κ (G R c1 c2 c3 c4 κ f) 4 _ = _
   rw [k4, ih1, ih3, g17 R c1 c2 c3 c4 κ f]
   rfl
  ·funext x0 x1 x2 x3 x4 x5 x6 x7 x8
   show S R c1 c2 c3 c4 κ (G R c1 c2 c3 c4 κ f) 8 _ = _
   rw [k8, ih2]
   rfl
  ·funext x0 x1 x2 x3 x4 x5 x6 x7 x8 x9
   show S R c1 c2 c3 c4 κ (G R c1 c2 c3 c4 κ f) 13 _ = _
   rw [k13, ih3]
   rfl
  ·funext x0 x1 x2 x3 x4
   show S R c1 c2 c3 c4 κ (G R c1 c2 c3 c4 κ f) 15 _ = _
   rw [k15, ih0]
   rfl
theorem g4 (κ : KT R) (f : Nat) : q4 (G R c1 c2 c3 c4 κ f) = L4 c1 c2 c3 c4 (K0 κ) f := (gM4 R c1 c2 c3 c4 κ f).1
theorem g8 (κ : KT R) (f : Nat) : q8 (G R c1 c2 c3 c4 κ f) = L8 c1 c2 c3 c4 (K0 κ) f := (gM4 R c1 c2 c3 c4 κ f).2.1
theorem g13 (κ : KT R) (f : Nat) : q13 (G R c1 c2 c3 c4 κ f) = L13 c1 c2 c3 c4 (K0 κ) f := (gM4 R c1 c2 c3 c4 κ f).2.2.1
theorem g15 (κ : KT R) (f : Nat) : q15 (G R c1 c2 c3 c4 κ f) = L15 c1 c2 c3 c4 (K0 κ) f := (gM4 R c1 c2 c3 c4 κ f).2.2.2
end
theorem Γ_does {R : Type} (tab : Tab) (ht : TabOk tab) (g : Nat) : Does (R := R) Tryz.prog (tabTy tyL) tab g ((C R le_rows st_Trim st_TrimSuffix st_IndexByte).call g) := by
 refine does_of fun xs κ => ?_
 show DoesAt _ _ _ g xs κ (Γ R le_rows st_Trim st_TrimSuffix st_IndexByte g xs κ)
 unfold Γ
 split
 ·split
  ·exact le_rows.does tab ht _ κ
  ·exact DoesAt.none
 ·split
  ·exact st_TrimSuffix.does tab ht _ _ κ
  ·exact DoesAt.none
 ·split
  ·exact st_IndexByte.does tab ht _ _ κ
  ·exact DoesAt.none
 ·split
  ·exact st_Trim.does tab ht _ _ κ
  ·exact DoesAt.none
 ·exact DoesAt.none
theorem does {R : Type} (tab : Tab) (ht : TabOk tab) (a0 : _) (κ : KT R) : DoesAt Tryz.prog (tabTy tyL) tab 76 [.str a0] κ (le_Fields a0 (K0 κ)) := doesAt_run (C := C R le_rows st_Trim st_TrimSuffix st_IndexByte) (fn := Tryz.f76) tyOk (Γ_does tab ht) (by kernel_rfl) (by kernel_rfl) (by rw [k]; rw [g4 R le_rows st_Trim st_TrimSuffix st_IndexByte κ fuelK, g8 R le_rows st_Trim st_TrimSuffix st_IndexByte κ fuelK, g13 R le_rows st_Trim st_TrimSuffix st_IndexByte κ fuelK, g15 R le_rows st_Trim st_TrimSuffix st_IndexByte κ fuelK, g17 R le_rows st_Trim st_TrimSuffix st_IndexByte κ fuelK]; rfl)
end le_Fields
namespace oc_Lower
abbrev K0 {R : Type} (κ : KT R) : BA -> Option R := fun r0 => κ [.str r0]
section
variable (R : Type)
def Γ (g : Nat) (xs : List SV) (κ : KT R) : Option R :=
 match g with
 | _ => none
def h (n : Nat) : Option (List (Nat × List (Nat × Nat))) :=
 match n with
 | 3 => some [(3, [(0, 0)]), (8, [(0, 0)]), (9, [(0, 0)]), (10, [(0, 0)])]
 | _ => none
def C : Cfg R := ⟨tabTy tyL, Γ R, fun _ => false, h, 0, fun _ => false⟩
noncomputable def S := S0 (C R) Tryz.f151 0
noncomputable def G := G0 (C R) Tryz.f151 0
def s3 := fun x0 x1 x2 => (⟨mkS 30 [(3, .own 256), (8, .own 256), (9, .int .i64 x0), (10, .int .i64 x1)], [(256, .row 5 x2 true)], top⟩ : St)
noncomputable abbrev q3 {R : Type} (J : JT R) : J3 R := fun x0 x1 x2 => J (placeOf Tryz.f151 3) (s3 x0 x1 x2)
theorem k3 (J : JT R) (κ : KT R) (x0 x1 x2 : _) : S R κ J 3 (s3 x0 x1 x2) = t3 (q3 J) (K0 κ) x0 x1 x2 := by kernel_rfl
theorem k (κ : KT R) (k : Nat) (a0 : _) : runF (C R) Tryz.f151 10000 k [.str a0] κ = oc_Lower.e a0 (q3 (G R κ k)) (K0 κ) := by kernel_rfl
theorem g3 (κ : KT R) : ∀ (f : Nat), q3 (G R κ f) = L3 (K0 κ) f
 | 0 => rfl
 | f + 1 => by
  funext x0 x1 x2
  show S R κ (G R κ f) 3 _ = _
  rw [k3, g3 κ f]
  rfl
end
theorem Γ_does {R : Type} (tab : Tab) (ht : TabOk tab) (g : Nat) : Does (R := R) Tryz.prog (tabTy tyL) tab g ((C R).call g) := by
 refine does_of fun xs κ => ?_
 show DoesAt _ _ _ g xs κ (Γ R g xs κ)
 unfold Γ
 split
 ·exact DoesAt.none
theorem does {R : Type} (tab : Tab) (ht : TabOk tab) (a0 : _) (κ : KT R) : DoesAt Tryz.prog (tabTy tyL) tab 151 [.str a0] κ (oc_Lower a0 (K0 κ)) := doesAt_run (C := C R) (fn := Tryz.f151) tyOk (Γ_does tab ht) (by kernel_rfl) (by kernel_rfl) (by rw [k]; rw [g3 R κ fuelK]; rfl)
end oc_Lower
namespace oc_Same
abbrev K0 {R : Type} (κ : KT R) : Bool -> Option R := fun r0 => κ [.bool r0]
section
variable (R : Type) (c1 : oc_Lower.F R)
def Γ (g : Nat) (xs : List SV) (κ : KT R) : Option R :=
 match g with
 | 151 => (match xs with
  | [.str a0] => c1 a0 (oc_Lower.K0 κ)
  | _ => none)
 | _ => none
def h (n : Nat) : Option (List (Nat × List (Nat × Nat))) :=
 match n with
 | _ => none
def C : Cfg R := ⟨tabTy tyL, Γ R c1, fun _ => false, h, 0, fun _ => false⟩
theorem k (κ : KT R) (k : Nat) (a0 a1 : _) : runF (C R c1) Tryz.f111 10000 k [.str a0, .str a1] κ = oc_Same.e c1 a0 a1 (K0 κ) := by kernel_rfl
end
theorem Γ_does {R : Type} (tab : Tab) (ht : TabOk tab) (g : Nat) : Does (R := R) Tryz.prog (tabTy tyL) tab g ((C R oc_Lower).call g) := by
 refine does_of fun xs κ => ?_
 show DoesAt _ _ _ g xs κ (Γ R oc_Lower g xs κ)
 unfold Γ
 split
 ·split
  ·exact oc_Lower.does tab ht _ κ
  ·exact DoesAt.none
 ·exact DoesAt.none
theorem does {R : Type} (tab : Tab) (ht : TabOk tab) (a0 a1 : _) (κ : KT R) : DoesAt Tryz.prog (tabTy tyL) tab 111 [.str a0, .str a1] κ (oc_Same a0 a1 (K0 κ)) := doesAt_run (C := C R oc_Lower) (fn := Tryz.f111) tyOk (Γ_does tab ht) (by kernel_rfl) (by kernel_rfl) (by rw [k]; rfl)
end oc_Same
namespace le_Get
abbrev K0 {R : Type} (κ : KT R) : Bool -> BA -> Option R := fun r0 r1 => κ [.agg [.bool r0, .str r1]]
section
variable (R : Type) (c1 : oc_Same.F R)
def Γ (g : Nat) (xs : List SV) (κ : KT R) : Option R :=
 match g with
 | 111 => (match xs with
  | [.str a0, .str a1] => c1 a0 a1 (oc_Same.K0 κ)
  | _ => none)
 | _ => none
def h (n : Nat) : Option (List (Nat × List (Nat × Nat))) :=
 match n with
 | 2 => some [(1, [(0, 0)]), (4, [(0, 0)]), (7, [(0, 0)]), (8, [(0, 0)]), (9, [(0, 0)])]
 | _ => none
def C : Cfg R := ⟨tabTy tyL, Γ R c1, fun _ => false, h, 0, fun _ => false⟩
noncomputable def S := S0 (C R c1) Tryz.f120 0
noncomputable def G := G0 (C R c1) Tryz.f120 0
def s2 := fun x0 x1 x2 x3 x4 x5 => (⟨mkS 22 [(1, .str x0), (4, .ptr 383 0), (7, .ro 168 x1 false), (8, .int .i64 x2), (9, .int .i64 x3)], [(383, .var 26 [.bool x4, .str x5])], top⟩ : St)
noncomputable abbrev q2 {R : Type} (J : JT R) : J2 R := fun x0 x1 x2 x3 x4 x5 => J (placeOf Tryz.f120 2) (s2 x0 x1 x2 x3 x4 x5)
theorem k2 (J : JT R) (κ : KT R) (x0 x1 x2 x3 x4 x5 : _) : S R c1 κ J 2 (s2 x0 x1 x2 x3 x4 x5) = t2 c1 (q2 J) (K0 κ) x0 x1 x2 x3 x4 x5 := by kernel_rfl
theorem k (κ : KT R) (k : Nat) (a0 a1 : _) : runF (C R c1) Tryz.f120 10000 k [.ro 168 a0 false, .str a1] κ = le_Get.e c1 a0 a1 (q2 (G R c1 κ k)) (K0 κ) := by kernel_rfl
theorem g2 (κ : KT R) : ∀ (f : Nat), q2 (G R c1 κ f) = L2 c1 (K0 κ) f
 | 0 => rfl
 | f + 1 => by
  funext x0 x1 x2 x3 x4 x5
  show S R c1 κ (G R c1 κ f) 2 _ = _
  rw [k2, g2 κ f]
  rfl
end
theorem Γ_does {R : Type} (tab : Tab) (ht : TabOk tab) (g : Nat) : Does (R := R) Tryz.prog (tabTy tyL) tab g ((C R oc_Same).call g) := by
 refine does_of fun xs κ => ?_
 show DoesAt _ _ _ g xs κ (Γ R oc_Same g xs κ)
 unfold Γ
 split
 ·split
  ·exact oc_Same.does tab ht _ _ κ
  ·exact DoesAt.none
 ·exact DoesAt.none
theorem does {R : Type} (tab : Tab) (ht : TabOk tab) (a0 a1 : _) (κ : KT R) : DoesAt Tryz.prog (tabTy tyL) tab 120 [.ro 168 a0 false, .str a1] κ (le_Get a0 a1 (K0 κ)) := doesAt_run (C := C R oc_Same) (fn := Tryz.f120) tyOk (Γ_does tab ht) (by kernel_rfl) (by kernel_rfl) (by rw [k]; rw [g2 R oc_Same κ fuelK]; rfl)
end le_Get
namespace lm_value_next
abbrev K0 {R : Type} (κ : KT R) : Q0 R := fun r0 r1 r2 => κ [.int .u8 r0, .vp 177 [.str r1, .int .i64 r2]]
section
variable (R : Type)
def Γ (g : Nat) (xs : List SV) (κ : KT R) : Option R :=
 match g with
 | _ => none
def h (n : Nat) : Option (List (Nat × List (Nat × Nat))) :=
 match n with
 | _ => none
def C : Cfg R := ⟨tabTy tyL, Γ R, fun _ => false, h, 0, fun _ => false⟩
theorem k (κ : KT R) (k : Nat) (a0 a1 : _) : runF (C R) Tryz.f205 10000 k [.vp 177 [.str a0, .int .i64 a1]] κ = lm_value_next.e a0 a1 (K0 κ) := by kernel_rfl
end
theorem Γ_does {R : Type} (tab : Tab) (ht : TabOk tab) (g : Nat) : Does (R := R) Tryz.prog (tabTy tyL) tab g ((C R).call g) := by
 refine does_of fun xs κ => ?_
 show DoesAt _ _ _ g xs κ (Γ R g xs κ)
 unfold Γ
 split
 ·exact DoesAt.none
theorem does {R : Type} (tab : Tab) (ht : TabOk tab) (a0 a1 : _) (κ : KT R) : DoesAt Tryz.prog (tabTy tyL) tab 205 [.vp 177 [.str a0, .int .i64 a1]] κ (lm_value_next a0 a1 (K0 κ)) := doesAt_run (C := C R) (fn := Tryz.f205) tyOk (Γ_does tab ht) (by kernel_rfl) (by kernel_rfl) (by rw [k]; rfl)
end lm_value_next
namespace lm_value_comment
abbrev K0 {R : Type} (κ : KT R) : BA -> Int -> Option R := fun r0 r1 => κ [.tup [], .vp 177 [.str r0, .int .i64 r1]]
section
variable (R : Type)
def Γ (g : Nat) (xs : List SV) (κ : KT R) : Option R :=
 match g with
 | _ => none
def h (n : Nat) : Option (List (Nat × List (Nat × Nat))) :=
 match n with
 | 1 => some [(0, [(0, 0)]), (2, [(0, 0)])]
 | _ => none
def C : Cfg R := ⟨tabTy tyL, Γ R, fun _ => false, h, 0, fun _ => false⟩
noncomputable def S := S0 (C R) Tryz.f206 1
noncomputable def G := G0 (C R) Tryz.f206 1
def s1 := fun x0 x1 x2 => (⟨mkS 58 [(0, .ptr 0 0), (2, .int .i64 x0)], [(0, .var 177 [.str x1, .int .i64 x2])], top⟩ : St)
noncomputable abbrev q1 {R : Type} (J : JT R) : J1 R := fun x0 x1 x2 => J (placeOf Tryz.f206 1) (s1 x0 x1 x2)
theorem k1 (J : JT R) (κ : KT R) (x0 x1 x2 : _) : S R κ J 1 (s1 x0 x1 x2) = t1 (q1 J) (K0 κ) x0 x1 x2 := by kernel_rfl
theorem k (κ : KT R) (k : Nat) (a0 a1 : _) : runF (C R) Tryz.f206 10000 k [.vp 177 [.str a0, .int .i64 a1]] κ = lm_value_comment.e a0 a1 (q1 (G R κ k)) (K0 κ) := by kernel_rfl
theorem g1 (κ : KT R) : ∀ (f : Nat), q1 (G R κ f) = L1 (K0 κ) f
 | 0 => rfl
 | f + 1 => by
  funext x0 x1 x2
  show S R κ (G R κ f) 1 _ = _
  rw [k1, g1 κ f]
  rfl
end
theorem Γ_does {R : Type} (tab : Tab) (ht : TabOk tab) (g : Nat) : Does (R := R) Tryz.prog (tabTy tyL) tab g ((C R).call g) := by
 refine does_of fun xs κ => ?_
 show DoesAt _ _ _ g xs κ (Γ R g xs κ)
 unfold Γ
 split
 ·exact DoesAt.none
theorem does {R : Type} (tab : Tab) (ht : TabOk tab) (a0 a1 : _) (κ : KT R) : DoesAt Tryz.prog (tabTy tyL) tab 206 [.vp 177 [.str a0, .int .i64 a1]] κ (lm_value_comment a0 a1 (K0 κ)) := doesAt_run (C := C R) (fn := Tryz.f206) tyOk (Γ_does tab ht) (by kernel_rfl) (by kernel_rfl) (by rw [k]; rw [g1 R κ fuelK]; rfl)
end lm_value_comment
namespace lm_value_blanks
abbrev K0 {R : Type} (κ : KT R) : BA -> Int -> Option R := fun r0 r1 => κ [.tup [], .vp 177 [.str r0, .int .i64 r1]]
section
variable (R : Type) (c1 : lm_value_next.F R) (c2 : lm_value_comment.F R)
def Γ (g : Nat) (xs : List SV) (κ : KT R) : Option R :=
 match g with
 | 205 => (match xs with
  | [.vp 177 [.str a0, .int .i64 a1]] => c1 a0 a1 (lm_value_next.K0 κ)
  | _ => none)
 | 206 => (match xs with
  | [.vp 177 [.str a0, .int .i64 a1]] => c2 a0 a1 (lm_value_comment.K0 κ)
  | _ => none)
 | _ => none
def h (n : Nat) : Option (List (Nat × List (Nat × Nat))) :=
 match n with
 | 0 => some [(0, [(0, 0)])]
 | _ => none
def C : Cfg R := ⟨tabTy tyL, Γ R c1 c2, fun _ => false, h, 0, fun _ => false⟩
noncomputable def S := S0 (C R c1 c2) Tryz.f175 1
noncomputable def G := G0 (C R c1 c2) Tryz.f175 1
def s0 := fun x0 x1 => (⟨mkS 18 [(0, .ptr 0 0)], [(0, .var 177 [.str x0, .int .i64 x1])], top⟩ : St)
noncomputable abbrev q0 {R : Type} (J : JT R) : BA -> Int -> Option R := fun x0 x1 => J (placeOf Tryz.f175 0) (s0 x0 x1)
theorem k0 (J : JT R) (κ : KT R) (x0 x1 : _) : S R c1 c2 κ J 0 (s0 x0 x1) = t0 c1 c2 (q0 J) (K0 κ) x0 x1 := by kernel_rfl
theorem k (κ : KT R) (k : Nat) (a0 a1 : _) : runF (C R c1 c2) Tryz.f175 10000 k [.vp 177 [.str a0, .int .i64 a1]] κ = lm_value_blanks.e c1 c2 a0 a1 (q0 (G R c1 c2 κ k)) (K0 κ) := by kernel_rfl
theorem g0 (κ : KT R) : ∀ (f : Nat), q0 (G R c1 c2 κ f) = L0 c1 c2 (K0 κ) f
 | 0 => rfl
 | f + 1 => by
  funext x0 x1
  show S R c1 c2 κ (G R c1 c2 κ f) 0 _ = _
  rw [k0, g0 κ f]
  rfl
end
theorem Γ_does {R : Type} (tab : Tab) (ht : TabOk tab) (g : Nat) : Does (R := R) Tryz.prog (tabTy tyL) tab g ((C R lm_value_next lm_value_comment).call g) := by
 refine does_of fun xs κ => ?_
 show DoesAt _ _ _ g xs κ (Γ R lm_value_next lm_value_comment g xs κ)
 unfold Γ
 split
 ·split
  ·exact lm_value_next.does tab ht _ _ κ
  ·exact DoesAt.none
 ·split
  ·exact lm_value_comment.does tab ht _ _ κ
  ·exact DoesAt.none
 ·exact DoesAt.none
theorem does {R : Type} (tab : Tab) (ht : TabOk tab) (a0 a1 : _) (κ : KT R) : DoesAt Tryz.prog (tabTy tyL) tab 175 [.vp 177 [.str a0, .int .i64 a1]] κ (lm_value_blanks a0 a1 (K0 κ)) := doesAt_run (C := C R lm_value_next lm_value_comment) (fn := Tryz.f175) tyOk (Γ_does tab ht) (by kernel_rfl) (by kernel_rfl) (by rw [k]; rw [g0 R lm_value_next lm_value_comment κ fuelK]; rfl)
end lm_value_blanks
namespace u8_ValidRune
abbrev K0 {R : Type} (κ : KT R) : Bool -> Option R := fun r0 => κ [.bool r0]
section
variable (R : Type)
def Γ (g : Nat) (xs : List SV) (κ : KT R) : Option R :=
 match g with
 | _ => none
def h (n : Nat) : Option (List (Nat × List (Nat × Nat))) :=
 match n with
 | _ => none
def C : Cfg R := ⟨tabTy tyL, Γ R, fun _ => false, h, 0, fun _ => false⟩
theorem k (κ : KT R) (k : Nat) (a0 : _) : runF (C R) Tryz.f231 10000 k [.int .i32 a0] κ = u8_ValidRune.e a0 (K0 κ) := by kernel_rfl
end
theorem Γ_does {R : Type} (tab : Tab) (ht : TabOk tab) (g : Nat) : Does (R := R) Tryz.prog (tabTy tyL) tab g ((C R).call g) := by
 refine does_of fun xs κ => ?_
 show DoesAt _ _ _ g xs κ (Γ R g xs κ)
 unfold Γ
 split
 ·exact DoesAt.none
theorem does {R : Type} (tab : Tab) (ht : TabOk tab) (a0 : _) (κ : KT R) : DoesAt Tryz.prog (tabTy tyL) tab 231 [.int .i32 a0] κ (u8_ValidRune a0 (K0 κ)) := doesAt_run (C := C R) (fn := Tryz.f231) tyOk (Γ_does tab ht) (by kernel_rfl) (by kernel_rfl) (by rw [k]; rfl)
end u8_ValidRune
namespace by_Cutover
abbrev K0 {R : Type} (κ : KT R) : Int -> Option R := fun r0 => κ [.int .i64 r0]
section
variable (R : Type)
def Γ (g : Nat) (xs : List SV) (κ : KT R) : Option R :=
 match g with
 | _ => none
def h (n : Nat) : Option (List (Nat × List (Nat × Nat))) :=
 match n with
 | _ => none
def C : Cfg R := ⟨tabTy tyL, Γ R, fun _ => false, h, 0, fun _ => false⟩
theorem k (κ : KT R) (k : Nat) (a0 : _) : runF (C R) Tryz.f203 10000 k [.int .i64 a0] κ = by_Cutover.e a0 (K0 κ) := by kernel_rfl
end
theorem Γ_does {R : Type} (tab : Tab) (ht : TabOk tab) (g : Nat) : Does (R := R) Tryz.prog (tabTy tyL) tab g ((C R).call g) := by
 refine does_of fun xs κ => ?_
 show DoesAt _ _ _ g xs κ (Γ R g xs κ)
 unfold Γ
 split
 ·exact DoesAt.none
theorem does {R : Type} (tab : Tab) (ht : TabOk tab) (a0 : _) (κ : KT R) : DoesAt Tryz.prog (tabTy tyL) tab 203 [.int .i64 a0] κ (by_Cutover a0 (K0 κ)) := doesAt_run (C := C R) (fn := Tryz.f203) tyOk (Γ_does tab ht) (by kernel_rfl) (by kernel_rfl) (by rw [k]; rfl)
end by_Cutover
namespace st_IndexRune
abbrev K0 {R : Type} (κ : KT R) : Int -> Option R := fun r0 => κ [.int .i64 r0]
section
variable (R : Type) (c1 : st_IndexByte.F R) (c2 : u8_ValidRune.F R) (c3 : by_Cutover.F R)
def Γ (g : Nat) (xs : List SV) (κ : KT R) : Option R :=
 match g with
 | 123 => (match xs with
  | [.str a0, .int .u8 a1] => c1 a0 a1 (st_IndexByte.K0 κ)
  | _ => none)
 | 203 => (match xs with
  | [.int .i64 a0] => c3 a0 (by_Cutover.K0 κ)
  | _ => none)
 | 231 => (match xs with
  | [.int .i32 a0] => c2 a0 (u8_ValidRune.K0 κ)
  | _ => none)
 | _ => none
def h (n : Nat) : Option (List (Nat × List (Nat × Nat))) :=
 match n with
 | 5 => some [(0, [(0, 0)]), (1, [(0, 0)]), (7, [(0, 0)]), (8, [(0, 0)]), (9, [(0, 0)]), (10, [(0, 0)])]
 | 12 => some [(0, [(0, 0)]), (1, [(0, 0)]), (7, [(0, 0)]), (8, [(0, 0)]), (9, [(0, 0)]), (10, [(0, 0)]), (12, [(0, 0)])]
 | 38 => some [(175, [(0, 0)])]
 | _ => none
def C : Cfg R := ⟨tabTy tyL, Γ R c1 c2 c3, fun _ => false, h, 0, fun _ => false⟩
noncomputable def S := S0 (C R c1 c2 c3) Tryz.f216 0
noncomputable def G := G0 (C R c1 c2 c3) Tryz.f216 0
def s5 := fun x0 x1 x2 x3 x4 x5 => (⟨mkS 187 [(0, .str x0), (1, .int .i32 x1), (7, .str x2), (8, .int .i64 x3), (9, .int .i64 x4), (10, .int .i64 x5)], [], top⟩ : St)
def s12 := fun x0 x1 x2 x3 x4 x5 x6 => (⟨mkS 187 [(0, .str x0), (1, .int .i32 x1), (7, .str x2), (8, .int .i64 x3), (9, .int .i64 x4), (10, .int .i64 x5), (12, .int .i64 x6)], [], top⟩ : St)
def s38 := fun x0 x1 => (⟨mkS 187 [(175, .ptr 11327 0)], [(11327, .sit x0 x1)], top⟩ : St)
noncomputable abbrev q5 {R : Type} (J : JT R) : J5 R := fun x0 x1 x2 x3 x4 x5 => J (placeOf Tryz.f216 5) (s5 x0 x1 x2 x3 x4 x5)
noncomputable abbrev q12 {R : Type} (J : JT R) : J12 R := fun x0 x1 x2 x3 x4 x5 x6 => J (placeOf Tryz.f216 12) (s12 x0 x1 x2 x3 x4 x5 x6)
noncomputable abbrev q38 {R : Type} (J : JT R) : BA -> Nat -> Option R := fun x0 x1 => J (placeOf Tryz.f216 38) (s38 x0 x1)
theorem k5 (J : JT R) (κ : KT R) (x0 x1 x2 x3 x4 x5 : _) : S R c1 c2 c3 κ J 5 (s5 x0 x1 x2 x3 x4 x5) = t5 c1 (q12 J) (K0 κ) x0 x1 x2 x3 x4 x5 := by kernel_rfl
theorem k12 (J : JT R) (κ : KT R) (x0 x1 x2 x3 x4 x5 x6 : _) : S R c1 c2 c3 κ J 12 (s12 x0 x1 x2 x3 x4 x5 x6) = t12 c3 (q5 J) (q12 J) (K0 κ) x0 x1 x2 x3 x4 x5 x6 := by kernel_rfl
theorem k38 (J : JT R) (κ : KT R) (x0 x1 : _) : S R c1 c2 c3 κ J 38 (s38 x0 x1) = t38 (q38 J) (K0 κ) x0 x1 := by kernel_rfl
theorem k (κ : KT R) (k : Nat) (a0 a1 : _) : runF (C R c1 c2 c3) Tryz.f216 10000 k [.str a0, .int .i32 a1] κ = st_IndexRune.e c1 c2 c3 a0 a1 (q5 (G R c1 c2 c3 κ k)) (q12 (G R c1 c2 c3 κ k)) (q38 (G R c1 c2 c3 κ k)) (K0 κ) := by kernel_rfl
theorem gM5 (κ : KT R) : ∀ (f : Nat), (q5 (G R c1 c2 c3 κ f) = L5 c1 c2 c3 (K0 κ) f) /\ (q12 (G R c1 c2 c3 κ f) = L12 c1 c2 c3 (K0 κ) f)
 | 0 => ⟨rfl, rfl⟩
 | f + 1 => by
  obtain ⟨ih0, ih1⟩ := gM5 κ f
  refine ⟨?_, ?_⟩
  ·funext x0 x1 x2 x3 x4 x5
   show S R c1 c2 c3 κ (G R c1 c2 c3 κ f) 5 _ = _
   rw [k5, ih1]
   rfl
  ·funext x0 x1 x2 x3 x4 x5 x6
   show S R c1 c2 c3 κ (G R c1 c2 c3 κ f) 12 _ = _
   rw [k12, ih0, ih1]
   rfl
theorem g5 (κ : KT R) (f : Nat) : q5 (G R c1 c2 c3 κ f) = L5 c1 c2 c3 (K0 κ) f := (gM5 R c1 c2 c3 κ f).1
theorem g12 (κ : KT R) (f : Nat) : q12 (G R c1 c2 c3 κ f) = L12 c1 c2 c3 (K0 κ) f := (gM5 R c1 c2 c3 κ f).2
theorem g38 (κ : KT R) : ∀ (f : Nat), q38 (G R c1 c2 c3 κ f) = L38 c1 c2 c3 (K0 κ) f
 | 0 => rfl
 | f + 1 => by
  funext x0 x1
  show S R c1 c2 c3 κ (G R c1 c2 c3 κ f) 38 _ = _
  rw [k38, g38 κ f]
  rfl
end
theorem Γ_does {R : Type} (tab : Tab) (ht : TabOk tab) (g : Nat) : Does (R := R) Tryz.prog (tabTy tyL) tab g ((C R st_IndexByte u8_ValidRune by_Cutover).call g) := by
 refine does_of fun xs κ => ?_
 show DoesAt _ _ _ g xs κ (Γ R st_IndexByte u8_ValidRune by_Cutover g xs κ)
 unfold Γ
 split
 ·split
  ·exact st_IndexByte.does tab ht _ _ κ
  ·exact DoesAt.none
 ·split
  ·exact by_Cutover.does tab ht _ κ
  ·exact DoesAt.none
 ·split
  ·exact u8_ValidRune.does tab ht _ κ
  ·exact DoesAt.none
 ·exact DoesAt.none
theorem does {R : Type} (tab : Tab) (ht : TabOk tab) (a0 a1 : _) (κ : KT R) : DoesAt Tryz.prog (tabTy tyL) tab 216 [.str a0, .int .i32 a1] κ (st_IndexRune a0 a1 (K0 κ)) := doesAt_run (C := C R st_IndexByte u8_ValidRune by_Cutover) (fn := Tryz.f216) tyOk (Γ_does tab ht) (by kernel_rfl) (by kernel_rfl) (by rw [k]; rw [g5 R st_IndexByte u8_ValidRune by_Cutover κ fuelK, g12 R st_IndexByte u8_ValidRune by_Cutover κ fuelK, g38 R st_IndexByte u8_ValidRune by_Cutover κ fuelK]; rfl)
end st_IndexRune
namespace st_ContainsRune
abbrev K0 {R : Type} (κ : KT R) : Bool -> Option R := fun r0 => κ [.bool r0]
section
variable (R : Type) (c1 : st_IndexRune.F R)
def Γ (g : Nat) (xs : List SV) (κ : KT R) : Option R :=
 match g with
 | 216 => (match xs with
  | [.str a0, .int .i32 a1] => c1 a0 a1 (st_IndexRune.K0 κ)
  | _ => none)
 | _ => none
def h (n : Nat) : Option (List (Nat × List (Nat × Nat))) :=
 match n with
 | _ => none
def C : Cfg R := ⟨tabTy tyL, Γ R c1, fun _ => false, h, 0, fun _ => false⟩
theorem k (κ : KT R) (k : Nat) (a0 a1 : _) : runF (C R c1) Tryz.f194 10000 k [.str a0, .int .i32 a1] κ = st_ContainsRune.e c1 a0 a1 (K0 κ) := by kernel_rfl
end
theorem Γ_does {R : Type} (tab : Tab) (ht : TabOk tab) (g : Nat) : Does (R := R) Tryz.prog (tabTy tyL) tab g ((C R st_IndexRune).call g) := by
 refine does_of fun xs κ => ?_
 show DoesAt _ _ _ g xs κ (Γ R st_IndexRune g xs κ)
 unfold Γ
 split
 ·split
  ·exact st_IndexRune.does tab ht _ _ κ
  ·exact DoesAt.none
 ·exact DoesAt.none
theorem does {R : Type} (tab : Tab) (ht : TabOk tab) (a0 a1 : _) (κ : KT R) : DoesAt Tryz.prog (tabTy tyL) tab 194 [.str a0, .int .i32 a1] κ (st_ContainsRune a0 a1 (K0 κ)) := doesAt_run (C := C R st_IndexRune) (fn := Tryz.f194) tyOk (Γ_does tab ht) (by kernel_rfl) (by kernel_rfl) (by rw [k]; rfl)
end st_ContainsRune
namespace lm_value_token
abbrev K0 {R : Type} (κ : KT R) : Q0 R := fun r0 r1 r2 => κ [.str r0, .vp 177 [.str r1, .int .i64 r2]]
section
variable (R : Type) (c1 : st_ContainsRune.F R)
def Γ (g : Nat) (xs : List SV) (κ : KT R) : Option R :=
 match g with
 | 194 => (match xs with
  | [.str a0, .int .i32 a1] => c1 a0 a1 (st_ContainsRune.K0 κ)
  | _ => none)
 | _ => none
def h (n : Nat) : Option (List (Nat × List (Nat × Nat))) :=
 match n with
 | 2 => some [(0, [(0, 0)]), (3, [(0, 0)])]
 | _ => none
def C : Cfg R := ⟨tabTy tyL, Γ R c1, fun _ => false, h, 0, fun _ => false⟩
noncomputable def S := S0 (C R c1) Tryz.f176 1
noncomputable def G := G0 (C R c1) Tryz.f176 1
def s2 := fun x0 x1 x2 => (⟨mkS 73 [(0, .ptr 0 0), (3, .int .i64 x0)], [(0, .var 177 [.str x1, .int .i64 x2])], top⟩ : St)
noncomputable abbrev q2 {R : Type} (J : JT R) : J2 R := fun x0 x1 x2 => J (placeOf Tryz.f176 2) (s2 x0 x1 x2)
theorem k2 (J : JT R) (κ : KT R) (x0 x1 x2 : _) : S R c1 κ J 2 (s2 x0 x1 x2) = t2 c1 (q2 J) (K0 κ) x0 x1 x2 := by kernel_rfl
theorem k (κ : KT R) (k : Nat) (a0 a1 : _) : runF (C R c1) Tryz.f176 10000 k [.vp 177 [.str a0, .int .i64 a1]] κ = lm_value_token.e c1 a0 a1 (q2 (G R c1 κ k)) (K0 κ) := by kernel_rfl
theorem g2 (κ : KT R) : ∀ (f : Nat), q2 (G R c1 κ f) = L2 c1 (K0 κ) f
 | 0 => rfl
 | f + 1 => by
  funext x0 x1 x2
  show S R c1 κ (G R c1 κ f) 2 _ = _
  rw [k2, g2 κ f]
  rfl
end
theorem Γ_does {R : Type} (tab : Tab) (ht : TabOk tab) (g : Nat) : Does (R := R) Tryz.prog (tabTy tyL) tab g ((C R st_ContainsRune).call g) := by
 refine does_of fun xs κ => ?_
 show DoesAt _ _ _ g xs κ (Γ R st_ContainsRune g xs κ)
 unfold Γ
 split
 ·split
  ·exact st_ContainsRune.does tab ht _ _ κ
  ·exact DoesAt.none
 ·exact DoesAt.none
theorem does {R : Type} (tab : Tab) (ht : TabOk tab) (a0 a1 : _) (κ : KT R) : DoesAt Tryz.prog (tabTy tyL) tab 176 [.vp 177 [.str a0, .int .i64 a1]] κ (lm_value_token a0 a1 (K0 κ)) := doesAt_run (C := C R st_ContainsRune) (fn := Tryz.f176) tyOk (Γ_does tab ht) (by kernel_rfl) (by kernel_rfl) (by rw [k]; rw [g2 R st_ContainsRune κ fuelK]; rfl)
end lm_value_token
namespace lm_value_sign
abbrev K0 {R : Type} (κ : KT R) : Q0 R := fun r0 r1 r2 => κ [.bool r0, .vp 177 [.str r1, .int .i64 r2]]
section
variable (R : Type)
def Γ (g : Nat) (xs : List SV) (κ : KT R) : Option R :=
 match g with
 | _ => none
def h (n : Nat) : Option (List (Nat × List (Nat × Nat))) :=
 match n with
 | _ => none
def C : Cfg R := ⟨tabTy tyL, Γ R, fun _ => false, h, 0, fun _ => false⟩
theorem k (κ : KT R) (k : Nat) (a0 a1 a2 : _) : runF (C R) Tryz.f177 10000 k [.vp 177 [.str a0, .int .i64 a1], .int .u8 a2] κ = lm_value_sign.e a0 a1 a2 (K0 κ) := by kernel_rfl
end
theorem Γ_does {R : Type} (tab : Tab) (ht : TabOk tab) (g : Nat) : Does (R := R) Tryz.prog (tabTy tyL) tab g ((C R).call g) := by
 refine does_of fun xs κ => ?_
 show DoesAt _ _ _ g xs κ (Γ R g xs κ)
 unfold Γ
 split
 ·exact DoesAt.none
theorem does {R : Type} (tab : Tab) (ht : TabOk tab) (a0 a1 a2 : _) (κ : KT R) : DoesAt Tryz.prog (tabTy tyL) tab 177 [.vp 177 [.str a0, .int .i64 a1], .int .u8 a2] κ (lm_value_sign a0 a1 a2 (K0 κ)) := doesAt_run (C := C R) (fn := Tryz.f177) tyOk (Γ_does tab ht) (by kernel_rfl) (by kernel_rfl) (by rw [k]; rfl)
end lm_value_sign
namespace lm_value_kind
abbrev K0 {R : Type} (κ : KT R) : Q0 R := fun r0 r1 r2 r3 r4 => κ [.tup [.str r0, .str r1, .bool r2], .vp 177 [.str r3, .int .i64 r4]]
section
variable (R : Type) (c1 : lm_value_blanks.F R) (c2 : lm_value_token.F R) (c3 : oc_Lower.F R) (c4 : lm_value_sign.F R)
def Γ (g : Nat) (xs : List SV) (κ : KT R) : Option R :=
 match g with
 | 151 => (match xs with
  | [.str a0] => c3 a0 (oc_Lower.K0 κ)
  | _ => none)
 | 175 => (match xs with
  | [.vp 177 [.str a0, .int .i64 a1]] => c1 a0 a1 (lm_value_blanks.K0 κ)
  | _ => none)
 | 176 => (match xs with
  | [.vp 177 [.str a0, .int .i64 a1]] => c2 a0 a1 (lm_value_token.K0 κ)
  | _ => none)
 | 177 => (match xs with
  | [.vp 177 [.str a0, .int .i64 a1], .int .u8 a2] => c4 a0 a1 a2 (lm_value_sign.K0 κ)
  | _ => none)
 | _ => none
def h (n : Nat) : Option (List (Nat × List (Nat × Nat))) :=
 match n with
 | _ => none
def C : Cfg R := ⟨tabTy tyL, Γ R c1 c2 c3 c4, fun _ => false, h, 0, fun _ => false⟩
theorem k (κ : KT R) (k : Nat) (a0 a1 : _) : runF (C R c1 c2 c3 c4) Tryz.f129 10000 k [.vp 177 [.str a0, .int .i64 a1]] κ = lm_value_kind.e c1 c2 c3 c4 a0 a1 (K0 κ) := by kernel_rfl
end
theorem Γ_does {R : Type} (tab : Tab) (ht : TabOk tab) (g : Nat) : Does (R := R) Tryz.prog (tabTy tyL) tab g ((C R lm_value_blanks lm_value_token oc_Lower lm_value_sign).call g) := by
 refine does_of fun xs κ => ?_
 show DoesAt _ _ _ g xs κ (Γ R lm_value_blanks lm_value_token oc_Lower lm_value_sign g xs κ)
 unfold Γ
 split
 ·split
  ·exact oc_Lower.does tab ht _ κ
  ·exact DoesAt.none
 ·split
  ·exact lm_value_blanks.does tab ht _ _ κ
  ·exact DoesAt.none
 ·split
  ·exact lm_value_token.does tab ht _ _ κ
  ·exact DoesAt.none
 ·split
  ·exact lm_value_sign.does tab ht _ _ _ κ
  ·exact DoesAt.none
 ·exact DoesAt.none
theorem does {R : Type} (tab : Tab) (ht : TabOk tab) (a0 a1 : _) (κ : KT R) : DoesAt Tryz.prog (tabTy tyL) tab 129 [.vp 177 [.str a0, .int .i64 a1]] κ (lm_value_kind a0 a1 (K0 κ)) := doesAt_run (C := C R lm_value_blanks lm_value_token oc_Lower lm_value_sign) (fn := Tryz.f129) tyOk (Γ_does tab ht) (by kernel_rfl) (by kernel_rfl) (by rw [k]; rfl)
end lm_value_kind
namespace st_Builder_String
abbrev K0 {R : Type} (κ : KT R) : BA -> Option R := fun r0 => κ [.str r0, .vp 157 [.nos, .no]]
section
variable (R : Type)
def Γ (g : Nat) (xs : List SV) (κ : KT R) : Option R :=
 match g with
 | _ => none
def h (n : Nat) : Option (List (Nat × List (Nat × Nat))) :=
 match n with
 | _ => none
def C : Cfg R := ⟨tabTy tyL, Γ R, fun _ => false, h, 0, fun _ => false⟩
theorem k (κ : KT R) (k : Nat) (a0 : _) : runF (C R) Tryz.f114 10000 k [.vp 157 [.nos, .fr 5 a0 true]] κ = st_Builder_String.e a0 (K0 κ) := by kernel_rfl
end
theorem Γ_does {R : Type} (tab : Tab) (ht : TabOk tab) (g : Nat) : Does (R := R) Tryz.prog (tabTy tyL) tab g ((C R).call g) := by
 refine does_of fun xs κ => ?_
 show DoesAt _ _ _ g xs κ (Γ R g xs κ)
 unfold Γ
 split
 ·exact DoesAt.none
theorem does {R : Type} (tab : Tab) (ht : TabOk tab) (a0 : _) (κ : KT R) : DoesAt Tryz.prog (tabTy tyL) tab 114 [.vp 157 [.nos, .fr 5 a0 true]] κ (st_Builder_String a0 (K0 κ)) := doesAt_run (C := C R) (fn := Tryz.f114) tyOk (Γ_does tab ht) (by kernel_rfl) (by kernel_rfl) (by rw [k]; rfl)
end st_Builder_String
theorem st_Builder_copyCheck.does {R : Type} (tab : Tab) (ht : TabOk tab) (a0 : LA) (κ : List SV -> Option R) : DoesAt Tryz.prog (tabTy tyL) tab 152 [.vp 157 [.nos, .fr 5 a0 true]] κ (st_Builder_copyCheck a0 (fun r0 => κ [.tup [], .vp 157 [.nos, .fr 5 r0 true]])) :=
 copyCheck_does Tryz.call152 cc_used cc_fresh (.fr _ _) κ
namespace st_Builder_WriteByte
abbrev K0 {R : Type} (κ : KT R) : LA -> Option R := fun r0 => κ [.nili, .vp 157 [.nos, .fr 5 r0 true]]
section
variable (R : Type) (c1 : st_Builder_copyCheck.F R)
def Γ (g : Nat) (xs : List SV) (κ : KT R) : Option R :=
 match g with
 | 152 => (match xs with
  | [.vp 157 [.nos, .fr 5 a0 true]] => c1 a0 (fun r0 => κ [.tup [], .vp 157 [.nos, .fr 5 r0 true]])
  | _ => none)
 | _ => none
def h (n : Nat) : Option (List (Nat × List (Nat × Nat))) :=
 match n with
 | _ => none
def C : Cfg R := ⟨tabTy tyL, Γ R c1, fun _ => false, h, 0, fun _ => false⟩
theorem k (κ : KT R) (k : Nat) (a0 a1 : _) : runF (C R c1) Tryz.f190 10000 k [.vp 157 [.nos, .fr 5 a0 true], .int .u8 a1] κ = st_Builder_WriteByte.e c1 a0 a1 (K0 κ) := by kernel_rfl
end
theorem Γ_does {R : Type} (tab : Tab) (ht : TabOk tab) (g : Nat) : Does (R := R) Tryz.prog (tabTy tyL) tab g ((C R st_Builder_copyCheck).call g) := by
 refine does_of fun xs κ => ?_
 show DoesAt _ _ _ g xs κ (Γ R st_Builder_copyCheck g xs κ)
 unfold Γ
 split
 ·split
  ·exact st_Builder_copyCheck.does tab ht _ κ
  ·exact DoesAt.none
 ·exact DoesAt.none
theorem does {R : Type} (tab : Tab) (ht : TabOk tab) (a0 a1 : _) (κ : KT R) : DoesAt Tryz.prog (tabTy tyL) tab 190 [.vp 157 [.nos, .fr 5 a0 true], .int .u8 a1] κ (st_Builder_WriteByte a0 a1 (K0 κ)) := doesAt_run (C := C R st_Builder_copyCheck) (fn := Tryz.f190) tyOk (Γ_does tab ht) (by kernel_rfl) (by kernel_rfl) (by rw [k]; rfl)
end st_Builder_WriteByte
namespace lm_value_word
abbrev K0 {R : Type} (κ : KT R) : Q0 R := fun r0 r1 r2 r3 => κ [.tup [.str r0, .bool r1], .vp 177 [.str r2, .int .i64 r3]]
section
variable (R : Type) (c1 : lm_value_sign.F R) (c2 : lm_value_token.F R) (c3 : st_Builder_String.F R) (c4 : st_Builder_WriteByte.F R)
def Γ (g : Nat) (xs : List SV) (κ : KT R) : Option R :=
 match g with
 | 114 => (match xs with
  | [.vp 157 [.nos, .fr 5 a0 true]] => c3 a0 (st_Builder_String.K0 κ)
  | _ => none)
 | 176 => (match xs with
  | [.vp 177 [.str a0, .int .i64 a1]] => c2 a0 a1 (lm_value_token.K0 κ)
  | _ => none)
 | 177 => (match xs with
  | [.vp 177 [.str a0, .int .i64 a1], .int .u8 a2] => c1 a0 a1 a2 (lm_value_sign.K0 κ)
  | _ => none)
 | 190 => (match xs with
  | [.vp 157 [.nos, .fr 5 a0 true], .int .u8 a1] => c4 a0 a1 (st_Builder_WriteByte.K0 κ)
  | _ => none)
 | _ => none
def h (n : Nat) : Option (List (Nat × List (Nat × Nat))) :=
 match n with
 | 5 => some [(0, [(0, 0)]), (5, [(1, 7)])]
 | _ => none
def C : Cfg R := ⟨tabTy tyL, Γ R c1 c2 c3 c4, fun _ => false, h, 0, fun _ => false⟩
noncomputable def S := S0 (C R c1 c2 c3 c4) Tryz.f207 1
noncomputable def G := G0 (C R c1 c2 c3 c4) Tryz.f207 1
def s5 := fun x0 x1 x2 => (⟨mkS 78 [(0, .ptr 0 0), (5, .ptr 447 0)], [(0, .var 177 [.str x0, .int .i64 x1]), (447, .var 157 [.nos, .own 385]), (385, .row 5 x2 true)], top⟩ : St)
noncomputable abbrev q5 {R : Type} (J : JT R) : J5 R := fun x0 x1 x2 => J (placeOf Tryz.f207 5) (s5 x0 x1 x2)
theorem k5 (J : JT R) (κ : KT R) (x0 x1 x2 : _) : S R c1 c2 c3 c4 κ J 5 (s5 x0 x1 x2) = t5 c3 c4 (q5 J) (K0 κ) x0 x1 x2 := by kernel_rfl
theorem k (κ : KT R) (k : Nat) (a0 a1 : _) : runF (C R c1 c2 c3 c4) Tryz.f207 10000 k [.vp 177 [.str a0, .int .i64 a1]] κ = lm_value_word.e c1 c2 c3 c4 a0 a1 (q5 (G R c1 c2 c3 c4 κ k)) (K0 κ) := by kernel_rfl
theorem g5 (κ : KT R) : ∀ (f : Nat), q5 (G R c1 c2 c3 c4 κ f) = L5 c1 c2 c3 c4 (K0 κ) f
 | 0 => rfl
 | f + 1 => by
  funext x0 x1 x2
  show S R c1 c2 c3 c4 κ (G R c1 c2 c3 c4 κ f) 5 _ = _
  rw [k5, g5 κ f]
  rfl
end
theorem Γ_does {R : Type} (tab : Tab) (ht : TabOk tab) (g : Nat) : Does (R := R) Tryz.prog (tabTy tyL) tab g ((C R lm_value_sign lm_value_token st_Builder_String st_Builder_WriteByte).call g) := by
 refine does_of fun xs κ => ?_
 show DoesAt _ _ _ g xs κ (Γ R lm_value_sign lm_value_token st_Builder_String st_Builder_WriteByte g xs κ)
 unfold Γ
 split
 ·split
  ·exact st_Builder_String.does tab ht _ κ
  ·exact DoesAt.none
 ·split
  ·exact lm_value_token.does tab ht _ _ κ
  ·exact DoesAt.none
 ·split
  ·exact lm_value_sign.does tab ht _ _ _ κ
  ·exact DoesAt.none
 ·split
  ·exact st_Builder_WriteByte.does tab ht _ _ κ
  ·exact DoesAt.none
 ·exact DoesAt.none
theorem does {R : Type} (tab : Tab) (ht : TabOk tab) (a0 a1 : _) (κ : KT R) : DoesAt Tryz.prog (tabTy tyL) tab 207 [.vp 177 [.str a0, .int .i64 a1]] κ (lm_value_word a0 a1 (K0 κ)) := doesAt_run (C := C R lm_value_sign lm_value_token st_Builder_String st_Builder_WriteByte) (fn := Tryz.f207) tyOk (Γ_does tab ht) (by kernel_rfl) (by kernel_rfl) (by rw [k]; rw [g5 R lm_value_sign lm_value_token st_Builder_String st_Builder_WriteByte κ fuelK]; rfl)
end lm_value_word
namespace lm_value_param
abbrev K0 {R : Type} (κ : KT R) : Q0 R := fun r0 r1 r2 r3 r4 => κ [.tup [.agg [.str r0, .str r1], .bool r2], .vp 177 [.str r3, .int .i64 r4]]
section
variable (R : Type) (c1 : lm_value_blanks.F R) (c2 : lm_value_sign.F R) (c3 : lm_value_token.F R) (c4 : oc_Lower.F R) (c5 : lm_value_word.F R)
def Γ (g : Nat) (xs : List SV) (κ : KT R) : Option R :=
 match g with
 | 151 => (match xs with
  | [.str a0] => c4 a0 (oc_Lower.K0 κ)
  | _ => none)
 | 175 => (match xs with
  | [.vp 177 [.str a0, .int .i64 a1]] => c1 a0 a1 (lm_value_blanks.K0 κ)
  | _ => none)
 | 176 => (match xs with
  | [.vp 177 [.str a0, .int .i64 a1]] => c3 a0 a1 (lm_value_token.K0 κ)
  | _ => none)
 | 177 => (match xs with
  | [.vp 177 [.str a0, .int .i64 a1], .int .u8 a2] => c2 a0 a1 a2 (lm_value_sign.K0 κ)
  | _ => none)
 | 207 => (match xs with
  | [.vp 177 [.str a0, .int .i64 a1]] => c5 a0 a1 (lm_value_word.K0 κ)
  | _ => none)
 | _ => none
def h (n : Nat) : Option (List (Nat × List (Nat × Nat))) :=
 match n with
 | _ => none
def C : Cfg R := ⟨tabTy tyL, Γ R c1 c2 c3 c4 c5, fun _ => false, h, 0, fun _ => false⟩
theorem k (κ : KT R) (k : Nat) (a0 a1 : _) : runF (C R c1 c2 c3 c4 c5) Tryz.f178 10000 k [.vp 177 [.str a0, .int .i64 a1]] κ = lm_value_param.e c1 c2 c3 c4 c5 a0 a1 (K0 κ) := by kernel_rfl
end
theorem Γ_does {R : Type} (tab : Tab) (ht : TabOk tab) (g : Nat) : Does (R := R) Tryz.prog (tabTy tyL) tab g ((C R lm_value_blanks lm_value_sign lm_value_token oc_Lower lm_value_word).call g) := by
 refine does_of fun xs κ => ?_
 show DoesAt _ _ _ g xs κ (Γ R lm_value_blanks lm_value_sign lm_value_token oc_Lower lm_value_word g xs κ)
 unfold Γ
 split
 ·split
  ·exact oc_Lower.does tab ht _ κ
  ·exact DoesAt.none
 ·split
  ·exact lm_value_blanks.does tab ht _ _ κ
  ·exact DoesAt.none
 ·split
  ·exact lm_value_token.does tab ht _ _ κ
  ·exact DoesAt.none
 ·split
  ·exact lm_value_sign.does tab ht _ _ _ κ
  ·exact DoesAt.none
 ·split
  ·exact lm_value_word.does tab ht _ _ κ
  ·exact DoesAt.none
 ·exact DoesAt.none
theorem does {R : Type} (tab : Tab) (ht : TabOk tab) (a0 a1 : _) (κ : KT R) : DoesAt Tryz.prog (tabTy tyL) tab 178 [.vp 177 [.str a0, .int .i64 a1]] κ (lm_value_param a0 a1 (K0 κ)) := doesAt_run (C := C R lm_value_blanks lm_value_sign lm_value_token oc_Lower lm_value_word) (fn := Tryz.f178) tyOk (Γ_does tab ht) (by kernel_rfl) (by kernel_rfl) (by rw [k]; rfl)
end lm_value_param
namespace lm_value_params
abbrev K0 {R : Type} (κ : KT R) : Q0 R := fun r0 r1 r2 => κ [.fr 129 r0 true, .vp 177 [.str r1, .int .i64 r2]]
section
variable (R : Type) (c1 : lm_value_param.F R)
def Γ (g : Nat) (xs : List SV) (κ : KT R) : Option R :=
 match g with
 | 178 => (match xs with
  | [.vp 177 [.str a0, .int .i64 a1]] => c1 a0 a1 (lm_value_param.K0 κ)
  | _ => none)
 | _ => none
def h (n : Nat) : Option (List (Nat × List (Nat × Nat))) :=
 match n with
 | 3 => some [(0, [(0, 0)]), (3, [(0, 131)]), (4, [(0, 0)])]
 | _ => none
def C : Cfg R := ⟨tabTy tyL, Γ R c1, fun _ => false, h, 0, fun _ => false⟩
noncomputable def S := S0 (C R c1) Tryz.f130 1
noncomputable def G := G0 (C R c1) Tryz.f130 1
def s3 := fun x0 x1 x2 x3 => (⟨mkS 33 [(0, .ptr 0 0), (3, .own 256), (4, .mp 381)], [(0, .var 177 [.str x0, .int .i64 x1]), (256, .row 129 x2 true), (381, .mp (.str) (.int .i64) x3)], top⟩ : St)
noncomputable abbrev q3 {R : Type} (J : JT R) : J3 R := fun x0 x1 x2 x3 => J (placeOf Tryz.f130 3) (s3 x0 x1 x2 x3)
theorem k3 (J : JT R) (κ : KT R) (x0 x1 x2 x3 : _) : S R c1 κ J 3 (s3 x0 x1 x2 x3) = t3 c1 (q3 J) (K0 κ) x0 x1 x2 x3 := by kernel_rfl
theorem k (κ : KT R) (k : Nat) (a0 a1 : _) : runF (C R c1) Tryz.f130 10000 k [.vp 177 [.str a0, .int .i64 a1]] κ = lm_value_params.e c1 a0 a1 (q3 (G R c1 κ k)) (K0 κ) := by kernel_rfl
theorem g3 (κ : KT R) : ∀ (f : Nat), q3 (G R c1 κ f) = L3 c1 (K0 κ) f
 | 0 => rfl
 | f + 1 => by
  funext x0 x1 x2 x3
  show S R c1 κ (G R c1 κ f) 3 _ = _
  rw [k3, g3 κ f]
  rfl
end
theorem Γ_does {R : Type} (tab : Tab) (ht : TabOk tab) (g : Nat) : Does (R := R) Tryz.prog (tabTy tyL) tab g ((C R lm_value_param).call g) := by
 refine does_of fun xs κ => ?_
 show DoesAt _ _ _ g xs κ (Γ R lm_value_param g xs κ)
 unfold Γ
 split
 ·split
  ·exact lm_value_param.does tab ht _ _ κ
  ·exact DoesAt.none
 ·exact DoesAt.none
theorem does {R : Type} (tab : Tab) (ht : TabOk tab) (a0 a1 : _) (κ : KT R) : DoesAt Tryz.prog (tabTy tyL) tab 130 [.vp 177 [.str a0, .int .i64 a1]] κ (lm_value_params a0 a1 (K0 κ)) := doesAt_run (C := C R lm_value_param) (fn := Tryz.f130) tyOk (Γ_does tab ht) (by kernel_rfl) (by kernel_rfl) (by rw [k]; rw [g3 R lm_value_param κ fuelK]; rfl)
end lm_value_params
namespace lm_value_first
abbrev K0 {R : Type} (κ : KT R) : Q0 R := fun r0 r1 r2 r3 => κ [.agg [.bool r0, .str r1], .vp 177 [.str r2, .int .i64 r3]]
section
variable (R : Type) (c1 : lm_value_blanks.F R) (c2 : lm_value_token.F R) (c3 : oc_Lower.F R)
def Γ (g : Nat) (xs : List SV) (κ : KT R) : Option R :=
 match g with
 | 151 => (match xs with
  | [.str a0] => c3 a0 (oc_Lower.K0 κ)
  | _ => none)
 | 175 => (match xs with
  | [.vp 177 [.str a0, .int .i64 a1]] => c1 a0 a1 (lm_value_blanks.K0 κ)
  | _ => none)
 | 176 => (match xs with
  | [.vp 177 [.str a0, .int .i64 a1]] => c2 a0 a1 (lm_value_token.K0 κ)
  | _ => none)
 | _ => none
def h (n : Nat) : Option (List (Nat × List (Nat × Nat))) :=
 match n with
 | _ => none
def C : Cfg R := ⟨tabTy tyL, Γ R c1 c2 c3, fun _ => false, h, 0, fun _ => false⟩
theorem k (κ : KT R) (k : Nat) (a0 a1 : _) : runF (C R c1 c2 c3) Tryz.f131 10000 k [.vp 177 [.str a0, .int .i64 a1]] κ = lm_value_first.e c1 c2 c3 a0 a1 (K0 κ) := by kernel_rfl
end
theorem Γ_does {R : Type} (tab : Tab) (ht : TabOk tab) (g : Nat) : Does (R := R) Tryz.prog (tabTy tyL) tab g ((C R lm_value_blanks lm_value_token oc_Lower).call g) := by
 refine does_of fun xs κ => ?_
 show DoesAt _ _ _ g xs κ (Γ R lm_value_blanks lm_value_token oc_Lower g xs κ)
 unfold Γ
 split
 ·split
  ·exact oc_Lower.does tab ht _ κ
  ·exact DoesAt.none
 ·split
  ·exact lm_value_blanks.does tab ht _ _ κ
  ·exact DoesAt.none
 ·split
  ·exact lm_value_token.does tab ht _ _ κ
  ·exact DoesAt.none
 ·exact DoesAt.none
theorem does {R : Type} (tab : Tab) (ht : TabOk tab) (a0 a1 : _) (κ : KT R) : DoesAt Tryz.prog (tabTy tyL) tab 131 [.vp 177 [.str a0, .int .i64 a1]] κ (lm_value_first a0 a1 (K0 κ)) := doesAt_run (C := C R lm_value_blanks lm_value_token oc_Lower) (fn := Tryz.f131) tyOk (Γ_does tab ht) (by kernel_rfl) (by kernel_rfl) (by rw [k]; rfl)
end lm_value_first
namespace lm_bare
abbrev K0 {R : Type} (κ : KT R) : Bool -> BA -> Option R := fun r0 r1 => κ [.agg [.bool r0, .str r1]]
section
variable (R : Type) (c1 : le_Get.F R) (c2 : st_Trim.F R)
def Γ (g : Nat) (xs : List SV) (κ : KT R) : Option R :=
 match g with
 | 120 => (match xs with
  | [.ro 168 a0 false, .str a1] => c1 a0 a1 (le_Get.K0 κ)
  | _ => none)
 | 124 => (match xs with
  | [.str a0, .str a1] => c2 a0 a1 (st_Trim.K0 κ)
  | _ => none)
 | _ => none
def h (n : Nat) : Option (List (Nat × List (Nat × Nat))) :=
 match n with
 | _ => none
def C : Cfg R := ⟨tabTy tyL, Γ R c1 c2, fun _ => false, h, 0, fun _ => false⟩
theorem k (κ : KT R) (k : Nat) (a0 a1 : _) : runF (C R c1 c2) Tryz.f132 10000 k [.ro 168 a0 false, .str a1] κ = lm_bare.e c1 c2 a0 a1 (K0 κ) := by kernel_rfl
end
theorem Γ_does {R : Type} (tab : Tab) (ht : TabOk tab) (g : Nat) : Does (R := R) Tryz.prog (tabTy tyL) tab g ((C R le_Get st_Trim).call g) := by
 refine does_of fun xs κ => ?_
 show DoesAt _ _ _ g xs κ (Γ R le_Get st_Trim g xs κ)
 unfold Γ
 split
 ·split
  ·exact le_Get.does tab ht _ _ κ
  ·exact DoesAt.none
 ·split
  ·exact st_Trim.does tab ht _ _ κ
  ·exact DoesAt.none
 ·exact DoesAt.none
theorem does {R : Type} (tab : Tab) (ht : TabOk tab) (a0 a1 : _) (κ : KT R) : DoesAt Tryz.prog (tabTy tyL) tab 132 [.ro 168 a0 false, .str a1] κ (lm_bare a0 a1 (K0 κ)) := doesAt_run (C := C R le_Get st_Trim) (fn := Tryz.f132) tyOk (Γ_does tab ht) (by kernel_rfl) (by kernel_rfl) (by rw [k]; rfl)
end lm_bare
namespace lm_value_langs
abbrev K0 {R : Type} (κ : KT R) : Q0 R := fun r0 r1 r2 => κ [.ro 9 r0 true, .vp 177 [.str r1, .int .i64 r2]]
section
variable (R : Type) (c1 : lm_value_first.F R) (c2 : lm_value_blanks.F R) (c3 : lm_value_sign.F R)
def Γ (g : Nat) (xs : List SV) (κ : KT R) : Option R :=
 match g with
 | 131 => (match xs with
  | [.vp 177 [.str a0, .int .i64 a1]] => c1 a0 a1 (lm_value_first.K0 κ)
  | _ => none)
 | 175 => (match xs with
  | [.vp 177 [.str a0, .int .i64 a1]] => c2 a0 a1 (lm_value_blanks.K0 κ)
  | _ => none)
 | 177 => (match xs with
  | [.vp 177 [.str a0, .int .i64 a1], .int .u8 a2] => c3 a0 a1 a2 (lm_value_sign.K0 κ)
  | _ => none)
 | _ => none
def h (n : Nat) : Option (List (Nat × List (Nat × Nat))) :=
 match n with
 | 2 => some [(0, [(0, 0)]), (3, [(0, 11)])]
 | 8 => some [(0, [(0, 0)]), (3, [(0, 1)])]
 | _ => none
def C : Cfg R := ⟨tabTy tyL, Γ R c1 c2 c3, fun _ => false, h, 0, fun _ => false⟩
noncomputable def S := S0 (C R c1 c2 c3) Tryz.f133 1
noncomputable def G := G0 (C R c1 c2 c3) Tryz.f133 1
def s2 := fun x0 x1 x2 => (⟨mkS 24 [(0, .ptr 0 0), (3, .own 256)], [(0, .var 177 [.str x0, .int .i64 x1]), (256, .row 9 x2 true)], top⟩ : St)
def s8 := fun x0 x1 x2 => (⟨mkS 24 [(0, .ptr 0 0), (3, .ro 9 x0 true)], [(0, .var 177 [.str x1, .int .i64 x2])], top⟩ : St)
noncomputable abbrev q2 {R : Type} (J : JT R) : J2 R := fun x0 x1 x2 => J (placeOf Tryz.f133 2) (s2 x0 x1 x2)
noncomputable abbrev q8 {R : Type} (J : JT R) : J8 R := fun x0 x1 x2 => J (placeOf Tryz.f133 8) (s8 x0 x1 x2)
theorem k2 (J : JT R) (κ : KT R) (x0 x1 x2 : _) : S R c1 c2 c3 κ J 2 (s2 x0 x1 x2) = t2 c1 c2 c3 (q2 J) (q8 J) x0 x1 x2 := by kernel_rfl
theorem k8 (J : JT R) (κ : KT R) (x0 x1 x2 : _) : S R c1 c2 c3 κ J 8 (s8 x0 x1 x2) = t8 (K0 κ) x0 x1 x2 := by kernel_rfl
theorem k (κ : KT R) (k : Nat) (a0 a1 : _) : runF (C R c1 c2 c3) Tryz.f133 10000 k [.vp 177 [.str a0, .int .i64 a1]] κ = lm_value_langs.e c1 c2 c3 a0 a1 (q2 (G R c1 c2 c3 κ k)) (q8 (G R c1 c2 c3 κ k)) (K0 κ) := by kernel_rfl
theorem g8 (κ : KT R) : ∀ (f : Nat), q8 (G R c1 c2 c3 κ f) = L8 c1 c2 c3 (K0 κ) f
 | 0 => rfl
 | f + 1 => by
  funext x0 x1 x2
  show S R c1 c2 c3 κ (G R c1 c2 c3 κ f) 8 _ = _
  rw [k8]
  rfl
theorem g2 (κ : KT R) : ∀ (f : Nat), q2 (G R c1 c2 c3 κ f) = L2 c1 c2 c3 (K0 κ) f
 | 0 => rfl
 | f + 1 => by
  funext x0 x1 x2
  show S R c1 c2 c3 κ (G R c1 c2 c3 κ f) 2 _ = _
  rw [k2, g2 κ f, g8 R c1 c2 c3 κ f]
  rfl
end
theorem Γ_does {R : Type} (tab : Tab) (ht : TabOk tab) (g : Nat) : Does (R := R) Tryz.prog (tabTy tyL) tab g ((C R lm_value_first lm_value_blanks lm_value_sign).call g) := by
 refine does_of fun xs κ => ?_
 show DoesAt _ _ _ g xs κ (Γ R lm_value_first lm_value_blanks lm_value_sign g xs κ)
 unfold Γ
 split
 ·split
  ·exact lm_value_first.does tab ht _ _ κ
  ·exact DoesAt.none
 ·split
  ·exact lm_value_blanks.does tab ht _ _ κ
  ·exact DoesAt.none
 ·split
  ·exact lm_value_sign.does tab ht _ _ _ κ
  ·exact DoesAt.none
 ·exact DoesAt.none
theorem does {R : Type} (tab : Tab) (ht : TabOk tab) (a0 a1 : _) (κ : KT R) : DoesAt Tryz.prog (tabTy tyL) tab 133 [.vp 177 [.str a0, .int .i64 a1]] κ (lm_value_langs a0 a1 (K0 κ)) := doesAt_run (C := C R lm_value_first lm_value_blanks lm_value_sign) (fn := Tryz.f133) tyOk (Γ_does tab ht) (by kernel_rfl) (by kernel_rfl) (by rw [k]; rw [g2 R lm_value_first lm_value_blanks lm_value_sign κ fuelK, g8 R lm_value_first lm_value_blanks lm_value_sign κ fuelK]; rfl)
end lm_value_langs
namespace lm_says
abbrev K0 {R : Type} (κ : KT R) : Q0 R := fun r0 r1 r2 r3 r4 r5 r6 r7 r8 r9 r10 r11 r12 r13 r14 r15 r16 r17 r18 r19 r20 => κ [.tup [], .vp 32 [.str r0, .str r1, .str r2, .ro 129 r3 true, .bool r4, .str r5, .bool r6, .str r7, .bool r8, .str r9, .bool r10, .str r11, .ro 129 r12 true, .ro 9 r13 true, .bool r14, .str r15, .int .i64 r16, .int .i64 r17, .int .i64 r18, .int .i64 r19, .int .i64 r20, .nil]]
section
variable (R : Type) (c1 : le_Get.F R) (c2 : lm_value_kind.F R) (c3 : lm_value_params.F R) (c4 : lm_value_first.F R) (c5 : lm_bare.F R) (c6 : lm_value_langs.F R)
def Γ (g : Nat) (xs : List SV) (κ : KT R) : Option R :=
 match g with
 | 120 => (match xs with
  | [.ro 168 a0 false, .str a1] => c1 a0 a1 (le_Get.K0 κ)
  | _ => none)
 | 129 => (match xs with
  | [.vp 177 [.str a0, .int .i64 a1]] => c2 a0 a1 (lm_value_kind.K0 κ)
  | _ => none)
 | 130 => (match xs with
  | [.vp 177 [.str a0, .int .i64 a1]] => c3 a0 a1 (lm_value_params.K0 κ)
  | _ => none)
 | 131 => (match xs with
  | [.vp 177 [.str a0, .int .i64 a1]] => c4 a0 a1 (lm_value_first.K0 κ)
  | _ => none)
 | 132 => (match xs with
  | [.ro 168 a0 false, .str a1] => c5 a0 a1 (lm_bare.K0 κ)
  | _ => none)
 | 133 => (match xs with
  | [.vp 177 [.str a0, .int .i64 a1]] => c6 a0 a1 (lm_value_langs.K0 κ)
  | _ => none)
 | _ => none
def h (n : Nat) : Option (List (Nat × List (Nat × Nat))) :=
 match n with
 | 15 => some [(0, [(3, 131), (3, 1), (12, 131), (12, 1), (13, 11), (13, 1)]), (1, [(0, 0)])]
 | _ => none
def C : Cfg R := ⟨tabTy tyL, Γ R c1 c2 c3 c4 c5 c6, fun _ => false, h, 0, fun _ => false⟩
noncomputable def S := S0 (C R c1 c2 c3 c4 c5 c6) Tryz.f90 1
noncomputable def G := G0 (C R c1 c2 c3 c4 c5 c6) Tryz.f90 1
def s15 := fun x0 x1 x2 x3 x4 x5 x6 x7 x8 x9 x10 x11 x12 x13 x14 x15 x16 x17 x18 x19 x20 x21 => (⟨mkS 108 [(0, .ptr 0 0), (1, .ro 168 x0 false)], [(0, .var 32 [.str x1, .str x2, .str x3, .ro 129 x4 true, .bool x5, .str x6, .bool x7, .str x8, .bool x9, .str x10, .bool x11, .str x12, .ro 129 x13 true, .ro 9 x14 true, .bool x15, .str x16, .int .i64 x17, .int .i64 x18, .int .i64 x19, .int .i64 x20, .int .i64 x21, .nil])], top⟩ : St)
noncomputable abbrev q15 {R : Type} (J : JT R) : J15 R := fun x0 x1 x2 x3 x4 x5 x6 x7 x8 x9 x10 x11 x12 x13 x14 x15 x16 x17 x18 x19 x20 x21 => J (placeOf Tryz.f90 15) (s15 x0 x1 x2 x3 x4 x5 x6 x7 x8 x9 x10 x11 x12 x13 x14 x15 x16 x17 x18 x19 x20 x21)
theorem k15 (J : JT R) (κ : KT R) (x0 x1 x2 x3 x4 x5 x6 x7 x8 x9 x10 x11 x12 x13 x14 x15 x16 x17 x18 x19 x20 x21 : _) : S R c1 c2 c3 c4 c5 c6 κ J 15 (s15 x0 x1 x2 x3 x4 x5 x6 x7 x8 x9 x10 x11 x12 x13 x14 x15 x16 x17 x18 x19 x20 x21) = t15 c1 c6 (K0 κ) x0 x1 x2 x3 x4 x5 x6 x7 x8 x9 x10 x11 x12 x13 x14 x15 x16 x17 x18 x19 x20 x21 := by kernel_rfl
theorem k (κ : KT R) (k : Nat) (a0 a1 a2 a3 a4 a5 a6 a7 a8 a9 a10 a11 a12 a13 a14 a15 a16 a17 a18 a19 : _) : runF (C R c1 c2 c3 c4 c5 c6) Tryz.f90 10000 k [.vp 32 [.str a0, .str a1, .str a2, .nil, .bool a3, .str a4, .bool a5, .str a6, .bool a7, .str a8, .bool a9, .str a10, .nil, .nil, .bool a11, .str a12, .int .i64 a13, .int .i64 a14, .int .i64 a15, .int .i64 a16, .int .i64 a17, .nil], .ro 168 a18 false, .bool a19] κ = lm_says.e c1 c2 c3 c4 c5 c6 a0 a1 a2 a3 a4 a5 a6 a7 a8 a9 a10 a11 a12 a13 a14 a15 a16 a17 a18 a19 (q15 (G R c1 c2 c3 c4 c5 c6 κ k)) (K0 κ) := by kernel_rfl
theorem g15 (κ : KT R) : ∀ (f : Nat), q15 (G R c1 c2 c3 c4 c5 c6 κ f) = L15 c1 c2 c3 c4 c5 c6 (K0 κ) f
 | 0 => rfl
 | f + 1 => by
  funext x0 x1 x2 x3 x4 x5 x6 x7 x8 x9 x10 x11 x12 x13 x14 x15 x16 x17 x18 x19 x20 x21
  show S R c1 c2 c3 c4 c5 c6 κ (G R c1 c2 c3 c4 c5 c6 κ f) 15 _ = _
  rw [k15]
  rfl
end
theorem Γ_does {R : Type} (tab : Tab) (ht : TabOk tab) (g : Nat) : Does (R := R) Tryz.prog (tabTy tyL) tab g ((C R le_Get lm_value_kind lm_value_params lm_value_first lm_bare lm_value_langs).call g) := by
 refine does_of fun xs κ => ?_
 show DoesAt _ _ _ g xs κ (Γ R le_Get lm_value_kind lm_value_params lm_value_first lm_bare lm_value_langs g xs κ)
 unfold Γ
 split
 ·split
  ·exact le_Get.does tab ht _ _ κ
  ·exact DoesAt.none
 ·split
  ·exact lm_value_kind.does tab ht _ _ κ
  ·exact DoesAt.none
 ·split
  ·exact lm_value_params.does tab ht _ _ κ
  ·exact DoesAt.none
 ·split
  ·exact lm_value_first.does tab ht _ _ κ
  ·exact DoesAt.none
 ·split
  ·exact lm_bare.does tab ht _ _ κ
  ·exact DoesAt.none
 ·split
  ·exact lm_value_langs.does tab ht _ _ κ
  ·exact DoesAt.none
 ·exact DoesAt.none
theorem does {R : Type} (tab : Tab) (ht : TabOk tab) (a0 a1 a2 a3 a4 a5 a6 a7 a8 a9 a10 a11 a12 a13 a14 a15 a16 a17 a18 a19 : _) (κ : KT R) : DoesAt Tryz.prog (tabTy tyL) tab 90 [.vp 32 [.str a0, .str a1, .str a2, .nil, .bool a3, .str a4, .bool a5, .str a6, .bool a7, .str a8, .bool a9, .str a10, .nil, .nil, .bool a11, .str a12, .int .i64 a13, .int .i64 a14, .int .i64 a15, .int .i64 a16, .int .i64 a17, .nil], .ro 168 a18 false, .bool a19] κ (lm_says a0 a1 a2 a3 a4 a5 a6 a7 a8 a9 a10 a11 a12 a13 a14 a15 a16 a17 a18 a19 (K0 κ)) := doesAt_run (C := C R le_Get lm_value_kind lm_value_params lm_value_first lm_bare lm_value_langs) (fn := Tryz.f90) tyOk (Γ_does tab ht) (by kernel_rfl) (by kernel_rfl) (by rw [k]; rw [g15 R le_Get lm_value_kind lm_value_params lm_value_first lm_bare lm_value_langs κ fuelK]; rfl)
end lm_says
namespace lm_tree_limb
abbrev K0 {R : Type} (κ : KT R) : Q0 R := fun r0 r1 r2 r3 r4 r5 r6 r7 r8 r9 r10 r11 r12 r13 r14 r15 r16 r17 r18 r19 r20 r21 r22 => κ [.agg [.str r0, .str r1, .str r2, .ro 129 r3 true, .bool r4, .str r5, .bool r6, .str r7, .bool r8, .str r9, .bool r10, .str r11, .ro 129 r12 true, .ro 9 r13 true, .bool r14, .str r15, .int .i64 r16, .int .i64 r17, .int .i64 r18, .int .i64 r19, .int .i64 r20, .nil], .vp 94 [.str r21, .int .i64 r22]]
section
variable (R : Type) (c1 : le_Split.F R) (c2 : le_Fields.F R) (c3 : lm_says.F R)
def Γ (g : Nat) (xs : List SV) (κ : KT R) : Option R :=
 match g with
 | 76 => (match xs with
  | [.str a0] => c2 a0 (le_Fields.K0 κ)
  | _ => none)
 | 89 => (match xs with
  | [.str a0] => c1 a0 (le_Split.K0 κ)
  | _ => none)
 | 90 => (match xs with
  | [.vp 32 [.str a0, .str a1, .str a2, .nil, .bool a3, .str a4, .bool a5, .str a6, .bool a7, .str a8, .bool a9, .str a10, .nil, .nil, .bool a11, .str a12, .int .i64 a13, .int .i64 a14, .int .i64 a15, .int .i64 a16, .int .i64 a17, .nil], .ro 168 a18 false, .bool a19] => c3 a0 a1 a2 a3 a4 a5 a6 a7 a8 a9 a10 a11 a12 a13 a14 a15 a16 a17 a18 a19 (lm_says.K0 κ)
  | _ => none)
 | _ => none
def h (n : Nat) : Option (List (Nat × List (Nat × Nat))) :=
 match n with
 | _ => none
def C : Cfg R := ⟨tabTy tyL, Γ R c1 c2 c3, fun _ => false, h, 0, fun _ => false⟩
theorem k (κ : KT R) (k : Nat) (a0 a1 a2 a3 a4 : _) : runF (C R c1 c2 c3) Tryz.f48 10000 k [.vp 94 [.str a0, .int .i64 a1], .agg [.int .i64 a2, .int .i64 a3], .bool a4] κ = lm_tree_limb.e c1 c2 c3 a0 a1 a2 a3 a4 (K0 κ) := by kernel_rfl
end
theorem Γ_does {R : Type} (tab : Tab) (ht : TabOk tab) (g : Nat) : Does (R := R) Tryz.prog (tabTy tyL) tab g ((C R le_Split le_Fields lm_says).call g) := by
 refine does_of fun xs κ => ?_
 show DoesAt _ _ _ g xs κ (Γ R le_Split le_Fields lm_says g xs κ)
 unfold Γ
 split
 ·split
  ·exact le_Fields.does tab ht _ κ
  ·exact DoesAt.none
 ·split
  ·exact le_Split.does tab ht _ κ
  ·exact DoesAt.none
 ·split
  ·exact lm_says.does tab ht _ _ _ _ _ _ _ _ _ _ _ _ _ _ _ _ _ _ _ _ κ
  ·exact DoesAt.none
 ·exact DoesAt.none
theorem does {R : Type} (tab : Tab) (ht : TabOk tab) (a0 a1 a2 a3 a4 : _) (κ : KT R) : DoesAt Tryz.prog (tabTy tyL) tab 48 [.vp 94 [.str a0, .int .i64 a1], .agg [.int .i64 a2, .int .i64 a3], .bool a4] κ (lm_tree_limb a0 a1 a2 a3 a4 (K0 κ)) := doesAt_run (C := C R le_Split le_Fields lm_says) (fn := Tryz.f48) tyOk (Γ_does tab ht) (by kernel_rfl) (by kernel_rfl) (by rw [k]; rfl)
end lm_tree_limb
namespace lm_isMessage
abbrev K0 {R : Type} (κ : KT R) : Q0 R := fun r0 r1 r2 r3 r4 r5 r6 r7 r8 r9 r10 r11 r12 r13 r14 r15 r16 r17 r18 r19 r20 r21 => κ [.bool r0, .vp 32 [.str r1, .str r2, .str r3, .ro 129 r4 true, .bool r5, .str r6, .bool r7, .str r8, .bool r9, .str r10, .bool r11, .str r12, .ro 129 r13 true, .ro 9 r14 true, .bool r15, .str r16, .int .i64 r17, .int .i64 r18, .int .i64 r19, .int .i64 r20, .int .i64 r21, .nil]]
section
variable (R : Type)
def Γ (g : Nat) (xs : List SV) (κ : KT R) : Option R :=
 match g with
 | _ => none
def h (n : Nat) : Option (List (Nat × List (Nat × Nat))) :=
 match n with
 | _ => none
def C : Cfg R := ⟨tabTy tyL, Γ R, fun _ => false, h, 0, fun _ => false⟩
theorem k (κ : KT R) (k : Nat) (a0 a1 a2 a3 a4 a5 a6 a7 a8 a9 a10 a11 a12 a13 a14 a15 a16 a17 a18 a19 a20 : _) : runF (C R) Tryz.f59 10000 k [.vp 32 [.str a0, .str a1, .str a2, .ro 129 a3 true, .bool a4, .str a5, .bool a6, .str a7, .bool a8, .str a9, .bool a10, .str a11, .ro 129 a12 true, .ro 9 a13 true, .bool a14, .str a15, .int .i64 a16, .int .i64 a17, .int .i64 a18, .int .i64 a19, .int .i64 a20, .nil]] κ = lm_isMessage.e a0 a1 a2 a3 a4 a5 a6 a7 a8 a9 a10 a11 a12 a13 a14 a15 a16 a17 a18 a19 a20 (K0 κ) := by kernel_rfl
end
theorem Γ_does {R : Type} (tab : Tab) (ht : TabOk tab) (g : Nat) : Does (R := R) Tryz.prog (tabTy tyL) tab g ((C R).call g) := by
 refine does_of fun xs κ => ?_
 show DoesAt _ _ _ g xs κ (Γ R g xs κ)
 unfold Γ
 split
 ·exact DoesAt.none
theorem does {R : Type} (tab : Tab) (ht : TabOk tab) (a0 a1 a2 a3 a4 a5 a6 a7 a8 a9 a10 a11 a12 a13 a14 a15 a16 a17 a18 a19 a20 : _) (κ : KT R) : DoesAt Tryz.prog (tabTy tyL) tab 59 [.vp 32 [.str a0, .str a1, .str a2, .ro 129 a3 true, .bool a4, .str a5, .bool a6, .str a7, .bool a8, .str a9, .bool a10, .str a11, .ro 129 a12 true, .ro 9 a13 true, .bool a14, .str a15, .int .i64 a16, .int .i64 a17, .int .i64 a18, .int .i64 a19, .int .i64 a20, .nil]] κ (lm_isMessage a0 a1 a2 a3 a4 a5 a6 a7 a8 a9 a10 a11 a12 a13 a14 a15 a16 a17 a18 a19 a20 (K0 κ)) := doesAt_run (C := C R) (fn := Tryz.f59) tyOk (Γ_does tab ht) (by kernel_rfl) (by kernel_rfl) (by rw [k]; rfl)
end lm_isMessage
namespace sl_CutPrefix
abbrev K0 {R : Type} (κ : KT R) : BA -> Bool -> Option R := fun r0 r1 => κ [.tup [.str r0, .bool r1]]
section
variable (R : Type) (c1 : sl_HasPrefix.F R)
def Γ (g : Nat) (xs : List SV) (κ : KT R) : Option R :=
 match g with
 | 173 => (match xs with
  | [.str a0, .str a1] => c1 a0 a1 (sl_HasPrefix.K0 κ)
  | _ => none)
 | _ => none
def h (n : Nat) : Option (List (Nat × List (Nat × Nat))) :=
 match n with
 | _ => none
def C : Cfg R := ⟨tabTy tyL, Γ R c1, fun _ => false, h, 0, fun _ => false⟩
theorem k (κ : KT R) (k : Nat) (a0 a1 : _) : runF (C R c1) Tryz.f225 10000 k [.str a0, .str a1] κ = sl_CutPrefix.e c1 a0 a1 (K0 κ) := by kernel_rfl
end
theorem Γ_does {R : Type} (tab : Tab) (ht : TabOk tab) (g : Nat) : Does (R := R) Tryz.prog (tabTy tyL) tab g ((C R sl_HasPrefix).call g) := by
 refine does_of fun xs κ => ?_
 show DoesAt _ _ _ g xs κ (Γ R sl_HasPrefix g xs κ)
 unfold Γ
 split
 ·split
  ·exact sl_HasPrefix.does tab ht _ _ κ
  ·exact DoesAt.none
 ·exact DoesAt.none
theorem does {R : Type} (tab : Tab) (ht : TabOk tab) (a0 a1 : _) (κ : KT R) : DoesAt Tryz.prog (tabTy tyL) tab 225 [.str a0, .str a1] κ (sl_CutPrefix a0 a1 (K0 κ)) := doesAt_run (C := C R sl_HasPrefix) (fn := Tryz.f225) tyOk (Γ_does tab ht) (by kernel_rfl) (by kernel_rfl) (by rw [k]; rfl)
end sl_CutPrefix
namespace st_CutPrefix
abbrev K0 {R : Type} (κ : KT R) : BA -> Bool -> Option R := fun r0 r1 => κ [.tup [.str r0, .bool r1]]
section
variable (R : Type) (c1 : sl_CutPrefix.F R)
def Γ (g : Nat) (xs : List SV) (κ : KT R) : Option R :=
 match g with
 | 225 => (match xs with
  | [.str a0, .str a1] => c1 a0 a1 (sl_CutPrefix.K0 κ)
  | _ => none)
 | _ => none
def h (n : Nat) : Option (List (Nat × List (Nat × Nat))) :=
 match n with
 | _ => none
def C : Cfg R := ⟨tabTy tyL, Γ R c1, fun _ => false, h, 0, fun _ => false⟩
theorem k (κ : KT R) (k : Nat) (a0 a1 : _) : runF (C R c1) Tryz.f208 10000 k [.str a0, .str a1] κ = st_CutPrefix.e c1 a0 a1 (K0 κ) := by kernel_rfl
end
theorem Γ_does {R : Type} (tab : Tab) (ht : TabOk tab) (g : Nat) : Does (R := R) Tryz.prog (tabTy tyL) tab g ((C R sl_CutPrefix).call g) := by
 refine does_of fun xs κ => ?_
 show DoesAt _ _ _ g xs κ (Γ R sl_CutPrefix g xs κ)
 unfold Γ
 split
 ·split
  ·exact sl_CutPrefix.does tab ht _ _ κ
  ·exact DoesAt.none
 ·exact DoesAt.none
theorem does {R : Type} (tab : Tab) (ht : TabOk tab) (a0 a1 : _) (κ : KT R) : DoesAt Tryz.prog (tabTy tyL) tab 208 [.str a0, .str a1] κ (st_CutPrefix a0 a1 (K0 κ)) := doesAt_run (C := C R sl_CutPrefix) (fn := Tryz.f208) tyOk (Γ_does tab ht) (by kernel_rfl) (by kernel_rfl) (by rw [k]; rfl)
end st_CutPrefix
namespace lm_bound
abbrev K0 {R : Type} (κ : KT R) : Bool -> Bool -> Option R := fun r0 r1 => κ [.tup [.bool r0, .bool r1]]
section
variable (R : Type) (c1 : st_CutPrefix.F R) (c2 : st_Trim.F R)
def Γ (g : Nat) (xs : List SV) (κ : KT R) : Option R :=
 match g with
 | 124 => (match xs with
  | [.str a0, .str a1] => c2 a0 a1 (st_Trim.K0 κ)
  | _ => none)
 | 208 => (match xs with
  | [.str a0, .str a1] => c1 a0 a1 (st_CutPrefix.K0 κ)
  | _ => none)
 | _ => none
def h (n : Nat) : Option (List (Nat × List (Nat × Nat))) :=
 match n with
 | _ => none
def C : Cfg R := ⟨tabTy tyL, Γ R c1 c2, fun _ => false, h, 0, fun _ => false⟩
theorem k (κ : KT R) (k : Nat) (a0 a1 : _) : runF (C R c1 c2) Tryz.f179 10000 k [.str a0, .str a1] κ = lm_bound.e c1 c2 a0 a1 (K0 κ) := by kernel_rfl
end
theorem Γ_does {R : Type} (tab : Tab) (ht : TabOk tab) (g : Nat) : Does (R := R) Tryz.prog (tabTy tyL) tab g ((C R st_CutPrefix st_Trim).call g) := by
 refine does_of fun xs κ => ?_
 show DoesAt _ _ _ g xs κ (Γ R st_CutPrefix st_Trim g xs κ)
 unfold Γ
 split
 ·split
  ·exact st_Trim.does tab ht _ _ κ
  ·exact DoesAt.none
 ·split
  ·exact st_CutPrefix.does tab ht _ _ κ
  ·exact DoesAt.none
 ·exact DoesAt.none
theorem does {R : Type} (tab : Tab) (ht : TabOk tab) (a0 a1 : _) (κ : KT R) : DoesAt Tryz.prog (tabTy tyL) tab 179 [.str a0, .str a1] κ (lm_bound a0 a1 (K0 κ)) := doesAt_run (C := C R st_CutPrefix st_Trim) (fn := Tryz.f179) tyOk (Γ_does tab ht) (by kernel_rfl) (by kernel_rfl) (by rw [k]; rfl)
end lm_bound
namespace lm_tree_cut
abbrev K0 {R : Type} (κ : KT R) : Q0 R := fun r0 r1 r2 => κ [.fr 29 r0 true, .vp 94 [.str r1, .int .i64 r2]]
section
variable (R : Type) (c1 : st_Index.F R) (c2 : lm_bound.F R)
def Γ (g : Nat) (xs : List SV) (κ : KT R) : Option R :=
 match g with
 | 128 => (match xs with
  | [.str a0, .str a1] => c1 a0 a1 (st_Index.K0 κ)
  | _ => none)
 | 179 => (match xs with
  | [.str a0, .str a1] => c2 a0 a1 (lm_bound.K0 κ)
  | _ => none)
 | _ => none
def h (n : Nat) : Option (List (Nat × List (Nat × Nat))) :=
 match n with
 | 4 => some [(0, [(0, 0)]), (2, [(0, 0)]), (4, [(0, 0)]), (7, [(0, 31)]), (8, [(0, 0)]), (9, [(0, 0)])]
 | _ => none
def C : Cfg R := ⟨tabTy tyL, Γ R c1 c2, fun _ => false, h, 0, fun _ => false⟩
noncomputable def S := S0 (C R c1 c2) Tryz.f134 1
noncomputable def G := G0 (C R c1 c2) Tryz.f134 1
def s4 := fun x0 x1 x2 x3 x4 x5 x6 x7 => (⟨mkS 85 [(0, .ptr 0 0), (2, .str x0), (4, .ptr 383 0), (7, .own 512), (8, .int .i64 x1), (9, .int .i64 x2)], [(0, .var 94 [.str x3, .int .i64 x4]), (383, .var 29 [.int .i64 x5, .int .i64 x6]), (512, .row 29 x7 true)], top⟩ : St)
noncomputable abbrev q4 {R : Type} (J : JT R) : J4 R := fun x0 x1 x2 x3 x4 x5 x6 x7 => J (placeOf Tryz.f134 4) (s4 x0 x1 x2 x3 x4 x5 x6 x7)
theorem k4 (J : JT R) (κ : KT R) (x0 x1 x2 x3 x4 x5 x6 x7 : _) : S R c1 c2 κ J 4 (s4 x0 x1 x2 x3 x4 x5 x6 x7) = t4 c1 c2 (q4 J) (K0 κ) x0 x1 x2 x3 x4 x5 x6 x7 := by kernel_rfl
theorem k (κ : KT R) (k : Nat) (a0 a1 a2 a3 a4 : _) : runF (C R c1 c2) Tryz.f134 10000 k [.vp 94 [.str a0, .int .i64 a1], .agg [.int .i64 a2, .int .i64 a3], .str a4] κ = lm_tree_cut.e c1 c2 a0 a1 a2 a3 a4 (q4 (G R c1 c2 κ k)) (K0 κ) := by kernel_rfl
theorem g4 (κ : KT R) : ∀ (f : Nat), q4 (G R c1 c2 κ f) = L4 c1 c2 (K0 κ) f
 | 0 => rfl
 | f + 1 => by
  funext x0 x1 x2 x3 x4 x5 x6 x7
  show S R c1 c2 κ (G R c1 c2 κ f) 4 _ = _
  rw [k4, g4 κ f]
  rfl
end
theorem Γ_does {R : Type} (tab : Tab) (ht : TabOk tab) (g : Nat) : Does (R := R) Tryz.prog (tabTy tyL) tab g ((C R st_Index lm_bound).call g) := by
 refine does_of fun xs κ => ?_
 show DoesAt _ _ _ g xs κ (Γ R st_Index lm_bound g xs κ)
 unfold Γ
 split
 ·split
  ·exact st_Index.does tab ht _ _ κ
  ·exact DoesAt.none
 ·split
  ·exact lm_bound.does tab ht _ _ κ
  ·exact DoesAt.none
 ·exact DoesAt.none
theorem does {R : Type} (tab : Tab) (ht : TabOk tab) (a0 a1 a2 a3 a4 : _) (κ : KT R) : DoesAt Tryz.prog (tabTy tyL) tab 134 [.vp 94 [.str a0, .int .i64 a1], .agg [.int .i64 a2, .int .i64 a3], .str a4] κ (lm_tree_cut a0 a1 a2 a3 a4 (K0 κ)) := doesAt_run (C := C R st_Index lm_bound) (fn := Tryz.f134) tyOk (Γ_does tab ht) (by kernel_rfl) (by kernel_rfl) (by rw [k]; rw [g4 R st_Index lm_bound κ fuelK]; rfl)
end lm_tree_cut
namespace lm_tree_parts
abbrev K0 {R : Type} (κ : KT R) : Q0 R := fun r0 r1 r2 r3 r4 r5 r6 r7 r8 r9 r10 r11 r12 r13 r14 r15 r16 r17 r18 r19 r20 r21 r22 => κ [.nil, .vp 94 [.str r0, .int .i64 r1], .vp 32 [.str r2, .str r3, .str r4, .ro 129 r5 true, .bool r6, .str r7, .bool r8, .str r9, .bool r10, .str r11, .bool r12, .str r13, .ro 129 r14 true, .ro 9 r15 true, .bool r16, .str r17, .int .i64 r18, .int .i64 r19, .int .i64 r20, .int .i64 r21, .int .i64 r22, .nil]]
abbrev K1 {R : Type} (κ : KT R) : Q1 R := fun r0 r1 r2 r3 r4 r5 r6 r7 r8 r9 r10 r11 r12 r13 r14 r15 r16 r17 r18 r19 r20 r21 r22 r23 => κ [.fr 29 r0 true, .vp 94 [.str r1, .int .i64 r2], .vp 32 [.str r3, .str r4, .str r5, .ro 129 r6 true, .bool r7, .str r8, .bool r9, .str r10, .bool r11, .str r12, .bool r13, .str r14, .ro 129 r15 true, .ro 9 r16 true, .bool r17, .str r18, .int .i64 r19, .int .i64 r20, .int .i64 r21, .int .i64 r22, .int .i64 r23, .nil]]
section
variable (R : Type) (c1 : lm_isMessage.F R) (c2 : lm_tree_cut.F R)
def Γ (g : Nat) (xs : List SV) (κ : KT R) : Option R :=
 match g with
 | 59 => (match xs with
  | [.vp 32 [.str a0, .str a1, .str a2, .ro 129 a3 true, .bool a4, .str a5, .bool a6, .str a7, .bool a8, .str a9, .bool a10, .str a11, .ro 129 a12 true, .ro 9 a13 true, .bool a14, .str a15, .int .i64 a16, .int .i64 a17, .int .i64 a18, .int .i64 a19, .int .i64 a20, .nil]] => c1 a0 a1 a2 a3 a4 a5 a6 a7 a8 a9 a10 a11 a12 a13 a14 a15 a16 a17 a18 a19 a20 (lm_isMessage.K0 κ)
  | _ => none)
 | 134 => (match xs with
  | [.vp 94 [.str a0, .int .i64 a1], .agg [.int .i64 a2, .int .i64 a3], .str a4] => c2 a0 a1 a2 a3 a4 (lm_tree_cut.K0 κ)
  | _ => none)
 | _ => none
def h (n : Nat) : Option (List (Nat × List (Nat × Nat))) :=
 match n with
 | 8 => some [(0, [(0, 0)]), (1, [(0, 0)]), (51, [(0, 0)]), (52, [(0, 0)]), (53, [(0, 0)])]
 | _ => none
def C : Cfg R := ⟨tabTy tyL, Γ R c1 c2, fun _ => false, h, 0, fun _ => false⟩
noncomputable def S := S0 (C R c1 c2) Tryz.f91 2
noncomputable def G := G0 (C R c1 c2) Tryz.f91 2
def s8 := fun x0 x1 x2 x3 x4 x5 x6 x7 x8 x9 x10 x11 x12 x13 x14 x15 x16 x17 x18 x19 x20 x21 x22 x23 x24 x25 => (⟨mkS 81 [(0, .ptr 0 0), (1, .ptr 1 0), (51, .ro 129 x0 true), (52, .int .i64 x1), (53, .int .i64 x2)], [(1, .var 32 [.str x3, .str x4, .str x5, .ro 129 x6 true, .bool x7, .str x8, .bool x9, .str x10, .bool x11, .str x12, .bool x13, .str x14, .ro 129 x15 true, .ro 9 x16 true, .bool x17, .str x18, .int .i64 x19, .int .i64 x20, .int .i64 x21, .int .i64 x22, .int .i64 x23, .nil]), (0, .var 94 [.str x24, .int .i64 x25])], top⟩ : St)
noncomputable abbrev q8 {R : Type} (J : JT R) : J8 R := fun x0 x1 x2 x3 x4 x5 x6 x7 x8 x9 x10 x11 x12 x13 x14 x15 x16 x17 x18 x19 x20 x21 x22 x23 x24 x25 => J (placeOf Tryz.f91 8) (s8 x0 x1 x2 x3 x4 x5 x6 x7 x8 x9 x10 x11 x12 x13 x14 x15 x16 x17 x18 x19 x20 x21 x22 x23 x24 x25)
theorem k8 (J : JT R) (κ : KT R) (x0 x1 x2 x3 x4 x5 x6 x7 x8 x9 x10 x11 x12 x13 x14 x15 x16 x17 x18 x19 x20 x21 x22 x23 x24 x25 : _) : S R c1 c2 κ J 8 (s8 x0 x1 x2 x3 x4 x5 x6 x7 x8 x9 x10 x11 x12 x13 x14 x15 x16 x17 x18 x19 x20 x21 x22 x23 x24 x25) = t8 c2 (q8 J) (K0 κ) (K1 κ) x0 x1 x2 x3 x4 x5 x6 x7 x8 x9 x10 x11 x12 x13 x14 x15 x16 x17 x18 x19 x20 x21 x22 x23 x24 x25 := by kernel_rfl
theorem k (κ : KT R) (k : Nat) (a0 a1 a2 a3 a4 a5 a6 a7 a8 a9 a10 a11 a12 a13 a14 a15 a16 a17 a18 a19 a20 a21 a22 : _) : runF (C R c1 c2) Tryz.f91 10000 k [.vp 94 [.str a0, .int .i64 a1], .vp 32 [.str a2, .str a3, .str a4, .ro 129 a5 true, .bool a6, .str a7, .bool a8, .str a9, .bool a10, .str a11, .bool a12, .str a13, .ro 129 a14 true, .ro 9 a15 true, .bool a16, .str a17, .int .i64 a18, .int .i64 a19, .int .i64 a20, .int .i64 a21, .int .i64 a22, .nil]] κ = lm_tree_parts.e c1 c2 a0 a1 a2 a3 a4 a5 a6 a7 a8 a9 a10 a11 a12 a13 a14 a15 a16 a17 a18 a19 a20 a21 a22 (q8 (G R c1 c2 κ k)) (K0 κ) (K1 κ) := by kernel_rfl
theorem g8 (κ : KT R) : ∀ (f : Nat), q8 (G R c1 c2 κ f) = L8 c1 c2 (K0 κ) (K1 κ) f
 | 0 => rfl
 | f + 1 => by
  funext x0 x1 x2 x3 x4 x5 x6 x7 x8 x9 x10 x11 x12 x13 x14 x15 x16 x17 x18 x19 x20 x21 x22 x23 x24 x25
  show S R c1 c2 κ (G R c1 c2 κ f) 8 _ = _
  rw [k8, g8 κ f]
  rfl
end
theorem Γ_does {R : Type} (tab : Tab) (ht : TabOk tab) (g : Nat) : Does (R := R) Tryz.prog (tabTy tyL) tab g ((C R lm_isMessage lm_tree_cut).call g) := by
 refine does_of fun xs κ => ?_
 show DoesAt _ _ _ g xs κ (Γ R lm_isMessage lm_tree_cut g xs κ)
 unfold Γ
 split
 ·split
  ·exact lm_isMessage.does tab ht _ _ _ _ _ _ _ _ _ _ _ _ _ _ _ _ _ _ _ _ _ κ
  ·exact DoesAt.none
 ·split
  ·exact lm_tree_cut.does tab ht _ _ _ _ _ κ
  ·exact DoesAt.none
 ·exact DoesAt.none
theorem does {R : Type} (tab : Tab) (ht : TabOk tab) (a0 a1 a2 a3 a4 a5 a6 a7 a8 a9 a10 a11 a12 a13 a14 a15 a16 a17 a18 a19 a20 a21 a22 : _) (κ : KT R) : DoesAt Tryz.prog (tabTy tyL) tab 91 [.vp 94 [.str a0, .int .i64 a1], .vp 32 [.str a2, .str a3, .str a4, .ro 129 a5 true, .bool a6, .str a7, .bool a8, .str a9, .bool a10, .str a11, .bool a12, .str a13, .ro 129 a14 true, .ro 9 a15 true, .bool a16, .str a17, .int .i64 a18, .int .i64 a19, .int .i64 a20, .int .i64 a21, .int .i64 a22, .nil]] κ (lm_tree_parts a0 a1 a2 a3 a4 a5 a6 a7 a8 a9 a10 a11 a12 a13 a14 a15 a16 a17 a18 a19 a20 a21 a22 (K0 κ) (K1 κ)) := doesAt_run (C := C R lm_isMessage lm_tree_cut) (fn := Tryz.f91) tyOk (Γ_does tab ht) (by kernel_rfl) (by kernel_rfl) (by rw [k]; rw [g8 R lm_isMessage lm_tree_cut κ fuelK]; rfl)
end lm_tree_parts
namespace sc_small
abbrev K0 {R : Type} (κ : KT R) : BA -> Option R := fun r0 => κ [.str r0]
section
variable (R : Type)
def Γ (g : Nat) (xs : List SV) (κ : KT R) : Option R :=
 match g with
 | _ => none
def h (n : Nat) : Option (List (Nat × List (Nat × Nat))) :=
 match n with
 | _ => none
def C : Cfg R := ⟨tabTy tyL, Γ R, fun _ => false, h, 0, fun _ => false⟩
theorem k (κ : KT R) (k : Nat) (a0 : _) : runF (C R) Tryz.f226 10000 k [.int .i64 a0] κ = sc_small.e a0 (K0 κ) := by kernel_rfl
end
theorem Γ_does {R : Type} (tab : Tab) (ht : TabOk tab) (g : Nat) : Does (R := R) Tryz.prog (tabTy tyL) tab g ((C R).call g) := by
 refine does_of fun xs κ => ?_
 show DoesAt _ _ _ g xs κ (Γ R g xs κ)
 unfold Γ
 split
 ·exact DoesAt.none
theorem does {R : Type} (tab : Tab) (ht : TabOk tab) (a0 : _) (κ : KT R) : DoesAt Tryz.prog (tabTy tyL) tab 226 [.int .i64 a0] κ (sc_small a0 (K0 κ)) := doesAt_run (C := C R) (fn := Tryz.f226) tyOk (Γ_does tab ht) (by kernel_rfl) (by kernel_rfl) (by rw [k]; rfl)
end sc_small
namespace sc_FormatInt
abbrev K0 {R : Type} (κ : KT R) : BA -> Option R := fun r0 => κ [.str r0]
section
variable (R : Type) (c1 : sc_small.F R)
def Γ (g : Nat) (xs : List SV) (κ : KT R) : Option R :=
 match g with
 | 226 => (match xs with
  | [.int .i64 a0] => c1 a0 (sc_small.K0 κ)
  | _ => none)
 | _ => none
def h (n : Nat) : Option (List (Nat × List (Nat × Nat))) :=
 match n with
 | _ => none
def C : Cfg R := ⟨tabTy tyL, Γ R c1, fun _ => false, h, 0, fun _ => false⟩
theorem k (κ : KT R) (k : Nat) (a0 a1 : _) : runF (C R c1) Tryz.f209 10000 k [.int .i64 a0, .int .i64 a1] κ = sc_FormatInt.e c1 a0 a1 (K0 κ) := by kernel_rfl
end
theorem Γ_does {R : Type} (tab : Tab) (ht : TabOk tab) (g : Nat) : Does (R := R) Tryz.prog (tabTy tyL) tab g ((C R sc_small).call g) := by
 refine does_of fun xs κ => ?_
 show DoesAt _ _ _ g xs κ (Γ R sc_small g xs κ)
 unfold Γ
 split
 ·split
  ·exact sc_small.does tab ht _ κ
  ·exact DoesAt.none
 ·exact DoesAt.none
theorem does {R : Type} (tab : Tab) (ht : TabOk tab) (a0 a1 : _) (κ : KT R) : DoesAt Tryz.prog (tabTy tyL) tab 209 [.int .i64 a0, .int .i64 a1] κ (sc_FormatInt a0 a1 (K0 κ)) := doesAt_run (C := C R sc_small) (fn := Tryz.f209) tyOk (Γ_does tab ht) (by kernel_rfl) (by kernel_rfl) (by rw [k]; rfl)
end sc_FormatInt
namespace sc_Itoa
abbrev K0 {R : Type} (κ : KT R) : BA -> Option R := fun r0 => κ [.str r0]
section
variable (R : Type) (c1 : sc_FormatInt.F R)
def Γ (g : Nat) (xs : List SV) (κ : KT R) : Option R :=
 match g with
 | 209 => (match xs with
  | [.int .i64 a0, .int .i64 a1] => c1 a0 a1 (sc_FormatInt.K0 κ)
  | _ => none)
 | _ => none
def h (n : Nat) : Option (List (Nat × List (Nat × Nat))) :=
 match n with
 | _ => none
def C : Cfg R := ⟨tabTy tyL, Γ R c1, fun _ => false, h, 0, fun _ => false⟩
theorem k (κ : KT R) (k : Nat) (a0 : _) : runF (C R c1) Tryz.f180 10000 k [.int .i64 a0] κ = sc_Itoa.e c1 a0 (K0 κ) := by kernel_rfl
end
theorem Γ_does {R : Type} (tab : Tab) (ht : TabOk tab) (g : Nat) : Does (R := R) Tryz.prog (tabTy tyL) tab g ((C R sc_FormatInt).call g) := by
 refine does_of fun xs κ => ?_
 show DoesAt _ _ _ g xs κ (Γ R sc_FormatInt g xs κ)
 unfold Γ
 split
 ·split
  ·exact sc_FormatInt.does tab ht _ _ κ
  ·exact DoesAt.none
 ·exact DoesAt.none
theorem does {R : Type} (tab : Tab) (ht : TabOk tab) (a0 : _) (κ : KT R) : DoesAt Tryz.prog (tabTy tyL) tab 180 [.int .i64 a0] κ (sc_Itoa a0 (K0 κ)) := doesAt_run (C := C R sc_FormatInt) (fn := Tryz.f180) tyOk (Γ_does tab ht) (by kernel_rfl) (by kernel_rfl) (by rw [k]; rfl)
end sc_Itoa
namespace sc_Itoa1
abbrev K0 {R : Type} (κ : KT R) : BA -> Option R := fun r0 => κ [.str r0]
section
variable (R : Type) (c1 : sc_Itoa.F R)
def Γ (g : Nat) (xs : List SV) (κ : KT R) : Option R :=
 match g with
 | 180 => (match xs with
  | [.int .i64 a0] => c1 a0 (sc_Itoa.K0 κ)
  | _ => none)
 | _ => none
def h (n : Nat) : Option (List (Nat × List (Nat × Nat))) :=
 match n with
 | _ => none
def C : Cfg R := ⟨tabTy tyL, Γ R c1, fun _ => false, h, 0, fun _ => false⟩
theorem k (κ : KT R) (k : Nat) (a0 : _) : runF (C R c1) Tryz.f135 10000 k [.int .i64 a0] κ = sc_Itoa1.e c1 a0 (K0 κ) := by kernel_rfl
end
theorem Γ_does {R : Type} (tab : Tab) (ht : TabOk tab) (g : Nat) : Does (R := R) Tryz.prog (tabTy tyL) tab g ((C R sc_Itoa).call g) := by
 refine does_of fun xs κ => ?_
 show DoesAt _ _ _ g xs κ (Γ R sc_Itoa g xs κ)
 unfold Γ
 split
 ·split
  ·exact sc_Itoa.does tab ht _ κ
  ·exact DoesAt.none
 ·exact DoesAt.none
theorem does {R : Type} (tab : Tab) (ht : TabOk tab) (a0 : _) (κ : KT R) : DoesAt Tryz.prog (tabTy tyL) tab 135 [.int .i64 a0] κ (sc_Itoa1 a0 (K0 κ)) := doesAt_run (C := C R sc_Itoa) (fn := Tryz.f135) tyOk (Γ_does tab ht) (by kernel_rfl) (by kernel_rfl) (by rw [k]; rfl)
end sc_Itoa1
namespace u8_RuneCountInString
abbrev K0 {R : Type} (κ : KT R) : Int -> Option R := fun r0 => κ [.int .i64 r0]
section
variable (R : Type)
def Γ (g : Nat) (xs : List SV) (κ : KT R) : Option R :=
 match g with
 | _ => none
def h (n : Nat) : Option (List (Nat × List (Nat × Nat))) :=
 match n with
 | 2 => some [(2, [(0, 0)]), (4, [(0, 0)])]
 | _ => none
def C : Cfg R := ⟨tabTy tyL, Γ R, fun _ => false, h, 0, fun _ => false⟩
noncomputable def S := S0 (C R) Tryz.f136 0
noncomputable def G := G0 (C R) Tryz.f136 0
def s2 := fun x0 x1 x2 => (⟨mkS 10 [(2, .int .i64 x0), (4, .ptr 383 0)], [(383, .sit x1 x2)], top⟩ : St)
noncomputable abbrev q2 {R : Type} (J : JT R) : J2 R := fun x0 x1 x2 => J (placeOf Tryz.f136 2) (s2 x0 x1 x2)
theorem k2 (J : JT R) (κ : KT R) (x0 x1 x2 : _) : S R κ J 2 (s2 x0 x1 x2) = t2 (q2 J) (K0 κ) x0 x1 x2 := by kernel_rfl
theorem k (κ : KT R) (k : Nat) (a0 : _) : runF (C R) Tryz.f136 10000 k [.str a0] κ = u8_RuneCountInString.e a0 (q2 (G R κ k)) (K0 κ) := by kernel_rfl
theorem g2 (κ : KT R) : ∀ (f : Nat), q2 (G R κ f) = L2 (K0 κ) f
 | 0 => rfl
 | f + 1 => by
  funext x0 x1 x2
  show S R κ (G R κ f) 2 _ = _
  rw [k2, g2 κ f]
  rfl
end
theorem Γ_does {R : Type} (tab : Tab) (ht : TabOk tab) (g : Nat) : Does (R := R) Tryz.prog (tabTy tyL) tab g ((C R).call g) := by
 refine does_of fun xs κ => ?_
 show DoesAt _ _ _ g xs κ (Γ R g xs κ)
 unfold Γ
 split
 ·exact DoesAt.none
theorem does {R : Type} (tab : Tab) (ht : TabOk tab) (a0 : _) (κ : KT R) : DoesAt Tryz.prog (tabTy tyL) tab 136 [.str a0] κ (u8_RuneCountInString a0 (K0 κ)) := doesAt_run (C := C R) (fn := Tryz.f136) tyOk (Γ_does tab ht) (by kernel_rfl) (by kernel_rfl) (by rw [k]; rw [g2 R κ fuelK]; rfl)
end u8_RuneCountInString
end Go.Proofs.Ab
