/- Each plain function is what a call of its Go function does, checked by the kernel (no condition but what its checks ask). -/
import Derived.Test.YtneffefnlogkaaaGreatDoorSeat
import Derived.Test.YtneffefnlogkaaaGreatDoorText
set_option linter.unusedVariables false
set_option linter.unusedSimpArgs false
set_option maxRecDepth 4000
namespace Go.Proofs.Ab
open Go Go.Proofs
set_option maxRecDepth 100000
abbrev KT (R : Type) : Type := List SV -> Option R
abbrev JT (R : Type) : Type := List Item -> St -> Option R
noncomputable def S0 {R : Type} (C : Cfg R) (F : Func) (n : Nat) (κ : KT R) (J : JT R) (i : Nat) (s : St) : Option R := start C J (xZ C F.results.toList (List.range n) κ) 10000 (placeOf F i) s
noncomputable def G0 {R : Type} (C : Cfg R) (F : Func) (n : Nat) (κ : KT R) (f : Nat) (p : List Item) (s : St) : Option R := goto C (xZ C F.results.toList (List.range n) κ) 10000 f p s
theorem ah {R : Type} {P : Program} {C : Cfg R} {fn : Func} {tab : bO} (hP : Ok P C.ty) (hD : ∀ g, bL P C.ty tab g (C.call g)) {g : Nat} (hf : P.funcs[g]? = some fn) (hn : (fn.name == "runtime.NumGoroutine") = false) {xs : List SV} {κ : KT R} {X : Option R} (h : b8 C fn 10000 ag xs κ = X) : aa P C.ty tab g xs κ X := by
 intro r e w vs Rt Ra bs hpre
 exact vH hP hD hf hn (h.trans e) hpre
namespace bG
abbrev K0 {R : Type} (κ : KT R) : Bool -> Option R := fun r0 => κ [.bool r0]
section
variable (R : Type)
def Γ (g : Nat) (xs : List SV) (κ : KT R) : Option R :=
 match g with
 | _ => none
def h (n : Nat) : Option (List (Nat × List (Nat × Nat))) :=
 match n with
 | _ => none
def C : Cfg R := ⟨ae bj, Γ R, fun _ => false, h, 0, fun _ => false⟩
theorem k (κ : KT R) (k : Nat) (a0 a1 : _) : b8 (C R) Tryz.f173 10000 k [.str a0, .str a1] κ = bG.e a0 a1 (K0 κ) := by kernel_rfl
end
theorem ac {R : Type} (tab : bO) (ht : av tab) (g : Nat) : bL (R := R) Tryz.prog (ae bj) tab g ((C R).call g) := by
 refine aD fun xs κ => ?_
 show aa _ _ _ g xs κ (Γ R g xs κ)
 unfold Γ
 split
 ·exact aa.none
theorem aE {R : Type} (tab : bO) (ht : av tab) (a0 a1 : _) (κ : KT R) : aa Tryz.prog (ae bj) tab 173 [.str a0, .str a1] κ (bG a0 a1 (K0 κ)) := ah (C := C R) (fn := Tryz.f173) cd (ac tab ht) (by kernel_rfl) (by kernel_rfl) (by rw [k]; rfl)
end bG
namespace aV
abbrev K0 {R : Type} (κ : KT R) : Bool -> Option R := fun r0 => κ [.bool r0]
section
variable (R : Type) (c1 : bG.F R)
def Γ (g : Nat) (xs : List SV) (κ : KT R) : Option R :=
 match g with
 | 173 => (match xs with
  | [.str a0, .str a1] => c1 a0 a1 (bG.K0 κ)
  | _ => none)
 | _ => none
def h (n : Nat) : Option (List (Nat × List (Nat × Nat))) :=
 match n with
 | _ => none
def C : Cfg R := ⟨ae bj, Γ R c1, fun _ => false, h, 0, fun _ => false⟩
theorem k (κ : KT R) (k : Nat) (a0 a1 : _) : b8 (C R c1) Tryz.f127 10000 k [.str a0, .str a1] κ = aV.e c1 a0 a1 (K0 κ) := by kernel_rfl
end
theorem ac {R : Type} (tab : bO) (ht : av tab) (g : Nat) : bL (R := R) Tryz.prog (ae bj) tab g ((C R bG).call g) := by
 refine aD fun xs κ => ?_
 show aa _ _ _ g xs κ (Γ R bG g xs κ)
 unfold Γ
 split
 ·split
  ·exact bG.aE tab ht _ _ κ
  ·exact aa.none
 ·exact aa.none
theorem aE {R : Type} (tab : bO) (ht : av tab) (a0 a1 : _) (κ : KT R) : aa Tryz.prog (ae bj) tab 127 [.str a0, .str a1] κ (aV a0 a1 (K0 κ)) := ah (C := C R bG) (fn := Tryz.f127) cd (ac tab ht) (by kernel_rfl) (by kernel_rfl) (by rw [k]; rfl)
end aV
theorem eL.aE {R : Type} (tab : bO) (ht : av tab) (a0 a1 : BA) (κ : List SV -> Option R) : aa Tryz.prog (ae bj) tab 174 [.str a0, .str a1] κ (eL a0 a1 (fun r0 => κ [.int .i64 r0])) := by
 obtain ⟨m, cs, t, fz, ht, hm⟩ := ht
 exact yN fun h => vJ Tryz.call174 a0 a1 (.int .i64 _) (fun w hw => Any.stringslite_Index Tryz.Bn a0 a1 m w (of_decide_eq_true h) (An hm (hw _ _ ht))) (fun c => wR) κ
namespace aP
abbrev K0 {R : Type} (κ : KT R) : Int -> Option R := fun r0 => κ [.int .i64 r0]
section
variable (R : Type) (c1 : eL.F R)
def Γ (g : Nat) (xs : List SV) (κ : KT R) : Option R :=
 match g with
 | 174 => (match xs with
  | [.str a0, .str a1] => c1 a0 a1 (fun r0 => κ [.int .i64 r0])
  | _ => none)
 | _ => none
def h (n : Nat) : Option (List (Nat × List (Nat × Nat))) :=
 match n with
 | _ => none
def C : Cfg R := ⟨ae bj, Γ R c1, fun _ => false, h, 0, fun _ => false⟩
theorem k (κ : KT R) (k : Nat) (a0 a1 : _) : b8 (C R c1) Tryz.f128 10000 k [.str a0, .str a1] κ = aP.e c1 a0 a1 (K0 κ) := by kernel_rfl
end
theorem ac {R : Type} (tab : bO) (ht : av tab) (g : Nat) : bL (R := R) Tryz.prog (ae bj) tab g ((C R eL).call g) := by
 refine aD fun xs κ => ?_
 show aa _ _ _ g xs κ (Γ R eL g xs κ)
 unfold Γ
 split
 ·split
  ·exact eL.aE tab ht _ _ κ
  ·exact aa.none
 ·exact aa.none
theorem aE {R : Type} (tab : bO) (ht : av tab) (a0 a1 : _) (κ : KT R) : aa Tryz.prog (ae bj) tab 128 [.str a0, .str a1] κ (aP a0 a1 (K0 κ)) := ah (C := C R eL) (fn := Tryz.f128) cd (ac tab ht) (by kernel_rfl) (by kernel_rfl) (by rw [k]; rfl)
end aP
namespace dx
abbrev K0 {R : Type} (κ : KT R) : BA -> BA -> Option R := fun r0 r1 => κ [.tup [.str r0, .str r1]]
section
variable (R : Type) (c1 : aV.F R) (c2 : aP.F R)
def Γ (g : Nat) (xs : List SV) (κ : KT R) : Option R :=
 match g with
 | 127 => (match xs with
  | [.str a0, .str a1] => c1 a0 a1 (aV.K0 κ)
  | _ => none)
 | 128 => (match xs with
  | [.str a0, .str a1] => c2 a0 a1 (aP.K0 κ)
  | _ => none)
 | _ => none
def h (n : Nat) : Option (List (Nat × List (Nat × Nat))) :=
 match n with
 | _ => none
def C : Cfg R := ⟨ae bj, Γ R c1 c2, fun _ => false, h, 0, fun _ => false⟩
theorem k (κ : KT R) (k : Nat) (a0 : _) : b8 (C R c1 c2) Tryz.f89 10000 k [.str a0] κ = dx.e c1 c2 a0 (K0 κ) := by kernel_rfl
end
theorem ac {R : Type} (tab : bO) (ht : av tab) (g : Nat) : bL (R := R) Tryz.prog (ae bj) tab g ((C R aV aP).call g) := by
 refine aD fun xs κ => ?_
 show aa _ _ _ g xs κ (Γ R aV aP g xs κ)
 unfold Γ
 split
 ·split
  ·exact aV.aE tab ht _ _ κ
  ·exact aa.none
 ·split
  ·exact aP.aE tab ht _ _ κ
  ·exact aa.none
 ·exact aa.none
theorem aE {R : Type} (tab : bO) (ht : av tab) (a0 : _) (κ : KT R) : aa Tryz.prog (ae bj) tab 89 [.str a0] κ (dx a0 (K0 κ)) := ah (C := C R aV aP) (fn := Tryz.f89) cd (ac tab ht) (by kernel_rfl) (by kernel_rfl) (by rw [k]; rfl)
end dx
namespace aS
abbrev K0 {R : Type} (κ : KT R) : Bool -> Option R := fun r0 => κ [.bool r0]
section
variable (R : Type)
def Γ (g : Nat) (xs : List SV) (κ : KT R) : Option R :=
 match g with
 | _ => none
def h (n : Nat) : Option (List (Nat × List (Nat × Nat))) :=
 match n with
 | _ => none
def C : Cfg R := ⟨ae bj, Γ R, fun _ => false, h, 0, fun _ => false⟩
theorem k (κ : KT R) (k : Nat) (a0 : _) : b8 (C R) Tryz.f149 10000 k [.int .u8 a0] κ = aS.e a0 (K0 κ) := by kernel_rfl
end
theorem ac {R : Type} (tab : bO) (ht : av tab) (g : Nat) : bL (R := R) Tryz.prog (ae bj) tab g ((C R).call g) := by
 refine aD fun xs κ => ?_
 show aa _ _ _ g xs κ (Γ R g xs κ)
 unfold Γ
 split
 ·exact aa.none
theorem aE {R : Type} (tab : bO) (ht : av tab) (a0 : _) (κ : KT R) : aa Tryz.prog (ae bj) tab 149 [.int .u8 a0] κ (aS a0 (K0 κ)) := ah (C := C R) (fn := Tryz.f149) cd (ac tab ht) (by kernel_rfl) (by kernel_rfl) (by rw [k]; rfl)
end aS
namespace bE
abbrev K0 {R : Type} (κ : KT R) : BA -> Bool -> Option R := fun r0 r1 => κ [.tup [.str r0, .bool r1]]
section
variable (R : Type) (c1 : aS.F R)
def Γ (g : Nat) (xs : List SV) (κ : KT R) : Option R :=
 match g with
 | 149 => (match xs with
  | [.int .u8 a0] => c1 a0 (aS.K0 κ)
  | _ => none)
 | _ => none
def h (n : Nat) : Option (List (Nat × List (Nat × Nat))) :=
 match n with
 | 2 => some [(0, [(0, 0)]), (4, [(0, 0)])]
 | 5 => some [(0, [(0, 0)]), (4, [(0, 0)]), (5, [(0, 0)])]
 | _ => none
def C : Cfg R := ⟨ae bj, Γ R c1, fun _ => false, h, 0, fun _ => false⟩
noncomputable def S := S0 (C R c1) Tryz.f150 0
noncomputable def G := G0 (C R c1) Tryz.f150 0
def s2 := fun x0 x1 => (⟨dZ 60 [(0, .str x0), (4, .int .i64 x1)], [], dW⟩ : St)
def s5 := fun x0 x1 x2 => (⟨dZ 60 [(0, .str x0), (4, .int .i64 x1), (5, .str x2)], [], dW⟩ : St)
noncomputable abbrev q2 {R : Type} (J : JT R) : BA -> Int -> Option R := fun x0 x1 => J (placeOf Tryz.f150 2) (s2 x0 x1)
noncomputable abbrev q5 {R : Type} (J : JT R) : J5 R := fun x0 x1 x2 => J (placeOf Tryz.f150 5) (s5 x0 x1 x2)
theorem k2 (J : JT R) (κ : KT R) (x0 x1 : _) : S R c1 κ J 2 (s2 x0 x1) = t2 (q2 J) (q5 J) x0 x1 := by kernel_rfl
theorem k5 (J : JT R) (κ : KT R) (x0 x1 x2 : _) : S R c1 κ J 5 (s5 x0 x1 x2) = t5 c1 (q5 J) (K0 κ) x0 x1 x2 := by kernel_rfl
theorem k (κ : KT R) (k : Nat) (a0 : _) : b8 (C R c1) Tryz.f150 10000 k [.str a0] κ = bE.e c1 a0 (q2 (G R c1 κ k)) (q5 (G R c1 κ k)) (K0 κ) := by kernel_rfl
theorem g5 (κ : KT R) : ∀ (f : Nat), q5 (G R c1 κ f) = L5 c1 (K0 κ) f
 | 0 => rfl
 | f + 1 => by
  funext x0 x1 x2
  show S R c1 κ (G R c1 κ f) 5 _ = _
  rw [k5, g5 κ f]
  rfl
theorem g2 (κ : KT R) : ∀ (f : Nat), q2 (G R c1 κ f) = L2 c1 (K0 κ) f
 | 0 => rfl
 | f + 1 => by
  funext x0 x1
  show S R c1 κ (G R c1 κ f) 2 _ = _
  rw [k2, g2 κ f, g5 R c1 κ f]
  rfl
end
theorem ac {R : Type} (tab : bO) (ht : av tab) (g : Nat) : bL (R := R) Tryz.prog (ae bj) tab g ((C R aS).call g) := by
 refine aD fun xs κ => ?_
 show aa _ _ _ g xs κ (Γ R aS g xs κ)
 unfold Γ
 split
 ·split
  ·exact aS.aE tab ht _ κ
  ·exact aa.none
 ·exact aa.none
theorem aE {R : Type} (tab : bO) (ht : av tab) (a0 : _) (κ : KT R) : aa Tryz.prog (ae bj) tab 150 [.str a0] κ (bE a0 (K0 κ)) := ah (C := C R aS) (fn := Tryz.f150) cd (ac tab ht) (by kernel_rfl) (by kernel_rfl) (by rw [k]; rw [g2 R aS κ ag, g5 R aS κ ag]; rfl)
end bE
namespace bR
abbrev K0 {R : Type} (κ : KT R) : LA -> Option R := fun r0 => κ [.fr 161 r0 true]
section
variable (R : Type) (c1 : aV.F R) (c2 : aP.F R) (c3 : aS.F R) (c4 : bE.F R)
def Γ (g : Nat) (xs : List SV) (κ : KT R) : Option R :=
 match g with
 | 127 => (match xs with
  | [.str a0, .str a1] => c1 a0 a1 (aV.K0 κ)
  | _ => none)
 | 128 => (match xs with
  | [.str a0, .str a1] => c2 a0 a1 (aP.K0 κ)
  | _ => none)
 | 149 => (match xs with
  | [.int .u8 a0] => c3 a0 (aS.K0 κ)
  | _ => none)
 | 150 => (match xs with
  | [.str a0] => c4 a0 (bE.K0 κ)
  | _ => none)
 | _ => none
def h (n : Nat) : Option (List (Nat × List (Nat × Nat))) :=
 match n with
 | 3 => some [(0, [(0, 0)]), (3, [(0, 163)]), (4, [(0, 0)]), (5, [(0, 0)])]
 | _ => none
def C : Cfg R := ⟨ae bj, Γ R c1 c2 c3 c4, fun _ => false, h, 0, fun _ => false⟩
noncomputable def S := S0 (C R c1 c2 c3 c4) Tryz.f110 0
noncomputable def G := G0 (C R c1 c2 c3 c4) Tryz.f110 0
def s3 := fun x0 x1 x2 x3 => (⟨dZ 52 [(0, .str x0), (3, .own 256), (4, .bool x1), (5, .str x2)], [(256, .row 161 x3 true)], dW⟩ : St)
noncomputable abbrev q3 {R : Type} (J : JT R) : J3 R := fun x0 x1 x2 x3 => J (placeOf Tryz.f110 3) (s3 x0 x1 x2 x3)
theorem k3 (J : JT R) (κ : KT R) (x0 x1 x2 x3 : _) : S R c1 c2 c3 c4 κ J 3 (s3 x0 x1 x2 x3) = t3 c1 c2 c3 c4 (q3 J) (K0 κ) x0 x1 x2 x3 := by kernel_rfl
theorem k (κ : KT R) (k : Nat) (a0 : _) : b8 (C R c1 c2 c3 c4) Tryz.f110 10000 k [.str a0] κ = bR.e c1 c2 c3 c4 a0 (q3 (G R c1 c2 c3 c4 κ k)) (K0 κ) := by kernel_rfl
theorem g3 (κ : KT R) : ∀ (f : Nat), q3 (G R c1 c2 c3 c4 κ f) = L3 c1 c2 c3 c4 (K0 κ) f
 | 0 => rfl
 | f + 1 => by
  funext x0 x1 x2 x3
  show S R c1 c2 c3 c4 κ (G R c1 c2 c3 c4 κ f) 3 _ = _
  rw [k3, g3 κ f]
  rfl
end
theorem ac {R : Type} (tab : bO) (ht : av tab) (g : Nat) : bL (R := R) Tryz.prog (ae bj) tab g ((C R aV aP aS bE).call g) := by
 refine aD fun xs κ => ?_
 show aa _ _ _ g xs κ (Γ R aV aP aS bE g xs κ)
 unfold Γ
 split
 ·split
  ·exact aV.aE tab ht _ _ κ
  ·exact aa.none
 ·split
  ·exact aP.aE tab ht _ _ κ
  ·exact aa.none
 ·split
  ·exact aS.aE tab ht _ κ
  ·exact aa.none
 ·split
  ·exact bE.aE tab ht _ κ
  ·exact aa.none
 ·exact aa.none
theorem aE {R : Type} (tab : bO) (ht : av tab) (a0 : _) (κ : KT R) : aa Tryz.prog (ae bj) tab 110 [.str a0] κ (bR a0 (K0 κ)) := ah (C := C R aV aP aS bE) (fn := Tryz.f110) cd (ac tab ht) (by kernel_rfl) (by kernel_rfl) (by rw [k]; rw [g3 R aV aP aS bE κ ag]; rfl)
end bR
namespace cv
abbrev K0 {R : Type} (κ : KT R) : Bool -> Option R := fun r0 => κ [.bool r0]
section
variable (R : Type)
def Γ (g : Nat) (xs : List SV) (κ : KT R) : Option R :=
 match g with
 | _ => none
def h (n : Nat) : Option (List (Nat × List (Nat × Nat))) :=
 match n with
 | _ => none
def C : Cfg R := ⟨ae bj, Γ R, fun _ => false, h, 0, fun _ => false⟩
theorem k (κ : KT R) (k : Nat) (a0 a1 : _) : b8 (C R) Tryz.f153 10000 k [.str a0, .str a1] κ = cv.e a0 a1 (K0 κ) := by kernel_rfl
end
theorem ac {R : Type} (tab : bO) (ht : av tab) (g : Nat) : bL (R := R) Tryz.prog (ae bj) tab g ((C R).call g) := by
 refine aD fun xs κ => ?_
 show aa _ _ _ g xs κ (Γ R g xs κ)
 unfold Γ
 split
 ·exact aa.none
theorem aE {R : Type} (tab : bO) (ht : av tab) (a0 a1 : _) (κ : KT R) : aa Tryz.prog (ae bj) tab 153 [.str a0, .str a1] κ (cv a0 a1 (K0 κ)) := ah (C := C R) (fn := Tryz.f153) cd (ac tab ht) (by kernel_rfl) (by kernel_rfl) (by rw [k]; rfl)
end cv
namespace cb
abbrev K0 {R : Type} (κ : KT R) : BA -> Option R := fun r0 => κ [.str r0]
section
variable (R : Type) (c1 : cv.F R)
def Γ (g : Nat) (xs : List SV) (κ : KT R) : Option R :=
 match g with
 | 153 => (match xs with
  | [.str a0, .str a1] => c1 a0 a1 (cv.K0 κ)
  | _ => none)
 | _ => none
def h (n : Nat) : Option (List (Nat × List (Nat × Nat))) :=
 match n with
 | _ => none
def C : Cfg R := ⟨ae bj, Γ R c1, fun _ => false, h, 0, fun _ => false⟩
theorem k (κ : KT R) (k : Nat) (a0 a1 : _) : b8 (C R c1) Tryz.f163 10000 k [.str a0, .str a1] κ = cb.e c1 a0 a1 (K0 κ) := by kernel_rfl
end
theorem ac {R : Type} (tab : bO) (ht : av tab) (g : Nat) : bL (R := R) Tryz.prog (ae bj) tab g ((C R cv).call g) := by
 refine aD fun xs κ => ?_
 show aa _ _ _ g xs κ (Γ R cv g xs κ)
 unfold Γ
 split
 ·split
  ·exact cv.aE tab ht _ _ κ
  ·exact aa.none
 ·exact aa.none
theorem aE {R : Type} (tab : bO) (ht : av tab) (a0 a1 : _) (κ : KT R) : aa Tryz.prog (ae bj) tab 163 [.str a0, .str a1] κ (cb a0 a1 (K0 κ)) := ah (C := C R cv) (fn := Tryz.f163) cd (ac tab ht) (by kernel_rfl) (by kernel_rfl) (by rw [k]; rfl)
end cb
namespace aJ
abbrev K0 {R : Type} (κ : KT R) : BA -> Option R := fun r0 => κ [.str r0]
section
variable (R : Type) (c1 : cb.F R)
def Γ (g : Nat) (xs : List SV) (κ : KT R) : Option R :=
 match g with
 | 163 => (match xs with
  | [.str a0, .str a1] => c1 a0 a1 (cb.K0 κ)
  | _ => none)
 | _ => none
def h (n : Nat) : Option (List (Nat × List (Nat × Nat))) :=
 match n with
 | _ => none
def C : Cfg R := ⟨ae bj, Γ R c1, fun _ => false, h, 0, fun _ => false⟩
theorem k (κ : KT R) (k : Nat) (a0 a1 : _) : b8 (C R c1) Tryz.f122 10000 k [.str a0, .str a1] κ = aJ.e c1 a0 a1 (K0 κ) := by kernel_rfl
end
theorem ac {R : Type} (tab : bO) (ht : av tab) (g : Nat) : bL (R := R) Tryz.prog (ae bj) tab g ((C R cb).call g) := by
 refine aD fun xs κ => ?_
 show aa _ _ _ g xs κ (Γ R cb g xs κ)
 unfold Γ
 split
 ·split
  ·exact cb.aE tab ht _ _ κ
  ·exact aa.none
 ·exact aa.none
theorem aE {R : Type} (tab : bO) (ht : av tab) (a0 a1 : _) (κ : KT R) : aa Tryz.prog (ae bj) tab 122 [.str a0, .str a1] κ (aJ a0 a1 (K0 κ)) := ah (C := C R cb) (fn := Tryz.f122) cd (ac tab ht) (by kernel_rfl) (by kernel_rfl) (by rw [k]; rfl)
end aJ
theorem cK.aE {R : Type} (tab : bO) (ht : av tab) (a0 : BA) (a1 : Int) (κ : List SV -> Option R) : aa Tryz.prog (ae bj) tab 192 [.str a0, .int .u8 a1] κ (cK a0 a1 (fun r0 => κ [.int .i64 r0])) :=
 ju (show Tryz.prog.funcs[192]? = some Tryz.f192 by kernel_rfl) (by kernel_rfl) (by kernel_rfl) (by kernel_rfl) (by kernel_rfl) a0 a1 κ
namespace cJ
abbrev K0 {R : Type} (κ : KT R) : Int -> Option R := fun r0 => κ [.int .i64 r0]
section
variable (R : Type) (c1 : cK.F R)
def Γ (g : Nat) (xs : List SV) (κ : KT R) : Option R :=
 match g with
 | 192 => (match xs with
  | [.str a0, .int .u8 a1] => c1 a0 a1 (fun r0 => κ [.int .i64 r0])
  | _ => none)
 | _ => none
def h (n : Nat) : Option (List (Nat × List (Nat × Nat))) :=
 match n with
 | _ => none
def C : Cfg R := ⟨ae bj, Γ R c1, fun _ => false, h, 0, fun _ => false⟩
theorem k (κ : KT R) (k : Nat) (a0 a1 : _) : b8 (C R c1) Tryz.f164 10000 k [.str a0, .int .u8 a1] κ = cJ.e c1 a0 a1 (K0 κ) := by kernel_rfl
end
theorem ac {R : Type} (tab : bO) (ht : av tab) (g : Nat) : bL (R := R) Tryz.prog (ae bj) tab g ((C R cK).call g) := by
 refine aD fun xs κ => ?_
 show aa _ _ _ g xs κ (Γ R cK g xs κ)
 unfold Γ
 split
 ·split
  ·exact cK.aE tab ht _ _ κ
  ·exact aa.none
 ·exact aa.none
theorem aE {R : Type} (tab : bO) (ht : av tab) (a0 a1 : _) (κ : KT R) : aa Tryz.prog (ae bj) tab 164 [.str a0, .int .u8 a1] κ (cJ a0 a1 (K0 κ)) := ah (C := C R cK) (fn := Tryz.f164) cd (ac tab ht) (by kernel_rfl) (by kernel_rfl) (by rw [k]; rfl)
end cJ
namespace ay
abbrev K0 {R : Type} (κ : KT R) : Int -> Option R := fun r0 => κ [.int .i64 r0]
section
variable (R : Type) (c1 : cJ.F R)
def Γ (g : Nat) (xs : List SV) (κ : KT R) : Option R :=
 match g with
 | 164 => (match xs with
  | [.str a0, .int .u8 a1] => c1 a0 a1 (cJ.K0 κ)
  | _ => none)
 | _ => none
def h (n : Nat) : Option (List (Nat × List (Nat × Nat))) :=
 match n with
 | _ => none
def C : Cfg R := ⟨ae bj, Γ R c1, fun _ => false, h, 0, fun _ => false⟩
theorem k (κ : KT R) (k : Nat) (a0 a1 : _) : b8 (C R c1) Tryz.f123 10000 k [.str a0, .int .u8 a1] κ = ay.e c1 a0 a1 (K0 κ) := by kernel_rfl
end
theorem ac {R : Type} (tab : bO) (ht : av tab) (g : Nat) : bL (R := R) Tryz.prog (ae bj) tab g ((C R cJ).call g) := by
 refine aD fun xs κ => ?_
 show aa _ _ _ g xs κ (Γ R cJ g xs κ)
 unfold Γ
 split
 ·split
  ·exact cJ.aE tab ht _ _ κ
  ·exact aa.none
 ·exact aa.none
theorem aE {R : Type} (tab : bO) (ht : av tab) (a0 a1 : _) (κ : KT R) : aa Tryz.prog (ae bj) tab 123 [.str a0, .int .u8 a1] κ (ay a0 a1 (K0 κ)) := ah (C := C R cJ) (fn := Tryz.f123) cd (ac tab ht) (by kernel_rfl) (by kernel_rfl) (by rw [k]; rfl)
end ay
namespace bM
abbrev K0 {R : Type} (κ : KT R) : BA -> Option R := fun r0 => κ [.str r0]
section
variable (R : Type)
def Γ (g : Nat) (xs : List SV) (κ : KT R) : Option R :=
 match g with
 | _ => none
def h (n : Nat) : Option (List (Nat × List (Nat × Nat))) :=
 match n with
 | 1 => some [(0, [(0, 0)]), (1, [(0, 0)])]
 | _ => none
def C : Cfg R := ⟨ae bj, Γ R, fun _ => false, h, 0, fun _ => false⟩
noncomputable def S := S0 (C R) Tryz.f166 0
noncomputable def G := G0 (C R) Tryz.f166 0
def s1 := fun x0 x1 => (⟨dZ 23 [(0, .str x0), (1, .int .u8 x1)], [], dW⟩ : St)
noncomputable abbrev q1 {R : Type} (J : JT R) : BA -> Int -> Option R := fun x0 x1 => J (placeOf Tryz.f166 1) (s1 x0 x1)
theorem k1 (J : JT R) (κ : KT R) (x0 x1 : _) : S R κ J 1 (s1 x0 x1) = t1 (q1 J) (K0 κ) x0 x1 := by kernel_rfl
theorem k (κ : KT R) (k : Nat) (a0 a1 : _) : b8 (C R) Tryz.f166 10000 k [.str a0, .int .u8 a1] κ = bM.e a0 a1 (q1 (G R κ k)) (K0 κ) := by kernel_rfl
theorem g1 (κ : KT R) : ∀ (f : Nat), q1 (G R κ f) = L1 (K0 κ) f
 | 0 => rfl
 | f + 1 => by
  funext x0 x1
  show S R κ (G R κ f) 1 _ = _
  rw [k1, g1 κ f]
  rfl
end
theorem ac {R : Type} (tab : bO) (ht : av tab) (g : Nat) : bL (R := R) Tryz.prog (ae bj) tab g ((C R).call g) := by
 refine aD fun xs κ => ?_
 show aa _ _ _ g xs κ (Γ R g xs κ)
 unfold Γ
 split
 ·exact aa.none
theorem aE {R : Type} (tab : bO) (ht : av tab) (a0 a1 : _) (κ : KT R) : aa Tryz.prog (ae bj) tab 166 [.str a0, .int .u8 a1] κ (bM a0 a1 (K0 κ)) := ah (C := C R) (fn := Tryz.f166) cd (ac tab ht) (by kernel_rfl) (by kernel_rfl) (by rw [k]; rw [g1 R κ ag]; rfl)
end bM
namespace bP
abbrev K0 {R : Type} (κ : KT R) : BA -> Option R := fun r0 => κ [.str r0]
section
variable (R : Type)
def Γ (g : Nat) (xs : List SV) (κ : KT R) : Option R :=
 match g with
 | _ => none
def h (n : Nat) : Option (List (Nat × List (Nat × Nat))) :=
 match n with
 | 1 => some [(0, [(0, 0)]), (1, [(0, 0)])]
 | _ => none
def C : Cfg R := ⟨ae bj, Γ R, fun _ => false, h, 0, fun _ => false⟩
noncomputable def S := S0 (C R) Tryz.f165 0
noncomputable def G := G0 (C R) Tryz.f165 0
def s1 := fun x0 x1 => (⟨dZ 17 [(0, .str x0), (1, .int .u8 x1)], [], dW⟩ : St)
noncomputable abbrev q1 {R : Type} (J : JT R) : BA -> Int -> Option R := fun x0 x1 => J (placeOf Tryz.f165 1) (s1 x0 x1)
theorem k1 (J : JT R) (κ : KT R) (x0 x1 : _) : S R κ J 1 (s1 x0 x1) = t1 (q1 J) (K0 κ) x0 x1 := by kernel_rfl
theorem k (κ : KT R) (k : Nat) (a0 a1 : _) : b8 (C R) Tryz.f165 10000 k [.str a0, .int .u8 a1] κ = bP.e a0 a1 (q1 (G R κ k)) (K0 κ) := by kernel_rfl
theorem g1 (κ : KT R) : ∀ (f : Nat), q1 (G R κ f) = L1 (K0 κ) f
 | 0 => rfl
 | f + 1 => by
  funext x0 x1
  show S R κ (G R κ f) 1 _ = _
  rw [k1, g1 κ f]
  rfl
end
theorem ac {R : Type} (tab : bO) (ht : av tab) (g : Nat) : bL (R := R) Tryz.prog (ae bj) tab g ((C R).call g) := by
 refine aD fun xs κ => ?_
 show aa _ _ _ g xs κ (Γ R g xs κ)
 unfold Γ
 split
 ·exact aa.none
theorem aE {R : Type} (tab : bO) (ht : av tab) (a0 a1 : _) (κ : KT R) : aa Tryz.prog (ae bj) tab 165 [.str a0, .int .u8 a1] κ (bP a0 a1 (K0 κ)) := ah (C := C R) (fn := Tryz.f165) cd (ac tab ht) (by kernel_rfl) (by kernel_rfl) (by rw [k]; rw [g1 R κ ag]; rfl)
end bP
namespace bN
abbrev K0 {R : Type} (κ : KT R) : LA -> Bool -> Option R := fun r0 r1 => κ [.tup [.ar 4 256 r0, .bool r1]]
section
variable (R : Type)
def Γ (g : Nat) (xs : List SV) (κ : KT R) : Option R :=
 match g with
 | _ => none
def h (n : Nat) : Option (List (Nat × List (Nat × Nat))) :=
 match n with
 | 2 => some [(0, [(0, 0)]), (2, [(0, 0)]), (4, [(0, 0)])]
 | _ => none
def C : Cfg R := ⟨ae bj, Γ R, fun _ => false, h, 0, fun _ => false⟩
noncomputable def S := S0 (C R) Tryz.f167 0
noncomputable def G := G0 (C R) Tryz.f167 0
def s2 := fun x0 x1 x2 => (⟨dZ 21 [(0, .str x0), (2, .ap 192 256), (4, .int .i64 x1)], [(192, .row 4 x2 true)], dW⟩ : St)
noncomputable abbrev q2 {R : Type} (J : JT R) : J2 R := fun x0 x1 x2 => J (placeOf Tryz.f167 2) (s2 x0 x1 x2)
theorem k2 (J : JT R) (κ : KT R) (x0 x1 x2 : _) : S R κ J 2 (s2 x0 x1 x2) = t2 (q2 J) (K0 κ) x0 x1 x2 := by kernel_rfl
theorem k (κ : KT R) (k : Nat) (a0 : _) : b8 (C R) Tryz.f167 10000 k [.str a0] κ = bN.e a0 (q2 (G R κ k)) (K0 κ) := by kernel_rfl
theorem g2 (κ : KT R) : ∀ (f : Nat), q2 (G R κ f) = L2 (K0 κ) f
 | 0 => rfl
 | f + 1 => by
  funext x0 x1 x2
  show S R κ (G R κ f) 2 _ = _
  rw [k2, g2 κ f]
  rfl
end
theorem ac {R : Type} (tab : bO) (ht : av tab) (g : Nat) : bL (R := R) Tryz.prog (ae bj) tab g ((C R).call g) := by
 refine aD fun xs κ => ?_
 show aa _ _ _ g xs κ (Γ R g xs κ)
 unfold Γ
 split
 ·exact aa.none
theorem aE {R : Type} (tab : bO) (ht : av tab) (a0 : _) (κ : KT R) : aa Tryz.prog (ae bj) tab 167 [.str a0] κ (bN a0 (K0 κ)) := ah (C := C R) (fn := Tryz.f167) cd (ac tab ht) (by kernel_rfl) (by kernel_rfl) (by rw [k]; rw [g2 R κ ag]; rfl)
end bN
namespace al
abbrev K0 {R : Type} (κ : KT R) : Bool -> Option R := fun r0 => κ [.bool r0]
section
variable (R : Type)
def Γ (g : Nat) (xs : List SV) (κ : KT R) : Option R :=
 match g with
 | _ => none
def h (n : Nat) : Option (List (Nat × List (Nat × Nat))) :=
 match n with
 | _ => none
def C : Cfg R := ⟨ae bj, Γ R, fun _ => false, h, 0, fun _ => false⟩
theorem k (κ : KT R) (k : Nat) (a0 a1 : _) : b8 (C R) Tryz.f193 10000 k [.ra 4 256 a0 true, .int .u8 a1] κ = al.e a0 a1 (K0 κ) := by kernel_rfl
end
theorem ac {R : Type} (tab : bO) (ht : av tab) (g : Nat) : bL (R := R) Tryz.prog (ae bj) tab g ((C R).call g) := by
 refine aD fun xs κ => ?_
 show aa _ _ _ g xs κ (Γ R g xs κ)
 unfold Γ
 split
 ·exact aa.none
theorem aE {R : Type} (tab : bO) (ht : av tab) (a0 a1 : _) (κ : KT R) : aa Tryz.prog (ae bj) tab 193 [.ra 4 256 a0 true, .int .u8 a1] κ (al a0 a1 (K0 κ)) := ah (C := C R) (fn := Tryz.f193) cd (ac tab ht) (by kernel_rfl) (by kernel_rfl) (by rw [k]; rfl)
end al
namespace ba
abbrev K0 {R : Type} (κ : KT R) : BA -> Option R := fun r0 => κ [.str r0]
section
variable (R : Type) (c1 : al.F R)
def Γ (g : Nat) (xs : List SV) (κ : KT R) : Option R :=
 match g with
 | 193 => (match xs with
  | [.ra 4 256 a0 true, .int .u8 a1] => c1 a0 a1 (al.K0 κ)
  | _ => none)
 | _ => none
def h (n : Nat) : Option (List (Nat × List (Nat × Nat))) :=
 match n with
 | 1 => some [(0, [(0, 0)]), (1, [(0, 0)])]
 | _ => none
def C : Cfg R := ⟨ae bj, Γ R c1, fun g => Nat.beq g 193, h, 0, fun _ => false⟩
noncomputable def S := S0 (C R c1) Tryz.f169 0
noncomputable def G := G0 (C R c1) Tryz.f169 0
def s1 := fun x0 x1 => (⟨dZ 22 [(0, .str x0), (1, .ra 4 256 x1 true)], [], dW⟩ : St)
noncomputable abbrev q1 {R : Type} (J : JT R) : BA -> LA -> Option R := fun x0 x1 => J (placeOf Tryz.f169 1) (s1 x0 x1)
theorem k1 (J : JT R) (κ : KT R) (x0 x1 : _) : S R c1 κ J 1 (s1 x0 x1) = t1 c1 (q1 J) (K0 κ) x0 x1 := by kernel_rfl
theorem k (κ : KT R) (k : Nat) (a0 a1 : _) : b8 (C R c1) Tryz.f169 10000 k [.str a0, .ra 4 256 a1 true] κ = ba.e c1 a0 a1 (q1 (G R c1 κ k)) (K0 κ) := by kernel_rfl
theorem g1 (κ : KT R) : ∀ (f : Nat), q1 (G R c1 κ f) = L1 c1 (K0 κ) f
 | 0 => rfl
 | f + 1 => by
  funext x0 x1
  show S R c1 κ (G R c1 κ f) 1 _ = _
  rw [k1, g1 κ f]
  rfl
end
theorem ac {R : Type} (tab : bO) (ht : av tab) (g : Nat) : bL (R := R) Tryz.prog (ae bj) tab g ((C R al).call g) := by
 refine aD fun xs κ => ?_
 show aa _ _ _ g xs κ (Γ R al g xs κ)
 unfold Γ
 split
 ·split
  ·exact al.aE tab ht _ _ κ
  ·exact aa.none
 ·exact aa.none
theorem aE {R : Type} (tab : bO) (ht : av tab) (a0 a1 : _) (κ : KT R) : aa Tryz.prog (ae bj) tab 169 [.str a0, .ra 4 256 a1 true] κ (ba a0 a1 (K0 κ)) := ah (C := C R al) (fn := Tryz.f169) cd (ac tab ht) (by kernel_rfl) (by kernel_rfl) (by rw [k]; rw [g1 R al κ ag]; rfl)
end ba
namespace bg
abbrev K0 {R : Type} (κ : KT R) : BA -> Option R := fun r0 => κ [.str r0]
section
variable (R : Type) (c1 : al.F R)
def Γ (g : Nat) (xs : List SV) (κ : KT R) : Option R :=
 match g with
 | 193 => (match xs with
  | [.ra 4 256 a0 true, .int .u8 a1] => c1 a0 a1 (al.K0 κ)
  | _ => none)
 | _ => none
def h (n : Nat) : Option (List (Nat × List (Nat × Nat))) :=
 match n with
 | 1 => some [(0, [(0, 0)]), (1, [(0, 0)])]
 | _ => none
def C : Cfg R := ⟨ae bj, Γ R c1, fun g => Nat.beq g 193, h, 0, fun _ => false⟩
noncomputable def S := S0 (C R c1) Tryz.f168 0
noncomputable def G := G0 (C R c1) Tryz.f168 0
def s1 := fun x0 x1 => (⟨dZ 16 [(0, .str x0), (1, .ra 4 256 x1 true)], [], dW⟩ : St)
noncomputable abbrev q1 {R : Type} (J : JT R) : BA -> LA -> Option R := fun x0 x1 => J (placeOf Tryz.f168 1) (s1 x0 x1)
theorem k1 (J : JT R) (κ : KT R) (x0 x1 : _) : S R c1 κ J 1 (s1 x0 x1) = t1 c1 (q1 J) (K0 κ) x0 x1 := by kernel_rfl
theorem k (κ : KT R) (k : Nat) (a0 a1 : _) : b8 (C R c1) Tryz.f168 10000 k [.str a0, .ra 4 256 a1 true] κ = bg.e c1 a0 a1 (q1 (G R c1 κ k)) (K0 κ) := by kernel_rfl
theorem g1 (κ : KT R) : ∀ (f : Nat), q1 (G R c1 κ f) = L1 c1 (K0 κ) f
 | 0 => rfl
 | f + 1 => by
  funext x0 x1
  show S R c1 κ (G R c1 κ f) 1 _ = _
  rw [k1, g1 κ f]
  rfl
end
theorem ac {R : Type} (tab : bO) (ht : av tab) (g : Nat) : bL (R := R) Tryz.prog (ae bj) tab g ((C R al).call g) := by
 refine aD fun xs κ => ?_
 show aa _ _ _ g xs κ (Γ R al g xs κ)
 unfold Γ
 split
 ·split
  ·exact al.aE tab ht _ _ κ
  ·exact aa.none
 ·exact aa.none
theorem aE {R : Type} (tab : bO) (ht : av tab) (a0 a1 : _) (κ : KT R) : aa Tryz.prog (ae bj) tab 168 [.str a0, .ra 4 256 a1 true] κ (bg a0 a1 (K0 κ)) := ah (C := C R al) (fn := Tryz.f168) cd (ac tab ht) (by kernel_rfl) (by kernel_rfl) (by rw [k]; rw [g1 R al κ ag]; rfl)
end bg
namespace bA
abbrev K0 {R : Type} (κ : KT R) : BA -> Option R := fun r0 => κ [.str r0]
section
variable (R : Type) (c1 : bM.F R) (c2 : bP.F R) (c3 : bN.F R) (c4 : ba.F R) (c5 : bg.F R)
def Γ (g : Nat) (xs : List SV) (κ : KT R) : Option R :=
 match g with
 | 165 => (match xs with
  | [.str a0, .int .u8 a1] => c2 a0 a1 (bP.K0 κ)
  | _ => none)
 | 166 => (match xs with
  | [.str a0, .int .u8 a1] => c1 a0 a1 (bM.K0 κ)
  | _ => none)
 | 167 => (match xs with
  | [.str a0] => c3 a0 (bN.K0 κ)
  | _ => none)
 | 168 => (match xs with
  | [.str a0, .ra 4 256 a1 true] => c5 a0 a1 (bg.K0 κ)
  | _ => none)
 | 169 => (match xs with
  | [.str a0, .ra 4 256 a1 true] => c4 a0 a1 (ba.K0 κ)
  | _ => none)
 | _ => none
def h (n : Nat) : Option (List (Nat × List (Nat × Nat))) :=
 match n with
 | _ => none
def C : Cfg R := ⟨ae bj, Γ R c1 c2 c3 c4 c5, fun g => Nat.beq g 168 || Nat.beq g 169, h, 0, fun _ => false⟩
theorem k (κ : KT R) (k : Nat) (a0 a1 : _) : b8 (C R c1 c2 c3 c4 c5) Tryz.f124 10000 k [.str a0, .str a1] κ = bA.e c1 c2 c3 c4 c5 a0 a1 (K0 κ) := by kernel_rfl
end
theorem ac {R : Type} (tab : bO) (ht : av tab) (g : Nat) : bL (R := R) Tryz.prog (ae bj) tab g ((C R bM bP bN ba bg).call g) := by
 refine aD fun xs κ => ?_
 show aa _ _ _ g xs κ (Γ R bM bP bN ba bg g xs κ)
 unfold Γ
 split
 ·split
  ·exact bP.aE tab ht _ _ κ
  ·exact aa.none
 ·split
  ·exact bM.aE tab ht _ _ κ
  ·exact aa.none
 ·split
  ·exact bN.aE tab ht _ κ
  ·exact aa.none
 ·split
  ·exact bg.aE tab ht _ _ κ
  ·exact aa.none
 ·split
  ·exact ba.aE tab ht _ _ κ
  ·exact aa.none
 ·exact aa.none
theorem aE {R : Type} (tab : bO) (ht : av tab) (a0 a1 : _) (κ : KT R) : aa Tryz.prog (ae bj) tab 124 [.str a0, .str a1] κ (bA a0 a1 (K0 κ)) := ah (C := C R bM bP bN ba bg) (fn := Tryz.f124) cd (ac tab ht) (by kernel_rfl) (by kernel_rfl) (by rw [k]; rfl)
end bA
namespace aU
abbrev K0 {R : Type} (κ : KT R) : LA -> Option R := fun r0 => κ [.fr 168 r0 true]
section
variable (R : Type) (c1 : bR.F R) (c2 : bA.F R) (c3 : aJ.F R) (c4 : ay.F R)
def Γ (g : Nat) (xs : List SV) (κ : KT R) : Option R :=
 match g with
 | 110 => (match xs with
  | [.str a0] => c1 a0 (bR.K0 κ)
  | _ => none)
 | 122 => (match xs with
  | [.str a0, .str a1] => c3 a0 a1 (aJ.K0 κ)
  | _ => none)
 | 123 => (match xs with
  | [.str a0, .int .u8 a1] => c4 a0 a1 (ay.K0 κ)
  | _ => none)
 | 124 => (match xs with
  | [.str a0, .str a1] => c2 a0 a1 (bA.K0 κ)
  | _ => none)
 | _ => none
def h (n : Nat) : Option (List (Nat × List (Nat × Nat))) :=
 match n with
 | 4 => some [(3, [(0, 170)]), (4, [(0, 11)]), (10, [(0, 0)]), (11, [(0, 0)]), (12, [(0, 0)])]
 | 8 => some [(3, [(0, 0)]), (4, [(0, 0)]), (6, [(0, 0)]), (10, [(0, 0)]), (11, [(0, 0)]), (12, [(0, 0)])]
 | 13 => some [(3, [(0, 170)]), (4, [(0, 11)]), (6, [(0, 0)]), (7, [(0, 0)]), (10, [(0, 0)]), (11, [(0, 0)]), (12, [(0, 0)])]
 | 15 => some [(3, [(0, 170)]), (4, [(0, 11)]), (10, [(0, 0)]), (11, [(0, 0)]), (12, [(0, 0)])]
 | 17 => some [(3, [(0, 0)]), (4, [(0, 0)]), (72, [(0, 0)]), (73, [(0, 0)])]
 | _ => none
def C : Cfg R := ⟨ae bj, Γ R c1 c2 c3 c4, fun _ => false, h, 0, fun _ => false⟩
noncomputable def S := S0 (C R c1 c2 c3 c4) Tryz.f76 0
noncomputable def G := G0 (C R c1 c2 c3 c4) Tryz.f76 0
def s4 := fun x0 x1 x2 x3 x4 => (⟨dZ 87 [(3, .own 256), (4, .own 320), (10, .own 704), (11, .int .i64 x0), (12, .int .i64 x1)], [(256, .row 168 x2 true), (320, .row 9 x3 true), (704, .row 161 x4 true)], dW⟩ : St)
def s8 := fun x0 x1 x2 x3 x4 x5 x6 x7 x8 => (⟨dZ 87 [(3, .own 256), (4, .own 320), (6, .ptr 511 0), (10, .own 704), (11, .int .i64 x0), (12, .int .i64 x1)], [(256, .row 168 x2 true), (320, .row 9 x3 true), (511, .var 161 [.str x4, .str x5, .bool x6, .bool x7]), (704, .row 161 x8 true)], dW⟩ : St)
def Ey := fun x0 x1 x2 x3 x4 x5 x6 x7 x8 x9 => (⟨dZ 87 [(3, .own 256), (4, .own 320), (6, .ptr 511 0), (7, .str x0), (10, .own 704), (11, .int .i64 x1), (12, .int .i64 x2)], [(256, .row 168 x3 true), (320, .row 9 x4 true), (511, .var 161 [.str x5, .str x6, .bool x7, .bool x8]), (704, .row 161 x9 true)], dW⟩ : St)
def B9 := fun x0 x1 x2 x3 x4 => (⟨dZ 87 [(3, .own 256), (4, .own 320), (10, .own 704), (11, .int .i64 x0), (12, .int .i64 x1)], [(256, .row 168 x2 true), (320, .row 9 x3 true), (704, .row 161 x4 true)], dW⟩ : St)
def DP := fun x0 x1 x2 x3 => (⟨dZ 87 [(3, .own 256), (4, .own 320), (72, .int .i64 x0), (73, .int .i64 x1)], [(256, .row 168 x2 true), (320, .row 9 x3 true)], dW⟩ : St)
noncomputable abbrev q4 {R : Type} (J : JT R) : J4 R := fun x0 x1 x2 x3 x4 => J (placeOf Tryz.f76 4) (s4 x0 x1 x2 x3 x4)
noncomputable abbrev q8 {R : Type} (J : JT R) : J8 R := fun x0 x1 x2 x3 x4 x5 x6 x7 x8 => J (placeOf Tryz.f76 8) (s8 x0 x1 x2 x3 x4 x5 x6 x7 x8)
noncomputable abbrev DV {R : Type} (J : JT R) : C8 R := fun x0 x1 x2 x3 x4 x5 x6 x7 x8 x9 => J (placeOf Tryz.f76 13) (Ey x0 x1 x2 x3 x4 x5 x6 x7 x8 x9)
noncomputable abbrev xU {R : Type} (J : JT R) : qR R := fun x0 x1 x2 x3 x4 => J (placeOf Tryz.f76 15) (B9 x0 x1 x2 x3 x4)
noncomputable abbrev AE {R : Type} (J : JT R) : vQ R := fun x0 x1 x2 x3 => J (placeOf Tryz.f76 17) (DP x0 x1 x2 x3)
theorem k4 (J : JT R) (κ : KT R) (x0 x1 x2 x3 x4 : _) : S R c1 c2 c3 c4 κ J 4 (s4 x0 x1 x2 x3 x4) = t4 (q8 J) (xU J) (AE J) x0 x1 x2 x3 x4 := by kernel_rfl
theorem k8 (J : JT R) (κ : KT R) (x0 x1 x2 x3 x4 x5 x6 x7 x8 : _) : S R c1 c2 c3 c4 κ J 8 (s8 x0 x1 x2 x3 x4 x5 x6 x7 x8) = t8 c3 c4 (DV J) x0 x1 x2 x3 x4 x5 x6 x7 x8 := by kernel_rfl
theorem EG (J : JT R) (κ : KT R) (x0 x1 x2 x3 x4 x5 x6 x7 x8 x9 : _) : S R c1 c2 c3 c4 κ J 13 (Ey x0 x1 x2 x3 x4 x5 x6 x7 x8 x9) = t13 (xU J) x0 x1 x2 x3 x4 x5 x6 x7 x8 x9 := by kernel_rfl
theorem Dy (J : JT R) (κ : KT R) (x0 x1 x2 x3 x4 : _) : S R c1 c2 c3 c4 κ J 15 (B9 x0 x1 x2 x3 x4) = t15 (q4 J) x0 x1 x2 x3 x4 := by kernel_rfl
theorem Eb (J : JT R) (κ : KT R) (x0 x1 x2 x3 : _) : S R c1 c2 c3 c4 κ J 17 (DP x0 x1 x2 x3) = t17 c2 (AE J) (K0 κ) x0 x1 x2 x3 := by kernel_rfl
theorem k (κ : KT R) (k : Nat) (a0 : _) : b8 (C R c1 c2 c3 c4) Tryz.f76 10000 k [.str a0] κ = aU.e c1 c2 c3 c4 a0 (q4 (G R c1 c2 c3 c4 κ k)) (q8 (G R c1 c2 c3 c4 κ k)) (DV (G R c1 c2 c3 c4 κ k)) (xU (G R c1 c2 c3 c4 κ k)) (AE (G R c1 c2 c3 c4 κ k)) (K0 κ) := by kernel_rfl
theorem g17 (κ : KT R) : ∀ (f : Nat), AE (G R c1 c2 c3 c4 κ f) = w6 c1 c2 c3 c4 (K0 κ) f
 | 0 => rfl
 | f + 1 => by
  funext x0 x1 x2 x3
  show S R c1 c2 c3 c4 κ (G R c1 c2 c3 c4 κ f) 17 _ = _
  rw [Eb, g17 κ f]
  rfl
theorem AB (κ : KT R) : ∀ (f : Nat), (q4 (G R c1 c2 c3 c4 κ f) = L4 c1 c2 c3 c4 (K0 κ) f) /\ (q8 (G R c1 c2 c3 c4 κ f) = L8 c1 c2 c3 c4 (K0 κ) f) /\ (DV (G R c1 c2 c3 c4 κ f) = Cc c1 c2 c3 c4 (K0 κ) f) /\ (xU (G R c1 c2 c3 c4 κ f) = mZ c1 c2 c3 c4 (K0 κ) f)
 | 0 => ⟨rfl, rfl, rfl, rfl⟩
 | f + 1 => by
  obtain ⟨ih0, ih1, ih2, ih3⟩ := AB κ f
  refine ⟨?_, ?_, ?_, ?_⟩
  ·funext x0 x1 x2 x3 x4
   show S R c1 c2 c3 c4 κ (G R c1 c2 c3 c4 κ f) 4 _ = _
   rw [k4, ih1, ih3, g17 R c1 c2 c3 c4 κ f]
   rfl
  ·funext x0 x1 x2 x3 x4 x5 x6 x7 x8
   show S R c1 c2 c3 c4 κ (G R c1 c2 c3 c4 κ f) 8 _ = _
   rw [k8, ih2]
   rfl
  ·funext x0 x1 x2 x3 x4 x5 x6 x7 x8 x9
   show S R c1 c2 c3 c4 κ (G R c1 c2 c3 c4 κ f) 13 _ = _
   rw [EG, ih3]
   rfl
  ·funext x0 x1 x2 x3 x4
   show S R c1 c2 c3 c4 κ (G R c1 c2 c3 c4 κ f) 15 _ = _
   rw [Dy, ih0]
   rfl
theorem g4 (κ : KT R) (f : Nat) : q4 (G R c1 c2 c3 c4 κ f) = L4 c1 c2 c3 c4 (K0 κ) f := (AB R c1 c2 c3 c4 κ f).1
theorem g8 (κ : KT R) (f : Nat) : q8 (G R c1 c2 c3 c4 κ f) = L8 c1 c2 c3 c4 (K0 κ) f := (AB R c1 c2 c3 c4 κ f).2.1
theorem g13 (κ : KT R) (f : Nat) : DV (G R c1 c2 c3 c4 κ f) = Cc c1 c2 c3 c4 (K0 κ) f := (AB R c1 c2 c3 c4 κ f).2.2.1
theorem g15 (κ : KT R) (f : Nat) : xU (G R c1 c2 c3 c4 κ f) = mZ c1 c2 c3 c4 (K0 κ) f := (AB R c1 c2 c3 c4 κ f).2.2.2
end
theorem ac {R : Type} (tab : bO) (ht : av tab) (g : Nat) : bL (R := R) Tryz.prog (ae bj) tab g ((C R bR bA aJ ay).call g) := by
 refine aD fun xs κ => ?_
 show aa _ _ _ g xs κ (Γ R bR bA aJ ay g xs κ)
 unfold Γ
 split
 ·split
  ·exact bR.aE tab ht _ κ
  ·exact aa.none
 ·split
  ·exact aJ.aE tab ht _ _ κ
  ·exact aa.none
 ·split
  ·exact ay.aE tab ht _ _ κ
  ·exact aa.none
 ·split
  ·exact bA.aE tab ht _ _ κ
  ·exact aa.none
 ·exact aa.none
theorem aE {R : Type} (tab : bO) (ht : av tab) (a0 : _) (κ : KT R) : aa Tryz.prog (ae bj) tab 76 [.str a0] κ (aU a0 (K0 κ)) := ah (C := C R bR bA aJ ay) (fn := Tryz.f76) cd (ac tab ht) (by kernel_rfl) (by kernel_rfl) (by rw [k]; rw [g4 R bR bA aJ ay κ ag, g8 R bR bA aJ ay κ ag, g13 R bR bA aJ ay κ ag, g15 R bR bA aJ ay κ ag, g17 R bR bA aJ ay κ ag]; rfl)
end aU
namespace bw
abbrev K0 {R : Type} (κ : KT R) : BA -> Option R := fun r0 => κ [.str r0]
section
variable (R : Type)
def Γ (g : Nat) (xs : List SV) (κ : KT R) : Option R :=
 match g with
 | _ => none
def h (n : Nat) : Option (List (Nat × List (Nat × Nat))) :=
 match n with
 | 3 => some [(3, [(0, 0)]), (8, [(0, 0)]), (9, [(0, 0)]), (10, [(0, 0)])]
 | _ => none
def C : Cfg R := ⟨ae bj, Γ R, fun _ => false, h, 0, fun _ => false⟩
noncomputable def S := S0 (C R) Tryz.f151 0
noncomputable def G := G0 (C R) Tryz.f151 0
def s3 := fun x0 x1 x2 => (⟨dZ 30 [(3, .own 256), (8, .own 256), (9, .int .i64 x0), (10, .int .i64 x1)], [(256, .row 5 x2 true)], dW⟩ : St)
noncomputable abbrev q3 {R : Type} (J : JT R) : J3 R := fun x0 x1 x2 => J (placeOf Tryz.f151 3) (s3 x0 x1 x2)
theorem k3 (J : JT R) (κ : KT R) (x0 x1 x2 : _) : S R κ J 3 (s3 x0 x1 x2) = t3 (q3 J) (K0 κ) x0 x1 x2 := by kernel_rfl
theorem k (κ : KT R) (k : Nat) (a0 : _) : b8 (C R) Tryz.f151 10000 k [.str a0] κ = bw.e a0 (q3 (G R κ k)) (K0 κ) := by kernel_rfl
theorem g3 (κ : KT R) : ∀ (f : Nat), q3 (G R κ f) = L3 (K0 κ) f
 | 0 => rfl
 | f + 1 => by
  funext x0 x1 x2
  show S R κ (G R κ f) 3 _ = _
  rw [k3, g3 κ f]
  rfl
end
theorem ac {R : Type} (tab : bO) (ht : av tab) (g : Nat) : bL (R := R) Tryz.prog (ae bj) tab g ((C R).call g) := by
 refine aD fun xs κ => ?_
 show aa _ _ _ g xs κ (Γ R g xs κ)
 unfold Γ
 split
 ·exact aa.none
theorem aE {R : Type} (tab : bO) (ht : av tab) (a0 : _) (κ : KT R) : aa Tryz.prog (ae bj) tab 151 [.str a0] κ (bw a0 (K0 κ)) := ah (C := C R) (fn := Tryz.f151) cd (ac tab ht) (by kernel_rfl) (by kernel_rfl) (by rw [k]; rw [g3 R κ ag]; rfl)
end bw
namespace dm
abbrev K0 {R : Type} (κ : KT R) : Bool -> Option R := fun r0 => κ [.bool r0]
section
variable (R : Type) (c1 : bw.F R)
def Γ (g : Nat) (xs : List SV) (κ : KT R) : Option R :=
 match g with
 | 151 => (match xs with
  | [.str a0] => c1 a0 (bw.K0 κ)
  | _ => none)
 | _ => none
def h (n : Nat) : Option (List (Nat × List (Nat × Nat))) :=
 match n with
 | _ => none
def C : Cfg R := ⟨ae bj, Γ R c1, fun _ => false, h, 0, fun _ => false⟩
theorem k (κ : KT R) (k : Nat) (a0 a1 : _) : b8 (C R c1) Tryz.f111 10000 k [.str a0, .str a1] κ = dm.e c1 a0 a1 (K0 κ) := by kernel_rfl
end
theorem ac {R : Type} (tab : bO) (ht : av tab) (g : Nat) : bL (R := R) Tryz.prog (ae bj) tab g ((C R bw).call g) := by
 refine aD fun xs κ => ?_
 show aa _ _ _ g xs κ (Γ R bw g xs κ)
 unfold Γ
 split
 ·split
  ·exact bw.aE tab ht _ κ
  ·exact aa.none
 ·exact aa.none
theorem aE {R : Type} (tab : bO) (ht : av tab) (a0 a1 : _) (κ : KT R) : aa Tryz.prog (ae bj) tab 111 [.str a0, .str a1] κ (dm a0 a1 (K0 κ)) := ah (C := C R bw) (fn := Tryz.f111) cd (ac tab ht) (by kernel_rfl) (by kernel_rfl) (by rw [k]; rfl)
end dm
namespace cG
abbrev K0 {R : Type} (κ : KT R) : Bool -> BA -> Option R := fun r0 r1 => κ [.agg [.bool r0, .str r1]]
section
variable (R : Type) (c1 : dm.F R)
def Γ (g : Nat) (xs : List SV) (κ : KT R) : Option R :=
 match g with
 | 111 => (match xs with
  | [.str a0, .str a1] => c1 a0 a1 (dm.K0 κ)
  | _ => none)
 | _ => none
def h (n : Nat) : Option (List (Nat × List (Nat × Nat))) :=
 match n with
 | 2 => some [(1, [(0, 0)]), (4, [(0, 0)]), (7, [(0, 0)]), (8, [(0, 0)]), (9, [(0, 0)])]
 | _ => none
def C : Cfg R := ⟨ae bj, Γ R c1, fun _ => false, h, 0, fun _ => false⟩
noncomputable def S := S0 (C R c1) Tryz.f120 0
noncomputable def G := G0 (C R c1) Tryz.f120 0
def s2 := fun x0 x1 x2 x3 x4 x5 => (⟨dZ 22 [(1, .str x0), (4, .ptr 383 0), (7, .ro 168 x1 false), (8, .int .i64 x2), (9, .int .i64 x3)], [(383, .var 26 [.bool x4, .str x5])], dW⟩ : St)
noncomputable abbrev q2 {R : Type} (J : JT R) : J2 R := fun x0 x1 x2 x3 x4 x5 => J (placeOf Tryz.f120 2) (s2 x0 x1 x2 x3 x4 x5)
theorem k2 (J : JT R) (κ : KT R) (x0 x1 x2 x3 x4 x5 : _) : S R c1 κ J 2 (s2 x0 x1 x2 x3 x4 x5) = t2 c1 (q2 J) (K0 κ) x0 x1 x2 x3 x4 x5 := by kernel_rfl
theorem k (κ : KT R) (k : Nat) (a0 a1 : _) : b8 (C R c1) Tryz.f120 10000 k [.ro 168 a0 false, .str a1] κ = cG.e c1 a0 a1 (q2 (G R c1 κ k)) (K0 κ) := by kernel_rfl
theorem g2 (κ : KT R) : ∀ (f : Nat), q2 (G R c1 κ f) = L2 c1 (K0 κ) f
 | 0 => rfl
 | f + 1 => by
  funext x0 x1 x2 x3 x4 x5
  show S R c1 κ (G R c1 κ f) 2 _ = _
  rw [k2, g2 κ f]
  rfl
end
theorem ac {R : Type} (tab : bO) (ht : av tab) (g : Nat) : bL (R := R) Tryz.prog (ae bj) tab g ((C R dm).call g) := by
 refine aD fun xs κ => ?_
 show aa _ _ _ g xs κ (Γ R dm g xs κ)
 unfold Γ
 split
 ·split
  ·exact dm.aE tab ht _ _ κ
  ·exact aa.none
 ·exact aa.none
theorem aE {R : Type} (tab : bO) (ht : av tab) (a0 a1 : _) (κ : KT R) : aa Tryz.prog (ae bj) tab 120 [.ro 168 a0 false, .str a1] κ (cG a0 a1 (K0 κ)) := ah (C := C R dm) (fn := Tryz.f120) cd (ac tab ht) (by kernel_rfl) (by kernel_rfl) (by rw [k]; rw [g2 R dm κ ag]; rfl)
end cG
namespace bn
abbrev K0 {R : Type} (κ : KT R) : Q0 R := fun r0 r1 r2 => κ [.int .u8 r0, .vp 177 [.str r1, .int .i64 r2]]
section
variable (R : Type)
def Γ (g : Nat) (xs : List SV) (κ : KT R) : Option R :=
 match g with
 | _ => none
def h (n : Nat) : Option (List (Nat × List (Nat × Nat))) :=
 match n with
 | _ => none
def C : Cfg R := ⟨ae bj, Γ R, fun _ => false, h, 0, fun _ => false⟩
theorem k (κ : KT R) (k : Nat) (a0 a1 : _) : b8 (C R) Tryz.f205 10000 k [.vp 177 [.str a0, .int .i64 a1]] κ = bn.e a0 a1 (K0 κ) := by kernel_rfl
end
theorem ac {R : Type} (tab : bO) (ht : av tab) (g : Nat) : bL (R := R) Tryz.prog (ae bj) tab g ((C R).call g) := by
 refine aD fun xs κ => ?_
 show aa _ _ _ g xs κ (Γ R g xs κ)
 unfold Γ
 split
 ·exact aa.none
theorem aE {R : Type} (tab : bO) (ht : av tab) (a0 a1 : _) (κ : KT R) : aa Tryz.prog (ae bj) tab 205 [.vp 177 [.str a0, .int .i64 a1]] κ (bn a0 a1 (K0 κ)) := ah (C := C R) (fn := Tryz.f205) cd (ac tab ht) (by kernel_rfl) (by kernel_rfl) (by rw [k]; rfl)
end bn
namespace aH
abbrev K0 {R : Type} (κ : KT R) : BA -> Int -> Option R := fun r0 r1 => κ [.tup [], .vp 177 [.str r0, .int .i64 r1]]
section
variable (R : Type)
def Γ (g : Nat) (xs : List SV) (κ : KT R) : Option R :=
 match g with
 | _ => none
def h (n : Nat) : Option (List (Nat × List (Nat × Nat))) :=
 match n with
 | 1 => some [(0, [(0, 0)]), (2, [(0, 0)])]
 | _ => none
def C : Cfg R := ⟨ae bj, Γ R, fun _ => false, h, 0, fun _ => false⟩
noncomputable def S := S0 (C R) Tryz.f206 1
noncomputable def G := G0 (C R) Tryz.f206 1
def s1 := fun x0 x1 x2 => (⟨dZ 58 [(0, .ptr 0 0), (2, .int .i64 x0)], [(0, .var 177 [.str x1, .int .i64 x2])], dW⟩ : St)
noncomputable abbrev q1 {R : Type} (J : JT R) : J1 R := fun x0 x1 x2 => J (placeOf Tryz.f206 1) (s1 x0 x1 x2)
theorem k1 (J : JT R) (κ : KT R) (x0 x1 x2 : _) : S R κ J 1 (s1 x0 x1 x2) = t1 (q1 J) (K0 κ) x0 x1 x2 := by kernel_rfl
theorem k (κ : KT R) (k : Nat) (a0 a1 : _) : b8 (C R) Tryz.f206 10000 k [.vp 177 [.str a0, .int .i64 a1]] κ = aH.e a0 a1 (q1 (G R κ k)) (K0 κ) := by kernel_rfl
theorem g1 (κ : KT R) : ∀ (f : Nat), q1 (G R κ f) = L1 (K0 κ) f
 | 0 => rfl
 | f + 1 => by
  funext x0 x1 x2
  show S R κ (G R κ f) 1 _ = _
  rw [k1, g1 κ f]
  rfl
end
theorem ac {R : Type} (tab : bO) (ht : av tab) (g : Nat) : bL (R := R) Tryz.prog (ae bj) tab g ((C R).call g) := by
 refine aD fun xs κ => ?_
 show aa _ _ _ g xs κ (Γ R g xs κ)
 unfold Γ
 split
 ·exact aa.none
theorem aE {R : Type} (tab : bO) (ht : av tab) (a0 a1 : _) (κ : KT R) : aa Tryz.prog (ae bj) tab 206 [.vp 177 [.str a0, .int .i64 a1]] κ (aH a0 a1 (K0 κ)) := ah (C := C R) (fn := Tryz.f206) cd (ac tab ht) (by kernel_rfl) (by kernel_rfl) (by rw [k]; rw [g1 R κ ag]; rfl)
end aH
namespace af
abbrev K0 {R : Type} (κ : KT R) : BA -> Int -> Option R := fun r0 r1 => κ [.tup [], .vp 177 [.str r0, .int .i64 r1]]
section
variable (R : Type) (c1 : bn.F R) (c2 : aH.F R)
def Γ (g : Nat) (xs : List SV) (κ : KT R) : Option R :=
 match g with
 | 205 => (match xs with
  | [.vp 177 [.str a0, .int .i64 a1]] => c1 a0 a1 (bn.K0 κ)
  | _ => none)
 | 206 => (match xs with
  | [.vp 177 [.str a0, .int .i64 a1]] => c2 a0 a1 (aH.K0 κ)
  | _ => none)
 | _ => none
def h (n : Nat) : Option (List (Nat × List (Nat × Nat))) :=
 match n with
 | 0 => some [(0, [(0, 0)])]
 | _ => none
def C : Cfg R := ⟨ae bj, Γ R c1 c2, fun _ => false, h, 0, fun _ => false⟩
noncomputable def S := S0 (C R c1 c2) Tryz.f175 1
noncomputable def G := G0 (C R c1 c2) Tryz.f175 1
def s0 := fun x0 x1 => (⟨dZ 18 [(0, .ptr 0 0)], [(0, .var 177 [.str x0, .int .i64 x1])], dW⟩ : St)
noncomputable abbrev q0 {R : Type} (J : JT R) : BA -> Int -> Option R := fun x0 x1 => J (placeOf Tryz.f175 0) (s0 x0 x1)
theorem k0 (J : JT R) (κ : KT R) (x0 x1 : _) : S R c1 c2 κ J 0 (s0 x0 x1) = t0 c1 c2 (q0 J) (K0 κ) x0 x1 := by kernel_rfl
theorem k (κ : KT R) (k : Nat) (a0 a1 : _) : b8 (C R c1 c2) Tryz.f175 10000 k [.vp 177 [.str a0, .int .i64 a1]] κ = af.e c1 c2 a0 a1 (q0 (G R c1 c2 κ k)) (K0 κ) := by kernel_rfl
theorem g0 (κ : KT R) : ∀ (f : Nat), q0 (G R c1 c2 κ f) = L0 c1 c2 (K0 κ) f
 | 0 => rfl
 | f + 1 => by
  funext x0 x1
  show S R c1 c2 κ (G R c1 c2 κ f) 0 _ = _
  rw [k0, g0 κ f]
  rfl
end
theorem ac {R : Type} (tab : bO) (ht : av tab) (g : Nat) : bL (R := R) Tryz.prog (ae bj) tab g ((C R bn aH).call g) := by
 refine aD fun xs κ => ?_
 show aa _ _ _ g xs κ (Γ R bn aH g xs κ)
 unfold Γ
 split
 ·split
  ·exact bn.aE tab ht _ _ κ
  ·exact aa.none
 ·split
  ·exact aH.aE tab ht _ _ κ
  ·exact aa.none
 ·exact aa.none
theorem aE {R : Type} (tab : bO) (ht : av tab) (a0 a1 : _) (κ : KT R) : aa Tryz.prog (ae bj) tab 175 [.vp 177 [.str a0, .int .i64 a1]] κ (af a0 a1 (K0 κ)) := ah (C := C R bn aH) (fn := Tryz.f175) cd (ac tab ht) (by kernel_rfl) (by kernel_rfl) (by rw [k]; rw [g0 R bn aH κ ag]; rfl)
end af
namespace bH
abbrev K0 {R : Type} (κ : KT R) : Bool -> Option R := fun r0 => κ [.bool r0]
section
variable (R : Type)
def Γ (g : Nat) (xs : List SV) (κ : KT R) : Option R :=
 match g with
 | _ => none
def h (n : Nat) : Option (List (Nat × List (Nat × Nat))) :=
 match n with
 | _ => none
def C : Cfg R := ⟨ae bj, Γ R, fun _ => false, h, 0, fun _ => false⟩
theorem k (κ : KT R) (k : Nat) (a0 : _) : b8 (C R) Tryz.f231 10000 k [.int .i32 a0] κ = bH.e a0 (K0 κ) := by kernel_rfl
end
theorem ac {R : Type} (tab : bO) (ht : av tab) (g : Nat) : bL (R := R) Tryz.prog (ae bj) tab g ((C R).call g) := by
 refine aD fun xs κ => ?_
 show aa _ _ _ g xs κ (Γ R g xs κ)
 unfold Γ
 split
 ·exact aa.none
theorem aE {R : Type} (tab : bO) (ht : av tab) (a0 : _) (κ : KT R) : aa Tryz.prog (ae bj) tab 231 [.int .i32 a0] κ (bH a0 (K0 κ)) := ah (C := C R) (fn := Tryz.f231) cd (ac tab ht) (by kernel_rfl) (by kernel_rfl) (by rw [k]; rfl)
end bH
namespace bX
abbrev K0 {R : Type} (κ : KT R) : Int -> Option R := fun r0 => κ [.int .i64 r0]
section
variable (R : Type)
def Γ (g : Nat) (xs : List SV) (κ : KT R) : Option R :=
 match g with
 | _ => none
def h (n : Nat) : Option (List (Nat × List (Nat × Nat))) :=
 match n with
 | _ => none
def C : Cfg R := ⟨ae bj, Γ R, fun _ => false, h, 0, fun _ => false⟩
theorem k (κ : KT R) (k : Nat) (a0 : _) : b8 (C R) Tryz.f203 10000 k [.int .i64 a0] κ = bX.e a0 (K0 κ) := by kernel_rfl
end
theorem ac {R : Type} (tab : bO) (ht : av tab) (g : Nat) : bL (R := R) Tryz.prog (ae bj) tab g ((C R).call g) := by
 refine aD fun xs κ => ?_
 show aa _ _ _ g xs κ (Γ R g xs κ)
 unfold Γ
 split
 ·exact aa.none
theorem aE {R : Type} (tab : bO) (ht : av tab) (a0 : _) (κ : KT R) : aa Tryz.prog (ae bj) tab 203 [.int .i64 a0] κ (bX a0 (K0 κ)) := ah (C := C R) (fn := Tryz.f203) cd (ac tab ht) (by kernel_rfl) (by kernel_rfl) (by rw [k]; rfl)
end bX
namespace b6
abbrev K0 {R : Type} (κ : KT R) : Int -> Option R := fun r0 => κ [.int .i64 r0]
section
variable (R : Type) (c1 : ay.F R) (c2 : bH.F R) (c3 : bX.F R)
def Γ (g : Nat) (xs : List SV) (κ : KT R) : Option R :=
 match g with
 | 123 => (match xs with
  | [.str a0, .int .u8 a1] => c1 a0 a1 (ay.K0 κ)
  | _ => none)
 | 203 => (match xs with
  | [.int .i64 a0] => c3 a0 (bX.K0 κ)
  | _ => none)
 | 231 => (match xs with
  | [.int .i32 a0] => c2 a0 (bH.K0 κ)
  | _ => none)
 | _ => none
def h (n : Nat) : Option (List (Nat × List (Nat × Nat))) :=
 match n with
 | 5 => some [(0, [(0, 0)]), (1, [(0, 0)]), (7, [(0, 0)]), (8, [(0, 0)]), (9, [(0, 0)]), (10, [(0, 0)])]
 | 12 => some [(0, [(0, 0)]), (1, [(0, 0)]), (7, [(0, 0)]), (8, [(0, 0)]), (9, [(0, 0)]), (10, [(0, 0)]), (12, [(0, 0)])]
 | 38 => some [(175, [(0, 0)])]
 | _ => none
def C : Cfg R := ⟨ae bj, Γ R c1 c2 c3, fun _ => false, h, 0, fun _ => false⟩
noncomputable def S := S0 (C R c1 c2 c3) Tryz.f216 0
noncomputable def G := G0 (C R c1 c2 c3) Tryz.f216 0
def s5 := fun x0 x1 x2 x3 x4 x5 => (⟨dZ 187 [(0, .str x0), (1, .int .i32 x1), (7, .str x2), (8, .int .i64 x3), (9, .int .i64 x4), (10, .int .i64 x5)], [], dW⟩ : St)
def Ex := fun x0 x1 x2 x3 x4 x5 x6 => (⟨dZ 187 [(0, .str x0), (1, .int .i32 x1), (7, .str x2), (8, .int .i64 x3), (9, .int .i64 x4), (10, .int .i64 x5), (12, .int .i64 x6)], [], dW⟩ : St)
def EE := fun x0 x1 => (⟨dZ 187 [(175, .ptr 11327 0)], [(11327, .sit x0 x1)], dW⟩ : St)
noncomputable abbrev q5 {R : Type} (J : JT R) : J5 R := fun x0 x1 x2 x3 x4 x5 => J (placeOf Tryz.f216 5) (s5 x0 x1 x2 x3 x4 x5)
noncomputable abbrev DM {R : Type} (J : JT R) : Cb R := fun x0 x1 x2 x3 x4 x5 x6 => J (placeOf Tryz.f216 12) (Ex x0 x1 x2 x3 x4 x5 x6)
noncomputable abbrev Em {R : Type} (J : JT R) : BA -> Nat -> Option R := fun x0 x1 => J (placeOf Tryz.f216 38) (EE x0 x1)
theorem k5 (J : JT R) (κ : KT R) (x0 x1 x2 x3 x4 x5 : _) : S R c1 c2 c3 κ J 5 (s5 x0 x1 x2 x3 x4 x5) = t5 c1 (DM J) (K0 κ) x0 x1 x2 x3 x4 x5 := by kernel_rfl
theorem EF (J : JT R) (κ : KT R) (x0 x1 x2 x3 x4 x5 x6 : _) : S R c1 c2 c3 κ J 12 (Ex x0 x1 x2 x3 x4 x5 x6) = t12 c3 (q5 J) (DM J) (K0 κ) x0 x1 x2 x3 x4 x5 x6 := by kernel_rfl
theorem EN (J : JT R) (κ : KT R) (x0 x1 : _) : S R c1 c2 c3 κ J 38 (EE x0 x1) = t38 (Em J) (K0 κ) x0 x1 := by kernel_rfl
theorem k (κ : KT R) (k : Nat) (a0 a1 : _) : b8 (C R c1 c2 c3) Tryz.f216 10000 k [.str a0, .int .i32 a1] κ = b6.e c1 c2 c3 a0 a1 (q5 (G R c1 c2 c3 κ k)) (DM (G R c1 c2 c3 κ k)) (Em (G R c1 c2 c3 κ k)) (K0 κ) := by kernel_rfl
theorem BM (κ : KT R) : ∀ (f : Nat), (q5 (G R c1 c2 c3 κ f) = L5 c1 c2 c3 (K0 κ) f) /\ (DM (G R c1 c2 c3 κ f) = D1 c1 c2 c3 (K0 κ) f)
 | 0 => ⟨rfl, rfl⟩
 | f + 1 => by
  obtain ⟨ih0, ih1⟩ := BM κ f
  refine ⟨?_, ?_⟩
  ·funext x0 x1 x2 x3 x4 x5
   show S R c1 c2 c3 κ (G R c1 c2 c3 κ f) 5 _ = _
   rw [k5, ih1]
   rfl
  ·funext x0 x1 x2 x3 x4 x5 x6
   show S R c1 c2 c3 κ (G R c1 c2 c3 κ f) 12 _ = _
   rw [EF, ih0, ih1]
   rfl
theorem g5 (κ : KT R) (f : Nat) : q5 (G R c1 c2 c3 κ f) = L5 c1 c2 c3 (K0 κ) f := (BM R c1 c2 c3 κ f).1
theorem g12 (κ : KT R) (f : Nat) : DM (G R c1 c2 c3 κ f) = D1 c1 c2 c3 (K0 κ) f := (BM R c1 c2 c3 κ f).2
theorem Ev (κ : KT R) : ∀ (f : Nat), Em (G R c1 c2 c3 κ f) = D3 c1 c2 c3 (K0 κ) f
 | 0 => rfl
 | f + 1 => by
  funext x0 x1
  show S R c1 c2 c3 κ (G R c1 c2 c3 κ f) 38 _ = _
  rw [EN, Ev κ f]
  rfl
end
theorem ac {R : Type} (tab : bO) (ht : av tab) (g : Nat) : bL (R := R) Tryz.prog (ae bj) tab g ((C R ay bH bX).call g) := by
 refine aD fun xs κ => ?_
 show aa _ _ _ g xs κ (Γ R ay bH bX g xs κ)
 unfold Γ
 split
 ·split
  ·exact ay.aE tab ht _ _ κ
  ·exact aa.none
 ·split
  ·exact bX.aE tab ht _ κ
  ·exact aa.none
 ·split
  ·exact bH.aE tab ht _ κ
  ·exact aa.none
 ·exact aa.none
theorem aE {R : Type} (tab : bO) (ht : av tab) (a0 a1 : _) (κ : KT R) : aa Tryz.prog (ae bj) tab 216 [.str a0, .int .i32 a1] κ (b6 a0 a1 (K0 κ)) := ah (C := C R ay bH bX) (fn := Tryz.f216) cd (ac tab ht) (by kernel_rfl) (by kernel_rfl) (by rw [k]; rw [g5 R ay bH bX κ ag, g12 R ay bH bX κ ag, Ev R ay bH bX κ ag]; rfl)
end b6
namespace aZ
abbrev K0 {R : Type} (κ : KT R) : Bool -> Option R := fun r0 => κ [.bool r0]
section
variable (R : Type) (c1 : b6.F R)
def Γ (g : Nat) (xs : List SV) (κ : KT R) : Option R :=
 match g with
 | 216 => (match xs with
  | [.str a0, .int .i32 a1] => c1 a0 a1 (b6.K0 κ)
  | _ => none)
 | _ => none
def h (n : Nat) : Option (List (Nat × List (Nat × Nat))) :=
 match n with
 | _ => none
def C : Cfg R := ⟨ae bj, Γ R c1, fun _ => false, h, 0, fun _ => false⟩
theorem k (κ : KT R) (k : Nat) (a0 a1 : _) : b8 (C R c1) Tryz.f194 10000 k [.str a0, .int .i32 a1] κ = aZ.e c1 a0 a1 (K0 κ) := by kernel_rfl
end
theorem ac {R : Type} (tab : bO) (ht : av tab) (g : Nat) : bL (R := R) Tryz.prog (ae bj) tab g ((C R b6).call g) := by
 refine aD fun xs κ => ?_
 show aa _ _ _ g xs κ (Γ R b6 g xs κ)
 unfold Γ
 split
 ·split
  ·exact b6.aE tab ht _ _ κ
  ·exact aa.none
 ·exact aa.none
theorem aE {R : Type} (tab : bO) (ht : av tab) (a0 a1 : _) (κ : KT R) : aa Tryz.prog (ae bj) tab 194 [.str a0, .int .i32 a1] κ (aZ a0 a1 (K0 κ)) := ah (C := C R b6) (fn := Tryz.f194) cd (ac tab ht) (by kernel_rfl) (by kernel_rfl) (by rw [k]; rfl)
end aZ
namespace aq
abbrev K0 {R : Type} (κ : KT R) : Q0 R := fun r0 r1 r2 => κ [.str r0, .vp 177 [.str r1, .int .i64 r2]]
section
variable (R : Type) (c1 : aZ.F R)
def Γ (g : Nat) (xs : List SV) (κ : KT R) : Option R :=
 match g with
 | 194 => (match xs with
  | [.str a0, .int .i32 a1] => c1 a0 a1 (aZ.K0 κ)
  | _ => none)
 | _ => none
def h (n : Nat) : Option (List (Nat × List (Nat × Nat))) :=
 match n with
 | 2 => some [(0, [(0, 0)]), (3, [(0, 0)])]
 | _ => none
def C : Cfg R := ⟨ae bj, Γ R c1, fun _ => false, h, 0, fun _ => false⟩
noncomputable def S := S0 (C R c1) Tryz.f176 1
noncomputable def G := G0 (C R c1) Tryz.f176 1
def s2 := fun x0 x1 x2 => (⟨dZ 73 [(0, .ptr 0 0), (3, .int .i64 x0)], [(0, .var 177 [.str x1, .int .i64 x2])], dW⟩ : St)
noncomputable abbrev q2 {R : Type} (J : JT R) : J2 R := fun x0 x1 x2 => J (placeOf Tryz.f176 2) (s2 x0 x1 x2)
theorem k2 (J : JT R) (κ : KT R) (x0 x1 x2 : _) : S R c1 κ J 2 (s2 x0 x1 x2) = t2 c1 (q2 J) (K0 κ) x0 x1 x2 := by kernel_rfl
theorem k (κ : KT R) (k : Nat) (a0 a1 : _) : b8 (C R c1) Tryz.f176 10000 k [.vp 177 [.str a0, .int .i64 a1]] κ = aq.e c1 a0 a1 (q2 (G R c1 κ k)) (K0 κ) := by kernel_rfl
theorem g2 (κ : KT R) : ∀ (f : Nat), q2 (G R c1 κ f) = L2 c1 (K0 κ) f
 | 0 => rfl
 | f + 1 => by
  funext x0 x1 x2
  show S R c1 κ (G R c1 κ f) 2 _ = _
  rw [k2, g2 κ f]
  rfl
end
theorem ac {R : Type} (tab : bO) (ht : av tab) (g : Nat) : bL (R := R) Tryz.prog (ae bj) tab g ((C R aZ).call g) := by
 refine aD fun xs κ => ?_
 show aa _ _ _ g xs κ (Γ R aZ g xs κ)
 unfold Γ
 split
 ·split
  ·exact aZ.aE tab ht _ _ κ
  ·exact aa.none
 ·exact aa.none
theorem aE {R : Type} (tab : bO) (ht : av tab) (a0 a1 : _) (κ : KT R) : aa Tryz.prog (ae bj) tab 176 [.vp 177 [.str a0, .int .i64 a1]] κ (aq a0 a1 (K0 κ)) := ah (C := C R aZ) (fn := Tryz.f176) cd (ac tab ht) (by kernel_rfl) (by kernel_rfl) (by rw [k]; rw [g2 R aZ κ ag]; rfl)
end aq
namespace aj
abbrev K0 {R : Type} (κ : KT R) : Q0 R := fun r0 r1 r2 => κ [.bool r0, .vp 177 [.str r1, .int .i64 r2]]
section
variable (R : Type)
def Γ (g : Nat) (xs : List SV) (κ : KT R) : Option R :=
 match g with
 | _ => none
def h (n : Nat) : Option (List (Nat × List (Nat × Nat))) :=
 match n with
 | _ => none
def C : Cfg R := ⟨ae bj, Γ R, fun _ => false, h, 0, fun _ => false⟩
theorem k (κ : KT R) (k : Nat) (a0 a1 a2 : _) : b8 (C R) Tryz.f177 10000 k [.vp 177 [.str a0, .int .i64 a1], .int .u8 a2] κ = aj.e a0 a1 a2 (K0 κ) := by kernel_rfl
end
theorem ac {R : Type} (tab : bO) (ht : av tab) (g : Nat) : bL (R := R) Tryz.prog (ae bj) tab g ((C R).call g) := by
 refine aD fun xs κ => ?_
 show aa _ _ _ g xs κ (Γ R g xs κ)
 unfold Γ
 split
 ·exact aa.none
theorem aE {R : Type} (tab : bO) (ht : av tab) (a0 a1 a2 : _) (κ : KT R) : aa Tryz.prog (ae bj) tab 177 [.vp 177 [.str a0, .int .i64 a1], .int .u8 a2] κ (aj a0 a1 a2 (K0 κ)) := ah (C := C R) (fn := Tryz.f177) cd (ac tab ht) (by kernel_rfl) (by kernel_rfl) (by rw [k]; rfl)
end aj
namespace aX
abbrev K0 {R : Type} (κ : KT R) : Q0 R := fun r0 r1 r2 r3 r4 => κ [.tup [.str r0, .str r1, .bool r2], .vp 177 [.str r3, .int .i64 r4]]
section
variable (R : Type) (c1 : af.F R) (c2 : aq.F R) (c3 : bw.F R) (c4 : aj.F R)
def Γ (g : Nat) (xs : List SV) (κ : KT R) : Option R :=
 match g with
 | 151 => (match xs with
  | [.str a0] => c3 a0 (bw.K0 κ)
  | _ => none)
 | 175 => (match xs with
  | [.vp 177 [.str a0, .int .i64 a1]] => c1 a0 a1 (af.K0 κ)
  | _ => none)
 | 176 => (match xs with
  | [.vp 177 [.str a0, .int .i64 a1]] => c2 a0 a1 (aq.K0 κ)
  | _ => none)
 | 177 => (match xs with
  | [.vp 177 [.str a0, .int .i64 a1], .int .u8 a2] => c4 a0 a1 a2 (aj.K0 κ)
  | _ => none)
 | _ => none
def h (n : Nat) : Option (List (Nat × List (Nat × Nat))) :=
 match n with
 | _ => none
def C : Cfg R := ⟨ae bj, Γ R c1 c2 c3 c4, fun _ => false, h, 0, fun _ => false⟩
theorem k (κ : KT R) (k : Nat) (a0 a1 : _) : b8 (C R c1 c2 c3 c4) Tryz.f129 10000 k [.vp 177 [.str a0, .int .i64 a1]] κ = aX.e c1 c2 c3 c4 a0 a1 (K0 κ) := by kernel_rfl
end
theorem ac {R : Type} (tab : bO) (ht : av tab) (g : Nat) : bL (R := R) Tryz.prog (ae bj) tab g ((C R af aq bw aj).call g) := by
 refine aD fun xs κ => ?_
 show aa _ _ _ g xs κ (Γ R af aq bw aj g xs κ)
 unfold Γ
 split
 ·split
  ·exact bw.aE tab ht _ κ
  ·exact aa.none
 ·split
  ·exact af.aE tab ht _ _ κ
  ·exact aa.none
 ·split
  ·exact aq.aE tab ht _ _ κ
  ·exact aa.none
 ·split
  ·exact aj.aE tab ht _ _ _ κ
  ·exact aa.none
 ·exact aa.none
theorem aE {R : Type} (tab : bO) (ht : av tab) (a0 a1 : _) (κ : KT R) : aa Tryz.prog (ae bj) tab 129 [.vp 177 [.str a0, .int .i64 a1]] κ (aX a0 a1 (K0 κ)) := ah (C := C R af aq bw aj) (fn := Tryz.f129) cd (ac tab ht) (by kernel_rfl) (by kernel_rfl) (by rw [k]; rfl)
end aX
namespace aR
abbrev K0 {R : Type} (κ : KT R) : BA -> Option R := fun r0 => κ [.str r0, .vp 157 [.nos, .no]]
section
variable (R : Type)
def Γ (g : Nat) (xs : List SV) (κ : KT R) : Option R :=
 match g with
 | _ => none
def h (n : Nat) : Option (List (Nat × List (Nat × Nat))) :=
 match n with
 | _ => none
def C : Cfg R := ⟨ae bj, Γ R, fun _ => false, h, 0, fun _ => false⟩
theorem k (κ : KT R) (k : Nat) (a0 : _) : b8 (C R) Tryz.f114 10000 k [.vp 157 [.nos, .fr 5 a0 true]] κ = aR.e a0 (K0 κ) := by kernel_rfl
end
theorem ac {R : Type} (tab : bO) (ht : av tab) (g : Nat) : bL (R := R) Tryz.prog (ae bj) tab g ((C R).call g) := by
 refine aD fun xs κ => ?_
 show aa _ _ _ g xs κ (Γ R g xs κ)
 unfold Γ
 split
 ·exact aa.none
theorem aE {R : Type} (tab : bO) (ht : av tab) (a0 : _) (κ : KT R) : aa Tryz.prog (ae bj) tab 114 [.vp 157 [.nos, .fr 5 a0 true]] κ (aR a0 (K0 κ)) := ah (C := C R) (fn := Tryz.f114) cd (ac tab ht) (by kernel_rfl) (by kernel_rfl) (by rw [k]; rfl)
end aR
theorem cz.aE {R : Type} (tab : bO) (ht : av tab) (a0 : LA) (κ : List SV -> Option R) : aa Tryz.prog (ae bj) tab 152 [.vp 157 [.nos, .fr 5 a0 true]] κ (cz a0 (fun r0 => κ [.tup [], .vp 157 [.nos, .fr 5 r0 true]])) :=
 nF Tryz.call152 AP yL (.fr _ _) κ
namespace aM
abbrev K0 {R : Type} (κ : KT R) : LA -> Option R := fun r0 => κ [.nili, .vp 157 [.nos, .fr 5 r0 true]]
section
variable (R : Type) (c1 : cz.F R)
def Γ (g : Nat) (xs : List SV) (κ : KT R) : Option R :=
 match g with
 | 152 => (match xs with
  | [.vp 157 [.nos, .fr 5 a0 true]] => c1 a0 (fun r0 => κ [.tup [], .vp 157 [.nos, .fr 5 r0 true]])
  | _ => none)
 | _ => none
def h (n : Nat) : Option (List (Nat × List (Nat × Nat))) :=
 match n with
 | _ => none
def C : Cfg R := ⟨ae bj, Γ R c1, fun _ => false, h, 0, fun _ => false⟩
theorem k (κ : KT R) (k : Nat) (a0 a1 : _) : b8 (C R c1) Tryz.f190 10000 k [.vp 157 [.nos, .fr 5 a0 true], .int .u8 a1] κ = aM.e c1 a0 a1 (K0 κ) := by kernel_rfl
end
theorem ac {R : Type} (tab : bO) (ht : av tab) (g : Nat) : bL (R := R) Tryz.prog (ae bj) tab g ((C R cz).call g) := by
 refine aD fun xs κ => ?_
 show aa _ _ _ g xs κ (Γ R cz g xs κ)
 unfold Γ
 split
 ·split
  ·exact cz.aE tab ht _ κ
  ·exact aa.none
 ·exact aa.none
theorem aE {R : Type} (tab : bO) (ht : av tab) (a0 a1 : _) (κ : KT R) : aa Tryz.prog (ae bj) tab 190 [.vp 157 [.nos, .fr 5 a0 true], .int .u8 a1] κ (aM a0 a1 (K0 κ)) := ah (C := C R cz) (fn := Tryz.f190) cd (ac tab ht) (by kernel_rfl) (by kernel_rfl) (by rw [k]; rfl)
end aM
namespace bo
abbrev K0 {R : Type} (κ : KT R) : Q0 R := fun r0 r1 r2 r3 => κ [.tup [.str r0, .bool r1], .vp 177 [.str r2, .int .i64 r3]]
section
variable (R : Type) (c1 : aj.F R) (c2 : aq.F R) (c3 : aR.F R) (c4 : aM.F R)
def Γ (g : Nat) (xs : List SV) (κ : KT R) : Option R :=
 match g with
 | 114 => (match xs with
  | [.vp 157 [.nos, .fr 5 a0 true]] => c3 a0 (aR.K0 κ)
  | _ => none)
 | 176 => (match xs with
  | [.vp 177 [.str a0, .int .i64 a1]] => c2 a0 a1 (aq.K0 κ)
  | _ => none)
 | 177 => (match xs with
  | [.vp 177 [.str a0, .int .i64 a1], .int .u8 a2] => c1 a0 a1 a2 (aj.K0 κ)
  | _ => none)
 | 190 => (match xs with
  | [.vp 157 [.nos, .fr 5 a0 true], .int .u8 a1] => c4 a0 a1 (aM.K0 κ)
  | _ => none)
 | _ => none
def h (n : Nat) : Option (List (Nat × List (Nat × Nat))) :=
 match n with
 | 5 => some [(0, [(0, 0)]), (5, [(1, 7)])]
 | _ => none
def C : Cfg R := ⟨ae bj, Γ R c1 c2 c3 c4, fun _ => false, h, 0, fun _ => false⟩
noncomputable def S := S0 (C R c1 c2 c3 c4) Tryz.f207 1
noncomputable def G := G0 (C R c1 c2 c3 c4) Tryz.f207 1
def s5 := fun x0 x1 x2 => (⟨dZ 78 [(0, .ptr 0 0), (5, .ptr 447 0)], [(0, .var 177 [.str x0, .int .i64 x1]), (447, .var 157 [.nos, .own 385]), (385, .row 5 x2 true)], dW⟩ : St)
noncomputable abbrev q5 {R : Type} (J : JT R) : J5 R := fun x0 x1 x2 => J (placeOf Tryz.f207 5) (s5 x0 x1 x2)
theorem k5 (J : JT R) (κ : KT R) (x0 x1 x2 : _) : S R c1 c2 c3 c4 κ J 5 (s5 x0 x1 x2) = t5 c3 c4 (q5 J) (K0 κ) x0 x1 x2 := by kernel_rfl
theorem k (κ : KT R) (k : Nat) (a0 a1 : _) : b8 (C R c1 c2 c3 c4) Tryz.f207 10000 k [.vp 177 [.str a0, .int .i64 a1]] κ = bo.e c1 c2 c3 c4 a0 a1 (q5 (G R c1 c2 c3 c4 κ k)) (K0 κ) := by kernel_rfl
theorem g5 (κ : KT R) : ∀ (f : Nat), q5 (G R c1 c2 c3 c4 κ f) = L5 c1 c2 c3 c4 (K0 κ) f
 | 0 => rfl
 | f + 1 => by
  funext x0 x1 x2
  show S R c1 c2 c3 c4 κ (G R c1 c2 c3 c4 κ f) 5 _ = _
  rw [k5, g5 κ f]
  rfl
end
theorem ac {R : Type} (tab : bO) (ht : av tab) (g : Nat) : bL (R := R) Tryz.prog (ae bj) tab g ((C R aj aq aR aM).call g) := by
 refine aD fun xs κ => ?_
 show aa _ _ _ g xs κ (Γ R aj aq aR aM g xs κ)
 unfold Γ
 split
 ·split
  ·exact aR.aE tab ht _ κ
  ·exact aa.none
 ·split
  ·exact aq.aE tab ht _ _ κ
  ·exact aa.none
 ·split
  ·exact aj.aE tab ht _ _ _ κ
  ·exact aa.none
 ·split
  ·exact aM.aE tab ht _ _ κ
  ·exact aa.none
 ·exact aa.none
theorem aE {R : Type} (tab : bO) (ht : av tab) (a0 a1 : _) (κ : KT R) : aa Tryz.prog (ae bj) tab 207 [.vp 177 [.str a0, .int .i64 a1]] κ (bo a0 a1 (K0 κ)) := ah (C := C R aj aq aR aM) (fn := Tryz.f207) cd (ac tab ht) (by kernel_rfl) (by kernel_rfl) (by rw [k]; rw [g5 R aj aq aR aM κ ag]; rfl)
end bo
namespace aQ
abbrev K0 {R : Type} (κ : KT R) : Q0 R := fun r0 r1 r2 r3 r4 => κ [.tup [.agg [.str r0, .str r1], .bool r2], .vp 177 [.str r3, .int .i64 r4]]
section
variable (R : Type) (c1 : af.F R) (c2 : aj.F R) (c3 : aq.F R) (c4 : bw.F R) (c5 : bo.F R)
def Γ (g : Nat) (xs : List SV) (κ : KT R) : Option R :=
 match g with
 | 151 => (match xs with
  | [.str a0] => c4 a0 (bw.K0 κ)
  | _ => none)
 | 175 => (match xs with
  | [.vp 177 [.str a0, .int .i64 a1]] => c1 a0 a1 (af.K0 κ)
  | _ => none)
 | 176 => (match xs with
  | [.vp 177 [.str a0, .int .i64 a1]] => c3 a0 a1 (aq.K0 κ)
  | _ => none)
 | 177 => (match xs with
  | [.vp 177 [.str a0, .int .i64 a1], .int .u8 a2] => c2 a0 a1 a2 (aj.K0 κ)
  | _ => none)
 | 207 => (match xs with
  | [.vp 177 [.str a0, .int .i64 a1]] => c5 a0 a1 (bo.K0 κ)
  | _ => none)
 | _ => none
def h (n : Nat) : Option (List (Nat × List (Nat × Nat))) :=
 match n with
 | _ => none
def C : Cfg R := ⟨ae bj, Γ R c1 c2 c3 c4 c5, fun _ => false, h, 0, fun _ => false⟩
theorem k (κ : KT R) (k : Nat) (a0 a1 : _) : b8 (C R c1 c2 c3 c4 c5) Tryz.f178 10000 k [.vp 177 [.str a0, .int .i64 a1]] κ = aQ.e c1 c2 c3 c4 c5 a0 a1 (K0 κ) := by kernel_rfl
end
theorem ac {R : Type} (tab : bO) (ht : av tab) (g : Nat) : bL (R := R) Tryz.prog (ae bj) tab g ((C R af aj aq bw bo).call g) := by
 refine aD fun xs κ => ?_
 show aa _ _ _ g xs κ (Γ R af aj aq bw bo g xs κ)
 unfold Γ
 split
 ·split
  ·exact bw.aE tab ht _ κ
  ·exact aa.none
 ·split
  ·exact af.aE tab ht _ _ κ
  ·exact aa.none
 ·split
  ·exact aq.aE tab ht _ _ κ
  ·exact aa.none
 ·split
  ·exact aj.aE tab ht _ _ _ κ
  ·exact aa.none
 ·split
  ·exact bo.aE tab ht _ _ κ
  ·exact aa.none
 ·exact aa.none
theorem aE {R : Type} (tab : bO) (ht : av tab) (a0 a1 : _) (κ : KT R) : aa Tryz.prog (ae bj) tab 178 [.vp 177 [.str a0, .int .i64 a1]] κ (aQ a0 a1 (K0 κ)) := ah (C := C R af aj aq bw bo) (fn := Tryz.f178) cd (ac tab ht) (by kernel_rfl) (by kernel_rfl) (by rw [k]; rfl)
end aQ
namespace aF
abbrev K0 {R : Type} (κ : KT R) : Q0 R := fun r0 r1 r2 => κ [.fr 129 r0 true, .vp 177 [.str r1, .int .i64 r2]]
section
variable (R : Type) (c1 : aQ.F R)
def Γ (g : Nat) (xs : List SV) (κ : KT R) : Option R :=
 match g with
 | 178 => (match xs with
  | [.vp 177 [.str a0, .int .i64 a1]] => c1 a0 a1 (aQ.K0 κ)
  | _ => none)
 | _ => none
def h (n : Nat) : Option (List (Nat × List (Nat × Nat))) :=
 match n with
 | 3 => some [(0, [(0, 0)]), (3, [(0, 131)]), (4, [(0, 0)])]
 | _ => none
def C : Cfg R := ⟨ae bj, Γ R c1, fun _ => false, h, 0, fun _ => false⟩
noncomputable def S := S0 (C R c1) Tryz.f130 1
noncomputable def G := G0 (C R c1) Tryz.f130 1
def s3 := fun x0 x1 x2 x3 => (⟨dZ 33 [(0, .ptr 0 0), (3, .own 256), (4, .mp 381)], [(0, .var 177 [.str x0, .int .i64 x1]), (256, .row 129 x2 true), (381, .mp (.str) (.int .i64) x3)], dW⟩ : St)
noncomputable abbrev q3 {R : Type} (J : JT R) : J3 R := fun x0 x1 x2 x3 => J (placeOf Tryz.f130 3) (s3 x0 x1 x2 x3)
theorem k3 (J : JT R) (κ : KT R) (x0 x1 x2 x3 : _) : S R c1 κ J 3 (s3 x0 x1 x2 x3) = t3 c1 (q3 J) (K0 κ) x0 x1 x2 x3 := by kernel_rfl
theorem k (κ : KT R) (k : Nat) (a0 a1 : _) : b8 (C R c1) Tryz.f130 10000 k [.vp 177 [.str a0, .int .i64 a1]] κ = aF.e c1 a0 a1 (q3 (G R c1 κ k)) (K0 κ) := by kernel_rfl
theorem g3 (κ : KT R) : ∀ (f : Nat), q3 (G R c1 κ f) = L3 c1 (K0 κ) f
 | 0 => rfl
 | f + 1 => by
  funext x0 x1 x2 x3
  show S R c1 κ (G R c1 κ f) 3 _ = _
  rw [k3, g3 κ f]
  rfl
end
theorem ac {R : Type} (tab : bO) (ht : av tab) (g : Nat) : bL (R := R) Tryz.prog (ae bj) tab g ((C R aQ).call g) := by
 refine aD fun xs κ => ?_
 show aa _ _ _ g xs κ (Γ R aQ g xs κ)
 unfold Γ
 split
 ·split
  ·exact aQ.aE tab ht _ _ κ
  ·exact aa.none
 ·exact aa.none
theorem aE {R : Type} (tab : bO) (ht : av tab) (a0 a1 : _) (κ : KT R) : aa Tryz.prog (ae bj) tab 130 [.vp 177 [.str a0, .int .i64 a1]] κ (aF a0 a1 (K0 κ)) := ah (C := C R aQ) (fn := Tryz.f130) cd (ac tab ht) (by kernel_rfl) (by kernel_rfl) (by rw [k]; rw [g3 R aQ κ ag]; rfl)
end aF
namespace au
abbrev K0 {R : Type} (κ : KT R) : Q0 R := fun r0 r1 r2 r3 => κ [.agg [.bool r0, .str r1], .vp 177 [.str r2, .int .i64 r3]]
section
variable (R : Type) (c1 : af.F R) (c2 : aq.F R) (c3 : bw.F R)
def Γ (g : Nat) (xs : List SV) (κ : KT R) : Option R :=
 match g with
 | 151 => (match xs with
  | [.str a0] => c3 a0 (bw.K0 κ)
  | _ => none)
 | 175 => (match xs with
  | [.vp 177 [.str a0, .int .i64 a1]] => c1 a0 a1 (af.K0 κ)
  | _ => none)
 | 176 => (match xs with
  | [.vp 177 [.str a0, .int .i64 a1]] => c2 a0 a1 (aq.K0 κ)
  | _ => none)
 | _ => none
def h (n : Nat) : Option (List (Nat × List (Nat × Nat))) :=
 match n with
 | _ => none
def C : Cfg R := ⟨ae bj, Γ R c1 c2 c3, fun _ => false, h, 0, fun _ => false⟩
theorem k (κ : KT R) (k : Nat) (a0 a1 : _) : b8 (C R c1 c2 c3) Tryz.f131 10000 k [.vp 177 [.str a0, .int .i64 a1]] κ = au.e c1 c2 c3 a0 a1 (K0 κ) := by kernel_rfl
end
theorem ac {R : Type} (tab : bO) (ht : av tab) (g : Nat) : bL (R := R) Tryz.prog (ae bj) tab g ((C R af aq bw).call g) := by
 refine aD fun xs κ => ?_
 show aa _ _ _ g xs κ (Γ R af aq bw g xs κ)
 unfold Γ
 split
 ·split
  ·exact bw.aE tab ht _ κ
  ·exact aa.none
 ·split
  ·exact af.aE tab ht _ _ κ
  ·exact aa.none
 ·split
  ·exact aq.aE tab ht _ _ κ
  ·exact aa.none
 ·exact aa.none
theorem aE {R : Type} (tab : bO) (ht : av tab) (a0 a1 : _) (κ : KT R) : aa Tryz.prog (ae bj) tab 131 [.vp 177 [.str a0, .int .i64 a1]] κ (au a0 a1 (K0 κ)) := ah (C := C R af aq bw) (fn := Tryz.f131) cd (ac tab ht) (by kernel_rfl) (by kernel_rfl) (by rw [k]; rfl)
end au
namespace cQ
abbrev K0 {R : Type} (κ : KT R) : Bool -> BA -> Option R := fun r0 r1 => κ [.agg [.bool r0, .str r1]]
section
variable (R : Type) (c1 : cG.F R) (c2 : bA.F R)
def Γ (g : Nat) (xs : List SV) (κ : KT R) : Option R :=
 match g with
 | 120 => (match xs with
  | [.ro 168 a0 false, .str a1] => c1 a0 a1 (cG.K0 κ)
  | _ => none)
 | 124 => (match xs with
  | [.str a0, .str a1] => c2 a0 a1 (bA.K0 κ)
  | _ => none)
 | _ => none
def h (n : Nat) : Option (List (Nat × List (Nat × Nat))) :=
 match n with
 | _ => none
def C : Cfg R := ⟨ae bj, Γ R c1 c2, fun _ => false, h, 0, fun _ => false⟩
theorem k (κ : KT R) (k : Nat) (a0 a1 : _) : b8 (C R c1 c2) Tryz.f132 10000 k [.ro 168 a0 false, .str a1] κ = cQ.e c1 c2 a0 a1 (K0 κ) := by kernel_rfl
end
theorem ac {R : Type} (tab : bO) (ht : av tab) (g : Nat) : bL (R := R) Tryz.prog (ae bj) tab g ((C R cG bA).call g) := by
 refine aD fun xs κ => ?_
 show aa _ _ _ g xs κ (Γ R cG bA g xs κ)
 unfold Γ
 split
 ·split
  ·exact cG.aE tab ht _ _ κ
  ·exact aa.none
 ·split
  ·exact bA.aE tab ht _ _ κ
  ·exact aa.none
 ·exact aa.none
theorem aE {R : Type} (tab : bO) (ht : av tab) (a0 a1 : _) (κ : KT R) : aa Tryz.prog (ae bj) tab 132 [.ro 168 a0 false, .str a1] κ (cQ a0 a1 (K0 κ)) := ah (C := C R cG bA) (fn := Tryz.f132) cd (ac tab ht) (by kernel_rfl) (by kernel_rfl) (by rw [k]; rfl)
end cQ
namespace aC
abbrev K0 {R : Type} (κ : KT R) : Q0 R := fun r0 r1 r2 => κ [.ro 9 r0 true, .vp 177 [.str r1, .int .i64 r2]]
section
variable (R : Type) (c1 : au.F R) (c2 : af.F R) (c3 : aj.F R)
def Γ (g : Nat) (xs : List SV) (κ : KT R) : Option R :=
 match g with
 | 131 => (match xs with
  | [.vp 177 [.str a0, .int .i64 a1]] => c1 a0 a1 (au.K0 κ)
  | _ => none)
 | 175 => (match xs with
  | [.vp 177 [.str a0, .int .i64 a1]] => c2 a0 a1 (af.K0 κ)
  | _ => none)
 | 177 => (match xs with
  | [.vp 177 [.str a0, .int .i64 a1], .int .u8 a2] => c3 a0 a1 a2 (aj.K0 κ)
  | _ => none)
 | _ => none
def h (n : Nat) : Option (List (Nat × List (Nat × Nat))) :=
 match n with
 | 2 => some [(0, [(0, 0)]), (3, [(0, 11)])]
 | 8 => some [(0, [(0, 0)]), (3, [(0, 1)])]
 | _ => none
def C : Cfg R := ⟨ae bj, Γ R c1 c2 c3, fun _ => false, h, 0, fun _ => false⟩
noncomputable def S := S0 (C R c1 c2 c3) Tryz.f133 1
noncomputable def G := G0 (C R c1 c2 c3) Tryz.f133 1
def s2 := fun x0 x1 x2 => (⟨dZ 24 [(0, .ptr 0 0), (3, .own 256)], [(0, .var 177 [.str x0, .int .i64 x1]), (256, .row 9 x2 true)], dW⟩ : St)
def s8 := fun x0 x1 x2 => (⟨dZ 24 [(0, .ptr 0 0), (3, .ro 9 x0 true)], [(0, .var 177 [.str x1, .int .i64 x2])], dW⟩ : St)
noncomputable abbrev q2 {R : Type} (J : JT R) : J2 R := fun x0 x1 x2 => J (placeOf Tryz.f133 2) (s2 x0 x1 x2)
noncomputable abbrev q8 {R : Type} (J : JT R) : J8 R := fun x0 x1 x2 => J (placeOf Tryz.f133 8) (s8 x0 x1 x2)
theorem k2 (J : JT R) (κ : KT R) (x0 x1 x2 : _) : S R c1 c2 c3 κ J 2 (s2 x0 x1 x2) = t2 c1 c2 c3 (q2 J) (q8 J) x0 x1 x2 := by kernel_rfl
theorem k8 (J : JT R) (κ : KT R) (x0 x1 x2 : _) : S R c1 c2 c3 κ J 8 (s8 x0 x1 x2) = t8 (K0 κ) x0 x1 x2 := by kernel_rfl
theorem k (κ : KT R) (k : Nat) (a0 a1 : _) : b8 (C R c1 c2 c3) Tryz.f133 10000 k [.vp 177 [.str a0, .int .i64 a1]] κ = aC.e c1 c2 c3 a0 a1 (q2 (G R c1 c2 c3 κ k)) (q8 (G R c1 c2 c3 κ k)) (K0 κ) := by kernel_rfl
theorem g8 (κ : KT R) : ∀ (f : Nat), q8 (G R c1 c2 c3 κ f) = L8 c1 c2 c3 (K0 κ) f
 | 0 => rfl
 | f + 1 => by
  funext x0 x1 x2
  show S R c1 c2 c3 κ (G R c1 c2 c3 κ f) 8 _ = _
  rw [k8]
  rfl
theorem g2 (κ : KT R) : ∀ (f : Nat), q2 (G R c1 c2 c3 κ f) = L2 c1 c2 c3 (K0 κ) f
 | 0 => rfl
 | f + 1 => by
  funext x0 x1 x2
  show S R c1 c2 c3 κ (G R c1 c2 c3 κ f) 2 _ = _
  rw [k2, g2 κ f, g8 R c1 c2 c3 κ f]
  rfl
end
theorem ac {R : Type} (tab : bO) (ht : av tab) (g : Nat) : bL (R := R) Tryz.prog (ae bj) tab g ((C R au af aj).call g) := by
 refine aD fun xs κ => ?_
 show aa _ _ _ g xs κ (Γ R au af aj g xs κ)
 unfold Γ
 split
 ·split
  ·exact au.aE tab ht _ _ κ
  ·exact aa.none
 ·split
  ·exact af.aE tab ht _ _ κ
  ·exact aa.none
 ·split
  ·exact aj.aE tab ht _ _ _ κ
  ·exact aa.none
 ·exact aa.none
theorem aE {R : Type} (tab : bO) (ht : av tab) (a0 a1 : _) (κ : KT R) : aa Tryz.prog (ae bj) tab 133 [.vp 177 [.str a0, .int .i64 a1]] κ (aC a0 a1 (K0 κ)) := ah (C := C R au af aj) (fn := Tryz.f133) cd (ac tab ht) (by kernel_rfl) (by kernel_rfl) (by rw [k]; rw [g2 R au af aj κ ag, g8 R au af aj κ ag]; rfl)
end aC
namespace cW
abbrev K0 {R : Type} (κ : KT R) : Q0 R := fun r0 r1 r2 r3 r4 r5 r6 r7 r8 r9 r10 r11 r12 r13 r14 r15 r16 r17 r18 r19 r20 => κ [.tup [], .vp 32 [.str r0, .str r1, .str r2, .ro 129 r3 true, .bool r4, .str r5, .bool r6, .str r7, .bool r8, .str r9, .bool r10, .str r11, .ro 129 r12 true, .ro 9 r13 true, .bool r14, .str r15, .int .i64 r16, .int .i64 r17, .int .i64 r18, .int .i64 r19, .int .i64 r20, .nil]]
section
variable (R : Type) (c1 : cG.F R) (c2 : aX.F R) (c3 : aF.F R) (c4 : au.F R) (c5 : cQ.F R) (c6 : aC.F R)
def Γ (g : Nat) (xs : List SV) (κ : KT R) : Option R :=
 match g with
 | 120 => (match xs with
  | [.ro 168 a0 false, .str a1] => c1 a0 a1 (cG.K0 κ)
  | _ => none)
 | 129 => (match xs with
  | [.vp 177 [.str a0, .int .i64 a1]] => c2 a0 a1 (aX.K0 κ)
  | _ => none)
 | 130 => (match xs with
  | [.vp 177 [.str a0, .int .i64 a1]] => c3 a0 a1 (aF.K0 κ)
  | _ => none)
 | 131 => (match xs with
  | [.vp 177 [.str a0, .int .i64 a1]] => c4 a0 a1 (au.K0 κ)
  | _ => none)
 | 132 => (match xs with
  | [.ro 168 a0 false, .str a1] => c5 a0 a1 (cQ.K0 κ)
  | _ => none)
 | 133 => (match xs with
  | [.vp 177 [.str a0, .int .i64 a1]] => c6 a0 a1 (aC.K0 κ)
  | _ => none)
 | _ => none
def h (n : Nat) : Option (List (Nat × List (Nat × Nat))) :=
 match n with
 | 15 => some [(0, [(3, 131), (3, 1), (12, 131), (12, 1), (13, 11), (13, 1)]), (1, [(0, 0)])]
 | _ => none
def C : Cfg R := ⟨ae bj, Γ R c1 c2 c3 c4 c5 c6, fun _ => false, h, 0, fun _ => false⟩
noncomputable def S := S0 (C R c1 c2 c3 c4 c5 c6) Tryz.f90 1
noncomputable def G := G0 (C R c1 c2 c3 c4 c5 c6) Tryz.f90 1
def B9 := fun x0 x1 x2 x3 x4 x5 x6 x7 x8 x9 x10 x11 x12 x13 x14 x15 x16 x17 x18 x19 x20 x21 => (⟨dZ 108 [(0, .ptr 0 0), (1, .ro 168 x0 false)], [(0, .var 32 [.str x1, .str x2, .str x3, .ro 129 x4 true, .bool x5, .str x6, .bool x7, .str x8, .bool x9, .str x10, .bool x11, .str x12, .ro 129 x13 true, .ro 9 x14 true, .bool x15, .str x16, .int .i64 x17, .int .i64 x18, .int .i64 x19, .int .i64 x20, .int .i64 x21, .nil])], dW⟩ : St)
noncomputable abbrev xU {R : Type} (J : JT R) : qR R := fun x0 x1 x2 x3 x4 x5 x6 x7 x8 x9 x10 x11 x12 x13 x14 x15 x16 x17 x18 x19 x20 x21 => J (placeOf Tryz.f90 15) (B9 x0 x1 x2 x3 x4 x5 x6 x7 x8 x9 x10 x11 x12 x13 x14 x15 x16 x17 x18 x19 x20 x21)
theorem Dy (J : JT R) (κ : KT R) (x0 x1 x2 x3 x4 x5 x6 x7 x8 x9 x10 x11 x12 x13 x14 x15 x16 x17 x18 x19 x20 x21 : _) : S R c1 c2 c3 c4 c5 c6 κ J 15 (B9 x0 x1 x2 x3 x4 x5 x6 x7 x8 x9 x10 x11 x12 x13 x14 x15 x16 x17 x18 x19 x20 x21) = t15 c1 c6 (K0 κ) x0 x1 x2 x3 x4 x5 x6 x7 x8 x9 x10 x11 x12 x13 x14 x15 x16 x17 x18 x19 x20 x21 := by kernel_rfl
theorem k (κ : KT R) (k : Nat) (a0 a1 a2 a3 a4 a5 a6 a7 a8 a9 a10 a11 a12 a13 a14 a15 a16 a17 a18 a19 : _) : b8 (C R c1 c2 c3 c4 c5 c6) Tryz.f90 10000 k [.vp 32 [.str a0, .str a1, .str a2, .nil, .bool a3, .str a4, .bool a5, .str a6, .bool a7, .str a8, .bool a9, .str a10, .nil, .nil, .bool a11, .str a12, .int .i64 a13, .int .i64 a14, .int .i64 a15, .int .i64 a16, .int .i64 a17, .nil], .ro 168 a18 false, .bool a19] κ = cW.e c1 c2 c3 c4 c5 c6 a0 a1 a2 a3 a4 a5 a6 a7 a8 a9 a10 a11 a12 a13 a14 a15 a16 a17 a18 a19 (xU (G R c1 c2 c3 c4 c5 c6 κ k)) (K0 κ) := by kernel_rfl
theorem g15 (κ : KT R) : ∀ (f : Nat), xU (G R c1 c2 c3 c4 c5 c6 κ f) = mZ c1 c2 c3 c4 c5 c6 (K0 κ) f
 | 0 => rfl
 | f + 1 => by
  funext x0 x1 x2 x3 x4 x5 x6 x7 x8 x9 x10 x11 x12 x13 x14 x15 x16 x17 x18 x19 x20 x21
  show S R c1 c2 c3 c4 c5 c6 κ (G R c1 c2 c3 c4 c5 c6 κ f) 15 _ = _
  rw [Dy]
  rfl
end
theorem ac {R : Type} (tab : bO) (ht : av tab) (g : Nat) : bL (R := R) Tryz.prog (ae bj) tab g ((C R cG aX aF au cQ aC).call g) := by
 refine aD fun xs κ => ?_
 show aa _ _ _ g xs κ (Γ R cG aX aF au cQ aC g xs κ)
 unfold Γ
 split
 ·split
  ·exact cG.aE tab ht _ _ κ
  ·exact aa.none
 ·split
  ·exact aX.aE tab ht _ _ κ
  ·exact aa.none
 ·split
  ·exact aF.aE tab ht _ _ κ
  ·exact aa.none
 ·split
  ·exact au.aE tab ht _ _ κ
  ·exact aa.none
 ·split
  ·exact cQ.aE tab ht _ _ κ
  ·exact aa.none
 ·split
  ·exact aC.aE tab ht _ _ κ
  ·exact aa.none
 ·exact aa.none
theorem aE {R : Type} (tab : bO) (ht : av tab) (a0 a1 a2 a3 a4 a5 a6 a7 a8 a9 a10 a11 a12 a13 a14 a15 a16 a17 a18 a19 : _) (κ : KT R) : aa Tryz.prog (ae bj) tab 90 [.vp 32 [.str a0, .str a1, .str a2, .nil, .bool a3, .str a4, .bool a5, .str a6, .bool a7, .str a8, .bool a9, .str a10, .nil, .nil, .bool a11, .str a12, .int .i64 a13, .int .i64 a14, .int .i64 a15, .int .i64 a16, .int .i64 a17, .nil], .ro 168 a18 false, .bool a19] κ (cW a0 a1 a2 a3 a4 a5 a6 a7 a8 a9 a10 a11 a12 a13 a14 a15 a16 a17 a18 a19 (K0 κ)) := ah (C := C R cG aX aF au cQ aC) (fn := Tryz.f90) cd (ac tab ht) (by kernel_rfl) (by kernel_rfl) (by rw [k]; rw [g15 R cG aX aF au cQ aC κ ag]; rfl)
end cW
namespace aA
abbrev K0 {R : Type} (κ : KT R) : Q0 R := fun r0 r1 r2 r3 r4 r5 r6 r7 r8 r9 r10 r11 r12 r13 r14 r15 r16 r17 r18 r19 r20 r21 r22 => κ [.agg [.str r0, .str r1, .str r2, .ro 129 r3 true, .bool r4, .str r5, .bool r6, .str r7, .bool r8, .str r9, .bool r10, .str r11, .ro 129 r12 true, .ro 9 r13 true, .bool r14, .str r15, .int .i64 r16, .int .i64 r17, .int .i64 r18, .int .i64 r19, .int .i64 r20, .nil], .vp 94 [.str r21, .int .i64 r22]]
section
variable (R : Type) (c1 : dx.F R) (c2 : aU.F R) (c3 : cW.F R)
def Γ (g : Nat) (xs : List SV) (κ : KT R) : Option R :=
 match g with
 | 76 => (match xs with
  | [.str a0] => c2 a0 (aU.K0 κ)
  | _ => none)
 | 89 => (match xs with
  | [.str a0] => c1 a0 (dx.K0 κ)
  | _ => none)
 | 90 => (match xs with
  | [.vp 32 [.str a0, .str a1, .str a2, .nil, .bool a3, .str a4, .bool a5, .str a6, .bool a7, .str a8, .bool a9, .str a10, .nil, .nil, .bool a11, .str a12, .int .i64 a13, .int .i64 a14, .int .i64 a15, .int .i64 a16, .int .i64 a17, .nil], .ro 168 a18 false, .bool a19] => c3 a0 a1 a2 a3 a4 a5 a6 a7 a8 a9 a10 a11 a12 a13 a14 a15 a16 a17 a18 a19 (cW.K0 κ)
  | _ => none)
 | _ => none
def h (n : Nat) : Option (List (Nat × List (Nat × Nat))) :=
 match n with
 | _ => none
def C : Cfg R := ⟨ae bj, Γ R c1 c2 c3, fun _ => false, h, 0, fun _ => false⟩
theorem k (κ : KT R) (k : Nat) (a0 a1 a2 a3 a4 : _) : b8 (C R c1 c2 c3) Tryz.f48 10000 k [.vp 94 [.str a0, .int .i64 a1], .agg [.int .i64 a2, .int .i64 a3], .bool a4] κ = aA.e c1 c2 c3 a0 a1 a2 a3 a4 (K0 κ) := by kernel_rfl
end
theorem ac {R : Type} (tab : bO) (ht : av tab) (g : Nat) : bL (R := R) Tryz.prog (ae bj) tab g ((C R dx aU cW).call g) := by
 refine aD fun xs κ => ?_
 show aa _ _ _ g xs κ (Γ R dx aU cW g xs κ)
 unfold Γ
 split
 ·split
  ·exact aU.aE tab ht _ κ
  ·exact aa.none
 ·split
  ·exact dx.aE tab ht _ κ
  ·exact aa.none
 ·split
  ·exact cW.aE tab ht _ _ _ _ _ _ _ _ _ _ _ _ _ _ _ _ _ _ _ _ κ
  ·exact aa.none
 ·exact aa.none
theorem aE {R : Type} (tab : bO) (ht : av tab) (a0 a1 a2 a3 a4 : _) (κ : KT R) : aa Tryz.prog (ae bj) tab 48 [.vp 94 [.str a0, .int .i64 a1], .agg [.int .i64 a2, .int .i64 a3], .bool a4] κ (aA a0 a1 a2 a3 a4 (K0 κ)) := ah (C := C R dx aU cW) (fn := Tryz.f48) cd (ac tab ht) (by kernel_rfl) (by kernel_rfl) (by rw [k]; rfl)
end aA
namespace bD
abbrev K0 {R : Type} (κ : KT R) : Q0 R := fun r0 r1 r2 r3 r4 r5 r6 r7 r8 r9 r10 r11 r12 r13 r14 r15 r16 r17 r18 r19 r20 r21 => κ [.bool r0, .vp 32 [.str r1, .str r2, .str r3, .ro 129 r4 true, .bool r5, .str r6, .bool r7, .str r8, .bool r9, .str r10, .bool r11, .str r12, .ro 129 r13 true, .ro 9 r14 true, .bool r15, .str r16, .int .i64 r17, .int .i64 r18, .int .i64 r19, .int .i64 r20, .int .i64 r21, .nil]]
section
variable (R : Type)
def Γ (g : Nat) (xs : List SV) (κ : KT R) : Option R :=
 match g with
 | _ => none
def h (n : Nat) : Option (List (Nat × List (Nat × Nat))) :=
 match n with
 | _ => none
def C : Cfg R := ⟨ae bj, Γ R, fun _ => false, h, 0, fun _ => false⟩
theorem k (κ : KT R) (k : Nat) (a0 a1 a2 a3 a4 a5 a6 a7 a8 a9 a10 a11 a12 a13 a14 a15 a16 a17 a18 a19 a20 : _) : b8 (C R) Tryz.f59 10000 k [.vp 32 [.str a0, .str a1, .str a2, .ro 129 a3 true, .bool a4, .str a5, .bool a6, .str a7, .bool a8, .str a9, .bool a10, .str a11, .ro 129 a12 true, .ro 9 a13 true, .bool a14, .str a15, .int .i64 a16, .int .i64 a17, .int .i64 a18, .int .i64 a19, .int .i64 a20, .nil]] κ = bD.e a0 a1 a2 a3 a4 a5 a6 a7 a8 a9 a10 a11 a12 a13 a14 a15 a16 a17 a18 a19 a20 (K0 κ) := by kernel_rfl
end
theorem ac {R : Type} (tab : bO) (ht : av tab) (g : Nat) : bL (R := R) Tryz.prog (ae bj) tab g ((C R).call g) := by
 refine aD fun xs κ => ?_
 show aa _ _ _ g xs κ (Γ R g xs κ)
 unfold Γ
 split
 ·exact aa.none
theorem aE {R : Type} (tab : bO) (ht : av tab) (a0 a1 a2 a3 a4 a5 a6 a7 a8 a9 a10 a11 a12 a13 a14 a15 a16 a17 a18 a19 a20 : _) (κ : KT R) : aa Tryz.prog (ae bj) tab 59 [.vp 32 [.str a0, .str a1, .str a2, .ro 129 a3 true, .bool a4, .str a5, .bool a6, .str a7, .bool a8, .str a9, .bool a10, .str a11, .ro 129 a12 true, .ro 9 a13 true, .bool a14, .str a15, .int .i64 a16, .int .i64 a17, .int .i64 a18, .int .i64 a19, .int .i64 a20, .nil]] κ (bD a0 a1 a2 a3 a4 a5 a6 a7 a8 a9 a10 a11 a12 a13 a14 a15 a16 a17 a18 a19 a20 (K0 κ)) := ah (C := C R) (fn := Tryz.f59) cd (ac tab ht) (by kernel_rfl) (by kernel_rfl) (by rw [k]; rfl)
end bD
namespace cu
abbrev K0 {R : Type} (κ : KT R) : BA -> Bool -> Option R := fun r0 r1 => κ [.tup [.str r0, .bool r1]]
section
variable (R : Type) (c1 : bG.F R)
def Γ (g : Nat) (xs : List SV) (κ : KT R) : Option R :=
 match g with
 | 173 => (match xs with
  | [.str a0, .str a1] => c1 a0 a1 (bG.K0 κ)
  | _ => none)
 | _ => none
def h (n : Nat) : Option (List (Nat × List (Nat × Nat))) :=
 match n with
 | _ => none
def C : Cfg R := ⟨ae bj, Γ R c1, fun _ => false, h, 0, fun _ => false⟩
theorem k (κ : KT R) (k : Nat) (a0 a1 : _) : b8 (C R c1) Tryz.f225 10000 k [.str a0, .str a1] κ = cu.e c1 a0 a1 (K0 κ) := by kernel_rfl
end
theorem ac {R : Type} (tab : bO) (ht : av tab) (g : Nat) : bL (R := R) Tryz.prog (ae bj) tab g ((C R bG).call g) := by
 refine aD fun xs κ => ?_
 show aa _ _ _ g xs κ (Γ R bG g xs κ)
 unfold Γ
 split
 ·split
  ·exact bG.aE tab ht _ _ κ
  ·exact aa.none
 ·exact aa.none
theorem aE {R : Type} (tab : bO) (ht : av tab) (a0 a1 : _) (κ : KT R) : aa Tryz.prog (ae bj) tab 225 [.str a0, .str a1] κ (cu a0 a1 (K0 κ)) := ah (C := C R bG) (fn := Tryz.f225) cd (ac tab ht) (by kernel_rfl) (by kernel_rfl) (by rw [k]; rfl)
end cu
namespace ci
abbrev K0 {R : Type} (κ : KT R) : BA -> Bool -> Option R := fun r0 r1 => κ [.tup [.str r0, .bool r1]]
section
variable (R : Type) (c1 : cu.F R)
def Γ (g : Nat) (xs : List SV) (κ : KT R) : Option R :=
 match g with
 | 225 => (match xs with
  | [.str a0, .str a1] => c1 a0 a1 (cu.K0 κ)
  | _ => none)
 | _ => none
def h (n : Nat) : Option (List (Nat × List (Nat × Nat))) :=
 match n with
 | _ => none
def C : Cfg R := ⟨ae bj, Γ R c1, fun _ => false, h, 0, fun _ => false⟩
theorem k (κ : KT R) (k : Nat) (a0 a1 : _) : b8 (C R c1) Tryz.f208 10000 k [.str a0, .str a1] κ = ci.e c1 a0 a1 (K0 κ) := by kernel_rfl
end
theorem ac {R : Type} (tab : bO) (ht : av tab) (g : Nat) : bL (R := R) Tryz.prog (ae bj) tab g ((C R cu).call g) := by
 refine aD fun xs κ => ?_
 show aa _ _ _ g xs κ (Γ R cu g xs κ)
 unfold Γ
 split
 ·split
  ·exact cu.aE tab ht _ _ κ
  ·exact aa.none
 ·exact aa.none
theorem aE {R : Type} (tab : bO) (ht : av tab) (a0 a1 : _) (κ : KT R) : aa Tryz.prog (ae bj) tab 208 [.str a0, .str a1] κ (ci a0 a1 (K0 κ)) := ah (C := C R cu) (fn := Tryz.f208) cd (ac tab ht) (by kernel_rfl) (by kernel_rfl) (by rw [k]; rfl)
end ci
namespace cw
abbrev K0 {R : Type} (κ : KT R) : Bool -> Bool -> Option R := fun r0 r1 => κ [.tup [.bool r0, .bool r1]]
section
variable (R : Type) (c1 : ci.F R) (c2 : bA.F R)
def Γ (g : Nat) (xs : List SV) (κ : KT R) : Option R :=
 match g with
 | 124 => (match xs with
  | [.str a0, .str a1] => c2 a0 a1 (bA.K0 κ)
  | _ => none)
 | 208 => (match xs with
  | [.str a0, .str a1] => c1 a0 a1 (ci.K0 κ)
  | _ => none)
 | _ => none
def h (n : Nat) : Option (List (Nat × List (Nat × Nat))) :=
 match n with
 | _ => none
def C : Cfg R := ⟨ae bj, Γ R c1 c2, fun _ => false, h, 0, fun _ => false⟩
theorem k (κ : KT R) (k : Nat) (a0 a1 : _) : b8 (C R c1 c2) Tryz.f179 10000 k [.str a0, .str a1] κ = cw.e c1 c2 a0 a1 (K0 κ) := by kernel_rfl
end
theorem ac {R : Type} (tab : bO) (ht : av tab) (g : Nat) : bL (R := R) Tryz.prog (ae bj) tab g ((C R ci bA).call g) := by
 refine aD fun xs κ => ?_
 show aa _ _ _ g xs κ (Γ R ci bA g xs κ)
 unfold Γ
 split
 ·split
  ·exact bA.aE tab ht _ _ κ
  ·exact aa.none
 ·split
  ·exact ci.aE tab ht _ _ κ
  ·exact aa.none
 ·exact aa.none
theorem aE {R : Type} (tab : bO) (ht : av tab) (a0 a1 : _) (κ : KT R) : aa Tryz.prog (ae bj) tab 179 [.str a0, .str a1] κ (cw a0 a1 (K0 κ)) := ah (C := C R ci bA) (fn := Tryz.f179) cd (ac tab ht) (by kernel_rfl) (by kernel_rfl) (by rw [k]; rfl)
end cw
namespace bm
abbrev K0 {R : Type} (κ : KT R) : Q0 R := fun r0 r1 r2 => κ [.fr 29 r0 true, .vp 94 [.str r1, .int .i64 r2]]
section
variable (R : Type) (c1 : aP.F R) (c2 : cw.F R)
def Γ (g : Nat) (xs : List SV) (κ : KT R) : Option R :=
 match g with
 | 128 => (match xs with
  | [.str a0, .str a1] => c1 a0 a1 (aP.K0 κ)
  | _ => none)
 | 179 => (match xs with
  | [.str a0, .str a1] => c2 a0 a1 (cw.K0 κ)
  | _ => none)
 | _ => none
def h (n : Nat) : Option (List (Nat × List (Nat × Nat))) :=
 match n with
 | 4 => some [(0, [(0, 0)]), (2, [(0, 0)]), (4, [(0, 0)]), (7, [(0, 31)]), (8, [(0, 0)]), (9, [(0, 0)])]
 | _ => none
def C : Cfg R := ⟨ae bj, Γ R c1 c2, fun _ => false, h, 0, fun _ => false⟩
noncomputable def S := S0 (C R c1 c2) Tryz.f134 1
noncomputable def G := G0 (C R c1 c2) Tryz.f134 1
def s4 := fun x0 x1 x2 x3 x4 x5 x6 x7 => (⟨dZ 85 [(0, .ptr 0 0), (2, .str x0), (4, .ptr 383 0), (7, .own 512), (8, .int .i64 x1), (9, .int .i64 x2)], [(0, .var 94 [.str x3, .int .i64 x4]), (383, .var 29 [.int .i64 x5, .int .i64 x6]), (512, .row 29 x7 true)], dW⟩ : St)
noncomputable abbrev q4 {R : Type} (J : JT R) : J4 R := fun x0 x1 x2 x3 x4 x5 x6 x7 => J (placeOf Tryz.f134 4) (s4 x0 x1 x2 x3 x4 x5 x6 x7)
theorem k4 (J : JT R) (κ : KT R) (x0 x1 x2 x3 x4 x5 x6 x7 : _) : S R c1 c2 κ J 4 (s4 x0 x1 x2 x3 x4 x5 x6 x7) = t4 c1 c2 (q4 J) (K0 κ) x0 x1 x2 x3 x4 x5 x6 x7 := by kernel_rfl
theorem k (κ : KT R) (k : Nat) (a0 a1 a2 a3 a4 : _) : b8 (C R c1 c2) Tryz.f134 10000 k [.vp 94 [.str a0, .int .i64 a1], .agg [.int .i64 a2, .int .i64 a3], .str a4] κ = bm.e c1 c2 a0 a1 a2 a3 a4 (q4 (G R c1 c2 κ k)) (K0 κ) := by kernel_rfl
theorem g4 (κ : KT R) : ∀ (f : Nat), q4 (G R c1 c2 κ f) = L4 c1 c2 (K0 κ) f
 | 0 => rfl
 | f + 1 => by
  funext x0 x1 x2 x3 x4 x5 x6 x7
  show S R c1 c2 κ (G R c1 c2 κ f) 4 _ = _
  rw [k4, g4 κ f]
  rfl
end
theorem ac {R : Type} (tab : bO) (ht : av tab) (g : Nat) : bL (R := R) Tryz.prog (ae bj) tab g ((C R aP cw).call g) := by
 refine aD fun xs κ => ?_
 show aa _ _ _ g xs κ (Γ R aP cw g xs κ)
 unfold Γ
 split
 ·split
  ·exact aP.aE tab ht _ _ κ
  ·exact aa.none
 ·split
  ·exact cw.aE tab ht _ _ κ
  ·exact aa.none
 ·exact aa.none
theorem aE {R : Type} (tab : bO) (ht : av tab) (a0 a1 a2 a3 a4 : _) (κ : KT R) : aa Tryz.prog (ae bj) tab 134 [.vp 94 [.str a0, .int .i64 a1], .agg [.int .i64 a2, .int .i64 a3], .str a4] κ (bm a0 a1 a2 a3 a4 (K0 κ)) := ah (C := C R aP cw) (fn := Tryz.f134) cd (ac tab ht) (by kernel_rfl) (by kernel_rfl) (by rw [k]; rw [g4 R aP cw κ ag]; rfl)
end bm
namespace aB
abbrev K0 {R : Type} (κ : KT R) : Q0 R := fun r0 r1 r2 r3 r4 r5 r6 r7 r8 r9 r10 r11 r12 r13 r14 r15 r16 r17 r18 r19 r20 r21 r22 => κ [.nil, .vp 94 [.str r0, .int .i64 r1], .vp 32 [.str r2, .str r3, .str r4, .ro 129 r5 true, .bool r6, .str r7, .bool r8, .str r9, .bool r10, .str r11, .bool r12, .str r13, .ro 129 r14 true, .ro 9 r15 true, .bool r16, .str r17, .int .i64 r18, .int .i64 r19, .int .i64 r20, .int .i64 r21, .int .i64 r22, .nil]]
abbrev K1 {R : Type} (κ : KT R) : Q1 R := fun r0 r1 r2 r3 r4 r5 r6 r7 r8 r9 r10 r11 r12 r13 r14 r15 r16 r17 r18 r19 r20 r21 r22 r23 => κ [.fr 29 r0 true, .vp 94 [.str r1, .int .i64 r2], .vp 32 [.str r3, .str r4, .str r5, .ro 129 r6 true, .bool r7, .str r8, .bool r9, .str r10, .bool r11, .str r12, .bool r13, .str r14, .ro 129 r15 true, .ro 9 r16 true, .bool r17, .str r18, .int .i64 r19, .int .i64 r20, .int .i64 r21, .int .i64 r22, .int .i64 r23, .nil]]
section
variable (R : Type) (c1 : bD.F R) (c2 : bm.F R)
def Γ (g : Nat) (xs : List SV) (κ : KT R) : Option R :=
 match g with
 | 59 => (match xs with
  | [.vp 32 [.str a0, .str a1, .str a2, .ro 129 a3 true, .bool a4, .str a5, .bool a6, .str a7, .bool a8, .str a9, .bool a10, .str a11, .ro 129 a12 true, .ro 9 a13 true, .bool a14, .str a15, .int .i64 a16, .int .i64 a17, .int .i64 a18, .int .i64 a19, .int .i64 a20, .nil]] => c1 a0 a1 a2 a3 a4 a5 a6 a7 a8 a9 a10 a11 a12 a13 a14 a15 a16 a17 a18 a19 a20 (bD.K0 κ)
  | _ => none)
 | 134 => (match xs with
  | [.vp 94 [.str a0, .int .i64 a1], .agg [.int .i64 a2, .int .i64 a3], .str a4] => c2 a0 a1 a2 a3 a4 (bm.K0 κ)
  | _ => none)
 | _ => none
def h (n : Nat) : Option (List (Nat × List (Nat × Nat))) :=
 match n with
 | 8 => some [(0, [(0, 0)]), (1, [(0, 0)]), (51, [(0, 0)]), (52, [(0, 0)]), (53, [(0, 0)])]
 | _ => none
def C : Cfg R := ⟨ae bj, Γ R c1 c2, fun _ => false, h, 0, fun _ => false⟩
noncomputable def S := S0 (C R c1 c2) Tryz.f91 2
noncomputable def G := G0 (C R c1 c2) Tryz.f91 2
def s8 := fun x0 x1 x2 x3 x4 x5 x6 x7 x8 x9 x10 x11 x12 x13 x14 x15 x16 x17 x18 x19 x20 x21 x22 x23 x24 x25 => (⟨dZ 81 [(0, .ptr 0 0), (1, .ptr 1 0), (51, .ro 129 x0 true), (52, .int .i64 x1), (53, .int .i64 x2)], [(1, .var 32 [.str x3, .str x4, .str x5, .ro 129 x6 true, .bool x7, .str x8, .bool x9, .str x10, .bool x11, .str x12, .bool x13, .str x14, .ro 129 x15 true, .ro 9 x16 true, .bool x17, .str x18, .int .i64 x19, .int .i64 x20, .int .i64 x21, .int .i64 x22, .int .i64 x23, .nil]), (0, .var 94 [.str x24, .int .i64 x25])], dW⟩ : St)
noncomputable abbrev q8 {R : Type} (J : JT R) : J8 R := fun x0 x1 x2 x3 x4 x5 x6 x7 x8 x9 x10 x11 x12 x13 x14 x15 x16 x17 x18 x19 x20 x21 x22 x23 x24 x25 => J (placeOf Tryz.f91 8) (s8 x0 x1 x2 x3 x4 x5 x6 x7 x8 x9 x10 x11 x12 x13 x14 x15 x16 x17 x18 x19 x20 x21 x22 x23 x24 x25)
theorem k8 (J : JT R) (κ : KT R) (x0 x1 x2 x3 x4 x5 x6 x7 x8 x9 x10 x11 x12 x13 x14 x15 x16 x17 x18 x19 x20 x21 x22 x23 x24 x25 : _) : S R c1 c2 κ J 8 (s8 x0 x1 x2 x3 x4 x5 x6 x7 x8 x9 x10 x11 x12 x13 x14 x15 x16 x17 x18 x19 x20 x21 x22 x23 x24 x25) = t8 c2 (q8 J) (K0 κ) (K1 κ) x0 x1 x2 x3 x4 x5 x6 x7 x8 x9 x10 x11 x12 x13 x14 x15 x16 x17 x18 x19 x20 x21 x22 x23 x24 x25 := by kernel_rfl
theorem k (κ : KT R) (k : Nat) (a0 a1 a2 a3 a4 a5 a6 a7 a8 a9 a10 a11 a12 a13 a14 a15 a16 a17 a18 a19 a20 a21 a22 : _) : b8 (C R c1 c2) Tryz.f91 10000 k [.vp 94 [.str a0, .int .i64 a1], .vp 32 [.str a2, .str a3, .str a4, .ro 129 a5 true, .bool a6, .str a7, .bool a8, .str a9, .bool a10, .str a11, .bool a12, .str a13, .ro 129 a14 true, .ro 9 a15 true, .bool a16, .str a17, .int .i64 a18, .int .i64 a19, .int .i64 a20, .int .i64 a21, .int .i64 a22, .nil]] κ = aB.e c1 c2 a0 a1 a2 a3 a4 a5 a6 a7 a8 a9 a10 a11 a12 a13 a14 a15 a16 a17 a18 a19 a20 a21 a22 (q8 (G R c1 c2 κ k)) (K0 κ) (K1 κ) := by kernel_rfl
theorem g8 (κ : KT R) : ∀ (f : Nat), q8 (G R c1 c2 κ f) = L8 c1 c2 (K0 κ) (K1 κ) f
 | 0 => rfl
 | f + 1 => by
  funext x0 x1 x2 x3 x4 x5 x6 x7 x8 x9 x10 x11 x12 x13 x14 x15 x16 x17 x18 x19 x20 x21 x22 x23 x24 x25
  show S R c1 c2 κ (G R c1 c2 κ f) 8 _ = _
  rw [k8, g8 κ f]
  rfl
end
theorem ac {R : Type} (tab : bO) (ht : av tab) (g : Nat) : bL (R := R) Tryz.prog (ae bj) tab g ((C R bD bm).call g) := by
 refine aD fun xs κ => ?_
 show aa _ _ _ g xs κ (Γ R bD bm g xs κ)
 unfold Γ
 split
 ·split
  ·exact bD.aE tab ht _ _ _ _ _ _ _ _ _ _ _ _ _ _ _ _ _ _ _ _ _ κ
  ·exact aa.none
 ·split
  ·exact bm.aE tab ht _ _ _ _ _ κ
  ·exact aa.none
 ·exact aa.none
theorem aE {R : Type} (tab : bO) (ht : av tab) (a0 a1 a2 a3 a4 a5 a6 a7 a8 a9 a10 a11 a12 a13 a14 a15 a16 a17 a18 a19 a20 a21 a22 : _) (κ : KT R) : aa Tryz.prog (ae bj) tab 91 [.vp 94 [.str a0, .int .i64 a1], .vp 32 [.str a2, .str a3, .str a4, .ro 129 a5 true, .bool a6, .str a7, .bool a8, .str a9, .bool a10, .str a11, .bool a12, .str a13, .ro 129 a14 true, .ro 9 a15 true, .bool a16, .str a17, .int .i64 a18, .int .i64 a19, .int .i64 a20, .int .i64 a21, .int .i64 a22, .nil]] κ (aB a0 a1 a2 a3 a4 a5 a6 a7 a8 a9 a10 a11 a12 a13 a14 a15 a16 a17 a18 a19 a20 a21 a22 (K0 κ) (K1 κ)) := ah (C := C R bD bm) (fn := Tryz.f91) cd (ac tab ht) (by kernel_rfl) (by kernel_rfl) (by rw [k]; rw [g8 R bD bm κ ag]; rfl)
end aB
namespace dM
abbrev K0 {R : Type} (κ : KT R) : BA -> Option R := fun r0 => κ [.str r0]
section
variable (R : Type)
def Γ (g : Nat) (xs : List SV) (κ : KT R) : Option R :=
 match g with
 | _ => none
def h (n : Nat) : Option (List (Nat × List (Nat × Nat))) :=
 match n with
 | _ => none
def C : Cfg R := ⟨ae bj, Γ R, fun _ => false, h, 0, fun _ => false⟩
theorem k (κ : KT R) (k : Nat) (a0 : _) : b8 (C R) Tryz.f226 10000 k [.int .i64 a0] κ = dM.e a0 (K0 κ) := by kernel_rfl
end
theorem ac {R : Type} (tab : bO) (ht : av tab) (g : Nat) : bL (R := R) Tryz.prog (ae bj) tab g ((C R).call g) := by
 refine aD fun xs κ => ?_
 show aa _ _ _ g xs κ (Γ R g xs κ)
 unfold Γ
 split
 ·exact aa.none
theorem aE {R : Type} (tab : bO) (ht : av tab) (a0 : _) (κ : KT R) : aa Tryz.prog (ae bj) tab 226 [.int .i64 a0] κ (dM a0 (K0 κ)) := ah (C := C R) (fn := Tryz.f226) cd (ac tab ht) (by kernel_rfl) (by kernel_rfl) (by rw [k]; rfl)
end dM
namespace cI
abbrev K0 {R : Type} (κ : KT R) : BA -> Option R := fun r0 => κ [.str r0]
section
variable (R : Type) (c1 : dM.F R)
def Γ (g : Nat) (xs : List SV) (κ : KT R) : Option R :=
 match g with
 | 226 => (match xs with
  | [.int .i64 a0] => c1 a0 (dM.K0 κ)
  | _ => none)
 | _ => none
def h (n : Nat) : Option (List (Nat × List (Nat × Nat))) :=
 match n with
 | _ => none
def C : Cfg R := ⟨ae bj, Γ R c1, fun _ => false, h, 0, fun _ => false⟩
theorem k (κ : KT R) (k : Nat) (a0 a1 : _) : b8 (C R c1) Tryz.f209 10000 k [.int .i64 a0, .int .i64 a1] κ = cI.e c1 a0 a1 (K0 κ) := by kernel_rfl
end
theorem ac {R : Type} (tab : bO) (ht : av tab) (g : Nat) : bL (R := R) Tryz.prog (ae bj) tab g ((C R dM).call g) := by
 refine aD fun xs κ => ?_
 show aa _ _ _ g xs κ (Γ R dM g xs κ)
 unfold Γ
 split
 ·split
  ·exact dM.aE tab ht _ κ
  ·exact aa.none
 ·exact aa.none
theorem aE {R : Type} (tab : bO) (ht : av tab) (a0 a1 : _) (κ : KT R) : aa Tryz.prog (ae bj) tab 209 [.int .i64 a0, .int .i64 a1] κ (cI a0 a1 (K0 κ)) := ah (C := C R dM) (fn := Tryz.f209) cd (ac tab ht) (by kernel_rfl) (by kernel_rfl) (by rw [k]; rfl)
end cI
namespace ej
abbrev K0 {R : Type} (κ : KT R) : BA -> Option R := fun r0 => κ [.str r0]
section
variable (R : Type) (c1 : cI.F R)
def Γ (g : Nat) (xs : List SV) (κ : KT R) : Option R :=
 match g with
 | 209 => (match xs with
  | [.int .i64 a0, .int .i64 a1] => c1 a0 a1 (cI.K0 κ)
  | _ => none)
 | _ => none
def h (n : Nat) : Option (List (Nat × List (Nat × Nat))) :=
 match n with
 | _ => none
def C : Cfg R := ⟨ae bj, Γ R c1, fun _ => false, h, 0, fun _ => false⟩
theorem k (κ : KT R) (k : Nat) (a0 : _) : b8 (C R c1) Tryz.f180 10000 k [.int .i64 a0] κ = ej.e c1 a0 (K0 κ) := by kernel_rfl
end
theorem ac {R : Type} (tab : bO) (ht : av tab) (g : Nat) : bL (R := R) Tryz.prog (ae bj) tab g ((C R cI).call g) := by
 refine aD fun xs κ => ?_
 show aa _ _ _ g xs κ (Γ R cI g xs κ)
 unfold Γ
 split
 ·split
  ·exact cI.aE tab ht _ _ κ
  ·exact aa.none
 ·exact aa.none
theorem aE {R : Type} (tab : bO) (ht : av tab) (a0 : _) (κ : KT R) : aa Tryz.prog (ae bj) tab 180 [.int .i64 a0] κ (ej a0 (K0 κ)) := ah (C := C R cI) (fn := Tryz.f180) cd (ac tab ht) (by kernel_rfl) (by kernel_rfl) (by rw [k]; rfl)
end ej
namespace b9
abbrev K0 {R : Type} (κ : KT R) : BA -> Option R := fun r0 => κ [.str r0]
section
variable (R : Type) (c1 : ej.F R)
def Γ (g : Nat) (xs : List SV) (κ : KT R) : Option R :=
 match g with
 | 180 => (match xs with
  | [.int .i64 a0] => c1 a0 (ej.K0 κ)
  | _ => none)
 | _ => none
def h (n : Nat) : Option (List (Nat × List (Nat × Nat))) :=
 match n with
 | _ => none
def C : Cfg R := ⟨ae bj, Γ R c1, fun _ => false, h, 0, fun _ => false⟩
theorem k (κ : KT R) (k : Nat) (a0 : _) : b8 (C R c1) Tryz.f135 10000 k [.int .i64 a0] κ = b9.e c1 a0 (K0 κ) := by kernel_rfl
end
theorem ac {R : Type} (tab : bO) (ht : av tab) (g : Nat) : bL (R := R) Tryz.prog (ae bj) tab g ((C R ej).call g) := by
 refine aD fun xs κ => ?_
 show aa _ _ _ g xs κ (Γ R ej g xs κ)
 unfold Γ
 split
 ·split
  ·exact ej.aE tab ht _ κ
  ·exact aa.none
 ·exact aa.none
theorem aE {R : Type} (tab : bO) (ht : av tab) (a0 : _) (κ : KT R) : aa Tryz.prog (ae bj) tab 135 [.int .i64 a0] κ (b9 a0 (K0 κ)) := ah (C := C R ej) (fn := Tryz.f135) cd (ac tab ht) (by kernel_rfl) (by kernel_rfl) (by rw [k]; rfl)
end b9
namespace aO
abbrev K0 {R : Type} (κ : KT R) : Int -> Option R := fun r0 => κ [.int .i64 r0]
section
variable (R : Type)
def Γ (g : Nat) (xs : List SV) (κ : KT R) : Option R :=
 match g with
 | _ => none
def h (n : Nat) : Option (List (Nat × List (Nat × Nat))) :=
 match n with
 | 2 => some [(2, [(0, 0)]), (4, [(0, 0)])]
 | _ => none
def C : Cfg R := ⟨ae bj, Γ R, fun _ => false, h, 0, fun _ => false⟩
noncomputable def S := S0 (C R) Tryz.f136 0
noncomputable def G := G0 (C R) Tryz.f136 0
def s2 := fun x0 x1 x2 => (⟨dZ 10 [(2, .int .i64 x0), (4, .ptr 383 0)], [(383, .sit x1 x2)], dW⟩ : St)
noncomputable abbrev q2 {R : Type} (J : JT R) : J2 R := fun x0 x1 x2 => J (placeOf Tryz.f136 2) (s2 x0 x1 x2)
theorem k2 (J : JT R) (κ : KT R) (x0 x1 x2 : _) : S R κ J 2 (s2 x0 x1 x2) = t2 (q2 J) (K0 κ) x0 x1 x2 := by kernel_rfl
theorem k (κ : KT R) (k : Nat) (a0 : _) : b8 (C R) Tryz.f136 10000 k [.str a0] κ = aO.e a0 (q2 (G R κ k)) (K0 κ) := by kernel_rfl
theorem g2 (κ : KT R) : ∀ (f : Nat), q2 (G R κ f) = L2 (K0 κ) f
 | 0 => rfl
 | f + 1 => by
  funext x0 x1 x2
  show S R κ (G R κ f) 2 _ = _
  rw [k2, g2 κ f]
  rfl
end
theorem ac {R : Type} (tab : bO) (ht : av tab) (g : Nat) : bL (R := R) Tryz.prog (ae bj) tab g ((C R).call g) := by
 refine aD fun xs κ => ?_
 show aa _ _ _ g xs κ (Γ R g xs κ)
 unfold Γ
 split
 ·exact aa.none
theorem aE {R : Type} (tab : bO) (ht : av tab) (a0 : _) (κ : KT R) : aa Tryz.prog (ae bj) tab 136 [.str a0] κ (aO a0 (K0 κ)) := ah (C := C R) (fn := Tryz.f136) cd (ac tab ht) (by kernel_rfl) (by kernel_rfl) (by rw [k]; rw [g2 R κ ag]; rfl)
end aO
namespace bC
abbrev K0 {R : Type} (κ : KT R) : Int -> Option R := fun r0 => κ [.int .i64 r0]
section
variable (R : Type) (c1 : aO.F R) (c2 : aP.F R)
def Γ (g : Nat) (xs : List SV) (κ : KT R) : Option R :=
 match g with
 | 128 => (match xs with
  | [.str a0, .str a1] => c2 a0 a1 (aP.K0 κ)
  | _ => none)
 | 136 => (match xs with
  | [.str a0] => c1 a0 (aO.K0 κ)
  | _ => none)
 | _ => none
def h (n : Nat) : Option (List (Nat × List (Nat × Nat))) :=
 match n with
 | 6 => some [(0, [(0, 0)]), (1, [(0, 0)]), (5, [(0, 0)])]
 | _ => none
def C : Cfg R := ⟨ae bj, Γ R c1 c2, fun _ => false, h, 0, fun _ => false⟩
noncomputable def S := S0 (C R c1 c2) Tryz.f93 0
noncomputable def G := G0 (C R c1 c2) Tryz.f93 0
def s6 := fun x0 x1 x2 => (⟨dZ 34 [(0, .str x0), (1, .str x1), (5, .int .i64 x2)], [], dW⟩ : St)
noncomputable abbrev q6 {R : Type} (J : JT R) : J6 R := fun x0 x1 x2 => J (placeOf Tryz.f93 6) (s6 x0 x1 x2)
theorem k6 (J : JT R) (κ : KT R) (x0 x1 x2 : _) : S R c1 c2 κ J 6 (s6 x0 x1 x2) = t6 c2 (q6 J) (K0 κ) x0 x1 x2 := by kernel_rfl
theorem k (κ : KT R) (k : Nat) (a0 a1 : _) : b8 (C R c1 c2) Tryz.f93 10000 k [.str a0, .str a1] κ = bC.e c1 c2 a0 a1 (q6 (G R c1 c2 κ k)) (K0 κ) := by kernel_rfl
theorem g6 (κ : KT R) : ∀ (f : Nat), q6 (G R c1 c2 κ f) = L6 c1 c2 (K0 κ) f
 | 0 => rfl
 | f + 1 => by
  funext x0 x1 x2
  show S R c1 c2 κ (G R c1 c2 κ f) 6 _ = _
  rw [k6, g6 κ f]
  rfl
end
theorem ac {R : Type} (tab : bO) (ht : av tab) (g : Nat) : bL (R := R) Tryz.prog (ae bj) tab g ((C R aO aP).call g) := by
 refine aD fun xs κ => ?_
 show aa _ _ _ g xs κ (Γ R aO aP g xs κ)
 unfold Γ
 split
 ·split
  ·exact aP.aE tab ht _ _ κ
  ·exact aa.none
 ·split
  ·exact aO.aE tab ht _ κ
  ·exact aa.none
 ·exact aa.none
theorem aE {R : Type} (tab : bO) (ht : av tab) (a0 a1 : _) (κ : KT R) : aa Tryz.prog (ae bj) tab 93 [.str a0, .str a1] κ (bC a0 a1 (K0 κ)) := ah (C := C R aO aP) (fn := Tryz.f93) cd (ac tab ht) (by kernel_rfl) (by kernel_rfl) (by rw [k]; rw [g6 R aO aP κ ag]; rfl)
end bC
end Go.Proofs.Ab
