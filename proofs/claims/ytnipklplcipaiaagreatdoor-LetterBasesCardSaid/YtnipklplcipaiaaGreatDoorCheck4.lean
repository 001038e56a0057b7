/- Each plain function is what a call of its Go function does, checked by the kernel (no condition but what its checks ask). -/
import Derived.Test.YtnipklplcipaiaaGreatDoorSeat
import Derived.Test.YtnipklplcipaiaaGreatDoorText
import Derived.Test.YtnipklplcipaiaaGreatDoorCheck3
/- Each typed text is what its function does: checked by the kernel. -/
namespace Go.Proofs.Ab
set_option linter.unusedVariables false
set_option maxRecDepth 4000
open Go Go.Proofs
set_option maxRecDepth 100000
def letter_address_o.Γ {R : Type} (c1 : letter_find_ois.F R) (c2 : letter_held_o.F R) (c3 : letter_text_ob.F R) (c4 : letter_some_0.F R) (c5 : letter_routed_o.F R) (c6 : letter_piece_is_0.F R) (g : Nat) (xs : List SV) (κ : List SV → Option R) : Option R :=
  match g with
  | 58 => (match xs with
    | [.str a0] => c4 a0 (fun r0 r1 => κ [.agg [.bool r0, .str r1]])
    | _ => none)
  | 59 => (match xs with
    | [.ro 89 a0 false, .bool a1] => c3 a0 a1 (fun r0 => κ [.str r0])
    | _ => none)
  | 60 => (match xs with
    | [.ro 89 a0 false] => c2 a0 (fun r0 => κ [.bool r0])
    | _ => none)
  | 68 => (match xs with
    | [.agg [.int .i64 a0, .str a1], .str a2] => c6 a0 a1 a2 (fun r0 => κ [.bool r0])
    | _ => none)
  | 69 => (match xs with
    | [.ro 89 a0 false, .int .i64 a1, .str a2] => c1 a0 a1 a2 (fun r0 => κ [.int .i64 r0])
    | _ => none)
  | 111 => (match xs with
    | [.ro 89 a0 false] => c5 a0 (fun r0 => κ [.bool r0])
    | _ => none)
  | _ => none
def letter_address_o.h (n : Nat) : Option (List (Nat × List (Nat × Nat))) :=
  match n with
  | 7 => some [(0, [(0, 0)]), (2, [(0, 0)]), (3, [(0, 0)]), (5, [(0, 0)])]
  | 13 => some [(2, [(0, 0)]), (3, [(0, 0)]), (4, [(0, 0)]), (7, [(0, 0)])]
  | 14 => some [(2, [(0, 0)]), (3, [(0, 0)]), (4, [(0, 0)]), (7, [(0, 0)]), (54, [(0, 0)]), (55, [(0, 0)]), (56, [(0, 0)])]
  | _ => none
def letter_address_o.C (R : Type) (c1 : letter_find_ois.F R) (c2 : letter_held_o.F R) (c3 : letter_text_ob.F R) (c4 : letter_some_0.F R) (c5 : letter_routed_o.F R) (c6 : letter_piece_is_0.F R) : Cfg R := ⟨tabTy tyL, letter_address_o.Γ c1 c2 c3 c4 c5 c6, fun _ => false, letter_address_o.h⟩
def letter_address_o.s7 (x0 : List AV) (x1 : Int) (x2 : Bool) (x3 : ByteArray) (x4 : Bool) (x5 : ByteArray) (x6 : Bool) (x7 : ByteArray) (x8 : Bool) (x9 : ByteArray) (x10 : Bool) (x11 : ByteArray) (x12 : Bool) (x13 : ByteArray) (x14 : Bool) (x15 : ByteArray) (x16 : Bool) (x17 : ByteArray) : St := ⟨mkS 88 [(0, .ro 89 x0 false), (2, .ptr 255 0), (3, .ptr 319 0), (5, .int .i64 x1)], [(255, .var 60 [.bool x2, .str x3, .bool x4, .str x5, .bool x6, .str x7, .bool x8, .str x9]), (319, .var 60 [.bool x10, .str x11, .bool x12, .str x13, .bool x14, .str x15, .bool x16, .str x17])], top⟩
def letter_address_o.s13 (x0 : List AV) (x1 : Int) (x2 : Bool) (x3 : ByteArray) (x4 : Bool) (x5 : ByteArray) (x6 : Bool) (x7 : ByteArray) (x8 : Bool) (x9 : ByteArray) (x10 : Bool) (x11 : ByteArray) (x12 : Bool) (x13 : ByteArray) (x14 : Bool) (x15 : ByteArray) (x16 : Bool) (x17 : ByteArray) : St := ⟨mkS 88 [(2, .ptr 255 0), (3, .ptr 319 0), (4, .ro 89 x0 false), (7, .int .i64 x1)], [(255, .var 60 [.bool x2, .str x3, .bool x4, .str x5, .bool x6, .str x7, .bool x8, .str x9]), (319, .var 60 [.bool x10, .str x11, .bool x12, .str x13, .bool x14, .str x15, .bool x16, .str x17])], top⟩
def letter_address_o.s14 (x0 : List AV) (x1 : Int) (x2 : List AV) (x3 : Int) (x4 : Int) (x5 : Bool) (x6 : ByteArray) (x7 : Bool) (x8 : ByteArray) (x9 : Bool) (x10 : ByteArray) (x11 : Bool) (x12 : ByteArray) (x13 : Bool) (x14 : ByteArray) (x15 : Bool) (x16 : ByteArray) (x17 : Bool) (x18 : ByteArray) (x19 : Bool) (x20 : ByteArray) : St := ⟨mkS 88 [(2, .ptr 255 0), (3, .ptr 319 0), (4, .ro 89 x0 false), (7, .int .i64 x1), (54, .ro 89 x2 false), (55, .int .i64 x3), (56, .int .i64 x4)], [(255, .var 60 [.bool x5, .str x6, .bool x7, .str x8, .bool x9, .str x10, .bool x11, .str x12]), (319, .var 60 [.bool x13, .str x14, .bool x15, .str x16, .bool x17, .str x18, .bool x19, .str x20])], top⟩
theorem letter_address_o.c7 (R : Type) (c1 : letter_find_ois.F R) (c2 : letter_held_o.F R) (c3 : letter_text_ob.F R) (c4 : letter_some_0.F R) (c5 : letter_routed_o.F R) (c6 : letter_piece_is_0.F R) (J : List Item → St → Option R) (κ : List SV → Option R) (x0 : List AV) (x1 : Int) (x2 : Bool) (x3 : ByteArray) (x4 : Bool) (x5 : ByteArray) (x6 : Bool) (x7 : ByteArray) (x8 : Bool) (x9 : ByteArray) (x10 : Bool) (x11 : ByteArray) (x12 : Bool) (x13 : ByteArray) (x14 : Bool) (x15 : ByteArray) (x16 : Bool) (x17 : ByteArray) :
    start (letter_address_o.C R c1 c2 c3 c4 c5 c6) J (retK (letter_address_o.C R c1 c2 c3 c4 c5 c6) Tryz.f61.results.toList (List.range 0) κ) 10000 (placeOf Tryz.f61 7) (letter_address_o.s7 x0 x1 x2 x3 x4 x5 x6 x7 x8 x9 x10 x11 x12 x13 x14 x15 x16 x17) = letter_address_o.t7 c1 c2 c3 c4 c5 c6 x0 x1 x2 x3 x4 x5 x6 x7 x8 x9 x10 x11 x12 x13 x14 x15 x16 x17 (fun y0 y1 y2 y3 y4 y5 y6 y7 y8 y9 y10 y11 y12 y13 y14 y15 y16 y17 => J (placeOf Tryz.f61 7) (letter_address_o.s7 y0 y1 y2 y3 y4 y5 y6 y7 y8 y9 y10 y11 y12 y13 y14 y15 y16 y17)) (fun y0 y1 y2 y3 y4 y5 y6 y7 y8 y9 y10 y11 y12 y13 y14 y15 y16 y17 => J (placeOf Tryz.f61 13) (letter_address_o.s13 y0 y1 y2 y3 y4 y5 y6 y7 y8 y9 y10 y11 y12 y13 y14 y15 y16 y17)) (fun y0 y1 y2 y3 y4 y5 y6 y7 y8 y9 y10 y11 y12 y13 y14 y15 y16 y17 y18 y19 y20 => J (placeOf Tryz.f61 14) (letter_address_o.s14 y0 y1 y2 y3 y4 y5 y6 y7 y8 y9 y10 y11 y12 y13 y14 y15 y16 y17 y18 y19 y20)) (fun r0 r1 r2 r3 r4 r5 r6 r7 => κ [.agg [.bool r0, .str r1, .bool r2, .str r3, .bool r4, .str r5, .bool r6, .str r7]]) := by kernel_rfl
theorem letter_address_o.c13 (R : Type) (c1 : letter_find_ois.F R) (c2 : letter_held_o.F R) (c3 : letter_text_ob.F R) (c4 : letter_some_0.F R) (c5 : letter_routed_o.F R) (c6 : letter_piece_is_0.F R) (J : List Item → St → Option R) (κ : List SV → Option R) (x0 : List AV) (x1 : Int) (x2 : Bool) (x3 : ByteArray) (x4 : Bool) (x5 : ByteArray) (x6 : Bool) (x7 : ByteArray) (x8 : Bool) (x9 : ByteArray) (x10 : Bool) (x11 : ByteArray) (x12 : Bool) (x13 : ByteArray) (x14 : Bool) (x15 : ByteArray) (x16 : Bool) (x17 : ByteArray) :
    start (letter_address_o.C R c1 c2 c3 c4 c5 c6) J (retK (letter_address_o.C R c1 c2 c3 c4 c5 c6) Tryz.f61.results.toList (List.range 0) κ) 10000 (placeOf Tryz.f61 13) (letter_address_o.s13 x0 x1 x2 x3 x4 x5 x6 x7 x8 x9 x10 x11 x12 x13 x14 x15 x16 x17) = letter_address_o.t13 c1 c2 c3 c4 c5 c6 x0 x1 x2 x3 x4 x5 x6 x7 x8 x9 x10 x11 x12 x13 x14 x15 x16 x17 (fun y0 y1 y2 y3 y4 y5 y6 y7 y8 y9 y10 y11 y12 y13 y14 y15 y16 y17 => J (placeOf Tryz.f61 7) (letter_address_o.s7 y0 y1 y2 y3 y4 y5 y6 y7 y8 y9 y10 y11 y12 y13 y14 y15 y16 y17)) (fun y0 y1 y2 y3 y4 y5 y6 y7 y8 y9 y10 y11 y12 y13 y14 y15 y16 y17 => J (placeOf Tryz.f61 13) (letter_address_o.s13 y0 y1 y2 y3 y4 y5 y6 y7 y8 y9 y10 y11 y12 y13 y14 y15 y16 y17)) (fun y0 y1 y2 y3 y4 y5 y6 y7 y8 y9 y10 y11 y12 y13 y14 y15 y16 y17 y18 y19 y20 => J (placeOf Tryz.f61 14) (letter_address_o.s14 y0 y1 y2 y3 y4 y5 y6 y7 y8 y9 y10 y11 y12 y13 y14 y15 y16 y17 y18 y19 y20)) (fun r0 r1 r2 r3 r4 r5 r6 r7 => κ [.agg [.bool r0, .str r1, .bool r2, .str r3, .bool r4, .str r5, .bool r6, .str r7]]) := by kernel_rfl
theorem letter_address_o.c14 (R : Type) (c1 : letter_find_ois.F R) (c2 : letter_held_o.F R) (c3 : letter_text_ob.F R) (c4 : letter_some_0.F R) (c5 : letter_routed_o.F R) (c6 : letter_piece_is_0.F R) (J : List Item → St → Option R) (κ : List SV → Option R) (x0 : List AV) (x1 : Int) (x2 : List AV) (x3 : Int) (x4 : Int) (x5 : Bool) (x6 : ByteArray) (x7 : Bool) (x8 : ByteArray) (x9 : Bool) (x10 : ByteArray) (x11 : Bool) (x12 : ByteArray) (x13 : Bool) (x14 : ByteArray) (x15 : Bool) (x16 : ByteArray) (x17 : Bool) (x18 : ByteArray) (x19 : Bool) (x20 : ByteArray) :
    start (letter_address_o.C R c1 c2 c3 c4 c5 c6) J (retK (letter_address_o.C R c1 c2 c3 c4 c5 c6) Tryz.f61.results.toList (List.range 0) κ) 10000 (placeOf Tryz.f61 14) (letter_address_o.s14 x0 x1 x2 x3 x4 x5 x6 x7 x8 x9 x10 x11 x12 x13 x14 x15 x16 x17 x18 x19 x20) = letter_address_o.t14 c1 c2 c3 c4 c5 c6 x0 x1 x2 x3 x4 x5 x6 x7 x8 x9 x10 x11 x12 x13 x14 x15 x16 x17 x18 x19 x20 (fun y0 y1 y2 y3 y4 y5 y6 y7 y8 y9 y10 y11 y12 y13 y14 y15 y16 y17 => J (placeOf Tryz.f61 7) (letter_address_o.s7 y0 y1 y2 y3 y4 y5 y6 y7 y8 y9 y10 y11 y12 y13 y14 y15 y16 y17)) (fun y0 y1 y2 y3 y4 y5 y6 y7 y8 y9 y10 y11 y12 y13 y14 y15 y16 y17 => J (placeOf Tryz.f61 13) (letter_address_o.s13 y0 y1 y2 y3 y4 y5 y6 y7 y8 y9 y10 y11 y12 y13 y14 y15 y16 y17)) (fun y0 y1 y2 y3 y4 y5 y6 y7 y8 y9 y10 y11 y12 y13 y14 y15 y16 y17 y18 y19 y20 => J (placeOf Tryz.f61 14) (letter_address_o.s14 y0 y1 y2 y3 y4 y5 y6 y7 y8 y9 y10 y11 y12 y13 y14 y15 y16 y17 y18 y19 y20)) (fun r0 r1 r2 r3 r4 r5 r6 r7 => κ [.agg [.bool r0, .str r1, .bool r2, .str r3, .bool r4, .str r5, .bool r6, .str r7]]) := by kernel_rfl
theorem letter_address_o.c (R : Type) (c1 : letter_find_ois.F R) (c2 : letter_held_o.F R) (c3 : letter_text_ob.F R) (c4 : letter_some_0.F R) (c5 : letter_routed_o.F R) (c6 : letter_piece_is_0.F R) (κ : List SV → Option R) (k : Nat) (a0 : List AV) :
    runF (letter_address_o.C R c1 c2 c3 c4 c5 c6) Tryz.f61 10000 k [.ro 89 a0 false] κ = letter_address_o.e c1 c2 c3 c4 c5 c6 a0 (fun y0 y1 y2 y3 y4 y5 y6 y7 y8 y9 y10 y11 y12 y13 y14 y15 y16 y17 => goto (letter_address_o.C R c1 c2 c3 c4 c5 c6) (retK (letter_address_o.C R c1 c2 c3 c4 c5 c6) Tryz.f61.results.toList (List.range 0) κ) 10000 k (placeOf Tryz.f61 7) (letter_address_o.s7 y0 y1 y2 y3 y4 y5 y6 y7 y8 y9 y10 y11 y12 y13 y14 y15 y16 y17)) (fun y0 y1 y2 y3 y4 y5 y6 y7 y8 y9 y10 y11 y12 y13 y14 y15 y16 y17 => goto (letter_address_o.C R c1 c2 c3 c4 c5 c6) (retK (letter_address_o.C R c1 c2 c3 c4 c5 c6) Tryz.f61.results.toList (List.range 0) κ) 10000 k (placeOf Tryz.f61 13) (letter_address_o.s13 y0 y1 y2 y3 y4 y5 y6 y7 y8 y9 y10 y11 y12 y13 y14 y15 y16 y17)) (fun y0 y1 y2 y3 y4 y5 y6 y7 y8 y9 y10 y11 y12 y13 y14 y15 y16 y17 y18 y19 y20 => goto (letter_address_o.C R c1 c2 c3 c4 c5 c6) (retK (letter_address_o.C R c1 c2 c3 c4 c5 c6) Tryz.f61.results.toList (List.range 0) κ) 10000 k (placeOf Tryz.f61 14) (letter_address_o.s14 y0 y1 y2 y3 y4 y5 y6 y7 y8 y9 y10 y11 y12 y13 y14 y15 y16 y17 y18 y19 y20)) (fun r0 r1 r2 r3 r4 r5 r6 r7 => κ [.agg [.bool r0, .str r1, .bool r2, .str r3, .bool r4, .str r5, .bool r6, .str r7]]) := by kernel_rfl
theorem letter_address_o.g14 (R : Type) (c1 : letter_find_ois.F R) (c2 : letter_held_o.F R) (c3 : letter_text_ob.F R) (c4 : letter_some_0.F R) (c5 : letter_routed_o.F R) (c6 : letter_piece_is_0.F R) (κ : List SV → Option R) : ∀ (f : Nat) (x0 : List AV) (x1 : Int) (x2 : List AV) (x3 : Int) (x4 : Int) (x5 : Bool) (x6 : ByteArray) (x7 : Bool) (x8 : ByteArray) (x9 : Bool) (x10 : ByteArray) (x11 : Bool) (x12 : ByteArray) (x13 : Bool) (x14 : ByteArray) (x15 : Bool) (x16 : ByteArray) (x17 : Bool) (x18 : ByteArray) (x19 : Bool) (x20 : ByteArray), goto (letter_address_o.C R c1 c2 c3 c4 c5 c6) (retK (letter_address_o.C R c1 c2 c3 c4 c5 c6) Tryz.f61.results.toList (List.range 0) κ) 10000 f (placeOf Tryz.f61 14) (letter_address_o.s14 x0 x1 x2 x3 x4 x5 x6 x7 x8 x9 x10 x11 x12 x13 x14 x15 x16 x17 x18 x19 x20) = letter_address_o.L14 c1 c2 c3 c4 c5 c6 (fun r0 r1 r2 r3 r4 r5 r6 r7 => κ [.agg [.bool r0, .str r1, .bool r2, .str r3, .bool r4, .str r5, .bool r6, .str r7]]) f x0 x1 x2 x3 x4 x5 x6 x7 x8 x9 x10 x11 x12 x13 x14 x15 x16 x17 x18 x19 x20
  | 0, _, _, _, _, _, _, _, _, _, _, _, _, _, _, _, _, _, _, _, _, _ => rfl
  | f + 1, x0, x1, x2, x3, x4, x5, x6, x7, x8, x9, x10, x11, x12, x13, x14, x15, x16, x17, x18, x19, x20 => by
    show start (letter_address_o.C R c1 c2 c3 c4 c5 c6) (goto (letter_address_o.C R c1 c2 c3 c4 c5 c6) (retK (letter_address_o.C R c1 c2 c3 c4 c5 c6) Tryz.f61.results.toList (List.range 0) κ) 10000 f) (retK (letter_address_o.C R c1 c2 c3 c4 c5 c6) Tryz.f61.results.toList (List.range 0) κ) 10000 (placeOf Tryz.f61 14) (letter_address_o.s14 x0 x1 x2 x3 x4 x5 x6 x7 x8 x9 x10 x11 x12 x13 x14 x15 x16 x17 x18 x19 x20) = _
    rw [letter_address_o.c14]
    simp only [letter_address_o.g14 R c1 c2 c3 c4 c5 c6 κ f]
    rfl
theorem letter_address_o.g13 (R : Type) (c1 : letter_find_ois.F R) (c2 : letter_held_o.F R) (c3 : letter_text_ob.F R) (c4 : letter_some_0.F R) (c5 : letter_routed_o.F R) (c6 : letter_piece_is_0.F R) (κ : List SV → Option R) : ∀ (f : Nat) (x0 : List AV) (x1 : Int) (x2 : Bool) (x3 : ByteArray) (x4 : Bool) (x5 : ByteArray) (x6 : Bool) (x7 : ByteArray) (x8 : Bool) (x9 : ByteArray) (x10 : Bool) (x11 : ByteArray) (x12 : Bool) (x13 : ByteArray) (x14 : Bool) (x15 : ByteArray) (x16 : Bool) (x17 : ByteArray), goto (letter_address_o.C R c1 c2 c3 c4 c5 c6) (retK (letter_address_o.C R c1 c2 c3 c4 c5 c6) Tryz.f61.results.toList (List.range 0) κ) 10000 f (placeOf Tryz.f61 13) (letter_address_o.s13 x0 x1 x2 x3 x4 x5 x6 x7 x8 x9 x10 x11 x12 x13 x14 x15 x16 x17) = letter_address_o.L13 c1 c2 c3 c4 c5 c6 (fun r0 r1 r2 r3 r4 r5 r6 r7 => κ [.agg [.bool r0, .str r1, .bool r2, .str r3, .bool r4, .str r5, .bool r6, .str r7]]) f x0 x1 x2 x3 x4 x5 x6 x7 x8 x9 x10 x11 x12 x13 x14 x15 x16 x17
  | 0, _, _, _, _, _, _, _, _, _, _, _, _, _, _, _, _, _, _ => rfl
  | f + 1, x0, x1, x2, x3, x4, x5, x6, x7, x8, x9, x10, x11, x12, x13, x14, x15, x16, x17 => by
    show start (letter_address_o.C R c1 c2 c3 c4 c5 c6) (goto (letter_address_o.C R c1 c2 c3 c4 c5 c6) (retK (letter_address_o.C R c1 c2 c3 c4 c5 c6) Tryz.f61.results.toList (List.range 0) κ) 10000 f) (retK (letter_address_o.C R c1 c2 c3 c4 c5 c6) Tryz.f61.results.toList (List.range 0) κ) 10000 (placeOf Tryz.f61 13) (letter_address_o.s13 x0 x1 x2 x3 x4 x5 x6 x7 x8 x9 x10 x11 x12 x13 x14 x15 x16 x17) = _
    rw [letter_address_o.c13]
    simp only [letter_address_o.g14 R c1 c2 c3 c4 c5 c6 κ f]
    rfl
theorem letter_address_o.g7 (R : Type) (c1 : letter_find_ois.F R) (c2 : letter_held_o.F R) (c3 : letter_text_ob.F R) (c4 : letter_some_0.F R) (c5 : letter_routed_o.F R) (c6 : letter_piece_is_0.F R) (κ : List SV → Option R) : ∀ (f : Nat) (x0 : List AV) (x1 : Int) (x2 : Bool) (x3 : ByteArray) (x4 : Bool) (x5 : ByteArray) (x6 : Bool) (x7 : ByteArray) (x8 : Bool) (x9 : ByteArray) (x10 : Bool) (x11 : ByteArray) (x12 : Bool) (x13 : ByteArray) (x14 : Bool) (x15 : ByteArray) (x16 : Bool) (x17 : ByteArray), goto (letter_address_o.C R c1 c2 c3 c4 c5 c6) (retK (letter_address_o.C R c1 c2 c3 c4 c5 c6) Tryz.f61.results.toList (List.range 0) κ) 10000 f (placeOf Tryz.f61 7) (letter_address_o.s7 x0 x1 x2 x3 x4 x5 x6 x7 x8 x9 x10 x11 x12 x13 x14 x15 x16 x17) = letter_address_o.L7 c1 c2 c3 c4 c5 c6 (fun r0 r1 r2 r3 r4 r5 r6 r7 => κ [.agg [.bool r0, .str r1, .bool r2, .str r3, .bool r4, .str r5, .bool r6, .str r7]]) f x0 x1 x2 x3 x4 x5 x6 x7 x8 x9 x10 x11 x12 x13 x14 x15 x16 x17
  | 0, _, _, _, _, _, _, _, _, _, _, _, _, _, _, _, _, _, _ => rfl
  | f + 1, x0, x1, x2, x3, x4, x5, x6, x7, x8, x9, x10, x11, x12, x13, x14, x15, x16, x17 => by
    show start (letter_address_o.C R c1 c2 c3 c4 c5 c6) (goto (letter_address_o.C R c1 c2 c3 c4 c5 c6) (retK (letter_address_o.C R c1 c2 c3 c4 c5 c6) Tryz.f61.results.toList (List.range 0) κ) 10000 f) (retK (letter_address_o.C R c1 c2 c3 c4 c5 c6) Tryz.f61.results.toList (List.range 0) κ) 10000 (placeOf Tryz.f61 7) (letter_address_o.s7 x0 x1 x2 x3 x4 x5 x6 x7 x8 x9 x10 x11 x12 x13 x14 x15 x16 x17) = _
    rw [letter_address_o.c7]
    simp only [letter_address_o.g13 R c1 c2 c3 c4 c5 c6 κ f]
    rfl
theorem letter_address_o.run (R : Type) (κ : List SV → Option R) (a0 : List AV) :
    runF (letter_address_o.C R letter_find_ois letter_held_o letter_text_ob letter_some_0 letter_routed_o letter_piece_is_0) Tryz.f61 10000 fuelK [.ro 89 a0 false] κ = letter_address_o a0 (fun r0 r1 r2 r3 r4 r5 r6 r7 => κ [.agg [.bool r0, .str r1, .bool r2, .str r3, .bool r4, .str r5, .bool r6, .str r7]]) := by
  rw [letter_address_o.c]
  simp only [letter_address_o.g7 R letter_find_ois letter_held_o letter_text_ob letter_some_0 letter_routed_o letter_piece_is_0 κ fuelK, letter_address_o.g13 R letter_find_ois letter_held_o letter_text_ob letter_some_0 letter_routed_o letter_piece_is_0 κ fuelK, letter_address_o.g14 R letter_find_ois letter_held_o letter_text_ob letter_some_0 letter_routed_o letter_piece_is_0 κ fuelK]
  rfl
theorem letter_address_o.Γ_does {R : Type} (tab : Tab) (ht : TabOk tab) (g : Nat) : Does (R := R) Tryz.prog (tabTy tyL) tab g ((letter_address_o.C R letter_find_ois letter_held_o letter_text_ob letter_some_0 letter_routed_o letter_piece_is_0).call g) := by
  refine does_of fun xs κ => ?_
  show DoesAt _ _ _ g xs κ (letter_address_o.Γ letter_find_ois letter_held_o letter_text_ob letter_some_0 letter_routed_o letter_piece_is_0 g xs κ)
  unfold letter_address_o.Γ
  split
  · split
    · exact letter_some_0.does tab ht _ κ
    · exact DoesAt.none
  · split
    · exact letter_text_ob.does tab ht _ _ κ
    · exact DoesAt.none
  · split
    · exact letter_held_o.does tab ht _ κ
    · exact DoesAt.none
  · split
    · exact letter_piece_is_0.does tab ht _ _ _ κ
    · exact DoesAt.none
  · split
    · exact letter_find_ois.does tab ht _ _ _ κ
    · exact DoesAt.none
  · split
    · exact letter_routed_o.does tab ht _ κ
    · exact DoesAt.none
  · exact DoesAt.none
theorem letter_address_o.does {R : Type} (tab : Tab) (ht : TabOk tab) (a0 : List AV) (κ : List SV → Option R) : DoesAt Tryz.prog (tabTy tyL) tab 61 [.ro 89 a0 false] κ (letter_address_o a0 (fun r0 r1 r2 r3 r4 r5 r6 r7 => κ [.agg [.bool r0, .str r1, .bool r2, .str r3, .bool r4, .str r5, .bool r6, .str r7]])) := by
  intro r h w vs Rt Ra bs hpre
  exact runF_sound tyOk (letter_address_o.Γ_does tab ht) (show Tryz.prog.funcs[61]? = some Tryz.f61 by kernel_rfl) (by kernel_rfl) ((letter_address_o.run R κ a0).trans h) hpre
def letter_Addresses_0.Γ {R : Type} (c1 : letter_pieces_0.F R) (c2 : letter_part_oi.F R) (c3 : letter_text_ob.F R) (c4 : letter_some_0.F R) (c5 : letter_held_o.F R) (c6 : letter_address_o.F R) (g : Nat) (xs : List SV) (κ : List SV → Option R) : Option R :=
  match g with
  | 56 => (match xs with
    | [.str a0] => c1 a0 (fun r0 => κ [.fr 89 r0 true])
    | _ => none)
  | 57 => (match xs with
    | [.ro 89 a0 false, .int .i64 a1] => c2 a0 a1 (fun r0 => κ [.int .i64 r0])
    | _ => none)
  | 58 => (match xs with
    | [.str a0] => c4 a0 (fun r0 r1 => κ [.agg [.bool r0, .str r1]])
    | _ => none)
  | 59 => (match xs with
    | [.ro 89 a0 false, .bool a1] => c3 a0 a1 (fun r0 => κ [.str r0])
    | _ => none)
  | 60 => (match xs with
    | [.ro 89 a0 false] => c5 a0 (fun r0 => κ [.bool r0])
    | _ => none)
  | 61 => (match xs with
    | [.ro 89 a0 false] => c6 a0 (fun r0 r1 r2 r3 r4 r5 r6 r7 => κ [.agg [.bool r0, .str r1, .bool r2, .str r3, .bool r4, .str r5, .bool r6, .str r7]])
    | _ => none)
  | _ => none
def letter_Addresses_0.h (n : Nat) : Option (List (Nat × List (Nat × Nat))) :=
  match n with
  | 5 => some [(3, [(0, 62)]), (4, [(0, 0)]), (5, [(0, 0)]), (6, [(0, 0)])]
  | 13 => some [(3, [(0, 0)]), (4, [(0, 0)]), (5, [(0, 0)]), (7, [(0, 0)]), (8, [(0, 0)])]
  | _ => none
def letter_Addresses_0.C (R : Type) (c1 : letter_pieces_0.F R) (c2 : letter_part_oi.F R) (c3 : letter_text_ob.F R) (c4 : letter_some_0.F R) (c5 : letter_held_o.F R) (c6 : letter_address_o.F R) : Cfg R := ⟨tabTy tyL, letter_Addresses_0.Γ c1 c2 c3 c4 c5 c6, fun _ => false, letter_Addresses_0.h⟩
def letter_Addresses_0.s5 (x0 : Bool) (x1 : Int) (x2 : List AV) (x3 : List AV) : St := ⟨mkS 75 [(3, .own 256), (4, .own 320), (5, .bool x0), (6, .int .i64 x1)], [(256, .row 60 x2 true), (320, .row 89 x3 true)], top⟩
def letter_Addresses_0.s13 (x0 : Bool) (x1 : Int) (x2 : ByteArray) (x3 : List AV) (x4 : List AV) : St := ⟨mkS 75 [(3, .own 256), (4, .own 320), (5, .bool x0), (7, .int .i64 x1), (8, .str x2)], [(256, .row 60 x3 true), (320, .row 89 x4 true)], top⟩
theorem letter_Addresses_0.c5 (R : Type) (c1 : letter_pieces_0.F R) (c2 : letter_part_oi.F R) (c3 : letter_text_ob.F R) (c4 : letter_some_0.F R) (c5 : letter_held_o.F R) (c6 : letter_address_o.F R) (J : List Item → St → Option R) (κ : List SV → Option R) (x0 : Bool) (x1 : Int) (x2 : List AV) (x3 : List AV) :
    start (letter_Addresses_0.C R c1 c2 c3 c4 c5 c6) J (retK (letter_Addresses_0.C R c1 c2 c3 c4 c5 c6) Tryz.f20.results.toList (List.range 0) κ) 10000 (placeOf Tryz.f20 5) (letter_Addresses_0.s5 x0 x1 x2 x3) = letter_Addresses_0.t5 c1 c2 c3 c4 c5 c6 x0 x1 x2 x3 (fun y0 y1 y2 y3 => J (placeOf Tryz.f20 5) (letter_Addresses_0.s5 y0 y1 y2 y3)) (fun y0 y1 y2 y3 y4 => J (placeOf Tryz.f20 13) (letter_Addresses_0.s13 y0 y1 y2 y3 y4)) (fun r0 => κ [.fr 60 r0 true]) := by kernel_rfl
theorem letter_Addresses_0.c13 (R : Type) (c1 : letter_pieces_0.F R) (c2 : letter_part_oi.F R) (c3 : letter_text_ob.F R) (c4 : letter_some_0.F R) (c5 : letter_held_o.F R) (c6 : letter_address_o.F R) (J : List Item → St → Option R) (κ : List SV → Option R) (x0 : Bool) (x1 : Int) (x2 : ByteArray) (x3 : List AV) (x4 : List AV) :
    start (letter_Addresses_0.C R c1 c2 c3 c4 c5 c6) J (retK (letter_Addresses_0.C R c1 c2 c3 c4 c5 c6) Tryz.f20.results.toList (List.range 0) κ) 10000 (placeOf Tryz.f20 13) (letter_Addresses_0.s13 x0 x1 x2 x3 x4) = letter_Addresses_0.t13 c1 c2 c3 c4 c5 c6 x0 x1 x2 x3 x4 (fun y0 y1 y2 y3 => J (placeOf Tryz.f20 5) (letter_Addresses_0.s5 y0 y1 y2 y3)) (fun y0 y1 y2 y3 y4 => J (placeOf Tryz.f20 13) (letter_Addresses_0.s13 y0 y1 y2 y3 y4)) (fun r0 => κ [.fr 60 r0 true]) := by kernel_rfl
theorem letter_Addresses_0.c (R : Type) (c1 : letter_pieces_0.F R) (c2 : letter_part_oi.F R) (c3 : letter_text_ob.F R) (c4 : letter_some_0.F R) (c5 : letter_held_o.F R) (c6 : letter_address_o.F R) (κ : List SV → Option R) (k : Nat) (a0 : ByteArray) :
    runF (letter_Addresses_0.C R c1 c2 c3 c4 c5 c6) Tryz.f20 10000 k [.str a0] κ = letter_Addresses_0.e c1 c2 c3 c4 c5 c6 a0 (fun y0 y1 y2 y3 => goto (letter_Addresses_0.C R c1 c2 c3 c4 c5 c6) (retK (letter_Addresses_0.C R c1 c2 c3 c4 c5 c6) Tryz.f20.results.toList (List.range 0) κ) 10000 k (placeOf Tryz.f20 5) (letter_Addresses_0.s5 y0 y1 y2 y3)) (fun y0 y1 y2 y3 y4 => goto (letter_Addresses_0.C R c1 c2 c3 c4 c5 c6) (retK (letter_Addresses_0.C R c1 c2 c3 c4 c5 c6) Tryz.f20.results.toList (List.range 0) κ) 10000 k (placeOf Tryz.f20 13) (letter_Addresses_0.s13 y0 y1 y2 y3 y4)) (fun r0 => κ [.fr 60 r0 true]) := by kernel_rfl
theorem letter_Addresses_0.gM5 (R : Type) (c1 : letter_pieces_0.F R) (c2 : letter_part_oi.F R) (c3 : letter_text_ob.F R) (c4 : letter_some_0.F R) (c5 : letter_held_o.F R) (c6 : letter_address_o.F R) (κ : List SV → Option R) : ∀ (f : Nat), (∀ (x0 : Bool) (x1 : Int) (x2 : List AV) (x3 : List AV), goto (letter_Addresses_0.C R c1 c2 c3 c4 c5 c6) (retK (letter_Addresses_0.C R c1 c2 c3 c4 c5 c6) Tryz.f20.results.toList (List.range 0) κ) 10000 f (placeOf Tryz.f20 5) (letter_Addresses_0.s5 x0 x1 x2 x3) = letter_Addresses_0.L5 c1 c2 c3 c4 c5 c6 (fun r0 => κ [.fr 60 r0 true]) f x0 x1 x2 x3) ∧
    (∀ (x0 : Bool) (x1 : Int) (x2 : ByteArray) (x3 : List AV) (x4 : List AV), goto (letter_Addresses_0.C R c1 c2 c3 c4 c5 c6) (retK (letter_Addresses_0.C R c1 c2 c3 c4 c5 c6) Tryz.f20.results.toList (List.range 0) κ) 10000 f (placeOf Tryz.f20 13) (letter_Addresses_0.s13 x0 x1 x2 x3 x4) = letter_Addresses_0.L13 c1 c2 c3 c4 c5 c6 (fun r0 => κ [.fr 60 r0 true]) f x0 x1 x2 x3 x4)
  | 0 => ⟨fun _ _ _ _ => rfl, fun _ _ _ _ _ => rfl⟩
  | f + 1 => by
    obtain ⟨ih0, ih1⟩ := letter_Addresses_0.gM5 R c1 c2 c3 c4 c5 c6 κ f
    refine ⟨?_, ?_⟩
    · intro x0 x1 x2 x3
      show start (letter_Addresses_0.C R c1 c2 c3 c4 c5 c6) (goto (letter_Addresses_0.C R c1 c2 c3 c4 c5 c6) (retK (letter_Addresses_0.C R c1 c2 c3 c4 c5 c6) Tryz.f20.results.toList (List.range 0) κ) 10000 f) (retK (letter_Addresses_0.C R c1 c2 c3 c4 c5 c6) Tryz.f20.results.toList (List.range 0) κ) 10000 (placeOf Tryz.f20 5) (letter_Addresses_0.s5 x0 x1 x2 x3) = _
      rw [letter_Addresses_0.c5]
      simp only [ih0, ih1]
      rfl
    · intro x0 x1 x2 x3 x4
      show start (letter_Addresses_0.C R c1 c2 c3 c4 c5 c6) (goto (letter_Addresses_0.C R c1 c2 c3 c4 c5 c6) (retK (letter_Addresses_0.C R c1 c2 c3 c4 c5 c6) Tryz.f20.results.toList (List.range 0) κ) 10000 f) (retK (letter_Addresses_0.C R c1 c2 c3 c4 c5 c6) Tryz.f20.results.toList (List.range 0) κ) 10000 (placeOf Tryz.f20 13) (letter_Addresses_0.s13 x0 x1 x2 x3 x4) = _
      rw [letter_Addresses_0.c13]
      simp only [ih0, ih1]
      rfl
theorem letter_Addresses_0.g5 (R : Type) (c1 : letter_pieces_0.F R) (c2 : letter_part_oi.F R) (c3 : letter_text_ob.F R) (c4 : letter_some_0.F R) (c5 : letter_held_o.F R) (c6 : letter_address_o.F R) (κ : List SV → Option R) (f : Nat) (x0 : Bool) (x1 : Int) (x2 : List AV) (x3 : List AV) : goto (letter_Addresses_0.C R c1 c2 c3 c4 c5 c6) (retK (letter_Addresses_0.C R c1 c2 c3 c4 c5 c6) Tryz.f20.results.toList (List.range 0) κ) 10000 f (placeOf Tryz.f20 5) (letter_Addresses_0.s5 x0 x1 x2 x3) = letter_Addresses_0.L5 c1 c2 c3 c4 c5 c6 (fun r0 => κ [.fr 60 r0 true]) f x0 x1 x2 x3 := (letter_Addresses_0.gM5 R c1 c2 c3 c4 c5 c6 κ f).1 x0 x1 x2 x3
theorem letter_Addresses_0.g13 (R : Type) (c1 : letter_pieces_0.F R) (c2 : letter_part_oi.F R) (c3 : letter_text_ob.F R) (c4 : letter_some_0.F R) (c5 : letter_held_o.F R) (c6 : letter_address_o.F R) (κ : List SV → Option R) (f : Nat) (x0 : Bool) (x1 : Int) (x2 : ByteArray) (x3 : List AV) (x4 : List AV) : goto (letter_Addresses_0.C R c1 c2 c3 c4 c5 c6) (retK (letter_Addresses_0.C R c1 c2 c3 c4 c5 c6) Tryz.f20.results.toList (List.range 0) κ) 10000 f (placeOf Tryz.f20 13) (letter_Addresses_0.s13 x0 x1 x2 x3 x4) = letter_Addresses_0.L13 c1 c2 c3 c4 c5 c6 (fun r0 => κ [.fr 60 r0 true]) f x0 x1 x2 x3 x4 := (letter_Addresses_0.gM5 R c1 c2 c3 c4 c5 c6 κ f).2 x0 x1 x2 x3 x4
theorem letter_Addresses_0.run (R : Type) (κ : List SV → Option R) (a0 : ByteArray) :
    runF (letter_Addresses_0.C R letter_pieces_0 letter_part_oi letter_text_ob letter_some_0 letter_held_o letter_address_o) Tryz.f20 10000 fuelK [.str a0] κ = letter_Addresses_0 a0 (fun r0 => κ [.fr 60 r0 true]) := by
  rw [letter_Addresses_0.c]
  simp only [letter_Addresses_0.g5 R letter_pieces_0 letter_part_oi letter_text_ob letter_some_0 letter_held_o letter_address_o κ fuelK, letter_Addresses_0.g13 R letter_pieces_0 letter_part_oi letter_text_ob letter_some_0 letter_held_o letter_address_o κ fuelK]
  rfl
theorem letter_Addresses_0.Γ_does {R : Type} (tab : Tab) (ht : TabOk tab) (g : Nat) : Does (R := R) Tryz.prog (tabTy tyL) tab g ((letter_Addresses_0.C R letter_pieces_0 letter_part_oi letter_text_ob letter_some_0 letter_held_o letter_address_o).call g) := by
  refine does_of fun xs κ => ?_
  show DoesAt _ _ _ g xs κ (letter_Addresses_0.Γ letter_pieces_0 letter_part_oi letter_text_ob letter_some_0 letter_held_o letter_address_o g xs κ)
  unfold letter_Addresses_0.Γ
  split
  · split
    · exact letter_pieces_0.does tab ht _ κ
    · exact DoesAt.none
  · split
    · exact letter_part_oi.does tab ht _ _ κ
    · exact DoesAt.none
  · split
    · exact letter_some_0.does tab ht _ κ
    · exact DoesAt.none
  · split
    · exact letter_text_ob.does tab ht _ _ κ
    · exact DoesAt.none
  · split
    · exact letter_held_o.does tab ht _ κ
    · exact DoesAt.none
  · split
    · exact letter_address_o.does tab ht _ κ
    · exact DoesAt.none
  · exact DoesAt.none
theorem letter_Addresses_0.does {R : Type} (tab : Tab) (ht : TabOk tab) (a0 : ByteArray) (κ : List SV → Option R) : DoesAt Tryz.prog (tabTy tyL) tab 20 [.str a0] κ (letter_Addresses_0 a0 (fun r0 => κ [.fr 60 r0 true])) := by
  intro r h w vs Rt Ra bs hpre
  exact runF_sound tyOk (letter_Addresses_0.Γ_does tab ht) (show Tryz.prog.funcs[20]? = some Tryz.f20 by kernel_rfl) (by kernel_rfl) ((letter_Addresses_0.run R κ a0).trans h) hpre
def strings_Contains_0.Γ {R : Type} (c1 : strings_Index_0.F R) (g : Nat) (xs : List SV) (κ : List SV → Option R) : Option R :=
  match g with
  | 85 => (match xs with
    | [.str a0, .str a1] => c1 a0 a1 (fun r0 => κ [.int .i64 r0])
    | _ => none)
  | _ => none
def strings_Contains_0.h (n : Nat) : Option (List (Nat × List (Nat × Nat))) :=
  match n with
  | _ => none
def strings_Contains_0.C (R : Type) (c1 : strings_Index_0.F R) : Cfg R := ⟨tabTy tyL, strings_Contains_0.Γ c1, fun _ => false, strings_Contains_0.h⟩
theorem strings_Contains_0.c (R : Type) (c1 : strings_Index_0.F R) (κ : List SV → Option R) (k : Nat) (a0 : ByteArray) (a1 : ByteArray) :
    runF (strings_Contains_0.C R c1) Tryz.f70 10000 k [.str a0, .str a1] κ = strings_Contains_0.e c1 a0 a1 (fun r0 => κ [.bool r0]) := by kernel_rfl
theorem strings_Contains_0.run (R : Type) (κ : List SV → Option R) (a0 : ByteArray) (a1 : ByteArray) :
    runF (strings_Contains_0.C R strings_Index_0) Tryz.f70 10000 fuelK [.str a0, .str a1] κ = strings_Contains_0 a0 a1 (fun r0 => κ [.bool r0]) := by
  rw [strings_Contains_0.c]
  rfl
theorem strings_Contains_0.Γ_does {R : Type} (tab : Tab) (ht : TabOk tab) (g : Nat) : Does (R := R) Tryz.prog (tabTy tyL) tab g ((strings_Contains_0.C R strings_Index_0).call g) := by
  refine does_of fun xs κ => ?_
  show DoesAt _ _ _ g xs κ (strings_Contains_0.Γ strings_Index_0 g xs κ)
  unfold strings_Contains_0.Γ
  split
  · split
    · exact strings_Index_0.does tab ht _ _ κ
    · exact DoesAt.none
  · exact DoesAt.none
theorem strings_Contains_0.does {R : Type} (tab : Tab) (ht : TabOk tab) (a0 : ByteArray) (a1 : ByteArray) (κ : List SV → Option R) : DoesAt Tryz.prog (tabTy tyL) tab 70 [.str a0, .str a1] κ (strings_Contains_0 a0 a1 (fun r0 => κ [.bool r0])) := by
  intro r h w vs Rt Ra bs hpre
  exact runF_sound tyOk (strings_Contains_0.Γ_does tab ht) (show Tryz.prog.funcs[70]? = some Tryz.f70 by kernel_rfl) (by kernel_rfl) ((strings_Contains_0.run R κ a0 a1).trans h) hpre
def letter_Ids_0.Γ {R : Type} (c1 : letter_pieces_0.F R) (c2 : letter_piece_is_0.F R) (c3 : letter_find_ois.F R) (c4 : letter_text_ob.F R) (c5 : strings_Contains_0.F R) (g : Nat) (xs : List SV) (κ : List SV → Option R) : Option R :=
  match g with
  | 56 => (match xs with
    | [.str a0] => c1 a0 (fun r0 => κ [.fr 89 r0 true])
    | _ => none)
  | 59 => (match xs with
    | [.ro 89 a0 false, .bool a1] => c4 a0 a1 (fun r0 => κ [.str r0])
    | _ => none)
  | 68 => (match xs with
    | [.agg [.int .i64 a0, .str a1], .str a2] => c2 a0 a1 a2 (fun r0 => κ [.bool r0])
    | _ => none)
  | 69 => (match xs with
    | [.ro 89 a0 false, .int .i64 a1, .str a2] => c3 a0 a1 a2 (fun r0 => κ [.int .i64 r0])
    | _ => none)
  | 70 => (match xs with
    | [.str a0, .str a1] => c5 a0 a1 (fun r0 => κ [.bool r0])
    | _ => none)
  | _ => none
def letter_Ids_0.h (n : Nat) : Option (List (Nat × List (Nat × Nat))) :=
  match n with
  | 4 => some [(3, [(0, 11)]), (4, [(0, 0)]), (5, [(0, 0)])]
  | _ => none
def letter_Ids_0.C (R : Type) (c1 : letter_pieces_0.F R) (c2 : letter_piece_is_0.F R) (c3 : letter_find_ois.F R) (c4 : letter_text_ob.F R) (c5 : strings_Contains_0.F R) : Cfg R := ⟨tabTy tyL, letter_Ids_0.Γ c1 c2 c3 c4 c5, fun _ => false, letter_Ids_0.h⟩
def letter_Ids_0.s4 (x0 : Int) (x1 : List AV) (x2 : List AV) : St := ⟨mkS 61 [(3, .own 256), (4, .own 320), (5, .int .i64 x0)], [(256, .row 9 x1 true), (320, .row 89 x2 true)], top⟩
theorem letter_Ids_0.c4 (R : Type) (c1 : letter_pieces_0.F R) (c2 : letter_piece_is_0.F R) (c3 : letter_find_ois.F R) (c4 : letter_text_ob.F R) (c5 : strings_Contains_0.F R) (J : List Item → St → Option R) (κ : List SV → Option R) (x0 : Int) (x1 : List AV) (x2 : List AV) :
    start (letter_Ids_0.C R c1 c2 c3 c4 c5) J (retK (letter_Ids_0.C R c1 c2 c3 c4 c5) Tryz.f23.results.toList (List.range 0) κ) 10000 (placeOf Tryz.f23 4) (letter_Ids_0.s4 x0 x1 x2) = letter_Ids_0.t4 c1 c2 c3 c4 c5 x0 x1 x2 (fun y0 y1 y2 => J (placeOf Tryz.f23 4) (letter_Ids_0.s4 y0 y1 y2)) (fun r0 => κ [.fr 9 r0 true]) := by kernel_rfl
theorem letter_Ids_0.c (R : Type) (c1 : letter_pieces_0.F R) (c2 : letter_piece_is_0.F R) (c3 : letter_find_ois.F R) (c4 : letter_text_ob.F R) (c5 : strings_Contains_0.F R) (κ : List SV → Option R) (k : Nat) (a0 : ByteArray) :
    runF (letter_Ids_0.C R c1 c2 c3 c4 c5) Tryz.f23 10000 k [.str a0] κ = letter_Ids_0.e c1 c2 c3 c4 c5 a0 (fun y0 y1 y2 => goto (letter_Ids_0.C R c1 c2 c3 c4 c5) (retK (letter_Ids_0.C R c1 c2 c3 c4 c5) Tryz.f23.results.toList (List.range 0) κ) 10000 k (placeOf Tryz.f23 4) (letter_Ids_0.s4 y0 y1 y2)) (fun r0 => κ [.fr 9 r0 true]) := by kernel_rfl
theorem letter_Ids_0.g4 (R : Type) (c1 : letter_pieces_0.F R) (c2 : letter_piece_is_0.F R) (c3 : letter_find_ois.F R) (c4 : letter_text_ob.F R) (c5 : strings_Contains_0.F R) (κ : List SV → Option R) : ∀ (f : Nat) (x0 : Int) (x1 : List AV) (x2 : List AV), goto (letter_Ids_0.C R c1 c2 c3 c4 c5) (retK (letter_Ids_0.C R c1 c2 c3 c4 c5) Tryz.f23.results.toList (List.range 0) κ) 10000 f (placeOf Tryz.f23 4) (letter_Ids_0.s4 x0 x1 x2) = letter_Ids_0.L4 c1 c2 c3 c4 c5 (fun r0 => κ [.fr 9 r0 true]) f x0 x1 x2
  | 0, _, _, _ => rfl
  | f + 1, x0, x1, x2 => by
    show start (letter_Ids_0.C R c1 c2 c3 c4 c5) (goto (letter_Ids_0.C R c1 c2 c3 c4 c5) (retK (letter_Ids_0.C R c1 c2 c3 c4 c5) Tryz.f23.results.toList (List.range 0) κ) 10000 f) (retK (letter_Ids_0.C R c1 c2 c3 c4 c5) Tryz.f23.results.toList (List.range 0) κ) 10000 (placeOf Tryz.f23 4) (letter_Ids_0.s4 x0 x1 x2) = _
    rw [letter_Ids_0.c4]
    simp only [letter_Ids_0.g4 R c1 c2 c3 c4 c5 κ f]
    rfl
theorem letter_Ids_0.run (R : Type) (κ : List SV → Option R) (a0 : ByteArray) :
    runF (letter_Ids_0.C R letter_pieces_0 letter_piece_is_0 letter_find_ois letter_text_ob strings_Contains_0) Tryz.f23 10000 fuelK [.str a0] κ = letter_Ids_0 a0 (fun r0 => κ [.fr 9 r0 true]) := by
  rw [letter_Ids_0.c]
  simp only [letter_Ids_0.g4 R letter_pieces_0 letter_piece_is_0 letter_find_ois letter_text_ob strings_Contains_0 κ fuelK]
  rfl
theorem letter_Ids_0.Γ_does {R : Type} (tab : Tab) (ht : TabOk tab) (g : Nat) : Does (R := R) Tryz.prog (tabTy tyL) tab g ((letter_Ids_0.C R letter_pieces_0 letter_piece_is_0 letter_find_ois letter_text_ob strings_Contains_0).call g) := by
  refine does_of fun xs κ => ?_
  show DoesAt _ _ _ g xs κ (letter_Ids_0.Γ letter_pieces_0 letter_piece_is_0 letter_find_ois letter_text_ob strings_Contains_0 g xs κ)
  unfold letter_Ids_0.Γ
  split
  · split
    · exact letter_pieces_0.does tab ht _ κ
    · exact DoesAt.none
  · split
    · exact letter_text_ob.does tab ht _ _ κ
    · exact DoesAt.none
  · split
    · exact letter_piece_is_0.does tab ht _ _ _ κ
    · exact DoesAt.none
  · split
    · exact letter_find_ois.does tab ht _ _ _ κ
    · exact DoesAt.none
  · split
    · exact strings_Contains_0.does tab ht _ _ κ
    · exact DoesAt.none
  · exact DoesAt.none
theorem letter_Ids_0.does {R : Type} (tab : Tab) (ht : TabOk tab) (a0 : ByteArray) (κ : List SV → Option R) : DoesAt Tryz.prog (tabTy tyL) tab 23 [.str a0] κ (letter_Ids_0 a0 (fun r0 => κ [.fr 9 r0 true])) := by
  intro r h w vs Rt Ra bs hpre
  exact runF_sound tyOk (letter_Ids_0.Γ_does tab ht) (show Tryz.prog.funcs[23]? = some Tryz.f23 by kernel_rfl) (by kernel_rfl) ((letter_Ids_0.run R κ a0).trans h) hpre
def letter_Get_os.Γ {R : Type} (c1 : octet_Same_0.F R) (g : Nat) (xs : List SV) (κ : List SV → Option R) : Option R :=
  match g with
  | 46 => (match xs with
    | [.str a0, .str a1] => c1 a0 a1 (fun r0 => κ [.bool r0])
    | _ => none)
  | _ => none
def letter_Get_os.h (n : Nat) : Option (List (Nat × List (Nat × Nat))) :=
  match n with
  | 2 => some [(1, [(0, 0)]), (4, [(0, 0)]), (7, [(0, 0)]), (8, [(0, 0)]), (9, [(0, 0)])]
  | _ => none
def letter_Get_os.C (R : Type) (c1 : octet_Same_0.F R) : Cfg R := ⟨tabTy tyL, letter_Get_os.Γ c1, fun _ => false, letter_Get_os.h⟩
def letter_Get_os.s2 (x0 : ByteArray) (x1 : List AV) (x2 : Int) (x3 : Int) (x4 : Bool) (x5 : ByteArray) : St := ⟨mkS 22 [(1, .str x0), (4, .ptr 383 0), (7, .ro 42 x1 false), (8, .int .i64 x2), (9, .int .i64 x3)], [(383, .var 44 [.bool x4, .str x5])], top⟩
theorem letter_Get_os.c2 (R : Type) (c1 : octet_Same_0.F R) (J : List Item → St → Option R) (κ : List SV → Option R) (x0 : ByteArray) (x1 : List AV) (x2 : Int) (x3 : Int) (x4 : Bool) (x5 : ByteArray) :
    start (letter_Get_os.C R c1) J (retK (letter_Get_os.C R c1) Tryz.f45.results.toList (List.range 0) κ) 10000 (placeOf Tryz.f45 2) (letter_Get_os.s2 x0 x1 x2 x3 x4 x5) = letter_Get_os.t2 c1 x0 x1 x2 x3 x4 x5 (fun y0 y1 y2 y3 y4 y5 => J (placeOf Tryz.f45 2) (letter_Get_os.s2 y0 y1 y2 y3 y4 y5)) (fun r0 r1 => κ [.agg [.bool r0, .str r1]]) := by kernel_rfl
theorem letter_Get_os.c (R : Type) (c1 : octet_Same_0.F R) (κ : List SV → Option R) (k : Nat) (a0 : List AV) (a1 : ByteArray) :
    runF (letter_Get_os.C R c1) Tryz.f45 10000 k [.ro 42 a0 false, .str a1] κ = letter_Get_os.e c1 a0 a1 (fun y0 y1 y2 y3 y4 y5 => goto (letter_Get_os.C R c1) (retK (letter_Get_os.C R c1) Tryz.f45.results.toList (List.range 0) κ) 10000 k (placeOf Tryz.f45 2) (letter_Get_os.s2 y0 y1 y2 y3 y4 y5)) (fun r0 r1 => κ [.agg [.bool r0, .str r1]]) := by kernel_rfl
theorem letter_Get_os.g2 (R : Type) (c1 : octet_Same_0.F R) (κ : List SV → Option R) : ∀ (f : Nat) (x0 : ByteArray) (x1 : List AV) (x2 : Int) (x3 : Int) (x4 : Bool) (x5 : ByteArray), goto (letter_Get_os.C R c1) (retK (letter_Get_os.C R c1) Tryz.f45.results.toList (List.range 0) κ) 10000 f (placeOf Tryz.f45 2) (letter_Get_os.s2 x0 x1 x2 x3 x4 x5) = letter_Get_os.L2 c1 (fun r0 r1 => κ [.agg [.bool r0, .str r1]]) f x0 x1 x2 x3 x4 x5
  | 0, _, _, _, _, _, _ => rfl
  | f + 1, x0, x1, x2, x3, x4, x5 => by
    show start (letter_Get_os.C R c1) (goto (letter_Get_os.C R c1) (retK (letter_Get_os.C R c1) Tryz.f45.results.toList (List.range 0) κ) 10000 f) (retK (letter_Get_os.C R c1) Tryz.f45.results.toList (List.range 0) κ) 10000 (placeOf Tryz.f45 2) (letter_Get_os.s2 x0 x1 x2 x3 x4 x5) = _
    rw [letter_Get_os.c2]
    simp only [letter_Get_os.g2 R c1 κ f]
    rfl
theorem letter_Get_os.run (R : Type) (κ : List SV → Option R) (a0 : List AV) (a1 : ByteArray) :
    runF (letter_Get_os.C R octet_Same_0) Tryz.f45 10000 fuelK [.ro 42 a0 false, .str a1] κ = letter_Get_os a0 a1 (fun r0 r1 => κ [.agg [.bool r0, .str r1]]) := by
  rw [letter_Get_os.c]
  simp only [letter_Get_os.g2 R octet_Same_0 κ fuelK]
  rfl
theorem letter_Get_os.Γ_does {R : Type} (tab : Tab) (ht : TabOk tab) (g : Nat) : Does (R := R) Tryz.prog (tabTy tyL) tab g ((letter_Get_os.C R octet_Same_0).call g) := by
  refine does_of fun xs κ => ?_
  show DoesAt _ _ _ g xs κ (letter_Get_os.Γ octet_Same_0 g xs κ)
  unfold letter_Get_os.Γ
  split
  · split
    · exact octet_Same_0.does tab ht _ _ κ
    · exact DoesAt.none
  · exact DoesAt.none
theorem letter_Get_os.does {R : Type} (tab : Tab) (ht : TabOk tab) (a0 : List AV) (a1 : ByteArray) (κ : List SV → Option R) : DoesAt Tryz.prog (tabTy tyL) tab 45 [.ro 42 a0 false, .str a1] κ (letter_Get_os a0 a1 (fun r0 r1 => κ [.agg [.bool r0, .str r1]])) := by
  intro r h w vs Rt Ra bs hpre
  exact runF_sound tyOk (letter_Get_os.Γ_does tab ht) (show Tryz.prog.funcs[45]? = some Tryz.f45 by kernel_rfl) (by kernel_rfl) ((letter_Get_os.run R κ a0 a1).trans h) hpre
def letter_Pick_sbn.Γ {R : Type} (c1 : letter_rows_0.F R) (c2 : strings_Builder_WriteString_vxfes.F R) (c3 : strings_Builder_String_vxfe.F R) (c4 : strings_HasSuffix_0.F R) (g : Nat) (xs : List SV) (κ : List SV → Option R) : Option R :=
  match g with
  | 38 => (match xs with
    | [.str a0] => c1 a0 (fun r0 => κ [.fr 65 r0 true])
    | _ => none)
  | 47 => (match xs with
    | [.vp 74 [.nos, .fr 5 a0 true], .str a1] => c2 a0 a1 (fun r0 r1 => κ [.tup [.int .i64 r0, .nili], .vp 74 [.nos, .fr 5 r1 true]])
    | _ => none)
  | 48 => (match xs with
    | [.str a0, .str a1] => c4 a0 a1 (fun r0 => κ [.bool r0])
    | _ => none)
  | 49 => (match xs with
    | [.vp 74 [.nos, .fr 5 a0 true]] => c3 a0 (fun r0 => κ [.str r0, .vp 74 [.nos, .no]])
    | _ => none)
  | _ => none
def letter_Pick_sbn.h (n : Nat) : Option (List (Nat × List (Nat × Nat))) :=
  match n with
  | 3 => some [(1, [(0, 0)]), (2, [(0, 0)]), (7, [(1, 7)]), (14, [(0, 0)]), (15, [(0, 0)]), (16, [(0, 0)])]
  | 7 => some [(1, [(0, 0)]), (2, [(0, 0)]), (7, [(0, 0)]), (9, [(0, 0)]), (10, [(0, 0)]), (14, [(0, 0)]), (15, [(0, 0)]), (16, [(0, 0)]), (20, [(0, 0)]), (21, [(0, 0)]), (22, [(0, 0)])]
  | _ => none
def letter_Pick_sbn.C (R : Type) (c1 : letter_rows_0.F R) (c2 : strings_Builder_WriteString_vxfes.F R) (c3 : strings_Builder_String_vxfe.F R) (c4 : strings_HasSuffix_0.F R) : Cfg R := ⟨tabTy tyL, letter_Pick_sbn.Γ c1 c2 c3 c4, fun _ => false, letter_Pick_sbn.h⟩
def letter_Pick_sbn.s3 (x0 : Bool) (x1 : Int) (x2 : Int) (x3 : List AV) (x4 : List AV) : St := ⟨mkS 52 [(1, .bool x0), (2, .nil), (7, .ptr 575 0), (14, .own 960), (15, .int .i64 x1), (16, .int .i64 x2)], [(575, .var 74 [.nos, .own 513]), (513, .row 5 x3 true), (960, .row 65 x4 true)], top⟩
def letter_Pick_sbn.s7 (x0 : Bool) (x1 : Bool) (x2 : Int) (x3 : Int) (x4 : Int) (x5 : Int) (x6 : List AV) (x7 : ByteArray) (x8 : ByteArray) (x9 : Bool) (x10 : Bool) (x11 : List AV) : St := ⟨mkS 52 [(1, .bool x0), (2, .nil), (7, .ptr 575 0), (9, .ptr 703 0), (10, .bool x1), (14, .own 960), (15, .int .i64 x2), (16, .int .i64 x3), (20, .nil), (21, .int .i64 x4), (22, .int .i64 x5)], [(575, .var 74 [.nos, .own 513]), (513, .row 5 x6 true), (703, .var 65 [.str x7, .str x8, .bool x9, .bool x10]), (960, .row 65 x11 true)], top⟩
theorem letter_Pick_sbn.c3 (R : Type) (c1 : letter_rows_0.F R) (c2 : strings_Builder_WriteString_vxfes.F R) (c3 : strings_Builder_String_vxfe.F R) (c4 : strings_HasSuffix_0.F R) (J : List Item → St → Option R) (κ : List SV → Option R) (x0 : Bool) (x1 : Int) (x2 : Int) (x3 : List AV) (x4 : List AV) :
    start (letter_Pick_sbn.C R c1 c2 c3 c4) J (retK (letter_Pick_sbn.C R c1 c2 c3 c4) Tryz.f15.results.toList (List.range 0) κ) 10000 (placeOf Tryz.f15 3) (letter_Pick_sbn.s3 x0 x1 x2 x3 x4) = letter_Pick_sbn.t3 c1 c2 c3 c4 x0 x1 x2 x3 x4 (fun y0 y1 y2 y3 y4 => J (placeOf Tryz.f15 3) (letter_Pick_sbn.s3 y0 y1 y2 y3 y4)) (fun y0 y1 y2 y3 y4 y5 y6 y7 y8 y9 y10 y11 => J (placeOf Tryz.f15 7) (letter_Pick_sbn.s7 y0 y1 y2 y3 y4 y5 y6 y7 y8 y9 y10 y11)) (fun r0 => κ [.str r0]) := by kernel_rfl
theorem letter_Pick_sbn.c7 (R : Type) (c1 : letter_rows_0.F R) (c2 : strings_Builder_WriteString_vxfes.F R) (c3 : strings_Builder_String_vxfe.F R) (c4 : strings_HasSuffix_0.F R) (J : List Item → St → Option R) (κ : List SV → Option R) (x0 : Bool) (x1 : Bool) (x2 : Int) (x3 : Int) (x4 : Int) (x5 : Int) (x6 : List AV) (x7 : ByteArray) (x8 : ByteArray) (x9 : Bool) (x10 : Bool) (x11 : List AV) :
    start (letter_Pick_sbn.C R c1 c2 c3 c4) J (retK (letter_Pick_sbn.C R c1 c2 c3 c4) Tryz.f15.results.toList (List.range 0) κ) 10000 (placeOf Tryz.f15 7) (letter_Pick_sbn.s7 x0 x1 x2 x3 x4 x5 x6 x7 x8 x9 x10 x11) = letter_Pick_sbn.t7 c1 c2 c3 c4 x0 x1 x2 x3 x4 x5 x6 x7 x8 x9 x10 x11 (fun y0 y1 y2 y3 y4 => J (placeOf Tryz.f15 3) (letter_Pick_sbn.s3 y0 y1 y2 y3 y4)) (fun y0 y1 y2 y3 y4 y5 y6 y7 y8 y9 y10 y11 => J (placeOf Tryz.f15 7) (letter_Pick_sbn.s7 y0 y1 y2 y3 y4 y5 y6 y7 y8 y9 y10 y11)) (fun r0 => κ [.str r0]) := by kernel_rfl
theorem letter_Pick_sbn.c (R : Type) (c1 : letter_rows_0.F R) (c2 : strings_Builder_WriteString_vxfes.F R) (c3 : strings_Builder_String_vxfe.F R) (c4 : strings_HasSuffix_0.F R) (κ : List SV → Option R) (k : Nat) (a0 : ByteArray) (a1 : Bool) :
    runF (letter_Pick_sbn.C R c1 c2 c3 c4) Tryz.f15 10000 k [.str a0, .bool a1, .nil] κ = letter_Pick_sbn.e c1 c2 c3 c4 a0 a1 (fun y0 y1 y2 y3 y4 => goto (letter_Pick_sbn.C R c1 c2 c3 c4) (retK (letter_Pick_sbn.C R c1 c2 c3 c4) Tryz.f15.results.toList (List.range 0) κ) 10000 k (placeOf Tryz.f15 3) (letter_Pick_sbn.s3 y0 y1 y2 y3 y4)) (fun y0 y1 y2 y3 y4 y5 y6 y7 y8 y9 y10 y11 => goto (letter_Pick_sbn.C R c1 c2 c3 c4) (retK (letter_Pick_sbn.C R c1 c2 c3 c4) Tryz.f15.results.toList (List.range 0) κ) 10000 k (placeOf Tryz.f15 7) (letter_Pick_sbn.s7 y0 y1 y2 y3 y4 y5 y6 y7 y8 y9 y10 y11)) (fun r0 => κ [.str r0]) := by kernel_rfl
theorem letter_Pick_sbn.gM3 (R : Type) (c1 : letter_rows_0.F R) (c2 : strings_Builder_WriteString_vxfes.F R) (c3 : strings_Builder_String_vxfe.F R) (c4 : strings_HasSuffix_0.F R) (κ : List SV → Option R) : ∀ (f : Nat), (∀ (x0 : Bool) (x1 : Int) (x2 : Int) (x3 : List AV) (x4 : List AV), goto (letter_Pick_sbn.C R c1 c2 c3 c4) (retK (letter_Pick_sbn.C R c1 c2 c3 c4) Tryz.f15.results.toList (List.range 0) κ) 10000 f (placeOf Tryz.f15 3) (letter_Pick_sbn.s3 x0 x1 x2 x3 x4) = letter_Pick_sbn.L3 c1 c2 c3 c4 (fun r0 => κ [.str r0]) f x0 x1 x2 x3 x4) ∧
    (∀ (x0 : Bool) (x1 : Bool) (x2 : Int) (x3 : Int) (x4 : Int) (x5 : Int) (x6 : List AV) (x7 : ByteArray) (x8 : ByteArray) (x9 : Bool) (x10 : Bool) (x11 : List AV), goto (letter_Pick_sbn.C R c1 c2 c3 c4) (retK (letter_Pick_sbn.C R c1 c2 c3 c4) Tryz.f15.results.toList (List.range 0) κ) 10000 f (placeOf Tryz.f15 7) (letter_Pick_sbn.s7 x0 x1 x2 x3 x4 x5 x6 x7 x8 x9 x10 x11) = letter_Pick_sbn.L7 c1 c2 c3 c4 (fun r0 => κ [.str r0]) f x0 x1 x2 x3 x4 x5 x6 x7 x8 x9 x10 x11)
  | 0 => ⟨fun _ _ _ _ _ => rfl, fun _ _ _ _ _ _ _ _ _ _ _ _ => rfl⟩
  | f + 1 => by
    obtain ⟨ih0, ih1⟩ := letter_Pick_sbn.gM3 R c1 c2 c3 c4 κ f
    refine ⟨?_, ?_⟩
    · intro x0 x1 x2 x3 x4
      show start (letter_Pick_sbn.C R c1 c2 c3 c4) (goto (letter_Pick_sbn.C R c1 c2 c3 c4) (retK (letter_Pick_sbn.C R c1 c2 c3 c4) Tryz.f15.results.toList (List.range 0) κ) 10000 f) (retK (letter_Pick_sbn.C R c1 c2 c3 c4) Tryz.f15.results.toList (List.range 0) κ) 10000 (placeOf Tryz.f15 3) (letter_Pick_sbn.s3 x0 x1 x2 x3 x4) = _
      rw [letter_Pick_sbn.c3]
      simp only [ih0, ih1]
      rfl
    · intro x0 x1 x2 x3 x4 x5 x6 x7 x8 x9 x10 x11
      show start (letter_Pick_sbn.C R c1 c2 c3 c4) (goto (letter_Pick_sbn.C R c1 c2 c3 c4) (retK (letter_Pick_sbn.C R c1 c2 c3 c4) Tryz.f15.results.toList (List.range 0) κ) 10000 f) (retK (letter_Pick_sbn.C R c1 c2 c3 c4) Tryz.f15.results.toList (List.range 0) κ) 10000 (placeOf Tryz.f15 7) (letter_Pick_sbn.s7 x0 x1 x2 x3 x4 x5 x6 x7 x8 x9 x10 x11) = _
      rw [letter_Pick_sbn.c7]
      simp only [ih0, ih1]
      rfl
theorem letter_Pick_sbn.g3 (R : Type) (c1 : letter_rows_0.F R) (c2 : strings_Builder_WriteString_vxfes.F R) (c3 : strings_Builder_String_vxfe.F R) (c4 : strings_HasSuffix_0.F R) (κ : List SV → Option R) (f : Nat) (x0 : Bool) (x1 : Int) (x2 : Int) (x3 : List AV) (x4 : List AV) : goto (letter_Pick_sbn.C R c1 c2 c3 c4) (retK (letter_Pick_sbn.C R c1 c2 c3 c4) Tryz.f15.results.toList (List.range 0) κ) 10000 f (placeOf Tryz.f15 3) (letter_Pick_sbn.s3 x0 x1 x2 x3 x4) = letter_Pick_sbn.L3 c1 c2 c3 c4 (fun r0 => κ [.str r0]) f x0 x1 x2 x3 x4 := (letter_Pick_sbn.gM3 R c1 c2 c3 c4 κ f).1 x0 x1 x2 x3 x4
theorem letter_Pick_sbn.g7 (R : Type) (c1 : letter_rows_0.F R) (c2 : strings_Builder_WriteString_vxfes.F R) (c3 : strings_Builder_String_vxfe.F R) (c4 : strings_HasSuffix_0.F R) (κ : List SV → Option R) (f : Nat) (x0 : Bool) (x1 : Bool) (x2 : Int) (x3 : Int) (x4 : Int) (x5 : Int) (x6 : List AV) (x7 : ByteArray) (x8 : ByteArray) (x9 : Bool) (x10 : Bool) (x11 : List AV) : goto (letter_Pick_sbn.C R c1 c2 c3 c4) (retK (letter_Pick_sbn.C R c1 c2 c3 c4) Tryz.f15.results.toList (List.range 0) κ) 10000 f (placeOf Tryz.f15 7) (letter_Pick_sbn.s7 x0 x1 x2 x3 x4 x5 x6 x7 x8 x9 x10 x11) = letter_Pick_sbn.L7 c1 c2 c3 c4 (fun r0 => κ [.str r0]) f x0 x1 x2 x3 x4 x5 x6 x7 x8 x9 x10 x11 := (letter_Pick_sbn.gM3 R c1 c2 c3 c4 κ f).2 x0 x1 x2 x3 x4 x5 x6 x7 x8 x9 x10 x11
theorem letter_Pick_sbn.run (R : Type) (κ : List SV → Option R) (a0 : ByteArray) (a1 : Bool) :
    runF (letter_Pick_sbn.C R letter_rows_0 strings_Builder_WriteString_vxfes strings_Builder_String_vxfe strings_HasSuffix_0) Tryz.f15 10000 fuelK [.str a0, .bool a1, .nil] κ = letter_Pick_sbn a0 a1 (fun r0 => κ [.str r0]) := by
  rw [letter_Pick_sbn.c]
  simp only [letter_Pick_sbn.g3 R letter_rows_0 strings_Builder_WriteString_vxfes strings_Builder_String_vxfe strings_HasSuffix_0 κ fuelK, letter_Pick_sbn.g7 R letter_rows_0 strings_Builder_WriteString_vxfes strings_Builder_String_vxfe strings_HasSuffix_0 κ fuelK]
  rfl
theorem letter_Pick_sbn.Γ_does {R : Type} (tab : Tab) (ht : TabOk tab) (g : Nat) : Does (R := R) Tryz.prog (tabTy tyL) tab g ((letter_Pick_sbn.C R letter_rows_0 strings_Builder_WriteString_vxfes strings_Builder_String_vxfe strings_HasSuffix_0).call g) := by
  refine does_of fun xs κ => ?_
  show DoesAt _ _ _ g xs κ (letter_Pick_sbn.Γ letter_rows_0 strings_Builder_WriteString_vxfes strings_Builder_String_vxfe strings_HasSuffix_0 g xs κ)
  unfold letter_Pick_sbn.Γ
  split
  · split
    · exact letter_rows_0.does tab ht _ κ
    · exact DoesAt.none
  · split
    · exact strings_Builder_WriteString_vxfes.does tab ht _ _ κ
    · exact DoesAt.none
  · split
    · exact strings_HasSuffix_0.does tab ht _ _ κ
    · exact DoesAt.none
  · split
    · exact strings_Builder_String_vxfe.does tab ht _ κ
    · exact DoesAt.none
  · exact DoesAt.none
theorem letter_Pick_sbn.does {R : Type} (tab : Tab) (ht : TabOk tab) (a0 : ByteArray) (a1 : Bool) (κ : List SV → Option R) : DoesAt Tryz.prog (tabTy tyL) tab 15 [.str a0, .bool a1, .nil] κ (letter_Pick_sbn a0 a1 (fun r0 => κ [.str r0])) := by
  intro r h w vs Rt Ra bs hpre
  exact runF_sound tyOk (letter_Pick_sbn.Γ_does tab ht) (show Tryz.prog.funcs[15]? = some Tryz.f15 by kernel_rfl) (by kernel_rfl) ((letter_Pick_sbn.run R κ a0 a1).trans h) hpre
def postbaglaw5_known_0.Γ {R : Type} (c1 : letter_Split_0.F R) (c2 : letter_Fields_0.F R) (c3 : letter_Addresses_0.F R) (c4 : letter_Ids_0.F R) (c5 : letter_Base_0.F R) (c6 : letter_Get_os.F R) (c7 : letter_Pick_sbn.F R) (g : Nat) (xs : List SV) (κ : List SV → Option R) : Option R :=
  match g with
  | 11 => (match xs with
    | [.str a0] => c2 a0 (fun r0 => κ [.fr 42 r0 true])
    | _ => none)
  | 15 => (match xs with
    | [.str a0, .bool a1, .nil] => c7 a0 a1 (fun r0 => κ [.str r0])
    | _ => none)
  | 20 => (match xs with
    | [.str a0] => c3 a0 (fun r0 => κ [.fr 60 r0 true])
    | _ => none)
  | 23 => (match xs with
    | [.str a0] => c4 a0 (fun r0 => κ [.fr 9 r0 true])
    | _ => none)
  | 25 => (match xs with
    | [.str a0] => c5 a0 (fun r0 r1 => κ [.tup [.str r0, .bool r1]])
    | _ => none)
  | 44 => (match xs with
    | [.str a0] => c1 a0 (fun r0 r1 => κ [.tup [.str r0, .str r1]])
    | _ => none)
  | 45 => (match xs with
    | [.ro 42 a0 false, .str a1] => c6 a0 a1 (fun r0 r1 => κ [.agg [.bool r0, .str r1]])
    | _ => none)
  | _ => none
def postbaglaw5_known_0.h (n : Nat) : Option (List (Nat × List (Nat × Nat))) :=
  match n with
  | _ => none
def postbaglaw5_known_0.C (R : Type) (c1 : letter_Split_0.F R) (c2 : letter_Fields_0.F R) (c3 : letter_Addresses_0.F R) (c4 : letter_Ids_0.F R) (c5 : letter_Base_0.F R) (c6 : letter_Get_os.F R) (c7 : letter_Pick_sbn.F R) : Cfg R := ⟨tabTy tyL, postbaglaw5_known_0.Γ c1 c2 c3 c4 c5 c6 c7, fun _ => false, postbaglaw5_known_0.h⟩
theorem postbaglaw5_known_0.c (R : Type) (c1 : letter_Split_0.F R) (c2 : letter_Fields_0.F R) (c3 : letter_Addresses_0.F R) (c4 : letter_Ids_0.F R) (c5 : letter_Base_0.F R) (c6 : letter_Get_os.F R) (c7 : letter_Pick_sbn.F R) (κ : List SV → Option R) (k : Nat) :
    runF (postbaglaw5_known_0.C R c1 c2 c3 c4 c5 c6 c7) Tryz.f13 10000 k [] κ = postbaglaw5_known_0.e c1 c2 c3 c4 c5 c6 c7 (fun r0 => κ [.bool r0]) := by kernel_rfl
theorem postbaglaw5_known_0.run (R : Type) (κ : List SV → Option R) :
    runF (postbaglaw5_known_0.C R letter_Split_0 letter_Fields_0 letter_Addresses_0 letter_Ids_0 letter_Base_0 letter_Get_os letter_Pick_sbn) Tryz.f13 10000 fuelK [] κ = postbaglaw5_known_0 (fun r0 => κ [.bool r0]) := by
  rw [postbaglaw5_known_0.c]
  rfl
theorem postbaglaw5_known_0.Γ_does {R : Type} (tab : Tab) (ht : TabOk tab) (g : Nat) : Does (R := R) Tryz.prog (tabTy tyL) tab g ((postbaglaw5_known_0.C R letter_Split_0 letter_Fields_0 letter_Addresses_0 letter_Ids_0 letter_Base_0 letter_Get_os letter_Pick_sbn).call g) := by
  refine does_of fun xs κ => ?_
  show DoesAt _ _ _ g xs κ (postbaglaw5_known_0.Γ letter_Split_0 letter_Fields_0 letter_Addresses_0 letter_Ids_0 letter_Base_0 letter_Get_os letter_Pick_sbn g xs κ)
  unfold postbaglaw5_known_0.Γ
  split
  · split
    · exact letter_Fields_0.does tab ht _ κ
    · exact DoesAt.none
  · split
    · exact letter_Pick_sbn.does tab ht _ _ κ
    · exact DoesAt.none
  · split
    · exact letter_Addresses_0.does tab ht _ κ
    · exact DoesAt.none
  · split
    · exact letter_Ids_0.does tab ht _ κ
    · exact DoesAt.none
  · split
    · exact letter_Base_0.does tab ht _ κ
    · exact DoesAt.none
  · split
    · exact letter_Split_0.does tab ht _ κ
    · exact DoesAt.none
  · split
    · exact letter_Get_os.does tab ht _ _ κ
    · exact DoesAt.none
  · exact DoesAt.none
theorem postbaglaw5_known_0.does {R : Type} (tab : Tab) (ht : TabOk tab) (κ : List SV → Option R) : DoesAt Tryz.prog (tabTy tyL) tab 13 [] κ (postbaglaw5_known_0 (fun r0 => κ [.bool r0])) := by
  intro r h w vs Rt Ra bs hpre
  exact runF_sound tyOk (postbaglaw5_known_0.Γ_does tab ht) (show Tryz.prog.funcs[13]? = some Tryz.f13 by kernel_rfl) (by kernel_rfl) ((postbaglaw5_known_0.run R κ).trans h) hpre
def postbaglaw5_LetterBases_0.Γ {R : Type} (c1 : letter_Base_0.F R) (c2 : postbagref5_Base_0.F R) (c3 : postbaglaw5_known_0.F R) (g : Nat) (xs : List SV) (κ : List SV → Option R) : Option R :=
  match g with
  | 13 => (match xs with
    | [] => c3 (fun r0 => κ [.bool r0])
    | _ => none)
  | 25 => (match xs with
    | [.str a0] => c1 a0 (fun r0 r1 => κ [.tup [.str r0, .bool r1]])
    | _ => none)
  | 26 => (match xs with
    | [.str a0] => c2 a0 (fun r0 r1 => κ [.tup [.str r0, .bool r1]])
    | _ => none)
  | _ => none
def postbaglaw5_LetterBases_0.h (n : Nat) : Option (List (Nat × List (Nat × Nat))) :=
  match n with
  | _ => none
def postbaglaw5_LetterBases_0.C (R : Type) (c1 : letter_Base_0.F R) (c2 : postbagref5_Base_0.F R) (c3 : postbaglaw5_known_0.F R) : Cfg R := ⟨tabTy tyL, postbaglaw5_LetterBases_0.Γ c1 c2 c3, fun _ => false, postbaglaw5_LetterBases_0.h⟩
theorem postbaglaw5_LetterBases_0.c (R : Type) (c1 : letter_Base_0.F R) (c2 : postbagref5_Base_0.F R) (c3 : postbaglaw5_known_0.F R) (κ : List SV → Option R) (k : Nat) (a0 : ByteArray) :
    runF (postbaglaw5_LetterBases_0.C R c1 c2 c3) Tryz.f8 10000 k [.str a0] κ = postbaglaw5_LetterBases_0.e c1 c2 c3 a0 (fun r0 => κ [.bool r0]) := by kernel_rfl
theorem postbaglaw5_LetterBases_0.run (R : Type) (κ : List SV → Option R) (a0 : ByteArray) :
    runF (postbaglaw5_LetterBases_0.C R letter_Base_0 postbagref5_Base_0 postbaglaw5_known_0) Tryz.f8 10000 fuelK [.str a0] κ = postbaglaw5_LetterBases_0 a0 (fun r0 => κ [.bool r0]) := by
  rw [postbaglaw5_LetterBases_0.c]
  rfl
theorem postbaglaw5_LetterBases_0.Γ_does {R : Type} (tab : Tab) (ht : TabOk tab) (g : Nat) : Does (R := R) Tryz.prog (tabTy tyL) tab g ((postbaglaw5_LetterBases_0.C R letter_Base_0 postbagref5_Base_0 postbaglaw5_known_0).call g) := by
  refine does_of fun xs κ => ?_
  show DoesAt _ _ _ g xs κ (postbaglaw5_LetterBases_0.Γ letter_Base_0 postbagref5_Base_0 postbaglaw5_known_0 g xs κ)
  unfold postbaglaw5_LetterBases_0.Γ
  split
  · split
    · exact postbaglaw5_known_0.does tab ht κ
    · exact DoesAt.none
  · split
    · exact letter_Base_0.does tab ht _ κ
    · exact DoesAt.none
  · split
    · exact postbagref5_Base_0.does tab ht _ κ
    · exact DoesAt.none
  · exact DoesAt.none
theorem postbaglaw5_LetterBases_0.does {R : Type} (tab : Tab) (ht : TabOk tab) (a0 : ByteArray) (κ : List SV → Option R) : DoesAt Tryz.prog (tabTy tyL) tab 8 [.str a0] κ (postbaglaw5_LetterBases_0 a0 (fun r0 => κ [.bool r0])) := by
  intro r h w vs Rt Ra bs hpre
  exact runF_sound tyOk (postbaglaw5_LetterBases_0.Γ_does tab ht) (show Tryz.prog.funcs[8]? = some Tryz.f8 by kernel_rfl) (by kernel_rfl) ((postbaglaw5_LetterBases_0.run R κ a0).trans h) hpre
end Go.Proofs.Ab
