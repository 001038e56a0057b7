/- Each plain function is what a call of its Go function does, checked by the kernel (no condition but what its checks ask). -/
import Derived.Test.YtnipklplcipaiaaDoorSeat
import Derived.Test.YtnipklplcipaiaaDoorText
import Derived.Test.YtnipklplcipaiaaDoorCheck3
/- Each typed text is what its function does: checked by the kernel. -/
namespace Go.Proofs.Ab
set_option linter.unusedVariables false
set_option maxRecDepth 4000
open Go Go.Proofs
set_option maxRecDepth 100000
def postbaglaw5_LetterSaid_0.Γ {R : Type} (c1 : postbaglaw5_known_0.F R) (c2 : postbaglaw5_atom_0.F R) (c3 : postbaglaw5_quote_0.F R) (c4 : letter_Addresses_0.F R) (c5 : letter_Ids_0.F R) (c6 : postbaglaw5_addresses_oo.F R) (c7 : postbaglaw5_texts_oo.F R) (g : Nat) (xs : List SV) (κ : List SV → Option R) : Option R :=
  match g with
  | 13 => (match xs with
    | [] => c1 (fun r0 => κ [.bool r0])
    | _ => none)
  | 24 => (match xs with
    | [.str a0] => c4 a0 (fun r0 => κ [.fr 46 r0 true])
    | _ => none)
  | 25 => (match xs with
    | [.str a0] => c2 a0 (fun r0 => κ [.str r0])
    | _ => none)
  | 26 => (match xs with
    | [.str a0] => c3 a0 (fun r0 => κ [.str r0])
    | _ => none)
  | 27 => (match xs with
    | [.str a0] => c5 a0 (fun r0 => κ [.fr 9 r0 true])
    | _ => none)
  | 28 => (match xs with
    | [.ro 46 a0 false, .ro 46 a1 false] => c6 a0 a1 (fun r0 => κ [.bool r0])
    | _ => none)
  | 29 => (match xs with
    | [.ro 9 a0 false, .ro 9 a1 false] => c7 a0 a1 (fun r0 => κ [.bool r0])
    | _ => none)
  | _ => none
def postbaglaw5_LetterSaid_0.h (n : Nat) : Option (List (Nat × List (Nat × Nat))) :=
  match n with
  | 11 => some [(0, [(0, 0)]), (5, [(0, 0)]), (6, [(0, 0)]), (7, [(0, 0)]), (8, [(0, 48)]), (9, [(0, 11)]), (10, [(0, 0)])]
  | 24 => some [(0, [(0, 0)]), (5, [(0, 0)]), (6, [(0, 0)]), (7, [(0, 0)]), (8, [(0, 0)]), (9, [(0, 0)]), (10, [(0, 0)]), (11, [(0, 0)]), (13, [(0, 0)]), (14, [(0, 0)])]
  | 28 => some [(0, [(0, 0)]), (5, [(0, 0)]), (6, [(0, 0)]), (7, [(0, 0)]), (8, [(0, 0)]), (9, [(0, 0)]), (10, [(0, 0)]), (14, [(0, 0)])]
  | 30 => some [(0, [(0, 0)]), (5, [(0, 0)]), (6, [(0, 0)]), (7, [(0, 0)]), (8, [(0, 0)]), (9, [(0, 0)]), (10, [(0, 0)]), (14, [(0, 0)])]
  | _ => none
def postbaglaw5_LetterSaid_0.C (R : Type) (c1 : postbaglaw5_known_0.F R) (c2 : postbaglaw5_atom_0.F R) (c3 : postbaglaw5_quote_0.F R) (c4 : letter_Addresses_0.F R) (c5 : letter_Ids_0.F R) (c6 : postbaglaw5_addresses_oo.F R) (c7 : postbaglaw5_texts_oo.F R) : Cfg R := ⟨tabTy tyL, postbaglaw5_LetterSaid_0.Γ c1 c2 c3 c4 c5 c6 c7, fun _ => false, postbaglaw5_LetterSaid_0.h⟩
def postbaglaw5_LetterSaid_0.s11 (x0 : List AV) (x1 : ByteArray) (x2 : ByteArray) (x3 : ByteArray) (x4 : Int) (x5 : List AV) (x6 : List AV) : St := ⟨mkS 152 [(0, .ro 49 x0 true), (5, .str x1), (6, .str x2), (7, .str x3), (8, .own 576), (9, .own 640), (10, .int .i64 x4)], [(576, .row 46 x5 true), (640, .row 9 x6 true)], top⟩
def postbaglaw5_LetterSaid_0.s24 (x0 : List AV) (x1 : ByteArray) (x2 : ByteArray) (x3 : ByteArray) (x4 : Int) (x5 : ByteArray) (x6 : List AV) (x7 : List AV) (x8 : ByteArray) (x9 : ByteArray) (x10 : ByteArray) (x11 : Bool) (x12 : Bool) (x13 : Bool) (x14 : ByteArray) (x15 : Bool) (x16 : ByteArray) (x17 : Bool) (x18 : ByteArray) (x19 : Bool) (x20 : ByteArray) : St := ⟨mkS 152 [(0, .ro 49 x0 true), (5, .str x1), (6, .str x2), (7, .str x3), (8, .own 576), (9, .own 640), (10, .int .i64 x4), (11, .ptr 831 0), (13, .ptr 959 0), (14, .str x5)], [(576, .row 46 x6 true), (640, .row 9 x7 true), (831, .var 49 [.str x8, .str x9, .str x10, .bool x11, .bool x12]), (959, .var 46 [.bool x13, .str x14, .bool x15, .str x16, .bool x17, .str x18, .bool x19, .str x20])], top⟩
def postbaglaw5_LetterSaid_0.s28 (x0 : List AV) (x1 : ByteArray) (x2 : ByteArray) (x3 : ByteArray) (x4 : Int) (x5 : ByteArray) (x6 : List AV) (x7 : List AV) : St := ⟨mkS 152 [(0, .ro 49 x0 true), (5, .str x1), (6, .str x2), (7, .str x3), (8, .own 576), (9, .own 640), (10, .int .i64 x4), (14, .str x5)], [(576, .row 46 x6 true), (640, .row 9 x7 true)], top⟩
def postbaglaw5_LetterSaid_0.s30 (x0 : List AV) (x1 : ByteArray) (x2 : ByteArray) (x3 : ByteArray) (x4 : Int) (x5 : ByteArray) (x6 : List AV) (x7 : List AV) : St := ⟨mkS 152 [(0, .ro 49 x0 true), (5, .str x1), (6, .str x2), (7, .str x3), (8, .own 576), (9, .own 640), (10, .int .i64 x4), (14, .str x5)], [(576, .row 46 x6 true), (640, .row 9 x7 true)], top⟩
theorem postbaglaw5_LetterSaid_0.c11 (R : Type) (c1 : postbaglaw5_known_0.F R) (c2 : postbaglaw5_atom_0.F R) (c3 : postbaglaw5_quote_0.F R) (c4 : letter_Addresses_0.F R) (c5 : letter_Ids_0.F R) (c6 : postbaglaw5_addresses_oo.F R) (c7 : postbaglaw5_texts_oo.F R) (J : List Item → St → Option R) (κ : List SV → Option R) (x0 : List AV) (x1 : ByteArray) (x2 : ByteArray) (x3 : ByteArray) (x4 : Int) (x5 : List AV) (x6 : List AV) :
    start (postbaglaw5_LetterSaid_0.C R c1 c2 c3 c4 c5 c6 c7) J (retK (postbaglaw5_LetterSaid_0.C R c1 c2 c3 c4 c5 c6 c7) Tryd.f10.results.toList (List.range 0) κ) 10000 (placeOf Tryd.f10 11) (postbaglaw5_LetterSaid_0.s11 x0 x1 x2 x3 x4 x5 x6) = postbaglaw5_LetterSaid_0.t11 c1 c2 c3 c4 c5 c6 c7 x0 x1 x2 x3 x4 x5 x6 (fun y0 y1 y2 y3 y4 y5 y6 => J (placeOf Tryd.f10 11) (postbaglaw5_LetterSaid_0.s11 y0 y1 y2 y3 y4 y5 y6)) (fun y0 y1 y2 y3 y4 y5 y6 y7 y8 y9 y10 y11 y12 y13 y14 y15 y16 y17 y18 y19 y20 => J (placeOf Tryd.f10 24) (postbaglaw5_LetterSaid_0.s24 y0 y1 y2 y3 y4 y5 y6 y7 y8 y9 y10 y11 y12 y13 y14 y15 y16 y17 y18 y19 y20)) (fun y0 y1 y2 y3 y4 y5 y6 y7 => J (placeOf Tryd.f10 28) (postbaglaw5_LetterSaid_0.s28 y0 y1 y2 y3 y4 y5 y6 y7)) (fun y0 y1 y2 y3 y4 y5 y6 y7 => J (placeOf Tryd.f10 30) (postbaglaw5_LetterSaid_0.s30 y0 y1 y2 y3 y4 y5 y6 y7)) (fun r0 => κ [.bool r0]) := by kernel_rfl
theorem postbaglaw5_LetterSaid_0.c24 (R : Type) (c1 : postbaglaw5_known_0.F R) (c2 : postbaglaw5_atom_0.F R) (c3 : postbaglaw5_quote_0.F R) (c4 : letter_Addresses_0.F R) (c5 : letter_Ids_0.F R) (c6 : postbaglaw5_addresses_oo.F R) (c7 : postbaglaw5_texts_oo.F R) (J : List Item → St → Option R) (κ : List SV → Option R) (x0 : List AV) (x1 : ByteArray) (x2 : ByteArray) (x3 : ByteArray) (x4 : Int) (x5 : ByteArray) (x6 : List AV) (x7 : List AV) (x8 : ByteArray) (x9 : ByteArray) (x10 : ByteArray) (x11 : Bool) (x12 : Bool) (x13 : Bool) (x14 : ByteArray) (x15 : Bool) (x16 : ByteArray) (x17 : Bool) (x18 : ByteArray) (x19 : Bool) (x20 : ByteArray) :
    start (postbaglaw5_LetterSaid_0.C R c1 c2 c3 c4 c5 c6 c7) J (retK (postbaglaw5_LetterSaid_0.C R c1 c2 c3 c4 c5 c6 c7) Tryd.f10.results.toList (List.range 0) κ) 10000 (placeOf Tryd.f10 24) (postbaglaw5_LetterSaid_0.s24 x0 x1 x2 x3 x4 x5 x6 x7 x8 x9 x10 x11 x12 x13 x14 x15 x16 x17 x18 x19 x20) = postbaglaw5_LetterSaid_0.t24 c1 c2 c3 c4 c5 c6 c7 x0 x1 x2 x3 x4 x5 x6 x7 x8 x9 x10 x11 x12 x13 x14 x15 x16 x17 x18 x19 x20 (fun y0 y1 y2 y3 y4 y5 y6 => J (placeOf Tryd.f10 11) (postbaglaw5_LetterSaid_0.s11 y0 y1 y2 y3 y4 y5 y6)) (fun y0 y1 y2 y3 y4 y5 y6 y7 y8 y9 y10 y11 y12 y13 y14 y15 y16 y17 y18 y19 y20 => J (placeOf Tryd.f10 24) (postbaglaw5_LetterSaid_0.s24 y0 y1 y2 y3 y4 y5 y6 y7 y8 y9 y10 y11 y12 y13 y14 y15 y16 y17 y18 y19 y20)) (fun y0 y1 y2 y3 y4 y5 y6 y7 => J (placeOf Tryd.f10 28) (postbaglaw5_LetterSaid_0.s28 y0 y1 y2 y3 y4 y5 y6 y7)) (fun y0 y1 y2 y3 y4 y5 y6 y7 => J (placeOf Tryd.f10 30) (postbaglaw5_LetterSaid_0.s30 y0 y1 y2 y3 y4 y5 y6 y7)) (fun r0 => κ [.bool r0]) := by kernel_rfl
theorem postbaglaw5_LetterSaid_0.c28 (R : Type) (c1 : postbaglaw5_known_0.F R) (c2 : postbaglaw5_atom_0.F R) (c3 : postbaglaw5_quote_0.F R) (c4 : letter_Addresses_0.F R) (c5 : letter_Ids_0.F R) (c6 : postbaglaw5_addresses_oo.F R) (c7 : postbaglaw5_texts_oo.F R) (J : List Item → St → Option R) (κ : List SV → Option R) (x0 : List AV) (x1 : ByteArray) (x2 : ByteArray) (x3 : ByteArray) (x4 : Int) (x5 : ByteArray) (x6 : List AV) (x7 : List AV) :
    start (postbaglaw5_LetterSaid_0.C R c1 c2 c3 c4 c5 c6 c7) J (retK (postbaglaw5_LetterSaid_0.C R c1 c2 c3 c4 c5 c6 c7) Tryd.f10.results.toList (List.range 0) κ) 10000 (placeOf Tryd.f10 28) (postbaglaw5_LetterSaid_0.s28 x0 x1 x2 x3 x4 x5 x6 x7) = postbaglaw5_LetterSaid_0.t28 c1 c2 c3 c4 c5 c6 c7 x0 x1 x2 x3 x4 x5 x6 x7 (fun y0 y1 y2 y3 y4 y5 y6 => J (placeOf Tryd.f10 11) (postbaglaw5_LetterSaid_0.s11 y0 y1 y2 y3 y4 y5 y6)) (fun y0 y1 y2 y3 y4 y5 y6 y7 y8 y9 y10 y11 y12 y13 y14 y15 y16 y17 y18 y19 y20 => J (placeOf Tryd.f10 24) (postbaglaw5_LetterSaid_0.s24 y0 y1 y2 y3 y4 y5 y6 y7 y8 y9 y10 y11 y12 y13 y14 y15 y16 y17 y18 y19 y20)) (fun y0 y1 y2 y3 y4 y5 y6 y7 => J (placeOf Tryd.f10 28) (postbaglaw5_LetterSaid_0.s28 y0 y1 y2 y3 y4 y5 y6 y7)) (fun y0 y1 y2 y3 y4 y5 y6 y7 => J (placeOf Tryd.f10 30) (postbaglaw5_LetterSaid_0.s30 y0 y1 y2 y3 y4 y5 y6 y7)) (fun r0 => κ [.bool r0]) := by kernel_rfl
theorem postbaglaw5_LetterSaid_0.c30 (R : Type) (c1 : postbaglaw5_known_0.F R) (c2 : postbaglaw5_atom_0.F R) (c3 : postbaglaw5_quote_0.F R) (c4 : letter_Addresses_0.F R) (c5 : letter_Ids_0.F R) (c6 : postbaglaw5_addresses_oo.F R) (c7 : postbaglaw5_texts_oo.F R) (J : List Item → St → Option R) (κ : List SV → Option R) (x0 : List AV) (x1 : ByteArray) (x2 : ByteArray) (x3 : ByteArray) (x4 : Int) (x5 : ByteArray) (x6 : List AV) (x7 : List AV) :
    start (postbaglaw5_LetterSaid_0.C R c1 c2 c3 c4 c5 c6 c7) J (retK (postbaglaw5_LetterSaid_0.C R c1 c2 c3 c4 c5 c6 c7) Tryd.f10.results.toList (List.range 0) κ) 10000 (placeOf Tryd.f10 30) (postbaglaw5_LetterSaid_0.s30 x0 x1 x2 x3 x4 x5 x6 x7) = postbaglaw5_LetterSaid_0.t30 c1 c2 c3 c4 c5 c6 c7 x0 x1 x2 x3 x4 x5 x6 x7 (fun y0 y1 y2 y3 y4 y5 y6 => J (placeOf Tryd.f10 11) (postbaglaw5_LetterSaid_0.s11 y0 y1 y2 y3 y4 y5 y6)) (fun y0 y1 y2 y3 y4 y5 y6 y7 y8 y9 y10 y11 y12 y13 y14 y15 y16 y17 y18 y19 y20 => J (placeOf Tryd.f10 24) (postbaglaw5_LetterSaid_0.s24 y0 y1 y2 y3 y4 y5 y6 y7 y8 y9 y10 y11 y12 y13 y14 y15 y16 y17 y18 y19 y20)) (fun y0 y1 y2 y3 y4 y5 y6 y7 => J (placeOf Tryd.f10 28) (postbaglaw5_LetterSaid_0.s28 y0 y1 y2 y3 y4 y5 y6 y7)) (fun y0 y1 y2 y3 y4 y5 y6 y7 => J (placeOf Tryd.f10 30) (postbaglaw5_LetterSaid_0.s30 y0 y1 y2 y3 y4 y5 y6 y7)) (fun r0 => κ [.bool r0]) := by kernel_rfl
theorem postbaglaw5_LetterSaid_0.c (R : Type) (c1 : postbaglaw5_known_0.F R) (c2 : postbaglaw5_atom_0.F R) (c3 : postbaglaw5_quote_0.F R) (c4 : letter_Addresses_0.F R) (c5 : letter_Ids_0.F R) (c6 : postbaglaw5_addresses_oo.F R) (c7 : postbaglaw5_texts_oo.F R) (κ : List SV → Option R) (k : Nat) (a0 : List AV) (a1 : ByteArray) :
    runF (postbaglaw5_LetterSaid_0.C R c1 c2 c3 c4 c5 c6 c7) Tryd.f10 10000 k [.ro 49 a0 true, .str a1] κ = postbaglaw5_LetterSaid_0.e c1 c2 c3 c4 c5 c6 c7 a0 a1 (fun y0 y1 y2 y3 y4 y5 y6 => goto (postbaglaw5_LetterSaid_0.C R c1 c2 c3 c4 c5 c6 c7) (retK (postbaglaw5_LetterSaid_0.C R c1 c2 c3 c4 c5 c6 c7) Tryd.f10.results.toList (List.range 0) κ) 10000 k (placeOf Tryd.f10 11) (postbaglaw5_LetterSaid_0.s11 y0 y1 y2 y3 y4 y5 y6)) (fun y0 y1 y2 y3 y4 y5 y6 y7 y8 y9 y10 y11 y12 y13 y14 y15 y16 y17 y18 y19 y20 => goto (postbaglaw5_LetterSaid_0.C R c1 c2 c3 c4 c5 c6 c7) (retK (postbaglaw5_LetterSaid_0.C R c1 c2 c3 c4 c5 c6 c7) Tryd.f10.results.toList (List.range 0) κ) 10000 k (placeOf Tryd.f10 24) (postbaglaw5_LetterSaid_0.s24 y0 y1 y2 y3 y4 y5 y6 y7 y8 y9 y10 y11 y12 y13 y14 y15 y16 y17 y18 y19 y20)) (fun y0 y1 y2 y3 y4 y5 y6 y7 => goto (postbaglaw5_LetterSaid_0.C R c1 c2 c3 c4 c5 c6 c7) (retK (postbaglaw5_LetterSaid_0.C R c1 c2 c3 c4 c5 c6 c7) Tryd.f10.results.toList (List.range 0) κ) 10000 k (placeOf Tryd.f10 28) (postbaglaw5_LetterSaid_0.s28 y0 y1 y2 y3 y4 y5 y6 y7)) (fun y0 y1 y2 y3 y4 y5 y6 y7 => goto (postbaglaw5_LetterSaid_0.C R c1 c2 c3 c4 c5 c6 c7) (retK (postbaglaw5_LetterSaid_0.C R c1 c2 c3 c4 c5 c6 c7) Tryd.f10.results.toList (List.range 0) κ) 10000 k (placeOf Tryd.f10 30) (postbaglaw5_LetterSaid_0.s30 y0 y1 y2 y3 y4 y5 y6 y7)) (fun r0 => κ [.bool r0]) := by kernel_rfl
theorem postbaglaw5_LetterSaid_0.gM11 (R : Type) (c1 : postbaglaw5_known_0.F R) (c2 : postbaglaw5_atom_0.F R) (c3 : postbaglaw5_quote_0.F R) (c4 : letter_Addresses_0.F R) (c5 : letter_Ids_0.F R) (c6 : postbaglaw5_addresses_oo.F R) (c7 : postbaglaw5_texts_oo.F R) (κ : List SV → Option R) : ∀ (f : Nat), (∀ (x0 : List AV) (x1 : ByteArray) (x2 : ByteArray) (x3 : ByteArray) (x4 : Int) (x5 : List AV) (x6 : List AV), goto (postbaglaw5_LetterSaid_0.C R c1 c2 c3 c4 c5 c6 c7) (retK (postbaglaw5_LetterSaid_0.C R c1 c2 c3 c4 c5 c6 c7) Tryd.f10.results.toList (List.range 0) κ) 10000 f (placeOf Tryd.f10 11) (postbaglaw5_LetterSaid_0.s11 x0 x1 x2 x3 x4 x5 x6) = postbaglaw5_LetterSaid_0.L11 c1 c2 c3 c4 c5 c6 c7 (fun r0 => κ [.bool r0]) f x0 x1 x2 x3 x4 x5 x6) ∧
    (∀ (x0 : List AV) (x1 : ByteArray) (x2 : ByteArray) (x3 : ByteArray) (x4 : Int) (x5 : ByteArray) (x6 : List AV) (x7 : List AV) (x8 : ByteArray) (x9 : ByteArray) (x10 : ByteArray) (x11 : Bool) (x12 : Bool) (x13 : Bool) (x14 : ByteArray) (x15 : Bool) (x16 : ByteArray) (x17 : Bool) (x18 : ByteArray) (x19 : Bool) (x20 : ByteArray), goto (postbaglaw5_LetterSaid_0.C R c1 c2 c3 c4 c5 c6 c7) (retK (postbaglaw5_LetterSaid_0.C R c1 c2 c3 c4 c5 c6 c7) Tryd.f10.results.toList (List.range 0) κ) 10000 f (placeOf Tryd.f10 24) (postbaglaw5_LetterSaid_0.s24 x0 x1 x2 x3 x4 x5 x6 x7 x8 x9 x10 x11 x12 x13 x14 x15 x16 x17 x18 x19 x20) = postbaglaw5_LetterSaid_0.L24 c1 c2 c3 c4 c5 c6 c7 (fun r0 => κ [.bool r0]) f x0 x1 x2 x3 x4 x5 x6 x7 x8 x9 x10 x11 x12 x13 x14 x15 x16 x17 x18 x19 x20) ∧
    (∀ (x0 : List AV) (x1 : ByteArray) (x2 : ByteArray) (x3 : ByteArray) (x4 : Int) (x5 : ByteArray) (x6 : List AV) (x7 : List AV), goto (postbaglaw5_LetterSaid_0.C R c1 c2 c3 c4 c5 c6 c7) (retK (postbaglaw5_LetterSaid_0.C R c1 c2 c3 c4 c5 c6 c7) Tryd.f10.results.toList (List.range 0) κ) 10000 f (placeOf Tryd.f10 28) (postbaglaw5_LetterSaid_0.s28 x0 x1 x2 x3 x4 x5 x6 x7) = postbaglaw5_LetterSaid_0.L28 c1 c2 c3 c4 c5 c6 c7 (fun r0 => κ [.bool r0]) f x0 x1 x2 x3 x4 x5 x6 x7) ∧
    (∀ (x0 : List AV) (x1 : ByteArray) (x2 : ByteArray) (x3 : ByteArray) (x4 : Int) (x5 : ByteArray) (x6 : List AV) (x7 : List AV), goto (postbaglaw5_LetterSaid_0.C R c1 c2 c3 c4 c5 c6 c7) (retK (postbaglaw5_LetterSaid_0.C R c1 c2 c3 c4 c5 c6 c7) Tryd.f10.results.toList (List.range 0) κ) 10000 f (placeOf Tryd.f10 30) (postbaglaw5_LetterSaid_0.s30 x0 x1 x2 x3 x4 x5 x6 x7) = postbaglaw5_LetterSaid_0.L30 c1 c2 c3 c4 c5 c6 c7 (fun r0 => κ [.bool r0]) f x0 x1 x2 x3 x4 x5 x6 x7)
  | 0 => ⟨fun _ _ _ _ _ _ _ => rfl, fun _ _ _ _ _ _ _ _ _ _ _ _ _ _ _ _ _ _ _ _ _ => rfl, fun _ _ _ _ _ _ _ _ => rfl, fun _ _ _ _ _ _ _ _ => rfl⟩
  | f + 1 => by
    obtain ⟨ih0, ih1, ih2, ih3⟩ := postbaglaw5_LetterSaid_0.gM11 R c1 c2 c3 c4 c5 c6 c7 κ f
    refine ⟨?_, ?_, ?_, ?_⟩
    · intro x0 x1 x2 x3 x4 x5 x6
      show start (postbaglaw5_LetterSaid_0.C R c1 c2 c3 c4 c5 c6 c7) (goto (postbaglaw5_LetterSaid_0.C R c1 c2 c3 c4 c5 c6 c7) (retK (postbaglaw5_LetterSaid_0.C R c1 c2 c3 c4 c5 c6 c7) Tryd.f10.results.toList (List.range 0) κ) 10000 f) (retK (postbaglaw5_LetterSaid_0.C R c1 c2 c3 c4 c5 c6 c7) Tryd.f10.results.toList (List.range 0) κ) 10000 (placeOf Tryd.f10 11) (postbaglaw5_LetterSaid_0.s11 x0 x1 x2 x3 x4 x5 x6) = _
      rw [postbaglaw5_LetterSaid_0.c11]
      simp only [ih0, ih1, ih2, ih3]
      rfl
    · intro x0 x1 x2 x3 x4 x5 x6 x7 x8 x9 x10 x11 x12 x13 x14 x15 x16 x17 x18 x19 x20
      show start (postbaglaw5_LetterSaid_0.C R c1 c2 c3 c4 c5 c6 c7) (goto (postbaglaw5_LetterSaid_0.C R c1 c2 c3 c4 c5 c6 c7) (retK (postbaglaw5_LetterSaid_0.C R c1 c2 c3 c4 c5 c6 c7) Tryd.f10.results.toList (List.range 0) κ) 10000 f) (retK (postbaglaw5_LetterSaid_0.C R c1 c2 c3 c4 c5 c6 c7) Tryd.f10.results.toList (List.range 0) κ) 10000 (placeOf Tryd.f10 24) (postbaglaw5_LetterSaid_0.s24 x0 x1 x2 x3 x4 x5 x6 x7 x8 x9 x10 x11 x12 x13 x14 x15 x16 x17 x18 x19 x20) = _
      rw [postbaglaw5_LetterSaid_0.c24]
      simp only [ih0, ih1, ih2, ih3]
      rfl
    · intro x0 x1 x2 x3 x4 x5 x6 x7
      show start (postbaglaw5_LetterSaid_0.C R c1 c2 c3 c4 c5 c6 c7) (goto (postbaglaw5_LetterSaid_0.C R c1 c2 c3 c4 c5 c6 c7) (retK (postbaglaw5_LetterSaid_0.C R c1 c2 c3 c4 c5 c6 c7) Tryd.f10.results.toList (List.range 0) κ) 10000 f) (retK (postbaglaw5_LetterSaid_0.C R c1 c2 c3 c4 c5 c6 c7) Tryd.f10.results.toList (List.range 0) κ) 10000 (placeOf Tryd.f10 28) (postbaglaw5_LetterSaid_0.s28 x0 x1 x2 x3 x4 x5 x6 x7) = _
      rw [postbaglaw5_LetterSaid_0.c28]
      simp only [ih0, ih1, ih2, ih3]
      rfl
    · intro x0 x1 x2 x3 x4 x5 x6 x7
      show start (postbaglaw5_LetterSaid_0.C R c1 c2 c3 c4 c5 c6 c7) (goto (postbaglaw5_LetterSaid_0.C R c1 c2 c3 c4 c5 c6 c7) (retK (postbaglaw5_LetterSaid_0.C R c1 c2 c3 c4 c5 c6 c7) Tryd.f10.results.toList (List.range 0) κ) 10000 f) (retK (postbaglaw5_LetterSaid_0.C R c1 c2 c3 c4 c5 c6 c7) Tryd.f10.results.toList (List.range 0) κ) 10000 (placeOf Tryd.f10 30) (postbaglaw5_LetterSaid_0.s30 x0 x1 x2 x3 x4 x5 x6 x7) = _
      rw [postbaglaw5_LetterSaid_0.c30]
      simp only [ih0, ih1, ih2, ih3]
      rfl
theorem postbaglaw5_LetterSaid_0.g11 (R : Type) (c1 : postbaglaw5_known_0.F R) (c2 : postbaglaw5_atom_0.F R) (c3 : postbaglaw5_quote_0.F R) (c4 : letter_Addresses_0.F R) (c5 : letter_Ids_0.F R) (c6 : postbaglaw5_addresses_oo.F R) (c7 : postbaglaw5_texts_oo.F R) (κ : List SV → Option R) (f : Nat) (x0 : List AV) (x1 : ByteArray) (x2 : ByteArray) (x3 : ByteArray) (x4 : Int) (x5 : List AV) (x6 : List AV) : goto (postbaglaw5_LetterSaid_0.C R c1 c2 c3 c4 c5 c6 c7) (retK (postbaglaw5_LetterSaid_0.C R c1 c2 c3 c4 c5 c6 c7) Tryd.f10.results.toList (List.range 0) κ) 10000 f (placeOf Tryd.f10 11) (postbaglaw5_LetterSaid_0.s11 x0 x1 x2 x3 x4 x5 x6) = postbaglaw5_LetterSaid_0.L11 c1 c2 c3 c4 c5 c6 c7 (fun r0 => κ [.bool r0]) f x0 x1 x2 x3 x4 x5 x6 := (postbaglaw5_LetterSaid_0.gM11 R c1 c2 c3 c4 c5 c6 c7 κ f).1 x0 x1 x2 x3 x4 x5 x6
theorem postbaglaw5_LetterSaid_0.g24 (R : Type) (c1 : postbaglaw5_known_0.F R) (c2 : postbaglaw5_atom_0.F R) (c3 : postbaglaw5_quote_0.F R) (c4 : letter_Addresses_0.F R) (c5 : letter_Ids_0.F R) (c6 : postbaglaw5_addresses_oo.F R) (c7 : postbaglaw5_texts_oo.F R) (κ : List SV → Option R) (f : Nat) (x0 : List AV) (x1 : ByteArray) (x2 : ByteArray) (x3 : ByteArray) (x4 : Int) (x5 : ByteArray) (x6 : List AV) (x7 : List AV) (x8 : ByteArray) (x9 : ByteArray) (x10 : ByteArray) (x11 : Bool) (x12 : Bool) (x13 : Bool) (x14 : ByteArray) (x15 : Bool) (x16 : ByteArray) (x17 : Bool) (x18 : ByteArray) (x19 : Bool) (x20 : ByteArray) : goto (postbaglaw5_LetterSaid_0.C R c1 c2 c3 c4 c5 c6 c7) (retK (postbaglaw5_LetterSaid_0.C R c1 c2 c3 c4 c5 c6 c7) Tryd.f10.results.toList (List.range 0) κ) 10000 f (placeOf Tryd.f10 24) (postbaglaw5_LetterSaid_0.s24 x0 x1 x2 x3 x4 x5 x6 x7 x8 x9 x10 x11 x12 x13 x14 x15 x16 x17 x18 x19 x20) = postbaglaw5_LetterSaid_0.L24 c1 c2 c3 c4 c5 c6 c7 (fun r0 => κ [.bool r0]) f x0 x1 x2 x3 x4 x5 x6 x7 x8 x9 x10 x11 x12 x13 x14 x15 x16 x17 x18 x19 x20 := (postbaglaw5_LetterSaid_0.gM11 R c1 c2 c3 c4 c5 c6 c7 κ f).2.1 x0 x1 x2 x3 x4 x5 x6 x7 x8 x9 x10 x11 x12 x13 x14 x15 x16 x17 x18 x19 x20
theorem postbaglaw5_LetterSaid_0.g28 (R : Type) (c1 : postbaglaw5_known_0.F R) (c2 : postbaglaw5_atom_0.F R) (c3 : postbaglaw5_quote_0.F R) (c4 : letter_Addresses_0.F R) (c5 : letter_Ids_0.F R) (c6 : postbaglaw5_addresses_oo.F R) (c7 : postbaglaw5_texts_oo.F R) (κ : List SV → Option R) (f : Nat) (x0 : List AV) (x1 : ByteArray) (x2 : ByteArray) (x3 : ByteArray) (x4 : Int) (x5 : ByteArray) (x6 : List AV) (x7 : List AV) : goto (postbaglaw5_LetterSaid_0.C R c1 c2 c3 c4 c5 c6 c7) (retK (postbaglaw5_LetterSaid_0.C R c1 c2 c3 c4 c5 c6 c7) Tryd.f10.results.toList (List.range 0) κ) 10000 f (placeOf Tryd.f10 28) (postbaglaw5_LetterSaid_0.s28 x0 x1 x2 x3 x4 x5 x6 x7) = postbaglaw5_LetterSaid_0.L28 c1 c2 c3 c4 c5 c6 c7 (fun r0 => κ [.bool r0]) f x0 x1 x2 x3 x4 x5 x6 x7 := (postbaglaw5_LetterSaid_0.gM11 R c1 c2 c3 c4 c5 c6 c7 κ f).2.2.1 x0 x1 x2 x3 x4 x5 x6 x7
theorem postbaglaw5_LetterSaid_0.g30 (R : Type) (c1 : postbaglaw5_known_0.F R) (c2 : postbaglaw5_atom_0.F R) (c3 : postbaglaw5_quote_0.F R) (c4 : letter_Addresses_0.F R) (c5 : letter_Ids_0.F R) (c6 : postbaglaw5_addresses_oo.F R) (c7 : postbaglaw5_texts_oo.F R) (κ : List SV → Option R) (f : Nat) (x0 : List AV) (x1 : ByteArray) (x2 : ByteArray) (x3 : ByteArray) (x4 : Int) (x5 : ByteArray) (x6 : List AV) (x7 : List AV) : goto (postbaglaw5_LetterSaid_0.C R c1 c2 c3 c4 c5 c6 c7) (retK (postbaglaw5_LetterSaid_0.C R c1 c2 c3 c4 c5 c6 c7) Tryd.f10.results.toList (List.range 0) κ) 10000 f (placeOf Tryd.f10 30) (postbaglaw5_LetterSaid_0.s30 x0 x1 x2 x3 x4 x5 x6 x7) = postbaglaw5_LetterSaid_0.L30 c1 c2 c3 c4 c5 c6 c7 (fun r0 => κ [.bool r0]) f x0 x1 x2 x3 x4 x5 x6 x7 := (postbaglaw5_LetterSaid_0.gM11 R c1 c2 c3 c4 c5 c6 c7 κ f).2.2.2 x0 x1 x2 x3 x4 x5 x6 x7
theorem postbaglaw5_LetterSaid_0.run (R : Type) (κ : List SV → Option R) (a0 : List AV) (a1 : ByteArray) :
    runF (postbaglaw5_LetterSaid_0.C R postbaglaw5_known_0 postbaglaw5_atom_0 postbaglaw5_quote_0 letter_Addresses_0 letter_Ids_0 postbaglaw5_addresses_oo postbaglaw5_texts_oo) Tryd.f10 10000 fuelK [.ro 49 a0 true, .str a1] κ = postbaglaw5_LetterSaid_0 a0 a1 (fun r0 => κ [.bool r0]) := by
  rw [postbaglaw5_LetterSaid_0.c]
  simp only [postbaglaw5_LetterSaid_0.g11 R postbaglaw5_known_0 postbaglaw5_atom_0 postbaglaw5_quote_0 letter_Addresses_0 letter_Ids_0 postbaglaw5_addresses_oo postbaglaw5_texts_oo κ fuelK, postbaglaw5_LetterSaid_0.g24 R postbaglaw5_known_0 postbaglaw5_atom_0 postbaglaw5_quote_0 letter_Addresses_0 letter_Ids_0 postbaglaw5_addresses_oo postbaglaw5_texts_oo κ fuelK, postbaglaw5_LetterSaid_0.g28 R postbaglaw5_known_0 postbaglaw5_atom_0 postbaglaw5_quote_0 letter_Addresses_0 letter_Ids_0 postbaglaw5_addresses_oo postbaglaw5_texts_oo κ fuelK, postbaglaw5_LetterSaid_0.g30 R postbaglaw5_known_0 postbaglaw5_atom_0 postbaglaw5_quote_0 letter_Addresses_0 letter_Ids_0 postbaglaw5_addresses_oo postbaglaw5_texts_oo κ fuelK]
  rfl
theorem postbaglaw5_LetterSaid_0.Γ_does {R : Type} (tab : Tab) (ht : TabOk tab) (g : Nat) : Does (R := R) Tryd.prog (tabTy tyL) tab g ((postbaglaw5_LetterSaid_0.C R postbaglaw5_known_0 postbaglaw5_atom_0 postbaglaw5_quote_0 letter_Addresses_0 letter_Ids_0 postbaglaw5_addresses_oo postbaglaw5_texts_oo).call g) := by
  refine does_of fun xs κ => ?_
  show DoesAt _ _ _ g xs κ (postbaglaw5_LetterSaid_0.Γ postbaglaw5_known_0 postbaglaw5_atom_0 postbaglaw5_quote_0 letter_Addresses_0 letter_Ids_0 postbaglaw5_addresses_oo postbaglaw5_texts_oo g xs κ)
  unfold postbaglaw5_LetterSaid_0.Γ
  split
  · split
    · exact postbaglaw5_known_0.does tab ht κ
    · exact DoesAt.none
  · split
    · exact letter_Addresses_0.does tab ht _ κ
    · exact DoesAt.none
  · split
    · exact postbaglaw5_atom_0.does tab ht _ κ
    · exact DoesAt.none
  · split
    · exact postbaglaw5_quote_0.does tab ht _ κ
    · exact DoesAt.none
  · split
    · exact letter_Ids_0.does tab ht _ κ
    · exact DoesAt.none
  · split
    · exact postbaglaw5_addresses_oo.does tab ht _ _ κ
    · exact DoesAt.none
  · split
    · exact postbaglaw5_texts_oo.does tab ht _ _ κ
    · exact DoesAt.none
  · exact DoesAt.none
theorem postbaglaw5_LetterSaid_0.does {R : Type} (tab : Tab) (ht : TabOk tab) (a0 : List AV) (a1 : ByteArray) (κ : List SV → Option R) : DoesAt Tryd.prog (tabTy tyL) tab 10 [.ro 49 a0 true, .str a1] κ (postbaglaw5_LetterSaid_0 a0 a1 (fun r0 => κ [.bool r0])) := by
  intro r h w vs Rt Ra bs hpre
  exact runF_sound tyOk (postbaglaw5_LetterSaid_0.Γ_does tab ht) (show Tryd.prog.funcs[10]? = some Tryd.f10 by kernel_rfl) (by kernel_rfl) ((postbaglaw5_LetterSaid_0.run R κ a0 a1).trans h) hpre
end Go.Proofs.Ab
