/- The plain functions of program and document say the same (conditions: those of each lemma). -/
import Derived.Test.YtneffefnlogkaaaGreatDoorPlainALimbNestsCardSaid
set_option linter.unusedVariables false
set_option linter.unusedSimpArgs false
set_option maxRecDepth 4000
namespace Go.Proofs.Ab
open Go
variable {R : Type}
theorem PW_len {A B : Type} {S : A -> B -> Prop} : ∀ {l : List A} {l' : List B}, PW S l l' -> l'.length = l.length
 | [], [], _ => rfl
 | _ :: _, _ :: _, h => by simp only [List.length_cons, PW_len h.2]
 | [], _ :: _, h => h.elim
 | _ :: _, [], h => h.elim
theorem PW_get {A B : Type} {S : A -> B -> Prop} : ∀ {l : List A} {l' : List B}, PW S l l' -> ∀ i : Nat, i < l.length -> ∃ x y, l[i]? = some x /\ l'[i]? = some y /\ S x y
 | [], [], _, i, hi => absurd hi (Nat.not_lt_zero i)
 | x :: _, y :: _, h, 0, _ => ⟨x, y, rfl, rfl, h.1⟩
 | _ :: _, _ :: _, h, i + 1, hi => by
  obtain ⟨x, y, e1, e2, e3⟩ := PW_get h.2 i (by simpa using hi)
  exact ⟨x, y, by simpa using e1, by simpa using e2, e3⟩
 | [], _ :: _, h, _, _ => h.elim
 | _ :: _, [], h, _, _ => h.elim
def Rl (N F : Nat) (at' : List UInt8) (v v' : AV) : Prop := ∃ m y j j', v = limbAV y j /\ v' = limbAV (shV F at' y) j' /\ plN N y /\ ShL N F at' m j j'
theorem ShL_len {N F : Nat} {at' : List UInt8} : ∀ {m : Nat} {j j' : LA}, ShL N F at' m j j' -> j'.length = j.length
 | 0, _, _, h => by rw [h.1, h.2]
 | _ + 1, _, _, h => PW_len h
theorem ShL_get {N F : Nat} {at' : List UInt8} : ∀ {m : Nat} {j j' : LA}, ShL N F at' m j j' -> ∀ i : Nat, i < j.length -> Rl N F at' (rdA j (i : Int)) (rdA j' (i : Int))
 | 0, _, _, h, i, hi => by rw [h.1] at hi; exact absurd hi (Nat.not_lt_zero i)
 | m + 1, j, j', h, i, hi => by
  obtain ⟨x, y, e1, e2, y0, k, k', g1, g2, g3, g4⟩ := PW_get h i hi
  rw [rdA_get e1, rdA_get e2]
  exact ⟨m, y0, k, k', g1, g2, g3, g4⟩
theorem rchE_rel {N F : Nat} {at' : List UInt8} {v v' : AV} (h : Rl N F at' v v') (ins : Bool) (m : Int) : (rchE v ins m = none /\ rchE v' ins m = none) ∨ ∃ u u' ok, rchE v ins m = some (u, ok) /\ rchE v' ins m = some (u', ok) /\ Rl N F at' u u' := by
 have hr := h
 obtain ⟨n, y, j, j', rfl, rfl, hp, hs⟩ := h
 have hl := ShL_len hs
 unfold rchE
 rw [show ((limbAV (shV F at' y) j').fld 1).s = ((limbAV y j).fld 1).s from rfl, show ((limbAV (shV F at' y) j').fld 21).l = j' from rfl, show ((limbAV y j).fld 21).l = j from rfl, hl]
 by_cases c : ((limbAV y j).fld 1).s = (⟨#[109, 117, 108, 116, 105, 112, 97, 114, 116]⟩ : BA) /\ (j.length : Int) > 0
 ·rw [if_pos c, if_pos c]
  by_cases c2 : m < 1 ∨ m > (j.length : Int)
  ·rw [if_pos c2, if_pos c2]; exact .inl ⟨rfl, rfl⟩
  ·rw [if_neg c2, if_neg c2]
   have hg := ShL_get hs (m - 1).toNat (by omega)
   rw [show (((m - 1).toNat : Nat) : Int) = m - 1 by omega] at hg
   exact .inr ⟨_, _, _, rfl, rfl, hg⟩
 ·rw [if_neg c, if_neg c]; exact .inr ⟨_, _, _, rfl, rfl, hr⟩
theorem stp_rel {N F : Nat} {at' : List UInt8} (v v' : AV) (ins : Bool) (m : Int) (h : Rl N F at' v v') (_ : 0 <= m) : (stpS v ins m = none /\ stpS v' ins m = none) ∨ ∃ u u', stpS v ins m = some u /\ stpS v' ins m = some u' /\ Rl N F at' u u' := by
 have fin : ∀ {a b : Option (AV × Bool)}, (a = none /\ b = none) ∨ (∃ u u' ok, a = some (u, ok) /\ b = some (u', ok) /\ Rl N F at' u u') -> (okO a = none /\ okO b = none) ∨ ∃ u u', okO a = some u /\ okO b = some u' /\ Rl N F at' u u' := fun h => by
  rcases h with ⟨rfl, rfl⟩ | ⟨u, u', ok, rfl, rfl, hr⟩
  ·exact .inl ⟨rfl, rfl⟩
  ·cases ok with
   | false => exact .inl ⟨rfl, rfl⟩
   | true => exact .inr ⟨u, u', rfl, rfl, hr⟩
 unfold stpS
 by_cases c : m = 0
 ·rw [if_pos c, if_pos c]; exact .inl ⟨rfl, rfl⟩
 ·rw [if_neg c, if_neg c]
  refine fin ?_
  have h0 := h
  obtain ⟨n, y, j, j', rfl, rfl, hp, hs⟩ := h
  have hl := ShL_len hs
  unfold rchS
  rw [show isV (limbAV (shV F at' y) j') = isV (limbAV y j) from rfl, show ((limbAV (shV F at' y) j').fld 21).l = j' from rfl, show ((limbAV y j).fld 21).l = j from rfl, hl]
  by_cases c2 : ins = false /\ isV (limbAV y j) = true /\ (j.length : Int) > 0
  ·rw [if_pos c2, if_pos c2]
   exact rchE_rel (ShL_get hs 0 (by omega)) true m
  ·rw [if_neg c2, if_neg c2]; exact rchE_rel h0 ins m
theorem tak_sh {w v : List UInt8} {F : Nat} (h : InW w v F) (hF : F + v.length <= w.length) {a b : Nat} (h1 : a <= b) (h2 : b <= v.length) : takV (B w) ((a + F : Nat) : Int) ((b + F : Nat) : Int) = takV (B v) (a : Int) (b : Int) := by
 unfold takV
 rw [size_B, size_B, if_neg (by omega), if_neg (by omega), Int.toNat_natCast, Int.toNat_natCast, Int.toNat_natCast, Int.toNat_natCast, extract_B, extract_B, h.slice h2]
theorem secO_rel {w v : List UInt8} {F : Nat} {at' : List UInt8} (h : InW w v F) (hF : F + v.length <= w.length) {u u' o o' : AV} (hu : Rl v.length F at' u u') (ho : Rl v.length F at' o o') (kd : Int) : secO (B w) u' o' kd = secO (B v) u o kd := by
 obtain ⟨n, y, j, j', rfl, rfl, ⟨p1, p2, p3, p4⟩, hs⟩ := hu
 obtain ⟨n2, z, i, i', rfl, rfl, ⟨q1, q2, q3, q4⟩, hs2⟩ := ho
 unfold secO
 rw [show ((limbAV (shV F at' y) j').fld 18).i = ((y.c + F : Nat) : Int) from rfl, show ((limbAV (shV F at' y) j').fld 19).i = ((y.d + F : Nat) : Int) from rfl, show ((limbAV (shV F at' y) j').fld 16).i = ((y.a + F : Nat) : Int) from rfl, show ((limbAV (shV F at' y) j').fld 17).i = ((y.b + F : Nat) : Int) from rfl,
  show ((limbAV (shV F at' z) i').fld 18).i = ((z.c + F : Nat) : Int) from rfl, show ((limbAV (shV F at' z) i').fld 19).i = ((z.d + F : Nat) : Int) from rfl, show ((limbAV (shV F at' z) i').fld 16).i = ((z.a + F : Nat) : Int) from rfl, show ((limbAV (shV F at' z) i').fld 17).i = ((z.b + F : Nat) : Int) from rfl,
  tak_sh h hF (by omega) (by omega), tak_sh h hF (by omega) (by omega), tak_sh h hF (by omega) (by omega), tak_sh h hF (by omega) (by omega)]
 rfl
theorem secS_rel {w v : List UInt8} {F : Nat} {at' : List UInt8} (h : InW w v F) (hF : F + v.length <= w.length) {u u' : AV} (hu : Rl v.length F at' u u') (kd : Int) : secS (B w) u' kd = secS (B v) u kd := by
 have h0 := hu
 obtain ⟨n, y, j, j', rfl, rfl, hp, hs⟩ := hu
 have hl := ShL_len hs
 unfold secS
 rw [secO_rel h hF h0 h0, show isV (limbAV (shV F at' y) j') = isV (limbAV y j) from rfl, show ((limbAV (shV F at' y) j').fld 21).l = j' from rfl, show ((limbAV y j).fld 21).l = j from rfl, hl]
 by_cases c : isV (limbAV y j) = true /\ (j.length : Int) > 0
 ·have hk := ShL_get hs 0 (by omega)
  rw [if_pos c, if_pos c, show ((0 : Nat) : Int) = 0 from rfl] at *
  rw [secO_rel h hF h0 hk]
 ·rw [if_neg c, if_neg c]
def Gate (root M K0 : AV) (c : UInt8) : Prop := ∃ n r, 0 <= n /\ n <= 100000000000 /\ stpS root true n = some M /\ isV M = true /\ (M.fld 21).l = K0 :: r /\ c ≠ 46 /\ ∀ κ : Int -> Option R, lm_number (B [c]) κ = κ n
theorem idx_at (c : UInt8) (hc : c ≠ 46) (q : List UInt8) : Lib.index (c :: 46 :: q) [46] = 1 := by
 rw [index_cons, index_cons]
 have h1 : ([46] : List UInt8).isPrefixOf (c :: 46 :: q) = false := by simp [List.isPrefixOf, Ne.symm hc]
 have h2 : ([46] : List UInt8).isPrefixOf (46 :: q) = true := by simp [List.isPrefixOf]
 rw [h1, h2]; rfl
theorem idx_no (c : UInt8) (hc : c ≠ 46) : Lib.index [c] [46] = -1 := by
 rw [index_cons]
 have h1 : ([46] : List UInt8).isPrefixOf [c] = false := by simp [List.isPrefixOf, Ne.symm hc]
 rw [h1]; rfl
theorem find_at {root M K0 : AV} {c : UInt8} (h : Gate (R := R) root M K0 c) (κ0 : BA -> BA -> BA -> Bool -> BA -> Bool -> BA -> Bool -> BA -> Bool -> BA -> Bool -> BA -> Int -> Int -> Int -> Int -> Int -> Bool -> Option R) (κ1 : BA -> BA -> BA -> LA -> Bool -> BA -> Bool -> BA -> Bool -> BA -> Bool -> BA -> LA -> LA -> Bool -> BA -> Int -> Int -> Int -> Int -> Int -> LA -> Bool -> Option R) : lm_find (root.fld 0).s (root.fld 1).s (root.fld 2).s (root.fld 3).l (root.fld 4).b (root.fld 5).s (root.fld 6).b (root.fld 7).s (root.fld 8).b (root.fld 9).s (root.fld 10).b (root.fld 11).s (root.fld 12).l (root.fld 13).l (root.fld 14).b (root.fld 15).s (root.fld 16).i (root.fld 17).i (root.fld 18).i (root.fld 19).i (root.fld 20).i (root.fld 21).l (B [c]) κ0 κ1 = κ1 (B [c]) (M.fld 1).s (M.fld 2).s (M.fld 3).l (M.fld 4).b (M.fld 5).s (M.fld 6).b (M.fld 7).s (M.fld 8).b (M.fld 9).s (M.fld 10).b (M.fld 11).s (M.fld 12).l (M.fld 13).l (M.fld 14).b (M.fld 15).s (M.fld 16).i (M.fld 17).i (M.fld 18).i (M.fld 19).i (M.fld 20).i (M.fld 21).l true := by
 obtain ⟨n, r, g1, g2, g3, g4, g5, g6, hnum⟩ := h
 obtain ⟨f, hf⟩ : ∃ f, fuelK = f + 1 := ⟨fuelK - 1, by unfold fuelK; omega⟩
 rw [find_L root (B [c]) (fun e => by have := congrArg ByteArray.size e; rw [size_B] at this; cases this) (by rw [size_B]; simp only [List.length_cons, List.length_nil]; omega), hf, L_succ, bl_B, idx_no c g6, cond_dec (by decide), b_v root true (B [c]) g1 g2 hnum, g3]
 rfl
theorem find_in {root M K0 : AV} {c : UInt8} (h : Gate (R := R) root M K0 c) (q : List UInt8) (hq : q.length <= 200000000000000) (f : Nat) (hf : fuelK = f + 1) (κ0 : BA -> BA -> BA -> Bool -> BA -> Bool -> BA -> Bool -> BA -> Bool -> BA -> Bool -> BA -> Int -> Int -> Int -> Int -> Int -> Bool -> Option R) (κ1 : BA -> BA -> BA -> LA -> Bool -> BA -> Bool -> BA -> Bool -> BA -> Bool -> BA -> LA -> LA -> Bool -> BA -> Int -> Int -> Int -> Int -> Int -> LA -> Bool -> Option R) : lm_find (root.fld 0).s (root.fld 1).s (root.fld 2).s (root.fld 3).l (root.fld 4).b (root.fld 5).s (root.fld 6).b (root.fld 7).s (root.fld 8).b (root.fld 9).s (root.fld 10).b (root.fld 11).s (root.fld 12).l (root.fld 13).l (root.fld 14).b (root.fld 15).s (root.fld 16).i (root.fld 17).i (root.fld 18).i (root.fld 19).i (root.fld 20).i (root.fld 21).l (B (c :: 46 :: q)) κ0 κ1 = lm_find.L lm_number lm_reach st_Index κ0 κ1 (B (c :: 46 :: q)) f true (B q) (K0.fld 0).s (K0.fld 1).s (K0.fld 2).s (K0.fld 3).l (K0.fld 4).b (K0.fld 5).s (K0.fld 6).b (K0.fld 7).s (K0.fld 8).b (K0.fld 9).s (K0.fld 10).b (K0.fld 11).s (K0.fld 12).l (K0.fld 13).l (K0.fld 14).b (K0.fld 15).s (K0.fld 16).i (K0.fld 17).i (K0.fld 18).i (K0.fld 19).i (K0.fld 20).i (K0.fld 21).l := by
 obtain ⟨n, r, g1, g2, g3, g4, g5, g6, hnum⟩ := h
 have e1 : (B (c :: 46 :: q)).extract 0 (1 : Int).toNat = B [c] := by rw [extract_B]; rfl
 have e2 : (B (c :: 46 :: q)).extract ((1 : Int).toNat + 1) (B (c :: 46 :: q)).size = B q := by rw [extract_B, size_B, List.take_length]; rfl
 rw [find_L root (B (c :: 46 :: q)) (fun e => by have := congrArg ByteArray.size e; rw [size_B] at this; cases this) (by rw [size_B]; simp only [List.length_cons]; omega), hf, L_succ, bl_B, idx_at c g6, cond_dec' (by decide), chk_dec (by rw [size_B]; simp only [List.length_cons]; omega), e1, e2, b_v root true (B [c]) g1 g2 hnum, g3]
 exact L_msg (B (c :: 46 :: q)) g4 g5 f (B q) (by rw [size_B]; omega) κ0 κ1
theorem nest_sec {w v : List UInt8} {F : Nat} {at' : List UInt8} (hw : InW w v F) (hF : F + v.length <= w.length) (hlen : w.length <= 200000) {x root M K0 : AV} {c : UInt8} (hx : Rl v.length F at' x K0) (hg : Gate (R := R) root M K0 c) (q : List UInt8) (hne : q ≠ []) (hq : q.length <= 200000000000000) (kd : Int) :
  ∃ (r : BA) (b : Bool), (∀ κ : BA -> Bool -> Option R, lm_Section1 (B v) (x.fld 0).s (x.fld 1).s (x.fld 2).s (x.fld 3).l (x.fld 4).b (x.fld 5).s (x.fld 6).b (x.fld 7).s (x.fld 8).b (x.fld 9).s (x.fld 10).b (x.fld 11).s (x.fld 12).l (x.fld 13).l (x.fld 14).b (x.fld 15).s (x.fld 16).i (x.fld 17).i (x.fld 18).i (x.fld 19).i (x.fld 20).i (x.fld 21).l (B q) kd subjN κ = κ r b) /\ (∀ κ : BA -> Bool -> Option R, lm_Section1 (B w) (root.fld 0).s (root.fld 1).s (root.fld 2).s (root.fld 3).l (root.fld 4).b (root.fld 5).s (root.fld 6).b (root.fld 7).s (root.fld 8).b (root.fld 9).s (root.fld 10).b (root.fld 11).s (root.fld 12).l (root.fld 13).l (root.fld 14).b (root.fld 15).s (root.fld 16).i (root.fld 17).i (root.fld 18).i (root.fld 19).i (root.fld 20).i (root.fld 21).l (B (c :: 46 :: q)) kd subjN κ = κ r b) := by
 obtain ⟨f, hf⟩ : ∃ f, fuelK = f + 1 := ⟨fuelK - 1, by unfold fuelK; omega⟩
 have hne1 : B q ≠ ⟨#[]⟩ := fun e => hne (by have := congrArg bl e; rw [bl_B] at this; exact this)
 have hne2 : B (c :: 46 :: q) ≠ ⟨#[]⟩ := fun e => by have := congrArg ByteArray.size e; rw [size_B] at this; cases this
 have hsz := size_B q
 rcases f_two (R := R) (Rl := Rl v.length F at') (fun v v' ins m h hm => stp_rel v v' ins m h hm) (B q) (B (c :: 46 :: q)) (q.length + 1) fuelK f (B q) x K0 true hx (by omega) (by unfold fuelK; omega) (by unfold fuelK at hf; omega) (by omega) with h | ⟨u, u', hu, h⟩
 ·exact ⟨⟨#[]⟩, false, fun κ => sec_no _ x _ kd (fun κ0 κ1 => (find_L x (B q) hne1 (by omega) κ0 κ1).trans (h κ0 κ1).1) κ, fun κ => sec_no _ root _ kd (fun κ0 κ1 => (find_in hg q hq f hf κ0 κ1).trans (h κ0 κ1).2) κ⟩
 ·refine ⟨(secS (B v) u kd).1, (secS (B v) u kd).2, fun κ => sec_v _ (by rw [size_B]; omega) x u _ hne1 kd (fun κ0 κ1 => (find_L x (B q) hne1 (by omega) κ0 κ1).trans (h κ0 κ1).1) κ, fun κ => ?_⟩
  rw [<- secS_rel hw hF hu kd]
  exact sec_v _ (by rw [size_B]; omega) root u' _ hne2 kd (fun κ0 κ1 => (find_in hg q hq f hf κ0 κ1).trans (h κ0 κ1).2) κ
theorem nest_head {w v : List UInt8} {F : Nat} {at' : List UInt8} (hw : InW w v F) (hF : F + v.length <= w.length) {x root M K0 : AV} {c : UInt8} (hx : Rl v.length F at' x K0) (hg : Gate (R := R) root M K0 c) :
  ∃ (r : BA), (∀ κ : BA -> Bool -> Option R, lm_Section (B v) (x.fld 0).s (x.fld 1).s (x.fld 2).s (x.fld 3).l (x.fld 4).b (x.fld 5).s (x.fld 6).b (x.fld 7).s (x.fld 8).b (x.fld 9).s (x.fld 10).b (x.fld 11).s (x.fld 12).l (x.fld 13).l (x.fld 14).b (x.fld 15).s (x.fld 16).i (x.fld 17).i (x.fld 18).i (x.fld 19).i (x.fld 20).i (x.fld 21).l ⟨#[]⟩ 1 κ = κ r true) /\ (∀ κ : BA -> Bool -> Option R, lm_Section (B w) (root.fld 0).s (root.fld 1).s (root.fld 2).s (root.fld 3).l (root.fld 4).b (root.fld 5).s (root.fld 6).b (root.fld 7).s (root.fld 8).b (root.fld 9).s (root.fld 10).b (root.fld 11).s (root.fld 12).l (root.fld 13).l (root.fld 14).b (root.fld 15).s (root.fld 16).i (root.fld 17).i (root.fld 18).i (root.fld 19).i (root.fld 20).i (root.fld 21).l (B [c]) 1 κ = κ r true) := by
 have hne : B [c] ≠ ⟨#[]⟩ := fun e => by have := congrArg ByteArray.size e; rw [size_B] at this; cases this
 have hfa := fun κ0 κ1 => find_at hg κ0 κ1
 obtain ⟨m, y, j, j', rfl, rfl, ⟨p1, p2, p3, p4⟩, hs⟩ := hx
 obtain ⟨n, r, g1, g2, g3, g4, g5, g6, hnum⟩ := hg
 have ht : takV (B v) (y.a : Int) (y.b : Int) = ((B v).extract y.a y.b, true) := by
  unfold takV
  rw [size_B, if_neg (by omega)]; rfl
 refine ⟨(B v).extract y.a y.b, fun κ => ?_, fun κ => ?_⟩
 ·refine (head_v (B v) (limbAV y j) κ).trans ?_
  rw [show ((limbAV y j).fld 16).i = (y.a : Int) from rfl, show ((limbAV y j).fld 17).i = (y.b : Int) from rfl, ht]
 ·refine (headM_v (B w) root M _ r g4 g5 (B [c]) hne hfa κ).trans ?_
  rw [show ((limbAV (shV F at' y) j').fld 16).i = ((y.a + F : Nat) : Int) from rfl, show ((limbAV (shV F at' y) j').fld 17).i = ((y.b + F : Nat) : Int) from rfl, tak_sh hw hF p1 (by omega), ht]
def nH1 : List UInt8 := [67, 111, 110, 116, 101, 110, 116, 45, 84, 121, 112, 101, 58, 32, 109, 101, 115, 115, 97, 103, 101, 47, 114, 102, 99, 56, 50, 50, 13, 10, 13, 10]
def nh2 : List UInt8 := [67, 111, 110, 116, 101, 110, 116, 45, 84, 121, 112, 101, 58, 32, 109, 117, 108, 116, 105, 112, 97, 114, 116, 47, 109, 105, 120, 101, 100, 59, 32, 98, 111, 117, 110, 100, 97, 114, 121, 61, 122, 113, 122, 113, 122, 113, 13, 10, 13, 10]
def nh3 : List UInt8 := [67, 111, 110, 116, 101, 110, 116, 45, 84, 121, 112, 101, 58, 32, 77, 101, 115, 115, 97, 103, 101, 47, 82, 70, 67, 56, 50, 50, 13, 10, 13, 10]
def zqL : List UInt8 := [122, 113, 122, 113, 122, 113]
def crT : List UInt8 := [13, 10, 116, 101, 120, 116]
theorem hdS_1 (v : List UInt8) : hdS (nH1 ++ v) = nH1 := by
 unfold hdS splitG
 rw [bl_B, show hdG true (nH1 ++ v) = some 32 from rfl]
 rfl
theorem hdS_2 (v : List UInt8) : hdS (nh2 ++ v) = nh2 := by
 unfold hdS splitG
 rw [bl_B, show hdG true (nh2 ++ v) = some 50 from rfl]
 rfl
theorem hdS_3 (v : List UInt8) : hdS (nh3 ++ v) = nh3 := by
 unfold hdS splitG
 rw [bl_B, show hdG true (nh3 ++ v) = some 32 from rfl]
 rfl
theorem hdS_t : hdS crT = [13, 10] := by
 unfold hdS splitG
 rw [bl_B, show hdG true crT = some 2 from rfl]
 rfl
theorem lim_eq (s : List UInt8) (hs : s.length <= 200000) (κ : BA -> BA -> BA -> LA -> Bool -> BA -> Bool -> BA -> Bool -> BA -> Bool -> BA -> LA -> LA -> Bool -> BA -> Int -> Int -> Int -> Int -> Int -> BA -> Int -> Option R) :
  lm_tree_limb (B s) 0 0 (s.length : Int) false κ = appH (fun a b c d e f g h i j k l m n o p q r s' t u => κ a b c d e f g h i j k l m n o p q r s' t u (B s) 0) (B []) (hdV (hdS s) false) (0 : Nat) ((0 + (hdS s).length : Nat) : Int) ((0 + (hdS s).length : Nat) : Int) ((0 + s.length : Nat) : Int) 0 := by
 have := lLimb (R := R) (w := s) (s := s) (F := 0) (by rw [Nat.zero_add, List.take_length]; rfl) (by omega) hs 0 false κ
 rw [Nat.zero_add] at this
 refine Eq.trans ?_ (this.trans ?_)
 ·rfl
 ·rw [Nat.zero_add, Nat.zero_add]
theorem say_1 : lm_tree_limb (R := Bool) (B nH1) 0 0 (nH1.length : Int) false (fun _ ty sub _ _ _ _ _ c0 _ _ _ _ _ _ _ _ _ _ _ _ _ _ => some (decide (ty = B mimeM) && decide (sub = B mimeR) && !c0)) = some true := by kernel_rfl
theorem say_2 : lm_tree_limb (R := Bool) (B nh2) 0 0 (nh2.length : Int) false (fun _ ty sub ps _ _ _ _ _ _ _ _ _ _ _ _ _ _ _ _ _ _ _ => some (decide (ty = B mlt) && !decide (sub = B digT) && decide (ps.length = 1) && decide (((rdA ps 0).fld 0).s = B bndN) && decide (((rdA ps 0).fld 1).s = B zqL))) = some true := by kernel_rfl
theorem say_3 : lm_tree_limb (R := Bool) (B nh3) 0 0 (nh3.length : Int) false (fun _ ty sub _ _ _ _ _ c0 _ _ _ _ _ _ _ _ _ _ _ _ _ _ => some (decide (ty = B mimeM) && decide (sub = B mimeR) && !c0)) = some true := by kernel_rfl
theorem say_t : lm_tree_limb (R := Bool) (B crT) 0 0 (crT.length : Int) false (fun _ ty sub _ _ _ _ _ c0 _ _ _ _ _ _ _ _ _ _ _ _ _ _ => some (decide (ty = B mimeT))) = some true := by kernel_rfl
theorem msg_of {h s : List UInt8} (hs : s.length <= 200000) (hh : hdS s = h) (e : lm_tree_limb (R := Bool) (B s) 0 0 (s.length : Int) false (fun _ ty sub _ _ _ _ _ c0 _ _ _ _ _ _ _ _ _ _ _ _ _ _ => some (decide (ty = B mimeM) && decide (sub = B mimeR) && !c0)) = some true) : (hdV h false).ty = mimeM /\ (hdV h false).sub = mimeR /\ (hdV h false).c1 = [] := by
 rw [lim_eq s hs, hh] at e
 unfold appH at e
 have e := Option.some.inj e
 simp only [Bool.and_eq_true, decide_eq_true_eq, B_inj, Bool.not_eq_true'] at e
 obtain ⟨⟨e1, e2⟩, e3⟩ := e
 refine ⟨e1, e2, ?_⟩
 unfold emp at e3
 simpa using e3
theorem say1 : (hdV nH1 false).ty = mimeM /\ (hdV nH1 false).sub = mimeR /\ (hdV nH1 false).c1 = [] := msg_of (by decide) (by have := hdS_1 []; rwa [List.append_nil] at this) say_1
theorem say3 : (hdV nh3 false).ty = mimeM /\ (hdV nh3 false).sub = mimeR /\ (hdV nh3 false).c1 = [] := msg_of (by decide) (by have := hdS_3 []; rwa [List.append_nil] at this) say_3
theorem say2 : (hdV nh2 false).ty = mlt /\ (hdV nh2 false).sub ≠ digT /\ valL (hdV nh2 false).ps = zqL := by
 have e := say_2
 rw [lim_eq nh2 (by decide), show hdS nh2 = nh2 by have := hdS_2 []; rwa [List.append_nil] at this] at e
 unfold appH at e
 have e := Option.some.inj e
 simp only [Bool.and_eq_true, decide_eq_true_eq, B_inj, Bool.not_eq_true', decide_eq_false_iff_not] at e
 obtain ⟨⟨⟨⟨e1, e2⟩, e3⟩, e4⟩, e5⟩ := e
 refine ⟨e1, e2, ?_⟩
 generalize (hdV nh2 false).ps = ps at e3 e4 e5
 match ps, e3, e4, e5 with
 | [p], _, e4, e5 =>
  have h4 : p.1 = bndN := B_inj.1 e4
  have h5 : p.2 = zqL := B_inj.1 e5
  rw [valL, if_pos h4, h5]
theorem sayT : (hdV [13, 10] false).ty = mimeT := by
 have e := say_t
 rw [lim_eq crT (by decide), hdS_t] at e
 unfold appH at e
 have e := Option.some.inj e
 simpa only [decide_eq_true_eq, B_inj] using e
def noQ (v : List UInt8) : Prop := ∀ a t, v ≠ a ++ (zqL ++ t)
def endZ : List UInt8 := [45, 45, 122, 113, 122, 113, 122, 113, 45, 45]
theorem lne_app_some : ∀ {v u z : List UInt8}, (lne v).2 = some u -> lne (v ++ z) = ((lne v).1, some (u ++ z))
 | [], u, z, h => by cases h
 | c :: t, u, z, h => by
  by_cases e : c = 13 /\ t.head? = some 10
  ·obtain ⟨rfl, e2⟩ := e
   rw [hd10 e2] at h ⊢
   rw [lne_cr] at h ⊢
   cases h
   rw [List.cons_append, List.cons_append, lne_cr]
  ·rw [lne_ot e] at h ⊢
   have e' : ¬ (c = 13 /\ (t ++ z).head? = some 10) := fun x => by
    cases t with
    | nil => cases h
    | cons d t => exact e ⟨x.1, x.2⟩
   rw [List.cons_append, lne_ot e', lne_app_some h]
theorem lne_app_none : ∀ {v e : List UInt8}, (lne v).2 = none -> lne (v ++ 13 :: 10 :: e) = (v, some e)
 | [], e, _ => lne_cr e
 | c :: t, e, h => by
  by_cases x : c = 13 /\ t.head? = some 10
  ·obtain ⟨rfl, e2⟩ := x
   rw [hd10 e2, lne_cr] at h; cases h
  ·rw [lne_ot x] at h
   have e' : ¬ (c = 13 /\ (t ++ 13 :: 10 :: e).head? = some 10) := fun y => by
    cases t with
    | nil => have := y.2; simp at this
    | cons d t => exact x ⟨y.1, y.2⟩
   rw [List.cons_append, lne_ot e', lne_app_none h]
theorem lne_noCR : ∀ {l : List UInt8} (u : List UInt8), (∀ c ∈ l, c ≠ 13) -> lne (l ++ 13 :: 10 :: u) = (l, some u) := fun {l} u h => by
 refine lne_app_none ?_
 induction l with
 | nil => rfl
 | cons c t ih =>
  rw [lne_ot (fun e => h c (by simp) e.1)]
  exact ih fun d hd => h d (by simp [hd])
theorem ptG_line {b s l u : List UInt8} {frm : Option Nat} {r : List UInt8} (h : lne r = (l, some u)) : ptG b s frm r = match bdL b l with
  | some last => flP frm (max (frm.getD 0) (pn s r - 2)) ++ (if last then [] else ptG b s (some (pn s u)) u)
  | none => ptG b s frm u := by
 cases r with
 | nil => cases h
 | cons c t =>
  have hx : lnx (c :: t) = u := by unfold lnx; rw [h]; rfl
  rw [ptG, h, hx]; rfl
theorem bd_none {l : List UInt8} (h : noQ l) : bdL zqL l = none := by
 unfold bdL
 split
 ·rename_i hp
  obtain ⟨t, ht⟩ := List.isPrefixOf_iff_prefix.1 hp
  exact absurd ht.symm (by have := h [45, 45] t; simpa using this)
 ·rfl
theorem noQ.left {a b : List UInt8} (h : noQ (a ++ b)) : noQ a := fun x t e => h x (t ++ b) (by rw [e]; simp)
theorem noQ.right {a b : List UInt8} (h : noQ (a ++ b)) : noQ b := fun x t e => h (a ++ x) t (by rw [e]; simp)
theorem pt_end (s : List UInt8) (k : Nat) (hs : k + 12 <= s.length) : ptG zqL s (some k) endZ = [(k, s.length - 12)] := by
 have hl : lne endZ = (endZ, none) := by decide
 have hb : bdL zqL endZ = some true := by decide
 have hp : pn s endZ = s.length - 10 := rfl
 show ptG zqL s (some k) (45 :: [45, 122, 113, 122, 113, 122, 113, 45, 45]) = _
 rw [ptG, show (45 :: [45, 122, 113, 122, 113, 122, 113, 45, 45] : List UInt8) = endZ from rfl, hl, hb]
 simp only [if_true, List.append_nil, Option.getD_some, hp]
 show [(k, max k (s.length - 10 - 2))] = _
 congr 2; omega
theorem pt_tail (s : List UInt8) (k : Nat) (hs : k + 12 <= s.length) : ∀ (n : Nat) (v : List UInt8), v.length <= n -> noQ v -> ptG zqL s (some k) (v ++ 13 :: 10 :: endZ) = [(k, s.length - 12)]
 | n, v, hn, hq => by
  cases h : (lne v).2 with
  | none =>
   rw [ptG_line (lne_app_none h), bd_none hq]
   exact pt_end s k hs
  | some u =>
   have e := lne_some h
   have hq' : noQ ((lne v).1 ++ 13 :: 10 :: u) := by rw [<- e]; exact hq
   rw [ptG_line (lne_app_some h), bd_none hq'.left]
   cases n with
   | zero => rw [List.length_eq_zero_iff.1 (Nat.le_zero.1 hn)] at h; cases h
   | succ n =>
    have := congrArg List.length e
    simp only [List.length_append, List.length_cons] at this
    have hq2 := hq'
    rw [show (lne v).1 ++ 13 :: 10 :: u = ((lne v).1 ++ [13, 10]) ++ u by simp] at hq2
    exact pt_tail s k hs n u (by omega) hq2.right
def bnd1 : List UInt8 := [45, 45, 122, 113, 122, 113, 122, 113]
def nP2 : List UInt8 := bnd1 ++ 13 :: 10 :: ([] ++ 13 :: 10 :: ([116, 101, 120, 116] ++ 13 :: 10 :: (bnd1 ++ [13, 10])))
def nP3 : List UInt8 := [67, 111, 110, 116, 101, 110, 116, 45, 84, 121, 112, 101, 58, 32, 77, 101, 115, 115, 97, 103, 101, 47, 82, 70, 67, 56, 50, 50]
theorem pt_all (v : List UInt8) (hq : noQ v) : ptG zqL (nP2 ++ (nh3 ++ (v ++ 13 :: 10 :: endZ))) none (nP2 ++ (nh3 ++ (v ++ 13 :: 10 :: endZ))) = [(10, 16), (28, 60 + v.length)] := by
 generalize hS : nP2 ++ (nh3 ++ (v ++ 13 :: 10 :: endZ)) = s
 have hlen : s.length = v.length + 72 := by rw [<- hS]; simp [nP2, nh3, bnd1, endZ]
 have e5 : nh3 ++ (v ++ 13 :: 10 :: endZ) = nP3 ++ 13 :: 10 :: ([] ++ 13 :: 10 :: (v ++ 13 :: 10 :: endZ)) := rfl
 have e1 : s = bnd1 ++ 13 :: 10 :: ([] ++ 13 :: 10 :: ([116, 101, 120, 116] ++ 13 :: 10 :: (bnd1 ++ 13 :: 10 :: (nP3 ++ 13 :: 10 :: ([] ++ 13 :: 10 :: (v ++ 13 :: 10 :: endZ)))))) := by rw [<- hS]; rfl
 have hb : bdL zqL bnd1 = some false := by decide
 have hx : ∀ l : List UInt8, noQ l -> bdL zqL l = none := fun l h => bd_none h
 have n0 : bdL zqL [] = none := by decide
 have n1 : bdL zqL [116, 101, 120, 116] = none := by decide
 have n2 : bdL zqL nP3 = none := by decide
 have s1 : ptG zqL s none s = ptG zqL s none (bnd1 ++ 13 :: 10 :: ([] ++ 13 :: 10 :: ([116, 101, 120, 116] ++ 13 :: 10 :: (bnd1 ++ 13 :: 10 :: (nP3 ++ 13 :: 10 :: ([] ++ 13 :: 10 :: (v ++ 13 :: 10 :: endZ))))))) := congrArg _ e1
 rw [s1, ptG_line (lne_noCR _ (by decide)), hb]
 simp only [flP, Bool.false_eq_true, if_false, List.nil_append]
 rw [ptG_line (r := 13 :: 10 :: _) (lne_noCR (l := []) _ (by decide)), n0]
 simp only
 rw [ptG_line (lne_noCR _ (by decide)), n1]
 simp only
 rw [ptG_line (lne_noCR _ (by decide)), hb]
 simp only [flP, Bool.false_eq_true, if_false, Option.getD_some]
 rw [ptG_line (lne_noCR _ (by decide)), n2]
 simp only
 rw [ptG_line (r := 13 :: 10 :: _) (lne_noCR (l := []) _ (by decide)), n0]
 simp only
 have hp1 : pn s (13 :: 10 :: ([116, 101, 120, 116] ++ 13 :: 10 :: (bnd1 ++ 13 :: 10 :: (nP3 ++ 13 :: 10 :: (13 :: 10 :: (v ++ 13 :: 10 :: endZ)))))) = 10 := by unfold pn; rw [hlen]; simp [nP3, bnd1, endZ]
 have hp2 : pn s (bnd1 ++ 13 :: 10 :: (nP3 ++ 13 :: 10 :: (13 :: 10 :: (v ++ 13 :: 10 :: endZ)))) = 18 := by unfold pn; rw [hlen]; simp [nP3, bnd1, endZ]
 have hp3 : pn s (nP3 ++ 13 :: 10 :: (13 :: 10 :: (v ++ 13 :: 10 :: endZ))) = 28 := by unfold pn; rw [hlen]; simp [nP3, endZ]
 rw [hp1, hp2, hp3, pt_tail s 28 (by omega) v.length v (Nat.le_refl _) hq, hlen]
 show [(10, max 10 (18 - 2)), (28, v.length + 72 - 12)] = _
 congr 3; omega
theorem isV_msg (y : LV) (k : LA) : isV (limbAV y k) = msgT y := by
 have hm : ∀ a b : List UInt8, decide (B a = B b) = decide (a = b) := fun a b => decide_eq_decide.2 B_inj
 unfold isV msgT
 rw [show ((limbAV y k).fld 1).s = B y.v.ty from rfl, show ((limbAV y k).fld 2).s = B y.v.sub from rfl, show (⟨#[109, 101, 115, 115, 97, 103, 101]⟩ : BA) = B mimeM from rfl, show (⟨#[114, 102, 99, 56, 50, 50]⟩ : BA) = B mimeR from rfl, hm, hm]
 cases decide (y.v.ty = mimeM) <;> rfl
theorem num_1 (κ : Int -> Option R) : lm_number (B [49]) κ = κ 1 := by kernel_rfl
theorem num_2 (κ : Int -> Option R) : lm_number (B [50]) κ = κ 2 := by kernel_rfl
theorem fin_v (w : List UInt8) (x : LV) : (finG w x false).v = x.v := by
 show (if msgT x then { x with e := endsL (bodyL w x) } else x).v = x.v
 split <;> rfl
theorem fin_m (w : List UInt8) (x : LV) : msgT (finG w x false) = msgT x := by unfold msgT; rw [fin_v]
theorem cod_nil {x : LV} (h : x.v.c1 = []) : codOK x = true := by unfold codOK; rw [h]; rfl
theorem msg_t {x : LV} (h : x.v.ty = mimeM) (h2 : x.v.sub = mimeR) : msgT x = true := by unfold msgT; rw [h, h2]; rfl
theorem tree_nb (v : List UInt8) : ∃ y, treeG (nH1 ++ v) = (y, [limbAV (opG (nH1 ++ v) 5 (shV 32 [49] (kidL v (0, v.length) [] false)) 1 true 1).1 (opG (nH1 ++ v) 5 (shV 32 [49] (kidL v (0, v.length) [] false)) 1 true 1).2.1], (opG (nH1 ++ v) 5 (shV 32 [49] (kidL v (0, v.length) [] false)) 1 true 1).2.2) /\ msgT y = true /\ y.v.ty ≠ mlt /\ y.c = 32 /\ y.d = 32 + v.length := by
 generalize hw : nH1 ++ v = w
 have hlen : w.length = 32 + v.length := by rw [<- hw, List.length_append]; rfl
 have hin : InW w v 32 := ⟨[], by rw [<- hw, List.append_nil]; rfl⟩
 generalize hx : kidL w (0, w.length) [] false = x0
 have h0 : hdS (sliL w (0, w.length)) = nH1 := by rw [sli_all, <- hw, hdS_1]
 have hv : x0.v = hdV nH1 false := by rw [<- hx]; show hdV (hdS (sliL w (0, w.length))) false = _; rw [h0]
 have hc : x0.c = 32 := by rw [<- hx]; show 0 + (hdS (sliL w (0, w.length))).length = 32; rw [h0]; rfl
 have hd : x0.d = w.length := by rw [<- hx]; rfl
 have hp : x0.p = [] := by rw [<- hx]; rfl
 have hm : msgT x0 = true := msg_t (by rw [hv]; exact say1.1) (by rw [hv]; exact say1.2.1)
 have hpi : piG w x0 = [(32, w.length)] := by unfold piG; rw [if_pos hm, if_pos (cod_nil (by rw [hv]; exact say1.2.2)), hc, hd]
 have hdg : dgG x0 = false := by unfold dgG; rw [hv, say1.1]; rfl
 have hpl : plcG x0 true (0 + 1) = [49] := by unfold plcG; rw [if_pos hm, hp]; rfl
 have hk : kidL w (32, w.length) (plcG x0 true (0 + 1)) (dgG x0) = shV 32 [49] (kidL v (0, v.length) [] false) := by
  rw [hpl, hdg]
  have := kid_sh hin [49] (q := (0, v.length)) (Nat.le_refl _) [] false
  rw [<- this, hlen, Nat.add_comm 32 v.length]; rfl
 unfold treeG
 rw [hx, opG, if_pos ⟨by omega, by rw [hpi]; show 0 + 1 <= 16; omega⟩, hpi, kidsG, kidsG, hk, hm]
 refine ⟨finG w x0 false, rfl, by rw [fin_m]; exact hm, ?_, ?_, ?_⟩
 ·rw [fin_v, hv, say1.1]; decide
 ·rw [(fin_pl w x0 false).2.2.1, hc]
 ·rw [(fin_pl w x0 false).2.2.2, hd, hlen]
def nW (v : List UInt8) : List UInt8 := nh2 ++ (nP2 ++ (nh3 ++ (v ++ 13 :: 10 :: endZ)))
theorem nW_len (v : List UInt8) : (nW v).length = v.length + 122 := by unfold nW; simp [nh2, nP2, nh3, bnd1, endZ]
theorem nW_in (v : List UInt8) : InW (nW v) v 110 := ⟨13 :: 10 :: endZ, rfl⟩
theorem nW_q1 (v : List UInt8) : sliL (nW v) (60, 66) = crT := rfl
theorem nW_q2 (v : List UInt8) : sliL (nW v) (78, 110 + v.length) = nh3 ++ v := by
 have h : InW (nW v) (nh3 ++ v) 78 := ⟨13 :: 10 :: endZ, rfl⟩
 have := h.sli (q := (0, (nh3 ++ v).length)) (Nat.le_refl _)
 rw [sli_all] at this
 rw [<- this]
 show sliL (nW v) (78, 110 + v.length) = sliL (nW v) (0 + 78, (nh3 ++ v).length + 78)
 rw [List.length_append, show nh3.length = 32 from rfl]
 congr 2; omega
theorem tree_b (v : List UInt8) (hq : noQ v) : ∃ y u M, treeG (nW v) = (y, [u, limbAV M [limbAV (opG (nW v) 4 (shV 110 [50] (kidL v (0, v.length) [] false)) 2 true 3).1 (opG (nW v) 4 (shV 110 [50] (kidL v (0, v.length) [] false)) 2 true 3).2.1]], (opG (nW v) 4 (shV 110 [50] (kidL v (0, v.length) [] false)) 2 true 3).2.2) /\ y.v.ty = mlt /\ msgT M = true /\ M.c = 110 /\ M.d = 110 + v.length := by
 have hlen := nW_len v
 have hin := nW_in v
 have hq1 := nW_q1 v
 have hq2 := nW_q2 v
 have hs0 : hdS (nW v) = nh2 := hdS_2 _
 have hbd : (nW v).drop 50 = nP2 ++ (nh3 ++ (v ++ 13 :: 10 :: endZ)) := rfl
 have hpt := pt_all v hq
 rw [<- hbd] at hpt
 generalize nW v = w at *
 generalize hx : kidL w (0, w.length) [] false = x0
 have h0 : hdS (sliL w (0, w.length)) = nh2 := by rw [sli_all, hs0]
 have hv : x0.v = hdV nh2 false := by rw [<- hx]; show hdV (hdS (sliL w (0, w.length))) false = _; rw [h0]
 have hc : x0.c = 50 := by rw [<- hx]; show 0 + (hdS (sliL w (0, w.length))).length = 50; rw [h0]; rfl
 have hd : x0.d = w.length := by rw [<- hx]; rfl
 have hp : x0.p = [] := by rw [<- hx]; rfl
 have hm : msgT x0 = false := by unfold msgT; rw [hv, say2.1]; rfl
 have hbody : bodyL w x0 = w.drop 50 := by unfold bodyL; rw [hd, hc, List.take_length]
 have hpi : piG w x0 = [(60, 66), (78, 110 + v.length)] := by
  unfold piG
  rw [hm, if_neg (by decide), if_pos ⟨by rw [hv]; exact say2.1, by rw [hv, say2.2.2]; decide, by rw [hv, say2.2.2]; decide⟩, hv, say2.2.2, hbody, hpt, hc]
  show [(50 + 10, 50 + 16), (50 + 28, 50 + (60 + v.length))] = _
  congr 3; omega
 have hdg : dgG x0 = false := by unfold dgG; rw [show decide (x0.v.sub = digT) = false from decide_eq_false (by rw [hv]; exact say2.2.1), Bool.and_false]
 have hpl : plcG x0 true (0 + 1 + 1) = [50] := by unfold plcG; rw [hm, hp]; rfl
 generalize hx1 : kidL w (60, 66) (plcG x0 true (0 + 1)) (dgG x0) = x1
 have hv1 : x1.v = hdV [13, 10] false := by rw [<- hx1]; show hdV (hdS (sliL w (60, 66))) (dgG x0) = _; rw [hq1, hdS_t, hdg]
 have hm1 : msgT x1 = false := by unfold msgT; rw [hv1, sayT]; rfl
 have hp1 : piG w x1 = [] := by unfold piG; rw [hm1, if_neg (by decide), if_neg (fun e => by have := e.1; rw [hv1, sayT] at this; revert this; decide)]
 have hcn : (opG w 5 x1 (0 + 1) (msgT x0) (0 + 2)).2.2 = 2 := by rw [opG, if_pos ⟨by omega, by rw [hp1]; decide⟩, hp1, kidsG]; rfl
 generalize hx2 : kidL w (78, 110 + v.length) [50] false = x2
 have h2 : hdS (sliL w (78, 110 + v.length)) = nh3 := by rw [hq2, hdS_3]
 have hv2 : x2.v = hdV nh3 false := by rw [<- hx2]; show hdV (hdS (sliL w (78, 110 + v.length))) false = _; rw [h2]
 have hc2 : x2.c = 110 := by rw [<- hx2]; show 78 + (hdS (sliL w (78, 110 + v.length))).length = 110; rw [h2]; rfl
 have hd2 : x2.d = 110 + v.length := by rw [<- hx2]; rfl
 have hpp2 : x2.p = [50] := by rw [<- hx2]; rfl
 have hm2 : msgT x2 = true := msg_t (by rw [hv2]; exact say3.1) (by rw [hv2]; exact say3.2.1)
 have hpi2 : piG w x2 = [(110, 110 + v.length)] := by unfold piG; rw [if_pos hm2, if_pos (cod_nil (by rw [hv2]; exact say3.2.2)), hc2, hd2]
 have hdg2 : dgG x2 = false := by unfold dgG; rw [hv2, say3.1]; rfl
 have hpl2 : plcG x2 false (0 + 1) = [50] := by unfold plcG; rw [hm2, hpp2]; rfl
 have hk : kidL w (110, 110 + v.length) (plcG x2 false (0 + 1)) (dgG x2) = shV 110 [50] (kidL v (0, v.length) [] false) := by
  rw [hpl2, hdg2]
  have := kid_sh hin [50] (q := (0, v.length)) (Nat.le_refl _) [] false
  rw [<- this, Nat.add_comm 110 v.length]; rfl
 have hop2 : opG w 5 x2 1 false 2 = (finG w x2 false, [limbAV (opG w 4 (shV 110 [50] (kidL v (0, v.length) [] false)) 2 true 3).1 (opG w 4 (shV 110 [50] (kidL v (0, v.length) [] false)) 2 true 3).2.1], (opG w 4 (shV 110 [50] (kidL v (0, v.length) [] false)) 2 true 3).2.2) := by
  rw [opG, if_pos ⟨by omega, by rw [hpi2]; show 2 + 1 <= 16; omega⟩, hpi2, kidsG, kidsG, hk, hm2]
  rfl
 unfold treeG
 rw [hx, opG, if_pos ⟨by omega, by rw [hpi]; show 0 + 2 <= 16; omega⟩, hpi]
 rw [kidsG, kidsG, kidsG, hx1]
 rw [show [(60, 66), (78, 110 + v.length)].length = 2 from rfl, hcn, hpl, hdg, hx2, hm]
 rw [show opG w 5 x2 (0 + 1) false 2 = opG w 5 x2 1 false 2 from rfl, hop2]
 refine ⟨finG w x0 false, _, finG w x2 false, rfl, ?_, ?_, ?_, ?_⟩
 ·rw [fin_v, hv, say2.1]
 ·rw [fin_m, hm2]
 ·rw [(fin_pl w x2 false).2.2.1, hc2]
 ·rw [(fin_pl w x2 false).2.2.2, hd2]
def bq : Nat -> Nat
 | 0 => 3
 | n + 1 => 3 + 16 * bq n
def smallS (l : LA) : Prop := ∀ v ∈ l, v.s.size <= 1000
theorem smallS.app {a b : LA} (h : smallS a) (h' : smallS b) : smallS (a ++ b) := fun v hv => (List.mem_append.1 hv).elim (h v) (h' v)
theorem pls_loop (c1 : w6_places.F R) {M : Nat} (y : LV) (ks : LA) (hks : ks.length <= 16) (hM : M <= 1000000000)
  (hrec : ∀ v ∈ ks, ∃ y0 k0, v = limbAV y0 k0 /\ ∃ l : LA, l.length <= M /\ smallS l /\ ∀ κ : LA -> Option R, c1 (B y0.p) (B y0.v.ty) (B y0.v.sub) (y0.v.ps.map pmAV) y0.v.i0 (B y0.v.i1) y0.v.a0 (B y0.v.a1) (emp y0.v.c1) (B y0.v.c1) (emp y0.v.p1) (B y0.v.p1) (y0.v.pp.map pmAV) (rowsS y0.v.lg) y0.v.w0 (B y0.v.w1) (y0.a : Int) (y0.b : Int) (y0.c : Int) (y0.d : Int) (y0.e : Int) k0 κ = κ l) :
  ∀ (r d acc : LA), d ++ r = ks -> smallS acc -> acc.length <= 3 + d.length * M -> ∃ l : LA, l.length <= acc.length + r.length * M /\ smallS l /\ ∀ (κ : LA -> Option R) (f : Nat), r.length < f -> w6_places.L5 c1 κ f (d.length : Int) (B y.p) (B y.v.ty) (B y.v.sub) (y.v.ps.map pmAV) y.v.i0 (B y.v.i1) y.v.a0 (B y.v.a1) (emp y.v.c1) (B y.v.c1) (emp y.v.p1) (B y.v.p1) (y.v.pp.map pmAV) (rowsS y.v.lg) y.v.w0 (B y.v.w1) (y.a : Int) (y.b : Int) (y.c : Int) (y.d : Int) (y.e : Int) ks acc = κ l
 | [], d, acc, hd, hs, _ => by
  refine ⟨acc, by simp, hs, fun κ f hf => ?_⟩
  obtain ⟨g, rfl⟩ : ∃ g, f = g + 1 := ⟨f - 1, by simp only [List.length_nil] at hf; omega⟩
  rw [List.append_nil] at hd
  rw [w6_places.L5, w6_places.t5, hd, cond_dec' (by omega)]
 | v :: r, d, acc, hd, hs, ha => by
  have hlen : d.length + r.length + 1 = ks.length := by rw [<- hd]; simp; omega
  obtain ⟨y0, k0, rfl, l1, g1, g2, g3⟩ := hrec v (by rw [<- hd]; simp)
  have hdm : d.length * M <= 16 * M := Nat.mul_le_mul_right _ (by omega)
  obtain ⟨l2, e1, e2, e3⟩ := pls_loop c1 y ks hks hM hrec r (d ++ [limbAV y0 k0]) (acc ++ l1) (by rw [List.append_assoc]; exact hd) (hs.app g2) (by simp only [List.length_append, List.length_cons, List.length_nil, Nat.succ_mul, Nat.zero_add]; omega)
  refine ⟨l2, by simp only [List.length_append, List.length_cons, Nat.succ_mul] at e1 ⊢; omega, e2, fun κ f hf => ?_⟩
  simp only [List.length_cons] at hf
  obtain ⟨g, rfl⟩ : ∃ g, f = g + 1 := ⟨f - 1, by omega⟩
  have hget : rdA ks (d.length : Int) = limbAV y0 k0 := rdA_get (by rw [<- hd]; simp)
  rw [w6_places.L5, w6_places.t5, cond_dec (by omega), chk_and, chk_dec (by omega), chk_dec (by omega), hget]
  refine (g3 _).trans ?_
  rw [chk_dec (by omega), wrap_i64 (by omega) (by omega)]
  have := e3 κ g (by omega)
  rw [show (d ++ [limbAV y0 k0]).length = d.length + 1 by simp] at this
  exact this
theorem bq_le (n : Nat) (h : n <= 6) : bq n <= 100000000 := by
 rcases n with _ | _ | _ | _ | _ | _ | _ | n
 all_goals first | decide | omega
theorem pls_R {N : Nat} : ∀ (n fu : Nat) (y : LV) (k : LA), n < fu -> n <= 6 -> Gw N n y k -> ∃ l : LA, l.length <= bq n /\ smallS l /\ ∀ κ : LA -> Option R, w6_places.R fu (B y.p) (B y.v.ty) (B y.v.sub) (y.v.ps.map pmAV) y.v.i0 (B y.v.i1) y.v.a0 (B y.v.a1) (emp y.v.c1) (B y.v.c1) (emp y.v.p1) (B y.v.p1) (y.v.pp.map pmAV) (rowsS y.v.lg) y.v.w0 (B y.v.w1) (y.a : Int) (y.b : Int) (y.c : Int) (y.d : Int) (y.e : Int) k κ = κ l
 | _, 0, _, _, h, _, _ => by omega
 | n, fu + 1, y, k, hf, hn, h => by
  have hp := h.plen
  have hsz : (B y.p).size <= 100 := by rw [size_B]; exact hp
  have go : ∃ M, M <= 100000000 /\ 3 + 16 * M <= max 3 (bq n) + 16 * (if n = 0 then M else 0) /\ ∀ v ∈ k, ∃ y0 k0, v = limbAV y0 k0 /\ ∃ l : LA, l.length <= M /\ smallS l /\ ∀ κ : LA -> Option R, w6_places.R fu (B y0.p) (B y0.v.ty) (B y0.v.sub) (y0.v.ps.map pmAV) y0.v.i0 (B y0.v.i1) y0.v.a0 (B y0.v.a1) (emp y0.v.c1) (B y0.v.c1) (emp y0.v.p1) (B y0.v.p1) (y0.v.pp.map pmAV) (rowsS y0.v.lg) y0.v.w0 (B y0.v.w1) (y0.a : Int) (y0.b : Int) (y0.c : Int) (y0.d : Int) (y0.e : Int) k0 κ = κ l := by
   cases n with
   | zero => exact ⟨0, by omega, by simp [bq], fun v hv => by rw [h.2.2] at hv; cases hv⟩
   | succ n =>
    refine ⟨bq n, bq_le n (by omega), (by simp [bq] <;> omega), fun v hv => ?_⟩
    obtain ⟨y0, k0, e, hg⟩ := h.2.2.2.2 v hv
    exact ⟨y0, k0, e, pls_R n fu y0 k0 (by omega) (by omega) hg⟩
  obtain ⟨M, hM, hM2, hrec⟩ := go
  have hkl := h.klen
  have fin : ∀ acc : LA, acc.length <= 3 -> smallS acc -> ∃ l : LA, l.length <= bq n /\ smallS l /\ ∀ κ : LA -> Option R, w6_places.L5 (w6_places.R fu) κ fuelK 0 (B y.p) (B y.v.ty) (B y.v.sub) (y.v.ps.map pmAV) y.v.i0 (B y.v.i1) y.v.a0 (B y.v.a1) (emp y.v.c1) (B y.v.c1) (emp y.v.p1) (B y.v.p1) (y.v.pp.map pmAV) (rowsS y.v.lg) y.v.w0 (B y.v.w1) (y.a : Int) (y.b : Int) (y.c : Int) (y.d : Int) (y.e : Int) k acc = κ l := fun acc h3 hs => by
   obtain ⟨l, g1, g2, g3⟩ := pls_loop (w6_places.R fu) y k hkl (by omega) hrec k [] acc rfl hs (by simpa using h3)
   refine ⟨l, ?_, g2, fun κ => g3 κ fuelK (by unfold fuelK; omega)⟩
   have hkm : k.length * M <= 16 * M := Nat.mul_le_mul_right _ hkl
   cases n with
   | zero => rw [h.2.2] at g1; simp only [List.length_nil, Nat.zero_mul] at g1; rw [bq]; omega
   | succ n => simp only [Nat.succ_ne_zero, if_false] at hM2; have : 3 <= bq (n + 1) := by rw [bq]; omega
               omega
  have chk0 : (B y.p).size + (⟨#[46, 49]⟩ : BA).size <= 9223372036854775807 := by have : (⟨#[46, 49]⟩ : BA).size = 2 := rfl; omega
  by_cases c : B y.p = ⟨#[]⟩
  ·obtain ⟨l, g1, g2, g3⟩ := fin [AV.str (⟨#[49]⟩ : BA), AV.str (⟨#[49, 46, 49]⟩ : BA), AV.str (⟨#[50]⟩ : BA)] (by simp) (fun v hv => by
    simp only [List.mem_cons, List.mem_nil_iff, or_false] at hv
    rcases hv with rfl | rfl | rfl
    ·show (⟨#[49]⟩ : BA).size <= 1000; decide
    ·show (⟨#[49, 46, 49]⟩ : BA).size <= 1000; decide
    ·show (⟨#[50]⟩ : BA).size <= 1000; decide)
   refine ⟨l, g1, g2, fun κ => ?_⟩
   rw [w6_places.R, w6_places.B, w6_places.e, chk_dec chk0, cond_dec c]; exact g3 κ
  ·obtain ⟨l, g1, g2, g3⟩ := fin [AV.str (B y.p), AV.str (B y.p ++ (⟨#[46, 49]⟩ : BA))] (by simp) (fun v hv => by
    simp only [List.mem_cons, List.mem_nil_iff, or_false] at hv
    rcases hv with rfl | rfl
    ·show (B y.p).size <= 1000; omega
    ·show (B y.p ++ (⟨#[46, 49]⟩ : BA)).size <= 1000
     rw [ByteArray.size_append]; have : (⟨#[46, 49]⟩ : BA).size = 2 := rfl; omega)
   refine ⟨l, g1, g2, fun κ => ?_⟩
   rw [w6_places.R, w6_places.B, w6_places.e, chk_dec chk0, cond_dec' c]; exact g3 κ
def Wk : Nat -> LA -> Prop
 | 0, k => k = []
 | n + 1, k => k.length <= 16 /\ ∀ u ∈ k, Wk n (u.fld 21).l
def cntL : Nat -> LA -> Nat
 | 0, _ => 0
 | m + 1, k => k.length + (k.map fun u => cntL m (u.fld 21).l).sum
def mxL : List Nat -> Nat
 | [] => 0
 | x :: r => max x (mxL r)
def dpL : Nat -> LA -> Nat
 | 0, _ => 0
 | m + 1, k => mxL (k.map fun u => 1 + dpL m (u.fld 21).l)
theorem Gw.wk {N : Nat} : ∀ {n : Nat} {y : LV} {k : LA}, Gw N n y k -> Wk n k
 | 0, _, _, h => h.2.2
 | n + 1, _, _, h => ⟨h.klen, fun u hu => by
  obtain ⟨m, y0, k0, e, rfl, hg⟩ := h.kid u hu
  cases e
  exact hg.wk⟩
def cb : Nat -> Nat
 | 0 => 0
 | n + 1 => 16 + 16 * cb n
theorem cb_le (n : Nat) (h : n <= 6) : cb n <= 1000000000 := by
 rcases n with _ | _ | _ | _ | _ | _ | _ | n
 all_goals first | decide | omega
theorem sum_le {M : Nat} : ∀ {l : List Nat}, (∀ x ∈ l, x <= M) -> l.sum <= l.length * M
 | [], _ => by simp
 | x :: r, h => by
  have := sum_le (l := r) fun y hy => h y (by simp [hy])
  have := h x (by simp)
  simp only [List.sum_cons, List.length_cons, Nat.succ_mul]; omega
theorem mx_le {M : Nat} : ∀ {l : List Nat}, (∀ x ∈ l, x <= M) -> mxL l <= M
 | [], _ => Nat.zero_le _
 | x :: r, h => Nat.max_le.2 ⟨h x (by simp), mx_le fun y hy => h y (by simp [hy])⟩
theorem mx_ge : ∀ {l : List Nat} {x : Nat}, x ∈ l -> x <= mxL l
 | y :: r, x, h => by
  rcases List.mem_cons.1 h with rfl | h
  ·exact Nat.le_max_left _ _
  ·exact Nat.le_trans (mx_ge h) (Nat.le_max_right _ _)
theorem cnt_le : ∀ {n : Nat} {k : LA}, Wk n k -> cntL n k <= cb n
 | 0, _, _ => Nat.le_refl _
 | n + 1, k, h => by
  have h1 := sum_le (M := cb n) (l := k.map fun u => cntL n (u.fld 21).l) (fun x hx => by
   obtain ⟨u, hu, rfl⟩ := List.mem_map.1 hx
   exact cnt_le (h.2 u hu))
  have h2 : k.length * cb n <= 16 * cb n := Nat.mul_le_mul_right _ h.1
  have := h.1
  rw [List.length_map] at h1
  show k.length + _ <= 16 + 16 * cb n; omega
theorem dp_le : ∀ {n : Nat} {k : LA}, dpL n k <= n
 | 0, _ => Nat.le_refl _
 | n + 1, k => mx_le fun x hx => by
  obtain ⟨u, _, rfl⟩ := List.mem_map.1 hx
  have := dp_le (n := n) (k := (u.fld 21).l); omega
theorem dk_of : ∀ {m n : Nat} {k : LA}, Wk n k -> dpL n k <= m -> DkL m k
 | 0, 0, _, h, _ => h
 | 0, n + 1, k, h, hd => by
  cases k with
  | nil => rfl
  | cons u k =>
   have : 1 + dpL n (u.fld 21).l <= dpL (n + 1) (u :: k) := mx_ge (by simp)
   omega
 | m + 1, 0, k, h, _ => by rw [show k = [] from h]; exact fun u hu => by cases hu
 | m + 1, n + 1, k, h, hd => fun u hu => by
  have : 1 + dpL n (u.fld 21).l <= dpL (n + 1) k := mx_ge (List.mem_map.2 ⟨u, hu, rfl⟩)
  exact dk_of (h.2 u hu) (by omega)
theorem kids_ct {g : AV -> Nat} {rec : LV -> Nat -> LV × LA × Nat} {w : List UInt8} {plc : Nat -> List UInt8} {dg : Bool} (hrec : ∀ y c, c + g (limbAV (rec y c).1 (rec y c).2.1) = (rec y c).2.2) : ∀ (r : List (Nat × Nat)) (i : Nat) (acc : LA) (cnt : Nat), cnt + ((kidsG rec w plc dg i acc cnt r).1.map g).sum = (kidsG rec w plc dg i acc cnt r).2 + (acc.map g).sum
 | [], _, _, _ => rfl
 | q :: r, i, acc, cnt => by
  rw [kidsG]
  have h1 := kids_ct hrec r (i + 1) (acc ++ [limbAV (rec (kidL w q (plc (i + 1)) dg) cnt).1 (rec (kidL w q (plc (i + 1)) dg) cnt).2.1]) (rec (kidL w q (plc (i + 1)) dg) cnt).2.2 (w := w) (plc := plc) (dg := dg)
  have h2 := hrec (kidL w q (plc (i + 1)) dg) cnt
  rw [List.map_append, List.sum_append] at h1
  simp only [List.map_cons, List.map_nil, List.sum_cons, List.sum_nil] at h1
  omega
theorem op_ct (w : List UInt8) : ∀ (n : Nat) (x : LV) (deep : Nat) (is : Bool) (cnt : Nat), cnt + cntL n (opG w n x deep is cnt).2.1 = (opG w n x deep is cnt).2.2
 | 0, _, _, _, _ => rfl
 | n + 1, x, deep, is, cnt => by
  rw [opG]
  split
  ·have h1 := kids_ct (g := fun u => cntL n (u.fld 21).l) (rec := fun y c => opG w n y (deep + 1) (msgT x) c) (w := w) (plc := plcG x is) (dg := dgG x) (fun y c => op_ct w n y _ _ c) (piG w x) 0 [] (cnt + (piG w x).length)
   have h2 := kids_len (rec := fun y c => opG w n y (deep + 1) (msgT x) c) (w := w) (plcG x is) (dgG x) (piG w x) 0 [] (cnt + (piG w x).length)
   simp only [List.map_nil, List.sum_nil, List.length_nil] at h1 h2
   show cnt + ((kidsG _ _ _ _ _ _ _ _).1.length + ((kidsG _ _ _ _ _ _ _ _).1.map _).sum) = (kidsG _ _ _ _ _ _ _ _).2
   omega
  ·rfl
theorem cn_loop (c1 : w6_count.F R) (g : AV -> Nat) {M : Nat} (hM : M <= 1000000000) (v : AV) (hk : (v.fld 21).l.length <= 16) (hrec : ∀ u ∈ (v.fld 21).l, g u <= M /\ ∀ κ : Int -> Option R, c1 (u.fld 0).s (u.fld 1).s (u.fld 2).s (u.fld 3).l (u.fld 4).b (u.fld 5).s (u.fld 6).b (u.fld 7).s (u.fld 8).b (u.fld 9).s (u.fld 10).b (u.fld 11).s (u.fld 12).l (u.fld 13).l (u.fld 14).b (u.fld 15).s (u.fld 16).i (u.fld 17).i (u.fld 18).i (u.fld 19).i (u.fld 20).i (u.fld 21).l κ = κ (g u : Int)) (κ : Int -> Option R) : ∀ (r d : LA) (acc f : Nat), d ++ r = (v.fld 21).l -> acc <= 16 + d.length * M -> r.length < f -> w6_count.L3 c1 κ f (acc : Int) (d.length : Int) (v.fld 0).s (v.fld 1).s (v.fld 2).s (v.fld 3).l (v.fld 4).b (v.fld 5).s (v.fld 6).b (v.fld 7).s (v.fld 8).b (v.fld 9).s (v.fld 10).b (v.fld 11).s (v.fld 12).l (v.fld 13).l (v.fld 14).b (v.fld 15).s (v.fld 16).i (v.fld 17).i (v.fld 18).i (v.fld 19).i (v.fld 20).i (v.fld 21).l = κ ((acc + (r.map g).sum : Nat) : Int)
 | _, _, _, 0, _, _, h => by omega
 | [], d, acc, f + 1, hd, _, _ => by
  rw [List.append_nil] at hd
  rw [w6_count.L3, w6_count.t3, <- hd, cond_dec' (by omega)]; rfl
 | u :: r, d, acc, f + 1, hd, ha, hf => by
  have hlen : d.length + r.length + 1 = (v.fld 21).l.length := by rw [<- hd]; simp; omega
  have hget : rdA (v.fld 21).l (d.length : Int) = u := rdA_get (by rw [<- hd]; simp)
  obtain ⟨g1, g2⟩ := hrec u (by rw [<- hd]; simp)
  have hdm : d.length * M <= 16 * M := Nat.mul_le_mul_right _ (by omega)
  have next := cn_loop c1 g hM v hk hrec κ r (d ++ [u]) (acc + g u) f (by rw [List.append_assoc]; exact hd) (by simp only [List.length_append, List.length_cons, List.length_nil, Nat.succ_mul, Nat.zero_add]; omega) (by simp only [List.length_cons] at hf; omega)
  rw [show (d ++ [u]).length = d.length + 1 by simp] at next
  rw [w6_count.L3, w6_count.t3, cond_dec (by omega), chk_and, chk_dec (by omega), chk_dec (by omega), hget, g2, wrap_i64 (x := (acc : Int) + (g u : Int)) (by omega) (by omega), wrap_i64 (by omega) (by omega)]
  refine next.trans ?_
  rw [List.map_cons, List.sum_cons, Nat.add_assoc]
theorem cn_R : ∀ (n fu : Nat) (v : AV), n < fu -> n <= 6 -> Wk n (v.fld 21).l -> ∀ κ : Int -> Option R, w6_count.R fu (v.fld 0).s (v.fld 1).s (v.fld 2).s (v.fld 3).l (v.fld 4).b (v.fld 5).s (v.fld 6).b (v.fld 7).s (v.fld 8).b (v.fld 9).s (v.fld 10).b (v.fld 11).s (v.fld 12).l (v.fld 13).l (v.fld 14).b (v.fld 15).s (v.fld 16).i (v.fld 17).i (v.fld 18).i (v.fld 19).i (v.fld 20).i (v.fld 21).l κ = κ (cntL n (v.fld 21).l : Int)
 | _, 0, _, h, _, _ => by omega
 | n, fu + 1, v, hf, hn, h => fun κ => by
  rw [w6_count.R, w6_count.B, w6_count.e]
  cases n with
  | zero =>
   have h0 : (v.fld 21).l = [] := h
   have := cn_loop (w6_count.R fu) (fun _ => 0) (M := 0) (by omega) v (by rw [h0]; simp) (fun u hu => by rw [h0] at hu; cases hu) κ [] [] 0 fuelK (by rw [h0]; rfl) (by omega) (by unfold fuelK; simp)
   rw [h0] at this ⊢
   exact this
  | succ n =>
   have := cn_loop (w6_count.R fu) (fun u => cntL n (u.fld 21).l) (M := cb n) (cb_le n (by omega)) v h.1 (fun u hu => ⟨cnt_le (h.2 u hu), fun κ => cn_R n fu u (by omega) (by omega) (h.2 u hu) κ⟩) κ (v.fld 21).l [] (v.fld 21).l.length fuelK rfl (by have := h.1; omega) (by have := h.1; unfold fuelK; omega)
   exact this
theorem dp_loop (c1 : w6_deep.F R) (g : AV -> Nat) (v : AV) (hk : (v.fld 21).l.length <= 16) (hrec : ∀ u ∈ (v.fld 21).l, g u <= 100 /\ ∀ κ : Int -> Option R, c1 (u.fld 0).s (u.fld 1).s (u.fld 2).s (u.fld 3).l (u.fld 4).b (u.fld 5).s (u.fld 6).b (u.fld 7).s (u.fld 8).b (u.fld 9).s (u.fld 10).b (u.fld 11).s (u.fld 12).l (u.fld 13).l (u.fld 14).b (u.fld 15).s (u.fld 16).i (u.fld 17).i (u.fld 18).i (u.fld 19).i (u.fld 20).i (u.fld 21).l κ = κ (g u : Int)) (κ : Int -> Option R) : ∀ (r d : LA) (acc f : Nat), d ++ r = (v.fld 21).l -> acc <= 1000 -> r.length < f -> w6_deep.L3 c1 κ f (acc : Int) (d.length : Int) (v.fld 0).s (v.fld 1).s (v.fld 2).s (v.fld 3).l (v.fld 4).b (v.fld 5).s (v.fld 6).b (v.fld 7).s (v.fld 8).b (v.fld 9).s (v.fld 10).b (v.fld 11).s (v.fld 12).l (v.fld 13).l (v.fld 14).b (v.fld 15).s (v.fld 16).i (v.fld 17).i (v.fld 18).i (v.fld 19).i (v.fld 20).i (v.fld 21).l = κ ((max acc (mxL (r.map fun u => 1 + g u)) : Nat) : Int)
 | _, _, _, 0, _, _, h => by omega
 | [], d, acc, f + 1, hd, _, _ => by
  rw [List.append_nil] at hd
  rw [w6_deep.L3, w6_deep.t3, <- hd, cond_dec' (by omega)]
  show κ (acc : Int) = κ ((max acc 0 : Nat) : Int)
  rw [Nat.max_zero]
 | u :: r, d, acc, f + 1, hd, ha, hf => by
  have hlen : d.length + r.length + 1 = (v.fld 21).l.length := by rw [<- hd]; simp; omega
  have hget : rdA (v.fld 21).l (d.length : Int) = u := rdA_get (by rw [<- hd]; simp)
  obtain ⟨g1, g2⟩ := hrec u (by rw [<- hd]; simp)
  have next := dp_loop c1 g v hk hrec κ r (d ++ [u]) (max acc (1 + g u)) f (by rw [List.append_assoc]; exact hd) (by omega) (by simp only [List.length_cons] at hf; omega)
  rw [show (d ++ [u]).length = d.length + 1 by simp] at next
  rw [w6_deep.L3, w6_deep.t3, cond_dec (by omega), chk_and, chk_dec (by omega), chk_dec (by omega), hget, g2, wrap_i64 (x := 1 + (g u : Int)) (by omega) (by omega), wrap_i64 (by omega) (by omega), max2_eq, show max (acc : Int) (1 + (g u : Int)) = ((max acc (1 + g u) : Nat) : Int) by omega]
  refine next.trans ?_
  rw [List.map_cons, mxL, Nat.max_assoc]
theorem dp_R : ∀ (n fu : Nat) (v : AV), n < fu -> n <= 6 -> Wk n (v.fld 21).l -> ∀ κ : Int -> Option R, w6_deep.R fu (v.fld 0).s (v.fld 1).s (v.fld 2).s (v.fld 3).l (v.fld 4).b (v.fld 5).s (v.fld 6).b (v.fld 7).s (v.fld 8).b (v.fld 9).s (v.fld 10).b (v.fld 11).s (v.fld 12).l (v.fld 13).l (v.fld 14).b (v.fld 15).s (v.fld 16).i (v.fld 17).i (v.fld 18).i (v.fld 19).i (v.fld 20).i (v.fld 21).l κ = κ (dpL n (v.fld 21).l : Int)
 | _, 0, _, h, _, _ => by omega
 | n, fu + 1, v, hf, hn, h => fun κ => by
  rw [w6_deep.R, w6_deep.B, w6_deep.e]
  cases n with
  | zero =>
   have h0 : (v.fld 21).l = [] := h
   have := dp_loop (w6_deep.R fu) (fun _ => 0) v (by rw [h0]; simp) (fun u hu => by rw [h0] at hu; cases hu) κ [] [] 0 fuelK (by rw [h0]; rfl) (by omega) (by unfold fuelK; simp)
   rw [h0] at this ⊢
   exact this
  | succ n =>
   have := dp_loop (w6_deep.R fu) (fun u => dpL n (u.fld 21).l) v h.1 (fun u hu => ⟨by have := dp_le (n := n) (k := (u.fld 21).l); omega, fun κ => dp_R n fu u (by omega) (by omega) (h.2 u hu) κ⟩) κ (v.fld 21).l [] 0 fuelK rfl (by omega) (by have := h.1; unfold fuelK; omega)
   rw [Nat.zero_max] at this
   exact this
theorem spot_ok (a : Int) : ∃ kd : Int, ∀ κ : Int -> Option R, w6_spot a 6 κ = κ kd := by
 unfold w6_spot w6_spot.e
 by_cases c : a < 0
 ·exact ⟨_, fun κ => by rw [cond_dec c]; rfl⟩
 ·exact ⟨_, fun κ => by rw [cond_dec' c]; rfl⟩
def Nst (R : Type) (v w : List UInt8) (F : Nat) (c : UInt8) : Prop := InW w v F /\ F + v.length <= w.length /\ w.length <= 200000 /\ ∃ M K0, Gate (R := R) (limbAV (treeG w).1 (treeG w).2.1) M K0 c /\ (M.fld 18).i = (F : Int) /\ (M.fld 19).i = ((F + v.length : Nat) : Int) /\
 ((treeG v).2.2 <= 8 -> DkL 2 (treeG v).2.1 -> Rl v.length F [c] (limbAV (treeG v).1 (treeG v).2.1) K0)
theorem nst_nb (v : List UInt8) (hv : v.length <= 3000) : Nst R v (nH1 ++ v) 32 49 := by
 obtain ⟨y, ht, hm, hty, hc, hd⟩ := tree_nb v
 have hin : InW (nH1 ++ v) v 32 := ⟨[], by rw [List.append_nil]; rfl⟩
 have hlen : (nH1 ++ v).length = 32 + v.length := by rw [List.length_append]; rfl
 refine ⟨hin, by omega, by omega, limbAV y [limbAV (opG (nH1 ++ v) 5 (shV 32 [49] (kidL v (0, v.length) [] false)) 1 true 1).1 (opG (nH1 ++ v) 5 (shV 32 [49] (kidL v (0, v.length) [] false)) 1 true 1).2.1], limbAV (opG (nH1 ++ v) 5 (shV 32 [49] (kidL v (0, v.length) [] false)) 1 true 1).1 (opG (nH1 ++ v) 5 (shV 32 [49] (kidL v (0, v.length) [] false)) 1 true 1).2.1, ⟨1, [], by omega, by omega, ?_, by rw [isV_msg]; exact hm, rfl, by decide, num_1⟩, congrArg (fun n : Nat => (n : Int)) hc, congrArg (fun n : Nat => (n : Int)) hd, fun h1 h2 => ?_⟩
 ·rw [ht]
  unfold stpS rchS rchE
  rw [if_neg (by decide), if_neg (fun e => by cases e.1), if_neg (fun e => hty (B_inj.1 e.1))]
  rfl
 ·have h := op_sh (D := 1) (C := 1) hin (by omega) (at' := [49]) (by simp) (by omega) (by omega) 2 6 5 0 (kidL v (0, v.length) [] false) true 0 (by omega) (by omega) (by omega) (kid_ok (Nat.zero_le _) (Nat.le_refl _) _ _) rfl (Nat.le_add_right _ _) h1 h2
  obtain ⟨e1, e2, e3, e4⟩ := h
  exact ⟨2, _, _, _, rfl, congrArg (fun z => limbAV z _) e1, e4, e2⟩
theorem nst_b (v : List UInt8) (hv : v.length <= 3000) (hq : noQ v) : Nst R v (nW v) 110 50 := by
 obtain ⟨y, u, M, ht, hty, hm, hc, hd⟩ := tree_b v hq
 have hin := nW_in v
 have hlen := nW_len v
 refine ⟨hin, by omega, by omega, limbAV M [limbAV (opG (nW v) 4 (shV 110 [50] (kidL v (0, v.length) [] false)) 2 true 3).1 (opG (nW v) 4 (shV 110 [50] (kidL v (0, v.length) [] false)) 2 true 3).2.1], limbAV (opG (nW v) 4 (shV 110 [50] (kidL v (0, v.length) [] false)) 2 true 3).1 (opG (nW v) 4 (shV 110 [50] (kidL v (0, v.length) [] false)) 2 true 3).2.1, ⟨2, [], by omega, by omega, ?_, by rw [isV_msg]; exact hm, rfl, by decide, num_2⟩, congrArg (fun n : Nat => (n : Int)) hc, congrArg (fun n : Nat => (n : Int)) hd, fun h1 h2 => ?_⟩
 ·rw [ht]
  unfold stpS rchS rchE
  rw [if_neg (by decide), if_neg (fun e => by cases e.1), if_pos ⟨congrArg B hty, by show ((2 : Nat) : Int) > 0; omega⟩, if_neg (by show ¬ ((2 : Int) < 1 ∨ (2 : Int) > ((2 : Nat) : Int)); omega)]
  rfl
 ·have h := op_sh (D := 2) (C := 3) hin (by omega) (at' := [50]) (by simp) (by omega) (by omega) 2 6 4 0 (kidL v (0, v.length) [] false) true 0 (by omega) (by omega) (by omega) (kid_ok (Nat.zero_le _) (Nat.le_refl _) _ _) rfl (Nat.le_add_right _ _) h1 h2
  obtain ⟨e1, e2, e3, e4⟩ := h
  exact ⟨2, _, _, _, rfl, congrArg (fun z => limbAV z _) e1, e4, e2⟩
theorem nests_loop {v w : List UInt8} {F : Nat} {c : UInt8} {x root M K0 : AV} (hw : InW w v F) (hF : F + v.length <= w.length) (hlen : w.length <= 200000) (hx : Rl v.length F [c] x K0) (hg : Gate (R := R) root M K0 c) (kd : Int) (κ : Bool -> Option R) (all : LA) (ha : all.length <= 1000000000) (hs : ∀ u ∈ all, u.s.size <= 200000000000000) :
  ∀ (r d : LA) (f : Nat), d ++ r = all -> r.length < f -> w6_LimbNests.L26 w6_known lm_Parse lm_Section w6_count w6_deep w6_spot w6_places lm_Section1 κ f (B v) kd (B w) (B [c]) (d.length : Int) (root.fld 0).s (root.fld 1).s (root.fld 2).s (root.fld 3).l (root.fld 4).b (root.fld 5).s (root.fld 6).b (root.fld 7).s (root.fld 8).b (root.fld 9).s (root.fld 10).b (root.fld 11).s (root.fld 12).l (root.fld 13).l (root.fld 14).b (root.fld 15).s (root.fld 16).i (root.fld 17).i (root.fld 18).i (root.fld 19).i (root.fld 20).i (root.fld 21).l (x.fld 0).s (x.fld 1).s (x.fld 2).s (x.fld 3).l (x.fld 4).b (x.fld 5).s (x.fld 6).b (x.fld 7).s (x.fld 8).b (x.fld 9).s (x.fld 10).b (x.fld 11).s (x.fld 12).l (x.fld 13).l (x.fld 14).b (x.fld 15).s (x.fld 16).i (x.fld 17).i (x.fld 18).i (x.fld 19).i (x.fld 20).i (x.fld 21).l all = κ true
 | _, _, 0, _, h => by omega
 | [], d, f + 1, hd, _ => by
  rw [List.append_nil] at hd
  obtain ⟨r, g1, g2⟩ := nest_head (R := R) hw hF hx hg
  rw [w6_LimbNests.L26, w6_LimbNests.t26, <- hd, cond_dec' (by omega)]
  refine (g1 _).trans ((g2 _).trans ?_)
  rw [cond_true, cond_true, decide_eq_true rfl]
 | u :: r, d, f + 1, hd, hf => by
  have hl : d.length + r.length + 1 = all.length := by rw [<- hd]; simp; omega
  have hget : rdA all (d.length : Int) = u := rdA_get (by rw [<- hd]; simp)
  have hsz := hs u (by rw [<- hd]; simp)
  have next := nests_loop hw hF hlen hx hg kd κ all ha hs r (d ++ [u]) f (by rw [List.append_assoc]; exact hd) (by simp only [List.length_cons] at hf; omega)
  rw [show (d ++ [u]).length = d.length + 1 by simp] at next
  rw [w6_LimbNests.L26, w6_LimbNests.t26, cond_dec (by omega), chk_and, chk_dec (by omega), chk_dec (by omega), hget, wrap_i64 (x := (d.length : Int) + 1) (by omega) (by omega)]
  by_cases ce : u.s = (⟨#[]⟩ : BA)
  ·rw [cond_dec ce]; exact next
  ·have hq : bl u.s ≠ [] := fun e => ce (congrArg B e)
   obtain ⟨rr, b, g1, g2⟩ := nest_sec (R := R) hw hF hlen hx hg (bl u.s) hq (by rw [<- size_bl]; exact hsz) kd
   have z1 : (B [c]).size = 1 := size_B _
   have z2 : (⟨#[46]⟩ : BA).size = 1 := rfl
   have z3 : (B [c] ++ (⟨#[46]⟩ : BA)).size = 2 := by rw [ByteArray.size_append, z1, z2]
   have ej : (B [c] ++ (⟨#[46]⟩ : BA)) ++ u.s = B (c :: 46 :: bl u.s) := by
    have h1 : B [c] ++ (⟨#[46]⟩ : BA) = B [c, 46] := append_B [c] [46]
    rw [h1]; exact append_B [c, 46] (bl u.s)
   rw [cond_dec' ce, chk_and, chk_dec (by omega), chk_dec (by omega), ej]
   refine (g1 _).trans ?_
   rw [chk_dec (by omega), chk_and, chk_dec (by omega), chk_dec (by omega), chk_dec (by omega)]
   refine (g2 _).trans ?_
   rw [show (b == b) = true by cases b <;> rfl, Bool.not_true, cond_false, decide_eq_true rfl, Bool.not_true, cond_false]
   exact next
theorem nests_in {v w : List UInt8} {F : Nat} {c : UInt8} (hv : v.length <= 3000) (h : Nst R v w F c) (pl : BA) (hpl : pl.size <= 200000000000000) (k : Int) (κ : Bool -> Option R) (f : Nat) (hf : 1000000000 <= f) : w6_LimbNests.L16 w6_known lm_Parse lm_Section w6_count w6_deep w6_spot w6_places lm_Section1 κ f (B v) pl k (B w) (B [c]) = κ true := by
 obtain ⟨hw, hF, hlen, M, K0, hg, h18, h19, hr⟩ := h
 obtain ⟨f, rfl⟩ : ∃ g, f = g + 1 := ⟨f - 1, by omega⟩
 have hne : B [c] ≠ ⟨#[]⟩ := fun e => by have := congrArg ByteArray.size e; rw [size_B] at this; cases this
 have hwh := fun κ => whole_v (R := R) (B w) (limbAV (treeG w).1 (treeG w).2.1) M (B [c]) hne (fun κ0 κ1 => find_at hg κ0 κ1) κ
 have ht : takV (B w) (M.fld 18).i (M.fld 19).i = (B v, true) := by
  rw [h18, h19]
  unfold takV
  rw [size_B, if_neg (by omega), Int.toNat_natCast, Int.toNat_natCast, extract_B]
  have := hw.slice (a := 0) (b := v.length) (Nat.le_refl _)
  rw [Nat.zero_add, Nat.add_comm v.length F] at this
  rw [this, List.take_length]; rfl
 have hg6 : Gw v.length 6 (treeG v).1 (treeG v).2.1 := op_gw (w := v) (by omega) 6 (kidL v (0, v.length) [] false) 0 true 0 (kid_ok (Nat.zero_le _) (Nat.le_refl _) _ _) rfl (Nat.le_add_right _ _) (by show 0 + 3 * 6 <= 100; omega)
 have hwk := hg6.wk
 have hcn : cntL 6 (treeG v).2.1 = (treeG v).2.2 := by
  have := op_ct v 6 (kidL v (0, v.length) [] false) 0 true 0
  rw [Nat.zero_add] at this; exact this
 rw [w6_LimbNests.L16, w6_LimbNests.t16]
 refine (lParse w hlen _).trans ((lParse v (by omega) _).trans ((hwh _).trans ?_))
 rw [ht, Bool.not_true, cond_false, decide_eq_true rfl, Bool.not_true, cond_false]
 refine (cn_R (R := R) 6 fuelK (limbAV (treeG v).1 (treeG v).2.1) (by unfold fuelK; omega) (by omega) hwk _).trans ?_
 show (bif (decide (((cntL 6 (treeG v).2.1 : Nat) : Int) > 8)) then _ else _) = _
 by_cases c1 : ((cntL 6 (treeG v).2.1 : Nat) : Int) > 8
 ·rw [cond_dec c1]
 ·rw [cond_dec' c1]
  refine (dp_R (R := R) 6 fuelK (limbAV (treeG v).1 (treeG v).2.1) (by unfold fuelK; omega) (by omega) hwk _).trans ?_
  show (bif (decide (((dpL 6 (treeG v).2.1 : Nat) : Int) > 2)) then _ else _) = _
  by_cases c2 : ((dpL 6 (treeG v).2.1 : Nat) : Int) > 2
  ·rw [cond_dec c2]
  ·rw [cond_dec' c2]
   obtain ⟨kd, hkd⟩ := spot_ok (R := R) k
   rw [hkd]
   obtain ⟨l, g1, g2, g3⟩ := pls_R (R := R) 6 fuelK (treeG v).1 (treeG v).2.1 (by unfold fuelK; omega) (by omega) hg6
   have hb := bq_le 6 (by omega)
   refine (g3 _).trans ?_
   rw [chk_dec (by omega)]
   refine nests_loop hw hF hlen (hr (by omega) (dk_of hwk (by omega))) hg kd κ (l ++ [AV.str pl]) (by simp; omega) (fun u hu => ?_) (l ++ [AV.str pl]) [] f rfl (by simp; omega)
   rcases List.mem_append.1 hu with hu | hu
   ·have := g2 u hu; omega
   ·rw [List.mem_singleton] at hu; subst hu; exact hpl
theorem quiet_loop {v w : List UInt8} (hv : v.length <= 3000) (pl at' : BA) (k : Int) (κ : Bool -> Option R) (hJ : noQ v -> ∀ f, 1000000000 <= f -> w6_LimbNests.L16 w6_known lm_Parse lm_Section w6_count w6_deep w6_spot w6_places lm_Section1 κ f (B v) pl k (B w) at' = κ true) : ∀ (n i f : Nat), v.length + 1 <= i + n -> 1000000000 + n < f -> i <= v.length + 1 -> (∀ j, j < i -> j + 6 <= v.length -> (v.drop j).take 6 ≠ zqL) -> w6_LimbNests.L12 w6_known lm_Parse lm_Section w6_count w6_deep w6_spot w6_places lm_Section1 κ f (B v) pl k (B w) at' (i : Int) = κ true
 | n, i, 0, _, h, _, _ => by omega
 | n, i, f + 1, hn, hf, hi, hz => by
  rw [w6_LimbNests.L12, w6_LimbNests.t12, wrap_i64 (x := (i : Int) + 6) (by omega) (by omega), size_B]
  by_cases c : (i : Int) + 6 <= (v.length : Int)
  ·have e : (B v).extract (i : Int).toNat ((i : Int) + 6).toNat = B ((v.drop i).take 6) := by
    rw [extract_B, show ((i : Int) + 6).toNat = i + 6 by omega, Int.toNat_natCast, List.drop_take, show i + 6 - i = 6 by omega]
   rw [cond_dec c, chk_and, chk_dec (by omega), chk_and, chk_dec (by omega), chk_dec c, e, show (⟨#[122, 113, 122, 113, 122, 113]⟩ : BA) = B zqL from rfl]
   by_cases c2 : (v.drop i).take 6 = zqL
   ·rw [cond_dec (by rw [c2])]
   ·rw [cond_dec' (fun h => c2 (B_inj.1 h)), wrap_i64 (by omega) (by omega)]
    cases n with
    | zero => omega
    | succ n =>
     exact quiet_loop hv pl at' k κ hJ n (i + 1) f (by omega) (by omega) (by omega) fun j hj h6 => by
      rcases Nat.lt_succ_iff_lt_or_eq.1 hj with h | rfl
      ·exact hz j h h6
      ·exact c2
  ·rw [cond_dec' c]
   refine hJ (fun a t e => ?_) f (by omega)
   have hl := congrArg List.length e
   rw [List.length_append, List.length_append, show zqL.length = 6 from rfl] at hl
   refine hz a.length (by omega) (by omega) ?_
   rw [e, List.drop_left]; rfl
theorem limbNests_text (a0 : BA) (a1 : Bool) (a2 : BA) (a3 : Int) (ha : a2.size <= 140737488351232) (κ : Bool -> Option R) : w6_LimbNests a0 a1 a2 a3 κ = κ true := by
 unfold w6_LimbNests w6_LimbNests.e
 rw [known6_holds, Bool.not_true, cond_false]
 by_cases h : (a0.size : Int) > 3000
 ·rw [cond_dec h]
 ·have hv : (bl a0).length <= 3000 := by rw [<- size_bl]; omega
  have hk : ∃ f, fuelK = f + 1 := ⟨fuelK - 1, by unfold fuelK; omega⟩
  rw [cond_dec' h, chk_dec (by show 32 + a0.size <= _; omega)]
  cases a1 with
  | false =>
   rw [cond_false]
   have e1 : (⟨#[67, 111, 110, 116, 101, 110, 116, 45, 84, 121, 112, 101, 58, 32, 109, 101, 115, 115, 97, 103, 101, 47, 114, 102, 99, 56, 50, 50, 13, 10, 13, 10]⟩ : BA) ++ a0 = B (nH1 ++ bl a0) := append_B nH1 (bl a0)
   rw [e1]
   exact nests_in hv (nst_nb (bl a0) hv) a2 (by omega) a3 κ fuelK (by unfold fuelK; omega)
  | true =>
   have e2 : ((⟨#[67, 111, 110, 116, 101, 110, 116, 45, 84, 121, 112, 101, 58, 32, 109, 117, 108, 116, 105, 112, 97, 114, 116, 47, 109, 105, 120, 101, 100, 59, 32, 98, 111, 117, 110, 100, 97, 114, 121, 61, 122, 113, 122, 113, 122, 113, 13, 10, 13, 10, 45, 45, 122, 113, 122, 113, 122, 113, 13, 10, 13, 10, 116, 101, 120, 116, 13, 10, 45, 45, 122, 113, 122, 113, 122, 113, 13, 10, 67, 111, 110, 116, 101, 110, 116, 45, 84, 121, 112, 101, 58, 32, 77, 101, 115, 115, 97, 103, 101, 47, 82, 70, 67, 56, 50, 50, 13, 10, 13, 10]⟩ : BA) ++ a0) ++ (⟨#[13, 10, 45, 45, 122, 113, 122, 113, 122, 113, 45, 45]⟩ : BA) = B (nW (bl a0)) := by
    have h1 : (⟨#[67, 111, 110, 116, 101, 110, 116, 45, 84, 121, 112, 101, 58, 32, 109, 117, 108, 116, 105, 112, 97, 114, 116, 47, 109, 105, 120, 101, 100, 59, 32, 98, 111, 117, 110, 100, 97, 114, 121, 61, 122, 113, 122, 113, 122, 113, 13, 10, 13, 10, 45, 45, 122, 113, 122, 113, 122, 113, 13, 10, 13, 10, 116, 101, 120, 116, 13, 10, 45, 45, 122, 113, 122, 113, 122, 113, 13, 10, 67, 111, 110, 116, 101, 110, 116, 45, 84, 121, 112, 101, 58, 32, 77, 101, 115, 115, 97, 103, 101, 47, 82, 70, 67, 56, 50, 50, 13, 10, 13, 10]⟩ : BA) ++ a0 = B ((nh2 ++ (nP2 ++ nh3)) ++ bl a0) := append_B (nh2 ++ (nP2 ++ nh3)) (bl a0)
    rw [h1]
    refine (append_B _ (13 :: 10 :: endZ)).trans (congrArg B ?_)
    unfold nW
    simp only [List.append_assoc]
   have z1 : ((⟨#[67, 111, 110, 116, 101, 110, 116, 45, 84, 121, 112, 101, 58, 32, 109, 117, 108, 116, 105, 112, 97, 114, 116, 47, 109, 105, 120, 101, 100, 59, 32, 98, 111, 117, 110, 100, 97, 114, 121, 61, 122, 113, 122, 113, 122, 113, 13, 10, 13, 10, 45, 45, 122, 113, 122, 113, 122, 113, 13, 10, 13, 10, 116, 101, 120, 116, 13, 10, 45, 45, 122, 113, 122, 113, 122, 113, 13, 10, 67, 111, 110, 116, 101, 110, 116, 45, 84, 121, 112, 101, 58, 32, 77, 101, 115, 115, 97, 103, 101, 47, 82, 70, 67, 56, 50, 50, 13, 10, 13, 10]⟩ : BA) : BA).size = 110 := rfl
   have z2 : (⟨#[13, 10, 45, 45, 122, 113, 122, 113, 122, 113, 45, 45]⟩ : BA).size = 12 := rfl
   rw [cond_true, chk_dec (by omega), chk_dec (by rw [ByteArray.size_append]; omega), e2]
   exact quiet_loop (w := nW (bl a0)) hv a2 (B [50]) a3 κ (fun hq f hf => nests_in hv (nst_b (bl a0) hv hq) a2 (by omega) a3 κ f hf) ((bl a0).length + 1) 0 fuelK (by omega) (by unfold fuelK; omega) (by omega) (fun j hj => absurd hj (Nat.not_lt_zero j))
end Go.Proofs.Ab
