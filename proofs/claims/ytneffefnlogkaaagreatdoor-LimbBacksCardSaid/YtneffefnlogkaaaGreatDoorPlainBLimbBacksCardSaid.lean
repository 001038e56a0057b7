/- The plain functions of program and document say the same (conditions: those of each lemma). -/
import Derived.Test.YtneffefnlogkaaaGreatDoorPlainALimbBacksCardSaid
set_option linter.unusedVariables false
set_option linter.unusedSimpArgs false
set_option maxRecDepth 4000
namespace Go.Proofs.Ab
open Go
variable {R : Type}
mutual
theorem yZ : ∀ (a : AV), Dq a a = true
 | .no => rfl
 | .int x => by show decide (x = x) = true; simp
 | .bool x => by show (x == x) = true; simp
 | .str x => by show decide (x = x) = true; simp
 | .sl x => iv x
 | .agg x => iv x
theorem iv : ∀ (a : LA), iW a a = true
 | [] => rfl
 | x :: l => by show (Dq x x && iW l l) = true; rw [yZ x, iv l]; rfl
end
def zp : SV -> Bool
 | .no | .undef | .int _ _ | .bool _ | .str _ | .nil | .ro _ _ _ | .own _ | .ptr _ _ => true
 | _ => false
theorem zb {x : SV} (h : zp x = true) : Ds x x = true := by
 cases x <;> first | rfl | (cases h; done) | skip
 ·show (decide (_ = _) && decide (_ = _)) = true; simp
 ·show (_ == _) = true; simp
 ·show decide (_ = _) = true; simp
 ·show (Nat.beq _ _ && (iW _ _ && (_ == _))) = true; rw [Nat.beq_refl, iv]; simp
 ·show Nat.beq _ _ = true; rw [Nat.beq_refl]
 ·show (Nat.beq _ _ && Nat.beq _ _) = true; rw [Nat.beq_refl, Nat.beq_refl]; rfl
def nX : List SV -> Bool
 | [] => true
 | x :: l => bif zp x then nX l else false
theorem lT : ∀ {l : List SV}, nX l = true -> kh l l = true
 | [], _ => rfl
 | x :: l, h => by
  rw [nX] at h
  cases hx : zp x with
  | false => rw [hx] at h; cases h
  | true =>
   rw [hx, cond_true] at h
   show (Ds x x && kh l l) = true
   rw [zb hx, lT h]; rfl
def zo : Obj -> Bool
 | .row _ _ _ => true
 | .var _ l => nX l
 | _ => false
def ru : List (Nat × Obj) -> Bool
 | [] => true
 | (_, o) :: l => bif zo o then ru l else false
theorem za {o : Obj} (h : zo o = true) : Dr o o = true := by
 cases o <;> first | (cases h; done) | skip
 ·show (Nat.beq _ _ && (iW _ _ && (_ == _))) = true; rw [Nat.beq_refl, iv]; simp
 ·show (Nat.beq _ _ && kh _ _) = true
  rw [Nat.beq_refl, lT h]; rfl
theorem pF : ∀ {l : List (Nat × Obj)}, ru l = true -> sA l l = true
 | [], _ => rfl
 | (n, o) :: l, h => by
  rw [ru] at h
  cases hx : zo o with
  | false => rw [hx] at h; cases h
  | true =>
   rw [hx, cond_true] at h
   show (Nat.beq n n && (Dr o o && sA l l)) = true
   rw [Nat.beq_refl, za hx, pF h]; rfl
theorem xt {s : St} (h1 : nX s.slots = true) (h2 : ru s.objs = true) : zc s s = true := by
 show (kh s.slots s.slots && (sA s.objs s.objs && Nat.beq s.next s.next)) = true
 rw [lT h1, pF h2, Nat.beq_refl]; rfl
theorem yc (l : LA) (x y : AV) : dR (l ++ [x]) (l.length : Int) y = l ++ [y] := ib l x y [] l.length rfl
def oh (y : LV) (k : LA) : AV := .agg [.str (B y.p), .str (B y.v.ty), .str (B y.v.sub), .sl (y.v.ps.map bi), .bool y.v.i0, .str (B y.v.i1), .bool y.v.a0, .str (B y.v.a1), .bool (cY y.v.c1), .str (B y.v.c1), .bool (cY y.v.p1), .str (B y.v.p1), .sl (y.v.pp.map bi), .sl (bt y.v.lg), .bool y.v.w0, .str (B y.v.w1), .int (y.a : Int), .int (y.b : Int), .int (y.c : Int), .int (y.d : Int), .int (y.e : Int), .sl k]
def D6 : List UInt8 := [97, 112, 112, 108, 105, 99, 97, 116, 105, 111, 110]
def Eg : List UInt8 := [111, 99, 116, 101, 116, 45, 115, 116, 114, 101, 97, 109]
def sv : List UInt8 := [100, 105, 103, 101, 115, 116]
def gk (x : LV) : LV := { x with v := { x.v with ty := D6, sub := Eg, ps := [] } }
def eA (x : LV) : Bool := decide (x.v.ty = pa) && decide (x.v.sub = sv)
def cB (w : List UInt8) (x : LV) (em : Bool) : LV :=
 if em then (if x.v.ty = mL then { x with e := dX (dB w x) } else if ea x = true ∨ x.v.ty = pa then gk x else x)
 else (if ea x then { x with e := dX (dB w x) } else x)
def kB (w : List UInt8) (q : Nat × Nat) : List UInt8 := (w.take q.2).drop q.1
def ec (w : List UInt8) (q : Nat × Nat) (p : List UInt8) (dg : Bool) : LV where
 p := p
 v := xF (jY (kB w q)) dg
 a := q.1
 b := q.1 + (jY (kB w q)).length
 c := q.1 + (jY (kB w q)).length
 d := q.2
 e := 0
def cD (rec : LV -> Nat -> LV × LA × Nat) (w : List UInt8) (plc : Nat -> List UInt8) (dg : Bool) : Nat -> LA -> Nat -> List (Nat × Nat) -> LA × Nat
 | _, acc, cnt, [] => (acc, cnt)
 | i, acc, cnt, q :: r => cD rec w plc dg (i + 1) (acc ++ [oh (rec (ec w q (plc (i + 1)) dg) cnt).1 (rec (ec w q (plc (i + 1)) dg) cnt).2.1]) (rec (ec w q (plc (i + 1)) dg) cnt).2.2 r
def cH (w : List UInt8) : Nat -> LV -> Nat -> Bool -> Nat -> LV × LA × Nat
 | 0, x, _, _, cnt => (x, [], cnt)
 | n + 1, x, deep, is, cnt =>
  if deep < 5 /\ cnt + (gM w x).length <= 16 then
   (cB w x (cD (fun y c => cH w n y (deep + 1) (ea x) c) w (cM x is) (eA x) 0 [] (cnt + (gM w x).length) (gM w x)).1.isEmpty,
    cD (fun y c => cH w n y (deep + 1) (ea x) c) w (cM x is) (eA x) 0 [] (cnt + (gM w x).length) (gM w x))
  else (cB w x true, [], cnt)
def AC (w : List UInt8) (x : LV) : Prop := x.c <= x.d /\ x.d <= w.length /\ ph x.v.ps /\ x.v.ps.length <= 12
theorem iL {w : List UInt8} {q : Nat × Nat} (h1 : q.1 <= q.2) (h2 : q.2 <= w.length) : (kB w q).length = q.2 - q.1 := by
 unfold kB; rw [List.length_drop, List.length_take]; omega
theorem n9 {w : List UInt8} {q : Nat × Nat} (h1 : q.1 <= q.2) (h2 : q.2 <= w.length) (p : List UInt8) (dg : Bool) : AC w (ec w q p dg) := by
 have h3 := iL h1 h2
 have h4 := rA (kB w q)
 have h5 := Ar (jY (kB w q)) dg
 refine ⟨?_, h2, h5.1, h5.2⟩
 show q.1 + (jY (kB w q)).length <= q.2
 omega
theorem zW {w : List UInt8} {x : LV} (hw : w.length <= 200000) (h : AC w x) : ∀ q ∈ gM w x, q.1 <= q.2 /\ q.2 <= w.length := by
 obtain ⟨h1, h2, _, _⟩ := h
 have hbl : (dB w x).length = x.d - x.c := by unfold dB; rw [List.length_drop, List.length_take]; omega
 intro q hq
 unfold gM at hq
 split at hq
 ·split at hq
  ·rw [List.mem_singleton] at hq
   subst hq
   exact ⟨h1, h2⟩
  ·cases hq
 ·split at hq
  ·obtain ⟨p, hp, rfl⟩ := List.mem_map.1 hq
   have := rO (fR x.v.ps) (dB w x) (by omega) _ none (dB w x) (Nat.le_refl _) (List.suffix_refl _) (fun k e => by cases e) p hp
   simp only
   omega
  ·cases hq
theorem sU {rec : LV -> Nat -> LV × LA × Nat} {w : List UInt8} (hrec : ∀ y c, c <= 16 -> (rec y c).2.2 <= 16) (plc : Nat -> List UInt8) (dg : Bool) : ∀ (r : List (Nat × Nat)) (i : Nat) (acc : LA) (cnt : Nat), cnt <= 16 -> (cD rec w plc dg i acc cnt r).2 <= 16
 | [], _, _, cnt, h => h
 | q :: r, i, acc, cnt, h => by
  rw [cD]
  exact sU hrec plc dg r _ _ _ (hrec _ _ h)
theorem vn (w : List UInt8) : ∀ (n : Nat) (x : LV) (deep : Nat) (is : Bool) (cnt : Nat), cnt <= 16 -> (cH w n x deep is cnt).2.2 <= 16
 | 0, _, _, _, _, h => h
 | n + 1, x, deep, is, cnt, h => by
  rw [cH]
  split
  ·rename_i c
   exact sU (fun y c h => vn w n y _ _ c h) _ _ _ _ _ _ c.2
  ·exact h
theorem sV {rec : LV -> Nat -> LV × LA × Nat} {w : List UInt8} (plc : Nat -> List UInt8) (dg : Bool) : ∀ (r : List (Nat × Nat)) (i : Nat) (acc : LA) (cnt : Nat), (cD rec w plc dg i acc cnt r).1.length = acc.length + r.length
 | [], _, _, cnt => rfl
 | q :: r, i, acc, cnt => by
  rw [cD, sV plc dg r]
  simp; omega
theorem Bs (x : LV) (is : Bool) (k : Nat) : (cM x is k).length <= x.p.length + 3 := by
 have := rZ x.p k
 unfold cM
 split
 ·split <;> omega
 ·omega
theorem wy (RF : ai.F R) {w : List UInt8} {x : LV} (hx : AC w x) (hw : w.length <= 200000) (cnt : Nat) (κ0 : BA -> Int -> BA -> BA -> BA -> LA -> Bool -> BA -> Bool -> BA -> Bool -> BA -> Bool -> BA -> LA -> LA -> Bool -> BA -> Int -> Int -> Int -> Int -> Int -> LA -> Option R) (κ1 : BA -> Int -> BA -> BA -> BA -> Bool -> BA -> Bool -> BA -> Bool -> BA -> Bool -> BA -> LA -> LA -> Bool -> BA -> Int -> Int -> Int -> Int -> Int -> LA -> Option R) (hκ : ∀ (z : LV) (c : Int) (k : LA), κ1 (B w) c (B z.p) (B z.v.ty) (B z.v.sub) z.v.i0 (B z.v.i1) z.v.a0 (B z.v.a1) (cY z.v.c1) (B z.v.c1) (cY z.v.p1) (B z.v.p1) (z.v.pp.map bi) (bt z.v.lg) z.v.w0 (B z.v.w1) (z.a : Int) (z.b : Int) (z.c : Int) (z.d : Int) (z.e : Int) k = κ0 (B w) c (B z.p) (B z.v.ty) (B z.v.sub) ([] : LA) z.v.i0 (B z.v.i1) z.v.a0 (B z.v.a1) (cY z.v.c1) (B z.v.c1) (cY z.v.p1) (B z.v.p1) (z.v.pp.map bi) (bt z.v.lg) z.v.w0 (B z.v.w1) (z.a : Int) (z.b : Int) (z.c : Int) (z.d : Int) (z.e : Int) k) (f : Nat) (k : LA) :
  ai.mZ aB aA bC aI bI az RF κ0 κ1 (f + 1) (B x.p) (B x.v.ty) (B x.v.sub) (x.v.ps.map bi) x.v.i0 (B x.v.i1) x.v.a0 (B x.v.a1) (cY x.v.c1) (B x.v.c1) (cY x.v.p1) (B x.v.p1) (x.v.pp.map bi) (bt x.v.lg) x.v.w0 (B x.v.w1) (x.a : Int) (x.b : Int) (x.c : Int) (x.d : Int) (x.e : Int) k (B w) (cnt : Int) = κ0 (B w) (cnt : Int) (B (cB w x k.isEmpty).p) (B (cB w x k.isEmpty).v.ty) (B (cB w x k.isEmpty).v.sub) ((cB w x k.isEmpty).v.ps.map bi) (cB w x k.isEmpty).v.i0 (B (cB w x k.isEmpty).v.i1) (cB w x k.isEmpty).v.a0 (B (cB w x k.isEmpty).v.a1) (cY (cB w x k.isEmpty).v.c1) (B (cB w x k.isEmpty).v.c1) (cY (cB w x k.isEmpty).v.p1) (B (cB w x k.isEmpty).v.p1) ((cB w x k.isEmpty).v.pp.map bi) (bt (cB w x k.isEmpty).v.lg) (cB w x k.isEmpty).v.w0 (B (cB w x k.isEmpty).v.w1) ((cB w x k.isEmpty).a : Int) ((cB w x k.isEmpty).b : Int) ((cB w x k.isEmpty).c : Int) ((cB w x k.isEmpty).d : Int) ((cB w x k.isEmpty).e : Int) k := by
 obtain ⟨h1, h2, _, _⟩ := hx
 have hm : ∀ a b : List UInt8, decide (B a = B b) = decide (a = b) := fun a b => decide_eq_decide.2 dQ
 have hbl : (dB w x).length = x.d - x.c := by unfold dB; rw [List.length_drop, List.length_take]; omega
 rw [ai.mZ, ai.t15, aw, ab (by omega), aw, ab (by omega), ab (by rw [ik]; omega), Int.toNat_natCast, Int.toNat_natCast, cU]
 show bC (B (dB w x)) _ _ = _
 rw [EP _ (by omega), BP]
 cases k with
 | cons a k =>
  rw [an (by simp only [List.length_cons]; omega)]
  have : cB w x (a :: k).isEmpty = if ea x then { x with e := dX (dB w x) } else x := rfl
  rw [this]
  cases ea x with
  | true => rfl
  | false => rfl
 | nil =>
  rw [ak (by simp)]
  have : cB w x ([] : LA).isEmpty = (if x.v.ty = mL then { x with e := dX (dB w x) } else if ea x = true ∨ x.v.ty = pa then gk x else x) := rfl
  rw [this, show (⟨#[116, 101, 120, 116]⟩ : BA) = B mL from rfl, hm]
  by_cases c1 : x.v.ty = mL
  ·rw [decide_eq_true c1, cond_true, if_pos c1]
  ·rw [decide_eq_false c1, cond_false, if_neg c1, BP, show (⟨#[109, 117, 108, 116, 105, 112, 97, 114, 116]⟩ : BA) = B pa from rfl, hm]
   have off := hκ (gk x) (cnt : Int) []
   cases c2 : ea x with
   | true => rw [cond_true, if_pos (.inl rfl)]; exact off
   | false =>
    rw [cond_false]
    by_cases c3 : x.v.ty = pa
    ·rw [decide_eq_true c3, cond_true, if_pos (.inr c3)]; exact off
    ·rw [decide_eq_false c3, cond_false, if_neg (fun h => h.elim (fun h => by cases h) c3)]
theorem ta (RF : ai.F R) {w : List UInt8} {x : LV} (hx : AC w x) (hw : w.length <= 200000) (hp : x.p.length <= 1000) (deep : Nat) (hdp : deep <= 100) (ins : Bool) (rec : LV -> Nat -> LV × LA × Nat) (hrc : ∀ y c, c <= 16 -> (rec y c).2.2 <= 16)
  (hrec : ∀ (y : LV) (cnt : Nat) (κ0 : BA -> Int -> BA -> BA -> BA -> LA -> Bool -> BA -> Bool -> BA -> Bool -> BA -> Bool -> BA -> LA -> LA -> Bool -> BA -> Int -> Int -> Int -> Int -> Int -> LA -> Option R) (κ1 : BA -> Int -> BA -> BA -> BA -> Bool -> BA -> Bool -> BA -> Bool -> BA -> Bool -> BA -> LA -> LA -> Bool -> BA -> Int -> Int -> Int -> Int -> Int -> LA -> Option R), AC w y -> y.p.length <= x.p.length + 3 -> cnt <= 16 -> (∀ (z : LV) (c : Int) (k : LA), κ1 (B w) c (B z.p) (B z.v.ty) (B z.v.sub) z.v.i0 (B z.v.i1) z.v.a0 (B z.v.a1) (cY z.v.c1) (B z.v.c1) (cY z.v.p1) (B z.v.p1) (z.v.pp.map bi) (bt z.v.lg) z.v.w0 (B z.v.w1) (z.a : Int) (z.b : Int) (z.c : Int) (z.d : Int) (z.e : Int) k = κ0 (B w) c (B z.p) (B z.v.ty) (B z.v.sub) ([] : LA) z.v.i0 (B z.v.i1) z.v.a0 (B z.v.a1) (cY z.v.c1) (B z.v.c1) (cY z.v.p1) (B z.v.p1) (z.v.pp.map bi) (bt z.v.lg) z.v.w0 (B z.v.w1) (z.a : Int) (z.b : Int) (z.c : Int) (z.d : Int) (z.e : Int) k) -> RF (B w) (cnt : Int) (B y.p) (B y.v.ty) (B y.v.sub) (y.v.ps.map bi) y.v.i0 (B y.v.i1) y.v.a0 (B y.v.a1) (cY y.v.c1) (B y.v.c1) (cY y.v.p1) (B y.v.p1) (y.v.pp.map bi) (bt y.v.lg) y.v.w0 (B y.v.w1) (y.a : Int) (y.b : Int) (y.c : Int) (y.d : Int) (y.e : Int) ((deep + 1 : Nat) : Int) (ea x) κ0 κ1 = κ0 (B w) ((rec y cnt).2.2 : Int) (B (rec y cnt).1.p) (B (rec y cnt).1.v.ty) (B (rec y cnt).1.v.sub) ((rec y cnt).1.v.ps.map bi) (rec y cnt).1.v.i0 (B (rec y cnt).1.v.i1) (rec y cnt).1.v.a0 (B (rec y cnt).1.v.a1) (cY (rec y cnt).1.v.c1) (B (rec y cnt).1.v.c1) (cY (rec y cnt).1.v.p1) (B (rec y cnt).1.v.p1) ((rec y cnt).1.v.pp.map bi) (bt (rec y cnt).1.v.lg) (rec y cnt).1.v.w0 (B (rec y cnt).1.v.w1) ((rec y cnt).1.a : Int) ((rec y cnt).1.b : Int) ((rec y cnt).1.c : Int) ((rec y cnt).1.d : Int) ((rec y cnt).1.e : Int) (rec y cnt).2.1)
  (κ0 : BA -> Int -> BA -> BA -> BA -> LA -> Bool -> BA -> Bool -> BA -> Bool -> BA -> Bool -> BA -> LA -> LA -> Bool -> BA -> Int -> Int -> Int -> Int -> Int -> LA -> Option R) (κ1 : BA -> Int -> BA -> BA -> BA -> Bool -> BA -> Bool -> BA -> Bool -> BA -> Bool -> BA -> LA -> LA -> Bool -> BA -> Int -> Int -> Int -> Int -> Int -> LA -> Option R) (hκ : ∀ (z : LV) (c : Int) (k : LA), κ1 (B w) c (B z.p) (B z.v.ty) (B z.v.sub) z.v.i0 (B z.v.i1) z.v.a0 (B z.v.a1) (cY z.v.c1) (B z.v.c1) (cY z.v.p1) (B z.v.p1) (z.v.pp.map bi) (bt z.v.lg) z.v.w0 (B z.v.w1) (z.a : Int) (z.b : Int) (z.c : Int) (z.d : Int) (z.e : Int) k = κ0 (B w) c (B z.p) (B z.v.ty) (B z.v.sub) ([] : LA) z.v.i0 (B z.v.i1) z.v.a0 (B z.v.a1) (cY z.v.c1) (B z.v.c1) (cY z.v.p1) (B z.v.p1) (z.v.pp.map bi) (bt z.v.lg) z.v.w0 (B z.v.w1) (z.a : Int) (z.b : Int) (z.c : Int) (z.d : Int) (z.e : Int) k) (P : List (Nat × Nat)) (hP : P.length <= 16) (hin : ∀ q ∈ P, q.1 <= q.2 /\ q.2 <= w.length) :
  ∀ (r d : List (Nat × Nat)) (acc : LA) (cnt f : Nat), d ++ r = P -> acc.length = d.length -> cnt <= 16 -> 3 * r.length + 2 <= f ->
  (ai.M5 aB aA bC aI bI az RF κ0 κ1 f).1 (deep : Int) ins (P.length : Int) (d.length : Int) (B x.p) (B x.v.ty) (B x.v.sub) (x.v.ps.map bi) x.v.i0 (B x.v.i1) x.v.a0 (B x.v.a1) (cY x.v.c1) (B x.v.c1) (cY x.v.p1) (B x.v.p1) (x.v.pp.map bi) (bt x.v.lg) x.v.w0 (B x.v.w1) (x.a : Int) (x.b : Int) (x.c : Int) (x.d : Int) (x.e : Int) (B w) (cnt : Int) acc (P.map (fo 0)) = κ0 (B w) ((cD rec w (cM x (ins || decide (deep = 0))) (eA x) d.length acc cnt r).2 : Int) (B (cB w x (cD rec w (cM x (ins || decide (deep = 0))) (eA x) d.length acc cnt r).1.isEmpty).p) (B (cB w x (cD rec w (cM x (ins || decide (deep = 0))) (eA x) d.length acc cnt r).1.isEmpty).v.ty) (B (cB w x (cD rec w (cM x (ins || decide (deep = 0))) (eA x) d.length acc cnt r).1.isEmpty).v.sub) ((cB w x (cD rec w (cM x (ins || decide (deep = 0))) (eA x) d.length acc cnt r).1.isEmpty).v.ps.map bi) (cB w x (cD rec w (cM x (ins || decide (deep = 0))) (eA x) d.length acc cnt r).1.isEmpty).v.i0 (B (cB w x (cD rec w (cM x (ins || decide (deep = 0))) (eA x) d.length acc cnt r).1.isEmpty).v.i1) (cB w x (cD rec w (cM x (ins || decide (deep = 0))) (eA x) d.length acc cnt r).1.isEmpty).v.a0 (B (cB w x (cD rec w (cM x (ins || decide (deep = 0))) (eA x) d.length acc cnt r).1.isEmpty).v.a1) (cY (cB w x (cD rec w (cM x (ins || decide (deep = 0))) (eA x) d.length acc cnt r).1.isEmpty).v.c1) (B (cB w x (cD rec w (cM x (ins || decide (deep = 0))) (eA x) d.length acc cnt r).1.isEmpty).v.c1) (cY (cB w x (cD rec w (cM x (ins || decide (deep = 0))) (eA x) d.length acc cnt r).1.isEmpty).v.p1) (B (cB w x (cD rec w (cM x (ins || decide (deep = 0))) (eA x) d.length acc cnt r).1.isEmpty).v.p1) ((cB w x (cD rec w (cM x (ins || decide (deep = 0))) (eA x) d.length acc cnt r).1.isEmpty).v.pp.map bi) (bt (cB w x (cD rec w (cM x (ins || decide (deep = 0))) (eA x) d.length acc cnt r).1.isEmpty).v.lg) (cB w x (cD rec w (cM x (ins || decide (deep = 0))) (eA x) d.length acc cnt r).1.isEmpty).v.w0 (B (cB w x (cD rec w (cM x (ins || decide (deep = 0))) (eA x) d.length acc cnt r).1.isEmpty).v.w1) ((cB w x (cD rec w (cM x (ins || decide (deep = 0))) (eA x) d.length acc cnt r).1.isEmpty).a : Int) ((cB w x (cD rec w (cM x (ins || decide (deep = 0))) (eA x) d.length acc cnt r).1.isEmpty).b : Int) ((cB w x (cD rec w (cM x (ins || decide (deep = 0))) (eA x) d.length acc cnt r).1.isEmpty).c : Int) ((cB w x (cD rec w (cM x (ins || decide (deep = 0))) (eA x) d.length acc cnt r).1.isEmpty).d : Int) ((cB w x (cD rec w (cM x (ins || decide (deep = 0))) (eA x) d.length acc cnt r).1.isEmpty).e : Int) (cD rec w (cM x (ins || decide (deep = 0))) (eA x) d.length acc cnt r).1
 | [], d, acc, cnt, f, hd, ha, hc, hf => by
  obtain ⟨g, rfl⟩ : ∃ g, f = g + 2 := ⟨f - 2, by omega⟩
  rw [List.append_nil] at hd
  rw [ai.M5]
  simp only
  rw [ai.t5, hd, ak (by omega)]
  exact wy RF hx hw cnt κ0 κ1 hκ g acc
 | q :: r, d, acc, cnt, f, hd, ha, hc, hf => by
  simp only [List.length_cons] at hf
  obtain ⟨g, rfl⟩ : ∃ g, f = g + 3 := ⟨f - 3, by omega⟩
  have hm : ∀ a b : List UInt8, decide (B a = B b) = decide (a = b) := fun a b => decide_eq_decide.2 dQ
  have hlen : d.length + r.length + 1 = P.length := by rw [<- hd]; simp; omega
  have hq : q ∈ P := by rw [<- hd]; simp
  obtain ⟨q1, q2⟩ := hin q hq
  have hget : bK (P.map (fo 0)) (d.length : Int) = fo 0 q := dU (by rw [List.getElem?_map, <- hd]; simp)
  have hpl : (P.map (fo 0)).length = P.length := List.length_map ..
  have f0 : ((fo 0 q).fld 0).i = (q.1 : Int) := by show ((0 + q.1 : Nat) : Int) = _; rw [Nat.zero_add]
  have f1 : ((fo 0 q).fld 1).i = (q.2 : Int) := by show ((0 + q.2 : Nat) : Int) = _; rw [Nat.zero_add]
  have hsl := iL q1 q2
  have w1 : IntKind.wrap .i64 ((d.length : Int) + 1) = ((d.length + 1 : Nat) : Int) := wrap_i64 (by omega) (by omega)
  have w2 : IntKind.wrap .i64 ((deep : Int) + 1) = ((deep + 1 : Nat) : Int) := wrap_i64 (by omega) (by omega)
  have limb := fun (dg : Bool) => BQ (R := R) (w := w) (s := kB w q) (F := q.1) (by rw [hsl, show q.1 + (q.2 - q.1) = q.2 by omega]; rfl) (by omega) hw (cnt : Int) dg
  rw [hsl, show q.1 + (q.2 - q.1) = q.2 by omega] at limb
  have body : (ai.M5 aB aA bC aI bI az RF κ0 κ1 (g + 2)).2.1 (deep : Int) ins (d.length : Int) (P.length : Int) (d.length : Int) (B x.p) (B x.v.ty) (B x.v.sub) (x.v.ps.map bi) x.v.i0 (B x.v.i1) x.v.a0 (B x.v.a1) (cY x.v.c1) (B x.v.c1) (cY x.v.p1) (B x.v.p1) (x.v.pp.map bi) (bt x.v.lg) x.v.w0 (B x.v.w1) (x.a : Int) (x.b : Int) (x.c : Int) (x.d : Int) (x.e : Int) (B w) (cnt : Int) acc (B []) (B (ec w q (cM x (ins || decide (deep = 0)) (d.length + 1)) (eA x)).v.ty) (B (ec w q (cM x (ins || decide (deep = 0)) (d.length + 1)) (eA x)).v.sub) ((ec w q (cM x (ins || decide (deep = 0)) (d.length + 1)) (eA x)).v.ps.map bi) (ec w q (cM x (ins || decide (deep = 0)) (d.length + 1)) (eA x)).v.i0 (B (ec w q (cM x (ins || decide (deep = 0)) (d.length + 1)) (eA x)).v.i1) (ec w q (cM x (ins || decide (deep = 0)) (d.length + 1)) (eA x)).v.a0 (B (ec w q (cM x (ins || decide (deep = 0)) (d.length + 1)) (eA x)).v.a1) (cY (ec w q (cM x (ins || decide (deep = 0)) (d.length + 1)) (eA x)).v.c1) (B (ec w q (cM x (ins || decide (deep = 0)) (d.length + 1)) (eA x)).v.c1) (cY (ec w q (cM x (ins || decide (deep = 0)) (d.length + 1)) (eA x)).v.p1) (B (ec w q (cM x (ins || decide (deep = 0)) (d.length + 1)) (eA x)).v.p1) ((ec w q (cM x (ins || decide (deep = 0)) (d.length + 1)) (eA x)).v.pp.map bi) (bt (ec w q (cM x (ins || decide (deep = 0)) (d.length + 1)) (eA x)).v.lg) (ec w q (cM x (ins || decide (deep = 0)) (d.length + 1)) (eA x)).v.w0 (B (ec w q (cM x (ins || decide (deep = 0)) (d.length + 1)) (eA x)).v.w1) ((ec w q (cM x (ins || decide (deep = 0)) (d.length + 1)) (eA x)).a : Int) ((ec w q (cM x (ins || decide (deep = 0)) (d.length + 1)) (eA x)).b : Int) ((ec w q (cM x (ins || decide (deep = 0)) (d.length + 1)) (eA x)).c : Int) ((ec w q (cM x (ins || decide (deep = 0)) (d.length + 1)) (eA x)).d : Int) ((ec w q (cM x (ins || decide (deep = 0)) (d.length + 1)) (eA x)).e : Int) (P.map (fo 0)) = κ0 (B w) ((cD rec w (cM x (ins || decide (deep = 0))) (eA x) d.length acc cnt (q :: r)).2 : Int) (B (cB w x (cD rec w (cM x (ins || decide (deep = 0))) (eA x) d.length acc cnt (q :: r)).1.isEmpty).p) (B (cB w x (cD rec w (cM x (ins || decide (deep = 0))) (eA x) d.length acc cnt (q :: r)).1.isEmpty).v.ty) (B (cB w x (cD rec w (cM x (ins || decide (deep = 0))) (eA x) d.length acc cnt (q :: r)).1.isEmpty).v.sub) ((cB w x (cD rec w (cM x (ins || decide (deep = 0))) (eA x) d.length acc cnt (q :: r)).1.isEmpty).v.ps.map bi) (cB w x (cD rec w (cM x (ins || decide (deep = 0))) (eA x) d.length acc cnt (q :: r)).1.isEmpty).v.i0 (B (cB w x (cD rec w (cM x (ins || decide (deep = 0))) (eA x) d.length acc cnt (q :: r)).1.isEmpty).v.i1) (cB w x (cD rec w (cM x (ins || decide (deep = 0))) (eA x) d.length acc cnt (q :: r)).1.isEmpty).v.a0 (B (cB w x (cD rec w (cM x (ins || decide (deep = 0))) (eA x) d.length acc cnt (q :: r)).1.isEmpty).v.a1) (cY (cB w x (cD rec w (cM x (ins || decide (deep = 0))) (eA x) d.length acc cnt (q :: r)).1.isEmpty).v.c1) (B (cB w x (cD rec w (cM x (ins || decide (deep = 0))) (eA x) d.length acc cnt (q :: r)).1.isEmpty).v.c1) (cY (cB w x (cD rec w (cM x (ins || decide (deep = 0))) (eA x) d.length acc cnt (q :: r)).1.isEmpty).v.p1) (B (cB w x (cD rec w (cM x (ins || decide (deep = 0))) (eA x) d.length acc cnt (q :: r)).1.isEmpty).v.p1) ((cB w x (cD rec w (cM x (ins || decide (deep = 0))) (eA x) d.length acc cnt (q :: r)).1.isEmpty).v.pp.map bi) (bt (cB w x (cD rec w (cM x (ins || decide (deep = 0))) (eA x) d.length acc cnt (q :: r)).1.isEmpty).v.lg) (cB w x (cD rec w (cM x (ins || decide (deep = 0))) (eA x) d.length acc cnt (q :: r)).1.isEmpty).v.w0 (B (cB w x (cD rec w (cM x (ins || decide (deep = 0))) (eA x) d.length acc cnt (q :: r)).1.isEmpty).v.w1) ((cB w x (cD rec w (cM x (ins || decide (deep = 0))) (eA x) d.length acc cnt (q :: r)).1.isEmpty).a : Int) ((cB w x (cD rec w (cM x (ins || decide (deep = 0))) (eA x) d.length acc cnt (q :: r)).1.isEmpty).b : Int) ((cB w x (cD rec w (cM x (ins || decide (deep = 0))) (eA x) d.length acc cnt (q :: r)).1.isEmpty).c : Int) ((cB w x (cD rec w (cM x (ins || decide (deep = 0))) (eA x) d.length acc cnt (q :: r)).1.isEmpty).d : Int) ((cB w x (cD rec w (cM x (ins || decide (deep = 0))) (eA x) d.length acc cnt (q :: r)).1.isEmpty).e : Int) (cD rec w (cM x (ins || decide (deep = 0))) (eA x) d.length acc cnt (q :: r)).1 := by
   have hkz := Bs x (ins || decide (deep = 0)) (d.length + 1)
   rw [cD, ai.M5]
   simp only
   rw [ai.t8, w1, w2, Ef x (by omega) acc deep ins (d.length + 1) (by omega) (by omega), BO]
   refine (hrec (ec w q (cM x (ins || decide (deep = 0)) (d.length + 1)) (eA x)) cnt _ _ (n9 q1 q2 _ _) hkz hc (fun z c k => rfl)).trans ?_
   rw [ab (by omega), ab (by omega), aw, ab (by omega), ab (by simp only [List.length_append, List.length_cons, List.length_nil]; omega), yc, xt, yO, ai.M5]
   ·simp only
    rw [ai.t14, w1]
    have := ta RF hx hw hp deep hdp ins rec hrc hrec κ0 κ1 hκ P hP hin r (d ++ [q]) (acc ++ [oh (rec (ec w q (cM x (ins || decide (deep = 0)) (d.length + 1)) (eA x)) cnt).1 (rec (ec w q (cM x (ins || decide (deep = 0)) (d.length + 1)) (eA x)) cnt).2.1]) (rec (ec w q (cM x (ins || decide (deep = 0)) (d.length + 1)) (eA x)) cnt).2.2 g (by rw [List.append_assoc]; exact hd) (by simp [ha]) (hrc _ _ hc) (by omega)
    rw [show (d ++ [q]).length = d.length + 1 by simp] at this
    exact this
   ·rfl
   ·rfl
  rw [ai.M5]
  simp only
  rw [ai.t5, hpl, an (by omega), aw, ab (by omega), ab (by omega), hget, f0, f1, limb, limb, show (⟨#[109, 117, 108, 116, 105, 112, 97, 114, 116]⟩ : BA) = B pa from rfl, show (⟨#[100, 105, 103, 101, 115, 116]⟩ : BA) = B sv from rfl, hm, hm]
  unfold eA at body ⊢
  by_cases c1 : x.v.ty = pa
  ·rw [decide_eq_true c1, Bool.true_and] at body
   rw [decide_eq_true c1, cond_true, Bool.true_and]
   exact body
  ·rw [decide_eq_false c1, Bool.false_and] at body
   rw [decide_eq_false c1, cond_false, Bool.false_and]
   exact body
theorem Ew {w : List UInt8} (hw : w.length <= 200000) : ∀ (n fu : Nat) (x : LV) (deep : Nat) (ins : Bool) (cnt : Nat) (κ0 : BA -> Int -> BA -> BA -> BA -> LA -> Bool -> BA -> Bool -> BA -> Bool -> BA -> Bool -> BA -> LA -> LA -> Bool -> BA -> Int -> Int -> Int -> Int -> Int -> LA -> Option R) (κ1 : BA -> Int -> BA -> BA -> BA -> Bool -> BA -> Bool -> BA -> Bool -> BA -> Bool -> BA -> LA -> LA -> Bool -> BA -> Int -> Int -> Int -> Int -> Int -> LA -> Option R), AC w x -> x.p.length + 3 * n <= 1000 -> deep + n = 6 -> 1 <= n -> n <= fu -> cnt <= 16 -> (∀ (z : LV) (c : Int) (k : LA), κ1 (B w) c (B z.p) (B z.v.ty) (B z.v.sub) z.v.i0 (B z.v.i1) z.v.a0 (B z.v.a1) (cY z.v.c1) (B z.v.c1) (cY z.v.p1) (B z.v.p1) (z.v.pp.map bi) (bt z.v.lg) z.v.w0 (B z.v.w1) (z.a : Int) (z.b : Int) (z.c : Int) (z.d : Int) (z.e : Int) k = κ0 (B w) c (B z.p) (B z.v.ty) (B z.v.sub) ([] : LA) z.v.i0 (B z.v.i1) z.v.a0 (B z.v.a1) (cY z.v.c1) (B z.v.c1) (cY z.v.p1) (B z.v.p1) (z.v.pp.map bi) (bt z.v.lg) z.v.w0 (B z.v.w1) (z.a : Int) (z.b : Int) (z.c : Int) (z.d : Int) (z.e : Int) k) ->
  ai.R fu (B w) (cnt : Int) (B x.p) (B x.v.ty) (B x.v.sub) (x.v.ps.map bi) x.v.i0 (B x.v.i1) x.v.a0 (B x.v.a1) (cY x.v.c1) (B x.v.c1) (cY x.v.p1) (B x.v.p1) (x.v.pp.map bi) (bt x.v.lg) x.v.w0 (B x.v.w1) (x.a : Int) (x.b : Int) (x.c : Int) (x.d : Int) (x.e : Int) (deep : Int) ins κ0 κ1 = κ0 (B w) ((cH w n x deep (ins || decide (deep = 0)) cnt).2.2 : Int) (B (cH w n x deep (ins || decide (deep = 0)) cnt).1.p) (B (cH w n x deep (ins || decide (deep = 0)) cnt).1.v.ty) (B (cH w n x deep (ins || decide (deep = 0)) cnt).1.v.sub) ((cH w n x deep (ins || decide (deep = 0)) cnt).1.v.ps.map bi) (cH w n x deep (ins || decide (deep = 0)) cnt).1.v.i0 (B (cH w n x deep (ins || decide (deep = 0)) cnt).1.v.i1) (cH w n x deep (ins || decide (deep = 0)) cnt).1.v.a0 (B (cH w n x deep (ins || decide (deep = 0)) cnt).1.v.a1) (cY (cH w n x deep (ins || decide (deep = 0)) cnt).1.v.c1) (B (cH w n x deep (ins || decide (deep = 0)) cnt).1.v.c1) (cY (cH w n x deep (ins || decide (deep = 0)) cnt).1.v.p1) (B (cH w n x deep (ins || decide (deep = 0)) cnt).1.v.p1) ((cH w n x deep (ins || decide (deep = 0)) cnt).1.v.pp.map bi) (bt (cH w n x deep (ins || decide (deep = 0)) cnt).1.v.lg) (cH w n x deep (ins || decide (deep = 0)) cnt).1.v.w0 (B (cH w n x deep (ins || decide (deep = 0)) cnt).1.v.w1) ((cH w n x deep (ins || decide (deep = 0)) cnt).1.a : Int) ((cH w n x deep (ins || decide (deep = 0)) cnt).1.b : Int) ((cH w n x deep (ins || decide (deep = 0)) cnt).1.c : Int) ((cH w n x deep (ins || decide (deep = 0)) cnt).1.d : Int) ((cH w n x deep (ins || decide (deep = 0)) cnt).1.e : Int) (cH w n x deep (ins || decide (deep = 0)) cnt).2.1
 | 0, _, _, _, _, _, _, _, _, _, _, h, _, _, _ => by omega
 | _ + 1, 0, _, _, _, _, _, _, _, _, _, _, h, _, _ => by omega
 | n + 1, fu + 1, x, deep, ins, cnt, κ0, κ1, hx, hp, hn, _, hfu, hc, hκ => by
  rw [ai.R, ai.B]
  have key : ∀ f, 1000 <= f -> ai.e aB aA bC aI bI az (ai.R fu) (B w) (cnt : Int) (B x.p) (B x.v.ty) (B x.v.sub) (x.v.ps.map bi) x.v.i0 (B x.v.i1) x.v.a0 (B x.v.a1) (cY x.v.c1) (B x.v.c1) (cY x.v.p1) (B x.v.p1) (x.v.pp.map bi) (bt x.v.lg) x.v.w0 (B x.v.w1) (x.a : Int) (x.b : Int) (x.c : Int) (x.d : Int) (x.e : Int) (deep : Int) ins (ai.L2 aB aA bC aI bI az (ai.R fu) κ0 κ1 (f + 1)) (ai.L5 aB aA bC aI bI az (ai.R fu) κ0 κ1 (f + 1)) (ai.L8 aB aA bC aI bI az (ai.R fu) κ0 κ1 (f + 1)) (ai.DQ aB aA bC aI bI az (ai.R fu) κ0 κ1 (f + 1)) (ai.mZ aB aA bC aI bI az (ai.R fu) κ0 κ1 (f + 1)) κ0 κ1 = κ0 (B w) ((cH w (n + 1) x deep (ins || decide (deep = 0)) cnt).2.2 : Int) (B (cH w (n + 1) x deep (ins || decide (deep = 0)) cnt).1.p) (B (cH w (n + 1) x deep (ins || decide (deep = 0)) cnt).1.v.ty) (B (cH w (n + 1) x deep (ins || decide (deep = 0)) cnt).1.v.sub) ((cH w (n + 1) x deep (ins || decide (deep = 0)) cnt).1.v.ps.map bi) (cH w (n + 1) x deep (ins || decide (deep = 0)) cnt).1.v.i0 (B (cH w (n + 1) x deep (ins || decide (deep = 0)) cnt).1.v.i1) (cH w (n + 1) x deep (ins || decide (deep = 0)) cnt).1.v.a0 (B (cH w (n + 1) x deep (ins || decide (deep = 0)) cnt).1.v.a1) (cY (cH w (n + 1) x deep (ins || decide (deep = 0)) cnt).1.v.c1) (B (cH w (n + 1) x deep (ins || decide (deep = 0)) cnt).1.v.c1) (cY (cH w (n + 1) x deep (ins || decide (deep = 0)) cnt).1.v.p1) (B (cH w (n + 1) x deep (ins || decide (deep = 0)) cnt).1.v.p1) ((cH w (n + 1) x deep (ins || decide (deep = 0)) cnt).1.v.pp.map bi) (bt (cH w (n + 1) x deep (ins || decide (deep = 0)) cnt).1.v.lg) (cH w (n + 1) x deep (ins || decide (deep = 0)) cnt).1.v.w0 (B (cH w (n + 1) x deep (ins || decide (deep = 0)) cnt).1.v.w1) ((cH w (n + 1) x deep (ins || decide (deep = 0)) cnt).1.a : Int) ((cH w (n + 1) x deep (ins || decide (deep = 0)) cnt).1.b : Int) ((cH w (n + 1) x deep (ins || decide (deep = 0)) cnt).1.c : Int) ((cH w (n + 1) x deep (ins || decide (deep = 0)) cnt).1.d : Int) ((cH w (n + 1) x deep (ins || decide (deep = 0)) cnt).1.e : Int) (cH w (n + 1) x deep (ins || decide (deep = 0)) cnt).2.1 := by
   intro f hf
   obtain ⟨h1, h2, h3, h4⟩ := hx
   have hx : AC w x := ⟨h1, h2, h3, h4⟩
   have hlp : ((gM w x).map (fo 0)).length = (gM w x).length := List.length_map ..
   have hpb : (gM w x).length <= 1000000 := by
    have hbl : (dB w x).length = x.d - x.c := by unfold dB; rw [List.length_drop, List.length_take]; omega
    unfold gM
    split
    ·split <;> simp
    ·split
     ·have := lB (fR x.v.ps) (dB w x) _ none (dB w x) (Nat.le_refl _)
      rw [List.length_map]; omega
     ·simp
   rw [ai.e]
   refine (ER h1 h2 hw h3 (by omega) (cnt : Int) _ _ (by rfl)).trans ?_
   rw [ai.L2, ai.t2, hlp, wrap_i64 (by omega) (by omega)]
   rw [cH]
   have fin0 := wy (ai.R fu) hx hw cnt κ0 κ1 hκ (f - 1) []
   rw [show f - 1 + 1 = f by omega] at fin0
   by_cases c1 : deep < 5
   ·rw [an (by omega)]
    by_cases c2 : cnt + (gM w x).length <= 16
    ·rw [an (by omega), if_pos ⟨c1, c2⟩]
     have hl := ta (ai.R fu) hx hw (by omega) deep (by omega) ins (fun y c => cH w n y (deep + 1) (ea x) c) (fun y c h => vn w n y _ _ c h)
      (fun y cnt κ0 κ1 hy hyp hcn hk => by
       have := Ew hw n fu y (deep + 1) (ea x) cnt κ0 κ1 hy (by omega) (by omega) (by omega) (by omega) hcn hk
       rw [decide_eq_false (show ¬ deep + 1 = 0 by omega), Bool.or_false] at this
       exact this)
      κ0 κ1 hκ (gM w x) (by omega) (zW hw hx) (gM w x) [] [] (cnt + (gM w x).length) f rfl rfl c2 (by omega)
     exact hl
    ·rw [ak (by omega), if_neg (fun h => c2 h.2)]
     exact fin0
   ·rw [ak (by omega), if_neg (fun h => c1 h.1)]
    exact fin0
  exact key (ag - 1) (by unfold ag; omega)
theorem Bp {w : List UInt8} {x : LV} (h : ea x = true) : gM w x = [] ∨ gM w x = [(x.c, x.d)] := by
 unfold gM
 rw [if_pos h]
 split
 ·exact .inr rfl
 ·exact .inl rfl
theorem zQ {x : LV} (h : ea x = true) : x.v.ty = iD := by
 unfold ea at h
 rw [Bool.and_eq_true] at h
 exact of_decide_eq_true h.1
theorem tP (RF : ao.F R) {w : List UInt8} {x : LV} (hw : w.length <= 200000) (hp : x.p.length <= 1000) (deep : Nat) (hdp : deep <= 100) (hmx : ea x = false) (hty : x.v.ty = pa) (is : Bool) (rec : LV -> Nat -> LV × LA × Nat) (hrc : ∀ y c, c <= 16 -> (rec y c).2.2 <= 16)
  (hrec : ∀ (y : LV) (cnt : Nat) (κ0 : BA -> BA -> BA -> LA -> Bool -> BA -> Bool -> BA -> Bool -> BA -> Bool -> BA -> LA -> LA -> Bool -> BA -> Int -> Int -> Int -> Int -> Int -> LA -> Int -> Option R), AC w y -> y.p.length <= x.p.length + 3 -> cnt <= 16 -> RF (B w) (B y.p) (B y.v.ty) (B y.v.sub) (y.v.ps.map bi) y.v.i0 (B y.v.i1) y.v.a0 (B y.v.a1) (cY y.v.c1) (B y.v.c1) (cY y.v.p1) (B y.v.p1) (y.v.pp.map bi) (bt y.v.lg) y.v.w0 (B y.v.w1) (y.a : Int) (y.b : Int) (y.c : Int) (y.d : Int) (y.e : Int) ((deep + 1 : Nat) : Int) false (cnt : Int) κ0 = κ0 (B (rec y cnt).1.p) (B (rec y cnt).1.v.ty) (B (rec y cnt).1.v.sub) ((rec y cnt).1.v.ps.map bi) (rec y cnt).1.v.i0 (B (rec y cnt).1.v.i1) (rec y cnt).1.v.a0 (B (rec y cnt).1.v.a1) (cY (rec y cnt).1.v.c1) (B (rec y cnt).1.v.c1) (cY (rec y cnt).1.v.p1) (B (rec y cnt).1.v.p1) ((rec y cnt).1.v.pp.map bi) (bt (rec y cnt).1.v.lg) (rec y cnt).1.v.w0 (B (rec y cnt).1.v.w1) ((rec y cnt).1.a : Int) ((rec y cnt).1.b : Int) ((rec y cnt).1.c : Int) ((rec y cnt).1.d : Int) ((rec y cnt).1.e : Int) (rec y cnt).2.1 ((rec y cnt).2.2 : Int))
  (κ0 : BA -> BA -> BA -> LA -> Bool -> BA -> Bool -> BA -> Bool -> BA -> Bool -> BA -> LA -> LA -> Bool -> BA -> Int -> Int -> Int -> Int -> Int -> LA -> Int -> Option R) (P : List (Nat × Nat)) (hP : P.length <= 16) (hin : ∀ q ∈ P, q.1 <= q.2 /\ q.2 <= w.length) :
  ∀ (r d : List (Nat × Nat)) (acc : LA) (cnt f : Nat), d ++ r = P -> acc.length = d.length -> cnt <= 16 -> r.length + 2 <= f ->
  ao.BH br aN bf aT RF κ0 f (B w) (deep : Int) (cnt : Int) (d.length : Int) (B x.p) (B x.v.ty) (B x.v.sub) (x.v.ps.map bi) x.v.i0 (B x.v.i1) x.v.a0 (B x.v.a1) (cY x.v.c1) (B x.v.c1) (cY x.v.p1) (B x.v.p1) (x.v.pp.map bi) (bt x.v.lg) x.v.w0 (B x.v.w1) (x.a : Int) (x.b : Int) (x.c : Int) (x.d : Int) (x.e : Int) acc (⟨#[]⟩ : BA) (⟨#[]⟩ : BA) (⟨#[]⟩ : BA) false (⟨#[]⟩ : BA) false (⟨#[]⟩ : BA) false (⟨#[]⟩ : BA) false (⟨#[]⟩ : BA) false (⟨#[]⟩ : BA) 0 0 0 0 0 (P.map (fo 0)) = κ0 (B x.p) (B x.v.ty) (B x.v.sub) (x.v.ps.map bi) x.v.i0 (B x.v.i1) x.v.a0 (B x.v.a1) (cY x.v.c1) (B x.v.c1) (cY x.v.p1) (B x.v.p1) (x.v.pp.map bi) (bt x.v.lg) x.v.w0 (B x.v.w1) (x.a : Int) (x.b : Int) (x.c : Int) (x.d : Int) (x.e : Int) (cD rec w (cM x is) (eA x) d.length acc cnt r).1 ((cD rec w (cM x is) (eA x) d.length acc cnt r).2 : Int)
 | [], d, acc, cnt, f, hd, ha, hc, hf => by
  obtain ⟨g, rfl⟩ : ∃ g, f = g + 2 := ⟨f - 2, by omega⟩
  rw [List.append_nil] at hd
  have hpl : (P.map (fo 0)).length = P.length := List.length_map ..
  rw [ao.BH, ao.t22, hpl, hd, ak (by omega)]
  rfl
 | q :: r, d, acc, cnt, f, hd, ha, hc, hf => by
  simp only [List.length_cons] at hf
  obtain ⟨g, rfl⟩ : ∃ g, f = g + 1 := ⟨f - 1, by omega⟩
  have hm : ∀ a b : List UInt8, decide (B a = B b) = decide (a = b) := fun a b => decide_eq_decide.2 dQ
  have hlen : d.length + r.length + 1 = P.length := by rw [<- hd]; simp; omega
  have hq : q ∈ P := by rw [<- hd]; simp
  obtain ⟨q1, q2⟩ := hin q hq
  have hget : bK (P.map (fo 0)) (d.length : Int) = fo 0 q := dU (by rw [List.getElem?_map, <- hd]; simp)
  have hpl : (P.map (fo 0)).length = P.length := List.length_map ..
  have f0 : ((fo 0 q).fld 0).i = (q.1 : Int) := by show ((0 + q.1 : Nat) : Int) = _; rw [Nat.zero_add]
  have f1 : ((fo 0 q).fld 1).i = (q.2 : Int) := by show ((0 + q.2 : Nat) : Int) = _; rw [Nat.zero_add]
  have hsl := iL q1 q2
  have w1 : IntKind.wrap .i64 ((d.length : Int) + 1) = ((d.length + 1 : Nat) : Int) := wrap_i64 (by omega) (by omega)
  have w2 : IntKind.wrap .i64 ((deep : Int) + 1) = ((deep + 1 : Nat) : Int) := wrap_i64 (by omega) (by omega)
  have limb := fun (p : BA) (dg : Bool) => z7 (R := R) (w := w) (s := kB w q) (F := q.1) (by rw [hsl, show q.1 + (q.2 - q.1) = q.2 by omega]; rfl) (by omega) hw p dg
  rw [hsl, show q.1 + (q.2 - q.1) = q.2 by omega] at limb
  have hul := rZ x.p (d.length + 1)
  have hpe : cM x is (d.length + 1) = vM x.p (d.length + 1) := by unfold cM; rw [if_neg (by rw [hmx]; decide)]
  have hde : eA x = decide (x.v.sub = sv) := by unfold eA; rw [decide_eq_true hty, Bool.true_and]
  rw [ao.BH, ao.t22, hpl, an (by omega), aw, ab (by omega), ab (by omega), hget, f0, f1, w1, w2, DO _ (by omega) _ (by omega) (by omega), show (⟨#[100, 105, 103, 101, 115, 116]⟩ : BA) = B sv from rfl, hm, limb]
  rw [cD, hpe, hde]
  refine (hrec (ec w q (vM x.p (d.length + 1)) (decide (x.v.sub = sv))) cnt _ (n9 q1 q2 _ _) hul hc).trans ?_
  rw [ab (by omega)]
  have := tP RF hw hp deep hdp hmx hty is rec hrc hrec κ0 P hP hin r (d ++ [q]) (acc ++ [oh (rec (ec w q (vM x.p (d.length + 1)) (decide (x.v.sub = sv))) cnt).1 (rec (ec w q (vM x.p (d.length + 1)) (decide (x.v.sub = sv))) cnt).2.1]) (rec (ec w q (vM x.p (d.length + 1)) (decide (x.v.sub = sv))) cnt).2.2 g (by rw [List.append_assoc]; exact hd) (by simp [ha]) (hrc _ _ hc) (by omega)
  rw [show (d ++ [q]).length = d.length + 1 by simp] at this
  rw [hde] at this
  exact this
theorem zD {rec : LV -> Nat -> LV × LA × Nat} {w : List UInt8} (plc : Nat -> List UInt8) (dg : Bool) (r : List (Nat × Nat)) (cnt : Nat) (h : r ≠ []) : (cD rec w plc dg 0 [] cnt r).1.isEmpty = false := by
 have := sV (rec := rec) (w := w) plc dg r 0 [] cnt
 cases r with
 | nil => exact absurd rfl h
 | cons q r =>
  cases e : (cD rec w plc dg 0 [] cnt (q :: r)).1 with
  | nil => rw [e] at this; simp at this
  | cons a l => rfl
theorem sW (rec : LV -> Nat -> LV × LA × Nat) (w : List UInt8) (plc : Nat -> List UInt8) (dg : Bool) (cnt : Nat) (q : Nat × Nat) : cD rec w plc dg 0 [] cnt [q] = ([oh (rec (ec w q (plc 1) dg) cnt).1 (rec (ec w q (plc 1) dg) cnt).2.1], (rec (ec w q (plc 1) dg) cnt).2.2) := rfl
theorem En {w : List UInt8} (hw : w.length <= 200000) : ∀ (n fu : Nat) (x : LV) (deep : Nat) (is : Bool) (cnt : Nat) (κ0 : BA -> BA -> BA -> LA -> Bool -> BA -> Bool -> BA -> Bool -> BA -> Bool -> BA -> LA -> LA -> Bool -> BA -> Int -> Int -> Int -> Int -> Int -> LA -> Int -> Option R), AC w x -> x.p.length + 3 * n <= 1000 -> deep + n = 6 -> 1 <= n -> n <= fu -> cnt <= 16 ->
  ao.R fu (B w) (B x.p) (B x.v.ty) (B x.v.sub) (x.v.ps.map bi) x.v.i0 (B x.v.i1) x.v.a0 (B x.v.a1) (cY x.v.c1) (B x.v.c1) (cY x.v.p1) (B x.v.p1) (x.v.pp.map bi) (bt x.v.lg) x.v.w0 (B x.v.w1) (x.a : Int) (x.b : Int) (x.c : Int) (x.d : Int) (x.e : Int) (deep : Int) is (cnt : Int) κ0 = κ0 (B (cH w n x deep is cnt).1.p) (B (cH w n x deep is cnt).1.v.ty) (B (cH w n x deep is cnt).1.v.sub) ((cH w n x deep is cnt).1.v.ps.map bi) (cH w n x deep is cnt).1.v.i0 (B (cH w n x deep is cnt).1.v.i1) (cH w n x deep is cnt).1.v.a0 (B (cH w n x deep is cnt).1.v.a1) (cY (cH w n x deep is cnt).1.v.c1) (B (cH w n x deep is cnt).1.v.c1) (cY (cH w n x deep is cnt).1.v.p1) (B (cH w n x deep is cnt).1.v.p1) ((cH w n x deep is cnt).1.v.pp.map bi) (bt (cH w n x deep is cnt).1.v.lg) (cH w n x deep is cnt).1.v.w0 (B (cH w n x deep is cnt).1.v.w1) ((cH w n x deep is cnt).1.a : Int) ((cH w n x deep is cnt).1.b : Int) ((cH w n x deep is cnt).1.c : Int) ((cH w n x deep is cnt).1.d : Int) ((cH w n x deep is cnt).1.e : Int) (cH w n x deep is cnt).2.1 ((cH w n x deep is cnt).2.2 : Int)
 | 0, _, _, _, _, _, _, _, _, _, h, _, _ => by omega
 | _ + 1, 0, _, _, _, _, _, _, _, _, _, h, _ => by omega
 | n + 1, fu + 1, x, deep, is, cnt, κ0, hx, hp, hn, _, hfu, hc => by
  obtain ⟨h1, h2, h3, h4⟩ := hx
  have hx : AC w x := ⟨h1, h2, h3, h4⟩
  have hm : ∀ a b : List UInt8, decide (B a = B b) = decide (a = b) := fun a b => decide_eq_decide.2 dQ
  have hbl : (dB w x).length = x.d - x.c := by unfold dB; rw [List.length_drop, List.length_take]; omega
  have hlp : ((gM w x).map (fo 0)).length = (gM w x).length := List.length_map ..
  have hpb : (gM w x).length <= 1000000 := by
   unfold gM
   split
   ·split <;> simp
   ·split
    ·have := lB (fR x.v.ps) (dB w x) _ none (dB w x) (Nat.le_refl _)
     rw [List.length_map]; omega
    ·simp
  have endsB : ∀ κ : Int -> Option R, (bB ((decide ((0 : Int) <= (x.c : Int))) && ((decide ((x.c : Int) <= (x.d : Int))) && (decide ((x.d : Int) <= ((B w).size : Int))))) (br ((B w).extract ((x.c : Int)).toNat ((x.d : Int)).toNat) κ)) = κ (dX (dB w x) : Int) := fun κ => by
   rw [aw, ab (by omega), aw, ab (by omega), ab (by rw [ik]; omega), Int.toNat_natCast, Int.toNat_natCast, cU]
   exact EW (dB w x) (by omega) κ
  rw [ao.R, ao.B]
  -- behind the lines of a text
  have j7 : ∀ f, 1000 <= f -> (x.v.ty = pa ∨ ea x = true) -> ao.L7 br aN bf aT (ao.R fu) κ0 f (B w) (deep : Int) is (cnt : Int) (ea x) (B x.p) (B x.v.ty) (B x.v.sub) (x.v.ps.map bi) x.v.i0 (B x.v.i1) x.v.a0 (B x.v.a1) (cY x.v.c1) (B x.v.c1) (cY x.v.p1) (B x.v.p1) (x.v.pp.map bi) (bt x.v.lg) x.v.w0 (B x.v.w1) (x.a : Int) (x.b : Int) (x.c : Int) (x.d : Int) (x.e : Int) (⟨#[]⟩ : BA) (⟨#[]⟩ : BA) (⟨#[]⟩ : BA) false (⟨#[]⟩ : BA) false (⟨#[]⟩ : BA) false (⟨#[]⟩ : BA) false (⟨#[]⟩ : BA) false (⟨#[]⟩ : BA) 0 0 0 0 0 ((gM w x).map (fo 0)) = κ0 (B (cH w (n + 1) x deep is cnt).1.p) (B (cH w (n + 1) x deep is cnt).1.v.ty) (B (cH w (n + 1) x deep is cnt).1.v.sub) ((cH w (n + 1) x deep is cnt).1.v.ps.map bi) (cH w (n + 1) x deep is cnt).1.v.i0 (B (cH w (n + 1) x deep is cnt).1.v.i1) (cH w (n + 1) x deep is cnt).1.v.a0 (B (cH w (n + 1) x deep is cnt).1.v.a1) (cY (cH w (n + 1) x deep is cnt).1.v.c1) (B (cH w (n + 1) x deep is cnt).1.v.c1) (cY (cH w (n + 1) x deep is cnt).1.v.p1) (B (cH w (n + 1) x deep is cnt).1.v.p1) ((cH w (n + 1) x deep is cnt).1.v.pp.map bi) (bt (cH w (n + 1) x deep is cnt).1.v.lg) (cH w (n + 1) x deep is cnt).1.v.w0 (B (cH w (n + 1) x deep is cnt).1.v.w1) ((cH w (n + 1) x deep is cnt).1.a : Int) ((cH w (n + 1) x deep is cnt).1.b : Int) ((cH w (n + 1) x deep is cnt).1.c : Int) ((cH w (n + 1) x deep is cnt).1.d : Int) ((cH w (n + 1) x deep is cnt).1.e : Int) (cH w (n + 1) x deep is cnt).2.1 ((cH w (n + 1) x deep is cnt).2.2 : Int) := by
   intro f hf hmm
   obtain ⟨g, rfl⟩ : ∃ g, f = g + 4 := ⟨f - 4, by omega⟩
   have hnt : x.v.ty ≠ mL := by
    rcases hmm with h | h
    ·rw [h]; decide
    ·rw [zQ h]; decide
   have hfin : cB w x true = gk x := by
    unfold cB
    rw [if_pos rfl, if_neg hnt, if_pos hmm.symm]
   have off : κ0 (B (gk x).p) (B (gk x).v.ty) (B (gk x).v.sub) ((gk x).v.ps.map bi) (gk x).v.i0 (B (gk x).v.i1) (gk x).v.a0 (B (gk x).v.a1) (cY (gk x).v.c1) (B (gk x).v.c1) (cY (gk x).v.p1) (B (gk x).v.p1) ((gk x).v.pp.map bi) (bt (gk x).v.lg) (gk x).v.w0 (B (gk x).v.w1) ((gk x).a : Int) ((gk x).b : Int) ((gk x).c : Int) ((gk x).d : Int) ((gk x).e : Int) [] (cnt : Int) = κ0 (B (cB w x true).p) (B (cB w x true).v.ty) (B (cB w x true).v.sub) ((cB w x true).v.ps.map bi) (cB w x true).v.i0 (B (cB w x true).v.i1) (cB w x true).v.a0 (B (cB w x true).v.a1) (cY (cB w x true).v.c1) (B (cB w x true).v.c1) (cY (cB w x true).v.p1) (B (cB w x true).v.p1) ((cB w x true).v.pp.map bi) (bt (cB w x true).v.lg) (cB w x true).v.w0 (B (cB w x true).v.w1) ((cB w x true).a : Int) ((cB w x true).b : Int) ((cB w x true).c : Int) ((cB w x true).d : Int) ((cB w x true).e : Int) [] (cnt : Int) := by rw [hfin]
   rw [ao.L7, ao.t7, hlp, cH]
   by_cases c0 : gM w x = []
   ·have ct : (gM w x).length = 0 := by rw [c0]; rfl
    rw [fS (by omega), cond_true]
    by_cases c1 : deep < 5 /\ cnt + (gM w x).length <= 16
    ·rw [if_pos c1, c0]
     exact off
    ·rw [if_neg c1]
     exact off
   ·have ct : (gM w x).length ≠ 0 := fun h => c0 (List.eq_nil_of_length_eq_zero h)
    rw [fB (by omega), cond_false]
    by_cases c1 : deep < 5
    ·rw [ak (by omega), wrap_i64 (by omega) (by omega)]
     by_cases c2 : cnt + (gM w x).length <= 16
     ·rw [ak (by omega), if_pos ⟨c1, c2⟩]
      have hrc : ∀ y c, c <= 16 -> (cH w n y (deep + 1) (ea x) c).2.2 <= 16 := fun y c h => vn w n y _ _ c h
      have hne := zD (rec := fun y c => cH w n y (deep + 1) (ea x) c) (w := w) (cM x is) (eA x) (gM w x) (cnt + (gM w x).length) c0
      have hfin2 : cB w x false = if ea x then { x with e := dX (dB w x) } else x := rfl
      have hw2 : ((cnt : Int) + ((gM w x).length : Int)) = ((cnt + (gM w x).length : Nat) : Int) := by omega
      simp only [hne]
      rw [hfin2, hw2]
      cases hmx : ea x with
      | false =>
       rw [cond_false, if_neg (by decide)]
       have hty : x.v.ty = pa := hmm.resolve_right (by rw [hmx]; decide)
       rw [hmx] at hrc
       exact tP (ao.R fu) hw (by omega) deep (by omega) hmx hty is (fun y c => cH w n y (deep + 1) false c) hrc
        (fun y cnt κ0 hy hyp hcn => En hw n fu y (deep + 1) false cnt κ0 hy (by omega) (by omega) (by omega) (by omega) hcn)
        κ0 (gM w x) (by omega) (zW hw hx) (gM w x) [] [] (cnt + (gM w x).length) (g + 3) rfl rfl c2 (by omega)
      | true =>
       have hone : gM w x = [(x.c, x.d)] := (Bp hmx).resolve_left c0
       have hdg : eA x = false := by unfold eA; rw [zQ hmx]; rfl
       rw [hone] at c2 ⊢
       rw [cond_true, if_pos rfl, endsB, hdg]
       rw [hmx] at hrc
       have hsl := iL (q := (x.c, x.d)) h1 h2
       have limb := fun (p : BA) (dg : Bool) => z7 (R := R) (w := w) (s := kB w (x.c, x.d)) (F := x.c) (by rw [hsl]; show (w.take (x.c + (x.d - x.c))).drop x.c = _; rw [show x.c + (x.d - x.c) = x.d by omega]; rfl) (by rw [hsl]; show x.c + (x.d - x.c) <= _; omega) hw p dg
       rw [hsl, show x.c + ((x.c, x.d).2 - (x.c, x.d).1) = x.d by show x.c + (x.d - x.c) = x.d; omega] at limb
       have w2 : IntKind.wrap .i64 ((deep : Int) + 1) = ((deep + 1 : Nat) : Int) := wrap_i64 (by omega) (by omega)
       have f0 : ((bK ([(x.c, x.d)].map (fo 0)) 0).fld 0).i = (x.c : Int) := by show ((0 + x.c : Nat) : Int) = _; rw [Nat.zero_add]
       have f1 : ((bK ([(x.c, x.d)].map (fo 0)) 0).fld 1).i = (x.d : Int) := by show ((0 + x.d : Nat) : Int) = _; rw [Nat.zero_add]
       have hul := rZ x.p 1
       have j18 : ∀ p : List UInt8, p.length <= x.p.length + 3 -> ao.Db br aN bf aT (ao.R fu) κ0 (g + 3) (B w) (deep : Int) ((cnt + [(x.c, x.d)].length : Nat) : Int) (B p) (B x.p) (B x.v.ty) (B x.v.sub) (x.v.ps.map bi) x.v.i0 (B x.v.i1) x.v.a0 (B x.v.a1) (cY x.v.c1) (B x.v.c1) (cY x.v.p1) (B x.v.p1) (x.v.pp.map bi) (bt x.v.lg) x.v.w0 (B x.v.w1) (x.a : Int) (x.b : Int) (x.c : Int) (x.d : Int) (dX (dB w x) : Int) (⟨#[]⟩ : BA) (⟨#[]⟩ : BA) (⟨#[]⟩ : BA) false (⟨#[]⟩ : BA) false (⟨#[]⟩ : BA) false (⟨#[]⟩ : BA) false (⟨#[]⟩ : BA) false (⟨#[]⟩ : BA) 0 0 0 0 0 ([(x.c, x.d)].map (fo 0)) = κ0 (B x.p) (B x.v.ty) (B x.v.sub) (x.v.ps.map bi) x.v.i0 (B x.v.i1) x.v.a0 (B x.v.a1) (cY x.v.c1) (B x.v.c1) (cY x.v.p1) (B x.v.p1) (x.v.pp.map bi) (bt x.v.lg) x.v.w0 (B x.v.w1) (x.a : Int) (x.b : Int) (x.c : Int) (x.d : Int) (dX (dB w x) : Int) [oh (cH w n (ec w (x.c, x.d) p false) (deep + 1) true (cnt + [(x.c, x.d)].length)).1 (cH w n (ec w (x.c, x.d) p false) (deep + 1) true (cnt + [(x.c, x.d)].length)).2.1] ((cH w n (ec w (x.c, x.d) p false) (deep + 1) true (cnt + [(x.c, x.d)].length)).2.2 : Int) := by
        intro p hpp
        rw [ao.Db, ao.t18, ab (by simp), f0, f1, w2, limb]
        refine (En hw n fu (ec w (x.c, x.d) p false) (deep + 1) true (cnt + [(x.c, x.d)].length) _ (n9 h1 h2 _ _) (by show p.length + _ <= _; omega) (by omega) (by omega) (by omega) c2).trans ?_
        rfl
       cases is with
       | true =>
        rw [cond_true]
        have hu := DO (R := R) x.p (by omega) 1 (by omega) (by omega)
        refine (hu _).trans ?_
        refine (j18 (vM x.p 1) (by omega)).trans ?_
        have hpe : cM x true 1 = vM x.p 1 := by unfold cM; rw [if_pos hmx, if_pos rfl]
        rw [sW, hpe]
       | false =>
        rw [cond_false]
        refine (j18 x.p (by omega)).trans ?_
        have hpe : cM x false 1 = x.p := by unfold cM; rw [if_pos hmx, if_neg (by decide)]
        rw [sW, hpe]
     ·rw [an (by omega), if_neg (fun h => c2 h.2)]
      exact off
    ·rw [an (by omega), if_neg (fun h => c1 h.1)]
     exact off
  have inn : ∀ (f : Nat), 1000 <= f -> (x.v.ty = pa ∨ ea x = true) -> aN (B w) (B x.p) (B x.v.ty) (B x.v.sub) (x.v.ps.map bi) x.v.i0 (B x.v.i1) x.v.a0 (B x.v.a1) (cY x.v.c1) (B x.v.c1) (cY x.v.p1) (B x.v.p1) (x.v.pp.map bi) (bt x.v.lg) x.v.w0 (B x.v.w1) (x.a : Int) (x.b : Int) (x.c : Int) (x.d : Int) (x.e : Int) (ao.L7 br aN bf aT (ao.R fu) κ0 f (B w) (deep : Int) is (cnt : Int) (ea x) (B x.p) (B x.v.ty) (B x.v.sub) (x.v.ps.map bi) x.v.i0 (B x.v.i1) x.v.a0 (B x.v.a1) (cY x.v.c1) (B x.v.c1) (cY x.v.p1) (B x.v.p1) (x.v.pp.map bi) (bt x.v.lg) x.v.w0 (B x.v.w1) (x.a : Int) (x.b : Int) (x.c : Int) (x.d : Int) (x.e : Int) (⟨#[]⟩ : BA) (⟨#[]⟩ : BA) (⟨#[]⟩ : BA) false (⟨#[]⟩ : BA) false (⟨#[]⟩ : BA) false (⟨#[]⟩ : BA) false (⟨#[]⟩ : BA) false (⟨#[]⟩ : BA) 0 0 0 0 0 []) (fun r => ao.L7 br aN bf aT (ao.R fu) κ0 f (B w) (deep : Int) is (cnt : Int) (ea x) (B x.p) (B x.v.ty) (B x.v.sub) (x.v.ps.map bi) x.v.i0 (B x.v.i1) x.v.a0 (B x.v.a1) (cY x.v.c1) (B x.v.c1) (cY x.v.p1) (B x.v.p1) (x.v.pp.map bi) (bt x.v.lg) x.v.w0 (B x.v.w1) (x.a : Int) (x.b : Int) (x.c : Int) (x.d : Int) (x.e : Int) (⟨#[]⟩ : BA) (⟨#[]⟩ : BA) (⟨#[]⟩ : BA) false (⟨#[]⟩ : BA) false (⟨#[]⟩ : BA) false (⟨#[]⟩ : BA) false (⟨#[]⟩ : BA) false (⟨#[]⟩ : BA) 0 0 0 0 0 r) = κ0 (B (cH w (n + 1) x deep is cnt).1.p) (B (cH w (n + 1) x deep is cnt).1.v.ty) (B (cH w (n + 1) x deep is cnt).1.v.sub) ((cH w (n + 1) x deep is cnt).1.v.ps.map bi) (cH w (n + 1) x deep is cnt).1.v.i0 (B (cH w (n + 1) x deep is cnt).1.v.i1) (cH w (n + 1) x deep is cnt).1.v.a0 (B (cH w (n + 1) x deep is cnt).1.v.a1) (cY (cH w (n + 1) x deep is cnt).1.v.c1) (B (cH w (n + 1) x deep is cnt).1.v.c1) (cY (cH w (n + 1) x deep is cnt).1.v.p1) (B (cH w (n + 1) x deep is cnt).1.v.p1) ((cH w (n + 1) x deep is cnt).1.v.pp.map bi) (bt (cH w (n + 1) x deep is cnt).1.v.lg) (cH w (n + 1) x deep is cnt).1.v.w0 (B (cH w (n + 1) x deep is cnt).1.v.w1) ((cH w (n + 1) x deep is cnt).1.a : Int) ((cH w (n + 1) x deep is cnt).1.b : Int) ((cH w (n + 1) x deep is cnt).1.c : Int) ((cH w (n + 1) x deep is cnt).1.d : Int) ((cH w (n + 1) x deep is cnt).1.e : Int) (cH w (n + 1) x deep is cnt).2.1 ((cH w (n + 1) x deep is cnt).2.2 : Int) := by
   intro f hf hmm
   refine (EX h1 h2 hw (by omega) _ _ rfl).trans ?_
   exact j7 f hf hmm
  have key : ∀ f, 2000 <= f -> ao.L2 br aN bf aT (ao.R fu) κ0 f (B w) (deep : Int) is (cnt : Int) (ea x) (B x.p) (B x.v.ty) (B x.v.sub) (x.v.ps.map bi) x.v.i0 (B x.v.i1) x.v.a0 (B x.v.a1) (cY x.v.c1) (B x.v.c1) (cY x.v.p1) (B x.v.p1) (x.v.pp.map bi) (bt x.v.lg) x.v.w0 (B x.v.w1) (x.a : Int) (x.b : Int) (x.c : Int) (x.d : Int) (x.e : Int) (⟨#[]⟩ : BA) (⟨#[]⟩ : BA) (⟨#[]⟩ : BA) false (⟨#[]⟩ : BA) false (⟨#[]⟩ : BA) false (⟨#[]⟩ : BA) false (⟨#[]⟩ : BA) false (⟨#[]⟩ : BA) 0 0 0 0 0 = κ0 (B (cH w (n + 1) x deep is cnt).1.p) (B (cH w (n + 1) x deep is cnt).1.v.ty) (B (cH w (n + 1) x deep is cnt).1.v.sub) ((cH w (n + 1) x deep is cnt).1.v.ps.map bi) (cH w (n + 1) x deep is cnt).1.v.i0 (B (cH w (n + 1) x deep is cnt).1.v.i1) (cH w (n + 1) x deep is cnt).1.v.a0 (B (cH w (n + 1) x deep is cnt).1.v.a1) (cY (cH w (n + 1) x deep is cnt).1.v.c1) (B (cH w (n + 1) x deep is cnt).1.v.c1) (cY (cH w (n + 1) x deep is cnt).1.v.p1) (B (cH w (n + 1) x deep is cnt).1.v.p1) ((cH w (n + 1) x deep is cnt).1.v.pp.map bi) (bt (cH w (n + 1) x deep is cnt).1.v.lg) (cH w (n + 1) x deep is cnt).1.v.w0 (B (cH w (n + 1) x deep is cnt).1.v.w1) ((cH w (n + 1) x deep is cnt).1.a : Int) ((cH w (n + 1) x deep is cnt).1.b : Int) ((cH w (n + 1) x deep is cnt).1.c : Int) ((cH w (n + 1) x deep is cnt).1.d : Int) ((cH w (n + 1) x deep is cnt).1.e : Int) (cH w (n + 1) x deep is cnt).2.1 ((cH w (n + 1) x deep is cnt).2.2 : Int) := by
   intro f hf
   obtain ⟨g, rfl⟩ : ∃ g, f = g + 3 := ⟨f - 3, by omega⟩
   rw [ao.L2, ao.t2, show (⟨#[116, 101, 120, 116]⟩ : BA) = B mL from rfl, hm]
   have plain : x.v.ty ≠ pa -> ea x = false -> (cH w (n + 1) x deep is cnt).1 = cB w x true /\ (cH w (n + 1) x deep is cnt).2.1 = [] /\ (cH w (n + 1) x deep is cnt).2.2 = cnt := by
    intro e1 e2
    have c0 : gM w x = [] := by
     unfold gM
     rw [if_neg (by rw [e2]; decide), if_neg (fun h => e1 h.1)]
    rw [cH]
    by_cases c1 : deep < 5 /\ cnt + (gM w x).length <= 16
    ·rw [if_pos c1, c0]
     exact ⟨rfl, rfl, rfl⟩
    ·rw [if_neg c1]
     exact ⟨rfl, rfl, rfl⟩
   by_cases c1 : x.v.ty = mL
   ·have e1 : x.v.ty ≠ pa := by rw [c1]; decide
    have e2 : ea x = false := by unfold ea; rw [c1]; rfl
    obtain ⟨p1, p2, p3⟩ := plain e1 e2
    have hfin : cB w x true = { x with e := dX (dB w x) } := by unfold cB; rw [if_pos rfl, if_pos c1]
    rw [decide_eq_true c1, cond_true, endsB, ao.L4, ao.t4, show (⟨#[109, 117, 108, 116, 105, 112, 97, 114, 116]⟩ : BA) = B pa from rfl, hm, decide_eq_false e1, Bool.not_false, cond_true, e2, Bool.not_false, cond_true, p1, p2, p3, hfin]
    rfl
   ·rw [decide_eq_false c1, cond_false, ao.L4, ao.t4, show (⟨#[109, 117, 108, 116, 105, 112, 97, 114, 116]⟩ : BA) = B pa from rfl, hm]
    by_cases c2 : x.v.ty = pa
    ·rw [decide_eq_true c2, Bool.not_true, cond_false]
     exact inn (g + 1) (by omega) (.inl c2)
    ·rw [decide_eq_false c2, Bool.not_false, cond_true]
     cases hmx : ea x with
     | true =>
      rw [Bool.not_true, cond_false]
      have := inn (g + 1) (by omega) (.inr hmx)
      rw [hmx] at this
      exact this
     | false =>
      obtain ⟨p1, p2, p3⟩ := plain c2 hmx
      have hfin : cB w x true = x := by unfold cB; rw [if_pos rfl, if_neg c1, if_neg (fun h => h.elim (fun h => by rw [hmx] at h; cases h) c2)]
      rw [Bool.not_false, cond_true, p1, p2, p3, hfin]
      rfl
  have key2 : ∀ f, 2000 <= f -> ao.e br aN bf aT (ao.R fu) (B w) (B x.p) (B x.v.ty) (B x.v.sub) (x.v.ps.map bi) x.v.i0 (B x.v.i1) x.v.a0 (B x.v.a1) (cY x.v.c1) (B x.v.c1) (cY x.v.p1) (B x.v.p1) (x.v.pp.map bi) (bt x.v.lg) x.v.w0 (B x.v.w1) (x.a : Int) (x.b : Int) (x.c : Int) (x.d : Int) (x.e : Int) (deep : Int) is (cnt : Int) (ao.L2 br aN bf aT (ao.R fu) κ0 f) (ao.L4 br aN bf aT (ao.R fu) κ0 f) (ao.L5 br aN bf aT (ao.R fu) κ0 f) (ao.L7 br aN bf aT (ao.R fu) κ0 f) (ao.qS br aN bf aT (ao.R fu) κ0 f) (ao.Db br aN bf aT (ao.R fu) κ0 f) (ao.DR br aN bf aT (ao.R fu) κ0 f) (ao.BH br aN bf aT (ao.R fu) κ0 f) (ao.DS br aN bf aT (ao.R fu) κ0 f) κ0 = κ0 (B (cH w (n + 1) x deep is cnt).1.p) (B (cH w (n + 1) x deep is cnt).1.v.ty) (B (cH w (n + 1) x deep is cnt).1.v.sub) ((cH w (n + 1) x deep is cnt).1.v.ps.map bi) (cH w (n + 1) x deep is cnt).1.v.i0 (B (cH w (n + 1) x deep is cnt).1.v.i1) (cH w (n + 1) x deep is cnt).1.v.a0 (B (cH w (n + 1) x deep is cnt).1.v.a1) (cY (cH w (n + 1) x deep is cnt).1.v.c1) (B (cH w (n + 1) x deep is cnt).1.v.c1) (cY (cH w (n + 1) x deep is cnt).1.v.p1) (B (cH w (n + 1) x deep is cnt).1.v.p1) ((cH w (n + 1) x deep is cnt).1.v.pp.map bi) (bt (cH w (n + 1) x deep is cnt).1.v.lg) (cH w (n + 1) x deep is cnt).1.v.w0 (B (cH w (n + 1) x deep is cnt).1.v.w1) ((cH w (n + 1) x deep is cnt).1.a : Int) ((cH w (n + 1) x deep is cnt).1.b : Int) ((cH w (n + 1) x deep is cnt).1.c : Int) ((cH w (n + 1) x deep is cnt).1.d : Int) ((cH w (n + 1) x deep is cnt).1.e : Int) (cH w (n + 1) x deep is cnt).2.1 ((cH w (n + 1) x deep is cnt).2.2 : Int) := by
   intro f hf
   have := key f hf
   rw [ao.e, show (⟨#[109, 101, 115, 115, 97, 103, 101]⟩ : BA) = B iD from rfl, show (⟨#[114, 102, 99, 56, 50, 50]⟩ : BA) = B mK from rfl, hm, hm]
   unfold ea at this
   cases e1 : decide (x.v.ty = iD) with
   | true => rw [e1, Bool.true_and] at this; rw [cond_true]; exact this
   | false => rw [e1, Bool.false_and] at this; rw [cond_false]; exact this
  exact key2 ag (by unfold ag; omega)
def cj (w : List UInt8) : LV × LA × Nat := cH w 6 (ec w (0, w.length) [] false) 0 true 0
theorem CM (w : List UInt8) (hw : w.length <= 200000) (κ : BA -> BA -> BA -> LA -> Bool -> BA -> Bool -> BA -> Bool -> BA -> Bool -> BA -> LA -> LA -> Bool -> BA -> Int -> Int -> Int -> Int -> Int -> LA -> Option R) : ch (B w) κ = κ (B (cj w).1.p) (B (cj w).1.v.ty) (B (cj w).1.v.sub) ((cj w).1.v.ps.map bi) (cj w).1.v.i0 (B (cj w).1.v.i1) (cj w).1.v.a0 (B (cj w).1.v.a1) (cY (cj w).1.v.c1) (B (cj w).1.v.c1) (cY (cj w).1.v.p1) (B (cj w).1.v.p1) ((cj w).1.v.pp.map bi) (bt (cj w).1.v.lg) (cj w).1.v.w0 (B (cj w).1.v.w1) ((cj w).1.a : Int) ((cj w).1.b : Int) ((cj w).1.c : Int) ((cj w).1.d : Int) ((cj w).1.e : Int) (cj w).2.1 := by
 have key : ∀ f, ch.e aA ai (B w) (ch.L4 aA ai κ (f + 1)) κ = κ (B (cj w).1.p) (B (cj w).1.v.ty) (B (cj w).1.v.sub) ((cj w).1.v.ps.map bi) (cj w).1.v.i0 (B (cj w).1.v.i1) (cj w).1.v.a0 (B (cj w).1.v.a1) (cY (cj w).1.v.c1) (B (cj w).1.v.c1) (cY (cj w).1.v.p1) (B (cj w).1.v.p1) ((cj w).1.v.pp.map bi) (bt (cj w).1.v.lg) (cj w).1.v.w0 (B (cj w).1.v.w1) ((cj w).1.a : Int) ((cj w).1.b : Int) ((cj w).1.c : Int) ((cj w).1.d : Int) ((cj w).1.e : Int) (cj w).2.1 := by
  intro f
  have hsl : (kB w (0, w.length)).length = w.length := iL (q := (0, w.length)) (Nat.zero_le _) (Nat.le_refl _)
  have hl := BQ (R := R) (w := w) (s := kB w (0, w.length)) (F := 0) (by rw [Nat.zero_add, hsl]; rfl) (by omega) hw 0 false
  rw [hsl, Nat.zero_add] at hl
  unfold ch.e
  rw [ik]
  refine (hl _).trans ?_
  have ho := fun κ0 κ1 => Ew (R := R) hw 6 ag (ec w (0, w.length) [] false) 0 false 0 κ0 κ1 (n9 (Nat.zero_le _) (Nat.le_refl _) _ _) (by show 0 + 3 * 6 <= 1000; omega) rfl (by omega) (by unfold ag; omega) (by omega)
  unfold m0 ai
  refine (ho _ _ ?_).trans ?_
  ·intro z c k; rfl
  ·rw [ch.L4, ch.t4]; rfl
 exact key (ag - 1)
theorem CX (w : List UInt8) (hw : w.length <= 200000) (κ : BA -> BA -> BA -> LA -> Bool -> BA -> Bool -> BA -> Bool -> BA -> Bool -> BA -> LA -> LA -> Bool -> BA -> Int -> Int -> Int -> Int -> Int -> LA -> Option R) : dq (B w) κ = κ (B (cj w).1.p) (B (cj w).1.v.ty) (B (cj w).1.v.sub) ((cj w).1.v.ps.map bi) (cj w).1.v.i0 (B (cj w).1.v.i1) (cj w).1.v.a0 (B (cj w).1.v.a1) (cY (cj w).1.v.c1) (B (cj w).1.v.c1) (cY (cj w).1.v.p1) (B (cj w).1.v.p1) ((cj w).1.v.pp.map bi) (bt (cj w).1.v.lg) (cj w).1.v.w0 (B (cj w).1.v.w1) ((cj w).1.a : Int) ((cj w).1.b : Int) ((cj w).1.c : Int) ((cj w).1.d : Int) ((cj w).1.e : Int) (cj w).2.1 := by
 have hsl : (kB w (0, w.length)).length = w.length := iL (q := (0, w.length)) (Nat.zero_le _) (Nat.le_refl _)
 have hl := z7 (R := R) (w := w) (s := kB w (0, w.length)) (F := 0) (by rw [Nat.zero_add, hsl]; rfl) (by omega) hw (B []) false
 rw [hsl, Nat.zero_add] at hl
 unfold dq dq.e
 rw [ik]
 refine (hl _).trans ?_
 have ho := fun κ0 => En (R := R) hw 6 ag (ec w (0, w.length) [] false) 0 true 0 κ0 (n9 (Nat.zero_le _) (Nat.le_refl _) _ _) (by show 0 + 3 * 6 <= 1000; omega) rfl (by omega) (by unfold ag; omega) (by omega)
 unfold m0 ao
 exact ho _
theorem u5 {a b : Int} (h : a ≠ b) : (a == b) = false := beq_eq_false_iff_ne.2 h
theorem jt {a b : Int} (h : a = b) : (a == b) = true := beq_iff_eq.2 h
theorem Cy {a b : Int} (h : a = b) : (a != b) = false := by rw [bne, jt h]; rfl
def wk : Nat -> LA -> Prop
 | 0, k => k = []
 | n + 1, k => k.length <= 16 /\ ∀ a ∈ k, wk n (a.fld 21).l
theorem Au : ∀ n, wk n []
 | 0 => rfl
 | n + 1 => ⟨by simp, fun a h => by cases h⟩
theorem ww {rec : LV -> Nat -> LV × LA × Nat} {w : List UInt8} (n : Nat) (hrec : ∀ y c, wk n (rec y c).2.1) (plc : Nat -> List UInt8) (dg : Bool) : ∀ (r : List (Nat × Nat)) (i : Nat) (acc : LA) (cnt : Nat), wk (n + 1) acc -> acc.length + r.length <= 16 -> wk (n + 1) (cD rec w plc dg i acc cnt r).1
 | [], _, _, _, h, _ => h
 | q :: r, i, acc, cnt, h, hl => by
  simp only [List.length_cons] at hl
  rw [cD]
  refine ww n hrec plc dg r _ _ _ ⟨by simp; omega, fun a ha => ?_⟩ (by simp; omega)
  rcases List.mem_append.1 ha with h1 | h1
  ·exact h.2 a h1
  ·rw [List.mem_singleton] at h1
   subst h1
   exact hrec (ec w q (plc (i + 1)) dg) cnt
theorem B2 (w : List UInt8) : ∀ (n : Nat) (x : LV) (deep : Nat) (is : Bool) (cnt : Nat), wk n (cH w n x deep is cnt).2.1
 | 0, x, _, _, _ => rfl
 | n + 1, x, deep, is, cnt => by
  rw [cH]
  split
  ·rename_i c
   exact ww n (fun y c => B2 w n y _ _ c) _ _ _ 0 [] _ (Au _) (by simp; omega)
  ·exact Au _
def pc (a b : Int) : AV := .agg [.int a, .int b]
def rM (rec : AV -> LA) (a b c d : Int) (k : LA) : LA := pc a b :: (if k.isEmpty then [pc c d] else k.flatMap rec)
def nj : Nat -> AV -> LA
 | 0, _ => []
 | n + 1, v => rM (nj n) (v.fld 16).i (v.fld 17).i (v.fld 18).i (v.fld 19).i (v.fld 21).l
def bd : Nat -> Nat
 | 0 => 2
 | n + 1 => 2 + 16 * bd n
theorem sC {rec : AV -> LA} {B : Nat} : ∀ (k : LA), (∀ a ∈ k, (rec a).length <= B) -> (k.flatMap rec).length <= k.length * B
 | [], _ => by simp
 | a :: k, h => by
  have h1 := h a (by simp)
  have h2 := sC k fun b hb => h b (by simp [hb])
  rw [List.flatMap_cons, List.length_append, List.length_cons, Nat.succ_mul]
  omega
theorem jT : ∀ (n : Nat) (a b c d : Int) (k : LA), wk n k -> (rM (nj n) a b c d k).length <= bd n
 | 0, a, b, c, d, k, h => by rw [show k = [] from h]; exact Nat.le_refl 2
 | n + 1, a, b, c, d, k, h => by
  have h1 := sC (rec := nj (n + 1)) (B := bd n) k fun v hv => jT n _ _ _ _ _ (h.2 v hv)
  have h2 : k.length * bd n <= 16 * bd n := Nat.mul_le_mul_right _ h.1
  unfold rM
  rw [List.length_cons, bd]
  split
  ·simp only [List.length_cons, List.length_nil]; omega
  ·omega
theorem oA (c1 : aY.F R) {n : Nat} (ks : LA) (hks : ks.length <= 16) (hw : ∀ a ∈ ks, wk n (a.fld 21).l)
  (hrec : ∀ (v : AV) (acc : LA) (κ : LA -> Option R), wk n (v.fld 21).l -> acc.length + bd n <= 100000000000 -> c1 (v.fld 0).s (v.fld 1).s (v.fld 2).s (v.fld 3).l (v.fld 4).b (v.fld 5).s (v.fld 6).b (v.fld 7).s (v.fld 8).b (v.fld 9).s (v.fld 10).b (v.fld 11).s (v.fld 12).l (v.fld 13).l (v.fld 14).b (v.fld 15).s (v.fld 16).i (v.fld 17).i (v.fld 18).i (v.fld 19).i (v.fld 20).i (v.fld 21).l acc κ = κ (acc ++ nj (n + 1) v)) (κ : LA -> Option R) :
  ∀ (r d : LA) (acc : LA) (f : Nat), d ++ r = ks -> acc.length + r.length * bd n <= 100000000000 -> r.length < f ->
  aY.L5 c1 κ f ks (ks.length : Int) (d.length : Int) acc = κ (acc ++ r.flatMap (nj (n + 1)))
 | [], d, acc, f, hd, _, hf => by
  obtain ⟨g, rfl⟩ : ∃ g, f = g + 1 := ⟨f - 1, by simp only [List.length_nil] at hf; omega⟩
  rw [List.append_nil] at hd
  rw [aY.L5, aY.t5, hd, ak (by omega), List.flatMap_nil, List.append_nil]
 | v :: r, d, acc, f, hd, ha, hf => by
  have hlen : d.length + r.length + 1 = ks.length := by rw [<- hd]; simp; omega
  simp only [List.length_cons, Nat.succ_mul] at hf ha
  obtain ⟨g, rfl⟩ : ∃ g, f = g + 1 := ⟨f - 1, by omega⟩
  have hget : bK ks (d.length : Int) = v := dU (by rw [<- hd]; simp)
  have hv := hw v (by rw [<- hd]; simp)
  have hl : (nj (n + 1) v).length <= bd n := jT n _ _ _ _ _ hv
  rw [aY.L5, aY.t5, an (by omega), aw, ab (by omega), ab (by omega), hget, hrec v acc _ hv (by omega), wrap_i64 (by omega) (by omega)]
  have := oA c1 ks hks hw hrec κ r (d ++ [v]) (acc ++ nj (n + 1) v) g (by rw [List.append_assoc]; exact hd) (by rw [List.length_append]; omega) (by omega)
  rw [show (d ++ [v]).length = d.length + 1 by simp] at this
  rw [List.flatMap_cons, <- List.append_assoc]
  exact this
theorem yY {k : LA} (h : k ≠ []) : ((k.length : Int) == 0) = false /\ k.isEmpty = false := by
 cases k with
 | nil => exact absurd rfl h
 | cons a k => exact ⟨u5 (by simp only [List.length_cons]; omega), rfl⟩
theorem B4 : ∀ (n fu : Nat) (g0 : BA) (g1 : BA) (g2 : BA) (g3 : LA) (g4 : Bool) (g5 : BA) (g6 : Bool) (g7 : BA) (g8 : Bool) (g9 : BA) (g10 : Bool) (g11 : BA) (g12 : LA) (g13 : LA) (g14 : Bool) (g15 : BA) (g16 : Int) (g17 : Int) (g18 : Int) (g19 : Int) (g20 : Int) (g21 : LA) (acc : LA) (κ : LA -> Option R), n < fu -> wk n g21 -> acc.length + bd n <= 100000000000 -> aY.R fu g0 g1 g2 g3 g4 g5 g6 g7 g8 g9 g10 g11 g12 g13 g14 g15 g16 g17 g18 g19 g20 g21 acc κ = κ (acc ++ rM (nj n) g16 g17 g18 g19 g21)
 | _, 0, _, _, _, _, _, _, _, _, _, _, _, _, _, _, _, _, _, _, _, _, _, _, _, _, h, _, _ => by omega
 | n, fu + 1, g0, g1, g2, g3, g4, g5, g6, g7, g8, g9, g10, g11, g12, g13, g14, g15, g16, g17, g18, g19, g20, g21, acc, κ, hf, hw, ha => by
  have hb : 2 <= bd n := by cases n <;> (rw [bd]; omega)
  by_cases hk : g21 = []
  ·subst hk
   rw [aY.R, aY.B, aY.e, ab (by omega), jt (show (([] : LA).length : Int) = 0 from rfl), cond_true, ab (by simp only [List.length_append, List.length_cons, List.length_nil]; omega), List.append_assoc]
   rfl
  ·obtain ⟨h1, h2⟩ := yY hk
   cases n with
   | zero => exact absurd hw hk
   | succ n =>
    have h3 : g21.length * bd n <= 16 * bd n := Nat.mul_le_mul_right _ hw.1
    rw [bd] at ha
    rw [aY.R, aY.B, aY.e, ab (by omega), h1, cond_false]
    have := oA (aY.R fu) g21 hw.1 hw.2 (fun v acc κ hv hl => B4 n fu (v.fld 0).s (v.fld 1).s (v.fld 2).s (v.fld 3).l (v.fld 4).b (v.fld 5).s (v.fld 6).b (v.fld 7).s (v.fld 8).b (v.fld 9).s (v.fld 10).b (v.fld 11).s (v.fld 12).l (v.fld 13).l (v.fld 14).b (v.fld 15).s (v.fld 16).i (v.fld 17).i (v.fld 18).i (v.fld 19).i (v.fld 20).i (v.fld 21).l acc κ (by omega) hv hl) κ g21 [] (acc ++ [pc g16 g17]) ag rfl (by simp only [List.length_append, List.length_cons, List.length_nil]; omega) (by have := hw.1; unfold ag; omega)
    refine this.trans ?_
    unfold rM
    rw [h2, List.append_assoc]
    rfl
theorem DL (n : Nat) (g0 : BA) (g1 : BA) (g2 : BA) (g3 : LA) (g4 : Bool) (g5 : BA) (g6 : Bool) (g7 : BA) (g8 : Bool) (g9 : BA) (g10 : Bool) (g11 : BA) (g12 : LA) (g13 : LA) (g14 : Bool) (g15 : BA) (g16 : Int) (g17 : Int) (g18 : Int) (g19 : Int) (g20 : Int) (g21 : LA) (κ : LA -> Option R) (hn : n < 1000) (hw : wk n g21) (hb : bd n <= 1000000000) : bY g0 g1 g2 g3 g4 g5 g6 g7 g8 g9 g10 g11 g12 g13 g14 g15 g16 g17 g18 g19 g20 g21 κ = κ (rM (nj n) g16 g17 g18 g19 g21) := by
 unfold bY
 by_cases hk : g21 = []
 ·subst hk
  rw [bY.e, jt (show (([] : LA).length : Int) = 0 from rfl), cond_true]
  rfl
 ·obtain ⟨h1, h2⟩ := yY hk
  cases n with
  | zero => exact absurd hw hk
  | succ n =>
   have h3 : g21.length * bd n <= 16 * bd n := Nat.mul_le_mul_right _ hw.1
   rw [bd] at hb
   rw [bY.e, h1, cond_false]
   have he : ∀ f, bY.L5 aY κ f = aY.L5 (aY.R ag) κ f := fun f => by
    induction f with
    | zero => rfl
    | succ f ih => rw [bY.L5, aY.L5, ih]; rfl
   rw [he]
   have := oA (aY.R ag) g21 hw.1 hw.2 (fun v acc κ hv hl => B4 n ag (v.fld 0).s (v.fld 1).s (v.fld 2).s (v.fld 3).l (v.fld 4).b (v.fld 5).s (v.fld 6).b (v.fld 7).s (v.fld 8).b (v.fld 9).s (v.fld 10).b (v.fld 11).s (v.fld 12).l (v.fld 13).l (v.fld 14).b (v.fld 15).s (v.fld 16).i (v.fld 17).i (v.fld 18).i (v.fld 19).i (v.fld 20).i (v.fld 21).l acc κ (by unfold ag; omega) hv hl) κ g21 [] [pc g16 g17] ag rfl (by simp only [List.length_cons, List.length_nil]; omega) (by have := hw.1; unfold ag; omega)
   refine this.trans ?_
   unfold rM
   rw [h2]
   rfl
theorem tF (g0 : BA) (g1 : BA) (g2 : BA) (g3 : LA) (g4 : Bool) (g5 : BA) (g6 : Bool) (g7 : BA) (g8 : Bool) (g9 : BA) (g10 : Bool) (g11 : BA) (g12 : LA) (g13 : LA) (g14 : Bool) (g15 : BA) (g16 : Int) (g17 : Int) (g18 : Int) (g19 : Int) (g20 : Int) (g21 : LA) (c1 : bh.F R) {n : Nat} (hks : g21.length <= 16) (hw : ∀ a ∈ g21, wk n (a.fld 21).l)
  (hrec : ∀ (v : AV) (κ : LA -> Option R), wk n (v.fld 21).l -> c1 (v.fld 0).s (v.fld 1).s (v.fld 2).s (v.fld 3).l (v.fld 4).b (v.fld 5).s (v.fld 6).b (v.fld 7).s (v.fld 8).b (v.fld 9).s (v.fld 10).b (v.fld 11).s (v.fld 12).l (v.fld 13).l (v.fld 14).b (v.fld 15).s (v.fld 16).i (v.fld 17).i (v.fld 18).i (v.fld 19).i (v.fld 20).i (v.fld 21).l κ = κ (nj (n + 1) v)) (κ : LA -> Option R) :
  ∀ (r d : LA) (acc : LA) (f : Nat), d ++ r = g21 -> acc.length + r.length * bd n <= 100000000000 -> r.length < f ->
  bh.L5 c1 κ f (d.length : Int) g0 g1 g2 g3 g4 g5 g6 g7 g8 g9 g10 g11 g12 g13 g14 g15 g16 g17 g18 g19 g20 g21 acc = κ (acc ++ r.flatMap (nj (n + 1)))
 | [], d, acc, f, hd, _, hf => by
  obtain ⟨g, rfl⟩ : ∃ g, f = g + 1 := ⟨f - 1, by simp only [List.length_nil] at hf; omega⟩
  rw [List.append_nil] at hd
  rw [bh.L5, bh.t5, hd, ak (by omega), List.flatMap_nil, List.append_nil]
 | v :: r, d, acc, f, hd, ha, hf => by
  have hlen : d.length + r.length + 1 = g21.length := by rw [<- hd]; simp; omega
  simp only [List.length_cons, Nat.succ_mul] at hf ha
  obtain ⟨g, rfl⟩ : ∃ g, f = g + 1 := ⟨f - 1, by omega⟩
  have hget : bK g21 (d.length : Int) = v := dU (by rw [<- hd]; simp)
  have hv := hw v (by rw [<- hd]; simp)
  have hl : (nj (n + 1) v).length <= bd n := jT n _ _ _ _ _ hv
  rw [bh.L5, bh.t5, an (by omega), aw, ab (by omega), ab (by omega), hget, hrec v _ hv, ab (by omega), wrap_i64 (by omega) (by omega)]
  have := tF g0 g1 g2 g3 g4 g5 g6 g7 g8 g9 g10 g11 g12 g13 g14 g15 g16 g17 g18 g19 g20 g21 c1 hks hw hrec κ r (d ++ [v]) (acc ++ nj (n + 1) v) g (by rw [List.append_assoc]; exact hd) (by rw [List.length_append]; omega) (by omega)
  rw [show (d ++ [v]).length = d.length + 1 by simp] at this
  rw [List.flatMap_cons, <- List.append_assoc]
  exact this
theorem B3 : ∀ (n fu : Nat) (g0 : BA) (g1 : BA) (g2 : BA) (g3 : LA) (g4 : Bool) (g5 : BA) (g6 : Bool) (g7 : BA) (g8 : Bool) (g9 : BA) (g10 : Bool) (g11 : BA) (g12 : LA) (g13 : LA) (g14 : Bool) (g15 : BA) (g16 : Int) (g17 : Int) (g18 : Int) (g19 : Int) (g20 : Int) (g21 : LA) (κ : LA -> Option R), n < fu -> wk n g21 -> bd n <= 1000000000 -> bh.R fu g0 g1 g2 g3 g4 g5 g6 g7 g8 g9 g10 g11 g12 g13 g14 g15 g16 g17 g18 g19 g20 g21 κ = κ (rM (nj n) g16 g17 g18 g19 g21)
 | _, 0, _, _, _, _, _, _, _, _, _, _, _, _, _, _, _, _, _, _, _, _, _, _, _, h, _, _ => by omega
 | n, fu + 1, g0, g1, g2, g3, g4, g5, g6, g7, g8, g9, g10, g11, g12, g13, g14, g15, g16, g17, g18, g19, g20, g21, κ, hf, hw, hb => by
  by_cases hk : g21 = []
  ·subst hk
   rw [bh.R, bh.B, bh.e, jt (show (([] : LA).length : Int) = 0 from rfl), cond_true]
   rfl
  ·obtain ⟨h1, h2⟩ := yY hk
   cases n with
   | zero => exact absurd hw hk
   | succ n =>
    have h3 : g21.length * bd n <= 16 * bd n := Nat.mul_le_mul_right _ hw.1
    rw [bd] at hb
    rw [bh.R, bh.B, bh.e, h1, cond_false]
    have := tF g0 g1 g2 g3 g4 g5 g6 g7 g8 g9 g10 g11 g12 g13 g14 g15 g16 g17 g18 g19 g20 g21 (bh.R fu) hw.1 hw.2 (fun v κ hv => B3 n fu (v.fld 0).s (v.fld 1).s (v.fld 2).s (v.fld 3).l (v.fld 4).b (v.fld 5).s (v.fld 6).b (v.fld 7).s (v.fld 8).b (v.fld 9).s (v.fld 10).b (v.fld 11).s (v.fld 12).l (v.fld 13).l (v.fld 14).b (v.fld 15).s (v.fld 16).i (v.fld 17).i (v.fld 18).i (v.fld 19).i (v.fld 20).i (v.fld 21).l κ (by omega) hv (by omega)) κ g21 [] [pc g16 g17] ag rfl (by simp only [List.length_cons, List.length_nil]; omega) (by have := hw.1; unfold ag; omega)
    refine this.trans ?_
    unfold rM
    rw [h2]
    rfl
def uo (sz : Int) : Int -> LA -> LA -> LA
 | at', acc, [] => if at' < sz then acc ++ [pc at' sz] else acc
 | at', acc, p :: r =>
  if (p.fld 0).i = (p.fld 1).i then uo sz at' acc r
  else if (p.fld 0).i < at' ∨ (p.fld 1).i < (p.fld 0).i ∨ sz < (p.fld 1).i then (if 0 < sz then [pc 0 sz] else [])
  else uo sz (p.fld 1).i ((if at' < (p.fld 0).i then acc ++ [pc at' (p.fld 0).i] else acc) ++ [pc (p.fld 0).i (p.fld 1).i]) r
theorem put_eq (to at' : Int) (acc : LA) (hl : acc.length <= 1000000000000) (κ : Int -> LA -> Option R) : ck to at' acc κ = κ to (if at' < to then acc ++ [pc at' to] else acc) := by
 unfold ck ck.e
 by_cases h1 : at' < to
 ·rw [an h1, ab (by omega), if_pos h1]; rfl
 ·rw [ak h1, if_neg h1]
theorem qZ (sz : Int) : ∀ (ps : LA) (at' : Int) (acc : LA), (uo sz at' acc ps).length <= acc.length + 2 * ps.length + 1
 | [], at', acc => by rw [uo]; split <;> simp
 | p :: r, at', acc => by
  rw [uo]
  split
  ·have := qZ sz r at' acc; simp only [List.length_cons]; omega
  ·split
   ·split <;> simp
   ·have := qZ sz r (p.fld 1).i ((if at' < (p.fld 0).i then acc ++ [pc at' (p.fld 0).i] else acc) ++ [pc (p.fld 0).i (p.fld 1).i])
    simp only [List.length_cons, List.length_append, List.length_nil] at this ⊢
    have h2 : (if at' < (p.fld 0).i then acc ++ [pc at' (p.fld 0).i] else acc).length <= acc.length + 1 := by split <;> simp
    omega
theorem oa (w : BA) (κ0 : LA -> Option R) (κ1 : Option R) (S : LA) (X : Option R) (h0 : κ0 S = X) (h1 : S = [] -> κ1 = X) (ps : LA) (hp : ps.length <= 1000000000) :
  ∀ (r d acc : LA) (at' : Int) (f : Nat), d ++ r = ps -> acc.length <= 2 * d.length -> uo (w.size : Int) at' acc r = S -> r.length < f ->
  df.L5 bY cE ck κ0 κ1 f w (ps.length : Int) (d.length : Int) acc at' ps = X
 | _, _, _, _, 0, _, _, _, h => by omega
 | [], d, acc, at', f + 1, hd, hl, hS, hf => by
  rw [List.append_nil] at hd
  rw [uo] at hS
  rw [df.L5, df.t5, hd, ak (by omega), put_eq _ _ _ (by rw [hd] at hl; omega), hS]
  exact h0
 | p :: r, d, acc, at', f + 1, hd, hl, hS, hf => by
  have hlen : d.length + r.length + 1 = ps.length := by rw [<- hd]; simp; omega
  have hget : bK ps (d.length : Int) = p := dU (by rw [<- hd]; simp)
  have hd2 : (d ++ [p]) ++ r = ps := by rw [List.append_assoc]; exact hd
  simp only [List.length_cons] at hf
  rw [uo] at hS
  have reset : (if 0 < (w.size : Int) then [pc 0 (w.size : Int)] else []) = S -> cE (w.size : Int) 0 (fun _ l => κ0 l) (fun _ => κ1) = X := by
   intro hS
   unfold cE cE.e
   by_cases hz : 0 < (w.size : Int)
   ·rw [if_pos hz] at hS
    rw [an hz]; rw [<- hS] at h0; exact h0
   ·rw [if_neg hz] at hS
    rw [ak hz]; exact h1 hS.symm
  rw [df.L5, df.t5, an (by omega), aw, ab (by omega), ab (by omega), wrap_i64 (by omega) (by omega), hget]
  have go := fun acc at' h2 h3 => oa w κ0 κ1 S X h0 h1 ps hp r (d ++ [p]) acc at' f hd2 h2 h3 (by omega)
  rw [show (d ++ [p]).length = d.length + 1 by simp] at go
  generalize (p.fld 0).i = x at *
  generalize (p.fld 1).i = y at *
  by_cases e1 : x = y
  ·rw [if_pos e1] at hS
   rw [jt e1, cond_true]
   exact go acc at' (by omega) hS
  ·rw [if_neg e1] at hS
   rw [u5 e1, cond_false]
   by_cases e2 : x < at'
   ·rw [if_pos (.inl e2)] at hS
    rw [an e2]; exact reset hS
   ·rw [ak e2]
    by_cases e3 : y < x
    ·rw [if_pos (.inr (.inl e3))] at hS
     rw [an e3]; exact reset hS
    ·rw [ak e3]
     by_cases e4 : (w.size : Int) < y
     ·rw [if_pos (.inr (.inr e4))] at hS
      rw [an e4]; exact reset hS
     ·rw [if_neg (by omega)] at hS
      have h5 : (if at' < x then acc ++ [pc at' x] else acc).length <= acc.length + 1 := by split <;> simp
      rw [ak e4, put_eq _ _ _ (by omega), put_eq _ _ _ (by omega), if_pos (by omega)]
      exact go _ y (by simp only [List.length_append, List.length_cons, List.length_nil]; omega) hS
theorem oD (w : BA) (κ0 : Option R) (κ1 : LA -> Option R) (S : LA) (X : Option R) (h0 : κ1 S = X) (h1 : S = [] -> κ0 = X) (c1 : bh.F R) (ps : LA) (hp : ps.length <= 1000000000) :
  ∀ (r d acc : LA) (at' : Int) (f : Nat), d ++ r = ps -> acc.length <= 2 * d.length -> uo (w.size : Int) at' acc r = S -> r.length < f ->
  db.L5 c1 κ0 κ1 f w at' (d.length : Int) acc ps = X
 | _, _, _, _, 0, _, _, _, h => by omega
 | [], d, acc, at', f + 1, hd, hl, hS, hf => by
  rw [List.append_nil] at hd
  rw [uo] at hS
  rw [db.L5, db.t5, hd, ak (by omega)]
  by_cases hz : at' < (w.size : Int)
  ·rw [if_pos hz] at hS
   rw [an hz, ab (by rw [hd] at hl; omega)]
   rw [<- hS] at h0; exact h0
  ·rw [if_neg hz] at hS
   rw [ak hz, hS]; exact h0
 | p :: r, d, acc, at', f + 1, hd, hl, hS, hf => by
  have hlen : d.length + r.length + 1 = ps.length := by rw [<- hd]; simp; omega
  have hget : bK ps (d.length : Int) = p := dU (by rw [<- hd]; simp)
  have hd2 : (d ++ [p]) ++ r = ps := by rw [List.append_assoc]; exact hd
  simp only [List.length_cons] at hf
  rw [uo] at hS
  have hchk : (decide ((0 : Int) <= (d.length : Int)) && decide ((d.length : Int) < (ps.length : Int))) = true := by rw [decide_eq_true (by omega), decide_eq_true (by omega)]; rfl
  have reset : (if 0 < (w.size : Int) then [pc 0 (w.size : Int)] else []) = S -> (bif (decide (w = (⟨#[]⟩ : BA))) then κ0 else κ1 [AV.agg [AV.int 0, AV.int (w.size : Int)]]) = X := by
   intro hS
   by_cases hz : w = ⟨#[]⟩
   ·rw [if_neg (by rw [hz]; decide)] at hS
    rw [an hz]; exact h1 hS.symm
   ·have hz2 : 0 < (w.size : Int) := by
     have : w.size ≠ 0 := fun e => hz (ByteArray.ext (Array.eq_empty_of_size_eq_zero e))
     omega
    rw [if_pos hz2] at hS
    rw [ak hz]; rw [<- hS] at h0; exact h0
  rw [db.L5, db.t5, an (by omega)]
  simp only [hchk, yO]
  rw [wrap_i64 (by omega) (by omega), hget]
  have go := fun acc at' h2 h3 => oD w κ0 κ1 S X h0 h1 c1 ps hp r (d ++ [p]) acc at' f hd2 h2 h3 (by omega)
  rw [show (d ++ [p]).length = d.length + 1 by simp] at go
  generalize (p.fld 0).i = x at *
  generalize (p.fld 1).i = y at *
  by_cases e1 : x = y
  ·rw [if_pos e1] at hS
   rw [jt e1, cond_true]
   exact go acc at' (by omega) hS
  ·rw [if_neg e1] at hS
   rw [u5 e1, cond_false]
   by_cases e2 : x < at'
   ·rw [if_pos (.inl e2)] at hS
    rw [an e2]; exact reset hS
   ·rw [ak e2]
    by_cases e3 : y < x
    ·rw [if_pos (.inr (.inl e3))] at hS
     rw [an e3]; exact reset hS
    ·rw [ak e3]
     by_cases e4 : (w.size : Int) < y
     ·rw [if_pos (.inr (.inr e4))] at hS
      rw [an e4]; exact reset hS
     ·rw [if_neg (by omega)] at hS
      rw [ak e4]
      by_cases e5 : at' < x
      ·rw [if_pos e5] at hS
       rw [an e5, ab (by omega), ab (by simp only [List.length_append, List.length_cons, List.length_nil]; omega)]
       exact go _ y (by simp only [List.length_append, List.length_cons, List.length_nil]; omega) hS
      ·rw [if_neg e5] at hS
       rw [ak e5, ab (by omega)]
       exact go _ y (by simp only [List.length_append, List.length_cons, List.length_nil]; omega) hS
theorem wJ (κ : Bool -> Option R) (l : LA) (hl : l.length <= 100000000000) : ∀ (f i : Nat), i <= l.length -> l.length < i + f -> cm.L4 κ f l l (i : Int) = κ true
 | 0, i, h1, h2 => by omega
 | f + 1, i, h1, h2 => by
  rw [cm.L4, cm.t4]
  by_cases h : i < l.length
  ·rw [an (by omega), aw, ab (by omega), ab (by omega), aw, ab (by omega), ab (by omega), jt rfl, jt rfl, wrap_i64 (by omega) (by omega)]
   exact wJ κ l hl f (i + 1) (by omega) (by omega)
  ·rw [ak (by omega)]
theorem B1 (l : LA) (hl : l.length <= 100000000000) (κ : Bool -> Option R) : cm l l κ = κ true := by
 unfold cm cm.e
 rw [Cy rfl, cond_false]
 exact wJ κ l hl ag 0 (by omega) (by unfold ag; omega)
theorem B0 (κ : Bool -> Option R) : de [] κ = κ true := by kernel_rfl
theorem BV (κ : Bool -> Option R) : cO κ = κ true := by kernel_rfl
theorem BW (κ : Bool -> Option R) : cP [] κ = κ true := by kernel_rfl
theorem BN (w : BA) (g0 : BA) (g1 : BA) (g2 : BA) (g3 : LA) (g4 : Bool) (g5 : BA) (g6 : Bool) (g7 : BA) (g8 : Bool) (g9 : BA) (g10 : Bool) (g11 : BA) (g12 : LA) (g13 : LA) (g14 : Bool) (g15 : BA) (g16 : Int) (g17 : Int) (g18 : Int) (g19 : Int) (g20 : Int) (g21 : LA) (κ0 : LA -> Option R) (κ1 : Option R) (X : Option R) (hw : wk 6 g21) (h0 : κ0 (uo (w.size : Int) 0 [] (rM (nj 6) g16 g17 g18 g19 g21)) = X) (h1 : uo (w.size : Int) 0 [] (rM (nj 6) g16 g17 g18 g19 g21) = [] -> κ1 = X) :
  df w g0 g1 g2 g3 g4 g5 g6 g7 g8 g9 g10 g11 g12 g13 g14 g15 g16 g17 g18 g19 g20 g21 κ0 κ1 = X := by
 unfold df df.e
 have hb : bd 6 <= 1000000000 := by decide
 have hl := jT 6 g16 g17 g18 g19 g21 hw
 rw [DL 6 g0 g1 g2 g3 g4 g5 g6 g7 g8 g9 g10 g11 g12 g13 g14 g15 g16 g17 g18 g19 g20 g21 _ (by omega) hw hb]
 exact oa w κ0 κ1 _ X h0 h1 (rM (nj 6) g16 g17 g18 g19 g21) (by omega) (rM (nj 6) g16 g17 g18 g19 g21) [] [] 0 ag rfl (by simp) rfl (by unfold ag; omega)
theorem wO (w : BA) (g0 : BA) (g1 : BA) (g2 : BA) (g3 : LA) (g4 : Bool) (g5 : BA) (g6 : Bool) (g7 : BA) (g8 : Bool) (g9 : BA) (g10 : Bool) (g11 : BA) (g12 : LA) (g13 : LA) (g14 : Bool) (g15 : BA) (g16 : Int) (g17 : Int) (g18 : Int) (g19 : Int) (g20 : Int) (g21 : LA) (κ0 : Option R) (κ1 : LA -> Option R) (X : Option R) (hw : wk 6 g21) (h0 : κ1 (uo (w.size : Int) 0 [] (rM (nj 6) g16 g17 g18 g19 g21)) = X) (h1 : uo (w.size : Int) 0 [] (rM (nj 6) g16 g17 g18 g19 g21) = [] -> κ0 = X) :
  db w g0 g1 g2 g3 g4 g5 g6 g7 g8 g9 g10 g11 g12 g13 g14 g15 g16 g17 g18 g19 g20 g21 κ0 κ1 = X := by
 unfold db db.e
 have hb : bd 6 <= 1000000000 := by decide
 have hl := jT 6 g16 g17 g18 g19 g21 hw
 refine (B3 6 ag g0 g1 g2 g3 g4 g5 g6 g7 g8 g9 g10 g11 g12 g13 g14 g15 g16 g17 g18 g19 g20 g21 _ (by unfold ag; omega) hw hb).trans ?_
 exact oD w κ0 κ1 _ X h0 h1 _ (rM (nj 6) g16 g17 g18 g19 g21) (by omega) (rM (nj 6) g16 g17 g18 g19 g21) [] [] 0 ag rfl (by simp) rfl (by unfold ag; omega)
theorem ol (a o : BA) (κ : Bool -> Option R) : dp a o κ = κ true := by
 unfold dp dp.e
 rw [known6_holds, Bool.not_true, cond_false]
 by_cases h : (a.size : Int) > 20000
 ·rw [an h]
 ·rw [ak h]
  by_cases h2 : (o.size : Int) > 20000
  ·rw [an h2]
  ·rw [ak h2]
   have hb : (bl a).length <= 200000 := by have := fi a; omega
   have hp := fun κ => CM (R := R) (bl a) hb κ
   have hq := fun κ => CX (R := R) (bl a) hb κ
   rw [iO] at hp hq
   refine (hp _).trans ?_
   refine (hq _).trans ?_
   have hw : wk 6 (cj (bl a)).2.1 := B2 (bl a) 6 (ec (bl a) (0, (bl a).length) [] false) 0 true 0
   generalize (cj (bl a)).2.1 = k at *
   generalize (cj (bl a)).1 = y at *
   have hlen : ∀ w : BA, (uo (w.size : Int) 0 [] (rM (nj 6) y.a y.b y.c y.d k)).length <= 100000000000 := fun w => by
    have h3 := qZ (w.size : Int) (rM (nj 6) y.a y.b y.c y.d k) 0 []
    have h4 := jT 6 y.a y.b y.c y.d k hw
    have h5 : bd 6 <= 1000000000 := by decide
    simp only [List.length_nil] at h3
    omega
   have second : df o (B y.p) (B y.v.ty) (B y.v.sub) (y.v.ps.map bi) y.v.i0 (B y.v.i1) y.v.a0 (B y.v.a1) (cY y.v.c1) (B y.v.c1) (cY y.v.p1) (B y.v.p1) (y.v.pp.map bi) (bt y.v.lg) y.v.w0 (B y.v.w1) (y.a : Int) (y.b : Int) (y.c : Int) (y.d : Int) (y.e : Int) k (fun l => db o (B y.p) (B y.v.ty) (B y.v.sub) (y.v.ps.map bi) y.v.i0 (B y.v.i1) y.v.a0 (B y.v.a1) (cY y.v.c1) (B y.v.c1) (cY y.v.p1) (B y.v.p1) (y.v.pp.map bi) (bt y.v.lg) y.v.w0 (B y.v.w1) (y.a : Int) (y.b : Int) (y.c : Int) (y.d : Int) (y.e : Int) k (de l fun r => κ r) (fun l2 => cm l l2 fun r => κ r)) (db o (B y.p) (B y.v.ty) (B y.v.sub) (y.v.ps.map bi) y.v.i0 (B y.v.i1) y.v.a0 (B y.v.a1) (cY y.v.c1) (B y.v.c1) (cY y.v.p1) (B y.v.p1) (y.v.pp.map bi) (bt y.v.lg) y.v.w0 (B y.v.w1) (y.a : Int) (y.b : Int) (y.c : Int) (y.d : Int) (y.e : Int) k (cO fun r => κ r) (fun l2 => cP l2 fun r => κ r)) = κ true := by
    refine BN o _ _ _ _ _ _ _ _ _ _ _ _ _ _ _ _ _ _ _ _ _ _ _ _ _ hw ?_ fun hS => ?_
    ·refine wO o _ _ _ _ _ _ _ _ _ _ _ _ _ _ _ _ _ _ _ _ _ _ _ _ _ hw ?_ fun hS => ?_
     ·exact B1 _ (hlen o) _
     ·rw [hS]; exact B0 _
    ·refine wO o _ _ _ _ _ _ _ _ _ _ _ _ _ _ _ _ _ _ _ _ _ _ _ _ _ hw ?_ fun hS => ?_
     ·rw [hS]; exact BW _
     ·exact BV _
   refine BN a _ _ _ _ _ _ _ _ _ _ _ _ _ _ _ _ _ _ _ _ _ _ _ _ _ hw ?_ fun hS => ?_
   ·refine wO a _ _ _ _ _ _ _ _ _ _ _ _ _ _ _ _ _ _ _ _ _ _ _ _ _ hw ?_ fun hS => ?_
    ·refine (B1 _ (hlen a) _).trans ?_
     exact second
    ·rw [hS]
     refine (B0 _).trans ?_
     exact second
   ·refine wO a _ _ _ _ _ _ _ _ _ _ _ _ _ _ _ _ _ _ _ _ _ _ _ _ _ hw ?_ fun hS => ?_
    ·rw [hS]
     refine (BW _).trans ?_
     exact second
    ·refine (BV _).trans ?_
     exact second
end Go.Proofs.Ab
