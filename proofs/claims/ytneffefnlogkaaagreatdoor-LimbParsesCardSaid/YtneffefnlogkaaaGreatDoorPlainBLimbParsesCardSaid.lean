/- The plain functions of program and document say the same (conditions: those of each lemma). -/
import Derived.Test.YtneffefnlogkaaaGreatDoorPlainALimbParsesCardSaid
set_option linter.unusedVariables false
set_option linter.unusedSimpArgs false
set_option maxRecDepth 4000
namespace Go.Proofs.Ab
open Go
variable {R : Type}
mutual
theorem eqA_refl : ∀ (a : AV), eqA a a = true
 | .no => rfl
 | .int x => by show decide (x = x) = true; simp
 | .bool x => by show (x == x) = true; simp
 | .str x => by show decide (x = x) = true; simp
 | .sl x => eqAs_refl x
 | .agg x => eqAs_refl x
theorem eqAs_refl : ∀ (a : LA), eqAs a a = true
 | [] => rfl
 | x :: l => by show (eqA x x && eqAs l l) = true; rw [eqA_refl x, eqAs_refl l]; rfl
end
def goodS : SV -> Bool
 | .no | .undef | .int _ _ | .bool _ | .str _ | .nil | .ro _ _ _ | .own _ | .ptr _ _ => true
 | _ => false
theorem eqS_refl {x : SV} (h : goodS x = true) : eqS x x = true := by
 cases x <;> first | rfl | (cases h; done) | skip
 ·show (decide (_ = _) && decide (_ = _)) = true; simp
 ·show (_ == _) = true; simp
 ·show decide (_ = _) = true; simp
 ·show (Nat.beq _ _ && (eqAs _ _ && (_ == _))) = true; rw [Nat.beq_refl, eqAs_refl]; simp
 ·show Nat.beq _ _ = true; rw [Nat.beq_refl]
 ·show (Nat.beq _ _ && Nat.beq _ _) = true; rw [Nat.beq_refl, Nat.beq_refl]; rfl
def goodSs : List SV -> Bool
 | [] => true
 | x :: l => bif goodS x then goodSs l else false
theorem eqSs_refl : ∀ {l : List SV}, goodSs l = true -> eqSs l l = true
 | [], _ => rfl
 | x :: l, h => by
  rw [goodSs] at h
  cases hx : goodS x with
  | false => rw [hx] at h; cases h
  | true =>
   rw [hx, cond_true] at h
   show (eqS x x && eqSs l l) = true
   rw [eqS_refl hx, eqSs_refl h]; rfl
def goodO : Obj -> Bool
 | .row _ _ _ => true
 | .var _ l => goodSs l
 | _ => false
def goodOs : List (Nat × Obj) -> Bool
 | [] => true
 | (_, o) :: l => bif goodO o then goodOs l else false
theorem eqO_refl {o : Obj} (h : goodO o = true) : eqO o o = true := by
 cases o <;> first | (cases h; done) | skip
 ·show (Nat.beq _ _ && (eqAs _ _ && (_ == _))) = true; rw [Nat.beq_refl, eqAs_refl]; simp
 ·show (Nat.beq _ _ && eqSs _ _) = true
  rw [Nat.beq_refl, eqSs_refl h]; rfl
theorem eqOs_refl : ∀ {l : List (Nat × Obj)}, goodOs l = true -> eqOs l l = true
 | [], _ => rfl
 | (n, o) :: l, h => by
  rw [goodOs] at h
  cases hx : goodO o with
  | false => rw [hx] at h; cases h
  | true =>
   rw [hx, cond_true] at h
   show (Nat.beq n n && (eqO o o && eqOs l l)) = true
   rw [Nat.beq_refl, eqO_refl hx, eqOs_refl h]; rfl
theorem eqSt_refl {s : St} (h1 : goodSs s.slots = true) (h2 : goodOs s.objs = true) : eqSt s s = true := by
 show (eqSs s.slots s.slots && (eqOs s.objs s.objs && Nat.beq s.next s.next)) = true
 rw [eqSs_refl h1, eqOs_refl h2, Nat.beq_refl]; rfl
theorem setA_snoc (l : LA) (x y : AV) : setA (l ++ [x]) (l.length : Int) y = l ++ [y] := setA_at l x y [] l.length rfl
def limbAV (y : LV) (k : LA) : AV := .agg [.str (B y.p), .str (B y.v.ty), .str (B y.v.sub), .sl (y.v.ps.map pmAV), .bool y.v.i0, .str (B y.v.i1), .bool y.v.a0, .str (B y.v.a1), .bool (emp y.v.c1), .str (B y.v.c1), .bool (emp y.v.p1), .str (B y.v.p1), .sl (y.v.pp.map pmAV), .sl (rowsS y.v.lg), .bool y.v.w0, .str (B y.v.w1), .int (y.a : Int), .int (y.b : Int), .int (y.c : Int), .int (y.d : Int), .int (y.e : Int), .sl k]
def appT : List UInt8 := [97, 112, 112, 108, 105, 99, 97, 116, 105, 111, 110]
def octT : List UInt8 := [111, 99, 116, 101, 116, 45, 115, 116, 114, 101, 97, 109]
def digT : List UInt8 := [100, 105, 103, 101, 115, 116]
def offL (x : LV) : LV := { x with v := { x.v with ty := appT, sub := octT, ps := [] } }
def dgG (x : LV) : Bool := decide (x.v.ty = mlt) && decide (x.v.sub = digT)
def finG (w : List UInt8) (x : LV) (em : Bool) : LV :=
 if em then (if x.v.ty = mimeT then { x with e := endsL (bodyL w x) } else if msgT x = true ∨ x.v.ty = mlt then offL x else x)
 else (if msgT x then { x with e := endsL (bodyL w x) } else x)
def sliL (w : List UInt8) (q : Nat × Nat) : List UInt8 := (w.take q.2).drop q.1
def kidL (w : List UInt8) (q : Nat × Nat) (p : List UInt8) (dg : Bool) : LV where
 p := p
 v := hdV (hdS (sliL w q)) dg
 a := q.1
 b := q.1 + (hdS (sliL w q)).length
 c := q.1 + (hdS (sliL w q)).length
 d := q.2
 e := 0
def kidsG (rec : LV -> Nat -> LV × LA × Nat) (w : List UInt8) (plc : Nat -> List UInt8) (dg : Bool) : Nat -> LA -> Nat -> List (Nat × Nat) -> LA × Nat
 | _, acc, cnt, [] => (acc, cnt)
 | i, acc, cnt, q :: r => kidsG rec w plc dg (i + 1) (acc ++ [limbAV (rec (kidL w q (plc (i + 1)) dg) cnt).1 (rec (kidL w q (plc (i + 1)) dg) cnt).2.1]) (rec (kidL w q (plc (i + 1)) dg) cnt).2.2 r
def opG (w : List UInt8) : Nat -> LV -> Nat -> Bool -> Nat -> LV × LA × Nat
 | 0, x, _, _, cnt => (x, [], cnt)
 | n + 1, x, deep, is, cnt =>
  if deep < 5 /\ cnt + (piG w x).length <= 16 then
   (finG w x (kidsG (fun y c => opG w n y (deep + 1) (msgT x) c) w (plcG x is) (dgG x) 0 [] (cnt + (piG w x).length) (piG w x)).1.isEmpty,
    kidsG (fun y c => opG w n y (deep + 1) (msgT x) c) w (plcG x is) (dgG x) 0 [] (cnt + (piG w x).length) (piG w x))
  else (finG w x true, [], cnt)
def okL (w : List UInt8) (x : LV) : Prop := x.c <= x.d /\ x.d <= w.length /\ uniq x.v.ps /\ x.v.ps.length <= 12
theorem sliL_len {w : List UInt8} {q : Nat × Nat} (h1 : q.1 <= q.2) (h2 : q.2 <= w.length) : (sliL w q).length = q.2 - q.1 := by
 unfold sliL; rw [List.length_drop, List.length_take]; omega
theorem kid_ok {w : List UInt8} {q : Nat × Nat} (h1 : q.1 <= q.2) (h2 : q.2 <= w.length) (p : List UInt8) (dg : Bool) : okL w (kidL w q p dg) := by
 have h3 := sliL_len h1 h2
 have h4 := hdS_len (sliL w q)
 have h5 := uniq_hdV (hdS (sliL w q)) dg
 refine ⟨?_, h2, h5.1, h5.2⟩
 show q.1 + (hdS (sliL w q)).length <= q.2
 omega
theorem piG_in {w : List UInt8} {x : LV} (hw : w.length <= 200000) (h : okL w x) : ∀ q ∈ piG w x, q.1 <= q.2 /\ q.2 <= w.length := by
 obtain ⟨h1, h2, _, _⟩ := h
 have hbl : (bodyL w x).length = x.d - x.c := by unfold bodyL; rw [List.length_drop, List.length_take]; omega
 intro q hq
 unfold piG at hq
 split at hq
 ·split at hq
  ·rw [List.mem_singleton] at hq
   subst hq
   exact ⟨h1, h2⟩
  ·cases hq
 ·split at hq
  ·obtain ⟨p, hp, rfl⟩ := List.mem_map.1 hq
   have := ptG_in (valL x.v.ps) (bodyL w x) (by omega) _ none (bodyL w x) (Nat.le_refl _) (List.suffix_refl _) (fun k e => by cases e) p hp
   simp only
   omega
  ·cases hq
theorem kids_cnt {rec : LV -> Nat -> LV × LA × Nat} {w : List UInt8} (hrec : ∀ y c, c <= 16 -> (rec y c).2.2 <= 16) (plc : Nat -> List UInt8) (dg : Bool) : ∀ (r : List (Nat × Nat)) (i : Nat) (acc : LA) (cnt : Nat), cnt <= 16 -> (kidsG rec w plc dg i acc cnt r).2 <= 16
 | [], _, _, cnt, h => h
 | q :: r, i, acc, cnt, h => by
  rw [kidsG]
  exact kids_cnt hrec plc dg r _ _ _ (hrec _ _ h)
theorem op_cnt (w : List UInt8) : ∀ (n : Nat) (x : LV) (deep : Nat) (is : Bool) (cnt : Nat), cnt <= 16 -> (opG w n x deep is cnt).2.2 <= 16
 | 0, _, _, _, _, h => h
 | n + 1, x, deep, is, cnt, h => by
  rw [opG]
  split
  ·rename_i c
   exact kids_cnt (fun y c h => op_cnt w n y _ _ c h) _ _ _ _ _ _ c.2
  ·exact h
theorem kids_len {rec : LV -> Nat -> LV × LA × Nat} {w : List UInt8} (plc : Nat -> List UInt8) (dg : Bool) : ∀ (r : List (Nat × Nat)) (i : Nat) (acc : LA) (cnt : Nat), (kidsG rec w plc dg i acc cnt r).1.length = acc.length + r.length
 | [], _, _, cnt => rfl
 | q :: r, i, acc, cnt => by
  rw [kidsG, kids_len plc dg r]
  simp; omega
theorem plc_len (x : LV) (is : Bool) (k : Nat) : (plcG x is k).length <= x.p.length + 3 := by
 have := und_len x.p k
 unfold plcG
 split
 ·split <;> omega
 ·omega
theorem lOp_fin (RF : lm_tree_open.F R) {w : List UInt8} {x : LV} (hx : okL w x) (hw : w.length <= 200000) (cnt : Nat) (κ0 : BA -> Int -> BA -> BA -> BA -> LA -> Bool -> BA -> Bool -> BA -> Bool -> BA -> Bool -> BA -> LA -> LA -> Bool -> BA -> Int -> Int -> Int -> Int -> Int -> LA -> Option R) (κ1 : BA -> Int -> BA -> BA -> BA -> Bool -> BA -> Bool -> BA -> Bool -> BA -> Bool -> BA -> LA -> LA -> Bool -> BA -> Int -> Int -> Int -> Int -> Int -> LA -> Option R) (hκ : ∀ (z : LV) (c : Int) (k : LA), κ1 (B w) c (B z.p) (B z.v.ty) (B z.v.sub) z.v.i0 (B z.v.i1) z.v.a0 (B z.v.a1) (emp z.v.c1) (B z.v.c1) (emp z.v.p1) (B z.v.p1) (z.v.pp.map pmAV) (rowsS z.v.lg) z.v.w0 (B z.v.w1) (z.a : Int) (z.b : Int) (z.c : Int) (z.d : Int) (z.e : Int) k = κ0 (B w) c (B z.p) (B z.v.ty) (B z.v.sub) ([] : LA) z.v.i0 (B z.v.i1) z.v.a0 (B z.v.a1) (emp z.v.c1) (B z.v.c1) (emp z.v.p1) (B z.v.p1) (z.v.pp.map pmAV) (rowsS z.v.lg) z.v.w0 (B z.v.w1) (z.a : Int) (z.b : Int) (z.c : Int) (z.d : Int) (z.e : Int) k) (f : Nat) (k : LA) :
  lm_tree_open.L15 lm_tree_parts lm_tree_limb st_Count lm_isMessage1 lm_place lm_isMessage2 RF κ0 κ1 (f + 1) (B x.p) (B x.v.ty) (B x.v.sub) (x.v.ps.map pmAV) x.v.i0 (B x.v.i1) x.v.a0 (B x.v.a1) (emp x.v.c1) (B x.v.c1) (emp x.v.p1) (B x.v.p1) (x.v.pp.map pmAV) (rowsS x.v.lg) x.v.w0 (B x.v.w1) (x.a : Int) (x.b : Int) (x.c : Int) (x.d : Int) (x.e : Int) k (B w) (cnt : Int) = κ0 (B w) (cnt : Int) (B (finG w x k.isEmpty).p) (B (finG w x k.isEmpty).v.ty) (B (finG w x k.isEmpty).v.sub) ((finG w x k.isEmpty).v.ps.map pmAV) (finG w x k.isEmpty).v.i0 (B (finG w x k.isEmpty).v.i1) (finG w x k.isEmpty).v.a0 (B (finG w x k.isEmpty).v.a1) (emp (finG w x k.isEmpty).v.c1) (B (finG w x k.isEmpty).v.c1) (emp (finG w x k.isEmpty).v.p1) (B (finG w x k.isEmpty).v.p1) ((finG w x k.isEmpty).v.pp.map pmAV) (rowsS (finG w x k.isEmpty).v.lg) (finG w x k.isEmpty).v.w0 (B (finG w x k.isEmpty).v.w1) ((finG w x k.isEmpty).a : Int) ((finG w x k.isEmpty).b : Int) ((finG w x k.isEmpty).c : Int) ((finG w x k.isEmpty).d : Int) ((finG w x k.isEmpty).e : Int) k := by
 obtain ⟨h1, h2, _, _⟩ := hx
 have hm : ∀ a b : List UInt8, decide (B a = B b) = decide (a = b) := fun a b => decide_eq_decide.2 B_inj
 have hbl : (bodyL w x).length = x.d - x.c := by unfold bodyL; rw [List.length_drop, List.length_take]; omega
 rw [lm_tree_open.L15, lm_tree_open.t15, chk_and, chk_dec (by omega), chk_and, chk_dec (by omega), chk_dec (by rw [szB]; omega), Int.toNat_natCast, Int.toNat_natCast, extract_B]
 show st_Count (B (bodyL w x)) _ _ = _
 rw [lCo _ (by omega), lIsMr]
 cases k with
 | cons a k =>
  rw [cond_dec (by simp only [List.length_cons]; omega)]
  have : finG w x (a :: k).isEmpty = if msgT x then { x with e := endsL (bodyL w x) } else x := rfl
  rw [this]
  cases msgT x with
  | true => rfl
  | false => rfl
 | nil =>
  rw [cond_dec' (by simp)]
  have : finG w x ([] : LA).isEmpty = (if x.v.ty = mimeT then { x with e := endsL (bodyL w x) } else if msgT x = true ∨ x.v.ty = mlt then offL x else x) := rfl
  rw [this, show (⟨#[116, 101, 120, 116]⟩ : BA) = B mimeT from rfl, hm]
  by_cases c1 : x.v.ty = mimeT
  ·rw [decide_eq_true c1, cond_true, if_pos c1]
  ·rw [decide_eq_false c1, cond_false, if_neg c1, lIsMr, show (⟨#[109, 117, 108, 116, 105, 112, 97, 114, 116]⟩ : BA) = B mlt from rfl, hm]
   have off := hκ (offL x) (cnt : Int) []
   cases c2 : msgT x with
   | true => rw [cond_true, if_pos (.inl rfl)]; exact off
   | false =>
    rw [cond_false]
    by_cases c3 : x.v.ty = mlt
    ·rw [decide_eq_true c3, cond_true, if_pos (.inr c3)]; exact off
    ·rw [decide_eq_false c3, cond_false, if_neg (fun h => h.elim (fun h => by cases h) c3)]
theorem lOp_loop (RF : lm_tree_open.F R) {w : List UInt8} {x : LV} (hx : okL w x) (hw : w.length <= 200000) (hp : x.p.length <= 1000) (deep : Nat) (hdp : deep <= 100) (ins : Bool) (rec : LV -> Nat -> LV × LA × Nat) (hrc : ∀ y c, c <= 16 -> (rec y c).2.2 <= 16)
  (hrec : ∀ (y : LV) (cnt : Nat) (κ0 : BA -> Int -> BA -> BA -> BA -> LA -> Bool -> BA -> Bool -> BA -> Bool -> BA -> Bool -> BA -> LA -> LA -> Bool -> BA -> Int -> Int -> Int -> Int -> Int -> LA -> Option R) (κ1 : BA -> Int -> BA -> BA -> BA -> Bool -> BA -> Bool -> BA -> Bool -> BA -> Bool -> BA -> LA -> LA -> Bool -> BA -> Int -> Int -> Int -> Int -> Int -> LA -> Option R), okL w y -> y.p.length <= x.p.length + 3 -> cnt <= 16 -> (∀ (z : LV) (c : Int) (k : LA), κ1 (B w) c (B z.p) (B z.v.ty) (B z.v.sub) z.v.i0 (B z.v.i1) z.v.a0 (B z.v.a1) (emp z.v.c1) (B z.v.c1) (emp z.v.p1) (B z.v.p1) (z.v.pp.map pmAV) (rowsS z.v.lg) z.v.w0 (B z.v.w1) (z.a : Int) (z.b : Int) (z.c : Int) (z.d : Int) (z.e : Int) k = κ0 (B w) c (B z.p) (B z.v.ty) (B z.v.sub) ([] : LA) z.v.i0 (B z.v.i1) z.v.a0 (B z.v.a1) (emp z.v.c1) (B z.v.c1) (emp z.v.p1) (B z.v.p1) (z.v.pp.map pmAV) (rowsS z.v.lg) z.v.w0 (B z.v.w1) (z.a : Int) (z.b : Int) (z.c : Int) (z.d : Int) (z.e : Int) k) -> RF (B w) (cnt : Int) (B y.p) (B y.v.ty) (B y.v.sub) (y.v.ps.map pmAV) y.v.i0 (B y.v.i1) y.v.a0 (B y.v.a1) (emp y.v.c1) (B y.v.c1) (emp y.v.p1) (B y.v.p1) (y.v.pp.map pmAV) (rowsS y.v.lg) y.v.w0 (B y.v.w1) (y.a : Int) (y.b : Int) (y.c : Int) (y.d : Int) (y.e : Int) ((deep + 1 : Nat) : Int) (msgT x) κ0 κ1 = κ0 (B w) ((rec y cnt).2.2 : Int) (B (rec y cnt).1.p) (B (rec y cnt).1.v.ty) (B (rec y cnt).1.v.sub) ((rec y cnt).1.v.ps.map pmAV) (rec y cnt).1.v.i0 (B (rec y cnt).1.v.i1) (rec y cnt).1.v.a0 (B (rec y cnt).1.v.a1) (emp (rec y cnt).1.v.c1) (B (rec y cnt).1.v.c1) (emp (rec y cnt).1.v.p1) (B (rec y cnt).1.v.p1) ((rec y cnt).1.v.pp.map pmAV) (rowsS (rec y cnt).1.v.lg) (rec y cnt).1.v.w0 (B (rec y cnt).1.v.w1) ((rec y cnt).1.a : Int) ((rec y cnt).1.b : Int) ((rec y cnt).1.c : Int) ((rec y cnt).1.d : Int) ((rec y cnt).1.e : Int) (rec y cnt).2.1)
  (κ0 : BA -> Int -> BA -> BA -> BA -> LA -> Bool -> BA -> Bool -> BA -> Bool -> BA -> Bool -> BA -> LA -> LA -> Bool -> BA -> Int -> Int -> Int -> Int -> Int -> LA -> Option R) (κ1 : BA -> Int -> BA -> BA -> BA -> Bool -> BA -> Bool -> BA -> Bool -> BA -> Bool -> BA -> LA -> LA -> Bool -> BA -> Int -> Int -> Int -> Int -> Int -> LA -> Option R) (hκ : ∀ (z : LV) (c : Int) (k : LA), κ1 (B w) c (B z.p) (B z.v.ty) (B z.v.sub) z.v.i0 (B z.v.i1) z.v.a0 (B z.v.a1) (emp z.v.c1) (B z.v.c1) (emp z.v.p1) (B z.v.p1) (z.v.pp.map pmAV) (rowsS z.v.lg) z.v.w0 (B z.v.w1) (z.a : Int) (z.b : Int) (z.c : Int) (z.d : Int) (z.e : Int) k = κ0 (B w) c (B z.p) (B z.v.ty) (B z.v.sub) ([] : LA) z.v.i0 (B z.v.i1) z.v.a0 (B z.v.a1) (emp z.v.c1) (B z.v.c1) (emp z.v.p1) (B z.v.p1) (z.v.pp.map pmAV) (rowsS z.v.lg) z.v.w0 (B z.v.w1) (z.a : Int) (z.b : Int) (z.c : Int) (z.d : Int) (z.e : Int) k) (P : List (Nat × Nat)) (hP : P.length <= 16) (hin : ∀ q ∈ P, q.1 <= q.2 /\ q.2 <= w.length) :
  ∀ (r d : List (Nat × Nat)) (acc : LA) (cnt f : Nat), d ++ r = P -> acc.length = d.length -> cnt <= 16 -> 3 * r.length + 2 <= f ->
  (lm_tree_open.M5 lm_tree_parts lm_tree_limb st_Count lm_isMessage1 lm_place lm_isMessage2 RF κ0 κ1 f).1 (deep : Int) ins (P.length : Int) (d.length : Int) (B x.p) (B x.v.ty) (B x.v.sub) (x.v.ps.map pmAV) x.v.i0 (B x.v.i1) x.v.a0 (B x.v.a1) (emp x.v.c1) (B x.v.c1) (emp x.v.p1) (B x.v.p1) (x.v.pp.map pmAV) (rowsS x.v.lg) x.v.w0 (B x.v.w1) (x.a : Int) (x.b : Int) (x.c : Int) (x.d : Int) (x.e : Int) (B w) (cnt : Int) acc (P.map (pcA 0)) = κ0 (B w) ((kidsG rec w (plcG x (ins || decide (deep = 0))) (dgG x) d.length acc cnt r).2 : Int) (B (finG w x (kidsG rec w (plcG x (ins || decide (deep = 0))) (dgG x) d.length acc cnt r).1.isEmpty).p) (B (finG w x (kidsG rec w (plcG x (ins || decide (deep = 0))) (dgG x) d.length acc cnt r).1.isEmpty).v.ty) (B (finG w x (kidsG rec w (plcG x (ins || decide (deep = 0))) (dgG x) d.length acc cnt r).1.isEmpty).v.sub) ((finG w x (kidsG rec w (plcG x (ins || decide (deep = 0))) (dgG x) d.length acc cnt r).1.isEmpty).v.ps.map pmAV) (finG w x (kidsG rec w (plcG x (ins || decide (deep = 0))) (dgG x) d.length acc cnt r).1.isEmpty).v.i0 (B (finG w x (kidsG rec w (plcG x (ins || decide (deep = 0))) (dgG x) d.length acc cnt r).1.isEmpty).v.i1) (finG w x (kidsG rec w (plcG x (ins || decide (deep = 0))) (dgG x) d.length acc cnt r).1.isEmpty).v.a0 (B (finG w x (kidsG rec w (plcG x (ins || decide (deep = 0))) (dgG x) d.length acc cnt r).1.isEmpty).v.a1) (emp (finG w x (kidsG rec w (plcG x (ins || decide (deep = 0))) (dgG x) d.length acc cnt r).1.isEmpty).v.c1) (B (finG w x (kidsG rec w (plcG x (ins || decide (deep = 0))) (dgG x) d.length acc cnt r).1.isEmpty).v.c1) (emp (finG w x (kidsG rec w (plcG x (ins || decide (deep = 0))) (dgG x) d.length acc cnt r).1.isEmpty).v.p1) (B (finG w x (kidsG rec w (plcG x (ins || decide (deep = 0))) (dgG x) d.length acc cnt r).1.isEmpty).v.p1) ((finG w x (kidsG rec w (plcG x (ins || decide (deep = 0))) (dgG x) d.length acc cnt r).1.isEmpty).v.pp.map pmAV) (rowsS (finG w x (kidsG rec w (plcG x (ins || decide (deep = 0))) (dgG x) d.length acc cnt r).1.isEmpty).v.lg) (finG w x (kidsG rec w (plcG x (ins || decide (deep = 0))) (dgG x) d.length acc cnt r).1.isEmpty).v.w0 (B (finG w x (kidsG rec w (plcG x (ins || decide (deep = 0))) (dgG x) d.length acc cnt r).1.isEmpty).v.w1) ((finG w x (kidsG rec w (plcG x (ins || decide (deep = 0))) (dgG x) d.length acc cnt r).1.isEmpty).a : Int) ((finG w x (kidsG rec w (plcG x (ins || decide (deep = 0))) (dgG x) d.length acc cnt r).1.isEmpty).b : Int) ((finG w x (kidsG rec w (plcG x (ins || decide (deep = 0))) (dgG x) d.length acc cnt r).1.isEmpty).c : Int) ((finG w x (kidsG rec w (plcG x (ins || decide (deep = 0))) (dgG x) d.length acc cnt r).1.isEmpty).d : Int) ((finG w x (kidsG rec w (plcG x (ins || decide (deep = 0))) (dgG x) d.length acc cnt r).1.isEmpty).e : Int) (kidsG rec w (plcG x (ins || decide (deep = 0))) (dgG x) d.length acc cnt r).1
 | [], d, acc, cnt, f, hd, ha, hc, hf => by
  obtain ⟨g, rfl⟩ : ∃ g, f = g + 2 := ⟨f - 2, by omega⟩
  rw [List.append_nil] at hd
  rw [lm_tree_open.M5]
  simp only
  rw [lm_tree_open.t5, hd, cond_dec' (by omega)]
  exact lOp_fin RF hx hw cnt κ0 κ1 hκ g acc
 | q :: r, d, acc, cnt, f, hd, ha, hc, hf => by
  simp only [List.length_cons] at hf
  obtain ⟨g, rfl⟩ : ∃ g, f = g + 3 := ⟨f - 3, by omega⟩
  have hm : ∀ a b : List UInt8, decide (B a = B b) = decide (a = b) := fun a b => decide_eq_decide.2 B_inj
  have hlen : d.length + r.length + 1 = P.length := by rw [<- hd]; simp; omega
  have hq : q ∈ P := by rw [<- hd]; simp
  obtain ⟨q1, q2⟩ := hin q hq
  have hget : rdA (P.map (pcA 0)) (d.length : Int) = pcA 0 q := rdA_get (by rw [List.getElem?_map, <- hd]; simp)
  have hpl : (P.map (pcA 0)).length = P.length := List.length_map ..
  have f0 : ((pcA 0 q).fld 0).i = (q.1 : Int) := by show ((0 + q.1 : Nat) : Int) = _; rw [Nat.zero_add]
  have f1 : ((pcA 0 q).fld 1).i = (q.2 : Int) := by show ((0 + q.2 : Nat) : Int) = _; rw [Nat.zero_add]
  have hsl := sliL_len q1 q2
  have w1 : IntKind.wrap .i64 ((d.length : Int) + 1) = ((d.length + 1 : Nat) : Int) := wrap_i64 (by omega) (by omega)
  have w2 : IntKind.wrap .i64 ((deep : Int) + 1) = ((deep + 1 : Nat) : Int) := wrap_i64 (by omega) (by omega)
  have limb := fun (dg : Bool) => lLimb (R := R) (w := w) (s := sliL w q) (F := q.1) (by rw [hsl, show q.1 + (q.2 - q.1) = q.2 by omega]; rfl) (by omega) hw (cnt : Int) dg
  rw [hsl, show q.1 + (q.2 - q.1) = q.2 by omega] at limb
  have body : (lm_tree_open.M5 lm_tree_parts lm_tree_limb st_Count lm_isMessage1 lm_place lm_isMessage2 RF κ0 κ1 (g + 2)).2.1 (deep : Int) ins (d.length : Int) (P.length : Int) (d.length : Int) (B x.p) (B x.v.ty) (B x.v.sub) (x.v.ps.map pmAV) x.v.i0 (B x.v.i1) x.v.a0 (B x.v.a1) (emp x.v.c1) (B x.v.c1) (emp x.v.p1) (B x.v.p1) (x.v.pp.map pmAV) (rowsS x.v.lg) x.v.w0 (B x.v.w1) (x.a : Int) (x.b : Int) (x.c : Int) (x.d : Int) (x.e : Int) (B w) (cnt : Int) acc (B []) (B (kidL w q (plcG x (ins || decide (deep = 0)) (d.length + 1)) (dgG x)).v.ty) (B (kidL w q (plcG x (ins || decide (deep = 0)) (d.length + 1)) (dgG x)).v.sub) ((kidL w q (plcG x (ins || decide (deep = 0)) (d.length + 1)) (dgG x)).v.ps.map pmAV) (kidL w q (plcG x (ins || decide (deep = 0)) (d.length + 1)) (dgG x)).v.i0 (B (kidL w q (plcG x (ins || decide (deep = 0)) (d.length + 1)) (dgG x)).v.i1) (kidL w q (plcG x (ins || decide (deep = 0)) (d.length + 1)) (dgG x)).v.a0 (B (kidL w q (plcG x (ins || decide (deep = 0)) (d.length + 1)) (dgG x)).v.a1) (emp (kidL w q (plcG x (ins || decide (deep = 0)) (d.length + 1)) (dgG x)).v.c1) (B (kidL w q (plcG x (ins || decide (deep = 0)) (d.length + 1)) (dgG x)).v.c1) (emp (kidL w q (plcG x (ins || decide (deep = 0)) (d.length + 1)) (dgG x)).v.p1) (B (kidL w q (plcG x (ins || decide (deep = 0)) (d.length + 1)) (dgG x)).v.p1) ((kidL w q (plcG x (ins || decide (deep = 0)) (d.length + 1)) (dgG x)).v.pp.map pmAV) (rowsS (kidL w q (plcG x (ins || decide (deep = 0)) (d.length + 1)) (dgG x)).v.lg) (kidL w q (plcG x (ins || decide (deep = 0)) (d.length + 1)) (dgG x)).v.w0 (B (kidL w q (plcG x (ins || decide (deep = 0)) (d.length + 1)) (dgG x)).v.w1) ((kidL w q (plcG x (ins || decide (deep = 0)) (d.length + 1)) (dgG x)).a : Int) ((kidL w q (plcG x (ins || decide (deep = 0)) (d.length + 1)) (dgG x)).b : Int) ((kidL w q (plcG x (ins || decide (deep = 0)) (d.length + 1)) (dgG x)).c : Int) ((kidL w q (plcG x (ins || decide (deep = 0)) (d.length + 1)) (dgG x)).d : Int) ((kidL w q (plcG x (ins || decide (deep = 0)) (d.length + 1)) (dgG x)).e : Int) (P.map (pcA 0)) = κ0 (B w) ((kidsG rec w (plcG x (ins || decide (deep = 0))) (dgG x) d.length acc cnt (q :: r)).2 : Int) (B (finG w x (kidsG rec w (plcG x (ins || decide (deep = 0))) (dgG x) d.length acc cnt (q :: r)).1.isEmpty).p) (B (finG w x (kidsG rec w (plcG x (ins || decide (deep = 0))) (dgG x) d.length acc cnt (q :: r)).1.isEmpty).v.ty) (B (finG w x (kidsG rec w (plcG x (ins || decide (deep = 0))) (dgG x) d.length acc cnt (q :: r)).1.isEmpty).v.sub) ((finG w x (kidsG rec w (plcG x (ins || decide (deep = 0))) (dgG x) d.length acc cnt (q :: r)).1.isEmpty).v.ps.map pmAV) (finG w x (kidsG rec w (plcG x (ins || decide (deep = 0))) (dgG x) d.length acc cnt (q :: r)).1.isEmpty).v.i0 (B (finG w x (kidsG rec w (plcG x (ins || decide (deep = 0))) (dgG x) d.length acc cnt (q :: r)).1.isEmpty).v.i1) (finG w x (kidsG rec w (plcG x (ins || decide (deep = 0))) (dgG x) d.length acc cnt (q :: r)).1.isEmpty).v.a0 (B (finG w x (kidsG rec w (plcG x (ins || decide (deep = 0))) (dgG x) d.length acc cnt (q :: r)).1.isEmpty).v.a1) (emp (finG w x (kidsG rec w (plcG x (ins || decide (deep = 0))) (dgG x) d.length acc cnt (q :: r)).1.isEmpty).v.c1) (B (finG w x (kidsG rec w (plcG x (ins || decide (deep = 0))) (dgG x) d.length acc cnt (q :: r)).1.isEmpty).v.c1) (emp (finG w x (kidsG rec w (plcG x (ins || decide (deep = 0))) (dgG x) d.length acc cnt (q :: r)).1.isEmpty).v.p1) (B (finG w x (kidsG rec w (plcG x (ins || decide (deep = 0))) (dgG x) d.length acc cnt (q :: r)).1.isEmpty).v.p1) ((finG w x (kidsG rec w (plcG x (ins || decide (deep = 0))) (dgG x) d.length acc cnt (q :: r)).1.isEmpty).v.pp.map pmAV) (rowsS (finG w x (kidsG rec w (plcG x (ins || decide (deep = 0))) (dgG x) d.length acc cnt (q :: r)).1.isEmpty).v.lg) (finG w x (kidsG rec w (plcG x (ins || decide (deep = 0))) (dgG x) d.length acc cnt (q :: r)).1.isEmpty).v.w0 (B (finG w x (kidsG rec w (plcG x (ins || decide (deep = 0))) (dgG x) d.length acc cnt (q :: r)).1.isEmpty).v.w1) ((finG w x (kidsG rec w (plcG x (ins || decide (deep = 0))) (dgG x) d.length acc cnt (q :: r)).1.isEmpty).a : Int) ((finG w x (kidsG rec w (plcG x (ins || decide (deep = 0))) (dgG x) d.length acc cnt (q :: r)).1.isEmpty).b : Int) ((finG w x (kidsG rec w (plcG x (ins || decide (deep = 0))) (dgG x) d.length acc cnt (q :: r)).1.isEmpty).c : Int) ((finG w x (kidsG rec w (plcG x (ins || decide (deep = 0))) (dgG x) d.length acc cnt (q :: r)).1.isEmpty).d : Int) ((finG w x (kidsG rec w (plcG x (ins || decide (deep = 0))) (dgG x) d.length acc cnt (q :: r)).1.isEmpty).e : Int) (kidsG rec w (plcG x (ins || decide (deep = 0))) (dgG x) d.length acc cnt (q :: r)).1 := by
   have hkz := plc_len x (ins || decide (deep = 0)) (d.length + 1)
   rw [kidsG, lm_tree_open.M5]
   simp only
   rw [lm_tree_open.t8, w1, w2, lPlc x (by omega) acc deep ins (d.length + 1) (by omega) (by omega), lIsMf]
   refine (hrec (kidL w q (plcG x (ins || decide (deep = 0)) (d.length + 1)) (dgG x)) cnt _ _ (kid_ok q1 q2 _ _) hkz hc (fun z c k => rfl)).trans ?_
   rw [chk_dec (by omega), chk_dec (by omega), chk_and, chk_dec (by omega), chk_dec (by simp only [List.length_append, List.length_cons, List.length_nil]; omega), setA_snoc, eqSt_refl, chk_tt, lm_tree_open.M5]
   ·simp only
    rw [lm_tree_open.t14, w1]
    have := lOp_loop RF hx hw hp deep hdp ins rec hrc hrec κ0 κ1 hκ P hP hin r (d ++ [q]) (acc ++ [limbAV (rec (kidL w q (plcG x (ins || decide (deep = 0)) (d.length + 1)) (dgG x)) cnt).1 (rec (kidL w q (plcG x (ins || decide (deep = 0)) (d.length + 1)) (dgG x)) cnt).2.1]) (rec (kidL w q (plcG x (ins || decide (deep = 0)) (d.length + 1)) (dgG x)) cnt).2.2 g (by rw [List.append_assoc]; exact hd) (by simp [ha]) (hrc _ _ hc) (by omega)
    rw [show (d ++ [q]).length = d.length + 1 by simp] at this
    exact this
   ·rfl
   ·rfl
  rw [lm_tree_open.M5]
  simp only
  rw [lm_tree_open.t5, hpl, cond_dec (by omega), chk_and, chk_dec (by omega), chk_dec (by omega), hget, f0, f1, limb, limb, show (⟨#[109, 117, 108, 116, 105, 112, 97, 114, 116]⟩ : BA) = B mlt from rfl, show (⟨#[100, 105, 103, 101, 115, 116]⟩ : BA) = B digT from rfl, hm, hm]
  unfold dgG at body ⊢
  by_cases c1 : x.v.ty = mlt
  ·rw [decide_eq_true c1, Bool.true_and] at body
   rw [decide_eq_true c1, cond_true, Bool.true_and]
   exact body
  ·rw [decide_eq_false c1, Bool.false_and] at body
   rw [decide_eq_false c1, cond_false, Bool.false_and]
   exact body
theorem lOp {w : List UInt8} (hw : w.length <= 200000) : ∀ (n fu : Nat) (x : LV) (deep : Nat) (ins : Bool) (cnt : Nat) (κ0 : BA -> Int -> BA -> BA -> BA -> LA -> Bool -> BA -> Bool -> BA -> Bool -> BA -> Bool -> BA -> LA -> LA -> Bool -> BA -> Int -> Int -> Int -> Int -> Int -> LA -> Option R) (κ1 : BA -> Int -> BA -> BA -> BA -> Bool -> BA -> Bool -> BA -> Bool -> BA -> Bool -> BA -> LA -> LA -> Bool -> BA -> Int -> Int -> Int -> Int -> Int -> LA -> Option R), okL w x -> x.p.length + 3 * n <= 1000 -> deep + n = 6 -> 1 <= n -> n <= fu -> cnt <= 16 -> (∀ (z : LV) (c : Int) (k : LA), κ1 (B w) c (B z.p) (B z.v.ty) (B z.v.sub) z.v.i0 (B z.v.i1) z.v.a0 (B z.v.a1) (emp z.v.c1) (B z.v.c1) (emp z.v.p1) (B z.v.p1) (z.v.pp.map pmAV) (rowsS z.v.lg) z.v.w0 (B z.v.w1) (z.a : Int) (z.b : Int) (z.c : Int) (z.d : Int) (z.e : Int) k = κ0 (B w) c (B z.p) (B z.v.ty) (B z.v.sub) ([] : LA) z.v.i0 (B z.v.i1) z.v.a0 (B z.v.a1) (emp z.v.c1) (B z.v.c1) (emp z.v.p1) (B z.v.p1) (z.v.pp.map pmAV) (rowsS z.v.lg) z.v.w0 (B z.v.w1) (z.a : Int) (z.b : Int) (z.c : Int) (z.d : Int) (z.e : Int) k) ->
  lm_tree_open.R fu (B w) (cnt : Int) (B x.p) (B x.v.ty) (B x.v.sub) (x.v.ps.map pmAV) x.v.i0 (B x.v.i1) x.v.a0 (B x.v.a1) (emp x.v.c1) (B x.v.c1) (emp x.v.p1) (B x.v.p1) (x.v.pp.map pmAV) (rowsS x.v.lg) x.v.w0 (B x.v.w1) (x.a : Int) (x.b : Int) (x.c : Int) (x.d : Int) (x.e : Int) (deep : Int) ins κ0 κ1 = κ0 (B w) ((opG w n x deep (ins || decide (deep = 0)) cnt).2.2 : Int) (B (opG w n x deep (ins || decide (deep = 0)) cnt).1.p) (B (opG w n x deep (ins || decide (deep = 0)) cnt).1.v.ty) (B (opG w n x deep (ins || decide (deep = 0)) cnt).1.v.sub) ((opG w n x deep (ins || decide (deep = 0)) cnt).1.v.ps.map pmAV) (opG w n x deep (ins || decide (deep = 0)) cnt).1.v.i0 (B (opG w n x deep (ins || decide (deep = 0)) cnt).1.v.i1) (opG w n x deep (ins || decide (deep = 0)) cnt).1.v.a0 (B (opG w n x deep (ins || decide (deep = 0)) cnt).1.v.a1) (emp (opG w n x deep (ins || decide (deep = 0)) cnt).1.v.c1) (B (opG w n x deep (ins || decide (deep = 0)) cnt).1.v.c1) (emp (opG w n x deep (ins || decide (deep = 0)) cnt).1.v.p1) (B (opG w n x deep (ins || decide (deep = 0)) cnt).1.v.p1) ((opG w n x deep (ins || decide (deep = 0)) cnt).1.v.pp.map pmAV) (rowsS (opG w n x deep (ins || decide (deep = 0)) cnt).1.v.lg) (opG w n x deep (ins || decide (deep = 0)) cnt).1.v.w0 (B (opG w n x deep (ins || decide (deep = 0)) cnt).1.v.w1) ((opG w n x deep (ins || decide (deep = 0)) cnt).1.a : Int) ((opG w n x deep (ins || decide (deep = 0)) cnt).1.b : Int) ((opG w n x deep (ins || decide (deep = 0)) cnt).1.c : Int) ((opG w n x deep (ins || decide (deep = 0)) cnt).1.d : Int) ((opG w n x deep (ins || decide (deep = 0)) cnt).1.e : Int) (opG w n x deep (ins || decide (deep = 0)) cnt).2.1
 | 0, _, _, _, _, _, _, _, _, _, _, h, _, _, _ => by omega
 | _ + 1, 0, _, _, _, _, _, _, _, _, _, _, h, _, _ => by omega
 | n + 1, fu + 1, x, deep, ins, cnt, κ0, κ1, hx, hp, hn, _, hfu, hc, hκ => by
  rw [lm_tree_open.R, lm_tree_open.B]
  have key : ∀ f, 1000 <= f -> lm_tree_open.e lm_tree_parts lm_tree_limb st_Count lm_isMessage1 lm_place lm_isMessage2 (lm_tree_open.R fu) (B w) (cnt : Int) (B x.p) (B x.v.ty) (B x.v.sub) (x.v.ps.map pmAV) x.v.i0 (B x.v.i1) x.v.a0 (B x.v.a1) (emp x.v.c1) (B x.v.c1) (emp x.v.p1) (B x.v.p1) (x.v.pp.map pmAV) (rowsS x.v.lg) x.v.w0 (B x.v.w1) (x.a : Int) (x.b : Int) (x.c : Int) (x.d : Int) (x.e : Int) (deep : Int) ins (lm_tree_open.L2 lm_tree_parts lm_tree_limb st_Count lm_isMessage1 lm_place lm_isMessage2 (lm_tree_open.R fu) κ0 κ1 (f + 1)) (lm_tree_open.L5 lm_tree_parts lm_tree_limb st_Count lm_isMessage1 lm_place lm_isMessage2 (lm_tree_open.R fu) κ0 κ1 (f + 1)) (lm_tree_open.L8 lm_tree_parts lm_tree_limb st_Count lm_isMessage1 lm_place lm_isMessage2 (lm_tree_open.R fu) κ0 κ1 (f + 1)) (lm_tree_open.L14 lm_tree_parts lm_tree_limb st_Count lm_isMessage1 lm_place lm_isMessage2 (lm_tree_open.R fu) κ0 κ1 (f + 1)) (lm_tree_open.L15 lm_tree_parts lm_tree_limb st_Count lm_isMessage1 lm_place lm_isMessage2 (lm_tree_open.R fu) κ0 κ1 (f + 1)) κ0 κ1 = κ0 (B w) ((opG w (n + 1) x deep (ins || decide (deep = 0)) cnt).2.2 : Int) (B (opG w (n + 1) x deep (ins || decide (deep = 0)) cnt).1.p) (B (opG w (n + 1) x deep (ins || decide (deep = 0)) cnt).1.v.ty) (B (opG w (n + 1) x deep (ins || decide (deep = 0)) cnt).1.v.sub) ((opG w (n + 1) x deep (ins || decide (deep = 0)) cnt).1.v.ps.map pmAV) (opG w (n + 1) x deep (ins || decide (deep = 0)) cnt).1.v.i0 (B (opG w (n + 1) x deep (ins || decide (deep = 0)) cnt).1.v.i1) (opG w (n + 1) x deep (ins || decide (deep = 0)) cnt).1.v.a0 (B (opG w (n + 1) x deep (ins || decide (deep = 0)) cnt).1.v.a1) (emp (opG w (n + 1) x deep (ins || decide (deep = 0)) cnt).1.v.c1) (B (opG w (n + 1) x deep (ins || decide (deep = 0)) cnt).1.v.c1) (emp (opG w (n + 1) x deep (ins || decide (deep = 0)) cnt).1.v.p1) (B (opG w (n + 1) x deep (ins || decide (deep = 0)) cnt).1.v.p1) ((opG w (n + 1) x deep (ins || decide (deep = 0)) cnt).1.v.pp.map pmAV) (rowsS (opG w (n + 1) x deep (ins || decide (deep = 0)) cnt).1.v.lg) (opG w (n + 1) x deep (ins || decide (deep = 0)) cnt).1.v.w0 (B (opG w (n + 1) x deep (ins || decide (deep = 0)) cnt).1.v.w1) ((opG w (n + 1) x deep (ins || decide (deep = 0)) cnt).1.a : Int) ((opG w (n + 1) x deep (ins || decide (deep = 0)) cnt).1.b : Int) ((opG w (n + 1) x deep (ins || decide (deep = 0)) cnt).1.c : Int) ((opG w (n + 1) x deep (ins || decide (deep = 0)) cnt).1.d : Int) ((opG w (n + 1) x deep (ins || decide (deep = 0)) cnt).1.e : Int) (opG w (n + 1) x deep (ins || decide (deep = 0)) cnt).2.1 := by
   intro f hf
   obtain ⟨h1, h2, h3, h4⟩ := hx
   have hx : okL w x := ⟨h1, h2, h3, h4⟩
   have hlp : ((piG w x).map (pcA 0)).length = (piG w x).length := List.length_map ..
   have hpb : (piG w x).length <= 1000000 := by
    have hbl : (bodyL w x).length = x.d - x.c := by unfold bodyL; rw [List.length_drop, List.length_take]; omega
    unfold piG
    split
    ·split <;> simp
    ·split
     ·have := ptG_len (valL x.v.ps) (bodyL w x) _ none (bodyL w x) (Nat.le_refl _)
      rw [List.length_map]; omega
     ·simp
   rw [lm_tree_open.e]
   refine (lPa h1 h2 hw h3 (by omega) (cnt : Int) _ _ (by rfl)).trans ?_
   rw [lm_tree_open.L2, lm_tree_open.t2, hlp, wrap_i64 (by omega) (by omega)]
   rw [opG]
   have fin0 := lOp_fin (lm_tree_open.R fu) hx hw cnt κ0 κ1 hκ (f - 1) []
   rw [show f - 1 + 1 = f by omega] at fin0
   by_cases c1 : deep < 5
   ·rw [cond_dec (by omega)]
    by_cases c2 : cnt + (piG w x).length <= 16
    ·rw [cond_dec (by omega), if_pos ⟨c1, c2⟩]
     have hl := lOp_loop (lm_tree_open.R fu) hx hw (by omega) deep (by omega) ins (fun y c => opG w n y (deep + 1) (msgT x) c) (fun y c h => op_cnt w n y _ _ c h)
      (fun y cnt κ0 κ1 hy hyp hcn hk => by
       have := lOp hw n fu y (deep + 1) (msgT x) cnt κ0 κ1 hy (by omega) (by omega) (by omega) (by omega) hcn hk
       rw [decide_eq_false (show ¬ deep + 1 = 0 by omega), Bool.or_false] at this
       exact this)
      κ0 κ1 hκ (piG w x) (by omega) (piG_in hw hx) (piG w x) [] [] (cnt + (piG w x).length) f rfl rfl c2 (by omega)
     exact hl
    ·rw [cond_dec' (by omega), if_neg (fun h => c2 h.2)]
     exact fin0
   ·rw [cond_dec' (by omega), if_neg (fun h => c1 h.1)]
    exact fin0
  exact key (fuelK - 1) (by unfold fuelK; omega)
theorem msg_one {w : List UInt8} {x : LV} (h : msgT x = true) : piG w x = [] ∨ piG w x = [(x.c, x.d)] := by
 unfold piG
 rw [if_pos h]
 split
 ·exact .inr rfl
 ·exact .inl rfl
theorem msg_ty {x : LV} (h : msgT x = true) : x.v.ty = mimeM := by
 unfold msgT at h
 rw [Bool.and_eq_true] at h
 exact of_decide_eq_true h.1
theorem rOp_loop (RF : r6_opened.F R) {w : List UInt8} {x : LV} (hw : w.length <= 200000) (hp : x.p.length <= 1000) (deep : Nat) (hdp : deep <= 100) (hmx : msgT x = false) (hty : x.v.ty = mlt) (is : Bool) (rec : LV -> Nat -> LV × LA × Nat) (hrc : ∀ y c, c <= 16 -> (rec y c).2.2 <= 16)
  (hrec : ∀ (y : LV) (cnt : Nat) (κ0 : BA -> BA -> BA -> LA -> Bool -> BA -> Bool -> BA -> Bool -> BA -> Bool -> BA -> LA -> LA -> Bool -> BA -> Int -> Int -> Int -> Int -> Int -> LA -> Int -> Option R), okL w y -> y.p.length <= x.p.length + 3 -> cnt <= 16 -> RF (B w) (B y.p) (B y.v.ty) (B y.v.sub) (y.v.ps.map pmAV) y.v.i0 (B y.v.i1) y.v.a0 (B y.v.a1) (emp y.v.c1) (B y.v.c1) (emp y.v.p1) (B y.v.p1) (y.v.pp.map pmAV) (rowsS y.v.lg) y.v.w0 (B y.v.w1) (y.a : Int) (y.b : Int) (y.c : Int) (y.d : Int) (y.e : Int) ((deep + 1 : Nat) : Int) false (cnt : Int) κ0 = κ0 (B (rec y cnt).1.p) (B (rec y cnt).1.v.ty) (B (rec y cnt).1.v.sub) ((rec y cnt).1.v.ps.map pmAV) (rec y cnt).1.v.i0 (B (rec y cnt).1.v.i1) (rec y cnt).1.v.a0 (B (rec y cnt).1.v.a1) (emp (rec y cnt).1.v.c1) (B (rec y cnt).1.v.c1) (emp (rec y cnt).1.v.p1) (B (rec y cnt).1.v.p1) ((rec y cnt).1.v.pp.map pmAV) (rowsS (rec y cnt).1.v.lg) (rec y cnt).1.v.w0 (B (rec y cnt).1.v.w1) ((rec y cnt).1.a : Int) ((rec y cnt).1.b : Int) ((rec y cnt).1.c : Int) ((rec y cnt).1.d : Int) ((rec y cnt).1.e : Int) (rec y cnt).2.1 ((rec y cnt).2.2 : Int))
  (κ0 : BA -> BA -> BA -> LA -> Bool -> BA -> Bool -> BA -> Bool -> BA -> Bool -> BA -> LA -> LA -> Bool -> BA -> Int -> Int -> Int -> Int -> Int -> LA -> Int -> Option R) (P : List (Nat × Nat)) (hP : P.length <= 16) (hin : ∀ q ∈ P, q.1 <= q.2 /\ q.2 <= w.length) :
  ∀ (r d : List (Nat × Nat)) (acc : LA) (cnt f : Nat), d ++ r = P -> acc.length = d.length -> cnt <= 16 -> r.length + 2 <= f ->
  r6_opened.L22 r6_ends r6_inside r6_under r6_limb RF κ0 f (B w) (deep : Int) (cnt : Int) (d.length : Int) (B x.p) (B x.v.ty) (B x.v.sub) (x.v.ps.map pmAV) x.v.i0 (B x.v.i1) x.v.a0 (B x.v.a1) (emp x.v.c1) (B x.v.c1) (emp x.v.p1) (B x.v.p1) (x.v.pp.map pmAV) (rowsS x.v.lg) x.v.w0 (B x.v.w1) (x.a : Int) (x.b : Int) (x.c : Int) (x.d : Int) (x.e : Int) acc (⟨#[]⟩ : BA) (⟨#[]⟩ : BA) (⟨#[]⟩ : BA) false (⟨#[]⟩ : BA) false (⟨#[]⟩ : BA) false (⟨#[]⟩ : BA) false (⟨#[]⟩ : BA) false (⟨#[]⟩ : BA) 0 0 0 0 0 (P.map (pcA 0)) = κ0 (B x.p) (B x.v.ty) (B x.v.sub) (x.v.ps.map pmAV) x.v.i0 (B x.v.i1) x.v.a0 (B x.v.a1) (emp x.v.c1) (B x.v.c1) (emp x.v.p1) (B x.v.p1) (x.v.pp.map pmAV) (rowsS x.v.lg) x.v.w0 (B x.v.w1) (x.a : Int) (x.b : Int) (x.c : Int) (x.d : Int) (x.e : Int) (kidsG rec w (plcG x is) (dgG x) d.length acc cnt r).1 ((kidsG rec w (plcG x is) (dgG x) d.length acc cnt r).2 : Int)
 | [], d, acc, cnt, f, hd, ha, hc, hf => by
  obtain ⟨g, rfl⟩ : ∃ g, f = g + 2 := ⟨f - 2, by omega⟩
  rw [List.append_nil] at hd
  have hpl : (P.map (pcA 0)).length = P.length := List.length_map ..
  rw [r6_opened.L22, r6_opened.t22, hpl, hd, cond_dec' (by omega)]
  rfl
 | q :: r, d, acc, cnt, f, hd, ha, hc, hf => by
  simp only [List.length_cons] at hf
  obtain ⟨g, rfl⟩ : ∃ g, f = g + 1 := ⟨f - 1, by omega⟩
  have hm : ∀ a b : List UInt8, decide (B a = B b) = decide (a = b) := fun a b => decide_eq_decide.2 B_inj
  have hlen : d.length + r.length + 1 = P.length := by rw [<- hd]; simp; omega
  have hq : q ∈ P := by rw [<- hd]; simp
  obtain ⟨q1, q2⟩ := hin q hq
  have hget : rdA (P.map (pcA 0)) (d.length : Int) = pcA 0 q := rdA_get (by rw [List.getElem?_map, <- hd]; simp)
  have hpl : (P.map (pcA 0)).length = P.length := List.length_map ..
  have f0 : ((pcA 0 q).fld 0).i = (q.1 : Int) := by show ((0 + q.1 : Nat) : Int) = _; rw [Nat.zero_add]
  have f1 : ((pcA 0 q).fld 1).i = (q.2 : Int) := by show ((0 + q.2 : Nat) : Int) = _; rw [Nat.zero_add]
  have hsl := sliL_len q1 q2
  have w1 : IntKind.wrap .i64 ((d.length : Int) + 1) = ((d.length + 1 : Nat) : Int) := wrap_i64 (by omega) (by omega)
  have w2 : IntKind.wrap .i64 ((deep : Int) + 1) = ((deep + 1 : Nat) : Int) := wrap_i64 (by omega) (by omega)
  have limb := fun (p : BA) (dg : Bool) => rLimb (R := R) (w := w) (s := sliL w q) (F := q.1) (by rw [hsl, show q.1 + (q.2 - q.1) = q.2 by omega]; rfl) (by omega) hw p dg
  rw [hsl, show q.1 + (q.2 - q.1) = q.2 by omega] at limb
  have hul := und_len x.p (d.length + 1)
  have hpe : plcG x is (d.length + 1) = und x.p (d.length + 1) := by unfold plcG; rw [if_neg (by rw [hmx]; decide)]
  have hde : dgG x = decide (x.v.sub = digT) := by unfold dgG; rw [decide_eq_true hty, Bool.true_and]
  rw [r6_opened.L22, r6_opened.t22, hpl, cond_dec (by omega), chk_and, chk_dec (by omega), chk_dec (by omega), hget, f0, f1, w1, w2, rUnd _ (by omega) _ (by omega) (by omega), show (⟨#[100, 105, 103, 101, 115, 116]⟩ : BA) = B digT from rfl, hm, limb]
  rw [kidsG, hpe, hde]
  refine (hrec (kidL w q (und x.p (d.length + 1)) (decide (x.v.sub = digT))) cnt _ (kid_ok q1 q2 _ _) hul hc).trans ?_
  rw [chk_dec (by omega)]
  have := rOp_loop RF hw hp deep hdp hmx hty is rec hrc hrec κ0 P hP hin r (d ++ [q]) (acc ++ [limbAV (rec (kidL w q (und x.p (d.length + 1)) (decide (x.v.sub = digT))) cnt).1 (rec (kidL w q (und x.p (d.length + 1)) (decide (x.v.sub = digT))) cnt).2.1]) (rec (kidL w q (und x.p (d.length + 1)) (decide (x.v.sub = digT))) cnt).2.2 g (by rw [List.append_assoc]; exact hd) (by simp [ha]) (hrc _ _ hc) (by omega)
  rw [show (d ++ [q]).length = d.length + 1 by simp] at this
  rw [hde] at this
  exact this
theorem kids_emp {rec : LV -> Nat -> LV × LA × Nat} {w : List UInt8} (plc : Nat -> List UInt8) (dg : Bool) (r : List (Nat × Nat)) (cnt : Nat) (h : r ≠ []) : (kidsG rec w plc dg 0 [] cnt r).1.isEmpty = false := by
 have := kids_len (rec := rec) (w := w) plc dg r 0 [] cnt
 cases r with
 | nil => exact absurd rfl h
 | cons q r =>
  cases e : (kidsG rec w plc dg 0 [] cnt (q :: r)).1 with
  | nil => rw [e] at this; simp at this
  | cons a l => rfl
theorem kids_one (rec : LV -> Nat -> LV × LA × Nat) (w : List UInt8) (plc : Nat -> List UInt8) (dg : Bool) (cnt : Nat) (q : Nat × Nat) : kidsG rec w plc dg 0 [] cnt [q] = ([limbAV (rec (kidL w q (plc 1) dg) cnt).1 (rec (kidL w q (plc 1) dg) cnt).2.1], (rec (kidL w q (plc 1) dg) cnt).2.2) := rfl
theorem rOp {w : List UInt8} (hw : w.length <= 200000) : ∀ (n fu : Nat) (x : LV) (deep : Nat) (is : Bool) (cnt : Nat) (κ0 : BA -> BA -> BA -> LA -> Bool -> BA -> Bool -> BA -> Bool -> BA -> Bool -> BA -> LA -> LA -> Bool -> BA -> Int -> Int -> Int -> Int -> Int -> LA -> Int -> Option R), okL w x -> x.p.length + 3 * n <= 1000 -> deep + n = 6 -> 1 <= n -> n <= fu -> cnt <= 16 ->
  r6_opened.R fu (B w) (B x.p) (B x.v.ty) (B x.v.sub) (x.v.ps.map pmAV) x.v.i0 (B x.v.i1) x.v.a0 (B x.v.a1) (emp x.v.c1) (B x.v.c1) (emp x.v.p1) (B x.v.p1) (x.v.pp.map pmAV) (rowsS x.v.lg) x.v.w0 (B x.v.w1) (x.a : Int) (x.b : Int) (x.c : Int) (x.d : Int) (x.e : Int) (deep : Int) is (cnt : Int) κ0 = κ0 (B (opG w n x deep is cnt).1.p) (B (opG w n x deep is cnt).1.v.ty) (B (opG w n x deep is cnt).1.v.sub) ((opG w n x deep is cnt).1.v.ps.map pmAV) (opG w n x deep is cnt).1.v.i0 (B (opG w n x deep is cnt).1.v.i1) (opG w n x deep is cnt).1.v.a0 (B (opG w n x deep is cnt).1.v.a1) (emp (opG w n x deep is cnt).1.v.c1) (B (opG w n x deep is cnt).1.v.c1) (emp (opG w n x deep is cnt).1.v.p1) (B (opG w n x deep is cnt).1.v.p1) ((opG w n x deep is cnt).1.v.pp.map pmAV) (rowsS (opG w n x deep is cnt).1.v.lg) (opG w n x deep is cnt).1.v.w0 (B (opG w n x deep is cnt).1.v.w1) ((opG w n x deep is cnt).1.a : Int) ((opG w n x deep is cnt).1.b : Int) ((opG w n x deep is cnt).1.c : Int) ((opG w n x deep is cnt).1.d : Int) ((opG w n x deep is cnt).1.e : Int) (opG w n x deep is cnt).2.1 ((opG w n x deep is cnt).2.2 : Int)
 | 0, _, _, _, _, _, _, _, _, _, h, _, _ => by omega
 | _ + 1, 0, _, _, _, _, _, _, _, _, _, h, _ => by omega
 | n + 1, fu + 1, x, deep, is, cnt, κ0, hx, hp, hn, _, hfu, hc => by
  obtain ⟨h1, h2, h3, h4⟩ := hx
  have hx : okL w x := ⟨h1, h2, h3, h4⟩
  have hm : ∀ a b : List UInt8, decide (B a = B b) = decide (a = b) := fun a b => decide_eq_decide.2 B_inj
  have hbl : (bodyL w x).length = x.d - x.c := by unfold bodyL; rw [List.length_drop, List.length_take]; omega
  have hlp : ((piG w x).map (pcA 0)).length = (piG w x).length := List.length_map ..
  have hpb : (piG w x).length <= 1000000 := by
   unfold piG
   split
   ·split <;> simp
   ·split
    ·have := ptG_len (valL x.v.ps) (bodyL w x) _ none (bodyL w x) (Nat.le_refl _)
     rw [List.length_map]; omega
    ·simp
  have endsB : ∀ κ : Int -> Option R, (chk ((decide ((0 : Int) <= (x.c : Int))) && ((decide ((x.c : Int) <= (x.d : Int))) && (decide ((x.d : Int) <= ((B w).size : Int))))) (r6_ends ((B w).extract ((x.c : Int)).toNat ((x.d : Int)).toNat) κ)) = κ (endsL (bodyL w x) : Int) := fun κ => by
   rw [chk_and, chk_dec (by omega), chk_and, chk_dec (by omega), chk_dec (by rw [szB]; omega), Int.toNat_natCast, Int.toNat_natCast, extract_B]
   exact rEn (bodyL w x) (by omega) κ
  rw [r6_opened.R, r6_opened.B]
  -- behind the lines of a text
  have j7 : ∀ f, 1000 <= f -> (x.v.ty = mlt ∨ msgT x = true) -> r6_opened.L7 r6_ends r6_inside r6_under r6_limb (r6_opened.R fu) κ0 f (B w) (deep : Int) is (cnt : Int) (msgT x) (B x.p) (B x.v.ty) (B x.v.sub) (x.v.ps.map pmAV) x.v.i0 (B x.v.i1) x.v.a0 (B x.v.a1) (emp x.v.c1) (B x.v.c1) (emp x.v.p1) (B x.v.p1) (x.v.pp.map pmAV) (rowsS x.v.lg) x.v.w0 (B x.v.w1) (x.a : Int) (x.b : Int) (x.c : Int) (x.d : Int) (x.e : Int) (⟨#[]⟩ : BA) (⟨#[]⟩ : BA) (⟨#[]⟩ : BA) false (⟨#[]⟩ : BA) false (⟨#[]⟩ : BA) false (⟨#[]⟩ : BA) false (⟨#[]⟩ : BA) false (⟨#[]⟩ : BA) 0 0 0 0 0 ((piG w x).map (pcA 0)) = κ0 (B (opG w (n + 1) x deep is cnt).1.p) (B (opG w (n + 1) x deep is cnt).1.v.ty) (B (opG w (n + 1) x deep is cnt).1.v.sub) ((opG w (n + 1) x deep is cnt).1.v.ps.map pmAV) (opG w (n + 1) x deep is cnt).1.v.i0 (B (opG w (n + 1) x deep is cnt).1.v.i1) (opG w (n + 1) x deep is cnt).1.v.a0 (B (opG w (n + 1) x deep is cnt).1.v.a1) (emp (opG w (n + 1) x deep is cnt).1.v.c1) (B (opG w (n + 1) x deep is cnt).1.v.c1) (emp (opG w (n + 1) x deep is cnt).1.v.p1) (B (opG w (n + 1) x deep is cnt).1.v.p1) ((opG w (n + 1) x deep is cnt).1.v.pp.map pmAV) (rowsS (opG w (n + 1) x deep is cnt).1.v.lg) (opG w (n + 1) x deep is cnt).1.v.w0 (B (opG w (n + 1) x deep is cnt).1.v.w1) ((opG w (n + 1) x deep is cnt).1.a : Int) ((opG w (n + 1) x deep is cnt).1.b : Int) ((opG w (n + 1) x deep is cnt).1.c : Int) ((opG w (n + 1) x deep is cnt).1.d : Int) ((opG w (n + 1) x deep is cnt).1.e : Int) (opG w (n + 1) x deep is cnt).2.1 ((opG w (n + 1) x deep is cnt).2.2 : Int) := by
   intro f hf hmm
   obtain ⟨g, rfl⟩ : ∃ g, f = g + 4 := ⟨f - 4, by omega⟩
   have hnt : x.v.ty ≠ mimeT := by
    rcases hmm with h | h
    ·rw [h]; decide
    ·rw [msg_ty h]; decide
   have hfin : finG w x true = offL x := by
    unfold finG
    rw [if_pos rfl, if_neg hnt, if_pos hmm.symm]
   have off : κ0 (B (offL x).p) (B (offL x).v.ty) (B (offL x).v.sub) ((offL x).v.ps.map pmAV) (offL x).v.i0 (B (offL x).v.i1) (offL x).v.a0 (B (offL x).v.a1) (emp (offL x).v.c1) (B (offL x).v.c1) (emp (offL x).v.p1) (B (offL x).v.p1) ((offL x).v.pp.map pmAV) (rowsS (offL x).v.lg) (offL x).v.w0 (B (offL x).v.w1) ((offL x).a : Int) ((offL x).b : Int) ((offL x).c : Int) ((offL x).d : Int) ((offL x).e : Int) [] (cnt : Int) = κ0 (B (finG w x true).p) (B (finG w x true).v.ty) (B (finG w x true).v.sub) ((finG w x true).v.ps.map pmAV) (finG w x true).v.i0 (B (finG w x true).v.i1) (finG w x true).v.a0 (B (finG w x true).v.a1) (emp (finG w x true).v.c1) (B (finG w x true).v.c1) (emp (finG w x true).v.p1) (B (finG w x true).v.p1) ((finG w x true).v.pp.map pmAV) (rowsS (finG w x true).v.lg) (finG w x true).v.w0 (B (finG w x true).v.w1) ((finG w x true).a : Int) ((finG w x true).b : Int) ((finG w x true).c : Int) ((finG w x true).d : Int) ((finG w x true).e : Int) [] (cnt : Int) := by rw [hfin]
   rw [r6_opened.L7, r6_opened.t7, hlp, opG]
   by_cases c0 : piG w x = []
   ·have ct : (piG w x).length = 0 := by rw [c0]; rfl
    rw [beq_pos (by omega), cond_true]
    by_cases c1 : deep < 5 /\ cnt + (piG w x).length <= 16
    ·rw [if_pos c1, c0]
     exact off
    ·rw [if_neg c1]
     exact off
   ·have ct : (piG w x).length ≠ 0 := fun h => c0 (List.eq_nil_of_length_eq_zero h)
    rw [beq_neg (by omega), cond_false]
    by_cases c1 : deep < 5
    ·rw [cond_dec' (by omega), wrap_i64 (by omega) (by omega)]
     by_cases c2 : cnt + (piG w x).length <= 16
     ·rw [cond_dec' (by omega), if_pos ⟨c1, c2⟩]
      have hrc : ∀ y c, c <= 16 -> (opG w n y (deep + 1) (msgT x) c).2.2 <= 16 := fun y c h => op_cnt w n y _ _ c h
      have hne := kids_emp (rec := fun y c => opG w n y (deep + 1) (msgT x) c) (w := w) (plcG x is) (dgG x) (piG w x) (cnt + (piG w x).length) c0
      have hfin2 : finG w x false = if msgT x then { x with e := endsL (bodyL w x) } else x := rfl
      have hw2 : ((cnt : Int) + ((piG w x).length : Int)) = ((cnt + (piG w x).length : Nat) : Int) := by omega
      simp only [hne]
      rw [hfin2, hw2]
      cases hmx : msgT x with
      | false =>
       rw [cond_false, if_neg (by decide)]
       have hty : x.v.ty = mlt := hmm.resolve_right (by rw [hmx]; decide)
       rw [hmx] at hrc
       exact rOp_loop (r6_opened.R fu) hw (by omega) deep (by omega) hmx hty is (fun y c => opG w n y (deep + 1) false c) hrc
        (fun y cnt κ0 hy hyp hcn => rOp hw n fu y (deep + 1) false cnt κ0 hy (by omega) (by omega) (by omega) (by omega) hcn)
        κ0 (piG w x) (by omega) (piG_in hw hx) (piG w x) [] [] (cnt + (piG w x).length) (g + 3) rfl rfl c2 (by omega)
      | true =>
       have hone : piG w x = [(x.c, x.d)] := (msg_one hmx).resolve_left c0
       have hdg : dgG x = false := by unfold dgG; rw [msg_ty hmx]; rfl
       rw [hone] at c2 ⊢
       rw [cond_true, if_pos rfl, endsB, hdg]
       rw [hmx] at hrc
       have hsl := sliL_len (q := (x.c, x.d)) h1 h2
       have limb := fun (p : BA) (dg : Bool) => rLimb (R := R) (w := w) (s := sliL w (x.c, x.d)) (F := x.c) (by rw [hsl]; show (w.take (x.c + (x.d - x.c))).drop x.c = _; rw [show x.c + (x.d - x.c) = x.d by omega]; rfl) (by rw [hsl]; show x.c + (x.d - x.c) <= _; omega) hw p dg
       rw [hsl, show x.c + ((x.c, x.d).2 - (x.c, x.d).1) = x.d by show x.c + (x.d - x.c) = x.d; omega] at limb
       have w2 : IntKind.wrap .i64 ((deep : Int) + 1) = ((deep + 1 : Nat) : Int) := wrap_i64 (by omega) (by omega)
       have f0 : ((rdA ([(x.c, x.d)].map (pcA 0)) 0).fld 0).i = (x.c : Int) := by show ((0 + x.c : Nat) : Int) = _; rw [Nat.zero_add]
       have f1 : ((rdA ([(x.c, x.d)].map (pcA 0)) 0).fld 1).i = (x.d : Int) := by show ((0 + x.d : Nat) : Int) = _; rw [Nat.zero_add]
       have hul := und_len x.p 1
       have j18 : ∀ p : List UInt8, p.length <= x.p.length + 3 -> r6_opened.L18 r6_ends r6_inside r6_under r6_limb (r6_opened.R fu) κ0 (g + 3) (B w) (deep : Int) ((cnt + [(x.c, x.d)].length : Nat) : Int) (B p) (B x.p) (B x.v.ty) (B x.v.sub) (x.v.ps.map pmAV) x.v.i0 (B x.v.i1) x.v.a0 (B x.v.a1) (emp x.v.c1) (B x.v.c1) (emp x.v.p1) (B x.v.p1) (x.v.pp.map pmAV) (rowsS x.v.lg) x.v.w0 (B x.v.w1) (x.a : Int) (x.b : Int) (x.c : Int) (x.d : Int) (endsL (bodyL w x) : Int) (⟨#[]⟩ : BA) (⟨#[]⟩ : BA) (⟨#[]⟩ : BA) false (⟨#[]⟩ : BA) false (⟨#[]⟩ : BA) false (⟨#[]⟩ : BA) false (⟨#[]⟩ : BA) false (⟨#[]⟩ : BA) 0 0 0 0 0 ([(x.c, x.d)].map (pcA 0)) = κ0 (B x.p) (B x.v.ty) (B x.v.sub) (x.v.ps.map pmAV) x.v.i0 (B x.v.i1) x.v.a0 (B x.v.a1) (emp x.v.c1) (B x.v.c1) (emp x.v.p1) (B x.v.p1) (x.v.pp.map pmAV) (rowsS x.v.lg) x.v.w0 (B x.v.w1) (x.a : Int) (x.b : Int) (x.c : Int) (x.d : Int) (endsL (bodyL w x) : Int) [limbAV (opG w n (kidL w (x.c, x.d) p false) (deep + 1) true (cnt + [(x.c, x.d)].length)).1 (opG w n (kidL w (x.c, x.d) p false) (deep + 1) true (cnt + [(x.c, x.d)].length)).2.1] ((opG w n (kidL w (x.c, x.d) p false) (deep + 1) true (cnt + [(x.c, x.d)].length)).2.2 : Int) := by
        intro p hpp
        rw [r6_opened.L18, r6_opened.t18, chk_dec (by simp), f0, f1, w2, limb]
        refine (rOp hw n fu (kidL w (x.c, x.d) p false) (deep + 1) true (cnt + [(x.c, x.d)].length) _ (kid_ok h1 h2 _ _) (by show p.length + _ <= _; omega) (by omega) (by omega) (by omega) c2).trans ?_
        rfl
       cases is with
       | true =>
        rw [cond_true]
        have hu := rUnd (R := R) x.p (by omega) 1 (by omega) (by omega)
        refine (hu _).trans ?_
        refine (j18 (und x.p 1) (by omega)).trans ?_
        have hpe : plcG x true 1 = und x.p 1 := by unfold plcG; rw [if_pos hmx, if_pos rfl]
        rw [kids_one, hpe]
       | false =>
        rw [cond_false]
        refine (j18 x.p (by omega)).trans ?_
        have hpe : plcG x false 1 = x.p := by unfold plcG; rw [if_pos hmx, if_neg (by decide)]
        rw [kids_one, hpe]
     ·rw [cond_dec (by omega), if_neg (fun h => c2 h.2)]
      exact off
    ·rw [cond_dec (by omega), if_neg (fun h => c1 h.1)]
     exact off
  have inn : ∀ (f : Nat), 1000 <= f -> (x.v.ty = mlt ∨ msgT x = true) -> r6_inside (B w) (B x.p) (B x.v.ty) (B x.v.sub) (x.v.ps.map pmAV) x.v.i0 (B x.v.i1) x.v.a0 (B x.v.a1) (emp x.v.c1) (B x.v.c1) (emp x.v.p1) (B x.v.p1) (x.v.pp.map pmAV) (rowsS x.v.lg) x.v.w0 (B x.v.w1) (x.a : Int) (x.b : Int) (x.c : Int) (x.d : Int) (x.e : Int) (r6_opened.L7 r6_ends r6_inside r6_under r6_limb (r6_opened.R fu) κ0 f (B w) (deep : Int) is (cnt : Int) (msgT x) (B x.p) (B x.v.ty) (B x.v.sub) (x.v.ps.map pmAV) x.v.i0 (B x.v.i1) x.v.a0 (B x.v.a1) (emp x.v.c1) (B x.v.c1) (emp x.v.p1) (B x.v.p1) (x.v.pp.map pmAV) (rowsS x.v.lg) x.v.w0 (B x.v.w1) (x.a : Int) (x.b : Int) (x.c : Int) (x.d : Int) (x.e : Int) (⟨#[]⟩ : BA) (⟨#[]⟩ : BA) (⟨#[]⟩ : BA) false (⟨#[]⟩ : BA) false (⟨#[]⟩ : BA) false (⟨#[]⟩ : BA) false (⟨#[]⟩ : BA) false (⟨#[]⟩ : BA) 0 0 0 0 0 []) (fun r => r6_opened.L7 r6_ends r6_inside r6_under r6_limb (r6_opened.R fu) κ0 f (B w) (deep : Int) is (cnt : Int) (msgT x) (B x.p) (B x.v.ty) (B x.v.sub) (x.v.ps.map pmAV) x.v.i0 (B x.v.i1) x.v.a0 (B x.v.a1) (emp x.v.c1) (B x.v.c1) (emp x.v.p1) (B x.v.p1) (x.v.pp.map pmAV) (rowsS x.v.lg) x.v.w0 (B x.v.w1) (x.a : Int) (x.b : Int) (x.c : Int) (x.d : Int) (x.e : Int) (⟨#[]⟩ : BA) (⟨#[]⟩ : BA) (⟨#[]⟩ : BA) false (⟨#[]⟩ : BA) false (⟨#[]⟩ : BA) false (⟨#[]⟩ : BA) false (⟨#[]⟩ : BA) false (⟨#[]⟩ : BA) 0 0 0 0 0 r) = κ0 (B (opG w (n + 1) x deep is cnt).1.p) (B (opG w (n + 1) x deep is cnt).1.v.ty) (B (opG w (n + 1) x deep is cnt).1.v.sub) ((opG w (n + 1) x deep is cnt).1.v.ps.map pmAV) (opG w (n + 1) x deep is cnt).1.v.i0 (B (opG w (n + 1) x deep is cnt).1.v.i1) (opG w (n + 1) x deep is cnt).1.v.a0 (B (opG w (n + 1) x deep is cnt).1.v.a1) (emp (opG w (n + 1) x deep is cnt).1.v.c1) (B (opG w (n + 1) x deep is cnt).1.v.c1) (emp (opG w (n + 1) x deep is cnt).1.v.p1) (B (opG w (n + 1) x deep is cnt).1.v.p1) ((opG w (n + 1) x deep is cnt).1.v.pp.map pmAV) (rowsS (opG w (n + 1) x deep is cnt).1.v.lg) (opG w (n + 1) x deep is cnt).1.v.w0 (B (opG w (n + 1) x deep is cnt).1.v.w1) ((opG w (n + 1) x deep is cnt).1.a : Int) ((opG w (n + 1) x deep is cnt).1.b : Int) ((opG w (n + 1) x deep is cnt).1.c : Int) ((opG w (n + 1) x deep is cnt).1.d : Int) ((opG w (n + 1) x deep is cnt).1.e : Int) (opG w (n + 1) x deep is cnt).2.1 ((opG w (n + 1) x deep is cnt).2.2 : Int) := by
   intro f hf hmm
   refine (rIn h1 h2 hw (by omega) _ _ rfl).trans ?_
   exact j7 f hf hmm
  have key : ∀ f, 2000 <= f -> r6_opened.L2 r6_ends r6_inside r6_under r6_limb (r6_opened.R fu) κ0 f (B w) (deep : Int) is (cnt : Int) (msgT x) (B x.p) (B x.v.ty) (B x.v.sub) (x.v.ps.map pmAV) x.v.i0 (B x.v.i1) x.v.a0 (B x.v.a1) (emp x.v.c1) (B x.v.c1) (emp x.v.p1) (B x.v.p1) (x.v.pp.map pmAV) (rowsS x.v.lg) x.v.w0 (B x.v.w1) (x.a : Int) (x.b : Int) (x.c : Int) (x.d : Int) (x.e : Int) (⟨#[]⟩ : BA) (⟨#[]⟩ : BA) (⟨#[]⟩ : BA) false (⟨#[]⟩ : BA) false (⟨#[]⟩ : BA) false (⟨#[]⟩ : BA) false (⟨#[]⟩ : BA) false (⟨#[]⟩ : BA) 0 0 0 0 0 = κ0 (B (opG w (n + 1) x deep is cnt).1.p) (B (opG w (n + 1) x deep is cnt).1.v.ty) (B (opG w (n + 1) x deep is cnt).1.v.sub) ((opG w (n + 1) x deep is cnt).1.v.ps.map pmAV) (opG w (n + 1) x deep is cnt).1.v.i0 (B (opG w (n + 1) x deep is cnt).1.v.i1) (opG w (n + 1) x deep is cnt).1.v.a0 (B (opG w (n + 1) x deep is cnt).1.v.a1) (emp (opG w (n + 1) x deep is cnt).1.v.c1) (B (opG w (n + 1) x deep is cnt).1.v.c1) (emp (opG w (n + 1) x deep is cnt).1.v.p1) (B (opG w (n + 1) x deep is cnt).1.v.p1) ((opG w (n + 1) x deep is cnt).1.v.pp.map pmAV) (rowsS (opG w (n + 1) x deep is cnt).1.v.lg) (opG w (n + 1) x deep is cnt).1.v.w0 (B (opG w (n + 1) x deep is cnt).1.v.w1) ((opG w (n + 1) x deep is cnt).1.a : Int) ((opG w (n + 1) x deep is cnt).1.b : Int) ((opG w (n + 1) x deep is cnt).1.c : Int) ((opG w (n + 1) x deep is cnt).1.d : Int) ((opG w (n + 1) x deep is cnt).1.e : Int) (opG w (n + 1) x deep is cnt).2.1 ((opG w (n + 1) x deep is cnt).2.2 : Int) := by
   intro f hf
   obtain ⟨g, rfl⟩ : ∃ g, f = g + 3 := ⟨f - 3, by omega⟩
   rw [r6_opened.L2, r6_opened.t2, show (⟨#[116, 101, 120, 116]⟩ : BA) = B mimeT from rfl, hm]
   have plain : x.v.ty ≠ mlt -> msgT x = false -> (opG w (n + 1) x deep is cnt).1 = finG w x true /\ (opG w (n + 1) x deep is cnt).2.1 = [] /\ (opG w (n + 1) x deep is cnt).2.2 = cnt := by
    intro e1 e2
    have c0 : piG w x = [] := by
     unfold piG
     rw [if_neg (by rw [e2]; decide), if_neg (fun h => e1 h.1)]
    rw [opG]
    by_cases c1 : deep < 5 /\ cnt + (piG w x).length <= 16
    ·rw [if_pos c1, c0]
     exact ⟨rfl, rfl, rfl⟩
    ·rw [if_neg c1]
     exact ⟨rfl, rfl, rfl⟩
   by_cases c1 : x.v.ty = mimeT
   ·have e1 : x.v.ty ≠ mlt := by rw [c1]; decide
    have e2 : msgT x = false := by unfold msgT; rw [c1]; rfl
    obtain ⟨p1, p2, p3⟩ := plain e1 e2
    have hfin : finG w x true = { x with e := endsL (bodyL w x) } := by unfold finG; rw [if_pos rfl, if_pos c1]
    rw [decide_eq_true c1, cond_true, endsB, r6_opened.L4, r6_opened.t4, show (⟨#[109, 117, 108, 116, 105, 112, 97, 114, 116]⟩ : BA) = B mlt from rfl, hm, decide_eq_false e1, Bool.not_false, cond_true, e2, Bool.not_false, cond_true, p1, p2, p3, hfin]
    rfl
   ·rw [decide_eq_false c1, cond_false, r6_opened.L4, r6_opened.t4, show (⟨#[109, 117, 108, 116, 105, 112, 97, 114, 116]⟩ : BA) = B mlt from rfl, hm]
    by_cases c2 : x.v.ty = mlt
    ·rw [decide_eq_true c2, Bool.not_true, cond_false]
     exact inn (g + 1) (by omega) (.inl c2)
    ·rw [decide_eq_false c2, Bool.not_false, cond_true]
     cases hmx : msgT x with
     | true =>
      rw [Bool.not_true, cond_false]
      have := inn (g + 1) (by omega) (.inr hmx)
      rw [hmx] at this
      exact this
     | false =>
      obtain ⟨p1, p2, p3⟩ := plain c2 hmx
      have hfin : finG w x true = x := by unfold finG; rw [if_pos rfl, if_neg c1, if_neg (fun h => h.elim (fun h => by rw [hmx] at h; cases h) c2)]
      rw [Bool.not_false, cond_true, p1, p2, p3, hfin]
      rfl
  have key2 : ∀ f, 2000 <= f -> r6_opened.e r6_ends r6_inside r6_under r6_limb (r6_opened.R fu) (B w) (B x.p) (B x.v.ty) (B x.v.sub) (x.v.ps.map pmAV) x.v.i0 (B x.v.i1) x.v.a0 (B x.v.a1) (emp x.v.c1) (B x.v.c1) (emp x.v.p1) (B x.v.p1) (x.v.pp.map pmAV) (rowsS x.v.lg) x.v.w0 (B x.v.w1) (x.a : Int) (x.b : Int) (x.c : Int) (x.d : Int) (x.e : Int) (deep : Int) is (cnt : Int) (r6_opened.L2 r6_ends r6_inside r6_under r6_limb (r6_opened.R fu) κ0 f) (r6_opened.L4 r6_ends r6_inside r6_under r6_limb (r6_opened.R fu) κ0 f) (r6_opened.L5 r6_ends r6_inside r6_under r6_limb (r6_opened.R fu) κ0 f) (r6_opened.L7 r6_ends r6_inside r6_under r6_limb (r6_opened.R fu) κ0 f) (r6_opened.L11 r6_ends r6_inside r6_under r6_limb (r6_opened.R fu) κ0 f) (r6_opened.L18 r6_ends r6_inside r6_under r6_limb (r6_opened.R fu) κ0 f) (r6_opened.L20 r6_ends r6_inside r6_under r6_limb (r6_opened.R fu) κ0 f) (r6_opened.L22 r6_ends r6_inside r6_under r6_limb (r6_opened.R fu) κ0 f) (r6_opened.L27 r6_ends r6_inside r6_under r6_limb (r6_opened.R fu) κ0 f) κ0 = κ0 (B (opG w (n + 1) x deep is cnt).1.p) (B (opG w (n + 1) x deep is cnt).1.v.ty) (B (opG w (n + 1) x deep is cnt).1.v.sub) ((opG w (n + 1) x deep is cnt).1.v.ps.map pmAV) (opG w (n + 1) x deep is cnt).1.v.i0 (B (opG w (n + 1) x deep is cnt).1.v.i1) (opG w (n + 1) x deep is cnt).1.v.a0 (B (opG w (n + 1) x deep is cnt).1.v.a1) (emp (opG w (n + 1) x deep is cnt).1.v.c1) (B (opG w (n + 1) x deep is cnt).1.v.c1) (emp (opG w (n + 1) x deep is cnt).1.v.p1) (B (opG w (n + 1) x deep is cnt).1.v.p1) ((opG w (n + 1) x deep is cnt).1.v.pp.map pmAV) (rowsS (opG w (n + 1) x deep is cnt).1.v.lg) (opG w (n + 1) x deep is cnt).1.v.w0 (B (opG w (n + 1) x deep is cnt).1.v.w1) ((opG w (n + 1) x deep is cnt).1.a : Int) ((opG w (n + 1) x deep is cnt).1.b : Int) ((opG w (n + 1) x deep is cnt).1.c : Int) ((opG w (n + 1) x deep is cnt).1.d : Int) ((opG w (n + 1) x deep is cnt).1.e : Int) (opG w (n + 1) x deep is cnt).2.1 ((opG w (n + 1) x deep is cnt).2.2 : Int) := by
   intro f hf
   have := key f hf
   rw [r6_opened.e, show (⟨#[109, 101, 115, 115, 97, 103, 101]⟩ : BA) = B mimeM from rfl, show (⟨#[114, 102, 99, 56, 50, 50]⟩ : BA) = B mimeR from rfl, hm, hm]
   unfold msgT at this
   cases e1 : decide (x.v.ty = mimeM) with
   | true => rw [e1, Bool.true_and] at this; rw [cond_true]; exact this
   | false => rw [e1, Bool.false_and] at this; rw [cond_false]; exact this
  exact key2 fuelK (by unfold fuelK; omega)
theorem pars_same (l : LA) (hl : l.length <= 1000000) (κ : Bool -> Option R) : ∀ (f i : Nat), i <= l.length -> l.length < i + f -> w6_params.L4 κ f l l (i : Int) = κ true
 | 0, i, h1, h2 => by omega
 | f + 1, i, h1, h2 => by
  rw [w6_params.L4, w6_params.t4]
  by_cases h : i < l.length
  ·have hw1 : IntKind.wrap .i64 ((i : Int) + 1) = ((i + 1 : Nat) : Int) := wrap_i64 (by omega) (by omega)
   rw [cond_dec (by omega), chk_and, chk_dec (by omega), chk_dec (by omega), chk_and, chk_dec (by omega), chk_dec (by omega), hw1, decide_eq_true (rfl : ((rdA l (i : Int)).fld 0).s = _), decide_eq_true (rfl : ((rdA l (i : Int)).fld 1).s = _)]
   exact pars_same l hl κ f (i + 1) (by omega) (by omega)
  ·rw [cond_dec' (by omega)]
theorem pars_eq (l : LA) (hl : l.length <= 1000000) (κ : Bool -> Option R) : w6_params l l κ = κ true := by
 have key : ∀ f, l.length < f -> w6_params.e l l (w6_params.L4 κ f) κ = κ true := by
  intro f h
  unfold w6_params.e
  rw [bne_neg rfl]
  exact pars_same l hl κ f 0 (by omega) (by omega)
 exact key fuelK (by unfold fuelK; omega)
theorem txts_same (l : LA) (hl : l.length <= 1000000) (κ : Bool -> Option R) : ∀ (f i : Nat), i <= l.length -> l.length < i + f -> w6_texts.L4 κ f l l (i : Int) = κ true
 | 0, i, h1, h2 => by omega
 | f + 1, i, h1, h2 => by
  rw [w6_texts.L4, w6_texts.t4]
  by_cases h : i < l.length
  ·have hw1 : IntKind.wrap .i64 ((i : Int) + 1) = ((i + 1 : Nat) : Int) := wrap_i64 (by omega) (by omega)
   rw [cond_dec (by omega), chk_and, chk_dec (by omega), chk_dec (by omega), chk_and, chk_dec (by omega), chk_dec (by omega), hw1, decide_eq_true (rfl : (rdA l (i : Int)).s = _)]
   exact txts_same l hl κ f (i + 1) (by omega) (by omega)
  ·rw [cond_dec' (by omega)]
theorem txts_eq (l : LA) (hl : l.length <= 1000000) (κ : Bool -> Option R) : w6_texts l l κ = κ true := by
 have key : ∀ f, l.length < f -> w6_texts.e l l (w6_texts.L4 κ f) κ = κ true := by
  intro f h
  unfold w6_texts.e
  rw [bne_neg rfl]
  exact txts_same l hl κ f 0 (by omega) (by omega)
 exact key fuelK (by unfold fuelK; omega)
def wfL : Nat -> LA -> Prop
 | 0, k => k = []
 | n + 1, k => k.length <= 1000 /\ ∀ a ∈ k, (a.fld 3).l.length <= 1000 /\ (a.fld 12).l.length <= 1000 /\ (a.fld 13).l.length <= 1000 /\ wfL n (a.fld 21).l
theorem wfL_nil : ∀ n, wfL n []
 | 0 => rfl
 | n + 1 => ⟨by simp, fun a h => by cases h⟩
theorem wfL_len : ∀ {n : Nat} {k : LA}, wfL n k -> k.length <= 1000
 | 0, k, h => by rw [show k = [] from h]; simp
 | n + 1, k, h => h.1
theorem same_loop (C : w6_same.F R) (k : LA) (hk : k.length <= 1000) (hC : ∀ a ∈ k, ∀ κ : Bool -> Option R, C (a.fld 0).s (a.fld 1).s (a.fld 2).s (a.fld 3).l (a.fld 4).b (a.fld 5).s (a.fld 6).b (a.fld 7).s (a.fld 8).b (a.fld 9).s (a.fld 10).b (a.fld 11).s (a.fld 12).l (a.fld 13).l (a.fld 14).b (a.fld 15).s (a.fld 16).i (a.fld 17).i (a.fld 18).i (a.fld 19).i (a.fld 20).i (a.fld 21).l (a.fld 0).s (a.fld 1).s (a.fld 2).s (a.fld 3).l (a.fld 4).b (a.fld 5).s (a.fld 6).b (a.fld 7).s (a.fld 8).b (a.fld 9).s (a.fld 10).b (a.fld 11).s (a.fld 12).l (a.fld 13).l (a.fld 14).b (a.fld 15).s (a.fld 16).i (a.fld 17).i (a.fld 18).i (a.fld 19).i (a.fld 20).i (a.fld 21).l κ = κ true) (g0 : BA) (g1 : BA) (g2 : BA) (g3 : LA) (g4 : Bool) (g5 : BA) (g6 : Bool) (g7 : BA) (g8 : Bool) (g9 : BA) (g10 : Bool) (g11 : BA) (g12 : LA) (g13 : LA) (g14 : Bool) (g15 : BA) (g16 : Int) (g17 : Int) (g18 : Int) (g19 : Int) (g20 : Int) (κ : Bool -> Option R) : ∀ (f i : Nat), i <= k.length -> k.length < i + f ->
  w6_same.L6 w6_params w6_texts C κ f (i : Int) g0 g1 g2 g3 g4 g5 g6 g7 g8 g9 g10 g11 g12 g13 g14 g15 g16 g17 g18 g19 g20 k g0 g1 g2 g3 g4 g5 g6 g7 g8 g9 g10 g11 g12 g13 g14 g15 g16 g17 g18 g19 g20 k = κ true
 | 0, i, h1, h2 => by omega
 | f + 1, i, h1, h2 => by
  rw [w6_same.L6, w6_same.t6]
  by_cases h : i < k.length
  ·have hw1 : IntKind.wrap .i64 ((i : Int) + 1) = ((i + 1 : Nat) : Int) := wrap_i64 (by omega) (by omega)
   obtain ⟨a, r, hd⟩ := drop_lt h
   have hg := (drop_get hd).1
   have ha : a ∈ k := List.mem_of_getElem? hg
   rw [cond_dec (by omega), chk_and, chk_dec (by omega), chk_dec (by omega), chk_and, chk_dec (by omega), chk_dec (by omega), rdA_get hg, hC a ha, Bool.not_true, cond_false, hw1]
   exact same_loop C k hk hC g0 g1 g2 g3 g4 g5 g6 g7 g8 g9 g10 g11 g12 g13 g14 g15 g16 g17 g18 g19 g20 κ f (i + 1) (by omega) (by omega)
  ·rw [cond_dec' (by omega)]
theorem sameR : ∀ (n fu : Nat) (g0 : BA) (g1 : BA) (g2 : BA) (g3 : LA) (g4 : Bool) (g5 : BA) (g6 : Bool) (g7 : BA) (g8 : Bool) (g9 : BA) (g10 : Bool) (g11 : BA) (g12 : LA) (g13 : LA) (g14 : Bool) (g15 : BA) (g16 : Int) (g17 : Int) (g18 : Int) (g19 : Int) (g20 : Int) (k : LA) (κ : Bool -> Option R), g3.length <= 1000 -> g12.length <= 1000 -> g13.length <= 1000 -> wfL n k -> n < fu -> w6_same.R fu g0 g1 g2 g3 g4 g5 g6 g7 g8 g9 g10 g11 g12 g13 g14 g15 g16 g17 g18 g19 g20 k g0 g1 g2 g3 g4 g5 g6 g7 g8 g9 g10 g11 g12 g13 g14 g15 g16 g17 g18 g19 g20 k κ = κ true
 | n, 0, g0, g1, g2, g3, g4, g5, g6, g7, g8, g9, g10, g11, g12, g13, g14, g15, g16, g17, g18, g19, g20, k, κ, _, _, _, _, h => by omega
 | n, fu + 1, g0, g1, g2, g3, g4, g5, g6, g7, g8, g9, g10, g11, g12, g13, g14, g15, g16, g17, g18, g19, g20, k, κ, h3, h12, h13, hk, hn => by
  have hl := wfL_len hk
  rw [w6_same.R, w6_same.B]
  have key : ∀ f, 2000 < f -> w6_same.e w6_params w6_texts (w6_same.R fu) g0 g1 g2 g3 g4 g5 g6 g7 g8 g9 g10 g11 g12 g13 g14 g15 g16 g17 g18 g19 g20 k g0 g1 g2 g3 g4 g5 g6 g7 g8 g9 g10 g11 g12 g13 g14 g15 g16 g17 g18 g19 g20 k (w6_same.L6 w6_params w6_texts (w6_same.R fu) κ f) κ = κ true := by
   intro f hf
   rw [w6_same.e]
   have bb : ∀ b : Bool, (b == b) = true := fun b => by cases b <;> rfl
   have ii : ∀ i : Int, (i == i) = true := fun i => beq_pos rfl
   have ss : ∀ s : BA, decide (s = s) = true := fun s => decide_eq_true rfl
   have nn : ∀ i : Int, (i != i) = false := fun i => bne_neg rfl
   simp only [bb, ii, ss, nn, Bool.and_true, Bool.not_true, cond_false]
   rw [pars_eq _ (by omega), Bool.not_true, cond_false, pars_eq _ (by omega), Bool.not_true, cond_false, txts_eq _ (by omega), Bool.not_true, cond_false]
   refine same_loop (w6_same.R fu) k hl (fun a ha κ => ?_) g0 g1 g2 g3 g4 g5 g6 g7 g8 g9 g10 g11 g12 g13 g14 g15 g16 g17 g18 g19 g20 κ f 0 (by omega) (by omega)
   cases n with
   | zero => rw [show k = [] from hk] at ha; cases ha
   | succ n =>
    obtain ⟨e1, e2, e3, e4⟩ := hk.2 a ha
    exact sameR n fu (a.fld 0).s (a.fld 1).s (a.fld 2).s (a.fld 3).l (a.fld 4).b (a.fld 5).s (a.fld 6).b (a.fld 7).s (a.fld 8).b (a.fld 9).s (a.fld 10).b (a.fld 11).s (a.fld 12).l (a.fld 13).l (a.fld 14).b (a.fld 15).s (a.fld 16).i (a.fld 17).i (a.fld 18).i (a.fld 19).i (a.fld 20).i (a.fld 21).l κ e1 e2 e3 e4 (by omega)
  exact key fuelK (by unfold fuelK; omega)
def wfV (x : LV) : Prop := x.v.ps.length <= 12 /\ x.v.pp.length <= 12 /\ x.v.lg.length <= 12
theorem lgs_len : ∀ (n : Nat) (a : List (List UInt8)) (r : List UInt8), a.length <= 12 -> (lgs n a r).length <= 12
 | 0, a, r, h => by rw [lgs]; exact h
 | n + 1, a, r, h => by
  rw [lgs.eq_def]
  simp only
  split
  ·split
   ·exact h
   ·split
    ·simp; omega
    ·split
     ·exact lgs_len n _ _ (by simp; omega)
     ·simp; omega
  ·exact h
theorem kid_wf (w : List UInt8) (q : Nat × Nat) (p : List UInt8) (dg : Bool) : wfV (kidL w q p dg) := by
 refine ⟨(uniq_hdV _ dg).2, ?_, lgs_len _ [] _ (by simp)⟩
 show (if _ then ([] : List Pm) else prsL _).length <= 12
 split
 ·simp
 ·exact (uniq_prs _ [] _ trivial (by simp)).2
theorem fin_wf {w : List UInt8} {x : LV} (em : Bool) (h : wfV x) : wfV (finG w x em) := by
 unfold finG
 split
 ·split
  ·exact h
  ·split
   ·exact ⟨by show ([] : List Pm).length <= 12; simp, h.2.1, h.2.2⟩
   ·exact h
 ·split
  ·exact h
  ·exact h
theorem kids_wf {rec : LV -> Nat -> LV × LA × Nat} {w : List UInt8} (n : Nat) (hrec : ∀ y c, wfV y -> wfV (rec y c).1 /\ wfL n (rec y c).2.1) (plc : Nat -> List UInt8) (dg : Bool) : ∀ (r : List (Nat × Nat)) (i : Nat) (acc : LA) (cnt : Nat), wfL (n + 1) acc -> acc.length + r.length <= 1000 -> wfL (n + 1) (kidsG rec w plc dg i acc cnt r).1
 | [], _, _, _, h, _ => h
 | q :: r, i, acc, cnt, h, hl => by
  simp only [List.length_cons] at hl
  rw [kidsG]
  refine kids_wf n hrec plc dg r _ _ _ ⟨by simp; omega, fun a ha => ?_⟩ (by simp; omega)
  rcases List.mem_append.1 ha with h1 | h1
  ·exact h.2 a h1
  ·rw [List.mem_singleton] at h1
   subst h1
   obtain ⟨⟨e1, e2, e3⟩, e4⟩ := hrec (kidL w q (plc (i + 1)) dg) cnt (kid_wf _ _ _ _)
   refine ⟨?_, ?_, ?_, e4⟩
   ·show (List.map pmAV _).length <= 1000
    rw [List.length_map]; omega
   ·show (List.map pmAV _).length <= 1000
    rw [List.length_map]; omega
   ·show (rowsS _).length <= 1000
    rw [rowsS_len]; omega
theorem op_wf (w : List UInt8) : ∀ (n : Nat) (x : LV) (deep : Nat) (is : Bool) (cnt : Nat), wfV x -> wfV (opG w n x deep is cnt).1 /\ wfL n (opG w n x deep is cnt).2.1
 | 0, x, _, _, _, h => ⟨h, rfl⟩
 | n + 1, x, deep, is, cnt, h => by
  rw [opG]
  split
  ·rename_i c
   exact ⟨fin_wf _ h, kids_wf n (fun y c hy => op_wf w n y _ _ c hy) _ _ _ 0 [] _ (wfL_nil _) (by simp; omega)⟩
  ·exact ⟨fin_wf _ h, wfL_nil _⟩
def treeG (w : List UInt8) : LV × LA × Nat := opG w 6 (kidL w (0, w.length) [] false) 0 true 0
theorem lParse (w : List UInt8) (hw : w.length <= 200000) (κ : BA -> BA -> BA -> LA -> Bool -> BA -> Bool -> BA -> Bool -> BA -> Bool -> BA -> LA -> LA -> Bool -> BA -> Int -> Int -> Int -> Int -> Int -> LA -> Option R) : lm_Parse (B w) κ = κ (B (treeG w).1.p) (B (treeG w).1.v.ty) (B (treeG w).1.v.sub) ((treeG w).1.v.ps.map pmAV) (treeG w).1.v.i0 (B (treeG w).1.v.i1) (treeG w).1.v.a0 (B (treeG w).1.v.a1) (emp (treeG w).1.v.c1) (B (treeG w).1.v.c1) (emp (treeG w).1.v.p1) (B (treeG w).1.v.p1) ((treeG w).1.v.pp.map pmAV) (rowsS (treeG w).1.v.lg) (treeG w).1.v.w0 (B (treeG w).1.v.w1) ((treeG w).1.a : Int) ((treeG w).1.b : Int) ((treeG w).1.c : Int) ((treeG w).1.d : Int) ((treeG w).1.e : Int) (treeG w).2.1 := by
 have key : ∀ f, lm_Parse.e lm_tree_limb lm_tree_open (B w) (lm_Parse.L4 lm_tree_limb lm_tree_open κ (f + 1)) κ = κ (B (treeG w).1.p) (B (treeG w).1.v.ty) (B (treeG w).1.v.sub) ((treeG w).1.v.ps.map pmAV) (treeG w).1.v.i0 (B (treeG w).1.v.i1) (treeG w).1.v.a0 (B (treeG w).1.v.a1) (emp (treeG w).1.v.c1) (B (treeG w).1.v.c1) (emp (treeG w).1.v.p1) (B (treeG w).1.v.p1) ((treeG w).1.v.pp.map pmAV) (rowsS (treeG w).1.v.lg) (treeG w).1.v.w0 (B (treeG w).1.v.w1) ((treeG w).1.a : Int) ((treeG w).1.b : Int) ((treeG w).1.c : Int) ((treeG w).1.d : Int) ((treeG w).1.e : Int) (treeG w).2.1 := by
  intro f
  have hsl : (sliL w (0, w.length)).length = w.length := sliL_len (q := (0, w.length)) (Nat.zero_le _) (Nat.le_refl _)
  have hl := lLimb (R := R) (w := w) (s := sliL w (0, w.length)) (F := 0) (by rw [Nat.zero_add, hsl]; rfl) (by omega) hw 0 false
  rw [hsl, Nat.zero_add] at hl
  unfold lm_Parse.e
  rw [szB]
  refine (hl _).trans ?_
  have ho := fun κ0 κ1 => lOp (R := R) hw 6 fuelK (kidL w (0, w.length) [] false) 0 false 0 κ0 κ1 (kid_ok (Nat.zero_le _) (Nat.le_refl _) _ _) (by show 0 + 3 * 6 <= 1000; omega) rfl (by omega) (by unfold fuelK; omega) (by omega)
  unfold appH lm_tree_open
  refine (ho _ _ ?_).trans ?_
  ·intro z c k; rfl
  ·rw [lm_Parse.L4, lm_Parse.t4]; rfl
 exact key (fuelK - 1)
theorem rParse (w : List UInt8) (hw : w.length <= 200000) (κ : BA -> BA -> BA -> LA -> Bool -> BA -> Bool -> BA -> Bool -> BA -> Bool -> BA -> LA -> LA -> Bool -> BA -> Int -> Int -> Int -> Int -> Int -> LA -> Option R) : r6_Parse (B w) κ = κ (B (treeG w).1.p) (B (treeG w).1.v.ty) (B (treeG w).1.v.sub) ((treeG w).1.v.ps.map pmAV) (treeG w).1.v.i0 (B (treeG w).1.v.i1) (treeG w).1.v.a0 (B (treeG w).1.v.a1) (emp (treeG w).1.v.c1) (B (treeG w).1.v.c1) (emp (treeG w).1.v.p1) (B (treeG w).1.v.p1) ((treeG w).1.v.pp.map pmAV) (rowsS (treeG w).1.v.lg) (treeG w).1.v.w0 (B (treeG w).1.v.w1) ((treeG w).1.a : Int) ((treeG w).1.b : Int) ((treeG w).1.c : Int) ((treeG w).1.d : Int) ((treeG w).1.e : Int) (treeG w).2.1 := by
 have hsl : (sliL w (0, w.length)).length = w.length := sliL_len (q := (0, w.length)) (Nat.zero_le _) (Nat.le_refl _)
 have hl := rLimb (R := R) (w := w) (s := sliL w (0, w.length)) (F := 0) (by rw [Nat.zero_add, hsl]; rfl) (by omega) hw (B []) false
 rw [hsl, Nat.zero_add] at hl
 unfold r6_Parse r6_Parse.e
 rw [szB]
 refine (hl _).trans ?_
 have ho := fun κ0 => rOp (R := R) hw 6 fuelK (kidL w (0, w.length) [] false) 0 true 0 κ0 (kid_ok (Nat.zero_le _) (Nat.le_refl _) _ _) (by show 0 + 3 * 6 <= 1000; omega) rfl (by omega) (by unfold fuelK; omega) (by omega)
 unfold appH r6_opened
 exact ho _
theorem limbParses_text (a : BA) (κ : Bool -> Option R) : w6_LimbParses a κ = κ true := by
 unfold w6_LimbParses w6_LimbParses.e
 rw [known6_holds, Bool.not_true, cond_false]
 by_cases h : (a.size : Int) > 20000
 ·rw [cond_dec h]
 ·have hb : (bl a).length <= 200000 := by have := size_bl a; omega
  rw [cond_dec' h, <- B_bl a, lParse _ hb, rParse _ hb]
  have hwf := op_wf (bl a) 6 (kidL (bl a) (0, (bl a).length) [] false) 0 true 0 (kid_wf _ _ _ _)
  obtain ⟨⟨e1, e2, e3⟩, e4⟩ := hwf
  refine sameR 6 fuelK (B (treeG (bl a)).1.p) (B (treeG (bl a)).1.v.ty) (B (treeG (bl a)).1.v.sub) ((treeG (bl a)).1.v.ps.map pmAV) (treeG (bl a)).1.v.i0 (B (treeG (bl a)).1.v.i1) (treeG (bl a)).1.v.a0 (B (treeG (bl a)).1.v.a1) (emp (treeG (bl a)).1.v.c1) (B (treeG (bl a)).1.v.c1) (emp (treeG (bl a)).1.v.p1) (B (treeG (bl a)).1.v.p1) ((treeG (bl a)).1.v.pp.map pmAV) (rowsS (treeG (bl a)).1.v.lg) (treeG (bl a)).1.v.w0 (B (treeG (bl a)).1.v.w1) ((treeG (bl a)).1.a : Int) ((treeG (bl a)).1.b : Int) ((treeG (bl a)).1.c : Int) ((treeG (bl a)).1.d : Int) ((treeG (bl a)).1.e : Int) (treeG (bl a)).2.1 κ ?_ ?_ ?_ e4 (by unfold fuelK; omega)
  ·rw [List.length_map]; show (opG _ _ _ _ _ _).1.v.ps.length <= _; omega
  ·rw [List.length_map]; show (opG _ _ _ _ _ _).1.v.pp.length <= _; omega
  ·rw [rowsS_len]; show (opG _ _ _ _ _ _).1.v.lg.length <= _; omega
end Go.Proofs.Ab
