/- The plain functions of program and document say the same (conditions: those of each lemma). -/
import Derived.Test.YtneffefnlogkaaaGreatDoorAbC
import Derived.IntWalk
import Derived.Test.YtneffefnlogkaaaGreatDoorText
import Derived.Lib.IndexLaws
import Derived.KernelRfl
set_option linter.unusedVariables false
set_option linter.unusedSimpArgs false
set_option maxRecDepth 4000
namespace Go.Proofs.Ab
open Go
variable {R : Type}
theorem ab {p : Prop} [Decidable p] {k : Option R} (h : p) : bB (decide p) k = k := by rw [decide_eq_true h]; rfl
theorem aw {a b : Bool} {k : Option R} : bB (a && b) k = bB a (bB b k) := by cases a <;> rfl
theorem yO {k : Option R} : bB true k = k := rfl
theorem an {α : Type} {p : Prop} [Decidable p] {x y : α} (h : p) : (bif decide p then x else y) = x := by rw [decide_eq_true h]; rfl
theorem ak {α : Type} {p : Prop} [Decidable p] {x y : α} (h : ¬ p) : (bif decide p then x else y) = y := by rw [decide_eq_false h]; rfl
theorem fS {x y : Int} (h : x = y) : (x == y) = true := by simp [h]
theorem fB {x y : Int} (h : x ≠ y) : (x == y) = false := by simp [h]
theorem wrap_i64 {x : Int} (h1 : -9223372036854775808 <= x) (h2 : x < 9223372036854775808) : IntKind.wrap .i64 x = x := IntWalk.i64_in x ⟨h1, by omega⟩
theorem wrap_u8 {x : Int} (h1 : 0 <= x) (h2 : x < 256) : IntKind.wrap .u8 x = x := by rw [IntKind.wrap_u8]; omega
def bl (s : BA) : List UInt8 := s.data.toList
def B (l : List UInt8) : BA := ⟨l.toArray⟩
theorem nu (l : List UInt8) : bl (B l) = l := rfl
theorem iO (s : BA) : B (bl s) = s := rfl
theorem fi (s : BA) : s.size = (bl s).length := by unfold bl; rw [Array.length_toList]; rfl
theorem cg (l : List UInt8) : (B l).size = l.length := by rw [fi, nu]
theorem yG {a b : BA} (h : bl a = bl b) : a = b := by rw [<- iO a, h, iO]
theorem dQ {a b : List UInt8} : B a = B b ↔ a = b := ⟨fun h => by rw [<- nu a, h, nu], fun h => by rw [h]⟩
theorem dS (s : BA) (i j : Nat) : bl (s.extract i j) = ((bl s).take j).drop i := by
 unfold bl; rw [ByteArray.data_extract, Array.toList_extract]; simp [List.extract, List.drop_take]
theorem cU (l : List UInt8) (i j : Nat) : (B l).extract i j = B ((l.take j).drop i) := yG (by rw [dS, nu, nu])
theorem xf (a b : BA) : bl (a ++ b) = bl a ++ bl b := by unfold bl; simp
theorem gC (a b : List UInt8) : B a ++ B b = B (a ++ b) := yG (by rw [xf]; rfl)
theorem dK : (⟨#[]⟩ : BA) = B [] := rfl
theorem re {s : BA} {i : Nat} {c : UInt8} (h : (bl s)[i]? = some c) : dJ s (i : Int) = c.toNat := by
 obtain ⟨hlt, hv⟩ := List.getElem?_eq_some_iff.1 h
 have hlt' : i < s.size := by rw [fi]; exact hlt
 unfold dJ
 simp only [Int.toNat_natCast]
 rw [dif_pos hlt']
 congr 2
theorem cN {α : Type} {l : List α} {i : Nat} {c : α} {r : List α} (h : l.drop i = c :: r) : l[i]? = some c /\ i < l.length /\ l.drop (i + 1) = r := by
 have h0 : (l.drop i)[0]? = some c := by rw [h]; rfl
 rw [List.getElem?_drop, Nat.add_zero] at h0
 refine ⟨h0, (List.getElem?_eq_some_iff.1 h0).1, ?_⟩
 rw [<- List.drop_drop, h]; rfl
theorem drop_nil {α : Type} {l : List α} {i : Nat} (h : l.drop i = []) : l.length <= i := by simpa using h
theorem vX {α : Type} {l : List α} {i : Nat} (h : i < l.length) : ∃ c r, l.drop i = c :: r := by
 cases hd : l.drop i with
 | nil => have := drop_nil hd; omega
 | cons c r => exact ⟨c, r, rfl⟩
theorem dy {α : Type} {l : List α} {i : Nat} {c : α} (h : l[i]? = some c) : l.take (i + 1) = l.take i ++ [c] := by
 rw [List.take_add_one, h]; rfl
theorem io (c d : UInt8) : ((c.toNat : Int) == (d.toNat : Int)) = (c == d) := by
 rw [Bool.eq_iff_iff]; simp only [beq_iff_eq, Int.natCast_inj, <- UInt8.toNat_inj]
theorem yJ (c d : UInt8) : ((c.toNat : Int) != (d.toNat : Int)) = (c != d) := by
 unfold bne; rw [io]
theorem jK (c : UInt8) : c.toNat < 256 := by have := c.toNat_lt; omega
theorem zR {i : Nat} : ((i : Int) + 1) = ((i + 1 : Nat) : Int) := rfl
theorem fm (b : UInt8) (l sub : List UInt8) : Lib.index (b :: l) sub = if sub.isPrefixOf (b :: l) then 0 else if Lib.index l sub == -1 then -1 else Lib.index l sub + 1 := rfl
theorem n6 : ∀ (s sub : List UInt8), Lib.index s sub ≠ -1 -> Lib.index s sub + sub.length <= s.length
 | [], sub, h => by
  cases sub with
  | nil => simp [Lib.index]
  | cons a t => exact absurd rfl h
 | b :: l, sub, h => by
  rw [fm] at h ⊢
  split at h
  ·rename_i hp
   rw [if_pos hp]
   have := (List.isPrefixOf_iff_prefix.1 hp).length_le
   omega
  ·rename_i hp
   rw [if_neg hp]
   split at h
   ·exact absurd rfl h
   ·rename_i hi
    have hi' : Lib.index l sub ≠ -1 := by simpa using hi
    have := n6 l sub hi'
    rw [if_neg hi]
    simp only [List.length_cons]; omega
theorem dU {l : LA} {i : Nat} {a : AV} (h : l[i]? = some a) : bK l (i : Int) = a := by
 unfold bK; rw [Int.toNat_natCast, List.getD_eq_getElem?_getD, h]; rfl
theorem Ad {l : LA} {i : Nat} {a : AV} {r : LA} (h : l.drop i = a :: r) : bK l (i : Int) = a := dU (cN h).1
theorem o5 {l : List UInt8} {i : Nat} {c : UInt8} (h : l[i]? = some c) : dJ (B l) (i : Int) = c.toNat := re (s := B l) h
theorem kG (c : UInt8) (d : UInt8) (x : Int) (h : x = (d.toNat : Int)) : ((c.toNat : Int) == x) = (c == d) := by rw [h, io]
theorem yI (c : UInt8) (d : UInt8) (x : Int) (h : x = (d.toNat : Int)) : ((c.toNat : Int) != x) = (c != d) := by rw [h, yJ]
def bt (l : List (List UInt8)) : LA := l.map fun x => .str (B x)
theorem fw (l : List (List UInt8)) : (bt l).length = l.length := by unfold bt; simp
theorem fD (l m : List (List UInt8)) : bt (l ++ m) = bt l ++ bt m := by unfold bt; simp
theorem tT {l : List (List UInt8)} {i : Nat} {x : List UInt8} (h : l[i]? = some x) : (bK (bt l) (i : Int)).s = B x := by
 rw [dU (a := .str (B x)) (by unfold bt; rw [List.getElem?_map, h]; rfl)]; rfl
theorem tS (xs : LA) (a : AV) : bK (xs ++ [a]) (xs.length : Int) = a := dU (by simp)
theorem rR (xs : LA) (a : AV) (r : LA) (n : Nat) (h : xs.length = n) : bK (xs ++ a :: r) (n : Int) = a := dU (by subst h; simp)
theorem ib (xs : LA) (a b : AV) (r : LA) (n : Nat) (h : xs.length = n) : dR (xs ++ a :: r) (n : Int) b = xs ++ b :: r := by
 subst h; unfold dR; simp
theorem hZ {l p : List UInt8} : p.isPrefixOf l = decide (l.take p.length = p) := by
 rw [Bool.eq_iff_iff, List.isPrefixOf_iff_prefix, List.prefix_iff_eq_take, decide_eq_true_eq, eq_comm]
theorem kX (a : BA) (p : List UInt8) (κ : Bool -> Option R) : aV a (B p) κ = κ (p.isPrefixOf (bl a)) := by
 have hsz := fi a
 unfold aV aV.e bG bG.e
 simp only [cg]
 by_cases h : p.length <= (bl a).length
 ·simp (disch := omega) only [an, aw, ab]
  congr 1
  rw [hZ]
  congr 1
  rw [<- iO (a.extract _ _), dS, dQ]
  simp
 ·simp (disch := omega) only [ak]
  congr 1
  rw [hZ]
  symm; rw [decide_eq_false_iff_not]
  intro e; have := congrArg List.length e; simp at this; omega
theorem n5 (l p : List UInt8) (hs : l.length <= 1000000) (κ : Int -> Option R) : aP (B l) (B p) κ = κ (Lib.index l p) := by
 unfold aP aP.e eL
 have := cg l
 simp (disch := omega) only [ab]
 rfl
theorem n4 (l p : List UInt8) (κ : Bool -> Option R) : aV (B l) (B p) κ = κ (p.isPrefixOf l) := kX (B l) p κ
theorem kc {p : UInt8 -> Bool} {l : List UInt8} {k : Nat} (h : k < (l.takeWhile p).length) : ∃ c, l[k]? = some c /\ p c = true := by
 obtain ⟨t, ht⟩ := List.takeWhile_prefix p (l := l)
 refine ⟨(l.takeWhile p)[k], ?_, List.all_eq_true.1 List.all_takeWhile _ (List.getElem_mem h)⟩
 have := List.getElem?_append_left (l₂ := t) h
 rw [ht] at this
 rw [this, List.getElem?_eq_getElem h]
theorem la {l : List UInt8} {c : UInt8} {o : Nat} (h : l[o]? = some c) (hn : ∀ k, k < o -> l[k]? ≠ some c) : Lib.indexByte l c = o := by
 have hge := Lib.indexByte_ge l c
 by_cases e : Lib.indexByte l c = -1
 ·exact absurd h (Lib.indexByte_none e o)
 ·obtain ⟨m, hm⟩ : ∃ m : Nat, Lib.indexByte l c = m := ⟨(Lib.indexByte l c).toNat, by omega⟩
  obtain ⟨h1, h2⟩ := Lib.indexByte_some hm
  rcases Nat.lt_trichotomy m o with hlt | heq | hgt
  ·exact absurd h1 (hn m hlt)
  ·rw [hm, heq]
  ·exact absurd h (h2 o hgt)
theorem nJ {p : UInt8 -> Bool} : ∀ {l : List UInt8}, l.dropWhile p = [] ↔ ∀ a ∈ l, p a = true
 | [] => by simp
 | c :: r => by
  rw [List.dropWhile_cons]
  cases h : p c with
  | true => simp [h, nJ (l := r)]
  | false => simp [h]
theorem w7 {p : UInt8 -> Bool} (h : (List.range 256).all (fun n => p (UInt8.ofNat n)) = true) (c : UInt8) : p c = true := by
 have := List.all_eq_true.1 h c.toNat (List.mem_range.2 (jK c))
 rwa [UInt8.ofNat_toNat] at this
theorem C3 (l : List UInt8) (c : UInt8) (κ : Int -> Option R) : ay (B l) (c.toNat : Int) κ = κ (Lib.indexByte l c) := by
 show κ (Lib.indexByte l ((c.toNat : Int).toNat.toUInt8)) = _
 rw [Int.toNat_natCast]
 show κ (Lib.indexByte l (UInt8.ofNat c.toNat)) = _
 rw [UInt8.ofNat_toNat]
def dt (t : List UInt8) : LA := t.map fun b => AV.int (b.toNat : Int)
theorem iz (t : List UInt8) : (dt t).length = t.length := by unfold dt; simp
theorem sQ (t u : List UInt8) : dt t ++ dt u = dt (t ++ u) := by unfold dt; simp
theorem gy (t : List UInt8) (c : UInt8) : dt t ++ [AV.int (c.toNat : Int)] = dt (t ++ [c]) := sQ t [c]
theorem gQ (t : List UInt8) : fF (dt t) = B t := by
 unfold fF dt B
 congr 2
 rw [List.map_map]
 conv => rhs; rw [<- List.map_id t]
 apply List.map_congr_left
 intro b hb
 show UInt8.ofNat ((b.toNat : Int).toNat) = b
 rw [Int.toNat_natCast, UInt8.ofNat_toNat]
theorem Bc (t : List UInt8) : List.all (dt t) nw = true := by
 unfold dt
 rw [List.all_map, List.all_eq_true]
 intro b hb
 have := jK b
 show nw (AV.int (b.toNat : Int)) = true
 unfold nw
 show (decide (0 <= (b.toNat : Int)) && decide ((b.toNat : Int) < 256)) = true
 rw [decide_eq_true (by omega), decide_eq_true (by omega)]; rfl
theorem AO (t : List UInt8) : e7 (B t) = dt t := rfl
theorem At (l : LA) (a : Int) (κ : LA -> Option R) (h : l.length <= 1000000000) : aM l a κ = κ (l ++ [AV.int a]) := by
 show bB (decide ((l.length + 1) * 1 <= 140737488355328)) (κ (l ++ [AV.int a])) = _
 rw [ab (by omega)]
theorem uv (t : List UInt8) (κ : BA -> Option R) : aR (dt t) κ = κ (B t) := by
 unfold aR aR.e
 rw [ab rfl, Bc, gQ]; rfl
def cV : List UInt8 -> List UInt8 -> List (List UInt8)
 | cur, [] => if cur = [] then [] else [cur]
 | cur, 13 :: 10 :: r => (cur ++ [13, 10]) :: cV [] r
 | cur, c :: r => cV (cur ++ [c]) r
theorem tp (cur r : List UInt8) : cV cur (13 :: 10 :: r) = (cur ++ [13, 10]) :: cV [] r := by rw [cV]
theorem mI (cur : List UInt8) (c : UInt8) (r : List UInt8) (h : ¬ (c = 13 /\ r.head? = some 10)) : cV cur (c :: r) = cV (cur ++ [c]) r := by
 rw [cV]
 rintro r' rfl rfl; exact h ⟨rfl, rfl⟩
theorem kr (s : BA) (hs : (bl s).length <= 1000000) (κ : LA -> Option R) : ∀ (f i k : Nat) (l : List (List UInt8)), i <= (bl s).length -> k <= i -> l.length <= i -> (bl s).length < i + f ->
  bp.L4 κ f s (k : Int) (i : Int) (bt l) = κ (bt (l ++ cV (((bl s).take i).drop k) ((bl s).drop i)))
 | 0, i, k, l, h1, h2, h3, h4 => by omega
 | f + 1, i, k, l, h1, h2, h3, h4 => by
  have hsz := fi s
  rw [bp.L4, bp.t4]
  cases hd : (bl s).drop i with
  | nil =>
   have := drop_nil hd
   have hi : i = (bl s).length := by omega
   simp (disch := omega) only [wrap_i64, ak, an, fw]
   by_cases hk : k < i
   ·simp (disch := first | omega | (simp only [fw]; omega)) only [an, aw, ab]
    congr 1
    have hne : ((bl s).take i).drop k ≠ [] := by
     intro e; have := congrArg List.length e; simp at this; omega
    rw [fD, cV, if_neg hne]
    congr 2
    show AV.str _ = AV.str (B _)
    rw [<- iO (s.extract _ _), dS]
    simp [hsz, hi]
   ·have : k = i := by omega
    subst this
    simp (disch := omega) only [ak]
    rw [cV, if_pos (by simp)]; simp
  | cons c r =>
   obtain ⟨g1, g2, g3⟩ := cN hd
   cases r with
   | nil =>
    have hi : i + 1 = (bl s).length := by have := congrArg List.length hd; simp at this; omega
    simp (disch := omega) only [wrap_i64, ak]
    simp (disch := first | omega | (simp only [fw]; omega)) only [an, aw, ab]
    congr 1
    rw [mI _ _ _ (by simp), fD, cV, if_neg (by simp)]
    congr 2
    show AV.str _ = AV.str (B _)
    rw [<- iO (s.extract _ _), dS]
    have : ((bl s).take i).drop k ++ [c] = ((bl s).take (i + 1)).drop k := by
     rw [dy g1, List.drop_append_of_le_length (by simp; omega)]
    rw [this]
    simp [hsz, hi]
   | cons d r =>
    obtain ⟨k1, k2, k3⟩ := cN g3
    have hb1 := re g1
    have hb2 := re k1
    have ht1 : ((bl s).take i).drop k ++ [c] = ((bl s).take (i + 1)).drop k := by
     rw [dy g1, List.drop_append_of_le_length (by simp; omega)]
    have ht2 : ((bl s).take (i + 1)).drop k ++ [d] = ((bl s).take (i + 1 + 1)).drop k := by
     rw [dy k1, List.drop_append_of_le_length (by simp; omega)]
    simp (disch := omega) only [wrap_i64, an, aw, ab]
    simp only [zR, hb1, hb2]
    rw [show (13 : Int) = ((13 : UInt8).toNat : Int) from rfl, show (10 : Int) = ((10 : UInt8).toNat : Int) from rfl, io, io]
    have next : ¬ (c = 13 /\ d = 10) -> bp.L4 κ f s (k : Int) ((i + 1 : Nat) : Int) (bt l) = κ (bt (l ++ cV (((bl s).take i).drop k) (c :: d :: r))) := by
     intro hn
     rw [kr s hs κ f (i + 1) k l (by omega) (by omega) (by omega) (by omega), g3, mI _ c _ (by simpa using hn), ht1]
    by_cases hc : c = 13
    ·by_cases hdd : d = 10
     ·subst hc; subst hdd
      simp (disch := first | omega | (simp only [fw]; omega)) only [BEq.rfl, cond_true, aw, ab, wrap_i64]
      have := kr s hs κ f (i + 1 + 1) (i + 1 + 1) (l ++ [((bl s).take i).drop k ++ [13, 10]]) (by omega) (by omega) (by simp; omega) (by omega)
      rw [k3] at this
      rw [tp, show l ++ (((bl s).take i).drop k ++ [13, 10]) :: cV [] r = (l ++ [((bl s).take i).drop k ++ [13, 10]]) ++ cV [] r by simp]
      have he : (((bl s).take (i + 1 + 1)).drop (i + 1 + 1)) = [] := by simp
      rw [he] at this
      rw [<- this, fD]
      have hx : AV.str (s.extract (k : Int).toNat ((i : Int) + 2).toNat) = AV.str (B (((bl s).take i).drop k ++ [13, 10])) := by
       congr 1
       rw [show ([13, 10] : List UInt8) = [13] ++ [10] from rfl, <- List.append_assoc, ht1, ht2, <- iO (s.extract _ _), dS]
       rfl
      rw [hx]
      rfl
     ·have e1 : (c == 13) = true := by simp [hc]
      have e2 : (d == 10) = false := by simp [hdd]
      rw [e1, e2]
      exact next (fun h => hdd h.2)
    ·have e1 : (c == 13) = false := by simp [hc]
     rw [e1]
     exact next (fun h => hc h.1)
def total : List (List UInt8) -> Nat
 | [] => 0
 | x :: r => x.length + total r
theorem lK (l m : List (List UInt8)) : total (l ++ m) = total l + total m := by
 induction l with
 | nil => simp [total]
 | cons x r ih => simp [total, ih]; omega
theorem gp (cur s : List UInt8) : total (cV cur s) = cur.length + s.length := by
 fun_induction cV cur s with
 | case1 => simp [total]
 | case2 cur h => simp [total]
 | case3 cur r ih => simp [total, ih]; omega
 | case4 cur c r h ih => simp [ih]; omega
theorem kq (s : List UInt8) : (cV [] s).length <= s.length := by
 have ht := gp [] s
 simp only [List.length_nil, Nat.zero_add] at ht
 rw [<- ht]
 have : ∀ (cur t : List UInt8), (cV cur t).length <= total (cV cur t) := by
  intro cur t
  fun_induction cV cur t with
  | case1 => simp
  | case2 cur h => have : cur.length ≠ 0 := by simpa using h
                   simp [total]; omega
  | case3 cur r ih => simp [total]; omega
  | case4 cur c r h ih => exact ih
 exact this _ _
theorem tq (s : BA) (hs : (bl s).length <= 1000000) (κ : LA -> Option R) (f : Nat) (hf : (bl s).length < f) : bp.e s (bp.L4 κ f) κ = κ (bt (cV [] (bl s))) := by
 unfold bp.e
 have h1 := kr s hs κ f 0 0 [] (Nat.zero_le _) (Nat.le_refl _) (Nat.le_refl _) (by omega)
 simp only [List.take_zero, List.drop_zero, List.nil_append] at h1
 exact h1
theorem qv (s : BA) (hs : (bl s).length <= 1000000) (κ : LA -> Option R) : bp s κ = κ (bt (cV [] (bl s))) :=
 tq s hs κ ag (by unfold ag; omega)
def cutAt : List (List UInt8) -> Option Nat
 | [] => none
 | x :: r => if x = [13, 10] then some x.length else (cutAt r).map (x.length + ·)
def jd (s : BA) (o : Option Nat) (κ : BA -> BA -> Option R) : Option R :=
 match o with
 | some n => κ (B ((bl s).take n)) (B ((bl s).drop n))
 | none => κ s (B [])
theorem oS (s : BA) (hs : (bl s).length <= 1000000) (l : List (List UInt8)) (hl : total l = (bl s).length) (hl2 : l.length <= 1000000) (κ : BA -> BA -> Option R) : ∀ (f i : Nat), i <= l.length -> l.length < i + f ->
  cf.L4 bp κ f s (total (l.take i) : Nat) (i : Int) (bt l) = jd s ((cutAt (l.drop i)).map (total (l.take i) + ·)) κ
 | 0, i, h1, h2 => by omega
 | f + 1, i, h1, h2 => by
  have hsz := fi s
  have hlen := fw l
  rw [cf.L4, cf.t4]
  cases hd : l.drop i with
  | nil =>
   have := drop_nil hd
   simp (disch := omega) only [ak]
   rfl
  | cons x r =>
   obtain ⟨g1, g2, g3⟩ := cN hd
   have ht : total (l.take (i + 1)) = total (l.take i) + x.length := by
    rw [dy g1, lK]; simp [total]
   have ht2 : total (l.take (i + 1)) + total r = (bl s).length := by
    rw [<- hl, <- g3, <- lK, List.take_append_drop]
   have ih := oS s hs l hl hl2 κ f (i + 1) (by omega) (by omega)
   simp (disch := omega) only [an, aw, ab, tT g1, cg]
   have e : ((total (l.take i) : Nat) : Int) + (x.length : Int) = ((total (l.take (i + 1)) : Nat) : Int) := by rw [ht]; simp
   simp only [e]
   simp (disch := omega) only [an, aw, ab, wrap_i64]
   rw [cutAt]
   by_cases hx : x = [13, 10]
   ·subst hx
    rw [if_pos rfl, decide_eq_true (show B [13, 10] = (⟨#[13, 10]⟩ : BA) from rfl)]
    simp only [cond_true, Option.map_some, jd]
    congr 1
    ·rw [<- iO (s.extract _ _), dS, Int.toNat_natCast, ht]; rfl
    ·rw [<- iO (s.extract _ _), dS, Int.toNat_natCast, ht]; simp [hsz]
   ·rw [if_neg hx, decide_eq_false (by intro h; exact hx (dQ.1 h))]
    simp only [cond_false]
    rw [<- g3]
    refine ih.trans ?_
    congr 1
    rw [ht]
    cases cutAt (l.drop (i + 1)) with
    | none => rfl
    | some n => simp only [Option.map_some]; congr 1; omega
def m6 : Bool -> List UInt8 -> Option Nat
 | _, [] => none
 | bol, 13 :: 10 :: r => if bol then some 2 else (m6 true r).map (2 + ·)
 | _, _ :: r => (m6 false r).map (1 + ·)
theorem kY (bol : Bool) (r : List UInt8) : m6 bol (13 :: 10 :: r) = if bol then some 2 else (m6 true r).map (2 + ·) := by rw [m6]
theorem gG (bol : Bool) (c : UInt8) (r : List UInt8) (h : ¬ (c = 13 /\ r.head? = some 10)) : m6 bol (c :: r) = (m6 false r).map (1 + ·) := by
 rw [m6]
 rintro r' rfl rfl; exact h ⟨rfl, rfl⟩
theorem CT (o : Option Nat) (a b c : Nat) (h : a + b = c) : (o.map (a + ·)).map (b + ·) = o.map (c + ·) := by
 cases o with
 | none => rfl
 | some n => simp only [Option.map_some]; congr 1; omega
theorem zU (o : Option Nat) : o.map (0 + ·) = o := by cases o <;> simp
theorem xm (cur s : List UInt8) (h1 : cur ≠ [13, 10]) (h2 : ¬ (cur = [13] /\ s.head? = some 10)) : cutAt (cV cur s) = (m6 (decide (cur = [])) s).map (cur.length + ·) := by
 fun_induction cV cur s with
 | case1 => rfl
 | case2 cur h => rw [cutAt, if_neg h1]; simp [cutAt, m6]
 | case3 cur r ih =>
  replace ih := ih (by simp) (by simp)
  rw [cutAt, kY]
  by_cases h : cur = []
  ·subst h; simp
  ·rw [if_neg (by intro e; have := congrArg List.length e; simp at this; exact h this), decide_eq_false h, ih]
   simp only [List.length_append, List.length_cons, List.length_nil, decide_true, Bool.false_eq_true, if_false]
   rw [zU, CT _ _ _ _ (show 2 + cur.length = cur.length + (0 + 1 + 1) by omega)]
 | case4 cur c r h ih =>
  have hc : ¬ (c = 13 /\ r.head? = some 10) := by
   rintro ⟨rfl, hr⟩
   cases r with
   | nil => simp at hr
   | cons d r => simp at hr; subst hr; exact h r rfl rfl
  rw [gG _ c r hc, ih ?_ ?_, decide_eq_false (by simp)]
  rotate_left
  ·intro e
   match cur, e with
   | [x], e => simp at e; obtain ⟨rfl, rfl⟩ := e; exact h2 ⟨rfl, rfl⟩
   | [], e => simp at e
   | _ :: _ :: _, e => simp at e
  ·rintro ⟨e, hr⟩
   match cur, e with
   | [], e => simp at e; subst e; exact hc ⟨rfl, hr⟩
   | _ :: _, e => simp at e
  rw [CT _ _ _ _ (show 1 + cur.length = (cur ++ [c]).length by simp; omega)]
theorem zr (s : List UInt8) : m6 false s = if Lib.index s [13, 10, 13, 10] = -1 then none else some (Lib.index s [13, 10, 13, 10] + 4).toNat := by
 have key : ∀ n (s : List UInt8), s.length <= n -> m6 false s = if Lib.index s [13, 10, 13, 10] = -1 then none else some (Lib.index s [13, 10, 13, 10] + 4).toNat := by
  intro n
  induction n with
  | zero => intro s h; have : s = [] := by cases s <;> simp_all
            subst this; rfl
  | succ n ih =>
   intro s h
   cases s with
   | nil => rfl
   | cons c r =>
    have step : ∀ r : List UInt8, r.length <= n -> ((m6 false r).map (1 + ·)) = if (if Lib.index r [13, 10, 13, 10] == -1 then (-1 : Int) else Lib.index r [13, 10, 13, 10] + 1) = -1 then none else some ((if Lib.index r [13, 10, 13, 10] == -1 then (-1 : Int) else Lib.index r [13, 10, 13, 10] + 1) + 4).toNat := by
     intro r hr
     rw [ih r hr]
     have := Lib.index_ge r [13, 10, 13, 10]
     by_cases e : Lib.index r [13, 10, 13, 10] = -1
     ·simp [e]
     ·have e' : (Lib.index r [13, 10, 13, 10] == -1) = false := by simp [e]
      simp only [e', Bool.false_eq_true, if_false]
      rw [if_neg e, if_neg (by omega)]
      simp only [Option.map_some]; congr 1; omega
    by_cases hc : c = 13 /\ r.head? = some 10
    ·obtain ⟨rfl, hr⟩ := hc
     cases r with
     | nil => simp at hr
     | cons d r =>
      simp only [List.head?_cons, Option.some.injEq] at hr; subst hr
      rw [kY]
      simp only [Bool.false_eq_true, if_false]
      by_cases hp : ∃ r', r = 13 :: 10 :: r'
      ·obtain ⟨r', rfl⟩ := hp
       rw [kY, fm]
       simp
      ·have hnp : List.isPrefixOf [13, 10, 13, 10] (13 :: 10 :: r) = false := by
        cases hh : List.isPrefixOf [13, 10, 13, 10] (13 :: 10 :: r) with
        | false => rfl
        | true =>
         obtain ⟨t, ht⟩ := List.isPrefixOf_iff_prefix.1 hh
         simp only [List.cons_append, List.nil_append, List.cons.injEq, true_and] at ht
         exact absurd ⟨t, ht.symm⟩ hp
       have ht : m6 true r = m6 false r := by
        cases r with
        | nil => rfl
        | cons a r =>
         have : ¬ (a = 13 /\ r.head? = some 10) := by
          rintro ⟨rfl, h2⟩
          cases r with
          | nil => simp at h2
          | cons b r => simp at h2; subst h2; exact hp ⟨r, rfl⟩
         rw [gG _ _ _ this, gG _ _ _ this]
       have h10 : m6 false (10 :: r) = (m6 false r).map (1 + ·) := gG _ _ _ (by simp)
       rw [ht, <- CT _ 1 1 2 rfl, <- h10, step (10 :: r) (by simp at h ⊢; omega), fm 13, hnp]
       simp only [Bool.false_eq_true, if_false]
    ·rw [gG _ _ _ hc, step r (by simp at h; omega)]
     have hnp : List.isPrefixOf [13, 10, 13, 10] (c :: r) = false := by
      cases hh : List.isPrefixOf [13, 10, 13, 10] (c :: r) with
      | false => rfl
      | true =>
       obtain ⟨t, ht⟩ := List.isPrefixOf_iff_prefix.1 hh
       simp only [List.cons_append, List.nil_append, List.cons.injEq] at ht
       obtain ⟨rfl, rfl⟩ := ht
       exact absurd ⟨rfl, rfl⟩ hc
     rw [fm, hnp]; simp only [Bool.false_eq_true, if_false]
 exact key _ s (Nat.le_refl _)
theorem ub (s : BA) (hs : (bl s).length <= 1000000) (κ : BA -> BA -> Option R) (f : Nat) (hf : (bl s).length < f) : cf.e bp s (cf.L4 bp κ f) κ = jd s (m6 true (bl s)) κ := by
 unfold cf.e
 rw [qv s hs]
 have ht := gp [] (bl s)
 simp only [List.length_nil, Nat.zero_add] at ht
 have hn := kq (bl s)
 have h2 := oS s hs (cV [] (bl s)) ht (by omega) κ f 0 (Nat.zero_le _) (by omega)
 simp only [List.take_zero, List.drop_zero, total] at h2
 refine h2.trans ?_
 rw [zU, xm _ _ (by simp) (by simp), decide_eq_true rfl]
 simp only [List.length_nil, zU]
theorem xX (s : BA) (hs : (bl s).length <= 1000000) (κ : BA -> BA -> Option R) : cf s κ = jd s (m6 true (bl s)) κ :=
 ub s hs κ ag (by unfold ag; omega)
theorem zE (s : BA) (hs : (bl s).length <= 1000000) (κ : BA -> BA -> Option R) : dx s κ = jd s (m6 true (bl s)) κ := by
 have hsz := fi s
 unfold dx dx.e aP aP.e eL
 rw [show (⟨#[13, 10]⟩ : BA) = B [13, 10] from rfl, kX]
 cases hp : List.isPrefixOf [13, 10] (bl s) with
 | true =>
  obtain ⟨t, ht⟩ := List.isPrefixOf_iff_prefix.1 hp
  have : 2 <= (bl s).length := by rw [<- ht]; simp
  simp (disch := omega) only [cond_true, aw, ab]
  rw [<- ht]
  simp only [List.cons_append, List.nil_append, kY, if_true, jd]
  congr 1
  ·rw [<- iO (s.extract _ _), dS]; simp
  ·rw [<- iO (s.extract _ _), dS]; simp [hsz]
 | false =>
  simp (disch := omega) only [cond_false, ab]
  have hft : m6 true (bl s) = m6 false (bl s) := by
   cases h : bl s with
   | nil => rfl
   | cons a r =>
    have : ¬ (a = 13 /\ r.head? = some 10) := by
     rintro ⟨rfl, h2⟩
     cases r with
     | nil => simp at h2
     | cons b r => simp at h2; subst h2; rw [h] at hp; simp at hp
    rw [gG _ _ _ this, gG _ _ _ this]
  rw [hft, zr]
  have hge := Lib.index_ge (bl s) [13, 10, 13, 10]
  show (bif decide (Lib.index (bl s) [13, 10, 13, 10] >= 0) then _ else _) = _
  by_cases e : Lib.index (bl s) [13, 10, 13, 10] = -1
  ·rw [e]; rfl
  ·have hle : Lib.index (bl s) [13, 10, 13, 10] + 4 <= (bl s).length := by
    have := n6 (bl s) [13, 10, 13, 10] e
    simpa using this
   rw [if_neg e]
   have hbl : s.data.toList = bl s := rfl
   simp only [hbl]
   simp (disch := omega) only [an, wrap_i64, aw, ab, jd]
   congr 1
   ·rw [<- iO (s.extract _ _), dS]; rfl
   ·rw [<- iO (s.extract _ _), dS]; simp [hsz]
def gP (s : BA) : BA × BA :=
 match m6 true (bl s) with
 | some n => (B ((bl s).take n), B ((bl s).drop n))
 | none => (s, B [])
theorem qH (s : BA) (κ : BA -> BA -> Option R) : jd s (m6 true (bl s)) κ = κ (gP s).1 (gP s).2 := by
 unfold jd gP; split <;> rfl
theorem xK (s : BA) (hs : (bl s).length <= 1000000) (κ : BA -> BA -> Option R) : dx s κ = κ (gP s).1 (gP s).2 := (zE s hs κ).trans (qH s κ)
theorem rS (s : BA) (hs : (bl s).length <= 1000000) (κ : BA -> BA -> Option R) : cf s κ = κ (gP s).1 (gP s).2 := (xX s hs κ).trans (qH s κ)
def cZ (c : UInt8) : Bool := c == 32 || c == 9
def jv (c : UInt8) : Bool := decide (32 < c.toNat) && (decide (c.toNat < 127) && c != 58)
def gh (c : List UInt8) : List UInt8 := c.takeWhile jv
def jk (c : List UInt8) : Nat := (gh c).length + ((c.drop (gh c).length).takeWhile cZ).length
def fV (c : List UInt8) : Bool := decide (gh c ≠ []) && (c[jk c]? == some 58)
theorem n7 (c : UInt8) (κ : Bool -> Option R) : aS (c.toNat : Int) κ = κ (cZ c) := by
 unfold aS aS.e
 rw [kG c 32 32 rfl, kG c 9 9 rfl]
 unfold cZ
 cases (c == 32) <;> rfl
theorem im (c : UInt8) (κ : Bool -> Option R) : aL (c.toNat : Int) κ = κ (cZ c) := by
 unfold aL aL.e
 rw [kG c 32 32 rfl, kG c 9 9 rfl]
 unfold cZ
 cases (c == 32) <;> rfl
theorem ux (c n : List UInt8) (i : Nat) (κ : BA -> Bool -> Option R) :
  (bif (!decide (B n = (⟨#[]⟩ : BA))) then (bif (decide ((i : Int) < ((B c).size : Int))) then (bB ((decide ((0 : Int) <= (i : Int))) && (decide ((i : Int) < ((B c).size : Int)))) (κ (B n) ((dJ (B c) (i : Int)) == 58))) else (κ (B n) false)) else (κ (B n) false))
   = κ (B n) (decide (n ≠ []) && (c[i]? == some 58)) := by
 simp only [cg, dK, dQ]
 by_cases hn : n = []
 ·subst hn; rfl
 ·simp only [hn, decide_false, Bool.not_false, cond_true, ne_eq, not_false_eq_true, decide_true, Bool.true_and]
  by_cases hi : i < c.length
  ·simp (disch := omega) only [an, aw, ab]
   rw [o5 (List.getElem?_eq_getElem hi), kG _ 58 58 rfl, List.getElem?_eq_getElem hi]
   rfl
  ·simp (disch := omega) only [ak]
   rw [List.getElem?_eq_none (by omega)]; rfl
theorem py (c n : List UInt8) (hs : c.length <= 1000000) (κ : BA -> Bool -> Option R) : ∀ (f i : Nat), i <= c.length -> c.length < i + f ->
  bE.L5 aS κ f (B c) (i : Int) (B n) = κ (B n) (decide (n ≠ []) && (c[i + ((c.drop i).takeWhile cZ).length]? == some 58))
 | 0, i, h1, h2 => by omega
 | f + 1, i, h1, h2 => by
  rw [bE.L5, bE.t5]
  simp only [ux]
  simp only [cg]
  cases hd : c.drop i with
  | nil =>
   have := drop_nil hd
   simp (disch := omega) only [ak]
   rfl
  | cons b r =>
   obtain ⟨g1, g2, g3⟩ := cN hd
   simp (disch := omega) only [an, aw, ab, o5 g1, n7, wrap_i64]
   rw [List.takeWhile_cons]
   cases hb : cZ b with
   | false => rfl
   | true =>
    simp only [cond_true, zR, if_true, List.length_cons]
    rw [py c n hs κ f (i + 1) (by omega) (by omega), g3]
    congr 4; omega
theorem wq (c : UInt8) : jv c = (decide ((c.toNat : Int) > 32) && (decide ((c.toNat : Int) < 127) && ((c.toNat : Int) != 58))) := by
 rw [yI c 58 58 rfl]; unfold jv
 congr 1
 ·rw [decide_eq_decide]; omega
 ·congr 1
  rw [decide_eq_decide]; omega
theorem px (c : List UInt8) (hs : c.length <= 1000000) (κ : BA -> Bool -> Option R) : ∀ (f i : Nat), i <= c.length -> 2 * c.length + 2 < i + f -> c.take i = (c.take i).takeWhile jv ->
  bE.L2 aS κ f (B c) (i : Int) = κ (B (gh c)) (fV c)
 | 0, i, h1, h2, h3 => by omega
 | f + 1, i, h1, h2, h3 => by
  have fin : gh c = c.take i -> bE.L5 aS κ f (B c) (i : Int) ((B c).extract ((0 : Int)).toNat ((i : Int)).toNat) = κ (B (gh c)) (fV c) := by
   intro hn
   rw [cU]
   simp only [Int.toNat_zero, List.drop_zero, Int.toNat_natCast]
   rw [py c _ hs κ f i h1 (by omega), hn]
   unfold fV jk
   have hl : (c.take i).length = i := by simp; omega
   rw [hn, hl]
  rw [bE.L2, bE.t2]
  have hsplit : gh c = c.take i ++ (c.drop i).takeWhile jv := by
   unfold gh
   conv => lhs; rw [<- List.take_append_drop i c]
   rw [List.takeWhile_append_of_pos]
   rw [h3]; intro a ha; exact List.all_eq_true.1 List.all_takeWhile a ha
  cases hd : c.drop i with
  | nil =>
   have := drop_nil hd
   simp only [cg]
   simp (disch := omega) only [ak, aw, ab]
   exact fin (by rw [hsplit, hd]; simp)
  | cons b r =>
   obtain ⟨g1, g2, g3⟩ := cN hd
   simp only [cg]
   simp (disch := omega) only [an, aw, ab, o5 g1, wrap_i64]
   have hb : jv b = false -> gh c = c.take i := by
    intro hb; rw [hsplit, hd, List.takeWhile_cons, hb]; simp
   rw [wq] at hb
   cases e1 : decide ((b.toNat : Int) > 32) with
   | false => exact fin (hb (by rw [e1]; rfl))
   | true =>
    cases e2 : decide ((b.toNat : Int) < 127) with
    | false => exact fin (hb (by rw [e1, e2]; rfl))
    | true =>
     cases e3 : ((b.toNat : Int) != 58) with
     | false => exact fin (hb (by rw [e1, e2, e3]; rfl))
     | true =>
      have hb' : jv b = true := by rw [wq, e1, e2, e3]; rfl
      exact px c hs κ f (i + 1) (by omega) (by omega) (by
       rw [dy g1, List.takeWhile_append_of_pos (by rw [h3]; intro a ha; exact List.all_eq_true.1 List.all_takeWhile a ha)]
       simp [hb'])
theorem qY (c : List UInt8) (hs : c.length <= 1000000) (κ : BA -> Bool -> Option R) (f : Nat) (hf : 2 * c.length + 2 < f) :
  bE.e aS (B c) (bE.L2 aS κ f) (bE.L5 aS κ f) κ = κ (B (gh c)) (fV c) :=
 px c hs κ f 0 (by omega) (by omega) (by simp)
theorem xa (c : List UInt8) (hs : c.length <= 1000000) (κ : BA -> Bool -> Option R) : bE (B c) κ = κ (B (gh c)) (fV c) :=
 qY c hs κ ag (by unfold ag; omega)
def ln : List UInt8 -> Nat
 | [] => 0
 | 13 :: 10 :: _ => 2
 | _ :: r => 1 + ln r
theorem lm (r : List UInt8) : ln (13 :: 10 :: r) = 2 := by rw [ln]
theorem rE (c : UInt8) (r : List UInt8) (h : ¬ (c = 13 /\ r.head? = some 10)) : ln (c :: r) = 1 + ln r := by
 rw [ln]
 rintro r' rfl rfl; exact h ⟨rfl, rfl⟩
theorem DH (l : List UInt8) : ln l <= l.length := by
 fun_induction ln l with
 | case1 => simp
 | case2 => simp
 | case3 c r h ih => simp; omega
theorem CP (c : UInt8) (r : List UInt8) : 0 < ln (c :: r) := by
 by_cases h : c = 13 /\ r.head? = some 10
 ·obtain ⟨rfl, h2⟩ := h
  cases r with
  | nil => simp at h2
  | cons d r => simp at h2; subst h2; rw [lm]; omega
 ·rw [rE _ _ h]; omega
theorem xO (cur l : List UInt8) : cV cur l = if cur ++ l = [] then [] else (cur ++ l.take (ln l)) :: cV [] (l.drop (ln l)) := by
 fun_induction cV cur l with
 | case1 => simp
 | case2 cur h => simp [h, ln, cV]
 | case3 cur r ih => simp [lm]
 | case4 cur c r h ih =>
  rw [ih, rE c r (by rintro ⟨rfl, h2⟩; cases r with | nil => simp at h2 | cons d r => simp at h2; subst h2; exact h r rfl rfl)]
  simp [Nat.add_comm 1]
theorem mH (c : UInt8) (r : List UInt8) : cV [] (c :: r) = (c :: r).take (ln (c :: r)) :: cV [] ((c :: r).drop (ln (c :: r))) := by
 rw [xO, if_neg (by simp)]; rfl
theorem fW (l : List UInt8) : List.isPrefixOf [13, 10] l = true ↔ ∃ r, l = 13 :: 10 :: r := by
 rw [List.isPrefixOf_iff_prefix]
 exact ⟨fun ⟨t, h⟩ => ⟨t, h.symm⟩, fun ⟨t, h⟩ => ⟨t, h.symm⟩⟩
theorem sr (c : UInt8) (r : List UInt8) : List.isPrefixOf [13, 10] (c :: r) = true ↔ (c = 13 /\ r.head? = some 10) := by
 rw [fW]
 constructor
 ·rintro ⟨t, h⟩; cases h; exact ⟨rfl, rfl⟩
 ·rintro ⟨rfl, h⟩
  cases r with
  | nil => simp at h
  | cons d r => simp at h; subst h; exact ⟨r, rfl⟩
theorem tu : ∀ l : List UInt8, (Lib.index l [13, 10] = -1 /\ ln l = l.length) ∨ (0 <= Lib.index l [13, 10] /\ (ln l : Int) = Lib.index l [13, 10] + 2)
 | [] => Or.inl ⟨rfl, rfl⟩
 | c :: r => by
  by_cases h : c = 13 /\ r.head? = some 10
  ·have hp := (sr c r).2 h
   obtain ⟨r', hr⟩ := (fW _).1 hp
   rw [fm, if_pos hp, hr, lm]
   exact Or.inr ⟨by omega, by omega⟩
  ·have hp : ¬ List.isPrefixOf [13, 10] (c :: r) = true := fun e => h ((sr c r).1 e)
   rw [fm, if_neg hp, rE c r h]
   rcases tu r with ⟨e1, e2⟩ | ⟨e1, e2⟩
   ·rw [e1]; exact Or.inl ⟨rfl, by simp [e2]; omega⟩
   ·have : (Lib.index r [13, 10] == -1) = false := by simp; omega
    rw [this]
    exact Or.inr ⟨by simp; omega, by simp; omega⟩
theorem rF (l : List UInt8) : l.take (ln l) = [13, 10] ↔ List.isPrefixOf [13, 10] l = true := by
 rw [fW]
 constructor
 ·intro h
  refine ⟨l.drop (ln l), ?_⟩
  conv => lhs; rw [<- List.take_append_drop (ln l) l, h]
  rfl
 ·rintro ⟨r, rfl⟩; rw [lm]; rfl
def ew (l : List UInt8) : List (List UInt8) := (cV [] l).takeWhile fun x => x != [13, 10]
theorem xG : ew [] = [] := by unfold ew; rw [cV]; rfl
theorem u4 {l : List UInt8} (h : List.isPrefixOf [13, 10] l = true) : ew l = [] := by
 obtain ⟨r, rfl⟩ := (fW l).1 h
 unfold ew; rw [mH, lm]; simp
theorem u3 {c : UInt8} {r : List UInt8} (h : List.isPrefixOf [13, 10] (c :: r) = false) : ew (c :: r) = (c :: r).take (ln (c :: r)) :: ew ((c :: r).drop (ln (c :: r))) := by
 unfold ew; rw [mH, List.takeWhile_cons]
 have : ((c :: r).take (ln (c :: r)) != [13, 10]) = true := by
  rw [bne_iff_ne]; intro e; rw [rF, h] at e; cases e
 rw [this]; simp
def fE : Bool -> List UInt8 -> List (List UInt8) -> List (List UInt8 × List UInt8 × Bool × Bool)
 | _, _, [] => []
 | fld, nm, c :: r => bif cZ (c.headD 0) then (c, nm, false, fld) :: fE fld nm r else (c, gh c, fV c, fV c) :: fE (fV c) (gh c) r
def eh (x : List UInt8 × List UInt8 × Bool × Bool) : AV := .agg [.str (B x.1), .str (B x.2.1), .bool x.2.2.1, .bool x.2.2.2]
theorem rU (κ : LA -> Option R) : ∀ (f : Nat) (h : List UInt8) (fld : Bool) (nm : List UInt8) (acc : List (List UInt8 × List UInt8 × Bool × Bool)), h.length < f -> acc.length + h.length <= 1000000 ->
  bR.L3 aV aP aS bE κ f (B h) fld (B nm) (acc.map eh) = κ ((acc ++ fE fld nm (ew h)).map eh)
 | 0, h, fld, nm, acc, h1, h2 => by omega
 | f + 1, h, fld, nm, acc, h1, h2 => by
  rw [bR.L3, bR.t3]
  rw [show (⟨#[13, 10]⟩ : BA) = B [13, 10] from rfl, dK]
  simp only [dQ, n4, n5 h [13, 10] (by omega)]
  cases h with
  | nil => rw [xG]; simp [fE]
  | cons c r =>
   simp only [reduceCtorEq, decide_false, Bool.not_false, cond_true]
   cases hp : List.isPrefixOf [13, 10] (c :: r) with
   | true => rw [u4 hp]; simp [fE]
   | false =>
    rw [u3 hp]
    have hle := DH (c :: r)
    have hpos := CP c r
    have key : ∀ (n : Int), n = (ln (c :: r) : Int) ->
      (bB ((decide ((0 : Int) <= n)) && (decide (n <= ((B (c :: r)).size : Int)))) (bB (decide ((0 : Int) < ((B (c :: r)).size : Int))) (aS (dJ (B (c :: r)) 0) (fun r11 => (bif (!r11) then (bE ((B (c :: r)).extract ((0 : Int)).toNat (n).toNat) (fun r12 r13 => (bB (decide (((acc.map eh).length + 1) * 40 <= 140737488355328)) (bB ((decide ((0 : Int) <= n)) && ((decide (n <= ((B (c :: r)).size : Int))) && (decide (((B (c :: r)).size : Int) <= ((B (c :: r)).size : Int))))) (bR.L3 aV aP aS bE κ f ((B (c :: r)).extract (n).toNat (((B (c :: r)).size : Int)).toNat) r13 r12 ((acc.map eh) ++ [AV.agg [AV.str ((B (c :: r)).extract ((0 : Int)).toNat (n).toNat), AV.str r12, AV.bool r13, AV.bool r13]])))))) else (bB (decide (((acc.map eh).length + 1) * 40 <= 140737488355328)) (bB ((decide ((0 : Int) <= n)) && ((decide (n <= ((B (c :: r)).size : Int))) && (decide (((B (c :: r)).size : Int) <= ((B (c :: r)).size : Int))))) (bR.L3 aV aP aS bE κ f ((B (c :: r)).extract (n).toNat (((B (c :: r)).size : Int)).toNat) fld (B nm) ((acc.map eh) ++ [AV.agg [AV.str ((B (c :: r)).extract ((0 : Int)).toNat (n).toNat), AV.str (B nm), AV.bool false, AV.bool fld]])))))))))
      = κ ((acc ++ fE fld nm ((c :: r).take (ln (c :: r)) :: ew ((c :: r).drop (ln (c :: r))))).map eh) := by
     intro n hn
     subst hn
     have hb : dJ (B (c :: r)) 0 = c.toNat := o5 (i := 0) rfl
     have hlen : (c :: r).length = r.length + 1 := rfl
     simp only [cg, List.length_map, hb, n7]
     simp (disch := omega) only [aw, ab]
     simp only [cU, Int.toNat_natCast, Int.toNat_zero, List.drop_zero, List.take_length]
     rw [fE]
     have hd : ((c :: r).take (ln (c :: r))).headD 0 = c := by
      obtain ⟨m, hm⟩ : ∃ m, ln (c :: r) = m + 1 := ⟨ln (c :: r) - 1, by omega⟩
      rw [hm]; rfl
     rw [hd]
     have hdl : ((c :: r).drop (ln (c :: r))).length < f := by rw [List.length_drop]; omega
     cases hbl : cZ c with
     | true =>
      simp only [Bool.not_true, cond_false, cond_true]
      rw [show (acc.map eh) ++ [AV.agg [AV.str (B ((c :: r).take (ln (c :: r)))), AV.str (B nm), AV.bool false, AV.bool fld]] = (acc ++ [((c :: r).take (ln (c :: r)), nm, false, fld)]).map eh by simp [eh]]
      rw [rU κ f _ fld nm _ hdl (by simp; omega)]
      simp
     | false =>
      simp only [Bool.not_false, cond_false, cond_true]
      rw [xa _ (by rw [List.length_take]; omega)]
      rw [show (acc.map eh) ++ [AV.agg [AV.str (B ((c :: r).take (ln (c :: r)))), AV.str (B (gh ((c :: r).take (ln (c :: r))))), AV.bool (fV ((c :: r).take (ln (c :: r)))), AV.bool (fV ((c :: r).take (ln (c :: r))))]] = (acc ++ [((c :: r).take (ln (c :: r)), gh ((c :: r).take (ln (c :: r))), fV ((c :: r).take (ln (c :: r))), fV ((c :: r).take (ln (c :: r))))]).map eh by simp [eh]]
      rw [rU κ f _ _ _ _ hdl (by simp; omega)]
      simp
    simp only [Bool.not_false, cond_true]
    rcases tu (c :: r) with ⟨e1, e2⟩ | ⟨e1, e2⟩
    ·rw [e1]
     rw [ak (by omega)]
     exact key _ (by rw [cg, e2])
    ·have hw : IntKind.wrap .i64 (Lib.index (c :: r) [13, 10] + 2) = (ln (c :: r) : Int) := by rw [<- e2]; exact wrap_i64 (by omega) (by omega)
     rw [an (by omega)]
     exact key _ hw
theorem vG (h : List UInt8) (hs : h.length <= 1000000) (κ : LA -> Option R) (f : Nat) (hf : h.length < f) :
  bR.e aV aP aS bE (B h) (bR.L3 aV aP aS bE κ f) κ = κ ((fE false [] (ew h)).map eh) :=
 rU κ f h false [] [] hf (by simp; omega)
theorem Bv (h : List UInt8) (hs : h.length <= 1000000) (κ : LA -> Option R) : bR (B h) κ = κ ((fE false [] (ew h)).map eh) :=
 vG h hs κ ag (by unfold ag; omega)
def fx (p : UInt8 -> Bool) (l : List UInt8) : List UInt8 := (l.reverse.dropWhile p).reverse
theorem jb (p : UInt8 -> Bool) (l : List UInt8) (c : UInt8) : fx p (l ++ [c]) = if p c then fx p l else l ++ [c] := by
 unfold fx
 rw [List.reverse_append, List.reverse_singleton, List.singleton_append, List.dropWhile_cons]
 split <;> simp
theorem yb {p : UInt8 -> Bool} : ∀ {l : List UInt8}, (∀ a ∈ l, p a = true) -> fx p l = [] := by
 intro l h
 unfold fx
 rw [nJ.2 (by intro a ha; exact h a (List.mem_reverse.1 ha))]; rfl
theorem lF {p : UInt8 -> Bool} (a : List UInt8) {c : UInt8} (d : List UInt8) (hc : p c = false) : fx p (a ++ c :: d) = a ++ fx p (c :: d) := by
 unfold fx
 rw [List.reverse_append, List.reverse_cons, List.append_assoc]
 simp only [List.dropWhile_append]
 split
 ·simp [hc]
 ·simp
theorem oM {p : UInt8 -> Bool} {c : UInt8} (d : List UInt8) (hc : p c = false) : ∃ e, fx p (c :: d) = c :: e := by
 refine ⟨fx p (c :: d) |>.tail, ?_⟩
 have := lF (p := p) [] (c := c) d hc
 unfold fx at this ⊢
 rw [List.reverse_cons, List.dropWhile_append]
 split
 ·simp [hc]
 ·simp
def eF (l : List UInt8) : List UInt8 := fx cZ (l.dropWhile cZ)
theorem yk (p : UInt8 -> Bool) (l : List UInt8) : (fx p l).dropWhile p = fx p (l.dropWhile p) := by
 have hs : l = l.takeWhile p ++ l.dropWhile p := List.takeWhile_append_dropWhile.symm
 cases hd : l.dropWhile p with
 | nil =>
  have : ∀ a ∈ l, p a = true := nJ.1 hd
  rw [yb this]; rfl
 | cons c d =>
  have hc : p c = false := by
   have := List.head?_dropWhile_not p l
   rw [hd] at this; simpa using this
  conv => lhs; rw [hs, hd, lF _ _ hc]
  obtain ⟨e, he⟩ := oM (p := p) d hc
  rw [List.dropWhile_append_of_pos (by intro a ha; exact List.all_eq_true.1 List.all_takeWhile a ha), he, List.dropWhile_cons, hc]
  simp
theorem kp {l : List UInt8} (h : l ≠ []) : ∃ t c, l = t ++ [c] := ⟨l.dropLast, l.getLast h, (List.dropLast_concat_getLast h).symm⟩
theorem wU (κ : BA -> Option R) : ∀ (f : Nat) (l : List UInt8), l.length < f -> l.length <= 1000000 -> cF.L3 aL κ f (B l) = κ (B (fx cZ l))
 | 0, l, h, hs => by omega
 | f + 1, l, h, hs => by
  rw [cF.L3, cF.t3]
  simp only [cg]
  by_cases hl : l = []
  ·subst hl; rfl
  ·obtain ⟨t, c, rfl⟩ := kp hl
   have hlen : (t ++ [c]).length = t.length + 1 := by simp
   have hw : IntKind.wrap .i64 (((t ++ [c]).length : Int) - 1) = (t.length : Int) := by rw [hlen, wrap_i64 (by omega) (by omega)]; omega
   have hg : (t ++ [c])[t.length]? = some c := by simp
   simp only [hw]
   simp (disch := omega) only [an, aw, ab, o5 hg, im]
   rw [jb]
   cases hb : cZ c with
   | false => simp
   | true =>
    simp only [cond_true, if_true, cU, Int.toNat_zero, Int.toNat_natCast, List.drop_zero]
    rw [List.take_left' rfl]
    exact wU κ f t (by omega) (by omega)
theorem wT (κ : BA -> Option R) : ∀ (f : Nat) (l : List UInt8), 2 * l.length + 2 < f -> l.length <= 1000000 -> cF.L1 aL κ f (B l) = κ (B (eF l))
 | 0, l, h, hs => by omega
 | f + 1, l, h, hs => by
  rw [cF.L1, cF.t1, wU κ f l (by omega) hs]
  simp only [cg]
  cases l with
  | nil => rfl
  | cons c r =>
   have hlen : (c :: r).length = r.length + 1 := rfl
   have hb : dJ (B (c :: r)) 0 = c.toNat := o5 (i := 0) rfl
   simp (disch := omega) only [an, aw, ab, hb, im]
   unfold eF
   rw [List.dropWhile_cons]
   cases hbl : cZ c with
   | false => rfl
   | true =>
    simp only [cond_true, if_true, cU, Int.toNat_natCast, List.take_length]
    exact wT κ f r (by omega) (by omega)
theorem vL (l : List UInt8) (hs : l.length <= 1000000) (κ : BA -> Option R) (f : Nat) (hf : 2 * l.length + 2 < f) :
  cF.e aL (B l) (cF.L1 aL κ f) (cF.L3 aL κ f) κ = κ (B (eF l)) := wT κ f l hf hs
theorem BC (l : List UInt8) (hs : l.length <= 1000000) (κ : BA -> Option R) : cF (B l) κ = κ (B (eF l)) := vL l hs κ ag (by unfold ag; omega)
def nt : LA := dR (dR (List.replicate 256 (AV.bool false)) 32 (AV.bool true)) 9 (AV.bool true)
theorem xe : (List.range 256).all (fun n => (bK nt (n : Int)).b == cZ (UInt8.ofNat n)) = true := by kernel_rfl
theorem contains_eq (c : UInt8) (κ : Bool -> Option R) : al nt (c.toNat : Int) κ = κ (cZ c) := by
 unfold al al.e
 have hlt := jK c
 simp (disch := omega) only [aw, ab]
 have := List.all_eq_true.1 xe c.toNat (List.mem_range.2 hlt)
 rw [beq_iff_eq] at this
 rw [this, UInt8.ofNat_toNat]
theorem vi (κ : LA -> Bool -> Option R) : bN (⟨#[32, 9]⟩ : BA) κ = κ nt true := by kernel_rfl
theorem uj (κ : BA -> Option R) : ∀ (f : Nat) (l : List UInt8), l.length < f -> l.length <= 1000000 -> ba.L1 al κ f (B l) nt = κ (B (fx cZ l))
 | 0, l, h, hs => by omega
 | f + 1, l, h, hs => by
  rw [ba.L1, ba.t1]
  simp only [cg]
  by_cases hl : l = []
  ·subst hl; rfl
  ·obtain ⟨t, c, rfl⟩ := kp hl
   have hlen : (t ++ [c]).length = t.length + 1 := by simp
   have hw : IntKind.wrap .i64 (((t ++ [c]).length : Int) - 1) = (t.length : Int) := by rw [hlen, wrap_i64 (by omega) (by omega)]; omega
   have hg : (t ++ [c])[t.length]? = some c := by simp
   simp only [hw]
   simp (disch := omega) only [an, aw, ab, o5 hg, contains_eq]
   rw [jb]
   cases hb : cZ c with
   | false => simp
   | true =>
    simp only [Bool.not_true, cond_false, if_true, cU, Int.toNat_zero, Int.toNat_natCast, List.drop_zero]
    rw [List.take_left' rfl]
    exact uj κ f t (by omega) (by omega)
theorem qL (κ : BA -> Option R) : ∀ (f : Nat) (l : List UInt8), l.length < f -> l.length <= 1000000 -> bg.L1 al κ f (B l) nt = κ (B (l.dropWhile cZ))
 | 0, l, h, hs => by omega
 | f + 1, l, h, hs => by
  rw [bg.L1, bg.t1]
  simp only [cg]
  cases l with
  | nil => rfl
  | cons c r =>
   have hlen : (c :: r).length = r.length + 1 := rfl
   have hb : dJ (B (c :: r)) 0 = c.toNat := o5 (i := 0) rfl
   simp (disch := omega) only [an, aw, ab, hb, contains_eq]
   rw [List.dropWhile_cons]
   cases hbl : cZ c with
   | false => rfl
   | true =>
    simp only [Bool.not_true, cond_false, if_true, cU, Int.toNat_natCast, List.take_length]
    exact qL κ f r (by omega) (by omega)
theorem uk (l : List UInt8) (hs : l.length <= 1000000) (κ : BA -> Option R) (f : Nat) (hf : l.length < f) :
  ba.e al (B l) nt (ba.L1 al κ f) κ = κ (B (fx cZ l)) := uj κ f l hf hs
theorem rX (l : List UInt8) (hs : l.length <= 1000000) (κ : BA -> Option R) (f : Nat) (hf : l.length < f) :
  bg.e al (B l) nt (bg.L1 al κ f) κ = κ (B (l.dropWhile cZ)) := qL κ f l hf hs
theorem qz (p : UInt8 -> Bool) (l : List UInt8) : (fx p l).length <= l.length := by
 unfold fx
 rw [List.length_reverse]
 have := (List.dropWhile_sublist p (l := l.reverse)).length_le
 simpa using this
theorem oN (l : List UInt8) (hs : l.length <= 1000000) (κ : BA -> Option R) : bA (B l) (⟨#[32, 9]⟩ : BA) κ = κ (B (eF l)) := by
 unfold bA bA.e
 rw [show decide ((⟨#[32, 9]⟩ : BA) = (⟨#[]⟩ : BA)) = false from by decide]
 simp only [vi, cond_false]
 by_cases hl : l = []
 ·subst hl; rfl
 ·rw [decide_eq_false (show ¬ B l = (⟨#[]⟩ : BA) from fun e => hl (dQ.1 e))]
  simp only [cond_false]
  rw [show (((⟨#[32, 9]⟩ : BA).size : Int) == 1) = false from rfl]
  simp only [cond_false, cond_true]
  have hr := qz cZ l
  unfold ba bg
  rw [uk l hs _ ag (by unfold ag; omega), rX _ (by omega) _ ag (by unfold ag; omega), yk]
  rfl
def e9 (c : List UInt8) : List UInt8 := if c.drop (c.length - 2) = [13, 10] then c.take (c.length - 2) else c
theorem gD (c : List UInt8) : (e9 c).length <= c.length := by unfold e9; split <;> simp
theorem kd (c : List UInt8) (hs : c.length <= 1000000) (κ : BA -> Option R) : aJ (B c) (⟨#[13, 10]⟩ : BA) κ = κ (B (e9 c)) := by
 unfold aJ aJ.e cb cb.e cv cv.e
 rw [show (⟨#[13, 10]⟩ : BA) = B [13, 10] from rfl]
 have h2 : ([13, 10] : List UInt8).length = 2 := rfl
 simp only [cg, h2, cU, dQ]
 unfold e9
 by_cases h : 2 <= c.length
 ·have hw : IntKind.wrap .i64 ((c.length : Int) - ((2 : Nat) : Int)) = ((c.length - 2 : Nat) : Int) := by rw [wrap_i64 (by omega) (by omega)]; omega
  simp only [hw, Int.toNat_natCast]
  simp (disch := omega) only [an, aw, ab]
  simp only [List.take_length, Int.toNat_zero, List.drop_zero]
  by_cases e : c.drop (c.length - 2) = [13, 10]
  ·rw [an e, if_pos e]
  ·rw [ak e, if_neg e]
 ·have e : c.drop (c.length - 2) ≠ [13, 10] := by intro e; have := congrArg List.length e; rw [List.length_drop] at this; simp at this; omega
  simp (disch := omega) only [ak, cond_false]
  rw [if_neg e]
theorem vT (c : List UInt8) (hs : c.length <= 1000000) (κ : BA -> Option R) : cA (B c) κ = κ (B (e9 c)) := by
 unfold cA cA.e
 simp only [cg]
 unfold e9
 by_cases h : 2 <= c.length
 ·obtain ⟨x, r, hx⟩ := vX (l := c) (i := c.length - 2) (by omega)
  obtain ⟨g1, g2, g3⟩ := cN hx
  obtain ⟨y, r', hy⟩ := vX (l := c) (i := c.length - 2 + 1) (by omega)
  obtain ⟨k1, k2, k3⟩ := cN hy
  have hr' : r' = [] := by rw [<- k3]; exact List.drop_eq_nil_of_le (by omega)
  have hd : c.drop (c.length - 2) = [x, y] := by rw [hx, <- g3, hy, hr']
  have hw : IntKind.wrap .i64 ((c.length : Int) - 2) = ((c.length - 2 : Nat) : Int) := by rw [wrap_i64 (by omega) (by omega)]; omega
  have hw2 : IntKind.wrap .i64 ((c.length : Int) - 1) = ((c.length - 2 + 1 : Nat) : Int) := by rw [wrap_i64 (by omega) (by omega)]; omega
  simp only [hw, hw2]
  simp (disch := omega) only [an, aw, ab, o5 g1, o5 k1]
  rw [kG x 13 13 rfl, kG y 10 10 rfl, hd]
  simp only [cU, Int.toNat_natCast, Int.toNat_zero, List.drop_zero]
  by_cases hx13 : x = 13
  ·subst hx13
   by_cases hy10 : y = 10
   ·subst hy10; simp
   ·have : (y == 10) = false := by simp [hy10]
    rw [this]; simp [hy10]
  ·have : (x == 13) = false := by simp [hx13]
   rw [this]; simp [hx13]
 ·have e : c.drop (c.length - 2) ≠ [13, 10] := by intro e; have := congrArg List.length e; rw [List.length_drop] at this; simp at this; omega
  simp (disch := omega) only [ak]
  rw [if_neg e]
theorem xk (c : List UInt8) (n i : Nat) (κ : Int -> Int -> Option R) (hi : i <= c.length) :
  (bif ((n : Int) == 0) then (κ (-1) 0) else (bif ((i : Int) == (c.length : Int)) then (κ (-1) 0) else (bB ((decide ((0 : Int) <= (i : Int))) && (decide ((i : Int) < (c.length : Int)))) (bif ((dJ (B c) (i : Int)) != 58) then (κ (-1) 0) else (κ (i : Int) (n : Int))))))
   = bif (decide (n ≠ 0) && (c[i]? == some 58)) then κ (i : Int) (n : Int) else κ (-1) 0 := by
 by_cases hn : n = 0
 ·subst hn; rfl
 ·rw [fB (by omega), decide_eq_true hn]
  by_cases h : i = c.length
  ·subst h
   rw [fS rfl, List.getElem?_eq_none (Nat.le_refl _)]; rfl
  ·rw [fB (by omega)]
   have hlt : i < c.length := by omega
   simp (disch := omega) only [cond_false, aw, ab]
   rw [o5 (List.getElem?_eq_getElem hlt), yI _ 58 58 rfl, List.getElem?_eq_getElem hlt]
   rw [show (some c[i] == some (58 : UInt8)) = (c[i] == 58) from rfl]
   unfold bne
   cases (c[i] == 58) <;> rfl
theorem so (c : List UInt8) (n : Nat) (hs : c.length <= 1000000) (κ : Int -> Int -> Option R) : ∀ (f i : Nat), i <= c.length -> c.length < i + f ->
  bF.L5 aL κ f (B c) (i : Int) (n : Int) = bif (decide (n ≠ 0) && (c[i + ((c.drop i).takeWhile cZ).length]? == some 58)) then κ ((i + ((c.drop i).takeWhile cZ).length : Nat) : Int) (n : Int) else κ (-1) 0
 | 0, i, h1, h2 => by omega
 | f + 1, i, h1, h2 => by
  rw [bF.L5, bF.t5]
  simp only [cg]
  simp only [xk c n i κ h1]
  cases hd : c.drop i with
  | nil =>
   have := drop_nil hd
   simp (disch := omega) only [ak]
   rfl
  | cons b r =>
   obtain ⟨g1, g2, g3⟩ := cN hd
   simp (disch := omega) only [an, aw, ab, o5 g1, im, wrap_i64]
   rw [List.takeWhile_cons]
   cases hb : cZ b with
   | false => rfl
   | true =>
    simp only [cond_true, zR, if_true, List.length_cons]
    rw [so c n hs κ f (i + 1) (by omega) (by omega), g3]
    rw [show i + 1 + (List.takeWhile cZ r).length = i + ((List.takeWhile cZ r).length + 1) by omega]
theorem sR (c : UInt8) : jv c = (decide ((c.toNat : Int) >= 33) && (decide ((c.toNat : Int) <= 126) && ((c.toNat : Int) != 58))) := by
 rw [yI c 58 58 rfl]; unfold jv
 congr 1
 ·rw [decide_eq_decide]; omega
 ·congr 1
  rw [decide_eq_decide]; omega
theorem sn (c : List UInt8) (hs : c.length <= 1000000) (κ : Int -> Int -> Option R) : ∀ (f i : Nat), i <= c.length -> 2 * c.length + 2 < i + f -> c.take i = (c.take i).takeWhile jv ->
  bF.L2 aL κ f (B c) (i : Int) = bif fV c then κ (jk c : Int) ((gh c).length : Int) else κ (-1) 0
 | 0, i, h1, h2, h3 => by omega
 | f + 1, i, h1, h2, h3 => by
  have fin : gh c = c.take i -> bF.L5 aL κ f (B c) (i : Int) (i : Int) = bif fV c then κ (jk c : Int) ((gh c).length : Int) else κ (-1) 0 := by
   intro hn
   rw [so c _ hs κ f i h1 (by omega)]
   have hl : (gh c).length = i := by rw [hn]; simp; omega
   unfold fV jk
   rw [hl]
   have : decide (gh c ≠ []) = decide (i ≠ 0) := by
    rw [decide_eq_decide]
    rw [<- hl]; simp
   rw [this]
  rw [bF.L2, bF.t2]
  have hsplit : gh c = c.take i ++ (c.drop i).takeWhile jv := by
   unfold gh
   conv => lhs; rw [<- List.take_append_drop i c]
   rw [List.takeWhile_append_of_pos]
   rw [h3]; intro a ha; exact List.all_eq_true.1 List.all_takeWhile a ha
  cases hd : c.drop i with
  | nil =>
   have := drop_nil hd
   simp only [cg]
   simp (disch := omega) only [ak, aw, ab]
   exact fin (by rw [hsplit, hd]; simp)
  | cons b r =>
   obtain ⟨g1, g2, g3⟩ := cN hd
   simp only [cg]
   simp (disch := omega) only [an, aw, ab, o5 g1, wrap_i64]
   have hb : jv b = false -> gh c = c.take i := by
    intro hb; rw [hsplit, hd, List.takeWhile_cons, hb]; simp
   rw [sR] at hb
   cases e1 : decide ((b.toNat : Int) >= 33) with
   | false => exact fin (hb (by rw [e1]; rfl))
   | true =>
    cases e2 : decide ((b.toNat : Int) <= 126) with
    | false => exact fin (hb (by rw [e1, e2]; rfl))
    | true =>
     cases e3 : ((b.toNat : Int) != 58) with
     | false => exact fin (hb (by rw [e1, e2, e3]; rfl))
     | true =>
      have hb' : jv b = true := by rw [sR, e1, e2, e3]; rfl
      exact sn c hs κ f (i + 1) (by omega) (by omega) (by
       rw [dy g1, List.takeWhile_append_of_pos (by rw [h3]; intro a ha; exact List.all_eq_true.1 List.all_takeWhile a ha)]
       simp [hb'])
theorem sq (c : List UInt8) (hs : c.length <= 1000000) (κ : Int -> Int -> Option R) (f : Nat) (hf : 2 * c.length + 2 < f) :
  bF.e aL (B c) (bF.L2 aL κ f) (bF.L5 aL κ f) κ = bif fV c then κ (jk c : Int) ((gh c).length : Int) else κ (-1) 0 :=
 sn c hs κ f 0 (by omega) (by omega) (by simp)
theorem yU (c : List UInt8) (hs : c.length <= 1000000) (κ : Int -> Int -> Option R) : bF (B c) κ = bif fV c then κ (jk c : Int) ((gh c).length : Int) else κ (-1) 0 :=
 sq c hs κ ag (by unfold ag; omega)
abbrev Fl := List UInt8 × List UInt8 × List UInt8
def gY (x : Fl) : AV := .agg [.str (B x.1), .str (B x.2.1), .str (B x.2.2)]
theorem D7 (x : Fl) : ((gY x).fld 0).s = B x.1 := rfl
theorem Dt (x : Fl) : ((gY x).fld 1).s = B x.2.1 := rfl
theorem D8 (x : Fl) : ((gY x).fld 2).s = B x.2.2 := rfl
def fresh (c : List UInt8) : Fl := bif fV c then (gh c, e9 (c.drop (jk c + 1)), c) else ([], [], c)
def ext (x : Fl) (c : List UInt8) : Fl := (x.1, x.2.1 ++ e9 c, x.2.2 ++ c)
def di : Option Fl -> List (List UInt8) -> List Fl
 | none, [] => []
 | some x, [] => [x]
 | none, c :: r => di (some (fresh c)) r
 | some x, c :: r => bif cZ (c.headD 0) then di (some (ext x c)) r else x :: di (some (fresh c)) r
theorem pU {c : UInt8} {r : List UInt8} (h : cZ c = true) : fV (c :: r) = false := by
 unfold fV gh
 have : jv c = false := by
  unfold cZ at h
  rw [Bool.or_eq_true, beq_iff_eq, beq_iff_eq] at h
  rcases h with rfl | rfl <;> rfl
 rw [List.takeWhile_cons, this]; simp
theorem zw {c : List UInt8} (h : fV c = true) : c[jk c]? = some 58 := by
 unfold fV at h; rw [Bool.and_eq_true, beq_iff_eq] at h; exact h.2
theorem Cz {c : List UInt8} (h : fV c = true) : gh c ≠ [] := by
 unfold fV at h; rw [Bool.and_eq_true, decide_eq_true_eq] at h; exact h.1
theorem zx {c : List UInt8} (h : fV c = true) : jk c < c.length := (List.getElem?_eq_some_iff.1 (zw h)).1
theorem zT (c : List UInt8) : c.take (gh c).length = gh c := by
 unfold gh
 have := List.takeWhile_prefix jv (l := c)
 exact (List.prefix_iff_eq_take.1 this).symm
theorem zS (c : List UInt8) : (gh c).length <= c.length := (List.takeWhile_prefix jv (l := c)).length_le
theorem xP : ∀ (cur l : List UInt8) (x : List UInt8), x ∈ cV cur l -> x ≠ [] := by
 intro cur l
 fun_induction cV cur l with
 | case1 => simp
 | case2 cur h => simpa using h
 | case3 cur r ih => intro x hx; rw [List.mem_cons] at hx; rcases hx with rfl | hx
                     ·simp
                     ·exact ih x hx
 | case4 cur c r h ih => exact ih
abbrev Ah (κ : LA -> Option R) := cn.L4 bp aL cA bF κ
abbrev ya (κ : LA -> Option R) := cn.L5 bp aL cA bF κ
abbrev qx (κ : LA -> Option R) := cn.qS bp aL cA bF κ
theorem x' (κ : LA -> Option R) (f : Nat) (i : Int) (a b : LA) : Ah κ (f + 1) i a b = cn.t4 aL cA (ya κ f) (qx κ f) κ i a b := rfl
theorem qy (κ : LA -> Option R) (f : Nat) (i : Int) (a b : LA) : ya κ (f + 1) i a b = Ah κ f (IntKind.wrap .i64 (i + 1)) a b := rfl
theorem vF (κ : LA -> Option R) (f : Nat) (i : Int) (s : BA) (a b : LA) : qx κ (f + 1) i s a b = cn.t11 aL cA bF (ya κ f) i s a b := by
 try unfold qx
 try unfold Ah
 try unfold ya
 try unfold cn.qS
 try unfold cn.L4
 try unfold cn.L5
 rw [cn.M4]
theorem Aj (κ : LA -> Option R) (f : Nat) (i : Int) (c : List UInt8) (out ls : LA) (hc : c ≠ []) (hs : c.length <= 1000000) (ho : out.length <= 1000000) :
  qx κ (f + 1) i (B c) out ls = ya κ f i (out ++ [gY (fresh c)]) ls := by
 rw [vF, cn.t11, yU c hs]
 obtain ⟨b, r, rfl⟩ : ∃ b r, c = b :: r := by cases c with | nil => exact absurd rfl hc | cons b r => exact ⟨b, r, rfl⟩
 have hb : dJ (B (b :: r)) 0 = b.toNat := o5 (i := 0) rfl
 have hlen : (b :: r).length = r.length + 1 := rfl
 unfold fresh
 cases hF : fV (b :: r) with
 | false =>
  simp only [cond_false, cg, hb, im]
  simp (disch := omega) only [ab, an]
  cases cZ b <;> rfl
 | true =>
  have hnb : cZ b = false := by
   cases h : cZ b with
   | false => rfl
   | true => rw [pU h] at hF; cases hF
  have hlt := zx hF
  have hnm := zS (b :: r)
  have hw : IntKind.wrap .i64 ((jk (b :: r) : Int) + 1) = ((jk (b :: r) + 1 : Nat) : Int) := by rw [wrap_i64 (by omega) (by omega)]; omega
  simp only [cond_true, cg, hb, im, hnb, cond_false, hw]
  simp (disch := omega) only [aw, ab, ak]
  simp only [cU, Int.toNat_natCast, Int.toNat_zero, List.drop_zero, List.take_length, zT]
  rw [vT _ (by rw [List.length_drop]; omega)]
  rfl
theorem rT (κ : LA -> Option R) (ls : List (List UInt8)) (hne : ∀ x ∈ ls, x ≠ []) (hn : ls.length <= 1000000) : ∀ (f i : Nat) (done : List Fl) (cur : Option Fl), i <= ls.length -> 3 * ls.length + 3 < 3 * i + f -> (cur = none -> done = []) -> (done ++ cur.toList).length <= i ->
  (∀ x, cur = some x -> x.2.1.length <= x.2.2.length /\ x.2.2.length + total (ls.drop i) <= 1000000) -> total (ls.drop i) <= 1000000 ->
  Ah κ f (i : Int) ((done ++ cur.toList).map gY) (bt ls) = κ ((done ++ di cur ((ls.drop i).takeWhile fun x => x != [13, 10])).map gY)
 | 0, i, done, cur, h1, h2, h3, h4, h5, h6 => by omega
 | 1, i, done, cur, h1, h2, h3, h4, h5, h6 => by omega
 | 2, i, done, cur, h1, h2, h3, h4, h5, h6 => by omega
 | f + 3, i, done, cur, h1, h2, h3, h4, h5, h6 => by
  rw [x', cn.t4]
  have hlen := fw ls
  have hout : ((done ++ cur.toList).map gY).length = (done ++ cur.toList).length := List.length_map ..
  have hend : ∀ x : List Fl, x = di cur [] -> κ ((done ++ cur.toList).map gY) = κ ((done ++ x).map gY) := by
   intro x hx; subst hx; cases cur <;> rfl
  cases hd : ls.drop i with
  | nil =>
   have := drop_nil hd
   simp (disch := omega) only [ak]
   exact hend _ rfl
  | cons c r =>
   obtain ⟨g1, g2, g3⟩ := cN hd
   have hc : c ≠ [] := hne c (List.mem_of_getElem? g1)
   have htot : total (ls.drop i) = c.length + total r := by rw [hd]; rfl
   have hcr := tT g1
   rw [show (⟨#[13, 10]⟩ : BA) = B [13, 10] from rfl]
   simp (disch := omega) only [an, aw, ab]
   simp only [hcr, List.takeWhile_cons]
   by_cases hx : c = [13, 10]
   ·subst hx
    rw [decide_eq_true (show B [13, 10] = B [13, 10] from rfl)]
    exact hend _ rfl
   ·rw [decide_eq_false (show ¬ B c = B [13, 10] from fun e => hx (dQ.1 e))]
    have hx' : (c != [13, 10]) = true := by rw [bne_iff_ne]; exact hx
    simp only [Bool.not_false, cond_true, hx', if_true]
    obtain ⟨b, t, rfl⟩ : ∃ b t, c = b :: t := by cases c with | nil => exact absurd rfl hc | cons b t => exact ⟨b, t, rfl⟩
    have hb : dJ (B (b :: t)) 0 = b.toNat := o5 (i := 0) rfl
    have hcl : (b :: t).length = t.length + 1 := rfl
    have hwi : IntKind.wrap .i64 ((i : Int) + 1) = ((i + 1 : Nat) : Int) := wrap_i64 (by omega) (by omega)
    have hfr : qx κ (f + 2) (i : Int) (B (b :: t)) ((done ++ cur.toList).map gY) (bt ls) = κ (((done ++ cur.toList) ++ di (some (fresh (b :: t))) (r.takeWhile fun x => x != [13, 10])).map gY) := by
     rw [Aj κ (f + 1) _ (b :: t) _ _ hc (by omega) (by omega), qy, hwi]
     have hf2 : (fresh (b :: t)).2.2 = b :: t := by unfold fresh; cases fV (b :: t) <;> rfl
     have hf1 : (fresh (b :: t)).2.1.length <= (b :: t).length := by
      unfold fresh
      cases fV (b :: t) with
      | false => simp
      | true => have := gD ((b :: t).drop (jk (b :: t) + 1)); rw [List.length_drop] at this; show (e9 _).length <= _; omega
     have := rT κ ls hne hn f (i + 1) (done ++ cur.toList) (some (fresh (b :: t))) (by omega) (by omega) (by intro e; cases e) (by rw [List.length_append]; show _ + 1 <= _; omega)
      (by intro x e; cases e; rw [hf2, g3]; exact ⟨hf1, by omega⟩) (by rw [g3]; omega)
     rw [g3] at this
     rw [<- this]
     simp
    simp only [hb, im]
    simp (disch := omega) only [cg, ab]
    cases hbl : cZ b with
    | false =>
     simp only [cond_false]
     rw [hfr]
     cases cur with
     | none => have hd0 := h3 rfl; subst hd0; rfl
     | some x =>
      rw [di]
      simp only [List.headD_cons, hbl, cond_false, Option.toList_some, List.append_assoc, List.singleton_append]
    | true =>
     simp only [cond_true]
     cases cur with
     | none =>
      have hd0 := h3 rfl
      subst hd0
      have hw : IntKind.wrap .i64 ((((([] : List Fl) ++ (none : Option Fl).toList).map gY).length : Int) - 1) = -1 := by rw [wrap_i64] <;> simp
      rw [hw, ak (by omega), hfr]
      rfl
     | some x =>
      obtain ⟨hx1, hx2⟩ := h5 x rfl
      have hsp : (done ++ (some x).toList).map gY = done.map gY ++ [gY x] := by simp
      have hl2 : (done ++ (some x).toList).length = done.length + 1 := by simp
      have hdl : (done.map gY).length = done.length := List.length_map ..
      rw [hsp]
      have hw : IntKind.wrap .i64 (((done.map gY ++ [gY x]).length : Int) - 1) = (((done.map gY).length : Nat) : Int) := by
       rw [List.length_append, List.length_singleton, wrap_i64 (by omega) (by omega)]; omega
      have hbr := gD (b :: t)
      simp only [hw]
      have sl : ∀ a b : AV, dR (done.map gY ++ [a]) ((done.map gY).length : Int) b = done.map gY ++ [b] := fun a b => ib _ a b [] _ rfl
      have f0 : ∀ a b c : AV, (AV.agg [a, b, c]).fld 0 = a := fun _ _ _ => rfl
      have f1 : ∀ a b c : AV, (AV.agg [a, b, c]).fld 1 = b := fun _ _ _ => rfl
      have f2 : ∀ a b c : AV, (AV.agg [a, b, c]).fld 2 = c := fun _ _ _ => rfl
      have fs : ∀ a, (AV.str a).s = a := fun _ => rfl
      simp only [tS, sl, gY, f0, f1, f2, fs]
      simp only [List.length_append, List.length_singleton]
      rw [vT _ (by omega)]
      simp only [gC, cg]
      simp (disch := omega) only [an, aw, ab]
      rw [qy, hwi]
      have ex : (ext x (b :: t)).2.2.length = x.2.2.length + (b :: t).length := by unfold ext; simp
      have ex1 : (ext x (b :: t)).2.1.length = x.2.1.length + (e9 (b :: t)).length := by unfold ext; simp
      have := rT κ ls hne hn (f + 1) (i + 1) done (some (ext x (b :: t))) (by omega) (by omega) (by intro e; cases e) (by simp at h4 ⊢; omega)
       (by intro y e; cases e; rw [g3]; exact ⟨by omega, by omega⟩) (by rw [g3]; omega)
      rw [g3] at this
      rw [di]
      simp only [List.headD_cons, hbl, cond_true]
      rw [<- this]
      simp [gY, ext]
theorem Ai (h : List UInt8) (hs : h.length <= 200000) (κ : LA -> Option R) (f : Nat) (hf : 600010 < f) :
  cn.e bp aL cA bF (B h) (Ah κ f) (ya κ f) (qx κ f) κ = κ ((di none (ew h)).map gY) := by
 unfold cn.e
 rw [qv (B h) (by rw [nu]; omega), nu]
 have hl := kq h
 have ht := gp [] h
 exact rT κ (cV [] h) (xP [] h) (by omega) f 0 [] none (by omega) (by omega) (fun _ => rfl) (by simp) (by intro x e; cases e) (by simp only [List.drop_zero, ht]; simp; omega)
theorem head_eq (h : List UInt8) (hs : h.length <= 200000) (κ : LA -> Option R) : cn (B h) κ = κ ((di none (ew h)).map gY) :=
 Ai h hs κ ag (by unfold ag; omega)
def named (l : List Fl) : List Fl := l.filter fun x => x.1 != []
def gg (x : Fl) : Fl := (x.1, eF x.2.1, x.2.2)
theorem A9 {l : List Fl} {i : Nat} {x : Fl} (h : l[i]? = some x) : bK (l.map gY) (i : Int) = gY x := dU (by rw [List.getElem?_map, h]; rfl)
theorem rP (κ : LA -> Option R) (l : List Fl) (hn : l.length <= 1000000) (hv : ∀ x ∈ l, x.2.1.length <= 1000000) : ∀ (f i : Nat) (acc : List Fl), i <= l.length -> l.length < i + f -> acc.length <= 64 ->
  bS.L4 cn cF κ f (i : Int) (acc.map gY) (l.map gY) = κ (((acc ++ (named (l.drop i)).map gg).take 64).map gY)
 | 0, i, acc, h1, h2, h3 => by omega
 | f + 1, i, acc, h1, h2, h3 => by
  rw [bS.L4, bS.t4]
  simp only [List.length_map]
  cases hd : l.drop i with
  | nil =>
   have := drop_nil hd
   simp (disch := omega) only [ak]
   simp only [named, List.filter_nil, List.map_nil, List.append_nil]
   rw [List.take_of_length_le h3]
  | cons x r =>
   obtain ⟨g1, g2, g3⟩ := cN hd
   have hwi : IntKind.wrap .i64 ((i : Int) + 1) = ((i + 1 : Nat) : Int) := wrap_i64 (by omega) (by omega)
   simp (disch := omega) only [an, aw, ab]
   simp only [A9 g1, D7, Dt, D8, hwi]
   by_cases h64 : acc.length < 64
   ·simp (disch := omega) only [an]
    by_cases hx : x.1 = []
    ·rw [decide_eq_true (show B x.1 = (⟨#[]⟩ : BA) by rw [hx]; rfl)]
     simp only [Bool.not_true, cond_false]
     rw [rP κ l hn hv f (i + 1) acc (by omega) (by omega) h3, g3]
     have : named (x :: r) = named r := by unfold named; rw [List.filter_cons]; simp [hx]
     rw [this]
    ·rw [decide_eq_false (show ¬ B x.1 = (⟨#[]⟩ : BA) from fun e => hx (dQ.1 e))]
     simp only [Bool.not_false, cond_true]
     rw [BC _ (hv x (List.mem_of_getElem? g1))]
     have := rP κ l hn hv f (i + 1) (acc ++ [gg x]) (by omega) (by omega) (by simp; omega)
     rw [g3] at this
     have e : named (x :: r) = x :: named r := by unfold named; rw [List.filter_cons]; simp [hx]
     rw [e]
     simp only [List.map_cons]
     rw [show acc ++ gg x :: (named r).map gg = (acc ++ [gg x]) ++ (named r).map gg by simp, <- this]
     simp [gY, gg]
   ·simp (disch := omega) only [ak]
    rw [List.take_append_of_le_length (by omega), List.take_of_length_le h3]
theorem iy : ∀ (ls : List (List UInt8)) (cur : Option Fl) (n : Nat), (∀ x, cur = some x -> x.2.1.length + total ls <= n) -> total ls <= n -> ∀ x ∈ di cur ls, x.2.1.length <= n
 | [], none, n, h, h2, x, hx => by rw [di] at hx; cases hx
 | [], some y, n, h, h2, x, hx => by
  rw [di, List.mem_singleton] at hx; subst hx
  have := h x rfl; simp only [total] at this; omega
 | c :: r, none, n, h, h2, x, hx => by
  rw [di] at hx
  refine iy r _ n ?_ (by simp only [total] at h2; omega) x hx
  intro y e; cases e
  simp only [total] at h2
  have : (fresh c).2.1.length <= c.length := by
   unfold fresh
   cases fV c with
   | false => simp
   | true => have := gD (c.drop (jk c + 1)); rw [List.length_drop] at this; show (e9 _).length <= _; omega
  omega
 | c :: r, some y, n, h, h2, x, hx => by
  have hy := h y rfl
  simp only [total] at h2 hy
  rw [di] at hx
  have hf : (fresh c).2.1.length <= c.length := by
   unfold fresh
   cases fV c with
   | false => simp
   | true => have := gD (c.drop (jk c + 1)); rw [List.length_drop] at this; show (e9 _).length <= _; omega
  cases hb : cZ (c.headD 0) with
  | true =>
   rw [hb, cond_true] at hx
   refine iy r _ n ?_ (by omega) x hx
   intro z e; cases e
   have := gD c
   have : (ext y c).2.1.length = y.2.1.length + (e9 c).length := by unfold ext; simp
   omega
  | false =>
   rw [hb, cond_false, List.mem_cons] at hx
   rcases hx with rfl | hx
   ·omega
   ·refine iy r _ n ?_ (by omega) x hx
    intro z e; cases e; omega
theorem jN : ∀ (ls : List (List UInt8)) (cur : Option Fl), (di cur ls).length <= cur.toList.length + ls.length
 | [], none => by rw [di]; simp
 | [], some y => by rw [di]; simp
 | c :: r, none => by rw [di]; have := jN r (some (fresh c)); simp at this ⊢; omega
 | c :: r, some y => by
  rw [di]
  have h1 := jN r (some (fresh c))
  have h2 := jN r (some (ext y c))
  cases cZ (c.headD 0) <;> simp at h1 h2 ⊢ <;> omega
theorem jf (p : List UInt8 -> Bool) : ∀ l : List (List UInt8), total (l.takeWhile p) <= total l
 | [] => by simp
 | c :: r => by
  rw [List.takeWhile_cons]
  have := jf p r
  split <;> simp only [total] <;> omega
def fT (h : List UInt8) : List Fl := ((named (di none (ew h))).map gg).take 64
theorem pP (h : List UInt8) : (ew h).length <= h.length + 1 := by
 have h1 := kq h
 have h2 : (ew h).length <= (cV [] h).length := (List.takeWhile_sublist _).length_le
 omega
theorem js (h : List UInt8) : total (ew h) <= h.length := by
 have h1 := gp [] h
 have h2 : total (ew h) <= total (cV [] h) := jf _ _
 simp at h1; omega
theorem z6 (h : List UInt8) (hs : h.length <= 200000) (κ : LA -> Option R) (f : Nat) (hf : 300010 < f) :
  bS.e cn cF (B h) (bS.L4 cn cF κ f) κ = κ ((fT h).map gY) := by
 unfold bS.e
 rw [head_eq h hs]
 have h1 := pP h
 have h2 := js h
 have h3 := jN (ew h) none
 simp at h3
 have := rP κ (di none (ew h)) (by omega) (iy (ew h) none 1000000 (by intro x e; cases e) (by omega)) f 0 [] (by omega) (by omega) (by simp)
 simpa [fT] using this
theorem vz (h : List UInt8) (hs : h.length <= 200000) (κ : LA -> Option R) : bS (B h) κ = κ ((fT h).map gY) :=
 z6 h hs κ ag (by unfold ag; omega)
theorem pe (l : List UInt8) (κ : Int -> Option R) : ay (B l) 58 κ = κ (Lib.indexByte l 58) := rfl
theorem mD {c : List UInt8} {k : Nat} (h : k < jk c) : c[k]? ≠ some 58 := by
 unfold jk at h
 by_cases hk : k < (gh c).length
 ·obtain ⟨x, h1, h2⟩ := kc (p := jv) hk
  rw [h1]; intro e; cases e; exact absurd h2 (by decide)
 ·obtain ⟨x, h1, h2⟩ := kc (p := cZ) (l := c.drop (gh c).length) (k := k - (gh c).length) (by omega)
  rw [List.getElem?_drop, show (gh c).length + (k - (gh c).length) = k by omega] at h1
  rw [h1]; intro e; cases e; exact absurd h2 (by decide)
theorem AL {c : List UInt8} (h : fV c = true) : Lib.indexByte (e9 c) 58 = (jk c : Int) /\ jk c + 1 <= (e9 c).length /\ (e9 c).drop (jk c + 1) = e9 (c.drop (jk c + 1)) := by
 have h1 := zw h
 have h2 := zx h
 unfold e9
 by_cases e : c.drop (c.length - 2) = [13, 10]
 ·have hl : 2 <= c.length := by have := congrArg List.length e; rw [List.length_drop] at this; simp at this; omega
  have g0 : c[c.length - 2]? = some 13 := (cN e).1
  have g1 : c[c.length - 2 + 1]? = some 10 := (cN (cN e).2.2).1
  have hlt : jk c < c.length - 2 := by
   rcases Nat.lt_trichotomy (jk c) (c.length - 2) with hlt | heq | hgt
   ·exact hlt
   ·rw [heq, g0] at h1; cases h1
   ·have : jk c = c.length - 2 + 1 := by omega
    rw [this, g1] at h1; cases h1
  rw [if_pos e]
  refine ⟨la (by rw [List.getElem?_take, if_pos hlt, h1]) (fun k hk => by rw [List.getElem?_take, if_pos (by omega)]; exact mD hk), by rw [List.length_take]; omega, ?_⟩
  have hl2 : (c.drop (jk c + 1)).length - 2 = c.length - 2 - (jk c + 1) := by rw [List.length_drop]; omega
  rw [if_pos (by rw [hl2, List.drop_drop, show jk c + 1 + (c.length - 2 - (jk c + 1)) = c.length - 2 by omega]; exact e), hl2, List.drop_take]
 ·rw [if_neg e]
  refine ⟨la h1 (fun k hk => mD hk), h2, ?_⟩
  rw [if_neg]
  intro e2
  have hl : 2 <= (c.drop (jk c + 1)).length := by have := congrArg List.length e2; rw [List.length_drop] at this; simp at this ⊢; omega
  apply e
  rw [List.drop_drop] at e2
  rw [List.length_drop] at e2 hl
  rw [show jk c + 1 + (c.length - (jk c + 1) - 2) = c.length - 2 by omega] at e2
  exact e2
def xx (x : Fl) : AV := .agg [.str (B x.1), .str (B []), .str (B x.2.2)]
def yu (x : Fl) : AV := .str (B x.2.1)
abbrev tn (κ : LA -> Option R) := aU.L4 bR bA aJ ay κ
abbrev xN (κ : LA -> Option R) := aU.L8 bR bA aJ ay κ
abbrev og (κ : LA -> Option R) := aU.Cc bR bA aJ ay κ
abbrev lk (κ : LA -> Option R) := aU.mZ bR bA aJ ay κ
abbrev tm (κ : LA -> Option R) := aU.w6 bR bA aJ ay κ
theorem p8 (κ : LA -> Option R) (f : Nat) (n i : Int) (a b c : LA) : tn κ (f + 1) n i a b c = aU.t4 (xN κ f) (lk κ f) (tm κ f) n i a b c := by
 try unfold tn
 try unfold xN
 try unfold og
 try unfold lk
 try unfold tm
 try unfold aU.L4
 try unfold aU.L8
 try unfold aU.Cc
 try unfold aU.mZ
 rw [aU.M4]
theorem p9 (κ : LA -> Option R) (f : Nat) (n i : Int) (a b : LA) (s m : BA) (x y : Bool) (c : LA) : xN κ (f + 1) n i a b s m x y c = aU.t8 aJ ay (og κ f) n i a b s m x y c := by
 try unfold tn
 try unfold xN
 try unfold og
 try unfold lk
 try unfold aU.L4
 try unfold aU.L8
 try unfold aU.Cc
 try unfold aU.mZ
 rw [aU.M4]
theorem ve (κ : LA -> Option R) (f : Nat) (w : BA) (n i : Int) (a b : LA) (s m : BA) (x y : Bool) (c : LA) : og κ (f + 1) w n i a b s m x y c = aU.t13 (lk κ f) w n i a b s m x y c := by
 try unfold tn
 try unfold xN
 try unfold og
 try unfold lk
 try unfold aU.L4
 try unfold aU.L8
 try unfold aU.Cc
 try unfold aU.mZ
 rw [aU.M4]
theorem iY (κ : LA -> Option R) (f : Nat) (n i : Int) (a b c : LA) : lk κ (f + 1) n i a b c = tn κ f n (IntKind.wrap .i64 (i + 1)) a b c := by
 unfold tn lk aU.L4 aU.mZ
 rw [aU.M4]; rfl
theorem DG (κ : LA -> Option R) (f : Nat) (txt w nm raw c : List UInt8) (n i : Int) (xs vs : LA) (m : BA) (x y : Bool) (rs : LA) (hn : xs.length <= 1000000) (hv : vs.length = xs.length) (h1 : raw.length + c.length <= 2000000) (h2 : w.length + txt.length <= 2000000) :
  og κ (f + 1) (B txt) n i (xs ++ [xx (nm, w, raw)]) (vs ++ [.str (B w)]) (B c) m x y rs = lk κ f n i (xs ++ [xx (nm, w ++ txt, raw ++ c)]) (vs ++ [.str (B (w ++ txt))]) rs := by
 rw [ve, aU.t13]
 have hw : ∀ a : AV, IntKind.wrap .i64 (((xs ++ [a]).length : Int) - 1) = ((xs.length : Nat) : Int) := by
  intro a; rw [List.length_append, List.length_singleton, wrap_i64 (by omega) (by omega)]; omega
 have sl : ∀ a b : AV, dR (xs ++ [a]) (xs.length : Int) b = xs ++ [b] := fun a b => ib _ a b [] _ rfl
 have slv : ∀ a b : AV, dR (vs ++ [a]) (xs.length : Int) b = vs ++ [b] := fun a b => ib _ a b [] _ hv
 have rv : ∀ a : AV, bK (vs ++ [a]) (xs.length : Int) = a := fun a => rR _ a [] _ hv
 have f0 : ∀ a b c : AV, (AV.agg [a, b, c]).fld 0 = a := fun _ _ _ => rfl
 have f1 : ∀ a b c : AV, (AV.agg [a, b, c]).fld 1 = b := fun _ _ _ => rfl
 have f2 : ∀ a b c : AV, (AV.agg [a, b, c]).fld 2 = c := fun _ _ _ => rfl
 have fs : ∀ a, (AV.str a).s = a := fun _ => rfl
 simp only [hw, sl, slv, rv, tS, xx, f0, f1, f2, fs, gC, cg]
 simp only [List.length_append, List.length_singleton]
 simp (disch := omega) only [aw, ab]
theorem CO (κ : LA -> Option R) (fs : List Fl) (hn : fs.length <= 1000000) (hv : ∀ x ∈ fs, x.2.1.length <= 1000000) : ∀ (f i : Nat), i <= fs.length -> fs.length < i + f ->
  tm κ f (fs.length : Int) (i : Int) (((fs.map gg).take i).map gY ++ (fs.drop i).map xx) (fs.map yu) = κ ((fs.map gg).map gY)
 | 0, i, h1, h2 => by omega
 | f + 1, i, h1, h2 => by
  unfold tm
  rw [aU.w6, aU.t17]
  have hl : (((fs.map gg).take i).map gY).length = i := by simp; omega
  cases hd : fs.drop i with
  | nil =>
   have := drop_nil hd
   simp (disch := omega) only [ak, List.map_nil, List.append_nil]
   rw [List.take_of_length_le (by simp; omega)]
  | cons x r =>
   obtain ⟨g1, g2, g3⟩ := cN hd
   have hwi : IntKind.wrap .i64 ((i : Int) + 1) = ((i + 1 : Nat) : Int) := wrap_i64 (by omega) (by omega)
   have hx : bK (fs.map yu) (i : Int) = yu x := dU (by rw [List.getElem?_map, g1]; rfl)
   have hlen2 : (((fs.map gg).take i).map gY ++ (x :: r).map xx).length = fs.length := by
    rw [List.length_append, hl, List.length_map, <- hd, List.length_drop]; omega
   have f0 : ((xx x).fld 0) = .str (B x.1) := rfl
   have f2 : ((xx x).fld 2) = .str (B x.2.2) := rfl
   have fs' : ∀ a, (AV.str a).s = a := fun _ => rfl
   simp only [hlen2, List.length_map, hx, yu, fs', hwi]
   rw [List.map_cons, rR _ _ _ _ hl, f0, f2]
   simp only [fs']
   simp (disch := omega) only [an, aw, ab]
   rw [oN _ (hv x (List.mem_of_getElem? g1)), ib _ _ _ _ _ hl]
   have := CO κ fs hn hv f (i + 1) (by omega) (by omega)
   rw [g3] at this
   rw [<- this]
   have e : (fs.map gg).take (i + 1) = (fs.map gg).take i ++ [gg x] := dy (by rw [List.getElem?_map, g1]; rfl)
   rw [e]
   simp [gY, gg, yu]
def oe : List Fl -> Option Fl -> List (List UInt8) -> List Fl
 | d, cur, [] => d ++ cur.toList
 | d, cur, c :: r => bif cZ (c.headD 0) then oe d (cur.map fun x => ext x c) r else bif fV c then (if (d ++ cur.toList).length = 64 then d ++ cur.toList else oe (d ++ cur.toList) (some (fresh c)) r) else oe (d ++ cur.toList) none r
theorem ll (κ : LA -> Option R) (rs : List (List UInt8 × List UInt8 × Bool × Bool)) (hn : rs.length <= 1000000) : ∀ (rest : List (List UInt8)) (f i : Nat) (d : List Fl) (cur : Option Fl) (nm : List UInt8),
  i <= rs.length -> rs.drop i = fE cur.isSome nm rest -> 4 * rs.length + 200 < 4 * i + f -> (d ++ cur.toList).length <= 64 -> total rest <= 1000000 -> (∀ x ∈ d, x.2.1.length <= 1000000) ->
  (∀ x, cur = some x -> x.2.1.length <= x.2.2.length /\ x.2.2.length + total rest <= 1000000) ->
  tn κ f (rs.length : Int) (i : Int) ((d ++ cur.toList).map xx) ((d ++ cur.toList).map yu) (rs.map eh) = κ (((oe d cur rest).map gg).map gY)
 | [], f, i, d, cur, nm, hi, hd, hf, h64, ht, hv, hc => by
  have hi2 : rs.length <= i := drop_nil (by rw [hd]; rfl)
  obtain ⟨f, rfl⟩ : ∃ g, f = g + 1 := ⟨f - 1, by omega⟩
  rw [p8, aU.t4]
  simp only [List.length_map]
  simp (disch := omega) only [ak]
  rw [oe]
  exact CO κ (d ++ cur.toList) (by omega) (by
   intro x hx
   rw [List.mem_append] at hx
   rcases hx with hx | hx
   ·exact hv x hx
   ·cases cur with
    | none => simp at hx
    | some y => simp at hx; subst hx; have := hc x rfl; omega) f 0 (by omega) (by omega)
 | c :: r, f, i, d, cur, nm, hi, hd, hf, h64, ht, hv, hc => by
  obtain ⟨f, rfl⟩ : ∃ g, f = g + 4 := ⟨f - 4, by
   have : 0 < (rs.drop i).length := by rw [hd, fE]; cases cZ (c.headD 0) <;> simp
   rw [List.length_drop] at this; omega⟩
  have hvv : ∀ x ∈ d ++ cur.toList, x.2.1.length <= 1000000 := by
   intro x hx
   rw [List.mem_append] at hx
   rcases hx with hx | hx
   ·exact hv x hx
   ·cases cur with
    | none => simp at hx
    | some y => simp at hx; subst hx; have := hc x rfl; omega
  have htt : total (c :: r) = c.length + total r := rfl
  have hbl := gD c
  have hlm : (rs.map eh).length = rs.length := List.length_map ..
  have hl1 : ((d ++ cur.toList).map xx).length = (d ++ cur.toList).length := List.length_map ..
  have hl2 : ((d ++ cur.toList).map yu).length = (d ++ cur.toList).length := List.length_map ..
  have hdl : d.length <= (d ++ cur.toList).length := by rw [List.length_append]; omega
  rw [oe, p8, aU.t4, hlm]
  cases hb : cZ (c.headD 0) with
  | true =>
   have hd' : rs.drop i = (c, nm, false, cur.isSome) :: fE cur.isSome nm r := by rw [hd, fE, hb]; rfl
   obtain ⟨g1, g2, g3⟩ := cN hd'
   have hwi : IntKind.wrap .i64 ((i : Int) + 1) = ((i + 1 : Nat) : Int) := wrap_i64 (by omega) (by omega)
   have hrow : bK (rs.map eh) (i : Int) = eh (c, nm, false, cur.isSome) := dU (by rw [List.getElem?_map, g1]; rfl)
   have r0 : ((eh (c, nm, false, cur.isSome)).fld 0).s = B c := rfl
   have r1 : ((eh (c, nm, false, cur.isSome)).fld 1).s = B nm := rfl
   have r2 : ((eh (c, nm, false, cur.isSome)).fld 2).b = false := rfl
   have r3 : ((eh (c, nm, false, cur.isSome)).fld 3).b = cur.isSome := rfl
   simp only [hrow, r0, r1, r2, r3, cond_false]
   simp (disch := omega) only [an, aw, ab, cond_true]
   cases cur with
   | none =>
    simp only [Option.isSome_none, Bool.not_false, cond_true, Option.map_none]
    rw [iY, hwi]
    exact ll κ rs hn r (f + 2) (i + 1) d none nm (by omega) g3 (by omega) h64 (by omega) hv (by intro x e; cases e)
   | some x =>
    obtain ⟨hx1, hx2⟩ := hc x rfl
    simp only [Option.isSome_some, Bool.not_true, cond_false, Option.map_some]
    rw [p9, aU.t8, kd c (by omega)]
    simp only [cond_false]
    have e1 : (d ++ (some x).toList).map xx = d.map xx ++ [xx (x.1, x.2.1, x.2.2)] := by simp
    have e2 : (d ++ (some x).toList).map yu = d.map yu ++ [.str (B x.2.1)] := by simp [yu]
    rw [e1, e2, DG κ (f + 1) (e9 c) x.2.1 x.1 x.2.2 c _ _ _ _ _ _ _ _ (by rw [List.length_map]; omega) (by simp) (by omega) (by omega), iY, hwi]
    have ex : (ext x c).2.2.length = x.2.2.length + c.length := by unfold ext; simp
    have ex1 : (ext x c).2.1.length = x.2.1.length + (e9 c).length := by unfold ext; simp
    have := ll κ rs hn r f (i + 1) d (some (ext x c)) nm (by omega) g3 (by omega) (by simpa using h64) (by omega) hv (by intro y e; cases e; exact ⟨by omega, by omega⟩)
    rw [<- this]
    simp [ext, yu]
  | false =>
   have hd' : rs.drop i = (c, gh c, fV c, fV c) :: fE (fV c) (gh c) r := by rw [hd, fE, hb]; rfl
   obtain ⟨g1, g2, g3⟩ := cN hd'
   have hwi : IntKind.wrap .i64 ((i : Int) + 1) = ((i + 1 : Nat) : Int) := wrap_i64 (by omega) (by omega)
   have hrow : bK (rs.map eh) (i : Int) = eh (c, gh c, fV c, fV c) := dU (by rw [List.getElem?_map, g1]; rfl)
   have r0 : ((eh (c, gh c, fV c, fV c)).fld 0).s = B c := rfl
   have r1 : ((eh (c, gh c, fV c, fV c)).fld 1).s = B (gh c) := rfl
   have r2 : ((eh (c, gh c, fV c, fV c)).fld 2).b = fV c := rfl
   have r3 : ((eh (c, gh c, fV c, fV c)).fld 3).b = fV c := rfl
   simp only [hrow, r0, r1, r2, r3, cond_false]
   simp (disch := omega) only [an, aw, ab, cond_true]
   cases hF : fV c with
   | false =>
    simp only [Bool.not_false, cond_true, cond_false]
    rw [iY, hwi]
    rw [hF] at g3
    have := ll κ rs hn r (f + 2) (i + 1) (d ++ cur.toList) none (gh c) (by omega) g3 (by omega) (by simpa using h64) (by omega) hvv (by intro x e; cases e)
    simpa using this
   | true =>
    rw [hF] at g3
    simp only [Bool.not_true, cond_true, cond_false, hl1]
    by_cases h6 : (d ++ cur.toList).length = 64
    ·rw [if_pos h6, fS (by omega)]
     simp only [cond_true]
     exact CO κ (d ++ cur.toList) (by omega) hvv (f + 3) 0 (by omega) (by omega)
    ·rw [if_neg h6, fB (by omega)]
     simp only [cond_false]
     obtain ⟨k1, k2, k3⟩ := AL hF
     rw [p9, aU.t8, kd c (by omega)]
     have hw58 : IntKind.wrap .i64 ((jk c : Int) + 1) = ((jk c + 1 : Nat) : Int) := wrap_i64 (by omega) (by omega)
     simp only [cond_true, pe, k1, hw58, cg, hl1, hl2]
     simp (disch := omega) only [aw, ab]
     simp only [cU, Int.toNat_natCast, List.take_length, k3]
     have e1 : AV.agg [AV.str (B (gh c)), AV.str (⟨#[]⟩ : BA), AV.str (⟨#[]⟩ : BA)] = xx (gh c, [], []) := rfl
     have e2 : AV.str (⟨#[]⟩ : BA) = .str (B []) := rfl
     have hvl := gD (c.drop (jk c + 1))
     rw [List.length_drop] at hvl
     rw [e1, e2, DG κ (f + 1) _ [] (gh c) [] c _ _ _ _ _ _ _ _ (by omega) (by simp) (by simp; omega) (by simp; omega), iY, hwi]
     have hfr : fresh c = (gh c, e9 (c.drop (jk c + 1)), c) := by unfold fresh; rw [hF]; rfl
     have := ll κ rs hn r f (i + 1) (d ++ cur.toList) (some (fresh c)) (gh c) (by omega) g3 (by omega) (by rw [List.length_append]; show _ + 1 <= _; omega) (by omega) hvv
      (by intro y e; cases e; rw [hfr]; exact ⟨by show (e9 _).length <= c.length; omega, by show c.length + _ <= _; omega⟩)
     rw [<- this, hfr]
     simp [yu]
theorem gA : ∀ (rest : List (List UInt8)) (d : List Fl) (cur cur' : Option Fl), (∃ x, cur = some x /\ cur' = some x /\ x.1 ≠ []) ∨ (cur = none /\ (cur' = none ∨ ∃ y, cur' = some y /\ y.1 = [])) -> (d ++ cur.toList).length <= 64 ->
  oe d cur rest = (d ++ named (di cur' rest)).take 64
 | [], d, cur, cur', h, h64 => by
  rcases h with ⟨x, rfl, rfl, hx⟩ | ⟨rfl, rfl | ⟨y, rfl, hy⟩⟩
  ·rw [oe, di]; unfold named; rw [List.filter_cons]; simp [hx]
   rw [List.take_of_length_le]; simpa using h64
  ·rw [oe, di]; simp [named] at h64 ⊢; exact (List.take_of_length_le h64).symm
  ·rw [oe, di]; simp [named, hy] at h64 ⊢; exact (List.take_of_length_le h64).symm
 | c :: r, d, cur, cur', h, h64 => by
  have hnone : di none (c :: r) = di (some (fresh c)) r := rfl
  have hnamed : ∀ (x : Fl) (l : List Fl), x.1 ≠ [] -> named (x :: l) = x :: named l := by intro x l hx; unfold named; rw [List.filter_cons]; simp [hx]
  have hnam0 : ∀ (x : Fl) (l : List Fl), x.1 = [] -> named (x :: l) = named l := by intro x l hx; unfold named; rw [List.filter_cons]; simp [hx]
  have hfr1 : fV c = true -> (fresh c).1 ≠ [] := by intro e; unfold fresh; rw [e]; exact Cz e
  have hfr0 : fV c = false -> (fresh c).1 = [] := by intro e; unfold fresh; rw [e]; rfl
  rw [oe]
  cases hb : cZ (c.headD 0) with
  | true =>
   have hF : fV c = false := by cases c with | nil => cases hb | cons b t => exact pU hb
   simp only [cond_true]
   rcases h with ⟨x, rfl, rfl, hx⟩ | ⟨rfl, rfl | ⟨y, rfl, hy⟩⟩
   ·rw [di, hb]; simp only [cond_true]
    exact gA r d _ _ (Or.inl ⟨ext x c, rfl, rfl, hx⟩) (by simpa using h64)
   ·rw [hnone]
    exact gA r d none _ (Or.inr ⟨rfl, Or.inr ⟨_, rfl, hfr0 hF⟩⟩) h64
   ·rw [di, hb]; simp only [cond_true]
    exact gA r d none _ (Or.inr ⟨rfl, Or.inr ⟨_, rfl, hy⟩⟩) h64
  | false =>
   simp only [cond_false]
   have hh : d ++ named (di cur' (c :: r)) = (d ++ cur.toList) ++ named (di (some (fresh c)) r) := by
    rcases h with ⟨x, rfl, rfl, hx⟩ | ⟨rfl, rfl | ⟨y, rfl, hy⟩⟩
    ·rw [di, hb]; simp only [cond_false]; rw [hnamed _ _ hx]; simp
    ·rw [hnone]; simp
    ·rw [di, hb]; simp only [cond_false]; rw [hnam0 _ _ hy]; simp
   rw [hh]
   cases hF : fV c with
   | true =>
    simp only [cond_true]
    by_cases h6 : (d ++ cur.toList).length = 64
    ·rw [if_pos h6, List.take_append_of_le_length (by omega), List.take_of_length_le (by omega)]
    ·rw [if_neg h6]
     exact gA r _ _ _ (Or.inl ⟨_, rfl, rfl, hfr1 hF⟩) (by rw [List.length_append] at h6 ⊢; show _ + 1 <= _; rw [List.length_append] at h64 ⊢; omega)
   | false =>
    simp only [cond_false]
    exact gA r _ none _ (Or.inr ⟨rfl, Or.inr ⟨_, rfl, hfr0 hF⟩⟩) (by simpa using h64)
theorem mq : ∀ (fld : Bool) (nm : List UInt8) (l : List (List UInt8)), (fE fld nm l).length = l.length
 | _, _, [] => rfl
 | fld, nm, c :: r => by
  rw [fE]
  cases cZ (c.headD 0) with
  | true => simp only [cond_true, List.length_cons]; rw [mq]
  | false => simp only [cond_false, List.length_cons]; rw [mq]
theorem zI (h : List UInt8) (hs : h.length <= 200000) (κ : LA -> Option R) (f : Nat) (hf : 1000300 < f) :
  aU.e bR bA aJ ay (B h) (tn κ f) (xN κ f) (og κ f) (lk κ f) (tm κ f) κ = κ ((fT h).map gY) := by
 unfold aU.e
 rw [Bv h (by omega)]
 have h1 := pP h
 have h2 := js h
 have hl := mq false [] (ew h)
 have := ll κ (fE false [] (ew h)) (by omega) (ew h) f 0 [] none [] (by omega) rfl (by omega) (by simp) (by omega) (by simp) (by intro x e; cases e)
 rw [gA _ _ _ none (Or.inr ⟨rfl, Or.inl rfl⟩) (by simp)] at this
 simp only [List.length_map]
 refine this.trans ?_
 unfold fT
 simp [List.map_take]
theorem vb (h : List UInt8) (hs : h.length <= 200000) (κ : LA -> Option R) : aU (B h) κ = κ ((fT h).map gY) :=
 zI h hs κ ag (by unfold ag; omega)
def o9 (c : UInt8) : UInt8 := if 65 <= c.toNat /\ c.toNat <= 90 then UInt8.ofNat (c.toNat + 32) else c
def dI (l : List UInt8) : List UInt8 := l.map o9
theorem rG {c : UInt8} (h1 : 65 <= c.toNat) (h2 : c.toNat <= 90) : ((o9 c).toNat : Int) = (c.toNat : Int) + 32 := by
 unfold o9
 rw [if_pos ⟨h1, h2⟩]
 simp; omega
theorem jQ {c : UInt8} (h : ¬ (65 <= c.toNat /\ c.toNat <= 90)) : o9 c = c := by unfold o9; rw [if_neg h]
theorem iC (l : List UInt8) : (dI l).length = l.length := by unfold dI; simp
theorem zt {l : List UInt8} {i : Nat} {c : UInt8} (h : l[i]? = some c) : (bK (dt l) (i : Int)).i = (c.toNat : Int) := by
 rw [dU (a := .int (c.toNat : Int)) (by unfold dt; rw [List.getElem?_map, h]; rfl)]; rfl
theorem ints_set (a : List UInt8) (c d : UInt8) (r : List UInt8) (n : Nat) (h : a.length = n) : dR (dt (a ++ c :: r)) (n : Int) (.int (d.toNat : Int)) = dt (a ++ d :: r) := by
 unfold dt
 rw [List.map_append, List.map_cons, ib _ _ _ _ n (by rw [List.length_map]; exact h)]
 simp
theorem mO (l : List UInt8) (hs : l.length <= 140737488355327) (κ : BA -> Option R) : ∀ (f i : Nat), i <= l.length -> l.length < i + f ->
  bw.L3 κ f (l.length : Int) (i : Int) (dt (dI (l.take i) ++ l.drop i)) = κ (B (dI l))
 | 0, i, h1, h2 => by omega
 | f + 1, i, h1, h2 => by
  rw [bw.L3, bw.t3]
  have hla : (dI (l.take i)).length = i := by rw [iC, List.length_take]; omega
  have hll : (dt (dI (l.take i) ++ l.drop i)).length = l.length := by rw [iz, List.length_append, hla, List.length_drop]; omega
  simp only [hll, gQ]
  cases hd : l.drop i with
  | nil =>
   have := drop_nil hd
   rw [ak (by omega), List.append_nil, List.take_of_length_le (by omega)]
  | cons c r =>
   obtain ⟨g1, g2, g3⟩ := cN hd
   have hw1 : IntKind.wrap .i64 ((i : Int) + 1) = ((i + 1 : Nat) : Int) := wrap_i64 (by omega) (by omega)
   have hg : (bK (dt (dI (l.take i) ++ c :: r)) (i : Int)).i = (c.toNat : Int) := zt (by rw [List.getElem?_append_right (by omega), hla]; simp)
   simp only [hg, hw1]
   simp (disch := omega) only [an, aw, ab]
   have hn := mO l hs κ f (i + 1) (by omega) (by omega)
   rw [g3] at hn
   have ht : dI (l.take (i + 1)) ++ r = dI (l.take i) ++ o9 c :: r := by rw [dy g1]; unfold dI; simp
   rw [ht] at hn
   by_cases h1' : 65 <= c.toNat
   ·by_cases h2' : c.toNat <= 90
    ·have hu := rG h1' h2'
     have hlt := jK c
     have hw : IntKind.wrap .u8 ((IntKind.wrap .u8 ((c.toNat : Int) + 97)) - 65) = ((o9 c).toNat : Int) := by
      rw [wrap_u8 (x := (c.toNat : Int) + 97) (by omega) (by omega), wrap_u8 (by omega) (by omega), hu]; omega
     rw [an (by omega), an (by omega), hw, ints_set _ _ _ _ _ hla]
     exact hn
    ·rw [jQ (by omega)] at hn
     rw [an (by omega), ak (by omega)]
     exact hn
   ·rw [jQ (by omega)] at hn
    rw [ak (by omega)]
    exact hn
theorem gB (l : List UInt8) (hs : l.length <= 140737488355327) (κ : BA -> Option R) : bw (B l) κ = κ (B (dI l)) := by
 have key : ∀ f, l.length < f -> bw.e (B l) (bw.L3 κ f) κ = κ (B (dI l)) := by
  intro f hf
  unfold bw.e
  rw [cg, ab (by omega), AO, iz]
  exact mO l hs κ f 0 (by omega) (by omega)
 exact key ag (by unfold ag; omega)
theorem mV (l : List UInt8) (hs : l.length <= 140737488355327) (κ : BA -> Option R) : ∀ (f i : Nat), i <= l.length -> l.length < i + f ->
  da.L3 κ f (B l) (i : Int) (dt (dI (l.take i))) = κ (B (dI l))
 | 0, i, h1, h2 => by omega
 | f + 1, i, h1, h2 => by
  rw [da.L3, da.t3]
  have hla : (dt (dI (l.take i))).length = i := by rw [iz, iC, List.length_take]; omega
  simp only [hla, cg, gQ]
  cases hd : l.drop i with
  | nil =>
   have := drop_nil hd
   rw [ak (by omega), List.take_of_length_le (by omega)]
  | cons c r =>
   obtain ⟨g1, g2, g3⟩ := cN hd
   have hw1 : IntKind.wrap .i64 ((i : Int) + 1) = ((i + 1 : Nat) : Int) := wrap_i64 (by omega) (by omega)
   simp only [hw1, o5 g1]
   simp (disch := omega) only [an, aw, ab]
   have hn := mV l hs κ f (i + 1) (by omega) (by omega)
   have ht : dI (l.take (i + 1)) = dI (l.take i) ++ [o9 c] := by rw [dy g1]; unfold dI; simp
   rw [ht, <- gy] at hn
   by_cases h1' : 65 <= c.toNat
   ·by_cases h2' : c.toNat <= 90
    ·have hu := rG h1' h2'
     have hlt := jK c
     have hw : IntKind.wrap .u8 ((c.toNat : Int) + 32) = ((o9 c).toNat : Int) := by rw [wrap_u8 (by omega) (by omega), hu]
     rw [an (by omega), an (by omega), hw]
     exact hn
    ·rw [jQ (by omega)] at hn
     rw [an (by omega), ak (by omega)]
     exact hn
   ·rw [jQ (by omega)] at hn
    rw [ak (by omega)]
    exact hn
theorem qp (l : List UInt8) (hs : l.length <= 140737488355327) (κ : BA -> Option R) : da (B l) κ = κ (B (dI l)) := by
 have key : ∀ f, l.length < f -> da.e (B l) (da.L3 κ f) κ = κ (B (dI l)) :=
  fun f hf => mV l hs κ f 0 (by omega) (by omega)
 exact key ag (by unfold ag; omega)
abbrev NB : Nat := 140737488351232
theorem CN (a b : BA) (ha : a.size <= NB) (hb : b.size <= NB) (κ : Bool -> Option R) : dm a b κ = κ (decide (dI (bl a) = dI (bl b))) := by
 have h1 := fi a
 have h2 := fi b
 unfold NB at ha hb
 unfold dm dm.e
 conv => lhs; rw [<- iO a, <- iO b, gB _ (by omega), gB _ (by omega)]
 exact congrArg κ (decide_eq_decide.2 dQ)
theorem CZ (a b : BA) (ha : a.size <= NB) (hb : b.size <= NB) (κ : Bool -> Option R) : dn a b κ = κ (decide (dI (bl a) = dI (bl b))) := by
 have h1 := fi a
 have h2 := fi b
 unfold NB at ha hb
 unfold dn dn.e
 conv => lhs; rw [<- iO a, <- iO b, qp _ (by omega), qp _ (by omega)]
 exact congrArg κ (decide_eq_decide.2 dQ)
def kn (name : BA) : LA -> Option BA
 | [] => none
 | a :: r => if dI (bl (a.fld 0).s) = dI (bl name) then some (a.fld 1).s else kn name r
def xH (κ : Bool -> BA -> Option R) (o : Option BA) : Option R := κ o.isSome (o.getD (B []))
theorem Af {l : LA} {i : Nat} {a : AV} {r : LA} (h : l.drop i = a :: r) : bK l (i : Int) = a := Ad h
theorem pZ (name : BA) (hn : name.size <= NB) (l : LA) (hl : l.length <= 1000000) (hf : ∀ a ∈ l, Fit NB a) (κ : Bool -> BA -> Option R) (x4 : Bool) (x5 : BA) : ∀ (f i : Nat), i <= l.length -> l.length < i + f ->
  cG.L2 dm κ f name l (l.length : Int) (i : Int) x4 x5 = xH κ (kn name (l.drop i))
 | 0, i, h1, h2 => by omega
 | f + 1, i, h1, h2 => by
  rw [cG.L2, cG.t2, dK]
  have hw1 : IntKind.wrap .i64 ((i : Int) + 1) = ((i + 1 : Nat) : Int) := wrap_i64 (by omega) (by omega)
  cases hd : l.drop i with
  | nil =>
   have := drop_nil hd
   rw [ak (by omega)]; rfl
  | cons a r =>
   obtain ⟨g1, g2, g3⟩ := cN hd
   have ha := hf a (List.mem_of_getElem? g1)
   rw [an (by omega), aw, ab (by omega), ab (by omega), Af hd, CN _ _ (ha.fld 0).s hn, hw1, pZ name hn l hl hf κ x4 x5 f (i + 1) (by omega) (by omega), g3, kn]
   by_cases e : dI (bl (a.fld 0).s) = dI (bl name)
   ·rw [decide_eq_true e, if_pos e]; rfl
   ·rw [decide_eq_false e, if_neg e]; rfl
theorem Bm (name : BA) (hn : name.size <= NB) (l : LA) (hl : l.length <= 1000000) (hf : ∀ a ∈ l, Fit NB a) (κ : Bool -> BA -> Option R) : cG l name κ = xH κ (kn name l) := by
 have key : ∀ f, l.length < f -> cG.e dm l name (cG.L2 dm κ f) κ = xH κ (kn name l) :=
  fun f h => pZ name hn l hl hf κ false _ f 0 (by omega) (by omega)
 exact key ag (by unfold ag; omega)
theorem known6_holds (κ : Bool -> Option R) : dL κ = κ true := by kernel_rfl
def pl (s r : List UInt8) : Int := ((s.length - r.length : Nat) : Int)
theorem du (s : List UInt8) : pl s [] = (s.length : Int) := rfl
theorem dO {s r : List UInt8} : 0 <= pl s r /\ pl s r <= (s.length : Int) := by unfold pl; omega
theorem dG {s r : List UInt8} (h : r <:+ s) : r.length <= s.length := h.length_le
theorem oU {s r : List UInt8} (h : r <:+ s) : s.drop (s.length - r.length) = r := by
 obtain ⟨p, rfl⟩ := h
 simp
theorem dH {s t : List UInt8} {c : UInt8} (h : c :: t <:+ s) : t <:+ s := (List.suffix_cons c t).trans h
theorem jU {s t : List UInt8} {c : UInt8} (h : c :: t <:+ s) : pl s t = pl s (c :: t) + 1 := by
 have := dG h
 simp only [List.length_cons] at this
 unfold pl
 simp only [List.length_cons]
 omega
theorem eg {s t : List UInt8} {c : UInt8} (h : c :: t <:+ s) : pl s (c :: t) < (s.length : Int) := by
 have := dG h
 simp only [List.length_cons] at this
 unfold pl
 simp only [List.length_cons]
 omega
theorem eo {s t : List UInt8} {c : UInt8} (h : c :: t <:+ s) : dJ (B s) (pl s (c :: t)) = (c.toNat : Int) := by
 unfold pl
 refine o5 ?_
 have := oU h
 exact (cN this).1
theorem fM {s t : List UInt8} {c : UInt8} (h : c :: t <:+ s) (hs : s.length <= 1000000) : IntKind.wrap .i64 (pl s (c :: t) + 1) = pl s t := by
 have h1 := dO (s := s) (r := c :: t)
 rw [jU h]
 exact wrap_i64 (by omega) (by omega)
theorem jB (s : List UInt8) : pl s s = 0 := by unfold pl; omega
theorem ik (s : List UInt8) : ((B s).size : Int) = (s.length : Int) := by rw [cg]
theorem il {c d : UInt8} (x : Int) (h : x = (d.toNat : Int)) (hn : c ≠ d) : ((c.toNat : Int) == x) = false := by rw [kG c d x h]; simpa using hn
theorem iR {c d : UInt8} (x : Int) (h : x = (d.toNat : Int)) (hn : c = d) : ((c.toNat : Int) == x) = true := by rw [kG c d x h]; simpa using hn
def jL : Nat -> List UInt8 -> List UInt8
 | _, [] => []
 | d, c :: t => if c = 92 then (match t with
   | [] => []
   | _ :: u => jL d u) else if c = 40 then jL (d + 1) t else if c = 41 then (if d = 1 then t else jL (d - 1) t) else jL d t
theorem kL : ∀ (n : Nat) (d : Nat) (r : List UInt8), r.length <= n -> jL d r <:+ r
 | _, d, [], _ => by rw [jL]; exact List.suffix_refl _
 | 0, d, c :: t, h => by simp at h
 | n + 1, d, c :: t, h => by
  simp only [List.length_cons, Nat.add_le_add_iff_right] at h
  rw [jL.eq_def]
  simp only
  split
  ·split
   ·exact List.nil_suffix
   ·rename_i u
    simp only [List.length_cons] at h
    exact ((kL n d u (by omega)).trans (List.suffix_cons _ _)).trans (List.suffix_cons _ _)
  ·split
   ·exact (kL n (d + 1) t h).trans (List.suffix_cons _ _)
   ·split
    ·split
     ·exact List.suffix_cons _ _
     ·exact (kL n (d - 1) t h).trans (List.suffix_cons _ _)
    ·exact (kL n d t h).trans (List.suffix_cons _ _)
theorem uH (d : Nat) (r : List UInt8) : jL d r <:+ r := kL _ d r (Nat.le_refl _)
theorem rh (d : Nat) (r : List UInt8) : (jL d r).length <= r.length := (uH d r).length_le
theorem yP (d : Nat) (x : UInt8) (u : List UInt8) : jL d (92 :: x :: u) = jL d u := by rw [jL.eq_def]; rfl
theorem vV (d : Nat) : jL d [92] = [] := by rw [jL.eq_def]; rfl
theorem yR (d : Nat) (t : List UInt8) : jL d (40 :: t) = jL (d + 1) t := by rw [jL.eq_def]; rfl
theorem yQ (d : Nat) (t : List UInt8) : jL d (41 :: t) = if d = 1 then t else jL (d - 1) t := by rw [jL.eq_def]; rfl
theorem yS (d : Nat) {c : UInt8} (t : List UInt8) (h1 : c ≠ 92) (h2 : c ≠ 40) (h3 : c ≠ 41) : jL d (c :: t) = jL d t := by rw [jL.eq_def]; simp [h1, h2, h3]
def cL : List UInt8 -> List UInt8
 | [] => []
 | c :: t => if c = 32 ∨ c = 9 then cL t else if c = 40 then cL (jL 1 t) else c :: t
termination_by l => l.length
decreasing_by
 all_goals simp_wf
 all_goals have := rh 1 t
 all_goals omega
theorem jJ : cL [] = [] := by rw [cL]
theorem nv {c : UInt8} (t : List UInt8) (h : c = 32 ∨ c = 9) : cL (c :: t) = cL t := by rw [cL, if_pos h]
theorem uC (t : List UInt8) : cL (40 :: t) = cL (jL 1 t) := by rw [cL, if_neg (by decide), if_pos rfl]
theorem uD {c : UInt8} (t : List UInt8) (h1 : c ≠ 32) (h2 : c ≠ 9) (h3 : c ≠ 40) : cL (c :: t) = c :: t := by rw [cL, if_neg (by simp [h1, h2]), if_neg h3]
theorem rb : ∀ (n : Nat) (r : List UInt8), r.length <= n -> cL r <:+ r
 | _, [], _ => by rw [jJ]; exact List.suffix_refl _
 | 0, c :: t, h => by simp at h
 | n + 1, c :: t, h => by
  simp only [List.length_cons, Nat.add_le_add_iff_right] at h
  by_cases h1 : c = 32 ∨ c = 9
  ·rw [nv t h1]; exact (rb n t h).trans (List.suffix_cons _ _)
  ·by_cases h2 : c = 40
   ·subst h2
    rw [uC]
    exact ((rb n (jL 1 t) (Nat.le_trans (rh 1 t) h)).trans (uH 1 t)).trans (List.suffix_cons _ _)
   ·rw [uD t (fun e => h1 (.inl e)) (fun e => h1 (.inr e)) h2]; exact List.suffix_refl _
theorem dv (r : List UInt8) : cL r <:+ r := rb _ r (Nat.le_refl _)
theorem DC (s r : List UInt8) (h : r <:+ s) (κ : Int -> BA -> Int -> Option R) : bn (B s) (pl s r) κ = κ (match r with | [] => 0 | c :: _ => (c.toNat : Int)) (B s) (pl s r) := by
 unfold bn bn.e
 cases r with
 | nil => rw [ik, du, ak (by omega)]
 | cons c t =>
  have h1 := eg h
  have h2 := dO (s := s) (r := c :: t)
  rw [ik, an h1, aw, ab h2.1, ab h1, eo h]
theorem iA (s : List UInt8) (hs : s.length <= 1000000) (κ : BA -> Int -> Option R) : ∀ (f d : Nat) (r : List UInt8), r <:+ s -> 1 <= d -> d + r.length <= 2000000 -> r.length + 1 < f -> aH.L1 κ f (d : Int) (B s) (pl s r) = κ (B s) (pl s (jL d r))
 | 0, d, r, _, _, _, hf => by omega
 | f + 1, d, r, h, hd, hdl, hf => by
  rw [aH.L1, aH.t1, ik]
  cases r with
  | nil => rw [du, ak (by omega), jL, du]
  | cons c t =>
   have h1 := eg h
   have h2 := dO (s := s) (r := c :: t)
   have ht := dH h
   simp only [List.length_cons] at hf hdl
   rw [an h1, aw, ab h2.1, ab h1, eo h, fM h hs]
   by_cases c1 : c = 92
   ·rw [iR 92 rfl c1, cond_true]
    subst c1
    cases t with
    | nil =>
     rw [vV, du]
     cases f with
     | zero => simp at hf
     | succ f =>
      have hw : IntKind.wrap .i64 ((s.length : Int) + 1) = (s.length : Int) + 1 := wrap_i64 (by omega) (by omega)
      rw [hw, aH.L1, aH.t1, ik, ak (by omega)]
    | cons x u =>
     simp only [List.length_cons] at hf hdl
     rw [fM ht hs, yP]
     exact iA s hs κ f d u (dH ht) hd (by omega) (by omega)
   ·rw [il 92 rfl c1, cond_false]
    by_cases c2 : c = 40
    ·subst c2
     rw [iR 40 rfl rfl, cond_true, yR, show IntKind.wrap .i64 ((d : Int) + 1) = ((d + 1 : Nat) : Int) from wrap_i64 (by omega) (by omega)]
     exact iA s hs κ f (d + 1) t ht (by omega) (by omega) (by omega)
    ·rw [il 40 rfl c2, cond_false]
     by_cases c3 : c = 41
     ·subst c3
      rw [iR 41 rfl rfl, cond_true, yQ, show IntKind.wrap .i64 ((d : Int) - 1) = ((d - 1 : Nat) : Int) by rw [wrap_i64 (by omega) (by omega)]; omega]
      by_cases c4 : d = 1
      ·rw [if_pos c4, fS (by omega), cond_true]
      ·rw [if_neg c4, fB (by omega), cond_false]
       exact iA s hs κ f (d - 1) t ht (by omega) (by omega) (by omega)
     ·rw [il 41 rfl c3, cond_false, yS d t c1 c2 c3]
      exact iA s hs κ f d t ht hd (by omega) (by omega)
theorem Ec (s t : List UInt8) (hs : s.length <= 1000000) (h : 40 :: t <:+ s) (κ : BA -> Int -> Option R) : aH (B s) (pl s (40 :: t)) κ = κ (B s) (pl s (jL 1 t)) := by
 have hl := dG h
 simp only [List.length_cons] at hl
 have key : ∀ f, 3000000 < f -> aH.e (B s) (pl s (40 :: t)) (aH.L1 κ (f + 1)) κ = κ (B s) (pl s (jL 1 t)) := by
  intro f hf
  have h1 := eg h
  have h2 := dO (s := s) (r := 40 :: t)
  unfold aH.e
  rw [aH.L1, aH.t1, ik, an h1, aw, ab h2.1, ab h1, eo h, fM h hs, il (d := 92) 92 rfl (by decide), cond_false, iR 40 rfl rfl, cond_true, show IntKind.wrap .i64 ((0 : Int) + 1) = ((1 : Nat) : Int) from wrap_i64 (by omega) (by omega)]
  exact iA s hs κ f 1 t (dH h) (by omega) (by omega) (by omega)
 exact key (ag - 1) (by unfold ag; omega)
theorem jP (s : List UInt8) (hs : s.length <= 1000000) (κ : BA -> Int -> Option R) : ∀ (f : Nat) (r : List UInt8), r <:+ s -> r.length < f -> af.L0 bn aH κ f (B s) (pl s r) = κ (B s) (pl s (cL r))
 | 0, r, _, hf => by omega
 | f + 1, r, h, hf => by
  rw [af.L0, af.t0, DC s r h]
  cases r with
  | nil => rw [jJ]; rfl
  | cons c t =>
   have ht := dH h
   simp only [List.length_cons] at hf
   by_cases c1 : c = 32
   ·rw [iR 32 rfl c1, cond_true, fM h hs, nv t (.inl c1)]
    exact jP s hs κ f t ht (by omega)
   ·rw [il 32 rfl c1, cond_false]
    by_cases c2 : c = 9
    ·rw [iR 9 rfl c2, cond_true, fM h hs, nv t (.inr c2)]
     exact jP s hs κ f t ht (by omega)
    ·rw [il 9 rfl c2, cond_false]
     by_cases c3 : c = 40
     ·subst c3
      have := rh 1 t
      rw [iR 40 rfl rfl, cond_true, Ec s t hs h, uC]
      exact jP s hs κ f (jL 1 t) ((uH 1 t).trans ht) (by omega)
     ·rw [il 40 rfl c3, cond_false, uD t c1 c2 c3]
theorem rC (s r : List UInt8) (hs : s.length <= 1000000) (h : r <:+ s) (κ : BA -> Int -> Option R) : af (B s) (pl s r) κ = κ (B s) (pl s (cL r)) := by
 have key : ∀ f, 1000000 < f -> af.e bn aH (B s) (pl s r) (af.L0 bn aH κ f) κ = κ (B s) (pl s (cL r)) :=
  fun f hf => jP s hs κ f r h (by have := dG h; omega)
 exact key ag (by unfold ag; omega)
theorem iB (s r : List UInt8) (d : UInt8) (hs : s.length <= 1000000) (h : r <:+ s) (κ : Bool -> BA -> Int -> Option R) : aj (B s) (pl s r) (d.toNat : Int) κ = (match r with
  | [] => κ false (B s) (pl s [])
  | c :: t => if c = d then κ true (B s) (pl s t) else κ false (B s) (pl s (c :: t))) := by
 unfold aj aj.e
 cases r with
 | nil => rw [ik, du, ak (by omega)]
 | cons c t =>
  have h1 := eg h
  have h2 := dO (s := s) (r := c :: t)
  rw [ik, an h1, aw, ab h2.1, ab h1, eo h, fM h hs, io]
  show _ = if c = d then κ true (B s) (pl s t) else κ false (B s) (pl s (c :: t))
  by_cases e : c = d
  ·subst e; simp
  ·rw [show (c == d) = false by simpa using e, if_neg e]; rfl
theorem zZ (κ : Int -> Option R) (f : Nat) (x0 : BA) (x1 : Int) : aG.L1 κ (f + 1) x0 x1 = aG.t1 (aG.L1 κ f) (aG.L7 κ f) κ x0 x1 := by
 try unfold aG.L1
 try unfold aG.L7
 rw [aG.M1]
theorem tK (κ : Int -> Option R) (f : Nat) (x0 : BA) (x1 x2 : Int) : aG.L7 κ (f + 1) x0 x1 x2 = aG.t7 (aG.L1 κ f) (aG.L7 κ f) x0 x1 x2 := by
 try unfold aG.L1
 try unfold aG.L7
 rw [aG.M1]
theorem mn (s : List UInt8) (hs : s.length <= 1000000) (κ : Int -> Option R) : ∀ (f : Nat),
  (∀ (r : List UInt8), r <:+ s -> 3 * r.length + 2 < f -> aG.L1 κ f (B s) (pl s r) = κ (pl s (cL r))) /\
  (∀ (d : Nat) (r : List UInt8), r <:+ s -> 1 <= d -> d + r.length <= 2000000 -> 3 * r.length + 3 < f -> aG.L7 κ f (B s) (pl s r) (d : Int) = κ (pl s (cL (jL d r))))
 | 0 => ⟨fun r _ h => by omega, fun d r _ _ _ h => by omega⟩
 | f + 1 => by
  obtain ⟨ih1, ih7⟩ := mn s hs κ f
  refine ⟨fun r h hf => ?_, fun d r h hd hdl hf => ?_⟩
  ·rw [zZ, aG.t1, ik]
   cases r with
   | nil => rw [du, ak (by omega), jJ, du]
   | cons c t =>
    have h1 := eg h
    have h2 := dO (s := s) (r := c :: t)
    have ht := dH h
    simp only [List.length_cons] at hf
    rw [an h1, aw, ab h2.1, ab h1, eo h, fM h hs, aw, ab h2.1, ab h1]
    by_cases c1 : c = 32
    ·rw [iR 32 rfl c1, cond_true, nv t (.inl c1)]
     exact ih1 t ht (by omega)
    ·rw [il 32 rfl c1, cond_false]
     by_cases c2 : c = 9
     ·rw [iR 9 rfl c2, cond_true, nv t (.inr c2)]
      exact ih1 t ht (by omega)
     ·rw [il 9 rfl c2, cond_false]
      rw [aw, ab h2.1, ab h1]
      unfold bne
      by_cases c3 : c = 40
      ·subst c3
       rw [iR 40 rfl rfl, Bool.not_true, cond_false, uC]
       cases f with
       | zero => omega
       | succ f =>
        have ih7' := (mn s hs κ f).2
        rw [tK, aG.t7, ik, an h1, aw, ab h2.1, ab h1, eo h, fM h hs, il (d := 92) 92 rfl (by decide), cond_false, iR 40 rfl rfl, cond_true, il (d := 41) 41 rfl (by decide), cond_false, show IntKind.wrap .i64 ((0 : Int) + 1) = ((1 : Nat) : Int) from wrap_i64 (by omega) (by omega)]
        have hl := dG h
        simp only [List.length_cons] at hl
        exact ih7' 1 t ht (by omega) (by omega) (by omega)
      ·rw [il 40 rfl c3, Bool.not_false, cond_true, uD t c1 c2 c3]
  ·rw [tK, aG.t7, ik]
   cases r with
   | nil =>
    rw [du, ak (by omega), jL]
    exact ih1 [] List.nil_suffix (by simp at hf ⊢; omega)
   | cons c t =>
    have h1 := eg h
    have h2 := dO (s := s) (r := c :: t)
    have ht := dH h
    simp only [List.length_cons] at hf hdl
    rw [an h1, aw, ab h2.1, ab h1, eo h, fM h hs]
    by_cases c1 : c = 92
    ·subst c1
     rw [iR 92 rfl rfl, cond_true]
     cases t with
     | nil =>
      rw [du, ak (by omega), il (d := 40) 40 rfl (by decide), cond_false, il (d := 41) 41 rfl (by decide), cond_false, vV]
      have := ih7 d [] List.nil_suffix hd (by simp; omega) (by simp at hf ⊢; omega)
      rw [jL, du] at this
      exact this
     | cons x u =>
      have h3 := eg ht
      rw [an h3, fM ht hs, yP]
      simp only [List.length_cons] at hf hdl
      exact ih7 d u (dH ht) hd (by omega) (by omega)
    ·rw [il 92 rfl c1, cond_false]
     by_cases c2 : c = 40
     ·subst c2
      rw [iR 40 rfl rfl, cond_true, il (d := 41) 41 rfl (by decide), cond_false, yR, show IntKind.wrap .i64 ((d : Int) + 1) = ((d + 1 : Nat) : Int) from wrap_i64 (by omega) (by omega)]
      exact ih7 (d + 1) t ht (by omega) (by omega) (by omega)
     ·rw [il 40 rfl c2, cond_false]
      by_cases c3 : c = 41
      ·subst c3
       rw [iR 41 rfl rfl, cond_true, yQ, show IntKind.wrap .i64 ((d : Int) - 1) = ((d - 1 : Nat) : Int) by rw [wrap_i64 (by omega) (by omega)]; omega]
       by_cases c4 : d = 1
       ·rw [if_pos c4, fS (by omega), cond_true]
        exact ih1 t ht (by omega)
       ·rw [if_neg c4, fB (by omega), cond_false]
        exact ih7 (d - 1) t ht (by omega) (by omega) (by omega)
      ·rw [il 41 rfl c3, cond_false, yS d t c1 c2 c3]
       exact ih7 d t ht hd (by omega) (by omega)
theorem m9 (s r : List UInt8) (hs : s.length <= 1000000) (h : r <:+ s) (κ : Int -> Option R) : aG (B s) (pl s r) κ = κ (pl s (cL r)) := by
 have key : ∀ f, 4000000 < f -> aG.e (B s) (pl s r) (aG.L1 κ f) (aG.L7 κ f) κ = κ (pl s (cL r)) :=
  fun f hf => (mn s hs κ f).1 r h (by have := dG h; omega)
 exact key ag (by unfold ag; omega)
theorem wx (l : List UInt8) (hs : l.length <= 1000000) (κ : BA -> Option R) : ∀ (f i : Nat), i <= l.length -> l.length < i + f -> aW.L3 κ f (B l) (i : Int) (dt (dI (l.take i))) = κ (B (dI l))
 | 0, i, h1, h2 => by omega
 | f + 1, i, h1, h2 => by
  rw [aW.L3, aW.t3, ik]
  cases hd : l.drop i with
  | nil =>
   have := drop_nil hd
   rw [ak (by omega), gQ, List.take_of_length_le (by omega)]
  | cons c t =>
   obtain ⟨g1, g2, _⟩ := cN hd
   have hw1 : IntKind.wrap .i64 ((i : Int) + 1) = ((i + 1 : Nat) : Int) := wrap_i64 (by omega) (by omega)
   have hlt := jK c
   have hl : (dt (dI (l.take i))).length <= 1000000 := by rw [iz, iC, List.length_take]; omega
   have hn : ∀ d : UInt8, d = o9 c -> dt (dI (l.take i)) ++ [AV.int (d.toNat : Int)] = dt (dI (l.take (i + 1))) := fun d e => by
    rw [gy, dy g1]
    unfold dI; rw [List.map_append, e]; rfl
   have ih := wx l hs κ f (i + 1) (by omega) (by omega)
   rw [an (by omega), aw, ab (by omega), ab (by omega), o5 g1, hw1, ab (by omega), ab (by omega)]
   by_cases h3 : 65 <= c.toNat
   ·rw [an (by omega)]
    by_cases h4 : c.toNat <= 90
    ·rw [an (by omega), wrap_u8 (by omega) (by omega), <- rG h3 h4, hn _ rfl]
     exact ih
    ·rw [ak (by omega), hn c (jQ (by omega)).symm]
     exact ih
   ·rw [ak (by omega), hn c (jQ (by omega)).symm]
    exact ih
theorem pX (l : List UInt8) (hs : l.length <= 1000000) (κ : BA -> Option R) : aW (B l) κ = κ (B (dI l)) := by
 have key : ∀ f, l.length < f -> aW.e (B l) (aW.L3 κ f) κ = κ (B (dI l)) := fun f h => wx l hs κ f 0 (by omega) (by omega)
 exact key ag (by unfold ag; omega)
def wH : List UInt8 := [40, 41, 60, 62, 64, 44, 59, 58, 92, 34, 47, 91, 93, 63, 61]
def uq (c : UInt8) : Bool := decide (32 < c.toNat) && (decide (c.toNat < 127) && !wH.any (· == c))
theorem CS (c : UInt8) : decide (Lib.indexByte wH c >= 0) = wH.any (· == c) := by
 have := w7 (p := fun c => decide (Lib.indexByte wH c >= 0) == wH.any (· == c)) (by kernel_rfl) c
 simpa using this
theorem xJ (c : UInt8) (hc : c.toNat < 127) (κ : Bool -> Option R) : aZ (B wH) (IntKind.wrap .i32 (c.toNat : Int)) κ = κ (wH.any (· == c)) := by
 have hw : IntKind.wrap .i32 (c.toNat : Int) = (c.toNat : Int) := by rw [IntKind.wrap_i32]; omega
 unfold aZ aZ.e b6 b6.e
 rw [hw, an (by omega), an (by omega), wrap_u8 (by omega) (by omega), C3]
 show κ (decide (Lib.indexByte wH c >= 0)) = _
 rw [CS]
def dz (r : List UInt8) : List UInt8 := r.takeWhile uq
def eO (r : List UInt8) : List UInt8 := r.dropWhile uq
theorem qK (r : List UInt8) : dz r ++ eO r = r := List.takeWhile_append_dropWhile
theorem eP (r : List UInt8) : eO r <:+ r := List.dropWhile_suffix _
theorem eM (r : List UInt8) : (dz r).length + (eO r).length = r.length := by
 have := congrArg List.length (qK r); simpa using this
theorem uf {c : UInt8} {t : List UInt8} (h : uq c = true) : dz (c :: t) = c :: dz t /\ eO (c :: t) = eO t := by unfold dz eO; simp [h]
theorem jE {c : UInt8} {t : List UInt8} (h : uq c = false) : dz (c :: t) = [] /\ eO (c :: t) = c :: t := by unfold dz eO; simp [h]
theorem v7 {s r0 w r : List UInt8} (h : r0 <:+ s) (e : r0 = w ++ r) : (B s).extract (pl s r0).toNat (pl s r).toNat = B w := by
 obtain ⟨p, rfl⟩ := h
 subst e
 rw [cU]
 congr 1
 unfold pl
 simp only [Int.toNat_natCast, List.length_append]
 rw [show p.length + (w.length + r.length) - r.length = p.length + w.length by omega, show p.length + (w.length + r.length) - (w.length + r.length) = p.length by omega]
 rw [<- List.append_assoc, List.take_append_of_le_length (by simp), List.take_of_length_le (by simp)]
 simp
theorem wL {s r0 r : List UInt8} (h : r.length <= r0.length) : pl s r0 <= pl s r := by unfold pl; omega
theorem p6 (s r0 : List UInt8) (hs : s.length <= 1000000) (h0 : r0 <:+ s) (κ : BA -> BA -> Int -> Option R) : ∀ (f : Nat) (w r : List UInt8), r0 = w ++ r -> r.length < f ->
  aq.L2 aZ κ f (pl s r0) (B s) (pl s r) = κ (B (w ++ dz r)) (B s) (pl s (eO r))
 | 0, w, r, _, hf => by omega
 | f + 1, w, r, e, hf => by
  have hr : r <:+ s := (by rw [e]; exact List.suffix_append _ _ : r <:+ r0).trans h0
  have hm : pl s r0 <= pl s r := wL (by rw [e]; simp)
  have fin : bB (decide ((0 : Int) <= pl s r0) && (decide (pl s r0 <= pl s r) && decide (pl s r <= ((B s).size : Int)))) (κ ((B s).extract (pl s r0).toNat (pl s r).toNat) (B s) (pl s r)) = κ (B w) (B s) (pl s r) := by
   rw [ik, aw, ab dO.1, aw, ab hm, ab dO.2, v7 h0 e]
  rw [aq.L2, aq.t2, fin, ik]
  cases r with
  | nil => rw [du, ak (by omega)]; show _ = κ (B (w ++ [])) _ (pl s []); rw [List.append_nil, du]
  | cons c t =>
   have h1 := eg hr
   have h2 := dO (s := s) (r := c :: t)
   simp only [List.length_cons] at hf
   rw [an h1, aw, ab h2.1, ab h1, eo hr, fM hr hs]
   by_cases g1 : 32 < c.toNat
   ·rw [an (by omega), aw, ab h2.1, ab h1]
    by_cases g2 : c.toNat < 127
    ·rw [an (by omega), aw, ab h2.1, ab h1]
     show aZ (B wH) _ _ = _
     rw [xJ c g2]
     cases g3 : wH.any (· == c) with
     | false =>
      have hk : uq c = true := by unfold uq; rw [decide_eq_true g1, decide_eq_true g2, g3]; rfl
      obtain ⟨q1, q2⟩ := uf (t := t) hk
      rw [q1, q2]
      have := p6 s r0 hs h0 κ f (w ++ [c]) t (by rw [e]; simp) (by omega)
      rw [List.append_assoc] at this
      exact this
     | true =>
      have hk : uq c = false := by unfold uq; rw [g3]; simp
      obtain ⟨q1, q2⟩ := jE (t := t) hk
      rw [q1, q2, List.append_nil]; rfl
    ·have hk : uq c = false := by unfold uq; rw [decide_eq_false g2]; simp
     obtain ⟨q1, q2⟩ := jE (t := t) hk
     rw [ak (by omega), q1, q2, List.append_nil]
   ·have hk : uq c = false := by unfold uq; rw [decide_eq_false g1]; simp
    obtain ⟨q1, q2⟩ := jE (t := t) hk
    rw [ak (by omega), q1, q2, List.append_nil]
theorem xL (s r : List UInt8) (hs : s.length <= 1000000) (h : r <:+ s) (κ : BA -> BA -> Int -> Option R) : aq (B s) (pl s r) κ = κ (B (dz r)) (B s) (pl s (eO r)) := by
 have key : ∀ f, 1000000 < f -> aq.e aZ (B s) (pl s r) (aq.L2 aZ κ f) κ = κ (B (dz r)) (B s) (pl s (eO r)) :=
  fun f hf => p6 s r hs h κ f [] r rfl (by have := dG h; omega)
 exact key ag (by unfold ag; omega)
theorem tQ (c : UInt8) (κ : Bool -> Option R) : ∀ (f i : Nat), i <= 15 -> 15 < i + f -> bq.L5 κ f (c.toNat : Int) (B wH) (i : Int) = κ (!((wH.drop i).any (· == c)))
 | 0, i, h1, h2 => by omega
 | f + 1, i, h1, h2 => by
  rw [bq.L5, bq.t5, ik]
  have hl : wH.length = 15 := rfl
  rw [hl]
  cases hd : wH.drop i with
  | nil =>
   have := drop_nil hd
   rw [ak (by omega)]; rfl
  | cons d t =>
   obtain ⟨g1, g2, g3⟩ := cN hd
   have hw1 : IntKind.wrap .i64 ((i : Int) + 1) = ((i + 1 : Nat) : Int) := wrap_i64 (by omega) (by omega)
   rw [an (by omega), aw, ab (by omega), ab (by omega), o5 g1, hw1, io, tQ c κ f (i + 1) (by omega) (by omega), g3, List.any_cons]
   cases d == c <;> rfl
theorem EZ (c : UInt8) (κ : Bool -> Option R) : bq (c.toNat : Int) κ = κ (uq c) := by
 have key : ∀ f, 15 < f -> bq.e (c.toNat : Int) (bq.L5 κ f) κ = κ (uq c) := by
  intro f hf
  unfold bq.e uq
  by_cases g1 : 32 < c.toNat
  ·rw [ak (by omega)]
   by_cases g2 : c.toNat < 127
   ·rw [ak (by omega), decide_eq_true g1, decide_eq_true g2]
    exact tQ c κ f 0 (by omega) (by omega)
   ·rw [an (by omega), decide_eq_false g2]; simp
  ·rw [an (by omega), decide_eq_false g1]; rfl
 exact key ag (by unfold ag; omega)
theorem qt (s r0 : List UInt8) (hs : s.length <= 1000000) (h0 : r0 <:+ s) (κ : BA -> Option R) : ∀ (f : Nat) (w r : List UInt8), r0 = w ++ r -> r.length < f ->
  aK.L2 bq κ f (B s) (pl s r0) (pl s r) = κ (B (w ++ dz r))
 | 0, w, r, _, hf => by omega
 | f + 1, w, r, e, hf => by
  have hr : r <:+ s := (by rw [e]; exact List.suffix_append _ _ : r <:+ r0).trans h0
  have hm : pl s r0 <= pl s r := wL (by rw [e]; simp)
  have fin : bB (decide ((0 : Int) <= pl s r0) && (decide (pl s r0 <= pl s r) && decide (pl s r <= ((B s).size : Int)))) (κ ((B s).extract (pl s r0).toNat (pl s r).toNat)) = κ (B w) := by
   rw [ik, aw, ab dO.1, aw, ab hm, ab dO.2, v7 h0 e]
  rw [aK.L2, aK.t2, fin, ik]
  cases r with
  | nil => rw [du, ak (by omega)]; show _ = κ (B (w ++ [])); rw [List.append_nil]
  | cons c t =>
   have h1 := eg hr
   have h2 := dO (s := s) (r := c :: t)
   simp only [List.length_cons] at hf
   rw [an h1, aw, ab h2.1, ab h1, eo hr, fM hr hs, EZ]
   cases hk : uq c with
   | true =>
    rw [cond_true, (uf (t := t) hk).1]
    have := qt s r0 hs h0 κ f (w ++ [c]) t (by rw [e]; simp) (by omega)
    rw [List.append_assoc] at this
    exact this
   | false => rw [cond_false, (jE (t := t) hk).1, List.append_nil]
theorem vB (s r : List UInt8) (hs : s.length <= 1000000) (h : r <:+ s) (κ : BA -> Option R) : aK (B s) (pl s r) κ = κ (B (dz r)) := by
 have key : ∀ f, 1000000 < f -> aK.e bq (B s) (pl s r) (aK.L2 bq κ f) κ = κ (B (dz r)) :=
  fun f hf => qt s r hs h κ f [] r rfl (by have := dG h; omega)
 exact key ag (by unfold ag; omega)
theorem kw (s r : List UInt8) (hs : s.length <= 1000000) (h : r <:+ s) (n : Nat) (hn : n = (dz r).length) : IntKind.wrap .i64 (pl s r + (n : Int)) = pl s (eO r) := by
 have h1 := eM r
 have h2 := dG h
 have e : pl s r + (n : Int) = pl s (eO r) := by unfold pl; omega
 rw [e]
 have := dO (s := s) (r := eO r)
 exact wrap_i64 (by omega) (by omega)
def qw : List UInt8 -> List UInt8 -> Option (List UInt8 × List UInt8)
 | _, [] => none
 | a, c :: t => if c = 34 then some (a, t) else if c = 92 then (match t with
   | [] => none
   | x :: u => qw (a ++ [x]) u) else qw (a ++ [c]) t
theorem zY : ∀ (n : Nat) (a r : List UInt8), r.length <= n -> ∀ v r', qw a r = some (v, r') -> r' <:+ r /\ v.length <= a.length + r.length
 | _, a, [], _, v, r', h => by rw [qw] at h; cases h
 | 0, a, c :: t, h, _, _, _ => by simp at h
 | n + 1, a, c :: t, hn, v, r', h => by
  simp only [List.length_cons, Nat.add_le_add_iff_right] at hn
  rw [qw.eq_def] at h
  simp only at h
  split at h
  ·cases h; exact ⟨List.suffix_cons _ _, by omega⟩
  ·split at h
   ·split at h
    ·cases h
    ·rename_i x u
     simp only [List.length_cons] at hn
     obtain ⟨g1, g2⟩ := zY n _ u (by omega) v r' h
     refine ⟨(g1.trans (List.suffix_cons _ _)).trans (List.suffix_cons _ _), ?_⟩
     simp only [List.length_append, List.length_cons, List.length_nil] at g2 ⊢; omega
   ·obtain ⟨g1, g2⟩ := zY n _ t hn v r' h
    refine ⟨g1.trans (List.suffix_cons _ _), ?_⟩
    simp only [List.length_append, List.length_cons, List.length_nil] at g2 ⊢; omega
def um (r : List UInt8) : Option (List UInt8 × List UInt8) :=
 match r with
 | [] => none
 | c :: t => if c = 34 then qw [] t else if dz (c :: t) = [] then none else some (dz (c :: t), eO (c :: t))
theorem C7 {r v r' : List UInt8} (h : um r = some (v, r')) : r' <:+ r /\ v.length <= r.length := by
 cases r with
 | nil => cases h
 | cons c t =>
  simp only [um] at h
  split at h
  ·obtain ⟨g1, g2⟩ := zY _ [] t (Nat.le_refl _) v r' h
   exact ⟨g1.trans (List.suffix_cons _ _), by simp at g2 ⊢; omega⟩
  ·split at h
   ·cases h
   ·cases h
    have := eM (c :: t)
    exact ⟨eP _, by omega⟩
theorem DU (s : List UInt8) (hs : s.length <= 1000000) (κ : BA -> Bool -> BA -> Int -> Option R) : ∀ (f : Nat) (a r : List UInt8), r <:+ s -> a.length + r.length <= 2000000 -> r.length < f ->
  bo.L5 aj aq aR aM κ f (B s) (pl s r) (dt a) = match qw a r with
   | some (v, r') => κ (B v) true (B s) (pl s r')
   | none => κ (B []) false (B s) (pl s [])
 | 0, a, r, _, _, hf => by omega
 | f + 1, a, r, h, ha, hf => by
  rw [bo.L5, bo.t5, ik, dK]
  cases r with
  | nil => rw [du, ak (by omega), qw]
  | cons c t =>
   have h1 := eg h
   have h2 := dO (s := s) (r := c :: t)
   have ht := dH h
   simp only [List.length_cons] at hf ha
   have hw : ∀ (d : UInt8) (κ : LA -> Option R), aM (dt a) (d.toNat : Int) κ = κ (dt (a ++ [d])) := fun d κ => by
    rw [At _ _ _ (by rw [iz]; omega), gy]
   rw [an h1, aw, ab h2.1, ab h1, eo h, fM h hs, qw.eq_def]
   by_cases c1 : c = 34
   ·rw [iR 34 rfl c1, cond_true, uv]; simp only [c1, if_true]
   ·rw [il 34 rfl c1, cond_false]
    simp only [c1, if_false]
    by_cases c2 : c = 92
    ·subst c2
     rw [iR 92 rfl rfl, cond_true]
     simp only [if_true]
     cases t with
     | nil =>
      rw [du, ak (by omega), hw]
      have := DU s hs κ f (a ++ [92]) [] List.nil_suffix (by simp; omega) (by simp at hf ⊢; omega)
      rw [qw, du] at this
      exact this
     | cons x u =>
      have h3 := eg ht
      have h4 := dO (s := s) (r := x :: u)
      rw [an h3, aw, ab h4.1, ab h3, eo ht, fM ht hs, hw]
      simp only [List.length_cons] at hf ha
      exact DU s hs κ f (a ++ [x]) u (dH ht) (by simp; omega) (by omega)
    ·rw [il 92 rfl c2, cond_false]
     simp only [c2, if_false]
     rw [hw]
     exact DU s hs κ f (a ++ [c]) t ht (by simp; omega) (by omega)
def Aw (r : List UInt8) : List UInt8 :=
 match r with
 | [] => []
 | c :: t => if c = 34 then [] else c :: t
theorem DF (s r : List UInt8) (hs : s.length <= 1000000) (h : r <:+ s) (κ : BA -> Bool -> BA -> Int -> Option R) : bo (B s) (pl s r) κ = match um r with
      | some (v, r') => κ (B v) true (B s) (pl s r')
      | none => κ (B []) false (B s) (pl s (Aw r)) := by
 have key : ∀ f, 1000000 < f -> bo.e aj aq aR aM (B s) (pl s r) (bo.L5 aj aq aR aM κ f) κ = match um r with
   | some (v, r') => κ (B v) true (B s) (pl s r')
   | none => κ (B []) false (B s) (pl s (Aw r)) := by
  intro f hf
  unfold bo.e
  have hl := dG h
  rw [show (34 : Int) = ((34 : UInt8).toNat : Int) from rfl, iB s r 34 hs h]
  cases r with
  | nil =>
   simp only [Bool.not_false, cond_true]
   rw [xL s [] hs h, dK]
   have : decide (B (dz []) = B []) = true := by simp [dz]
   rw [this]; rfl
  | cons c t =>
   have ht := dH h
   simp only [List.length_cons] at hl
   by_cases c1 : c = 34
   ·simp only [c1, if_true, Bool.not_true, cond_false, um, Aw]
    exact DU s hs κ f [] t ht (by simp; omega) (by omega)
   ·simp only [c1, if_false, Bool.not_false, cond_true, um, Aw]
    rw [xL s _ hs h, dK]
    by_cases c2 : dz (c :: t) = []
    ·rw [if_pos c2]
     have h3 := qK (c :: t)
     rw [c2, List.nil_append] at h3
     rw [h3, c2]; simp
    ·rw [if_neg c2]
     have : decide (B (dz (c :: t)) = B []) = false := decide_eq_false fun e => c2 (dQ.1 e)
     rw [this]; rfl
 exact key ag (by unfold ag; omega)
theorem DZ (s r0 : List UInt8) (hs : s.length <= 1000000) (κ : BA -> Int -> Bool -> Option R) : ∀ (f : Nat) (a r : List UInt8), r <:+ s -> a.length + r.length <= 2000000 -> r.length < f ->
  cr.L8 aK κ f (B s) (pl s r0) (pl s r) (dt a) = match qw a r with
   | some (v, r') => κ (B v) (pl s r') true
   | none => κ (B []) (pl s r0) false
 | 0, a, r, _, _, hf => by omega
 | f + 1, a, r, h, ha, hf => by
  rw [cr.L8, cr.t8, ik, dK]
  cases r with
  | nil => rw [du, ak (by omega), qw]
  | cons c t =>
   have h1 := eg h
   have h2 := dO (s := s) (r := c :: t)
   have ht := dH h
   simp only [List.length_cons] at hf ha
   have hil : (dt a).length <= 2000000 := by rw [iz]; omega
   rw [an h1, aw, ab h2.1, ab h1, eo h, fM h hs, qw.eq_def]
   by_cases c1 : c = 34
   ·rw [iR 34 rfl c1, cond_true, gQ]; simp only [c1, if_true]
   ·rw [il 34 rfl c1, cond_false, aw, ab h2.1, ab h1]
    simp only [c1, if_false]
    by_cases c2 : c = 92
    ·subst c2
     rw [iR 92 rfl rfl, cond_true]
     simp only [if_true]
     cases t with
     | nil =>
      rw [du, ak (by omega), aw, ab h2.1, ab h1, ab (by omega), gy]
      have := DZ s r0 hs κ f (a ++ [92]) [] List.nil_suffix (by simp; omega) (by simp at hf ⊢; omega)
      rw [qw, du] at this
      exact this
     | cons x u =>
      have h3 := eg ht
      have h4 := dO (s := s) (r := x :: u)
      rw [an h3, aw, ab h4.1, ab h3, eo ht, fM ht hs, ab (by omega), gy]
      simp only [List.length_cons] at hf ha
      exact DZ s r0 hs κ f (a ++ [x]) u (dH ht) (by simp; omega) (by omega)
    ·rw [il 92 rfl c2, cond_false, aw, ab h2.1, ab h1, ab (by omega), gy]
     simp only [c2, if_false]
     exact DZ s r0 hs κ f (a ++ [c]) t ht (by simp; omega) (by omega)
theorem B7 (s r : List UInt8) (hs : s.length <= 1000000) (h : r <:+ s) (κ : BA -> Int -> Bool -> Option R) : cr (B s) (pl s r) κ = match um r with
      | some (v, r') => κ (B v) (pl s r') true
      | none => κ (B []) (pl s r) false := by
 have key : ∀ f, 1000000 < f -> cr.e aK (B s) (pl s r) (cr.L8 aK κ f) κ = match um r with
   | some (v, r') => κ (B v) (pl s r') true
   | none => κ (B []) (pl s r) false := by
  intro f hf
  unfold cr.e
  have hl := dG h
  rw [vB s r hs h, dK, ik s]
  cases r with
  | nil =>
   have : decide (B (dz []) = B []) = true := by simp [dz]
   rw [this, Bool.not_true, cond_false, du, an (by omega)]; rfl
  | cons c t =>
   have ht := dH h
   have h1 := eg h
   have h2 := dO (s := s) (r := c :: t)
   simp only [List.length_cons] at hl
   by_cases c2 : dz (c :: t) = []
   ·have : decide (B (dz (c :: t)) = B []) = true := decide_eq_true (dQ.2 c2)
    rw [this, Bool.not_true, cond_false, ak (by omega), aw, ab h2.1, ab h1, eo h, fM h hs]
    unfold bne
    by_cases c1 : c = 34
    ·rw [iR 34 rfl c1, Bool.not_true, cond_false]
     simp only [um, c1, if_true]
     have := DZ s (c :: t) hs κ f [] t ht (by simp; omega) (by omega)
     rw [c1] at this
     exact this
    ·rw [il 34 rfl c1, Bool.not_false, cond_true]
     simp only [um, c1, if_false, c2, if_true]
   ·have hb : decide (B (dz (c :: t)) = B []) = false := decide_eq_false fun e => c2 (dQ.1 e)
    have c1 : c ≠ 34 := fun e => by
     subst e
     exact c2 (jE (t := t) (by decide)).1
    rw [hb, Bool.not_false, cond_true, kw s (c :: t) hs h _ (by rw [cg])]
    simp only [um, c1, if_false, c2]
 exact key ag (by unfold ag; omega)
abbrev Pm := List UInt8 × List UInt8
def bi (p : Pm) : AV := .agg [.str (B p.1), .str (B p.2)]
def AD (r : List UInt8) : Option (List UInt8 × List UInt8 × List UInt8) :=
 match cL r with
 | [] => none
 | c :: t => if c = 59 then (if dI (dz (cL t)) = [] then none else match cL (eO (cL t)) with
   | [] => none
   | c2 :: t2 => if c2 = 61 then (match um (cL t2) with
    | some (v, r') => some (dI (dz (cL t)), v, r')
    | none => none) else none) else none
theorem zV {r n v r' : List UInt8} (h : AD r = some (n, v, r')) : r' <:+ r /\ r'.length < r.length := by
 unfold AD at h
 have h0 := dv r
 split at h
 ·cases h
 ·rename_i c t e
  rw [e] at h0
  split at h
  ·split at h
   ·cases h
   ·split at h
    ·cases h
    ·rename_i c2 t2 e2
     split at h
     ·split at h
      ·rename_i v' r'' e3
       cases h
       obtain ⟨g1, g2⟩ := C7 e3
       have h1 : t2 <:+ t := by
        have := (dv (eO (cL t))).trans ((eP (cL t)).trans (dv t))
        rw [e2] at this
        exact (List.suffix_cons _ _).trans this
       have h2 : r' <:+ t := (g1.trans (dv t2)).trans h1
       have h3 := h0.length_le
       simp only [List.length_cons] at h3
       exact ⟨h2.trans ((List.suffix_cons _ _).trans h0), by have := h2.length_le; omega⟩
      ·cases h
     ·cases h
  ·cases h
theorem lq {l : List UInt8} : dI l = [] ↔ l = [] := by
 constructor
 ·intro h; have := congrArg List.length h; rw [iC] at this; exact List.eq_nil_of_length_eq_zero (by simpa using this)
 ·rintro rfl; rfl
theorem fp (l : List UInt8) : decide (B l = B []) = decide (l = []) := decide_eq_decide.2 dQ
theorem CK (s r : List UInt8) (hs : s.length <= 1000000) (h : r <:+ s) : match AD r with
  | some (n, v, r') => ∀ κ : BA -> BA -> Bool -> BA -> Int -> Option R, aQ (B s) (pl s r) κ = κ (B n) (B v) true (B s) (pl s r')
  | none => ∃ (n v : BA) (p : Int), ∀ κ : BA -> BA -> Bool -> BA -> Int -> Option R, aQ (B s) (pl s r) κ = κ n v false (B s) p := by
 have b1 := (dv r).trans h
 have step : ∀ κ : BA -> BA -> Bool -> BA -> Int -> Option R, aQ (B s) (pl s r) κ = aj (B s) (pl s (cL r)) 59 (fun r134 r135 r136 => (bif (!r134) then (κ (⟨#[]⟩ : BA) (⟨#[]⟩ : BA) false r135 r136) else (af r135 r136 (fun r137 r138 => (aq r137 r138 (fun r139 r140 r141 => (bw r139 (fun r142 => (af r140 r141 (fun r143 r144 => (bif (decide (r142 = (⟨#[]⟩ : BA))) then (κ (⟨#[]⟩ : BA) (⟨#[]⟩ : BA) false r143 r144) else (aj r143 r144 61 (fun r145 r146 r147 => (bif (!r145) then (κ (⟨#[]⟩ : BA) (⟨#[]⟩ : BA) false r146 r147) else (af r146 r147 (fun r148 r149 => (bo r148 r149 (fun r169 r170 r171 r172 => (κ r142 r169 r170 r171 r172))))))))))))))))))) := fun κ => by
  unfold aQ aQ.e
  rw [rC s r hs h]
 unfold AD
 cases e : cL r with
 | nil =>
  refine ⟨B [], B [], pl s [], fun κ => ?_⟩
  rw [step, e, show (59 : Int) = ((59 : UInt8).toNat : Int) from rfl, iB s [] 59 hs List.nil_suffix]
  rfl
 | cons c t =>
  rw [e] at b1
  have ht := dH b1
  by_cases c1 : c = 59
  ·have b2 := (dv t).trans ht
   have b3 := (eP (cL t)).trans b2
   have b4 := (dv (eO (cL t))).trans b3
   have hll : (dz (cL t)).length <= 1000000 := by have := eM (cL t); have := b2.length_le; omega
   have step2 : ∀ κ : BA -> BA -> Bool -> BA -> Int -> Option R, aQ (B s) (pl s r) κ = bif decide (dI (dz (cL t)) = []) then κ (B []) (B []) false (B s) (pl s (cL (eO (cL t)))) else (aj (B s) (pl s (cL (eO (cL t)))) 61 (fun r145 r146 r147 => (bif (!r145) then (κ (⟨#[]⟩ : BA) (⟨#[]⟩ : BA) false r146 r147) else (af r146 r147 (fun r148 r149 => (bo r148 r149 (fun r169 r170 r171 r172 => (κ (B (dI (dz (cL t)))) r169 r170 r171 r172)))))))) := fun κ => by
    rw [step, e, show (59 : Int) = ((59 : UInt8).toNat : Int) from rfl, iB s (c :: t) 59 hs b1]
    simp only [c1, if_true, Bool.not_true, cond_false]
    rw [rC s t hs ht, xL s _ hs b2, gB _ (by omega), rC s _ hs b3, dK, fp]
   simp only [c1, if_true]
   by_cases c2 : dI (dz (cL t)) = []
   ·rw [if_pos c2]
    exact ⟨B [], B [], _, fun κ => by rw [step2, decide_eq_true c2, cond_true]⟩
   ·rw [if_neg c2]
    cases e2 : cL (eO (cL t)) with
    | nil =>
     refine ⟨B [], B [], pl s [], fun κ => ?_⟩
     rw [step2, decide_eq_false c2, cond_false, e2, show (61 : Int) = ((61 : UInt8).toNat : Int) from rfl, iB s [] 61 hs List.nil_suffix]
     rfl
    | cons d u =>
     rw [e2] at b4
     have hu := dH b4
     by_cases c3 : d = 61
     ·simp only [c3, if_true]
      have b5 := (dv u).trans hu
      have step3 : ∀ κ : BA -> BA -> Bool -> BA -> Int -> Option R, aQ (B s) (pl s r) κ = match um (cL u) with
        | some (v, r') => κ (B (dI (dz (cL t)))) (B v) true (B s) (pl s r')
        | none => κ (B (dI (dz (cL t)))) (B []) false (B s) (pl s (Aw (cL u))) := fun κ => by
       rw [step2, decide_eq_false c2, cond_false, e2, show (61 : Int) = ((61 : UInt8).toNat : Int) from rfl, iB s (d :: u) 61 hs b4]
       simp only [c3, if_true, Bool.not_true, cond_false]
       rw [rC s u hs hu, DF s _ hs b5]
       try (cases um (cL u) <;> rfl)
      cases e3 : um (cL u) with
      | none => exact ⟨_, _, _, fun κ => by rw [step3, e3]⟩
      | some p => obtain ⟨v, r'⟩ := p; exact fun κ => by rw [step3, e3]
     ·simp only [c3, if_false]
      refine ⟨B [], B [], pl s (d :: u), fun κ => ?_⟩
      rw [step2, decide_eq_false c2, cond_false, e2, show (61 : Int) = ((61 : UInt8).toNat : Int) from rfl, iB s (d :: u) 61 hs b4]
      simp only [c3, if_false]
      rfl
  ·simp only [c1, if_false]
   refine ⟨B [], B [], pl s (c :: t), fun κ => ?_⟩
   rw [step, e, show (59 : Int) = ((59 : UInt8).toNat : Int) from rfl, iB s (c :: t) 59 hs b1]
   simp only [c1, if_false]
   rfl
def yr : Nat -> List Pm -> List UInt8 -> List Pm
 | 0, a, _ => a
 | n + 1, a, r => if a.length < 12 then (match AD r with
   | none => a
   | some (m, v, r') => yr n (if a.any (fun p => p.1 == m) then a else a ++ [(m, v)]) r') else a
def vv (r : List UInt8) : List Pm := yr (r.length + 1) [] r
theorem rI (a : BA) (x : AV) : m7 .str (.str a) x = decide (a = x.s) := rfl
theorem qc (a b : BA) (v : AV) : ∀ (l : LA), hH .str (.str a) (ga .str (.str b) v l) = if a = b then some v else hH .str (.str a) l
 | [] => by
  simp only [ga, hH, rI]
  show (bif decide (a = b) then some v else none) = _
  by_cases e : a = b <;> simp [e]
 | x :: l => by
  simp only [ga, rI]
  by_cases e : b = (x.fld 0).s
  ·rw [decide_eq_true e, cond_true]
   simp only [hH, rI]
   show (bif decide (a = b) then some v else hH .str (.str a) l) = _
   by_cases e2 : a = b
   ·simp [e2]
   ·rw [decide_eq_false e2, cond_false, if_neg e2, decide_eq_false (by rw [<- e]; exact e2), cond_false]
  ·rw [decide_eq_false e, cond_false]
   simp only [hH, rI]
   by_cases e2 : a = (x.fld 0).s
   ·rw [decide_eq_true e2, cond_true, cond_true, if_neg (fun e3 => e (by rw [<- e3]; exact e2))]
   ·rw [decide_eq_false e2, cond_false, cond_false]
    exact qc a b v l
theorem qe (a b : BA) (v : AV) (l : LA) : hI .str (.str a) (ga .str (.str b) v l) = if a = b then v else hI .str (.str a) l := by
 unfold hI; rw [qc]
 by_cases e : a = b <;> simp [e]
def Seen (k : Nat) (a : List Pm) (m : LA) : Prop := ∀ n : List UInt8, ∃ c : Nat, (hI .str (.str (B n)) m).i = (c : Int) /\ c <= k /\ (c = 0 ↔ ∀ p ∈ a, p.1 ≠ n)
theorem vt {a : List Pm} {n : List UInt8} : a.any (fun p => p.1 == n) = false ↔ ∀ p ∈ a, p.1 ≠ n := by
 rw [List.any_eq_false]
 constructor
 ·intro h p hp e; exact h p hp (by simp [e])
 ·intro h p hp; simpa using h p hp
theorem p4 (s : List UInt8) (hs : s.length <= 1000000) : ∀ (n f k : Nat) (a : List Pm) (r : List UInt8) (m : LA), r <:+ s -> r.length < n -> n < f -> k + n <= 2000000 -> Seen k a m -> ∃ p : Int, ∀ κ : LA -> BA -> Int -> Option R,
  aF.L3 aQ κ f (B s) (pl s r) (a.map bi) m = κ ((yr n a r).map bi) (B s) p
 | 0, f, k, a, r, m, _, hn, _, _, _ => by omega
 | n + 1, 0, k, a, r, m, _, _, hf, _, _ => by omega
 | n + 1, f + 1, k, a, r, m, h, hn, hf, hk, hm => by
  have hla : (a.map bi).length = a.length := List.length_map ..
  by_cases h12 : a.length < 12
  ·have hp := CK (R := R) s r hs h
   cases e : AD r with
   | none =>
    rw [e] at hp
    obtain ⟨x, v, p, hp⟩ := hp
    refine ⟨p, fun κ => ?_⟩
    rw [aF.L3, aF.t3, hla, an (by omega), hp, yr, if_pos h12, e]
    rfl
   | some q =>
    obtain ⟨x, v, r'⟩ := q
    rw [e] at hp
    replace hp : ∀ κ : BA -> BA -> Bool -> BA -> Int -> Option R, aQ (B s) (pl s r) κ = κ (B x) (B v) true (B s) (pl s r') := hp
    obtain ⟨g1, g2⟩ := zV e
    obtain ⟨c, hc, hck, hc0⟩ := hm x
    have hw : IntKind.wrap .i64 ((c : Int) + 1) = ((c + 1 : Nat) : Int) := wrap_i64 (by omega) (by omega)
    have hseen : Seen (k + 1) (if a.any (fun p => p.1 == x) then a else a ++ [(x, v)]) (ga .str (.str (B x)) (.int (((c + 1 : Nat) : Int))) m) := by
     intro y
     rw [qe]
     by_cases ey : y = x
     ·subst ey
      rw [if_pos rfl]
      refine ⟨c + 1, rfl, by omega, fun hz => by omega, fun hz => ?_⟩
      exfalso
      cases ha : a.any (fun p => p.1 == y) with
      | true =>
       rw [ha] at hz
       have := vt.2 hz
       rw [if_pos rfl, ha] at this; cases this
      | false =>
       rw [ha] at hz
       exact hz (y, v) (by simp) rfl
     ·rw [if_neg (fun e => ey (dQ.1 e))]
      obtain ⟨c', h1, h2, h3⟩ := hm y
      refine ⟨c', h1, by omega, h3.trans ?_⟩
      cases ha : a.any (fun p => p.1 == x) with
      | true => simp
      | false =>
       simp only [Bool.false_eq_true, if_false]
       constructor
       ·intro g p hp
        rcases List.mem_append.1 hp with hp | hp
        ·exact g p hp
        ·rw [List.mem_singleton] at hp; subst hp; exact fun e => ey e.symm
       ·exact fun g p hp => g p (List.mem_append.2 (.inl hp))
    obtain ⟨p, hih⟩ := p4 s hs n f (k + 1) _ r' _ (g1.trans h) (by omega) (by omega) (by omega) hseen
    refine ⟨p, fun κ => ?_⟩
    rw [aF.L3, aF.t3, hla, an (by omega), hp, yr, if_pos h12, e]
    simp only [Bool.not_true, cond_false]
    rw [hc, hw, qe, if_pos rfl]
    show (bif (((c + 1 : Nat) : Int) == 1) then _ else _) = _
    rw [<- hih κ]
    cases ha : a.any (fun p => p.1 == x) with
    | true =>
     have : c ≠ 0 := fun e0 => by have := vt.2 (hc0.1 e0); rw [ha] at this; cases this
     rw [fB (by omega), cond_false]; rfl
    | false =>
     have : c = 0 := hc0.2 (vt.1 ha)
     rw [fS (by omega), cond_true, ab (by omega)]
     simp only [Bool.false_eq_true, if_false, List.map_append, List.map_cons, List.map_nil]
     rfl
  ·refine ⟨pl s r, fun κ => ?_⟩
   rw [aF.L3, aF.t3, hla, ak (by omega), yr, if_neg h12]
theorem DD (s r : List UInt8) (hs : s.length <= 1000000) (h : r <:+ s) : ∃ p : Int, ∀ κ : LA -> BA -> Int -> Option R, aF (B s) (pl s r) κ = κ ((vv r).map bi) (B s) p := by
 have key : ∀ f, 1000002 < f -> ∃ p : Int, ∀ κ : LA -> BA -> Int -> Option R, aF.e aQ (B s) (pl s r) (aF.L3 aQ κ f) κ = κ ((vv r).map bi) (B s) p :=
  fun f hf => p4 s hs (r.length + 1) f 0 [] r [] h (by omega) (by have := dG h; omega) (by have := dG h; omega) (fun n => ⟨0, rfl, Nat.le_refl _, ⟨fun _ p hp => absurd hp (by simp), fun _ => rfl⟩⟩)
 exact key ag (by unfold ag; omega)
abbrev CW (κ : LA -> Option R) (f : Nat) := bb.L2 aG aK aW cr κ f
abbrev vA (κ : LA -> Option R) (f : Nat) := bb.w6 aG aK aW cr κ f
theorem z8 (κ : LA -> Option R) (f : Nat) (x0 : BA) (x1 : Int) (x2 : LA) : CW κ (f + 1) x0 x1 x2 = bb.t2 aG aK aW cr (vA κ f) κ x0 x1 x2 := by
 try unfold CW
 try unfold vA
 try unfold bb.L2
 try unfold bb.w6
 rw [bb.M2]
theorem xW (κ : LA -> Option R) (f : Nat) (x0 : BA) (x1 : Int) (x2 x3 : BA) (x4 : Bool) (x5 : Int) (x6 : LA) : vA κ (f + 1) x0 x1 x2 x3 x4 x5 x6 = bb.t17 (CW κ f) (vA κ f) x0 x1 x2 x3 x4 x5 x6 := by
 try unfold CW
 try unfold vA
 try unfold bb.L2
 try unfold bb.w6
 rw [bb.M2]
theorem wP (κ : LA -> Option R) (s : BA) (p : Int) (x v : List UInt8) (a : List Pm) (ha : a.length <= 12) (g : Nat) : ∀ (f i : Nat) (b : Bool), i <= a.length -> a.length < i + f -> b = (a.take i).any (fun p => p.1 == x) ->
  vA κ (f + g) s p (B x) (B v) b (i : Int) (a.map bi) = CW κ (g + (i + f - a.length - 1)) s p (((if a.any (fun p => p.1 == x) then a else a ++ [(x, v)])).map bi)
 | 0, i, b, h1, h2, _ => by omega
 | f + 1, i, b, h1, h2, hb => by
  have hla : (a.map bi).length = a.length := List.length_map ..
  have hw1 : IntKind.wrap .i64 ((i : Int) + 1) = ((i + 1 : Nat) : Int) := wrap_i64 (by omega) (by omega)
  rw [show f + 1 + g = (f + g) + 1 by omega, xW, bb.t17, hla, hw1]
  by_cases h : i < a.length
  ·have hg : a[i]? = some a[i] := List.getElem?_eq_getElem h
   have hr : bK (a.map bi) (i : Int) = bi a[i] := dU (by rw [List.getElem?_map, hg]; rfl)
   have hd : decide ((((bK (a.map bi) (i : Int)).fld 0).s) = B x) = (a[i].1 == x) := by
    rw [hr]
    show decide (B a[i].1 = B x) = _
    rw [Bool.eq_iff_iff, decide_eq_true_iff, dQ]; simp
   have hnext : (a.take (i + 1)).any (fun p => p.1 == x) = ((a.take i).any (fun p => p.1 == x) || (a[i].1 == x)) := by
    rw [dy hg, List.any_append]; simp
   rw [an (by omega), aw, ab (by omega), ab (by omega), hd]
   have ih1 := wP κ s p x v a ha g f (i + 1)
   have e : i + (f + 1) - a.length - 1 = i + 1 + f - a.length - 1 := by omega
   rw [e]
   cases b with
   | true => rw [cond_true]; exact ih1 true (by omega) (by omega) (by rw [hnext, <- hb]; rfl)
   | false => rw [cond_false]; exact ih1 _ (by omega) (by omega) (by rw [hnext, <- hb]; rfl)
  ·have hi : i = a.length := by omega
   subst hi
   rw [List.take_length] at hb
   rw [ak (by omega), hb, show g + (a.length + (f + 1) - a.length - 1) = f + g by omega]
   cases a.any (fun p => p.1 == x) with
   | true => rfl
   | false =>
    simp only [Bool.not_false, cond_true]
    rw [ab (by omega)]
    simp only [Bool.false_eq_true, if_false, List.map_append, List.map_cons, List.map_nil]
    rfl
theorem qs (s : List UInt8) (hs : s.length <= 1000000) (κ : LA -> Option R) : ∀ (n f : Nat) (a : List Pm) (r : List UInt8), r <:+ s -> r.length < n -> 20 * n < f -> a.length <= 12 ->
  CW κ f (B s) (pl s r) (a.map bi) = κ ((yr n a r).map bi)
 | 0, f, a, r, _, hn, _, _ => by omega
 | n + 1, 0, a, r, _, _, hf, _ => by omega
 | n + 1, f + 1, a, r, h, hn, hf, ha => by
  have hla : (a.map bi).length = a.length := List.length_map ..
  rw [z8, bb.t2, hla, yr]
  by_cases h12 : a.length < 12
  ·rw [if_pos h12, an (by omega), m9 s r hs h, ik, dK]
   have b1 := (dv r).trans h
   cases ep : AD r with
   | none =>
    unfold AD at ep
    cases e : cL r with
    | nil => rw [du, an (by omega)]
    | cons c t =>
     rw [e] at b1 ep
     have h1 := eg b1
     have h2 := dO (s := s) (r := c :: t)
     have ht := dH b1
     simp only at ep
     rw [ak (by omega), aw, ab h2.1, ab h1, eo b1, fM b1 hs]
     unfold bne
     by_cases c1 : c = 59
     ·rw [if_pos c1] at ep
      have b2 := (dv t).trans ht
      have b3 := (eP (cL t)).trans b2
      have b4 := (dv (eO (cL t))).trans b3
      have hll : (dz (cL t)).length <= 1000000 := by have := eM (cL t); have := b2.length_le; omega
      rw [iR 59 rfl c1, Bool.not_true, cond_false, m9 s t hs ht, vB s _ hs b2, pX _ hll, kw s _ hs b2 _ (by rw [cg, iC]), m9 s _ hs b3, fp]
      by_cases c2 : dI (dz (cL t)) = []
      ·rw [decide_eq_true c2, cond_true]
      ·rw [if_neg c2] at ep
       rw [decide_eq_false c2, cond_false]
       cases e2 : cL (eO (cL t)) with
       | nil => rw [du, an (by omega)]
       | cons d u =>
        rw [e2] at b4 ep
        have h3 := eg b4
        have h4 := dO (s := s) (r := d :: u)
        have hu := dH b4
        simp only at ep
        rw [ak (by omega), aw, ab h4.1, ab h3, eo b4, fM b4 hs]
        by_cases c3 : d = 61
        ·rw [if_pos c3] at ep
         have b5 := (dv u).trans hu
         rw [iR 61 rfl c3, Bool.not_true, cond_false, m9 s u hs hu, B7 s _ hs b5]
         cases e3 : um (cL u) with
         | none => rfl
         | some p => obtain ⟨v, r'⟩ := p; rw [e3] at ep; cases ep
        ·rw [il 61 rfl c3, Bool.not_false, cond_true]
     ·rw [il 59 rfl c1, Bool.not_false, cond_true]
   | some q =>
    obtain ⟨x, v, r'⟩ := q
    obtain ⟨g1, g2⟩ := zV ep
    unfold AD at ep
    cases e : cL r with
    | nil => rw [e] at ep; cases ep
    | cons c t =>
     rw [e] at b1 ep
     have h1 := eg b1
     have h2 := dO (s := s) (r := c :: t)
     have ht := dH b1
     simp only at ep
     rw [ak (by omega), aw, ab h2.1, ab h1, eo b1, fM b1 hs]
     unfold bne
     by_cases c1 : c = 59
     ·rw [if_pos c1] at ep
      have b2 := (dv t).trans ht
      have b3 := (eP (cL t)).trans b2
      have b4 := (dv (eO (cL t))).trans b3
      have hll : (dz (cL t)).length <= 1000000 := by have := eM (cL t); have := b2.length_le; omega
      rw [iR 59 rfl c1, Bool.not_true, cond_false, m9 s t hs ht, vB s _ hs b2, pX _ hll, kw s _ hs b2 _ (by rw [cg, iC]), m9 s _ hs b3, fp]
      by_cases c2 : dI (dz (cL t)) = []
      ·rw [if_pos c2] at ep; cases ep
      ·rw [if_neg c2] at ep
       rw [decide_eq_false c2, cond_false]
       cases e2 : cL (eO (cL t)) with
       | nil => rw [e2] at ep; cases ep
       | cons d u =>
        rw [e2] at b4 ep
        have h3 := eg b4
        have h4 := dO (s := s) (r := d :: u)
        have hu := dH b4
        simp only at ep
        rw [ak (by omega), aw, ab h4.1, ab h3, eo b4, fM b4 hs]
        by_cases c3 : d = 61
        ·rw [if_pos c3] at ep
         have b5 := (dv u).trans hu
         rw [iR 61 rfl c3, Bool.not_true, cond_false, m9 s u hs hu, B7 s _ hs b5]
         cases e3 : um (cL u) with
         | none => rw [e3] at ep; cases ep
         | some p =>
          obtain ⟨v', r''⟩ := p
          rw [e3] at ep
          cases ep
          simp only [Bool.not_true, cond_false]
          have hq := wP κ (B s) (pl s r') (dI (dz (cL t))) v a ha (f - 13) 13 0 false (by omega) (by omega) (by simp)
          rw [show 13 + (f - 13) = f by omega] at hq
          refine hq.trans ?_
          refine qs s hs κ n _ _ r' (g1.trans h) (by omega) (by omega) ?_
          split
          ·exact ha
          ·simp; omega
        ·rw [if_neg c3] at ep; cases ep
     ·rw [if_neg c1] at ep; cases ep
  ·rw [if_neg h12, ak (by omega)]
theorem CY (s r : List UInt8) (hs : s.length <= 1000000) (h : r <:+ s) (κ : LA -> Option R) : bb (B s) (pl s r) κ = κ ((vv r).map bi) := by
 have key : ∀ f, 30000000 < f -> bb.e aG aK aW cr (B s) (pl s r) (CW κ f) (vA κ f) κ = κ ((vv r).map bi) :=
  fun f hf => qs s hs κ (r.length + 1) f [] r h (by omega) (by have := dG h; omega) (by simp)
 exact key ag (by unfold ag; omega)
theorem B6 (v : List UInt8) (hs : v.length <= 1000000) (κ : Int -> Option R) : aG (B v) 0 κ = κ (pl v (cL v)) := by
 rw [<- jB v]; exact m9 v v hs (List.suffix_refl v) κ
theorem DA (v : List UInt8) (hs : v.length <= 1000000) (κ : BA -> Int -> Option R) : af (B v) 0 κ = κ (B v) (pl v (cL v)) := by
 rw [<- jB v]; exact rC v v hs (List.suffix_refl v) κ
def u9 (v : List UInt8) : Option (List UInt8 × List UInt8 × List UInt8) :=
 if dz (cL v) = [] then none else match cL (eO (cL v)) with
  | [] => none
  | c :: t => if c = 47 then (if dz (cL t) = [] then none else some (dI (dz (cL v)), dI (dz (cL t)), eO (cL t))) else none
theorem Dz {v a b r : List UInt8} (h : u9 v = some (a, b, r)) : r <:+ v := by
 unfold u9 at h
 split at h
 ·cases h
 ·have h0 := (dv (eO (cL v))).trans ((eP (cL v)).trans (dv v))
  split at h
  ·cases h
  ·rename_i c t e
   rw [e] at h0
   split at h
   ·split at h
    ·cases h
    ·cases h
     exact ((eP (cL t)).trans (dv t)).trans ((List.suffix_cons _ _).trans h0)
   ·cases h
theorem wB (l : List UInt8) : decide (B (dI l) = B []) = decide (l = []) := decide_eq_decide.2 (dQ.trans lq)
theorem DB (v : List UInt8) (hs : v.length <= 1000000) : match u9 v with
  | some (a, b, r) => ∀ κ : BA -> BA -> Bool -> BA -> Int -> Option R, aX (B v) 0 κ = κ (B a) (B b) true (B v) (pl v r)
  | none => ∃ (a b : BA) (p : Int), ∀ κ : BA -> BA -> Bool -> BA -> Int -> Option R, aX (B v) 0 κ = κ a b false (B v) p := by
 have b0 : v <:+ v := List.suffix_refl v
 have b1 := dv v
 have b2 := (eP (cL v)).trans b1
 have b3 := (dv (eO (cL v))).trans b2
 have hl1 : (dz (cL v)).length <= 1000000 := by have := eM (cL v); have := b1.length_le; omega
 have step : ∀ κ : BA -> BA -> Bool -> BA -> Int -> Option R, aX (B v) 0 κ = bif decide (dz (cL v) = []) then κ (B []) (B []) false (B v) (pl v (cL (eO (cL v)))) else aj (B v) (pl v (cL (eO (cL v)))) 47 (fun r118 r119 r120 => bif (!r118) then κ (⟨#[]⟩ : BA) (⟨#[]⟩ : BA) false r119 r120 else af r119 r120 (fun r121 r122 => aq r121 r122 (fun r123 r124 r125 => bw r123 (fun r126 => κ (B (dI (dz (cL v)))) r126 (!decide (r126 = (⟨#[]⟩ : BA))) r124 r125)))) := fun κ => by
  unfold aX aX.e
  rw [DA v hs, xL v _ hs b1, gB _ (by omega), rC v _ hs b2, dK, wB]
 unfold u9
 by_cases c1 : dz (cL v) = []
 ·rw [if_pos c1]
  exact ⟨B [], B [], _, fun κ => by rw [step, decide_eq_true c1, cond_true]⟩
 ·rw [if_neg c1]
  cases e : cL (eO (cL v)) with
  | nil =>
   refine ⟨B [], B [], pl v [], fun κ => ?_⟩
   rw [step, decide_eq_false c1, cond_false, e, show (47 : Int) = ((47 : UInt8).toNat : Int) from rfl, iB v [] 47 hs List.nil_suffix]
   rfl
  | cons c t =>
   rw [e] at b3
   have ht := dH b3
   by_cases c2 : c = 47
   ·simp only [c2, if_true]
    have b4 := (dv t).trans ht
    have hl2 : (dz (cL t)).length <= 1000000 := by have := eM (cL t); have := b4.length_le; omega
    have step2 : ∀ κ : BA -> BA -> Bool -> BA -> Int -> Option R, aX (B v) 0 κ = κ (B (dI (dz (cL v)))) (B (dI (dz (cL t)))) (!decide (dz (cL t) = [])) (B v) (pl v (eO (cL t))) := fun κ => by
     rw [step, decide_eq_false c1, cond_false, e, show (47 : Int) = ((47 : UInt8).toNat : Int) from rfl, iB v (c :: t) 47 hs b3]
     simp only [c2, if_true, Bool.not_true, cond_false]
     rw [rC v t hs ht, xL v _ hs b4, gB _ (by omega), dK, wB]
    by_cases c3 : dz (cL t) = []
    ·rw [if_pos c3]
     exact ⟨_, _, _, fun κ => by rw [step2, decide_eq_true c3]; rfl⟩
    ·rw [if_neg c3]
     exact fun κ => by rw [step2, decide_eq_false c3]; rfl
   ·simp only [c2, if_false]
    refine ⟨B [], B [], pl v (c :: t), fun κ => ?_⟩
    rw [step, decide_eq_false c1, cond_false, e, show (47 : Int) = ((47 : UInt8).toNat : Int) from rfl, iB v (c :: t) 47 hs b3]
    simp only [c2, if_false]
    rfl
def iD : List UInt8 := [109, 101, 115, 115, 97, 103, 101]
def mK : List UInt8 := [114, 102, 99, 56, 50, 50]
def mL : List UInt8 := [116, 101, 120, 116]
def DI : List UInt8 := [112, 108, 97, 105, 110]
def Et : List Pm := [([99, 104, 97, 114, 115, 101, 116], [117, 115, 45, 97, 115, 99, 105, 105])]
def u7 (v : List UInt8) (dg : Bool) : List UInt8 × List UInt8 × List Pm :=
 match u9 v with
 | some (a, b, r) => (a, b, vv r)
 | none => if dg then (iD, mK, []) else (mL, DI, Et)
theorem DN (v : List UInt8) (hs : v.length <= 1000000) (is dg : Bool) (his : is = false -> v = []) (κ : BA -> BA -> LA -> Option R) (κ1 : BA -> BA -> Option R) (hκ : ∀ a b, κ1 a b = κ a b []) :
  cR is (B v) dg κ κ1 = κ (B (u7 v dg).1) (B (u7 v dg).2.1) ((u7 v dg).2.2.map bi) := by
 have b0 : v <:+ v := List.suffix_refl v
 have b1 := dv v
 have b2 := (eP (cL v)).trans b1
 have b3 := (dv (eO (cL v))).trans b2
 have hl1 : (dz (cL v)).length <= 1000000 := by have := eM (cL v); have := b1.length_le; omega
 have dflt : u9 v = none -> (bif dg then κ1 (⟨#[109, 101, 115, 115, 97, 103, 101]⟩ : BA) (⟨#[114, 102, 99, 56, 50, 50]⟩ : BA) else κ (⟨#[116, 101, 120, 116]⟩ : BA) (⟨#[112, 108, 97, 105, 110]⟩ : BA) [AV.agg [AV.str (⟨#[99, 104, 97, 114, 115, 101, 116]⟩ : BA), AV.str (⟨#[117, 115, 45, 97, 115, 99, 105, 105]⟩ : BA)]]) = κ (B (u7 v dg).1) (B (u7 v dg).2.1) ((u7 v dg).2.2.map bi) := fun h => by
  unfold u7
  rw [h]
  cases dg with
  | true => rw [cond_true, hκ]; rfl
  | false => rfl
 unfold cR cR.e
 rw [B6 v hs, vB v _ hs b1, kw v _ hs b1 _ (by rw [cg]), m9 v _ hs b2, dK, fp, ik v]
 cases is with
 | false =>
  rw [cond_false]
  refine dflt ?_
  rw [his rfl]
  unfold u9
  rw [jJ]; rfl
 | true =>
  rw [cond_true]
  by_cases c1 : dz (cL v) = []
  ·rw [decide_eq_true c1, Bool.not_true, cond_false]
   exact dflt (by unfold u9; rw [if_pos c1])
  ·rw [decide_eq_false c1, Bool.not_false, cond_true]
   cases e : cL (eO (cL v)) with
   | nil =>
    rw [du, ak (by omega)]
    exact dflt (by unfold u9; rw [if_neg c1, e])
   | cons c t =>
    rw [e] at b3
    have ht := dH b3
    have h1 := eg b3
    have h2 := dO (s := v) (r := c :: t)
    rw [an h1, aw, ab h2.1, ab h1, eo b3, fM b3 hs]
    by_cases c2 : c = 47
    ·have b4 := (dv t).trans ht
     have b5 := (eP (cL t)).trans b4
     have hl2 : (dz (cL t)).length <= 1000000 := by have := eM (cL t); have := b4.length_le; omega
     rw [iR 47 rfl c2, cond_true, m9 v t hs ht, vB v _ hs b4, fp, kw v _ hs b4 _ (by rw [cg])]
     by_cases c3 : dz (cL t) = []
     ·rw [decide_eq_true c3, Bool.not_true, cond_false]
      refine dflt ?_
      unfold u9
      rw [if_neg c1, e]
      simp only [c2, if_true, c3]
     ·rw [decide_eq_false c3, Bool.not_false, cond_true, pX _ hl1, pX _ hl2, CY v _ hs b5]
      have : u9 v = some (dI (dz (cL v)), dI (dz (cL t)), eO (cL t)) := by
       unfold u9
       rw [if_neg c1, e]
       simp only [c2, if_true, c3, if_false]
      unfold u7
      rw [this]
    ·rw [il 47 rfl c2, cond_false]
     refine dflt ?_
     unfold u9
     rw [if_neg c1, e]
     simp only [c2, if_false]
def iw (v : List UInt8) : List UInt8 := dI (dz (cL v))
def se (v : List UInt8) : List UInt8 := eO (cL v)
theorem vc (s r : List UInt8) (hs : s.length <= 1000000) (h : r <:+ s) (κ : Bool -> BA -> BA -> Int -> Option R) : au (B s) (pl s r) κ = κ (!decide (iw r = [])) (B (iw r)) (B s) (pl s (se r)) := by
 have b1 := (dv r).trans h
 have hl1 : (dz (cL r)).length <= 1000000 := by have := eM (cL r); have := b1.length_le; omega
 unfold au au.e
 rw [rC s r hs h, xL s _ hs b1, gB _ (by omega), dK, fp]
 rfl
theorem oF (v : List UInt8) (hs : v.length <= 1000000) (is : Bool) (his : is = false -> v = []) (κ : Bool -> BA -> Int -> Option R) : cx is (B v) κ = if iw v = [] then κ false (B []) 0 else κ true (B (iw v)) (pl v (se v)) := by
 have b1 := dv v
 have hl1 : (dz (cL v)).length <= 1000000 := by have := eM (cL v); have := b1.length_le; omega
 unfold cx cx.e
 rw [B6 v hs, vB v _ hs b1, dK, fp]
 cases is with
 | false =>
  have e : iw v = [] := by rw [his rfl]; unfold iw; rw [jJ]; rfl
  rw [if_pos e]; rfl
 | true =>
  rw [Bool.not_true, cond_false]
  by_cases c1 : dz (cL v) = []
  ·rw [decide_eq_true c1, cond_true, if_pos (show iw v = [] from lq.2 c1)]
  ·rw [decide_eq_false c1, cond_false, if_neg (show ¬ iw v = [] from fun e => c1 (lq.1 e)), pX _ hl1, kw v _ hs b1 _ (by rw [cg])]
   rfl
def zJ : Nat -> List (List UInt8) -> List UInt8 -> List (List UInt8)
 | 0, a, _ => a
 | n + 1, a, r => if a.length < 12 then (if iw r = [] then a else match cL (se r) with
   | [] => a ++ [iw r]
   | c :: t => if c = 44 then zJ n (a ++ [iw r]) t else a ++ [iw r]) else a
def BR (r : List UInt8) : List (List UInt8) := zJ (r.length + 1) [] r
theorem wc (r : List UInt8) : cL (se r) <:+ r := (dv _).trans ((eP _).trans (dv r))
theorem sZ (s : List UInt8) (hs : s.length <= 1000000) : ∀ (n f : Nat) (a : List (List UInt8)) (r : List UInt8), r <:+ s -> r.length < n -> n < f -> ∃ p : Int, ∀ κ : LA -> BA -> Int -> Option R,
  aC.L2 au af aj κ f (B s) (pl s r) (bt a) = κ (bt (zJ n a r)) (B s) p
 | 0, f, a, r, _, hn, _ => by omega
 | n + 1, 0, a, r, _, _, hf => by omega
 | n + 1, 1, a, r, _, _, hf => by omega
 | n + 1, f + 1 + 1, a, r, h, hn, hf => by
  have hla := fw a
  have h8 : ∀ (l : LA) (b : BA) (p : Int) (κ : LA -> BA -> Int -> Option R), aC.L8 au af aj κ (f + 1) l b p = κ l b p := fun l b p κ => rfl
  have b1 := (wc r).trans h
  have b2 : se r <:+ s := ((eP _).trans (dv r)).trans h
  by_cases h12 : a.length < 12
  ·by_cases c1 : iw r = []
   ·refine ⟨pl s (se r), fun κ => ?_⟩
    rw [aC.L2, aC.t2, hla, an (by omega), vc s r hs h, zJ, if_pos h12, if_pos c1, decide_eq_true c1]
    simp only [Bool.not_true, Bool.not_false, cond_true]
    rw [h8]
   ·have hrow : bt a ++ [AV.str (B (iw r))] = bt (a ++ [iw r]) := by rw [fD]; rfl
    have step : ∀ κ : LA -> BA -> Int -> Option R, aC.L2 au af aj κ (f + 1 + 1) (B s) (pl s r) (bt a) = aj (B s) (pl s (cL (se r))) 44 (fun r284 r285 r286 => bif (!r284) then κ (bt (a ++ [iw r])) r285 r286 else aC.L2 au af aj κ (f + 1) r285 r286 (bt (a ++ [iw r]))) := fun κ => by
     rw [aC.L2, aC.t2, hla, an (by omega), vc s r hs h, decide_eq_false c1]
     simp only [Bool.not_true, Bool.not_false, cond_false]
     rw [ab (by omega), rC s _ hs b2, hrow]
     simp only [h8]
    have hl : zJ (n + 1) a r = match cL (se r) with
      | [] => a ++ [iw r]
      | c :: t => if c = 44 then zJ n (a ++ [iw r]) t else a ++ [iw r] := by rw [zJ, if_pos h12, if_neg c1]
    rw [hl]
    cases e : cL (se r) with
    | nil =>
     refine ⟨pl s [], fun κ => ?_⟩
     rw [step, e, show (44 : Int) = ((44 : UInt8).toNat : Int) from rfl, iB s [] 44 hs List.nil_suffix]; rfl
    | cons c t =>
     rw [e] at b1
     by_cases c2 : c = 44
     ·simp only [c2, if_true]
      have h3 := wc r
      rw [e] at h3
      have h4 := h3.length_le
      simp only [List.length_cons] at h4
      obtain ⟨p, hp⟩ := sZ s hs n (f + 1) (a ++ [iw r]) t (dH b1) (by omega) (by omega)
      refine ⟨p, fun κ => ?_⟩
      rw [step, e, show (44 : Int) = ((44 : UInt8).toNat : Int) from rfl, iB s (c :: t) 44 hs b1]
      simp only [c2, if_true, Bool.not_true, cond_false]
      exact hp κ
     ·simp only [c2, if_false]
      refine ⟨pl s (c :: t), fun κ => ?_⟩
      rw [step, e, show (44 : Int) = ((44 : UInt8).toNat : Int) from rfl, iB s (c :: t) 44 hs b1]
      simp only [c2, if_false]; rfl
  ·refine ⟨pl s r, fun κ => ?_⟩
   rw [aC.L2, aC.t2, hla, ak (by omega), zJ, if_neg h12, h8]
theorem EQ (v : List UInt8) (hs : v.length <= 1000000) : ∃ p : Int, ∀ κ : LA -> BA -> Int -> Option R, aC (B v) 0 κ = κ (bt (BR v)) (B v) p := by
 have key : ∀ f, 1000002 < f -> ∃ p : Int, ∀ κ : LA -> BA -> Int -> Option R, aC.e au af aj (B v) 0 (aC.L2 au af aj κ f) (aC.L8 au af aj κ f) κ = κ (bt (BR v)) (B v) p := by
  intro f hf
  have := sZ (R := R) v hs (v.length + 1) f [] v (List.suffix_refl v) (by omega) (by omega)
  rw [jB] at this
  exact this
 exact key ag (by unfold ag; omega)
theorem tO (s : List UInt8) (hs : s.length <= 1000000) (κ : LA -> Option R) : ∀ (n f : Nat) (a : List (List UInt8)) (r : List UInt8), r <:+ s -> r.length < n -> n < f ->
  b7.L3 aG aK aW κ f (pl s r) true (B s) (bt a) = κ (bt (zJ n a r))
 | 0, f, a, r, _, hn, _ => by omega
 | n + 1, 0, a, r, _, _, hf => by omega
 | n + 1, f + 1, a, r, h, hn, hf => by
  have hla := fw a
  have b0 := (dv r).trans h
  have b1 := (wc r).trans h
  have b2 : se r <:+ s := ((eP _).trans (dv r)).trans h
  have hl1 : (dz (cL r)).length <= 1000000 := by have := eM (cL r); have := b0.length_le; omega
  have hrow : bt a ++ [AV.str (B (iw r))] = bt (a ++ [iw r]) := by rw [fD]; rfl
  rw [b7.L3, b7.t3, cond_true, hla, zJ]
  by_cases h12 : a.length < 12
  ·rw [if_pos h12, an (by omega), m9 s r hs h, vB s _ hs b0, dK, fp, ik s]
   by_cases c1 : dz (cL r) = []
   ·rw [if_pos (show iw r = [] from lq.2 c1), decide_eq_true c1, cond_true]
   ·rw [if_neg (show ¬ iw r = [] from fun e => c1 (lq.1 e)), decide_eq_false c1, cond_false, pX _ hl1, ab (by omega), kw s _ hs b0 _ (by rw [cg])]
    show aG (B s) (pl s (se r)) _ = _
    rw [m9 s _ hs b2]
    show (bif decide (pl s (cL (se r)) >= (s.length : Int)) then κ (bt a ++ [AV.str (B (iw r))]) else _) = _
    rw [hrow]
    cases e : cL (se r) with
    | nil => rw [du, an (by omega)]
    | cons c t =>
     rw [e] at b1
     have h1 := eg b1
     have h2 := dO (s := s) (r := c :: t)
     have h3 := wc r
     rw [e] at h3
     have h4 := h3.length_le
     simp only [List.length_cons] at h4
     rw [ak (by omega), aw, ab h2.1, ab h1, eo b1, fM b1 hs]
     unfold bne
     by_cases c2 : c = 44
     ·rw [iR 44 rfl c2, Bool.not_true, cond_false]
      simp only [c2, if_true]
      have := tO s hs κ n f (a ++ [iw r]) t (dH b1) (by omega) (by omega)
      rw [<- hrow] at this
      exact this
     ·rw [il 44 rfl c2, Bool.not_false, cond_true]
      simp only [c2, if_false]
      rw [<- hrow]; rfl
  ·rw [if_neg h12, ak (by omega)]
theorem DY (v : List UInt8) (hs : v.length <= 1000000) (is : Bool) (his : is = false -> v = []) (κ : LA -> Option R) : b7 is (B v) κ = κ (bt (BR v)) := by
 have key : ∀ f, 1000002 < f -> b7.e aG aK aW is (B v) (b7.L3 aG aK aW κ f) κ = κ (bt (BR v)) := by
  intro f hf
  unfold b7.e
  cases is with
  | true =>
   have := tO v hs κ (v.length + 1) f [] v (List.suffix_refl v) (by omega) (by omega)
   rw [jB] at this
   exact this
  | false =>
   rw [his rfl]
   cases f with
   | zero => omega
   | succ f =>
    rw [b7.L3, b7.t3]
    unfold BR zJ iw
    rw [jJ]; rfl
 exact key ag (by unfold ag; omega)
theorem uh (κ : BA -> Option R) : ∀ (f : Nat) (l : List UInt8), l.length < f -> l.length <= 1000000 -> dc.L3 κ f (B l) = κ (B (fx cZ l))
 | 0, l, h, hs => by omega
 | f + 1, l, h, hs => by
  rw [dc.L3, dc.t3]
  simp only [cg]
  by_cases hl : l = []
  ·subst hl; rfl
  ·obtain ⟨t, c, rfl⟩ := kp hl
   have hlen : (t ++ [c]).length = t.length + 1 := by simp
   have hw : IntKind.wrap .i64 (((t ++ [c]).length : Int) - 1) = (t.length : Int) := by rw [hlen, wrap_i64 (by omega) (by omega)]; omega
   have hg : (t ++ [c])[t.length]? = some c := by simp
   simp only [hw]
   simp (disch := omega) only [an, aw, ab, o5 hg]
   have hx : (B (t ++ [c])).extract (0 : Int).toNat ((t.length : Int)).toNat = B t := by
    rw [cU, Int.toNat_zero, Int.toNat_natCast, List.drop_zero, List.take_left' rfl]
   rw [jb, hx, uh κ f t (by omega) (by omega)]
   unfold cZ
   by_cases c1 : c = 32
   ·rw [iR 32 rfl c1]; simp [c1]
   ·rw [il 32 rfl c1]
    by_cases c2 : c = 9
    ·rw [iR 9 rfl c2]; simp [c2]
    ·rw [il 9 rfl c2]; simp [c1, c2]
theorem ug (κ : BA -> Option R) : ∀ (f : Nat) (l : List UInt8), 2 * l.length + 2 < f -> l.length <= 1000000 -> dc.L1 κ f (B l) = κ (B (eF l))
 | 0, l, h, hs => by omega
 | f + 1, l, h, hs => by
  rw [dc.L1, dc.t1, uh κ f l (by omega) hs]
  simp only [cg]
  cases l with
  | nil => rfl
  | cons c r =>
   have hlen : (c :: r).length = r.length + 1 := rfl
   have hb : dJ (B (c :: r)) 0 = c.toNat := o5 (i := 0) rfl
   have hx : (B (c :: r)).extract (1 : Int).toNat (((c :: r).length : Int)).toNat = B r := by
    rw [cU, Int.toNat_natCast, List.take_length]; rfl
   simp (disch := omega) only [an, aw, ab, hb]
   rw [hx, ug κ f r (by omega) (by omega)]
   unfold eF
   rw [List.dropWhile_cons]
   unfold cZ
   by_cases c1 : c = 32
   ·rw [iR 32 rfl c1]; simp [c1]
   ·rw [il 32 rfl c1]
    by_cases c2 : c = 9
    ·rw [iR 9 rfl c2]; simp [c2]
    ·rw [il 9 rfl c2]; simp [c1, c2]
theorem ui (l : List UInt8) (hs : l.length <= 1000000) (κ : BA -> Option R) (f : Nat) (hf : 2 * l.length + 2 < f) :
  dc.e (B l) (dc.L1 κ f) (dc.L3 κ f) κ = κ (B (eF l)) := ug κ f l hf hs
theorem Ap (l : List UInt8) (hs : l.length <= 1000000) (κ : BA -> Option R) : dc (B l) κ = κ (B (eF l)) := ui l hs κ ag (by unfold ag; omega)
theorem vy (v : List UInt8) (hs : v.length <= 1000000) (is : Bool) (his : is = false -> v = []) (κ : Bool -> BA -> Option R) : cX is (B v) κ = κ is (B (eF v)) := by
 unfold cX cX.e
 cases is with
 | true => rw [Bool.not_true, cond_false, Ap v hs]
 | false => rw [his rfl]; rfl
theorem wi : ∀ (ls : List (List UInt8)) (cur : Option Fl) (N : Nat), (∀ x, cur = some x -> x.1.length <= N) -> total ls <= N -> ∀ x ∈ di cur ls, x.1.length <= N
 | [], none, N, h, h2, x, hx => by rw [di] at hx; cases hx
 | [], some y, N, h, h2, x, hx => by rw [di, List.mem_singleton] at hx; subst hx; exact h x rfl
 | c :: r, cur, N, h, h2, x, hx => by
  simp only [total] at h2
  have hfr : (fresh c).1.length <= N := by
   have := zS c
   unfold fresh
   cases fV c with
   | false => simp
   | true => show (gh c).length <= N; omega
  cases cur with
  | none =>
   have e : di none (c :: r) = di (some (fresh c)) r := rfl
   rw [e] at hx
   exact wi r _ N (by intro y e; cases e; exact hfr) (by omega) x hx
  | some y =>
   have e : di (some y) (c :: r) = bif cZ (c.headD 0) then di (some (ext y c)) r else y :: di (some (fresh c)) r := rfl
   rw [e] at hx
   cases hb : cZ (c.headD 0) with
   | true =>
    rw [hb, cond_true] at hx
    exact wi r _ N (by intro z e; cases e; exact h y rfl) (by omega) x hx
   | false =>
    rw [hb, cond_false] at hx
    rcases List.mem_cons.1 hx with h1 | h1
    ·rw [h1]; exact h y rfl
    ·exact wi r _ N (by intro z e; cases e; exact hfr) (by omega) x h1
theorem nO (c : List UInt8) : (fresh c).2.2 = c := by
 unfold fresh
 cases fV c <;> rfl
theorem rz : ∀ (ls : List (List UInt8)) (cur : Option Fl) (n : Nat), (∀ x, cur = some x -> x.2.2.length + total ls <= n) -> total ls <= n -> ∀ x ∈ di cur ls, x.2.2.length <= n
 | [], none, n, h, h2, x, hx => by rw [di] at hx; cases hx
 | [], some y, n, h, h2, x, hx => by
  rw [di, List.mem_singleton] at hx; subst hx
  have := h x rfl; simp only [total] at this; omega
 | c :: r, none, n, h, h2, x, hx => by
  rw [di] at hx
  refine rz r _ n ?_ (by simp only [total] at h2; omega) x hx
  intro y e; cases e
  simp only [total] at h2
  rw [nO]; omega
 | c :: r, some y, n, h, h2, x, hx => by
  have hy := h y rfl
  simp only [total] at h2 hy
  rw [di] at hx
  have hf := nO c
  cases hb : cZ (c.headD 0) with
  | true =>
   rw [hb, cond_true] at hx
   refine rz r _ n ?_ (by omega) x hx
   intro z e; cases e
   have : (ext y c).2.2.length = y.2.2.length + c.length := by unfold ext; simp
   omega
  | false =>
   rw [hb, cond_false, List.mem_cons] at hx
   rcases hx with rfl | hx
   ·omega
   ·refine rz r _ n ?_ (by omega) x hx
    intro z e; cases e; rw [hf]; omega
theorem Aq (l : List UInt8) : (eF l).length <= l.length := by
 have h1 := qz cZ (l.dropWhile cZ)
 have h2 := (List.dropWhile_suffix cZ (l := l)).length_le
 unfold eF; omega
def mE (h : List UInt8) : LA := (fT h).map gY
theorem rj (h : List UInt8) (hs : h.length <= 200000) : (mE h).length <= 64 /\ (∀ a ∈ mE h, Fit NB a) /\ ∀ a ∈ mE h, (a.fld 1).s.size <= 200000 := by
 have ht := js h
 refine ⟨by unfold mE; rw [List.length_map]; unfold fT; rw [List.length_take]; omega, fun a ha => ?_, fun a ha => ?_⟩
 all_goals
  obtain ⟨x, hx, rfl⟩ := List.mem_map.1 ha
  unfold fT at hx
  obtain ⟨y, hy, rfl⟩ := List.mem_map.1 (List.mem_of_mem_take hx)
  have hy := (List.mem_filter.1 hy).1
  have b1 := wi (ew h) none 200000 (by intro x e; cases e) (by omega) y hy
  have b2 := rz (ew h) none 200000 (by intro x e; cases e) (by omega) y hy
  have b3 := iy (ew h) none 200000 (by intro x e; cases e) (by omega) y hy
  have b4 := Aq y.2.1
 ·refine .agg _ fun b hb => ?_
  simp only [List.mem_cons, List.mem_nil_iff, or_false] at hb
  rcases hb with rfl | rfl | rfl
  ·exact .str _ (by rw [cg]; show y.1.length <= NB; unfold NB; omega)
  ·exact .str _ (by rw [cg]; show (eF y.2.1).length <= NB; unfold NB; omega)
  ·exact .str _ (by rw [cg]; show y.2.2.length <= NB; unfold NB; omega)
 ·rw [Dt, cg]; show (eF y.2.1).length <= 200000; omega
def gI (h : List UInt8) (n : BA) : Bool := (kn n (mE h)).isSome
def gV (h : List UInt8) (n : BA) : List UInt8 := bl ((kn n (mE h)).getD (B []))
theorem A' {h : List UInt8} {n : BA} (e : gI h n = false) : gV h n = [] := by
 unfold gI at e; unfold gV
 cases hg : kn n (mE h) with
 | none => rfl
 | some s => rw [hg] at e; cases e
theorem we {n : BA} : ∀ {l : LA} {s : BA}, kn n l = some s -> ∃ a ∈ l, s = (a.fld 1).s
 | [], _, h => by cases h
 | a :: r, s, h => by
  rw [kn] at h
  split at h
  ·cases h; exact ⟨a, by simp, rfl⟩
  ·obtain ⟨b, hb, e⟩ := we h; exact ⟨b, by simp [hb], e⟩
theorem lY {h : List UInt8} (hs : h.length <= 200000) (n : BA) : (gV h n).length <= 200000 := by
 unfold gV
 cases hg : kn n (mE h) with
 | none => simp [nu]
 | some s =>
  obtain ⟨a, ha, rfl⟩ := we hg
  have := (rj h hs).2.2 a ha
  rw [fi] at this
  exact this
theorem sY {h : List UInt8} (hs : h.length <= 200000) {n : BA} (hn : n.size <= NB) (κ : Bool -> BA -> Option R) : cG (mE h) n κ = κ (gI h n) (B (gV h n)) := by
 obtain ⟨h1, h2, _⟩ := rj h hs
 exact Bm n hn (mE h) (by omega) h2 κ
theorem oG (name : BA) (hn : name.size <= NB) (l : LA) (hl : l.length <= 1000000) (hf : ∀ a ∈ l, Fit NB a) (κ : Bool -> BA -> Option R) (x4 : Bool) (x5 : BA) : ∀ (f i : Nat), i <= l.length -> l.length < i + f ->
  dd.L2 dn κ f l name (i : Int) x4 x5 = xH κ (kn name (l.drop i))
 | 0, i, h1, h2 => by omega
 | f + 1, i, h1, h2 => by
  rw [dd.L2, dd.t2, dK]
  have hw1 : IntKind.wrap .i64 ((i : Int) + 1) = ((i + 1 : Nat) : Int) := wrap_i64 (by omega) (by omega)
  cases hd : l.drop i with
  | nil =>
   have := drop_nil hd
   rw [ak (by omega)]; rfl
  | cons a r =>
   obtain ⟨g1, g2, g3⟩ := cN hd
   have ha := hf a (List.mem_of_getElem? g1)
   rw [an (by omega), aw, ab (by omega), ab (by omega), Af hd, CZ _ _ (ha.fld 0).s hn, hw1, oG name hn l hl hf κ x4 x5 f (i + 1) (by omega) (by omega), g3, kn]
   by_cases e : dI (bl (a.fld 0).s) = dI (bl name)
   ·rw [decide_eq_true e, if_pos e, cond_true, aw, ab (by omega), ab (by omega)]; rfl
   ·rw [decide_eq_false e, if_neg e]; rfl
theorem xV (name : BA) (hn : name.size <= NB) (l : LA) (hl : l.length <= 1000000) (hf : ∀ a ∈ l, Fit NB a) (κ : Bool -> BA -> Option R) : dd l name κ = xH κ (kn name l) := by
 have key : ∀ f, l.length < f -> dd.e dn l name (dd.L2 dn κ f) κ = xH κ (kn name l) :=
  fun f h => oG name hn l hl hf κ _ _ f 0 (by omega) (by omega)
 exact key ag (by unfold ag; omega)
theorem iI {h : List UInt8} (hs : h.length <= 200000) {n : BA} (hn : n.size <= NB) (κ : Bool -> BA -> Option R) : dd (mE h) n κ = κ (gI h n) (B (gV h n)) := by
 obtain ⟨h1, h2, _⟩ := rj h hs
 exact xV n hn (mE h) (by omega) h2 κ
structure HdV where
 ty : List UInt8
 sub : List UInt8
 ps : List Pm
 i0 : Bool
 i1 : List UInt8
 a0 : Bool
 a1 : List UInt8
 c1 : List UInt8
 p1 : List UInt8
 pp : List Pm
 lg : List (List UInt8)
 w0 : Bool
 w1 : List UInt8
abbrev Dp (R : Type) : Type := BA -> BA -> BA -> LA -> Bool -> BA -> Bool -> BA -> Bool -> BA -> Bool -> BA -> LA -> LA -> Bool -> BA -> Int -> Int -> Int -> Int -> Int -> Option R
def cY (l : List UInt8) : Bool := !decide (l = [])
def xF (h : List UInt8) (dg : Bool) : HdV where
 ty := (u7 (gV h (⟨#[67, 111, 110, 116, 101, 110, 116, 45, 84, 121, 112, 101]⟩ : BA)) dg).1
 sub := (u7 (gV h (⟨#[67, 111, 110, 116, 101, 110, 116, 45, 84, 121, 112, 101]⟩ : BA)) dg).2.1
 ps := (u7 (gV h (⟨#[67, 111, 110, 116, 101, 110, 116, 45, 84, 121, 112, 101]⟩ : BA)) dg).2.2
 i0 := gI h (⟨#[67, 111, 110, 116, 101, 110, 116, 45, 73, 100]⟩ : BA)
 i1 := eF (gV h (⟨#[67, 111, 110, 116, 101, 110, 116, 45, 73, 100]⟩ : BA))
 a0 := gI h (⟨#[67, 111, 110, 116, 101, 110, 116, 45, 68, 101, 115, 99, 114, 105, 112, 116, 105, 111, 110]⟩ : BA)
 a1 := eF (gV h (⟨#[67, 111, 110, 116, 101, 110, 116, 45, 68, 101, 115, 99, 114, 105, 112, 116, 105, 111, 110]⟩ : BA))
 c1 := iw (gV h (⟨#[67, 111, 110, 116, 101, 110, 116, 45, 84, 114, 97, 110, 115, 102, 101, 114, 45, 69, 110, 99, 111, 100, 105, 110, 103]⟩ : BA))
 p1 := iw (gV h (⟨#[67, 111, 110, 116, 101, 110, 116, 45, 68, 105, 115, 112, 111, 115, 105, 116, 105, 111, 110]⟩ : BA))
 pp := if iw (gV h (⟨#[67, 111, 110, 116, 101, 110, 116, 45, 68, 105, 115, 112, 111, 115, 105, 116, 105, 111, 110]⟩ : BA)) = [] then [] else vv (se (gV h (⟨#[67, 111, 110, 116, 101, 110, 116, 45, 68, 105, 115, 112, 111, 115, 105, 116, 105, 111, 110]⟩ : BA)))
 lg := BR (gV h (⟨#[67, 111, 110, 116, 101, 110, 116, 45, 76, 97, 110, 103, 117, 97, 103, 101]⟩ : BA))
 w0 := gI h (⟨#[67, 111, 110, 116, 101, 110, 116, 45, 76, 111, 99, 97, 116, 105, 111, 110]⟩ : BA)
 w1 := eF (gV h (⟨#[67, 111, 110, 116, 101, 110, 116, 45, 76, 111, 99, 97, 116, 105, 111, 110]⟩ : BA))
def m0 (κ : Dp R) (p : BA) (v : HdV) (a b c d e : Int) : Option R :=
 κ p (B v.ty) (B v.sub) (v.ps.map bi) v.i0 (B v.i1) v.a0 (B v.a1) (cY v.c1) (B v.c1) (cY v.p1) (B v.p1) (v.pp.map bi) (bt v.lg) v.w0 (B v.w1) a b c d e
theorem va {h : List UInt8} (hs : h.length <= 200000) {n : BA} (hn : n.size <= NB) (κ : Bool -> BA -> Option R) : cQ (mE h) n κ = κ (gI h n) (B (eF (gV h n))) := by
 unfold cQ cQ.e
 have := lY hs n
 rw [sY hs hn, oN _ (by omega)]
theorem Du (v : List UInt8) (hs : v.length <= 1000000) (κ : Bool -> BA -> BA -> Int -> Option R) : au (B v) 0 κ = κ (cY (iw v)) (B (iw v)) (B v) (pl v (se v)) := by
 have := vc v v hs (List.suffix_refl v) κ
 rw [jB] at this
 exact this
theorem uN (v : List UInt8) : se v <:+ v := (eP _).trans (dv v)
theorem mu {h : List UInt8} (hs : h.length <= 200000) (ty sub : BA) (ps : LA) (p : BA) (a b c d e : Int) (κ : Dp R) (f : Nat) (k : Dp R)
  (hk : ∀ i0 i1 a0 a1 c0 c1 p0 p1 pp w0 w1, k p ty sub ps i0 i1 a0 a1 c0 c1 p0 p1 pp [] w0 w1 a b c d e = cW.mZ cG aX aF au cQ aC κ (f + 1) (mE h) p ty sub ps i0 i1 a0 a1 c0 c1 p0 p1 pp [] w0 w1 a b c d e) :
  cG (mE h) (⟨#[67, 111, 110, 116, 101, 110, 116, 45, 84, 114, 97, 110, 115, 102, 101, 114, 45, 69, 110, 99, 111, 100, 105, 110, 103]⟩ : BA) (fun r186 r187 => au r187 0 (fun r194 r195 r196 r197 => cQ (mE h) (⟨#[67, 111, 110, 116, 101, 110, 116, 45, 73, 100]⟩ : BA) (fun r201 r202 => cQ (mE h) (⟨#[67, 111, 110, 116, 101, 110, 116, 45, 68, 101, 115, 99, 114, 105, 112, 116, 105, 111, 110]⟩ : BA) (fun r203 r204 => cQ (mE h) (⟨#[67, 111, 110, 116, 101, 110, 116, 45, 76, 111, 99, 97, 116, 105, 111, 110]⟩ : BA) (fun r205 r206 => cG (mE h) (⟨#[67, 111, 110, 116, 101, 110, 116, 45, 68, 105, 115, 112, 111, 115, 105, 116, 105, 111, 110]⟩ : BA) (fun r207 r208 => au r208 0 (fun r209 r210 r211 r212 => bif r209 then aF r211 r212 (fun r213 r214 r215 => k p ty sub ps r201 r202 r203 r204 r194 r195 r209 r210 r213 [] r205 r206 a b c d e) else k p ty sub ps r201 r202 r203 r204 r194 r195 r209 r210 [] [] r205 r206 a b c d e)))))))
  = κ p ty sub ps (gI h (⟨#[67, 111, 110, 116, 101, 110, 116, 45, 73, 100]⟩ : BA)) (B (eF (gV h (⟨#[67, 111, 110, 116, 101, 110, 116, 45, 73, 100]⟩ : BA)))) (gI h (⟨#[67, 111, 110, 116, 101, 110, 116, 45, 68, 101, 115, 99, 114, 105, 112, 116, 105, 111, 110]⟩ : BA)) (B (eF (gV h (⟨#[67, 111, 110, 116, 101, 110, 116, 45, 68, 101, 115, 99, 114, 105, 112, 116, 105, 111, 110]⟩ : BA)))) (cY (iw (gV h (⟨#[67, 111, 110, 116, 101, 110, 116, 45, 84, 114, 97, 110, 115, 102, 101, 114, 45, 69, 110, 99, 111, 100, 105, 110, 103]⟩ : BA)))) (B (iw (gV h (⟨#[67, 111, 110, 116, 101, 110, 116, 45, 84, 114, 97, 110, 115, 102, 101, 114, 45, 69, 110, 99, 111, 100, 105, 110, 103]⟩ : BA)))) (cY (iw (gV h (⟨#[67, 111, 110, 116, 101, 110, 116, 45, 68, 105, 115, 112, 111, 115, 105, 116, 105, 111, 110]⟩ : BA)))) (B (iw (gV h (⟨#[67, 111, 110, 116, 101, 110, 116, 45, 68, 105, 115, 112, 111, 115, 105, 116, 105, 111, 110]⟩ : BA)))) ((if iw (gV h (⟨#[67, 111, 110, 116, 101, 110, 116, 45, 68, 105, 115, 112, 111, 115, 105, 116, 105, 111, 110]⟩ : BA)) = [] then [] else vv (se (gV h (⟨#[67, 111, 110, 116, 101, 110, 116, 45, 68, 105, 115, 112, 111, 115, 105, 116, 105, 111, 110]⟩ : BA)))).map bi) (bt (BR (gV h (⟨#[67, 111, 110, 116, 101, 110, 116, 45, 76, 97, 110, 103, 117, 97, 103, 101]⟩ : BA)))) (gI h (⟨#[67, 111, 110, 116, 101, 110, 116, 45, 76, 111, 99, 97, 116, 105, 111, 110]⟩ : BA)) (B (eF (gV h (⟨#[67, 111, 110, 116, 101, 110, 116, 45, 76, 111, 99, 97, 116, 105, 111, 110]⟩ : BA)))) a b c d e := by
 have l1 := lY hs (⟨#[67, 111, 110, 116, 101, 110, 116, 45, 84, 114, 97, 110, 115, 102, 101, 114, 45, 69, 110, 99, 111, 100, 105, 110, 103]⟩ : BA)
 have l2 := lY hs (⟨#[67, 111, 110, 116, 101, 110, 116, 45, 68, 105, 115, 112, 111, 115, 105, 116, 105, 111, 110]⟩ : BA)
 have l3 := lY hs (⟨#[67, 111, 110, 116, 101, 110, 116, 45, 76, 97, 110, 103, 117, 97, 103, 101]⟩ : BA)
 have fin : ∀ i0 i1 a0 a1 c0 c1 p0 p1 pp w0 w1, k p ty sub ps i0 i1 a0 a1 c0 c1 p0 p1 pp [] w0 w1 a b c d e = κ p ty sub ps i0 i1 a0 a1 c0 c1 p0 p1 pp (bt (BR (gV h (⟨#[67, 111, 110, 116, 101, 110, 116, 45, 76, 97, 110, 103, 117, 97, 103, 101]⟩ : BA)))) w0 w1 a b c d e := by
  intro i0 i1 a0 a1 c0 c1 p0 p1 pp w0 w1
  rw [hk, cW.mZ, cW.t15, sY hs (by decide)]
  obtain ⟨q, hq⟩ := EQ (R := R) (gV h (⟨#[67, 111, 110, 116, 101, 110, 116, 45, 76, 97, 110, 103, 117, 97, 103, 101]⟩ : BA)) (by omega)
  exact hq _
 rw [sY hs (by decide), Du _ (by omega), va hs (by decide), va hs (by decide), va hs (by decide), sY hs (by decide), Du _ (by omega)]
 unfold cY
 by_cases c1 : iw (gV h (⟨#[67, 111, 110, 116, 101, 110, 116, 45, 68, 105, 115, 112, 111, 115, 105, 116, 105, 111, 110]⟩ : BA)) = []
 ·rw [decide_eq_true c1, Bool.not_true, cond_false, fin, if_pos c1]; rfl
 ·rw [decide_eq_false c1, Bool.not_false, cond_true]
  obtain ⟨q, hq⟩ := DD (R := R) (gV h (⟨#[67, 111, 110, 116, 101, 110, 116, 45, 68, 105, 115, 112, 111, 115, 105, 116, 105, 111, 110]⟩ : BA)) (se (gV h (⟨#[67, 111, 110, 116, 101, 110, 116, 45, 68, 105, 115, 112, 111, 115, 105, 116, 105, 111, 110]⟩ : BA))) (by omega) (uN _)
  rw [hq, fin, if_neg c1]
theorem DE {h : List UInt8} (hs : h.length <= 200000) (p : BA) (s1 s2 : BA) (a b c d e : Int) (dg : Bool) (x1 x2 x3 x4 x5 : BA) (y1 y2 y3 y4 y5 : Bool) (κ : Dp R) :
  cW p s1 s2 y1 x1 y2 x2 y3 x3 y4 x4 y5 x5 a b c d e (mE h) dg κ = m0 κ p (xF h dg) a b c d e := by
 have l1 := lY hs (⟨#[67, 111, 110, 116, 101, 110, 116, 45, 84, 121, 112, 101]⟩ : BA)
 have key : ∀ f, cW.e cG aX aF au cQ aC p s1 s2 y1 x1 y2 x2 y3 x3 y4 x4 y5 x5 a b c d e (mE h) dg (cW.mZ cG aX aF au cQ aC κ (f + 1)) κ = m0 κ p (xF h dg) a b c d e := by
  intro f
  unfold cW.e
  rw [sY hs (by decide)]
  have hk := DB (R := R) (gV h (⟨#[67, 111, 110, 116, 101, 110, 116, 45, 84, 121, 112, 101]⟩ : BA)) (by omega)
  unfold m0 xF u7
  cases e1 : u9 (gV h (⟨#[67, 111, 110, 116, 101, 110, 116, 45, 84, 121, 112, 101]⟩ : BA)) with
  | none =>
   rw [e1] at hk
   obtain ⟨u, v, q, hk⟩ := hk
   rw [hk, cond_false]
   cases dg with
   | true =>
    rw [cond_true]
    exact mu hs _ _ [] p a b c d e κ f (cW.mZ cG aX aF au cQ aC κ (f + 1) (mE h)) (fun _ _ _ _ _ _ _ _ _ _ _ => rfl)
   | false =>
    rw [cond_false]
    exact mu hs _ _ _ p a b c d e κ f (cW.mZ cG aX aF au cQ aC κ (f + 1) (mE h)) (fun _ _ _ _ _ _ _ _ _ _ _ => rfl)
  | some q =>
   obtain ⟨t, u, r⟩ := q
   rw [e1] at hk
   replace hk : ∀ κ : BA -> BA -> Bool -> BA -> Int -> Option R, aX (B (gV h (⟨#[67, 111, 110, 116, 101, 110, 116, 45, 84, 121, 112, 101]⟩ : BA))) 0 κ = κ (B t) (B u) true (B (gV h (⟨#[67, 111, 110, 116, 101, 110, 116, 45, 84, 121, 112, 101]⟩ : BA))) (pl (gV h (⟨#[67, 111, 110, 116, 101, 110, 116, 45, 84, 121, 112, 101]⟩ : BA)) r) := hk
   obtain ⟨q2, hq2⟩ := DD (R := R) (gV h (⟨#[67, 111, 110, 116, 101, 110, 116, 45, 84, 121, 112, 101]⟩ : BA)) r (by omega) (Dz e1)
   rw [hk, cond_true, hq2]
   exact mu hs _ _ _ p a b c d e κ f (cW.mZ cG aX aF au cQ aC κ (f + 1) (mE h)) (fun _ _ _ _ _ _ _ _ _ _ _ => rfl)
 exact key (ag - 1)
def eV : List UInt8 -> List UInt8 × Option (List UInt8)
 | [] => ([], none)
 | c :: t => if c = 13 /\ t.head? = some 10 then ([], some t.tail) else (c :: (eV t).1, (eV t).2)
def gq (r : List UInt8) : List UInt8 := (eV r).2.getD []
theorem fJ (t : List UInt8) : eV (13 :: 10 :: t) = ([], some t) := by rw [eV, if_pos ⟨rfl, rfl⟩]; rfl
theorem eW {c : UInt8} {t : List UInt8} (h : ¬ (c = 13 /\ t.head? = some 10)) : eV (c :: t) = (c :: (eV t).1, (eV t).2) := by rw [eV, if_neg h]
theorem l9 {t : List UInt8} (h : t.head? = some 10) : t = 10 :: t.tail := by
 cases t with
 | nil => cases h
 | cons c u => simp at h; rw [h]; rfl
theorem jx : ∀ {r u : List UInt8}, (eV r).2 = some u -> r = (eV r).1 ++ 13 :: 10 :: u
 | [], u, h => by cases h
 | c :: t, u, h => by
  by_cases e : c = 13 /\ t.head? = some 10
  ·obtain ⟨rfl, e2⟩ := e
   rw [l9 e2, fJ] at h ⊢
   cases h; rfl
  ·rw [eW e] at h ⊢
   have := jx h
   simp only [List.cons_append]
   rw [<- this]
theorem lp : ∀ {r : List UInt8}, (eV r).2 = none -> r = (eV r).1
 | [], _ => rfl
 | c :: t, h => by
  by_cases e : c = 13 /\ t.head? = some 10
  ·obtain ⟨rfl, e2⟩ := e
   rw [l9 e2, fJ] at h; cases h
  ·rw [eW e] at h ⊢
   simp only
   rw [<- lp h]
theorem vu (c : UInt8) (t : List UInt8) : ([13, 10] : List UInt8).isPrefixOf (c :: t) = decide (c = 13 /\ t.head? = some 10) := by
 cases t with
 | nil => simp [List.isPrefixOf]
 | cons d u =>
  simp only [List.isPrefixOf, List.head?_cons, Option.some.injEq, Bool.and_true]
  rw [Bool.eq_iff_iff]
  simp only [Bool.and_eq_true, beq_iff_eq, decide_eq_true_eq]
  constructor
  ·rintro ⟨rfl, rfl⟩; exact ⟨rfl, rfl⟩
  ·rintro ⟨rfl, rfl⟩; exact ⟨rfl, rfl⟩
theorem mf : ∀ (r : List UInt8), Lib.index r [13, 10] = match (eV r).2 with
  | some _ => ((eV r).1.length : Int)
  | none => -1
 | [] => by rfl
 | c :: t => by
  rw [fm, vu, mf t]
  by_cases e : c = 13 /\ t.head? = some 10
  ·rw [if_pos (by simpa using e)]
   obtain ⟨rfl, e2⟩ := e
   rw [l9 e2, fJ]; rfl
  ·rw [if_neg (by simpa using e), eW e]
   simp only
   cases h : (eV t).2 with
   | none => rfl
   | some u =>
    simp only [List.length_cons]
    rw [if_neg (by simp)]; omega
theorem oq : ∀ (r : List UInt8), gq r <:+ r
 | [] => List.suffix_refl _
 | c :: t => by
  unfold gq
  by_cases e : c = 13 /\ t.head? = some 10
  ·obtain ⟨rfl, e2⟩ := e
   rw [l9 e2, fJ]
   exact (List.suffix_cons _ _).trans (List.suffix_cons _ _)
  ·rw [eW e]
   exact (oq t).trans (List.suffix_cons _ _)
theorem oo (c : UInt8) (t : List UInt8) : (gq (c :: t)).length <= t.length := by
 unfold gq
 by_cases e : c = 13 /\ t.head? = some 10
 ·obtain ⟨rfl, e2⟩ := e
  rw [l9 e2, fJ]; simp
 ·rw [eW e]
  exact (oq t).length_le
theorem Bo (r : List UInt8) : (eV r).1.length <= r.length := by
 cases h : (eV r).2 with
 | none => have := lp h; rw [<- this]; exact Nat.le_refl _
 | some u => have := congrArg List.length (jx h); simp only [List.length_append, List.length_cons] at this; omega
theorem wA (r : List UInt8) : r.take (eV r).1.length = (eV r).1 := by
 cases h : (eV r).2 with
 | none => have := lp h; rw [<- this]; simp
 | some u => have := jx h; conv => lhs; arg 2; rw [this]
             simp
def eJ : List UInt8 -> Bool
 | [] => false
 | c :: t => (c == 13 && t.head? == some 10) || eJ t
theorem sP : ∀ (r : List UInt8), eJ (eV r).1 = false
 | [] => rfl
 | c :: t => by
  by_cases e : c = 13 /\ t.head? = some 10
  ·obtain ⟨rfl, e2⟩ := e
   rw [l9 e2, fJ]; rfl
  ·rw [eW e]
   simp only
   unfold eJ
   rw [sP t, Bool.or_false, Bool.and_eq_false_iff]
   by_cases e1 : c = 13
   ·right
    have e2 : t.head? ≠ some 10 := fun h => e ⟨e1, h⟩
    cases t with
    | nil => rfl
    | cons d u =>
     by_cases e3 : d = 13 /\ u.head? = some 10
     ·obtain ⟨rfl, e4⟩ := e3
      rw [l9 e4, fJ]; rfl
     ·rw [eW e3]
      simpa using e2
   ·left; simpa using e1
theorem sO : ∀ {a b : List UInt8}, eJ (a ++ b) = false -> eJ a = false /\ eJ b = false
 | [], b, h => ⟨rfl, h⟩
 | c :: t, b, h => by
  rw [List.cons_append, eJ, Bool.or_eq_false_iff] at h
  obtain ⟨h1, h2⟩ := sO h.2
  refine ⟨?_, h2⟩
  rw [eJ, h1, Bool.or_false]
  cases t with
  | nil => simp
  | cons d u => exact h.1
theorem om : ∀ {w t : List UInt8}, eJ w = false -> ¬ (w.getLast? = some 13 /\ t.head? = some 10) -> eV (w ++ t) = (w ++ (eV t).1, (eV t).2)
 | [], t, _, _ => rfl
 | c :: w, t, h, h2 => by
  rw [eJ, Bool.or_eq_false_iff] at h
  have e : ¬ (c = 13 /\ (w ++ t).head? = some 10) := by
   rintro ⟨rfl, e⟩
   cases w with
   | nil => exact h2 ⟨rfl, e⟩
   | cons d u =>
    simp at e h
    exact h.1 e
  rw [List.cons_append, eW e, om h.2 (fun x => h2 ⟨by
   have := x.1
   cases w with
   | nil => simp at this
   | cons d u => rw [List.getLast?_cons_cons]; exact this, x.2⟩)]
  rfl
theorem tv : ∀ {w t : List UInt8}, eJ w = false -> w.getLast? = some 13 -> t.head? = some 10 -> (eV (w ++ t)).1.length < w.length
 | [], t, _, h, _ => by cases h
 | c :: w, t, h, h1, h2 => by
  rw [eJ, Bool.or_eq_false_iff] at h
  cases w with
  | nil =>
   simp at h1
   rw [h1, l9 h2, List.singleton_append, fJ]; simp
  | cons d u =>
   rw [List.getLast?_cons_cons] at h1
   have := tv h.2 h1 h2
   have e : ¬ (c = 13 /\ (d :: u ++ t).head? = some 10) := by
    rintro ⟨rfl, e⟩
    simp at e h
    exact h.1 e
   rw [List.cons_append, eW e]
   simp only [List.length_cons] at this ⊢
   omega
def jj (l : List UInt8) : Bool := l.all cZ
def ns (b l : List UInt8) : Option Bool :=
 if (45 :: 45 :: b).isPrefixOf l then
  (if ([45, 45] : List UInt8).isPrefixOf (l.drop (b.length + 2)) then (if jj (l.drop (b.length + 2 + 2)) then some true else none)
   else (if jj (l.drop (b.length + 2)) then some false else none))
 else none
def o0 (l : List UInt8) : Bool := ([45, 45] : List UInt8).isPrefixOf l
theorem qM (l : List UInt8) : (eF l = []) ↔ jj l = true := by
 unfold eF jj
 rw [List.all_eq_true]
 constructor
 ·intro h
  cases hd : l.dropWhile cZ with
  | nil => exact nJ.1 hd
  | cons c t =>
   have hc : cZ c = false := by
    have := List.head?_dropWhile_not cZ l
    rw [hd] at this; simpa using this
   rw [hd] at h
   obtain ⟨e, he⟩ := oM (p := cZ) t hc
   rw [he] at h; cases h
 ·intro h
  rw [nJ.2 h]; rfl
theorem yW (l p : List UInt8) (κ : BA -> Bool -> Option R) : ci (B l) (B p) κ = if p.isPrefixOf l then κ (B (l.drop p.length)) true else κ (B l) false := by
 unfold ci ci.e cu cu.e
 have := n4 (R := R) l p
 unfold aV aV.e at this
 rw [this]
 cases h : p.isPrefixOf l with
 | false => rfl
 | true =>
  have h2 : p.length <= l.length := (List.isPrefixOf_iff_prefix.1 h).length_le
  rw [cg, cg, Bool.not_true, cond_false, aw, ab (by omega), aw, ab (by omega), ab (by omega), Int.toNat_natCast, Int.toNat_natCast, cU, List.take_length]
  rfl
theorem A3 (l : List UInt8) : decide (B l = B []) = decide (l = []) := decide_eq_decide.2 dQ
theorem EO (b l : List UInt8) (hb : b.length <= 1000000) (hl : l.length <= 1000000) : match ns b l with
  | some k => ∀ κ : Bool -> Bool -> Option R, cw (B l) (B b) κ = κ true k
  | none => ∃ k, ∀ κ : Bool -> Bool -> Option R, cw (B l) (B b) κ = κ false k := by
 have st : ∀ κ : Bool -> Bool -> Option R, cw (B l) (B b) κ = if (45 :: 45 :: b).isPrefixOf l then (if o0 (l.drop (b.length + 2)) then κ (jj (l.drop (b.length + 2 + 2))) true else κ (jj (l.drop (b.length + 2))) false) else κ false false := by
  intro κ
  unfold cw cw.e
  have e0 : (⟨#[45, 45]⟩ : BA) = B [45, 45] := rfl
  have tr : ∀ x : List UInt8, x.length <= 1000000 -> ∀ κ : BA -> Option R, bA (B x) (⟨#[32, 9]⟩ : BA) κ = κ (B (eF x)) := fun x hx κ => oN x hx κ
  have tb : ∀ x : List UInt8, decide (eF x = []) = jj x := fun x => by
   cases h : jj x with
   | true => exact decide_eq_true ((qM x).2 h)
   | false => exact decide_eq_false (fun e => by rw [(qM x).1 e] at h; cases h)
  rw [e0, cg, cg, ab (by simp only [List.length_cons, List.length_nil]; omega), gC, yW]
  show (if (45 :: 45 :: b).isPrefixOf l then _ else _) = _
  by_cases h : (45 :: 45 :: b).isPrefixOf l = true
  ·rw [if_pos h, if_pos h, Bool.not_true, cond_false, yW]
   have hn : ([45, 45] ++ b).length = b.length + 2 := by simp
   have hdl : (l.drop (b.length + 2)).length <= 1000000 := by rw [List.length_drop]; omega
   rw [hn]
   unfold o0
   by_cases h2 : ([45, 45] : List UInt8).isPrefixOf (l.drop (b.length + 2)) = true
   ·rw [if_pos h2, if_pos h2, tr _ (by simp only [List.length_drop]; omega), dK, A3, tb, List.drop_drop]; rfl
   ·rw [if_neg h2, if_neg h2, tr _ hdl, dK, A3, tb]
  ·rw [if_neg h, if_neg h]; rfl
 unfold ns
 by_cases h : (45 :: 45 :: b).isPrefixOf l = true
 ·rw [if_pos h]
  simp only [h, if_true] at st
  by_cases h2 : o0 (l.drop (b.length + 2)) = true
  ·have h3 := h2
   unfold o0 at h3
   rw [if_pos h3]
   simp only [h2, if_true] at st
   cases h4 : jj (l.drop (b.length + 2 + 2)) with
   | true => rw [if_pos rfl]; rw [h4] at st; exact st
   | false => rw [if_neg (by decide)]; rw [h4] at st; exact ⟨true, st⟩
  ·have h3 := h2
   unfold o0 at h3
   rw [if_neg h3]
   simp only [h2] at st
   cases h4 : jj (l.drop (b.length + 2)) with
   | true => rw [if_pos rfl]; rw [h4] at st; exact st
   | false => rw [if_neg (by decide)]; rw [h4] at st; exact ⟨false, st⟩
 ·rw [if_neg h]
  simp only [h] at st
  exact ⟨false, st⟩
def pn (s r : List UInt8) : Nat := s.length - r.length
theorem tG (s r : List UInt8) : pl s r = (pn s r : Int) := rfl
theorem vq {s r : List UInt8} (h : r <:+ s) (k : Nat) : (B s).extract (pn s r) (pn s r + k) = B (r.take k) := by
 rw [cU, List.drop_take, show pn s r = s.length - r.length from rfl, oU h]
 congr 2; omega
theorem rN {s r : List UInt8} (h : r <:+ s) {k : Nat} (hk : k <= r.length) : pn s (r.drop k) = pn s r + k := by
 have := dG h
 unfold pn; rw [List.length_drop]; omega
def m4 (κ : Int -> Int -> Option R) (s : List UInt8) (k : Int) (u : List UInt8) : Option R :=
 if u = [] then κ k (pl s []) else if ([13, 10] : List UInt8).isPrefixOf u then κ k (pl s (u.drop 2)) else κ 0 0
theorem lD (s : List UInt8) (hs : s.length <= 1000000) (k : Int) (κ : Int -> Int -> Option R) : ∀ (f : Nat) (u : List UInt8), u <:+ s -> u.length < f -> bz.L9 κ f (B s) (pl s u) k = m4 κ s k (u.dropWhile cZ)
 | 0, u, _, hf => by omega
 | f + 1, u, h, hf => by
  rw [bz.L9, bz.t9, ik]
  cases u with
  | nil =>
   rw [du, ak (by omega), fS rfl]; rfl
  | cons c t =>
   have h1 := eg h
   have h2 := dO (s := s) (r := c :: t)
   have ht := dH h
   simp only [List.length_cons] at hf
   rw [an h1, aw, ab h2.1, ab h1, eo h, fM h hs]
   by_cases c1 : c = 32
   ·rw [iR 32 rfl c1, cond_true, lD s hs k κ f t ht (by omega), List.dropWhile_cons, if_pos (by subst c1; rfl)]
   ·rw [il 32 rfl c1, cond_false, aw, ab h2.1, ab h1]
    by_cases c2 : c = 9
    ·rw [iR 9 rfl c2, cond_true, lD s hs k κ f t ht (by omega), List.dropWhile_cons, if_pos (by subst c2; rfl)]
    ·rw [il 9 rfl c2, cond_false, List.dropWhile_cons, if_neg (by unfold cZ; simp [c1, c2]), fB (by omega)]
     rw [cond_false]
     unfold m4
     rw [if_neg (by simp), vu]
     have hw : IntKind.wrap .i64 (pl s (c :: t) + 2) = pl s (c :: t) + 2 := wrap_i64 (by omega) (by omega)
     rw [hw]
     by_cases c3 : c = 13
     ·cases t with
      | nil =>
       have : pl s [c] + 1 = (s.length : Int) := by have := jU h; rw [du] at this; omega
       rw [ak (by omega), if_neg (by simp)]
      | cons d v =>
       have g1 := eg ht
       have g2 := dO (s := s) (r := d :: v)
       have g3 := jU h
       have g4 := jU ht
       rw [an (by omega), aw, ab h2.1, ab h1, iR 13 rfl c3, cond_true, aw, ab g2.1, ab g1, eo ht]
       by_cases c4 : d = 10
       ·rw [iR 10 rfl c4, cond_true, if_pos (by simp [c3, c4])]
        rw [show pl s (c :: d :: v) + 2 = pl s v by omega]; rfl
       ·rw [il 10 rfl c4, cond_false, if_neg (by simp [c4])]
     ·rw [if_neg (by simp [c3])]
      by_cases c5 : pl s (c :: t) + 2 <= (s.length : Int)
      ·rw [an c5, aw, ab h2.1, ab h1, il 13 rfl c3, cond_false]
      ·rw [ak c5]
theorem sg : ∀ (u : List UInt8), (jj (eV u).1 = true ↔ (u.dropWhile cZ = [] ∨ ([13, 10] : List UInt8).isPrefixOf (u.dropWhile cZ) = true))
  /\ (jj (eV u).1 = true -> gq u = (u.dropWhile cZ).drop 2)
 | [] => ⟨⟨fun _ => .inl rfl, fun _ => rfl⟩, fun _ => rfl⟩
 | c :: t => by
  by_cases e : c = 13 /\ t.head? = some 10
  ·obtain ⟨rfl, e2⟩ := e
   rw [l9 e2]
   have hd : (13 :: 10 :: t.tail).dropWhile cZ = 13 :: 10 :: t.tail := by rw [List.dropWhile_cons, if_neg (by decide)]
   unfold gq
   rw [hd, fJ]
   exact ⟨⟨fun _ => .inr (by simp), fun _ => rfl⟩, fun _ => rfl⟩
  ·unfold gq
   rw [eW e, List.dropWhile_cons]
   obtain ⟨i1, i2⟩ := sg t
   unfold gq at i2
   unfold jj at i1 i2 ⊢
   rw [List.all_cons]
   cases hc : cZ c with
   | true => rw [Bool.true_and, if_pos rfl]; exact ⟨i1, i2⟩
   | false =>
    rw [Bool.false_and, if_neg (by decide)]
    refine ⟨⟨fun h => (by cases h), fun h => ?_⟩, fun h => (by cases h)⟩
    rcases h with h | h
    ·cases h
    ·rw [vu] at h; simp at h; exact absurd h e
theorem A1 (t : List UInt8) : o0 (eV t).1 = o0 t /\ (o0 t = true -> (eV t).1.drop 2 = (eV (t.drop 2)).1 /\ gq t = gq (t.drop 2)) := by
 cases t with
 | nil => exact ⟨rfl, fun h => by cases h⟩
 | cons c u =>
  by_cases c1 : c = 45
  ·have e : ¬ (c = 13 /\ u.head? = some 10) := by rintro ⟨rfl, _⟩; cases c1
   unfold gq
   rw [eW e]
   cases u with
   | nil => exact ⟨rfl, fun h => by simp [o0, List.isPrefixOf] at h⟩
   | cons d v =>
    by_cases c2 : d = 45
    ·have e2 : ¬ (d = 13 /\ v.head? = some 10) := by rintro ⟨rfl, _⟩; cases c2
     rw [eW e2]
     subst c1 c2
     exact ⟨rfl, fun _ => ⟨rfl, rfl⟩⟩
    ·have hn : ∀ x : List UInt8, o0 (c :: d :: x) = false := fun x => by
      unfold o0; simp only [List.isPrefixOf]; simp [Ne.symm c2]
     refine ⟨?_, fun h => by rw [hn] at h; cases h⟩
     rw [hn]
     by_cases e3 : d = 13 /\ v.head? = some 10
     ·obtain ⟨rfl, e4⟩ := e3
      rw [l9 e4, fJ]; simp [o0, List.isPrefixOf]
     ·rw [eW e3, hn]
  ·have hn : ∀ x : List UInt8, o0 (c :: x) = false := fun x => by
    unfold o0; simp only [List.isPrefixOf]; simp [Ne.symm c1]
   refine ⟨?_, fun h => by rw [hn] at h; cases h⟩
   rw [hn]
   by_cases e3 : c = 13 /\ u.head? = some 10
   ·obtain ⟨rfl, e4⟩ := e3
    rw [l9 e4, fJ]; rfl
   ·rw [eW e3, hn]
def De : Bool -> Int
 | true => 2
 | false => 1
def AA (κ : Int -> Int -> Option R) (s r : List UInt8) : Option Bool -> Option R
 | some k => κ (De k) (pl s (gq r))
 | none => κ 0 0
theorem AN (s b t : List UInt8) (κ : Int -> Int -> Option R) (hb : eJ b = false) (hnb : ¬ ((45 :: 45 :: b).getLast? = some 13 /\ t.head? = some 10)) :
  (if o0 t then m4 κ s 2 ((t.drop 2).dropWhile cZ) else m4 κ s 1 (t.dropWhile cZ)) = AA κ s (45 :: 45 :: b ++ t) (ns b (eV (45 :: 45 :: b ++ t)).1) := by
 have hw : eJ (45 :: 45 :: b) = false := by
  rw [eJ, eJ, hb]; rfl
 have e0 := om hw hnb
 have e1 : (eV (45 :: 45 :: b ++ t)).1 = 45 :: 45 :: b ++ (eV t).1 := by rw [e0]
 have e2 : gq (45 :: 45 :: b ++ t) = gq t := by unfold gq; rw [e0]
 have ed : ∀ (x : List UInt8), (45 :: 45 :: b ++ x).drop (b.length + 2) = x := fun x => by simp
 have ed2 : ∀ (x : List UInt8), (45 :: 45 :: b ++ x).drop (b.length + 2 + 2) = x.drop 2 := fun x => by rw [<- List.drop_drop, ed]
 have ep : ∀ (x : List UInt8), (45 :: 45 :: b).isPrefixOf (45 :: 45 :: b ++ x) = true := fun x => List.isPrefixOf_iff_prefix.2 (List.prefix_append _ _)
 have fin : ∀ (u : List UInt8) (k : Bool), m4 κ s (De k) (u.dropWhile cZ) = if jj (eV u).1 then κ (De k) (pl s (gq u)) else κ 0 0 := by
  intro u k
  obtain ⟨i1, i2⟩ := sg u
  unfold m4
  cases h : jj (eV u).1 with
  | true =>
   rw [if_pos rfl, i2 h]
   by_cases c1 : u.dropWhile cZ = []
   ·rw [if_pos c1, c1]; rfl
   ·rw [if_neg c1]
    rcases i1.1 h with h2 | h2
    ·exact absurd h2 c1
    ·rw [if_pos h2]
  | false =>
   have : ¬ (u.dropWhile cZ = [] ∨ ([13, 10] : List UInt8).isPrefixOf (u.dropWhile cZ) = true) := fun x => by rw [i1.2 x] at h; cases h
   rw [if_neg (fun x => this (.inl x)), if_neg (fun x => this (.inr x)), if_neg (by decide)]
 unfold ns
 rw [e1, if_pos (ep _), ed, ed2]
 obtain ⟨d1, d2⟩ := A1 t
 show _ = AA κ s _ (if o0 (eV t).1 then _ else _)
 rw [d1]
 cases hd : o0 t with
 | true =>
  obtain ⟨d3, d4⟩ := d2 hd
  rw [if_pos rfl, if_pos rfl, d3]
  have := fin (t.drop 2) true
  rw [show De true = (2 : Int) from rfl] at this
  rw [this]
  cases jj (eV (t.drop 2)).1 with
  | true => rw [if_pos rfl, if_pos rfl, AA, e2, d4]; rfl
  | false => rfl
 | false =>
  rw [if_neg (by decide), if_neg (by decide)]
  have := fin t false
  rw [show De false = (1 : Int) from rfl] at this
  rw [this]
  cases jj (eV t).1 with
  | true => rw [if_pos rfl, if_pos rfl, AA, e2]; rfl
  | false => rfl
theorem AM (s b t : List UInt8) (κ : Int -> Int -> Option R) (hb : eJ b = false) (hnb : ((45 :: 45 :: b).getLast? = some 13 /\ t.head? = some 10)) :
  (if o0 t then m4 κ s 2 ((t.drop 2).dropWhile cZ) else m4 κ s 1 (t.dropWhile cZ)) = AA κ s (45 :: 45 :: b ++ t) (ns b (eV (45 :: 45 :: b ++ t)).1) := by
 have hw : eJ (45 :: 45 :: b) = false := by
  rw [eJ, eJ, hb]; rfl
 have e0 := tv hw hnb.1 hnb.2
 have : ns b (eV (45 :: 45 :: b ++ t)).1 = none := by
  unfold ns
  rw [if_neg]
  intro h
  have := (List.isPrefixOf_iff_prefix.1 h).length_le
  omega
 rw [this, l9 hnb.2, if_neg (by simp [o0, List.isPrefixOf])]
 have hd : (10 :: t.tail).dropWhile cZ = 10 :: t.tail := rfl
 unfold m4
 rw [hd, if_neg (by simp), if_neg (by simp [List.isPrefixOf])]
 rfl
theorem ES (s r b : List UInt8) (hs : s.length <= 1000000) (hb : b.length <= 1000000) (h : r <:+ s) (hc : eJ b = false) (κ : Int -> Int -> Option R) : bz (B s) (pl s r) (B b) κ = AA κ s r (ns b (eV r).1) := by
 have hr := dG h
 have none_of : (45 :: 45 :: b).isPrefixOf r = false -> ns b (eV r).1 = none := fun e => by
  unfold ns
  rw [if_neg]
  intro h2
  have h3 := List.isPrefixOf_iff_prefix.1 h2
  have h4 : (eV r).1 <+: r := by rw [<- wA r]; exact List.take_prefix _ _
  rw [List.isPrefixOf_iff_prefix.2 (h3.trans h4)] at e; cases e
 have w1 : IntKind.wrap .i64 (pl s r + 2) = ((pn s r + 2 : Nat) : Int) := by rw [tG]; exact wrap_i64 (by omega) (by unfold pn; omega)
 have w2 : IntKind.wrap .i64 (((pn s r + 2 : Nat) : Int) + (b.length : Int)) = ((pn s r + 2 + b.length : Nat) : Int) := wrap_i64 (by omega) (by unfold pn; omega)
 have w3 : IntKind.wrap .i64 (((pn s r + 2 + b.length : Nat) : Int) + 2) = ((pn s r + 2 + b.length + 2 : Nat) : Int) := wrap_i64 (by omega) (by unfold pn; omega)
 have hp : pn s r = s.length - r.length := rfl
 have key : ∀ f, 1000000 < f -> bz.e (B s) (pl s r) (B b) (bz.L9 κ f) κ = AA κ s r (ns b (eV r).1) := by
  intro f hf
  unfold bz.e
  rw [ik, ik, w1, w2, w3]
  by_cases c1 : r.length < b.length + 2
  ·rw [an (by omega), none_of (by
    cases h2 : (45 :: 45 :: b).isPrefixOf r with
    | false => rfl
    | true => have := (List.isPrefixOf_iff_prefix.1 h2).length_le; simp only [List.length_cons] at this; omega)]
   rfl
  ·rw [ak (by omega), aw, ab (by rw [tG]; omega), aw, ab (by rw [tG]; omega), ab (by omega), tG, Int.toNat_natCast, Int.toNat_natCast, vq h]
   rw [show (⟨#[45, 45]⟩ : BA) = B [45, 45] from rfl, decide_eq_decide.2 (dQ (a := r.take 2) (b := [45, 45]))]
   by_cases c2 : r.take 2 = [45, 45]
   ·rw [decide_eq_true c2, Bool.not_true, cond_false, aw, ab (by omega), aw, ab (by omega), ab (by omega), Int.toNat_natCast]
    obtain ⟨r2, rfl⟩ : ∃ r2, r = 45 :: 45 :: r2 := by
     refine ⟨r.drop 2, ?_⟩
     have := List.take_append_drop 2 r
     rw [c2] at this
     exact this.symm
    have hr2 : r2 <:+ s := dH (dH h)
    have p2 : pn s (45 :: 45 :: r2) + 2 = pn s r2 := by
     have := rN h (k := 2) (by simp)
     exact this.symm
    rw [p2, vq hr2, decide_eq_decide.2 dQ]
    by_cases c3 : r2.take b.length = b
    ·rw [decide_eq_true c3, Bool.not_true, cond_false]
     obtain ⟨t, rfl⟩ : ∃ t, r2 = b ++ t := by
      refine ⟨r2.drop b.length, ?_⟩
      have := List.take_append_drop b.length r2
      rw [c3] at this
      exact this.symm
     have ht : t <:+ s := (List.suffix_append b t).trans hr2
     have p3 : pn s (b ++ t) + b.length = pn s t := by
      have := rN hr2 (k := b.length) (by simp)
      rw [List.drop_left] at this
      exact this.symm
     have hgoal : (if o0 t then m4 κ s 2 ((t.drop 2).dropWhile cZ) else m4 κ s 1 (t.dropWhile cZ)) = AA κ s (45 :: 45 :: (b ++ t)) (ns b (eV (45 :: 45 :: (b ++ t))).1) := by
      by_cases hnb : (45 :: 45 :: b).getLast? = some 13 /\ t.head? = some 10
      ·exact AM s b t κ hc hnb
      ·exact AN s b t κ hc hnb
     rw [<- hgoal, p3]
     have htl := dG ht
     have hpt : pn s t = s.length - t.length := rfl
     have one : bz.L9 κ f (B s) ((pn s t : Nat) : Int) 1 = m4 κ s 1 (t.dropWhile cZ) := lD s hs 1 κ f t ht (by omega)
     by_cases c4 : 2 <= t.length
     ·rw [an (by omega), aw, ab (by omega), aw, ab (by omega), ab (by omega), Int.toNat_natCast, vq ht, decide_eq_decide.2 (dQ (a := t.take 2) (b := [45, 45])), one]
      have hd : o0 t = decide (t.take 2 = [45, 45]) := by unfold o0; exact hZ
      rw [hd]
      by_cases c5 : t.take 2 = [45, 45]
      ·rw [decide_eq_true c5, cond_true, if_pos rfl, <- rN ht c4]
       exact lD s hs 2 κ f (t.drop 2) ((List.drop_suffix _ _).trans ht) (by rw [List.length_drop]; omega)
      ·rw [decide_eq_false c5, cond_false, if_neg (by decide)]
     ·rw [ak (by omega), one, if_neg]
      intro h5
      have := (List.isPrefixOf_iff_prefix.1 h5).length_le
      simp at this; omega
    ·rw [decide_eq_false c3, Bool.not_false, cond_true, none_of]
     ·rfl
     ·cases h2 : (45 :: 45 :: b).isPrefixOf (45 :: 45 :: r2) with
      | false => rfl
      | true =>
       refine absurd ?_ c3
       simp only [List.isPrefixOf, BEq.rfl, Bool.true_and] at h2
       have := hZ (l := r2) (p := b)
       rw [this] at h2
       exact of_decide_eq_true h2
   ·rw [decide_eq_false c2, Bool.not_false, cond_true, none_of]
    ·rfl
    ·cases h2 : (45 :: 45 :: b).isPrefixOf r with
     | false => rfl
     | true =>
      refine absurd ?_ c2
      obtain ⟨x, hx⟩ := List.isPrefixOf_iff_prefix.1 h2
      rw [<- hx]; rfl
 exact key ag (by unfold ag; omega)
theorem tL (s : List UInt8) (hs : s.length <= 1000000) (κ : Int -> Option R) : ∀ (f : Nat) (r : List UInt8), r <:+ s -> r.length < f -> bZ.L2 κ f (B s) (pl s r) = κ (pl s (gq r))
 | 0, r, _, hf => by omega
 | f + 1, r, h, hf => by
  rw [bZ.L2, bZ.t2, ik]
  cases r with
  | nil =>
   rw [du, wrap_i64 (by omega) (by omega), ak (by omega)]; rfl
  | cons c t =>
   have h1 := eg h
   have h2 := dO (s := s) (r := c :: t)
   have ht := dH h
   have h3 := jU h
   simp only [List.length_cons] at hf
   rw [fM h hs]
   cases t with
   | nil =>
    rw [du, ak (by omega)]
    have : gq [c] = [] := by
     unfold gq
     rw [eW (by simp)]; rfl
    rw [this]; rfl
   | cons d u =>
    have g1 := eg ht
    have g2 := dO (s := s) (r := d :: u)
    have g4 := jU ht
    rw [an g1, aw, ab h2.1, ab h1, eo h]
    have go : ¬ (c = 13 /\ d = 10) -> bZ.L2 κ f (B s) (pl s (d :: u)) = κ (pl s (gq (c :: d :: u))) := fun e => by
     rw [tL s hs κ f (d :: u) ht (by simp only [List.length_cons] at hf ⊢; omega)]
     have : gq (c :: d :: u) = gq (d :: u) := by
      show (eV (c :: d :: u)).2.getD [] = (eV (d :: u)).2.getD []
      rw [eW (c := c) (t := d :: u) (by simpa using e)]
     rw [this]
    by_cases c1 : c = 13
    ·rw [iR 13 rfl c1, cond_true, aw, ab g2.1, ab g1, eo ht]
     by_cases c2 : d = 10
     ·rw [iR 10 rfl c2, cond_true, wrap_i64 (by omega) (by omega)]
      subst c1 c2
      have : gq (13 :: 10 :: u) = u := by unfold gq; rw [fJ]; rfl
      rw [this]
      congr 1; omega
     ·rw [il 10 rfl c2, cond_false]
      exact go (fun e => c2 e.2)
    ·rw [il 13 rfl c1, cond_false]
     exact go (fun e => c1 e.1)
theorem ET (s r : List UInt8) (hs : s.length <= 1000000) (h : r <:+ s) (κ : Int -> Option R) : bZ (B s) (pl s r) κ = κ (pl s (gq r)) := by
 have := dG h
 have key : ∀ f, 1000000 < f -> bZ.e (B s) (pl s r) (bZ.L2 κ f) κ = κ (pl s (gq r)) := fun f hf => tL s hs κ f r h (by omega)
 exact key ag (by unfold ag; omega)
theorem tM (s : List UInt8) (hs : s.length <= 1000000) (κ : Bool -> Option R) : ∀ (f : Nat) (r : List UInt8), r <:+ s -> r.length < f -> bU.L2 κ f (B s) (pl s r) = κ (eJ r)
 | 0, r, _, hf => by omega
 | f + 1, r, h, hf => by
  rw [bU.L2, bU.t2, ik]
  cases r with
  | nil =>
   rw [du, wrap_i64 (by omega) (by omega), ak (by omega)]; rfl
  | cons c t =>
   have h1 := eg h
   have h2 := dO (s := s) (r := c :: t)
   have ht := dH h
   simp only [List.length_cons] at hf
   rw [fM h hs]
   cases t with
   | nil =>
    rw [du, ak (by omega)]
    have : eJ [c] = false := by simp [eJ]
    rw [this]
   | cons d u =>
    have g1 := eg ht
    have g2 := dO (s := s) (r := d :: u)
    rw [an g1, aw, ab h2.1, ab h1, eo h]
    have go : ¬ (c = 13 /\ d = 10) -> bU.L2 κ f (B s) (pl s (d :: u)) = κ (eJ (c :: d :: u)) := fun e => by
     rw [tM s hs κ f (d :: u) ht (by simp only [List.length_cons] at hf ⊢; omega)]
     have : eJ (c :: d :: u) = eJ (d :: u) := by
      rw [eJ.eq_def (c :: d :: u)]
      have : (c == 13 && (d :: u).head? == some 10) = false := by
       rw [Bool.and_eq_false_iff]
       by_cases c1 : c = 13
       ·right; simp; exact fun x => e ⟨c1, x⟩
       ·left; simpa using c1
      simp only [this, Bool.false_or]
     rw [this]
    by_cases c1 : c = 13
    ·rw [iR 13 rfl c1, cond_true, aw, ab g2.1, ab g1, eo ht]
     by_cases c2 : d = 10
     ·rw [iR 10 rfl c2, cond_true]
      subst c1 c2
      rfl
     ·rw [il 10 rfl c2, cond_false]
      exact go (fun e => c2 e.2)
    ·rw [il 13 rfl c1, cond_false]
     exact go (fun e => c1 e.1)
theorem EU (s : List UInt8) (hs : s.length <= 1000000) (κ : Bool -> Option R) : bU (B s) κ = κ (eJ s) := by
 have key : ∀ f, 1000000 < f -> bU.e (B s) (bU.L2 κ f) κ = κ (eJ s) := fun f hf => by
  have := tM s hs κ f s (List.suffix_refl _) (by omega)
  rw [jB] at this
  exact this
 exact key ag (by unfold ag; omega)
theorem wD (x y : Int) : max2 x y = max x y := by
 unfold max2
 by_cases h : x < y
 ·rw [an h]; omega
 ·rw [ak h]; omega
theorem wE (x y : Int) : min2 x y = min x y := by
 unfold min2
 by_cases h : y < x
 ·rw [an h]; omega
 ·rw [ak h]; omega
def fo (F : Nat) (p : Nat × Nat) : AV := .agg [.int ((F + p.1 : Nat) : Int), .int ((F + p.2 : Nat) : Int)]
def zg (F : Nat) : Option Nat -> Int
 | none => -1
 | some k => ((F + k : Nat) : Int)
def nM (frm : Option Nat) (e : Nat) : List (Nat × Nat) :=
 match frm with
 | none => []
 | some k => [(k, e)]
def m8 (b s : List UInt8) (frm : Option Nat) : List UInt8 -> List (Nat × Nat)
 | [] => nM frm s.length
 | c :: t => match ns b (eV (c :: t)).1 with
  | some last => nM (frm) (max (frm.getD 0) (pn s (c :: t) - 2)) ++ (if last then [] else m8 b s (some (pn s (gq (c :: t)))) (gq (c :: t)))
  | none => m8 b s frm (gq (c :: t))
termination_by r => r.length
decreasing_by
 all_goals simp_wf
 all_goals have := oo c t
 all_goals omega
theorem ia (b s : List UInt8) (frm : Option Nat) : m8 b s frm [] = nM frm s.length := by rw [m8]
theorem wa (frm : Option Nat) (e : Nat) : (nM frm e).length <= 1 := by unfold nM; cases frm <;> simp
theorem rk (F : Nat) (frm : Option Nat) : decide (zg F frm >= 0) = frm.isSome := by
 cases frm with
 | none => rfl
 | some k => exact decide_eq_true (by show (0 : Int) <= ((F + k : Nat) : Int); omega)
theorem rO (b s : List UInt8) (hs : s.length <= 1000000) : ∀ (n : Nat) (frm : Option Nat) (r : List UInt8), r.length <= n -> r <:+ s -> (∀ k, frm = some k -> k <= s.length) -> ∀ p ∈ m8 b s frm r, p.1 <= p.2 /\ p.2 <= s.length
 | n, frm, [], _, _, hk, p, hp => by
  rw [ia] at hp
  cases frm with
  | none => cases hp
  | some k =>
   simp only [nM, List.mem_singleton] at hp
   subst hp
   exact ⟨hk k rfl, Nat.le_refl _⟩
 | 0, _, c :: t, h, _, _, _, _ => by simp at h
 | n + 1, frm, c :: t, h, hr, hk, p, hp => by
  have hl := oo c t
  have hsf := (oq (c :: t)).trans hr
  have hlen := dG hr
  simp only [List.length_cons] at h hlen
  rw [m8] at hp
  cases e : ns b (eV (c :: t)).1 with
  | none =>
   rw [e] at hp
   exact rO b s hs n frm _ (by omega) hsf hk p hp
  | some last =>
   rw [e] at hp
   rcases List.mem_append.1 hp with h1 | h1
   ·cases frm with
    | none => cases h1
    | some k =>
     simp only [nM, List.mem_singleton] at h1
     subst h1
     have := hk k rfl
     simp only [Option.getD_some]
     unfold pn
     exact ⟨by omega, by simp only [List.length_cons]; omega⟩
   ·cases last with
    | true => cases h1
    | false =>
     refine rO b s hs n _ _ (by omega) hsf (fun k e => ?_) p h1
     cases e; unfold pn; omega
theorem lE (b s : List UInt8) (hs : s.length <= 1000000) (hb : b.length <= 1000000) (hc : eJ b = false) (κ : LA -> Option R) : ∀ (f : Nat) (r : List UInt8) (frm : Option Nat) (acc : LA), r <:+ s -> r.length < f -> acc.length + r.length <= 1000000 -> (∀ k, frm = some k -> k <= s.length) ->
  cq.L4 bz bZ κ f (B s) (B b) (zg 0 frm) (pl s r) acc = κ (acc ++ (m8 b s frm r).map (fo 0))
 | 0, r, frm, acc, _, hf, _, _ => by omega
 | f + 1, r, frm, acc, hr, hf, ha, hk => by
  rw [cq.L4, cq.t4, ik, rk]
  cases r with
  | nil =>
   rw [du, ak (by omega), ia]
   cases frm with
   | none => simp [nM]
   | some k =>
    rw [Option.isSome_some, cond_true, ab (by omega)]
    show κ (acc ++ [AV.agg [AV.int ((0 + k : Nat) : Int), AV.int (s.length : Int)]]) = κ (acc ++ [fo 0 (k, s.length)])
    unfold fo
    rw [Nat.zero_add, Nat.zero_add]
  | cons c t =>
   have h1 := eg hr
   have hl := oo c t
   have hsf := (oq (c :: t)).trans hr
   have hlen := dG hr
   simp only [List.length_cons] at hf ha hlen
   rw [an h1, ES s (c :: t) b hs hb hr hc, m8]
   cases e : ns b (eV (c :: t)).1 with
   | none =>
    rw [AA, ak (by omega), ET s (c :: t) hs hr]
    exact lE b s hs hb hc κ f _ frm acc hsf (by omega) (by omega) hk
   | some last =>
    rw [AA]
    have hkp : (De last) > (0 : Int) := by cases last <;> decide
    rw [an hkp]
    have hnx : ∀ k, some (pn s (gq (c :: t))) = some k -> k <= s.length := fun k e => by cases e; unfold pn; omega
    have hfr : pl s (gq (c :: t)) = zg 0 (some (pn s (gq (c :: t)))) := by
     show ((pn s (gq (c :: t)) : Nat) : Int) = ((0 + pn s (gq (c :: t)) : Nat) : Int)
     rw [Nat.zero_add]
    cases frm with
    | none =>
     rw [Option.isSome_none, cond_false]
     cases last with
     | true => rw [fS (by rfl), cond_true]; simp [nM]
     | false =>
      rw [fB (by decide), cond_false]
      have := lE b s hs hb hc κ f _ (some (pn s (gq (c :: t)))) acc hsf (by omega) (by omega) hnx
      rw [<- hfr] at this
      rw [this]; simp [nM]
    | some k =>
     have hpc : AV.agg [AV.int (zg 0 (some k)), AV.int (max2 (zg 0 (some k)) (IntKind.wrap .i64 (pl s (c :: t) - 2)))] = fo 0 (k, max ((some k).getD 0) (pn s (c :: t) - 2)) := by
      have hk' := hk k rfl
      rw [tG, wrap_i64 (by omega) (by unfold pn; omega)]
      unfold fo
      show AV.agg [AV.int ((0 + k : Nat) : Int), AV.int (max2 ((0 + k : Nat) : Int) _)] = AV.agg [AV.int ((0 + k : Nat) : Int), AV.int ((0 + max k (pn s (c :: t) - 2) : Nat) : Int)]
      congr 3
      rw [wD]
      congr 1
      omega
     rw [Option.isSome_some, cond_true, ab (by omega), hpc]
     cases last with
     | true => rw [fS (by rfl), cond_true]; simp [nM]
     | false =>
      rw [fB (by decide), cond_false]
      have := lE b s hs hb hc κ f _ (some (pn s (gq (c :: t)))) (acc ++ [fo 0 (k, max ((some k).getD 0) (pn s (c :: t) - 2))]) hsf (by omega) (by simp only [List.length_append, List.length_cons, List.length_nil]; omega) hnx
      rw [<- hfr] at this
      rw [this]; simp [nM]
theorem EY (b s : List UInt8) (hs : s.length <= 900000) (hb : b.length <= 1000000) (hc : eJ b = false) (κ : LA -> Option R) : cq (B s) (B b) κ = κ ((m8 b s none s).map (fo 0)) := by
 have key : ∀ f, 1000000 < f -> cq.e bz bZ (B s) (B b) (cq.L4 bz bZ κ f) κ = κ ((m8 b s none s).map (fo 0)) := fun f hf => by
  have := lE b s (by omega) hb hc κ f s none [] (List.suffix_refl _) (by omega) (by simp; omega) (fun k e => by cases e)
  rw [jB] at this
  exact this
 exact key ag (by unfold ag; omega)
theorem tR {w s r : List UInt8} {F : Nat} (hw : (w.take (F + s.length)).drop F = s) (h : r <:+ s) (hF : F + s.length <= w.length) (k : Nat) (hk : k <= r.length) : (B w).extract (F + pn s r) (F + pn s r + k) = B (r.take k) := by
 have hl := dG h
 have e : s.drop (pn s r) = r := oU h
 rw [cU]
 congr 1
 have h1 : w.drop F = s ++ w.drop (F + s.length) := by
  have : w.drop F = (w.take (F + s.length)).drop F ++ w.drop (F + s.length) := by
   conv => lhs; rw [<- List.take_append_drop (F + s.length) w]
   rw [List.drop_append_of_le_length (by rw [List.length_take]; omega)]
  rw [this, hw]
 rw [List.drop_take, <- List.drop_drop, h1, List.drop_append_of_le_length (by unfold pn; omega), e, show F + pn s r + k - (F + pn s r) = k by omega, List.take_append_of_le_length hk]
theorem pY (b s w : List UInt8) (F : Nat) (hw : (w.take (F + s.length)).drop F = s) (hF : F + s.length <= w.length) (hwl : w.length <= 900000) (hb : b.length <= 1000000) (a1 a2 : Int) (κ : LA -> BA -> Int -> Option R) : ∀ (f : Nat) (r : List UInt8) (frm : Option Nat) (acc : LA), r <:+ s -> r.length + 1 < f -> acc.length + r.length <= 1000000 -> (∀ k, frm = some k -> k <= s.length) ->
  bm.L4 aP cw κ f (B b) (zg F frm) ((F + pn s r : Nat) : Int) (B w) a1 a2 ((F + s.length : Nat) : Int) acc = κ (acc ++ (m8 b s frm r).map (fo F)) (B w) a1
 | 0, r, frm, acc, _, hf, _, _ => by omega
 | f + 1, r, frm, acc, hr, hf, ha, hk => by
  have hlen := dG hr
  have hpn : pn s r + r.length = s.length := by unfold pn; omega
  have hll := Bo r
  have stop : ∀ (g : Nat) (frm : Option Nat) (acc : LA), acc.length <= 1000000 -> bm.L4 aP cw κ (g + 1) (B b) (zg F frm) ((F + s.length + 1 : Nat) : Int) (B w) a1 a2 ((F + s.length : Nat) : Int) acc = κ (acc ++ (nM frm s.length).map (fo F)) (B w) a1 := by
   intro g frm acc ha
   rw [bm.L4, bm.t4, ak (by omega), rk]
   cases frm with
   | none => rw [Option.isSome_none, cond_false]; simp [nM]
   | some k => rw [Option.isSome_some, cond_true, ab (by omega)]; rfl
  have hnl : gq r <:+ s := (oq r).trans hr
  have hnn : (gq r).length <= s.length := dG hnl
  have hnx : ∀ k, some (pn s (gq r)) = some k -> k <= s.length := fun k e => by cases e; unfold pn; omega
  have sub : ∀ p : Nat, p <= s.length -> IntKind.wrap .i64 (((F + p : Nat) : Int) - 2) = ((F + p : Nat) : Int) - 2 := fun p hp => wrap_i64 (by omega) (by omega)
  have hpc : ∀ k, k <= s.length -> AV.agg [AV.int (zg F (some k)), AV.int (max2 (zg F (some k)) (((F + pn s r : Nat) : Int) - 2))] = fo F (k, max ((some k).getD 0) (pn s r - 2)) := fun k hk => by
   unfold fo
   show AV.agg [AV.int ((F + k : Nat) : Int), AV.int (max2 ((F + k : Nat) : Int) _)] = AV.agg [AV.int ((F + k : Nat) : Int), AV.int ((F + max k (pn s r - 2) : Nat) : Int)]
   congr 3
   rw [wD]
   congr 1
   omega
  rw [bm.L4, bm.t4, an (by omega), ik, aw, ab (by omega), aw, ab (by omega), ab (by omega), Int.toNat_natCast, Int.toNat_natCast, sub _ (by omega)]
  have hx := tR hw hr hF r.length (Nat.le_refl _)
  rw [List.take_length, show F + pn s r + r.length = F + s.length by omega] at hx
  rw [hx, show (⟨#[13, 10]⟩ : BA) = B [13, 10] from rfl, n5 r _ (by omega), mf, rk]
  have hbd := EO (R := R) b (eV r).1 hb (by omega)
  have hlast : (if h : r = [] then True else True) := by split <;> trivial
  have run : ∀ (X : Option Bool), ns b (eV r).1 = X -> r ≠ [] -> m8 b s frm r = match X with
    | some last => nM (frm) (max (frm.getD 0) (pn s r - 2)) ++ (if last then [] else m8 b s (some (pn s (gq r))) (gq r))
    | none => m8 b s frm (gq r) := by
   intro X hX hr0
   cases r with
   | nil => exact absurd rfl hr0
   | cons c t => rw [m8, hX]
  cases en : (eV r).2 with
  | some u =>
   have hsp := jx en
   have hul : (eV r).1.length + 2 + u.length = r.length := by
    have := congrArg List.length hsp
    simp only [List.length_append, List.length_cons] at this; omega
   have hlx : gq r = u := by unfold gq; rw [en]; rfl
   have hr0 : r ≠ [] := fun e => by rw [e] at en; cases en
   have hpu : F + pn s r + (eV r).1.length + 2 = F + pn s u := by
    rw [hlx] at hnn; unfold pn; omega
   have hpu' : pn s u <= s.length := by unfold pn; omega
   have w1 : IntKind.wrap .i64 (((F + pn s r : Nat) : Int) + ((eV r).1.length : Int)) = ((F + pn s r + (eV r).1.length : Nat) : Int) := wrap_i64 (by omega) (by omega)
   have w2 : IntKind.wrap .i64 (((F + pn s r + (eV r).1.length : Nat) : Int) + 2) = ((F + pn s u : Nat) : Int) := by rw [<- hpu]; exact wrap_i64 (by omega) (by omega)
   have hm : min2 ((F + pn s u : Nat) : Int) ((F + s.length : Nat) : Int) = zg F (some (pn s u)) := by
    show _ = ((F + pn s u : Nat) : Int)
    rw [wE]; omega
   have hxl := tR hw hr hF (eV r).1.length hll
   rw [wA] at hxl
   simp only
   rw [an (by omega), w1, w2, hm, aw, ab (by omega), aw, ab (by omega), ab (by omega), Int.toNat_natCast, hxl]
   rw [hlx] at run hnl hnx
   have IH := fun (frm : Option Nat) (acc : LA) (h1 : acc.length + u.length <= 1000000) (h2 : ∀ k, frm = some k -> k <= s.length) => pY b s w F hw hF hwl hb a1 a2 κ f u frm acc hnl (by omega) h1 h2
   cases e : ns b (eV r).1 with
   | none =>
    rw [e] at hbd
    obtain ⟨q, hq⟩ := hbd
    rw [hq, cond_false, run none e hr0]
    exact IH frm acc (by omega) hk
   | some last =>
    rw [e] at hbd
    replace hbd : ∀ κ : Bool -> Bool -> Option R, cw (B (eV r).1) (B b) κ = κ true last := hbd
    rw [hbd, cond_true, run (some last) e hr0]
    cases frm with
    | none =>
     rw [Option.isSome_none, cond_false]
     cases last with
     | true => rw [cond_true]; simp [nM]
     | false => rw [cond_false, IH _ acc (by omega) hnx]; simp [nM]
    | some k =>
     rw [Option.isSome_some, cond_true, ab (by omega), hpc k (hk k rfl)]
     cases last with
     | true => rw [cond_true]; simp [nM]
     | false => rw [cond_false, IH _ _ (by simp only [List.length_append, List.length_cons, List.length_nil]; omega) hnx]; simp [nM]
  | none =>
   have hln := lp en
   have hlx : gq r = [] := by unfold gq; rw [en]; rfl
   have w1 : IntKind.wrap .i64 (((F + s.length : Nat) : Int) + 1) = ((F + s.length + 1 : Nat) : Int) := wrap_i64 (by omega) (by omega)
   have hps : pn s [] = s.length := rfl
   have hm : min2 ((F + s.length + 1 : Nat) : Int) ((F + s.length : Nat) : Int) = zg F (some (pn s [])) := by
    rw [hps]
    show _ = ((F + s.length : Nat) : Int)
    rw [wE]; omega
   simp only
   rw [ak (by omega), w1, hm, aw, ab (by omega), aw, ab (by omega), ab (by omega)]
   rw [<- hln] at hbd
   obtain ⟨g, rfl⟩ : ∃ g, f = g + 1 := ⟨f - 1, by omega⟩
   by_cases hr0 : r = []
   ·subst hr0
    have e : ns b [] = none := by
     unfold ns
     rw [if_neg (by simp [List.isPrefixOf])]
    rw [e] at hbd
    obtain ⟨q, hq⟩ := hbd
    rw [hq, cond_false, ia]
    exact stop g frm acc (by omega)
   ·rw [hlx] at run
    cases e : ns b r with
    | none =>
     rw [e] at hbd
     obtain ⟨q, hq⟩ := hbd
     rw [hq, cond_false, run none (by rw [<- hln]; exact e) hr0]
     show _ = κ (acc ++ (m8 b s frm []).map (fo F)) _ _
     rw [ia]
     exact stop g frm acc (by omega)
    | some last =>
     rw [e] at hbd
     replace hbd : ∀ κ : Bool -> Bool -> Option R, cw (B r) (B b) κ = κ true last := hbd
     rw [hbd, cond_true, run (some last) (by rw [<- hln]; exact e) hr0]
     cases frm with
     | none =>
      rw [Option.isSome_none, cond_false]
      cases last with
      | true => rw [cond_true]; simp [nM]
      | false => rw [cond_false, stop g _ acc (by omega), hps]; simp [nM, ia]
     | some k =>
      rw [Option.isSome_some, cond_true, ab (by omega), hpc k (hk k rfl)]
      cases last with
      | true => rw [cond_true]; simp [nM]
      | false =>
       have hrl : 1 <= r.length := by
        cases r with
        | nil => exact absurd rfl hr0
        | cons c t => simp
       rw [cond_false, stop g _ _ (by simp only [List.length_append, List.length_cons, List.length_nil]; omega), hps]; simp [nM, ia]
theorem Ed (b s w : List UInt8) (F : Nat) (hw : (w.take (F + s.length)).drop F = s) (hF : F + s.length <= w.length) (hwl : w.length <= 900000) (hb : b.length <= 1000000) (a1 : Int) (κ : LA -> BA -> Int -> Option R) :
  bm (B w) a1 (F : Int) ((F + s.length : Nat) : Int) (B b) κ = κ ((m8 b s none s).map (fo F)) (B w) a1 := by
 have key : ∀ f, 1000001 < f -> bm.e aP cw (B w) a1 (F : Int) ((F + s.length : Nat) : Int) (B b) (bm.L4 aP cw κ f) κ = κ ((m8 b s none s).map (fo F)) (B w) a1 := fun f hf => by
  have := pY b s w F hw hF hwl hb a1 (F : Int) κ f s none [] (List.suffix_refl _) (by omega) (by simp; omega) (fun k e => by cases e)
  rw [show F + pn s s = F by unfold pn; omega] at this
  exact this
 exact key ag (by unfold ag; omega)
def jY (s : List UInt8) : List UInt8 := bl (gP (B s)).1
theorem Bb (s : List UInt8) : ∃ n, jY s = s.take n := by
 unfold jY gP
 rw [nu]
 cases m6 true s with
 | some n => exact ⟨n, rfl⟩
 | none => exact ⟨s.length, by rw [List.take_length]; rfl⟩
theorem rA (s : List UInt8) : (jY s).length <= s.length := by
 obtain ⟨n, h⟩ := Bb s
 rw [h, List.length_take]; omega
theorem lX {h : List UInt8} {n : BA} : gI h n = false -> gV h n = [] := A'
theorem BQ {w s : List UInt8} {F : Nat} (hw : (w.take (F + s.length)).drop F = s) (hF : F + s.length <= w.length) (hwl : w.length <= 200000) (a1 : Int) (dg : Bool) (κ : BA -> BA -> BA -> LA -> Bool -> BA -> Bool -> BA -> Bool -> BA -> Bool -> BA -> LA -> LA -> Bool -> BA -> Int -> Int -> Int -> Int -> Int -> BA -> Int -> Option R) :
  aA (B w) a1 (F : Int) ((F + s.length : Nat) : Int) dg κ = m0 (fun a b c d e f g h i j k l m n o p q r s t u => κ a b c d e f g h i j k l m n o p q r s t u (B w) a1) (B []) (xF (jY s) dg) (F : Int) ((F + (jY s).length : Nat) : Int) ((F + (jY s).length : Nat) : Int) ((F + s.length : Nat) : Int) 0 := by
 have hl := rA s
 unfold aA aA.e
 rw [aw, ab (by omega), aw, ab (by omega), ab (by rw [ik]; omega), Int.toNat_natCast, Int.toNat_natCast, cU, hw, xK (B s) (by rw [nu]; omega)]
 have e : (gP (B s)).1 = B (jY s) := (iO _).symm
 have w1 : IntKind.wrap .i64 ((F : Int) + ((jY s).length : Int)) = ((F + (jY s).length : Nat) : Int) := wrap_i64 (by omega) (by omega)
 rw [e, vb (jY s) (by omega), ik, w1]
 exact DE (by omega) _ _ _ _ _ _ _ _ _ _ _ _ _ _ _ _ _ _ _ _
theorem z7 {w s : List UInt8} {F : Nat} (hw : (w.take (F + s.length)).drop F = s) (hF : F + s.length <= w.length) (hwl : w.length <= 200000) (p : BA) (dg : Bool) (κ : Dp R) :
  aT (B w) (F : Int) ((F + s.length : Nat) : Int) p dg κ = m0 κ p (xF (jY s) dg) (F : Int) ((F + (jY s).length : Nat) : Int) ((F + (jY s).length : Nat) : Int) ((F + s.length : Nat) : Int) 0 := by
 have hl := rA s
 have hs2 : (jY s).length <= 200000 := by omega
 have key : ∀ f, aT.e cf bS dd cR cX cx bb b7 (B w) (F : Int) ((F + s.length : Nat) : Int) p dg (aT.L6 cf bS dd cR cX cx bb b7 κ (f + 1 + 1)) (aT.BG cf bS dd cR cX cx bb b7 κ (f + 1 + 1)) κ = m0 κ p (xF (jY s) dg) (F : Int) ((F + (jY s).length : Nat) : Int) ((F + (jY s).length : Nat) : Int) ((F + s.length : Nat) : Int) 0 := by
  intro f
  unfold aT.e
  rw [aw, ab (by omega), aw, ab (by omega), ab (by rw [ik]; omega), Int.toNat_natCast, Int.toNat_natCast, cU, hw, rS (B s) (by rw [nu]; omega)]
  have e : (gP (B s)).1 = B (jY s) := (iO _).symm
  have w1 : IntKind.wrap .i64 ((F : Int) + ((jY s).length : Int)) = ((F + (jY s).length : Nat) : Int) := wrap_i64 (by omega) (by omega)
  rw [e, vz (jY s) (by omega), ik, w1]
  show dd (mE (jY s)) _ _ = _
  rw [iI hs2 (by decide)]
  have hlen := fun n => lY (h := jY s) hs2 n
  have l1 := hlen (⟨#[67, 111, 110, 116, 101, 110, 116, 45, 84, 121, 112, 101]⟩ : BA)
  have l2 := hlen (⟨#[67, 111, 110, 116, 101, 110, 116, 45, 73, 100]⟩ : BA)
  have l3 := hlen (⟨#[67, 111, 110, 116, 101, 110, 116, 45, 68, 101, 115, 99, 114, 105, 112, 116, 105, 111, 110]⟩ : BA)
  have l4 := hlen (⟨#[67, 111, 110, 116, 101, 110, 116, 45, 76, 111, 99, 97, 116, 105, 111, 110]⟩ : BA)
  have l5 := hlen (⟨#[67, 111, 110, 116, 101, 110, 116, 45, 84, 114, 97, 110, 115, 102, 101, 114, 45, 69, 110, 99, 111, 100, 105, 110, 103]⟩ : BA)
  have l6 := hlen (⟨#[67, 111, 110, 116, 101, 110, 116, 45, 68, 105, 115, 112, 111, 115, 105, 116, 105, 111, 110]⟩ : BA)
  have l7 := hlen (⟨#[67, 111, 110, 116, 101, 110, 116, 45, 76, 97, 110, 103, 117, 97, 103, 101]⟩ : BA)
  rw [DN _ (by omega) _ _ lX _ _ (fun _ _ => rfl)]
  rw [aT.L6, aT.t6]
  rw [show (jY s |> fT).map gY = mE (jY s) from rfl]
  rw [iI hs2 (by decide), vy _ (by omega) _ lX, iI hs2 (by decide), vy _ (by omega) _ lX, iI hs2 (by decide), vy _ (by omega) _ lX, iI hs2 (by decide), oF _ (by omega) _ lX]
  by_cases h1 : iw (gV (jY s) (⟨#[67, 111, 110, 116, 101, 110, 116, 45, 84, 114, 97, 110, 115, 102, 101, 114, 45, 69, 110, 99, 111, 100, 105, 110, 103]⟩ : BA)) = [] <;> by_cases h2 : iw (gV (jY s) (⟨#[67, 111, 110, 116, 101, 110, 116, 45, 68, 105, 115, 112, 111, 115, 105, 116, 105, 111, 110]⟩ : BA)) = []
  ·rw [if_pos h1, iI hs2 (by decide), oF _ (by omega) _ lX, if_pos h2, cond_false, iI hs2 (by decide), DY _ (by omega) _ lX, aT.BG, aT.t16]
   unfold m0 xF cY
   simp only [h1, h2, decide_true, Bool.not_true, Bool.not_false, if_true]
   rfl
  ·rw [if_pos h1, iI hs2 (by decide), oF _ (by omega) _ lX, if_neg h2, cond_true, CY _ _ (by omega) (uN _), iI hs2 (by decide), DY _ (by omega) _ lX, aT.BG, aT.t16]
   unfold m0 xF cY
   simp only [h1, decide_eq_false h2, if_neg h2, decide_true, Bool.not_true, Bool.not_false]
  ·rw [if_neg h1, iI hs2 (by decide), oF _ (by omega) _ lX, if_pos h2, cond_false, iI hs2 (by decide), DY _ (by omega) _ lX, aT.BG, aT.t16]
   unfold m0 xF cY
   simp only [decide_eq_false h1, h2, decide_true, Bool.not_true, Bool.not_false, if_true]
   rfl
  ·rw [if_neg h1, iI hs2 (by decide), oF _ (by omega) _ lX, if_neg h2, cond_true, CY _ _ (by omega) (uN _), iI hs2 (by decide), DY _ (by omega) _ lX, aT.BG, aT.t16]
   unfold m0 xF cY
   simp only [decide_eq_false h1, decide_eq_false h2, if_neg h2, decide_true, Bool.not_true, Bool.not_false]
 exact key (ag - 2)
structure LV where
 p : List UInt8
 v : HdV
 a : Nat
 b : Nat
 c : Nat
 d : Nat
 e : Nat
def ea (x : LV) : Bool := decide (x.v.ty = iD) && decide (x.v.sub = mK)
def pa : List UInt8 := [109, 117, 108, 116, 105, 112, 97, 114, 116]
def rc : List UInt8 := [98, 111, 117, 110, 100, 97, 114, 121]
def fR : List Pm -> List UInt8
 | [] => []
 | p :: r => if p.1 = rc then p.2 else fR r
def dB (w : List UInt8) (x : LV) : List UInt8 := (w.take x.d).drop x.c
def yT (x : LV) : Bool := !cY x.v.c1 || decide (x.v.c1 = [55, 98, 105, 116]) || decide (x.v.c1 = [56, 98, 105, 116]) || decide (x.v.c1 = [98, 105, 110, 97, 114, 121])
def gM (w : List UInt8) (x : LV) : List (Nat × Nat) :=
 if ea x then (if yT x then [(x.c, x.d)] else [])
 else if x.v.ty = pa /\ 1 <= (fR x.v.ps).length /\ (fR x.v.ps).length <= 70 then (m8 (fR x.v.ps) (dB w x) none (dB w x)).map fun p => (x.c + p.1, x.c + p.2)
 else []
theorem lB (b s : List UInt8) : ∀ (n : Nat) (frm : Option Nat) (r : List UInt8), r.length <= n -> (m8 b s frm r).length <= r.length + 1
 | n, frm, [], _ => by rw [ia]; have := wa frm s.length; simp; omega
 | 0, _, c :: t, h => by simp at h
 | n + 1, frm, c :: t, h => by
  have hl := oo c t
  simp only [List.length_cons] at h ⊢
  rw [m8]
  cases ns b (eV (c :: t)).1 with
  | none =>
   have := lB b s n frm (gq (c :: t)) (by omega)
   simp only; omega
  | some last =>
   have h1 := wa frm (max (frm.getD 0) (pn s (c :: t) - 2))
   have := lB b s n (some (pn s (gq (c :: t)))) (gq (c :: t)) (by omega)
   simp only [List.length_append]
   cases last with
   | true => simp; omega
   | false => simp; omega
theorem yB {b l : List UInt8} (hb : eJ b = true) (hl : eJ l = false) : ns b l = none := by
 unfold ns
 rw [if_neg]
 intro h
 obtain ⟨x, rfl⟩ := List.isPrefixOf_iff_prefix.1 h
 have := (sO hl).1
 rw [eJ, eJ, hb] at this
 simp at this
theorem tH (b s : List UInt8) (hb : eJ b = true) : ∀ (n : Nat) (r : List UInt8), r.length <= n -> m8 b s none r = []
 | n, [], _ => by rw [ia]; rfl
 | 0, c :: t, h => by simp at h
 | n + 1, c :: t, h => by
  have hl := oo c t
  simp only [List.length_cons] at h
  rw [m8, yB hb (sP _)]
  exact tH b s hb n _ (by omega)
theorem qu (l : List Pm) (hl : l.length <= 1000000) (κ : BA -> Option R) : ∀ (f i : Nat), i <= l.length -> l.length < i + f -> cy.L2 κ f (l.map bi) (B rc) (i : Int) = κ (B (fR (l.drop i)))
 | 0, i, h1, h2 => by omega
 | f + 1, i, h1, h2 => by
  have hla : (l.map bi).length = l.length := List.length_map ..
  rw [cy.L2, cy.t2, dK, hla]
  have hw1 : IntKind.wrap .i64 ((i : Int) + 1) = ((i + 1 : Nat) : Int) := wrap_i64 (by omega) (by omega)
  cases hd : l.drop i with
  | nil => have := drop_nil hd; rw [ak (by omega)]; rfl
  | cons a r =>
   obtain ⟨g1, g2, g3⟩ := cN hd
   have hr : bK (l.map bi) (i : Int) = bi a := dU (by rw [List.getElem?_map, g1]; rfl)
   have e0 : ((bi a).fld 0).s = B a.1 := rfl
   have e1 : ((bi a).fld 1).s = B a.2 := rfl
   rw [an (by omega), aw, ab (by omega), ab (by omega), hr, e0, e1, decide_eq_decide.2 (dQ (a := a.1) (b := rc)), hw1, qu l hl κ f (i + 1) (by omega) (by omega), g3, fR]
   by_cases e : a.1 = rc
   ·rw [decide_eq_true e, cond_true, if_pos e, aw, ab (by omega), ab (by omega)]
   ·rw [decide_eq_false e, cond_false, if_neg e]
theorem Eo (l : List Pm) (hl : l.length <= 1000000) (κ : BA -> Option R) : cy (l.map bi) (⟨#[98, 111, 117, 110, 100, 97, 114, 121]⟩ : BA) κ = κ (B (fR l)) := by
 have key : ∀ f, l.length < f -> cy.e (l.map bi) (B rc) (cy.L2 κ f) κ = κ (B (fR l)) := fun f h => qu l hl κ f 0 (by omega) (by omega)
 exact key ag (by unfold ag; omega)
theorem tN (F : Nat) (hF : F <= 1000000) (y0 : BA) (y1 : BA) (y2 : BA) (y3 : LA) (y4 : Bool) (y5 : BA) (y6 : Bool) (y7 : BA) (y8 : Bool) (y9 : BA) (y10 : Bool) (y11 : BA) (y12 : LA) (y13 : LA) (y14 : Bool) (y15 : BA) (y16 : Int) (y17 : Int) (y19 : Int) (y20 : Int) (κ0 : Option R) (κ1 : LA -> Option R) : ∀ (f : Nat) (d r : List (Nat × Nat)), r.length < f -> d.length + r.length <= 1000000 -> (∀ p ∈ r, p.1 <= 1000000 /\ p.2 <= 1000000) ->
  aN.qS cy bU cq κ0 κ1 f (d.length : Int) y0 y1 y2 y3 y4 y5 y6 y7 y8 y9 y10 y11 y12 y13 y14 y15 y16 y17 (F : Int) y19 y20 (d.map (fo F) ++ r.map (fo 0)) = κ1 ((d ++ r).map (fo F))
 | 0, d, r, hf, _, _ => by omega
 | f + 1, d, [], hf, h1, h2 => by
  rw [aN.qS, aN.t11]
  have : (d.map (fo F) ++ ([] : List (Nat × Nat)).map (fo 0)).length = d.length := by simp
  rw [this, ak (by omega)]
  simp
 | f + 1, d, q :: r, hf, h1, h2 => by
  simp only [List.length_cons] at hf h1
  have hq := h2 q (by simp)
  have hn : (d.map (fo F)).length = d.length := by simp
  have hw1 : IntKind.wrap .i64 ((d.length : Int) + 1) = (((d ++ [q]).length : Nat) : Int) := by
   rw [List.length_append]; exact wrap_i64 (by omega) (by omega)
  have f0 : ((fo 0 q).fld 0).i = (q.1 : Int) := by show ((0 + q.1 : Nat) : Int) = _; rw [Nat.zero_add]
  have f1 : ((fo 0 q).fld 1).i = (q.2 : Int) := by show ((0 + q.2 : Nat) : Int) = _; rw [Nat.zero_add]
  have s0 : IntKind.wrap .i64 ((q.1 : Int) + (F : Int)) = ((F + q.1 : Nat) : Int) := by rw [wrap_i64 (by omega) (by omega)]; omega
  have s1 : IntKind.wrap .i64 ((q.2 : Int) + (F : Int)) = ((F + q.2 : Nat) : Int) := by rw [wrap_i64 (by omega) (by omega)]; omega
  have g0 : ((AV.agg [AV.int ((F + q.1 : Nat) : Int), AV.int (q.2 : Int)]).fld 0).i = ((F + q.1 : Nat) : Int) := rfl
  have g1 : ((AV.agg [AV.int ((F + q.1 : Nat) : Int), AV.int (q.2 : Int)]).fld 1).i = (q.2 : Int) := rfl
  rw [aN.qS, aN.t11, List.map_cons, rR _ _ _ _ hn, f0, f1, s0, ib _ _ _ _ _ hn, rR _ _ _ _ hn, g0, g1, s1, ib _ _ _ _ _ hn]
  have len : ∀ z : AV, ((d.map (fo F) ++ z :: r.map (fo 0)).length : Int) = ((d.length + (r.length + 1) : Nat) : Int) := fun z => by simp
  rw [len, len, an (by omega), aw, ab (by omega), ab (by omega), aw, ab (by omega), ab (by omega), aw, ab (by omega), ab (by omega), aw, ab (by omega), ab (by omega), hw1]
  have IH := tN F hF y0 y1 y2 y3 y4 y5 y6 y7 y8 y9 y10 y11 y12 y13 y14 y15 y16 y17 y19 y20 κ0 κ1 f (d ++ [q]) r (by omega) (by simp; omega) (fun p hp => h2 p (by simp [hp]))
  rw [List.append_assoc, List.singleton_append] at IH
  rw [<- IH, List.map_append, List.append_assoc]
  rfl
theorem EX {w : List UInt8} {x : LV} (hcd : x.c <= x.d) (hd : x.d <= w.length) (hw : w.length <= 200000) (hps : x.v.ps.length <= 1000000) (κ0 : Option R) (κ1 : LA -> Option R) (hκ : κ0 = κ1 []) :
  aN (B w) (B x.p) (B x.v.ty) (B x.v.sub) (x.v.ps.map bi) x.v.i0 (B x.v.i1) x.v.a0 (B x.v.a1) (cY x.v.c1) (B x.v.c1) (cY x.v.p1) (B x.v.p1) (x.v.pp.map bi) (bt x.v.lg) x.v.w0 (B x.v.w1) (x.a : Int) (x.b : Int) (x.c : Int) (x.d : Int) (x.e : Int) κ0 κ1 = κ1 ((gM w x).map (fo 0)) := by
 have hbl : (dB w x).length = x.d - x.c := by unfold dB; rw [List.length_drop, List.length_take]; omega
 have hm : ∀ a b : List UInt8, decide (B a = B b) = decide (a = b) := fun a b => decide_eq_decide.2 dQ
 have key : ∀ f, 1000000 < f -> aN.e cy bU cq (B w) (B x.p) (B x.v.ty) (B x.v.sub) (x.v.ps.map bi) x.v.i0 (B x.v.i1) x.v.a0 (B x.v.a1) (cY x.v.c1) (B x.v.c1) (cY x.v.p1) (B x.v.p1) (x.v.pp.map bi) (bt x.v.lg) x.v.w0 (B x.v.w1) (x.a : Int) (x.b : Int) (x.c : Int) (x.d : Int) (x.e : Int) (aN.qS cy bU cq κ0 κ1 f) κ0 κ1 = κ1 ((gM w x).map (fo 0)) := by
  intro f hf
  have multi : ea x = false -> (cy (x.v.ps.map bi) (⟨#[98, 111, 117, 110, 100, 97, 114, 121]⟩ : BA) (fun r3230 => (bif (!decide ((B x.v.ty) = (⟨#[109, 117, 108, 116, 105, 112, 97, 114, 116]⟩ : BA))) then κ0 else (bif (decide ((r3230.size : Int) < (1 : Int))) then κ0 else (bif (decide ((r3230.size : Int) > (70 : Int))) then κ0 else (bU r3230 (fun r3231 => (bif r3231 then κ0 else (bB ((decide ((0 : Int) <= (x.c : Int))) && ((decide ((x.c : Int) <= (x.d : Int))) && (decide ((x.d : Int) <= ((B w).size : Int))))) (cq ((B w).extract ((x.c : Int)).toNat ((x.d : Int)).toNat) r3230 (fun r3237 => (aN.qS cy bU cq κ0 κ1 f 0 (B x.p) (B x.v.ty) (B x.v.sub) (x.v.ps.map bi) x.v.i0 (B x.v.i1) x.v.a0 (B x.v.a1) (cY x.v.c1) (B x.v.c1) (cY x.v.p1) (B x.v.p1) (x.v.pp.map bi) (bt x.v.lg) x.v.w0 (B x.v.w1) (x.a : Int) (x.b : Int) (x.c : Int) (x.d : Int) (x.e : Int) r3237)))))))))))) = κ1 ((gM w x).map (fo 0)) := by
   intro hmsg
   unfold gM
   rw [hmsg, if_neg (by decide), Eo _ hps, ik, show (⟨#[109, 117, 108, 116, 105, 112, 97, 114, 116]⟩ : BA) = B pa from rfl, hm]
   by_cases h1 : x.v.ty = pa
   ·rw [decide_eq_true h1, Bool.not_true, cond_false]
    by_cases h2 : (fR x.v.ps).length < 1
    ·rw [an (by omega), if_neg (by omega), hκ]; rfl
    ·rw [ak (by omega)]
     by_cases h3 : (fR x.v.ps).length > 70
     ·rw [an (by omega), if_neg (by omega), hκ]; rfl
     ·rw [ak (by omega), if_pos ⟨h1, by omega, by omega⟩, EU _ (by omega)]
      cases hc : eJ (fR x.v.ps) with
      | true =>
       rw [cond_true, tH _ _ hc _ _ (Nat.le_refl _), hκ]; rfl
      | false =>
       rw [cond_false, aw, ab (by omega), aw, ab (by omega), ab (by rw [ik]; omega), Int.toNat_natCast, Int.toNat_natCast, cU]
       show cq (B (dB w x)) _ _ = _
       rw [EY _ _ (by omega) (by omega) hc]
       have hin := rO (fR x.v.ps) (dB w x) (by omega) _ none (dB w x) (Nat.le_refl _) (List.suffix_refl _) (fun k e => by cases e)
       have hln := lB (fR x.v.ps) (dB w x) _ none (dB w x) (Nat.le_refl _)
       have := tN x.c (by omega) (B x.p) (B x.v.ty) (B x.v.sub) (x.v.ps.map bi) x.v.i0 (B x.v.i1) x.v.a0 (B x.v.a1) (cY x.v.c1) (B x.v.c1) (cY x.v.p1) (B x.v.p1) (x.v.pp.map bi) (bt x.v.lg) x.v.w0 (B x.v.w1) (x.a : Int) (x.b : Int) (x.d : Int) (x.e : Int) κ0 κ1 f [] (m8 (fR x.v.ps) (dB w x) none (dB w x)) (by omega) (by simp; omega) (fun p hp => by have := hin p hp; omega)
       refine this.trans ?_
       rw [List.map_map, List.nil_append]
       congr 1
       refine List.map_congr_left fun p _ => ?_
       show fo x.c p = fo 0 (x.c + p.1, x.c + p.2)
       unfold fo
       rw [Nat.zero_add, Nat.zero_add]
   ·rw [decide_eq_false h1, Bool.not_false, cond_true, if_neg (fun h => h1 h.1), hκ]; rfl
  unfold aN.e
  rw [show (⟨#[109, 101, 115, 115, 97, 103, 101]⟩ : BA) = B iD from rfl, show (⟨#[114, 102, 99, 56, 50, 50]⟩ : BA) = B mK from rfl, hm, hm]
  by_cases h1 : x.v.ty = iD
  ·rw [decide_eq_true h1, cond_true]
   by_cases h2 : x.v.sub = mK
   ·have hmsg : ea x = true := by unfold ea; rw [decide_eq_true h1, decide_eq_true h2]; rfl
    rw [decide_eq_true h2, cond_true]
    unfold gM
    rw [hmsg, if_pos rfl, show (⟨#[55, 98, 105, 116]⟩ : BA) = B [55, 98, 105, 116] from rfl, show (⟨#[56, 98, 105, 116]⟩ : BA) = B [56, 98, 105, 116] from rfl, show (⟨#[98, 105, 110, 97, 114, 121]⟩ : BA) = B [98, 105, 110, 97, 114, 121] from rfl, hm, hm, hm]
    have one : ([(x.c, x.d)] : List (Nat × Nat)).map (fo 0) = [AV.agg [AV.int (x.c : Int), AV.int (x.d : Int)]] := by
     show [fo 0 (x.c, x.d)] = _
     unfold fo
     rw [Nat.zero_add, Nat.zero_add]
    unfold yT
    cases cY x.v.c1 with
    | false => simp only [cond_false, Bool.not_false, Bool.true_or, if_true, one]
    | true =>
     rw [cond_true]
     by_cases g1 : x.v.c1 = [55, 98, 105, 116]
     ·simp only [decide_eq_true g1, Bool.not_true, cond_false, Bool.false_or, Bool.true_or, if_true, one]
     ·by_cases g2 : x.v.c1 = [56, 98, 105, 116]
      ·simp only [decide_eq_true g2, decide_eq_false g1, Bool.not_true, Bool.not_false, cond_false, cond_true, Bool.false_or, Bool.true_or, if_true, one]
      ·by_cases g3 : x.v.c1 = [98, 105, 110, 97, 114, 121]
       ·simp only [decide_eq_true g3, decide_eq_false g1, decide_eq_false g2, Bool.not_true, Bool.not_false, cond_false, cond_true, Bool.false_or, if_true, one]
       ·rw [decide_eq_false g3, decide_eq_false g1, decide_eq_false g2, hκ]; rfl
   ·rw [decide_eq_false h2, cond_false]
    exact multi (by unfold ea; rw [decide_eq_false h2, Bool.and_false])
  ·rw [decide_eq_false h1, cond_false]
   exact multi (by unfold ea; rw [decide_eq_false h1, Bool.false_and])
 exact key ag (by unfold ag; omega)
def ph : List Pm -> Prop
 | [] => True
 | p :: r => (∀ q ∈ r, q.1 ≠ p.1) /\ ph r
theorem qN : ∀ {a : List Pm} {p : Pm}, ph a -> (∀ q ∈ a, q.1 ≠ p.1) -> ph (a ++ [p])
 | [], p, _, _ => ⟨fun q hq => (by cases hq), trivial⟩
 | x :: a, p, h, h2 => by
  refine ⟨fun q hq => ?_, qN h.2 (fun q hq => h2 q (by simp [hq]))⟩
  rcases List.mem_append.1 hq with h3 | h3
  ·exact h.1 q h3
  ·rw [List.mem_singleton] at h3
   subst h3
   exact fun e => h2 x (by simp) e.symm
theorem oW : ∀ (n : Nat) (a : List Pm) (r : List UInt8), ph a -> a.length <= 12 -> ph (yr n a r) /\ (yr n a r).length <= 12
 | 0, a, r, h, h2 => by rw [yr]; exact ⟨h, h2⟩
 | n + 1, a, r, h, h2 => by
  rw [yr]
  by_cases c : a.length < 12
  ·rw [if_pos c]
   cases e : AD r with
   | none => exact ⟨h, h2⟩
   | some z =>
    obtain ⟨m, v, r'⟩ := z
    simp only
    cases e2 : a.any (fun p => p.1 == m) with
    | true => rw [if_pos rfl]; exact oW n a r' h h2
    | false =>
     rw [if_neg (by decide)]
     refine oW n _ r' (qN h fun q hq e3 => ?_) (by simp; omega)
     have := List.any_eq_false.1 e2 q hq
     exact this (by simpa using e3)
  ·rw [if_neg c]; exact ⟨h, h2⟩
theorem Ar (h : List UInt8) (dg : Bool) : ph (xF h dg).ps /\ (xF h dg).ps.length <= 12 := by
 show ph (u7 (gV h (⟨#[67, 111, 110, 116, 101, 110, 116, 45, 84, 121, 112, 101]⟩ : BA)) dg).2.2 /\ (u7 (gV h (⟨#[67, 111, 110, 116, 101, 110, 116, 45, 84, 121, 112, 101]⟩ : BA)) dg).2.2.length <= 12
 unfold u7
 cases u9 (gV h (⟨#[67, 111, 110, 116, 101, 110, 116, 45, 84, 121, 112, 101]⟩ : BA)) with
 | some q => exact oW _ [] _ trivial (by simp)
 | none =>
  cases dg with
  | true => exact ⟨trivial, by simp⟩
  | false => exact ⟨⟨fun q hq => (by cases hq), trivial⟩, by show Et.length <= 12; decide⟩
theorem wY : ∀ {l : List Pm}, (∀ q ∈ l, q.1 ≠ rc) -> fR l = []
 | [], _ => rfl
 | p :: r, h => by rw [fR, if_neg (h p (by simp))]; exact wY fun q hq => h q (by simp [hq])
theorem tc {w : List UInt8} {x : LV} (hcd : x.c <= x.d) (hd : x.d <= w.length) (hw : w.length <= 200000) (a1 : Int) (κ0 : BA -> Int -> BA -> BA -> BA -> LA -> Bool -> BA -> Bool -> BA -> Bool -> BA -> Bool -> BA -> LA -> LA -> Bool -> BA -> Int -> Int -> Int -> Int -> Int -> Option R) (κ1 : LA -> BA -> Int -> BA -> BA -> BA -> LA -> Bool -> BA -> Bool -> BA -> Bool -> BA -> Bool -> BA -> LA -> LA -> Bool -> BA -> Int -> Int -> Int -> Int -> Int -> Option R) (l : List Pm) (hl : l.length <= 1000000) : ∀ (f i : Nat), i <= l.length -> l.length < i + f -> ph (l.drop i) ->
  aB.L8 bD bm κ0 κ1 f (l.map bi) (l.length : Int) (i : Int) (B x.p) (B x.v.ty) (B x.v.sub) (x.v.ps.map bi) x.v.i0 (B x.v.i1) x.v.a0 (B x.v.a1) (cY x.v.c1) (B x.v.c1) (cY x.v.p1) (B x.v.p1) (x.v.pp.map bi) (bt x.v.lg) x.v.w0 (B x.v.w1) (x.a : Int) (x.b : Int) (x.c : Int) (x.d : Int) (x.e : Int) (B w) a1 = if 1 <= (fR (l.drop i)).length /\ (fR (l.drop i)).length <= 70 then κ1 ((m8 (fR (l.drop i)) (dB w x) none (dB w x)).map (fo x.c)) (B w) a1 (B x.p) (B x.v.ty) (B x.v.sub) (x.v.ps.map bi) x.v.i0 (B x.v.i1) x.v.a0 (B x.v.a1) (cY x.v.c1) (B x.v.c1) (cY x.v.p1) (B x.v.p1) (x.v.pp.map bi) (bt x.v.lg) x.v.w0 (B x.v.w1) (x.a : Int) (x.b : Int) (x.c : Int) (x.d : Int) (x.e : Int) else κ0 (B w) a1 (B x.p) (B x.v.ty) (B x.v.sub) (x.v.ps.map bi) x.v.i0 (B x.v.i1) x.v.a0 (B x.v.a1) (cY x.v.c1) (B x.v.c1) (cY x.v.p1) (B x.v.p1) (x.v.pp.map bi) (bt x.v.lg) x.v.w0 (B x.v.w1) (x.a : Int) (x.b : Int) (x.c : Int) (x.d : Int) (x.e : Int)
 | 0, i, h1, h2, _ => by omega
 | f + 1, i, h1, h2, hu => by
  have hla : (l.map bi).length = l.length := List.length_map ..
  have hbl : (dB w x).length = x.d - x.c := by unfold dB; rw [List.length_drop, List.length_take]; omega
  rw [aB.L8, aB.t8, hla]
  have hw1 : IntKind.wrap .i64 ((i : Int) + 1) = ((i + 1 : Nat) : Int) := wrap_i64 (by omega) (by omega)
  cases hdr : l.drop i with
  | nil => have := drop_nil hdr; rw [ak (by omega), fR, if_neg (by simp)]
  | cons a r =>
   obtain ⟨g1, g2, g3⟩ := cN hdr
   rw [hdr] at hu
   have hr : bK (l.map bi) (i : Int) = bi a := dU (by rw [List.getElem?_map, g1]; rfl)
   have e0 : ((bi a).fld 0).s = B a.1 := rfl
   have e1 : ((bi a).fld 1).s = B a.2 := rfl
   rw [an (by omega), aw, ab (by omega), ab (by omega), hr, e0, e1, show (⟨#[98, 111, 117, 110, 100, 97, 114, 121]⟩ : BA) = B rc from rfl, decide_eq_decide.2 (dQ (a := a.1) (b := rc)), hw1, tc hcd hd hw a1 κ0 κ1 l hl f (i + 1) (by omega) (by omega) (by rw [g3]; exact hu.2), g3, fR, ik]
   by_cases e : a.1 = rc
   ·have hno : fR r = [] := wY fun q hq e3 => hu.1 q hq (e3.trans e.symm)
    rw [decide_eq_true e, cond_true, if_pos e, hno]
    by_cases c1 : a.2.length >= 1
    ·rw [an (by omega)]
     by_cases c2 : a.2.length <= 70
     ·rw [an (by omega), if_pos ⟨c1, c2⟩]
      have hcut := Ed (R := R) a.2 (dB w x) w x.c (by rw [hbl]; show _ = (w.take x.d).drop x.c; rw [show x.c + (x.d - x.c) = x.d by omega]) (by omega) (by omega) (by omega) a1
      rw [hbl, show x.c + (x.d - x.c) = x.d by omega] at hcut
      rw [hcut]
     ·rw [ak (by omega), if_neg (by simp), if_neg (by omega)]
    ·rw [ak (by omega), if_neg (by simp), if_neg (by omega)]
   ·rw [decide_eq_false e, cond_false, if_neg e]
theorem Ee (x : LV) (κ : Bool -> BA -> BA -> BA -> LA -> Bool -> BA -> Bool -> BA -> Bool -> BA -> Bool -> BA -> LA -> LA -> Bool -> BA -> Int -> Int -> Int -> Int -> Int -> Option R) : bD (B x.p) (B x.v.ty) (B x.v.sub) (x.v.ps.map bi) x.v.i0 (B x.v.i1) x.v.a0 (B x.v.a1) (cY x.v.c1) (B x.v.c1) (cY x.v.p1) (B x.v.p1) (x.v.pp.map bi) (bt x.v.lg) x.v.w0 (B x.v.w1) (x.a : Int) (x.b : Int) (x.c : Int) (x.d : Int) (x.e : Int) κ = κ (ea x) (B x.p) (B x.v.ty) (B x.v.sub) (x.v.ps.map bi) x.v.i0 (B x.v.i1) x.v.a0 (B x.v.a1) (cY x.v.c1) (B x.v.c1) (cY x.v.p1) (B x.v.p1) (x.v.pp.map bi) (bt x.v.lg) x.v.w0 (B x.v.w1) (x.a : Int) (x.b : Int) (x.c : Int) (x.d : Int) (x.e : Int) := by
 have hm : ∀ a b : List UInt8, decide (B a = B b) = decide (a = b) := fun a b => decide_eq_decide.2 dQ
 unfold bD bD.e
 rw [show (⟨#[109, 101, 115, 115, 97, 103, 101]⟩ : BA) = B iD from rfl, show (⟨#[114, 102, 99, 56, 50, 50]⟩ : BA) = B mK from rfl, hm, hm]
 unfold ea
 cases decide (x.v.ty = iD) with
 | true => rw [cond_true, Bool.true_and]
 | false => rw [cond_false, Bool.false_and]
theorem ER {w : List UInt8} {x : LV} (hcd : x.c <= x.d) (hd : x.d <= w.length) (hw : w.length <= 200000) (hu : ph x.v.ps) (hps : x.v.ps.length <= 1000000) (a1 : Int) (κ0 : BA -> Int -> BA -> BA -> BA -> LA -> Bool -> BA -> Bool -> BA -> Bool -> BA -> Bool -> BA -> LA -> LA -> Bool -> BA -> Int -> Int -> Int -> Int -> Int -> Option R) (κ1 : LA -> BA -> Int -> BA -> BA -> BA -> LA -> Bool -> BA -> Bool -> BA -> Bool -> BA -> Bool -> BA -> LA -> LA -> Bool -> BA -> Int -> Int -> Int -> Int -> Int -> Option R) (hκ : κ0 (B w) a1 (B x.p) (B x.v.ty) (B x.v.sub) (x.v.ps.map bi) x.v.i0 (B x.v.i1) x.v.a0 (B x.v.a1) (cY x.v.c1) (B x.v.c1) (cY x.v.p1) (B x.v.p1) (x.v.pp.map bi) (bt x.v.lg) x.v.w0 (B x.v.w1) (x.a : Int) (x.b : Int) (x.c : Int) (x.d : Int) (x.e : Int) = κ1 [] (B w) a1 (B x.p) (B x.v.ty) (B x.v.sub) (x.v.ps.map bi) x.v.i0 (B x.v.i1) x.v.a0 (B x.v.a1) (cY x.v.c1) (B x.v.c1) (cY x.v.p1) (B x.v.p1) (x.v.pp.map bi) (bt x.v.lg) x.v.w0 (B x.v.w1) (x.a : Int) (x.b : Int) (x.c : Int) (x.d : Int) (x.e : Int)) :
  aB (B w) a1 (B x.p) (B x.v.ty) (B x.v.sub) (x.v.ps.map bi) x.v.i0 (B x.v.i1) x.v.a0 (B x.v.a1) (cY x.v.c1) (B x.v.c1) (cY x.v.p1) (B x.v.p1) (x.v.pp.map bi) (bt x.v.lg) x.v.w0 (B x.v.w1) (x.a : Int) (x.b : Int) (x.c : Int) (x.d : Int) (x.e : Int) κ0 κ1 = κ1 ((gM w x).map (fo 0)) (B w) a1 (B x.p) (B x.v.ty) (B x.v.sub) (x.v.ps.map bi) x.v.i0 (B x.v.i1) x.v.a0 (B x.v.a1) (cY x.v.c1) (B x.v.c1) (cY x.v.p1) (B x.v.p1) (x.v.pp.map bi) (bt x.v.lg) x.v.w0 (B x.v.w1) (x.a : Int) (x.b : Int) (x.c : Int) (x.d : Int) (x.e : Int) := by
 have hm : ∀ a b : List UInt8, decide (B a = B b) = decide (a = b) := fun a b => decide_eq_decide.2 dQ
 have hla : (x.v.ps.map bi).length = x.v.ps.length := List.length_map ..
 have key : ∀ f, 1000000 < f -> aB.e bD bm (B w) a1 (B x.p) (B x.v.ty) (B x.v.sub) (x.v.ps.map bi) x.v.i0 (B x.v.i1) x.v.a0 (B x.v.a1) (cY x.v.c1) (B x.v.c1) (cY x.v.p1) (B x.v.p1) (x.v.pp.map bi) (bt x.v.lg) x.v.w0 (B x.v.w1) (x.a : Int) (x.b : Int) (x.c : Int) (x.d : Int) (x.e : Int) (aB.L8 bD bm κ0 κ1 f) κ0 κ1 = κ1 ((gM w x).map (fo 0)) (B w) a1 (B x.p) (B x.v.ty) (B x.v.sub) (x.v.ps.map bi) x.v.i0 (B x.v.i1) x.v.a0 (B x.v.a1) (cY x.v.c1) (B x.v.c1) (cY x.v.p1) (B x.v.p1) (x.v.pp.map bi) (bt x.v.lg) x.v.w0 (B x.v.w1) (x.a : Int) (x.b : Int) (x.c : Int) (x.d : Int) (x.e : Int) := by
  intro f hf
  unfold aB.e
  rw [Ee]
  unfold gM
  cases hmsg : ea x with
  | true =>
   rw [cond_true, if_pos rfl, show (⟨#[55, 98, 105, 116]⟩ : BA) = B [55, 98, 105, 116] from rfl, show (⟨#[56, 98, 105, 116]⟩ : BA) = B [56, 98, 105, 116] from rfl, show (⟨#[98, 105, 110, 97, 114, 121]⟩ : BA) = B [98, 105, 110, 97, 114, 121] from rfl, hm, hm, hm]
   have one : ([(x.c, x.d)] : List (Nat × Nat)).map (fo 0) = [AV.agg [AV.int (x.c : Int), AV.int (x.d : Int)]] := by
    show [fo 0 (x.c, x.d)] = _
    unfold fo
    rw [Nat.zero_add, Nat.zero_add]
   unfold yT
   cases he : cY x.v.c1 with
   | false => simp only [cond_false, Bool.not_false, Bool.true_or, if_true, one, he]
   | true =>
    rw [cond_true]
    by_cases g1 : x.v.c1 = [55, 98, 105, 116]
    ·simp only [decide_eq_true g1, Bool.not_true, cond_false, Bool.false_or, Bool.true_or, if_true, one, he]
    ·by_cases g2 : x.v.c1 = [56, 98, 105, 116]
     ·simp only [decide_eq_true g2, decide_eq_false g1, Bool.not_true, Bool.not_false, cond_false, cond_true, Bool.false_or, Bool.true_or, if_true, one, he]
     ·by_cases g3 : x.v.c1 = [98, 105, 110, 97, 114, 121]
      ·simp only [decide_eq_true g3, decide_eq_false g1, decide_eq_false g2, Bool.not_true, Bool.not_false, cond_false, cond_true, Bool.false_or, if_true, one, he]
      ·rw [he] at hκ
       rw [decide_eq_false g3, decide_eq_false g1, decide_eq_false g2]
       exact hκ
  | false =>
   rw [cond_false, if_neg (by decide), show (⟨#[109, 117, 108, 116, 105, 112, 97, 114, 116]⟩ : BA) = B pa from rfl, hm, hla]
   by_cases h1 : x.v.ty = pa
   ·rw [decide_eq_true h1, Bool.not_true, cond_false]
    refine (tc hcd hd hw a1 κ0 κ1 x.v.ps hps f 0 (by omega) (by omega) (by rw [List.drop_zero]; exact hu)).trans ?_
    rw [List.drop_zero]
    by_cases h2 : 1 <= (fR x.v.ps).length /\ (fR x.v.ps).length <= 70
    ·rw [if_pos h2, if_pos ⟨h1, h2.1, h2.2⟩, List.map_map]
     congr 1
     refine List.map_congr_left fun p _ => ?_
     show fo x.c p = fo 0 (x.c + p.1, x.c + p.2)
     unfold fo
     rw [Nat.zero_add, Nat.zero_add]
    ·rw [if_neg h2, if_neg (fun h => h2 ⟨h.2.1, h.2.2⟩)]; exact hκ
   ·rw [decide_eq_false h1, Bool.not_false, cond_true, if_neg (fun h => h1 h.1)]; exact hκ
 exact key ag (by unfold ag; omega)
def dX : List UInt8 -> Nat
 | [] => 0
 | c :: t => (if c = 13 /\ t.head? = some 10 then 1 else 0) + dX t
theorem sy : ∀ (r : List UInt8), dX r = match (eV r).2 with
  | none => 0
  | some u => 1 + dX u
 | [] => rfl
 | c :: t => by
  by_cases e : c = 13 /\ t.head? = some 10
  ·have e' := e
   obtain ⟨rfl, e2⟩ := e
   rw [l9 e2, fJ, dX, if_pos ⟨rfl, rfl⟩, dX, if_neg (by simp)]
   simp only; omega
  ·rw [eW e, dX, if_neg e, sy t, Nat.zero_add]
theorem oE (s : List UInt8) (hs : s.length <= 1000000) (κ : Int -> Option R) : ∀ (f : Nat) (r : List UInt8) (n : Nat), r <:+ s -> r.length < f -> n + r.length <= 1000000 -> br.L3 κ f (B s) (n : Int) (pl s r) = κ ((n + dX r : Nat) : Int)
 | 0, r, n, _, hf, _ => by omega
 | f + 1, r, n, h, hf, hn => by
  rw [br.L3, br.t3, ik]
  cases r with
  | nil => rw [du, wrap_i64 (by omega) (by omega), ak (by omega)]; rfl
  | cons c t =>
   have h1 := eg h
   have h2 := dO (s := s) (r := c :: t)
   have ht := dH h
   simp only [List.length_cons] at hf hn
   rw [fM h hs]
   cases t with
   | nil =>
    rw [du, ak (by omega)]
    have : dX [c] = 0 := by simp [dX]
    rw [this]; rfl
   | cons d u =>
    have g1 := eg ht
    have g2 := dO (s := s) (r := d :: u)
    rw [an g1, aw, ab h2.1, ab h1, eo h]
    have hw : IntKind.wrap .i64 ((n : Int) + 1) = ((n + 1 : Nat) : Int) := wrap_i64 (by omega) (by omega)
    have go : ¬ (c = 13 /\ d = 10) -> br.L3 κ f (B s) (n : Int) (pl s (d :: u)) = κ ((n + dX (c :: d :: u) : Nat) : Int) := fun e => by
     rw [oE s hs κ f (d :: u) n ht (by omega) (by omega)]
     have : dX (c :: d :: u) = dX (d :: u) := by
      rw [dX.eq_def (c :: d :: u)]
      simp only
      rw [if_neg (by simpa using e), Nat.zero_add]
     rw [this]
    by_cases c1 : c = 13
    ·rw [iR 13 rfl c1, cond_true, aw, ab g2.1, ab g1, eo ht]
     by_cases c2 : d = 10
     ·rw [iR 10 rfl c2, cond_true, hw, oE s hs κ f (d :: u) (n + 1) ht (by omega) (by omega)]
      have : dX (c :: d :: u) = 1 + dX (d :: u) := by
       rw [dX.eq_def (c :: d :: u)]
       simp only
       rw [if_pos ⟨c1, by simp [c2]⟩]
      rw [this]
      congr 2; omega
     ·rw [il 10 rfl c2, cond_false]
      exact go (fun e => c2 e.2)
    ·rw [il 13 rfl c1, cond_false]
     exact go (fun e => c1 e.1)
theorem EW (s : List UInt8) (hs : s.length <= 900000) (κ : Int -> Option R) : br (B s) κ = κ (dX s : Int) := by
 have key : ∀ f, 1000000 < f -> br.e (B s) (br.L3 κ f) κ = κ (dX s : Int) := fun f hf => by
  have := oE s (by omega) κ f s 0 (List.suffix_refl _) (by omega) (by omega)
  rw [jB, Nat.zero_add] at this
  exact this
 exact key ag (by unfold ag; omega)
theorem sX (κ : Int -> Option R) : ∀ (f : Nat) (r : List UInt8) (n : Nat), r.length < f -> n + r.length <= 1000000 -> bC.L6 aO aP κ f (B r) (⟨#[13, 10]⟩ : BA) (n : Int) = κ ((n + dX r : Nat) : Int)
 | 0, r, n, hf, _ => by omega
 | f + 1, r, n, hf, hn => by
  have hsz : (((⟨#[13, 10]⟩ : BA).size : Nat) : Int) = 2 := rfl
  rw [bC.L6, bC.t6, show (⟨#[13, 10]⟩ : BA) = B [13, 10] from rfl, n5 r _ (by omega), mf, sy]
  rw [show B [13, 10] = (⟨#[13, 10]⟩ : BA) from rfl, hsz]
  cases e : (eV r).2 with
  | none => simp only; rw [fS rfl]; rfl
  | some u =>
   have hsp := jx e
   have hul : (eV r).1.length + 2 + u.length = r.length := by
    have := congrArg List.length hsp
    simp only [List.length_append, List.length_cons] at this; omega
   have w1 : IntKind.wrap .i64 (((eV r).1.length : Int) + 2) = (((eV r).1.length + 2 : Nat) : Int) := wrap_i64 (by omega) (by omega)
   have w2 : IntKind.wrap .i64 ((n : Int) + 1) = ((n + 1 : Nat) : Int) := wrap_i64 (by omega) (by omega)
   simp only
   rw [fB (by omega), cond_false, w1, w2, ik, aw, ab (by omega), aw, ab (by omega), ab (by omega), Int.toNat_natCast, Int.toNat_natCast, cU, List.take_length]
   have : r.drop ((eV r).1.length + 2) = u := by
    have h2 : ((eV r).1 ++ 13 :: 10 :: u).drop ((eV r).1.length + 2) = u := by rw [<- List.drop_drop, List.drop_left]; rfl
    rw [<- hsp] at h2
    exact h2
   rw [this, sX κ f u (n + 1) (by omega) (by omega)]
   congr 2; omega
theorem EP (s : List UInt8) (hs : s.length <= 900000) (κ : Int -> Option R) : bC (B s) (⟨#[13, 10]⟩ : BA) κ = κ (dX s : Int) := by
 have key : ∀ f, 1000000 < f -> bC.e aO aP (B s) (⟨#[13, 10]⟩ : BA) (bC.L6 aO aP κ f) κ = κ (dX s : Int) := fun f hf => by
  have := sX κ f s 0 (by omega) (by omega)
  rw [Nat.zero_add] at this
  exact this
 exact key ag (by unfold ag; omega)
def xn (k : Nat) : List UInt8 := if k < 10 then [UInt8.ofNat (48 + k)] else [49, UInt8.ofNat (38 + k)]
theorem CA (κ : BA -> Option R) : b9 1 κ = κ (⟨#[49]⟩ : BA) := by kernel_rfl
theorem Ci (κ : BA -> Option R) : bc 1 κ = κ (⟨#[49]⟩ : BA) := by kernel_rfl
theorem CC (κ : BA -> Option R) : b9 2 κ = κ (⟨#[50]⟩ : BA) := by kernel_rfl
theorem Cj (κ : BA -> Option R) : bc 2 κ = κ (⟨#[50]⟩ : BA) := by kernel_rfl
theorem CD (κ : BA -> Option R) : b9 3 κ = κ (⟨#[51]⟩ : BA) := by kernel_rfl
theorem Ck (κ : BA -> Option R) : bc 3 κ = κ (⟨#[51]⟩ : BA) := by kernel_rfl
theorem CE (κ : BA -> Option R) : b9 4 κ = κ (⟨#[52]⟩ : BA) := by kernel_rfl
theorem Cl (κ : BA -> Option R) : bc 4 κ = κ (⟨#[52]⟩ : BA) := by kernel_rfl
theorem CF (κ : BA -> Option R) : b9 5 κ = κ (⟨#[53]⟩ : BA) := by kernel_rfl
theorem Cm (κ : BA -> Option R) : bc 5 κ = κ (⟨#[53]⟩ : BA) := by kernel_rfl
theorem CG (κ : BA -> Option R) : b9 6 κ = κ (⟨#[54]⟩ : BA) := by kernel_rfl
theorem Cn (κ : BA -> Option R) : bc 6 κ = κ (⟨#[54]⟩ : BA) := by kernel_rfl
theorem CH (κ : BA -> Option R) : b9 7 κ = κ (⟨#[55]⟩ : BA) := by kernel_rfl
theorem Co (κ : BA -> Option R) : bc 7 κ = κ (⟨#[55]⟩ : BA) := by kernel_rfl
theorem CI (κ : BA -> Option R) : b9 8 κ = κ (⟨#[56]⟩ : BA) := by kernel_rfl
theorem Cp (κ : BA -> Option R) : bc 8 κ = κ (⟨#[56]⟩ : BA) := by kernel_rfl
theorem CJ (κ : BA -> Option R) : b9 9 κ = κ (⟨#[57]⟩ : BA) := by kernel_rfl
theorem Cq (κ : BA -> Option R) : bc 9 κ = κ (⟨#[57]⟩ : BA) := by kernel_rfl
theorem Bd (κ : BA -> Option R) : b9 10 κ = κ (⟨#[49, 48]⟩ : BA) := by kernel_rfl
theorem AR (κ : BA -> Option R) : bc 10 κ = κ (⟨#[49, 48]⟩ : BA) := by kernel_rfl
theorem Be (κ : BA -> Option R) : b9 11 κ = κ (⟨#[49, 49]⟩ : BA) := by kernel_rfl
theorem AU (κ : BA -> Option R) : bc 11 κ = κ (⟨#[49, 49]⟩ : BA) := by kernel_rfl
theorem Bf (κ : BA -> Option R) : b9 12 κ = κ (⟨#[49, 50]⟩ : BA) := by kernel_rfl
theorem AW (κ : BA -> Option R) : bc 12 κ = κ (⟨#[49, 50]⟩ : BA) := by kernel_rfl
theorem Bg (κ : BA -> Option R) : b9 13 κ = κ (⟨#[49, 51]⟩ : BA) := by kernel_rfl
theorem AX (κ : BA -> Option R) : bc 13 κ = κ (⟨#[49, 51]⟩ : BA) := by kernel_rfl
theorem Bh (κ : BA -> Option R) : b9 14 κ = κ (⟨#[49, 52]⟩ : BA) := by kernel_rfl
theorem AY (κ : BA -> Option R) : bc 14 κ = κ (⟨#[49, 52]⟩ : BA) := by kernel_rfl
theorem Bi (κ : BA -> Option R) : b9 15 κ = κ (⟨#[49, 53]⟩ : BA) := by kernel_rfl
theorem AZ (κ : BA -> Option R) : bc 15 κ = κ (⟨#[49, 53]⟩ : BA) := by kernel_rfl
theorem Bj (κ : BA -> Option R) : b9 16 κ = κ (⟨#[49, 54]⟩ : BA) := by kernel_rfl
theorem A0 (κ : BA -> Option R) : bc 16 κ = κ (⟨#[49, 54]⟩ : BA) := by kernel_rfl
theorem zB (κ : BA -> Option R) : ∀ k : Nat, 1 <= k -> k <= 16 -> b9 (k : Int) κ = κ (B (xn k))
 | 0, h, _ => by omega
 | 1, _, _ => CA κ
 | 2, _, _ => CC κ
 | 3, _, _ => CD κ
 | 4, _, _ => CE κ
 | 5, _, _ => CF κ
 | 6, _, _ => CG κ
 | 7, _, _ => CH κ
 | 8, _, _ => CI κ
 | 9, _, _ => CJ κ
 | 10, _, _ => Bd κ
 | 11, _, _ => Be κ
 | 12, _, _ => Bf κ
 | 13, _, _ => Bg κ
 | 14, _, _ => Bh κ
 | 15, _, _ => Bi κ
 | 16, _, _ => Bj κ
 | k + 17, _, h => by omega
theorem yX (κ : BA -> Option R) : ∀ k : Nat, 1 <= k -> k <= 16 -> bc (k : Int) κ = κ (B (xn k))
 | 0, h, _ => by omega
 | 1, _, _ => Ci κ
 | 2, _, _ => Cj κ
 | 3, _, _ => Ck κ
 | 4, _, _ => Cl κ
 | 5, _, _ => Cm κ
 | 6, _, _ => Cn κ
 | 7, _, _ => Co κ
 | 8, _, _ => Cp κ
 | 9, _, _ => Cq κ
 | 10, _, _ => AR κ
 | 11, _, _ => AU κ
 | 12, _, _ => AW κ
 | 13, _, _ => AX κ
 | 14, _, _ => AY κ
 | 15, _, _ => AZ κ
 | 16, _, _ => A0 κ
 | k + 17, _, h => by omega
theorem nG (k : Nat) : (xn k).length <= 2 := by unfold xn; split <;> simp
def vM (p : List UInt8) (k : Nat) : List UInt8 := if p = [] then xn k else p ++ 46 :: xn k
theorem rZ (p : List UInt8) (k : Nat) : (vM p k).length <= p.length + 3 := by
 have := nG k
 unfold vM
 split
 ·omega
 ·simp; omega
theorem DO (p : List UInt8) (hp : p.length <= 1000000) (k : Nat) (h1 : 1 <= k) (h2 : k <= 16) (κ : BA -> Option R) : bf (B p) (k : Int) κ = κ (B (vM p k)) := by
 have := nG k
 unfold bf bf.e vM
 rw [dK, A3]
 by_cases c : p = []
 ·rw [decide_eq_true c, cond_true, if_pos c, yX _ k h1 h2]
 ·rw [decide_eq_false c, cond_false, if_neg c, show (⟨#[46]⟩ : BA) = B [46] from rfl, cg, cg, ab (by simp only [List.length_cons, List.length_nil]; omega), yX _ k h1 h2, gC, cg, cg, ab (by simp only [List.length_append, List.length_cons, List.length_nil]; omega), gC, List.append_assoc]; rfl
def cM (x : LV) (is : Bool) (k : Nat) : List UInt8 := if ea x then (if is then vM x.p k else x.p) else vM x.p k
theorem BO (x : LV) (k : LA) (κ : Bool -> BA -> BA -> BA -> LA -> Bool -> BA -> Bool -> BA -> Bool -> BA -> Bool -> BA -> LA -> LA -> Bool -> BA -> Int -> Int -> Int -> Int -> Int -> LA -> Option R) : az (B x.p) (B x.v.ty) (B x.v.sub) (x.v.ps.map bi) x.v.i0 (B x.v.i1) x.v.a0 (B x.v.a1) (cY x.v.c1) (B x.v.c1) (cY x.v.p1) (B x.v.p1) (x.v.pp.map bi) (bt x.v.lg) x.v.w0 (B x.v.w1) (x.a : Int) (x.b : Int) (x.c : Int) (x.d : Int) (x.e : Int) k κ = κ (ea x) (B x.p) (B x.v.ty) (B x.v.sub) (x.v.ps.map bi) x.v.i0 (B x.v.i1) x.v.a0 (B x.v.a1) (cY x.v.c1) (B x.v.c1) (cY x.v.p1) (B x.v.p1) (x.v.pp.map bi) (bt x.v.lg) x.v.w0 (B x.v.w1) (x.a : Int) (x.b : Int) (x.c : Int) (x.d : Int) (x.e : Int) k := by
 have hm : ∀ a b : List UInt8, decide (B a = B b) = decide (a = b) := fun a b => decide_eq_decide.2 dQ
 unfold az az.e
 rw [show (⟨#[109, 101, 115, 115, 97, 103, 101]⟩ : BA) = B iD from rfl, show (⟨#[114, 102, 99, 56, 50, 50]⟩ : BA) = B mK from rfl, hm, hm]
 unfold ea
 cases decide (x.v.ty = iD) with
 | true => rw [cond_true, Bool.true_and]
 | false => rw [cond_false, Bool.false_and]
theorem BP (x : LV) (k : LA) (κ : Bool -> BA -> BA -> BA -> LA -> Bool -> BA -> Bool -> BA -> Bool -> BA -> Bool -> BA -> LA -> LA -> Bool -> BA -> Int -> Int -> Int -> Int -> Int -> LA -> Option R) : aI (B x.p) (B x.v.ty) (B x.v.sub) (x.v.ps.map bi) x.v.i0 (B x.v.i1) x.v.a0 (B x.v.a1) (cY x.v.c1) (B x.v.c1) (cY x.v.p1) (B x.v.p1) (x.v.pp.map bi) (bt x.v.lg) x.v.w0 (B x.v.w1) (x.a : Int) (x.b : Int) (x.c : Int) (x.d : Int) (x.e : Int) k κ = κ (ea x) (B x.p) (B x.v.ty) (B x.v.sub) (x.v.ps.map bi) x.v.i0 (B x.v.i1) x.v.a0 (B x.v.a1) (cY x.v.c1) (B x.v.c1) (cY x.v.p1) (B x.v.p1) (x.v.pp.map bi) (bt x.v.lg) x.v.w0 (B x.v.w1) (x.a : Int) (x.b : Int) (x.c : Int) (x.d : Int) (x.e : Int) k := by
 have hm : ∀ a b : List UInt8, decide (B a = B b) = decide (a = b) := fun a b => decide_eq_decide.2 dQ
 unfold aI aI.e
 rw [show (⟨#[109, 101, 115, 115, 97, 103, 101]⟩ : BA) = B iD from rfl, show (⟨#[114, 102, 99, 56, 50, 50]⟩ : BA) = B mK from rfl, hm, hm]
 unfold ea
 cases decide (x.v.ty = iD) with
 | true => rw [cond_true, Bool.true_and]
 | false => rw [cond_false, Bool.false_and]
theorem Ef (x : LV) (hp : x.p.length <= 1000000) (l : LA) (deep : Nat) (ins : Bool) (k : Nat) (h1 : 1 <= k) (h2 : k <= 16) (κ : BA -> BA -> BA -> BA -> LA -> Bool -> BA -> Bool -> BA -> Bool -> BA -> Bool -> BA -> LA -> LA -> Bool -> BA -> Int -> Int -> Int -> Int -> Int -> LA -> Option R) :
  bI (B x.p) (B x.v.ty) (B x.v.sub) (x.v.ps.map bi) x.v.i0 (B x.v.i1) x.v.a0 (B x.v.a1) (cY x.v.c1) (B x.v.c1) (cY x.v.p1) (B x.v.p1) (x.v.pp.map bi) (bt x.v.lg) x.v.w0 (B x.v.w1) (x.a : Int) (x.b : Int) (x.c : Int) (x.d : Int) (x.e : Int) l (deep : Int) ins (k : Int) κ = κ (B (cM x (ins || decide (deep = 0)) k)) (B x.p) (B x.v.ty) (B x.v.sub) (x.v.ps.map bi) x.v.i0 (B x.v.i1) x.v.a0 (B x.v.a1) (cY x.v.c1) (B x.v.c1) (cY x.v.p1) (B x.v.p1) (x.v.pp.map bi) (bt x.v.lg) x.v.w0 (B x.v.w1) (x.a : Int) (x.b : Int) (x.c : Int) (x.d : Int) (x.e : Int) l := by
 have hd := nG k
 have low : ∀ κ : BA -> Option R, (bif decide (B x.p = ⟨#[]⟩) then b9 (k : Int) κ else (bB (decide ((B x.p).size + (⟨#[46]⟩ : BA).size <= 9223372036854775807)) (b9 (k : Int) (fun r => (bB (decide ((B x.p ++ (⟨#[46]⟩ : BA)).size + r.size <= 9223372036854775807)) (κ ((B x.p ++ (⟨#[46]⟩ : BA)) ++ r))))))) = κ (B (vM x.p k)) := by
  intro κ
  unfold vM
  rw [dK, A3]
  by_cases c : x.p = []
  ·rw [decide_eq_true c, cond_true, if_pos c, zB _ k h1 h2]
  ·rw [decide_eq_false c, cond_false, if_neg c, show (⟨#[46]⟩ : BA) = B [46] from rfl, cg, cg, ab (by simp only [List.length_cons, List.length_nil]; omega), zB _ k h1 h2, gC, cg, cg, ab (by simp only [List.length_append, List.length_cons, List.length_nil]; omega), gC, List.append_assoc]; rfl
 unfold bI bI.e
 rw [BO]
 unfold cM
 have low' := low (fun y => κ y (B x.p) (B x.v.ty) (B x.v.sub) (x.v.ps.map bi) x.v.i0 (B x.v.i1) x.v.a0 (B x.v.a1) (cY x.v.c1) (B x.v.c1) (cY x.v.p1) (B x.v.p1) (x.v.pp.map bi) (bt x.v.lg) x.v.w0 (B x.v.w1) (x.a : Int) (x.b : Int) (x.c : Int) (x.d : Int) (x.e : Int) l)
 cases hm : ea x with
 | false =>
  rw [cond_false, if_neg (by decide)]
  exact low'
 | true =>
  rw [cond_true, if_pos rfl]
  by_cases hdp : deep = 0
  ·rw [ak (by omega), decide_eq_true hdp, Bool.or_true, if_pos rfl]
   exact low'
  ·rw [an (by omega), decide_eq_false hdp, Bool.or_false]
   cases ins with
   | false => rw [Bool.not_false, cond_true, if_neg (by decide)]
   | true =>
    rw [Bool.not_true, cond_false, if_pos rfl]
    exact low'
end Go.Proofs.Ab
