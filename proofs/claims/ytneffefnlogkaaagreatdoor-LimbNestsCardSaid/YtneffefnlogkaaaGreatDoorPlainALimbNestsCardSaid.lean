/- The plain functions of program and document say the same (conditions: those of each lemma). -/
import Derived.Test.YtneffefnlogkaaaGreatDoorAbC
import Derived.IntWalk
import Derived.Test.YtneffefnlogkaaaGreatDoorText
import Derived.Lib.IndexLaws
import Derived.KernelRfl
set_option linter.unusedVariables false
set_option linter.unusedSimpArgs false
set_option maxRecDepth 4000
namespace Go.Proofs.Ab
open Go
variable {R : Type}
theorem chk_dec {p : Prop} [Decidable p] {k : Option R} (h : p) : chk (decide p) k = k := by rw [decide_eq_true h]; rfl
theorem chk_and {a b : Bool} {k : Option R} : chk (a && b) k = chk a (chk b k) := by cases a <;> rfl
theorem chk_tt {k : Option R} : chk true k = k := rfl
theorem cond_dec {α : Type} {p : Prop} [Decidable p] {x y : α} (h : p) : (bif decide p then x else y) = x := by rw [decide_eq_true h]; rfl
theorem cond_dec' {α : Type} {p : Prop} [Decidable p] {x y : α} (h : ¬ p) : (bif decide p then x else y) = y := by rw [decide_eq_false h]; rfl
theorem beq_pos {x y : Int} (h : x = y) : (x == y) = true := by simp [h]
theorem beq_neg {x y : Int} (h : x ≠ y) : (x == y) = false := by simp [h]
theorem wrap_i64 {x : Int} (h1 : -9223372036854775808 <= x) (h2 : x < 9223372036854775808) : IntKind.wrap .i64 x = x := IntWalk.i64_in x ⟨h1, by omega⟩
theorem wrap_u8 {x : Int} (h1 : 0 <= x) (h2 : x < 256) : IntKind.wrap .u8 x = x := by rw [IntKind.wrap_u8]; omega
def bl (s : BA) : List UInt8 := s.data.toList
def B (l : List UInt8) : BA := ⟨l.toArray⟩
theorem bl_B (l : List UInt8) : bl (B l) = l := rfl
theorem B_bl (s : BA) : B (bl s) = s := rfl
theorem size_bl (s : BA) : s.size = (bl s).length := by unfold bl; rw [Array.length_toList]; rfl
theorem size_B (l : List UInt8) : (B l).size = l.length := by rw [size_bl, bl_B]
theorem bl_inj {a b : BA} (h : bl a = bl b) : a = b := by rw [<- B_bl a, h, B_bl]
theorem B_inj {a b : List UInt8} : B a = B b ↔ a = b := ⟨fun h => by rw [<- bl_B a, h, bl_B], fun h => by rw [h]⟩
theorem bl_extract (s : BA) (i j : Nat) : bl (s.extract i j) = ((bl s).take j).drop i := by
 unfold bl; rw [ByteArray.data_extract, Array.toList_extract]; simp [List.extract, List.drop_take]
theorem extract_B (l : List UInt8) (i j : Nat) : (B l).extract i j = B ((l.take j).drop i) := bl_inj (by rw [bl_extract, bl_B, bl_B])
theorem bl_append (a b : BA) : bl (a ++ b) = bl a ++ bl b := by unfold bl; simp
theorem append_B (a b : List UInt8) : B a ++ B b = B (a ++ b) := bl_inj (by rw [bl_append]; rfl)
theorem empty_B : (⟨#[]⟩ : BA) = B [] := rfl
theorem btA_get {s : BA} {i : Nat} {c : UInt8} (h : (bl s)[i]? = some c) : btA s (i : Int) = c.toNat := by
 obtain ⟨hlt, hv⟩ := List.getElem?_eq_some_iff.1 h
 have hlt' : i < s.size := by rw [size_bl]; exact hlt
 unfold btA
 simp only [Int.toNat_natCast]
 rw [dif_pos hlt']
 congr 2
theorem drop_get {α : Type} {l : List α} {i : Nat} {c : α} {r : List α} (h : l.drop i = c :: r) : l[i]? = some c /\ i < l.length /\ l.drop (i + 1) = r := by
 have h0 : (l.drop i)[0]? = some c := by rw [h]; rfl
 rw [List.getElem?_drop, Nat.add_zero] at h0
 refine ⟨h0, (List.getElem?_eq_some_iff.1 h0).1, ?_⟩
 rw [<- List.drop_drop, h]; rfl
theorem drop_nil {α : Type} {l : List α} {i : Nat} (h : l.drop i = []) : l.length <= i := by simpa using h
theorem take_succ_get {α : Type} {l : List α} {i : Nat} {c : α} (h : l[i]? = some c) : l.take (i + 1) = l.take i ++ [c] := by
 rw [List.take_add_one, h]; rfl
theorem byte_beq (c d : UInt8) : ((c.toNat : Int) == (d.toNat : Int)) = (c == d) := by
 rw [Bool.eq_iff_iff]; simp only [beq_iff_eq, Int.natCast_inj, <- UInt8.toNat_inj]
theorem byte_bne (c d : UInt8) : ((c.toNat : Int) != (d.toNat : Int)) = (c != d) := by
 unfold bne; rw [byte_beq]
theorem byte_lt (c : UInt8) : c.toNat < 256 := by have := c.toNat_lt; omega
theorem nat_i {i : Nat} : ((i : Int) + 1) = ((i + 1 : Nat) : Int) := rfl
theorem index_cons (b : UInt8) (l sub : List UInt8) : Lib.index (b :: l) sub = if sub.isPrefixOf (b :: l) then 0 else if Lib.index l sub == -1 then -1 else Lib.index l sub + 1 := rfl
theorem index_room : ∀ (s sub : List UInt8), Lib.index s sub ≠ -1 -> Lib.index s sub + sub.length <= s.length
 | [], sub, h => by
  cases sub with
  | nil => simp [Lib.index]
  | cons a t => exact absurd rfl h
 | b :: l, sub, h => by
  rw [index_cons] at h ⊢
  split at h
  ·rename_i hp
   rw [if_pos hp]
   have := (List.isPrefixOf_iff_prefix.1 hp).length_le
   omega
  ·rename_i hp
   rw [if_neg hp]
   split at h
   ·exact absurd rfl h
   ·rename_i hi
    have hi' : Lib.index l sub ≠ -1 := by simpa using hi
    have := index_room l sub hi'
    rw [if_neg hi]
    simp only [List.length_cons]; omega
theorem rdA_get {l : LA} {i : Nat} {a : AV} (h : l[i]? = some a) : rdA l (i : Int) = a := by
 unfold rdA; rw [Int.toNat_natCast, List.getD_eq_getElem?_getD, h]; rfl
theorem rdA_drop {l : LA} {i : Nat} {a : AV} {r : LA} (h : l.drop i = a :: r) : rdA l (i : Int) = a := rdA_get (drop_get h).1
theorem btB {l : List UInt8} {i : Nat} {c : UInt8} (h : l[i]? = some c) : btA (B l) (i : Int) = c.toNat := btA_get (s := B l) h
theorem byteB (c : UInt8) (d : UInt8) (x : Int) (h : x = (d.toNat : Int)) : ((c.toNat : Int) == x) = (c == d) := by rw [h, byte_beq]
theorem byteN (c : UInt8) (d : UInt8) (x : Int) (h : x = (d.toNat : Int)) : ((c.toNat : Int) != x) = (c != d) := by rw [h, byte_bne]
def rowsS (l : List (List UInt8)) : LA := l.map fun x => .str (B x)
theorem rowsS_len (l : List (List UInt8)) : (rowsS l).length = l.length := by unfold rowsS; simp
theorem rowsS_append (l m : List (List UInt8)) : rowsS (l ++ m) = rowsS l ++ rowsS m := by unfold rowsS; simp
theorem rdA_last (xs : LA) (a : AV) : rdA (xs ++ [a]) (xs.length : Int) = a := rdA_get (by simp)
theorem rdA_at (xs : LA) (a : AV) (r : LA) (n : Nat) (h : xs.length = n) : rdA (xs ++ a :: r) (n : Int) = a := rdA_get (by subst h; simp)
theorem setA_at (xs : LA) (a b : AV) (r : LA) (n : Nat) (h : xs.length = n) : setA (xs ++ a :: r) (n : Int) b = xs ++ b :: r := by
 subst h; unfold setA; simp
theorem prefix_take {l p : List UInt8} : p.isPrefixOf l = decide (l.take p.length = p) := by
 rw [Bool.eq_iff_iff, List.isPrefixOf_iff_prefix, List.prefix_iff_eq_take, decide_eq_true_eq, eq_comm]
theorem hasPrefix_eq (a : BA) (p : List UInt8) (κ : Bool -> Option R) : st_HasPrefix a (B p) κ = κ (p.isPrefixOf (bl a)) := by
 have hsz := size_bl a
 unfold st_HasPrefix st_HasPrefix.e sl_HasPrefix sl_HasPrefix.e
 simp only [size_B]
 by_cases h : p.length <= (bl a).length
 ·simp (disch := omega) only [cond_dec, chk_and, chk_dec]
  congr 1
  rw [prefix_take]
  congr 1
  rw [<- B_bl (a.extract _ _), bl_extract, B_inj]
  simp
 ·simp (disch := omega) only [cond_dec']
  congr 1
  rw [prefix_take]
  symm; rw [decide_eq_false_iff_not]
  intro e; have := congrArg List.length e; simp at this; omega
theorem index_eq (l p : List UInt8) (hs : l.length <= 1000000) (κ : Int -> Option R) : st_Index (B l) (B p) κ = κ (Lib.index l p) := by
 unfold st_Index st_Index.e sl_Index
 have := size_B l
 simp (disch := omega) only [chk_dec]
 rfl
theorem hasPrefixB (l p : List UInt8) (κ : Bool -> Option R) : st_HasPrefix (B l) (B p) κ = κ (p.isPrefixOf l) := hasPrefix_eq (B l) p κ
theorem takeWhile_get {p : UInt8 -> Bool} {l : List UInt8} {k : Nat} (h : k < (l.takeWhile p).length) : ∃ c, l[k]? = some c /\ p c = true := by
 obtain ⟨t, ht⟩ := List.takeWhile_prefix p (l := l)
 refine ⟨(l.takeWhile p)[k], ?_, List.all_eq_true.1 List.all_takeWhile _ (List.getElem_mem h)⟩
 have := List.getElem?_append_left (l₂ := t) h
 rw [ht] at this
 rw [this, List.getElem?_eq_getElem h]
theorem indexByte_at {l : List UInt8} {c : UInt8} {o : Nat} (h : l[o]? = some c) (hn : ∀ k, k < o -> l[k]? ≠ some c) : Lib.indexByte l c = o := by
 have hge := Lib.indexByte_ge l c
 by_cases e : Lib.indexByte l c = -1
 ·exact absurd h (Lib.indexByte_none e o)
 ·obtain ⟨m, hm⟩ : ∃ m : Nat, Lib.indexByte l c = m := ⟨(Lib.indexByte l c).toNat, by omega⟩
  obtain ⟨h1, h2⟩ := Lib.indexByte_some hm
  rcases Nat.lt_trichotomy m o with hlt | heq | hgt
  ·exact absurd h1 (hn m hlt)
  ·rw [hm, heq]
  ·exact absurd h (h2 o hgt)
theorem dw_nil {p : UInt8 -> Bool} : ∀ {l : List UInt8}, l.dropWhile p = [] ↔ ∀ a ∈ l, p a = true
 | [] => by simp
 | c :: r => by
  rw [List.dropWhile_cons]
  cases h : p c with
  | true => simp [h, dw_nil (l := r)]
  | false => simp [h]
theorem all_bytes {p : UInt8 -> Bool} (h : (List.range 256).all (fun n => p (UInt8.ofNat n)) = true) (c : UInt8) : p c = true := by
 have := List.all_eq_true.1 h c.toNat (List.mem_range.2 (byte_lt c))
 rwa [UInt8.ofNat_toNat] at this
theorem sIB_eq (l : List UInt8) (c : UInt8) (κ : Int -> Option R) : st_IndexByte (B l) (c.toNat : Int) κ = κ (Lib.indexByte l c) := by
 show κ (Lib.indexByte l ((c.toNat : Int).toNat.toUInt8)) = _
 rw [Int.toNat_natCast]
 show κ (Lib.indexByte l (UInt8.ofNat c.toNat)) = _
 rw [UInt8.ofNat_toNat]
def intsAV (t : List UInt8) : LA := t.map fun b => AV.int (b.toNat : Int)
theorem ints_len (t : List UInt8) : (intsAV t).length = t.length := by unfold intsAV; simp
theorem ints_append (t u : List UInt8) : intsAV t ++ intsAV u = intsAV (t ++ u) := by unfold intsAV; simp
theorem ints_snoc (t : List UInt8) (c : UInt8) : intsAV t ++ [AV.int (c.toNat : Int)] = intsAV (t ++ [c]) := ints_append t [c]
theorem strAV_ints (t : List UInt8) : strAV (intsAV t) = B t := by
 unfold strAV intsAV B
 congr 2
 rw [List.map_map]
 conv => rhs; rw [<- List.map_id t]
 apply List.map_congr_left
 intro b hb
 show UInt8.ofNat ((b.toNat : Int).toNat) = b
 rw [Int.toNat_natCast, UInt8.ofNat_toNat]
theorem ints_ok (t : List UInt8) : List.all (intsAV t) byteOk = true := by
 unfold intsAV
 rw [List.all_map, List.all_eq_true]
 intro b hb
 have := byte_lt b
 show byteOk (AV.int (b.toNat : Int)) = true
 unfold byteOk
 show (decide (0 <= (b.toNat : Int)) && decide ((b.toNat : Int) < 256)) = true
 rw [decide_eq_true (by omega), decide_eq_true (by omega)]; rfl
theorem bytesB' (t : List UInt8) : bytesAV (B t) = intsAV t := rfl
theorem wByte_eq (l : LA) (a : Int) (κ : LA -> Option R) (h : l.length <= 1000000000) : st_Builder_WriteByte l a κ = κ (l ++ [AV.int a]) := by
 show chk (decide ((l.length + 1) * 1 <= 140737488355328)) (κ (l ++ [AV.int a])) = _
 rw [chk_dec (by omega)]
theorem bString_eq (t : List UInt8) (κ : BA -> Option R) : st_Builder_String (intsAV t) κ = κ (B t) := by
 unfold st_Builder_String st_Builder_String.e
 rw [chk_dec rfl, ints_ok, strAV_ints]; rfl
theorem bytesB (t : List UInt8) : bytesAV (B t) = intsAV t := rfl
theorem wString_eq (l : LA) (s : BA) (κ : Int -> LA -> Option R) (h : l.length + s.size <= 1000000000) : st_Builder_WriteString l s κ = κ (s.size : Int) (l ++ bytesAV s) := by
 show chk (decide ((l.length + (bytesAV s).length) * 1 <= 140737488355328)) (κ (s.size : Int) (l ++ bytesAV s)) = _
 have : (bytesAV s).length = s.size := by unfold bytesAV; simp
 rw [chk_dec (by omega)]
theorem hasSuffix_eq (s p : List UInt8) (hs : s.length <= 1000000) (hp : p.length <= 1000000) (κ : Bool -> Option R) : sl_HasSuffix (B s) (B p) κ = κ (decide (s.drop (s.length - p.length) = p)) := by
 unfold sl_HasSuffix sl_HasSuffix.e
 simp only [size_B]
 by_cases h : p.length <= s.length
 ·have hw : IntKind.wrap .i64 ((s.length : Int) - (p.length : Int)) = ((s.length - p.length : Nat) : Int) := by rw [wrap_i64 (by omega) (by omega)]; omega
  rw [cond_dec (by omega)]
  simp only [hw, extract_B, Int.toNat_natCast, List.take_length, B_inj]
  rw [chk_and, chk_dec (by omega), chk_and, chk_dec (by omega), chk_dec (by omega)]
 ·rw [cond_dec' (by omega)]
  congr 1
  symm; rw [decide_eq_false_iff_not]
  intro e; have := congrArg List.length e
  rw [List.length_drop] at this; omega
theorem sHasSuffix (s p : List UInt8) (hs : s.length <= 1000000) (hp : p.length <= 1000000) (κ : Bool -> Option R) : st_HasSuffix (B s) (B p) κ = κ (decide (s.drop (s.length - p.length) = p)) := hasSuffix_eq s p hs hp κ
def linesG : List UInt8 -> List UInt8 -> List (List UInt8)
 | cur, [] => if cur = [] then [] else [cur]
 | cur, 13 :: 10 :: r => (cur ++ [13, 10]) :: linesG [] r
 | cur, c :: r => linesG (cur ++ [c]) r
def total : List (List UInt8) -> Nat
 | [] => 0
 | x :: r => x.length + total r
theorem linesG_total (cur s : List UInt8) : total (linesG cur s) = cur.length + s.length := by
 fun_induction linesG cur s with
 | case1 => simp [total]
 | case2 cur h => simp [total]
 | case3 cur r ih => simp [total, ih]; omega
 | case4 cur c r h ih => simp [ih]; omega
theorem linesG_len (s : List UInt8) : (linesG [] s).length <= s.length := by
 have ht := linesG_total [] s
 simp only [List.length_nil, Nat.zero_add] at ht
 rw [<- ht]
 have : ∀ (cur t : List UInt8), (linesG cur t).length <= total (linesG cur t) := by
  intro cur t
  fun_induction linesG cur t with
  | case1 => simp
  | case2 cur h => have : cur.length ≠ 0 := by simpa using h
                   simp [total]; omega
  | case3 cur r ih => simp [total]; omega
  | case4 cur c r h ih => exact ih
 exact this _ _
def splitK (s : BA) (o : Option Nat) (κ : BA -> BA -> Option R) : Option R :=
 match o with
 | some n => κ (B ((bl s).take n)) (B ((bl s).drop n))
 | none => κ s (B [])
def hdG : Bool -> List UInt8 -> Option Nat
 | _, [] => none
 | bol, 13 :: 10 :: r => if bol then some 2 else (hdG true r).map (2 + ·)
 | _, _ :: r => (hdG false r).map (1 + ·)
theorem hdG_crlf (bol : Bool) (r : List UInt8) : hdG bol (13 :: 10 :: r) = if bol then some 2 else (hdG true r).map (2 + ·) := by rw [hdG]
theorem hdG_else (bol : Bool) (c : UInt8) (r : List UInt8) (h : ¬ (c = 13 /\ r.head? = some 10)) : hdG bol (c :: r) = (hdG false r).map (1 + ·) := by
 rw [hdG]
 rintro r' rfl rfl; exact h ⟨rfl, rfl⟩
theorem omap (o : Option Nat) (a b c : Nat) (h : a + b = c) : (o.map (a + ·)).map (b + ·) = o.map (c + ·) := by
 cases o with
 | none => rfl
 | some n => simp only [Option.map_some]; congr 1; omega
theorem index_hd (s : List UInt8) : hdG false s = if Lib.index s [13, 10, 13, 10] = -1 then none else some (Lib.index s [13, 10, 13, 10] + 4).toNat := by
 have key : ∀ n (s : List UInt8), s.length <= n -> hdG false s = if Lib.index s [13, 10, 13, 10] = -1 then none else some (Lib.index s [13, 10, 13, 10] + 4).toNat := by
  intro n
  induction n with
  | zero => intro s h; have : s = [] := by cases s <;> simp_all
            subst this; rfl
  | succ n ih =>
   intro s h
   cases s with
   | nil => rfl
   | cons c r =>
    have step : ∀ r : List UInt8, r.length <= n -> ((hdG false r).map (1 + ·)) = if (if Lib.index r [13, 10, 13, 10] == -1 then (-1 : Int) else Lib.index r [13, 10, 13, 10] + 1) = -1 then none else some ((if Lib.index r [13, 10, 13, 10] == -1 then (-1 : Int) else Lib.index r [13, 10, 13, 10] + 1) + 4).toNat := by
     intro r hr
     rw [ih r hr]
     have := Lib.index_ge r [13, 10, 13, 10]
     by_cases e : Lib.index r [13, 10, 13, 10] = -1
     ·simp [e]
     ·have e' : (Lib.index r [13, 10, 13, 10] == -1) = false := by simp [e]
      simp only [e', Bool.false_eq_true, if_false]
      rw [if_neg e, if_neg (by omega)]
      simp only [Option.map_some]; congr 1; omega
    by_cases hc : c = 13 /\ r.head? = some 10
    ·obtain ⟨rfl, hr⟩ := hc
     cases r with
     | nil => simp at hr
     | cons d r =>
      simp only [List.head?_cons, Option.some.injEq] at hr; subst hr
      rw [hdG_crlf]
      simp only [Bool.false_eq_true, if_false]
      by_cases hp : ∃ r', r = 13 :: 10 :: r'
      ·obtain ⟨r', rfl⟩ := hp
       rw [hdG_crlf, index_cons]
       simp
      ·have hnp : List.isPrefixOf [13, 10, 13, 10] (13 :: 10 :: r) = false := by
        cases hh : List.isPrefixOf [13, 10, 13, 10] (13 :: 10 :: r) with
        | false => rfl
        | true =>
         obtain ⟨t, ht⟩ := List.isPrefixOf_iff_prefix.1 hh
         simp only [List.cons_append, List.nil_append, List.cons.injEq, true_and] at ht
         exact absurd ⟨t, ht.symm⟩ hp
       have ht : hdG true r = hdG false r := by
        cases r with
        | nil => rfl
        | cons a r =>
         have : ¬ (a = 13 /\ r.head? = some 10) := by
          rintro ⟨rfl, h2⟩
          cases r with
          | nil => simp at h2
          | cons b r => simp at h2; subst h2; exact hp ⟨r, rfl⟩
         rw [hdG_else _ _ _ this, hdG_else _ _ _ this]
       have h10 : hdG false (10 :: r) = (hdG false r).map (1 + ·) := hdG_else _ _ _ (by simp)
       rw [ht, <- omap _ 1 1 2 rfl, <- h10, step (10 :: r) (by simp at h ⊢; omega), index_cons 13, hnp]
       simp only [Bool.false_eq_true, if_false]
    ·rw [hdG_else _ _ _ hc, step r (by simp at h; omega)]
     have hnp : List.isPrefixOf [13, 10, 13, 10] (c :: r) = false := by
      cases hh : List.isPrefixOf [13, 10, 13, 10] (c :: r) with
      | false => rfl
      | true =>
       obtain ⟨t, ht⟩ := List.isPrefixOf_iff_prefix.1 hh
       simp only [List.cons_append, List.nil_append, List.cons.injEq] at ht
       obtain ⟨rfl, rfl⟩ := ht
       exact absurd ⟨rfl, rfl⟩ hc
     rw [index_cons, hnp]; simp only [Bool.false_eq_true, if_false]
 exact key _ s (Nat.le_refl _)
theorem lSplit_k (s : BA) (hs : (bl s).length <= 1000000) (κ : BA -> BA -> Option R) : le_Split s κ = splitK s (hdG true (bl s)) κ := by
 have hsz := size_bl s
 unfold le_Split le_Split.e st_Index st_Index.e sl_Index
 rw [show (⟨#[13, 10]⟩ : BA) = B [13, 10] from rfl, hasPrefix_eq]
 cases hp : List.isPrefixOf [13, 10] (bl s) with
 | true =>
  obtain ⟨t, ht⟩ := List.isPrefixOf_iff_prefix.1 hp
  have : 2 <= (bl s).length := by rw [<- ht]; simp
  simp (disch := omega) only [cond_true, chk_and, chk_dec]
  rw [<- ht]
  simp only [List.cons_append, List.nil_append, hdG_crlf, if_true, splitK]
  congr 1
  ·rw [<- B_bl (s.extract _ _), bl_extract]; simp
  ·rw [<- B_bl (s.extract _ _), bl_extract]; simp [hsz]
 | false =>
  simp (disch := omega) only [cond_false, chk_dec]
  have hft : hdG true (bl s) = hdG false (bl s) := by
   cases h : bl s with
   | nil => rfl
   | cons a r =>
    have : ¬ (a = 13 /\ r.head? = some 10) := by
     rintro ⟨rfl, h2⟩
     cases r with
     | nil => simp at h2
     | cons b r => simp at h2; subst h2; rw [h] at hp; simp at hp
    rw [hdG_else _ _ _ this, hdG_else _ _ _ this]
  rw [hft, index_hd]
  have hge := Lib.index_ge (bl s) [13, 10, 13, 10]
  show (bif decide (Lib.index (bl s) [13, 10, 13, 10] >= 0) then _ else _) = _
  by_cases e : Lib.index (bl s) [13, 10, 13, 10] = -1
  ·rw [e]; rfl
  ·have hle : Lib.index (bl s) [13, 10, 13, 10] + 4 <= (bl s).length := by
    have := index_room (bl s) [13, 10, 13, 10] e
    simpa using this
   rw [if_neg e]
   have hbl : s.data.toList = bl s := rfl
   simp only [hbl]
   simp (disch := omega) only [cond_dec, wrap_i64, chk_and, chk_dec, splitK]
   congr 1
   ·rw [<- B_bl (s.extract _ _), bl_extract]; rfl
   ·rw [<- B_bl (s.extract _ _), bl_extract]; simp [hsz]
def splitG (s : BA) : BA × BA :=
 match hdG true (bl s) with
 | some n => (B ((bl s).take n), B ((bl s).drop n))
 | none => (s, B [])
theorem splitK_eq (s : BA) (κ : BA -> BA -> Option R) : splitK s (hdG true (bl s)) κ = κ (splitG s).1 (splitG s).2 := by
 unfold splitK splitG; split <;> rfl
theorem lSplit_eq (s : BA) (hs : (bl s).length <= 1000000) (κ : BA -> BA -> Option R) : le_Split s κ = κ (splitG s).1 (splitG s).2 := (lSplit_k s hs κ).trans (splitK_eq s κ)
def isBl (c : UInt8) : Bool := c == 32 || c == 9
def isNm (c : UInt8) : Bool := decide (32 < c.toNat) && (decide (c.toNat < 127) && c != 58)
def nmL (c : List UInt8) : List UInt8 := c.takeWhile isNm
def atL (c : List UInt8) : Nat := (nmL c).length + ((c.drop (nmL c).length).takeWhile isBl).length
def isF (c : List UInt8) : Bool := decide (nmL c ≠ []) && (c[atL c]? == some 58)
theorem isBlank_eq (c : UInt8) (κ : Bool -> Option R) : le_isBlank (c.toNat : Int) κ = κ (isBl c) := by
 unfold le_isBlank le_isBlank.e
 rw [byteB c 32 32 rfl, byteB c 9 9 rfl]
 unfold isBl
 cases (c == 32) <;> rfl
theorem begins_end (c n : List UInt8) (i : Nat) (κ : BA -> Bool -> Option R) :
  (bif (!decide (B n = (⟨#[]⟩ : BA))) then (bif (decide ((i : Int) < ((B c).size : Int))) then (chk ((decide ((0 : Int) <= (i : Int))) && (decide ((i : Int) < ((B c).size : Int)))) (κ (B n) ((btA (B c) (i : Int)) == 58))) else (κ (B n) false)) else (κ (B n) false))
   = κ (B n) (decide (n ≠ []) && (c[i]? == some 58)) := by
 simp only [size_B, empty_B, B_inj]
 by_cases hn : n = []
 ·subst hn; rfl
 ·simp only [hn, decide_false, Bool.not_false, cond_true, ne_eq, not_false_eq_true, decide_true, Bool.true_and]
  by_cases hi : i < c.length
  ·simp (disch := omega) only [cond_dec, chk_and, chk_dec]
   rw [btB (List.getElem?_eq_getElem hi), byteB _ 58 58 rfl, List.getElem?_eq_getElem hi]
   rfl
  ·simp (disch := omega) only [cond_dec']
   rw [List.getElem?_eq_none (by omega)]; rfl
theorem begins_L5 (c n : List UInt8) (hs : c.length <= 1000000) (κ : BA -> Bool -> Option R) : ∀ (f i : Nat), i <= c.length -> c.length < i + f ->
  le_begins.L5 le_isBlank κ f (B c) (i : Int) (B n) = κ (B n) (decide (n ≠ []) && (c[i + ((c.drop i).takeWhile isBl).length]? == some 58))
 | 0, i, h1, h2 => by omega
 | f + 1, i, h1, h2 => by
  rw [le_begins.L5, le_begins.t5]
  simp only [begins_end]
  simp only [size_B]
  cases hd : c.drop i with
  | nil =>
   have := drop_nil hd
   simp (disch := omega) only [cond_dec']
   rfl
  | cons b r =>
   obtain ⟨g1, g2, g3⟩ := drop_get hd
   simp (disch := omega) only [cond_dec, chk_and, chk_dec, btB g1, isBlank_eq, wrap_i64]
   rw [List.takeWhile_cons]
   cases hb : isBl b with
   | false => rfl
   | true =>
    simp only [cond_true, nat_i, if_true, List.length_cons]
    rw [begins_L5 c n hs κ f (i + 1) (by omega) (by omega), g3]
    congr 4; omega
theorem isNm_eq (c : UInt8) : isNm c = (decide ((c.toNat : Int) > 32) && (decide ((c.toNat : Int) < 127) && ((c.toNat : Int) != 58))) := by
 rw [byteN c 58 58 rfl]; unfold isNm
 congr 1
 ·rw [decide_eq_decide]; omega
 ·congr 1
  rw [decide_eq_decide]; omega
theorem begins_L2 (c : List UInt8) (hs : c.length <= 1000000) (κ : BA -> Bool -> Option R) : ∀ (f i : Nat), i <= c.length -> 2 * c.length + 2 < i + f -> c.take i = (c.take i).takeWhile isNm ->
  le_begins.L2 le_isBlank κ f (B c) (i : Int) = κ (B (nmL c)) (isF c)
 | 0, i, h1, h2, h3 => by omega
 | f + 1, i, h1, h2, h3 => by
  have fin : nmL c = c.take i -> le_begins.L5 le_isBlank κ f (B c) (i : Int) ((B c).extract ((0 : Int)).toNat ((i : Int)).toNat) = κ (B (nmL c)) (isF c) := by
   intro hn
   rw [extract_B]
   simp only [Int.toNat_zero, List.drop_zero, Int.toNat_natCast]
   rw [begins_L5 c _ hs κ f i h1 (by omega), hn]
   unfold isF atL
   have hl : (c.take i).length = i := by simp; omega
   rw [hn, hl]
  rw [le_begins.L2, le_begins.t2]
  have hsplit : nmL c = c.take i ++ (c.drop i).takeWhile isNm := by
   unfold nmL
   conv => lhs; rw [<- List.take_append_drop i c]
   rw [List.takeWhile_append_of_pos]
   rw [h3]; intro a ha; exact List.all_eq_true.1 List.all_takeWhile a ha
  cases hd : c.drop i with
  | nil =>
   have := drop_nil hd
   simp only [size_B]
   simp (disch := omega) only [cond_dec', chk_and, chk_dec]
   exact fin (by rw [hsplit, hd]; simp)
  | cons b r =>
   obtain ⟨g1, g2, g3⟩ := drop_get hd
   simp only [size_B]
   simp (disch := omega) only [cond_dec, chk_and, chk_dec, btB g1, wrap_i64]
   have hb : isNm b = false -> nmL c = c.take i := by
    intro hb; rw [hsplit, hd, List.takeWhile_cons, hb]; simp
   rw [isNm_eq] at hb
   cases e1 : decide ((b.toNat : Int) > 32) with
   | false => exact fin (hb (by rw [e1]; rfl))
   | true =>
    cases e2 : decide ((b.toNat : Int) < 127) with
    | false => exact fin (hb (by rw [e1, e2]; rfl))
    | true =>
     cases e3 : ((b.toNat : Int) != 58) with
     | false => exact fin (hb (by rw [e1, e2, e3]; rfl))
     | true =>
      have hb' : isNm b = true := by rw [isNm_eq, e1, e2, e3]; rfl
      exact begins_L2 c hs κ f (i + 1) (by omega) (by omega) (by
       rw [take_succ_get g1, List.takeWhile_append_of_pos (by rw [h3]; intro a ha; exact List.all_eq_true.1 List.all_takeWhile a ha)]
       simp [hb'])
theorem begins_entry (c : List UInt8) (hs : c.length <= 1000000) (κ : BA -> Bool -> Option R) (f : Nat) (hf : 2 * c.length + 2 < f) :
  le_begins.e le_isBlank (B c) (le_begins.L2 le_isBlank κ f) (le_begins.L5 le_isBlank κ f) κ = κ (B (nmL c)) (isF c) :=
 begins_L2 c hs κ f 0 (by omega) (by omega) (by simp)
theorem begins_eq (c : List UInt8) (hs : c.length <= 1000000) (κ : BA -> Bool -> Option R) : le_begins (B c) κ = κ (B (nmL c)) (isF c) :=
 begins_entry c hs κ fuelK (by unfold fuelK; omega)
def ln : List UInt8 -> Nat
 | [] => 0
 | 13 :: 10 :: _ => 2
 | _ :: r => 1 + ln r
theorem ln_crlf (r : List UInt8) : ln (13 :: 10 :: r) = 2 := by rw [ln]
theorem ln_else (c : UInt8) (r : List UInt8) (h : ¬ (c = 13 /\ r.head? = some 10)) : ln (c :: r) = 1 + ln r := by
 rw [ln]
 rintro r' rfl rfl; exact h ⟨rfl, rfl⟩
theorem ln_le (l : List UInt8) : ln l <= l.length := by
 fun_induction ln l with
 | case1 => simp
 | case2 => simp
 | case3 c r h ih => simp; omega
theorem ln_pos (c : UInt8) (r : List UInt8) : 0 < ln (c :: r) := by
 by_cases h : c = 13 /\ r.head? = some 10
 ·obtain ⟨rfl, h2⟩ := h
  cases r with
  | nil => simp at h2
  | cons d r => simp at h2; subst h2; rw [ln_crlf]; omega
 ·rw [ln_else _ _ h]; omega
theorem linesG_ln (cur l : List UInt8) : linesG cur l = if cur ++ l = [] then [] else (cur ++ l.take (ln l)) :: linesG [] (l.drop (ln l)) := by
 fun_induction linesG cur l with
 | case1 => simp
 | case2 cur h => simp [h, ln, linesG]
 | case3 cur r ih => simp [ln_crlf]
 | case4 cur c r h ih =>
  rw [ih, ln_else c r (by rintro ⟨rfl, h2⟩; cases r with | nil => simp at h2 | cons d r => simp at h2; subst h2; exact h r rfl rfl)]
  simp [Nat.add_comm 1]
theorem linesG_cons (c : UInt8) (r : List UInt8) : linesG [] (c :: r) = (c :: r).take (ln (c :: r)) :: linesG [] ((c :: r).drop (ln (c :: r))) := by
 rw [linesG_ln, if_neg (by simp)]; rfl
theorem isPrefix_crlf (l : List UInt8) : List.isPrefixOf [13, 10] l = true ↔ ∃ r, l = 13 :: 10 :: r := by
 rw [List.isPrefixOf_iff_prefix]
 exact ⟨fun ⟨t, h⟩ => ⟨t, h.symm⟩, fun ⟨t, h⟩ => ⟨t, h.symm⟩⟩
theorem crlf_iff (c : UInt8) (r : List UInt8) : List.isPrefixOf [13, 10] (c :: r) = true ↔ (c = 13 /\ r.head? = some 10) := by
 rw [isPrefix_crlf]
 constructor
 ·rintro ⟨t, h⟩; cases h; exact ⟨rfl, rfl⟩
 ·rintro ⟨rfl, h⟩
  cases r with
  | nil => simp at h
  | cons d r => simp at h; subst h; exact ⟨r, rfl⟩
theorem ln_index : ∀ l : List UInt8, (Lib.index l [13, 10] = -1 /\ ln l = l.length) ∨ (0 <= Lib.index l [13, 10] /\ (ln l : Int) = Lib.index l [13, 10] + 2)
 | [] => Or.inl ⟨rfl, rfl⟩
 | c :: r => by
  by_cases h : c = 13 /\ r.head? = some 10
  ·have hp := (crlf_iff c r).2 h
   obtain ⟨r', hr⟩ := (isPrefix_crlf _).1 hp
   rw [index_cons, if_pos hp, hr, ln_crlf]
   exact Or.inr ⟨by omega, by omega⟩
  ·have hp : ¬ List.isPrefixOf [13, 10] (c :: r) = true := fun e => h ((crlf_iff c r).1 e)
   rw [index_cons, if_neg hp, ln_else c r h]
   rcases ln_index r with ⟨e1, e2⟩ | ⟨e1, e2⟩
   ·rw [e1]; exact Or.inl ⟨rfl, by simp [e2]; omega⟩
   ·have : (Lib.index r [13, 10] == -1) = false := by simp; omega
    rw [this]
    exact Or.inr ⟨by simp; omega, by simp; omega⟩
theorem ln_take_crlf (l : List UInt8) : l.take (ln l) = [13, 10] ↔ List.isPrefixOf [13, 10] l = true := by
 rw [isPrefix_crlf]
 constructor
 ·intro h
  refine ⟨l.drop (ln l), ?_⟩
  conv => lhs; rw [<- List.take_append_drop (ln l) l, h]
  rfl
 ·rintro ⟨r, rfl⟩; rw [ln_crlf]; rfl
def headL (l : List UInt8) : List (List UInt8) := (linesG [] l).takeWhile fun x => x != [13, 10]
theorem headL_nil : headL [] = [] := by unfold headL; rw [linesG]; rfl
theorem headL_crlf {l : List UInt8} (h : List.isPrefixOf [13, 10] l = true) : headL l = [] := by
 obtain ⟨r, rfl⟩ := (isPrefix_crlf l).1 h
 unfold headL; rw [linesG_cons, ln_crlf]; simp
theorem headL_cons {c : UInt8} {r : List UInt8} (h : List.isPrefixOf [13, 10] (c :: r) = false) : headL (c :: r) = (c :: r).take (ln (c :: r)) :: headL ((c :: r).drop (ln (c :: r))) := by
 unfold headL; rw [linesG_cons, List.takeWhile_cons]
 have : ((c :: r).take (ln (c :: r)) != [13, 10]) = true := by
  rw [bne_iff_ne]; intro e; rw [ln_take_crlf, h] at e; cases e
 rw [this]; simp
def rowsG : Bool -> List UInt8 -> List (List UInt8) -> List (List UInt8 × List UInt8 × Bool × Bool)
 | _, _, [] => []
 | fld, nm, c :: r => bif isBl (c.headD 0) then (c, nm, false, fld) :: rowsG fld nm r else (c, nmL c, isF c, isF c) :: rowsG (isF c) (nmL c) r
def rowAV (x : List UInt8 × List UInt8 × Bool × Bool) : AV := .agg [.str (B x.1), .str (B x.2.1), .bool x.2.2.1, .bool x.2.2.2]
theorem rows_L3 (κ : LA -> Option R) : ∀ (f : Nat) (h : List UInt8) (fld : Bool) (nm : List UInt8) (acc : List (List UInt8 × List UInt8 × Bool × Bool)), h.length < f -> acc.length + h.length <= 1000000 ->
  le_rows.L3 st_HasPrefix st_Index le_isBlank le_begins κ f (B h) fld (B nm) (acc.map rowAV) = κ ((acc ++ rowsG fld nm (headL h)).map rowAV)
 | 0, h, fld, nm, acc, h1, h2 => by omega
 | f + 1, h, fld, nm, acc, h1, h2 => by
  rw [le_rows.L3, le_rows.t3]
  rw [show (⟨#[13, 10]⟩ : BA) = B [13, 10] from rfl, empty_B]
  simp only [B_inj, hasPrefixB, index_eq h [13, 10] (by omega)]
  cases h with
  | nil => rw [headL_nil]; simp [rowsG]
  | cons c r =>
   simp only [reduceCtorEq, decide_false, Bool.not_false, cond_true]
   cases hp : List.isPrefixOf [13, 10] (c :: r) with
   | true => rw [headL_crlf hp]; simp [rowsG]
   | false =>
    rw [headL_cons hp]
    have hle := ln_le (c :: r)
    have hpos := ln_pos c r
    have key : ∀ (n : Int), n = (ln (c :: r) : Int) ->
      (chk ((decide ((0 : Int) <= n)) && (decide (n <= ((B (c :: r)).size : Int)))) (chk (decide ((0 : Int) < ((B (c :: r)).size : Int))) (le_isBlank (btA (B (c :: r)) 0) (fun r11 => (bif (!r11) then (le_begins ((B (c :: r)).extract ((0 : Int)).toNat (n).toNat) (fun r12 r13 => (chk (decide (((acc.map rowAV).length + 1) * 40 <= 140737488355328)) (chk ((decide ((0 : Int) <= n)) && ((decide (n <= ((B (c :: r)).size : Int))) && (decide (((B (c :: r)).size : Int) <= ((B (c :: r)).size : Int))))) (le_rows.L3 st_HasPrefix st_Index le_isBlank le_begins κ f ((B (c :: r)).extract (n).toNat (((B (c :: r)).size : Int)).toNat) r13 r12 ((acc.map rowAV) ++ [AV.agg [AV.str ((B (c :: r)).extract ((0 : Int)).toNat (n).toNat), AV.str r12, AV.bool r13, AV.bool r13]])))))) else (chk (decide (((acc.map rowAV).length + 1) * 40 <= 140737488355328)) (chk ((decide ((0 : Int) <= n)) && ((decide (n <= ((B (c :: r)).size : Int))) && (decide (((B (c :: r)).size : Int) <= ((B (c :: r)).size : Int))))) (le_rows.L3 st_HasPrefix st_Index le_isBlank le_begins κ f ((B (c :: r)).extract (n).toNat (((B (c :: r)).size : Int)).toNat) fld (B nm) ((acc.map rowAV) ++ [AV.agg [AV.str ((B (c :: r)).extract ((0 : Int)).toNat (n).toNat), AV.str (B nm), AV.bool false, AV.bool fld]])))))))))
      = κ ((acc ++ rowsG fld nm ((c :: r).take (ln (c :: r)) :: headL ((c :: r).drop (ln (c :: r))))).map rowAV) := by
     intro n hn
     subst hn
     have hb : btA (B (c :: r)) 0 = c.toNat := btB (i := 0) rfl
     have hlen : (c :: r).length = r.length + 1 := rfl
     simp only [size_B, List.length_map, hb, isBlank_eq]
     simp (disch := omega) only [chk_and, chk_dec]
     simp only [extract_B, Int.toNat_natCast, Int.toNat_zero, List.drop_zero, List.take_length]
     rw [rowsG]
     have hd : ((c :: r).take (ln (c :: r))).headD 0 = c := by
      obtain ⟨m, hm⟩ : ∃ m, ln (c :: r) = m + 1 := ⟨ln (c :: r) - 1, by omega⟩
      rw [hm]; rfl
     rw [hd]
     have hdl : ((c :: r).drop (ln (c :: r))).length < f := by rw [List.length_drop]; omega
     cases hbl : isBl c with
     | true =>
      simp only [Bool.not_true, cond_false, cond_true]
      rw [show (acc.map rowAV) ++ [AV.agg [AV.str (B ((c :: r).take (ln (c :: r)))), AV.str (B nm), AV.bool false, AV.bool fld]] = (acc ++ [((c :: r).take (ln (c :: r)), nm, false, fld)]).map rowAV by simp [rowAV]]
      rw [rows_L3 κ f _ fld nm _ hdl (by simp; omega)]
      simp
     | false =>
      simp only [Bool.not_false, cond_false, cond_true]
      rw [begins_eq _ (by rw [List.length_take]; omega)]
      rw [show (acc.map rowAV) ++ [AV.agg [AV.str (B ((c :: r).take (ln (c :: r)))), AV.str (B (nmL ((c :: r).take (ln (c :: r))))), AV.bool (isF ((c :: r).take (ln (c :: r)))), AV.bool (isF ((c :: r).take (ln (c :: r))))]] = (acc ++ [((c :: r).take (ln (c :: r)), nmL ((c :: r).take (ln (c :: r))), isF ((c :: r).take (ln (c :: r))), isF ((c :: r).take (ln (c :: r))))]).map rowAV by simp [rowAV]]
      rw [rows_L3 κ f _ _ _ _ hdl (by simp; omega)]
      simp
    simp only [Bool.not_false, cond_true]
    rcases ln_index (c :: r) with ⟨e1, e2⟩ | ⟨e1, e2⟩
    ·rw [e1]
     rw [cond_dec' (by omega)]
     exact key _ (by rw [size_B, e2])
    ·have hw : IntKind.wrap .i64 (Lib.index (c :: r) [13, 10] + 2) = (ln (c :: r) : Int) := by rw [<- e2]; exact wrap_i64 (by omega) (by omega)
     rw [cond_dec (by omega)]
     exact key _ hw
theorem rows_entry (h : List UInt8) (hs : h.length <= 1000000) (κ : LA -> Option R) (f : Nat) (hf : h.length < f) :
  le_rows.e st_HasPrefix st_Index le_isBlank le_begins (B h) (le_rows.L3 st_HasPrefix st_Index le_isBlank le_begins κ f) κ = κ ((rowsG false [] (headL h)).map rowAV) :=
 rows_L3 κ f h false [] [] hf (by simp; omega)
theorem rows_eq (h : List UInt8) (hs : h.length <= 1000000) (κ : LA -> Option R) : le_rows (B h) κ = κ ((rowsG false [] (headL h)).map rowAV) :=
 rows_entry h hs κ fuelK (by unfold fuelK; omega)
def rtrim (p : UInt8 -> Bool) (l : List UInt8) : List UInt8 := (l.reverse.dropWhile p).reverse
theorem rtrim_concat (p : UInt8 -> Bool) (l : List UInt8) (c : UInt8) : rtrim p (l ++ [c]) = if p c then rtrim p l else l ++ [c] := by
 unfold rtrim
 rw [List.reverse_append, List.reverse_singleton, List.singleton_append, List.dropWhile_cons]
 split <;> simp
theorem rtrim_all {p : UInt8 -> Bool} : ∀ {l : List UInt8}, (∀ a ∈ l, p a = true) -> rtrim p l = [] := by
 intro l h
 unfold rtrim
 rw [dw_nil.2 (by intro a ha; exact h a (List.mem_reverse.1 ha))]; rfl
theorem rtrim_append {p : UInt8 -> Bool} (a : List UInt8) {c : UInt8} (d : List UInt8) (hc : p c = false) : rtrim p (a ++ c :: d) = a ++ rtrim p (c :: d) := by
 unfold rtrim
 rw [List.reverse_append, List.reverse_cons, List.append_assoc]
 simp only [List.dropWhile_append]
 split
 ·simp [hc]
 ·simp
theorem rtrim_head {p : UInt8 -> Bool} {c : UInt8} (d : List UInt8) (hc : p c = false) : ∃ e, rtrim p (c :: d) = c :: e := by
 refine ⟨rtrim p (c :: d) |>.tail, ?_⟩
 have := rtrim_append (p := p) [] (c := c) d hc
 unfold rtrim at this ⊢
 rw [List.reverse_cons, List.dropWhile_append]
 split
 ·simp [hc]
 ·simp
def trimL (l : List UInt8) : List UInt8 := rtrim isBl (l.dropWhile isBl)
theorem trim_comm (p : UInt8 -> Bool) (l : List UInt8) : (rtrim p l).dropWhile p = rtrim p (l.dropWhile p) := by
 have hs : l = l.takeWhile p ++ l.dropWhile p := List.takeWhile_append_dropWhile.symm
 cases hd : l.dropWhile p with
 | nil =>
  have : ∀ a ∈ l, p a = true := dw_nil.1 hd
  rw [rtrim_all this]; rfl
 | cons c d =>
  have hc : p c = false := by
   have := List.head?_dropWhile_not p l
   rw [hd] at this; simpa using this
  conv => lhs; rw [hs, hd, rtrim_append _ _ hc]
  obtain ⟨e, he⟩ := rtrim_head (p := p) d hc
  rw [List.dropWhile_append_of_pos (by intro a ha; exact List.all_eq_true.1 List.all_takeWhile a ha), he, List.dropWhile_cons, hc]
  simp
theorem last_split {l : List UInt8} (h : l ≠ []) : ∃ t c, l = t ++ [c] := ⟨l.dropLast, l.getLast h, (List.dropLast_concat_getLast h).symm⟩
def blSet : LA := setA (setA (List.replicate 256 (AV.bool false)) 32 (AV.bool true)) 9 (AV.bool true)
theorem blSet_all : (List.range 256).all (fun n => (rdA blSet (n : Int)).b == isBl (UInt8.ofNat n)) = true := by kernel_rfl
theorem contains_eq (c : UInt8) (κ : Bool -> Option R) : st_asciiSet_contains blSet (c.toNat : Int) κ = κ (isBl c) := by
 unfold st_asciiSet_contains st_asciiSet_contains.e
 have hlt := byte_lt c
 simp (disch := omega) only [chk_and, chk_dec]
 have := List.all_eq_true.1 blSet_all c.toNat (List.mem_range.2 hlt)
 rw [beq_iff_eq] at this
 rw [this, UInt8.ofNat_toNat]
theorem makeSet_eq (κ : LA -> Bool -> Option R) : st_makeASCIISet (⟨#[32, 9]⟩ : BA) κ = κ blSet true := by kernel_rfl
theorem trimR_L1 (κ : BA -> Option R) : ∀ (f : Nat) (l : List UInt8), l.length < f -> l.length <= 1000000 -> st_trimRightASCII.L1 st_asciiSet_contains κ f (B l) blSet = κ (B (rtrim isBl l))
 | 0, l, h, hs => by omega
 | f + 1, l, h, hs => by
  rw [st_trimRightASCII.L1, st_trimRightASCII.t1]
  simp only [size_B]
  by_cases hl : l = []
  ·subst hl; rfl
  ·obtain ⟨t, c, rfl⟩ := last_split hl
   have hlen : (t ++ [c]).length = t.length + 1 := by simp
   have hw : IntKind.wrap .i64 (((t ++ [c]).length : Int) - 1) = (t.length : Int) := by rw [hlen, wrap_i64 (by omega) (by omega)]; omega
   have hg : (t ++ [c])[t.length]? = some c := by simp
   simp only [hw]
   simp (disch := omega) only [cond_dec, chk_and, chk_dec, btB hg, contains_eq]
   rw [rtrim_concat]
   cases hb : isBl c with
   | false => simp
   | true =>
    simp only [Bool.not_true, cond_false, if_true, extract_B, Int.toNat_zero, Int.toNat_natCast, List.drop_zero]
    rw [List.take_left' rfl]
    exact trimR_L1 κ f t (by omega) (by omega)
theorem trimLf_L1 (κ : BA -> Option R) : ∀ (f : Nat) (l : List UInt8), l.length < f -> l.length <= 1000000 -> st_trimLeftASCII.L1 st_asciiSet_contains κ f (B l) blSet = κ (B (l.dropWhile isBl))
 | 0, l, h, hs => by omega
 | f + 1, l, h, hs => by
  rw [st_trimLeftASCII.L1, st_trimLeftASCII.t1]
  simp only [size_B]
  cases l with
  | nil => rfl
  | cons c r =>
   have hlen : (c :: r).length = r.length + 1 := rfl
   have hb : btA (B (c :: r)) 0 = c.toNat := btB (i := 0) rfl
   simp (disch := omega) only [cond_dec, chk_and, chk_dec, hb, contains_eq]
   rw [List.dropWhile_cons]
   cases hbl : isBl c with
   | false => rfl
   | true =>
    simp only [Bool.not_true, cond_false, if_true, extract_B, Int.toNat_natCast, List.take_length]
    exact trimLf_L1 κ f r (by omega) (by omega)
theorem trimR_entry (l : List UInt8) (hs : l.length <= 1000000) (κ : BA -> Option R) (f : Nat) (hf : l.length < f) :
  st_trimRightASCII.e st_asciiSet_contains (B l) blSet (st_trimRightASCII.L1 st_asciiSet_contains κ f) κ = κ (B (rtrim isBl l)) := trimR_L1 κ f l hf hs
theorem trimLf_entry (l : List UInt8) (hs : l.length <= 1000000) (κ : BA -> Option R) (f : Nat) (hf : l.length < f) :
  st_trimLeftASCII.e st_asciiSet_contains (B l) blSet (st_trimLeftASCII.L1 st_asciiSet_contains κ f) κ = κ (B (l.dropWhile isBl)) := trimLf_L1 κ f l hf hs
theorem rtrim_len (p : UInt8 -> Bool) (l : List UInt8) : (rtrim p l).length <= l.length := by
 unfold rtrim
 rw [List.length_reverse]
 have := (List.dropWhile_sublist p (l := l.reverse)).length_le
 simpa using this
theorem sTrim_eq (l : List UInt8) (hs : l.length <= 1000000) (κ : BA -> Option R) : st_Trim (B l) (⟨#[32, 9]⟩ : BA) κ = κ (B (trimL l)) := by
 unfold st_Trim st_Trim.e
 rw [show decide ((⟨#[32, 9]⟩ : BA) = (⟨#[]⟩ : BA)) = false from by decide]
 simp only [makeSet_eq, cond_false]
 by_cases hl : l = []
 ·subst hl; rfl
 ·rw [decide_eq_false (show ¬ B l = (⟨#[]⟩ : BA) from fun e => hl (B_inj.1 e))]
  simp only [cond_false]
  rw [show (((⟨#[32, 9]⟩ : BA).size : Int) == 1) = false from rfl]
  simp only [cond_false, cond_true]
  have hr := rtrim_len isBl l
  unfold st_trimRightASCII st_trimLeftASCII
  rw [trimR_entry l hs _ fuelK (by unfold fuelK; omega), trimLf_entry _ (by omega) _ fuelK (by unfold fuelK; omega), trim_comm]
  rfl
def bareL (c : List UInt8) : List UInt8 := if c.drop (c.length - 2) = [13, 10] then c.take (c.length - 2) else c
theorem bareL_le (c : List UInt8) : (bareL c).length <= c.length := by unfold bareL; split <;> simp
theorem trimSuffix_eq (c : List UInt8) (hs : c.length <= 1000000) (κ : BA -> Option R) : st_TrimSuffix (B c) (⟨#[13, 10]⟩ : BA) κ = κ (B (bareL c)) := by
 unfold st_TrimSuffix st_TrimSuffix.e sl_TrimSuffix sl_TrimSuffix.e sl_HasSuffix sl_HasSuffix.e
 rw [show (⟨#[13, 10]⟩ : BA) = B [13, 10] from rfl]
 have h2 : ([13, 10] : List UInt8).length = 2 := rfl
 simp only [size_B, h2, extract_B, B_inj]
 unfold bareL
 by_cases h : 2 <= c.length
 ·have hw : IntKind.wrap .i64 ((c.length : Int) - ((2 : Nat) : Int)) = ((c.length - 2 : Nat) : Int) := by rw [wrap_i64 (by omega) (by omega)]; omega
  simp only [hw, Int.toNat_natCast]
  simp (disch := omega) only [cond_dec, chk_and, chk_dec]
  simp only [List.take_length, Int.toNat_zero, List.drop_zero]
  by_cases e : c.drop (c.length - 2) = [13, 10]
  ·rw [cond_dec e, if_pos e]
  ·rw [cond_dec' e, if_neg e]
 ·have e : c.drop (c.length - 2) ≠ [13, 10] := by intro e; have := congrArg List.length e; rw [List.length_drop] at this; simp at this; omega
  simp (disch := omega) only [cond_dec', cond_false]
  rw [if_neg e]
abbrev Fl := List UInt8 × List UInt8 × List UInt8
def fAV (x : Fl) : AV := .agg [.str (B x.1), .str (B x.2.1), .str (B x.2.2)]
theorem fAV1 (x : Fl) : ((fAV x).fld 1).s = B x.2.1 := rfl
def fresh (c : List UInt8) : Fl := bif isF c then (nmL c, bareL (c.drop (atL c + 1)), c) else ([], [], c)
def ext (x : Fl) (c : List UInt8) : Fl := (x.1, x.2.1 ++ bareL c, x.2.2 ++ c)
def headG : Option Fl -> List (List UInt8) -> List Fl
 | none, [] => []
 | some x, [] => [x]
 | none, c :: r => headG (some (fresh c)) r
 | some x, c :: r => bif isBl (c.headD 0) then headG (some (ext x c)) r else x :: headG (some (fresh c)) r
theorem isF_blank {c : UInt8} {r : List UInt8} (h : isBl c = true) : isF (c :: r) = false := by
 unfold isF nmL
 have : isNm c = false := by
  unfold isBl at h
  rw [Bool.or_eq_true, beq_iff_eq, beq_iff_eq] at h
  rcases h with rfl | rfl <;> rfl
 rw [List.takeWhile_cons, this]; simp
theorem isF_at {c : List UInt8} (h : isF c = true) : c[atL c]? = some 58 := by
 unfold isF at h; rw [Bool.and_eq_true, beq_iff_eq] at h; exact h.2
theorem isF_nm {c : List UInt8} (h : isF c = true) : nmL c ≠ [] := by
 unfold isF at h; rw [Bool.and_eq_true, decide_eq_true_eq] at h; exact h.1
theorem isF_lt {c : List UInt8} (h : isF c = true) : atL c < c.length := (List.getElem?_eq_some_iff.1 (isF_at h)).1
theorem nmL_le (c : List UInt8) : (nmL c).length <= c.length := (List.takeWhile_prefix isNm (l := c)).length_le
def named (l : List Fl) : List Fl := l.filter fun x => x.1 != []
def trimF (x : Fl) : Fl := (x.1, trimL x.2.1, x.2.2)
theorem headG_val : ∀ (ls : List (List UInt8)) (cur : Option Fl) (n : Nat), (∀ x, cur = some x -> x.2.1.length + total ls <= n) -> total ls <= n -> ∀ x ∈ headG cur ls, x.2.1.length <= n
 | [], none, n, h, h2, x, hx => by rw [headG] at hx; cases hx
 | [], some y, n, h, h2, x, hx => by
  rw [headG, List.mem_singleton] at hx; subst hx
  have := h x rfl; simp only [total] at this; omega
 | c :: r, none, n, h, h2, x, hx => by
  rw [headG] at hx
  refine headG_val r _ n ?_ (by simp only [total] at h2; omega) x hx
  intro y e; cases e
  simp only [total] at h2
  have : (fresh c).2.1.length <= c.length := by
   unfold fresh
   cases isF c with
   | false => simp
   | true => have := bareL_le (c.drop (atL c + 1)); rw [List.length_drop] at this; show (bareL _).length <= _; omega
  omega
 | c :: r, some y, n, h, h2, x, hx => by
  have hy := h y rfl
  simp only [total] at h2 hy
  rw [headG] at hx
  have hf : (fresh c).2.1.length <= c.length := by
   unfold fresh
   cases isF c with
   | false => simp
   | true => have := bareL_le (c.drop (atL c + 1)); rw [List.length_drop] at this; show (bareL _).length <= _; omega
  cases hb : isBl (c.headD 0) with
  | true =>
   rw [hb, cond_true] at hx
   refine headG_val r _ n ?_ (by omega) x hx
   intro z e; cases e
   have := bareL_le c
   have : (ext y c).2.1.length = y.2.1.length + (bareL c).length := by unfold ext; simp
   omega
  | false =>
   rw [hb, cond_false, List.mem_cons] at hx
   rcases hx with rfl | hx
   ·omega
   ·refine headG_val r _ n ?_ (by omega) x hx
    intro z e; cases e; omega
theorem total_takeWhile (p : List UInt8 -> Bool) : ∀ l : List (List UInt8), total (l.takeWhile p) <= total l
 | [] => by simp
 | c :: r => by
  rw [List.takeWhile_cons]
  have := total_takeWhile p r
  split <;> simp only [total] <;> omega
def fieldsG (h : List UInt8) : List Fl := ((named (headG none (headL h))).map trimF).take 64
theorem headL_len (h : List UInt8) : (headL h).length <= h.length + 1 := by
 have h1 := linesG_len h
 have h2 : (headL h).length <= (linesG [] h).length := (List.takeWhile_sublist _).length_le
 omega
theorem headL_total (h : List UInt8) : total (headL h) <= h.length := by
 have h1 := linesG_total [] h
 have h2 : total (headL h) <= total (linesG [] h) := total_takeWhile _ _
 simp at h1; omega
theorem sIndexByte_eq (l : List UInt8) (κ : Int -> Option R) : st_IndexByte (B l) 58 κ = κ (Lib.indexByte l 58) := rfl
theorem colon_first {c : List UInt8} {k : Nat} (h : k < atL c) : c[k]? ≠ some 58 := by
 unfold atL at h
 by_cases hk : k < (nmL c).length
 ·obtain ⟨x, h1, h2⟩ := takeWhile_get (p := isNm) hk
  rw [h1]; intro e; cases e; exact absurd h2 (by decide)
 ·obtain ⟨x, h1, h2⟩ := takeWhile_get (p := isBl) (l := c.drop (nmL c).length) (k := k - (nmL c).length) (by omega)
  rw [List.getElem?_drop, show (nmL c).length + (k - (nmL c).length) = k by omega] at h1
  rw [h1]; intro e; cases e; exact absurd h2 (by decide)
theorem bare_at {c : List UInt8} (h : isF c = true) : Lib.indexByte (bareL c) 58 = (atL c : Int) /\ atL c + 1 <= (bareL c).length /\ (bareL c).drop (atL c + 1) = bareL (c.drop (atL c + 1)) := by
 have h1 := isF_at h
 have h2 := isF_lt h
 unfold bareL
 by_cases e : c.drop (c.length - 2) = [13, 10]
 ·have hl : 2 <= c.length := by have := congrArg List.length e; rw [List.length_drop] at this; simp at this; omega
  have g0 : c[c.length - 2]? = some 13 := (drop_get e).1
  have g1 : c[c.length - 2 + 1]? = some 10 := (drop_get (drop_get e).2.2).1
  have hlt : atL c < c.length - 2 := by
   rcases Nat.lt_trichotomy (atL c) (c.length - 2) with hlt | heq | hgt
   ·exact hlt
   ·rw [heq, g0] at h1; cases h1
   ·have : atL c = c.length - 2 + 1 := by omega
    rw [this, g1] at h1; cases h1
  rw [if_pos e]
  refine ⟨indexByte_at (by rw [List.getElem?_take, if_pos hlt, h1]) (fun k hk => by rw [List.getElem?_take, if_pos (by omega)]; exact colon_first hk), by rw [List.length_take]; omega, ?_⟩
  have hl2 : (c.drop (atL c + 1)).length - 2 = c.length - 2 - (atL c + 1) := by rw [List.length_drop]; omega
  rw [if_pos (by rw [hl2, List.drop_drop, show atL c + 1 + (c.length - 2 - (atL c + 1)) = c.length - 2 by omega]; exact e), hl2, List.drop_take]
 ·rw [if_neg e]
  refine ⟨indexByte_at h1 (fun k hk => colon_first hk), h2, ?_⟩
  rw [if_neg]
  intro e2
  have hl : 2 <= (c.drop (atL c + 1)).length := by have := congrArg List.length e2; rw [List.length_drop] at this; simp at this ⊢; omega
  apply e
  rw [List.drop_drop] at e2
  rw [List.length_drop] at e2 hl
  rw [show atL c + 1 + (c.length - (atL c + 1) - 2) = c.length - 2 by omega] at e2
  exact e2
def gAV (x : Fl) : AV := .agg [.str (B x.1), .str (B []), .str (B x.2.2)]
def vAV (x : Fl) : AV := .str (B x.2.1)
abbrev lfL4 (κ : LA -> Option R) := le_Fields.L4 le_rows st_Trim st_TrimSuffix st_IndexByte κ
abbrev lfL8 (κ : LA -> Option R) := le_Fields.L8 le_rows st_Trim st_TrimSuffix st_IndexByte κ
abbrev lfL13 (κ : LA -> Option R) := le_Fields.L13 le_rows st_Trim st_TrimSuffix st_IndexByte κ
abbrev lfL15 (κ : LA -> Option R) := le_Fields.L15 le_rows st_Trim st_TrimSuffix st_IndexByte κ
abbrev lfL17 (κ : LA -> Option R) := le_Fields.L17 le_rows st_Trim st_TrimSuffix st_IndexByte κ
theorem lfL4_succ (κ : LA -> Option R) (f : Nat) (n i : Int) (a b c : LA) : lfL4 κ (f + 1) n i a b c = le_Fields.t4 (lfL8 κ f) (lfL15 κ f) (lfL17 κ f) n i a b c := by
 try unfold lfL4
 try unfold lfL8
 try unfold lfL13
 try unfold lfL15
 try unfold lfL17
 try unfold le_Fields.L4
 try unfold le_Fields.L8
 try unfold le_Fields.L13
 try unfold le_Fields.L15
 rw [le_Fields.M4]
theorem lfL8_succ (κ : LA -> Option R) (f : Nat) (n i : Int) (a b : LA) (s m : BA) (x y : Bool) (c : LA) : lfL8 κ (f + 1) n i a b s m x y c = le_Fields.t8 st_TrimSuffix st_IndexByte (lfL13 κ f) n i a b s m x y c := by
 try unfold lfL4
 try unfold lfL8
 try unfold lfL13
 try unfold lfL15
 try unfold le_Fields.L4
 try unfold le_Fields.L8
 try unfold le_Fields.L13
 try unfold le_Fields.L15
 rw [le_Fields.M4]
theorem lfL13_succ (κ : LA -> Option R) (f : Nat) (w : BA) (n i : Int) (a b : LA) (s m : BA) (x y : Bool) (c : LA) : lfL13 κ (f + 1) w n i a b s m x y c = le_Fields.t13 (lfL15 κ f) w n i a b s m x y c := by
 try unfold lfL4
 try unfold lfL8
 try unfold lfL13
 try unfold lfL15
 try unfold le_Fields.L4
 try unfold le_Fields.L8
 try unfold le_Fields.L13
 try unfold le_Fields.L15
 rw [le_Fields.M4]
theorem lfL15_succ (κ : LA -> Option R) (f : Nat) (n i : Int) (a b c : LA) : lfL15 κ (f + 1) n i a b c = lfL4 κ f n (IntKind.wrap .i64 (i + 1)) a b c := by
 unfold lfL4 lfL15 le_Fields.L4 le_Fields.L15
 rw [le_Fields.M4]; rfl
theorem lf13 (κ : LA -> Option R) (f : Nat) (txt w nm raw c : List UInt8) (n i : Int) (xs vs : LA) (m : BA) (x y : Bool) (rs : LA) (hn : xs.length <= 1000000) (hv : vs.length = xs.length) (h1 : raw.length + c.length <= 2000000) (h2 : w.length + txt.length <= 2000000) :
  lfL13 κ (f + 1) (B txt) n i (xs ++ [gAV (nm, w, raw)]) (vs ++ [.str (B w)]) (B c) m x y rs = lfL15 κ f n i (xs ++ [gAV (nm, w ++ txt, raw ++ c)]) (vs ++ [.str (B (w ++ txt))]) rs := by
 rw [lfL13_succ, le_Fields.t13]
 have hw : ∀ a : AV, IntKind.wrap .i64 (((xs ++ [a]).length : Int) - 1) = ((xs.length : Nat) : Int) := by
  intro a; rw [List.length_append, List.length_singleton, wrap_i64 (by omega) (by omega)]; omega
 have sl : ∀ a b : AV, setA (xs ++ [a]) (xs.length : Int) b = xs ++ [b] := fun a b => setA_at _ a b [] _ rfl
 have slv : ∀ a b : AV, setA (vs ++ [a]) (xs.length : Int) b = vs ++ [b] := fun a b => setA_at _ a b [] _ hv
 have rv : ∀ a : AV, rdA (vs ++ [a]) (xs.length : Int) = a := fun a => rdA_at _ a [] _ hv
 have f0 : ∀ a b c : AV, (AV.agg [a, b, c]).fld 0 = a := fun _ _ _ => rfl
 have f1 : ∀ a b c : AV, (AV.agg [a, b, c]).fld 1 = b := fun _ _ _ => rfl
 have f2 : ∀ a b c : AV, (AV.agg [a, b, c]).fld 2 = c := fun _ _ _ => rfl
 have fs : ∀ a, (AV.str a).s = a := fun _ => rfl
 simp only [hw, sl, slv, rv, rdA_last, gAV, f0, f1, f2, fs, append_B, size_B]
 simp only [List.length_append, List.length_singleton]
 simp (disch := omega) only [chk_and, chk_dec]
theorem lf17 (κ : LA -> Option R) (fs : List Fl) (hn : fs.length <= 1000000) (hv : ∀ x ∈ fs, x.2.1.length <= 1000000) : ∀ (f i : Nat), i <= fs.length -> fs.length < i + f ->
  lfL17 κ f (fs.length : Int) (i : Int) (((fs.map trimF).take i).map fAV ++ (fs.drop i).map gAV) (fs.map vAV) = κ ((fs.map trimF).map fAV)
 | 0, i, h1, h2 => by omega
 | f + 1, i, h1, h2 => by
  unfold lfL17
  rw [le_Fields.L17, le_Fields.t17]
  have hl : (((fs.map trimF).take i).map fAV).length = i := by simp; omega
  cases hd : fs.drop i with
  | nil =>
   have := drop_nil hd
   simp (disch := omega) only [cond_dec', List.map_nil, List.append_nil]
   rw [List.take_of_length_le (by simp; omega)]
  | cons x r =>
   obtain ⟨g1, g2, g3⟩ := drop_get hd
   have hwi : IntKind.wrap .i64 ((i : Int) + 1) = ((i + 1 : Nat) : Int) := wrap_i64 (by omega) (by omega)
   have hx : rdA (fs.map vAV) (i : Int) = vAV x := rdA_get (by rw [List.getElem?_map, g1]; rfl)
   have hlen2 : (((fs.map trimF).take i).map fAV ++ (x :: r).map gAV).length = fs.length := by
    rw [List.length_append, hl, List.length_map, <- hd, List.length_drop]; omega
   have f0 : ((gAV x).fld 0) = .str (B x.1) := rfl
   have f2 : ((gAV x).fld 2) = .str (B x.2.2) := rfl
   have fs' : ∀ a, (AV.str a).s = a := fun _ => rfl
   simp only [hlen2, List.length_map, hx, vAV, fs', hwi]
   rw [List.map_cons, rdA_at _ _ _ _ hl, f0, f2]
   simp only [fs']
   simp (disch := omega) only [cond_dec, chk_and, chk_dec]
   rw [sTrim_eq _ (hv x (List.mem_of_getElem? g1)), setA_at _ _ _ _ _ hl]
   have := lf17 κ fs hn hv f (i + 1) (by omega) (by omega)
   rw [g3] at this
   rw [<- this]
   have e : (fs.map trimF).take (i + 1) = (fs.map trimF).take i ++ [trimF x] := take_succ_get (by rw [List.getElem?_map, g1]; rfl)
   rw [e]
   simp [fAV, trimF, vAV]
def letG : List Fl -> Option Fl -> List (List UInt8) -> List Fl
 | d, cur, [] => d ++ cur.toList
 | d, cur, c :: r => bif isBl (c.headD 0) then letG d (cur.map fun x => ext x c) r else bif isF c then (if (d ++ cur.toList).length = 64 then d ++ cur.toList else letG (d ++ cur.toList) (some (fresh c)) r) else letG (d ++ cur.toList) none r
theorem lf_loop (κ : LA -> Option R) (rs : List (List UInt8 × List UInt8 × Bool × Bool)) (hn : rs.length <= 1000000) : ∀ (rest : List (List UInt8)) (f i : Nat) (d : List Fl) (cur : Option Fl) (nm : List UInt8),
  i <= rs.length -> rs.drop i = rowsG cur.isSome nm rest -> 4 * rs.length + 200 < 4 * i + f -> (d ++ cur.toList).length <= 64 -> total rest <= 1000000 -> (∀ x ∈ d, x.2.1.length <= 1000000) ->
  (∀ x, cur = some x -> x.2.1.length <= x.2.2.length /\ x.2.2.length + total rest <= 1000000) ->
  lfL4 κ f (rs.length : Int) (i : Int) ((d ++ cur.toList).map gAV) ((d ++ cur.toList).map vAV) (rs.map rowAV) = κ (((letG d cur rest).map trimF).map fAV)
 | [], f, i, d, cur, nm, hi, hd, hf, h64, ht, hv, hc => by
  have hi2 : rs.length <= i := drop_nil (by rw [hd]; rfl)
  obtain ⟨f, rfl⟩ : ∃ g, f = g + 1 := ⟨f - 1, by omega⟩
  rw [lfL4_succ, le_Fields.t4]
  simp only [List.length_map]
  simp (disch := omega) only [cond_dec']
  rw [letG]
  exact lf17 κ (d ++ cur.toList) (by omega) (by
   intro x hx
   rw [List.mem_append] at hx
   rcases hx with hx | hx
   ·exact hv x hx
   ·cases cur with
    | none => simp at hx
    | some y => simp at hx; subst hx; have := hc x rfl; omega) f 0 (by omega) (by omega)
 | c :: r, f, i, d, cur, nm, hi, hd, hf, h64, ht, hv, hc => by
  obtain ⟨f, rfl⟩ : ∃ g, f = g + 4 := ⟨f - 4, by
   have : 0 < (rs.drop i).length := by rw [hd, rowsG]; cases isBl (c.headD 0) <;> simp
   rw [List.length_drop] at this; omega⟩
  have hvv : ∀ x ∈ d ++ cur.toList, x.2.1.length <= 1000000 := by
   intro x hx
   rw [List.mem_append] at hx
   rcases hx with hx | hx
   ·exact hv x hx
   ·cases cur with
    | none => simp at hx
    | some y => simp at hx; subst hx; have := hc x rfl; omega
  have htt : total (c :: r) = c.length + total r := rfl
  have hbl := bareL_le c
  have hlm : (rs.map rowAV).length = rs.length := List.length_map ..
  have hl1 : ((d ++ cur.toList).map gAV).length = (d ++ cur.toList).length := List.length_map ..
  have hl2 : ((d ++ cur.toList).map vAV).length = (d ++ cur.toList).length := List.length_map ..
  have hdl : d.length <= (d ++ cur.toList).length := by rw [List.length_append]; omega
  rw [letG, lfL4_succ, le_Fields.t4, hlm]
  cases hb : isBl (c.headD 0) with
  | true =>
   have hd' : rs.drop i = (c, nm, false, cur.isSome) :: rowsG cur.isSome nm r := by rw [hd, rowsG, hb]; rfl
   obtain ⟨g1, g2, g3⟩ := drop_get hd'
   have hwi : IntKind.wrap .i64 ((i : Int) + 1) = ((i + 1 : Nat) : Int) := wrap_i64 (by omega) (by omega)
   have hrow : rdA (rs.map rowAV) (i : Int) = rowAV (c, nm, false, cur.isSome) := rdA_get (by rw [List.getElem?_map, g1]; rfl)
   have r0 : ((rowAV (c, nm, false, cur.isSome)).fld 0).s = B c := rfl
   have r1 : ((rowAV (c, nm, false, cur.isSome)).fld 1).s = B nm := rfl
   have r2 : ((rowAV (c, nm, false, cur.isSome)).fld 2).b = false := rfl
   have r3 : ((rowAV (c, nm, false, cur.isSome)).fld 3).b = cur.isSome := rfl
   simp only [hrow, r0, r1, r2, r3, cond_false]
   simp (disch := omega) only [cond_dec, chk_and, chk_dec, cond_true]
   cases cur with
   | none =>
    simp only [Option.isSome_none, Bool.not_false, cond_true, Option.map_none]
    rw [lfL15_succ, hwi]
    exact lf_loop κ rs hn r (f + 2) (i + 1) d none nm (by omega) g3 (by omega) h64 (by omega) hv (by intro x e; cases e)
   | some x =>
    obtain ⟨hx1, hx2⟩ := hc x rfl
    simp only [Option.isSome_some, Bool.not_true, cond_false, Option.map_some]
    rw [lfL8_succ, le_Fields.t8, trimSuffix_eq c (by omega)]
    simp only [cond_false]
    have e1 : (d ++ (some x).toList).map gAV = d.map gAV ++ [gAV (x.1, x.2.1, x.2.2)] := by simp
    have e2 : (d ++ (some x).toList).map vAV = d.map vAV ++ [.str (B x.2.1)] := by simp [vAV]
    rw [e1, e2, lf13 κ (f + 1) (bareL c) x.2.1 x.1 x.2.2 c _ _ _ _ _ _ _ _ (by rw [List.length_map]; omega) (by simp) (by omega) (by omega), lfL15_succ, hwi]
    have ex : (ext x c).2.2.length = x.2.2.length + c.length := by unfold ext; simp
    have ex1 : (ext x c).2.1.length = x.2.1.length + (bareL c).length := by unfold ext; simp
    have := lf_loop κ rs hn r f (i + 1) d (some (ext x c)) nm (by omega) g3 (by omega) (by simpa using h64) (by omega) hv (by intro y e; cases e; exact ⟨by omega, by omega⟩)
    rw [<- this]
    simp [ext, vAV]
  | false =>
   have hd' : rs.drop i = (c, nmL c, isF c, isF c) :: rowsG (isF c) (nmL c) r := by rw [hd, rowsG, hb]; rfl
   obtain ⟨g1, g2, g3⟩ := drop_get hd'
   have hwi : IntKind.wrap .i64 ((i : Int) + 1) = ((i + 1 : Nat) : Int) := wrap_i64 (by omega) (by omega)
   have hrow : rdA (rs.map rowAV) (i : Int) = rowAV (c, nmL c, isF c, isF c) := rdA_get (by rw [List.getElem?_map, g1]; rfl)
   have r0 : ((rowAV (c, nmL c, isF c, isF c)).fld 0).s = B c := rfl
   have r1 : ((rowAV (c, nmL c, isF c, isF c)).fld 1).s = B (nmL c) := rfl
   have r2 : ((rowAV (c, nmL c, isF c, isF c)).fld 2).b = isF c := rfl
   have r3 : ((rowAV (c, nmL c, isF c, isF c)).fld 3).b = isF c := rfl
   simp only [hrow, r0, r1, r2, r3, cond_false]
   simp (disch := omega) only [cond_dec, chk_and, chk_dec, cond_true]
   cases hF : isF c with
   | false =>
    simp only [Bool.not_false, cond_true, cond_false]
    rw [lfL15_succ, hwi]
    rw [hF] at g3
    have := lf_loop κ rs hn r (f + 2) (i + 1) (d ++ cur.toList) none (nmL c) (by omega) g3 (by omega) (by simpa using h64) (by omega) hvv (by intro x e; cases e)
    simpa using this
   | true =>
    rw [hF] at g3
    simp only [Bool.not_true, cond_true, cond_false, hl1]
    by_cases h6 : (d ++ cur.toList).length = 64
    ·rw [if_pos h6, beq_pos (by omega)]
     simp only [cond_true]
     exact lf17 κ (d ++ cur.toList) (by omega) hvv (f + 3) 0 (by omega) (by omega)
    ·rw [if_neg h6, beq_neg (by omega)]
     simp only [cond_false]
     obtain ⟨k1, k2, k3⟩ := bare_at hF
     rw [lfL8_succ, le_Fields.t8, trimSuffix_eq c (by omega)]
     have hw58 : IntKind.wrap .i64 ((atL c : Int) + 1) = ((atL c + 1 : Nat) : Int) := wrap_i64 (by omega) (by omega)
     simp only [cond_true, sIndexByte_eq, k1, hw58, size_B, hl1, hl2]
     simp (disch := omega) only [chk_and, chk_dec]
     simp only [extract_B, Int.toNat_natCast, List.take_length, k3]
     have e1 : AV.agg [AV.str (B (nmL c)), AV.str (⟨#[]⟩ : BA), AV.str (⟨#[]⟩ : BA)] = gAV (nmL c, [], []) := rfl
     have e2 : AV.str (⟨#[]⟩ : BA) = .str (B []) := rfl
     have hvl := bareL_le (c.drop (atL c + 1))
     rw [List.length_drop] at hvl
     rw [e1, e2, lf13 κ (f + 1) _ [] (nmL c) [] c _ _ _ _ _ _ _ _ (by omega) (by simp) (by simp; omega) (by simp; omega), lfL15_succ, hwi]
     have hfr : fresh c = (nmL c, bareL (c.drop (atL c + 1)), c) := by unfold fresh; rw [hF]; rfl
     have := lf_loop κ rs hn r f (i + 1) (d ++ cur.toList) (some (fresh c)) (nmL c) (by omega) g3 (by omega) (by rw [List.length_append]; show _ + 1 <= _; omega) (by omega) hvv
      (by intro y e; cases e; rw [hfr]; exact ⟨by show (bareL _).length <= c.length; omega, by show c.length + _ <= _; omega⟩)
     rw [<- this, hfr]
     simp [vAV]
theorem letG_spec : ∀ (rest : List (List UInt8)) (d : List Fl) (cur cur' : Option Fl), (∃ x, cur = some x /\ cur' = some x /\ x.1 ≠ []) ∨ (cur = none /\ (cur' = none ∨ ∃ y, cur' = some y /\ y.1 = [])) -> (d ++ cur.toList).length <= 64 ->
  letG d cur rest = (d ++ named (headG cur' rest)).take 64
 | [], d, cur, cur', h, h64 => by
  rcases h with ⟨x, rfl, rfl, hx⟩ | ⟨rfl, rfl | ⟨y, rfl, hy⟩⟩
  ·rw [letG, headG]; unfold named; rw [List.filter_cons]; simp [hx]
   rw [List.take_of_length_le]; simpa using h64
  ·rw [letG, headG]; simp [named] at h64 ⊢; exact (List.take_of_length_le h64).symm
  ·rw [letG, headG]; simp [named, hy] at h64 ⊢; exact (List.take_of_length_le h64).symm
 | c :: r, d, cur, cur', h, h64 => by
  have hnone : headG none (c :: r) = headG (some (fresh c)) r := rfl
  have hnamed : ∀ (x : Fl) (l : List Fl), x.1 ≠ [] -> named (x :: l) = x :: named l := by intro x l hx; unfold named; rw [List.filter_cons]; simp [hx]
  have hnam0 : ∀ (x : Fl) (l : List Fl), x.1 = [] -> named (x :: l) = named l := by intro x l hx; unfold named; rw [List.filter_cons]; simp [hx]
  have hfr1 : isF c = true -> (fresh c).1 ≠ [] := by intro e; unfold fresh; rw [e]; exact isF_nm e
  have hfr0 : isF c = false -> (fresh c).1 = [] := by intro e; unfold fresh; rw [e]; rfl
  rw [letG]
  cases hb : isBl (c.headD 0) with
  | true =>
   have hF : isF c = false := by cases c with | nil => cases hb | cons b t => exact isF_blank hb
   simp only [cond_true]
   rcases h with ⟨x, rfl, rfl, hx⟩ | ⟨rfl, rfl | ⟨y, rfl, hy⟩⟩
   ·rw [headG, hb]; simp only [cond_true]
    exact letG_spec r d _ _ (Or.inl ⟨ext x c, rfl, rfl, hx⟩) (by simpa using h64)
   ·rw [hnone]
    exact letG_spec r d none _ (Or.inr ⟨rfl, Or.inr ⟨_, rfl, hfr0 hF⟩⟩) h64
   ·rw [headG, hb]; simp only [cond_true]
    exact letG_spec r d none _ (Or.inr ⟨rfl, Or.inr ⟨_, rfl, hy⟩⟩) h64
  | false =>
   simp only [cond_false]
   have hh : d ++ named (headG cur' (c :: r)) = (d ++ cur.toList) ++ named (headG (some (fresh c)) r) := by
    rcases h with ⟨x, rfl, rfl, hx⟩ | ⟨rfl, rfl | ⟨y, rfl, hy⟩⟩
    ·rw [headG, hb]; simp only [cond_false]; rw [hnamed _ _ hx]; simp
    ·rw [hnone]; simp
    ·rw [headG, hb]; simp only [cond_false]; rw [hnam0 _ _ hy]; simp
   rw [hh]
   cases hF : isF c with
   | true =>
    simp only [cond_true]
    by_cases h6 : (d ++ cur.toList).length = 64
    ·rw [if_pos h6, List.take_append_of_le_length (by omega), List.take_of_length_le (by omega)]
    ·rw [if_neg h6]
     exact letG_spec r _ _ _ (Or.inl ⟨_, rfl, rfl, hfr1 hF⟩) (by rw [List.length_append] at h6 ⊢; show _ + 1 <= _; rw [List.length_append] at h64 ⊢; omega)
   | false =>
    simp only [cond_false]
    exact letG_spec r _ none _ (Or.inr ⟨rfl, Or.inr ⟨_, rfl, hfr0 hF⟩⟩) (by simpa using h64)
theorem rowsG_len : ∀ (fld : Bool) (nm : List UInt8) (l : List (List UInt8)), (rowsG fld nm l).length = l.length
 | _, _, [] => rfl
 | fld, nm, c :: r => by
  rw [rowsG]
  cases isBl (c.headD 0) with
  | true => simp only [cond_true, List.length_cons]; rw [rowsG_len]
  | false => simp only [cond_false, List.length_cons]; rw [rowsG_len]
theorem lf_entry (h : List UInt8) (hs : h.length <= 200000) (κ : LA -> Option R) (f : Nat) (hf : 1000300 < f) :
  le_Fields.e le_rows st_Trim st_TrimSuffix st_IndexByte (B h) (lfL4 κ f) (lfL8 κ f) (lfL13 κ f) (lfL15 κ f) (lfL17 κ f) κ = κ ((fieldsG h).map fAV) := by
 unfold le_Fields.e
 rw [rows_eq h (by omega)]
 have h1 := headL_len h
 have h2 := headL_total h
 have hl := rowsG_len false [] (headL h)
 have := lf_loop κ (rowsG false [] (headL h)) (by omega) (headL h) f 0 [] none [] (by omega) rfl (by omega) (by simp) (by omega) (by simp) (by intro x e; cases e)
 rw [letG_spec _ _ _ none (Or.inr ⟨rfl, Or.inl rfl⟩) (by simp)] at this
 simp only [List.length_map]
 refine this.trans ?_
 unfold fieldsG
 simp [List.map_take]
theorem lFields_eq (h : List UInt8) (hs : h.length <= 200000) (κ : LA -> Option R) : le_Fields (B h) κ = κ ((fieldsG h).map fAV) :=
 lf_entry h hs κ fuelK (by unfold fuelK; omega)
def lowC (c : UInt8) : UInt8 := if 65 <= c.toNat /\ c.toNat <= 90 then UInt8.ofNat (c.toNat + 32) else c
def lowL (l : List UInt8) : List UInt8 := l.map lowC
theorem lowC_up {c : UInt8} (h1 : 65 <= c.toNat) (h2 : c.toNat <= 90) : ((lowC c).toNat : Int) = (c.toNat : Int) + 32 := by
 unfold lowC
 rw [if_pos ⟨h1, h2⟩]
 simp; omega
theorem lowC_no {c : UInt8} (h : ¬ (65 <= c.toNat /\ c.toNat <= 90)) : lowC c = c := by unfold lowC; rw [if_neg h]
theorem lowL_len (l : List UInt8) : (lowL l).length = l.length := by unfold lowL; simp
theorem ints_get {l : List UInt8} {i : Nat} {c : UInt8} (h : l[i]? = some c) : (rdA (intsAV l) (i : Int)).i = (c.toNat : Int) := by
 rw [rdA_get (a := .int (c.toNat : Int)) (by unfold intsAV; rw [List.getElem?_map, h]; rfl)]; rfl
theorem ints_set (a : List UInt8) (c d : UInt8) (r : List UInt8) (n : Nat) (h : a.length = n) : setA (intsAV (a ++ c :: r)) (n : Int) (.int (d.toNat : Int)) = intsAV (a ++ d :: r) := by
 unfold intsAV
 rw [List.map_append, List.map_cons, setA_at _ _ _ _ n (by rw [List.length_map]; exact h)]
 simp
theorem oLower_loop (l : List UInt8) (hs : l.length <= 140737488355327) (κ : BA -> Option R) : ∀ (f i : Nat), i <= l.length -> l.length < i + f ->
  oc_Lower.L3 κ f (l.length : Int) (i : Int) (intsAV (lowL (l.take i) ++ l.drop i)) = κ (B (lowL l))
 | 0, i, h1, h2 => by omega
 | f + 1, i, h1, h2 => by
  rw [oc_Lower.L3, oc_Lower.t3]
  have hla : (lowL (l.take i)).length = i := by rw [lowL_len, List.length_take]; omega
  have hll : (intsAV (lowL (l.take i) ++ l.drop i)).length = l.length := by rw [ints_len, List.length_append, hla, List.length_drop]; omega
  simp only [hll, strAV_ints]
  cases hd : l.drop i with
  | nil =>
   have := drop_nil hd
   rw [cond_dec' (by omega), List.append_nil, List.take_of_length_le (by omega)]
  | cons c r =>
   obtain ⟨g1, g2, g3⟩ := drop_get hd
   have hw1 : IntKind.wrap .i64 ((i : Int) + 1) = ((i + 1 : Nat) : Int) := wrap_i64 (by omega) (by omega)
   have hg : (rdA (intsAV (lowL (l.take i) ++ c :: r)) (i : Int)).i = (c.toNat : Int) := ints_get (by rw [List.getElem?_append_right (by omega), hla]; simp)
   simp only [hg, hw1]
   simp (disch := omega) only [cond_dec, chk_and, chk_dec]
   have hn := oLower_loop l hs κ f (i + 1) (by omega) (by omega)
   rw [g3] at hn
   have ht : lowL (l.take (i + 1)) ++ r = lowL (l.take i) ++ lowC c :: r := by rw [take_succ_get g1]; unfold lowL; simp
   rw [ht] at hn
   by_cases h1' : 65 <= c.toNat
   ·by_cases h2' : c.toNat <= 90
    ·have hu := lowC_up h1' h2'
     have hlt := byte_lt c
     have hw : IntKind.wrap .u8 ((IntKind.wrap .u8 ((c.toNat : Int) + 97)) - 65) = ((lowC c).toNat : Int) := by
      rw [wrap_u8 (x := (c.toNat : Int) + 97) (by omega) (by omega), wrap_u8 (by omega) (by omega), hu]; omega
     rw [cond_dec (by omega), cond_dec (by omega), hw, ints_set _ _ _ _ _ hla]
     exact hn
    ·rw [lowC_no (by omega)] at hn
     rw [cond_dec (by omega), cond_dec' (by omega)]
     exact hn
   ·rw [lowC_no (by omega)] at hn
    rw [cond_dec' (by omega)]
    exact hn
theorem oLower_eq (l : List UInt8) (hs : l.length <= 140737488355327) (κ : BA -> Option R) : oc_Lower (B l) κ = κ (B (lowL l)) := by
 have key : ∀ f, l.length < f -> oc_Lower.e (B l) (oc_Lower.L3 κ f) κ = κ (B (lowL l)) := by
  intro f hf
  unfold oc_Lower.e
  rw [size_B, chk_dec (by omega), bytesB', ints_len]
  exact oLower_loop l hs κ f 0 (by omega) (by omega)
 exact key fuelK (by unfold fuelK; omega)
abbrev NB : Nat := 140737488351232
theorem lSameB (a b : BA) (ha : a.size <= NB) (hb : b.size <= NB) (κ : Bool -> Option R) : oc_Same a b κ = κ (decide (lowL (bl a) = lowL (bl b))) := by
 have h1 := size_bl a
 have h2 := size_bl b
 unfold NB at ha hb
 unfold oc_Same oc_Same.e
 conv => lhs; rw [<- B_bl a, <- B_bl b, oLower_eq _ (by omega), oLower_eq _ (by omega)]
 exact congrArg κ (decide_eq_decide.2 B_inj)
def getL (name : BA) : LA -> Option BA
 | [] => none
 | a :: r => if lowL (bl (a.fld 0).s) = lowL (bl name) then some (a.fld 1).s else getL name r
def kGet (κ : Bool -> BA -> Option R) (o : Option BA) : Option R := κ o.isSome (o.getD (B []))
theorem rd_get {l : LA} {i : Nat} {a : AV} {r : LA} (h : l.drop i = a :: r) : rdA l (i : Int) = a := rdA_drop h
theorem lGet_loop (name : BA) (hn : name.size <= NB) (l : LA) (hl : l.length <= 1000000) (hf : ∀ a ∈ l, Fit NB a) (κ : Bool -> BA -> Option R) (x4 : Bool) (x5 : BA) : ∀ (f i : Nat), i <= l.length -> l.length < i + f ->
  le_Get.L2 oc_Same κ f name l (l.length : Int) (i : Int) x4 x5 = kGet κ (getL name (l.drop i))
 | 0, i, h1, h2 => by omega
 | f + 1, i, h1, h2 => by
  rw [le_Get.L2, le_Get.t2, empty_B]
  have hw1 : IntKind.wrap .i64 ((i : Int) + 1) = ((i + 1 : Nat) : Int) := wrap_i64 (by omega) (by omega)
  cases hd : l.drop i with
  | nil =>
   have := drop_nil hd
   rw [cond_dec' (by omega)]; rfl
  | cons a r =>
   obtain ⟨g1, g2, g3⟩ := drop_get hd
   have ha := hf a (List.mem_of_getElem? g1)
   rw [cond_dec (by omega), chk_and, chk_dec (by omega), chk_dec (by omega), rd_get hd, lSameB _ _ (ha.fld 0).s hn, hw1, lGet_loop name hn l hl hf κ x4 x5 f (i + 1) (by omega) (by omega), g3, getL]
   by_cases e : lowL (bl (a.fld 0).s) = lowL (bl name)
   ·rw [decide_eq_true e, if_pos e]; rfl
   ·rw [decide_eq_false e, if_neg e]; rfl
theorem lGet_eq (name : BA) (hn : name.size <= NB) (l : LA) (hl : l.length <= 1000000) (hf : ∀ a ∈ l, Fit NB a) (κ : Bool -> BA -> Option R) : le_Get l name κ = kGet κ (getL name l) := by
 have key : ∀ f, l.length < f -> le_Get.e oc_Same l name (le_Get.L2 oc_Same κ f) κ = kGet κ (getL name l) :=
  fun f h => lGet_loop name hn l hl hf κ false _ f 0 (by omega) (by omega)
 exact key fuelK (by unfold fuelK; omega)
theorem known6_holds (κ : Bool -> Option R) : w6_known κ = κ true := by kernel_rfl
def pl (s r : List UInt8) : Int := ((s.length - r.length : Nat) : Int)
theorem pl_nil (s : List UInt8) : pl s [] = (s.length : Int) := rfl
theorem pl_le {s r : List UInt8} : 0 <= pl s r /\ pl s r <= (s.length : Int) := by unfold pl; omega
theorem suf_len {s r : List UInt8} (h : r <:+ s) : r.length <= s.length := h.length_le
theorem suf_drop {s r : List UInt8} (h : r <:+ s) : s.drop (s.length - r.length) = r := by
 obtain ⟨p, rfl⟩ := h
 simp
theorem suf_tl {s t : List UInt8} {c : UInt8} (h : c :: t <:+ s) : t <:+ s := (List.suffix_cons c t).trans h
theorem pl_cons {s t : List UInt8} {c : UInt8} (h : c :: t <:+ s) : pl s t = pl s (c :: t) + 1 := by
 have := suf_len h
 simp only [List.length_cons] at this
 unfold pl
 simp only [List.length_cons]
 omega
theorem pl_lt {s t : List UInt8} {c : UInt8} (h : c :: t <:+ s) : pl s (c :: t) < (s.length : Int) := by
 have := suf_len h
 simp only [List.length_cons] at this
 unfold pl
 simp only [List.length_cons]
 omega
theorem pl_bt {s t : List UInt8} {c : UInt8} (h : c :: t <:+ s) : btA (B s) (pl s (c :: t)) = (c.toNat : Int) := by
 unfold pl
 refine btB ?_
 have := suf_drop h
 exact (drop_get this).1
theorem pl_w {s t : List UInt8} {c : UInt8} (h : c :: t <:+ s) (hs : s.length <= 1000000) : IntKind.wrap .i64 (pl s (c :: t) + 1) = pl s t := by
 have h1 := pl_le (s := s) (r := c :: t)
 rw [pl_cons h]
 exact wrap_i64 (by omega) (by omega)
theorem pl_all (s : List UInt8) : pl s s = 0 := by unfold pl; omega
theorem szB (s : List UInt8) : ((B s).size : Int) = (s.length : Int) := by rw [size_B]
theorem bNe {c d : UInt8} (x : Int) (h : x = (d.toNat : Int)) (hn : c ≠ d) : ((c.toNat : Int) == x) = false := by rw [byteB c d x h]; simpa using hn
theorem bEq {c d : UInt8} (x : Int) (h : x = (d.toNat : Int)) (hn : c = d) : ((c.toNat : Int) == x) = true := by rw [byteB c d x h]; simpa using hn
def cmt : Nat -> List UInt8 -> List UInt8
 | _, [] => []
 | d, c :: t => if c = 92 then (match t with
   | [] => []
   | _ :: u => cmt d u) else if c = 40 then cmt (d + 1) t else if c = 41 then (if d = 1 then t else cmt (d - 1) t) else cmt d t
theorem cmt_suf : ∀ (n : Nat) (d : Nat) (r : List UInt8), r.length <= n -> cmt d r <:+ r
 | _, d, [], _ => by rw [cmt]; exact List.suffix_refl _
 | 0, d, c :: t, h => by simp at h
 | n + 1, d, c :: t, h => by
  simp only [List.length_cons, Nat.add_le_add_iff_right] at h
  rw [cmt.eq_def]
  simp only
  split
  ·split
   ·exact List.nil_suffix
   ·rename_i u
    simp only [List.length_cons] at h
    exact ((cmt_suf n d u (by omega)).trans (List.suffix_cons _ _)).trans (List.suffix_cons _ _)
  ·split
   ·exact (cmt_suf n (d + 1) t h).trans (List.suffix_cons _ _)
   ·split
    ·split
     ·exact List.suffix_cons _ _
     ·exact (cmt_suf n (d - 1) t h).trans (List.suffix_cons _ _)
    ·exact (cmt_suf n d t h).trans (List.suffix_cons _ _)
theorem cmt_sf (d : Nat) (r : List UInt8) : cmt d r <:+ r := cmt_suf _ d r (Nat.le_refl _)
theorem cmt_len (d : Nat) (r : List UInt8) : (cmt d r).length <= r.length := (cmt_sf d r).length_le
theorem cmt_bs (d : Nat) (x : UInt8) (u : List UInt8) : cmt d (92 :: x :: u) = cmt d u := by rw [cmt.eq_def]; rfl
theorem cmt_bs0 (d : Nat) : cmt d [92] = [] := by rw [cmt.eq_def]; rfl
theorem cmt_op (d : Nat) (t : List UInt8) : cmt d (40 :: t) = cmt (d + 1) t := by rw [cmt.eq_def]; rfl
theorem cmt_cl (d : Nat) (t : List UInt8) : cmt d (41 :: t) = if d = 1 then t else cmt (d - 1) t := by rw [cmt.eq_def]; rfl
theorem cmt_ot (d : Nat) {c : UInt8} (t : List UInt8) (h1 : c ≠ 92) (h2 : c ≠ 40) (h3 : c ≠ 41) : cmt d (c :: t) = cmt d t := by rw [cmt.eq_def]; simp [h1, h2, h3]
def blk : List UInt8 -> List UInt8
 | [] => []
 | c :: t => if c = 32 ∨ c = 9 then blk t else if c = 40 then blk (cmt 1 t) else c :: t
termination_by l => l.length
decreasing_by
 all_goals simp_wf
 all_goals have := cmt_len 1 t
 all_goals omega
theorem blk_nil : blk [] = [] := by rw [blk]
theorem blk_bl {c : UInt8} (t : List UInt8) (h : c = 32 ∨ c = 9) : blk (c :: t) = blk t := by rw [blk, if_pos h]
theorem blk_cm (t : List UInt8) : blk (40 :: t) = blk (cmt 1 t) := by rw [blk, if_neg (by decide), if_pos rfl]
theorem blk_ot {c : UInt8} (t : List UInt8) (h1 : c ≠ 32) (h2 : c ≠ 9) (h3 : c ≠ 40) : blk (c :: t) = c :: t := by rw [blk, if_neg (by simp [h1, h2]), if_neg h3]
theorem blk_suf : ∀ (n : Nat) (r : List UInt8), r.length <= n -> blk r <:+ r
 | _, [], _ => by rw [blk_nil]; exact List.suffix_refl _
 | 0, c :: t, h => by simp at h
 | n + 1, c :: t, h => by
  simp only [List.length_cons, Nat.add_le_add_iff_right] at h
  by_cases h1 : c = 32 ∨ c = 9
  ·rw [blk_bl t h1]; exact (blk_suf n t h).trans (List.suffix_cons _ _)
  ·by_cases h2 : c = 40
   ·subst h2
    rw [blk_cm]
    exact ((blk_suf n (cmt 1 t) (Nat.le_trans (cmt_len 1 t) h)).trans (cmt_sf 1 t)).trans (List.suffix_cons _ _)
   ·rw [blk_ot t (fun e => h1 (.inl e)) (fun e => h1 (.inr e)) h2]; exact List.suffix_refl _
theorem blk_sf (r : List UInt8) : blk r <:+ r := blk_suf _ r (Nat.le_refl _)
theorem lNext (s r : List UInt8) (h : r <:+ s) (κ : Int -> BA -> Int -> Option R) : lm_value_next (B s) (pl s r) κ = κ (match r with | [] => 0 | c :: _ => (c.toNat : Int)) (B s) (pl s r) := by
 unfold lm_value_next lm_value_next.e
 cases r with
 | nil => rw [szB, pl_nil, cond_dec' (by omega)]
 | cons c t =>
  have h1 := pl_lt h
  have h2 := pl_le (s := s) (r := c :: t)
  rw [szB, cond_dec h1, chk_and, chk_dec h2.1, chk_dec h1, pl_bt h]
theorem lCmt_loop (s : List UInt8) (hs : s.length <= 1000000) (κ : BA -> Int -> Option R) : ∀ (f d : Nat) (r : List UInt8), r <:+ s -> 1 <= d -> d + r.length <= 2000000 -> r.length + 1 < f -> lm_value_comment.L1 κ f (d : Int) (B s) (pl s r) = κ (B s) (pl s (cmt d r))
 | 0, d, r, _, _, _, hf => by omega
 | f + 1, d, r, h, hd, hdl, hf => by
  rw [lm_value_comment.L1, lm_value_comment.t1, szB]
  cases r with
  | nil => rw [pl_nil, cond_dec' (by omega), cmt, pl_nil]
  | cons c t =>
   have h1 := pl_lt h
   have h2 := pl_le (s := s) (r := c :: t)
   have ht := suf_tl h
   simp only [List.length_cons] at hf hdl
   rw [cond_dec h1, chk_and, chk_dec h2.1, chk_dec h1, pl_bt h, pl_w h hs]
   by_cases c1 : c = 92
   ·rw [bEq 92 rfl c1, cond_true]
    subst c1
    cases t with
    | nil =>
     rw [cmt_bs0, pl_nil]
     cases f with
     | zero => simp at hf
     | succ f =>
      have hw : IntKind.wrap .i64 ((s.length : Int) + 1) = (s.length : Int) + 1 := wrap_i64 (by omega) (by omega)
      rw [hw, lm_value_comment.L1, lm_value_comment.t1, szB, cond_dec' (by omega)]
    | cons x u =>
     simp only [List.length_cons] at hf hdl
     rw [pl_w ht hs, cmt_bs]
     exact lCmt_loop s hs κ f d u (suf_tl ht) hd (by omega) (by omega)
   ·rw [bNe 92 rfl c1, cond_false]
    by_cases c2 : c = 40
    ·subst c2
     rw [bEq 40 rfl rfl, cond_true, cmt_op, show IntKind.wrap .i64 ((d : Int) + 1) = ((d + 1 : Nat) : Int) from wrap_i64 (by omega) (by omega)]
     exact lCmt_loop s hs κ f (d + 1) t ht (by omega) (by omega) (by omega)
    ·rw [bNe 40 rfl c2, cond_false]
     by_cases c3 : c = 41
     ·subst c3
      rw [bEq 41 rfl rfl, cond_true, cmt_cl, show IntKind.wrap .i64 ((d : Int) - 1) = ((d - 1 : Nat) : Int) by rw [wrap_i64 (by omega) (by omega)]; omega]
      by_cases c4 : d = 1
      ·rw [if_pos c4, beq_pos (by omega), cond_true]
      ·rw [if_neg c4, beq_neg (by omega), cond_false]
       exact lCmt_loop s hs κ f (d - 1) t ht (by omega) (by omega) (by omega)
     ·rw [bNe 41 rfl c3, cond_false, cmt_ot d t c1 c2 c3]
      exact lCmt_loop s hs κ f d t ht hd (by omega) (by omega)
theorem lCmt (s t : List UInt8) (hs : s.length <= 1000000) (h : 40 :: t <:+ s) (κ : BA -> Int -> Option R) : lm_value_comment (B s) (pl s (40 :: t)) κ = κ (B s) (pl s (cmt 1 t)) := by
 have hl := suf_len h
 simp only [List.length_cons] at hl
 have key : ∀ f, 3000000 < f -> lm_value_comment.e (B s) (pl s (40 :: t)) (lm_value_comment.L1 κ (f + 1)) κ = κ (B s) (pl s (cmt 1 t)) := by
  intro f hf
  have h1 := pl_lt h
  have h2 := pl_le (s := s) (r := 40 :: t)
  unfold lm_value_comment.e
  rw [lm_value_comment.L1, lm_value_comment.t1, szB, cond_dec h1, chk_and, chk_dec h2.1, chk_dec h1, pl_bt h, pl_w h hs, bNe (d := 92) 92 rfl (by decide), cond_false, bEq 40 rfl rfl, cond_true, show IntKind.wrap .i64 ((0 : Int) + 1) = ((1 : Nat) : Int) from wrap_i64 (by omega) (by omega)]
  exact lCmt_loop s hs κ f 1 t (suf_tl h) (by omega) (by omega) (by omega)
 exact key (fuelK - 1) (by unfold fuelK; omega)
theorem lBlk_loop (s : List UInt8) (hs : s.length <= 1000000) (κ : BA -> Int -> Option R) : ∀ (f : Nat) (r : List UInt8), r <:+ s -> r.length < f -> lm_value_blanks.L0 lm_value_next lm_value_comment κ f (B s) (pl s r) = κ (B s) (pl s (blk r))
 | 0, r, _, hf => by omega
 | f + 1, r, h, hf => by
  rw [lm_value_blanks.L0, lm_value_blanks.t0, lNext s r h]
  cases r with
  | nil => rw [blk_nil]; rfl
  | cons c t =>
   have ht := suf_tl h
   simp only [List.length_cons] at hf
   by_cases c1 : c = 32
   ·rw [bEq 32 rfl c1, cond_true, pl_w h hs, blk_bl t (.inl c1)]
    exact lBlk_loop s hs κ f t ht (by omega)
   ·rw [bNe 32 rfl c1, cond_false]
    by_cases c2 : c = 9
    ·rw [bEq 9 rfl c2, cond_true, pl_w h hs, blk_bl t (.inr c2)]
     exact lBlk_loop s hs κ f t ht (by omega)
    ·rw [bNe 9 rfl c2, cond_false]
     by_cases c3 : c = 40
     ·subst c3
      have := cmt_len 1 t
      rw [bEq 40 rfl rfl, cond_true, lCmt s t hs h, blk_cm]
      exact lBlk_loop s hs κ f (cmt 1 t) ((cmt_sf 1 t).trans ht) (by omega)
     ·rw [bNe 40 rfl c3, cond_false, blk_ot t c1 c2 c3]
theorem lBlk (s r : List UInt8) (hs : s.length <= 1000000) (h : r <:+ s) (κ : BA -> Int -> Option R) : lm_value_blanks (B s) (pl s r) κ = κ (B s) (pl s (blk r)) := by
 have key : ∀ f, 1000000 < f -> lm_value_blanks.e lm_value_next lm_value_comment (B s) (pl s r) (lm_value_blanks.L0 lm_value_next lm_value_comment κ f) κ = κ (B s) (pl s (blk r)) :=
  fun f hf => lBlk_loop s hs κ f r h (by have := suf_len h; omega)
 exact key fuelK (by unfold fuelK; omega)
theorem lSign (s r : List UInt8) (d : UInt8) (hs : s.length <= 1000000) (h : r <:+ s) (κ : Bool -> BA -> Int -> Option R) : lm_value_sign (B s) (pl s r) (d.toNat : Int) κ = (match r with
  | [] => κ false (B s) (pl s [])
  | c :: t => if c = d then κ true (B s) (pl s t) else κ false (B s) (pl s (c :: t))) := by
 unfold lm_value_sign lm_value_sign.e
 cases r with
 | nil => rw [szB, pl_nil, cond_dec' (by omega)]
 | cons c t =>
  have h1 := pl_lt h
  have h2 := pl_le (s := s) (r := c :: t)
  rw [szB, cond_dec h1, chk_and, chk_dec h2.1, chk_dec h1, pl_bt h, pl_w h hs, byte_beq]
  show _ = if c = d then κ true (B s) (pl s t) else κ false (B s) (pl s (c :: t))
  by_cases e : c = d
  ·subst e; simp
  ·rw [show (c == d) = false by simpa using e, if_neg e]; rfl
def noL : List UInt8 := [40, 41, 60, 62, 64, 44, 59, 58, 92, 34, 47, 91, 93, 63, 61]
def tkB (c : UInt8) : Bool := decide (32 < c.toNat) && (decide (c.toNat < 127) && !noL.any (· == c))
theorem no_idx (c : UInt8) : decide (Lib.indexByte noL c >= 0) = noL.any (· == c) := by
 have := all_bytes (p := fun c => decide (Lib.indexByte noL c >= 0) == noL.any (· == c)) (by kernel_rfl) c
 simpa using this
theorem lContains (c : UInt8) (hc : c.toNat < 127) (κ : Bool -> Option R) : st_ContainsRune (B noL) (IntKind.wrap .i32 (c.toNat : Int)) κ = κ (noL.any (· == c)) := by
 have hw : IntKind.wrap .i32 (c.toNat : Int) = (c.toNat : Int) := by rw [IntKind.wrap_i32]; omega
 unfold st_ContainsRune st_ContainsRune.e st_IndexRune st_IndexRune.e
 rw [hw, cond_dec (by omega), cond_dec (by omega), wrap_u8 (by omega) (by omega), sIB_eq]
 show κ (decide (Lib.indexByte noL c >= 0)) = _
 rw [no_idx]
def tok1 (r : List UInt8) : List UInt8 := r.takeWhile tkB
def tok2 (r : List UInt8) : List UInt8 := r.dropWhile tkB
theorem tok_split (r : List UInt8) : tok1 r ++ tok2 r = r := List.takeWhile_append_dropWhile
theorem tok2_sf (r : List UInt8) : tok2 r <:+ r := List.dropWhile_suffix _
theorem tok1_len (r : List UInt8) : (tok1 r).length + (tok2 r).length = r.length := by
 have := congrArg List.length (tok_split r); simpa using this
theorem tok_cons {c : UInt8} {t : List UInt8} (h : tkB c = true) : tok1 (c :: t) = c :: tok1 t /\ tok2 (c :: t) = tok2 t := by unfold tok1 tok2; simp [h]
theorem tok_stop {c : UInt8} {t : List UInt8} (h : tkB c = false) : tok1 (c :: t) = [] /\ tok2 (c :: t) = c :: t := by unfold tok1 tok2; simp [h]
theorem ext_suf {s r0 w r : List UInt8} (h : r0 <:+ s) (e : r0 = w ++ r) : (B s).extract (pl s r0).toNat (pl s r).toNat = B w := by
 obtain ⟨p, rfl⟩ := h
 subst e
 rw [extract_B]
 congr 1
 unfold pl
 simp only [Int.toNat_natCast, List.length_append]
 rw [show p.length + (w.length + r.length) - r.length = p.length + w.length by omega, show p.length + (w.length + r.length) - (w.length + r.length) = p.length by omega]
 rw [<- List.append_assoc, List.take_append_of_le_length (by simp), List.take_of_length_le (by simp)]
 simp
theorem pl_mono {s r0 r : List UInt8} (h : r.length <= r0.length) : pl s r0 <= pl s r := by unfold pl; omega
theorem lTok_loop (s r0 : List UInt8) (hs : s.length <= 1000000) (h0 : r0 <:+ s) (κ : BA -> BA -> Int -> Option R) : ∀ (f : Nat) (w r : List UInt8), r0 = w ++ r -> r.length < f ->
  lm_value_token.L2 st_ContainsRune κ f (pl s r0) (B s) (pl s r) = κ (B (w ++ tok1 r)) (B s) (pl s (tok2 r))
 | 0, w, r, _, hf => by omega
 | f + 1, w, r, e, hf => by
  have hr : r <:+ s := (by rw [e]; exact List.suffix_append _ _ : r <:+ r0).trans h0
  have hm : pl s r0 <= pl s r := pl_mono (by rw [e]; simp)
  have fin : chk (decide ((0 : Int) <= pl s r0) && (decide (pl s r0 <= pl s r) && decide (pl s r <= ((B s).size : Int)))) (κ ((B s).extract (pl s r0).toNat (pl s r).toNat) (B s) (pl s r)) = κ (B w) (B s) (pl s r) := by
   rw [szB, chk_and, chk_dec pl_le.1, chk_and, chk_dec hm, chk_dec pl_le.2, ext_suf h0 e]
  rw [lm_value_token.L2, lm_value_token.t2, fin, szB]
  cases r with
  | nil => rw [pl_nil, cond_dec' (by omega)]; show _ = κ (B (w ++ [])) _ (pl s []); rw [List.append_nil, pl_nil]
  | cons c t =>
   have h1 := pl_lt hr
   have h2 := pl_le (s := s) (r := c :: t)
   simp only [List.length_cons] at hf
   rw [cond_dec h1, chk_and, chk_dec h2.1, chk_dec h1, pl_bt hr, pl_w hr hs]
   by_cases g1 : 32 < c.toNat
   ·rw [cond_dec (by omega), chk_and, chk_dec h2.1, chk_dec h1]
    by_cases g2 : c.toNat < 127
    ·rw [cond_dec (by omega), chk_and, chk_dec h2.1, chk_dec h1]
     show st_ContainsRune (B noL) _ _ = _
     rw [lContains c g2]
     cases g3 : noL.any (· == c) with
     | false =>
      have hk : tkB c = true := by unfold tkB; rw [decide_eq_true g1, decide_eq_true g2, g3]; rfl
      obtain ⟨q1, q2⟩ := tok_cons (t := t) hk
      rw [q1, q2]
      have := lTok_loop s r0 hs h0 κ f (w ++ [c]) t (by rw [e]; simp) (by omega)
      rw [List.append_assoc] at this
      exact this
     | true =>
      have hk : tkB c = false := by unfold tkB; rw [g3]; simp
      obtain ⟨q1, q2⟩ := tok_stop (t := t) hk
      rw [q1, q2, List.append_nil]; rfl
    ·have hk : tkB c = false := by unfold tkB; rw [decide_eq_false g2]; simp
     obtain ⟨q1, q2⟩ := tok_stop (t := t) hk
     rw [cond_dec' (by omega), q1, q2, List.append_nil]
   ·have hk : tkB c = false := by unfold tkB; rw [decide_eq_false g1]; simp
    obtain ⟨q1, q2⟩ := tok_stop (t := t) hk
    rw [cond_dec' (by omega), q1, q2, List.append_nil]
theorem lTok (s r : List UInt8) (hs : s.length <= 1000000) (h : r <:+ s) (κ : BA -> BA -> Int -> Option R) : lm_value_token (B s) (pl s r) κ = κ (B (tok1 r)) (B s) (pl s (tok2 r)) := by
 have key : ∀ f, 1000000 < f -> lm_value_token.e st_ContainsRune (B s) (pl s r) (lm_value_token.L2 st_ContainsRune κ f) κ = κ (B (tok1 r)) (B s) (pl s (tok2 r)) :=
  fun f hf => lTok_loop s r hs h κ f [] r rfl (by have := suf_len h; omega)
 exact key fuelK (by unfold fuelK; omega)
def qw : List UInt8 -> List UInt8 -> Option (List UInt8 × List UInt8)
 | _, [] => none
 | a, c :: t => if c = 34 then some (a, t) else if c = 92 then (match t with
   | [] => none
   | x :: u => qw (a ++ [x]) u) else qw (a ++ [c]) t
theorem qw_sf : ∀ (n : Nat) (a r : List UInt8), r.length <= n -> ∀ v r', qw a r = some (v, r') -> r' <:+ r /\ v.length <= a.length + r.length
 | _, a, [], _, v, r', h => by rw [qw] at h; cases h
 | 0, a, c :: t, h, _, _, _ => by simp at h
 | n + 1, a, c :: t, hn, v, r', h => by
  simp only [List.length_cons, Nat.add_le_add_iff_right] at hn
  rw [qw.eq_def] at h
  simp only at h
  split at h
  ·cases h; exact ⟨List.suffix_cons _ _, by omega⟩
  ·split at h
   ·split at h
    ·cases h
    ·rename_i x u
     simp only [List.length_cons] at hn
     obtain ⟨g1, g2⟩ := qw_sf n _ u (by omega) v r' h
     refine ⟨(g1.trans (List.suffix_cons _ _)).trans (List.suffix_cons _ _), ?_⟩
     simp only [List.length_append, List.length_cons, List.length_nil] at g2 ⊢; omega
   ·obtain ⟨g1, g2⟩ := qw_sf n _ t hn v r' h
    refine ⟨g1.trans (List.suffix_cons _ _), ?_⟩
    simp only [List.length_append, List.length_cons, List.length_nil] at g2 ⊢; omega
def wrd (r : List UInt8) : Option (List UInt8 × List UInt8) :=
 match r with
 | [] => none
 | c :: t => if c = 34 then qw [] t else if tok1 (c :: t) = [] then none else some (tok1 (c :: t), tok2 (c :: t))
theorem wrd_sf {r v r' : List UInt8} (h : wrd r = some (v, r')) : r' <:+ r /\ v.length <= r.length := by
 cases r with
 | nil => cases h
 | cons c t =>
  simp only [wrd] at h
  split at h
  ·obtain ⟨g1, g2⟩ := qw_sf _ [] t (Nat.le_refl _) v r' h
   exact ⟨g1.trans (List.suffix_cons _ _), by simp at g2 ⊢; omega⟩
  ·split at h
   ·cases h
   ·cases h
    have := tok1_len (c :: t)
    exact ⟨tok2_sf _, by omega⟩
theorem lQw (s : List UInt8) (hs : s.length <= 1000000) (κ : BA -> Bool -> BA -> Int -> Option R) : ∀ (f : Nat) (a r : List UInt8), r <:+ s -> a.length + r.length <= 2000000 -> r.length < f ->
  lm_value_word.L5 lm_value_sign lm_value_token st_Builder_String st_Builder_WriteByte κ f (B s) (pl s r) (intsAV a) = match qw a r with
   | some (v, r') => κ (B v) true (B s) (pl s r')
   | none => κ (B []) false (B s) (pl s [])
 | 0, a, r, _, _, hf => by omega
 | f + 1, a, r, h, ha, hf => by
  rw [lm_value_word.L5, lm_value_word.t5, szB, empty_B]
  cases r with
  | nil => rw [pl_nil, cond_dec' (by omega), qw]
  | cons c t =>
   have h1 := pl_lt h
   have h2 := pl_le (s := s) (r := c :: t)
   have ht := suf_tl h
   simp only [List.length_cons] at hf ha
   have hw : ∀ (d : UInt8) (κ : LA -> Option R), st_Builder_WriteByte (intsAV a) (d.toNat : Int) κ = κ (intsAV (a ++ [d])) := fun d κ => by
    rw [wByte_eq _ _ _ (by rw [ints_len]; omega), ints_snoc]
   rw [cond_dec h1, chk_and, chk_dec h2.1, chk_dec h1, pl_bt h, pl_w h hs, qw.eq_def]
   by_cases c1 : c = 34
   ·rw [bEq 34 rfl c1, cond_true, bString_eq]; simp only [c1, if_true]
   ·rw [bNe 34 rfl c1, cond_false]
    simp only [c1, if_false]
    by_cases c2 : c = 92
    ·subst c2
     rw [bEq 92 rfl rfl, cond_true]
     simp only [if_true]
     cases t with
     | nil =>
      rw [pl_nil, cond_dec' (by omega), hw]
      have := lQw s hs κ f (a ++ [92]) [] List.nil_suffix (by simp; omega) (by simp at hf ⊢; omega)
      rw [qw, pl_nil] at this
      exact this
     | cons x u =>
      have h3 := pl_lt ht
      have h4 := pl_le (s := s) (r := x :: u)
      rw [cond_dec h3, chk_and, chk_dec h4.1, chk_dec h3, pl_bt ht, pl_w ht hs, hw]
      simp only [List.length_cons] at hf ha
      exact lQw s hs κ f (a ++ [x]) u (suf_tl ht) (by simp; omega) (by omega)
    ·rw [bNe 92 rfl c2, cond_false]
     simp only [c2, if_false]
     rw [hw]
     exact lQw s hs κ f (a ++ [c]) t ht (by simp; omega) (by omega)
def wrdE (r : List UInt8) : List UInt8 :=
 match r with
 | [] => []
 | c :: t => if c = 34 then [] else c :: t
theorem lWord (s r : List UInt8) (hs : s.length <= 1000000) (h : r <:+ s) (κ : BA -> Bool -> BA -> Int -> Option R) : lm_value_word (B s) (pl s r) κ = match wrd r with
      | some (v, r') => κ (B v) true (B s) (pl s r')
      | none => κ (B []) false (B s) (pl s (wrdE r)) := by
 have key : ∀ f, 1000000 < f -> lm_value_word.e lm_value_sign lm_value_token st_Builder_String st_Builder_WriteByte (B s) (pl s r) (lm_value_word.L5 lm_value_sign lm_value_token st_Builder_String st_Builder_WriteByte κ f) κ = match wrd r with
   | some (v, r') => κ (B v) true (B s) (pl s r')
   | none => κ (B []) false (B s) (pl s (wrdE r)) := by
  intro f hf
  unfold lm_value_word.e
  have hl := suf_len h
  rw [show (34 : Int) = ((34 : UInt8).toNat : Int) from rfl, lSign s r 34 hs h]
  cases r with
  | nil =>
   simp only [Bool.not_false, cond_true]
   rw [lTok s [] hs h, empty_B]
   have : decide (B (tok1 []) = B []) = true := by simp [tok1]
   rw [this]; rfl
  | cons c t =>
   have ht := suf_tl h
   simp only [List.length_cons] at hl
   by_cases c1 : c = 34
   ·simp only [c1, if_true, Bool.not_true, cond_false, wrd, wrdE]
    exact lQw s hs κ f [] t ht (by simp; omega) (by omega)
   ·simp only [c1, if_false, Bool.not_false, cond_true, wrd, wrdE]
    rw [lTok s _ hs h, empty_B]
    by_cases c2 : tok1 (c :: t) = []
    ·rw [if_pos c2]
     have h3 := tok_split (c :: t)
     rw [c2, List.nil_append] at h3
     rw [h3, c2]; simp
    ·rw [if_neg c2]
     have : decide (B (tok1 (c :: t)) = B []) = false := decide_eq_false fun e => c2 (B_inj.1 e)
     rw [this]; rfl
 exact key fuelK (by unfold fuelK; omega)
abbrev Pm := List UInt8 × List UInt8
def pmAV (p : Pm) : AV := .agg [.str (B p.1), .str (B p.2)]
def par (r : List UInt8) : Option (List UInt8 × List UInt8 × List UInt8) :=
 match blk r with
 | [] => none
 | c :: t => if c = 59 then (if lowL (tok1 (blk t)) = [] then none else match blk (tok2 (blk t)) with
   | [] => none
   | c2 :: t2 => if c2 = 61 then (match wrd (blk t2) with
    | some (v, r') => some (lowL (tok1 (blk t)), v, r')
    | none => none) else none) else none
theorem par_sf {r n v r' : List UInt8} (h : par r = some (n, v, r')) : r' <:+ r /\ r'.length < r.length := by
 unfold par at h
 have h0 := blk_sf r
 split at h
 ·cases h
 ·rename_i c t e
  rw [e] at h0
  split at h
  ·split at h
   ·cases h
   ·split at h
    ·cases h
    ·rename_i c2 t2 e2
     split at h
     ·split at h
      ·rename_i v' r'' e3
       cases h
       obtain ⟨g1, g2⟩ := wrd_sf e3
       have h1 : t2 <:+ t := by
        have := (blk_sf (tok2 (blk t))).trans ((tok2_sf (blk t)).trans (blk_sf t))
        rw [e2] at this
        exact (List.suffix_cons _ _).trans this
       have h2 : r' <:+ t := (g1.trans (blk_sf t2)).trans h1
       have h3 := h0.length_le
       simp only [List.length_cons] at h3
       exact ⟨h2.trans ((List.suffix_cons _ _).trans h0), by have := h2.length_le; omega⟩
      ·cases h
     ·cases h
  ·cases h
theorem low_nil {l : List UInt8} : lowL l = [] ↔ l = [] := by
 constructor
 ·intro h; have := congrArg List.length h; rw [lowL_len] at this; exact List.eq_nil_of_length_eq_zero (by simpa using this)
 ·rintro rfl; rfl
theorem dec_empty (l : List UInt8) : decide (B l = B []) = decide (l = []) := decide_eq_decide.2 B_inj
theorem lParam (s r : List UInt8) (hs : s.length <= 1000000) (h : r <:+ s) : match par r with
  | some (n, v, r') => ∀ κ : BA -> BA -> Bool -> BA -> Int -> Option R, lm_value_param (B s) (pl s r) κ = κ (B n) (B v) true (B s) (pl s r')
  | none => ∃ (n v : BA) (p : Int), ∀ κ : BA -> BA -> Bool -> BA -> Int -> Option R, lm_value_param (B s) (pl s r) κ = κ n v false (B s) p := by
 have b1 := (blk_sf r).trans h
 have step : ∀ κ : BA -> BA -> Bool -> BA -> Int -> Option R, lm_value_param (B s) (pl s r) κ = lm_value_sign (B s) (pl s (blk r)) 59 (fun r134 r135 r136 => (bif (!r134) then (κ (⟨#[]⟩ : BA) (⟨#[]⟩ : BA) false r135 r136) else (lm_value_blanks r135 r136 (fun r137 r138 => (lm_value_token r137 r138 (fun r139 r140 r141 => (oc_Lower r139 (fun r142 => (lm_value_blanks r140 r141 (fun r143 r144 => (bif (decide (r142 = (⟨#[]⟩ : BA))) then (κ (⟨#[]⟩ : BA) (⟨#[]⟩ : BA) false r143 r144) else (lm_value_sign r143 r144 61 (fun r145 r146 r147 => (bif (!r145) then (κ (⟨#[]⟩ : BA) (⟨#[]⟩ : BA) false r146 r147) else (lm_value_blanks r146 r147 (fun r148 r149 => (lm_value_word r148 r149 (fun r169 r170 r171 r172 => (κ r142 r169 r170 r171 r172))))))))))))))))))) := fun κ => by
  unfold lm_value_param lm_value_param.e
  rw [lBlk s r hs h]
 unfold par
 cases e : blk r with
 | nil =>
  refine ⟨B [], B [], pl s [], fun κ => ?_⟩
  rw [step, e, show (59 : Int) = ((59 : UInt8).toNat : Int) from rfl, lSign s [] 59 hs List.nil_suffix]
  rfl
 | cons c t =>
  rw [e] at b1
  have ht := suf_tl b1
  by_cases c1 : c = 59
  ·have b2 := (blk_sf t).trans ht
   have b3 := (tok2_sf (blk t)).trans b2
   have b4 := (blk_sf (tok2 (blk t))).trans b3
   have hll : (tok1 (blk t)).length <= 1000000 := by have := tok1_len (blk t); have := b2.length_le; omega
   have step2 : ∀ κ : BA -> BA -> Bool -> BA -> Int -> Option R, lm_value_param (B s) (pl s r) κ = bif decide (lowL (tok1 (blk t)) = []) then κ (B []) (B []) false (B s) (pl s (blk (tok2 (blk t)))) else (lm_value_sign (B s) (pl s (blk (tok2 (blk t)))) 61 (fun r145 r146 r147 => (bif (!r145) then (κ (⟨#[]⟩ : BA) (⟨#[]⟩ : BA) false r146 r147) else (lm_value_blanks r146 r147 (fun r148 r149 => (lm_value_word r148 r149 (fun r169 r170 r171 r172 => (κ (B (lowL (tok1 (blk t)))) r169 r170 r171 r172)))))))) := fun κ => by
    rw [step, e, show (59 : Int) = ((59 : UInt8).toNat : Int) from rfl, lSign s (c :: t) 59 hs b1]
    simp only [c1, if_true, Bool.not_true, cond_false]
    rw [lBlk s t hs ht, lTok s _ hs b2, oLower_eq _ (by omega), lBlk s _ hs b3, empty_B, dec_empty]
   simp only [c1, if_true]
   by_cases c2 : lowL (tok1 (blk t)) = []
   ·rw [if_pos c2]
    exact ⟨B [], B [], _, fun κ => by rw [step2, decide_eq_true c2, cond_true]⟩
   ·rw [if_neg c2]
    cases e2 : blk (tok2 (blk t)) with
    | nil =>
     refine ⟨B [], B [], pl s [], fun κ => ?_⟩
     rw [step2, decide_eq_false c2, cond_false, e2, show (61 : Int) = ((61 : UInt8).toNat : Int) from rfl, lSign s [] 61 hs List.nil_suffix]
     rfl
    | cons d u =>
     rw [e2] at b4
     have hu := suf_tl b4
     by_cases c3 : d = 61
     ·simp only [c3, if_true]
      have b5 := (blk_sf u).trans hu
      have step3 : ∀ κ : BA -> BA -> Bool -> BA -> Int -> Option R, lm_value_param (B s) (pl s r) κ = match wrd (blk u) with
        | some (v, r') => κ (B (lowL (tok1 (blk t)))) (B v) true (B s) (pl s r')
        | none => κ (B (lowL (tok1 (blk t)))) (B []) false (B s) (pl s (wrdE (blk u))) := fun κ => by
       rw [step2, decide_eq_false c2, cond_false, e2, show (61 : Int) = ((61 : UInt8).toNat : Int) from rfl, lSign s (d :: u) 61 hs b4]
       simp only [c3, if_true, Bool.not_true, cond_false]
       rw [lBlk s u hs hu, lWord s _ hs b5]
       try (cases wrd (blk u) <;> rfl)
      cases e3 : wrd (blk u) with
      | none => exact ⟨_, _, _, fun κ => by rw [step3, e3]⟩
      | some p => obtain ⟨v, r'⟩ := p; exact fun κ => by rw [step3, e3]
     ·simp only [c3, if_false]
      refine ⟨B [], B [], pl s (d :: u), fun κ => ?_⟩
      rw [step2, decide_eq_false c2, cond_false, e2, show (61 : Int) = ((61 : UInt8).toNat : Int) from rfl, lSign s (d :: u) 61 hs b4]
      simp only [c3, if_false]
      rfl
  ·simp only [c1, if_false]
   refine ⟨B [], B [], pl s (c :: t), fun κ => ?_⟩
   rw [step, e, show (59 : Int) = ((59 : UInt8).toNat : Int) from rfl, lSign s (c :: t) 59 hs b1]
   simp only [c1, if_false]
   rfl
def prs : Nat -> List Pm -> List UInt8 -> List Pm
 | 0, a, _ => a
 | n + 1, a, r => if a.length < 12 then (match par r with
   | none => a
   | some (m, v, r') => prs n (if a.any (fun p => p.1 == m) then a else a ++ [(m, v)]) r') else a
def prsL (r : List UInt8) : List Pm := prs (r.length + 1) [] r
theorem mp_str (a : BA) (x : AV) : mpEq .str (.str a) x = decide (a = x.s) := rfl
theorem mpGet_set (a b : BA) (v : AV) : ∀ (l : LA), mpGet .str (.str a) (mpSet .str (.str b) v l) = if a = b then some v else mpGet .str (.str a) l
 | [] => by
  simp only [mpSet, mpGet, mp_str]
  show (bif decide (a = b) then some v else none) = _
  by_cases e : a = b <;> simp [e]
 | x :: l => by
  simp only [mpSet, mp_str]
  by_cases e : b = (x.fld 0).s
  ·rw [decide_eq_true e, cond_true]
   simp only [mpGet, mp_str]
   show (bif decide (a = b) then some v else mpGet .str (.str a) l) = _
   by_cases e2 : a = b
   ·simp [e2]
   ·rw [decide_eq_false e2, cond_false, if_neg e2, decide_eq_false (by rw [<- e]; exact e2), cond_false]
  ·rw [decide_eq_false e, cond_false]
   simp only [mpGet, mp_str]
   by_cases e2 : a = (x.fld 0).s
   ·rw [decide_eq_true e2, cond_true, cond_true, if_neg (fun e3 => e (by rw [<- e3]; exact e2))]
   ·rw [decide_eq_false e2, cond_false, cond_false]
    exact mpGet_set a b v l
theorem mpVal_set (a b : BA) (v : AV) (l : LA) : mpVal .str (.str a) (mpSet .str (.str b) v l) = if a = b then v else mpVal .str (.str a) l := by
 unfold mpVal; rw [mpGet_set]
 by_cases e : a = b <;> simp [e]
def Seen (k : Nat) (a : List Pm) (m : LA) : Prop := ∀ n : List UInt8, ∃ c : Nat, (mpVal .str (.str (B n)) m).i = (c : Int) /\ c <= k /\ (c = 0 ↔ ∀ p ∈ a, p.1 ≠ n)
theorem pm_any {a : List Pm} {n : List UInt8} : a.any (fun p => p.1 == n) = false ↔ ∀ p ∈ a, p.1 ≠ n := by
 rw [List.any_eq_false]
 constructor
 ·intro h p hp e; exact h p hp (by simp [e])
 ·intro h p hp; simpa using h p hp
theorem lPrs_loop (s : List UInt8) (hs : s.length <= 1000000) : ∀ (n f k : Nat) (a : List Pm) (r : List UInt8) (m : LA), r <:+ s -> r.length < n -> n < f -> k + n <= 2000000 -> Seen k a m -> ∃ p : Int, ∀ κ : LA -> BA -> Int -> Option R,
  lm_value_params.L3 lm_value_param κ f (B s) (pl s r) (a.map pmAV) m = κ ((prs n a r).map pmAV) (B s) p
 | 0, f, k, a, r, m, _, hn, _, _, _ => by omega
 | n + 1, 0, k, a, r, m, _, _, hf, _, _ => by omega
 | n + 1, f + 1, k, a, r, m, h, hn, hf, hk, hm => by
  have hla : (a.map pmAV).length = a.length := List.length_map ..
  by_cases h12 : a.length < 12
  ·have hp := lParam (R := R) s r hs h
   cases e : par r with
   | none =>
    rw [e] at hp
    obtain ⟨x, v, p, hp⟩ := hp
    refine ⟨p, fun κ => ?_⟩
    rw [lm_value_params.L3, lm_value_params.t3, hla, cond_dec (by omega), hp, prs, if_pos h12, e]
    rfl
   | some q =>
    obtain ⟨x, v, r'⟩ := q
    rw [e] at hp
    replace hp : ∀ κ : BA -> BA -> Bool -> BA -> Int -> Option R, lm_value_param (B s) (pl s r) κ = κ (B x) (B v) true (B s) (pl s r') := hp
    obtain ⟨g1, g2⟩ := par_sf e
    obtain ⟨c, hc, hck, hc0⟩ := hm x
    have hw : IntKind.wrap .i64 ((c : Int) + 1) = ((c + 1 : Nat) : Int) := wrap_i64 (by omega) (by omega)
    have hseen : Seen (k + 1) (if a.any (fun p => p.1 == x) then a else a ++ [(x, v)]) (mpSet .str (.str (B x)) (.int (((c + 1 : Nat) : Int))) m) := by
     intro y
     rw [mpVal_set]
     by_cases ey : y = x
     ·subst ey
      rw [if_pos rfl]
      refine ⟨c + 1, rfl, by omega, fun hz => by omega, fun hz => ?_⟩
      exfalso
      cases ha : a.any (fun p => p.1 == y) with
      | true =>
       rw [ha] at hz
       have := pm_any.2 hz
       rw [if_pos rfl, ha] at this; cases this
      | false =>
       rw [ha] at hz
       exact hz (y, v) (by simp) rfl
     ·rw [if_neg (fun e => ey (B_inj.1 e))]
      obtain ⟨c', h1, h2, h3⟩ := hm y
      refine ⟨c', h1, by omega, h3.trans ?_⟩
      cases ha : a.any (fun p => p.1 == x) with
      | true => simp
      | false =>
       simp only [Bool.false_eq_true, if_false]
       constructor
       ·intro g p hp
        rcases List.mem_append.1 hp with hp | hp
        ·exact g p hp
        ·rw [List.mem_singleton] at hp; subst hp; exact fun e => ey e.symm
       ·exact fun g p hp => g p (List.mem_append.2 (.inl hp))
    obtain ⟨p, hih⟩ := lPrs_loop s hs n f (k + 1) _ r' _ (g1.trans h) (by omega) (by omega) (by omega) hseen
    refine ⟨p, fun κ => ?_⟩
    rw [lm_value_params.L3, lm_value_params.t3, hla, cond_dec (by omega), hp, prs, if_pos h12, e]
    simp only [Bool.not_true, cond_false]
    rw [hc, hw, mpVal_set, if_pos rfl]
    show (bif (((c + 1 : Nat) : Int) == 1) then _ else _) = _
    rw [<- hih κ]
    cases ha : a.any (fun p => p.1 == x) with
    | true =>
     have : c ≠ 0 := fun e0 => by have := pm_any.2 (hc0.1 e0); rw [ha] at this; cases this
     rw [beq_neg (by omega), cond_false]; rfl
    | false =>
     have : c = 0 := hc0.2 (pm_any.1 ha)
     rw [beq_pos (by omega), cond_true, chk_dec (by omega)]
     simp only [Bool.false_eq_true, if_false, List.map_append, List.map_cons, List.map_nil]
     rfl
  ·refine ⟨pl s r, fun κ => ?_⟩
   rw [lm_value_params.L3, lm_value_params.t3, hla, cond_dec' (by omega), prs, if_neg h12]
theorem lPrs (s r : List UInt8) (hs : s.length <= 1000000) (h : r <:+ s) : ∃ p : Int, ∀ κ : LA -> BA -> Int -> Option R, lm_value_params (B s) (pl s r) κ = κ ((prsL r).map pmAV) (B s) p := by
 have key : ∀ f, 1000002 < f -> ∃ p : Int, ∀ κ : LA -> BA -> Int -> Option R, lm_value_params.e lm_value_param (B s) (pl s r) (lm_value_params.L3 lm_value_param κ f) κ = κ ((prsL r).map pmAV) (B s) p :=
  fun f hf => lPrs_loop s hs (r.length + 1) f 0 [] r [] h (by omega) (by have := suf_len h; omega) (by have := suf_len h; omega) (fun n => ⟨0, rfl, Nat.le_refl _, ⟨fun _ p hp => absurd hp (by simp), fun _ => rfl⟩⟩)
 exact key fuelK (by unfold fuelK; omega)
theorem lBlk0 (v : List UInt8) (hs : v.length <= 1000000) (κ : BA -> Int -> Option R) : lm_value_blanks (B v) 0 κ = κ (B v) (pl v (blk v)) := by
 rw [<- pl_all v]; exact lBlk v v hs (List.suffix_refl v) κ
def kdO (v : List UInt8) : Option (List UInt8 × List UInt8 × List UInt8) :=
 if tok1 (blk v) = [] then none else match blk (tok2 (blk v)) with
  | [] => none
  | c :: t => if c = 47 then (if tok1 (blk t) = [] then none else some (lowL (tok1 (blk v)), lowL (tok1 (blk t)), tok2 (blk t))) else none
theorem kd_sf {v a b r : List UInt8} (h : kdO v = some (a, b, r)) : r <:+ v := by
 unfold kdO at h
 split at h
 ·cases h
 ·have h0 := (blk_sf (tok2 (blk v))).trans ((tok2_sf (blk v)).trans (blk_sf v))
  split at h
  ·cases h
  ·rename_i c t e
   rw [e] at h0
   split at h
   ·split at h
    ·cases h
    ·cases h
     exact ((tok2_sf (blk t)).trans (blk_sf t)).trans ((List.suffix_cons _ _).trans h0)
   ·cases h
theorem low_emp (l : List UInt8) : decide (B (lowL l) = B []) = decide (l = []) := decide_eq_decide.2 (B_inj.trans low_nil)
theorem lKind (v : List UInt8) (hs : v.length <= 1000000) : match kdO v with
  | some (a, b, r) => ∀ κ : BA -> BA -> Bool -> BA -> Int -> Option R, lm_value_kind (B v) 0 κ = κ (B a) (B b) true (B v) (pl v r)
  | none => ∃ (a b : BA) (p : Int), ∀ κ : BA -> BA -> Bool -> BA -> Int -> Option R, lm_value_kind (B v) 0 κ = κ a b false (B v) p := by
 have b0 : v <:+ v := List.suffix_refl v
 have b1 := blk_sf v
 have b2 := (tok2_sf (blk v)).trans b1
 have b3 := (blk_sf (tok2 (blk v))).trans b2
 have hl1 : (tok1 (blk v)).length <= 1000000 := by have := tok1_len (blk v); have := b1.length_le; omega
 have step : ∀ κ : BA -> BA -> Bool -> BA -> Int -> Option R, lm_value_kind (B v) 0 κ = bif decide (tok1 (blk v) = []) then κ (B []) (B []) false (B v) (pl v (blk (tok2 (blk v)))) else lm_value_sign (B v) (pl v (blk (tok2 (blk v)))) 47 (fun r118 r119 r120 => bif (!r118) then κ (⟨#[]⟩ : BA) (⟨#[]⟩ : BA) false r119 r120 else lm_value_blanks r119 r120 (fun r121 r122 => lm_value_token r121 r122 (fun r123 r124 r125 => oc_Lower r123 (fun r126 => κ (B (lowL (tok1 (blk v)))) r126 (!decide (r126 = (⟨#[]⟩ : BA))) r124 r125)))) := fun κ => by
  unfold lm_value_kind lm_value_kind.e
  rw [lBlk0 v hs, lTok v _ hs b1, oLower_eq _ (by omega), lBlk v _ hs b2, empty_B, low_emp]
 unfold kdO
 by_cases c1 : tok1 (blk v) = []
 ·rw [if_pos c1]
  exact ⟨B [], B [], _, fun κ => by rw [step, decide_eq_true c1, cond_true]⟩
 ·rw [if_neg c1]
  cases e : blk (tok2 (blk v)) with
  | nil =>
   refine ⟨B [], B [], pl v [], fun κ => ?_⟩
   rw [step, decide_eq_false c1, cond_false, e, show (47 : Int) = ((47 : UInt8).toNat : Int) from rfl, lSign v [] 47 hs List.nil_suffix]
   rfl
  | cons c t =>
   rw [e] at b3
   have ht := suf_tl b3
   by_cases c2 : c = 47
   ·simp only [c2, if_true]
    have b4 := (blk_sf t).trans ht
    have hl2 : (tok1 (blk t)).length <= 1000000 := by have := tok1_len (blk t); have := b4.length_le; omega
    have step2 : ∀ κ : BA -> BA -> Bool -> BA -> Int -> Option R, lm_value_kind (B v) 0 κ = κ (B (lowL (tok1 (blk v)))) (B (lowL (tok1 (blk t)))) (!decide (tok1 (blk t) = [])) (B v) (pl v (tok2 (blk t))) := fun κ => by
     rw [step, decide_eq_false c1, cond_false, e, show (47 : Int) = ((47 : UInt8).toNat : Int) from rfl, lSign v (c :: t) 47 hs b3]
     simp only [c2, if_true, Bool.not_true, cond_false]
     rw [lBlk v t hs ht, lTok v _ hs b4, oLower_eq _ (by omega), empty_B, low_emp]
    by_cases c3 : tok1 (blk t) = []
    ·rw [if_pos c3]
     exact ⟨_, _, _, fun κ => by rw [step2, decide_eq_true c3]; rfl⟩
    ·rw [if_neg c3]
     exact fun κ => by rw [step2, decide_eq_false c3]; rfl
   ·simp only [c2, if_false]
    refine ⟨B [], B [], pl v (c :: t), fun κ => ?_⟩
    rw [step, decide_eq_false c1, cond_false, e, show (47 : Int) = ((47 : UInt8).toNat : Int) from rfl, lSign v (c :: t) 47 hs b3]
    simp only [c2, if_false]
    rfl
def mimeM : List UInt8 := [109, 101, 115, 115, 97, 103, 101]
def mimeR : List UInt8 := [114, 102, 99, 56, 50, 50]
def mimeT : List UInt8 := [116, 101, 120, 116]
def mimeP : List UInt8 := [112, 108, 97, 105, 110]
def csP : List Pm := [([99, 104, 97, 114, 115, 101, 116], [117, 115, 45, 97, 115, 99, 105, 105])]
def kdG (v : List UInt8) (dg : Bool) : List UInt8 × List UInt8 × List Pm :=
 match kdO v with
 | some (a, b, r) => (a, b, prsL r)
 | none => if dg then (mimeM, mimeR, []) else (mimeT, mimeP, csP)
def fsO (v : List UInt8) : List UInt8 := lowL (tok1 (blk v))
def fsR (v : List UInt8) : List UInt8 := tok2 (blk v)
theorem lFirst (s r : List UInt8) (hs : s.length <= 1000000) (h : r <:+ s) (κ : Bool -> BA -> BA -> Int -> Option R) : lm_value_first (B s) (pl s r) κ = κ (!decide (fsO r = [])) (B (fsO r)) (B s) (pl s (fsR r)) := by
 have b1 := (blk_sf r).trans h
 have hl1 : (tok1 (blk r)).length <= 1000000 := by have := tok1_len (blk r); have := b1.length_le; omega
 unfold lm_value_first lm_value_first.e
 rw [lBlk s r hs h, lTok s _ hs b1, oLower_eq _ (by omega), empty_B, dec_empty]
 rfl
def lgs : Nat -> List (List UInt8) -> List UInt8 -> List (List UInt8)
 | 0, a, _ => a
 | n + 1, a, r => if a.length < 12 then (if fsO r = [] then a else match blk (fsR r) with
   | [] => a ++ [fsO r]
   | c :: t => if c = 44 then lgs n (a ++ [fsO r]) t else a ++ [fsO r]) else a
def lgL (r : List UInt8) : List (List UInt8) := lgs (r.length + 1) [] r
theorem fs_sf (r : List UInt8) : blk (fsR r) <:+ r := (blk_sf _).trans ((tok2_sf _).trans (blk_sf r))
theorem lLg_loop (s : List UInt8) (hs : s.length <= 1000000) : ∀ (n f : Nat) (a : List (List UInt8)) (r : List UInt8), r <:+ s -> r.length < n -> n < f -> ∃ p : Int, ∀ κ : LA -> BA -> Int -> Option R,
  lm_value_langs.L2 lm_value_first lm_value_blanks lm_value_sign κ f (B s) (pl s r) (rowsS a) = κ (rowsS (lgs n a r)) (B s) p
 | 0, f, a, r, _, hn, _ => by omega
 | n + 1, 0, a, r, _, _, hf => by omega
 | n + 1, 1, a, r, _, _, hf => by omega
 | n + 1, f + 1 + 1, a, r, h, hn, hf => by
  have hla := rowsS_len a
  have h8 : ∀ (l : LA) (b : BA) (p : Int) (κ : LA -> BA -> Int -> Option R), lm_value_langs.L8 lm_value_first lm_value_blanks lm_value_sign κ (f + 1) l b p = κ l b p := fun l b p κ => rfl
  have b1 := (fs_sf r).trans h
  have b2 : fsR r <:+ s := ((tok2_sf _).trans (blk_sf r)).trans h
  by_cases h12 : a.length < 12
  ·by_cases c1 : fsO r = []
   ·refine ⟨pl s (fsR r), fun κ => ?_⟩
    rw [lm_value_langs.L2, lm_value_langs.t2, hla, cond_dec (by omega), lFirst s r hs h, lgs, if_pos h12, if_pos c1, decide_eq_true c1]
    simp only [Bool.not_true, Bool.not_false, cond_true]
    rw [h8]
   ·have hrow : rowsS a ++ [AV.str (B (fsO r))] = rowsS (a ++ [fsO r]) := by rw [rowsS_append]; rfl
    have step : ∀ κ : LA -> BA -> Int -> Option R, lm_value_langs.L2 lm_value_first lm_value_blanks lm_value_sign κ (f + 1 + 1) (B s) (pl s r) (rowsS a) = lm_value_sign (B s) (pl s (blk (fsR r))) 44 (fun r284 r285 r286 => bif (!r284) then κ (rowsS (a ++ [fsO r])) r285 r286 else lm_value_langs.L2 lm_value_first lm_value_blanks lm_value_sign κ (f + 1) r285 r286 (rowsS (a ++ [fsO r]))) := fun κ => by
     rw [lm_value_langs.L2, lm_value_langs.t2, hla, cond_dec (by omega), lFirst s r hs h, decide_eq_false c1]
     simp only [Bool.not_true, Bool.not_false, cond_false]
     rw [chk_dec (by omega), lBlk s _ hs b2, hrow]
     simp only [h8]
    have hl : lgs (n + 1) a r = match blk (fsR r) with
      | [] => a ++ [fsO r]
      | c :: t => if c = 44 then lgs n (a ++ [fsO r]) t else a ++ [fsO r] := by rw [lgs, if_pos h12, if_neg c1]
    rw [hl]
    cases e : blk (fsR r) with
    | nil =>
     refine ⟨pl s [], fun κ => ?_⟩
     rw [step, e, show (44 : Int) = ((44 : UInt8).toNat : Int) from rfl, lSign s [] 44 hs List.nil_suffix]; rfl
    | cons c t =>
     rw [e] at b1
     by_cases c2 : c = 44
     ·simp only [c2, if_true]
      have h3 := fs_sf r
      rw [e] at h3
      have h4 := h3.length_le
      simp only [List.length_cons] at h4
      obtain ⟨p, hp⟩ := lLg_loop s hs n (f + 1) (a ++ [fsO r]) t (suf_tl b1) (by omega) (by omega)
      refine ⟨p, fun κ => ?_⟩
      rw [step, e, show (44 : Int) = ((44 : UInt8).toNat : Int) from rfl, lSign s (c :: t) 44 hs b1]
      simp only [c2, if_true, Bool.not_true, cond_false]
      exact hp κ
     ·simp only [c2, if_false]
      refine ⟨pl s (c :: t), fun κ => ?_⟩
      rw [step, e, show (44 : Int) = ((44 : UInt8).toNat : Int) from rfl, lSign s (c :: t) 44 hs b1]
      simp only [c2, if_false]; rfl
  ·refine ⟨pl s r, fun κ => ?_⟩
   rw [lm_value_langs.L2, lm_value_langs.t2, hla, cond_dec' (by omega), lgs, if_neg h12, h8]
theorem lLg (v : List UInt8) (hs : v.length <= 1000000) : ∃ p : Int, ∀ κ : LA -> BA -> Int -> Option R, lm_value_langs (B v) 0 κ = κ (rowsS (lgL v)) (B v) p := by
 have key : ∀ f, 1000002 < f -> ∃ p : Int, ∀ κ : LA -> BA -> Int -> Option R, lm_value_langs.e lm_value_first lm_value_blanks lm_value_sign (B v) 0 (lm_value_langs.L2 lm_value_first lm_value_blanks lm_value_sign κ f) (lm_value_langs.L8 lm_value_first lm_value_blanks lm_value_sign κ f) κ = κ (rowsS (lgL v)) (B v) p := by
  intro f hf
  have := lLg_loop (R := R) v hs (v.length + 1) f [] v (List.suffix_refl v) (by omega) (by omega)
  rw [pl_all] at this
  exact this
 exact key fuelK (by unfold fuelK; omega)
theorem h6_nm : ∀ (ls : List (List UInt8)) (cur : Option Fl) (N : Nat), (∀ x, cur = some x -> x.1.length <= N) -> total ls <= N -> ∀ x ∈ headG cur ls, x.1.length <= N
 | [], none, N, h, h2, x, hx => by rw [headG] at hx; cases hx
 | [], some y, N, h, h2, x, hx => by rw [headG, List.mem_singleton] at hx; subst hx; exact h x rfl
 | c :: r, cur, N, h, h2, x, hx => by
  simp only [total] at h2
  have hfr : (fresh c).1.length <= N := by
   have := nmL_le c
   unfold fresh
   cases isF c with
   | false => simp
   | true => show (nmL c).length <= N; omega
  cases cur with
  | none =>
   have e : headG none (c :: r) = headG (some (fresh c)) r := rfl
   rw [e] at hx
   exact h6_nm r _ N (by intro y e; cases e; exact hfr) (by omega) x hx
  | some y =>
   have e : headG (some y) (c :: r) = bif isBl (c.headD 0) then headG (some (ext y c)) r else y :: headG (some (fresh c)) r := rfl
   rw [e] at hx
   cases hb : isBl (c.headD 0) with
   | true =>
    rw [hb, cond_true] at hx
    exact h6_nm r _ N (by intro z e; cases e; exact h y rfl) (by omega) x hx
   | false =>
    rw [hb, cond_false] at hx
    rcases List.mem_cons.1 hx with h1 | h1
    ·rw [h1]; exact h y rfl
    ·exact h6_nm r _ N (by intro z e; cases e; exact hfr) (by omega) x h1
theorem fresh_raw6 (c : List UInt8) : (fresh c).2.2 = c := by
 unfold fresh
 cases isF c <;> rfl
theorem h6_raw : ∀ (ls : List (List UInt8)) (cur : Option Fl) (n : Nat), (∀ x, cur = some x -> x.2.2.length + total ls <= n) -> total ls <= n -> ∀ x ∈ headG cur ls, x.2.2.length <= n
 | [], none, n, h, h2, x, hx => by rw [headG] at hx; cases hx
 | [], some y, n, h, h2, x, hx => by
  rw [headG, List.mem_singleton] at hx; subst hx
  have := h x rfl; simp only [total] at this; omega
 | c :: r, none, n, h, h2, x, hx => by
  rw [headG] at hx
  refine h6_raw r _ n ?_ (by simp only [total] at h2; omega) x hx
  intro y e; cases e
  simp only [total] at h2
  rw [fresh_raw6]; omega
 | c :: r, some y, n, h, h2, x, hx => by
  have hy := h y rfl
  simp only [total] at h2 hy
  rw [headG] at hx
  have hf := fresh_raw6 c
  cases hb : isBl (c.headD 0) with
  | true =>
   rw [hb, cond_true] at hx
   refine h6_raw r _ n ?_ (by omega) x hx
   intro z e; cases e
   have : (ext y c).2.2.length = y.2.2.length + c.length := by unfold ext; simp
   omega
  | false =>
   rw [hb, cond_false, List.mem_cons] at hx
   rcases hx with rfl | hx
   ·omega
   ·refine h6_raw r _ n ?_ (by omega) x hx
    intro z e; cases e; rw [hf]; omega
theorem trim6_le (l : List UInt8) : (trimL l).length <= l.length := by
 have h1 := rtrim_len isBl (l.dropWhile isBl)
 have h2 := (List.dropWhile_suffix isBl (l := l)).length_le
 unfold trimL; omega
def flG (h : List UInt8) : LA := (fieldsG h).map fAV
theorem flG_all (h : List UInt8) (hs : h.length <= 200000) : (flG h).length <= 64 /\ (∀ a ∈ flG h, Fit NB a) /\ ∀ a ∈ flG h, (a.fld 1).s.size <= 200000 := by
 have ht := headL_total h
 refine ⟨by unfold flG; rw [List.length_map]; unfold fieldsG; rw [List.length_take]; omega, fun a ha => ?_, fun a ha => ?_⟩
 all_goals
  obtain ⟨x, hx, rfl⟩ := List.mem_map.1 ha
  unfold fieldsG at hx
  obtain ⟨y, hy, rfl⟩ := List.mem_map.1 (List.mem_of_mem_take hx)
  have hy := (List.mem_filter.1 hy).1
  have b1 := h6_nm (headL h) none 200000 (by intro x e; cases e) (by omega) y hy
  have b2 := h6_raw (headL h) none 200000 (by intro x e; cases e) (by omega) y hy
  have b3 := headG_val (headL h) none 200000 (by intro x e; cases e) (by omega) y hy
  have b4 := trim6_le y.2.1
 ·refine .agg _ fun b hb => ?_
  simp only [List.mem_cons, List.mem_nil_iff, or_false] at hb
  rcases hb with rfl | rfl | rfl
  ·exact .str _ (by rw [size_B]; show y.1.length <= NB; unfold NB; omega)
  ·exact .str _ (by rw [size_B]; show (trimL y.2.1).length <= NB; unfold NB; omega)
  ·exact .str _ (by rw [size_B]; show y.2.2.length <= NB; unfold NB; omega)
 ·rw [fAV1, size_B]; show (trimL y.2.1).length <= 200000; omega
def gI (h : List UInt8) (n : BA) : Bool := (getL n (flG h)).isSome
def gV (h : List UInt8) (n : BA) : List UInt8 := bl ((getL n (flG h)).getD (B []))
theorem getL_in {n : BA} : ∀ {l : LA} {s : BA}, getL n l = some s -> ∃ a ∈ l, s = (a.fld 1).s
 | [], _, h => by cases h
 | a :: r, s, h => by
  rw [getL] at h
  split at h
  ·cases h; exact ⟨a, by simp, rfl⟩
  ·obtain ⟨b, hb, e⟩ := getL_in h; exact ⟨b, by simp [hb], e⟩
theorem gV_len {h : List UInt8} (hs : h.length <= 200000) (n : BA) : (gV h n).length <= 200000 := by
 unfold gV
 cases hg : getL n (flG h) with
 | none => simp [bl_B]
 | some s =>
  obtain ⟨a, ha, rfl⟩ := getL_in hg
  have := (flG_all h hs).2.2 a ha
  rw [size_bl] at this
  exact this
theorem lGet6 {h : List UInt8} (hs : h.length <= 200000) {n : BA} (hn : n.size <= NB) (κ : Bool -> BA -> Option R) : le_Get (flG h) n κ = κ (gI h n) (B (gV h n)) := by
 obtain ⟨h1, h2, _⟩ := flG_all h hs
 exact lGet_eq n hn (flG h) (by omega) h2 κ
structure HdV where
 ty : List UInt8
 sub : List UInt8
 ps : List Pm
 i0 : Bool
 i1 : List UInt8
 a0 : Bool
 a1 : List UInt8
 c1 : List UInt8
 p1 : List UInt8
 pp : List Pm
 lg : List (List UInt8)
 w0 : Bool
 w1 : List UInt8
abbrev K21 (R : Type) : Type := BA -> BA -> BA -> LA -> Bool -> BA -> Bool -> BA -> Bool -> BA -> Bool -> BA -> LA -> LA -> Bool -> BA -> Int -> Int -> Int -> Int -> Int -> Option R
def emp (l : List UInt8) : Bool := !decide (l = [])
def hdV (h : List UInt8) (dg : Bool) : HdV where
 ty := (kdG (gV h (⟨#[67, 111, 110, 116, 101, 110, 116, 45, 84, 121, 112, 101]⟩ : BA)) dg).1
 sub := (kdG (gV h (⟨#[67, 111, 110, 116, 101, 110, 116, 45, 84, 121, 112, 101]⟩ : BA)) dg).2.1
 ps := (kdG (gV h (⟨#[67, 111, 110, 116, 101, 110, 116, 45, 84, 121, 112, 101]⟩ : BA)) dg).2.2
 i0 := gI h (⟨#[67, 111, 110, 116, 101, 110, 116, 45, 73, 100]⟩ : BA)
 i1 := trimL (gV h (⟨#[67, 111, 110, 116, 101, 110, 116, 45, 73, 100]⟩ : BA))
 a0 := gI h (⟨#[67, 111, 110, 116, 101, 110, 116, 45, 68, 101, 115, 99, 114, 105, 112, 116, 105, 111, 110]⟩ : BA)
 a1 := trimL (gV h (⟨#[67, 111, 110, 116, 101, 110, 116, 45, 68, 101, 115, 99, 114, 105, 112, 116, 105, 111, 110]⟩ : BA))
 c1 := fsO (gV h (⟨#[67, 111, 110, 116, 101, 110, 116, 45, 84, 114, 97, 110, 115, 102, 101, 114, 45, 69, 110, 99, 111, 100, 105, 110, 103]⟩ : BA))
 p1 := fsO (gV h (⟨#[67, 111, 110, 116, 101, 110, 116, 45, 68, 105, 115, 112, 111, 115, 105, 116, 105, 111, 110]⟩ : BA))
 pp := if fsO (gV h (⟨#[67, 111, 110, 116, 101, 110, 116, 45, 68, 105, 115, 112, 111, 115, 105, 116, 105, 111, 110]⟩ : BA)) = [] then [] else prsL (fsR (gV h (⟨#[67, 111, 110, 116, 101, 110, 116, 45, 68, 105, 115, 112, 111, 115, 105, 116, 105, 111, 110]⟩ : BA)))
 lg := lgL (gV h (⟨#[67, 111, 110, 116, 101, 110, 116, 45, 76, 97, 110, 103, 117, 97, 103, 101]⟩ : BA))
 w0 := gI h (⟨#[67, 111, 110, 116, 101, 110, 116, 45, 76, 111, 99, 97, 116, 105, 111, 110]⟩ : BA)
 w1 := trimL (gV h (⟨#[67, 111, 110, 116, 101, 110, 116, 45, 76, 111, 99, 97, 116, 105, 111, 110]⟩ : BA))
def appH (κ : K21 R) (p : BA) (v : HdV) (a b c d e : Int) : Option R :=
 κ p (B v.ty) (B v.sub) (v.ps.map pmAV) v.i0 (B v.i1) v.a0 (B v.a1) (emp v.c1) (B v.c1) (emp v.p1) (B v.p1) (v.pp.map pmAV) (rowsS v.lg) v.w0 (B v.w1) a b c d e
theorem lBare6 {h : List UInt8} (hs : h.length <= 200000) {n : BA} (hn : n.size <= NB) (κ : Bool -> BA -> Option R) : lm_bare (flG h) n κ = κ (gI h n) (B (trimL (gV h n))) := by
 unfold lm_bare lm_bare.e
 have := gV_len hs n
 rw [lGet6 hs hn, sTrim_eq _ (by omega)]
theorem fst0 (v : List UInt8) (hs : v.length <= 1000000) (κ : Bool -> BA -> BA -> Int -> Option R) : lm_value_first (B v) 0 κ = κ (emp (fsO v)) (B (fsO v)) (B v) (pl v (fsR v)) := by
 have := lFirst v v hs (List.suffix_refl v) κ
 rw [pl_all] at this
 exact this
theorem fsR_sf (v : List UInt8) : fsR v <:+ v := (tok2_sf _).trans (blk_sf v)
theorem says_tail {h : List UInt8} (hs : h.length <= 200000) (ty sub : BA) (ps : LA) (p : BA) (a b c d e : Int) (κ : K21 R) (f : Nat) (k : K21 R)
  (hk : ∀ i0 i1 a0 a1 c0 c1 p0 p1 pp w0 w1, k p ty sub ps i0 i1 a0 a1 c0 c1 p0 p1 pp [] w0 w1 a b c d e = lm_says.L15 le_Get lm_value_kind lm_value_params lm_value_first lm_bare lm_value_langs κ (f + 1) (flG h) p ty sub ps i0 i1 a0 a1 c0 c1 p0 p1 pp [] w0 w1 a b c d e) :
  le_Get (flG h) (⟨#[67, 111, 110, 116, 101, 110, 116, 45, 84, 114, 97, 110, 115, 102, 101, 114, 45, 69, 110, 99, 111, 100, 105, 110, 103]⟩ : BA) (fun r186 r187 => lm_value_first r187 0 (fun r194 r195 r196 r197 => lm_bare (flG h) (⟨#[67, 111, 110, 116, 101, 110, 116, 45, 73, 100]⟩ : BA) (fun r201 r202 => lm_bare (flG h) (⟨#[67, 111, 110, 116, 101, 110, 116, 45, 68, 101, 115, 99, 114, 105, 112, 116, 105, 111, 110]⟩ : BA) (fun r203 r204 => lm_bare (flG h) (⟨#[67, 111, 110, 116, 101, 110, 116, 45, 76, 111, 99, 97, 116, 105, 111, 110]⟩ : BA) (fun r205 r206 => le_Get (flG h) (⟨#[67, 111, 110, 116, 101, 110, 116, 45, 68, 105, 115, 112, 111, 115, 105, 116, 105, 111, 110]⟩ : BA) (fun r207 r208 => lm_value_first r208 0 (fun r209 r210 r211 r212 => bif r209 then lm_value_params r211 r212 (fun r213 r214 r215 => k p ty sub ps r201 r202 r203 r204 r194 r195 r209 r210 r213 [] r205 r206 a b c d e) else k p ty sub ps r201 r202 r203 r204 r194 r195 r209 r210 [] [] r205 r206 a b c d e)))))))
  = κ p ty sub ps (gI h (⟨#[67, 111, 110, 116, 101, 110, 116, 45, 73, 100]⟩ : BA)) (B (trimL (gV h (⟨#[67, 111, 110, 116, 101, 110, 116, 45, 73, 100]⟩ : BA)))) (gI h (⟨#[67, 111, 110, 116, 101, 110, 116, 45, 68, 101, 115, 99, 114, 105, 112, 116, 105, 111, 110]⟩ : BA)) (B (trimL (gV h (⟨#[67, 111, 110, 116, 101, 110, 116, 45, 68, 101, 115, 99, 114, 105, 112, 116, 105, 111, 110]⟩ : BA)))) (emp (fsO (gV h (⟨#[67, 111, 110, 116, 101, 110, 116, 45, 84, 114, 97, 110, 115, 102, 101, 114, 45, 69, 110, 99, 111, 100, 105, 110, 103]⟩ : BA)))) (B (fsO (gV h (⟨#[67, 111, 110, 116, 101, 110, 116, 45, 84, 114, 97, 110, 115, 102, 101, 114, 45, 69, 110, 99, 111, 100, 105, 110, 103]⟩ : BA)))) (emp (fsO (gV h (⟨#[67, 111, 110, 116, 101, 110, 116, 45, 68, 105, 115, 112, 111, 115, 105, 116, 105, 111, 110]⟩ : BA)))) (B (fsO (gV h (⟨#[67, 111, 110, 116, 101, 110, 116, 45, 68, 105, 115, 112, 111, 115, 105, 116, 105, 111, 110]⟩ : BA)))) ((if fsO (gV h (⟨#[67, 111, 110, 116, 101, 110, 116, 45, 68, 105, 115, 112, 111, 115, 105, 116, 105, 111, 110]⟩ : BA)) = [] then [] else prsL (fsR (gV h (⟨#[67, 111, 110, 116, 101, 110, 116, 45, 68, 105, 115, 112, 111, 115, 105, 116, 105, 111, 110]⟩ : BA)))).map pmAV) (rowsS (lgL (gV h (⟨#[67, 111, 110, 116, 101, 110, 116, 45, 76, 97, 110, 103, 117, 97, 103, 101]⟩ : BA)))) (gI h (⟨#[67, 111, 110, 116, 101, 110, 116, 45, 76, 111, 99, 97, 116, 105, 111, 110]⟩ : BA)) (B (trimL (gV h (⟨#[67, 111, 110, 116, 101, 110, 116, 45, 76, 111, 99, 97, 116, 105, 111, 110]⟩ : BA)))) a b c d e := by
 have l1 := gV_len hs (⟨#[67, 111, 110, 116, 101, 110, 116, 45, 84, 114, 97, 110, 115, 102, 101, 114, 45, 69, 110, 99, 111, 100, 105, 110, 103]⟩ : BA)
 have l2 := gV_len hs (⟨#[67, 111, 110, 116, 101, 110, 116, 45, 68, 105, 115, 112, 111, 115, 105, 116, 105, 111, 110]⟩ : BA)
 have l3 := gV_len hs (⟨#[67, 111, 110, 116, 101, 110, 116, 45, 76, 97, 110, 103, 117, 97, 103, 101]⟩ : BA)
 have fin : ∀ i0 i1 a0 a1 c0 c1 p0 p1 pp w0 w1, k p ty sub ps i0 i1 a0 a1 c0 c1 p0 p1 pp [] w0 w1 a b c d e = κ p ty sub ps i0 i1 a0 a1 c0 c1 p0 p1 pp (rowsS (lgL (gV h (⟨#[67, 111, 110, 116, 101, 110, 116, 45, 76, 97, 110, 103, 117, 97, 103, 101]⟩ : BA)))) w0 w1 a b c d e := by
  intro i0 i1 a0 a1 c0 c1 p0 p1 pp w0 w1
  rw [hk, lm_says.L15, lm_says.t15, lGet6 hs (by decide)]
  obtain ⟨q, hq⟩ := lLg (R := R) (gV h (⟨#[67, 111, 110, 116, 101, 110, 116, 45, 76, 97, 110, 103, 117, 97, 103, 101]⟩ : BA)) (by omega)
  exact hq _
 rw [lGet6 hs (by decide), fst0 _ (by omega), lBare6 hs (by decide), lBare6 hs (by decide), lBare6 hs (by decide), lGet6 hs (by decide), fst0 _ (by omega)]
 unfold emp
 by_cases c1 : fsO (gV h (⟨#[67, 111, 110, 116, 101, 110, 116, 45, 68, 105, 115, 112, 111, 115, 105, 116, 105, 111, 110]⟩ : BA)) = []
 ·rw [decide_eq_true c1, Bool.not_true, cond_false, fin, if_pos c1]; rfl
 ·rw [decide_eq_false c1, Bool.not_false, cond_true]
  obtain ⟨q, hq⟩ := lPrs (R := R) (gV h (⟨#[67, 111, 110, 116, 101, 110, 116, 45, 68, 105, 115, 112, 111, 115, 105, 116, 105, 111, 110]⟩ : BA)) (fsR (gV h (⟨#[67, 111, 110, 116, 101, 110, 116, 45, 68, 105, 115, 112, 111, 115, 105, 116, 105, 111, 110]⟩ : BA))) (by omega) (fsR_sf _)
  rw [hq, fin, if_neg c1]
theorem lSays {h : List UInt8} (hs : h.length <= 200000) (p : BA) (s1 s2 : BA) (a b c d e : Int) (dg : Bool) (x1 x2 x3 x4 x5 : BA) (y1 y2 y3 y4 y5 : Bool) (κ : K21 R) :
  lm_says p s1 s2 y1 x1 y2 x2 y3 x3 y4 x4 y5 x5 a b c d e (flG h) dg κ = appH κ p (hdV h dg) a b c d e := by
 have l1 := gV_len hs (⟨#[67, 111, 110, 116, 101, 110, 116, 45, 84, 121, 112, 101]⟩ : BA)
 have key : ∀ f, lm_says.e le_Get lm_value_kind lm_value_params lm_value_first lm_bare lm_value_langs p s1 s2 y1 x1 y2 x2 y3 x3 y4 x4 y5 x5 a b c d e (flG h) dg (lm_says.L15 le_Get lm_value_kind lm_value_params lm_value_first lm_bare lm_value_langs κ (f + 1)) κ = appH κ p (hdV h dg) a b c d e := by
  intro f
  unfold lm_says.e
  rw [lGet6 hs (by decide)]
  have hk := lKind (R := R) (gV h (⟨#[67, 111, 110, 116, 101, 110, 116, 45, 84, 121, 112, 101]⟩ : BA)) (by omega)
  unfold appH hdV kdG
  cases e1 : kdO (gV h (⟨#[67, 111, 110, 116, 101, 110, 116, 45, 84, 121, 112, 101]⟩ : BA)) with
  | none =>
   rw [e1] at hk
   obtain ⟨u, v, q, hk⟩ := hk
   rw [hk, cond_false]
   cases dg with
   | true =>
    rw [cond_true]
    exact says_tail hs _ _ [] p a b c d e κ f (lm_says.L15 le_Get lm_value_kind lm_value_params lm_value_first lm_bare lm_value_langs κ (f + 1) (flG h)) (fun _ _ _ _ _ _ _ _ _ _ _ => rfl)
   | false =>
    rw [cond_false]
    exact says_tail hs _ _ _ p a b c d e κ f (lm_says.L15 le_Get lm_value_kind lm_value_params lm_value_first lm_bare lm_value_langs κ (f + 1) (flG h)) (fun _ _ _ _ _ _ _ _ _ _ _ => rfl)
  | some q =>
   obtain ⟨t, u, r⟩ := q
   rw [e1] at hk
   replace hk : ∀ κ : BA -> BA -> Bool -> BA -> Int -> Option R, lm_value_kind (B (gV h (⟨#[67, 111, 110, 116, 101, 110, 116, 45, 84, 121, 112, 101]⟩ : BA))) 0 κ = κ (B t) (B u) true (B (gV h (⟨#[67, 111, 110, 116, 101, 110, 116, 45, 84, 121, 112, 101]⟩ : BA))) (pl (gV h (⟨#[67, 111, 110, 116, 101, 110, 116, 45, 84, 121, 112, 101]⟩ : BA)) r) := hk
   obtain ⟨q2, hq2⟩ := lPrs (R := R) (gV h (⟨#[67, 111, 110, 116, 101, 110, 116, 45, 84, 121, 112, 101]⟩ : BA)) r (by omega) (kd_sf e1)
   rw [hk, cond_true, hq2]
   exact says_tail hs _ _ _ p a b c d e κ f (lm_says.L15 le_Get lm_value_kind lm_value_params lm_value_first lm_bare lm_value_langs κ (f + 1) (flG h)) (fun _ _ _ _ _ _ _ _ _ _ _ => rfl)
 exact key (fuelK - 1)
def lne : List UInt8 -> List UInt8 × Option (List UInt8)
 | [] => ([], none)
 | c :: t => if c = 13 /\ t.head? = some 10 then ([], some t.tail) else (c :: (lne t).1, (lne t).2)
def lnx (r : List UInt8) : List UInt8 := (lne r).2.getD []
theorem lne_cr (t : List UInt8) : lne (13 :: 10 :: t) = ([], some t) := by rw [lne, if_pos ⟨rfl, rfl⟩]; rfl
theorem lne_ot {c : UInt8} {t : List UInt8} (h : ¬ (c = 13 /\ t.head? = some 10)) : lne (c :: t) = (c :: (lne t).1, (lne t).2) := by rw [lne, if_neg h]
theorem hd10 {t : List UInt8} (h : t.head? = some 10) : t = 10 :: t.tail := by
 cases t with
 | nil => cases h
 | cons c u => simp at h; rw [h]; rfl
theorem lne_some : ∀ {r u : List UInt8}, (lne r).2 = some u -> r = (lne r).1 ++ 13 :: 10 :: u
 | [], u, h => by cases h
 | c :: t, u, h => by
  by_cases e : c = 13 /\ t.head? = some 10
  ·obtain ⟨rfl, e2⟩ := e
   rw [hd10 e2, lne_cr] at h ⊢
   cases h; rfl
  ·rw [lne_ot e] at h ⊢
   have := lne_some h
   simp only [List.cons_append]
   rw [<- this]
theorem lne_none : ∀ {r : List UInt8}, (lne r).2 = none -> r = (lne r).1
 | [], _ => rfl
 | c :: t, h => by
  by_cases e : c = 13 /\ t.head? = some 10
  ·obtain ⟨rfl, e2⟩ := e
   rw [hd10 e2, lne_cr] at h; cases h
  ·rw [lne_ot e] at h ⊢
   simp only
   rw [<- lne_none h]
theorem pre_cr (c : UInt8) (t : List UInt8) : ([13, 10] : List UInt8).isPrefixOf (c :: t) = decide (c = 13 /\ t.head? = some 10) := by
 cases t with
 | nil => simp [List.isPrefixOf]
 | cons d u =>
  simp only [List.isPrefixOf, List.head?_cons, Option.some.injEq, Bool.and_true]
  rw [Bool.eq_iff_iff]
  simp only [Bool.and_eq_true, beq_iff_eq, decide_eq_true_eq]
  constructor
  ·rintro ⟨rfl, rfl⟩; exact ⟨rfl, rfl⟩
  ·rintro ⟨rfl, rfl⟩; exact ⟨rfl, rfl⟩
theorem lne_index : ∀ (r : List UInt8), Lib.index r [13, 10] = match (lne r).2 with
  | some _ => ((lne r).1.length : Int)
  | none => -1
 | [] => by rfl
 | c :: t => by
  rw [index_cons, pre_cr, lne_index t]
  by_cases e : c = 13 /\ t.head? = some 10
  ·rw [if_pos (by simpa using e)]
   obtain ⟨rfl, e2⟩ := e
   rw [hd10 e2, lne_cr]; rfl
  ·rw [if_neg (by simpa using e), lne_ot e]
   simp only
   cases h : (lne t).2 with
   | none => rfl
   | some u =>
    simp only [List.length_cons]
    rw [if_neg (by simp)]; omega
theorem lnx_sf : ∀ (r : List UInt8), lnx r <:+ r
 | [] => List.suffix_refl _
 | c :: t => by
  unfold lnx
  by_cases e : c = 13 /\ t.head? = some 10
  ·obtain ⟨rfl, e2⟩ := e
   rw [hd10 e2, lne_cr]
   exact (List.suffix_cons _ _).trans (List.suffix_cons _ _)
  ·rw [lne_ot e]
   exact (lnx_sf t).trans (List.suffix_cons _ _)
theorem lnx_lt (c : UInt8) (t : List UInt8) : (lnx (c :: t)).length <= t.length := by
 unfold lnx
 by_cases e : c = 13 /\ t.head? = some 10
 ·obtain ⟨rfl, e2⟩ := e
  rw [hd10 e2, lne_cr]; simp
 ·rw [lne_ot e]
  exact (lnx_sf t).length_le
theorem lne_len (r : List UInt8) : (lne r).1.length <= r.length := by
 cases h : (lne r).2 with
 | none => have := lne_none h; rw [<- this]; exact Nat.le_refl _
 | some u => have := congrArg List.length (lne_some h); simp only [List.length_append, List.length_cons] at this; omega
theorem lne_pre (r : List UInt8) : r.take (lne r).1.length = (lne r).1 := by
 cases h : (lne r).2 with
 | none => have := lne_none h; rw [<- this]; simp
 | some u => have := lne_some h; conv => lhs; arg 2; rw [this]
             simp
def allB (l : List UInt8) : Bool := l.all isBl
def bdL (b l : List UInt8) : Option Bool :=
 if (45 :: 45 :: b).isPrefixOf l then
  (if ([45, 45] : List UInt8).isPrefixOf (l.drop (b.length + 2)) then (if allB (l.drop (b.length + 2 + 2)) then some true else none)
   else (if allB (l.drop (b.length + 2)) then some false else none))
 else none
def dsh (l : List UInt8) : Bool := ([45, 45] : List UInt8).isPrefixOf l
theorem trim_nil6 (l : List UInt8) : (trimL l = []) ↔ allB l = true := by
 unfold trimL allB
 rw [List.all_eq_true]
 constructor
 ·intro h
  cases hd : l.dropWhile isBl with
  | nil => exact dw_nil.1 hd
  | cons c t =>
   have hc : isBl c = false := by
    have := List.head?_dropWhile_not isBl l
    rw [hd] at this; simpa using this
   rw [hd] at h
   obtain ⟨e, he⟩ := rtrim_head (p := isBl) t hc
   rw [he] at h; cases h
 ·intro h
  rw [dw_nil.2 h]; rfl
theorem cutPre (l p : List UInt8) (κ : BA -> Bool -> Option R) : st_CutPrefix (B l) (B p) κ = if p.isPrefixOf l then κ (B (l.drop p.length)) true else κ (B l) false := by
 unfold st_CutPrefix st_CutPrefix.e sl_CutPrefix sl_CutPrefix.e
 have := hasPrefixB (R := R) l p
 unfold st_HasPrefix st_HasPrefix.e at this
 rw [this]
 cases h : p.isPrefixOf l with
 | false => rfl
 | true =>
  have h2 : p.length <= l.length := (List.isPrefixOf_iff_prefix.1 h).length_le
  rw [size_B, size_B, Bool.not_true, cond_false, chk_and, chk_dec (by omega), chk_and, chk_dec (by omega), chk_dec (by omega), Int.toNat_natCast, Int.toNat_natCast, extract_B, List.take_length]
  rfl
theorem emp6 (l : List UInt8) : decide (B l = B []) = decide (l = []) := decide_eq_decide.2 B_inj
theorem lBd (b l : List UInt8) (hb : b.length <= 1000000) (hl : l.length <= 1000000) : match bdL b l with
  | some k => ∀ κ : Bool -> Bool -> Option R, lm_bound (B l) (B b) κ = κ true k
  | none => ∃ k, ∀ κ : Bool -> Bool -> Option R, lm_bound (B l) (B b) κ = κ false k := by
 have st : ∀ κ : Bool -> Bool -> Option R, lm_bound (B l) (B b) κ = if (45 :: 45 :: b).isPrefixOf l then (if dsh (l.drop (b.length + 2)) then κ (allB (l.drop (b.length + 2 + 2))) true else κ (allB (l.drop (b.length + 2))) false) else κ false false := by
  intro κ
  unfold lm_bound lm_bound.e
  have e0 : (⟨#[45, 45]⟩ : BA) = B [45, 45] := rfl
  have tr : ∀ x : List UInt8, x.length <= 1000000 -> ∀ κ : BA -> Option R, st_Trim (B x) (⟨#[32, 9]⟩ : BA) κ = κ (B (trimL x)) := fun x hx κ => sTrim_eq x hx κ
  have tb : ∀ x : List UInt8, decide (trimL x = []) = allB x := fun x => by
   cases h : allB x with
   | true => exact decide_eq_true ((trim_nil6 x).2 h)
   | false => exact decide_eq_false (fun e => by rw [(trim_nil6 x).1 e] at h; cases h)
  rw [e0, size_B, size_B, chk_dec (by simp only [List.length_cons, List.length_nil]; omega), append_B, cutPre]
  show (if (45 :: 45 :: b).isPrefixOf l then _ else _) = _
  by_cases h : (45 :: 45 :: b).isPrefixOf l = true
  ·rw [if_pos h, if_pos h, Bool.not_true, cond_false, cutPre]
   have hn : ([45, 45] ++ b).length = b.length + 2 := by simp
   have hdl : (l.drop (b.length + 2)).length <= 1000000 := by rw [List.length_drop]; omega
   rw [hn]
   unfold dsh
   by_cases h2 : ([45, 45] : List UInt8).isPrefixOf (l.drop (b.length + 2)) = true
   ·rw [if_pos h2, if_pos h2, tr _ (by simp only [List.length_drop]; omega), empty_B, emp6, tb, List.drop_drop]; rfl
   ·rw [if_neg h2, if_neg h2, tr _ hdl, empty_B, emp6, tb]
  ·rw [if_neg h, if_neg h]; rfl
 unfold bdL
 by_cases h : (45 :: 45 :: b).isPrefixOf l = true
 ·rw [if_pos h]
  simp only [h, if_true] at st
  by_cases h2 : dsh (l.drop (b.length + 2)) = true
  ·have h3 := h2
   unfold dsh at h3
   rw [if_pos h3]
   simp only [h2, if_true] at st
   cases h4 : allB (l.drop (b.length + 2 + 2)) with
   | true => rw [if_pos rfl]; rw [h4] at st; exact st
   | false => rw [if_neg (by decide)]; rw [h4] at st; exact ⟨true, st⟩
  ·have h3 := h2
   unfold dsh at h3
   rw [if_neg h3]
   simp only [h2] at st
   cases h4 : allB (l.drop (b.length + 2)) with
   | true => rw [if_pos rfl]; rw [h4] at st; exact st
   | false => rw [if_neg (by decide)]; rw [h4] at st; exact ⟨false, st⟩
 ·rw [if_neg h]
  simp only [h] at st
  exact ⟨false, st⟩
def pn (s r : List UInt8) : Nat := s.length - r.length
theorem max2_eq (x y : Int) : max2 x y = max x y := by
 unfold max2
 by_cases h : x < y
 ·rw [cond_dec h]; omega
 ·rw [cond_dec' h]; omega
theorem min2_eq (x y : Int) : min2 x y = min x y := by
 unfold min2
 by_cases h : y < x
 ·rw [cond_dec h]; omega
 ·rw [cond_dec' h]; omega
def pcA (F : Nat) (p : Nat × Nat) : AV := .agg [.int ((F + p.1 : Nat) : Int), .int ((F + p.2 : Nat) : Int)]
def frI (F : Nat) : Option Nat -> Int
 | none => -1
 | some k => ((F + k : Nat) : Int)
def flP (frm : Option Nat) (e : Nat) : List (Nat × Nat) :=
 match frm with
 | none => []
 | some k => [(k, e)]
def ptG (b s : List UInt8) (frm : Option Nat) : List UInt8 -> List (Nat × Nat)
 | [] => flP frm s.length
 | c :: t => match bdL b (lne (c :: t)).1 with
  | some last => flP (frm) (max (frm.getD 0) (pn s (c :: t) - 2)) ++ (if last then [] else ptG b s (some (pn s (lnx (c :: t)))) (lnx (c :: t)))
  | none => ptG b s frm (lnx (c :: t))
termination_by r => r.length
decreasing_by
 all_goals simp_wf
 all_goals have := lnx_lt c t
 all_goals omega
theorem ptG_nil (b s : List UInt8) (frm : Option Nat) : ptG b s frm [] = flP frm s.length := by rw [ptG]
theorem flP_len (frm : Option Nat) (e : Nat) : (flP frm e).length <= 1 := by unfold flP; cases frm <;> simp
theorem frI_dec (F : Nat) (frm : Option Nat) : decide (frI F frm >= 0) = frm.isSome := by
 cases frm with
 | none => rfl
 | some k => exact decide_eq_true (by show (0 : Int) <= ((F + k : Nat) : Int); omega)
theorem ptG_in (b s : List UInt8) (hs : s.length <= 1000000) : ∀ (n : Nat) (frm : Option Nat) (r : List UInt8), r.length <= n -> r <:+ s -> (∀ k, frm = some k -> k <= s.length) -> ∀ p ∈ ptG b s frm r, p.1 <= p.2 /\ p.2 <= s.length
 | n, frm, [], _, _, hk, p, hp => by
  rw [ptG_nil] at hp
  cases frm with
  | none => cases hp
  | some k =>
   simp only [flP, List.mem_singleton] at hp
   subst hp
   exact ⟨hk k rfl, Nat.le_refl _⟩
 | 0, _, c :: t, h, _, _, _, _ => by simp at h
 | n + 1, frm, c :: t, h, hr, hk, p, hp => by
  have hl := lnx_lt c t
  have hsf := (lnx_sf (c :: t)).trans hr
  have hlen := suf_len hr
  simp only [List.length_cons] at h hlen
  rw [ptG] at hp
  cases e : bdL b (lne (c :: t)).1 with
  | none =>
   rw [e] at hp
   exact ptG_in b s hs n frm _ (by omega) hsf hk p hp
  | some last =>
   rw [e] at hp
   rcases List.mem_append.1 hp with h1 | h1
   ·cases frm with
    | none => cases h1
    | some k =>
     simp only [flP, List.mem_singleton] at h1
     subst h1
     have := hk k rfl
     simp only [Option.getD_some]
     unfold pn
     exact ⟨by omega, by simp only [List.length_cons]; omega⟩
   ·cases last with
    | true => cases h1
    | false =>
     refine ptG_in b s hs n _ _ (by omega) hsf (fun k e => ?_) p h1
     cases e; unfold pn; omega
theorem raw_drop {w s r : List UInt8} {F : Nat} (hw : (w.take (F + s.length)).drop F = s) (h : r <:+ s) (hF : F + s.length <= w.length) (k : Nat) (hk : k <= r.length) : (B w).extract (F + pn s r) (F + pn s r + k) = B (r.take k) := by
 have hl := suf_len h
 have e : s.drop (pn s r) = r := suf_drop h
 rw [extract_B]
 congr 1
 have h1 : w.drop F = s ++ w.drop (F + s.length) := by
  have : w.drop F = (w.take (F + s.length)).drop F ++ w.drop (F + s.length) := by
   conv => lhs; rw [<- List.take_append_drop (F + s.length) w]
   rw [List.drop_append_of_le_length (by rw [List.length_take]; omega)]
  rw [this, hw]
 rw [List.drop_take, <- List.drop_drop, h1, List.drop_append_of_le_length (by unfold pn; omega), e, show F + pn s r + k - (F + pn s r) = k by omega, List.take_append_of_le_length hk]
theorem lCut_loop (b s w : List UInt8) (F : Nat) (hw : (w.take (F + s.length)).drop F = s) (hF : F + s.length <= w.length) (hwl : w.length <= 900000) (hb : b.length <= 1000000) (a1 a2 : Int) (κ : LA -> BA -> Int -> Option R) : ∀ (f : Nat) (r : List UInt8) (frm : Option Nat) (acc : LA), r <:+ s -> r.length + 1 < f -> acc.length + r.length <= 1000000 -> (∀ k, frm = some k -> k <= s.length) ->
  lm_tree_cut.L4 st_Index lm_bound κ f (B b) (frI F frm) ((F + pn s r : Nat) : Int) (B w) a1 a2 ((F + s.length : Nat) : Int) acc = κ (acc ++ (ptG b s frm r).map (pcA F)) (B w) a1
 | 0, r, frm, acc, _, hf, _, _ => by omega
 | f + 1, r, frm, acc, hr, hf, ha, hk => by
  have hlen := suf_len hr
  have hpn : pn s r + r.length = s.length := by unfold pn; omega
  have hll := lne_len r
  have stop : ∀ (g : Nat) (frm : Option Nat) (acc : LA), acc.length <= 1000000 -> lm_tree_cut.L4 st_Index lm_bound κ (g + 1) (B b) (frI F frm) ((F + s.length + 1 : Nat) : Int) (B w) a1 a2 ((F + s.length : Nat) : Int) acc = κ (acc ++ (flP frm s.length).map (pcA F)) (B w) a1 := by
   intro g frm acc ha
   rw [lm_tree_cut.L4, lm_tree_cut.t4, cond_dec' (by omega), frI_dec]
   cases frm with
   | none => rw [Option.isSome_none, cond_false]; simp [flP]
   | some k => rw [Option.isSome_some, cond_true, chk_dec (by omega)]; rfl
  have hnl : lnx r <:+ s := (lnx_sf r).trans hr
  have hnn : (lnx r).length <= s.length := suf_len hnl
  have hnx : ∀ k, some (pn s (lnx r)) = some k -> k <= s.length := fun k e => by cases e; unfold pn; omega
  have sub : ∀ p : Nat, p <= s.length -> IntKind.wrap .i64 (((F + p : Nat) : Int) - 2) = ((F + p : Nat) : Int) - 2 := fun p hp => wrap_i64 (by omega) (by omega)
  have hpc : ∀ k, k <= s.length -> AV.agg [AV.int (frI F (some k)), AV.int (max2 (frI F (some k)) (((F + pn s r : Nat) : Int) - 2))] = pcA F (k, max ((some k).getD 0) (pn s r - 2)) := fun k hk => by
   unfold pcA
   show AV.agg [AV.int ((F + k : Nat) : Int), AV.int (max2 ((F + k : Nat) : Int) _)] = AV.agg [AV.int ((F + k : Nat) : Int), AV.int ((F + max k (pn s r - 2) : Nat) : Int)]
   congr 3
   rw [max2_eq]
   congr 1
   omega
  rw [lm_tree_cut.L4, lm_tree_cut.t4, cond_dec (by omega), szB, chk_and, chk_dec (by omega), chk_and, chk_dec (by omega), chk_dec (by omega), Int.toNat_natCast, Int.toNat_natCast, sub _ (by omega)]
  have hx := raw_drop hw hr hF r.length (Nat.le_refl _)
  rw [List.take_length, show F + pn s r + r.length = F + s.length by omega] at hx
  rw [hx, show (⟨#[13, 10]⟩ : BA) = B [13, 10] from rfl, index_eq r _ (by omega), lne_index, frI_dec]
  have hbd := lBd (R := R) b (lne r).1 hb (by omega)
  have hlast : (if h : r = [] then True else True) := by split <;> trivial
  have run : ∀ (X : Option Bool), bdL b (lne r).1 = X -> r ≠ [] -> ptG b s frm r = match X with
    | some last => flP (frm) (max (frm.getD 0) (pn s r - 2)) ++ (if last then [] else ptG b s (some (pn s (lnx r))) (lnx r))
    | none => ptG b s frm (lnx r) := by
   intro X hX hr0
   cases r with
   | nil => exact absurd rfl hr0
   | cons c t => rw [ptG, hX]
  cases en : (lne r).2 with
  | some u =>
   have hsp := lne_some en
   have hul : (lne r).1.length + 2 + u.length = r.length := by
    have := congrArg List.length hsp
    simp only [List.length_append, List.length_cons] at this; omega
   have hlx : lnx r = u := by unfold lnx; rw [en]; rfl
   have hr0 : r ≠ [] := fun e => by rw [e] at en; cases en
   have hpu : F + pn s r + (lne r).1.length + 2 = F + pn s u := by
    rw [hlx] at hnn; unfold pn; omega
   have hpu' : pn s u <= s.length := by unfold pn; omega
   have w1 : IntKind.wrap .i64 (((F + pn s r : Nat) : Int) + ((lne r).1.length : Int)) = ((F + pn s r + (lne r).1.length : Nat) : Int) := wrap_i64 (by omega) (by omega)
   have w2 : IntKind.wrap .i64 (((F + pn s r + (lne r).1.length : Nat) : Int) + 2) = ((F + pn s u : Nat) : Int) := by rw [<- hpu]; exact wrap_i64 (by omega) (by omega)
   have hm : min2 ((F + pn s u : Nat) : Int) ((F + s.length : Nat) : Int) = frI F (some (pn s u)) := by
    show _ = ((F + pn s u : Nat) : Int)
    rw [min2_eq]; omega
   have hxl := raw_drop hw hr hF (lne r).1.length hll
   rw [lne_pre] at hxl
   simp only
   rw [cond_dec (by omega), w1, w2, hm, chk_and, chk_dec (by omega), chk_and, chk_dec (by omega), chk_dec (by omega), Int.toNat_natCast, hxl]
   rw [hlx] at run hnl hnx
   have IH := fun (frm : Option Nat) (acc : LA) (h1 : acc.length + u.length <= 1000000) (h2 : ∀ k, frm = some k -> k <= s.length) => lCut_loop b s w F hw hF hwl hb a1 a2 κ f u frm acc hnl (by omega) h1 h2
   cases e : bdL b (lne r).1 with
   | none =>
    rw [e] at hbd
    obtain ⟨q, hq⟩ := hbd
    rw [hq, cond_false, run none e hr0]
    exact IH frm acc (by omega) hk
   | some last =>
    rw [e] at hbd
    replace hbd : ∀ κ : Bool -> Bool -> Option R, lm_bound (B (lne r).1) (B b) κ = κ true last := hbd
    rw [hbd, cond_true, run (some last) e hr0]
    cases frm with
    | none =>
     rw [Option.isSome_none, cond_false]
     cases last with
     | true => rw [cond_true]; simp [flP]
     | false => rw [cond_false, IH _ acc (by omega) hnx]; simp [flP]
    | some k =>
     rw [Option.isSome_some, cond_true, chk_dec (by omega), hpc k (hk k rfl)]
     cases last with
     | true => rw [cond_true]; simp [flP]
     | false => rw [cond_false, IH _ _ (by simp only [List.length_append, List.length_cons, List.length_nil]; omega) hnx]; simp [flP]
  | none =>
   have hln := lne_none en
   have hlx : lnx r = [] := by unfold lnx; rw [en]; rfl
   have w1 : IntKind.wrap .i64 (((F + s.length : Nat) : Int) + 1) = ((F + s.length + 1 : Nat) : Int) := wrap_i64 (by omega) (by omega)
   have hps : pn s [] = s.length := rfl
   have hm : min2 ((F + s.length + 1 : Nat) : Int) ((F + s.length : Nat) : Int) = frI F (some (pn s [])) := by
    rw [hps]
    show _ = ((F + s.length : Nat) : Int)
    rw [min2_eq]; omega
   simp only
   rw [cond_dec' (by omega), w1, hm, chk_and, chk_dec (by omega), chk_and, chk_dec (by omega), chk_dec (by omega)]
   rw [<- hln] at hbd
   obtain ⟨g, rfl⟩ : ∃ g, f = g + 1 := ⟨f - 1, by omega⟩
   by_cases hr0 : r = []
   ·subst hr0
    have e : bdL b [] = none := by
     unfold bdL
     rw [if_neg (by simp [List.isPrefixOf])]
    rw [e] at hbd
    obtain ⟨q, hq⟩ := hbd
    rw [hq, cond_false, ptG_nil]
    exact stop g frm acc (by omega)
   ·rw [hlx] at run
    cases e : bdL b r with
    | none =>
     rw [e] at hbd
     obtain ⟨q, hq⟩ := hbd
     rw [hq, cond_false, run none (by rw [<- hln]; exact e) hr0]
     show _ = κ (acc ++ (ptG b s frm []).map (pcA F)) _ _
     rw [ptG_nil]
     exact stop g frm acc (by omega)
    | some last =>
     rw [e] at hbd
     replace hbd : ∀ κ : Bool -> Bool -> Option R, lm_bound (B r) (B b) κ = κ true last := hbd
     rw [hbd, cond_true, run (some last) (by rw [<- hln]; exact e) hr0]
     cases frm with
     | none =>
      rw [Option.isSome_none, cond_false]
      cases last with
      | true => rw [cond_true]; simp [flP]
      | false => rw [cond_false, stop g _ acc (by omega), hps]; simp [flP, ptG_nil]
     | some k =>
      rw [Option.isSome_some, cond_true, chk_dec (by omega), hpc k (hk k rfl)]
      cases last with
      | true => rw [cond_true]; simp [flP]
      | false =>
       have hrl : 1 <= r.length := by
        cases r with
        | nil => exact absurd rfl hr0
        | cons c t => simp
       rw [cond_false, stop g _ _ (by simp only [List.length_append, List.length_cons, List.length_nil]; omega), hps]; simp [flP, ptG_nil]
theorem lCut (b s w : List UInt8) (F : Nat) (hw : (w.take (F + s.length)).drop F = s) (hF : F + s.length <= w.length) (hwl : w.length <= 900000) (hb : b.length <= 1000000) (a1 : Int) (κ : LA -> BA -> Int -> Option R) :
  lm_tree_cut (B w) a1 (F : Int) ((F + s.length : Nat) : Int) (B b) κ = κ ((ptG b s none s).map (pcA F)) (B w) a1 := by
 have key : ∀ f, 1000001 < f -> lm_tree_cut.e st_Index lm_bound (B w) a1 (F : Int) ((F + s.length : Nat) : Int) (B b) (lm_tree_cut.L4 st_Index lm_bound κ f) κ = κ ((ptG b s none s).map (pcA F)) (B w) a1 := fun f hf => by
  have := lCut_loop b s w F hw hF hwl hb a1 (F : Int) κ f s none [] (List.suffix_refl _) (by omega) (by simp; omega) (fun k e => by cases e)
  rw [show F + pn s s = F by unfold pn; omega] at this
  exact this
 exact key fuelK (by unfold fuelK; omega)
def hdS (s : List UInt8) : List UInt8 := bl (splitG (B s)).1
theorem hdS_pre (s : List UInt8) : ∃ n, hdS s = s.take n := by
 unfold hdS splitG
 rw [bl_B]
 cases hdG true s with
 | some n => exact ⟨n, rfl⟩
 | none => exact ⟨s.length, by rw [List.take_length]; rfl⟩
theorem hdS_len (s : List UInt8) : (hdS s).length <= s.length := by
 obtain ⟨n, h⟩ := hdS_pre s
 rw [h, List.length_take]; omega
theorem lLimb {w s : List UInt8} {F : Nat} (hw : (w.take (F + s.length)).drop F = s) (hF : F + s.length <= w.length) (hwl : w.length <= 200000) (a1 : Int) (dg : Bool) (κ : BA -> BA -> BA -> LA -> Bool -> BA -> Bool -> BA -> Bool -> BA -> Bool -> BA -> LA -> LA -> Bool -> BA -> Int -> Int -> Int -> Int -> Int -> BA -> Int -> Option R) :
  lm_tree_limb (B w) a1 (F : Int) ((F + s.length : Nat) : Int) dg κ = appH (fun a b c d e f g h i j k l m n o p q r s t u => κ a b c d e f g h i j k l m n o p q r s t u (B w) a1) (B []) (hdV (hdS s) dg) (F : Int) ((F + (hdS s).length : Nat) : Int) ((F + (hdS s).length : Nat) : Int) ((F + s.length : Nat) : Int) 0 := by
 have hl := hdS_len s
 unfold lm_tree_limb lm_tree_limb.e
 rw [chk_and, chk_dec (by omega), chk_and, chk_dec (by omega), chk_dec (by rw [szB]; omega), Int.toNat_natCast, Int.toNat_natCast, extract_B, hw, lSplit_eq (B s) (by rw [bl_B]; omega)]
 have e : (splitG (B s)).1 = B (hdS s) := (B_bl _).symm
 have w1 : IntKind.wrap .i64 ((F : Int) + ((hdS s).length : Int)) = ((F + (hdS s).length : Nat) : Int) := wrap_i64 (by omega) (by omega)
 rw [e, lFields_eq (hdS s) (by omega), szB, w1]
 exact lSays (by omega) _ _ _ _ _ _ _ _ _ _ _ _ _ _ _ _ _ _ _ _
structure LV where
 p : List UInt8
 v : HdV
 a : Nat
 b : Nat
 c : Nat
 d : Nat
 e : Nat
def msgT (x : LV) : Bool := decide (x.v.ty = mimeM) && decide (x.v.sub = mimeR)
def mlt : List UInt8 := [109, 117, 108, 116, 105, 112, 97, 114, 116]
def bndN : List UInt8 := [98, 111, 117, 110, 100, 97, 114, 121]
def valL : List Pm -> List UInt8
 | [] => []
 | p :: r => if p.1 = bndN then p.2 else valL r
def bodyL (w : List UInt8) (x : LV) : List UInt8 := (w.take x.d).drop x.c
def codOK (x : LV) : Bool := !emp x.v.c1 || decide (x.v.c1 = [55, 98, 105, 116]) || decide (x.v.c1 = [56, 98, 105, 116]) || decide (x.v.c1 = [98, 105, 110, 97, 114, 121])
def piG (w : List UInt8) (x : LV) : List (Nat × Nat) :=
 if msgT x then (if codOK x then [(x.c, x.d)] else [])
 else if x.v.ty = mlt /\ 1 <= (valL x.v.ps).length /\ (valL x.v.ps).length <= 70 then (ptG (valL x.v.ps) (bodyL w x) none (bodyL w x)).map fun p => (x.c + p.1, x.c + p.2)
 else []
theorem ptG_len (b s : List UInt8) : ∀ (n : Nat) (frm : Option Nat) (r : List UInt8), r.length <= n -> (ptG b s frm r).length <= r.length + 1
 | n, frm, [], _ => by rw [ptG_nil]; have := flP_len frm s.length; simp; omega
 | 0, _, c :: t, h => by simp at h
 | n + 1, frm, c :: t, h => by
  have hl := lnx_lt c t
  simp only [List.length_cons] at h ⊢
  rw [ptG]
  cases bdL b (lne (c :: t)).1 with
  | none =>
   have := ptG_len b s n frm (lnx (c :: t)) (by omega)
   simp only; omega
  | some last =>
   have h1 := flP_len frm (max (frm.getD 0) (pn s (c :: t) - 2))
   have := ptG_len b s n (some (pn s (lnx (c :: t)))) (lnx (c :: t)) (by omega)
   simp only [List.length_append]
   cases last with
   | true => simp; omega
   | false => simp; omega
def uniq : List Pm -> Prop
 | [] => True
 | p :: r => (∀ q ∈ r, q.1 ≠ p.1) /\ uniq r
theorem uniq_snoc : ∀ {a : List Pm} {p : Pm}, uniq a -> (∀ q ∈ a, q.1 ≠ p.1) -> uniq (a ++ [p])
 | [], p, _, _ => ⟨fun q hq => (by cases hq), trivial⟩
 | x :: a, p, h, h2 => by
  refine ⟨fun q hq => ?_, uniq_snoc h.2 (fun q hq => h2 q (by simp [hq]))⟩
  rcases List.mem_append.1 hq with h3 | h3
  ·exact h.1 q h3
  ·rw [List.mem_singleton] at h3
   subst h3
   exact fun e => h2 x (by simp) e.symm
theorem uniq_prs : ∀ (n : Nat) (a : List Pm) (r : List UInt8), uniq a -> a.length <= 12 -> uniq (prs n a r) /\ (prs n a r).length <= 12
 | 0, a, r, h, h2 => by rw [prs]; exact ⟨h, h2⟩
 | n + 1, a, r, h, h2 => by
  rw [prs]
  by_cases c : a.length < 12
  ·rw [if_pos c]
   cases e : par r with
   | none => exact ⟨h, h2⟩
   | some z =>
    obtain ⟨m, v, r'⟩ := z
    simp only
    cases e2 : a.any (fun p => p.1 == m) with
    | true => rw [if_pos rfl]; exact uniq_prs n a r' h h2
    | false =>
     rw [if_neg (by decide)]
     refine uniq_prs n _ r' (uniq_snoc h fun q hq e3 => ?_) (by simp; omega)
     have := List.any_eq_false.1 e2 q hq
     exact this (by simpa using e3)
  ·rw [if_neg c]; exact ⟨h, h2⟩
theorem uniq_hdV (h : List UInt8) (dg : Bool) : uniq (hdV h dg).ps /\ (hdV h dg).ps.length <= 12 := by
 show uniq (kdG (gV h (⟨#[67, 111, 110, 116, 101, 110, 116, 45, 84, 121, 112, 101]⟩ : BA)) dg).2.2 /\ (kdG (gV h (⟨#[67, 111, 110, 116, 101, 110, 116, 45, 84, 121, 112, 101]⟩ : BA)) dg).2.2.length <= 12
 unfold kdG
 cases kdO (gV h (⟨#[67, 111, 110, 116, 101, 110, 116, 45, 84, 121, 112, 101]⟩ : BA)) with
 | some q => exact uniq_prs _ [] _ trivial (by simp)
 | none =>
  cases dg with
  | true => exact ⟨trivial, by simp⟩
  | false => exact ⟨⟨fun q hq => (by cases hq), trivial⟩, by show csP.length <= 12; decide⟩
theorem valL_no : ∀ {l : List Pm}, (∀ q ∈ l, q.1 ≠ bndN) -> valL l = []
 | [], _ => rfl
 | p :: r, h => by rw [valL, if_neg (h p (by simp))]; exact valL_no fun q hq => h q (by simp [hq])
theorem lPa_loop {w : List UInt8} {x : LV} (hcd : x.c <= x.d) (hd : x.d <= w.length) (hw : w.length <= 200000) (a1 : Int) (κ0 : BA -> Int -> BA -> BA -> BA -> LA -> Bool -> BA -> Bool -> BA -> Bool -> BA -> Bool -> BA -> LA -> LA -> Bool -> BA -> Int -> Int -> Int -> Int -> Int -> Option R) (κ1 : LA -> BA -> Int -> BA -> BA -> BA -> LA -> Bool -> BA -> Bool -> BA -> Bool -> BA -> Bool -> BA -> LA -> LA -> Bool -> BA -> Int -> Int -> Int -> Int -> Int -> Option R) (l : List Pm) (hl : l.length <= 1000000) : ∀ (f i : Nat), i <= l.length -> l.length < i + f -> uniq (l.drop i) ->
  lm_tree_parts.L8 lm_isMessage lm_tree_cut κ0 κ1 f (l.map pmAV) (l.length : Int) (i : Int) (B x.p) (B x.v.ty) (B x.v.sub) (x.v.ps.map pmAV) x.v.i0 (B x.v.i1) x.v.a0 (B x.v.a1) (emp x.v.c1) (B x.v.c1) (emp x.v.p1) (B x.v.p1) (x.v.pp.map pmAV) (rowsS x.v.lg) x.v.w0 (B x.v.w1) (x.a : Int) (x.b : Int) (x.c : Int) (x.d : Int) (x.e : Int) (B w) a1 = if 1 <= (valL (l.drop i)).length /\ (valL (l.drop i)).length <= 70 then κ1 ((ptG (valL (l.drop i)) (bodyL w x) none (bodyL w x)).map (pcA x.c)) (B w) a1 (B x.p) (B x.v.ty) (B x.v.sub) (x.v.ps.map pmAV) x.v.i0 (B x.v.i1) x.v.a0 (B x.v.a1) (emp x.v.c1) (B x.v.c1) (emp x.v.p1) (B x.v.p1) (x.v.pp.map pmAV) (rowsS x.v.lg) x.v.w0 (B x.v.w1) (x.a : Int) (x.b : Int) (x.c : Int) (x.d : Int) (x.e : Int) else κ0 (B w) a1 (B x.p) (B x.v.ty) (B x.v.sub) (x.v.ps.map pmAV) x.v.i0 (B x.v.i1) x.v.a0 (B x.v.a1) (emp x.v.c1) (B x.v.c1) (emp x.v.p1) (B x.v.p1) (x.v.pp.map pmAV) (rowsS x.v.lg) x.v.w0 (B x.v.w1) (x.a : Int) (x.b : Int) (x.c : Int) (x.d : Int) (x.e : Int)
 | 0, i, h1, h2, _ => by omega
 | f + 1, i, h1, h2, hu => by
  have hla : (l.map pmAV).length = l.length := List.length_map ..
  have hbl : (bodyL w x).length = x.d - x.c := by unfold bodyL; rw [List.length_drop, List.length_take]; omega
  rw [lm_tree_parts.L8, lm_tree_parts.t8, hla]
  have hw1 : IntKind.wrap .i64 ((i : Int) + 1) = ((i + 1 : Nat) : Int) := wrap_i64 (by omega) (by omega)
  cases hdr : l.drop i with
  | nil => have := drop_nil hdr; rw [cond_dec' (by omega), valL, if_neg (by simp)]
  | cons a r =>
   obtain ⟨g1, g2, g3⟩ := drop_get hdr
   rw [hdr] at hu
   have hr : rdA (l.map pmAV) (i : Int) = pmAV a := rdA_get (by rw [List.getElem?_map, g1]; rfl)
   have e0 : ((pmAV a).fld 0).s = B a.1 := rfl
   have e1 : ((pmAV a).fld 1).s = B a.2 := rfl
   rw [cond_dec (by omega), chk_and, chk_dec (by omega), chk_dec (by omega), hr, e0, e1, show (⟨#[98, 111, 117, 110, 100, 97, 114, 121]⟩ : BA) = B bndN from rfl, decide_eq_decide.2 (B_inj (a := a.1) (b := bndN)), hw1, lPa_loop hcd hd hw a1 κ0 κ1 l hl f (i + 1) (by omega) (by omega) (by rw [g3]; exact hu.2), g3, valL, szB]
   by_cases e : a.1 = bndN
   ·have hno : valL r = [] := valL_no fun q hq e3 => hu.1 q hq (e3.trans e.symm)
    rw [decide_eq_true e, cond_true, if_pos e, hno]
    by_cases c1 : a.2.length >= 1
    ·rw [cond_dec (by omega)]
     by_cases c2 : a.2.length <= 70
     ·rw [cond_dec (by omega), if_pos ⟨c1, c2⟩]
      have hcut := lCut (R := R) a.2 (bodyL w x) w x.c (by rw [hbl]; show _ = (w.take x.d).drop x.c; rw [show x.c + (x.d - x.c) = x.d by omega]) (by omega) (by omega) (by omega) a1
      rw [hbl, show x.c + (x.d - x.c) = x.d by omega] at hcut
      rw [hcut]
     ·rw [cond_dec' (by omega), if_neg (by simp), if_neg (by omega)]
    ·rw [cond_dec' (by omega), if_neg (by simp), if_neg (by omega)]
   ·rw [decide_eq_false e, cond_false, if_neg e]
theorem lIsM (x : LV) (κ : Bool -> BA -> BA -> BA -> LA -> Bool -> BA -> Bool -> BA -> Bool -> BA -> Bool -> BA -> LA -> LA -> Bool -> BA -> Int -> Int -> Int -> Int -> Int -> Option R) : lm_isMessage (B x.p) (B x.v.ty) (B x.v.sub) (x.v.ps.map pmAV) x.v.i0 (B x.v.i1) x.v.a0 (B x.v.a1) (emp x.v.c1) (B x.v.c1) (emp x.v.p1) (B x.v.p1) (x.v.pp.map pmAV) (rowsS x.v.lg) x.v.w0 (B x.v.w1) (x.a : Int) (x.b : Int) (x.c : Int) (x.d : Int) (x.e : Int) κ = κ (msgT x) (B x.p) (B x.v.ty) (B x.v.sub) (x.v.ps.map pmAV) x.v.i0 (B x.v.i1) x.v.a0 (B x.v.a1) (emp x.v.c1) (B x.v.c1) (emp x.v.p1) (B x.v.p1) (x.v.pp.map pmAV) (rowsS x.v.lg) x.v.w0 (B x.v.w1) (x.a : Int) (x.b : Int) (x.c : Int) (x.d : Int) (x.e : Int) := by
 have hm : ∀ a b : List UInt8, decide (B a = B b) = decide (a = b) := fun a b => decide_eq_decide.2 B_inj
 unfold lm_isMessage lm_isMessage.e
 rw [show (⟨#[109, 101, 115, 115, 97, 103, 101]⟩ : BA) = B mimeM from rfl, show (⟨#[114, 102, 99, 56, 50, 50]⟩ : BA) = B mimeR from rfl, hm, hm]
 unfold msgT
 cases decide (x.v.ty = mimeM) with
 | true => rw [cond_true, Bool.true_and]
 | false => rw [cond_false, Bool.false_and]
theorem lPa {w : List UInt8} {x : LV} (hcd : x.c <= x.d) (hd : x.d <= w.length) (hw : w.length <= 200000) (hu : uniq x.v.ps) (hps : x.v.ps.length <= 1000000) (a1 : Int) (κ0 : BA -> Int -> BA -> BA -> BA -> LA -> Bool -> BA -> Bool -> BA -> Bool -> BA -> Bool -> BA -> LA -> LA -> Bool -> BA -> Int -> Int -> Int -> Int -> Int -> Option R) (κ1 : LA -> BA -> Int -> BA -> BA -> BA -> LA -> Bool -> BA -> Bool -> BA -> Bool -> BA -> Bool -> BA -> LA -> LA -> Bool -> BA -> Int -> Int -> Int -> Int -> Int -> Option R) (hκ : κ0 (B w) a1 (B x.p) (B x.v.ty) (B x.v.sub) (x.v.ps.map pmAV) x.v.i0 (B x.v.i1) x.v.a0 (B x.v.a1) (emp x.v.c1) (B x.v.c1) (emp x.v.p1) (B x.v.p1) (x.v.pp.map pmAV) (rowsS x.v.lg) x.v.w0 (B x.v.w1) (x.a : Int) (x.b : Int) (x.c : Int) (x.d : Int) (x.e : Int) = κ1 [] (B w) a1 (B x.p) (B x.v.ty) (B x.v.sub) (x.v.ps.map pmAV) x.v.i0 (B x.v.i1) x.v.a0 (B x.v.a1) (emp x.v.c1) (B x.v.c1) (emp x.v.p1) (B x.v.p1) (x.v.pp.map pmAV) (rowsS x.v.lg) x.v.w0 (B x.v.w1) (x.a : Int) (x.b : Int) (x.c : Int) (x.d : Int) (x.e : Int)) :
  lm_tree_parts (B w) a1 (B x.p) (B x.v.ty) (B x.v.sub) (x.v.ps.map pmAV) x.v.i0 (B x.v.i1) x.v.a0 (B x.v.a1) (emp x.v.c1) (B x.v.c1) (emp x.v.p1) (B x.v.p1) (x.v.pp.map pmAV) (rowsS x.v.lg) x.v.w0 (B x.v.w1) (x.a : Int) (x.b : Int) (x.c : Int) (x.d : Int) (x.e : Int) κ0 κ1 = κ1 ((piG w x).map (pcA 0)) (B w) a1 (B x.p) (B x.v.ty) (B x.v.sub) (x.v.ps.map pmAV) x.v.i0 (B x.v.i1) x.v.a0 (B x.v.a1) (emp x.v.c1) (B x.v.c1) (emp x.v.p1) (B x.v.p1) (x.v.pp.map pmAV) (rowsS x.v.lg) x.v.w0 (B x.v.w1) (x.a : Int) (x.b : Int) (x.c : Int) (x.d : Int) (x.e : Int) := by
 have hm : ∀ a b : List UInt8, decide (B a = B b) = decide (a = b) := fun a b => decide_eq_decide.2 B_inj
 have hla : (x.v.ps.map pmAV).length = x.v.ps.length := List.length_map ..
 have key : ∀ f, 1000000 < f -> lm_tree_parts.e lm_isMessage lm_tree_cut (B w) a1 (B x.p) (B x.v.ty) (B x.v.sub) (x.v.ps.map pmAV) x.v.i0 (B x.v.i1) x.v.a0 (B x.v.a1) (emp x.v.c1) (B x.v.c1) (emp x.v.p1) (B x.v.p1) (x.v.pp.map pmAV) (rowsS x.v.lg) x.v.w0 (B x.v.w1) (x.a : Int) (x.b : Int) (x.c : Int) (x.d : Int) (x.e : Int) (lm_tree_parts.L8 lm_isMessage lm_tree_cut κ0 κ1 f) κ0 κ1 = κ1 ((piG w x).map (pcA 0)) (B w) a1 (B x.p) (B x.v.ty) (B x.v.sub) (x.v.ps.map pmAV) x.v.i0 (B x.v.i1) x.v.a0 (B x.v.a1) (emp x.v.c1) (B x.v.c1) (emp x.v.p1) (B x.v.p1) (x.v.pp.map pmAV) (rowsS x.v.lg) x.v.w0 (B x.v.w1) (x.a : Int) (x.b : Int) (x.c : Int) (x.d : Int) (x.e : Int) := by
  intro f hf
  unfold lm_tree_parts.e
  rw [lIsM]
  unfold piG
  cases hmsg : msgT x with
  | true =>
   rw [cond_true, if_pos rfl, show (⟨#[55, 98, 105, 116]⟩ : BA) = B [55, 98, 105, 116] from rfl, show (⟨#[56, 98, 105, 116]⟩ : BA) = B [56, 98, 105, 116] from rfl, show (⟨#[98, 105, 110, 97, 114, 121]⟩ : BA) = B [98, 105, 110, 97, 114, 121] from rfl, hm, hm, hm]
   have one : ([(x.c, x.d)] : List (Nat × Nat)).map (pcA 0) = [AV.agg [AV.int (x.c : Int), AV.int (x.d : Int)]] := by
    show [pcA 0 (x.c, x.d)] = _
    unfold pcA
    rw [Nat.zero_add, Nat.zero_add]
   unfold codOK
   cases he : emp x.v.c1 with
   | false => simp only [cond_false, Bool.not_false, Bool.true_or, if_true, one, he]
   | true =>
    rw [cond_true]
    by_cases g1 : x.v.c1 = [55, 98, 105, 116]
    ·simp only [decide_eq_true g1, Bool.not_true, cond_false, Bool.false_or, Bool.true_or, if_true, one, he]
    ·by_cases g2 : x.v.c1 = [56, 98, 105, 116]
     ·simp only [decide_eq_true g2, decide_eq_false g1, Bool.not_true, Bool.not_false, cond_false, cond_true, Bool.false_or, Bool.true_or, if_true, one, he]
     ·by_cases g3 : x.v.c1 = [98, 105, 110, 97, 114, 121]
      ·simp only [decide_eq_true g3, decide_eq_false g1, decide_eq_false g2, Bool.not_true, Bool.not_false, cond_false, cond_true, Bool.false_or, if_true, one, he]
      ·rw [he] at hκ
       rw [decide_eq_false g3, decide_eq_false g1, decide_eq_false g2]
       exact hκ
  | false =>
   rw [cond_false, if_neg (by decide), show (⟨#[109, 117, 108, 116, 105, 112, 97, 114, 116]⟩ : BA) = B mlt from rfl, hm, hla]
   by_cases h1 : x.v.ty = mlt
   ·rw [decide_eq_true h1, Bool.not_true, cond_false]
    refine (lPa_loop hcd hd hw a1 κ0 κ1 x.v.ps hps f 0 (by omega) (by omega) (by rw [List.drop_zero]; exact hu)).trans ?_
    rw [List.drop_zero]
    by_cases h2 : 1 <= (valL x.v.ps).length /\ (valL x.v.ps).length <= 70
    ·rw [if_pos h2, if_pos ⟨h1, h2.1, h2.2⟩, List.map_map]
     congr 1
     refine List.map_congr_left fun p _ => ?_
     show pcA x.c p = pcA 0 (x.c + p.1, x.c + p.2)
     unfold pcA
     rw [Nat.zero_add, Nat.zero_add]
    ·rw [if_neg h2, if_neg (fun h => h2 ⟨h.2.1, h.2.2⟩)]; exact hκ
   ·rw [decide_eq_false h1, Bool.not_false, cond_true, if_neg (fun h => h1 h.1)]; exact hκ
 exact key fuelK (by unfold fuelK; omega)
def endsL : List UInt8 -> Nat
 | [] => 0
 | c :: t => (if c = 13 /\ t.head? = some 10 then 1 else 0) + endsL t
theorem ends_lne : ∀ (r : List UInt8), endsL r = match (lne r).2 with
  | none => 0
  | some u => 1 + endsL u
 | [] => rfl
 | c :: t => by
  by_cases e : c = 13 /\ t.head? = some 10
  ·have e' := e
   obtain ⟨rfl, e2⟩ := e
   rw [hd10 e2, lne_cr, endsL, if_pos ⟨rfl, rfl⟩, endsL, if_neg (by simp)]
   simp only; omega
  ·rw [lne_ot e, endsL, if_neg e, ends_lne t, Nat.zero_add]
theorem lCo_loop (κ : Int -> Option R) : ∀ (f : Nat) (r : List UInt8) (n : Nat), r.length < f -> n + r.length <= 1000000 -> st_Count.L6 u8_RuneCountInString st_Index κ f (B r) (⟨#[13, 10]⟩ : BA) (n : Int) = κ ((n + endsL r : Nat) : Int)
 | 0, r, n, hf, _ => by omega
 | f + 1, r, n, hf, hn => by
  have hsz : (((⟨#[13, 10]⟩ : BA).size : Nat) : Int) = 2 := rfl
  rw [st_Count.L6, st_Count.t6, show (⟨#[13, 10]⟩ : BA) = B [13, 10] from rfl, index_eq r _ (by omega), lne_index, ends_lne]
  rw [show B [13, 10] = (⟨#[13, 10]⟩ : BA) from rfl, hsz]
  cases e : (lne r).2 with
  | none => simp only; rw [beq_pos rfl]; rfl
  | some u =>
   have hsp := lne_some e
   have hul : (lne r).1.length + 2 + u.length = r.length := by
    have := congrArg List.length hsp
    simp only [List.length_append, List.length_cons] at this; omega
   have w1 : IntKind.wrap .i64 (((lne r).1.length : Int) + 2) = (((lne r).1.length + 2 : Nat) : Int) := wrap_i64 (by omega) (by omega)
   have w2 : IntKind.wrap .i64 ((n : Int) + 1) = ((n + 1 : Nat) : Int) := wrap_i64 (by omega) (by omega)
   simp only
   rw [beq_neg (by omega), cond_false, w1, w2, szB, chk_and, chk_dec (by omega), chk_and, chk_dec (by omega), chk_dec (by omega), Int.toNat_natCast, Int.toNat_natCast, extract_B, List.take_length]
   have : r.drop ((lne r).1.length + 2) = u := by
    have h2 : ((lne r).1 ++ 13 :: 10 :: u).drop ((lne r).1.length + 2) = u := by rw [<- List.drop_drop, List.drop_left]; rfl
    rw [<- hsp] at h2
    exact h2
   rw [this, lCo_loop κ f u (n + 1) (by omega) (by omega)]
   congr 2; omega
theorem lCo (s : List UInt8) (hs : s.length <= 900000) (κ : Int -> Option R) : st_Count (B s) (⟨#[13, 10]⟩ : BA) κ = κ (endsL s : Int) := by
 have key : ∀ f, 1000000 < f -> st_Count.e u8_RuneCountInString st_Index (B s) (⟨#[13, 10]⟩ : BA) (st_Count.L6 u8_RuneCountInString st_Index κ f) κ = κ (endsL s : Int) := fun f hf => by
  have := lCo_loop κ f s 0 (by omega) (by omega)
  rw [Nat.zero_add] at this
  exact this
 exact key fuelK (by unfold fuelK; omega)
def decL (k : Nat) : List UInt8 := if k < 10 then [UInt8.ofNat (48 + k)] else [49, UInt8.ofNat (38 + k)]
theorem itoa_1 (κ : BA -> Option R) : sc_Itoa1 1 κ = κ (⟨#[49]⟩ : BA) := by kernel_rfl
theorem itoa_2 (κ : BA -> Option R) : sc_Itoa1 2 κ = κ (⟨#[50]⟩ : BA) := by kernel_rfl
theorem itoa_3 (κ : BA -> Option R) : sc_Itoa1 3 κ = κ (⟨#[51]⟩ : BA) := by kernel_rfl
theorem itoa_4 (κ : BA -> Option R) : sc_Itoa1 4 κ = κ (⟨#[52]⟩ : BA) := by kernel_rfl
theorem itoa_5 (κ : BA -> Option R) : sc_Itoa1 5 κ = κ (⟨#[53]⟩ : BA) := by kernel_rfl
theorem itoa_6 (κ : BA -> Option R) : sc_Itoa1 6 κ = κ (⟨#[54]⟩ : BA) := by kernel_rfl
theorem itoa_7 (κ : BA -> Option R) : sc_Itoa1 7 κ = κ (⟨#[55]⟩ : BA) := by kernel_rfl
theorem itoa_8 (κ : BA -> Option R) : sc_Itoa1 8 κ = κ (⟨#[56]⟩ : BA) := by kernel_rfl
theorem itoa_9 (κ : BA -> Option R) : sc_Itoa1 9 κ = κ (⟨#[57]⟩ : BA) := by kernel_rfl
theorem itoa_10 (κ : BA -> Option R) : sc_Itoa1 10 κ = κ (⟨#[49, 48]⟩ : BA) := by kernel_rfl
theorem itoa_11 (κ : BA -> Option R) : sc_Itoa1 11 κ = κ (⟨#[49, 49]⟩ : BA) := by kernel_rfl
theorem itoa_12 (κ : BA -> Option R) : sc_Itoa1 12 κ = κ (⟨#[49, 50]⟩ : BA) := by kernel_rfl
theorem itoa_13 (κ : BA -> Option R) : sc_Itoa1 13 κ = κ (⟨#[49, 51]⟩ : BA) := by kernel_rfl
theorem itoa_14 (κ : BA -> Option R) : sc_Itoa1 14 κ = κ (⟨#[49, 52]⟩ : BA) := by kernel_rfl
theorem itoa_15 (κ : BA -> Option R) : sc_Itoa1 15 κ = κ (⟨#[49, 53]⟩ : BA) := by kernel_rfl
theorem itoa_16 (κ : BA -> Option R) : sc_Itoa1 16 κ = κ (⟨#[49, 54]⟩ : BA) := by kernel_rfl
theorem itoa_k (κ : BA -> Option R) : ∀ k : Nat, 1 <= k -> k <= 16 -> sc_Itoa1 (k : Int) κ = κ (B (decL k))
 | 0, h, _ => by omega
 | 1, _, _ => itoa_1 κ
 | 2, _, _ => itoa_2 κ
 | 3, _, _ => itoa_3 κ
 | 4, _, _ => itoa_4 κ
 | 5, _, _ => itoa_5 κ
 | 6, _, _ => itoa_6 κ
 | 7, _, _ => itoa_7 κ
 | 8, _, _ => itoa_8 κ
 | 9, _, _ => itoa_9 κ
 | 10, _, _ => itoa_10 κ
 | 11, _, _ => itoa_11 κ
 | 12, _, _ => itoa_12 κ
 | 13, _, _ => itoa_13 κ
 | 14, _, _ => itoa_14 κ
 | 15, _, _ => itoa_15 κ
 | 16, _, _ => itoa_16 κ
 | k + 17, _, h => by omega
theorem decL_len (k : Nat) : (decL k).length <= 2 := by unfold decL; split <;> simp
def und (p : List UInt8) (k : Nat) : List UInt8 := if p = [] then decL k else p ++ 46 :: decL k
theorem und_len (p : List UInt8) (k : Nat) : (und p k).length <= p.length + 3 := by
 have := decL_len k
 unfold und
 split
 ·omega
 ·simp; omega
def plcG (x : LV) (is : Bool) (k : Nat) : List UInt8 := if msgT x then (if is then und x.p k else x.p) else und x.p k
theorem lIsMf (x : LV) (k : LA) (κ : Bool -> BA -> BA -> BA -> LA -> Bool -> BA -> Bool -> BA -> Bool -> BA -> Bool -> BA -> LA -> LA -> Bool -> BA -> Int -> Int -> Int -> Int -> Int -> LA -> Option R) : lm_isMessage2 (B x.p) (B x.v.ty) (B x.v.sub) (x.v.ps.map pmAV) x.v.i0 (B x.v.i1) x.v.a0 (B x.v.a1) (emp x.v.c1) (B x.v.c1) (emp x.v.p1) (B x.v.p1) (x.v.pp.map pmAV) (rowsS x.v.lg) x.v.w0 (B x.v.w1) (x.a : Int) (x.b : Int) (x.c : Int) (x.d : Int) (x.e : Int) k κ = κ (msgT x) (B x.p) (B x.v.ty) (B x.v.sub) (x.v.ps.map pmAV) x.v.i0 (B x.v.i1) x.v.a0 (B x.v.a1) (emp x.v.c1) (B x.v.c1) (emp x.v.p1) (B x.v.p1) (x.v.pp.map pmAV) (rowsS x.v.lg) x.v.w0 (B x.v.w1) (x.a : Int) (x.b : Int) (x.c : Int) (x.d : Int) (x.e : Int) k := by
 have hm : ∀ a b : List UInt8, decide (B a = B b) = decide (a = b) := fun a b => decide_eq_decide.2 B_inj
 unfold lm_isMessage2 lm_isMessage2.e
 rw [show (⟨#[109, 101, 115, 115, 97, 103, 101]⟩ : BA) = B mimeM from rfl, show (⟨#[114, 102, 99, 56, 50, 50]⟩ : BA) = B mimeR from rfl, hm, hm]
 unfold msgT
 cases decide (x.v.ty = mimeM) with
 | true => rw [cond_true, Bool.true_and]
 | false => rw [cond_false, Bool.false_and]
theorem lIsMr (x : LV) (k : LA) (κ : Bool -> BA -> BA -> BA -> LA -> Bool -> BA -> Bool -> BA -> Bool -> BA -> Bool -> BA -> LA -> LA -> Bool -> BA -> Int -> Int -> Int -> Int -> Int -> LA -> Option R) : lm_isMessage1 (B x.p) (B x.v.ty) (B x.v.sub) (x.v.ps.map pmAV) x.v.i0 (B x.v.i1) x.v.a0 (B x.v.a1) (emp x.v.c1) (B x.v.c1) (emp x.v.p1) (B x.v.p1) (x.v.pp.map pmAV) (rowsS x.v.lg) x.v.w0 (B x.v.w1) (x.a : Int) (x.b : Int) (x.c : Int) (x.d : Int) (x.e : Int) k κ = κ (msgT x) (B x.p) (B x.v.ty) (B x.v.sub) (x.v.ps.map pmAV) x.v.i0 (B x.v.i1) x.v.a0 (B x.v.a1) (emp x.v.c1) (B x.v.c1) (emp x.v.p1) (B x.v.p1) (x.v.pp.map pmAV) (rowsS x.v.lg) x.v.w0 (B x.v.w1) (x.a : Int) (x.b : Int) (x.c : Int) (x.d : Int) (x.e : Int) k := by
 have hm : ∀ a b : List UInt8, decide (B a = B b) = decide (a = b) := fun a b => decide_eq_decide.2 B_inj
 unfold lm_isMessage1 lm_isMessage1.e
 rw [show (⟨#[109, 101, 115, 115, 97, 103, 101]⟩ : BA) = B mimeM from rfl, show (⟨#[114, 102, 99, 56, 50, 50]⟩ : BA) = B mimeR from rfl, hm, hm]
 unfold msgT
 cases decide (x.v.ty = mimeM) with
 | true => rw [cond_true, Bool.true_and]
 | false => rw [cond_false, Bool.false_and]
theorem lPlc (x : LV) (hp : x.p.length <= 1000000) (l : LA) (deep : Nat) (ins : Bool) (k : Nat) (h1 : 1 <= k) (h2 : k <= 16) (κ : BA -> BA -> BA -> BA -> LA -> Bool -> BA -> Bool -> BA -> Bool -> BA -> Bool -> BA -> LA -> LA -> Bool -> BA -> Int -> Int -> Int -> Int -> Int -> LA -> Option R) :
  lm_place (B x.p) (B x.v.ty) (B x.v.sub) (x.v.ps.map pmAV) x.v.i0 (B x.v.i1) x.v.a0 (B x.v.a1) (emp x.v.c1) (B x.v.c1) (emp x.v.p1) (B x.v.p1) (x.v.pp.map pmAV) (rowsS x.v.lg) x.v.w0 (B x.v.w1) (x.a : Int) (x.b : Int) (x.c : Int) (x.d : Int) (x.e : Int) l (deep : Int) ins (k : Int) κ = κ (B (plcG x (ins || decide (deep = 0)) k)) (B x.p) (B x.v.ty) (B x.v.sub) (x.v.ps.map pmAV) x.v.i0 (B x.v.i1) x.v.a0 (B x.v.a1) (emp x.v.c1) (B x.v.c1) (emp x.v.p1) (B x.v.p1) (x.v.pp.map pmAV) (rowsS x.v.lg) x.v.w0 (B x.v.w1) (x.a : Int) (x.b : Int) (x.c : Int) (x.d : Int) (x.e : Int) l := by
 have hd := decL_len k
 have low : ∀ κ : BA -> Option R, (bif decide (B x.p = ⟨#[]⟩) then sc_Itoa1 (k : Int) κ else (chk (decide ((B x.p).size + (⟨#[46]⟩ : BA).size <= 9223372036854775807)) (sc_Itoa1 (k : Int) (fun r => (chk (decide ((B x.p ++ (⟨#[46]⟩ : BA)).size + r.size <= 9223372036854775807)) (κ ((B x.p ++ (⟨#[46]⟩ : BA)) ++ r))))))) = κ (B (und x.p k)) := by
  intro κ
  unfold und
  rw [empty_B, emp6]
  by_cases c : x.p = []
  ·rw [decide_eq_true c, cond_true, if_pos c, itoa_k _ k h1 h2]
  ·rw [decide_eq_false c, cond_false, if_neg c, show (⟨#[46]⟩ : BA) = B [46] from rfl, size_B, size_B, chk_dec (by simp only [List.length_cons, List.length_nil]; omega), itoa_k _ k h1 h2, append_B, size_B, size_B, chk_dec (by simp only [List.length_append, List.length_cons, List.length_nil]; omega), append_B, List.append_assoc]; rfl
 unfold lm_place lm_place.e
 rw [lIsMf]
 unfold plcG
 have low' := low (fun y => κ y (B x.p) (B x.v.ty) (B x.v.sub) (x.v.ps.map pmAV) x.v.i0 (B x.v.i1) x.v.a0 (B x.v.a1) (emp x.v.c1) (B x.v.c1) (emp x.v.p1) (B x.v.p1) (x.v.pp.map pmAV) (rowsS x.v.lg) x.v.w0 (B x.v.w1) (x.a : Int) (x.b : Int) (x.c : Int) (x.d : Int) (x.e : Int) l)
 cases hm : msgT x with
 | false =>
  rw [cond_false, if_neg (by decide)]
  exact low'
 | true =>
  rw [cond_true, if_pos rfl]
  by_cases hdp : deep = 0
  ·rw [cond_dec' (by omega), decide_eq_true hdp, Bool.or_true, if_pos rfl]
   exact low'
  ·rw [cond_dec (by omega), decide_eq_false hdp, Bool.or_false]
   cases ins with
   | false => rw [Bool.not_false, cond_true, if_neg (by decide)]
   | true =>
    rw [Bool.not_true, cond_false, if_pos rfl]
    exact low'
mutual
theorem eqA_refl : ∀ (a : AV), eqA a a = true
 | .no => rfl
 | .int x => by show decide (x = x) = true; simp
 | .bool x => by show (x == x) = true; simp
 | .str x => by show decide (x = x) = true; simp
 | .sl x => eqAs_refl x
 | .agg x => eqAs_refl x
theorem eqAs_refl : ∀ (a : LA), eqAs a a = true
 | [] => rfl
 | x :: l => by show (eqA x x && eqAs l l) = true; rw [eqA_refl x, eqAs_refl l]; rfl
end
def goodS : SV -> Bool
 | .no | .undef | .int _ _ | .bool _ | .str _ | .nil | .ro _ _ _ | .own _ | .ptr _ _ => true
 | _ => false
theorem eqS_refl {x : SV} (h : goodS x = true) : eqS x x = true := by
 cases x <;> first | rfl | (cases h; done) | skip
 ·show (decide (_ = _) && decide (_ = _)) = true; simp
 ·show (_ == _) = true; simp
 ·show decide (_ = _) = true; simp
 ·show (Nat.beq _ _ && (eqAs _ _ && (_ == _))) = true; rw [Nat.beq_refl, eqAs_refl]; simp
 ·show Nat.beq _ _ = true; rw [Nat.beq_refl]
 ·show (Nat.beq _ _ && Nat.beq _ _) = true; rw [Nat.beq_refl, Nat.beq_refl]; rfl
def goodSs : List SV -> Bool
 | [] => true
 | x :: l => bif goodS x then goodSs l else false
theorem eqSs_refl : ∀ {l : List SV}, goodSs l = true -> eqSs l l = true
 | [], _ => rfl
 | x :: l, h => by
  rw [goodSs] at h
  cases hx : goodS x with
  | false => rw [hx] at h; cases h
  | true =>
   rw [hx, cond_true] at h
   show (eqS x x && eqSs l l) = true
   rw [eqS_refl hx, eqSs_refl h]; rfl
def goodO : Obj -> Bool
 | .row _ _ _ => true
 | .var _ l => goodSs l
 | _ => false
def goodOs : List (Nat × Obj) -> Bool
 | [] => true
 | (_, o) :: l => bif goodO o then goodOs l else false
theorem eqO_refl {o : Obj} (h : goodO o = true) : eqO o o = true := by
 cases o <;> first | (cases h; done) | skip
 ·show (Nat.beq _ _ && (eqAs _ _ && (_ == _))) = true; rw [Nat.beq_refl, eqAs_refl]; simp
 ·show (Nat.beq _ _ && eqSs _ _) = true
  rw [Nat.beq_refl, eqSs_refl h]; rfl
theorem eqOs_refl : ∀ {l : List (Nat × Obj)}, goodOs l = true -> eqOs l l = true
 | [], _ => rfl
 | (n, o) :: l, h => by
  rw [goodOs] at h
  cases hx : goodO o with
  | false => rw [hx] at h; cases h
  | true =>
   rw [hx, cond_true] at h
   show (Nat.beq n n && (eqO o o && eqOs l l)) = true
   rw [Nat.beq_refl, eqO_refl hx, eqOs_refl h]; rfl
theorem eqSt_refl {s : St} (h1 : goodSs s.slots = true) (h2 : goodOs s.objs = true) : eqSt s s = true := by
 show (eqSs s.slots s.slots && (eqOs s.objs s.objs && Nat.beq s.next s.next)) = true
 rw [eqSs_refl h1, eqOs_refl h2, Nat.beq_refl]; rfl
theorem setA_snoc (l : LA) (x y : AV) : setA (l ++ [x]) (l.length : Int) y = l ++ [y] := setA_at l x y [] l.length rfl
def limbAV (y : LV) (k : LA) : AV := .agg [.str (B y.p), .str (B y.v.ty), .str (B y.v.sub), .sl (y.v.ps.map pmAV), .bool y.v.i0, .str (B y.v.i1), .bool y.v.a0, .str (B y.v.a1), .bool (emp y.v.c1), .str (B y.v.c1), .bool (emp y.v.p1), .str (B y.v.p1), .sl (y.v.pp.map pmAV), .sl (rowsS y.v.lg), .bool y.v.w0, .str (B y.v.w1), .int (y.a : Int), .int (y.b : Int), .int (y.c : Int), .int (y.d : Int), .int (y.e : Int), .sl k]
def appT : List UInt8 := [97, 112, 112, 108, 105, 99, 97, 116, 105, 111, 110]
def octT : List UInt8 := [111, 99, 116, 101, 116, 45, 115, 116, 114, 101, 97, 109]
def digT : List UInt8 := [100, 105, 103, 101, 115, 116]
def offL (x : LV) : LV := { x with v := { x.v with ty := appT, sub := octT, ps := [] } }
def dgG (x : LV) : Bool := decide (x.v.ty = mlt) && decide (x.v.sub = digT)
def finG (w : List UInt8) (x : LV) (em : Bool) : LV :=
 if em then (if x.v.ty = mimeT then { x with e := endsL (bodyL w x) } else if msgT x = true ∨ x.v.ty = mlt then offL x else x)
 else (if msgT x then { x with e := endsL (bodyL w x) } else x)
def sliL (w : List UInt8) (q : Nat × Nat) : List UInt8 := (w.take q.2).drop q.1
def kidL (w : List UInt8) (q : Nat × Nat) (p : List UInt8) (dg : Bool) : LV where
 p := p
 v := hdV (hdS (sliL w q)) dg
 a := q.1
 b := q.1 + (hdS (sliL w q)).length
 c := q.1 + (hdS (sliL w q)).length
 d := q.2
 e := 0
def kidsG (rec : LV -> Nat -> LV × LA × Nat) (w : List UInt8) (plc : Nat -> List UInt8) (dg : Bool) : Nat -> LA -> Nat -> List (Nat × Nat) -> LA × Nat
 | _, acc, cnt, [] => (acc, cnt)
 | i, acc, cnt, q :: r => kidsG rec w plc dg (i + 1) (acc ++ [limbAV (rec (kidL w q (plc (i + 1)) dg) cnt).1 (rec (kidL w q (plc (i + 1)) dg) cnt).2.1]) (rec (kidL w q (plc (i + 1)) dg) cnt).2.2 r
def opG (w : List UInt8) : Nat -> LV -> Nat -> Bool -> Nat -> LV × LA × Nat
 | 0, x, _, _, cnt => (x, [], cnt)
 | n + 1, x, deep, is, cnt =>
  if deep < 5 /\ cnt + (piG w x).length <= 16 then
   (finG w x (kidsG (fun y c => opG w n y (deep + 1) (msgT x) c) w (plcG x is) (dgG x) 0 [] (cnt + (piG w x).length) (piG w x)).1.isEmpty,
    kidsG (fun y c => opG w n y (deep + 1) (msgT x) c) w (plcG x is) (dgG x) 0 [] (cnt + (piG w x).length) (piG w x))
  else (finG w x true, [], cnt)
def okL (w : List UInt8) (x : LV) : Prop := x.c <= x.d /\ x.d <= w.length /\ uniq x.v.ps /\ x.v.ps.length <= 12
theorem sliL_len {w : List UInt8} {q : Nat × Nat} (h1 : q.1 <= q.2) (h2 : q.2 <= w.length) : (sliL w q).length = q.2 - q.1 := by
 unfold sliL; rw [List.length_drop, List.length_take]; omega
theorem kid_ok {w : List UInt8} {q : Nat × Nat} (h1 : q.1 <= q.2) (h2 : q.2 <= w.length) (p : List UInt8) (dg : Bool) : okL w (kidL w q p dg) := by
 have h3 := sliL_len h1 h2
 have h4 := hdS_len (sliL w q)
 have h5 := uniq_hdV (hdS (sliL w q)) dg
 refine ⟨?_, h2, h5.1, h5.2⟩
 show q.1 + (hdS (sliL w q)).length <= q.2
 omega
theorem piG_in {w : List UInt8} {x : LV} (hw : w.length <= 200000) (h : okL w x) : ∀ q ∈ piG w x, q.1 <= q.2 /\ q.2 <= w.length := by
 obtain ⟨h1, h2, _, _⟩ := h
 have hbl : (bodyL w x).length = x.d - x.c := by unfold bodyL; rw [List.length_drop, List.length_take]; omega
 intro q hq
 unfold piG at hq
 split at hq
 ·split at hq
  ·rw [List.mem_singleton] at hq
   subst hq
   exact ⟨h1, h2⟩
  ·cases hq
 ·split at hq
  ·obtain ⟨p, hp, rfl⟩ := List.mem_map.1 hq
   have := ptG_in (valL x.v.ps) (bodyL w x) (by omega) _ none (bodyL w x) (Nat.le_refl _) (List.suffix_refl _) (fun k e => by cases e) p hp
   simp only
   omega
  ·cases hq
theorem kids_cnt {rec : LV -> Nat -> LV × LA × Nat} {w : List UInt8} (hrec : ∀ y c, c <= 16 -> (rec y c).2.2 <= 16) (plc : Nat -> List UInt8) (dg : Bool) : ∀ (r : List (Nat × Nat)) (i : Nat) (acc : LA) (cnt : Nat), cnt <= 16 -> (kidsG rec w plc dg i acc cnt r).2 <= 16
 | [], _, _, cnt, h => h
 | q :: r, i, acc, cnt, h => by
  rw [kidsG]
  exact kids_cnt hrec plc dg r _ _ _ (hrec _ _ h)
theorem op_cnt (w : List UInt8) : ∀ (n : Nat) (x : LV) (deep : Nat) (is : Bool) (cnt : Nat), cnt <= 16 -> (opG w n x deep is cnt).2.2 <= 16
 | 0, _, _, _, _, h => h
 | n + 1, x, deep, is, cnt, h => by
  rw [opG]
  split
  ·rename_i c
   exact kids_cnt (fun y c h => op_cnt w n y _ _ c h) _ _ _ _ _ _ c.2
  ·exact h
theorem kids_len {rec : LV -> Nat -> LV × LA × Nat} {w : List UInt8} (plc : Nat -> List UInt8) (dg : Bool) : ∀ (r : List (Nat × Nat)) (i : Nat) (acc : LA) (cnt : Nat), (kidsG rec w plc dg i acc cnt r).1.length = acc.length + r.length
 | [], _, _, cnt => rfl
 | q :: r, i, acc, cnt => by
  rw [kidsG, kids_len plc dg r]
  simp; omega
theorem plc_len (x : LV) (is : Bool) (k : Nat) : (plcG x is k).length <= x.p.length + 3 := by
 have := und_len x.p k
 unfold plcG
 split
 ·split <;> omega
 ·omega
theorem lOp_fin (RF : lm_tree_open.F R) {w : List UInt8} {x : LV} (hx : okL w x) (hw : w.length <= 200000) (cnt : Nat) (κ0 : BA -> Int -> BA -> BA -> BA -> LA -> Bool -> BA -> Bool -> BA -> Bool -> BA -> Bool -> BA -> LA -> LA -> Bool -> BA -> Int -> Int -> Int -> Int -> Int -> LA -> Option R) (κ1 : BA -> Int -> BA -> BA -> BA -> Bool -> BA -> Bool -> BA -> Bool -> BA -> Bool -> BA -> LA -> LA -> Bool -> BA -> Int -> Int -> Int -> Int -> Int -> LA -> Option R) (hκ : ∀ (z : LV) (c : Int) (k : LA), κ1 (B w) c (B z.p) (B z.v.ty) (B z.v.sub) z.v.i0 (B z.v.i1) z.v.a0 (B z.v.a1) (emp z.v.c1) (B z.v.c1) (emp z.v.p1) (B z.v.p1) (z.v.pp.map pmAV) (rowsS z.v.lg) z.v.w0 (B z.v.w1) (z.a : Int) (z.b : Int) (z.c : Int) (z.d : Int) (z.e : Int) k = κ0 (B w) c (B z.p) (B z.v.ty) (B z.v.sub) ([] : LA) z.v.i0 (B z.v.i1) z.v.a0 (B z.v.a1) (emp z.v.c1) (B z.v.c1) (emp z.v.p1) (B z.v.p1) (z.v.pp.map pmAV) (rowsS z.v.lg) z.v.w0 (B z.v.w1) (z.a : Int) (z.b : Int) (z.c : Int) (z.d : Int) (z.e : Int) k) (f : Nat) (k : LA) :
  lm_tree_open.L15 lm_tree_parts lm_tree_limb st_Count lm_isMessage1 lm_place lm_isMessage2 RF κ0 κ1 (f + 1) (B x.p) (B x.v.ty) (B x.v.sub) (x.v.ps.map pmAV) x.v.i0 (B x.v.i1) x.v.a0 (B x.v.a1) (emp x.v.c1) (B x.v.c1) (emp x.v.p1) (B x.v.p1) (x.v.pp.map pmAV) (rowsS x.v.lg) x.v.w0 (B x.v.w1) (x.a : Int) (x.b : Int) (x.c : Int) (x.d : Int) (x.e : Int) k (B w) (cnt : Int) = κ0 (B w) (cnt : Int) (B (finG w x k.isEmpty).p) (B (finG w x k.isEmpty).v.ty) (B (finG w x k.isEmpty).v.sub) ((finG w x k.isEmpty).v.ps.map pmAV) (finG w x k.isEmpty).v.i0 (B (finG w x k.isEmpty).v.i1) (finG w x k.isEmpty).v.a0 (B (finG w x k.isEmpty).v.a1) (emp (finG w x k.isEmpty).v.c1) (B (finG w x k.isEmpty).v.c1) (emp (finG w x k.isEmpty).v.p1) (B (finG w x k.isEmpty).v.p1) ((finG w x k.isEmpty).v.pp.map pmAV) (rowsS (finG w x k.isEmpty).v.lg) (finG w x k.isEmpty).v.w0 (B (finG w x k.isEmpty).v.w1) ((finG w x k.isEmpty).a : Int) ((finG w x k.isEmpty).b : Int) ((finG w x k.isEmpty).c : Int) ((finG w x k.isEmpty).d : Int) ((finG w x k.isEmpty).e : Int) k := by
 obtain ⟨h1, h2, _, _⟩ := hx
 have hm : ∀ a b : List UInt8, decide (B a = B b) = decide (a = b) := fun a b => decide_eq_decide.2 B_inj
 have hbl : (bodyL w x).length = x.d - x.c := by unfold bodyL; rw [List.length_drop, List.length_take]; omega
 rw [lm_tree_open.L15, lm_tree_open.t15, chk_and, chk_dec (by omega), chk_and, chk_dec (by omega), chk_dec (by rw [szB]; omega), Int.toNat_natCast, Int.toNat_natCast, extract_B]
 show st_Count (B (bodyL w x)) _ _ = _
 rw [lCo _ (by omega), lIsMr]
 cases k with
 | cons a k =>
  rw [cond_dec (by simp only [List.length_cons]; omega)]
  have : finG w x (a :: k).isEmpty = if msgT x then { x with e := endsL (bodyL w x) } else x := rfl
  rw [this]
  cases msgT x with
  | true => rfl
  | false => rfl
 | nil =>
  rw [cond_dec' (by simp)]
  have : finG w x ([] : LA).isEmpty = (if x.v.ty = mimeT then { x with e := endsL (bodyL w x) } else if msgT x = true ∨ x.v.ty = mlt then offL x else x) := rfl
  rw [this, show (⟨#[116, 101, 120, 116]⟩ : BA) = B mimeT from rfl, hm]
  by_cases c1 : x.v.ty = mimeT
  ·rw [decide_eq_true c1, cond_true, if_pos c1]
  ·rw [decide_eq_false c1, cond_false, if_neg c1, lIsMr, show (⟨#[109, 117, 108, 116, 105, 112, 97, 114, 116]⟩ : BA) = B mlt from rfl, hm]
   have off := hκ (offL x) (cnt : Int) []
   cases c2 : msgT x with
   | true => rw [cond_true, if_pos (.inl rfl)]; exact off
   | false =>
    rw [cond_false]
    by_cases c3 : x.v.ty = mlt
    ·rw [decide_eq_true c3, cond_true, if_pos (.inr c3)]; exact off
    ·rw [decide_eq_false c3, cond_false, if_neg (fun h => h.elim (fun h => by cases h) c3)]
theorem lOp_loop (RF : lm_tree_open.F R) {w : List UInt8} {x : LV} (hx : okL w x) (hw : w.length <= 200000) (hp : x.p.length <= 1000) (deep : Nat) (hdp : deep <= 100) (ins : Bool) (rec : LV -> Nat -> LV × LA × Nat) (hrc : ∀ y c, c <= 16 -> (rec y c).2.2 <= 16)
  (hrec : ∀ (y : LV) (cnt : Nat) (κ0 : BA -> Int -> BA -> BA -> BA -> LA -> Bool -> BA -> Bool -> BA -> Bool -> BA -> Bool -> BA -> LA -> LA -> Bool -> BA -> Int -> Int -> Int -> Int -> Int -> LA -> Option R) (κ1 : BA -> Int -> BA -> BA -> BA -> Bool -> BA -> Bool -> BA -> Bool -> BA -> Bool -> BA -> LA -> LA -> Bool -> BA -> Int -> Int -> Int -> Int -> Int -> LA -> Option R), okL w y -> y.p.length <= x.p.length + 3 -> cnt <= 16 -> (∀ (z : LV) (c : Int) (k : LA), κ1 (B w) c (B z.p) (B z.v.ty) (B z.v.sub) z.v.i0 (B z.v.i1) z.v.a0 (B z.v.a1) (emp z.v.c1) (B z.v.c1) (emp z.v.p1) (B z.v.p1) (z.v.pp.map pmAV) (rowsS z.v.lg) z.v.w0 (B z.v.w1) (z.a : Int) (z.b : Int) (z.c : Int) (z.d : Int) (z.e : Int) k = κ0 (B w) c (B z.p) (B z.v.ty) (B z.v.sub) ([] : LA) z.v.i0 (B z.v.i1) z.v.a0 (B z.v.a1) (emp z.v.c1) (B z.v.c1) (emp z.v.p1) (B z.v.p1) (z.v.pp.map pmAV) (rowsS z.v.lg) z.v.w0 (B z.v.w1) (z.a : Int) (z.b : Int) (z.c : Int) (z.d : Int) (z.e : Int) k) -> RF (B w) (cnt : Int) (B y.p) (B y.v.ty) (B y.v.sub) (y.v.ps.map pmAV) y.v.i0 (B y.v.i1) y.v.a0 (B y.v.a1) (emp y.v.c1) (B y.v.c1) (emp y.v.p1) (B y.v.p1) (y.v.pp.map pmAV) (rowsS y.v.lg) y.v.w0 (B y.v.w1) (y.a : Int) (y.b : Int) (y.c : Int) (y.d : Int) (y.e : Int) ((deep + 1 : Nat) : Int) (msgT x) κ0 κ1 = κ0 (B w) ((rec y cnt).2.2 : Int) (B (rec y cnt).1.p) (B (rec y cnt).1.v.ty) (B (rec y cnt).1.v.sub) ((rec y cnt).1.v.ps.map pmAV) (rec y cnt).1.v.i0 (B (rec y cnt).1.v.i1) (rec y cnt).1.v.a0 (B (rec y cnt).1.v.a1) (emp (rec y cnt).1.v.c1) (B (rec y cnt).1.v.c1) (emp (rec y cnt).1.v.p1) (B (rec y cnt).1.v.p1) ((rec y cnt).1.v.pp.map pmAV) (rowsS (rec y cnt).1.v.lg) (rec y cnt).1.v.w0 (B (rec y cnt).1.v.w1) ((rec y cnt).1.a : Int) ((rec y cnt).1.b : Int) ((rec y cnt).1.c : Int) ((rec y cnt).1.d : Int) ((rec y cnt).1.e : Int) (rec y cnt).2.1)
  (κ0 : BA -> Int -> BA -> BA -> BA -> LA -> Bool -> BA -> Bool -> BA -> Bool -> BA -> Bool -> BA -> LA -> LA -> Bool -> BA -> Int -> Int -> Int -> Int -> Int -> LA -> Option R) (κ1 : BA -> Int -> BA -> BA -> BA -> Bool -> BA -> Bool -> BA -> Bool -> BA -> Bool -> BA -> LA -> LA -> Bool -> BA -> Int -> Int -> Int -> Int -> Int -> LA -> Option R) (hκ : ∀ (z : LV) (c : Int) (k : LA), κ1 (B w) c (B z.p) (B z.v.ty) (B z.v.sub) z.v.i0 (B z.v.i1) z.v.a0 (B z.v.a1) (emp z.v.c1) (B z.v.c1) (emp z.v.p1) (B z.v.p1) (z.v.pp.map pmAV) (rowsS z.v.lg) z.v.w0 (B z.v.w1) (z.a : Int) (z.b : Int) (z.c : Int) (z.d : Int) (z.e : Int) k = κ0 (B w) c (B z.p) (B z.v.ty) (B z.v.sub) ([] : LA) z.v.i0 (B z.v.i1) z.v.a0 (B z.v.a1) (emp z.v.c1) (B z.v.c1) (emp z.v.p1) (B z.v.p1) (z.v.pp.map pmAV) (rowsS z.v.lg) z.v.w0 (B z.v.w1) (z.a : Int) (z.b : Int) (z.c : Int) (z.d : Int) (z.e : Int) k) (P : List (Nat × Nat)) (hP : P.length <= 16) (hin : ∀ q ∈ P, q.1 <= q.2 /\ q.2 <= w.length) :
  ∀ (r d : List (Nat × Nat)) (acc : LA) (cnt f : Nat), d ++ r = P -> acc.length = d.length -> cnt <= 16 -> 3 * r.length + 2 <= f ->
  (lm_tree_open.M5 lm_tree_parts lm_tree_limb st_Count lm_isMessage1 lm_place lm_isMessage2 RF κ0 κ1 f).1 (deep : Int) ins (P.length : Int) (d.length : Int) (B x.p) (B x.v.ty) (B x.v.sub) (x.v.ps.map pmAV) x.v.i0 (B x.v.i1) x.v.a0 (B x.v.a1) (emp x.v.c1) (B x.v.c1) (emp x.v.p1) (B x.v.p1) (x.v.pp.map pmAV) (rowsS x.v.lg) x.v.w0 (B x.v.w1) (x.a : Int) (x.b : Int) (x.c : Int) (x.d : Int) (x.e : Int) (B w) (cnt : Int) acc (P.map (pcA 0)) = κ0 (B w) ((kidsG rec w (plcG x (ins || decide (deep = 0))) (dgG x) d.length acc cnt r).2 : Int) (B (finG w x (kidsG rec w (plcG x (ins || decide (deep = 0))) (dgG x) d.length acc cnt r).1.isEmpty).p) (B (finG w x (kidsG rec w (plcG x (ins || decide (deep = 0))) (dgG x) d.length acc cnt r).1.isEmpty).v.ty) (B (finG w x (kidsG rec w (plcG x (ins || decide (deep = 0))) (dgG x) d.length acc cnt r).1.isEmpty).v.sub) ((finG w x (kidsG rec w (plcG x (ins || decide (deep = 0))) (dgG x) d.length acc cnt r).1.isEmpty).v.ps.map pmAV) (finG w x (kidsG rec w (plcG x (ins || decide (deep = 0))) (dgG x) d.length acc cnt r).1.isEmpty).v.i0 (B (finG w x (kidsG rec w (plcG x (ins || decide (deep = 0))) (dgG x) d.length acc cnt r).1.isEmpty).v.i1) (finG w x (kidsG rec w (plcG x (ins || decide (deep = 0))) (dgG x) d.length acc cnt r).1.isEmpty).v.a0 (B (finG w x (kidsG rec w (plcG x (ins || decide (deep = 0))) (dgG x) d.length acc cnt r).1.isEmpty).v.a1) (emp (finG w x (kidsG rec w (plcG x (ins || decide (deep = 0))) (dgG x) d.length acc cnt r).1.isEmpty).v.c1) (B (finG w x (kidsG rec w (plcG x (ins || decide (deep = 0))) (dgG x) d.length acc cnt r).1.isEmpty).v.c1) (emp (finG w x (kidsG rec w (plcG x (ins || decide (deep = 0))) (dgG x) d.length acc cnt r).1.isEmpty).v.p1) (B (finG w x (kidsG rec w (plcG x (ins || decide (deep = 0))) (dgG x) d.length acc cnt r).1.isEmpty).v.p1) ((finG w x (kidsG rec w (plcG x (ins || decide (deep = 0))) (dgG x) d.length acc cnt r).1.isEmpty).v.pp.map pmAV) (rowsS (finG w x (kidsG rec w (plcG x (ins || decide (deep = 0))) (dgG x) d.length acc cnt r).1.isEmpty).v.lg) (finG w x (kidsG rec w (plcG x (ins || decide (deep = 0))) (dgG x) d.length acc cnt r).1.isEmpty).v.w0 (B (finG w x (kidsG rec w (plcG x (ins || decide (deep = 0))) (dgG x) d.length acc cnt r).1.isEmpty).v.w1) ((finG w x (kidsG rec w (plcG x (ins || decide (deep = 0))) (dgG x) d.length acc cnt r).1.isEmpty).a : Int) ((finG w x (kidsG rec w (plcG x (ins || decide (deep = 0))) (dgG x) d.length acc cnt r).1.isEmpty).b : Int) ((finG w x (kidsG rec w (plcG x (ins || decide (deep = 0))) (dgG x) d.length acc cnt r).1.isEmpty).c : Int) ((finG w x (kidsG rec w (plcG x (ins || decide (deep = 0))) (dgG x) d.length acc cnt r).1.isEmpty).d : Int) ((finG w x (kidsG rec w (plcG x (ins || decide (deep = 0))) (dgG x) d.length acc cnt r).1.isEmpty).e : Int) (kidsG rec w (plcG x (ins || decide (deep = 0))) (dgG x) d.length acc cnt r).1
 | [], d, acc, cnt, f, hd, ha, hc, hf => by
  obtain ⟨g, rfl⟩ : ∃ g, f = g + 2 := ⟨f - 2, by omega⟩
  rw [List.append_nil] at hd
  rw [lm_tree_open.M5]
  simp only
  rw [lm_tree_open.t5, hd, cond_dec' (by omega)]
  exact lOp_fin RF hx hw cnt κ0 κ1 hκ g acc
 | q :: r, d, acc, cnt, f, hd, ha, hc, hf => by
  simp only [List.length_cons] at hf
  obtain ⟨g, rfl⟩ : ∃ g, f = g + 3 := ⟨f - 3, by omega⟩
  have hm : ∀ a b : List UInt8, decide (B a = B b) = decide (a = b) := fun a b => decide_eq_decide.2 B_inj
  have hlen : d.length + r.length + 1 = P.length := by rw [<- hd]; simp; omega
  have hq : q ∈ P := by rw [<- hd]; simp
  obtain ⟨q1, q2⟩ := hin q hq
  have hget : rdA (P.map (pcA 0)) (d.length : Int) = pcA 0 q := rdA_get (by rw [List.getElem?_map, <- hd]; simp)
  have hpl : (P.map (pcA 0)).length = P.length := List.length_map ..
  have f0 : ((pcA 0 q).fld 0).i = (q.1 : Int) := by show ((0 + q.1 : Nat) : Int) = _; rw [Nat.zero_add]
  have f1 : ((pcA 0 q).fld 1).i = (q.2 : Int) := by show ((0 + q.2 : Nat) : Int) = _; rw [Nat.zero_add]
  have hsl := sliL_len q1 q2
  have w1 : IntKind.wrap .i64 ((d.length : Int) + 1) = ((d.length + 1 : Nat) : Int) := wrap_i64 (by omega) (by omega)
  have w2 : IntKind.wrap .i64 ((deep : Int) + 1) = ((deep + 1 : Nat) : Int) := wrap_i64 (by omega) (by omega)
  have limb := fun (dg : Bool) => lLimb (R := R) (w := w) (s := sliL w q) (F := q.1) (by rw [hsl, show q.1 + (q.2 - q.1) = q.2 by omega]; rfl) (by omega) hw (cnt : Int) dg
  rw [hsl, show q.1 + (q.2 - q.1) = q.2 by omega] at limb
  have body : (lm_tree_open.M5 lm_tree_parts lm_tree_limb st_Count lm_isMessage1 lm_place lm_isMessage2 RF κ0 κ1 (g + 2)).2.1 (deep : Int) ins (d.length : Int) (P.length : Int) (d.length : Int) (B x.p) (B x.v.ty) (B x.v.sub) (x.v.ps.map pmAV) x.v.i0 (B x.v.i1) x.v.a0 (B x.v.a1) (emp x.v.c1) (B x.v.c1) (emp x.v.p1) (B x.v.p1) (x.v.pp.map pmAV) (rowsS x.v.lg) x.v.w0 (B x.v.w1) (x.a : Int) (x.b : Int) (x.c : Int) (x.d : Int) (x.e : Int) (B w) (cnt : Int) acc (B []) (B (kidL w q (plcG x (ins || decide (deep = 0)) (d.length + 1)) (dgG x)).v.ty) (B (kidL w q (plcG x (ins || decide (deep = 0)) (d.length + 1)) (dgG x)).v.sub) ((kidL w q (plcG x (ins || decide (deep = 0)) (d.length + 1)) (dgG x)).v.ps.map pmAV) (kidL w q (plcG x (ins || decide (deep = 0)) (d.length + 1)) (dgG x)).v.i0 (B (kidL w q (plcG x (ins || decide (deep = 0)) (d.length + 1)) (dgG x)).v.i1) (kidL w q (plcG x (ins || decide (deep = 0)) (d.length + 1)) (dgG x)).v.a0 (B (kidL w q (plcG x (ins || decide (deep = 0)) (d.length + 1)) (dgG x)).v.a1) (emp (kidL w q (plcG x (ins || decide (deep = 0)) (d.length + 1)) (dgG x)).v.c1) (B (kidL w q (plcG x (ins || decide (deep = 0)) (d.length + 1)) (dgG x)).v.c1) (emp (kidL w q (plcG x (ins || decide (deep = 0)) (d.length + 1)) (dgG x)).v.p1) (B (kidL w q (plcG x (ins || decide (deep = 0)) (d.length + 1)) (dgG x)).v.p1) ((kidL w q (plcG x (ins || decide (deep = 0)) (d.length + 1)) (dgG x)).v.pp.map pmAV) (rowsS (kidL w q (plcG x (ins || decide (deep = 0)) (d.length + 1)) (dgG x)).v.lg) (kidL w q (plcG x (ins || decide (deep = 0)) (d.length + 1)) (dgG x)).v.w0 (B (kidL w q (plcG x (ins || decide (deep = 0)) (d.length + 1)) (dgG x)).v.w1) ((kidL w q (plcG x (ins || decide (deep = 0)) (d.length + 1)) (dgG x)).a : Int) ((kidL w q (plcG x (ins || decide (deep = 0)) (d.length + 1)) (dgG x)).b : Int) ((kidL w q (plcG x (ins || decide (deep = 0)) (d.length + 1)) (dgG x)).c : Int) ((kidL w q (plcG x (ins || decide (deep = 0)) (d.length + 1)) (dgG x)).d : Int) ((kidL w q (plcG x (ins || decide (deep = 0)) (d.length + 1)) (dgG x)).e : Int) (P.map (pcA 0)) = κ0 (B w) ((kidsG rec w (plcG x (ins || decide (deep = 0))) (dgG x) d.length acc cnt (q :: r)).2 : Int) (B (finG w x (kidsG rec w (plcG x (ins || decide (deep = 0))) (dgG x) d.length acc cnt (q :: r)).1.isEmpty).p) (B (finG w x (kidsG rec w (plcG x (ins || decide (deep = 0))) (dgG x) d.length acc cnt (q :: r)).1.isEmpty).v.ty) (B (finG w x (kidsG rec w (plcG x (ins || decide (deep = 0))) (dgG x) d.length acc cnt (q :: r)).1.isEmpty).v.sub) ((finG w x (kidsG rec w (plcG x (ins || decide (deep = 0))) (dgG x) d.length acc cnt (q :: r)).1.isEmpty).v.ps.map pmAV) (finG w x (kidsG rec w (plcG x (ins || decide (deep = 0))) (dgG x) d.length acc cnt (q :: r)).1.isEmpty).v.i0 (B (finG w x (kidsG rec w (plcG x (ins || decide (deep = 0))) (dgG x) d.length acc cnt (q :: r)).1.isEmpty).v.i1) (finG w x (kidsG rec w (plcG x (ins || decide (deep = 0))) (dgG x) d.length acc cnt (q :: r)).1.isEmpty).v.a0 (B (finG w x (kidsG rec w (plcG x (ins || decide (deep = 0))) (dgG x) d.length acc cnt (q :: r)).1.isEmpty).v.a1) (emp (finG w x (kidsG rec w (plcG x (ins || decide (deep = 0))) (dgG x) d.length acc cnt (q :: r)).1.isEmpty).v.c1) (B (finG w x (kidsG rec w (plcG x (ins || decide (deep = 0))) (dgG x) d.length acc cnt (q :: r)).1.isEmpty).v.c1) (emp (finG w x (kidsG rec w (plcG x (ins || decide (deep = 0))) (dgG x) d.length acc cnt (q :: r)).1.isEmpty).v.p1) (B (finG w x (kidsG rec w (plcG x (ins || decide (deep = 0))) (dgG x) d.length acc cnt (q :: r)).1.isEmpty).v.p1) ((finG w x (kidsG rec w (plcG x (ins || decide (deep = 0))) (dgG x) d.length acc cnt (q :: r)).1.isEmpty).v.pp.map pmAV) (rowsS (finG w x (kidsG rec w (plcG x (ins || decide (deep = 0))) (dgG x) d.length acc cnt (q :: r)).1.isEmpty).v.lg) (finG w x (kidsG rec w (plcG x (ins || decide (deep = 0))) (dgG x) d.length acc cnt (q :: r)).1.isEmpty).v.w0 (B (finG w x (kidsG rec w (plcG x (ins || decide (deep = 0))) (dgG x) d.length acc cnt (q :: r)).1.isEmpty).v.w1) ((finG w x (kidsG rec w (plcG x (ins || decide (deep = 0))) (dgG x) d.length acc cnt (q :: r)).1.isEmpty).a : Int) ((finG w x (kidsG rec w (plcG x (ins || decide (deep = 0))) (dgG x) d.length acc cnt (q :: r)).1.isEmpty).b : Int) ((finG w x (kidsG rec w (plcG x (ins || decide (deep = 0))) (dgG x) d.length acc cnt (q :: r)).1.isEmpty).c : Int) ((finG w x (kidsG rec w (plcG x (ins || decide (deep = 0))) (dgG x) d.length acc cnt (q :: r)).1.isEmpty).d : Int) ((finG w x (kidsG rec w (plcG x (ins || decide (deep = 0))) (dgG x) d.length acc cnt (q :: r)).1.isEmpty).e : Int) (kidsG rec w (plcG x (ins || decide (deep = 0))) (dgG x) d.length acc cnt (q :: r)).1 := by
   have hkz := plc_len x (ins || decide (deep = 0)) (d.length + 1)
   rw [kidsG, lm_tree_open.M5]
   simp only
   rw [lm_tree_open.t8, w1, w2, lPlc x (by omega) acc deep ins (d.length + 1) (by omega) (by omega), lIsMf]
   refine (hrec (kidL w q (plcG x (ins || decide (deep = 0)) (d.length + 1)) (dgG x)) cnt _ _ (kid_ok q1 q2 _ _) hkz hc (fun z c k => rfl)).trans ?_
   rw [chk_dec (by omega), chk_dec (by omega), chk_and, chk_dec (by omega), chk_dec (by simp only [List.length_append, List.length_cons, List.length_nil]; omega), setA_snoc, eqSt_refl, chk_tt, lm_tree_open.M5]
   ·simp only
    rw [lm_tree_open.t14, w1]
    have := lOp_loop RF hx hw hp deep hdp ins rec hrc hrec κ0 κ1 hκ P hP hin r (d ++ [q]) (acc ++ [limbAV (rec (kidL w q (plcG x (ins || decide (deep = 0)) (d.length + 1)) (dgG x)) cnt).1 (rec (kidL w q (plcG x (ins || decide (deep = 0)) (d.length + 1)) (dgG x)) cnt).2.1]) (rec (kidL w q (plcG x (ins || decide (deep = 0)) (d.length + 1)) (dgG x)) cnt).2.2 g (by rw [List.append_assoc]; exact hd) (by simp [ha]) (hrc _ _ hc) (by omega)
    rw [show (d ++ [q]).length = d.length + 1 by simp] at this
    exact this
   ·rfl
   ·rfl
  rw [lm_tree_open.M5]
  simp only
  rw [lm_tree_open.t5, hpl, cond_dec (by omega), chk_and, chk_dec (by omega), chk_dec (by omega), hget, f0, f1, limb, limb, show (⟨#[109, 117, 108, 116, 105, 112, 97, 114, 116]⟩ : BA) = B mlt from rfl, show (⟨#[100, 105, 103, 101, 115, 116]⟩ : BA) = B digT from rfl, hm, hm]
  unfold dgG at body ⊢
  by_cases c1 : x.v.ty = mlt
  ·rw [decide_eq_true c1, Bool.true_and] at body
   rw [decide_eq_true c1, cond_true, Bool.true_and]
   exact body
  ·rw [decide_eq_false c1, Bool.false_and] at body
   rw [decide_eq_false c1, cond_false, Bool.false_and]
   exact body
theorem lOp {w : List UInt8} (hw : w.length <= 200000) : ∀ (n fu : Nat) (x : LV) (deep : Nat) (ins : Bool) (cnt : Nat) (κ0 : BA -> Int -> BA -> BA -> BA -> LA -> Bool -> BA -> Bool -> BA -> Bool -> BA -> Bool -> BA -> LA -> LA -> Bool -> BA -> Int -> Int -> Int -> Int -> Int -> LA -> Option R) (κ1 : BA -> Int -> BA -> BA -> BA -> Bool -> BA -> Bool -> BA -> Bool -> BA -> Bool -> BA -> LA -> LA -> Bool -> BA -> Int -> Int -> Int -> Int -> Int -> LA -> Option R), okL w x -> x.p.length + 3 * n <= 1000 -> deep + n = 6 -> 1 <= n -> n <= fu -> cnt <= 16 -> (∀ (z : LV) (c : Int) (k : LA), κ1 (B w) c (B z.p) (B z.v.ty) (B z.v.sub) z.v.i0 (B z.v.i1) z.v.a0 (B z.v.a1) (emp z.v.c1) (B z.v.c1) (emp z.v.p1) (B z.v.p1) (z.v.pp.map pmAV) (rowsS z.v.lg) z.v.w0 (B z.v.w1) (z.a : Int) (z.b : Int) (z.c : Int) (z.d : Int) (z.e : Int) k = κ0 (B w) c (B z.p) (B z.v.ty) (B z.v.sub) ([] : LA) z.v.i0 (B z.v.i1) z.v.a0 (B z.v.a1) (emp z.v.c1) (B z.v.c1) (emp z.v.p1) (B z.v.p1) (z.v.pp.map pmAV) (rowsS z.v.lg) z.v.w0 (B z.v.w1) (z.a : Int) (z.b : Int) (z.c : Int) (z.d : Int) (z.e : Int) k) ->
  lm_tree_open.R fu (B w) (cnt : Int) (B x.p) (B x.v.ty) (B x.v.sub) (x.v.ps.map pmAV) x.v.i0 (B x.v.i1) x.v.a0 (B x.v.a1) (emp x.v.c1) (B x.v.c1) (emp x.v.p1) (B x.v.p1) (x.v.pp.map pmAV) (rowsS x.v.lg) x.v.w0 (B x.v.w1) (x.a : Int) (x.b : Int) (x.c : Int) (x.d : Int) (x.e : Int) (deep : Int) ins κ0 κ1 = κ0 (B w) ((opG w n x deep (ins || decide (deep = 0)) cnt).2.2 : Int) (B (opG w n x deep (ins || decide (deep = 0)) cnt).1.p) (B (opG w n x deep (ins || decide (deep = 0)) cnt).1.v.ty) (B (opG w n x deep (ins || decide (deep = 0)) cnt).1.v.sub) ((opG w n x deep (ins || decide (deep = 0)) cnt).1.v.ps.map pmAV) (opG w n x deep (ins || decide (deep = 0)) cnt).1.v.i0 (B (opG w n x deep (ins || decide (deep = 0)) cnt).1.v.i1) (opG w n x deep (ins || decide (deep = 0)) cnt).1.v.a0 (B (opG w n x deep (ins || decide (deep = 0)) cnt).1.v.a1) (emp (opG w n x deep (ins || decide (deep = 0)) cnt).1.v.c1) (B (opG w n x deep (ins || decide (deep = 0)) cnt).1.v.c1) (emp (opG w n x deep (ins || decide (deep = 0)) cnt).1.v.p1) (B (opG w n x deep (ins || decide (deep = 0)) cnt).1.v.p1) ((opG w n x deep (ins || decide (deep = 0)) cnt).1.v.pp.map pmAV) (rowsS (opG w n x deep (ins || decide (deep = 0)) cnt).1.v.lg) (opG w n x deep (ins || decide (deep = 0)) cnt).1.v.w0 (B (opG w n x deep (ins || decide (deep = 0)) cnt).1.v.w1) ((opG w n x deep (ins || decide (deep = 0)) cnt).1.a : Int) ((opG w n x deep (ins || decide (deep = 0)) cnt).1.b : Int) ((opG w n x deep (ins || decide (deep = 0)) cnt).1.c : Int) ((opG w n x deep (ins || decide (deep = 0)) cnt).1.d : Int) ((opG w n x deep (ins || decide (deep = 0)) cnt).1.e : Int) (opG w n x deep (ins || decide (deep = 0)) cnt).2.1
 | 0, _, _, _, _, _, _, _, _, _, _, h, _, _, _ => by omega
 | _ + 1, 0, _, _, _, _, _, _, _, _, _, _, h, _, _ => by omega
 | n + 1, fu + 1, x, deep, ins, cnt, κ0, κ1, hx, hp, hn, _, hfu, hc, hκ => by
  rw [lm_tree_open.R, lm_tree_open.B]
  have key : ∀ f, 1000 <= f -> lm_tree_open.e lm_tree_parts lm_tree_limb st_Count lm_isMessage1 lm_place lm_isMessage2 (lm_tree_open.R fu) (B w) (cnt : Int) (B x.p) (B x.v.ty) (B x.v.sub) (x.v.ps.map pmAV) x.v.i0 (B x.v.i1) x.v.a0 (B x.v.a1) (emp x.v.c1) (B x.v.c1) (emp x.v.p1) (B x.v.p1) (x.v.pp.map pmAV) (rowsS x.v.lg) x.v.w0 (B x.v.w1) (x.a : Int) (x.b : Int) (x.c : Int) (x.d : Int) (x.e : Int) (deep : Int) ins (lm_tree_open.L2 lm_tree_parts lm_tree_limb st_Count lm_isMessage1 lm_place lm_isMessage2 (lm_tree_open.R fu) κ0 κ1 (f + 1)) (lm_tree_open.L5 lm_tree_parts lm_tree_limb st_Count lm_isMessage1 lm_place lm_isMessage2 (lm_tree_open.R fu) κ0 κ1 (f + 1)) (lm_tree_open.L8 lm_tree_parts lm_tree_limb st_Count lm_isMessage1 lm_place lm_isMessage2 (lm_tree_open.R fu) κ0 κ1 (f + 1)) (lm_tree_open.L14 lm_tree_parts lm_tree_limb st_Count lm_isMessage1 lm_place lm_isMessage2 (lm_tree_open.R fu) κ0 κ1 (f + 1)) (lm_tree_open.L15 lm_tree_parts lm_tree_limb st_Count lm_isMessage1 lm_place lm_isMessage2 (lm_tree_open.R fu) κ0 κ1 (f + 1)) κ0 κ1 = κ0 (B w) ((opG w (n + 1) x deep (ins || decide (deep = 0)) cnt).2.2 : Int) (B (opG w (n + 1) x deep (ins || decide (deep = 0)) cnt).1.p) (B (opG w (n + 1) x deep (ins || decide (deep = 0)) cnt).1.v.ty) (B (opG w (n + 1) x deep (ins || decide (deep = 0)) cnt).1.v.sub) ((opG w (n + 1) x deep (ins || decide (deep = 0)) cnt).1.v.ps.map pmAV) (opG w (n + 1) x deep (ins || decide (deep = 0)) cnt).1.v.i0 (B (opG w (n + 1) x deep (ins || decide (deep = 0)) cnt).1.v.i1) (opG w (n + 1) x deep (ins || decide (deep = 0)) cnt).1.v.a0 (B (opG w (n + 1) x deep (ins || decide (deep = 0)) cnt).1.v.a1) (emp (opG w (n + 1) x deep (ins || decide (deep = 0)) cnt).1.v.c1) (B (opG w (n + 1) x deep (ins || decide (deep = 0)) cnt).1.v.c1) (emp (opG w (n + 1) x deep (ins || decide (deep = 0)) cnt).1.v.p1) (B (opG w (n + 1) x deep (ins || decide (deep = 0)) cnt).1.v.p1) ((opG w (n + 1) x deep (ins || decide (deep = 0)) cnt).1.v.pp.map pmAV) (rowsS (opG w (n + 1) x deep (ins || decide (deep = 0)) cnt).1.v.lg) (opG w (n + 1) x deep (ins || decide (deep = 0)) cnt).1.v.w0 (B (opG w (n + 1) x deep (ins || decide (deep = 0)) cnt).1.v.w1) ((opG w (n + 1) x deep (ins || decide (deep = 0)) cnt).1.a : Int) ((opG w (n + 1) x deep (ins || decide (deep = 0)) cnt).1.b : Int) ((opG w (n + 1) x deep (ins || decide (deep = 0)) cnt).1.c : Int) ((opG w (n + 1) x deep (ins || decide (deep = 0)) cnt).1.d : Int) ((opG w (n + 1) x deep (ins || decide (deep = 0)) cnt).1.e : Int) (opG w (n + 1) x deep (ins || decide (deep = 0)) cnt).2.1 := by
   intro f hf
   obtain ⟨h1, h2, h3, h4⟩ := hx
   have hx : okL w x := ⟨h1, h2, h3, h4⟩
   have hlp : ((piG w x).map (pcA 0)).length = (piG w x).length := List.length_map ..
   have hpb : (piG w x).length <= 1000000 := by
    have hbl : (bodyL w x).length = x.d - x.c := by unfold bodyL; rw [List.length_drop, List.length_take]; omega
    unfold piG
    split
    ·split <;> simp
    ·split
     ·have := ptG_len (valL x.v.ps) (bodyL w x) _ none (bodyL w x) (Nat.le_refl _)
      rw [List.length_map]; omega
     ·simp
   rw [lm_tree_open.e]
   refine (lPa h1 h2 hw h3 (by omega) (cnt : Int) _ _ (by rfl)).trans ?_
   rw [lm_tree_open.L2, lm_tree_open.t2, hlp, wrap_i64 (by omega) (by omega)]
   rw [opG]
   have fin0 := lOp_fin (lm_tree_open.R fu) hx hw cnt κ0 κ1 hκ (f - 1) []
   rw [show f - 1 + 1 = f by omega] at fin0
   by_cases c1 : deep < 5
   ·rw [cond_dec (by omega)]
    by_cases c2 : cnt + (piG w x).length <= 16
    ·rw [cond_dec (by omega), if_pos ⟨c1, c2⟩]
     have hl := lOp_loop (lm_tree_open.R fu) hx hw (by omega) deep (by omega) ins (fun y c => opG w n y (deep + 1) (msgT x) c) (fun y c h => op_cnt w n y _ _ c h)
      (fun y cnt κ0 κ1 hy hyp hcn hk => by
       have := lOp hw n fu y (deep + 1) (msgT x) cnt κ0 κ1 hy (by omega) (by omega) (by omega) (by omega) hcn hk
       rw [decide_eq_false (show ¬ deep + 1 = 0 by omega), Bool.or_false] at this
       exact this)
      κ0 κ1 hκ (piG w x) (by omega) (piG_in hw hx) (piG w x) [] [] (cnt + (piG w x).length) f rfl rfl c2 (by omega)
     exact hl
    ·rw [cond_dec' (by omega), if_neg (fun h => c2 h.2)]
     exact fin0
   ·rw [cond_dec' (by omega), if_neg (fun h => c1 h.1)]
    exact fin0
  exact key (fuelK - 1) (by unfold fuelK; omega)
def treeG (w : List UInt8) : LV × LA × Nat := opG w 6 (kidL w (0, w.length) [] false) 0 true 0
theorem sli_all (w : List UInt8) : sliL w (0, w.length) = w := by unfold sliL; rw [List.take_length]; rfl
theorem lParse (w : List UInt8) (hw : w.length <= 200000) (κ : BA -> BA -> BA -> LA -> Bool -> BA -> Bool -> BA -> Bool -> BA -> Bool -> BA -> LA -> LA -> Bool -> BA -> Int -> Int -> Int -> Int -> Int -> LA -> Option R) : lm_Parse (B w) κ = κ (B (treeG w).1.p) (B (treeG w).1.v.ty) (B (treeG w).1.v.sub) ((treeG w).1.v.ps.map pmAV) (treeG w).1.v.i0 (B (treeG w).1.v.i1) (treeG w).1.v.a0 (B (treeG w).1.v.a1) (emp (treeG w).1.v.c1) (B (treeG w).1.v.c1) (emp (treeG w).1.v.p1) (B (treeG w).1.v.p1) ((treeG w).1.v.pp.map pmAV) (rowsS (treeG w).1.v.lg) (treeG w).1.v.w0 (B (treeG w).1.v.w1) ((treeG w).1.a : Int) ((treeG w).1.b : Int) ((treeG w).1.c : Int) ((treeG w).1.d : Int) ((treeG w).1.e : Int) (treeG w).2.1 := by
 have key : ∀ f, lm_Parse.e lm_tree_limb lm_tree_open (B w) (lm_Parse.L4 lm_tree_limb lm_tree_open κ (f + 1)) κ = κ (B (treeG w).1.p) (B (treeG w).1.v.ty) (B (treeG w).1.v.sub) ((treeG w).1.v.ps.map pmAV) (treeG w).1.v.i0 (B (treeG w).1.v.i1) (treeG w).1.v.a0 (B (treeG w).1.v.a1) (emp (treeG w).1.v.c1) (B (treeG w).1.v.c1) (emp (treeG w).1.v.p1) (B (treeG w).1.v.p1) ((treeG w).1.v.pp.map pmAV) (rowsS (treeG w).1.v.lg) (treeG w).1.v.w0 (B (treeG w).1.v.w1) ((treeG w).1.a : Int) ((treeG w).1.b : Int) ((treeG w).1.c : Int) ((treeG w).1.d : Int) ((treeG w).1.e : Int) (treeG w).2.1 := by
  intro f
  have hsl : (sliL w (0, w.length)).length = w.length := sliL_len (q := (0, w.length)) (Nat.zero_le _) (Nat.le_refl _)
  have hl := lLimb (R := R) (w := w) (s := sliL w (0, w.length)) (F := 0) (by rw [Nat.zero_add, hsl]; rfl) (by omega) hw 0 false
  rw [hsl, Nat.zero_add] at hl
  unfold lm_Parse.e
  rw [szB]
  refine (hl _).trans ?_
  have ho := fun κ0 κ1 => lOp (R := R) hw 6 fuelK (kidL w (0, w.length) [] false) 0 false 0 κ0 κ1 (kid_ok (Nat.zero_le _) (Nat.le_refl _) _ _) (by show 0 + 3 * 6 <= 1000; omega) rfl (by omega) (by unfold fuelK; omega) (by omega)
  unfold appH lm_tree_open
  refine (ho _ _ ?_).trans ?_
  ·intro z c k; rfl
  ·rw [lm_Parse.L4, lm_Parse.t4]; rfl
 exact key (fuelK - 1)
def c2 : List UInt8 := [13, 10]
def c4 : List UInt8 := [13, 10, 13, 10]
def endC (c : List UInt8) : Bool := decide (c.drop (c.length - 2) = [13, 10])
def endL (c : List UInt8) : List UInt8 := bif endC c then c else c ++ [13, 10]
abbrev Rw := List UInt8 × List UInt8 × Bool × Bool
theorem endC_eq (c : List UInt8) (hs : c.length <= 1000000) (κ : Bool -> Option R) : st_HasSuffix (B c) (⟨#[13, 10]⟩ : BA) κ = κ (endC c) := sHasSuffix c [13, 10] hs (by decide) κ
def tlR (rs : List Rw) : Nat := (rs.map fun r => r.1.length + 2).sum
theorem tlR_cons (r : Rw) (rs : List Rw) : tlR (r :: rs) = r.1.length + 2 + tlR rs := rfl
theorem row_get {rs : List Rw} {i : Nat} {r : Rw} (h : rs[i]? = some r) : rdA (rs.map rowAV) (i : Int) = rowAV r := rdA_get (by rw [List.getElem?_map, h]; rfl)
theorem rowsG_fst : ∀ (fld : Bool) (nm : List UInt8) (l : List (List UInt8)), (rowsG fld nm l).map (fun r => r.1) = l
 | fld, nm, [] => rfl
 | fld, nm, c :: r => by
  unfold rowsG
  cases isBl (c.headD 0) with
  | true => simp only [cond_true, List.map_cons]; rw [rowsG_fst]
  | false => simp only [cond_false, List.map_cons]; rw [rowsG_fst]
theorem tlR_fst (rs : List Rw) : tlR rs = total (rs.map fun r => r.1) + 2 * rs.length := by
 induction rs with
 | nil => rfl
 | cons r t ih => rw [tlR_cons, ih, List.map_cons, List.length_cons]; simp only [total]; omega
def anyN (nm : List UInt8) (ns : LA) : Bool := ns.any fun a => decide (lowL nm = lowL (bl a.s))
theorem anyN_cons (nm : List UInt8) (a : AV) (r : LA) : anyN nm (a :: r) = (decide (lowL nm = lowL (bl a.s)) || anyN nm r) := by unfold anyN; rw [List.any_cons]
def outR (nt : Bool) (ns : LA) (r : Rw) : Bool := (r.2.2.2 && anyN r.2.1 ns) == nt
def rowO (nt : Bool) (ns : LA) (r : Rw) : List UInt8 := bif outR nt ns r then [] else endL r.1
def pkN (nt : Bool) (ns : LA) (rs : List Rw) : List UInt8 := (rs.map (rowO nt ns)).flatten
def GL : List (List UInt8) -> Prop
 | [] => True
 | [c] => c ≠ []
 | c :: d :: r => c ≠ [] /\ endC c = true /\ GL (d :: r)
theorem GL.tail {c : List UInt8} {r : List (List UInt8)} (h : GL (c :: r)) : c ≠ [] /\ (r ≠ [] -> endC c = true) /\ GL r := by
 cases r with
 | nil => exact ⟨h, fun e => absurd rfl e, trivial⟩
 | cons d t => exact ⟨h.1, fun _ => h.2.1, h.2.2⟩
theorem endL_end {x : List UInt8} (hx : endC x = true) : endL x = x := by unfold endL; rw [hx]; rfl
theorem rowsG_cons (fld : Bool) (nm c : List UInt8) (r : List (List UInt8)) : rowsG fld nm (c :: r) = bif isBl (c.headD 0) then (c, nm, false, fld) :: rowsG fld nm r else (c, nmL c, isF c, isF c) :: rowsG (isF c) (nmL c) r := rfl
abbrev po3 (κ : BA -> Option R) (f : Nat) := le_Pick1.L3 le_rows st_Builder_WriteString st_Builder_String oc_Same st_HasSuffix κ f
abbrev po7 (κ : BA -> Option R) (f : Nat) := le_Pick1.L7 le_rows st_Builder_WriteString st_Builder_String oc_Same st_HasSuffix κ f
theorem po3_succ (κ : BA -> Option R) (f : Nat) (x0 : Bool) (x1 : LA) (x2 x3 : Int) (x4 x5 : LA) : po3 κ (f + 1) x0 x1 x2 x3 x4 x5 = le_Pick1.t3 st_Builder_WriteString st_Builder_String (po7 κ f) κ x0 x1 x2 x3 x4 x5 := by
 try unfold po3
 try unfold po7
 try unfold le_Pick1.L3
 try unfold le_Pick1.L7
 rw [le_Pick1.M3]
theorem po7_succ (κ : BA -> Option R) (f : Nat) (x0 : Bool) (x1 : LA) (x2 : Bool) (x3 x4 : Int) (x5 : LA) (x6 x7 : Int) (x8 : LA) (x9 x10 : BA) (x11 x12 : Bool) (x13 : LA) : po7 κ (f + 1) x0 x1 x2 x3 x4 x5 x6 x7 x8 x9 x10 x11 x12 x13
  = le_Pick1.t7 st_Builder_WriteString oc_Same st_HasSuffix (po3 κ f) (po7 κ f) x0 x1 x2 x3 x4 x5 x6 x7 x8 x9 x10 x11 x12 x13 := by
 try unfold po3
 try unfold po7
 try unfold le_Pick1.L3
 try unfold le_Pick1.L7
 rw [le_Pick1.M3]
theorem po_names (nt : Bool) (ns : LA) (hns : ns.length <= 1000) (hf : ∀ a ∈ ns, Fit NB a) (n i : Nat) (acc : LA) (r : Rw) (hr : r.2.1.length <= NB) (rs : LA) (κ : BA -> Option R) (X : Option R) (g : Nat)
  (hX : ∀ f', g <= f' -> (bif outR nt ns r then po3 κ f' nt ns (n : Int) (IntKind.wrap .i64 ((i : Int) + 1)) acc rs else (st_Builder_WriteString acc (B r.1) (fun _ r638 => (st_HasSuffix (B r.1) (⟨#[13, 10]⟩ : BA) (fun r639 => (bif (!r639) then (st_Builder_WriteString r638 (⟨#[13, 10]⟩ : BA) (fun _ r641 => (po3 κ f' nt ns (n : Int) (IntKind.wrap .i64 ((i : Int) + 1)) r641 rs))) else (po3 κ f' nt ns (n : Int) (IntKind.wrap .i64 ((i : Int) + 1)) r638 rs))))))) = X) :
  ∀ (m k f : Nat) (b : Bool), ns.length <= k + m -> k <= ns.length -> (b || (r.2.2.2 && anyN r.2.1 (ns.drop k))) = (r.2.2.2 && anyN r.2.1 ns) -> g + m + 1 <= f ->
   po7 κ f nt ns b (n : Int) (i : Int) ns (ns.length : Int) (k : Int) acc (B r.1) (B r.2.1) r.2.2.1 r.2.2.2 rs = X
 | m, k, 0, b, h1, h2, h3, h4 => by omega
 | m, k, f + 1, b, h1, h2, h3, h4 => by
  rw [po7_succ, le_Pick1.t7]
  have hw1 : IntKind.wrap .i64 ((k : Int) + 1) = ((k + 1 : Nat) : Int) := wrap_i64 (by omega) (by omega)
  cases hd : ns.drop k with
  | nil =>
   have := drop_nil hd
   rw [hd] at h3
   have hb : (b == nt) = outR nt ns r := by
    unfold outR; rw [<- h3]; unfold anyN; simp
   rw [cond_dec' (by omega), hb]
   exact hX f (by omega)
  | cons a t =>
   obtain ⟨g1, g2, g3⟩ := drop_get hd
   have ha := hf a (List.mem_of_getElem? g1)
   rw [hd, anyN_cons] at h3
   obtain ⟨m', rfl⟩ : ∃ m', m = m' + 1 := ⟨m - 1, by omega⟩
   have ih := fun b' h => po_names nt ns hns hf n i acc r hr rs κ X g hX m' (k + 1) f b' (by omega) (by omega) h (by omega)
   rw [g3] at ih
   rw [cond_dec (by omega), chk_and, chk_dec (by omega), chk_dec (by omega), hw1]
   cases b with
   | true =>
    simp only [cond_true]
    exact ih true (by simpa using h3)
   | false =>
    simp only [cond_false]
    cases hin : r.2.2.2 with
    | false =>
     simp only [cond_false]
     rw [hin] at ih h3
     exact ih false (by simp)
    | true =>
     simp only [cond_true]
     rw [hin] at ih h3
     rw [rdA_drop hd, lSameB _ _ (by rw [size_B]; exact hr) ha.s, bl_B]
     exact ih _ (by simpa using h3)
theorem po_loop (nt : Bool) (ns : LA) (hns : ns.length <= 1000) (hf : ∀ a ∈ ns, Fit NB a) (rs : List Rw) (hn : rs.length <= 1000000) (hnm : ∀ r ∈ rs, r.2.1.length <= NB) (κ : BA -> Option R) : ∀ (m i f : Nat) (acc : List UInt8), rs.length <= i + m -> i <= rs.length -> 2000 * m + 1 <= f -> acc.length + tlR (rs.drop i) <= 1000000 ->
  po3 κ f nt ns (rs.length : Int) (i : Int) (intsAV acc) (rs.map rowAV) = κ (B (acc ++ pkN nt ns (rs.drop i) ++ [13, 10]))
 | m, i, 0, acc, h1, h2, h3, h4 => by omega
 | m, i, f + 1, acc, h1, h2, h3, h4 => by
  rw [po3_succ, le_Pick1.t3]
  have hal := ints_len acc
  have hml : (rs.map rowAV).length = rs.length := List.length_map ..
  have hw1 : IntKind.wrap .i64 ((i : Int) + 1) = ((i + 1 : Nat) : Int) := wrap_i64 (by omega) (by omega)
  cases hd : rs.drop i with
  | nil =>
   have := drop_nil hd
   rw [hd] at h4
   rw [cond_dec' (by omega), show ((⟨#[13, 10]⟩ : BA)) = B [13, 10] from rfl, wString_eq _ _ _ (by rw [ints_len, size_B]; simp at h4 ⊢; omega), bytesB, ints_append, bString_eq]
   unfold pkN
   simp
  | cons r t =>
   obtain ⟨g1, g2, g3⟩ := drop_get hd
   obtain ⟨m', rfl⟩ : ∃ m', m = m' + 1 := ⟨m - 1, by omega⟩
   rw [hd, tlR_cons] at h4
   have hpk : pkN nt ns (r :: t) = rowO nt ns r ++ pkN nt ns t := by unfold pkN; simp
   rw [cond_dec (by omega), chk_and, chk_dec (by omega), chk_dec (by omega), row_get g1]
   rw [show ((rowAV r).fld 0).s = B r.1 from rfl, show ((rowAV r).fld 1).s = B r.2.1 from rfl, show ((rowAV r).fld 2).b = r.2.2.1 from rfl, show ((rowAV r).fld 3).b = r.2.2.2 from rfl]
   refine po_names nt ns hns hf rs.length i (intsAV acc) r (hnm r (List.mem_of_getElem? g1)) (rs.map rowAV) κ _ (2000 * m' + 1) (fun f' hf' => ?_) ns.length 0 f false (by omega) (by omega) (by simp) (by omega)
   rw [hw1, hpk]
   unfold rowO
   cases outR nt ns r with
   | true =>
    simp only [cond_true]
    have := po_loop nt ns hns hf rs hn hnm κ m' (i + 1) f' acc (by omega) (by omega) hf' (by rw [g3]; omega)
    rw [g3] at this
    rw [this]; simp
   | false =>
    simp only [cond_false]
    rw [wString_eq _ _ _ (by rw [ints_len, size_B]; omega), bytesB, ints_append, endC_eq r.1 (by omega)]
    cases he : endC r.1 with
    | true =>
     have := po_loop nt ns hns hf rs hn hnm κ m' (i + 1) f' (acc ++ r.1) (by omega) (by omega) hf' (by rw [g3, List.length_append]; omega)
     rw [g3] at this
     simp only [Bool.not_true, cond_false]
     rw [this, endL_end he]; simp
    | false =>
     have hel : endL r.1 = r.1 ++ [13, 10] := by unfold endL; rw [he]; rfl
     have := po_loop nt ns hns hf rs hn hnm κ m' (i + 1) f' (acc ++ r.1 ++ [13, 10]) (by omega) (by omega) hf' (by rw [g3, List.length_append, List.length_append]; simp; omega)
     rw [g3] at this
     simp only [Bool.not_false, cond_true]
     rw [show ((⟨#[13, 10]⟩ : BA)) = B [13, 10] from rfl, wString_eq _ _ _ (by rw [ints_len, size_B, List.length_append]; simp; omega), bytesB, ints_append, this, hel]; simp
theorem rowsG_nm : ∀ (fld : Bool) (nm : List UInt8) (l : List (List UInt8)) (N : Nat), nm.length <= N -> total l <= N -> ∀ r ∈ rowsG fld nm l, r.2.1.length <= N
 | fld, nm, [], N, h1, h2, r, hr => by rw [rowsG] at hr; cases hr
 | fld, nm, c :: t, N, h1, h2, r, hr => by
  simp only [total] at h2
  rw [rowsG_cons] at hr
  cases hb : isBl (c.headD 0) with
  | true =>
   rw [hb, cond_true] at hr
   rcases List.mem_cons.1 hr with h | h
   ·rw [h]; exact h1
   ·exact rowsG_nm fld nm t N h1 (by omega) r h
  | false =>
   rw [hb, cond_false] at hr
   have := nmL_le c
   rcases List.mem_cons.1 hr with h | h
   ·rw [h]; show (nmL c).length <= N; omega
   ·exact rowsG_nm _ _ t N (by omega) (by omega) r h
theorem lPick_eq (nt : Bool) (ns : LA) (hns : ns.length <= 1000) (hf : ∀ a ∈ ns, Fit NB a) (h : List UInt8) (hs : h.length <= 200000) (κ : BA -> Option R) : le_Pick1 (B h) nt ns κ = κ (B (pkN nt ns (rowsG false [] (headL h)) ++ [13, 10])) := by
 have h1 := headL_len h
 have h2 := headL_total h
 have h3 := rowsG_len false [] (headL h)
 have h4 := tlR_fst (rowsG false [] (headL h))
 rw [rowsG_fst] at h4
 have h5 := rowsG_nm false [] (headL h) 200000 (by simp) (by omega)
 have key : ∀ f, 2000 * 300000 < f -> le_Pick1.e le_rows st_Builder_WriteString st_Builder_String oc_Same st_HasSuffix (B h) nt ns (po3 κ f) (po7 κ f) κ = κ (B (pkN nt ns (rowsG false [] (headL h)) ++ [13, 10])) := by
  intro f hf'
  unfold le_Pick1.e
  rw [rows_eq h (by omega), List.length_map]
  have := po_loop nt ns hns hf (rowsG false [] (headL h)) (by omega) (fun r hr => by have := h5 r hr; unfold NB; omega) κ (rowsG false [] (headL h)).length 0 f [] (by omega) (by omega) (by omega) (by simp only [List.length_nil, List.drop_zero]; omega)
  rw [List.drop_zero, List.nil_append] at this
  exact this
 exact key fuelK (by unfold fuelK; omega)
theorem fin_pl (w : List UInt8) (x : LV) (em : Bool) : (finG w x em).a = x.a /\ (finG w x em).b = x.b /\ (finG w x em).c = x.c /\ (finG w x em).d = x.d := by
 unfold finG offL
 split
 ·split
  ·exact ⟨rfl, rfl, rfl, rfl⟩
  ·split <;> exact ⟨rfl, rfl, rfl, rfl⟩
 ·split <;> exact ⟨rfl, rfl, rfl, rfl⟩
theorem ibeq_f {a b : Int} (h : a ≠ b) : (a == b) = false := beq_eq_false_iff_ne.2 h
theorem ibeq_t {a b : Int} (h : a = b) : (a == b) = true := beq_iff_eq.2 h
def plN (N : Nat) (y : LV) : Prop := y.a <= y.b /\ y.b = y.c /\ y.c <= y.d /\ y.d <= N
def Gw (N : Nat) : Nat -> LV -> LA -> Prop
 | 0, y, k => plN N y /\ y.p.length <= 100 /\ k = []
 | n + 1, y, k => plN N y /\ y.p.length + 3 * (n + 1) <= 100 /\ k.length <= 16 /\ (msgT y = true -> k ≠ [] -> ∃ y0 k0 r, k = limbAV y0 k0 :: r /\ y0.a = y.c /\ y0.d = y.d /\ Gw N n y0 k0) /\ ∀ v ∈ k, ∃ y0 k0, v = limbAV y0 k0 /\ Gw N n y0 k0
theorem Gw.pl {N : Nat} : ∀ {n : Nat} {y : LV} {k : LA}, Gw N n y k -> plN N y
 | 0, _, _, h => h.1
 | _ + 1, _, _, h => h.1
theorem Gw.plen {N : Nat} : ∀ {n : Nat} {y : LV} {k : LA}, Gw N n y k -> y.p.length <= 100
 | 0, _, _, h => h.2.1
 | _ + 1, _, _, h => by have := h.2.1; omega
theorem Gw.klen {N : Nat} : ∀ {n : Nat} {y : LV} {k : LA}, Gw N n y k -> k.length <= 16
 | 0, _, _, h => by rw [h.2.2]; simp
 | _ + 1, _, _, h => h.2.2.1
theorem Gw.kid {N : Nat} : ∀ {n : Nat} {y : LV} {k : LA}, Gw N n y k -> ∀ v ∈ k, ∃ m y0 k0, n = m + 1 /\ v = limbAV y0 k0 /\ Gw N m y0 k0
 | 0, _, _, h, v, hv => by rw [h.2.2] at hv; cases hv
 | m + 1, _, _, h, v, hv => by obtain ⟨y0, k0, h1, h2⟩ := h.2.2.2.2 v hv; exact ⟨m, y0, k0, rfl, h1, h2⟩
theorem fin_p (w : List UInt8) (x : LV) (em : Bool) : (finG w x em).p = x.p := by
 unfold finG offL
 split
 ·split
  ·rfl
  ·split <;> rfl
 ·split <;> rfl
theorem op_pl (w : List UInt8) (n : Nat) (x : LV) (deep : Nat) (is : Bool) (cnt : Nat) : (opG w n x deep is cnt).1.a = x.a /\ (opG w n x deep is cnt).1.d = x.d := by
 cases n with
 | zero => exact ⟨rfl, rfl⟩
 | succ n =>
  rw [opG]
  split
  ·exact ⟨(fin_pl w x _).1, (fin_pl w x _).2.2.2⟩
  ·exact ⟨(fin_pl w x _).1, (fin_pl w x _).2.2.2⟩
theorem kids_all {P : AV -> Prop} {rec : LV -> Nat -> LV × LA × Nat} {w : List UInt8} {plc : Nat -> List UInt8} {dg : Bool} (hrec : ∀ q i c, q.1 <= q.2 -> q.2 <= w.length -> P (limbAV (rec (kidL w q (plc i) dg) c).1 (rec (kidL w q (plc i) dg) c).2.1)) : ∀ (r : List (Nat × Nat)) (i : Nat) (acc : LA) (cnt : Nat), (∀ v ∈ acc, P v) -> (∀ q ∈ r, q.1 <= q.2 /\ q.2 <= w.length) -> ∀ v ∈ (kidsG rec w plc dg i acc cnt r).1, P v
 | [], _, _, _, h, _ => h
 | q :: r, i, acc, cnt, h, hr => by
  rw [kidsG]
  refine kids_all hrec r _ _ _ (fun v hv => ?_) fun p hp => hr p (by simp [hp])
  rcases List.mem_append.1 hv with h1 | h1
  ·exact h v h1
  ·rw [List.mem_singleton] at h1; subst h1
   exact hrec q (i + 1) cnt (hr q (by simp)).1 (hr q (by simp)).2
theorem op_gw {w : List UInt8} (hw : w.length <= 200000) : ∀ (n : Nat) (x : LV) (deep : Nat) (is : Bool) (cnt : Nat), okL w x -> x.b = x.c -> x.a <= x.c -> x.p.length + 3 * n <= 100 -> Gw w.length n (opG w n x deep is cnt).1 (opG w n x deep is cnt).2.1
 | 0, x, deep, is, cnt, hx, hb, ha, hp => ⟨⟨(show x.a <= x.b by rw [hb]; exact ha), hb, hx.1, hx.2.1⟩, (show x.p.length <= 100 by omega), rfl⟩
 | n + 1, x, deep, is, cnt, hx, hb, ha, hp => by
  have pl : ∀ em, plN w.length (finG w x em) := fun em => by
   obtain ⟨p1, p2, p3, p4⟩ := fin_pl w x em
   exact ⟨by rw [p1, p2, hb]; exact ha, by rw [p2, p3, hb], by rw [p3, p4]; exact hx.1, by rw [p4]; exact hx.2.1⟩
  rw [opG]
  split
  ·rename_i c
   have hin := piG_in hw hx
   have kid : ∀ (q : Nat × Nat) (i cc : Nat), q.1 <= q.2 -> q.2 <= w.length -> Gw w.length n (opG w n (kidL w q (plcG x is i) (dgG x)) (deep + 1) (msgT x) cc).1 (opG w n (kidL w q (plcG x is i) (dgG x)) (deep + 1) (msgT x) cc).2.1 := fun q i cc h1 h2 => by
    refine op_gw hw n _ _ _ _ (kid_ok h1 h2 _ _) rfl (Nat.le_add_right _ _) ?_
    have := plc_len x is i
    show (plcG x is i).length + 3 * n <= 100
    omega
   have hlen := kids_len (rec := fun y c => opG w n y (deep + 1) (msgT x) c) (w := w) (plcG x is) (dgG x) (piG w x) 0 [] (cnt + (piG w x).length)
   refine ⟨pl _, by rw [fin_p]; exact hp, (by simp only [List.length_nil] at hlen; show (kidsG _ _ _ _ _ _ _ _).1.length <= 16; omega), fun hm hk => ?_, kids_all (P := fun v => ∃ y0 k0, v = limbAV y0 k0 /\ Gw w.length n y0 k0) (fun q i cc h1 h2 => ⟨_, _, rfl, kid q i cc h1 h2⟩) _ _ _ _ (fun v hv => (by cases hv)) hin⟩
   generalize hK : kidsG (fun y c => opG w n y (deep + 1) (msgT x) c) w (plcG x is) (dgG x) 0 [] (cnt + (piG w x).length) (piG w x) = K at hm hk ⊢
   have hem : K.1.isEmpty = false := by cases h : K.1 with
    | nil => exact absurd h hk
    | cons a l => rfl
   rw [hem] at hm ⊢
   have hmx : msgT x = true := by
    have : msgT (finG w x false) = msgT x := by
     show msgT (if msgT x then { x with e := endsL (bodyL w x) } else x) = _
     split <;> rfl
    rw [<- this]; exact hm
   obtain ⟨p1, p2, p3, p4⟩ := fin_pl w x false
   rw [p3, p4]
   unfold piG at hK hin
   rw [if_pos hmx] at hK hin
   split at hK
   ·rename_i hco
    rw [if_pos hco] at hin
    have hq := hin (x.c, x.d) (by simp)
    rw [kidsG, kidsG, List.nil_append] at hK
    refine ⟨(opG w n (kidL w (x.c, x.d) (plcG x is (0 + 1)) (dgG x)) (deep + 1) (msgT x) (cnt + [(x.c, x.d)].length)).1, (opG w n (kidL w (x.c, x.d) (plcG x is (0 + 1)) (dgG x)) (deep + 1) (msgT x) (cnt + [(x.c, x.d)].length)).2.1, [], by rw [<- hK], (op_pl ..).1, (op_pl ..).2, kid (x.c, x.d) (0 + 1) _ hq.1 hq.2⟩
   ·rw [kidsG] at hK; rw [<- hK] at hk; exact absurd rfl hk
  ·exact ⟨pl _, by rw [fin_p]; exact hp, by simp, fun _ hk => absurd rfl hk, fun v hv => (by cases hv)⟩
theorem num_loop (s : BA) (hs : s.size <= 281474976710656) : ∀ (f i : Nat) (x : Int), s.size < i + f -> i <= s.size -> 0 <= x -> x <= 100000000000 -> ∃ n : Int, 0 <= n /\ n <= 100000000000 /\ ∀ κ : Int -> Option R, lm_number.L3 κ f s x (s.size : Int) (i : Int) = κ n
 | 0, i, x, h, h2, _, _ => by omega
 | f + 1, i, x, h, h2, h3, h4 => by
  by_cases hi : i < s.size
  ·have zero : ∀ P : Prop, P -> (∀ κ : Int -> Option R, lm_number.L3 κ (f + 1) s x (s.size : Int) (i : Int) = κ 0) -> ∃ n : Int, 0 <= n /\ n <= 100000000000 /\ ∀ κ : Int -> Option R, lm_number.L3 κ (f + 1) s x (s.size : Int) (i : Int) = κ n := fun _ _ h => ⟨0, by omega, by omega, h⟩
   by_cases c1 : btA s i < 48
   ·exact zero True trivial fun κ => by rw [lm_number.L3, lm_number.t3, cond_dec (by omega), chk_and, chk_dec (by omega), chk_dec (by omega), cond_dec c1]
   ·by_cases c2 : btA s i > 57
    ·exact zero True trivial fun κ => by rw [lm_number.L3, lm_number.t3, cond_dec (by omega), chk_and, chk_dec (by omega), chk_dec (by omega), cond_dec' c1, chk_and, chk_dec (by omega), chk_dec (by omega), cond_dec c2]
    ·have hd : ∀ κ : Int -> Option R, lm_number.L3 κ (f + 1) s x (s.size : Int) (i : Int) = κ 0 ∨ (x <= 4294967295 /\ lm_number.L3 κ (f + 1) s x (s.size : Int) (i : Int) = lm_number.L3 κ f s (IntKind.wrap .i64 ((IntKind.wrap .i64 (x * 10)) + (IntKind.wrap .i64 (IntKind.wrap .u8 ((btA s i) - 48))))) (s.size : Int) (IntKind.wrap .i64 ((i : Int) + 1))) := fun κ => by
      rw [lm_number.L3, lm_number.t3, cond_dec (by omega), chk_and, chk_dec (by omega), chk_dec (by omega), cond_dec' c1, chk_and, chk_dec (by omega), chk_dec (by omega), cond_dec' c2]
      cases e : ((i : Int) == 0) with
      | true =>
       rw [cond_true, chk_and, chk_dec (by omega), chk_dec (by omega)]
       cases e2 : (btA s (i : Int) == 48) with
       | true => rw [cond_true]; exact .inl rfl
       | false =>
        rw [cond_false]
        by_cases c3 : x > 4294967295
        ·rw [cond_dec c3]; exact .inl rfl
        ·rw [cond_dec' c3, chk_and, chk_dec (by omega), chk_dec (by omega)]; exact .inr ⟨by omega, rfl⟩
      | false =>
       rw [cond_false]
       by_cases c3 : x > 4294967295
       ·rw [cond_dec c3]; exact .inl rfl
       ·rw [cond_dec' c3, chk_and, chk_dec (by omega), chk_dec (by omega)]; exact .inr ⟨by omega, rfl⟩
     by_cases c3 : x <= 4294967295
     ·by_cases c4 : (i : Int) = 0 /\ btA s (i : Int) = 48
      ·refine zero True trivial fun κ => ?_
       rw [lm_number.L3, lm_number.t3, cond_dec (by omega), chk_and, chk_dec (by omega), chk_dec (by omega), cond_dec' c1, chk_and, chk_dec (by omega), chk_dec (by omega), cond_dec' c2, ibeq_t c4.1, cond_true, chk_and, chk_dec (by omega), chk_dec (by omega), ibeq_t c4.2, cond_true]
      ·have hw : IntKind.wrap .i64 ((IntKind.wrap .i64 (x * 10)) + (IntKind.wrap .i64 (IntKind.wrap .u8 ((btA s i) - 48)))) = x * 10 + (btA s i - 48) := by
        rw [wrap_u8 (by omega) (by omega), wrap_i64 (x := x * 10) (by omega) (by omega), wrap_i64 (x := btA s i - 48) (by omega) (by omega), wrap_i64 (by omega) (by omega)]
       obtain ⟨n, g1, g2, g3⟩ := num_loop s hs f (i + 1) (x * 10 + (btA s i - 48)) (by omega) (by omega) (by omega) (by omega)
       refine ⟨n, g1, g2, fun κ => ?_⟩
       rw [<- g3 κ, lm_number.L3, lm_number.t3, cond_dec (by omega), chk_and, chk_dec (by omega), chk_dec (by omega), cond_dec' c1, chk_and, chk_dec (by omega), chk_dec (by omega), cond_dec' c2, cond_dec' (show ¬ x > 4294967295 by omega), hw, wrap_i64 (x := (i : Int) + 1) (by omega) (by omega)]
       by_cases c5 : (i : Int) = 0
       ·rw [ibeq_t c5, cond_true, chk_and, chk_dec (by omega), chk_dec (by omega), ibeq_f (fun e => c4 ⟨c5, e⟩), cond_false, chk_and, chk_dec (by omega), chk_dec (by omega)]; rfl
       ·rw [ibeq_f c5, cond_false, chk_and, chk_dec (by omega), chk_dec (by omega)]; rfl
     ·refine zero True trivial fun κ => ?_
      rcases hd κ with h | ⟨h, _⟩
      ·exact h
      ·exact absurd h c3
  ·exact ⟨x, h3, h4, fun κ => by rw [lm_number.L3, lm_number.t3, cond_dec' (by omega)]⟩
theorem num_ok (s : BA) (hs : s.size <= 281474976710656) : ∃ n : Int, 0 <= n /\ n <= 100000000000 /\ ∀ κ : Int -> Option R, lm_number s κ = κ n :=
 num_loop s hs fuelK 0 0 (by unfold fuelK; omega) (by omega) (by omega) (by omega)
def preP (at' p : List UInt8) : List UInt8 := if p = [] then at' else at' ++ 46 :: p
def shV (F : Nat) (at' : List UInt8) (y : LV) : LV := { y with p := preP at' y.p, a := y.a + F, b := y.b + F, c := y.c + F, d := y.d + F }
def shQ (F : Nat) (q : Nat × Nat) : Nat × Nat := (q.1 + F, q.2 + F)
def InW (w v : List UInt8) (F : Nat) : Prop := ∃ z, w.drop F = v ++ z
theorem InW.slice {w v : List UInt8} {F : Nat} (h : InW w v F) {a b : Nat} (hb : b <= v.length) : (w.take (b + F)).drop (a + F) = (v.take b).drop a := by
 obtain ⟨z, hz⟩ := h
 have e1 : (w.take (b + F)).drop F = v.take b := by
  rw [List.drop_take, hz, show b + F - F = b by omega, List.take_append_of_le_length hb]
 rw [show a + F = F + a by omega, <- List.drop_drop, e1]
theorem InW.sli {w v : List UInt8} {F : Nat} (h : InW w v F) {q : Nat × Nat} (hb : q.2 <= v.length) : sliL w (shQ F q) = sliL v q := h.slice hb
theorem InW.body {w v : List UInt8} {F : Nat} (h : InW w v F) {x : LV} (hb : x.d <= v.length) (at' : List UInt8) : bodyL w (shV F at' x) = bodyL v x := h.slice hb
theorem decL_ne (k : Nat) : decL k ≠ [] := by unfold decL; split <;> simp
theorem und_pre {at' : List UInt8} (ha : at' ≠ []) (p : List UInt8) (k : Nat) : und (preP at' p) k = preP at' (und p k) := by
 unfold und preP
 by_cases hp : p = []
 ·rw [if_pos hp, if_pos hp, if_neg ha, if_neg (decL_ne k)]
 ·rw [if_neg hp, if_neg hp, if_neg (by simp), if_neg (by simp)]
  simp
theorem plc_sh {at' : List UInt8} (ha : at' ≠ []) (F : Nat) (x : LV) (is : Bool) (k : Nat) : plcG (shV F at' x) is k = preP at' (plcG x is k) := by
 unfold plcG
 rw [show msgT (shV F at' x) = msgT x from rfl, show (shV F at' x).p = preP at' x.p from rfl, und_pre ha]
 split
 ·split <;> rfl
 ·rfl
theorem pi_sh {w v : List UInt8} {F : Nat} (h : InW w v F) (at' : List UInt8) {x : LV} (hb : x.d <= v.length) : piG w (shV F at' x) = (piG v x).map (shQ F) := by
 unfold piG
 rw [show msgT (shV F at' x) = msgT x from rfl, show codOK (shV F at' x) = codOK x from rfl, show (shV F at' x).v = x.v from rfl, h.body hb]
 split
 ·split <;> rfl
 ·split
  ·rw [List.map_map]
   refine List.map_congr_left fun p _ => ?_
   show (x.c + F + p.1, x.c + F + p.2) = (x.c + p.1 + F, x.c + p.2 + F)
   congr 1 <;> omega
  ·rfl
theorem kid_sh {w v : List UInt8} {F : Nat} (h : InW w v F) (at' : List UInt8) {q : Nat × Nat} (hb : q.2 <= v.length) (p : List UInt8) (dg : Bool) : kidL w (shQ F q) (preP at' p) dg = shV F at' (kidL v q p dg) := by
 unfold kidL shV
 rw [h.sli hb]
 simp only [shQ]
 congr 1 <;> omega
theorem fin_sh {w v : List UInt8} {F : Nat} (h : InW w v F) (at' : List UInt8) {x : LV} (hb : x.d <= v.length) (em : Bool) : finG w (shV F at' x) em = shV F at' (finG v x em) := by
 unfold finG
 rw [show msgT (shV F at' x) = msgT x from rfl, show (shV F at' x).v = x.v from rfl, h.body hb]
 split
 ·split
  ·rfl
  ·split <;> rfl
 ·split <;> rfl
def DkL : Nat -> LA -> Prop
 | 0, k => k = []
 | m + 1, k => ∀ u ∈ k, DkL m (u.fld 21).l
def ShL (N F : Nat) (at' : List UInt8) : Nat -> LA -> LA -> Prop
 | 0, k, k' => k = [] /\ k' = []
 | m + 1, k, k' => PW (fun u u' => ∃ y j j', u = limbAV y j /\ u' = limbAV (shV F at' y) j' /\ plN N y /\ ShL N F at' m j j') k k'
theorem PW_snoc {A B : Type} {S : A -> B -> Prop} : ∀ {l : List A} {l' : List B} {x : A} {y : B}, PW S l l' -> S x y -> PW S (l ++ [x]) (l' ++ [y])
 | [], [], _, _, _, h => ⟨h, trivial⟩
 | _ :: _, _ :: _, _, _, h, h' => ⟨h.1, PW_snoc h.2 h'⟩
 | [], _ :: _, _, _, h, _ => h.elim
 | _ :: _, [], _, _, h, _ => h.elim
theorem kids_mono {rec : LV -> Nat -> LV × LA × Nat} {w : List UInt8} {plc : Nat -> List UInt8} {dg : Bool} (hrec : ∀ y c, c <= (rec y c).2.2) : ∀ (r : List (Nat × Nat)) (i : Nat) (acc : LA) (cnt : Nat), cnt <= (kidsG rec w plc dg i acc cnt r).2
 | [], _, _, _ => Nat.le_refl _
 | q :: r, i, acc, cnt => by rw [kidsG]; exact Nat.le_trans (hrec _ _) (kids_mono hrec r _ _ _)
theorem op_mono (w : List UInt8) : ∀ (n : Nat) (x : LV) (deep : Nat) (is : Bool) (cnt : Nat), cnt <= (opG w n x deep is cnt).2.2
 | 0, _, _, _, _ => Nat.le_refl _
 | n + 1, x, deep, is, cnt => by
  rw [opG]
  split
  ·exact Nat.le_trans (Nat.le_add_right _ _) (kids_mono (fun y c => op_mono w n y _ _ c) _ _ _ _)
  ·exact Nat.le_refl _
theorem kids_acc {rec : LV -> Nat -> LV × LA × Nat} {w : List UInt8} {plc : Nat -> List UInt8} {dg : Bool} : ∀ (r : List (Nat × Nat)) (i : Nat) (acc : LA) (cnt : Nat), ∀ v ∈ acc, v ∈ (kidsG rec w plc dg i acc cnt r).1
 | [], _, _, _, _, h => h
 | q :: r, i, acc, cnt, v, h => by rw [kidsG]; exact kids_acc r _ _ _ v (by simp [h])
theorem kids_sh {w v : List UInt8} {F C : Nat} (h : InW w v F) {at' : List UInt8} {m : Nat} {rec rec' : LV -> Nat -> LV × LA × Nat} {plc plc' : Nat -> List UInt8} {dg : Bool} (hplc : ∀ k, plc' k = preP at' (plc k)) (hmono : ∀ y c, c <= (rec y c).2.2)
  (hrec : ∀ q p c, q.1 <= q.2 -> q.2 <= v.length -> (rec (kidL v q p dg) c).2.2 <= 8 -> DkL m (rec (kidL v q p dg) c).2.1 -> (rec' (shV F at' (kidL v q p dg)) (c + C)).1 = shV F at' (rec (kidL v q p dg) c).1 /\ ShL v.length F at' m (rec (kidL v q p dg) c).2.1 (rec' (shV F at' (kidL v q p dg)) (c + C)).2.1 /\ (rec' (shV F at' (kidL v q p dg)) (c + C)).2.2 = (rec (kidL v q p dg) c).2.2 + C /\ plN v.length (rec (kidL v q p dg) c).1) :
  ∀ (r : List (Nat × Nat)) (i : Nat) (acc acc' : LA) (cnt : Nat), (∀ q ∈ r, q.1 <= q.2 /\ q.2 <= v.length) -> ShL v.length F at' (m + 1) acc acc' -> (kidsG rec v plc dg i acc cnt r).2 <= 8 -> DkL (m + 1) (kidsG rec v plc dg i acc cnt r).1 ->
  ShL v.length F at' (m + 1) (kidsG rec v plc dg i acc cnt r).1 (kidsG rec' w plc' dg i acc' (cnt + C) (r.map (shQ F))).1 /\ (kidsG rec' w plc' dg i acc' (cnt + C) (r.map (shQ F))).2 = (kidsG rec v plc dg i acc cnt r).2 + C
 | [], _, _, _, _, _, hs, _, _ => ⟨hs, rfl⟩
 | q :: r, i, acc, acc', cnt, hr, hs, hc, hd => by
  rw [List.map_cons, kidsG]
  rw [kidsG] at hc hd ⊢
  obtain ⟨q1, q2⟩ := hr q (by simp)
  have hle := kids_mono (w := v) (plc := plc) (dg := dg) hmono r (i + 1) (acc ++ [limbAV (rec (kidL v q (plc (i + 1)) dg) cnt).1 (rec (kidL v q (plc (i + 1)) dg) cnt).2.1]) (rec (kidL v q (plc (i + 1)) dg) cnt).2.2
  have hkd : DkL m (rec (kidL v q (plc (i + 1)) dg) cnt).2.1 := by
   exact hd _ (kids_acc r (i + 1) _ _ (limbAV (rec (kidL v q (plc (i + 1)) dg) cnt).1 (rec (kidL v q (plc (i + 1)) dg) cnt).2.1) (by simp))
  obtain ⟨e1, e2, e3, e4⟩ := hrec q (plc (i + 1)) cnt q1 q2 (by omega) hkd
  rw [hplc, kid_sh h at' q2, e3]
  refine kids_sh h hplc hmono hrec r (i + 1) _ _ _ (fun p hp => hr p (by simp [hp])) (PW_snoc hs ⟨_, _, _, rfl, by rw [e1], e4, e2⟩) hc hd
theorem op_sh {w v : List UInt8} {F D C : Nat} (h : InW w v F) (hv : v.length <= 200000) {at' : List UInt8} (ha : at' ≠ []) (hD : D <= 2) (hC : C <= 8) : ∀ (m n n' deep : Nat) (x : LV) (is : Bool) (cnt : Nat), deep + m <= 2 -> n + deep = 6 -> n' + deep + D = 6 -> okL v x -> x.b = x.c -> x.a <= x.c ->
  (opG v n x deep is cnt).2.2 <= 8 -> DkL m (opG v n x deep is cnt).2.1 ->
  (opG w n' (shV F at' x) (deep + D) is (cnt + C)).1 = shV F at' (opG v n x deep is cnt).1 /\ ShL v.length F at' m (opG v n x deep is cnt).2.1 (opG w n' (shV F at' x) (deep + D) is (cnt + C)).2.1 /\ (opG w n' (shV F at' x) (deep + D) is (cnt + C)).2.2 = (opG v n x deep is cnt).2.2 + C /\ plN v.length (opG v n x deep is cnt).1
 | m, 0, n', deep, _, _, _, h1, h2, _, _, _, _, _, _ => by omega
 | m, n + 1, 0, deep, _, _, _, h1, h2, h3, _, _, _, _, _ => by omega
 | m, n + 1, n' + 1, deep, x, is, cnt, h1, h2, h3, hx, hb, ha', hc, hd => by
  have pl : ∀ em, plN v.length (finG v x em) := fun em => by
   obtain ⟨p1, p2, p3, p4⟩ := fin_pl v x em
   exact ⟨by rw [p1, p2, hb]; exact ha', by rw [p2, p3, hb], by rw [p3, p4]; exact hx.1, by rw [p4]; exact hx.2.1⟩
  have hxd := hx.2.1
  have hin := piG_in hv hx
  have hpi := pi_sh h at' hxd
  have hlen : (piG w (shV F at' x)).length = (piG v x).length := by rw [hpi, List.length_map]
  have hpc : plcG (shV F at' x) is = fun k => preP at' (plcG x is k) := funext fun k => plc_sh ha F x is k
  rw [opG] at hc hd ⊢
  rw [opG, hlen, show dgG (shV F at' x) = dgG x from rfl, show msgT (shV F at' x) = msgT x from rfl]
  by_cases c : deep < 5 /\ cnt + (piG v x).length <= 16
  ·rw [if_pos c] at hc hd ⊢
   have hcnt : cnt + (piG v x).length <= 8 := Nat.le_trans (kids_mono (fun y c => op_mono v n y _ _ c) _ _ _ _) hc
   rw [if_pos (⟨by omega, by omega⟩ : deep + D < 5 /\ cnt + C + (piG v x).length <= 16), hpi, hpc, show cnt + C + (piG v x).length = cnt + (piG v x).length + C by omega, show deep + D + 1 = deep + 1 + D by omega]
   cases m with
   | zero =>
    have hl := kids_len (rec := fun y c => opG v n y (deep + 1) (msgT x) c) (w := v) (plcG x is) (dgG x) (piG v x) 0 [] (cnt + (piG v x).length)
    have hz : (kidsG (fun y c => opG v n y (deep + 1) (msgT x) c) v (plcG x is) (dgG x) 0 [] (cnt + (piG v x).length) (piG v x)).1 = [] := hd
    rw [hz] at hl
    have hp0 : piG v x = [] := List.length_eq_zero_iff.1 (by simp only [List.length_nil] at hl; omega)
    rw [hp0]
    exact ⟨fin_sh h at' hxd true, ⟨rfl, rfl⟩, rfl, pl _⟩
   | succ m =>
    have ks := kids_sh (C := C) h (at' := at') (m := m) (rec := fun y c => opG v n y (deep + 1) (msgT x) c) (rec' := fun y c => opG w n' y (deep + 1 + D) (msgT x) c) (plc := plcG x is) (plc' := fun k => preP at' (plcG x is k)) (dg := dgG x) (fun k => rfl) (fun y c => op_mono v n y _ _ c)
     (fun q p c q1 q2 hc hd => op_sh h hv ha hD hC m n n' (deep + 1) _ _ _ (by omega) (by omega) (by omega) (kid_ok q1 q2 _ _) rfl (Nat.le_add_right _ _) hc hd) (piG v x) 0 [] [] (cnt + (piG v x).length) hin trivial hc hd
    refine ⟨?_, ks.1, ks.2, pl _⟩
    have hem : ∀ {k k' : LA}, ShL v.length F at' (m + 1) k k' -> k'.isEmpty = k.isEmpty := fun {k k'} hs => by
     cases k <;> cases k' <;> first | rfl | exact hs.elim
    rw [hem ks.1]
    exact fin_sh h at' hxd _
  ·rw [if_neg c] at hc hd ⊢
   rw [if_neg (by omega)]
   refine ⟨fin_sh h at' hxd true, ?_, rfl, pl _⟩
   cases m with
   | zero => exact ⟨rfl, rfl⟩
   | succ m => exact trivial
def isV (v : AV) : Bool := bif decide ((v.fld 1).s = (⟨#[109, 101, 115, 115, 97, 103, 101]⟩ : BA)) then decide ((v.fld 2).s = (⟨#[114, 102, 99, 56, 50, 50]⟩ : BA)) else false
def rchE (v : AV) (ins : Bool) (m : Int) : Option (AV × Bool) :=
 if (v.fld 1).s = (⟨#[109, 117, 108, 116, 105, 112, 97, 114, 116]⟩ : BA) /\ ((v.fld 21).l.length : Int) > 0 then (if m < 1 ∨ m > ((v.fld 21).l.length : Int) then none else some (rdA (v.fld 21).l (m - 1), true)) else some (v, ins && (m == 1))
def rchS (v : AV) (ins : Bool) (m : Int) : Option (AV × Bool) := if ins = false /\ isV v = true /\ ((v.fld 21).l.length : Int) > 0 then rchE (rdA (v.fld 21).l 0) true m else rchE v ins m
def okO : Option (AV × Bool) -> Option AV
 | some (u, true) => some u
 | _ => none
def stpS (v : AV) (ins : Bool) (m : Int) : Option AV := if m = 0 then none else okO (rchS v ins m)
def rOut (κ0 : BA -> BA -> BA -> Bool -> BA -> Bool -> BA -> Bool -> BA -> Bool -> BA -> Bool -> BA -> Int -> Int -> Int -> Int -> Int -> Bool -> Option R) (κ1 : BA -> BA -> BA -> LA -> Bool -> BA -> Bool -> BA -> Bool -> BA -> Bool -> BA -> LA -> LA -> Bool -> BA -> Int -> Int -> Int -> Int -> Int -> LA -> Bool -> Option R) : Option (AV × Bool) -> Option R
 | none => κ0 (⟨#[]⟩ : BA) (⟨#[]⟩ : BA) (⟨#[]⟩ : BA) false (⟨#[]⟩ : BA) false (⟨#[]⟩ : BA) false (⟨#[]⟩ : BA) false (⟨#[]⟩ : BA) false (⟨#[]⟩ : BA) 0 0 0 0 0 false
 | some (u, ok) => κ1 (u.fld 0).s (u.fld 1).s (u.fld 2).s (u.fld 3).l (u.fld 4).b (u.fld 5).s (u.fld 6).b (u.fld 7).s (u.fld 8).b (u.fld 9).s (u.fld 10).b (u.fld 11).s (u.fld 12).l (u.fld 13).l (u.fld 14).b (u.fld 15).s (u.fld 16).i (u.fld 17).i (u.fld 18).i (u.fld 19).i (u.fld 20).i (u.fld 21).l ok
def bOut (κ0 : BA -> BA -> BA -> Bool -> BA -> Bool -> BA -> Bool -> BA -> Bool -> BA -> Bool -> BA -> Int -> Int -> Int -> Int -> Int -> Bool -> Option R) (kk : BA -> BA -> BA -> LA -> Bool -> BA -> Bool -> BA -> Bool -> BA -> Bool -> BA -> LA -> LA -> Bool -> BA -> Int -> Int -> Int -> Int -> Int -> LA -> Option R) : Option AV -> Option R
 | none => κ0 (⟨#[]⟩ : BA) (⟨#[]⟩ : BA) (⟨#[]⟩ : BA) false (⟨#[]⟩ : BA) false (⟨#[]⟩ : BA) false (⟨#[]⟩ : BA) false (⟨#[]⟩ : BA) false (⟨#[]⟩ : BA) 0 0 0 0 0 false
 | some u => kk (u.fld 0).s (u.fld 1).s (u.fld 2).s (u.fld 3).l (u.fld 4).b (u.fld 5).s (u.fld 6).b (u.fld 7).s (u.fld 8).b (u.fld 9).s (u.fld 10).b (u.fld 11).s (u.fld 12).l (u.fld 13).l (u.fld 14).b (u.fld 15).s (u.fld 16).i (u.fld 17).i (u.fld 18).i (u.fld 19).i (u.fld 20).i (u.fld 21).l
theorem lIsMv (v : AV) (κ : Bool -> BA -> BA -> BA -> LA -> Bool -> BA -> Bool -> BA -> Bool -> BA -> Bool -> BA -> LA -> LA -> Bool -> BA -> Int -> Int -> Int -> Int -> Int -> LA -> Option R) : lm_isMessage1 (v.fld 0).s (v.fld 1).s (v.fld 2).s (v.fld 3).l (v.fld 4).b (v.fld 5).s (v.fld 6).b (v.fld 7).s (v.fld 8).b (v.fld 9).s (v.fld 10).b (v.fld 11).s (v.fld 12).l (v.fld 13).l (v.fld 14).b (v.fld 15).s (v.fld 16).i (v.fld 17).i (v.fld 18).i (v.fld 19).i (v.fld 20).i (v.fld 21).l κ = κ (isV v) (v.fld 0).s (v.fld 1).s (v.fld 2).s (v.fld 3).l (v.fld 4).b (v.fld 5).s (v.fld 6).b (v.fld 7).s (v.fld 8).b (v.fld 9).s (v.fld 10).b (v.fld 11).s (v.fld 12).l (v.fld 13).l (v.fld 14).b (v.fld 15).s (v.fld 16).i (v.fld 17).i (v.fld 18).i (v.fld 19).i (v.fld 20).i (v.fld 21).l := by
 unfold lm_isMessage1 lm_isMessage1.e isV
 cases decide ((v.fld 1).s = (⟨#[109, 101, 115, 115, 97, 103, 101]⟩ : BA)) with
 | true => rfl
 | false => rfl
theorem reach_t (v : AV) (ins : Bool) (m : Int) (hm : 0 <= m) (hm2 : m <= 100000000000) (κ0 : BA -> BA -> BA -> Bool -> BA -> Bool -> BA -> Bool -> BA -> Bool -> BA -> Bool -> BA -> Int -> Int -> Int -> Int -> Int -> Bool -> Option R) (κ1 : BA -> BA -> BA -> LA -> Bool -> BA -> Bool -> BA -> Bool -> BA -> Bool -> BA -> LA -> LA -> Bool -> BA -> Int -> Int -> Int -> Int -> Int -> LA -> Bool -> Option R) : lm_reach.t3 κ0 κ1 ins m (v.fld 0).s (v.fld 1).s (v.fld 2).s (v.fld 3).l (v.fld 4).b (v.fld 5).s (v.fld 6).b (v.fld 7).s (v.fld 8).b (v.fld 9).s (v.fld 10).b (v.fld 11).s (v.fld 12).l (v.fld 13).l (v.fld 14).b (v.fld 15).s (v.fld 16).i (v.fld 17).i (v.fld 18).i (v.fld 19).i (v.fld 20).i (v.fld 21).l (⟨#[]⟩ : BA) (⟨#[]⟩ : BA) (⟨#[]⟩ : BA) false (⟨#[]⟩ : BA) false (⟨#[]⟩ : BA) false (⟨#[]⟩ : BA) false (⟨#[]⟩ : BA) false (⟨#[]⟩ : BA) 0 0 0 0 0 = rOut κ0 κ1 (rchE v ins m) := by
 have rest : (bif ins then κ1 (v.fld 0).s (v.fld 1).s (v.fld 2).s (v.fld 3).l (v.fld 4).b (v.fld 5).s (v.fld 6).b (v.fld 7).s (v.fld 8).b (v.fld 9).s (v.fld 10).b (v.fld 11).s (v.fld 12).l (v.fld 13).l (v.fld 14).b (v.fld 15).s (v.fld 16).i (v.fld 17).i (v.fld 18).i (v.fld 19).i (v.fld 20).i (v.fld 21).l (m == 1) else κ1 (v.fld 0).s (v.fld 1).s (v.fld 2).s (v.fld 3).l (v.fld 4).b (v.fld 5).s (v.fld 6).b (v.fld 7).s (v.fld 8).b (v.fld 9).s (v.fld 10).b (v.fld 11).s (v.fld 12).l (v.fld 13).l (v.fld 14).b (v.fld 15).s (v.fld 16).i (v.fld 17).i (v.fld 18).i (v.fld 19).i (v.fld 20).i (v.fld 21).l false) = κ1 (v.fld 0).s (v.fld 1).s (v.fld 2).s (v.fld 3).l (v.fld 4).b (v.fld 5).s (v.fld 6).b (v.fld 7).s (v.fld 8).b (v.fld 9).s (v.fld 10).b (v.fld 11).s (v.fld 12).l (v.fld 13).l (v.fld 14).b (v.fld 15).s (v.fld 16).i (v.fld 17).i (v.fld 18).i (v.fld 19).i (v.fld 20).i (v.fld 21).l (ins && (m == 1)) := by cases ins <;> rfl
 rw [lm_reach.t3]
 unfold rchE
 by_cases c1 : (v.fld 1).s = (⟨#[109, 117, 108, 116, 105, 112, 97, 114, 116]⟩ : BA)
 ·by_cases c2 : ((v.fld 21).l.length : Int) > 0
  ·rw [if_pos ⟨c1, c2⟩, cond_dec c1, cond_dec c2]
   by_cases c3 : m < 1
   ·rw [cond_dec c3, if_pos (.inl c3)]; rfl
   ·by_cases c4 : m > ((v.fld 21).l.length : Int)
    ·rw [cond_dec' c3, cond_dec c4, if_pos (.inr c4)]; rfl
    ·have hw : IntKind.wrap .i64 (m - 1) = m - 1 := wrap_i64 (by omega) (by omega)
     rw [cond_dec' c3, cond_dec' c4, if_neg (fun e => e.elim c3 c4), hw, chk_and, chk_dec (by omega), chk_dec (by omega)]; rfl
  ·rw [if_neg (fun e => c2 e.2), cond_dec c1, cond_dec' c2]; exact rest
 ·rw [if_neg (fun e => c1 e.1), cond_dec' c1]; exact rest
theorem reach_v : ∀ (fu : Nat) (v : AV) (ins : Bool) (m : Int), (ins = false -> 2 <= fu) -> 1 <= fu -> 0 <= m -> m <= 100000000000 -> ∀ (κ0 : BA -> BA -> BA -> Bool -> BA -> Bool -> BA -> Bool -> BA -> Bool -> BA -> Bool -> BA -> Int -> Int -> Int -> Int -> Int -> Bool -> Option R) (κ1 : BA -> BA -> BA -> LA -> Bool -> BA -> Bool -> BA -> Bool -> BA -> Bool -> BA -> LA -> LA -> Bool -> BA -> Int -> Int -> Int -> Int -> Int -> LA -> Bool -> Option R), lm_reach.R fu (v.fld 0).s (v.fld 1).s (v.fld 2).s (v.fld 3).l (v.fld 4).b (v.fld 5).s (v.fld 6).b (v.fld 7).s (v.fld 8).b (v.fld 9).s (v.fld 10).b (v.fld 11).s (v.fld 12).l (v.fld 13).l (v.fld 14).b (v.fld 15).s (v.fld 16).i (v.fld 17).i (v.fld 18).i (v.fld 19).i (v.fld 20).i (v.fld 21).l ins m κ0 κ1 = rOut κ0 κ1 (rchS v ins m)
 | 0, _, _, _, _, h, _, _ => by omega
 | fu + 1, v, ins, m, h2, _, hm, hm2 => fun κ0 κ1 => by
  have hL : lm_reach.L3 lm_isMessage1 (lm_reach.R fu) κ0 κ1 fuelK = lm_reach.t3 κ0 κ1 := rfl
  rw [lm_reach.R, lm_reach.B, lm_reach.e]
  unfold rchS
  cases ins with
  | true =>
   rw [if_neg (fun e => by cases e.1)]
   refine (cond_false _ _).trans ?_
   rw [hL]; exact reach_t v true m hm hm2 κ0 κ1
  | false =>
   refine (cond_true _ _).trans ?_
   refine (lIsMv v _).trans ?_
   cases hmsg : isV v with
   | false =>
    rw [cond_false, hL, if_neg (fun e => by cases e.2.1)]; exact reach_t v false m hm hm2 κ0 κ1
   | true =>
    rw [cond_true]
    by_cases hk : ((v.fld 21).l.length : Int) > 0
    ·rw [if_pos ⟨rfl, rfl, hk⟩, cond_dec hk, chk_dec hk]
     have ih := reach_v fu (rdA (v.fld 21).l 0) true m (fun h => by cases h) (by have := h2 rfl; omega) hm hm2 κ0 κ1
     unfold rchS at ih
     rw [if_neg (fun e => by cases e.1)] at ih
     exact ih
    ·rw [if_neg (fun e => hk e.2.2), cond_dec' hk, hL]; exact reach_t v false m hm hm2 κ0 κ1
theorem b_v (v : AV) (ins : Bool) (p : BA) {n : Int} (h0 : 0 <= n) (h1 : n <= 100000000000) (hnum : ∀ κ : Int -> Option R, lm_number p κ = κ n) (κ0 : BA -> BA -> BA -> Bool -> BA -> Bool -> BA -> Bool -> BA -> Bool -> BA -> Bool -> BA -> Int -> Int -> Int -> Int -> Int -> Bool -> Option R) (kk : BA -> BA -> BA -> LA -> Bool -> BA -> Bool -> BA -> Bool -> BA -> Bool -> BA -> LA -> LA -> Bool -> BA -> Int -> Int -> Int -> Int -> Int -> LA -> Option R) : lm_find.b lm_number lm_reach κ0 kk p (v.fld 0).s (v.fld 1).s (v.fld 2).s (v.fld 3).l (v.fld 4).b (v.fld 5).s (v.fld 6).b (v.fld 7).s (v.fld 8).b (v.fld 9).s (v.fld 10).b (v.fld 11).s (v.fld 12).l (v.fld 13).l (v.fld 14).b (v.fld 15).s (v.fld 16).i (v.fld 17).i (v.fld 18).i (v.fld 19).i (v.fld 20).i (v.fld 21).l ins = bOut κ0 kk (stpS v ins n) := by
 unfold lm_find.b stpS
 rw [hnum]
 by_cases c : n = 0
 ·rw [ibeq_t c, cond_true, if_pos c]; rfl
 ·rw [ibeq_f c, cond_false, if_neg c]
  refine (reach_v (R := R) fuelK v ins n (fun _ => by unfold fuelK; omega) (by unfold fuelK; omega) h0 h1 _ _).trans ?_
  rcases rchS v ins n with _ | ⟨u, ok⟩
  ·rfl
  ·cases ok <;> rfl
theorem index_dot (p : BA) (κ : Int -> Option R) : st_Index p (⟨#[46]⟩ : BA) κ = κ (Lib.index (bl p) [46]) := by
 unfold st_Index st_Index.e sl_Index
 rw [chk_dec (.inr rfl)]; rfl
theorem L_succ (v : AV) (q : BA) (f : Nat) (ins : Bool) (p : BA) (κ0 : BA -> BA -> BA -> Bool -> BA -> Bool -> BA -> Bool -> BA -> Bool -> BA -> Bool -> BA -> Int -> Int -> Int -> Int -> Int -> Bool -> Option R) (κ1 : BA -> BA -> BA -> LA -> Bool -> BA -> Bool -> BA -> Bool -> BA -> Bool -> BA -> LA -> LA -> Bool -> BA -> Int -> Int -> Int -> Int -> Int -> LA -> Bool -> Option R) : lm_find.L lm_number lm_reach st_Index κ0 κ1 q (f + 1) ins p (v.fld 0).s (v.fld 1).s (v.fld 2).s (v.fld 3).l (v.fld 4).b (v.fld 5).s (v.fld 6).b (v.fld 7).s (v.fld 8).b (v.fld 9).s (v.fld 10).b (v.fld 11).s (v.fld 12).l (v.fld 13).l (v.fld 14).b (v.fld 15).s (v.fld 16).i (v.fld 17).i (v.fld 18).i (v.fld 19).i (v.fld 20).i (v.fld 21).l = (bif decide (Lib.index (bl p) [46] < 0) then lm_find.b lm_number lm_reach κ0 (fun y0 y1 y2 y3 y4 y5 y6 y7 y8 y9 y10 y11 y12 y13 y14 y15 y16 y17 y18 y19 y20 y21 => κ1 q y1 y2 y3 y4 y5 y6 y7 y8 y9 y10 y11 y12 y13 y14 y15 y16 y17 y18 y19 y20 y21 true) p (v.fld 0).s (v.fld 1).s (v.fld 2).s (v.fld 3).l (v.fld 4).b (v.fld 5).s (v.fld 6).b (v.fld 7).s (v.fld 8).b (v.fld 9).s (v.fld 10).b (v.fld 11).s (v.fld 12).l (v.fld 13).l (v.fld 14).b (v.fld 15).s (v.fld 16).i (v.fld 17).i (v.fld 18).i (v.fld 19).i (v.fld 20).i (v.fld 21).l ins else chk (decide (Lib.index (bl p) [46] + 1 <= (p.size : Int))) (lm_find.b lm_number lm_reach κ0 (lm_find.L lm_number lm_reach st_Index κ0 κ1 q f false (p.extract ((Lib.index (bl p) [46]).toNat + 1) p.size)) (p.extract 0 (Lib.index (bl p) [46]).toNat) (v.fld 0).s (v.fld 1).s (v.fld 2).s (v.fld 3).l (v.fld 4).b (v.fld 5).s (v.fld 6).b (v.fld 7).s (v.fld 8).b (v.fld 9).s (v.fld 10).b (v.fld 11).s (v.fld 12).l (v.fld 13).l (v.fld 14).b (v.fld 15).s (v.fld 16).i (v.fld 17).i (v.fld 18).i (v.fld 19).i (v.fld 20).i (v.fld 21).l ins)) := by
 rw [lm_find.L]; unfold lm_find.t
 exact index_dot p _
theorem dot_le (p : BA) (h : ¬ Lib.index (bl p) [46] < 0) : Lib.index (bl p) [46] + 1 <= (p.size : Int) := by
 have hr := index_room (bl p) [46]
 have := hr (by omega)
 have := size_bl p
 simp only [List.length_cons, List.length_nil] at *
 omega
theorem stp_msg {M K0 : AV} {r : LA} (h1 : isV M = true) (h2 : (M.fld 21).l = K0 :: r) (m : Int) : stpS M false m = stpS K0 true m := by
 unfold stpS rchS
 by_cases c : m = 0
 ·rw [if_pos c, if_pos c]
 ·rw [if_neg c, if_neg c, if_pos ⟨rfl, h1, by rw [h2]; simp only [List.length_cons]; omega⟩, if_neg (fun e => by cases e.1), h2]
  rfl
theorem L_msg (q : BA) {M K0 : AV} {r : LA} (h1 : isV M = true) (h2 : (M.fld 21).l = K0 :: r) (f : Nat) (p : BA) (hp : p.size <= 281474976710656) (κ0 : BA -> BA -> BA -> Bool -> BA -> Bool -> BA -> Bool -> BA -> Bool -> BA -> Bool -> BA -> Int -> Int -> Int -> Int -> Int -> Bool -> Option R) (κ1 : BA -> BA -> BA -> LA -> Bool -> BA -> Bool -> BA -> Bool -> BA -> Bool -> BA -> LA -> LA -> Bool -> BA -> Int -> Int -> Int -> Int -> Int -> LA -> Bool -> Option R) : lm_find.L lm_number lm_reach st_Index κ0 κ1 q f false p (M.fld 0).s (M.fld 1).s (M.fld 2).s (M.fld 3).l (M.fld 4).b (M.fld 5).s (M.fld 6).b (M.fld 7).s (M.fld 8).b (M.fld 9).s (M.fld 10).b (M.fld 11).s (M.fld 12).l (M.fld 13).l (M.fld 14).b (M.fld 15).s (M.fld 16).i (M.fld 17).i (M.fld 18).i (M.fld 19).i (M.fld 20).i (M.fld 21).l = lm_find.L lm_number lm_reach st_Index κ0 κ1 q f true p (K0.fld 0).s (K0.fld 1).s (K0.fld 2).s (K0.fld 3).l (K0.fld 4).b (K0.fld 5).s (K0.fld 6).b (K0.fld 7).s (K0.fld 8).b (K0.fld 9).s (K0.fld 10).b (K0.fld 11).s (K0.fld 12).l (K0.fld 13).l (K0.fld 14).b (K0.fld 15).s (K0.fld 16).i (K0.fld 17).i (K0.fld 18).i (K0.fld 19).i (K0.fld 20).i (K0.fld 21).l := by
 cases f with
 | zero => rfl
 | succ f =>
  have hb : ∀ (p : BA), p.size <= 281474976710656 -> ∀ (kk : BA -> BA -> BA -> LA -> Bool -> BA -> Bool -> BA -> Bool -> BA -> Bool -> BA -> LA -> LA -> Bool -> BA -> Int -> Int -> Int -> Int -> Int -> LA -> Option R), lm_find.b lm_number lm_reach κ0 kk p (M.fld 0).s (M.fld 1).s (M.fld 2).s (M.fld 3).l (M.fld 4).b (M.fld 5).s (M.fld 6).b (M.fld 7).s (M.fld 8).b (M.fld 9).s (M.fld 10).b (M.fld 11).s (M.fld 12).l (M.fld 13).l (M.fld 14).b (M.fld 15).s (M.fld 16).i (M.fld 17).i (M.fld 18).i (M.fld 19).i (M.fld 20).i (M.fld 21).l false = lm_find.b lm_number lm_reach κ0 kk p (K0.fld 0).s (K0.fld 1).s (K0.fld 2).s (K0.fld 3).l (K0.fld 4).b (K0.fld 5).s (K0.fld 6).b (K0.fld 7).s (K0.fld 8).b (K0.fld 9).s (K0.fld 10).b (K0.fld 11).s (K0.fld 12).l (K0.fld 13).l (K0.fld 14).b (K0.fld 15).s (K0.fld 16).i (K0.fld 17).i (K0.fld 18).i (K0.fld 19).i (K0.fld 20).i (K0.fld 21).l true := fun p hp kk => by
   obtain ⟨n, g1, g2, hnum⟩ := num_ok (R := R) p hp
   rw [b_v M false p g1 g2 hnum, b_v K0 true p g1 g2 hnum, stp_msg h1 h2]
  rw [L_succ, L_succ, hb p hp]
  by_cases c : Lib.index (bl p) [46] < 0
  ·rw [cond_dec c, cond_dec c]
  ·rw [cond_dec' c, cond_dec' c, chk_dec (dot_le p c), chk_dec (dot_le p c), hb _ (by rw [ByteArray.size_extract]; omega)]
theorem f_two {Rl : AV -> AV -> Prop} (hR : ∀ v v' ins m, Rl v v' -> 0 <= m -> (stpS v ins m = none /\ stpS v' ins m = none) ∨ ∃ u u', stpS v ins m = some u /\ stpS v' ins m = some u' /\ Rl u u') (q q' : BA) :
  ∀ (s f f' : Nat) (p : BA) (v v' : AV) (ins : Bool), Rl v v' -> p.size < s -> s <= f -> s <= f' -> p.size <= 281474976710656 ->
  (∀ (κ0 : BA -> BA -> BA -> Bool -> BA -> Bool -> BA -> Bool -> BA -> Bool -> BA -> Bool -> BA -> Int -> Int -> Int -> Int -> Int -> Bool -> Option R) (κ1 : BA -> BA -> BA -> LA -> Bool -> BA -> Bool -> BA -> Bool -> BA -> Bool -> BA -> LA -> LA -> Bool -> BA -> Int -> Int -> Int -> Int -> Int -> LA -> Bool -> Option R), lm_find.L lm_number lm_reach st_Index κ0 κ1 q f ins p (v.fld 0).s (v.fld 1).s (v.fld 2).s (v.fld 3).l (v.fld 4).b (v.fld 5).s (v.fld 6).b (v.fld 7).s (v.fld 8).b (v.fld 9).s (v.fld 10).b (v.fld 11).s (v.fld 12).l (v.fld 13).l (v.fld 14).b (v.fld 15).s (v.fld 16).i (v.fld 17).i (v.fld 18).i (v.fld 19).i (v.fld 20).i (v.fld 21).l = κ0 (⟨#[]⟩ : BA) (⟨#[]⟩ : BA) (⟨#[]⟩ : BA) false (⟨#[]⟩ : BA) false (⟨#[]⟩ : BA) false (⟨#[]⟩ : BA) false (⟨#[]⟩ : BA) false (⟨#[]⟩ : BA) 0 0 0 0 0 false /\ lm_find.L lm_number lm_reach st_Index κ0 κ1 q' f' ins p (v'.fld 0).s (v'.fld 1).s (v'.fld 2).s (v'.fld 3).l (v'.fld 4).b (v'.fld 5).s (v'.fld 6).b (v'.fld 7).s (v'.fld 8).b (v'.fld 9).s (v'.fld 10).b (v'.fld 11).s (v'.fld 12).l (v'.fld 13).l (v'.fld 14).b (v'.fld 15).s (v'.fld 16).i (v'.fld 17).i (v'.fld 18).i (v'.fld 19).i (v'.fld 20).i (v'.fld 21).l = κ0 (⟨#[]⟩ : BA) (⟨#[]⟩ : BA) (⟨#[]⟩ : BA) false (⟨#[]⟩ : BA) false (⟨#[]⟩ : BA) false (⟨#[]⟩ : BA) false (⟨#[]⟩ : BA) false (⟨#[]⟩ : BA) 0 0 0 0 0 false) ∨
  ∃ u u', Rl u u' /\ ∀ (κ0 : BA -> BA -> BA -> Bool -> BA -> Bool -> BA -> Bool -> BA -> Bool -> BA -> Bool -> BA -> Int -> Int -> Int -> Int -> Int -> Bool -> Option R) (κ1 : BA -> BA -> BA -> LA -> Bool -> BA -> Bool -> BA -> Bool -> BA -> Bool -> BA -> LA -> LA -> Bool -> BA -> Int -> Int -> Int -> Int -> Int -> LA -> Bool -> Option R), lm_find.L lm_number lm_reach st_Index κ0 κ1 q f ins p (v.fld 0).s (v.fld 1).s (v.fld 2).s (v.fld 3).l (v.fld 4).b (v.fld 5).s (v.fld 6).b (v.fld 7).s (v.fld 8).b (v.fld 9).s (v.fld 10).b (v.fld 11).s (v.fld 12).l (v.fld 13).l (v.fld 14).b (v.fld 15).s (v.fld 16).i (v.fld 17).i (v.fld 18).i (v.fld 19).i (v.fld 20).i (v.fld 21).l = κ1 q (u.fld 1).s (u.fld 2).s (u.fld 3).l (u.fld 4).b (u.fld 5).s (u.fld 6).b (u.fld 7).s (u.fld 8).b (u.fld 9).s (u.fld 10).b (u.fld 11).s (u.fld 12).l (u.fld 13).l (u.fld 14).b (u.fld 15).s (u.fld 16).i (u.fld 17).i (u.fld 18).i (u.fld 19).i (u.fld 20).i (u.fld 21).l true /\ lm_find.L lm_number lm_reach st_Index κ0 κ1 q' f' ins p (v'.fld 0).s (v'.fld 1).s (v'.fld 2).s (v'.fld 3).l (v'.fld 4).b (v'.fld 5).s (v'.fld 6).b (v'.fld 7).s (v'.fld 8).b (v'.fld 9).s (v'.fld 10).b (v'.fld 11).s (v'.fld 12).l (v'.fld 13).l (v'.fld 14).b (v'.fld 15).s (v'.fld 16).i (v'.fld 17).i (v'.fld 18).i (v'.fld 19).i (v'.fld 20).i (v'.fld 21).l = κ1 q' (u'.fld 1).s (u'.fld 2).s (u'.fld 3).l (u'.fld 4).b (u'.fld 5).s (u'.fld 6).b (u'.fld 7).s (u'.fld 8).b (u'.fld 9).s (u'.fld 10).b (u'.fld 11).s (u'.fld 12).l (u'.fld 13).l (u'.fld 14).b (u'.fld 15).s (u'.fld 16).i (u'.fld 17).i (u'.fld 18).i (u'.fld 19).i (u'.fld 20).i (u'.fld 21).l true
 | 0, _, _, _, _, _, _, _, h, _, _, _ => by omega
 | s + 1, f, f', p, v, v', ins, hr, hs, hf, hf', hp => by
  obtain ⟨f, rfl⟩ : ∃ g, f = g + 1 := ⟨f - 1, by omega⟩
  obtain ⟨f', rfl⟩ : ∃ g, f' = g + 1 := ⟨f' - 1, by omega⟩
  by_cases c : Lib.index (bl p) [46] < 0
  ·obtain ⟨n, g1, g2, hnum⟩ := num_ok (R := R) p hp
   have e : ∀ (q : BA) (f : Nat) (v : AV) (κ0 : BA -> BA -> BA -> Bool -> BA -> Bool -> BA -> Bool -> BA -> Bool -> BA -> Bool -> BA -> Int -> Int -> Int -> Int -> Int -> Bool -> Option R) (κ1 : BA -> BA -> BA -> LA -> Bool -> BA -> Bool -> BA -> Bool -> BA -> Bool -> BA -> LA -> LA -> Bool -> BA -> Int -> Int -> Int -> Int -> Int -> LA -> Bool -> Option R), lm_find.L lm_number lm_reach st_Index κ0 κ1 q (f + 1) ins p (v.fld 0).s (v.fld 1).s (v.fld 2).s (v.fld 3).l (v.fld 4).b (v.fld 5).s (v.fld 6).b (v.fld 7).s (v.fld 8).b (v.fld 9).s (v.fld 10).b (v.fld 11).s (v.fld 12).l (v.fld 13).l (v.fld 14).b (v.fld 15).s (v.fld 16).i (v.fld 17).i (v.fld 18).i (v.fld 19).i (v.fld 20).i (v.fld 21).l = bOut κ0 (fun y0 y1 y2 y3 y4 y5 y6 y7 y8 y9 y10 y11 y12 y13 y14 y15 y16 y17 y18 y19 y20 y21 => κ1 q y1 y2 y3 y4 y5 y6 y7 y8 y9 y10 y11 y12 y13 y14 y15 y16 y17 y18 y19 y20 y21 true) (stpS v ins n) := fun q f v κ0 κ1 => by
    rw [L_succ, cond_dec c, b_v v ins p g1 g2 hnum]
   rcases hR v v' ins n hr g1 with ⟨e1, e2⟩ | ⟨u, u', e1, e2, hr'⟩
   ·exact .inl fun κ0 κ1 => ⟨by rw [e, e1]; rfl, by rw [e, e2]; rfl⟩
   ·exact .inr ⟨u, u', hr', fun κ0 κ1 => ⟨by rw [e, e1]; rfl, by rw [e, e2]; rfl⟩⟩
  ·have hd := dot_le p c
   obtain ⟨n, g1, g2, hnum⟩ := num_ok (R := R) (p.extract 0 (Lib.index (bl p) [46]).toNat) (by rw [ByteArray.size_extract]; omega)
   have hsz : (p.extract ((Lib.index (bl p) [46]).toNat + 1) p.size).size + 1 <= p.size := by rw [ByteArray.size_extract]; omega
   have e : ∀ (q : BA) (f : Nat) (v : AV) (κ0 : BA -> BA -> BA -> Bool -> BA -> Bool -> BA -> Bool -> BA -> Bool -> BA -> Bool -> BA -> Int -> Int -> Int -> Int -> Int -> Bool -> Option R) (κ1 : BA -> BA -> BA -> LA -> Bool -> BA -> Bool -> BA -> Bool -> BA -> Bool -> BA -> LA -> LA -> Bool -> BA -> Int -> Int -> Int -> Int -> Int -> LA -> Bool -> Option R), lm_find.L lm_number lm_reach st_Index κ0 κ1 q (f + 1) ins p (v.fld 0).s (v.fld 1).s (v.fld 2).s (v.fld 3).l (v.fld 4).b (v.fld 5).s (v.fld 6).b (v.fld 7).s (v.fld 8).b (v.fld 9).s (v.fld 10).b (v.fld 11).s (v.fld 12).l (v.fld 13).l (v.fld 14).b (v.fld 15).s (v.fld 16).i (v.fld 17).i (v.fld 18).i (v.fld 19).i (v.fld 20).i (v.fld 21).l = bOut κ0 (lm_find.L lm_number lm_reach st_Index κ0 κ1 q f false (p.extract ((Lib.index (bl p) [46]).toNat + 1) p.size)) (stpS v ins n) := fun q f v κ0 κ1 => by
    rw [L_succ, cond_dec' c, chk_dec hd, b_v v ins _ g1 g2 hnum]
   rcases hR v v' ins n hr g1 with ⟨e1, e2⟩ | ⟨u, u', e1, e2, hr'⟩
   ·exact .inl fun κ0 κ1 => ⟨by rw [e, e1]; rfl, by rw [e, e2]; rfl⟩
   ·rcases f_two hR q q' s f f' (p.extract ((Lib.index (bl p) [46]).toNat + 1) p.size) u u' false hr' (by omega) (by omega) (by omega) (by omega) with h | ⟨w, w', hw, h⟩
    ·exact .inl fun κ0 κ1 => ⟨by rw [e, e1]; exact (h κ0 κ1).1, by rw [e, e2]; exact (h κ0 κ1).2⟩
    ·exact .inr ⟨w, w', hw, fun κ0 κ1 => ⟨by rw [e, e1]; exact (h κ0 κ1).1, by rw [e, e2]; exact (h κ0 κ1).2⟩⟩
theorem find_L (v : AV) (q : BA) (hq : q ≠ ⟨#[]⟩) (hs : q.size < 281474976710656) (κ0 : BA -> BA -> BA -> Bool -> BA -> Bool -> BA -> Bool -> BA -> Bool -> BA -> Bool -> BA -> Int -> Int -> Int -> Int -> Int -> Bool -> Option R) (κ1 : BA -> BA -> BA -> LA -> Bool -> BA -> Bool -> BA -> Bool -> BA -> Bool -> BA -> LA -> LA -> Bool -> BA -> Int -> Int -> Int -> Int -> Int -> LA -> Bool -> Option R) : lm_find (v.fld 0).s (v.fld 1).s (v.fld 2).s (v.fld 3).l (v.fld 4).b (v.fld 5).s (v.fld 6).b (v.fld 7).s (v.fld 8).b (v.fld 9).s (v.fld 10).b (v.fld 11).s (v.fld 12).l (v.fld 13).l (v.fld 14).b (v.fld 15).s (v.fld 16).i (v.fld 17).i (v.fld 18).i (v.fld 19).i (v.fld 20).i (v.fld 21).l q κ0 κ1 = lm_find.L lm_number lm_reach st_Index κ0 κ1 q fuelK true q (v.fld 0).s (v.fld 1).s (v.fld 2).s (v.fld 3).l (v.fld 4).b (v.fld 5).s (v.fld 6).b (v.fld 7).s (v.fld 8).b (v.fld 9).s (v.fld 10).b (v.fld 11).s (v.fld 12).l (v.fld 13).l (v.fld 14).b (v.fld 15).s (v.fld 16).i (v.fld 17).i (v.fld 18).i (v.fld 19).i (v.fld 20).i (v.fld 21).l := by
 unfold lm_find
 rw [cond_dec' hq, chk_dec hs]
def takV (raw : BA) (a b : Int) : BA × Bool := if a < 0 ∨ b < a ∨ b > (raw.size : Int) then (⟨#[]⟩, false) else (raw.extract a.toNat b.toNat, true)
theorem take_v (raw : BA) (a b : Int) (κ : BA -> Bool -> Option R) : lm_take raw a b κ = κ (takV raw a b).1 (takV raw a b).2 := by
 unfold lm_take lm_take.e takV
 by_cases c1 : a < 0
 ·rw [cond_dec c1, if_pos (.inl c1)]
 ·by_cases c2 : b < a
  ·rw [cond_dec' c1, cond_dec c2, if_pos (.inr (.inl c2))]
  ·by_cases c3 : b > (raw.size : Int)
   ·rw [cond_dec' c1, cond_dec' c2, cond_dec c3, if_pos (.inr (.inr c3))]
   ·rw [cond_dec' c1, cond_dec' c2, cond_dec' c3, if_neg (fun e => e.elim c1 fun e => e.elim c2 c3), chk_and, chk_dec (by omega), chk_and, chk_dec (by omega), chk_dec (by omega)]
theorem takV_size (raw : BA) (a b : Int) : (takV raw a b).1.size <= raw.size := by
 unfold takV
 split
 ·exact Nat.zero_le _
 ·rw [ByteArray.size_extract]; omega
def subjN : LA := [AV.str (⟨#[83, 117, 98, 106, 101, 99, 116]⟩ : BA)]
def pckS (nt : Bool) (h : BA) : BA := B (pkN nt subjN (rowsG false [] (headL (bl h))) ++ [13, 10])
theorem pick_v (nt : Bool) (h : BA) (hs : h.size <= 200000) (κ : BA -> Option R) : le_Pick1 h nt subjN κ = κ (pckS nt h) := by
 have := lPick_eq (R := R) nt subjN (by simp [subjN]) (fun a ha => by rw [subjN, List.mem_singleton] at ha; subst ha; exact .str _ (by show (7 : Nat) <= NB; unfold NB; omega)) (bl h) (by rw [<- size_bl]; exact hs) κ
 rw [B_bl] at this
 exact this
def secO (raw : BA) (u o : AV) (kd : Int) : BA × Bool :=
 if kd = 0 then takV raw (u.fld 18).i (u.fld 19).i else if kd = 1 then takV raw (o.fld 16).i (o.fld 17).i else if kd = 4 then takV raw (o.fld 18).i (o.fld 19).i
 else if kd = 2 ∨ kd = 3 then (if (takV raw (o.fld 16).i (o.fld 17).i).2 = true then (pckS (kd == 3) (takV raw (o.fld 16).i (o.fld 17).i).1, true) else (⟨#[]⟩, false))
 else if kd = 5 then takV raw (u.fld 16).i (u.fld 17).i else (⟨#[]⟩, false)
def secS (raw : BA) (u : AV) (kd : Int) : BA × Bool :=
 if kd = 0 ∨ kd = 5 then secO raw u u kd else if isV u = true /\ ((u.fld 21).l.length : Int) > 0 then secO raw u (rdA (u.fld 21).l 0) kd else (⟨#[]⟩, false)
theorem t10_v (raw q : BA) (hq : q ≠ ⟨#[]⟩) (hr : raw.size <= 200000) (u o : AV) (kd : Int) (x : BA) (κ : BA -> Bool -> Option R) : lm_Section1.t10 lm_take le_Pick1 κ raw kd q kd subjN q (u.fld 1).s (u.fld 2).s (u.fld 3).l (u.fld 4).b (u.fld 5).s (u.fld 6).b (u.fld 7).s (u.fld 8).b (u.fld 9).s (u.fld 10).b (u.fld 11).s (u.fld 12).l (u.fld 13).l (u.fld 14).b (u.fld 15).s (u.fld 16).i (u.fld 17).i (u.fld 18).i (u.fld 19).i (u.fld 20).i (u.fld 21).l x (o.fld 1).s (o.fld 2).s (o.fld 3).l (o.fld 4).b (o.fld 5).s (o.fld 6).b (o.fld 7).s (o.fld 8).b (o.fld 9).s (o.fld 10).b (o.fld 11).s (o.fld 12).l (o.fld 13).l (o.fld 14).b (o.fld 15).s (o.fld 16).i (o.fld 17).i (o.fld 18).i (o.fld 19).i (o.fld 20).i (o.fld 21).l = κ (secO raw u o kd).1 (secO raw u o kd).2 := by
 have pk : (lm_take raw (o.fld 16).i (o.fld 17).i (fun r b => (bif (!b) then (κ (⟨#[]⟩ : BA) false) else (le_Pick1 r (kd == 3) subjN (fun r2 => (κ r2 true)))))) = κ (if (takV raw (o.fld 16).i (o.fld 17).i).2 = true then (pckS (kd == 3) (takV raw (o.fld 16).i (o.fld 17).i).1, true) else (⟨#[]⟩, false)).1 (if (takV raw (o.fld 16).i (o.fld 17).i).2 = true then (pckS (kd == 3) (takV raw (o.fld 16).i (o.fld 17).i).1, true) else (⟨#[]⟩, false)).2 := by
  rw [take_v]
  have hz := takV_size raw (o.fld 16).i (o.fld 17).i
  rcases hh : takV raw (o.fld 16).i (o.fld 17).i with ⟨h, b⟩
  rw [hh] at hz
  cases b with
  | false => rfl
  | true => exact pick_v _ h (by show h.size <= _; simp only at hz; omega) _
 rw [lm_Section1.t10]
 unfold secO
 by_cases k0 : kd = 0
 ·rw [ibeq_t k0, cond_true, cond_dec' hq, if_pos k0, take_v]
 ·rw [ibeq_f k0, cond_false, if_neg k0]
  by_cases k1 : kd = 1
  ·rw [ibeq_t k1, cond_true, if_pos k1, take_v]
  ·rw [ibeq_f k1, cond_false, if_neg k1]
   by_cases k4 : kd = 4
   ·rw [ibeq_t k4, cond_true, if_pos k4, take_v]
   ·rw [ibeq_f k4, cond_false, if_neg k4]
    by_cases k2 : kd = 2
    ·rw [ibeq_t k2, cond_true, if_pos (.inl k2)]; exact pk
    ·rw [ibeq_f k2, cond_false]
     by_cases k3 : kd = 3
     ·rw [if_pos (.inr k3)]; rw [ibeq_t k3] at pk ⊢; rw [cond_true]; exact pk
     ·rw [ibeq_f k3, cond_false, if_neg (fun e => e.elim k2 k3)]
      by_cases k5 : kd = 5
      ·rw [ibeq_t k5, cond_true, if_pos k5, decide_eq_false hq, Bool.not_false, cond_true, take_v]
      ·rw [ibeq_f k5, cond_false, if_neg k5]
theorem sec_no (raw : BA) (v : AV) (q : BA) (kd : Int) (hf : ∀ (κ0 : BA -> BA -> BA -> Bool -> BA -> Bool -> BA -> Bool -> BA -> Bool -> BA -> Bool -> BA -> Int -> Int -> Int -> Int -> Int -> Bool -> Option R) (κ1 : BA -> BA -> BA -> LA -> Bool -> BA -> Bool -> BA -> Bool -> BA -> Bool -> BA -> LA -> LA -> Bool -> BA -> Int -> Int -> Int -> Int -> Int -> LA -> Bool -> Option R), lm_find (v.fld 0).s (v.fld 1).s (v.fld 2).s (v.fld 3).l (v.fld 4).b (v.fld 5).s (v.fld 6).b (v.fld 7).s (v.fld 8).b (v.fld 9).s (v.fld 10).b (v.fld 11).s (v.fld 12).l (v.fld 13).l (v.fld 14).b (v.fld 15).s (v.fld 16).i (v.fld 17).i (v.fld 18).i (v.fld 19).i (v.fld 20).i (v.fld 21).l q κ0 κ1 = κ0 (⟨#[]⟩ : BA) (⟨#[]⟩ : BA) (⟨#[]⟩ : BA) false (⟨#[]⟩ : BA) false (⟨#[]⟩ : BA) false (⟨#[]⟩ : BA) false (⟨#[]⟩ : BA) false (⟨#[]⟩ : BA) 0 0 0 0 0 false) (κ : BA -> Bool -> Option R) : lm_Section1 raw (v.fld 0).s (v.fld 1).s (v.fld 2).s (v.fld 3).l (v.fld 4).b (v.fld 5).s (v.fld 6).b (v.fld 7).s (v.fld 8).b (v.fld 9).s (v.fld 10).b (v.fld 11).s (v.fld 12).l (v.fld 13).l (v.fld 14).b (v.fld 15).s (v.fld 16).i (v.fld 17).i (v.fld 18).i (v.fld 19).i (v.fld 20).i (v.fld 21).l q kd subjN κ = κ ⟨#[]⟩ false := by
 unfold lm_Section1 lm_Section1.e
 refine (hf _ _).trans ?_
 rfl
theorem bne_t {a b : Int} (h : a ≠ b) : (a != b) = true := bne_iff_ne.2 h
theorem bne_f {a b : Int} (h : a = b) : (a != b) = false := by rw [h]; simp
theorem sec_v (raw : BA) (hr : raw.size <= 200000) (v u : AV) (q : BA) (hq : q ≠ ⟨#[]⟩) (kd : Int) (hf : ∀ (κ0 : BA -> BA -> BA -> Bool -> BA -> Bool -> BA -> Bool -> BA -> Bool -> BA -> Bool -> BA -> Int -> Int -> Int -> Int -> Int -> Bool -> Option R) (κ1 : BA -> BA -> BA -> LA -> Bool -> BA -> Bool -> BA -> Bool -> BA -> Bool -> BA -> LA -> LA -> Bool -> BA -> Int -> Int -> Int -> Int -> Int -> LA -> Bool -> Option R), lm_find (v.fld 0).s (v.fld 1).s (v.fld 2).s (v.fld 3).l (v.fld 4).b (v.fld 5).s (v.fld 6).b (v.fld 7).s (v.fld 8).b (v.fld 9).s (v.fld 10).b (v.fld 11).s (v.fld 12).l (v.fld 13).l (v.fld 14).b (v.fld 15).s (v.fld 16).i (v.fld 17).i (v.fld 18).i (v.fld 19).i (v.fld 20).i (v.fld 21).l q κ0 κ1 = κ1 q (u.fld 1).s (u.fld 2).s (u.fld 3).l (u.fld 4).b (u.fld 5).s (u.fld 6).b (u.fld 7).s (u.fld 8).b (u.fld 9).s (u.fld 10).b (u.fld 11).s (u.fld 12).l (u.fld 13).l (u.fld 14).b (u.fld 15).s (u.fld 16).i (u.fld 17).i (u.fld 18).i (u.fld 19).i (u.fld 20).i (u.fld 21).l true) (κ : BA -> Bool -> Option R) : lm_Section1 raw (v.fld 0).s (v.fld 1).s (v.fld 2).s (v.fld 3).l (v.fld 4).b (v.fld 5).s (v.fld 6).b (v.fld 7).s (v.fld 8).b (v.fld 9).s (v.fld 10).b (v.fld 11).s (v.fld 12).l (v.fld 13).l (v.fld 14).b (v.fld 15).s (v.fld 16).i (v.fld 17).i (v.fld 18).i (v.fld 19).i (v.fld 20).i (v.fld 21).l q kd subjN κ = κ (secS raw u kd).1 (secS raw u kd).2 := by
 have hL : lm_Section1.L10 lm_find lm_isMessage3 lm_isMessage1 lm_take le_Pick1 κ fuelK = lm_Section1.t10 lm_take le_Pick1 κ := rfl
 unfold lm_Section1 lm_Section1.e secS
 refine (hf _ _).trans ?_
 rw [Bool.not_true, cond_false, decide_eq_false hq, Bool.not_false, cond_true]
 by_cases k0 : kd = 0
 ·rw [bne_f k0, cond_false, if_pos (.inl k0), hL]; exact t10_v raw q hq hr u u kd q κ
 ·rw [bne_t k0, cond_true]
  by_cases k5 : kd = 5
  ·rw [bne_f k5, cond_false, if_pos (.inr k5), hL]; exact t10_v raw q hq hr u u kd q κ
  ·rw [bne_t k5, cond_true, if_neg (fun e => e.elim k0 k5)]
   have hi : ∀ κ : Bool -> BA -> BA -> BA -> LA -> Bool -> BA -> Bool -> BA -> Bool -> BA -> Bool -> BA -> LA -> LA -> Bool -> BA -> Int -> Int -> Int -> Int -> Int -> LA -> Option R, lm_isMessage1 q (u.fld 1).s (u.fld 2).s (u.fld 3).l (u.fld 4).b (u.fld 5).s (u.fld 6).b (u.fld 7).s (u.fld 8).b (u.fld 9).s (u.fld 10).b (u.fld 11).s (u.fld 12).l (u.fld 13).l (u.fld 14).b (u.fld 15).s (u.fld 16).i (u.fld 17).i (u.fld 18).i (u.fld 19).i (u.fld 20).i (u.fld 21).l κ = κ (isV u) q (u.fld 1).s (u.fld 2).s (u.fld 3).l (u.fld 4).b (u.fld 5).s (u.fld 6).b (u.fld 7).s (u.fld 8).b (u.fld 9).s (u.fld 10).b (u.fld 11).s (u.fld 12).l (u.fld 13).l (u.fld 14).b (u.fld 15).s (u.fld 16).i (u.fld 17).i (u.fld 18).i (u.fld 19).i (u.fld 20).i (u.fld 21).l := fun κ => by
    unfold lm_isMessage1 lm_isMessage1.e isV
    cases decide ((u.fld 1).s = (⟨#[109, 101, 115, 115, 97, 103, 101]⟩ : BA)) with
    | true => rfl
    | false => rfl
   refine (hi _).trans ?_
   cases isV u with
   | false => rw [Bool.not_false, cond_true, if_neg (fun e => by cases e.1)]
   | true =>
    rw [Bool.not_true, cond_false]
    by_cases hk : ((u.fld 21).l.length : Int) > 0
    ·rw [ibeq_f (by show ((u.fld 21).l.length : Int) ≠ 0; omega), cond_false, chk_dec hk, if_pos ⟨rfl, hk⟩, hL]
     exact t10_v raw q hq hr u (rdA (u.fld 21).l 0) kd ((rdA (u.fld 21).l 0).fld 0).s κ
    ·rw [ibeq_t (by show ((u.fld 21).l.length : Int) = 0; omega), cond_true, if_neg (fun e => hk e.2)]
theorem whole_v (raw : BA) (v u : AV) (q : BA) (hq : q ≠ ⟨#[]⟩) (hf : ∀ (κ0 : BA -> BA -> BA -> Bool -> BA -> Bool -> BA -> Bool -> BA -> Bool -> BA -> Bool -> BA -> Int -> Int -> Int -> Int -> Int -> Bool -> Option R) (κ1 : BA -> BA -> BA -> LA -> Bool -> BA -> Bool -> BA -> Bool -> BA -> Bool -> BA -> LA -> LA -> Bool -> BA -> Int -> Int -> Int -> Int -> Int -> LA -> Bool -> Option R), lm_find (v.fld 0).s (v.fld 1).s (v.fld 2).s (v.fld 3).l (v.fld 4).b (v.fld 5).s (v.fld 6).b (v.fld 7).s (v.fld 8).b (v.fld 9).s (v.fld 10).b (v.fld 11).s (v.fld 12).l (v.fld 13).l (v.fld 14).b (v.fld 15).s (v.fld 16).i (v.fld 17).i (v.fld 18).i (v.fld 19).i (v.fld 20).i (v.fld 21).l q κ0 κ1 = κ1 q (u.fld 1).s (u.fld 2).s (u.fld 3).l (u.fld 4).b (u.fld 5).s (u.fld 6).b (u.fld 7).s (u.fld 8).b (u.fld 9).s (u.fld 10).b (u.fld 11).s (u.fld 12).l (u.fld 13).l (u.fld 14).b (u.fld 15).s (u.fld 16).i (u.fld 17).i (u.fld 18).i (u.fld 19).i (u.fld 20).i (u.fld 21).l true) (κ : BA -> Bool -> Option R) : lm_Section raw (v.fld 0).s (v.fld 1).s (v.fld 2).s (v.fld 3).l (v.fld 4).b (v.fld 5).s (v.fld 6).b (v.fld 7).s (v.fld 8).b (v.fld 9).s (v.fld 10).b (v.fld 11).s (v.fld 12).l (v.fld 13).l (v.fld 14).b (v.fld 15).s (v.fld 16).i (v.fld 17).i (v.fld 18).i (v.fld 19).i (v.fld 20).i (v.fld 21).l q 0 κ = κ (takV raw (u.fld 18).i (u.fld 19).i).1 (takV raw (u.fld 18).i (u.fld 19).i).2 := by
 have hL : lm_Section.L10 lm_find lm_isMessage3 lm_isMessage1 lm_take le_Pick κ fuelK = lm_Section.t10 lm_take le_Pick κ := rfl
 unfold lm_Section lm_Section.e
 refine (hf _ _).trans ?_
 rw [Bool.not_true, cond_false, decide_eq_false hq, Bool.not_false, cond_true, bne_f rfl, cond_false, hL, lm_Section.t10, ibeq_t rfl, cond_true, cond_dec' hq, take_v]
theorem head_v (raw : BA) (v : AV) (κ : BA -> Bool -> Option R) : lm_Section raw (v.fld 0).s (v.fld 1).s (v.fld 2).s (v.fld 3).l (v.fld 4).b (v.fld 5).s (v.fld 6).b (v.fld 7).s (v.fld 8).b (v.fld 9).s (v.fld 10).b (v.fld 11).s (v.fld 12).l (v.fld 13).l (v.fld 14).b (v.fld 15).s (v.fld 16).i (v.fld 17).i (v.fld 18).i (v.fld 19).i (v.fld 20).i (v.fld 21).l ⟨#[]⟩ 1 κ = κ (takV raw (v.fld 16).i (v.fld 17).i).1 (takV raw (v.fld 16).i (v.fld 17).i).2 := by
 have hL : lm_Section.L10 lm_find lm_isMessage3 lm_isMessage1 lm_take le_Pick κ fuelK = lm_Section.t10 lm_take le_Pick κ := rfl
 have hf : ∀ (κ0 : BA -> BA -> BA -> Bool -> BA -> Bool -> BA -> Bool -> BA -> Bool -> BA -> Bool -> BA -> Int -> Int -> Int -> Int -> Int -> Bool -> Option R) (κ1 : BA -> BA -> BA -> LA -> Bool -> BA -> Bool -> BA -> Bool -> BA -> Bool -> BA -> LA -> LA -> Bool -> BA -> Int -> Int -> Int -> Int -> Int -> LA -> Bool -> Option R), lm_find (v.fld 0).s (v.fld 1).s (v.fld 2).s (v.fld 3).l (v.fld 4).b (v.fld 5).s (v.fld 6).b (v.fld 7).s (v.fld 8).b (v.fld 9).s (v.fld 10).b (v.fld 11).s (v.fld 12).l (v.fld 13).l (v.fld 14).b (v.fld 15).s (v.fld 16).i (v.fld 17).i (v.fld 18).i (v.fld 19).i (v.fld 20).i (v.fld 21).l ⟨#[]⟩ κ0 κ1 = κ1 (v.fld 0).s (v.fld 1).s (v.fld 2).s (v.fld 3).l (v.fld 4).b (v.fld 5).s (v.fld 6).b (v.fld 7).s (v.fld 8).b (v.fld 9).s (v.fld 10).b (v.fld 11).s (v.fld 12).l (v.fld 13).l (v.fld 14).b (v.fld 15).s (v.fld 16).i (v.fld 17).i (v.fld 18).i (v.fld 19).i (v.fld 20).i (v.fld 21).l true := fun κ0 κ1 => by unfold lm_find; rw [cond_dec rfl]
 unfold lm_Section lm_Section.e
 refine (hf _ _).trans ?_
 rw [Bool.not_true, cond_false, decide_eq_true rfl, Bool.not_true, cond_false, hL, lm_Section.t10, ibeq_f (by decide), cond_false, ibeq_t rfl, cond_true, take_v]
theorem headM_v (raw : BA) (v u K0 : AV) (r : LA) (h1 : isV u = true) (h2 : (u.fld 21).l = K0 :: r) (q : BA) (hq : q ≠ ⟨#[]⟩) (hf : ∀ (κ0 : BA -> BA -> BA -> Bool -> BA -> Bool -> BA -> Bool -> BA -> Bool -> BA -> Bool -> BA -> Int -> Int -> Int -> Int -> Int -> Bool -> Option R) (κ1 : BA -> BA -> BA -> LA -> Bool -> BA -> Bool -> BA -> Bool -> BA -> Bool -> BA -> LA -> LA -> Bool -> BA -> Int -> Int -> Int -> Int -> Int -> LA -> Bool -> Option R), lm_find (v.fld 0).s (v.fld 1).s (v.fld 2).s (v.fld 3).l (v.fld 4).b (v.fld 5).s (v.fld 6).b (v.fld 7).s (v.fld 8).b (v.fld 9).s (v.fld 10).b (v.fld 11).s (v.fld 12).l (v.fld 13).l (v.fld 14).b (v.fld 15).s (v.fld 16).i (v.fld 17).i (v.fld 18).i (v.fld 19).i (v.fld 20).i (v.fld 21).l q κ0 κ1 = κ1 q (u.fld 1).s (u.fld 2).s (u.fld 3).l (u.fld 4).b (u.fld 5).s (u.fld 6).b (u.fld 7).s (u.fld 8).b (u.fld 9).s (u.fld 10).b (u.fld 11).s (u.fld 12).l (u.fld 13).l (u.fld 14).b (u.fld 15).s (u.fld 16).i (u.fld 17).i (u.fld 18).i (u.fld 19).i (u.fld 20).i (u.fld 21).l true) (κ : BA -> Bool -> Option R) : lm_Section raw (v.fld 0).s (v.fld 1).s (v.fld 2).s (v.fld 3).l (v.fld 4).b (v.fld 5).s (v.fld 6).b (v.fld 7).s (v.fld 8).b (v.fld 9).s (v.fld 10).b (v.fld 11).s (v.fld 12).l (v.fld 13).l (v.fld 14).b (v.fld 15).s (v.fld 16).i (v.fld 17).i (v.fld 18).i (v.fld 19).i (v.fld 20).i (v.fld 21).l q 1 κ = κ (takV raw (K0.fld 16).i (K0.fld 17).i).1 (takV raw (K0.fld 16).i (K0.fld 17).i).2 := by
 have hL : lm_Section.L10 lm_find lm_isMessage3 lm_isMessage1 lm_take le_Pick κ fuelK = lm_Section.t10 lm_take le_Pick κ := rfl
 unfold lm_Section lm_Section.e
 refine (hf _ _).trans ?_
 rw [Bool.not_true, cond_false, decide_eq_false hq, Bool.not_false, cond_true, bne_t (by decide), cond_true, bne_t (by decide), cond_true]
 have hi : ∀ κ : Bool -> BA -> BA -> BA -> LA -> Bool -> BA -> Bool -> BA -> Bool -> BA -> Bool -> BA -> LA -> LA -> Bool -> BA -> Int -> Int -> Int -> Int -> Int -> LA -> Option R, lm_isMessage1 q (u.fld 1).s (u.fld 2).s (u.fld 3).l (u.fld 4).b (u.fld 5).s (u.fld 6).b (u.fld 7).s (u.fld 8).b (u.fld 9).s (u.fld 10).b (u.fld 11).s (u.fld 12).l (u.fld 13).l (u.fld 14).b (u.fld 15).s (u.fld 16).i (u.fld 17).i (u.fld 18).i (u.fld 19).i (u.fld 20).i (u.fld 21).l κ = κ (isV u) q (u.fld 1).s (u.fld 2).s (u.fld 3).l (u.fld 4).b (u.fld 5).s (u.fld 6).b (u.fld 7).s (u.fld 8).b (u.fld 9).s (u.fld 10).b (u.fld 11).s (u.fld 12).l (u.fld 13).l (u.fld 14).b (u.fld 15).s (u.fld 16).i (u.fld 17).i (u.fld 18).i (u.fld 19).i (u.fld 20).i (u.fld 21).l := fun κ => by
  unfold lm_isMessage1 lm_isMessage1.e isV
  cases decide ((u.fld 1).s = (⟨#[109, 101, 115, 115, 97, 103, 101]⟩ : BA)) with
  | true => rfl
  | false => rfl
 refine (hi _).trans ?_
 rw [h1, Bool.not_true, cond_false, h2, ibeq_f (by simp only [List.length_cons]; omega), cond_false, chk_dec (by simp only [List.length_cons]; omega), hL, lm_Section.t10, ibeq_f (by decide), cond_false, ibeq_t rfl, cond_true, take_v]
 rfl
end Go.Proofs.Ab
