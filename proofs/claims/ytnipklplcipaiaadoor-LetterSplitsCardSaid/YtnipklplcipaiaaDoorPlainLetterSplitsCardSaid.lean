/- The plain functions of program and document say the same (conditions: those of each lemma). -/
import Derived.Test.YtnipklplcipaiaaDoorAbB
import Derived.IntWalk
import Derived.Test.YtnipklplcipaiaaDoorText
/- Plain lemmas on the words of the typed texts: checks, numbers, bytes. -/
namespace Go.Proofs.Ab
set_option linter.unusedVariables false
set_option maxRecDepth 4000
open Go
variable {R : Type}
/-! ## Checks -/
theorem chk_dec {p : Prop} [Decidable p] {k : Option R} (h : p) : chk (decide p) k = k := by rw [decide_eq_true h]; rfl
theorem chk_and {a b : Bool} {k : Option R} : chk (a && b) k = chk a (chk b k) := by cases a <;> rfl
theorem chk_tt {k : Option R} : chk true k = k := rfl
theorem chk_ff {k : Option R} : chk false k = none := rfl
theorem cond_dec {α : Type} {p : Prop} [Decidable p] {x y : α} (h : p) : (bif decide p then x else y) = x := by rw [decide_eq_true h]; rfl
theorem cond_dec' {α : Type} {p : Prop} [Decidable p] {x y : α} (h : ¬ p) : (bif decide p then x else y) = y := by rw [decide_eq_false h]; rfl
theorem beq_pos {x y : Int} (h : x = y) : (x == y) = true := by simp [h]
theorem beq_neg {x y : Int} (h : x ≠ y) : (x == y) = false := by simp [h]
theorem bne_pos {x y : Int} (h : x ≠ y) : (x != y) = true := by simp [h]
theorem bne_neg {x y : Int} (h : x = y) : (x != y) = false := by simp [h]
/-! ## Numbers -/
theorem wrap_i64 {x : Int} (h1 : -9223372036854775808 ≤ x) (h2 : x < 9223372036854775808) : IntKind.wrap .i64 x = x := IntWalk.i64_in x ⟨h1, by omega⟩
theorem wrap_u8 {x : Int} (h1 : 0 ≤ x) (h2 : x < 256) : IntKind.wrap .u8 x = x := by rw [IntKind.wrap_u8]; omega
/-! ## Bytes -/
/-- The bytes of a text. -/
def bl (s : ByteArray) : List UInt8 := s.data.toList
/-- A text of bytes. -/
def B (l : List UInt8) : ByteArray := ⟨l.toArray⟩
theorem bl_B (l : List UInt8) : bl (B l) = l := rfl
theorem B_bl (s : ByteArray) : B (bl s) = s := rfl
theorem size_bl (s : ByteArray) : s.size = (bl s).length := by unfold bl; rw [Array.length_toList]; rfl
theorem size_B (l : List UInt8) : (B l).size = l.length := by rw [size_bl, bl_B]
theorem bl_inj {a b : ByteArray} (h : bl a = bl b) : a = b := by rw [← B_bl a, h, B_bl]
theorem B_inj {a b : List UInt8} : B a = B b ↔ a = b := ⟨fun h => by rw [← bl_B a, h, bl_B], fun h => by rw [h]⟩
theorem bl_extract (s : ByteArray) (i j : Nat) : bl (s.extract i j) = ((bl s).take j).drop i := by
  unfold bl; rw [ByteArray.data_extract, Array.toList_extract]; simp [List.extract, List.drop_take]
theorem extract_B (l : List UInt8) (i j : Nat) : (B l).extract i j = B ((l.take j).drop i) := bl_inj (by rw [bl_extract, bl_B, bl_B])
theorem bl_append (a b : ByteArray) : bl (a ++ b) = bl a ++ bl b := by unfold bl; simp
theorem append_B (a b : List UInt8) : B a ++ B b = B (a ++ b) := bl_inj (by rw [bl_append]; rfl)
theorem empty_B : (⟨#[]⟩ : ByteArray) = B [] := rfl
theorem btA_get {s : ByteArray} {i : Nat} {c : UInt8} (h : (bl s)[i]? = some c) : btA s (i : Int) = c.toNat := by
  obtain ⟨hlt, hv⟩ := List.getElem?_eq_some_iff.1 h
  have hlt' : i < s.size := by rw [size_bl]; exact hlt
  unfold btA
  simp only [Int.toNat_natCast]
  rw [dif_pos hlt']
  congr 2
theorem drop_get {α : Type} {l : List α} {i : Nat} {c : α} {r : List α} (h : l.drop i = c :: r) : l[i]? = some c ∧ i < l.length ∧ l.drop (i + 1) = r := by
  have h0 : (l.drop i)[0]? = some c := by rw [h]; rfl
  rw [List.getElem?_drop, Nat.add_zero] at h0
  refine ⟨h0, (List.getElem?_eq_some_iff.1 h0).1, ?_⟩
  rw [← List.drop_drop, h]; rfl
theorem drop_nil {α : Type} {l : List α} {i : Nat} (h : l.drop i = []) : l.length ≤ i := by simpa using h
theorem drop_lt {α : Type} {l : List α} {i : Nat} (h : i < l.length) : ∃ c r, l.drop i = c :: r := by
  cases hd : l.drop i with
  | nil => have := drop_nil hd; omega
  | cons c r => exact ⟨c, r, rfl⟩
theorem take_succ_get {α : Type} {l : List α} {i : Nat} {c : α} (h : l[i]? = some c) : l.take (i + 1) = l.take i ++ [c] := by
  rw [List.take_add_one, h]; rfl
theorem byte_beq (c d : UInt8) : ((c.toNat : Int) == (d.toNat : Int)) = (c == d) := by
  rw [Bool.eq_iff_iff]; simp only [beq_iff_eq, Int.natCast_inj, ← UInt8.toNat_inj]
theorem byte_bne (c d : UInt8) : ((c.toNat : Int) != (d.toNat : Int)) = (c != d) := by
  unfold bne; rw [byte_beq]
theorem byte_lt (c : UInt8) : c.toNat < 256 := by have := c.toNat_lt; omega
theorem nat_i {i : Nat} : ((i : Int) + 1) = ((i + 1 : Nat) : Int) := rfl
theorem index_cons (b : UInt8) (l sub : List UInt8) : Lib.index (b :: l) sub = if sub.isPrefixOf (b :: l) then 0 else if Lib.index l sub == -1 then -1 else Lib.index l sub + 1 := rfl
theorem index_room : ∀ (s sub : List UInt8), Lib.index s sub ≠ -1 → Lib.index s sub + sub.length ≤ s.length
  | [], sub, h => by
    cases sub with
    | nil => simp [Lib.index]
    | cons a t => exact absurd rfl h
  | b :: l, sub, h => by
    rw [index_cons] at h ⊢
    split at h
    · rename_i hp
      rw [if_pos hp]
      have := (List.isPrefixOf_iff_prefix.1 hp).length_le
      omega
    · rename_i hp
      rw [if_neg hp]
      split at h
      · exact absurd rfl h
      · rename_i hi
        have hi' : Lib.index l sub ≠ -1 := by simpa using hi
        have := index_room l sub hi'
        rw [if_neg hi]
        simp only [List.length_cons]; omega
/-! ## Rows -/
theorem rdA_get {l : List AV} {i : Nat} {a : AV} (h : l[i]? = some a) : rdA l (i : Int) = a := by
  unfold rdA; rw [Int.toNat_natCast, List.getD_eq_getElem?_getD, h]; rfl
theorem rdA_drop {l : List AV} {i : Nat} {a : AV} {r : List AV} (h : l.drop i = a :: r) : rdA l (i : Int) = a := rdA_get (drop_get h).1
end Go.Proofs.Ab

/- LetterSplits: what both programs cut. -/
namespace Go.Proofs.Ab
set_option linter.unusedVariables false
set_option maxRecDepth 4000
open Go
variable {R : Type}
/-- Lines with their ends; cur: what stands of the line that goes on. -/
def linesG : List UInt8 → List UInt8 → List (List UInt8)
  | cur, [] => if cur = [] then [] else [cur]
  | cur, 13 :: 10 :: r => (cur ++ [13, 10]) :: linesG [] r
  | cur, c :: r => linesG (cur ++ [c]) r
theorem linesG_crlf (cur r : List UInt8) : linesG cur (13 :: 10 :: r) = (cur ++ [13, 10]) :: linesG [] r := by rw [linesG]
theorem linesG_else (cur : List UInt8) (c : UInt8) (r : List UInt8) (h : ¬ (c = 13 ∧ r.head? = some 10)) : linesG cur (c :: r) = linesG (cur ++ [c]) r := by
  rw [linesG]
  rintro r' rfl rfl; exact h ⟨rfl, rfl⟩
/-- Lists of lines as rows. -/
def rowsS (l : List (List UInt8)) : List AV := l.map fun x => .str (B x)
theorem rowsS_len (l : List (List UInt8)) : (rowsS l).length = l.length := by unfold rowsS; simp
theorem rowsS_append (l m : List (List UInt8)) : rowsS (l ++ m) = rowsS l ++ rowsS m := by unfold rowsS; simp

theorem lines_loop (s : ByteArray) (hs : (bl s).length ≤ 1000000) (κ : List AV → Option R) : ∀ (f i k : Nat) (l : List (List UInt8)), i ≤ (bl s).length → k ≤ i → l.length ≤ i → (bl s).length < i + f →
    postbagref5_lines_0.L4 κ f s (k : Int) (i : Int) (rowsS l) = κ (rowsS (l ++ linesG (((bl s).take i).drop k) ((bl s).drop i)))
  | 0, i, k, l, h1, h2, h3, h4 => by omega
  | f + 1, i, k, l, h1, h2, h3, h4 => by
    have hsz := size_bl s
    rw [postbagref5_lines_0.L4, postbagref5_lines_0.t4]
    cases hd : (bl s).drop i with
    | nil =>
      have := drop_nil hd
      have hi : i = (bl s).length := by omega
      simp (disch := omega) only [wrap_i64, cond_dec', cond_dec, rowsS_len]
      by_cases hk : k < i
      · simp (disch := first | omega | (simp only [rowsS_len]; omega)) only [cond_dec, chk_and, chk_dec]
        congr 1
        have hne : ((bl s).take i).drop k ≠ [] := by
          intro e; have := congrArg List.length e; simp at this; omega
        rw [rowsS_append, linesG, if_neg hne]
        congr 2
        show AV.str _ = AV.str (B _)
        rw [← B_bl (s.extract _ _), bl_extract]
        simp [hsz, hi]
      · have : k = i := by omega
        subst this
        simp (disch := omega) only [cond_dec']
        rw [linesG, if_pos (by simp)]; simp
    | cons c r =>
      obtain ⟨g1, g2, g3⟩ := drop_get hd
      cases r with
      | nil =>
        have hi : i + 1 = (bl s).length := by have := congrArg List.length hd; simp at this; omega
        simp (disch := omega) only [wrap_i64, cond_dec']
        simp (disch := first | omega | (simp only [rowsS_len]; omega)) only [cond_dec, chk_and, chk_dec]
        congr 1
        rw [linesG_else _ _ _ (by simp), rowsS_append, linesG, if_neg (by simp)]
        congr 2
        show AV.str _ = AV.str (B _)
        rw [← B_bl (s.extract _ _), bl_extract]
        have : ((bl s).take i).drop k ++ [c] = ((bl s).take (i + 1)).drop k := by
          rw [take_succ_get g1, List.drop_append_of_le_length (by simp; omega)]
        rw [this]
        simp [hsz, hi]
      | cons d r =>
        obtain ⟨k1, k2, k3⟩ := drop_get g3
        have hb1 := btA_get g1
        have hb2 := btA_get k1
        have ht1 : ((bl s).take i).drop k ++ [c] = ((bl s).take (i + 1)).drop k := by
          rw [take_succ_get g1, List.drop_append_of_le_length (by simp; omega)]
        have ht2 : ((bl s).take (i + 1)).drop k ++ [d] = ((bl s).take (i + 1 + 1)).drop k := by
          rw [take_succ_get k1, List.drop_append_of_le_length (by simp; omega)]
        simp (disch := omega) only [wrap_i64, cond_dec, chk_and, chk_dec]
        simp only [nat_i, hb1, hb2]
        rw [show (13 : Int) = ((13 : UInt8).toNat : Int) from rfl, show (10 : Int) = ((10 : UInt8).toNat : Int) from rfl, byte_beq, byte_beq]
        have next : ¬ (c = 13 ∧ d = 10) → postbagref5_lines_0.L4 κ f s (k : Int) ((i + 1 : Nat) : Int) (rowsS l) = κ (rowsS (l ++ linesG (((bl s).take i).drop k) (c :: d :: r))) := by
          intro hn
          rw [lines_loop s hs κ f (i + 1) k l (by omega) (by omega) (by omega) (by omega), g3, linesG_else _ c _ (by simpa using hn), ht1]
        by_cases hc : c = 13
        · by_cases hdd : d = 10
          · subst hc; subst hdd
            simp (disch := first | omega | (simp only [rowsS_len]; omega)) only [BEq.rfl, cond_true, chk_and, chk_dec, wrap_i64]
            have := lines_loop s hs κ f (i + 1 + 1) (i + 1 + 1) (l ++ [((bl s).take i).drop k ++ [13, 10]]) (by omega) (by omega) (by simp; omega) (by omega)
            rw [k3] at this
            rw [linesG_crlf, show l ++ (((bl s).take i).drop k ++ [13, 10]) :: linesG [] r = (l ++ [((bl s).take i).drop k ++ [13, 10]]) ++ linesG [] r by simp]
            have he : (((bl s).take (i + 1 + 1)).drop (i + 1 + 1)) = [] := by simp
            rw [he] at this
            rw [← this, rowsS_append]
            have hx : AV.str (s.extract (k : Int).toNat ((i : Int) + 2).toNat) = AV.str (B (((bl s).take i).drop k ++ [13, 10])) := by
              congr 1
              rw [show ([13, 10] : List UInt8) = [13] ++ [10] from rfl, ← List.append_assoc, ht1, ht2, ← B_bl (s.extract _ _), bl_extract]
              rfl
            rw [hx]
            rfl
          · have e1 : (c == 13) = true := by simp [hc]
            have e2 : (d == 10) = false := by simp [hdd]
            rw [e1, e2]
            exact next (fun h => hdd h.2)
        · have e1 : (c == 13) = false := by simp [hc]
          rw [e1]
          exact next (fun h => hc h.1)

theorem rdA_rows {l : List (List UInt8)} {i : Nat} {x : List UInt8} (h : l[i]? = some x) : (rdA (rowsS l) (i : Int)).s = B x := by
  rw [rdA_get (a := .str (B x)) (by unfold rowsS; rw [List.getElem?_map, h]; rfl)]; rfl
/-- How many bytes the lines have up to the first empty one. -/
def cutAt : List (List UInt8) → Option Nat
  | [] => none
  | x :: r => if x = [13, 10] then some x.length else (cutAt r).map (x.length + ·)
def total : List (List UInt8) → Nat
  | [] => 0
  | x :: r => x.length + total r
theorem total_append (l m : List (List UInt8)) : total (l ++ m) = total l + total m := by
  induction l with
  | nil => simp [total]
  | cons x r ih => simp [total, ih]; omega
theorem linesG_total (cur s : List UInt8) : total (linesG cur s) = cur.length + s.length := by
  fun_induction linesG cur s with
  | case1 => simp [total]
  | case2 cur h => simp [total]
  | case3 cur r ih => simp [total, ih]; omega
  | case4 cur c r h ih => simp [ih]; omega
/-- What Split answers, by the place of the cut. -/
def splitK (s : ByteArray) (o : Option Nat) (κ : ByteArray → ByteArray → Option R) : Option R :=
  match o with
  | some n => κ (B ((bl s).take n)) (B ((bl s).drop n))
  | none => κ s (B [])
theorem split_loop (s : ByteArray) (hs : (bl s).length ≤ 1000000) (l : List (List UInt8)) (hl : total l = (bl s).length) (hl2 : l.length ≤ 1000000) (κ : ByteArray → ByteArray → Option R) : ∀ (f i : Nat), i ≤ l.length → l.length < i + f →
    postbagref5_Split_0.L4 postbagref5_lines_0 κ f s (total (l.take i) : Nat) (i : Int) (rowsS l) = splitK s ((cutAt (l.drop i)).map (total (l.take i) + ·)) κ
  | 0, i, h1, h2 => by omega
  | f + 1, i, h1, h2 => by
    have hsz := size_bl s
    have hlen := rowsS_len l
    rw [postbagref5_Split_0.L4, postbagref5_Split_0.t4]
    cases hd : l.drop i with
    | nil =>
      have := drop_nil hd
      simp (disch := omega) only [cond_dec']
      rfl
    | cons x r =>
      obtain ⟨g1, g2, g3⟩ := drop_get hd
      have ht : total (l.take (i + 1)) = total (l.take i) + x.length := by
        rw [take_succ_get g1, total_append]; simp [total]
      have ht2 : total (l.take (i + 1)) + total r = (bl s).length := by
        rw [← hl, ← g3, ← total_append, List.take_append_drop]
      have ih := split_loop s hs l hl hl2 κ f (i + 1) (by omega) (by omega)
      simp (disch := omega) only [cond_dec, chk_and, chk_dec, rdA_rows g1, size_B]
      have e : ((total (l.take i) : Nat) : Int) + (x.length : Int) = ((total (l.take (i + 1)) : Nat) : Int) := by rw [ht]; simp
      simp only [e]
      simp (disch := omega) only [cond_dec, chk_and, chk_dec, wrap_i64]
      rw [cutAt]
      by_cases hx : x = [13, 10]
      · subst hx
        rw [if_pos rfl, decide_eq_true (show B [13, 10] = (⟨#[13, 10]⟩ : ByteArray) from rfl)]
        simp only [cond_true, Option.map_some, splitK]
        congr 1
        · rw [← B_bl (s.extract _ _), bl_extract, Int.toNat_natCast, ht]; rfl
        · rw [← B_bl (s.extract _ _), bl_extract, Int.toNat_natCast, ht]; simp [hsz]
      · rw [if_neg hx, decide_eq_false (by intro h; exact hx (B_inj.1 h))]
        simp only [cond_false]
        rw [← g3]
        refine ih.trans ?_
        congr 1
        rw [ht]
        cases cutAt (l.drop (i + 1)) with
        | none => rfl
        | some n => simp only [Option.map_some]; congr 1; omega
/-- The place of the first empty line; bol: a line begins. -/
def hdG : Bool → List UInt8 → Option Nat
  | _, [] => none
  | bol, 13 :: 10 :: r => if bol then some 2 else (hdG true r).map (2 + ·)
  | _, _ :: r => (hdG false r).map (1 + ·)
theorem hdG_crlf (bol : Bool) (r : List UInt8) : hdG bol (13 :: 10 :: r) = if bol then some 2 else (hdG true r).map (2 + ·) := by rw [hdG]
theorem hdG_else (bol : Bool) (c : UInt8) (r : List UInt8) (h : ¬ (c = 13 ∧ r.head? = some 10)) : hdG bol (c :: r) = (hdG false r).map (1 + ·) := by
  rw [hdG]
  rintro r' rfl rfl; exact h ⟨rfl, rfl⟩
theorem omap (o : Option Nat) (a b c : Nat) (h : a + b = c) : (o.map (a + ·)).map (b + ·) = o.map (c + ·) := by
  cases o with
  | none => rfl
  | some n => simp only [Option.map_some]; congr 1; omega
theorem omap0 (o : Option Nat) : o.map (0 + ·) = o := by cases o <;> simp
theorem cut_lines (cur s : List UInt8) (h1 : cur ≠ [13, 10]) (h2 : ¬ (cur = [13] ∧ s.head? = some 10)) : cutAt (linesG cur s) = (hdG (decide (cur = [])) s).map (cur.length + ·) := by
  fun_induction linesG cur s with
  | case1 => rfl
  | case2 cur h => rw [cutAt, if_neg h1]; simp [cutAt, hdG]
  | case3 cur r ih =>
    replace ih := ih (by simp) (by simp)
    rw [cutAt, hdG_crlf]
    by_cases h : cur = []
    · subst h; simp
    · rw [if_neg (by intro e; have := congrArg List.length e; simp at this; exact h this), decide_eq_false h, ih]
      simp only [List.length_append, List.length_cons, List.length_nil, decide_true, Bool.false_eq_true, if_false]
      rw [omap0, omap _ _ _ _ (show 2 + cur.length = cur.length + (0 + 1 + 1) by omega)]
  | case4 cur c r h ih =>
    have hc : ¬ (c = 13 ∧ r.head? = some 10) := by
      rintro ⟨rfl, hr⟩
      cases r with
      | nil => simp at hr
      | cons d r => simp at hr; subst hr; exact h r rfl rfl
    rw [hdG_else _ c r hc, ih ?_ ?_, decide_eq_false (by simp)]
    rotate_left
    · intro e
      match cur, e with
      | [x], e => simp at e; obtain ⟨rfl, rfl⟩ := e; exact h2 ⟨rfl, rfl⟩
      | [], e => simp at e
      | _ :: _ :: _, e => simp at e
    · rintro ⟨e, hr⟩
      match cur, e with
      | [], e => simp at e; subst e; exact hc ⟨rfl, hr⟩
      | _ :: _, e => simp at e
    rw [omap _ _ _ _ (show 1 + cur.length = (cur ++ [c]).length by simp; omega)]
theorem index_hd (s : List UInt8) : hdG false s = if Lib.index s [13, 10, 13, 10] = -1 then none else some (Lib.index s [13, 10, 13, 10] + 4).toNat := by
  have key : ∀ n (s : List UInt8), s.length ≤ n → hdG false s = if Lib.index s [13, 10, 13, 10] = -1 then none else some (Lib.index s [13, 10, 13, 10] + 4).toNat := by
    intro n
    induction n with
    | zero => intro s h; have : s = [] := by cases s <;> simp_all
              subst this; rfl
    | succ n ih =>
      intro s h
      cases s with
      | nil => rfl
      | cons c r =>
        have step : ∀ r : List UInt8, r.length ≤ n → ((hdG false r).map (1 + ·)) = if (if Lib.index r [13, 10, 13, 10] == -1 then (-1 : Int) else Lib.index r [13, 10, 13, 10] + 1) = -1 then none else some ((if Lib.index r [13, 10, 13, 10] == -1 then (-1 : Int) else Lib.index r [13, 10, 13, 10] + 1) + 4).toNat := by
          intro r hr
          rw [ih r hr]
          have := Lib.index_ge r [13, 10, 13, 10]
          by_cases e : Lib.index r [13, 10, 13, 10] = -1
          · simp [e]
          · have e' : (Lib.index r [13, 10, 13, 10] == -1) = false := by simp [e]
            simp only [e', Bool.false_eq_true, if_false]
            rw [if_neg e, if_neg (by omega)]
            simp only [Option.map_some]; congr 1; omega
        by_cases hc : c = 13 ∧ r.head? = some 10
        · obtain ⟨rfl, hr⟩ := hc
          cases r with
          | nil => simp at hr
          | cons d r =>
            simp only [List.head?_cons, Option.some.injEq] at hr; subst hr
            rw [hdG_crlf]
            simp only [Bool.false_eq_true, if_false]
            by_cases hp : ∃ r', r = 13 :: 10 :: r'
            · obtain ⟨r', rfl⟩ := hp
              rw [hdG_crlf, index_cons]
              simp
            · have hnp : List.isPrefixOf [13, 10, 13, 10] (13 :: 10 :: r) = false := by
                cases hh : List.isPrefixOf [13, 10, 13, 10] (13 :: 10 :: r) with
                | false => rfl
                | true =>
                  obtain ⟨t, ht⟩ := List.isPrefixOf_iff_prefix.1 hh
                  simp only [List.cons_append, List.nil_append, List.cons.injEq, true_and] at ht
                  exact absurd ⟨t, ht.symm⟩ hp
              have ht : hdG true r = hdG false r := by
                cases r with
                | nil => rfl
                | cons a r =>
                  have : ¬ (a = 13 ∧ r.head? = some 10) := by
                    rintro ⟨rfl, h2⟩
                    cases r with
                    | nil => simp at h2
                    | cons b r => simp at h2; subst h2; exact hp ⟨r, rfl⟩
                  rw [hdG_else _ _ _ this, hdG_else _ _ _ this]
              have h10 : hdG false (10 :: r) = (hdG false r).map (1 + ·) := hdG_else _ _ _ (by simp)
              rw [ht, ← omap _ 1 1 2 rfl, ← h10, step (10 :: r) (by simp at h ⊢; omega), index_cons 13, hnp]
              simp only [Bool.false_eq_true, if_false]
        · rw [hdG_else _ _ _ hc, step r (by simp at h; omega)]
          have hnp : List.isPrefixOf [13, 10, 13, 10] (c :: r) = false := by
            cases hh : List.isPrefixOf [13, 10, 13, 10] (c :: r) with
            | false => rfl
            | true =>
              obtain ⟨t, ht⟩ := List.isPrefixOf_iff_prefix.1 hh
              simp only [List.cons_append, List.nil_append, List.cons.injEq] at ht
              obtain ⟨rfl, rfl⟩ := ht
              exact absurd ⟨rfl, rfl⟩ hc
          rw [index_cons, hnp]; simp only [Bool.false_eq_true, if_false]
  exact key _ s (Nat.le_refl _)
theorem linesG_len (s : List UInt8) : (linesG [] s).length ≤ s.length := by
  have ht := linesG_total [] s
  simp only [List.length_nil, Nat.zero_add] at ht
  rw [← ht]
  have : ∀ (cur t : List UInt8), (linesG cur t).length ≤ total (linesG cur t) := by
    intro cur t
    fun_induction linesG cur t with
    | case1 => simp
    | case2 cur h => have : cur.length ≠ 0 := by simpa using h
                     simp [total]; omega
    | case3 cur r ih => simp [total]; omega
    | case4 cur c r h ih => exact ih
  exact this _ _
theorem lines_entry (s : ByteArray) (hs : (bl s).length ≤ 1000000) (κ : List AV → Option R) (f : Nat) (hf : (bl s).length < f) : postbagref5_lines_0.e s (postbagref5_lines_0.L4 κ f) κ = κ (rowsS (linesG [] (bl s))) := by
  unfold postbagref5_lines_0.e
  have h1 := lines_loop s hs κ f 0 0 [] (Nat.zero_le _) (Nat.le_refl _) (Nat.le_refl _) (by omega)
  simp only [List.take_zero, List.drop_zero, List.nil_append] at h1
  exact h1
theorem ref_lines (s : ByteArray) (hs : (bl s).length ≤ 1000000) (κ : List AV → Option R) : postbagref5_lines_0 s κ = κ (rowsS (linesG [] (bl s))) :=
  lines_entry s hs κ fuelK (by unfold fuelK; omega)
theorem split_entry (s : ByteArray) (hs : (bl s).length ≤ 1000000) (κ : ByteArray → ByteArray → Option R) (f : Nat) (hf : (bl s).length < f) : postbagref5_Split_0.e postbagref5_lines_0 s (postbagref5_Split_0.L4 postbagref5_lines_0 κ f) κ = splitK s (hdG true (bl s)) κ := by
  unfold postbagref5_Split_0.e
  rw [ref_lines s hs]
  have ht := linesG_total [] (bl s)
  simp only [List.length_nil, Nat.zero_add] at ht
  have hn := linesG_len (bl s)
  have h2 := split_loop s hs (linesG [] (bl s)) ht (by omega) κ f 0 (Nat.zero_le _) (by omega)
  simp only [List.take_zero, List.drop_zero, total] at h2
  refine h2.trans ?_
  rw [omap0, cut_lines _ _ (by simp) (by simp), decide_eq_true rfl]
  simp only [List.length_nil, omap0]
theorem ref_split (s : ByteArray) (hs : (bl s).length ≤ 1000000) (κ : ByteArray → ByteArray → Option R) : postbagref5_Split_0 s κ = splitK s (hdG true (bl s)) κ :=
  split_entry s hs κ fuelK (by unfold fuelK; omega)
theorem prefix_take {l p : List UInt8} : p.isPrefixOf l = decide (l.take p.length = p) := by
  rw [Bool.eq_iff_iff, List.isPrefixOf_iff_prefix, List.prefix_iff_eq_take, decide_eq_true_eq, eq_comm]
theorem hasPrefix_eq (a : ByteArray) (p : List UInt8) (κ : Bool → Option R) : strings_HasPrefix_0 a (B p) κ = κ (p.isPrefixOf (bl a)) := by
  have hsz := size_bl a
  unfold strings_HasPrefix_0 strings_HasPrefix_0.e stringslite_HasPrefix_0 stringslite_HasPrefix_0.e
  simp only [size_B]
  by_cases h : p.length ≤ (bl a).length
  · simp (disch := omega) only [cond_dec, chk_and, chk_dec]
    congr 1
    rw [prefix_take]
    congr 1
    rw [← B_bl (a.extract _ _), bl_extract, B_inj]
    simp
  · simp (disch := omega) only [cond_dec']
    congr 1
    rw [prefix_take]
    symm; rw [decide_eq_false_iff_not]
    intro e; have := congrArg List.length e; simp at this; omega
theorem letter_split (s : ByteArray) (hs : (bl s).length ≤ 1000000) (κ : ByteArray → ByteArray → Option R) : letter_Split_0 s κ = splitK s (hdG true (bl s)) κ := by
  have hsz := size_bl s
  unfold letter_Split_0 letter_Split_0.e strings_Index_0 strings_Index_0.e stringslite_Index_0
  rw [show (⟨#[13, 10]⟩ : ByteArray) = B [13, 10] from rfl, hasPrefix_eq]
  cases hp : List.isPrefixOf [13, 10] (bl s) with
  | true =>
    obtain ⟨t, ht⟩ := List.isPrefixOf_iff_prefix.1 hp
    have : 2 ≤ (bl s).length := by rw [← ht]; simp
    simp (disch := omega) only [cond_true, chk_and, chk_dec]
    rw [← ht]
    simp only [List.cons_append, List.nil_append, hdG_crlf, if_true, splitK]
    congr 1
    · rw [← B_bl (s.extract _ _), bl_extract]; simp
    · rw [← B_bl (s.extract _ _), bl_extract]; simp [hsz]
  | false =>
    simp (disch := omega) only [cond_false, chk_dec]
    have hft : hdG true (bl s) = hdG false (bl s) := by
      cases h : bl s with
      | nil => rfl
      | cons a r =>
        have : ¬ (a = 13 ∧ r.head? = some 10) := by
          rintro ⟨rfl, h2⟩
          cases r with
          | nil => simp at h2
          | cons b r => simp at h2; subst h2; rw [h] at hp; simp at hp
        rw [hdG_else _ _ _ this, hdG_else _ _ _ this]
    rw [hft, index_hd]
    have hge := Lib.index_ge (bl s) [13, 10, 13, 10]
    show (bif decide (Lib.index (bl s) [13, 10, 13, 10] ≥ 0) then _ else _) = _
    by_cases e : Lib.index (bl s) [13, 10, 13, 10] = -1
    · rw [e]; rfl
    · have hle : Lib.index (bl s) [13, 10, 13, 10] + 4 ≤ (bl s).length := by
        have := index_room (bl s) [13, 10, 13, 10] e
        simpa using this
      rw [if_neg e]
      have hbl : s.data.toList = bl s := rfl
      simp only [hbl]
      simp (disch := omega) only [cond_dec, wrap_i64, chk_and, chk_dec, splitK]
      congr 1
      · rw [← B_bl (s.extract _ _), bl_extract]; rfl
      · rw [← B_bl (s.extract _ _), bl_extract]; simp [hsz]
/-- What Split answers. -/
def splitG (s : ByteArray) : ByteArray × ByteArray :=
  match hdG true (bl s) with
  | some n => (B ((bl s).take n), B ((bl s).drop n))
  | none => (s, B [])
theorem splitK_eq (s : ByteArray) (κ : ByteArray → ByteArray → Option R) : splitK s (hdG true (bl s)) κ = κ (splitG s).1 (splitG s).2 := by
  unfold splitK splitG; split <;> rfl
theorem letter_Split_eq (s : ByteArray) (hs : (bl s).length ≤ 1000000) (κ : ByteArray → ByteArray → Option R) : letter_Split_0 s κ = κ (splitG s).1 (splitG s).2 := (letter_split s hs κ).trans (splitK_eq s κ)
theorem ref_Split_eq (s : ByteArray) (hs : (bl s).length ≤ 1000000) (κ : ByteArray → ByteArray → Option R) : postbagref5_Split_0 s κ = κ (splitG s).1 (splitG s).2 := (ref_split s hs κ).trans (splitK_eq s κ)
theorem known_holds (κ : Bool → Option R) : postbaglaw5_known_0 κ = κ true := by kernel_rfl
/-- The law's text answers true. -/
theorem letterSplits_text (a : ByteArray) (κ : Bool → Option R) : postbaglaw5_LetterSplits_0 a κ = κ true := by
  have hsz := size_bl a
  unfold postbaglaw5_LetterSplits_0 postbaglaw5_LetterSplits_0.e
  by_cases h : a.size > 40000
  · simp (disch := omega) only [cond_dec]
  · simp (disch := omega) only [cond_dec']
    rw [letter_Split_eq a (by omega), ref_Split_eq a (by omega), known_holds]
    simp only [decide_true, cond_true]
end Go.Proofs.Ab
