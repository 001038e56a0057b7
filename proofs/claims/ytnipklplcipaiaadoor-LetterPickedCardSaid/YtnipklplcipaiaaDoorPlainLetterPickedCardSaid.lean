/- The plain functions of program and document say the same (conditions: those of each lemma). -/
import Derived.Test.YtnipklplcipaiaaDoorAbB
import Derived.IntWalk
import Derived.Test.YtnipklplcipaiaaDoorText
import Derived.Lib.IndexLaws
/- Plain lemmas on the words of the typed texts: checks, numbers, bytes. -/
namespace Go.Proofs.Ab
set_option linter.unusedVariables false
set_option maxRecDepth 4000
open Go
variable {R : Type}
/-! ## Checks -/
theorem chk_dec {p : Prop} [Decidable p] {k : Option R} (h : p) : chk (decide p) k = k := by rw [decide_eq_true h]; rfl
theorem chk_and {a b : Bool} {k : Option R} : chk (a && b) k = chk a (chk b k) := by cases a <;> rfl
theorem chk_tt {k : Option R} : chk true k = k := rfl
theorem chk_ff {k : Option R} : chk false k = none := rfl
theorem cond_dec {α : Type} {p : Prop} [Decidable p] {x y : α} (h : p) : (bif decide p then x else y) = x := by rw [decide_eq_true h]; rfl
theorem cond_dec' {α : Type} {p : Prop} [Decidable p] {x y : α} (h : ¬ p) : (bif decide p then x else y) = y := by rw [decide_eq_false h]; rfl
theorem beq_pos {x y : Int} (h : x = y) : (x == y) = true := by simp [h]
theorem beq_neg {x y : Int} (h : x ≠ y) : (x == y) = false := by simp [h]
theorem bne_pos {x y : Int} (h : x ≠ y) : (x != y) = true := by simp [h]
theorem bne_neg {x y : Int} (h : x = y) : (x != y) = false := by simp [h]
/-! ## Numbers -/
theorem wrap_i64 {x : Int} (h1 : -9223372036854775808 ≤ x) (h2 : x < 9223372036854775808) : IntKind.wrap .i64 x = x := IntWalk.i64_in x ⟨h1, by omega⟩
theorem wrap_u8 {x : Int} (h1 : 0 ≤ x) (h2 : x < 256) : IntKind.wrap .u8 x = x := by rw [IntKind.wrap_u8]; omega
/-! ## Bytes -/
/-- The bytes of a text. -/
def bl (s : ByteArray) : List UInt8 := s.data.toList
/-- A text of bytes. -/
def B (l : List UInt8) : ByteArray := ⟨l.toArray⟩
theorem bl_B (l : List UInt8) : bl (B l) = l := rfl
theorem B_bl (s : ByteArray) : B (bl s) = s := rfl
theorem size_bl (s : ByteArray) : s.size = (bl s).length := by unfold bl; rw [Array.length_toList]; rfl
theorem size_B (l : List UInt8) : (B l).size = l.length := by rw [size_bl, bl_B]
theorem bl_inj {a b : ByteArray} (h : bl a = bl b) : a = b := by rw [← B_bl a, h, B_bl]
theorem B_inj {a b : List UInt8} : B a = B b ↔ a = b := ⟨fun h => by rw [← bl_B a, h, bl_B], fun h => by rw [h]⟩
theorem bl_extract (s : ByteArray) (i j : Nat) : bl (s.extract i j) = ((bl s).take j).drop i := by
  unfold bl; rw [ByteArray.data_extract, Array.toList_extract]; simp [List.extract, List.drop_take]
theorem extract_B (l : List UInt8) (i j : Nat) : (B l).extract i j = B ((l.take j).drop i) := bl_inj (by rw [bl_extract, bl_B, bl_B])
theorem bl_append (a b : ByteArray) : bl (a ++ b) = bl a ++ bl b := by unfold bl; simp
theorem append_B (a b : List UInt8) : B a ++ B b = B (a ++ b) := bl_inj (by rw [bl_append]; rfl)
theorem empty_B : (⟨#[]⟩ : ByteArray) = B [] := rfl
theorem btA_get {s : ByteArray} {i : Nat} {c : UInt8} (h : (bl s)[i]? = some c) : btA s (i : Int) = c.toNat := by
  obtain ⟨hlt, hv⟩ := List.getElem?_eq_some_iff.1 h
  have hlt' : i < s.size := by rw [size_bl]; exact hlt
  unfold btA
  simp only [Int.toNat_natCast]
  rw [dif_pos hlt']
  congr 2
theorem drop_get {α : Type} {l : List α} {i : Nat} {c : α} {r : List α} (h : l.drop i = c :: r) : l[i]? = some c ∧ i < l.length ∧ l.drop (i + 1) = r := by
  have h0 : (l.drop i)[0]? = some c := by rw [h]; rfl
  rw [List.getElem?_drop, Nat.add_zero] at h0
  refine ⟨h0, (List.getElem?_eq_some_iff.1 h0).1, ?_⟩
  rw [← List.drop_drop, h]; rfl
theorem drop_nil {α : Type} {l : List α} {i : Nat} (h : l.drop i = []) : l.length ≤ i := by simpa using h
theorem drop_lt {α : Type} {l : List α} {i : Nat} (h : i < l.length) : ∃ c r, l.drop i = c :: r := by
  cases hd : l.drop i with
  | nil => have := drop_nil hd; omega
  | cons c r => exact ⟨c, r, rfl⟩
theorem take_succ_get {α : Type} {l : List α} {i : Nat} {c : α} (h : l[i]? = some c) : l.take (i + 1) = l.take i ++ [c] := by
  rw [List.take_add_one, h]; rfl
theorem byte_beq (c d : UInt8) : ((c.toNat : Int) == (d.toNat : Int)) = (c == d) := by
  rw [Bool.eq_iff_iff]; simp only [beq_iff_eq, Int.natCast_inj, ← UInt8.toNat_inj]
theorem byte_bne (c d : UInt8) : ((c.toNat : Int) != (d.toNat : Int)) = (c != d) := by
  unfold bne; rw [byte_beq]
theorem byte_lt (c : UInt8) : c.toNat < 256 := by have := c.toNat_lt; omega
theorem nat_i {i : Nat} : ((i : Int) + 1) = ((i + 1 : Nat) : Int) := rfl
theorem index_cons (b : UInt8) (l sub : List UInt8) : Lib.index (b :: l) sub = if sub.isPrefixOf (b :: l) then 0 else if Lib.index l sub == -1 then -1 else Lib.index l sub + 1 := rfl
theorem index_room : ∀ (s sub : List UInt8), Lib.index s sub ≠ -1 → Lib.index s sub + sub.length ≤ s.length
  | [], sub, h => by
    cases sub with
    | nil => simp [Lib.index]
    | cons a t => exact absurd rfl h
  | b :: l, sub, h => by
    rw [index_cons] at h ⊢
    split at h
    · rename_i hp
      rw [if_pos hp]
      have := (List.isPrefixOf_iff_prefix.1 hp).length_le
      omega
    · rename_i hp
      rw [if_neg hp]
      split at h
      · exact absurd rfl h
      · rename_i hi
        have hi' : Lib.index l sub ≠ -1 := by simpa using hi
        have := index_room l sub hi'
        rw [if_neg hi]
        simp only [List.length_cons]; omega
/-! ## Rows -/
theorem rdA_get {l : List AV} {i : Nat} {a : AV} (h : l[i]? = some a) : rdA l (i : Int) = a := by
  unfold rdA; rw [Int.toNat_natCast, List.getD_eq_getElem?_getD, h]; rfl
theorem rdA_drop {l : List AV} {i : Nat} {a : AV} {r : List AV} (h : l.drop i = a :: r) : rdA l (i : Int) = a := rdA_get (drop_get h).1
end Go.Proofs.Ab

/- Bytes, rows and small functions of Go's library; the law's check that the program works at all. -/
namespace Go.Proofs.Ab
set_option linter.unusedVariables false
set_option maxRecDepth 4000
open Go
variable {R : Type}
theorem btB {l : List UInt8} {i : Nat} {c : UInt8} (h : l[i]? = some c) : btA (B l) (i : Int) = c.toNat := btA_get (s := B l) h
theorem byteB (c : UInt8) (d : UInt8) (x : Int) (h : x = (d.toNat : Int)) : ((c.toNat : Int) == x) = (c == d) := by rw [h, byte_beq]
theorem byteN (c : UInt8) (d : UInt8) (x : Int) (h : x = (d.toNat : Int)) : ((c.toNat : Int) != x) = (c != d) := by rw [h, byte_bne]
/-- Lists of lines as rows. -/
def rowsS (l : List (List UInt8)) : List AV := l.map fun x => .str (B x)
theorem rowsS_len (l : List (List UInt8)) : (rowsS l).length = l.length := by unfold rowsS; simp
theorem rowsS_append (l m : List (List UInt8)) : rowsS (l ++ m) = rowsS l ++ rowsS m := by unfold rowsS; simp

theorem rdA_rows {l : List (List UInt8)} {i : Nat} {x : List UInt8} (h : l[i]? = some x) : (rdA (rowsS l) (i : Int)).s = B x := by
  rw [rdA_get (a := .str (B x)) (by unfold rowsS; rw [List.getElem?_map, h]; rfl)]; rfl
theorem rdA_last (xs : List AV) (a : AV) : rdA (xs ++ [a]) (xs.length : Int) = a := rdA_get (by simp)
theorem rdA_at (xs : List AV) (a : AV) (r : List AV) (n : Nat) (h : xs.length = n) : rdA (xs ++ a :: r) (n : Int) = a := rdA_get (by subst h; simp)
theorem setA_at (xs : List AV) (a b : AV) (r : List AV) (n : Nat) (h : xs.length = n) : setA (xs ++ a :: r) (n : Int) b = xs ++ b :: r := by
  subst h; unfold setA; simp
theorem prefix_take {l p : List UInt8} : p.isPrefixOf l = decide (l.take p.length = p) := by
  rw [Bool.eq_iff_iff, List.isPrefixOf_iff_prefix, List.prefix_iff_eq_take, decide_eq_true_eq, eq_comm]
theorem hasPrefix_eq (a : ByteArray) (p : List UInt8) (κ : Bool → Option R) : strings_HasPrefix_0 a (B p) κ = κ (p.isPrefixOf (bl a)) := by
  have hsz := size_bl a
  unfold strings_HasPrefix_0 strings_HasPrefix_0.e stringslite_HasPrefix_0 stringslite_HasPrefix_0.e
  simp only [size_B]
  by_cases h : p.length ≤ (bl a).length
  · simp (disch := omega) only [cond_dec, chk_and, chk_dec]
    congr 1
    rw [prefix_take]
    congr 1
    rw [← B_bl (a.extract _ _), bl_extract, B_inj]
    simp
  · simp (disch := omega) only [cond_dec']
    congr 1
    rw [prefix_take]
    symm; rw [decide_eq_false_iff_not]
    intro e; have := congrArg List.length e; simp at this; omega
theorem index_eq (l p : List UInt8) (hs : l.length ≤ 1000000) (κ : Int → Option R) : strings_Index_0 (B l) (B p) κ = κ (Lib.index l p) := by
  unfold strings_Index_0 strings_Index_0.e stringslite_Index_0
  have := size_B l
  simp (disch := omega) only [chk_dec]
  rfl
theorem hasPrefixB (l p : List UInt8) (κ : Bool → Option R) : strings_HasPrefix_0 (B l) (B p) κ = κ (p.isPrefixOf l) := hasPrefix_eq (B l) p κ
theorem takeWhile_get {p : UInt8 → Bool} {l : List UInt8} {k : Nat} (h : k < (l.takeWhile p).length) : ∃ c, l[k]? = some c ∧ p c = true := by
  obtain ⟨t, ht⟩ := List.takeWhile_prefix p (l := l)
  refine ⟨(l.takeWhile p)[k], ?_, List.all_eq_true.1 List.all_takeWhile _ (List.getElem_mem h)⟩
  have := List.getElem?_append_left (l₂ := t) h
  rw [ht] at this
  rw [this, List.getElem?_eq_getElem h]
theorem known_holds (κ : Bool → Option R) : postbaglaw5_known_0 κ = κ true := by kernel_rfl
theorem indexByte_at {l : List UInt8} {c : UInt8} {o : Nat} (h : l[o]? = some c) (hn : ∀ k, k < o → l[k]? ≠ some c) : Lib.indexByte l c = o := by
  have hge := Lib.indexByte_ge l c
  by_cases e : Lib.indexByte l c = -1
  · exact absurd h (Lib.indexByte_none e o)
  · obtain ⟨m, hm⟩ : ∃ m : Nat, Lib.indexByte l c = m := ⟨(Lib.indexByte l c).toNat, by omega⟩
    obtain ⟨h1, h2⟩ := Lib.indexByte_some hm
    rcases Nat.lt_trichotomy m o with hlt | heq | hgt
    · exact absurd h1 (hn m hlt)
    · rw [hm, heq]
    · exact absurd h (h2 o hgt)
theorem dw_nil {p : UInt8 → Bool} : ∀ {l : List UInt8}, l.dropWhile p = [] ↔ ∀ a ∈ l, p a = true
  | [] => by simp
  | c :: r => by
    rw [List.dropWhile_cons]
    cases h : p c with
    | true => simp [h, dw_nil (l := r)]
    | false => simp [h]
end Go.Proofs.Ab

/- Bytes as cells; strings.Builder. -/
namespace Go.Proofs.Ab
set_option linter.unusedVariables false
set_option maxRecDepth 4000
open Go
variable {R : Type}
theorem all_bytes {p : UInt8 → Bool} (h : (List.range 256).all (fun n => p (UInt8.ofNat n)) = true) (c : UInt8) : p c = true := by
  have := List.all_eq_true.1 h c.toNat (List.mem_range.2 (byte_lt c))
  rwa [UInt8.ofNat_toNat] at this
theorem sIB_eq (l : List UInt8) (c : UInt8) (κ : Int → Option R) : strings_IndexByte_0 (B l) (c.toNat : Int) κ = κ (Lib.indexByte l c) := by
  show κ (Lib.indexByte l ((c.toNat : Int).toNat.toUInt8)) = _
  rw [Int.toNat_natCast]
  show κ (Lib.indexByte l (UInt8.ofNat c.toNat)) = _
  rw [UInt8.ofNat_toNat]
/-- A text's bytes as cells. -/
def intsAV (t : List UInt8) : List AV := t.map fun b => AV.int (b.toNat : Int)
theorem ints_len (t : List UInt8) : (intsAV t).length = t.length := by unfold intsAV; simp
theorem ints_append (t u : List UInt8) : intsAV t ++ intsAV u = intsAV (t ++ u) := by unfold intsAV; simp
theorem ints_snoc (t : List UInt8) (c : UInt8) : intsAV t ++ [AV.int (c.toNat : Int)] = intsAV (t ++ [c]) := ints_append t [c]
theorem strAV_ints (t : List UInt8) : strAV (intsAV t) = B t := by
  unfold strAV intsAV B
  congr 2
  rw [List.map_map]
  conv => rhs; rw [← List.map_id t]
  apply List.map_congr_left
  intro b hb
  show UInt8.ofNat ((b.toNat : Int).toNat) = b
  rw [Int.toNat_natCast, UInt8.ofNat_toNat]
theorem ints_ok (t : List UInt8) : List.all (intsAV t) byteOk = true := by
  unfold intsAV
  rw [List.all_map, List.all_eq_true]
  intro b hb
  have := byte_lt b
  show byteOk (AV.int (b.toNat : Int)) = true
  unfold byteOk
  show (decide (0 ≤ (b.toNat : Int)) && decide ((b.toNat : Int) < 256)) = true
  rw [decide_eq_true (by omega), decide_eq_true (by omega)]; rfl
theorem bytesB' (t : List UInt8) : bytesAV (B t) = intsAV t := rfl
theorem wByte_eq (l : List AV) (a : Int) (κ : List AV → Option R) (h : l.length ≤ 1000000000) : strings_Builder_WriteByte_vxfei l a κ = κ (l ++ [AV.int a]) := by
  show chk (decide ((l.length + 1) * 1 ≤ 140737488355328)) (κ (l ++ [AV.int a])) = _
  rw [chk_dec (by omega)]
theorem bString_eq (t : List UInt8) (κ : ByteArray → Option R) : strings_Builder_String_vxfe (intsAV t) κ = κ (B t) := by
  unfold strings_Builder_String_vxfe strings_Builder_String_vxfe.e
  rw [chk_dec rfl, ints_ok, strAV_ints]; rfl
theorem bytesB (t : List UInt8) : bytesAV (B t) = intsAV t := rfl
theorem wString_eq (l : List AV) (s : ByteArray) (κ : Int → List AV → Option R) (h : l.length + s.size ≤ 1000000000) : strings_Builder_WriteString_vxfes l s κ = κ (s.size : Int) (l ++ bytesAV s) := by
  show chk (decide ((l.length + (bytesAV s).length) * 1 ≤ 140737488355328)) (κ (s.size : Int) (l ++ bytesAV s)) = _
  have : (bytesAV s).length = s.size := by unfold bytesAV; simp
  rw [chk_dec (by omega)]
end Go.Proofs.Ab

/- Where a text ends in another. -/
namespace Go.Proofs.Ab
set_option linter.unusedVariables false
set_option maxRecDepth 4000
open Go
variable {R : Type}
theorem hasSuffix_eq (s p : List UInt8) (hs : s.length ≤ 1000000) (hp : p.length ≤ 1000000) (κ : Bool → Option R) : stringslite_HasSuffix_0 (B s) (B p) κ = κ (decide (s.drop (s.length - p.length) = p)) := by
  unfold stringslite_HasSuffix_0 stringslite_HasSuffix_0.e
  simp only [size_B]
  by_cases h : p.length ≤ s.length
  · have hw : IntKind.wrap .i64 ((s.length : Int) - (p.length : Int)) = ((s.length - p.length : Nat) : Int) := by rw [wrap_i64 (by omega) (by omega)]; omega
    rw [cond_dec (by omega)]
    simp only [hw, extract_B, Int.toNat_natCast, List.take_length, B_inj]
    rw [chk_and, chk_dec (by omega), chk_and, chk_dec (by omega), chk_dec (by omega)]
  · rw [cond_dec' (by omega)]
    congr 1
    symm; rw [decide_eq_false_iff_not]
    intro e; have := congrArg List.length e
    rw [List.length_drop] at this; omega
theorem sHasSuffix (s p : List UInt8) (hs : s.length ≤ 1000000) (hp : p.length ≤ 1000000) (κ : Bool → Option R) : strings_HasSuffix_0 (B s) (B p) κ = κ (decide (s.drop (s.length - p.length) = p)) := hasSuffix_eq s p hs hp κ
end Go.Proofs.Ab

/- Lines: what the document's program cuts. -/
namespace Go.Proofs.Ab
set_option linter.unusedVariables false
set_option maxRecDepth 4000
open Go
variable {R : Type}
/-- Lines with their ends; cur: what stands of the line that goes on. -/
def linesG : List UInt8 → List UInt8 → List (List UInt8)
  | cur, [] => if cur = [] then [] else [cur]
  | cur, 13 :: 10 :: r => (cur ++ [13, 10]) :: linesG [] r
  | cur, c :: r => linesG (cur ++ [c]) r
theorem linesG_crlf (cur r : List UInt8) : linesG cur (13 :: 10 :: r) = (cur ++ [13, 10]) :: linesG [] r := by rw [linesG]
theorem linesG_else (cur : List UInt8) (c : UInt8) (r : List UInt8) (h : ¬ (c = 13 ∧ r.head? = some 10)) : linesG cur (c :: r) = linesG (cur ++ [c]) r := by
  rw [linesG]
  rintro r' rfl rfl; exact h ⟨rfl, rfl⟩
def total : List (List UInt8) → Nat
  | [] => 0
  | x :: r => x.length + total r
theorem total_append (l m : List (List UInt8)) : total (l ++ m) = total l + total m := by
  induction l with
  | nil => simp [total]
  | cons x r ih => simp [total, ih]; omega
theorem linesG_total (cur s : List UInt8) : total (linesG cur s) = cur.length + s.length := by
  fun_induction linesG cur s with
  | case1 => simp [total]
  | case2 cur h => simp [total]
  | case3 cur r ih => simp [total, ih]; omega
  | case4 cur c r h ih => simp [ih]; omega
theorem linesG_len (s : List UInt8) : (linesG [] s).length ≤ s.length := by
  have ht := linesG_total [] s
  simp only [List.length_nil, Nat.zero_add] at ht
  rw [← ht]
  have : ∀ (cur t : List UInt8), (linesG cur t).length ≤ total (linesG cur t) := by
    intro cur t
    fun_induction linesG cur t with
    | case1 => simp
    | case2 cur h => have : cur.length ≠ 0 := by simpa using h
                     simp [total]; omega
    | case3 cur r ih => simp [total]; omega
    | case4 cur c r h ih => exact ih
  exact this _ _
end Go.Proofs.Ab

/- LetterSplits: what both programs cut. -/
namespace Go.Proofs.Ab
set_option linter.unusedVariables false
set_option maxRecDepth 4000
open Go
variable {R : Type}
/-- How many bytes the lines have up to the first empty one. -/
def cutAt : List (List UInt8) → Option Nat
  | [] => none
  | x :: r => if x = [13, 10] then some x.length else (cutAt r).map (x.length + ·)
/-- What Split answers, by the place of the cut. -/
def splitK (s : ByteArray) (o : Option Nat) (κ : ByteArray → ByteArray → Option R) : Option R :=
  match o with
  | some n => κ (B ((bl s).take n)) (B ((bl s).drop n))
  | none => κ s (B [])
/-- The place of the first empty line; bol: a line begins. -/
def hdG : Bool → List UInt8 → Option Nat
  | _, [] => none
  | bol, 13 :: 10 :: r => if bol then some 2 else (hdG true r).map (2 + ·)
  | _, _ :: r => (hdG false r).map (1 + ·)
theorem hdG_crlf (bol : Bool) (r : List UInt8) : hdG bol (13 :: 10 :: r) = if bol then some 2 else (hdG true r).map (2 + ·) := by rw [hdG]
theorem hdG_else (bol : Bool) (c : UInt8) (r : List UInt8) (h : ¬ (c = 13 ∧ r.head? = some 10)) : hdG bol (c :: r) = (hdG false r).map (1 + ·) := by
  rw [hdG]
  rintro r' rfl rfl; exact h ⟨rfl, rfl⟩
theorem omap (o : Option Nat) (a b c : Nat) (h : a + b = c) : (o.map (a + ·)).map (b + ·) = o.map (c + ·) := by
  cases o with
  | none => rfl
  | some n => simp only [Option.map_some]; congr 1; omega
theorem omap0 (o : Option Nat) : o.map (0 + ·) = o := by cases o <;> simp
theorem cut_lines (cur s : List UInt8) (h1 : cur ≠ [13, 10]) (h2 : ¬ (cur = [13] ∧ s.head? = some 10)) : cutAt (linesG cur s) = (hdG (decide (cur = [])) s).map (cur.length + ·) := by
  fun_induction linesG cur s with
  | case1 => rfl
  | case2 cur h => rw [cutAt, if_neg h1]; simp [cutAt, hdG]
  | case3 cur r ih =>
    replace ih := ih (by simp) (by simp)
    rw [cutAt, hdG_crlf]
    by_cases h : cur = []
    · subst h; simp
    · rw [if_neg (by intro e; have := congrArg List.length e; simp at this; exact h this), decide_eq_false h, ih]
      simp only [List.length_append, List.length_cons, List.length_nil, decide_true, Bool.false_eq_true, if_false]
      rw [omap0, omap _ _ _ _ (show 2 + cur.length = cur.length + (0 + 1 + 1) by omega)]
  | case4 cur c r h ih =>
    have hc : ¬ (c = 13 ∧ r.head? = some 10) := by
      rintro ⟨rfl, hr⟩
      cases r with
      | nil => simp at hr
      | cons d r => simp at hr; subst hr; exact h r rfl rfl
    rw [hdG_else _ c r hc, ih ?_ ?_, decide_eq_false (by simp)]
    rotate_left
    · intro e
      match cur, e with
      | [x], e => simp at e; obtain ⟨rfl, rfl⟩ := e; exact h2 ⟨rfl, rfl⟩
      | [], e => simp at e
      | _ :: _ :: _, e => simp at e
    · rintro ⟨e, hr⟩
      match cur, e with
      | [], e => simp at e; subst e; exact hc ⟨rfl, hr⟩
      | _ :: _, e => simp at e
    rw [omap _ _ _ _ (show 1 + cur.length = (cur ++ [c]).length by simp; omega)]
theorem index_hd (s : List UInt8) : hdG false s = if Lib.index s [13, 10, 13, 10] = -1 then none else some (Lib.index s [13, 10, 13, 10] + 4).toNat := by
  have key : ∀ n (s : List UInt8), s.length ≤ n → hdG false s = if Lib.index s [13, 10, 13, 10] = -1 then none else some (Lib.index s [13, 10, 13, 10] + 4).toNat := by
    intro n
    induction n with
    | zero => intro s h; have : s = [] := by cases s <;> simp_all
              subst this; rfl
    | succ n ih =>
      intro s h
      cases s with
      | nil => rfl
      | cons c r =>
        have step : ∀ r : List UInt8, r.length ≤ n → ((hdG false r).map (1 + ·)) = if (if Lib.index r [13, 10, 13, 10] == -1 then (-1 : Int) else Lib.index r [13, 10, 13, 10] + 1) = -1 then none else some ((if Lib.index r [13, 10, 13, 10] == -1 then (-1 : Int) else Lib.index r [13, 10, 13, 10] + 1) + 4).toNat := by
          intro r hr
          rw [ih r hr]
          have := Lib.index_ge r [13, 10, 13, 10]
          by_cases e : Lib.index r [13, 10, 13, 10] = -1
          · simp [e]
          · have e' : (Lib.index r [13, 10, 13, 10] == -1) = false := by simp [e]
            simp only [e', Bool.false_eq_true, if_false]
            rw [if_neg e, if_neg (by omega)]
            simp only [Option.map_some]; congr 1; omega
        by_cases hc : c = 13 ∧ r.head? = some 10
        · obtain ⟨rfl, hr⟩ := hc
          cases r with
          | nil => simp at hr
          | cons d r =>
            simp only [List.head?_cons, Option.some.injEq] at hr; subst hr
            rw [hdG_crlf]
            simp only [Bool.false_eq_true, if_false]
            by_cases hp : ∃ r', r = 13 :: 10 :: r'
            · obtain ⟨r', rfl⟩ := hp
              rw [hdG_crlf, index_cons]
              simp
            · have hnp : List.isPrefixOf [13, 10, 13, 10] (13 :: 10 :: r) = false := by
                cases hh : List.isPrefixOf [13, 10, 13, 10] (13 :: 10 :: r) with
                | false => rfl
                | true =>
                  obtain ⟨t, ht⟩ := List.isPrefixOf_iff_prefix.1 hh
                  simp only [List.cons_append, List.nil_append, List.cons.injEq, true_and] at ht
                  exact absurd ⟨t, ht.symm⟩ hp
              have ht : hdG true r = hdG false r := by
                cases r with
                | nil => rfl
                | cons a r =>
                  have : ¬ (a = 13 ∧ r.head? = some 10) := by
                    rintro ⟨rfl, h2⟩
                    cases r with
                    | nil => simp at h2
                    | cons b r => simp at h2; subst h2; exact hp ⟨r, rfl⟩
                  rw [hdG_else _ _ _ this, hdG_else _ _ _ this]
              have h10 : hdG false (10 :: r) = (hdG false r).map (1 + ·) := hdG_else _ _ _ (by simp)
              rw [ht, ← omap _ 1 1 2 rfl, ← h10, step (10 :: r) (by simp at h ⊢; omega), index_cons 13, hnp]
              simp only [Bool.false_eq_true, if_false]
        · rw [hdG_else _ _ _ hc, step r (by simp at h; omega)]
          have hnp : List.isPrefixOf [13, 10, 13, 10] (c :: r) = false := by
            cases hh : List.isPrefixOf [13, 10, 13, 10] (c :: r) with
            | false => rfl
            | true =>
              obtain ⟨t, ht⟩ := List.isPrefixOf_iff_prefix.1 hh
              simp only [List.cons_append, List.nil_append, List.cons.injEq] at ht
              obtain ⟨rfl, rfl⟩ := ht
              exact absurd ⟨rfl, rfl⟩ hc
          rw [index_cons, hnp]; simp only [Bool.false_eq_true, if_false]
  exact key _ s (Nat.le_refl _)
theorem lSplit_k (s : ByteArray) (hs : (bl s).length ≤ 1000000) (κ : ByteArray → ByteArray → Option R) : letter_Split_0 s κ = splitK s (hdG true (bl s)) κ := by
  have hsz := size_bl s
  unfold letter_Split_0 letter_Split_0.e strings_Index_0 strings_Index_0.e stringslite_Index_0
  rw [show (⟨#[13, 10]⟩ : ByteArray) = B [13, 10] from rfl, hasPrefix_eq]
  cases hp : List.isPrefixOf [13, 10] (bl s) with
  | true =>
    obtain ⟨t, ht⟩ := List.isPrefixOf_iff_prefix.1 hp
    have : 2 ≤ (bl s).length := by rw [← ht]; simp
    simp (disch := omega) only [cond_true, chk_and, chk_dec]
    rw [← ht]
    simp only [List.cons_append, List.nil_append, hdG_crlf, if_true, splitK]
    congr 1
    · rw [← B_bl (s.extract _ _), bl_extract]; simp
    · rw [← B_bl (s.extract _ _), bl_extract]; simp [hsz]
  | false =>
    simp (disch := omega) only [cond_false, chk_dec]
    have hft : hdG true (bl s) = hdG false (bl s) := by
      cases h : bl s with
      | nil => rfl
      | cons a r =>
        have : ¬ (a = 13 ∧ r.head? = some 10) := by
          rintro ⟨rfl, h2⟩
          cases r with
          | nil => simp at h2
          | cons b r => simp at h2; subst h2; rw [h] at hp; simp at hp
        rw [hdG_else _ _ _ this, hdG_else _ _ _ this]
    rw [hft, index_hd]
    have hge := Lib.index_ge (bl s) [13, 10, 13, 10]
    show (bif decide (Lib.index (bl s) [13, 10, 13, 10] ≥ 0) then _ else _) = _
    by_cases e : Lib.index (bl s) [13, 10, 13, 10] = -1
    · rw [e]; rfl
    · have hle : Lib.index (bl s) [13, 10, 13, 10] + 4 ≤ (bl s).length := by
        have := index_room (bl s) [13, 10, 13, 10] e
        simpa using this
      rw [if_neg e]
      have hbl : s.data.toList = bl s := rfl
      simp only [hbl]
      simp (disch := omega) only [cond_dec, wrap_i64, chk_and, chk_dec, splitK]
      congr 1
      · rw [← B_bl (s.extract _ _), bl_extract]; rfl
      · rw [← B_bl (s.extract _ _), bl_extract]; simp [hsz]
/-- What Split answers. -/
def splitG (s : ByteArray) : ByteArray × ByteArray :=
  match hdG true (bl s) with
  | some n => (B ((bl s).take n), B ((bl s).drop n))
  | none => (s, B [])
theorem splitK_eq (s : ByteArray) (κ : ByteArray → ByteArray → Option R) : splitK s (hdG true (bl s)) κ = κ (splitG s).1 (splitG s).2 := by
  unfold splitK splitG; split <;> rfl
theorem lSplit_eq (s : ByteArray) (hs : (bl s).length ≤ 1000000) (κ : ByteArray → ByteArray → Option R) : letter_Split_0 s κ = κ (splitG s).1 (splitG s).2 := (lSplit_k s hs κ).trans (splitK_eq s κ)
end Go.Proofs.Ab

/- Lines, headers and fields: what both programs read. -/
namespace Go.Proofs.Ab
set_option linter.unusedVariables false
set_option maxRecDepth 4000
open Go
variable {R : Type}
/-- A blank. -/
def isBl (c : UInt8) : Bool := c == 32 || c == 9
/-- A byte of a field's name. -/
def isNm (c : UInt8) : Bool := decide (32 < c.toNat) && (decide (c.toNat < 127) && c != 58)
def nmL (c : List UInt8) : List UInt8 := c.takeWhile isNm
def atL (c : List UInt8) : Nat := (nmL c).length + ((c.drop (nmL c).length).takeWhile isBl).length
/-- Does a line begin a field? -/
def isF (c : List UInt8) : Bool := decide (nmL c ≠ []) && (c[atL c]? == some 58)
theorem isBlank_eq (c : UInt8) (κ : Bool → Option R) : letter_isBlank_0 (c.toNat : Int) κ = κ (isBl c) := by
  unfold letter_isBlank_0 letter_isBlank_0.e
  rw [byteB c 32 32 rfl, byteB c 9 9 rfl]
  unfold isBl
  cases (c == 32) <;> rfl
theorem begins_end (c n : List UInt8) (i : Nat) (κ : ByteArray → Bool → Option R) :
    (bif (!decide (B n = (⟨#[]⟩ : ByteArray))) then (bif (decide ((i : Int) < ((B c).size : Int))) then (chk ((decide ((0 : Int) ≤ (i : Int))) && (decide ((i : Int) < ((B c).size : Int)))) (κ (B n) ((btA (B c) (i : Int)) == 58))) else (κ (B n) false)) else (κ (B n) false))
      = κ (B n) (decide (n ≠ []) && (c[i]? == some 58)) := by
  simp only [size_B, empty_B, B_inj]
  by_cases hn : n = []
  · subst hn; rfl
  · simp only [hn, decide_false, Bool.not_false, cond_true, ne_eq, not_false_eq_true, decide_true, Bool.true_and]
    by_cases hi : i < c.length
    · simp (disch := omega) only [cond_dec, chk_and, chk_dec]
      rw [btB (List.getElem?_eq_getElem hi), byteB _ 58 58 rfl, List.getElem?_eq_getElem hi]
      rfl
    · simp (disch := omega) only [cond_dec']
      rw [List.getElem?_eq_none (by omega)]; rfl
theorem begins_L5 (c n : List UInt8) (hs : c.length ≤ 1000000) (κ : ByteArray → Bool → Option R) : ∀ (f i : Nat), i ≤ c.length → c.length < i + f →
    letter_begins_0.L5 letter_isBlank_0 κ f (B c) (i : Int) (B n) = κ (B n) (decide (n ≠ []) && (c[i + ((c.drop i).takeWhile isBl).length]? == some 58))
  | 0, i, h1, h2 => by omega
  | f + 1, i, h1, h2 => by
    rw [letter_begins_0.L5, letter_begins_0.t5]
    simp only [begins_end]
    simp only [size_B]
    cases hd : c.drop i with
    | nil =>
      have := drop_nil hd
      simp (disch := omega) only [cond_dec']
      rfl
    | cons b r =>
      obtain ⟨g1, g2, g3⟩ := drop_get hd
      simp (disch := omega) only [cond_dec, chk_and, chk_dec, btB g1, isBlank_eq, wrap_i64]
      rw [List.takeWhile_cons]
      cases hb : isBl b with
      | false => rfl
      | true =>
        simp only [cond_true, nat_i, if_true, List.length_cons]
        rw [begins_L5 c n hs κ f (i + 1) (by omega) (by omega), g3]
        congr 4; omega
theorem isNm_eq (c : UInt8) : isNm c = (decide ((c.toNat : Int) > 32) && (decide ((c.toNat : Int) < 127) && ((c.toNat : Int) != 58))) := by
  rw [byteN c 58 58 rfl]; unfold isNm
  congr 1
  · rw [decide_eq_decide]; omega
  · congr 1
    rw [decide_eq_decide]; omega
theorem begins_L2 (c : List UInt8) (hs : c.length ≤ 1000000) (κ : ByteArray → Bool → Option R) : ∀ (f i : Nat), i ≤ c.length → 2 * c.length + 2 < i + f → c.take i = (c.take i).takeWhile isNm →
    letter_begins_0.L2 letter_isBlank_0 κ f (B c) (i : Int) = κ (B (nmL c)) (isF c)
  | 0, i, h1, h2, h3 => by omega
  | f + 1, i, h1, h2, h3 => by
    have fin : nmL c = c.take i → letter_begins_0.L5 letter_isBlank_0 κ f (B c) (i : Int) ((B c).extract ((0 : Int)).toNat ((i : Int)).toNat) = κ (B (nmL c)) (isF c) := by
      intro hn
      rw [extract_B]
      simp only [Int.toNat_zero, List.drop_zero, Int.toNat_natCast]
      rw [begins_L5 c _ hs κ f i h1 (by omega), hn]
      unfold isF atL
      have hl : (c.take i).length = i := by simp; omega
      rw [hn, hl]
    rw [letter_begins_0.L2, letter_begins_0.t2]
    have hsplit : nmL c = c.take i ++ (c.drop i).takeWhile isNm := by
      unfold nmL
      conv => lhs; rw [← List.take_append_drop i c]
      rw [List.takeWhile_append_of_pos]
      rw [h3]; intro a ha; exact List.all_eq_true.1 List.all_takeWhile a ha
    cases hd : c.drop i with
    | nil =>
      have := drop_nil hd
      simp only [size_B]
      simp (disch := omega) only [cond_dec', chk_and, chk_dec]
      exact fin (by rw [hsplit, hd]; simp)
    | cons b r =>
      obtain ⟨g1, g2, g3⟩ := drop_get hd
      simp only [size_B]
      simp (disch := omega) only [cond_dec, chk_and, chk_dec, btB g1, wrap_i64]
      have hb : isNm b = false → nmL c = c.take i := by
        intro hb; rw [hsplit, hd, List.takeWhile_cons, hb]; simp
      rw [isNm_eq] at hb
      cases e1 : decide ((b.toNat : Int) > 32) with
      | false => exact fin (hb (by rw [e1]; rfl))
      | true =>
        cases e2 : decide ((b.toNat : Int) < 127) with
        | false => exact fin (hb (by rw [e1, e2]; rfl))
        | true =>
          cases e3 : ((b.toNat : Int) != 58) with
          | false => exact fin (hb (by rw [e1, e2, e3]; rfl))
          | true =>
            have hb' : isNm b = true := by rw [isNm_eq, e1, e2, e3]; rfl
            exact begins_L2 c hs κ f (i + 1) (by omega) (by omega) (by
              rw [take_succ_get g1, List.takeWhile_append_of_pos (by rw [h3]; intro a ha; exact List.all_eq_true.1 List.all_takeWhile a ha)]
              simp [hb'])
theorem begins_entry (c : List UInt8) (hs : c.length ≤ 1000000) (κ : ByteArray → Bool → Option R) (f : Nat) (hf : 2 * c.length + 2 < f) :
    letter_begins_0.e letter_isBlank_0 (B c) (letter_begins_0.L2 letter_isBlank_0 κ f) (letter_begins_0.L5 letter_isBlank_0 κ f) κ = κ (B (nmL c)) (isF c) :=
  begins_L2 c hs κ f 0 (by omega) (by omega) (by simp)
theorem begins_eq (c : List UInt8) (hs : c.length ≤ 1000000) (κ : ByteArray → Bool → Option R) : letter_begins_0 (B c) κ = κ (B (nmL c)) (isF c) :=
  begins_entry c hs κ fuelK (by unfold fuelK; omega)
end Go.Proofs.Ab

/- The rows of a header. -/
namespace Go.Proofs.Ab
set_option linter.unusedVariables false
set_option maxRecDepth 4000
open Go
variable {R : Type}
/-- How long the first line is, its end with it. -/
def ln : List UInt8 → Nat
  | [] => 0
  | 13 :: 10 :: _ => 2
  | _ :: r => 1 + ln r
theorem ln_crlf (r : List UInt8) : ln (13 :: 10 :: r) = 2 := by rw [ln]
theorem ln_else (c : UInt8) (r : List UInt8) (h : ¬ (c = 13 ∧ r.head? = some 10)) : ln (c :: r) = 1 + ln r := by
  rw [ln]
  rintro r' rfl rfl; exact h ⟨rfl, rfl⟩
theorem ln_le (l : List UInt8) : ln l ≤ l.length := by
  fun_induction ln l with
  | case1 => simp
  | case2 => simp
  | case3 c r h ih => simp; omega
theorem ln_pos (c : UInt8) (r : List UInt8) : 0 < ln (c :: r) := by
  by_cases h : c = 13 ∧ r.head? = some 10
  · obtain ⟨rfl, h2⟩ := h
    cases r with
    | nil => simp at h2
    | cons d r => simp at h2; subst h2; rw [ln_crlf]; omega
  · rw [ln_else _ _ h]; omega
theorem linesG_ln (cur l : List UInt8) : linesG cur l = if cur ++ l = [] then [] else (cur ++ l.take (ln l)) :: linesG [] (l.drop (ln l)) := by
  fun_induction linesG cur l with
  | case1 => simp
  | case2 cur h => simp [h, ln, linesG]
  | case3 cur r ih => simp [ln_crlf]
  | case4 cur c r h ih =>
    rw [ih, ln_else c r (by rintro ⟨rfl, h2⟩; cases r with | nil => simp at h2 | cons d r => simp at h2; subst h2; exact h r rfl rfl)]
    simp [Nat.add_comm 1]
theorem linesG_cons (c : UInt8) (r : List UInt8) : linesG [] (c :: r) = (c :: r).take (ln (c :: r)) :: linesG [] ((c :: r).drop (ln (c :: r))) := by
  rw [linesG_ln, if_neg (by simp)]; rfl
theorem isPrefix_crlf (l : List UInt8) : List.isPrefixOf [13, 10] l = true ↔ ∃ r, l = 13 :: 10 :: r := by
  rw [List.isPrefixOf_iff_prefix]
  exact ⟨fun ⟨t, h⟩ => ⟨t, h.symm⟩, fun ⟨t, h⟩ => ⟨t, h.symm⟩⟩
theorem crlf_iff (c : UInt8) (r : List UInt8) : List.isPrefixOf [13, 10] (c :: r) = true ↔ (c = 13 ∧ r.head? = some 10) := by
  rw [isPrefix_crlf]
  constructor
  · rintro ⟨t, h⟩; cases h; exact ⟨rfl, rfl⟩
  · rintro ⟨rfl, h⟩
    cases r with
    | nil => simp at h
    | cons d r => simp at h; subst h; exact ⟨r, rfl⟩
theorem ln_index : ∀ l : List UInt8, (Lib.index l [13, 10] = -1 ∧ ln l = l.length) ∨ (0 ≤ Lib.index l [13, 10] ∧ (ln l : Int) = Lib.index l [13, 10] + 2)
  | [] => Or.inl ⟨rfl, rfl⟩
  | c :: r => by
    by_cases h : c = 13 ∧ r.head? = some 10
    · have hp := (crlf_iff c r).2 h
      obtain ⟨r', hr⟩ := (isPrefix_crlf _).1 hp
      rw [index_cons, if_pos hp, hr, ln_crlf]
      exact Or.inr ⟨by omega, by omega⟩
    · have hp : ¬ List.isPrefixOf [13, 10] (c :: r) = true := fun e => h ((crlf_iff c r).1 e)
      rw [index_cons, if_neg hp, ln_else c r h]
      rcases ln_index r with ⟨e1, e2⟩ | ⟨e1, e2⟩
      · rw [e1]; exact Or.inl ⟨rfl, by simp [e2]; omega⟩
      · have : (Lib.index r [13, 10] == -1) = false := by simp; omega
        rw [this]
        exact Or.inr ⟨by simp; omega, by simp; omega⟩
theorem ln_take_crlf (l : List UInt8) : l.take (ln l) = [13, 10] ↔ List.isPrefixOf [13, 10] l = true := by
  rw [isPrefix_crlf]
  constructor
  · intro h
    refine ⟨l.drop (ln l), ?_⟩
    conv => lhs; rw [← List.take_append_drop (ln l) l, h]
    rfl
  · rintro ⟨r, rfl⟩; rw [ln_crlf]; rfl
/-- The lines ahead of the first empty one. -/
def headL (l : List UInt8) : List (List UInt8) := (linesG [] l).takeWhile fun x => x != [13, 10]
theorem headL_nil : headL [] = [] := by unfold headL; rw [linesG]; rfl
theorem headL_crlf {l : List UInt8} (h : List.isPrefixOf [13, 10] l = true) : headL l = [] := by
  obtain ⟨r, rfl⟩ := (isPrefix_crlf l).1 h
  unfold headL; rw [linesG_cons, ln_crlf]; simp
theorem headL_cons {c : UInt8} {r : List UInt8} (h : List.isPrefixOf [13, 10] (c :: r) = false) : headL (c :: r) = (c :: r).take (ln (c :: r)) :: headL ((c :: r).drop (ln (c :: r))) := by
  unfold headL; rw [linesG_cons, List.takeWhile_cons]
  have : ((c :: r).take (ln (c :: r)) != [13, 10]) = true := by
    rw [bne_iff_ne]; intro e; rw [ln_take_crlf, h] at e; cases e
  rw [this]; simp
/-- The rows of a header's lines. -/
def rowsG : Bool → List UInt8 → List (List UInt8) → List (List UInt8 × List UInt8 × Bool × Bool)
  | _, _, [] => []
  | fld, nm, c :: r => bif isBl (c.headD 0) then (c, nm, false, fld) :: rowsG fld nm r else (c, nmL c, isF c, isF c) :: rowsG (isF c) (nmL c) r
def rowAV (x : List UInt8 × List UInt8 × Bool × Bool) : AV := .agg [.str (B x.1), .str (B x.2.1), .bool x.2.2.1, .bool x.2.2.2]
theorem rows_L3 (κ : List AV → Option R) : ∀ (f : Nat) (h : List UInt8) (fld : Bool) (nm : List UInt8) (acc : List (List UInt8 × List UInt8 × Bool × Bool)), h.length < f → acc.length + h.length ≤ 1000000 →
    letter_rows_0.L3 strings_HasPrefix_0 strings_Index_0 letter_isBlank_0 letter_begins_0 κ f (B h) fld (B nm) (acc.map rowAV) = κ ((acc ++ rowsG fld nm (headL h)).map rowAV)
  | 0, h, fld, nm, acc, h1, h2 => by omega
  | f + 1, h, fld, nm, acc, h1, h2 => by
    rw [letter_rows_0.L3, letter_rows_0.t3]
    rw [show (⟨#[13, 10]⟩ : ByteArray) = B [13, 10] from rfl, empty_B]
    simp only [B_inj, hasPrefixB, index_eq h [13, 10] (by omega)]
    cases h with
    | nil => rw [headL_nil]; simp [rowsG]
    | cons c r =>
      simp only [reduceCtorEq, decide_false, Bool.not_false, cond_true]
      cases hp : List.isPrefixOf [13, 10] (c :: r) with
      | true => rw [headL_crlf hp]; simp [rowsG]
      | false =>
        rw [headL_cons hp]
        have hle := ln_le (c :: r)
        have hpos := ln_pos c r
        have key : ∀ (n : Int), n = (ln (c :: r) : Int) →
            (chk ((decide ((0 : Int) ≤ n)) && (decide (n ≤ ((B (c :: r)).size : Int)))) (chk (decide ((0 : Int) < ((B (c :: r)).size : Int))) (letter_isBlank_0 (btA (B (c :: r)) 0) (fun r11 => (bif (!r11) then (letter_begins_0 ((B (c :: r)).extract ((0 : Int)).toNat (n).toNat) (fun r12 r13 => (chk (decide (((acc.map rowAV).length + 1) * 40 ≤ 140737488355328)) (chk ((decide ((0 : Int) ≤ n)) && ((decide (n ≤ ((B (c :: r)).size : Int))) && (decide (((B (c :: r)).size : Int) ≤ ((B (c :: r)).size : Int))))) (letter_rows_0.L3 strings_HasPrefix_0 strings_Index_0 letter_isBlank_0 letter_begins_0 κ f ((B (c :: r)).extract (n).toNat (((B (c :: r)).size : Int)).toNat) r13 r12 ((acc.map rowAV) ++ [AV.agg [AV.str ((B (c :: r)).extract ((0 : Int)).toNat (n).toNat), AV.str r12, AV.bool r13, AV.bool r13]])))))) else (chk (decide (((acc.map rowAV).length + 1) * 40 ≤ 140737488355328)) (chk ((decide ((0 : Int) ≤ n)) && ((decide (n ≤ ((B (c :: r)).size : Int))) && (decide (((B (c :: r)).size : Int) ≤ ((B (c :: r)).size : Int))))) (letter_rows_0.L3 strings_HasPrefix_0 strings_Index_0 letter_isBlank_0 letter_begins_0 κ f ((B (c :: r)).extract (n).toNat (((B (c :: r)).size : Int)).toNat) fld (B nm) ((acc.map rowAV) ++ [AV.agg [AV.str ((B (c :: r)).extract ((0 : Int)).toNat (n).toNat), AV.str (B nm), AV.bool false, AV.bool fld]])))))))))
            = κ ((acc ++ rowsG fld nm ((c :: r).take (ln (c :: r)) :: headL ((c :: r).drop (ln (c :: r))))).map rowAV) := by
          intro n hn
          subst hn
          have hb : btA (B (c :: r)) 0 = c.toNat := btB (i := 0) rfl
          have hlen : (c :: r).length = r.length + 1 := rfl
          simp only [size_B, List.length_map, hb, isBlank_eq]
          simp (disch := omega) only [chk_and, chk_dec]
          simp only [extract_B, Int.toNat_natCast, Int.toNat_zero, List.drop_zero, List.take_length]
          rw [rowsG]
          have hd : ((c :: r).take (ln (c :: r))).headD 0 = c := by
            obtain ⟨m, hm⟩ : ∃ m, ln (c :: r) = m + 1 := ⟨ln (c :: r) - 1, by omega⟩
            rw [hm]; rfl
          rw [hd]
          have hdl : ((c :: r).drop (ln (c :: r))).length < f := by rw [List.length_drop]; omega
          cases hbl : isBl c with
          | true =>
            simp only [Bool.not_true, cond_false, cond_true]
            rw [show (acc.map rowAV) ++ [AV.agg [AV.str (B ((c :: r).take (ln (c :: r)))), AV.str (B nm), AV.bool false, AV.bool fld]] = (acc ++ [((c :: r).take (ln (c :: r)), nm, false, fld)]).map rowAV by simp [rowAV]]
            rw [rows_L3 κ f _ fld nm _ hdl (by simp; omega)]
            simp
          | false =>
            simp only [Bool.not_false, cond_false, cond_true]
            rw [begins_eq _ (by rw [List.length_take]; omega)]
            rw [show (acc.map rowAV) ++ [AV.agg [AV.str (B ((c :: r).take (ln (c :: r)))), AV.str (B (nmL ((c :: r).take (ln (c :: r))))), AV.bool (isF ((c :: r).take (ln (c :: r)))), AV.bool (isF ((c :: r).take (ln (c :: r))))]] = (acc ++ [((c :: r).take (ln (c :: r)), nmL ((c :: r).take (ln (c :: r))), isF ((c :: r).take (ln (c :: r))), isF ((c :: r).take (ln (c :: r))))]).map rowAV by simp [rowAV]]
            rw [rows_L3 κ f _ _ _ _ hdl (by simp; omega)]
            simp
        simp only [Bool.not_false, cond_true]
        rcases ln_index (c :: r) with ⟨e1, e2⟩ | ⟨e1, e2⟩
        · rw [e1]
          rw [cond_dec' (by omega)]
          exact key _ (by rw [size_B, e2])
        · have hw : IntKind.wrap .i64 (Lib.index (c :: r) [13, 10] + 2) = (ln (c :: r) : Int) := by rw [← e2]; exact wrap_i64 (by omega) (by omega)
          rw [cond_dec (by omega)]
          exact key _ hw
theorem rows_entry (h : List UInt8) (hs : h.length ≤ 1000000) (κ : List AV → Option R) (f : Nat) (hf : h.length < f) :
    letter_rows_0.e strings_HasPrefix_0 strings_Index_0 letter_isBlank_0 letter_begins_0 (B h) (letter_rows_0.L3 strings_HasPrefix_0 strings_Index_0 letter_isBlank_0 letter_begins_0 κ f) κ = κ ((rowsG false [] (headL h)).map rowAV) :=
  rows_L3 κ f h false [] [] hf (by simp; omega)
theorem rows_eq (h : List UInt8) (hs : h.length ≤ 1000000) (κ : List AV → Option R) : letter_rows_0 (B h) κ = κ ((rowsG false [] (headL h)).map rowAV) :=
  rows_entry h hs κ fuelK (by unfold fuelK; omega)
end Go.Proofs.Ab

/- Trim, line ends, colons. -/
namespace Go.Proofs.Ab
set_option linter.unusedVariables false
set_option maxRecDepth 4000
open Go
variable {R : Type}
/-! ## Trim -/
def rtrim (p : UInt8 → Bool) (l : List UInt8) : List UInt8 := (l.reverse.dropWhile p).reverse
theorem rtrim_nil (p : UInt8 → Bool) : rtrim p [] = [] := rfl
theorem rtrim_concat (p : UInt8 → Bool) (l : List UInt8) (c : UInt8) : rtrim p (l ++ [c]) = if p c then rtrim p l else l ++ [c] := by
  unfold rtrim
  rw [List.reverse_append, List.reverse_singleton, List.singleton_append, List.dropWhile_cons]
  split <;> simp
theorem rtrim_all {p : UInt8 → Bool} : ∀ {l : List UInt8}, (∀ a ∈ l, p a = true) → rtrim p l = [] := by
  intro l h
  unfold rtrim
  rw [dw_nil.2 (by intro a ha; exact h a (List.mem_reverse.1 ha))]; rfl
theorem rtrim_append {p : UInt8 → Bool} (a : List UInt8) {c : UInt8} (d : List UInt8) (hc : p c = false) : rtrim p (a ++ c :: d) = a ++ rtrim p (c :: d) := by
  unfold rtrim
  rw [List.reverse_append, List.reverse_cons, List.append_assoc]
  simp only [List.dropWhile_append]
  split
  · simp [hc]
  · simp
theorem rtrim_head {p : UInt8 → Bool} {c : UInt8} (d : List UInt8) (hc : p c = false) : ∃ e, rtrim p (c :: d) = c :: e := by
  refine ⟨rtrim p (c :: d) |>.tail, ?_⟩
  have := rtrim_append (p := p) [] (c := c) d hc
  unfold rtrim at this ⊢
  rw [List.reverse_cons, List.dropWhile_append]
  split
  · simp [hc]
  · simp
/-- Trimmed at both ends. -/
def trimL (l : List UInt8) : List UInt8 := rtrim isBl (l.dropWhile isBl)
theorem trim_comm (p : UInt8 → Bool) (l : List UInt8) : (rtrim p l).dropWhile p = rtrim p (l.dropWhile p) := by
  have hs : l = l.takeWhile p ++ l.dropWhile p := List.takeWhile_append_dropWhile.symm
  cases hd : l.dropWhile p with
  | nil =>
    have : ∀ a ∈ l, p a = true := dw_nil.1 hd
    rw [rtrim_all this]; rfl
  | cons c d =>
    have hc : p c = false := by
      have := List.head?_dropWhile_not p l
      rw [hd] at this; simpa using this
    conv => lhs; rw [hs, hd, rtrim_append _ _ hc]
    obtain ⟨e, he⟩ := rtrim_head (p := p) d hc
    rw [List.dropWhile_append_of_pos (by intro a ha; exact List.all_eq_true.1 List.all_takeWhile a ha), he, List.dropWhile_cons, hc]
    simp
theorem last_split {l : List UInt8} (h : l ≠ []) : ∃ t c, l = t ++ [c] := ⟨l.dropLast, l.getLast h, (List.dropLast_concat_getLast h).symm⟩
/-- The set of the blanks. -/
def blSet : List AV := setA (setA (List.replicate 256 (AV.bool false)) 32 (AV.bool true)) 9 (AV.bool true)
theorem blSet_all : (List.range 256).all (fun n => (rdA blSet (n : Int)).b == isBl (UInt8.ofNat n)) = true := by kernel_rfl
theorem contains_eq (c : UInt8) (κ : Bool → Option R) : strings_asciiSet_contains_hi blSet (c.toNat : Int) κ = κ (isBl c) := by
  unfold strings_asciiSet_contains_hi strings_asciiSet_contains_hi.e
  have hlt := byte_lt c
  simp (disch := omega) only [chk_and, chk_dec]
  have := List.all_eq_true.1 blSet_all c.toNat (List.mem_range.2 hlt)
  rw [beq_iff_eq] at this
  rw [this, UInt8.ofNat_toNat]
theorem makeSet_eq (κ : List AV → Bool → Option R) : strings_makeASCIISet_0 (⟨#[32, 9]⟩ : ByteArray) κ = κ blSet true := by kernel_rfl
theorem trimR_L1 (κ : ByteArray → Option R) : ∀ (f : Nat) (l : List UInt8), l.length < f → l.length ≤ 1000000 → strings_trimRightASCII_sh.L1 strings_asciiSet_contains_hi κ f (B l) blSet = κ (B (rtrim isBl l))
  | 0, l, h, hs => by omega
  | f + 1, l, h, hs => by
    rw [strings_trimRightASCII_sh.L1, strings_trimRightASCII_sh.t1]
    simp only [size_B]
    by_cases hl : l = []
    · subst hl; rfl
    · obtain ⟨t, c, rfl⟩ := last_split hl
      have hlen : (t ++ [c]).length = t.length + 1 := by simp
      have hw : IntKind.wrap .i64 (((t ++ [c]).length : Int) - 1) = (t.length : Int) := by rw [hlen, wrap_i64 (by omega) (by omega)]; omega
      have hg : (t ++ [c])[t.length]? = some c := by simp
      simp only [hw]
      simp (disch := omega) only [cond_dec, chk_and, chk_dec, btB hg, contains_eq]
      rw [rtrim_concat]
      cases hb : isBl c with
      | false => simp
      | true =>
        simp only [Bool.not_true, cond_false, if_true, extract_B, Int.toNat_zero, Int.toNat_natCast, List.drop_zero]
        rw [List.take_left' rfl]
        exact trimR_L1 κ f t (by omega) (by omega)
theorem trimLf_L1 (κ : ByteArray → Option R) : ∀ (f : Nat) (l : List UInt8), l.length < f → l.length ≤ 1000000 → strings_trimLeftASCII_sh.L1 strings_asciiSet_contains_hi κ f (B l) blSet = κ (B (l.dropWhile isBl))
  | 0, l, h, hs => by omega
  | f + 1, l, h, hs => by
    rw [strings_trimLeftASCII_sh.L1, strings_trimLeftASCII_sh.t1]
    simp only [size_B]
    cases l with
    | nil => rfl
    | cons c r =>
      have hlen : (c :: r).length = r.length + 1 := rfl
      have hb : btA (B (c :: r)) 0 = c.toNat := btB (i := 0) rfl
      simp (disch := omega) only [cond_dec, chk_and, chk_dec, hb, contains_eq]
      rw [List.dropWhile_cons]
      cases hbl : isBl c with
      | false => rfl
      | true =>
        simp only [Bool.not_true, cond_false, if_true, extract_B, Int.toNat_natCast, List.take_length]
        exact trimLf_L1 κ f r (by omega) (by omega)
theorem trimR_entry (l : List UInt8) (hs : l.length ≤ 1000000) (κ : ByteArray → Option R) (f : Nat) (hf : l.length < f) :
    strings_trimRightASCII_sh.e strings_asciiSet_contains_hi (B l) blSet (strings_trimRightASCII_sh.L1 strings_asciiSet_contains_hi κ f) κ = κ (B (rtrim isBl l)) := trimR_L1 κ f l hf hs
theorem trimLf_entry (l : List UInt8) (hs : l.length ≤ 1000000) (κ : ByteArray → Option R) (f : Nat) (hf : l.length < f) :
    strings_trimLeftASCII_sh.e strings_asciiSet_contains_hi (B l) blSet (strings_trimLeftASCII_sh.L1 strings_asciiSet_contains_hi κ f) κ = κ (B (l.dropWhile isBl)) := trimLf_L1 κ f l hf hs
theorem rtrim_len (p : UInt8 → Bool) (l : List UInt8) : (rtrim p l).length ≤ l.length := by
  unfold rtrim
  rw [List.length_reverse]
  have := (List.dropWhile_sublist p (l := l.reverse)).length_le
  simpa using this
theorem sTrim_eq (l : List UInt8) (hs : l.length ≤ 1000000) (κ : ByteArray → Option R) : strings_Trim_0 (B l) (⟨#[32, 9]⟩ : ByteArray) κ = κ (B (trimL l)) := by
  unfold strings_Trim_0 strings_Trim_0.e
  rw [show decide ((⟨#[32, 9]⟩ : ByteArray) = (⟨#[]⟩ : ByteArray)) = false from by decide]
  simp only [makeSet_eq, cond_false]
  by_cases hl : l = []
  · subst hl; rfl
  · rw [decide_eq_false (show ¬ B l = (⟨#[]⟩ : ByteArray) from fun e => hl (B_inj.1 e))]
    simp only [cond_false]
    rw [show (((⟨#[32, 9]⟩ : ByteArray).size : Int) == 1) = false from rfl]
    simp only [cond_false, cond_true]
    have hr := rtrim_len isBl l
    unfold strings_trimRightASCII_sh strings_trimLeftASCII_sh
    rw [trimR_entry l hs _ fuelK (by unfold fuelK; omega), trimLf_entry _ (by omega) _ fuelK (by unfold fuelK; omega), trim_comm]
    rfl
/-! ## Line ends -/
/-- A line without its end. -/
def bareL (c : List UInt8) : List UInt8 := if c.drop (c.length - 2) = [13, 10] then c.take (c.length - 2) else c
theorem bareL_le (c : List UInt8) : (bareL c).length ≤ c.length := by unfold bareL; split <;> simp
theorem trimSuffix_eq (c : List UInt8) (hs : c.length ≤ 1000000) (κ : ByteArray → Option R) : strings_TrimSuffix_0 (B c) (⟨#[13, 10]⟩ : ByteArray) κ = κ (B (bareL c)) := by
  unfold strings_TrimSuffix_0 strings_TrimSuffix_0.e stringslite_TrimSuffix_0 stringslite_TrimSuffix_0.e stringslite_HasSuffix_0 stringslite_HasSuffix_0.e
  rw [show (⟨#[13, 10]⟩ : ByteArray) = B [13, 10] from rfl]
  have h2 : ([13, 10] : List UInt8).length = 2 := rfl
  simp only [size_B, h2, extract_B, B_inj]
  unfold bareL
  by_cases h : 2 ≤ c.length
  · have hw : IntKind.wrap .i64 ((c.length : Int) - ((2 : Nat) : Int)) = ((c.length - 2 : Nat) : Int) := by rw [wrap_i64 (by omega) (by omega)]; omega
    simp only [hw, Int.toNat_natCast]
    simp (disch := omega) only [cond_dec, chk_and, chk_dec]
    simp only [List.take_length, Int.toNat_zero, List.drop_zero]
    by_cases e : c.drop (c.length - 2) = [13, 10]
    · rw [cond_dec e, if_pos e]
    · rw [cond_dec' e, if_neg e]
  · have e : c.drop (c.length - 2) ≠ [13, 10] := by intro e; have := congrArg List.length e; rw [List.length_drop] at this; simp at this; omega
    simp (disch := omega) only [cond_dec', cond_false]
    rw [if_neg e]
end Go.Proofs.Ab

/- Colons; the document's fields. -/
namespace Go.Proofs.Ab
set_option linter.unusedVariables false
set_option maxRecDepth 4000
open Go
variable {R : Type}
theorem colon_end (c : List UInt8) (n i : Nat) (κ : Int → Int → Option R) (hi : i ≤ c.length) :
    (bif ((n : Int) == 0) then (κ (-1) 0) else (bif ((i : Int) == (c.length : Int)) then (κ (-1) 0) else (chk ((decide ((0 : Int) ≤ (i : Int))) && (decide ((i : Int) < (c.length : Int)))) (bif ((btA (B c) (i : Int)) != 58) then (κ (-1) 0) else (κ (i : Int) (n : Int))))))
      = bif (decide (n ≠ 0) && (c[i]? == some 58)) then κ (i : Int) (n : Int) else κ (-1) 0 := by
  by_cases hn : n = 0
  · subst hn; rfl
  · rw [beq_neg (by omega), decide_eq_true hn]
    by_cases h : i = c.length
    · subst h
      rw [beq_pos rfl, List.getElem?_eq_none (Nat.le_refl _)]; rfl
    · rw [beq_neg (by omega)]
      have hlt : i < c.length := by omega
      simp (disch := omega) only [cond_false, chk_and, chk_dec]
      rw [btB (List.getElem?_eq_getElem hlt), byteN _ 58 58 rfl, List.getElem?_eq_getElem hlt]
      rw [show (some c[i] == some (58 : UInt8)) = (c[i] == 58) from rfl]
      unfold bne
      cases (c[i] == 58) <;> rfl
theorem isNm_eq2 (c : UInt8) : isNm c = (decide ((c.toNat : Int) ≥ 33) && (decide ((c.toNat : Int) ≤ 126) && ((c.toNat : Int) != 58))) := by
  rw [byteN c 58 58 rfl]; unfold isNm
  congr 1
  · rw [decide_eq_decide]; omega
  · congr 1
    rw [decide_eq_decide]; omega
/-! ## Lists of cells -/
/-! ## Fields -/
/-- A field: name, value, raw text. -/
abbrev Fl := List UInt8 × List UInt8 × List UInt8
def fAV (x : Fl) : AV := .agg [.str (B x.1), .str (B x.2.1), .str (B x.2.2)]
theorem fAV0 (x : Fl) : ((fAV x).fld 0).s = B x.1 := rfl
theorem fAV1 (x : Fl) : ((fAV x).fld 1).s = B x.2.1 := rfl
theorem fAV2 (x : Fl) : ((fAV x).fld 2).s = B x.2.2 := rfl
def fresh (c : List UInt8) : Fl := bif isF c then (nmL c, bareL (c.drop (atL c + 1)), c) else ([], [], c)
def ext (x : Fl) (c : List UInt8) : Fl := (x.1, x.2.1 ++ bareL c, x.2.2 ++ c)
def headG : Option Fl → List (List UInt8) → List Fl
  | none, [] => []
  | some x, [] => [x]
  | none, c :: r => headG (some (fresh c)) r
  | some x, c :: r => bif isBl (c.headD 0) then headG (some (ext x c)) r else x :: headG (some (fresh c)) r
theorem isF_blank {c : UInt8} {r : List UInt8} (h : isBl c = true) : isF (c :: r) = false := by
  unfold isF nmL
  have : isNm c = false := by
    unfold isBl at h
    rw [Bool.or_eq_true, beq_iff_eq, beq_iff_eq] at h
    rcases h with rfl | rfl <;> rfl
  rw [List.takeWhile_cons, this]; simp
theorem isF_at {c : List UInt8} (h : isF c = true) : c[atL c]? = some 58 := by
  unfold isF at h; rw [Bool.and_eq_true, beq_iff_eq] at h; exact h.2
theorem isF_nm {c : List UInt8} (h : isF c = true) : nmL c ≠ [] := by
  unfold isF at h; rw [Bool.and_eq_true, decide_eq_true_eq] at h; exact h.1
theorem isF_lt {c : List UInt8} (h : isF c = true) : atL c < c.length := (List.getElem?_eq_some_iff.1 (isF_at h)).1
theorem nmL_take (c : List UInt8) : c.take (nmL c).length = nmL c := by
  unfold nmL
  have := List.takeWhile_prefix isNm (l := c)
  exact (List.prefix_iff_eq_take.1 this).symm
theorem nmL_le (c : List UInt8) : (nmL c).length ≤ c.length := (List.takeWhile_prefix isNm (l := c)).length_le
theorem linesG_ne : ∀ (cur l : List UInt8) (x : List UInt8), x ∈ linesG cur l → x ≠ [] := by
  intro cur l
  fun_induction linesG cur l with
  | case1 => simp
  | case2 cur h => simpa using h
  | case3 cur r ih => intro x hx; rw [List.mem_cons] at hx; rcases hx with rfl | hx
                      · simp
                      · exact ih x hx
  | case4 cur c r h ih => exact ih
end Go.Proofs.Ab

/- The document's fields. -/
namespace Go.Proofs.Ab
set_option linter.unusedVariables false
set_option maxRecDepth 4000
open Go
variable {R : Type}
/-! ## Fields -/
def named (l : List Fl) : List Fl := l.filter fun x => x.1 != []
def trimF (x : Fl) : Fl := (x.1, trimL x.2.1, x.2.2)
theorem fAV_get {l : List Fl} {i : Nat} {x : Fl} (h : l[i]? = some x) : rdA (l.map fAV) (i : Int) = fAV x := rdA_get (by rw [List.getElem?_map, h]; rfl)
theorem headG_val : ∀ (ls : List (List UInt8)) (cur : Option Fl) (n : Nat), (∀ x, cur = some x → x.2.1.length + total ls ≤ n) → total ls ≤ n → ∀ x ∈ headG cur ls, x.2.1.length ≤ n
  | [], none, n, h, h2, x, hx => by rw [headG] at hx; cases hx
  | [], some y, n, h, h2, x, hx => by
    rw [headG, List.mem_singleton] at hx; subst hx
    have := h x rfl; simp only [total] at this; omega
  | c :: r, none, n, h, h2, x, hx => by
    rw [headG] at hx
    refine headG_val r _ n ?_ (by simp only [total] at h2; omega) x hx
    intro y e; cases e
    simp only [total] at h2
    have : (fresh c).2.1.length ≤ c.length := by
      unfold fresh
      cases isF c with
      | false => simp
      | true => have := bareL_le (c.drop (atL c + 1)); rw [List.length_drop] at this; show (bareL _).length ≤ _; omega
    omega
  | c :: r, some y, n, h, h2, x, hx => by
    have hy := h y rfl
    simp only [total] at h2 hy
    rw [headG] at hx
    have hf : (fresh c).2.1.length ≤ c.length := by
      unfold fresh
      cases isF c with
      | false => simp
      | true => have := bareL_le (c.drop (atL c + 1)); rw [List.length_drop] at this; show (bareL _).length ≤ _; omega
    cases hb : isBl (c.headD 0) with
    | true =>
      rw [hb, cond_true] at hx
      refine headG_val r _ n ?_ (by omega) x hx
      intro z e; cases e
      have := bareL_le c
      have : (ext y c).2.1.length = y.2.1.length + (bareL c).length := by unfold ext; simp
      omega
    | false =>
      rw [hb, cond_false, List.mem_cons] at hx
      rcases hx with rfl | hx
      · omega
      · refine headG_val r _ n ?_ (by omega) x hx
        intro z e; cases e; omega
theorem headG_len : ∀ (ls : List (List UInt8)) (cur : Option Fl), (headG cur ls).length ≤ cur.toList.length + ls.length
  | [], none => by rw [headG]; simp
  | [], some y => by rw [headG]; simp
  | c :: r, none => by rw [headG]; have := headG_len r (some (fresh c)); simp at this ⊢; omega
  | c :: r, some y => by
    rw [headG]
    have h1 := headG_len r (some (fresh c))
    have h2 := headG_len r (some (ext y c))
    cases isBl (c.headD 0) <;> simp at h1 h2 ⊢ <;> omega
theorem total_takeWhile (p : List UInt8 → Bool) : ∀ l : List (List UInt8), total (l.takeWhile p) ≤ total l
  | [] => by simp
  | c :: r => by
    rw [List.takeWhile_cons]
    have := total_takeWhile p r
    split <;> simp only [total] <;> omega
/-- What Fields answers. -/
def fieldsG (h : List UInt8) : List Fl := ((named (headG none (headL h))).map trimF).take 64
theorem headL_len (h : List UInt8) : (headL h).length ≤ h.length + 1 := by
  have h1 := linesG_len h
  have h2 : (headL h).length ≤ (linesG [] h).length := (List.takeWhile_sublist _).length_le
  omega
theorem headL_total (h : List UInt8) : total (headL h) ≤ h.length := by
  have h1 := linesG_total [] h
  have h2 : total (headL h) ≤ total (linesG [] h) := total_takeWhile _ _
  simp at h1; omega
end Go.Proofs.Ab

/- The program's fields. -/
namespace Go.Proofs.Ab
set_option linter.unusedVariables false
set_option maxRecDepth 4000
open Go
variable {R : Type}
theorem sIndexByte_eq (l : List UInt8) (κ : Int → Option R) : strings_IndexByte_0 (B l) 58 κ = κ (Lib.indexByte l 58) := rfl
theorem colon_first {c : List UInt8} {k : Nat} (h : k < atL c) : c[k]? ≠ some 58 := by
  unfold atL at h
  by_cases hk : k < (nmL c).length
  · obtain ⟨x, h1, h2⟩ := takeWhile_get (p := isNm) hk
    rw [h1]; intro e; cases e; exact absurd h2 (by decide)
  · obtain ⟨x, h1, h2⟩ := takeWhile_get (p := isBl) (l := c.drop (nmL c).length) (k := k - (nmL c).length) (by omega)
    rw [List.getElem?_drop, show (nmL c).length + (k - (nmL c).length) = k by omega] at h1
    rw [h1]; intro e; cases e; exact absurd h2 (by decide)
theorem bare_at {c : List UInt8} (h : isF c = true) : Lib.indexByte (bareL c) 58 = (atL c : Int) ∧ atL c + 1 ≤ (bareL c).length ∧ (bareL c).drop (atL c + 1) = bareL (c.drop (atL c + 1)) := by
  have h1 := isF_at h
  have h2 := isF_lt h
  unfold bareL
  by_cases e : c.drop (c.length - 2) = [13, 10]
  · have hl : 2 ≤ c.length := by have := congrArg List.length e; rw [List.length_drop] at this; simp at this; omega
    have g0 : c[c.length - 2]? = some 13 := (drop_get e).1
    have g1 : c[c.length - 2 + 1]? = some 10 := (drop_get (drop_get e).2.2).1
    have hlt : atL c < c.length - 2 := by
      rcases Nat.lt_trichotomy (atL c) (c.length - 2) with hlt | heq | hgt
      · exact hlt
      · rw [heq, g0] at h1; cases h1
      · have : atL c = c.length - 2 + 1 := by omega
        rw [this, g1] at h1; cases h1
    rw [if_pos e]
    refine ⟨indexByte_at (by rw [List.getElem?_take, if_pos hlt, h1]) (fun k hk => by rw [List.getElem?_take, if_pos (by omega)]; exact colon_first hk), by rw [List.length_take]; omega, ?_⟩
    have hl2 : (c.drop (atL c + 1)).length - 2 = c.length - 2 - (atL c + 1) := by rw [List.length_drop]; omega
    rw [if_pos (by rw [hl2, List.drop_drop, show atL c + 1 + (c.length - 2 - (atL c + 1)) = c.length - 2 by omega]; exact e), hl2, List.drop_take]
  · rw [if_neg e]
    refine ⟨indexByte_at h1 (fun k hk => colon_first hk), h2, ?_⟩
    rw [if_neg]
    intro e2
    have hl : 2 ≤ (c.drop (atL c + 1)).length := by have := congrArg List.length e2; rw [List.length_drop] at this; simp at this ⊢; omega
    apply e
    rw [List.drop_drop] at e2
    rw [List.length_drop] at e2 hl
    rw [show atL c + 1 + (c.length - (atL c + 1) - 2) = c.length - 2 by omega] at e2
    exact e2
/-! ## The loop -/
def gAV (x : Fl) : AV := .agg [.str (B x.1), .str (B []), .str (B x.2.2)]
def vAV (x : Fl) : AV := .str (B x.2.1)
abbrev lfL4 (κ : List AV → Option R) := letter_Fields_0.L4 letter_rows_0 strings_Trim_0 strings_TrimSuffix_0 strings_IndexByte_0 κ
abbrev lfL8 (κ : List AV → Option R) := letter_Fields_0.L8 letter_rows_0 strings_Trim_0 strings_TrimSuffix_0 strings_IndexByte_0 κ
abbrev lfL13 (κ : List AV → Option R) := letter_Fields_0.L13 letter_rows_0 strings_Trim_0 strings_TrimSuffix_0 strings_IndexByte_0 κ
abbrev lfL15 (κ : List AV → Option R) := letter_Fields_0.L15 letter_rows_0 strings_Trim_0 strings_TrimSuffix_0 strings_IndexByte_0 κ
abbrev lfL17 (κ : List AV → Option R) := letter_Fields_0.L17 letter_rows_0 strings_Trim_0 strings_TrimSuffix_0 strings_IndexByte_0 κ
theorem lfL4_succ (κ : List AV → Option R) (f : Nat) (n i : Int) (a b c : List AV) : lfL4 κ (f + 1) n i a b c = letter_Fields_0.t4 letter_rows_0 strings_Trim_0 strings_TrimSuffix_0 strings_IndexByte_0 n i a b c (lfL4 κ f) (lfL8 κ f) (lfL13 κ f) (lfL15 κ f) (lfL17 κ f) κ := by
  unfold lfL4 lfL8 lfL13 lfL15 lfL17 letter_Fields_0.L4 letter_Fields_0.L8 letter_Fields_0.L13 letter_Fields_0.L15
  rw [letter_Fields_0.M4]
theorem lfL8_succ (κ : List AV → Option R) (f : Nat) (n i : Int) (a b : List AV) (s m : ByteArray) (x y : Bool) (c : List AV) : lfL8 κ (f + 1) n i a b s m x y c = letter_Fields_0.t8 letter_rows_0 strings_Trim_0 strings_TrimSuffix_0 strings_IndexByte_0 n i a b s m x y c (lfL4 κ f) (lfL8 κ f) (lfL13 κ f) (lfL15 κ f) (fun _ _ _ _ => none) κ := by
  unfold lfL4 lfL8 lfL13 lfL15 letter_Fields_0.L4 letter_Fields_0.L8 letter_Fields_0.L13 letter_Fields_0.L15
  rw [letter_Fields_0.M4]
theorem lfL13_succ (κ : List AV → Option R) (f : Nat) (w : ByteArray) (n i : Int) (a b : List AV) (s m : ByteArray) (x y : Bool) (c : List AV) : lfL13 κ (f + 1) w n i a b s m x y c = letter_Fields_0.t13 letter_rows_0 strings_Trim_0 strings_TrimSuffix_0 strings_IndexByte_0 w n i a b s m x y c (lfL4 κ f) (lfL8 κ f) (lfL13 κ f) (lfL15 κ f) (fun _ _ _ _ => none) κ := by
  unfold lfL4 lfL8 lfL13 lfL15 letter_Fields_0.L4 letter_Fields_0.L8 letter_Fields_0.L13 letter_Fields_0.L15
  rw [letter_Fields_0.M4]
theorem lfL15_succ (κ : List AV → Option R) (f : Nat) (n i : Int) (a b c : List AV) : lfL15 κ (f + 1) n i a b c = lfL4 κ f n (IntKind.wrap .i64 (i + 1)) a b c := by
  unfold lfL4 lfL15 letter_Fields_0.L4 letter_Fields_0.L15
  rw [letter_Fields_0.M4]; rfl
theorem lf13 (κ : List AV → Option R) (f : Nat) (txt w nm raw c : List UInt8) (n i : Int) (xs vs : List AV) (m : ByteArray) (x y : Bool) (rs : List AV) (hn : xs.length ≤ 1000000) (hv : vs.length = xs.length) (h1 : raw.length + c.length ≤ 2000000) (h2 : w.length + txt.length ≤ 2000000) :
    lfL13 κ (f + 1) (B txt) n i (xs ++ [gAV (nm, w, raw)]) (vs ++ [.str (B w)]) (B c) m x y rs = lfL15 κ f n i (xs ++ [gAV (nm, w ++ txt, raw ++ c)]) (vs ++ [.str (B (w ++ txt))]) rs := by
  rw [lfL13_succ, letter_Fields_0.t13]
  have hw : ∀ a : AV, IntKind.wrap .i64 (((xs ++ [a]).length : Int) - 1) = ((xs.length : Nat) : Int) := by
    intro a; rw [List.length_append, List.length_singleton, wrap_i64 (by omega) (by omega)]; omega
  have sl : ∀ a b : AV, setA (xs ++ [a]) (xs.length : Int) b = xs ++ [b] := fun a b => setA_at _ a b [] _ rfl
  have slv : ∀ a b : AV, setA (vs ++ [a]) (xs.length : Int) b = vs ++ [b] := fun a b => setA_at _ a b [] _ hv
  have rv : ∀ a : AV, rdA (vs ++ [a]) (xs.length : Int) = a := fun a => rdA_at _ a [] _ hv
  have f0 : ∀ a b c : AV, (AV.agg [a, b, c]).fld 0 = a := fun _ _ _ => rfl
  have f1 : ∀ a b c : AV, (AV.agg [a, b, c]).fld 1 = b := fun _ _ _ => rfl
  have f2 : ∀ a b c : AV, (AV.agg [a, b, c]).fld 2 = c := fun _ _ _ => rfl
  have fs : ∀ a, (AV.str a).s = a := fun _ => rfl
  simp only [hw, sl, slv, rv, rdA_last, gAV, f0, f1, f2, fs, append_B, size_B]
  simp only [List.length_append, List.length_singleton]
  simp (disch := omega) only [chk_and, chk_dec]
theorem lf17 (κ : List AV → Option R) (fs : List Fl) (hn : fs.length ≤ 1000000) (hv : ∀ x ∈ fs, x.2.1.length ≤ 1000000) : ∀ (f i : Nat), i ≤ fs.length → fs.length < i + f →
    lfL17 κ f (fs.length : Int) (i : Int) (((fs.map trimF).take i).map fAV ++ (fs.drop i).map gAV) (fs.map vAV) = κ ((fs.map trimF).map fAV)
  | 0, i, h1, h2 => by omega
  | f + 1, i, h1, h2 => by
    unfold lfL17
    rw [letter_Fields_0.L17, letter_Fields_0.t17]
    have hl : (((fs.map trimF).take i).map fAV).length = i := by simp; omega
    cases hd : fs.drop i with
    | nil =>
      have := drop_nil hd
      simp (disch := omega) only [cond_dec', List.map_nil, List.append_nil]
      rw [List.take_of_length_le (by simp; omega)]
    | cons x r =>
      obtain ⟨g1, g2, g3⟩ := drop_get hd
      have hwi : IntKind.wrap .i64 ((i : Int) + 1) = ((i + 1 : Nat) : Int) := wrap_i64 (by omega) (by omega)
      have hx : rdA (fs.map vAV) (i : Int) = vAV x := rdA_get (by rw [List.getElem?_map, g1]; rfl)
      have hlen2 : (((fs.map trimF).take i).map fAV ++ (x :: r).map gAV).length = fs.length := by
        rw [List.length_append, hl, List.length_map, ← hd, List.length_drop]; omega
      have f0 : ((gAV x).fld 0) = .str (B x.1) := rfl
      have f2 : ((gAV x).fld 2) = .str (B x.2.2) := rfl
      have fs' : ∀ a, (AV.str a).s = a := fun _ => rfl
      simp only [hlen2, List.length_map, hx, vAV, fs', hwi]
      rw [List.map_cons, rdA_at _ _ _ _ hl, f0, f2]
      simp only [fs']
      simp (disch := omega) only [cond_dec, chk_and, chk_dec]
      rw [sTrim_eq _ (hv x (List.mem_of_getElem? g1)), setA_at _ _ _ _ _ hl]
      have := lf17 κ fs hn hv f (i + 1) (by omega) (by omega)
      rw [g3] at this
      rw [← this]
      have e : (fs.map trimF).take (i + 1) = (fs.map trimF).take i ++ [trimF x] := take_succ_get (by rw [List.getElem?_map, g1]; rfl)
      rw [e]
      simp [fAV, trimF, vAV]
/-- What the program's loop gathers. -/
def letG : List Fl → Option Fl → List (List UInt8) → List Fl
  | d, cur, [] => d ++ cur.toList
  | d, cur, c :: r => bif isBl (c.headD 0) then letG d (cur.map fun x => ext x c) r else bif isF c then (if (d ++ cur.toList).length = 64 then d ++ cur.toList else letG (d ++ cur.toList) (some (fresh c)) r) else letG (d ++ cur.toList) none r
theorem lf_loop (κ : List AV → Option R) (rs : List (List UInt8 × List UInt8 × Bool × Bool)) (hn : rs.length ≤ 1000000) : ∀ (rest : List (List UInt8)) (f i : Nat) (d : List Fl) (cur : Option Fl) (nm : List UInt8),
    i ≤ rs.length → rs.drop i = rowsG cur.isSome nm rest → 4 * rs.length + 200 < 4 * i + f → (d ++ cur.toList).length ≤ 64 → total rest ≤ 1000000 → (∀ x ∈ d, x.2.1.length ≤ 1000000) →
    (∀ x, cur = some x → x.2.1.length ≤ x.2.2.length ∧ x.2.2.length + total rest ≤ 1000000) →
    lfL4 κ f (rs.length : Int) (i : Int) ((d ++ cur.toList).map gAV) ((d ++ cur.toList).map vAV) (rs.map rowAV) = κ (((letG d cur rest).map trimF).map fAV)
  | [], f, i, d, cur, nm, hi, hd, hf, h64, ht, hv, hc => by
    have hi2 : rs.length ≤ i := drop_nil (by rw [hd]; rfl)
    obtain ⟨f, rfl⟩ : ∃ g, f = g + 1 := ⟨f - 1, by omega⟩
    rw [lfL4_succ, letter_Fields_0.t4]
    simp only [List.length_map]
    simp (disch := omega) only [cond_dec']
    rw [letG]
    exact lf17 κ (d ++ cur.toList) (by omega) (by
      intro x hx
      rw [List.mem_append] at hx
      rcases hx with hx | hx
      · exact hv x hx
      · cases cur with
        | none => simp at hx
        | some y => simp at hx; subst hx; have := hc x rfl; omega) f 0 (by omega) (by omega)
  | c :: r, f, i, d, cur, nm, hi, hd, hf, h64, ht, hv, hc => by
    obtain ⟨f, rfl⟩ : ∃ g, f = g + 4 := ⟨f - 4, by
      have : 0 < (rs.drop i).length := by rw [hd, rowsG]; cases isBl (c.headD 0) <;> simp
      rw [List.length_drop] at this; omega⟩
    have hvv : ∀ x ∈ d ++ cur.toList, x.2.1.length ≤ 1000000 := by
      intro x hx
      rw [List.mem_append] at hx
      rcases hx with hx | hx
      · exact hv x hx
      · cases cur with
        | none => simp at hx
        | some y => simp at hx; subst hx; have := hc x rfl; omega
    have htt : total (c :: r) = c.length + total r := rfl
    have hbl := bareL_le c
    have hlm : (rs.map rowAV).length = rs.length := List.length_map ..
    have hl1 : ((d ++ cur.toList).map gAV).length = (d ++ cur.toList).length := List.length_map ..
    have hl2 : ((d ++ cur.toList).map vAV).length = (d ++ cur.toList).length := List.length_map ..
    have hdl : d.length ≤ (d ++ cur.toList).length := by rw [List.length_append]; omega
    rw [letG, lfL4_succ, letter_Fields_0.t4, hlm]
    cases hb : isBl (c.headD 0) with
    | true =>
      have hd' : rs.drop i = (c, nm, false, cur.isSome) :: rowsG cur.isSome nm r := by rw [hd, rowsG, hb]; rfl
      obtain ⟨g1, g2, g3⟩ := drop_get hd'
      have hwi : IntKind.wrap .i64 ((i : Int) + 1) = ((i + 1 : Nat) : Int) := wrap_i64 (by omega) (by omega)
      have hrow : rdA (rs.map rowAV) (i : Int) = rowAV (c, nm, false, cur.isSome) := rdA_get (by rw [List.getElem?_map, g1]; rfl)
      have r0 : ((rowAV (c, nm, false, cur.isSome)).fld 0).s = B c := rfl
      have r1 : ((rowAV (c, nm, false, cur.isSome)).fld 1).s = B nm := rfl
      have r2 : ((rowAV (c, nm, false, cur.isSome)).fld 2).b = false := rfl
      have r3 : ((rowAV (c, nm, false, cur.isSome)).fld 3).b = cur.isSome := rfl
      simp only [hrow, r0, r1, r2, r3, cond_false]
      simp (disch := omega) only [cond_dec, chk_and, chk_dec, cond_true]
      cases cur with
      | none =>
        simp only [Option.isSome_none, Bool.not_false, cond_true, Option.map_none]
        rw [lfL15_succ, hwi]
        exact lf_loop κ rs hn r (f + 2) (i + 1) d none nm (by omega) g3 (by omega) h64 (by omega) hv (by intro x e; cases e)
      | some x =>
        obtain ⟨hx1, hx2⟩ := hc x rfl
        simp only [Option.isSome_some, Bool.not_true, cond_false, Option.map_some]
        rw [lfL8_succ, letter_Fields_0.t8, trimSuffix_eq c (by omega)]
        simp only [cond_false]
        have e1 : (d ++ (some x).toList).map gAV = d.map gAV ++ [gAV (x.1, x.2.1, x.2.2)] := by simp
        have e2 : (d ++ (some x).toList).map vAV = d.map vAV ++ [.str (B x.2.1)] := by simp [vAV]
        rw [e1, e2, lf13 κ (f + 1) (bareL c) x.2.1 x.1 x.2.2 c _ _ _ _ _ _ _ _ (by rw [List.length_map]; omega) (by simp) (by omega) (by omega), lfL15_succ, hwi]
        have ex : (ext x c).2.2.length = x.2.2.length + c.length := by unfold ext; simp
        have ex1 : (ext x c).2.1.length = x.2.1.length + (bareL c).length := by unfold ext; simp
        have := lf_loop κ rs hn r f (i + 1) d (some (ext x c)) nm (by omega) g3 (by omega) (by simpa using h64) (by omega) hv (by intro y e; cases e; exact ⟨by omega, by omega⟩)
        rw [← this]
        simp [ext, vAV]
    | false =>
      have hd' : rs.drop i = (c, nmL c, isF c, isF c) :: rowsG (isF c) (nmL c) r := by rw [hd, rowsG, hb]; rfl
      obtain ⟨g1, g2, g3⟩ := drop_get hd'
      have hwi : IntKind.wrap .i64 ((i : Int) + 1) = ((i + 1 : Nat) : Int) := wrap_i64 (by omega) (by omega)
      have hrow : rdA (rs.map rowAV) (i : Int) = rowAV (c, nmL c, isF c, isF c) := rdA_get (by rw [List.getElem?_map, g1]; rfl)
      have r0 : ((rowAV (c, nmL c, isF c, isF c)).fld 0).s = B c := rfl
      have r1 : ((rowAV (c, nmL c, isF c, isF c)).fld 1).s = B (nmL c) := rfl
      have r2 : ((rowAV (c, nmL c, isF c, isF c)).fld 2).b = isF c := rfl
      have r3 : ((rowAV (c, nmL c, isF c, isF c)).fld 3).b = isF c := rfl
      simp only [hrow, r0, r1, r2, r3, cond_false]
      simp (disch := omega) only [cond_dec, chk_and, chk_dec, cond_true]
      cases hF : isF c with
      | false =>
        simp only [Bool.not_false, cond_true, cond_false]
        rw [lfL15_succ, hwi]
        rw [hF] at g3
        have := lf_loop κ rs hn r (f + 2) (i + 1) (d ++ cur.toList) none (nmL c) (by omega) g3 (by omega) (by simpa using h64) (by omega) hvv (by intro x e; cases e)
        simpa using this
      | true =>
        rw [hF] at g3
        simp only [Bool.not_true, cond_true, cond_false, hl1]
        by_cases h6 : (d ++ cur.toList).length = 64
        · rw [if_pos h6, beq_pos (by omega)]
          simp only [cond_true]
          exact lf17 κ (d ++ cur.toList) (by omega) hvv (f + 3) 0 (by omega) (by omega)
        · rw [if_neg h6, beq_neg (by omega)]
          simp only [cond_false]
          obtain ⟨k1, k2, k3⟩ := bare_at hF
          rw [lfL8_succ, letter_Fields_0.t8, trimSuffix_eq c (by omega)]
          have hw58 : IntKind.wrap .i64 ((atL c : Int) + 1) = ((atL c + 1 : Nat) : Int) := wrap_i64 (by omega) (by omega)
          simp only [cond_true, sIndexByte_eq, k1, hw58, size_B, hl1, hl2]
          simp (disch := omega) only [chk_and, chk_dec]
          simp only [extract_B, Int.toNat_natCast, List.take_length, k3]
          have e1 : AV.agg [AV.str (B (nmL c)), AV.str (⟨#[]⟩ : ByteArray), AV.str (⟨#[]⟩ : ByteArray)] = gAV (nmL c, [], []) := rfl
          have e2 : AV.str (⟨#[]⟩ : ByteArray) = .str (B []) := rfl
          have hvl := bareL_le (c.drop (atL c + 1))
          rw [List.length_drop] at hvl
          rw [e1, e2, lf13 κ (f + 1) _ [] (nmL c) [] c _ _ _ _ _ _ _ _ (by omega) (by simp) (by simp; omega) (by simp; omega), lfL15_succ, hwi]
          have hfr : fresh c = (nmL c, bareL (c.drop (atL c + 1)), c) := by unfold fresh; rw [hF]; rfl
          have := lf_loop κ rs hn r f (i + 1) (d ++ cur.toList) (some (fresh c)) (nmL c) (by omega) g3 (by omega) (by rw [List.length_append]; show _ + 1 ≤ _; omega) (by omega) hvv
            (by intro y e; cases e; rw [hfr]; exact ⟨by show (bareL _).length ≤ c.length; omega, by show c.length + _ ≤ _; omega⟩)
          rw [← this, hfr]
          simp [vAV]
theorem letG_spec : ∀ (rest : List (List UInt8)) (d : List Fl) (cur cur' : Option Fl), (∃ x, cur = some x ∧ cur' = some x ∧ x.1 ≠ []) ∨ (cur = none ∧ (cur' = none ∨ ∃ y, cur' = some y ∧ y.1 = [])) → (d ++ cur.toList).length ≤ 64 →
    letG d cur rest = (d ++ named (headG cur' rest)).take 64
  | [], d, cur, cur', h, h64 => by
    rcases h with ⟨x, rfl, rfl, hx⟩ | ⟨rfl, rfl | ⟨y, rfl, hy⟩⟩
    · rw [letG, headG]; unfold named; rw [List.filter_cons]; simp [hx]
      rw [List.take_of_length_le]; simpa using h64
    · rw [letG, headG]; simp [named] at h64 ⊢; exact (List.take_of_length_le h64).symm
    · rw [letG, headG]; simp [named, hy] at h64 ⊢; exact (List.take_of_length_le h64).symm
  | c :: r, d, cur, cur', h, h64 => by
    have hnone : headG none (c :: r) = headG (some (fresh c)) r := rfl
    have hnamed : ∀ (x : Fl) (l : List Fl), x.1 ≠ [] → named (x :: l) = x :: named l := by intro x l hx; unfold named; rw [List.filter_cons]; simp [hx]
    have hnam0 : ∀ (x : Fl) (l : List Fl), x.1 = [] → named (x :: l) = named l := by intro x l hx; unfold named; rw [List.filter_cons]; simp [hx]
    have hfr1 : isF c = true → (fresh c).1 ≠ [] := by intro e; unfold fresh; rw [e]; exact isF_nm e
    have hfr0 : isF c = false → (fresh c).1 = [] := by intro e; unfold fresh; rw [e]; rfl
    rw [letG]
    cases hb : isBl (c.headD 0) with
    | true =>
      have hF : isF c = false := by cases c with | nil => cases hb | cons b t => exact isF_blank hb
      simp only [cond_true]
      rcases h with ⟨x, rfl, rfl, hx⟩ | ⟨rfl, rfl | ⟨y, rfl, hy⟩⟩
      · rw [headG, hb]; simp only [cond_true]
        exact letG_spec r d _ _ (Or.inl ⟨ext x c, rfl, rfl, hx⟩) (by simpa using h64)
      · rw [hnone]
        exact letG_spec r d none _ (Or.inr ⟨rfl, Or.inr ⟨_, rfl, hfr0 hF⟩⟩) h64
      · rw [headG, hb]; simp only [cond_true]
        exact letG_spec r d none _ (Or.inr ⟨rfl, Or.inr ⟨_, rfl, hy⟩⟩) h64
    | false =>
      simp only [cond_false]
      have hh : d ++ named (headG cur' (c :: r)) = (d ++ cur.toList) ++ named (headG (some (fresh c)) r) := by
        rcases h with ⟨x, rfl, rfl, hx⟩ | ⟨rfl, rfl | ⟨y, rfl, hy⟩⟩
        · rw [headG, hb]; simp only [cond_false]; rw [hnamed _ _ hx]; simp
        · rw [hnone]; simp
        · rw [headG, hb]; simp only [cond_false]; rw [hnam0 _ _ hy]; simp
      rw [hh]
      cases hF : isF c with
      | true =>
        simp only [cond_true]
        by_cases h6 : (d ++ cur.toList).length = 64
        · rw [if_pos h6, List.take_append_of_le_length (by omega), List.take_of_length_le (by omega)]
        · rw [if_neg h6]
          exact letG_spec r _ _ _ (Or.inl ⟨_, rfl, rfl, hfr1 hF⟩) (by rw [List.length_append] at h6 ⊢; show _ + 1 ≤ _; rw [List.length_append] at h64 ⊢; omega)
      | false =>
        simp only [cond_false]
        exact letG_spec r _ none _ (Or.inr ⟨rfl, Or.inr ⟨_, rfl, hfr0 hF⟩⟩) (by simpa using h64)
theorem rowsG_len : ∀ (fld : Bool) (nm : List UInt8) (l : List (List UInt8)), (rowsG fld nm l).length = l.length
  | _, _, [] => rfl
  | fld, nm, c :: r => by
    rw [rowsG]
    cases isBl (c.headD 0) with
    | true => simp only [cond_true, List.length_cons]; rw [rowsG_len]
    | false => simp only [cond_false, List.length_cons]; rw [rowsG_len]
theorem lf_entry (h : List UInt8) (hs : h.length ≤ 200000) (κ : List AV → Option R) (f : Nat) (hf : 1000300 < f) :
    letter_Fields_0.e letter_rows_0 strings_Trim_0 strings_TrimSuffix_0 strings_IndexByte_0 (B h) (lfL4 κ f) (lfL8 κ f) (lfL13 κ f) (lfL15 κ f) (lfL17 κ f) κ = κ ((fieldsG h).map fAV) := by
  unfold letter_Fields_0.e
  rw [rows_eq h (by omega)]
  have h1 := headL_len h
  have h2 := headL_total h
  have hl := rowsG_len false [] (headL h)
  have := lf_loop κ (rowsG false [] (headL h)) (by omega) (headL h) f 0 [] none [] (by omega) rfl (by omega) (by simp) (by omega) (by simp) (by intro x e; cases e)
  rw [letG_spec _ _ _ none (Or.inr ⟨rfl, Or.inl rfl⟩) (by simp)] at this
  simp only [List.length_map]
  refine this.trans ?_
  unfold fieldsG
  simp [List.map_take]
theorem lFields_eq (h : List UInt8) (hs : h.length ≤ 200000) (κ : List AV → Option R) : letter_Fields_0 (B h) κ = κ ((fieldsG h).map fAV) :=
  lf_entry h hs κ fuelK (by unfold fuelK; omega)
end Go.Proofs.Ab

/- Small letters. -/
namespace Go.Proofs.Ab
set_option linter.unusedVariables false
set_option maxRecDepth 4000
open Go
variable {R : Type}
def lowC (c : UInt8) : UInt8 := if 65 ≤ c.toNat ∧ c.toNat ≤ 90 then UInt8.ofNat (c.toNat + 32) else c
def lowL (l : List UInt8) : List UInt8 := l.map lowC
theorem lowC_up {c : UInt8} (h1 : 65 ≤ c.toNat) (h2 : c.toNat ≤ 90) : ((lowC c).toNat : Int) = (c.toNat : Int) + 32 := by
  unfold lowC
  rw [if_pos ⟨h1, h2⟩]
  simp; omega
theorem lowC_no {c : UInt8} (h : ¬ (65 ≤ c.toNat ∧ c.toNat ≤ 90)) : lowC c = c := by unfold lowC; rw [if_neg h]
theorem lowL_len (l : List UInt8) : (lowL l).length = l.length := by unfold lowL; simp
theorem ints_get {l : List UInt8} {i : Nat} {c : UInt8} (h : l[i]? = some c) : (rdA (intsAV l) (i : Int)).i = (c.toNat : Int) := by
  rw [rdA_get (a := .int (c.toNat : Int)) (by unfold intsAV; rw [List.getElem?_map, h]; rfl)]; rfl
theorem ints_set (a : List UInt8) (c d : UInt8) (r : List UInt8) (n : Nat) (h : a.length = n) : setA (intsAV (a ++ c :: r)) (n : Int) (.int (d.toNat : Int)) = intsAV (a ++ d :: r) := by
  unfold intsAV
  rw [List.map_append, List.map_cons, setA_at _ _ _ _ n (by rw [List.length_map]; exact h)]
  simp
theorem oLower_loop (l : List UInt8) (hs : l.length ≤ 140737488355327) (κ : ByteArray → Option R) : ∀ (f i : Nat), i ≤ l.length → l.length < i + f →
    octet_Lower_0.L3 κ f (l.length : Int) (i : Int) (intsAV (lowL (l.take i) ++ l.drop i)) = κ (B (lowL l))
  | 0, i, h1, h2 => by omega
  | f + 1, i, h1, h2 => by
    rw [octet_Lower_0.L3, octet_Lower_0.t3]
    have hla : (lowL (l.take i)).length = i := by rw [lowL_len, List.length_take]; omega
    have hll : (intsAV (lowL (l.take i) ++ l.drop i)).length = l.length := by rw [ints_len, List.length_append, hla, List.length_drop]; omega
    simp only [hll, strAV_ints]
    cases hd : l.drop i with
    | nil =>
      have := drop_nil hd
      rw [cond_dec' (by omega), List.append_nil, List.take_of_length_le (by omega)]
    | cons c r =>
      obtain ⟨g1, g2, g3⟩ := drop_get hd
      have hw1 : IntKind.wrap .i64 ((i : Int) + 1) = ((i + 1 : Nat) : Int) := wrap_i64 (by omega) (by omega)
      have hg : (rdA (intsAV (lowL (l.take i) ++ c :: r)) (i : Int)).i = (c.toNat : Int) := ints_get (by rw [List.getElem?_append_right (by omega), hla]; simp)
      simp only [hg, hw1]
      simp (disch := omega) only [cond_dec, chk_and, chk_dec]
      have hn := oLower_loop l hs κ f (i + 1) (by omega) (by omega)
      rw [g3] at hn
      have ht : lowL (l.take (i + 1)) ++ r = lowL (l.take i) ++ lowC c :: r := by rw [take_succ_get g1]; unfold lowL; simp
      rw [ht] at hn
      by_cases h1' : 65 ≤ c.toNat
      · by_cases h2' : c.toNat ≤ 90
        · have hu := lowC_up h1' h2'
          have hlt := byte_lt c
          have hw : IntKind.wrap .u8 ((IntKind.wrap .u8 ((c.toNat : Int) + 97)) - 65) = ((lowC c).toNat : Int) := by
            rw [wrap_u8 (x := (c.toNat : Int) + 97) (by omega) (by omega), wrap_u8 (by omega) (by omega), hu]; omega
          rw [cond_dec (by omega), cond_dec (by omega), hw, ints_set _ _ _ _ _ hla]
          exact hn
        · rw [lowC_no (by omega)] at hn
          rw [cond_dec (by omega), cond_dec' (by omega)]
          exact hn
      · rw [lowC_no (by omega)] at hn
        rw [cond_dec' (by omega)]
        exact hn
theorem oLower_eq (l : List UInt8) (hs : l.length ≤ 140737488355327) (κ : ByteArray → Option R) : octet_Lower_0 (B l) κ = κ (B (lowL l)) := by
  have key : ∀ f, l.length < f → octet_Lower_0.e (B l) (octet_Lower_0.L3 κ f) κ = κ (B (lowL l)) := by
    intro f hf
    unfold octet_Lower_0.e
    rw [size_B, chk_dec (by omega), bytesB', ints_len]
    exact oLower_loop l hs κ f 0 (by omega) (by omega)
  exact key fuelK (by unfold fuelK; omega)
end Go.Proofs.Ab

/- Texts that are the same in small letters, of any length that is handed over. -/
namespace Go.Proofs.Ab
set_option linter.unusedVariables false
set_option maxRecDepth 4000
open Go
variable {R : Type}
/-- The longest text that is handed over. -/
abbrev NB : Nat := 140737488351232
theorem lSameB (a b : ByteArray) (ha : a.size ≤ NB) (hb : b.size ≤ NB) (κ : Bool → Option R) : octet_Same_0 a b κ = κ (decide (lowL (bl a) = lowL (bl b))) := by
  have h1 := size_bl a
  have h2 := size_bl b
  unfold NB at ha hb
  unfold octet_Same_0 octet_Same_0.e
  conv => lhs; rw [← B_bl a, ← B_bl b, oLower_eq _ (by omega), oLower_eq _ (by omega)]
  exact congrArg κ (decide_eq_decide.2 B_inj)
end Go.Proofs.Ab

/- Header and body: where the header ends, and what its lines are. -/
namespace Go.Proofs.Ab
set_option linter.unusedVariables false
set_option maxRecDepth 4000
open Go
variable {R : Type}
def c2 : List UInt8 := [13, 10]
def c4 : List UInt8 := [13, 10, 13, 10]
theorem hd_some : ∀ (l : List UInt8) (b : Bool) (n : Nat), hdG b l = some n → 2 ≤ n ∧ n ≤ l.length ∧ ((b = true ∧ n = 2 ∧ l.take 2 = c2) ∨ (4 ≤ n ∧ (l.take n).drop (n - 4) = c4)) ∧ ∀ i, i + 4 < n → (l.drop i).take 4 ≠ c4
  | [], b, n, h => by rw [hdG] at h; cases h
  | [c], b, n, h => by
    rw [hdG_else _ _ _ (by simp)] at h
    rw [hdG] at h; cases h
  | c :: d :: r, b, n, h => by
    by_cases e : c = 13 ∧ d = 10
    · obtain ⟨rfl, rfl⟩ := e
      rw [hdG_crlf] at h
      cases b with
      | true =>
        rw [if_pos rfl] at h
        cases h
        exact ⟨by omega, by simp, .inl ⟨rfl, rfl, rfl⟩, by intro i hi; omega⟩
      | false =>
        rw [if_neg (by simp)] at h
        cases hm : hdG true r with
        | none => rw [hm] at h; cases h
        | some m =>
          rw [hm] at h
          have hn : 2 + m = n := Option.some.inj h
          subst hn
          obtain ⟨h1, h2, h3, h4⟩ := hd_some r true m hm
          have ht : (13 :: 10 :: r).take (2 + m) = 13 :: 10 :: r.take m := by rw [Nat.add_comm]; rfl
          refine ⟨by omega, by simp only [List.length_cons]; omega, .inr ⟨by omega, ?_⟩, ?_⟩
          · rw [ht]
            rcases h3 with ⟨_, rfl, h5⟩ | ⟨h5, h6⟩
            · rw [h5]; rfl
            · rw [show 2 + m - 4 = (m - 4) + 2 by omega]; exact h6
          · intro i hi hc
            match i with
            | 0 =>
              have : r.take 2 = c2 := by simpa [c4, c2] using hc
              have hr : hdG true r = some 2 := by
                match r, this with
                | x :: y :: r', this =>
                  simp [c2] at this
                  obtain ⟨rfl, rfl⟩ := this
                  rw [hdG_crlf, if_pos rfl]
              rw [hm] at hr
              cases hr; omega
            | 1 => simp [c4] at hc
            | i + 2 => exact h4 i (by omega) hc
    · have e' : ¬ (c = 13 ∧ (d :: r).head? = some 10) := by rintro ⟨rfl, h2⟩; exact e ⟨rfl, by simpa using h2⟩
      rw [hdG_else _ _ _ e'] at h
      cases hm : hdG false (d :: r) with
      | none => rw [hm] at h; cases h
      | some m =>
        rw [hm] at h
        have hn : 1 + m = n := Option.some.inj h
        subst hn
        obtain ⟨h1, h2, h3, h4⟩ := hd_some (d :: r) false m hm
        have ht : (c :: d :: r).take (1 + m) = c :: (d :: r).take m := by rw [Nat.add_comm]; rfl
        rcases h3 with ⟨h5, _⟩ | ⟨h5, h6⟩
        · cases h5
        · refine ⟨by omega, by simp only [List.length_cons] at h2 ⊢; omega, .inr ⟨by omega, ?_⟩, ?_⟩
          · rw [ht, show 1 + m - 4 = (m - 4) + 1 by omega]; exact h6
          · intro i hi hc
            match i with
            | 0 =>
              simp [c4] at hc
              exact e ⟨hc.1, hc.2.1⟩
            | i + 1 => exact h4 i (by omega) hc
theorem hd_none : ∀ (l : List UInt8) (b : Bool), hdG b l = none → ∀ i, (l.drop i).take 4 ≠ c4
  | [], b, h => by intro i; simp [c4]
  | [c], b, h => by intro i hc; have := congrArg List.length hc; rw [List.length_take, List.length_drop] at this; simp [c4] at this; omega
  | c :: d :: r, b, h => by
    by_cases e : c = 13 ∧ d = 10
    · obtain ⟨rfl, rfl⟩ := e
      rw [hdG_crlf] at h
      cases b with
      | true => rw [if_pos rfl] at h; cases h
      | false =>
        rw [if_neg (by simp)] at h
        have hm : hdG true r = none := by
          cases hm : hdG true r with
          | none => rfl
          | some m => rw [hm] at h; cases h
        intro i hc
        match i with
        | 0 =>
          have : r.take 2 = c2 := by simpa [c4, c2] using hc
          have hr : hdG true r = some 2 := by
            match r, this with
            | x :: y :: r', this =>
              simp [c2] at this
              obtain ⟨rfl, rfl⟩ := this
              rw [hdG_crlf, if_pos rfl]
          rw [hm] at hr; cases hr
        | 1 => simp [c4] at hc
        | i + 2 => exact hd_none r true hm i hc
    · have e' : ¬ (c = 13 ∧ (d :: r).head? = some 10) := by rintro ⟨rfl, h2⟩; exact e ⟨rfl, by simpa using h2⟩
      rw [hdG_else _ _ _ e'] at h
      have hm : hdG false (d :: r) = none := by
        cases hm : hdG false (d :: r) with
        | none => rfl
        | some m => rw [hm] at h; cases h
      intro i hc
      match i with
      | 0 =>
        simp [c4] at hc
        exact e ⟨hc.1, hc.2.1⟩
      | i + 1 => exact hd_none (d :: r) false hm i hc
theorem hd_first {l : List UInt8} (h : l.take 2 = c2) : hdG true l = some 2 := by
  match l, h with
  | x :: y :: r', this =>
    simp [c2] at this
    obtain ⟨rfl, rfl⟩ := this
    rw [hdG_crlf, if_pos rfl]
/-- Lines ahead of the first empty one. -/
def tw (l : List (List UInt8)) : List (List UInt8) := l.takeWhile fun x => x != [13, 10]
theorem tw_cons {x : List UInt8} {l : List (List UInt8)} (h : x ≠ [13, 10]) : tw (x :: l) = x :: tw l := by
  unfold tw; rw [List.takeWhile_cons]; simp [h]
theorem tw_end (l : List (List UInt8)) : tw ([13, 10] :: l) = [] := by unfold tw; rw [List.takeWhile_cons]; simp
theorem lines_none : ∀ (l cur : List UInt8), cur ≠ [13, 10] → ¬ (cur = [13] ∧ l.head? = some 10) → hdG (decide (cur = [])) l = none → (tw (linesG cur l)).flatten = cur ++ l
  | [], cur, h1, h2, h => by
    unfold linesG
    by_cases e : cur = []
    · subst e; rfl
    · rw [if_neg e, tw_cons h1]; simp [tw]
  | c :: r, cur, h1, h2, h => by
    by_cases e : c = 13 ∧ r.head? = some 10
    · obtain ⟨rfl, hr⟩ := e
      cases r with
      | nil => cases hr
      | cons d r =>
        cases hr
        rw [hdG_crlf] at h
        by_cases e2 : cur = []
        · rw [decide_eq_true e2, if_pos rfl] at h; cases h
        · rw [decide_eq_false e2, if_neg (by simp)] at h
          have hm : hdG true r = none := by
            cases hm : hdG true r with
            | none => rfl
            | some m => rw [hm] at h; cases h
          rw [linesG_crlf, tw_cons (by intro e3; have := congrArg List.length e3; simp at this; exact e2 this), List.flatten_cons, lines_none r [] (by simp) (by simp) hm]
          simp
    · rw [hdG_else _ _ _ e] at h
      have hm : hdG false r = none := by
        cases hm : hdG false r with
        | none => rfl
        | some m => rw [hm] at h; cases h
      rw [linesG_else _ _ _ e, lines_none r (cur ++ [c]) ?_ ?_ (by rw [decide_eq_false (by simp)]; exact hm)]
      · simp
      · intro e3
        match cur, e3 with
        | [x], e3 => simp at e3; exact h2 ⟨by rw [e3.1], by simp [e3.2]⟩
        | [], e3 => simp at e3
        | x :: y :: z, e3 => simp at e3
      · rintro ⟨e3, e4⟩
        match cur, e3 with
        | [], e3 => simp at e3; exact e ⟨e3, e4⟩
        | x :: y, e3 => simp at e3
theorem lines_some : ∀ (l cur : List UInt8) (n : Nat), cur ≠ [13, 10] → ¬ (cur = [13] ∧ l.head? = some 10) → hdG (decide (cur = [])) l = some n → (tw (linesG cur (l.take n))).flatten = cur ++ l.take (n - 2)
  | [], cur, n, h1, h2, h => by rw [hdG] at h; cases h
  | c :: r, cur, n, h1, h2, h => by
    by_cases e : c = 13 ∧ r.head? = some 10
    · obtain ⟨rfl, hr⟩ := e
      cases r with
      | nil => cases hr
      | cons d r =>
        cases hr
        rw [hdG_crlf] at h
        by_cases e2 : cur = []
        · rw [decide_eq_true e2, if_pos rfl] at h
          cases h
          subst e2
          rw [show (13 :: 10 :: r).take 2 = [13, 10] from rfl, linesG_crlf, List.nil_append, tw_end]; rfl
        · rw [decide_eq_false e2, if_neg (by simp)] at h
          cases hm : hdG true r with
          | none => rw [hm] at h; cases h
          | some m =>
            rw [hm] at h
            have hn : 2 + m = n := Option.some.inj h
            subst hn
            have h2m := (hd_some r true m hm).1
            rw [show (13 :: 10 :: r).take (2 + m) = 13 :: 10 :: r.take m by rw [Nat.add_comm]; rfl, linesG_crlf, tw_cons (by intro e3; have := congrArg List.length e3; simp at this; exact e2 this), List.flatten_cons, lines_some r [] m (by simp) (by simp) hm]
            rw [show 2 + m - 2 = (m - 2) + 2 by omega]
            simp
    · rw [hdG_else _ _ _ e] at h
      cases hm : hdG false r with
      | none => rw [hm] at h; cases h
      | some m =>
        rw [hm] at h
        have hn : 1 + m = n := Option.some.inj h
        subst hn
        have h2m := (hd_some r false m hm).1
        have e' : ¬ (c = 13 ∧ (r.take m).head? = some 10) := by
          rintro ⟨h5, h6⟩
          refine e ⟨h5, ?_⟩
          cases r with
          | nil => simp at h6
          | cons x y => rw [show m = (m - 1) + 1 by omega, List.take_succ_cons] at h6; simpa using h6
        rw [show (c :: r).take (1 + m) = c :: r.take m by rw [Nat.add_comm]; rfl, linesG_else _ _ _ e', lines_some r (cur ++ [c]) m ?_ ?_ (by rw [decide_eq_false (by simp)]; exact hm), show 1 + m - 2 = (m - 2) + 1 by omega]
        · simp
        · intro e3
          match cur, e3 with
          | [x], e3 => simp at e3; exact h2 ⟨by rw [e3.1], by simp [e3.2]⟩
          | [], e3 => simp at e3
          | x :: y :: z, e3 => simp at e3
        · rintro ⟨e3, e4⟩
          match cur, e3 with
          | [], e3 => simp at e3; exact e ⟨e3, e4⟩
          | x :: y, e3 => simp at e3
theorem headL_tw (l : List UInt8) : headL l = tw (linesG [] l) := rfl
theorem head_none {l : List UInt8} (h : hdG true l = none) : (headL l).flatten = l := lines_none l [] (by simp) (by simp) h
theorem head_some {l : List UInt8} {n : Nat} (h : hdG true l = some n) : (headL (l.take n)).flatten = l.take (n - 2) := lines_some l [] n (by simp) (by simp) h
/-- Does a line end with its end? -/
def endC (c : List UInt8) : Bool := decide (c.drop (c.length - 2) = [13, 10])
/-- A line with an end. -/
def endL (c : List UInt8) : List UInt8 := bif endC c then c else c ++ [13, 10]
theorem endC_append (x y : List UInt8) (hx : endC x = true) (hy : y ≠ []) : endC (x ++ y) = endC y := by
  unfold endC at hx ⊢
  have hx' := of_decide_eq_true hx
  have hl : 2 ≤ x.length := by
    have := congrArg List.length hx'
    rw [List.length_drop] at this; simp at this; omega
  match y, hy with
  | [c], _ =>
    have e : (x ++ [c]).drop ((x ++ [c]).length - 2) = [10, c] := by
      have h1 : (x ++ [c]).length - 2 = x.length - 1 := by simp
      rw [h1, List.drop_append_of_le_length (by omega), show x.length - 1 = (x.length - 2) + 1 by omega, ← List.drop_drop, hx']; rfl
    rw [e]
    have e2 : ([c] : List UInt8).drop ([c].length - 2) = [c] := rfl
    rw [e2, decide_eq_false (by simp), decide_eq_false (by simp)]
  | c :: d :: r, _ =>
    have h1 : (x ++ c :: d :: r).length - 2 = x.length + ((c :: d :: r).length - 2) := by simp only [List.length_append, List.length_cons]; omega
    rw [h1, ← List.drop_drop, List.drop_left]
theorem take_ln_end : ∀ (l : List UInt8), ln l < l.length → endC (l.take (ln l)) = true
  | [], h => by simp at h
  | c :: r, h => by
    by_cases e : c = 13 ∧ r.head? = some 10
    · obtain ⟨rfl, hr⟩ := e
      cases r with
      | nil => cases hr
      | cons d r => cases hr; rw [ln_crlf]; rfl
    · rw [ln_else c r e] at h ⊢
      have ih := take_ln_end r (by simp only [List.length_cons] at h; omega)
      rw [show (c :: r).take (1 + ln r) = c :: r.take (ln r) by rw [Nat.add_comm]; rfl]
      revert ih
      generalize r.take (ln r) = x
      unfold endC
      intro ih
      have ih' := of_decide_eq_true ih
      have hl := congrArg List.length ih'
      rw [List.length_drop] at hl
      simp only [List.length_cons, List.length_nil] at hl
      apply decide_eq_true
      rw [show (c :: x).length - 2 = (x.length - 2) + 1 by simp only [List.length_cons]; omega]
      exact ih'
theorem ends_flat : ∀ (n : Nat) (h : List UInt8), h.length ≤ n → (((headL h).map endL).flatten) = (headL h).flatten ++ (bif (decide ((headL h).flatten ≠ []) && !endC (headL h).flatten) then [13, 10] else [])
  | n, [], hn => by rw [headL_nil]; rfl
  | 0, c :: r, hn => by simp at hn
  | n + 1, c :: r, hn => by
    cases hp : List.isPrefixOf [13, 10] (c :: r) with
    | true => rw [headL_crlf hp]; rfl
    | false =>
      have hpos := ln_pos c r
      have hle := ln_le (c :: r)
      have ih := ends_flat n ((c :: r).drop (ln (c :: r))) (by rw [List.length_drop]; omega)
      rw [headL_cons hp, List.map_cons, List.flatten_cons, List.flatten_cons, ih]
      have hxne : (c :: r).take (ln (c :: r)) ≠ [] := by
        intro e; have := congrArg List.length e; rw [List.length_take] at this; simp only [List.length_nil, List.length_cons] at this hle; omega
      by_cases hl : ln (c :: r) < (c :: r).length
      · have hx := take_ln_end (c :: r) hl
        generalize (c :: r).take (ln (c :: r)) = x at hx hxne
        generalize (headL ((c :: r).drop (ln (c :: r)))).flatten = y
        rw [show endL x = x by unfold endL; rw [hx]; rfl]
        by_cases hy : y = []
        · subst hy
          simp [hx]
        · rw [endC_append x y hx hy]
          simp [hy]
      · have hd : (c :: r).drop (ln (c :: r)) = [] := List.drop_eq_nil_of_le (by omega)
        rw [hd, headL_nil]
        generalize (c :: r).take (ln (c :: r)) = x at hxne
        simp only [List.flatten_nil, List.append_nil]
        unfold endL
        cases endC x <;> simp [hxne]
end Go.Proofs.Ab

/- What is picked without names. -/
namespace Go.Proofs.Ab
set_option linter.unusedVariables false
set_option maxRecDepth 4000
open Go
variable {R : Type}
abbrev Rw := List UInt8 × List UInt8 × Bool × Bool
theorem endC_eq (c : List UInt8) (hs : c.length ≤ 1000000) (κ : Bool → Option R) : strings_HasSuffix_0 (B c) (⟨#[13, 10]⟩ : ByteArray) κ = κ (endC c) := sHasSuffix c [13, 10] hs (by decide) κ
abbrev pkL3 (κ : ByteArray → Option R) (f : Nat) := letter_Pick_sbn.L3 letter_rows_0 strings_Builder_WriteString_vxfes strings_Builder_String_vxfe strings_HasSuffix_0 κ f
abbrev pkL7 (κ : ByteArray → Option R) (f : Nat) := letter_Pick_sbn.L7 letter_rows_0 strings_Builder_WriteString_vxfes strings_Builder_String_vxfe strings_HasSuffix_0 κ f
theorem pkL3_succ (κ : ByteArray → Option R) (f : Nat) (x0 : Bool) (x1 x2 : Int) (x3 x4 : List AV) : pkL3 κ (f + 1) x0 x1 x2 x3 x4 = letter_Pick_sbn.t3 letter_rows_0 strings_Builder_WriteString_vxfes strings_Builder_String_vxfe strings_HasSuffix_0 x0 x1 x2 x3 x4 (pkL3 κ f) (pkL7 κ f) κ := by
  unfold pkL3 pkL7 letter_Pick_sbn.L3 letter_Pick_sbn.L7
  rw [letter_Pick_sbn.M3]
theorem pkL7_succ (κ : ByteArray → Option R) (f : Nat) (x0 x1 : Bool) (x2 x3 x4 x5 : Int) (x6 : List AV) (x7 x8 : ByteArray) (x9 x10 : Bool) (x11 : List AV) : pkL7 κ (f + 1) x0 x1 x2 x3 x4 x5 x6 x7 x8 x9 x10 x11
    = letter_Pick_sbn.t7 letter_rows_0 strings_Builder_WriteString_vxfes strings_Builder_String_vxfe strings_HasSuffix_0 x0 x1 x2 x3 x4 x5 x6 x7 x8 x9 x10 x11 (pkL3 κ f) (pkL7 κ f) κ := by
  unfold pkL3 pkL7 letter_Pick_sbn.L3 letter_Pick_sbn.L7
  rw [letter_Pick_sbn.M3]
def tlR (rs : List Rw) : Nat := (rs.map fun r => r.1.length + 2).sum
theorem tlR_cons (r : Rw) (rs : List Rw) : tlR (r :: rs) = r.1.length + 2 + tlR rs := rfl
/-- What is picked. -/
def pkG (nt : Bool) (rs : List Rw) : List UInt8 := (bif nt then (rs.map fun r => endL r.1).flatten else []) ++ [13, 10]
theorem row_get {rs : List Rw} {i : Nat} {r : Rw} (h : rs[i]? = some r) : rdA (rs.map rowAV) (i : Int) = rowAV r := rdA_get (by rw [List.getElem?_map, h]; rfl)
theorem pick_loop (nt : Bool) (rs : List Rw) (hn : rs.length ≤ 1000000) (κ : ByteArray → Option R) : ∀ (f i : Nat) (acc : List UInt8), i ≤ rs.length → 2 * rs.length < 2 * i + f → acc.length + tlR (rs.drop i) ≤ 1000000 →
    pkL3 κ f nt (rs.length : Int) (i : Int) (intsAV acc) (rs.map rowAV) = κ (B (acc ++ pkG nt (rs.drop i)))
  | 0, i, acc, h1, h2, h3 => by omega
  | 1, i, acc, h1, h2, h3 => by
    have hi : i = rs.length := by omega
    subst hi
    rw [pkL3_succ, letter_Pick_sbn.t3, cond_dec' (by omega), show ((⟨#[13, 10]⟩ : ByteArray)) = B [13, 10] from rfl, wString_eq _ _ _ (by rw [ints_len, size_B]; simp at h3 ⊢; omega), bytesB, ints_append, bString_eq, List.drop_length]
    unfold pkG
    cases nt <;> rfl
  | f + 2, i, acc, h1, h2, h3 => by
    rw [pkL3_succ, letter_Pick_sbn.t3]
    have hal := ints_len acc
    have hml : (rs.map rowAV).length = rs.length := List.length_map ..
    have hw1 : IntKind.wrap .i64 ((i : Int) + 1) = ((i + 1 : Nat) : Int) := wrap_i64 (by omega) (by omega)
    cases hd : rs.drop i with
    | nil =>
      have := drop_nil hd
      rw [hd] at h3
      rw [cond_dec' (by omega), show ((⟨#[13, 10]⟩ : ByteArray)) = B [13, 10] from rfl, wString_eq _ _ _ (by rw [ints_len, size_B]; simp at h3 ⊢; omega), bytesB, ints_append, bString_eq]
      unfold pkG
      cases nt <;> rfl
    | cons r t =>
      obtain ⟨g1, g2, g3⟩ := drop_get hd
      rw [hd, tlR_cons] at h3
      rw [cond_dec (by omega), chk_and, chk_dec (by omega), chk_dec (by omega), row_get g1, pkL7_succ, letter_Pick_sbn.t7, cond_dec' (by omega)]
      rw [show ((rowAV r).fld 0).s = B r.1 from rfl, show ((⟨#[13, 10]⟩ : ByteArray)) = B [13, 10] from rfl, hw1]
      cases nt with
      | false =>
        have := pick_loop false rs hn κ f (i + 1) acc (by omega) (by omega) (by rw [g3]; omega)
        rw [g3] at this
        simp only [BEq.rfl, cond_true]
        exact this
      | true =>
        rw [show (false == true) = false from rfl]
        simp only [cond_false]
        rw [wString_eq _ _ _ (by rw [ints_len, size_B]; omega), bytesB, ints_append, ← show ((⟨#[13, 10]⟩ : ByteArray)) = B [13, 10] from rfl, endC_eq r.1 (by omega)]
        have hpk : ∀ x : List UInt8, x = acc ++ endL r.1 → κ (B (x ++ pkG true t)) = κ (B (acc ++ pkG true (r :: t))) := by
          rintro x rfl
          unfold pkG
          simp
        cases he : endC r.1 with
        | true =>
          have hel : endL r.1 = r.1 := by unfold endL; rw [he]; rfl
          have := pick_loop true rs hn κ f (i + 1) (acc ++ r.1) (by omega) (by omega) (by rw [g3, List.length_append]; omega)
          rw [g3] at this
          simp only [Bool.not_true, cond_false]
          rw [this]
          exact hpk _ (by rw [hel])
        | false =>
          have hel : endL r.1 = r.1 ++ [13, 10] := by unfold endL; rw [he]; rfl
          have := pick_loop true rs hn κ f (i + 1) (acc ++ r.1 ++ [13, 10]) (by omega) (by omega) (by rw [g3, List.length_append, List.length_append]; simp; omega)
          rw [g3] at this
          simp only [Bool.not_false, cond_true]
          rw [show ((⟨#[13, 10]⟩ : ByteArray)) = B [13, 10] from rfl, wString_eq _ _ _ (by rw [ints_len, size_B, List.length_append]; simp; omega), bytesB, ints_append, this]
          exact hpk _ (by rw [hel, List.append_assoc])
theorem rowsG_fst : ∀ (fld : Bool) (nm : List UInt8) (l : List (List UInt8)), (rowsG fld nm l).map (fun r => r.1) = l
  | fld, nm, [] => rfl
  | fld, nm, c :: r => by
    unfold rowsG
    cases isBl (c.headD 0) with
    | true => simp only [cond_true, List.map_cons]; rw [rowsG_fst]
    | false => simp only [cond_false, List.map_cons]; rw [rowsG_fst]
theorem tlR_fst (rs : List Rw) : tlR rs = total (rs.map fun r => r.1) + 2 * rs.length := by
  induction rs with
  | nil => rfl
  | cons r t ih => rw [tlR_cons, ih, List.map_cons, List.length_cons]; simp only [total]; omega
theorem pick_eq (nt : Bool) (h : List UInt8) (hs : h.length ≤ 200000) (κ : ByteArray → Option R) : letter_Pick_sbn (B h) nt κ = κ (B ((bif nt then ((headL h).map endL).flatten else []) ++ [13, 10])) := by
  have h1 := headL_len h
  have h2 := headL_total h
  have h3 := rowsG_len false [] (headL h)
  have h4 := tlR_fst (rowsG false [] (headL h))
  rw [rowsG_fst] at h4
  have key : ∀ f, 400010 < f → letter_Pick_sbn.e letter_rows_0 strings_Builder_WriteString_vxfes strings_Builder_String_vxfe strings_HasSuffix_0 (B h) nt (pkL3 κ f) (pkL7 κ f) κ = κ (B ((bif nt then ((headL h).map endL).flatten else []) ++ [13, 10])) := by
    intro f hf
    unfold letter_Pick_sbn.e
    rw [rows_eq h (by omega), List.length_map]
    have := pick_loop nt (rowsG false [] (headL h)) (by omega) κ f 0 [] (by omega) (by omega) (by simp only [List.length_nil, List.drop_zero]; omega)
    refine this.trans ?_
    unfold pkG
    rw [List.nil_append, List.drop_zero]
    have e : (rowsG false [] (headL h)).map (fun r => endL r.1) = (headL h).map endL := by
      conv => rhs; rw [← rowsG_fst false [] (headL h)]
      rw [List.map_map]; rfl
    rw [e]
  exact key fuelK (by unfold fuelK; omega)
theorem rowsG_len' (fld : Bool) (nm : List UInt8) (l : List (List UInt8)) : (rowsG fld nm l).length = l.length := rowsG_len fld nm l
theorem fresh_raw (c : List UInt8) : (fresh c).2.2 = c := by
  unfold fresh
  cases isF c <;> rfl
theorem headG_raw : ∀ (ls : List (List UInt8)) (cur : Option Fl) (n : Nat), (∀ x, cur = some x → x.2.2.length + total ls ≤ n) → total ls ≤ n → ∀ x ∈ headG cur ls, x.2.2.length ≤ n
  | [], none, n, h, h2, x, hx => by rw [headG] at hx; cases hx
  | [], some y, n, h, h2, x, hx => by
    rw [headG, List.mem_singleton] at hx; subst hx
    have := h x rfl; simp only [total] at this; omega
  | c :: r, none, n, h, h2, x, hx => by
    rw [headG] at hx
    refine headG_raw r _ n ?_ (by simp only [total] at h2; omega) x hx
    intro y e; cases e
    simp only [total] at h2
    rw [fresh_raw]; omega
  | c :: r, some y, n, h, h2, x, hx => by
    have hy := h y rfl
    simp only [total] at h2 hy
    rw [headG] at hx
    have hf := fresh_raw c
    cases hb : isBl (c.headD 0) with
    | true =>
      rw [hb, cond_true] at hx
      refine headG_raw r _ n ?_ (by omega) x hx
      intro z e; cases e
      have : (ext y c).2.2.length = y.2.2.length + c.length := by unfold ext; simp
      omega
    | false =>
      rw [hb, cond_false, List.mem_cons] at hx
      rcases hx with rfl | hx
      · omega
      · refine headG_raw r _ n ?_ (by omega) x hx
        intro z e; cases e; rw [hf]; omega
theorem fieldsG_raw (h : List UInt8) : ∀ x ∈ fieldsG h, x.2.2.length ≤ h.length := by
  intro x hx
  unfold fieldsG at hx
  have hx2 := List.mem_of_mem_take hx
  rw [List.mem_map] at hx2
  obtain ⟨y, hy, rfl⟩ := hx2
  have hy2 := (List.mem_filter.1 hy).1
  exact headG_raw (headL h) none h.length (by intro z e; cases e) (headL_total h) y hy2
end Go.Proofs.Ab

/- LetterGets. -/
namespace Go.Proofs.Ab
set_option linter.unusedVariables false
set_option maxRecDepth 4000
open Go
variable {R : Type}
/-- What Get answers. -/
def getL (name : ByteArray) : List AV → Option ByteArray
  | [] => none
  | a :: r => if lowL (bl (a.fld 0).s) = lowL (bl name) then some (a.fld 1).s else getL name r
def kGet (κ : Bool → ByteArray → Option R) (o : Option ByteArray) : Option R := κ o.isSome (o.getD (B []))
theorem rd_get {l : List AV} {i : Nat} {a : AV} {r : List AV} (h : l.drop i = a :: r) : rdA l (i : Int) = a := rdA_drop h
theorem lGet_loop (name : ByteArray) (hn : name.size ≤ NB) (l : List AV) (hl : l.length ≤ 1000000) (hf : ∀ a ∈ l, Fit NB a) (κ : Bool → ByteArray → Option R) (x4 : Bool) (x5 : ByteArray) : ∀ (f i : Nat), i ≤ l.length → l.length < i + f →
    letter_Get_os.L2 octet_Same_0 κ f name l (l.length : Int) (i : Int) x4 x5 = kGet κ (getL name (l.drop i))
  | 0, i, h1, h2 => by omega
  | f + 1, i, h1, h2 => by
    rw [letter_Get_os.L2, letter_Get_os.t2, empty_B]
    have hw1 : IntKind.wrap .i64 ((i : Int) + 1) = ((i + 1 : Nat) : Int) := wrap_i64 (by omega) (by omega)
    cases hd : l.drop i with
    | nil =>
      have := drop_nil hd
      rw [cond_dec' (by omega)]; rfl
    | cons a r =>
      obtain ⟨g1, g2, g3⟩ := drop_get hd
      have ha := hf a (List.mem_of_getElem? g1)
      rw [cond_dec (by omega), chk_and, chk_dec (by omega), chk_dec (by omega), rd_get hd, lSameB _ _ (ha.fld 0).s hn, hw1, lGet_loop name hn l hl hf κ x4 x5 f (i + 1) (by omega) (by omega), g3, getL]
      by_cases e : lowL (bl (a.fld 0).s) = lowL (bl name)
      · rw [decide_eq_true e, if_pos e]; rfl
      · rw [decide_eq_false e, if_neg e]; rfl
theorem lGet_eq (name : ByteArray) (hn : name.size ≤ NB) (l : List AV) (hl : l.length ≤ 1000000) (hf : ∀ a ∈ l, Fit NB a) (κ : Bool → ByteArray → Option R) : letter_Get_os l name κ = kGet κ (getL name l) := by
  have key : ∀ f, l.length < f → letter_Get_os.e octet_Same_0 l name (letter_Get_os.L2 octet_Same_0 κ f) κ = kGet κ (getL name l) :=
    fun f h => lGet_loop name hn l hl hf κ false _ f 0 (by omega) (by omega)
  exact key fuelK (by unfold fuelK; omega)
theorem cut_front (l : List AV) (x : AV) : cutA (l ++ [x]) 0 (l.length : Int) = l := by
  unfold cutA
  rw [Int.toNat_natCast]
  simp
theorem fit_cut {N : Nat} {l : List AV} (h : ∀ a ∈ l, Fit N a) (i j : Int) : ∀ a ∈ cutA l i j, Fit N a := by
  intro a ha
  unfold cutA at ha
  exact h a (List.mem_of_mem_take (List.mem_of_mem_drop ha))
theorem fit_set {N : Nat} {l : List AV} (h : ∀ a ∈ l, Fit N a) {x : AV} (hx : Fit N x) (i : Int) : ∀ a ∈ setA l i x, Fit N a := by
  intro a ha
  unfold setA at ha
  rcases List.mem_or_eq_of_mem_set ha with h1 | h1
  · exact h a h1
  · rw [h1]; exact hx
theorem fit_fld {N : Nat} {a : AV} (h : Fit N a) : Fit N (AV.agg [AV.str (a.fld 0).s, AV.str (a.fld 1).s, AV.str (a.fld 2).s]) := by
  refine .agg _ fun b hb => ?_
  simp only [List.mem_cons, List.mem_nil_iff, or_false] at hb
  rcases hb with rfl | rfl | rfl
  · exact .str _ (h.fld 0).s
  · exact .str _ (h.fld 1).s
  · exact .str _ (h.fld 2).s
theorem set_len (l : List AV) (i : Int) (x : AV) : (setA l i x).length = l.length := by unfold setA; simp
end Go.Proofs.Ab

/- What is picked by names: rows and fields (lists). -/
namespace Go.Proofs.Ab
set_option linter.unusedVariables false
set_option maxRecDepth 4000
open Go
variable {R : Type}
/-- Is a name one of these? -/
def anyN (nm : List UInt8) (ns : List AV) : Bool := ns.any fun a => decide (lowL nm = lowL (bl a.s))
theorem anyN_cons (nm : List UInt8) (a : AV) (r : List AV) : anyN nm (a :: r) = (decide (lowL nm = lowL (bl a.s)) || anyN nm r) := by unfold anyN; rw [List.any_cons]
/-- Is a row left out? -/
def outR (nt : Bool) (ns : List AV) (r : Rw) : Bool := (r.2.2.2 && anyN r.2.1 ns) == nt
def rowO (nt : Bool) (ns : List AV) (r : Rw) : List UInt8 := bif outR nt ns r then [] else endL r.1
/-- What the program picks. -/
def pkN (nt : Bool) (ns : List AV) (rs : List Rw) : List UInt8 := (rs.map (rowO nt ns)).flatten
/-- Is a field left out? -/
def outF (nt : Bool) (ns : List AV) (x : Fl) : Bool := (decide (x.1 ≠ []) && anyN x.1 ns) == nt
def fldO (nt : Bool) (ns : List AV) (x : Fl) : List UInt8 := bif outF nt ns x then [] else endL x.2.2
def pkF (nt : Bool) (ns : List AV) (l : List Fl) : List UInt8 := (l.map (fldO nt ns)).flatten
/-- All lines but the last one have an end. -/
def GL : List (List UInt8) → Prop
  | [] => True
  | [c] => c ≠ []
  | c :: d :: r => c ≠ [] ∧ endC c = true ∧ GL (d :: r)
theorem GL.tail {c : List UInt8} {r : List (List UInt8)} (h : GL (c :: r)) : c ≠ [] ∧ (r ≠ [] → endC c = true) ∧ GL r := by
  cases r with
  | nil => exact ⟨h, fun e => absurd rfl e, trivial⟩
  | cons d t => exact ⟨h.1, fun _ => h.2.1, h.2.2⟩
theorem endL_append (x y : List UInt8) (hx : endC x = true) (hy : y ≠ []) : endL (x ++ y) = x ++ endL y := by
  unfold endL
  rw [endC_append x y hx hy]
  cases endC y <;> simp
theorem endL_end {x : List UInt8} (hx : endC x = true) : endL x = x := by unfold endL; rw [hx]; rfl
theorem rowsG_cons (fld : Bool) (nm c : List UInt8) (r : List (List UInt8)) : rowsG fld nm (c :: r) = bif isBl (c.headD 0) then (c, nm, false, fld) :: rowsG fld nm r else (c, nmL c, isF c, isF c) :: rowsG (isF c) (nmL c) r := rfl
theorem headG_some (x : Fl) (c : List UInt8) (r : List (List UInt8)) : headG (some x) (c :: r) = bif isBl (c.headD 0) then headG (some (ext x c)) r else x :: headG (some (fresh c)) r := rfl
theorem fresh_name (c : List UInt8) : (decide ((fresh c).1 ≠ []) = isF c) ∧ (isF c = true → (fresh c).1 = nmL c) := by
  unfold fresh
  cases h : isF c with
  | false => exact ⟨by simp, fun e => by cases e⟩
  | true => exact ⟨by simp only [cond_true]; exact decide_eq_true (isF_nm h), fun _ => rfl⟩
theorem out_same (nt : Bool) (ns : List AV) (x : Fl) (c : List UInt8) (b fld : Bool) (nm : List UInt8) (h1 : decide (x.1 ≠ []) = fld) (h2 : fld = true → x.1 = nm) : outR nt ns (c, nm, b, fld) = outF nt ns x := by
  unfold outR outF
  rw [h1]
  cases fld with
  | false => rfl
  | true => rw [h2 rfl]
theorem pick_same (nt : Bool) (ns : List AV) : ∀ (ls : List (List UInt8)) (x : Fl) (fld : Bool) (nm : List UInt8), GL ls → (ls = [] ∨ endC x.2.2 = true) → decide (x.1 ≠ []) = fld → (fld = true → x.1 = nm) →
    pkF nt ns (headG (some x) ls) = fldO nt ns x ++ pkN nt ns (rowsG fld nm ls)
  | [], x, fld, nm, h1, h2, h3, h4 => by simp [headG, pkF, rowsG, pkN]
  | c :: r, x, fld, nm, h1, h2, h3, h4 => by
    obtain ⟨g1, g2, g3⟩ := h1.tail
    have hx : endC x.2.2 = true := by
      rcases h2 with h2 | h2
      · cases h2
      · exact h2
    rw [headG_some, rowsG_cons]
    cases hb : isBl (c.headD 0) with
    | true =>
      simp only [cond_true]
      have he : r = [] ∨ endC (ext x c).2.2 = true := by
        by_cases hr : r = []
        · exact .inl hr
        · refine .inr ?_
          show endC (x.2.2 ++ c) = true
          rw [endC_append _ _ hx g1]; exact g2 hr
      rw [pick_same nt ns r (ext x c) fld nm g3 he h3 h4]
      have ho : outF nt ns (ext x c) = outF nt ns x := rfl
      have hrow : pkN nt ns ((c, nm, false, fld) :: rowsG fld nm r) = rowO nt ns (c, nm, false, fld) ++ pkN nt ns (rowsG fld nm r) := by unfold pkN; simp
      rw [hrow, ← List.append_assoc]
      congr 1
      unfold fldO rowO
      rw [ho, out_same nt ns x c false fld nm h3 h4]
      cases outF nt ns x with
      | true => rfl
      | false =>
        simp only [cond_false]
        show endL (x.2.2 ++ c) = _
        rw [endL_append _ _ hx g1, endL_end hx]
    | false =>
      simp only [cond_false]
      obtain ⟨f1, f2⟩ := fresh_name c
      have he : r = [] ∨ endC (fresh c).2.2 = true := by
        rw [fresh_raw]
        by_cases hr : r = []
        · exact .inl hr
        · exact .inr (g2 hr)
      have ih := pick_same nt ns r (fresh c) (isF c) (nmL c) g3 he f1 f2
      have h5 : pkF nt ns (x :: headG (some (fresh c)) r) = fldO nt ns x ++ pkF nt ns (headG (some (fresh c)) r) := by unfold pkF; simp
      have h6 : pkN nt ns ((c, nmL c, isF c, isF c) :: rowsG (isF c) (nmL c) r) = rowO nt ns (c, nmL c, isF c, isF c) ++ pkN nt ns (rowsG (isF c) (nmL c) r) := by unfold pkN; simp
      rw [h5, ih, h6]
      congr 2
      unfold fldO rowO
      rw [out_same nt ns (fresh c) c (isF c) (isF c) (nmL c) f1 f2, fresh_raw]
theorem pick_all (nt : Bool) (ns : List AV) (ls : List (List UInt8)) (h : GL ls) : pkF nt ns (headG none ls) = pkN nt ns (rowsG false [] ls) := by
  cases ls with
  | nil => rfl
  | cons c r =>
    obtain ⟨g1, g2, g3⟩ := h.tail
    obtain ⟨f1, f2⟩ := fresh_name c
    have he : r = [] ∨ endC (fresh c).2.2 = true := by
      rw [fresh_raw]
      by_cases hr : r = []
      · exact .inl hr
      · exact .inr (g2 hr)
    have e : headG none (c :: r) = headG (some (fresh c)) r := rfl
    rw [e, rowsG_cons]
    cases hb : isBl (c.headD 0) with
    | true =>
      have hF : isF c = false := by
        cases c with
        | nil => exact absurd rfl g1
        | cons a t => exact isF_blank hb
      rw [hF] at f1 f2
      simp only [cond_true]
      have ih := pick_same nt ns r (fresh c) false [] g3 he f1 (fun e => by cases e)
      have h6 : pkN nt ns ((c, [], false, false) :: rowsG false [] r) = rowO nt ns (c, [], false, false) ++ pkN nt ns (rowsG false [] r) := by unfold pkN; simp
      rw [ih, h6]
      congr 1
      unfold fldO rowO
      rw [out_same nt ns (fresh c) c false false [] f1 (fun e => by cases e), fresh_raw]
    | false =>
      simp only [cond_false]
      have ih := pick_same nt ns r (fresh c) (isF c) (nmL c) g3 he f1 f2
      have h6 : pkN nt ns ((c, nmL c, isF c, isF c) :: rowsG (isF c) (nmL c) r) = rowO nt ns (c, nmL c, isF c, isF c) ++ pkN nt ns (rowsG (isF c) (nmL c) r) := by unfold pkN; simp
      rw [ih, h6]
      congr 1
      unfold fldO rowO
      rw [out_same nt ns (fresh c) c (isF c) (isF c) (nmL c) f1 f2, fresh_raw]
theorem GL_head : ∀ (n : Nat) (h : List UInt8), h.length ≤ n → GL (headL h)
  | n, [], hn => by rw [headL_nil]; trivial
  | 0, c :: r, hn => by simp at hn
  | n + 1, c :: r, hn => by
    cases hp : List.isPrefixOf [13, 10] (c :: r) with
    | true => rw [headL_crlf hp]; trivial
    | false =>
      have hpos := ln_pos c r
      have hle := ln_le (c :: r)
      have ih := GL_head n ((c :: r).drop (ln (c :: r))) (by rw [List.length_drop]; omega)
      have hxne : (c :: r).take (ln (c :: r)) ≠ [] := by
        intro e; have := congrArg List.length e; rw [List.length_take] at this; simp only [List.length_nil, List.length_cons] at this hle; omega
      rw [headL_cons hp]
      cases ht : headL ((c :: r).drop (ln (c :: r))) with
      | nil => exact hxne
      | cons d t =>
        rw [ht] at ih
        refine ⟨hxne, take_ln_end (c :: r) ?_, ih⟩
        rcases Nat.lt_or_ge (ln (c :: r)) (c :: r).length with h | h
        · exact h
        · rw [List.drop_eq_nil_of_le h, headL_nil] at ht; cases ht
/-- The program and the document pick the same. -/
theorem picks_same (nt : Bool) (ns : List AV) (h : List UInt8) : pkF nt ns (headG none (headL h)) = pkN nt ns (rowsG false [] (headL h)) := pick_all nt ns _ (GL_head _ h (Nat.le_refl _))
theorem bare_end (c : List UInt8) : ((bareL c).length == c.length) = !endC c := by
  unfold bareL endC
  by_cases h : c.drop (c.length - 2) = [13, 10]
  · have hl := congrArg List.length h
    rw [List.length_drop] at hl
    simp only [List.length_cons, List.length_nil] at hl
    rw [if_pos h, decide_eq_true h, List.length_take]
    simp; omega
  · rw [if_neg h, decide_eq_false h]; simp
end Go.Proofs.Ab

/- What is picked by names, by the program. -/
namespace Go.Proofs.Ab
set_option linter.unusedVariables false
set_option maxRecDepth 4000
open Go
variable {R : Type}
abbrev po3 (κ : ByteArray → Option R) (f : Nat) := letter_Pick_sbo.L3 letter_rows_0 strings_Builder_WriteString_vxfes strings_Builder_String_vxfe octet_Same_0 strings_HasSuffix_0 κ f
abbrev po7 (κ : ByteArray → Option R) (f : Nat) := letter_Pick_sbo.L7 letter_rows_0 strings_Builder_WriteString_vxfes strings_Builder_String_vxfe octet_Same_0 strings_HasSuffix_0 κ f
theorem po3_succ (κ : ByteArray → Option R) (f : Nat) (x0 : Bool) (x1 : List AV) (x2 x3 : Int) (x4 x5 : List AV) : po3 κ (f + 1) x0 x1 x2 x3 x4 x5 = letter_Pick_sbo.t3 letter_rows_0 strings_Builder_WriteString_vxfes strings_Builder_String_vxfe octet_Same_0 strings_HasSuffix_0 x0 x1 x2 x3 x4 x5 (po3 κ f) (po7 κ f) κ := by
  unfold po3 po7 letter_Pick_sbo.L3 letter_Pick_sbo.L7
  rw [letter_Pick_sbo.M3]
theorem po7_succ (κ : ByteArray → Option R) (f : Nat) (x0 : Bool) (x1 : List AV) (x2 : Bool) (x3 x4 : Int) (x5 : List AV) (x6 x7 : Int) (x8 : List AV) (x9 x10 : ByteArray) (x11 x12 : Bool) (x13 : List AV) : po7 κ (f + 1) x0 x1 x2 x3 x4 x5 x6 x7 x8 x9 x10 x11 x12 x13
    = letter_Pick_sbo.t7 letter_rows_0 strings_Builder_WriteString_vxfes strings_Builder_String_vxfe octet_Same_0 strings_HasSuffix_0 x0 x1 x2 x3 x4 x5 x6 x7 x8 x9 x10 x11 x12 x13 (po3 κ f) (po7 κ f) κ := by
  unfold po3 po7 letter_Pick_sbo.L3 letter_Pick_sbo.L7
  rw [letter_Pick_sbo.M3]
/-- The names, one by one. -/
theorem po_names (nt : Bool) (ns : List AV) (hns : ns.length ≤ 1000) (hf : ∀ a ∈ ns, Fit NB a) (n i : Nat) (acc : List AV) (r : Rw) (hr : r.2.1.length ≤ NB) (rs : List AV) (κ : ByteArray → Option R) (X : Option R) (g : Nat)
    (hX : ∀ f', g ≤ f' → (bif outR nt ns r then po3 κ f' nt ns (n : Int) (IntKind.wrap .i64 ((i : Int) + 1)) acc rs else (strings_Builder_WriteString_vxfes acc (B r.1) (fun _ r638 => (strings_HasSuffix_0 (B r.1) (⟨#[13, 10]⟩ : ByteArray) (fun r639 => (bif (!r639) then (strings_Builder_WriteString_vxfes r638 (⟨#[13, 10]⟩ : ByteArray) (fun _ r641 => (po3 κ f' nt ns (n : Int) (IntKind.wrap .i64 ((i : Int) + 1)) r641 rs))) else (po3 κ f' nt ns (n : Int) (IntKind.wrap .i64 ((i : Int) + 1)) r638 rs))))))) = X) :
    ∀ (m k f : Nat) (b : Bool), ns.length ≤ k + m → k ≤ ns.length → (b || (r.2.2.2 && anyN r.2.1 (ns.drop k))) = (r.2.2.2 && anyN r.2.1 ns) → g + m + 1 ≤ f →
      po7 κ f nt ns b (n : Int) (i : Int) ns (ns.length : Int) (k : Int) acc (B r.1) (B r.2.1) r.2.2.1 r.2.2.2 rs = X
  | m, k, 0, b, h1, h2, h3, h4 => by omega
  | m, k, f + 1, b, h1, h2, h3, h4 => by
    rw [po7_succ, letter_Pick_sbo.t7]
    have hw1 : IntKind.wrap .i64 ((k : Int) + 1) = ((k + 1 : Nat) : Int) := wrap_i64 (by omega) (by omega)
    cases hd : ns.drop k with
    | nil =>
      have := drop_nil hd
      rw [hd] at h3
      have hb : (b == nt) = outR nt ns r := by
        unfold outR; rw [← h3]; unfold anyN; simp
      rw [cond_dec' (by omega), hb]
      exact hX f (by omega)
    | cons a t =>
      obtain ⟨g1, g2, g3⟩ := drop_get hd
      have ha := hf a (List.mem_of_getElem? g1)
      rw [hd, anyN_cons] at h3
      obtain ⟨m', rfl⟩ : ∃ m', m = m' + 1 := ⟨m - 1, by omega⟩
      have ih := fun b' h => po_names nt ns hns hf n i acc r hr rs κ X g hX m' (k + 1) f b' (by omega) (by omega) h (by omega)
      rw [g3] at ih
      rw [cond_dec (by omega), chk_and, chk_dec (by omega), chk_dec (by omega), hw1]
      cases b with
      | true =>
        simp only [cond_true]
        exact ih true (by simpa using h3)
      | false =>
        simp only [cond_false]
        cases hin : r.2.2.2 with
        | false =>
          simp only [cond_false]
          rw [hin] at ih h3
          exact ih false (by simp)
        | true =>
          simp only [cond_true]
          rw [hin] at ih h3
          rw [rdA_drop hd, lSameB _ _ (by rw [size_B]; exact hr) ha.s, bl_B]
          exact ih _ (by simpa using h3)
theorem po_loop (nt : Bool) (ns : List AV) (hns : ns.length ≤ 1000) (hf : ∀ a ∈ ns, Fit NB a) (rs : List Rw) (hn : rs.length ≤ 1000000) (hnm : ∀ r ∈ rs, r.2.1.length ≤ NB) (κ : ByteArray → Option R) : ∀ (m i f : Nat) (acc : List UInt8), rs.length ≤ i + m → i ≤ rs.length → 2000 * m + 1 ≤ f → acc.length + tlR (rs.drop i) ≤ 1000000 →
    po3 κ f nt ns (rs.length : Int) (i : Int) (intsAV acc) (rs.map rowAV) = κ (B (acc ++ pkN nt ns (rs.drop i) ++ [13, 10]))
  | m, i, 0, acc, h1, h2, h3, h4 => by omega
  | m, i, f + 1, acc, h1, h2, h3, h4 => by
    rw [po3_succ, letter_Pick_sbo.t3]
    have hal := ints_len acc
    have hml : (rs.map rowAV).length = rs.length := List.length_map ..
    have hw1 : IntKind.wrap .i64 ((i : Int) + 1) = ((i + 1 : Nat) : Int) := wrap_i64 (by omega) (by omega)
    cases hd : rs.drop i with
    | nil =>
      have := drop_nil hd
      rw [hd] at h4
      rw [cond_dec' (by omega), show ((⟨#[13, 10]⟩ : ByteArray)) = B [13, 10] from rfl, wString_eq _ _ _ (by rw [ints_len, size_B]; simp at h4 ⊢; omega), bytesB, ints_append, bString_eq]
      unfold pkN
      simp
    | cons r t =>
      obtain ⟨g1, g2, g3⟩ := drop_get hd
      obtain ⟨m', rfl⟩ : ∃ m', m = m' + 1 := ⟨m - 1, by omega⟩
      rw [hd, tlR_cons] at h4
      have hpk : pkN nt ns (r :: t) = rowO nt ns r ++ pkN nt ns t := by unfold pkN; simp
      rw [cond_dec (by omega), chk_and, chk_dec (by omega), chk_dec (by omega), row_get g1]
      rw [show ((rowAV r).fld 0).s = B r.1 from rfl, show ((rowAV r).fld 1).s = B r.2.1 from rfl, show ((rowAV r).fld 2).b = r.2.2.1 from rfl, show ((rowAV r).fld 3).b = r.2.2.2 from rfl]
      refine po_names nt ns hns hf rs.length i (intsAV acc) r (hnm r (List.mem_of_getElem? g1)) (rs.map rowAV) κ _ (2000 * m' + 1) (fun f' hf' => ?_) ns.length 0 f false (by omega) (by omega) (by simp) (by omega)
      rw [hw1, hpk]
      unfold rowO
      cases outR nt ns r with
      | true =>
        simp only [cond_true]
        have := po_loop nt ns hns hf rs hn hnm κ m' (i + 1) f' acc (by omega) (by omega) hf' (by rw [g3]; omega)
        rw [g3] at this
        rw [this]; simp
      | false =>
        simp only [cond_false]
        rw [wString_eq _ _ _ (by rw [ints_len, size_B]; omega), bytesB, ints_append, endC_eq r.1 (by omega)]
        cases he : endC r.1 with
        | true =>
          have := po_loop nt ns hns hf rs hn hnm κ m' (i + 1) f' (acc ++ r.1) (by omega) (by omega) hf' (by rw [g3, List.length_append]; omega)
          rw [g3] at this
          simp only [Bool.not_true, cond_false]
          rw [this, endL_end he]; simp
        | false =>
          have hel : endL r.1 = r.1 ++ [13, 10] := by unfold endL; rw [he]; rfl
          have := po_loop nt ns hns hf rs hn hnm κ m' (i + 1) f' (acc ++ r.1 ++ [13, 10]) (by omega) (by omega) hf' (by rw [g3, List.length_append, List.length_append]; simp; omega)
          rw [g3] at this
          simp only [Bool.not_false, cond_true]
          rw [show ((⟨#[13, 10]⟩ : ByteArray)) = B [13, 10] from rfl, wString_eq _ _ _ (by rw [ints_len, size_B, List.length_append]; simp; omega), bytesB, ints_append, this, hel]; simp
theorem rowsG_nm : ∀ (fld : Bool) (nm : List UInt8) (l : List (List UInt8)) (N : Nat), nm.length ≤ N → total l ≤ N → ∀ r ∈ rowsG fld nm l, r.2.1.length ≤ N
  | fld, nm, [], N, h1, h2, r, hr => by rw [rowsG] at hr; cases hr
  | fld, nm, c :: t, N, h1, h2, r, hr => by
    simp only [total] at h2
    rw [rowsG_cons] at hr
    cases hb : isBl (c.headD 0) with
    | true =>
      rw [hb, cond_true] at hr
      rcases List.mem_cons.1 hr with h | h
      · rw [h]; exact h1
      · exact rowsG_nm fld nm t N h1 (by omega) r h
    | false =>
      rw [hb, cond_false] at hr
      have := nmL_le c
      rcases List.mem_cons.1 hr with h | h
      · rw [h]; show (nmL c).length ≤ N; omega
      · exact rowsG_nm _ _ t N (by omega) (by omega) r h
theorem lPick_eq (nt : Bool) (ns : List AV) (hns : ns.length ≤ 1000) (hf : ∀ a ∈ ns, Fit NB a) (h : List UInt8) (hs : h.length ≤ 200000) (κ : ByteArray → Option R) : letter_Pick_sbo (B h) nt ns κ = κ (B (pkN nt ns (rowsG false [] (headL h)) ++ [13, 10])) := by
  have h1 := headL_len h
  have h2 := headL_total h
  have h3 := rowsG_len false [] (headL h)
  have h4 := tlR_fst (rowsG false [] (headL h))
  rw [rowsG_fst] at h4
  have h5 := rowsG_nm false [] (headL h) 200000 (by simp) (by omega)
  have key : ∀ f, 2000 * 300000 < f → letter_Pick_sbo.e letter_rows_0 strings_Builder_WriteString_vxfes strings_Builder_String_vxfe octet_Same_0 strings_HasSuffix_0 (B h) nt ns (po3 κ f) (po7 κ f) κ = κ (B (pkN nt ns (rowsG false [] (headL h)) ++ [13, 10])) := by
    intro f hf'
    unfold letter_Pick_sbo.e
    rw [rows_eq h (by omega), List.length_map]
    have := po_loop nt ns hns hf (rowsG false [] (headL h)) (by omega) (fun r hr => by have := h5 r hr; unfold NB; omega) κ (rowsG false [] (headL h)).length 0 f [] (by omega) (by omega) (by omega) (by simp only [List.length_nil, List.drop_zero]; omega)
    rw [List.drop_zero, List.nil_append] at this
    exact this
  exact key fuelK (by unfold fuelK; omega)
end Go.Proofs.Ab

/- What is picked by names, by the document; LetterPicks. -/
namespace Go.Proofs.Ab
set_option linter.unusedVariables false
set_option maxRecDepth 4000
open Go
variable {R : Type}
theorem headG_nm : ∀ (ls : List (List UInt8)) (cur : Option Fl) (N : Nat), (∀ x, cur = some x → x.1.length ≤ N) → total ls ≤ N → ∀ x ∈ headG cur ls, x.1.length ≤ N
  | [], none, N, h, h2, x, hx => by rw [headG] at hx; cases hx
  | [], some y, N, h, h2, x, hx => by rw [headG, List.mem_singleton] at hx; subst hx; exact h x rfl
  | c :: r, cur, N, h, h2, x, hx => by
    simp only [total] at h2
    have hfr : (fresh c).1.length ≤ N := by
      have := nmL_le c
      unfold fresh
      cases isF c with
      | false => simp
      | true => show (nmL c).length ≤ N; omega
    cases cur with
    | none =>
      have e : headG none (c :: r) = headG (some (fresh c)) r := rfl
      rw [e] at hx
      exact headG_nm r _ N (by intro y e; cases e; exact hfr) (by omega) x hx
    | some y =>
      rw [headG_some] at hx
      cases hb : isBl (c.headD 0) with
      | true =>
        rw [hb, cond_true] at hx
        exact headG_nm r _ N (by intro z e; cases e; exact h y rfl) (by omega) x hx
      | false =>
        rw [hb, cond_false] at hx
        rcases List.mem_cons.1 hx with h1 | h1
        · rw [h1]; exact h y rfl
        · exact headG_nm r _ N (by intro z e; cases e; exact hfr) (by omega) x h1
theorem cut_front' (l : List AV) (x : AV) : cutA (l ++ [x]) 0 (l.length : Int) = l := by
  unfold cutA
  rw [Int.toNat_natCast]
  simp
theorem fit_cut' {N : Nat} {l : List AV} (h : ∀ a ∈ l, Fit N a) (i j : Int) : ∀ a ∈ cutA l i j, Fit N a := by
  intro a ha
  unfold cutA at ha
  exact h a (List.mem_of_mem_take (List.mem_of_mem_drop ha))
theorem fit_set' {N : Nat} {l : List AV} (h : ∀ a ∈ l, Fit N a) {x : AV} (hx : Fit N x) (i : Int) : ∀ a ∈ setA l i x, Fit N a := by
  intro a ha
  unfold setA at ha
  rcases List.mem_or_eq_of_mem_set ha with h1 | h1
  · exact h a h1
  · rw [h1]; exact hx
end Go.Proofs.Ab

/- The fields of what was picked (lists). -/
namespace Go.Proofs.Ab
set_option linter.unusedVariables false
set_option maxRecDepth 4000
open Go
variable {R : Type}
def endF (x : Fl) : Fl := (x.1, x.2.1, endL x.2.2)
/-- The lines that are picked. -/
def kept (nt : Bool) (ns : List AV) (rs : List Rw) : List (List UInt8) := (rs.filter fun r => !outR nt ns r).map fun r => endL r.1
def incF (nt : Bool) (ns : List AV) (x : Fl) : Bool := !outF nt ns x
theorem pkN_kept (nt : Bool) (ns : List AV) (rs : List Rw) : pkN nt ns rs = (kept nt ns rs).flatten := by
  induction rs with
  | nil => rfl
  | cons r t ih =>
    unfold pkN kept at ih ⊢
    rw [List.map_cons, List.flatten_cons, ih, List.filter_cons]
    unfold rowO
    cases outR nt ns r <;> rfl
theorem kept_cons (nt : Bool) (ns : List AV) (r : Rw) (t : List Rw) : kept nt ns (r :: t) = bif outR nt ns r then kept nt ns t else endL r.1 :: kept nt ns t := by
  unfold kept
  rw [List.filter_cons]
  cases outR nt ns r <;> rfl
theorem tw_app {p : UInt8 → Bool} {d : UInt8} (r : List UInt8) (hp : p d = false) : ∀ a : List UInt8, (a ++ d :: r).takeWhile p = a.takeWhile p
  | [] => by rw [List.nil_append, List.takeWhile_cons, hp]; rfl
  | c :: t => by
    rw [List.cons_append, List.takeWhile_cons, List.takeWhile_cons, tw_app r hp t]
theorem bareL_app (c : List UInt8) : bareL (c ++ [13, 10]) = c := by
  unfold bareL
  have h : (c ++ [13, 10]).length - 2 = c.length := by simp
  rw [h, List.drop_left, if_pos rfl, List.take_left]
theorem bareL_no {c : List UInt8} (h : endC c = false) : bareL c = c := by
  unfold bareL
  unfold endC at h
  rw [if_neg (of_decide_eq_false h)]
theorem bareL_end (c : List UInt8) : bareL (endL c) = bareL c := by
  unfold endL
  cases h : endC c with
  | true => rfl
  | false => simp only [cond_false]; rw [bareL_app, bareL_no h]
theorem endC_drop {c : List UInt8} {k : Nat} (h : endC (c.drop k) = true) : endC c = true := by
  unfold endC at h ⊢
  have h' := of_decide_eq_true h
  rw [List.drop_drop, List.length_drop] at h'
  have hl := congrArg List.length h'
  rw [List.length_drop] at hl
  simp only [List.length_cons, List.length_nil] at hl
  apply decide_eq_true
  rw [← h']
  congr 1; omega
theorem fresh_end (c : List UInt8) : fresh (endL c) = endF (fresh c) := by
  cases h : endC c with
  | true =>
    have e := endL_end h
    unfold endF
    rw [e, fresh_raw, e]
    unfold fresh
    cases isF c <;> rfl
  | false =>
    have e : endL c = c ++ [13, 10] := by unfold endL; rw [h]; rfl
    have h1 : nmL (c ++ [13, 10]) = nmL c := tw_app [10] (by rfl) c
    have hle := nmL_le c
    have h2 : atL (c ++ [13, 10]) = atL c := by
      unfold atL
      rw [h1, List.drop_append_of_le_length hle]
      congr 2
      exact tw_app [10] (by rfl) _
    have hat : atL c ≤ c.length := by
      unfold atL
      have := (List.takeWhile_prefix isBl (l := c.drop (nmL c).length)).length_le
      rw [List.length_drop] at this
      omega
    have h3 : isF (c ++ [13, 10]) = isF c := by
      unfold isF
      rw [h1, h2]
      congr 1
      rcases Nat.lt_or_ge (atL c) c.length with hlt | hge
      · rw [List.getElem?_append_left hlt]
      · have he : atL c = c.length := by omega
        rw [he, List.getElem?_append_right (Nat.le_refl _), Nat.sub_self, List.getElem?_eq_none (Nat.le_refl _)]; rfl
    unfold endF
    rw [fresh_raw, e]
    unfold fresh
    rw [h3, h1, h2]
    cases hf : isF c with
    | false => rfl
    | true =>
      have hlt := isF_lt hf
      simp only [cond_true]
      have hv : bareL ((c ++ [13, 10]).drop (atL c + 1)) = bareL (c.drop (atL c + 1)) := by
        rw [List.drop_append_of_le_length (by omega), bareL_app]
        cases hd : endC (c.drop (atL c + 1)) with
        | true => rw [endC_drop hd] at h; cases h
        | false => rw [bareL_no hd]
      rw [hv]
theorem ext_end (x : Fl) (c : List UInt8) (hx : endC x.2.2 = true) (hc : c ≠ []) : endF (ext x c) = ext (endF x) (endL c) := by
  unfold endF ext
  rw [bareL_end]
  simp only [endL_append _ _ hx hc, endL_end hx]
theorem head_end (c : List UInt8) (hc : c ≠ []) : (endL c).headD 0 = c.headD 0 := by
  cases c with
  | nil => exact absurd rfl hc
  | cons a t => unfold endL; cases endC (a :: t) <;> rfl
theorem headG_new (oy : Option Fl) (c : List UInt8) (r : List (List UInt8)) (h : isBl (c.headD 0) = false) : headG oy (c :: r) = oy.toList ++ headG (some (fresh c)) r := by
  cases oy with
  | none => rfl
  | some y => rw [headG_some, h]; rfl
theorem headG_end (oy : Option Fl) : headG oy [] = oy.toList := by cases oy <;> rfl
theorem kept_head (nt : Bool) (ns : List AV) : ∀ (ls : List (List UInt8)), GL ls →
    (∀ (x : Fl) (fld : Bool) (nm : List UInt8), (ls = [] ∨ endC x.2.2 = true) → decide (x.1 ≠ []) = fld → (fld = true → x.1 = nm) → outF nt ns x = false →
      headG (some (endF x)) (kept nt ns (rowsG fld nm ls)) = ((headG (some x) ls).filter (incF nt ns)).map endF) ∧
    (∀ (z : Fl) (oy : Option Fl) (fld : Bool) (nm : List UInt8), decide (z.1 ≠ []) = fld → (fld = true → z.1 = nm) → outF nt ns z = true →
      headG oy (kept nt ns (rowsG fld nm ls)) = oy.toList ++ ((headG (some z) ls).filter (incF nt ns)).map endF)
  | [], hG => by
    refine ⟨fun x fld nm _ _ _ hx => ?_, fun z oy fld nm _ _ hz => ?_⟩
    · rw [rowsG, kept, headG_end]
      simp [headG, incF, hx]
    · rw [rowsG]
      show headG oy [] = _
      rw [headG_end]
      simp [headG, incF, hz]
  | c :: r, hG => by
    obtain ⟨g1, g2, g3⟩ := hG.tail
    obtain ⟨i1, i2⟩ := kept_head nt ns r g3
    obtain ⟨f1, f2⟩ := fresh_name c
    have hfr : r = [] ∨ endC (fresh c).2.2 = true := by
      rw [fresh_raw]
      by_cases hr : r = []
      · exact .inl hr
      · exact .inr (g2 hr)
    have hfo := out_same nt ns (fresh c) c (isF c) (isF c) (nmL c) f1 f2
    refine ⟨fun x fld nm h2 h3 h4 hx => ?_, fun z oy fld nm h3 h4 hz => ?_⟩
    · have hxe : endC x.2.2 = true := by
        rcases h2 with h2 | h2
        · cases h2
        · exact h2
      rw [rowsG_cons, headG_some]
      cases hb : isBl (c.headD 0) with
      | true =>
        simp only [cond_true]
        rw [kept_cons, out_same nt ns x c false fld nm h3 h4, hx, cond_false, headG_some, head_end c g1, hb, cond_true, ← ext_end x c hxe g1]
        have he : r = [] ∨ endC (ext x c).2.2 = true := by
          by_cases hr : r = []
          · exact .inl hr
          · refine .inr ?_
            show endC (x.2.2 ++ c) = true
            rw [endC_append _ _ hxe g1]; exact g2 hr
        exact i1 (ext x c) fld nm he h3 h4 hx
      | false =>
        simp only [cond_false]
        have hfil : ((x :: headG (some (fresh c)) r).filter (incF nt ns)).map endF = endF x :: ((headG (some (fresh c)) r).filter (incF nt ns)).map endF := by
          rw [List.filter_cons, if_pos (by unfold incF; rw [hx]; rfl), List.map_cons]
        rw [hfil, kept_cons, hfo]
        cases ho : outF nt ns (fresh c) with
        | true =>
          simp only [cond_true]
          rw [i2 (fresh c) (some (endF x)) (isF c) (nmL c) f1 f2 ho]; rfl
        | false =>
          simp only [cond_false]
          rw [headG_new _ _ _ (by rw [head_end c g1]; exact hb), fresh_end, i1 (fresh c) (isF c) (nmL c) hfr f1 f2 ho]; rfl
    · rw [rowsG_cons, headG_some]
      cases hb : isBl (c.headD 0) with
      | true =>
        simp only [cond_true]
        rw [kept_cons, out_same nt ns z c false fld nm h3 h4, hz, cond_true]
        exact i2 (ext z c) oy fld nm h3 h4 hz
      | false =>
        simp only [cond_false]
        have hfil : ((z :: headG (some (fresh c)) r).filter (incF nt ns)).map endF = ((headG (some (fresh c)) r).filter (incF nt ns)).map endF := by
          rw [List.filter_cons, if_neg (by unfold incF; rw [hz]; simp)]
        rw [hfil, kept_cons, hfo]
        cases ho : outF nt ns (fresh c) with
        | true =>
          simp only [cond_true]
          exact i2 (fresh c) oy (isF c) (nmL c) f1 f2 ho
        | false =>
          simp only [cond_false]
          rw [headG_new _ _ _ (by rw [head_end c g1]; exact hb), fresh_end, i1 (fresh c) (isF c) (nmL c) hfr f1 f2 ho]
theorem kept_all (nt : Bool) (ns : List AV) (ls : List (List UInt8)) (hG : GL ls) : headG none (kept nt ns (rowsG false [] ls)) = ((headG none ls).filter (incF nt ns)).map endF := by
  cases ls with
  | nil => rfl
  | cons c r =>
    obtain ⟨g1, g2, g3⟩ := hG.tail
    obtain ⟨i1, i2⟩ := kept_head nt ns r g3
    obtain ⟨f1, f2⟩ := fresh_name c
    have hfr : r = [] ∨ endC (fresh c).2.2 = true := by
      rw [fresh_raw]
      by_cases hr : r = []
      · exact .inl hr
      · exact .inr (g2 hr)
    have e : headG none (c :: r) = headG (some (fresh c)) r := rfl
    have e2 : ∀ K, headG none (endL c :: K) = headG (some (endF (fresh c))) K := fun K => by rw [← fresh_end]; rfl
    rw [e, rowsG_cons]
    cases hb : isBl (c.headD 0) with
    | true =>
      have hF : isF c = false := by
        cases c with
        | nil => exact absurd rfl g1
        | cons a t => exact isF_blank hb
      rw [hF] at f1 f2
      simp only [cond_true]
      rw [kept_cons, out_same nt ns (fresh c) c false false [] f1 (fun e => by cases e)]
      cases ho : outF nt ns (fresh c) with
      | true => simp only [cond_true]; exact i2 (fresh c) none false [] f1 (fun e => by cases e) ho
      | false => simp only [cond_false]; rw [e2]; exact i1 (fresh c) false [] hfr f1 (fun e => by cases e) ho
    | false =>
      simp only [cond_false]
      rw [kept_cons, out_same nt ns (fresh c) c (isF c) (isF c) (nmL c) f1 f2]
      cases ho : outF nt ns (fresh c) with
      | true => simp only [cond_true]; exact i2 (fresh c) none (isF c) (nmL c) f1 f2 ho
      | false => simp only [cond_false]; rw [e2]; exact i1 (fresh c) (isF c) (nmL c) hfr f1 f2 ho
/-! ## What was picked, cut into lines again -/
/-- A whole line, with its end. -/
def Ln (c : List UInt8) : Prop := c ≠ [] ∧ c ≠ [13, 10] ∧ ∀ rest, ln (c ++ rest) = c.length
theorem ln_whole : ∀ (l : List UInt8), endC (l.take (ln l)) = true → ∀ rest, ln (l.take (ln l) ++ rest) = ln l
  | [], h, rest => by cases h
  | c :: r, h, rest => by
    by_cases e : c = 13 ∧ r.head? = some 10
    · obtain ⟨rfl, hr⟩ := e
      cases r with
      | nil => cases hr
      | cons d r => cases hr; rw [ln_crlf]; exact ln_crlf _
    · have hl := ln_else c r e
      rw [hl] at h ⊢
      have ht : (c :: r).take (1 + ln r) = c :: r.take (ln r) := by rw [Nat.add_comm]; rfl
      rw [ht] at h ⊢
      have hr : endC (r.take (ln r)) = true := by
        match hx : r.take (ln r), h with
        | [], h =>
          exfalso
          have h' := of_decide_eq_true h
          simp at h'
        | [y], h =>
          exfalso
          have h' := of_decide_eq_true h
          simp at h'
          refine e ⟨h'.1, ?_⟩
          cases r with
          | nil => simp at hx
          | cons a t =>
            have hp := ln_pos a t
            rw [show ln (a :: t) = (ln (a :: t) - 1) + 1 by omega, List.take_succ_cons] at hx
            simp at hx
            simp [hx.1, h'.2]
        | y :: z :: w, h =>
          have h' := of_decide_eq_true h
          apply decide_eq_true
          simpa using h'
      have ih := ln_whole r hr rest
      rw [List.cons_append, ln_else c _ ?_, ih]
      rintro ⟨h5, h6⟩
      refine e ⟨h5, ?_⟩
      cases r with
      | nil => rw [List.take_nil] at hr; cases hr
      | cons a t =>
        have hp := ln_pos a t
        rw [show ln (a :: t) = (ln (a :: t) - 1) + 1 by omega, List.take_succ_cons] at h6
        simpa using h6
theorem ln_open (rest : List UInt8) : ∀ (c : List UInt8), ln c = c.length → endC c = false → ln (c ++ 13 :: 10 :: rest) = c.length + 2
  | [], _, _ => ln_crlf _
  | c :: r, h, he => by
    by_cases e : c = 13 ∧ r.head? = some 10
    · obtain ⟨rfl, hr⟩ := e
      cases r with
      | nil => cases hr
      | cons d r =>
        cases hr
        rw [ln_crlf] at h
        have : r = [] := by
          cases r with
          | nil => rfl
          | cons a t => simp at h
        subst this
        cases he
    · rw [ln_else c r e] at h
      have hr : ln r = r.length := by simp only [List.length_cons] at h; omega
      have her : endC r = false := by
        cases hx : endC r with
        | false => rfl
        | true =>
          have : endC (c :: r) = true := endC_drop (k := 1) (c := c :: r) hx
          rw [this] at he; cases he
      rw [List.cons_append, ln_else c _ ?_, ln_open rest r hr her]
      · simp only [List.length_cons]; omega
      · rintro ⟨h5, h6⟩
        cases r with
        | nil => simp at h6
        | cons a t => exact e ⟨h5, by simpa using h6⟩
theorem ln_take_len (l : List UInt8) : (l.take (ln l)).length = ln l := by
  have := ln_le l
  rw [List.length_take]; omega
theorem Ln_line (l : List UInt8) (hne : l ≠ []) (hp : List.isPrefixOf [13, 10] l = false) : Ln (endL (l.take (ln l))) := by
  have hcr : l.take (ln l) ≠ [13, 10] := fun e => by rw [(ln_take_crlf l).1 e] at hp; cases hp
  have hpos : 0 < ln l := by cases l with | nil => exact absurd rfl hne | cons c r => exact ln_pos c r
  have hl := ln_take_len l
  have hxne : l.take (ln l) ≠ [] := by intro e; rw [e] at hl; simp at hl; omega
  cases he : endC (l.take (ln l)) with
  | true =>
    rw [endL_end he]
    exact ⟨hxne, hcr, fun rest => by rw [ln_whole l he rest, hl]⟩
  | false =>
    have e : endL (l.take (ln l)) = l.take (ln l) ++ [13, 10] := by unfold endL; rw [he]; rfl
    have hall : ln l = l.length := by
      have := ln_le l
      rcases Nat.lt_or_ge (ln l) l.length with h | h
      · rw [take_ln_end l h] at he; cases he
      · omega
    have hx : l.take (ln l) = l := List.take_of_length_le (by omega)
    rw [e]
    refine ⟨by simp, ?_, fun rest => ?_⟩
    · intro e2
      have := congrArg List.length e2
      rw [List.length_append] at this
      simp only [List.length_cons, List.length_nil] at this
      omega
    · rw [hx] at he ⊢
      have := ln_open rest l hall he
      rw [List.append_assoc]
      rw [show ([13, 10] : List UInt8) ++ rest = 13 :: 10 :: rest from rfl, this]
      simp
theorem Ln_head : ∀ (n : Nat) (h : List UInt8), h.length ≤ n → ∀ c ∈ headL h, Ln (endL c)
  | n, [], hn, c, hc => by rw [headL_nil] at hc; cases hc
  | 0, a :: r, hn, c, hc => by simp at hn
  | n + 1, a :: r, hn, c, hc => by
    cases hp : List.isPrefixOf [13, 10] (a :: r) with
    | true => rw [headL_crlf hp] at hc; cases hc
    | false =>
      have hpos := ln_pos a r
      rw [headL_cons hp] at hc
      rcases List.mem_cons.1 hc with h | h
      · rw [h]; exact Ln_line _ (by simp) hp
      · exact Ln_head n _ (by rw [List.length_drop]; omega) c h
theorem headL_of : ∀ (K : List (List UInt8)), (∀ c ∈ K, Ln c) → headL (K.flatten ++ [13, 10]) = K
  | [], h => headL_crlf (by rfl)
  | c :: r, h => by
    obtain ⟨h1, h2, h3⟩ := h c (by simp)
    have ih := headL_of r (fun d hd => h d (by simp [hd]))
    have e : (c :: r).flatten ++ [13, 10] = c ++ (r.flatten ++ [13, 10]) := by simp
    have hl := h3 (r.flatten ++ [13, 10])
    have hp : List.isPrefixOf [13, 10] (c ++ (r.flatten ++ [13, 10])) = false := by
      cases hx : List.isPrefixOf [13, 10] (c ++ (r.flatten ++ [13, 10])) with
      | false => rfl
      | true =>
        exfalso
        have := (ln_take_crlf _).2 hx
        rw [hl, List.take_left] at this
        exact h2 this
    rw [e]
    match c, h1 with
    | a :: t, _ =>
      rw [List.cons_append] at hp hl ⊢
      rw [headL_cons hp, hl, ← List.cons_append, List.take_left, List.drop_left, ih]
theorem headL_picked (nt : Bool) (ns : List AV) (h : List UInt8) : headL (pkN nt ns (rowsG false [] (headL h)) ++ [13, 10]) = kept nt ns (rowsG false [] (headL h)) := by
  rw [pkN_kept]
  refine headL_of _ fun c hc => ?_
  unfold kept at hc
  obtain ⟨r, hr, rfl⟩ := List.mem_map.1 hc
  have hm := (List.mem_filter.1 hr).1
  have : r.1 ∈ headL h := by
    rw [← rowsG_fst false [] (headL h)]
    exact List.mem_map.2 ⟨r, hm, rfl⟩
  exact Ln_head h.length h (Nat.le_refl _) _ this
/-- The fields of what was picked are those that were picked. -/
theorem head_picked (nt : Bool) (ns : List AV) (h : List UInt8) : headG none (headL (pkN nt ns (rowsG false [] (headL h)) ++ [13, 10])) = ((headG none (headL h)).filter (incF nt ns)).map endF := by
  rw [headL_picked, kept_all nt ns _ (GL_head h.length h (Nat.le_refl _))]
end Go.Proofs.Ab

/- LetterPicked. -/
namespace Go.Proofs.Ab
set_option linter.unusedVariables false
set_option maxRecDepth 4000
open Go
variable {R : Type}
theorem pick_lens (ns : List AV) : ∀ rs : List Rw, (pkN false ns rs).length + (pkN true ns rs).length = ((rs.map fun r => endL r.1).flatten).length
  | [] => rfl
  | r :: t => by
    have ih := pick_lens ns t
    unfold pkN at ih ⊢
    rw [List.map_cons, List.map_cons, List.map_cons, List.flatten_cons, List.flatten_cons, List.flatten_cons, List.length_append, List.length_append, List.length_append, ← ih]
    unfold rowO outR
    cases (r.2.2.2 && anyN r.2.1 ns) <;> simp <;> omega
theorem cut_one (l : List Fl) (i : Nat) (y : Fl) (h : l[i]? = some y) : cutA (l.map fAV) (i : Int) ((i + 1 : Nat) : Int) = [fAV y] := by
  unfold cutA
  rw [Int.toNat_natCast, Int.toNat_natCast]
  have hlt := (List.getElem?_eq_some_iff.1 h).1
  have h2 : (l.map fAV)[i]? = some (fAV y) := by rw [List.getElem?_map, h]; rfl
  rw [take_succ_get h2, List.drop_append_of_le_length (by rw [List.length_take, List.length_map]; omega), List.drop_eq_nil_of_le (by rw [List.length_take]; omega)]; rfl
def okFl (x : Fl) : Prop := x.1.length ≤ NB ∧ x.2.1.length ≤ NB ∧ x.2.2.length ≤ NB
theorem fit_fAV {x : Fl} (h : okFl x) : Fit NB (fAV x) := by
  refine .agg _ fun b hb => ?_
  simp only [List.mem_cons, List.mem_nil_iff, or_false] at hb
  rcases hb with rfl | rfl | rfl
  · exact .str _ (by rw [size_B]; exact h.1)
  · exact .str _ (by rw [size_B]; exact h.2.1)
  · exact .str _ (by rw [size_B]; exact h.2.2)
theorem getL_one (name : ByteArray) (x : Fl) : (getL name [fAV x]).isSome = anyN x.1 [AV.str name] := by
  unfold getL getL
  rw [fAV0, bl_B, anyN_cons, show (AV.str name).s = name from rfl, show anyN x.1 [] = false from rfl, Bool.or_false]
  by_cases h : lowL x.1 = lowL (bl name)
  · simp [h]
  · simp [h]
theorem get_one (name : ByteArray) (hn : name.size ≤ NB) (x : Fl) (hx : okFl x) (κ : Bool → ByteArray → Option R) (k1 : ByteArray → Option R) (k0 : Option R) (hκ : ∀ b s, κ b s = bif b then k1 s else k0) :
    ∃ s, letter_Get_os [fAV x] name κ = bif anyN x.1 [AV.str name] then k1 s else k0 := by
  rw [lGet_eq name hn [fAV x] (by simp) (by intro a ha; rw [List.mem_singleton.1 ha]; exact fit_fAV hx)]
  unfold kGet
  rw [hκ, getL_one]
  exact ⟨_, rfl⟩
theorem starts_eq (a b : List UInt8) (ha : a.length ≤ 1000000) (h : b <+: a) (κ : Bool → Option R) : postbaglaw5_starts_0 (B a) (B b) κ = κ true := by
  have hl := h.length_le
  unfold postbaglaw5_starts_0 postbaglaw5_starts_0.e
  simp only [size_B]
  rw [cond_dec (by omega), chk_and, chk_dec (by omega), chk_dec (by omega), extract_B, Int.toNat_natCast]
  congr 1
  apply decide_eq_true
  rw [Int.toNat_zero, List.drop_zero, B_inj]
  exact (List.prefix_iff_eq_take.1 h).symm
abbrev te (x : Fl) : Fl := trimF (endF x)
abbrev pd14 (κ : Bool → Option R) (f : Nat) := postbaglaw5_LetterPicked_0.L14 postbaglaw5_known_0 letter_Pick_sbo letter_Pick_sbn letter_Fields_0 letter_Get_os postbaglaw5_starts_0 κ f
abbrev pd23 (κ : Bool → Option R) (f : Nat) := postbaglaw5_LetterPicked_0.L23 postbaglaw5_known_0 letter_Pick_sbo letter_Pick_sbn letter_Fields_0 letter_Get_os postbaglaw5_starts_0 κ f
theorem picked23 (name : ByteArray) (hn : name.size ≤ NB) (k : Int) (fs gs : List AV) (H : List Fl) (hH : H.length ≤ 1000) (hok : ∀ y ∈ H, okFl y) (hno : ∀ y ∈ H, anyN y.1 [AV.str name] = false) (κ : Bool → Option R) (hk : k = (gs.length : Int) ∨ 64 ≤ fs.length) : ∀ (f i : Nat), i ≤ H.length → H.length < i + f →
    pd23 κ f name k (i : Int) fs gs (H.map fAV) = κ true
  | 0, i, h1, h2 => by omega
  | f + 1, i, h1, h2 => by
    unfold pd23
    rw [postbaglaw5_LetterPicked_0.L23, postbaglaw5_LetterPicked_0.t23, List.length_map]
    have hw1 : IntKind.wrap .i64 ((i : Int) + 1) = ((i + 1 : Nat) : Int) := wrap_i64 (by omega) (by omega)
    by_cases hi : i < H.length
    · have hy := List.getElem?_eq_getElem hi
      rw [cond_dec (by omega), hw1, chk_and, chk_dec (by omega), chk_and, chk_dec (by omega), chk_dec (by omega), cut_one H i _ hy]
      obtain ⟨s, hs⟩ := get_one name hn H[i] (hok _ (List.getElem_mem hi)) (fun r669 _ => (bif r669 then (κ false) else (postbaglaw5_LetterPicked_0.L23 postbaglaw5_known_0 letter_Pick_sbo letter_Pick_sbn letter_Fields_0 letter_Get_os postbaglaw5_starts_0 κ f name k ((i + 1 : Nat) : Int) fs gs (H.map fAV)))) (fun _ => κ false) _ (fun b s => rfl)
      rw [hs, hno _ (List.getElem_mem hi)]
      exact picked23 name hn k fs gs H hH hok hno κ hk f (i + 1) (by omega) (by omega)
    · rw [cond_dec' (by omega)]
      rcases hk with hk | hk
      · rw [beq_pos hk]; rfl
      · rw [decide_eq_true (by omega)]
        cases (k == (gs.length : Int)) <;> rfl
theorem picked14 (name : ByteArray) (hn : name.size ≤ NB) (out : ByteArray) (A G Rr : List Fl) (hA : A.length ≤ 64) (hok : ∀ x ∈ A, okFl (trimF x)) (hraw : ∀ x ∈ A, x.2.2.length ≤ 200000) (H : List Fl) (hH : H.length ≤ 1000) (hHok : ∀ y ∈ H, okFl y) (hno : ∀ y ∈ H, anyN y.1 [AV.str name] = false)
    (κ : Bool → Option R) (hout : ∀ κ' : List AV → Option R, letter_Fields_0 out κ' = κ' (H.map fAV)) (hend : (A.filter fun x => anyN x.1 [AV.str name]).length = ((G.map te).take 64).length ∨ 64 ≤ A.length) :
    ∀ (f i k : Nat), i ≤ A.length → A.length + 1002 < i + f → k ≤ i → k + ((A.drop i).filter fun x => anyN x.1 [AV.str name]).length = (A.filter fun x => anyN x.1 [AV.str name]).length → G.drop k = ((A.drop i).filter fun x => anyN x.1 [AV.str name]) ++ Rr →
      pd14 κ f name out (k : Int) (i : Int) ((A.map trimF).map fAV) (((G.map te).take 64).map fAV) = κ true
  | 0, i, k, h1, h2, h3, h4, h5 => by omega
  | f + 1, i, k, h1, h2, h3, h4, h5 => by
    unfold pd14
    rw [postbaglaw5_LetterPicked_0.L14, postbaglaw5_LetterPicked_0.t14]
    have hw1 : IntKind.wrap .i64 ((i : Int) + 1) = ((i + 1 : Nat) : Int) := wrap_i64 (by omega) (by omega)
    have hw2 : IntKind.wrap .i64 ((k : Int) + 1) = ((k + 1 : Nat) : Int) := wrap_i64 (by omega) (by omega)
    have hl1 : ((A.map trimF).map fAV).length = A.length := by rw [List.length_map, List.length_map]
    have hl2 : (((G.map te).take 64).map fAV).length = ((G.map te).take 64).length := List.length_map ..
    rw [hl1]
    cases hd : A.drop i with
    | nil =>
      have := drop_nil hd
      rw [hd] at h4
      rw [cond_dec' (by omega), hout]
      refine picked23 name hn _ _ _ H hH hHok hno κ ?_ f 0 (by omega) (by omega)
      rw [hl1, hl2]
      rcases hend with h | h
      · left
        simp only [List.filter_nil, List.length_nil] at h4
        omega
      · right; exact h
    | cons x t =>
      obtain ⟨g1, g2, g3⟩ := drop_get hd
      have hxm := List.mem_of_getElem? g1
      have hxa : (A.map trimF)[i]? = some (trimF x) := by rw [List.getElem?_map, g1]; rfl
      rw [cond_dec (by omega), hw1, chk_and, chk_dec (by omega), chk_and, chk_dec (by omega), chk_dec (by omega), cut_one _ i _ hxa]
      rw [hd, List.filter_cons] at h4 h5
      cases hp : anyN x.1 [AV.str name] with
      | false =>
        rw [hp, if_neg (by simp)] at h4 h5
        have ih := picked14 name hn out A G Rr hA hok hraw H hH hHok hno κ hout hend f (i + 1) k (by omega) (by omega) (by omega) (by rw [g3]; exact h4) (by rw [g3]; exact h5)
        rw [lGet_eq name hn [fAV (trimF x)] (by simp) (by intro a ha; rw [List.mem_singleton.1 ha]; exact fit_fAV (hok x hxm))]
        simp only [kGet]
        rw [getL_one, show (trimF x).1 = x.1 from rfl, hp]
        simp only [Bool.not_false, cond_true]
        exact ih
      | true =>
        rw [hp, if_pos rfl] at h4 h5
        simp only [List.length_cons] at h4
        have hgk : G[k]? = some x := by
          have h0 : (G.drop k)[0]? = some x := by rw [h5]; rfl
          rwa [List.getElem?_drop, Nat.add_zero] at h0
        have hg' : G.drop (k + 1) = (t.filter fun x => anyN x.1 [AV.str name]) ++ Rr := by
          rw [← List.drop_drop, h5]; rfl
        have hgt : ((G.map te).take 64)[k]? = some (te x) := by
          rw [List.getElem?_take, if_pos (by omega), List.getElem?_map, hgk]; rfl
        have hkl := (List.getElem?_eq_some_iff.1 hgt).1
        have ih := picked14 name hn out A G Rr hA hok hraw H hH hHok hno κ hout hend f (i + 1) (k + 1) (by omega) (by omega) (by omega) (by rw [g3]; omega) (by rw [g3]; exact hg')
        rw [lGet_eq name hn [fAV (trimF x)] (by simp) (by intro a ha; rw [List.mem_singleton.1 ha]; exact fit_fAV (hok x hxm))]
        simp only [kGet]
        rw [getL_one, show (trimF x).1 = x.1 from rfl, hp]
        simp only [Bool.not_true, cond_false]
        rw [hl2, cond_dec' (by omega), chk_and, chk_dec (by omega), chk_dec (by omega), chk_and, chk_dec (by omega), chk_dec (by omega), fAV_get hgt, fAV_get hxa]
        rw [show ((fAV (te x)).fld 0).s = ((fAV (trimF x)).fld 0).s from rfl, show ((fAV (te x)).fld 1).s = ((fAV (trimF x)).fld 1).s from rfl, decide_eq_true rfl, decide_eq_true rfl]
        simp only [Bool.not_true, cond_false]
        rw [chk_and, chk_dec (by omega), chk_dec (by omega), chk_and, chk_dec (by omega), chk_dec (by omega), chk_and, chk_dec (by omega), chk_dec (by omega), chk_and, chk_dec (by omega), chk_dec (by omega)]
        rw [fAV2, fAV2]
        have hr := hraw x hxm
        rw [show (te x).2.2 = endL x.2.2 from rfl, show (trimF x).2.2 = x.2.2 from rfl, starts_eq (endL x.2.2) x.2.2 (by unfold endL; cases endC x.2.2 <;> simp <;> omega) (by unfold endL; cases endC x.2.2 <;> simp)]
        simp only [Bool.not_true, cond_false]
        rw [hw2]
        exact ih
theorem named_picked (nt : Bool) (ns : List AV) (l : List Fl) : named ((l.filter (incF nt ns)).map endF) = ((named l).filter (incF nt ns)).map endF := by
  unfold named
  rw [List.filter_map, List.filter_filter, List.filter_filter]
  congr 2
  funext x
  show ((endF x).1 != [] && incF nt ns x) = _
  rw [Bool.and_comm]; rfl
theorem inc_false (ns : List AV) {x : Fl} (h : x.1 ≠ []) : incF false ns x = anyN x.1 ns := by
  unfold incF outF
  rw [decide_eq_true h]
  cases anyN x.1 ns <;> rfl
theorem inc_true (ns : List AV) {x : Fl} (h : x.1 ≠ []) : incF true ns x = !anyN x.1 ns := by
  unfold incF outF
  rw [decide_eq_true h]
  cases anyN x.1 ns <;> rfl
theorem trimL_le (l : List UInt8) : (trimL l).length ≤ l.length := by
  have h1 := rtrim_len isBl (l.dropWhile isBl)
  have h2 := (List.dropWhile_suffix isBl (l := l)).length_le
  unfold trimL; omega
theorem letterPicked_text (a0 a1 : ByteArray) (f1 : a1.size ≤ NB) (κ : Bool → Option R) : postbaglaw5_LetterPicked_0 a0 a1 κ = κ true := by
  have hsz := size_bl a0
  have key : ∀ f, 100000 < f → postbaglaw5_LetterPicked_0.e postbaglaw5_known_0 letter_Pick_sbo letter_Pick_sbn letter_Fields_0 letter_Get_os postbaglaw5_starts_0 a0 a1 (pd14 κ f) (pd23 κ f) κ = κ true := by
    intro f hf
    unfold postbaglaw5_LetterPicked_0.e
    by_cases h0 : (a0.size : Int) > 40000
    · rw [cond_dec h0]
    · rw [cond_dec' h0, known_holds]
      simp only [Bool.not_true, cond_false]
      rw [← B_bl a0]
      generalize bl a0 = h at hsz
      have hfit : ∀ a ∈ [AV.str a1], Fit NB a := by intro a ha; rw [List.mem_singleton.1 ha]; exact .str _ f1
      rw [lPick_eq false [AV.str a1] (by simp) hfit h (by omega), lPick_eq true [AV.str a1] (by simp) hfit h (by omega), pick_eq true h (by omega)]
      have hlen := pick_lens [AV.str a1] (rowsG false [] (headL h))
      have hpi := head_picked false [AV.str a1] h
      have hpo := head_picked true [AV.str a1] h
      have hmap : (rowsG false [] (headL h)).map (fun r => endL r.1) = (headL h).map endL := by
        conv => rhs; rw [← rowsG_fst false [] (headL h)]
        rw [List.map_map]; rfl
      rw [hmap] at hlen
      have h1 := headL_len h
      have h2 := headL_total h
      have hel : ∀ ls : List (List UInt8), ((ls.map endL).flatten).length ≤ total ls + 2 * ls.length := by
        intro ls
        induction ls with
        | nil => simp
        | cons c r ih =>
          rw [List.map_cons, List.flatten_cons, List.length_append, List.length_cons]
          simp only [total]
          have : (endL c).length ≤ c.length + 2 := by unfold endL; cases endC c <;> simp
          omega
      have hel' := hel (headL h)
      generalize hIn : pkN false [AV.str a1] (rowsG false [] (headL h)) = In at hlen hpi
      generalize hOut : pkN true [AV.str a1] (rowsG false [] (headL h)) = Out at hlen hpo
      simp only [cond_true, size_B, List.length_append, List.length_cons, List.length_nil]
      rw [bne_neg (by rw [wrap_i64 (by omega) (by omega), wrap_i64 (by omega) (by omega)]; omega)]
      simp only [cond_false]
      have hb5 := headG_nm (headL h) none 200000 (by intro x e; cases e) (by omega)
      have hb6 := headG_raw (headL h) none 200000 (by intro x e; cases e) (by omega)
      have hb7 := headG_val (headL h) none 200000 (by intro x e; cases e) (by omega)
      rw [lFields_eq h (by omega), lFields_eq (In ++ [13, 10]) (by rw [List.length_append]; simp; omega)]
      have e1 : fieldsG h = ((named (headG none (headL h))).take 64).map trimF := by unfold fieldsG; rw [List.map_take]
      have e2 : fieldsG (In ++ [13, 10]) = (((named (headG none (headL h))).filter (fun x => anyN x.1 [AV.str a1])).map te).take 64 := by
        unfold fieldsG
        rw [hpi, named_picked, List.map_map]
        congr 2
        refine List.filter_congr fun x hx => ?_
        have := (List.mem_filter.1 hx).2
        exact inc_false _ (by simpa using this)
      have e3 : fieldsG (Out ++ [13, 10]) = (((named (headG none (headL h))).filter (fun x => !anyN x.1 [AV.str a1])).map te).take 64 := by
        unfold fieldsG
        rw [hpo, named_picked, List.map_map]
        congr 2
        refine List.filter_congr fun x hx => ?_
        have := (List.mem_filter.1 hx).2
        exact inc_true _ (by simpa using this)
      have okF : ∀ x ∈ named (headG none (headL h)), okFl (trimF x) ∧ okFl (te x) ∧ x.2.2.length ≤ 200000 := by
        intro x hx
        have hx' := (List.mem_filter.1 hx).1
        have b1 := hb5 x hx'
        have b2 := hb6 x hx'
        have b3 := hb7 x hx'
        have b4 := trimL_le x.2.1
        have b5 : (endL x.2.2).length ≤ x.2.2.length + 2 := by unfold endL; cases endC x.2.2 <;> simp
        refine ⟨⟨?_, ?_, ?_⟩, ⟨?_, ?_, ?_⟩, b2⟩
        · show x.1.length ≤ NB; unfold NB; omega
        · show (trimL x.2.1).length ≤ NB; unfold NB; omega
        · show x.2.2.length ≤ NB; unfold NB; omega
        · show x.1.length ≤ NB; unfold NB; omega
        · show (trimL x.2.1).length ≤ NB; unfold NB; omega
        · show (endL x.2.2).length ≤ NB; unfold NB; omega
      generalize named (headG none (headL h)) = F at e1 e2 e3 okF
      have hout : ∀ κ' : List AV → Option R, letter_Fields_0 (B (Out ++ [13, 10])) κ' = κ' (((((F.filter fun x => !anyN x.1 [AV.str a1]).map te).take 64)).map fAV) := by
        intro κ'
        rw [lFields_eq (Out ++ [13, 10]) (by rw [List.length_append]; simp; omega), e3]
      rw [e1, e2]
      have hAF : (F.take 64).length ≤ 64 := by rw [List.length_take]; omega
      have hsplit : F.filter (fun x => anyN x.1 [AV.str a1]) = (F.take 64).filter (fun x => anyN x.1 [AV.str a1]) ++ (F.drop 64).filter (fun x => anyN x.1 [AV.str a1]) := by
        rw [← List.filter_append, List.take_append_drop]
      refine picked14 a1 f1 (B (Out ++ [13, 10])) (F.take 64) (F.filter fun x => anyN x.1 [AV.str a1]) ((F.drop 64).filter fun x => anyN x.1 [AV.str a1]) hAF (fun x hx => (okF x (List.mem_of_mem_take hx)).1) (fun x hx => (okF x (List.mem_of_mem_take hx)).2.2)
        (((F.filter fun x => !anyN x.1 [AV.str a1]).map te).take 64) (by rw [List.length_take]; omega) ?_ ?_ κ hout ?_ f 0 0 (by omega) (by omega) (by omega) (by rw [List.drop_zero]; omega) (by rw [List.drop_zero, List.drop_zero]; exact hsplit)
      · intro y hy
        obtain ⟨x, hx, rfl⟩ := List.mem_map.1 (List.mem_of_mem_take hy)
        exact (okF x (List.mem_filter.1 hx).1).2.1
      · intro y hy
        obtain ⟨x, hx, rfl⟩ := List.mem_map.1 (List.mem_of_mem_take hy)
        have := (List.mem_filter.1 hx).2
        show anyN x.1 [AV.str a1] = false
        simpa using this
      · rcases Nat.lt_or_ge F.length 64 with h64 | h64
        · left
          rw [List.take_of_length_le (by omega : F.length ≤ 64)]
          have := List.length_filter_le (fun x : Fl => anyN x.1 [AV.str a1]) F
          rw [List.length_take, List.length_map]; omega
        · right
          rw [List.length_take]; omega
  exact key fuelK (by unfold fuelK; omega)
end Go.Proofs.Ab
