/- The plain functions of program and document say the same (conditions: those of each lemma). -/
import Derived.Test.YtnipklplcipaiaaDoorAbB
import Derived.IntWalk
import Derived.Test.YtnipklplcipaiaaDoorText
import Derived.Lib.IndexLaws
/- Plain lemmas on the words of the typed texts: checks, numbers, bytes. -/
namespace Go.Proofs.Ab
set_option linter.unusedVariables false
set_option maxRecDepth 4000
open Go
variable {R : Type}
/-! ## Checks -/
theorem chk_dec {p : Prop} [Decidable p] {k : Option R} (h : p) : chk (decide p) k = k := by rw [decide_eq_true h]; rfl
theorem chk_and {a b : Bool} {k : Option R} : chk (a && b) k = chk a (chk b k) := by cases a <;> rfl
theorem chk_tt {k : Option R} : chk true k = k := rfl
theorem chk_ff {k : Option R} : chk false k = none := rfl
theorem cond_dec {α : Type} {p : Prop} [Decidable p] {x y : α} (h : p) : (bif decide p then x else y) = x := by rw [decide_eq_true h]; rfl
theorem cond_dec' {α : Type} {p : Prop} [Decidable p] {x y : α} (h : ¬ p) : (bif decide p then x else y) = y := by rw [decide_eq_false h]; rfl
theorem beq_pos {x y : Int} (h : x = y) : (x == y) = true := by simp [h]
theorem beq_neg {x y : Int} (h : x ≠ y) : (x == y) = false := by simp [h]
theorem bne_pos {x y : Int} (h : x ≠ y) : (x != y) = true := by simp [h]
theorem bne_neg {x y : Int} (h : x = y) : (x != y) = false := by simp [h]
/-! ## Numbers -/
theorem wrap_i64 {x : Int} (h1 : -9223372036854775808 ≤ x) (h2 : x < 9223372036854775808) : IntKind.wrap .i64 x = x := IntWalk.i64_in x ⟨h1, by omega⟩
theorem wrap_u8 {x : Int} (h1 : 0 ≤ x) (h2 : x < 256) : IntKind.wrap .u8 x = x := by rw [IntKind.wrap_u8]; omega
/-! ## Bytes -/
/-- The bytes of a text. -/
def bl (s : ByteArray) : List UInt8 := s.data.toList
/-- A text of bytes. -/
def B (l : List UInt8) : ByteArray := ⟨l.toArray⟩
theorem bl_B (l : List UInt8) : bl (B l) = l := rfl
theorem B_bl (s : ByteArray) : B (bl s) = s := rfl
theorem size_bl (s : ByteArray) : s.size = (bl s).length := by unfold bl; rw [Array.length_toList]; rfl
theorem size_B (l : List UInt8) : (B l).size = l.length := by rw [size_bl, bl_B]
theorem bl_inj {a b : ByteArray} (h : bl a = bl b) : a = b := by rw [← B_bl a, h, B_bl]
theorem B_inj {a b : List UInt8} : B a = B b ↔ a = b := ⟨fun h => by rw [← bl_B a, h, bl_B], fun h => by rw [h]⟩
theorem bl_extract (s : ByteArray) (i j : Nat) : bl (s.extract i j) = ((bl s).take j).drop i := by
  unfold bl; rw [ByteArray.data_extract, Array.toList_extract]; simp [List.extract, List.drop_take]
theorem extract_B (l : List UInt8) (i j : Nat) : (B l).extract i j = B ((l.take j).drop i) := bl_inj (by rw [bl_extract, bl_B, bl_B])
theorem bl_append (a b : ByteArray) : bl (a ++ b) = bl a ++ bl b := by unfold bl; simp
theorem append_B (a b : List UInt8) : B a ++ B b = B (a ++ b) := bl_inj (by rw [bl_append]; rfl)
theorem empty_B : (⟨#[]⟩ : ByteArray) = B [] := rfl
theorem btA_get {s : ByteArray} {i : Nat} {c : UInt8} (h : (bl s)[i]? = some c) : btA s (i : Int) = c.toNat := by
  obtain ⟨hlt, hv⟩ := List.getElem?_eq_some_iff.1 h
  have hlt' : i < s.size := by rw [size_bl]; exact hlt
  unfold btA
  simp only [Int.toNat_natCast]
  rw [dif_pos hlt']
  congr 2
theorem drop_get {α : Type} {l : List α} {i : Nat} {c : α} {r : List α} (h : l.drop i = c :: r) : l[i]? = some c ∧ i < l.length ∧ l.drop (i + 1) = r := by
  have h0 : (l.drop i)[0]? = some c := by rw [h]; rfl
  rw [List.getElem?_drop, Nat.add_zero] at h0
  refine ⟨h0, (List.getElem?_eq_some_iff.1 h0).1, ?_⟩
  rw [← List.drop_drop, h]; rfl
theorem drop_nil {α : Type} {l : List α} {i : Nat} (h : l.drop i = []) : l.length ≤ i := by simpa using h
theorem drop_lt {α : Type} {l : List α} {i : Nat} (h : i < l.length) : ∃ c r, l.drop i = c :: r := by
  cases hd : l.drop i with
  | nil => have := drop_nil hd; omega
  | cons c r => exact ⟨c, r, rfl⟩
theorem take_succ_get {α : Type} {l : List α} {i : Nat} {c : α} (h : l[i]? = some c) : l.take (i + 1) = l.take i ++ [c] := by
  rw [List.take_add_one, h]; rfl
theorem byte_beq (c d : UInt8) : ((c.toNat : Int) == (d.toNat : Int)) = (c == d) := by
  rw [Bool.eq_iff_iff]; simp only [beq_iff_eq, Int.natCast_inj, ← UInt8.toNat_inj]
theorem byte_bne (c d : UInt8) : ((c.toNat : Int) != (d.toNat : Int)) = (c != d) := by
  unfold bne; rw [byte_beq]
theorem byte_lt (c : UInt8) : c.toNat < 256 := by have := c.toNat_lt; omega
theorem nat_i {i : Nat} : ((i : Int) + 1) = ((i + 1 : Nat) : Int) := rfl
theorem index_cons (b : UInt8) (l sub : List UInt8) : Lib.index (b :: l) sub = if sub.isPrefixOf (b :: l) then 0 else if Lib.index l sub == -1 then -1 else Lib.index l sub + 1 := rfl
theorem index_room : ∀ (s sub : List UInt8), Lib.index s sub ≠ -1 → Lib.index s sub + sub.length ≤ s.length
  | [], sub, h => by
    cases sub with
    | nil => simp [Lib.index]
    | cons a t => exact absurd rfl h
  | b :: l, sub, h => by
    rw [index_cons] at h ⊢
    split at h
    · rename_i hp
      rw [if_pos hp]
      have := (List.isPrefixOf_iff_prefix.1 hp).length_le
      omega
    · rename_i hp
      rw [if_neg hp]
      split at h
      · exact absurd rfl h
      · rename_i hi
        have hi' : Lib.index l sub ≠ -1 := by simpa using hi
        have := index_room l sub hi'
        rw [if_neg hi]
        simp only [List.length_cons]; omega
/-! ## Rows -/
theorem rdA_get {l : List AV} {i : Nat} {a : AV} (h : l[i]? = some a) : rdA l (i : Int) = a := by
  unfold rdA; rw [Int.toNat_natCast, List.getD_eq_getElem?_getD, h]; rfl
theorem rdA_drop {l : List AV} {i : Nat} {a : AV} {r : List AV} (h : l.drop i = a :: r) : rdA l (i : Int) = a := rdA_get (drop_get h).1
end Go.Proofs.Ab

/- Bytes, rows and small functions of Go's library; the law's check that the program works at all. -/
namespace Go.Proofs.Ab
set_option linter.unusedVariables false
set_option maxRecDepth 4000
open Go
variable {R : Type}
theorem btB {l : List UInt8} {i : Nat} {c : UInt8} (h : l[i]? = some c) : btA (B l) (i : Int) = c.toNat := btA_get (s := B l) h
theorem byteB (c : UInt8) (d : UInt8) (x : Int) (h : x = (d.toNat : Int)) : ((c.toNat : Int) == x) = (c == d) := by rw [h, byte_beq]
theorem byteN (c : UInt8) (d : UInt8) (x : Int) (h : x = (d.toNat : Int)) : ((c.toNat : Int) != x) = (c != d) := by rw [h, byte_bne]
/-- Lists of lines as rows. -/
def rowsS (l : List (List UInt8)) : List AV := l.map fun x => .str (B x)
theorem rowsS_len (l : List (List UInt8)) : (rowsS l).length = l.length := by unfold rowsS; simp
theorem rowsS_append (l m : List (List UInt8)) : rowsS (l ++ m) = rowsS l ++ rowsS m := by unfold rowsS; simp

theorem rdA_rows {l : List (List UInt8)} {i : Nat} {x : List UInt8} (h : l[i]? = some x) : (rdA (rowsS l) (i : Int)).s = B x := by
  rw [rdA_get (a := .str (B x)) (by unfold rowsS; rw [List.getElem?_map, h]; rfl)]; rfl
theorem rdA_last (xs : List AV) (a : AV) : rdA (xs ++ [a]) (xs.length : Int) = a := rdA_get (by simp)
theorem rdA_at (xs : List AV) (a : AV) (r : List AV) (n : Nat) (h : xs.length = n) : rdA (xs ++ a :: r) (n : Int) = a := rdA_get (by subst h; simp)
theorem setA_at (xs : List AV) (a b : AV) (r : List AV) (n : Nat) (h : xs.length = n) : setA (xs ++ a :: r) (n : Int) b = xs ++ b :: r := by
  subst h; unfold setA; simp
theorem prefix_take {l p : List UInt8} : p.isPrefixOf l = decide (l.take p.length = p) := by
  rw [Bool.eq_iff_iff, List.isPrefixOf_iff_prefix, List.prefix_iff_eq_take, decide_eq_true_eq, eq_comm]
theorem hasPrefix_eq (a : ByteArray) (p : List UInt8) (κ : Bool → Option R) : strings_HasPrefix_0 a (B p) κ = κ (p.isPrefixOf (bl a)) := by
  have hsz := size_bl a
  unfold strings_HasPrefix_0 strings_HasPrefix_0.e stringslite_HasPrefix_0 stringslite_HasPrefix_0.e
  simp only [size_B]
  by_cases h : p.length ≤ (bl a).length
  · simp (disch := omega) only [cond_dec, chk_and, chk_dec]
    congr 1
    rw [prefix_take]
    congr 1
    rw [← B_bl (a.extract _ _), bl_extract, B_inj]
    simp
  · simp (disch := omega) only [cond_dec']
    congr 1
    rw [prefix_take]
    symm; rw [decide_eq_false_iff_not]
    intro e; have := congrArg List.length e; simp at this; omega
theorem index_eq (l p : List UInt8) (hs : l.length ≤ 1000000) (κ : Int → Option R) : strings_Index_0 (B l) (B p) κ = κ (Lib.index l p) := by
  unfold strings_Index_0 strings_Index_0.e stringslite_Index_0
  have := size_B l
  simp (disch := omega) only [chk_dec]
  rfl
theorem hasPrefixB (l p : List UInt8) (κ : Bool → Option R) : strings_HasPrefix_0 (B l) (B p) κ = κ (p.isPrefixOf l) := hasPrefix_eq (B l) p κ
theorem takeWhile_get {p : UInt8 → Bool} {l : List UInt8} {k : Nat} (h : k < (l.takeWhile p).length) : ∃ c, l[k]? = some c ∧ p c = true := by
  obtain ⟨t, ht⟩ := List.takeWhile_prefix p (l := l)
  refine ⟨(l.takeWhile p)[k], ?_, List.all_eq_true.1 List.all_takeWhile _ (List.getElem_mem h)⟩
  have := List.getElem?_append_left (l₂ := t) h
  rw [ht] at this
  rw [this, List.getElem?_eq_getElem h]
theorem known_holds (κ : Bool → Option R) : postbaglaw5_known_0 κ = κ true := by kernel_rfl
theorem indexByte_at {l : List UInt8} {c : UInt8} {o : Nat} (h : l[o]? = some c) (hn : ∀ k, k < o → l[k]? ≠ some c) : Lib.indexByte l c = o := by
  have hge := Lib.indexByte_ge l c
  by_cases e : Lib.indexByte l c = -1
  · exact absurd h (Lib.indexByte_none e o)
  · obtain ⟨m, hm⟩ : ∃ m : Nat, Lib.indexByte l c = m := ⟨(Lib.indexByte l c).toNat, by omega⟩
    obtain ⟨h1, h2⟩ := Lib.indexByte_some hm
    rcases Nat.lt_trichotomy m o with hlt | heq | hgt
    · exact absurd h1 (hn m hlt)
    · rw [hm, heq]
    · exact absurd h (h2 o hgt)
theorem dw_nil {p : UInt8 → Bool} : ∀ {l : List UInt8}, l.dropWhile p = [] ↔ ∀ a ∈ l, p a = true
  | [] => by simp
  | c :: r => by
    rw [List.dropWhile_cons]
    cases h : p c with
    | true => simp [h, dw_nil (l := r)]
    | false => simp [h]
end Go.Proofs.Ab

/- Bytes as cells; strings.Builder. -/
namespace Go.Proofs.Ab
set_option linter.unusedVariables false
set_option maxRecDepth 4000
open Go
variable {R : Type}
theorem all_bytes {p : UInt8 → Bool} (h : (List.range 256).all (fun n => p (UInt8.ofNat n)) = true) (c : UInt8) : p c = true := by
  have := List.all_eq_true.1 h c.toNat (List.mem_range.2 (byte_lt c))
  rwa [UInt8.ofNat_toNat] at this
theorem sIB_eq (l : List UInt8) (c : UInt8) (κ : Int → Option R) : strings_IndexByte_0 (B l) (c.toNat : Int) κ = κ (Lib.indexByte l c) := by
  show κ (Lib.indexByte l ((c.toNat : Int).toNat.toUInt8)) = _
  rw [Int.toNat_natCast]
  show κ (Lib.indexByte l (UInt8.ofNat c.toNat)) = _
  rw [UInt8.ofNat_toNat]
/-- A text's bytes as cells. -/
def intsAV (t : List UInt8) : List AV := t.map fun b => AV.int (b.toNat : Int)
theorem ints_len (t : List UInt8) : (intsAV t).length = t.length := by unfold intsAV; simp
theorem ints_append (t u : List UInt8) : intsAV t ++ intsAV u = intsAV (t ++ u) := by unfold intsAV; simp
theorem ints_snoc (t : List UInt8) (c : UInt8) : intsAV t ++ [AV.int (c.toNat : Int)] = intsAV (t ++ [c]) := ints_append t [c]
theorem strAV_ints (t : List UInt8) : strAV (intsAV t) = B t := by
  unfold strAV intsAV B
  congr 2
  rw [List.map_map]
  conv => rhs; rw [← List.map_id t]
  apply List.map_congr_left
  intro b hb
  show UInt8.ofNat ((b.toNat : Int).toNat) = b
  rw [Int.toNat_natCast, UInt8.ofNat_toNat]
theorem ints_ok (t : List UInt8) : List.all (intsAV t) byteOk = true := by
  unfold intsAV
  rw [List.all_map, List.all_eq_true]
  intro b hb
  have := byte_lt b
  show byteOk (AV.int (b.toNat : Int)) = true
  unfold byteOk
  show (decide (0 ≤ (b.toNat : Int)) && decide ((b.toNat : Int) < 256)) = true
  rw [decide_eq_true (by omega), decide_eq_true (by omega)]; rfl
theorem bytesB' (t : List UInt8) : bytesAV (B t) = intsAV t := rfl
theorem wByte_eq (l : List AV) (a : Int) (κ : List AV → Option R) (h : l.length ≤ 1000000000) : strings_Builder_WriteByte_vxfei l a κ = κ (l ++ [AV.int a]) := by
  show chk (decide ((l.length + 1) * 1 ≤ 140737488355328)) (κ (l ++ [AV.int a])) = _
  rw [chk_dec (by omega)]
theorem bString_eq (t : List UInt8) (κ : ByteArray → Option R) : strings_Builder_String_vxfe (intsAV t) κ = κ (B t) := by
  unfold strings_Builder_String_vxfe strings_Builder_String_vxfe.e
  rw [chk_dec rfl, ints_ok, strAV_ints]; rfl
theorem bytesB (t : List UInt8) : bytesAV (B t) = intsAV t := rfl
theorem wString_eq (l : List AV) (s : ByteArray) (κ : Int → List AV → Option R) (h : l.length + s.size ≤ 1000000000) : strings_Builder_WriteString_vxfes l s κ = κ (s.size : Int) (l ++ bytesAV s) := by
  show chk (decide ((l.length + (bytesAV s).length) * 1 ≤ 140737488355328)) (κ (s.size : Int) (l ++ bytesAV s)) = _
  have : (bytesAV s).length = s.size := by unfold bytesAV; simp
  rw [chk_dec (by omega)]
end Go.Proofs.Ab

/- Where a text ends in another. -/
namespace Go.Proofs.Ab
set_option linter.unusedVariables false
set_option maxRecDepth 4000
open Go
variable {R : Type}
theorem hasSuffix_eq (s p : List UInt8) (hs : s.length ≤ 1000000) (hp : p.length ≤ 1000000) (κ : Bool → Option R) : stringslite_HasSuffix_0 (B s) (B p) κ = κ (decide (s.drop (s.length - p.length) = p)) := by
  unfold stringslite_HasSuffix_0 stringslite_HasSuffix_0.e
  simp only [size_B]
  by_cases h : p.length ≤ s.length
  · have hw : IntKind.wrap .i64 ((s.length : Int) - (p.length : Int)) = ((s.length - p.length : Nat) : Int) := by rw [wrap_i64 (by omega) (by omega)]; omega
    rw [cond_dec (by omega)]
    simp only [hw, extract_B, Int.toNat_natCast, List.take_length, B_inj]
    rw [chk_and, chk_dec (by omega), chk_and, chk_dec (by omega), chk_dec (by omega)]
  · rw [cond_dec' (by omega)]
    congr 1
    symm; rw [decide_eq_false_iff_not]
    intro e; have := congrArg List.length e
    rw [List.length_drop] at this; omega
theorem sHasSuffix (s p : List UInt8) (hs : s.length ≤ 1000000) (hp : p.length ≤ 1000000) (κ : Bool → Option R) : strings_HasSuffix_0 (B s) (B p) κ = κ (decide (s.drop (s.length - p.length) = p)) := hasSuffix_eq s p hs hp κ
end Go.Proofs.Ab

/- The pieces of addresses and ids: both programs cut alike. -/
namespace Go.Proofs.Ab
set_option linter.unusedVariables false
set_option maxRecDepth 4000
open Go
variable {R : Type}
def isSp (c : UInt8) : Bool := c == 32 || (c == 9 || (c == 13 || c == 10))
def isSg (c : UInt8) : Bool := [60, 62, 58, 59, 64, 44, 46].contains c
def isAt (c : UInt8) : Bool := !isSp c && (!isSg c && ![40, 41, 91, 93, 92, 34].contains c)
theorem lSpace_eq (c : UInt8) (κ : Bool → Option R) : letter_isSpace_0 (c.toNat : Int) κ = κ (isSp c) := by
  unfold letter_isSpace_0 letter_isSpace_0.e isSp
  rw [byteB c 32 32 rfl, byteB c 9 9 rfl, byteB c 13 13 rfl, byteB c 10 10 rfl]
  cases (c == 32) <;> cases (c == 9) <;> cases (c == 13) <;> rfl
theorem sg_index (c : UInt8) : decide (Lib.indexByte [60, 62, 58, 59, 64, 44, 46] c ≥ 0) = isSg c := by
  have := all_bytes (p := fun c => decide (Lib.indexByte [60, 62, 58, 59, 64, 44, 46] c ≥ 0) == isSg c) (by kernel_rfl) c
  simpa using this
theorem at_index (c : UInt8) : decide (Lib.indexByte [40, 41, 91, 93, 92, 34] c < 0) = ![40, 41, 91, 93, 92, 34].contains c := by
  have := all_bytes (p := fun c => decide (Lib.indexByte [40, 41, 91, 93, 92, 34] c < 0) == ![40, 41, 91, 93, 92, 34].contains c) (by kernel_rfl) c
  simpa using this
theorem lSign_eq (c : UInt8) (κ : Bool → Option R) : letter_isSign_0 (c.toNat : Int) κ = κ (isSg c) := by
  unfold letter_isSign_0 letter_isSign_0.e
  rw [show (⟨#[60, 62, 58, 59, 64, 44, 46]⟩ : ByteArray) = B [60, 62, 58, 59, 64, 44, 46] from rfl, sIB_eq, sg_index]
theorem lAtom_eq (c : UInt8) (κ : Bool → Option R) : letter_isAtom_0 (c.toNat : Int) κ = κ (isAt c) := by
  unfold letter_isAtom_0 letter_isAtom_0.e
  rw [show (⟨#[40, 41, 91, 93, 92, 34]⟩ : ByteArray) = B [40, 41, 91, 93, 92, 34] from rfl]
  simp only [lSpace_eq, lSign_eq, sIB_eq, at_index]
  unfold isAt
  cases isSp c <;> cases isSg c <;> rfl
/-! ## Comments -/
/-- How long a comment is. -/
def cm : Nat → List UInt8 → Nat
  | _, [] => 0
  | d, 92 :: r => (match r with | [] => 1 | _ :: r => 2 + cm d r)
  | d, c :: r => if c = 40 then 1 + cm (d + 1) r else if c = 41 then (if d = 1 then 1 else 1 + cm (d - 1) r) else 1 + cm d r
theorem cm_le : ∀ (d : Nat) (l : List UInt8), cm d l ≤ l.length := by
  intro d l
  fun_induction cm d l with
  | case1 => simp
  | case2 => simp
  | case3 => simp; omega
  | case4 => simp; omega
  | case5 => simp
  | case6 => simp; omega
  | case7 => simp; omega
theorem min2_le {a b : Int} (h : a ≤ b) : min2 a b = a := by unfold min2; rw [cond_dec' (by omega)]
theorem min2_ge {a b : Int} (h : b ≤ a) : min2 a b = b := by
  unfold min2
  by_cases e : b < a
  · rw [cond_dec e]
  · rw [cond_dec' e]; omega
theorem cm_bs0 (d : Nat) : cm d [92] = 1 := by rw [cm]
theorem cm_bs (d : Nat) (c : UInt8) (r : List UInt8) : cm d (92 :: c :: r) = 2 + cm d r := by rw [cm]
theorem cm_else (d : Nat) (c : UInt8) (r : List UInt8) (h : c ≠ 92) : cm d (c :: r) = if c = 40 then 1 + cm (d + 1) r else if c = 41 then (if d = 1 then 1 else 1 + cm (d - 1) r) else 1 + cm d r := by rw [cm]; exact h
theorem lComment_loop (s : List UInt8) (hs : s.length ≤ 1000000) (κ : ByteArray → Int → Option R) : ∀ (f i d : Nat), i ≤ s.length + 1 → s.length + 1 < i + f → (d = 0 → s[i]? = some 40) → d ≤ i →
    letter_cursor_comment_vsie.L1 κ f (d : Int) (B s) (i : Int) = κ (B s) ((min (i + cm d (s.drop i)) s.length : Nat) : Int)
  | 0, i, d, h1, h2, h3, h4 => by omega
  | f + 1, i, d, h1, h2, h3, h4 => by
    rw [letter_cursor_comment_vsie.L1, letter_cursor_comment_vsie.t1]
    simp only [size_B]
    have hw1 : IntKind.wrap .i64 ((i : Int) + 1) = ((i + 1 : Nat) : Int) := wrap_i64 (by omega) (by omega)
    have hw2 : IntKind.wrap .i64 (((i + 1 : Nat) : Int) + 1) = ((i + 2 : Nat) : Int) := wrap_i64 (by omega) (by omega)
    have hwd : IntKind.wrap .i64 ((d : Int) + 1) = ((d + 1 : Nat) : Int) := wrap_i64 (by omega) (by omega)
    cases hd : s.drop i with
    | nil =>
      have := drop_nil hd
      simp (disch := omega) only [cond_dec', min2_ge]
      rw [cm]; congr 2; omega
    | cons b r =>
      obtain ⟨g1, g2, g3⟩ := drop_get hd
      simp (disch := omega) only [cond_dec, chk_and, chk_dec, btB g1]
      rw [byteB b 40 40 rfl, byteB b 41 41 rfl, byteB b 92 92 rfl]
      simp only [hw1, hw2, hwd]
      have hr : r.length = s.length - (i + 1) := by rw [← g3, List.length_drop]
      by_cases e1 : b = 40
      · subst e1
        rw [cm_else _ _ _ (by decide), if_pos rfl]
        simp only [BEq.rfl, cond_true]
        rw [beq_neg (by omega)]
        simp only [cond_false]
        rw [lComment_loop s hs κ f (i + 1) (d + 1) (by omega) (by omega) (by omega) (by omega), g3]
        congr 2; omega
      · have hd0 : d ≠ 0 := by intro e; have := h3 e; rw [g1] at this; cases this; exact e1 rfl
        rw [show (b == 40) = false by simpa using e1]
        simp only [cond_false]
        by_cases e2 : b = 41
        · subst e2
          rw [cm_else _ _ _ (by decide), if_neg (by decide), if_pos rfl]
          have hwm : IntKind.wrap .i64 ((d : Int) - 1) = ((d - 1 : Nat) : Int) := by rw [wrap_i64 (by omega) (by omega)]; omega
          simp only [BEq.rfl, cond_true, hwm]
          by_cases e3 : d = 1
          · subst e3
            rw [if_pos rfl, beq_pos (by rfl)]
            simp (disch := omega) only [cond_true, min2_le]
            congr 2; omega
          · rw [if_neg e3, beq_neg (by omega)]
            simp only [cond_false]
            rw [lComment_loop s hs κ f (i + 1) (d - 1) (by omega) (by omega) (by omega) (by omega), g3]
            congr 2; omega
        · rw [show (b == 41) = false by simpa using e2]
          simp only [cond_false]
          have hdz : ((d : Int) == 0) = false := beq_neg (by omega)
          rw [hdz]
          by_cases e4 : b = 92
          · subst e4
            simp only [BEq.rfl, cond_true, cond_false]
            rw [lComment_loop s hs κ f (i + 2) d (by omega) (by omega) (by omega) (by omega)]
            cases r with
            | nil =>
              simp at hr
              rw [cm_bs0, List.drop_eq_nil_of_le (by omega)]
              rw [cm]; congr 2; omega
            | cons c r' =>
              obtain ⟨k1, k2, k3⟩ := drop_get g3
              rw [cm_bs, k3]; congr 2; omega
          · rw [show (b == 92) = false by simpa using e4]
            simp only [cond_false]
            rw [lComment_loop s hs κ f (i + 1) d (by omega) (by omega) (by omega) (by omega), g3, cm_else _ _ _ e4, if_neg e1, if_neg e2]
            congr 2; omega
end Go.Proofs.Ab

/- Small letters. -/
namespace Go.Proofs.Ab
set_option linter.unusedVariables false
set_option maxRecDepth 4000
open Go
variable {R : Type}
def lowC (c : UInt8) : UInt8 := if 65 ≤ c.toNat ∧ c.toNat ≤ 90 then UInt8.ofNat (c.toNat + 32) else c
def lowL (l : List UInt8) : List UInt8 := l.map lowC
theorem lowC_up {c : UInt8} (h1 : 65 ≤ c.toNat) (h2 : c.toNat ≤ 90) : ((lowC c).toNat : Int) = (c.toNat : Int) + 32 := by
  unfold lowC
  rw [if_pos ⟨h1, h2⟩]
  simp; omega
theorem lowC_no {c : UInt8} (h : ¬ (65 ≤ c.toNat ∧ c.toNat ≤ 90)) : lowC c = c := by unfold lowC; rw [if_neg h]
theorem lowL_len (l : List UInt8) : (lowL l).length = l.length := by unfold lowL; simp
theorem ints_get {l : List UInt8} {i : Nat} {c : UInt8} (h : l[i]? = some c) : (rdA (intsAV l) (i : Int)).i = (c.toNat : Int) := by
  rw [rdA_get (a := .int (c.toNat : Int)) (by unfold intsAV; rw [List.getElem?_map, h]; rfl)]; rfl
theorem ints_set (a : List UInt8) (c d : UInt8) (r : List UInt8) (n : Nat) (h : a.length = n) : setA (intsAV (a ++ c :: r)) (n : Int) (.int (d.toNat : Int)) = intsAV (a ++ d :: r) := by
  unfold intsAV
  rw [List.map_append, List.map_cons, setA_at _ _ _ _ n (by rw [List.length_map]; exact h)]
  simp
theorem oLower_loop (l : List UInt8) (hs : l.length ≤ 1000000) (κ : ByteArray → Option R) : ∀ (f i : Nat), i ≤ l.length → l.length < i + f →
    octet_Lower_0.L3 κ f (l.length : Int) (i : Int) (intsAV (lowL (l.take i) ++ l.drop i)) = κ (B (lowL l))
  | 0, i, h1, h2 => by omega
  | f + 1, i, h1, h2 => by
    rw [octet_Lower_0.L3, octet_Lower_0.t3]
    have hla : (lowL (l.take i)).length = i := by rw [lowL_len, List.length_take]; omega
    have hll : (intsAV (lowL (l.take i) ++ l.drop i)).length = l.length := by rw [ints_len, List.length_append, hla, List.length_drop]; omega
    simp only [hll, strAV_ints]
    cases hd : l.drop i with
    | nil =>
      have := drop_nil hd
      rw [cond_dec' (by omega), List.append_nil, List.take_of_length_le (by omega)]
    | cons c r =>
      obtain ⟨g1, g2, g3⟩ := drop_get hd
      have hw1 : IntKind.wrap .i64 ((i : Int) + 1) = ((i + 1 : Nat) : Int) := wrap_i64 (by omega) (by omega)
      have hg : (rdA (intsAV (lowL (l.take i) ++ c :: r)) (i : Int)).i = (c.toNat : Int) := ints_get (by rw [List.getElem?_append_right (by omega), hla]; simp)
      simp only [hg, hw1]
      simp (disch := omega) only [cond_dec, chk_and, chk_dec]
      have hn := oLower_loop l hs κ f (i + 1) (by omega) (by omega)
      rw [g3] at hn
      have ht : lowL (l.take (i + 1)) ++ r = lowL (l.take i) ++ lowC c :: r := by rw [take_succ_get g1]; unfold lowL; simp
      rw [ht] at hn
      by_cases h1' : 65 ≤ c.toNat
      · by_cases h2' : c.toNat ≤ 90
        · have hu := lowC_up h1' h2'
          have hlt := byte_lt c
          have hw : IntKind.wrap .u8 ((IntKind.wrap .u8 ((c.toNat : Int) + 97)) - 65) = ((lowC c).toNat : Int) := by
            rw [wrap_u8 (x := (c.toNat : Int) + 97) (by omega) (by omega), wrap_u8 (by omega) (by omega), hu]; omega
          rw [cond_dec (by omega), cond_dec (by omega), hw, ints_set _ _ _ _ _ hla]
          exact hn
        · rw [lowC_no (by omega)] at hn
          rw [cond_dec (by omega), cond_dec' (by omega)]
          exact hn
      · rw [lowC_no (by omega)] at hn
        rw [cond_dec' (by omega)]
        exact hn
theorem oLower_eq (l : List UInt8) (hs : l.length ≤ 1000000) (κ : ByteArray → Option R) : octet_Lower_0 (B l) κ = κ (B (lowL l)) := by
  have key : ∀ f, l.length < f → octet_Lower_0.e (B l) (octet_Lower_0.L3 κ f) κ = κ (B (lowL l)) := by
    intro f hf
    unfold octet_Lower_0.e
    rw [size_B, chk_dec (by omega), bytesB', ints_len]
    exact oLower_loop l hs κ f 0 (by omega) (by omega)
  exact key fuelK (by unfold fuelK; omega)
end Go.Proofs.Ab

/- Lines, headers and fields: what both programs read. -/
namespace Go.Proofs.Ab
set_option linter.unusedVariables false
set_option maxRecDepth 4000
open Go
variable {R : Type}
/-- A blank. -/
def isBl (c : UInt8) : Bool := c == 32 || c == 9
/-- A byte of a field's name. -/
def isNm (c : UInt8) : Bool := decide (32 < c.toNat) && (decide (c.toNat < 127) && c != 58)
def nmL (c : List UInt8) : List UInt8 := c.takeWhile isNm
def atL (c : List UInt8) : Nat := (nmL c).length + ((c.drop (nmL c).length).takeWhile isBl).length
/-- Does a line begin a field? -/
def isF (c : List UInt8) : Bool := decide (nmL c ≠ []) && (c[atL c]? == some 58)
theorem isBlank_eq (c : UInt8) (κ : Bool → Option R) : letter_isBlank_0 (c.toNat : Int) κ = κ (isBl c) := by
  unfold letter_isBlank_0 letter_isBlank_0.e
  rw [byteB c 32 32 rfl, byteB c 9 9 rfl]
  unfold isBl
  cases (c == 32) <;> rfl
theorem begins_end (c n : List UInt8) (i : Nat) (κ : ByteArray → Bool → Option R) :
    (bif (!decide (B n = (⟨#[]⟩ : ByteArray))) then (bif (decide ((i : Int) < ((B c).size : Int))) then (chk ((decide ((0 : Int) ≤ (i : Int))) && (decide ((i : Int) < ((B c).size : Int)))) (κ (B n) ((btA (B c) (i : Int)) == 58))) else (κ (B n) false)) else (κ (B n) false))
      = κ (B n) (decide (n ≠ []) && (c[i]? == some 58)) := by
  simp only [size_B, empty_B, B_inj]
  by_cases hn : n = []
  · subst hn; rfl
  · simp only [hn, decide_false, Bool.not_false, cond_true, ne_eq, not_false_eq_true, decide_true, Bool.true_and]
    by_cases hi : i < c.length
    · simp (disch := omega) only [cond_dec, chk_and, chk_dec]
      rw [btB (List.getElem?_eq_getElem hi), byteB _ 58 58 rfl, List.getElem?_eq_getElem hi]
      rfl
    · simp (disch := omega) only [cond_dec']
      rw [List.getElem?_eq_none (by omega)]; rfl
theorem begins_L5 (c n : List UInt8) (hs : c.length ≤ 1000000) (κ : ByteArray → Bool → Option R) : ∀ (f i : Nat), i ≤ c.length → c.length < i + f →
    letter_begins_0.L5 letter_isBlank_0 κ f (B c) (i : Int) (B n) = κ (B n) (decide (n ≠ []) && (c[i + ((c.drop i).takeWhile isBl).length]? == some 58))
  | 0, i, h1, h2 => by omega
  | f + 1, i, h1, h2 => by
    rw [letter_begins_0.L5, letter_begins_0.t5]
    simp only [begins_end]
    simp only [size_B]
    cases hd : c.drop i with
    | nil =>
      have := drop_nil hd
      simp (disch := omega) only [cond_dec']
      rfl
    | cons b r =>
      obtain ⟨g1, g2, g3⟩ := drop_get hd
      simp (disch := omega) only [cond_dec, chk_and, chk_dec, btB g1, isBlank_eq, wrap_i64]
      rw [List.takeWhile_cons]
      cases hb : isBl b with
      | false => rfl
      | true =>
        simp only [cond_true, nat_i, if_true, List.length_cons]
        rw [begins_L5 c n hs κ f (i + 1) (by omega) (by omega), g3]
        congr 4; omega
theorem isNm_eq (c : UInt8) : isNm c = (decide ((c.toNat : Int) > 32) && (decide ((c.toNat : Int) < 127) && ((c.toNat : Int) != 58))) := by
  rw [byteN c 58 58 rfl]; unfold isNm
  congr 1
  · rw [decide_eq_decide]; omega
  · congr 1
    rw [decide_eq_decide]; omega
theorem begins_L2 (c : List UInt8) (hs : c.length ≤ 1000000) (κ : ByteArray → Bool → Option R) : ∀ (f i : Nat), i ≤ c.length → 2 * c.length + 2 < i + f → c.take i = (c.take i).takeWhile isNm →
    letter_begins_0.L2 letter_isBlank_0 κ f (B c) (i : Int) = κ (B (nmL c)) (isF c)
  | 0, i, h1, h2, h3 => by omega
  | f + 1, i, h1, h2, h3 => by
    have fin : nmL c = c.take i → letter_begins_0.L5 letter_isBlank_0 κ f (B c) (i : Int) ((B c).extract ((0 : Int)).toNat ((i : Int)).toNat) = κ (B (nmL c)) (isF c) := by
      intro hn
      rw [extract_B]
      simp only [Int.toNat_zero, List.drop_zero, Int.toNat_natCast]
      rw [begins_L5 c _ hs κ f i h1 (by omega), hn]
      unfold isF atL
      have hl : (c.take i).length = i := by simp; omega
      rw [hn, hl]
    rw [letter_begins_0.L2, letter_begins_0.t2]
    have hsplit : nmL c = c.take i ++ (c.drop i).takeWhile isNm := by
      unfold nmL
      conv => lhs; rw [← List.take_append_drop i c]
      rw [List.takeWhile_append_of_pos]
      rw [h3]; intro a ha; exact List.all_eq_true.1 List.all_takeWhile a ha
    cases hd : c.drop i with
    | nil =>
      have := drop_nil hd
      simp only [size_B]
      simp (disch := omega) only [cond_dec', chk_and, chk_dec]
      exact fin (by rw [hsplit, hd]; simp)
    | cons b r =>
      obtain ⟨g1, g2, g3⟩ := drop_get hd
      simp only [size_B]
      simp (disch := omega) only [cond_dec, chk_and, chk_dec, btB g1, wrap_i64]
      have hb : isNm b = false → nmL c = c.take i := by
        intro hb; rw [hsplit, hd, List.takeWhile_cons, hb]; simp
      rw [isNm_eq] at hb
      cases e1 : decide ((b.toNat : Int) > 32) with
      | false => exact fin (hb (by rw [e1]; rfl))
      | true =>
        cases e2 : decide ((b.toNat : Int) < 127) with
        | false => exact fin (hb (by rw [e1, e2]; rfl))
        | true =>
          cases e3 : ((b.toNat : Int) != 58) with
          | false => exact fin (hb (by rw [e1, e2, e3]; rfl))
          | true =>
            have hb' : isNm b = true := by rw [isNm_eq, e1, e2, e3]; rfl
            exact begins_L2 c hs κ f (i + 1) (by omega) (by omega) (by
              rw [take_succ_get g1, List.takeWhile_append_of_pos (by rw [h3]; intro a ha; exact List.all_eq_true.1 List.all_takeWhile a ha)]
              simp [hb'])
theorem begins_entry (c : List UInt8) (hs : c.length ≤ 1000000) (κ : ByteArray → Bool → Option R) (f : Nat) (hf : 2 * c.length + 2 < f) :
    letter_begins_0.e letter_isBlank_0 (B c) (letter_begins_0.L2 letter_isBlank_0 κ f) (letter_begins_0.L5 letter_isBlank_0 κ f) κ = κ (B (nmL c)) (isF c) :=
  begins_L2 c hs κ f 0 (by omega) (by omega) (by simp)
theorem begins_eq (c : List UInt8) (hs : c.length ≤ 1000000) (κ : ByteArray → Bool → Option R) : letter_begins_0 (B c) κ = κ (B (nmL c)) (isF c) :=
  begins_entry c hs κ fuelK (by unfold fuelK; omega)
end Go.Proofs.Ab

/- The Q of encoded words; iso-8859-1. -/
namespace Go.Proofs.Ab
set_option linter.unusedVariables false
set_option maxRecDepth 4000
open Go
variable {R : Type}
/-- What a digit is worth; -1: it is none. -/
def hexV (c : UInt8) : Int := if 48 ≤ c.toNat ∧ c.toNat ≤ 57 then (c.toNat : Int) - 48 else if 65 ≤ c.toNat ∧ c.toNat ≤ 70 then (c.toNat : Int) - 55 else if 97 ≤ c.toNat ∧ c.toNat ≤ 102 then (c.toNat : Int) - 87 else -1
def encL (c : UInt8) : List UInt8 := bl (Utf8.encode (c.toNat : Int))
theorem enc_all (c : UInt8) : 0 < (encL c).length ∧ (encL c).length ≤ 4 ∧ Lib.indexByte [48, 49, 50, 51, 52, 53, 54, 55, 56, 57, 97, 98, 99, 100, 101, 102] ((lowL (encL c)).headD 0) = hexV c := by
  have := all_bytes (p := fun c => decide (0 < (encL c).length) && (decide ((encL c).length ≤ 4) && decide (Lib.indexByte [48, 49, 50, 51, 52, 53, 54, 55, 56, 57, 97, 98, 99, 100, 101, 102] ((lowL (encL c)).headD 0) = hexV c))) (by kernel_rfl) c
  simpa using this
theorem lHex_eq (c : UInt8) (κ : Int → Option R) : letter_hex_0 (c.toNat : Int) κ = κ (hexV c) := by
  obtain ⟨h1, h2, h3⟩ := enc_all c
  unfold letter_hex_0 letter_hex_0.e
  rw [← B_bl (Utf8.encode (c.toNat : Int)), show bl (Utf8.encode (c.toNat : Int)) = encL c from rfl, oLower_eq _ (by omega)]
  have hl := lowL_len (encL c)
  rw [size_B, chk_dec (by omega)]
  cases he : lowL (encL c) with
  | nil => rw [he] at hl; simp at hl; omega
  | cons d r =>
    rw [he] at h3
    have hb : btA (B (d :: r)) 0 = d.toNat := btB (i := 0) rfl
    rw [hb, show (⟨#[48, 49, 50, 51, 52, 53, 54, 55, 56, 57, 97, 98, 99, 100, 101, 102]⟩ : ByteArray) = B [48, 49, 50, 51, 52, 53, 54, 55, 56, 57, 97, 98, 99, 100, 101, 102] from rfl, sIB_eq]
    rw [List.headD_cons] at h3
    rw [h3]
theorem hexV_le (c : UInt8) : -1 ≤ hexV c ∧ hexV c ≤ 15 := by
  have hlt := byte_lt c
  unfold hexV
  split
  · omega
  · split
    · omega
    · split <;> omega
/-- The text of an encoded word with Q. -/
def unq : List UInt8 → List UInt8
  | [] => []
  | 61 :: a :: b :: r => if 0 ≤ hexV a ∧ 0 ≤ hexV b then UInt8.ofNat (16 * (hexV a).toNat + (hexV b).toNat) :: unq r else 61 :: unq (a :: b :: r)
  | c :: r => (if c = 95 then 32 else c) :: unq r
theorem unq_nil : unq [] = [] := by rw [unq]
theorem unq_hex (a b : UInt8) (r : List UInt8) (h : 0 ≤ hexV a ∧ 0 ≤ hexV b) : unq (61 :: a :: b :: r) = UInt8.ofNat (16 * (hexV a).toNat + (hexV b).toNat) :: unq r := by rw [unq, if_pos h]
theorem unq_else (c : UInt8) (r : List UInt8) (h2 : ∀ a b r', c = 61 → r = a :: b :: r' → ¬ (0 ≤ hexV a ∧ 0 ≤ hexV b)) : unq (c :: r) = (if c = 95 then 32 else c) :: unq r := by
  by_cases h : ∃ a b r', c = 61 ∧ r = a :: b :: r'
  · obtain ⟨a, b, r', rfl, rfl⟩ := h
    rw [unq, if_neg (h2 a b r' rfl rfl), if_neg (by decide)]
  · rw [unq]
    intro a b r' hc hr
    exact h ⟨a, b, r', hc, hr⟩
theorem unq_us (r : List UInt8) : unq (95 :: r) = 32 :: unq r := by rw [unq_else _ _ (by intro a b r' h; cases h), if_pos rfl]
theorem unq_len : ∀ l : List UInt8, (unq l).length ≤ l.length := by
  intro l
  fun_induction unq l with
  | case1 => simp
  | case2 a b r h ih => simp; omega
  | case3 a b r h ih => simp at ih ⊢; omega
  | case4 c r h ih => simp; omega
theorem hex_byte (a b : UInt8) (h : 0 ≤ hexV a ∧ 0 ≤ hexV b) : IntKind.wrap .u8 (IntKind.wrap .i64 ((IntKind.wrap .i64 (16 * hexV a)) + hexV b)) = ((UInt8.ofNat (16 * (hexV a).toNat + (hexV b).toNat)).toNat : Int) := by
  have h1 := hexV_le a
  have h2 := hexV_le b
  rw [wrap_i64 (x := 16 * hexV a) (by omega) (by omega), wrap_i64 (by omega) (by omega), wrap_u8 (by omega) (by omega)]
  simp; omega
theorem lUnq_loop (s : List UInt8) (hs : s.length ≤ 1000000) (κ : ByteArray → Option R) : ∀ (f i : Nat) (acc : List UInt8), i ≤ s.length → s.length < i + f → acc.length ≤ i →
    letter_unquoted_0.L3 strings_Builder_WriteByte_vxfei letter_hex_0 strings_Builder_String_vxfe κ f (B s) (i : Int) (intsAV acc) = κ (B (acc ++ unq (s.drop i)))
  | 0, i, acc, h1, h2, h3 => by omega
  | f + 1, i, acc, h1, h2, h3 => by
    rw [letter_unquoted_0.L3, letter_unquoted_0.t3]
    simp only [size_B, bString_eq]
    have hal := ints_len acc
    have hw1 : IntKind.wrap .i64 ((i : Int) + 1) = ((i + 1 : Nat) : Int) := wrap_i64 (by omega) (by omega)
    have hw2 : IntKind.wrap .i64 ((i : Int) + 2) = ((i + 2 : Nat) : Int) := wrap_i64 (by omega) (by omega)
    have hw3 : IntKind.wrap .i64 (((i + 2 : Nat) : Int) + 1) = ((i + 3 : Nat) : Int) := wrap_i64 (by omega) (by omega)
    simp only [hw1, hw2, hw3]
    cases hd : s.drop i with
    | nil =>
      have := drop_nil hd
      rw [cond_dec' (by omega), unq_nil, List.append_nil]
    | cons c r =>
      obtain ⟨g1, g2, g3⟩ := drop_get hd
      have hr : r.length = s.length - (i + 1) := by rw [← g3, List.length_drop]
      simp (disch := omega) only [cond_dec, chk_and, chk_dec, btB g1, wByte_eq]
      rw [byteB c 95 95 rfl, byteB c 61 61 rfl, show AV.int 32 = AV.int ((32 : UInt8).toNat : Int) from rfl]
      have plain : (∀ a b r', c = 61 → r = a :: b :: r' → ¬ (0 ≤ hexV a ∧ 0 ≤ hexV b)) → c ≠ 95 → letter_unquoted_0.L3 strings_Builder_WriteByte_vxfei letter_hex_0 strings_Builder_String_vxfe κ f (B s) ((i + 1 : Nat) : Int) (intsAV acc ++ [AV.int (c.toNat : Int)]) = κ (B (acc ++ unq (c :: r))) := by
        intro hn h95
        rw [ints_snoc, lUnq_loop s hs κ f (i + 1) (acc ++ [c]) (by omega) (by omega) (by simp; omega), g3, unq_else c r hn, if_neg h95]
        simp
      by_cases e1 : c = 95
      · subst e1
        simp only [BEq.rfl, cond_true]
        rw [ints_snoc, lUnq_loop s hs κ f (i + 1) (acc ++ [32]) (by omega) (by omega) (by simp; omega), g3, unq_us]
        simp
      · rw [show (c == 95) = false by simpa using e1]
        simp only [cond_false]
        by_cases e2 : c = 61
        · subst e2
          simp only [BEq.rfl, cond_true]
          by_cases hl : i + 2 < s.length
          · obtain ⟨a, t, ha⟩ := drop_lt (l := s) (i := i + 1) (by omega)
            obtain ⟨k1, k2, k3⟩ := drop_get ha
            obtain ⟨b, t2, hb⟩ := drop_lt (l := s) (i := i + 1 + 1) (by omega)
            obtain ⟨m1, m2, m3⟩ := drop_get hb
            have hr2 : r = a :: b :: t2 := by rw [← g3, ha, ← k3, hb]
            have m1' : s[i + 2]? = some b := m1
            rw [cond_dec (by omega)]
            simp (disch := omega) only [chk_dec, btB k1, btB m1', lHex_eq]
            by_cases ea : 0 ≤ hexV a
            · by_cases eb : 0 ≤ hexV b
              · rw [cond_dec (by omega), cond_dec (by omega), hex_byte a b ⟨ea, eb⟩, ints_snoc, lUnq_loop s hs κ f (i + 3) _ (by omega) (by omega) (by simp; omega), hr2, unq_hex a b t2 ⟨ea, eb⟩]
                rw [show s.drop (i + 3) = t2 from m3]
                simp
              · rw [cond_dec (by omega), cond_dec' (by omega)]
                exact plain (by intro a' b' r' _ h; rw [hr2] at h; cases h; exact fun h => eb h.2) (by decide)
            · rw [cond_dec' (by omega)]
              exact plain (by intro a' b' r' _ h; rw [hr2] at h; cases h; exact fun h => ea h.1) (by decide)
          · rw [cond_dec' (by omega)]
            exact plain (by intro a' b' r' _ h; rw [h] at hr; simp at hr; omega) (by decide)
        · rw [show (c == 61) = false by simpa using e2]
          simp only [cond_false]
          exact plain (fun a b r' h => absurd h e2) e1
end Go.Proofs.Ab

/- The Q of encoded words, by the document; iso-8859-1. -/
namespace Go.Proofs.Ab
set_option linter.unusedVariables false
set_option maxRecDepth 4000
open Go
variable {R : Type}
theorem lUnq_eq (s : List UInt8) (hs : s.length ≤ 1000000) (κ : ByteArray → Option R) : letter_unquoted_0 (B s) κ = κ (B (unq s)) := by
  have key : ∀ f, s.length < f → letter_unquoted_0.e strings_Builder_WriteByte_vxfei letter_hex_0 strings_Builder_String_vxfe (B s) (letter_unquoted_0.L3 strings_Builder_WriteByte_vxfei letter_hex_0 strings_Builder_String_vxfe κ f) κ = κ (B (unq s)) :=
    fun f hf => lUnq_loop s hs κ f 0 [] (by omega) (by omega) (by simp)
  exact key fuelK (by unfold fuelK; omega)
/-! ## iso-8859-1 -/
def hi6 (c : UInt8) : UInt8 := UInt8.ofNat (192 + c.toNat / 64)
def lo6 (c : UInt8) : UInt8 := UInt8.ofNat (128 + c.toNat % 64)
/-- The characters with these numbers, as UTF-8. -/
def wideL : List UInt8 → List UInt8
  | [] => []
  | c :: r => if c.toNat < 128 then c :: wideL r else hi6 c :: lo6 c :: wideL r
theorem wideL_len : ∀ l : List UInt8, (wideL l).length ≤ 2 * l.length
  | [] => by simp [wideL]
  | c :: r => by rw [wideL]; have := wideL_len r; split <;> simp <;> omega
theorem hi6_l (c : UInt8) (h : 128 ≤ c.toNat) : bitI .or .u8 192 (Int.fdiv (c.toNat : Int) (2 ^ 6)) = ((hi6 c).toNat : Int) := by
  have := all_bytes (p := fun c => decide (c.toNat < 128) || decide (bitI .or .u8 192 (Int.fdiv (c.toNat : Int) (2 ^ 6)) = ((hi6 c).toNat : Int))) (by kernel_rfl) c
  rw [Bool.or_eq_true, decide_eq_true_eq, decide_eq_true_eq] at this
  omega
theorem lo6_l (c : UInt8) (h : 128 ≤ c.toNat) : bitI .or .u8 128 (bitI .and .u8 (c.toNat : Int) 63) = ((lo6 c).toNat : Int) := by
  have := all_bytes (p := fun c => decide (c.toNat < 128) || decide (bitI .or .u8 128 (bitI .and .u8 (c.toNat : Int) 63) = ((lo6 c).toNat : Int))) (by kernel_rfl) c
  rw [Bool.or_eq_true, decide_eq_true_eq, decide_eq_true_eq] at this
  omega
theorem hi6_r (c : UInt8) : IntKind.wrap .u8 (192 + (IntKind.wrap .u8 (Int.tdiv (c.toNat : Int) 64))) = ((hi6 c).toNat : Int) := by
  have := all_bytes (p := fun c => decide (IntKind.wrap .u8 (192 + (IntKind.wrap .u8 (Int.tdiv (c.toNat : Int) 64))) = ((hi6 c).toNat : Int))) (by kernel_rfl) c
  simpa using this
theorem lo6_r (c : UInt8) : IntKind.wrap .u8 (128 + (Int.tmod (c.toNat : Int) 64)) = ((lo6 c).toNat : Int) := by
  have := all_bytes (p := fun c => decide (IntKind.wrap .u8 (128 + (Int.tmod (c.toNat : Int) 64)) = ((lo6 c).toNat : Int))) (by kernel_rfl) c
  simpa using this
theorem lWide_loop (s : List UInt8) (hs : s.length ≤ 1000000) (κ : ByteArray → Option R) : ∀ (f i : Nat) (acc : List UInt8), i ≤ s.length → s.length < i + f → acc.length ≤ 2 * i →
    letter_wide_0.L3 strings_Builder_WriteByte_vxfei strings_Builder_String_vxfe κ f (B s) (s.length : Int) (i : Int) (intsAV acc) = κ (B (acc ++ wideL (s.drop i)))
  | 0, i, acc, h1, h2, h3 => by omega
  | f + 1, i, acc, h1, h2, h3 => by
    rw [letter_wide_0.L3, letter_wide_0.t3]
    simp only [size_B, bString_eq]
    have hal := ints_len acc
    have hw1 : IntKind.wrap .i64 ((i : Int) + 1) = ((i + 1 : Nat) : Int) := wrap_i64 (by omega) (by omega)
    simp only [hw1]
    cases hd : s.drop i with
    | nil =>
      have := drop_nil hd
      rw [cond_dec' (by omega), wideL, List.append_nil]
    | cons c r =>
      obtain ⟨g1, g2, g3⟩ := drop_get hd
      simp (disch := omega) only [cond_dec, chk_and, chk_dec, btB g1]
      rw [wideL]
      by_cases h : c.toNat < 128
      · rw [cond_dec (by omega), if_pos h, wByte_eq _ _ _ (by omega), ints_snoc, lWide_loop s hs κ f (i + 1) (acc ++ [c]) (by omega) (by omega) (by simp; omega), g3]
        simp
      · have hl2 := ints_len (acc ++ [hi6 c])
        rw [List.length_append, List.length_singleton] at hl2
        rw [cond_dec' (by omega), if_neg h, hi6_l c (by omega), lo6_l c (by omega), wByte_eq _ _ _ (by omega), ints_snoc, wByte_eq _ _ _ (by omega), ints_snoc, lWide_loop s hs κ f (i + 1) (acc ++ [hi6 c] ++ [lo6 c]) (by omega) (by omega) (by simp; omega), g3]
        simp
theorem lWide_eq (s : List UInt8) (hs : s.length ≤ 1000000) (κ : ByteArray → Option R) : letter_wide_0 (B s) κ = κ (B (wideL s)) := by
  have key : ∀ f, s.length < f → letter_wide_0.e strings_Builder_WriteByte_vxfei strings_Builder_String_vxfe (B s) (letter_wide_0.L3 strings_Builder_WriteByte_vxfei strings_Builder_String_vxfe κ f) κ = κ (B (wideL s)) := by
    intro f hf
    unfold letter_wide_0.e
    rw [size_B]
    exact lWide_loop s hs κ f 0 [] (by omega) (by omega) (by simp)
  exact key fuelK (by unfold fuelK; omega)
end Go.Proofs.Ab

/- base64, read loosely, by the program. -/
namespace Go.Proofs.Ab
set_option linter.unusedVariables false
set_option maxRecDepth 4000
open Go
variable {R : Type}
/-- What a letter is worth. -/
def w64 (c : UInt8) : Option Nat :=
  if 65 ≤ c.toNat ∧ c.toNat ≤ 90 then some (c.toNat - 65) else if 97 ≤ c.toNat ∧ c.toNat ≤ 122 then some (c.toNat - 71) else if 48 ≤ c.toNat ∧ c.toNat ≤ 57 then some (c.toNat + 4) else if c = 43 then some 62 else if c = 47 then some 63 else none
def tabL : List AV := (List.range 256).map fun n => AV.int (match w64 (UInt8.ofNat n) with | some v => (v : Int) + 1 | none => 0)
theorem worths_eq (κ : List AV → Option R) : octet_worths_0 κ = κ tabL := by kernel_rfl
theorem tab_get (c : UInt8) : (rdA tabL (c.toNat : Int)).i = match w64 c with | some v => (v : Int) + 1 | none => 0 := by
  have hlt := byte_lt c
  rw [rdA_get (a := AV.int (match w64 (UInt8.ofNat c.toNat) with | some v => (v : Int) + 1 | none => 0)) (by unfold tabL; rw [List.getElem?_map, List.getElem?_range hlt]; rfl), UInt8.ofNat_toNat]
  rfl
theorem w64_lt {c : UInt8} {v : Nat} (h : w64 c = some v) : v < 64 ∧ (v = 63 → c = 47) := by
  have hlt := byte_lt c
  unfold w64 at h
  split at h
  · cases h; exact ⟨by omega, by omega⟩
  · split at h
    · cases h; exact ⟨by omega, by omega⟩
    · split at h
      · cases h; exact ⟨by omega, by omega⟩
      · split at h
        · cases h; exact ⟨by omega, by omega⟩
        · split at h
          · cases h; rename_i e; exact ⟨by omega, fun _ => e⟩
          · cases h
theorem or64 (n v : Nat) (hn : n < 16777216) (hv : v < 64) : bitI .or .i64 (IntKind.wrap .i64 ((n : Int) * 2 ^ 6)) (v : Int) = ((n * 64 + v : Nat) : Int) := by
  rw [wrap_i64 (by omega) (by omega)]
  have e : (n : Int) * 2 ^ 6 = ((n * 64 : Nat) : Int) := by omega
  rw [e]
  show IntKind.wrap .i64 ((BitVec.ofInt 64 ((n * 64 : Nat) : Int) ||| BitVec.ofInt 64 ((v : Nat) : Int)).toNat : Int) = _
  rw [BitVec.ofInt_natCast, BitVec.ofInt_natCast, BitVec.toNat_or, BitVec.toNat_ofNat, BitVec.toNat_ofNat, Nat.mod_eq_of_lt (by omega), Nat.mod_eq_of_lt (by omega)]
  have h2 := Nat.shiftLeft_add_eq_or_of_lt (a := n) (b := v) (i := 6) (by omega)
  rw [Nat.shiftLeft_eq] at h2
  rw [show n * 64 = n * 2 ^ 6 by omega, ← h2, wrap_i64 (by omega) (by omega)]
def vs64 (s : List UInt8) : List Nat := (s.takeWhile fun c => c != 61).filterMap w64
theorem vs64_nil : vs64 [] = [] := rfl
theorem vs64_cons (c : UInt8) (r : List UInt8) : vs64 (c :: r) = bif c != 61 then (match w64 c with | some v => v :: vs64 r | none => vs64 r) else [] := by
  unfold vs64
  rw [List.takeWhile_cons]
  cases h : (c != 61) with
  | false => simp
  | true =>
    simp only [if_true, cond_true, List.filterMap_cons]
    cases w64 c <;> rfl
/-- Bytes out of six bits each. -/
def b64 : List Nat → List UInt8
  | a :: b :: c :: d :: r => UInt8.ofNat ((((a * 64 + b) * 64 + c) * 64 + d) / 65536) :: UInt8.ofNat ((((a * 64 + b) * 64 + c) * 64 + d) / 256) :: UInt8.ofNat (((a * 64 + b) * 64 + c) * 64 + d) :: b64 r
  | [a, b, c] => [UInt8.ofNat (((a * 64 + b) * 64 + c) / 1024), UInt8.ofNat (((a * 64 + b) * 64 + c) / 4)]
  | [a, b] => [UInt8.ofNat ((a * 64 + b) / 16)]
  | _ => []
theorem wu8 (n : Nat) : IntKind.wrap .u8 (n : Int) = ((UInt8.ofNat n).toNat : Int) := by
  rw [IntKind.wrap_u8]
  simp
theorem fdiv_nat (n k : Nat) (hk : 0 < k) : Int.fdiv (n : Int) (k : Int) = ((n / k : Nat) : Int) := by
  rw [Int.fdiv_eq_ediv_of_nonneg _ (by omega)]; rfl
def nv : List Nat → Nat := List.foldl (fun n v => n * 64 + v) 0
theorem nv_snoc (p : List Nat) (v : Nat) : nv (p ++ [v]) = nv p * 64 + v := by unfold nv; simp
theorem r64_end (p : List Nat) (hp : p.length < 4) (acc : List UInt8) (ha : acc.length ≤ 1000000) (κ : ByteArray → Option R) :
    (bif (((p.length : Nat) : Int) == 2) then (chk (decide (((intsAV acc).length + 1) * 1 ≤ 140737488355328)) (κ (strAV (intsAV acc ++ [AV.int (IntKind.wrap .u8 (Int.fdiv (nv p : Int) (2 ^ 4)))])))) else (bif (((p.length : Nat) : Int) == 3) then (chk (decide (((intsAV acc).length + 2) * 1 ≤ 140737488355328)) (κ (strAV (intsAV acc ++ [AV.int (IntKind.wrap .u8 (Int.fdiv (nv p : Int) (2 ^ 10))), AV.int (IntKind.wrap .u8 (Int.fdiv (nv p : Int) (2 ^ 2)))])))) else (κ (strAV (intsAV acc)))))
      = κ (B (acc ++ b64 p)) := by
  have hal := ints_len acc
  have e4 : Int.fdiv (nv p : Int) (2 ^ 4) = ((nv p / 16 : Nat) : Int) := fdiv_nat _ 16 (by omega)
  have e10 : Int.fdiv (nv p : Int) (2 ^ 10) = ((nv p / 1024 : Nat) : Int) := fdiv_nat _ 1024 (by omega)
  have e2 : Int.fdiv (nv p : Int) (2 ^ 2) = ((nv p / 4 : Nat) : Int) := fdiv_nat _ 4 (by omega)
  rw [e4, e10, e2, wu8, wu8, wu8, hal, chk_dec (by omega), chk_dec (by omega)]
  match p, hp with
  | [], _ => rw [strAV_ints]; simp [b64]
  | [a], _ => rw [strAV_ints]; simp [b64]
  | [a, b], _ =>
    show κ (strAV (intsAV acc ++ intsAV [UInt8.ofNat (nv [a, b] / 16)])) = _
    rw [ints_append, strAV_ints]
    simp [b64, nv]
  | [a, b, c], _ =>
    show κ (strAV (intsAV acc ++ intsAV [UInt8.ofNat (nv [a, b, c] / 1024), UInt8.ofNat (nv [a, b, c] / 4)])) = _
    rw [ints_append, strAV_ints]
    simp [b64, nv]
  | a :: b :: c :: d :: r, hp => simp at hp; omega
theorem nv_lt : ∀ p : List Nat, p.length < 4 → (∀ v ∈ p, v < 64) → nv p < 262144
  | [], _, _ => by decide
  | [a], _, h => by have := h a (by simp); simp [nv]; omega
  | [a, b], _, h => by have := h a (by simp); have := h b (by simp); simp [nv]; omega
  | [a, b, c], _, h => by have := h a (by simp); have := h b (by simp); have := h c (by simp); simp [nv]; omega
  | a :: b :: c :: d :: r, h, _ => by simp at h; omega
end Go.Proofs.Ab

/- base64, read loosely, by the program: the loop. -/
namespace Go.Proofs.Ab
set_option linter.unusedVariables false
set_option maxRecDepth 4000
open Go
variable {R : Type}
abbrev r6L5 (κ : ByteArray → Option R) := octet_read64_0.L5 octet_worths_0 κ
theorem r64_loop (s : List UInt8) (hs : s.length ≤ 500000) (κ : ByteArray → Option R) : ∀ (f i : Nat) (p : List Nat) (acc : List UInt8), i ≤ s.length → s.length < i + f → p.length < 4 → (∀ v ∈ p, v < 64) → acc.length + p.length ≤ i →
    r6L5 κ f (B s) 47 (nv p : Int) (p.length : Int) (i : Int) (intsAV acc) tabL = κ (B (acc ++ b64 (p ++ vs64 (s.drop i))))
  | 0, i, p, acc, h1, h2, h3, h4, h5 => by omega
  | f + 1, i, p, acc, h1, h2, h3, h4, h5 => by
    unfold r6L5
    rw [octet_read64_0.L5, octet_read64_0.t5]
    simp only [r64_end p h3 acc (by omega)]
    have hal := ints_len acc
    have hnv := nv_lt p h3 h4
    simp only [size_B]
    cases hd : s.drop i with
    | nil =>
      have := drop_nil hd
      rw [cond_dec' (by omega), vs64_nil, List.append_nil]
    | cons c r =>
      obtain ⟨g1, g2, g3⟩ := drop_get hd
      have hlt := byte_lt c
      have hw1 : IntKind.wrap .i64 ((i : Int) + 1) = ((i + 1 : Nat) : Int) := wrap_i64 (by omega) (by omega)
      have hwp : IntKind.wrap .i64 ((p.length : Int) + 1) = ((p.length + 1 : Nat) : Int) := wrap_i64 (by omega) (by omega)
      simp only [hw1, hwp, btB g1]
      simp (disch := omega) only [cond_dec, chk_and, chk_dec]
      rw [byteN c 61 61 rfl, byteB c 47 47 rfl, tab_get c, vs64_cons]
      cases h61 : (c != 61) with
      | false => simp only [cond_false, List.append_nil]
      | true =>
        simp only [cond_true]
        -- a value comes
        have come : ∀ (v : Nat) (x : Int), x = (v : Int) → v < 64 →
            (bif ((p.length + 1 : Nat) : Int) == 4 then (octet_read64_0.L5 octet_worths_0 κ f (B s) 47 0 0 ((i + 1 : Nat) : Int) (intsAV acc ++ [AV.int (IntKind.wrap .u8 (Int.fdiv (bitI .or .i64 (IntKind.wrap .i64 ((nv p : Int) * 2 ^ 6)) x) (2 ^ 16))), AV.int (IntKind.wrap .u8 (Int.fdiv (bitI .or .i64 (IntKind.wrap .i64 ((nv p : Int) * 2 ^ 6)) x) (2 ^ 8))), AV.int (IntKind.wrap .u8 (bitI .or .i64 (IntKind.wrap .i64 ((nv p : Int) * 2 ^ 6)) x))]) tabL)
              else (octet_read64_0.L5 octet_worths_0 κ f (B s) 47 (bitI .or .i64 (IntKind.wrap .i64 ((nv p : Int) * 2 ^ 6)) x) ((p.length + 1 : Nat) : Int) ((i + 1 : Nat) : Int) (intsAV acc) tabL)) = κ (B (acc ++ b64 (p ++ v :: vs64 r))) := by
          intro v x hx hv
          subst hx
          rw [or64 _ _ (by omega) hv]
          have hsn : ((nv p * 64 + v : Nat) : Int) = ((nv (p ++ [v]) : Nat) : Int) := by rw [nv_snoc]
          have hpl : (p ++ [v]).length = p.length + 1 := by simp
          have hpv : ∀ w ∈ p ++ [v], w < 64 := by
            intro w hw
            rw [List.mem_append, List.mem_singleton] at hw
            rcases hw with hw | rfl
            · exact h4 w hw
            · exact hv
          by_cases h3' : p.length = 3
          · have e16 : Int.fdiv ((nv p * 64 + v : Nat) : Int) (2 ^ 16) = (((nv p * 64 + v) / 65536 : Nat) : Int) := fdiv_nat _ 65536 (by omega)
            have e8 : Int.fdiv ((nv p * 64 + v : Nat) : Int) (2 ^ 8) = (((nv p * 64 + v) / 256 : Nat) : Int) := fdiv_nat _ 256 (by omega)
            rw [beq_pos (by omega), e16, e8, wu8, wu8, wu8]
            simp only [cond_true]
            have hint : intsAV acc ++ [AV.int ((UInt8.ofNat ((nv p * 64 + v) / 65536)).toNat : Int), AV.int ((UInt8.ofNat ((nv p * 64 + v) / 256)).toNat : Int), AV.int ((UInt8.ofNat (nv p * 64 + v)).toNat : Int)] = intsAV (acc ++ [UInt8.ofNat ((nv p * 64 + v) / 65536), UInt8.ofNat ((nv p * 64 + v) / 256), UInt8.ofNat (nv p * 64 + v)]) := ints_append acc [_, _, _]
            rw [hint]
            have ih := r64_loop s hs κ f (i + 1) [] (acc ++ [UInt8.ofNat ((nv p * 64 + v) / 65536), UInt8.ofNat ((nv p * 64 + v) / 256), UInt8.ofNat (nv p * 64 + v)]) (by omega) (by omega) (by simp) (by simp) (by simp; omega)
            rw [g3] at ih
            refine (ih : octet_read64_0.L5 octet_worths_0 κ f (B s) 47 0 0 ((i + 1 : Nat) : Int) _ tabL = _).trans ?_
            match p, h3' with
            | [a, b, c], _ => simp [b64, nv]
          · rw [beq_neg (by omega), hsn]
            simp only [cond_false]
            have ih := r64_loop s hs κ f (i + 1) (p ++ [v]) acc (by omega) (by omega) (by omega) hpv (by omega)
            rw [g3, hpl, List.append_assoc] at ih
            exact ih
        by_cases h47 : c = 47
        · subst h47
          rw [show ((47 : UInt8) == 47) = true from rfl, show w64 47 = some 63 from by decide]
          simp only [cond_true]
          exact come 63 63 rfl (by omega)
        · rw [show (c == 47) = false by simpa using h47]
          simp only [cond_false]
          cases hw : w64 c with
          | some v =>
            obtain ⟨v1, v2⟩ := w64_lt hw
            have hx : IntKind.wrap .i64 ((IntKind.wrap .i64 ((v : Int) + 1)) - 1) = (v : Int) := by
              rw [wrap_i64 (x := (v : Int) + 1) (by omega) (by omega), wrap_i64 (by omega) (by omega)]; omega
            simp only [hx]
            rw [beq_neg (show (v : Int) ≠ 63 from fun e => h47 (v2 (by omega))), cond_dec' (by omega)]
            simp only [cond_false]
            exact come v _ rfl v1
          | none =>
            have hx : IntKind.wrap .i64 ((IntKind.wrap .i64 0) - 1) = -1 := by decide
            simp only [hx]
            rw [show ((-1 : Int) == 63) = false from rfl, cond_dec (by omega)]
            simp only [cond_false]
            have ih := r64_loop s hs κ f (i + 1) p acc (by omega) (by omega) h3 h4 (by omega)
            rw [g3] at ih
            exact ih
theorem r64_eq (s : List UInt8) (hs : s.length ≤ 500000) (κ : ByteArray → Option R) : octet_read64_0 (B s) 47 κ = κ (B (b64 (vs64 s))) := by
  have key : ∀ f, s.length < f → octet_read64_0.e octet_worths_0 (B s) 47 (r6L5 κ f) κ = κ (B (b64 (vs64 s))) := by
    intro f hf
    unfold octet_read64_0.e
    rw [worths_eq]
    exact r64_loop s hs κ f 0 [] [] (by omega) (by omega) (by simp) (by simp) (by simp)
  exact key fuelK (by unfold fuelK; omega)
theorem lLoose_eq (s : List UInt8) (hs : s.length ≤ 500000) (κ : ByteArray → Option R) : octet_Loose64_0 (B s) κ = κ (B (b64 (vs64 s))) := by
  unfold octet_Loose64_0 octet_Loose64_0.e
  rw [r64_eq s hs]
end Go.Proofs.Ab

/- base64, read loosely, by the document. -/
namespace Go.Proofs.Ab
set_option linter.unusedVariables false
set_option maxRecDepth 4000
open Go
variable {R : Type}
def letL : List UInt8 := [65, 66, 67, 68, 69, 70, 71, 72, 73, 74, 75, 76, 77, 78, 79, 80, 81, 82, 83, 84, 85, 86, 87, 88, 89, 90, 97, 98, 99, 100, 101, 102, 103, 104, 105, 106, 107, 108, 109, 110, 111, 112, 113, 114, 115, 116, 117, 118, 119, 120, 121, 122, 48, 49, 50, 51, 52, 53, 54, 55, 56, 57, 43, 47]
theorem letL_B : (⟨#[65, 66, 67, 68, 69, 70, 71, 72, 73, 74, 75, 76, 77, 78, 79, 80, 81, 82, 83, 84, 85, 86, 87, 88, 89, 90, 97, 98, 99, 100, 101, 102, 103, 104, 105, 106, 107, 108, 109, 110, 111, 112, 113, 114, 115, 116, 117, 118, 119, 120, 121, 122, 48, 49, 50, 51, 52, 53, 54, 55, 56, 57, 43, 47]⟩ : ByteArray) = B letL := rfl
theorem letL_len : letL.length = 64 := rfl
def wI (c : UInt8) : Int := match w64 c with | some v => (v : Int) | none => -1
/-- The place of a byte in a list, counted from a number on; -1: nowhere. -/
def idxI (c : UInt8) : Nat → List UInt8 → Int
  | _, [] => -1
  | i, d :: r => bif d == c then (i : Int) else idxI c (i + 1) r
theorem idx_all (c : UInt8) : idxI c 0 letL = wI c := by
  have := all_bytes (p := fun c => decide (idxI c 0 letL = wI c)) (by kernel_rfl) c
  simpa using this
def bitsAV (l : List Nat) : List AV := l.map fun (v : Nat) => AV.int (v : Int)
theorem bits_len (l : List Nat) : (bitsAV l).length = l.length := by unfold bitsAV; simp
def fo : Nat → List Nat → Nat := List.foldl fun v b => 2 * v + b
/-- Bytes out of bits. -/
def b8 : List Nat → List UInt8
  | a :: b :: c :: d :: e :: f :: g :: h :: r => UInt8.ofNat (fo 0 [a, b, c, d, e, f, g, h]) :: b8 r
  | _ => []
theorem b8_step (l : List Nat) (h : 8 ≤ l.length) : b8 l = UInt8.ofNat (fo 0 (l.take 8)) :: b8 (l.drop 8) := by
  match l, h with
  | a :: b :: c :: d :: e :: f :: g :: i :: r, _ => rw [b8]; rfl
theorem b8_stop (l : List Nat) (h : l.length < 8) : b8 l = [] := by
  match l, h with
  | [], _ => rfl
  | [_], _ => rfl
  | [_, _], _ => rfl
  | [_, _, _], _ => rfl
  | [_, _, _, _], _ => rfl
  | [_, _, _, _, _], _ => rfl
  | [_, _, _, _, _, _], _ => rfl
  | [_, _, _, _, _, _, _], _ => rfl
  | _ :: _ :: _ :: _ :: _ :: _ :: _ :: _ :: r, h => simp at h; omega
def bits6 (v : Nat) : List Nat := [v / 32 % 2, v / 16 % 2, v / 8 % 2, v / 4 % 2, v / 2 % 2, v / 1 % 2]
theorem ofNat_eq {x y : Nat} (h : x % 256 = y % 256) : UInt8.ofNat x = UInt8.ofNat y := by
  rw [← UInt8.toNat_inj, UInt8.toNat_ofNat', UInt8.toNat_ofNat']; exact h
theorem bits6_sum (v : Nat) (h : v < 64) : ∃ a b c d e f : Nat, bits6 v = [a, b, c, d, e, f] ∧ v = 32 * a + 16 * b + 8 * c + 4 * d + 2 * e + f ∧ a < 2 ∧ b < 2 ∧ c < 2 ∧ d < 2 ∧ e < 2 ∧ f < 2 :=
  ⟨_, _, _, _, _, _, rfl, by omega, by omega, by omega, by omega, by omega, by omega, by omega⟩
theorem fo8 (a b c d e f g h : Nat) : fo 0 [a, b, c, d, e, f, g, h] = 128 * a + 64 * b + 32 * c + 16 * d + 8 * e + 4 * f + 2 * g + h := by
  show 2 * (2 * (2 * (2 * (2 * (2 * (2 * (2 * 0 + a) + b) + c) + d) + e) + f) + g) + h = _
  omega
theorem b8_64 : ∀ vs : List Nat, (∀ v ∈ vs, v < 64) → b8 (vs.flatMap bits6) = b64 vs
  | [], _ => rfl
  | [a], _ => rfl
  | [a, b], h => by
    obtain ⟨a1, a2, a3, a4, a5, a6, ea, va, _⟩ := bits6_sum a (h a (by simp))
    obtain ⟨b1, b2, b3, b4, b5, b6, eb, vb, _⟩ := bits6_sum b (h b (by simp))
    rw [List.flatMap_cons, List.flatMap_cons, List.flatMap_nil, ea, eb]
    simp only [List.cons_append, List.nil_append]
    rw [b8, b8_stop _ (by simp), fo8, b64]
    rw [ofNat_eq (x := 128 * a1 + 64 * a2 + 32 * a3 + 16 * a4 + 8 * a5 + 4 * a6 + 2 * b1 + b2) (y := (a * 64 + b) / 16) (by omega)]
  | [a, b, c], h => by
    obtain ⟨a1, a2, a3, a4, a5, a6, ea, va, _⟩ := bits6_sum a (h a (by simp))
    obtain ⟨b1, b2, b3, b4, b5, b6, eb, vb, _⟩ := bits6_sum b (h b (by simp))
    obtain ⟨c1, c2, c3, c4, c5, c6, ec, vc, _⟩ := bits6_sum c (h c (by simp))
    rw [List.flatMap_cons, List.flatMap_cons, List.flatMap_cons, List.flatMap_nil, ea, eb, ec]
    simp only [List.cons_append, List.nil_append]
    rw [b8, b8, b8_stop _ (by simp), fo8, fo8, b64]
    rw [ofNat_eq (x := 128 * a1 + 64 * a2 + 32 * a3 + 16 * a4 + 8 * a5 + 4 * a6 + 2 * b1 + b2) (y := ((a * 64 + b) * 64 + c) / 1024) (by omega),
      ofNat_eq (x := 128 * b3 + 64 * b4 + 32 * b5 + 16 * b6 + 8 * c1 + 4 * c2 + 2 * c3 + c4) (y := ((a * 64 + b) * 64 + c) / 4) (by omega)]
  | a :: b :: c :: d :: r, h => by
    obtain ⟨a1, a2, a3, a4, a5, a6, ea, va, _⟩ := bits6_sum a (h a (by simp))
    obtain ⟨b1, b2, b3, b4, b5, b6, eb, vb, _⟩ := bits6_sum b (h b (by simp))
    obtain ⟨c1, c2, c3, c4, c5, c6, ec, vc, _⟩ := bits6_sum c (h c (by simp))
    obtain ⟨d1, d2, d3, d4, d5, d6, ed, vd, _⟩ := bits6_sum d (h d (by simp))
    have ih := b8_64 r (fun v hv => h v (by simp [hv]))
    rw [List.flatMap_cons, List.flatMap_cons, List.flatMap_cons, List.flatMap_cons, ea, eb, ec, ed]
    simp only [List.cons_append, List.nil_append]
    rw [b8, b8, b8, ih, fo8, fo8, fo8, b64]
    rw [ofNat_eq (x := 128 * a1 + 64 * a2 + 32 * a3 + 16 * a4 + 8 * a5 + 4 * a6 + 2 * b1 + b2) (y := (((a * 64 + b) * 64 + c) * 64 + d) / 65536) (by omega),
      ofNat_eq (x := 128 * b3 + 64 * b4 + 32 * b5 + 16 * b6 + 8 * c1 + 4 * c2 + 2 * c3 + c4) (y := (((a * 64 + b) * 64 + c) * 64 + d) / 256) (by omega),
      ofNat_eq (x := 128 * c5 + 64 * c6 + 32 * d1 + 16 * d2 + 8 * d3 + 4 * d4 + 2 * d5 + d6) (y := ((a * 64 + b) * 64 + c) * 64 + d) (by omega)]
end Go.Proofs.Ab

/- base64, read loosely, by the document: the loops. -/
namespace Go.Proofs.Ab
set_option linter.unusedVariables false
set_option maxRecDepth 4000
open Go
variable {R : Type}
theorem tdivN (n k : Nat) : Int.tdiv (n : Int) (k : Int) = ((n / k : Nat) : Int) := rfl
theorem tmodN (n k : Nat) : Int.tmod (n : Int) (k : Int) = ((n % k : Nat) : Int) := rfl
theorem bits6_lt (v : Nat) : ∀ b ∈ bits6 v, b < 2 := by
  intro b hb
  simp only [bits6, List.mem_cons, List.mem_nil_iff, or_false] at hb
  rcases hb with h | h | h | h | h | h <;> omega
theorem vs64_lt (s : List UInt8) : ∀ v ∈ vs64 s, v < 64 := by
  intro v hv
  unfold vs64 at hv
  rw [List.mem_filterMap] at hv
  obtain ⟨c, _, hc⟩ := hv
  exact (w64_lt hc).1
end Go.Proofs.Ab

/- Encoded words, by the document. -/
namespace Go.Proofs.Ab
set_option linter.unusedVariables false
set_option maxRecDepth 4000
open Go
variable {R : Type}
def nq (c : UInt8) : Bool := c != 63
/-- The place of the next ?, from a place on. -/
def mkI (l : List UInt8) (i : Nat) : Int := if (l.drop i).takeWhile nq = l.drop i then -1 else ((i + ((l.drop i).takeWhile nq).length : Nat) : Int)
theorem mkI_some {l : List UInt8} {i : Nat} (hi : i ≤ l.length) : (mkI l i = -1 ∧ l[i + ((l.drop i).takeWhile nq).length]? = none) ∨ (mkI l i = ((i + ((l.drop i).takeWhile nq).length : Nat) : Int) ∧ l[i + ((l.drop i).takeWhile nq).length]? = some 63) := by
  unfold mkI
  have hp := List.takeWhile_prefix nq (l := l.drop i)
  by_cases e : (l.drop i).takeWhile nq = l.drop i
  · rw [if_pos e]
    refine Or.inl ⟨rfl, ?_⟩
    rw [e, List.length_drop]
    exact List.getElem?_eq_none (by omega)
  · rw [if_neg e]
    refine Or.inr ⟨rfl, ?_⟩
    have hd : (l.drop i).dropWhile nq ≠ [] := by
      intro h
      have := List.takeWhile_append_dropWhile (p := nq) (l := l.drop i)
      rw [h, List.append_nil] at this
      exact e this
    obtain ⟨c, r, hcr⟩ : ∃ c r, (l.drop i).dropWhile nq = c :: r := by
      cases h : (l.drop i).dropWhile nq with
      | nil => exact absurd h hd
      | cons c r => exact ⟨c, r, rfl⟩
    have hc : nq c = false := by
      have := List.head?_dropWhile_not nq (l.drop i)
      rw [hcr] at this; simpa using this
    have hc63 : c = 63 := by unfold nq at hc; simpa using hc
    have hs : l.drop i = (l.drop i).takeWhile nq ++ c :: r := by rw [← hcr, List.takeWhile_append_dropWhile]
    have hg : (l.drop i)[((l.drop i).takeWhile nq).length]? = some c := by
      conv => lhs; rw [hs]
      rw [List.getElem?_append_right (by rw [← hs]; exact Nat.le_refl _), ← hs]
      simp
    rw [List.getElem?_drop] at hg
    rw [hg, hc63]
/-! ## The specification -/
def usA : List UInt8 := [117, 115, 45, 97, 115, 99, 105, 105]
def ut8 : List UInt8 := [117, 116, 102, 45, 56]
def iso : List UInt8 := [105, 115, 111, 45, 56, 56, 53, 57, 45, 49]
def prn (c : UInt8) : Bool := decide (33 ≤ c.toNat) && decide (c.toNat ≤ 126)
def knownCs (cs how : List UInt8) : Bool := (decide (cs = usA) || (decide (cs = ut8) || decide (cs = iso))) && (decide (how = [98]) || decide (how = [113]))
def decG (cs how q : List UInt8) : List UInt8 :=
  bif decide (cs = iso) then wideL (bif decide (how = [98]) then b64 (vs64 q) else unq q) else (bif decide (how = [98]) then b64 (vs64 q) else unq q)
def eA (l : List UInt8) : Nat := 2 + ((l.drop 2).takeWhile nq).length
def eQ (l : List UInt8) : List UInt8 := (l.drop (eA l + 3)).takeWhile nq
def eE (l : List UInt8) : Nat := eA l + 3 + (eQ l).length
def eCs (l : List UInt8) : List UInt8 := lowL ((l.take (eA l)).drop 2)
def eHow (l : List UInt8) : List UInt8 := lowL ((l.take (eA l + 2)).drop (eA l + 1))
/-- Does a text begin with an encoded word? -/
def isE (l : List UInt8) : Bool :=
  decide (l[0]? = some 61) && (decide (l[1]? = some 63) && (decide (l[eA l]? = some 63) && (decide (l[eA l + 2]? = some 63) && (decide (l[eE l]? = some 63) && (decide (l[eE l + 1]? = some 61) && ((eQ l).all prn && knownCs (eCs l) (eHow l)))))))
end Go.Proofs.Ab

/- Encoded words, by the document: the proof. -/
namespace Go.Proofs.Ab
set_option linter.unusedVariables false
set_option maxRecDepth 4000
open Go
variable {R : Type}
theorem litB (a b : List UInt8) (κ1 κ2 : Option R) : (bif decide (B a = B b) then κ1 else κ2) = bif decide (a = b) then κ1 else κ2 := by
  rw [show decide (B a = B b) = decide (a = b) from by rw [decide_eq_decide]; exact B_inj]
theorem litN (a b : List UInt8) (κ1 κ2 : Option R) : (bif !decide (B a = B b) then κ1 else κ2) = bif decide (a = b) then κ2 else κ1 := by
  rw [show decide (B a = B b) = decide (a = b) from by rw [decide_eq_decide]; exact B_inj]
  cases decide (a = b) <;> rfl
theorem b64_len : ∀ vs : List Nat, (b64 vs).length ≤ vs.length
  | [] => by simp [b64]
  | [_] => by simp [b64]
  | [_, _] => by simp [b64]
  | [_, _, _] => by simp [b64]
  | _ :: _ :: _ :: _ :: r => by have := b64_len r; simp [b64]; omega
theorem vs64_len (s : List UInt8) : (vs64 s).length ≤ s.length := by
  unfold vs64
  have h1 := List.length_filterMap_le w64 (s.takeWhile fun c => c != 61)
  have h2 := (List.takeWhile_prefix (fun c => c != 61) (l := s)).length_le
  omega
end Go.Proofs.Ab

/- Encoded words, by the document: the whole. -/
namespace Go.Proofs.Ab
set_option linter.unusedVariables false
set_option maxRecDepth 4000
open Go
variable {R : Type}
end Go.Proofs.Ab

/- Encoded words, by the program. -/
namespace Go.Proofs.Ab
set_option linter.unusedVariables false
set_option maxRecDepth 4000
open Go
variable {R : Type}
def isQ (c : UInt8) : Bool := prn c && nq c
theorem tq_all : ∀ m : List UInt8, (m.takeWhile nq).all prn = true → m.takeWhile isQ = m.takeWhile nq
  | [], _ => rfl
  | c :: r, h => by
    rw [List.takeWhile_cons] at h ⊢
    rw [List.takeWhile_cons]
    unfold isQ at *
    cases hn : nq c with
    | false => simp
    | true =>
      rw [hn, if_pos rfl, List.all_cons, Bool.and_eq_true] at h
      rw [h.1]
      simp only [Bool.and_self, if_true]
      rw [show (r.takeWhile fun c => prn c && nq c) = r.takeWhile nq from tq_all r h.2]
theorem tq_not : ∀ m : List UInt8, (m.takeWhile nq).all prn = false → ∃ c, m[(m.takeWhile isQ).length]? = some c ∧ c ≠ 63
  | [], h => by cases h
  | c :: r, h => by
    rw [List.takeWhile_cons] at h
    rw [List.takeWhile_cons]
    cases hn : nq c with
    | false => rw [hn] at h; simp at h
    | true =>
      have h63 : c ≠ 63 := by unfold nq at hn; simpa using hn
      rw [hn, if_pos rfl, List.all_cons] at h
      unfold isQ
      cases hp : prn c with
      | false => exact ⟨c, by simp, h63⟩
      | true =>
        rw [hp, Bool.true_and] at h
        obtain ⟨d, hd, h2⟩ := tq_not r h
        unfold isQ at hd
        refine ⟨d, ?_, h2⟩
        rw [hn]
        simpa using hd
theorem idx_mk (l : List UInt8) : (Lib.indexByte l 63 = -1 ∧ l.takeWhile nq = l) ∨ (Lib.indexByte l 63 = ((l.takeWhile nq).length : Int) ∧ l[(l.takeWhile nq).length]? = some 63) := by
  have hx := mkI_some (l := l) (i := 0) (by omega)
  unfold mkI at hx
  simp only [List.drop_zero, Nat.zero_add] at hx
  rcases hx with ⟨h1, h2⟩ | ⟨h1, h2⟩
  · by_cases e : l.takeWhile nq = l
    · refine Or.inl ⟨?_, e⟩
      by_cases hi : Lib.indexByte l 63 = -1
      · exact hi
      · exfalso
        have hge := Lib.indexByte_ge l 63
        obtain ⟨m, hm⟩ : ∃ m : Nat, Lib.indexByte l 63 = m := ⟨(Lib.indexByte l 63).toNat, by omega⟩
        have g := (Lib.indexByte_some hm).1
        have hlt := (List.getElem?_eq_some_iff.1 g).1
        obtain ⟨c, hc, hn⟩ := takeWhile_get (p := nq) (l := l) (k := m) (by rw [e]; exact hlt)
        rw [g] at hc; cases hc; cases hn
    · rw [if_neg e] at h1; omega
  · refine Or.inr ⟨indexByte_at h2 ?_, h2⟩
    intro k hk
    obtain ⟨c, hc, hn⟩ := takeWhile_get (p := nq) hk
    rw [hc]; intro e; cases e; cases hn
abbrev m14 (κ : ByteArray → Int → Option R) := letter_encoded_0.L14 strings_HasPrefix_0 strings_IndexByte_0 octet_Lower_0 octet_Loose64_0 letter_wide_0 letter_unquoted_0 κ
abbrev m12 (κ : ByteArray → Int → Option R) := letter_encoded_0.L12 strings_HasPrefix_0 strings_IndexByte_0 octet_Lower_0 octet_Loose64_0 letter_wide_0 letter_unquoted_0 κ
abbrev m9 (κ : ByteArray → Int → Option R) := letter_encoded_0.L9 strings_HasPrefix_0 strings_IndexByte_0 octet_Lower_0 octet_Loose64_0 letter_wide_0 letter_unquoted_0 κ
theorem m14_eq (κ : ByteArray → Int → Option R) (f : Nat) (l cs how : List UInt8) (hl : l.length ≤ 110000) (a e : Nat) (h1 : a ≤ e) (h2 : e ≤ l.length) : m14 κ (f + 1) (B l) (B cs) (B how) (a : Int) (e : Int) = κ (B (decG cs how ((l.take e).drop a))) ((e + 2 : Nat) : Int) := by
  unfold m14
  rw [letter_encoded_0.L14, letter_encoded_0.t14, size_B]
  have hw : IntKind.wrap .i64 ((e : Int) + 2) = ((e + 2 : Nat) : Int) := wrap_i64 (by omega) (by omega)
  rw [hw, chk_and, chk_dec (by omega), chk_and, chk_dec (by omega), chk_dec (by omega), extract_B]
  simp only [Int.toNat_natCast]
  have hq : ((l.take e).drop a).length ≤ l.length := by rw [List.length_drop, List.length_take]; omega
  generalize (l.take e).drop a = q at hq ⊢
  have h1 := b64_len (vs64 q)
  have h2 := vs64_len q
  have h3 := unq_len q
  rw [show (⟨#[98]⟩ : ByteArray) = B [98] from rfl, show (⟨#[105, 115, 111, 45, 56, 56, 53, 57, 45, 49]⟩ : ByteArray) = B iso from rfl, lLoose_eq q (by omega), lUnq_eq q (by omega), lWide_eq _ (by omega), lWide_eq _ (by omega)]
  simp only [litB]
  unfold decG
  cases decide (how = [98]) <;> cases decide (cs = iso) <;> rfl
theorem m12_eq (κ : ByteArray → Int → Option R) (f : Nat) (l cs how : List UInt8) (hl : l.length ≤ 110000) (a e : Nat) (h1 : a ≤ e) (h2 : e ≤ l.length) (k : Bool) (hk : k = (decide (cs = usA) || (decide (cs = ut8) || decide (cs = iso)))) :
    m12 κ (f + 2) (B l) (B cs) (B how) (a : Int) (e : Int) k = bif knownCs cs how && List.isPrefixOf [63, 61] (l.drop e) then κ (B (decG cs how ((l.take e).drop a))) ((e + 2 : Nat) : Int) else κ (B []) 0 := by
  unfold m12
  rw [letter_encoded_0.L12, letter_encoded_0.t12]
  have h14 : letter_encoded_0.L14 strings_HasPrefix_0 strings_IndexByte_0 octet_Lower_0 octet_Loose64_0 letter_wide_0 letter_unquoted_0 κ (f + 1) (B l) (B cs) (B how) (a : Int) (e : Int) = κ (B (decG cs how ((l.take e).drop a))) ((e + 2 : Nat) : Int) := m14_eq κ f l cs how hl a e h1 h2
  rw [h14, size_B, chk_and, chk_dec (by omega), chk_and, chk_dec (by omega), chk_dec (by omega), extract_B]
  rw [show (⟨#[98]⟩ : ByteArray) = B [98] from rfl, show (⟨#[113]⟩ : ByteArray) = B [113] from rfl, show (⟨#[63, 61]⟩ : ByteArray) = B [63, 61] from rfl, empty_B]
  simp only [Int.toNat_natCast, List.take_length, hasPrefixB, litN]
  unfold knownCs
  rw [← hk]
  cases k <;> cases decide (how = [98]) <;> cases decide (how = [113]) <;> cases List.isPrefixOf [63, 61] (l.drop e) <;> rfl
theorem m9_eq (κ : ByteArray → Int → Option R) (l cs how : List UInt8) (hl : l.length ≤ 110000) (a : Nat) : ∀ (f i : Nat), i ≤ l.length → a ≤ i → l.length + 3 < i + f →
    m9 κ f (B l) (B cs) (B how) (a : Int) (i : Int) = bif knownCs cs how && List.isPrefixOf [63, 61] (l.drop (i + ((l.drop i).takeWhile isQ).length)) then κ (B (decG cs how ((l.take (i + ((l.drop i).takeWhile isQ).length)).drop a))) ((i + ((l.drop i).takeWhile isQ).length + 2 : Nat) : Int) else κ (B []) 0
  | 0, i, h1, h2, h3 => by omega
  | 1, i, h1, h2, h3 => by omega
  | 2, i, h1, h2, h3 => by omega
  | f + 3, i, h1, h2, h3 => by
    unfold m9
    rw [letter_encoded_0.L9, letter_encoded_0.t9]
    have hw1 : IntKind.wrap .i64 ((i : Int) + 1) = ((i + 1 : Nat) : Int) := wrap_i64 (by omega) (by omega)
    rw [show (⟨#[105, 115, 111, 45, 56, 56, 53, 57, 45, 49]⟩ : ByteArray) = B iso from rfl, show (⟨#[117, 116, 102, 45, 56]⟩ : ByteArray) = B ut8 from rfl, show (⟨#[117, 115, 45, 97, 115, 99, 105, 105]⟩ : ByteArray) = B usA from rfl]
    have stop : (bif decide (B cs = B usA) then letter_encoded_0.L12 strings_HasPrefix_0 strings_IndexByte_0 octet_Lower_0 octet_Loose64_0 letter_wide_0 letter_unquoted_0 κ (f + 2) (B l) (B cs) (B how) (a : Int) (i : Int) true
        else (bif decide (B cs = B ut8) then letter_encoded_0.L12 strings_HasPrefix_0 strings_IndexByte_0 octet_Lower_0 octet_Loose64_0 letter_wide_0 letter_unquoted_0 κ (f + 2) (B l) (B cs) (B how) (a : Int) (i : Int) true
        else letter_encoded_0.L12 strings_HasPrefix_0 strings_IndexByte_0 octet_Lower_0 octet_Loose64_0 letter_wide_0 letter_unquoted_0 κ (f + 2) (B l) (B cs) (B how) (a : Int) (i : Int) (decide (B cs = B iso)))) = bif knownCs cs how && List.isPrefixOf [63, 61] (l.drop i) then κ (B (decG cs how ((l.take i).drop a))) ((i + 2 : Nat) : Int) else κ (B []) 0 := by
      have e3 : decide (B cs = B iso) = decide (cs = iso) := by rw [decide_eq_decide]; exact B_inj
      simp only [litB, e3]
      cases c1 : decide (cs = usA) with
      | true => exact m12_eq κ f l cs how hl a i h2 h1 true (by rw [c1]; rfl)
      | false =>
        cases c2 : decide (cs = ut8) with
        | true => exact m12_eq κ f l cs how hl a i h2 h1 true (by rw [c1, c2]; rfl)
        | false => exact m12_eq κ f l cs how hl a i h2 h1 _ (by rw [c1, c2]; rfl)
    rw [stop]
    simp only [size_B]
    cases hd : l.drop i with
    | nil =>
      have := drop_nil hd
      rw [cond_dec' (by omega)]
      simp only [List.takeWhile_nil, List.length_nil, Nat.add_zero]
      rw [hd]
    | cons c r =>
      obtain ⟨g1, g2, g3⟩ := drop_get hd
      simp (disch := omega) only [cond_dec, chk_and, chk_dec, btB g1, hw1]
      rw [byteN c 63 63 rfl, List.takeWhile_cons]
      have ih := m9_eq κ l cs how hl a (f + 2) (i + 1) (by omega) (by omega) (by omega)
      rw [g3] at ih
      have out : isQ c = false → (bif knownCs cs how && List.isPrefixOf [63, 61] (c :: r) then κ (B (decG cs how ((l.take i).drop a))) ((i + 2 : Nat) : Int) else κ (B []) 0) = bif knownCs cs how && List.isPrefixOf [63, 61] (l.drop (i + (if isQ c = true then c :: r.takeWhile isQ else []).length)) then κ (B (decG cs how ((l.take (i + (if isQ c = true then c :: r.takeWhile isQ else []).length)).drop a))) ((i + (if isQ c = true then c :: r.takeWhile isQ else []).length + 2 : Nat) : Int) else κ (B []) 0 := by
        intro h
        rw [if_neg (by rw [h]; simp)]
        simp only [List.length_nil, Nat.add_zero]
        rw [hd]
      by_cases p1 : 33 ≤ c.toNat
      · by_cases p2 : c.toNat ≤ 126
        · rw [cond_dec (by omega), cond_dec (by omega)]
          have hp : prn c = true := by unfold prn; rw [decide_eq_true p1, decide_eq_true p2]; rfl
          cases hn : (c != 63) with
          | true =>
            have hq : isQ c = true := by unfold isQ nq; rw [hp, hn]; rfl
            rw [if_pos hq]
            simp only [cond_true, List.length_cons]
            refine ih.trans ?_
            rw [show i + 1 + (r.takeWhile isQ).length = i + ((r.takeWhile isQ).length + 1) by omega]
          | false =>
            have hq : isQ c = false := by unfold isQ nq; rw [hp, hn]; rfl
            exact out hq
        · rw [cond_dec (by omega), cond_dec' (by omega)]
          exact out (by unfold isQ prn; rw [decide_eq_false p2]; simp)
      · rw [cond_dec' (by omega)]
        exact out (by unfold isQ prn; rw [decide_eq_false p1]; simp)
end Go.Proofs.Ab

/- Encoded words, by the program: the whole. -/
namespace Go.Proofs.Ab
set_option linter.unusedVariables false
set_option maxRecDepth 4000
open Go
variable {R : Type}
theorem dsome (x a : UInt8) : decide (some x = some a) = (a == x) := by
  rw [Bool.eq_iff_iff, decide_eq_true_eq, beq_iff_eq]
  exact ⟨fun h => (Option.some.inj h).symm, fun h => by rw [h]⟩
theorem sIB63 (l : List UInt8) (κ : Int → Option R) : strings_IndexByte_0 (B l) 63 κ = κ (Lib.indexByte l 63) := sIB_eq l 63 κ
theorem prefix2 (a b : UInt8) (l : List UInt8) : List.isPrefixOf [a, b] l = (decide (l[0]? = some a) && decide (l[1]? = some b)) := by
  match l with
  | [] => rfl
  | [x] => simp [List.isPrefixOf]
  | x :: y :: r =>
    show (a == x && (b == y && true)) = (decide (some x = some a) && decide (some y = some b))
    rw [dsome, dsome, Bool.and_true]
theorem lEnc_eq (l : List UInt8) (hs : l.length ≤ 110000) (κ : ByteArray → Int → Option R) :
    letter_encoded_0 (B l) κ = bif isE l then κ (B (decG (eCs l) (eHow l) (eQ l))) ((eE l + 2 : Nat) : Int) else κ (B []) 0 := by
  have key : ∀ f, l.length + 5 < f → letter_encoded_0.e strings_HasPrefix_0 strings_IndexByte_0 octet_Lower_0 octet_Loose64_0 letter_wide_0 letter_unquoted_0 (B l) (m9 κ f) (m12 κ f) (m14 κ f) κ = bif isE l then κ (B (decG (eCs l) (eHow l) (eQ l))) ((eE l + 2 : Nat) : Int) else κ (B []) 0 := by
    intro f hf
    unfold letter_encoded_0.e
    rw [empty_B, size_B, show (⟨#[61, 63]⟩ : ByteArray) = B [61, 63] from rfl, hasPrefixB, prefix2]
    have no : isE l = false → κ (B []) 0 = bif isE l then κ (B (decG (eCs l) (eHow l) (eQ l))) ((eE l + 2 : Nat) : Int) else κ (B []) 0 := by intro h; rw [h]; rfl
    cases c0 : decide (l[0]? = some 61) with
    | false => exact no (by unfold isE; rw [c0]; rfl)
    | true =>
      cases c1 : decide (l[1]? = some 63) with
      | false => exact no (by unfold isE; rw [c1]; simp)
      | true =>
        have g1 : l[1]? = some 63 := by simpa using c1
        have hl1 := (List.getElem?_eq_some_iff.1 g1).1
        simp only [Bool.and_self, Bool.not_true, cond_false]
        rw [chk_and, chk_dec (by omega), chk_dec (by omega), extract_B, Int.toNat_natCast, List.take_length, show ((2 : Int)).toNat = 2 from rfl, sIB63]
        have ea : eA l = 2 + ((l.drop 2).takeWhile nq).length := rfl
        have hle := (List.takeWhile_prefix nq (l := l.drop 2)).length_le
        rw [List.length_drop] at hle
        rcases idx_mk (l.drop 2) with ⟨m1, m2⟩ | ⟨m1, m2⟩
        · rw [m1]
          have hw : IntKind.wrap .i64 (-1 + 2) = 1 := by decide
          simp only [hw]
          rw [cond_dec (by omega)]
          refine no ?_
          have : l[eA l]? = none := by rw [ea, m2, List.length_drop]; exact List.getElem?_eq_none (by omega)
          unfold isE; rw [this]; simp
        · have gA : l[eA l]? = some 63 := by rw [List.getElem?_drop] at m2; exact m2
          have hA := (List.getElem?_eq_some_iff.1 gA).1
          rw [m1]
          have hw : IntKind.wrap .i64 ((((l.drop 2).takeWhile nq).length : Int) + 2) = (eA l : Int) := by rw [wrap_i64 (by omega) (by omega)]; omega
          have hw1 : IntKind.wrap .i64 ((eA l : Int) + 1) = ((eA l + 1 : Nat) : Int) := wrap_i64 (by omega) (by omega)
          have hw2 : IntKind.wrap .i64 ((eA l : Int) + 2) = ((eA l + 2 : Nat) : Int) := wrap_i64 (by omega) (by omega)
          have hw3 : IntKind.wrap .i64 ((eA l : Int) + 3) = ((eA l + 3 : Nat) : Int) := wrap_i64 (by omega) (by omega)
          simp only [hw, hw1, hw2, hw3]
          rw [cond_dec' (by omega)]
          by_cases ha : eA l + 2 < l.length
          · rw [cond_dec' (by omega), chk_and, chk_dec (by omega), chk_dec (by omega)]
            have g2 : l[eA l + 2]? = some l[eA l + 2] := List.getElem?_eq_getElem ha
            rw [btB g2, byteN _ 63 63 rfl]
            by_cases h3 : l[eA l + 2] = 63
            · rw [show (l[eA l + 2] != 63) = false by simpa using h3]
              simp only [cond_false]
              rw [chk_and, chk_dec (by omega), chk_dec (by omega), extract_B, oLower_eq _ (by rw [List.length_drop, List.length_take]; omega)]
              rw [chk_and, chk_dec (by omega), chk_and, chk_dec (by omega), chk_dec (by omega), extract_B, oLower_eq _ (by rw [List.length_drop, List.length_take]; omega)]
              simp only [Int.toNat_natCast]
              have := m9_eq κ l (eCs l) (eHow l) hs (eA l + 3) f (eA l + 3) (by omega) (by omega) (by omega)
              refine (this : m9 κ f (B l) (B (eCs l)) (B (eHow l)) ((eA l + 3 : Nat) : Int) ((eA l + 3 : Nat) : Int) = _).trans ?_
              have eq : eQ l = (l.drop (eA l + 3)).takeWhile nq := rfl
              have hE : isE l = (decide (l[eE l]? = some 63) && (decide (l[eE l + 1]? = some 61) && ((eQ l).all prn && knownCs (eCs l) (eHow l)))) := by
                unfold isE
                rw [c0, c1, gA, g2, h3]
                simp
              cases hall : (eQ l).all prn with
              | true =>
                have ht : (l.drop (eA l + 3)).takeWhile isQ = eQ l := tq_all _ hall
                rw [ht, show eA l + 3 + (eQ l).length = eE l from rfl, prefix2]
                simp only [List.getElem?_drop, Nat.add_zero]
                rw [hE, hall]
                have hq : (l.take (eE l)).drop (eA l + 3) = eQ l := by
                  rw [List.drop_take]
                  have hp := List.prefix_iff_eq_take.1 (List.takeWhile_prefix nq (l := l.drop (eA l + 3)))
                  have e2 : eE l - (eA l + 3) = ((l.drop (eA l + 3)).takeWhile nq).length := by
                    have : eE l = eA l + 3 + ((l.drop (eA l + 3)).takeWhile nq).length := rfl
                    omega
                  rw [e2]; exact hp.symm
                rw [hq]
                cases decide (l[eE l]? = some 63) <;> cases decide (l[eE l + 1]? = some 61) <;> cases knownCs (eCs l) (eHow l) <;> rfl
              | false =>
                obtain ⟨c, hc, hn⟩ := tq_not _ hall
                rw [prefix2]
                simp only [List.getElem?_drop, Nat.add_zero]
                rw [List.getElem?_drop] at hc
                rw [hc, hE, hall]
                have : decide (some c = some (63 : UInt8)) = false := by simpa using hn
                rw [this]
                simp
            · rw [show (l[eA l + 2] != 63) = true by simpa using h3]
              exact no (by unfold isE; rw [g2]; simp [h3])
          · rw [cond_dec (by omega)]
            exact no (by unfold isE; rw [List.getElem?_eq_none (i := eA l + 2) (by omega)]; simp)
  exact key fuelK (by unfold fuelK; omega)
end Go.Proofs.Ab

/- Words: both programs read alike; LetterWords. -/
namespace Go.Proofs.Ab
set_option linter.unusedVariables false
set_option maxRecDepth 4000
open Go
variable {R : Type}
theorem isE_le {v : List UInt8} (h : isE v = true) : eE v + 2 ≤ v.length := by
  unfold isE at h
  simp only [Bool.and_eq_true, decide_eq_true_eq] at h
  have := (List.getElem?_eq_some_iff.1 h.2.2.2.2.2.1).1
  omega
theorem decG_len (cs how q : List UInt8) : (decG cs how q).length ≤ 2 * q.length := by
  have h1 := b64_len (vs64 q)
  have h2 := vs64_len q
  have h3 := unq_len q
  have h4 := wideL_len (b64 (vs64 q))
  have h5 := wideL_len (unq q)
  unfold decG
  cases decide (cs = iso) <;> cases decide (how = [98]) <;> simp <;> omega
def decV (v : List UInt8) : List UInt8 := decG (eCs v) (eHow v) (eQ v)
theorem decV_len {v : List UInt8} : (decV v).length ≤ 2 * (eE v + 2) := by
  have h1 := decG_len (eCs v) (eHow v) (eQ v)
  have h2 : eE v = eA v + 3 + (eQ v).length := rfl
  unfold decV; omega
/-- What Words answers: text so far, blanks behind an encoded word, whether one stands ahead, what is left. -/
def wdG (o g : List UInt8) (b : Bool) (v : List UInt8) : List UInt8 :=
  match h : v with
  | [] => o ++ g
  | c :: r => if isE (c :: r) = true then wdG (o ++ decV (c :: r)) [] true ((c :: r).drop (eE (c :: r) + 2))
    else if (b && isBl c) = true then wdG o (g ++ [c]) b r else wdG (o ++ (g ++ [c])) [] false r
termination_by v.length
decreasing_by
  · rw [List.length_drop]; simp only [List.length_cons]; omega
  · simp
  · simp
theorem wdG_nil (o g : List UInt8) (b : Bool) : wdG o g b [] = o ++ g := by rw [wdG]
theorem wdG_cons (o g : List UInt8) (b : Bool) (c : UInt8) (r : List UInt8) : wdG o g b (c :: r) = if isE (c :: r) = true then wdG (o ++ decV (c :: r)) [] true ((c :: r).drop (eE (c :: r) + 2))
    else if (b && isBl c) = true then wdG o (g ++ [c]) b r else wdG (o ++ (g ++ [c])) [] false r := by rw [wdG]
theorem wStrI (acc s : List UInt8) (κ : Int → List AV → Option R) (h : acc.length + s.length ≤ 1000000000) : strings_Builder_WriteString_vxfes (intsAV acc) (B s) κ = κ (s.length : Int) (intsAV (acc ++ s)) := by
  have := ints_len acc
  rw [wString_eq _ _ _ (by rw [size_B]; omega), size_B, bytesB, ints_append]
end Go.Proofs.Ab

/- Subjects: what the rules say, on lists of bytes. -/
namespace Go.Proofs.Ab
set_option linter.unusedVariables false
set_option maxRecDepth 4000
open Go
variable {R : Type}
/-- Runs of blanks and line ends as one blank; a run goes on already, or not. -/
def sgl : Bool → List UInt8 → List UInt8
  | _, [] => []
  | g, c :: r => if isSp c = true then (if g = true then sgl true r else 32 :: sgl true r) else c :: sgl false r
theorem sgl_len : ∀ (l : List UInt8) (g : Bool), (sgl g l).length ≤ l.length
  | [], g => by simp [sgl]
  | c :: r, g => by
    have h1 := sgl_len r true
    have h2 := sgl_len r false
    unfold sgl
    split
    · split
      · simp; omega
      · simp; omega
    · simp; omega
def is32 (c : UInt8) : Bool := c == 32
def isBr (c : UInt8) : Bool := c == 91 || c == 93
def nBr (c : UInt8) : Bool := !isBr c
/-- How many blanks a text begins with. -/
def bN (s : List UInt8) : Nat := (s.takeWhile is32).length
theorem bN_le (s : List UInt8) : bN s ≤ s.length := (List.takeWhile_prefix _).length_le
/-- Where the first bracket stands. -/
def kN (s : List UInt8) : Nat := (s.takeWhile nBr).length
theorem kN_le (s : List UInt8) : kN s ≤ s.length := (List.takeWhile_prefix _).length_le
/-- How long the blob is that a text begins with; 0: there is none. -/
def blobN : List UInt8 → Nat
  | [] => 0
  | c :: r => if c = 91 then (if r[kN r]? = some 93 then kN r + 2 + bN (r.drop (kN r + 1)) else 0) else 0
theorem blobN_cons (c : UInt8) (r : List UInt8) : blobN (c :: r) = if c = 91 then (if r[kN r]? = some 93 then kN r + 2 + bN (r.drop (kN r + 1)) else 0) else 0 := rfl
theorem blobN_le (s : List UInt8) : blobN s ≤ s.length := by
  cases s with
  | nil => simp [blobN]
  | cons c r =>
    rw [blobN_cons]
    split
    · split
      · rename_i h
        have h1 := (List.getElem?_eq_some_iff.1 h).1
        have := bN_le (r.drop (kN r + 1))
        rw [List.length_drop] at this
        simp only [List.length_cons]; omega
      · simp
    · simp
theorem blobN_pos {s : List UInt8} (h : blobN s ≠ 0) : 2 ≤ blobN s := by
  cases s with
  | nil => simp [blobN] at h
  | cons c r =>
    rw [blobN_cons] at h ⊢
    split at h
    · split at h
      · rename_i h1 h2
        rw [if_pos h1, if_pos h2]; omega
      · omega
    · omega
/-- How long the blobs are that a text begins with. -/
def blobs (s : List UInt8) : Nat := if h : blobN s = 0 then 0 else blobN s + blobs (s.drop (blobN s))
termination_by s.length
decreasing_by
  have := blobN_le s
  rw [List.length_drop]; omega
theorem blobs_0 {s : List UInt8} (h : blobN s = 0) : blobs s = 0 := by rw [blobs, dif_pos h]
theorem blobs_s {s : List UInt8} (h : blobN s ≠ 0) : blobs s = blobN s + blobs (s.drop (blobN s)) := by rw [blobs, dif_neg h]
theorem blobs_le : ∀ (n : Nat) (s : List UInt8), s.length ≤ n → blobs s ≤ s.length
  | 0, s, h => by
    have : s = [] := List.length_eq_zero_iff.1 (by omega)
    subst this; rw [blobs_0 rfl]; simp
  | n + 1, s, h => by
    by_cases e : blobN s = 0
    · rw [blobs_0 e]; omega
    · have h1 := blobN_le s
      have h2 := blobN_pos e
      have := blobs_le n (s.drop (blobN s)) (by rw [List.length_drop]; omega)
      rw [List.length_drop] at this
      rw [blobs_s e]; omega
/-- How long the mark is that a text begins with; 0: there is none. -/
def wrdN (s : List UInt8) : Nat := if lowL (s.take 2) = [114, 101] then 2 else if lowL (s.take 3) = [102, 119, 100] then 3 else if lowL (s.take 2) = [102, 119] then 2 else 0
/-- How long that is which ends a mark, with its colon; 0: there is none. -/
def aftN (s : List UInt8) : Nat := if s[bN s + blobN (s.drop (bN s))]? = some 58 then bN s + blobN (s.drop (bN s)) + 1 else 0
def leadN (s : List UInt8) : Nat := if wrdN (s.drop (blobs s)) = 0 then 0 else if aftN (s.drop (blobs s + wrdN (s.drop (blobs s)))) = 0 then 0 else blobs s + wrdN (s.drop (blobs s)) + aftN (s.drop (blobs s + wrdN (s.drop (blobs s))))
theorem aftN_le (s : List UInt8) : aftN s ≤ s.length := by
  unfold aftN
  split
  · rename_i h
    have := (List.getElem?_eq_some_iff.1 h).1
    omega
  · omega
theorem leadN_le (s : List UInt8) : leadN s ≤ s.length := by
  unfold leadN
  split
  · omega
  · split
    · omega
    · rename_i h1 h2
      have := aftN_le (s.drop (blobs s + wrdN (s.drop (blobs s))))
      rw [List.length_drop] at this
      omega
def fwdE : List UInt8 := [40, 102, 119, 100, 41]
def fwdB : List UInt8 := [91, 102, 119, 100, 58]
/-- One rule: what is left, and whether it marks. -/
def stepB (t : List UInt8) : Option (List UInt8 × Bool) :=
  if t.getLast? = some 32 then some (t.dropLast, false)
  else if lowL (t.drop (t.length - 5)) = fwdE then some (t.take (t.length - 5), true)
  else if t.head? = some 32 then some (t.drop 1, false)
  else if 0 < leadN t then some (t.drop (leadN t), true)
  else if 0 < blobN t ∧ blobN t < t.length then some (t.drop (blobN t), false)
  else if lowL (t.take 5) = fwdB ∧ t.getLast? = some 93 then some ((t.drop 5).dropLast, true)
  else none
theorem stepB_lt {t u : List UInt8} {b : Bool} (h : stepB t = some (u, b)) : u.length < t.length := by
  unfold stepB at h
  have hne : ∀ x, t.getLast? = some x → t ≠ [] := by rintro x hx rfl; cases hx
  split at h
  · rename_i h1
    have := List.length_pos_iff.2 (hne _ h1)
    cases h; rw [List.length_dropLast]; omega
  · split at h
    · rename_i h1
      have := congrArg List.length h1
      rw [lowL_len, List.length_drop] at this
      simp [fwdE] at this
      cases h; rw [List.length_take]; omega
    · split at h
      · rename_i h1
        cases t with
        | nil => cases h1
        | cons c r => cases h; simp
      · split at h
        · rename_i h1
          have := leadN_le t
          cases h; rw [List.length_drop]; omega
        · split at h
          · rename_i h1
            cases h; rw [List.length_drop]; omega
          · split at h
            · rename_i h1
              have := List.length_pos_iff.2 (hne _ h1.2)
              cases h; rw [List.length_dropLast, List.length_drop]; omega
            · cases h
/-- All rules, as long as there is something for one. -/
def baseG (t : List UInt8) (m : Bool) : List UInt8 × Bool :=
  match h : stepB t with
  | none => (t, m)
  | some (u, b) => baseG u (m || b)
termination_by t.length
decreasing_by exact stepB_lt h
theorem baseG_none {t : List UInt8} {m : Bool} (h : stepB t = none) : baseG t m = (t, m) := by
  rw [baseG]; split
  · rfl
  · rename_i h2; rw [h] at h2; cases h2
theorem baseG_some {t u : List UInt8} {m b : Bool} (h : stepB t = some (u, b)) : baseG t m = baseG u (m || b) := by
  rw [baseG]; split
  · rename_i h2; rw [h] at h2; cases h2
  · rename_i h2; rw [h] at h2; cases h2; rfl
end Go.Proofs.Ab

/- Subjects: what does not change the base. -/
namespace Go.Proofs.Ab
set_option linter.unusedVariables false
set_option maxRecDepth 4000
open Go
variable {R : Type}
theorem baseG_mark : ∀ (n : Nat) (t : List UInt8) (m : Bool), t.length ≤ n → baseG t m = ((baseG t false).1, m || (baseG t false).2)
  | n, t, m, hn => by
    cases h : stepB t with
    | none => rw [baseG_none h, baseG_none h]; simp
    | some x =>
      obtain ⟨u, b⟩ := x
      have hl := stepB_lt h
      cases n with
      | zero => omega
      | succ n =>
        rw [baseG_some h, baseG_some h, baseG_mark n u (m || b) (by omega), baseG_mark n u (false || b) (by omega)]
        simp [Bool.or_assoc]
theorem baseG_true (t : List UInt8) : baseG t true = ((baseG t false).1, true) := by rw [baseG_mark t.length t true (Nat.le_refl _)]; rfl
theorem baseG_fix : ∀ (n : Nat) (t : List UInt8) (m : Bool), t.length ≤ n → stepB (baseG t m).1 = none
  | n, t, m, hn => by
    cases h : stepB t with
    | none => rw [baseG_none h]; exact h
    | some x =>
      obtain ⟨u, b⟩ := x
      have hl := stepB_lt h
      cases n with
      | zero => omega
      | succ n => rw [baseG_some h]; exact baseG_fix n u _ (by omega)
theorem stepB_infix {t u : List UInt8} {b : Bool} (h : stepB t = some (u, b)) : ∃ a c, t = a ++ u ++ c := by
  unfold stepB at h
  have dl : ∀ x : List UInt8, ∃ c, x = x.dropLast ++ c := by
    intro x
    by_cases e : x = []
    · subst e; exact ⟨[], rfl⟩
    · exact ⟨[x.getLast e], (List.dropLast_concat_getLast e).symm⟩
  split at h
  · cases h; obtain ⟨c, hc⟩ := dl t; exact ⟨[], c, by simpa using hc⟩
  · split at h
    · cases h; exact ⟨[], t.drop (t.length - 5), by simp⟩
    · split at h
      · cases h; exact ⟨t.take 1, [], by rw [List.append_nil, List.take_append_drop]⟩
      · split at h
        · cases h; exact ⟨t.take (leadN t), [], by rw [List.append_nil, List.take_append_drop]⟩
        · split at h
          · cases h; exact ⟨t.take (blobN t), [], by rw [List.append_nil, List.take_append_drop]⟩
          · split at h
            · cases h
              obtain ⟨c, hc⟩ := dl (t.drop 5)
              exact ⟨t.take 5, c, by rw [List.append_assoc, ← hc, List.take_append_drop]⟩
            · cases h
theorem baseG_infix : ∀ (n : Nat) (t : List UInt8) (m : Bool), t.length ≤ n → ∃ a c, t = a ++ (baseG t m).1 ++ c
  | n, t, m, hn => by
    cases h : stepB t with
    | none => rw [baseG_none h]; exact ⟨[], [], by simp⟩
    | some x =>
      obtain ⟨u, b⟩ := x
      have hl := stepB_lt h
      cases n with
      | zero => omega
      | succ n =>
        obtain ⟨a, c, hac⟩ := stepB_infix h
        obtain ⟨a2, c2, h2⟩ := baseG_infix n u (m || b) (by omega)
        rw [baseG_some h]
        refine ⟨a ++ a2, c2 ++ c, ?_⟩
        rw [hac]
        conv => lhs; rw [h2]
        simp
/-! ## Blanks -/
theorem sgl_cons (g : Bool) (c : UInt8) (r : List UInt8) : sgl g (c :: r) = if isSp c = true then (if g = true then sgl true r else 32 :: sgl true r) else c :: sgl false r := by rw [sgl]
theorem sgl_idem : ∀ (l : List UInt8) (g : Bool), sgl g (sgl g l) = sgl g l
  | [], g => by cases g <;> rfl
  | c :: r, g => by
    have h1 := sgl_idem r true
    have h2 := sgl_idem r false
    rw [sgl_cons]
    split
    · split
      · rename_i hc hg; rw [hg]; exact h1
      · rename_i hc hg
        rw [sgl_cons, if_pos (by rfl), if_neg hg, h1]
    · rename_i hc
      rw [sgl_cons, if_neg hc, h2]
/-- A run that goes on, behind a text. -/
def gA (g : Bool) (a : List UInt8) : Bool := match a.getLast? with | none => g | some c => isSp c
theorem gA_cons (g : Bool) (c : UInt8) (r : List UInt8) : gA g (c :: r) = gA (isSp c) r := by
  unfold gA
  cases r with
  | nil => rfl
  | cons d r => rw [List.getLast?_cons_cons]; cases h : (d :: r).getLast? with
    | none => simp at h
    | some x => rfl
theorem sgl_append : ∀ (a b : List UInt8) (g : Bool), sgl g (a ++ b) = sgl g a ++ sgl (gA g a) b
  | [], b, g => by rfl
  | c :: r, b, g => by
    have h1 := sgl_append r b true
    have h2 := sgl_append r b false
    rw [List.cons_append, sgl_cons, sgl_cons, gA_cons]
    cases hc : isSp c with
    | true =>
      rw [if_pos rfl, if_pos rfl, h1]
      split
      · rfl
      · rfl
    | false =>
      rw [if_neg (by simp), if_neg (by simp), h2]; rfl
theorem sgl_infix {a u c : List UInt8} (h : sgl false (a ++ u ++ c) = a ++ u ++ c) : sgl false u = u := by
  rw [sgl_append, sgl_append] at h
  have l1 := sgl_len a false
  have l2 := sgl_len u (gA false a)
  have l3 := sgl_len c (gA false (a ++ u))
  have hl := congrArg List.length h
  simp only [List.length_append] at hl
  have h1 := List.append_inj h (by simp only [List.length_append]; omega)
  have h2 := (List.append_inj h1.1 (by omega)).2
  generalize gA false a = g at h2 l2
  cases g with
  | false => exact h2
  | true =>
    cases u with
    | nil => rfl
    | cons d r =>
      rw [sgl_cons] at h2 ⊢
      cases hd : isSp d with
      | true =>
        rw [hd, if_pos rfl, if_pos rfl] at h2
        have := sgl_len r true
        rw [h2] at this; simp at this
        omega
      | false => rw [hd, if_neg (by simp)] at h2; rw [if_neg (by simp)]; exact h2
/-! ## The base -/
theorem baseG_nil (m : Bool) : baseG [] m = ([], m) := baseG_none (by kernel_rfl)
theorem stepB_sp (t : List UInt8) : stepB (t ++ [32]) = some (t, false) := by
  unfold stepB
  rw [if_pos (by simp), List.dropLast_concat]
theorem base_sp (t : List UInt8) (m : Bool) : baseG (t ++ [32]) m = baseG t m := by rw [baseG_some (stepB_sp t), Bool.or_false]
theorem fwd_last {x : List UInt8} (h : lowL x = fwdE) : x.length = 5 ∧ x.getLast? = some 41 := by
  have h1 := congrArg List.length h
  rw [lowL_len] at h1
  have h2 := congrArg List.getLast? h
  unfold lowL fwdE at h2
  rw [List.getLast?_map] at h2
  refine ⟨h1, ?_⟩
  cases hx : x.getLast? with
  | none => rw [hx] at h2; cases h2
  | some c =>
    rw [hx] at h2
    have h3 : lowC c = 41 := by simpa using h2
    unfold lowC at h3
    split at h3
    · rename_i h4
      have := congrArg UInt8.toNat h3
      simp at this; omega
    · rw [h3]
theorem stepB_fwd (t x : List UInt8) (h : lowL x = fwdE) : stepB (t ++ x) = some (t, true) := by
  obtain ⟨h1, h2⟩ := fwd_last h
  unfold stepB
  have h3 : (t ++ x).getLast? = some 41 := by rw [List.getLast?_append, h2]; rfl
  have h4 : (t ++ x).length - 5 = t.length := by rw [List.length_append, h1]; omega
  rw [h3, if_neg (by decide), h4, List.drop_left, if_pos h, List.take_left]
theorem base_fwd (t x : List UInt8) (m : Bool) (h : lowL x = fwdE) : baseG (t ++ x) m = baseG t true := by rw [baseG_some (stepB_fwd t x h), Bool.or_true]
/-- What stands at a text's end: a blank, (fwd), or neither. -/
theorem ends_of (u : List UInt8) : u = [] ∨ (∃ t, u = t ++ [32]) ∨ (∃ t x, u = t ++ x ∧ lowL x = fwdE) ∨ (u ≠ [] ∧ u.getLast? ≠ some 32 ∧ lowL (u.drop (u.length - 5)) ≠ fwdE) := by
  by_cases h0 : u = []
  · exact .inl h0
  · by_cases h1 : u.getLast? = some 32
    · refine .inr (.inl ⟨u.dropLast, ?_⟩)
      rw [List.getLast?_eq_some_getLast h0] at h1
      have := List.dropLast_concat_getLast h0
      rw [Option.some.inj h1] at this
      exact this.symm
    · by_cases h2 : lowL (u.drop (u.length - 5)) = fwdE
      · exact .inr (.inr (.inl ⟨u.take (u.length - 5), u.drop (u.length - 5), (List.take_append_drop _ _).symm, h2⟩))
      · exact .inr (.inr (.inr ⟨h0, h1, h2⟩))
theorem lowC_40 {c : UInt8} (h : lowC c = 40) : c = 40 := by
  unfold lowC at h
  split at h
  · have := congrArg UInt8.toNat h
    simp at this; omega
  · exact h
theorem no_fwd (p u : List UInt8) (hp : ∀ c ∈ p, c ≠ 40) (h2 : lowL (u.drop (u.length - 5)) ≠ fwdE) : lowL ((p ++ u).drop ((p ++ u).length - 5)) ≠ fwdE := by
  by_cases hl : 5 ≤ u.length
  · have : (p ++ u).length - 5 = p.length + (u.length - 5) := by rw [List.length_append]; omega
    rw [this, ← List.drop_drop, List.drop_left]; exact h2
  · intro e
    have hh := congrArg List.head? e
    unfold lowL at hh
    rw [List.head?_map] at hh
    cases hx : ((p ++ u).drop ((p ++ u).length - 5)).head? with
    | none => rw [hx] at hh; cases hh
    | some c =>
      rw [hx] at hh
      have h3 : c = 40 := lowC_40 (by simpa [fwdE] using hh)
      have h5 := congrArg List.length e
      rw [show lowL = List.map lowC from rfl, List.length_map, List.length_drop] at h5
      simp only [fwdE, List.length_append, List.length_cons, List.length_nil] at h5
      rw [List.head?_drop, List.getElem?_append_left (by rw [List.length_append]; omega)] at hx
      exact hp c (List.mem_of_getElem? hx) h3
theorem base_lead : ∀ (n : Nat) (u : List UInt8) (m : Bool), u.length ≤ n → baseG (32 :: u) m = baseG u m
  | n, u, m, hn => by
    rcases ends_of u with rfl | ⟨t, rfl⟩ | ⟨t, x, rfl, hx⟩ | ⟨h0, h1, h2⟩
    · exact base_sp [] m
    · cases n with
      | zero => simp at hn
      | succ n =>
        rw [base_sp, ← List.cons_append, base_sp]
        exact base_lead n t m (by simp at hn; omega)
    · have := (fwd_last hx).1
      cases n with
      | zero => rw [List.length_append] at hn; omega
      | succ n =>
        rw [base_fwd _ _ _ hx, ← List.cons_append, base_fwd _ _ _ hx]
        exact base_lead n t true (by rw [List.length_append] at hn; omega)
    · have hs : stepB (32 :: u) = some (u, false) := by
        unfold stepB
        have h3 : (32 :: u).getLast? = u.getLast? := by cases u with | nil => exact absurd rfl h0 | cons c r => exact List.getLast?_cons_cons
        have h5 := no_fwd [32] u (by decide) h2
        rw [List.singleton_append] at h5
        rw [h3, if_neg h1, if_neg h5, List.head?_cons, if_pos rfl]; rfl
      rw [baseG_some hs, Bool.or_false]
theorem base_mark (q : List UInt8) (hq : ∀ c ∈ q, c ≠ 40) (hh : q.head? ≠ some 32) (hl : ∃ q', q = q' ++ [58]) (hn : leadN q = q.length) (hu : ∀ u, leadN (q ++ 32 :: u) = q.length) :
    ∀ (n : Nat) (u : List UInt8) (m : Bool), u.length ≤ n → baseG (q ++ 32 :: u) m = baseG u true
  | n, u, m, hn' => by
    have hq32 : ∀ c ∈ q ++ [32], c ≠ 40 := by
      intro c hc
      rcases List.mem_append.1 hc with h | h
      · exact hq c h
      · rw [List.mem_singleton.1 h]; decide
    obtain ⟨q', rfl⟩ := hl
    rcases ends_of u with rfl | ⟨t, rfl⟩ | ⟨t, x, rfl, hx⟩ | ⟨h0, h1, h2⟩
    · rw [base_sp]
      have hs : stepB (q' ++ [58]) = some ([], true) := by
        unfold stepB
        rw [List.getLast?_append]
        have h5 := no_fwd (q' ++ [58]) [] hq (by decide)
        rw [List.append_nil] at h5
        rw [if_neg (by simp), if_neg h5, if_neg hh, if_pos (by rw [hn]; simp), hn, List.drop_length]
      rw [baseG_some hs, Bool.or_true]
    · cases n with
      | zero => simp at hn'
      | succ n =>
        have := base_mark (q' ++ [58]) hq hh ⟨q', rfl⟩ hn hu n t m (by simp at hn'; omega)
        rw [base_sp, ← List.cons_append, ← List.append_assoc, base_sp]
        exact this
    · have hx5 := (fwd_last hx).1
      cases n with
      | zero => rw [List.length_append] at hn'; omega
      | succ n =>
        have := base_mark (q' ++ [58]) hq hh ⟨q', rfl⟩ hn hu n t true (by rw [List.length_append] at hn'; omega)
        rw [base_fwd _ _ _ hx, ← List.cons_append, ← List.append_assoc, base_fwd _ _ _ hx]
        exact this
    · have hs : stepB (q' ++ [58] ++ 32 :: u) = some (32 :: u, true) := by
        unfold stepB
        have h3 : (q' ++ [58] ++ 32 :: u).getLast? = u.getLast? := by
          rw [List.getLast?_append]
          cases u with | nil => exact absurd rfl h0 | cons c r => rw [List.getLast?_cons_cons]; cases h : (c :: r).getLast? with | none => simp at h | some x => rfl
        have h4 : (q' ++ [58] ++ 32 :: u).head? ≠ some 32 := by
          rw [List.head?_append]
          cases h : (q' ++ [58]).head? with
          | none => simp at h
          | some x => rw [h] at hh; exact hh
        have h5 := no_fwd (q' ++ [58] ++ [32]) u hq32 h2
        rw [List.append_assoc, List.singleton_append] at h5
        rw [h3, if_neg h1, if_neg h5, if_neg h4, hu u, if_pos (by simp), List.drop_left]
      rw [baseG_some hs, Bool.or_true, base_lead u.length u true (Nat.le_refl _)]
end Go.Proofs.Ab

/- strings.IndexAny for the two brackets. -/
namespace Go.Proofs.Ab
set_option linter.unusedVariables false
set_option maxRecDepth 4000
open Go
variable {R : Type}
theorem getB {l : List UInt8} {k : Nat} {c : UInt8} (h : l[k]? = some c) : (B l).get! k = c := by
  show l.toArray[k]! = c
  simp [h]
theorem dec_lo {l : List UInt8} {i : Nat} {c : UInt8} (h : l[i]? = some c) (hc : c.toNat < 128) : Utf8.decode (B l) i = (c.toNat, 1) := by
  unfold Utf8.decode
  simp only [Nat.add_zero, getB h]
  rw [if_pos hc]
theorem dec_cont {l : List UInt8} {i k : Nat} (h : (decide (i + k < (B l).size) && ((B l).get! (i + k)).toNat / 64 == 2) = true) : ∃ d, l[i + k]? = some d ∧ 128 ≤ d.toNat := by
  simp only [Bool.and_eq_true, decide_eq_true_eq, beq_iff_eq, size_B] at h
  refine ⟨l[i + k], List.getElem?_eq_getElem h.1, ?_⟩
  have := getB (List.getElem?_eq_getElem h.1)
  rw [this] at h
  omega
theorem dec_hi {l : List UInt8} {i : Nat} {c : UInt8} (h : l[i]? = some c) (hc : 128 ≤ c.toNat) :
    ∃ r w, Utf8.decode (B l) i = (r, w) ∧ 128 ≤ r ∧ 1 ≤ w ∧ i + w ≤ l.length ∧ (∀ j, i ≤ j → j < i + w → ∃ d, l[j]? = some d ∧ 128 ≤ d.toNat) := by
  have hi := (List.getElem?_eq_some_iff.1 h).1
  have one : ∀ j, i ≤ j → j < i + 1 → ∃ d, l[j]? = some d ∧ 128 ≤ d.toNat := by
    intro j h1 h2
    obtain rfl : j = i := by omega
    exact ⟨c, h, hc⟩
  have bad : ∃ r w, (Utf8.runeError, 1) = (r, w) ∧ 128 ≤ r ∧ 1 ≤ w ∧ i + w ≤ l.length ∧ (∀ j, i ≤ j → j < i + w → ∃ d, l[j]? = some d ∧ 128 ≤ d.toNat) :=
    ⟨_, _, rfl, by unfold Utf8.runeError; omega, by omega, by omega, one⟩
  unfold Utf8.decode
  simp only [Nat.add_zero, getB h]
  rw [if_neg (by omega)]
  split
  · rename_i h1
    obtain ⟨d1, e1, f1⟩ := dec_cont (Bool.and_eq_true_iff.1 h1).2
    have l1 := (List.getElem?_eq_some_iff.1 e1).1
    split
    · rename_i h2
      refine ⟨_, _, rfl, h2, by omega, by omega, fun j j1 j2 => ?_⟩
      rcases Nat.lt_or_ge j (i + 1) with hj | hj
      · exact one j j1 hj
      · obtain rfl : j = i + 1 := by omega
        exact ⟨d1, e1, f1⟩
    · exact bad
  · split
    · rename_i _ h1
      have h1' := Bool.and_eq_true_iff.1 h1
      obtain ⟨d1, e1, f1⟩ := dec_cont (Bool.and_eq_true_iff.1 h1'.1).2
      obtain ⟨d2, e2, f2⟩ := dec_cont h1'.2
      have l2 := (List.getElem?_eq_some_iff.1 e2).1
      split
      · rename_i h2
        have h3 := of_decide_eq_true (Bool.and_eq_true_iff.1 h2).1
        refine ⟨_, _, rfl, by omega, by omega, by omega, fun j j1 j2 => ?_⟩
        rcases Nat.lt_or_ge j (i + 1) with hj | hj
        · exact one j j1 hj
        · rcases Nat.lt_or_ge j (i + 2) with hk | hk
          · obtain rfl : j = i + 1 := by omega
            exact ⟨d1, e1, f1⟩
          · obtain rfl : j = i + 2 := by omega
            exact ⟨d2, e2, f2⟩
      · exact bad
    · split
      · rename_i _ _ h1
        have h1' := Bool.and_eq_true_iff.1 h1
        have h1'' := Bool.and_eq_true_iff.1 h1'.1
        obtain ⟨d1, e1, f1⟩ := dec_cont (Bool.and_eq_true_iff.1 h1''.1).2
        obtain ⟨d2, e2, f2⟩ := dec_cont h1''.2
        obtain ⟨d3, e3, f3⟩ := dec_cont h1'.2
        have l3 := (List.getElem?_eq_some_iff.1 e3).1
        split
        · rename_i h2
          have h3 := of_decide_eq_true (Bool.and_eq_true_iff.1 h2).1
          refine ⟨_, _, rfl, by omega, by omega, by omega, fun j j1 j2 => ?_⟩
          rcases Nat.lt_or_ge j (i + 1) with hj | hj
          · exact one j j1 hj
          · rcases Nat.lt_or_ge j (i + 2) with hk | hk
            · obtain rfl : j = i + 1 := by omega
              exact ⟨d1, e1, f1⟩
            · rcases Nat.lt_or_ge j (i + 3) with hm | hm
              · obtain rfl : j = i + 2 := by omega
                exact ⟨d2, e2, f2⟩
              · obtain rfl : j = i + 3 := by omega
                exact ⟨d3, e3, f3⟩
        · exact bad
      · exact bad
theorem enc_hi (r : Nat) (h : 128 ≤ r) : (∃ a b, Utf8.encode (r : Int) = B [a, b] ∧ 128 ≤ b.toNat) ∨ (Utf8.encode (r : Int)).size = 3 ∨ (Utf8.encode (r : Int)).size = 4 := by
  unfold Utf8.encode
  simp only [Int.toNat_natCast]
  have hc : 128 ≤ (if Utf8.valid (r : Int) = true then r else Utf8.runeError) := by
    split
    · exact h
    · unfold Utf8.runeError; omega
  revert hc
  generalize (if Utf8.valid (r : Int) = true then r else Utf8.runeError) = c
  intro hc
  rw [if_neg (by omega)]
  split
  · left
    refine ⟨_, _, rfl, ?_⟩
    simp; omega
  · split
    · exact .inr (.inl rfl)
    · exact .inr (.inr rfl)
theorem ir_succ (c1 : strings_IndexByte_0.F R) (c2 : utf8_ValidRune_0.F R) (c3 : bytealg_Cutover_0.F R) (κ : Int → Option R) (f : Nat) (x0 : ByteArray) (x1 : Int) (x2 : ByteArray) (x3 x4 x5 : Int) :
    strings_IndexRune_0.L5 c1 c2 c3 κ (f + 1) x0 x1 x2 x3 x4 x5 = strings_IndexRune_0.t5 c1 c2 c3 x0 x1 x2 x3 x4 x5 (strings_IndexRune_0.L5 c1 c2 c3 κ f) (strings_IndexRune_0.L12 c1 c2 c3 κ f) (fun _ _ => none) κ := by
  unfold strings_IndexRune_0.L5 strings_IndexRune_0.L12
  rw [strings_IndexRune_0.M5]
theorem ir_38 (κ : Int → Option R) (f : Nat) : strings_IndexRune_0.L38 strings_IndexByte_0 utf8_ValidRune_0 bytealg_Cutover_0 κ (f + 3) (B [91, 93]) 0 = κ (-1) := by
  have d0 : Utf8.decode (B [91, 93]) 0 = (91, 1) := dec_lo (l := [91, 93]) (i := 0) (c := 91) rfl (by decide)
  have d1 : Utf8.decode (B [91, 93]) (0 + 1) = (93, 1) := dec_lo (l := [91, 93]) (i := 1) (c := 93) rfl (by decide)
  have hs : (B [91, 93]).size = 2 := rfl
  rw [strings_IndexRune_0.L38, strings_IndexRune_0.t38, hs, cond_dec (by omega), d0]
  rw [show (((91, 1) : Nat × Nat).1 : Int) = 91 from rfl, beq_neg (by omega), show (((91, 1) : Nat × Nat).2) = 1 from rfl]
  simp only [cond_false]
  rw [strings_IndexRune_0.L38, strings_IndexRune_0.t38, hs, cond_dec (by omega), d1]
  rw [show (((93, 1) : Nat × Nat).1 : Int) = 93 from rfl, beq_neg (by omega), show (((93, 1) : Nat × Nat).2) = 1 from rfl]
  simp only [cond_false]
  rw [strings_IndexRune_0.L38, strings_IndexRune_0.t38, hs, cond_dec' (by omega)]
theorem ir_5 (r : Nat) (h : 128 ≤ r) (κ : Int → Option R) (f : Nat) :
    strings_IndexRune_0.L5 strings_IndexByte_0 utf8_ValidRune_0 bytealg_Cutover_0 κ (f + 1) (B [91, 93]) (r : Int) (Utf8.encode (r : Int)) (IntKind.wrap .i64 (((Utf8.encode (r : Int)).size : Int) - 1)) (IntKind.wrap .i64 (((Utf8.encode (r : Int)).size : Int) - 1)) 0 = κ (-1) := by
  have hs : (B [91, 93]).size = 2 := rfl
  rw [ir_succ, strings_IndexRune_0.t5, hs]
  rcases enc_hi r h with ⟨a, b, he, hb⟩ | he | he
  · rw [he, show (B [a, b]).size = 2 from rfl, wrap_i64 (x := ((2 : Nat) : Int) - 1) (by omega) (by omega)]
    have hb1 : btA (B [a, b]) (((2 : Nat) : Int) - 1) = (b.toNat : Int) := btB (l := [a, b]) (i := 1) rfl
    have hb2 : btA (B [91, 93]) (((2 : Nat) : Int) - 1) = (93 : Int) := btB (l := [91, 93]) (i := 1) rfl
    rw [hb1, hb2, wrap_i64 (x := ((2 : Nat) : Int) - 1 + 1) (by omega) (by omega)]
    have hx : (B [91, 93]).extract (((2 : Nat) : Int) - 1 + 1).toNat (((2 : Nat) : Int)).toNat = B [] := rfl
    rw [bne_pos (by omega), hx]
    simp (disch := omega) only [cond_dec, chk_and, chk_dec, cond_true]
    rw [sIB_eq, show Lib.indexByte [] b = -1 from rfl, cond_dec (by omega)]
  · rw [he, wrap_i64 (x := ((3 : Nat) : Int) - 1) (by omega) (by omega), cond_dec' (by omega)]
  · rw [he, wrap_i64 (x := ((4 : Nat) : Int) - 1) (by omega) (by omega), cond_dec' (by omega)]
theorem vr_cases (r : Int) (x : Option R) : utf8_ValidRune_0 r (fun r1 => bif (!r1) then x else x) = x := by
  unfold utf8_ValidRune_0 utf8_ValidRune_0.e
  cases decide ((0 : Int) ≤ r) <;> cases decide (r < (55296 : Int)) <;> cases decide ((57343 : Int) < r) <;> cases decide (r ≤ (1114111 : Int)) <;> rfl
theorem ir_hi (r : Nat) (h : 128 ≤ r) (κ : Int → Option R) : strings_IndexRune_0 (B [91, 93]) (r : Int) κ = κ (-1) := by
  have key : ∀ f, 3 ≤ f → strings_IndexRune_0.e strings_IndexByte_0 utf8_ValidRune_0 bytealg_Cutover_0 (B [91, 93]) (r : Int) (strings_IndexRune_0.L5 strings_IndexByte_0 utf8_ValidRune_0 bytealg_Cutover_0 κ f)
      (strings_IndexRune_0.L12 strings_IndexByte_0 utf8_ValidRune_0 bytealg_Cutover_0 κ f) (strings_IndexRune_0.L38 strings_IndexByte_0 utf8_ValidRune_0 bytealg_Cutover_0 κ f) κ = κ (-1) := by
    intro f hf
    obtain ⟨n, rfl⟩ : ∃ n, f = n + 3 := ⟨f - 3, by omega⟩
    unfold strings_IndexRune_0.e
    rw [cond_dec (by omega), cond_dec' (by omega), ir_38, ir_5 r h κ (n + 2), vr_cases]
    cases ((r : Int) == 65533) <;> simp only [cond_true, cond_false]
  exact key fuelK (by unfold fuelK; omega)
theorem br_index (c : UInt8) : decide (Lib.indexByte [91, 93] c ≥ 0) = isBr c := by
  have := all_bytes (p := fun c => decide (Lib.indexByte [91, 93] c ≥ 0) == isBr c) (by kernel_rfl) c
  simpa using this
theorem ir_lo (c : UInt8) (h : c.toNat < 128) (κ : Int → Option R) : strings_IndexRune_0 (B [91, 93]) (c.toNat : Int) κ = κ (Lib.indexByte [91, 93] c) := by
  unfold strings_IndexRune_0 strings_IndexRune_0.e
  rw [cond_dec (by omega), cond_dec (by omega), wrap_u8 (by omega) (by omega), sIB_eq]
/-- Where the first bracket stands, counted from a place; -1: there is none. -/
def faI (i : Nat) (s : List UInt8) : Int := if kN s < s.length then ((i + kN s : Nat) : Int) else -1
theorem kN_cons (c : UInt8) (r : List UInt8) : kN (c :: r) = if nBr c = true then kN r + 1 else 0 := by
  unfold kN; rw [List.takeWhile_cons]; split <;> rfl
theorem faI_nil (i : Nat) : faI i [] = -1 := rfl
theorem faI_yes (i : Nat) (c : UInt8) (r : List UInt8) (h : isBr c = true) : faI i (c :: r) = i := by
  have hk : kN (c :: r) = 0 := by rw [kN_cons, show nBr c = false by unfold nBr; rw [h]; rfl]; rfl
  unfold faI; rw [hk, if_pos (by simp), Nat.add_zero]
theorem faI_no (i : Nat) (c : UInt8) (r : List UInt8) (h : isBr c = false) : faI i (c :: r) = faI (i + 1) r := by
  unfold faI; rw [kN_cons, show nBr c = true by unfold nBr; rw [h]; rfl, if_pos rfl]
  by_cases e : kN r < r.length
  · rw [if_pos (by simp only [List.length_cons]; omega), if_pos e]; omega
  · rw [if_neg (by simp only [List.length_cons]; omega), if_neg e]
theorem hi_br {c : UInt8} (h : 128 ≤ c.toNat) : isBr c = false := by
  have := all_bytes (p := fun c => decide (c.toNat < 128) || !isBr c) (by kernel_rfl) c
  simp only [Bool.or_eq_true, decide_eq_true_eq, Bool.not_eq_true'] at this
  rcases this with h1 | h1
  · omega
  · exact h1
theorem faI_skip (l : List UInt8) (i : Nat) : ∀ w, (∀ j, i ≤ j → j < i + w → ∃ d, l[j]? = some d ∧ 128 ≤ d.toNat) → faI i (l.drop i) = faI (i + w) (l.drop (i + w))
  | 0, h => rfl
  | w + 1, h => by
    rw [faI_skip l i w (fun j h1 h2 => h j h1 (by omega))]
    obtain ⟨d, h1, h2⟩ := h (i + w) (by omega) (by omega)
    obtain ⟨hlt, hv⟩ := List.getElem?_eq_some_iff.1 h1
    rw [List.drop_eq_getElem_cons hlt, hv, faI_no _ _ _ (hi_br h2)]; rfl
def brSet : List AV := setA (setA (List.replicate 256 (AV.bool false)) 91 (AV.bool true)) 93 (AV.bool true)
theorem brSet_all : (List.range 256).all (fun n => (rdA brSet (n : Int)).b == isBr (UInt8.ofNat n)) = true := by kernel_rfl
theorem containsBr (c : UInt8) (κ : Bool → Option R) : strings_asciiSet_contains_hi brSet (c.toNat : Int) κ = κ (isBr c) := by
  unfold strings_asciiSet_contains_hi strings_asciiSet_contains_hi.e
  have hlt := byte_lt c
  simp (disch := omega) only [chk_and, chk_dec]
  have := List.all_eq_true.1 brSet_all c.toNat (List.mem_range.2 hlt)
  rw [beq_iff_eq] at this
  rw [this, UInt8.ofNat_toNat]
theorem makeBr (κ : List AV → Bool → Option R) : strings_makeASCIISet_0 (⟨#[91, 93]⟩ : ByteArray) κ = κ brSet true := by kernel_rfl
theorem ia_L12 (l : List UInt8) (hs : l.length ≤ 1000000) (κ : Int → Option R) : ∀ (f i : Nat), i ≤ l.length → l.length < i + f →
    strings_IndexAny_0.L12 strings_IndexRune_0 strings_shouldUseASCIISet_0 strings_makeASCIISet_0 strings_asciiSet_contains_hi κ f (B l) brSet (i : Int) = κ (faI i (l.drop i))
  | 0, i, h1, h2 => by omega
  | f + 1, i, h1, h2 => by
    rw [strings_IndexAny_0.L12, strings_IndexAny_0.t12]
    have hw1 : IntKind.wrap .i64 ((i : Int) + 1) = ((i + 1 : Nat) : Int) := wrap_i64 (by omega) (by omega)
    simp only [size_B, hw1]
    cases hd : l.drop i with
    | nil =>
      have := drop_nil hd
      rw [cond_dec' (by omega)]; rfl
    | cons c r =>
      obtain ⟨g1, g2, g3⟩ := drop_get hd
      simp (disch := omega) only [cond_dec, chk_and, chk_dec, btB g1, containsBr]
      cases hb : isBr c with
      | true => rw [faI_yes _ _ _ hb]; rfl
      | false => rw [faI_no _ _ _ hb, ← g3]; exact ia_L12 l hs κ f (i + 1) (by omega) (by omega)
theorem ia_L18 (l : List UInt8) (hs : l.length ≤ 1000000) (κ : Int → Option R) : ∀ (f i : Nat), i ≤ l.length → l.length < i + f →
    strings_IndexAny_0.L18 strings_IndexRune_0 strings_shouldUseASCIISet_0 strings_makeASCIISet_0 strings_asciiSet_contains_hi κ f (B [91, 93]) (B l) i = κ (faI i (l.drop i))
  | 0, i, h1, h2 => by omega
  | f + 1, i, h1, h2 => by
    rw [strings_IndexAny_0.L18, strings_IndexAny_0.t18]
    simp only [size_B]
    cases hd : l.drop i with
    | nil =>
      have := drop_nil hd
      rw [cond_dec' (by omega)]; rfl
    | cons c r =>
      obtain ⟨g1, g2, g3⟩ := drop_get hd
      rw [cond_dec (by omega)]
      by_cases hc : c.toNat < 128
      · rw [dec_lo g1 hc]
        simp only
        rw [ir_lo c hc, br_index]
        cases hb : isBr c with
        | true => rw [faI_yes _ _ _ hb]; rfl
        | false => rw [faI_no _ _ _ hb, ← g3]; exact ia_L18 l hs κ f (i + 1) (by omega) (by omega)
      · obtain ⟨rn, w, hdec, h3, h4, h5, h6⟩ := dec_hi g1 (by omega)
        rw [hdec, ← hd, faI_skip l i w h6]
        simp only
        rw [ir_hi rn h3, cond_dec' (by omega)]
        exact ia_L18 l hs κ f (i + w) (by omega) (by omega)
theorem should_eq (x : Int) (κ : Bool → Option R) : strings_shouldUseASCIISet_0 x κ = κ (decide (x > (8 : Int))) := rfl
theorem sIA_eq (l : List UInt8) (hs : l.length ≤ 1000000) (κ : Int → Option R) : strings_IndexAny_0 (B l) (B [91, 93]) κ = κ (faI 0 l) := by
  have key : ∀ f, l.length < f → strings_IndexAny_0.e strings_IndexRune_0 strings_shouldUseASCIISet_0 strings_makeASCIISet_0 strings_asciiSet_contains_hi (B l) (B [91, 93])
      (strings_IndexAny_0.L12 strings_IndexRune_0 strings_shouldUseASCIISet_0 strings_makeASCIISet_0 strings_asciiSet_contains_hi κ f) (strings_IndexAny_0.L18 strings_IndexRune_0 strings_shouldUseASCIISet_0 strings_makeASCIISet_0 strings_asciiSet_contains_hi κ f) κ = κ (faI 0 l) := by
    intro f hf
    have h12 := ia_L12 l hs κ f 0 (by omega) (by omega)
    have h18 := ia_L18 l hs κ f 0 (by omega) (by omega)
    rw [List.drop_zero] at h12 h18
    unfold strings_IndexAny_0.e
    rw [empty_B, should_eq]
    simp only [size_B, B_inj]
    rw [cond_dec' (by simp), beq_neg (by simp)]
    simp only [cond_false]
    rw [show (B [91, 93] : ByteArray) = (⟨#[91, 93]⟩ : ByteArray) from rfl, makeBr]
    rw [show ((⟨#[91, 93]⟩ : ByteArray)) = B [91, 93] from rfl]
    simp only [cond_true]
    rw [show ((0 : Int)) = ((0 : Nat) : Int) from rfl, h12, h18]
    cases decide ((l.length : Int) > 8) <;> rfl
  exact key fuelK (by unfold fuelK; omega)
end Go.Proofs.Ab

/- The base of a subject, by the program. -/
namespace Go.Proofs.Ab
set_option linter.unusedVariables false
set_option maxRecDepth 4000
open Go
variable {R : Type}
theorem lOne_loop (s : List UInt8) (hs : s.length ≤ 1000000) (κ : ByteArray → Option R) : ∀ (f i : Nat) (g : Bool) (acc : List UInt8), i ≤ s.length → s.length < i + f → acc.length ≤ i →
    letter_one_0.L4 letter_isSpace_0 strings_Builder_WriteByte_vxfei strings_Builder_String_vxfe κ f (B s) g (s.length : Int) (i : Int) (intsAV acc) = κ (B (acc ++ sgl g (s.drop i)))
  | 0, i, g, acc, h1, h2, h3 => by omega
  | f + 1, i, g, acc, h1, h2, h3 => by
    rw [letter_one_0.L4, letter_one_0.t4]
    have hal := ints_len acc
    have hw1 : IntKind.wrap .i64 ((i : Int) + 1) = ((i + 1 : Nat) : Int) := wrap_i64 (by omega) (by omega)
    simp only [size_B, bString_eq, hw1]
    cases hd : s.drop i with
    | nil =>
      have := drop_nil hd
      rw [cond_dec' (by omega)]
      cases g <;> simp [sgl]
    | cons c r =>
      obtain ⟨g1, g2, g3⟩ := drop_get hd
      rw [sgl_cons]
      simp (disch := omega) only [cond_dec, chk_and, chk_dec, btB g1, lSpace_eq, wByte_eq]
      rw [show AV.int 32 = AV.int ((32 : UInt8).toNat : Int) from rfl]
      simp only [ints_snoc]
      cases hc : isSp c with
      | false =>
        simp only [Bool.not_false, cond_true, Bool.false_eq_true, if_false]
        rw [lOne_loop s hs κ f (i + 1) false (acc ++ [c]) (by omega) (by omega) (by simp; omega), g3]
        simp
      | true =>
        simp only [Bool.not_true, cond_false, if_true]
        cases g with
        | false =>
          simp only [Bool.not_false, cond_true, Bool.false_eq_true, if_false]
          rw [lOne_loop s hs κ f (i + 1) true (acc ++ [32]) (by omega) (by omega) (by simp; omega), g3]
          simp
        | true =>
          simp only [Bool.not_true, cond_false, if_true]
          rw [lOne_loop s hs κ f (i + 1) true acc (by omega) (by omega) (by omega), g3]
theorem lOne_eq (s : List UInt8) (hs : s.length ≤ 1000000) (κ : ByteArray → Option R) : letter_one_0 (B s) κ = κ (B (sgl false s)) := by
  have key : ∀ f, s.length < f → letter_one_0.e letter_isSpace_0 strings_Builder_WriteByte_vxfei strings_Builder_String_vxfe (B s) (letter_one_0.L4 letter_isSpace_0 strings_Builder_WriteByte_vxfei strings_Builder_String_vxfe κ f) κ = κ (B (sgl false s)) := by
    intro f hf
    have := lOne_loop s hs κ f 0 false [] (by omega) (by omega) (by simp)
    rw [List.nil_append, List.drop_zero] at this
    unfold letter_one_0.e
    rw [size_B]
    exact this
  exact key fuelK (by unfold fuelK; omega)
theorem bN_cons (c : UInt8) (r : List UInt8) : bN (c :: r) = if c = 32 then bN r + 1 else 0 := by
  unfold bN is32; rw [List.takeWhile_cons]
  by_cases h : c = 32
  · simp [h]
  · simp [h]
theorem lBlanks_eq (s : List UInt8) (hs : s.length ≤ 1000000) (i : Nat) (hi : i ≤ s.length) (κ : Int → Option R) : letter_blanks_0 (B s) (i : Int) κ = κ ((i + bN (s.drop i) : Nat) : Int) := by
  have loop : ∀ (f i : Nat), i ≤ s.length → s.length < i + f → letter_blanks_0.L1 κ f (B s) (i : Int) = κ ((i + bN (s.drop i) : Nat) : Int) := by
    intro f
    induction f with
    | zero => intro i h1 h2; omega
    | succ f ih =>
      intro i h1 h2
      rw [letter_blanks_0.L1, letter_blanks_0.t1]
      have hw1 : IntKind.wrap .i64 ((i : Int) + 1) = ((i + 1 : Nat) : Int) := wrap_i64 (by omega) (by omega)
      simp only [size_B, hw1]
      cases hd : s.drop i with
      | nil =>
        have := drop_nil hd
        rw [cond_dec' (by omega)]; rfl
      | cons c r =>
        obtain ⟨g1, g2, g3⟩ := drop_get hd
        simp (disch := omega) only [cond_dec, chk_and, chk_dec, btB g1]
        rw [byteB c 32 32 rfl, bN_cons]
        by_cases e : c = 32
        · rw [if_pos e, e, ih (i + 1) (by omega) (by omega), g3]
          simp only [BEq.rfl, cond_true]
          congr 2; omega
        · rw [if_neg e, show (c == 32) = false by simpa using e]; rfl
  have key : ∀ f, s.length < f → letter_blanks_0.e (B s) (i : Int) (letter_blanks_0.L1 κ f) κ = κ ((i + bN (s.drop i) : Nat) : Int) := fun f hf => loop f i hi (by omega)
  exact key fuelK (by unfold fuelK; omega)
theorem kN_br : ∀ (r : List UInt8), kN r < r.length → ∃ d, r[kN r]? = some d ∧ isBr d = true
  | [], h => by simp at h
  | c :: r, h => by
    rw [kN_cons] at h ⊢
    cases hb : isBr c with
    | true =>
      have hn : nBr c = false := by unfold nBr; rw [hb]; rfl
      rw [hn]
      exact ⟨c, rfl, hb⟩
    | false =>
      have hn : nBr c = true := by unfold nBr; rw [hb]; rfl
      rw [hn, if_pos rfl] at h
      rw [hn, if_pos rfl]
      obtain ⟨d, h1, h2⟩ := kN_br r (by simp only [List.length_cons] at h; omega)
      exact ⟨d, by rw [List.getElem?_cons_succ]; exact h1, h2⟩
theorem br_cases {c : UInt8} (h : isBr c = true) : c = 91 ∨ c = 93 := by
  unfold isBr at h
  simpa using h
theorem lBlob_eq (s : List UInt8) (hs : s.length ≤ 1000000) (κ : Int → Option R) : letter_blob_0 (B s) κ = κ (blobN s : Int) := by
  unfold letter_blob_0 letter_blob_0.e
  rw [empty_B]
  simp only [B_inj, size_B]
  cases s with
  | nil => rfl
  | cons c r =>
    have hl : (c :: r).length = r.length + 1 := rfl
    have hb : btA (B (c :: r)) 0 = c.toNat := btB (i := 0) rfl
    rw [cond_dec' (by simp), chk_dec (by omega), hb, byteN c 91 91 rfl, blobN_cons]
    by_cases e : c = 91
    · rw [if_pos e, show (c != 91) = false by simp [e]]
      simp only [cond_false]
      have hx : (B (c :: r)).extract (1 : Int).toNat (((c :: r).length : Nat) : Int).toNat = B r := by rw [extract_B, Int.toNat_natCast, List.take_length]; rfl
      rw [chk_and, chk_dec (by omega), chk_dec (by omega), hx, show ((⟨#[91, 93]⟩ : ByteArray)) = B [91, 93] from rfl, sIA_eq r (by omega)]
      by_cases hk : kN r < r.length
      · have hf : IntKind.wrap .i64 (faI 0 r + 1) = ((kN r + 1 : Nat) : Int) := by
          unfold faI; rw [if_pos hk, wrap_i64 (by omega) (by omega)]; omega
        rw [hf, beq_neg (by omega)]
        obtain ⟨d, h1, h2⟩ := kN_br r hk
        have hd : (c :: r)[kN r + 1]? = some d := by rw [List.getElem?_cons_succ]; exact h1
        simp only [cond_false]
        rw [chk_and, chk_dec (by omega), chk_dec (by omega), btB hd, byteB d 91 91 rfl, h1]
        rcases br_cases h2 with rfl | rfl
        · rw [if_neg (by decide)]; rfl
        · rw [if_pos rfl]
          have hw : IntKind.wrap .i64 (((kN r + 1 : Nat) : Int) + 1) = ((kN r + 2 : Nat) : Int) := by rw [wrap_i64 (by omega) (by omega)]; omega
          rw [show ((93 : UInt8) == 91) = false from rfl, hw]
          simp only [cond_false]
          rw [lBlanks_eq (c :: r) hs _ (by omega)]; rfl
      · have hf : IntKind.wrap .i64 (faI 0 r + 1) = 0 := by unfold faI; rw [if_neg hk, wrap_i64 (by omega) (by omega)]; rfl
        rw [hf, beq_pos rfl, if_neg (by rw [List.getElem?_eq_none (by omega)]; decide)]; rfl
    · rw [if_neg e, show (c != 91) = true by simpa using e]; rfl
theorem lSame_eq (a b : List UInt8) (ha : a.length ≤ 1000000) (hb : b.length ≤ 1000000) (κ : Bool → Option R) : octet_Same_0 (B a) (B b) κ = κ (decide (lowL a = lowL b)) := by
  unfold octet_Same_0 octet_Same_0.e
  rw [oLower_eq _ ha, oLower_eq _ hb]
  simp only [B_inj]
theorem lBegin_eq (s w : List UInt8) (hs : s.length ≤ 1000000) (hw : w.length ≤ 1000000) (κ : Bool → Option R) : letter_begin_0 (B s) (B w) κ = κ (decide (lowL (s.take w.length) = lowL w)) := by
  unfold letter_begin_0 letter_begin_0.e
  simp only [size_B]
  by_cases h : w.length ≤ s.length
  · rw [cond_dec (by omega), chk_and, chk_dec (by omega), chk_dec (by omega), extract_B, lSame_eq _ _ (by rw [Int.toNat_natCast, Int.toNat_zero, List.drop_zero, List.length_take]; omega) hw, Int.toNat_natCast]
    rfl
  · rw [cond_dec' (by omega)]
    congr 1
    symm; rw [decide_eq_false_iff_not]
    intro e; have := congrArg List.length e
    rw [lowL_len, lowL_len, List.length_take] at this; omega
/-- The end of a mark behind a word of k signs. -/
def endN (s : List UInt8) (i k : Nat) (w : List UInt8) : Nat := if lowL ((s.drop i).take k) = w then aftN (s.drop (i + k)) else 0
def markWs : List AV := [AV.str (⟨#[114, 101]⟩ : ByteArray), AV.str (⟨#[102, 119, 100]⟩ : ByteArray), AV.str (⟨#[102, 119]⟩ : ByteArray)]
theorem aft_at (s : List UInt8) (j : Nat) : aftN (s.drop j) = if s[j + bN (s.drop j) + blobN (s.drop (j + bN (s.drop j)))]? = some 58 then bN (s.drop j) + blobN (s.drop (j + bN (s.drop j))) + 1 else 0 := by
  unfold aftN
  rw [List.drop_drop, List.getElem?_drop, ← Nat.add_assoc j]
theorem ans7_step (s : List UInt8) (hs : s.length ≤ 1000000) (i : Nat) (hi : i ≤ s.length) (n : Nat) (hn : n < 3) (w : List UInt8) (hw : (rdA markWs (n : Int)).s = B w) (hlw : lowL w = w) (hwl : w.length ≤ 3) (κ : Int → Option R) (f : Nat) :
    letter_answered_0.L7 letter_blob_0 letter_begin_0 letter_blanks_0 κ (f + 1) (B s) (i : Int) 3 (n : Int) markWs
      = if endN s i w.length w = 0 then letter_answered_0.L7 letter_blob_0 letter_begin_0 letter_blanks_0 κ f (B s) (i : Int) 3 ((n + 1 : Nat) : Int) markWs else κ ((i + w.length + endN s i w.length w : Nat) : Int) := by
  rw [letter_answered_0.L7, letter_answered_0.t7, hw]
  have hml : markWs.length = 3 := rfl
  have hw1 : IntKind.wrap .i64 ((n : Int) + 1) = ((n + 1 : Nat) : Int) := wrap_i64 (by omega) (by omega)
  have hw2 : IntKind.wrap .i64 ((i : Int) + (w.length : Int)) = ((i + w.length : Nat) : Int) := wrap_i64 (by omega) (by omega)
  simp only [size_B, hml, hw1, hw2, extract_B, Int.toNat_natCast, List.take_length]
  rw [cond_dec (by omega), chk_and, chk_dec (by omega), chk_dec (by omega), chk_and, chk_dec (by omega), chk_and, chk_dec (by omega), chk_dec (by omega), lBegin_eq _ _ (by rw [List.length_drop]; omega) (by omega), hlw]
  unfold endN
  by_cases e : lowL ((s.drop i).take w.length) = w
  · have hlen : i + w.length ≤ s.length := by
      have := congrArg List.length e
      rw [lowL_len, List.length_take, List.length_drop] at this; omega
    rw [if_pos e, decide_eq_true e]
    simp only [Bool.not_true, cond_false]
    rw [lBlanks_eq s hs _ hlen]
    have hb := bN_le (s.drop (i + w.length))
    rw [List.length_drop] at hb
    simp only [Int.toNat_natCast]
    rw [chk_and, chk_dec (by omega), chk_and, chk_dec (by omega), chk_dec (by omega), lBlob_eq _ (by rw [List.length_drop]; omega)]
    have hbl := blobN_le (s.drop (i + w.length + bN (s.drop (i + w.length))))
    rw [List.length_drop] at hbl
    have hw3 : IntKind.wrap .i64 (((i + w.length + bN (s.drop (i + w.length)) : Nat) : Int) + (blobN (s.drop (i + w.length + bN (s.drop (i + w.length)))) : Int)) = ((i + w.length + bN (s.drop (i + w.length)) + blobN (s.drop (i + w.length + bN (s.drop (i + w.length)))) : Nat) : Int) := wrap_i64 (by omega) (by omega)
    simp only [hw3]
    have hA := aft_at s (i + w.length)
    by_cases hlt : i + w.length + bN (s.drop (i + w.length)) + blobN (s.drop (i + w.length + bN (s.drop (i + w.length)))) < s.length
    · rw [cond_dec (by omega), chk_and, chk_dec (by omega), chk_dec (by omega), btB (List.getElem?_eq_getElem hlt), byteB _ 58 58 rfl]
      rw [List.getElem?_eq_getElem hlt] at hA
      by_cases e2 : s[i + w.length + bN (s.drop (i + w.length)) + blobN (s.drop (i + w.length + bN (s.drop (i + w.length))))] = 58
      · rw [e2, if_pos rfl] at hA
        rw [e2, hA]
        simp only [BEq.rfl, cond_true]
        rw [if_neg (by omega), wrap_i64 (by omega) (by omega)]
        congr 1; omega
      · rw [if_neg (by simpa using e2)] at hA
        rw [show (s[i + w.length + bN (s.drop (i + w.length)) + blobN (s.drop (i + w.length + bN (s.drop (i + w.length))))] == 58) = false by simpa using e2, hA, if_pos rfl]
        rfl
    · rw [List.getElem?_eq_none (by omega), if_neg (by decide)] at hA
      rw [cond_dec' (by omega), hA, if_pos rfl]
  · rw [if_neg e, if_pos rfl, decide_eq_false e]; rfl
theorem aft_d (s : List UInt8) (c : UInt8) (r : List UInt8) (h : s = c :: r) (hc : lowC c = 100) : aftN s = 0 := by
  subst h
  have h1 : c ≠ 32 := by rintro rfl; revert hc; decide
  have h2 : c ≠ 91 := by rintro rfl; revert hc; decide
  have h3 : c ≠ 58 := by rintro rfl; revert hc; decide
  unfold aftN
  rw [bN_cons, if_neg h1, List.drop_zero, blobN_cons, if_neg h2, if_neg (by simpa using h3)]
/-- What the marks say behind the blobs. -/
def markN (s : List UInt8) (i : Nat) : Nat := if wrdN (s.drop i) = 0 then 0 else if aftN (s.drop (i + wrdN (s.drop i))) = 0 then 0 else i + wrdN (s.drop i) + aftN (s.drop (i + wrdN (s.drop i)))
theorem wmark_eq (s : List UInt8) (i : Nat) : (if endN s i 2 [114, 101] = 0 then (if endN s i 3 [102, 119, 100] = 0 then (if endN s i 2 [102, 119] = 0 then 0 else i + 2 + endN s i 2 [102, 119]) else i + 3 + endN s i 3 [102, 119, 100]) else i + 2 + endN s i 2 [114, 101]) = markN s i := by
  unfold markN wrdN endN
  by_cases h1 : lowL ((s.drop i).take 2) = [114, 101]
  · have h2 : lowL ((s.drop i).take 3) ≠ [102, 119, 100] := by
      intro e
      have := congrArg (List.take 2) e
      unfold lowL at this h1
      rw [← List.map_take, List.take_take] at this
      rw [show min 2 3 = 2 from rfl, h1] at this
      revert this; decide
    have h3 : lowL ((s.drop i).take 2) ≠ [102, 119] := by rw [h1]; decide
    simp only [if_pos h1, if_neg h2, if_neg h3, if_true]
    rw [if_neg (by omega : ¬ (2 : Nat) = 0)]
  · by_cases h2 : lowL ((s.drop i).take 3) = [102, 119, 100]
    · have h4 : aftN (s.drop (i + 2)) = 0 := by
        have hl := congrArg List.length h2
        rw [lowL_len, List.length_take, List.length_drop] at hl
        simp at hl
        have h6 : i + 2 < s.length := by omega
        refine aft_d _ s[i + 2] (s.drop (i + 2 + 1)) (List.drop_eq_getElem_cons h6) ?_
        have : (lowL ((s.drop i).take 3))[2]? = ([102, 119, 100] : List UInt8)[2]? := by rw [h2]
        unfold lowL at this
        rw [List.getElem?_map, List.getElem?_take, if_pos (by omega), List.getElem?_drop, List.getElem?_eq_getElem h6] at this
        simpa using this
      simp only [if_neg h1, if_pos h2, if_true, h4]
      rw [if_neg (by omega : ¬ (3 : Nat) = 0)]
      by_cases h5 : lowL ((s.drop i).take 2) = [102, 119]
      · simp only [if_pos h5, if_true]
      · simp only [if_neg h5, if_true]
    · by_cases h3 : lowL ((s.drop i).take 2) = [102, 119]
      · simp only [if_neg h1, if_neg h2, if_pos h3, if_true]
        rw [if_neg (by omega : ¬ (2 : Nat) = 0)]
      · simp only [if_neg h1, if_neg h2, if_neg h3, if_true]
theorem ans7 (s : List UInt8) (hs : s.length ≤ 1000000) (i : Nat) (hi : i ≤ s.length) (κ : Int → Option R) (f : Nat) :
    letter_answered_0.L7 letter_blob_0 letter_begin_0 letter_blanks_0 κ (f + 4) (B s) (i : Int) 3 0 markWs = κ (markN s i : Int) := by
  rw [show ((0 : Int)) = ((0 : Nat) : Int) from rfl, ans7_step s hs i hi 0 (by omega) [114, 101] rfl rfl (by decide), ans7_step s hs i hi 1 (by omega) [102, 119, 100] rfl rfl (by decide), ans7_step s hs i hi 2 (by omega) [102, 119] rfl rfl (by decide),
    letter_answered_0.L7, letter_answered_0.t7, cond_dec' (by omega), ← wmark_eq]
  simp only [List.length_cons, List.length_nil]
  split
  · split
    · split
      · rfl
      · rfl
    · rfl
  · rfl
theorem ans3 (s : List UInt8) (hs : s.length ≤ 1000000) (κ : Int → Option R) : ∀ (f i : Nat), i ≤ s.length → s.length + 5 < i + f →
    letter_answered_0.L3 letter_blob_0 letter_begin_0 letter_blanks_0 κ f (B s) (i : Int) (blobN (s.drop i) : Int) = κ (markN s (i + blobs (s.drop i)) : Int)
  | 0, i, h1, h2 => by omega
  | f + 1, i, h1, h2 => by
    rw [letter_answered_0.L3, letter_answered_0.t3]
    have hb := blobN_le (s.drop i)
    rw [List.length_drop] at hb
    have hw1 : IntKind.wrap .i64 ((i : Int) + (blobN (s.drop i) : Int)) = ((i + blobN (s.drop i) : Nat) : Int) := wrap_i64 (by omega) (by omega)
    simp only [size_B, hw1, extract_B, Int.toNat_natCast, List.take_length]
    by_cases e : blobN (s.drop i) = 0
    · rw [cond_dec' (by omega), blobs_0 e]
      obtain ⟨n, rfl⟩ : ∃ n, f = n + 4 := ⟨f - 4, by omega⟩
      exact ans7 s hs i h1 κ n
    · rw [cond_dec (by omega), chk_and, chk_dec (by omega), chk_and, chk_dec (by omega), chk_dec (by omega), lBlob_eq _ (by rw [List.length_drop]; omega), ans3 s hs κ f _ (by omega) (by omega), blobs_s e, List.drop_drop, ← Nat.add_assoc]
theorem lead_mark (s : List UInt8) : markN s (blobs s) = leadN s := rfl
theorem lAns_eq (s : List UInt8) (hs : s.length ≤ 1000000) (κ : Int → Option R) : letter_answered_0 (B s) κ = κ (leadN s : Int) := by
  have key : ∀ f, s.length + 5 < f → letter_answered_0.e letter_blob_0 letter_begin_0 letter_blanks_0 (B s) (letter_answered_0.L3 letter_blob_0 letter_begin_0 letter_blanks_0 κ f) (letter_answered_0.L7 letter_blob_0 letter_begin_0 letter_blanks_0 κ f) κ = κ (leadN s : Int) := by
    intro f hf
    have := ans3 s hs κ f 0 (by omega) (by omega)
    rw [List.drop_zero, Nat.zero_add, lead_mark] at this
    unfold letter_answered_0.e
    rw [lBlob_eq s hs]
    exact this
  exact key fuelK (by unfold fuelK; omega)
end Go.Proofs.Ab

/- LetterWords. -/
namespace Go.Proofs.Ab
set_option linter.unusedVariables false
set_option maxRecDepth 4000
open Go
variable {R : Type}
theorem lWords_loop (v : List UInt8) (hv : v.length ≤ 110000) (κ : ByteArray → Option R) : ∀ (f i a : Nat) (b : Bool) (acc : List UInt8), i ≤ v.length → v.length < i + f → a ≤ i → acc.length ≤ 3 * a →
    letter_Words_0.L5 letter_encoded_0 strings_Builder_WriteString_vxfes letter_isBlank_0 strings_Builder_String_vxfe κ f (B v) b (a : Int) (i : Int) (intsAV acc)
      = κ (B (wdG (acc ++ (bif b then [] else (v.take i).drop a)) (bif b then (v.take i).drop a else []) b (v.drop i)))
  | 0, i, a, b, acc, h1, h2, h3, h4 => by omega
  | f + 1, i, a, b, acc, h1, h2, h3, h4 => by
    rw [letter_Words_0.L5, letter_Words_0.t5]
    have hpl : ((v.take i).drop a).length ≤ v.length := by rw [List.length_drop, List.length_take]; omega
    have hw1 : IntKind.wrap .i64 ((i : Int) + 1) = ((i + 1 : Nat) : Int) := wrap_i64 (by omega) (by omega)
    simp only [size_B, extract_B, Int.toNat_natCast, List.take_length, hw1]
    cases hd : v.drop i with
    | nil =>
      have hi := drop_nil hd
      have hp : (v.take i).drop a = v.drop a := by rw [List.take_of_length_le (by omega)]
      rw [hp] at hpl ⊢
      rw [cond_dec' (by omega), chk_and, chk_dec (by omega), chk_and, chk_dec (by omega), chk_dec (by omega), wStrI _ _ _ (by omega), bString_eq, wdG_nil]
      cases b <;> simp
    | cons c r =>
      obtain ⟨g1, g2, g3⟩ := drop_get hd
      have hl : (c :: r).length = v.length - i := by rw [← hd, List.length_drop]
      have hsucc : a ≤ i → (v.take (i + 1)).drop a = (v.take i).drop a ++ [c] := by
        intro h
        rw [take_succ_get g1, List.drop_append_of_le_length (by rw [List.length_take]; omega)]
      rw [cond_dec (by omega), chk_and, chk_dec (by omega), chk_and, chk_dec (by omega), chk_dec (by omega), lEnc_eq (c :: r) (by omega), wdG_cons]
      cases hE : isE (c :: r) with
      | true =>
        have hle := isE_le hE
        have hdl := decV_len (v := c :: r)
        have hdv : decG (eCs (c :: r)) (eHow (c :: r)) (eQ (c :: r)) = decV (c :: r) := rfl
        have hwn : IntKind.wrap .i64 ((i : Int) + ((eE (c :: r) + 2 : Nat) : Int)) = ((i + (eE (c :: r) + 2) : Nat) : Int) := by rw [wrap_i64 (by omega) (by omega)]; omega
        simp only [cond_true, if_true, hdv, hwn]
        rw [cond_dec (by omega), chk_and, chk_dec (by omega), chk_and, chk_dec (by omega), chk_dec (by omega), wStrI _ _ _ (by omega)]
        have hx : (v.take (i + (eE (c :: r) + 2))).drop (i + (eE (c :: r) + 2)) = [] := List.drop_eq_nil_of_le (by rw [List.length_take]; omega)
        have hpi : ((v.take i).drop a).length ≤ i - a := by rw [List.length_drop, List.length_take]; omega
        cases b with
        | false =>
          simp only [Bool.not_false, cond_true]
          rw [wStrI _ _ _ (by simp; omega)]
          have := lWords_loop v hv κ f (i + (eE (c :: r) + 2)) (i + (eE (c :: r) + 2)) true (acc ++ (v.take i).drop a ++ decV (c :: r)) (by omega) (by omega) (by omega) (by rw [List.length_append, List.length_append]; omega)
          rw [hx, ← List.drop_drop, hd] at this
          simpa using this
        | true =>
          simp only [Bool.not_true, cond_false]
          rw [wStrI _ _ _ (by omega)]
          have := lWords_loop v hv κ f (i + (eE (c :: r) + 2)) (i + (eE (c :: r) + 2)) true (acc ++ decV (c :: r)) (by omega) (by omega) (by omega) (by rw [List.length_append]; omega)
          rw [hx, ← List.drop_drop, hd] at this
          simpa using this
      | false =>
        simp only [cond_false, Bool.false_eq_true, if_false]
        rw [cond_dec' (by omega), chk_and, chk_dec (by omega), chk_dec (by omega), btB g1, isBlank_eq, hsucc h3]
        have hpi : ((v.take i).drop a).length ≤ i - a := by rw [List.length_drop, List.length_take]; omega
        have hx : (v.take (i + 1)).drop (i + 1) = [] := List.drop_eq_nil_of_le (by rw [List.length_take]; omega)
        cases hb : isBl c with
        | true =>
          simp only [cond_true, Bool.and_true]
          have := lWords_loop v hv κ f (i + 1) a b acc (by omega) (by omega) (by omega) (by omega)
          rw [g3, hsucc h3] at this
          rw [this]
          cases b <;> simp
        | false =>
          simp only [cond_false, Bool.and_false, Bool.false_eq_true, if_false]
          rw [chk_and, chk_dec (by omega), chk_and, chk_dec (by omega), chk_dec (by omega), wStrI _ _ _ (by simp; omega)]
          have := lWords_loop v hv κ f (i + 1) (i + 1) false (acc ++ ((v.take i).drop a ++ [c])) (by omega) (by omega) (by omega) (by simp; omega)
          rw [g3, hx] at this
          rw [this]
          cases b <;> simp
theorem lWords_eq (v : List UInt8) (hv : v.length ≤ 110000) (κ : ByteArray → Option R) : letter_Words_0 (B v) κ = κ (B (wdG [] [] false v)) := by
  have key : ∀ f, v.length < f → letter_Words_0.e letter_encoded_0 strings_Builder_WriteString_vxfes letter_isBlank_0 strings_Builder_String_vxfe (B v) (letter_Words_0.L5 letter_encoded_0 strings_Builder_WriteString_vxfes letter_isBlank_0 strings_Builder_String_vxfe κ f) κ = κ (B (wdG [] [] false v)) := by
    intro f hf
    have := lWords_loop v hv κ f 0 0 false [] (by omega) (by omega) (by omega) (by simp)
    refine this.trans ?_
    simp
  exact key fuelK (by unfold fuelK; omega)
end Go.Proofs.Ab

/- The base of a subject, by the program: the rules, in turn. -/
namespace Go.Proofs.Ab
set_option linter.unusedVariables false
set_option maxRecDepth 4000
open Go
variable {R : Type}
theorem drop_last1 (s : List UInt8) (c : UInt8) : s.drop (s.length - 1) = [c] ↔ s.getLast? = some c := by
  by_cases h : s = []
  · subst h; simp
  · obtain ⟨t, d, rfl⟩ : ∃ t d, s = t ++ [d] := ⟨s.dropLast, s.getLast h, (List.dropLast_concat_getLast h).symm⟩
    simp
theorem cutSuffix_eq (s : List UInt8) (hs : s.length ≤ 1000000) (κ : ByteArray → Bool → Option R) : letter_rules_1_0 (B s) κ = if s.getLast? = some 32 then κ (B s.dropLast) true else κ (B s) false := by
  unfold letter_rules_1_0 letter_rules_1_0.e strings_CutSuffix_0 strings_CutSuffix_0.e stringslite_CutSuffix_0 stringslite_CutSuffix_0.e
  rw [show ((⟨#[32]⟩ : ByteArray)) = B [32] from rfl, hasSuffix_eq s [32] hs (by decide)]
  simp only [size_B, List.length_singleton]
  by_cases h : s.getLast? = some 32
  · have hne : s ≠ [] := by rintro rfl; cases h
    have hl := List.length_pos_iff.2 hne
    have hw : IntKind.wrap .i64 ((s.length : Int) - ((1 : Nat) : Int)) = ((s.length - 1 : Nat) : Int) := by rw [wrap_i64 (by omega) (by omega)]; omega
    rw [decide_eq_true ((drop_last1 s 32).2 h), if_pos h, hw]
    simp only [Bool.not_true, cond_false, extract_B, Int.toNat_natCast, Int.toNat_zero, List.drop_zero]
    rw [chk_and, chk_dec (by omega), chk_dec (by omega), List.dropLast_eq_take]
  · rw [decide_eq_false (fun e => h ((drop_last1 s 32).1 e)), if_neg h]; rfl
theorem rule2_eq (s : List UInt8) (hs : s.length ≤ 1000000) (κ : ByteArray → Bool → Option R) : letter_rules_2_0 (B s) κ = if lowL (s.drop (s.length - 5)) = fwdE then κ (B (s.take (s.length - 5))) true else κ (B s) false := by
  unfold letter_rules_2_0 letter_rules_2_0.e
  simp only [size_B]
  by_cases h : 5 ≤ s.length
  · have hw : IntKind.wrap .i64 ((s.length : Int) - 5) = ((s.length - 5 : Nat) : Int) := by rw [wrap_i64 (by omega) (by omega)]; omega
    simp only [hw, extract_B, Int.toNat_natCast, Int.toNat_zero, List.drop_zero, List.take_length]
    rw [cond_dec' (by omega), chk_and, chk_dec (by omega), chk_and, chk_dec (by omega), chk_dec (by omega), show ((⟨#[40, 102, 119, 100, 41]⟩ : ByteArray)) = B fwdE from rfl, lSame_eq _ _ (by rw [List.length_drop]; omega) (by decide), show lowL fwdE = fwdE from rfl]
    by_cases e : lowL (s.drop (s.length - 5)) = fwdE
    · rw [decide_eq_true e, if_pos e]
      simp only [Bool.not_true, cond_false]
      rw [chk_and, chk_dec (by omega), chk_dec (by omega)]
    · rw [decide_eq_false e, if_neg e]; rfl
  · have hw : IntKind.wrap .i64 ((s.length : Int) - 5) = (s.length : Int) - 5 := wrap_i64 (by omega) (by omega)
    rw [hw, cond_dec (by omega), if_neg]
    intro e; have := congrArg List.length e
    rw [lowL_len, List.length_drop] at this; simp [fwdE] at this; omega
theorem cutPrefix_eq (s : List UInt8) (hs : s.length ≤ 1000000) (κ : ByteArray → Bool → Option R) : letter_rules_3_0 (B s) κ = if s.head? = some 32 then κ (B (s.drop 1)) true else κ (B s) false := by
  unfold letter_rules_3_0 letter_rules_3_0.e strings_CutPrefix_0 strings_CutPrefix_0.e stringslite_CutPrefix_0 stringslite_CutPrefix_0.e
  rw [show ((⟨#[32]⟩ : ByteArray)) = B [32] from rfl]
  have hp : ∀ κ' : Bool → Option R, stringslite_HasPrefix_0 (B s) (B [32]) κ' = κ' (List.isPrefixOf [32] s) := fun κ' => hasPrefixB s [32] κ'
  rw [hp]
  simp only [size_B, List.length_singleton]
  cases s with
  | nil => rfl
  | cons c r =>
    by_cases h : c = 32
    · subst h
      rw [show List.isPrefixOf [32] (32 :: r) = true by simp [List.isPrefixOf], List.head?_cons, if_pos rfl]
      simp only [Bool.not_true, cond_false, extract_B, Int.toNat_natCast, List.take_length]
      rw [chk_and, chk_dec (by omega), chk_and, chk_dec (by simp only [List.length_cons]; omega), chk_dec (by omega)]
    · have h' : (32 : UInt8) ≠ c := fun e => h e.symm
      rw [show List.isPrefixOf [32] (c :: r) = false by simp [List.isPrefixOf, h'], List.head?_cons, if_neg (by simpa using h)]; rfl
theorem rule4_eq (s : List UInt8) (hs : s.length ≤ 1000000) (κ : ByteArray → Bool → Option R) : letter_rules_4_0 (B s) κ = κ (B (s.drop (leadN s))) (decide (0 < leadN s)) := by
  have h := leadN_le s
  unfold letter_rules_4_0 letter_rules_4_0.e
  rw [lAns_eq s hs]
  simp only [size_B, extract_B, Int.toNat_natCast, List.take_length]
  rw [chk_and, chk_dec (by omega), chk_and, chk_dec (by omega), chk_dec (by omega)]
  congr 1
  rw [decide_eq_decide]; omega
theorem rule5_eq (s : List UInt8) (hs : s.length ≤ 1000000) (κ : ByteArray → Bool → Option R) : letter_rules_5_0 (B s) κ = if blobN s = s.length then κ (B s) false else κ (B (s.drop (blobN s))) (decide (0 < blobN s)) := by
  have h := blobN_le s
  unfold letter_rules_5_0 letter_rules_5_0.e
  rw [lBlob_eq s hs]
  simp only [size_B, extract_B, Int.toNat_natCast, List.take_length]
  by_cases e : blobN s = s.length
  · rw [if_pos e, beq_pos (by omega)]; rfl
  · rw [if_neg e, beq_neg (by omega)]
    simp only [cond_false]
    rw [chk_and, chk_dec (by omega), chk_and, chk_dec (by omega), chk_dec (by omega)]
    congr 1
    rw [decide_eq_decide]; omega
theorem fwdB_len {s : List UInt8} (h1 : lowL (s.take 5) = fwdB) (h2 : s.getLast? = some 93) : 6 ≤ s.length := by
  have hl := congrArg List.length h1
  rw [lowL_len, List.length_take] at hl
  simp [fwdB] at hl
  rcases Nat.lt_or_ge 5 s.length with h | h
  · exact h
  · exfalso
    have h5 : s.length = 5 := by omega
    rw [List.take_of_length_le (by omega)] at h1
    have := congrArg List.getLast? h1
    unfold lowL at this
    rw [List.getLast?_map, h2] at this
    revert this; decide
theorem rule6_eq (s : List UInt8) (hs : s.length ≤ 1000000) (κ : ByteArray → Bool → Option R) : letter_rules_6_0 (B s) κ = if lowL (s.take 5) = fwdB ∧ s.getLast? = some 93 then κ (B ((s.drop 5).dropLast)) true else κ (B s) false := by
  unfold letter_rules_6_0 letter_rules_6_0.e
  rw [show ((⟨#[91, 102, 119, 100, 58]⟩ : ByteArray)) = B fwdB from rfl, show ((⟨#[93]⟩ : ByteArray)) = B [93] from rfl, lBegin_eq s fwdB hs (by decide), sHasSuffix s [93] hs (by decide)]
  rw [show lowL fwdB = fwdB from rfl, show fwdB.length = 5 from rfl, List.length_singleton]
  simp only [size_B]
  by_cases h1 : lowL (s.take 5) = fwdB
  · rw [decide_eq_true h1]
    simp only [Bool.not_true, cond_false]
    by_cases h2 : s.getLast? = some 93
    · have hl := fwdB_len h1 h2
      have hw : IntKind.wrap .i64 ((s.length : Int) - 1) = ((s.length - 1 : Nat) : Int) := by rw [wrap_i64 (by omega) (by omega)]; omega
      rw [decide_eq_true ((drop_last1 s 93).2 h2), if_pos ⟨h1, h2⟩, hw]
      simp only [Bool.not_true, cond_false, extract_B, Int.toNat_natCast]
      rw [chk_and, chk_dec (by omega), chk_dec (by omega), show (5 : Int).toNat = 5 from rfl]
      congr 2
      rw [List.dropLast_eq_take, List.length_drop, List.drop_take] <;> try rfl
    · rw [decide_eq_false (fun e => h2 ((drop_last1 s 93).1 e)), if_neg (fun e => h2 e.2)]; rfl
  · rw [decide_eq_false h1, if_neg (fun e => h1 e.1)]; rfl
abbrev bL3 (κ : ByteArray → Bool → Option R) (f : Nat) := letter_Base_0.L3 letter_Words_0 letter_one_0 letter_rules_0 letter_rules_6_0 letter_rules_5_0 letter_rules_4_0 letter_rules_3_0 letter_rules_2_0 letter_rules_1_0 κ f
abbrev bL4 (κ : ByteArray → Bool → Option R) (f : Nat) (t : ByteArray) (m : Bool) (i : Int) := letter_Base_0.L4 letter_Words_0 letter_one_0 letter_rules_0 letter_rules_6_0 letter_rules_5_0 letter_rules_4_0 letter_rules_3_0 letter_rules_2_0 letter_rules_1_0 κ f t m false true false true false true i
theorem bL3_succ (κ : ByteArray → Bool → Option R) (f : Nat) (t : ByteArray) (m : Bool) : bL3 κ (f + 1) t m = bL4 κ f t m 0 := by
  unfold bL3 bL4 letter_Base_0.L3 letter_Base_0.L4
  rw [letter_Base_0.M3]
  exact Eq.refl _
theorem mk_bif (m b : Bool) (j : Bool → Option R) : (bif m then j true else j b) = j (m || b) := by cases m <;> exact Eq.refl _
theorem bL4_succ (κ : ByteArray → Bool → Option R) (f : Nat) (t : ByteArray) (m : Bool) (i : Int) : bL4 κ (f + 1) t m i = letter_Base_0.t4 letter_Words_0 letter_one_0 letter_rules_0 letter_rules_6_0 letter_rules_5_0 letter_rules_4_0 letter_rules_3_0 letter_rules_2_0 letter_rules_1_0 t m false true false true false true i
    (bL3 κ f) (letter_Base_0.L4 letter_Words_0 letter_one_0 letter_rules_0 letter_rules_6_0 letter_rules_5_0 letter_rules_4_0 letter_rules_3_0 letter_rules_2_0 letter_rules_1_0 κ f) κ := by
  unfold bL3 bL4 letter_Base_0.L3 letter_Base_0.L4
  rw [letter_Base_0.M3]
theorem b4_0 (κ : ByteArray → Bool → Option R) (f : Nat) (t : ByteArray) (m : Bool) : bL4 κ (f + 1) t m 0 = letter_rules_1_0 t (fun u w => bif w then bL3 κ f u (m || false) else bL4 κ f t m 1) := by
  rw [bL4_succ, letter_Base_0.t4]; simp only [mk_bif]; exact Eq.refl _
theorem b4_1 (κ : ByteArray → Bool → Option R) (f : Nat) (t : ByteArray) (m : Bool) : bL4 κ (f + 1) t m 1 = letter_rules_2_0 t (fun u w => bif w then bL3 κ f u (m || true) else bL4 κ f t m 2) := by
  rw [bL4_succ, letter_Base_0.t4]; simp only [mk_bif]; exact Eq.refl _
theorem b4_2 (κ : ByteArray → Bool → Option R) (f : Nat) (t : ByteArray) (m : Bool) : bL4 κ (f + 1) t m 2 = letter_rules_3_0 t (fun u w => bif w then bL3 κ f u (m || false) else bL4 κ f t m 3) := by
  rw [bL4_succ, letter_Base_0.t4]; simp only [mk_bif]; exact Eq.refl _
theorem b4_3 (κ : ByteArray → Bool → Option R) (f : Nat) (t : ByteArray) (m : Bool) : bL4 κ (f + 1) t m 3 = letter_rules_4_0 t (fun u w => bif w then bL3 κ f u (m || true) else bL4 κ f t m 4) := by
  rw [bL4_succ, letter_Base_0.t4]; simp only [mk_bif]; exact Eq.refl _
theorem b4_4 (κ : ByteArray → Bool → Option R) (f : Nat) (t : ByteArray) (m : Bool) : bL4 κ (f + 1) t m 4 = letter_rules_5_0 t (fun u w => bif w then bL3 κ f u (m || false) else bL4 κ f t m 5) := by
  rw [bL4_succ, letter_Base_0.t4]; simp only [mk_bif]; exact Eq.refl _
theorem b4_5 (κ : ByteArray → Bool → Option R) (f : Nat) (t : ByteArray) (m : Bool) : bL4 κ (f + 1) t m 5 = letter_rules_6_0 t (fun u w => bif w then bL3 κ f u (m || true) else bL4 κ f t m 6) := by
  rw [bL4_succ, letter_Base_0.t4]; simp only [mk_bif]; exact Eq.refl _
theorem b4_6 (κ : ByteArray → Bool → Option R) (f : Nat) (t : ByteArray) (m : Bool) : bL4 κ (f + 1) t m 6 = κ t m := by
  rw [bL4_succ, letter_Base_0.t4]; exact Eq.refl _
theorem lBase_loop (κ : ByteArray → Bool → Option R) : ∀ (n : Nat) (t : List UInt8) (m : Bool) (f : Nat), t.length ≤ n → n ≤ 1000000 → 8 * n + 8 ≤ f → bL3 κ f (B t) m = κ (B (baseG t m).1) (baseG t m).2
  | n, t, m, f, h1, h2, h3 => by
    obtain ⟨g, rfl⟩ : ∃ g, f = g + 8 := ⟨f - 8, by omega⟩
    have hs : t.length ≤ 1000000 := by omega
    have go : ∀ (u : List UInt8) (b : Bool) (f' : Nat), stepB t = some (u, b) → g ≤ f' → bL3 κ f' (B u) (m || b) = κ (B (baseG t m).1) (baseG t m).2 := by
      intro u b f' hu hf
      have hl := stepB_lt hu
      cases n with
      | zero => omega
      | succ n => rw [baseG_some hu]; exact lBase_loop κ n u (m || b) f' (by omega) (by omega) (by omega)
    rw [bL3_succ, b4_0, cutSuffix_eq t hs]
    by_cases e1 : t.getLast? = some 32
    · rw [if_pos e1, cond_true]
      exact go _ false _ (by unfold stepB; rw [if_pos e1]) (by omega)
    · rw [if_neg e1, cond_false, b4_1, rule2_eq t hs]
      by_cases e2 : lowL (t.drop (t.length - 5)) = fwdE
      · rw [if_pos e2, cond_true]
        exact go _ true _ (by unfold stepB; rw [if_neg e1, if_pos e2]) (by omega)
      · rw [if_neg e2, cond_false, b4_2, cutPrefix_eq t hs]
        by_cases e3 : t.head? = some 32
        · rw [if_pos e3, cond_true]
          exact go _ false _ (by unfold stepB; rw [if_neg e1, if_neg e2, if_pos e3]) (by omega)
        · rw [if_neg e3, cond_false, b4_3, rule4_eq t hs]
          by_cases e4 : 0 < leadN t
          · rw [decide_eq_true e4, cond_true]
            exact go _ true _ (by unfold stepB; rw [if_neg e1, if_neg e2, if_neg e3, if_pos e4]) (by omega)
          · rw [decide_eq_false e4, cond_false, b4_4, rule5_eq t hs]
            have hb := blobN_le t
            by_cases e5 : 0 < blobN t ∧ blobN t < t.length
            · rw [if_neg (by omega), decide_eq_true e5.1, cond_true]
              exact go _ false _ (by unfold stepB; rw [if_neg e1, if_neg e2, if_neg e3, if_neg e4, if_pos e5]) (by omega)
            · have h5 : (if blobN t = t.length then bif false then bL3 κ (g + 2) (B t) (m || false) else bL4 κ (g + 2) (B t) m 5 else bif decide (0 < blobN t) then bL3 κ (g + 2) (B (t.drop (blobN t))) (m || false) else bL4 κ (g + 2) (B t) m 5) = bL4 κ (g + 2) (B t) m 5 := by
                by_cases e : blobN t = t.length
                · rw [if_pos e, cond_false]
                · rw [if_neg e, decide_eq_false (by omega), cond_false]
              rw [h5, b4_5, rule6_eq t hs]
              by_cases e6 : lowL (t.take 5) = fwdB ∧ t.getLast? = some 93
              · rw [if_pos e6, cond_true]
                exact go _ true _ (by unfold stepB; rw [if_neg e1, if_neg e2, if_neg e3, if_neg e4, if_neg e5, if_pos e6]) (by omega)
              · rw [if_neg e6, cond_false, b4_6, baseG_none (by unfold stepB; rw [if_neg e1, if_neg e2, if_neg e3, if_neg e4, if_neg e5, if_neg e6])]
theorem wdG_len : ∀ (n : Nat) (v o g : List UInt8) (b : Bool), v.length ≤ n → (wdG o g b v).length ≤ o.length + g.length + 2 * v.length
  | n, [], o, g, b, h => by rw [wdG_nil]; simp
  | 0, c :: r, o, g, b, h => by simp at h
  | n + 1, c :: r, o, g, b, h => by
    rw [wdG_cons]
    have hlr : (c :: r).length = r.length + 1 := rfl
    cases hE : isE (c :: r) with
    | true =>
      have hle := isE_le hE
      have hdl := decV_len (v := c :: r)
      rw [if_pos rfl]
      have := wdG_len n ((c :: r).drop (eE (c :: r) + 2)) (o ++ decV (c :: r)) [] true (by rw [List.length_drop]; omega)
      rw [List.length_append, List.length_drop] at this
      simp only [List.length_nil] at this
      omega
    | false =>
      rw [if_neg (by simp)]
      split
      · have := wdG_len n r o (g ++ [c]) b (by omega)
        rw [List.length_append] at this
        simp only [List.length_singleton] at this
        omega
      · have := wdG_len n r (o ++ (g ++ [c])) [] false (by omega)
        rw [List.length_append, List.length_append] at this
        simp only [List.length_singleton, List.length_nil] at this
        omega
/-- The base of a subject. -/
def baseL (s : List UInt8) : List UInt8 × Bool := baseG (sgl false (wdG [] [] false s)) false
theorem lBase_eq (s : List UInt8) (hs : s.length ≤ 110000) (κ : ByteArray → Bool → Option R) : letter_Base_0 (B s) κ = κ (B (baseL s).1) (baseL s).2 := by
  have h1 := wdG_len s.length s [] [] false (Nat.le_refl _)
  simp only [List.length_nil] at h1
  have h2 := sgl_len (wdG [] [] false s) false
  have key : ∀ f, 8000000 < f → letter_Base_0.e letter_Words_0 letter_one_0 letter_rules_0 letter_rules_6_0 letter_rules_5_0 letter_rules_4_0 letter_rules_3_0 letter_rules_2_0 letter_rules_1_0 (B s)
      (letter_Base_0.L3 letter_Words_0 letter_one_0 letter_rules_0 letter_rules_6_0 letter_rules_5_0 letter_rules_4_0 letter_rules_3_0 letter_rules_2_0 letter_rules_1_0 κ f)
      (letter_Base_0.L4 letter_Words_0 letter_one_0 letter_rules_0 letter_rules_6_0 letter_rules_5_0 letter_rules_4_0 letter_rules_3_0 letter_rules_2_0 letter_rules_1_0 κ f) κ = κ (B (baseL s).1) (baseL s).2 := by
    intro f hf
    unfold letter_Base_0.e
    rw [lWords_eq s hs, lOne_eq _ (by omega)]
    exact lBase_loop κ _ _ false f (Nat.le_refl _) (by omega) (by omega)
  exact key fuelK (by unfold fuelK; omega)
end Go.Proofs.Ab

/- LetterBased. -/
namespace Go.Proofs.Ab
set_option linter.unusedVariables false
set_option maxRecDepth 4000
open Go
variable {R : Type}
/-- A text without a question mark. -/
def plL (s : List UInt8) : List UInt8 := s.filter fun c => c != 63
theorem plL_len (s : List UInt8) : (plL s).length ≤ s.length := List.length_filter_le _ _
theorem plL_no (s : List UInt8) : ∀ c ∈ plL s, c ≠ 63 := by
  intro c h
  have := (List.mem_filter.1 h).2
  simpa using this
theorem plain_loop (s : List UInt8) (hs : s.length ≤ 1000000) (κ : ByteArray → Option R) : ∀ (f i : Nat) (acc : List UInt8), i ≤ s.length → s.length < i + f → acc.length ≤ i →
    postbaglaw5_plain_0.L3 κ f (B s) (i : Int) (intsAV acc) = κ (B (acc ++ plL (s.drop i)))
  | 0, i, acc, h1, h2, h3 => by omega
  | f + 1, i, acc, h1, h2, h3 => by
    rw [postbaglaw5_plain_0.L3, postbaglaw5_plain_0.t3]
    have hal := ints_len acc
    have hw1 : IntKind.wrap .i64 ((i : Int) + 1) = ((i + 1 : Nat) : Int) := wrap_i64 (by omega) (by omega)
    simp only [size_B, hw1, strAV_ints, hal]
    cases hd : s.drop i with
    | nil =>
      have := drop_nil hd
      rw [cond_dec' (by omega)]
      simp [plL]
    | cons c r =>
      obtain ⟨g1, g2, g3⟩ := drop_get hd
      simp (disch := omega) only [cond_dec, chk_and, chk_dec, btB g1, ints_snoc]
      rw [byteN c 63 63 rfl]
      have hp : plL (c :: r) = bif c != 63 then c :: plL r else plL r := by
        unfold plL; rw [List.filter_cons]; cases (c != 63) <;> rfl
      rw [hp]
      cases hc : (c != 63) with
      | true =>
        simp only [cond_true]
        rw [plain_loop s hs κ f (i + 1) (acc ++ [c]) (by omega) (by omega) (by simp; omega), g3]
        simp
      | false =>
        simp only [cond_false]
        rw [plain_loop s hs κ f (i + 1) acc (by omega) (by omega) (by omega), g3]
theorem plain_eq (s : List UInt8) (hs : s.length ≤ 1000000) (κ : ByteArray → Option R) : postbaglaw5_plain_0 (B s) κ = κ (B (plL s)) := by
  have key : ∀ f, s.length < f → postbaglaw5_plain_0.e (B s) (postbaglaw5_plain_0.L3 κ f) κ = κ (B (plL s)) := by
    intro f hf
    have := plain_loop s hs κ f 0 [] (by omega) (by omega) (by simp)
    rw [List.nil_append, List.drop_zero] at this
    exact this
  exact key fuelK (by unfold fuelK; omega)
theorem isE_63 {v : List UInt8} (h : isE v = true) : (63 : UInt8) ∈ v := by
  unfold isE at h
  simp only [Bool.and_eq_true, decide_eq_true_eq] at h
  obtain ⟨hlt, hv⟩ := List.getElem?_eq_some_iff.1 h.2.1
  rw [← hv]; exact List.getElem_mem hlt
theorem wdG_plain : ∀ (v o : List UInt8), (∀ c ∈ v, c ≠ 63) → wdG o [] false v = o ++ v
  | [], o, h => by rw [wdG_nil]
  | c :: r, o, h => by
    have hE : isE (c :: r) = false := by
      cases e : isE (c :: r) with
      | false => rfl
      | true => exact absurd rfl (h 63 (isE_63 e))
    rw [wdG_cons, hE, if_neg (by simp), if_neg (by simp), wdG_plain r _ (fun d hd => h d (List.mem_cons_of_mem _ hd))]
    simp
theorem baseL_plain {v : List UInt8} (h : ∀ c ∈ v, c ≠ 63) : baseL v = baseG (sgl false v) false := by
  unfold baseL; rw [wdG_plain v [] h, List.nil_append]
theorem sgl_mem : ∀ (l : List UInt8) (g : Bool), ∀ c ∈ sgl g l, c ∈ l ∨ c = 32
  | [], g, c, h => by simp [sgl] at h
  | d :: r, g, c, h => by
    rw [sgl_cons] at h
    split at h
    · split at h
      · rcases sgl_mem r true c h with h1 | h1
        · exact .inl (List.mem_cons_of_mem _ h1)
        · exact .inr h1
      · rcases List.mem_cons.1 h with h1 | h1
        · exact .inr h1
        · rcases sgl_mem r true c h1 with h2 | h2
          · exact .inl (List.mem_cons_of_mem _ h2)
          · exact .inr h2
    · rcases List.mem_cons.1 h with h1 | h1
      · exact .inl (h1 ▸ List.mem_cons_self)
      · rcases sgl_mem r false c h1 with h2 | h2
        · exact .inl (List.mem_cons_of_mem _ h2)
        · exact .inr h2
/-- The base of a base. -/
theorem base_again {v : List UInt8} (h : ∀ c ∈ v, c ≠ 63) : baseL (baseL v).1 = ((baseL v).1, false) := by
  rw [baseL_plain h]
  obtain ⟨a, c, hac⟩ := baseG_infix _ (sgl false v) false (Nat.le_refl _)
  have hb : ∀ d ∈ (baseG (sgl false v) false).1, d ≠ 63 := by
    intro d hd
    have hm : d ∈ sgl false v := by rw [hac]; simp [hd]
    rcases sgl_mem v false d hm with h1 | h1
    · exact h d h1
    · rw [h1]; decide
  have hs : sgl false (baseG (sgl false v) false).1 = (baseG (sgl false v) false).1 := by
    have hi := sgl_idem v false
    rw [hac] at hi
    exact sgl_infix hi
  rw [baseL_plain hb, hs, baseG_none (baseG_fix _ _ _ (Nat.le_refl _))]
/-- A mark ahead. -/
theorem base_ahead {v q : List UInt8} (h : ∀ c ∈ v, c ≠ 63) (hq63 : ∀ c ∈ q, c ≠ 63) (hq : ∀ c ∈ q, c ≠ 40) (hh : q.head? ≠ some 32) (hl : ∃ q', q = q' ++ [58]) (hn : leadN q = q.length) (hu : ∀ u, leadN (q ++ 32 :: u) = q.length)
    (hsq : sgl false (q ++ [32]) = q ++ [32]) : baseL (q ++ [32] ++ v) = ((baseL v).1, true) := by
  have h1 : ∀ c ∈ q ++ [32] ++ v, c ≠ 63 := by
    intro c hc
    simp only [List.mem_append, List.mem_singleton] at hc
    rcases hc with (hc | hc) | hc
    · exact hq63 c hc
    · rw [hc]; decide
    · exact h c hc
  rw [baseL_plain h1, baseL_plain h, sgl_append, hsq]
  have hg : gA false (q ++ [32]) = true := by unfold gA; simp; rfl
  rw [hg, List.append_assoc, List.singleton_append, base_mark q hq hh hl hn hu _ _ _ (Nat.le_refl _), baseG_true]
  cases v with
  | nil => rfl
  | cons c r =>
    rw [sgl_cons, sgl_cons]
    cases hc : isSp c with
    | true => rw [if_pos rfl, if_pos rfl, if_pos rfl, if_neg (by simp), base_lead _ _ _ (Nat.le_refl _)]
    | false => rw [if_neg (by simp), if_neg (by simp)]
theorem lead_re (u : List UInt8) : leadN ([82, 101, 58] ++ u) = 3 := by
  have h0 : blobs ([82, 101, 58] ++ u) = 0 := blobs_0 rfl
  have ha : aftN (58 :: u) = 1 := rfl
  unfold leadN
  rw [h0, List.drop_zero, show wrdN ([82, 101, 58] ++ u) = 2 from rfl, show (([82, 101, 58] : List UInt8) ++ u).drop (0 + 2) = 58 :: u from rfl, ha]; rfl
theorem lead_fw (u : List UInt8) : leadN ([102, 87, 32, 91, 120, 93, 32, 58] ++ u) = 8 := by
  have h0 : blobs ([102, 87, 32, 91, 120, 93, 32, 58] ++ u) = 0 := blobs_0 rfl
  have ha : aftN (32 :: 91 :: 120 :: 93 :: 32 :: 58 :: u) = 6 := rfl
  unfold leadN
  rw [h0, List.drop_zero, show wrdN ([102, 87, 32, 91, 120, 93, 32, 58] ++ u) = 2 from rfl, show (([102, 87, 32, 91, 120, 93, 32, 58] : List UInt8) ++ u).drop (0 + 2) = 32 :: 91 :: 120 :: 93 :: 32 :: 58 :: u from rfl, ha]; rfl
theorem base_re {v : List UInt8} (h : ∀ c ∈ v, c ≠ 63) : baseL ([82, 101, 58, 32] ++ v) = ((baseL v).1, true) :=
  base_ahead (q := [82, 101, 58]) h (by decide) (by decide) (by decide) ⟨[82, 101], rfl⟩ (lead_re []) (fun u => lead_re _) rfl
theorem base_fw {v : List UInt8} (h : ∀ c ∈ v, c ≠ 63) : baseL ([102, 87, 32, 91, 120, 93, 32, 58, 32] ++ v) = ((baseL v).1, true) :=
  base_ahead (q := [102, 87, 32, 91, 120, 93, 32, 58]) h (by decide) (by decide) (by decide) ⟨[102, 87, 32, 91, 120, 93, 32], rfl⟩ (lead_fw []) (fun u => lead_fw _) rfl
theorem base_behind {v : List UInt8} (h : ∀ c ∈ v, c ≠ 63) : baseL (v ++ [32, 40, 70, 87, 68, 41, 32]) = ((baseL v).1, true) := by
  have h1 : ∀ c ∈ v ++ [32, 40, 70, 87, 68, 41, 32], c ≠ 63 := by
    intro c hc
    rcases List.mem_append.1 hc with hc | hc
    · exact h c hc
    · exact (by decide : ∀ c ∈ ([32, 40, 70, 87, 68, 41, 32] : List UInt8), c ≠ 63) c hc
  rw [baseL_plain h1, baseL_plain h, sgl_append]
  have fin : ∀ w : List UInt8, baseG (w ++ [40, 70, 87, 68, 41] ++ [32]) false = ((baseG w false).1, true) := by
    intro w
    rw [base_sp, base_fwd _ _ _ (by rfl), baseG_true]
  cases hg : gA false v with
  | true =>
    have := fin (sgl false v)
    rw [List.append_assoc] at this
    exact this
  | false =>
    have := fin (sgl false v ++ [32])
    rw [List.append_assoc, List.append_assoc, base_sp] at this
    exact this
end Go.Proofs.Ab

/- Encoded words, written and read: lists of bytes. -/
namespace Go.Proofs.Ab
set_option linter.unusedVariables false
set_option maxRecDepth 4000
open Go
variable {R : Type}
def hexD : List UInt8 := [48, 49, 50, 51, 52, 53, 54, 55, 56, 57, 65, 66, 67, 68, 69, 70]
def encC (c : UInt8) : List UInt8 := if 97 ≤ c.toNat ∧ c.toNat ≤ 122 then [c] else if c = 32 then [95] else [61, hexD.getD (c.toNat / 16) 0, hexD.getD (c.toNat % 16) 0]
/-- The text of an encoded word. -/
def encW : List UInt8 → List UInt8
  | [] => []
  | c :: r => encC c ++ encW r
def headW : List UInt8 := [61, 63, 85, 84, 70, 45, 56, 63, 81, 63]
def wordL (s : List UInt8) : List UInt8 := headW ++ (encW s ++ [63, 61])
theorem encC_all (c : UInt8) : ((encC c).all fun d => prn d && nq d) = true ∧ (encC c).length ≤ 3 := by
  have := all_bytes (p := fun c => ((encC c).all fun d => prn d && nq d) && decide ((encC c).length ≤ 3)) (by kernel_rfl) c
  simpa only [Bool.and_eq_true, decide_eq_true_eq] using this
theorem encW_all : ∀ (s : List UInt8), ((encW s).all fun d => prn d && nq d) = true ∧ (encW s).length ≤ 3 * s.length
  | [] => ⟨rfl, by simp [encW]⟩
  | c :: r => by
    obtain ⟨h1, h2⟩ := encC_all c
    obtain ⟨h3, h4⟩ := encW_all r
    unfold encW
    rw [List.all_append, h1, h3, List.length_append, List.length_cons]
    exact ⟨rfl, by omega⟩
theorem encC_hex (c : UInt8) : (97 ≤ c.toNat ∧ c.toNat ≤ 122) ∨ c = 32 ∨ (0 ≤ hexV (hexD.getD (c.toNat / 16) 0) ∧ 0 ≤ hexV (hexD.getD (c.toNat % 16) 0) ∧ UInt8.ofNat (16 * (hexV (hexD.getD (c.toNat / 16) 0)).toNat + (hexV (hexD.getD (c.toNat % 16) 0)).toNat) = c) := by
  have := all_bytes (p := fun c => (decide (97 ≤ c.toNat) && decide (c.toNat ≤ 122)) || (c == 32 || (decide (0 ≤ hexV (hexD.getD (c.toNat / 16) 0)) && (decide (0 ≤ hexV (hexD.getD (c.toNat % 16) 0)) && (UInt8.ofNat (16 * (hexV (hexD.getD (c.toNat / 16) 0)).toNat + (hexV (hexD.getD (c.toNat % 16) 0)).toNat) == c))))) (by kernel_rfl) c
  simpa only [Bool.and_eq_true, Bool.or_eq_true, decide_eq_true_eq, beq_iff_eq] using this
theorem unq_encW : ∀ (s : List UInt8), unq (encW s) = s
  | [] => unq_nil
  | c :: r => by
    have ih := unq_encW r
    unfold encW encC
    rcases encC_hex c with h | h | ⟨h1, h2, h3⟩
    · rw [if_pos h, List.singleton_append, unq_else c _ (by rintro a b r' rfl; exact absurd h.1 (by decide)), ih, if_neg (by rintro rfl; exact absurd h.1 (by decide))]
    · subst h
      rw [if_neg (by decide), if_pos rfl, List.singleton_append, unq_us, ih]
    · by_cases a1 : 97 ≤ c.toNat ∧ c.toNat ≤ 122
      · rw [if_pos a1, List.singleton_append, unq_else c _ (by rintro a b r' rfl; exact absurd a1.1 (by decide)), ih, if_neg (by rintro rfl; exact absurd a1.1 (by decide))]
      · by_cases a2 : c = 32
        · subst a2
          rw [if_neg (by decide), if_pos rfl, List.singleton_append, unq_us, ih]
        · rw [if_neg a1, if_neg a2]
          show unq (61 :: _ :: _ :: encW r) = _
          rw [unq_hex _ _ _ ⟨h1, h2⟩, h3, ih]
theorem takeW_nq (s rest : List UInt8) : (encW s ++ 63 :: rest).takeWhile nq = encW s := by
  have h := (encW_all s).1
  rw [List.all_eq_true] at h
  rw [List.takeWhile_append_of_pos (fun a ha => by have := h a ha; simp only [Bool.and_eq_true] at this; exact this.2)]
  rw [List.takeWhile_cons, show nq 63 = false from rfl]
  simp
theorem word_A (s rest : List UInt8) : eA (wordL s ++ rest) = 7 := by
  unfold eA wordL headW
  rfl
theorem word_Q (s rest : List UInt8) : eQ (wordL s ++ rest) = encW s := by
  unfold eQ
  rw [word_A]
  have : (wordL s ++ rest).drop (7 + 3) = encW s ++ 63 :: (61 :: rest) := by
    unfold wordL headW
    simp
  rw [this, takeW_nq]
theorem word_len (s : List UInt8) : (wordL s).length = 12 + (encW s).length := by unfold wordL headW; simp; omega
theorem word_E (s rest : List UInt8) : eE (wordL s ++ rest) = 10 + (encW s).length := by unfold eE; rw [word_A, word_Q]
theorem word_at (s rest : List UInt8) (k : Nat) : (wordL s ++ rest)[10 + (encW s).length + k]? = (63 :: 61 :: rest)[k]? := by
  have : wordL s ++ rest = (headW ++ encW s) ++ 63 :: 61 :: rest := by unfold wordL; simp
  rw [this, List.getElem?_append_right (by rw [List.length_append]; simp [headW])]
  congr 1
  rw [List.length_append]; simp [headW]
theorem word_is (s rest : List UInt8) : isE (wordL s ++ rest) = true := by
  have h1 := word_at s rest 0
  have h2 := word_at s rest 1
  rw [Nat.add_zero] at h1
  have hp : ((encW s).all prn) = true := by
    have h := (encW_all s).1
    rw [List.all_eq_true] at h ⊢
    intro a ha
    have := h a ha
    simp only [Bool.and_eq_true] at this
    exact this.1
  unfold isE
  have hcs : eCs (wordL s ++ rest) = ut8 := by unfold eCs; rw [word_A]; rfl
  have hhow : eHow (wordL s ++ rest) = [113] := by unfold eHow; rw [word_A]; rfl
  rw [word_A, word_E, word_Q, h1, h2, hp, hcs, hhow]
  rfl
theorem word_dec (s rest : List UInt8) : decV (wordL s ++ rest) = s := by
  unfold decV
  have hcs : eCs (wordL s ++ rest) = ut8 := by unfold eCs; rw [word_A]; rfl
  have hhow : eHow (wordL s ++ rest) = [113] := by unfold eHow; rw [word_A]; rfl
  rw [hcs, hhow, word_Q]
  unfold decG
  rw [show decide (ut8 = iso) = false from rfl, show decide (([113] : List UInt8) = [98]) = false from rfl]
  exact unq_encW s
theorem wd_word (o g s rest : List UInt8) (b : Bool) : wdG o g b (wordL s ++ rest) = wdG (o ++ s) [] true rest := by
  have hc : ∃ c r, wordL s ++ rest = c :: r := ⟨61, _, rfl⟩
  obtain ⟨c, r, hcr⟩ := hc
  have h1 := word_is s rest
  have h2 := word_E s rest
  have h3 := word_dec s rest
  have h4 : (wordL s ++ rest).drop (eE (wordL s ++ rest) + 2) = rest := by
    rw [h2, show 10 + (encW s).length + 2 = (wordL s).length by rw [word_len]; omega, List.drop_left]
  rw [hcr] at h1 h3 h4
  rw [hcr, wdG_cons, if_pos h1, h3, h4]
theorem isE_head {c : UInt8} {r : List UInt8} (h : c ≠ 61) : isE (c :: r) = false := by
  unfold isE
  rw [show decide ((c :: r)[0]? = some 61) = false from decide_eq_false (by simpa using h)]; rfl
theorem isE_second {c d : UInt8} {r : List UInt8} (h : d ≠ 63) : isE (c :: d :: r) = false := by
  unfold isE
  rw [show decide ((c :: d :: r)[1]? = some 63) = false from decide_eq_false (by simpa using h)]
  cases decide ((c :: d :: r)[0]? = some 61) <;> rfl
theorem wd_gap : ∀ (bs o g v : List UInt8), (∀ c ∈ bs, isBl c = true) → wdG o g true (bs ++ v) = wdG o (g ++ bs) true v
  | [], o, g, v, h => by simp
  | c :: r, o, g, v, h => by
    have hc := h c (by simp)
    have h61 : c ≠ 61 := by rintro rfl; cases hc
    rw [List.cons_append, wdG_cons, isE_head h61, if_neg (by simp), hc, if_pos (by rfl), wd_gap r _ _ _ (fun d hd => h d (by simp [hd]))]
    simp
theorem wd_plain : ∀ (a o v : List UInt8), (∀ c ∈ a, c ≠ 63) → wdG o [] false (a ++ 46 :: v) = wdG (o ++ a ++ [46]) [] false v
  | [], o, v, h => by
    rw [List.nil_append, wdG_cons, isE_head (by decide), if_neg (by simp), if_neg (by simp)]; simp
  | [c], o, v, h => by
    rw [List.singleton_append, wdG_cons, isE_second (by decide), if_neg (by simp), if_neg (by simp)]
    rw [wdG_cons, isE_head (by decide), if_neg (by simp), if_neg (by simp)]; simp
  | c :: d :: r, o, v, h => by
    have hd := h d (by simp)
    rw [List.cons_append, List.cons_append, wdG_cons, isE_second hd, if_neg (by simp), if_neg (by simp), ← List.cons_append, wd_plain (d :: r) _ v (fun x hx => h x (by simp [hx]))]
    simp
/-- Words with their gaps ahead. -/
def itL : List (List UInt8 × List UInt8) → List UInt8
  | [] => []
  | x :: r => x.1 ++ (wordL x.2 ++ itL r)
def itW : List (List UInt8 × List UInt8) → List UInt8
  | [] => []
  | x :: r => x.2 ++ itW r
theorem itL_append (a b : List (List UInt8 × List UInt8)) : itL (a ++ b) = itL a ++ itL b := by
  induction a with
  | nil => rfl
  | cons x r ih => simp [itL, ih]
theorem itW_append (a b : List (List UInt8 × List UInt8)) : itW (a ++ b) = itW a ++ itW b := by
  induction a with
  | nil => rfl
  | cons x r ih => simp [itW, ih]
theorem wd_items : ∀ (l : List (List UInt8 × List UInt8)) (o v : List UInt8) (b : Bool), (∀ x ∈ l, ∀ c ∈ x.1, isBl c = true) → (b = false → ∀ x, l.head? = some x → x.1 = []) →
    wdG o [] b (itL l ++ v) = wdG (o ++ itW l) [] (b || !l.isEmpty) v
  | [], o, v, b, h1, h2 => by simp [itL, itW]
  | x :: r, o, v, b, h1, h2 => by
    have hg : wdG o [] b (x.1 ++ (wordL x.2 ++ (itL r ++ v))) = wdG (o ++ x.2) [] true (itL r ++ v) := by
      cases b with
      | true => rw [wd_gap _ _ _ _ (h1 x (by simp)), wd_word]
      | false => rw [h2 rfl x rfl, List.nil_append, wd_word]
    have : itL (x :: r) ++ v = x.1 ++ (wordL x.2 ++ (itL r ++ v)) := by simp [itL]
    rw [this, hg, wd_items r _ v true (fun y hy => h1 y (by simp [hy])) (by simp)]
    simp [itW]
/-- What words say. -/
def wdS (v : List UInt8) : List UInt8 := wdG [] [] false v
theorem wds_items (l : List (List UInt8 × List UInt8)) (h1 : ∀ x ∈ l, ∀ c ∈ x.1, isBl c = true) (h2 : ∀ x, l.head? = some x → x.1 = []) : wdS (itL l) = itW l := by
  have := wd_items l [] [] false h1 (fun _ => h2)
  rw [List.append_nil, wdG_nil] at this
  unfold wdS
  rw [this]; simp
theorem wds_plain {v : List UInt8} (h : ∀ c ∈ v, c ≠ 63) : wdS v = v := by unfold wdS; rw [wdG_plain v [] h]; rfl
theorem wds_around (l : List (List UInt8 × List UInt8)) (a z : List UInt8) (h1 : ∀ x ∈ l, ∀ c ∈ x.1, isBl c = true) (h2 : ∀ x, l.head? = some x → x.1 = []) (ha : ∀ c ∈ a, c ≠ 63) (hz : ∀ c ∈ z, c ≠ 63) :
    wdS (a ++ [46] ++ itL l ++ [46] ++ z) = a ++ [46] ++ itW l ++ [46] ++ z := by
  have e : a ++ [46] ++ itL l ++ [46] ++ z = a ++ 46 :: (itL l ++ 46 :: z) := by simp
  unfold wdS
  rw [e, wd_plain a [] _ ha, wd_items l _ _ false h1 (fun _ => h2)]
  have fin : ∀ (o : List UInt8) (b : Bool), wdG o [] b (46 :: z) = o ++ [46] ++ z := by
    intro o b
    rw [wdG_cons, isE_head (by decide), if_neg (by simp), if_neg (by cases b <;> simp [isBl]), wdG_plain z _ hz]; simp
  rw [fin]; simp
end Go.Proofs.Ab

/- LetterWorded. -/
namespace Go.Proofs.Ab
set_option linter.unusedVariables false
set_option maxRecDepth 4000
open Go
variable {R : Type}
theorem hex_facts (c : UInt8) : IntKind.wrap .u8 (Int.tdiv (c.toNat : Int) 16) = ((c.toNat / 16 : Nat) : Int) ∧ Int.tmod (c.toNat : Int) 16 = ((c.toNat % 16 : Nat) : Int) ∧ btA (B hexD) ((c.toNat / 16 : Nat) : Int) = ((hexD.getD (c.toNat / 16) 0).toNat : Int) ∧ btA (B hexD) ((c.toNat % 16 : Nat) : Int) = ((hexD.getD (c.toNat % 16) 0).toNat : Int) := by
  have hlt := byte_lt c
  have h1 : Int.tdiv (c.toNat : Int) 16 = ((c.toNat / 16 : Nat) : Int) := rfl
  have h2 : Int.tmod (c.toNat : Int) 16 = ((c.toNat % 16 : Nat) : Int) := rfl
  have g : ∀ k : Nat, k < 16 → btA (B hexD) (k : Int) = ((hexD.getD k 0).toNat : Int) := by
    intro k hk
    have hk' : k < hexD.length := hk
    rw [btB (List.getElem?_eq_getElem hk'), List.getD_eq_getElem?_getD, List.getElem?_eq_getElem hk']; rfl
  refine ⟨?_, h2, g _ (by omega), g _ (by omega)⟩
  rw [h1, wrap_u8 (by omega) (by omega)]
theorem word_loop (s : List UInt8) (hs : s.length ≤ 1000000) (κ : ByteArray → Option R) : ∀ (f i : Nat) (acc : List UInt8), i ≤ s.length → s.length < i + f → acc.length ≤ 100 + 3 * i →
    postbaglaw5_word_0.L3 κ f (B s) (i : Int) (intsAV acc) = κ (B (acc ++ encW (s.drop i) ++ [63, 61]))
  | 0, i, acc, h1, h2, h3 => by omega
  | f + 1, i, acc, h1, h2, h3 => by
    rw [postbaglaw5_word_0.L3, postbaglaw5_word_0.t3]
    have hal := ints_len acc
    have hw1 : IntKind.wrap .i64 ((i : Int) + 1) = ((i + 1 : Nat) : Int) := wrap_i64 (by omega) (by omega)
    rw [show ((⟨#[48, 49, 50, 51, 52, 53, 54, 55, 56, 57, 65, 66, 67, 68, 69, 70]⟩ : ByteArray)) = B hexD from rfl, show ((⟨#[63, 61]⟩ : ByteArray)) = B [63, 61] from rfl]
    simp only [size_B, hw1, strAV_ints, hal, append_B]
    cases hd : s.drop i with
    | nil =>
      have := drop_nil hd
      rw [cond_dec' (by omega), chk_dec (by simp only [List.length_cons, List.length_nil]; omega)]
      simp [encW]
    | cons c r =>
      obtain ⟨g1, g2, g3⟩ := drop_get hd
      obtain ⟨x1, x2, x3, x4⟩ := hex_facts c
      have hx3 : hexD.length = 16 := rfl
      have hlt := byte_lt c
      have one : ∀ d : UInt8, encC c = [d] → postbaglaw5_word_0.L3 κ f (B s) ((i + 1 : Nat) : Int) (intsAV (acc ++ [d])) = κ (B (acc ++ encW (c :: r) ++ [63, 61])) := by
        intro d hdc
        rw [word_loop s hs κ f (i + 1) (acc ++ [d]) (by omega) (by omega) (by simp; omega), g3, encW, hdc]
        simp
      have i95 : intsAV acc ++ [AV.int 95] = intsAV (acc ++ [95]) := ints_snoc acc 95
      have i3 : intsAV acc ++ [AV.int 61, AV.int ((hexD.getD (c.toNat / 16) 0).toNat : Int), AV.int ((hexD.getD (c.toNat % 16) 0).toNat : Int)] = intsAV (acc ++ [61, hexD.getD (c.toNat / 16) 0, hexD.getD (c.toNat % 16) 0]) := ints_append acc [61, hexD.getD (c.toNat / 16) 0, hexD.getD (c.toNat % 16) 0]
      rw [cond_dec (by omega)]
      simp (disch := omega) only [chk_and, chk_dec, btB g1, ints_snoc, i95, x1, x2, x3, x4, hx3, i3]
      rw [byteB c 32 32 rfl]
      have rest : ¬ (97 ≤ c.toNat ∧ c.toNat ≤ 122) → (bif (c == 32) then postbaglaw5_word_0.L3 κ f (B s) ((i + 1 : Nat) : Int) (intsAV (acc ++ [95])) else postbaglaw5_word_0.L3 κ f (B s) ((i + 1 : Nat) : Int) (intsAV (acc ++ [61, hexD.getD (c.toNat / 16) 0, hexD.getD (c.toNat % 16) 0]))) = κ (B (acc ++ encW (c :: r) ++ [63, 61])) := by
        intro hn
        by_cases e : c = 32
        · rw [show (c == 32) = true by simpa using e]
          exact one 95 (by unfold encC; rw [if_neg hn, if_pos e])
        · rw [show (c == 32) = false by simpa using e]
          simp only [cond_false]
          rw [word_loop s hs κ f (i + 1) _ (by omega) (by omega) (by simp; omega), g3, encW]
          unfold encC
          rw [if_neg hn, if_neg e]
          simp
      by_cases h5 : 97 ≤ c.toNat
      · rw [cond_dec (by omega)]
        by_cases h6 : c.toNat ≤ 122
        · rw [cond_dec (by omega)]
          exact one c (by unfold encC; rw [if_pos ⟨h5, h6⟩])
        · rw [cond_dec' (by omega)]
          exact rest (by omega)
      · rw [cond_dec' (by omega)]
        exact rest (by omega)
theorem word_eq (s cs : List UInt8) (hs : s.length ≤ 1000000) (hc : cs.length ≤ 50) (κ : ByteArray → Option R) : postbaglaw5_word_0 (B s) (B cs) κ = κ (B ([61, 63] ++ cs ++ [63, 81, 63] ++ encW s ++ [63, 61])) := by
  have key : ∀ f, s.length < f → postbaglaw5_word_0.e (B s) (B cs) (postbaglaw5_word_0.L3 κ f) κ = κ (B ([61, 63] ++ cs ++ [63, 81, 63] ++ encW s ++ [63, 61])) := by
    intro f hf
    unfold postbaglaw5_word_0.e
    rw [show ((⟨#[61, 63]⟩ : ByteArray)) = B [61, 63] from rfl, show ((⟨#[63, 81, 63]⟩ : ByteArray)) = B [63, 81, 63] from rfl]
    simp only [append_B, size_B, List.length_append, List.length_cons, List.length_nil]
    rw [chk_dec (by omega), chk_dec (by omega), chk_dec (by omega), bytesB]
    have := word_loop s hs κ f 0 ([61, 63] ++ cs ++ [63, 81, 63]) (by omega) (by omega) (by simp only [List.length_append, List.length_cons, List.length_nil]; omega)
    rw [List.drop_zero] at this
    exact this
  exact key fuelK (by unfold fuelK; omega)
theorem word_utf (s : ByteArray) (hs : s.size ≤ 1000000) (κ : ByteArray → Option R) : postbaglaw5_word_0 s (⟨#[85, 84, 70, 45, 56]⟩ : ByteArray) κ = κ (B (wordL (bl s))) := by
  have := size_bl s
  rw [← B_bl s, show ((⟨#[85, 84, 70, 45, 56]⟩ : ByteArray)) = B [85, 84, 70, 45, 56] from rfl, word_eq _ _ (by omega) (by decide)]
  congr 2
def xyW : ByteArray := ⟨#[61, 63, 120, 45, 121, 63, 81, 63, 97, 98, 99, 63, 61]⟩
theorem word_xy (κ : ByteArray → Option R) : postbaglaw5_word_0 (⟨#[97, 98, 99]⟩ : ByteArray) (⟨#[120, 45, 121]⟩ : ByteArray) κ = κ xyW := by kernel_rfl
theorem words_xyW (κ : Bool → Option R) : letter_Words_0 xyW (fun r660 => κ (decide (r660 = xyW))) = κ true := by kernel_rfl
abbrev wo8 (κ : Bool → Option R) (f : Nat) := postbaglaw5_LetterWorded_0.L8 postbaglaw5_known_0 postbaglaw5_word_0 postbaglaw5_plain_0 letter_Words_0 κ f
abbrev wo14 (κ : Bool → Option R) (f : Nat) := postbaglaw5_LetterWorded_0.L14 postbaglaw5_known_0 postbaglaw5_word_0 postbaglaw5_plain_0 letter_Words_0 κ f
theorem wo8_succ (κ : Bool → Option R) (f : Nat) (x0 x1 : List AV) (x2 x3 x4 x5 : ByteArray) (x6 : Int) : wo8 κ (f + 1) x0 x1 x2 x3 x4 x5 x6 = postbaglaw5_LetterWorded_0.t8 postbaglaw5_known_0 postbaglaw5_word_0 postbaglaw5_plain_0 letter_Words_0 x0 x1 x2 x3 x4 x5 x6 (wo8 κ f) (wo14 κ f) κ := by
  unfold wo8 wo14 postbaglaw5_LetterWorded_0.L8 postbaglaw5_LetterWorded_0.L14
  rw [postbaglaw5_LetterWorded_0.M8]
theorem wo14_succ (κ : Bool → Option R) (f : Nat) (x0 x1 : List AV) (x2 x3 x4 x5 : ByteArray) (x6 x7 : Int) : wo14 κ (f + 1) x0 x1 x2 x3 x4 x5 x6 x7 = postbaglaw5_LetterWorded_0.t14 postbaglaw5_known_0 postbaglaw5_word_0 postbaglaw5_plain_0 letter_Words_0 x0 x1 x2 x3 x4 x5 x6 x7 (wo8 κ f) (wo14 κ f) κ := by
  unfold wo8 wo14 postbaglaw5_LetterWorded_0.L8 postbaglaw5_LetterWorded_0.L14
  rw [postbaglaw5_LetterWorded_0.M8]
abbrev It := List (List UInt8 × List UInt8)
def okI (l : It) : Prop := (∀ x ∈ l, ∀ c ∈ x.1, isBl c = true) ∧ (∀ x, l.head? = some x → x.1 = [])
def lenI (l : It) (i : Nat) : Prop := (itL l).length ≤ 621 * i ∧ (itW l).length ≤ 200 * i
theorem okI_snoc {l : It} {g p : List UInt8} (h : okI l) (hg : ∀ c ∈ g, isBl c = true) (h0 : l = [] → g = []) : okI (l ++ [(g, p)]) := by
  constructor
  · intro x hx
    rcases List.mem_append.1 hx with h1 | h1
    · exact h.1 x h1
    · rw [List.mem_singleton.1 h1]; exact hg
  · intro x hx
    cases l with
    | nil => simp at hx; rw [← hx]; exact h0 rfl
    | cons y r => exact h.2 x (by simpa using hx)
theorem wo_end (l : It) (a z : ByteArray) (hok : okI l) (hl : lenI l 40) (ha : a.size ≤ 40000) (hz : z.size ≤ 40000) (κ : Bool → Option R) (f : Nat) (x0 x1 : List AV) (x6 : Int) (h6 : ¬ x6 < (x0.length : Int)) :
    wo8 κ (f + 1) x0 x1 a z (B (itL l)) (B (itW l)) x6 = κ true := by
  have h1 := size_bl a
  have h2 := size_bl z
  obtain ⟨hl1, hl2⟩ := hl
  rw [wo8_succ, postbaglaw5_LetterWorded_0.t8, cond_dec' h6, ← B_bl a, ← B_bl z, plain_eq _ (by omega), plain_eq _ (by omega), word_xy]
  have p1 := plL_len (bl a)
  have p2 := plL_len (bl z)
  have n1 := plL_no (bl a)
  have n2 := plL_no (bl z)
  generalize plL (bl a) = u at p1 n1
  generalize plL (bl z) = v at p2 n2
  rw [show ((⟨#[46]⟩ : ByteArray)) = B [46] from rfl, lWords_eq _ (by omega), lWords_eq u (by omega)]
  simp only [append_B, size_B, List.length_append, List.length_singleton, B_inj]
  rw [show wdG [] [] false (itL l) = wdS (itL l) from rfl, show wdG [] [] false u = wdS u from rfl, wds_items l hok.1 hok.2, wds_plain n1]
  simp only [decide_true, cond_true]
  rw [chk_dec (by omega), chk_dec (by omega), chk_dec (by omega), chk_dec (by omega), lWords_eq _ (by simp only [List.length_append, List.length_singleton]; omega)]
  rw [show wdG [] [] false (u ++ [46] ++ itL l ++ [46] ++ v) = wdS (u ++ [46] ++ itL l ++ [46] ++ v) from rfl, wds_around l u v hok.1 hok.2 n1 n2]
  rw [chk_dec (by omega), chk_dec (by omega), chk_dec (by omega), chk_dec (by omega)]
  rw [decide_eq_true rfl, cond_true]
  exact words_xyW κ
theorem wo_loop (x0 x1 : List AV) (h0 : x0.length ≤ 40) (a z : ByteArray) (ha : a.size ≤ 40000) (hz : z.size ≤ 40000) (κ : Bool → Option R) : ∀ (n i : Nat) (l : It) (f : Nat), x0.length ≤ i + n → i ≤ x0.length → okI l → lenI l i → (l = [] → i = 0) → 12 * n + 1 ≤ f →
    wo8 κ f x0 x1 a z (B (itL l)) (B (itW l)) (i : Int) = κ true
  | n, i, l, 0, h1, h2, h3, h4, h5, h6 => by omega
  | 0, i, l, f + 1, h1, h2, h3, h4, h5, h6 => wo_end l a z h3 ⟨by have := h4.1; omega, by have := h4.2; omega⟩ ha hz κ f x0 x1 _ (by omega)
  | n + 1, i, l, f + 1, h1, h2, h3, h4, h5, h6 => by
    by_cases hi : (i : Int) < (x0.length : Int)
    · have hw1 : IntKind.wrap .i64 ((i : Int) + 1) = ((i + 1 : Nat) : Int) := wrap_i64 (by omega) (by omega)
      obtain ⟨h4a, h4b⟩ := h4
      have hpz := size_bl (rdA x0 (i : Int)).s
      have hew := (encW_all (bl (rdA x0 (i : Int)).s)).2
      -- one word behind a gap
      have put : ∀ (g : List UInt8) (f' : Nat), (rdA x0 (i : Int)).s.size ≤ 200 → (∀ c ∈ g, isBl c = true) → g.length ≤ 9 → (i = 0 → g = []) → 12 * n + 1 ≤ f' →
          (chk (decide ((0 : Int) ≤ (i : Int)) && decide ((i : Int) < (x0.length : Int))) (postbaglaw5_word_0 (rdA x0 (i : Int)).s (⟨#[85, 84, 70, 45, 56]⟩ : ByteArray) (fun r661 => (chk (decide ((B (itL l ++ g)).size + r661.size ≤ 9223372036854775807)) (chk ((decide ((0 : Int) ≤ (i : Int))) && (decide ((i : Int) < (x0.length : Int)))) (chk (decide ((B (itW l)).size + (rdA x0 (i : Int)).s.size ≤ 9223372036854775807)) (wo8 κ f' x0 x1 a z (B (itL l ++ g) ++ r661) (B (itW l) ++ (rdA x0 (i : Int)).s) (IntKind.wrap .i64 ((i : Int) + 1))))))))) = κ true := by
        intro g f' hp hg hgl hg0 hf'
        rw [chk_and, chk_dec (by omega), chk_dec (by omega), word_utf _ (by omega)]
        have e1 : B (itL l ++ g) ++ B (wordL (bl (rdA x0 (i : Int)).s)) = B (itL (l ++ [(g, bl (rdA x0 (i : Int)).s)])) := by rw [append_B, itL_append]; simp [itL]
        have e2 : B (itW l) ++ (rdA x0 (i : Int)).s = B (itW (l ++ [(g, bl (rdA x0 (i : Int)).s)])) := by rw [← B_bl (rdA x0 (i : Int)).s, append_B, itW_append]; simp [itW, bl_B]
        rw [e1, e2, size_B, size_B, size_B, List.length_append, word_len, chk_dec (by omega), chk_and, chk_dec (by omega), chk_dec (by omega), chk_dec (by omega), hw1]
        refine wo_loop x0 x1 h0 a z ha hz κ n (i + 1) _ f' (by omega) (by omega) (okI_snoc h3 hg (fun e => hg0 (h5 e))) ⟨?_, ?_⟩ (by simp) hf'
        · rw [itL_append, List.length_append]
          simp only [itL, List.append_nil, List.length_append, word_len]; omega
        · rw [itW_append, List.length_append]
          simp only [itW, List.append_nil]; omega
      rw [wo8_succ, postbaglaw5_LetterWorded_0.t8, cond_dec hi, chk_and, chk_dec (by omega), chk_dec (by omega)]
      by_cases hp : (rdA x0 (i : Int)).s.size > 200
      · rw [cond_dec (by omega)]
      · rw [cond_dec' (by omega)]
        have p0 := put [] f (by omega) (by simp) (by simp) (fun _ => rfl) (by omega)
        rw [List.append_nil] at p0
        by_cases h7 : (i : Int) > 0
        · rw [cond_dec h7]
          by_cases h8 : (i : Int) < (x1.length : Int)
          · rw [cond_dec h8]
            -- the gap
            have gap : ∀ (m k : Nat) (g : List UInt8) (f' : Nat), 9 ≤ k + m → k ≤ 9 → g.length ≤ k → (∀ c ∈ g, isBl c = true) → 12 * n + 1 + m + 1 ≤ f' → wo14 κ f' x0 x1 a z (B (itL l ++ g)) (B (itW l)) (i : Int) (k : Int) = κ true := by
              intro m
              induction m with
              | zero =>
                intro k g f' k1 k2 k3 k4 k5
                obtain ⟨f'', rfl⟩ : ∃ f'', f' = f'' + 1 := ⟨f' - 1, by omega⟩
                rw [wo14_succ, postbaglaw5_LetterWorded_0.t14, chk_and, chk_dec (by omega), chk_dec (by omega)]
                have pp := put g f'' (by omega) k4 (by omega) (fun e => by omega) (by omega)
                by_cases c1 : (k : Int) < ((rdA x1 (i : Int)).s.size : Int)
                · rw [cond_dec c1, cond_dec' (by omega)]; exact pp
                · rw [cond_dec' c1]; exact pp
              | succ m ih =>
                intro k g f' k1 k2 k3 k4 k5
                obtain ⟨f'', rfl⟩ : ∃ f'', f' = f'' + 1 := ⟨f' - 1, by omega⟩
                rw [wo14_succ, postbaglaw5_LetterWorded_0.t14, chk_and, chk_dec (by omega), chk_dec (by omega)]
                have pp := put g f'' (by omega) k4 (by omega) (fun e => by omega) (by omega)
                by_cases c1 : (k : Int) < ((rdA x1 (i : Int)).s.size : Int)
                · rw [cond_dec c1]
                  by_cases c2 : (k : Int) < 9
                  · have hwk : IntKind.wrap .i64 ((k : Int) + 1) = ((k + 1 : Nat) : Int) := wrap_i64 (by omega) (by omega)
                    have hsz : (B (itL l ++ g)).size + 1 ≤ 9223372036854775807 := by rw [size_B, List.length_append]; omega
                    rw [cond_dec c2, chk_and, chk_dec (by omega), chk_dec (by omega), chk_and, chk_dec (by omega), chk_dec (by omega), hwk, show ((⟨#[32]⟩ : ByteArray)) = B [32] from rfl, show ((⟨#[9]⟩ : ByteArray)) = B [9] from rfl, append_B, append_B, List.append_assoc, List.append_assoc]
                    rw [chk_dec (by exact hsz), chk_dec (by exact hsz)]
                    have b32 : ∀ c ∈ g ++ [32], isBl c = true := by
                      intro c hc
                      rcases List.mem_append.1 hc with hc | hc
                      · exact k4 c hc
                      · rw [List.mem_singleton.1 hc]; rfl
                    have b9 : ∀ c ∈ g ++ [9], isBl c = true := by
                      intro c hc
                      rcases List.mem_append.1 hc with hc | hc
                      · exact k4 c hc
                      · rw [List.mem_singleton.1 hc]; rfl
                    rw [ih (k + 1) (g ++ [32]) f'' (by omega) (by omega) (by simp; omega) b32 (by omega), ih (k + 1) (g ++ [9]) f'' (by omega) (by omega) (by simp; omega) b9 (by omega)]
                    cases (Int.tmod (btA (rdA x1 (i : Int)).s (k : Int)) 2 == 0) <;> rfl
                  · rw [cond_dec' c2]; exact pp
                · rw [cond_dec' c1]; exact pp
            have := gap 9 0 [] f (by omega) (by omega) (by simp) (by simp) (by omega)
            rw [List.append_nil] at this
            exact this
          · rw [cond_dec' h8]; exact p0
        · rw [cond_dec' h7]; exact p0
    · exact wo_end l a z h3 ⟨by have := h4.1; omega, by have := h4.2; omega⟩ ha hz κ f x0 x1 _ hi
theorem letterWorded_text (a0 a1 : List AV) (a2 a3 : ByteArray) (κ : Bool → Option R) : postbaglaw5_LetterWorded_0 a0 a1 a2 a3 κ = κ true := by
  have key : ∀ f, 1000 < f → postbaglaw5_LetterWorded_0.e postbaglaw5_known_0 postbaglaw5_word_0 postbaglaw5_plain_0 letter_Words_0 a0 a1 a2 a3 (wo8 κ f) (wo14 κ f) κ = κ true := by
    intro f hf
    unfold postbaglaw5_LetterWorded_0.e
    by_cases h1 : (a0.length : Int) > 40
    · rw [cond_dec h1]
    · rw [cond_dec' h1]
      by_cases h2 : (a2.size : Int) > 40000
      · rw [cond_dec h2]
      · rw [cond_dec' h2]
        by_cases h3 : (a3.size : Int) > 40000
        · rw [cond_dec h3]
        · rw [cond_dec' h3, known_holds]
          simp only [Bool.not_true, cond_false]
          exact wo_loop a0 a1 (by omega) a2 a3 (by omega) (by omega) κ 40 0 [] f (by omega) (by omega) ⟨by simp, by simp⟩ ⟨by simp [itL], by simp [itW]⟩ (fun _ => rfl) (by omega)
  exact key fuelK (by unfold fuelK; omega)
end Go.Proofs.Ab
