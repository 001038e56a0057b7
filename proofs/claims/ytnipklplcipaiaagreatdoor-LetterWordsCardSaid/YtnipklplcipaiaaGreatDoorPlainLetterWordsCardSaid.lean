/- The plain functions of program and document say the same (conditions: those of each lemma). -/
import Derived.Test.YtnipklplcipaiaaGreatDoorAbB
import Derived.IntWalk
import Derived.Test.YtnipklplcipaiaaGreatDoorText
import Derived.Lib.IndexLaws
/- Plain lemmas on the words of the typed texts: checks, numbers, bytes. -/
namespace Go.Proofs.Ab
set_option linter.unusedVariables false
set_option maxRecDepth 4000
open Go
variable {R : Type}
/-! ## Checks -/
theorem chk_dec {p : Prop} [Decidable p] {k : Option R} (h : p) : chk (decide p) k = k := by rw [decide_eq_true h]; rfl
theorem chk_and {a b : Bool} {k : Option R} : chk (a && b) k = chk a (chk b k) := by cases a <;> rfl
theorem chk_tt {k : Option R} : chk true k = k := rfl
theorem chk_ff {k : Option R} : chk false k = none := rfl
theorem cond_dec {α : Type} {p : Prop} [Decidable p] {x y : α} (h : p) : (bif decide p then x else y) = x := by rw [decide_eq_true h]; rfl
theorem cond_dec' {α : Type} {p : Prop} [Decidable p] {x y : α} (h : ¬ p) : (bif decide p then x else y) = y := by rw [decide_eq_false h]; rfl
theorem beq_pos {x y : Int} (h : x = y) : (x == y) = true := by simp [h]
theorem beq_neg {x y : Int} (h : x ≠ y) : (x == y) = false := by simp [h]
theorem bne_pos {x y : Int} (h : x ≠ y) : (x != y) = true := by simp [h]
theorem bne_neg {x y : Int} (h : x = y) : (x != y) = false := by simp [h]
/-! ## Numbers -/
theorem wrap_i64 {x : Int} (h1 : -9223372036854775808 ≤ x) (h2 : x < 9223372036854775808) : IntKind.wrap .i64 x = x := IntWalk.i64_in x ⟨h1, by omega⟩
theorem wrap_u8 {x : Int} (h1 : 0 ≤ x) (h2 : x < 256) : IntKind.wrap .u8 x = x := by rw [IntKind.wrap_u8]; omega
/-! ## Bytes -/
/-- The bytes of a text. -/
def bl (s : ByteArray) : List UInt8 := s.data.toList
/-- A text of bytes. -/
def B (l : List UInt8) : ByteArray := ⟨l.toArray⟩
theorem bl_B (l : List UInt8) : bl (B l) = l := rfl
theorem B_bl (s : ByteArray) : B (bl s) = s := rfl
theorem size_bl (s : ByteArray) : s.size = (bl s).length := by unfold bl; rw [Array.length_toList]; rfl
theorem size_B (l : List UInt8) : (B l).size = l.length := by rw [size_bl, bl_B]
theorem bl_inj {a b : ByteArray} (h : bl a = bl b) : a = b := by rw [← B_bl a, h, B_bl]
theorem B_inj {a b : List UInt8} : B a = B b ↔ a = b := ⟨fun h => by rw [← bl_B a, h, bl_B], fun h => by rw [h]⟩
theorem bl_extract (s : ByteArray) (i j : Nat) : bl (s.extract i j) = ((bl s).take j).drop i := by
  unfold bl; rw [ByteArray.data_extract, Array.toList_extract]; simp [List.extract, List.drop_take]
theorem extract_B (l : List UInt8) (i j : Nat) : (B l).extract i j = B ((l.take j).drop i) := bl_inj (by rw [bl_extract, bl_B, bl_B])
theorem bl_append (a b : ByteArray) : bl (a ++ b) = bl a ++ bl b := by unfold bl; simp
theorem append_B (a b : List UInt8) : B a ++ B b = B (a ++ b) := bl_inj (by rw [bl_append]; rfl)
theorem empty_B : (⟨#[]⟩ : ByteArray) = B [] := rfl
theorem btA_get {s : ByteArray} {i : Nat} {c : UInt8} (h : (bl s)[i]? = some c) : btA s (i : Int) = c.toNat := by
  obtain ⟨hlt, hv⟩ := List.getElem?_eq_some_iff.1 h
  have hlt' : i < s.size := by rw [size_bl]; exact hlt
  unfold btA
  simp only [Int.toNat_natCast]
  rw [dif_pos hlt']
  congr 2
theorem drop_get {α : Type} {l : List α} {i : Nat} {c : α} {r : List α} (h : l.drop i = c :: r) : l[i]? = some c ∧ i < l.length ∧ l.drop (i + 1) = r := by
  have h0 : (l.drop i)[0]? = some c := by rw [h]; rfl
  rw [List.getElem?_drop, Nat.add_zero] at h0
  refine ⟨h0, (List.getElem?_eq_some_iff.1 h0).1, ?_⟩
  rw [← List.drop_drop, h]; rfl
theorem drop_nil {α : Type} {l : List α} {i : Nat} (h : l.drop i = []) : l.length ≤ i := by simpa using h
theorem drop_lt {α : Type} {l : List α} {i : Nat} (h : i < l.length) : ∃ c r, l.drop i = c :: r := by
  cases hd : l.drop i with
  | nil => have := drop_nil hd; omega
  | cons c r => exact ⟨c, r, rfl⟩
theorem take_succ_get {α : Type} {l : List α} {i : Nat} {c : α} (h : l[i]? = some c) : l.take (i + 1) = l.take i ++ [c] := by
  rw [List.take_add_one, h]; rfl
theorem byte_beq (c d : UInt8) : ((c.toNat : Int) == (d.toNat : Int)) = (c == d) := by
  rw [Bool.eq_iff_iff]; simp only [beq_iff_eq, Int.natCast_inj, ← UInt8.toNat_inj]
theorem byte_bne (c d : UInt8) : ((c.toNat : Int) != (d.toNat : Int)) = (c != d) := by
  unfold bne; rw [byte_beq]
theorem byte_lt (c : UInt8) : c.toNat < 256 := by have := c.toNat_lt; omega
theorem nat_i {i : Nat} : ((i : Int) + 1) = ((i + 1 : Nat) : Int) := rfl
theorem index_cons (b : UInt8) (l sub : List UInt8) : Lib.index (b :: l) sub = if sub.isPrefixOf (b :: l) then 0 else if Lib.index l sub == -1 then -1 else Lib.index l sub + 1 := rfl
theorem index_room : ∀ (s sub : List UInt8), Lib.index s sub ≠ -1 → Lib.index s sub + sub.length ≤ s.length
  | [], sub, h => by
    cases sub with
    | nil => simp [Lib.index]
    | cons a t => exact absurd rfl h
  | b :: l, sub, h => by
    rw [index_cons] at h ⊢
    split at h
    · rename_i hp
      rw [if_pos hp]
      have := (List.isPrefixOf_iff_prefix.1 hp).length_le
      omega
    · rename_i hp
      rw [if_neg hp]
      split at h
      · exact absurd rfl h
      · rename_i hi
        have hi' : Lib.index l sub ≠ -1 := by simpa using hi
        have := index_room l sub hi'
        rw [if_neg hi]
        simp only [List.length_cons]; omega
/-! ## Rows -/
theorem rdA_get {l : List AV} {i : Nat} {a : AV} (h : l[i]? = some a) : rdA l (i : Int) = a := by
  unfold rdA; rw [Int.toNat_natCast, List.getD_eq_getElem?_getD, h]; rfl
theorem rdA_drop {l : List AV} {i : Nat} {a : AV} {r : List AV} (h : l.drop i = a :: r) : rdA l (i : Int) = a := rdA_get (drop_get h).1
end Go.Proofs.Ab

/- Bytes, rows and small functions of Go's library; the law's check that the program works at all. -/
namespace Go.Proofs.Ab
set_option linter.unusedVariables false
set_option maxRecDepth 4000
open Go
variable {R : Type}
theorem btB {l : List UInt8} {i : Nat} {c : UInt8} (h : l[i]? = some c) : btA (B l) (i : Int) = c.toNat := btA_get (s := B l) h
theorem byteB (c : UInt8) (d : UInt8) (x : Int) (h : x = (d.toNat : Int)) : ((c.toNat : Int) == x) = (c == d) := by rw [h, byte_beq]
theorem byteN (c : UInt8) (d : UInt8) (x : Int) (h : x = (d.toNat : Int)) : ((c.toNat : Int) != x) = (c != d) := by rw [h, byte_bne]
/-- Lists of lines as rows. -/
def rowsS (l : List (List UInt8)) : List AV := l.map fun x => .str (B x)
theorem rowsS_len (l : List (List UInt8)) : (rowsS l).length = l.length := by unfold rowsS; simp
theorem rowsS_append (l m : List (List UInt8)) : rowsS (l ++ m) = rowsS l ++ rowsS m := by unfold rowsS; simp

theorem rdA_rows {l : List (List UInt8)} {i : Nat} {x : List UInt8} (h : l[i]? = some x) : (rdA (rowsS l) (i : Int)).s = B x := by
  rw [rdA_get (a := .str (B x)) (by unfold rowsS; rw [List.getElem?_map, h]; rfl)]; rfl
theorem rdA_last (xs : List AV) (a : AV) : rdA (xs ++ [a]) (xs.length : Int) = a := rdA_get (by simp)
theorem rdA_at (xs : List AV) (a : AV) (r : List AV) (n : Nat) (h : xs.length = n) : rdA (xs ++ a :: r) (n : Int) = a := rdA_get (by subst h; simp)
theorem setA_at (xs : List AV) (a b : AV) (r : List AV) (n : Nat) (h : xs.length = n) : setA (xs ++ a :: r) (n : Int) b = xs ++ b :: r := by
  subst h; unfold setA; simp
theorem prefix_take {l p : List UInt8} : p.isPrefixOf l = decide (l.take p.length = p) := by
  rw [Bool.eq_iff_iff, List.isPrefixOf_iff_prefix, List.prefix_iff_eq_take, decide_eq_true_eq, eq_comm]
theorem hasPrefix_eq (a : ByteArray) (p : List UInt8) (κ : Bool → Option R) : strings_HasPrefix_0 a (B p) κ = κ (p.isPrefixOf (bl a)) := by
  have hsz := size_bl a
  unfold strings_HasPrefix_0 strings_HasPrefix_0.e stringslite_HasPrefix_0 stringslite_HasPrefix_0.e
  simp only [size_B]
  by_cases h : p.length ≤ (bl a).length
  · simp (disch := omega) only [cond_dec, chk_and, chk_dec]
    congr 1
    rw [prefix_take]
    congr 1
    rw [← B_bl (a.extract _ _), bl_extract, B_inj]
    simp
  · simp (disch := omega) only [cond_dec']
    congr 1
    rw [prefix_take]
    symm; rw [decide_eq_false_iff_not]
    intro e; have := congrArg List.length e; simp at this; omega
theorem index_eq (l p : List UInt8) (hs : l.length ≤ 1000000) (κ : Int → Option R) : strings_Index_0 (B l) (B p) κ = κ (Lib.index l p) := by
  unfold strings_Index_0 strings_Index_0.e stringslite_Index_0
  have := size_B l
  simp (disch := omega) only [chk_dec]
  rfl
theorem hasPrefixB (l p : List UInt8) (κ : Bool → Option R) : strings_HasPrefix_0 (B l) (B p) κ = κ (p.isPrefixOf l) := hasPrefix_eq (B l) p κ
theorem takeWhile_get {p : UInt8 → Bool} {l : List UInt8} {k : Nat} (h : k < (l.takeWhile p).length) : ∃ c, l[k]? = some c ∧ p c = true := by
  obtain ⟨t, ht⟩ := List.takeWhile_prefix p (l := l)
  refine ⟨(l.takeWhile p)[k], ?_, List.all_eq_true.1 List.all_takeWhile _ (List.getElem_mem h)⟩
  have := List.getElem?_append_left (l₂ := t) h
  rw [ht] at this
  rw [this, List.getElem?_eq_getElem h]
theorem known_holds (κ : Bool → Option R) : postbaglaw5_known_0 κ = κ true := by kernel_rfl
theorem indexByte_at {l : List UInt8} {c : UInt8} {o : Nat} (h : l[o]? = some c) (hn : ∀ k, k < o → l[k]? ≠ some c) : Lib.indexByte l c = o := by
  have hge := Lib.indexByte_ge l c
  by_cases e : Lib.indexByte l c = -1
  · exact absurd h (Lib.indexByte_none e o)
  · obtain ⟨m, hm⟩ : ∃ m : Nat, Lib.indexByte l c = m := ⟨(Lib.indexByte l c).toNat, by omega⟩
    obtain ⟨h1, h2⟩ := Lib.indexByte_some hm
    rcases Nat.lt_trichotomy m o with hlt | heq | hgt
    · exact absurd h1 (hn m hlt)
    · rw [hm, heq]
    · exact absurd h (h2 o hgt)
theorem dw_nil {p : UInt8 → Bool} : ∀ {l : List UInt8}, l.dropWhile p = [] ↔ ∀ a ∈ l, p a = true
  | [] => by simp
  | c :: r => by
    rw [List.dropWhile_cons]
    cases h : p c with
    | true => simp [h, dw_nil (l := r)]
    | false => simp [h]
end Go.Proofs.Ab

/- Bytes as cells; strings.Builder. -/
namespace Go.Proofs.Ab
set_option linter.unusedVariables false
set_option maxRecDepth 4000
open Go
variable {R : Type}
theorem all_bytes {p : UInt8 → Bool} (h : (List.range 256).all (fun n => p (UInt8.ofNat n)) = true) (c : UInt8) : p c = true := by
  have := List.all_eq_true.1 h c.toNat (List.mem_range.2 (byte_lt c))
  rwa [UInt8.ofNat_toNat] at this
theorem sIB_eq (l : List UInt8) (c : UInt8) (κ : Int → Option R) : strings_IndexByte_0 (B l) (c.toNat : Int) κ = κ (Lib.indexByte l c) := by
  show κ (Lib.indexByte l ((c.toNat : Int).toNat.toUInt8)) = _
  rw [Int.toNat_natCast]
  show κ (Lib.indexByte l (UInt8.ofNat c.toNat)) = _
  rw [UInt8.ofNat_toNat]
/-- A text's bytes as cells. -/
def intsAV (t : List UInt8) : List AV := t.map fun b => AV.int (b.toNat : Int)
theorem ints_len (t : List UInt8) : (intsAV t).length = t.length := by unfold intsAV; simp
theorem ints_append (t u : List UInt8) : intsAV t ++ intsAV u = intsAV (t ++ u) := by unfold intsAV; simp
theorem ints_snoc (t : List UInt8) (c : UInt8) : intsAV t ++ [AV.int (c.toNat : Int)] = intsAV (t ++ [c]) := ints_append t [c]
theorem strAV_ints (t : List UInt8) : strAV (intsAV t) = B t := by
  unfold strAV intsAV B
  congr 2
  rw [List.map_map]
  conv => rhs; rw [← List.map_id t]
  apply List.map_congr_left
  intro b hb
  show UInt8.ofNat ((b.toNat : Int).toNat) = b
  rw [Int.toNat_natCast, UInt8.ofNat_toNat]
theorem ints_ok (t : List UInt8) : List.all (intsAV t) byteOk = true := by
  unfold intsAV
  rw [List.all_map, List.all_eq_true]
  intro b hb
  have := byte_lt b
  show byteOk (AV.int (b.toNat : Int)) = true
  unfold byteOk
  show (decide (0 ≤ (b.toNat : Int)) && decide ((b.toNat : Int) < 256)) = true
  rw [decide_eq_true (by omega), decide_eq_true (by omega)]; rfl
theorem bytesB' (t : List UInt8) : bytesAV (B t) = intsAV t := rfl
theorem wByte_eq (l : List AV) (a : Int) (κ : List AV → Option R) (h : l.length ≤ 1000000000) : strings_Builder_WriteByte_vxfei l a κ = κ (l ++ [AV.int a]) := by
  show chk (decide ((l.length + 1) * 1 ≤ 140737488355328)) (κ (l ++ [AV.int a])) = _
  rw [chk_dec (by omega)]
theorem bString_eq (t : List UInt8) (κ : ByteArray → Option R) : strings_Builder_String_vxfe (intsAV t) κ = κ (B t) := by
  unfold strings_Builder_String_vxfe strings_Builder_String_vxfe.e
  rw [chk_dec rfl, ints_ok, strAV_ints]; rfl
theorem bytesB (t : List UInt8) : bytesAV (B t) = intsAV t := rfl
theorem wString_eq (l : List AV) (s : ByteArray) (κ : Int → List AV → Option R) (h : l.length + s.size ≤ 1000000000) : strings_Builder_WriteString_vxfes l s κ = κ (s.size : Int) (l ++ bytesAV s) := by
  show chk (decide ((l.length + (bytesAV s).length) * 1 ≤ 140737488355328)) (κ (s.size : Int) (l ++ bytesAV s)) = _
  have : (bytesAV s).length = s.size := by unfold bytesAV; simp
  rw [chk_dec (by omega)]
end Go.Proofs.Ab

/- Lines, headers and fields: what both programs read. -/
namespace Go.Proofs.Ab
set_option linter.unusedVariables false
set_option maxRecDepth 4000
open Go
variable {R : Type}
/-- A blank. -/
def isBl (c : UInt8) : Bool := c == 32 || c == 9
/-- A byte of a field's name. -/
def isNm (c : UInt8) : Bool := decide (32 < c.toNat) && (decide (c.toNat < 127) && c != 58)
def nmL (c : List UInt8) : List UInt8 := c.takeWhile isNm
def atL (c : List UInt8) : Nat := (nmL c).length + ((c.drop (nmL c).length).takeWhile isBl).length
/-- Does a line begin a field? -/
def isF (c : List UInt8) : Bool := decide (nmL c ≠ []) && (c[atL c]? == some 58)
theorem isBlank_eq (c : UInt8) (κ : Bool → Option R) : letter_isBlank_0 (c.toNat : Int) κ = κ (isBl c) := by
  unfold letter_isBlank_0 letter_isBlank_0.e
  rw [byteB c 32 32 rfl, byteB c 9 9 rfl]
  unfold isBl
  cases (c == 32) <;> rfl
theorem blank_eq (c : UInt8) (κ : Bool → Option R) : postbagref5_blank_0 (c.toNat : Int) κ = κ (isBl c) := by
  unfold postbagref5_blank_0 postbagref5_blank_0.e
  rw [byteB c 32 32 rfl, byteB c 9 9 rfl]
  unfold isBl
  cases (c == 32) <;> rfl
theorem begins_end (c n : List UInt8) (i : Nat) (κ : ByteArray → Bool → Option R) :
    (bif (!decide (B n = (⟨#[]⟩ : ByteArray))) then (bif (decide ((i : Int) < ((B c).size : Int))) then (chk ((decide ((0 : Int) ≤ (i : Int))) && (decide ((i : Int) < ((B c).size : Int)))) (κ (B n) ((btA (B c) (i : Int)) == 58))) else (κ (B n) false)) else (κ (B n) false))
      = κ (B n) (decide (n ≠ []) && (c[i]? == some 58)) := by
  simp only [size_B, empty_B, B_inj]
  by_cases hn : n = []
  · subst hn; rfl
  · simp only [hn, decide_false, Bool.not_false, cond_true, ne_eq, not_false_eq_true, decide_true, Bool.true_and]
    by_cases hi : i < c.length
    · simp (disch := omega) only [cond_dec, chk_and, chk_dec]
      rw [btB (List.getElem?_eq_getElem hi), byteB _ 58 58 rfl, List.getElem?_eq_getElem hi]
      rfl
    · simp (disch := omega) only [cond_dec']
      rw [List.getElem?_eq_none (by omega)]; rfl
theorem begins_L5 (c n : List UInt8) (hs : c.length ≤ 1000000) (κ : ByteArray → Bool → Option R) : ∀ (f i : Nat), i ≤ c.length → c.length < i + f →
    letter_begins_0.L5 letter_isBlank_0 κ f (B c) (i : Int) (B n) = κ (B n) (decide (n ≠ []) && (c[i + ((c.drop i).takeWhile isBl).length]? == some 58))
  | 0, i, h1, h2 => by omega
  | f + 1, i, h1, h2 => by
    rw [letter_begins_0.L5, letter_begins_0.t5]
    simp only [begins_end]
    simp only [size_B]
    cases hd : c.drop i with
    | nil =>
      have := drop_nil hd
      simp (disch := omega) only [cond_dec']
      rfl
    | cons b r =>
      obtain ⟨g1, g2, g3⟩ := drop_get hd
      simp (disch := omega) only [cond_dec, chk_and, chk_dec, btB g1, isBlank_eq, wrap_i64]
      rw [List.takeWhile_cons]
      cases hb : isBl b with
      | false => rfl
      | true =>
        simp only [cond_true, nat_i, if_true, List.length_cons]
        rw [begins_L5 c n hs κ f (i + 1) (by omega) (by omega), g3]
        congr 4; omega
theorem isNm_eq (c : UInt8) : isNm c = (decide ((c.toNat : Int) > 32) && (decide ((c.toNat : Int) < 127) && ((c.toNat : Int) != 58))) := by
  rw [byteN c 58 58 rfl]; unfold isNm
  congr 1
  · rw [decide_eq_decide]; omega
  · congr 1
    rw [decide_eq_decide]; omega
theorem begins_L2 (c : List UInt8) (hs : c.length ≤ 1000000) (κ : ByteArray → Bool → Option R) : ∀ (f i : Nat), i ≤ c.length → 2 * c.length + 2 < i + f → c.take i = (c.take i).takeWhile isNm →
    letter_begins_0.L2 letter_isBlank_0 κ f (B c) (i : Int) = κ (B (nmL c)) (isF c)
  | 0, i, h1, h2, h3 => by omega
  | f + 1, i, h1, h2, h3 => by
    have fin : nmL c = c.take i → letter_begins_0.L5 letter_isBlank_0 κ f (B c) (i : Int) ((B c).extract ((0 : Int)).toNat ((i : Int)).toNat) = κ (B (nmL c)) (isF c) := by
      intro hn
      rw [extract_B]
      simp only [Int.toNat_zero, List.drop_zero, Int.toNat_natCast]
      rw [begins_L5 c _ hs κ f i h1 (by omega), hn]
      unfold isF atL
      have hl : (c.take i).length = i := by simp; omega
      rw [hn, hl]
    rw [letter_begins_0.L2, letter_begins_0.t2]
    have hsplit : nmL c = c.take i ++ (c.drop i).takeWhile isNm := by
      unfold nmL
      conv => lhs; rw [← List.take_append_drop i c]
      rw [List.takeWhile_append_of_pos]
      rw [h3]; intro a ha; exact List.all_eq_true.1 List.all_takeWhile a ha
    cases hd : c.drop i with
    | nil =>
      have := drop_nil hd
      simp only [size_B]
      simp (disch := omega) only [cond_dec', chk_and, chk_dec]
      exact fin (by rw [hsplit, hd]; simp)
    | cons b r =>
      obtain ⟨g1, g2, g3⟩ := drop_get hd
      simp only [size_B]
      simp (disch := omega) only [cond_dec, chk_and, chk_dec, btB g1, wrap_i64]
      have hb : isNm b = false → nmL c = c.take i := by
        intro hb; rw [hsplit, hd, List.takeWhile_cons, hb]; simp
      rw [isNm_eq] at hb
      cases e1 : decide ((b.toNat : Int) > 32) with
      | false => exact fin (hb (by rw [e1]; rfl))
      | true =>
        cases e2 : decide ((b.toNat : Int) < 127) with
        | false => exact fin (hb (by rw [e1, e2]; rfl))
        | true =>
          cases e3 : ((b.toNat : Int) != 58) with
          | false => exact fin (hb (by rw [e1, e2, e3]; rfl))
          | true =>
            have hb' : isNm b = true := by rw [isNm_eq, e1, e2, e3]; rfl
            exact begins_L2 c hs κ f (i + 1) (by omega) (by omega) (by
              rw [take_succ_get g1, List.takeWhile_append_of_pos (by rw [h3]; intro a ha; exact List.all_eq_true.1 List.all_takeWhile a ha)]
              simp [hb'])
theorem begins_entry (c : List UInt8) (hs : c.length ≤ 1000000) (κ : ByteArray → Bool → Option R) (f : Nat) (hf : 2 * c.length + 2 < f) :
    letter_begins_0.e letter_isBlank_0 (B c) (letter_begins_0.L2 letter_isBlank_0 κ f) (letter_begins_0.L5 letter_isBlank_0 κ f) κ = κ (B (nmL c)) (isF c) :=
  begins_L2 c hs κ f 0 (by omega) (by omega) (by simp)
theorem begins_eq (c : List UInt8) (hs : c.length ≤ 1000000) (κ : ByteArray → Bool → Option R) : letter_begins_0 (B c) κ = κ (B (nmL c)) (isF c) :=
  begins_entry c hs κ fuelK (by unfold fuelK; omega)
end Go.Proofs.Ab

/- Small letters. -/
namespace Go.Proofs.Ab
set_option linter.unusedVariables false
set_option maxRecDepth 4000
open Go
variable {R : Type}
def lowC (c : UInt8) : UInt8 := if 65 ≤ c.toNat ∧ c.toNat ≤ 90 then UInt8.ofNat (c.toNat + 32) else c
def lowL (l : List UInt8) : List UInt8 := l.map lowC
theorem lowC_up {c : UInt8} (h1 : 65 ≤ c.toNat) (h2 : c.toNat ≤ 90) : ((lowC c).toNat : Int) = (c.toNat : Int) + 32 := by
  unfold lowC
  rw [if_pos ⟨h1, h2⟩]
  simp; omega
theorem lowC_no {c : UInt8} (h : ¬ (65 ≤ c.toNat ∧ c.toNat ≤ 90)) : lowC c = c := by unfold lowC; rw [if_neg h]
theorem lowL_len (l : List UInt8) : (lowL l).length = l.length := by unfold lowL; simp
theorem ints_get {l : List UInt8} {i : Nat} {c : UInt8} (h : l[i]? = some c) : (rdA (intsAV l) (i : Int)).i = (c.toNat : Int) := by
  rw [rdA_get (a := .int (c.toNat : Int)) (by unfold intsAV; rw [List.getElem?_map, h]; rfl)]; rfl
theorem ints_set (a : List UInt8) (c d : UInt8) (r : List UInt8) (n : Nat) (h : a.length = n) : setA (intsAV (a ++ c :: r)) (n : Int) (.int (d.toNat : Int)) = intsAV (a ++ d :: r) := by
  unfold intsAV
  rw [List.map_append, List.map_cons, setA_at _ _ _ _ n (by rw [List.length_map]; exact h)]
  simp
theorem oLower_loop (l : List UInt8) (hs : l.length ≤ 1000000) (κ : ByteArray → Option R) : ∀ (f i : Nat), i ≤ l.length → l.length < i + f →
    octet_Lower_0.L3 κ f (l.length : Int) (i : Int) (intsAV (lowL (l.take i) ++ l.drop i)) = κ (B (lowL l))
  | 0, i, h1, h2 => by omega
  | f + 1, i, h1, h2 => by
    rw [octet_Lower_0.L3, octet_Lower_0.t3]
    have hla : (lowL (l.take i)).length = i := by rw [lowL_len, List.length_take]; omega
    have hll : (intsAV (lowL (l.take i) ++ l.drop i)).length = l.length := by rw [ints_len, List.length_append, hla, List.length_drop]; omega
    simp only [hll, strAV_ints]
    cases hd : l.drop i with
    | nil =>
      have := drop_nil hd
      rw [cond_dec' (by omega), List.append_nil, List.take_of_length_le (by omega)]
    | cons c r =>
      obtain ⟨g1, g2, g3⟩ := drop_get hd
      have hw1 : IntKind.wrap .i64 ((i : Int) + 1) = ((i + 1 : Nat) : Int) := wrap_i64 (by omega) (by omega)
      have hg : (rdA (intsAV (lowL (l.take i) ++ c :: r)) (i : Int)).i = (c.toNat : Int) := ints_get (by rw [List.getElem?_append_right (by omega), hla]; simp)
      simp only [hg, hw1]
      simp (disch := omega) only [cond_dec, chk_and, chk_dec]
      have hn := oLower_loop l hs κ f (i + 1) (by omega) (by omega)
      rw [g3] at hn
      have ht : lowL (l.take (i + 1)) ++ r = lowL (l.take i) ++ lowC c :: r := by rw [take_succ_get g1]; unfold lowL; simp
      rw [ht] at hn
      by_cases h1' : 65 ≤ c.toNat
      · by_cases h2' : c.toNat ≤ 90
        · have hu := lowC_up h1' h2'
          have hlt := byte_lt c
          have hw : IntKind.wrap .u8 ((IntKind.wrap .u8 ((c.toNat : Int) + 97)) - 65) = ((lowC c).toNat : Int) := by
            rw [wrap_u8 (x := (c.toNat : Int) + 97) (by omega) (by omega), wrap_u8 (by omega) (by omega), hu]; omega
          rw [cond_dec (by omega), cond_dec (by omega), hw, ints_set _ _ _ _ _ hla]
          exact hn
        · rw [lowC_no (by omega)] at hn
          rw [cond_dec (by omega), cond_dec' (by omega)]
          exact hn
      · rw [lowC_no (by omega)] at hn
        rw [cond_dec' (by omega)]
        exact hn
theorem oLower_eq (l : List UInt8) (hs : l.length ≤ 1000000) (κ : ByteArray → Option R) : octet_Lower_0 (B l) κ = κ (B (lowL l)) := by
  have key : ∀ f, l.length < f → octet_Lower_0.e (B l) (octet_Lower_0.L3 κ f) κ = κ (B (lowL l)) := by
    intro f hf
    unfold octet_Lower_0.e
    rw [size_B, chk_dec (by omega), bytesB', ints_len]
    exact oLower_loop l hs κ f 0 (by omega) (by omega)
  exact key fuelK (by unfold fuelK; omega)
theorem rLower_loop (l : List UInt8) (hs : l.length ≤ 1000000) (κ : ByteArray → Option R) : ∀ (f i : Nat), i ≤ l.length → l.length < i + f →
    postbagref1_Lower_0.L3 κ f (B l) (i : Int) (intsAV (lowL (l.take i))) = κ (B (lowL l))
  | 0, i, h1, h2 => by omega
  | f + 1, i, h1, h2 => by
    rw [postbagref1_Lower_0.L3, postbagref1_Lower_0.t3]
    have hla : (intsAV (lowL (l.take i))).length = i := by rw [ints_len, lowL_len, List.length_take]; omega
    simp only [hla, size_B, strAV_ints]
    cases hd : l.drop i with
    | nil =>
      have := drop_nil hd
      rw [cond_dec' (by omega), List.take_of_length_le (by omega)]
    | cons c r =>
      obtain ⟨g1, g2, g3⟩ := drop_get hd
      have hw1 : IntKind.wrap .i64 ((i : Int) + 1) = ((i + 1 : Nat) : Int) := wrap_i64 (by omega) (by omega)
      simp only [hw1, btB g1]
      simp (disch := omega) only [cond_dec, chk_and, chk_dec]
      have hn := rLower_loop l hs κ f (i + 1) (by omega) (by omega)
      have ht : lowL (l.take (i + 1)) = lowL (l.take i) ++ [lowC c] := by rw [take_succ_get g1]; unfold lowL; simp
      rw [ht, ← ints_snoc] at hn
      by_cases h1' : 65 ≤ c.toNat
      · by_cases h2' : c.toNat ≤ 90
        · have hu := lowC_up h1' h2'
          have hlt := byte_lt c
          have hw : IntKind.wrap .u8 ((c.toNat : Int) + 32) = ((lowC c).toNat : Int) := by rw [wrap_u8 (by omega) (by omega), hu]
          rw [cond_dec (by omega), cond_dec (by omega), hw]
          exact hn
        · rw [lowC_no (by omega)] at hn
          rw [cond_dec (by omega), cond_dec' (by omega)]
          exact hn
      · rw [lowC_no (by omega)] at hn
        rw [cond_dec' (by omega)]
        exact hn
theorem rLower_eq (l : List UInt8) (hs : l.length ≤ 1000000) (κ : ByteArray → Option R) : postbagref1_Lower_0 (B l) κ = κ (B (lowL l)) := by
  have key : ∀ f, l.length < f → postbagref1_Lower_0.e (B l) (postbagref1_Lower_0.L3 κ f) κ = κ (B (lowL l)) :=
    fun f hf => rLower_loop l hs κ f 0 (by omega) (by omega)
  exact key fuelK (by unfold fuelK; omega)
end Go.Proofs.Ab

/- The Q of encoded words; iso-8859-1. -/
namespace Go.Proofs.Ab
set_option linter.unusedVariables false
set_option maxRecDepth 4000
open Go
variable {R : Type}
/-- What a digit is worth; -1: it is none. -/
def hexV (c : UInt8) : Int := if 48 ≤ c.toNat ∧ c.toNat ≤ 57 then (c.toNat : Int) - 48 else if 65 ≤ c.toNat ∧ c.toNat ≤ 70 then (c.toNat : Int) - 55 else if 97 ≤ c.toNat ∧ c.toNat ≤ 102 then (c.toNat : Int) - 87 else -1
def encL (c : UInt8) : List UInt8 := bl (Utf8.encode (c.toNat : Int))
theorem enc_all (c : UInt8) : 0 < (encL c).length ∧ (encL c).length ≤ 4 ∧ Lib.indexByte [48, 49, 50, 51, 52, 53, 54, 55, 56, 57, 97, 98, 99, 100, 101, 102] ((lowL (encL c)).headD 0) = hexV c := by
  have := all_bytes (p := fun c => decide (0 < (encL c).length) && (decide ((encL c).length ≤ 4) && decide (Lib.indexByte [48, 49, 50, 51, 52, 53, 54, 55, 56, 57, 97, 98, 99, 100, 101, 102] ((lowL (encL c)).headD 0) = hexV c))) (by kernel_rfl) c
  simpa using this
theorem lHex_eq (c : UInt8) (κ : Int → Option R) : letter_hex_0 (c.toNat : Int) κ = κ (hexV c) := by
  obtain ⟨h1, h2, h3⟩ := enc_all c
  unfold letter_hex_0 letter_hex_0.e
  rw [← B_bl (Utf8.encode (c.toNat : Int)), show bl (Utf8.encode (c.toNat : Int)) = encL c from rfl, oLower_eq _ (by omega)]
  have hl := lowL_len (encL c)
  rw [size_B, chk_dec (by omega)]
  cases he : lowL (encL c) with
  | nil => rw [he] at hl; simp at hl; omega
  | cons d r =>
    rw [he] at h3
    have hb : btA (B (d :: r)) 0 = d.toNat := btB (i := 0) rfl
    rw [hb, show (⟨#[48, 49, 50, 51, 52, 53, 54, 55, 56, 57, 97, 98, 99, 100, 101, 102]⟩ : ByteArray) = B [48, 49, 50, 51, 52, 53, 54, 55, 56, 57, 97, 98, 99, 100, 101, 102] from rfl, sIB_eq]
    rw [List.headD_cons] at h3
    rw [h3]
theorem rHex_eq (c : UInt8) (κ : Int → Option R) : postbagref5_hex_0 (c.toNat : Int) κ = κ (hexV c) := by
  have hlt := byte_lt c
  unfold postbagref5_hex_0 postbagref5_hex_0.e hexV
  by_cases h1 : 48 ≤ c.toNat
  · by_cases h2 : c.toNat ≤ 57
    · rw [cond_dec (by omega), cond_dec (by omega), if_pos ⟨h1, h2⟩, wrap_u8 (by omega) (by omega), wrap_i64 (by omega) (by omega)]
    · rw [cond_dec (by omega), cond_dec' (by omega), if_neg (by omega)]
      by_cases h3 : 65 ≤ c.toNat
      · by_cases h4 : c.toNat ≤ 70
        · rw [cond_dec (by omega), cond_dec (by omega), if_pos ⟨h3, h4⟩, wrap_u8 (by omega) (by omega), wrap_i64 (x := (c.toNat : Int) - 65) (by omega) (by omega), wrap_i64 (by omega) (by omega)]
          congr 1; omega
        · rw [cond_dec (by omega), cond_dec' (by omega), if_neg (by omega)]
          by_cases h5 : 97 ≤ c.toNat
          · by_cases h6 : c.toNat ≤ 102
            · rw [cond_dec (by omega), cond_dec (by omega), if_pos ⟨h5, h6⟩, wrap_u8 (by omega) (by omega), wrap_i64 (x := (c.toNat : Int) - 97) (by omega) (by omega), wrap_i64 (by omega) (by omega)]
              congr 1; omega
            · rw [cond_dec (by omega), cond_dec' (by omega), if_neg (by omega)]
          · rw [cond_dec' (by omega), if_neg (by omega)]
      · rw [cond_dec' (by omega), cond_dec' (by omega), if_neg (by omega), if_neg (by omega)]
  · rw [cond_dec' (by omega), cond_dec' (by omega), cond_dec' (by omega), if_neg (by omega), if_neg (by omega), if_neg (by omega)]
theorem hexV_le (c : UInt8) : -1 ≤ hexV c ∧ hexV c ≤ 15 := by
  have hlt := byte_lt c
  unfold hexV
  split
  · omega
  · split
    · omega
    · split <;> omega
/-- The text of an encoded word with Q. -/
def unq : List UInt8 → List UInt8
  | [] => []
  | 61 :: a :: b :: r => if 0 ≤ hexV a ∧ 0 ≤ hexV b then UInt8.ofNat (16 * (hexV a).toNat + (hexV b).toNat) :: unq r else 61 :: unq (a :: b :: r)
  | c :: r => (if c = 95 then 32 else c) :: unq r
theorem unq_nil : unq [] = [] := by rw [unq]
theorem unq_hex (a b : UInt8) (r : List UInt8) (h : 0 ≤ hexV a ∧ 0 ≤ hexV b) : unq (61 :: a :: b :: r) = UInt8.ofNat (16 * (hexV a).toNat + (hexV b).toNat) :: unq r := by rw [unq, if_pos h]
theorem unq_else (c : UInt8) (r : List UInt8) (h2 : ∀ a b r', c = 61 → r = a :: b :: r' → ¬ (0 ≤ hexV a ∧ 0 ≤ hexV b)) : unq (c :: r) = (if c = 95 then 32 else c) :: unq r := by
  by_cases h : ∃ a b r', c = 61 ∧ r = a :: b :: r'
  · obtain ⟨a, b, r', rfl, rfl⟩ := h
    rw [unq, if_neg (h2 a b r' rfl rfl), if_neg (by decide)]
  · rw [unq]
    intro a b r' hc hr
    exact h ⟨a, b, r', hc, hr⟩
theorem unq_us (r : List UInt8) : unq (95 :: r) = 32 :: unq r := by rw [unq_else _ _ (by intro a b r' h; cases h), if_pos rfl]
theorem unq_len : ∀ l : List UInt8, (unq l).length ≤ l.length := by
  intro l
  fun_induction unq l with
  | case1 => simp
  | case2 a b r h ih => simp; omega
  | case3 a b r h ih => simp at ih ⊢; omega
  | case4 c r h ih => simp; omega
theorem hex_byte (a b : UInt8) (h : 0 ≤ hexV a ∧ 0 ≤ hexV b) : IntKind.wrap .u8 (IntKind.wrap .i64 ((IntKind.wrap .i64 (16 * hexV a)) + hexV b)) = ((UInt8.ofNat (16 * (hexV a).toNat + (hexV b).toNat)).toNat : Int) := by
  have h1 := hexV_le a
  have h2 := hexV_le b
  rw [wrap_i64 (x := 16 * hexV a) (by omega) (by omega), wrap_i64 (by omega) (by omega), wrap_u8 (by omega) (by omega)]
  simp; omega
theorem lUnq_loop (s : List UInt8) (hs : s.length ≤ 1000000) (κ : ByteArray → Option R) : ∀ (f i : Nat) (acc : List UInt8), i ≤ s.length → s.length < i + f → acc.length ≤ i →
    letter_unquoted_0.L3 strings_Builder_WriteByte_vxfei letter_hex_0 strings_Builder_String_vxfe κ f (B s) (i : Int) (intsAV acc) = κ (B (acc ++ unq (s.drop i)))
  | 0, i, acc, h1, h2, h3 => by omega
  | f + 1, i, acc, h1, h2, h3 => by
    rw [letter_unquoted_0.L3, letter_unquoted_0.t3]
    simp only [size_B, bString_eq]
    have hal := ints_len acc
    have hw1 : IntKind.wrap .i64 ((i : Int) + 1) = ((i + 1 : Nat) : Int) := wrap_i64 (by omega) (by omega)
    have hw2 : IntKind.wrap .i64 ((i : Int) + 2) = ((i + 2 : Nat) : Int) := wrap_i64 (by omega) (by omega)
    have hw3 : IntKind.wrap .i64 (((i + 2 : Nat) : Int) + 1) = ((i + 3 : Nat) : Int) := wrap_i64 (by omega) (by omega)
    simp only [hw1, hw2, hw3]
    cases hd : s.drop i with
    | nil =>
      have := drop_nil hd
      rw [cond_dec' (by omega), unq_nil, List.append_nil]
    | cons c r =>
      obtain ⟨g1, g2, g3⟩ := drop_get hd
      have hr : r.length = s.length - (i + 1) := by rw [← g3, List.length_drop]
      simp (disch := omega) only [cond_dec, chk_and, chk_dec, btB g1, wByte_eq]
      rw [byteB c 95 95 rfl, byteB c 61 61 rfl, show AV.int 32 = AV.int ((32 : UInt8).toNat : Int) from rfl]
      have plain : (∀ a b r', c = 61 → r = a :: b :: r' → ¬ (0 ≤ hexV a ∧ 0 ≤ hexV b)) → c ≠ 95 → letter_unquoted_0.L3 strings_Builder_WriteByte_vxfei letter_hex_0 strings_Builder_String_vxfe κ f (B s) ((i + 1 : Nat) : Int) (intsAV acc ++ [AV.int (c.toNat : Int)]) = κ (B (acc ++ unq (c :: r))) := by
        intro hn h95
        rw [ints_snoc, lUnq_loop s hs κ f (i + 1) (acc ++ [c]) (by omega) (by omega) (by simp; omega), g3, unq_else c r hn, if_neg h95]
        simp
      by_cases e1 : c = 95
      · subst e1
        simp only [BEq.rfl, cond_true]
        rw [ints_snoc, lUnq_loop s hs κ f (i + 1) (acc ++ [32]) (by omega) (by omega) (by simp; omega), g3, unq_us]
        simp
      · rw [show (c == 95) = false by simpa using e1]
        simp only [cond_false]
        by_cases e2 : c = 61
        · subst e2
          simp only [BEq.rfl, cond_true]
          by_cases hl : i + 2 < s.length
          · obtain ⟨a, t, ha⟩ := drop_lt (l := s) (i := i + 1) (by omega)
            obtain ⟨k1, k2, k3⟩ := drop_get ha
            obtain ⟨b, t2, hb⟩ := drop_lt (l := s) (i := i + 1 + 1) (by omega)
            obtain ⟨m1, m2, m3⟩ := drop_get hb
            have hr2 : r = a :: b :: t2 := by rw [← g3, ha, ← k3, hb]
            have m1' : s[i + 2]? = some b := m1
            rw [cond_dec (by omega)]
            simp (disch := omega) only [chk_dec, btB k1, btB m1', lHex_eq]
            by_cases ea : 0 ≤ hexV a
            · by_cases eb : 0 ≤ hexV b
              · rw [cond_dec (by omega), cond_dec (by omega), hex_byte a b ⟨ea, eb⟩, ints_snoc, lUnq_loop s hs κ f (i + 3) _ (by omega) (by omega) (by simp; omega), hr2, unq_hex a b t2 ⟨ea, eb⟩]
                rw [show s.drop (i + 3) = t2 from m3]
                simp
              · rw [cond_dec (by omega), cond_dec' (by omega)]
                exact plain (by intro a' b' r' _ h; rw [hr2] at h; cases h; exact fun h => eb h.2) (by decide)
            · rw [cond_dec' (by omega)]
              exact plain (by intro a' b' r' _ h; rw [hr2] at h; cases h; exact fun h => ea h.1) (by decide)
          · rw [cond_dec' (by omega)]
            exact plain (by intro a' b' r' _ h; rw [h] at hr; simp at hr; omega) (by decide)
        · rw [show (c == 61) = false by simpa using e2]
          simp only [cond_false]
          exact plain (fun a b r' h => absurd h e2) e1
end Go.Proofs.Ab

/- The Q of encoded words, by the document; iso-8859-1. -/
namespace Go.Proofs.Ab
set_option linter.unusedVariables false
set_option maxRecDepth 4000
open Go
variable {R : Type}
theorem rUnq_loop (s : List UInt8) (hs : s.length ≤ 1000000) (κ : ByteArray → Option R) : ∀ (f i : Nat) (acc : List UInt8), i ≤ s.length → s.length < i + f → acc.length ≤ i →
    postbagref5_quoted_0.L3 postbagref5_hex_0 κ f (B s) (i : Int) (intsAV acc) = κ (B (acc ++ unq (s.drop i)))
  | 0, i, acc, h1, h2, h3 => by omega
  | f + 1, i, acc, h1, h2, h3 => by
    rw [postbagref5_quoted_0.L3, postbagref5_quoted_0.t3]
    simp only [size_B, strAV_ints]
    have hal := ints_len acc
    have hw1 : IntKind.wrap .i64 ((i : Int) + 1) = ((i + 1 : Nat) : Int) := wrap_i64 (by omega) (by omega)
    have hw2 : IntKind.wrap .i64 ((i : Int) + 2) = ((i + 2 : Nat) : Int) := wrap_i64 (by omega) (by omega)
    have hw3 : IntKind.wrap .i64 (((i + 2 : Nat) : Int) + 1) = ((i + 3 : Nat) : Int) := wrap_i64 (by omega) (by omega)
    simp only [hw1, hw2, hw3]
    cases hd : s.drop i with
    | nil =>
      have := drop_nil hd
      rw [cond_dec' (by omega), unq_nil, List.append_nil]
    | cons c r =>
      obtain ⟨g1, g2, g3⟩ := drop_get hd
      have hr : r.length = s.length - (i + 1) := by rw [← g3, List.length_drop]
      simp (disch := omega) only [cond_dec, chk_and, chk_dec, btB g1]
      rw [byteB c 95 95 rfl, byteB c 61 61 rfl, show AV.int 32 = AV.int ((32 : UInt8).toNat : Int) from rfl]
      have plain : (∀ a b r', c = 61 → r = a :: b :: r' → ¬ (0 ≤ hexV a ∧ 0 ≤ hexV b)) → c ≠ 95 → postbagref5_quoted_0.L3 postbagref5_hex_0 κ f (B s) ((i + 1 : Nat) : Int) (intsAV acc ++ [AV.int (c.toNat : Int)]) = κ (B (acc ++ unq (c :: r))) := by
        intro hn h95
        rw [ints_snoc, rUnq_loop s hs κ f (i + 1) (acc ++ [c]) (by omega) (by omega) (by simp; omega), g3, unq_else c r hn, if_neg h95]
        simp
      by_cases e1 : c = 95
      · subst e1
        simp only [BEq.rfl, cond_true]
        rw [ints_snoc, rUnq_loop s hs κ f (i + 1) (acc ++ [32]) (by omega) (by omega) (by simp; omega), g3, unq_us]
        simp
      · rw [show (c == 95) = false by simpa using e1]
        simp only [cond_false]
        by_cases e2 : c = 61
        · subst e2
          simp only [BEq.rfl, cond_true]
          by_cases hl : i + 2 < s.length
          · obtain ⟨a, t, ha⟩ := drop_lt (l := s) (i := i + 1) (by omega)
            obtain ⟨k1, k2, k3⟩ := drop_get ha
            obtain ⟨b, t2, hb⟩ := drop_lt (l := s) (i := i + 1 + 1) (by omega)
            obtain ⟨m1, m2, m3⟩ := drop_get hb
            have hr2 : r = a :: b :: t2 := by rw [← g3, ha, ← k3, hb]
            have m1' : s[i + 2]? = some b := m1
            rw [cond_dec (by omega)]
            simp (disch := omega) only [chk_dec, btB k1, btB m1', rHex_eq]
            by_cases ea : 0 ≤ hexV a
            · by_cases eb : 0 ≤ hexV b
              · rw [cond_dec (by omega), cond_dec (by omega), hex_byte a b ⟨ea, eb⟩, ints_snoc, rUnq_loop s hs κ f (i + 3) _ (by omega) (by omega) (by simp; omega), hr2, unq_hex a b t2 ⟨ea, eb⟩]
                rw [show s.drop (i + 3) = t2 from m3]
                simp
              · rw [cond_dec (by omega), cond_dec' (by omega)]
                exact plain (by intro a' b' r' _ h; rw [hr2] at h; cases h; exact fun h => eb h.2) (by decide)
            · rw [cond_dec' (by omega)]
              exact plain (by intro a' b' r' _ h; rw [hr2] at h; cases h; exact fun h => ea h.1) (by decide)
          · rw [cond_dec' (by omega)]
            exact plain (by intro a' b' r' _ h; rw [h] at hr; simp at hr; omega) (by decide)
        · rw [show (c == 61) = false by simpa using e2]
          simp only [cond_false]
          exact plain (fun a b r' h => absurd h e2) e1
theorem lUnq_eq (s : List UInt8) (hs : s.length ≤ 1000000) (κ : ByteArray → Option R) : letter_unquoted_0 (B s) κ = κ (B (unq s)) := by
  have key : ∀ f, s.length < f → letter_unquoted_0.e strings_Builder_WriteByte_vxfei letter_hex_0 strings_Builder_String_vxfe (B s) (letter_unquoted_0.L3 strings_Builder_WriteByte_vxfei letter_hex_0 strings_Builder_String_vxfe κ f) κ = κ (B (unq s)) :=
    fun f hf => lUnq_loop s hs κ f 0 [] (by omega) (by omega) (by simp)
  exact key fuelK (by unfold fuelK; omega)
theorem rUnq_eq (s : List UInt8) (hs : s.length ≤ 1000000) (κ : ByteArray → Option R) : postbagref5_quoted_0 (B s) κ = κ (B (unq s)) := by
  have key : ∀ f, s.length < f → postbagref5_quoted_0.e postbagref5_hex_0 (B s) (postbagref5_quoted_0.L3 postbagref5_hex_0 κ f) κ = κ (B (unq s)) :=
    fun f hf => rUnq_loop s hs κ f 0 [] (by omega) (by omega) (by simp)
  exact key fuelK (by unfold fuelK; omega)
/-! ## iso-8859-1 -/
def hi6 (c : UInt8) : UInt8 := UInt8.ofNat (192 + c.toNat / 64)
def lo6 (c : UInt8) : UInt8 := UInt8.ofNat (128 + c.toNat % 64)
/-- The characters with these numbers, as UTF-8. -/
def wideL : List UInt8 → List UInt8
  | [] => []
  | c :: r => if c.toNat < 128 then c :: wideL r else hi6 c :: lo6 c :: wideL r
theorem wideL_len : ∀ l : List UInt8, (wideL l).length ≤ 2 * l.length
  | [] => by simp [wideL]
  | c :: r => by rw [wideL]; have := wideL_len r; split <;> simp <;> omega
theorem hi6_l (c : UInt8) (h : 128 ≤ c.toNat) : bitI .or .u8 192 (Int.fdiv (c.toNat : Int) (2 ^ 6)) = ((hi6 c).toNat : Int) := by
  have := all_bytes (p := fun c => decide (c.toNat < 128) || decide (bitI .or .u8 192 (Int.fdiv (c.toNat : Int) (2 ^ 6)) = ((hi6 c).toNat : Int))) (by kernel_rfl) c
  rw [Bool.or_eq_true, decide_eq_true_eq, decide_eq_true_eq] at this
  omega
theorem lo6_l (c : UInt8) (h : 128 ≤ c.toNat) : bitI .or .u8 128 (bitI .and .u8 (c.toNat : Int) 63) = ((lo6 c).toNat : Int) := by
  have := all_bytes (p := fun c => decide (c.toNat < 128) || decide (bitI .or .u8 128 (bitI .and .u8 (c.toNat : Int) 63) = ((lo6 c).toNat : Int))) (by kernel_rfl) c
  rw [Bool.or_eq_true, decide_eq_true_eq, decide_eq_true_eq] at this
  omega
theorem hi6_r (c : UInt8) : IntKind.wrap .u8 (192 + (IntKind.wrap .u8 (Int.tdiv (c.toNat : Int) 64))) = ((hi6 c).toNat : Int) := by
  have := all_bytes (p := fun c => decide (IntKind.wrap .u8 (192 + (IntKind.wrap .u8 (Int.tdiv (c.toNat : Int) 64))) = ((hi6 c).toNat : Int))) (by kernel_rfl) c
  simpa using this
theorem lo6_r (c : UInt8) : IntKind.wrap .u8 (128 + (Int.tmod (c.toNat : Int) 64)) = ((lo6 c).toNat : Int) := by
  have := all_bytes (p := fun c => decide (IntKind.wrap .u8 (128 + (Int.tmod (c.toNat : Int) 64)) = ((lo6 c).toNat : Int))) (by kernel_rfl) c
  simpa using this
theorem lWide_loop (s : List UInt8) (hs : s.length ≤ 1000000) (κ : ByteArray → Option R) : ∀ (f i : Nat) (acc : List UInt8), i ≤ s.length → s.length < i + f → acc.length ≤ 2 * i →
    letter_wide_0.L3 strings_Builder_WriteByte_vxfei strings_Builder_String_vxfe κ f (B s) (s.length : Int) (i : Int) (intsAV acc) = κ (B (acc ++ wideL (s.drop i)))
  | 0, i, acc, h1, h2, h3 => by omega
  | f + 1, i, acc, h1, h2, h3 => by
    rw [letter_wide_0.L3, letter_wide_0.t3]
    simp only [size_B, bString_eq]
    have hal := ints_len acc
    have hw1 : IntKind.wrap .i64 ((i : Int) + 1) = ((i + 1 : Nat) : Int) := wrap_i64 (by omega) (by omega)
    simp only [hw1]
    cases hd : s.drop i with
    | nil =>
      have := drop_nil hd
      rw [cond_dec' (by omega), wideL, List.append_nil]
    | cons c r =>
      obtain ⟨g1, g2, g3⟩ := drop_get hd
      simp (disch := omega) only [cond_dec, chk_and, chk_dec, btB g1]
      rw [wideL]
      by_cases h : c.toNat < 128
      · rw [cond_dec (by omega), if_pos h, wByte_eq _ _ _ (by omega), ints_snoc, lWide_loop s hs κ f (i + 1) (acc ++ [c]) (by omega) (by omega) (by simp; omega), g3]
        simp
      · have hl2 := ints_len (acc ++ [hi6 c])
        rw [List.length_append, List.length_singleton] at hl2
        rw [cond_dec' (by omega), if_neg h, hi6_l c (by omega), lo6_l c (by omega), wByte_eq _ _ _ (by omega), ints_snoc, wByte_eq _ _ _ (by omega), ints_snoc, lWide_loop s hs κ f (i + 1) (acc ++ [hi6 c] ++ [lo6 c]) (by omega) (by omega) (by simp; omega), g3]
        simp
theorem rWide_loop (s : List UInt8) (hs : s.length ≤ 1000000) (κ : ByteArray → Option R) : ∀ (f i : Nat) (acc : List UInt8), i ≤ s.length → s.length < i + f → acc.length ≤ 2 * i →
    postbagref5_latin_0.L3 κ f (B s) (i : Int) (intsAV acc) = κ (B (acc ++ wideL (s.drop i)))
  | 0, i, acc, h1, h2, h3 => by omega
  | f + 1, i, acc, h1, h2, h3 => by
    rw [postbagref5_latin_0.L3, postbagref5_latin_0.t3]
    simp only [size_B, strAV_ints]
    have hal := ints_len acc
    have hw1 : IntKind.wrap .i64 ((i : Int) + 1) = ((i + 1 : Nat) : Int) := wrap_i64 (by omega) (by omega)
    simp only [hw1]
    cases hd : s.drop i with
    | nil =>
      have := drop_nil hd
      rw [cond_dec' (by omega), wideL, List.append_nil]
    | cons c r =>
      obtain ⟨g1, g2, g3⟩ := drop_get hd
      simp (disch := omega) only [cond_dec, chk_and, chk_dec, btB g1]
      rw [wideL]
      by_cases h : c.toNat < 128
      · rw [cond_dec (by omega), if_pos h, ints_snoc, rWide_loop s hs κ f (i + 1) (acc ++ [c]) (by omega) (by omega) (by simp; omega), g3]
        simp
      · have e : intsAV acc ++ [AV.int ((hi6 c).toNat : Int), AV.int ((lo6 c).toNat : Int)] = intsAV (acc ++ [hi6 c, lo6 c]) := ints_append acc [hi6 c, lo6 c]
        rw [cond_dec' (by omega), if_neg h, hi6_r, lo6_r, e, rWide_loop s hs κ f (i + 1) (acc ++ [hi6 c, lo6 c]) (by omega) (by omega) (by simp; omega), g3]
        simp
theorem lWide_eq (s : List UInt8) (hs : s.length ≤ 1000000) (κ : ByteArray → Option R) : letter_wide_0 (B s) κ = κ (B (wideL s)) := by
  have key : ∀ f, s.length < f → letter_wide_0.e strings_Builder_WriteByte_vxfei strings_Builder_String_vxfe (B s) (letter_wide_0.L3 strings_Builder_WriteByte_vxfei strings_Builder_String_vxfe κ f) κ = κ (B (wideL s)) := by
    intro f hf
    unfold letter_wide_0.e
    rw [size_B]
    exact lWide_loop s hs κ f 0 [] (by omega) (by omega) (by simp)
  exact key fuelK (by unfold fuelK; omega)
theorem rWide_eq (s : List UInt8) (hs : s.length ≤ 1000000) (κ : ByteArray → Option R) : postbagref5_latin_0 (B s) κ = κ (B (wideL s)) := by
  have key : ∀ f, s.length < f → postbagref5_latin_0.e (B s) (postbagref5_latin_0.L3 κ f) κ = κ (B (wideL s)) :=
    fun f hf => rWide_loop s hs κ f 0 [] (by omega) (by omega) (by simp)
  exact key fuelK (by unfold fuelK; omega)
end Go.Proofs.Ab

/- base64, read loosely, by the program. -/
namespace Go.Proofs.Ab
set_option linter.unusedVariables false
set_option maxRecDepth 4000
open Go
variable {R : Type}
/-- What a letter is worth. -/
def w64 (c : UInt8) : Option Nat :=
  if 65 ≤ c.toNat ∧ c.toNat ≤ 90 then some (c.toNat - 65) else if 97 ≤ c.toNat ∧ c.toNat ≤ 122 then some (c.toNat - 71) else if 48 ≤ c.toNat ∧ c.toNat ≤ 57 then some (c.toNat + 4) else if c = 43 then some 62 else if c = 47 then some 63 else none
def tabL : List AV := (List.range 256).map fun n => AV.int (match w64 (UInt8.ofNat n) with | some v => (v : Int) + 1 | none => 0)
theorem worths_eq (κ : List AV → Option R) : octet_worths_0 κ = κ tabL := by kernel_rfl
theorem tab_get (c : UInt8) : (rdA tabL (c.toNat : Int)).i = match w64 c with | some v => (v : Int) + 1 | none => 0 := by
  have hlt := byte_lt c
  rw [rdA_get (a := AV.int (match w64 (UInt8.ofNat c.toNat) with | some v => (v : Int) + 1 | none => 0)) (by unfold tabL; rw [List.getElem?_map, List.getElem?_range hlt]; rfl), UInt8.ofNat_toNat]
  rfl
theorem w64_lt {c : UInt8} {v : Nat} (h : w64 c = some v) : v < 64 ∧ (v = 63 → c = 47) := by
  have hlt := byte_lt c
  unfold w64 at h
  split at h
  · cases h; exact ⟨by omega, by omega⟩
  · split at h
    · cases h; exact ⟨by omega, by omega⟩
    · split at h
      · cases h; exact ⟨by omega, by omega⟩
      · split at h
        · cases h; exact ⟨by omega, by omega⟩
        · split at h
          · cases h; rename_i e; exact ⟨by omega, fun _ => e⟩
          · cases h
theorem or64 (n v : Nat) (hn : n < 16777216) (hv : v < 64) : bitI .or .i64 (IntKind.wrap .i64 ((n : Int) * 2 ^ 6)) (v : Int) = ((n * 64 + v : Nat) : Int) := by
  rw [wrap_i64 (by omega) (by omega)]
  have e : (n : Int) * 2 ^ 6 = ((n * 64 : Nat) : Int) := by omega
  rw [e]
  show IntKind.wrap .i64 ((BitVec.ofInt 64 ((n * 64 : Nat) : Int) ||| BitVec.ofInt 64 ((v : Nat) : Int)).toNat : Int) = _
  rw [BitVec.ofInt_natCast, BitVec.ofInt_natCast, BitVec.toNat_or, BitVec.toNat_ofNat, BitVec.toNat_ofNat, Nat.mod_eq_of_lt (by omega), Nat.mod_eq_of_lt (by omega)]
  have h2 := Nat.shiftLeft_add_eq_or_of_lt (a := n) (b := v) (i := 6) (by omega)
  rw [Nat.shiftLeft_eq] at h2
  rw [show n * 64 = n * 2 ^ 6 by omega, ← h2, wrap_i64 (by omega) (by omega)]
def vs64 (s : List UInt8) : List Nat := (s.takeWhile fun c => c != 61).filterMap w64
theorem vs64_nil : vs64 [] = [] := rfl
theorem vs64_cons (c : UInt8) (r : List UInt8) : vs64 (c :: r) = bif c != 61 then (match w64 c with | some v => v :: vs64 r | none => vs64 r) else [] := by
  unfold vs64
  rw [List.takeWhile_cons]
  cases h : (c != 61) with
  | false => simp
  | true =>
    simp only [if_true, cond_true, List.filterMap_cons]
    cases w64 c <;> rfl
/-- Bytes out of six bits each. -/
def b64 : List Nat → List UInt8
  | a :: b :: c :: d :: r => UInt8.ofNat ((((a * 64 + b) * 64 + c) * 64 + d) / 65536) :: UInt8.ofNat ((((a * 64 + b) * 64 + c) * 64 + d) / 256) :: UInt8.ofNat (((a * 64 + b) * 64 + c) * 64 + d) :: b64 r
  | [a, b, c] => [UInt8.ofNat (((a * 64 + b) * 64 + c) / 1024), UInt8.ofNat (((a * 64 + b) * 64 + c) / 4)]
  | [a, b] => [UInt8.ofNat ((a * 64 + b) / 16)]
  | _ => []
theorem wu8 (n : Nat) : IntKind.wrap .u8 (n : Int) = ((UInt8.ofNat n).toNat : Int) := by
  rw [IntKind.wrap_u8]
  simp
theorem fdiv_nat (n k : Nat) (hk : 0 < k) : Int.fdiv (n : Int) (k : Int) = ((n / k : Nat) : Int) := by
  rw [Int.fdiv_eq_ediv_of_nonneg _ (by omega)]; rfl
def nv : List Nat → Nat := List.foldl (fun n v => n * 64 + v) 0
theorem nv_snoc (p : List Nat) (v : Nat) : nv (p ++ [v]) = nv p * 64 + v := by unfold nv; simp
theorem r64_end (p : List Nat) (hp : p.length < 4) (acc : List UInt8) (ha : acc.length ≤ 1000000) (κ : ByteArray → Option R) :
    (bif (((p.length : Nat) : Int) == 2) then (chk (decide (((intsAV acc).length + 1) * 1 ≤ 140737488355328)) (κ (strAV (intsAV acc ++ [AV.int (IntKind.wrap .u8 (Int.fdiv (nv p : Int) (2 ^ 4)))])))) else (bif (((p.length : Nat) : Int) == 3) then (chk (decide (((intsAV acc).length + 2) * 1 ≤ 140737488355328)) (κ (strAV (intsAV acc ++ [AV.int (IntKind.wrap .u8 (Int.fdiv (nv p : Int) (2 ^ 10))), AV.int (IntKind.wrap .u8 (Int.fdiv (nv p : Int) (2 ^ 2)))])))) else (κ (strAV (intsAV acc)))))
      = κ (B (acc ++ b64 p)) := by
  have hal := ints_len acc
  have e4 : Int.fdiv (nv p : Int) (2 ^ 4) = ((nv p / 16 : Nat) : Int) := fdiv_nat _ 16 (by omega)
  have e10 : Int.fdiv (nv p : Int) (2 ^ 10) = ((nv p / 1024 : Nat) : Int) := fdiv_nat _ 1024 (by omega)
  have e2 : Int.fdiv (nv p : Int) (2 ^ 2) = ((nv p / 4 : Nat) : Int) := fdiv_nat _ 4 (by omega)
  rw [e4, e10, e2, wu8, wu8, wu8, hal, chk_dec (by omega), chk_dec (by omega)]
  match p, hp with
  | [], _ => rw [strAV_ints]; simp [b64]
  | [a], _ => rw [strAV_ints]; simp [b64]
  | [a, b], _ =>
    show κ (strAV (intsAV acc ++ intsAV [UInt8.ofNat (nv [a, b] / 16)])) = _
    rw [ints_append, strAV_ints]
    simp [b64, nv]
  | [a, b, c], _ =>
    show κ (strAV (intsAV acc ++ intsAV [UInt8.ofNat (nv [a, b, c] / 1024), UInt8.ofNat (nv [a, b, c] / 4)])) = _
    rw [ints_append, strAV_ints]
    simp [b64, nv]
  | a :: b :: c :: d :: r, hp => simp at hp; omega
theorem nv_lt : ∀ p : List Nat, p.length < 4 → (∀ v ∈ p, v < 64) → nv p < 262144
  | [], _, _ => by decide
  | [a], _, h => by have := h a (by simp); simp [nv]; omega
  | [a, b], _, h => by have := h a (by simp); have := h b (by simp); simp [nv]; omega
  | [a, b, c], _, h => by have := h a (by simp); have := h b (by simp); have := h c (by simp); simp [nv]; omega
  | a :: b :: c :: d :: r, h, _ => by simp at h; omega
end Go.Proofs.Ab

/- base64, read loosely, by the program: the loop. -/
namespace Go.Proofs.Ab
set_option linter.unusedVariables false
set_option maxRecDepth 4000
open Go
variable {R : Type}
abbrev r6L5 (κ : ByteArray → Option R) := octet_read64_0.L5 octet_worths_0 κ
theorem r64_loop (s : List UInt8) (hs : s.length ≤ 500000) (κ : ByteArray → Option R) : ∀ (f i : Nat) (p : List Nat) (acc : List UInt8), i ≤ s.length → s.length < i + f → p.length < 4 → (∀ v ∈ p, v < 64) → acc.length + p.length ≤ i →
    r6L5 κ f (B s) 47 (nv p : Int) (p.length : Int) (i : Int) (intsAV acc) tabL = κ (B (acc ++ b64 (p ++ vs64 (s.drop i))))
  | 0, i, p, acc, h1, h2, h3, h4, h5 => by omega
  | f + 1, i, p, acc, h1, h2, h3, h4, h5 => by
    unfold r6L5
    rw [octet_read64_0.L5, octet_read64_0.t5]
    simp only [r64_end p h3 acc (by omega)]
    have hal := ints_len acc
    have hnv := nv_lt p h3 h4
    simp only [size_B]
    cases hd : s.drop i with
    | nil =>
      have := drop_nil hd
      rw [cond_dec' (by omega), vs64_nil, List.append_nil]
    | cons c r =>
      obtain ⟨g1, g2, g3⟩ := drop_get hd
      have hlt := byte_lt c
      have hw1 : IntKind.wrap .i64 ((i : Int) + 1) = ((i + 1 : Nat) : Int) := wrap_i64 (by omega) (by omega)
      have hwp : IntKind.wrap .i64 ((p.length : Int) + 1) = ((p.length + 1 : Nat) : Int) := wrap_i64 (by omega) (by omega)
      simp only [hw1, hwp, btB g1]
      simp (disch := omega) only [cond_dec, chk_and, chk_dec]
      rw [byteN c 61 61 rfl, byteB c 47 47 rfl, tab_get c, vs64_cons]
      cases h61 : (c != 61) with
      | false => simp only [cond_false, List.append_nil]
      | true =>
        simp only [cond_true]
        -- a value comes
        have come : ∀ (v : Nat) (x : Int), x = (v : Int) → v < 64 →
            (bif ((p.length + 1 : Nat) : Int) == 4 then (octet_read64_0.L5 octet_worths_0 κ f (B s) 47 0 0 ((i + 1 : Nat) : Int) (intsAV acc ++ [AV.int (IntKind.wrap .u8 (Int.fdiv (bitI .or .i64 (IntKind.wrap .i64 ((nv p : Int) * 2 ^ 6)) x) (2 ^ 16))), AV.int (IntKind.wrap .u8 (Int.fdiv (bitI .or .i64 (IntKind.wrap .i64 ((nv p : Int) * 2 ^ 6)) x) (2 ^ 8))), AV.int (IntKind.wrap .u8 (bitI .or .i64 (IntKind.wrap .i64 ((nv p : Int) * 2 ^ 6)) x))]) tabL)
              else (octet_read64_0.L5 octet_worths_0 κ f (B s) 47 (bitI .or .i64 (IntKind.wrap .i64 ((nv p : Int) * 2 ^ 6)) x) ((p.length + 1 : Nat) : Int) ((i + 1 : Nat) : Int) (intsAV acc) tabL)) = κ (B (acc ++ b64 (p ++ v :: vs64 r))) := by
          intro v x hx hv
          subst hx
          rw [or64 _ _ (by omega) hv]
          have hsn : ((nv p * 64 + v : Nat) : Int) = ((nv (p ++ [v]) : Nat) : Int) := by rw [nv_snoc]
          have hpl : (p ++ [v]).length = p.length + 1 := by simp
          have hpv : ∀ w ∈ p ++ [v], w < 64 := by
            intro w hw
            rw [List.mem_append, List.mem_singleton] at hw
            rcases hw with hw | rfl
            · exact h4 w hw
            · exact hv
          by_cases h3' : p.length = 3
          · have e16 : Int.fdiv ((nv p * 64 + v : Nat) : Int) (2 ^ 16) = (((nv p * 64 + v) / 65536 : Nat) : Int) := fdiv_nat _ 65536 (by omega)
            have e8 : Int.fdiv ((nv p * 64 + v : Nat) : Int) (2 ^ 8) = (((nv p * 64 + v) / 256 : Nat) : Int) := fdiv_nat _ 256 (by omega)
            rw [beq_pos (by omega), e16, e8, wu8, wu8, wu8]
            simp only [cond_true]
            have hint : intsAV acc ++ [AV.int ((UInt8.ofNat ((nv p * 64 + v) / 65536)).toNat : Int), AV.int ((UInt8.ofNat ((nv p * 64 + v) / 256)).toNat : Int), AV.int ((UInt8.ofNat (nv p * 64 + v)).toNat : Int)] = intsAV (acc ++ [UInt8.ofNat ((nv p * 64 + v) / 65536), UInt8.ofNat ((nv p * 64 + v) / 256), UInt8.ofNat (nv p * 64 + v)]) := ints_append acc [_, _, _]
            rw [hint]
            have ih := r64_loop s hs κ f (i + 1) [] (acc ++ [UInt8.ofNat ((nv p * 64 + v) / 65536), UInt8.ofNat ((nv p * 64 + v) / 256), UInt8.ofNat (nv p * 64 + v)]) (by omega) (by omega) (by simp) (by simp) (by simp; omega)
            rw [g3] at ih
            refine (ih : octet_read64_0.L5 octet_worths_0 κ f (B s) 47 0 0 ((i + 1 : Nat) : Int) _ tabL = _).trans ?_
            match p, h3' with
            | [a, b, c], _ => simp [b64, nv]
          · rw [beq_neg (by omega), hsn]
            simp only [cond_false]
            have ih := r64_loop s hs κ f (i + 1) (p ++ [v]) acc (by omega) (by omega) (by omega) hpv (by omega)
            rw [g3, hpl, List.append_assoc] at ih
            exact ih
        by_cases h47 : c = 47
        · subst h47
          rw [show ((47 : UInt8) == 47) = true from rfl, show w64 47 = some 63 from by decide]
          simp only [cond_true]
          exact come 63 63 rfl (by omega)
        · rw [show (c == 47) = false by simpa using h47]
          simp only [cond_false]
          cases hw : w64 c with
          | some v =>
            obtain ⟨v1, v2⟩ := w64_lt hw
            have hx : IntKind.wrap .i64 ((IntKind.wrap .i64 ((v : Int) + 1)) - 1) = (v : Int) := by
              rw [wrap_i64 (x := (v : Int) + 1) (by omega) (by omega), wrap_i64 (by omega) (by omega)]; omega
            simp only [hx]
            rw [beq_neg (show (v : Int) ≠ 63 from fun e => h47 (v2 (by omega))), cond_dec' (by omega)]
            simp only [cond_false]
            exact come v _ rfl v1
          | none =>
            have hx : IntKind.wrap .i64 ((IntKind.wrap .i64 0) - 1) = -1 := by decide
            simp only [hx]
            rw [show ((-1 : Int) == 63) = false from rfl, cond_dec (by omega)]
            simp only [cond_false]
            have ih := r64_loop s hs κ f (i + 1) p acc (by omega) (by omega) h3 h4 (by omega)
            rw [g3] at ih
            exact ih
theorem r64_eq (s : List UInt8) (hs : s.length ≤ 500000) (κ : ByteArray → Option R) : octet_read64_0 (B s) 47 κ = κ (B (b64 (vs64 s))) := by
  have key : ∀ f, s.length < f → octet_read64_0.e octet_worths_0 (B s) 47 (r6L5 κ f) κ = κ (B (b64 (vs64 s))) := by
    intro f hf
    unfold octet_read64_0.e
    rw [worths_eq]
    exact r64_loop s hs κ f 0 [] [] (by omega) (by omega) (by simp) (by simp) (by simp)
  exact key fuelK (by unfold fuelK; omega)
theorem lLoose_eq (s : List UInt8) (hs : s.length ≤ 500000) (κ : ByteArray → Option R) : octet_Loose64_0 (B s) κ = κ (B (b64 (vs64 s))) := by
  unfold octet_Loose64_0 octet_Loose64_0.e
  rw [r64_eq s hs]
end Go.Proofs.Ab

/- base64, read loosely, by the document. -/
namespace Go.Proofs.Ab
set_option linter.unusedVariables false
set_option maxRecDepth 4000
open Go
variable {R : Type}
def letL : List UInt8 := [65, 66, 67, 68, 69, 70, 71, 72, 73, 74, 75, 76, 77, 78, 79, 80, 81, 82, 83, 84, 85, 86, 87, 88, 89, 90, 97, 98, 99, 100, 101, 102, 103, 104, 105, 106, 107, 108, 109, 110, 111, 112, 113, 114, 115, 116, 117, 118, 119, 120, 121, 122, 48, 49, 50, 51, 52, 53, 54, 55, 56, 57, 43, 47]
theorem letL_B : (⟨#[65, 66, 67, 68, 69, 70, 71, 72, 73, 74, 75, 76, 77, 78, 79, 80, 81, 82, 83, 84, 85, 86, 87, 88, 89, 90, 97, 98, 99, 100, 101, 102, 103, 104, 105, 106, 107, 108, 109, 110, 111, 112, 113, 114, 115, 116, 117, 118, 119, 120, 121, 122, 48, 49, 50, 51, 52, 53, 54, 55, 56, 57, 43, 47]⟩ : ByteArray) = B letL := rfl
theorem letL_len : letL.length = 64 := rfl
def wI (c : UInt8) : Int := match w64 c with | some v => (v : Int) | none => -1
/-- The place of a byte in a list, counted from a number on; -1: nowhere. -/
def idxI (c : UInt8) : Nat → List UInt8 → Int
  | _, [] => -1
  | i, d :: r => bif d == c then (i : Int) else idxI c (i + 1) r
theorem idx_all (c : UInt8) : idxI c 0 letL = wI c := by
  have := all_bytes (p := fun c => decide (idxI c 0 letL = wI c)) (by kernel_rfl) c
  simpa using this
theorem worth_loop (c : UInt8) (κ : Int → Option R) : ∀ (f i : Nat), i ≤ 64 → 64 < i + f → postbagref1_worth_0.L2 κ f (c.toNat : Int) (i : Int) = κ (idxI c i (letL.drop i))
  | 0, i, h1, h2 => by omega
  | f + 1, i, h1, h2 => by
    rw [postbagref1_worth_0.L2, postbagref1_worth_0.t2]
    simp only [letL_B, size_B, letL_len]
    have hw1 : IntKind.wrap .i64 ((i : Int) + 1) = ((i + 1 : Nat) : Int) := wrap_i64 (by omega) (by omega)
    cases hd : letL.drop i with
    | nil =>
      have := drop_nil hd
      rw [letL_len] at this
      rw [cond_dec' (by omega)]; rfl
    | cons d r =>
      obtain ⟨g1, g2, g3⟩ := drop_get hd
      rw [letL_len] at g2
      simp (disch := omega) only [cond_dec, chk_and, chk_dec, btB g1, hw1]
      rw [byte_beq, idxI]
      cases (d == c) with
      | true => rfl
      | false =>
        simp only [cond_false]
        rw [worth_loop c κ f (i + 1) (by omega) (by omega), g3]
theorem worth_eq (c : UInt8) (κ : Int → Option R) : postbagref1_worth_0 (c.toNat : Int) κ = κ (wI c) := by
  have key : ∀ f, 64 < f → postbagref1_worth_0.e (c.toNat : Int) (postbagref1_worth_0.L2 κ f) κ = κ (wI c) := by
    intro f hf
    refine (worth_loop c κ f 0 (by omega) (by omega)).trans ?_
    rw [List.drop_zero, idx_all]
  exact key fuelK (by unfold fuelK; omega)
def bitsAV (l : List Nat) : List AV := l.map fun (v : Nat) => AV.int (v : Int)
theorem bits_len (l : List Nat) : (bitsAV l).length = l.length := by unfold bitsAV; simp
def fo : Nat → List Nat → Nat := List.foldl fun v b => 2 * v + b
theorem value_loop (l : List Nat) (hl : l.length ≤ 10000000) (hb : ∀ v ∈ l, v < 2) (a : Nat) (ha : a + 8 ≤ l.length) (κ : Int → Option R) : ∀ (f i v : Nat), i ≤ 8 → 8 < i + f → v < 2 ^ i →
    postbagref1_value_oii.L3 κ f (bitsAV l) (a : Int) 8 (v : Int) (i : Int) = κ (fo v ((l.drop (a + i)).take (8 - i)) : Int)
  | 0, i, v, h1, h2, h3 => by omega
  | f + 1, i, v, h1, h2, h3 => by
    rw [postbagref1_value_oii.L3, postbagref1_value_oii.t3]
    rw [bits_len]
    by_cases h : i < 8
    · have hv : v < 256 := Nat.lt_of_lt_of_le h3 (by have : 2 ^ i ≤ 2 ^ 8 := Nat.pow_le_pow_right (by omega) (by omega); omega)
      have hlt : a + i < l.length := by omega
      have hx : rdA (bitsAV l) ((a + i : Nat) : Int) = AV.int (l[a + i] : Int) := rdA_get (by unfold bitsAV; rw [List.getElem?_map, List.getElem?_eq_getElem hlt]; rfl)
      have hxb := hb l[a + i] (List.getElem_mem hlt)
      have hw1 : IntKind.wrap .i64 ((i : Int) + 1) = ((i + 1 : Nat) : Int) := wrap_i64 (by omega) (by omega)
      have hwa : IntKind.wrap .i64 ((a : Int) + (i : Int)) = ((a + i : Nat) : Int) := by rw [wrap_i64 (by omega) (by omega)]; omega
      have hi : (AV.int (l[a + i] : Int)).i = (l[a + i] : Int) := rfl
      have hw2 : IntKind.wrap .i64 ((IntKind.wrap .i64 (2 * (v : Int))) + (l[a + i] : Int)) = ((2 * v + l[a + i] : Nat) : Int) := by
        rw [wrap_i64 (x := 2 * (v : Int)) (by omega) (by omega), wrap_i64 (by omega) (by omega)]; omega
      simp only [hwa, hx, hw1, hi, hw2]
      simp (disch := omega) only [cond_dec, chk_and, chk_dec]
      rw [value_loop l hl hb a ha κ f (i + 1) (2 * v + l[a + i]) (by omega) (by omega) (by rw [Nat.pow_succ]; omega)]
      have hd : l.drop (a + i) = l[a + i] :: l.drop (a + (i + 1)) := List.drop_eq_getElem_cons hlt
      rw [hd, show 8 - i = (8 - (i + 1)) + 1 by omega, List.take_succ_cons]
      rfl
    · have : i = 8 := by omega
      subst this
      rw [cond_dec' (by omega)]
      simp [fo]
theorem value_eq (l : List Nat) (hl : l.length ≤ 10000000) (hb : ∀ v ∈ l, v < 2) (a : Nat) (ha : a + 8 ≤ l.length) (κ : Int → Option R) : postbagref1_value_oii (bitsAV l) (a : Int) 8 κ = κ (fo 0 ((l.drop a).take 8) : Int) := by
  have key : ∀ f, 8 < f → postbagref1_value_oii.e (bitsAV l) (a : Int) 8 (postbagref1_value_oii.L3 κ f) κ = κ (fo 0 ((l.drop a).take 8) : Int) :=
    fun f hf => value_loop l hl hb a ha κ f 0 0 (by omega) (by omega) (by decide)
  exact key fuelK (by unfold fuelK; omega)
/-- Bytes out of bits. -/
def b8 : List Nat → List UInt8
  | a :: b :: c :: d :: e :: f :: g :: h :: r => UInt8.ofNat (fo 0 [a, b, c, d, e, f, g, h]) :: b8 r
  | _ => []
theorem b8_step (l : List Nat) (h : 8 ≤ l.length) : b8 l = UInt8.ofNat (fo 0 (l.take 8)) :: b8 (l.drop 8) := by
  match l, h with
  | a :: b :: c :: d :: e :: f :: g :: i :: r, _ => rw [b8]; rfl
theorem b8_stop (l : List Nat) (h : l.length < 8) : b8 l = [] := by
  match l, h with
  | [], _ => rfl
  | [_], _ => rfl
  | [_, _], _ => rfl
  | [_, _, _], _ => rfl
  | [_, _, _, _], _ => rfl
  | [_, _, _, _, _], _ => rfl
  | [_, _, _, _, _, _], _ => rfl
  | [_, _, _, _, _, _, _], _ => rfl
  | _ :: _ :: _ :: _ :: _ :: _ :: _ :: _ :: r, h => simp at h; omega
def bits6 (v : Nat) : List Nat := [v / 32 % 2, v / 16 % 2, v / 8 % 2, v / 4 % 2, v / 2 % 2, v / 1 % 2]
theorem ofNat_eq {x y : Nat} (h : x % 256 = y % 256) : UInt8.ofNat x = UInt8.ofNat y := by
  rw [← UInt8.toNat_inj, UInt8.toNat_ofNat', UInt8.toNat_ofNat']; exact h
theorem bits6_sum (v : Nat) (h : v < 64) : ∃ a b c d e f : Nat, bits6 v = [a, b, c, d, e, f] ∧ v = 32 * a + 16 * b + 8 * c + 4 * d + 2 * e + f ∧ a < 2 ∧ b < 2 ∧ c < 2 ∧ d < 2 ∧ e < 2 ∧ f < 2 :=
  ⟨_, _, _, _, _, _, rfl, by omega, by omega, by omega, by omega, by omega, by omega, by omega⟩
theorem fo8 (a b c d e f g h : Nat) : fo 0 [a, b, c, d, e, f, g, h] = 128 * a + 64 * b + 32 * c + 16 * d + 8 * e + 4 * f + 2 * g + h := by
  show 2 * (2 * (2 * (2 * (2 * (2 * (2 * (2 * 0 + a) + b) + c) + d) + e) + f) + g) + h = _
  omega
theorem b8_64 : ∀ vs : List Nat, (∀ v ∈ vs, v < 64) → b8 (vs.flatMap bits6) = b64 vs
  | [], _ => rfl
  | [a], _ => rfl
  | [a, b], h => by
    obtain ⟨a1, a2, a3, a4, a5, a6, ea, va, _⟩ := bits6_sum a (h a (by simp))
    obtain ⟨b1, b2, b3, b4, b5, b6, eb, vb, _⟩ := bits6_sum b (h b (by simp))
    rw [List.flatMap_cons, List.flatMap_cons, List.flatMap_nil, ea, eb]
    simp only [List.cons_append, List.nil_append]
    rw [b8, b8_stop _ (by simp), fo8, b64]
    rw [ofNat_eq (x := 128 * a1 + 64 * a2 + 32 * a3 + 16 * a4 + 8 * a5 + 4 * a6 + 2 * b1 + b2) (y := (a * 64 + b) / 16) (by omega)]
  | [a, b, c], h => by
    obtain ⟨a1, a2, a3, a4, a5, a6, ea, va, _⟩ := bits6_sum a (h a (by simp))
    obtain ⟨b1, b2, b3, b4, b5, b6, eb, vb, _⟩ := bits6_sum b (h b (by simp))
    obtain ⟨c1, c2, c3, c4, c5, c6, ec, vc, _⟩ := bits6_sum c (h c (by simp))
    rw [List.flatMap_cons, List.flatMap_cons, List.flatMap_cons, List.flatMap_nil, ea, eb, ec]
    simp only [List.cons_append, List.nil_append]
    rw [b8, b8, b8_stop _ (by simp), fo8, fo8, b64]
    rw [ofNat_eq (x := 128 * a1 + 64 * a2 + 32 * a3 + 16 * a4 + 8 * a5 + 4 * a6 + 2 * b1 + b2) (y := ((a * 64 + b) * 64 + c) / 1024) (by omega),
      ofNat_eq (x := 128 * b3 + 64 * b4 + 32 * b5 + 16 * b6 + 8 * c1 + 4 * c2 + 2 * c3 + c4) (y := ((a * 64 + b) * 64 + c) / 4) (by omega)]
  | a :: b :: c :: d :: r, h => by
    obtain ⟨a1, a2, a3, a4, a5, a6, ea, va, _⟩ := bits6_sum a (h a (by simp))
    obtain ⟨b1, b2, b3, b4, b5, b6, eb, vb, _⟩ := bits6_sum b (h b (by simp))
    obtain ⟨c1, c2, c3, c4, c5, c6, ec, vc, _⟩ := bits6_sum c (h c (by simp))
    obtain ⟨d1, d2, d3, d4, d5, d6, ed, vd, _⟩ := bits6_sum d (h d (by simp))
    have ih := b8_64 r (fun v hv => h v (by simp [hv]))
    rw [List.flatMap_cons, List.flatMap_cons, List.flatMap_cons, List.flatMap_cons, ea, eb, ec, ed]
    simp only [List.cons_append, List.nil_append]
    rw [b8, b8, b8, ih, fo8, fo8, fo8, b64]
    rw [ofNat_eq (x := 128 * a1 + 64 * a2 + 32 * a3 + 16 * a4 + 8 * a5 + 4 * a6 + 2 * b1 + b2) (y := (((a * 64 + b) * 64 + c) * 64 + d) / 65536) (by omega),
      ofNat_eq (x := 128 * b3 + 64 * b4 + 32 * b5 + 16 * b6 + 8 * c1 + 4 * c2 + 2 * c3 + c4) (y := (((a * 64 + b) * 64 + c) * 64 + d) / 256) (by omega),
      ofNat_eq (x := 128 * c5 + 64 * c6 + 32 * d1 + 16 * d2 + 8 * d3 + 4 * d4 + 2 * d5 + d6) (y := ((a * 64 + b) * 64 + c) * 64 + d) (by omega)]
end Go.Proofs.Ab

/- base64, read loosely, by the document: the loops. -/
namespace Go.Proofs.Ab
set_option linter.unusedVariables false
set_option maxRecDepth 4000
open Go
variable {R : Type}
abbrev q3 (κ : ByteArray → Option R) := postbagref1_Loose64_0.L3 postbagref1_worth_0 postbagref1_value_oii κ
abbrev q7 (κ : ByteArray → Option R) := postbagref1_Loose64_0.L7 postbagref1_worth_0 postbagref1_value_oii κ
abbrev q12 (κ : ByteArray → Option R) := postbagref1_Loose64_0.L12 postbagref1_worth_0 postbagref1_value_oii κ
theorem q3_succ (κ : ByteArray → Option R) (f : Nat) (s : ByteArray) (i : Int) (l : List AV) : q3 κ (f + 1) s i l = postbagref1_Loose64_0.t3 postbagref1_worth_0 postbagref1_value_oii s i l (q3 κ f) (q7 κ f) (q12 κ f) κ := by
  unfold q3 q7 postbagref1_Loose64_0.L3 postbagref1_Loose64_0.L7
  rw [postbagref1_Loose64_0.M3]
theorem q7_succ (κ : ByteArray → Option R) (f : Nat) (s : ByteArray) (i v k : Int) (l : List AV) : q7 κ (f + 1) s i v k l = postbagref1_Loose64_0.t7 postbagref1_worth_0 postbagref1_value_oii s i v k l (q3 κ f) (q7 κ f) (fun _ _ _ => none) κ := by
  unfold q3 q7 postbagref1_Loose64_0.L3 postbagref1_Loose64_0.L7
  rw [postbagref1_Loose64_0.M3]
theorem tdivN (n k : Nat) : Int.tdiv (n : Int) (k : Int) = ((n / k : Nat) : Int) := rfl
theorem tmodN (n k : Nat) : Int.tmod (n : Int) (k : Int) = ((n % k : Nat) : Int) := rfl
theorem q7_step (κ : ByteArray → Option R) (f : Nat) (s : ByteArray) (i : Int) (v k : Nat) (hv : v < 64) (hk : 0 < k) (hk2 : k ≤ 32) (l : List Nat) (hl : l.length ≤ 10000000) :
    q7 κ (f + 1) s i (v : Int) (k : Int) (bitsAV l) = q7 κ f s i (v : Int) ((k / 2 : Nat) : Int) (bitsAV (l ++ [v / k % 2])) := by
  rw [q7_succ, postbagref1_Loose64_0.t7, bits_len, cond_dec (by omega), cond_dec (by omega), bne_pos (by omega), chk_tt, chk_dec (by omega)]
  have e1 : IntKind.wrap .i64 (Int.tdiv (k : Int) 2) = ((k / 2 : Nat) : Int) := by rw [show Int.tdiv (k : Int) 2 = ((k / 2 : Nat) : Int) from rfl, wrap_i64 (by omega) (by omega)]
  have hq : v / k < 64 := Nat.lt_of_le_of_lt (Nat.div_le_self v k) hv
  have e2' : ∀ q : Nat, q < 64 → IntKind.wrap .i64 (q : Int) = (q : Int) := fun q h => wrap_i64 (by omega) (by omega)
  have e2 : IntKind.wrap .i64 (Int.tdiv (v : Int) (k : Int)) = ((v / k : Nat) : Int) := by rw [tdivN, e2' _ hq]
  rw [e1, e2]
  have e3 : Int.tmod ((v / k : Nat) : Int) 2 = ((v / k % 2 : Nat) : Int) := rfl
  rw [e3]
  have e4 : bitsAV l ++ [AV.int ((v / k % 2 : Nat) : Int)] = bitsAV (l ++ [v / k % 2]) := by unfold bitsAV; simp
  rw [e4]
theorem q7_six (κ : ByteArray → Option R) (f : Nat) (s : ByteArray) (i : Nat) (hi : i ≤ 10000000) (v : Nat) (hv : v < 64) (l : List Nat) (hl : l.length ≤ 9000000) :
    q7 κ (f + 7) s (i : Int) (v : Int) 32 (bitsAV l) = q3 κ f s ((i + 1 : Nat) : Int) (bitsAV (l ++ bits6 v)) := by
  have s1 := q7_step κ (f + 6) s i v 32 hv (by omega) (by omega) l (by omega)
  have s2 := q7_step κ (f + 5) s i v 16 hv (by omega) (by omega) (l ++ [v / 32 % 2]) (by simp; omega)
  have s3 := q7_step κ (f + 4) s i v 8 hv (by omega) (by omega) (l ++ [v / 32 % 2] ++ [v / 16 % 2]) (by simp; omega)
  have s4 := q7_step κ (f + 3) s i v 4 hv (by omega) (by omega) (l ++ [v / 32 % 2] ++ [v / 16 % 2] ++ [v / 8 % 2]) (by simp; omega)
  have s5 := q7_step κ (f + 2) s i v 2 hv (by omega) (by omega) (l ++ [v / 32 % 2] ++ [v / 16 % 2] ++ [v / 8 % 2] ++ [v / 4 % 2]) (by simp; omega)
  have s6 := q7_step κ (f + 1) s i v 1 hv (by omega) (by omega) (l ++ [v / 32 % 2] ++ [v / 16 % 2] ++ [v / 8 % 2] ++ [v / 4 % 2] ++ [v / 2 % 2]) (by simp; omega)
  have hw1 : IntKind.wrap .i64 ((i : Int) + 1) = ((i + 1 : Nat) : Int) := wrap_i64 (by omega) (by omega)
  have s7 : ∀ l', q7 κ (f + 1) s (i : Int) (v : Int) 0 l' = q3 κ f s ((i + 1 : Nat) : Int) l' := by
    intro l'
    rw [q7_succ, postbagref1_Loose64_0.t7, cond_dec' (by omega), hw1]
  refine s1.trans (s2.trans (s3.trans (s4.trans (s5.trans (s6.trans ((s7 _).trans ?_))))))
  simp [bits6]
theorem q12_loop (l : List Nat) (hl : l.length ≤ 9000000) (hb : ∀ v ∈ l, v < 2) (κ : ByteArray → Option R) : ∀ (f a : Nat) (acc : List UInt8), a ≤ l.length → l.length < a + f → acc.length ≤ a →
    q12 κ f (a : Int) (bitsAV l) (intsAV acc) = κ (B (acc ++ b8 (l.drop a)))
  | 0, a, acc, h1, h2, h3 => by omega
  | f + 1, a, acc, h1, h2, h3 => by
    unfold q12
    rw [postbagref1_Loose64_0.L12, postbagref1_Loose64_0.t12]
    have hal := ints_len acc
    have hw8 : IntKind.wrap .i64 ((a : Int) + 8) = ((a + 8 : Nat) : Int) := wrap_i64 (by omega) (by omega)
    rw [bits_len, hw8, strAV_ints]
    by_cases h : a + 8 ≤ l.length
    · rw [cond_dec (by omega), value_eq l (by omega) hb a h, chk_dec (by omega), wu8, ints_snoc]
      have := q12_loop l hl hb κ f (a + 8) (acc ++ [UInt8.ofNat (fo 0 ((l.drop a).take 8))]) (by omega) (by omega) (by simp; omega)
      unfold q12 at this
      rw [this, b8_step (l.drop a) (by rw [List.length_drop]; omega), List.drop_drop]
      simp
    · rw [cond_dec' (by omega), b8_stop (l.drop a) (by rw [List.length_drop]; omega), List.append_nil]
theorem bits6_lt (v : Nat) : ∀ b ∈ bits6 v, b < 2 := by
  intro b hb
  simp only [bits6, List.mem_cons, List.mem_nil_iff, or_false] at hb
  rcases hb with h | h | h | h | h | h <;> omega
theorem q3_loop (s : List UInt8) (hs : s.length ≤ 100000) (κ : ByteArray → Option R) : ∀ (f i : Nat) (l : List Nat), i ≤ s.length → 8 * s.length + 800000 < 8 * i + f → l.length ≤ 6 * i → (∀ v ∈ l, v < 2) →
    q3 κ f (B s) (i : Int) (bitsAV l) = κ (B (b8 (l ++ (vs64 (s.drop i)).flatMap bits6)))
  | 0, i, l, h1, h2, h3, h4 => by omega
  | f + 1, i, l, h1, h2, h3, h4 => by
    rw [q3_succ, postbagref1_Loose64_0.t3]
    have hw1 : IntKind.wrap .i64 ((i : Int) + 1) = ((i + 1 : Nat) : Int) := wrap_i64 (by omega) (by omega)
    have stop : q12 κ f 0 (bitsAV l) ([] : List AV) = κ (B (b8 l)) := by
      have := q12_loop l (by omega) h4 κ f 0 [] (by omega) (by omega) (by simp)
      rw [List.drop_zero] at this
      exact this
    rw [size_B]
    cases hd : s.drop i with
    | nil =>
      have := drop_nil hd
      rw [cond_dec' (by omega), vs64_nil, List.flatMap_nil, List.append_nil]
      exact stop
    | cons c r =>
      obtain ⟨g1, g2, g3⟩ := drop_get hd
      simp (disch := omega) only [cond_dec, chk_and, chk_dec, btB g1, worth_eq]
      rw [byteN c 61 61 rfl, vs64_cons]
      cases h61 : (c != 61) with
      | false =>
        simp only [cond_false, List.flatMap_nil, List.append_nil]
        exact stop
      | true =>
        simp only [cond_true]
        obtain ⟨g, rfl⟩ : ∃ g, f = g + 7 := ⟨f - 7, by omega⟩
        unfold wI
        cases hw : w64 c with
        | some v =>
          simp only
          rw [q7_six κ g (B s) i (by omega) v (w64_lt hw).1 l (by omega)]
          have := q3_loop s hs κ g (i + 1) (l ++ bits6 v) (by omega) (by omega) (by simp [bits6]; omega) (by
            intro b hb
            rw [List.mem_append] at hb
            rcases hb with hb | hb
            · exact h4 b hb
            · exact bits6_lt v b hb)
          rw [this, g3, List.flatMap_cons, List.append_assoc]
        | none =>
          simp only
          rw [q7_succ, postbagref1_Loose64_0.t7, cond_dec (by omega), cond_dec' (by omega), hw1]
          have := q3_loop s hs κ (g + 6) (i + 1) l (by omega) (by omega) (by omega) h4
          rw [this, g3]
theorem vs64_lt (s : List UInt8) : ∀ v ∈ vs64 s, v < 64 := by
  intro v hv
  unfold vs64 at hv
  rw [List.mem_filterMap] at hv
  obtain ⟨c, _, hc⟩ := hv
  exact (w64_lt hc).1
theorem rLoose_eq (s : List UInt8) (hs : s.length ≤ 100000) (κ : ByteArray → Option R) : postbagref1_Loose64_0 (B s) κ = κ (B (b64 (vs64 s))) := by
  have key : ∀ f, 8 * s.length + 800000 < f → postbagref1_Loose64_0.e postbagref1_worth_0 postbagref1_value_oii (B s) (q3 κ f) (q7 κ f) (q12 κ f) κ = κ (B (b64 (vs64 s))) := by
    intro f hf
    refine (q3_loop s hs κ f 0 [] (by omega) (by omega) (by simp) (by simp)).trans ?_
    rw [List.drop_zero, List.nil_append, b8_64 _ (vs64_lt s)]
  exact key fuelK (by unfold fuelK; omega)
end Go.Proofs.Ab

/- Encoded words, by the document. -/
namespace Go.Proofs.Ab
set_option linter.unusedVariables false
set_option maxRecDepth 4000
open Go
variable {R : Type}
def nq (c : UInt8) : Bool := c != 63
/-- The place of the next ?, from a place on. -/
def mkI (l : List UInt8) (i : Nat) : Int := if (l.drop i).takeWhile nq = l.drop i then -1 else ((i + ((l.drop i).takeWhile nq).length : Nat) : Int)
theorem mark_loop (l : List UInt8) (hs : l.length ≤ 1000000) (κ : Int → Option R) : ∀ (f i : Nat), i ≤ l.length → l.length < i + f → postbagref5_mark_0.L1 κ f (B l) (i : Int) = κ (mkI l i)
  | 0, i, h1, h2 => by omega
  | f + 1, i, h1, h2 => by
    rw [postbagref5_mark_0.L1, postbagref5_mark_0.t1]
    simp only [size_B]
    have hw1 : IntKind.wrap .i64 ((i : Int) + 1) = ((i + 1 : Nat) : Int) := wrap_i64 (by omega) (by omega)
    unfold mkI
    cases hd : l.drop i with
    | nil =>
      have := drop_nil hd
      rw [cond_dec' (by omega)]; rfl
    | cons c r =>
      obtain ⟨g1, g2, g3⟩ := drop_get hd
      simp (disch := omega) only [cond_dec, chk_and, chk_dec, btB g1, hw1]
      rw [byteB c 63 63 rfl, List.takeWhile_cons]
      by_cases h : c = 63
      · subst h
        simp [nq]
      · have hn : nq c = true := by unfold nq; rw [bne_iff_ne]; exact h
        rw [show (c == 63) = false by simpa using h, hn]
        simp only [cond_false, if_true]
        rw [mark_loop l hs κ f (i + 1) (by omega) (by omega)]
        unfold mkI
        rw [g3]
        by_cases e : r.takeWhile nq = r
        · rw [if_pos e, if_pos (by rw [e])]
        · rw [if_neg e, if_neg (by intro h; exact e (List.cons.inj h).2), List.length_cons]
          congr 2; omega
theorem mark_eq (l : List UInt8) (hs : l.length ≤ 1000000) (i : Nat) (hi : i ≤ l.length) (κ : Int → Option R) : postbagref5_mark_0 (B l) (i : Int) κ = κ (mkI l i) := by
  have key : ∀ f, l.length < f → postbagref5_mark_0.e (B l) (i : Int) (postbagref5_mark_0.L1 κ f) κ = κ (mkI l i) :=
    fun f hf => mark_loop l hs κ f i hi (by omega)
  exact key fuelK (by unfold fuelK; omega)
theorem mkI_some {l : List UInt8} {i : Nat} (hi : i ≤ l.length) : (mkI l i = -1 ∧ l[i + ((l.drop i).takeWhile nq).length]? = none) ∨ (mkI l i = ((i + ((l.drop i).takeWhile nq).length : Nat) : Int) ∧ l[i + ((l.drop i).takeWhile nq).length]? = some 63) := by
  unfold mkI
  have hp := List.takeWhile_prefix nq (l := l.drop i)
  by_cases e : (l.drop i).takeWhile nq = l.drop i
  · rw [if_pos e]
    refine Or.inl ⟨rfl, ?_⟩
    rw [e, List.length_drop]
    exact List.getElem?_eq_none (by omega)
  · rw [if_neg e]
    refine Or.inr ⟨rfl, ?_⟩
    have hd : (l.drop i).dropWhile nq ≠ [] := by
      intro h
      have := List.takeWhile_append_dropWhile (p := nq) (l := l.drop i)
      rw [h, List.append_nil] at this
      exact e this
    obtain ⟨c, r, hcr⟩ : ∃ c r, (l.drop i).dropWhile nq = c :: r := by
      cases h : (l.drop i).dropWhile nq with
      | nil => exact absurd h hd
      | cons c r => exact ⟨c, r, rfl⟩
    have hc : nq c = false := by
      have := List.head?_dropWhile_not nq (l.drop i)
      rw [hcr] at this; simpa using this
    have hc63 : c = 63 := by unfold nq at hc; simpa using hc
    have hs : l.drop i = (l.drop i).takeWhile nq ++ c :: r := by rw [← hcr, List.takeWhile_append_dropWhile]
    have hg : (l.drop i)[((l.drop i).takeWhile nq).length]? = some c := by
      conv => lhs; rw [hs]
      rw [List.getElem?_append_right (by rw [← hs]; exact Nat.le_refl _), ← hs]
      simp
    rw [List.getElem?_drop] at hg
    rw [hg, hc63]
/-! ## The specification -/
def usA : List UInt8 := [117, 115, 45, 97, 115, 99, 105, 105]
def ut8 : List UInt8 := [117, 116, 102, 45, 56]
def iso : List UInt8 := [105, 115, 111, 45, 56, 56, 53, 57, 45, 49]
def prn (c : UInt8) : Bool := decide (33 ≤ c.toNat) && decide (c.toNat ≤ 126)
def knownCs (cs how : List UInt8) : Bool := (decide (cs = usA) || (decide (cs = ut8) || decide (cs = iso))) && (decide (how = [98]) || decide (how = [113]))
def decG (cs how q : List UInt8) : List UInt8 :=
  bif decide (cs = iso) then wideL (bif decide (how = [98]) then b64 (vs64 q) else unq q) else (bif decide (how = [98]) then b64 (vs64 q) else unq q)
def eA (l : List UInt8) : Nat := 2 + ((l.drop 2).takeWhile nq).length
def eQ (l : List UInt8) : List UInt8 := (l.drop (eA l + 3)).takeWhile nq
def eE (l : List UInt8) : Nat := eA l + 3 + (eQ l).length
def eCs (l : List UInt8) : List UInt8 := lowL ((l.take (eA l)).drop 2)
def eHow (l : List UInt8) : List UInt8 := lowL ((l.take (eA l + 2)).drop (eA l + 1))
/-- Does a text begin with an encoded word? -/
def isE (l : List UInt8) : Bool :=
  decide (l[0]? = some 61) && (decide (l[1]? = some 63) && (decide (l[eA l]? = some 63) && (decide (l[eA l + 2]? = some 63) && (decide (l[eE l]? = some 63) && (decide (l[eE l + 1]? = some 61) && ((eQ l).all prn && knownCs (eCs l) (eHow l)))))))
end Go.Proofs.Ab

/- Encoded words, by the document: the proof. -/
namespace Go.Proofs.Ab
set_option linter.unusedVariables false
set_option maxRecDepth 4000
open Go
variable {R : Type}
abbrev n19 (κ : Int → ByteArray → Option R) := postbagref5_encoded_0.L19 postbagref5_mark_0 postbagref1_Lower_0 postbagref1_Loose64_0 postbagref5_latin_0 postbagref5_quoted_0 κ
abbrev n13 (κ : Int → ByteArray → Option R) := postbagref5_encoded_0.L13 postbagref5_mark_0 postbagref1_Lower_0 postbagref1_Loose64_0 postbagref5_latin_0 postbagref5_quoted_0 κ
theorem litB (a b : List UInt8) (κ1 κ2 : Option R) : (bif decide (B a = B b) then κ1 else κ2) = bif decide (a = b) then κ1 else κ2 := by
  rw [show decide (B a = B b) = decide (a = b) from by rw [decide_eq_decide]; exact B_inj]
theorem litN (a b : List UInt8) (κ1 κ2 : Option R) : (bif !decide (B a = B b) then κ1 else κ2) = bif decide (a = b) then κ2 else κ1 := by
  rw [show decide (B a = B b) = decide (a = b) from by rw [decide_eq_decide]; exact B_inj]
  cases decide (a = b) <;> rfl
theorem b64_len : ∀ vs : List Nat, (b64 vs).length ≤ vs.length
  | [] => by simp [b64]
  | [_] => by simp [b64]
  | [_, _] => by simp [b64]
  | [_, _, _] => by simp [b64]
  | _ :: _ :: _ :: _ :: r => by have := b64_len r; simp [b64]; omega
theorem vs64_len (s : List UInt8) : (vs64 s).length ≤ s.length := by
  unfold vs64
  have h1 := List.length_filterMap_le w64 (s.takeWhile fun c => c != 61)
  have h2 := (List.takeWhile_prefix (fun c => c != 61) (l := s)).length_le
  omega
theorem n19_eq (κ : Int → ByteArray → Option R) (f e : Nat) (he : e ≤ 1000000) (cs how q : List UInt8) (hq : q.length ≤ 100000) : n19 κ (f + 1) (e : Int) (B cs) (B how) (B q) = κ ((e + 2 : Nat) : Int) (B (decG cs how q)) := by
  unfold n19
  rw [postbagref5_encoded_0.L19, postbagref5_encoded_0.t19]
  have hw : IntKind.wrap .i64 ((e : Int) + 2) = ((e + 2 : Nat) : Int) := wrap_i64 (by omega) (by omega)
  have h1 := b64_len (vs64 q)
  have h2 := vs64_len q
  have h3 := unq_len q
  rw [hw, show (⟨#[98]⟩ : ByteArray) = B [98] from rfl, show (⟨#[105, 115, 111, 45, 56, 56, 53, 57, 45, 49]⟩ : ByteArray) = B iso from rfl, rLoose_eq q hq, rUnq_eq q (by omega), rWide_eq _ (by omega), rWide_eq _ (by omega)]
  simp only [litB]
  unfold decG
  cases decide (how = [98]) <;> cases decide (cs = iso) <;> rfl
theorem n13_eq (κ : Int → ByteArray → Option R) (e : Nat) (he : e ≤ 1000000) (cs how q : List UInt8) (hq : q.length ≤ 100000) : ∀ (f i : Nat), i ≤ q.length → q.length + 1 < i + f →
    n13 κ f (e : Int) (B cs) (B how) (B q) (i : Int) = bif (q.drop i).all prn && knownCs cs how then κ ((e + 2 : Nat) : Int) (B (decG cs how q)) else κ 0 (B [])
  | 0, i, h1, h2 => by omega
  | 1, i, h1, h2 => by omega
  | f + 2, i, h1, h2 => by
    unfold n13
    rw [postbagref5_encoded_0.L13, postbagref5_encoded_0.t13]
    have hw1 : IntKind.wrap .i64 ((i : Int) + 1) = ((i + 1 : Nat) : Int) := wrap_i64 (by omega) (by omega)
    have h19 : postbagref5_encoded_0.L19 postbagref5_mark_0 postbagref1_Lower_0 postbagref1_Loose64_0 postbagref5_latin_0 postbagref5_quoted_0 κ (f + 1) (e : Int) (B cs) (B how) (B q) = κ ((e + 2 : Nat) : Int) (B (decG cs how q)) := n19_eq κ f e he cs how q hq
    rw [h19, show (⟨#[98]⟩ : ByteArray) = B [98] from rfl, show (⟨#[113]⟩ : ByteArray) = B [113] from rfl, show (⟨#[105, 115, 111, 45, 56, 56, 53, 57, 45, 49]⟩ : ByteArray) = B iso from rfl, show (⟨#[117, 116, 102, 45, 56]⟩ : ByteArray) = B ut8 from rfl, show (⟨#[117, 115, 45, 97, 115, 99, 105, 105]⟩ : ByteArray) = B usA from rfl, empty_B]
    simp only [litN, size_B]
    cases hd : q.drop i with
    | nil =>
      have := drop_nil hd
      rw [cond_dec' (by omega), List.all_nil, Bool.true_and]
      unfold knownCs
      cases decide (cs = usA) <;> cases decide (cs = ut8) <;> cases decide (cs = iso) <;> cases decide (how = [98]) <;> cases decide (how = [113]) <;> rfl
    | cons c r =>
      obtain ⟨g1, g2, g3⟩ := drop_get hd
      have hlt := byte_lt c
      simp (disch := omega) only [cond_dec, chk_and, chk_dec, btB g1, hw1]
      rw [List.all_cons]
      have ih := n13_eq κ e he cs how q hq (f + 1) (i + 1) (by omega) (by omega)
      rw [g3] at ih
      unfold prn
      by_cases p1 : 33 ≤ c.toNat
      · by_cases p2 : c.toNat ≤ 126
        · rw [cond_dec' (by omega), cond_dec' (by omega), decide_eq_true p1, decide_eq_true p2]
          exact ih
        · rw [cond_dec' (by omega), cond_dec (by omega), decide_eq_false p2, Bool.and_false]
          rfl
      · rw [cond_dec (by omega), decide_eq_false p1]
        rfl
end Go.Proofs.Ab

/- Encoded words, by the document: the whole. -/
namespace Go.Proofs.Ab
set_option linter.unusedVariables false
set_option maxRecDepth 4000
open Go
variable {R : Type}
theorem rEnc_eq (l : List UInt8) (hs : l.length ≤ 90000) (κ : Int → ByteArray → Option R) :
    postbagref5_encoded_0 (B l) κ = bif isE l then κ ((eE l + 2 : Nat) : Int) (B (decG (eCs l) (eHow l) (eQ l))) else κ 0 (B []) := by
  have key : ∀ f, l.length + 5 < f → postbagref5_encoded_0.e postbagref5_mark_0 postbagref1_Lower_0 postbagref1_Loose64_0 postbagref5_latin_0 postbagref5_quoted_0 (B l) (n13 κ f) (n19 κ f) κ = bif isE l then κ ((eE l + 2 : Nat) : Int) (B (decG (eCs l) (eHow l) (eQ l))) else κ 0 (B []) := by
    intro f hf
    unfold postbagref5_encoded_0.e
    rw [empty_B, size_B]
    have no : isE l = false → κ 0 (B []) = bif isE l then κ ((eE l + 2 : Nat) : Int) (B (decG (eCs l) (eHow l) (eQ l))) else κ 0 (B []) := by intro h; rw [h]; rfl
    by_cases h2 : l.length < 2
    · rw [cond_dec (by omega)]
      exact no (by unfold isE; rw [List.getElem?_eq_none (i := 1) (by omega)]; simp)
    · rw [cond_dec' (by omega)]
      have g0 : l[0]? = some l[0] := List.getElem?_eq_getElem (by omega)
      have g1 : l[1]? = some l[1] := List.getElem?_eq_getElem (by omega)
      have b0 : btA (B l) 0 = (l[0].toNat : Int) := btB (i := 0) g0
      have b1 : btA (B l) 1 = (l[1].toNat : Int) := btB (i := 1) g1
      rw [chk_dec (by omega), chk_dec (by omega), b0, b1, byteN _ 61 61 rfl, byteN _ 63 63 rfl]
      by_cases h0 : l[0] = 61
      · rw [show (l[0] != 61) = false by simpa using h0]
        simp only [cond_false]
        by_cases h1 : l[1] = 63
        · rw [show (l[1] != 63) = false by simpa using h1]
          simp only [cond_false]
          have hm : postbagref5_mark_0 (B l) 2 = fun κ' : Int → Option R => κ' (mkI l 2) := by
            funext κ'; exact mark_eq l (by omega) 2 (by omega) κ'
          rw [hm]
          have hle := (List.takeWhile_prefix nq (l := l.drop 2)).length_le
          rw [List.length_drop] at hle
          have ea : eA l = 2 + ((l.drop 2).takeWhile nq).length := rfl
          rcases mkI_some (l := l) (i := 2) (by omega) with ⟨m1, m2⟩ | ⟨m1, m2⟩
          · simp only [m1]
            rw [cond_dec (by omega)]
            exact no (by unfold isE; rw [ea, m2]; simp)
          · rw [← ea] at m1 m2
            have hlt := (List.getElem?_eq_some_iff.1 m2).1
            have hw1 : IntKind.wrap .i64 ((eA l : Int) + 1) = ((eA l + 1 : Nat) : Int) := wrap_i64 (by omega) (by omega)
            have hw2 : IntKind.wrap .i64 ((eA l : Int) + 2) = ((eA l + 2 : Nat) : Int) := wrap_i64 (by omega) (by omega)
            have hw3 : IntKind.wrap .i64 ((eA l : Int) + 3) = ((eA l + 3 : Nat) : Int) := wrap_i64 (by omega) (by omega)
            simp only [m1, hw1, hw2, hw3]
            rw [cond_dec' (by omega)]
            by_cases ha : eA l + 2 < l.length
            · rw [cond_dec' (by omega), chk_and, chk_dec (by omega), chk_dec (by omega)]
              have g2 : l[eA l + 2]? = some l[eA l + 2] := List.getElem?_eq_getElem ha
              rw [btB g2, byteN _ 63 63 rfl]
              by_cases h3 : l[eA l + 2] = 63
              · rw [show (l[eA l + 2] != 63) = false by simpa using h3]
                simp only [cond_false]
                rw [mark_eq l (by omega) (eA l + 3) (by omega)]
                have hle2 := (List.takeWhile_prefix nq (l := l.drop (eA l + 3))).length_le
                rw [List.length_drop] at hle2
                have ee : eE l = eA l + 3 + ((l.drop (eA l + 3)).takeWhile nq).length := rfl
                rcases mkI_some (l := l) (i := eA l + 3) (by omega) with ⟨n1, n2⟩ | ⟨n1, n2⟩
                · rw [n1, cond_dec (by omega)]
                  exact no (by unfold isE; rw [ee, n2]; simp)
                · rw [← ee] at n1 n2
                  have hlt2 := (List.getElem?_eq_some_iff.1 n2).1
                  have hv1 : IntKind.wrap .i64 ((eE l : Int) + 1) = ((eE l + 1 : Nat) : Int) := wrap_i64 (by omega) (by omega)
                  simp only [n1, hv1]
                  rw [cond_dec' (by omega)]
                  by_cases hb : eE l + 1 < l.length
                  · rw [cond_dec' (by omega), chk_and, chk_dec (by omega), chk_dec (by omega)]
                    have g3 : l[eE l + 1]? = some l[eE l + 1] := List.getElem?_eq_getElem hb
                    rw [btB g3, byteN _ 61 61 rfl]
                    by_cases h4 : l[eE l + 1] = 61
                    · rw [show (l[eE l + 1] != 61) = false by simpa using h4]
                      simp only [cond_false]
                      rw [chk_and, chk_dec (by omega), chk_dec (by omega), extract_B, rLower_eq _ (by rw [List.length_drop, List.length_take]; omega)]
                      rw [chk_and, chk_dec (by omega), chk_and, chk_dec (by omega), chk_dec (by omega), extract_B, rLower_eq _ (by rw [List.length_drop, List.length_take]; omega)]
                      rw [chk_and, chk_dec (by omega), chk_and, chk_dec (by omega), chk_dec (by omega), extract_B]
                      simp only [Int.toNat_natCast]
                      have hq : (l.take (eE l)).drop (eA l + 3) = eQ l := by
                        rw [List.drop_take]
                        have hp := List.prefix_iff_eq_take.1 (List.takeWhile_prefix nq (l := l.drop (eA l + 3)))
                        have e2 : eE l - (eA l + 3) = ((l.drop (eA l + 3)).takeWhile nq).length := by omega
                        rw [e2]; exact hp.symm
                      have hql : (eQ l).length ≤ l.length := by
                        have : (eQ l).length = ((l.drop (eA l + 3)).takeWhile nq).length := rfl
                        omega
                      rw [hq]
                      have := n13_eq κ (eE l) (by omega) (eCs l) (eHow l) (eQ l) (by omega) f 0 (by omega) (by omega)
                      refine (this : n13 κ f (eE l : Int) (B (eCs l)) (B (eHow l)) (B (eQ l)) 0 = _).trans ?_
                      rw [List.drop_zero]
                      have hE : isE l = ((eQ l).all prn && knownCs (eCs l) (eHow l)) := by
                        unfold isE
                        rw [g0, g1, m2, g2, n2, g3, h0, h1, h3, h4]
                        simp
                      rw [hE]
                    · rw [show (l[eE l + 1] != 61) = true by simpa using h4]
                      exact no (by unfold isE; rw [g3]; simp [h4])
                  · rw [cond_dec (by omega)]
                    exact no (by unfold isE; rw [List.getElem?_eq_none (i := eE l + 1) (by omega)]; simp)
              · rw [show (l[eA l + 2] != 63) = true by simpa using h3]
                exact no (by unfold isE; rw [g2]; simp [h3])
            · rw [cond_dec (by omega)]
              exact no (by unfold isE; rw [List.getElem?_eq_none (i := eA l + 2) (by omega)]; simp)
        · rw [show (l[1] != 63) = true by simpa using h1]
          exact no (by unfold isE; rw [g1]; simp [h1])
      · rw [show (l[0] != 61) = true by simpa using h0]
        exact no (by unfold isE; rw [g0]; simp [h0])
  exact key fuelK (by unfold fuelK; omega)
end Go.Proofs.Ab

/- Encoded words, by the program. -/
namespace Go.Proofs.Ab
set_option linter.unusedVariables false
set_option maxRecDepth 4000
open Go
variable {R : Type}
def isQ (c : UInt8) : Bool := prn c && nq c
theorem tq_all : ∀ m : List UInt8, (m.takeWhile nq).all prn = true → m.takeWhile isQ = m.takeWhile nq
  | [], _ => rfl
  | c :: r, h => by
    rw [List.takeWhile_cons] at h ⊢
    rw [List.takeWhile_cons]
    unfold isQ at *
    cases hn : nq c with
    | false => simp
    | true =>
      rw [hn, if_pos rfl, List.all_cons, Bool.and_eq_true] at h
      rw [h.1]
      simp only [Bool.and_self, if_true]
      rw [show (r.takeWhile fun c => prn c && nq c) = r.takeWhile nq from tq_all r h.2]
theorem tq_not : ∀ m : List UInt8, (m.takeWhile nq).all prn = false → ∃ c, m[(m.takeWhile isQ).length]? = some c ∧ c ≠ 63
  | [], h => by cases h
  | c :: r, h => by
    rw [List.takeWhile_cons] at h
    rw [List.takeWhile_cons]
    cases hn : nq c with
    | false => rw [hn] at h; simp at h
    | true =>
      have h63 : c ≠ 63 := by unfold nq at hn; simpa using hn
      rw [hn, if_pos rfl, List.all_cons] at h
      unfold isQ
      cases hp : prn c with
      | false => exact ⟨c, by simp, h63⟩
      | true =>
        rw [hp, Bool.true_and] at h
        obtain ⟨d, hd, h2⟩ := tq_not r h
        unfold isQ at hd
        refine ⟨d, ?_, h2⟩
        rw [hn]
        simpa using hd
theorem idx_mk (l : List UInt8) : (Lib.indexByte l 63 = -1 ∧ l.takeWhile nq = l) ∨ (Lib.indexByte l 63 = ((l.takeWhile nq).length : Int) ∧ l[(l.takeWhile nq).length]? = some 63) := by
  have hx := mkI_some (l := l) (i := 0) (by omega)
  unfold mkI at hx
  simp only [List.drop_zero, Nat.zero_add] at hx
  rcases hx with ⟨h1, h2⟩ | ⟨h1, h2⟩
  · by_cases e : l.takeWhile nq = l
    · refine Or.inl ⟨?_, e⟩
      by_cases hi : Lib.indexByte l 63 = -1
      · exact hi
      · exfalso
        have hge := Lib.indexByte_ge l 63
        obtain ⟨m, hm⟩ : ∃ m : Nat, Lib.indexByte l 63 = m := ⟨(Lib.indexByte l 63).toNat, by omega⟩
        have g := (Lib.indexByte_some hm).1
        have hlt := (List.getElem?_eq_some_iff.1 g).1
        obtain ⟨c, hc, hn⟩ := takeWhile_get (p := nq) (l := l) (k := m) (by rw [e]; exact hlt)
        rw [g] at hc; cases hc; cases hn
    · rw [if_neg e] at h1; omega
  · refine Or.inr ⟨indexByte_at h2 ?_, h2⟩
    intro k hk
    obtain ⟨c, hc, hn⟩ := takeWhile_get (p := nq) hk
    rw [hc]; intro e; cases e; cases hn
abbrev m14 (κ : ByteArray → Int → Option R) := letter_encoded_0.L14 strings_HasPrefix_0 strings_IndexByte_0 octet_Lower_0 octet_Loose64_0 letter_wide_0 letter_unquoted_0 κ
abbrev m12 (κ : ByteArray → Int → Option R) := letter_encoded_0.L12 strings_HasPrefix_0 strings_IndexByte_0 octet_Lower_0 octet_Loose64_0 letter_wide_0 letter_unquoted_0 κ
abbrev m9 (κ : ByteArray → Int → Option R) := letter_encoded_0.L9 strings_HasPrefix_0 strings_IndexByte_0 octet_Lower_0 octet_Loose64_0 letter_wide_0 letter_unquoted_0 κ
theorem m14_eq (κ : ByteArray → Int → Option R) (f : Nat) (l cs how : List UInt8) (hl : l.length ≤ 90000) (a e : Nat) (h1 : a ≤ e) (h2 : e ≤ l.length) : m14 κ (f + 1) (B l) (B cs) (B how) (a : Int) (e : Int) = κ (B (decG cs how ((l.take e).drop a))) ((e + 2 : Nat) : Int) := by
  unfold m14
  rw [letter_encoded_0.L14, letter_encoded_0.t14, size_B]
  have hw : IntKind.wrap .i64 ((e : Int) + 2) = ((e + 2 : Nat) : Int) := wrap_i64 (by omega) (by omega)
  rw [hw, chk_and, chk_dec (by omega), chk_and, chk_dec (by omega), chk_dec (by omega), extract_B]
  simp only [Int.toNat_natCast]
  have hq : ((l.take e).drop a).length ≤ l.length := by rw [List.length_drop, List.length_take]; omega
  generalize (l.take e).drop a = q at hq ⊢
  have h1 := b64_len (vs64 q)
  have h2 := vs64_len q
  have h3 := unq_len q
  rw [show (⟨#[98]⟩ : ByteArray) = B [98] from rfl, show (⟨#[105, 115, 111, 45, 56, 56, 53, 57, 45, 49]⟩ : ByteArray) = B iso from rfl, lLoose_eq q (by omega), lUnq_eq q (by omega), lWide_eq _ (by omega), lWide_eq _ (by omega)]
  simp only [litB]
  unfold decG
  cases decide (how = [98]) <;> cases decide (cs = iso) <;> rfl
theorem m12_eq (κ : ByteArray → Int → Option R) (f : Nat) (l cs how : List UInt8) (hl : l.length ≤ 90000) (a e : Nat) (h1 : a ≤ e) (h2 : e ≤ l.length) (k : Bool) (hk : k = (decide (cs = usA) || (decide (cs = ut8) || decide (cs = iso)))) :
    m12 κ (f + 2) (B l) (B cs) (B how) (a : Int) (e : Int) k = bif knownCs cs how && List.isPrefixOf [63, 61] (l.drop e) then κ (B (decG cs how ((l.take e).drop a))) ((e + 2 : Nat) : Int) else κ (B []) 0 := by
  unfold m12
  rw [letter_encoded_0.L12, letter_encoded_0.t12]
  have h14 : letter_encoded_0.L14 strings_HasPrefix_0 strings_IndexByte_0 octet_Lower_0 octet_Loose64_0 letter_wide_0 letter_unquoted_0 κ (f + 1) (B l) (B cs) (B how) (a : Int) (e : Int) = κ (B (decG cs how ((l.take e).drop a))) ((e + 2 : Nat) : Int) := m14_eq κ f l cs how hl a e h1 h2
  rw [h14, size_B, chk_and, chk_dec (by omega), chk_and, chk_dec (by omega), chk_dec (by omega), extract_B]
  rw [show (⟨#[98]⟩ : ByteArray) = B [98] from rfl, show (⟨#[113]⟩ : ByteArray) = B [113] from rfl, show (⟨#[63, 61]⟩ : ByteArray) = B [63, 61] from rfl, empty_B]
  simp only [Int.toNat_natCast, List.take_length, hasPrefixB, litN]
  unfold knownCs
  rw [← hk]
  cases k <;> cases decide (how = [98]) <;> cases decide (how = [113]) <;> cases List.isPrefixOf [63, 61] (l.drop e) <;> rfl
theorem m9_eq (κ : ByteArray → Int → Option R) (l cs how : List UInt8) (hl : l.length ≤ 90000) (a : Nat) : ∀ (f i : Nat), i ≤ l.length → a ≤ i → l.length + 3 < i + f →
    m9 κ f (B l) (B cs) (B how) (a : Int) (i : Int) = bif knownCs cs how && List.isPrefixOf [63, 61] (l.drop (i + ((l.drop i).takeWhile isQ).length)) then κ (B (decG cs how ((l.take (i + ((l.drop i).takeWhile isQ).length)).drop a))) ((i + ((l.drop i).takeWhile isQ).length + 2 : Nat) : Int) else κ (B []) 0
  | 0, i, h1, h2, h3 => by omega
  | 1, i, h1, h2, h3 => by omega
  | 2, i, h1, h2, h3 => by omega
  | f + 3, i, h1, h2, h3 => by
    unfold m9
    rw [letter_encoded_0.L9, letter_encoded_0.t9]
    have hw1 : IntKind.wrap .i64 ((i : Int) + 1) = ((i + 1 : Nat) : Int) := wrap_i64 (by omega) (by omega)
    rw [show (⟨#[105, 115, 111, 45, 56, 56, 53, 57, 45, 49]⟩ : ByteArray) = B iso from rfl, show (⟨#[117, 116, 102, 45, 56]⟩ : ByteArray) = B ut8 from rfl, show (⟨#[117, 115, 45, 97, 115, 99, 105, 105]⟩ : ByteArray) = B usA from rfl]
    have stop : (bif decide (B cs = B usA) then letter_encoded_0.L12 strings_HasPrefix_0 strings_IndexByte_0 octet_Lower_0 octet_Loose64_0 letter_wide_0 letter_unquoted_0 κ (f + 2) (B l) (B cs) (B how) (a : Int) (i : Int) true
        else (bif decide (B cs = B ut8) then letter_encoded_0.L12 strings_HasPrefix_0 strings_IndexByte_0 octet_Lower_0 octet_Loose64_0 letter_wide_0 letter_unquoted_0 κ (f + 2) (B l) (B cs) (B how) (a : Int) (i : Int) true
        else letter_encoded_0.L12 strings_HasPrefix_0 strings_IndexByte_0 octet_Lower_0 octet_Loose64_0 letter_wide_0 letter_unquoted_0 κ (f + 2) (B l) (B cs) (B how) (a : Int) (i : Int) (decide (B cs = B iso)))) = bif knownCs cs how && List.isPrefixOf [63, 61] (l.drop i) then κ (B (decG cs how ((l.take i).drop a))) ((i + 2 : Nat) : Int) else κ (B []) 0 := by
      have e3 : decide (B cs = B iso) = decide (cs = iso) := by rw [decide_eq_decide]; exact B_inj
      simp only [litB, e3]
      cases c1 : decide (cs = usA) with
      | true => exact m12_eq κ f l cs how hl a i h2 h1 true (by rw [c1]; rfl)
      | false =>
        cases c2 : decide (cs = ut8) with
        | true => exact m12_eq κ f l cs how hl a i h2 h1 true (by rw [c1, c2]; rfl)
        | false => exact m12_eq κ f l cs how hl a i h2 h1 _ (by rw [c1, c2]; rfl)
    rw [stop]
    simp only [size_B]
    cases hd : l.drop i with
    | nil =>
      have := drop_nil hd
      rw [cond_dec' (by omega)]
      simp only [List.takeWhile_nil, List.length_nil, Nat.add_zero]
      rw [hd]
    | cons c r =>
      obtain ⟨g1, g2, g3⟩ := drop_get hd
      simp (disch := omega) only [cond_dec, chk_and, chk_dec, btB g1, hw1]
      rw [byteN c 63 63 rfl, List.takeWhile_cons]
      have ih := m9_eq κ l cs how hl a (f + 2) (i + 1) (by omega) (by omega) (by omega)
      rw [g3] at ih
      have out : isQ c = false → (bif knownCs cs how && List.isPrefixOf [63, 61] (c :: r) then κ (B (decG cs how ((l.take i).drop a))) ((i + 2 : Nat) : Int) else κ (B []) 0) = bif knownCs cs how && List.isPrefixOf [63, 61] (l.drop (i + (if isQ c = true then c :: r.takeWhile isQ else []).length)) then κ (B (decG cs how ((l.take (i + (if isQ c = true then c :: r.takeWhile isQ else []).length)).drop a))) ((i + (if isQ c = true then c :: r.takeWhile isQ else []).length + 2 : Nat) : Int) else κ (B []) 0 := by
        intro h
        rw [if_neg (by rw [h]; simp)]
        simp only [List.length_nil, Nat.add_zero]
        rw [hd]
      by_cases p1 : 33 ≤ c.toNat
      · by_cases p2 : c.toNat ≤ 126
        · rw [cond_dec (by omega), cond_dec (by omega)]
          have hp : prn c = true := by unfold prn; rw [decide_eq_true p1, decide_eq_true p2]; rfl
          cases hn : (c != 63) with
          | true =>
            have hq : isQ c = true := by unfold isQ nq; rw [hp, hn]; rfl
            rw [if_pos hq]
            simp only [cond_true, List.length_cons]
            refine ih.trans ?_
            rw [show i + 1 + (r.takeWhile isQ).length = i + ((r.takeWhile isQ).length + 1) by omega]
          | false =>
            have hq : isQ c = false := by unfold isQ nq; rw [hp, hn]; rfl
            exact out hq
        · rw [cond_dec (by omega), cond_dec' (by omega)]
          exact out (by unfold isQ prn; rw [decide_eq_false p2]; simp)
      · rw [cond_dec' (by omega)]
        exact out (by unfold isQ prn; rw [decide_eq_false p1]; simp)
end Go.Proofs.Ab

/- Encoded words, by the program: the whole. -/
namespace Go.Proofs.Ab
set_option linter.unusedVariables false
set_option maxRecDepth 4000
open Go
variable {R : Type}
theorem dsome (x a : UInt8) : decide (some x = some a) = (a == x) := by
  rw [Bool.eq_iff_iff, decide_eq_true_eq, beq_iff_eq]
  exact ⟨fun h => (Option.some.inj h).symm, fun h => by rw [h]⟩
theorem sIB63 (l : List UInt8) (κ : Int → Option R) : strings_IndexByte_0 (B l) 63 κ = κ (Lib.indexByte l 63) := sIB_eq l 63 κ
theorem prefix2 (a b : UInt8) (l : List UInt8) : List.isPrefixOf [a, b] l = (decide (l[0]? = some a) && decide (l[1]? = some b)) := by
  match l with
  | [] => rfl
  | [x] => simp [List.isPrefixOf]
  | x :: y :: r =>
    show (a == x && (b == y && true)) = (decide (some x = some a) && decide (some y = some b))
    rw [dsome, dsome, Bool.and_true]
theorem lEnc_eq (l : List UInt8) (hs : l.length ≤ 90000) (κ : ByteArray → Int → Option R) :
    letter_encoded_0 (B l) κ = bif isE l then κ (B (decG (eCs l) (eHow l) (eQ l))) ((eE l + 2 : Nat) : Int) else κ (B []) 0 := by
  have key : ∀ f, l.length + 5 < f → letter_encoded_0.e strings_HasPrefix_0 strings_IndexByte_0 octet_Lower_0 octet_Loose64_0 letter_wide_0 letter_unquoted_0 (B l) (m9 κ f) (m12 κ f) (m14 κ f) κ = bif isE l then κ (B (decG (eCs l) (eHow l) (eQ l))) ((eE l + 2 : Nat) : Int) else κ (B []) 0 := by
    intro f hf
    unfold letter_encoded_0.e
    rw [empty_B, size_B, show (⟨#[61, 63]⟩ : ByteArray) = B [61, 63] from rfl, hasPrefixB, prefix2]
    have no : isE l = false → κ (B []) 0 = bif isE l then κ (B (decG (eCs l) (eHow l) (eQ l))) ((eE l + 2 : Nat) : Int) else κ (B []) 0 := by intro h; rw [h]; rfl
    cases c0 : decide (l[0]? = some 61) with
    | false => exact no (by unfold isE; rw [c0]; rfl)
    | true =>
      cases c1 : decide (l[1]? = some 63) with
      | false => exact no (by unfold isE; rw [c1]; simp)
      | true =>
        have g1 : l[1]? = some 63 := by simpa using c1
        have hl1 := (List.getElem?_eq_some_iff.1 g1).1
        simp only [Bool.and_self, Bool.not_true, cond_false]
        rw [chk_and, chk_dec (by omega), chk_dec (by omega), extract_B, Int.toNat_natCast, List.take_length, show ((2 : Int)).toNat = 2 from rfl, sIB63]
        have ea : eA l = 2 + ((l.drop 2).takeWhile nq).length := rfl
        have hle := (List.takeWhile_prefix nq (l := l.drop 2)).length_le
        rw [List.length_drop] at hle
        rcases idx_mk (l.drop 2) with ⟨m1, m2⟩ | ⟨m1, m2⟩
        · rw [m1]
          have hw : IntKind.wrap .i64 (-1 + 2) = 1 := by decide
          simp only [hw]
          rw [cond_dec (by omega)]
          refine no ?_
          have : l[eA l]? = none := by rw [ea, m2, List.length_drop]; exact List.getElem?_eq_none (by omega)
          unfold isE; rw [this]; simp
        · have gA : l[eA l]? = some 63 := by rw [List.getElem?_drop] at m2; exact m2
          have hA := (List.getElem?_eq_some_iff.1 gA).1
          rw [m1]
          have hw : IntKind.wrap .i64 ((((l.drop 2).takeWhile nq).length : Int) + 2) = (eA l : Int) := by rw [wrap_i64 (by omega) (by omega)]; omega
          have hw1 : IntKind.wrap .i64 ((eA l : Int) + 1) = ((eA l + 1 : Nat) : Int) := wrap_i64 (by omega) (by omega)
          have hw2 : IntKind.wrap .i64 ((eA l : Int) + 2) = ((eA l + 2 : Nat) : Int) := wrap_i64 (by omega) (by omega)
          have hw3 : IntKind.wrap .i64 ((eA l : Int) + 3) = ((eA l + 3 : Nat) : Int) := wrap_i64 (by omega) (by omega)
          simp only [hw, hw1, hw2, hw3]
          rw [cond_dec' (by omega)]
          by_cases ha : eA l + 2 < l.length
          · rw [cond_dec' (by omega), chk_and, chk_dec (by omega), chk_dec (by omega)]
            have g2 : l[eA l + 2]? = some l[eA l + 2] := List.getElem?_eq_getElem ha
            rw [btB g2, byteN _ 63 63 rfl]
            by_cases h3 : l[eA l + 2] = 63
            · rw [show (l[eA l + 2] != 63) = false by simpa using h3]
              simp only [cond_false]
              rw [chk_and, chk_dec (by omega), chk_dec (by omega), extract_B, oLower_eq _ (by rw [List.length_drop, List.length_take]; omega)]
              rw [chk_and, chk_dec (by omega), chk_and, chk_dec (by omega), chk_dec (by omega), extract_B, oLower_eq _ (by rw [List.length_drop, List.length_take]; omega)]
              simp only [Int.toNat_natCast]
              have := m9_eq κ l (eCs l) (eHow l) hs (eA l + 3) f (eA l + 3) (by omega) (by omega) (by omega)
              refine (this : m9 κ f (B l) (B (eCs l)) (B (eHow l)) ((eA l + 3 : Nat) : Int) ((eA l + 3 : Nat) : Int) = _).trans ?_
              have eq : eQ l = (l.drop (eA l + 3)).takeWhile nq := rfl
              have hE : isE l = (decide (l[eE l]? = some 63) && (decide (l[eE l + 1]? = some 61) && ((eQ l).all prn && knownCs (eCs l) (eHow l)))) := by
                unfold isE
                rw [c0, c1, gA, g2, h3]
                simp
              cases hall : (eQ l).all prn with
              | true =>
                have ht : (l.drop (eA l + 3)).takeWhile isQ = eQ l := tq_all _ hall
                rw [ht, show eA l + 3 + (eQ l).length = eE l from rfl, prefix2]
                simp only [List.getElem?_drop, Nat.add_zero]
                rw [hE, hall]
                have hq : (l.take (eE l)).drop (eA l + 3) = eQ l := by
                  rw [List.drop_take]
                  have hp := List.prefix_iff_eq_take.1 (List.takeWhile_prefix nq (l := l.drop (eA l + 3)))
                  have e2 : eE l - (eA l + 3) = ((l.drop (eA l + 3)).takeWhile nq).length := by
                    have : eE l = eA l + 3 + ((l.drop (eA l + 3)).takeWhile nq).length := rfl
                    omega
                  rw [e2]; exact hp.symm
                rw [hq]
                cases decide (l[eE l]? = some 63) <;> cases decide (l[eE l + 1]? = some 61) <;> cases knownCs (eCs l) (eHow l) <;> rfl
              | false =>
                obtain ⟨c, hc, hn⟩ := tq_not _ hall
                rw [prefix2]
                simp only [List.getElem?_drop, Nat.add_zero]
                rw [List.getElem?_drop] at hc
                rw [hc, hE, hall]
                have : decide (some c = some (63 : UInt8)) = false := by simpa using hn
                rw [this]
                simp
            · rw [show (l[eA l + 2] != 63) = true by simpa using h3]
              exact no (by unfold isE; rw [g2]; simp [h3])
          · rw [cond_dec (by omega)]
            exact no (by unfold isE; rw [List.getElem?_eq_none (i := eA l + 2) (by omega)]; simp)
  exact key fuelK (by unfold fuelK; omega)
end Go.Proofs.Ab

/- Words: both programs read alike; LetterWords. -/
namespace Go.Proofs.Ab
set_option linter.unusedVariables false
set_option maxRecDepth 4000
open Go
variable {R : Type}
theorem isE_le {v : List UInt8} (h : isE v = true) : eE v + 2 ≤ v.length := by
  unfold isE at h
  simp only [Bool.and_eq_true, decide_eq_true_eq] at h
  have := (List.getElem?_eq_some_iff.1 h.2.2.2.2.2.1).1
  omega
theorem decG_len (cs how q : List UInt8) : (decG cs how q).length ≤ 2 * q.length := by
  have h1 := b64_len (vs64 q)
  have h2 := vs64_len q
  have h3 := unq_len q
  have h4 := wideL_len (b64 (vs64 q))
  have h5 := wideL_len (unq q)
  unfold decG
  cases decide (cs = iso) <;> cases decide (how = [98]) <;> simp <;> omega
def decV (v : List UInt8) : List UInt8 := decG (eCs v) (eHow v) (eQ v)
theorem decV_len {v : List UInt8} : (decV v).length ≤ 2 * (eE v + 2) := by
  have h1 := decG_len (eCs v) (eHow v) (eQ v)
  have h2 : eE v = eA v + 3 + (eQ v).length := rfl
  unfold decV; omega
/-- What Words answers: text so far, blanks behind an encoded word, whether one stands ahead, what is left. -/
def wdG (o g : List UInt8) (b : Bool) (v : List UInt8) : List UInt8 :=
  match h : v with
  | [] => o ++ g
  | c :: r => if isE (c :: r) = true then wdG (o ++ decV (c :: r)) [] true ((c :: r).drop (eE (c :: r) + 2))
    else if (b && isBl c) = true then wdG o (g ++ [c]) b r else wdG (o ++ (g ++ [c])) [] false r
termination_by v.length
decreasing_by
  · rw [List.length_drop]; simp only [List.length_cons]; omega
  · simp
  · simp
theorem wdG_nil (o g : List UInt8) (b : Bool) : wdG o g b [] = o ++ g := by rw [wdG]
theorem wdG_cons (o g : List UInt8) (b : Bool) (c : UInt8) (r : List UInt8) : wdG o g b (c :: r) = if isE (c :: r) = true then wdG (o ++ decV (c :: r)) [] true ((c :: r).drop (eE (c :: r) + 2))
    else if (b && isBl c) = true then wdG o (g ++ [c]) b r else wdG (o ++ (g ++ [c])) [] false r := by rw [wdG]
theorem rWords_loop (κ : ByteArray → Option R) : ∀ (f : Nat) (v o g : List UInt8) (b : Bool), v.length < f → v.length ≤ 90000 → o.length + g.length + 2 * v.length ≤ 1000000 →
    postbagref5_Words_0.L4 postbagref5_encoded_0 postbagref5_blank_0 κ f (B v) (B o) (B g) b = κ (B (wdG o g b v))
  | 0, v, o, g, b, h1, h2, h3 => by omega
  | f + 1, v, o, g, b, h1, h2, h3 => by
    rw [postbagref5_Words_0.L4, postbagref5_Words_0.t4, empty_B]
    simp only [size_B]
    cases v with
    | nil =>
      rw [cond_dec' (by simp), chk_dec (by omega), append_B, wdG_nil]
    | cons c r =>
      have hl : (c :: r).length = r.length + 1 := rfl
      have b0 : btA (B (c :: r)) 0 = (c.toNat : Int) := btB (i := 0) rfl
      rw [cond_dec (by omega), rEnc_eq (c :: r) h2, wdG_cons, b0]
      have e1 : ((B (c :: r)).extract ((1 : Int)).toNat (((c :: r).length : Nat) : Int).toNat) = B r := by
        rw [extract_B, Int.toNat_natCast, List.take_length]; rfl
      have e0 : ((B (c :: r)).extract ((0 : Int)).toNat ((1 : Int)).toNat) = B [c] := by rw [extract_B]; rfl
      simp only [e1, e0, append_B, size_B, List.length_append, List.length_singleton, blank_eq]
      cases hE : isE (c :: r) with
      | true =>
        have hle := isE_le hE
        have hdl := decV_len (v := c :: r)
        have hdv : decG (eCs (c :: r)) (eHow (c :: r)) (eQ (c :: r)) = decV (c :: r) := rfl
        simp only [cond_true, if_true, hdv]
        rw [cond_dec (by omega), chk_dec (by omega), chk_and, chk_dec (by omega), chk_and, chk_dec (by omega), chk_dec (by omega), extract_B, Int.toNat_natCast, Int.toNat_natCast, List.take_length]
        rw [rWords_loop κ f _ _ [] true (by rw [List.length_drop]; omega) (by rw [List.length_drop]; omega) (by rw [List.length_append, List.length_drop]; simp; omega)]
      | false =>
        simp only [cond_false, Bool.false_eq_true, if_false]
        rw [cond_dec' (by omega)]
        have i1 := rWords_loop κ f r o (g ++ [c]) b (by omega) (by omega) (by simp; omega)
        have i2 := rWords_loop κ f r (o ++ g ++ [c]) [] false (by omega) (by omega) (by simp; omega)
        simp (disch := omega) only [chk_and, chk_dec]
        rw [i1, i2]
        cases b <;> cases isBl c <;> simp
theorem rWords_eq (v : List UInt8) (hv : v.length ≤ 90000) (κ : ByteArray → Option R) : postbagref5_Words_0 (B v) κ = κ (B (wdG [] [] false v)) := by
  have key : ∀ f, v.length < f → postbagref5_Words_0.e postbagref5_encoded_0 postbagref5_blank_0 (B v) (postbagref5_Words_0.L4 postbagref5_encoded_0 postbagref5_blank_0 κ f) κ = κ (B (wdG [] [] false v)) :=
    fun f hf => rWords_loop κ f v [] [] false hf hv (by simp; omega)
  exact key fuelK (by unfold fuelK; omega)
theorem wStrI (acc s : List UInt8) (κ : Int → List AV → Option R) (h : acc.length + s.length ≤ 1000000000) : strings_Builder_WriteString_vxfes (intsAV acc) (B s) κ = κ (s.length : Int) (intsAV (acc ++ s)) := by
  have := ints_len acc
  rw [wString_eq _ _ _ (by rw [size_B]; omega), size_B, bytesB, ints_append]
end Go.Proofs.Ab

/- LetterWords. -/
namespace Go.Proofs.Ab
set_option linter.unusedVariables false
set_option maxRecDepth 4000
open Go
variable {R : Type}
theorem lWords_loop (v : List UInt8) (hv : v.length ≤ 90000) (κ : ByteArray → Option R) : ∀ (f i a : Nat) (b : Bool) (acc : List UInt8), i ≤ v.length → v.length < i + f → a ≤ i → acc.length ≤ 3 * a →
    letter_Words_0.L5 letter_encoded_0 strings_Builder_WriteString_vxfes letter_isBlank_0 strings_Builder_String_vxfe κ f (B v) b (a : Int) (i : Int) (intsAV acc)
      = κ (B (wdG (acc ++ (bif b then [] else (v.take i).drop a)) (bif b then (v.take i).drop a else []) b (v.drop i)))
  | 0, i, a, b, acc, h1, h2, h3, h4 => by omega
  | f + 1, i, a, b, acc, h1, h2, h3, h4 => by
    rw [letter_Words_0.L5, letter_Words_0.t5]
    have hpl : ((v.take i).drop a).length ≤ v.length := by rw [List.length_drop, List.length_take]; omega
    have hw1 : IntKind.wrap .i64 ((i : Int) + 1) = ((i + 1 : Nat) : Int) := wrap_i64 (by omega) (by omega)
    simp only [size_B, extract_B, Int.toNat_natCast, List.take_length, hw1]
    cases hd : v.drop i with
    | nil =>
      have hi := drop_nil hd
      have hp : (v.take i).drop a = v.drop a := by rw [List.take_of_length_le (by omega)]
      rw [hp] at hpl ⊢
      rw [cond_dec' (by omega), chk_and, chk_dec (by omega), chk_and, chk_dec (by omega), chk_dec (by omega), wStrI _ _ _ (by omega), bString_eq, wdG_nil]
      cases b <;> simp
    | cons c r =>
      obtain ⟨g1, g2, g3⟩ := drop_get hd
      have hl : (c :: r).length = v.length - i := by rw [← hd, List.length_drop]
      have hsucc : a ≤ i → (v.take (i + 1)).drop a = (v.take i).drop a ++ [c] := by
        intro h
        rw [take_succ_get g1, List.drop_append_of_le_length (by rw [List.length_take]; omega)]
      rw [cond_dec (by omega), chk_and, chk_dec (by omega), chk_and, chk_dec (by omega), chk_dec (by omega), lEnc_eq (c :: r) (by omega), wdG_cons]
      cases hE : isE (c :: r) with
      | true =>
        have hle := isE_le hE
        have hdl := decV_len (v := c :: r)
        have hdv : decG (eCs (c :: r)) (eHow (c :: r)) (eQ (c :: r)) = decV (c :: r) := rfl
        have hwn : IntKind.wrap .i64 ((i : Int) + ((eE (c :: r) + 2 : Nat) : Int)) = ((i + (eE (c :: r) + 2) : Nat) : Int) := by rw [wrap_i64 (by omega) (by omega)]; omega
        simp only [cond_true, if_true, hdv, hwn]
        rw [cond_dec (by omega), chk_and, chk_dec (by omega), chk_and, chk_dec (by omega), chk_dec (by omega), wStrI _ _ _ (by omega)]
        have hx : (v.take (i + (eE (c :: r) + 2))).drop (i + (eE (c :: r) + 2)) = [] := List.drop_eq_nil_of_le (by rw [List.length_take]; omega)
        have hpi : ((v.take i).drop a).length ≤ i - a := by rw [List.length_drop, List.length_take]; omega
        cases b with
        | false =>
          simp only [Bool.not_false, cond_true]
          rw [wStrI _ _ _ (by simp; omega)]
          have := lWords_loop v hv κ f (i + (eE (c :: r) + 2)) (i + (eE (c :: r) + 2)) true (acc ++ (v.take i).drop a ++ decV (c :: r)) (by omega) (by omega) (by omega) (by rw [List.length_append, List.length_append]; omega)
          rw [hx, ← List.drop_drop, hd] at this
          simpa using this
        | true =>
          simp only [Bool.not_true, cond_false]
          rw [wStrI _ _ _ (by omega)]
          have := lWords_loop v hv κ f (i + (eE (c :: r) + 2)) (i + (eE (c :: r) + 2)) true (acc ++ decV (c :: r)) (by omega) (by omega) (by omega) (by rw [List.length_append]; omega)
          rw [hx, ← List.drop_drop, hd] at this
          simpa using this
      | false =>
        simp only [cond_false, Bool.false_eq_true, if_false]
        rw [cond_dec' (by omega), chk_and, chk_dec (by omega), chk_dec (by omega), btB g1, isBlank_eq, hsucc h3]
        have hpi : ((v.take i).drop a).length ≤ i - a := by rw [List.length_drop, List.length_take]; omega
        have hx : (v.take (i + 1)).drop (i + 1) = [] := List.drop_eq_nil_of_le (by rw [List.length_take]; omega)
        cases hb : isBl c with
        | true =>
          simp only [cond_true, Bool.and_true]
          have := lWords_loop v hv κ f (i + 1) a b acc (by omega) (by omega) (by omega) (by omega)
          rw [g3, hsucc h3] at this
          rw [this]
          cases b <;> simp
        | false =>
          simp only [cond_false, Bool.and_false, Bool.false_eq_true, if_false]
          rw [chk_and, chk_dec (by omega), chk_and, chk_dec (by omega), chk_dec (by omega), wStrI _ _ _ (by simp; omega)]
          have := lWords_loop v hv κ f (i + 1) (i + 1) false (acc ++ ((v.take i).drop a ++ [c])) (by omega) (by omega) (by omega) (by simp; omega)
          rw [g3, hx] at this
          rw [this]
          cases b <;> simp
theorem lWords_eq (v : List UInt8) (hv : v.length ≤ 90000) (κ : ByteArray → Option R) : letter_Words_0 (B v) κ = κ (B (wdG [] [] false v)) := by
  have key : ∀ f, v.length < f → letter_Words_0.e letter_encoded_0 strings_Builder_WriteString_vxfes letter_isBlank_0 strings_Builder_String_vxfe (B v) (letter_Words_0.L5 letter_encoded_0 strings_Builder_WriteString_vxfes letter_isBlank_0 strings_Builder_String_vxfe κ f) κ = κ (B (wdG [] [] false v)) := by
    intro f hf
    have := lWords_loop v hv κ f 0 0 false [] (by omega) (by omega) (by omega) (by simp)
    refine this.trans ?_
    simp
  exact key fuelK (by unfold fuelK; omega)
theorem letterWords_text (a b : ByteArray) (κ : Bool → Option R) : postbaglaw5_LetterWords_0 a b κ = κ true := by
  have ha := size_bl a
  have hb := size_bl b
  unfold postbaglaw5_LetterWords_0 postbaglaw5_LetterWords_0.e
  by_cases h : a.size > 40000
  · simp (disch := omega) only [cond_dec]
  · by_cases h' : b.size > 40000
    · simp (disch := omega) only [cond_dec, cond_dec']
    · simp (disch := omega) only [cond_dec']
      rw [← B_bl a, ← B_bl b]
      rw [rWords_eq _ (by omega), known_holds, lWords_eq _ (by omega)]
      simp only [cond_true, decide_true]
      rw [lWords_eq _ (by omega), rWords_eq _ (by omega)]
      simp only [cond_true, decide_true]
      rw [lWords_eq _ (by omega)]
      simp only [decide_true]
end Go.Proofs.Ab
