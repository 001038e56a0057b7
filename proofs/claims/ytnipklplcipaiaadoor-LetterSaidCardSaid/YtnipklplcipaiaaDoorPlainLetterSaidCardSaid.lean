/- The plain functions of program and document say the same (conditions: those of each lemma). -/
import Derived.Test.YtnipklplcipaiaaDoorAbB
import Derived.IntWalk
import Derived.Test.YtnipklplcipaiaaDoorText
import Derived.Lib.IndexLaws
/- Plain lemmas on the words of the typed texts: checks, numbers, bytes. -/
namespace Go.Proofs.Ab
set_option linter.unusedVariables false
set_option maxRecDepth 4000
open Go
variable {R : Type}
/-! ## Checks -/
theorem chk_dec {p : Prop} [Decidable p] {k : Option R} (h : p) : chk (decide p) k = k := by rw [decide_eq_true h]; rfl
theorem chk_and {a b : Bool} {k : Option R} : chk (a && b) k = chk a (chk b k) := by cases a <;> rfl
theorem chk_tt {k : Option R} : chk true k = k := rfl
theorem chk_ff {k : Option R} : chk false k = none := rfl
theorem cond_dec {α : Type} {p : Prop} [Decidable p] {x y : α} (h : p) : (bif decide p then x else y) = x := by rw [decide_eq_true h]; rfl
theorem cond_dec' {α : Type} {p : Prop} [Decidable p] {x y : α} (h : ¬ p) : (bif decide p then x else y) = y := by rw [decide_eq_false h]; rfl
theorem beq_pos {x y : Int} (h : x = y) : (x == y) = true := by simp [h]
theorem beq_neg {x y : Int} (h : x ≠ y) : (x == y) = false := by simp [h]
theorem bne_pos {x y : Int} (h : x ≠ y) : (x != y) = true := by simp [h]
theorem bne_neg {x y : Int} (h : x = y) : (x != y) = false := by simp [h]
/-! ## Numbers -/
theorem wrap_i64 {x : Int} (h1 : -9223372036854775808 ≤ x) (h2 : x < 9223372036854775808) : IntKind.wrap .i64 x = x := IntWalk.i64_in x ⟨h1, by omega⟩
theorem wrap_u8 {x : Int} (h1 : 0 ≤ x) (h2 : x < 256) : IntKind.wrap .u8 x = x := by rw [IntKind.wrap_u8]; omega
/-! ## Bytes -/
/-- The bytes of a text. -/
def bl (s : ByteArray) : List UInt8 := s.data.toList
/-- A text of bytes. -/
def B (l : List UInt8) : ByteArray := ⟨l.toArray⟩
theorem bl_B (l : List UInt8) : bl (B l) = l := rfl
theorem B_bl (s : ByteArray) : B (bl s) = s := rfl
theorem size_bl (s : ByteArray) : s.size = (bl s).length := by unfold bl; rw [Array.length_toList]; rfl
theorem size_B (l : List UInt8) : (B l).size = l.length := by rw [size_bl, bl_B]
theorem bl_inj {a b : ByteArray} (h : bl a = bl b) : a = b := by rw [← B_bl a, h, B_bl]
theorem B_inj {a b : List UInt8} : B a = B b ↔ a = b := ⟨fun h => by rw [← bl_B a, h, bl_B], fun h => by rw [h]⟩
theorem bl_extract (s : ByteArray) (i j : Nat) : bl (s.extract i j) = ((bl s).take j).drop i := by
  unfold bl; rw [ByteArray.data_extract, Array.toList_extract]; simp [List.extract, List.drop_take]
theorem extract_B (l : List UInt8) (i j : Nat) : (B l).extract i j = B ((l.take j).drop i) := bl_inj (by rw [bl_extract, bl_B, bl_B])
theorem bl_append (a b : ByteArray) : bl (a ++ b) = bl a ++ bl b := by unfold bl; simp
theorem append_B (a b : List UInt8) : B a ++ B b = B (a ++ b) := bl_inj (by rw [bl_append]; rfl)
theorem empty_B : (⟨#[]⟩ : ByteArray) = B [] := rfl
theorem btA_get {s : ByteArray} {i : Nat} {c : UInt8} (h : (bl s)[i]? = some c) : btA s (i : Int) = c.toNat := by
  obtain ⟨hlt, hv⟩ := List.getElem?_eq_some_iff.1 h
  have hlt' : i < s.size := by rw [size_bl]; exact hlt
  unfold btA
  simp only [Int.toNat_natCast]
  rw [dif_pos hlt']
  congr 2
theorem drop_get {α : Type} {l : List α} {i : Nat} {c : α} {r : List α} (h : l.drop i = c :: r) : l[i]? = some c ∧ i < l.length ∧ l.drop (i + 1) = r := by
  have h0 : (l.drop i)[0]? = some c := by rw [h]; rfl
  rw [List.getElem?_drop, Nat.add_zero] at h0
  refine ⟨h0, (List.getElem?_eq_some_iff.1 h0).1, ?_⟩
  rw [← List.drop_drop, h]; rfl
theorem drop_nil {α : Type} {l : List α} {i : Nat} (h : l.drop i = []) : l.length ≤ i := by simpa using h
theorem drop_lt {α : Type} {l : List α} {i : Nat} (h : i < l.length) : ∃ c r, l.drop i = c :: r := by
  cases hd : l.drop i with
  | nil => have := drop_nil hd; omega
  | cons c r => exact ⟨c, r, rfl⟩
theorem take_succ_get {α : Type} {l : List α} {i : Nat} {c : α} (h : l[i]? = some c) : l.take (i + 1) = l.take i ++ [c] := by
  rw [List.take_add_one, h]; rfl
theorem byte_beq (c d : UInt8) : ((c.toNat : Int) == (d.toNat : Int)) = (c == d) := by
  rw [Bool.eq_iff_iff]; simp only [beq_iff_eq, Int.natCast_inj, ← UInt8.toNat_inj]
theorem byte_bne (c d : UInt8) : ((c.toNat : Int) != (d.toNat : Int)) = (c != d) := by
  unfold bne; rw [byte_beq]
theorem byte_lt (c : UInt8) : c.toNat < 256 := by have := c.toNat_lt; omega
theorem nat_i {i : Nat} : ((i : Int) + 1) = ((i + 1 : Nat) : Int) := rfl
theorem index_cons (b : UInt8) (l sub : List UInt8) : Lib.index (b :: l) sub = if sub.isPrefixOf (b :: l) then 0 else if Lib.index l sub == -1 then -1 else Lib.index l sub + 1 := rfl
theorem index_room : ∀ (s sub : List UInt8), Lib.index s sub ≠ -1 → Lib.index s sub + sub.length ≤ s.length
  | [], sub, h => by
    cases sub with
    | nil => simp [Lib.index]
    | cons a t => exact absurd rfl h
  | b :: l, sub, h => by
    rw [index_cons] at h ⊢
    split at h
    · rename_i hp
      rw [if_pos hp]
      have := (List.isPrefixOf_iff_prefix.1 hp).length_le
      omega
    · rename_i hp
      rw [if_neg hp]
      split at h
      · exact absurd rfl h
      · rename_i hi
        have hi' : Lib.index l sub ≠ -1 := by simpa using hi
        have := index_room l sub hi'
        rw [if_neg hi]
        simp only [List.length_cons]; omega
/-! ## Rows -/
theorem rdA_get {l : List AV} {i : Nat} {a : AV} (h : l[i]? = some a) : rdA l (i : Int) = a := by
  unfold rdA; rw [Int.toNat_natCast, List.getD_eq_getElem?_getD, h]; rfl
theorem rdA_drop {l : List AV} {i : Nat} {a : AV} {r : List AV} (h : l.drop i = a :: r) : rdA l (i : Int) = a := rdA_get (drop_get h).1
end Go.Proofs.Ab

/- Bytes, rows and small functions of Go's library; the law's check that the program works at all. -/
namespace Go.Proofs.Ab
set_option linter.unusedVariables false
set_option maxRecDepth 4000
open Go
variable {R : Type}
theorem btB {l : List UInt8} {i : Nat} {c : UInt8} (h : l[i]? = some c) : btA (B l) (i : Int) = c.toNat := btA_get (s := B l) h
theorem byteB (c : UInt8) (d : UInt8) (x : Int) (h : x = (d.toNat : Int)) : ((c.toNat : Int) == x) = (c == d) := by rw [h, byte_beq]
theorem byteN (c : UInt8) (d : UInt8) (x : Int) (h : x = (d.toNat : Int)) : ((c.toNat : Int) != x) = (c != d) := by rw [h, byte_bne]
/-- Lists of lines as rows. -/
def rowsS (l : List (List UInt8)) : List AV := l.map fun x => .str (B x)
theorem rowsS_len (l : List (List UInt8)) : (rowsS l).length = l.length := by unfold rowsS; simp
theorem rowsS_append (l m : List (List UInt8)) : rowsS (l ++ m) = rowsS l ++ rowsS m := by unfold rowsS; simp

theorem rdA_rows {l : List (List UInt8)} {i : Nat} {x : List UInt8} (h : l[i]? = some x) : (rdA (rowsS l) (i : Int)).s = B x := by
  rw [rdA_get (a := .str (B x)) (by unfold rowsS; rw [List.getElem?_map, h]; rfl)]; rfl
theorem rdA_last (xs : List AV) (a : AV) : rdA (xs ++ [a]) (xs.length : Int) = a := rdA_get (by simp)
theorem rdA_at (xs : List AV) (a : AV) (r : List AV) (n : Nat) (h : xs.length = n) : rdA (xs ++ a :: r) (n : Int) = a := rdA_get (by subst h; simp)
theorem setA_at (xs : List AV) (a b : AV) (r : List AV) (n : Nat) (h : xs.length = n) : setA (xs ++ a :: r) (n : Int) b = xs ++ b :: r := by
  subst h; unfold setA; simp
theorem prefix_take {l p : List UInt8} : p.isPrefixOf l = decide (l.take p.length = p) := by
  rw [Bool.eq_iff_iff, List.isPrefixOf_iff_prefix, List.prefix_iff_eq_take, decide_eq_true_eq, eq_comm]
theorem hasPrefix_eq (a : ByteArray) (p : List UInt8) (κ : Bool → Option R) : strings_HasPrefix_0 a (B p) κ = κ (p.isPrefixOf (bl a)) := by
  have hsz := size_bl a
  unfold strings_HasPrefix_0 strings_HasPrefix_0.e stringslite_HasPrefix_0 stringslite_HasPrefix_0.e
  simp only [size_B]
  by_cases h : p.length ≤ (bl a).length
  · simp (disch := omega) only [cond_dec, chk_and, chk_dec]
    congr 1
    rw [prefix_take]
    congr 1
    rw [← B_bl (a.extract _ _), bl_extract, B_inj]
    simp
  · simp (disch := omega) only [cond_dec']
    congr 1
    rw [prefix_take]
    symm; rw [decide_eq_false_iff_not]
    intro e; have := congrArg List.length e; simp at this; omega
theorem index_eq (l p : List UInt8) (hs : l.length ≤ 1000000) (κ : Int → Option R) : strings_Index_0 (B l) (B p) κ = κ (Lib.index l p) := by
  unfold strings_Index_0 strings_Index_0.e stringslite_Index_0
  have := size_B l
  simp (disch := omega) only [chk_dec]
  rfl
theorem hasPrefixB (l p : List UInt8) (κ : Bool → Option R) : strings_HasPrefix_0 (B l) (B p) κ = κ (p.isPrefixOf l) := hasPrefix_eq (B l) p κ
theorem takeWhile_get {p : UInt8 → Bool} {l : List UInt8} {k : Nat} (h : k < (l.takeWhile p).length) : ∃ c, l[k]? = some c ∧ p c = true := by
  obtain ⟨t, ht⟩ := List.takeWhile_prefix p (l := l)
  refine ⟨(l.takeWhile p)[k], ?_, List.all_eq_true.1 List.all_takeWhile _ (List.getElem_mem h)⟩
  have := List.getElem?_append_left (l₂ := t) h
  rw [ht] at this
  rw [this, List.getElem?_eq_getElem h]
theorem known_holds (κ : Bool → Option R) : postbaglaw5_known_0 κ = κ true := by kernel_rfl
theorem indexByte_at {l : List UInt8} {c : UInt8} {o : Nat} (h : l[o]? = some c) (hn : ∀ k, k < o → l[k]? ≠ some c) : Lib.indexByte l c = o := by
  have hge := Lib.indexByte_ge l c
  by_cases e : Lib.indexByte l c = -1
  · exact absurd h (Lib.indexByte_none e o)
  · obtain ⟨m, hm⟩ : ∃ m : Nat, Lib.indexByte l c = m := ⟨(Lib.indexByte l c).toNat, by omega⟩
    obtain ⟨h1, h2⟩ := Lib.indexByte_some hm
    rcases Nat.lt_trichotomy m o with hlt | heq | hgt
    · exact absurd h1 (hn m hlt)
    · rw [hm, heq]
    · exact absurd h (h2 o hgt)
theorem dw_nil {p : UInt8 → Bool} : ∀ {l : List UInt8}, l.dropWhile p = [] ↔ ∀ a ∈ l, p a = true
  | [] => by simp
  | c :: r => by
    rw [List.dropWhile_cons]
    cases h : p c with
    | true => simp [h, dw_nil (l := r)]
    | false => simp [h]
end Go.Proofs.Ab

/- Bytes as cells; strings.Builder. -/
namespace Go.Proofs.Ab
set_option linter.unusedVariables false
set_option maxRecDepth 4000
open Go
variable {R : Type}
theorem all_bytes {p : UInt8 → Bool} (h : (List.range 256).all (fun n => p (UInt8.ofNat n)) = true) (c : UInt8) : p c = true := by
  have := List.all_eq_true.1 h c.toNat (List.mem_range.2 (byte_lt c))
  rwa [UInt8.ofNat_toNat] at this
theorem sIB_eq (l : List UInt8) (c : UInt8) (κ : Int → Option R) : strings_IndexByte_0 (B l) (c.toNat : Int) κ = κ (Lib.indexByte l c) := by
  show κ (Lib.indexByte l ((c.toNat : Int).toNat.toUInt8)) = _
  rw [Int.toNat_natCast]
  show κ (Lib.indexByte l (UInt8.ofNat c.toNat)) = _
  rw [UInt8.ofNat_toNat]
/-- A text's bytes as cells. -/
def intsAV (t : List UInt8) : List AV := t.map fun b => AV.int (b.toNat : Int)
theorem ints_len (t : List UInt8) : (intsAV t).length = t.length := by unfold intsAV; simp
theorem ints_append (t u : List UInt8) : intsAV t ++ intsAV u = intsAV (t ++ u) := by unfold intsAV; simp
theorem ints_snoc (t : List UInt8) (c : UInt8) : intsAV t ++ [AV.int (c.toNat : Int)] = intsAV (t ++ [c]) := ints_append t [c]
theorem strAV_ints (t : List UInt8) : strAV (intsAV t) = B t := by
  unfold strAV intsAV B
  congr 2
  rw [List.map_map]
  conv => rhs; rw [← List.map_id t]
  apply List.map_congr_left
  intro b hb
  show UInt8.ofNat ((b.toNat : Int).toNat) = b
  rw [Int.toNat_natCast, UInt8.ofNat_toNat]
theorem ints_ok (t : List UInt8) : List.all (intsAV t) byteOk = true := by
  unfold intsAV
  rw [List.all_map, List.all_eq_true]
  intro b hb
  have := byte_lt b
  show byteOk (AV.int (b.toNat : Int)) = true
  unfold byteOk
  show (decide (0 ≤ (b.toNat : Int)) && decide ((b.toNat : Int) < 256)) = true
  rw [decide_eq_true (by omega), decide_eq_true (by omega)]; rfl
theorem bytesB' (t : List UInt8) : bytesAV (B t) = intsAV t := rfl
theorem wByte_eq (l : List AV) (a : Int) (κ : List AV → Option R) (h : l.length ≤ 1000000000) : strings_Builder_WriteByte_vxfei l a κ = κ (l ++ [AV.int a]) := by
  show chk (decide ((l.length + 1) * 1 ≤ 140737488355328)) (κ (l ++ [AV.int a])) = _
  rw [chk_dec (by omega)]
theorem bString_eq (t : List UInt8) (κ : ByteArray → Option R) : strings_Builder_String_vxfe (intsAV t) κ = κ (B t) := by
  unfold strings_Builder_String_vxfe strings_Builder_String_vxfe.e
  rw [chk_dec rfl, ints_ok, strAV_ints]; rfl
theorem bytesB (t : List UInt8) : bytesAV (B t) = intsAV t := rfl
theorem wString_eq (l : List AV) (s : ByteArray) (κ : Int → List AV → Option R) (h : l.length + s.size ≤ 1000000000) : strings_Builder_WriteString_vxfes l s κ = κ (s.size : Int) (l ++ bytesAV s) := by
  show chk (decide ((l.length + (bytesAV s).length) * 1 ≤ 140737488355328)) (κ (s.size : Int) (l ++ bytesAV s)) = _
  have : (bytesAV s).length = s.size := by unfold bytesAV; simp
  rw [chk_dec (by omega)]
end Go.Proofs.Ab

/- The pieces of addresses and ids: both programs cut alike. -/
namespace Go.Proofs.Ab
set_option linter.unusedVariables false
set_option maxRecDepth 4000
open Go
variable {R : Type}
def isSp (c : UInt8) : Bool := c == 32 || (c == 9 || (c == 13 || c == 10))
def isSg (c : UInt8) : Bool := [60, 62, 58, 59, 64, 44, 46].contains c
def isAt (c : UInt8) : Bool := !isSp c && (!isSg c && ![40, 41, 91, 93, 92, 34].contains c)
theorem lSpace_eq (c : UInt8) (κ : Bool → Option R) : letter_isSpace_0 (c.toNat : Int) κ = κ (isSp c) := by
  unfold letter_isSpace_0 letter_isSpace_0.e isSp
  rw [byteB c 32 32 rfl, byteB c 9 9 rfl, byteB c 13 13 rfl, byteB c 10 10 rfl]
  cases (c == 32) <;> cases (c == 9) <;> cases (c == 13) <;> rfl
theorem sg_index (c : UInt8) : decide (Lib.indexByte [60, 62, 58, 59, 64, 44, 46] c ≥ 0) = isSg c := by
  have := all_bytes (p := fun c => decide (Lib.indexByte [60, 62, 58, 59, 64, 44, 46] c ≥ 0) == isSg c) (by kernel_rfl) c
  simpa using this
theorem at_index (c : UInt8) : decide (Lib.indexByte [40, 41, 91, 93, 92, 34] c < 0) = ![40, 41, 91, 93, 92, 34].contains c := by
  have := all_bytes (p := fun c => decide (Lib.indexByte [40, 41, 91, 93, 92, 34] c < 0) == ![40, 41, 91, 93, 92, 34].contains c) (by kernel_rfl) c
  simpa using this
theorem lSign_eq (c : UInt8) (κ : Bool → Option R) : letter_isSign_0 (c.toNat : Int) κ = κ (isSg c) := by
  unfold letter_isSign_0 letter_isSign_0.e
  rw [show (⟨#[60, 62, 58, 59, 64, 44, 46]⟩ : ByteArray) = B [60, 62, 58, 59, 64, 44, 46] from rfl, sIB_eq, sg_index]
theorem lAtom_eq (c : UInt8) (κ : Bool → Option R) : letter_isAtom_0 (c.toNat : Int) κ = κ (isAt c) := by
  unfold letter_isAtom_0 letter_isAtom_0.e
  rw [show (⟨#[40, 41, 91, 93, 92, 34]⟩ : ByteArray) = B [40, 41, 91, 93, 92, 34] from rfl]
  simp only [lSpace_eq, lSign_eq, sIB_eq, at_index]
  unfold isAt
  cases isSp c <;> cases isSg c <;> rfl
/-! ## Comments -/
/-- How long a comment is. -/
def cm : Nat → List UInt8 → Nat
  | _, [] => 0
  | d, 92 :: r => (match r with | [] => 1 | _ :: r => 2 + cm d r)
  | d, c :: r => if c = 40 then 1 + cm (d + 1) r else if c = 41 then (if d = 1 then 1 else 1 + cm (d - 1) r) else 1 + cm d r
theorem cm_le : ∀ (d : Nat) (l : List UInt8), cm d l ≤ l.length := by
  intro d l
  fun_induction cm d l with
  | case1 => simp
  | case2 => simp
  | case3 => simp; omega
  | case4 => simp; omega
  | case5 => simp
  | case6 => simp; omega
  | case7 => simp; omega
theorem min2_le {a b : Int} (h : a ≤ b) : min2 a b = a := by unfold min2; rw [cond_dec' (by omega)]
theorem min2_ge {a b : Int} (h : b ≤ a) : min2 a b = b := by
  unfold min2
  by_cases e : b < a
  · rw [cond_dec e]
  · rw [cond_dec' e]; omega
theorem cm_bs0 (d : Nat) : cm d [92] = 1 := by rw [cm]
theorem cm_bs (d : Nat) (c : UInt8) (r : List UInt8) : cm d (92 :: c :: r) = 2 + cm d r := by rw [cm]
theorem cm_else (d : Nat) (c : UInt8) (r : List UInt8) (h : c ≠ 92) : cm d (c :: r) = if c = 40 then 1 + cm (d + 1) r else if c = 41 then (if d = 1 then 1 else 1 + cm (d - 1) r) else 1 + cm d r := by rw [cm]; exact h
theorem lComment_loop (s : List UInt8) (hs : s.length ≤ 1000000) (κ : ByteArray → Int → Option R) : ∀ (f i d : Nat), i ≤ s.length + 1 → s.length + 1 < i + f → (d = 0 → s[i]? = some 40) → d ≤ i →
    letter_cursor_comment_vsie.L1 κ f (d : Int) (B s) (i : Int) = κ (B s) ((min (i + cm d (s.drop i)) s.length : Nat) : Int)
  | 0, i, d, h1, h2, h3, h4 => by omega
  | f + 1, i, d, h1, h2, h3, h4 => by
    rw [letter_cursor_comment_vsie.L1, letter_cursor_comment_vsie.t1]
    simp only [size_B]
    have hw1 : IntKind.wrap .i64 ((i : Int) + 1) = ((i + 1 : Nat) : Int) := wrap_i64 (by omega) (by omega)
    have hw2 : IntKind.wrap .i64 (((i + 1 : Nat) : Int) + 1) = ((i + 2 : Nat) : Int) := wrap_i64 (by omega) (by omega)
    have hwd : IntKind.wrap .i64 ((d : Int) + 1) = ((d + 1 : Nat) : Int) := wrap_i64 (by omega) (by omega)
    cases hd : s.drop i with
    | nil =>
      have := drop_nil hd
      simp (disch := omega) only [cond_dec', min2_ge]
      rw [cm]; congr 2; omega
    | cons b r =>
      obtain ⟨g1, g2, g3⟩ := drop_get hd
      simp (disch := omega) only [cond_dec, chk_and, chk_dec, btB g1]
      rw [byteB b 40 40 rfl, byteB b 41 41 rfl, byteB b 92 92 rfl]
      simp only [hw1, hw2, hwd]
      have hr : r.length = s.length - (i + 1) := by rw [← g3, List.length_drop]
      by_cases e1 : b = 40
      · subst e1
        rw [cm_else _ _ _ (by decide), if_pos rfl]
        simp only [BEq.rfl, cond_true]
        rw [beq_neg (by omega)]
        simp only [cond_false]
        rw [lComment_loop s hs κ f (i + 1) (d + 1) (by omega) (by omega) (by omega) (by omega), g3]
        congr 2; omega
      · have hd0 : d ≠ 0 := by intro e; have := h3 e; rw [g1] at this; cases this; exact e1 rfl
        rw [show (b == 40) = false by simpa using e1]
        simp only [cond_false]
        by_cases e2 : b = 41
        · subst e2
          rw [cm_else _ _ _ (by decide), if_neg (by decide), if_pos rfl]
          have hwm : IntKind.wrap .i64 ((d : Int) - 1) = ((d - 1 : Nat) : Int) := by rw [wrap_i64 (by omega) (by omega)]; omega
          simp only [BEq.rfl, cond_true, hwm]
          by_cases e3 : d = 1
          · subst e3
            rw [if_pos rfl, beq_pos (by rfl)]
            simp (disch := omega) only [cond_true, min2_le]
            congr 2; omega
          · rw [if_neg e3, beq_neg (by omega)]
            simp only [cond_false]
            rw [lComment_loop s hs κ f (i + 1) (d - 1) (by omega) (by omega) (by omega) (by omega), g3]
            congr 2; omega
        · rw [show (b == 41) = false by simpa using e2]
          simp only [cond_false]
          have hdz : ((d : Int) == 0) = false := beq_neg (by omega)
          rw [hdz]
          by_cases e4 : b = 92
          · subst e4
            simp only [BEq.rfl, cond_true, cond_false]
            rw [lComment_loop s hs κ f (i + 2) d (by omega) (by omega) (by omega) (by omega)]
            cases r with
            | nil =>
              simp at hr
              rw [cm_bs0, List.drop_eq_nil_of_le (by omega)]
              rw [cm]; congr 2; omega
            | cons c r' =>
              obtain ⟨k1, k2, k3⟩ := drop_get g3
              rw [cm_bs, k3]; congr 2; omega
          · rw [show (b == 92) = false by simpa using e4]
            simp only [cond_false]
            rw [lComment_loop s hs κ f (i + 1) d (by omega) (by omega) (by omega) (by omega), g3, cm_else _ _ _ e4, if_neg e1, if_neg e2]
            congr 2; omega
end Go.Proofs.Ab

/- Quoted texts, hosts, pieces. -/
namespace Go.Proofs.Ab
set_option linter.unusedVariables false
set_option maxRecDepth 4000
open Go
variable {R : Type}
/-! ## Quoted texts -/
/-- Behind an opening quote: the text, and how many bytes go, the closing quote with them. -/
def qt : List UInt8 → List UInt8 × Nat
  | [] => ([], 0)
  | 92 :: r => (match r with | [] => ([], 1) | c :: r => (c :: (qt r).1, 2 + (qt r).2))
  | c :: r => if c = 34 then ([], 1) else (c :: (qt r).1, 1 + (qt r).2)
theorem qt_bs (c : UInt8) (r : List UInt8) : qt (92 :: c :: r) = (c :: (qt r).1, 2 + (qt r).2) := by rw [qt]
theorem qt_bs0 : qt [92] = ([], 1) := by rw [qt]
theorem qt_else (c : UInt8) (r : List UInt8) (h : c ≠ 92) : qt (c :: r) = if c = 34 then ([], 1) else (c :: (qt r).1, 1 + (qt r).2) := by rw [qt]; exact h
theorem qt_le : ∀ l : List UInt8, (qt l).2 ≤ l.length ∧ (qt l).1.length ≤ l.length := by
  intro l
  fun_induction qt l with
  | case1 => simp
  | case2 => simp
  | case3 => simp; omega
  | case4 => simp
  | case5 => simp; omega
theorem lQuotes_loop (s : List UInt8) (hs : s.length ≤ 1000000) (κ : ByteArray → ByteArray → Int → Option R) : ∀ (f i : Nat) (acc : List UInt8), i ≤ s.length → s.length < i + f → acc.length ≤ i →
    letter_cursor_quotes_vsie.L3 strings_Builder_WriteByte_vxfei strings_Builder_String_vxfe κ f (B s) (i : Int) (intsAV acc) = κ (B (acc ++ (qt (s.drop i)).1)) (B s) ((i + (qt (s.drop i)).2 : Nat) : Int)
  | 0, i, acc, h1, h2, h3 => by omega
  | f + 1, i, acc, h1, h2, h3 => by
    rw [letter_cursor_quotes_vsie.L3, letter_cursor_quotes_vsie.t3]
    simp only [size_B, bString_eq]
    have hal := ints_len acc
    have hw1 : IntKind.wrap .i64 ((i : Int) + 1) = ((i + 1 : Nat) : Int) := wrap_i64 (by omega) (by omega)
    have hw2 : IntKind.wrap .i64 (((i + 1 : Nat) : Int) + 1) = ((i + 2 : Nat) : Int) := wrap_i64 (by omega) (by omega)
    cases hd : s.drop i with
    | nil =>
      have := drop_nil hd
      simp only [hw1]
      simp (disch := omega) only [cond_dec', min2_ge]
      rw [qt]; simp; congr 1; omega
    | cons b r =>
      obtain ⟨g1, g2, g3⟩ := drop_get hd
      simp only [hw1, hw2]
      simp (disch := omega) only [cond_dec, chk_and, chk_dec, btB g1, wByte_eq]
      rw [byteN b 34 34 rfl, byteB b 92 92 rfl, ints_snoc]
      have hr : r.length = s.length - (i + 1) := by rw [← g3, List.length_drop]
      by_cases e1 : b = 34
      · subst e1
        rw [qt_else _ _ (by decide), if_pos rfl]
        simp only [bne_self_eq_false, cond_false, List.append_nil]
        rw [min2_le (by omega)]
      · rw [show (b != 34) = true by simpa using e1]
        simp only [cond_true]
        by_cases e2 : b = 92
        · subst e2
          simp only [BEq.rfl, cond_true]
          cases r with
          | nil =>
            simp at hr
            rw [cond_dec' (by omega), lQuotes_loop s hs κ f (i + 1) acc (by omega) (by omega) (by omega), g3, qt_bs0, qt]; rfl
          | cons c r' =>
            obtain ⟨k1, k2, k3⟩ := drop_get g3
            rw [cond_dec (by omega), btB k1]
            simp (disch := omega) only [chk_dec]
            rw [ints_snoc, lQuotes_loop s hs κ f (i + 2) (acc ++ [c]) (by omega) (by omega) (by simp; omega), k3, qt_bs]
            simp only [List.append_assoc, List.singleton_append]
            congr 2; omega
        · rw [show (b == 92) = false by simpa using e2]
          simp only [cond_false]
          rw [lQuotes_loop s hs κ f (i + 1) (acc ++ [b]) (by omega) (by omega) (by simp; omega), g3, qt_else _ _ e2, if_neg e1]
          simp only [List.append_assoc, List.singleton_append]
          congr 2; omega
end Go.Proofs.Ab

/- Hosts; the next piece; all pieces. -/
namespace Go.Proofs.Ab
set_option linter.unusedVariables false
set_option maxRecDepth 4000
open Go
variable {R : Type}
/-- How many bytes a literal host has up to its end, the end with it. -/
def hE : List UInt8 → Option Nat
  | [] => none
  | 92 :: r => (match r with | [] => none | _ :: r => (hE r).map (2 + ·))
  | c :: r => if c = 93 then some 1 else (hE r).map (1 + ·)
theorem hE_bs (c : UInt8) (r : List UInt8) : hE (92 :: c :: r) = (hE r).map (2 + ·) := by rw [hE]
theorem hE_bs0 : hE [92] = none := by rw [hE]
theorem hE_else (c : UInt8) (r : List UInt8) (h : c ≠ 92) : hE (c :: r) = if c = 93 then some 1 else (hE r).map (1 + ·) := by rw [hE]; exact h
theorem hE_le : ∀ (l : List UInt8) (n : Nat), hE l = some n → 1 ≤ n ∧ n ≤ l.length := by
  intro l
  fun_induction hE l with
  | case1 => intro n h; cases h
  | case2 => intro n h; cases h
  | case3 _ r ih =>
    intro n h
    cases hr : hE r with
    | none => rw [hr] at h; cases h
    | some m => rw [hr] at h; cases h; have := ih m hr; simp; omega
  | case4 c r => intro n h; cases h; simp
  | case5 _ r _ _ ih =>
    intro n h
    cases hr : hE r with
    | none => rw [hr] at h; cases h
    | some m => rw [hr] at h; cases h; have := ih m hr; simp; omega
def hEnd (s : List UInt8) (i : Nat) : Nat := match hE (s.drop i) with | some n => i + n | none => s.length
theorem hEnd_some {s : List UInt8} {i n : Nat} (h : hE (s.drop i) = some n) : hEnd s i = i + n := by unfold hEnd; rw [h]
theorem hEnd_none {s : List UInt8} {i : Nat} (h : hE (s.drop i) = none) : hEnd s i = s.length := by unfold hEnd; rw [h]
theorem lHost_loop (s : List UInt8) (hs : s.length ≤ 1000000) (κ : ByteArray → ByteArray → Int → Option R) (a : Nat) (ha : a ≤ s.length) : ∀ (f i : Nat), i ≤ s.length + 1 → s.length + 1 < i + f → a ≤ i →
    letter_cursor_host_vsie.L2 κ f (a : Int) (B s) (i : Int) = κ (B ((s.take (hEnd s i)).drop a)) (B s) (hEnd s i : Int)
  | 0, i, h1, h2, h3 => by omega
  | f + 1, i, h1, h2, h3 => by
    rw [letter_cursor_host_vsie.L2, letter_cursor_host_vsie.t2]
    simp only [size_B]
    have hw1 : IntKind.wrap .i64 ((i : Int) + 1) = ((i + 1 : Nat) : Int) := wrap_i64 (by omega) (by omega)
    have hw2 : IntKind.wrap .i64 (((i + 1 : Nat) : Int) + 1) = ((i + 2 : Nat) : Int) := wrap_i64 (by omega) (by omega)
    simp only [hw1, hw2]
    cases hd : s.drop i with
    | nil =>
      have := drop_nil hd
      rw [min2_ge (by omega)]
      simp (disch := omega) only [cond_dec', chk_and, chk_dec]
      rw [hEnd_none (by rw [hd]; rfl), extract_B]; rfl
    | cons b r =>
      obtain ⟨g1, g2, g3⟩ := drop_get hd
      rw [min2_le (by omega)]
      simp (disch := omega) only [cond_dec, chk_and, chk_dec, btB g1]
      rw [byteN b 93 93 rfl, byteB b 92 92 rfl]
      have hr : r.length = s.length - (i + 1) := by rw [← g3, List.length_drop]
      by_cases e1 : b = 93
      · subst e1
        simp only [bne_self_eq_false, cond_false]
        rw [hEnd_some (n := 1) (by rw [hd, hE_else _ _ (by decide), if_pos rfl]), extract_B]; rfl
      · rw [show (b != 93) = true by simpa using e1]
        simp only [cond_true]
        by_cases e2 : b = 92
        · subst e2
          simp only [BEq.rfl, cond_true]
          rw [lHost_loop s hs κ a ha f (i + 2) (by omega) (by omega) (by omega)]
          have : hEnd s (i + 2) = hEnd s i := by
            cases r with
            | nil =>
              simp at hr
              rw [hEnd_none (i := i) (by rw [hd, hE_bs0]), hEnd_none (by rw [List.drop_eq_nil_of_le (by omega)]; rfl)]
            | cons c r' =>
              obtain ⟨k1, k2, k3⟩ := drop_get g3
              cases hh : hE r' with
              | none => rw [hEnd_none (i := i) (by rw [hd, hE_bs, hh]; rfl), hEnd_none (by rw [k3, hh])]
              | some m => rw [hEnd_some (i := i) (n := 2 + m) (by rw [hd, hE_bs, hh]; rfl), hEnd_some (n := m) (by rw [k3, hh])]; omega
          rw [this]
        · rw [show (b == 92) = false by simpa using e2]
          simp only [cond_false]
          rw [lHost_loop s hs κ a ha f (i + 1) (by omega) (by omega) (by omega)]
          have : hEnd s (i + 1) = hEnd s i := by
            cases hh : hE r with
            | none => rw [hEnd_none (i := i) (by rw [hd, hE_else _ _ e2, if_neg e1, hh]; rfl), hEnd_none (by rw [g3, hh])]
            | some m => rw [hEnd_some (i := i) (n := 1 + m) (by rw [hd, hE_else _ _ e2, if_neg e1, hh]; rfl), hEnd_some (n := m) (by rw [g3, hh])]; omega
          rw [this]
/-- What the document's between answers for a literal host. -/
def btK (s acc : List UInt8) (i : Nat) (κ : ByteArray → Int → Option R) : Option R :=
  match hE (s.drop i) with
  | some n => κ (B (acc ++ (s.drop i).take (n - 1))) ((i + n : Nat) : Int)
  | none => κ (B (acc ++ s.drop i)) ((s.length + 1 : Nat) : Int)
end Go.Proofs.Ab

/- The next piece; all pieces. -/
namespace Go.Proofs.Ab
set_option linter.unusedVariables false
set_option maxRecDepth 4000
open Go
variable {R : Type}
def n91 (l : List UInt8) : Nat := match hE l with | some n => n | none => l.length
theorem n91_le (l : List UInt8) : n91 l ≤ l.length := by
  unfold n91
  split
  · rename_i n h; exact (hE_le l n h).2
  · omega
theorem n91_pos (l : List UInt8) (h : l ≠ []) : 1 ≤ n91 l := by
  unfold n91
  split
  · rename_i n e; exact (hE_le l n e).1
  · cases l with
    | nil => exact absurd rfl h
    | cons c r => simp
theorem hEnd_n91 (s : List UInt8) (i : Nat) (h : i ≤ s.length) : hEnd s i = i + n91 (s.drop i) := by
  unfold hEnd n91
  cases hE (s.drop i) with
  | some n => rfl
  | none => show s.length = i + (s.drop i).length; rw [List.length_drop]; omega
/-- The next piece of a text: its kind, what it says, how long it is. -/
def nextP : List UInt8 → Nat × List UInt8 × Nat
  | [] => (0, [], 0)
  | c :: r => if c = 40 then (0, [], cm 0 (c :: r)) else if c = 34 then (1, (qt r).1, 1 + (qt r).2) else if c = 91 then (2, (c :: r).take (n91 (c :: r)), n91 (c :: r))
    else if isSg c = true then (3, [c], 1) else if isAt c = true then (4, (c :: r).takeWhile isAt, ((c :: r).takeWhile isAt).length) else (0, [], 1)
theorem nextP_le (c : UInt8) (r : List UInt8) : 1 ≤ (nextP (c :: r)).2.2 ∧ (nextP (c :: r)).2.2 ≤ (c :: r).length := by
  rw [nextP]
  have h1 := cm_le 0 (c :: r)
  have h2 := (qt_le r).1
  have h3 := n91_le (c :: r)
  have h4 := n91_pos (c :: r) (by simp)
  split
  · rename_i e; subst e
    refine ⟨?_, h1⟩
    show 1 ≤ cm 0 (40 :: r)
    rw [cm_else _ _ _ (by decide), if_pos rfl]; omega
  · split
    · simp; omega
    · split
      · exact ⟨h4, h3⟩
      · split
        · simp
        · split
          · rename_i e
            refine ⟨?_, (List.takeWhile_prefix isAt (l := c :: r)).length_le⟩
            show 1 ≤ (List.takeWhile isAt (c :: r)).length
            rw [List.takeWhile_cons, e]; simp
          · simp
/-- All pieces. -/
def pcs (l : List UInt8) : List (Nat × List UInt8) :=
  match h : l with
  | [] => []
  | c :: r => ((nextP (c :: r)).1, (nextP (c :: r)).2.1) :: pcs ((c :: r).drop (nextP (c :: r)).2.2)
termination_by l.length
decreasing_by
  have := nextP_le c r
  rw [List.length_drop]; simp only [List.length_cons] at this ⊢; omega
theorem pcs_nil : pcs [] = [] := by rw [pcs]
theorem pcs_cons (c : UInt8) (r : List UInt8) : pcs (c :: r) = ((nextP (c :: r)).1, (nextP (c :: r)).2.1) :: pcs ((c :: r).drop (nextP (c :: r)).2.2) := by rw [pcs]
/-! ## The program -/
theorem lComment_eq (s : List UInt8) (hs : s.length ≤ 1000000) (i : Nat) (h : s[i]? = some 40) (κ : ByteArray → Int → Option R) : letter_cursor_comment_vsie (B s) (i : Int) κ = κ (B s) ((i + cm 0 (s.drop i) : Nat) : Int) := by
  have hlt := (List.getElem?_eq_some_iff.1 h).1
  have hc := cm_le 0 (s.drop i)
  rw [List.length_drop] at hc
  have key : ∀ f, s.length + 1 < f → letter_cursor_comment_vsie.e (B s) (i : Int) (letter_cursor_comment_vsie.L1 κ f) κ = κ (B s) ((i + cm 0 (s.drop i) : Nat) : Int) := by
    intro f hf
    refine (lComment_loop s hs κ f i 0 (by omega) (by omega) (fun _ => h) (by omega)).trans ?_
    congr 2; omega
  exact key fuelK (by unfold fuelK; omega)
theorem lQuotes_eq (s : List UInt8) (hs : s.length ≤ 1000000) (i : Nat) (h : i < s.length) (κ : ByteArray → ByteArray → Int → Option R) : letter_cursor_quotes_vsie (B s) (i : Int) κ = κ (B (qt (s.drop (i + 1))).1) (B s) ((i + (1 + (qt (s.drop (i + 1))).2) : Nat) : Int) := by
  have hw1 : IntKind.wrap .i64 ((i : Int) + 1) = ((i + 1 : Nat) : Int) := wrap_i64 (by omega) (by omega)
  have key : ∀ f, s.length < f → letter_cursor_quotes_vsie.e strings_Builder_WriteByte_vxfei strings_Builder_String_vxfe (B s) (i : Int) (letter_cursor_quotes_vsie.L3 strings_Builder_WriteByte_vxfei strings_Builder_String_vxfe κ f) κ = κ (B (qt (s.drop (i + 1))).1) (B s) ((i + (1 + (qt (s.drop (i + 1))).2) : Nat) : Int) := by
    intro f hf
    unfold letter_cursor_quotes_vsie.e
    rw [hw1]
    refine (lQuotes_loop s hs κ f (i + 1) [] (by omega) (by omega) (by simp)).trans ?_
    rw [show i + 1 + (qt (s.drop (i + 1))).2 = i + (1 + (qt (s.drop (i + 1))).2) by omega]
    rfl
  exact key fuelK (by unfold fuelK; omega)
theorem lHost_eq (s : List UInt8) (hs : s.length ≤ 1000000) (i : Nat) (h : i < s.length) (κ : ByteArray → ByteArray → Int → Option R) : letter_cursor_host_vsie (B s) (i : Int) κ = κ (B ((s.drop i).take (n91 (s.drop i)))) (B s) ((i + n91 (s.drop i) : Nat) : Int) := by
  have key : ∀ f, s.length + 1 < f → letter_cursor_host_vsie.e (B s) (i : Int) (letter_cursor_host_vsie.L2 κ f) κ = κ (B ((s.drop i).take (n91 (s.drop i)))) (B s) ((i + n91 (s.drop i) : Nat) : Int) := by
    intro f hf
    refine (lHost_loop s hs κ i (by omega) f i (by omega) (by omega) (by omega)).trans ?_
    rw [hEnd_n91 s i (by omega), List.drop_take]
    rw [show i + n91 (s.drop i) - i = n91 (s.drop i) by omega]
  exact key fuelK (by unfold fuelK; omega)
abbrev lnL16 (κ : Int → ByteArray → ByteArray → Int → Option R) := letter_cursor_next_vsie.L16 letter_cursor_comment_vsie letter_cursor_quotes_vsie letter_cursor_host_vsie letter_isSign_0 letter_isAtom_0 κ
theorem lAtom_loop (s : List UInt8) (hs : s.length ≤ 1000000) (κ : Int → ByteArray → ByteArray → Int → Option R) (a : Nat) (u : Int) (v : ByteArray) : ∀ (f i : Nat), i ≤ s.length → s.length < i + f → a ≤ i →
    lnL16 κ f (a : Int) (B s) (i : Int) u v = κ 4 (B ((s.take (i + ((s.drop i).takeWhile isAt).length)).drop a)) (B s) ((i + ((s.drop i).takeWhile isAt).length : Nat) : Int)
  | 0, i, h1, h2, h3 => by omega
  | f + 1, i, h1, h2, h3 => by
    unfold lnL16
    rw [letter_cursor_next_vsie.L16, letter_cursor_next_vsie.t16]
    simp only [size_B]
    cases hd : s.drop i with
    | nil =>
      have := drop_nil hd
      simp (disch := omega) only [cond_dec', chk_and, chk_dec]
      simp [extract_B]
    | cons b r =>
      obtain ⟨g1, g2, g3⟩ := drop_get hd
      have hw1 : IntKind.wrap .i64 ((i : Int) + 1) = ((i + 1 : Nat) : Int) := wrap_i64 (by omega) (by omega)
      simp (disch := omega) only [cond_dec, chk_and, chk_dec, btB g1, lAtom_eq, hw1]
      rw [List.takeWhile_cons]
      cases hb : isAt b with
      | false => simp [extract_B]
      | true =>
        simp only [cond_true, if_true, List.length_cons]
        have := lAtom_loop s hs κ a u v f (i + 1) (by omega) (by omega) (by omega)
        unfold lnL16 at this
        rw [this, g3]
        rw [show i + 1 + (List.takeWhile isAt r).length = i + ((List.takeWhile isAt r).length + 1) by omega]
theorem enc_sg (c : UInt8) (h : isSg c = true) : Utf8.encode (c.toNat : Int) = B [c] := by
  have := all_bytes (p := fun c => !isSg c || decide (Utf8.encode (c.toNat : Int) = B [c])) (by kernel_rfl) c
  rw [h] at this
  simpa using this
theorem lNext_eq (s : List UInt8) (hs : s.length ≤ 1000000) (i : Nat) (c : UInt8) (r : List UInt8) (h : s.drop i = c :: r) (κ : Int → ByteArray → ByteArray → Int → Option R) :
    letter_cursor_next_vsie (B s) (i : Int) κ = κ ((nextP (c :: r)).1 : Int) (B (nextP (c :: r)).2.1) (B s) ((i + (nextP (c :: r)).2.2 : Nat) : Int) := by
  obtain ⟨g1, g2, g3⟩ := drop_get h
  have hw1 : IntKind.wrap .i64 ((i : Int) + 1) = ((i + 1 : Nat) : Int) := wrap_i64 (by omega) (by omega)
  have key : ∀ f, s.length < f → letter_cursor_next_vsie.e letter_cursor_comment_vsie letter_cursor_quotes_vsie letter_cursor_host_vsie letter_isSign_0 letter_isAtom_0 (B s) (i : Int) (lnL16 κ f) κ = κ ((nextP (c :: r)).1 : Int) (B (nextP (c :: r)).2.1) (B s) ((i + (nextP (c :: r)).2.2 : Nat) : Int) := by
    intro f hf
    unfold letter_cursor_next_vsie.e
    simp only [size_B]
    simp (disch := omega) only [cond_dec, chk_and, chk_dec, btB g1]
    rw [byteB c 40 40 rfl, byteB c 34 34 rfl, byteB c 91 91 rfl, nextP]
    by_cases e1 : c = 40
    · subst e1
      rw [if_pos rfl]
      simp only [BEq.rfl, cond_true]
      rw [lComment_eq s hs i g1, h]; rfl
    · rw [if_neg e1, show (c == 40) = false by simpa using e1]
      simp only [cond_false]
      by_cases e2 : c = 34
      · subst e2
        rw [if_pos rfl]
        simp only [BEq.rfl, cond_true]
        rw [lQuotes_eq s hs i g2, g3]; rfl
      · rw [if_neg e2, show (c == 34) = false by simpa using e2]
        simp only [cond_false]
        by_cases e3 : c = 91
        · subst e3
          rw [if_pos rfl]
          simp only [BEq.rfl, cond_true]
          rw [lHost_eq s hs i g2, h]; rfl
        · rw [if_neg e3, show (c == 91) = false by simpa using e3]
          simp only [cond_false, lSign_eq, lAtom_eq, hw1]
          cases e4 : isSg c with
          | true => rw [enc_sg c e4]; rfl
          | false =>
            simp only [cond_false]
            cases e5 : isAt c with
            | false => rfl
            | true =>
              simp only [Bool.not_true, cond_false]
              rw [lAtom_loop s hs κ i 0 _ f i (by omega) (by omega) (by omega), h, List.drop_take]
              rw [show i + (List.takeWhile isAt (c :: r)).length - i = (List.takeWhile isAt (c :: r)).length by omega, h]
              have : (c :: r).take ((c :: r).takeWhile isAt).length = (c :: r).takeWhile isAt := (List.prefix_iff_eq_take.1 (List.takeWhile_prefix isAt (l := c :: r))).symm
              rw [this]; rfl
  exact key fuelK (by unfold fuelK; omega)
def lpAV (p : Nat × List UInt8) : AV := .agg [.int (p.1 : Int), .str (B p.2)]
theorem lPieces_loop (s : List UInt8) (hs : s.length ≤ 1000000) (κ : List AV → Option R) : ∀ (f i : Nat) (acc : List (Nat × List UInt8)), i ≤ s.length → s.length < i + f → acc.length ≤ i →
    letter_pieces_0.L3 letter_cursor_next_vsie κ f (B s) (i : Int) (acc.map lpAV) = κ ((acc ++ pcs (s.drop i)).map lpAV)
  | 0, i, acc, h1, h2, h3 => by omega
  | f + 1, i, acc, h1, h2, h3 => by
    rw [letter_pieces_0.L3, letter_pieces_0.t3]
    simp only [size_B]
    have hal : (acc.map lpAV).length = acc.length := List.length_map ..
    cases hd : s.drop i with
    | nil =>
      have := drop_nil hd
      rw [cond_dec' (by omega), pcs_nil]; simp
    | cons c r =>
      obtain ⟨g1, g2, g3⟩ := drop_get hd
      have hn := nextP_le c r
      have hl : (c :: r).length = s.length - i := by rw [← hd, List.length_drop]
      rw [cond_dec (by omega), lNext_eq s hs i c r hd]
      simp (disch := omega) only [chk_dec]
      have := lPieces_loop s hs κ f (i + (nextP (c :: r)).2.2) (acc ++ [((nextP (c :: r)).1, (nextP (c :: r)).2.1)]) (by omega) (by omega) (by simp; omega)
      rw [← List.drop_drop, hd] at this
      rw [pcs_cons]
      rw [show acc ++ ((nextP (c :: r)).1, (nextP (c :: r)).2.1) :: pcs ((c :: r).drop (nextP (c :: r)).2.2) = (acc ++ [((nextP (c :: r)).1, (nextP (c :: r)).2.1)]) ++ pcs ((c :: r).drop (nextP (c :: r)).2.2) by simp, ← this]
      simp [lpAV]
theorem lPieces_eq (s : List UInt8) (hs : s.length ≤ 1000000) (κ : List AV → Option R) : letter_pieces_0 (B s) κ = κ ((pcs s).map lpAV) := by
  have key : ∀ f, s.length < f → letter_pieces_0.e letter_cursor_next_vsie (B s) (letter_pieces_0.L3 letter_cursor_next_vsie κ f) κ = κ ((pcs s).map lpAV) := by
    intro f hf
    exact lPieces_loop s hs κ f 0 [] (by omega) (by omega) (by simp)
  exact key fuelK (by unfold fuelK; omega)
end Go.Proofs.Ab

/- The document's pieces. -/
namespace Go.Proofs.Ab
set_option linter.unusedVariables false
set_option maxRecDepth 4000
open Go
variable {R : Type}
def rkind (p : Nat × List UInt8) : Int := if p.1 = 0 then 32 else if p.1 = 3 then ((p.2.headD 0).toNat : Int) else 97
def rpAV (p : Nat × List UInt8) : AV := .agg [.int (rkind p), .str (B p.2)]
end Go.Proofs.Ab

/- Finding signs, texts of rows of pieces. -/
namespace Go.Proofs.Ab
set_option linter.unusedVariables false
set_option maxRecDepth 4000
open Go
variable {R : Type}
abbrev Pc := Nat × List UInt8
/-- Is a piece this sign? -/
def isS (c : UInt8) (p : Pc) : Bool := p.1 == 3 && p.2 == [c]
def okP (p : Pc) : Prop := (p.1 = 0 → p.2 = []) ∧ (p.1 = 3 → ∃ c, p.2 = [c] ∧ isSg c = true)
theorem pcs_ok : ∀ (n : Nat) (l : List UInt8), l.length ≤ n → ∀ p ∈ pcs l, okP p
  | 0, l, h, p, hp => by
    have : l = [] := by cases l <;> simp_all
    subst this; rw [pcs_nil] at hp; cases hp
  | n + 1, l, h, p, hp => by
    cases l with
    | nil => rw [pcs_nil] at hp; cases hp
    | cons c r =>
      rw [pcs_cons, List.mem_cons] at hp
      have hn := nextP_le c r
      rcases hp with rfl | hp
      · rw [nextP]
        split
        · exact ⟨fun _ => rfl, fun h => by cases h⟩
        · split
          · exact ⟨fun h => (by cases h), fun h => by cases h⟩
          · split
            · exact ⟨fun h => (by cases h), fun h => by cases h⟩
            · split
              · rename_i e; exact ⟨fun h => (by cases h), fun _ => ⟨c, rfl, e⟩⟩
              · split
                · exact ⟨fun h => (by cases h), fun h => by cases h⟩
                · exact ⟨fun _ => rfl, fun h => by cases h⟩
      · exact pcs_ok n _ (by rw [List.length_drop]; simp only [List.length_cons] at h hn ⊢; omega) p hp
def tl (ps : List Pc) : Nat := (ps.map fun p => p.2.length).sum
theorem tl_cons (p : Pc) (ps : List Pc) : tl (p :: ps) = p.2.length + tl ps := rfl
theorem tl_append (a b : List Pc) : tl (a ++ b) = tl a + tl b := by unfold tl; simp
theorem tl_take (n : Nat) (ps : List Pc) : tl (ps.take n) ≤ tl ps := by
  have := tl_append (ps.take n) (ps.drop n)
  rw [List.take_append_drop] at this; omega
theorem tl_drop (n : Nat) (ps : List Pc) : tl (ps.drop n) ≤ tl ps := by
  have := tl_append (ps.take n) (ps.drop n)
  rw [List.take_append_drop] at this; omega
theorem pcs_tl : ∀ (n : Nat) (l : List UInt8), l.length ≤ n → tl (pcs l) ≤ l.length ∧ (pcs l).length ≤ l.length
  | 0, l, h => by
    have : l = [] := by cases l <;> simp_all
    subst this; rw [pcs_nil]; exact ⟨Nat.le_refl _, Nat.le_refl _⟩
  | n + 1, l, h => by
    cases l with
    | nil => rw [pcs_nil]; exact ⟨Nat.le_refl _, Nat.le_refl _⟩
    | cons c r =>
      rw [pcs_cons, tl_cons]
      have hn := nextP_le c r
      have ih := pcs_tl n ((c :: r).drop (nextP (c :: r)).2.2) (by rw [List.length_drop]; simp only [List.length_cons] at h hn ⊢; omega)
      rw [List.length_drop] at ih
      have ht : (nextP (c :: r)).2.1.length ≤ (nextP (c :: r)).2.2 := by
        rw [nextP]
        have hq : ∀ l : List UInt8, (qt l).1.length ≤ (qt l).2 := by
          intro l
          fun_induction qt l with
          | case1 => simp
          | case2 => simp
          | case3 => simp; omega
          | case4 => simp
          | case5 => simp; omega
        split
        · simp
        · split
          · show (qt r).1.length ≤ 1 + (qt r).2; have := hq r; omega
          · split
            · simp; omega
            · split
              · simp
              · split <;> simp
      refine ⟨?_, ?_⟩
      · show (nextP (c :: r)).2.1.length + _ ≤ _; omega
      · simp only [List.length_cons] at ih hn ⊢; omega
/-! ## Cells -/
theorem lpA (ps : List Pc) (i : Nat) (p : Pc) (h : ps[i]? = some p) : rdA (ps.map lpAV) (i : Int) = lpAV p := rdA_get (by rw [List.getElem?_map, h]; rfl)
theorem rpA (ps : List Pc) (i : Nat) (p : Pc) (h : ps[i]? = some p) : rdA (ps.map rpAV) (i : Int) = rpAV p := rdA_get (by rw [List.getElem?_map, h]; rfl)
theorem cutL (ps : List Pc) (a b : Nat) : cutA (ps.map lpAV) (a : Int) (b : Int) = ((ps.take b).drop a).map lpAV := by
  unfold cutA; rw [Int.toNat_natCast, Int.toNat_natCast, List.map_drop, List.map_take]
theorem cutR (ps : List Pc) (a b : Nat) : cutA (ps.map rpAV) (a : Int) (b : Int) = ((ps.take b).drop a).map rpAV := by
  unfold cutA; rw [Int.toNat_natCast, Int.toNat_natCast, List.map_drop, List.map_take]
theorem lp0 (p : Pc) : ((lpAV p).fld 0).i = (p.1 : Int) := rfl
theorem lp1 (p : Pc) : ((lpAV p).fld 1).s = B p.2 := rfl
theorem rp0 (p : Pc) : ((rpAV p).fld 0).i = rkind p := rfl
theorem rp1 (p : Pc) : ((rpAV p).fld 1).s = B p.2 := rfl
theorem is_eq (p : Pc) (c : UInt8) (κ : Bool → Option R) : letter_piece_is_0 (p.1 : Int) (B p.2) (B [c]) κ = κ (isS c p) := by
  unfold letter_piece_is_0 letter_piece_is_0.e isS
  by_cases h : p.1 = 3
  · rw [h, show (((3 : Nat) : Int) == 3) = true from rfl, show ((3 : Nat) == 3) = true from rfl]
    simp only [cond_true, Bool.true_and]
    congr 1
    rw [Bool.eq_iff_iff, decide_eq_true_eq, B_inj, beq_iff_eq]
  · rw [beq_neg (by omega), show (p.1 == 3) = false by simpa using h]; rfl
theorem rkind_is (p : Pc) (c : UInt8) (ho : okP p) (hc : isSg c = true) : (rkind p == (c.toNat : Int)) = isS c p := by
  have h32 : c ≠ 32 := by rintro rfl; cases hc
  have h97 : c ≠ 97 := by rintro rfl; cases hc
  unfold rkind isS
  by_cases h0 : p.1 = 0
  · rw [if_pos h0, show ((p.1 == 3) = false) by simp [h0]]
    rw [show (32 : Int) = ((32 : UInt8).toNat : Int) from rfl, byte_beq]
    simpa using fun e => h32 e.symm
  · rw [if_neg h0]
    by_cases h3 : p.1 = 3
    · obtain ⟨d, hd, _⟩ := ho.2 h3
      rw [if_pos h3, hd, show (p.1 == 3) = true by simp [h3]]
      simp only [List.headD_cons, byte_beq, Bool.true_and]
      rw [Bool.eq_iff_iff]; simp
    · rw [if_neg h3, show (p.1 == 3) = false by simpa using h3]
      rw [show (97 : Int) = ((97 : UInt8).toNat : Int) from rfl, byte_beq]
      simpa using fun e => h97 e.symm
theorem rkind_sp (p : Pc) (ho : okP p) : (rkind p == 32) = (p.1 == 0) := by
  unfold rkind
  by_cases h0 : p.1 = 0
  · rw [if_pos h0, h0]; rfl
  · rw [if_neg h0, show (p.1 == 0) = false by simpa using h0]
    by_cases h3 : p.1 = 3
    · obtain ⟨d, hd, hs⟩ := ho.2 h3
      rw [if_pos h3, hd]
      simp only [List.headD_cons]
      rw [byteB d 32 32 rfl]
      have : d ≠ 32 := by rintro rfl; cases hs
      simpa using this
    · rw [if_neg h3]; rfl
/-! ## Find -/
/-- The first place of a sign, or the length. -/
def fd (c : UInt8) (ps : List Pc) : Nat := ps.findIdx (isS c)
theorem fd_nil (c : UInt8) : fd c [] = 0 := rfl
theorem fd_cons (c : UInt8) (p : Pc) (ps : List Pc) : fd c (p :: ps) = bif isS c p then 0 else fd c ps + 1 := by unfold fd; rw [List.findIdx_cons]
theorem fd_le (c : UInt8) (ps : List Pc) : fd c ps ≤ ps.length := List.findIdx_le_length
theorem lFind_loop (ps : List Pc) (hn : ps.length ≤ 1000000) (c : UInt8) (κ : Int → Option R) : ∀ (f i : Nat), i ≤ ps.length → ps.length < i + f →
    letter_find_ois.L2 letter_piece_is_0 κ f (ps.map lpAV) (B [c]) (i : Int) = κ ((i + fd c (ps.drop i) : Nat) : Int)
  | 0, i, h1, h2 => by omega
  | f + 1, i, h1, h2 => by
    rw [letter_find_ois.L2, letter_find_ois.t2]
    simp only [List.length_map]
    cases hd : ps.drop i with
    | nil =>
      have := drop_nil hd
      rw [cond_dec' (by omega), fd_nil]
      congr 1; omega
    | cons p r =>
      obtain ⟨g1, g2, g3⟩ := drop_get hd
      have hw1 : IntKind.wrap .i64 ((i : Int) + 1) = ((i + 1 : Nat) : Int) := wrap_i64 (by omega) (by omega)
      simp (disch := omega) only [cond_dec, chk_and, chk_dec, lpA ps i p g1, lp0, lp1, is_eq, hw1]
      rw [fd_cons]
      cases isS c p with
      | true => simp
      | false =>
        simp only [cond_false]
        rw [lFind_loop ps hn c κ f (i + 1) (by omega) (by omega), g3]
        congr 2; omega
theorem lFind_eq (ps : List Pc) (hn : ps.length ≤ 1000000) (c : UInt8) (i : Nat) (hi : i ≤ ps.length) (κ : Int → Option R) : letter_find_ois (ps.map lpAV) (i : Int) (B [c]) κ = κ ((i + fd c (ps.drop i) : Nat) : Int) := by
  have key : ∀ f, ps.length < f → letter_find_ois.e letter_piece_is_0 (ps.map lpAV) (i : Int) (B [c]) (letter_find_ois.L2 letter_piece_is_0 κ f) κ = κ ((i + fd c (ps.drop i) : Nat) : Int) :=
    fun f hf => lFind_loop ps hn c κ f i hi (by omega)
  exact key fuelK (by unfold fuelK; omega)
/-! ## Texts -/
/-- The text of a row, closed up. -/
def clT (ps : List Pc) : List UInt8 := (ps.map fun p => p.2).flatten
theorem clT_cons (p : Pc) (ps : List Pc) : clT (p :: ps) = p.2 ++ clT ps := rfl
theorem clT_len (ps : List Pc) : (clT ps).length = tl ps := by
  induction ps with
  | nil => rfl
  | cons p r ih => rw [clT_cons, List.length_append, ih, tl_cons]
/-- The text of a row, with one blank where space stands. -/
def txG : Bool → Bool → List Pc → List UInt8
  | _, _, [] => []
  | any, gap, p :: r => bif p.1 == 0 then txG any true r else (bif any && gap then [32] else []) ++ (p.2 ++ txG true false r)
theorem lText_loop (cl : Bool) (ps : List Pc) (hn : ps.length ≤ 1000000) (ht : tl ps ≤ 1000000) (ho : ∀ p ∈ ps, okP p) (κ : ByteArray → Option R) : ∀ (f i : Nat) (any gap : Bool) (acc : List UInt8), i ≤ ps.length → ps.length < i + f → acc.length + tl (ps.drop i) + (ps.length - i) ≤ 3000000 →
    letter_text_ob.L4 strings_Builder_WriteByte_vxfei strings_Builder_WriteString_vxfes strings_Builder_String_vxfe κ f cl (any && gap) any (ps.map lpAV) (ps.length : Int) (i : Int) (intsAV acc)
      = κ (B (acc ++ bif cl then clT (ps.drop i) else txG any gap (ps.drop i)))
  | 0, i, any, gap, acc, h1, h2, h3 => by omega
  | f + 1, i, any, gap, acc, h1, h2, h3 => by
    rw [letter_text_ob.L4, letter_text_ob.t4]
    simp only [List.length_map]
    cases hd : ps.drop i with
    | nil =>
      have := drop_nil hd
      rw [cond_dec' (by omega), bString_eq]
      cases cl <;> simp [txG, clT]
    | cons p r =>
      obtain ⟨g1, g2, g3⟩ := drop_get hd
      have hw1 : IntKind.wrap .i64 ((i : Int) + 1) = ((i + 1 : Nat) : Int) := wrap_i64 (by omega) (by omega)
      have hop := ho p (List.mem_of_getElem? g1)
      have htl : tl (ps.drop i) = p.2.length + tl r := by rw [hd]; rfl
      have hal := ints_len acc
      simp (disch := omega) only [cond_dec, chk_and, chk_dec, lpA ps i p g1, lp0, lp1, hw1]
      have e0 : ((p.1 : Int) == 0) = (p.1 == 0) := by rw [Bool.eq_iff_iff]; simp
      rw [e0]
      have step := fun (an ga : Bool) (ac : List UInt8) (h : ac.length + tl r + (ps.length - (i + 1)) ≤ 3000000) => by
        have := lText_loop cl ps hn ht ho κ f (i + 1) an ga ac (by omega) (by omega) (by rw [g3]; exact h)
        rwa [g3] at this
      cases hp : (p.1 == 0) with
      | true =>
        simp only [cond_true]
        have hp0 : p.2 = [] := hop.1 (by simpa using hp)
        have := step any true acc (by omega)
        rw [Bool.and_true] at this
        rw [this, clT_cons, hp0, txG, hp]; rfl
      | false =>
        simp only [cond_false]
        have hws : ∀ (ac : List UInt8), ac.length ≤ acc.length + 1 → ∀ κ' : Int → List AV → Option R, strings_Builder_WriteString_vxfes (intsAV ac) (B p.2) κ' = κ' (p.2.length : Int) (intsAV (ac ++ p.2)) := by
          intro ac hac κ'
          have := ints_len ac
          rw [wString_eq _ _ _ (by rw [size_B]; omega), size_B, bytesB, ints_append]
        rw [wByte_eq _ _ _ (by omega), show AV.int 32 = AV.int ((32 : UInt8).toNat : Int) from rfl, ints_snoc, hws (acc ++ [32]) (by simp), hws acc (by omega)]
        have r1 := step true false (acc ++ [32] ++ p.2) (by simp; omega)
        have r2 := step true false (acc ++ p.2) (by simp; omega)
        simp only [Bool.and_false] at r1 r2
        rw [r1, r2, clT_cons, txG, hp]
        cases cl <;> cases any <;> cases gap <;> simp
theorem lText_eq (cl : Bool) (ps : List Pc) (hn : ps.length ≤ 1000000) (ht : tl ps ≤ 1000000) (ho : ∀ p ∈ ps, okP p) (κ : ByteArray → Option R) : letter_text_ob (ps.map lpAV) cl κ = κ (B (bif cl then clT ps else txG false false ps)) := by
  have key : ∀ f, ps.length < f → letter_text_ob.e strings_Builder_WriteByte_vxfei strings_Builder_WriteString_vxfes strings_Builder_String_vxfe (ps.map lpAV) cl (letter_text_ob.L4 strings_Builder_WriteByte_vxfei strings_Builder_WriteString_vxfes strings_Builder_String_vxfe κ f) κ = κ (B (bif cl then clT ps else txG false false ps)) := by
    intro f hf
    unfold letter_text_ob.e
    rw [List.length_map]
    exact lText_loop cl ps hn ht ho κ f 0 false false [] (by omega) (by omega) (by simp; omega)
  exact key fuelK (by unfold fuelK; omega)
end Go.Proofs.Ab

/- Ids. -/
namespace Go.Proofs.Ab
set_option linter.unusedVariables false
set_option maxRecDepth 4000
open Go
variable {R : Type}
theorem index_one (l : List UInt8) (c : UInt8) : decide (Lib.index l [c] ≥ 0) = l.contains c := by
  induction l with
  | nil => rfl
  | cons b l ih =>
    rw [index_cons]
    have hp : List.isPrefixOf [c] (b :: l) = (c == b) := by simp [List.isPrefixOf]
    rw [hp, List.contains_cons]
    cases h : (c == b) with
    | true => rfl
    | false =>
      rw [Bool.false_or, ← ih]
      have hge := Lib.index_ge l [c]
      simp only [Bool.false_eq_true, if_false]
      split
      · rename_i e
        have : Lib.index l [c] = -1 := by simpa using e
        rw [this]
      · rw [decide_eq_decide]
        rename_i e
        have : Lib.index l [c] ≠ -1 := by simpa using e
        omega
theorem sContains_eq (l : List UInt8) (hs : l.length ≤ 1000000) (c : UInt8) (κ : Bool → Option R) : strings_Contains_0 (B l) (B [c]) κ = κ (l.contains c) := by
  unfold strings_Contains_0 strings_Contains_0.e
  rw [index_eq l [c] hs, index_one]
/-- Is there an @ that is not at an end? -/
def atOk (s : List UInt8) : Bool := ((s.take (s.length - 1)).drop 1).contains 64
/-- The ids of pieces. -/
def idsG : List Pc → List (List UInt8)
  | [] => []
  | p :: r => if isS 60 p = true then (if fd 62 r < r.length then (bif atOk (clT (r.take (fd 62 r))) then [clT (r.take (fd 62 r))] else []) ++ idsG (r.drop (fd 62 r + 1)) else []) else idsG r
termination_by l => l.length
decreasing_by
  · rw [List.length_drop]; simp only [List.length_cons]; omega
  · simp only [List.length_cons]; omega
theorem idsG_nil : idsG [] = [] := by rw [idsG]
theorem idsG_cons (p : Pc) (r : List Pc) : idsG (p :: r) = if isS 60 p = true then (if fd 62 r < r.length then (bif atOk (clT (r.take (fd 62 r))) then [clT (r.take (fd 62 r))] else []) ++ idsG (r.drop (fd 62 r + 1)) else []) else idsG r := by rw [idsG]
theorem idsG_len : ∀ (n : Nat) (l : List Pc), l.length ≤ n → (idsG l).length ≤ l.length
  | 0, l, h => by
    have : l = [] := by cases l <;> simp_all
    subst this; rw [idsG_nil]
    exact Nat.le_refl _
  | n + 1, l, h => by
    cases l with
    | nil => rw [idsG_nil]; exact Nat.le_refl _
    | cons p r =>
      simp only [List.length_cons] at h ⊢
      rw [idsG_cons]
      split
      · split
        · have := idsG_len n (r.drop (fd 62 r + 1)) (by rw [List.length_drop]; omega)
          rw [List.length_drop] at this
          rw [List.length_append]
          cases atOk (clT (r.take (fd 62 r))) <;> simp <;> omega
        · simp
      · have := idsG_len n r (by omega); omega
def last32 (l : List (List UInt8)) : List (List UInt8) := l.drop (l.length - 32)
theorem cutS (l : List (List UInt8)) (a : Nat) : cutA (rowsS l) (a : Int) ((rowsS l).length : Int) = rowsS (l.drop a) := by
  unfold cutA; rw [Int.toNat_natCast, Int.toNat_natCast, List.take_length]; unfold rowsS; rw [List.map_drop]
theorem is60 {p : Pc} (h : isS 60 p = true) : isS 62 p = false := by
  unfold isS at h ⊢
  rw [Bool.and_eq_true, beq_iff_eq, beq_iff_eq] at h
  rw [h.1, h.2]; rfl
theorem lIds_end (out : List (List UInt8)) (hn : out.length ≤ 1000000) (κ : List AV → Option R) :
    (bif (decide (((rowsS out).length : Int) > (32 : Int))) then (chk ((decide ((0 : Int) ≤ (IntKind.wrap .i64 (((rowsS out).length : Int) - 32)))) && ((decide ((IntKind.wrap .i64 (((rowsS out).length : Int) - 32)) ≤ ((rowsS out).length : Int))) && (decide (((rowsS out).length : Int) ≤ ((rowsS out).length : Int))))) (chk (decide ((0 + (cutA (rowsS out) (IntKind.wrap .i64 (((rowsS out).length : Int) - 32)) ((rowsS out).length : Int)).length) * 16 ≤ 140737488355328)) (κ (cutA (rowsS out) (IntKind.wrap .i64 (((rowsS out).length : Int) - 32)) ((rowsS out).length : Int))))) else (κ (rowsS out)))
      = κ (rowsS (last32 out)) := by
  have hl := rowsS_len out
  unfold last32
  by_cases h : 32 < out.length
  · have hw : IntKind.wrap .i64 (((rowsS out).length : Int) - 32) = ((out.length - 32 : Nat) : Int) := by rw [wrap_i64 (by omega) (by omega)]; omega
    have hl2 := rowsS_len (out.drop (out.length - 32))
    rw [List.length_drop] at hl2
    rw [cond_dec (by omega), hw, cutS]
    simp (disch := omega) only [chk_and, chk_dec]
  · rw [cond_dec' (by omega), show out.length - 32 = 0 by omega]; rfl
theorem lIds_loop (ps : List Pc) (hn : ps.length ≤ 500000) (ht : tl ps ≤ 500000) (ho : ∀ p ∈ ps, okP p) (κ : List AV → Option R) : ∀ (f i : Nat) (out : List (List UInt8)), i ≤ ps.length → ps.length < i + f → out.length ≤ i →
    letter_Ids_0.L4 letter_pieces_0 letter_piece_is_0 letter_find_ois letter_text_ob strings_Contains_0 κ f (i : Int) (rowsS out) (ps.map lpAV) = κ (rowsS (last32 (out ++ idsG (ps.drop i))))
  | 0, i, out, h1, h2, h3 => by omega
  | f + 1, i, out, h1, h2, h3 => by
    rw [letter_Ids_0.L4, letter_Ids_0.t4]
    simp only [lIds_end out (by omega)]
    simp only [List.length_map]
    have hol := rowsS_len out
    cases hd : ps.drop i with
    | nil =>
      have := drop_nil hd
      rw [cond_dec' (by omega), idsG_nil, List.append_nil]
    | cons p r =>
      obtain ⟨g1, g2, g3⟩ := drop_get hd
      have hr : r.length = ps.length - (i + 1) := by rw [← g3, List.length_drop]
      have hw1 : IntKind.wrap .i64 ((i : Int) + 1) = ((i + 1 : Nat) : Int) := wrap_i64 (by omega) (by omega)
      rw [show (⟨#[60]⟩ : ByteArray) = B [60] from rfl, show (⟨#[62]⟩ : ByteArray) = B [62] from rfl, show (⟨#[64]⟩ : ByteArray) = B [64] from rfl]
      simp (disch := omega) only [cond_dec, chk_and, chk_dec, lpA ps i p g1, lp0, lp1, is_eq, hw1]
      rw [idsG_cons, lFind_eq ps (by omega) 62 i (by omega), hd, fd_cons]
      cases hp : isS 60 p with
      | false =>
        simp only [Bool.not_false, cond_true, Bool.false_eq_true, if_false]
        rw [lIds_loop ps hn ht ho κ f (i + 1) out (by omega) (by omega) (by omega), g3]
      | true =>
        have hfd := fd_le 62 r
        simp only [Bool.not_true, cond_false, if_true, is60 hp]
        by_cases hf : fd 62 r < r.length
        · rw [if_pos hf, beq_neg (by omega)]
          have hcut : (ps.take (i + (fd 62 r + 1))).drop (i + 1) = r.take (fd 62 r) := by
            rw [List.drop_take, g3]; congr 1; omega
          have hw2 : IntKind.wrap .i64 (((i + (fd 62 r + 1) : Nat) : Int) + 1) = ((i + 1 + (fd 62 r + 1) : Nat) : Int) := by rw [wrap_i64 (by omega) (by omega)]; omega
          simp only [cond_false, hw2]
          simp (disch := omega) only [chk_and, chk_dec]
          have ht2 : tl (r.take (fd 62 r)) ≤ tl ps := by
            rw [← g3]; exact Nat.le_trans (tl_take _ _) (tl_drop _ _)
          rw [cutL, hcut, lText_eq true _ (by rw [List.length_take]; omega) (by omega) (fun q hq => ho q (List.mem_of_mem_drop (by rw [g3]; exact List.mem_of_mem_take hq)))]
          simp only [cond_true, size_B]
          have hs := clT_len (r.take (fd 62 r))
          generalize clT (r.take (fd 62 r)) = s at hs ⊢
          have hstep : ∀ out', out'.length ≤ i + 1 → letter_Ids_0.L4 letter_pieces_0 letter_piece_is_0 letter_find_ois letter_text_ob strings_Contains_0 κ f ((i + 1 + (fd 62 r + 1) : Nat) : Int) (rowsS out') (ps.map lpAV) = κ (rowsS (last32 (out' ++ idsG (r.drop (fd 62 r + 1))))) := by
            intro out' ho'
            rw [lIds_loop ps hn ht ho κ f _ out' (by omega) (by omega) (by omega), ← List.drop_drop, g3]
          have hno : atOk s = false → letter_Ids_0.L4 letter_pieces_0 letter_piece_is_0 letter_find_ois letter_text_ob strings_Contains_0 κ f ((i + 1 + (fd 62 r + 1) : Nat) : Int) (rowsS out) (ps.map lpAV) = κ (rowsS (last32 (out ++ ((bif atOk s then [s] else []) ++ idsG (r.drop (fd 62 r + 1)))))) := by
            intro e; rw [hstep out (by omega), e]; rfl
          by_cases h2 : 2 < s.length
          · have hw3 : IntKind.wrap .i64 ((s.length : Int) - 1) = ((s.length - 1 : Nat) : Int) := by rw [wrap_i64 (by omega) (by omega)]; omega
            rw [cond_dec (by omega), hw3]
            simp (disch := omega) only [chk_and, chk_dec]
            rw [extract_B, Int.toNat_natCast, show ((1 : Int)).toNat = 1 from rfl, sContains_eq _ (by rw [List.length_drop, List.length_take]; omega)]
            cases hc : ((s.take (s.length - 1)).drop 1).contains 64 with
            | false => exact hno hc
            | true =>
              simp only [cond_true]
              have : rowsS out ++ [AV.str (B s)] = rowsS (out ++ [s]) := by rw [rowsS_append]; rfl
              rw [this, hstep (out ++ [s]) (by simp; omega)]
              have e : atOk s = true := hc
              rw [e]; simp
          · rw [cond_dec' (by omega)]
            refine hno ?_
            unfold atOk
            rw [List.drop_eq_nil_of_le (by rw [List.length_take]; omega)]; rfl
        · rw [if_neg hf, beq_pos (by omega)]
          simp
theorem lIds_eq (s : List UInt8) (hs : s.length ≤ 500000) (κ : List AV → Option R) : letter_Ids_0 (B s) κ = κ (rowsS (last32 (idsG (pcs s)))) := by
  have hp := pcs_tl s.length s (Nat.le_refl _)
  have key : ∀ f, s.length < f → letter_Ids_0.e letter_pieces_0 letter_piece_is_0 letter_find_ois letter_text_ob strings_Contains_0 (B s) (letter_Ids_0.L4 letter_pieces_0 letter_piece_is_0 letter_find_ois letter_text_ob strings_Contains_0 κ f) κ = κ (rowsS (last32 (idsG (pcs s)))) := by
    intro f hf
    unfold letter_Ids_0.e
    rw [lPieces_eq s (by omega)]
    exact lIds_loop (pcs s) (by omega) (by omega) (pcs_ok s.length s (Nat.le_refl _)) κ f 0 [] (by omega) (by omega) (by simp)
  exact key fuelK (by unfold fuelK; omega)
end Go.Proofs.Ab

/- The document's ids; LetterIds. -/
namespace Go.Proofs.Ab
set_option linter.unusedVariables false
set_option maxRecDepth 4000
open Go
variable {R : Type}
/-- The two ways out: all ids, or the last 32. -/
def kk2 (κ κ1 : List AV → Option R) (out : List (List UInt8)) : Option R := if 32 < out.length then κ1 (rowsS (last32 out)) else κ (rowsS out)
theorem fd_drop (c : UInt8) : ∀ l : List Pc, (l.drop (fd c l) = [] ∧ fd c l = l.length) ∨ ∃ p r, l.drop (fd c l) = p :: r ∧ isS c p = true
  | [] => Or.inl ⟨rfl, rfl⟩
  | p :: r => by
    rw [fd_cons]
    cases h : isS c p with
    | true => exact Or.inr ⟨p, r, rfl, h⟩
    | false =>
      simp only [cond_false, List.drop_succ_cons, List.length_cons]
      rcases fd_drop c r with ⟨h1, h2⟩ | ⟨q, t, h1, h2⟩
      · exact Or.inl ⟨h1, by rw [h2]⟩
      · exact Or.inr ⟨q, t, h1, h2⟩
theorem ids_fd : ∀ l : List Pc, idsG (l.drop (fd 60 l)) = idsG l
  | [] => rfl
  | p :: r => by
    rw [fd_cons]
    cases h : isS 60 p with
    | true => rfl
    | false =>
      simp only [cond_false, List.drop_succ_cons]
      rw [ids_fd r, idsG_cons, h]; simp
/-! ## The law -/
theorem texts_same (l : List AV) (hl : l.length ≤ 1000000) (κ : Bool → Option R) : ∀ (f i : Nat), i ≤ l.length → l.length < i + f → postbaglaw5_texts_oo.L4 κ f l l (i : Int) = κ true
  | 0, i, h1, h2 => by omega
  | f + 1, i, h1, h2 => by
    rw [postbaglaw5_texts_oo.L4, postbaglaw5_texts_oo.t4]
    by_cases h : i < l.length
    · have hwi : IntKind.wrap .i64 ((i : Int) + 1) = ((i + 1 : Nat) : Int) := wrap_i64 (by omega) (by omega)
      simp (disch := omega) only [cond_dec, chk_and, chk_dec, hwi, decide_true, Bool.not_true, cond_false]
      exact texts_same l hl κ f (i + 1) (by omega) (by omega)
    · simp (disch := omega) only [cond_dec']
theorem texts_eq (l : List AV) (hl : l.length ≤ 1000000) (κ : Bool → Option R) : postbaglaw5_texts_oo l l κ = κ true := by
  have key : ∀ f, l.length < f → postbaglaw5_texts_oo.e l l (postbaglaw5_texts_oo.L4 κ f) κ = κ true := by
    intro f hf
    unfold postbaglaw5_texts_oo.e
    rw [bne_neg rfl]
    exact texts_same l hl κ f 0 (by omega) (by omega)
  exact key fuelK (by unfold fuelK; omega)
theorem kk2_at {κ κ1 : List AV → Option R} {out : List (List UInt8)} {o : Option R} (h0 : κ (rowsS (last32 out)) = o) (h1 : κ1 (rowsS (last32 out)) = o) : kk2 κ κ1 out = o := by
  unfold kk2
  by_cases h : 32 < out.length
  · rw [if_pos h, h1]
  · have : last32 out = out := by unfold last32; rw [show out.length - 32 = 0 by omega]; rfl
    rw [if_neg h, ← h0, this]
theorem last32_len (l : List (List UInt8)) : (last32 l).length ≤ 32 := by unfold last32; rw [List.length_drop]; omega
end Go.Proofs.Ab

/- Parts and addresses: small functions. -/
namespace Go.Proofs.Ab
set_option linter.unusedVariables false
set_option maxRecDepth 4000
open Go
variable {R : Type}
/-- Pieces as they come: well made, not too many. -/
structure Gd (ps : List Pc) : Prop where
  ok : ∀ p ∈ ps, okP p
  len : ps.length ≤ 500000
  tl : tl ps ≤ 500000
theorem Gd.take {ps : List Pc} (h : Gd ps) (n : Nat) : Gd (ps.take n) := ⟨fun p hp => h.ok p (List.mem_of_mem_take hp), by have := h.len; rw [List.length_take]; omega, Nat.le_trans (tl_take n ps) h.tl⟩
theorem Gd.drop {ps : List Pc} (h : Gd ps) (n : Nat) : Gd (ps.drop n) := ⟨fun p hp => h.ok p (List.mem_of_mem_drop hp), by have := h.len; rw [List.length_drop]; omega, Nat.le_trans (tl_drop n ps) h.tl⟩
/-! ## Parts -/
/-- How many pieces the first part has. -/
def ptG : List Pc → Nat
  | [] => 0
  | p :: r => if isS 60 p = true then (if fd 62 r < r.length then fd 62 r + 2 + ptG (r.drop (fd 62 r + 1)) else r.length + 1) else if (isS 44 p || isS 59 p || isS 58 p) = true then 0 else 1 + ptG r
termination_by l => l.length
decreasing_by
  · rw [List.length_drop]; simp only [List.length_cons]; omega
  · simp only [List.length_cons]; omega
theorem ptG_nil : ptG [] = 0 := by rw [ptG]
theorem ptG_cons (p : Pc) (r : List Pc) : ptG (p :: r) = if isS 60 p = true then (if fd 62 r < r.length then fd 62 r + 2 + ptG (r.drop (fd 62 r + 1)) else r.length + 1) else if (isS 44 p || isS 59 p || isS 58 p) = true then 0 else 1 + ptG r := by rw [ptG]
/-- A part ends at a sign, or with the row. -/
theorem ptG_at : ∀ (n : Nat) (l : List Pc), l.length ≤ n → ptG l ≤ l.length ∧ (ptG l < l.length → ∃ p, l[ptG l]? = some p ∧ (isS 44 p || isS 59 p || isS 58 p) = true)
  | 0, l, h => by
    have : l = [] := by cases l <;> simp_all
    subst this; rw [ptG_nil]
    exact ⟨Nat.le_refl _, fun h => absurd h (by simp)⟩
  | n + 1, l, h => by
    cases l with
    | nil => rw [ptG_nil]; exact ⟨Nat.le_refl _, fun h => absurd h (by simp)⟩
    | cons p r =>
      simp only [List.length_cons] at h ⊢
      rw [ptG_cons]
      by_cases h60 : isS 60 p = true
      · rw [if_pos h60]
        by_cases hf : fd 62 r < r.length
        · rw [if_pos hf]
          obtain ⟨i1, i2⟩ := ptG_at n (r.drop (fd 62 r + 1)) (by rw [List.length_drop]; omega)
          rw [List.length_drop] at i1 i2
          refine ⟨by omega, fun hlt => ?_⟩
          obtain ⟨q, hq, hs⟩ := i2 (by omega)
          refine ⟨q, ?_, hs⟩
          rw [List.getElem?_drop] at hq
          rw [show fd 62 r + 2 + ptG (r.drop (fd 62 r + 1)) = (fd 62 r + 1 + ptG (r.drop (fd 62 r + 1))) + 1 by omega, List.getElem?_cons_succ]
          exact hq
        · rw [if_neg hf]; exact ⟨by omega, fun h => absurd h (by omega)⟩
      · rw [if_neg h60]
        by_cases hs : (isS 44 p || isS 59 p || isS 58 p) = true
        · rw [if_pos hs]; exact ⟨by omega, fun _ => ⟨p, rfl, hs⟩⟩
        · rw [if_neg hs]
          obtain ⟨i1, i2⟩ := ptG_at n r (by omega)
          refine ⟨by omega, fun hlt => ?_⟩
          obtain ⟨q, hq, hs⟩ := i2 (by omega)
          exact ⟨q, by rw [Nat.add_comm 1, List.getElem?_cons_succ]; exact hq, hs⟩
theorem lPart_loop (ps : List Pc) (g : Gd ps) (κ : Int → Option R) : ∀ (f i : Nat), i ≤ ps.length → ps.length < i + f →
    letter_part_oi.L2 letter_piece_is_0 letter_find_ois κ f (ps.map lpAV) (i : Int) = κ ((i + ptG (ps.drop i) : Nat) : Int)
  | 0, i, h1, h2 => by omega
  | f + 1, i, h1, h2 => by
    have hn := g.len
    rw [letter_part_oi.L2, letter_part_oi.t2]
    simp only [List.length_map]
    cases hd : ps.drop i with
    | nil =>
      have := drop_nil hd
      rw [cond_dec' (by omega), ptG_nil]
      congr 1; omega
    | cons p r =>
      obtain ⟨g1, g2, g3⟩ := drop_get hd
      have hr : r.length = ps.length - (i + 1) := by rw [← g3, List.length_drop]
      have hw1 : IntKind.wrap .i64 ((i : Int) + 1) = ((i + 1 : Nat) : Int) := wrap_i64 (by omega) (by omega)
      have hfr := fd_le 62 r
      rw [show (⟨#[60]⟩ : ByteArray) = B [60] from rfl, show (⟨#[62]⟩ : ByteArray) = B [62] from rfl, show (⟨#[44]⟩ : ByteArray) = B [44] from rfl, show (⟨#[59]⟩ : ByteArray) = B [59] from rfl, show (⟨#[58]⟩ : ByteArray) = B [58] from rfl]
      simp (disch := omega) only [cond_dec, chk_and, chk_dec, lpA ps i p g1, lp0, lp1, is_eq, hw1]
      rw [lFind_eq ps (by omega) 62 i (by omega), hd, fd_cons, ptG_cons]
      cases h60 : isS 60 p with
      | true =>
        have h62 : isS 62 p = false := by
          unfold isS at h60 ⊢
          rw [Bool.and_eq_true, beq_iff_eq, beq_iff_eq] at h60
          rw [h60.1, h60.2]; rfl
        rw [h62]
        simp only [cond_true, cond_false, if_true]
        by_cases hf : fd 62 r < r.length
        · rw [if_pos hf, beq_neg (by omega)]
          have hw2 : IntKind.wrap .i64 (((i + (fd 62 r + 1) : Nat) : Int) + 1) = ((i + 1 + (fd 62 r + 1) : Nat) : Int) := by rw [wrap_i64 (by omega) (by omega)]; omega
          simp only [cond_false, hw2]
          rw [lPart_loop ps g κ f _ (by omega) (by omega), ← List.drop_drop, g3]
          congr 2; omega
        · rw [if_neg hf, beq_pos (by omega)]
          simp only [cond_true]
          congr 1; omega
      | false =>
        simp only [cond_false, Bool.false_eq_true, if_false]
        cases h44 : isS 44 p with
        | true => simp
        | false =>
          cases h59 : isS 59 p with
          | true => simp
          | false =>
            cases h58 : isS 58 p with
            | true => simp
            | false =>
              simp only [cond_false, Bool.or_false, Bool.false_eq_true, if_false]
              rw [lPart_loop ps g κ f (i + 1) (by omega) (by omega), g3]
              congr 2; omega
theorem lPart_eq (ps : List Pc) (g : Gd ps) (i : Nat) (hi : i ≤ ps.length) (κ : Int → Option R) : letter_part_oi (ps.map lpAV) (i : Int) κ = κ ((i + ptG (ps.drop i) : Nat) : Int) := by
  have hn := g.len
  have key : ∀ f, ps.length < f → letter_part_oi.e letter_piece_is_0 letter_find_ois (ps.map lpAV) (i : Int) (letter_part_oi.L2 letter_piece_is_0 letter_find_ois κ f) κ = κ ((i + ptG (ps.drop i) : Nat) : Int) :=
    fun f hf => lPart_loop ps g κ f i hi (by omega)
  exact key fuelK (by unfold fuelK; omega)
/-! ## Is there something? -/
def heldG (ps : List Pc) : Bool := ps.any fun p => p.1 != 0
theorem heldG_cons (p : Pc) (r : List Pc) : heldG (p :: r) = bif p.1 != 0 then true else heldG r := by
  unfold heldG; rw [List.any_cons]; cases (p.1 != 0) <;> rfl
theorem lHeld_loop (ps : List Pc) (g : Gd ps) (κ : Bool → Option R) : ∀ (f i : Nat), i ≤ ps.length → ps.length < i + f →
    letter_held_o.L2 κ f (ps.map lpAV) (ps.length : Int) (i : Int) = κ (heldG (ps.drop i))
  | 0, i, h1, h2 => by omega
  | f + 1, i, h1, h2 => by
    have hn := g.len
    rw [letter_held_o.L2, letter_held_o.t2]
    simp only [List.length_map]
    cases hd : ps.drop i with
    | nil =>
      have := drop_nil hd
      rw [cond_dec' (by omega)]; rfl
    | cons p r =>
      obtain ⟨g1, g2, g3⟩ := drop_get hd
      have hw1 : IntKind.wrap .i64 ((i : Int) + 1) = ((i + 1 : Nat) : Int) := wrap_i64 (by omega) (by omega)
      simp (disch := omega) only [cond_dec, chk_and, chk_dec, lpA ps i p g1, lp0, hw1]
      have e0 : ((p.1 : Int) != 0) = (p.1 != 0) := by rw [Bool.eq_iff_iff]; simp
      rw [e0, heldG_cons]
      cases (p.1 != 0) with
      | true => rfl
      | false =>
        simp only [cond_false]
        rw [lHeld_loop ps g κ f (i + 1) (by omega) (by omega), g3]
theorem lHeld_eq (ps : List Pc) (g : Gd ps) (κ : Bool → Option R) : letter_held_o (ps.map lpAV) κ = κ (heldG ps) := by
  have hn := g.len
  have key : ∀ f, ps.length < f → letter_held_o.e (ps.map lpAV) (letter_held_o.L2 κ f) κ = κ (heldG ps) := by
    intro f hf
    unfold letter_held_o.e
    rw [List.length_map]
    exact lHeld_loop ps g κ f 0 (by omega) (by omega)
  exact key fuelK (by unfold fuelK; omega)
/-! ## Texts -/
theorem lTx_eq (ps : List Pc) (g : Gd ps) (κ : ByteArray → Option R) : letter_text_ob (ps.map lpAV) false κ = κ (B (txG false false ps)) := lText_eq false ps (by have := g.len; omega) (by have := g.tl; omega) g.ok κ
theorem lCl_eq (ps : List Pc) (g : Gd ps) (κ : ByteArray → Option R) : letter_text_ob (ps.map lpAV) true κ = κ (B (clT ps)) := lText_eq true ps (by have := g.len; omega) (by have := g.tl; omega) g.ok κ
theorem lFd_eq (ps : List Pc) (g : Gd ps) (c : UInt8) (κ : Int → Option R) : letter_find_ois (ps.map lpAV) 0 (B [c]) κ = κ (fd c ps : Int) := by
  have := lFind_eq ps (by have := g.len; omega) c 0 (by omega) κ
  simpa using this
/-! ## Routes -/
def routedG : List Pc → Bool
  | [] => false
  | p :: r => bif p.1 != 0 then isS 64 p else routedG r
theorem lRouted_loop (ps : List Pc) (g : Gd ps) (κ : Bool → Option R) : ∀ (f i : Nat), i ≤ ps.length → ps.length < i + f →
    letter_routed_o.L2 letter_piece_is_0 κ f (ps.map lpAV) (ps.length : Int) (i : Int) = κ (routedG (ps.drop i))
  | 0, i, h1, h2 => by omega
  | f + 1, i, h1, h2 => by
    have hn := g.len
    rw [letter_routed_o.L2, letter_routed_o.t2]
    simp only [List.length_map]
    cases hd : ps.drop i with
    | nil =>
      have := drop_nil hd
      rw [cond_dec' (by omega)]; rfl
    | cons p r =>
      obtain ⟨g1, g2, g3⟩ := drop_get hd
      have hw1 : IntKind.wrap .i64 ((i : Int) + 1) = ((i + 1 : Nat) : Int) := wrap_i64 (by omega) (by omega)
      rw [show (⟨#[64]⟩ : ByteArray) = B [64] from rfl]
      simp (disch := omega) only [cond_dec, chk_and, chk_dec, lpA ps i p g1, lp0, lp1, is_eq, hw1]
      have e0 : ((p.1 : Int) != 0) = (p.1 != 0) := by rw [Bool.eq_iff_iff]; simp
      rw [e0, routedG]
      cases (p.1 != 0) with
      | true => rfl
      | false =>
        simp only [cond_false]
        rw [lRouted_loop ps g κ f (i + 1) (by omega) (by omega), g3]
theorem lRouted_eq (ps : List Pc) (g : Gd ps) (κ : Bool → Option R) : letter_routed_o (ps.map lpAV) κ = κ (routedG ps) := by
  have hn := g.len
  have key : ∀ f, ps.length < f → letter_routed_o.e letter_piece_is_0 (ps.map lpAV) (letter_routed_o.L2 letter_piece_is_0 κ f) κ = κ (routedG ps) := by
    intro f hf
    unfold letter_routed_o.e
    rw [List.length_map]
    exact lRouted_loop ps g κ f 0 (by omega) (by omega)
  exact key fuelK (by unfold fuelK; omega)
/-- The last @ of a row. -/
def laG : Option Nat → Nat → List Pc → Option Nat
  | o, _, [] => o
  | o, i, p :: r => laG (bif isS 64 p then some i else o) (i + 1) r
def aI : Option Nat → Int
  | some n => n
  | none => -1
theorem laG_lt : ∀ (ps : List Pc) (o : Option Nat) (i n : Nat), laG o i ps = some n → (∀ m, o = some m → m < i + ps.length) → n < i + ps.length
  | [], o, i, n, h, ho => ho n h
  | p :: r, o, i, n, h, ho => by
    rw [laG] at h
    have := laG_lt r _ (i + 1) n h (by
      intro m hm
      cases hs : isS 64 p with
      | true => rw [hs] at hm; cases hm; omega
      | false => rw [hs] at hm; have := ho m hm; simp only [List.length_cons] at this; omega)
    simp only [List.length_cons]; omega
end Go.Proofs.Ab

/- One address. -/
namespace Go.Proofs.Ab
set_option linter.unusedVariables false
set_option maxRecDepth 4000
open Go
variable {R : Type}
/-- Box and host of a place. -/
def bhG (ps : List Pc) : Option Nat → List UInt8 × List UInt8
  | none => (txG false false ps, [])
  | some n => (clT (ps.take n), clT (ps.drop (n + 1)))
abbrev K8 (R : Type) := Bool → ByteArray → Bool → ByteArray → Bool → ByteArray → Bool → ByteArray → Option R
theorem e0l (p : Pc) : ((p.1 : Int) == 0) = (p.1 == 0) := by rw [Bool.eq_iff_iff]; simp
abbrev laL14 (κ : K8 R) := letter_address_o.L14 letter_find_ois letter_held_o letter_text_ob letter_some_0 letter_routed_o letter_piece_is_0 κ
abbrev laL13 (κ : K8 R) := letter_address_o.L13 letter_find_ois letter_held_o letter_text_ob letter_some_0 letter_routed_o letter_piece_is_0 κ
abbrev laL7 (κ : K8 R) := letter_address_o.L7 letter_find_ois letter_held_o letter_text_ob letter_some_0 letter_routed_o letter_piece_is_0 κ
theorem la14 (ps : List Pc) (g : Gd ps) (κ : K8 R) (x5 : Bool) (x6 : ByteArray) (x7 : Bool) (x8 : ByteArray) (x9 : Bool) (x10 : ByteArray) (x11 : Bool) (x12 : ByteArray) (x13 : Bool) (x14 : ByteArray) (x15 : Bool) (x16 : ByteArray) (x17 : Bool) (x18 : ByteArray) (x19 : Bool) (x20 : ByteArray) :
    ∀ (f i : Nat) (o : Option Nat), i ≤ ps.length → ps.length < i + f → (∀ m, o = some m → m < i) →
    laL14 κ f (ps.map lpAV) (aI o) (ps.map lpAV) (ps.length : Int) (i : Int) x5 x6 x7 x8 x9 x10 x11 x12 x13 x14 x15 x16 x17 x18 x19 x20 = κ x13 x14 x15 x16 true (B (bhG ps (laG o i (ps.drop i))).1) true (B (bhG ps (laG o i (ps.drop i))).2)
  | 0, i, o, h1, h2, h3 => by omega
  | f + 1, i, o, h1, h2, h3 => by
    have hn := g.len
    unfold laL14
    rw [letter_address_o.L14, letter_address_o.t14]
    have hlm : (ps.map lpAV).length = ps.length := List.length_map ..
    simp only [hlm]
    have so : ∀ (a : ByteArray) (k : Bool → ByteArray → Option R), letter_some_0 a k = k true a := fun _ _ => rfl
    cases hd : ps.drop i with
    | nil =>
      have := drop_nil hd
      rw [cond_dec' (by omega), laG]
      cases o with
      | none =>
        rw [cond_dec (show aI none < 0 by decide), lTx_eq ps g]
        simp only [so]
        rfl
      | some n =>
        have hm := h3 n rfl
        have hw1 : IntKind.wrap .i64 ((n : Int) + 1) = ((n + 1 : Nat) : Int) := wrap_i64 (by omega) (by omega)
        have ha : aI (some n) = (n : Int) := rfl
        simp only [ha]
        rw [cond_dec' (by omega)]
        simp only [hw1]
        simp (disch := omega) only [chk_and, chk_dec]
        have hc1 : cutA (ps.map lpAV) 0 (n : Int) = (ps.take n).map lpAV := cutL ps 0 n
        have hc2 : cutA (ps.map lpAV) ((n + 1 : Nat) : Int) (ps.length : Int) = (ps.drop (n + 1)).map lpAV := by rw [cutL, List.take_length]
        rw [hc1, hc2, lCl_eq _ (g.take n)]
        simp only [so]
        rw [lCl_eq _ (g.drop (n + 1))]
        rfl
    | cons p r =>
      obtain ⟨g1, g2, g3⟩ := drop_get hd
      have hw1 : IntKind.wrap .i64 ((i : Int) + 1) = ((i + 1 : Nat) : Int) := wrap_i64 (by omega) (by omega)
      rw [show (⟨#[64]⟩ : ByteArray) = B [64] from rfl]
      simp (disch := omega) only [cond_dec, chk_and, chk_dec, lpA ps i p g1, lp0, lp1, is_eq, hw1]
      rw [laG]
      have h1 := la14 ps g κ x5 x6 x7 x8 x9 x10 x11 x12 x13 x14 x15 x16 x17 x18 x19 x20 f (i + 1) (some i) (by omega) (by omega) (by intro m hm; cases hm; omega)
      have h2 := la14 ps g κ x5 x6 x7 x8 x9 x10 x11 x12 x13 x14 x15 x16 x17 x18 x19 x20 f (i + 1) o (by omega) (by omega) (by intro m hm; have := h3 m hm; omega)
      rw [g3] at h1 h2
      cases isS 64 p with
      | true => exact h1
      | false => exact h2
/-- Name and route, and the place. -/
def plG (ps : List Pc) : Option (List UInt8) × Option (List UInt8) × List Pc :=
  if fd 60 ps < ps.length then
    let n := if heldG (ps.take (fd 60 ps)) = true then some (txG false false (ps.take (fd 60 ps))) else none
    let pl := (ps.drop (fd 60 ps + 1)).take (fd 62 (ps.drop (fd 60 ps + 1)))
    if fd 58 pl < pl.length ∧ routedG pl = true then (n, some (clT (pl.take (fd 58 pl))), pl.drop (fd 58 pl + 1)) else (n, none, pl)
  else (none, none, ps)
/-- An address: name, route, box, host. -/
abbrev Adr := Option (List UInt8) × Option (List UInt8) × Option (List UInt8) × Option (List UInt8)
def addrG (ps : List Pc) : Adr :=
  ((plG ps).1, (plG ps).2.1, some (bhG (plG ps).2.2 (laG none 0 (plG ps).2.2)).1, some (bhG (plG ps).2.2 (laG none 0 (plG ps).2.2)).2)
def k8 (κ : K8 R) (a : Adr) : Option R :=
  κ a.1.isSome (B (a.1.getD [])) a.2.1.isSome (B (a.2.1.getD [])) a.2.2.1.isSome (B (a.2.2.1.getD [])) a.2.2.2.isSome (B (a.2.2.2.getD []))
theorem la13 (ps : List Pc) (g : Gd ps) (κ : K8 R) (f : Nat) (hf : ps.length < f) (x2 : Bool) (x3 : ByteArray) (x4 : Bool) (x5 : ByteArray) (x6 : Bool) (x7 : ByteArray) (x8 : Bool) (x9 : ByteArray) (n r : Option (List UInt8)) (x14 : Bool) (x15 : ByteArray) (x16 : Bool) (x17 : ByteArray) :
    laL13 κ (f + 1) (ps.map lpAV) (-1) x2 x3 x4 x5 x6 x7 x8 x9 n.isSome (B (n.getD [])) r.isSome (B (r.getD [])) x14 x15 x16 x17 = k8 κ (n, r, some (bhG ps (laG none 0 ps)).1, some (bhG ps (laG none 0 ps)).2) := by
  unfold laL13
  rw [letter_address_o.L13, letter_address_o.t13, List.length_map]
  have := la14 ps g κ x2 x3 x4 x5 x6 x7 x8 x9 n.isSome (B (n.getD [])) r.isSome (B (r.getD [])) x14 x15 x16 x17 f 0 none (by omega) (by omega) (by intro m hm; cases hm)
  rw [List.drop_zero] at this
  exact this
theorem fd_get (c : UInt8) (l : List Pc) (h : fd c l < l.length) : ∃ p, l.drop (fd c l) = p :: l.drop (fd c l + 1) ∧ isS c p = true := by
  induction l with
  | nil => simp at h
  | cons p r ih =>
    rw [fd_cons] at h ⊢
    cases hs : isS c p with
    | true => exact ⟨p, rfl, hs⟩
    | false =>
      rw [hs] at h
      simp only [cond_false, List.length_cons] at h
      simp only [cond_false, List.drop_succ_cons]
      exact ih (by omega)
theorem la7 (ps : List Pc) (g : Gd ps) (κ : K8 R) (f : Nat) (hf : ps.length < f) (h60 : fd 60 ps < ps.length) (n : Option (List UInt8)) (hn : n = if heldG (ps.take (fd 60 ps)) = true then some (txG false false (ps.take (fd 60 ps))) else none) (nb : Bool) (nB : ByteArray) (hnb : nb = n.isSome) (hnB : nB = B (n.getD [])) (x2 : Bool) (x3 : ByteArray) (x4 : Bool) (x5 : ByteArray) (x6 : Bool) (x7 : ByteArray) (x8 : Bool) (x9 : ByteArray) (x14 : Bool) (x15 : ByteArray) (x16 : Bool) (x17 : ByteArray) :
    laL7 κ (f + 2) (ps.map lpAV) (fd 60 ps : Int) x2 x3 x4 x5 x6 x7 x8 x9 nb nB false (⟨#[]⟩ : ByteArray) x14 x15 x16 x17 = k8 κ (addrG ps) := by
  subst hnb hnB
  have hlen := g.len
  unfold laL7
  rw [letter_address_o.L7, letter_address_o.t7]
  rw [show (⟨#[62]⟩ : ByteArray) = B [62] from rfl, show (⟨#[58]⟩ : ByteArray) = B [58] from rfl, lFind_eq ps (by omega) 62 (fd 60 ps) (by omega)]
  obtain ⟨p, hp, hs⟩ := fd_get 60 ps h60
  have h62 : isS 62 p = false := by
    unfold isS at hs ⊢
    rw [Bool.and_eq_true, beq_iff_eq, beq_iff_eq] at hs
    rw [hs.1, hs.2]; rfl
  rw [hp, fd_cons, h62]
  simp only [cond_false]
  generalize hr : ps.drop (fd 60 ps + 1) = r
  have hrl : r.length = ps.length - (fd 60 ps + 1) := by rw [← hr, List.length_drop]
  have hfr := fd_le 62 r
  have hw1 : IntKind.wrap .i64 ((fd 60 ps : Int) + 1) = ((fd 60 ps + 1 : Nat) : Int) := wrap_i64 (by omega) (by omega)
  have hcut : cutA (ps.map lpAV) ((fd 60 ps + 1 : Nat) : Int) ((fd 60 ps + (fd 62 r + 1) : Nat) : Int) = (r.take (fd 62 r)).map lpAV := by
    rw [cutL, List.drop_take, hr]; congr 2; omega
  have gp : Gd (r.take (fd 62 r)) := by rw [← hr]; exact (g.drop _).take _
  have hpl : plG ps = if fd 58 (r.take (fd 62 r)) < (r.take (fd 62 r)).length ∧ routedG (r.take (fd 62 r)) = true then (n, some (clT ((r.take (fd 62 r)).take (fd 58 (r.take (fd 62 r))))), (r.take (fd 62 r)).drop (fd 58 (r.take (fd 62 r)) + 1)) else (n, none, r.take (fd 62 r)) := by
    unfold plG
    rw [if_pos h60, ← hn, hr]
  have hpll : (r.take (fd 62 r)).length ≤ ps.length := by rw [List.length_take]; omega
  simp only [hw1, List.length_map, hcut]
  rw [chk_and, chk_dec (by omega), chk_and, chk_dec (by omega), chk_dec (by omega), lFd_eq _ gp]
  generalize r.take (fd 62 r) = pl at *
  have gpl := gp.len
  have hf58 := fd_le 58 pl
  have no : ¬ (fd 58 pl < pl.length ∧ routedG pl = true) → laL13 κ (f + 1) (pl.map lpAV) (-1) x2 x3 x4 x5 x6 x7 x8 x9 n.isSome (B (n.getD [])) false (⟨#[]⟩ : ByteArray) x14 x15 x16 x17 = k8 κ (addrG ps) := by
    intro hno
    have := la13 pl gp κ f (by omega) x2 x3 x4 x5 x6 x7 x8 x9 n none x14 x15 x16 x17
    refine this.trans ?_
    unfold addrG
    rw [hpl, if_neg hno]
  have so : ∀ (a : ByteArray) (k : Bool → ByteArray → Option R), letter_some_0 a k = k true a := fun _ _ => rfl
  by_cases hc : fd 58 pl < pl.length
  · rw [cond_dec (by omega), lRouted_eq pl gp]
    cases hrt : routedG pl with
    | false => exact no (fun h => by rw [hrt] at h; cases h.2)
    | true =>
      have hw2 : IntKind.wrap .i64 ((fd 58 pl : Int) + 1) = ((fd 58 pl + 1 : Nat) : Int) := wrap_i64 (by omega) (by omega)
      have hc1 : cutA (pl.map lpAV) 0 (fd 58 pl : Int) = (pl.take (fd 58 pl)).map lpAV := cutL pl 0 _
      have hc2 : cutA (pl.map lpAV) ((fd 58 pl + 1 : Nat) : Int) (pl.length : Int) = (pl.drop (fd 58 pl + 1)).map lpAV := by rw [cutL, List.take_length]
      simp only [cond_true, hw2, hc1, hc2]
      simp (disch := omega) only [chk_and, chk_dec]
      rw [lCl_eq _ (gp.take _)]
      simp only [so]
      have := la13 (pl.drop (fd 58 pl + 1)) (gp.drop _) κ f (by rw [List.length_drop]; omega) x2 x3 x4 x5 x6 x7 x8 x9 n (some (clT (pl.take (fd 58 pl)))) x14 x15 x16 x17
      refine this.trans ?_
      unfold addrG
      rw [hpl, if_pos ⟨hc, hrt⟩]
  · rw [cond_dec' (by omega)]
    exact no (fun h => hc h.1)
theorem lAddr_eq (ps : List Pc) (g : Gd ps) (κ : K8 R) : letter_address_o (ps.map lpAV) κ = k8 κ (addrG ps) := by
  have hlen := g.len
  have key : ∀ F, ps.length + 2 < F → letter_address_o.e letter_find_ois letter_held_o letter_text_ob letter_some_0 letter_routed_o letter_piece_is_0 (ps.map lpAV) (laL7 κ F) (laL13 κ F) (laL14 κ F) κ = k8 κ (addrG ps) := by
    intro F hF
    obtain ⟨f, rfl⟩ : ∃ f, F = f + 2 := ⟨F - 2, by omega⟩
    have hf : ps.length < f := by omega
    unfold letter_address_o.e
    rw [show (⟨#[60]⟩ : ByteArray) = B [60] from rfl, lFd_eq ps g 60]
    simp only [List.length_map]
    have hfd := fd_le 60 ps
    have so : ∀ (a : ByteArray) (k : Bool → ByteArray → Option R), letter_some_0 a k = k true a := fun _ _ => rfl
    by_cases h : fd 60 ps < ps.length
    · have hc1 : cutA (ps.map lpAV) 0 (fd 60 ps : Int) = (ps.take (fd 60 ps)).map lpAV := cutL ps 0 _
      simp (disch := omega) only [cond_dec, chk_and, chk_dec, hc1]
      rw [lHeld_eq _ (g.take _)]
      cases hh : heldG (ps.take (fd 60 ps)) with
      | true =>
        simp only [cond_true]
        rw [lTx_eq _ (g.take _)]
        simp only [so]
        exact la7 ps g κ f hf h (some (txG false false (ps.take (fd 60 ps)))) (by rw [hh]; rfl) true _ rfl rfl _ _ _ _ _ _ _ _ _ _ _ _
      | false =>
        simp only [cond_false]
        exact la7 ps g κ f hf h none (by rw [hh]; rfl) false (⟨#[]⟩ : ByteArray) rfl rfl _ _ _ _ _ _ _ _ _ _ _ _
    · rw [cond_dec' (by omega)]
      have := la13 ps g κ (f + 1) (by omega) false (⟨#[]⟩ : ByteArray) false (⟨#[]⟩ : ByteArray) false (⟨#[]⟩ : ByteArray) false (⟨#[]⟩ : ByteArray) none none false (⟨#[]⟩ : ByteArray) false (⟨#[]⟩ : ByteArray)
      refine this.trans ?_
      unfold addrG plG
      rw [if_neg h]
  exact key fuelK (by unfold fuelK; omega)
end Go.Proofs.Ab

/- One address, by the document. -/
namespace Go.Proofs.Ab
set_option linter.unusedVariables false
set_option maxRecDepth 4000
open Go
variable {R : Type}
theorem addrG_pl (ps : List Pc) (h60 : fd 60 ps < ps.length) (n : Option (List UInt8)) (hn : n = if heldG (ps.take (fd 60 ps)) = true then some (txG false false (ps.take (fd 60 ps))) else none) (pl : List Pc) (hpl : pl = (ps.drop (fd 60 ps + 1)).take (fd 62 (ps.drop (fd 60 ps + 1)))) :
    addrG ps = if fd 58 pl < pl.length ∧ routedG pl = true then (n, some (clT (pl.take (fd 58 pl))), some (bhG (pl.drop (fd 58 pl + 1)) (laG none 0 (pl.drop (fd 58 pl + 1)))).1, some (bhG (pl.drop (fd 58 pl + 1)) (laG none 0 (pl.drop (fd 58 pl + 1)))).2)
      else (n, none, some (bhG pl (laG none 0 pl)).1, some (bhG pl (laG none 0 pl)).2) := by
  have hpl : plG ps = if fd 58 pl < pl.length ∧ routedG pl = true then (n, some (clT (pl.take (fd 58 pl))), pl.drop (fd 58 pl + 1)) else (n, none, pl) := by
    unfold plG
    rw [if_pos h60, ← hn, ← hpl]
  unfold addrG
  rw [hpl]
  by_cases hc : fd 58 pl < pl.length ∧ routedG pl = true
  · rw [if_pos hc, if_pos hc]
  · rw [if_neg hc, if_neg hc]
end Go.Proofs.Ab

/- All addresses of a value. -/
namespace Go.Proofs.Ab
set_option linter.unusedVariables false
set_option maxRecDepth 4000
open Go
variable {R : Type}
def adAV (a : Adr) : AV := .agg [.bool a.1.isSome, .str (B (a.1.getD [])), .bool a.2.1.isSome, .str (B (a.2.1.getD [])), .bool a.2.2.1.isSome, .str (B (a.2.2.1.getD [])), .bool a.2.2.2.isSome, .str (B (a.2.2.2.getD []))]
def eo : Adr := (none, none, none, none)
def grp (t : List UInt8) : Adr := (none, none, some t, none)
/-- The sign at a part's end. -/
def sgn (l : List Pc) : Pc := (l[ptG l]?).getD (0, [])
def rowA (row : List Pc) : List Adr := if heldG row = true then [addrG row] else []
def adsG : Bool → List Pc → List Adr
  | g, [] => if g = true then [eo] else []
  | g, p :: r =>
    if ptG (p :: r) < (p :: r).length then
      if isS 58 (sgn (p :: r)) = true ∧ g = false then grp (txG false false ((p :: r).take (ptG (p :: r)))) :: adsG true ((p :: r).drop (ptG (p :: r) + 1))
      else rowA ((p :: r).take (ptG (p :: r))) ++ (if isS 59 (sgn (p :: r)) = true ∧ g = true then eo :: adsG false ((p :: r).drop (ptG (p :: r) + 1)) else adsG g ((p :: r).drop (ptG (p :: r) + 1)))
    else rowA ((p :: r).take (ptG (p :: r))) ++ (if g = true then [eo] else [])
termination_by _ l => l.length
decreasing_by
  all_goals
    rw [List.length_drop]; simp only [List.length_cons]; omega
theorem adsG_nil (g : Bool) : adsG g [] = if g = true then [eo] else [] := by rw [adsG]
theorem adsG_cons (g : Bool) (l : List Pc) (hl : l ≠ []) : adsG g l =
    if ptG l < l.length then
      if isS 58 (sgn l) = true ∧ g = false then grp (txG false false (l.take (ptG l))) :: adsG true (l.drop (ptG l + 1))
      else rowA (l.take (ptG l)) ++ (if isS 59 (sgn l) = true ∧ g = true then eo :: adsG false (l.drop (ptG l + 1)) else adsG g (l.drop (ptG l + 1)))
    else rowA (l.take (ptG l)) ++ (if g = true then [eo] else []) := by
  cases l with
  | nil => exact absurd rfl hl
  | cons p r => rw [adsG]
/-- Also where the row is empty. -/
theorem adsG_any (g : Bool) (l : List Pc) : adsG g l =
    if ptG l < l.length then
      if isS 58 (sgn l) = true ∧ g = false then grp (txG false false (l.take (ptG l))) :: adsG true (l.drop (ptG l + 1))
      else rowA (l.take (ptG l)) ++ (if isS 59 (sgn l) = true ∧ g = true then eo :: adsG false (l.drop (ptG l + 1)) else adsG g (l.drop (ptG l + 1)))
    else rowA (l.take (ptG l)) ++ (if g = true then [eo] else []) := by
  cases l with
  | nil => rw [adsG_nil, ptG_nil, if_neg (show ¬ (0 < ([] : List Pc).length) by simp)]; rfl
  | cons p r => exact adsG_cons g _ (by simp)
theorem sgn_at {l : List Pc} (h : ptG l < l.length) : l[ptG l]? = some (sgn l) ∧ (isS 44 (sgn l) || isS 59 (sgn l) || isS 58 (sgn l)) = true := by
  obtain ⟨p, hp, hs⟩ := (ptG_at _ l (Nat.le_refl _)).2 h
  have : sgn l = p := by unfold sgn; rw [hp]; rfl
  rw [this]; exact ⟨hp, hs⟩
theorem sgn_kind {p : Pc} (h : (isS 44 p || isS 59 p || isS 58 p) = true) : p.1 = 3 ∧ p.2 ≠ [] := by
  unfold isS at h
  rw [Bool.or_eq_true, Bool.or_eq_true, Bool.and_eq_true, Bool.and_eq_true, Bool.and_eq_true] at h
  rcases h with (⟨h1, h2⟩ | ⟨h1, h2⟩) | ⟨h1, h2⟩ <;> · rw [beq_iff_eq] at h1 h2; exact ⟨h1, by rw [h2]; simp⟩
theorem sgn_dec {p : Pc} (h : (isS 44 p || isS 59 p || isS 58 p) = true) (c : UInt8) : decide (B p.2 = B [c]) = isS c p := by
  unfold isS
  rw [(sgn_kind h).1, Bool.eq_iff_iff, decide_eq_true_eq, B_inj]; simp
def take32 (l : List Adr) : List Adr := l.take 32
abbrev lAs5 (κ : List AV → Option R) := letter_Addresses_0.L5 letter_pieces_0 letter_part_oi letter_text_ob letter_some_0 letter_held_o letter_address_o κ
abbrev lAs13 (κ : List AV → Option R) := letter_Addresses_0.L13 letter_pieces_0 letter_part_oi letter_text_ob letter_some_0 letter_held_o letter_address_o κ
theorem lAs5_succ (κ : List AV → Option R) (f : Nat) (g : Bool) (i : Int) (a b : List AV) : lAs5 κ (f + 1) g i a b = letter_Addresses_0.t5 letter_pieces_0 letter_part_oi letter_text_ob letter_some_0 letter_held_o letter_address_o g i a b (lAs5 κ f) (lAs13 κ f) κ := by
  unfold lAs5 lAs13 letter_Addresses_0.L5 letter_Addresses_0.L13
  rw [letter_Addresses_0.M5]
theorem lAs13_succ (κ : List AV → Option R) (f : Nat) (g : Bool) (i : Int) (s : ByteArray) (a b : List AV) : lAs13 κ (f + 1) g i s a b = letter_Addresses_0.t13 letter_pieces_0 letter_part_oi letter_text_ob letter_some_0 letter_held_o letter_address_o g i s a b (lAs5 κ f) (lAs13 κ f) κ := by
  unfold lAs5 lAs13 letter_Addresses_0.L5 letter_Addresses_0.L13
  rw [letter_Addresses_0.M5]
theorem adAV_snoc (out : List Adr) (a : Adr) : out.map adAV ++ [adAV a] = (out ++ [a]).map adAV := by simp
theorem lSome (a : ByteArray) (k : Bool → ByteArray → Option R) : letter_some_0 a k = k true a := by
  unfold letter_some_0 letter_some_0.e
  exact Eq.refl _
theorem lAs13_at (κ : List AV → Option R) (f : Nat) (g : Bool) (i : Nat) (hi : i ≤ 1000000) (e : List UInt8) (out : List Adr) (ho : out.length ≤ 3000000) (b : List AV) :
    lAs13 κ (f + 1) g (i : Int) (B e) (out.map adAV) b = if g = true ∧ (e = [59] ∨ e = []) then lAs5 κ f false ((i + 1 : Nat) : Int) ((out ++ [eo]).map adAV) b else lAs5 κ f g ((i + 1 : Nat) : Int) (out.map adAV) b := by
  have hw1 : IntKind.wrap .i64 ((i : Int) + 1) = ((i + 1 : Nat) : Int) := wrap_i64 (by omega) (by omega)
  have hom : (out.map adAV).length = out.length := List.length_map ..
  rw [lAs13_succ, letter_Addresses_0.t13, hw1]
  have heo : AV.agg [AV.bool false, AV.str (⟨#[]⟩ : ByteArray), AV.bool false, AV.str (⟨#[]⟩ : ByteArray), AV.bool false, AV.str (⟨#[]⟩ : ByteArray), AV.bool false, AV.str (⟨#[]⟩ : ByteArray)] = adAV eo := rfl
  rw [heo, adAV_snoc]
  cases g with
  | false => simp
  | true =>
    simp only [cond_true, true_and]
    rw [chk_dec (by omega)]
    by_cases h1 : e = [59]
    · rw [cond_dec (show B e = (⟨#[59]⟩ : ByteArray) by rw [h1]; rfl), if_pos (Or.inl h1)]
    · rw [cond_dec' (show ¬ B e = (⟨#[59]⟩ : ByteArray) from fun h => h1 (B_inj.1 h))]
      by_cases h2 : e = []
      · rw [cond_dec (show B e = (⟨#[]⟩ : ByteArray) by rw [h2]; rfl), if_pos (Or.inr h2)]
      · rw [cond_dec' (show ¬ B e = (⟨#[]⟩ : ByteArray) from fun h => h2 (B_inj.1 h)), if_neg (by rintro (h | h); exact h1 h; exact h2 h)]
theorem lAs_end (out : List Adr) (ho : out.length ≤ 3000000) (κ : List AV → Option R) :
    (bif (decide (((out.map adAV).length : Int) > (32 : Int))) then (chk (decide ((32 : Int) ≤ ((out.map adAV).length : Int))) (chk (decide ((0 + (cutA (out.map adAV) 0 32).length) * 96 ≤ 140737488355328)) (κ (cutA (out.map adAV) 0 32)))) else (κ (out.map adAV))) = κ ((take32 out).map adAV) := by
  have hom : (out.map adAV).length = out.length := List.length_map ..
  have hc : cutA (out.map adAV) 0 32 = (out.take 32).map adAV := by unfold cutA; rw [List.map_take]; rfl
  unfold take32
  by_cases h : 32 < out.length
  · have hl : ((out.take 32).map adAV).length = 32 := by rw [List.length_map, List.length_take]; omega
    rw [cond_dec (by omega), hc, chk_dec (by omega), chk_dec (by omega)]
  · rw [cond_dec' (by omega), List.take_of_length_le (by omega)]
theorem lAs_loop (ps : List Pc) (gd : Gd ps) (κ : List AV → Option R) : ∀ (f i : Nat) (g : Bool) (out : List Adr), i ≤ ps.length + 1 → 2 * ps.length + 6 < 2 * i + f → out.length ≤ 2 * i → (i = ps.length + 1 → g = false) →
    lAs5 κ f g (i : Int) (out.map adAV) (ps.map lpAV) = κ ((take32 (out ++ if i ≤ ps.length then adsG g (ps.drop i) else [])).map adAV)
  | 0, i, g, out, h1, h2, h3, h4 => by omega
  | 1, i, g, out, h1, h2, h3, h4 => by omega
  | f + 2, i, g, out, h1, h2, h3, h4 => by
    have hn := gd.len
    rw [lAs5_succ, letter_Addresses_0.t5]
    simp only [lAs_end out (by omega)]
    have hlm : (ps.map lpAV).length = ps.length := List.length_map ..
    have hom : (out.map adAV).length = out.length := List.length_map ..
    simp only [hlm]
    by_cases hi : i ≤ ps.length
    · rw [cond_dec (by omega), if_pos hi, lPart_eq ps gd i hi, adsG_any]
      obtain ⟨b1, b2⟩ := ptG_at _ (ps.drop i) (Nat.le_refl _)
      have gl := gd.drop i
      have hll : (ps.drop i).length = ps.length - i := List.length_drop
      have hcut : cutA (ps.map lpAV) (i : Int) ((i + ptG (ps.drop i) : Nat) : Int) = ((ps.drop i).take (ptG (ps.drop i))).map lpAV := by
        rw [cutL, List.drop_take]; congr 2; omega
      have hdd : ∀ k, ps.drop (i + k) = (ps.drop i).drop k := fun k => by rw [List.drop_drop]
      have gr := gl.take (ptG (ps.drop i))
      have sg := @sgn_at (ps.drop i)
      have hw1 : IntKind.wrap .i64 (((i + ptG (ps.drop i) : Nat) : Int) + 1) = ((i + ptG (ps.drop i) + 1 : Nat) : Int) := wrap_i64 (by omega) (by omega)
      -- where a row is told of, and the sign behind it
      have row : ∀ (e : List UInt8) (z : List Adr), (e = [] ∨ e = (sgn (ps.drop i)).2) →
          (∀ out' : List Adr, out'.length ≤ 2 * i + 1 → (if g = true ∧ (e = [59] ∨ e = []) then lAs5 κ f false ((i + ptG (ps.drop i) + 1 : Nat) : Int) ((out' ++ [eo]).map adAV) (ps.map lpAV) else lAs5 κ f g ((i + ptG (ps.drop i) + 1 : Nat) : Int) (out'.map adAV) (ps.map lpAV)) = κ ((take32 (out' ++ z)).map adAV)) →
          (letter_held_o (((ps.drop i).take (ptG (ps.drop i))).map lpAV) (fun r351 => (bif r351 then (letter_address_o (((ps.drop i).take (ptG (ps.drop i))).map lpAV) (fun r352 r353 r354 r355 r356 r357 r358 r359 => (chk (decide ((out.length + 1) * 96 ≤ 140737488355328)) (lAs13 κ (f + 1) g ((i + ptG (ps.drop i) : Nat) : Int) (B e) (out.map adAV ++ [AV.agg [AV.bool r352, AV.str r353, AV.bool r354, AV.str r355, AV.bool r356, AV.str r357, AV.bool r358, AV.str r359]]) (ps.map lpAV))))) else (lAs13 κ (f + 1) g ((i + ptG (ps.drop i) : Nat) : Int) (B e) (out.map adAV) (ps.map lpAV)))))
            = κ ((take32 (out ++ (rowA ((ps.drop i).take (ptG (ps.drop i))) ++ z))).map adAV) := by
        intro e z _ hz
        rw [lHeld_eq _ gr]
        unfold rowA
        cases hh : heldG ((ps.drop i).take (ptG (ps.drop i))) with
        | true =>
          simp only [cond_true, if_true]
          rw [lAddr_eq _ gr]
          unfold k8
          show (chk (decide ((out.length + 1) * 96 ≤ 140737488355328)) _) = _
          rw [chk_dec (by omega)]
          have : ∀ a : Adr, AV.agg [AV.bool a.1.isSome, AV.str (B (a.1.getD [])), AV.bool a.2.1.isSome, AV.str (B (a.2.1.getD [])), AV.bool a.2.2.1.isSome, AV.str (B (a.2.2.1.getD [])), AV.bool a.2.2.2.isSome, AV.str (B (a.2.2.2.getD []))] = adAV a := fun _ => rfl
          rw [this, adAV_snoc, lAs13_at κ f g _ (by omega) e _ (by simp; omega), hz _ (by simp; omega), List.append_assoc]
        | false =>
          simp only [cond_false, Bool.false_eq_true, if_false, List.nil_append]
          rw [lAs13_at κ f g _ (by omega) e _ (by omega), hz _ (by omega)]
      generalize hl : ps.drop i = l at *
      have next := fun (g' : Bool) (out' : List Adr) (h : out'.length ≤ 2 * (i + ptG l + 1)) (h5 : i + ptG l + 1 = ps.length + 1 → g' = false) => lAs_loop ps gd κ f (i + ptG l + 1) g' out' (by omega) (by omega) h h5
      have nd : i + ptG l + 1 ≤ ps.length → ps.drop (i + ptG l + 1) = l.drop (ptG l + 1) := fun _ => by rw [Nat.add_assoc, hdd]
      by_cases hp : ptG l < l.length
      · obtain ⟨s1, s2⟩ := sg hp
        rw [cond_dec (by omega), if_pos hp]
        have hget : ps[i + ptG l]? = some (sgn l) := by rw [← s1, ← hl, List.getElem?_drop]
        simp only [lpA ps _ _ hget, lp1, hcut, hw1]
        rw [chk_and, chk_dec (by omega), chk_dec (by omega), chk_and, chk_dec (by omega), chk_and, chk_dec (by omega), chk_dec (by omega)]
        rw [show (⟨#[58]⟩ : ByteArray) = B [58] from rfl, sgn_dec s2 58]
        have nx : ∀ out' : List Adr, out'.length ≤ 2 * i + 1 → (if g = true ∧ ((sgn l).2 = [59] ∨ (sgn l).2 = []) then lAs5 κ f false ((i + ptG l + 1 : Nat) : Int) ((out' ++ [eo]).map adAV) (ps.map lpAV) else lAs5 κ f g ((i + ptG l + 1 : Nat) : Int) (out'.map adAV) (ps.map lpAV)) = κ ((take32 (out' ++ if isS 59 (sgn l) = true ∧ g = true then eo :: adsG false (l.drop (ptG l + 1)) else adsG g (l.drop (ptG l + 1)))).map adAV) := by
          intro out' ho'
          have h59 : ((sgn l).2 = [59] ∨ (sgn l).2 = []) ↔ isS 59 (sgn l) = true := by
            rw [← sgn_dec s2 59, decide_eq_true_eq, B_inj]
            exact ⟨fun h => h.resolve_right (sgn_kind s2).2, Or.inl⟩
          by_cases hc : g = true ∧ isS 59 (sgn l) = true
          · rw [if_pos ⟨hc.1, h59.2 hc.2⟩, if_pos ⟨hc.2, hc.1⟩, next false _ (by simp; omega) (fun _ => rfl), if_pos (by omega), nd (by omega)]
            simp
          · rw [if_neg (fun h => hc ⟨h.1, h59.1 h.2⟩), if_neg (fun h => hc ⟨h.2, h.1⟩), next g _ (by omega) (fun h => by omega), if_pos (by omega), nd (by omega)]
        cases h58 : isS 58 (sgn l) with
        | true =>
          simp only [cond_true]
          cases g with
          | false =>
            simp only [Bool.not_false, cond_true, true_and, if_true]
            rw [lTx_eq _ gr]
            simp only [lSome]
            rw [hom, chk_dec (by omega)]
            have : AV.agg [AV.bool false, AV.str (⟨#[]⟩ : ByteArray), AV.bool false, AV.str (⟨#[]⟩ : ByteArray), AV.bool true, AV.str (B (txG false false (l.take (ptG l)))), AV.bool false, AV.str (⟨#[]⟩ : ByteArray)] = adAV (grp (txG false false (l.take (ptG l)))) := rfl
            have nx2 := lAs_loop ps gd κ (f + 1) (i + ptG l + 1) true (out ++ [grp (txG false false (l.take (ptG l)))]) (by omega) (by omega) (by simp; omega) (fun h => by omega)
            rw [this, adAV_snoc, nx2, if_pos (by omega), nd (by omega)]
            simp
          | true =>
            simp only [Bool.not_true, cond_false, hom]
            rw [row (sgn l).2 _ (Or.inr rfl) nx]
            simp
        | false =>
          simp only [cond_false, hom]
          rw [row (sgn l).2 _ (Or.inr rfl) nx]
          simp
      · rw [cond_dec' (by omega), if_neg hp, hcut]
        rw [chk_and, chk_dec (by omega), chk_and, chk_dec (by omega), chk_dec (by omega)]
        rw [show decide ((⟨#[]⟩ : ByteArray) = (⟨#[58]⟩ : ByteArray)) = false from by decide]
        simp only [cond_false, hom]
        refine row [] _ (Or.inl rfl) ?_
        intro out' ho'
        have hx : i + ptG l + 1 = ps.length + 1 := by omega
        cases g with
        | true =>
          rw [if_pos ⟨rfl, Or.inr rfl⟩, next false _ (by simp; omega) (fun _ => rfl), if_neg (by omega)]
          simp
        | false =>
          rw [if_neg (by simp), next false _ (by omega) (fun _ => rfl), if_neg (by omega)]
          simp
    · rw [cond_dec' (by omega), if_neg hi]
      simp
theorem lAs_eq (s : List UInt8) (hs : s.length ≤ 400000) (κ : List AV → Option R) : letter_Addresses_0 (B s) κ = κ ((take32 (adsG false (pcs s))).map adAV) := by
  have hp := pcs_tl s.length s (Nat.le_refl _)
  have gd : Gd (pcs s) := ⟨pcs_ok s.length s (Nat.le_refl _), by omega, by omega⟩
  have key : ∀ f, 2 * s.length + 6 < f → letter_Addresses_0.e letter_pieces_0 letter_part_oi letter_text_ob letter_some_0 letter_held_o letter_address_o (B s) (lAs5 κ f) (lAs13 κ f) κ = κ ((take32 (adsG false (pcs s))).map adAV) := by
    intro f hf
    unfold letter_Addresses_0.e
    rw [lPieces_eq s (by omega)]
    have := lAs_loop (pcs s) gd κ f 0 false [] (by omega) (by omega) (by simp) (fun _ => rfl)
    rw [if_pos (by omega)] at this
    exact this
  exact key fuelK (by unfold fuelK; omega)
end Go.Proofs.Ab

/- All addresses, by the document; LetterAddresses. -/
namespace Go.Proofs.Ab
set_option linter.unusedVariables false
set_option maxRecDepth 4000
open Go
variable {R : Type}
def kk3 (κ κ1 : List AV → Option R) (out : List Adr) : Option R := if 32 < out.length then κ1 ((take32 out).map adAV) else κ (out.map adAV)
/-! ## The law -/
theorem adrs_same (l : List AV) (hl : l.length ≤ 1000000) (κ : Bool → Option R) : ∀ (f i : Nat), i ≤ l.length → l.length < i + f → postbaglaw5_addresses_oo.L4 κ f l l (i : Int) = κ true
  | 0, i, h1, h2 => by omega
  | f + 1, i, h1, h2 => by
    rw [postbaglaw5_addresses_oo.L4, postbaglaw5_addresses_oo.t4]
    by_cases h : i < l.length
    · have hwi : IntKind.wrap .i64 ((i : Int) + 1) = ((i + 1 : Nat) : Int) := wrap_i64 (by omega) (by omega)
      simp (disch := omega) only [cond_dec, chk_and, chk_dec, hwi, decide_true, BEq.rfl, Bool.and_true, Bool.not_true, cond_false]
      exact adrs_same l hl κ f (i + 1) (by omega) (by omega)
    · simp (disch := omega) only [cond_dec']
theorem adrs_eq (l : List AV) (hl : l.length ≤ 1000000) (κ : Bool → Option R) : postbaglaw5_addresses_oo l l κ = κ true := by
  have key : ∀ f, l.length < f → postbaglaw5_addresses_oo.e l l (postbaglaw5_addresses_oo.L4 κ f) κ = κ true := by
    intro f hf
    unfold postbaglaw5_addresses_oo.e
    rw [bne_neg rfl]
    exact adrs_same l hl κ f 0 (by omega) (by omega)
  exact key fuelK (by unfold fuelK; omega)
theorem kk3_at {κ κ1 : List AV → Option R} {out : List Adr} {o : Option R} (h0 : κ ((take32 out).map adAV) = o) (h1 : κ1 ((take32 out).map adAV) = o) : kk3 κ κ1 out = o := by
  unfold kk3
  by_cases h : 32 < out.length
  · rw [if_pos h, h1]
  · have : take32 out = out := List.take_of_length_le (by omega)
    rw [if_neg h, ← h0, this]
end Go.Proofs.Ab

/- Addresses and ids, written: the pieces of what was written. -/
namespace Go.Proofs.Ab
set_option linter.unusedVariables false
set_option maxRecDepth 4000
open Go
variable {R : Type}
def sp : Pc := (0, [])
def sg (c : UInt8) : Pc := (3, [c])
/-- Letters. -/
def isLw (c : UInt8) : Bool := decide (97 ≤ c.toNat) && decide (c.toNat ≤ 122)
theorem lw_facts {c : UInt8} (h : isLw c = true) : isAt c = true ∧ isSg c = false ∧ c ≠ 40 ∧ c ≠ 41 ∧ c ≠ 34 ∧ c ≠ 91 ∧ c ≠ 92 := by
  have := all_bytes (p := fun c => !isLw c || (isAt c && (!isSg c && (c != 40 && (c != 41 && (c != 34 && (c != 91 && c != 92))))))) (by kernel_rfl) c
  rw [h] at this
  simpa [bne_iff_ne] using this
theorem sg_facts {c : UInt8} (h : isSg c = true) : isAt c = false ∧ c ≠ 40 ∧ c ≠ 34 ∧ c ≠ 91 := by
  have := all_bytes (p := fun c => !isSg c || (!isAt c && (c != 40 && (c != 34 && c != 91)))) (by kernel_rfl) c
  rw [h] at this
  simpa [bne_iff_ne] using this
/-- What ends an atom. -/
def stp0 (rest : List UInt8) : Prop := ∀ c r, rest = c :: r → isAt c = false
theorem stp0_nil : stp0 [] := by intro c r h; cases h
theorem stp0_cons {c : UInt8} {r : List UInt8} (h : isAt c = false) : stp0 (c :: r) := by intro d t e; cases e; exact h
theorem pcs_sg (c : UInt8) (rest : List UInt8) (h : isSg c = true) : pcs (c :: rest) = sg c :: pcs rest := by
  obtain ⟨_, h1, h2, h3⟩ := sg_facts h
  rw [pcs_cons, nextP, if_neg h1, if_neg h2, if_neg h3, if_pos h]; rfl
theorem pcs_blank (rest : List UInt8) : pcs (32 :: rest) = sp :: pcs rest := by
  rw [pcs_cons, nextP]; rfl
theorem pcs_atom (a rest : List UInt8) (hne : a ≠ []) (ha : ∀ c ∈ a, isLw c = true) (hs : stp0 rest) : pcs (a ++ rest) = (4, a) :: pcs rest := by
  match a, hne with
  | c :: r, _ =>
    have hc := lw_facts (ha c (by simp))
    have ht : ((c :: r) ++ rest).takeWhile isAt = c :: r := by
      rw [List.takeWhile_append_of_pos (fun d hd => (lw_facts (ha d hd)).1)]
      have : rest.takeWhile isAt = [] := by
        cases rest with
        | nil => rfl
        | cons d t => rw [List.takeWhile_cons, hs d t rfl]; rfl
      rw [this, List.append_nil]
    have hcons : (c :: r) ++ rest = c :: (r ++ rest) := rfl
    rw [hcons] at ht ⊢
    rw [pcs_cons, nextP, if_neg hc.2.2.1, if_neg hc.2.2.2.2.1, if_neg hc.2.2.2.2.2.1, if_neg (by rw [hc.2.1]; simp), if_pos hc.1, ht]
    simp
/-! ## Texts in quotes -/
def esc : List UInt8 → List UInt8
  | [] => []
  | c :: r => (if c = 34 ∨ c = 92 then [92, c] else [c]) ++ esc r
def quoteL (s : List UInt8) : List UInt8 := [34] ++ esc s ++ [34]
theorem esc_len : ∀ s : List UInt8, (esc s).length ≤ 2 * s.length
  | [] => by simp [esc]
  | c :: r => by
    have := esc_len r
    unfold esc
    rw [List.length_append, List.length_cons]
    split <;> simp <;> omega
theorem qt_esc (rest : List UInt8) : ∀ s : List UInt8, qt (esc s ++ 34 :: rest) = (s, (esc s).length + 1)
  | [] => by
    show qt (34 :: rest) = _
    rw [qt_else _ _ (by decide), if_pos rfl]; rfl
  | c :: r => by
    have ih := qt_esc rest r
    unfold esc
    by_cases h : c = 34 ∨ c = 92
    · rw [if_pos h]
      show qt (92 :: c :: (esc r ++ 34 :: rest)) = _
      rw [qt_bs, ih]
      simp; omega
    · rw [if_neg h]
      show qt (c :: (esc r ++ 34 :: rest)) = _
      rw [qt_else _ _ (fun e => h (.inr e)), if_neg (fun e => h (.inl e)), ih]
      simp; omega
theorem pcs_quote (s rest : List UInt8) : pcs (quoteL s ++ rest) = (1, s) :: pcs rest := by
  have e : quoteL s ++ rest = 34 :: (esc s ++ 34 :: rest) := by unfold quoteL; simp
  rw [e, pcs_cons, nextP, if_neg (by decide), if_pos rfl, qt_esc]
  have e2 : (34 :: (esc s ++ 34 :: rest)).drop (1 + ((esc s).length + 1)) = rest := by
    rw [show 1 + ((esc s).length + 1) = ((34 :: esc s) ++ [34]).length by simp; omega, show 34 :: (esc s ++ 34 :: rest) = ((34 :: esc s) ++ [34]) ++ rest by simp, List.drop_left]
  simp only [e2]
/-! ## Comments -/
def btwT : List UInt8 := [32, 92, 41, 32, 44, 32, 60, 113, 64, 114, 62, 59, 32, 113, 58, 32, 92, 92, 32, 40, 40, 120, 41, 41, 41]
theorem cm_tail (rest : List UInt8) : cm 1 (btwT ++ rest) = btwT.length := by
  unfold btwT
  simp only [List.cons_append, List.nil_append]
  repeat (first | rw [cm_bs] | rw [cm_else _ _ _ (by decide), if_pos rfl, if_pos rfl] | rw [cm_else _ _ _ (by decide), if_neg (by decide), if_pos rfl, if_neg (by decide)] | rw [cm_else _ _ _ (by decide), if_neg (by decide), if_neg (by decide)] | rw [cm_else _ _ _ (by decide), if_pos rfl])
  rw [if_neg (by decide)]
  rfl
theorem cm_letters (d : Nat) (r : List UInt8) : ∀ a : List UInt8, (∀ c ∈ a, isLw c = true) → cm d (a ++ r) = a.length + cm d r
  | [], h => by simp
  | c :: t, h => by
    have hc := lw_facts (h c (by simp))
    rw [List.cons_append, cm_else _ _ _ hc.2.2.2.2.2.2, if_neg hc.2.2.1, if_neg hc.2.2.2.1, cm_letters d r t (fun x hx => h x (by simp [hx]))]
    simp; omega
/-- What stands between two words. -/
def btw (a : List UInt8) : List UInt8 := [40] ++ a ++ btwT
theorem pcs_btw (a rest : List UInt8) (ha : ∀ c ∈ a, isLw c = true) : pcs (btw a ++ rest) = sp :: pcs rest := by
  have e : btw a ++ rest = 40 :: (a ++ (btwT ++ rest)) := by unfold btw; simp
  have hcm : cm 0 (40 :: (a ++ (btwT ++ rest))) = (btw a).length := by
    rw [cm_else _ _ _ (by decide), if_pos rfl, cm_letters _ _ a ha, cm_tail]
    unfold btw; simp; omega
  rw [e, pcs_cons, nextP, if_pos rfl, hcm, ← e, List.drop_left]; rfl
/-! ## Who is written to -/
structure Prs where
  nm : List UInt8
  box : List UInt8
  host : List UInt8
  named : Bool
  grouped : Bool
/-- Letters, at least one. -/
def LwL (a : List UInt8) : Prop := a ≠ [] ∧ ∀ c ∈ a, isLw c = true
/-- A box and its host. -/
def coreT (a : List UInt8) (p : Prs) : List UInt8 := quoteL p.box ++ btw a ++ [64] ++ p.host ++ [32, 46, 32] ++ p.host
def coreP (p : Prs) : List Pc := [(1, p.box), sp, sg 64, (4, p.host), sp, sg 46, sp, (4, p.host)]
theorem pcs_core (a : List UInt8) (p : Prs) (rest : List UInt8) (ha : ∀ c ∈ a, isLw c = true) (hh : LwL p.host) (hs : stp0 rest) : pcs (coreT a p ++ rest) = coreP p ++ pcs rest := by
  have e : coreT a p ++ rest = quoteL p.box ++ (btw a ++ (64 :: (p.host ++ (32 :: (46 :: (32 :: (p.host ++ rest))))))) := by unfold coreT; simp
  rw [e, pcs_quote, pcs_btw _ _ ha, pcs_sg _ _ (by rfl), pcs_atom _ _ hh.1 hh.2 (stp0_cons (by rfl)), pcs_blank, pcs_sg _ _ (by rfl), pcs_blank, pcs_atom _ _ hh.1 hh.2 hs]
  rfl
/-- With a name, or without. -/
def nameT (a : List UInt8) (p : Prs) : List UInt8 := bif p.named then quoteL p.nm ++ btw a ++ [60] ++ coreT a p ++ [62] else coreT a p
def nameP (p : Prs) : List Pc := bif p.named then [(1, p.nm), sp, sg 60] ++ coreP p ++ [sg 62] else coreP p
theorem pcs_name (a : List UInt8) (p : Prs) (rest : List UInt8) (ha : ∀ c ∈ a, isLw c = true) (hh : LwL p.host) (hs : stp0 rest) : pcs (nameT a p ++ rest) = nameP p ++ pcs rest := by
  unfold nameT nameP
  cases p.named with
  | false => simp only [cond_false]; exact pcs_core a p rest ha hh hs
  | true =>
    simp only [cond_true]
    have e : quoteL p.nm ++ btw a ++ [60] ++ coreT a p ++ [62] ++ rest = quoteL p.nm ++ (btw a ++ (60 :: (coreT a p ++ (62 :: rest)))) := by simp
    rw [e, pcs_quote, pcs_btw _ _ ha, pcs_sg _ _ (by rfl), pcs_core a p _ ha hh (stp0_cons (by rfl)), pcs_sg _ _ (by rfl)]
    simp
/-- In a group, or not. -/
def persT (a : List UInt8) (p : Prs) : List UInt8 := bif p.grouped then [103] ++ btw a ++ [58] ++ nameT a p ++ btw a ++ [59] else nameT a p
def persP (p : Prs) : List Pc := bif p.grouped then [(4, [103]), sp, sg 58] ++ nameP p ++ [sp, sg 59] else nameP p
theorem stp0_btw (a rest : List UInt8) : stp0 (btw a ++ rest) := by
  have e : btw a ++ rest = 40 :: (a ++ (btwT ++ rest)) := by unfold btw; simp
  rw [e]; exact stp0_cons (by rfl)
theorem pcs_pers (a : List UInt8) (p : Prs) (rest : List UInt8) (ha : ∀ c ∈ a, isLw c = true) (hh : LwL p.host) (hs : stp0 rest) : pcs (persT a p ++ rest) = persP p ++ pcs rest := by
  unfold persT persP
  cases p.grouped with
  | false => simp only [cond_false]; exact pcs_name a p rest ha hh hs
  | true =>
    simp only [cond_true]
    have e : [103] ++ btw a ++ [58] ++ nameT a p ++ btw a ++ [59] ++ rest = [103] ++ (btw a ++ (58 :: (nameT a p ++ (btw a ++ (59 :: rest))))) := by simp
    rw [e, pcs_atom [103] _ (by simp) (by simp [isLw]) (stp0_btw _ _), pcs_btw _ _ ha, pcs_sg _ _ (by rfl), pcs_name a p _ ha hh (stp0_btw _ _), pcs_btw _ _ ha, pcs_sg _ _ (by rfl)]
    simp
/-- All of them. -/
def restT (a : List UInt8) : List Prs → List UInt8
  | [] => []
  | q :: r => btw a ++ [44] ++ persT a q ++ restT a r
def allT (a : List UInt8) : List Prs → List UInt8
  | [] => []
  | p :: r => persT a p ++ restT a r
def restP : List Prs → List Pc
  | [] => []
  | q :: r => [sp, sg 44] ++ persP q ++ restP r
def allP : List Prs → List Pc
  | [] => []
  | p :: r => persP p ++ restP r
theorem stp0_rest (a : List UInt8) (l : List Prs) : stp0 (restT a l) := by
  cases l with
  | nil => exact stp0_nil
  | cons q r => unfold restT; rw [List.append_assoc, List.append_assoc]; exact stp0_btw _ _
theorem pcs_rest (a : List UInt8) (ha : ∀ c ∈ a, isLw c = true) : ∀ l : List Prs, (∀ p ∈ l, LwL p.host) → pcs (restT a l) = restP l
  | [], h => pcs_nil
  | q :: r, h => by
    have e : restT a (q :: r) = btw a ++ (44 :: (persT a q ++ restT a r)) := by
      show btw a ++ [44] ++ persT a q ++ restT a r = _
      simp
    rw [e, pcs_btw _ _ ha, pcs_sg _ _ (by rfl), pcs_pers a q _ ha (h q (by simp)) (stp0_rest a r), pcs_rest a ha r (fun p hp => h p (by simp [hp]))]
    rfl
theorem pcs_allT (a : List UInt8) (ha : ∀ c ∈ a, isLw c = true) (l : List Prs) (h : ∀ p ∈ l, LwL p.host) : pcs (allT a l) = allP l := by
  cases l with
  | nil => exact pcs_nil
  | cons p r =>
    unfold allT allP
    rw [pcs_pers a p _ ha (h p (by simp)) (stp0_rest a r), pcs_rest a ha r (fun q hq => h q (by simp [hq]))]
theorem restT_append (a : List UInt8) : ∀ (l m : List Prs), restT a (l ++ m) = restT a l ++ restT a m
  | [], m => rfl
  | q :: r, m => by simp [restT, restT_append a r m]
theorem allT_snoc (a : List UInt8) (l : List Prs) (p : Prs) : allT a (l ++ [p]) = allT a l ++ (if l = [] then [] else btw a ++ [44]) ++ persT a p := by
  cases l with
  | nil => simp [allT, restT]
  | cons q r => simp [allT, restT_append, restT]
/-! ## What they are read as -/
def adrP (p : Prs) : Adr := (bif p.named then some p.nm else none, none, some p.box, some (p.host ++ [46] ++ p.host))
def wantP (p : Prs) : List Adr := bif p.grouped then [grp [103], adrP p, eo] else [adrP p]
theorem isS_no {c : UInt8} {p : Pc} (h : p.1 ≠ 3) : isS c p = false := by
  unfold isS; rw [show (p.1 == 3) = false by simpa using h]; rfl
theorem isS_sg (c d : UInt8) : isS c (sg d) = (d == c) := by
  unfold isS sg
  by_cases h : d = c
  · subst h; simp
  · simp [h]
theorem ptG_skip {p : Pc} (r : List Pc) (h60 : isS 60 p = false) (h44 : isS 44 p = false) (h59 : isS 59 p = false) (h58 : isS 58 p = false) : ptG (p :: r) = 1 + ptG r := by
  rw [ptG_cons, h60, h44, h59, h58]; rfl
theorem ptG_skip' {p : Pc} (r : List Pc) (h : p.1 ≠ 3) : ptG (p :: r) = 1 + ptG r := ptG_skip r (isS_no h) (isS_no h) (isS_no h) (isS_no h)
theorem ptG_core (p : Prs) (r : List Pc) : ptG (coreP p ++ r) = 8 + ptG r := by
  unfold coreP
  simp only [List.cons_append, List.nil_append]
  rw [ptG_skip' _ (by simp [sp]), ptG_skip' _ (by simp [sp]), ptG_skip _ (by rfl) (by rfl) (by rfl) (by rfl), ptG_skip' _ (by simp [sp]), ptG_skip' _ (by simp [sp]), ptG_skip _ (by rfl) (by rfl) (by rfl) (by rfl), ptG_skip' _ (by simp [sp]), ptG_skip' _ (by simp [sp])]
  omega
theorem fd_skip {c : UInt8} {p : Pc} (r : List Pc) (h : isS c p = false) : fd c (p :: r) = fd c r + 1 := by rw [fd_cons, h]; rfl
theorem fd_core (c : UInt8) (h64 : c ≠ 64) (h46 : c ≠ 46) (p : Prs) (r : List Pc) : fd c (coreP p ++ r) = 8 + fd c r := by
  have e64 : isS c (sg 64) = false := by rw [isS_sg]; simpa using fun e => h64 e.symm
  have e46 : isS c (sg 46) = false := by rw [isS_sg]; simpa using fun e => h46 e.symm
  unfold coreP
  simp only [List.cons_append, List.nil_append]
  rw [fd_skip _ (isS_no (by simp [sp])), fd_skip _ (isS_no (by simp [sp])), fd_skip _ e64, fd_skip _ (isS_no (by simp [sp])), fd_skip _ (isS_no (by simp [sp])), fd_skip _ e46, fd_skip _ (isS_no (by simp [sp])), fd_skip _ (isS_no (by simp [sp]))]
  omega
theorem core_len (p : Prs) : (coreP p).length = 8 := rfl
theorem ptG_name (p : Prs) (r : List Pc) : ptG (nameP p ++ r) = (nameP p).length + ptG r := by
  unfold nameP
  cases p.named with
  | false => simp only [cond_false]; exact ptG_core p r
  | true =>
    simp only [cond_true]
    have e : [(1, p.nm), sp, sg 60] ++ coreP p ++ [sg 62] ++ r = (1, p.nm) :: sp :: sg 60 :: (coreP p ++ sg 62 :: r) := by simp
    have hf : fd 62 (coreP p ++ sg 62 :: r) = 8 := by rw [fd_core 62 (by decide) (by decide), fd_cons, isS_sg]; rfl
    rw [e, ptG_skip' _ (by simp [sp]), ptG_skip' _ (by simp [sp]), ptG_cons, if_pos (by rfl), hf, if_pos (by rw [List.length_append, core_len]; simp)]
    have e2 : (coreP p ++ sg 62 :: r).drop (8 + 1) = r := by
      rw [show coreP p ++ sg 62 :: r = (coreP p ++ [sg 62]) ++ r by simp, show 8 + 1 = (coreP p ++ [sg 62]).length from rfl, List.drop_left]
    rw [e2]
    simp [core_len]; omega
end Go.Proofs.Ab

/- Addresses and ids, written: what they are read as. -/
namespace Go.Proofs.Ab
set_option linter.unusedVariables false
set_option maxRecDepth 4000
open Go
variable {R : Type}
theorem clT_one (p : Pc) : clT [p] = p.2 := by rw [clT_cons]; simp [clT]
theorem addr_core (p : Prs) (t : List Pc) (ht : t = [] ∨ t = [sp]) : (laG none 0 (coreP p ++ t) = some 2) ∧ bhG (coreP p ++ t) (some 2) = (p.box, p.host ++ [46] ++ p.host) := by
  rcases ht with rfl | rfl
  · refine ⟨rfl, ?_⟩
    show (clT [(1, p.box), sp], clT [(4, p.host), sp, sg 46, sp, (4, p.host)]) = _
    simp [clT, sp, sg]
  · refine ⟨rfl, ?_⟩
    show (clT [(1, p.box), sp], clT [(4, p.host), sp, sg 46, sp, (4, p.host), sp]) = _
    simp [clT, sp, sg]
theorem rowA_name (p : Prs) (t : List Pc) (ht : t = [] ∨ t = [sp]) : rowA (nameP p ++ t) = [adrP p] := by
  unfold rowA nameP adrP
  cases p.named with
  | false =>
    simp only [cond_false]
    have hh : heldG (coreP p ++ t) = true := rfl
    have hpl : plG (coreP p ++ t) = (none, none, coreP p ++ t) := by
      unfold plG
      rw [if_neg]
      rcases ht with rfl | rfl <;> exact fun h => absurd h (by rw [fd_core 60 (by decide) (by decide), List.length_append, core_len]; simp [fd_nil, fd_cons, isS, sp])
    obtain ⟨h1, h2⟩ := addr_core p t ht
    rw [if_pos hh]
    unfold addrG
    rw [hpl, h1, h2]
  | true =>
    simp only [cond_true]
    have e : [(1, p.nm), sp, sg 60] ++ coreP p ++ [sg 62] ++ t = (1, p.nm) :: sp :: sg 60 :: (coreP p ++ sg 62 :: t) := by simp
    have hpl : plG ((1, p.nm) :: sp :: sg 60 :: (coreP p ++ sg 62 :: t)) = (some p.nm, none, coreP p) := by
      have h60 : fd 60 ((1, p.nm) :: sp :: sg 60 :: (coreP p ++ sg 62 :: t)) = 2 := rfl
      have hf : fd 62 (coreP p ++ sg 62 :: t) = 8 := by rw [fd_core 62 (by decide) (by decide), fd_cons, isS_sg]; rfl
      have hpx : (coreP p ++ sg 62 :: t).take 8 = coreP p := List.take_left' (core_len p)
      have h58 : fd 58 (coreP p) = 8 := rfl
      unfold plG
      rw [h60, if_pos (by simp)]
      have e1 : ((1, p.nm) :: sp :: sg 60 :: (coreP p ++ sg 62 :: t)).take 2 = [(1, p.nm), sp] := rfl
      have e2 : ((1, p.nm) :: sp :: sg 60 :: (coreP p ++ sg 62 :: t)).drop (2 + 1) = coreP p ++ sg 62 :: t := rfl
      have e3 : heldG [(1, p.nm), sp] = true := rfl
      have e4 : txG false false [(1, p.nm), sp] = p.nm := by show [] ++ (p.nm ++ []) = _; simp
      simp only [e1, e2, e3, e4, hf, hpx, h58, core_len, if_true]
      rw [if_neg (by omega)]
    have hh : heldG ((1, p.nm) :: sp :: sg 60 :: (coreP p ++ sg 62 :: t)) = true := rfl
    obtain ⟨h1, h2⟩ := addr_core p [] (.inl rfl)
    rw [List.append_nil] at h1 h2
    rw [e, if_pos hh]
    unfold addrG
    rw [hpl, h1, h2]
theorem get_mid {α : Type} (x : List α) (y : α) (z : List α) : (x ++ y :: z)[x.length]? = some y := by simp
theorem ads_sep (g : Bool) (p : Prs) (d : UInt8) (r : List Pc) (hd : d = 44 ∨ d = 59) : ptG (nameP p ++ sp :: sg d :: r) = (nameP p).length + 1 ∧ sgn (nameP p ++ sp :: sg d :: r) = sg d ∧ (nameP p ++ sp :: sg d :: r).take ((nameP p).length + 1) = nameP p ++ [sp] ∧ (nameP p ++ sp :: sg d :: r).drop ((nameP p).length + 1 + 1) = r := by
  have h1 : ptG (nameP p ++ sp :: sg d :: r) = (nameP p).length + 1 := by
    rw [ptG_name, ptG_skip' _ (by simp [sp])]
    rcases hd with rfl | rfl
    · rw [ptG_cons]; rfl
    · rw [ptG_cons]; rfl
  have e : nameP p ++ sp :: sg d :: r = (nameP p ++ [sp]) ++ sg d :: r := by simp
  have hl : (nameP p ++ [sp]).length = (nameP p).length + 1 := by simp
  refine ⟨h1, ?_, ?_, ?_⟩
  · unfold sgn
    rw [h1, e, ← hl, get_mid]; rfl
  · rw [e, ← hl, List.take_left]
  · rw [e, show (nameP p).length + 1 + 1 = ((nameP p ++ [sp]) ++ [sg d]).length by simp, show (nameP p ++ [sp]) ++ sg d :: r = ((nameP p ++ [sp]) ++ [sg d]) ++ r by simp, List.drop_left]
theorem ads_comma (p : Prs) (r : List Pc) : adsG false (nameP p ++ sp :: sg 44 :: r) = adrP p :: adsG false r := by
  obtain ⟨h1, h2, h3, h4⟩ := ads_sep false p 44 r (.inl rfl)
  rw [adsG_any, h1, h2, h3, h4, if_pos (by simp), if_neg (by rw [isS_sg]; simp), if_neg (by simp), rowA_name p [sp] (.inr rfl)]; rfl
theorem ads_end (p : Prs) (r : List Pc) : adsG true (nameP p ++ sp :: sg 59 :: r) = adrP p :: eo :: adsG false r := by
  obtain ⟨h1, h2, h3, h4⟩ := ads_sep true p 59 r (.inr rfl)
  rw [adsG_any, h1, h2, h3, h4, if_pos (by simp), if_neg (by simp), if_pos (by rw [isS_sg]; simp), rowA_name p [sp] (.inr rfl)]; rfl
theorem ads_last (p : Prs) : adsG false (nameP p) = [adrP p] := by
  have h1 := ptG_name p []
  rw [List.append_nil, ptG_nil, Nat.add_zero] at h1
  have h2 := rowA_name p [] (.inl rfl)
  rw [List.append_nil] at h2
  rw [adsG_any, h1, if_neg (by omega), List.take_length, h2]; rfl
theorem ads_group (r : List Pc) : adsG false ((4, [103]) :: sp :: sg 58 :: r) = grp [103] :: adsG true r := by
  have h1 : ptG ((4, [103]) :: sp :: sg 58 :: r) = 2 := by
    rw [ptG_skip' _ (by simp), ptG_skip' _ (by simp [sp]), ptG_cons]; rfl
  have h2 : sgn ((4, [103]) :: sp :: sg 58 :: r) = sg 58 := by unfold sgn; rw [h1]; rfl
  rw [adsG_any, h1, h2, if_pos (by simp), if_pos ⟨by rw [isS_sg]; rfl, rfl⟩]; rfl
theorem ads_blank (r : List Pc) : adsG false (sp :: sg 44 :: r) = adsG false r := by
  have h1 : ptG (sp :: sg 44 :: r) = 1 := by
    rw [ptG_skip' _ (by simp [sp]), ptG_cons]; rfl
  have h2 : sgn (sp :: sg 44 :: r) = sg 44 := by unfold sgn; rw [h1]; rfl
  rw [adsG_any, h1, h2, if_pos (by simp), if_neg (by rw [isS_sg]; simp), if_neg (by simp)]
  rfl
def wants : List Prs → List Adr
  | [] => []
  | p :: r => wantP p ++ wants r
theorem ads_all : ∀ l : List Prs, adsG false (allP l) = wants l
  | [] => by rw [allP, adsG_nil]; rfl
  | [p] => by
    have e : allP [p] = persP p := by unfold allP restP; simp
    rw [e, wants, wants, List.append_nil]
    unfold persP wantP
    cases p.grouped with
    | false => exact ads_last p
    | true =>
      simp only [cond_true]
      have e2 : [(4, [103]), sp, sg 58] ++ nameP p ++ [sp, sg 59] = (4, [103]) :: sp :: sg 58 :: (nameP p ++ sp :: sg 59 :: []) := by simp
      rw [e2, ads_group, ads_end, adsG_nil]; rfl
  | p :: q :: r => by
    have ih := ads_all (q :: r)
    have e : allP (p :: q :: r) = persP p ++ (sp :: sg 44 :: allP (q :: r)) := by
      show persP p ++ ([sp, sg 44] ++ persP q ++ restP r) = persP p ++ (sp :: sg 44 :: (persP q ++ restP r))
      simp
    rw [e, wants]
    unfold persP wantP
    cases p.grouped with
    | false =>
      simp only [cond_false]
      rw [ads_comma, ih]; rfl
    | true =>
      simp only [cond_true]
      have e2 : [(4, [103]), sp, sg 58] ++ nameP p ++ [sp, sg 59] ++ (sp :: sg 44 :: allP (q :: r)) = (4, [103]) :: sp :: sg 58 :: (nameP p ++ sp :: sg 59 :: (sp :: sg 44 :: allP (q :: r))) := by simp
      rw [e2, ads_group, ads_end, ads_blank, ih]; rfl
theorem wants_len : ∀ l : List Prs, (wants l).length ≤ 3 * l.length
  | [] => by simp [wants]
  | p :: r => by
    have := wants_len r
    rw [wants, List.length_append, List.length_cons]
    unfold wantP
    cases p.grouped <;> simp <;> omega
theorem wants_append (l m : List Prs) : wants (l ++ m) = wants l ++ wants m := by
  induction l with
  | nil => rfl
  | cons p r ih => simp [wants, ih]
/-! ## Ids -/
def idT (a : List UInt8) : List Prs → List UInt8
  | [] => []
  | p :: r => btw a ++ [60] ++ quoteL (p.box ++ [97]) ++ [64] ++ p.host ++ [62] ++ idT a r
def idP : List Prs → List Pc
  | [] => []
  | p :: r => sp :: sg 60 :: (1, p.box ++ [97]) :: sg 64 :: (4, p.host) :: sg 62 :: idP r
def idN (l : List Prs) : List (List UInt8) := l.map fun p => p.box ++ [97, 64] ++ p.host
theorem idT_append (a : List UInt8) (l m : List Prs) : idT a (l ++ m) = idT a l ++ idT a m := by
  induction l with
  | nil => rfl
  | cons p r ih => simp [idT, ih]
theorem pcs_id (a : List UInt8) (ha : ∀ c ∈ a, isLw c = true) : ∀ l : List Prs, (∀ p ∈ l, LwL p.host) → pcs (idT a l) = idP l
  | [], h => pcs_nil
  | p :: r, h => by
    have hh := h p (by simp)
    have e : idT a (p :: r) = btw a ++ (60 :: (quoteL (p.box ++ [97]) ++ (64 :: (p.host ++ (62 :: idT a r))))) := by
      show btw a ++ [60] ++ quoteL (p.box ++ [97]) ++ [64] ++ p.host ++ [62] ++ idT a r = _
      simp
    rw [e, pcs_btw _ _ ha, pcs_sg _ _ (by rfl), pcs_quote, pcs_sg _ _ (by rfl), pcs_atom _ _ hh.1 hh.2 (stp0_cons (by rfl)), pcs_sg _ _ (by rfl), pcs_id a ha r (fun q hq => h q (by simp [hq]))]
    rfl
theorem atOk_id (b h : List UInt8) (hh : h ≠ []) : atOk (b ++ [97, 64] ++ h) = true := by
  unfold atOk
  have hl := List.length_pos_iff.2 hh
  have h1 : (b ++ [97, 64] ++ h).take ((b ++ [97, 64] ++ h).length - 1) = b ++ [97, 64] ++ h.take (h.length - 1) := by
    have : (b ++ [97, 64] ++ h).length - 1 = (b ++ [97, 64]).length + (h.length - 1) := by simp only [List.length_append]; omega
    rw [this, List.take_length_add_append]
  rw [h1, List.contains_iff_mem]
  have h2 : b ++ [97, 64] ++ h.take (h.length - 1) = (b ++ [97]) ++ (64 :: h.take (h.length - 1)) := by simp
  rw [h2, List.drop_append_of_le_length (by simp)]
  simp
theorem ids_all : ∀ l : List Prs, (∀ p ∈ l, p.host ≠ []) → idsG (idP l) = idN l
  | [], h => idsG_nil
  | p :: r, h => by
    have ih := ids_all r (fun q hq => h q (by simp [hq]))
    have hf : fd 62 ((1, p.box ++ [97]) :: sg 64 :: (4, p.host) :: sg 62 :: idP r) = 3 := rfl
    have hc : clT (((1, p.box ++ [97]) :: sg 64 :: (4, p.host) :: sg 62 :: idP r).take 3) = p.box ++ [97, 64] ++ p.host := by
      show clT [(1, p.box ++ [97]), sg 64, (4, p.host)] = _
      simp [clT, sg]
    show idsG (sp :: sg 60 :: (1, p.box ++ [97]) :: sg 64 :: (4, p.host) :: sg 62 :: idP r) = _
    rw [idsG_cons, if_neg (by simp [isS, sp]), idsG_cons, if_pos (by rfl), hf, if_pos (by simp), hc, atOk_id _ _ (h p (by simp))]
    show [_] ++ idsG (idP r) = _
    rw [ih]; rfl
end Go.Proofs.Ab

/- LetterSaid. -/
namespace Go.Proofs.Ab
set_option linter.unusedVariables false
set_option maxRecDepth 4000
open Go
variable {R : Type}
def lwC (c : UInt8) : UInt8 := UInt8.ofNat (97 + c.toNat % 26)
/-- Letters out of a text. -/
def atomL (s : List UInt8) : List UInt8 := 97 :: (s.take 20).map lwC
theorem lwC_all (c : UInt8) : isLw (lwC c) = true := by
  have := all_bytes (p := fun c => isLw (lwC c)) (by kernel_rfl) c
  exact this
theorem atomL_lw (s : List UInt8) : LwL (atomL s) := by
  refine ⟨by simp [atomL], ?_⟩
  intro c hc
  unfold atomL at hc
  rcases List.mem_cons.1 hc with rfl | h
  · rfl
  · obtain ⟨d, _, rfl⟩ := List.mem_map.1 h
    exact lwC_all d
theorem atomL_len (s : List UInt8) : (atomL s).length ≤ 21 := by
  unfold atomL
  rw [List.length_cons, List.length_map, List.length_take]; omega
theorem lwC_int (c : UInt8) : IntKind.wrap .u8 (97 + (Int.tmod (c.toNat : Int) 26)) = ((lwC c).toNat : Int) := by
  have hlt := byte_lt c
  have h2 : Int.tmod (c.toNat : Int) 26 = ((c.toNat % 26 : Nat) : Int) := rfl
  rw [h2, wrap_u8 (by omega) (by omega)]
  unfold lwC
  simp; omega
theorem atom_loop (s : List UInt8) (κ : ByteArray → Option R) : ∀ (f i : Nat), i ≤ s.length → i ≤ 20 → 20 < i + f →
    postbaglaw5_atom_0.L3 κ f (B s) (i : Int) (intsAV (97 :: (s.take i).map lwC)) = κ (B (atomL s))
  | 0, i, h1, h2, h3 => by omega
  | f + 1, i, h1, h2, h3 => by
    rw [postbaglaw5_atom_0.L3, postbaglaw5_atom_0.t3]
    have hw1 : IntKind.wrap .i64 ((i : Int) + 1) = ((i + 1 : Nat) : Int) := wrap_i64 (by omega) (by omega)
    have hal : (intsAV (97 :: (s.take i).map lwC)).length ≤ 21 := by
      rw [ints_len, List.length_cons, List.length_map, List.length_take]; omega
    simp only [size_B, hw1, strAV_ints]
    by_cases h20 : i = 20
    · subst h20
      have : κ (B (97 :: (s.take 20).map lwC)) = κ (B (atomL s)) := rfl
      by_cases hl : (20 : Int) < (s.length : Int)
      · rw [cond_dec (by omega), cond_dec' (by omega)]; exact this
      · rw [cond_dec' (by omega)]; exact this
    · cases hd : s.drop i with
      | nil =>
        have := drop_nil hd
        rw [cond_dec' (by omega)]
        unfold atomL
        rw [List.take_of_length_le (by omega : s.length ≤ i), List.take_of_length_le (by omega : s.length ≤ 20)]
      | cons c r =>
        obtain ⟨g1, g2, g3⟩ := drop_get hd
        rw [cond_dec (by omega), cond_dec (by omega), chk_and, chk_dec (by omega), chk_dec (by omega), chk_dec (by omega), btB g1, lwC_int, ints_snoc]
        have := atom_loop s κ f (i + 1) (by omega) (by omega) (by omega)
        rw [take_succ_get g1, List.map_append] at this
        exact this
theorem atom_eq (s : List UInt8) (κ : ByteArray → Option R) : postbaglaw5_atom_0 (B s) κ = κ (B (atomL s)) := by
  have key : ∀ f, 20 < f → postbaglaw5_atom_0.e (B s) (postbaglaw5_atom_0.L3 κ f) κ = κ (B (atomL s)) :=
    fun f hf => atom_loop s κ f 0 (by omega) (by omega) (by omega)
  exact key fuelK (by unfold fuelK; omega)
theorem quote_loop (s : List UInt8) (hs : s.length ≤ 1000000) (κ : ByteArray → Option R) : ∀ (f i : Nat) (acc : List UInt8), i ≤ s.length → s.length < i + f → acc.length ≤ 1 + 2 * i →
    postbaglaw5_quote_0.L3 κ f (B s) (i : Int) (intsAV acc) = κ (B (acc ++ esc (s.drop i) ++ [34]))
  | 0, i, acc, h1, h2, h3 => by omega
  | f + 1, i, acc, h1, h2, h3 => by
    rw [postbaglaw5_quote_0.L3, postbaglaw5_quote_0.t3]
    have hal := ints_len acc
    have hw1 : IntKind.wrap .i64 ((i : Int) + 1) = ((i + 1 : Nat) : Int) := wrap_i64 (by omega) (by omega)
    have i34 : intsAV acc ++ [AV.int 34] = intsAV (acc ++ [34]) := ints_snoc acc 34
    have i92 : intsAV acc ++ [AV.int 92] = intsAV (acc ++ [92]) := ints_snoc acc 92
    have hal2 : (intsAV (acc ++ [92])).length = acc.length + 1 := by rw [ints_len]; simp
    simp only [size_B, hw1, i34, i92, strAV_ints, hal, hal2]
    cases hd : s.drop i with
    | nil =>
      have := drop_nil hd
      rw [cond_dec' (by omega), chk_dec (by omega)]
      simp [esc]
    | cons c r =>
      obtain ⟨g1, g2, g3⟩ := drop_get hd
      simp (disch := omega) only [cond_dec, chk_and, chk_dec, btB g1, ints_snoc]
      rw [byteB c 34 34 rfl, byteB c 92 92 rfl]
      have two : (c = 34 ∨ c = 92) → postbaglaw5_quote_0.L3 κ f (B s) ((i + 1 : Nat) : Int) (intsAV (acc ++ [92] ++ [c])) = κ (B (acc ++ esc (c :: r) ++ [34])) := by
        intro h
        rw [quote_loop s hs κ f (i + 1) _ (by omega) (by omega) (by simp; omega), g3, esc, if_pos h]
        simp
      by_cases e1 : c = 34
      · rw [show (c == 34) = true by simpa using e1]
        exact two (.inl e1)
      · rw [show (c == 34) = false by simpa using e1]
        by_cases e2 : c = 92
        · rw [show (c == 92) = true by simpa using e2]
          exact two (.inr e2)
        · rw [show (c == 92) = false by simpa using e2]
          simp only [cond_false]
          rw [quote_loop s hs κ f (i + 1) _ (by omega) (by omega) (by simp; omega), g3, esc, if_neg (fun h => h.elim e1 e2)]
          simp
theorem quote_eq (s : List UInt8) (hs : s.length ≤ 1000000) (κ : ByteArray → Option R) : postbaglaw5_quote_0 (B s) κ = κ (B (quoteL s)) := by
  have key : ∀ f, s.length < f → postbaglaw5_quote_0.e (B s) (postbaglaw5_quote_0.L3 κ f) κ = κ (B (quoteL s)) := by
    intro f hf
    have := quote_loop s hs κ f 0 [34] (by omega) (by omega) (by simp)
    rw [List.drop_zero] at this
    exact this
  exact key fuelK (by unfold fuelK; omega)
/-- A person out of the row. -/
def prsA (x : AV) : Prs := ⟨bl (x.fld 0).s, bl (x.fld 1).s, atomL (bl (x.fld 2).s), (x.fld 3).b, (x.fld 4).b⟩
abbrev sd11 (κ : Bool → Option R) (f : Nat) := postbaglaw5_LetterSaid_0.L11 postbaglaw5_known_0 postbaglaw5_atom_0 postbaglaw5_quote_0 letter_Addresses_0 letter_Ids_0 postbaglaw5_addresses_oo postbaglaw5_texts_oo κ f
abbrev sd24 (κ : Bool → Option R) (f : Nat) := postbaglaw5_LetterSaid_0.L24 postbaglaw5_known_0 postbaglaw5_atom_0 postbaglaw5_quote_0 letter_Addresses_0 letter_Ids_0 postbaglaw5_addresses_oo postbaglaw5_texts_oo κ f
abbrev sd28 (κ : Bool → Option R) (f : Nat) := postbaglaw5_LetterSaid_0.L28 postbaglaw5_known_0 postbaglaw5_atom_0 postbaglaw5_quote_0 letter_Addresses_0 letter_Ids_0 postbaglaw5_addresses_oo postbaglaw5_texts_oo κ f
abbrev sd30 (κ : Bool → Option R) (f : Nat) := postbaglaw5_LetterSaid_0.L30 postbaglaw5_known_0 postbaglaw5_atom_0 postbaglaw5_quote_0 letter_Addresses_0 letter_Ids_0 postbaglaw5_addresses_oo postbaglaw5_texts_oo κ f
theorem sd11_succ (κ : Bool → Option R) (f : Nat) (x0 : List AV) (x1 x2 x3 : ByteArray) (x4 : Int) (x5 x6 : List AV) : sd11 κ (f + 1) x0 x1 x2 x3 x4 x5 x6 = postbaglaw5_LetterSaid_0.t11 postbaglaw5_known_0 postbaglaw5_atom_0 postbaglaw5_quote_0 letter_Addresses_0 letter_Ids_0 postbaglaw5_addresses_oo postbaglaw5_texts_oo x0 x1 x2 x3 x4 x5 x6 (sd11 κ f) (sd24 κ f) (sd28 κ f) (sd30 κ f) κ := by
  unfold sd11 sd24 sd28 sd30 postbaglaw5_LetterSaid_0.L11 postbaglaw5_LetterSaid_0.L24 postbaglaw5_LetterSaid_0.L28 postbaglaw5_LetterSaid_0.L30
  rw [postbaglaw5_LetterSaid_0.M11]
theorem sd24_succ (κ : Bool → Option R) (f : Nat) (x0 : List AV) (x1 x2 x3 : ByteArray) (x4 : Int) (x5 : ByteArray) (x6 x7 : List AV) (x8 x9 x10 : ByteArray) (x11 x12 x13 : Bool) (x14 : ByteArray) (x15 : Bool) (x16 : ByteArray) (x17 : Bool) (x18 : ByteArray) (x19 : Bool) (x20 : ByteArray) :
    sd24 κ (f + 1) x0 x1 x2 x3 x4 x5 x6 x7 x8 x9 x10 x11 x12 x13 x14 x15 x16 x17 x18 x19 x20 = postbaglaw5_LetterSaid_0.t24 postbaglaw5_known_0 postbaglaw5_atom_0 postbaglaw5_quote_0 letter_Addresses_0 letter_Ids_0 postbaglaw5_addresses_oo postbaglaw5_texts_oo x0 x1 x2 x3 x4 x5 x6 x7 x8 x9 x10 x11 x12 x13 x14 x15 x16 x17 x18 x19 x20 (sd11 κ f) (sd24 κ f) (sd28 κ f) (sd30 κ f) κ := by
  unfold sd11 sd24 sd28 sd30 postbaglaw5_LetterSaid_0.L11 postbaglaw5_LetterSaid_0.L24 postbaglaw5_LetterSaid_0.L28 postbaglaw5_LetterSaid_0.L30
  rw [postbaglaw5_LetterSaid_0.M11]
theorem sd28_succ (κ : Bool → Option R) (f : Nat) (x0 : List AV) (x1 x2 x3 : ByteArray) (x4 : Int) (x5 : ByteArray) (x6 x7 : List AV) : sd28 κ (f + 1) x0 x1 x2 x3 x4 x5 x6 x7 = postbaglaw5_LetterSaid_0.t28 postbaglaw5_known_0 postbaglaw5_atom_0 postbaglaw5_quote_0 letter_Addresses_0 letter_Ids_0 postbaglaw5_addresses_oo postbaglaw5_texts_oo x0 x1 x2 x3 x4 x5 x6 x7 (sd11 κ f) (sd24 κ f) (sd28 κ f) (sd30 κ f) κ := by
  unfold sd11 sd24 sd28 sd30 postbaglaw5_LetterSaid_0.L11 postbaglaw5_LetterSaid_0.L24 postbaglaw5_LetterSaid_0.L28 postbaglaw5_LetterSaid_0.L30
  rw [postbaglaw5_LetterSaid_0.M11]
theorem sd30_succ (κ : Bool → Option R) (f : Nat) (x0 : List AV) (x1 x2 x3 : ByteArray) (x4 : Int) (x5 : ByteArray) (x6 x7 : List AV) : sd30 κ (f + 1) x0 x1 x2 x3 x4 x5 x6 x7 = postbaglaw5_LetterSaid_0.t30 postbaglaw5_known_0 postbaglaw5_atom_0 postbaglaw5_quote_0 letter_Addresses_0 letter_Ids_0 postbaglaw5_addresses_oo postbaglaw5_texts_oo x0 x1 x2 x3 x4 x5 x6 x7 (sd11 κ f) (sd24 κ f) (sd28 κ f) (sd30 κ f) κ := by
  unfold sd11 sd24 sd28 sd30 postbaglaw5_LetterSaid_0.L11 postbaglaw5_LetterSaid_0.L24 postbaglaw5_LetterSaid_0.L28 postbaglaw5_LetterSaid_0.L30
  rw [postbaglaw5_LetterSaid_0.M11]
end Go.Proofs.Ab

/- LetterSaid: the law. -/
namespace Go.Proofs.Ab
set_option linter.unusedVariables false
set_option maxRecDepth 4000
open Go
variable {R : Type}
theorem quoteL_len (s : List UInt8) : (quoteL s).length ≤ 2 * s.length + 2 := by
  have := esc_len s
  unfold quoteL; simp; omega
theorem btw_len (a : List UInt8) : (btw a).length = a.length + 26 := by unfold btw btwT; simp
theorem nameT_len (a : List UInt8) (p : Prs) (ha : a.length ≤ 21) (hn : p.nm.length ≤ 200) (hb : p.box.length ≤ 200) (hh : p.host.length ≤ 21) : (coreT a p).length ≤ 500 ∧ (nameT a p).length ≤ 960 ∧ (persT a p).length ≤ 1060 := by
  have h1 := quoteL_len p.nm
  have h2 := quoteL_len p.box
  have h3 := btw_len a
  have c : (coreT a p).length ≤ 500 := by
    unfold coreT
    simp only [List.length_append, List.length_cons, List.length_nil]; omega
  have n : (nameT a p).length ≤ 960 := by
    unfold nameT
    cases p.named with
    | false => simp only [cond_false]; omega
    | true => simp only [cond_true, List.length_append, List.length_cons, List.length_nil]; omega
  refine ⟨c, n, ?_⟩
  unfold persT
  cases p.grouped with
  | false => simp only [cond_false]; omega
  | true => simp only [cond_true, List.length_append, List.length_cons, List.length_nil]; omega
theorem rowsS_map (l : List Prs) (p : Prs) : rowsS (idN l) ++ [AV.str (B (p.box ++ [97, 64] ++ p.host))] = rowsS (idN (l ++ [p])) := by
  unfold idN
  rw [List.map_append, rowsS_append]; rfl
theorem sd_after (x0 : List AV) (a : List UInt8) (ha : a.length ≤ 21) (l : List Prs) (p : Prs) (i : Nat) (hi : i ≤ 10) (hl : l = [] ↔ i = 0) (hall : (allT a l).length ≤ 1200 * i) (hw : (wants l).length ≤ 30) (hn : p.nm.length ≤ 200) (hb : p.box.length ≤ 200) (hh : p.host.length ≤ 21)
    (x3 : ByteArray) (x7 : List AV) (x8 x9 x10 : ByteArray) (x11 : Bool) (κ : Bool → Option R) (f : Nat) (ab : Bool) (aB hB : ByteArray) (hab : ab = (adrP p).1.isSome) (haB : aB = B ((adrP p).1.getD [])) (hhB : hB = B (p.host ++ [46] ++ p.host)) (bB : ByteArray) (hbB : bB = B p.box) :
    sd24 κ (f + 3) x0 (B (btw a)) (B (allT a l)) x3 (i : Int) (B (nameT a p)) ((wants l).map adAV) x7 x8 x9 x10 x11 p.grouped ab aB false (B []) true bB true hB
      = sd11 κ f x0 (B (btw a)) (B (allT a (l ++ [p]))) x3 ((i + 1 : Nat) : Int) ((wants (l ++ [p])).map adAV) x7 := by
  have h3 := btw_len a
  obtain ⟨hc1, hc2, hc3⟩ := nameT_len a p ha hn hb hh
  have hml : ((wants l).map adAV).length = (wants l).length := List.length_map ..
  have hw1 : IntKind.wrap .i64 ((i : Int) + 1) = ((i + 1 : Nat) : Int) := wrap_i64 (by omega) (by omega)
  -- behind the group
  have last : ∀ W : List AV, sd28 κ (f + 2) x0 (B (btw a)) (B (allT a l)) x3 (i : Int) (B (persT a p)) W x7 = sd11 κ f x0 (B (btw a)) (B (allT a (l ++ [p]))) x3 ((i + 1 : Nat) : Int) W x7 := by
    intro W
    rw [sd28_succ, postbaglaw5_LetterSaid_0.t28, show ((⟨#[44]⟩ : ByteArray)) = B [44] from rfl]
    simp only [append_B, size_B, List.length_append, List.length_singleton]
    by_cases h0 : i = 0
    · rw [cond_dec' (by omega), sd30_succ, postbaglaw5_LetterSaid_0.t30, size_B, size_B, chk_dec (by omega), hw1, append_B, allT_snoc, if_pos (hl.2 h0), List.append_nil]
    · rw [cond_dec (by omega), chk_dec (by omega), chk_dec (by omega), sd30_succ, postbaglaw5_LetterSaid_0.t30, size_B, size_B, chk_dec (by simp only [List.length_append, List.length_singleton]; omega), hw1, append_B, allT_snoc, if_neg (fun e => h0 (hl.1 e))]
      simp only [List.append_assoc]
  rw [sd24_succ, postbaglaw5_LetterSaid_0.t24, wants_append, hml]
  cases hg : p.grouped with
  | false =>
    have hp : persT a p = nameT a p := by unfold persT; rw [hg]; rfl
    have hwp : wants [p] = [adrP p] := by unfold wants wantP; rw [hg]; rfl
    simp only [cond_false]
    rw [chk_dec (by omega), ← hp, last, hwp, List.map_append, hab, haB, hhB, hbB]
    rfl
  | true =>
    have hp : persT a p = [103] ++ btw a ++ [58] ++ nameT a p ++ btw a ++ [59] := by unfold persT; rw [hg]; rfl
    have hwp : wants [p] = [grp [103], adrP p, eo] := by unfold wants wantP; rw [hg]; rfl
    simp only [cond_true]
    rw [show ((⟨#[103]⟩ : ByteArray)) = B [103] from rfl, show ((⟨#[58]⟩ : ByteArray)) = B [58] from rfl, show ((⟨#[59]⟩ : ByteArray)) = B [59] from rfl]
    simp only [append_B, size_B, List.length_append, List.length_singleton]
    rw [chk_dec (by omega), chk_dec (by omega), chk_dec (by omega), chk_dec (by omega), chk_dec (by omega), chk_dec (by omega), ← hp, last, hwp, List.map_append, hab, haB, hhB, hbB]
    rfl
theorem sd_end (x0 : List AV) (a : List UInt8) (ha : ∀ c ∈ a, isLw c = true) (l : List Prs) (hh : ∀ p ∈ l, LwL p.host) (hall : (allT a l).length ≤ 12000) (hid : (idT a l).length ≤ 6000) (hl : l.length ≤ 10) (κ : Bool → Option R) (f : Nat) (i : Int) (hi : ¬ i < (x0.length : Int)) :
    sd11 κ (f + 1) x0 (B (btw a)) (B (allT a l)) (B (idT a l)) i ((wants l).map adAV) (rowsS (idN l)) = κ true := by
  rw [sd11_succ, postbaglaw5_LetterSaid_0.t11, cond_dec' hi, lAs_eq _ (by omega), lIds_eq _ (by omega), pcs_allT a ha l hh, pcs_id a ha l hh, ads_all, ids_all l (fun p hp => (hh p hp).1)]
  have hw := wants_len l
  have h1 : take32 (wants l) = wants l := List.take_of_length_le (by omega)
  have h2 : last32 (idN l) = idN l := by
    unfold last32
    have : (idN l).length = l.length := List.length_map ..
    rw [show (idN l).length - 32 = 0 by omega, List.drop_zero]
  rw [h1, h2, adrs_eq _ (by rw [List.length_map]; omega), cond_true, texts_eq _ (by rw [rowsS_len]; unfold idN; rw [List.length_map]; omega)]
theorem sd_loop (x0 : List AV) (h0 : x0.length ≤ 10) (a : List UInt8) (ha : LwL a) (hal : a.length ≤ 21) (κ : Bool → Option R) : ∀ (n i : Nat) (l : List Prs) (f : Nat), x0.length ≤ i + n → i ≤ x0.length → l.length = i → (∀ p ∈ l, LwL p.host) → (allT a l).length ≤ 1200 * i → (idT a l).length ≤ 600 * i → 4 * n + 1 ≤ f →
    sd11 κ f x0 (B (btw a)) (B (allT a l)) (B (idT a l)) (i : Int) ((wants l).map adAV) (rowsS (idN l)) = κ true
  | n, i, l, 0, h1, h2, h3, h4, h5, h6, h7 => by omega
  | 0, i, l, f + 1, h1, h2, h3, h4, h5, h6, h7 => sd_end x0 a ha.2 l h4 (by omega) (by omega) (by omega) κ f _ (by omega)
  | n + 1, i, l, f + 1, h1, h2, h3, h4, h5, h6, h7 => by
    by_cases hi : (i : Int) < (x0.length : Int)
    · obtain ⟨g, rfl⟩ : ∃ g, f = g + 3 := ⟨f - 3, by omega⟩
      have hw := wants_len l
      have h3b := btw_len a
      have hr : (rowsS (idN l)).length = i := by rw [rowsS_len]; unfold idN; rw [List.length_map]; exact h3
      rw [sd11_succ, postbaglaw5_LetterSaid_0.t11, cond_dec hi, chk_and, chk_dec (by omega), chk_dec (by omega)]
      obtain ⟨N, hN⟩ : ∃ N, ((rdA x0 (i : Int)).fld 0).s = B N := ⟨bl _, (B_bl _).symm⟩
      obtain ⟨X, hX⟩ : ∃ X, ((rdA x0 (i : Int)).fld 1).s = B X := ⟨bl _, (B_bl _).symm⟩
      obtain ⟨Y, hY⟩ : ∃ Y, ((rdA x0 (i : Int)).fld 2).s = B Y := ⟨bl _, (B_bl _).symm⟩
      rw [hN, hX, hY]
      generalize ((rdA x0 (i : Int)).fld 3).b = nb
      generalize ((rdA x0 (i : Int)).fld 4).b = gb
      simp only [size_B]
      by_cases hn : (N.length : Int) > 200
      · rw [cond_dec hn]
      · rw [cond_dec' hn]
        by_cases hx : (X.length : Int) > 200
        · rw [cond_dec hx]
        · rw [cond_dec' hx, atom_eq]
          have hlw := atomL_lw Y
          have hyl := atomL_len Y
          generalize atomL Y = Hh at hlw hyl
          rw [show ((⟨#[46]⟩ : ByteArray)) = B [46] from rfl, show ((⟨#[64]⟩ : ByteArray)) = B [64] from rfl, show ((⟨#[32, 46, 32]⟩ : ByteArray)) = B [32, 46, 32] from rfl, show ((⟨#[60]⟩ : ByteArray)) = B [60] from rfl, show ((⟨#[97]⟩ : ByteArray)) = B [97] from rfl, show ((⟨#[62]⟩ : ByteArray)) = B [62] from rfl, show ((⟨#[97, 64]⟩ : ByteArray)) = B [97, 64] from rfl, empty_B]
          simp only [append_B, size_B, List.length_append, List.length_cons, List.length_nil]
          rw [quote_eq X (by omega), quote_eq (X ++ [97]) (by simp; omega), quote_eq N (by omega)]
          have q1 := quoteL_len X
          have q2 := quoteL_len (X ++ [97])
          have q3 := quoteL_len N
          simp only [List.length_append, List.length_cons, List.length_nil] at q2
          simp only [append_B, size_B, List.length_append, List.length_cons, List.length_nil]
          let p : Prs := ⟨N, X, Hh, nb, gb⟩
          have hpn := nameT_len a p hal (by show N.length ≤ 200; omega) (by show X.length ≤ 200; omega) hyl
          have hidl : (idT a (l ++ [p])).length ≤ 600 * (i + 1) := by
            rw [idT_append, List.length_append]
            show (idT a l).length + (btw a ++ [60] ++ quoteL (X ++ [97]) ++ [64] ++ Hh ++ [62] ++ []).length ≤ _
            simp only [List.length_append, List.length_cons, List.length_nil]; omega
          have halll : (allT a (l ++ [p])).length ≤ 1200 * (i + 1) := by
            rw [allT_snoc, List.length_append, List.length_append]
            have : (if l = [] then [] else btw a ++ [44]).length ≤ 48 := by
              split
              · simp
              · simp; omega
            omega
          have hid2 : idT a l ++ btw a ++ [60] ++ quoteL (X ++ [97]) ++ [64] ++ Hh ++ [62] = idT a (l ++ [p]) := by
            rw [idT_append]
            show _ = idT a l ++ (btw a ++ [60] ++ quoteL (X ++ [97]) ++ [64] ++ Hh ++ [62] ++ [])
            simp
          have hnm2 : rowsS (idN l) ++ [AV.str (B (X ++ [97, 64] ++ Hh))] = rowsS (idN (l ++ [p])) := rowsS_map l p
          have ih := sd_loop x0 h0 a ha hal κ n (i + 1) (l ++ [p]) g (by omega) (by omega) (by simp; omega) (by
            intro q hq
            rcases List.mem_append.1 hq with hq | hq
            · exact h4 q hq
            · rw [List.mem_singleton.1 hq]; exact hlw) halll hidl (by omega)
          have hl0 : l = [] ↔ i = 0 := ⟨fun e => by rw [e] at h3; exact h3.symm, fun e => List.length_eq_zero_iff.1 (by omega)⟩
          have go := sd_after x0 a hal l p i (by omega) hl0 h5 (by omega) (by show N.length ≤ 200; omega) (by show X.length ≤ 200; omega) hyl (B (idT a (l ++ [p]))) (rowsS (idN (l ++ [p]))) (B N) (B X) (B Y) nb κ g (adrP p).1.isSome (B ((adrP p).1.getD [])) (B (Hh ++ [46] ++ Hh)) rfl rfl rfl (B X) rfl
          rw [ih] at go
          simp (disch := omega) only [chk_dec, hr]
          rw [hid2, hnm2]
          cases nb with
          | false => exact go
          | true =>
            simp (disch := omega) only [cond_true, chk_dec]
            exact go
    · exact sd_end x0 a ha.2 l h4 (by omega) (by omega) (by omega) κ f _ hi
theorem letterSaid_text (a0 : List AV) (a1 : ByteArray) (κ : Bool → Option R) : postbaglaw5_LetterSaid_0 a0 a1 κ = κ true := by
  have key : ∀ f, 1000 < f → postbaglaw5_LetterSaid_0.e postbaglaw5_known_0 postbaglaw5_atom_0 postbaglaw5_quote_0 letter_Addresses_0 letter_Ids_0 postbaglaw5_addresses_oo postbaglaw5_texts_oo a0 a1 (sd11 κ f) (sd24 κ f) (sd28 κ f) (sd30 κ f) κ = κ true := by
    intro f hf
    unfold postbaglaw5_LetterSaid_0.e
    by_cases h1 : (a0.length : Int) > 10
    · rw [cond_dec h1]
    · rw [cond_dec' h1]
      by_cases h2 : (a1.size : Int) > 200
      · rw [cond_dec h2]
      · rw [cond_dec' h2, known_holds]
        simp only [Bool.not_true, cond_false]
        rw [← B_bl a1, atom_eq]
        have hlw := atomL_lw (bl a1)
        have hyl := atomL_len (bl a1)
        generalize atomL (bl a1) = a at hlw hyl
        rw [show ((⟨#[40]⟩ : ByteArray)) = B [40] from rfl, show ((⟨#[32, 92, 41, 32, 44, 32, 60, 113, 64, 114, 62, 59, 32, 113, 58, 32, 92, 92, 32, 40, 40, 120, 41, 41, 41]⟩ : ByteArray)) = B btwT from rfl, append_B, append_B, size_B, size_B, size_B, size_B, chk_dec (by simp only [List.length_cons, List.length_nil]; omega), chk_dec (by unfold btwT; simp only [List.length_append, List.length_cons, List.length_nil]; omega)]
        exact sd_loop a0 (by omega) a hlw hyl κ 10 0 [] f (by omega) (by omega) rfl (by simp) (by simp [allT]) (by simp [idT]) (by omega)
  exact key fuelK (by unfold fuelK; omega)
end Go.Proofs.Ab
