/- The plain functions of program and document say the same (conditions: those of each lemma). -/
import Derived.Test.YtnipklplcipaiaaDoorAbB
import Derived.IntWalk
import Derived.Test.YtnipklplcipaiaaDoorText
import Derived.Lib.IndexLaws
/- Plain lemmas on the words of the typed texts: checks, numbers, bytes. -/
namespace Go.Proofs.Ab
set_option linter.unusedVariables false
set_option maxRecDepth 4000
open Go
variable {R : Type}
/-! ## Checks -/
theorem chk_dec {p : Prop} [Decidable p] {k : Option R} (h : p) : chk (decide p) k = k := by rw [decide_eq_true h]; rfl
theorem chk_and {a b : Bool} {k : Option R} : chk (a && b) k = chk a (chk b k) := by cases a <;> rfl
theorem chk_tt {k : Option R} : chk true k = k := rfl
theorem chk_ff {k : Option R} : chk false k = none := rfl
theorem cond_dec {α : Type} {p : Prop} [Decidable p] {x y : α} (h : p) : (bif decide p then x else y) = x := by rw [decide_eq_true h]; rfl
theorem cond_dec' {α : Type} {p : Prop} [Decidable p] {x y : α} (h : ¬ p) : (bif decide p then x else y) = y := by rw [decide_eq_false h]; rfl
theorem beq_pos {x y : Int} (h : x = y) : (x == y) = true := by simp [h]
theorem beq_neg {x y : Int} (h : x ≠ y) : (x == y) = false := by simp [h]
theorem bne_pos {x y : Int} (h : x ≠ y) : (x != y) = true := by simp [h]
theorem bne_neg {x y : Int} (h : x = y) : (x != y) = false := by simp [h]
/-! ## Numbers -/
theorem wrap_i64 {x : Int} (h1 : -9223372036854775808 ≤ x) (h2 : x < 9223372036854775808) : IntKind.wrap .i64 x = x := IntWalk.i64_in x ⟨h1, by omega⟩
theorem wrap_u8 {x : Int} (h1 : 0 ≤ x) (h2 : x < 256) : IntKind.wrap .u8 x = x := by rw [IntKind.wrap_u8]; omega
/-! ## Bytes -/
/-- The bytes of a text. -/
def bl (s : ByteArray) : List UInt8 := s.data.toList
/-- A text of bytes. -/
def B (l : List UInt8) : ByteArray := ⟨l.toArray⟩
theorem bl_B (l : List UInt8) : bl (B l) = l := rfl
theorem B_bl (s : ByteArray) : B (bl s) = s := rfl
theorem size_bl (s : ByteArray) : s.size = (bl s).length := by unfold bl; rw [Array.length_toList]; rfl
theorem size_B (l : List UInt8) : (B l).size = l.length := by rw [size_bl, bl_B]
theorem bl_inj {a b : ByteArray} (h : bl a = bl b) : a = b := by rw [← B_bl a, h, B_bl]
theorem B_inj {a b : List UInt8} : B a = B b ↔ a = b := ⟨fun h => by rw [← bl_B a, h, bl_B], fun h => by rw [h]⟩
theorem bl_extract (s : ByteArray) (i j : Nat) : bl (s.extract i j) = ((bl s).take j).drop i := by
  unfold bl; rw [ByteArray.data_extract, Array.toList_extract]; simp [List.extract, List.drop_take]
theorem extract_B (l : List UInt8) (i j : Nat) : (B l).extract i j = B ((l.take j).drop i) := bl_inj (by rw [bl_extract, bl_B, bl_B])
theorem bl_append (a b : ByteArray) : bl (a ++ b) = bl a ++ bl b := by unfold bl; simp
theorem append_B (a b : List UInt8) : B a ++ B b = B (a ++ b) := bl_inj (by rw [bl_append]; rfl)
theorem empty_B : (⟨#[]⟩ : ByteArray) = B [] := rfl
theorem btA_get {s : ByteArray} {i : Nat} {c : UInt8} (h : (bl s)[i]? = some c) : btA s (i : Int) = c.toNat := by
  obtain ⟨hlt, hv⟩ := List.getElem?_eq_some_iff.1 h
  have hlt' : i < s.size := by rw [size_bl]; exact hlt
  unfold btA
  simp only [Int.toNat_natCast]
  rw [dif_pos hlt']
  congr 2
theorem drop_get {α : Type} {l : List α} {i : Nat} {c : α} {r : List α} (h : l.drop i = c :: r) : l[i]? = some c ∧ i < l.length ∧ l.drop (i + 1) = r := by
  have h0 : (l.drop i)[0]? = some c := by rw [h]; rfl
  rw [List.getElem?_drop, Nat.add_zero] at h0
  refine ⟨h0, (List.getElem?_eq_some_iff.1 h0).1, ?_⟩
  rw [← List.drop_drop, h]; rfl
theorem drop_nil {α : Type} {l : List α} {i : Nat} (h : l.drop i = []) : l.length ≤ i := by simpa using h
theorem drop_lt {α : Type} {l : List α} {i : Nat} (h : i < l.length) : ∃ c r, l.drop i = c :: r := by
  cases hd : l.drop i with
  | nil => have := drop_nil hd; omega
  | cons c r => exact ⟨c, r, rfl⟩
theorem take_succ_get {α : Type} {l : List α} {i : Nat} {c : α} (h : l[i]? = some c) : l.take (i + 1) = l.take i ++ [c] := by
  rw [List.take_add_one, h]; rfl
theorem byte_beq (c d : UInt8) : ((c.toNat : Int) == (d.toNat : Int)) = (c == d) := by
  rw [Bool.eq_iff_iff]; simp only [beq_iff_eq, Int.natCast_inj, ← UInt8.toNat_inj]
theorem byte_bne (c d : UInt8) : ((c.toNat : Int) != (d.toNat : Int)) = (c != d) := by
  unfold bne; rw [byte_beq]
theorem byte_lt (c : UInt8) : c.toNat < 256 := by have := c.toNat_lt; omega
theorem nat_i {i : Nat} : ((i : Int) + 1) = ((i + 1 : Nat) : Int) := rfl
theorem index_cons (b : UInt8) (l sub : List UInt8) : Lib.index (b :: l) sub = if sub.isPrefixOf (b :: l) then 0 else if Lib.index l sub == -1 then -1 else Lib.index l sub + 1 := rfl
theorem index_room : ∀ (s sub : List UInt8), Lib.index s sub ≠ -1 → Lib.index s sub + sub.length ≤ s.length
  | [], sub, h => by
    cases sub with
    | nil => simp [Lib.index]
    | cons a t => exact absurd rfl h
  | b :: l, sub, h => by
    rw [index_cons] at h ⊢
    split at h
    · rename_i hp
      rw [if_pos hp]
      have := (List.isPrefixOf_iff_prefix.1 hp).length_le
      omega
    · rename_i hp
      rw [if_neg hp]
      split at h
      · exact absurd rfl h
      · rename_i hi
        have hi' : Lib.index l sub ≠ -1 := by simpa using hi
        have := index_room l sub hi'
        rw [if_neg hi]
        simp only [List.length_cons]; omega
/-! ## Rows -/
theorem rdA_get {l : List AV} {i : Nat} {a : AV} (h : l[i]? = some a) : rdA l (i : Int) = a := by
  unfold rdA; rw [Int.toNat_natCast, List.getD_eq_getElem?_getD, h]; rfl
theorem rdA_drop {l : List AV} {i : Nat} {a : AV} {r : List AV} (h : l.drop i = a :: r) : rdA l (i : Int) = a := rdA_get (drop_get h).1
end Go.Proofs.Ab

/- Bytes, rows and small functions of Go's library; the law's check that the program works at all. -/
namespace Go.Proofs.Ab
set_option linter.unusedVariables false
set_option maxRecDepth 4000
open Go
variable {R : Type}
theorem btB {l : List UInt8} {i : Nat} {c : UInt8} (h : l[i]? = some c) : btA (B l) (i : Int) = c.toNat := btA_get (s := B l) h
theorem byteB (c : UInt8) (d : UInt8) (x : Int) (h : x = (d.toNat : Int)) : ((c.toNat : Int) == x) = (c == d) := by rw [h, byte_beq]
theorem byteN (c : UInt8) (d : UInt8) (x : Int) (h : x = (d.toNat : Int)) : ((c.toNat : Int) != x) = (c != d) := by rw [h, byte_bne]
/-- Lists of lines as rows. -/
def rowsS (l : List (List UInt8)) : List AV := l.map fun x => .str (B x)
theorem rowsS_len (l : List (List UInt8)) : (rowsS l).length = l.length := by unfold rowsS; simp
theorem rowsS_append (l m : List (List UInt8)) : rowsS (l ++ m) = rowsS l ++ rowsS m := by unfold rowsS; simp

theorem rdA_rows {l : List (List UInt8)} {i : Nat} {x : List UInt8} (h : l[i]? = some x) : (rdA (rowsS l) (i : Int)).s = B x := by
  rw [rdA_get (a := .str (B x)) (by unfold rowsS; rw [List.getElem?_map, h]; rfl)]; rfl
theorem rdA_last (xs : List AV) (a : AV) : rdA (xs ++ [a]) (xs.length : Int) = a := rdA_get (by simp)
theorem rdA_at (xs : List AV) (a : AV) (r : List AV) (n : Nat) (h : xs.length = n) : rdA (xs ++ a :: r) (n : Int) = a := rdA_get (by subst h; simp)
theorem setA_at (xs : List AV) (a b : AV) (r : List AV) (n : Nat) (h : xs.length = n) : setA (xs ++ a :: r) (n : Int) b = xs ++ b :: r := by
  subst h; unfold setA; simp
theorem prefix_take {l p : List UInt8} : p.isPrefixOf l = decide (l.take p.length = p) := by
  rw [Bool.eq_iff_iff, List.isPrefixOf_iff_prefix, List.prefix_iff_eq_take, decide_eq_true_eq, eq_comm]
theorem hasPrefix_eq (a : ByteArray) (p : List UInt8) (κ : Bool → Option R) : strings_HasPrefix_0 a (B p) κ = κ (p.isPrefixOf (bl a)) := by
  have hsz := size_bl a
  unfold strings_HasPrefix_0 strings_HasPrefix_0.e stringslite_HasPrefix_0 stringslite_HasPrefix_0.e
  simp only [size_B]
  by_cases h : p.length ≤ (bl a).length
  · simp (disch := omega) only [cond_dec, chk_and, chk_dec]
    congr 1
    rw [prefix_take]
    congr 1
    rw [← B_bl (a.extract _ _), bl_extract, B_inj]
    simp
  · simp (disch := omega) only [cond_dec']
    congr 1
    rw [prefix_take]
    symm; rw [decide_eq_false_iff_not]
    intro e; have := congrArg List.length e; simp at this; omega
theorem index_eq (l p : List UInt8) (hs : l.length ≤ 1000000) (κ : Int → Option R) : strings_Index_0 (B l) (B p) κ = κ (Lib.index l p) := by
  unfold strings_Index_0 strings_Index_0.e stringslite_Index_0
  have := size_B l
  simp (disch := omega) only [chk_dec]
  rfl
theorem hasPrefixB (l p : List UInt8) (κ : Bool → Option R) : strings_HasPrefix_0 (B l) (B p) κ = κ (p.isPrefixOf l) := hasPrefix_eq (B l) p κ
theorem takeWhile_get {p : UInt8 → Bool} {l : List UInt8} {k : Nat} (h : k < (l.takeWhile p).length) : ∃ c, l[k]? = some c ∧ p c = true := by
  obtain ⟨t, ht⟩ := List.takeWhile_prefix p (l := l)
  refine ⟨(l.takeWhile p)[k], ?_, List.all_eq_true.1 List.all_takeWhile _ (List.getElem_mem h)⟩
  have := List.getElem?_append_left (l₂ := t) h
  rw [ht] at this
  rw [this, List.getElem?_eq_getElem h]
theorem known_holds (κ : Bool → Option R) : postbaglaw5_known_0 κ = κ true := by kernel_rfl
theorem indexByte_at {l : List UInt8} {c : UInt8} {o : Nat} (h : l[o]? = some c) (hn : ∀ k, k < o → l[k]? ≠ some c) : Lib.indexByte l c = o := by
  have hge := Lib.indexByte_ge l c
  by_cases e : Lib.indexByte l c = -1
  · exact absurd h (Lib.indexByte_none e o)
  · obtain ⟨m, hm⟩ : ∃ m : Nat, Lib.indexByte l c = m := ⟨(Lib.indexByte l c).toNat, by omega⟩
    obtain ⟨h1, h2⟩ := Lib.indexByte_some hm
    rcases Nat.lt_trichotomy m o with hlt | heq | hgt
    · exact absurd h1 (hn m hlt)
    · rw [hm, heq]
    · exact absurd h (h2 o hgt)
theorem dw_nil {p : UInt8 → Bool} : ∀ {l : List UInt8}, l.dropWhile p = [] ↔ ∀ a ∈ l, p a = true
  | [] => by simp
  | c :: r => by
    rw [List.dropWhile_cons]
    cases h : p c with
    | true => simp [h, dw_nil (l := r)]
    | false => simp [h]
end Go.Proofs.Ab

/- Bytes as cells; strings.Builder. -/
namespace Go.Proofs.Ab
set_option linter.unusedVariables false
set_option maxRecDepth 4000
open Go
variable {R : Type}
theorem all_bytes {p : UInt8 → Bool} (h : (List.range 256).all (fun n => p (UInt8.ofNat n)) = true) (c : UInt8) : p c = true := by
  have := List.all_eq_true.1 h c.toNat (List.mem_range.2 (byte_lt c))
  rwa [UInt8.ofNat_toNat] at this
theorem sIB_eq (l : List UInt8) (c : UInt8) (κ : Int → Option R) : strings_IndexByte_0 (B l) (c.toNat : Int) κ = κ (Lib.indexByte l c) := by
  show κ (Lib.indexByte l ((c.toNat : Int).toNat.toUInt8)) = _
  rw [Int.toNat_natCast]
  show κ (Lib.indexByte l (UInt8.ofNat c.toNat)) = _
  rw [UInt8.ofNat_toNat]
/-- A text's bytes as cells. -/
def intsAV (t : List UInt8) : List AV := t.map fun b => AV.int (b.toNat : Int)
theorem ints_len (t : List UInt8) : (intsAV t).length = t.length := by unfold intsAV; simp
theorem ints_append (t u : List UInt8) : intsAV t ++ intsAV u = intsAV (t ++ u) := by unfold intsAV; simp
theorem ints_snoc (t : List UInt8) (c : UInt8) : intsAV t ++ [AV.int (c.toNat : Int)] = intsAV (t ++ [c]) := ints_append t [c]
theorem strAV_ints (t : List UInt8) : strAV (intsAV t) = B t := by
  unfold strAV intsAV B
  congr 2
  rw [List.map_map]
  conv => rhs; rw [← List.map_id t]
  apply List.map_congr_left
  intro b hb
  show UInt8.ofNat ((b.toNat : Int).toNat) = b
  rw [Int.toNat_natCast, UInt8.ofNat_toNat]
theorem ints_ok (t : List UInt8) : List.all (intsAV t) byteOk = true := by
  unfold intsAV
  rw [List.all_map, List.all_eq_true]
  intro b hb
  have := byte_lt b
  show byteOk (AV.int (b.toNat : Int)) = true
  unfold byteOk
  show (decide (0 ≤ (b.toNat : Int)) && decide ((b.toNat : Int) < 256)) = true
  rw [decide_eq_true (by omega), decide_eq_true (by omega)]; rfl
theorem bytesB' (t : List UInt8) : bytesAV (B t) = intsAV t := rfl
theorem wByte_eq (l : List AV) (a : Int) (κ : List AV → Option R) (h : l.length ≤ 1000000000) : strings_Builder_WriteByte_vxfei l a κ = κ (l ++ [AV.int a]) := by
  show chk (decide ((l.length + 1) * 1 ≤ 140737488355328)) (κ (l ++ [AV.int a])) = _
  rw [chk_dec (by omega)]
theorem bString_eq (t : List UInt8) (κ : ByteArray → Option R) : strings_Builder_String_vxfe (intsAV t) κ = κ (B t) := by
  unfold strings_Builder_String_vxfe strings_Builder_String_vxfe.e
  rw [chk_dec rfl, ints_ok, strAV_ints]; rfl
theorem bytesB (t : List UInt8) : bytesAV (B t) = intsAV t := rfl
theorem wString_eq (l : List AV) (s : ByteArray) (κ : Int → List AV → Option R) (h : l.length + s.size ≤ 1000000000) : strings_Builder_WriteString_vxfes l s κ = κ (s.size : Int) (l ++ bytesAV s) := by
  show chk (decide ((l.length + (bytesAV s).length) * 1 ≤ 140737488355328)) (κ (s.size : Int) (l ++ bytesAV s)) = _
  have : (bytesAV s).length = s.size := by unfold bytesAV; simp
  rw [chk_dec (by omega)]
end Go.Proofs.Ab

/- Small letters. -/
namespace Go.Proofs.Ab
set_option linter.unusedVariables false
set_option maxRecDepth 4000
open Go
variable {R : Type}
def lowC (c : UInt8) : UInt8 := if 65 ≤ c.toNat ∧ c.toNat ≤ 90 then UInt8.ofNat (c.toNat + 32) else c
def lowL (l : List UInt8) : List UInt8 := l.map lowC
theorem lowC_up {c : UInt8} (h1 : 65 ≤ c.toNat) (h2 : c.toNat ≤ 90) : ((lowC c).toNat : Int) = (c.toNat : Int) + 32 := by
  unfold lowC
  rw [if_pos ⟨h1, h2⟩]
  simp; omega
theorem lowC_no {c : UInt8} (h : ¬ (65 ≤ c.toNat ∧ c.toNat ≤ 90)) : lowC c = c := by unfold lowC; rw [if_neg h]
theorem lowL_len (l : List UInt8) : (lowL l).length = l.length := by unfold lowL; simp
theorem ints_get {l : List UInt8} {i : Nat} {c : UInt8} (h : l[i]? = some c) : (rdA (intsAV l) (i : Int)).i = (c.toNat : Int) := by
  rw [rdA_get (a := .int (c.toNat : Int)) (by unfold intsAV; rw [List.getElem?_map, h]; rfl)]; rfl
theorem ints_set (a : List UInt8) (c d : UInt8) (r : List UInt8) (n : Nat) (h : a.length = n) : setA (intsAV (a ++ c :: r)) (n : Int) (.int (d.toNat : Int)) = intsAV (a ++ d :: r) := by
  unfold intsAV
  rw [List.map_append, List.map_cons, setA_at _ _ _ _ n (by rw [List.length_map]; exact h)]
  simp
theorem oLower_loop (l : List UInt8) (hs : l.length ≤ 140737488355327) (κ : ByteArray → Option R) : ∀ (f i : Nat), i ≤ l.length → l.length < i + f →
    octet_Lower_0.L3 κ f (l.length : Int) (i : Int) (intsAV (lowL (l.take i) ++ l.drop i)) = κ (B (lowL l))
  | 0, i, h1, h2 => by omega
  | f + 1, i, h1, h2 => by
    rw [octet_Lower_0.L3, octet_Lower_0.t3]
    have hla : (lowL (l.take i)).length = i := by rw [lowL_len, List.length_take]; omega
    have hll : (intsAV (lowL (l.take i) ++ l.drop i)).length = l.length := by rw [ints_len, List.length_append, hla, List.length_drop]; omega
    simp only [hll, strAV_ints]
    cases hd : l.drop i with
    | nil =>
      have := drop_nil hd
      rw [cond_dec' (by omega), List.append_nil, List.take_of_length_le (by omega)]
    | cons c r =>
      obtain ⟨g1, g2, g3⟩ := drop_get hd
      have hw1 : IntKind.wrap .i64 ((i : Int) + 1) = ((i + 1 : Nat) : Int) := wrap_i64 (by omega) (by omega)
      have hg : (rdA (intsAV (lowL (l.take i) ++ c :: r)) (i : Int)).i = (c.toNat : Int) := ints_get (by rw [List.getElem?_append_right (by omega), hla]; simp)
      simp only [hg, hw1]
      simp (disch := omega) only [cond_dec, chk_and, chk_dec]
      have hn := oLower_loop l hs κ f (i + 1) (by omega) (by omega)
      rw [g3] at hn
      have ht : lowL (l.take (i + 1)) ++ r = lowL (l.take i) ++ lowC c :: r := by rw [take_succ_get g1]; unfold lowL; simp
      rw [ht] at hn
      by_cases h1' : 65 ≤ c.toNat
      · by_cases h2' : c.toNat ≤ 90
        · have hu := lowC_up h1' h2'
          have hlt := byte_lt c
          have hw : IntKind.wrap .u8 ((IntKind.wrap .u8 ((c.toNat : Int) + 97)) - 65) = ((lowC c).toNat : Int) := by
            rw [wrap_u8 (x := (c.toNat : Int) + 97) (by omega) (by omega), wrap_u8 (by omega) (by omega), hu]; omega
          rw [cond_dec (by omega), cond_dec (by omega), hw, ints_set _ _ _ _ _ hla]
          exact hn
        · rw [lowC_no (by omega)] at hn
          rw [cond_dec (by omega), cond_dec' (by omega)]
          exact hn
      · rw [lowC_no (by omega)] at hn
        rw [cond_dec' (by omega)]
        exact hn
theorem oLower_eq (l : List UInt8) (hs : l.length ≤ 140737488355327) (κ : ByteArray → Option R) : octet_Lower_0 (B l) κ = κ (B (lowL l)) := by
  have key : ∀ f, l.length < f → octet_Lower_0.e (B l) (octet_Lower_0.L3 κ f) κ = κ (B (lowL l)) := by
    intro f hf
    unfold octet_Lower_0.e
    rw [size_B, chk_dec (by omega), bytesB', ints_len]
    exact oLower_loop l hs κ f 0 (by omega) (by omega)
  exact key fuelK (by unfold fuelK; omega)
theorem rLower_loop (l : List UInt8) (hs : l.length ≤ 140737488355327) (κ : ByteArray → Option R) : ∀ (f i : Nat), i ≤ l.length → l.length < i + f →
    postbagref1_Lower_0.L3 κ f (B l) (i : Int) (intsAV (lowL (l.take i))) = κ (B (lowL l))
  | 0, i, h1, h2 => by omega
  | f + 1, i, h1, h2 => by
    rw [postbagref1_Lower_0.L3, postbagref1_Lower_0.t3]
    have hla : (intsAV (lowL (l.take i))).length = i := by rw [ints_len, lowL_len, List.length_take]; omega
    simp only [hla, size_B, strAV_ints]
    cases hd : l.drop i with
    | nil =>
      have := drop_nil hd
      rw [cond_dec' (by omega), List.take_of_length_le (by omega)]
    | cons c r =>
      obtain ⟨g1, g2, g3⟩ := drop_get hd
      have hw1 : IntKind.wrap .i64 ((i : Int) + 1) = ((i + 1 : Nat) : Int) := wrap_i64 (by omega) (by omega)
      simp only [hw1, btB g1]
      simp (disch := omega) only [cond_dec, chk_and, chk_dec]
      have hn := rLower_loop l hs κ f (i + 1) (by omega) (by omega)
      have ht : lowL (l.take (i + 1)) = lowL (l.take i) ++ [lowC c] := by rw [take_succ_get g1]; unfold lowL; simp
      rw [ht, ← ints_snoc] at hn
      by_cases h1' : 65 ≤ c.toNat
      · by_cases h2' : c.toNat ≤ 90
        · have hu := lowC_up h1' h2'
          have hlt := byte_lt c
          have hw : IntKind.wrap .u8 ((c.toNat : Int) + 32) = ((lowC c).toNat : Int) := by rw [wrap_u8 (by omega) (by omega), hu]
          rw [cond_dec (by omega), cond_dec (by omega), hw]
          exact hn
        · rw [lowC_no (by omega)] at hn
          rw [cond_dec (by omega), cond_dec' (by omega)]
          exact hn
      · rw [lowC_no (by omega)] at hn
        rw [cond_dec' (by omega)]
        exact hn
theorem rLower_eq (l : List UInt8) (hs : l.length ≤ 140737488355327) (κ : ByteArray → Option R) : postbagref1_Lower_0 (B l) κ = κ (B (lowL l)) := by
  have key : ∀ f, l.length < f → postbagref1_Lower_0.e (B l) (postbagref1_Lower_0.L3 κ f) κ = κ (B (lowL l)) :=
    fun f hf => rLower_loop l hs κ f 0 (by omega) (by omega)
  exact key fuelK (by unfold fuelK; omega)
end Go.Proofs.Ab

/- Texts that are the same in small letters, of any length that is handed over. -/
namespace Go.Proofs.Ab
set_option linter.unusedVariables false
set_option maxRecDepth 4000
open Go
variable {R : Type}
/-- The longest text that is handed over. -/
abbrev NB : Nat := 140737488351232
theorem lSameB (a b : ByteArray) (ha : a.size ≤ NB) (hb : b.size ≤ NB) (κ : Bool → Option R) : octet_Same_0 a b κ = κ (decide (lowL (bl a) = lowL (bl b))) := by
  have h1 := size_bl a
  have h2 := size_bl b
  unfold NB at ha hb
  unfold octet_Same_0 octet_Same_0.e
  conv => lhs; rw [← B_bl a, ← B_bl b, oLower_eq _ (by omega), oLower_eq _ (by omega)]
  exact congrArg κ (decide_eq_decide.2 B_inj)
theorem rSameB (a b : ByteArray) (ha : a.size ≤ NB) (hb : b.size ≤ NB) (κ : Bool → Option R) : postbagref1_Same_0 a b κ = κ (decide (lowL (bl a) = lowL (bl b))) := by
  have h1 := size_bl a
  have h2 := size_bl b
  unfold NB at ha hb
  unfold postbagref1_Same_0 postbagref1_Same_0.e
  conv => lhs; rw [← B_bl a, ← B_bl b, rLower_eq _ (by omega), rLower_eq _ (by omega)]
  exact congrArg κ (decide_eq_decide.2 B_inj)
end Go.Proofs.Ab

/- LetterGets. -/
namespace Go.Proofs.Ab
set_option linter.unusedVariables false
set_option maxRecDepth 4000
open Go
variable {R : Type}
/-- What Get answers. -/
def getL (name : ByteArray) : List AV → Option ByteArray
  | [] => none
  | a :: r => if lowL (bl (a.fld 0).s) = lowL (bl name) then some (a.fld 1).s else getL name r
def kGet (κ : Bool → ByteArray → Option R) (o : Option ByteArray) : Option R := κ o.isSome (o.getD (B []))
theorem rd_get {l : List AV} {i : Nat} {a : AV} {r : List AV} (h : l.drop i = a :: r) : rdA l (i : Int) = a := rdA_drop h
theorem lGet_loop (name : ByteArray) (hn : name.size ≤ NB) (l : List AV) (hl : l.length ≤ 1000000) (hf : ∀ a ∈ l, Fit NB a) (κ : Bool → ByteArray → Option R) (x4 : Bool) (x5 : ByteArray) : ∀ (f i : Nat), i ≤ l.length → l.length < i + f →
    letter_Get_os.L2 octet_Same_0 κ f name l (l.length : Int) (i : Int) x4 x5 = kGet κ (getL name (l.drop i))
  | 0, i, h1, h2 => by omega
  | f + 1, i, h1, h2 => by
    rw [letter_Get_os.L2, letter_Get_os.t2, empty_B]
    have hw1 : IntKind.wrap .i64 ((i : Int) + 1) = ((i + 1 : Nat) : Int) := wrap_i64 (by omega) (by omega)
    cases hd : l.drop i with
    | nil =>
      have := drop_nil hd
      rw [cond_dec' (by omega)]; rfl
    | cons a r =>
      obtain ⟨g1, g2, g3⟩ := drop_get hd
      have ha := hf a (List.mem_of_getElem? g1)
      rw [cond_dec (by omega), chk_and, chk_dec (by omega), chk_dec (by omega), rd_get hd, lSameB _ _ (ha.fld 0).s hn, hw1, lGet_loop name hn l hl hf κ x4 x5 f (i + 1) (by omega) (by omega), g3, getL]
      by_cases e : lowL (bl (a.fld 0).s) = lowL (bl name)
      · rw [decide_eq_true e, if_pos e]; rfl
      · rw [decide_eq_false e, if_neg e]; rfl
theorem lGet_eq (name : ByteArray) (hn : name.size ≤ NB) (l : List AV) (hl : l.length ≤ 1000000) (hf : ∀ a ∈ l, Fit NB a) (κ : Bool → ByteArray → Option R) : letter_Get_os l name κ = kGet κ (getL name l) := by
  have key : ∀ f, l.length < f → letter_Get_os.e octet_Same_0 l name (letter_Get_os.L2 octet_Same_0 κ f) κ = kGet κ (getL name l) :=
    fun f h => lGet_loop name hn l hl hf κ false _ f 0 (by omega) (by omega)
  exact key fuelK (by unfold fuelK; omega)
theorem rGet_loop (name : ByteArray) (hn : name.size ≤ NB) (l : List AV) (hl : l.length ≤ 1000000) (hf : ∀ a ∈ l, Fit NB a) (κ : Bool → ByteArray → Option R) (x4 : Bool) (x5 : ByteArray) : ∀ (f i : Nat), i ≤ l.length → l.length < i + f →
    postbagref5_Get_0.L2 postbagref1_Same_0 κ f l name (i : Int) x4 x5 = kGet κ (getL name (l.drop i))
  | 0, i, h1, h2 => by omega
  | f + 1, i, h1, h2 => by
    rw [postbagref5_Get_0.L2, postbagref5_Get_0.t2, empty_B]
    have hw1 : IntKind.wrap .i64 ((i : Int) + 1) = ((i + 1 : Nat) : Int) := wrap_i64 (by omega) (by omega)
    cases hd : l.drop i with
    | nil =>
      have := drop_nil hd
      rw [cond_dec' (by omega)]; rfl
    | cons a r =>
      obtain ⟨g1, g2, g3⟩ := drop_get hd
      have ha := hf a (List.mem_of_getElem? g1)
      rw [cond_dec (by omega), chk_and, chk_dec (by omega), chk_dec (by omega), rd_get hd, rSameB _ _ (ha.fld 0).s hn, hw1, rGet_loop name hn l hl hf κ x4 x5 f (i + 1) (by omega) (by omega), g3, getL]
      by_cases e : lowL (bl (a.fld 0).s) = lowL (bl name)
      · rw [decide_eq_true e, if_pos e, cond_true, chk_and, chk_dec (by omega), chk_dec (by omega)]; rfl
      · rw [decide_eq_false e, if_neg e]; rfl
theorem rGet_eq (name : ByteArray) (hn : name.size ≤ NB) (l : List AV) (hl : l.length ≤ 1000000) (hf : ∀ a ∈ l, Fit NB a) (κ : Bool → ByteArray → Option R) : postbagref5_Get_0 l name κ = kGet κ (getL name l) := by
  have key : ∀ f, l.length < f → postbagref5_Get_0.e postbagref1_Same_0 l name (postbagref5_Get_0.L2 postbagref1_Same_0 κ f) κ = kGet κ (getL name l) :=
    fun f h => rGet_loop name hn l hl hf κ _ _ f 0 (by omega) (by omega)
  exact key fuelK (by unfold fuelK; omega)
theorem rGeto_eq (name : ByteArray) (hn : name.size ≤ NB) (l : List AV) (hl : l.length ≤ 1000000) (hf : ∀ a ∈ l, Fit NB a) (κ : Bool → ByteArray → Option R) : postbagref5_Get_os l name κ = kGet κ (getL name l) := by
  rw [← rGet_eq name hn l hl hf κ]
  have loop : ∀ (f : Nat) (i : Int) (b : Bool) (s : ByteArray), postbagref5_Get_os.L2 postbagref1_Same_0 κ f l name i b s = postbagref5_Get_0.L2 postbagref1_Same_0 κ f l name i b s := by
    intro f
    induction f with
    | zero => intro i b s; rfl
    | succ f ih =>
      intro i b s
      rw [postbagref5_Get_os.L2, postbagref5_Get_0.L2, postbagref5_Get_os.t2, postbagref5_Get_0.t2, ih]
  unfold postbagref5_Get_os postbagref5_Get_0 postbagref5_Get_os.e postbagref5_Get_0.e
  exact loop _ _ _ _
theorem fieldsr_same (l : List AV) (hl : l.length ≤ 1000000) (κ : Bool → Option R) : ∀ (f i : Nat), i ≤ l.length → l.length < i + f → postbaglaw5_fields_or.L4 κ f l l (i : Int) = κ true
  | 0, i, h1, h2 => by omega
  | f + 1, i, h1, h2 => by
    rw [postbaglaw5_fields_or.L4, postbaglaw5_fields_or.t4]
    by_cases h : i < l.length
    · have hw1 : IntKind.wrap .i64 ((i : Int) + 1) = ((i + 1 : Nat) : Int) := wrap_i64 (by omega) (by omega)
      simp (disch := omega) only [cond_dec, chk_and, chk_dec, hw1, decide_true, BEq.rfl, Bool.and_true, Bool.not_true, cond_false]
      exact fieldsr_same l hl κ f (i + 1) (by omega) (by omega)
    · rw [cond_dec' (by omega)]
theorem fieldsr_eq (l : List AV) (hl : l.length ≤ 1000000) (κ : Bool → Option R) : postbaglaw5_fields_or l l κ = κ true := by
  have key : ∀ f, l.length < f → postbaglaw5_fields_or.e l l (postbaglaw5_fields_or.L4 κ f) κ = κ true := by
    intro f h
    unfold postbaglaw5_fields_or.e
    rw [bne_neg rfl]
    exact fieldsr_same l hl κ f 0 (by omega) (by omega)
  exact key fuelK (by unfold fuelK; omega)
theorem cut_front (l : List AV) (x : AV) : cutA (l ++ [x]) 0 (l.length : Int) = l := by
  unfold cutA
  rw [Int.toNat_natCast]
  simp
theorem fit_cut {N : Nat} {l : List AV} (h : ∀ a ∈ l, Fit N a) (i j : Int) : ∀ a ∈ cutA l i j, Fit N a := by
  intro a ha
  unfold cutA at ha
  exact h a (List.mem_of_mem_take (List.mem_of_mem_drop ha))
theorem fit_set {N : Nat} {l : List AV} (h : ∀ a ∈ l, Fit N a) {x : AV} (hx : Fit N x) (i : Int) : ∀ a ∈ setA l i x, Fit N a := by
  intro a ha
  unfold setA at ha
  rcases List.mem_or_eq_of_mem_set ha with h1 | h1
  · exact h a h1
  · rw [h1]; exact hx
theorem fit_fld {N : Nat} {a : AV} (h : Fit N a) : Fit N (AV.agg [AV.str (a.fld 0).s, AV.str (a.fld 1).s, AV.str (a.fld 2).s]) := by
  refine .agg _ fun b hb => ?_
  simp only [List.mem_cons, List.mem_nil_iff, or_false] at hb
  rcases hb with rfl | rfl | rfl
  · exact .str _ (h.fld 0).s
  · exact .str _ (h.fld 1).s
  · exact .str _ (h.fld 2).s
theorem set_len (l : List AV) (i : Int) (x : AV) : (setA l i x).length = l.length := by unfold setA; simp
abbrev lg9 (κ : Bool → Option R) (f : Nat) := postbaglaw5_LetterGets_0.L9 postbaglaw5_known_0 letter_Get_os postbagref5_Get_0 postbaglaw5_fields_or postbagref5_Get_os κ f
theorem gets_loop (a0 a1 : List AV) (a2 : ByteArray) (h0 : a0.length ≤ 300) (h1 : ∀ a ∈ a1, Fit NB a) (h2 : a2.size ≤ NB) (κ : Bool → Option R) : ∀ (f i : Nat) (x : List AV), i ≤ a0.length → a0.length < i + f → x.length = a0.length + 1 → (∀ a ∈ x, Fit NB a) →
    lg9 κ f a0 a1 a2 (i : Int) x = κ true
  | 0, i, x, g1, g2, g3, g4 => by omega
  | f + 1, i, x, g1, g2, g3, g4 => by
    unfold lg9
    rw [postbaglaw5_LetterGets_0.L9, postbaglaw5_LetterGets_0.t9]
    have hw1 : IntKind.wrap .i64 ((i : Int) + 1) = ((i + 1 : Nat) : Int) := wrap_i64 (by omega) (by omega)
    have hcl : (cutA x 0 (a0.length : Int)).length ≤ 300 := by
      unfold cutA; rw [List.length_drop, List.length_take]; omega
    have fin : (chk ((decide ((0 : Int) ≤ (a0.length : Int))) && (decide ((a0.length : Int) ≤ (x.length : Int)))) (chk (decide ((0 + (cutA x 0 (a0.length : Int)).length) * 48 ≤ 140737488355328)) (chk ((decide ((0 : Int) ≤ (a0.length : Int))) && (decide ((a0.length : Int) ≤ (x.length : Int)))) (letter_Get_os (cutA x 0 (a0.length : Int)) a2 (fun r635 r636 => (postbagref5_Get_os (cutA x 0 (a0.length : Int)) a2 (fun r637 r638 => (κ ((r635 == r637) && ((decide (r636 = r638)) && true))))))))) ) = κ true := by
      rw [chk_and, chk_dec (by omega), chk_dec (by omega), chk_dec (by omega), chk_and, chk_dec (by omega), chk_dec (by omega), lGet_eq a2 h2 _ (by omega) (fit_cut g4 _ _)]
      simp only [kGet]
      rw [rGeto_eq a2 h2 _ (by omega) (fit_cut g4 _ _)]
      simp [kGet]
    rw [fin]
    by_cases hi : (i : Int) < (a0.length : Int)
    · rw [cond_dec hi]
      by_cases hj : (i : Int) < (a1.length : Int)
      · rw [cond_dec hj, chk_and, chk_dec (by omega), chk_dec (by omega), chk_and, chk_dec (by omega), chk_dec (by omega), hw1]
        exact gets_loop a0 a1 a2 h0 h1 h2 κ f (i + 1) _ (by omega) (by omega) (by rw [set_len]; exact g3) (fit_set g4 (fit_fld (Fit.rd h1 _)) _)
      · rw [cond_dec' hj]
    · rw [cond_dec' hi]
theorem letterGets_text (a0 a1 : List AV) (a2 : ByteArray) (f0 : ∀ a ∈ a0, Fit NB a) (f1 : ∀ a ∈ a1, Fit NB a) (f2 : a2.size ≤ NB) (κ : Bool → Option R) : postbaglaw5_LetterGets_0 a0 a1 a2 κ = κ true := by
  have key : ∀ f, 1000 < f → postbaglaw5_LetterGets_0.e postbaglaw5_known_0 letter_Get_os postbagref5_Get_0 postbaglaw5_fields_or postbagref5_Get_os a0 a1 a2 (lg9 κ f) κ = κ true := by
    intro f hf
    unfold postbaglaw5_LetterGets_0.e
    by_cases h1 : (a0.length : Int) > 300
    · rw [cond_dec h1]
    · rw [cond_dec' h1]
      by_cases h2 : (a1.length : Int) > 300
      · rw [cond_dec h2]
      · have hx : Fit NB (AV.agg [AV.str a2, AV.str (⟨#[98, 101, 104, 105, 110, 100]⟩ : ByteArray), AV.str (⟨#[]⟩ : ByteArray)]) := by
          refine .agg _ fun b hb => ?_
          simp only [List.mem_cons, List.mem_nil_iff, or_false] at hb
          rcases hb with rfl | rfl | rfl
          · exact .str _ f2
          · exact .str _ (by decide)
          · exact .str _ (by decide)
        have hxb : ((AV.agg [AV.str a2, AV.str (⟨#[98, 101, 104, 105, 110, 100]⟩ : ByteArray), AV.str (⟨#[]⟩ : ByteArray)]).fld 1).s = (⟨#[98, 101, 104, 105, 110, 100]⟩ : ByteArray) := rfl
        generalize AV.agg [AV.str a2, AV.str (⟨#[98, 101, 104, 105, 110, 100]⟩ : ByteArray), AV.str (⟨#[]⟩ : ByteArray)] = x at hx hxb
        have hal : (a0 ++ [x]).length = a0.length + 1 := by simp
        rw [cond_dec' h2, chk_dec (by omega), chk_dec (by omega), known_holds]
        simp only [Bool.not_true, cond_false]
        rw [hal, chk_and, chk_dec (by omega), chk_dec (by omega), cut_front, lGet_eq a2 f2 a0 (by omega) f0]
        simp only [kGet]
        rw [rGet_eq a2 f2 a0 (by omega) f0]
        simp only [kGet, BEq.rfl, decide_true, Bool.and_true, Bool.not_true, cond_false]
        rw [chk_and, chk_dec (by omega), chk_dec (by omega), rdA_last, hxb]
        simp only [decide_true, Bool.not_true, cond_false]
        rw [chk_and, chk_dec (by omega), chk_dec (by omega), fieldsr_eq a0 (by omega)]
        simp only [Bool.not_true, cond_false]
        exact gets_loop a0 a1 a2 (by omega) f1 f2 κ f 0 _ (by omega) (by omega) hal (by
          intro a ha
          rcases List.mem_append.1 ha with h | h
          · exact f0 a h
          · rw [List.mem_singleton.1 h]; exact hx)
  exact key fuelK (by unfold fuelK; omega)
end Go.Proofs.Ab
