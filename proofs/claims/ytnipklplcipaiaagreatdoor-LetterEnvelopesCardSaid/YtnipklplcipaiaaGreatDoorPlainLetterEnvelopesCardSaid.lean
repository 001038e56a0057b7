/- The plain functions of program and document say the same (conditions: those of each lemma). -/
import Derived.Test.YtnipklplcipaiaaGreatDoorAbB
import Derived.IntWalk
import Derived.Test.YtnipklplcipaiaaGreatDoorText
import Derived.Lib.IndexLaws
namespace Go.Proofs.Ab
set_option linter.unusedVariables false
set_option maxRecDepth 4000
open Go
variable {R : Type}
theorem chk_dec {p : Prop} [Decidable p] {k : Option R} (h : p) : chk (decide p) k = k := by rw [decide_eq_true h]; rfl
theorem chk_and {a b : Bool} {k : Option R} : chk (a && b) k = chk a (chk b k) := by cases a <;> rfl
theorem chk_tt {k : Option R} : chk true k = k := rfl
theorem chk_ff {k : Option R} : chk false k = none := rfl
theorem cond_dec {α : Type} {p : Prop} [Decidable p] {x y : α} (h : p) : (bif decide p then x else y) = x := by rw [decide_eq_true h]; rfl
theorem cond_dec' {α : Type} {p : Prop} [Decidable p] {x y : α} (h : ¬ p) : (bif decide p then x else y) = y := by rw [decide_eq_false h]; rfl
theorem beq_pos {x y : Int} (h : x = y) : (x == y) = true := by simp [h]
theorem beq_neg {x y : Int} (h : x ≠ y) : (x == y) = false := by simp [h]
theorem bne_pos {x y : Int} (h : x ≠ y) : (x != y) = true := by simp [h]
theorem bne_neg {x y : Int} (h : x = y) : (x != y) = false := by simp [h]
theorem wrap_i64 {x : Int} (h1 : -9223372036854775808 <= x) (h2 : x < 9223372036854775808) : IntKind.wrap .i64 x = x := IntWalk.i64_in x ⟨h1, by omega⟩
theorem wrap_u8 {x : Int} (h1 : 0 <= x) (h2 : x < 256) : IntKind.wrap .u8 x = x := by rw [IntKind.wrap_u8]; omega
def bl (s : ByteArray) : List UInt8 := s.data.toList
def B (l : List UInt8) : ByteArray := ⟨l.toArray⟩
theorem bl_B (l : List UInt8) : bl (B l) = l := rfl
theorem B_bl (s : ByteArray) : B (bl s) = s := rfl
theorem size_bl (s : ByteArray) : s.size = (bl s).length := by unfold bl; rw [Array.length_toList]; rfl
theorem size_B (l : List UInt8) : (B l).size = l.length := by rw [size_bl, bl_B]
theorem bl_inj {a b : ByteArray} (h : bl a = bl b) : a = b := by rw [<- B_bl a, h, B_bl]
theorem B_inj {a b : List UInt8} : B a = B b ↔ a = b := ⟨fun h => by rw [<- bl_B a, h, bl_B], fun h => by rw [h]⟩
theorem bl_extract (s : ByteArray) (i j : Nat) : bl (s.extract i j) = ((bl s).take j).drop i := by
 unfold bl; rw [ByteArray.data_extract, Array.toList_extract]; simp [List.extract, List.drop_take]
theorem extract_B (l : List UInt8) (i j : Nat) : (B l).extract i j = B ((l.take j).drop i) := bl_inj (by rw [bl_extract, bl_B, bl_B])
theorem bl_append (a b : ByteArray) : bl (a ++ b) = bl a ++ bl b := by unfold bl; simp
theorem append_B (a b : List UInt8) : B a ++ B b = B (a ++ b) := bl_inj (by rw [bl_append]; rfl)
theorem empty_B : (⟨#[]⟩ : ByteArray) = B [] := rfl
theorem btA_get {s : ByteArray} {i : Nat} {c : UInt8} (h : (bl s)[i]? = some c) : btA s (i : Int) = c.toNat := by
 obtain ⟨hlt, hv⟩ := List.getElem?_eq_some_iff.1 h
 have hlt' : i < s.size := by rw [size_bl]; exact hlt
 unfold btA
 simp only [Int.toNat_natCast]
 rw [dif_pos hlt']
 congr 2
theorem drop_get {α : Type} {l : List α} {i : Nat} {c : α} {r : List α} (h : l.drop i = c :: r) : l[i]? = some c /\ i < l.length /\ l.drop (i + 1) = r := by
 have h0 : (l.drop i)[0]? = some c := by rw [h]; rfl
 rw [List.getElem?_drop, Nat.add_zero] at h0
 refine ⟨h0, (List.getElem?_eq_some_iff.1 h0).1, ?_⟩
 rw [<- List.drop_drop, h]; rfl
theorem drop_nil {α : Type} {l : List α} {i : Nat} (h : l.drop i = []) : l.length <= i := by simpa using h
theorem drop_lt {α : Type} {l : List α} {i : Nat} (h : i < l.length) : ∃ c r, l.drop i = c :: r := by
 cases hd : l.drop i with
 | nil => have := drop_nil hd; omega
 | cons c r => exact ⟨c, r, rfl⟩
theorem take_succ_get {α : Type} {l : List α} {i : Nat} {c : α} (h : l[i]? = some c) : l.take (i + 1) = l.take i ++ [c] := by
 rw [List.take_add_one, h]; rfl
theorem byte_beq (c d : UInt8) : ((c.toNat : Int) == (d.toNat : Int)) = (c == d) := by
 rw [Bool.eq_iff_iff]; simp only [beq_iff_eq, Int.natCast_inj, <- UInt8.toNat_inj]
theorem byte_bne (c d : UInt8) : ((c.toNat : Int) != (d.toNat : Int)) = (c != d) := by
 unfold bne; rw [byte_beq]
theorem byte_lt (c : UInt8) : c.toNat < 256 := by have := c.toNat_lt; omega
theorem nat_i {i : Nat} : ((i : Int) + 1) = ((i + 1 : Nat) : Int) := rfl
theorem index_cons (b : UInt8) (l sub : List UInt8) : Lib.index (b :: l) sub = if sub.isPrefixOf (b :: l) then 0 else if Lib.index l sub == -1 then -1 else Lib.index l sub + 1 := rfl
theorem index_room : ∀ (s sub : List UInt8), Lib.index s sub ≠ -1 -> Lib.index s sub + sub.length <= s.length
 | [], sub, h => by
  cases sub with
  | nil => simp [Lib.index]
  | cons a t => exact absurd rfl h
 | b :: l, sub, h => by
  rw [index_cons] at h ⊢
  split at h
  ·rename_i hp
   rw [if_pos hp]
   have := (List.isPrefixOf_iff_prefix.1 hp).length_le
   omega
  ·rename_i hp
   rw [if_neg hp]
   split at h
   ·exact absurd rfl h
   ·rename_i hi
    have hi' : Lib.index l sub ≠ -1 := by simpa using hi
    have := index_room l sub hi'
    rw [if_neg hi]
    simp only [List.length_cons]; omega
theorem rdA_get {l : List AV} {i : Nat} {a : AV} (h : l[i]? = some a) : rdA l (i : Int) = a := by
 unfold rdA; rw [Int.toNat_natCast, List.getD_eq_getElem?_getD, h]; rfl
theorem rdA_drop {l : List AV} {i : Nat} {a : AV} {r : List AV} (h : l.drop i = a :: r) : rdA l (i : Int) = a := rdA_get (drop_get h).1
end Go.Proofs.Ab
namespace Go.Proofs.Ab
set_option linter.unusedVariables false
set_option maxRecDepth 4000
open Go
variable {R : Type}
theorem btB {l : List UInt8} {i : Nat} {c : UInt8} (h : l[i]? = some c) : btA (B l) (i : Int) = c.toNat := btA_get (s := B l) h
theorem byteB (c : UInt8) (d : UInt8) (x : Int) (h : x = (d.toNat : Int)) : ((c.toNat : Int) == x) = (c == d) := by rw [h, byte_beq]
theorem byteN (c : UInt8) (d : UInt8) (x : Int) (h : x = (d.toNat : Int)) : ((c.toNat : Int) != x) = (c != d) := by rw [h, byte_bne]
def rowsS (l : List (List UInt8)) : List AV := l.map fun x => .str (B x)
theorem rowsS_len (l : List (List UInt8)) : (rowsS l).length = l.length := by unfold rowsS; simp
theorem rowsS_append (l m : List (List UInt8)) : rowsS (l ++ m) = rowsS l ++ rowsS m := by unfold rowsS; simp
theorem rdA_rows {l : List (List UInt8)} {i : Nat} {x : List UInt8} (h : l[i]? = some x) : (rdA (rowsS l) (i : Int)).s = B x := by
 rw [rdA_get (a := .str (B x)) (by unfold rowsS; rw [List.getElem?_map, h]; rfl)]; rfl
theorem rdA_last (xs : List AV) (a : AV) : rdA (xs ++ [a]) (xs.length : Int) = a := rdA_get (by simp)
theorem rdA_at (xs : List AV) (a : AV) (r : List AV) (n : Nat) (h : xs.length = n) : rdA (xs ++ a :: r) (n : Int) = a := rdA_get (by subst h; simp)
theorem setA_at (xs : List AV) (a b : AV) (r : List AV) (n : Nat) (h : xs.length = n) : setA (xs ++ a :: r) (n : Int) b = xs ++ b :: r := by
 subst h; unfold setA; simp
theorem prefix_take {l p : List UInt8} : p.isPrefixOf l = decide (l.take p.length = p) := by
 rw [Bool.eq_iff_iff, List.isPrefixOf_iff_prefix, List.prefix_iff_eq_take, decide_eq_true_eq, eq_comm]
theorem hasPrefix_eq (a : ByteArray) (p : List UInt8) (κ : Bool -> Option R) : strings_HasPrefix_0 a (B p) κ = κ (p.isPrefixOf (bl a)) := by
 have hsz := size_bl a
 unfold strings_HasPrefix_0 strings_HasPrefix_0.e stringslite_HasPrefix_0 stringslite_HasPrefix_0.e
 simp only [size_B]
 by_cases h : p.length <= (bl a).length
 ·simp (disch := omega) only [cond_dec, chk_and, chk_dec]
  congr 1
  rw [prefix_take]
  congr 1
  rw [<- B_bl (a.extract _ _), bl_extract, B_inj]
  simp
 ·simp (disch := omega) only [cond_dec']
  congr 1
  rw [prefix_take]
  symm; rw [decide_eq_false_iff_not]
  intro e; have := congrArg List.length e; simp at this; omega
theorem index_eq (l p : List UInt8) (hs : l.length <= 1000000) (κ : Int -> Option R) : strings_Index_0 (B l) (B p) κ = κ (Lib.index l p) := by
 unfold strings_Index_0 strings_Index_0.e stringslite_Index_0
 have := size_B l
 simp (disch := omega) only [chk_dec]
 rfl
theorem hasPrefixB (l p : List UInt8) (κ : Bool -> Option R) : strings_HasPrefix_0 (B l) (B p) κ = κ (p.isPrefixOf l) := hasPrefix_eq (B l) p κ
theorem takeWhile_get {p : UInt8 -> Bool} {l : List UInt8} {k : Nat} (h : k < (l.takeWhile p).length) : ∃ c, l[k]? = some c /\ p c = true := by
 obtain ⟨t, ht⟩ := List.takeWhile_prefix p (l := l)
 refine ⟨(l.takeWhile p)[k], ?_, List.all_eq_true.1 List.all_takeWhile _ (List.getElem_mem h)⟩
 have := List.getElem?_append_left (l₂ := t) h
 rw [ht] at this
 rw [this, List.getElem?_eq_getElem h]
theorem known_holds (κ : Bool -> Option R) : postbaglaw5_known_0 κ = κ true := by kernel_rfl
theorem indexByte_at {l : List UInt8} {c : UInt8} {o : Nat} (h : l[o]? = some c) (hn : ∀ k, k < o -> l[k]? ≠ some c) : Lib.indexByte l c = o := by
 have hge := Lib.indexByte_ge l c
 by_cases e : Lib.indexByte l c = -1
 ·exact absurd h (Lib.indexByte_none e o)
 ·obtain ⟨m, hm⟩ : ∃ m : Nat, Lib.indexByte l c = m := ⟨(Lib.indexByte l c).toNat, by omega⟩
  obtain ⟨h1, h2⟩ := Lib.indexByte_some hm
  rcases Nat.lt_trichotomy m o with hlt | heq | hgt
  ·exact absurd h1 (hn m hlt)
  ·rw [hm, heq]
  ·exact absurd h (h2 o hgt)
theorem dw_nil {p : UInt8 -> Bool} : ∀ {l : List UInt8}, l.dropWhile p = [] ↔ ∀ a ∈ l, p a = true
 | [] => by simp
 | c :: r => by
  rw [List.dropWhile_cons]
  cases h : p c with
  | true => simp [h, dw_nil (l := r)]
  | false => simp [h]
end Go.Proofs.Ab
namespace Go.Proofs.Ab
set_option linter.unusedVariables false
set_option maxRecDepth 4000
open Go
variable {R : Type}
theorem all_bytes {p : UInt8 -> Bool} (h : (List.range 256).all (fun n => p (UInt8.ofNat n)) = true) (c : UInt8) : p c = true := by
 have := List.all_eq_true.1 h c.toNat (List.mem_range.2 (byte_lt c))
 rwa [UInt8.ofNat_toNat] at this
theorem sIB_eq (l : List UInt8) (c : UInt8) (κ : Int -> Option R) : strings_IndexByte_0 (B l) (c.toNat : Int) κ = κ (Lib.indexByte l c) := by
 show κ (Lib.indexByte l ((c.toNat : Int).toNat.toUInt8)) = _
 rw [Int.toNat_natCast]
 show κ (Lib.indexByte l (UInt8.ofNat c.toNat)) = _
 rw [UInt8.ofNat_toNat]
def intsAV (t : List UInt8) : List AV := t.map fun b => AV.int (b.toNat : Int)
theorem ints_len (t : List UInt8) : (intsAV t).length = t.length := by unfold intsAV; simp
theorem ints_append (t u : List UInt8) : intsAV t ++ intsAV u = intsAV (t ++ u) := by unfold intsAV; simp
theorem ints_snoc (t : List UInt8) (c : UInt8) : intsAV t ++ [AV.int (c.toNat : Int)] = intsAV (t ++ [c]) := ints_append t [c]
theorem strAV_ints (t : List UInt8) : strAV (intsAV t) = B t := by
 unfold strAV intsAV B
 congr 2
 rw [List.map_map]
 conv => rhs; rw [<- List.map_id t]
 apply List.map_congr_left
 intro b hb
 show UInt8.ofNat ((b.toNat : Int).toNat) = b
 rw [Int.toNat_natCast, UInt8.ofNat_toNat]
theorem ints_ok (t : List UInt8) : List.all (intsAV t) byteOk = true := by
 unfold intsAV
 rw [List.all_map, List.all_eq_true]
 intro b hb
 have := byte_lt b
 show byteOk (AV.int (b.toNat : Int)) = true
 unfold byteOk
 show (decide (0 <= (b.toNat : Int)) && decide ((b.toNat : Int) < 256)) = true
 rw [decide_eq_true (by omega), decide_eq_true (by omega)]; rfl
theorem bytesB' (t : List UInt8) : bytesAV (B t) = intsAV t := rfl
theorem wByte_eq (l : List AV) (a : Int) (κ : List AV -> Option R) (h : l.length <= 1000000000) : strings_Builder_WriteByte_vxfei l a κ = κ (l ++ [AV.int a]) := by
 show chk (decide ((l.length + 1) * 1 <= 140737488355328)) (κ (l ++ [AV.int a])) = _
 rw [chk_dec (by omega)]
theorem bString_eq (t : List UInt8) (κ : ByteArray -> Option R) : strings_Builder_String_vxfe (intsAV t) κ = κ (B t) := by
 unfold strings_Builder_String_vxfe strings_Builder_String_vxfe.e
 rw [chk_dec rfl, ints_ok, strAV_ints]; rfl
theorem bytesB (t : List UInt8) : bytesAV (B t) = intsAV t := rfl
theorem wString_eq (l : List AV) (s : ByteArray) (κ : Int -> List AV -> Option R) (h : l.length + s.size <= 1000000000) : strings_Builder_WriteString_vxfes l s κ = κ (s.size : Int) (l ++ bytesAV s) := by
 show chk (decide ((l.length + (bytesAV s).length) * 1 <= 140737488355328)) (κ (s.size : Int) (l ++ bytesAV s)) = _
 have : (bytesAV s).length = s.size := by unfold bytesAV; simp
 rw [chk_dec (by omega)]
end Go.Proofs.Ab
namespace Go.Proofs.Ab
set_option linter.unusedVariables false
set_option maxRecDepth 4000
open Go
variable {R : Type}
def isSp (c : UInt8) : Bool := c == 32 || (c == 9 || (c == 13 || c == 10))
def isSg (c : UInt8) : Bool := [60, 62, 58, 59, 64, 44, 46].contains c
def isAt (c : UInt8) : Bool := !isSp c && (!isSg c && ![40, 41, 91, 93, 92, 34].contains c)
theorem lSpace_eq (c : UInt8) (κ : Bool -> Option R) : letter_isSpace_0 (c.toNat : Int) κ = κ (isSp c) := by
 unfold letter_isSpace_0 letter_isSpace_0.e isSp
 rw [byteB c 32 32 rfl, byteB c 9 9 rfl, byteB c 13 13 rfl, byteB c 10 10 rfl]
 cases (c == 32) <;> cases (c == 9) <;> cases (c == 13) <;> rfl
theorem rSpace_eq (c : UInt8) (κ : Bool -> Option R) : postbagref5_isSpace_0 (c.toNat : Int) κ = κ (isSp c) := by
 unfold postbagref5_isSpace_0 postbagref5_isSpace_0.e isSp
 rw [byteB c 32 32 rfl, byteB c 9 9 rfl, byteB c 13 13 rfl, byteB c 10 10 rfl]
 cases (c == 32) <;> cases (c == 9) <;> cases (c == 13) <;> rfl
theorem sg_index (c : UInt8) : decide (Lib.indexByte [60, 62, 58, 59, 64, 44, 46] c >= 0) = isSg c := by
 have := all_bytes (p := fun c => decide (Lib.indexByte [60, 62, 58, 59, 64, 44, 46] c >= 0) == isSg c) (by kernel_rfl) c
 simpa using this
theorem at_index (c : UInt8) : decide (Lib.indexByte [40, 41, 91, 93, 92, 34] c < 0) = ![40, 41, 91, 93, 92, 34].contains c := by
 have := all_bytes (p := fun c => decide (Lib.indexByte [40, 41, 91, 93, 92, 34] c < 0) == ![40, 41, 91, 93, 92, 34].contains c) (by kernel_rfl) c
 simpa using this
theorem lSign_eq (c : UInt8) (κ : Bool -> Option R) : letter_isSign_0 (c.toNat : Int) κ = κ (isSg c) := by
 unfold letter_isSign_0 letter_isSign_0.e
 rw [show (⟨#[60, 62, 58, 59, 64, 44, 46]⟩ : ByteArray) = B [60, 62, 58, 59, 64, 44, 46] from rfl, sIB_eq, sg_index]
theorem lAtom_eq (c : UInt8) (κ : Bool -> Option R) : letter_isAtom_0 (c.toNat : Int) κ = κ (isAt c) := by
 unfold letter_isAtom_0 letter_isAtom_0.e
 rw [show (⟨#[40, 41, 91, 93, 92, 34]⟩ : ByteArray) = B [40, 41, 91, 93, 92, 34] from rfl]
 simp only [lSpace_eq, lSign_eq, sIB_eq, at_index]
 unfold isAt
 cases isSp c <;> cases isSg c <;> rfl
theorem rSign_eq (c : UInt8) (κ : Bool -> Option R) : postbagref5_isSign_0 (c.toNat : Int) κ = κ (isSg c) := by
 unfold postbagref5_isSign_0 postbagref5_isSign_0.e
 rw [byteB c 60 60 rfl, byteB c 62 62 rfl, byteB c 58 58 rfl, byteB c 59 59 rfl, byteB c 64 64 rfl, byteB c 44 44 rfl, byteB c 46 46 rfl]
 have := all_bytes (p := fun c => (bif c == 60 then true else bif c == 62 then true else bif c == 58 then true else bif c == 59 then true else bif c == 64 then true else bif c == 44 then true else c == 46) == isSg c) (by kernel_rfl) c
 rw [beq_iff_eq] at this
 rw [<- this]
 cases (c == 60) <;> cases (c == 62) <;> cases (c == 58) <;> cases (c == 59) <;> cases (c == 64) <;> cases (c == 44) <;> rfl
theorem rAtom_eq (c : UInt8) (κ : Bool -> Option R) : postbagref5_isAtom_0 (c.toNat : Int) κ = κ (isAt c) := by
 unfold postbagref5_isAtom_0 postbagref5_isAtom_0.e
 simp only [rSpace_eq, rSign_eq]
 rw [byteN c 40 40 rfl, byteN c 41 41 rfl, byteN c 91 91 rfl, byteN c 93 93 rfl, byteN c 92 92 rfl, byteN c 34 34 rfl]
 have := all_bytes (p := fun c => (bif c != 40 then bif c != 41 then bif c != 91 then bif c != 93 then bif c != 92 then c != 34 else false else false else false else false else false) == ![40, 41, 91, 93, 92, 34].contains c) (by kernel_rfl) c
 rw [beq_iff_eq] at this
 unfold isAt
 rw [<- this]
 cases isSp c <;> cases isSg c <;> cases (c != 40) <;> cases (c != 41) <;> cases (c != 91) <;> cases (c != 93) <;> cases (c != 92) <;> rfl
def cm : Nat -> List UInt8 -> Nat
 | _, [] => 0
 | d, 92 :: r => (match r with | [] => 1 | _ :: r => 2 + cm d r)
 | d, c :: r => if c = 40 then 1 + cm (d + 1) r else if c = 41 then (if d = 1 then 1 else 1 + cm (d - 1) r) else 1 + cm d r
theorem cm_le : ∀ (d : Nat) (l : List UInt8), cm d l <= l.length := by
 intro d l
 fun_induction cm d l with
 | case1 => simp
 | case2 => simp
 | case3 => simp; omega
 | case4 => simp; omega
 | case5 => simp
 | case6 => simp; omega
 | case7 => simp; omega
theorem min2_le {a b : Int} (h : a <= b) : min2 a b = a := by unfold min2; rw [cond_dec' (by omega)]
theorem min2_ge {a b : Int} (h : b <= a) : min2 a b = b := by
 unfold min2
 by_cases e : b < a
 ·rw [cond_dec e]
 ·rw [cond_dec' e]; omega
theorem cm_bs0 (d : Nat) : cm d [92] = 1 := by rw [cm]
theorem cm_bs (d : Nat) (c : UInt8) (r : List UInt8) : cm d (92 :: c :: r) = 2 + cm d r := by rw [cm]
theorem cm_else (d : Nat) (c : UInt8) (r : List UInt8) (h : c ≠ 92) : cm d (c :: r) = if c = 40 then 1 + cm (d + 1) r else if c = 41 then (if d = 1 then 1 else 1 + cm (d - 1) r) else 1 + cm d r := by rw [cm]; exact h
theorem lComment_loop (s : List UInt8) (hs : s.length <= 1000000) (κ : ByteArray -> Int -> Option R) : ∀ (f i d : Nat), i <= s.length + 1 -> s.length + 1 < i + f -> (d = 0 -> s[i]? = some 40) -> d <= i ->
  letter_cursor_comment_vsie.L1 κ f (d : Int) (B s) (i : Int) = κ (B s) ((min (i + cm d (s.drop i)) s.length : Nat) : Int)
 | 0, i, d, h1, h2, h3, h4 => by omega
 | f + 1, i, d, h1, h2, h3, h4 => by
  rw [letter_cursor_comment_vsie.L1, letter_cursor_comment_vsie.t1]
  simp only [size_B]
  have hw1 : IntKind.wrap .i64 ((i : Int) + 1) = ((i + 1 : Nat) : Int) := wrap_i64 (by omega) (by omega)
  have hw2 : IntKind.wrap .i64 (((i + 1 : Nat) : Int) + 1) = ((i + 2 : Nat) : Int) := wrap_i64 (by omega) (by omega)
  have hwd : IntKind.wrap .i64 ((d : Int) + 1) = ((d + 1 : Nat) : Int) := wrap_i64 (by omega) (by omega)
  cases hd : s.drop i with
  | nil =>
   have := drop_nil hd
   simp (disch := omega) only [cond_dec', min2_ge]
   rw [cm]; congr 2; omega
  | cons b r =>
   obtain ⟨g1, g2, g3⟩ := drop_get hd
   simp (disch := omega) only [cond_dec, chk_and, chk_dec, btB g1]
   rw [byteB b 40 40 rfl, byteB b 41 41 rfl, byteB b 92 92 rfl]
   simp only [hw1, hw2, hwd]
   have hr : r.length = s.length - (i + 1) := by rw [<- g3, List.length_drop]
   by_cases e1 : b = 40
   ·subst e1
    rw [cm_else _ _ _ (by decide), if_pos rfl]
    simp only [BEq.rfl, cond_true]
    rw [beq_neg (by omega)]
    simp only [cond_false]
    rw [lComment_loop s hs κ f (i + 1) (d + 1) (by omega) (by omega) (by omega) (by omega), g3]
    congr 2; omega
   ·have hd0 : d ≠ 0 := by intro e; have := h3 e; rw [g1] at this; cases this; exact e1 rfl
    rw [show (b == 40) = false by simpa using e1]
    simp only [cond_false]
    by_cases e2 : b = 41
    ·subst e2
     rw [cm_else _ _ _ (by decide), if_neg (by decide), if_pos rfl]
     have hwm : IntKind.wrap .i64 ((d : Int) - 1) = ((d - 1 : Nat) : Int) := by rw [wrap_i64 (by omega) (by omega)]; omega
     simp only [BEq.rfl, cond_true, hwm]
     by_cases e3 : d = 1
     ·subst e3
      rw [if_pos rfl, beq_pos (by rfl)]
      simp (disch := omega) only [cond_true, min2_le]
      congr 2; omega
     ·rw [if_neg e3, beq_neg (by omega)]
      simp only [cond_false]
      rw [lComment_loop s hs κ f (i + 1) (d - 1) (by omega) (by omega) (by omega) (by omega), g3]
      congr 2; omega
    ·rw [show (b == 41) = false by simpa using e2]
     simp only [cond_false]
     have hdz : ((d : Int) == 0) = false := beq_neg (by omega)
     rw [hdz]
     by_cases e4 : b = 92
     ·subst e4
      simp only [BEq.rfl, cond_true, cond_false]
      rw [lComment_loop s hs κ f (i + 2) d (by omega) (by omega) (by omega) (by omega)]
      cases r with
      | nil =>
       simp at hr
       rw [cm_bs0, List.drop_eq_nil_of_le (by omega)]
       rw [cm]; congr 2; omega
      | cons c r' =>
       obtain ⟨k1, k2, k3⟩ := drop_get g3
       rw [cm_bs, k3]; congr 2; omega
     ·rw [show (b == 92) = false by simpa using e4]
      simp only [cond_false]
      rw [lComment_loop s hs κ f (i + 1) d (by omega) (by omega) (by omega) (by omega), g3, cm_else _ _ _ e4, if_neg e1, if_neg e2]
      congr 2; omega
theorem rComment_loop (s : List UInt8) (hs : s.length <= 1000000) (κ : Int -> Option R) : ∀ (f i d : Nat), i <= s.length + 1 -> s.length + 1 < i + f -> (d = 0 -> s[i]? = some 40) -> d <= i ->
  postbagref5_comment_0.L2 κ f (B s) (i : Int) (d : Int) = κ ((min (i + cm d (s.drop i)) s.length : Nat) : Int)
 | 0, i, d, h1, h2, h3, h4 => by omega
 | f + 1, i, d, h1, h2, h3, h4 => by
  rw [postbagref5_comment_0.L2, postbagref5_comment_0.t2]
  simp only [size_B]
  have hw1 : IntKind.wrap .i64 ((i : Int) + 1) = ((i + 1 : Nat) : Int) := wrap_i64 (by omega) (by omega)
  have hw2 : IntKind.wrap .i64 (((i + 1 : Nat) : Int) + 1) = ((i + 2 : Nat) : Int) := wrap_i64 (by omega) (by omega)
  have hwd : IntKind.wrap .i64 ((d : Int) + 1) = ((d + 1 : Nat) : Int) := wrap_i64 (by omega) (by omega)
  cases hd : s.drop i with
  | nil =>
   have := drop_nil hd
   simp (disch := omega) only [cond_dec']
   rw [cm]; congr 2; omega
  | cons b r =>
   obtain ⟨g1, g2, g3⟩ := drop_get hd
   simp (disch := omega) only [cond_dec, chk_and, chk_dec, btB g1]
   rw [byteB b 40 40 rfl, byteB b 41 41 rfl, byteB b 92 92 rfl]
   simp only [hw1, hw2, hwd]
   have hr : r.length = s.length - (i + 1) := by rw [<- g3, List.length_drop]
   by_cases e1 : b = 40
   ·subst e1
    rw [cm_else _ _ _ (by decide), if_pos rfl]
    simp only [BEq.rfl, cond_true]
    rw [beq_neg (by omega)]
    simp only [cond_false]
    rw [rComment_loop s hs κ f (i + 1) (d + 1) (by omega) (by omega) (by omega) (by omega), g3]
    congr 2; omega
   ·have hd0 : d ≠ 0 := by intro e; have := h3 e; rw [g1] at this; cases this; exact e1 rfl
    rw [show (b == 40) = false by simpa using e1]
    simp only [cond_false]
    by_cases e2 : b = 41
    ·subst e2
     rw [cm_else _ _ _ (by decide), if_neg (by decide), if_pos rfl]
     have hwm : IntKind.wrap .i64 ((d : Int) - 1) = ((d - 1 : Nat) : Int) := by rw [wrap_i64 (by omega) (by omega)]; omega
     simp only [BEq.rfl, cond_true, hwm]
     by_cases e3 : d = 1
     ·subst e3
      rw [if_pos rfl, beq_pos (by rfl)]
      simp only [cond_true]
      congr 2; omega
     ·rw [if_neg e3, beq_neg (by omega)]
      simp only [cond_false]
      rw [rComment_loop s hs κ f (i + 1) (d - 1) (by omega) (by omega) (by omega) (by omega), g3]
      congr 2; omega
    ·rw [show (b == 41) = false by simpa using e2]
     simp only [cond_false]
     have hdz : ((d : Int) == 0) = false := beq_neg (by omega)
     rw [hdz]
     by_cases e4 : b = 92
     ·subst e4
      simp only [BEq.rfl, cond_true, cond_false]
      rw [rComment_loop s hs κ f (i + 2) d (by omega) (by omega) (by omega) (by omega)]
      cases r with
      | nil =>
       simp at hr
       rw [cm_bs0, List.drop_eq_nil_of_le (by omega)]
       rw [cm]; congr 2; omega
      | cons c r' =>
       obtain ⟨k1, k2, k3⟩ := drop_get g3
       rw [cm_bs, k3]; congr 2; omega
     ·rw [show (b == 92) = false by simpa using e4]
      simp only [cond_false]
      rw [rComment_loop s hs κ f (i + 1) d (by omega) (by omega) (by omega) (by omega), g3, cm_else _ _ _ e4, if_neg e1, if_neg e2]
      congr 2; omega
end Go.Proofs.Ab
namespace Go.Proofs.Ab
set_option linter.unusedVariables false
set_option maxRecDepth 4000
open Go
variable {R : Type}
def qt : List UInt8 -> List UInt8 × Nat
 | [] => ([], 0)
 | 92 :: r => (match r with | [] => ([], 1) | c :: r => (c :: (qt r).1, 2 + (qt r).2))
 | c :: r => if c = 34 then ([], 1) else (c :: (qt r).1, 1 + (qt r).2)
theorem qt_bs (c : UInt8) (r : List UInt8) : qt (92 :: c :: r) = (c :: (qt r).1, 2 + (qt r).2) := by rw [qt]
theorem qt_bs0 : qt [92] = ([], 1) := by rw [qt]
theorem qt_else (c : UInt8) (r : List UInt8) (h : c ≠ 92) : qt (c :: r) = if c = 34 then ([], 1) else (c :: (qt r).1, 1 + (qt r).2) := by rw [qt]; exact h
theorem qt_le : ∀ l : List UInt8, (qt l).2 <= l.length /\ (qt l).1.length <= l.length := by
 intro l
 fun_induction qt l with
 | case1 => simp
 | case2 => simp
 | case3 => simp; omega
 | case4 => simp
 | case5 => simp; omega
theorem lQuotes_loop (s : List UInt8) (hs : s.length <= 1000000) (κ : ByteArray -> ByteArray -> Int -> Option R) : ∀ (f i : Nat) (acc : List UInt8), i <= s.length -> s.length < i + f -> acc.length <= i ->
  letter_cursor_quotes_vsie.L3 strings_Builder_WriteByte_vxfei strings_Builder_String_vxfe κ f (B s) (i : Int) (intsAV acc) = κ (B (acc ++ (qt (s.drop i)).1)) (B s) ((i + (qt (s.drop i)).2 : Nat) : Int)
 | 0, i, acc, h1, h2, h3 => by omega
 | f + 1, i, acc, h1, h2, h3 => by
  rw [letter_cursor_quotes_vsie.L3, letter_cursor_quotes_vsie.t3]
  simp only [size_B, bString_eq]
  have hal := ints_len acc
  have hw1 : IntKind.wrap .i64 ((i : Int) + 1) = ((i + 1 : Nat) : Int) := wrap_i64 (by omega) (by omega)
  have hw2 : IntKind.wrap .i64 (((i + 1 : Nat) : Int) + 1) = ((i + 2 : Nat) : Int) := wrap_i64 (by omega) (by omega)
  cases hd : s.drop i with
  | nil =>
   have := drop_nil hd
   simp only [hw1]
   simp (disch := omega) only [cond_dec', min2_ge]
   rw [qt]; simp; congr 1; omega
  | cons b r =>
   obtain ⟨g1, g2, g3⟩ := drop_get hd
   simp only [hw1, hw2]
   simp (disch := omega) only [cond_dec, chk_and, chk_dec, btB g1, wByte_eq]
   rw [byteN b 34 34 rfl, byteB b 92 92 rfl, ints_snoc]
   have hr : r.length = s.length - (i + 1) := by rw [<- g3, List.length_drop]
   by_cases e1 : b = 34
   ·subst e1
    rw [qt_else _ _ (by decide), if_pos rfl]
    simp only [bne_self_eq_false, cond_false, List.append_nil]
    rw [min2_le (by omega)]
   ·rw [show (b != 34) = true by simpa using e1]
    simp only [cond_true]
    by_cases e2 : b = 92
    ·subst e2
     simp only [BEq.rfl, cond_true]
     cases r with
     | nil =>
      simp at hr
      rw [cond_dec' (by omega), lQuotes_loop s hs κ f (i + 1) acc (by omega) (by omega) (by omega), g3, qt_bs0, qt]; rfl
     | cons c r' =>
      obtain ⟨k1, k2, k3⟩ := drop_get g3
      rw [cond_dec (by omega), btB k1]
      simp (disch := omega) only [chk_dec]
      rw [ints_snoc, lQuotes_loop s hs κ f (i + 2) (acc ++ [c]) (by omega) (by omega) (by simp; omega), k3, qt_bs]
      simp only [List.append_assoc, List.singleton_append]
      congr 2; omega
    ·rw [show (b == 92) = false by simpa using e2]
     simp only [cond_false]
     rw [lQuotes_loop s hs κ f (i + 1) (acc ++ [b]) (by omega) (by omega) (by simp; omega), g3, qt_else _ _ e2, if_neg e1]
     simp only [List.append_assoc, List.singleton_append]
     congr 2; omega
theorem rQuotes_loop (s : List UInt8) (hs : s.length <= 1000000) (κ : ByteArray -> Int -> Option R) : ∀ (f i : Nat) (acc : List UInt8), i <= s.length -> s.length < i + f -> acc.length <= i ->
  ∃ n : Nat, (n = i + (qt (s.drop i)).2 ∨ (s.length <= i + (qt (s.drop i)).2 /\ n = s.length + 1)) /\ postbagref5_between_0.L3 κ f (B s) (i : Int) 34 true (intsAV acc) = κ (B (acc ++ (qt (s.drop i)).1)) (n : Int)
 | 0, i, acc, h1, h2, h3 => by omega
 | f + 1, i, acc, h1, h2, h3 => by
  rw [postbagref5_between_0.L3, postbagref5_between_0.t3]
  simp only [size_B, strAV_ints]
  have hal := ints_len acc
  have hw1 : IntKind.wrap .i64 ((i : Int) + 1) = ((i + 1 : Nat) : Int) := wrap_i64 (by omega) (by omega)
  have hw2 : IntKind.wrap .i64 (((i + 1 : Nat) : Int) + 1) = ((i + 2 : Nat) : Int) := wrap_i64 (by omega) (by omega)
  cases hd : s.drop i with
  | nil =>
   have := drop_nil hd
   simp only [hw1]
   simp (disch := omega) only [cond_dec']
   rw [qt]
   exact ⟨s.length + 1, Or.inr ⟨by simp; omega, rfl⟩, by simp; congr 1; omega⟩
  | cons b r =>
   obtain ⟨g1, g2, g3⟩ := drop_get hd
   simp only [hw1, hw2, Bool.not_true, cond_true, cond_false]
   simp (disch := omega) only [cond_dec, chk_and, chk_dec, btB g1]
   rw [byteN b 34 34 rfl, byteB b 92 92 rfl, ints_snoc]
   have hr : r.length = s.length - (i + 1) := by rw [<- g3, List.length_drop]
   by_cases e1 : b = 34
   ·subst e1
    rw [qt_else _ _ (by decide), if_pos rfl]
    simp only [bne_self_eq_false, cond_false, List.append_nil]
    exact ⟨i + 1, Or.inl rfl, rfl⟩
   ·rw [show (b != 34) = true by simpa using e1]
    simp only [cond_true]
    by_cases e2 : b = 92
    ·subst e2
     simp only [BEq.rfl, cond_true]
     cases r with
     | nil =>
      simp at hr
      rw [cond_dec' (by omega)]
      obtain ⟨n, hn, he⟩ := rQuotes_loop s hs κ f (i + 1) acc (by omega) (by omega) (by omega)
      rw [g3, qt] at he hn
      rw [qt_bs0]
      refine ⟨n, ?_, he⟩
      rcases hn with hn | ⟨hn, hn2⟩
      ·exact Or.inl (by simpa using hn)
      ·exact Or.inr ⟨by simp; omega, hn2⟩
     | cons c r' =>
      obtain ⟨k1, k2, k3⟩ := drop_get g3
      rw [cond_dec (by omega), btB k1]
      simp (disch := omega) only [chk_dec]
      rw [ints_snoc]
      obtain ⟨n, hn, he⟩ := rQuotes_loop s hs κ f (i + 2) (acc ++ [c]) (by omega) (by omega) (by simp; omega)
      rw [k3] at he hn
      rw [qt_bs, he]
      refine ⟨n, ?_, by simp⟩
      simp only
      rcases hn with hn | ⟨hn, hn2⟩
      ·exact Or.inl (by omega)
      ·exact Or.inr ⟨by omega, hn2⟩
    ·rw [show (b == 92) = false by simpa using e2]
     simp only [cond_false]
     obtain ⟨n, hn, he⟩ := rQuotes_loop s hs κ f (i + 1) (acc ++ [b]) (by omega) (by omega) (by simp; omega)
     rw [g3] at he hn
     rw [qt_else _ _ e2, if_neg e1, he]
     refine ⟨n, ?_, by simp⟩
     simp only
     rcases hn with hn | ⟨hn, hn2⟩
     ·exact Or.inl (by omega)
     ·exact Or.inr ⟨by omega, hn2⟩
end Go.Proofs.Ab
namespace Go.Proofs.Ab
set_option linter.unusedVariables false
set_option maxRecDepth 4000
open Go
variable {R : Type}
def hE : List UInt8 -> Option Nat
 | [] => none
 | 92 :: r => (match r with | [] => none | _ :: r => (hE r).map (2 + ·))
 | c :: r => if c = 93 then some 1 else (hE r).map (1 + ·)
theorem hE_bs (c : UInt8) (r : List UInt8) : hE (92 :: c :: r) = (hE r).map (2 + ·) := by rw [hE]
theorem hE_bs0 : hE [92] = none := by rw [hE]
theorem hE_else (c : UInt8) (r : List UInt8) (h : c ≠ 92) : hE (c :: r) = if c = 93 then some 1 else (hE r).map (1 + ·) := by rw [hE]; exact h
theorem hE_le : ∀ (l : List UInt8) (n : Nat), hE l = some n -> 1 <= n /\ n <= l.length := by
 intro l
 fun_induction hE l with
 | case1 => intro n h; cases h
 | case2 => intro n h; cases h
 | case3 _ r ih =>
  intro n h
  cases hr : hE r with
  | none => rw [hr] at h; cases h
  | some m => rw [hr] at h; cases h; have := ih m hr; simp; omega
 | case4 c r => intro n h; cases h; simp
 | case5 _ r _ _ ih =>
  intro n h
  cases hr : hE r with
  | none => rw [hr] at h; cases h
  | some m => rw [hr] at h; cases h; have := ih m hr; simp; omega
def hEnd (s : List UInt8) (i : Nat) : Nat := match hE (s.drop i) with | some n => i + n | none => s.length
theorem hEnd_some {s : List UInt8} {i n : Nat} (h : hE (s.drop i) = some n) : hEnd s i = i + n := by unfold hEnd; rw [h]
theorem hEnd_none {s : List UInt8} {i : Nat} (h : hE (s.drop i) = none) : hEnd s i = s.length := by unfold hEnd; rw [h]
theorem lHost_loop (s : List UInt8) (hs : s.length <= 1000000) (κ : ByteArray -> ByteArray -> Int -> Option R) (a : Nat) (ha : a <= s.length) : ∀ (f i : Nat), i <= s.length + 1 -> s.length + 1 < i + f -> a <= i ->
  letter_cursor_host_vsie.L2 κ f (a : Int) (B s) (i : Int) = κ (B ((s.take (hEnd s i)).drop a)) (B s) (hEnd s i : Int)
 | 0, i, h1, h2, h3 => by omega
 | f + 1, i, h1, h2, h3 => by
  rw [letter_cursor_host_vsie.L2, letter_cursor_host_vsie.t2]
  simp only [size_B]
  have hw1 : IntKind.wrap .i64 ((i : Int) + 1) = ((i + 1 : Nat) : Int) := wrap_i64 (by omega) (by omega)
  have hw2 : IntKind.wrap .i64 (((i + 1 : Nat) : Int) + 1) = ((i + 2 : Nat) : Int) := wrap_i64 (by omega) (by omega)
  simp only [hw1, hw2]
  cases hd : s.drop i with
  | nil =>
   have := drop_nil hd
   rw [min2_ge (by omega)]
   simp (disch := omega) only [cond_dec', chk_and, chk_dec]
   rw [hEnd_none (by rw [hd]; rfl), extract_B]; rfl
  | cons b r =>
   obtain ⟨g1, g2, g3⟩ := drop_get hd
   rw [min2_le (by omega)]
   simp (disch := omega) only [cond_dec, chk_and, chk_dec, btB g1]
   rw [byteN b 93 93 rfl, byteB b 92 92 rfl]
   have hr : r.length = s.length - (i + 1) := by rw [<- g3, List.length_drop]
   by_cases e1 : b = 93
   ·subst e1
    simp only [bne_self_eq_false, cond_false]
    rw [hEnd_some (n := 1) (by rw [hd, hE_else _ _ (by decide), if_pos rfl]), extract_B]; rfl
   ·rw [show (b != 93) = true by simpa using e1]
    simp only [cond_true]
    by_cases e2 : b = 92
    ·subst e2
     simp only [BEq.rfl, cond_true]
     rw [lHost_loop s hs κ a ha f (i + 2) (by omega) (by omega) (by omega)]
     have : hEnd s (i + 2) = hEnd s i := by
      cases r with
      | nil =>
       simp at hr
       rw [hEnd_none (i := i) (by rw [hd, hE_bs0]), hEnd_none (by rw [List.drop_eq_nil_of_le (by omega)]; rfl)]
      | cons c r' =>
       obtain ⟨k1, k2, k3⟩ := drop_get g3
       cases hh : hE r' with
       | none => rw [hEnd_none (i := i) (by rw [hd, hE_bs, hh]; rfl), hEnd_none (by rw [k3, hh])]
       | some m => rw [hEnd_some (i := i) (n := 2 + m) (by rw [hd, hE_bs, hh]; rfl), hEnd_some (n := m) (by rw [k3, hh])]; omega
     rw [this]
    ·rw [show (b == 92) = false by simpa using e2]
     simp only [cond_false]
     rw [lHost_loop s hs κ a ha f (i + 1) (by omega) (by omega) (by omega)]
     have : hEnd s (i + 1) = hEnd s i := by
      cases hh : hE r with
      | none => rw [hEnd_none (i := i) (by rw [hd, hE_else _ _ e2, if_neg e1, hh]; rfl), hEnd_none (by rw [g3, hh])]
      | some m => rw [hEnd_some (i := i) (n := 1 + m) (by rw [hd, hE_else _ _ e2, if_neg e1, hh]; rfl), hEnd_some (n := m) (by rw [g3, hh])]; omega
     rw [this]
def btK (s acc : List UInt8) (i : Nat) (κ : ByteArray -> Int -> Option R) : Option R :=
 match hE (s.drop i) with
 | some n => κ (B (acc ++ (s.drop i).take (n - 1))) ((i + n : Nat) : Int)
 | none => κ (B (acc ++ s.drop i)) ((s.length + 1 : Nat) : Int)
theorem rHost_loop (s : List UInt8) (hs : s.length <= 1000000) (κ : ByteArray -> Int -> Option R) : ∀ (f i : Nat) (acc : List UInt8), i <= s.length -> s.length < i + f -> acc.length <= i ->
  postbagref5_between_0.L3 κ f (B s) (i : Int) 93 false (intsAV acc) = btK s acc i κ
 | 0, i, acc, h1, h2, h3 => by omega
 | f + 1, i, acc, h1, h2, h3 => by
  rw [postbagref5_between_0.L3, postbagref5_between_0.t3]
  simp only [size_B, strAV_ints]
  have hal := ints_len acc
  have hw1 : IntKind.wrap .i64 ((i : Int) + 1) = ((i + 1 : Nat) : Int) := wrap_i64 (by omega) (by omega)
  have hw2 : IntKind.wrap .i64 (((i + 1 : Nat) : Int) + 1) = ((i + 2 : Nat) : Int) := wrap_i64 (by omega) (by omega)
  cases hd : s.drop i with
  | nil =>
   have := drop_nil hd
   simp only [hw1]
   simp (disch := omega) only [cond_dec']
   unfold btK; rw [hd]
   simp only [hE, List.append_nil]
   congr 2; omega
  | cons b r =>
   obtain ⟨g1, g2, g3⟩ := drop_get hd
   simp only [hw1, hw2, Bool.not_false, cond_true, cond_false]
   simp (disch := omega) only [cond_dec, chk_and, chk_dec, btB g1]
   rw [byteN b 93 93 rfl, byteB b 92 92 rfl]
   simp only [ints_snoc, ints_len, List.length_append, List.length_singleton]
   have hr : r.length = s.length - (i + 1) := by rw [<- g3, List.length_drop]
   have step : b ≠ 92 ∨ r = [] -> b ≠ 93 -> btK s (acc ++ [b]) (i + 1) κ = btK s acc i κ := by
    intro e2 e1
    have hh : hE (b :: r) = (hE r).map (1 + ·) := by
     rcases e2 with e2 | rfl
     ·rw [hE_else _ _ e2, if_neg e1]
     ·by_cases e3 : b = 92
      ·subst e3; rw [hE_bs0]; rfl
      ·rw [hE_else _ _ e3, if_neg e1]
    unfold btK
    rw [hd, g3, hh]
    cases hm : hE r with
    | none => simp
    | some m =>
     obtain ⟨m', rfl⟩ : ∃ m', m = m' + 1 := ⟨m - 1, by have := hE_le r m hm; omega⟩
     simp only [Option.map_some, List.append_assoc, List.singleton_append]
     rw [show 1 + (m' + 1) - 1 = m' + 1 by omega, show m' + 1 - 1 = m' by omega, List.take_succ_cons, show i + 1 + (m' + 1) = i + (1 + (m' + 1)) by omega]
   by_cases e1 : b = 93
   ·subst e1
    simp only [bne_self_eq_false, cond_false]
    unfold btK
    rw [hd, hE_else _ _ (by decide), if_pos rfl]; simp
   ·rw [show (b != 93) = true by simpa using e1]
    simp only [cond_true]
    by_cases e2 : b = 92
    ·subst e2
     simp only [BEq.rfl, cond_true]
     cases r with
     | nil =>
      simp at hr
      rw [cond_dec' (by omega)]
      rw [rHost_loop s hs κ f (i + 1) (acc ++ [92]) (by omega) (by omega) (by simp; omega), step (Or.inr rfl) e1]
     | cons c r' =>
      obtain ⟨k1, k2, k3⟩ := drop_get g3
      have hlt : ((i + 1 : Nat) : Int) < (s.length : Int) := by omega
      simp only [cond_dec hlt, btB k1]
      simp (disch := omega) only [chk_dec]
      rw [ints_snoc, rHost_loop s hs κ f (i + 2) (acc ++ [92] ++ [c]) (by omega) (by omega) (by simp; omega)]
      unfold btK
      rw [hd, k3, hE_bs]
      cases hm : hE r' with
      | none => simp
      | some m =>
       obtain ⟨m', rfl⟩ : ∃ m', m = m' + 1 := ⟨m - 1, by have := hE_le r' m hm; omega⟩
       simp only [Option.map_some, List.append_assoc, List.singleton_append, List.cons_append, List.nil_append]
       rw [show 2 + (m' + 1) - 1 = m' + 1 + 1 by omega, show m' + 1 - 1 = m' by omega, List.take_succ_cons, List.take_succ_cons, show i + 2 + (m' + 1) = i + (2 + (m' + 1)) by omega]
    ·rw [show (b == 92) = false by simpa using e2]
     simp only [cond_false]
     rw [rHost_loop s hs κ f (i + 1) (acc ++ [b]) (by omega) (by omega) (by simp; omega), step (Or.inl e2) e1]
end Go.Proofs.Ab
namespace Go.Proofs.Ab
set_option linter.unusedVariables false
set_option maxRecDepth 4000
open Go
variable {R : Type}
def n91 (l : List UInt8) : Nat := match hE l with | some n => n | none => l.length
theorem n91_le (l : List UInt8) : n91 l <= l.length := by
 unfold n91
 split
 ·rename_i n h; exact (hE_le l n h).2
 ·omega
theorem n91_pos (l : List UInt8) (h : l ≠ []) : 1 <= n91 l := by
 unfold n91
 split
 ·rename_i n e; exact (hE_le l n e).1
 ·cases l with
  | nil => exact absurd rfl h
  | cons c r => simp
theorem hEnd_n91 (s : List UInt8) (i : Nat) (h : i <= s.length) : hEnd s i = i + n91 (s.drop i) := by
 unfold hEnd n91
 cases hE (s.drop i) with
 | some n => rfl
 | none => show s.length = i + (s.drop i).length; rw [List.length_drop]; omega
def nextP : List UInt8 -> Nat × List UInt8 × Nat
 | [] => (0, [], 0)
 | c :: r => if c = 40 then (0, [], cm 0 (c :: r)) else if c = 34 then (1, (qt r).1, 1 + (qt r).2) else if c = 91 then (2, (c :: r).take (n91 (c :: r)), n91 (c :: r))
  else if isSg c = true then (3, [c], 1) else if isAt c = true then (4, (c :: r).takeWhile isAt, ((c :: r).takeWhile isAt).length) else (0, [], 1)
theorem nextP_le (c : UInt8) (r : List UInt8) : 1 <= (nextP (c :: r)).2.2 /\ (nextP (c :: r)).2.2 <= (c :: r).length := by
 rw [nextP]
 have h1 := cm_le 0 (c :: r)
 have h2 := (qt_le r).1
 have h3 := n91_le (c :: r)
 have h4 := n91_pos (c :: r) (by simp)
 split
 ·rename_i e; subst e
  refine ⟨?_, h1⟩
  show 1 <= cm 0 (40 :: r)
  rw [cm_else _ _ _ (by decide), if_pos rfl]; omega
 ·split
  ·simp; omega
  ·split
   ·exact ⟨h4, h3⟩
   ·split
    ·simp
    ·split
     ·rename_i e
      refine ⟨?_, (List.takeWhile_prefix isAt (l := c :: r)).length_le⟩
      show 1 <= (List.takeWhile isAt (c :: r)).length
      rw [List.takeWhile_cons, e]; simp
     ·simp
def pcs (l : List UInt8) : List (Nat × List UInt8) :=
 match h : l with
 | [] => []
 | c :: r => ((nextP (c :: r)).1, (nextP (c :: r)).2.1) :: pcs ((c :: r).drop (nextP (c :: r)).2.2)
termination_by l.length
decreasing_by
 have := nextP_le c r
 rw [List.length_drop]; simp only [List.length_cons] at this ⊢; omega
theorem pcs_nil : pcs [] = [] := by rw [pcs]
theorem pcs_cons (c : UInt8) (r : List UInt8) : pcs (c :: r) = ((nextP (c :: r)).1, (nextP (c :: r)).2.1) :: pcs ((c :: r).drop (nextP (c :: r)).2.2) := by rw [pcs]
theorem lComment_eq (s : List UInt8) (hs : s.length <= 1000000) (i : Nat) (h : s[i]? = some 40) (κ : ByteArray -> Int -> Option R) : letter_cursor_comment_vsie (B s) (i : Int) κ = κ (B s) ((i + cm 0 (s.drop i) : Nat) : Int) := by
 have hlt := (List.getElem?_eq_some_iff.1 h).1
 have hc := cm_le 0 (s.drop i)
 rw [List.length_drop] at hc
 have key : ∀ f, s.length + 1 < f -> letter_cursor_comment_vsie.e (B s) (i : Int) (letter_cursor_comment_vsie.L1 κ f) κ = κ (B s) ((i + cm 0 (s.drop i) : Nat) : Int) := by
  intro f hf
  refine (lComment_loop s hs κ f i 0 (by omega) (by omega) (fun _ => h) (by omega)).trans ?_
  congr 2; omega
 exact key fuelK (by unfold fuelK; omega)
theorem rComment_eq (s : List UInt8) (hs : s.length <= 1000000) (i : Nat) (h : s[i]? = some 40) (κ : Int -> Option R) : postbagref5_comment_0 (B s) (i : Int) κ = κ ((i + cm 0 (s.drop i) : Nat) : Int) := by
 have hlt := (List.getElem?_eq_some_iff.1 h).1
 have hc := cm_le 0 (s.drop i)
 rw [List.length_drop] at hc
 have key : ∀ f, s.length + 1 < f -> postbagref5_comment_0.e (B s) (i : Int) (postbagref5_comment_0.L2 κ f) κ = κ ((i + cm 0 (s.drop i) : Nat) : Int) := by
  intro f hf
  refine (rComment_loop s hs κ f i 0 (by omega) (by omega) (fun _ => h) (by omega)).trans ?_
  congr 2; omega
 exact key fuelK (by unfold fuelK; omega)
theorem lQuotes_eq (s : List UInt8) (hs : s.length <= 1000000) (i : Nat) (h : i < s.length) (κ : ByteArray -> ByteArray -> Int -> Option R) : letter_cursor_quotes_vsie (B s) (i : Int) κ = κ (B (qt (s.drop (i + 1))).1) (B s) ((i + (1 + (qt (s.drop (i + 1))).2) : Nat) : Int) := by
 have hw1 : IntKind.wrap .i64 ((i : Int) + 1) = ((i + 1 : Nat) : Int) := wrap_i64 (by omega) (by omega)
 have key : ∀ f, s.length < f -> letter_cursor_quotes_vsie.e strings_Builder_WriteByte_vxfei strings_Builder_String_vxfe (B s) (i : Int) (letter_cursor_quotes_vsie.L3 strings_Builder_WriteByte_vxfei strings_Builder_String_vxfe κ f) κ = κ (B (qt (s.drop (i + 1))).1) (B s) ((i + (1 + (qt (s.drop (i + 1))).2) : Nat) : Int) := by
  intro f hf
  unfold letter_cursor_quotes_vsie.e
  rw [hw1]
  refine (lQuotes_loop s hs κ f (i + 1) [] (by omega) (by omega) (by simp)).trans ?_
  rw [show i + 1 + (qt (s.drop (i + 1))).2 = i + (1 + (qt (s.drop (i + 1))).2) by omega]
  rfl
 exact key fuelK (by unfold fuelK; omega)
theorem rQuotes_eq (s : List UInt8) (hs : s.length <= 1000000) (i : Nat) (h : i < s.length) (κ : ByteArray -> Int -> Option R) :
  ∃ n : Nat, (n = i + (1 + (qt (s.drop (i + 1))).2) ∨ (s.length <= i + (1 + (qt (s.drop (i + 1))).2) /\ n = s.length + 1)) /\ postbagref5_between_0 (B s) (i : Int) 34 true κ = κ (B (qt (s.drop (i + 1))).1) (n : Int) := by
 have hw1 : IntKind.wrap .i64 ((i : Int) + 1) = ((i + 1 : Nat) : Int) := wrap_i64 (by omega) (by omega)
 have key : ∀ f, s.length < f -> ∃ n : Nat, (n = i + (1 + (qt (s.drop (i + 1))).2) ∨ (s.length <= i + (1 + (qt (s.drop (i + 1))).2) /\ n = s.length + 1)) /\ postbagref5_between_0.e (B s) (i : Int) 34 true (postbagref5_between_0.L3 κ f) κ = κ (B (qt (s.drop (i + 1))).1) (n : Int) := by
  intro f hf
  unfold postbagref5_between_0.e
  rw [hw1]
  obtain ⟨n, hn, he⟩ := rQuotes_loop s hs κ f (i + 1) [] (by omega) (by omega) (by simp)
  refine ⟨n, ?_, he⟩
  rcases hn with hn | ⟨hn, hn2⟩
  ·exact Or.inl (by omega)
  ·exact Or.inr ⟨by omega, hn2⟩
 exact key fuelK (by unfold fuelK; omega)
theorem lHost_eq (s : List UInt8) (hs : s.length <= 1000000) (i : Nat) (h : i < s.length) (κ : ByteArray -> ByteArray -> Int -> Option R) : letter_cursor_host_vsie (B s) (i : Int) κ = κ (B ((s.drop i).take (n91 (s.drop i)))) (B s) ((i + n91 (s.drop i) : Nat) : Int) := by
 have key : ∀ f, s.length + 1 < f -> letter_cursor_host_vsie.e (B s) (i : Int) (letter_cursor_host_vsie.L2 κ f) κ = κ (B ((s.drop i).take (n91 (s.drop i)))) (B s) ((i + n91 (s.drop i) : Nat) : Int) := by
  intro f hf
  refine (lHost_loop s hs κ i (by omega) f i (by omega) (by omega) (by omega)).trans ?_
  rw [hEnd_n91 s i (by omega), List.drop_take]
  rw [show i + n91 (s.drop i) - i = n91 (s.drop i) by omega]
 exact key fuelK (by unfold fuelK; omega)
theorem rHost_eq (s : List UInt8) (hs : s.length <= 1000000) (i : Nat) (h : i < s.length) (κ : ByteArray -> Int -> Option R) : postbagref5_between_0 (B s) (i : Int) 93 false κ = btK s [] (i + 1) κ := by
 have hw1 : IntKind.wrap .i64 ((i : Int) + 1) = ((i + 1 : Nat) : Int) := wrap_i64 (by omega) (by omega)
 have key : ∀ f, s.length < f -> postbagref5_between_0.e (B s) (i : Int) 93 false (postbagref5_between_0.L3 κ f) κ = btK s [] (i + 1) κ := by
  intro f hf
  unfold postbagref5_between_0.e
  rw [hw1]
  exact rHost_loop s hs κ f (i + 1) [] (by omega) (by omega) (by simp)
 exact key fuelK (by unfold fuelK; omega)
abbrev lnL16 (κ : Int -> ByteArray -> ByteArray -> Int -> Option R) := letter_cursor_next_vsie.L16 letter_cursor_comment_vsie letter_cursor_quotes_vsie letter_cursor_host_vsie letter_isSign_0 letter_isAtom_0 κ
theorem lAtom_loop (s : List UInt8) (hs : s.length <= 1000000) (κ : Int -> ByteArray -> ByteArray -> Int -> Option R) (a : Nat) (u : Int) (v : ByteArray) : ∀ (f i : Nat), i <= s.length -> s.length < i + f -> a <= i ->
  lnL16 κ f (a : Int) (B s) (i : Int) u v = κ 4 (B ((s.take (i + ((s.drop i).takeWhile isAt).length)).drop a)) (B s) ((i + ((s.drop i).takeWhile isAt).length : Nat) : Int)
 | 0, i, h1, h2, h3 => by omega
 | f + 1, i, h1, h2, h3 => by
  unfold lnL16
  rw [letter_cursor_next_vsie.L16, letter_cursor_next_vsie.t16]
  simp only [size_B]
  cases hd : s.drop i with
  | nil =>
   have := drop_nil hd
   simp (disch := omega) only [cond_dec', chk_and, chk_dec]
   simp [extract_B]
  | cons b r =>
   obtain ⟨g1, g2, g3⟩ := drop_get hd
   have hw1 : IntKind.wrap .i64 ((i : Int) + 1) = ((i + 1 : Nat) : Int) := wrap_i64 (by omega) (by omega)
   simp (disch := omega) only [cond_dec, chk_and, chk_dec, btB g1, lAtom_eq, hw1]
   rw [List.takeWhile_cons]
   cases hb : isAt b with
   | false => simp [extract_B]
   | true =>
    simp only [cond_true, if_true, List.length_cons]
    have := lAtom_loop s hs κ a u v f (i + 1) (by omega) (by omega) (by omega)
    unfold lnL16 at this
    rw [this, g3]
    rw [show i + 1 + (List.takeWhile isAt r).length = i + ((List.takeWhile isAt r).length + 1) by omega]
theorem enc_sg (c : UInt8) (h : isSg c = true) : Utf8.encode (c.toNat : Int) = B [c] := by
 have := all_bytes (p := fun c => !isSg c || decide (Utf8.encode (c.toNat : Int) = B [c])) (by kernel_rfl) c
 rw [h] at this
 simpa using this
theorem lNext_eq (s : List UInt8) (hs : s.length <= 1000000) (i : Nat) (c : UInt8) (r : List UInt8) (h : s.drop i = c :: r) (κ : Int -> ByteArray -> ByteArray -> Int -> Option R) :
  letter_cursor_next_vsie (B s) (i : Int) κ = κ ((nextP (c :: r)).1 : Int) (B (nextP (c :: r)).2.1) (B s) ((i + (nextP (c :: r)).2.2 : Nat) : Int) := by
 obtain ⟨g1, g2, g3⟩ := drop_get h
 have hw1 : IntKind.wrap .i64 ((i : Int) + 1) = ((i + 1 : Nat) : Int) := wrap_i64 (by omega) (by omega)
 have key : ∀ f, s.length < f -> letter_cursor_next_vsie.e letter_cursor_comment_vsie letter_cursor_quotes_vsie letter_cursor_host_vsie letter_isSign_0 letter_isAtom_0 (B s) (i : Int) (lnL16 κ f) κ = κ ((nextP (c :: r)).1 : Int) (B (nextP (c :: r)).2.1) (B s) ((i + (nextP (c :: r)).2.2 : Nat) : Int) := by
  intro f hf
  unfold letter_cursor_next_vsie.e
  simp only [size_B]
  simp (disch := omega) only [cond_dec, chk_and, chk_dec, btB g1]
  rw [byteB c 40 40 rfl, byteB c 34 34 rfl, byteB c 91 91 rfl, nextP]
  by_cases e1 : c = 40
  ·subst e1
   rw [if_pos rfl]
   simp only [BEq.rfl, cond_true]
   rw [lComment_eq s hs i g1, h]; rfl
  ·rw [if_neg e1, show (c == 40) = false by simpa using e1]
   simp only [cond_false]
   by_cases e2 : c = 34
   ·subst e2
    rw [if_pos rfl]
    simp only [BEq.rfl, cond_true]
    rw [lQuotes_eq s hs i g2, g3]; rfl
   ·rw [if_neg e2, show (c == 34) = false by simpa using e2]
    simp only [cond_false]
    by_cases e3 : c = 91
    ·subst e3
     rw [if_pos rfl]
     simp only [BEq.rfl, cond_true]
     rw [lHost_eq s hs i g2, h]; rfl
    ·rw [if_neg e3, show (c == 91) = false by simpa using e3]
     simp only [cond_false, lSign_eq, lAtom_eq, hw1]
     cases e4 : isSg c with
     | true => rw [enc_sg c e4]; rfl
     | false =>
      simp only [cond_false]
      cases e5 : isAt c with
      | false => rfl
      | true =>
       simp only [Bool.not_true, cond_false]
       rw [lAtom_loop s hs κ i 0 _ f i (by omega) (by omega) (by omega), h, List.drop_take]
       rw [show i + (List.takeWhile isAt (c :: r)).length - i = (List.takeWhile isAt (c :: r)).length by omega, h]
       have : (c :: r).take ((c :: r).takeWhile isAt).length = (c :: r).takeWhile isAt := (List.prefix_iff_eq_take.1 (List.takeWhile_prefix isAt (l := c :: r))).symm
       rw [this]; rfl
 exact key fuelK (by unfold fuelK; omega)
def lpAV (p : Nat × List UInt8) : AV := .agg [.int (p.1 : Int), .str (B p.2)]
theorem lPieces_loop (s : List UInt8) (hs : s.length <= 1000000) (κ : List AV -> Option R) : ∀ (f i : Nat) (acc : List (Nat × List UInt8)), i <= s.length -> s.length < i + f -> acc.length <= i ->
  letter_pieces_0.L3 letter_cursor_next_vsie κ f (B s) (i : Int) (acc.map lpAV) = κ ((acc ++ pcs (s.drop i)).map lpAV)
 | 0, i, acc, h1, h2, h3 => by omega
 | f + 1, i, acc, h1, h2, h3 => by
  rw [letter_pieces_0.L3, letter_pieces_0.t3]
  simp only [size_B]
  have hal : (acc.map lpAV).length = acc.length := List.length_map ..
  cases hd : s.drop i with
  | nil =>
   have := drop_nil hd
   rw [cond_dec' (by omega), pcs_nil]; simp
  | cons c r =>
   obtain ⟨g1, g2, g3⟩ := drop_get hd
   have hn := nextP_le c r
   have hl : (c :: r).length = s.length - i := by rw [<- hd, List.length_drop]
   rw [cond_dec (by omega), lNext_eq s hs i c r hd]
   simp (disch := omega) only [chk_dec]
   have := lPieces_loop s hs κ f (i + (nextP (c :: r)).2.2) (acc ++ [((nextP (c :: r)).1, (nextP (c :: r)).2.1)]) (by omega) (by omega) (by simp; omega)
   rw [<- List.drop_drop, hd] at this
   rw [pcs_cons]
   rw [show acc ++ ((nextP (c :: r)).1, (nextP (c :: r)).2.1) :: pcs ((c :: r).drop (nextP (c :: r)).2.2) = (acc ++ [((nextP (c :: r)).1, (nextP (c :: r)).2.1)]) ++ pcs ((c :: r).drop (nextP (c :: r)).2.2) by simp, <- this]
   simp [lpAV]
theorem lPieces_eq (s : List UInt8) (hs : s.length <= 1000000) (κ : List AV -> Option R) : letter_pieces_0 (B s) κ = κ ((pcs s).map lpAV) := by
 have key : ∀ f, s.length < f -> letter_pieces_0.e letter_cursor_next_vsie (B s) (letter_pieces_0.L3 letter_cursor_next_vsie κ f) κ = κ ((pcs s).map lpAV) := by
  intro f hf
  exact lPieces_loop s hs κ f 0 [] (by omega) (by omega) (by simp)
 exact key fuelK (by unfold fuelK; omega)
end Go.Proofs.Ab
namespace Go.Proofs.Ab
set_option linter.unusedVariables false
set_option maxRecDepth 4000
open Go
variable {R : Type}
def rkind (p : Nat × List UInt8) : Int := if p.1 = 0 then 32 else if p.1 = 3 then ((p.2.headD 0).toNat : Int) else 97
def rpAV (p : Nat × List UInt8) : AV := .agg [.int (rkind p), .str (B p.2)]
abbrev rpL3 (κ : List AV -> Option R) := postbagref5_pieces_0.L3 postbagref5_comment_0 postbagref5_between_0 postbagref5_isSign_0 postbagref5_isAtom_0 κ
abbrev rpL25 (κ : List AV -> Option R) := postbagref5_pieces_0.L25 postbagref5_comment_0 postbagref5_between_0 postbagref5_isSign_0 postbagref5_isAtom_0 κ
theorem rpL3_succ (κ : List AV -> Option R) (f : Nat) (s : ByteArray) (i : Int) (l : List AV) : rpL3 κ (f + 1) s i l = postbagref5_pieces_0.t3 postbagref5_comment_0 postbagref5_between_0 postbagref5_isSign_0 postbagref5_isAtom_0 s i l (rpL3 κ f) (rpL25 κ f) κ := by
 unfold rpL3 rpL25 postbagref5_pieces_0.L3 postbagref5_pieces_0.L25
 rw [postbagref5_pieces_0.M3]
theorem rpL25_succ (κ : List AV -> Option R) (f : Nat) (s : ByteArray) (i k : Int) (l : List AV) : rpL25 κ (f + 1) s i k l = postbagref5_pieces_0.t25 postbagref5_comment_0 postbagref5_between_0 postbagref5_isSign_0 postbagref5_isAtom_0 s i k l (rpL3 κ f) (rpL25 κ f) κ := by
 unfold rpL3 rpL25 postbagref5_pieces_0.L3 postbagref5_pieces_0.L25
 rw [postbagref5_pieces_0.M3]
theorem rPieces_loop (s : List UInt8) (hs : s.length <= 1000000) (κ : List AV -> Option R) : ∀ f : Nat,
  (∀ (i : Nat) (acc : List (Nat × List UInt8)), i <= s.length + 1 -> 3 * (s.length + 2) < 3 * i + f -> acc.length <= i -> rpL3 κ f (B s) (i : Int) (acc.map rpAV) = κ ((acc ++ pcs (s.drop i)).map rpAV)) /\
  (∀ (i k : Nat) (acc : List (Nat × List UInt8)), i <= s.length -> k <= i -> 3 * (s.length + 2) < 2 * k + i + f + 1 -> (i = k -> ∃ c, s[i]? = some c /\ isAt c = true) -> acc.length <= k ->
   rpL25 κ f (B s) (i : Int) (k : Int) (acc.map rpAV) = κ ((acc ++ (4, (s.take (i + ((s.drop i).takeWhile isAt).length)).drop k) :: pcs (s.drop (i + ((s.drop i).takeWhile isAt).length))).map rpAV))
 | 0 => ⟨fun i acc h1 h2 h3 => by omega, fun i k acc h1 h2 h3 h4 h5 => by omega⟩
 | f + 1 => by
  obtain ⟨ih3, ih25⟩ := rPieces_loop s hs κ f
  refine ⟨?_, ?_⟩
  ·intro i acc h1 h2 h3
   have hal : (acc.map rpAV).length = acc.length := List.length_map ..
   rw [rpL3_succ, postbagref5_pieces_0.t3]
   simp only [size_B]
   cases hd : s.drop i with
   | nil =>
    have := drop_nil hd
    rw [cond_dec' (by omega), pcs_nil]; simp
   | cons c r =>
    obtain ⟨g1, g2, g3⟩ := drop_get hd
    have hn := nextP_le c r
    have hl : (c :: r).length = s.length - i := by rw [<- hd, List.length_drop]
    have hw1 : IntKind.wrap .i64 ((i : Int) + 1) = ((i + 1 : Nat) : Int) := wrap_i64 (by omega) (by omega)
    have go : ∀ (x : AV), x = rpAV ((nextP (c :: r)).1, (nextP (c :: r)).2.1) -> rpL3 κ f (B s) ((i + (nextP (c :: r)).2.2 : Nat) : Int) (acc.map rpAV ++ [x]) = κ ((acc ++ pcs (c :: r)).map rpAV) := by
     intro x hx
     have := ih3 (i + (nextP (c :: r)).2.2) (acc ++ [((nextP (c :: r)).1, (nextP (c :: r)).2.1)]) (by omega) (by omega) (by simp; omega)
     rw [<- List.drop_drop, hd] at this
     rw [pcs_cons]
     rw [show acc ++ ((nextP (c :: r)).1, (nextP (c :: r)).2.1) :: pcs ((c :: r).drop (nextP (c :: r)).2.2) = (acc ++ [((nextP (c :: r)).1, (nextP (c :: r)).2.1)]) ++ pcs ((c :: r).drop (nextP (c :: r)).2.2) by simp, <- this, hx]
     simp
    -- the text is at its end, one place behind it
    have gone : ∀ (x : AV), x = rpAV ((nextP (c :: r)).1, (nextP (c :: r)).2.1) -> s.length <= i + (nextP (c :: r)).2.2 -> rpL3 κ f (B s) ((s.length + 1 : Nat) : Int) (acc.map rpAV ++ [x]) = κ ((acc ++ pcs (c :: r)).map rpAV) := by
     intro x hx hle
     have := ih3 (s.length + 1) (acc ++ [((nextP (c :: r)).1, (nextP (c :: r)).2.1)]) (by omega) (by omega) (by simp; omega)
     rw [List.drop_eq_nil_of_le (by omega), pcs_nil] at this
     rw [pcs_cons, List.drop_eq_nil_of_le (i := (nextP (c :: r)).2.2) (by omega), pcs_nil, hx]
     simpa using this
    simp only [List.length_map]
    simp (disch := omega) only [cond_dec, chk_and, chk_dec, btB g1, hw1]
    rw [byteB c 40 40 rfl, byteB c 34 34 rfl, byteB c 91 91 rfl]
    simp only [rSign_eq, rAtom_eq]
    by_cases e1 : c = 40
    ·subst e1
     have hp : nextP (40 :: r) = (0, [], cm 0 (40 :: r)) := by rw [nextP, if_pos rfl]
     rw [hp] at go
     simp only [BEq.rfl, cond_true]
     rw [rComment_eq s hs i g1, hd]
     exact go _ rfl
    ·rw [show (c == 40) = false by simpa using e1]
     simp only [cond_false]
     by_cases e2 : c = 34
     ·subst e2
      have hp : nextP (34 :: r) = (1, (qt r).1, 1 + (qt r).2) := by rw [nextP, if_neg (by decide), if_pos rfl]
      simp only [BEq.rfl, cond_true]
      obtain ⟨n, hn2, he⟩ := rQuotes_eq s hs i g2 (fun r795 r796 => rpL3 κ f (B s) r796 (acc.map rpAV ++ [AV.agg [AV.int 97, AV.str r795]]))
      rw [he, g3]
      rw [g3] at hn2
      rw [hp] at go gone
      rcases hn2 with rfl | ⟨hle, rfl⟩
      ·exact go _ rfl
      ·exact gone _ rfl hle
     ·rw [show (c == 34) = false by simpa using e2]
      simp only [cond_false]
      by_cases e3 : c = 91
      ·subst e3
       have hp : nextP (91 :: r) = (2, (91 :: r).take (n91 (91 :: r)), n91 (91 :: r)) := by rw [nextP, if_neg (by decide), if_neg (by decide), if_pos rfl]
       simp only [BEq.rfl, cond_true]
       rw [rHost_eq s hs i g2]
       unfold btK
       rw [g3]
       rw [hp] at go gone
       have hh : hE (91 :: r) = (hE r).map (1 + ·) := by rw [hE_else _ _ (by decide), if_neg (by decide)]
       cases hm : hE r with
       | none =>
        have hq : n91 (91 :: r) = (91 :: r).length := by unfold n91; rw [hh, hm]; rfl
        rw [hq] at gone
        simp only [List.nil_append]
        rw [cond_dec' (by omega)]
        have hsz : (⟨#[91]⟩ : ByteArray).size + (B r).size <= 9223372036854775807 := by rw [size_B, show (⟨#[91]⟩ : ByteArray).size = 1 from rfl]; simp at hl; omega
        rw [chk_dec hsz]
        exact gone _ (by rw [List.take_length]; show _ = AV.agg [AV.int 97, AV.str (B (91 :: r))]; rw [show (⟨#[91]⟩ : ByteArray) = B [91] from rfl, append_B]; rfl) (by show s.length <= i + (91 :: r).length; omega)
       | some m =>
        have hml := hE_le r m hm
        have hq : n91 (91 :: r) = 1 + m := by unfold n91; rw [hh, hm]; rfl
        rw [hq] at go
        simp only [List.nil_append]
        simp at hl
        rw [cond_dec (by omega)]
        have hg : r[m - 1]? = some 93 := by
         have : ∀ (l : List UInt8) (n : Nat), hE l = some n -> l[n - 1]? = some 93 := by
          intro l
          fun_induction hE l with
          | case1 => intro n h; cases h
          | case2 => intro n h; cases h
          | case3 x r ih =>
           intro n h
           cases hr : hE r with
           | none => rw [hr] at h; cases h
           | some m => rw [hr] at h; cases h; have h2 := ih m hr; have := hE_le r m hr; rw [show 2 + m - 1 = (m - 1) + 1 + 1 by omega]; simpa using h2
          | case4 r => intro n h; cases h; rfl
          | case5 x r _ _ ih =>
           intro n h
           cases hr : hE r with
           | none => rw [hr] at h; cases h
           | some m => rw [hr] at h; cases h; have h2 := ih m hr; have := hE_le r m hr; rw [show 1 + m - 1 = (m - 1) + 1 by omega]; simpa using h2
         exact this r m hm
        have htk : r.take (m - 1) ++ [93] = r.take m := by
         have := take_succ_get hg
         rw [show m - 1 + 1 = m by omega] at this; exact this.symm
        rw [show (⟨#[93]⟩ : ByteArray) = B [93] from rfl, show (⟨#[91]⟩ : ByteArray) = B [91] from rfl]
        simp only [append_B, size_B, htk, List.length_singleton, List.length_take]
        simp (disch := omega) only [chk_dec]
        rw [show i + 1 + m = i + (1 + m) by omega]
        refine go _ ?_
        rw [show 1 + m = m + 1 by omega, List.take_succ_cons]; rfl
      ·rw [show (c == 91) = false by simpa using e3]
       simp only [cond_false]
       cases e4 : isSg c with
       | true =>
        have hp : nextP (c :: r) = (3, [c], 1) := by rw [nextP, if_neg e1, if_neg e2, if_neg e3, if_pos e4]
        rw [hp] at go
        simp only [cond_true, extract_B, Int.toNat_natCast]
        have : (s.take (i + 1)).drop i = [c] := by rw [take_succ_get g1, List.drop_append_of_le_length (by simp; omega)]; simp
        rw [this]
        exact go _ rfl
       | false =>
        simp only [cond_false]
        cases e5 : isAt c with
        | false =>
         have hp : nextP (c :: r) = (0, [], 1) := by rw [nextP, if_neg e1, if_neg e2, if_neg e3, if_neg (by simp [e4]), if_neg (by simp [e5])]
         rw [hp] at go
         exact go _ rfl
        | true =>
         have hp : nextP (c :: r) = (4, (c :: r).takeWhile isAt, ((c :: r).takeWhile isAt).length) := by rw [nextP, if_neg e1, if_neg e2, if_neg e3, if_neg (by simp [e4]), if_pos e5]
         simp only [cond_true]
         rw [ih25 i i acc (by omega) (by omega) (by omega) (fun _ => ⟨c, g1, e5⟩) h3, pcs_cons, hp, List.drop_take, <- List.drop_drop, hd]
         rw [show i + ((c :: r).takeWhile isAt).length - i = ((c :: r).takeWhile isAt).length by omega]
         have : (c :: r).take ((c :: r).takeWhile isAt).length = (c :: r).takeWhile isAt := (List.prefix_iff_eq_take.1 (List.takeWhile_prefix isAt (l := c :: r))).symm
         rw [this]
  ·intro i k acc h1 h2 h3 h4 h5
   have hal : (acc.map rpAV).length = acc.length := List.length_map ..
   have hw1 : IntKind.wrap .i64 ((i : Int) + 1) = ((i + 1 : Nat) : Int) := wrap_i64 (by omega) (by omega)
   rw [rpL25_succ, postbagref5_pieces_0.t25]
   simp only [size_B, List.length_map]
   have stop : (s.drop i).takeWhile isAt = [] -> rpL3 κ f (B s) (i : Int) (acc.map rpAV ++ [AV.agg [AV.int 97, AV.str ((B s).extract ((k : Int)).toNat ((i : Int)).toNat)]]) = κ ((acc ++ (4, (s.take (i + ((s.drop i).takeWhile isAt).length)).drop k) :: pcs (s.drop (i + ((s.drop i).takeWhile isAt).length))).map rpAV) := by
    intro he
    have hik : i ≠ k := by
     intro e
     obtain ⟨c, hc, ha⟩ := h4 e
     obtain ⟨hlt, hv⟩ := List.getElem?_eq_some_iff.1 hc
     rw [List.drop_eq_getElem_cons hlt, hv, List.takeWhile_cons, ha] at he
     simp at he
    have := ih3 i (acc ++ [(4, (s.take i).drop k)]) (by omega) (by omega) (by simp; omega)
    rw [he]
    simp only [List.length_nil, Nat.add_zero]
    rw [show acc ++ (4, (s.take i).drop k) :: pcs (s.drop i) = (acc ++ [(4, (s.take i).drop k)]) ++ pcs (s.drop i) by simp, <- this, extract_B]
    simp [rpAV, rkind]
   cases hd : s.drop i with
   | nil =>
    have := drop_nil hd
    rw [hd] at stop
    simp (disch := omega) only [cond_dec', chk_and, chk_dec]
    exact stop rfl
   | cons c r =>
    obtain ⟨g1, g2, g3⟩ := drop_get hd
    rw [hd] at stop
    simp (disch := omega) only [cond_dec, chk_and, chk_dec, btB g1, hw1, rAtom_eq]
    rw [List.takeWhile_cons] at stop ⊢
    cases hb : isAt c with
    | false =>
     rw [hb] at stop
     exact stop rfl
    | true =>
     simp only [cond_true, if_true, List.length_cons]
     have := ih25 (i + 1) k acc (by omega) (by omega) (by omega) (by intro e; omega) h5
     rw [this, g3, show i + 1 + (List.takeWhile isAt r).length = i + ((List.takeWhile isAt r).length + 1) by omega]
theorem rPieces_eq (s : List UInt8) (hs : s.length <= 1000000) (κ : List AV -> Option R) : postbagref5_pieces_0 (B s) κ = κ ((pcs s).map rpAV) := by
 have key : ∀ f, 3 * (s.length + 2) < f -> postbagref5_pieces_0.e postbagref5_comment_0 postbagref5_between_0 postbagref5_isSign_0 postbagref5_isAtom_0 (B s) (rpL3 κ f) (rpL25 κ f) κ = κ ((pcs s).map rpAV) := by
  intro f hf
  exact (rPieces_loop s hs κ f).1 0 [] (by omega) (by omega) (by simp)
 exact key fuelK (by unfold fuelK; omega)
end Go.Proofs.Ab
namespace Go.Proofs.Ab
set_option linter.unusedVariables false
set_option maxRecDepth 4000
open Go
variable {R : Type}
abbrev Pc := Nat × List UInt8
def isS (c : UInt8) (p : Pc) : Bool := p.1 == 3 && p.2 == [c]
def okP (p : Pc) : Prop := (p.1 = 0 -> p.2 = []) /\ (p.1 = 3 -> ∃ c, p.2 = [c] /\ isSg c = true)
theorem pcs_ok : ∀ (n : Nat) (l : List UInt8), l.length <= n -> ∀ p ∈ pcs l, okP p
 | 0, l, h, p, hp => by
  have : l = [] := by cases l <;> simp_all
  subst this; rw [pcs_nil] at hp; cases hp
 | n + 1, l, h, p, hp => by
  cases l with
  | nil => rw [pcs_nil] at hp; cases hp
  | cons c r =>
   rw [pcs_cons, List.mem_cons] at hp
   have hn := nextP_le c r
   rcases hp with rfl | hp
   ·rw [nextP]
    split
    ·exact ⟨fun _ => rfl, fun h => by cases h⟩
    ·split
     ·exact ⟨fun h => (by cases h), fun h => by cases h⟩
     ·split
      ·exact ⟨fun h => (by cases h), fun h => by cases h⟩
      ·split
       ·rename_i e; exact ⟨fun h => (by cases h), fun _ => ⟨c, rfl, e⟩⟩
       ·split
        ·exact ⟨fun h => (by cases h), fun h => by cases h⟩
        ·exact ⟨fun _ => rfl, fun h => by cases h⟩
   ·exact pcs_ok n _ (by rw [List.length_drop]; simp only [List.length_cons] at h hn ⊢; omega) p hp
def tl (ps : List Pc) : Nat := (ps.map fun p => p.2.length).sum
theorem tl_cons (p : Pc) (ps : List Pc) : tl (p :: ps) = p.2.length + tl ps := rfl
theorem tl_append (a b : List Pc) : tl (a ++ b) = tl a + tl b := by unfold tl; simp
theorem tl_take (n : Nat) (ps : List Pc) : tl (ps.take n) <= tl ps := by
 have := tl_append (ps.take n) (ps.drop n)
 rw [List.take_append_drop] at this; omega
theorem tl_drop (n : Nat) (ps : List Pc) : tl (ps.drop n) <= tl ps := by
 have := tl_append (ps.take n) (ps.drop n)
 rw [List.take_append_drop] at this; omega
theorem pcs_tl : ∀ (n : Nat) (l : List UInt8), l.length <= n -> tl (pcs l) <= l.length /\ (pcs l).length <= l.length
 | 0, l, h => by
  have : l = [] := by cases l <;> simp_all
  subst this; rw [pcs_nil]; exact ⟨Nat.le_refl _, Nat.le_refl _⟩
 | n + 1, l, h => by
  cases l with
  | nil => rw [pcs_nil]; exact ⟨Nat.le_refl _, Nat.le_refl _⟩
  | cons c r =>
   rw [pcs_cons, tl_cons]
   have hn := nextP_le c r
   have ih := pcs_tl n ((c :: r).drop (nextP (c :: r)).2.2) (by rw [List.length_drop]; simp only [List.length_cons] at h hn ⊢; omega)
   rw [List.length_drop] at ih
   have ht : (nextP (c :: r)).2.1.length <= (nextP (c :: r)).2.2 := by
    rw [nextP]
    have hq : ∀ l : List UInt8, (qt l).1.length <= (qt l).2 := by
     intro l
     fun_induction qt l with
     | case1 => simp
     | case2 => simp
     | case3 => simp; omega
     | case4 => simp
     | case5 => simp; omega
    split
    ·simp
    ·split
     ·show (qt r).1.length <= 1 + (qt r).2; have := hq r; omega
     ·split
      ·simp; omega
      ·split
       ·simp
       ·split <;> simp
   refine ⟨?_, ?_⟩
   ·show (nextP (c :: r)).2.1.length + _ <= _; omega
   ·simp only [List.length_cons] at ih hn ⊢; omega
theorem lpA (ps : List Pc) (i : Nat) (p : Pc) (h : ps[i]? = some p) : rdA (ps.map lpAV) (i : Int) = lpAV p := rdA_get (by rw [List.getElem?_map, h]; rfl)
theorem rpA (ps : List Pc) (i : Nat) (p : Pc) (h : ps[i]? = some p) : rdA (ps.map rpAV) (i : Int) = rpAV p := rdA_get (by rw [List.getElem?_map, h]; rfl)
theorem cutL (ps : List Pc) (a b : Nat) : cutA (ps.map lpAV) (a : Int) (b : Int) = ((ps.take b).drop a).map lpAV := by
 unfold cutA; rw [Int.toNat_natCast, Int.toNat_natCast, List.map_drop, List.map_take]
theorem cutR (ps : List Pc) (a b : Nat) : cutA (ps.map rpAV) (a : Int) (b : Int) = ((ps.take b).drop a).map rpAV := by
 unfold cutA; rw [Int.toNat_natCast, Int.toNat_natCast, List.map_drop, List.map_take]
theorem lp0 (p : Pc) : ((lpAV p).fld 0).i = (p.1 : Int) := rfl
theorem lp1 (p : Pc) : ((lpAV p).fld 1).s = B p.2 := rfl
theorem rp0 (p : Pc) : ((rpAV p).fld 0).i = rkind p := rfl
theorem rp1 (p : Pc) : ((rpAV p).fld 1).s = B p.2 := rfl
theorem is_eq (p : Pc) (c : UInt8) (κ : Bool -> Option R) : letter_piece_is_0 (p.1 : Int) (B p.2) (B [c]) κ = κ (isS c p) := by
 unfold letter_piece_is_0 letter_piece_is_0.e isS
 by_cases h : p.1 = 3
 ·rw [h, show (((3 : Nat) : Int) == 3) = true from rfl, show ((3 : Nat) == 3) = true from rfl]
  simp only [cond_true, Bool.true_and]
  congr 1
  rw [Bool.eq_iff_iff, decide_eq_true_eq, B_inj, beq_iff_eq]
 ·rw [beq_neg (by omega), show (p.1 == 3) = false by simpa using h]; rfl
theorem rkind_is (p : Pc) (c : UInt8) (ho : okP p) (hc : isSg c = true) : (rkind p == (c.toNat : Int)) = isS c p := by
 have h32 : c ≠ 32 := by rintro rfl; cases hc
 have h97 : c ≠ 97 := by rintro rfl; cases hc
 unfold rkind isS
 by_cases h0 : p.1 = 0
 ·rw [if_pos h0, show ((p.1 == 3) = false) by simp [h0]]
  rw [show (32 : Int) = ((32 : UInt8).toNat : Int) from rfl, byte_beq]
  simpa using fun e => h32 e.symm
 ·rw [if_neg h0]
  by_cases h3 : p.1 = 3
  ·obtain ⟨d, hd, _⟩ := ho.2 h3
   rw [if_pos h3, hd, show (p.1 == 3) = true by simp [h3]]
   simp only [List.headD_cons, byte_beq, Bool.true_and]
   rw [Bool.eq_iff_iff]; simp
  ·rw [if_neg h3, show (p.1 == 3) = false by simpa using h3]
   rw [show (97 : Int) = ((97 : UInt8).toNat : Int) from rfl, byte_beq]
   simpa using fun e => h97 e.symm
theorem rkind_sp (p : Pc) (ho : okP p) : (rkind p == 32) = (p.1 == 0) := by
 unfold rkind
 by_cases h0 : p.1 = 0
 ·rw [if_pos h0, h0]; rfl
 ·rw [if_neg h0, show (p.1 == 0) = false by simpa using h0]
  by_cases h3 : p.1 = 3
  ·obtain ⟨d, hd, hs⟩ := ho.2 h3
   rw [if_pos h3, hd]
   simp only [List.headD_cons]
   rw [byteB d 32 32 rfl]
   have : d ≠ 32 := by rintro rfl; cases hs
   simpa using this
  ·rw [if_neg h3]; rfl
def fd (c : UInt8) (ps : List Pc) : Nat := ps.findIdx (isS c)
theorem fd_nil (c : UInt8) : fd c [] = 0 := rfl
theorem fd_cons (c : UInt8) (p : Pc) (ps : List Pc) : fd c (p :: ps) = bif isS c p then 0 else fd c ps + 1 := by unfold fd; rw [List.findIdx_cons]
theorem fd_le (c : UInt8) (ps : List Pc) : fd c ps <= ps.length := List.findIdx_le_length
theorem lFind_loop (ps : List Pc) (hn : ps.length <= 1000000) (c : UInt8) (κ : Int -> Option R) : ∀ (f i : Nat), i <= ps.length -> ps.length < i + f ->
  letter_find_ois.L2 letter_piece_is_0 κ f (ps.map lpAV) (B [c]) (i : Int) = κ ((i + fd c (ps.drop i) : Nat) : Int)
 | 0, i, h1, h2 => by omega
 | f + 1, i, h1, h2 => by
  rw [letter_find_ois.L2, letter_find_ois.t2]
  simp only [List.length_map]
  cases hd : ps.drop i with
  | nil =>
   have := drop_nil hd
   rw [cond_dec' (by omega), fd_nil]
   congr 1; omega
  | cons p r =>
   obtain ⟨g1, g2, g3⟩ := drop_get hd
   have hw1 : IntKind.wrap .i64 ((i : Int) + 1) = ((i + 1 : Nat) : Int) := wrap_i64 (by omega) (by omega)
   simp (disch := omega) only [cond_dec, chk_and, chk_dec, lpA ps i p g1, lp0, lp1, is_eq, hw1]
   rw [fd_cons]
   cases isS c p with
   | true => simp
   | false =>
    simp only [cond_false]
    rw [lFind_loop ps hn c κ f (i + 1) (by omega) (by omega), g3]
    congr 2; omega
theorem lFind_eq (ps : List Pc) (hn : ps.length <= 1000000) (c : UInt8) (i : Nat) (hi : i <= ps.length) (κ : Int -> Option R) : letter_find_ois (ps.map lpAV) (i : Int) (B [c]) κ = κ ((i + fd c (ps.drop i) : Nat) : Int) := by
 have key : ∀ f, ps.length < f -> letter_find_ois.e letter_piece_is_0 (ps.map lpAV) (i : Int) (B [c]) (letter_find_ois.L2 letter_piece_is_0 κ f) κ = κ ((i + fd c (ps.drop i) : Nat) : Int) :=
  fun f hf => lFind_loop ps hn c κ f i hi (by omega)
 exact key fuelK (by unfold fuelK; omega)
theorem rFind_loop (ps : List Pc) (hn : ps.length <= 1000000) (ho : ∀ p ∈ ps, okP p) (c : UInt8) (hc : isSg c = true) (κ : Int -> Option R) : ∀ (f i : Nat), i <= ps.length -> ps.length < i + f ->
  postbagref5_find_0.L2 κ f (ps.map rpAV) (c.toNat : Int) (i : Int) = κ ((i + fd c (ps.drop i) : Nat) : Int)
 | 0, i, h1, h2 => by omega
 | f + 1, i, h1, h2 => by
  rw [postbagref5_find_0.L2, postbagref5_find_0.t2]
  simp only [List.length_map]
  cases hd : ps.drop i with
  | nil =>
   have := drop_nil hd
   rw [cond_dec' (by omega), fd_nil]
   congr 1; omega
  | cons p r =>
   obtain ⟨g1, g2, g3⟩ := drop_get hd
   have hw1 : IntKind.wrap .i64 ((i : Int) + 1) = ((i + 1 : Nat) : Int) := wrap_i64 (by omega) (by omega)
   simp (disch := omega) only [cond_dec, chk_and, chk_dec, rpA ps i p g1, rp0, rp1, hw1]
   rw [rkind_is p c (ho p (List.mem_of_getElem? g1)) hc, fd_cons]
   cases isS c p with
   | true => simp
   | false =>
    simp only [cond_false]
    rw [rFind_loop ps hn ho c hc κ f (i + 1) (by omega) (by omega), g3]
    congr 2; omega
theorem rFind_eq (ps : List Pc) (hn : ps.length <= 1000000) (ho : ∀ p ∈ ps, okP p) (c : UInt8) (hc : isSg c = true) (κ : Int -> Option R) : postbagref5_find_0 (ps.map rpAV) (c.toNat : Int) κ = κ (fd c ps : Int) := by
 have key : ∀ f, ps.length < f -> postbagref5_find_0.e (ps.map rpAV) (c.toNat : Int) (postbagref5_find_0.L2 κ f) κ = κ (fd c ps : Int) := by
  intro f hf
  refine (rFind_loop ps hn ho c hc κ f 0 (by omega) (by omega)).trans ?_
  simp
 exact key fuelK (by unfold fuelK; omega)
def clT (ps : List Pc) : List UInt8 := (ps.map fun p => p.2).flatten
theorem clT_cons (p : Pc) (ps : List Pc) : clT (p :: ps) = p.2 ++ clT ps := rfl
theorem clT_len (ps : List Pc) : (clT ps).length = tl ps := by
 induction ps with
 | nil => rfl
 | cons p r ih => rw [clT_cons, List.length_append, ih, tl_cons]
def txG : Bool -> Bool -> List Pc -> List UInt8
 | _, _, [] => []
 | any, gap, p :: r => bif p.1 == 0 then txG any true r else (bif any && gap then [32] else []) ++ (p.2 ++ txG true false r)
theorem lText_loop (cl : Bool) (ps : List Pc) (hn : ps.length <= 1000000) (ht : tl ps <= 1000000) (ho : ∀ p ∈ ps, okP p) (κ : ByteArray -> Option R) : ∀ (f i : Nat) (any gap : Bool) (acc : List UInt8), i <= ps.length -> ps.length < i + f -> acc.length + tl (ps.drop i) + (ps.length - i) <= 3000000 ->
  letter_text_ob.L4 strings_Builder_WriteByte_vxfei strings_Builder_WriteString_vxfes strings_Builder_String_vxfe κ f cl (any && gap) any (ps.map lpAV) (ps.length : Int) (i : Int) (intsAV acc)
   = κ (B (acc ++ bif cl then clT (ps.drop i) else txG any gap (ps.drop i)))
 | 0, i, any, gap, acc, h1, h2, h3 => by omega
 | f + 1, i, any, gap, acc, h1, h2, h3 => by
  rw [letter_text_ob.L4, letter_text_ob.t4]
  simp only [List.length_map]
  cases hd : ps.drop i with
  | nil =>
   have := drop_nil hd
   rw [cond_dec' (by omega), bString_eq]
   cases cl <;> simp [txG, clT]
  | cons p r =>
   obtain ⟨g1, g2, g3⟩ := drop_get hd
   have hw1 : IntKind.wrap .i64 ((i : Int) + 1) = ((i + 1 : Nat) : Int) := wrap_i64 (by omega) (by omega)
   have hop := ho p (List.mem_of_getElem? g1)
   have htl : tl (ps.drop i) = p.2.length + tl r := by rw [hd]; rfl
   have hal := ints_len acc
   simp (disch := omega) only [cond_dec, chk_and, chk_dec, lpA ps i p g1, lp0, lp1, hw1]
   have e0 : ((p.1 : Int) == 0) = (p.1 == 0) := by rw [Bool.eq_iff_iff]; simp
   rw [e0]
   have step := fun (an ga : Bool) (ac : List UInt8) (h : ac.length + tl r + (ps.length - (i + 1)) <= 3000000) => by
    have := lText_loop cl ps hn ht ho κ f (i + 1) an ga ac (by omega) (by omega) (by rw [g3]; exact h)
    rwa [g3] at this
   cases hp : (p.1 == 0) with
   | true =>
    simp only [cond_true]
    have hp0 : p.2 = [] := hop.1 (by simpa using hp)
    have := step any true acc (by omega)
    rw [Bool.and_true] at this
    rw [this, clT_cons, hp0, txG, hp]; rfl
   | false =>
    simp only [cond_false]
    have hws : ∀ (ac : List UInt8), ac.length <= acc.length + 1 -> ∀ κ' : Int -> List AV -> Option R, strings_Builder_WriteString_vxfes (intsAV ac) (B p.2) κ' = κ' (p.2.length : Int) (intsAV (ac ++ p.2)) := by
     intro ac hac κ'
     have := ints_len ac
     rw [wString_eq _ _ _ (by rw [size_B]; omega), size_B, bytesB, ints_append]
    rw [wByte_eq _ _ _ (by omega), show AV.int 32 = AV.int ((32 : UInt8).toNat : Int) from rfl, ints_snoc, hws (acc ++ [32]) (by simp), hws acc (by omega)]
    have r1 := step true false (acc ++ [32] ++ p.2) (by simp; omega)
    have r2 := step true false (acc ++ p.2) (by simp; omega)
    simp only [Bool.and_false] at r1 r2
    rw [r1, r2, clT_cons, txG, hp]
    cases cl <;> cases any <;> cases gap <;> simp
theorem lText_eq (cl : Bool) (ps : List Pc) (hn : ps.length <= 1000000) (ht : tl ps <= 1000000) (ho : ∀ p ∈ ps, okP p) (κ : ByteArray -> Option R) : letter_text_ob (ps.map lpAV) cl κ = κ (B (bif cl then clT ps else txG false false ps)) := by
 have key : ∀ f, ps.length < f -> letter_text_ob.e strings_Builder_WriteByte_vxfei strings_Builder_WriteString_vxfes strings_Builder_String_vxfe (ps.map lpAV) cl (letter_text_ob.L4 strings_Builder_WriteByte_vxfei strings_Builder_WriteString_vxfes strings_Builder_String_vxfe κ f) κ = κ (B (bif cl then clT ps else txG false false ps)) := by
  intro f hf
  unfold letter_text_ob.e
  rw [List.length_map]
  exact lText_loop cl ps hn ht ho κ f 0 false false [] (by omega) (by omega) (by simp; omega)
 exact key fuelK (by unfold fuelK; omega)
theorem rClosed_loop (ps : List Pc) (hn : ps.length <= 1000000) (κ : ByteArray -> Option R) : ∀ (f i : Nat) (acc : List UInt8), i <= ps.length -> ps.length < i + f -> acc.length + tl (ps.drop i) <= 3000000 ->
  postbagref5_closed_0.L3 κ f (ps.map rpAV) (B acc) (i : Int) = κ (B (acc ++ clT (ps.drop i)))
 | 0, i, acc, h1, h2, h3 => by omega
 | f + 1, i, acc, h1, h2, h3 => by
  rw [postbagref5_closed_0.L3, postbagref5_closed_0.t3]
  simp only [List.length_map]
  cases hd : ps.drop i with
  | nil =>
   have := drop_nil hd
   rw [cond_dec' (by omega)]; simp [clT]
  | cons p r =>
   obtain ⟨g1, g2, g3⟩ := drop_get hd
   have hw1 : IntKind.wrap .i64 ((i : Int) + 1) = ((i + 1 : Nat) : Int) := wrap_i64 (by omega) (by omega)
   have htl : tl (ps.drop i) = p.2.length + tl r := by rw [hd]; rfl
   simp only [rpA ps i p g1, rp1, hw1, append_B, size_B]
   simp (disch := omega) only [cond_dec, chk_and, chk_dec]
   rw [rClosed_loop ps hn κ f (i + 1) (acc ++ p.2) (by omega) (by omega) (by rw [g3]; simp; omega), g3, clT_cons, List.append_assoc]
theorem rClosed_eq (ps : List Pc) (hn : ps.length <= 1000000) (ht : tl ps <= 1000000) (κ : ByteArray -> Option R) : postbagref5_closed_0 (ps.map rpAV) κ = κ (B (clT ps)) := by
 have key : ∀ f, ps.length < f -> postbagref5_closed_0.e (ps.map rpAV) (postbagref5_closed_0.L3 κ f) κ = κ (B (clT ps)) := by
  intro f hf
  exact rClosed_loop ps hn κ f 0 [] (by omega) (by omega) (by simp; omega)
 exact key fuelK (by unfold fuelK; omega)
end Go.Proofs.Ab
namespace Go.Proofs.Ab
set_option linter.unusedVariables false
set_option maxRecDepth 4000
open Go
variable {R : Type}
structure Gd (ps : List Pc) : Prop where
 ok : ∀ p ∈ ps, okP p
 len : ps.length <= 500000
 tl : tl ps <= 500000
theorem Gd.take {ps : List Pc} (h : Gd ps) (n : Nat) : Gd (ps.take n) := ⟨fun p hp => h.ok p (List.mem_of_mem_take hp), by have := h.len; rw [List.length_take]; omega, Nat.le_trans (tl_take n ps) h.tl⟩
theorem Gd.drop {ps : List Pc} (h : Gd ps) (n : Nat) : Gd (ps.drop n) := ⟨fun p hp => h.ok p (List.mem_of_mem_drop hp), by have := h.len; rw [List.length_drop]; omega, Nat.le_trans (tl_drop n ps) h.tl⟩
def ptG : List Pc -> Nat
 | [] => 0
 | p :: r => if isS 60 p = true then (if fd 62 r < r.length then fd 62 r + 2 + ptG (r.drop (fd 62 r + 1)) else r.length + 1) else if (isS 44 p || isS 59 p || isS 58 p) = true then 0 else 1 + ptG r
termination_by l => l.length
decreasing_by
 ·rw [List.length_drop]; simp only [List.length_cons]; omega
 ·simp only [List.length_cons]; omega
theorem ptG_nil : ptG [] = 0 := by rw [ptG]
theorem ptG_cons (p : Pc) (r : List Pc) : ptG (p :: r) = if isS 60 p = true then (if fd 62 r < r.length then fd 62 r + 2 + ptG (r.drop (fd 62 r + 1)) else r.length + 1) else if (isS 44 p || isS 59 p || isS 58 p) = true then 0 else 1 + ptG r := by rw [ptG]
theorem ptG_at : ∀ (n : Nat) (l : List Pc), l.length <= n -> ptG l <= l.length /\ (ptG l < l.length -> ∃ p, l[ptG l]? = some p /\ (isS 44 p || isS 59 p || isS 58 p) = true)
 | 0, l, h => by
  have : l = [] := by cases l <;> simp_all
  subst this; rw [ptG_nil]
  exact ⟨Nat.le_refl _, fun h => absurd h (by simp)⟩
 | n + 1, l, h => by
  cases l with
  | nil => rw [ptG_nil]; exact ⟨Nat.le_refl _, fun h => absurd h (by simp)⟩
  | cons p r =>
   simp only [List.length_cons] at h ⊢
   rw [ptG_cons]
   by_cases h60 : isS 60 p = true
   ·rw [if_pos h60]
    by_cases hf : fd 62 r < r.length
    ·rw [if_pos hf]
     obtain ⟨i1, i2⟩ := ptG_at n (r.drop (fd 62 r + 1)) (by rw [List.length_drop]; omega)
     rw [List.length_drop] at i1 i2
     refine ⟨by omega, fun hlt => ?_⟩
     obtain ⟨q, hq, hs⟩ := i2 (by omega)
     refine ⟨q, ?_, hs⟩
     rw [List.getElem?_drop] at hq
     rw [show fd 62 r + 2 + ptG (r.drop (fd 62 r + 1)) = (fd 62 r + 1 + ptG (r.drop (fd 62 r + 1))) + 1 by omega, List.getElem?_cons_succ]
     exact hq
    ·rw [if_neg hf]; exact ⟨by omega, fun h => absurd h (by omega)⟩
   ·rw [if_neg h60]
    by_cases hs : (isS 44 p || isS 59 p || isS 58 p) = true
    ·rw [if_pos hs]; exact ⟨by omega, fun _ => ⟨p, rfl, hs⟩⟩
    ·rw [if_neg hs]
     obtain ⟨i1, i2⟩ := ptG_at n r (by omega)
     refine ⟨by omega, fun hlt => ?_⟩
     obtain ⟨q, hq, hs⟩ := i2 (by omega)
     exact ⟨q, by rw [Nat.add_comm 1, List.getElem?_cons_succ]; exact hq, hs⟩
theorem lPart_loop (ps : List Pc) (g : Gd ps) (κ : Int -> Option R) : ∀ (f i : Nat), i <= ps.length -> ps.length < i + f ->
  letter_part_oi.L2 letter_piece_is_0 letter_find_ois κ f (ps.map lpAV) (i : Int) = κ ((i + ptG (ps.drop i) : Nat) : Int)
 | 0, i, h1, h2 => by omega
 | f + 1, i, h1, h2 => by
  have hn := g.len
  rw [letter_part_oi.L2, letter_part_oi.t2]
  simp only [List.length_map]
  cases hd : ps.drop i with
  | nil =>
   have := drop_nil hd
   rw [cond_dec' (by omega), ptG_nil]
   congr 1; omega
  | cons p r =>
   obtain ⟨g1, g2, g3⟩ := drop_get hd
   have hr : r.length = ps.length - (i + 1) := by rw [<- g3, List.length_drop]
   have hw1 : IntKind.wrap .i64 ((i : Int) + 1) = ((i + 1 : Nat) : Int) := wrap_i64 (by omega) (by omega)
   have hfr := fd_le 62 r
   rw [show (⟨#[60]⟩ : ByteArray) = B [60] from rfl, show (⟨#[62]⟩ : ByteArray) = B [62] from rfl, show (⟨#[44]⟩ : ByteArray) = B [44] from rfl, show (⟨#[59]⟩ : ByteArray) = B [59] from rfl, show (⟨#[58]⟩ : ByteArray) = B [58] from rfl]
   simp (disch := omega) only [cond_dec, chk_and, chk_dec, lpA ps i p g1, lp0, lp1, is_eq, hw1]
   rw [lFind_eq ps (by omega) 62 i (by omega), hd, fd_cons, ptG_cons]
   cases h60 : isS 60 p with
   | true =>
    have h62 : isS 62 p = false := by
     unfold isS at h60 ⊢
     rw [Bool.and_eq_true, beq_iff_eq, beq_iff_eq] at h60
     rw [h60.1, h60.2]; rfl
    rw [h62]
    simp only [cond_true, cond_false, if_true]
    by_cases hf : fd 62 r < r.length
    ·rw [if_pos hf, beq_neg (by omega)]
     have hw2 : IntKind.wrap .i64 (((i + (fd 62 r + 1) : Nat) : Int) + 1) = ((i + 1 + (fd 62 r + 1) : Nat) : Int) := by rw [wrap_i64 (by omega) (by omega)]; omega
     simp only [cond_false, hw2]
     rw [lPart_loop ps g κ f _ (by omega) (by omega), <- List.drop_drop, g3]
     congr 2; omega
    ·rw [if_neg hf, beq_pos (by omega)]
     simp only [cond_true]
     congr 1; omega
   | false =>
    simp only [cond_false, Bool.false_eq_true, if_false]
    cases h44 : isS 44 p with
    | true => simp
    | false =>
     cases h59 : isS 59 p with
     | true => simp
     | false =>
      cases h58 : isS 58 p with
      | true => simp
      | false =>
       simp only [cond_false, Bool.or_false, Bool.false_eq_true, if_false]
       rw [lPart_loop ps g κ f (i + 1) (by omega) (by omega), g3]
       congr 2; omega
theorem lPart_eq (ps : List Pc) (g : Gd ps) (i : Nat) (hi : i <= ps.length) (κ : Int -> Option R) : letter_part_oi (ps.map lpAV) (i : Int) κ = κ ((i + ptG (ps.drop i) : Nat) : Int) := by
 have hn := g.len
 have key : ∀ f, ps.length < f -> letter_part_oi.e letter_piece_is_0 letter_find_ois (ps.map lpAV) (i : Int) (letter_part_oi.L2 letter_piece_is_0 letter_find_ois κ f) κ = κ ((i + ptG (ps.drop i) : Nat) : Int) :=
  fun f hf => lPart_loop ps g κ f i hi (by omega)
 exact key fuelK (by unfold fuelK; omega)
theorem rPart_loop (ps : List Pc) (g : Gd ps) (κ : Int -> Option R) : ∀ (f i : Nat), i <= ps.length + 1 -> ps.length + 1 < i + f ->
  postbagref5_part_0.L2 postbagref5_find_0 κ f (ps.map rpAV) (i : Int) = κ ((min (i + ptG (ps.drop i)) ps.length : Nat) : Int)
 | 0, i, h1, h2 => by omega
 | f + 1, i, h1, h2 => by
  have hn := g.len
  rw [postbagref5_part_0.L2, postbagref5_part_0.t2]
  simp only [List.length_map]
  cases hd : ps.drop i with
  | nil =>
   have := drop_nil hd
   rw [cond_dec' (by omega), ptG_nil]
   congr 1; omega
  | cons p r =>
   obtain ⟨g1, g2, g3⟩ := drop_get hd
   have hop := g.ok p (List.mem_of_getElem? g1)
   have hr : r.length = ps.length - (i + 1) := by rw [<- g3, List.length_drop]
   have hw1 : IntKind.wrap .i64 ((i : Int) + 1) = ((i + 1 : Nat) : Int) := wrap_i64 (by omega) (by omega)
   have hfr := fd_le 62 r
   have hpt := (ptG_at _ (ps.drop i) (Nat.le_refl _)).1
   rw [hd, List.length_cons] at hpt
   rw [show (60 : Int) = ((60 : UInt8).toNat : Int) from rfl, show (62 : Int) = ((62 : UInt8).toNat : Int) from rfl, show (44 : Int) = ((44 : UInt8).toNat : Int) from rfl, show (59 : Int) = ((59 : UInt8).toNat : Int) from rfl, show (58 : Int) = ((58 : UInt8).toNat : Int) from rfl]
   simp (disch := omega) only [cond_dec, chk_and, chk_dec, rpA ps i p g1, rp0, hw1]
   rw [rkind_is p 60 hop rfl, rkind_is p 44 hop rfl, rkind_is p 59 hop rfl, rkind_is p 58 hop rfl]
   have hcut : cutA (ps.map rpAV) (i : Int) (ps.length : Int) = (p :: r).map rpAV := by rw [cutR, List.take_length, hd]
   have gd : Gd (p :: r) := by rw [<- hd]; exact g.drop i
   rw [hcut, rFind_eq (p :: r) (by have := gd.len; omega) gd.ok 62 rfl, fd_cons]
   rw [ptG_cons] at hpt ⊢
   cases h60 : isS 60 p with
   | true =>
    have hx : isS 62 p = false /\ isS 44 p = false /\ isS 59 p = false /\ isS 58 p = false := by
     unfold isS at h60 ⊢
     rw [Bool.and_eq_true, beq_iff_eq, beq_iff_eq] at h60
     rw [h60.1, h60.2]; exact ⟨rfl, rfl, rfl, rfl⟩
    rw [h60, if_pos rfl] at hpt
    rw [hx.1, hx.2.1, hx.2.2.1, hx.2.2.2]
    have hw2 : IntKind.wrap .i64 ((i : Int) + ((fd 62 r + 1 : Nat) : Int)) = ((i + (fd 62 r + 1) : Nat) : Int) := by rw [wrap_i64 (by omega) (by omega)]; omega
    have hw3 : IntKind.wrap .i64 (((i + (fd 62 r + 1) : Nat) : Int) + 1) = ((i + 1 + (fd 62 r + 1) : Nat) : Int) := by rw [wrap_i64 (by omega) (by omega)]; omega
    simp only [cond_true, cond_false, if_true, hw2, hw3]
    rw [rPart_loop ps g κ f _ (by omega) (by omega), <- List.drop_drop, g3]
    by_cases hf : fd 62 r < r.length
    ·rw [if_pos hf] at hpt ⊢
     congr 2; omega
    ·rw [if_neg hf, List.drop_eq_nil_of_le (by omega), ptG_nil]
     congr 2; omega
   | false =>
    rw [h60] at hpt
    simp only [cond_false, Bool.false_eq_true, if_false] at hpt ⊢
    cases h44 : isS 44 p with
    | true => simp; congr 1; omega
    | false =>
     cases h59 : isS 59 p with
     | true => simp; congr 1; omega
     | false =>
      cases h58 : isS 58 p with
      | true => simp; congr 1; omega
      | false =>
       simp only [cond_false, Bool.or_false, Bool.false_eq_true, if_false]
       rw [rPart_loop ps g κ f (i + 1) (by omega) (by omega), g3]
       congr 2; omega
theorem rPart_eq (ps : List Pc) (g : Gd ps) (κ : Int -> Option R) : postbagref5_part_0 (ps.map rpAV) κ = κ (ptG ps : Int) := by
 have hn := g.len
 have hpt := (ptG_at _ ps (Nat.le_refl _)).1
 have key : ∀ f, ps.length + 1 < f -> postbagref5_part_0.e postbagref5_find_0 (ps.map rpAV) (postbagref5_part_0.L2 postbagref5_find_0 κ f) κ = κ (ptG ps : Int) := by
  intro f hf
  refine (rPart_loop ps g κ f 0 (by omega) (by omega)).trans ?_
  rw [List.drop_zero]; congr 1; omega
 exact key fuelK (by unfold fuelK; omega)
def heldG (ps : List Pc) : Bool := ps.any fun p => p.1 != 0
theorem heldG_cons (p : Pc) (r : List Pc) : heldG (p :: r) = bif p.1 != 0 then true else heldG r := by
 unfold heldG; rw [List.any_cons]; cases (p.1 != 0) <;> rfl
theorem lHeld_loop (ps : List Pc) (g : Gd ps) (κ : Bool -> Option R) : ∀ (f i : Nat), i <= ps.length -> ps.length < i + f ->
  letter_held_o.L2 κ f (ps.map lpAV) (ps.length : Int) (i : Int) = κ (heldG (ps.drop i))
 | 0, i, h1, h2 => by omega
 | f + 1, i, h1, h2 => by
  have hn := g.len
  rw [letter_held_o.L2, letter_held_o.t2]
  simp only [List.length_map]
  cases hd : ps.drop i with
  | nil =>
   have := drop_nil hd
   rw [cond_dec' (by omega)]; rfl
  | cons p r =>
   obtain ⟨g1, g2, g3⟩ := drop_get hd
   have hw1 : IntKind.wrap .i64 ((i : Int) + 1) = ((i + 1 : Nat) : Int) := wrap_i64 (by omega) (by omega)
   simp (disch := omega) only [cond_dec, chk_and, chk_dec, lpA ps i p g1, lp0, hw1]
   have e0 : ((p.1 : Int) != 0) = (p.1 != 0) := by rw [Bool.eq_iff_iff]; simp
   rw [e0, heldG_cons]
   cases (p.1 != 0) with
   | true => rfl
   | false =>
    simp only [cond_false]
    rw [lHeld_loop ps g κ f (i + 1) (by omega) (by omega), g3]
theorem lHeld_eq (ps : List Pc) (g : Gd ps) (κ : Bool -> Option R) : letter_held_o (ps.map lpAV) κ = κ (heldG ps) := by
 have hn := g.len
 have key : ∀ f, ps.length < f -> letter_held_o.e (ps.map lpAV) (letter_held_o.L2 κ f) κ = κ (heldG ps) := by
  intro f hf
  unfold letter_held_o.e
  rw [List.length_map]
  exact lHeld_loop ps g κ f 0 (by omega) (by omega)
 exact key fuelK (by unfold fuelK; omega)
theorem rFull_loop (ps : List Pc) (g : Gd ps) (κ : Bool -> Option R) : ∀ (f i : Nat), i <= ps.length -> ps.length < i + f ->
  postbagref5_full_0.L2 κ f (ps.map rpAV) (i : Int) = κ (heldG (ps.drop i))
 | 0, i, h1, h2 => by omega
 | f + 1, i, h1, h2 => by
  have hn := g.len
  rw [postbagref5_full_0.L2, postbagref5_full_0.t2]
  simp only [List.length_map]
  cases hd : ps.drop i with
  | nil =>
   have := drop_nil hd
   rw [cond_dec' (by omega)]; rfl
  | cons p r =>
   obtain ⟨g1, g2, g3⟩ := drop_get hd
   have hw1 : IntKind.wrap .i64 ((i : Int) + 1) = ((i + 1 : Nat) : Int) := wrap_i64 (by omega) (by omega)
   simp (disch := omega) only [cond_dec, chk_and, chk_dec, rpA ps i p g1, rp0, hw1]
   have e0 : (rkind p != 32) = (p.1 != 0) := by unfold bne; rw [rkind_sp p (g.ok p (List.mem_of_getElem? g1))]
   rw [e0, heldG_cons]
   cases (p.1 != 0) with
   | true => rfl
   | false =>
    simp only [cond_false]
    rw [rFull_loop ps g κ f (i + 1) (by omega) (by omega), g3]
theorem rFull_eq (ps : List Pc) (g : Gd ps) (κ : Bool -> Option R) : postbagref5_full_0 (ps.map rpAV) κ = κ (heldG ps) := by
 have hn := g.len
 have key : ∀ f, ps.length < f -> postbagref5_full_0.e (ps.map rpAV) (postbagref5_full_0.L2 κ f) κ = κ (heldG ps) :=
  fun f hf => rFull_loop ps g κ f 0 (by omega) (by omega)
 exact key fuelK (by unfold fuelK; omega)
theorem rText_loop (ps : List Pc) (g : Gd ps) (κ : ByteArray -> Option R) : ∀ (f i : Nat) (any gap : Bool) (acc : List UInt8), i <= ps.length -> ps.length < i + f -> acc.length + tl (ps.drop i) + (ps.length - i) <= 3000000 ->
  postbagref5_text_0.L5 κ f (ps.map rpAV) (B acc) gap any (i : Int) = κ (B (acc ++ txG any gap (ps.drop i)))
 | 0, i, any, gap, acc, h1, h2, h3 => by omega
 | f + 1, i, any, gap, acc, h1, h2, h3 => by
  have hn := g.len
  rw [postbagref5_text_0.L5, postbagref5_text_0.t5]
  simp only [List.length_map]
  cases hd : ps.drop i with
  | nil =>
   have := drop_nil hd
   rw [cond_dec' (by omega)]; simp [txG]
  | cons p r =>
   obtain ⟨g1, g2, g3⟩ := drop_get hd
   have hw1 : IntKind.wrap .i64 ((i : Int) + 1) = ((i + 1 : Nat) : Int) := wrap_i64 (by omega) (by omega)
   have htl : tl (ps.drop i) = p.2.length + tl r := by rw [hd]; rfl
   rw [show (⟨#[32]⟩ : ByteArray) = B [32] from rfl]
   simp only [rpA ps i p g1, rp0, rp1, hw1, append_B, size_B, List.length_append, List.length_singleton]
   simp (disch := omega) only [cond_dec, chk_and, chk_dec]
   rw [rkind_sp p (g.ok p (List.mem_of_getElem? g1)), txG]
   have step := fun (an ga : Bool) (ac : List UInt8) (h : ac.length + tl r + (ps.length - (i + 1)) <= 3000000) => by
    have := rText_loop ps g κ f (i + 1) an ga ac (by omega) (by omega) (by rw [g3]; exact h)
    rwa [g3] at this
   rw [step any true acc (by omega), step true false (acc ++ [32] ++ p.2) (by simp; omega), step true false (acc ++ p.2) (by simp; omega)]
   cases (p.1 == 0) <;> cases any <;> cases gap <;> simp
theorem rText_eq (ps : List Pc) (g : Gd ps) (κ : ByteArray -> Option R) : postbagref5_text_0 (ps.map rpAV) κ = κ (B (txG false false ps)) := by
 have hn := g.len
 have ht := g.tl
 have key : ∀ f, ps.length < f -> postbagref5_text_0.e (ps.map rpAV) (postbagref5_text_0.L5 κ f) κ = κ (B (txG false false ps)) :=
  fun f hf => rText_loop ps g κ f 0 false false [] (by omega) (by omega) (by simp; omega)
 exact key fuelK (by unfold fuelK; omega)
theorem lTx_eq (ps : List Pc) (g : Gd ps) (κ : ByteArray -> Option R) : letter_text_ob (ps.map lpAV) false κ = κ (B (txG false false ps)) := lText_eq false ps (by have := g.len; omega) (by have := g.tl; omega) g.ok κ
theorem lCl_eq (ps : List Pc) (g : Gd ps) (κ : ByteArray -> Option R) : letter_text_ob (ps.map lpAV) true κ = κ (B (clT ps)) := lText_eq true ps (by have := g.len; omega) (by have := g.tl; omega) g.ok κ
theorem rCl_eq (ps : List Pc) (g : Gd ps) (κ : ByteArray -> Option R) : postbagref5_closed_0 (ps.map rpAV) κ = κ (B (clT ps)) := rClosed_eq ps (by have := g.len; omega) (by have := g.tl; omega) κ
theorem lFd_eq (ps : List Pc) (g : Gd ps) (c : UInt8) (κ : Int -> Option R) : letter_find_ois (ps.map lpAV) 0 (B [c]) κ = κ (fd c ps : Int) := by
 have := lFind_eq ps (by have := g.len; omega) c 0 (by omega) κ
 simpa using this
theorem rFd_eq (ps : List Pc) (g : Gd ps) (c : UInt8) (hc : isSg c = true) (κ : Int -> Option R) : postbagref5_find_0 (ps.map rpAV) (c.toNat : Int) κ = κ (fd c ps : Int) := rFind_eq ps (by have := g.len; omega) g.ok c hc κ
def routedG : List Pc -> Bool
 | [] => false
 | p :: r => bif p.1 != 0 then isS 64 p else routedG r
theorem lRouted_loop (ps : List Pc) (g : Gd ps) (κ : Bool -> Option R) : ∀ (f i : Nat), i <= ps.length -> ps.length < i + f ->
  letter_routed_o.L2 letter_piece_is_0 κ f (ps.map lpAV) (ps.length : Int) (i : Int) = κ (routedG (ps.drop i))
 | 0, i, h1, h2 => by omega
 | f + 1, i, h1, h2 => by
  have hn := g.len
  rw [letter_routed_o.L2, letter_routed_o.t2]
  simp only [List.length_map]
  cases hd : ps.drop i with
  | nil =>
   have := drop_nil hd
   rw [cond_dec' (by omega)]; rfl
  | cons p r =>
   obtain ⟨g1, g2, g3⟩ := drop_get hd
   have hw1 : IntKind.wrap .i64 ((i : Int) + 1) = ((i + 1 : Nat) : Int) := wrap_i64 (by omega) (by omega)
   rw [show (⟨#[64]⟩ : ByteArray) = B [64] from rfl]
   simp (disch := omega) only [cond_dec, chk_and, chk_dec, lpA ps i p g1, lp0, lp1, is_eq, hw1]
   have e0 : ((p.1 : Int) != 0) = (p.1 != 0) := by rw [Bool.eq_iff_iff]; simp
   rw [e0, routedG]
   cases (p.1 != 0) with
   | true => rfl
   | false =>
    simp only [cond_false]
    rw [lRouted_loop ps g κ f (i + 1) (by omega) (by omega), g3]
theorem lRouted_eq (ps : List Pc) (g : Gd ps) (κ : Bool -> Option R) : letter_routed_o (ps.map lpAV) κ = κ (routedG ps) := by
 have hn := g.len
 have key : ∀ f, ps.length < f -> letter_routed_o.e letter_piece_is_0 (ps.map lpAV) (letter_routed_o.L2 letter_piece_is_0 κ f) κ = κ (routedG ps) := by
  intro f hf
  unfold letter_routed_o.e
  rw [List.length_map]
  exact lRouted_loop ps g κ f 0 (by omega) (by omega)
 exact key fuelK (by unfold fuelK; omega)
def laG : Option Nat -> Nat -> List Pc -> Option Nat
 | o, _, [] => o
 | o, i, p :: r => laG (bif isS 64 p then some i else o) (i + 1) r
def aI : Option Nat -> Int
 | some n => n
 | none => -1
theorem laG_lt : ∀ (ps : List Pc) (o : Option Nat) (i n : Nat), laG o i ps = some n -> (∀ m, o = some m -> m < i + ps.length) -> n < i + ps.length
 | [], o, i, n, h, ho => ho n h
 | p :: r, o, i, n, h, ho => by
  rw [laG] at h
  have := laG_lt r _ (i + 1) n h (by
   intro m hm
   cases hs : isS 64 p with
   | true => rw [hs] at hm; cases hm; omega
   | false => rw [hs] at hm; have := ho m hm; simp only [List.length_cons] at this; omega)
  simp only [List.length_cons]; omega
end Go.Proofs.Ab
namespace Go.Proofs.Ab
set_option linter.unusedVariables false
set_option maxRecDepth 4000
open Go
variable {R : Type}
def bhG (ps : List Pc) : Option Nat -> List UInt8 × List UInt8
 | none => (txG false false ps, [])
 | some n => (clT (ps.take n), clT (ps.drop (n + 1)))
abbrev K8 (R : Type) := Bool -> ByteArray -> Bool -> ByteArray -> Bool -> ByteArray -> Bool -> ByteArray -> Option R
theorem e0l (p : Pc) : ((p.1 : Int) == 0) = (p.1 == 0) := by rw [Bool.eq_iff_iff]; simp
abbrev laL14 (κ : K8 R) := letter_address_o.L14 letter_find_ois letter_held_o letter_text_ob letter_some_0 letter_routed_o letter_piece_is_0 κ
abbrev laL13 (κ : K8 R) := letter_address_o.L13 letter_find_ois letter_held_o letter_text_ob letter_some_0 letter_routed_o letter_piece_is_0 κ
abbrev laL7 (κ : K8 R) := letter_address_o.L7 letter_find_ois letter_held_o letter_text_ob letter_some_0 letter_routed_o letter_piece_is_0 κ
theorem la14 (ps : List Pc) (g : Gd ps) (κ : K8 R) (x5 : Bool) (x6 : ByteArray) (x7 : Bool) (x8 : ByteArray) (x9 : Bool) (x10 : ByteArray) (x11 : Bool) (x12 : ByteArray) (x13 : Bool) (x14 : ByteArray) (x15 : Bool) (x16 : ByteArray) (x17 : Bool) (x18 : ByteArray) (x19 : Bool) (x20 : ByteArray) :
  ∀ (f i : Nat) (o : Option Nat), i <= ps.length -> ps.length < i + f -> (∀ m, o = some m -> m < i) ->
  laL14 κ f (ps.map lpAV) (aI o) (ps.map lpAV) (ps.length : Int) (i : Int) x5 x6 x7 x8 x9 x10 x11 x12 x13 x14 x15 x16 x17 x18 x19 x20 = κ x13 x14 x15 x16 true (B (bhG ps (laG o i (ps.drop i))).1) true (B (bhG ps (laG o i (ps.drop i))).2)
 | 0, i, o, h1, h2, h3 => by omega
 | f + 1, i, o, h1, h2, h3 => by
  have hn := g.len
  unfold laL14
  rw [letter_address_o.L14, letter_address_o.t14]
  have hlm : (ps.map lpAV).length = ps.length := List.length_map ..
  simp only [hlm]
  have so : ∀ (a : ByteArray) (k : Bool -> ByteArray -> Option R), letter_some_0 a k = k true a := fun _ _ => rfl
  cases hd : ps.drop i with
  | nil =>
   have := drop_nil hd
   rw [cond_dec' (by omega), laG]
   cases o with
   | none =>
    rw [cond_dec (show aI none < 0 by decide), lTx_eq ps g]
    simp only [so]
    rfl
   | some n =>
    have hm := h3 n rfl
    have hw1 : IntKind.wrap .i64 ((n : Int) + 1) = ((n + 1 : Nat) : Int) := wrap_i64 (by omega) (by omega)
    have ha : aI (some n) = (n : Int) := rfl
    simp only [ha]
    rw [cond_dec' (by omega)]
    simp only [hw1]
    simp (disch := omega) only [chk_and, chk_dec]
    have hc1 : cutA (ps.map lpAV) 0 (n : Int) = (ps.take n).map lpAV := cutL ps 0 n
    have hc2 : cutA (ps.map lpAV) ((n + 1 : Nat) : Int) (ps.length : Int) = (ps.drop (n + 1)).map lpAV := by rw [cutL, List.take_length]
    rw [hc1, hc2, lCl_eq _ (g.take n)]
    simp only [so]
    rw [lCl_eq _ (g.drop (n + 1))]
    rfl
  | cons p r =>
   obtain ⟨g1, g2, g3⟩ := drop_get hd
   have hw1 : IntKind.wrap .i64 ((i : Int) + 1) = ((i + 1 : Nat) : Int) := wrap_i64 (by omega) (by omega)
   rw [show (⟨#[64]⟩ : ByteArray) = B [64] from rfl]
   simp (disch := omega) only [cond_dec, chk_and, chk_dec, lpA ps i p g1, lp0, lp1, is_eq, hw1]
   rw [laG]
   have h1 := la14 ps g κ x5 x6 x7 x8 x9 x10 x11 x12 x13 x14 x15 x16 x17 x18 x19 x20 f (i + 1) (some i) (by omega) (by omega) (by intro m hm; cases hm; omega)
   have h2 := la14 ps g κ x5 x6 x7 x8 x9 x10 x11 x12 x13 x14 x15 x16 x17 x18 x19 x20 f (i + 1) o (by omega) (by omega) (by intro m hm; have := h3 m hm; omega)
   rw [g3] at h1 h2
   cases isS 64 p with
   | true => exact h1
   | false => exact h2
def plG (ps : List Pc) : Option (List UInt8) × Option (List UInt8) × List Pc :=
 if fd 60 ps < ps.length then
  let n := if heldG (ps.take (fd 60 ps)) = true then some (txG false false (ps.take (fd 60 ps))) else none
  let pl := (ps.drop (fd 60 ps + 1)).take (fd 62 (ps.drop (fd 60 ps + 1)))
  if fd 58 pl < pl.length /\ routedG pl = true then (n, some (clT (pl.take (fd 58 pl))), pl.drop (fd 58 pl + 1)) else (n, none, pl)
 else (none, none, ps)
abbrev Adr := Option (List UInt8) × Option (List UInt8) × Option (List UInt8) × Option (List UInt8)
def addrG (ps : List Pc) : Adr :=
 ((plG ps).1, (plG ps).2.1, some (bhG (plG ps).2.2 (laG none 0 (plG ps).2.2)).1, some (bhG (plG ps).2.2 (laG none 0 (plG ps).2.2)).2)
def k8 (κ : K8 R) (a : Adr) : Option R :=
 κ a.1.isSome (B (a.1.getD [])) a.2.1.isSome (B (a.2.1.getD [])) a.2.2.1.isSome (B (a.2.2.1.getD [])) a.2.2.2.isSome (B (a.2.2.2.getD []))
theorem la13 (ps : List Pc) (g : Gd ps) (κ : K8 R) (f : Nat) (hf : ps.length < f) (x2 : Bool) (x3 : ByteArray) (x4 : Bool) (x5 : ByteArray) (x6 : Bool) (x7 : ByteArray) (x8 : Bool) (x9 : ByteArray) (n r : Option (List UInt8)) (x14 : Bool) (x15 : ByteArray) (x16 : Bool) (x17 : ByteArray) :
  laL13 κ (f + 1) (ps.map lpAV) (-1) x2 x3 x4 x5 x6 x7 x8 x9 n.isSome (B (n.getD [])) r.isSome (B (r.getD [])) x14 x15 x16 x17 = k8 κ (n, r, some (bhG ps (laG none 0 ps)).1, some (bhG ps (laG none 0 ps)).2) := by
 unfold laL13
 rw [letter_address_o.L13, letter_address_o.t13, List.length_map]
 have := la14 ps g κ x2 x3 x4 x5 x6 x7 x8 x9 n.isSome (B (n.getD [])) r.isSome (B (r.getD [])) x14 x15 x16 x17 f 0 none (by omega) (by omega) (by intro m hm; cases hm)
 rw [List.drop_zero] at this
 exact this
theorem fd_get (c : UInt8) (l : List Pc) (h : fd c l < l.length) : ∃ p, l.drop (fd c l) = p :: l.drop (fd c l + 1) /\ isS c p = true := by
 induction l with
 | nil => simp at h
 | cons p r ih =>
  rw [fd_cons] at h ⊢
  cases hs : isS c p with
  | true => exact ⟨p, rfl, hs⟩
  | false =>
   rw [hs] at h
   simp only [cond_false, List.length_cons] at h
   simp only [cond_false, List.drop_succ_cons]
   exact ih (by omega)
theorem la7 (ps : List Pc) (g : Gd ps) (κ : K8 R) (f : Nat) (hf : ps.length < f) (h60 : fd 60 ps < ps.length) (n : Option (List UInt8)) (hn : n = if heldG (ps.take (fd 60 ps)) = true then some (txG false false (ps.take (fd 60 ps))) else none) (nb : Bool) (nB : ByteArray) (hnb : nb = n.isSome) (hnB : nB = B (n.getD [])) (x2 : Bool) (x3 : ByteArray) (x4 : Bool) (x5 : ByteArray) (x6 : Bool) (x7 : ByteArray) (x8 : Bool) (x9 : ByteArray) (x14 : Bool) (x15 : ByteArray) (x16 : Bool) (x17 : ByteArray) :
  laL7 κ (f + 2) (ps.map lpAV) (fd 60 ps : Int) x2 x3 x4 x5 x6 x7 x8 x9 nb nB false (⟨#[]⟩ : ByteArray) x14 x15 x16 x17 = k8 κ (addrG ps) := by
 subst hnb hnB
 have hlen := g.len
 unfold laL7
 rw [letter_address_o.L7, letter_address_o.t7]
 rw [show (⟨#[62]⟩ : ByteArray) = B [62] from rfl, show (⟨#[58]⟩ : ByteArray) = B [58] from rfl, lFind_eq ps (by omega) 62 (fd 60 ps) (by omega)]
 obtain ⟨p, hp, hs⟩ := fd_get 60 ps h60
 have h62 : isS 62 p = false := by
  unfold isS at hs ⊢
  rw [Bool.and_eq_true, beq_iff_eq, beq_iff_eq] at hs
  rw [hs.1, hs.2]; rfl
 rw [hp, fd_cons, h62]
 simp only [cond_false]
 generalize hr : ps.drop (fd 60 ps + 1) = r
 have hrl : r.length = ps.length - (fd 60 ps + 1) := by rw [<- hr, List.length_drop]
 have hfr := fd_le 62 r
 have hw1 : IntKind.wrap .i64 ((fd 60 ps : Int) + 1) = ((fd 60 ps + 1 : Nat) : Int) := wrap_i64 (by omega) (by omega)
 have hcut : cutA (ps.map lpAV) ((fd 60 ps + 1 : Nat) : Int) ((fd 60 ps + (fd 62 r + 1) : Nat) : Int) = (r.take (fd 62 r)).map lpAV := by
  rw [cutL, List.drop_take, hr]; congr 2; omega
 have gp : Gd (r.take (fd 62 r)) := by rw [<- hr]; exact (g.drop _).take _
 have hpl : plG ps = if fd 58 (r.take (fd 62 r)) < (r.take (fd 62 r)).length /\ routedG (r.take (fd 62 r)) = true then (n, some (clT ((r.take (fd 62 r)).take (fd 58 (r.take (fd 62 r))))), (r.take (fd 62 r)).drop (fd 58 (r.take (fd 62 r)) + 1)) else (n, none, r.take (fd 62 r)) := by
  unfold plG
  rw [if_pos h60, <- hn, hr]
 have hpll : (r.take (fd 62 r)).length <= ps.length := by rw [List.length_take]; omega
 simp only [hw1, List.length_map, hcut]
 rw [chk_and, chk_dec (by omega), chk_and, chk_dec (by omega), chk_dec (by omega), lFd_eq _ gp]
 generalize r.take (fd 62 r) = pl at *
 have gpl := gp.len
 have hf58 := fd_le 58 pl
 have no : ¬ (fd 58 pl < pl.length /\ routedG pl = true) -> laL13 κ (f + 1) (pl.map lpAV) (-1) x2 x3 x4 x5 x6 x7 x8 x9 n.isSome (B (n.getD [])) false (⟨#[]⟩ : ByteArray) x14 x15 x16 x17 = k8 κ (addrG ps) := by
  intro hno
  have := la13 pl gp κ f (by omega) x2 x3 x4 x5 x6 x7 x8 x9 n none x14 x15 x16 x17
  refine this.trans ?_
  unfold addrG
  rw [hpl, if_neg hno]
 have so : ∀ (a : ByteArray) (k : Bool -> ByteArray -> Option R), letter_some_0 a k = k true a := fun _ _ => rfl
 by_cases hc : fd 58 pl < pl.length
 ·rw [cond_dec (by omega), lRouted_eq pl gp]
  cases hrt : routedG pl with
  | false => exact no (fun h => by rw [hrt] at h; cases h.2)
  | true =>
   have hw2 : IntKind.wrap .i64 ((fd 58 pl : Int) + 1) = ((fd 58 pl + 1 : Nat) : Int) := wrap_i64 (by omega) (by omega)
   have hc1 : cutA (pl.map lpAV) 0 (fd 58 pl : Int) = (pl.take (fd 58 pl)).map lpAV := cutL pl 0 _
   have hc2 : cutA (pl.map lpAV) ((fd 58 pl + 1 : Nat) : Int) (pl.length : Int) = (pl.drop (fd 58 pl + 1)).map lpAV := by rw [cutL, List.take_length]
   simp only [cond_true, hw2, hc1, hc2]
   simp (disch := omega) only [chk_and, chk_dec]
   rw [lCl_eq _ (gp.take _)]
   simp only [so]
   have := la13 (pl.drop (fd 58 pl + 1)) (gp.drop _) κ f (by rw [List.length_drop]; omega) x2 x3 x4 x5 x6 x7 x8 x9 n (some (clT (pl.take (fd 58 pl)))) x14 x15 x16 x17
   refine this.trans ?_
   unfold addrG
   rw [hpl, if_pos ⟨hc, hrt⟩]
 ·rw [cond_dec' (by omega)]
  exact no (fun h => hc h.1)
theorem lAddr_eq (ps : List Pc) (g : Gd ps) (κ : K8 R) : letter_address_o (ps.map lpAV) κ = k8 κ (addrG ps) := by
 have hlen := g.len
 have key : ∀ F, ps.length + 2 < F -> letter_address_o.e letter_find_ois letter_held_o letter_text_ob letter_some_0 letter_routed_o letter_piece_is_0 (ps.map lpAV) (laL7 κ F) (laL13 κ F) (laL14 κ F) κ = k8 κ (addrG ps) := by
  intro F hF
  obtain ⟨f, rfl⟩ : ∃ f, F = f + 2 := ⟨F - 2, by omega⟩
  have hf : ps.length < f := by omega
  unfold letter_address_o.e
  rw [show (⟨#[60]⟩ : ByteArray) = B [60] from rfl, lFd_eq ps g 60]
  simp only [List.length_map]
  have hfd := fd_le 60 ps
  have so : ∀ (a : ByteArray) (k : Bool -> ByteArray -> Option R), letter_some_0 a k = k true a := fun _ _ => rfl
  by_cases h : fd 60 ps < ps.length
  ·have hc1 : cutA (ps.map lpAV) 0 (fd 60 ps : Int) = (ps.take (fd 60 ps)).map lpAV := cutL ps 0 _
   simp (disch := omega) only [cond_dec, chk_and, chk_dec, hc1]
   rw [lHeld_eq _ (g.take _)]
   cases hh : heldG (ps.take (fd 60 ps)) with
   | true =>
    simp only [cond_true]
    rw [lTx_eq _ (g.take _)]
    simp only [so]
    exact la7 ps g κ f hf h (some (txG false false (ps.take (fd 60 ps)))) (by rw [hh]; rfl) true _ rfl rfl _ _ _ _ _ _ _ _ _ _ _ _
   | false =>
    simp only [cond_false]
    exact la7 ps g κ f hf h none (by rw [hh]; rfl) false (⟨#[]⟩ : ByteArray) rfl rfl _ _ _ _ _ _ _ _ _ _ _ _
  ·rw [cond_dec' (by omega)]
   have := la13 ps g κ (f + 1) (by omega) false (⟨#[]⟩ : ByteArray) false (⟨#[]⟩ : ByteArray) false (⟨#[]⟩ : ByteArray) false (⟨#[]⟩ : ByteArray) none none false (⟨#[]⟩ : ByteArray) false (⟨#[]⟩ : ByteArray)
   refine this.trans ?_
   unfold addrG plG
   rw [if_neg h]
 exact key fuelK (by unfold fuelK; omega)
end Go.Proofs.Ab
namespace Go.Proofs.Ab
set_option linter.unusedVariables false
set_option maxRecDepth 4000
open Go
variable {R : Type}
abbrev raL17 (κ : K8 R) := postbagref5_address_0.L17 postbagref5_find_0 postbagref5_full_0 postbagref5_text_0 postbagref5_is_0 postbagref5_closed_0 κ
abbrev raL11 (κ : K8 R) := postbagref5_address_0.L11 postbagref5_find_0 postbagref5_full_0 postbagref5_text_0 postbagref5_is_0 postbagref5_closed_0 κ
abbrev raL9 (κ : K8 R) := postbagref5_address_0.L9 postbagref5_find_0 postbagref5_full_0 postbagref5_text_0 postbagref5_is_0 postbagref5_closed_0 κ
theorem ris (a : ByteArray) (k : Bool -> ByteArray -> Option R) : postbagref5_is_0 a k = k true a := by
 unfold postbagref5_is_0 postbagref5_is_0.e
 exact Eq.refl _
theorem ra17 (ps : List Pc) (g : Gd ps) (κ : K8 R) (x3 : Bool) (x4 : ByteArray) (x5 : Bool) (x6 : ByteArray) (x7 : Bool) (x8 : ByteArray) (x9 : Bool) (x10 : ByteArray) (x11 : Bool) (x12 : ByteArray) (x13 : Bool) (x14 : ByteArray) (x15 : Bool) (x16 : ByteArray) (x17 : Bool) (x18 : ByteArray) :
  ∀ (f i : Nat) (o : Option Nat), i <= ps.length -> ps.length < i + f -> (∀ m, o = some m -> m < i) ->
  raL17 κ f (ps.map rpAV) (aI o) (i : Int) x3 x4 x5 x6 x7 x8 x9 x10 x11 x12 x13 x14 x15 x16 x17 x18 = κ x11 x12 x13 x14 true (B (bhG ps (laG o i (ps.drop i))).1) true (B (bhG ps (laG o i (ps.drop i))).2)
 | 0, i, o, h1, h2, h3 => by omega
 | f + 1, i, o, h1, h2, h3 => by
  have hn := g.len
  unfold raL17
  rw [postbagref5_address_0.L17, postbagref5_address_0.t17]
  have hlm : (ps.map rpAV).length = ps.length := List.length_map ..
  simp only [hlm]
  cases hd : ps.drop i with
  | nil =>
   have := drop_nil hd
   rw [cond_dec' (by omega), laG]
   cases o with
   | none =>
    rw [cond_dec (show aI none < 0 by decide), rText_eq ps g]
    simp only [ris]
    rfl
   | some n =>
    have hm := h3 n rfl
    have hw1 : IntKind.wrap .i64 ((n : Int) + 1) = ((n + 1 : Nat) : Int) := wrap_i64 (by omega) (by omega)
    have ha : aI (some n) = (n : Int) := rfl
    simp only [ha]
    rw [cond_dec' (by omega)]
    simp only [hw1]
    simp (disch := omega) only [chk_and, chk_dec]
    have hc1 : cutA (ps.map rpAV) 0 (n : Int) = (ps.take n).map rpAV := cutR ps 0 n
    have hc2 : cutA (ps.map rpAV) ((n + 1 : Nat) : Int) (ps.length : Int) = (ps.drop (n + 1)).map rpAV := by rw [cutR, List.take_length]
    rw [hc1, hc2, rCl_eq _ (g.take n)]
    simp only [ris]
    rw [rCl_eq _ (g.drop (n + 1))]
    rfl
  | cons p r =>
   obtain ⟨g1, g2, g3⟩ := drop_get hd
   have hw1 : IntKind.wrap .i64 ((i : Int) + 1) = ((i + 1 : Nat) : Int) := wrap_i64 (by omega) (by omega)
   rw [show (64 : Int) = ((64 : UInt8).toNat : Int) from rfl]
   simp (disch := omega) only [cond_dec, chk_and, chk_dec, rpA ps i p g1, rp0, hw1]
   rw [rkind_is p 64 (g.ok p (List.mem_of_getElem? g1)) rfl, laG]
   have h1 := ra17 ps g κ x3 x4 x5 x6 x7 x8 x9 x10 x11 x12 x13 x14 x15 x16 x17 x18 f (i + 1) (some i) (by omega) (by omega) (by intro m hm; cases hm; omega)
   have h2 := ra17 ps g κ x3 x4 x5 x6 x7 x8 x9 x10 x11 x12 x13 x14 x15 x16 x17 x18 f (i + 1) o (by omega) (by omega) (by intro m hm; have := h3 m hm; omega)
   have ha : aI (some i) = (i : Int) := rfl
   rw [g3] at h1 h2
   rw [ha] at h1
   unfold raL17 at h1 h2
   cases isS 64 p with
   | true => simp only [cond_true]; exact h1
   | false => simp only [cond_false]; exact h2
theorem ra17' (ps : List Pc) (g : Gd ps) (κ : K8 R) (f : Nat) (hf : ps.length < f) (n r : Option (List UInt8)) (nb : Bool) (nB : ByteArray) (rb : Bool) (rB : ByteArray) (hnb : nb = n.isSome) (hnB : nB = B (n.getD [])) (hrb : rb = r.isSome) (hrB : rB = B (r.getD []))
  (x3 : Bool) (x4 : ByteArray) (x5 : Bool) (x6 : ByteArray) (x7 : Bool) (x8 : ByteArray) (x9 : Bool) (x10 : ByteArray) (x15 : Bool) (x16 : ByteArray) (x17 : Bool) (x18 : ByteArray) :
  raL17 κ f (ps.map rpAV) (-1) 0 x3 x4 x5 x6 x7 x8 x9 x10 nb nB rb rB x15 x16 x17 x18 = k8 κ (n, r, some (bhG ps (laG none 0 ps)).1, some (bhG ps (laG none 0 ps)).2) := by
 subst hnb hnB hrb hrB
 have := ra17 ps g κ x3 x4 x5 x6 x7 x8 x9 x10 n.isSome (B (n.getD [])) r.isSome (B (r.getD [])) x15 x16 x17 x18 f 0 none (by omega) (by omega) (by intro m hm; cases hm)
 rw [List.drop_zero] at this
 exact this
theorem ra11 (pl : List Pc) (g : Gd pl) (κ : K8 R) (f k : Nat) (hk : k <= pl.length) (hf : pl.length < f) (hr : routedG pl = match pl.drop k with | [] => false | p :: _ => isS 64 p) (n : Option (List UInt8)) (nb : Bool) (nB : ByteArray) (hnb : nb = n.isSome) (hnB : nB = B (n.getD []))
  (x2 : Bool) (x3 : ByteArray) (x4 : Bool) (x5 : ByteArray) (x6 : Bool) (x7 : ByteArray) (x8 : Bool) (x9 : ByteArray) (x14 : Bool) (x15 : ByteArray) (x16 : Bool) (x17 : ByteArray) (z : Adr)
  (hz : z = if fd 58 pl < pl.length /\ routedG pl = true then (n, some (clT (pl.take (fd 58 pl))), some (bhG (pl.drop (fd 58 pl + 1)) (laG none 0 (pl.drop (fd 58 pl + 1)))).1, some (bhG (pl.drop (fd 58 pl + 1)) (laG none 0 (pl.drop (fd 58 pl + 1)))).2)
   else (n, none, some (bhG pl (laG none 0 pl)).1, some (bhG pl (laG none 0 pl)).2)) :
  raL11 κ (f + 1) (pl.map rpAV) (k : Int) x2 x3 x4 x5 x6 x7 x8 x9 nb nB false (⟨#[]⟩ : ByteArray) x14 x15 x16 x17 = k8 κ z := by
 have hlen := g.len
 have hf58 := fd_le 58 pl
 unfold raL11
 rw [postbagref5_address_0.L11, postbagref5_address_0.t11, show (58 : Int) = ((58 : UInt8).toNat : Int) from rfl, show (64 : Int) = ((64 : UInt8).toNat : Int) from rfl, rFd_eq pl g 58 rfl]
 simp only [List.length_map]
 have no : ¬ (fd 58 pl < pl.length /\ routedG pl = true) -> raL17 κ f (pl.map rpAV) (-1) 0 x2 x3 x4 x5 x6 x7 x8 x9 nb nB false (⟨#[]⟩ : ByteArray) x14 x15 x16 x17 = k8 κ z := by
  intro hno
  rw [hz, if_neg hno]
  exact ra17' pl g κ f hf n none nb nB false (⟨#[]⟩ : ByteArray) hnb hnB rfl rfl _ _ _ _ _ _ _ _ _ _ _ _
 cases hd : pl.drop k with
 | nil =>
  have := drop_nil hd
  rw [hd] at hr
  rw [cond_dec' (by omega)]
  exact no (fun h => by rw [hr] at h; cases h.2)
 | cons p t =>
  obtain ⟨g1, g2, g3⟩ := drop_get hd
  rw [hd] at hr
  have hr : routedG pl = isS 64 p := hr
  simp (disch := omega) only [cond_dec, chk_and, chk_dec, rpA pl k p g1, rp0]
  rw [rkind_is p 64 (g.ok p (List.mem_of_getElem? g1)) rfl]
  cases hs : isS 64 p with
  | false => exact no (fun h => by rw [hr] at h; rw [hs] at h; cases h.2)
  | true =>
   simp only [cond_true]
   by_cases hc : fd 58 pl < pl.length
   ·have hw2 : IntKind.wrap .i64 ((fd 58 pl : Int) + 1) = ((fd 58 pl + 1 : Nat) : Int) := wrap_i64 (by omega) (by omega)
    have hc1 : cutA (pl.map rpAV) 0 (fd 58 pl : Int) = (pl.take (fd 58 pl)).map rpAV := cutR pl 0 _
    have hc2 : cutA (pl.map rpAV) ((fd 58 pl + 1 : Nat) : Int) (pl.length : Int) = (pl.drop (fd 58 pl + 1)).map rpAV := by rw [cutR, List.take_length]
    simp only [hw2, hc1, hc2]
    simp (disch := omega) only [cond_dec, chk_and, chk_dec]
    rw [rCl_eq _ (g.take _)]
    simp only [ris]
    rw [hz, if_pos ⟨hc, by rw [hr]; exact hs⟩]
    exact ra17' (pl.drop (fd 58 pl + 1)) (g.drop _) κ f (by rw [List.length_drop]; omega) n (some (clT (pl.take (fd 58 pl)))) nb nB true _ hnb hnB rfl rfl _ _ _ _ _ _ _ _ _ _ _ _
   ·rw [cond_dec' (by omega)]
    exact no (fun h => hc h.1)
theorem ra9 (pl : List Pc) (g : Gd pl) (κ : K8 R) (n : Option (List UInt8)) (nb : Bool) (nB : ByteArray) (hnb : nb = n.isSome) (hnB : nB = B (n.getD []))
  (x2 : Bool) (x3 : ByteArray) (x4 : Bool) (x5 : ByteArray) (x6 : Bool) (x7 : ByteArray) (x8 : Bool) (x9 : ByteArray) (x14 : Bool) (x15 : ByteArray) (x16 : Bool) (x17 : ByteArray) (z : Adr)
  (hz : z = if fd 58 pl < pl.length /\ routedG pl = true then (n, some (clT (pl.take (fd 58 pl))), some (bhG (pl.drop (fd 58 pl + 1)) (laG none 0 (pl.drop (fd 58 pl + 1)))).1, some (bhG (pl.drop (fd 58 pl + 1)) (laG none 0 (pl.drop (fd 58 pl + 1)))).2)
   else (n, none, some (bhG pl (laG none 0 pl)).1, some (bhG pl (laG none 0 pl)).2)) :
  ∀ (f k : Nat), k <= pl.length -> 2 * pl.length + 2 < k + f -> routedG (pl.drop k) = routedG pl ->
  raL9 κ f (pl.map rpAV) (k : Int) x2 x3 x4 x5 x6 x7 x8 x9 nb nB false (⟨#[]⟩ : ByteArray) x14 x15 x16 x17 = k8 κ z
 | 0, k, h1, h2, h3 => by omega
 | f + 1, k, h1, h2, h3 => by
  have hlen := g.len
  unfold raL9
  rw [postbagref5_address_0.L9, postbagref5_address_0.t9]
  simp only [List.length_map]
  obtain ⟨f', rfl⟩ : ∃ f', f = f' + 1 := ⟨f - 1, by omega⟩
  have stop : (routedG pl = match pl.drop k with | [] => false | p :: _ => isS 64 p) -> raL11 κ (f' + 1) (pl.map rpAV) (k : Int) x2 x3 x4 x5 x6 x7 x8 x9 nb nB false (⟨#[]⟩ : ByteArray) x14 x15 x16 x17 = k8 κ z :=
   fun hr => ra11 pl g κ f' k h1 (by omega) hr n nb nB hnb hnB _ _ _ _ _ _ _ _ _ _ _ _ z hz
  cases hd : pl.drop k with
  | nil =>
   have := drop_nil hd
   rw [hd] at stop h3
   rw [cond_dec' (by omega)]
   exact stop h3.symm
  | cons p t =>
   obtain ⟨g1, g2, g3⟩ := drop_get hd
   have hw1 : IntKind.wrap .i64 ((k : Int) + 1) = ((k + 1 : Nat) : Int) := wrap_i64 (by omega) (by omega)
   rw [hd] at stop h3
   simp (disch := omega) only [cond_dec, chk_and, chk_dec, rpA pl k p g1, rp0, hw1]
   rw [rkind_sp p (g.ok p (List.mem_of_getElem? g1))]
   rw [routedG] at h3
   cases hp : (p.1 == 0) with
   | true =>
    have hp' : (p.1 != 0) = false := by unfold bne; rw [hp]; rfl
    rw [hp'] at h3
    simp only [cond_true]
    exact ra9 pl g κ n nb nB hnb hnB x2 x3 x4 x5 x6 x7 x8 x9 x14 x15 x16 x17 z hz (f' + 1) (k + 1) (by omega) (by omega) (by rw [g3]; exact h3)
   | false =>
    have hp' : (p.1 != 0) = true := by unfold bne; rw [hp]; rfl
    rw [hp'] at h3
    simp only [cond_false]
    exact stop h3.symm
theorem addrG_pl (ps : List Pc) (h60 : fd 60 ps < ps.length) (n : Option (List UInt8)) (hn : n = if heldG (ps.take (fd 60 ps)) = true then some (txG false false (ps.take (fd 60 ps))) else none) (pl : List Pc) (hpl : pl = (ps.drop (fd 60 ps + 1)).take (fd 62 (ps.drop (fd 60 ps + 1)))) :
  addrG ps = if fd 58 pl < pl.length /\ routedG pl = true then (n, some (clT (pl.take (fd 58 pl))), some (bhG (pl.drop (fd 58 pl + 1)) (laG none 0 (pl.drop (fd 58 pl + 1)))).1, some (bhG (pl.drop (fd 58 pl + 1)) (laG none 0 (pl.drop (fd 58 pl + 1)))).2)
   else (n, none, some (bhG pl (laG none 0 pl)).1, some (bhG pl (laG none 0 pl)).2) := by
 have hpl : plG ps = if fd 58 pl < pl.length /\ routedG pl = true then (n, some (clT (pl.take (fd 58 pl))), pl.drop (fd 58 pl + 1)) else (n, none, pl) := by
  unfold plG
  rw [if_pos h60, <- hn, <- hpl]
 unfold addrG
 rw [hpl]
 by_cases hc : fd 58 pl < pl.length /\ routedG pl = true
 ·rw [if_pos hc, if_pos hc]
 ·rw [if_neg hc, if_neg hc]
theorem rAddr_eq (ps : List Pc) (g : Gd ps) (κ : K8 R) : postbagref5_address_0 (ps.map rpAV) κ = k8 κ (addrG ps) := by
 have hlen := g.len
 have key : ∀ F, 2 * ps.length + 2 < F -> postbagref5_address_0.e postbagref5_find_0 postbagref5_full_0 postbagref5_text_0 postbagref5_is_0 postbagref5_closed_0 (ps.map rpAV) (raL9 κ F) (raL11 κ F) (raL17 κ F) κ = k8 κ (addrG ps) := by
  intro F hF
  unfold postbagref5_address_0.e
  rw [show (60 : Int) = ((60 : UInt8).toNat : Int) from rfl, show (62 : Int) = ((62 : UInt8).toNat : Int) from rfl, rFd_eq ps g 60 rfl]
  simp only [List.length_map]
  have hfd := fd_le 60 ps
  by_cases h : fd 60 ps < ps.length
  ·have hc1 : cutA (ps.map rpAV) 0 (fd 60 ps : Int) = (ps.take (fd 60 ps)).map rpAV := cutR ps 0 _
   have hw1 : IntKind.wrap .i64 ((fd 60 ps : Int) + 1) = ((fd 60 ps + 1 : Nat) : Int) := wrap_i64 (by omega) (by omega)
   have hc2 : cutA (ps.map rpAV) ((fd 60 ps + 1 : Nat) : Int) (ps.length : Int) = (ps.drop (fd 60 ps + 1)).map rpAV := by rw [cutR, List.take_length]
   have hrl : (ps.drop (fd 60 ps + 1)).length = ps.length - (fd 60 ps + 1) := List.length_drop
   have gr := g.drop (fd 60 ps + 1)
   have ha := fun n hn => addrG_pl ps h n hn _ rfl
   simp (disch := omega) only [cond_dec, chk_and, chk_dec, hc1, hw1, hc2, List.length_map]
   generalize ps.drop (fd 60 ps + 1) = r at *
   have hfr := fd_le 62 r
   have hc3 : cutA (r.map rpAV) 0 (fd 62 r : Int) = (r.take (fd 62 r)).map rpAV := cutR r 0 _
   have hpl : (r.take (fd 62 r)).length <= ps.length := by rw [List.length_take]; omega
   rw [rFull_eq _ (g.take _)]
   cases hh : heldG (ps.take (fd 60 ps)) with
   | true =>
    simp only [cond_true]
    rw [rText_eq _ (g.take _)]
    simp only [ris]
    rw [rFd_eq r gr 62 rfl]
    simp (disch := omega) only [chk_dec, hc3]
    exact ra9 (r.take (fd 62 r)) (gr.take _) κ (some (txG false false (ps.take (fd 60 ps)))) true _ rfl rfl _ _ _ _ _ _ _ _ _ _ _ _ _ (ha _ (by rw [hh]; rfl)) F 0 (by omega) (by omega) rfl
   | false =>
    simp only [cond_false]
    rw [rFd_eq r gr 62 rfl]
    simp (disch := omega) only [chk_dec, hc3]
    exact ra9 (r.take (fd 62 r)) (gr.take _) κ none false (⟨#[]⟩ : ByteArray) rfl rfl _ _ _ _ _ _ _ _ _ _ _ _ _ (ha _ (by rw [hh]; rfl)) F 0 (by omega) (by omega) rfl
  ·rw [cond_dec' (by omega)]
   have : addrG ps = (none, none, some (bhG ps (laG none 0 ps)).1, some (bhG ps (laG none 0 ps)).2) := by
    unfold addrG plG
    rw [if_neg h]
   rw [this]
   exact ra17' ps g κ F (by omega) none none false (⟨#[]⟩ : ByteArray) false (⟨#[]⟩ : ByteArray) rfl rfl rfl rfl _ _ _ _ _ _ _ _ _ _ _ _
 exact key fuelK (by unfold fuelK; omega)
end Go.Proofs.Ab
namespace Go.Proofs.Ab
set_option linter.unusedVariables false
set_option maxRecDepth 4000
open Go
variable {R : Type}
def adAV (a : Adr) : AV := .agg [.bool a.1.isSome, .str (B (a.1.getD [])), .bool a.2.1.isSome, .str (B (a.2.1.getD [])), .bool a.2.2.1.isSome, .str (B (a.2.2.1.getD [])), .bool a.2.2.2.isSome, .str (B (a.2.2.2.getD []))]
def eo : Adr := (none, none, none, none)
def grp (t : List UInt8) : Adr := (none, none, some t, none)
def sgn (l : List Pc) : Pc := (l[ptG l]?).getD (0, [])
def rowA (row : List Pc) : List Adr := if heldG row = true then [addrG row] else []
def adsG : Bool -> List Pc -> List Adr
 | g, [] => if g = true then [eo] else []
 | g, p :: r =>
  if ptG (p :: r) < (p :: r).length then
   if isS 58 (sgn (p :: r)) = true /\ g = false then grp (txG false false ((p :: r).take (ptG (p :: r)))) :: adsG true ((p :: r).drop (ptG (p :: r) + 1))
   else rowA ((p :: r).take (ptG (p :: r))) ++ (if isS 59 (sgn (p :: r)) = true /\ g = true then eo :: adsG false ((p :: r).drop (ptG (p :: r) + 1)) else adsG g ((p :: r).drop (ptG (p :: r) + 1)))
  else rowA ((p :: r).take (ptG (p :: r))) ++ (if g = true then [eo] else [])
termination_by _ l => l.length
decreasing_by
 all_goals
  rw [List.length_drop]; simp only [List.length_cons]; omega
theorem adsG_nil (g : Bool) : adsG g [] = if g = true then [eo] else [] := by rw [adsG]
theorem adsG_cons (g : Bool) (l : List Pc) (hl : l ≠ []) : adsG g l =
  if ptG l < l.length then
   if isS 58 (sgn l) = true /\ g = false then grp (txG false false (l.take (ptG l))) :: adsG true (l.drop (ptG l + 1))
   else rowA (l.take (ptG l)) ++ (if isS 59 (sgn l) = true /\ g = true then eo :: adsG false (l.drop (ptG l + 1)) else adsG g (l.drop (ptG l + 1)))
  else rowA (l.take (ptG l)) ++ (if g = true then [eo] else []) := by
 cases l with
 | nil => exact absurd rfl hl
 | cons p r => rw [adsG]
theorem adsG_any (g : Bool) (l : List Pc) : adsG g l =
  if ptG l < l.length then
   if isS 58 (sgn l) = true /\ g = false then grp (txG false false (l.take (ptG l))) :: adsG true (l.drop (ptG l + 1))
   else rowA (l.take (ptG l)) ++ (if isS 59 (sgn l) = true /\ g = true then eo :: adsG false (l.drop (ptG l + 1)) else adsG g (l.drop (ptG l + 1)))
  else rowA (l.take (ptG l)) ++ (if g = true then [eo] else []) := by
 cases l with
 | nil => rw [adsG_nil, ptG_nil, if_neg (show ¬ (0 < ([] : List Pc).length) by simp)]; rfl
 | cons p r => exact adsG_cons g _ (by simp)
theorem sgn_at {l : List Pc} (h : ptG l < l.length) : l[ptG l]? = some (sgn l) /\ (isS 44 (sgn l) || isS 59 (sgn l) || isS 58 (sgn l)) = true := by
 obtain ⟨p, hp, hs⟩ := (ptG_at _ l (Nat.le_refl _)).2 h
 have : sgn l = p := by unfold sgn; rw [hp]; rfl
 rw [this]; exact ⟨hp, hs⟩
theorem sgn_kind {p : Pc} (h : (isS 44 p || isS 59 p || isS 58 p) = true) : p.1 = 3 /\ p.2 ≠ [] := by
 unfold isS at h
 rw [Bool.or_eq_true, Bool.or_eq_true, Bool.and_eq_true, Bool.and_eq_true, Bool.and_eq_true] at h
 rcases h with (⟨h1, h2⟩ | ⟨h1, h2⟩) | ⟨h1, h2⟩ <;> · rw [beq_iff_eq] at h1 h2; exact ⟨h1, by rw [h2]; simp⟩
theorem sgn_dec {p : Pc} (h : (isS 44 p || isS 59 p || isS 58 p) = true) (c : UInt8) : decide (B p.2 = B [c]) = isS c p := by
 unfold isS
 rw [(sgn_kind h).1, Bool.eq_iff_iff, decide_eq_true_eq, B_inj]; simp
def take32 (l : List Adr) : List Adr := l.take 32
abbrev lAs5 (κ : List AV -> Option R) := letter_Addresses_0.L5 letter_pieces_0 letter_part_oi letter_text_ob letter_some_0 letter_held_o letter_address_o κ
abbrev lAs13 (κ : List AV -> Option R) := letter_Addresses_0.L13 letter_pieces_0 letter_part_oi letter_text_ob letter_some_0 letter_held_o letter_address_o κ
theorem lAs5_succ (κ : List AV -> Option R) (f : Nat) (g : Bool) (i : Int) (a b : List AV) : lAs5 κ (f + 1) g i a b = letter_Addresses_0.t5 letter_pieces_0 letter_part_oi letter_text_ob letter_some_0 letter_held_o letter_address_o g i a b (lAs5 κ f) (lAs13 κ f) κ := by
 unfold lAs5 lAs13 letter_Addresses_0.L5 letter_Addresses_0.L13
 rw [letter_Addresses_0.M5]
theorem lAs13_succ (κ : List AV -> Option R) (f : Nat) (g : Bool) (i : Int) (s : ByteArray) (a b : List AV) : lAs13 κ (f + 1) g i s a b = letter_Addresses_0.t13 letter_pieces_0 letter_part_oi letter_text_ob letter_some_0 letter_held_o letter_address_o g i s a b (lAs5 κ f) (lAs13 κ f) κ := by
 unfold lAs5 lAs13 letter_Addresses_0.L5 letter_Addresses_0.L13
 rw [letter_Addresses_0.M5]
theorem adAV_snoc (out : List Adr) (a : Adr) : out.map adAV ++ [adAV a] = (out ++ [a]).map adAV := by simp
theorem lSome (a : ByteArray) (k : Bool -> ByteArray -> Option R) : letter_some_0 a k = k true a := by
 unfold letter_some_0 letter_some_0.e
 exact Eq.refl _
theorem lAs13_at (κ : List AV -> Option R) (f : Nat) (g : Bool) (i : Nat) (hi : i <= 1000000) (e : List UInt8) (out : List Adr) (ho : out.length <= 3000000) (b : List AV) :
  lAs13 κ (f + 1) g (i : Int) (B e) (out.map adAV) b = if g = true /\ (e = [59] ∨ e = []) then lAs5 κ f false ((i + 1 : Nat) : Int) ((out ++ [eo]).map adAV) b else lAs5 κ f g ((i + 1 : Nat) : Int) (out.map adAV) b := by
 have hw1 : IntKind.wrap .i64 ((i : Int) + 1) = ((i + 1 : Nat) : Int) := wrap_i64 (by omega) (by omega)
 have hom : (out.map adAV).length = out.length := List.length_map ..
 rw [lAs13_succ, letter_Addresses_0.t13, hw1]
 have heo : AV.agg [AV.bool false, AV.str (⟨#[]⟩ : ByteArray), AV.bool false, AV.str (⟨#[]⟩ : ByteArray), AV.bool false, AV.str (⟨#[]⟩ : ByteArray), AV.bool false, AV.str (⟨#[]⟩ : ByteArray)] = adAV eo := rfl
 rw [heo, adAV_snoc]
 cases g with
 | false => simp
 | true =>
  simp only [cond_true, true_and]
  rw [chk_dec (by omega)]
  by_cases h1 : e = [59]
  ·rw [cond_dec (show B e = (⟨#[59]⟩ : ByteArray) by rw [h1]; rfl), if_pos (Or.inl h1)]
  ·rw [cond_dec' (show ¬ B e = (⟨#[59]⟩ : ByteArray) from fun h => h1 (B_inj.1 h))]
   by_cases h2 : e = []
   ·rw [cond_dec (show B e = (⟨#[]⟩ : ByteArray) by rw [h2]; rfl), if_pos (Or.inr h2)]
   ·rw [cond_dec' (show ¬ B e = (⟨#[]⟩ : ByteArray) from fun h => h2 (B_inj.1 h)), if_neg (by rintro (h | h); exact h1 h; exact h2 h)]
theorem lAs_end (out : List Adr) (ho : out.length <= 3000000) (κ : List AV -> Option R) :
  (bif (decide (((out.map adAV).length : Int) > (32 : Int))) then (chk (decide ((32 : Int) <= ((out.map adAV).length : Int))) (chk (decide ((0 + (cutA (out.map adAV) 0 32).length) * 96 <= 140737488355328)) (κ (cutA (out.map adAV) 0 32)))) else (κ (out.map adAV))) = κ ((take32 out).map adAV) := by
 have hom : (out.map adAV).length = out.length := List.length_map ..
 have hc : cutA (out.map adAV) 0 32 = (out.take 32).map adAV := by unfold cutA; rw [List.map_take]; rfl
 unfold take32
 by_cases h : 32 < out.length
 ·have hl : ((out.take 32).map adAV).length = 32 := by rw [List.length_map, List.length_take]; omega
  rw [cond_dec (by omega), hc, chk_dec (by omega), chk_dec (by omega)]
 ·rw [cond_dec' (by omega), List.take_of_length_le (by omega)]
theorem lAs_loop (ps : List Pc) (gd : Gd ps) (κ : List AV -> Option R) : ∀ (f i : Nat) (g : Bool) (out : List Adr), i <= ps.length + 1 -> 2 * ps.length + 6 < 2 * i + f -> out.length <= 2 * i -> (i = ps.length + 1 -> g = false) ->
  lAs5 κ f g (i : Int) (out.map adAV) (ps.map lpAV) = κ ((take32 (out ++ if i <= ps.length then adsG g (ps.drop i) else [])).map adAV)
 | 0, i, g, out, h1, h2, h3, h4 => by omega
 | 1, i, g, out, h1, h2, h3, h4 => by omega
 | f + 2, i, g, out, h1, h2, h3, h4 => by
  have hn := gd.len
  rw [lAs5_succ, letter_Addresses_0.t5]
  simp only [lAs_end out (by omega)]
  have hlm : (ps.map lpAV).length = ps.length := List.length_map ..
  have hom : (out.map adAV).length = out.length := List.length_map ..
  simp only [hlm]
  by_cases hi : i <= ps.length
  ·rw [cond_dec (by omega), if_pos hi, lPart_eq ps gd i hi, adsG_any]
   obtain ⟨b1, b2⟩ := ptG_at _ (ps.drop i) (Nat.le_refl _)
   have gl := gd.drop i
   have hll : (ps.drop i).length = ps.length - i := List.length_drop
   have hcut : cutA (ps.map lpAV) (i : Int) ((i + ptG (ps.drop i) : Nat) : Int) = ((ps.drop i).take (ptG (ps.drop i))).map lpAV := by
    rw [cutL, List.drop_take]; congr 2; omega
   have hdd : ∀ k, ps.drop (i + k) = (ps.drop i).drop k := fun k => by rw [List.drop_drop]
   have gr := gl.take (ptG (ps.drop i))
   have sg := @sgn_at (ps.drop i)
   have hw1 : IntKind.wrap .i64 (((i + ptG (ps.drop i) : Nat) : Int) + 1) = ((i + ptG (ps.drop i) + 1 : Nat) : Int) := wrap_i64 (by omega) (by omega)
   -- where a row is told of, and the sign behind it
   have row : ∀ (e : List UInt8) (z : List Adr), (e = [] ∨ e = (sgn (ps.drop i)).2) ->
     (∀ out' : List Adr, out'.length <= 2 * i + 1 -> (if g = true /\ (e = [59] ∨ e = []) then lAs5 κ f false ((i + ptG (ps.drop i) + 1 : Nat) : Int) ((out' ++ [eo]).map adAV) (ps.map lpAV) else lAs5 κ f g ((i + ptG (ps.drop i) + 1 : Nat) : Int) (out'.map adAV) (ps.map lpAV)) = κ ((take32 (out' ++ z)).map adAV)) ->
     (letter_held_o (((ps.drop i).take (ptG (ps.drop i))).map lpAV) (fun r351 => (bif r351 then (letter_address_o (((ps.drop i).take (ptG (ps.drop i))).map lpAV) (fun r352 r353 r354 r355 r356 r357 r358 r359 => (chk (decide ((out.length + 1) * 96 <= 140737488355328)) (lAs13 κ (f + 1) g ((i + ptG (ps.drop i) : Nat) : Int) (B e) (out.map adAV ++ [AV.agg [AV.bool r352, AV.str r353, AV.bool r354, AV.str r355, AV.bool r356, AV.str r357, AV.bool r358, AV.str r359]]) (ps.map lpAV))))) else (lAs13 κ (f + 1) g ((i + ptG (ps.drop i) : Nat) : Int) (B e) (out.map adAV) (ps.map lpAV)))))
      = κ ((take32 (out ++ (rowA ((ps.drop i).take (ptG (ps.drop i))) ++ z))).map adAV) := by
    intro e z _ hz
    rw [lHeld_eq _ gr]
    unfold rowA
    cases hh : heldG ((ps.drop i).take (ptG (ps.drop i))) with
    | true =>
     simp only [cond_true, if_true]
     rw [lAddr_eq _ gr]
     unfold k8
     show (chk (decide ((out.length + 1) * 96 <= 140737488355328)) _) = _
     rw [chk_dec (by omega)]
     have : ∀ a : Adr, AV.agg [AV.bool a.1.isSome, AV.str (B (a.1.getD [])), AV.bool a.2.1.isSome, AV.str (B (a.2.1.getD [])), AV.bool a.2.2.1.isSome, AV.str (B (a.2.2.1.getD [])), AV.bool a.2.2.2.isSome, AV.str (B (a.2.2.2.getD []))] = adAV a := fun _ => rfl
     rw [this, adAV_snoc, lAs13_at κ f g _ (by omega) e _ (by simp; omega), hz _ (by simp; omega), List.append_assoc]
    | false =>
     simp only [cond_false, Bool.false_eq_true, if_false, List.nil_append]
     rw [lAs13_at κ f g _ (by omega) e _ (by omega), hz _ (by omega)]
   generalize hl : ps.drop i = l at *
   have next := fun (g' : Bool) (out' : List Adr) (h : out'.length <= 2 * (i + ptG l + 1)) (h5 : i + ptG l + 1 = ps.length + 1 -> g' = false) => lAs_loop ps gd κ f (i + ptG l + 1) g' out' (by omega) (by omega) h h5
   have nd : i + ptG l + 1 <= ps.length -> ps.drop (i + ptG l + 1) = l.drop (ptG l + 1) := fun _ => by rw [Nat.add_assoc, hdd]
   by_cases hp : ptG l < l.length
   ·obtain ⟨s1, s2⟩ := sg hp
    rw [cond_dec (by omega), if_pos hp]
    have hget : ps[i + ptG l]? = some (sgn l) := by rw [<- s1, <- hl, List.getElem?_drop]
    simp only [lpA ps _ _ hget, lp1, hcut, hw1]
    rw [chk_and, chk_dec (by omega), chk_dec (by omega), chk_and, chk_dec (by omega), chk_and, chk_dec (by omega), chk_dec (by omega)]
    rw [show (⟨#[58]⟩ : ByteArray) = B [58] from rfl, sgn_dec s2 58]
    have nx : ∀ out' : List Adr, out'.length <= 2 * i + 1 -> (if g = true /\ ((sgn l).2 = [59] ∨ (sgn l).2 = []) then lAs5 κ f false ((i + ptG l + 1 : Nat) : Int) ((out' ++ [eo]).map adAV) (ps.map lpAV) else lAs5 κ f g ((i + ptG l + 1 : Nat) : Int) (out'.map adAV) (ps.map lpAV)) = κ ((take32 (out' ++ if isS 59 (sgn l) = true /\ g = true then eo :: adsG false (l.drop (ptG l + 1)) else adsG g (l.drop (ptG l + 1)))).map adAV) := by
     intro out' ho'
     have h59 : ((sgn l).2 = [59] ∨ (sgn l).2 = []) ↔ isS 59 (sgn l) = true := by
      rw [<- sgn_dec s2 59, decide_eq_true_eq, B_inj]
      exact ⟨fun h => h.resolve_right (sgn_kind s2).2, Or.inl⟩
     by_cases hc : g = true /\ isS 59 (sgn l) = true
     ·rw [if_pos ⟨hc.1, h59.2 hc.2⟩, if_pos ⟨hc.2, hc.1⟩, next false _ (by simp; omega) (fun _ => rfl), if_pos (by omega), nd (by omega)]
      simp
     ·rw [if_neg (fun h => hc ⟨h.1, h59.1 h.2⟩), if_neg (fun h => hc ⟨h.2, h.1⟩), next g _ (by omega) (fun h => by omega), if_pos (by omega), nd (by omega)]
    cases h58 : isS 58 (sgn l) with
    | true =>
     simp only [cond_true]
     cases g with
     | false =>
      simp only [Bool.not_false, cond_true, true_and, if_true]
      rw [lTx_eq _ gr]
      simp only [lSome]
      rw [hom, chk_dec (by omega)]
      have : AV.agg [AV.bool false, AV.str (⟨#[]⟩ : ByteArray), AV.bool false, AV.str (⟨#[]⟩ : ByteArray), AV.bool true, AV.str (B (txG false false (l.take (ptG l)))), AV.bool false, AV.str (⟨#[]⟩ : ByteArray)] = adAV (grp (txG false false (l.take (ptG l)))) := rfl
      have nx2 := lAs_loop ps gd κ (f + 1) (i + ptG l + 1) true (out ++ [grp (txG false false (l.take (ptG l)))]) (by omega) (by omega) (by simp; omega) (fun h => by omega)
      rw [this, adAV_snoc, nx2, if_pos (by omega), nd (by omega)]
      simp
     | true =>
      simp only [Bool.not_true, cond_false, hom]
      rw [row (sgn l).2 _ (Or.inr rfl) nx]
      simp
    | false =>
     simp only [cond_false, hom]
     rw [row (sgn l).2 _ (Or.inr rfl) nx]
     simp
   ·rw [cond_dec' (by omega), if_neg hp, hcut]
    rw [chk_and, chk_dec (by omega), chk_and, chk_dec (by omega), chk_dec (by omega)]
    rw [show decide ((⟨#[]⟩ : ByteArray) = (⟨#[58]⟩ : ByteArray)) = false from by decide]
    simp only [cond_false, hom]
    refine row [] _ (Or.inl rfl) ?_
    intro out' ho'
    have hx : i + ptG l + 1 = ps.length + 1 := by omega
    cases g with
    | true =>
     rw [if_pos ⟨rfl, Or.inr rfl⟩, next false _ (by simp; omega) (fun _ => rfl), if_neg (by omega)]
     simp
    | false =>
     rw [if_neg (by simp), next false _ (by omega) (fun _ => rfl), if_neg (by omega)]
     simp
  ·rw [cond_dec' (by omega), if_neg hi]
   simp
theorem lAs_eq (s : List UInt8) (hs : s.length <= 400000) (κ : List AV -> Option R) : letter_Addresses_0 (B s) κ = κ ((take32 (adsG false (pcs s))).map adAV) := by
 have hp := pcs_tl s.length s (Nat.le_refl _)
 have gd : Gd (pcs s) := ⟨pcs_ok s.length s (Nat.le_refl _), by omega, by omega⟩
 have key : ∀ f, 2 * s.length + 6 < f -> letter_Addresses_0.e letter_pieces_0 letter_part_oi letter_text_ob letter_some_0 letter_held_o letter_address_o (B s) (lAs5 κ f) (lAs13 κ f) κ = κ ((take32 (adsG false (pcs s))).map adAV) := by
  intro f hf
  unfold letter_Addresses_0.e
  rw [lPieces_eq s (by omega)]
  have := lAs_loop (pcs s) gd κ f 0 false [] (by omega) (by omega) (by simp) (fun _ => rfl)
  rw [if_pos (by omega)] at this
  exact this
 exact key fuelK (by unfold fuelK; omega)
end Go.Proofs.Ab
namespace Go.Proofs.Ab
set_option linter.unusedVariables false
set_option maxRecDepth 4000
open Go
variable {R : Type}
abbrev rAs4 (κ κ1 : List AV -> Option R) := postbagref5_Addresses_0.L4 postbagref5_pieces_0 postbagref5_part_0 postbagref5_text_0 postbagref5_is_0 postbagref5_full_0 postbagref5_address_0 κ κ1
abbrev rAs17 (κ κ1 : List AV -> Option R) := postbagref5_Addresses_0.L17 postbagref5_pieces_0 postbagref5_part_0 postbagref5_text_0 postbagref5_is_0 postbagref5_full_0 postbagref5_address_0 κ κ1
abbrev rAs23 (κ κ1 : List AV -> Option R) := postbagref5_Addresses_0.L23 postbagref5_pieces_0 postbagref5_part_0 postbagref5_text_0 postbagref5_is_0 postbagref5_full_0 postbagref5_address_0 κ κ1
theorem rAs4_succ (κ κ1 : List AV -> Option R) (f : Nat) (g : Bool) (a b : List AV) : rAs4 κ κ1 (f + 1) g a b = postbagref5_Addresses_0.t4 postbagref5_pieces_0 postbagref5_part_0 postbagref5_text_0 postbagref5_is_0 postbagref5_full_0 postbagref5_address_0 g a b (rAs4 κ κ1 f) (rAs17 κ κ1 f) (rAs23 κ κ1 f) κ κ1 := by
 unfold rAs4 rAs17 postbagref5_Addresses_0.L4 postbagref5_Addresses_0.L17
 rw [postbagref5_Addresses_0.M4]
theorem rAs17_succ (κ κ1 : List AV -> Option R) (f : Nat) (g : Bool) (a : List AV) (x : Int) (b : List AV) : rAs17 κ κ1 (f + 1) g a x b = postbagref5_Addresses_0.t17 postbagref5_pieces_0 postbagref5_part_0 postbagref5_text_0 postbagref5_is_0 postbagref5_full_0 postbagref5_address_0 g a x b (rAs4 κ κ1 f) (rAs17 κ κ1 f) (fun _ => none) κ κ1 := by
 unfold rAs4 rAs17 postbagref5_Addresses_0.L4 postbagref5_Addresses_0.L17
 rw [postbagref5_Addresses_0.M4]
def kk3 (κ κ1 : List AV -> Option R) (out : List Adr) : Option R := if 32 < out.length then κ1 ((take32 out).map adAV) else κ (out.map adAV)
theorem rAs_end (out : List Adr) (hn : out.length <= 3000000) (κ κ1 : List AV -> Option R) (f : Nat) :
  (bif (decide (((out.map adAV).length : Int) > (32 : Int))) then rAs23 κ κ1 (f + 1) (out.map adAV) else κ (out.map adAV)) = kk3 κ κ1 out := by
 have hom : (out.map adAV).length = out.length := List.length_map ..
 have hc : cutA (out.map adAV) 0 32 = (out.take 32).map adAV := by unfold cutA; rw [List.map_take]; rfl
 unfold kk3
 by_cases h : 32 < out.length
 ·rw [cond_dec (by omega), if_pos h]
  unfold rAs23 take32
  rw [postbagref5_Addresses_0.L23, postbagref5_Addresses_0.t23, hc, chk_dec (by omega)]
 ·rw [cond_dec' (by omega), if_neg h]
theorem rAs17_at (κ κ1 : List AV -> Option R) (f : Nat) (g : Bool) (x : Int) (e : Bool) (he : (x == 59) = e) (out : List Adr) (ho : out.length <= 3000000) (a : List AV) :
  rAs17 κ κ1 (f + 1) g a x (out.map adAV) = if e = true /\ g = true then rAs4 κ κ1 f false a ((out ++ [eo]).map adAV) else rAs4 κ κ1 f g a (out.map adAV) := by
 have hom : (out.map adAV).length = out.length := List.length_map ..
 rw [rAs17_succ, postbagref5_Addresses_0.t17, he]
 have heo : AV.agg [AV.bool false, AV.str (⟨#[]⟩ : ByteArray), AV.bool false, AV.str (⟨#[]⟩ : ByteArray), AV.bool false, AV.str (⟨#[]⟩ : ByteArray), AV.bool false, AV.str (⟨#[]⟩ : ByteArray)] = adAV eo := rfl
 rw [heo, adAV_snoc, chk_dec (by omega)]
 cases e <;> cases g <;> simp
theorem rAs_loop (κ κ1 : List AV -> Option R) : ∀ (f : Nat) (l : List Pc) (g : Bool) (out : List Adr), Gd l -> 2 * l.length + 4 < f -> out.length + 2 * l.length <= 2000000 ->
  rAs4 κ κ1 f g (l.map rpAV) (out.map adAV) = kk3 κ κ1 (out ++ adsG g l)
 | 0, l, g, out, h1, h2, h3 => by omega
 | 1, l, g, out, h1, h2, h3 => by omega
 | f + 2, l, g, out, gd, h2, h3 => by
  have hn := gd.len
  have heo : AV.agg [AV.bool false, AV.str (⟨#[]⟩ : ByteArray), AV.bool false, AV.str (⟨#[]⟩ : ByteArray), AV.bool false, AV.str (⟨#[]⟩ : ByteArray), AV.bool false, AV.str (⟨#[]⟩ : ByteArray)] = adAV eo := rfl
  have hlm : (l.map rpAV).length = l.length := List.length_map ..
  have hom : (out.map adAV).length = out.length := List.length_map ..
  rw [rAs4_succ, postbagref5_Addresses_0.t4, heo, adAV_snoc, rAs_end out (by omega), rAs_end (out ++ [eo]) (by simp; omega)]
  simp only [hlm, hom]
  by_cases h0 : l = []
  ·subst h0
   rw [cond_dec' (by simp), adsG_nil, chk_dec (by omega)]
   cases g <;> simp
  ·have hpos : 0 < l.length := List.length_pos_iff.2 h0
   rw [cond_dec (by omega), rPart_eq l gd, adsG_any]
   obtain ⟨b1, b2⟩ := ptG_at _ l (Nat.le_refl _)
   have gr := gd.take (ptG l)
   have gn := gd.drop (ptG l + 1)
   have hdl : (l.drop (ptG l + 1)).length = l.length - (ptG l + 1) := List.length_drop
   have hcut : cutA (l.map rpAV) 0 (ptG l : Int) = (l.take (ptG l)).map rpAV := cutR l 0 _
   have hw1 : IntKind.wrap .i64 ((ptG l : Int) + 1) = ((ptG l + 1 : Nat) : Int) := wrap_i64 (by omega) (by omega)
   have hcr : ∀ k : Nat, cutA (l.map rpAV) (k : Int) (l.length : Int) = (l.drop k).map rpAV := fun k => by rw [cutR, List.take_length]
   -- a row is told of, and what is behind it
   have row : ∀ (x : Int) (e : Bool) (m : List Pc) (z : List Adr), (x == 59) = e ->
     (∀ out' : List Adr, out'.length <= out.length + 1 -> (if e = true /\ g = true then rAs4 κ κ1 f false (m.map rpAV) ((out' ++ [eo]).map adAV) else rAs4 κ κ1 f g (m.map rpAV) (out'.map adAV)) = kk3 κ κ1 (out' ++ z)) ->
     (postbagref5_full_0 ((l.take (ptG l)).map rpAV) (fun r983 => (bif r983 then (postbagref5_address_0 ((l.take (ptG l)).map rpAV) (fun r984 r985 r986 r987 r988 r989 r990 r991 => (chk (decide ((out.length + 1) * 96 <= 140737488355328)) (rAs17 κ κ1 (f + 1) g (m.map rpAV) x (out.map adAV ++ [AV.agg [AV.bool r984, AV.str r985, AV.bool r986, AV.str r987, AV.bool r988, AV.str r989, AV.bool r990, AV.str r991]]))))) else (rAs17 κ κ1 (f + 1) g (m.map rpAV) x (out.map adAV)))))
      = kk3 κ κ1 (out ++ (rowA (l.take (ptG l)) ++ z)) := by
    intro x e m z he hz
    rw [rFull_eq _ gr]
    unfold rowA
    cases hh : heldG (l.take (ptG l)) with
    | true =>
     simp only [cond_true, if_true]
     rw [rAddr_eq _ gr]
     unfold k8
     show (chk (decide ((out.length + 1) * 96 <= 140737488355328)) _) = _
     rw [chk_dec (by omega)]
     have : ∀ a : Adr, AV.agg [AV.bool a.1.isSome, AV.str (B (a.1.getD [])), AV.bool a.2.1.isSome, AV.str (B (a.2.1.getD [])), AV.bool a.2.2.1.isSome, AV.str (B (a.2.2.1.getD [])), AV.bool a.2.2.2.isSome, AV.str (B (a.2.2.2.getD []))] = adAV a := fun _ => rfl
     rw [this, adAV_snoc, rAs17_at κ κ1 f g x e he _ (by simp; omega), hz _ (by simp), List.append_assoc]
    | false =>
     simp only [cond_false, Bool.false_eq_true, if_false, List.nil_append]
     rw [rAs17_at κ κ1 f g x e he _ (by omega), hz _ (by omega)]
   rw [chk_and, chk_dec (by omega), chk_dec (by omega)]
   by_cases hp : ptG l < l.length
   ·obtain ⟨s1, s2⟩ := sgn_at hp
    have hok := gd.ok _ (List.mem_of_getElem? s1)
    have e59 : (rkind (sgn l) == 59) = isS 59 (sgn l) := rkind_is (sgn l) 59 hok rfl
    have e58 : (rkind (sgn l) == 58) = isS 58 (sgn l) := rkind_is (sgn l) 58 hok rfl
    rw [cond_dec (by omega), if_pos hp]
    simp only [rpA l _ _ s1, rp0, hw1, hcut, hcr]
    rw [chk_and, chk_dec (by omega), chk_dec (by omega), chk_and, chk_dec (by omega), chk_and, chk_dec (by omega), chk_dec (by omega), e58]
    have nx : ∀ out' : List Adr, out'.length <= out.length + 1 -> (if isS 59 (sgn l) = true /\ g = true then rAs4 κ κ1 f false ((l.drop (ptG l + 1)).map rpAV) ((out' ++ [eo]).map adAV) else rAs4 κ κ1 f g ((l.drop (ptG l + 1)).map rpAV) (out'.map adAV)) = kk3 κ κ1 (out' ++ if isS 59 (sgn l) = true /\ g = true then eo :: adsG false (l.drop (ptG l + 1)) else adsG g (l.drop (ptG l + 1))) := by
     intro out' ho'
     by_cases hc : isS 59 (sgn l) = true /\ g = true
     ·rw [if_pos hc, if_pos hc, rAs_loop κ κ1 f _ false _ gn (by omega) (by simp; omega)]
      simp
     ·rw [if_neg hc, if_neg hc, rAs_loop κ κ1 f _ g _ gn (by omega) (by omega)]
    cases h58 : isS 58 (sgn l) with
    | true =>
     simp only [cond_true]
     cases g with
     | false =>
      simp only [Bool.not_false, cond_true, true_and, if_true]
      rw [rText_eq _ gr]
      simp only [ris]
      rw [chk_dec (by omega)]
      have : AV.agg [AV.bool false, AV.str (⟨#[]⟩ : ByteArray), AV.bool false, AV.str (⟨#[]⟩ : ByteArray), AV.bool true, AV.str (B (txG false false (l.take (ptG l)))), AV.bool false, AV.str (⟨#[]⟩ : ByteArray)] = adAV (grp (txG false false (l.take (ptG l)))) := rfl
      rw [this, adAV_snoc, rAs_loop κ κ1 (f + 1) _ true _ gn (by omega) (by simp; omega)]
      simp
     | true =>
      simp only [Bool.not_true, cond_false]
      rw [row (rkind (sgn l)) (isS 59 (sgn l)) _ _ e59 nx]
      simp
    | false =>
     simp only [cond_false]
     rw [row (rkind (sgn l)) (isS 59 (sgn l)) _ _ e59 nx]
     simp
   ·rw [cond_dec' (by omega), if_neg hp]
    simp only [hcut, hcr]
    rw [chk_and, chk_dec (by omega), chk_and, chk_dec (by omega), chk_dec (by omega)]
    refine row 0 false (l.drop (ptG l)) _ rfl ?_
    intro out' ho'
    have hnil : l.drop (ptG l) = [] := List.drop_eq_nil_of_le (by omega)
    rw [if_neg (by simp), hnil, rAs_loop κ κ1 f [] g _ ⟨by simp, by simp, by simp [tl]⟩ (by simp; omega) (by simp; omega), adsG_nil]
theorem rAs_eq (s : List UInt8) (hs : s.length <= 400000) (κ κ1 : List AV -> Option R) : postbagref5_Addresses_0 (B s) κ κ1 = kk3 κ κ1 (adsG false (pcs s)) := by
 have hp := pcs_tl s.length s (Nat.le_refl _)
 have gd : Gd (pcs s) := ⟨pcs_ok s.length s (Nat.le_refl _), by omega, by omega⟩
 have key : ∀ f, 2 * s.length + 6 < f -> postbagref5_Addresses_0.e postbagref5_pieces_0 postbagref5_part_0 postbagref5_text_0 postbagref5_is_0 postbagref5_full_0 postbagref5_address_0 (B s) (rAs4 κ κ1 f) (rAs17 κ κ1 f) (rAs23 κ κ1 f) κ κ1 = kk3 κ κ1 (adsG false (pcs s)) := by
  intro f hf
  unfold postbagref5_Addresses_0.e
  rw [rPieces_eq s (by omega)]
  exact rAs_loop κ κ1 f (pcs s) false [] gd (by omega) (by simp; omega)
 exact key fuelK (by unfold fuelK; omega)
theorem adrr_same (l : List AV) (hl : l.length <= 1000000) (κ : Bool -> Option R) : ∀ (f i : Nat), i <= l.length -> l.length < i + f -> postbaglaw5_addresses_or.L4 κ f l l (i : Int) = κ true
 | 0, i, h1, h2 => by omega
 | f + 1, i, h1, h2 => by
  rw [postbaglaw5_addresses_or.L4, postbaglaw5_addresses_or.t4]
  by_cases h : i < l.length
  ·have hwi : IntKind.wrap .i64 ((i : Int) + 1) = ((i + 1 : Nat) : Int) := wrap_i64 (by omega) (by omega)
   simp (disch := omega) only [cond_dec, chk_and, chk_dec, hwi, decide_true, BEq.rfl, Bool.and_true, Bool.not_true, cond_false]
   exact adrr_same l hl κ f (i + 1) (by omega) (by omega)
  ·simp (disch := omega) only [cond_dec']
theorem adrr_eq (l : List AV) (hl : l.length <= 1000000) (κ : Bool -> Option R) : postbaglaw5_addresses_or l l κ = κ true := by
 have key : ∀ f, l.length < f -> postbaglaw5_addresses_or.e l l (postbaglaw5_addresses_or.L4 κ f) κ = κ true := by
  intro f hf
  unfold postbaglaw5_addresses_or.e
  rw [bne_neg rfl]
  exact adrr_same l hl κ f 0 (by omega) (by omega)
 exact key fuelK (by unfold fuelK; omega)
theorem kk3_at {κ κ1 : List AV -> Option R} {out : List Adr} {o : Option R} (h0 : κ ((take32 out).map adAV) = o) (h1 : κ1 ((take32 out).map adAV) = o) : kk3 κ κ1 out = o := by
 unfold kk3
 by_cases h : 32 < out.length
 ·rw [if_pos h, h1]
 ·have : take32 out = out := List.take_of_length_le (by omega)
  rw [if_neg h, <- h0, this]
end Go.Proofs.Ab
namespace Go.Proofs.Ab
set_option linter.unusedVariables false
set_option maxRecDepth 4000
open Go
variable {R : Type}
def lowC (c : UInt8) : UInt8 := if 65 <= c.toNat /\ c.toNat <= 90 then UInt8.ofNat (c.toNat + 32) else c
def lowL (l : List UInt8) : List UInt8 := l.map lowC
theorem lowC_up {c : UInt8} (h1 : 65 <= c.toNat) (h2 : c.toNat <= 90) : ((lowC c).toNat : Int) = (c.toNat : Int) + 32 := by
 unfold lowC
 rw [if_pos ⟨h1, h2⟩]
 simp; omega
theorem lowC_no {c : UInt8} (h : ¬ (65 <= c.toNat /\ c.toNat <= 90)) : lowC c = c := by unfold lowC; rw [if_neg h]
theorem lowL_len (l : List UInt8) : (lowL l).length = l.length := by unfold lowL; simp
theorem ints_get {l : List UInt8} {i : Nat} {c : UInt8} (h : l[i]? = some c) : (rdA (intsAV l) (i : Int)).i = (c.toNat : Int) := by
 rw [rdA_get (a := .int (c.toNat : Int)) (by unfold intsAV; rw [List.getElem?_map, h]; rfl)]; rfl
theorem ints_set (a : List UInt8) (c d : UInt8) (r : List UInt8) (n : Nat) (h : a.length = n) : setA (intsAV (a ++ c :: r)) (n : Int) (.int (d.toNat : Int)) = intsAV (a ++ d :: r) := by
 unfold intsAV
 rw [List.map_append, List.map_cons, setA_at _ _ _ _ n (by rw [List.length_map]; exact h)]
 simp
theorem oLower_loop (l : List UInt8) (hs : l.length <= 140737488355327) (κ : ByteArray -> Option R) : ∀ (f i : Nat), i <= l.length -> l.length < i + f ->
  octet_Lower_0.L3 κ f (l.length : Int) (i : Int) (intsAV (lowL (l.take i) ++ l.drop i)) = κ (B (lowL l))
 | 0, i, h1, h2 => by omega
 | f + 1, i, h1, h2 => by
  rw [octet_Lower_0.L3, octet_Lower_0.t3]
  have hla : (lowL (l.take i)).length = i := by rw [lowL_len, List.length_take]; omega
  have hll : (intsAV (lowL (l.take i) ++ l.drop i)).length = l.length := by rw [ints_len, List.length_append, hla, List.length_drop]; omega
  simp only [hll, strAV_ints]
  cases hd : l.drop i with
  | nil =>
   have := drop_nil hd
   rw [cond_dec' (by omega), List.append_nil, List.take_of_length_le (by omega)]
  | cons c r =>
   obtain ⟨g1, g2, g3⟩ := drop_get hd
   have hw1 : IntKind.wrap .i64 ((i : Int) + 1) = ((i + 1 : Nat) : Int) := wrap_i64 (by omega) (by omega)
   have hg : (rdA (intsAV (lowL (l.take i) ++ c :: r)) (i : Int)).i = (c.toNat : Int) := ints_get (by rw [List.getElem?_append_right (by omega), hla]; simp)
   simp only [hg, hw1]
   simp (disch := omega) only [cond_dec, chk_and, chk_dec]
   have hn := oLower_loop l hs κ f (i + 1) (by omega) (by omega)
   rw [g3] at hn
   have ht : lowL (l.take (i + 1)) ++ r = lowL (l.take i) ++ lowC c :: r := by rw [take_succ_get g1]; unfold lowL; simp
   rw [ht] at hn
   by_cases h1' : 65 <= c.toNat
   ·by_cases h2' : c.toNat <= 90
    ·have hu := lowC_up h1' h2'
     have hlt := byte_lt c
     have hw : IntKind.wrap .u8 ((IntKind.wrap .u8 ((c.toNat : Int) + 97)) - 65) = ((lowC c).toNat : Int) := by
      rw [wrap_u8 (x := (c.toNat : Int) + 97) (by omega) (by omega), wrap_u8 (by omega) (by omega), hu]; omega
     rw [cond_dec (by omega), cond_dec (by omega), hw, ints_set _ _ _ _ _ hla]
     exact hn
    ·rw [lowC_no (by omega)] at hn
     rw [cond_dec (by omega), cond_dec' (by omega)]
     exact hn
   ·rw [lowC_no (by omega)] at hn
    rw [cond_dec' (by omega)]
    exact hn
theorem oLower_eq (l : List UInt8) (hs : l.length <= 140737488355327) (κ : ByteArray -> Option R) : octet_Lower_0 (B l) κ = κ (B (lowL l)) := by
 have key : ∀ f, l.length < f -> octet_Lower_0.e (B l) (octet_Lower_0.L3 κ f) κ = κ (B (lowL l)) := by
  intro f hf
  unfold octet_Lower_0.e
  rw [size_B, chk_dec (by omega), bytesB', ints_len]
  exact oLower_loop l hs κ f 0 (by omega) (by omega)
 exact key fuelK (by unfold fuelK; omega)
theorem rLower_loop (l : List UInt8) (hs : l.length <= 140737488355327) (κ : ByteArray -> Option R) : ∀ (f i : Nat), i <= l.length -> l.length < i + f ->
  postbagref1_Lower_0.L3 κ f (B l) (i : Int) (intsAV (lowL (l.take i))) = κ (B (lowL l))
 | 0, i, h1, h2 => by omega
 | f + 1, i, h1, h2 => by
  rw [postbagref1_Lower_0.L3, postbagref1_Lower_0.t3]
  have hla : (intsAV (lowL (l.take i))).length = i := by rw [ints_len, lowL_len, List.length_take]; omega
  simp only [hla, size_B, strAV_ints]
  cases hd : l.drop i with
  | nil =>
   have := drop_nil hd
   rw [cond_dec' (by omega), List.take_of_length_le (by omega)]
  | cons c r =>
   obtain ⟨g1, g2, g3⟩ := drop_get hd
   have hw1 : IntKind.wrap .i64 ((i : Int) + 1) = ((i + 1 : Nat) : Int) := wrap_i64 (by omega) (by omega)
   simp only [hw1, btB g1]
   simp (disch := omega) only [cond_dec, chk_and, chk_dec]
   have hn := rLower_loop l hs κ f (i + 1) (by omega) (by omega)
   have ht : lowL (l.take (i + 1)) = lowL (l.take i) ++ [lowC c] := by rw [take_succ_get g1]; unfold lowL; simp
   rw [ht, <- ints_snoc] at hn
   by_cases h1' : 65 <= c.toNat
   ·by_cases h2' : c.toNat <= 90
    ·have hu := lowC_up h1' h2'
     have hlt := byte_lt c
     have hw : IntKind.wrap .u8 ((c.toNat : Int) + 32) = ((lowC c).toNat : Int) := by rw [wrap_u8 (by omega) (by omega), hu]
     rw [cond_dec (by omega), cond_dec (by omega), hw]
     exact hn
    ·rw [lowC_no (by omega)] at hn
     rw [cond_dec (by omega), cond_dec' (by omega)]
     exact hn
   ·rw [lowC_no (by omega)] at hn
    rw [cond_dec' (by omega)]
    exact hn
theorem rLower_eq (l : List UInt8) (hs : l.length <= 140737488355327) (κ : ByteArray -> Option R) : postbagref1_Lower_0 (B l) κ = κ (B (lowL l)) := by
 have key : ∀ f, l.length < f -> postbagref1_Lower_0.e (B l) (postbagref1_Lower_0.L3 κ f) κ = κ (B (lowL l)) :=
  fun f hf => rLower_loop l hs κ f 0 (by omega) (by omega)
 exact key fuelK (by unfold fuelK; omega)
end Go.Proofs.Ab
namespace Go.Proofs.Ab
set_option linter.unusedVariables false
set_option maxRecDepth 4000
open Go
variable {R : Type}
abbrev NB : Nat := 140737488351232
theorem lSameB (a b : ByteArray) (ha : a.size <= NB) (hb : b.size <= NB) (κ : Bool -> Option R) : octet_Same_0 a b κ = κ (decide (lowL (bl a) = lowL (bl b))) := by
 have h1 := size_bl a
 have h2 := size_bl b
 unfold NB at ha hb
 unfold octet_Same_0 octet_Same_0.e
 conv => lhs; rw [<- B_bl a, <- B_bl b, oLower_eq _ (by omega), oLower_eq _ (by omega)]
 exact congrArg κ (decide_eq_decide.2 B_inj)
theorem rSameB (a b : ByteArray) (ha : a.size <= NB) (hb : b.size <= NB) (κ : Bool -> Option R) : postbagref1_Same_0 a b κ = κ (decide (lowL (bl a) = lowL (bl b))) := by
 have h1 := size_bl a
 have h2 := size_bl b
 unfold NB at ha hb
 unfold postbagref1_Same_0 postbagref1_Same_0.e
 conv => lhs; rw [<- B_bl a, <- B_bl b, rLower_eq _ (by omega), rLower_eq _ (by omega)]
 exact congrArg κ (decide_eq_decide.2 B_inj)
end Go.Proofs.Ab
namespace Go.Proofs.Ab
set_option linter.unusedVariables false
set_option maxRecDepth 4000
open Go
variable {R : Type}
def getL (name : ByteArray) : List AV -> Option ByteArray
 | [] => none
 | a :: r => if lowL (bl (a.fld 0).s) = lowL (bl name) then some (a.fld 1).s else getL name r
def kGet (κ : Bool -> ByteArray -> Option R) (o : Option ByteArray) : Option R := κ o.isSome (o.getD (B []))
theorem rd_get {l : List AV} {i : Nat} {a : AV} {r : List AV} (h : l.drop i = a :: r) : rdA l (i : Int) = a := rdA_drop h
theorem lGet_loop (name : ByteArray) (hn : name.size <= NB) (l : List AV) (hl : l.length <= 1000000) (hf : ∀ a ∈ l, Fit NB a) (κ : Bool -> ByteArray -> Option R) (x4 : Bool) (x5 : ByteArray) : ∀ (f i : Nat), i <= l.length -> l.length < i + f ->
  letter_Get_os.L2 octet_Same_0 κ f name l (l.length : Int) (i : Int) x4 x5 = kGet κ (getL name (l.drop i))
 | 0, i, h1, h2 => by omega
 | f + 1, i, h1, h2 => by
  rw [letter_Get_os.L2, letter_Get_os.t2, empty_B]
  have hw1 : IntKind.wrap .i64 ((i : Int) + 1) = ((i + 1 : Nat) : Int) := wrap_i64 (by omega) (by omega)
  cases hd : l.drop i with
  | nil =>
   have := drop_nil hd
   rw [cond_dec' (by omega)]; rfl
  | cons a r =>
   obtain ⟨g1, g2, g3⟩ := drop_get hd
   have ha := hf a (List.mem_of_getElem? g1)
   rw [cond_dec (by omega), chk_and, chk_dec (by omega), chk_dec (by omega), rd_get hd, lSameB _ _ (ha.fld 0).s hn, hw1, lGet_loop name hn l hl hf κ x4 x5 f (i + 1) (by omega) (by omega), g3, getL]
   by_cases e : lowL (bl (a.fld 0).s) = lowL (bl name)
   ·rw [decide_eq_true e, if_pos e]; rfl
   ·rw [decide_eq_false e, if_neg e]; rfl
theorem lGet_eq (name : ByteArray) (hn : name.size <= NB) (l : List AV) (hl : l.length <= 1000000) (hf : ∀ a ∈ l, Fit NB a) (κ : Bool -> ByteArray -> Option R) : letter_Get_os l name κ = kGet κ (getL name l) := by
 have key : ∀ f, l.length < f -> letter_Get_os.e octet_Same_0 l name (letter_Get_os.L2 octet_Same_0 κ f) κ = kGet κ (getL name l) :=
  fun f h => lGet_loop name hn l hl hf κ false _ f 0 (by omega) (by omega)
 exact key fuelK (by unfold fuelK; omega)
theorem rGet_loop (name : ByteArray) (hn : name.size <= NB) (l : List AV) (hl : l.length <= 1000000) (hf : ∀ a ∈ l, Fit NB a) (κ : Bool -> ByteArray -> Option R) (x4 : Bool) (x5 : ByteArray) : ∀ (f i : Nat), i <= l.length -> l.length < i + f ->
  postbagref5_Get_0.L2 postbagref1_Same_0 κ f l name (i : Int) x4 x5 = kGet κ (getL name (l.drop i))
 | 0, i, h1, h2 => by omega
 | f + 1, i, h1, h2 => by
  rw [postbagref5_Get_0.L2, postbagref5_Get_0.t2, empty_B]
  have hw1 : IntKind.wrap .i64 ((i : Int) + 1) = ((i + 1 : Nat) : Int) := wrap_i64 (by omega) (by omega)
  cases hd : l.drop i with
  | nil =>
   have := drop_nil hd
   rw [cond_dec' (by omega)]; rfl
  | cons a r =>
   obtain ⟨g1, g2, g3⟩ := drop_get hd
   have ha := hf a (List.mem_of_getElem? g1)
   rw [cond_dec (by omega), chk_and, chk_dec (by omega), chk_dec (by omega), rd_get hd, rSameB _ _ (ha.fld 0).s hn, hw1, rGet_loop name hn l hl hf κ x4 x5 f (i + 1) (by omega) (by omega), g3, getL]
   by_cases e : lowL (bl (a.fld 0).s) = lowL (bl name)
   ·rw [decide_eq_true e, if_pos e, cond_true, chk_and, chk_dec (by omega), chk_dec (by omega)]; rfl
   ·rw [decide_eq_false e, if_neg e]; rfl
theorem rGet_eq (name : ByteArray) (hn : name.size <= NB) (l : List AV) (hl : l.length <= 1000000) (hf : ∀ a ∈ l, Fit NB a) (κ : Bool -> ByteArray -> Option R) : postbagref5_Get_0 l name κ = kGet κ (getL name l) := by
 have key : ∀ f, l.length < f -> postbagref5_Get_0.e postbagref1_Same_0 l name (postbagref5_Get_0.L2 postbagref1_Same_0 κ f) κ = kGet κ (getL name l) :=
  fun f h => rGet_loop name hn l hl hf κ _ _ f 0 (by omega) (by omega)
 exact key fuelK (by unfold fuelK; omega)
theorem rGeto_eq (name : ByteArray) (hn : name.size <= NB) (l : List AV) (hl : l.length <= 1000000) (hf : ∀ a ∈ l, Fit NB a) (κ : Bool -> ByteArray -> Option R) : postbagref5_Get_os l name κ = kGet κ (getL name l) := by
 rw [<- rGet_eq name hn l hl hf κ]
 have loop : ∀ (f : Nat) (i : Int) (b : Bool) (s : ByteArray), postbagref5_Get_os.L2 postbagref1_Same_0 κ f l name i b s = postbagref5_Get_0.L2 postbagref1_Same_0 κ f l name i b s := by
  intro f
  induction f with
  | zero => intro i b s; rfl
  | succ f ih =>
   intro i b s
   rw [postbagref5_Get_os.L2, postbagref5_Get_0.L2, postbagref5_Get_os.t2, postbagref5_Get_0.t2, ih]
 unfold postbagref5_Get_os postbagref5_Get_0 postbagref5_Get_os.e postbagref5_Get_0.e
 exact loop _ _ _ _
theorem fieldsr_same (l : List AV) (hl : l.length <= 1000000) (κ : Bool -> Option R) : ∀ (f i : Nat), i <= l.length -> l.length < i + f -> postbaglaw5_fields_or.L4 κ f l l (i : Int) = κ true
 | 0, i, h1, h2 => by omega
 | f + 1, i, h1, h2 => by
  rw [postbaglaw5_fields_or.L4, postbaglaw5_fields_or.t4]
  by_cases h : i < l.length
  ·have hw1 : IntKind.wrap .i64 ((i : Int) + 1) = ((i + 1 : Nat) : Int) := wrap_i64 (by omega) (by omega)
   simp (disch := omega) only [cond_dec, chk_and, chk_dec, hw1, decide_true, BEq.rfl, Bool.and_true, Bool.not_true, cond_false]
   exact fieldsr_same l hl κ f (i + 1) (by omega) (by omega)
  ·rw [cond_dec' (by omega)]
theorem fieldsr_eq (l : List AV) (hl : l.length <= 1000000) (κ : Bool -> Option R) : postbaglaw5_fields_or l l κ = κ true := by
 have key : ∀ f, l.length < f -> postbaglaw5_fields_or.e l l (postbaglaw5_fields_or.L4 κ f) κ = κ true := by
  intro f h
  unfold postbaglaw5_fields_or.e
  rw [bne_neg rfl]
  exact fieldsr_same l hl κ f 0 (by omega) (by omega)
 exact key fuelK (by unfold fuelK; omega)
theorem cut_front (l : List AV) (x : AV) : cutA (l ++ [x]) 0 (l.length : Int) = l := by
 unfold cutA
 rw [Int.toNat_natCast]
 simp
theorem fit_cut {N : Nat} {l : List AV} (h : ∀ a ∈ l, Fit N a) (i j : Int) : ∀ a ∈ cutA l i j, Fit N a := by
 intro a ha
 unfold cutA at ha
 exact h a (List.mem_of_mem_take (List.mem_of_mem_drop ha))
theorem fit_set {N : Nat} {l : List AV} (h : ∀ a ∈ l, Fit N a) {x : AV} (hx : Fit N x) (i : Int) : ∀ a ∈ setA l i x, Fit N a := by
 intro a ha
 unfold setA at ha
 rcases List.mem_or_eq_of_mem_set ha with h1 | h1
 ·exact h a h1
 ·rw [h1]; exact hx
theorem fit_fld {N : Nat} {a : AV} (h : Fit N a) : Fit N (AV.agg [AV.str (a.fld 0).s, AV.str (a.fld 1).s, AV.str (a.fld 2).s]) := by
 refine .agg _ fun b hb => ?_
 simp only [List.mem_cons, List.mem_nil_iff, or_false] at hb
 rcases hb with rfl | rfl | rfl
 ·exact .str _ (h.fld 0).s
 ·exact .str _ (h.fld 1).s
 ·exact .str _ (h.fld 2).s
theorem set_len (l : List AV) (i : Int) (x : AV) : (setA l i x).length = l.length := by unfold setA; simp
end Go.Proofs.Ab
namespace Go.Proofs.Ab
set_option linter.unusedVariables false
set_option maxRecDepth 4000
open Go
variable {R : Type}
def ofL (n : ByteArray) (l : List AV) : List AV :=
 match getL n l with
 | none => []
 | some s => (take32 (adsG false (pcs (bl s)))).map adAV
theorem ofL_len (n : ByteArray) (l : List AV) : (ofL n l).length <= 32 := by
 unfold ofL; split
 ·exact Nat.zero_le _
 ·rw [List.length_map]; unfold take32; rw [List.length_take]; omega
structure EnvV where
 d0 : Bool
 d1 : ByteArray
 s0 : Bool
 s1 : ByteArray
 fr : List AV
 se : List AV
 rt : List AV
 to : List AV
 cc : List AV
 bc : List AV
 i0 : Bool
 i1 : ByteArray
 m0 : Bool
 m1 : ByteArray
abbrev KE (R : Type) : Type := Bool -> ByteArray -> Bool -> ByteArray -> List AV -> List AV -> List AV -> List AV -> List AV -> List AV -> Bool -> ByteArray -> Bool -> ByteArray -> Option R
def appE (κ : KE R) (v : EnvV) : Option R := κ v.d0 v.d1 v.s0 v.s1 v.fr v.se v.rt v.to v.cc v.bc v.i0 v.i1 v.m0 v.m1
def orL (a b : List AV) : List AV := bif ((a.length : Int) == 0) then b else a
def envOf (l : List AV) : EnvV where
 d0 := (getL (⟨#[68, 97, 116, 101]⟩ : ByteArray) l).isSome
 d1 := (getL (⟨#[68, 97, 116, 101]⟩ : ByteArray) l).getD (B [])
 s0 := (getL (⟨#[83, 117, 98, 106, 101, 99, 116]⟩ : ByteArray) l).isSome
 s1 := (getL (⟨#[83, 117, 98, 106, 101, 99, 116]⟩ : ByteArray) l).getD (B [])
 fr := ofL (⟨#[70, 114, 111, 109]⟩ : ByteArray) l
 se := orL (ofL (⟨#[83, 101, 110, 100, 101, 114]⟩ : ByteArray) l) (ofL (⟨#[70, 114, 111, 109]⟩ : ByteArray) l)
 rt := orL (ofL (⟨#[82, 101, 112, 108, 121, 45, 84, 111]⟩ : ByteArray) l) (ofL (⟨#[70, 114, 111, 109]⟩ : ByteArray) l)
 to := ofL (⟨#[84, 111]⟩ : ByteArray) l
 cc := ofL (⟨#[67, 99]⟩ : ByteArray) l
 bc := ofL (⟨#[66, 99, 99]⟩ : ByteArray) l
 i0 := (getL (⟨#[73, 110, 45, 82, 101, 112, 108, 121, 45, 84, 111]⟩ : ByteArray) l).isSome
 i1 := (getL (⟨#[73, 110, 45, 82, 101, 112, 108, 121, 45, 84, 111]⟩ : ByteArray) l).getD (B [])
 m0 := (getL (⟨#[77, 101, 115, 115, 97, 103, 101, 45, 73, 100]⟩ : ByteArray) l).isSome
 m1 := (getL (⟨#[77, 101, 115, 115, 97, 103, 101, 45, 73, 100]⟩ : ByteArray) l).getD (B [])
structure OkE (v : EnvV) : Prop where
 fr : v.fr.length <= 32
 se : v.se.length <= 32
 rt : v.rt.length <= 32
 to : v.to.length <= 32
 cc : v.cc.length <= 32
 bc : v.bc.length <= 32
theorem orL_len {a b : List AV} (ha : a.length <= 32) (hb : b.length <= 32) : (orL a b).length <= 32 := by
 unfold orL; cases ((a.length : Int) == 0) <;> assumption
theorem okE (l : List AV) : OkE (envOf l) := ⟨ofL_len _ _, orL_len (ofL_len _ _) (ofL_len _ _), orL_len (ofL_len _ _) (ofL_len _ _), ofL_len _ _, ofL_len _ _, ofL_len _ _⟩
theorem getL_mem {n : ByteArray} : ∀ {l : List AV} {s : ByteArray}, getL n l = some s -> ∃ a ∈ l, s = (a.fld 1).s
 | [], _, h => by cases h
 | a :: r, s, h => by
  rw [getL] at h
  split at h
  ·cases h; exact ⟨a, by simp, rfl⟩
  ·obtain ⟨b, hb, e⟩ := getL_mem h; exact ⟨b, by simp [hb], e⟩
structure Flds (l : List AV) : Prop where
 len : l.length <= 1000
 fit : ∀ a ∈ l, Fit NB a
 val : ∀ a ∈ l, (a.fld 1).s.size <= 40000
theorem lOf {l : List AV} (h : Flds l) {n : ByteArray} (hn : n.size <= NB) {κ0 : Option R} {κ1 : List AV -> Option R} (hκ : κ0 = κ1 []) : letter_Envelope_1_sw n [AV.sl l] κ0 κ1 = κ1 (ofL n l) := by
 unfold letter_Envelope_1_sw letter_Envelope_1_sw.e
 show letter_Get_os l n _ = _
 rw [lGet_eq n hn l (by have := h.len; omega) h.fit]
 unfold kGet ofL
 cases hg : getL n l with
 | none => exact hκ
 | some s =>
  obtain ⟨a, ha, rfl⟩ := getL_mem hg
  have := h.val a ha
  show letter_Addresses_0 (a.fld 1).s _ = _
  rw [<- B_bl (a.fld 1).s, lAs_eq _ (by rw [<- size_bl]; omega)]
  simp only [bl_B]
theorem rOf {l : List AV} (h : Flds l) {n : ByteArray} (hn : n.size <= NB) {κ0 : Option R} {κ1 κ2 : List AV -> Option R} (hκ : κ0 = κ2 []) (hκ2 : κ1 = κ2) : postbagref5_of_0 l n κ0 κ1 κ2 = κ2 (ofL n l) := by
 subst hκ2
 unfold postbagref5_of_0 postbagref5_of_0.e
 rw [rGet_eq n hn l (by have := h.len; omega) h.fit]
 unfold kGet ofL
 cases hg : getL n l with
 | none => exact hκ
 | some s =>
  obtain ⟨a, ha, rfl⟩ := getL_mem hg
  have := h.val a ha
  show postbagref5_Addresses_0 (a.fld 1).s _ _ = _
  rw [<- B_bl (a.fld 1).s, rAs_eq _ (by rw [<- size_bl]; omega)]
  simp only [bl_B]
  exact kk3_at rfl rfl
theorem roOf {l : List AV} (h : Flds l) {n : ByteArray} (hn : n.size <= NB) {κ0 : Option R} {κ1 κ2 : List AV -> Option R} (hκ : κ0 = κ2 []) (hκ2 : κ1 = κ2) : postbagref5_of_os l n κ0 κ1 κ2 = κ2 (ofL n l) := by
 rw [<- rOf h hn hκ hκ2]
 unfold postbagref5_of_os postbagref5_of_os.e postbagref5_of_0 postbagref5_of_0.e
 rw [rGeto_eq n hn l (by have := h.len; omega) h.fit, rGet_eq n hn l (by have := h.len; omega) h.fit]
theorem lEnv (l : List AV) (h : Flds l) (κ : KE R) : letter_Envelope_o l κ = appE κ (envOf l) := by
 have hl := h.len
 have key : ∀ f, letter_Envelope_o.e letter_Get_os letter_Envelope_1_sw l (letter_Envelope_o.L4 letter_Get_os letter_Envelope_1_sw κ (f + 4)) (letter_Envelope_o.L5 letter_Get_os letter_Envelope_1_sw κ (f + 4)) (letter_Envelope_o.L7 letter_Get_os letter_Envelope_1_sw κ (f + 4)) (letter_Envelope_o.L9 letter_Get_os letter_Envelope_1_sw κ (f + 4)) κ = appE κ (envOf l) := by
  intro f
  unfold letter_Envelope_o.e
  rw [lGet_eq _ (by decide) l (by omega) h.fit, kGet, lGet_eq _ (by decide) l (by omega) h.fit, kGet, lGet_eq _ (by decide) l (by omega) h.fit, kGet, lGet_eq _ (by decide) l (by omega) h.fit, kGet]
  rw [lOf h, lOf h, lOf h, lOf h, letter_Envelope_o.L4, letter_Envelope_o.t4, lOf h, lOf h, letter_Envelope_o.L5, letter_Envelope_o.t5, lOf h]
  case _ =>
   unfold appE envOf orL
   cases hs : (((ofL (⟨#[83, 101, 110, 100, 101, 114]⟩ : ByteArray) l).length : Int) == 0) <;> simp only [cond_true, cond_false] <;> rw [letter_Envelope_o.L7, letter_Envelope_o.t7, lOf h] <;> try (first | rfl | decide)
   all_goals
    cases ht : (((ofL (⟨#[82, 101, 112, 108, 121, 45, 84, 111]⟩ : ByteArray) l).length : Int) == 0) <;> simp only [cond_true, cond_false] <;> rw [letter_Envelope_o.L9, letter_Envelope_o.t9]
  all_goals first | rfl | decide
 exact key (fuelK - 4)
theorem rEnv (l : List AV) (h : Flds l) (κ : KE R) : postbagref5_Envelope_0 l κ = appE κ (envOf l) := by
 have hl := h.len
 have key : ∀ f, postbagref5_Envelope_0.e postbagref5_Get_0 postbagref5_of_0 l (postbagref5_Envelope_0.L3 postbagref5_Get_0 postbagref5_of_0 κ (f + 8)) (postbagref5_Envelope_0.L4 postbagref5_Get_0 postbagref5_of_0 κ (f + 8)) (postbagref5_Envelope_0.L5 postbagref5_Get_0 postbagref5_of_0 κ (f + 8)) (postbagref5_Envelope_0.L7 postbagref5_Get_0 postbagref5_of_0 κ (f + 8)) (postbagref5_Envelope_0.L9 postbagref5_Get_0 postbagref5_of_0 κ (f + 8)) (postbagref5_Envelope_0.L10 postbagref5_Get_0 postbagref5_of_0 κ (f + 8)) (postbagref5_Envelope_0.L11 postbagref5_Get_0 postbagref5_of_0 κ (f + 8)) (postbagref5_Envelope_0.L12 postbagref5_Get_0 postbagref5_of_0 κ (f + 8)) κ = appE κ (envOf l) := by
  intro f
  unfold postbagref5_Envelope_0.e
  rw [rGet_eq _ (by decide) l (by omega) h.fit, kGet, rGet_eq _ (by decide) l (by omega) h.fit, kGet, rGet_eq _ (by decide) l (by omega) h.fit, kGet, rGet_eq _ (by decide) l (by omega) h.fit, kGet]
  rw [rOf h, postbagref5_Envelope_0.L3, postbagref5_Envelope_0.t3, rOf h, postbagref5_Envelope_0.L4, postbagref5_Envelope_0.t4, rOf h, postbagref5_Envelope_0.L5, postbagref5_Envelope_0.t5, rOf h]
  case _ =>
   unfold appE envOf orL
   cases hs : (((ofL (⟨#[83, 101, 110, 100, 101, 114]⟩ : ByteArray) l).length : Int) == 0) <;> simp only [cond_true, cond_false] <;> rw [postbagref5_Envelope_0.L7, postbagref5_Envelope_0.t7, rOf h] <;> try (first | rfl | decide)
   all_goals
    cases ht : (((ofL (⟨#[82, 101, 112, 108, 121, 45, 84, 111]⟩ : ByteArray) l).length : Int) == 0) <;> simp only [cond_true, cond_false] <;> rw [postbagref5_Envelope_0.L9, postbagref5_Envelope_0.t9, rOf h, postbagref5_Envelope_0.L10, postbagref5_Envelope_0.t10, rOf h, postbagref5_Envelope_0.L11, postbagref5_Envelope_0.t11, rOf h, postbagref5_Envelope_0.L12, postbagref5_Envelope_0.t12] <;> first | rfl | decide
  all_goals first | rfl | decide
 exact key (fuelK - 8)
theorem roEnv (l : List AV) (h : Flds l) (κ : KE R) : postbagref5_Envelope_o l κ = appE κ (envOf l) := by
 have hl := h.len
 have key : ∀ f, postbagref5_Envelope_o.e postbagref5_Get_os postbagref5_of_os l (postbagref5_Envelope_o.L3 postbagref5_Get_os postbagref5_of_os κ (f + 8)) (postbagref5_Envelope_o.L4 postbagref5_Get_os postbagref5_of_os κ (f + 8)) (postbagref5_Envelope_o.L5 postbagref5_Get_os postbagref5_of_os κ (f + 8)) (postbagref5_Envelope_o.L7 postbagref5_Get_os postbagref5_of_os κ (f + 8)) (postbagref5_Envelope_o.L9 postbagref5_Get_os postbagref5_of_os κ (f + 8)) (postbagref5_Envelope_o.L10 postbagref5_Get_os postbagref5_of_os κ (f + 8)) (postbagref5_Envelope_o.L11 postbagref5_Get_os postbagref5_of_os κ (f + 8)) (postbagref5_Envelope_o.L12 postbagref5_Get_os postbagref5_of_os κ (f + 8)) κ = appE κ (envOf l) := by
  intro f
  unfold postbagref5_Envelope_o.e
  rw [rGeto_eq _ (by decide) l (by omega) h.fit, kGet, rGeto_eq _ (by decide) l (by omega) h.fit, kGet, rGeto_eq _ (by decide) l (by omega) h.fit, kGet, rGeto_eq _ (by decide) l (by omega) h.fit, kGet]
  rw [roOf h, postbagref5_Envelope_o.L3, postbagref5_Envelope_o.t3, roOf h, postbagref5_Envelope_o.L4, postbagref5_Envelope_o.t4, roOf h, postbagref5_Envelope_o.L5, postbagref5_Envelope_o.t5, roOf h]
  case _ =>
   unfold appE envOf orL
   cases hs : (((ofL (⟨#[83, 101, 110, 100, 101, 114]⟩ : ByteArray) l).length : Int) == 0) <;> simp only [cond_true, cond_false] <;> rw [postbagref5_Envelope_o.L7, postbagref5_Envelope_o.t7, roOf h] <;> try (first | rfl | decide)
   all_goals
    cases ht : (((ofL (⟨#[82, 101, 112, 108, 121, 45, 84, 111]⟩ : ByteArray) l).length : Int) == 0) <;> simp only [cond_true, cond_false] <;> rw [postbagref5_Envelope_o.L9, postbagref5_Envelope_o.t9, roOf h, postbagref5_Envelope_o.L10, postbagref5_Envelope_o.t10, roOf h, postbagref5_Envelope_o.L11, postbagref5_Envelope_o.t11, roOf h, postbagref5_Envelope_o.L12, postbagref5_Envelope_o.t12] <;> first | rfl | decide
  all_goals first | rfl | decide
 exact key (fuelK - 8)
theorem lEnvX (l : List AV) (h : Flds l) (κ : KE R) : letter_Envelope_o l κ = κ (envOf l).d0 (envOf l).d1 (envOf l).s0 (envOf l).s1 (envOf l).fr (envOf l).se (envOf l).rt (envOf l).to (envOf l).cc (envOf l).bc (envOf l).i0 (envOf l).i1 (envOf l).m0 (envOf l).m1 := lEnv l h κ
theorem rEnvX (l : List AV) (h : Flds l) (κ : KE R) : postbagref5_Envelope_0 l κ = κ (envOf l).d0 (envOf l).d1 (envOf l).s0 (envOf l).s1 (envOf l).fr (envOf l).se (envOf l).rt (envOf l).to (envOf l).cc (envOf l).bc (envOf l).i0 (envOf l).i1 (envOf l).m0 (envOf l).m1 := rEnv l h κ
theorem roEnvX (l : List AV) (h : Flds l) (κ : KE R) : postbagref5_Envelope_o l κ = κ (envOf l).d0 (envOf l).d1 (envOf l).s0 (envOf l).s1 (envOf l).fr (envOf l).se (envOf l).rt (envOf l).to (envOf l).cc (envOf l).bc (envOf l).i0 (envOf l).i1 (envOf l).m0 (envOf l).m1 := roEnv l h κ
theorem envs_same (v : EnvV) (h : OkE v) (κ : Bool -> Option R) : postbaglaw5_envelopes_absbsoooooobsbseabsbsrrrrrrbsbse v.d0 v.d1 v.s0 v.s1 v.fr v.se v.rt v.to v.cc v.bc v.i0 v.i1 v.m0 v.m1 v.d0 v.d1 v.s0 v.s1 v.fr v.se v.rt v.to v.cc v.bc v.i0 v.i1 v.m0 v.m1 κ = κ true := by
 obtain ⟨h1, h2, h3, h4, h5, h6⟩ := h
 unfold postbaglaw5_envelopes_absbsoooooobsbseabsbsrrrrrrbsbse postbaglaw5_envelopes_absbsoooooobsbseabsbsrrrrrrbsbse.e
 simp only [BEq.rfl, decide_true, Bool.and_true, Bool.not_true, cond_false]
 rw [adrr_eq _ (by omega)]; simp only [cond_true]
 rw [adrr_eq _ (by omega)]; simp only [cond_true]
 rw [adrr_eq _ (by omega)]; simp only [cond_true]
 rw [adrr_eq _ (by omega)]; simp only [cond_true]
 rw [adrr_eq _ (by omega)]; simp only [cond_true]
 rw [adrr_eq _ (by omega)]
def vsum : List AV -> Nat
 | [] => 0
 | a :: r => (a.fld 1).s.size + vsum r
theorem vsum_le {l : List AV} (h : ∀ a ∈ l, Fit NB a) : vsum l <= l.length * NB := by
 induction l with
 | nil => simp [vsum]
 | cons a r ih =>
  have h1 := (h a (by simp)).fld 1 |>.s
  have h2 := ih fun b hb => h b (by simp [hb])
  unfold vsum
  rw [List.length_cons, Nat.succ_mul]
  omega
theorem vsum_mem {l : List AV} {n : Nat} (h : vsum l <= n) : ∀ a ∈ l, (a.fld 1).s.size <= n := by
 induction l with
 | nil => intro a ha; cases ha
 | cons b r ih =>
  unfold vsum at h
  intro a ha
  rcases List.mem_cons.1 ha with rfl | ha
  ·omega
  ·exact ih (by omega) a ha
theorem short_loop (l : List AV) (hl : l.length <= 1000000) (κ : Bool -> Option R) : ∀ (f i acc : Nat), i <= l.length -> l.length < i + f -> acc + vsum (l.drop i) < 2 ^ 62 ->
  postbaglaw5_short_0.L3 κ f l (acc : Int) (i : Int) = κ (decide (acc + vsum (l.drop i) <= 40000))
 | 0, i, acc, h1, h2, _ => by omega
 | f + 1, i, acc, h1, h2, h3 => by
  rw [postbaglaw5_short_0.L3, postbaglaw5_short_0.t3]
  have hw1 : IntKind.wrap .i64 ((i : Int) + 1) = ((i + 1 : Nat) : Int) := wrap_i64 (by omega) (by omega)
  cases hd : l.drop i with
  | nil =>
   have := drop_nil hd
   rw [cond_dec' (by omega)]
   simp only [vsum, Nat.add_zero]
   congr 1
   exact decide_eq_decide.2 (by omega)
  | cons a r =>
   obtain ⟨g1, g2, g3⟩ := drop_get hd
   rw [hd] at h3
   unfold vsum at h3
   have hw2 : IntKind.wrap .i64 ((acc : Int) + ((a.fld 1).s.size : Int)) = ((acc + (a.fld 1).s.size : Nat) : Int) := wrap_i64 (by omega) (by omega)
   rw [cond_dec (by omega), chk_and, chk_dec (by omega), chk_dec (by omega), rd_get hd, hw1, hw2, short_loop l hl κ f (i + 1) _ (by omega) (by omega) (by rw [g3]; omega), g3]
   simp only [vsum, Nat.add_assoc]
   exact congrArg κ (decide_eq_decide.2 Iff.rfl)
theorem short_eq (l : List AV) (hl : l.length <= 300) (h : ∀ a ∈ l, Fit NB a) (κ : Bool -> Option R) : postbaglaw5_short_0 l κ = κ (decide (vsum l <= 40000)) := by
 have hs := vsum_le h
 have hs2 : vsum l < 2 ^ 62 := by
  have : l.length * NB <= 300 * NB := Nat.mul_le_mul_right _ hl
  unfold NB at *
  omega
 have key : ∀ f, l.length < f -> postbaglaw5_short_0.e l (postbaglaw5_short_0.L3 κ f) κ = κ (decide (vsum l <= 40000)) := by
  intro f hf
  have := short_loop l (by omega) κ f 0 0 (by omega) (by omega) (by simpa using hs2)
  simpa [postbaglaw5_short_0.e] using this
 exact key fuelK (by unfold fuelK; omega)
theorem flds_cut {n : Nat} {x : List AV} (hn : n <= 300) (hf : ∀ a ∈ x, Fit NB a) (hv : ∀ a ∈ x, (a.fld 1).s.size <= 40000) : Flds (cutA x 0 (n : Int)) := by
 refine ⟨?_, fit_cut hf _ _, fun a ha => ?_⟩
 ·unfold cutA; rw [List.length_drop, List.length_take]; omega
 ·unfold cutA at ha
  exact hv a (List.mem_of_mem_take (List.mem_of_mem_drop ha))
theorem env_fin (a0 x : List AV) (h0 : a0.length <= 300) (hx : x.length = a0.length + 1) (f0 : Flds a0) (hf : ∀ a ∈ x, Fit NB a) (hv : ∀ a ∈ x, (a.fld 1).s.size <= 40000) (v : EnvV) (hv0 : v = envOf a0) (κ : Bool -> Option R) :
  (chk ((decide ((0 : Int) <= (a0.length : Int))) && (decide ((a0.length : Int) <= (x.length : Int)))) (chk (decide ((0 + (cutA x 0 (a0.length : Int)).length) * 48 <= 140737488355328)) (chk ((decide ((0 : Int) <= (a0.length : Int))) && (decide ((a0.length : Int) <= (x.length : Int)))) (letter_Envelope_o (cutA x 0 (a0.length : Int)) (fun r1673 r1674 r1675 r1676 r1677 r1678 r1679 r1680 r1681 r1682 r1683 r1684 r1685 r1686 => (postbagref5_Envelope_o (cutA x 0 (a0.length : Int)) (fun r1687 r1688 r1689 r1690 r1691 r1692 r1693 r1694 r1695 r1696 r1697 r1698 r1699 r1700 => (postbaglaw5_envelopes_absbsoooooobsbseabsbsrrrrrrbsbse r1673 r1674 r1675 r1676 r1677 r1678 r1679 r1680 r1681 r1682 r1683 r1684 r1685 r1686 r1687 r1688 r1689 r1690 r1691 r1692 r1693 r1694 r1695 r1696 r1697 r1698 r1699 r1700 (fun r1701 => (bif r1701 then (postbagref5_Envelope_0 a0 (fun r1702 r1703 r1704 r1705 r1706 r1707 r1708 r1709 r1710 r1711 r1712 r1713 r1714 r1715 => (postbaglaw5_envelopes_absbsoooooobsbseabsbsrrrrrrbsbse v.d0 v.d1 v.s0 v.s1 v.fr v.se v.rt v.to v.cc v.bc v.i0 v.i1 v.m0 v.m1 r1702 r1703 r1704 r1705 r1706 r1707 r1708 r1709 r1710 r1711 r1712 r1713 r1714 r1715 (fun r1716 => (κ r1716))))) else (κ false))))))))))) = κ true := by
 have hcl := flds_cut h0 hf hv
 have hlen := hcl.len
 rw [chk_and, chk_dec (by omega), chk_dec (by omega), chk_dec (by omega), chk_and, chk_dec (by omega), chk_dec (by omega), lEnvX _ hcl]
 rw [roEnvX _ hcl]
 rw [envs_same _ (okE _)]
 rw [cond_true]
 rw [rEnvX _ f0]
 rw [<- hv0, envs_same _ (by rw [hv0]; exact okE _)]
abbrev le10 (κ : Bool -> Option R) (f : Nat) := postbaglaw5_LetterEnvelopes_0.L10 postbaglaw5_short_0 letter_Envelope_o postbaglaw5_known_0 postbagref5_Envelope_0 postbaglaw5_envelopes_absbsoooooobsbseabsbsrrrrrrbsbse postbaglaw5_fields_or postbagref5_Envelope_o κ f
theorem envs_loop (a0 a1 : List AV) (h0 : a0.length <= 300) (f0 : Flds a0) (h1 : ∀ a ∈ a1, Fit NB a) (g1 : ∀ a ∈ a1, (a.fld 1).s.size <= 40000) (v : EnvV) (hv0 : v = envOf a0) (κ : Bool -> Option R) : ∀ (f i : Nat) (x : List AV), i <= a0.length -> a0.length < i + f -> x.length = a0.length + 1 -> (∀ a ∈ x, Fit NB a) -> (∀ a ∈ x, (a.fld 1).s.size <= 40000) ->
  le10 κ f a0 a1 (i : Int) x v.d0 v.d1 v.s0 v.s1 v.i0 v.i1 v.m0 v.m1 v.fr v.se v.rt v.to v.cc v.bc = κ true
 | 0, i, x, q1, q2, q3, q4, q5 => by omega
 | f + 1, i, x, q1, q2, q3, q4, q5 => by
  unfold le10
  rw [postbaglaw5_LetterEnvelopes_0.L10, postbaglaw5_LetterEnvelopes_0.t10]
  have hw1 : IntKind.wrap .i64 ((i : Int) + 1) = ((i + 1 : Nat) : Int) := wrap_i64 (by omega) (by omega)
  by_cases hi : (i : Int) < (a0.length : Int)
  ·rw [cond_dec hi]
   by_cases hj : (i : Int) < (a1.length : Int)
   ·rw [cond_dec hj, chk_and, chk_dec (by omega), chk_dec (by omega), chk_and, chk_dec (by omega), chk_dec (by omega), hw1]
    refine envs_loop a0 a1 h0 f0 h1 g1 v hv0 κ f (i + 1) _ (by omega) (by omega) (by rw [set_len]; exact q3) (fit_set q4 (fit_fld (Fit.rd h1 _)) _) ?_
    intro a ha
    unfold setA at ha
    rcases List.mem_or_eq_of_mem_set ha with h | h
    ·exact q5 a h
    ·rw [h]
     have hm : rdA a1 (i : Int) ∈ a1 := by
      unfold rdA
      rw [Int.toNat_natCast, List.getD_eq_getElem?_getD, List.getElem?_eq_getElem (by omega)]
      exact List.getElem_mem _
     show ((rdA a1 (i : Int)).fld 1).s.size <= 40000
     exact g1 _ hm
   ·rw [cond_dec' hj]
    exact env_fin a0 x h0 q3 f0 q4 q5 v hv0 κ
  ·rw [cond_dec' hi]
   exact env_fin a0 x h0 q3 f0 q4 q5 v hv0 κ
theorem letterEnvelopes_text (a0 a1 : List AV) (f0 : ∀ a ∈ a0, Fit NB a) (f1 : ∀ a ∈ a1, Fit NB a) (κ : Bool -> Option R) : postbaglaw5_LetterEnvelopes_0 a0 a1 κ = κ true := by
 have key : ∀ f, 1000 < f -> postbaglaw5_LetterEnvelopes_0.e postbaglaw5_short_0 letter_Envelope_o postbaglaw5_known_0 postbagref5_Envelope_0 postbaglaw5_envelopes_absbsoooooobsbseabsbsrrrrrrbsbse postbaglaw5_fields_or postbagref5_Envelope_o a0 a1 (le10 κ f) κ = κ true := by
  intro f hf
  unfold postbaglaw5_LetterEnvelopes_0.e
  by_cases h1 : (a0.length : Int) > 300
  ·rw [cond_dec h1]
  ·rw [cond_dec' h1]
   by_cases h2 : (a1.length : Int) > 300
   ·rw [cond_dec h2]
   ·rw [cond_dec' h2, short_eq a0 (by omega) f0]
    by_cases h3 : vsum a0 <= 40000
    ·rw [decide_eq_true h3]
     rw [Bool.not_true, cond_false]
     rw [short_eq a1 (by omega) f1]
     by_cases h4 : vsum a1 <= 40000
     ·rw [decide_eq_true h4]
      rw [Bool.not_true, cond_false]
      have hx : Fit NB (AV.agg [AV.str (⟨#[70, 114, 111, 109]⟩ : ByteArray), AV.str (⟨#[98, 101, 104, 105, 110, 100]⟩ : ByteArray), AV.str (⟨#[]⟩ : ByteArray)]) := by
       refine .agg _ fun b hb => ?_
       simp only [List.mem_cons, List.mem_nil_iff, or_false] at hb
       rcases hb with rfl | rfl | rfl
       ·exact .str _ (by decide)
       ·exact .str _ (by decide)
       ·exact .str _ (by decide)
      have hxb : ((AV.agg [AV.str (⟨#[70, 114, 111, 109]⟩ : ByteArray), AV.str (⟨#[98, 101, 104, 105, 110, 100]⟩ : ByteArray), AV.str (⟨#[]⟩ : ByteArray)]).fld 1).s = (⟨#[98, 101, 104, 105, 110, 100]⟩ : ByteArray) := rfl
      generalize AV.agg [AV.str (⟨#[70, 114, 111, 109]⟩ : ByteArray), AV.str (⟨#[98, 101, 104, 105, 110, 100]⟩ : ByteArray), AV.str (⟨#[]⟩ : ByteArray)] = x at hx hxb
      have hal : (a0 ++ [x]).length = a0.length + 1 := by simp
      have hF : Flds a0 := ⟨by omega, f0, vsum_mem h3⟩
      rw [chk_dec (by omega), chk_dec (by omega), hal, chk_and, chk_dec (by omega), chk_dec (by omega), cut_front, lEnvX a0 hF]
      rw [known_holds]
      rw [Bool.not_true, cond_false]
      rw [rEnvX a0 hF]
      generalize hv0 : envOf a0 = v
      have hok : OkE v := hv0 ▸ okE a0
      rw [envs_same v hok]
      rw [Bool.not_true, cond_false]
      rw [chk_and, chk_dec (by omega), chk_dec (by omega), fieldsr_eq a0 (by omega)]
      rw [Bool.not_true, cond_false]
      rw [chk_and, chk_dec (by omega), chk_dec (by omega), rdA_last, hxb]
      rw [decide_eq_true rfl, Bool.not_true, cond_false]
      refine envs_loop a0 a1 (by omega) hF f1 (vsum_mem h4) v hv0.symm κ f 0 _ (by omega) (by omega) hal (fun a ha => ?_) (fun a ha => ?_)
      ·rcases List.mem_append.1 ha with h | h
       ·exact f0 a h
       ·rw [List.mem_singleton.1 h]; exact hx
      ·rcases List.mem_append.1 ha with h | h
       ·exact hF.val a h
       ·rw [List.mem_singleton.1 h, hxb]; decide
     ·rw [decide_eq_false h4]; rw [Bool.not_false, cond_true]
    ·rw [decide_eq_false h3]; rw [Bool.not_false, cond_true]
 exact key fuelK (by unfold fuelK; omega)
end Go.Proofs.Ab
