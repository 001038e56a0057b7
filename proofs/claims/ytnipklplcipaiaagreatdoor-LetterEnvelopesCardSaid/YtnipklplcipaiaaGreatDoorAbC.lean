/- The abstract machine: a run of a function's code over data without memory, and the proof that whatever this run says is what a call does (conditions: those of each lemma). -/
import Derived.Test.YtnipklplcipaiaaGreatDoorAbB
import Derived.ChangeArms
import Derived.ChangeShapes
import Derived.SizedLaws
namespace Go.Proofs.Ab
set_option linter.unusedVariables false
set_option maxRecDepth 4000
open Go Go.RowKit
variable {H : Type} {enc : TypeId × Value -> H} {P : Program} {w w' : World} {sp : Nat -> Bool} {held : Bool}
def lvFs (P : Program) (g : TypeId -> Option (List LK)) : List Field -> Nat -> Option (List LK)
 | [], _ => some []
 | f :: r, o => match g f.type with
  | some l => if f.offset = o /\ P.cellsOf f.type = l.length then (lvFs P g r (o + l.length)).map (l ++ ·) else none
  | none => none
def lvOf (P : Program) : Nat -> TypeId -> Option (List LK)
 | 0, _ => none
 | n + 1, t => match P.underlying t with
  | some .bool => some [.bool]
  | some (.int k) => some [.int k]
  | some .string => some [.str]
  | some (.slice e) => some [.sl e]
  | some (.struct fs) => (lvFs P (lvOf P n) fs.toList 0).bind fun l => if P.cellsOf t = l.length then some l else none
  | _ => none
def goodT (P : Program) : Nat -> TypeId -> Bool
 | 0, _ => false
 | n + 1, t => match P.underlying t with
  | some .bool => true
  | some (.int _) => true
  | some .string => true
  | some (.slice e) => decide (0 < P.cellsOf e) && goodT P n e
  | some (.struct fs) => fs.toList.all fun f => goodT P n f.type
  | _ => false
def datB (P : Program) (T : Nat -> Option TI) : Nat -> TypeId -> Bool
 | 0, _ => false
 | d + 1, e => match T e with
  | some E => decide (lvOf P 20 e = some E.lv) && (decide (P.cellsOf e = E.sz) && ((E.agg || decide (E.sz = 1)) && E.lv.all fun k => match k with
   | .sl e' => datB P T d e'
   | .int _ => true
   | .bool => true
   | .str => true
   | _ => false))
  | none => false
def leafRd (enc : TypeId × Value -> H) (P : Program) (w : World) (sp : Nat -> Bool) (held : Bool) (k : LK) (v : Value) : Prop :=
 match k with
 | .int k => ∃ n, v = .int k n
 | .bool => ∃ b, v = .bool b
 | .str => ∃ s, v = .string s
 | .sl e => ∃ t n x, P.underlying t = some (.slice e) /\ DataW.trod enc P w 0 sp held n t [v] = some x
 | _ => False
theorem lvOf_rd : ∀ (m : Nat) {t : TypeId} {lv : List LK} {n : Nat} {cs : List Value} {x : DataW H × List MemPlace}, lvOf P m t = some lv -> DataW.trod enc P w 0 sp held n t cs = some x -> PW (leafRd enc P w sp held) lv cs
 | 0, t, lv, n, cs, x, h, _ => by rw [lvOf] at h; cases h
 | m + 1, t, lv, n, cs, x, h, hx => by
  rw [lvOf] at h
  split at h
  ·rename_i hu
   cases h
   obtain ⟨b, rfl, _⟩ := DataW.trod_bool hu hx
   exact ⟨⟨b, rfl⟩, trivial⟩
  ·rename_i k hu
   cases h
   obtain ⟨b, rfl, _⟩ := DataW.trod_int hu hx
   exact ⟨⟨b, rfl⟩, trivial⟩
  ·rename_i hu
   cases h
   obtain ⟨b, rfl, _⟩ := DataW.trod_string hu hx
   exact ⟨⟨b, rfl⟩, trivial⟩
  ·rename_i e hu
   cases h
   rcases DataW.trod_slice hu hx with ⟨rfl, _⟩ | ⟨a, len, cap, elems, rest, n', _, rfl, _⟩
   ·exact ⟨⟨t, n, x, hu, hx⟩, trivial⟩
   ·exact ⟨⟨t, n, x, hu, hx⟩, trivial⟩
  ·rename_i fs hu
   obtain ⟨xs, n', _, _, hcs, hxs, hf⟩ := DataW.trod_struct hu hx
   rw [Option.bind_eq_some_iff] at h
   obtain ⟨l, hl, h⟩ := h
   split at h
   ·rename_i hsz
    cases h
    have key : ∀ (r : List Field) (i o : Nat) (lr : List LK), fs.toList.drop i = r -> lvFs P (lvOf P m) r o = some lr -> PW (leafRd enc P w sp held) lr ((cs.drop o).take lr.length) := by
     intro r
     induction r with
     | nil => intro i o lr _ h; rw [lvFs] at h; cases h; simp [PW]
     | cons f r ih =>
      intro i o lr hd h
      rw [lvFs] at h
      split at h
      ·rename_i lf hlf
       split at h
       ·rename_i ho
        obtain ⟨ho1, ho2⟩ := ho
        rw [Option.map_eq_some_iff] at h
        obtain ⟨lr', h1, rfl⟩ := h
        have hfi : fs[i]? = some f := by
         have h0 : (fs.toList.drop i)[0]? = some f := by rw [hd]; rfl
         rw [List.getElem?_drop, Nat.add_zero, Array.getElem?_toList] at h0
         exact h0
        have hi := (Array.getElem?_eq_some_iff.1 hfi).1
        have hy := hf i f hfi
        rw [List.getElem?_eq_getElem (by omega), ho1, ho2] at hy
        have p1 := lvOf_rd m hlf hy
        have p2 := ih (i + 1) (o + lf.length) lr' (by rw [<- List.drop_drop, hd]; rfl) h1
        have := PW.append p1 p2
        rw [List.length_append]
        have e : (cs.drop o).take (lf.length + lr'.length) = (cs.drop o).take lf.length ++ (cs.drop (o + lf.length)).take lr'.length := by
         rw [List.take_add, List.drop_drop]
        rw [e]; exact this
       ·cases h
      ·cases h
    have := key fs.toList 0 0 _ rfl hl
    rw [List.drop_zero, List.take_of_length_le (by omega)] at this
    exact this
   ·cases h
  ·cases h
theorem cells_get {base n : Nat} {a : Addr} {cs : List Value} (h : w.cells? base a n = some cs) : cs.length = n /\ ∀ i, i < n -> w.cell? (a.add i) = cs[i]? := by
 obtain ⟨_, h2, h3⟩ := World.cells?_some h
 exact ⟨h2, h3⟩
theorem cell_lt {a : Addr} {v : Value} (h : w.cell? a = some v) : a.block < w.heap.size := by
 rcases Nat.lt_or_ge a.block w.heap.size with h1 | h1
 ·exact h1
 ·exfalso
  unfold World.cell? at h
  rw [Array.getElem?_eq_none h1] at h
  cases h
open Classical in
theorem rep_rows {T : Nat -> Option TI} : ∀ (d : Nat) {e t : TypeId} {n : Nat} {v : Value} {x : DataW H × List MemPlace}, datB P T d e = true -> P.underlying t = some (.slice e) -> DataW.trod enc P w 0 sp held n t [v] = some x ->
  ∃ l : List AV, RepL T w (fun b => b < w.heap.size) (.sl e) v (.sl l)
 | 0, e, t, n, v, x, hd, _, _ => by rw [datB] at hd; cases hd
 | d + 1, e, t, n, v, x, hd, hu, hx => by
  rw [datB] at hd
  split at hd
  ·rename_i E hE
   simp only [Bool.and_eq_true, decide_eq_true_eq, Bool.or_eq_true, List.all_eq_true] at hd
   obtain ⟨hlv, hsz, hag, hks⟩ := hd
   rcases DataW.trod_slice hu hx with ⟨hcs, _⟩ | ⟨a, len, cap, elems, rest, n', _, hcs, _, _, hlc, hcm, hel, hels, _, _⟩
   ·cases hcs
    exact ⟨[], .slnil e _ rfl⟩
   ·cases hcs
    have cell : ∀ (i j : Nat) k, i < len -> E.lv[j]? = some k -> ∃ u, w.cell? (a.add (i * E.sz + j)) = some u /\ ∃ b : AV, RepL T w (fun b => b < w.heap.size) k u b := by
     intro i j k hi hk
     have h1 := hels i hi
     rw [List.getElem?_eq_getElem (by omega), Option.bind_eq_some_iff] at h1
     obtain ⟨csi, h2, h3⟩ := h1
     obtain ⟨h4, h5⟩ := cells_get h2
     have hj : j < E.lv.length := (List.getElem?_eq_some_iff.1 hk).1
     have hj' : j < csi.length := by rw [h4, hsz]; exact hj
     have h6 := h5 j (by rw [hsz]; exact hj)
     rw [add_add, List.getElem?_eq_getElem hj', hsz] at h6
     refine ⟨_, h6, ?_⟩
     have h7 := (lvOf_rd 20 hlv h3).get hk (List.getElem?_eq_getElem hj')
     have h8 := hks k (List.mem_of_getElem? hk)
     generalize csi[j] = u at h7
     cases k with
     | int k => obtain ⟨m, rfl⟩ := h7; exact ⟨.int m, .int k (.int m)⟩
     | bool => obtain ⟨b, rfl⟩ := h7; exact ⟨.bool b, .bool (.bool b)⟩
     | str => obtain ⟨s, rfl⟩ := h7; exact ⟨.str s, .str (.str s)⟩
     | sl e' =>
      obtain ⟨t', m, y, h9, h10⟩ := h7
      obtain ⟨l, hl⟩ := rep_rows d h8 h9 h10
      exact ⟨.sl l, hl⟩
     | ptr => exact h7.elim
     | fn => exact h7.elim
     | nos => exact h7.elim
     | ifc => exact h7.elim
     | oth => exact h7.elim
     | mp _ _ => exact h7.elim
    have pick : ∃ f : Nat -> Nat -> AV, ∀ (i j : Nat) k, i < len -> E.lv[j]? = some k -> ∀ u, w.cell? (a.add (i * E.sz + j)) = some u -> RepL T w (fun b => b < w.heap.size) k u (f i j) := by
     refine ⟨fun i j => if h : ∃ b : AV, ∀ k u, E.lv[j]? = some k -> w.cell? (a.add (i * E.sz + j)) = some u -> RepL T w (fun b => b < w.heap.size) k u b then Classical.choose h else .no, ?_⟩
     intro i j k hi hk u hu'
     have h : ∃ b : AV, ∀ k u, E.lv[j]? = some k -> w.cell? (a.add (i * E.sz + j)) = some u -> RepL T w (fun b => b < w.heap.size) k u b := by
      obtain ⟨u0, h1, b, h2⟩ := cell i j k hi hk
      refine ⟨b, fun k' u' hk' hu2 => ?_⟩
      rw [hk] at hk'; cases hk'
      rw [h1] at hu2; cases hu2
      exact h2
     simp only
     rw [dif_pos h]
     exact Classical.choose_spec h k u hk hu'
    obtain ⟨f, hf⟩ := pick
    let l : List AV := (List.range len).map fun i => bif E.agg then .agg ((List.range E.sz).map (f i)) else f i 0
    have hll : l.length = len := by simp [l]
    let cs : List Value := (List.range (len * E.sz)).map fun m => (w.cell? (a.add m)).getD undef
    have hcl : cs.length = len * E.sz := by simp [cs]
    have hspl : ∀ m, m < len * E.sz -> ∃ i j k, i < len /\ E.lv[j]? = some k /\ m = i * E.sz + j := by
     intro m hm
     have hp : 0 < E.sz := by
      rcases Nat.eq_zero_or_pos E.sz with h | h
      ·rw [h, Nat.mul_zero] at hm; omega
      ·exact h
     refine ⟨m / E.sz, m % E.sz, E.lv[m % E.sz]'(Nat.mod_lt _ hp), ?_, List.getElem?_eq_getElem _, ?_⟩
     ·rw [Nat.div_lt_iff_lt_mul hp]; exact hm
     ·rw [Nat.mul_comm]; exact (Nat.div_add_mod m E.sz).symm
    have hcv : ∀ (m : Nat) u, cs[m]? = some u -> m < len * E.sz /\ w.cell? (a.add m) = some u := by
     intro m u hmu
     have hm : m < len * E.sz := by rw [<- hcl]; exact (List.getElem?_eq_some_iff.1 hmu).1
     refine ⟨hm, ?_⟩
     obtain ⟨i, j, k, hi, hk, rfl⟩ := hspl m hm
     obtain ⟨u0, h1, _⟩ := cell i j k hi hk
     have : cs[i * E.sz + j]? = some u0 := by
      simp only [cs, List.getElem?_map, List.getElem?_range hm, Option.map_some, h1, Option.getD_some]
     rw [this] at hmu; cases hmu; exact h1
    refine ⟨l, .sl e E a len cap (.sl l) cs hE hll.symm hlc hcm hcl (fun m u hmu => ?_) (fun i j k hi hk u hu' => ?_)⟩
    ·have := (hcv m u hmu).2
     refine ⟨?_, this⟩
     have h1 := cell_lt this
     rwa [add_block] at h1
    ·have h1 := (hcv _ u hu').2
     have h2 := hf i j k hi hk u h1
     have hj : j < E.sz := (List.getElem?_eq_some_iff.1 hk).1
     have hli : l.getD i .no = bif E.agg then .agg ((List.range E.sz).map (f i)) else f i 0 := by
      rw [List.getD_eq_getElem?_getD]
      simp only [l, List.getElem?_map, List.getElem?_range hi, Option.map_some, Option.getD_some]
     have hl' : lf E.agg ((AV.sl l).l.getD i .no) j = f i j := by
      rw [show (AV.sl l).l = l from rfl, hli]
      cases hagg : E.agg with
      | true =>
       show AV.fld (.agg ((List.range E.sz).map (f i))) j = _
       unfold AV.fld
       simp [List.getD_eq_getElem?_getD, List.getElem?_map, List.getElem?_range hj]
      | false =>
       rw [hagg] at hag
       have : E.sz = 1 := by simpa using hag
       have : j = 0 := by omega
       subst this; rfl
     rw [hl']; exact h2
  ·cases hd
theorem open_rows {T : Nat -> Option TI} {r : Reach} {b0 : Nat} {t e : TypeId} {v : Value} {d : DataW H} {ps : List MemPlace} (m : Nat) (hd : datB P T m e = true) (ht : P.underlying t = some (.slice e)) (hval : Value.okWide P w r b0 t v) (h : DataW.Trod enc P w 0 sp held t v d ps) :
  ∃ l : List AV, RepL T w (fun b => b < w.heap.size) (.sl e) v (.sl l) := by
 obtain ⟨fuel, hf⟩ := h
 have hc : v.cells.toList = [v] := by
  unfold Value.okWide at hval
  rw [ht] at hval
  simp only [Cell.okWide, ht, Cell.ok] at hval
  cases v <;> first | rfl | exact hval.elim
 rw [hc] at hf
 exact rep_rows m hd ht hf
theorem mapM_congr' {α β : Type} {f g : α -> Option β} : ∀ {l : List α}, (∀ x ∈ l, f x = g x) -> l.mapM f = l.mapM g
 | [], _ => rfl
 | a :: l, h => by
  rw [List.mapM_cons, List.mapM_cons, h a (by simp), mapM_congr' (fun x hx => h x (by simp [hx]))]
theorem later_cell {a : Addr} {v : Value} (hb : Below w.heap.size w w') (h : w.cell? a = some v) : w'.cell? a = some v := by
 rw [hb.cell (cell_lt h)]; exact h
theorem later_cells {base n : Nat} {a : Addr} {cs : List Value} (hb : Below w.heap.size w w') (h : w.cells? base a n = some cs) : w'.cells? base a n = some cs := by
 obtain ⟨h1, h2⟩ := cells_get h
 unfold World.cells? at h ⊢
 split
 ·rename_i hle
  rw [if_pos hle] at h
  rw [<- h]
  refine mapM_congr' fun i hi => ?_
  have hi' := List.mem_range.1 hi
  have := h2 i hi'
  rw [List.getElem?_eq_getElem (by omega)] at this
  rw [this, later_cell hb this]
 ·rename_i hle
  rw [if_neg hle] at h; cases h
theorem trod_later (hb : Below w.heap.size w w') : ∀ (m : Nat) {t : TypeId} {n : Nat} {cs : List Value} {x : DataW H × List MemPlace}, goodT P m t = true -> DataW.trod enc P w 0 (fun _ => true) held n t cs = some x ->
  DataW.trod enc P w' 0 (fun b => decide (b < w.heap.size)) held n t cs = some x
 | 0, t, n, cs, x, hg, _ => by rw [goodT] at hg; cases hg
 | m + 1, t, 0, cs, x, hg, h => by rw [DataW.trod] at h; cases h
 | m + 1, t, n + 1, cs, x, hg, h => by
  rw [goodT] at hg
  split at hg
  ·rename_i hu
   obtain ⟨b, rfl, rfl⟩ := DataW.trod_bool hu h
   simp [DataW.trod, hu]
  ·rename_i k hu
   obtain ⟨b, rfl, rfl, hw⟩ := DataW.trod_int hu h
   simp [DataW.trod, hu, hw]
  ·rename_i hu
   obtain ⟨b, rfl, rfl, hw⟩ := DataW.trod_string hu h
   simp [DataW.trod, hu, hw]
  ·rename_i e hu
   rcases DataW.trod_slice hu h with ⟨rfl, rfl⟩ | ⟨a, len, cap, elems, rest, n', hn', rfl, rfl, h0, h1, h2, h3, h4, h5, _⟩
   ·simp [DataW.trod, hu]
   ·cases hn'
    simp only [Bool.and_eq_true, decide_eq_true_eq] at hg
    have hel : ∀ i y, (w.cells? 0 (a.add (i * P.cellsOf e)) (P.cellsOf e)).bind (DataW.trod enc P w 0 (fun _ => true) held n e) = some y ->
      (w'.cells? 0 (a.add (i * P.cellsOf e)) (P.cellsOf e)).bind (DataW.trod enc P w' 0 (fun b => decide (b < w.heap.size)) held n e) = some y := by
     intro i y hy
     rw [Option.bind_eq_some_iff] at hy ⊢
     obtain ⟨cs, h6, h7⟩ := hy
     exact ⟨cs, later_cells hb h6, trod_later hb m hg.2 h7⟩
    obtain ⟨h5a, h5b⟩ := h5 rfl
    have e1 : (List.range len).mapM (fun i => (w'.cells? 0 (a.add (i * P.cellsOf e)) (P.cellsOf e)).bind (DataW.trod enc P w' 0 (fun b => decide (b < w.heap.size)) held n e))
      = (List.range len).mapM (fun i => (w.cells? 0 (a.add (i * P.cellsOf e)) (P.cellsOf e)).bind (DataW.trod enc P w 0 (fun _ => true) held n e)) := by
     refine mapM_congr' fun i hi => ?_
     have hi' := List.mem_range.1 hi
     have := h4 i hi'
     rw [List.getElem?_eq_getElem (by omega)] at this
     rw [this, hel i _ this]
    have e2 : (if (decide (a.block < w.heap.size)) = true then (List.range (cap - len)).mapM (fun j => (w'.cells? 0 (a.add ((len + j) * P.cellsOf e)) (P.cellsOf e)).bind (DataW.trod enc P w' 0 (fun b => decide (b < w.heap.size)) held n e)) else some [])
      = (List.range (cap - len)).mapM (fun j => (w.cells? 0 (a.add ((len + j) * P.cellsOf e)) (P.cellsOf e)).bind (DataW.trod enc P w 0 (fun _ => true) held n e)) := by
     have e3 : (List.range (cap - len)).mapM (fun j => (w'.cells? 0 (a.add ((len + j) * P.cellsOf e)) (P.cellsOf e)).bind (DataW.trod enc P w' 0 (fun b => decide (b < w.heap.size)) held n e))
       = (List.range (cap - len)).mapM (fun j => (w.cells? 0 (a.add ((len + j) * P.cellsOf e)) (P.cellsOf e)).bind (DataW.trod enc P w 0 (fun _ => true) held n e)) := by
      refine mapM_congr' fun j hj => ?_
      have hj' := List.mem_range.1 hj
      have := h5b j hj'
      rw [List.getElem?_eq_getElem (by omega)] at this
      rw [this, hel _ _ this]
     rcases Nat.eq_zero_or_pos (cap - len) with hz | hz
     ·rw [hz]
      split
      ·rfl
      ·rfl
     ·have h6 := h5b 0 hz
      rw [List.getElem?_eq_getElem (by omega), Option.bind_eq_some_iff] at h6
      obtain ⟨cs, h7, _⟩ := h6
      obtain ⟨h8, h9⟩ := cells_get h7
      have h10 := h9 0 hg.1
      rw [List.getElem?_eq_getElem (by omega)] at h10
      have h11 := cell_lt h10
      rw [add_block, add_block] at h11
      rw [if_pos (by simpa using h11)]
      exact e3
    unfold DataW.trod at h ⊢
    rw [hu] at h ⊢
    simp only at h ⊢
    rw [if_pos ⟨h0, h1, h2⟩] at h ⊢
    rw [e1, e2]
    simpa using h
  ·rename_i fs hu
   unfold DataW.trod at h ⊢
   rw [hu] at h ⊢
   simp only at h ⊢
   split at h
   ·rename_i hl
    rw [if_pos hl]
    rw [<- h]
    congr 1
    rw [Option.map_eq_some_iff] at h
    obtain ⟨xs, hxs, _⟩ := h
    refine mapM_congr' fun f hf => ?_
    obtain ⟨i, hi⟩ := List.getElem?_of_mem hf
    have h1 := mapM_some_get hxs i f hi
    have h2 := mapM_some_length hxs
    have hlt := (List.getElem?_eq_some_iff.1 hi).1
    rw [List.getElem?_eq_getElem (by omega)] at h1
    rw [h1]
    rw [List.all_eq_true] at hg
    exact trod_later hb m (hg f hf) h1
   ·cases h
  ·cases hg
theorem shut_later (hb : Below w.heap.size w w') {m : Nat} {t : TypeId} {v : Value} {d : DataW H} {ps : List MemPlace} (hg : goodT P m t = true) (h : DataW.Trod enc P w 0 (fun _ => true) held t v d ps) :
  DataW.Trod enc P w' 0 (fun b => decide (b < w.heap.size)) held t v d ps := by
 obtain ⟨n, hn⟩ := h
 exact ⟨n, trod_later hb m hg hn⟩
theorem pre2 {T : Nat -> Option TI} {W : World} {args : List SV} {vals : List Value} (hc : Cat (CV (cc T W (fun b => b < W.heap.size) (fun b => b < W.heap.size))) args vals []) (h0 : 0 < W.heap.size) : Pre T (tab1 W) W args vals (fun b => b < W.heap.size) (fun b => b < W.heap.size) [] := by
 refine ⟨hc, by simp, by simp, fun b hb => hb, fun b hb => hb, fun b ob hb => ?_⟩
 unfold tab1 at hb
 split at hb
 ·rename_i e; subst e; exact ⟨hb, h0⟩
 ·cases hb
theorem cv_rows {T : Nat -> Option TI} {W : World} {e : Nat} {v : Value} {l : List AV} (h : RepL T W (fun b => b < W.heap.size) (.sl e) v (.sl l)) : CV (cc T W (fun b => b < W.heap.size) (fun b => b < W.heap.size)) (.ro e l true) v [] :=
 ⟨rfl, rfl, by simp, h⟩
end Go.Proofs.Ab
namespace Go.Proofs.Ab
set_option linter.unusedVariables false
set_option maxRecDepth 4000
open Go Go.RowKit
variable {H : Type} {enc : TypeId × Value -> H} {P : Program} {w w' : World} {sp : Nat -> Bool} {held : Bool}
inductive Fit (N : Nat) : AV -> Prop
 | no : Fit N .no
 | int (n : Int) : Fit N (.int n)
 | bool (b : Bool) : Fit N (.bool b)
 | str (s : ByteArray) : s.size <= N -> Fit N (.str s)
 | sl (l : List AV) : (∀ a ∈ l, Fit N a) -> Fit N (.sl l)
 | agg (l : List AV) : (∀ a ∈ l, Fit N a) -> Fit N (.agg l)
theorem Fit.s {N : Nat} {a : AV} (h : Fit N a) : a.s.size <= N := by cases h <;> first | assumption | exact Nat.zero_le _
theorem Fit.l {N : Nat} {a : AV} (h : Fit N a) : ∀ b ∈ a.l, Fit N b := by
 cases h with
 | sl l h => exact h
 | agg l h => intro b hb; cases hb
 | _ => intro b hb; cases hb
theorem Fit.fld {N : Nat} {a : AV} (h : Fit N a) (j : Nat) : Fit N (a.fld j) := by
 cases h with
 | agg l h =>
  show Fit N (l.getD j .no)
  rw [List.getD_eq_getElem?_getD]
  cases e : l[j]? with
  | none => exact .no
  | some b => exact h b (List.mem_of_getElem? e)
 | _ => exact .no
theorem Fit.rd {N : Nat} {l : List AV} (h : ∀ a ∈ l, Fit N a) (i : Int) : Fit N (rdA l i) := by
 unfold rdA
 rw [List.getD_eq_getElem?_getD]
 cases e : l[i.toNat]? with
 | none => exact .no
 | some b => exact h b (List.mem_of_getElem? e)
def leafSz (enc : TypeId × Value -> H) (P : Program) (w : World) (sp : Nat -> Bool) (held : Bool) (N : Nat) (k : LK) (v : Value) : Prop :=
 match k with
 | .int k => ∃ n, v = .int k n
 | .bool => ∃ b, v = .bool b
 | .str => ∃ s : ByteArray, v = .string s /\ s.size <= N
 | .sl e => ∃ t n x, P.underlying t = some (.slice e) /\ DataW.trod enc P w 0 sp held n t [v] = some x /\ ∀ m ∈ x.1.weights P t, m <= N
 | _ => False
theorem lvOf_sz {N : Nat} : ∀ (m : Nat) {t : TypeId} {lv : List LK} {n : Nat} {cs : List Value} {x : DataW H × List MemPlace}, lvOf P m t = some lv -> DataW.trod enc P w 0 sp held n t cs = some x -> (∀ m ∈ x.1.weights P t, m <= N) -> PW (leafSz enc P w sp held N) lv cs
 | 0, t, lv, n, cs, x, h, _, _ => by rw [lvOf] at h; cases h
 | m + 1, t, lv, n, cs, x, h, hx, hN => by
  rw [lvOf] at h
  split at h
  ·rename_i hu
   cases h
   obtain ⟨b, rfl, _⟩ := DataW.trod_bool hu hx
   exact ⟨⟨b, rfl⟩, trivial⟩
  ·rename_i k hu
   cases h
   obtain ⟨b, rfl, _⟩ := DataW.trod_int hu hx
   exact ⟨⟨b, rfl⟩, trivial⟩
  ·rename_i hu
   cases h
   obtain ⟨b, rfl, rfl, _⟩ := DataW.trod_string hu hx
   refine ⟨⟨b, rfl, ?_⟩, trivial⟩
   have := hN b.data.toList.length (by simp [DataW.weights])
   rw [Array.length_toList] at this
   exact this
  ·rename_i e hu
   cases h
   rcases DataW.trod_slice hu hx with ⟨rfl, _⟩ | ⟨a, len, cap, elems, rest, n', _, rfl, _⟩
   ·exact ⟨⟨t, n, x, hu, hx, hN⟩, trivial⟩
   ·exact ⟨⟨t, n, x, hu, hx, hN⟩, trivial⟩
  ·rename_i fs hu
   obtain ⟨xs, n', _, hxe, hcs, hxs, hf⟩ := DataW.trod_struct hu hx
   rw [hxe] at hN
   have hN' : ∀ m ∈ DataW.weightsEach P (fs.toList.map (·.type)) (xs.map (·.1)), m <= N := by
    simpa [DataW.weights, hu] using hN
   rw [Option.bind_eq_some_iff] at h
   obtain ⟨l, hl, h⟩ := h
   split at h
   ·rename_i hsz
    cases h
    have key : ∀ (r : List Field) (i o : Nat) (lr : List LK), fs.toList.drop i = r -> lvFs P (lvOf P m) r o = some lr -> PW (leafSz enc P w sp held N) lr ((cs.drop o).take lr.length) := by
     intro r
     induction r with
     | nil => intro i o lr _ h; rw [lvFs] at h; cases h; simp [PW]
     | cons f r ih =>
      intro i o lr hd h
      rw [lvFs] at h
      split at h
      ·rename_i lf hlf
       split at h
       ·rename_i ho
        obtain ⟨ho1, ho2⟩ := ho
        rw [Option.map_eq_some_iff] at h
        obtain ⟨lr', h1, rfl⟩ := h
        have hfi : fs[i]? = some f := by
         have h0 : (fs.toList.drop i)[0]? = some f := by rw [hd]; rfl
         rw [List.getElem?_drop, Nat.add_zero, Array.getElem?_toList] at h0
         exact h0
        have hi := (Array.getElem?_eq_some_iff.1 hfi).1
        have hy := hf i f hfi
        rw [List.getElem?_eq_getElem (by omega), ho1, ho2] at hy
        have hwt : ∀ k ∈ (xs[i]'(by omega)).1.weights P f.type, k <= N := by
         intro k hk
         refine hN' k (DataW.weights_mem_each (j := i) (t := f.type) (d := (xs[i]'(by omega)).1) ?_ ?_ k hk)
         ·rw [List.getElem?_map, Array.getElem?_toList, hfi]; rfl
         ·rw [List.getElem?_map, List.getElem?_eq_getElem (by omega)]; rfl
        have p1 := lvOf_sz m hlf hy hwt
        have p2 := ih (i + 1) (o + lf.length) lr' (by rw [<- List.drop_drop, hd]; rfl) h1
        have := PW.append p1 p2
        rw [List.length_append]
        have e : (cs.drop o).take (lf.length + lr'.length) = (cs.drop o).take lf.length ++ (cs.drop (o + lf.length)).take lr'.length := by
         rw [List.take_add, List.drop_drop]
        rw [e]; exact this
       ·cases h
      ·cases h
    have := key fs.toList 0 0 _ rfl hl
    rw [List.drop_zero, List.take_of_length_le (by omega)] at this
    exact this
   ·cases h
  ·cases h
theorem weights_elem {e : TypeId} {elems : List (DataW H)} {i : Nat} {d : DataW H} (h : elems[i]? = some d) : ∀ m ∈ d.weights P e, m ∈ DataW.weightsAll P e elems := by
 induction elems generalizing i with
 | nil => simp at h
 | cons x r ih =>
  intro m hm
  rw [DataW.weightsAll, List.mem_append]
  cases i with
  | zero => simp at h; subst h; exact .inl hm
  | succ i => exact .inr (ih (by simpa using h) m hm)
open Classical in
theorem rep_fit {T : Nat -> Option TI} {N : Nat} : ∀ (d : Nat) {e t : TypeId} {n : Nat} {v : Value} {x : DataW H × List MemPlace}, datB P T d e = true -> P.underlying t = some (.slice e) -> DataW.trod enc P w 0 sp held n t [v] = some x -> (∀ m ∈ x.1.weights P t, m <= N) ->
  ∃ l : List AV, RepL T w (fun b => b < w.heap.size) (.sl e) v (.sl l) /\ ∀ a ∈ l, Fit N a
 | 0, e, t, n, v, x, hd, _, _, _ => by rw [datB] at hd; cases hd
 | d + 1, e, t, n, v, x, hd, hu, hx, hN => by
  rw [datB] at hd
  split at hd
  ·rename_i E hE
   simp only [Bool.and_eq_true, decide_eq_true_eq, Bool.or_eq_true, List.all_eq_true] at hd
   obtain ⟨hlv, hsz, hag, hks⟩ := hd
   rcases DataW.trod_slice hu hx with ⟨hcs, _⟩ | ⟨a, len, cap, elems, rest, n', _, hcs, hxe, _, hlc, hcm, hel, hels, _, _⟩
   ·cases hcs
    exact ⟨[], .slnil e _ rfl, by simp⟩
   ·cases hcs
    have hN' : ∀ (i : Nat) (hi : i < elems.length), ∀ m ∈ (elems[i]).1.weights P e, m <= N := by
     intro i hi m hm
     refine hN m ?_
     rw [hxe]
     have := weights_elem (P := P) (e := e) (elems := elems.map (·.1)) (i := i) (d := (elems[i]).1) (by rw [List.getElem?_map, List.getElem?_eq_getElem hi]; rfl) m hm
     simp only [DataW.weights, hu, List.mem_cons, List.mem_append]
     exact .inr (.inl this)
    have cell : ∀ (i j : Nat) k, i < len -> E.lv[j]? = some k -> ∃ u, w.cell? (a.add (i * E.sz + j)) = some u /\ ∃ b : AV, RepL T w (fun b => b < w.heap.size) k u b /\ Fit N b := by
     intro i j k hi hk
     have h1 := hels i hi
     rw [List.getElem?_eq_getElem (by omega), Option.bind_eq_some_iff] at h1
     obtain ⟨csi, h2, h3⟩ := h1
     obtain ⟨h4, h5⟩ := cells_get h2
     have hj : j < E.lv.length := (List.getElem?_eq_some_iff.1 hk).1
     have hj' : j < csi.length := by rw [h4, hsz]; exact hj
     have h6 := h5 j (by rw [hsz]; exact hj)
     rw [add_add, List.getElem?_eq_getElem hj', hsz] at h6
     refine ⟨_, h6, ?_⟩
     have h7 := (lvOf_sz 20 hlv h3 (hN' i (by omega))).get hk (List.getElem?_eq_getElem hj')
     have h8 := hks k (List.mem_of_getElem? hk)
     generalize csi[j] = u at h7
     cases k with
     | int k => obtain ⟨m, rfl⟩ := h7; exact ⟨.int m, .int k (.int m), .int m⟩
     | bool => obtain ⟨b, rfl⟩ := h7; exact ⟨.bool b, .bool (.bool b), .bool b⟩
     | str => obtain ⟨s, rfl, hs⟩ := h7; exact ⟨.str s, .str (.str s), .str s hs⟩
     | sl e' =>
      obtain ⟨t', m, y, h9, h10, h11⟩ := h7
      obtain ⟨l, hl, hf⟩ := rep_fit d h8 h9 h10 h11
      exact ⟨.sl l, hl, .sl l hf⟩
     | ptr => exact h7.elim
     | fn => exact h7.elim
     | nos => exact h7.elim
     | ifc => exact h7.elim
     | oth => exact h7.elim
     | mp _ _ => exact h7.elim
    have pick : ∃ f : Nat -> Nat -> AV, (∀ i j, Fit N (f i j)) /\ ∀ (i j : Nat) k, i < len -> E.lv[j]? = some k -> ∀ u, w.cell? (a.add (i * E.sz + j)) = some u -> RepL T w (fun b => b < w.heap.size) k u (f i j) := by
     refine ⟨fun i j => if h : ∃ b : AV, Fit N b /\ ∀ k u, E.lv[j]? = some k -> w.cell? (a.add (i * E.sz + j)) = some u -> RepL T w (fun b => b < w.heap.size) k u b then Classical.choose h else .no, fun i j => ?_, ?_⟩
     ·simp only
      split
      ·rename_i h; exact (Classical.choose_spec h).1
      ·exact .no
     intro i j k hi hk u hu'
     have h : ∃ b : AV, Fit N b /\ ∀ k u, E.lv[j]? = some k -> w.cell? (a.add (i * E.sz + j)) = some u -> RepL T w (fun b => b < w.heap.size) k u b := by
      obtain ⟨u0, h1, b, h2, h3⟩ := cell i j k hi hk
      refine ⟨b, h3, fun k' u' hk' hu2 => ?_⟩
      rw [hk] at hk'; cases hk'
      rw [h1] at hu2; cases hu2
      exact h2
     simp only
     rw [dif_pos h]
     exact (Classical.choose_spec h).2 k u hk hu'
    obtain ⟨f, hfit, hf⟩ := pick
    let l : List AV := (List.range len).map fun i => bif E.agg then .agg ((List.range E.sz).map (f i)) else f i 0
    have hll : l.length = len := by simp [l]
    let cs : List Value := (List.range (len * E.sz)).map fun m => (w.cell? (a.add m)).getD undef
    have hcl : cs.length = len * E.sz := by simp [cs]
    have hspl : ∀ m, m < len * E.sz -> ∃ i j k, i < len /\ E.lv[j]? = some k /\ m = i * E.sz + j := by
     intro m hm
     have hp : 0 < E.sz := by
      rcases Nat.eq_zero_or_pos E.sz with h | h
      ·rw [h, Nat.mul_zero] at hm; omega
      ·exact h
     refine ⟨m / E.sz, m % E.sz, E.lv[m % E.sz]'(Nat.mod_lt _ hp), ?_, List.getElem?_eq_getElem _, ?_⟩
     ·rw [Nat.div_lt_iff_lt_mul hp]; exact hm
     ·rw [Nat.mul_comm]; exact (Nat.div_add_mod m E.sz).symm
    have hcv : ∀ (m : Nat) u, cs[m]? = some u -> m < len * E.sz /\ w.cell? (a.add m) = some u := by
     intro m u hmu
     have hm : m < len * E.sz := by rw [<- hcl]; exact (List.getElem?_eq_some_iff.1 hmu).1
     refine ⟨hm, ?_⟩
     obtain ⟨i, j, k, hi, hk, rfl⟩ := hspl m hm
     obtain ⟨u0, h1, _⟩ := cell i j k hi hk
     have : cs[i * E.sz + j]? = some u0 := by
      simp only [cs, List.getElem?_map, List.getElem?_range hm, Option.map_some, h1, Option.getD_some]
     rw [this] at hmu; cases hmu; exact h1
    refine ⟨l, .sl e E a len cap (.sl l) cs hE hll.symm hlc hcm hcl (fun m u hmu => ?_) (fun i j k hi hk u hu' => ?_), ?_⟩
    ·have := (hcv m u hmu).2
     refine ⟨?_, this⟩
     have h1 := cell_lt this
     rwa [add_block] at h1
    ·have h1 := (hcv _ u hu').2
     have h2 := hf i j k hi hk u h1
     have hj : j < E.sz := (List.getElem?_eq_some_iff.1 hk).1
     have hli : l.getD i .no = bif E.agg then .agg ((List.range E.sz).map (f i)) else f i 0 := by
      rw [List.getD_eq_getElem?_getD]
      simp only [l, List.getElem?_map, List.getElem?_range hi, Option.map_some, Option.getD_some]
     have hl' : lf E.agg ((AV.sl l).l.getD i .no) j = f i j := by
      rw [show (AV.sl l).l = l from rfl, hli]
      cases hagg : E.agg with
      | true =>
       show AV.fld (.agg ((List.range E.sz).map (f i))) j = _
       unfold AV.fld
       simp [List.getD_eq_getElem?_getD, List.getElem?_map, List.getElem?_range hj]
      | false =>
       rw [hagg] at hag
       have : E.sz = 1 := by simpa using hag
       have : j = 0 := by omega
       subst this; rfl
     rw [hl']; exact h2
    ·intro b hb
     simp only [l, List.mem_map] at hb
     obtain ⟨i, _, rfl⟩ := hb
     cases E.agg with
     | false => exact hfit i 0
     | true =>
      refine .agg _ fun c hc => ?_
      obtain ⟨j, _, rfl⟩ := List.mem_map.1 hc
      exact hfit i j
  ·cases hd
theorem open_fit {T : Nat -> Option TI} {r : Reach} {b0 N : Nat} {t e : TypeId} {v : Value} {d : DataW H} {ps : List MemPlace} (m : Nat) (hd : datB P T m e = true) (ht : P.underlying t = some (.slice e)) (hval : Value.okWide P w r b0 t v) (h : DataW.Trod enc P w 0 sp held t v d ps) (hN : ∀ n ∈ d.weights P t, n <= N) :
  ∃ l : List AV, RepL T w (fun b => b < w.heap.size) (.sl e) v (.sl l) /\ ∀ a ∈ l, Fit N a := by
 obtain ⟨fuel, hf⟩ := h
 have hc : v.cells.toList = [v] := by
  unfold Value.okWide at hval
  rw [ht] at hval
  simp only [Cell.okWide, ht, Cell.ok] at hval
  cases v <;> first | rfl | exact hval.elim
 rw [hc] at hf
 exact rep_fit m hd ht hf hN
theorem str_weight {t : TypeId} {s : ByteArray} {N : Nat} (h : ∀ n ∈ (DataW.lit (H := H) (.string s.data.toList)).weights P t, n <= N) : s.size <= N := by
 have := h s.data.toList.length (by simp [DataW.weights])
 rw [Array.length_toList] at this
 exact this
theorem weights_at {ts : List TypeId} {ds : List (DataW H)} (h : (DataW.weightsEach P ts ds).all (· <= reachBytes) = true) {j : Nat} {t : TypeId} {d : DataW H} (ht : ts[j]? = some t) (hd : ds[j]? = some d) : ∀ n ∈ d.weights P t, n <= 140737488351232 := by
 intro n hn
 have h1 := DataW.weights_mem_each ht hd n hn
 rw [List.all_eq_true] at h
 have := of_decide_eq_true (h n h1)
 exact this
end Go.Proofs.Ab
