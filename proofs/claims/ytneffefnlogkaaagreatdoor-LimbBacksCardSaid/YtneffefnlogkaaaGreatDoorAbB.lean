/- The abstract machine: a run of a function's code over data without memory, and the proof that whatever this run says is what a call does (conditions: those of each lemma). -/
import Derived.Test.YtneffefnlogkaaaGreatDoorAbA
import Derived.Lib.UnsafeStr
import Derived.Lib.ConvBytes
import Derived.Laws.BytesString
import Derived.Scope
set_option linter.unusedVariables false
set_option linter.unusedSimpArgs false
set_option maxRecDepth 4000
namespace Go.Proofs.Ab
open Go
variable {R : Type}
theorem tX {c : Cx} {Q' : Nat -> Prop} {e : Nat} {D : TI} {l : List AV} {cs : List Value} {st : Bool} {v : Value} (hT : c.T e = some D) {arr : Bool} (hown : eX c.w arr e D.sz v l.length cs) (hrc : RC c.T c.w (c.Q st) D l cs)
  (hb : ∀ b ∈ v.ownBlock.toList, Q' b) (hQ : ∀ b, c.Q st b -> Q' b) : dY c.T c.w Q' (.sl e) v (.sl l) := by
 obtain ⟨hlen, hv⟩ := hown
 rcases hv with ⟨hv, hn⟩ | ⟨g, cap, cur, q, fz, hv, _, hg, _, hnc, hcm, hcs, htake⟩
 ·rw [hv]; exact .slnil e _ (List.eq_nil_of_length_eq_zero hn)
 ·rw [hv]
  refine .sl e D ⟨g, 0, none⟩ _ cap (.sl l) cs hT rfl hnc hcm hlen (fun j v hj => ⟨hb g (by simp [hv, Value.ownBlock]), ?_⟩) (fun i j k hi hk v hj => (hrc i j k hi hk v hj).mono hQ (fun _ _ => rfl))
  rw [add_plain]
  show c.w.cell? ⟨g, 0 + j, none⟩ = some v
  rw [Nat.zero_add, cell_of_row c.w g j cur q fz hg]
  rw [<- htake] at hj
  rw [List.getElem?_take] at hj
  split at hj
  ·simpa using hj
  ·cases hj
theorem pk {c : Cx} {x : SV} {v : Value} (ht : tok x = none) (hn : x ≠ .nos) (hf : ∀ e l st, x ≠ .fr e l st) (h : SL c x v) : CL c x v [] := by
 unfold CL; split
 ·exact absurd rfl (hf _ _ _)
 ·exact ⟨rfl, ht, hn, h⟩
theorem B' {c : Cx} {b : Nat} {x : SV} {v : Value} {bs : List Nat} (hn : x ≠ .nos) (h : CL c x v bs) : yp c b x v bs := by
 unfold yp; split
 ·exact absurd rfl hn
 ·exact h
theorem nn {c : Cx} {x : SV} {v : Value} {bs : List Nat} (h : CL c x v bs) (b : Nat) : yp c b x v bs := by
 refine B' (fun e => ?_) h
 subst e; exact h.2.2.1 rfl
theorem qU {c : Cx} {b : Nat} {x : SV} {v : Value} (h : lL c b x v) : SL c x v := by
 unfold lL at h; split at h
 ·trivial
 ·exact h
theorem lQ {b : Bool} {x y : SV} (h : (bif b then some x else none) = some y) : b = true /\ x = y := by
 cases b
 ·cases h
 ·exact ⟨rfl, Option.some.inj h⟩
section
variable {E : Env} {s : St} {a : Act} {w w' : World} {β : Nat -> Bl} {Rt Ra : Nat -> Prop}
theorem mT {Ra' : Nat -> Prop} (hRa : ∀ b, Ra b -> Ra' b) {x : SV} {v : Value} (hk : known x = true) (ht : tok x = none) (h : SL (bu E s w β Rt Ra) x v) : CL (cc E.T w Rt Ra') x v [] := by
 refine pk ht (fun e => by subst e; cases hk) (fun e l st e' => by subst e'; cases hk) (lO (c := bu E s w β Rt Ra) (c' := cc E.T w Rt Ra') rfl rfl (fun st b hq => ?_) ht h)
 unfold Cx.Q at hq ⊢; split at hq
 ·rename_i e; rw [if_pos e]; exact hq
 ·rename_i e; rw [if_neg e]; exact hRa b hq
theorem Es {Ra' : Nat -> Prop} (hsub : ∀ b, Rt b -> Ra b) (hRa : ∀ b, Ra b -> Ra' b) (st : Bool) (b : Nat) (h : (bu E s w β Rt Ra).Q st b) : (cc E.T w Rt Ra').Q false b := by
 unfold Cx.Q at h ⊢; rw [if_neg (by decide)]
 split at h
 ·exact hRa b (hsub b h)
 ·exact hRa b h
theorem kI {Ra' : Nat -> Prop} (h : Rel E s a w β Rt Ra) (hRa : ∀ b, Ra b -> Ra' b) {x y : SV} {v : Value} (hS : ∀ t ∈ iJ [x], ∀ o, s.obj t = some o -> ∀ b ∈ bV (β t) o, Ra' b) (hx : SL (bu E s w β Rt Ra) x v) (hc : fH s x = some y) : CL (cc E.T w Rt Ra') y v [] := by
 unfold fH at hc
 split at hc
 ·rename_i e n l st
  cases hc
  refine pk rfl (by simp) (by simp) (lO (c := bu E s w β Rt Ra) (c' := cc E.T w Rt Ra') rfl rfl (fun st b hq => ?_) rfl hx)
  unfold Cx.Q at hq ⊢; split at hq
  ·rename_i e; rw [if_pos e]; exact hq
  ·rename_i e; rw [if_neg e]; exact hRa b hq
 ·rename_i t
  split at hc
  ·rename_i e l st ho
   cases hc
   obtain ⟨D, cs, hT, hsz, hown, hrc⟩ := h.objs t _ ho
   obtain ⟨_, hv, _⟩ := hx
   refine pk rfl (by simp) (by simp) ?_
   show dY _ _ _ _ _ _
   rw [hv]
   exact tX (c := bu E s w β Rt Ra) hT hown hrc (fun b hb => by
    unfold Cx.Q; rw [if_neg (by decide)]; exact hS t (by simp [iJ]) _ ho b hb) (Es h.sub hRa st)
  ·cases hc
 ·rename_i t lo hi
  split at hc
  ·rename_i e l st ho
   cases hc
   obtain ⟨D, cs, hT, hsz, hown, hrc⟩ := h.objs t _ ho
   obtain ⟨hd, g0, g1, hv⟩ := hx
   refine pk rfl (by simp) (by simp) ?_
   show dY _ _ _ _ _ _
   have hrow := tX (c := bu E s w β Rt Ra) (Q' := (cc E.T w Rt Ra').Q false) hT hown hrc (fun b hb => by
    unfold Cx.Q; rw [if_neg (by decide)]; exact hS t (by simp [iJ]) _ ho b hb) (Es h.sub hRa st)
   rcases hv with ⟨hv0, hh, hv⟩ | ⟨g, n, cap, ad, hv0, g2, hv, had⟩
   ·rw [hv]
    refine .slnil e _ (List.eq_nil_of_length_eq_zero ?_)
    simp only [AV.l, jn, List.length_drop, List.length_take]; omega
   ·have hv0' : (β t).v = .slice (some ⟨g, 0, none⟩) n cap := hv0
    rw [hv0'] at hown hrow
    have hn : n = l.length /\ n <= cap /\ cap <= maxLen := by
     rcases fh hown with ⟨h', _⟩ | ⟨_, _, h', h1, h2⟩
     ·cases h'
     ·cases h'; exact ⟨rfl, h1, h2⟩
    obtain ⟨hn, hcap, hmax⟩ := hn
    subst hn
    have hlen := rD l lo hi g0 g1 (by omega)
    rw [hv]
    by_cases hlt : lo < hi
    ·have had' : ad = ⟨g, lo.toNat * (β t).sz, none⟩ := had hlt
     have hcut := dY.cut g0 g1 (by omega) hT hrow
     rw [if_neg (by omega), add_plain, Nat.zero_add] at hcut
     have hsz' : (β t).sz = D.sz := hsz
     rw [had', hsz', show (hi - lo).toNat = hi.toNat - lo.toNat by omega]
     exact hcut
    ·have h0 : (jn l lo hi).length = 0 := by rw [hlen]; omega
     refine .sl e D ad _ _ _ [] hT (by simp only [AV.l]; rw [h0]; omega) (by omega) (by omega) (by rw [show (hi - lo).toNat = 0 by omega]; simp) (fun j v hj => by simp at hj) (fun i j k hi' => by omega)
  ·cases hc
 ·cases hc
 ·cases hc
 ·cases hc
 ·cases hc
 ·cases hc
 ·cases hc
 ·rename_i hn1 hn2 hn3 hn4 _ hn6 hn7 hn8
  obtain ⟨hk, rfl⟩ := lQ hc
  refine mT hRa hk ?_ hx
  cases x <;> first | rfl | exact absurd rfl (hn6 _ _) | exact absurd rfl (hn7 _ _) | exact absurd rfl (hn8 _) | exact absurd rfl (hn1 _) | exact absurd rfl (hn2 _ _ _) | exact absurd rfl (hn3 _ _) | exact absurd rfl (hn4 _ _ _) | cases hk
theorem oO (x : SV) (r : List SV) (t : Nat) : t ∈ iJ (x :: r) ↔ t ∈ iJ [x] ∨ t ∈ iJ r := by
 cases x <;> simp [iJ]
theorem kK {Ra' : Nat -> Prop} (h : Rel E s a w β Rt Ra) (hRa : ∀ b, Ra b -> Ra' b) : ∀ (l : List SV) (vs : List Value) (ys : List SV), (∀ t ∈ iJ l, ∀ o, s.obj t = some o -> ∀ b ∈ bV (β t) o, Ra' b) -> PW (SL (bu E s w β Rt Ra)) l vs -> gi s l = some ys -> je (CL (cc E.T w Rt Ra')) ys vs []
 | [], [], ys, _, _, hc => by cases hc; rfl
 | x :: l, v :: vs, ys, hS, hp, hc => by
  unfold gi at hc
  split at hc
  ·rename_i y zs h1 h2
   cases hc
   exact ⟨[], [], rfl, kI h hRa (fun t ht => hS t ((oO x l t).2 (.inl ht))) hp.1 h1, kK h hRa l vs zs (fun t ht => hS t ((oO x l t).2 (.inr ht))) hp.2 h2⟩
  ·cases hc
 | [], _ :: _, _, _, hp, _ => hp.elim
 | _ :: _, [], _, _, hp, _ => hp.elim
def tb (s : St) (β : Nat -> Bl) (t : Nat) : List Nat :=
 match s.obj t with
 | some o => bV (β t) o
 | none => []
theorem mF {Ra' : Nat -> Prop} (h : Rel E s a w β Rt Ra) (hRa : ∀ b, Ra b -> Ra' b) {b : Nat} {x y : SV} {v : Value} (hx : lL (bu E s w β Rt Ra) b x v) (hc : kV s x = some y) : yp (cc E.T w Rt Ra') b y v ((ez [x]).flatMap (tb s β)) := by
 unfold kV at hc
 split at hc
 ·rename_i t
  split at hc
  ·rename_i e l st ho
   cases hc
   obtain ⟨D, cs, hT, hsz, hown, hrc⟩ := h.objs t _ ho
   obtain ⟨_, hv, _, harr⟩ : _ /\ v = (β t).v /\ _ /\ (β t).arr = false := hx
   have hown : eX w (β t).arr e D.sz (β t).v l.length cs := hown
   rw [harr] at hown
   refine ⟨D, cs, hT, hv ▸ hown, ?_, ?_⟩
   ·refine hrc.mono (fun b hq => ?_) (fun _ _ => rfl)
    unfold Cx.Q at hq ⊢; split at hq
    ·rename_i e; rw [if_pos e]; exact hq
    ·rename_i e; rw [if_neg e]; exact hRa b hq
   ·simp only [ez, List.flatMap_cons, List.flatMap_nil, List.append_nil, tb, ho, bV, hv]
  ·cases hc
 ·cases hc; exact ⟨rfl, rfl, by simp, trivial⟩
 ·cases hc; exact ⟨rfl, hx⟩
 ·cases hc
 ·cases hc
 ·cases hc
 ·cases hc
 ·cases hc
 ·cases hc
 ·cases hc
 ·rename_i hn1 hn0 hn00 hn2 hn3 hn4 hn5 hn6 hn7 hn8
  obtain ⟨hk, rfl⟩ := lQ hc
  have hs : SL (bu E s w β Rt Ra) x v := qU hx
  have ho : ez [x] = [] := by cases x <;> first | rfl | exact absurd rfl (hn1 _)
  rw [ho]
  refine nn (mT hRa hk ?_ hs) b
  cases x <;> first | rfl | exact absurd rfl (hn6 _ _) | exact absurd rfl (hn7 _ _) | exact absurd rfl (hn8 _) | exact absurd rfl (hn1 _) | exact absurd rfl (hn2 _ _ _) | exact absurd rfl (hn3 _ _) | exact absurd rfl (hn4 _ _ _) | cases hk
theorem iH (x : SV) (r : List SV) : ez (x :: r) = ez [x] ++ ez r := by
 cases x <;> simp [ez]
theorem mG {Ra' : Nat -> Prop} (h : Rel E s a w β Rt Ra) (hRa : ∀ b, Ra b -> Ra' b) {b : Nat} : ∀ (l : List SV) (vs : List Value) (ys : List SV), PW (lL (bu E s w β Rt Ra) b) l vs -> ix s l = some ys -> je (yp (cc E.T w Rt Ra') b) ys vs ((ez l).flatMap (tb s β))
 | [], [], ys, _, hc => by cases hc; rfl
 | x :: l, v :: vs, ys, hp, hc => by
  unfold ix at hc
  split at hc
  ·rename_i y zs h1 h2
   cases hc
   rw [iH, List.flatMap_append]
   exact ⟨_, _, rfl, mF h hRa hp.1 h1, mG h hRa l vs zs hp.2 h2⟩
  ·cases hc
 | [], _ :: _, _, hp, _ => hp.elim
 | _ :: _, [], _, hp, _ => hp.elim
end
end Go.Proofs.Ab
namespace Go.Proofs.Ab
open Go
variable {R : Type}
section
variable {E : Env} {s : St} {a : Act} {w w' : World} {β : Nat -> Bl} {Rt Ra : Nat -> Prop}
theorem kA {x : SV} (hx : ∀ l, x ≠ .agg l) : leaves x = [x] := by
 cases x <;> first | rfl | exact absurd rfl (hx _)
theorem uE (l : List SV) : fH s (.tup l) = none := rfl
theorem nA (t off : Nat) : fH s (.ptr t off) = none := rfl
theorem sk {x : SV} (h1 : ∀ l, x ≠ .agg l) (h2 : ∀ t off, x ≠ .ptr t off) : fb s x = fH s x := by
 cases x <;> first | rfl | exact absurd rfl (h1 _) | exact absurd rfl (h2 _ _)
def Shape (x c : SV) : Prop := (∃ t, x = .ptr t 0 /\ ∃ ty l, c = .vp ty l) ∨ ((∀ t o, x ≠ .ptr t o) /\ ∀ ty l, c ≠ .vp ty l)
theorem Ca {c : Cx} {x : SV} {v : Value} {bs : List Nat} (hx : ∀ ty l, x ≠ .vp ty l) (h : vO c x v bs) : CV c x v bs := by
 unfold CV; split
 ·exact absurd rfl (hx _ _)
 ·exact h
theorem yv {c : Cx} {x : SV} {v : Value} {bs : List Nat} (h : CL c x v bs) : vO c x v bs := by
 unfold vO; split
 ·exact h.2.2.2.elim
 ·exact h
theorem Di {c : Cx} {ty : Nat} {l : List SV} {v : Value} {bs : List Nat} (h : CL c (.vp ty l) v bs) : False := h.2.2.2
theorem ry {x : SV} (hx : ∀ t o, x ≠ .ptr t o) (r : List SV) : ie s (x :: r) = ie s r := by
 cases x <;> first | rfl | exact absurd rfl (hx _ _)
theorem zq (x : SV) (r : List SV) : ie s (x :: r) = ie s [x] ++ ie s r := by
 cases x <;> simp [ie]
theorem rf {Ra' : Nat -> Prop} (h : Rel E s a w β Rt Ra) (hRa : ∀ b, Ra b -> Ra' b) {x y : SV} {v : Value} (hS : ∀ t ∈ iJ (leaves x), ∀ o, s.obj t = some o -> ∀ b ∈ bV (β t) o, Ra' b) (hx : S2 (bu E s w β Rt Ra) x v) (hc : fb s x = some y) : CV (cc E.T w Rt Ra') y v ((ie s [x]).flatMap (tb s β)) /\ Shape x y := by
 rcases gj x with ⟨l, rfl⟩ | h1
 ·simp only [fb] at hc
  split at hc
  ·rename_i ys hl; cases hc
   obtain ⟨cs, rfl, hp⟩ := iP hx
   exact ⟨⟨cs, rfl, kK h hRa l _ ys hS hp hl⟩, .inr ⟨by simp, by simp⟩⟩
  ·cases hc
 ·by_cases h2 : ∃ t off, x = .ptr t off
  ·obtain ⟨t, off, rfl⟩ := h2
   unfold fb at hc
   split at hc
   ·cases ‹SV.ptr _ _ = SV.agg _›
   ·rename_i t' e
    cases e
    split at hc
    ·rename_i ty ls ho
     split at hc
     ·rename_i ys hl; cases hc
      obtain ⟨cs, q, hh, hp⟩ := h.objs t _ ho
      obtain ⟨_, hv⟩ : _ /\ v = _ := hx
      refine ⟨⟨(β t).b, cs, q, _, hv, hh, mG h hRa ls _ ys hp hl, ?_⟩, .inl ⟨t, rfl, _, _, rfl⟩⟩
      simp only [ie, ho, List.flatMap_cons, List.append_nil, tb, bV]; rfl
     ·cases hc
    ·cases hc
   ·rw [nA] at hc; cases hc
  ·have h2' : ∀ t off, x ≠ .ptr t off := fun t off e => h2 ⟨t, off, e⟩
   rw [sk h1 h2'] at hc
   rw [kA h1] at hS
   have h3 : ∀ l, x ≠ .tup l := fun l e => by subst e; rw [uE] at hc; cases hc
   have := kI h hRa hS (vR h1 (vS h3 hx)) hc
   have h4 : ∀ ty l, y ≠ .vp ty l := fun ty l e => by subst e; exact Di this
   rw [ry h2']
   exact ⟨Ca h4 (yv this), .inr ⟨h2', h4⟩⟩
theorem kJ {Ra' : Nat -> Prop} (h : Rel E s a w β Rt Ra) (hRa : ∀ b, Ra b -> Ra' b) : ∀ (l : List SV) (vs : List Value) (ys : List SV), (∀ t ∈ seen l, ∀ o, s.obj t = some o -> ∀ b ∈ bV (β t) o, Ra' b) -> PW (S2 (bu E s w β Rt Ra)) l vs -> er s l = some ys ->
  je (CV (cc E.T w Rt Ra')) ys vs ((ie s l).flatMap (tb s β)) /\ PW Shape l ys
 | [], [], ys, _, _, hc => by cases hc; exact ⟨rfl, trivial⟩
 | x :: l, v :: vs, ys, hS, hp, hc => by
  unfold er at hc
  split at hc
  ·rename_i y zs h1 h2
   cases hc
   obtain ⟨g1, g2⟩ := rf h hRa (fun t ht => hS t (List.mem_append_left _ ht)) hp.1 h1
   obtain ⟨g3, g4⟩ := kJ h hRa l vs zs (fun t ht => hS t (List.mem_append_right _ ht)) hp.2 h2
   rw [zq, List.flatMap_append]
   exact ⟨⟨_, _, rfl, g1, g3⟩, g2, g4⟩
  ·cases hc
 | [], _ :: _, _, _, hp, _ => hp.elim
 | _ :: _, [], _, _, hp, _ => hp.elim
theorem eT : ∀ {l : List Nat}, distinct l = true -> l.Nodup
 | [], _ => List.nodup_nil
 | x :: r, h => by
  simp only [distinct, Bool.and_eq_true, Bool.not_eq_true', List.any_eq_false] at h
  refine List.nodup_cons.2 ⟨fun hx => ?_, eT h.2⟩
  exact h.1 x hx (Nat.beq_refl x)
theorem n0 (s : St) : ∀ (l : List SV), (ie s l).Perm (given l ++ bT s l)
 | [] => List.Perm.refl _
 | x :: r => by
  by_cases hx : ∃ t o, x = .ptr t o
  ·obtain ⟨t, o, rfl⟩ := hx
   simp only [ie, given, bT, List.cons_append]
   refine List.Perm.cons _ ?_
   exact ((n0 s r).append_left _).trans (by
    rw [<- List.append_assoc, <- List.append_assoc]
    exact List.perm_append_comm.append_right _)
  ·have h1 : ∀ t o, x ≠ .ptr t o := fun t o e => hx ⟨t, o, e⟩
   rw [ry h1]
   have h2 : given (x :: r) = given r := by cases x <;> first | rfl | exact absurd rfl (h1 _ _)
   have h3 : bT s (x :: r) = bT s r := by cases x <;> first | rfl | exact absurd rfl (h1 _ _)
   rw [h2, h3]; exact n0 s r
theorem Ao (t : Nat) : (tb s β t).Nodup := by
 unfold tb; split
 ·rename_i o _
  cases o with
  | row e l st => simp only [bV]; cases (β t).v.ownBlock <;> simp
  | var ty ls => simp [bV]
  | sit b p => simp [bV]
  | mp k e l => simp [bV]
  | hole => simp [bV]
 ·exact List.nodup_nil
theorem ue (h : RelO E s w β Rt Ra) {t t' : Nat} (hn : t ≠ t') : ∀ b ∈ tb s β t, b ∉ tb s β t' := by
 intro b hb hb'
 unfold tb at hb hb'
 split at hb
 ·rename_i o ho
  split at hb'
  ·rename_i o' ho'; exact h.apart t o t' o' ho ho' hn b hb hb'
  ·cases hb'
 ·cases hb
theorem jV (h : RelO E s w β Rt Ra) : ∀ {l : List Nat}, l.Nodup -> (l.flatMap (tb s β)).Nodup
 | [], _ => List.nodup_nil
 | t :: r, hn => by
  rw [List.nodup_cons] at hn
  rw [List.flatMap_cons, List.nodup_append]
  refine ⟨Ao t, jV h hn.2, fun x hx y hy e => ?_⟩
  subst e
  obtain ⟨t', ht', hy⟩ := List.mem_flatMap.1 hy
  exact ue h (fun e => by subst e; exact hn.1 ht') x hx hy
theorem mh : ∀ (ts : List Nat) {s : St}, Rel E s a w β Rt Ra -> Rel E (fe ts s) a w β Rt Ra
 | [], _, h => h
 | t :: r, _, h => mh r (h.zK t)
theorem zL {s : St} {t k : Nat} {o : Obj} (h : ((s.kill t).drop t).obj k = some o) : k ≠ t /\ ∃ o', s.obj k = some o' /\ ∀ bl, bV bl o = bV bl o' := by
 obtain ⟨hn, o', ho', rfl⟩ := eC h
 exact ⟨hn, o', ho', fun bl => fY bl o' _⟩
theorem vh {s : St} {t k : Nat} {o : Obj} (hn : k ≠ t) (h : s.obj k = some o) : ∃ o', ((s.kill t).drop t).obj k = some o' := by
 rw [nI, if_neg hn, St.kill, rH, h]; exact ⟨_, rfl⟩
theorem mg : ∀ (ts : List Nat) {s : St} {k : Nat} {o : Obj}, (fe ts s).obj k = some o -> k ∉ ts /\ ∃ o', s.obj k = some o' /\ ∀ bl, bV bl o = bV bl o'
 | [], _, _, o, h => ⟨by simp, o, h, fun _ => rfl⟩
 | t :: r, s, k, o, h => by
  obtain ⟨hn, o1, h1, e1⟩ := mg r h
  obtain ⟨hn2, o2, h2, e2⟩ := zL h1
  exact ⟨by simp [hn, hn2], o2, h2, fun bl => (e1 bl).trans (e2 bl)⟩
theorem mJ : ∀ (ts : List Nat) {s : St} {k : Nat} {o : Obj}, k ∉ ts -> s.obj k = some o -> ∃ o', (fe ts s).obj k = some o'
 | [], _, _, o, _, h => ⟨o, h⟩
 | t :: r, s, k, o, hn, h => by
  simp only [List.mem_cons, not_or] at hn
  obtain ⟨o1, h1⟩ := vh hn.1 h
  exact mJ r hn.2 h1
theorem ma : ∀ (ts : List Nat) {s : St} {k : Nat}, (fC ts s).obj k = if k ∈ ts then (s.obj k).map (fun _ => .hole) else s.obj k
 | [], _, _ => by simp [fC]
 | t :: r, s, k => by
  unfold fC; rw [ma r, dF]
  by_cases h1 : k ∈ r <;> by_cases h2 : k = t
  ·subst h2; simp [h1, Function.comp_def]
  ·simp [h1, h2]
  ·subst h2; simp [h1]
  ·simp [h1, h2]
theorem Rel.hole (h : Rel E s a w β Rt Ra) (t : Nat) : Rel E (s.setObj t .hole) a w β Rt Ra :=
 ⟨(h.toRelO.hole t).1, h.len, h.defers, ff (h.toRelO.hole t).2 h.slots⟩
theorem pS : ∀ (ts : List Nat) {s : St}, Rel E s a w β Rt Ra -> Rel E (fC ts s) a w β Rt Ra
 | [], _, h => h
 | t :: r, _, h => pS r (h.hole t)
theorem le_refl (c : Cx) : c.Le c := ⟨rfl, fun _ _ h => h, fun _ _ _ => rfl, fun _ h => h, fun _ _ => rfl⟩
theorem eD : ∀ (ls : List SV) (s : St) {t : Nat}, t < s.next -> (cC s ls).2.obj t = s.obj t
 | [], _, _, _ => rfl
 | x :: r, s, t, ht => by
  by_cases hx : ∃ e l st, x = .fr e l st
  ·obtain ⟨e, l, st, rfl⟩ := hx
   rw [fX]
   refine (eD r (s.new (.row e l st)) (Nat.lt_succ_of_lt ht)).trans ?_
   rw [fg, if_neg (Nat.ne_of_lt ht)]
  ·rw [gK s x r fun e l st e' => hx ⟨e, l, st, e'⟩]; exact eD r s ht
def D0 (s : St) (β : Nat -> Bl) (x : SV) (v : Value) : Prop := ∀ t off, x = .ptr t off -> v = .pointer (some ⟨(β t).b, off, none⟩) /\ s.obj t = some .hole
theorem lN (s : St) (t off : Nat) (r : List SV) (ty : Nat) (ls u : List SV) : eR s (.ptr t off :: r) (.vp ty ls :: u) = eR ((cC s ls).2.setObj t (.var ty (cC s ls).1)) r u := rfl
theorem jl (s : St) {x : SV} (hx : ∀ t o, x ≠ .ptr t o) (r u : List SV) : eR s (x :: r) u = eR s r u := by
 cases x <;> first | rfl | exact absurd rfl (hx _ _)
theorem pj (c : Cx) {x : SV} (hx : ∀ ty l, x ≠ .vp ty l) (r : List SV) (v : Value) (vs : List Value) (u : List SV) (bs : List Nat) : CB c (x :: r) (v :: vs) u bs = CB c r vs u bs := by
 cases x <;> first | rfl | exact absurd rfl (hx _ _)
theorem sI {x : SV} (hx : ∀ t o, x ≠ .ptr t o) (r : List SV) : given (x :: r) = given r := by
 cases x <;> first | rfl | exact absurd rfl (hx _ _)
theorem lZ {t off : Nat} : ∀ {xs : List SV}, SV.ptr t off ∈ xs -> t ∈ given xs
 | [], h => by cases h
 | y :: ys, h => by
  rcases List.mem_cons.1 h with rfl | h
  ·simp [given]
  ·have := lZ h
   cases y <;> simp [given, this]
theorem jm {Rt' : Nat -> Prop} (hR : ∀ b, Rt' b -> Rt b) : ∀ (xs cs : List SV) (vs : List Value) (back : List SV) (bs : List Nat) {s s2 : St} {β : Nat -> Bl}, Rel E s a w β Rt Ra -> PW Shape xs cs -> CB (cc E.T w Rt' Rt') cs vs back bs -> bs.Nodup -> (∀ z ∈ bs, o3 E s w β Ra z) ->
  PW (D0 s β) xs vs -> (given xs).Nodup -> eR s xs back = some s2 ->
  ∃ β', Rel E s2 a w β' Rt Ra /\ ∀ t o, s2.obj t = some o -> (s.obj t = some o /\ β' t = β t) ∨ ∀ z ∈ bV (β' t) o, z ∈ bs
 | [], [], [], back, bs, s, s2, β, h, _, hc, _, _, _, _, hb => by
  obtain ⟨rfl, rfl⟩ := hc
  cases hb
  exact ⟨β, h, fun t o ho => .inl ⟨ho, rfl⟩⟩
 | x :: xs, c :: cs, v :: vs, back, bs, s, s2, β, h, hsh, hc, hnd, hf, hh, hg, hb => by
  rcases hsh.1 with ⟨t, rfl, ty0, l0, rfl⟩ | ⟨h1, h2⟩
  ·simp only [CB] at hc
   split at hc
   ·rename_i ty ls u'
    obtain ⟨b, cs', q, b1, b2, hv, hheap, hcat, rfl, hrest⟩ := hc
    obtain ⟨hv', hhole⟩ := hh.1 t 0 rfl
    have eb : b = (β t).b := by rw [hv] at hv'; simpa using hv'
    rw [lN] at hb
    rw [List.cons_append, List.nodup_cons, List.nodup_append] at hnd
    obtain ⟨nb, nd1, nd2, nd12⟩ := hnd
    obtain ⟨β1, r1, le1, p1, ob1⟩ := fv hR (fun b hb => h.sub b (hR b hb)) ls cs'.toList b1 h hcat nd1 (fun z hz => hf z (by simp [hz]))
    have hlt := h.lt t _ hhole
    have hhole1 : (cC s ls).2.obj t = some .hole := by rw [eD ls s hlt]; exact hhole
    have hβ1 : β1 t = β t := le1.β t ⟨_, hhole⟩
    have hb1 : (β1 t).b = b := by rw [hβ1, eb]
    have hbf := hf b (by simp)
    obtain ⟨r2, le2⟩ := r1.toRelO.set t (.var ty (cC s ls).1) hhole1 (fun z hz => by
      simp only [bV, List.mem_singleton] at hz; rw [hz, hb1]; exact ⟨hbf.1, hbf.2.1, hbf.2.2.1⟩) (fun z hz k o' ho' hz' => by
      simp only [bV, List.mem_singleton] at hz; rw [hz, hb1] at hz'
      rcases ob1 k o' ho' with ⟨ho2, hβ2⟩ | hin
      ·rw [hβ2] at hz'; exact hbf.2.2.2 k o' ho2 hz'
      ·exact nb (List.mem_append_left _ (hin b hz'))) (fun le => ⟨cs', q, by rw [hb1]; exact hheap, by rw [hb1]; exact p1.imp fun _ _ hs => hs.le le⟩)
    have r2' : Rel E ((cC s ls).2.setObj t (.var ty (cC s ls).1)) a w β1 Rt Ra := ⟨r2, r1.len, r1.defers, ff le2 r1.slots⟩
    rw [show given (SV.ptr t 0 :: xs) = t :: given xs from rfl, List.nodup_cons] at hg
    have obs : ∀ k o, ((cC s ls).2.setObj t (.var ty (cC s ls).1)).obj k = some o -> (k = t /\ bV (β1 k) o = [b]) ∨ (k ≠ t /\ ((s.obj k = some o /\ β1 k = β k) ∨ ∀ z ∈ bV (β1 k) o, z ∈ b1)) := by
     intro k o hk
     rw [dF] at hk; split at hk
     ·rename_i e; subst e; rw [hhole1] at hk; cases hk; exact .inl ⟨rfl, by simp [bV, hb1]⟩
     ·rename_i e; exact .inr ⟨e, ob1 k o hk⟩
    obtain ⟨β2, r3, ob3⟩ := jm hR xs cs vs u' b2 r2' hsh.2 hrest nd2 (fun z hz => by
      obtain ⟨f1, f2, f3, f4⟩ := hf z (by simp [hz])
      refine ⟨f1, f2, f3, fun k o hk hz' => ?_⟩
      rcases obs k o hk with ⟨_, e⟩ | ⟨_, ⟨ho2, hβ2⟩ | hin⟩
      ·rw [e, List.mem_singleton] at hz'; subst hz'; exact nb (List.mem_append_right _ hz)
      ·rw [hβ2] at hz'; exact f4 k o ho2 hz'
      ·exact nd12 z (hin z hz') z hz rfl)
     (by
      refine hh.2.imp_mem fun y hy v' hv' t' off' e => ?_
      subst e
      obtain ⟨g1, g2⟩ := hv' t' off' rfl
      have hne : t' ≠ t := fun e => by subst e; exact hg.1 (lZ hy)
      have eβ : β1 t' = β t' := le1.β t' ⟨_, g2⟩
      exact ⟨by rw [eβ]; exact g1, by rw [dF, if_neg hne, eD ls s (h.lt t' _ g2)]; exact g2⟩)
     hg.2 hb
    refine ⟨β2, r3, fun k o hk => ?_⟩
    rcases ob3 k o hk with ⟨ho2, hβ2⟩ | hin
    ·rcases obs k o ho2 with ⟨_, e⟩ | ⟨_, ⟨ho3, hβ3⟩ | hin⟩
     ·exact .inr fun z hz => by rw [hβ2, e, List.mem_singleton] at hz; subst hz; simp
     ·exact .inl ⟨ho3, hβ2.trans hβ3⟩
     ·exact .inr fun z hz => by rw [hβ2] at hz; simp [hin z hz]
    ·exact .inr fun z hz => by simp [hin z hz]
   ·exact hc.elim
  ·rw [jl s h1] at hb
   rw [pj _ h2] at hc
   rw [sI h1] at hg
   exact jm hR xs cs vs back bs h hsh.2 hc hnd hf hh.2 hg hb
 | [], [], _ :: _, _, _, _, _, _, _, _, hc, _, _, _, _, _ => hc.elim
 | [], _ :: _, _, _, _, _, _, _, _, hs, _, _, _, _, _, _ => hs.elim
 | _ :: _, [], _, _, _, _, _, _, _, hs, _, _, _, _, _, _ => hs.elim
 | _ :: _, _ :: _, [], _, _, _, _, _, _, _, _, _, _, hh, _, _ => hh.elim
theorem je.imp {S S' : SV -> Value -> List Nat -> Prop} (hS : ∀ x v bs, S x v bs -> S' x v bs) : ∀ {l : List SV} {vs : List Value} {bs : List Nat}, je S l vs bs -> je S' l vs bs
 | [], [], _, h => h
 | _ :: _, _ :: _, _, ⟨b1, b2, e, h1, h2⟩ => ⟨b1, b2, e, hS _ _ _ h1, je.imp hS h2⟩
 | [], _ :: _, _, h => h.elim
 | _ :: _, [], _, h => h.elim
theorem gL {v : SV} (hv : ∀ l, v ≠ .agg l) (s : St) : ∃ u, (cC s [v]).1 = [u] /\ ef s v = (u, (cC s [v]).2) := by
 by_cases hx : ∃ e l st, v = .fr e l st
 ·obtain ⟨e, l, st, rfl⟩ := hx
  exact ⟨.own s.next, rfl, rfl⟩
 ·have hx' : ∀ e l st, v ≠ .fr e l st := fun e l st e' => hx ⟨e, l, st, e'⟩
  refine ⟨v, by rw [gK s v [] hx']; rfl, ?_⟩
  cases v <;> first | rfl | exact absurd rfl (hx' _ _ _) | exact absurd rfl (hv _)
theorem jA {Rt' Ra' : Nat -> Prop} (hR : ∀ b, Rt' b -> Rt b) (hA : ∀ b, Ra' b -> Ra b) {x : SV} {v : Value} {bs : List Nat} (h : Rel E s a w β Rt Ra) (hx : vO (cc E.T w Rt' Ra') x v bs) (hnd : bs.Nodup) (hf : ∀ z ∈ bs, o3 E s w β Ra z) :
  ∃ β', Rel E (ef s x).2 a w β' Rt Ra /\ (bu E s w β Rt Ra).Le (bu E (ef s x).2 w β' Rt Ra) /\ S1 (bu E (ef s x).2 w β' Rt Ra) (ef s x).1 v /\ ∀ t o, (ef s x).2.obj t = some o -> (s.obj t = some o /\ β' t = β t) ∨ ∀ z ∈ bV (β' t) o, z ∈ bs := by
 rcases gj x with ⟨l, rfl⟩ | h1
 ·obtain ⟨cs, rfl, hc⟩ := hx
  obtain ⟨β', r, le, p, ob⟩ := fv (b := 0) hR hA l cs.toList bs h (hc.imp fun _ _ _ hq => nn hq 0) hnd hf
  exact ⟨β', r, le, ⟨cs, rfl, p.imp fun _ _ => qU⟩, ob⟩
 ·have hcl : CL (cc E.T w Rt' Ra') x v bs := by
   unfold vO at hx; split at hx
   ·exact absurd rfl (h1 _)
   ·exact hx
  obtain ⟨β', r, le, p, ob⟩ := fv (b := 0) hR hA [x] [v] bs h ⟨bs, [], by simp, nn hcl 0, rfl⟩ hnd hf
  obtain ⟨u, hu1, hu2⟩ := gL h1 s
  rw [hu2]
  rw [hu1] at p
  exact ⟨β', r, le, dA (qU p.1), ob⟩
theorem mP {Rt' : Nat -> Prop} (hR : ∀ b, Rt' b -> Rt b) : ∀ (xs : List SV) (vs : List Value) (bs : List Nat) {s : St} {β : Nat -> Bl}, Rel E s a w β Rt Ra -> je (vO (cc E.T w Rt' Rt')) xs vs bs -> bs.Nodup -> (∀ z ∈ bs, o3 E s w β Ra z) ->
  ∃ β', Rel E (fa s xs).2 a w β' Rt Ra /\ (bu E s w β Rt Ra).Le (bu E (fa s xs).2 w β' Rt Ra) /\ PW (S1 (bu E (fa s xs).2 w β' Rt Ra)) (fa s xs).1 vs
 | [], [], bs, s, β, h, hc, _, _ => ⟨β, h, le_refl _, trivial⟩
 | x :: xs, v :: vs, bs, s, β, h, hc, hnd, hf => by
  obtain ⟨b1, b2, rfl, hx, hr⟩ := hc
  rw [List.nodup_append] at hnd
  obtain ⟨β1, r1, le1, p1, ob1⟩ := jA hR (fun b hb => h.sub b (hR b hb)) h hx hnd.1 (fun z hz => hf z (List.mem_append_left _ hz))
  obtain ⟨β2, r2, le2, p2⟩ := mP hR xs vs b2 r1 hr hnd.2.1 (fun z hz => by
   obtain ⟨f1, f2, f3, f4⟩ := hf z (List.mem_append_right _ hz)
   refine ⟨f1, f2, f3, fun t o ho hb => ?_⟩
   rcases ob1 t o ho with ⟨ho', hβ⟩ | hin
   ·rw [hβ] at hb; exact f4 t o ho' hb
   ·exact hnd.2.2 z (hin z hb) z hz rfl)
  exact ⟨β2, r2, le1.trans le2, p1.le le2, p2⟩
 | [], _ :: _, _, _, _, _, h, _, _ => h.elim
 | _ :: _, [], _, _, _, _, h, _, _ => h.elim
end
end Go.Proofs.Ab
namespace Go.Proofs.Ab
open Go
variable {R : Type}
structure EnvOk (C : Cfg R) (tab : bO) (E : Env) : Prop where
 T : E.T = C.ty
 tab : ∀ b ob, tab b = some ob -> E.w0.heap[b]? = some ob /\ E.Rt0 b /\ ¬ E.W0 b
section
variable {P : Program} {E : Env} {o : Oper} {s : St} {a : Act} {w : World} {β : Nat -> Bl} {Rt Ra : Nat -> Prop} {κ : St -> Option R} {r : R} {C : Cfg R} {tab : bO}
theorem tY {c : Call} {f : Operand} {g : Nat} (ho : o.op = .call c) (hc : c.callee = .value f) (hf : a.eval f = .func (.func g) #[] #[]) : (execOp a.eval o).run P w = (callFunc g (c.args.map a.eval)).run P w := by
 unfold execOp; rw [ho]
 simp only [resolve, hc, hf, Deferred.ofValue, Sem.run_bind, Sem.run_pure, Result.andThen_ok, invoke]
 simp
theorem mr {c : Call} {f : Operand} {g : Nat} {p : Array Value} (ho : o.op = .call c) (hc : c.callee = .value f) (hf : a.eval f = .func (.func g) #[] p) : (execOp a.eval o).run P w = (callFunc g (c.args.map a.eval ++ p)).run P w := by
 unfold execOp; rw [ho]
 simp only [resolve, hc, hf, Deferred.ofValue, Sem.run_bind, Sem.run_pure, Result.andThen_ok, invoke]
 simp
theorem iX (h : Rel E s a w β Rt Ra) : ∀ (xs : List Operand), PW (S2 (bu E s w β Rt Ra)) (xs.map (ev s)) (xs.map a.eval)
 | [] => trivial
 | x :: r => ⟨bW h x, iX h r⟩
theorem Ba {t : Nat} {xs ys : List SV} (h : er s xs = some ys) (ht : t ∈ given xs) : ∃ ty ls, s.obj t = some (.var ty ls) := by
 induction xs generalizing ys with
 | nil => cases ht
 | cons x xs ih =>
  unfold er at h
  split at h
  ·rename_i y zs h1 h2
   by_cases hx : ∃ t' o, x = .ptr t' o
   ·obtain ⟨t', o, rfl⟩ := hx
    rcases List.mem_cons.1 ht with rfl | ht
    ·unfold fb at h1
     split at h1
     ·cases ‹SV.ptr _ _ = SV.agg _›
     ·rename_i t'' e; cases e
      split at h1
      ·exact ⟨_, _, by assumption⟩
      ·cases h1
     ·rw [nA] at h1; cases h1
    ·exact ih h2 ht
   ·rw [sI (fun t o e => hx ⟨t, o, e⟩)] at ht; exact ih h2 ht
  ·cases h
theorem sF (ts : List Nat) (h : Rel E s a w β Rt Ra) : ∃ β' Rt' Ra', Rel E (fI ts s) a w β' Rt' Ra' := cT.fI ts ⟨β, Rt, Ra, h⟩
theorem uw {xs : List SV} {vs : List Value} {cs back : List SV} {b1 b2 : List Nat} {w' : World} {v0 : SV} {v : Value} {res : List SV} {Rt' : Nat -> Prop} {s2 : St}
  {bx : List Nat} (hfx : ∀ b ∈ bx, o3 E s w β Ra b) (h : Rel E s a w β Rt Ra) (hp : PW (S2 (bu E s w β Rt Ra)) xs vs) (hcl : er s xs = some cs) (hnd : (ie s xs).Nodup)
  (hpost : o4 E.T w cs vs Rt ((ie s xs).flatMap (tb s β) ++ bx) res v w' Rt' v0 back b1 b2) (hsh : PW Shape xs cs) (hb : eR (fC (given xs) (fe (bT s xs) s)) xs back = some s2) :
  (∃ l, v0 = .tup l /\ ∃ vs' : Array Value, v = .tuple vs' /\ ∃ β2 Rt2 Ra2, Rel E (fa s2 l).2 a w' β2 Rt2 Ra2 /\ PW (S1 (bu E (fa s2 l).2 w' β2 Rt2 Ra2)) (fa s2 l).1 vs'.toList) ∨
  ((∀ l, v0 ≠ .tup l) /\ ∃ β2 Rt2 Ra2, Rel E (ef s2 v0).2 a w' β2 Rt2 Ra2 /\ S1 (bu E (ef s2 v0).2 w' β2 Rt2 Ra2) (ef s2 v0).1 v) := by
 have hperm := n0 s xs
 have hn := hperm.nodup hnd
 rw [List.nodup_append] at hn
 -- blocks that were handed over
 have hbs : ∀ b ∈ (ie s xs).flatMap (tb s β) ++ bx, b < w.heap.size /\ ¬ Ra b /\ (E.w0.heap.size <= b ∨ E.W0 b) /\ ((∃ t ∈ ie s xs, b ∈ tb s β t) ∨ ∀ t o, s.obj t = some o -> b ∉ bV (β t) o) := by
  intro b hb
  rcases List.mem_append.1 hb with hb | hb
  ·obtain ⟨t, ht, hb⟩ := List.mem_flatMap.1 hb
   have hb0 := hb
   unfold tb at hb; split at hb
   ·rename_i o ho; exact ⟨(h.cL t o ho b hb).1, (h.cL t o ho b hb).2.1, (h.cL t o ho b hb).2.2, .inl ⟨t, ht, hb0⟩⟩
   ·cases hb
  ·obtain ⟨f1, f2, f3, f4⟩ := hfx b hb
   exact ⟨f1, f2, f3, .inr f4⟩
 have h1 : Rel E (fC (given xs) (fe (bT s xs) s)) a w β Rt Ra := pS _ (mh _ h)
 -- what objects there are now
 have hob : ∀ t o, (fC (given xs) (fe (bT s xs) s)).obj t = some o -> ∀ b ∈ bV (β t) o, b ∉ (ie s xs).flatMap (tb s β) ++ bx /\ b < w.heap.size := by
  intro t o ho b hbb
  refine ⟨fun hin => ?_, (h1.cL t o ho b hbb).1⟩
  obtain ⟨_, _, _, hor⟩ := hbs b hin
  rw [ma] at ho
  split at ho
  ·rename_i hg
   cases hx : (fe (bT s xs) s).obj t with
   | none => rw [hx] at ho; cases ho
   | some o' => rw [hx] at ho; cases ho; cases hbb
  ·rename_i hg
   obtain ⟨hg2, o', ho', e⟩ := mg _ ho
   rw [e] at hbb
   rcases hor with ⟨t', ht', hb'⟩ | hor
   ·have : t ≠ t' := fun e => by
     subst e
     have := (hperm.mem_iff (a := t)).1 ht'
     rcases List.mem_append.1 this with h | h
     ·exact hg h
     ·exact hg2 h
    refine ue h.toRelO this b ?_ hb'
    unfold tb; rw [ho']; exact hbb
   ·exact hor t o' ho' hbb
 have h2 : Rel E (fC (given xs) (fe (bT s xs) s)) a w' β Rt Ra := h1.world hpost.fr fun b hb => ⟨(hbs b hb).2.1, (hbs b hb).2.2.1, fun t o ho hbb => (hob t o ho b hbb).1 hb⟩
 obtain ⟨h3, _⟩ := h2.more hpost.le fun b hb hnb => by
  obtain ⟨g1, g2⟩ := hpost.lt b hb
  refine ⟨g1, ?_, fun t o ho hbb => ?_⟩
  ·rcases g2 with g2 | g2 | g2
   ·exact absurd g2 hnb
   ·exact .inl (Nat.le_trans h.fr.size g2)
   ·exact (hbs b g2).2.2.1
  ·rcases g2 with g2 | g2 | g2
   ·exact hnb g2
   ·have := (hob t o ho b hbb).2; omega
   ·exact (hob t o ho b hbb).1 g2
 have hfree : ∀ z ∈ b1 ++ b2, o3 E (fC (given xs) (fe (bT s xs) s)) w' β (fun b => Ra b ∨ Rt' b) z := by
  intro z hz
  obtain ⟨g1, g2, g3⟩ := hpost.no z hz
  refine ⟨g2, ?_, ?_, fun t o ho hbb => ?_⟩
  ·rintro (hr | hr)
   ·rcases g3 with g3 | g3
    ·have := h.rlt z hr; omega
    ·exact (hbs z g3).2.1 hr
   ·exact g1 hr
  ·rcases g3 with g3 | g3
   ·exact .inl (Nat.le_trans h.fr.size g3)
   ·exact (hbs z g3).2.2.1
  ·rcases g3 with g3 | g3
   ·have := (hob t o ho z hbb).2; omega
   ·exact (hob t o ho z hbb).1 g3
 have hnd2 := hpost.nd
 rw [List.nodup_append] at hnd2
 obtain ⟨β4, h4, ob4⟩ := jm (fun _ h => h) xs cs vs back b2 h3 hsh hpost.b hnd2.2.1 (fun z hz => hfree z (List.mem_append_right _ hz))
  (by
   refine hp.imp_mem fun x hx v hv t off e => ?_
   subst e
   obtain ⟨_, hv⟩ : _ /\ v = _ := hv
   refine ⟨hv, ?_⟩
   have hg := lZ hx
   obtain ⟨ty, ls, ho⟩ := Ba hcl hg
   obtain ⟨o', ho'⟩ := mJ (bT s xs) (fun hin => hn.2.2 t hg t hin rfl) ho
   rw [ma, if_pos hg, ho']; rfl)
  hn.1 hb
 have hfree2 : ∀ z ∈ b1, o3 E s2 w' β4 (fun b => Ra b ∨ Rt' b) z := by
  intro z hz
  obtain ⟨f1, f2, f3, f4⟩ := hfree z (List.mem_append_left _ hz)
  refine ⟨f1, f2, f3, fun t o ho hbb => ?_⟩
  rcases ob4 t o ho with ⟨ho', hβ⟩ | hin
  ·rw [hβ] at hbb; exact f4 t o ho' hbb
  ·exact hnd2.2.2 z hz z (hin z hbb) rfl
 rcases ow v0 with ⟨l, rfl⟩ | hv
 ·obtain ⟨us, hus, hcat⟩ := hpost.r
  obtain ⟨β5, h5, _, p5⟩ := mP (fun _ h => h) l us.toList b1 h4 hcat hnd2.1 hfree2
  exact .inl ⟨l, rfl, us, hus, β5, _, _, h5, p5⟩
 ·have hr : vO (cc E.T w' Rt' Rt') v0 v b1 := by
   have := hpost.r
   unfold CR at this; split at this
   ·exact absurd rfl (hv _)
   ·exact this
  obtain ⟨β5, h5, _, p5, _⟩ := jA (fun _ h => h) (fun _ h => .inr h) h4 hr hnd2.1 hfree2
  exact .inr ⟨hv, β5, _, _, h5, p5⟩
theorem nD {A : Type} {b : Bool} {k : Option A} {r : A} (h : (bif b then k else none) = some r) : b = true /\ k = some r := by
 cases b with
 | true => exact ⟨rfl, h⟩
 | false => cases h
theorem lP {A : Type} {b : Bool} {k : Option A} {r : A} (h : (bif b then none else k) = some r) : b = false /\ k = some r := by
 cases b with
 | false => exact ⟨rfl, h⟩
 | true => cases h
theorem je.more {S : SV -> Value -> List Nat -> Prop} : ∀ {l : List SV} {vs : List Value} {bs : List Nat} {ex : List SV} {exv : List Value}, je S l vs bs -> PW (fun x v => S x v []) ex exv -> je S (l ++ ex) (vs ++ exv) bs
 | [], [], _, [], [], h, _ => h
 | [], [], bs, x :: ex, v :: exv, h, hx => by
  have h : bs = [] := h
  subst h
  exact ⟨[], [], rfl, hx.1, je.more (l := []) (vs := []) (bs := []) rfl hx.2⟩
 | x :: l, v :: vs, _, _, _, ⟨b1, b2, e, h1, h2⟩, hx => ⟨b1, b2, e, h1, h2.more hx⟩
 | [], [], _, [], _ :: _, _, hx => hx.elim
 | [], [], _, _ :: _, [], _, hx => hx.elim
 | [], _ :: _, _, _, _, h, _ => h.elim
 | _ :: _, [], _, _, _, h, _ => h.elim
theorem je.join {S : SV -> Value -> List Nat -> Prop} : ∀ {l : List SV} {vs : List Value} {bs : List Nat} {ex : List SV} {exv : List Value} {bx : List Nat}, je S l vs bs -> je S ex exv bx -> je S (l ++ ex) (vs ++ exv) (bs ++ bx)
 | [], [], _, _, _, _, h, hx => by
  have h : _ = [] := h
  subst h
  exact hx
 | x :: l, v :: vs, _, _, _, bx, ⟨b1, b2, e, h1, h2⟩, hx => ⟨b1, b2 ++ bx, by rw [e, List.append_assoc], h1, h2.join hx⟩
 | [], _ :: _, _, _, _, _, h, _ => h.elim
 | _ :: _, [], _, _, _, _, h, _ => h.elim
theorem je.none {S : SV -> Value -> List Nat -> Prop} : ∀ {l : List SV} {vs : List Value}, PW (fun x v => S x v []) l vs -> je S l vs []
 | [], [], _ => rfl
 | _ :: _, _ :: _, h => ⟨[], [], rfl, h.1, je.none h.2⟩
 | [], _ :: _, h => h.elim
 | _ :: _, [], h => h.elim
theorem qQ {c : Cx} {ex : List SV} (hex : ∀ x ∈ ex, ∀ ty l, x ≠ .vp ty l) : ∀ {cs : List SV} {vs : List Value} {exv : List Value} {u : List SV} {bs : List Nat}, cs.length = vs.length -> ex.length = exv.length -> CB c (cs ++ ex) (vs ++ exv) u bs -> CB c cs vs u bs
 | [], [], exv, u, bs, hl, he, h => by
  replace h : CB c ex exv u bs := h
  clear hl
  induction ex generalizing exv with
  | nil => cases exv with
   | nil => exact h
   | cons _ _ => simp at he
  | cons x ex ih => cases exv with
   | nil => simp at he
   | cons v exv =>
    rw [pj c (hex x (by simp))] at h
    exact ih (fun y hy => hex y (by simp [hy])) exv (by simpa using he) h
 | x :: cs, v :: vs, exv, u, bs, hl, he, h => by
  by_cases hx : ∃ ty l, x = .vp ty l
  ·obtain ⟨ty, l, rfl⟩ := hx
   cases u with
   | nil => exact h.elim
   | cons y u =>
    cases y <;> first
     | (obtain ⟨b, cs', i, b1, b2, h1, h2, h3, h4, h5⟩ := h
        exact ⟨b, cs', i, b1, b2, h1, h2, h3, h4, qQ hex (by simpa using hl) he h5⟩)
     | exact h.elim
  ·have hn : ∀ ty l, x ≠ .vp ty l := fun ty l e => hx ⟨ty, l, e⟩
   rw [pj c hn]
   rw [List.cons_append, List.cons_append, pj c hn] at h
   exact qQ hex (by simpa using hl) he h
 | [], _ :: _, _, _, _, hl, _, _ => by simp at hl
 | _ :: _, [], _, _, _, hl, _, _ => by simp at hl
theorem uR {q : Bool} (hE : EnvOk C tab E) (hD : ∀ g, bL P C.ty tab g (C.call g)) {s0 : St} {β0 : Nat -> Bl} {Rt0 Ra0 : Nat -> Prop} (h0 : Rel E s0 a w β0 Rt0 Ra0) {fz : List Nat} {g : Nat} {xs ex : List SV} {vals : Array Value} {vx exv : List Value} {bx : List Nat} (hbx : bx.Nodup) (hfx : ∀ b ∈ bx, o3 E s0 w β0 Ra0 b) (hvals : vals.toList = vx ++ exv)
  (hrun0 : (execOp a.eval o).run P w = (callFunc g vals).run P w) (hp : PW (S2 (bu E s0 w β0 Rt0 Ra0)) xs vx)
  (hex : je (CV (cc E.T w Rt0 fun b => Ra0 b ∨ ∃ t o, s0.obj t = some o /\ t ∉ ie s0 xs /\ b ∈ bV (β0 t) o)) ex exv bx) (hexn : ∀ x ∈ ex, ∀ ty l, x ≠ .vp ty l)
  (hk : kH C q fz s0 o.dst g xs ex κ = some r) : dV P E o a w κ r := by
 unfold kH at hk
 simp only at hk
 cases hcond : ((q && !(fz.isEmpty && (bT s0 xs).isEmpty)) || !distinct (ie s0 xs) || (seen xs).any (fun t => (ie s0 xs).any (Nat.beq t))) with
 | true => rw [hcond] at hk; cases hk
 | false =>
  rw [hcond] at hk; simp only [cond_false] at hk
  simp only [Bool.or_eq_false_iff, Bool.not_eq_false'] at hcond
  obtain ⟨⟨_, hdis⟩, hseen⟩ := hcond
  have hnd := eT hdis
  split at hk
  ·cases hk
  ·rename_i cs hcl
   let Ra' : Nat -> Prop := fun b => Ra0 b ∨ ∃ t o, s0.obj t = some o /\ t ∉ ie s0 xs /\ b ∈ bV (β0 t) o
   obtain ⟨hcat, hsh⟩ := kJ (Ra' := Ra') h0 (fun b hb => .inl hb) xs _ cs (fun t ht o' ho' b hb => by
    refine .inr ⟨t, o', ho', fun hin => ?_, hb⟩
    rw [List.any_eq_false] at hseen
    have := hseen t ht
    rw [Bool.not_eq_true, List.any_eq_false] at this
    exact this t hin (Nat.beq_refl t)) hp hcl
   have hcl2 : cs.length = vx.length := hcat.len
   have hpre : Pre C.ty tab w (cs ++ ex) vals.toList Rt0 Ra' ((ie s0 xs).flatMap (tb s0 β0) ++ bx) := by
    refine ⟨by rw [<- hE.T, hvals]; exact hcat.join hex, List.nodup_append.2 ⟨jV h0.toRelO hnd, hbx, fun b hb b' hb' e => ?_⟩, fun b hb => ?_, fun b hb => .inl (h0.sub b hb), fun b hb => ?_, fun b ob hob => ?_⟩
    ·subst e
     obtain ⟨t, ht, hb⟩ := List.mem_flatMap.1 hb
     unfold tb at hb; split at hb
     ·rename_i o' ho'
      exact (hfx b hb').2.2.2 t o' ho' hb
     ·cases hb
    ·rcases List.mem_append.1 hb with hb | hb
     ·obtain ⟨t, ht, hb⟩ := List.mem_flatMap.1 hb
      have hb0 := hb
      unfold tb at hb; split at hb
      ·rename_i o' ho'
       refine ⟨?_, (h0.cL t o' ho' b hb).1⟩
       rintro (hr | ⟨t', o2, ho2, hn2, hb2⟩)
       ·exact (h0.cL t o' ho' b hb).2.1 hr
       ·exact h0.apart t o' t' o2 ho' ho2 (fun e => by subst e; exact hn2 ht) b hb hb2
      ·cases hb
     ·obtain ⟨f1, f2, _, f4⟩ := hfx b hb
      refine ⟨?_, f1⟩
      rintro (hr | ⟨t', o2, ho2, _, hb2⟩)
      ·exact f2 hr
      ·exact f4 t' o2 ho2 hb2
    ·rcases hb with hr | ⟨t', o2, ho2, _, hb2⟩
     ·exact h0.rlt b hr
     ·exact (h0.cL t' o2 ho2 b hb2).1
    ·obtain ⟨g1, g2, g3⟩ := hE.tab b ob hob
     refine ⟨?_, h0.rt0 b g2⟩
     have hlt : b < E.w0.heap.size := (Array.getElem?_eq_some_iff.1 g1).1
     rw [h0.fr.block b hlt g3]; exact g1
   have hans := hD g (cs ++ ex) _ r hk w vals Rt0 Ra' _ hpre
   intro next Q hnext
   have fin : ∀ v w', (∃ res Rt' v0 back b1 b2, (match res with
     | [] => none
     | v :: back => match eR (fC (given xs) (fe (bT s0 xs) s0)) xs back with
      | none => none
      | some s2 => match v with
       | .tup l => match fa s2 l with
        | (us, s3) => κ (s3.put o.dst (.tup us))
       | v => match ef s2 v with
        | (u, s3) => κ (s3.put o.dst u)) = some r /\ o4 C.ty w (cs ++ ex) vals.toList Rt0 ((ie s0 xs).flatMap (tb s0 β0) ++ bx) res v w' Rt' v0 back b1 b2) -> next (a.put o.dst v) w' := by
    rintro v w' ⟨res, Rt', v0, back, b1, b2, hres, hpost⟩
    rw [hpost.res] at hres
    simp only at hres
    split at hres
    ·cases hres
    ·rename_i s2 hs2
     have hb := uw hfx h0 hp hcl hnd (by
      rw [<- hE.T] at hpost
      exact ⟨hpost.res, hpost.fr, hpost.r, qQ hexn hcl2 hex.len (by have := hpost.b; rw [hvals] at this; exact this), hpost.nd, hpost.no, hpost.le, hpost.lt⟩) hsh hs2
     rcases hb with ⟨l, rfl, us, rfl, β2, Rt2, Ra2, hr, hpw⟩ | ⟨hv, β2, Rt2, Ra2, hr, hpw⟩
     ·simp only at hres
      exact hnext _ _ _ hres ⟨β2, Rt2, Ra2, hr.put o.dst ⟨us, rfl, hpw⟩⟩
     ·split at hres
      ·exact absurd rfl (hv _)
      ·exact hnext _ _ _ hres ⟨β2, Rt2, Ra2, hr.put o.dst (dh hpw)⟩
   unfold Oper.wp
   rw [hrun0]
   rcases hans with ⟨v, w', hrun, hq⟩ | ⟨hrun, hcalls⟩
   ·rw [hrun]; exact fin v w' hq
   ·rw [hrun, Oper.upon_enter]
    intro cs'
    obtain ⟨e, w', fr, ⟨v, he, hq⟩, hrest⟩ := hcalls cs'
    subst he
    exact ⟨_, w', fr, fin v w' hq, hrest⟩
theorem uQ {q : Bool} (hE : EnvOk C tab E) (hD : ∀ g, bL P C.ty tab g (C.call g)) {s0 : St} {β0 : Nat -> Bl} {Rt0 Ra0 : Nat -> Prop} (h0 : Rel E s0 a w β0 Rt0 Ra0) {fz : List Nat} {g : Nat} {xs : List SV} {vals : Array Value}
  (hrun0 : (execOp a.eval o).run P w = (callFunc g vals).run P w) (hp : PW (S2 (bu E s0 w β0 Rt0 Ra0)) xs vals.toList) (hk : ny C q fz s0 o.dst g xs κ = some r) : dV P E o a w κ r :=
 uR (ex := []) (exv := []) (bx := []) hE hD h0 List.nodup_nil (by simp) (List.append_nil _).symm hrun0 hp rfl (by simp) hk
theorem tU (hE : E.T = C.ty) {s0 : St} {β0 : Nat -> Bl} {Rt0 Ra0 : Nat -> Prop} (h0 : Rel E s0 a w β0 Rt0 Ra0) {t : Nat} {x : SV} (hx : Ae C s0 t = some x) {Ra' : Nat -> Prop} (hsub : ∀ b, Ra0 b -> Ra' b) (hmem : ∀ o, s0.obj t = some o -> ∀ b ∈ bV (β0 t) o, Ra' b) :
  CV (cc E.T w Rt0 Ra') x (.pointer (some ⟨(β0 t).b, 0, none⟩)) [] /\ ∀ ty l, x ≠ .vp ty l := by
 unfold Ae at hx
 split at hx
 ·rename_i ty ls hob
  split at hx
  ·rename_i T hT
   split at hx
   ·rename_i y hw
    split at hx
    ·rename_i d st hd
     cases hx
     refine ⟨⟨rfl, rfl, by simp, ?_⟩, by simp⟩
     obtain ⟨cs, _, hg, hpw⟩ := h0.objs t _ hob
     have hkn : (leaves y).all known = true := by
      unfold kg at hd
      cases hf : fitAll T.lv (leaves y) with
      | true => exact gm hf
      | false => rw [hf] at hd; cases hd
     have hyl : leaves y = ls ∨ (T.agg = false /\ ls = [y]) := by
      unfold whole at hw
      obtain ⟨_, hw⟩ := nD hw
      cases hag : T.agg with
      | true => rw [hag, cond_true] at hw; cases hw; exact .inl rfl
      | false =>
       rw [hag, cond_false] at hw
       split at hw
       ·cases hw; exact .inr ⟨rfl, rfl⟩
       ·cases hw
     have hne : T.agg = false -> leaves y = [y] := fun hag => by
      unfold kg at hd
      obtain ⟨_, hd⟩ := nD hd
      rw [hag, cond_false] at hd
      cases y <;> first | rfl | cases hd
     have hls : leaves y = ls := hyl.elim id fun ⟨h1, h2⟩ => by rw [hne h1, h2]
     rw [hls] at hkn
     have hsl : PW (SL (bu E s0 w β0 Rt0 Ra0)) ls cs.toList := PW.imp_mem (fun z hz v hv => ji (List.all_eq_true.mp hkn z hz) hv) hpw
     have hdat : ∃ v : Value, v.cells = cs /\ S1 (bu E s0 w β0 Rt0 Ra0) y v := by
      obtain ⟨_, h⟩ := ic hw hsl
      rcases h with ⟨_, h⟩ | ⟨hag, v, e, h⟩
      ·exact ⟨.agg cs, rfl, by simpa using h⟩
      ·refine ⟨v, ?_, h⟩
       have hy : known y = true := by
        have := hne hag
        rw [<- hls, this] at hkn
        simpa using hkn
       have hc1 : v.cells.toList = [v] := by
        have h2 : SL (bu E s0 w β0 Rt0 Ra0) y v := by
         cases y <;> first | exact h | cases hy
        rw [pC (jO hy h2)]
       apply Array.ext'
       rw [hc1, e]
     obtain ⟨v, hv, hs1⟩ := hdat
     obtain ⟨_, hrep⟩ := kM (c := bu E s0 w β0 Rt0 Ra0) h0.sub hd (dh hs1)
     refine ⟨T, ⟨(β0 t).b, 0, none⟩, by show E.T _ = _; rw [hE]; exact hT, rfl, fun j k hk => ?_⟩
     rw [Nat.zero_add] at hk
     have hlen : T.lv.length = cs.size := by
      unfold kg at hd
      obtain ⟨hf, _⟩ := nD hd
      rw [(gw hf).len, hls, hsl.len]; simp
     have hj : j < cs.size := by rw [<- hlen]; exact (List.getElem?_eq_some_iff.mp hk).1
     refine ⟨cs[j], hmem _ hob _ (by simp [bV]), ?_, ?_⟩
     ·show World.cell? w _ = _
      rw [add_plain, cell_of_row w _ _ cs _ (0, 0) hg]
      simp [hj]
     ·rw [Nat.zero_add]
      refine (hrep j k hk cs[j] (by rw [hv]; simp [hj])).mono (fun b hb => ?_) (fun _ _ => rfl)
      show Ra' b
      refine hsub b ?_
      unfold Cx.Q at hb
      split at hb
      ·exact h0.sub b hb
      ·exact hb
    ·cases hx
   ·cases hx
  ·cases hx
 ·cases hx
theorem wN (c : Cx) : ∀ (ts : List Nat), (∀ t ∈ ts, c.D t) -> PW (S2 c) (ts.map fun t => .ptr t 0) (ts.map fun t => Value.pointer (some ⟨(c.β t).b, 0, none⟩))
 | [], _ => trivial
 | t :: ts, h => ⟨⟨h t (by simp), rfl⟩, wN c ts fun u hu => h u (by simp [hu])⟩
theorem zj {q : Bool} (hE : EnvOk C tab E) (hD : ∀ g, bL P C.ty tab g (C.call g)) (h : Rel E s a w β Rt Ra) {c : Call} {f : Operand} (ho : o.op = .call c) (hc : c.callee = .value f) {g : Nat} (hk : vU C q s o.dst f g c.args.toList κ = some r) : dV P E o a w κ r := by
  unfold vU at hk
  cases q with
  | true => cases hk
  | false =>
   simp only [cond_false] at hk
   obtain ⟨β0, Rt0, Ra0, h0⟩ := sF (jW C s g c.args.toList) h
   have hf0 := bW h0 f
   split at hk
   ·rename_i g' t' hg'
    rw [hg'] at hf0
    obtain ⟨hd, hv⟩ : _ /\ a.eval f = _ := hf0
    cases hb : Nat.beq g' g with
    | false => rw [hb] at hk; cases hk
    | true =>
     rw [hb, cond_true] at hk
     obtain rfl : g' = g := Nat.eq_of_beq_eq_true hb
     cases hfr : C.uM g' with
     | false =>
      rw [hfr, cond_false] at hk
      refine uQ hE hD h0 (mr ho hc hv) ?_ hk
      rw [Array.toList_append, Array.toList_map]
      exact PW.append (iX h0 c.args.toList) ⟨⟨hd, rfl⟩, trivial⟩
     | true =>
      rw [hfr, cond_true] at hk
      obtain ⟨hng, hk⟩ := lP hk
      split at hk
      ·rename_i x hx
       obtain ⟨h1, h2⟩ := tU hE.T h0 hx (Ra' := fun b => _ ∨ ∃ t o, (fI (jW C s g' c.args.toList) s).obj t = some o /\ t ∉ ie (fI (jW C s g' c.args.toList) s) (c.args.toList.map (ev (fI (jW C s g' c.args.toList) s))) /\ b ∈ bV (β0 t) o) (fun b hb => .inl hb) (fun o ho b hb => .inr ⟨t', o, ho, fun hin => by
        rw [List.any_eq_false] at hng
        exact hng t' hin (Nat.beq_refl t'), hb⟩)
       refine uR (ex := [x]) (exv := [.pointer (some ⟨_, 0, none⟩)]) (bx := []) hE hD h0 List.nodup_nil (by simp) (by rw [Array.toList_append, Array.toList_map]; rfl) (mr ho hc hv) (iX h0 c.args.toList) ⟨[], [], rfl, h1, rfl⟩ (by simpa using h2) hk
      ·cases hk
   ·rename_i g' ts hg'
    rw [hg'] at hf0
    obtain ⟨hd, hv⟩ : _ /\ a.eval f = _ := hf0
    obtain ⟨hb, hk⟩ := nD hk
    simp only [Bool.and_eq_true] at hb
    obtain rfl : g' = g := Nat.eq_of_beq_eq_true hb.1
    refine uQ hE hD h0 (mr ho hc hv) ?_ hk
    rw [Array.toList_append, Array.toList_map]
    exact PW.append (iX h0 c.args.toList) (wN _ ts hd)
   ·cases hk
theorem uP {q : Bool} (hE : EnvOk C tab E) (hD : ∀ g, bL P C.ty tab g (C.call g)) (h : Rel E s a w β Rt Ra) {c : Call} {f : Operand} (ho : o.op = .call c) (hc : c.callee = .value f) {g : Nat} (hf' : a.eval f = .func (.func g) #[] #[])
  (hk : gW C q s o.dst g c.args.toList κ = some r) : dV P E o a w κ r := by
 unfold gW at hk
 obtain ⟨β0, Rt0, Ra0, h0⟩ := sF (jW C s g c.args.toList) h
 exact uQ hE hD h0 (tY ho hc hf') (by rw [Array.toList_map]; exact iX h0 c.args.toList) hk
theorem Cw (hE : EnvOk C tab E) (hD : ∀ g, bL P C.ty tab g (C.call g)) (h : Rel E s a w β Rt Ra) {c : Call} {f : Operand} (ho : o.op = .call c) (hc : c.callee = .value f) {g : Nat} (hf' : a.eval f = .func (.func g) #[] #[])
  (hk : yK C s o.dst g c.args.toList κ = some r) : dV P E o a w κ r := by
 unfold yK at hk
 split at hk
 ·rename_i y rr hrev
  have hargs : c.args.toList = rr.reverse ++ [y] := by
   have := congrArg List.reverse hrev
   simpa using this
  split at hk
  ·rename_i t ht
   split at hk
   ·rename_i e l st hob
    have h1 : Rel E (fe [t] s) a w β Rt Ra := mh _ h
    have hy : S2 (bu E s w β Rt Ra) (.own t) (a.eval y) := ht ▸ bW h y
    have hgv := mF (Ra' := fun b => Ra b ∨ ∃ t' o', (fe [t] s).obj t' = some o' /\ t' ∉ ie (fe [t] s) (rr.reverse.map (ev (fe [t] s))) /\ b ∈ bV (β t') o') h (fun b hb => .inl hb) (b := 0) (x := .own t) (y := .fr e l st) hy
     (by simp only [kV, hob])
    have hbk : (ez [SV.own t]).flatMap (tb s β) = bV (β t) (.row e l st) := by
     simp only [ez, List.flatMap_cons, List.flatMap_nil, List.append_nil, tb, hob]
    rw [hbk] at hgv
    refine uR (ex := [.fr e l st]) (exv := [a.eval y]) (bx := bV (β t) (.row e l st)) hE hD h1 ?_ (fun b hb => ?_) (by rw [Array.toList_map, hargs, List.map_append]; rfl) (tY ho hc hf') (iX h1 rr.reverse) ⟨_, [], (List.append_nil _).symm, hgv, rfl⟩ (by simp) hk
    ·have := jV h.toRelO (l := [t]) (by simp)
     simpa [tb, hob] using this
    ·obtain ⟨g1, g2, g3⟩ := h.cL t _ hob b hb
     refine ⟨g1, g2, g3, fun t' o' ho' hbb => ?_⟩
     obtain ⟨hn, o2, ho2, e2⟩ := mg _ ho'
     rw [e2] at hbb
     exact h.apart t _ t' o2 hob ho2 (fun e => hn (by simp [e])) b hb hbb
   ·cases hk
  ·exact uP hE hD h ho hc hf' hk
 ·exact uP hE hD h ho hc hf' hk
theorem xz {q : Bool} (hE : EnvOk C tab E) (hD : ∀ g, bL P C.ty tab g (C.call g)) (h : Rel E s a w β Rt Ra) {c : Call} {f : Operand} (ho : o.op = .call c) (hc : c.callee = .value f) (hk : ee C q o s κ = some r) : dV P E o a w κ r := by
 unfold ee at hk; rw [ho] at hk; simp only [hc] at hk
 have hf := bW h f
 split at hk
 ·rename_i g hg
  rw [hg] at hf
  have hf' : a.eval f = .func (.func g) #[] #[] := hf
  cases hm : C.mv g with
  | true =>
   rw [hm, cond_true] at hk
   exact Cw hE hD h ho hc hf' (lP hk).2
  | false =>
   rw [hm, cond_false] at hk
   exact uP hE hD h ho hc hf' hk
 ·exact zj hE hD h ho hc hk
 ·exact zj hE hD h ho hc hk
 ·cases hk
end
end Go.Proofs.Ab
namespace Go.Proofs.Ab
open Go
variable {R : Type}
section
variable {P : Program} {E : Env} {o : Oper} {s : St} {a : Act} {w : World} {β : Nat -> Bl} {Rt Ra : Nat -> Prop} {κ : St -> Option R} {r : R} {C : Cfg R}
theorem qa {t : Nat} {k e : LK} (h : zN C t = some (k, e)) : ∃ T K V kt et, C.ty t = some T /\ T.agg = false /\ T.lv = [.mp kt et] /\ C.ty kt = some K /\ C.ty et = some V /\ K.agg = false /\ V.agg = false /\ K.lv = [k] /\ V.lv = [e] /\ k.flat = true /\ e.flat = true := by
 unfold zN at h
 split at h
 ·rename_i T hT
  obtain ⟨hTa, h⟩ := lP h
  split at h
  ·rename_i kt et hlv
   split at h
   ·rename_i K V hK hV
    obtain ⟨hKV, h⟩ := lP h
    simp only [Bool.or_eq_false_iff] at hKV
    split at h
    ·rename_i k' e' hk he
     obtain ⟨hf, h⟩ := nD h
     simp only [Bool.and_eq_true] at hf
     cases h
     exact ⟨T, K, V, kt, et, hT, hTa, hlv, hK, hV, hKV.1, hKV.2, hk, he, hf.1, hf.2⟩
    ·cases h
   ·cases h
  ·cases h
 ·cases h
theorem bytes_beq (x y : ByteArray) : (x == y) = decide (x = y) := by
 obtain ⟨x⟩ := x
 obtain ⟨y⟩ := y
 show (x == y) = _
 rw [Bool.eq_iff_iff]
 simp
def ir : LK -> TypeDesc
 | .int k => .int k
 | .bool => .bool
 | _ => .string
theorem wW (hP : Ok P C.ty) {t : Nat} {T : TI} {k : LK} (hT : C.ty t = some T) (ha : T.agg = false) (hl : T.lv = [k]) (hf : k.flat = true) (hn : ∀ j e, k ≠ .mp j e) : P.underlying t = some (ir k) := by
 cases k <;> first | (cases hf; done) | skip
 ·exact (hP.ty t T hT).int _ ha hl
 ·exact (hP.ty t T hT).bool ha hl
 ·exact (hP.ty t T hT).str ha hl
theorem wb {k : LK} (hf : k.flat = true) : ∀ j e, k ≠ .mp j e := fun j e h => by subst h; cases hf
theorem yx {c : Cx} {k : LK} (hk : k.flat = true) {x : SV} {v : Value} (hf : fits k x = true) (h : S2 c x v) : FV k v (dl x) := by
 cases k <;> cases x <;> simp only [fits] at hf <;> first | (cases hf; done) | (cases hk; done) | skip
 ·simp only [decide_eq_true_eq] at hf; subst hf; exact h
 ·exact h
 ·exact h
theorem yw {c : Cx} {k : LK} (hk : k.flat = true) {v : Value} {a : AV} (h : FV k v a) : S2 c (eta true k a) v := by
 cases k <;> first | (cases hk; done) | exact h
theorem AF {k : LK} (hk : k.flat = true) {v : Value} (h : zeroV k v) : FV k v .no := by
 cases k <;> first | (cases hk; done) | exact h
theorem Bw {k : LK} (hk : k.flat = true) {v u : Value} {x y : AV} (h1 : FV k v x) (h2 : FV k u y) : Instr.sameNow (ir k) v u = some (m7 k x y) /\ (m7 k x y = true -> Instr.sameBits 10000 u v = true) := by
 cases k <;> first | (cases hk; done) | skip
 ·have h1 : v = _ := h1; have h2 : u = _ := h2
  subst h1; subst h2
  refine ⟨?_, fun h => ?_⟩
  ·simp only [Instr.sameNow, ir, m7, if_true, Option.some.injEq]
   rw [Bool.eq_iff_iff]; simp
  ·simp only [m7, decide_eq_true_eq] at h
   simp [Instr.sameBits, h]
 ·have h1 : v = _ := h1; have h2 : u = _ := h2
  subst h1; subst h2
  refine ⟨by simp [Instr.sameNow, ir, m7], fun h => ?_⟩
  simp only [m7, beq_iff_eq] at h
  simp [Instr.sameBits, h]
 ·have h1 : v = _ := h1; have h2 : u = _ := h2
  subst h1; subst h2
  refine ⟨?_, fun h => ?_⟩
  ·simp only [Instr.sameNow, ir, m7, bytes_beq]
  ·simp only [m7, decide_eq_true_eq] at h
   simp [Instr.sameBits, h, bytes_beq]
abbrev EV (k e : LK) (a : AV) (en : MapEntry) : Prop := FV k en.key (a.fld 0) /\ FV e en.val (a.fld 1)
theorem km {k e : LK} (hk : k.flat = true) {v : Value} {x : AV} (hv : FV k v x) : ∀ {l : List AV} {es : List MapEntry} (i : Nat), PW (EV k e) l es ->
  (Instr.findNow (ir k) v es i = some none /\ hH k x l = none /\ ∀ z, ga k x z l = l ++ [.agg [x, z]]) ∨
  ∃ j u en a, Instr.findNow (ir k) v es i = some (some (i + j, u)) /\ hH k x l = some a /\ FV e u a /\ es[j]? = some en /\ Instr.sameBits 10000 en.key v = true /\
   ∀ z zv, FV e zv z -> PW (EV k e) (ga k x z l) (es.modify j fun en => { en with key := v, val := zv })
 | [], [], i, _ => .inl ⟨rfl, rfl, fun _ => rfl⟩
 | y :: l, en :: es, i, h => by
  obtain ⟨hs, hb⟩ := Bw hk hv h.1.1
  cases hm : m7 k x (y.fld 0) with
  | true =>
   refine .inr ⟨0, en.val, en, y.fld 1, ?_, ?_, h.1.2, rfl, hb hm, fun z zv hz => ?_⟩
   ·simp only [Instr.findNow, hs, hm, Nat.add_zero]
   ·simp only [hH, hm, cond_true]
   ·simp only [ga, hm, cond_true, List.modify_zero_cons]
    exact ⟨⟨hv, hz⟩, h.2⟩
  | false =>
   rcases km hk hv (i + 1) h.2 with ⟨h1, h2, h3⟩ | ⟨j, u, en', a, h1, h2, h3, h4, h5, h6⟩
   ·refine .inl ⟨?_, ?_, fun z => ?_⟩
    ·simp only [Instr.findNow, hs, hm, h1]
    ·simp only [hH, hm, cond_false, h2]
    ·simp only [ga, hm, cond_false, h3, List.cons_append]
   ·refine .inr ⟨j + 1, u, en', a, ?_, ?_, h3, by simpa using h4, h5, fun z zv hz => ?_⟩
    ·simp only [Instr.findNow, hs, hm, h1]; congr 3; omega
    ·simp only [hH, hm, cond_false, h2]
    ·simp only [ga, hm, cond_false, List.modify_succ_cons]
     exact ⟨h.1, h6 z zv hz⟩
 | [], _ :: _, _, h => h.elim
 | _ :: _, [], _, h => h.elim
theorem run_checkKey {k : LK} {kt : Nat} (hk : k.flat = true) (hu : P.underlying kt = some (ir k)) {v : Value} {x : AV} (hv : FV k v x) (b : Bool) (w : World) : (Instr.checkKey b 10000 kt v).run P w = .ok () w := by
 show (Instr.checkKey b (9999 + 1) kt v).run P w = _
 unfold Instr.checkKey
 simp only [Sem.run_bind, run_underlying hu, Result.andThen_ok]
 cases k <;> first | (cases hk; done) | skip
 ·have hv : v = _ := hv
  subst hv; simp [ir]
 ·have hv : v = _ := hv
  subst hv; simp [ir]
 ·have hv : v = _ := hv
  subst hv; simp [ir]
theorem run_findKey {k : LK} {kt : Nat} (hu : P.underlying kt = some (ir k)) {v : Value} {es : List MapEntry} {z : Option (Nat × Value)} (h : Instr.findNow (ir k) v es 0 = some z) (w : World) : (Instr.findKey kt v es).run P w = .ok z w := by
 unfold Instr.findKey
 simp only [Sem.run_bind, run_underlying hu, Result.andThen_ok, h, Sem.run_pure]
theorem rq {q : Bool} (hP : Ok P C.ty) (h : Rel E s a w β Rt Ra) {t : Nat} (ho : o.op = .makeMap t none) (hk : ee C q o s κ = some r) : dV P E o a w κ r := by
 unfold ee at hk; rw [ho] at hk; simp only at hk
 obtain ⟨_, hk⟩ := lP hk
 split at hk
 ·rename_i k e hm
  intro next Q hn
  have hg := ft w (.map #[] 0)
  refine dT (v := .map (some w.heap.size)) (w' := w.alloc (.map #[] 0)) ?_ (hn _ _ _ hk ?_)
  ·unfold execOp; rw [ho]
   simp [Instr.makeMap]
  ·have h2 := h.new hg (.mp k e []) ⟨undef, w.heap.size, 0, false⟩ (fun b hb => by simp [bV] at hb; subst hb; simp) (fun _ => ⟨#[], 0, heap_alloc_new w _, trivial⟩)
   refine ⟨_, _, _, h2.put o.dst (x := .mp s.next) (dh (dA ⟨⟨_, by rw [fg, if_pos rfl]⟩, ?_⟩))⟩
   show _ = Value.map (some (eQ β s.next ⟨undef, w.heap.size, 0, false⟩ s.next).b)
   unfold eQ; rw [if_pos rfl]
 ·cases hk
theorem Ak {t : Nat} {T : TI} {k : LK} (hT : TyOk P t T) (ha : T.agg = false) (hl : T.lv = [k]) (w : World) : ∃ z, (zeroValue t).run P w = .ok z w /\ zeroV k z := by
 obtain ⟨i, z, hi, _, _, hz, hpw, hag⟩ := hT.info
 have hna : ∀ cs, z ≠ .agg cs := fun cs e => by
  have := hag.1 ⟨cs, e⟩; rw [ha] at this; cases this
 refine ⟨z, ?_, ?_⟩
 ·unfold zeroValue
  simp [typeInfo, hi, hz, Sem.run]
 ·rw [hl] at hpw
  have : z.cells.toList = [z] := by cases z <;> first | rfl | exact absurd rfl (hna _)
  rw [this] at hpw; exact hpw.1
theorem sM {q : Bool} (hP : Ok P C.ty) (h : Rel E s a w β Rt Ra) {t : Nat} {x i : Operand} {ok : Bool} (ho : o.op = .lookup t x i ok) (hk : ee C q o s κ = some r) : dV P E o a w κ r := by
 unfold ee at hk; rw [ho] at hk; simp only at hk
 have hx := bW h x
 have hi := bW h i
 split at hk
 ·rename_i k e m hm ex
  rw [ex] at hx
  obtain ⟨hd, hev⟩ : _ /\ a.eval x = .map (some (β m).b) := hx
  obtain ⟨T, K, V, kt, et, hT, hTa, hTl, hK, hV, hKa, hVa, hKl, hVl, hkf, hef⟩ := qa hm
  split at hk
  ·rename_i k' e' l hob
   obtain ⟨hc, hk2⟩ := nD hk
   clear hk
   simp only [Bool.and_eq_true, decide_eq_true_eq] at hc
   obtain ⟨⟨rfl, rfl⟩, hfit⟩ := hc
   obtain ⟨es, cl, hg, hpw⟩ : ∃ es clock, w.heap[(β m).b]? = some (.map es clock) /\ PW (EV k e) l es.toList := h.objs m _ hob
   have hfv := yx hkf hfit hi
   have hu := wW hP hK hKa hKl hkf (wb hkf)
   have hut : P.underlying t = some (.map kt et) := (hP.ty t T hT).map _ _ hTa hTl
   have hck := run_checkKey hkf hu hfv es.isEmpty w
   obtain ⟨z, hz, hzz⟩ := Ak (hP.ty et V hV) hVa hVl w
   have main : ∃ v b, (Instr.lookup t (a.eval x) (a.eval i) ok).run P w = .ok (if ok then .tuple #[v, .bool b] else v) w /\ FV e v (hI k (dl (ev s i)) l) /\ b = qd k (dl (ev s i)) l := by
    rcases km hkf hfv 0 hpw with ⟨h1, h2, _⟩ | ⟨j, u, en, y, h1, h2, h3, _⟩
    ·refine ⟨z, false, ?_, ?_, ?_⟩
     ·unfold Instr.lookup
      rw [hev]
      simp [run_underlying hut, getObj, Sem.run, hg, hck, run_findKey hu h1, hz]
     ·unfold hI; rw [h2]; exact AF hef hzz
     ·unfold qd; rw [h2]; rfl
    ·refine ⟨u, true, ?_, ?_, ?_⟩
     ·unfold Instr.lookup
      rw [hev]
      simp [run_underlying hut, getObj, Sem.run, hg, hck, run_findKey hu h1]
     ·unfold hI; rw [h2]; exact h3
     ·unfold qd; rw [h2]; rfl
   obtain ⟨v, b, hrun, hfv2, rfl⟩ := main
   cases ok with
   | true =>
    rw [cond_true] at hk2
    refine eu h (x := .tup [eta true e (hI k (dl (ev s i)) l), .bool (qd k (dl (ev s i)) l)]) (v := .tuple #[v, .bool (qd k (dl (ev s i)) l)]) ⟨_, rfl, ⟨?_, rfl, trivial⟩⟩ ?_ hk2
    ·have := yw (c := bu E s w β Rt Ra) hef hfv2
     revert this
     cases e <;> first | (cases hef; done) | exact id
    ·unfold execOp; rw [ho]; simp only [Bool.false_eq_true, if_true, if_false] at hrun; simp [hrun]
   | false =>
    rw [cond_false] at hk2
    refine eu h (x := eta true e _) (v := v) (yw hef hfv2) ?_ hk2
    unfold execOp; rw [ho]; simp only [Bool.false_eq_true, if_true, if_false] at hrun; simp [hrun]
  ·cases hk
 ·cases hk
theorem nV {q : Bool} (hP : Ok P C.ty) (h : Rel E s a w β Rt Ra) {t : Nat} {x i v : Operand} (ho : o.op = .mapUpdate t x i v) (hk : ee C q o s κ = some r) : dV P E o a w κ r := by
 unfold ee at hk; rw [ho] at hk; simp only at hk
 obtain ⟨_, hk⟩ := lP hk
 have hx := bW h x
 have hi := bW h i
 have hv := bW h v
 split at hk
 ·rename_i k e m hm ex
  rw [ex] at hx
  obtain ⟨hd, hev⟩ : _ /\ a.eval x = .map (some (β m).b) := hx
  obtain ⟨T, K, V, kt, et, hT, hTa, hTl, hK, hV, hKa, hVa, hKl, hVl, hkf, hef⟩ := qa hm
  split at hk
  ·rename_i k' e' l hob
   obtain ⟨hc, hk2⟩ := nD hk
   clear hk
   simp only [Bool.and_eq_true, decide_eq_true_eq] at hc
   obtain ⟨⟨rfl, rfl⟩, hfit, hfit2⟩ := hc
   obtain ⟨es, cl, hg, hpw⟩ : ∃ es clock, w.heap[(β m).b]? = some (.map es clock) /\ PW (EV k e) l es.toList := h.objs m _ hob
   have hfv := yx hkf hfit hi
   have hfv2 := yx hef hfit2 hv
   have hu := wW hP hK hKa hKl hkf (wb hkf)
   have hut : P.underlying t = some (.map kt et) := (hP.ty t T hT).map _ _ hTa hTl
   have hck := run_checkKey hkf hu hfv false w
   have main : ∃ es' cl', (Instr.mapUpdate t (a.eval x) (a.eval i) (a.eval v)).run P w = .ok () { w with heap := w.heap.setIfInBounds (β m).b (.map es' cl') } /\ PW (EV k e) (ga k (dl (ev s i)) (dl (ev s v)) l) es'.toList := by
    rcases km hkf hfv 0 hpw with ⟨h1, h2, h3⟩ | ⟨j, u, en, y, h1, h2, h3, h4, h5, h6⟩
    ·refine ⟨es.push { key := a.eval i, val := a.eval v, born := cl }, cl + 1, ?_, ?_⟩
     ·unfold Instr.mapUpdate
      rw [hev]
      simp [run_underlying hut, getObj, setObj, Sem.run, hg, hck, run_findKey hu h1]
     ·rw [h3]
      simpa using PW.append (l' := [.agg [dl (ev s i), dl (ev s v)]]) (m' := [{ key := a.eval i, val := a.eval v, born := cl }]) hpw ⟨⟨hfv, hfv2⟩, trivial⟩
    ·have h4' : es[j]? = some en := by simpa using h4
     refine ⟨es.modify j fun en => { en with key := a.eval i, val := a.eval v }, cl, ?_, ?_⟩
     ·unfold Instr.mapUpdate
      rw [hev]
      simp [run_underlying hut, getObj, setObj, Sem.run, hg, hck, run_findKey hu h1, Instr.keyThatStays, h4', h5]
     ·rw [Array.toList_modify]
      exact h6 _ _ hfv2
   obtain ⟨es', cl', hrun, hpw'⟩ := main
   intro next Q hn
   let w' : World := { w with heap := w.heap.setIfInBounds (β m).b (.map es' cl') }
   refine wp_skip (v := undef) rfl (w' := w') ?_ (hn _ _ _ hk2 ?_)
   ·unfold execOp; rw [ho]
    simp [hrun, w']
   ·have hlt2 : (β m).b < w.heap.size := (Array.getElem?_eq_some_iff.mp hg).1
    have h2 := h.gU (w' := w') hob (.mp k e (ga k (dl (ev s i)) (dl (ev s v)) l)) ⟨rfl, rfl, rfl, by simp [w'], fun z _ hz => by
     have : (β m).b ≠ z := fun e => hz (by simp [bV, e])
     simp [w', Array.getElem?_setIfInBounds, this]⟩ (fun z hz => hz) (fun _ => ⟨es', cl', by
     show w'.heap[(β m).b]? = _
     simp [w', Array.getElem?_setIfInBounds, hlt2], hpw'⟩)
    exact ⟨_, _, _, h2.put o.dst (x := .undef) (dh (dA rfl))⟩
  ·cases hk
 ·cases hk
end
end Go.Proofs.Ab
namespace Go.Proofs.Ab
open Go
variable {R : Type}
theorem bJ {α : Type} {b : Bool} {k : Option α} {r : α} (h : (bif b then k else none) = some r) : b = true /\ k = some r := by
 cases b
 ·cases h
 ·exact ⟨rfl, h⟩
theorem fj {α : Type} {b : Bool} {k : Option α} {r : α} (h : (bif b then none else k) = some r) : b = false /\ k = some r := by
 cases b
 ·exact ⟨rfl, h⟩
 ·cases h
theorem xv (w : World) (g n : Nat) : Fr (fun b => b = g) w (w.freeze ⟨g, 0, none⟩ n) := by
 unfold World.freeze
 split
 ·exact Fr.refl _ w
 ·refine ⟨rfl, rfl, rfl, by simp, fun b _ hn => ?_⟩
  simp only [Array.getElem?_modify]
  rw [if_neg (fun e => hn e.symm)]
section
variable {P : Program} {E : Env} {o : Oper} {s : St} {a : Act} {w : World} {β : Nat -> Bl} {Rt Ra : Nat -> Prop} {κ : St -> Option R} {r : R} {C : Cfg R} {tab : bO}
theorem sS {t : Nat} {T : TI} (hP : Ok P C.ty) (hT : C.ty t = some T) (h : wu T = true) : P.underlying t = some (.pointer T.elem) := by
 simp only [wu, Bool.and_eq_true, Bool.not_eq_true', decide_eq_true_eq] at h
 exact (hP.ty t T hT).ptr h.1.1 h.1.2 fun e => by rw [e] at h; simp at h
theorem nW {q : Bool} (hP : Ok P C.ty) (h : Rel E s a w β Rt Ra) {c : Call} (ho : o.op = .call c) (hb : c.callee = .builtin .unsafeSliceData) {x : Operand} (hx : c.args.toList = [x]) (hk : dD C q s o.dst .unsafeSliceData c.args.toList c.argTypes.toList o.type κ = some r) : dV P E o a w κ r := by
 rw [hx] at hk; unfold dD at hk; simp only at hk
 have hc := bW h x
 have hrun : ∀ (v u : Value) (w' : World), a.eval x = v -> (Builtin.unsafeSliceData_ c.argTypes o.type #[v]).run P w = .ok u w' -> (execOp a.eval o).run P w = .ok (.value u) w' := by
  intro v u w' e hr
  rw [fy ho hb, si hx]
  simp only [builtin, List.map_toArray, List.map_cons, List.map_nil, e, Sem.run_bind, hr]; rfl
 unfold gO at hk
 split at hk
 ·rename_i e; rw [e] at hc
  have ex : a.eval x = .slice none 0 0 := hc
  exact bQ h (x := .nilp) (v := .pointer none) rfl (hrun _ _ _ ex (Lib.run_unsafeSliceData_nil w c.argTypes o.type 0 0)) hk
 ·rename_i t e
  rw [e] at hc
  obtain ⟨hd, hv, _, harr⟩ : _ /\ a.eval x = _ /\ _ /\ (β t).arr = false := hc
  split at hk
  ·rename_i el l st T hob hT
   obtain ⟨hp, hk⟩ := bJ hk
   obtain ⟨D, cs, hD, hsz, hown, hrc⟩ := h.objs t _ hob
   have hv' : a.eval x = (β t).v := hv
   obtain ⟨_, hor⟩ := hown
   rcases hor with ⟨hv0, hn⟩ | ⟨g, cap, cur, q', fz, hv0, hq', hg, hfz, hnc, hcm, _⟩
   ·refine bQ h (x := .sdp t) (v := .pointer none) ⟨hd, none, rfl, fun g n cap hgv => ?_, harr⟩ (hrun _ _ _ (hv'.trans hv0) (Lib.run_unsafeSliceData_nil w c.argTypes o.type 0 0)) hk
    have hgv' : (β t).v = _ := hgv
    rw [hv0] at hgv'; cases hgv'
   ·by_cases hc0 : cap = 0
    ·subst hc0
     have hqe : q' = el := hq' harr
     have hsh : w.shape? g = some (el, cur.size) := by
      have hg' : w.heap[g]? = _ := hg
      unfold World.shape?; rw [hg', hqe]
     have hr := Lib.run_unsafeSliceData_zero (P := P) w c.argTypes o.type T.elem (sS hP hT hp) ⟨g, 0, none⟩ l.length _ hsh
     intro next Q hnext
     refine dT (hrun _ _ _ (hv'.trans hv0) hr) (hnext _ _ _ hk ⟨β, Rt, Ra, (h.nZ (ft w _)).put o.dst (dh (dA ⟨hd, _, rfl, fun g' n cap' hgv hn => ?_, harr⟩))⟩)
     have hgv' : (β t).v = _ := hgv
     rw [hv0] at hgv'; cases hgv'; omega
    ·refine bQ h (x := .sdp t) (v := .pointer (some ⟨g, 0, none⟩)) ⟨hd, _, rfl, fun g' n cap' hgv _ => ?_, harr⟩ (hrun _ _ _ (hv'.trans hv0) (Lib.run_unsafeSliceData_row w c.argTypes o.type _ _ _ hc0)) hk
     have hgv' : (β t).v = _ := hgv
     rw [hv0] at hgv'; cases hgv'; rfl
  ·cases hk
 ·cases hk
theorem byte_back {n : Int} (h : (decide (0 <= n) && decide (n < 256)) = true) : ((UInt8.ofNat n.toNat).toNat : Int) = n := by
 simp only [Bool.and_eq_true, decide_eq_true_eq] at h
 have : (UInt8.ofNat n.toNat).toNat = n.toNat % 256 := by simp
 rw [this]; omega
theorem kW {q : Bool} (hP : Ok P C.ty) (hE : E.T = C.ty) (h : Rel E s a w β Rt Ra) {c : Call} (ho : o.op = .call c) (hb : c.callee = .builtin .unsafeString) {x y : Operand} (hx : c.args.toList = [x, y]) (hk : dD C q s o.dst .unsafeString c.args.toList c.argTypes.toList o.type κ = some r) : dV P E o a w κ r := by
 rw [hx] at hk; unfold dD at hk; simp only at hk
 have hc := bW h x
 have hc2 := bW h y
 unfold rW at hk
 split at hk
 ·rename_i pt it hts
  have hat : c.argTypes = #[pt, it] := by apply Array.ext'; simpa using hts
  have hrun : ∀ (v v2 u : Value) (w' : World), a.eval x = v -> a.eval y = v2 -> (Builtin.unsafeString_ #[pt, it] o.type #[v, v2]).run P w = .ok u w' -> (execOp a.eval o).run P w = .ok (.value u) w' := by
   intro v v2 u w' e e2 hr
   rw [fy ho hb, kE hx, hat]
   simp only [builtin, List.map_toArray, List.map_cons, List.map_nil, e, e2, Sem.run_bind, hr]; rfl
  split at hk
  ·rename_i k n e1 e2
   rw [e1] at hc; rw [e2] at hc2
   obtain ⟨hk0, hk⟩ := bJ hk
   obtain ⟨hn, hk⟩ := dw hk
   simp only [decide_eq_true_eq] at hk0 hn
   subst hk0; subst hn
   exact bQ h (x := .str ⟨#[]⟩) (v := .string .empty) rfl (hrun _ _ _ _ (show a.eval x = .pointer none from hc) (eN hc2) (Lib.run_unsafeString_none (P := P) w pt it o.type none)) hk
  ·rename_i t k n e1 e2
   rw [e1] at hc; rw [e2] at hc2
   obtain ⟨hk0, hk⟩ := bJ hk
   simp only [decide_eq_true_eq] at hk0
   subst hk0
   split at hk
   ·rename_i el l st hob
    split at hk
    ·rename_i B T hB hT
     obtain ⟨_, hk1⟩ := bJ hk
     obtain ⟨hcond, hk2⟩ := bJ hk1
     simp only [Bool.and_eq_true] at hcond
     obtain ⟨hby, hpt, hel⟩ := hcond
     obtain ⟨hn, hk3⟩ := dw hk2
     obtain ⟨hall, hkf⟩ := dw hk3
     replace hn := of_decide_eq_true hn
     subst hn
     have hel := Nat.eq_of_beq_eq_true hel
     simp only [isByte, Bool.and_eq_true, Bool.not_eq_true', decide_eq_true_eq] at hby
     obtain ⟨hd, p, hp, hpg, harr⟩ : _ /\ ∃ p, a.eval x = .pointer p /\ _ /\ (β t).arr = false := hc
     obtain ⟨D, cs, hD, hsz, hown, hrc⟩ := h.objs t _ hob
     have hDB : D = B := by have h' : E.T el = some D := hD; rw [hE, hB] at h'; cases h'; rfl
     subst hDB
     have hsz1 : D.sz = 1 := by unfold TI.sz; rw [hby.2]; rfl
     have hh := h.hole t
     by_cases hl : l = []
     ·subst hl
      exact fun next Q hnext => dT (hrun _ _ _ _ hp (eN hc2) (Lib.run_unsafeString_none (P := P) w pt it o.type p)) (hnext _ _ _ hkf ⟨β, Rt, Ra, hh.put o.dst (dh (dA (x := .str (fF [])) (v := .string .empty) rfl))⟩)
     ·have hown0 := hown
      obtain ⟨hlen, hor⟩ := hown
      rcases hor with ⟨_, hn⟩ | ⟨g, cap, cur, q', fz, hv0, hq', hg, hfz, hnc, hcm, hcs, _⟩
      ·exact absurd (List.eq_nil_of_length_eq_zero hn) hl
      ·have hv0' : (β t).v = _ := hv0
       have hpe := hpg g l.length cap hv0 (by intro e; exact hl (List.eq_nil_of_length_eq_zero e))
       subst hpe
       have hqe : q' = el := hq' harr
       have hsh : w.shape? g = some (el, cur.size) := by
        have hg' : w.heap[g]? = _ := hg
        unfold World.shape?; rw [hg', hqe]
       let lb : List UInt8 := l.map fun a => UInt8.ofNat a.i.toNat
       have hlb : lb.length = l.length := List.length_map ..
       have hcells : P.cellsOf el = 1 := by
        obtain ⟨i, z, hi, hs, _⟩ := (hP.ty el D hB).info
        unfold Program.cellsOf; rw [hi]; simp [hs, hsz1]
       have hr := Lib.run_unsafeString_row (P := P) w pt it o.type el (by rw [<- hel]; exact sS hP hT hpt) hcells g cur.size hsh lb (by simpa [lb] using hl) (by rw [hlb, hcs, hsz1]; omega) (by rw [hlb]; have : maxLen = 9223372036854775807 := rfl; omega) (fun j x hj => by
        have hj' : j < l.length := by rw [<- hlb]; exact (List.getElem?_eq_some_iff.1 hj).1
        rw [hv0] at hown0
        have hcj : ∃ v, cs[j]? = some v := ⟨_, List.getElem?_eq_getElem (by rw [hlen, hsz1]; omega)⟩
        obtain ⟨v, hv⟩ := hcj
        have hrep := hrc j 0 (.int .u8) hj' (by rw [hby.2]; rfl) v (by rw [hsz1]; simpa using hv)
        have hvi : v = .int .u8 (lf D.agg (l.getD j .no) 0).i := by cases hrep; rfl
        rw [hby.1] at hvi
        rw [add_plain, Nat.zero_add]
        have hcell := fL hown0 j v hv
        have hcell' : w.cell? ⟨g, j, none⟩ = some v := hcell
        rw [hcell', hvi]
        have hx : x = UInt8.ofNat (l.getD j .no).i.toNat := by
         have hj2 : (l.map fun a => UInt8.ofNat a.i.toNat)[j]? = some x := hj
         rw [List.getElem?_map] at hj2
         rw [List.getElem?_eq_getElem hj'] at hj2
         rw [List.getD_eq_getElem?_getD, List.getElem?_eq_getElem hj']
         simpa using hj2.symm
        rw [hx, byte_back]
        ·rfl
        ·have := List.all_eq_true.1 hall (l[j]) (List.getElem_mem hj')
         rw [List.getD_eq_getElem?_getD, List.getElem?_eq_getElem hj']
         exact this)
       rw [hlb] at hr
       have hgb : g ∈ bV (β t) (.row el l st) := by simp [bV, hv0', Value.ownBlock]
       have hw := hh.world (xv w g l.length) fun b hbg => by
        subst hbg
        refine ⟨(h.cL t _ hob b hgb).2.1, (h.cL t _ hob b hgb).2.2, fun t' o' ho' hb' => ?_⟩
        rw [dF] at ho'; split at ho'
        ·rename_i e; subst e; rw [hob] at ho'; cases ho'; cases hb'
        ·rename_i e; exact h.apart t _ t' o' hob ho' (Ne.symm e) b hgb hb'
       exact fun next Q hnext => dT (hrun _ _ _ _ hp (eN hc2) hr) (hnext _ _ _ hkf ⟨β, Rt, Ra, hw.put o.dst (dh (dA (x := .str (fF l)) (v := .string ⟨lb.toArray⟩) rfl))⟩)
    ·cases hk
   ·cases hk
  ·cases hk
 ·cases hk
end
end Go.Proofs.Ab
namespace Go.Proofs.Ab
open Go
variable {R : Type}
theorem foldl_push : ∀ (l : List AV) (s : ByteArray), (l.map (·.i)).foldl (fun r n => r.push (UInt8.ofNat n.toNat)) s = ⟨s.data ++ (l.map fun a => UInt8.ofNat a.i.toNat).toArray⟩
 | [], s => by simp
 | a :: l, s => by
  simp only [List.map_cons, List.foldl_cons]
  rw [foldl_push l]
  apply ByteArray.ext
  simp [ByteArray.push]
theorem Al (l : List AV) : (l.map (·.i)).foldl (fun r n => r.push (UInt8.ofNat n.toNat)) ByteArray.empty = fF l := by
 rw [foldl_push]; unfold fF; apply ByteArray.ext; simp [ByteArray.empty, ByteArray.emptyWithCapacity]; rfl
theorem mb {P : Program} {T : Nat -> Option TI} (hP : Ok P T) {e : Nat} {D : TI} (hD : T e = some D) (h : isByte D = true) : P.underlying e = some (.int .u8) /\ D.agg = false /\ D.lv = [.int .u8] /\ D.sz = 1 := by
 simp only [isByte, Bool.and_eq_true, Bool.not_eq_true', decide_eq_true_eq] at h
 exact ⟨(hP.ty e D hD).int _ h.1 h.2, h.1, h.2, by unfold TI.sz; rw [h.2]; rfl⟩
section
variable {P : Program} {E : Env} {o : Oper} {s : St} {a : Act} {w : World} {β : Nat -> Bl} {Rt Ra : Nat -> Prop} {κ : St -> Option R} {r : R} {C : Cfg R} {tab : bO}
theorem Aa {T : Nat -> Option TI} {w : World} {Q : Nat -> Prop} {D : TI} {l : List AV} {cs : List Value} (h : RC T w Q D l cs) (hl : cs.length = l.length * D.sz) (h1 : D.agg = false) (h2 : D.lv = [.int .u8]) (h3 : D.sz = 1) : cs = (l.map (·.i)).map (Value.int .u8) := by
 apply List.ext_getElem?
 intro i
 rw [List.map_map, List.getElem?_map]
 by_cases hi : i < l.length
 ·have hlt : i < cs.length := by rw [hl, h3]; omega
  rw [List.getElem?_eq_getElem hlt, List.getElem?_eq_getElem hi]
  have hr := h i 0 (.int .u8) hi (by rw [h2]; rfl) cs[i] (by rw [h3, Nat.mul_one, Nat.add_zero]; exact List.getElem?_eq_getElem hlt)
  rw [h1] at hr
  have hv : cs[i] = Value.int .u8 (l.getD i .no).i := by
   generalize cs[i] = v at hr
   cases hr; rfl
  rw [hv, List.getD_eq_getElem?_getD, List.getElem?_eq_getElem hi]; rfl
 ·rw [List.getElem?_eq_none (by rw [hl, h3]; omega), List.getElem?_eq_none (by omega)]; rfl
theorem nE (hP : Ok P C.ty) (hE : E.T = C.ty) (h : Rel E s a w β Rt Ra) {f t e : Nat} {F T D : TI} (hF : C.ty f = some F) (hT : C.ty t = some T) (hTa : T.agg = false) (hsl : F.sl = true) (hel : F.elem = e) (hD : C.ty e = some D) (hby : isByte D = true) (hlv : T.lv = [.str])
  {x : SV} {v : Value} (hx : S2 (bu E s w β Rt Ra) x v) (hns : ∀ b, x ≠ .str b) {l : List AV} {st : Bool} (ht : lJ s e D x = some (l, st)) : (convert f t v).run P w = .ok (.string (fF l)) w := by
 obtain ⟨b1, b2, b3, b4⟩ := mb hP hD hby
 obtain ⟨cs, h1, h2, _, h3⟩ := qJ hE h hD hx hns ht
 have hs := (hP.ty f F hF).slice hsl
 rw [hel] at hs
 have hd := (hP.ty t T hT).str hTa hlv
 rcases h3 with ⟨rfl, rfl⟩ | ⟨ad, c, rfl, hc⟩
 ·rw [run_convert_bytes_string w f t e _ _ _ hs b1 hd]; rfl
 ·rw [run_convert_bytes_string w f t e _ _ _ hs b1 hd]
  have hcs := Aa h2 h1 b2 b3 b4
  have hld := run_loadCells_list (P := P) w ad cs hc
  rw [h1, b4, Nat.mul_one, hcs] at hld
  rw [run_bytesToString w ad l.length c (l.map (·.i)) hld, Al]
theorem tz {w : World} {g q : Nat} {cur : Array Value} {fz : Nat × Nat} (hg : w.heap[g]? = some (.cells cur q fz)) : (markStringish (⟨g, 0, none⟩ : Addr)).run P w = .ok () (w.freeze ⟨g, cur.size, none⟩ 1) := by
 have hsh : w.shape? g = some (q, cur.size) := by unfold World.shape?; rw [hg]
 unfold markStringish
 simp [hsh]
theorem xw {w : World} {g q : Nat} {cur : Array Value} {fz : Nat × Nat} (hg : w.heap[g]? = some (.cells cur q fz)) (hfz : fz = (0, 0) ∨ fz = (cur.size, cur.size + 1)) : (w.freeze ⟨g, cur.size, none⟩ 1).heap[g]? = some (.cells cur q (cur.size, cur.size + 1)) := by
 unfold World.freeze
 rw [if_neg (by decide)]
 simp only [Array.getElem?_modify, if_true, hg, Option.map_some]
 rcases hfz with rfl | rfl
 ·simp
 ·simp
theorem xA (hP : Ok P C.ty) (hE : E.T = C.ty) (h : Rel E s a w β Rt Ra) {f t : Nat} {x : Operand} (ho : o.op = .convert f t x) {F T : TI} (hF : C.ty f = some F) (hT : C.ty t = some T) (hFa : F.agg = false) (hTa : T.agg = false) (hk : vW C s o.dst f t F T (ev s x) κ = some r) : dV P E o a w κ r := by
 have hc := bW h x
 have hrun : ∀ (v : Value) (w' : World), (convert f t (a.eval x)).run P w = .ok v w' -> (execOp a.eval o).run P w = .ok (.value v) w' := by
  intro v w' hr
  unfold execOp; rw [ho]
  simp only [Sem.run_bind, hr]; rfl
 unfold vW at hk
 split at hk
 ·rename_i b e
  rw [e] at hc
  have ex := iQ hc
  obtain ⟨h1, hk⟩ := bJ hk
  simp only [Bool.and_eq_true, decide_eq_true_eq] at h1
  split at hk
  ·rename_i D hD
   obtain ⟨hby, hk⟩ := bJ hk
   obtain ⟨b1, b2, b3, b4⟩ := mb hP hD hby
   obtain ⟨hroom, hk⟩ := mo hk
   have hb : b.size <= 140737488355328 := by omega
   have hr := Lib.run_convert_string_bytes (P := P) w f t T.elem b ((hP.ty f F hF).str hFa h1.2) ((hP.ty t T hT).slice h1.1) b1
   have hg : po w (Lib.bytesWorld w T.elem b) := by
    refine ⟨?_, ?_, ?_, by rw [Lib.bytesWorld_size]; omega, fun j hj _ => Lib.bytesWorld_at_old w T.elem b j hj⟩
    all_goals (unfold Lib.bytesWorld World.freeze; rw [if_neg (by decide)]; rfl)
   let cap := grownCap w b.size 0 T.elem
   have hge : b.size <= cap := grownCap_ge w b.size 0 T.elem
   have hsize : (Lib.bytesCells w T.elem b).size = cap := by
    have : b.data.size = b.size := rfl
    simp [Lib.bytesCells]; omega
   have hown : eX (Lib.bytesWorld w T.elem b) false T.elem D.sz (.slice (some ⟨w.heap.size, 0, none⟩) b.size cap) (e7 b).length (b.data.toList.map fun x => Value.int .u8 x.toNat) := by
    refine ⟨by rw [eS, b4, List.length_map, Nat.mul_one]; rfl, .inr ⟨w.heap.size, cap, Lib.bytesCells w T.elem b, T.elem, _, by rw [eS], fun _ => rfl, Lib.bytesWorld_at_new w T.elem b, .inr rfl, by rw [eS]; exact hge, grownCap_le_maxLen w b.size 0 T.elem (by have : maxLen = 9223372036854775807 := rfl; omega), by rw [hsize, b4, Nat.mul_one], ?_⟩⟩
    rw [eS, b4, Nat.mul_one]
    have hl : (b.data.toList.map fun x => Value.int .u8 x.toNat).length = b.size := by rw [List.length_map]; rfl
    rw [<- hl]
    unfold Lib.bytesCells
    rw [Array.toList_append, Array.toList_map]
    exact List.take_left
   intro next Q hn
   refine dT (hrun _ _ (by rw [ex]; exact hr)) (hn _ _ _ hk ?_)
   refine (h.nZ hg).qV (by rw [hE]; exact hD) hown ?_ (fun z hz => ?_) o.dst
   ·intro i j k hi hk' v hv
    rw [b3] at hk'
    cases j with
    | succ j => simp at hk'
    | zero =>
     simp only [List.getElem?_cons_zero, Option.some.injEq] at hk'; subst hk'
     rw [b4, Nat.mul_one, Nat.add_zero, List.getElem?_map] at hv
     cases hbi : b.data.toList[i]? with
     | none => rw [hbi] at hv; cases hv
     | some xb =>
      rw [hbi] at hv; simp only [Option.map_some, Option.some.injEq] at hv; subst hv
      have : lf D.agg ((e7 b).getD i .no) 0 = .int xb.toNat := by
       unfold lf; rw [b2]; simp only [cond_false]
       unfold e7
       rw [List.getD_eq_getElem?_getD, List.getElem?_map, hbi]; rfl
      rw [this]; exact .int .u8 (.int xb.toNat)
   ·have hz' : z = w.heap.size := by simpa [Value.ownBlock, eq_comm] using hz
    subst hz'
    exact ⟨fun hr => Nat.lt_irrefl _ (h.rlt _ hr), .inl h.fr.size, fun t o' ho' hbb => Nat.lt_irrefl _ (h.cL t o' ho' _ hbb).1⟩
  ·cases hk
 ·rename_i k e
  split at hk
  ·rename_i el l st hob
   split at hk
   ·rename_i D hD
    obtain ⟨h1, hk⟩ := bJ hk
    simp only [Bool.and_eq_true] at h1
    have hel := Nat.eq_of_beq_eq_true h1.2.1
    by_cases hlv : T.lv = [.str]
    ·simp only [hlv, decide_true, cond_true] at hk
     have := nE hP hE h hF hT hTa h1.1 hel hD h1.2.2 hlv hc (by rw [e]; intro b hb; cases hb) (l := l) (st := D.flat || st) (by rw [e]; unfold lJ; simp [wz, hob])
     exact bQ h (x := .str (fF l)) rfl (hrun _ _ this) hk
    ·simp only [hlv, decide_false, cond_false] at hk
     obtain ⟨hft, hk1⟩ := bJ hk
     obtain ⟨hne, hk2⟩ := dw hk1
     have hft := Nat.eq_of_beq_eq_true hft
     subst hft
     obtain ⟨b1, b2, b3, b4⟩ := mb hP hD h1.2.2
     have hs := (hP.ty f F hF).slice h1.1
     rw [hel] at hs
     rw [e] at hc
     obtain ⟨hd, hv, h1c, harr⟩ : _ /\ a.eval x = (β k).v /\ _ /\ (β k).arr = false := hc
     obtain ⟨D', cs, hT', hsz, hown, hrc⟩ := h.objs k _ hob
     have hown : eX w (β k).arr el D'.sz (β k).v l.length cs := hown
     obtain ⟨hcl, hor⟩ := hown
     rcases hor with ⟨_, hn0⟩ | ⟨g, cap, cur, q', fz, hv0, hq', hg, hfz, hnc, hcm, hcs, htake⟩
     ·have := List.eq_nil_of_length_eq_zero hn0; subst this; cases hne
     ·have hr : (convert f f (a.eval x)).run P w = .ok (a.eval x) (w.freeze ⟨g, cur.size, none⟩ 1) := by
       rw [hv, hv0]
       simp [convert, run_underlying hs, run_underlying b1, tz hg]
      have hgb : g ∈ bV (β k) (.row el l st) := by simp [bV, hv0, Value.ownBlock]
      have hfr : Fr (fun b => b ∈ bV (β k) (.row el l st)) w (w.freeze ⟨g, cur.size, none⟩ 1) := by
       unfold World.freeze
       rw [if_neg (by decide)]
       refine ⟨rfl, rfl, rfl, by simp, fun b _ hn => ?_⟩
       simp only [Array.getElem?_modify]
       rw [if_neg (fun e => hn (by rw [<- e]; exact hgb))]
      have h2 := h.gU hob (.row el l st) hfr (fun b hb => hb) (fun le => by
       refine ⟨D', cs, hT', hsz, ⟨hcl, .inr ⟨g, cap, cur, q', _, hv0, hq', xw hg hfz, .inr rfl, hnc, hcm, hcs, htake⟩⟩, ?_⟩
       exact hrc.mono (fun b hq => le.Q _ b hq) (fun b hq => le.w _ b hq))
      intro next Q hn
      refine dT (hrun _ _ hr) (hn _ _ _ hk2 ⟨_, _, _, h2.put o.dst (x := .own k) (dh (dA ⟨?_, hv, h1c, harr⟩))⟩)
      show ∃ o', (s.setObj k (.row el l st)).obj k = some o'
      rw [dF, if_pos rfl, hob]; exact ⟨_, rfl⟩
   ·cases hk
  ·cases hk
 ·rename_i e
  obtain ⟨h1, hk⟩ := bJ hk
  simp only [Bool.and_eq_true, decide_eq_true_eq] at h1
  split at hk
  ·rename_i D hD
   obtain ⟨hby, hk⟩ := bJ hk
   have := nE hP hE h hF hT hTa h1.1 rfl hD hby h1.2 hc (by rw [e]; intro b hb; cases hb) (l := []) (st := true) (by rw [e]; rfl)
   exact bQ h (x := .str ⟨#[]⟩) rfl (hrun _ _ this) hk
  ·cases hk
 ·rename_i hn1 hn2 hn3
  split at hk
  ·rename_i el l st hl
   split at hk
   ·rename_i D hD
    obtain ⟨h1, hk⟩ := bJ hk
    simp only [Bool.and_eq_true, decide_eq_true_eq] at h1
    have hel := Nat.eq_of_beq_eq_true h1.2.1
    have := nE hP hE h hF hT hTa h1.1 hel hD h1.2.2.1 h1.2.2.2 hc hn1 (l := l) (st := D.flat || st) (by
     unfold lJ
     split
     ·exact absurd ‹_› hn3
     ·exact absurd ‹_› (hn1 _)
     ·rw [hl]; simp)
    exact bQ h (x := .str (fF l)) rfl (hrun _ _ this) hk
   ·cases hk
  ·cases hk
end
end Go.Proofs.Ab
namespace Go.Proofs.Ab
open Go
variable {R : Type}
section
variable {P : Program} {E : Env} {o : Oper} {s : St} {a : Act} {w : World} {β : Nat -> Bl} {Rt Ra : Nat -> Prop} {κ : St -> Option R} {r : R} {C : Cfg R} {tab : bO}
theorem rm {q : Bool} (hP : Ok P C.ty) (hE : EnvOk C tab E) (h : Rel E s a w β Rt Ra) {c : Call} {b : Builtin} (ho : o.op = .call c) (hc : c.callee = .builtin b) (hk : dD C q s o.dst b c.args.toList c.argTypes.toList o.type κ = some r) : dV P E o a w κ r := by
 have hk0 := hk
 unfold dD at hk
 split at hk
 ·rename_i x hx; exact zl hP h ho hc hx hk0
 ·rename_i x y hx; exact sL hP hE.T h ho hc hx hk0
 ·rename_i x y hx; exact zn h ho hc hx hk0
 ·rename_i x y hx; exact zm h ho hc hx hk0
 ·rename_i x hx; exact nW hP h ho hc hx hk0
 ·rename_i x y hx; exact kW hP hE.T h ho hc hx hk0
 ·cases hk
theorem mU {c : Cx} : ∀ {xs : List SV} {vs : List Value} {ts : List Nat}, PW (S2 c) xs vs -> wM xs = some ts -> (∀ t ∈ ts, c.D t) /\ vs = ts.map fun t => .pointer (some ⟨(c.β t).b, 0, none⟩)
 | [], [], _, _, h => by cases h; exact ⟨fun t ht => (by cases ht), rfl⟩
 | x :: xs, v :: vs, ts, hp, h => by
  unfold wM at h
  split at h
  ·rename_i e; cases e
  ·rename_i t r' e
   cases e
   split at h
   ·rename_i l hl
    cases h
    obtain ⟨h1, h2⟩ := mU hp.2 hl
    obtain ⟨hd, hv⟩ : c.D t /\ v = _ := hp.1
    refine ⟨fun u hu => ?_, ?_⟩
    ·rcases List.mem_cons.1 hu with rfl | hu
     ·exact hd
     ·exact h1 u hu
    ·rw [List.map_cons, <- h2, hv]
   ·cases h
  ·cases h
 | [], _ :: _, _, hp, _ => hp.elim
 | _ :: _, [], _, hp, _ => hp.elim
theorem o7 {q : Bool} (h : Rel E s a w β Rt Ra) {g : Nat} {first captured : Array Operand} (ho : o.op = .makeFunc (.func g) first captured) (hk : ee C q o s κ = some r) : dV P E o a w κ r := by
 unfold ee at hk; rw [ho] at hk; simp only at hk
 cases q with
 | true => cases hk
 | false =>
 simp only [cond_false] at hk
 cases hfe : first.isEmpty with
 | false => rw [hfe] at hk; cases hk
 | true =>
  rw [hfe, cond_true] at hk
  have hf0 : first = #[] := by simpa using hfe
  split at hk
  ·rename_i hcap
   have hc0 : captured = #[] := by simpa using hcap
   refine eu (v := .func (.func g) #[] #[]) h (show S2 _ (.fn g) _ from rfl) ?_ hk
   unfold execOp; rw [ho, hf0, hc0]; simp [Instr.makeFunc]
  ·rename_i x hcap
   have hc0 : captured = #[x] := by
    apply Array.ext'; exact hcap
   split at hk
   ·rename_i t hx
    have hv := bW h x
    rw [hx] at hv
    obtain ⟨hd, hv⟩ : _ /\ a.eval x = _ := hv
    refine eu (v := .func (.func g) #[] #[a.eval x]) h (show S2 _ (.clo g t) _ from ⟨hd, by rw [hv]⟩) ?_ hk
    unfold execOp; rw [ho, hf0, hc0]; simp [Instr.makeFunc]
   ·cases hk
  ·split at hk
   ·rename_i ts hts
    obtain ⟨h1, h2⟩ := mU (iX h captured.toList) hts
    refine eu (v := .func (.func g) #[] (captured.map a.eval)) h (show S2 _ (.cls g ts) _ from ⟨h1, ?_⟩) ?_ hk
    ·congr 1
     apply Array.ext'
     rw [Array.toList_map]; simpa using h2
    ·unfold execOp; rw [ho, hf0]; simp [Instr.makeFunc]
   ·cases hk
theorem qh {q : Bool} (hP : Ok P C.ty) (hE : EnvOk C tab E) (hD : ∀ g, bL P C.ty tab g (C.call g)) (h : Rel E s a w β Rt Ra) (hk : ee C q o s κ = some r) : dV P E o a w κ r := by
 have hk0 := hk
 unfold ee at hk
 split at hk
 ·exact pO h (.inl ‹_›) hk
 ·exact pO h (.inr ‹_›) hk
 ·exact xD h ‹_› hk0
 ·exact uS hP hE.T h ‹_› hk0
 ·exact zk h ‹_› hk0
 ·exact uU hP h ‹_› hk0
 ·exact m5 hP hE.T h ‹_› hk0
 ·exact xB hP hE.T h ‹_› hk0
 ·exact uZ hP hE.T h ‹_› hk0
 ·exact o8 h ‹_› hk0
 ·exact o7 h ‹_› hk0
 ·exact rq hP h ‹_› hk0
 ·exact sM hP h ‹_› hk0
 ·exact nV hP h ‹_› hk0
 ·exact uT hP h ‹_› hk0
 ·exact xE h ‹_› hk0
 ·exact rn hP h ‹_› (fun F T hF hT hFa hTa hk => xA hP hE.T h ‹_› hF hT hFa hTa hk) hk0
 ·exact uY hP hE.T h ‹_› hk0
 ·exact nT hP h ‹_› hk0
 ·exact uV hP h ‹_› hk0
 ·exact nU hP hE.T h ‹_› hk0
 ·exact uW hP hE.T h ‹_› hk0
 ·exact rp h ‹_› hk0
 ·exact uX hP h ‹_› hk0
 ·exact xC h ‹_› hk0
 ·rename_i c ho
  split at hk
  ·rename_i b hb; exact rm hP hE h ho hb hk
  ·rename_i f hf; exact xz hE hD h ho hf hk0
  ·cases hk
 ·cases hk
end
end Go.Proofs.Ab
namespace Go.Proofs.Ab
open Go
variable {R : Type}
section
variable {P : Program} {E : Env} {o : Oper} {s : St} {a : Act} {w : World} {β : Nat -> Bl} {Rt Ra : Nat -> Prop} {κ : St -> Option R} {r : R} {C : Cfg R} {tab : bO} {ops : Array Oper}
def vP (P : Program) (E : Env) (ops : Array Oper) (i : Nat) (a : Act) (w : World) (κ : St -> Option R) (r : R) : Prop :=
 ∀ (K : Act -> World -> Prop) (Q : Exit -> Act -> World -> Prop), (∀ s' a' w', κ s' = some r -> cT E s' a' w' -> K a' w') -> wpOp P ops Q i K a w
theorem ye (l : List SV) (d : Nat) : gv l d (fc l d) = l := by
 induction l generalizing d with
 | nil => rfl
 | cons x r ih => cases d with
  | zero => rfl
  | succ d => simp [gv, fc, ih]
theorem tJ {d : Nat} {x : SV} (h : s.get d = x) : s.put (some d) x = s := by
 subst h; show (⟨gv s.slots d (fc s.slots d), s.objs, s.next⟩ : St) = s
 rw [ye]
theorem dP {q : Bool} (o : Oper) (s : St) (κ : St -> Option R) : cS C q ops o s κ =
  match o.guard with
  | none => ee C q o s κ
  | some (j, want) => match u0 ops j with
   | none => none
   | some d => match s.get d with
    | .undef => κ (s.put o.dst .undef)
    | .bool t => if t = want then ee C q o s κ else κ (s.put o.dst .undef)
    | _ => none := by
 unfold cS
 cases o.guard with
 | none => rfl
 | some g =>
  obtain ⟨j, want⟩ := g
  simp only
  cases u0 ops j with
  | none => rfl
  | some d =>
   simp only
   cases hd : s.get d <;> try rfl
   rename_i t
   cases want <;> cases t <;> simp [tJ hd]
theorem sH (h : Rel E s a w β Rt Ra) {d : Nat} (hd : s.get d ≠ .no) : d < a.tmps.size := by
 rw [<- h.len]
 refine Decidable.byContradiction fun hn => hd ?_
 exact wh hn
theorem sb (h : Rel E s a w β Rt Ra) {j d : Nat} {t : Bool} (hj : u0 ops j = some d) (hd : s.get d = .bool t) : yielded ops a.tmps j = some t := by
 have hs := h.slots d
 rw [hd] at hs
 have hv := nf hs
 have hlt := sH h (d := d) (by rw [hd]; simp)
 unfold yielded
 unfold u0 at hj
 rw [hj]
 simp only [Option.bind_some]
 rw [Array.getD_eq_getD_getElem?, Array.getElem?_eq_getElem hlt] at hv
 rw [Array.getElem?_eq_getElem hlt]
 simp only [Option.getD_some] at hv
 rw [hv]
theorem pi (h : Rel E s a w β Rt Ra) {j d : Nat} (hj : u0 ops j = some d) (hd : s.get d = .undef) : yielded ops a.tmps j = none := by
 have hs := h.slots d
 rw [hd] at hs
 have hv : a.tmps.getD d undef = undef := hs
 have hlt := sH h (d := d) (by rw [hd]; simp)
 unfold yielded
 unfold u0 at hj
 rw [hj]
 simp only [Option.bind_some]
 rw [Array.getD_eq_getD_getElem?, Array.getElem?_eq_getElem hlt] at hv
 rw [Array.getElem?_eq_getElem hlt]
 simp only [Option.getD_some] at hv
 rw [hv]; rfl
theorem sK {i : Nat} (hi : ops[i]? = some o) (hw : Region.wanted o (yielded ops a.tmps) = true) (h : dV P E o a w κ r) : vP P E ops i a w κ r := by
 intro K Q hK
 unfold wpOp; rw [hi]; simp only [hw, if_true]
 exact .inl (h K Q hK)
theorem nS {i : Nat} (hi : ops[i]? = some o) (hw : Region.wanted o (yielded ops a.tmps) = false) (h : Rel E s a w β Rt Ra) (hk : κ (s.put o.dst .undef) = some r) : vP P E ops i a w κ r := by
 intro K Q hK
 unfold wpOp; rw [hi]; simp only [hw, Bool.false_eq_true, if_false]
 exact hK _ _ _ hk ⟨β, Rt, Ra, h.put o.dst (x := .undef) (v := undef) rfl⟩
theorem gf {q : Bool} (hP : Ok P C.ty) (hE : EnvOk C tab E) (hD : ∀ g, bL P C.ty tab g (C.call g)) (h : Rel E s a w β Rt Ra) {i : Nat} (hi : ops[i]? = some o) (hk : cS C q ops o s κ = some r) : vP P E ops i a w κ r := by
 rw [dP] at hk
 split at hk
 ·rename_i hg
  exact sK hi (by unfold Region.wanted; rw [hg]) (qh hP hE hD h hk)
 ·rename_i j want hg
  split at hk
  ·cases hk
  ·rename_i d hd
   split at hk
   ·rename_i hu
    exact nS hi (by unfold Region.wanted; rw [hg]; simp [pi h hd hu]) h hk
   ·rename_i t hu
    have hy := sb h hd hu
    split at hk
    ·rename_i e
     exact sK hi (by unfold Region.wanted; rw [hg]; simp [hy, e]) (qh hP hE hD h hk)
    ·rename_i e
     exact nS hi (by unfold Region.wanted; rw [hg]; simp [hy, e]) h hk
   ·cases hk
theorem sJ {i : Nat} (h : vP P E ops i a w κ r) : ∃ s' a' w', κ s' = some r /\ cT E s' a' w' := by
 have h1 := h (fun a' w' => ∃ s', κ s' = some r /\ cT E s' a' w') (fun _ _ _ => False) fun s' a' w' hk hr => ⟨s', hk, hr⟩
 unfold wpOp at h1
 split at h1
 ·obtain ⟨s', g1, g2⟩ := h1; exact ⟨s', _, _, g1, g2⟩
 ·split at h1
  ·rcases h1 with h1 | h1
   ·unfold Oper.wp at h1
    generalize (execOp a.eval _).run P w = rr at h1
    cases rr with
    | ok n w' =>
     cases n <;> simp only [Oper.upon] at h1
     case value => obtain ⟨s', g1, g2⟩ := h1; exact ⟨s', _, _, g1, g2⟩
     case skip => obtain ⟨s', g1, g2⟩ := h1; exact ⟨s', _, _, g1, g2⟩
     case defer => obtain ⟨s', g1, g2⟩ := h1; exact ⟨s', _, _, g1, g2⟩
     case enter =>
      obtain ⟨e, w2, fr, g, _⟩ := h1 []
      cases e with
      | returned v => obtain ⟨s', g1, g2⟩ := g; exact ⟨s', _, _, g1, g2⟩
      | panicked c => exact g.elim
      | outgrown => obtain ⟨_, _, hq⟩ := g; exact hq.elim
     case row =>
      obtain ⟨v, w2, g, _⟩ := h1 (Frame.enter P 0 #[] .normal) []
      obtain ⟨s', g1, g2⟩ := g; exact ⟨s', _, _, g1, g2⟩
    | halt x w' => cases x <;> simp only [Oper.upon] at h1
   ·exact h1.2.elim fun _ h => h.elim fun _ h => h.elim
  ·obtain ⟨s', g1, g2⟩ := h1; exact ⟨s', _, _, g1, g2⟩
theorem ox {q : Bool} (hP : Ok P C.ty) (hE : EnvOk C tab E) (hD : ∀ g, bL P C.ty tab g (C.call g)) {Q : Exit -> Act -> World -> Prop} (hQ : ∀ s' a' w', κ s' = some r -> cT E s' a' w' -> Q .normal a' w') :
  ∀ (l : List Oper) (n : Nat) {s : St} {a : Act} {w : World}, ops.toList.drop n = l -> cT E s a w -> eK C q ops l s κ = some r -> wpOps P ops Q (List.range' n l.length) a w
 | [], n, s, a, w, _, h, hk => by
  simp only [List.length_nil, List.range'_zero, wpOps]; exact hQ s a w hk h
 | o :: l, n, s, a, w, hl, ⟨β, Rt, Ra, h⟩, hk => by
  have hi : ops[n]? = some o := by
   have := congrArg (·[0]?) hl
   simpa using this
  have hl' : ops.toList.drop (n + 1) = l := by
   rw [<- List.drop_drop, hl]; rfl
  simp only [List.length_cons, List.range'_succ]
  rw [wpOps_cons]
  refine gf hP hE hD h hi hk _ _ fun s' a' w' hk' hr' => ?_
  exact ox hP hE hD hQ l (n + 1) hl' hr' hk'
theorem lu {q : Bool} (hP : Ok P C.ty) (hE : EnvOk C tab E) (hD : ∀ g, bL P C.ty tab g (C.call g)) : ∀ (l : List Nat) {s : St} {a : Act} {w : World} {κ : St -> Option R}, (∀ i ∈ l, i < ops.size) -> cT E s a w -> eK C q ops (l.filterMap (ops[·]?)) s κ = some r -> ∃ s' a' w', κ s' = some r /\ cT E s' a' w'
 | [], s, a, w, κ, _, h, hk => ⟨s, a, w, hk, h⟩
 | i :: l, s, a, w, κ, hl, ⟨β, Rt, Ra, h⟩, hk => by
  have hi : ops[i]? = some (ops[i]'(hl i (by simp))) := Array.getElem?_eq_getElem (hl i (by simp))
  rw [List.filterMap_cons_some (by exact hi)] at hk
  obtain ⟨s', a', w', hk', hr'⟩ := sJ (gf hP hE hD h hi hk)
  exact lu hP hE hD l (fun j hj => hl j (by simp [hj])) hr' hk'
end
end Go.Proofs.Ab
namespace Go.Proofs.Ab
open Go
variable {R : Type}
section
variable {o : Oper} {s s' : St} {C : Cfg R} {K K' : St -> Option R}
theorem U0 {lt : Bool} (hc : cls lt o = 0) (hev : ∀ x ∈ o.op.operands, ev s' x = ev s x) (hK : ∀ u, K (s.put o.dst u) = K' (s'.put o.dst u)) : ee C true o s K = ee C true o s' K' := by
 unfold ee cls at *
 split at hc <;> rename_i ho <;> try (cases hc; done)
 ·rename_i x; have h1 := hev x (by rw [ho]; simp [Op.operands]); simp only [ho, h1, hK, cond_true]
 ·rename_i x; have h1 := hev x (by rw [ho]; simp [Op.operands]); simp only [ho, h1, hK, cond_true]
 ·rename_i c x y
  have h1 := hev c (by rw [ho]; simp [Op.operands]); have h2 := hev x (by rw [ho]; simp [Op.operands]); have h3 := hev y (by rw [ho]; simp [Op.operands])
  simp only [ho, h1, h2, h3, hK]
 ·rename_i x; have h1 := hev x (by rw [ho]; simp [Op.operands]); simp only [ho, h1, hK, cond_true]
 ·rename_i x; have h1 := hev x (by rw [ho]; simp [Op.operands]); simp only [ho, h1, hK, cond_true]
 ·rename_i x; have h1 := hev x (by rw [ho]; simp [Op.operands]); simp only [ho, h1, hK, cond_true]
 ·rename_i x _; have h1 := hev x (by rw [ho]; simp [Op.operands]); simp only [ho, h1, hK, cond_true]
 ·rename_i x _; have h1 := hev x (by rw [ho]; simp [Op.operands]); simp only [ho, h1, hK, cond_true]
 ·rename_i x y
  have h1 := hev x (by rw [ho]; simp [Op.operands]); have h2 := hev y (by rw [ho]; simp [Op.operands])
  simp only [ho, h1, h2, hK]
 ·rename_i x _; have h1 := hev x (by rw [ho]; simp [Op.operands]); simp only [ho, h1, hK, cond_true]
 ·rename_i x y _
  have h1 := hev x (by rw [ho]; simp [Op.operands]); have h2 := hev y (by rw [ho]; simp [Op.operands])
  simp only [ho, h1, h2, hK]
 ·rename_i t ps
  have h1 : ps.toList.map (fun p => (p.1, ev s' p.2)) = ps.toList.map (fun p => (p.1, ev s p.2)) :=
   List.map_congr_left fun p hp => by rw [hev p.2 (by rw [ho]; simp [Op.operands]; exact ⟨p.1, by simpa using hp⟩)]
  simp only [ho, h1, hK, cond_true]
 ·rename_i c
  split at hc <;> rename_i hcal <;> try (first | (cases hc; done) | (exfalso; revert hc; cases lt <;> intro hc <;> cases hc; done))
  all_goals
   have h1 : ∀ x ∈ c.args.toList, ev s' x = ev s x := fun x hx => hev x (by rw [ho]; simp [Op.operands, Call.operands, hcal]; simpa using hx)
   simp only [ho, hcal]
   unfold dD
   generalize c.args.toList = l at h1
   generalize c.argTypes.toList = ts
   match l, h1 with
   | [], _ => rfl
   | [x], _ => rfl
   | [x, y], h1 => simp only [h1 x (by simp), h1 y (by simp), hK]
   | _ :: _ :: _ :: _, _ => rfl
theorem tw (C : Cfg R) (T : TI) (v : SV) (h : ∀ k, tok v = some k -> s'.obj k = s.obj k) : loadAt C s' T v = loadAt C s T v := by
 cases v <;> try rfl
 case ptr t off => simp only [loadAt, h t rfl]
 case el t i off => simp only [loadAt, h t rfl]
 case ap t n => simp only [loadAt, h t rfl]
theorem p7 (v : SV) (h : ∀ k, tok v = some k -> s'.obj k = s.obj k) : lj s' v = lj s v := by
 cases v <;> try rfl
 case own t => simp only [lj, h t rfl]
theorem U1 {lt : Bool} (hc : cls lt o <= 1) (hev : ∀ x ∈ o.op.operands, ev s' x = ev s x) (hsame : ∀ x ∈ o.op.operands, ∀ k, tok (ev s x) = some k -> s'.obj k = s.obj k) (hK : ∀ u, K (s.put o.dst u) = K' (s'.put o.dst u)) : ee C true o s K = ee C true o s' K' := by
 by_cases h0 : cls lt o = 0
 ·exact U0 h0 hev hK
 have hc1 : cls lt o = 1 := by omega
 unfold ee
 unfold cls at hc1
 split at hc1 <;> rename_i ho <;> try (cases hc1; done)
 ·rename_i t x
  have h1 := hev x (by rw [ho]; simp [Op.operands])
  have h2 := hsame x (by rw [ho]; simp [Op.operands])
  simp only [ho, h1, tw C _ _ h2, hK]
 ·rename_i t x i
  have h1 := hev x (by rw [ho]; simp [Op.operands])
  have h2 := hsame x (by rw [ho]; simp [Op.operands])
  have h3 := hev i (by rw [ho]; simp [Op.operands])
  simp only [ho, h1, h3]
  cases C.ty t with
  | none => rfl
  | some S =>
   simp only
   generalize S.sl = b
   cases b <;> simp only [hK, Bool.not_true, Bool.not_false, cond_true, cond_false] <;> cases hx : ev s x <;> rw [hx] at h2 <;> first
    | (simp only [h2 _ rfl]; done)
    | (cases np C S <;> cases C.ty S.elem <;> cases ev s i <;> first | rfl | simp only [h2 _ rfl])
 ·rename_i ty x lo hi mx
  cases mx with
  | some m => simp only [ho]
  | none =>
   have h1 := hev x (by rw [ho]; simp [Op.operands])
   have h2 := hsame x (by rw [ho]; simp [Op.operands])
   have hl := p7 (s := s) (s' := s') _ h2
   simp only [ho, h1]
   have hb : bounds s' (ev s x) lo hi = bounds s (ev s x) lo hi := by
    unfold bounds
    rw [hl]
    cases lj s (ev s x) with
    | none => rfl
    | some z =>
     cases lo with
     | none => cases hi with
      | none => rfl
      | some b => simp only [hev b (by rw [ho]; simp [Op.operands])]
     | some b => cases hi with
      | none => simp only [hev b (by rw [ho]; simp [Op.operands])]
      | some d => simp only [hev b (by rw [ho]; simp [Op.operands]), hev d (by rw [ho]; simp [Op.operands])]
   simp only [hb, hK]
   cases hx : ev s x <;> rw [hx] at h2 <;> first
    | rfl
    | simp only [h2 _ rfl]
 ·rename_i c
  split at hc1 <;> rename_i hcal <;> try (first | (cases hc1; done) | (exfalso; revert hc1; cases lt <;> intro hc1 <;> cases hc1; done))
  all_goals
   have h1 : ∀ x ∈ c.args.toList, ev s' x = ev s x := fun x hx => hev x (by rw [ho]; simp [Op.operands, Call.operands, hcal]; simpa using hx)
   have h2 : ∀ x ∈ c.args.toList, ∀ k, tok (ev s x) = some k -> s'.obj k = s.obj k := fun x hx => hsame x (by rw [ho]; simp [Op.operands, Call.operands, hcal]; simpa using hx)
   simp only [ho, hcal]
   unfold dD
   generalize c.args.toList = l at h1 h2
   generalize c.argTypes.toList = ts
   match l, h1, h2 with
   | [], _, _ => rfl
   | [x], h1, h2 =>
    have a1 := h1 x (by simp)
    have a2 := h2 x (by simp)
    first
     | simp only [a1, p7 _ a2, hK]; done
     | (simp only [a1, gO]
        cases hx : ev s x <;> first
         | (rw [hx] at a2; simp only [a2 _ rfl, hK]; done)
         | (simp only [hK]; done)
         | rfl)
   | [_, _], _, _ => rfl
   | _ :: _ :: _ :: _, _, _ => rfl
end
end Go.Proofs.Ab
namespace Go.Proofs.Ab
open Go
variable {R : Type}
theorem iF : ∀ (ls : List SV) (ob : List (Nat × Obj)) (n : Nat), ∃ us ob' n', ∀ a, cC ⟨a, ob, n⟩ ls = (us, ⟨a, ob', n'⟩)
 | [], ob, n => ⟨[], ob, n, fun _ => rfl⟩
 | x :: r, ob, n => by
  by_cases hx : ∃ e l st, x = .fr e l st
  ·obtain ⟨e, l, st, rfl⟩ := hx
   obtain ⟨us, ob', n', h⟩ := iF r ((n, .row e l st) :: ob) (n + 1)
   refine ⟨.own n :: us, ob', n', fun a => ?_⟩
   rw [fX]
   show (SV.own n :: (cC ⟨a, (n, .row e l st) :: ob, n + 1⟩ r).1, (cC ⟨a, (n, .row e l st) :: ob, n + 1⟩ r).2) = _
   rw [h a]
  ·obtain ⟨us, ob', n', h⟩ := iF r ob n
   refine ⟨x :: us, ob', n', fun a => ?_⟩
   rw [gK _ x r fun e l st e' => hx ⟨e, l, st, e'⟩, h a]
theorem jS (x : SV) (ob : List (Nat × Obj)) (n : Nat) : ∃ u ob' n', ∀ a, ef ⟨a, ob, n⟩ x = (u, ⟨a, ob', n'⟩) := by
 rcases gj x with ⟨l, rfl⟩ | h1
 ·obtain ⟨us, ob', n', h⟩ := iF l ob n
  exact ⟨.agg us, ob', n', fun a => by simp only [ef, h a]⟩
 ·obtain ⟨us, ob', n', h⟩ := iF [x] ob n
  obtain ⟨u, hu, _⟩ := gL h1 ⟨[], ob, n⟩
  rw [h []] at hu
  refine ⟨u, ob', n', fun a => ?_⟩
  obtain ⟨u', hu', e⟩ := gL h1 ⟨a, ob, n⟩
  rw [h a] at hu' e
  simp only at hu hu' e
  rw [hu] at hu'; cases hu'
  exact e
theorem mj : ∀ (xs : List SV) (ob : List (Nat × Obj)) (n : Nat), ∃ us ob' n', ∀ a, fa ⟨a, ob, n⟩ xs = (us, ⟨a, ob', n'⟩)
 | [], ob, n => ⟨[], ob, n, fun _ => rfl⟩
 | x :: r, ob, n => by
  obtain ⟨u, ob1, n1, h1⟩ := jS x ob n
  obtain ⟨us, ob2, n2, h2⟩ := mj r ob1 n1
  exact ⟨u :: us, ob2, n2, fun a => by simp only [fa, h1 a, h2 a]⟩
theorem jI : ∀ (xs back : List SV) (ob : List (Nat × Obj)) (n : Nat), (∀ a, eR ⟨a, ob, n⟩ xs back = none) ∨ ∃ ob' n', ∀ a, eR ⟨a, ob, n⟩ xs back = some ⟨a, ob', n'⟩
 | [], [], ob, n => .inr ⟨ob, n, fun _ => rfl⟩
 | [], _ :: _, _, _ => .inl fun _ => rfl
 | x :: r, u, ob, n => by
  by_cases hx : ∃ t o, x = .ptr t o
  ·obtain ⟨t, o, rfl⟩ := hx
   cases u with
   | nil => exact .inl fun _ => rfl
   | cons y u =>
    by_cases hy : ∃ ty ls, y = .vp ty ls
    ·obtain ⟨ty, ls, rfl⟩ := hy
     obtain ⟨us, ob1, n1, h1⟩ := iF ls ob n
     rcases jI r u (ob1.map fun p => bif Nat.beq t p.1 then (p.1, .var ty us) else p) n1 with h2 | ⟨ob2, n2, h2⟩
     ·refine .inl fun a => ?_
      rw [lN, h1 a]; exact h2 a
     ·refine .inr ⟨ob2, n2, fun a => ?_⟩
      rw [lN, h1 a]; exact h2 a
    ·refine .inl fun a => ?_
     cases y <;> first | rfl | exact absurd ⟨_, _, rfl⟩ hy
  ·have hx' : ∀ t o, x ≠ .ptr t o := fun t o e => hx ⟨t, o, e⟩
   rcases jI r u ob n with h | ⟨ob', n', h⟩
   ·exact .inl fun a => by rw [jl _ hx']; exact h a
   ·exact .inr ⟨ob', n', fun a => by rw [jl _ hx']; exact h a⟩
theorem pQ : ∀ (ts : List Nat) (ob : List (Nat × Obj)) (n : Nat), ∃ ob', ∀ a, fC ts ⟨a, ob, n⟩ = ⟨a, ob', n⟩
 | [], ob, n => ⟨ob, fun _ => rfl⟩
 | t :: r, ob, n => by
  obtain ⟨ob', h⟩ := pQ r (ob.map fun p => bif Nat.beq t p.1 then (p.1, .hole) else p) n
  exact ⟨ob', fun a => h a⟩
section
variable {a b : List SV} {ob : List (Nat × Obj)} {n : Nat}
theorem nz (x : SV) : fH ⟨a, ob, n⟩ x = fH ⟨b, ob, n⟩ x := by cases x <;> rfl
theorem xy (x : SV) : kV ⟨a, ob, n⟩ x = kV ⟨b, ob, n⟩ x := by cases x <;> rfl
theorem nC : ∀ (l : List SV), gi ⟨a, ob, n⟩ l = gi ⟨b, ob, n⟩ l
 | [] => rfl
 | x :: r => by simp only [gi, nz (a := a) (b := b) x, nC r]
theorem pM : ∀ (l : List SV), ix ⟨a, ob, n⟩ l = ix ⟨b, ob, n⟩ l
 | [] => rfl
 | x :: r => by simp only [ix, xy (a := a) (b := b) x, pM r]
theorem uF (x : SV) : fb ⟨a, ob, n⟩ x = fb ⟨b, ob, n⟩ x := by
 unfold fb
 split
 ·rw [nC (a := a) (b := b)]
 ·show (match St.obj ⟨b, ob, n⟩ _ with
   | some (.var ty ls) => match ix ⟨a, ob, n⟩ ls with
    | some l => some (SV.vp ty l)
    | none => none
   | _ => none) = _
  simp only [pM (a := a) (b := b)]
  rfl
 ·exact nz _
theorem kf : ∀ (l : List SV), er ⟨a, ob, n⟩ l = er ⟨b, ob, n⟩ l
 | [] => rfl
 | x :: r => by simp only [er, uF (a := a) (b := b) x, kf r]
theorem ng : ∀ (l : List SV), ie ⟨a, ob, n⟩ l = ie ⟨b, ob, n⟩ l
 | [] => rfl
 | x :: r => by
  by_cases hx : ∃ t o, x = .ptr t o
  ·obtain ⟨t, o, rfl⟩ := hx
   simp only [ie, ng r]; rfl
  ·rw [ry (fun t o e => hx ⟨t, o, e⟩), ry (fun t o e => hx ⟨t, o, e⟩), ng r]
theorem fU : ∀ (l : List SV), bT ⟨a, ob, n⟩ l = bT ⟨b, ob, n⟩ l
 | [] => rfl
 | x :: r => by
  by_cases hx : ∃ t o, x = .ptr t o
  ·obtain ⟨t, o, rfl⟩ := hx
   simp only [bT, fU r]; rfl
  ·have h1 : ∀ s : St, bT s (x :: r) = bT s r := by
    intro s; cases x <;> first | rfl | exact absurd ⟨_, _, rfl⟩ hx
   rw [h1, h1, fU r]
end
section
variable {C : Cfg R} {K K' : St -> Option R}
theorem xh {d : Option Nat} {g : Nat} {xs : List Operand} {sl sl' : List SV} {ob : List (Nat × Obj)} {n : Nat} (hev : ∀ x ∈ xs, ev ⟨sl', ob, n⟩ x = ev ⟨sl, ob, n⟩ x)
  (hK : ∀ u ob' n', K ((⟨sl, ob', n'⟩ : St).put d u) = K' ((⟨sl', ob', n'⟩ : St).put d u)) : gW C true ⟨sl, ob, n⟩ d g xs K = gW C true ⟨sl', ob, n⟩ d g xs K' := by
 have he : xs.map (ev ⟨sl', ob, n⟩) = xs.map (ev ⟨sl, ob, n⟩) := List.map_congr_left hev
 unfold gW jW ny kH
 simp only [List.append_nil]
 simp only [he]
 generalize hfz : (bif C.uM g then eG (xs.map (ev ⟨sl, ob, n⟩)) ++ pu (xs.map (ev ⟨sl, ob, n⟩)) else []) = fz
 cases fz with
 | cons t ts => simp
 | nil =>
  simp only [fI, he]
  generalize xs.map (ev ⟨sl, ob, n⟩) = vs
  rw [ng (a := sl') (b := sl), fU (a := sl') (b := sl), kf (a := sl') (b := sl)]
  generalize hc : ((true && !(([] : List Nat).isEmpty && (bT ⟨sl, ob, n⟩ vs).isEmpty)) || !distinct (ie ⟨sl, ob, n⟩ vs) || (seen vs).any fun t => (ie ⟨sl, ob, n⟩ vs).any (Nat.beq t)) = cnd
  cases cnd with
  | true => rfl
  | false =>
   simp only [cond_false]
   cases er ⟨sl, ob, n⟩ vs with
   | none => rfl
   | some cs =>
    simp only
    have hgr : bT ⟨sl, ob, n⟩ vs = [] := by
     cases hg : bT ⟨sl, ob, n⟩ vs with
     | nil => rfl
     | cons t ts => rw [hg] at hc; simp at hc
    rw [hgr]
    refine congrArg (C.call g cs) (funext fun res => ?_)
    cases res with
    | nil => rfl
    | cons v back =>
     simp only [fe]
     obtain ⟨ob1, h1⟩ := pQ (given vs) ob n
     rw [h1 sl, h1 sl']
     rcases jI vs back ob1 n with h2 | ⟨ob2, n2, h2⟩
     ·rw [h2 sl, h2 sl']
     ·rw [h2 sl, h2 sl']
      simp only
      rcases ow v with ⟨l, rfl⟩ | hv
      ·obtain ⟨us, ob3, n3, h3⟩ := mj l ob2 n2
       simp only [h3 sl, h3 sl']
       exact hK _ _ _
      ·obtain ⟨u, ob3, n3, h3⟩ := jS v ob2 n2
       cases v <;> first
        | exact absurd rfl (hv _)
        | (simp only [h3 sl, h3 sl']; exact hK _ _ _)
def Nm (ob : List (Nat × Obj)) (n : Nat) : Prop := ∀ t o, lookup t ob = some o -> t < n
def nc (ob ob' : List (Nat × Obj)) : Prop := ∀ t o, lookup t ob = some o -> lookup t ob' = some o
def yq (C : Cfg R) : Prop := ∀ g xs κ, jX xs = true -> C.call g xs κ = none
theorem nc.refl (ob : List (Nat × Obj)) : nc ob ob := fun _ _ h => h
theorem nc.trans {a b c : List (Nat × Obj)} (h : nc a b) (h' : nc b c) : nc a c := fun t o ho => h' t o (h t o ho)
theorem vZ {ob : List (Nat × Obj)} {n : Nat} (h : Nm ob n) (o : Obj) : nc ob ((n, o) :: ob) /\ Nm ((n, o) :: ob) (n + 1) := by
 refine ⟨fun t x ht => ?_, fun t x ht => ?_⟩
 ·have := h t x ht
  unfold lookup
  cases hb : Nat.beq t n with
  | true => have := Nat.eq_of_beq_eq_true hb; omega
  | false => exact ht
 ·unfold lookup at ht
  cases hb : Nat.beq t n with
  | true => have := Nat.eq_of_beq_eq_true hb; omega
  | false => rw [hb] at ht; have := h t x ht; omega
theorem jR : ∀ (ls : List SV) (ob : List (Nat × Obj)) (n : Nat), Nm ob n -> ∀ a, nc ob (cC ⟨a, ob, n⟩ ls).2.objs /\ Nm (cC ⟨a, ob, n⟩ ls).2.objs (cC ⟨a, ob, n⟩ ls).2.next
 | [], ob, n, h, a => ⟨nc.refl _, h⟩
 | x :: r, ob, n, h, a => by
  by_cases hx : ∃ e l st, x = .fr e l st
  ·obtain ⟨e, l, st, rfl⟩ := hx
   rw [fX]
   obtain ⟨h1, h2⟩ := vZ h (.row e l st)
   obtain ⟨h3, h4⟩ := jR r _ _ h2 a
   exact ⟨h1.trans h3, h4⟩
  ·rw [gK _ x r fun e l st e' => hx ⟨e, l, st, e'⟩]
   exact jR r ob n h a
theorem ql (x : SV) (ob : List (Nat × Obj)) (n : Nat) (h : Nm ob n) (a : List SV) : nc ob (ef ⟨a, ob, n⟩ x).2.objs /\ Nm (ef ⟨a, ob, n⟩ x).2.objs (ef ⟨a, ob, n⟩ x).2.next := by
 rcases gj x with ⟨l, rfl⟩ | h1
 ·exact jR l ob n h a
 ·obtain ⟨u, hu, e⟩ := gL h1 ⟨a, ob, n⟩
  rw [e]
  exact jR [x] ob n h a
theorem qj : ∀ (xs : List SV) (ob : List (Nat × Obj)) (n : Nat), Nm ob n -> ∀ a, nc ob (fa ⟨a, ob, n⟩ xs).2.objs /\ Nm (fa ⟨a, ob, n⟩ xs).2.objs (fa ⟨a, ob, n⟩ xs).2.next
 | [], ob, n, h, a => ⟨nc.refl _, h⟩
 | x :: r, ob, n, h, a => by
  obtain ⟨u, ob1, n1, h1⟩ := jS x ob n
  obtain ⟨h2, h3⟩ := ql x ob n h a
  rw [h1 a] at h2 h3
  obtain ⟨h4, h5⟩ := qj r ob1 n1 h3 a
  simp only [fa, h1 a]
  exact ⟨h2.trans h4, h5⟩
theorem uG {s : St} {t o : Nat} {y : SV} (h : fb s (.ptr t o) = some y) : ∃ ty ls, y = .vp ty ls := by
 cases o with
 | zero =>
  simp only [fb] at h
  split at h
  ·split at h
   ·cases h; exact ⟨_, _, rfl⟩
   ·cases h
  ·cases h
 | succ o => simp [fb, fH] at h
theorem nB {s : St} : ∀ {vs cs : List SV}, er s vs = some cs -> jX cs = false -> ∀ x ∈ vs, ∀ t o, x ≠ .ptr t o
 | [], _, _, _, x, hx, _, _ => by cases hx
 | v :: vs, cs, h, hv, x, hx, t, o => by
  unfold er at h
  split at h
  ·rename_i y l h1 h2
   cases h
   have hvl : jX l = false := by
    cases y <;> first | exact hv | (cases hv)
   rcases List.mem_cons.1 hx with rfl | hx
   ·intro e; subst e
    obtain ⟨ty, ls, rfl⟩ := uG h1
    cases hv
   ·exact nB h2 hvl x hx t o
  ·cases h
theorem pN : ∀ {vs : List SV}, (∀ x ∈ vs, ∀ t o, x ≠ .ptr t o) -> given vs = []
 | [], _ => rfl
 | x :: r, h => by
  have h1 : given r = [] := pN fun y (hy : y ∈ r) => h y (List.mem_cons_of_mem _ hy)
  cases x <;> first | exact h1 | exact absurd rfl (h _ List.mem_cons_self _ _)
theorem pw : ∀ {vs : List SV} {s s2 : St} {back : List SV}, (∀ x ∈ vs, ∀ t o, x ≠ .ptr t o) -> eR s vs back = some s2 -> s2 = s
 | [], s, s2, [], _, h => by simp only [eR, Option.some.injEq] at h; exact h.symm
 | [], s, s2, _ :: _, _, h => by simp [eR] at h
 | x :: r, s, s2, back, hx, h => by
  rw [jl _ (hx x (by simp))] at h
  exact pw (fun y hy => hx y (by simp [hy])) h
theorem sj (hL : yq C) {d : Option Nat} {g : Nat} {xs : List Operand} {sl sl' : List SV} {ob : List (Nat × Obj)} {n : Nat} (hev : ∀ x ∈ xs, ev ⟨sl', ob, n⟩ x = ev ⟨sl, ob, n⟩ x)
  (hK : ∀ u ob' n', (Nm ob n -> nc ob ob' /\ Nm ob' n') -> K ((⟨sl, ob', n'⟩ : St).put d u) = K' ((⟨sl', ob', n'⟩ : St).put d u)) : gW C true ⟨sl, ob, n⟩ d g xs K = gW C true ⟨sl', ob, n⟩ d g xs K' := by
 have he : xs.map (ev ⟨sl', ob, n⟩) = xs.map (ev ⟨sl, ob, n⟩) := List.map_congr_left hev
 unfold gW jW ny kH
 simp only [List.append_nil]
 simp only [he]
 generalize hfz : (bif C.uM g then eG (xs.map (ev ⟨sl, ob, n⟩)) ++ pu (xs.map (ev ⟨sl, ob, n⟩)) else []) = fz
 cases fz with
 | cons t ts => simp
 | nil =>
  simp only [fI, he]
  generalize xs.map (ev ⟨sl, ob, n⟩) = vs
  rw [ng (a := sl') (b := sl), fU (a := sl') (b := sl), kf (a := sl') (b := sl)]
  generalize hc : ((true && !(([] : List Nat).isEmpty && (bT ⟨sl, ob, n⟩ vs).isEmpty)) || !distinct (ie ⟨sl, ob, n⟩ vs) || (seen vs).any fun t => (ie ⟨sl, ob, n⟩ vs).any (Nat.beq t)) = cnd
  cases cnd with
  | true => rfl
  | false =>
   simp only [cond_false]
   cases hcl : er ⟨sl, ob, n⟩ vs with
   | none => rfl
   | some cs =>
    simp only
    by_cases hv : jX cs = true
    ·rw [hL g cs _ hv, hL g cs _ hv]
    have hno := nB hcl (by simpa using hv)
    have hgr : bT ⟨sl, ob, n⟩ vs = [] := by
     cases hg : bT ⟨sl, ob, n⟩ vs with
     | nil => rfl
     | cons t ts => rw [hg] at hc; simp at hc
    rw [hgr, pN hno]
    refine congrArg (C.call g cs) (funext fun res => ?_)
    cases res with
    | nil => rfl
    | cons v back =>
     simp only [fe, fC]
     rcases jI vs back ob n with h2 | ⟨ob2, n2, h2⟩
     ·rw [h2 sl, h2 sl']
     ·have e2 := pw hno (h2 sl)
      have : ob2 = ob /\ n2 = n := by
       have := congrArg St.objs e2; have := congrArg St.next e2; exact ⟨by assumption, by assumption⟩
      obtain ⟨rfl, rfl⟩ := this
      rw [h2 sl, h2 sl']
      simp only
      rcases ow v with ⟨l, rfl⟩ | hv
      ·obtain ⟨us, ob3, n3, h3⟩ := mj l ob2 n2
       simp only [h3 sl, h3 sl']
       refine hK _ _ _ fun hn => ?_
       have := qj l ob2 n2 hn sl
       rw [h3 sl] at this; exact this
      ·obtain ⟨u, ob3, n3, h3⟩ := jS v ob2 n2
       have hx : Nm ob2 n2 -> nc ob2 ob3 /\ Nm ob3 n3 := fun hn => by
        have := ql v ob2 n2 hn sl
        rw [h3 sl] at this; exact this
       cases v <;> first
        | exact absurd rfl (hv _)
        | (simp only [h3 sl, h3 sl']; exact hK _ _ _ hx)
end
end Go.Proofs.Ab
namespace Go.Proofs.Ab
open Go
variable {R : Type}
section
variable {o : Oper} {sl sl' : List SV} {ob : List (Nat × Obj)} {n : Nat} {C : Cfg R} {K K' : St -> Option R}
theorem vf (C : Cfg R) (T : TI) (v : SV) : loadAt C ⟨sl', ob, n⟩ T v = loadAt C ⟨sl, ob, n⟩ T v := rfl
theorem tk (v : SV) : lj ⟨sl', ob, n⟩ v = lj ⟨sl, ob, n⟩ v := rfl
theorem gu (k : Nat) : (⟨sl', ob, n⟩ : St).obj k = (⟨sl, ob, n⟩ : St).obj k := rfl
theorem yj (e : Nat) (T : TI) (v : SV) : lJ ⟨sl', ob, n⟩ e T v = lJ ⟨sl, ob, n⟩ e T v := rfl
theorem sE {s : St} : fI [] s = s := rfl
theorem A8 {ob : List (Nat × Obj)} {n k : Nat} (hk : lookup k ob = none) (hl : k < n) (h : Nm ob n) (o : Obj) : nc ob (ob ++ [(k, o)]) /\ Nm (ob ++ [(k, o)]) n := by
 refine ⟨fun t x hx => by rw [gJ, hx], fun t x hx => ?_⟩
 rw [gJ] at hx
 cases e : lookup t ob with
 | some y => exact h t y e
 | none =>
  rw [e] at hx
  by_cases et : t = k
  ·subst et; exact hl
  ·simp [et] at hx
theorem qb {d : Option Nat} {x : Obj} {f : Nat -> SV} (hN : ∀ (x : Obj) u, K (((⟨sl, ob, n⟩ : St).new x).put d u) = K' (((⟨sl', ob, n⟩ : St).new x).put d u))
  (hA : ∀ k (x : Obj) u, lookup k ob = none -> k < n -> K (((⟨sl, ob, n⟩ : St).newAt k x).put d u) = K' (((⟨sl', ob, n⟩ : St).newAt k x).put d u)) : jz C ⟨sl, ob, n⟩ d x f K = jz C ⟨sl', ob, n⟩ d x f K' := by
 unfold jz
 cases Nat.beq C.base 0 with
 | true => exact hN _ _
 | false =>
  simp only [cond_false]
  show (bif ((⟨sl, ob, n⟩ : St).obj (C.base + d.getD 0)).isNone && (Nat.blt (C.base + d.getD 0) n && Nat.ble 64 C.base) then _ else none) = (bif ((⟨sl', ob, n⟩ : St).obj (C.base + d.getD 0)).isNone && (Nat.blt (C.base + d.getD 0) n && Nat.ble 64 C.base) then _ else none)
  rw [gu (sl := sl) (sl' := sl')]
  cases hc : (((⟨sl, ob, n⟩ : St).obj (C.base + d.getD 0)).isNone && (Nat.blt (C.base + d.getD 0) n && Nat.ble 64 C.base)) with
  | false => rfl
  | true =>
   simp only [Bool.and_eq_true, Option.isNone_iff_eq_none, Nat.blt_eq] at hc
   exact hA _ _ _ hc.1 hc.2.1
theorem U2 {lt : Bool} (hLt : lt = true -> yq C) (hev : ∀ x ∈ o.op.operands, ev ⟨sl', ob, n⟩ x = ev ⟨sl, ob, n⟩ x)
  (hK : ∀ u ob' n', (cls lt o <= 1 -> ob' = ob /\ n' = n) -> (cls lt o <= 2 -> Nm ob n -> nc ob ob' /\ Nm ob' n') -> K ((⟨sl, ob', n'⟩ : St).put o.dst u) = K' ((⟨sl', ob', n'⟩ : St).put o.dst u)) : ee C true o ⟨sl, ob, n⟩ K = ee C true o ⟨sl', ob, n⟩ K' := by
 have hK0 : ∀ u, K ((⟨sl, ob, n⟩ : St).put o.dst u) = K' ((⟨sl', ob, n⟩ : St).put o.dst u) := fun u => hK u ob n (fun _ => ⟨rfl, rfl⟩) (fun _ h => ⟨nc.refl _, h⟩)
 by_cases hc : cls lt o = 0
 ·exact U0 hc hev hK0
 have h2 : ∀ (hcl : cls lt o = 3) u ob' n', K ((⟨sl, ob', n'⟩ : St).put o.dst u) = K' ((⟨sl', ob', n'⟩ : St).put o.dst u) := fun hcl u ob' n' => hK u ob' n' (fun h => by omega) (fun h => by omega)
 have hN : ∀ (hcl : cls lt o = 2) (x : Obj) u, K (((⟨sl, ob, n⟩ : St).new x).put o.dst u) = K' (((⟨sl', ob, n⟩ : St).new x).put o.dst u) := fun hcl x u => hK u _ _ (fun h => by omega) (fun _ h => vZ h x)
 cases ho : o.op <;> (try (exfalso; apply hc; unfold cls; rw [ho]; done)) <;> (try (unfold ee; simp only [ho]; done))
 case makeMap t rr => unfold ee; simp only [ho]; cases rr <;> rfl
 case mapUpdate t m i v => unfold ee; simp only [ho]; rfl
 case lookup t x i ok =>
  have h1 := hev x (by rw [ho]; simp [Op.operands])
  have h1' := hev i (by rw [ho]; simp [Op.operands])
  unfold ee; simp only [ho, h1, h1', gu (sl := sl) (sl' := sl'), hK0]
 case makeFunc fn first captured =>
  unfold ee; simp only [ho]
  cases fn <;> rfl
 case alloc t =>
  replace hN := hN (by unfold cls; rw [ho])
  have hA : ∀ k (x : Obj) u, lookup k ob = none -> k < n -> K (((⟨sl, ob, n⟩ : St).newAt k x).put o.dst u) = K' (((⟨sl', ob, n⟩ : St).newAt k x).put o.dst u) := fun k x u hk hl => hK u _ _ (fun h => by rw [show cls lt o = 2 by unfold cls; rw [ho]] at h; omega) (fun _ h => A8 hk hl h x)
  unfold ee; simp only [ho]
  cases C.ty t with
  | none => rfl
  | some T =>
   simp only
   cases np C T with
   | some k => exact qb hN hA
   | none =>
    simp only
    cases (T.lv.map jF).all stands with
    | true => simp only [cond_true]; exact qb hN hA
    | false => rfl
 case box t x =>
  replace hN := hN (by unfold cls; rw [ho])
  have h1 := hev x (by rw [ho]; simp [Op.operands])
  unfold ee; simp only [ho, h1]
  cases C.ty t with
  | none => rfl
  | some T => simp only; generalize (Nat.beq (leaves (ev ⟨sl, ob, n⟩ x)).length T.sz && (leaves (ev ⟨sl, ob, n⟩ x)).all known) = c; cases c with | true => exact hN _ _ | false => rfl
 case buildSlice t m ps =>
  replace hN := hN (by unfold cls; rw [ho])
  have h1 : ∀ p ∈ ps.toList, ev ⟨sl', ob, n⟩ p.2 = ev ⟨sl, ob, n⟩ p.2 := fun p hp => hev p.2 (by rw [ho]; simp [Op.operands]; exact ⟨p.1, by simpa using hp⟩)
  unfold ee; simp only [ho]
  cases C.ty t with
  | none => rfl
  | some S =>
   simp only
   cases S.sl with
   | false => rfl
   | true =>
    simp only [Bool.not_true, cond_false]
    cases C.ty S.elem with
    | none => rfl
    | some T =>
     simp only
     have e1 : (ps.toList.flatMap fun p => ez (leaves (ev ⟨sl', ob, n⟩ p.2))) = ps.toList.flatMap fun p => ez (leaves (ev ⟨sl, ob, n⟩ p.2)) := by
      simp only [List.flatMap_def]; rw [List.map_congr_left fun p hp => by rw [h1 p hp]]
     rw [e1]
     generalize (ps.toList.flatMap fun p => ez (leaves (ev ⟨sl, ob, n⟩ p.2))) = fz
     cases fz with
     | cons x r => rfl
     | nil =>
      simp only [sE, List.isEmpty_nil, Bool.not_true, Bool.and_false, cond_false]
      rw [List.map_congr_left h1]
      cases rowOf T (ps.toList.map fun p => ev ⟨sl, ob, n⟩ p.2) with
      | none => rfl
      | some p =>
       obtain ⟨l, st⟩ := p
       simp only
       generalize (Nat.beq l.length m && decide (ps.toList.map (·.1) = List.range m) && decide (m * T.sz <= 1000000)) = c
       cases c with | true => exact hN _ _ | false => rfl
 case load t x =>
  have h1 := hev x (by rw [ho]; simp [Op.operands])
  unfold ee; simp only [ho, h1, vf (sl := sl) (sl' := sl'), hK0]
 case store t x v =>
  replace h2 := h2 (by unfold cls; rw [ho])
  have h1 := hev x (by rw [ho]; simp [Op.operands])
  have h1' := hev v (by rw [ho]; simp [Op.operands])
  unfold ee; simp only [ho, h1, h1']
  cases C.ty t with
  | none => rfl
  | some T =>
   simp only
   generalize hx : ev ⟨sl, ob, n⟩ x = ax at *
   cases ax <;> try rfl
   case ptr k off =>
    simp only [gu (sl := sl) (sl' := sl')]
    cases (⟨sl, ob, n⟩ : St).obj k with
    | none => rfl
    | some z =>
     cases z <;> try rfl
     rename_i ty ls
     simp only
     generalize (Nat.beq (leaves (ev ⟨sl, ob, n⟩ v)).length T.sz && (leaves (ev ⟨sl, ob, n⟩ v)).all known && decide (off + T.sz <= ls.length)) = c
     cases c with | true => exact h2 _ _ _ | false => rfl
   case el k i off =>
    simp only
    generalize ez (leaves (ev ⟨sl, ob, n⟩ v)) = fz
    cases fz with
    | cons y r => rfl
    | nil =>
     simp only [sE, List.isEmpty_nil, Bool.not_true, Bool.and_false, cond_false, hx, h1, h1', gu (sl := sl) (sl' := sl')]
     cases (⟨sl, ob, n⟩ : St).obj k with
     | none => rfl
     | some z =>
      cases z <;> try rfl
      rename_i e l st
      simp only
      cases C.ty e with
      | none => rfl
      | some D =>
       simp only
       generalize (Nat.beq (leaves (ev ⟨sl, ob, n⟩ v)).length T.sz && decide (off + T.sz <= D.sz) && fitAll ((D.lv.drop off).take T.sz) (leaves (ev ⟨sl, ob, n⟩ v))) = c
       cases c with | true => exact h2 _ _ _ | false => rfl
   case ap k n' =>
    simp only [gu (sl := sl) (sl' := sl')]
    cases (⟨sl, ob, n⟩ : St).obj k with
    | none => rfl
    | some z =>
     cases z <;> try rfl
     rename_i e l st
     cases np C T with
     | none => rfl
     | some kk =>
      simp only
      generalize (Nat.beq e T.elem && Nat.beq n' T.sz) = c
      cases c with
      | false => rfl
      | true =>
       simp only [cond_true]
       generalize ev ⟨sl, ob, n⟩ v = y
       cases y <;> try rfl
       ·rename_i vs
        simp only
        cases fitAll T.lv vs with | true => exact h2 _ _ _ | false => rfl
       ·rename_i e' m' l'
        simp only
        generalize (Nat.beq e' e && Nat.beq m' T.sz) = c
        cases c with | true => exact h2 _ _ _ | false => rfl
 case indexAddr t x i =>
  have h1 := hev x (by rw [ho]; simp [Op.operands])
  have h1' := hev i (by rw [ho]; simp [Op.operands])
  unfold ee; simp only [ho, h1, h1', gu (sl := sl) (sl' := sl'), hK0]
 case slice t x lo hi mx =>
  cases mx with
  | some m => unfold ee; simp only [ho]
  | none =>
   have h1 := hev x (by rw [ho]; simp [Op.operands])
   have hb : bounds ⟨sl', ob, n⟩ (ev ⟨sl, ob, n⟩ x) lo hi = bounds ⟨sl, ob, n⟩ (ev ⟨sl, ob, n⟩ x) lo hi := by
    unfold bounds
    rw [tk (sl := sl) (sl' := sl')]
    cases lj ⟨sl, ob, n⟩ (ev ⟨sl, ob, n⟩ x) with
    | none => rfl
    | some z =>
     cases lo with
     | none => cases hi with
      | none => rfl
      | some b => simp only [hev b (by rw [ho]; simp [Op.operands])]
     | some b => cases hi with
      | none => simp only [hev b (by rw [ho]; simp [Op.operands])]
      | some d => simp only [hev b (by rw [ho]; simp [Op.operands]), hev d (by rw [ho]; simp [Op.operands])]
   unfold ee; simp only [ho, h1, hb, gu (sl := sl) (sl' := sl'), hK0]
 case range t x =>
  replace hN := hN (by unfold cls; rw [ho])
  have h1 := hev x (by rw [ho]; simp [Op.operands])
  unfold ee; simp only [ho, h1]
  cases C.ty t with
  | none => rfl
  | some T =>
   generalize ev ⟨sl, ob, n⟩ x = y
   cases y <;> try rfl
   simp only
   cases ld T with
   | false => rfl
   | true => exact hN _ _
 case next x b => cases b <;> unfold ee <;> simp only [ho] <;> rfl
 case call c =>
  unfold ee; simp only [ho]
  cases hcal : c.callee with
  | invoke x m => rfl
  | value f =>
   have h1 := hev f (by rw [ho]; simp [Op.operands, Call.operands, hcal])
   simp only [h1]
   generalize ev ⟨sl, ob, n⟩ f = y
   cases y <;> try rfl
   rename_i g
   dsimp only
   cases C.mv g with
   | true => rfl
   | false =>
   simp only [cond_false]
   cases lt with
   | true => exact sj (hLt rfl) (fun x hx => hev x (by rw [ho]; simp [Op.operands, Call.operands, hcal]; exact .inr (by simpa using hx))) fun u ob' n' h => hK u ob' n' (fun hc1 => by unfold cls at hc1; simp [ho, hcal] at hc1) (fun _ => h)
   | false =>
    replace h2 := h2 (by unfold cls; simp only [ho, hcal]; rfl)
    exact xh (fun x hx => hev x (by rw [ho]; simp [Op.operands, Call.operands, hcal]; exact .inr (by simpa using hx))) h2
  | builtin b =>
   simp only
   have h1 : ∀ x ∈ c.args.toList, ev ⟨sl', ob, n⟩ x = ev ⟨sl, ob, n⟩ x := fun x hx => hev x (by rw [ho]; simp [Op.operands, Call.operands, hcal]; simpa using hx)
   unfold dD
   generalize c.args.toList = l at h1
   generalize c.argTypes.toList = ts
   match l, h1 with
   | [], _ => cases b <;> rfl
   | [x], h1 =>
    have a1 := h1 x (by simp)
    cases b <;> try rfl
    case len => simp only [a1, tk (sl := sl) (sl' := sl'), hK0]
    case unsafeSliceData => simp only [a1, gO, gu (sl := sl) (sl' := sl'), hK0]
   | [x, y], h1 =>
    have a1 := h1 x (by simp); have a2 := h1 y (by simp)
    cases b <;> try rfl
    case append =>
     simp only [a1, a2]
     split
     ·unfold qW
      simp only [yj (sl := sl) (sl' := sl'), cond_true]
     ·rfl
    case max => simp only [a1, a2, hK0]
    case min => simp only [a1, a2, hK0]
    case unsafeString =>
     replace h2 := h2 (by unfold cls; simp only [ho, hcal])
     have h3 : ∀ k u, K (((⟨sl, ob, n⟩ : St).setObj k .hole).put o.dst u) = K' (((⟨sl', ob, n⟩ : St).setObj k .hole).put o.dst u) := fun k u => h2 u _ _
     simp only [a1, a2, rW, gu (sl := sl) (sl' := sl'), hK0, h3]
   | _ :: _ :: _ :: _, _ => cases b <;> rfl
end
end Go.Proofs.Ab
namespace Go.Proofs.Ab
open Go
variable {R : Type}
section
variable {o : Oper} {s : St} {C : Cfg R} {K : St -> Option R} {q : Bool} {r : R}
theorem yC {op : BinOp} {k : IntKind} {x y : Int} {κ : SV -> Option R} (h : xc op k x y κ = some r) : ∃ v, ∀ κ' : SV -> Option R, xc op k x y κ' = κ' v := by
 cases op <;> simp only [xc] at h ⊢ <;> first
  | exact ⟨_, fun _ => rfl⟩
  | (obtain ⟨h0, _⟩ := dw h; exact ⟨_, fun κ' => by rw [h0]; rfl⟩)
  | cases h
theorem Bz {op : BinOp} {k : IntKind} {x y : Int} {κ : SV -> Option R} (h : C4 op k x y κ = some r) : ∃ v, ∀ κ' : SV -> Option R, C4 op k x y κ' = κ' v := by
 cases op <;> simp only [C4] at h ⊢ <;> first
  | exact ⟨_, fun _ => rfl⟩
  | (obtain ⟨h0, _⟩ := dw h; exact ⟨_, fun κ' => by rw [h0]; rfl⟩)
  | cases h
theorem yD {op : BinOp} {x y : ByteArray} {κ : SV -> Option R} (h : uz op x y κ = some r) : ∃ v, ∀ κ' : SV -> Option R, uz op x y κ' = κ' v := by
 cases op <;> simp only [uz] at h ⊢ <;> first
  | exact ⟨_, fun _ => rfl⟩
  | (obtain ⟨h0, _⟩ := dw h; exact ⟨_, fun κ' => by rw [h0]; rfl⟩)
  | cases h
theorem yE {ek : Nat} {lv : List LK} {op : BinOp} {x y : SV} {κ : SV -> Option R} (h : xd ek lv op x y κ = some r) : ∃ v, ∀ κ' : SV -> Option R, xd ek lv op x y κ' = κ' v := by
 unfold xd at h ⊢
 split at h
 ·rename_i k a k' b
  cases hs : zz op with
  | true =>
   rw [hs] at h; simp only [cond_true] at h ⊢
   exact Bz h
  | false =>
   rw [hs] at h; simp only [cond_false] at h ⊢
   obtain ⟨h0, h⟩ := bJ h
   rw [h0]; exact yC h
 ·exact yD h
 ·obtain ⟨h0, h⟩ := bJ h
  simp only [h0, cond_true]
  split at h
  ·exact ⟨_, fun _ => rfl⟩
  ·exact ⟨_, fun _ => rfl⟩
  ·cases h
 ·obtain ⟨h0, h⟩ := bJ h
  simp only [h0, cond_true]
  split at h
  ·rename_i hc; exact ⟨_, fun _ => rfl⟩
  ·rename_i hc; exact ⟨_, fun _ => rfl⟩
  ·cases h
 ·cases h
theorem BE {op : UnOp} {x : SV} {κ : SV -> Option R} (h : Dg op x κ = some r) : ∃ v, ∀ κ' : SV -> Option R, Dg op x κ' = κ' v := by
 unfold Dg at h ⊢
 split at h
 ·exact ⟨_, fun _ => rfl⟩
 ·exact ⟨_, fun _ => rfl⟩
 ·cases h
theorem eU {i n : Int} {k : Option R} (h : dE i n k = some r) : (decide (0 <= i) && decide (i < n)) = true /\ k = some r := dw h
theorem ko {a b n : Int} {k : Option R} (h : gF a b n k = some r) : (decide (0 <= a) && (decide (a <= b) && decide (b <= n))) = true /\ k = some r := dw h
theorem dC {b : Bool} (h : b = true) (k : Option R) : bB b k = k := by rw [h]; rfl
theorem oB {agg : Bool} {sz : Nat} {i : Int} {κ : SV -> Option R} : ∀ {n : Nat} {l : List SV} {j : Nat}, kv agg sz n l j i κ = some r -> ∃ v, ∀ κ' : SV -> Option R, kv agg sz n l j i κ' = κ' v
 | 0, _, _, h => by cases h
 | n + 1, l, j, h => by
  unfold kv at h ⊢
  cases hc : (i == (j : Int)) with
  | true =>
   rw [hc] at h; simp only [cond_true] at h ⊢
   split at h
   ·rename_i v hv; exact ⟨v, fun _ => rfl⟩
   ·cases h
  | false =>
   rw [hc] at h; simp only [cond_false] at h ⊢
   exact oB h
theorem wK {lt : Bool} (hc : cls lt o <= 1) (h : ee C true o s K = some r) : ∃ u, ∀ K' : St -> Option R, ee C true o s K' = K' (s.put o.dst u) := by
 unfold ee at h ⊢
 cases ho : o.op <;> (try (exfalso; revert hc; unfold cls; rw [ho]; simp; done)) <;> simp only [ho] at h ⊢
 case move x => exact ⟨_, fun _ => rfl⟩
 case assign x => exact ⟨_, fun _ => rfl⟩
 case pick c x y =>
  split at h
  ·rename_i t ht
   cases t with
   | true => exact ⟨ev s x, fun _ => rfl⟩
   | false => exact ⟨ev s y, fun _ => rfl⟩
  ·cases h
 case build t ps =>
  split at h
  ·rename_i T hT
   by_cases hc : (T.agg && (T.flds.isEmpty && !(Nat.beq T.elem 0))) = true
   ·simp only [hT, hc, cond_true] at h ⊢
    split at h
    ·rename_i D hD
     split at h
     ·rename_i l hl; exact ⟨_, fun K' => by first | rfl | simp only [hD, hl]⟩
     ·cases h
    ·cases h
   have hc' : (T.agg && (T.flds.isEmpty && !(Nat.beq T.elem 0))) = false := by simpa using hc
   simp only [hT, hc', cond_false] at h ⊢
   split at h
   ·rename_i l hl
    obtain ⟨h0, h⟩ := bJ h
    exact ⟨_, fun K' => by first | rfl | (simp only [hT, hl, h0, cond_true]; rfl) | simp only [hT, hl, h0, cond_true]⟩
   ·cases h
  ·cases h
 case load t x =>
  split at h
  ·rename_i T hT
   split at h
   ·rename_i v hv; exact ⟨_, fun K' => by first | rfl | (simp only [hT, hv]; rfl) | simp only [hT, hv]⟩
   ·cases h
  ·cases h
 case nilCheck x =>
  split at h
  ·rename_i t n hx; exact ⟨_, fun K' => by first | rfl | (simp only [hx]; rfl) | simp only [hx]⟩
  ·rename_i e n l st hx; exact ⟨_, fun K' => by first | rfl | (simp only [hx]; rfl) | simp only [hx]⟩
  ·rename_i t off hx; exact ⟨_, fun K' => by first | rfl | (simp only [hx]; rfl) | simp only [hx]⟩
  ·rename_i t i off hx; exact ⟨_, fun K' => by first | rfl | (simp only [hx]; rfl) | simp only [hx]⟩
  ·rename_i e l st i off hx; exact ⟨_, fun K' => by first | rfl | (simp only [hx]; rfl) | simp only [hx]⟩
  ·cases h
 case binOp op t x y u =>
  obtain ⟨v, hv⟩ := yE h; exact ⟨v, fun K' => hv _⟩
 case unOp op t x =>
  obtain ⟨v, hv⟩ := BE h; exact ⟨v, fun K' => hv _⟩
 case convert f t x =>
  split at h
  ·rename_i F T hF hT
   obtain ⟨h0, h⟩ := fj h
   split at h
   ·rename_i e1 e2 e3; exact ⟨_, fun K' => by first | rfl | (simp only [h0, cond_false, hF, hT, e1, e2, e3]; rfl) | simp only [h0, cond_false, hF, hT, e1, e2, e3]⟩
   ·rename_i e1 e2 e3; exact ⟨_, fun K' => by first | rfl | (simp only [h0, cond_false, hF, hT, e1, e2, e3]; rfl) | simp only [h0, cond_false, hF, hT, e1, e2, e3]⟩
   ·rename_i e1 e2 e3; exact ⟨_, fun K' => by first | rfl | (simp only [h0, cond_false, hF, hT, e1, e2, e3]; rfl) | simp only [h0, cond_false, hF, hT, e1, e2, e3]⟩
   ·cases h
  ·cases h
 case slice t x lo hi mx =>
  cases mx with
  | some m => cases h
  | none =>
   simp only at h ⊢
   split at h
   ·rename_i T a b hT hb
    obtain ⟨h0, h⟩ := fj h
    split at h
    ·rename_i bs e
     rw [e] at h0
     obtain ⟨h1, h⟩ := ko h
     exact ⟨_, fun K' => by first | rfl | (simp only [hT, hb, h0, cond_false, e, gF, dC h1]; rfl) | simp only [hT, hb, h0, cond_false, e, gF, dC h1]⟩
    ·rename_i el l st e
     rw [e] at h0
     obtain ⟨h2, h⟩ := bJ h
     obtain ⟨h1, h⟩ := ko h
     exact ⟨_, fun K' => by first | rfl | (simp only [hT, hb, h0, h2, cond_true, cond_false, e, gF, dC h1]; rfl) | simp only [hT, hb, h0, h2, cond_true, cond_false, e, gF, dC h1]⟩
    ·rename_i k e
     rw [e] at h0
     split at h
     ·rename_i el l st hob
      obtain ⟨h2, h⟩ := bJ h
      obtain ⟨h1, h⟩ := ko h
      exact ⟨_, fun K' => by first | rfl | (simp only [hT, hb, h0, h2, hob, cond_true, cond_false, e, gF, dC h1]; rfl) | simp only [hT, hb, h0, h2, hob, cond_true, cond_false, e, gF, dC h1]⟩
     ·cases h
    ·cases h
   ·cases h
 case fieldAddr st x f =>
  split at h
  ·rename_i T hT
   split at h
   ·rename_i e1 e2
    obtain ⟨h0, h⟩ := fj h
    exact ⟨_, fun K' => by first | rfl | (simp only [hT, e1, e2, h0, cond_false]; rfl) | simp only [hT, e1, e2, h0, cond_false]⟩
   ·rename_i e1 e2
    obtain ⟨h0, h⟩ := fj h
    exact ⟨_, fun K' => by first | rfl | (simp only [hT, e1, e2, h0, cond_false]; rfl) | simp only [hT, e1, e2, h0, cond_false]⟩
   ·rename_i e1 e2
    obtain ⟨h0, h⟩ := fj h
    exact ⟨_, fun K' => by first | rfl | (simp only [hT, e1, e2, h0, cond_false]; rfl) | simp only [hT, e1, e2, h0, cond_false]⟩
   ·cases h
  ·cases h
 case field st x f =>
  split at h
  ·rename_i T hT
   split at h
   ·rename_i e1 e2
    split at h
    ·rename_i v hv
     obtain ⟨h0, h⟩ := bJ h
     exact ⟨_, fun K' => by first | rfl | (simp only [hT, e1, e2, hv, h0, cond_true]; rfl) | simp only [hT, e1, e2, hv, h0, cond_true]⟩
    ·cases h
   ·cases h
  ·cases h
 case indexAddr t x i =>
  split at h
  ·rename_i S hS
   by_cases hsl : S.sl = false
   ·simp only [hS, hsl, Bool.not_false, cond_true] at h ⊢
    split at h
    ·rename_i e1 e2 e3
     split at h
     ·rename_i el l st hob
      obtain ⟨h2, h⟩ := bJ h
      obtain ⟨h1, h⟩ := eU h
      exact ⟨_, fun K' => by first | rfl | (simp only [e1, e2, e3, hob, h2, cond_true, dE, dC h1]; rfl) | simp only [e1, e2, e3, hob, h2, cond_true, dE, dC h1]⟩
     ·cases h
    ·rename_i e1 e2 e3
     obtain ⟨h2, h⟩ := bJ h
     obtain ⟨h1, h⟩ := eU h
     exact ⟨_, fun K' => by first | rfl | (simp only [e1, e2, e3, h2, cond_true, dE, dC h1]; rfl) | simp only [e1, e2, e3, h2, cond_true, dE, dC h1]⟩
    ·cases h
   have h0 : (!S.sl) = false := by simpa using hsl
   simp only [h0, cond_false] at h
   split at h
   ·rename_i T k j hT hj
    split at h
    ·rename_i tt e
     split at h
     ·rename_i el l st hob
      obtain ⟨h2, h⟩ := bJ h
      obtain ⟨h1, h⟩ := eU h
      exact ⟨_, fun K' => by first | rfl | (simp only [hS, h0, cond_false, hT, hj, e, hob, h2, cond_true, dE, dC h1]; rfl) | simp only [hS, h0, cond_false, hT, hj, e, hob, h2, cond_true, dE, dC h1]⟩
     ·cases h
    ·rename_i tt lo hi e
     split at h
     ·rename_i el l st hob
      obtain ⟨h2, h⟩ := bJ h
      obtain ⟨h1, h⟩ := eU h
      exact ⟨_, fun K' => by first | rfl | (simp only [hS, h0, cond_false, hT, hj, e, hob, h2, cond_true, dE, dC h1]; rfl) | simp only [hS, h0, cond_false, hT, hj, e, hob, h2, cond_true, dE, dC h1]⟩
     ·cases h
    ·rename_i el l st e
     obtain ⟨h2, h⟩ := bJ h
     obtain ⟨h1, h⟩ := eU h
     exact ⟨_, fun K' => by first | rfl | (simp only [hS, h0, cond_false, hT, hj, e, h2, cond_true, dE, dC h1]; rfl) | simp only [hS, h0, cond_false, hT, hj, e, h2, cond_true, dE, dC h1]⟩
    ·cases h
   ·cases h
  ·cases h
 case index t x i =>
  split at h
  ·rename_i e1 e2 e3
   obtain ⟨h2, h⟩ := bJ h
   obtain ⟨h1, h⟩ := eU h
   exact ⟨_, fun K' => by first | rfl | (simp only [e1, e2, e3, h2, cond_true, dE, dC h1]; rfl) | simp only [e1, e2, e3, h2, cond_true, dE, dC h1]⟩
  ·rename_i e1 e2 e3
   split at h
   ·rename_i k hk
    obtain ⟨h2, h⟩ := bJ h
    obtain ⟨h1, h⟩ := eU h
    exact ⟨_, fun K' => by first | rfl | (simp only [e1, e2, e3, hk, h2, cond_true, dE, dC h1]; rfl) | simp only [e1, e2, e3, hk, h2, cond_true, dE, dC h1]⟩
   ·cases h
  ·rename_i e1 e2 e3
   obtain ⟨h0, h⟩ := bJ h
   split at h
   ·rename_i D hD
    obtain ⟨h2, h⟩ := bJ h
    obtain ⟨v, hv⟩ := oB h
    exact ⟨v, fun K' => by simp only [e1, e2, e3, h0, hD, h2, cond_true, hv]⟩
   ·cases h
  ·cases h
 case extract x j =>
  split at h
  ·rename_i e
   obtain ⟨h2, h⟩ := bJ h
   exact ⟨_, fun K' => by first | rfl | (simp only [e, h2, cond_true]; rfl) | simp only [e, h2, cond_true]⟩
  ·cases h
 case call c =>
  cases hcal : c.callee with
  | invoke x m => rw [hcal] at h; cases h
  | value f => exfalso; revert hc; unfold cls; cases lt <;> simp [ho, hcal]
  | builtin b =>
   rw [hcal] at h; simp only at h ⊢
   unfold dD at h ⊢
   split at h
   ·rename_i x hl
    split at h
    ·rename_i t ts hts
     split at h
     ·rename_i e1 e2
      obtain ⟨h2, h⟩ := bJ h
      exact ⟨_, fun K' => by first | rfl | (simp only [hl, hts, e1, e2, h2, cond_true]; rfl) | simp only [hl, hts, e1, e2, h2, cond_true]⟩
     ·cases h
    ·cases h
   ·exfalso; revert hc; unfold cls; simp [ho, hcal]
   ·rename_i hl
    split at h
    ·rename_i e1 e2; exact ⟨_, fun K' => by first | rfl | (simp only [hl, e1, e2]; rfl) | simp only [hl, e1, e2]⟩
    ·cases h
   ·rename_i hl
    split at h
    ·rename_i e1 e2; exact ⟨_, fun K' => by first | rfl | (simp only [hl, e1, e2]; rfl) | simp only [hl, e1, e2]⟩
    ·cases h
   ·rename_i x hl
    unfold gO at h ⊢
    split at h
    ·rename_i e; exact ⟨_, fun K' => by first | rfl | (simp only [e]; rfl) | simp only [e]⟩
    ·rename_i t e
     split at h
     ·rename_i e1 e2
      obtain ⟨h2, h⟩ := bJ h
      exact ⟨_, fun K' => by first | rfl | (simp only [e, e1, e2, h2, cond_true]; rfl) | simp only [e, e1, e2, h2, cond_true]⟩
     ·cases h
    ·cases h
   ·exfalso; revert hc; unfold cls; simp [ho, hcal]
   ·cases h
end
end Go.Proofs.Ab
namespace Go.Proofs.Ab
open Go
variable {R : Type}
theorem yd (l : List SV) {i j : Nat} (h : i ≠ j) (u v : SV) : gv (gv l i u) j v = gv (gv l j v) i u := by
 induction l generalizing i j with
 | nil => rfl
 | cons x r ih =>
  cases i with
  | zero => cases j with
   | zero => exact absurd rfl h
   | succ j => rfl
  | succ i => cases j with
   | zero => rfl
   | succ j => simp only [gv]; rw [ih (by omega)]
theorem put_comm (s : St) {d d' : Option Nat} (h : ∀ x, d = some x -> d' ≠ some x) (u v : SV) : (s.put d u).put d' v = (s.put d' v).put d u := by
 cases d with
 | none => rfl
 | some i => cases d' with
  | none => rfl
  | some j =>
   have : i ≠ j := fun e => h i rfl (by rw [e])
   simp only [St.put]; rw [yd _ this]
section
variable {ops : Array Oper} {o x y : Oper} {s s' : St} {sl sl' : List SV} {ob : List (Nat × Obj)} {n : Nat} {C : Cfg R} {K K' : St -> Option R} {r : R}
theorem tx {t : Nat} (h : Operand.tmp t ∈ o.op.operands) : t ∈ looks ops.toList o := by
 unfold looks
 refine List.mem_append_left _ (List.mem_filterMap.2 ⟨.tmp t, by simpa using h, rfl⟩)
theorem hC {j d : Nat} {b : Bool} (h : o.guard = some (j, b)) (hd : u0 ops j = some d) : d ∈ looks ops.toList o := by
 unfold looks
 refine List.mem_append_right _ ?_
 rw [h]; unfold u0 at hd
 simp [hd]
theorem zf (h : ∀ t ∈ looks ops.toList o, s'.get t = s.get t) : ∀ x ∈ o.op.operands, ev s' x = ev s x := by
 intro x hx
 cases x with
 | tmp t => exact h t (tx hx)
 | const v => unfold ev; split <;> first | rfl | contradiction
 | _ => rfl
theorem V2 {lt : Bool} (hLt : lt = true -> yq C) (h : ∀ t ∈ looks ops.toList o, fc sl' t = fc sl t)
  (hK : ∀ u ob' n', (cls lt o <= 1 -> ob' = ob /\ n' = n) -> (cls lt o <= 2 -> Nm ob n -> nc ob ob' /\ Nm ob' n') -> K ((⟨sl, ob', n'⟩ : St).put o.dst u) = K' ((⟨sl', ob', n'⟩ : St).put o.dst u)) : cS C true ops o ⟨sl, ob, n⟩ K = cS C true ops o ⟨sl', ob, n⟩ K' := by
 have hu := U2 (C := C) hLt (zf (s := ⟨sl, ob, n⟩) (s' := ⟨sl', ob, n⟩) h) hK
 rw [dP, dP]
 cases hg : o.guard with
 | none => exact hu
 | some g =>
  obtain ⟨j, want⟩ := g
  simp only
  cases hd : u0 ops j with
  | none => rfl
  | some d =>
   have e : (⟨sl', ob, n⟩ : St).get d = (⟨sl, ob, n⟩ : St).get d := h d (hC hg hd)
   simp only [e]
   cases (⟨sl, ob, n⟩ : St).get d <;> try rfl
   ·exact hK _ _ _ (fun _ => ⟨rfl, rfl⟩) (fun _ h => ⟨nc.refl _, h⟩)
   ·simp only
    split
    ·exact hu
    ·exact hK _ _ _ (fun _ => ⟨rfl, rfl⟩) (fun _ h => ⟨nc.refl _, h⟩)
theorem V0 {lt : Bool} (hc : cls lt o = 0) (h : ∀ t ∈ looks ops.toList o, s'.get t = s.get t) (hK : ∀ u, K (s.put o.dst u) = K' (s'.put o.dst u)) : cS C true ops o s K = cS C true ops o s' K' := by
 have hu := U0 (C := C) hc (zf h) hK
 rw [dP, dP]
 cases hg : o.guard with
 | none => exact hu
 | some g =>
  obtain ⟨j, want⟩ := g
  simp only
  cases hd : u0 ops j with
  | none => rfl
  | some d =>
   have e : s'.get d = s.get d := h d (hC hg hd)
   simp only [e]
   cases s.get d <;> try rfl
   ·exact hK _
   ·simp only
    split
    ·exact hu
    ·exact hK _
def BF (C : Cfg R) (ops : Array Oper) (o : Oper) (s : St) (u : SV) : Prop := ∀ K : St -> Option R, cS C true ops o s K = K (s.put o.dst u)
theorem V1 {lt : Bool} (hc : cls lt o <= 1) (h : ∀ t ∈ looks ops.toList o, s'.get t = s.get t) (hsame : ∀ t ∈ looks ops.toList o, ∀ k, tok (s.get t) = some k -> s'.obj k = s.obj k) (hK : ∀ u, K (s.put o.dst u) = K' (s'.put o.dst u)) : cS C true ops o s K = cS C true ops o s' K' := by
 have hu := U1 (C := C) hc (zf h) (fun x hx k hk => by
  cases x with
  | tmp t => exact hsame t (tx hx) k hk
  | const v => exfalso; unfold ev at hk; split at hk <;> simp_all [tok]
  | _ => cases hk) hK
 rw [dP, dP]
 cases hg : o.guard with
 | none => exact hu
 | some g =>
  obtain ⟨j, want⟩ := g
  simp only
  cases hd : u0 ops j with
  | none => rfl
  | some d =>
   have e : s'.get d = s.get d := h d (hC hg hd)
   simp only [e]
   cases s.get d <;> try rfl
   ·exact hK _
   ·simp only
    split
    ·exact hu
    ·exact hK _
theorem mz {lt : Bool} (hc : cls lt o <= 1) (h : cS C true ops o s K = some r) : ∃ u, BF C ops o s u := by
 unfold BF
 rw [dP] at h
 simp only [dP]
 cases hg : o.guard with
 | none => rw [hg] at h; exact wK hc h
 | some g =>
  obtain ⟨j, want⟩ := g
  rw [hg] at h; simp only at h ⊢
  cases hd : u0 ops j with
  | none => rw [hd] at h; cases h
  | some d =>
   rw [hd] at h; simp only at h ⊢
   cases hv : s.get d <;> rw [hv] at h <;> try (cases h; done)
   ·exact ⟨_, fun _ => rfl⟩
   ·simp only at h ⊢
    rename_i t
    by_cases e : t = want
    ·simp only [e, if_true] at h ⊢; exact wK hc h
    ·simp only [e, if_false] at h ⊢; exact ⟨_, fun _ => rfl⟩
structure sc (ops : Array Oper) (x y : Oper) : Prop where
 xl : ∀ d, x.dst = some d -> d ∉ looks ops.toList y
 yl : ∀ d, y.dst = some d -> d ∉ looks ops.toList x
 ne : ∀ d, x.dst = some d -> y.dst ≠ some d
theorem sc.symm (h : sc ops x y) : sc ops y x := ⟨h.yl, h.xl, fun d h1 h2 => h.ne d h2 h1⟩
theorem apart_spec {lt : Bool} (h : apart lt ops.toList x y = true) : sc ops x y /\ (cls lt x = 0 ∨ cls lt y = 0 ∨ (cls lt x <= 1 /\ cls lt y <= 2) ∨ (cls lt x <= 2 /\ cls lt y <= 1)) := by
 unfold apart at h
 simp only [Bool.and_eq_true, Bool.or_eq_true] at h
 obtain ⟨⟨h1, h2⟩, h3⟩ := h
 refine ⟨⟨fun d hd hin => ?_, fun d hd hin => ?_, fun d hd hy => ?_⟩, ?_⟩
 ·rw [hd] at h2
  simp only [Bool.and_eq_true, Bool.not_eq_true', List.any_eq_false] at h2
  exact h2.1 d hin (Nat.beq_refl d)
 ·rw [hd] at h3
  simp only [Bool.not_eq_true', List.any_eq_false] at h3
  exact h3 d hin (Nat.beq_refl d)
 ·rw [hd] at h2
  simp only [Bool.and_eq_true, Bool.not_eq_true', List.any_eq_false] at h2
  exact h2.2 d (by rw [hy]; simp) (Nat.beq_refl d)
 ·rcases h1 with ((h1 | h1) | h1) | h1
  ·exact .inl (Nat.eq_of_beq_eq_true h1)
  ·exact .inr (.inl (Nat.eq_of_beq_eq_true h1))
  ·exact .inr (.inr (.inl ⟨Nat.le_of_ble_eq_true h1.1, Nat.le_of_ble_eq_true h1.2⟩))
  ·exact .inr (.inr (.inr ⟨Nat.le_of_ble_eq_true h1.1, Nat.le_of_ble_eq_true h1.2⟩))
theorem gE {d : Option Nat} {v : SV} {t : Nat} (h : d ≠ some t) : (s.put d v).get t = s.get t := by
 cases d with
 | none => rfl
 | some d =>
  simp only [St.put, St.get, pL]
  rw [if_neg]
  rintro ⟨e, _⟩; exact h (by rw [e])
theorem frame {lt : Bool} (hLt : lt = true -> yq C) (hK : ∀ u ob' n', (cls lt o <= 1 -> ob' = s.objs /\ n' = s.next) -> (cls lt o <= 2 -> Nm s.objs s.next -> nc s.objs ob' /\ Nm ob' n') -> K ((⟨s.slots, ob', n'⟩ : St).put o.dst u) = K' ((⟨s.slots, ob', n'⟩ : St).put o.dst u)) : cS C true ops o s K = cS C true ops o s K' :=
 V2 (sl := s.slots) (sl' := s.slots) (ob := s.objs) (n := s.next) hLt (fun _ _ => rfl) hK
theorem CU (s : St) (d : Option Nat) (v : SV) : s.put d v = ⟨(s.put d v).slots, s.objs, s.next⟩ := by cases d <;> rfl
theorem ou (s : St) (ob : List (Nat × Obj)) (n : Nat) (d : Option Nat) (v : SV) : (⟨(s.put d v).slots, ob, n⟩ : St) = (⟨s.slots, ob, n⟩ : St).put d v := by cases d <;> rfl
theorem iM {lt : Bool} (hLt : lt = true -> yq C) (h : sc ops x y) (v : SV) : cS C true ops x (s.put y.dst v) K = cS C true ops x s (fun s1 => K (s1.put y.dst v)) := by
 rw [CU s y.dst v]
 refine (V2 (sl := s.slots) (sl' := (s.put y.dst v).slots) (ob := s.objs) (n := s.next) hLt (fun t ht => ?_) (fun u ob' n' _ _ => ?_)).symm
 ·exact gE (s := s) (fun e => h.yl t e ht)
 ·rw [ou, put_comm _ (fun d hd => h.ne d hd)]
def Tk (ops : Array Oper) (y : Oper) (s : St) : Prop := ∀ t ∈ looks ops.toList y, ∀ k, tok (s.get t) = some k -> ∃ o, s.obj k = some o
theorem Tk.after (h : sc ops x y) (ht : Tk ops y s) {ob' : List (Nat × Obj)} {n' : Nat} (he : nc s.objs ob') (v : SV) : Tk ops y ((⟨s.slots, ob', n'⟩ : St).put x.dst v) /\ (∀ t ∈ looks ops.toList y, ((⟨s.slots, ob', n'⟩ : St).put x.dst v).get t = s.get t) /\ ∀ t ∈ looks ops.toList y, ∀ k, tok (s.get t) = some k -> ((⟨s.slots, ob', n'⟩ : St).put x.dst v).obj k = s.obj k := by
 have gets : ∀ t ∈ looks ops.toList y, ((⟨s.slots, ob', n'⟩ : St).put x.dst v).get t = s.get t := fun t ht => gE (s := ⟨s.slots, ob', n'⟩) (fun e => h.xl t e ht)
 have objs : ∀ k, ((⟨s.slots, ob', n'⟩ : St).put x.dst v).obj k = lookup k ob' := fun k => by
  cases x.dst <;> rfl
 have same : ∀ t ∈ looks ops.toList y, ∀ k, tok (s.get t) = some k -> ((⟨s.slots, ob', n'⟩ : St).put x.dst v).obj k = s.obj k := fun t htl k hk => by
  obtain ⟨o, ho⟩ := ht t htl k hk
  rw [objs, ho]; exact he k o ho
 refine ⟨fun t htl k hk => ?_, gets, same⟩
 rw [gets t htl] at hk
 rw [same t htl k hk]; exact ht t htl k hk
theorem pD {lt : Bool} (h : sc ops x y) (hc : cls lt y <= 1) (ht : Tk ops y s) {u v : SV} (hd : BF C ops y s u) {ob' : List (Nat × Obj)} {n' : Nat} (he : nc s.objs ob') : BF C ops y ((⟨s.slots, ob', n'⟩ : St).put x.dst v) u := by
 intro K
 obtain ⟨_, gets, same⟩ := ht.after (n' := n') h he v
 have key : ∀ u', (fun s2 : St => K ((⟨s2.slots, ob', n'⟩ : St).put x.dst v)) (s.put y.dst u') = K (((⟨s.slots, ob', n'⟩ : St).put x.dst v).put y.dst u') := by
  intro u'
  show K ((⟨(s.put y.dst u').slots, ob', n'⟩ : St).put x.dst v) = _
  rw [ou, put_comm _ (fun d hd => h.symm.ne d hd)]
 exact ((V1 (C := C) hc gets same key).symm.trans (hd (fun s2 : St => K ((⟨s2.slots, ob', n'⟩ : St).put x.dst v)))).trans (key u)
theorem vl {lt : Bool} (h : sc ops x y) (hc : cls lt y <= 1) (ht : Tk ops y s) {v : SV} (hd : ∀ K : St -> Option R, cS C true ops y s K = none) {ob' : List (Nat × Obj)} {n' : Nat} (he : nc s.objs ob') : ∀ K : St -> Option R, cS C true ops y ((⟨s.slots, ob', n'⟩ : St).put x.dst v) K = none := by
 intro K
 obtain ⟨_, gets, same⟩ := ht.after (n' := n') h he v
 refine (V1 (C := C) (K := fun s2 : St => K ((⟨s2.slots, ob', n'⟩ : St).put x.dst v)) hc gets same fun u' => ?_).symm.trans (hd _)
 show K ((⟨(s.put y.dst u').slots, ob', n'⟩ : St).put x.dst v) = _
 rw [ou, put_comm _ (fun d hd => h.symm.ne d hd)]
theorem lC (s : St) (d : Option Nat) (v : SV) : (s.put d v).objs = s.objs /\ (s.put d v).next = s.next := by cases d <;> exact ⟨rfl, rfl⟩
theorem BT {lt : Bool} (hLt : lt = true -> yq C) (hc : cls lt y <= 1) {u : SV} {ys : List Oper} {κ : St -> Option R} : ∀ (xs : List Oper) {s : St}, (∀ x ∈ xs, sc ops x y /\ cls lt x <= 2) -> Tk ops y s -> Nm s.objs s.next -> BF C ops y s u -> eK C true ops (xs ++ y :: ys) s κ = eK C true ops (xs ++ ys) (s.put y.dst u) κ
 | [], s, _, _, _, hd => hd _
 | x :: xs, s, ha, ht, hn, hd => by
  obtain ⟨hx, hcx⟩ := ha x (by simp)
  show cS C true ops x s (fun s1 => eK C true ops (xs ++ y :: ys) s1 κ) = cS C true ops x (s.put y.dst u) (fun s1 => eK C true ops (xs ++ ys) s1 κ)
  rw [iM hLt hx]
  refine frame hLt fun v ob' n' ho ho2 => ?_
  obtain ⟨h1, h2⟩ := ho2 hcx hn
  exact BT hLt hc xs (fun z hz => ha z (by simp [hz])) (ht.after hx h1 v).1 (by rw [(lC _ _ _).1, (lC _ _ _).2]; exact h2) (pD hx hc ht hd h1)
theorem BZ {lt : Bool} (hLt : lt = true -> yq C) (hc : cls lt y <= 1) {ys : List Oper} {κ : St -> Option R} : ∀ (xs : List Oper) {s : St}, (∀ x ∈ xs, sc ops x y /\ cls lt x <= 2) -> Tk ops y s -> Nm s.objs s.next -> (∀ K : St -> Option R, cS C true ops y s K = none) -> eK C true ops (xs ++ y :: ys) s κ = eK C true ops xs s (fun _ => none)
 | [], s, _, _, _, hd => hd _
 | x :: xs, s, ha, ht, hn, hd => by
  obtain ⟨hx, hcx⟩ := ha x (by simp)
  refine frame hLt fun v ob' n' ho ho2 => ?_
  obtain ⟨h1, h2⟩ := ho2 hcx hn
  exact BZ hLt hc xs (fun z hz => ha z (by simp [hz])) (ht.after hx h1 v).1 (by rw [(lC _ _ _).1, (lC _ _ _).2]; exact h2) (vl hx hc ht hd h1)
theorem nH {lt : Bool} (h : sc ops x y) (hc : cls lt y = 0) {u v : SV} (hd : BF C ops y s u) {ob' : List (Nat × Obj)} {n' : Nat} : BF C ops y ((⟨s.slots, ob', n'⟩ : St).put x.dst v) u := by
 intro K
 have gets : ∀ t ∈ looks ops.toList y, ((⟨s.slots, ob', n'⟩ : St).put x.dst v).get t = s.get t := fun t ht => gE (s := ⟨s.slots, ob', n'⟩) (fun e => h.xl t e ht)
 have key : ∀ u', (fun s2 : St => K ((⟨s2.slots, ob', n'⟩ : St).put x.dst v)) (s.put y.dst u') = K (((⟨s.slots, ob', n'⟩ : St).put x.dst v).put y.dst u') := by
  intro u'
  show K ((⟨(s.put y.dst u').slots, ob', n'⟩ : St).put x.dst v) = _
  rw [ou, put_comm _ (fun d hd => h.symm.ne d hd)]
 exact ((V0 (C := C) hc gets key).symm.trans (hd (fun s2 : St => K ((⟨s2.slots, ob', n'⟩ : St).put x.dst v)))).trans (key u)
theorem tC {lt : Bool} (h : sc ops x y) (hc : cls lt y = 0) {v : SV} (hd : ∀ K : St -> Option R, cS C true ops y s K = none) {ob' : List (Nat × Obj)} {n' : Nat} : ∀ K : St -> Option R, cS C true ops y ((⟨s.slots, ob', n'⟩ : St).put x.dst v) K = none := by
 intro K
 refine Eq.trans ?_ (hd (fun s2 : St => K ((⟨s2.slots, ob', n'⟩ : St).put x.dst v)))
 refine (V0 (s := s) (lt := lt) hc (fun t ht => gE (s := ⟨s.slots, ob', n'⟩) (fun e => h.xl t e ht)) fun u' => ?_).symm
 show K ((⟨(s.put y.dst u').slots, ob', n'⟩ : St).put x.dst v) = _
 rw [ou, put_comm _ (fun d hd => h.symm.ne d hd)]
theorem BS {lt : Bool} (hLt : lt = true -> yq C) (hc : cls lt y = 0) {u : SV} {ys : List Oper} {κ : St -> Option R} : ∀ (xs : List Oper) {s : St}, (∀ x ∈ xs, sc ops x y) -> BF C ops y s u -> eK C true ops (xs ++ y :: ys) s κ = eK C true ops (xs ++ ys) (s.put y.dst u) κ
 | [], s, _, hd => hd _
 | x :: xs, s, ha, hd => by
  have hx := ha x (by simp)
  show cS C true ops x s (fun s1 => eK C true ops (xs ++ y :: ys) s1 κ) = cS C true ops x (s.put y.dst u) (fun s1 => eK C true ops (xs ++ ys) s1 κ)
  rw [iM hLt hx]
  exact frame hLt fun v ob' n' _ _ => BS hLt hc xs (fun z hz => ha z (by simp [hz])) (nH hx hc hd)
theorem BX {lt : Bool} (hLt : lt = true -> yq C) (hc : cls lt y = 0) {ys : List Oper} {κ : St -> Option R} : ∀ (xs : List Oper) {s : St}, (∀ x ∈ xs, sc ops x y) -> (∀ K : St -> Option R, cS C true ops y s K = none) -> eK C true ops (xs ++ y :: ys) s κ = eK C true ops xs s (fun _ => none)
 | [], s, _, hd => hd _
 | x :: xs, s, ha, hd => by
  have hx := ha x (by simp)
  exact frame hLt fun v ob' n' _ _ => BX hLt hc xs (fun z hz => ha z (by simp [hz])) (tC hx hc hd)
end
end Go.Proofs.Ab
namespace Go.Proofs.Ab
open Go
variable {R : Type}
section
variable {s s' : St} {C : Cfg R} {K K' : St -> Option R} {k : Nat} {o : Obj}
def Fk (k : Nat) (s : St) : Prop := s.obj k = none /\ k < s.next
theorem wI {j : Nat} (h : j ≠ k) : (s.newAt k o).obj j = s.obj j := by
 show lookup j (s.objs ++ [(k, o)]) = lookup j s.objs
 rw [gJ]
 cases lookup j s.objs with
 | some x => rfl
 | none => simp [h]
theorem Bq (x : Obj) : (s.newAt k o).new x = (s.new x).newAt k o := rfl
theorem CQ (h : Fk k s) (x : Obj) : Fk k (s.new x) := ⟨by rw [fg, if_neg (Nat.ne_of_lt h.2)]; exact h.1, Nat.lt_succ_of_lt h.2⟩
theorem oP {t : Nat} (h : t ≠ k) (x : Obj) : (s.newAt k o).setObj t x = (s.setObj t x).newAt k o := by
 unfold St.setObj St.newAt
 have hb : Nat.beq t k = false := by
  cases hb : Nat.beq t k with
  | true => exact absurd (Nat.eq_of_beq_eq_true hb) h
  | false => rfl
 simp [hb]
theorem kb (t j : Nat) (x : Obj) : ∀ (l : List (Nat × Obj)), lookup j l = none -> lookup j (l.map fun p => bif Nat.beq t p.1 then (p.1, x) else p) = none
 | [], _ => rfl
 | (a, b) :: r, h => by
  simp only [lookup] at h
  simp only [List.map]
  cases hb : Nat.beq j a with
  | true => rw [hb] at h; cases h
  | false =>
   rw [hb] at h
   cases Nat.beq t a <;> simp only [cond_true, cond_false, lookup, hb] <;> exact kb t j x r h
theorem qA {t : Nat} (h : Fk k s) (x : Obj) : Fk k (s.setObj t x) := ⟨kb t k x s.objs h.1, h.2⟩
theorem mA {x : SV} (h : ∀ k, tok x = some k -> s'.obj k = s.obj k) : fH s' x = fH s x := by
 cases x <;> first
  | rfl
  | (simp only [fH, h _ rfl]; done)
theorem uO {x : SV} (h : ∀ k, tok x = some k -> s'.obj k = s.obj k) : kV s' x = kV s x := by
 cases x <;> first
  | rfl
  | (simp only [kV, h _ rfl]; done)
theorem mC : ∀ {l : List SV}, (∀ x ∈ l, ∀ k, tok x = some k -> s'.obj k = s.obj k) -> gi s' l = gi s l
 | [], _ => rfl
 | x :: r, h => by
  have h2 : gi s' r = gi s r := mC fun y (hy : y ∈ r) => h y (List.mem_cons_of_mem _ hy)
  simp only [gi, mA (h x List.mem_cons_self), h2]
theorem nR : ∀ {l : List SV}, (∀ x ∈ l, ∀ k, tok x = some k -> s'.obj k = s.obj k) -> ix s' l = ix s l
 | [], _ => rfl
 | x :: r, h => by
  have h2 : ix s' r = ix s r := nR fun y (hy : y ∈ r) => h y (List.mem_cons_of_mem _ hy)
  simp only [ix, uO (h x List.mem_cons_self), h2]
def DT (s : St) : Prop := ∀ t ty ls, s.obj t = some (.var ty ls) -> ∀ z ∈ ls, ∀ j, tok z = some j -> ∃ x, s.obj j = some x
theorem sm (hv : ∀ t ty ls, s.obj t = some (.var ty ls) -> ∀ z ∈ ls, ∀ j, tok z = some j -> s'.obj j = s.obj j) {x : SV} (h : ∀ y ∈ leaves x, ∀ k, tok y = some k -> s'.obj k = s.obj k) : fb s' x = fb s x := by
 rcases gj x with ⟨l, rfl⟩ | hn
 ·simp only [fb, mC (s := s) (s' := s') (l := l) h]
 ·have h1 := mA (s := s) (s' := s') (x := x) (fun k hk => h x (by cases x <;> first | exact List.mem_singleton.2 rfl | exact absurd rfl (hn _)) k hk)
  cases x with
  | ptr t off =>
   cases off with
   | succ n => exact h1
   | zero =>
    have ho := h (.ptr t 0) (List.mem_singleton.2 rfl) t rfl
    simp only [fb, ho]
    split
    ·rename_i ty ls e
     rw [nR (hv t ty ls e)]
    ·rfl
  | agg l => exact absurd rfl (hn _)
  | _ => exact h1
theorem mB (hv : ∀ t ty ls, s.obj t = some (.var ty ls) -> ∀ z ∈ ls, ∀ j, tok z = some j -> s'.obj j = s.obj j) : ∀ {l : List SV}, (∀ x ∈ l, ∀ y ∈ leaves x, ∀ k, tok y = some k -> s'.obj k = s.obj k) -> er s' l = er s l
 | [], _ => rfl
 | x :: r, h => by
  have h2 : er s' r = er s r := mB hv fun y (hy : y ∈ r) => h y (List.mem_cons_of_mem _ hy)
  simp only [er, sm hv (h x List.mem_cons_self), h2]
theorem jq : ∀ {l : List SV}, (∀ x ∈ l, ∀ y ∈ leaves x, ∀ k, tok y = some k -> s'.obj k = s.obj k) -> bT s' l = bT s l
 | [], _ => rfl
 | x :: r, h => by
  have h2 : bT s' r = bT s r := jq fun y (hy : y ∈ r) => h y (List.mem_cons_of_mem _ hy)
  cases x with
  | ptr t off => simp only [bT, h _ List.mem_cons_self _ (List.mem_singleton.2 rfl) t rfl, h2]
  | _ => exact h2
theorem sN : ∀ {l : List SV}, (∀ x ∈ l, ∀ y ∈ leaves x, ∀ k, tok y = some k -> s'.obj k = s.obj k) -> ie s' l = ie s l
 | [], _ => rfl
 | x :: r, h => by
  have h2 : ie s' r = ie s r := sN fun y (hy : y ∈ r) => h y (List.mem_cons_of_mem _ hy)
  cases x with
  | ptr t off => simp only [ie, h _ List.mem_cons_self _ (List.mem_singleton.2 rfl) t rfl, h2]
  | _ => exact h2
theorem iG : ∀ (l : List SV) (s : St), Fk k s -> cC (s.newAt k o) l = ((cC s l).1, (cC s l).2.newAt k o) /\ Fk k (cC s l).2 /\ (cC s l).2.slots = s.slots
 | [], s, h => ⟨rfl, h, rfl⟩
 | x :: r, s, h => by
  have gen : cC (s.newAt k o) (x :: r) = ((cC s (x :: r)).1, (cC s (x :: r)).2.newAt k o) /\ Fk k (cC s (x :: r)).2 /\ (cC s (x :: r)).2.slots = s.slots ∨ ∃ e l st, x = .fr e l st := by
   obtain ⟨h1, h2, h3⟩ := iG r s h
   cases x <;> first
    | exact .inr ⟨_, _, _, rfl⟩
    | (refine .inl ⟨?_, h2, h3⟩; simp only [cC, h1])
  rcases gen with gen | ⟨e, l, st, rfl⟩
  ·exact gen
  ·obtain ⟨h1, h2, h3⟩ := iG r (s.new (.row e l st)) (CQ h _)
   refine ⟨?_, h2, h3⟩
   simp only [cC, Bq, h1]
   rfl
theorem qk (x : SV) (s : St) (h : Fk k s) : ef (s.newAt k o) x = ((ef s x).1, (ef s x).2.newAt k o) /\ Fk k (ef s x).2 /\ (ef s x).2.slots = s.slots := by
 rcases gj x with ⟨l, rfl⟩ | hn
 ·obtain ⟨h1, h2, h3⟩ := iG (o := o) l s h
  exact ⟨by simp only [ef, h1], h2, h3⟩
 ·obtain ⟨h1, h2, h3⟩ := iG (o := o) [x] s h
  have e : ∀ s : St, ef s x = (match cC s [x] with | ([u], s') => (u, s') | (_, s') => (.no, s')) := by
   intro s; cases x <;> first | rfl | exact absurd rfl (hn _)
  rw [e, e, h1]
  cases hl : cC s [x] with
  | mk vs s1 =>
   rw [hl] at h2 h3
   match vs with
   | [] => exact ⟨rfl, h2, h3⟩
   | [u] => exact ⟨rfl, h2, h3⟩
   | _ :: _ :: _ => exact ⟨rfl, h2, h3⟩
theorem qi : ∀ (l : List SV) (s : St), Fk k s -> fa (s.newAt k o) l = ((fa s l).1, (fa s l).2.newAt k o) /\ Fk k (fa s l).2 /\ (fa s l).2.slots = s.slots
 | [], s, h => ⟨rfl, h, rfl⟩
 | x :: r, s, h => by
  obtain ⟨h1, h2, h3⟩ := qk (o := o) x s h
  obtain ⟨g1, g2, g3⟩ := qi r _ h2
  refine ⟨?_, g2, g3.trans h3⟩
  simp only [fa, h1, g1]
theorem pR : ∀ (l : List Nat) (s : St), k ∉ l -> Fk k s -> fC l (s.newAt k o) = (fC l s).newAt k o /\ Fk k (fC l s) /\ (fC l s).slots = s.slots
 | [], s, _, h => ⟨rfl, h, rfl⟩
 | t :: r, s, hk, h => by
  obtain ⟨h1, h2, h3⟩ := pR r (s.setObj t .hole) (fun hi => hk (List.mem_cons_of_mem _ hi)) (qA h _)
  exact ⟨by simp only [fC, oP (s := s) (o := o) (fun e : t = k => hk (by rw [e]; exact List.mem_cons_self)) .hole, h1], h2, h3⟩
theorem lM : ∀ (vs back : List SV) (s : St), (∀ t off, .ptr t off ∈ vs -> t ≠ k) -> Fk k s ->
  (eR s vs back = none /\ eR (s.newAt k o) vs back = none) ∨ ∃ s2, eR s vs back = some s2 /\ eR (s.newAt k o) vs back = some (s2.newAt k o) /\ Fk k s2 /\ s2.slots = s.slots
 | [], [], s, _, h => .inr ⟨s, rfl, rfl, h, rfl⟩
 | [], _ :: _, s, _, _ => .inl ⟨rfl, rfl⟩
 | x :: r, back, s, hk, h => by
  by_cases hx : ∃ t off, x = .ptr t off
  ·obtain ⟨t, off, rfl⟩ := hx
   have ht : t ≠ k := hk t off List.mem_cons_self
   match back with
   | [] => exact .inl ⟨rfl, rfl⟩
   | y :: u =>
    by_cases hy : ∃ ty ls, y = .vp ty ls
    ·obtain ⟨ty, ls, rfl⟩ := hy
     obtain ⟨h1, h2, h3⟩ := iG (o := o) ls s h
     have ih := lM r u ((cC s ls).2.setObj t (.var ty (cC s ls).1)) (fun t off hm => hk t off (List.mem_cons_of_mem _ hm)) (qA h2 _)
     rw [<- oP (s := (cC s ls).2) (o := o) ht] at ih
     simp only [eR, h1]
     rcases ih with ih | ⟨s2, g1, g2, g3, g4⟩
     ·exact .inl ih
     ·exact .inr ⟨s2, g1, g2, g3, g4.trans h3⟩
    ·have e : ∀ s : St, eR s (.ptr t off :: r) (y :: u) = none := by
      intro s; cases y <;> first | rfl | exact absurd ⟨_, _, rfl⟩ hy
     exact .inl ⟨e _, e _⟩
  ·have hx' : ∀ t o, x ≠ .ptr t o := fun t o e => hx ⟨t, o, e⟩
   have e : ∀ (s : St), eR s (x :: r) back = eR s r back := fun s => jl _ hx' _ _
   rw [e, e]
   exact lM r back s (fun t off hm => hk t off (List.mem_cons_of_mem _ hm)) h
theorem l8 {t : Nat} : ∀ {l : List SV}, t ∈ given l -> ∃ off, .ptr t off ∈ l
 | x :: r, h => by
  by_cases hx : ∃ u off, x = .ptr u off
  ·obtain ⟨u, off, rfl⟩ := hx
   simp only [given, List.mem_cons] at h
   rcases h with rfl | h
   ·exact ⟨off, List.mem_cons_self⟩
   ·obtain ⟨o', ho⟩ := l8 h; exact ⟨o', List.mem_cons_of_mem _ ho⟩
  ·have e : given (x :: r) = given r := by cases x <;> first | rfl | exact absurd ⟨_, _, rfl⟩ hx
   rw [e] at h
   obtain ⟨o', ho⟩ := l8 h; exact ⟨o', List.mem_cons_of_mem _ ho⟩
theorem xi (hf : Fk k s) (ht : DT s) {d : Option Nat} {g : Nat} {xs : List Operand}
  (hob : ∀ x ∈ xs, ∀ y ∈ leaves (ev s x), ∀ j, tok y = some j -> ∃ x, s.obj j = some x) (hK : ∀ (s1 : St) u, Fk k s1 -> s1.slots = s.slots -> K ((s1.newAt k o).put d u) = K' (s1.put d u)) : gW C true (s.newAt k o) d g xs K = gW C true s d g xs K' := by
 have he : xs.map (ev (s.newAt k o)) = xs.map (ev s) := rfl
 have hne : ∀ j x, s.obj j = some x -> j ≠ k := fun j x hj e => by subst e; rw [hf.1] at hj; cases hj
 unfold gW jW ny
 simp only [he]
 generalize (bif C.uM g then eG (xs.map (ev s)) ++ pu (xs.map (ev s)) else []) = fz
 cases fz with
 | cons t ts => unfold kH; simp
 | nil =>
  simp only [fI, he]
  have hob' : ∀ x ∈ xs.map (ev s), ∀ y ∈ leaves x, ∀ j, tok y = some j -> (s.newAt k o).obj j = s.obj j := fun x hx y hy j hj => by
   obtain ⟨z, hz, rfl⟩ := List.mem_map.1 hx
   obtain ⟨x, hx⟩ := hob z hz y hy j hj
   exact wI (hne j x hx)
  have hpk : ∀ t off, SV.ptr t off ∈ xs.map (ev s) -> t ≠ k := fun t off hm => by
   obtain ⟨z, hz, e⟩ := List.mem_map.1 hm
   obtain ⟨x, hx⟩ := hob z hz (.ptr t off) (by rw [e]; exact List.mem_singleton.2 rfl) t rfl
   exact hne t x hx
  generalize xs.map (ev s) = vs at hob' hpk
  have hv : ∀ t ty ls, s.obj t = some (.var ty ls) -> ∀ z ∈ ls, ∀ j, tok z = some j -> (s.newAt k o).obj j = s.obj j := fun t ty ls e z hz j hj => by
   obtain ⟨x, hx⟩ := ht t ty ls e z hz j hj
   exact wI (hne j x hx)
  unfold kH
  simp only [List.append_nil, sN hob', jq hob', mB hv hob']
  generalize hgr : bT s vs = gr
  cases gr with
  | cons t ts => simp
  | nil =>
   generalize ((true && !(([] : List Nat).isEmpty && ([] : List Nat).isEmpty)) || !distinct (ie s vs) || (seen vs).any fun t => (ie s vs).any (Nat.beq t)) = c
   cases c with
   | true => rfl
   | false =>
    simp only [cond_false]
    cases er s vs with
    | none => rfl
    | some cs =>
     simp only [fe]
     congr 1
     funext res
     cases res with
     | nil => rfl
     | cons v back =>
      simp only
      obtain ⟨a1, a2, a3⟩ := pR (o := o) (given vs) s (fun hi => by
       obtain ⟨off, hm⟩ := l8 hi
       exact hpk k off hm rfl) hf
      rw [a1]
      rcases lM (o := o) vs back _ hpk a2 with ⟨b1, b2⟩ | ⟨s2, b1, b2, b3, b4⟩
      ·rw [b1, b2]
      ·rw [b1, b2]
       simp only
       rcases ow v with ⟨l, rfl⟩ | hv
       ·obtain ⟨c1, c2, c3⟩ := qi (o := o) l s2 b3
        simp only [c1]
        exact hK _ _ c2 (c3.trans (b4.trans a3))
       ·obtain ⟨c1, c2, c3⟩ := qk (o := o) v s2 b3
        cases v <;> first
         | exact absurd rfl (hv _)
         | (simp only [c1]; exact hK _ _ c2 (c3.trans (b4.trans a3)))
end
section
variable {ops : Array Oper} {o x y : Oper} {s s' : St} {C : Cfg R} {K K' : St -> Option R} {r : R}
def D4 (s : St) : Prop := ∀ t, ∀ z ∈ leaves (s.get t), ∀ k, tok z = some k -> ∃ o, s.obj k = some o
theorem yi {k : Nat} {b : Obj} (hy : lc o = true) (hf : Fk k s) (h2 : D4 s) (h3 : DT s) (hK : ∀ (s1 : St) u, Fk k s1 -> s1.slots = s.slots -> K ((s1.newAt k b).put o.dst u) = K' (s1.put o.dst u)) : cS C true ops o (s.newAt k b) K = cS C true ops o s K' := by
 have hu : ee C true o (s.newAt k b) K = ee C true o s K' := by
  unfold lc at hy
  split at hy
  ·rename_i c ho
   split at hy
   ·rename_i f hcal
    unfold ee; simp only [ho, hcal]
    rw [show ev (s.newAt k b) f = ev s f from rfl]
    cases ev s f <;> try rfl
    rename_i g
    dsimp only
    cases C.mv g with
    | true => rfl
    | false =>
    simp only [cond_false]
    refine xi hf h3 (fun x hx z hz j hj => ?_) hK
    cases x with
    | tmp t => exact h2 t z hz j hj
    | const v =>
     exfalso
     have hn : ∀ v : Value, tok (Cu v) = none := fun v => by unfold Cu; split <;> rfl
     by_cases ha : ∃ cs, v = .agg cs
     ·obtain ⟨cs, rfl⟩ := ha
      have hz : z ∈ cs.toList.map Cu := hz
      obtain ⟨u, _, rfl⟩ := List.mem_map.1 hz
      rw [hn] at hj; cases hj
     ·unfold ev at hz
      split at hz <;> first | (exact ha ⟨_, by assumption⟩) | simp_all [leaves, tok]
    | func f => simp [ev, leaves] at hz; subst hz; cases hj
    | _ => simp [ev, leaves] at hz; subst hz; cases hj
   ·cases hy
  ·cases hy
 rw [dP, dP]
 cases hg : o.guard with
 | none => exact hu
 | some g =>
  obtain ⟨j, want⟩ := g
  simp only
  cases hd : u0 ops j with
  | none => rfl
  | some d =>
   simp only [show (s.newAt k b).get d = s.get d from rfl]
   cases s.get d <;> try rfl
   ·exact hK s _ hf rfl
   ·simp only
    split
    ·exact hu
    ·exact hK s _ hf rfl
theorem w8 (hx : fZ o = true) (hb : Nat.beq C.base 0 = false) (h : cS C true ops o s K = some r) :
  (∃ k b u, Fk k s /\ ∀ (s1 : St) (K : St -> Option R), Fk k s1 -> (∀ t ∈ looks ops.toList o, s1.get t = s.get t) -> cS C true ops o s1 K = K ((s1.newAt k b).put o.dst u)) ∨
  ∃ u, ∀ (s1 : St) (K : St -> Option R), (∀ t ∈ looks ops.toList o, s1.get t = s.get t) -> cS C true ops o s1 K = K (s1.put o.dst u) := by
 have hmk : ∀ {r : R} {K : St -> Option R} {b : Obj} {f : Nat -> SV}, jz C s o.dst b f K = some r -> ∃ k u, Fk k s /\ ∀ (s1 : St) (K : St -> Option R), Fk k s1 -> jz C s1 o.dst b f K = K ((s1.newAt k b).put o.dst u) := by
  intro r K b f h
  unfold jz at h
  rw [hb, cond_false] at h
  obtain ⟨hc, _⟩ := bJ h
  simp only [Bool.and_eq_true, Option.isNone_iff_eq_none, Nat.blt_eq] at hc
  refine ⟨_, f (C.base + o.dst.getD 0), ⟨hc.1, hc.2.1⟩, fun s1 K hk => ?_⟩
  unfold jz
  have h1 : (s1.obj (C.base + o.dst.getD 0)).isNone = true := by rw [hk.1]; rfl
  have h2 : Nat.blt (C.base + o.dst.getD 0) s1.next = true := by rw [Nat.blt_eq]; exact hk.2
  rw [hb, cond_false, h1, h2, hc.2.2]; rfl
 have hop : ∀ {r : R} {K : St -> Option R}, ee C true o s K = some r -> ∃ k b u, Fk k s /\ ∀ (s1 : St) (K : St -> Option R), Fk k s1 -> ee C true o s1 K = K ((s1.newAt k b).put o.dst u) := by
  intro r K h
  unfold fZ at hx
  split at hx
  ·rename_i t ho
   unfold ee at h
   simp only [ho] at h
   unfold ee
   simp only [ho]
   cases hT : C.ty t with
   | none => rw [hT] at h; cases h
   | some T =>
    rw [hT] at h; simp only at h ⊢
    cases ha : np C T with
    | some j =>
     rw [ha] at h; simp only at h ⊢
     obtain ⟨k, u, g1, g2⟩ := hmk h
     exact ⟨k, _, u, g1, g2⟩
    | none =>
     rw [ha] at h; simp only at h ⊢
     obtain ⟨h0, h⟩ := bJ h
     simp only [h0, cond_true]
     obtain ⟨k, u, g1, g2⟩ := hmk h
     exact ⟨k, _, u, g1, g2⟩
  ·cases hx
 rw [dP] at h
 cases hg : o.guard with
 | none =>
  rw [hg] at h
  obtain ⟨k, b, u, g1, g2⟩ := hop h
  exact .inl ⟨k, b, u, g1, fun s1 K hk _ => by rw [dP, hg]; exact g2 s1 K hk⟩
 | some g =>
  obtain ⟨j, want⟩ := g
  rw [hg] at h; simp only at h
  cases hd : u0 ops j with
  | none => rw [hd] at h; cases h
  | some d =>
   rw [hd] at h; simp only at h
   have hl : d ∈ looks ops.toList o := hC hg hd
   cases hv : s.get d <;> rw [hv] at h <;> try (cases h; done)
   ·exact .inr ⟨.undef, fun s1 K he => by rw [dP, hg]; simp only [hd, he d hl, hv]⟩
   ·simp only at h
    rename_i t
    by_cases e : t = want
    ·rw [if_pos e] at h
     obtain ⟨k, b, u, g1, g2⟩ := hop h
     exact .inl ⟨k, b, u, g1, fun s1 K hk he => by rw [dP, hg]; simp only [hd, he d hl, hv, e, if_true]; exact g2 s1 K hk⟩
    ·rw [if_neg e] at h
     exact .inr ⟨.undef, fun s1 K he => by rw [dP, hg]; simp only [hd, he d hl, hv, e, if_false]⟩
theorem xj {lt : Bool} (h : fZ o = true) : cls lt o = 2 := by
 unfold fZ at h
 unfold cls
 split at h
 ·rename_i e; rw [e]
 ·cases h
theorem wG {lt : Bool} (hLt : lt = true -> yq C) {ys : List Oper} {κ : St -> Option R} (good : St -> Prop) (hg : ∀ (x : Oper) (s : St), good s -> Tk ops x s /\ Nm s.objs s.next /\ D4 s /\ DT s) : ∀ (xs : List Oper) {s : St}, (∀ x ∈ xs, sc ops x y /\ ((cls lt x = 0 ∨ (cls lt x <= 1 /\ cls lt y <= 2)) ∨ (fZ x = true /\ lc y = true /\ Nat.beq C.base 0 = false))) ->
  (∀ x ∈ xs, ∀ (s : St) (u : SV) ob' n', good s -> (∀ K : St -> Option R, cS C true ops x s K = K ((⟨s.slots, ob', n'⟩ : St).put x.dst u)) -> good ((⟨s.slots, ob', n'⟩ : St).put x.dst u)) -> good s -> eK C true ops (xs ++ y :: ys) s κ = some r -> eK C true ops (y :: (xs ++ ys)) s κ = some r
 | [], s, _, _, _, h => h
 | x :: xs, s, ha, hs, hgs, h => by
  obtain ⟨hx, hl⟩ := ha x (by simp)
  rcases hl with hl | ⟨hxa, hyc, hb⟩
  ·obtain ⟨u, hd⟩ := mz (lt := lt) (by rcases hl with hl | hl <;> omega) (show cS C true ops x s (fun s1 => eK C true ops (xs ++ y :: ys) s1 κ) = some r from h)
   have h1 : eK C true ops (xs ++ y :: ys) (s.put x.dst u) κ = some r := by rw [<- hd (fun s1 => eK C true ops (xs ++ y :: ys) s1 κ)]; exact h
   have h2 := wG hLt good hg xs (fun z hz => ha z (by simp [hz])) (fun z hz => hs z (by simp [hz])) (hs x (by simp) s u s.objs s.next hgs hd) h1
   rw [<- h2]
   show cS C true ops y s (fun s1 => cS C true ops x s1 (fun s2 => eK C true ops (xs ++ ys) s2 κ)) = cS C true ops y (s.put x.dst u) (fun s1 => eK C true ops (xs ++ ys) s1 κ)
   rw [iM hLt hx.symm]
   refine frame hLt fun v ob' n' _ ho2 => ?_
   rcases hl with hl | ⟨hl1, hl2⟩
   ·exact nH hx.symm hl hd _
   ·obtain ⟨ht, hn, _⟩ := hg x s hgs
    exact pD hx.symm hl1 ht hd (ho2 hl2 hn).1 _
  ·have hlook : ∀ (s1 : St) (v : SV), s1.slots = s.slots -> ∀ t ∈ looks ops.toList x, (s1.put y.dst v).get t = s.get t := fun s1 v e t ht => by
    rw [gE (s := s1) (fun e => hx.yl t e ht)]
    unfold St.get; rw [e]
   rcases w8 hxa hb (show cS C true ops x s (fun s1 => eK C true ops (xs ++ y :: ys) s1 κ) = some r from h) with ⟨k, b, u, hf, hd⟩ | ⟨u, hd⟩
   ·obtain ⟨_, _, ht2, ht3⟩ := hg x s hgs
    have hd0 : ∀ K : St -> Option R, cS C true ops x s K = K ((⟨s.slots, s.objs ++ [(k, b)], s.next⟩ : St).put x.dst u) := fun K => hd s K hf fun _ _ => rfl
    have h1 : eK C true ops (xs ++ y :: ys) ((⟨s.slots, s.objs ++ [(k, b)], s.next⟩ : St).put x.dst u) κ = some r := by rw [<- hd0 (fun s1 => eK C true ops (xs ++ y :: ys) s1 κ)]; exact h
    have h2 := wG hLt good hg xs (fun z hz => ha z (by simp [hz])) (fun z hz => hs z (by simp [hz])) (hs x (by simp) s u _ _ hgs hd0) h1
    rw [<- h2]
    show cS C true ops y s (fun s1 => cS C true ops x s1 (fun s2 => eK C true ops (xs ++ ys) s2 κ)) = cS C true ops y ((s.newAt k b).put x.dst u) (fun s1 => eK C true ops (xs ++ ys) s1 κ)
    rw [iM hLt hx.symm]
    refine (yi hyc hf ht2 ht3 fun s1 v hk he => ?_).symm
    have hk' : Fk k (s1.put y.dst v) := by cases y.dst <;> exact hk
    rw [hd _ _ hk' (hlook s1 v he)]
    congr 2
    cases y.dst <;> rfl
   ·have hd0 : ∀ K : St -> Option R, cS C true ops x s K = K (s.put x.dst u) := fun K => hd s K fun _ _ => rfl
    have h1 : eK C true ops (xs ++ y :: ys) (s.put x.dst u) κ = some r := by rw [<- hd0 (fun s1 => eK C true ops (xs ++ y :: ys) s1 κ)]; exact h
    have h2 := wG hLt good hg xs (fun z hz => ha z (by simp [hz])) (fun z hz => hs z (by simp [hz])) (hs x (by simp) s u s.objs s.next hgs hd0) h1
    rw [<- h2]
    show cS C true ops y s (fun s1 => cS C true ops x s1 (fun s2 => eK C true ops (xs ++ ys) s2 κ)) = cS C true ops y (s.put x.dst u) (fun s1 => eK C true ops (xs ++ ys) s1 κ)
    rw [iM hLt hx.symm]
    refine frame hLt fun v ob' n' _ _ => ?_
    exact hd _ _ (hlook ⟨s.slots, ob', n'⟩ v rfl)
end
end Go.Proofs.Ab
namespace Go.Proofs.Ab
open Go
variable {R : Type}
def ig (acc : List Nat) (o : Oper) : Nat := o.after.toList.foldl (fun m e => bif Region.binds .any e then m ||| 2 ^ e.on ||| acc.getD e.on 0 else m) 0
theorem kx (l : List Oper) (acc : List Nat) : l.foldl (fun acc o => acc ++ [ig acc o]) acc = l.foldl (fun acc o => acc ++ [o.after.toList.foldl (fun m e => bif Region.binds .any e then m ||| 2 ^ e.on ||| acc.getD e.on 0 else m) 0]) acc := rfl
theorem ky : ∀ (l : List Oper) (acc : List Nat), ∃ M, l.foldl (fun acc o => acc ++ [ig acc o]) acc = acc ++ M /\ M.length = l.length /\ ∀ i o, l[i]? = some o -> M[i]? = some (ig (acc ++ M.take i) o)
 | [], acc => ⟨[], by simp, rfl, fun i o h => by simp at h⟩
 | x :: l, acc => by
  obtain ⟨M, h1, h2, h3⟩ := ky l (acc ++ [ig acc x])
  refine ⟨ig acc x :: M, ?_, by simp [h2], fun i o h => ?_⟩
  ·rw [List.foldl_cons, h1]; simp
  ·cases i with
   | zero => simp at h; subst h; simp
   | succ i =>
    have := h3 i o (by simpa using h)
    simpa using this
theorem mm (acc : List Nat) (j : Nat) : ∀ (l : List Edge) (m : Nat), (l.foldl (fun m e => bif Region.binds .any e then m ||| 2 ^ e.on ||| acc.getD e.on 0 else m) m).testBit j = true ↔ m.testBit j = true ∨ ∃ e ∈ l, Region.binds .any e = true /\ (j = e.on ∨ (acc.getD e.on 0).testBit j = true)
 | [], m => by simp
 | e :: l, m => by
  rw [List.foldl_cons, mm acc j l]
  cases hb : Region.binds .any e with
  | false => simp [hb]
  | true =>
   simp only [cond_true, Nat.testBit_or, Bool.or_eq_true, Nat.testBit_two_pow, decide_eq_true_eq, List.mem_cons, exists_eq_or_imp, hb, true_and]
   constructor
   ·rintro (((h | h) | h) | h)
    ·exact .inl h
    ·exact .inr (.inl (.inl h.symm))
    ·exact .inr (.inl (.inr h))
    ·exact .inr (.inr h)
   ·rintro (h | (h | h) | h)
    ·exact .inl (.inl (.inl h))
    ·exact .inl (.inl (.inr h.symm))
    ·exact .inl (.inr h)
    ·exact .inr h
theorem kR (lt : Bool) (ops : List Oper) (o : Oper) (m : Nat) : ∀ (l : List Oper) (j : Nat), kQ lt ops o m j l = true -> ∀ k x, l[k]? = some x -> m.testBit (j + k) = true ∨ apart lt ops x o = true
 | [], _, _, k, x, h => by simp at h
 | y :: l, j, h, k, x, hk => by
  simp only [kQ, Bool.and_eq_true, Bool.or_eq_true] at h
  cases k with
  | zero => simp at hk; subst hk; exact h.1
  | succ k =>
   have := kR lt ops o m l (j + 1) h.2 k x (by simpa using hk)
   rw [show j + (k + 1) = j + 1 + k by omega]; exact this
theorem kO (lt : Bool) (ops : List Oper) : ∀ (l : List Oper) (M : List Nat) (i : Nat), kN lt ops i l M = true -> ∀ k o, l[k]? = some o -> ∃ m, M[k]? = some m /\ m < 2 ^ (i + k) /\ kQ lt ops o m 0 (ops.take (i + k)) = true
 | [], _, _, _, k, o, h => by simp at h
 | x :: l, [], _, h, _, _, _ => by simp [kN] at h
 | x :: l, m :: M, i, h, k, o, hk => by
  simp only [kN, Bool.and_eq_true, decide_eq_true_eq] at h
  cases k with
  | zero => simp at hk; subst hk; exact ⟨m, rfl, h.1, h.2.1⟩
  | succ k =>
   obtain ⟨m', h1, h2, h3⟩ := kO lt ops l M (i + 1) h.2.2 k o (by simpa using hk)
   rw [show i + (k + 1) = i + 1 + k by omega]
   exact ⟨m', by simpa using h1, h2, h3⟩
theorem sw {lt : Bool} {ops : Array Oper} (h : iU lt ops.toList = true) : ∃ M : List Nat, M = eE ops.toList /\ M.length = ops.size /\ ∀ i o, ops[i]? = some o ->
  (∀ j, (M.getD i 0).testBit j = true -> j < i /\ ∃ e ∈ o.after.toList, Region.binds .any e = true /\ (j = e.on ∨ (M.getD e.on 0).testBit j = true)) /\
  (∀ e ∈ o.after.toList, Region.binds .any e = true -> (M.getD i 0).testBit e.on = true) /\
  ∀ j x, j < i -> ops[j]? = some x -> (M.getD i 0).testBit j = true ∨ apart lt ops.toList x o = true := by
 unfold iU eE at h
 obtain ⟨M, h1, h2, h3⟩ := ky ops.toList []
 rw [<- kx, h1] at h
 simp only [List.nil_append] at h h3
 refine ⟨M, by unfold eE; rw [<- kx, h1]; rfl, by simpa using h2, fun i o hi => ?_⟩
 have hi' : ops.toList[i]? = some o := by simpa using hi
 obtain ⟨m, g1, g2, g3⟩ := kO lt ops.toList ops.toList M 0 h i o hi'
 have hm := h3 i o hi'
 rw [g1] at hm
 have hm' : m = ig (M.take i) o := by simpa using hm
 have hg : M.getD i 0 = m := by rw [List.getD_eq_getElem?_getD, g1]; rfl
 rw [Nat.zero_add] at g2 g3
 rw [hg]
 have bits : ∀ j, m.testBit j = true ↔ ∃ e ∈ o.after.toList, Region.binds .any e = true /\ (j = e.on ∨ ((M.take i).getD e.on 0).testBit j = true) := by
  intro j; rw [hm', ig, mm]; simp
 refine ⟨fun j hj => ⟨?_, ?_⟩, fun e he hb => (bits e.on).2 ⟨e, he, hb, .inl rfl⟩, fun j x hj hx => ?_⟩
 ·refine Decidable.byContradiction fun hn => ?_
  have := Nat.testBit_lt_two_pow (Nat.lt_of_lt_of_le g2 (Nat.pow_le_pow_right (by decide) (Nat.le_of_not_lt hn)))
  rw [this] at hj; cases hj
 ·obtain ⟨e, he, hb, h⟩ := (bits j).1 hj
  refine ⟨e, he, hb, h.imp id fun h => ?_⟩
  rw [List.getD_eq_getElem?_getD, List.getElem?_take] at h
  split at h
  ·rw [List.getD_eq_getElem?_getD]; exact h
  ·simp at h
 ·have := kR lt ops.toList o m _ 0 g3 j x (by rw [List.getElem?_take, if_pos hj]; simpa using hx)
  rwa [Nat.zero_add] at this
def jH (ops : Array Oper) (M : List Nat) : Prop := M.length = ops.size /\ ∀ i o, ops[i]? = some o ->
  (∀ j, (M.getD i 0).testBit j = true -> j < i /\ ∃ e ∈ o.after.toList, Region.binds .any e = true /\ (j = e.on ∨ (M.getD e.on 0).testBit j = true)) /\
  (∀ e ∈ o.after.toList, Region.binds .any e = true -> (M.getD i 0).testBit e.on = true)
theorem kF : ∀ (l : List Nat) (i : Nat), bounded i l = true -> ∀ k m, l[k]? = some m -> m < 2 ^ (i + k)
 | [], _, _, k, m, h => by simp at h
 | x :: l, i, h, k, m, hk => by
  simp only [bounded, Bool.and_eq_true, decide_eq_true_eq] at h
  cases k with
  | zero => simp at hk; subst hk; exact h.1
  | succ k =>
   have := kF l (i + 1) h.2 k m (by simpa using hk)
   rw [show i + (k + 1) = i + 1 + k by omega]; exact this
theorem zX {ops : Array Oper} (h : bounded 0 (eE ops.toList) = true) : jH ops (eE ops.toList) := by
 have hb := kF _ _ h
 clear h
 revert hb
 obtain ⟨M, h1, h2, h3⟩ := ky ops.toList []
 have e : eE ops.toList = M := by unfold eE; rw [<- kx, h1]; rfl
 rw [e]
 intro hb
 simp only [List.nil_append] at h3
 refine ⟨by simpa using h2, fun i o hi => ?_⟩
 have hi' : ops.toList[i]? = some o := by simpa using hi
 have hm := h3 i o hi'
 have g2 := hb i _ hm
 have hg : M.getD i 0 = ig (M.take i) o := by rw [List.getD_eq_getElem?_getD, hm]; rfl
 rw [Nat.zero_add] at g2
 rw [hg]
 have bits : ∀ j, (ig (M.take i) o).testBit j = true ↔ ∃ e ∈ o.after.toList, Region.binds .any e = true /\ (j = e.on ∨ ((M.take i).getD e.on 0).testBit j = true) := by
  intro j; rw [ig, mm]; simp
 refine ⟨fun j hj => ⟨?_, ?_⟩, fun e he hb => (bits e.on).2 ⟨e, he, hb, .inl rfl⟩⟩
 ·refine Decidable.byContradiction fun hn => ?_
  have := Nat.testBit_lt_two_pow (Nat.lt_of_lt_of_le g2 (Nat.pow_le_pow_right (by decide) (Nat.le_of_not_lt hn)))
  rw [this] at hj; cases hj
 ·obtain ⟨e, he, hb, h⟩ := (bits j).1 hj
  refine ⟨e, he, hb, h.imp id fun h => ?_⟩
  rw [List.getD_eq_getElem?_getD, List.getElem?_take] at h
  split at h
  ·rw [List.getD_eq_getElem?_getD]; exact h
  ·simp at h
def Er (C : Cfg R) (lt : Bool) (ops : Array Oper) (x y : Oper) : Prop :=
 sc ops x y /\ ((cls lt x = 0 ∨ cls lt y = 0 ∨ (cls lt x <= 1 /\ cls lt y <= 2) ∨ (cls lt x <= 2 /\ cls lt y <= 1)) ∨ (fZ x = true /\ lc y = true /\ Nat.beq C.base 0 = false))
def pq (C : Cfg R) (lt : Bool) (ops : Array Oper) (M T : List Nat) (ord : List Nat) : Prop := (∀ i, i ∈ ord ↔ i < ops.size /\ i ∉ T) /\
 ord.Pairwise fun j i => j ≠ i /\ (M.getD j 0).testBit i = false /\ ∀ x o, ops[j]? = some x -> ops[i]? = some o -> (M.getD i 0).testBit j = true ∨ Er C lt ops x o
theorem qn {C : Cfg R} {lt : Bool} {ops : Array Oper} (h : iU lt ops.toList = true) : jH ops (eE ops.toList) /\ pq C lt ops (eE ops.toList) [] (List.range ops.size) := by
 obtain ⟨M, e, h1, h2⟩ := sw h
 rw [<- e]
 refine ⟨⟨h1, fun i o hi => ⟨(h2 i o hi).1, (h2 i o hi).2.1⟩⟩, fun i => by rw [List.mem_range]; simp, ?_⟩
 have := List.pairwise_lt_range (n := ops.size)
 refine this.imp_of_mem fun {j i} hj hi hlt => ⟨by omega, ?_, fun x o hx ho => ((h2 i o ho).2.2 j x hlt hx).imp id fun ha => ?_⟩
 ·cases hb : (M.getD j 0).testBit i with
  | false => rfl
  | true =>
   have hj' := List.mem_range.1 hj
   have := ((h2 j _ (Array.getElem?_eq_getElem hj')).1 i hb).1
   omega
 ·obtain ⟨g1, g2⟩ := apart_spec ha
  exact ⟨g1, .inl g2⟩
theorem pv {ops : Array Oper} {x y : Oper} (h : AJ ops.toList x y = true) : sc ops x y := by
 unfold AJ at h
 simp only [Bool.and_eq_true] at h
 obtain ⟨h2, h3⟩ := h
 refine ⟨fun d hd hin => ?_, fun d hd hin => ?_, fun d hd hy => ?_⟩
 ·rw [hd] at h2
  simp only [Bool.and_eq_true, Bool.not_eq_true', List.any_eq_false] at h2
  exact h2.1 d hin (Nat.beq_refl d)
 ·rw [hd] at h3
  simp only [Bool.not_eq_true', List.any_eq_false] at h3
  exact h3 d hin (Nat.beq_refl d)
 ·rw [hd] at h2
  simp only [Bool.and_eq_true, Bool.not_eq_true', List.any_eq_false] at h2
  exact h2.2 d (by rw [hy]; simp) (Nat.beq_refl d)
theorem ly (lt : Bool) (ops : List Oper) (ms : List Nat) : ∀ (l : List Nat), ni lt ops ms l = true -> l.Pairwise fun j i => vo lt ops ms j i = true
 | [], _ => .nil
 | j :: r, h => by
  simp only [ni, Bool.and_eq_true, List.all_eq_true] at h
  exact .cons h.1 (ly lt ops ms r h.2)
theorem qm {C : Cfg R} {lt : Bool} {ops : Array Oper} (hL : Nat.beq C.base 0 = false) (h : kP lt ops.toList = true) : jH ops (eE ops.toList) /\ pq C lt ops (eE ops.toList) [] (tE ops.toList (eE ops.toList)) := by
 unfold kP at h
 rw [Bool.and_eq_true] at h
 refine ⟨zX h.1, fun i => ?_, (ly _ _ _ _ h.2).imp fun {j i} hp => ?_⟩
 ·unfold tE
  rw [List.mem_append, List.mem_filter, List.mem_filter, List.mem_range]
  cases uI ops.toList (eE ops.toList) i <;> simp
 ·unfold vo at hp
  simp only [Bool.and_eq_true, Bool.not_eq_true', Bool.or_eq_true] at hp
  obtain ⟨h1, h2, h3⟩ := hp
  refine ⟨fun e => by (subst e; rw [Nat.beq_refl] at h1; cases h1), h2, fun x o hx ho => h3.imp id fun h3 => ?_⟩
  have hx' : ops.toList[j]? = some x := by simpa using hx
  have ho' : ops.toList[i]? = some o := by simpa using ho
  rw [hx', ho'] at h3
  simp only [Bool.or_eq_true, Bool.and_eq_true] at h3
  rcases h3 with h3 | ⟨⟨ha, hc⟩, hb⟩
  ·obtain ⟨g1, g2⟩ := apart_spec h3
   exact ⟨g1, .inl g2⟩
  ·exact ⟨pv hb, .inr ⟨ha, hc, hL⟩⟩
section
variable {P : Program} {E : Env} {s : St} {a : Act} {w : World} {κ : St -> Option R} {r : R} {C : Cfg R} {tab : bO} {ops : Array Oper}
def dN (ord : List Nat) (listed : Array Bool) : List Nat := ord.filter fun i => !listed.getD i true
theorem eY {ord : List Nat} {i : Nat} {listed : Array Bool} : i ∈ dN ord listed ↔ i ∈ ord /\ listed.getD i true = false := by
 unfold dN; rw [List.mem_filter]; simp
theorem oL {ord : List Nat} {i : Nat} {listed : Array Bool} (hnd : ord.Pairwise (· ≠ ·)) (hi : i < listed.size) {xs ys : List Nat} (h : dN ord listed = xs ++ i :: ys) : dN ord (listed.setIfInBounds i true) = xs ++ ys := by
 have h1 : dN ord (listed.setIfInBounds i true) = (dN ord listed).filter (fun j => decide (j ≠ i)) := by
  unfold dN
  rw [List.filter_filter]
  refine List.filter_congr fun j hj => ?_
  rw [Array.getD_eq_getD_getElem?, Array.getD_eq_getD_getElem?, Array.getElem?_setIfInBounds]
  by_cases e : i = j
  ·subst e; simp [hi]
  ·rw [if_neg e]; simp [Ne.symm e]
 have hp : (dN ord listed).Pairwise (· ≠ ·) := List.Pairwise.filter _ hnd
 rw [h1, h, List.filter_append, List.filter_cons]
 rw [h, List.pairwise_append] at hp
 obtain ⟨p1, p2, p3⟩ := hp
 rw [List.pairwise_cons] at p2
 rw [if_neg (by simp)]
 congr 1
 ·refine List.filter_eq_self.2 fun j hj => ?_
  have := p3 j hj i (by simp); simpa using this
 ·refine List.filter_eq_self.2 fun j hj => ?_
  have := p2.1 j hj; simpa using Ne.symm this
theorem xu (ops : Array Oper) (xs ys : List Nat) : (xs ++ ys).filterMap (ops[·]?) = xs.filterMap (ops[·]?) ++ ys.filterMap (ops[·]?) := List.filterMap_append
theorem nh {T : List Nat} {j : Nat} : Dd T j = true ↔ j ∈ T := by
 unfold Dd
 rw [List.any_eq_true]
 exact ⟨fun ⟨t, h1, h2⟩ => Nat.eq_of_beq_eq_true h2 ▸ h1, fun h => ⟨j, h, Nat.beq_refl j⟩⟩
theorem mS {ms T : List Nat} {i j : Nat} (h : lz ms T i = true) (hj : j < i) (ht : j ∉ T) : (ms.getD i 0).testBit j = true := by
 unfold lz at h
 rw [Bool.and_eq_true, List.all_eq_true] at h
 have := h.1 j (List.mem_range.2 hj)
 rw [Bool.or_eq_true] at this
 exact this.resolve_left fun h => ht (nh.1 h)
theorem lA {ms T : List Nat} {i j : Nat} (h : lz ms T i = true) (hj : i < j) (hl : j < ms.length) (ht : j ∉ T) : (ms.getD j 0).testBit i = true := by
 unfold lz at h
 rw [Bool.and_eq_true, List.all_eq_true, List.all_eq_true] at h
 have := h.2 j (List.mem_range.2 hl)
 rw [Bool.or_eq_true, Bool.or_eq_true] at this
 rcases this with h | h | h
 ·have := Nat.le_of_ble_eq_true h; omega
 ·exact absurd (nh.1 h) ht
 ·exact h
theorem mi {ms T : List Nat} {r : List Nat} : ∀ (xs : List Nat) {s : St}, (∀ j ∈ xs, j < ops.size /\ lz ms T j = false) -> iE C ops ms T (xs ++ r) s κ = eK C true ops (xs.filterMap (ops[·]?)) s (fun s' => iE C ops ms T r s' κ)
 | [], s, _ => rfl
 | j :: xs, s, h => by
  obtain ⟨h1, h2⟩ := h j (by simp)
  have hj : ops[j]? = some ops[j] := Array.getElem?_eq_getElem h1
  rw [List.filterMap_cons_some (by exact hj)]
  show iE C ops ms T (j :: (xs ++ r)) s κ = cS C true ops ops[j] s (fun s' => eK C true ops (xs.filterMap (ops[·]?)) s' (fun s' => iE C ops ms T r s' κ))
  simp only [iE, hj, h2, Bool.not_false]
  congr 1
  funext s'
  exact mi xs fun k hk => h k (by simp [hk])
theorem ua {c : Cx} {x : SV} {v : Value} {k : Nat} (h : S2 c x v) (hk : tok x = some k) : c.D k := by
 cases x <;> simp only [tok] at hk <;> try (cases hk; done)
 case cls g ts =>
  cases ts with
  | nil => cases hk
  | cons u us => simp only [List.head?_cons, Option.some.injEq] at hk; subst hk; exact h.1 u (by simp)
 all_goals
  simp only [Option.some.injEq] at hk; subst hk
  exact h.1
theorem yA {c : Cx} {x : SV} {v : Value} {k : Nat} (h : SL c x v) (hk : tok x = some k) : c.D k := by
 cases x <;> simp only [tok] at hk <;> try (cases hk; done)
 case cls g ts =>
  cases ts with
  | nil => cases hk
  | cons u us => simp only [List.head?_cons, Option.some.injEq] at hk; subst hk; exact h.1 u (by simp)
 all_goals
  simp only [Option.some.injEq] at hk; subst hk
  exact h.1
theorem ur {A B : Type} {S : A -> B -> Prop} : ∀ {l : List A} {m : List B}, PW S l m -> ∀ x ∈ l, ∃ y, S x y
 | [], _, _, x, hx => by cases hx
 | a :: l, b :: m, h, x, hx => by
  rcases List.mem_cons.1 hx with rfl | hx
  ·exact ⟨b, h.1⟩
  ·exact ur h.2 x hx
 | _ :: _, [], h, _, _ => h.elim
theorem zH {c : Cx} {x z : SV} {v : Value} {k : Nat} (h : S2 c x v) (hz : z ∈ leaves x) (hk : tok z = some k) : c.D k := by
 rcases gj x with ⟨l, rfl⟩ | hn
 ·obtain ⟨cs, rfl, hp⟩ := iP h
  obtain ⟨u, hu⟩ := ur hp z hz
  exact yA hu hk
 ·have : z = x := by
   have hl : leaves x = [x] := by cases x <;> first | rfl | exact absurd rfl (hn _)
   rw [hl] at hz; simpa using hz
  subst this
  exact ua h hk
theorem Av (hP : Ok P C.ty) (hE : EnvOk C tab E) (hD : ∀ g, bL P C.ty tab g (C.call g)) {lt : Bool} (hLt : lt = true -> yq C) {M T ord : List Nat} (hpo : jH ops M) (hord : pq C lt ops M T ord) {Q : Exit -> Act -> World -> Prop} (hQ : ∀ s' a' w', κ s' = some r -> cT E s' a' w' -> Q .normal a' w') :
  ∀ (fuel : Nat) (listed : Array Bool) {s : St} {a : Act} {w : World}, (∀ j ∈ T, listed.getD j true = true) -> listed.size = ops.size -> (∀ i, i < ops.size -> listed.getD i false = true -> ∀ j, (M.getD i 0).testBit j = true -> listed.getD j false = true) ->
   (dN ord listed).length = fuel -> cT E s a w -> iE C ops M T (dN ord listed) s κ = some r -> wpAny P .any ops Q fuel listed a w := by
 obtain ⟨hMl, hM⟩ := hpo
 obtain ⟨hmem, hpw⟩ := hord
 have hnd : ord.Pairwise (· ≠ ·) := hpw.imp fun h => h.1
 intro fuel
 induction fuel with
 | zero =>
  intro listed s a w hT hs hinv hl hr hk
  have hnT : ∀ j, listed.getD j true = false -> j ∉ T := fun j hj ht => by rw [hT j ht] at hj; cases hj
  have h0 : dN ord listed = [] := List.eq_nil_of_length_eq_zero hl
  refine ⟨?_, ?_⟩
  ·unfold Region.ready
   refine List.filter_eq_nil_iff.2 fun i hi => ?_
   have : i ∉ dN ord listed := by rw [h0]; simp
   rw [eY, hmem] at this
   have hlt := List.mem_range.1 hi
   have : listed.getD i true = true := by
    cases hv : listed.getD i true with
    | true => rfl
    | false => exact absurd ⟨⟨hlt, hnT i hv⟩, hv⟩ this
   rw [this]; simp
  ·rw [h0] at hk; exact hQ s a w hk hr
 | succ fuel ih =>
  intro listed s a w hT hs hinv hl hr hk
  have hnT : ∀ j, listed.getD j true = false -> j ∉ T := fun j hj ht => by rw [hT j ht] at hj; cases hj
  refine ⟨fun hnil => ?_, fun i hi => ?_⟩
  ·exfalso
   cases hrest : dN ord listed with
   | nil => rw [hrest] at hl; simp at hl
   | cons i ys =>
    have him : i ∈ dN ord listed := by rw [hrest]; simp
    obtain ⟨hlt, hun⟩ := eY.1 him
    have hlt := ((hmem i).1 hlt).1
    have : i ∈ Region.ready .any ops listed := by
     unfold Region.ready
     rw [List.mem_filter]
     refine ⟨List.mem_range.2 hlt, ?_⟩
     rw [hun, Array.getElem?_eq_getElem hlt]
     simp only [Bool.not_false, Option.map_some, Option.getD_some, Bool.true_and]
     rw [<- Array.all_toList, List.all_eq_true]
     intro e he
     simp only [Bool.or_eq_true, Bool.not_eq_true']
     cases hb : Region.binds .any e with
     | false => exact .inl rfl
     | true =>
      right
      obtain ⟨m1, m2⟩ := hM i _ (Array.getElem?_eq_getElem hlt)
      have hlt2 := (m1 _ (m2 e he hb)).1
      have hnot : e.on ∉ dN ord listed := fun hin => by
       have hp : (dN ord listed).Pairwise _ := List.Pairwise.filter _ hpw
       rw [hrest] at hin hp
       rcases List.mem_cons.1 hin with e1 | h1
       ·omega
       ·have := ((List.pairwise_cons.1 hp).1 _ h1).2.1
        rw [m2 e he hb] at this; cases this
      have hlt3 : e.on < listed.size := by omega
      rw [eY, hmem] at hnot
      rw [Array.getD_eq_getD_getElem?, Array.getElem?_eq_getElem hlt3] at hnot ⊢
      simp only [Option.getD_some] at hnot ⊢
      cases hv : listed[e.on] with
      | true => rfl
      | false => exact absurd ⟨⟨by omega, hnT _ (by rw [Array.getD_eq_getD_getElem?, Array.getElem?_eq_getElem hlt3]; exact hv)⟩, hv⟩ hnot
    rw [hnil] at this; cases this
  ·have hi0 := hi
   unfold Region.ready at hi
   rw [List.mem_filter] at hi
   obtain ⟨hlt, hi⟩ := hi
   have hlt := List.mem_range.1 hlt
   simp only [Bool.and_eq_true, Bool.not_eq_true'] at hi
   obtain ⟨hun, hafter⟩ := hi
   have hio : ops[i]? = some ops[i] := Array.getElem?_eq_getElem hlt
   rw [hio] at hafter
   simp only [Option.map_some, Option.getD_some] at hafter
   rw [<- Array.all_toList, List.all_eq_true] at hafter
   obtain ⟨m1, m2⟩ := hM i _ hio
   have hbits : ∀ j, (M.getD i 0).testBit j = true -> listed.getD j false = true := by
    intro j hj
    obtain ⟨_, e, he, hb, h⟩ := m1 j hj
    have hlist : listed.getD e.on false = true := by
     have := hafter e he
     simpa [hb] using this
    rcases h with rfl | h
    ·exact hlist
    ·have := (m1 e.on (m2 e he hb)).1
     exact hinv e.on (by omega) hlist j h
   obtain ⟨xs, ys, hxy⟩ := List.append_of_mem (eY.2 ⟨(hmem i).2 ⟨hlt, hnT i hun⟩, hun⟩)
   have hp : (dN ord listed).Pairwise _ := List.Pairwise.filter _ hpw
   rw [hxy, List.pairwise_append] at hp
   have hapt : ∀ x ∈ xs.filterMap (ops[·]?), Er C lt ops x ops[i] := by
    intro x hx
    obtain ⟨j, hj, hjx⟩ := List.mem_filterMap.1 hx
    have hji := hp.2.2 j hj i (by simp)
    have hjs : j < ops.size := (Array.getElem?_eq_some_iff.1 hjx).1
    refine (hji.2.2 x _ hjx hio).resolve_left fun hb => ?_
    have h1 := hbits j hb
    have h2 := (eY.1 (show j ∈ dN ord listed by rw [hxy]; simp [hj])).2
    have hlt3 : j < listed.size := by omega
    rw [Array.getD_eq_getD_getElem?, Array.getElem?_eq_getElem hlt3] at h1 h2
    simp only [Option.getD_some] at h1 h2
    rw [h1] at h2; cases h2
   have hunl : ∀ j ∈ xs, (j ≠ i /\ (M.getD j 0).testBit i = false) /\ j < ops.size /\ listed.getD j false = false := by
    intro j hj
    have h2 := eY.1 (show j ∈ dN ord listed by rw [hxy]; simp [hj])
    have hji := hp.2.2 j hj i (by simp)
    refine ⟨⟨hji.1, hji.2.1⟩, ((hmem j).1 h2.1).1, ?_⟩
    have hlt3 : j < listed.size := by rw [hs]; exact ((hmem j).1 h2.1).1
    have h3 := h2.2
    rw [Array.getD_eq_getD_getElem?, Array.getElem?_eq_getElem hlt3] at h3 ⊢
    exact h3
   have hnopin : ∀ j ∈ xs, lz M T j = false := by
    intro j hj
    obtain ⟨h1, h2, h3⟩ := hunl j hj
    cases hpn : lz M T j with
    | false => rfl
    | true =>
     rcases Nat.lt_or_gt_of_ne h1.1 with hlt1 | hlt1
     ·have := hbits j (lA hpn hlt1 (by omega) (hnT i hun))
      rw [h3] at this; cases this
     ·have := mS hpn hlt1 (hnT i hun)
      rw [h1.2] at this; cases this
   have hnew : ∀ s' : St, iE C ops M T (dN ord (listed.setIfInBounds i true)) s' κ = eK C true ops (xs.filterMap (ops[·]?)) s' (fun s2 => iE C ops M T ys s2 κ) := by
    intro s'
    rw [oL hnd (by omega) hxy]
    exact mi xs fun j hj => ⟨(hunl j hj).2.1, hnopin j hj⟩
   have hfront : ∃ q, cS C q ops ops[i] s (fun s' => iE C ops M T (dN ord (listed.setIfInBounds i true)) s' κ) = some r := by
    simp only [hnew]
    cases hpn : lz M T i with
    | true =>
     have hx0 : xs = [] := by
      cases xs with
      | nil => rfl
      | cons j xs =>
       obtain ⟨h1, h2, h3⟩ := hunl j (by simp)
       rcases Nat.lt_or_gt_of_ne h1.1 with hlt1 | hlt1
       ·have := hbits j (mS hpn hlt1 ((hmem j).1 (eY.1 (show j ∈ dN ord listed by rw [hxy]; simp)).1).2)
        rw [h3] at this; cases this
       ·have := lA hpn hlt1 (by omega) ((hmem j).1 (eY.1 (show j ∈ dN ord listed by rw [hxy]; simp)).1).2
        rw [h1.2] at this; cases this
     subst hx0
     rw [hxy] at hk
     simp only [List.nil_append, iE, hio, hpn, Bool.not_true] at hk
     exact ⟨false, hk⟩
    | false =>
     refine ⟨true, ?_⟩
     have hk2 : iE C ops M T ((xs ++ [i]) ++ ys) s κ = some r := by rw [List.append_assoc]; rw [hxy] at hk; exact hk
     rw [mi (xs ++ [i]) (fun j hj => by
      rcases List.mem_append.1 hj with hj | hj
      ·exact ⟨(hunl j hj).2.1, hnopin j hj⟩
      ·simp only [List.mem_singleton] at hj; subst hj; exact ⟨hlt, hpn⟩)] at hk2
     rw [xu, List.filterMap_cons_some hio, List.filterMap_nil] at hk2
     show eK C true ops (ops[i] :: xs.filterMap (ops[·]?)) s (fun s2 => iE C ops M T ys s2 κ) = some r
     have hend : eK C true ops (ops[i] :: (xs.filterMap (ops[·]?) ++ [])) s (fun s2 => iE C ops M T ys s2 κ) = some r := by
      have hxs := fun x hx => hapt x hx
      have hgood : ∀ (x : Oper) (s : St), (∃ a w, cT E s a w) -> Tk ops x s /\ Nm s.objs s.next /\ D4 s /\ DT s := by
       rintro x s ⟨a, w, β, Rt, Ra, h⟩
       refine ⟨fun t _ k hk => ua (h.slots t) hk, fun t o ho => h.lt t o ho, fun t z hz k hk => zH (h.slots t) hz hk, fun t ty ls ho z hz j hj => ?_⟩
       obtain ⟨cs, _, _, hp⟩ := h.objs t _ ho
       obtain ⟨u, hu⟩ := ur hp z hz
       have hn : z ≠ .nos := fun e => by subst e; cases hj
       have hu' : SL (bu E s w β Rt Ra) z u := by
        unfold lL at hu; split at hu
        ·exact absurd rfl hn
        ·exact hu
       exact yA hu' hj
      by_cases hc : cls lt ops[i] = 0
      ·by_cases hn : ∀ K : St -> Option R, cS C true ops ops[i] s K = none
       ·rw [BX hLt hc _ (fun x hx => (hxs x hx).1) hn] at hk2
        obtain ⟨_, _, _, hbad, _⟩ := lu hP hE hD xs (fun j hj => (hunl j hj).2.1) hr hk2
        cases hbad
       ·have hn : ∃ K, cS C true ops ops[i] s K ≠ none := Classical.not_forall.1 hn
        obtain ⟨K, hK⟩ := hn
        obtain ⟨r0, hr0⟩ := Option.ne_none_iff_exists'.1 hK
        obtain ⟨u, hdet⟩ := mz (lt := lt) (by omega) hr0
        rw [BS hLt hc _ (fun x hx => (hxs x hx).1) hdet] at hk2
        rw [<- hk2]; exact hdet _
      ·by_cases hc1 : cls lt ops[i] <= 1
       ·have hx2 : ∀ x ∈ xs.filterMap (ops[·]?), sc ops x ops[i] /\ cls lt x <= 2 := fun x hx => by
         obtain ⟨g1, g2⟩ := hxs x hx
         refine ⟨g1, ?_⟩
         rcases g2 with g2 | ⟨g2, _⟩
         ·omega
         ·rw [xj g2]; exact Nat.le_refl _
        obtain ⟨ht, hnm, _⟩ := hgood ops[i] s ⟨a, w, hr⟩
        by_cases hn : ∀ K : St -> Option R, cS C true ops ops[i] s K = none
        ·rw [BZ hLt hc1 _ hx2 ht hnm hn] at hk2
         obtain ⟨_, _, _, hbad, _⟩ := lu hP hE hD xs (fun j hj => (hunl j hj).2.1) hr hk2
         cases hbad
        ·have hn : ∃ K, cS C true ops ops[i] s K ≠ none := Classical.not_forall.1 hn
         obtain ⟨K, hK⟩ := hn
         obtain ⟨r0, hr0⟩ := Option.ne_none_iff_exists'.1 hK
         obtain ⟨u, hdet⟩ := mz (lt := lt) hc1 hr0
         rw [BT hLt hc1 _ hx2 ht hnm hdet] at hk2
         rw [<- hk2]; exact hdet _
       ·refine wG hLt (fun s => ∃ a w, cT E s a w) hgood _ (fun x hx => ?_) (fun x hx s1 u ob' n' => ?_) ⟨a, w, hr⟩ hk2
        ·obtain ⟨g1, g2⟩ := hxs x hx
         exact ⟨g1, g2.imp (fun g2 => by omega) id⟩
        ·rintro ⟨a1, w1, β1, Rt1, Ra1, h1⟩ hdet
         obtain ⟨j, hj, hjx⟩ := List.mem_filterMap.1 hx
         have hex : ∃ s' a' w', (fun s2 : St => @ite _ (s2 = (⟨s1.slots, ob', n'⟩ : St).put x.dst u) (Classical.propDecidable _) (some r) none) s' = some r /\ cT E s' a' w' :=
          sJ (gf hP hE hD h1 hjx ((hdet _).trans (by simp)))
         obtain ⟨s', a', w', he, hr'⟩ := hex
         simp only at he
         split at he
         ·rename_i e; subst e; exact ⟨a', w', hr'⟩
         ·cases he
     rwa [List.append_nil] at hend
   obtain ⟨q, hfront⟩ := hfront
   obtain ⟨β, Rt, Ra, h⟩ := hr
   refine gf hP hE hD h hio hfront _ _ fun s' a' w' hk' hr' => ?_
   refine ih (listed.setIfInBounds i true) (fun j hj => ?_) (by simpa using hs) (fun i' hlt' hi' j hj => ?_) ?_ hr' hk'
   ·have := hT j hj
    rw [Array.getD_eq_getD_getElem?] at this ⊢
    rw [Array.getElem?_setIfInBounds]
    split
    ·split <;> rfl
    ·exact this
   ·have get : ∀ k, (listed.setIfInBounds i true).getD k false = true ↔ k = i ∨ listed.getD k false = true := by
     intro k
     rw [Array.getD_eq_getD_getElem?, Array.getD_eq_getD_getElem?, Array.getElem?_setIfInBounds]
     by_cases e : i = k
     ·subst e; simp [hs, hlt]
     ·rw [if_neg e]; simp [Ne.symm e]
    rw [get] at hi' ⊢
    right
    rcases hi' with rfl | hi'
    ·exact hbits j hj
    ·exact hinv i' hlt' hi' j hj
   ·rw [oL hnd (by omega) hxy]
    rw [hxy] at hl
    simp at hl ⊢; omega
theorem Br {lt : Bool} {M T ord : List Nat} (h : pq C lt ops M [] ord) : pq C lt ops M T (lx T ord) := by
 refine ⟨fun i => ?_, List.Pairwise.filter _ h.2⟩
 unfold lx
 rw [List.mem_filter, h.1 i]
 simp only [Bool.not_eq_true', List.mem_nil_iff, not_false_eq_true, and_true]
 constructor
 ·rintro ⟨h1, h2⟩; exact ⟨h1, fun ht => by rw [nh.2 ht] at h2; cases h2⟩
 ·rintro ⟨h1, h2⟩
  refine ⟨h1, ?_⟩
  cases hb : Dd T i with
  | false => rfl
  | true => exact absurd (nh.1 hb) h2
theorem vK {ms : List Nat} {i : Nat} (h : i ∈ ud ops ms) : qg ops = true /\ i < ops.size /\ ms.getD i 1 = 0 /\ sD ops i = true := by
 unfold ud at h
 cases hn : qg ops with
 | false => rw [hn] at h; cases h
 | true =>
  rw [hn, cond_true, List.mem_filter] at h
  simp only [Bool.and_eq_true] at h
  exact ⟨rfl, List.mem_range.1 h.1, Nat.eq_of_beq_eq_true h.2.1, h.2.2⟩
theorem oV {Qn : Act -> World -> Prop} {M : List Nat} (hpo : jH ops M) : ∀ (T : List Nat) (fuel : Nat) (listed : Array Bool) {s : St} {a : Act} {w : World}, T.Nodup -> (∀ i ∈ T, qg ops = true /\ i < ops.size /\ M.getD i 1 = 0 /\ sD ops i = true) -> (∀ i ∈ T, listed.getD i true = false) -> listed.size = ops.size -> cT E s a w ->
  (∀ a', cT E (kC ops T s) a' w -> wpAny P .any ops (fun e a w => e = .normal /\ Qn a w) fuel (T.foldl (fun l i => l.setIfInBounds i true) listed) a' w) ->
  wpAny P .any ops (fun e a w => e = .normal /\ Qn a w) (fuel + T.length) listed a w
 | [], fuel, listed, s, a, w, _, _, _, _, h, hn => hn a h
 | i :: T, fuel, listed, s, a, w, hnd, hT, hl, hs, ⟨β, Rt, Ra, h⟩, hn => by
  obtain ⟨hsel, hlt, hm0, hfree⟩ := hT i (by simp)
  have hnd' := List.nodup_cons.1 hnd
  have hio : ops[i]? = some ops[i] := Array.getElem?_eq_getElem hlt
  unfold sD at hfree
  rw [hio] at hfree
  simp only [Bool.and_eq_true] at hfree
  obtain ⟨hmv, hfr⟩ := hfree
  unfold Dv at hmv
  rw [Bool.and_eq_true, Option.isNone_iff_eq_none] at hmv
  obtain ⟨hmv, hg⟩ := hmv
  obtain ⟨x, hx⟩ : ∃ x, ops[i].op = .move x := by
   split at hmv
   ·rename_i x e; exact ⟨x, e⟩
   ·cases hmv
  have hst : kC ops (i :: T) s = kC ops T (s.put ops[i].dst (ev s x)) := by
   show kC ops T _ = _
   rw [hio]; simp only [hx]
  have hy : Yields P ops ops[i] (a.eval x) a := .inl ⟨by unfold Region.wanted; rw [hg], fun w => by unfold execOp; rw [hx]; rfl⟩
  have hlen : fuel + (i :: T).length = (fuel + T.length) + 1 := by simp; omega
  rw [hlen]
  refine wpAny_first hio (fun j o cs b ho e => ?_) (fun c a w hq => by cases hq.1) _ _ _ _ (fun j oj hj hji hun hno => ?_) ?_ hy ?_
  ·have := List.all_eq_true.1 hsel o (by have := Array.mem_of_getElem? ho; simpa using this)
   rw [e] at this; cases this
  ·rw [List.all_eq_true] at hfr
   have h1 := hfr j (List.mem_range.2 (Array.getElem?_eq_some_iff.1 hj).1)
   rw [hj] at h1
   simp only [Bool.or_eq_true] at h1
   rcases h1 with h1 | h1 | h1
   ·exact absurd (Nat.eq_of_beq_eq_true h1) hji
   ·obtain ⟨e, he, hb⟩ := List.any_eq_true.1 h1
    rw [Bool.and_eq_true] at hb
    exact absurd (Nat.eq_of_beq_eq_true hb.2) (hno e (by simpa using he) hb.1)
   ·have hap := pv h1
    unfold Oper.apart
    have hla : ∀ o : Oper, o.looksAt ops = looks ops.toList o := fun o => by
     unfold Oper.looksAt looks
     congr 1
     cases o.guard with
     | none => rfl
     | some g => obtain ⟨g, t⟩ := g; simp
    rw [hla, hla, Bool.and_eq_true]
    refine ⟨?_, ?_⟩
    ·cases hd : ops[i].dst with
     | none => rfl
     | some d =>
      have g1 := hap.xl d hd
      have g2 := hap.ne d hd
      simp [g1, g2]
    ·cases hd : oj.dst with
     | none => rfl
     | some d =>
      have g1 := hap.yl d hd
      simp [g1]
  ·unfold Region.ready
   rw [List.mem_filter]
   refine ⟨List.mem_range.2 hlt, ?_⟩
   rw [hl i (by simp), hio]
   simp only [Bool.not_false, Option.map_some, Option.getD_some, Bool.true_and]
   rw [<- Array.all_toList, List.all_eq_true]
   intro e he
   simp only [Bool.or_eq_true, Bool.not_eq_true']
   left
   cases hb : Region.binds .any e with
   | false => rfl
   | true =>
    have h1 := (hpo.2 i _ hio).2 e he hb
    have hi' : i < M.length := by rw [hpo.1]; exact hlt
    rw [List.getD_eq_getElem?_getD, List.getElem?_eq_getElem hi'] at hm0 h1
    simp only [Option.getD_some] at hm0 h1
    rw [hm0] at h1; simp at h1
  ·refine oV hpo T fuel _ (s := s.put ops[i].dst (ev s x)) hnd'.2 (fun j hj => hT j (by simp [hj])) (fun j hj => ?_) (by simpa using hs) ⟨β, Rt, Ra, h.put _ (bW h x)⟩ (fun a' h' => ?_)
   ·have := hl j (by simp [hj])
    have hne : i ≠ j := fun e => hnd'.1 (e ▸ hj)
    rw [Array.getD_eq_getD_getElem?, Array.getElem?_setIfInBounds, if_neg hne, <- Array.getD_eq_getD_getElem?]; exact this
   ·exact hn a' (by rw [hst]; exact h')
theorem oH (hP : Ok P C.ty) (hE : EnvOk C tab E) (hD : ∀ g, bL P C.ty tab g (C.call g)) {id : Nat} {dr : Bool} (h : cT E s a w) (hk : xY C ops dr s κ = some r) {Qn : Act -> World -> Prop} (hQ : ∀ s' a' w', κ s' = some r -> cT E s' a' w' -> Qn a' w') : (Code.region id ops dr).wp P (fun e a w => e = .normal /\ Qn a w) a w := by
 have hQ' : ∀ s' a' w', κ s' = some r -> cT E s' a' w' -> (fun (e : Exit) a w => e = .normal /\ Qn a w) .normal a' w' := fun s' a' w' h1 h2 => ⟨rfl, hQ s' a' w' h1 h2⟩
 cases dr with
 | false =>
  refine wp_region ?_
  rw [List.range_eq_range', show ops.size = ops.toList.length by simp]
  exact ox hP hE hD hQ' ops.toList 0 (by simp) h hk
 | true =>
  refine wp_region_any hP.mixed ?_
  unfold xY at hk
  simp only [cond_true] at hk
  have hx : cT E s a { w with drawn := w.drawn + 1 } := by
   obtain ⟨β, Rt, Ra, h⟩ := h
   exact ⟨β, Rt, Ra, h.nZ ⟨rfl, rfl, rfl, Nat.le_refl _, fun _ _ _ => rfl⟩⟩
  have main : ∀ (T : List Nat) (s : St), T.Nodup -> (∀ i ∈ T, qg ops = true /\ i < ops.size /\ (eE ops.toList).getD i 1 = 0 /\ sD ops i = true) -> cT E s a { w with drawn := w.drawn + 1 } -> C1 C ops (eE ops.toList) T (kC ops T s) κ = some r -> wpAny P .any ops (fun e a w => e = .normal /\ Qn a w) ops.size (Array.replicate ops.size false) a { w with drawn := w.drawn + 1 } := by
   intro T s hnd hT h hk
   have any : ∀ (C' : Cfg R) (lt : Bool) (ord : List Nat), (lt = true -> yq C') -> (∀ g, bL P C'.ty tab g (C'.call g)) -> Ok P C'.ty -> EnvOk C' tab E -> jH ops (eE ops.toList) -> pq C' lt ops (eE ops.toList) [] ord -> (L : St -> St) -> (∀ s a w, cT E s a w -> cT E (L s) a w) -> iE C' ops (eE ops.toList) T (lx T ord) (L (kC ops T s)) κ = some r -> wpAny P .any ops (fun e a w => e = .normal /\ Qn a w) ops.size (Array.replicate ops.size false) a { w with drawn := w.drawn + 1 } := by
    intro C' lt ord hLt hD' hP' hE' hpo hord L hL hk
    have hord' := Br (T := T) hord
    have hsz : ops.size = (lx T ord).length + T.length := by
     have hp : (lx T ord ++ T).Perm (List.range ops.size) := by
      refine (List.perm_ext_iff_of_nodup ?_ List.nodup_range).2 fun i => ?_
      ·rw [List.nodup_append]
       refine ⟨hord'.2.imp fun h => h.1, hnd, fun x hx y hy e => ?_⟩
       subst e
       exact ((hord'.1 x).1 hx).2 hy
      ·rw [List.mem_append, hord'.1, List.mem_range]
       constructor
       ·rintro (h | h)
        ·exact h.1
        ·exact (hT i h).2.1
       ·intro h
        by_cases ht : i ∈ T
        ·exact .inr ht
        ·exact .inl ⟨h, ht⟩
     have := hp.length_eq
     simpa using this.symm
    have hget : ∀ (T : List Nat) (l : Array Bool) (j : Nat), (T.foldl (fun l i => l.setIfInBounds i true) l).size = l.size /\ ∀ b, (T.foldl (fun l i => l.setIfInBounds i true) l).getD j b = if j ∈ T /\ j < l.size then true else l.getD j b := by
     intro T
     induction T with
     | nil => intro l j; simp
     | cons t T ih =>
      intro l j
      obtain ⟨h1, h2⟩ := ih (l.setIfInBounds t true) j
      refine ⟨by rw [List.foldl_cons, h1]; simp, fun b => ?_⟩
      rw [List.foldl_cons, h2]
      simp only [Array.size_setIfInBounds, List.mem_cons]
      by_cases h3 : j < l.size
      ·by_cases h4 : j ∈ T
       ·simp [h3, h4]
       ·rw [Array.getD_eq_getD_getElem?, Array.getElem?_setIfInBounds]
        by_cases h5 : t = j
        ·subst h5; simp [h3]
        ·rw [if_neg h5, <- Array.getD_eq_getD_getElem?]
         have : ¬ j = t := fun e => h5 e.symm
         simp [h4, this]
      ·have : (l.setIfInBounds t true).getD j b = l.getD j b := by
        rw [Array.getD_eq_getD_getElem?, Array.getD_eq_getD_getElem?]
        simp [h3]
       simp [h3, this]
    rw [hsz]
    refine oV hpo T _ _ hnd hT (fun i hi => ?_) (by simp; exact hsz.symm) h fun a' h' => ?_
    ·have := (hT i hi).2.1
     rw [Array.getD_eq_getD_getElem?, Array.getElem?_replicate, if_pos (by omega)]; rfl
    ·obtain ⟨g1, _⟩ := hget T (Array.replicate ((lx T ord).length + T.length) false) 0
     have g2 := fun j => (hget T (Array.replicate ((lx T ord).length + T.length) false) j).2
     have hrest : dN (lx T ord) (T.foldl (fun l i => l.setIfInBounds i true) (Array.replicate ((lx T ord).length + T.length) false)) = lx T ord := by
      unfold dN
      refine List.filter_eq_self.2 fun i hi => ?_
      obtain ⟨h1, h2⟩ := (hord'.1 i).1 hi
      rw [g2, if_neg (fun h => h2 h.1), Array.getD_eq_getD_getElem?, Array.getElem?_replicate, if_pos (by omega)]; rfl
     refine Av hP' hE' hD' hLt hpo hord' hQ' _ _ (fun j hj => ?_) (by rw [g1]; simp; exact hsz.symm) (fun i hi hl j hj => ?_) (by rw [hrest]) (hL _ _ _ h') (by rw [hrest]; exact hk)
     ·rw [g2]
      split
      ·rfl
      ·rename_i hn
       have := (hT j hj).2.1
       exact absurd ⟨hj, by rw [Array.size_replicate]; omega⟩ hn
     ·rw [g2] at hl
      split at hl
      ·rename_i hi2
       exfalso
       have hm0 := (hT i hi2.1).2.2.1
       have hi' : i < (eE ops.toList).length := by rw [hpo.1]; exact hi
       rw [List.getD_eq_getElem?_getD, List.getElem?_eq_getElem hi'] at hm0 hj
       simp only [Option.getD_some] at hm0 hj
       rw [hm0] at hj; simp at hj
      ·rw [Array.getD_eq_getD_getElem?, Array.getElem?_replicate] at hl
       split at hl <;> cases hl
   unfold C1 at hk
   cases h0 : iU false ops.toList with
   | true =>
    rw [h0] at hk
    obtain ⟨g1, g2⟩ := qn (C := C) h0
    exact any C false _ (fun h => by cases h) hD hP hE g1 g2 (fun s => s) (fun _ _ _ h => h) hk
   | false =>
    rw [h0, cond_false] at hk
    cases h1 : iU true ops.toList with
    | true =>
     rw [h1, cond_true] at hk
     obtain ⟨g1, g2⟩ := qn (C := me C) h1
     refine any (me C) true _ (fun _ g xs κ hv => ?_) (fun g => ?_) hP ⟨hE.1, hE.2⟩ g1 g2 (fun s => s) (fun _ _ _ h => h) hk
     ·show (bif jX xs then none else C.call g xs κ) = none
      rw [hv]; rfl
     ·intro args κ r' hk'
      have hk' : (bif jX args then none else C.call g args κ) = some r' := hk'
      exact hD g args κ r' (fj hk').2
    | false =>
     rw [h1, cond_false] at hk
     generalize hs' : kC ops T s = s1 at hk
     by_cases hnx : s1.next = 0
     ·-- a state with no names laid by: it cannot be
      exfalso
      have hpn : ∀ (s : St) (d : Option Nat) (v : SV), (s.put d v).next = s.next := fun s d v => by cases d <;> rfl
      have hts : ∀ (T : List Nat) (s : St), (kC ops T s).next = s.next := by
       intro T
       induction T with
       | nil => intro s; rfl
       | cons t T ih =>
        intro s
        show (kC ops T _).next = _
        rw [ih]
        split
        ·split
         ·exact (hpn _ _ _)
         ·rfl
        ·rfl
      obtain ⟨β, Rt, Ra, h⟩ := h
      have := h.nx
      rw [<- hs', hts] at hnx
      omega
     ·have hb : ∀ C' : Cfg R, Nat.beq (nr C' s1.next).base 0 = false := fun C' => by
       show Nat.beq s1.next 0 = false
       cases hb : Nat.beq s1.next 0 with
       | false => rfl
       | true => exact absurd (Nat.eq_of_beq_eq_true hb) hnx
      have hlay : ∀ s a w, cT E s a w -> cT E (tg s) a w := by
       rintro s a w ⟨β, Rt, Ra, h⟩
       exact ⟨β, Rt, Ra, ⟨⟨h.objs, fun t o ho => Nat.lt_of_lt_of_le (h.lt t o ho) (Nat.le_add_right _ _), h.cL, h.apart, h.sub, h.rlt, h.fr, h.rt0, h.ra0, h.rt, Nat.le_trans h.nx (Nat.le_add_right _ _), h.pin⟩, h.len, h.defers, h.slots⟩⟩
      subst hs'
      cases h2 : kP false ops.toList with
      | true =>
       rw [h2, cond_true] at hk
       obtain ⟨g1, g2⟩ := qm (C := nr C (kC ops T s).next) (hb _) h2
       exact any (nr C (kC ops T s).next) false _ (fun h => by cases h) hD hP ⟨hE.1, hE.2⟩ g1 g2 tg hlay hk
      | false =>
       rw [h2, cond_false] at hk
       obtain ⟨hd, hk⟩ := dw hk
       obtain ⟨g1, g2⟩ := qm (C := nr (me C) (kC ops T s).next) (hb _) hd
       refine any (nr (me C) (kC ops T s).next) true _ (fun _ g xs κ hv => ?_) (fun g => ?_) hP ⟨hE.1, hE.2⟩ g1 g2 tg hlay hk
       ·show (bif jX xs then none else C.call g xs κ) = none
        rw [hv]; rfl
       ·intro args κ r' hk'
        have hk' : (bif jX args then none else C.call g args κ) = some r' := hk'
        exact hD g args κ r' (fj hk').2
  refine main _ s ?_ (fun i hi => vK hi) hx hk
  unfold ud
  cases qg ops with
  | true => exact List.Pairwise.filter _ List.nodup_range
  | false => exact List.nodup_nil
end
end Go.Proofs.Ab
namespace Go.Proofs.Ab
open Go
variable {R : Type}
section
variable {E : Env} {s : St} {a : Act} {w : World} {β : Nat -> Bl} {Rt Ra : Nat -> Prop} {C : Cfg R}
theorem kD (a : Act) (i : Nat) : a.put (some i) (a.tmps.getD i undef) = a := by
 have : a.tmps.setIfInBounds i (a.tmps.getD i undef) = a.tmps := by
  apply Array.ext
  ·simp
  ·intro j h1 h2
   rw [Array.getElem_setIfInBounds]
   split
   ·rename_i e; subst e; simp [Array.getD_eq_getD_getElem?, h2]
   ·rfl
 show { a with tmps := a.tmps.setIfInBounds i (a.tmps.getD i undef) } = a
 rw [this]
theorem qT {α : Type} {S : SV -> α -> Prop} : ∀ {l : List SV} {m : List α} (j : Nat) {x : SV}, PW S l m -> (∀ v, S (fc l j) v -> S x v) -> PW S (gv l j x) m
 | [], [], _, _, h, _ => h
 | _ :: _, _ :: _, 0, _, h, hx => ⟨hx _ h.1, h.2⟩
 | _ :: _, _ :: _, j + 1, _, h, hx => ⟨h.1, qT j h.2 hx⟩
 | [], _ :: _, _, _, h, _ => h.elim
 | _ :: _, [], _, _, h, _ => h.elim
theorem Rel.vk (h : Rel E s a w β Rt Ra) {e : Nat} (hT : ∃ T, E.T e = some T) : ∃ β', Rel E (s.new (.row e [] true)) a w β' Rt Ra /\ (bu E s w β Rt Ra).Le (bu E (s.new (.row e [] true)) w β' Rt Ra) /\ (β' s.next).v = .slice none 0 0 /\ (β' s.next).arr = false := by
 obtain ⟨T, hT⟩ := hT
 have hown : eX w false e T.sz (.slice none 0 0) ([] : List AV).length [] := ⟨by simp, .inl ⟨rfl, rfl⟩⟩
 obtain ⟨h2, le⟩ := h.toRelO.add (.row e [] true) ⟨.slice none 0 0, 0, T.sz, false⟩ (fun b hb => by simp [bV, Value.ownBlock] at hb) (fun b hb => by simp [bV, Value.ownBlock] at hb)
  (fun le => ⟨T, [], hT, rfl, hown, fun i j k hi => by simp at hi⟩)
 refine ⟨_, ⟨h2, h.len, h.defers, ff le h.slots⟩, le, ?_⟩
 unfold eQ; rw [if_pos rfl]; exact ⟨rfl, rfl⟩
theorem tA {i j m : Nat} (hE : E.T = C.ty) (hm : vj C (j, m) = true) (h : cT E s a w) : cT E (zO i j m s) a w := by
 unfold zO
 split
 ·exact h
 ·split
  ·split
   ·exact cT.fI _ h
   ·exact h
  ·exact cT.fI _ h
  ·exact cT.fI _ h
 ·rename_i e
  have hT : ∃ T, E.T e = some T := by
   rw [hE]; exact Option.isSome_iff_exists.1 hm
  obtain ⟨β, Rt, Ra, h⟩ := h
  split
  ·rename_i t off hi
   split
   ·rename_i ty ls ho
    split
    ·rename_i hn
     obtain ⟨β', h', le, hv, harr⟩ := h.vk hT
     have ho' : (s.new (.row e [] true)).obj t = some (.var ty ls) := by rw [fg, if_neg (Nat.ne_of_lt (h.lt t _ ho))]; exact ho
     refine ⟨β', Rt, Ra, h'.gU (w' := w) ho' _ (Fr.refl _ w) (fun b hb => hb) fun le2 => ?_⟩
     obtain ⟨cs, q, g1, g2⟩ := h'.objs t _ ho'
     refine ⟨cs, q, g1, qT j (g2.imp fun _ _ hs => hs.le le2) fun v hs => ?_⟩
     rw [hn] at hs
     have hv2 : v = .slice none 0 0 := hs
     refine ⟨le2.D _ ⟨_, by rw [fg, if_pos rfl]⟩, ?_, by rw [hv2]; rfl, harr⟩
     rw [hv2]; exact hv.symm
    ·exact ⟨β, Rt, Ra, h⟩
   ·exact ⟨β, Rt, Ra, h⟩
  ·rename_i hi
   obtain ⟨β', h', le, hv, harr⟩ := h.vk hT
   have hs := h.slots i
   rw [hi] at hs
   have hv2 : a.tmps.getD i undef = .slice none 0 0 := hs
   have := h'.put (some i) (x := .own s.next) (v := a.tmps.getD i undef) (dh (dA ⟨⟨_, by rw [fg, if_pos rfl]⟩, by rw [hv2]; exact hv.symm, by rw [hv2]; rfl, harr⟩))
   rw [kD] at this
   exact ⟨_, _, _, this⟩
  ·rename_i l hi
   split
   ·rename_i hn
    obtain ⟨β', h', le, hv, harr⟩ := h.vk hT
    have hs := (h.slots i).le le
    rw [hi] at hs
    obtain ⟨cs, e1, e2⟩ := iP hs
    have := h'.put (some i) (x := .agg (gv l j (.own s.next))) (v := a.tmps.getD i undef) (dh ⟨cs, e1, qT j e2 fun v hs => by
     rw [hn] at hs
     have hv2 : v = .slice none 0 0 := hs
     exact ⟨⟨_, by rw [fg, if_pos rfl]⟩, by rw [hv2]; exact hv.symm, by rw [hv2]; rfl, harr⟩⟩)
    rw [kD] at this
    exact ⟨_, _, _, this⟩
   ·exact ⟨β, Rt, Ra, h⟩
  ·exact ⟨β, Rt, Ra, h⟩
theorem mM {i : Nat} (hE : E.T = C.ty) : ∀ (l : List (Nat × Nat)) {s : St}, l.all (vj C) = true -> cT E s a w -> cT E (zP i l s) a w
 | [], _, _, h => h
 | (j, m) :: r, s, hm, h => by
  simp only [List.all_cons, Bool.and_eq_true] at hm
  exact mM hE r hm.2 (tA hE hm.1 h)
theorem mN (hE : E.T = C.ty) : ∀ (l : List (Nat × List (Nat × Nat))) {s : St}, ss C l = true -> cT E s a w -> cT E (wF l s) a w
 | [], _, _, h => h
 | (i, l) :: r, s, hm, h => by
  simp only [ss, List.all_cons, Bool.and_eq_true] at hm
  exact mN hE r hm.2 (mM hE l hm.1 h)
theorem hG : ∀ (n i : Nat) (l : List (Nat × SV)) (k : Nat), fc (e8 n i l) k = .no ∨ ∃ v, (i + k, v) ∈ l /\ fc (e8 n i l) k = v
 | 0, _, _, _ => .inl (by simp [e8, fc])
 | n + 1, i, [], k => by
  cases k with
  | zero => exact .inl rfl
  | succ k =>
   rcases hG n (i + 1) [] k with h | ⟨v, h, _⟩
   ·exact .inl h
   ·cases h
 | n + 1, i, (j, v) :: r, k => by
  simp only [e8]
  cases hb : Nat.beq i j with
  | true =>
   have := Nat.eq_of_beq_eq_true hb; subst this
   simp only [cond_true]
   cases k with
   | zero => exact .inr ⟨v, by simp, rfl⟩
   | succ k =>
    rcases hG n (i + 1) r k with h | ⟨u, h, e⟩
    ·exact .inl h
    ·exact .inr ⟨u, by rw [show i + (k + 1) = i + 1 + k by omega]; simp [h], e⟩
  | false =>
   simp only [cond_false]
   cases k with
   | zero => exact .inl rfl
   | succ k =>
    rcases hG n (i + 1) ((j, v) :: r) k with h | ⟨u, h, e⟩
    ·exact .inl h
    ·exact .inr ⟨u, by rw [show i + (k + 1) = i + 1 + k by omega]; exact h, e⟩
theorem jy : ∀ (n i : Nat) (l : List (Nat × SV)), (e8 n i l).length = n
 | 0, _, _ => rfl
 | n + 1, i, [] => by simp [e8, jy n]
 | n + 1, i, (j, v) :: r => by
  simp only [e8]
  cases Nat.beq i j <;> simp [jy n]
theorem pB (n : Nat) : Nat.beq n n = true := Nat.beq_refl n
theorem Cf {m n : Nat} (h : m ≠ n) : Nat.beq m n = false := by
 cases hb : Nat.beq m n with
 | false => rfl
 | true => exact absurd (Nat.eq_of_beq_eq_true hb) h
theorem lV : ∀ (ρ : List (Nat × Nat)) {t u : Nat}, gZ t ρ = some u -> (t, u) ∈ ρ
 | [], _, _, h => by cases h
 | (a, b) :: r, t, u, h => by
  simp only [gZ] at h
  cases hb : Nat.beq a t with
  | true =>
   have := Nat.eq_of_beq_eq_true hb; subst this
   rw [hb] at h; cases h; simp
  | false => rw [hb] at h; simp only [cond_false] at h; exact List.mem_cons_of_mem _ (lV r h)
theorem xR {ρ : List (Nat × Nat)} (h : (ρ.map (·.1)).Nodup) {t u u' : Nat} (h1 : (t, u) ∈ ρ) (h2 : (t, u') ∈ ρ) : u = u' := by
 induction ρ with
 | nil => cases h1
 | cons p r ih =>
  simp only [List.map_cons, List.nodup_cons] at h
  rcases List.mem_cons.1 h1 with rfl | h1' <;> rcases List.mem_cons.1 h2 with e | h2'
  ·cases e; rfl
  ·exact absurd (List.mem_map.2 ⟨_, h2', rfl⟩) h.1
  ·subst e; exact absurd (List.mem_map.2 ⟨_, h1', rfl⟩) h.1
  ·exact ih h.2 h1' h2'
theorem xS {ρ : List (Nat × Nat)} (h : (ρ.map (·.2)).Nodup) {t t' u : Nat} (h1 : (t, u) ∈ ρ) (h2 : (t', u) ∈ ρ) : t = t' := by
 induction ρ with
 | nil => cases h1
 | cons p r ih =>
  simp only [List.map_cons, List.nodup_cons] at h
  rcases List.mem_cons.1 h1 with rfl | h1' <;> rcases List.mem_cons.1 h2 with e | h2'
  ·cases e; rfl
  ·exact absurd (List.mem_map.2 ⟨_, h2', rfl⟩) h.1
  ·subst e; exact absurd (List.mem_map.2 ⟨_, h1', rfl⟩) h.1
  ·exact ih h.2 h1' h2'
theorem oJ (objs : List (Nat × Obj)) (ρ0 : List (Nat × Nat)) : ∀ (ρ : List (Nat × Nat)) {u : Nat} {o : Obj}, lookup u (oI objs ρ0 ρ) = some o -> ∃ t o', (t, u) ∈ ρ /\ lookup t objs = some o' /\ o = o'.map (wQ ρ0)
 | [], _, _, h => by cases h
 | (x, y) :: r, u, o, h => by
  simp only [oI] at h
  split at h
  ·rename_i o' ho'
   simp only [lookup] at h
   cases hb : Nat.beq u y with
   | true =>
    have := Nat.eq_of_beq_eq_true hb; subst this
    rw [hb] at h; cases h; exact ⟨x, o', by simp, ho', rfl⟩
   | false =>
    rw [hb] at h; simp only [cond_false] at h
    obtain ⟨t, o', h1, h2⟩ := oJ objs ρ0 r h
    exact ⟨t, o', by simp [h1], h2⟩
  ·obtain ⟨t, o', h1, h2⟩ := oJ objs ρ0 r h
   exact ⟨t, o', by simp [h1], h2⟩
theorem tV (objs : List (Nat × Obj)) (ρ0 : List (Nat × Nat)) : ∀ (ρ : List (Nat × Nat)) {t u : Nat} {o : Obj}, (t, u) ∈ ρ -> lookup t objs = some o -> ∃ o', lookup u (oI objs ρ0 ρ) = some o'
 | [], _, _, _, h, _ => by cases h
 | (x, y) :: r, t, u, o, h, ho => by
  simp only [oI]
  rcases List.mem_cons.1 h with e | h'
  ·cases e
   rw [ho]; simp only [lookup, pB, cond_true]; exact ⟨_, rfl⟩
  ·obtain ⟨o', h2⟩ := tV objs ρ0 r h' ho
   split
   ·simp only [lookup]
    cases Nat.beq u y with
    | true => exact ⟨_, rfl⟩
    | false => exact ⟨o', h2⟩
   ·exact ⟨o', h2⟩
theorem pz (n : Nat) : ∀ {ρ : List (Nat × Nat)}, below n ρ = true -> ∀ {t u : Nat}, (t, u) ∈ ρ -> u < n
 | [], _, _, _, h => by cases h
 | (x, y) :: r, hb, t, u, h => by
  simp only [below, Bool.and_eq_true, decide_eq_true_eq] at hb
  rcases List.mem_cons.1 h with e | h'
  ·cases e; exact hb.1
  ·exact pz n hb.2 h'
theorem oC : ∀ {ρ : List (Nat × Nat)}, pinned ρ = true -> ∀ {t u : Nat}, (t, u) ∈ ρ -> 64 <= u ∨ t = u
 | [], _, _, _, h => by cases h
 | (x, y) :: r, hb, t, u, h => by
  simp only [pinned, Bool.and_eq_true, Bool.or_eq_true] at hb
  rcases List.mem_cons.1 h with e | h'
  ·cases e; exact hb.1.imp Nat.le_of_ble_eq_true Nat.eq_of_beq_eq_true
  ·exact oC hb.2 h'
def oX (ρ : List (Nat × Nat)) (u : Nat) : Nat := (gZ u (ρ.map fun p => (p.2, p.1))).getD 0
theorem pJ : ∀ {ρ : List (Nat × Nat)} {t u : Nat}, (t, u) ∈ ρ -> ∃ v, gZ t ρ = some v
 | [], _, _, h => by cases h
 | (x, y) :: r, t, u, h => by
  simp only [gZ]
  cases hb : Nat.beq x t with
  | true => exact ⟨y, rfl⟩
  | false =>
   rcases List.mem_cons.1 h with e | h'
   ·cases e; rw [pB] at hb; cases hb
   ·exact pJ h'
theorem qO {ρ : List (Nat × Nat)} (h : (ρ.map (·.2)).Nodup) {t u : Nat} (hm : (t, u) ∈ ρ) : oX ρ u = t := by
 have hm' : (u, t) ∈ ρ.map fun p => (p.2, p.1) := List.mem_map.2 ⟨_, hm, rfl⟩
 obtain ⟨v, hv⟩ := pJ hm'
 unfold oX; rw [hv]
 obtain ⟨p, hp, e⟩ := List.mem_map.1 (lV _ hv)
 obtain ⟨x, y⟩ := p
 simp only [Prod.mk.injEq] at e
 obtain ⟨rfl, rfl⟩ := e
 exact xS h hp hm
theorem tW (ρ : List (Nat × Nat)) (x : SV) (h : wQ ρ x = .nos) : x = .nos := by
 cases x <;> simp only [wQ] at h <;> first | rfl | (cases h; done) | (split at h <;> cases h)
theorem jo {h : List (Nat × List (Nat × Nat))} (hE : E.T = C.ty) (hm : ss C h = true) {s' : St} (hr : cT E s a w) (hc : su h s = some s') : cT E s' a w := by
 obtain ⟨β, Rt, Ra, hr⟩ := mN hE h hm hr
 unfold su at hc
 simp only at hc
 generalize wF h s = s1 at hr hc
 generalize rJ s1 h (pins s1.objs) = ρ at hc
 obtain ⟨hcond, e⟩ := bJ hc
 simp only [Bool.and_eq_true] at hcond
 obtain ⟨⟨d1, d2⟩, hbel, hpin⟩ := hcond
 replace d1 := eT d1
 replace d2 := eT d2
 cases e
 let β' : Nat -> Bl := fun u => β (oX ρ u)
 have hobj : ∀ u o, (⟨dZ s1.slots.length (h.map (n8 s1 ρ)), oI s1.objs ρ ρ, dW⟩ : St).obj u = some o -> ∃ t o', (t, u) ∈ ρ /\ s1.obj t = some o' /\ o = o'.map (wQ ρ) /\ β' u = β t := by
  intro u o ho
  obtain ⟨t, o', h1, h2, h3⟩ := oJ s1.objs ρ ρ ho
  exact ⟨t, o', h1, h2, h3, by show β (oX ρ u) = β t; rw [qO d2 h1]⟩
 have htok : ∀ {t u}, gZ t ρ = some u -> (∃ o, s1.obj t = some o) -> (∃ o, (⟨dZ s1.slots.length (h.map (n8 s1 ρ)), oI s1.objs ρ ρ, dW⟩ : St).obj u = some o) /\ β' u = β t := by
  intro t u hf ⟨o, ho⟩
  have hm := lV ρ hf
  exact ⟨tV s1.objs ρ ρ hm ho, by show β (oX ρ u) = β t; rw [qO d2 hm]⟩
 have hf : ∀ x v, SL (bu E s1 w β Rt Ra) x v -> SL (bu E ⟨dZ s1.slots.length (h.map (n8 s1 ρ)), oI s1.objs ρ ρ, dW⟩ w β' Rt Ra) (wQ ρ x) v := by
  intro x v hx
  cases x <;> try exact hx
  case own t =>
   simp only [wQ]
   split
   ·rename_i u hu
    obtain ⟨g1, g2⟩ := htok hu hx.1
    exact ⟨g1, by show v = (β' u).v /\ _ /\ (β' u).arr = false; rw [g2]; exact hx.2⟩
   ·trivial
  case vw t lo hi =>
   simp only [wQ]
   split
   ·rename_i u hu
    obtain ⟨g1, g2⟩ := htok hu hx.1
    refine ⟨g1, ?_⟩
    have hx2 := hx.2
    simp only [bu] at hx2 ⊢
    rw [g2]; exact hx2
   ·trivial
  case ptr t off =>
   simp only [wQ]
   split
   ·rename_i u hu
    obtain ⟨g1, g2⟩ := htok hu hx.1
    exact ⟨g1, by show v = .pointer (some ⟨(β' u).b, off, none⟩); rw [g2]; exact hx.2⟩
   ·trivial
  case mp t =>
   simp only [wQ]
   split
   ·rename_i u hu
    obtain ⟨g1, g2⟩ := htok hu hx.1
    exact ⟨g1, by show v = .map (some (β' u).b); rw [g2]; exact hx.2⟩
   ·trivial
  case cls g ts =>
   simp only [wQ]
   split
   ·rename_i us hus
    have hall : ∀ (ts us : List Nat), v8 ρ ts = some us -> (∀ t ∈ ts, ∃ o, s1.obj t = some o) -> (∀ u ∈ us, ∃ o, (⟨dZ s1.slots.length (h.map (n8 s1 ρ)), oI s1.objs ρ ρ, dW⟩ : St).obj u = some o) /\ (us.map fun u => Value.pointer (some ⟨(β' u).b, 0, none⟩)) = ts.map fun t => .pointer (some ⟨(β t).b, 0, none⟩) := by
     intro ts
     induction ts with
     | nil => intro us hu _; cases hu; exact ⟨fun u hu => (by cases hu), rfl⟩
     | cons t ts ih =>
      intro us hu hd
      unfold v8 at hu
      split at hu
      ·rename_i u l hu1 hl
       cases hu
       obtain ⟨g1, g2⟩ := htok hu1 (hd t (by simp))
       obtain ⟨g3, g4⟩ := ih l hl (fun t ht => hd t (by simp [ht]))
       refine ⟨fun z hz => ?_, ?_⟩
       ·rcases List.mem_cons.1 hz with rfl | hz
        ·exact g1
        ·exact g3 z hz
       ·rw [List.map_cons, List.map_cons, g2, g4]
      ·cases hu
    obtain ⟨g1, g2⟩ := hall ts us hus hx.1
    exact ⟨g1, hx.2.trans (by rw [show (ts.map fun t => Value.pointer (some ⟨((bu E s1 w β Rt Ra).β t).b, 0, none⟩)) = us.map fun u => Value.pointer (some ⟨(β' u).b, 0, none⟩) from g2.symm]; rfl)⟩
   ·trivial
  case clo g t =>
   simp only [wQ]
   split
   ·rename_i u hu
    obtain ⟨g1, g2⟩ := htok hu hx.1
    exact ⟨g1, by show v = .func (.func g) #[] #[.pointer (some ⟨(β' u).b, 0, none⟩)]; rw [g2]; exact hx.2⟩
   ·trivial
  case ap t n =>
   simp only [wQ]
   split
   ·rename_i u hu
    obtain ⟨g1, g2⟩ := htok hu hx.1
    refine ⟨g1, ?_⟩
    have hx2 := hx.2
    simp only [bu] at hx2 ⊢
    rw [g2]; exact hx2
   ·trivial
  case el t i off => trivial
  case sdp t => trivial
  case rl e l st i off => trivial
 refine ⟨β', Rt, Ra, ⟨⟨fun u o ho => ?_, fun u o ho => ?_, fun u o ho => ?_, fun u o u' o' ho ho' hn => ?_, hr.sub, hr.rlt, hr.fr, hr.rt0, hr.ra0, hr.rt, (show 64 <= 100000 by omega), fun u o ho hlt => ?_⟩, ?_, hr.defers, fun i => ?_⟩⟩
 ·obtain ⟨t, o', h1, h2, rfl, e⟩ := hobj u o ho
  rw [e]
  exact (hr.objs t o' h2).map hf rfl (tW ρ) rfl (fun _ _ h => h) (fun _ _ _ => rfl) (fun _ _ => rfl)
 ·obtain ⟨t, o', h1, _⟩ := hobj u o ho
  exact pz dW hbel h1
 ·obtain ⟨t, o', h1, h2, rfl, e⟩ := hobj u o ho
  rw [e, fY]; exact hr.cL t o' h2
 ·obtain ⟨t, o1, h1, h2, rfl, e⟩ := hobj u o ho
  obtain ⟨t', o1', h1', h2', rfl, e'⟩ := hobj u' o' ho'
  rw [e, e', fY, fY]
  exact hr.apart t o1 t' o1' h2 h2' fun e => by subst e; exact hn (xR d1 h1 h1')
 ·obtain ⟨t, o', h1, h2, rfl, e⟩ := hobj u o ho
  rcases oC hpin h1 with h3 | h3
  ·omega
  ·subst h3; rw [e]; exact hr.pin t o' h2 hlt
 ·show (e8 _ _ _).length = _
  rw [jy]; exact hr.len
 ·show S2 _ (fc (e8 _ _ _) i) _
  rcases hG s1.slots.length 0 (h.map (n8 s1 ρ)) i with e | ⟨v, hv, e⟩
  ·rw [e]; trivial
  ·rw [e]
   obtain ⟨p, hp, e2⟩ := List.mem_map.1 hv
   unfold n8 at e2
   simp only [Prod.mk.injEq, Nat.zero_add] at e2
   obtain ⟨rfl, rfl⟩ := e2
   exact yz hf (hr.slots _)
end
end Go.Proofs.Ab
namespace Go.Proofs.Ab
open Go
variable {R : Type}
mutual
theorem Cr : ∀ (a b : AV), Dq a b = true -> a = b
 | .no, b, h => by cases b <;> first | rfl | cases h
 | .int x, b, h => by
  cases b <;> first | (cases h; done) | skip
  have h : decide (x = _) = true := h
  rw [of_decide_eq_true h]
 | .bool x, b, h => by
  cases b <;> first | (cases h; done) | skip
  have h : (x == _) = true := h
  rw [eq_of_beq h]
 | .str x, b, h => by
  cases b <;> first | (cases h; done) | skip
  have h : decide (x = _) = true := h
  rw [of_decide_eq_true h]
 | .sl x, b, h => by
  cases b <;> first | (cases h; done) | skip
  rw [gX x _ h]
 | .agg x, b, h => by
  cases b <;> first | (cases h; done) | skip
  rw [gX x _ h]
theorem gX : ∀ (a b : List AV), iW a b = true -> a = b
 | [], b, h => by cases b <;> first | rfl | cases h
 | x :: l, b, h => by
  cases b with
  | nil => cases h
  | cons y m =>
   have h : (Dq x y && iW l m) = true := h
   rw [Bool.and_eq_true] at h
   rw [Cr x y h.1, gX l m h.2]
end
theorem nb {m n : Nat} (h : Nat.beq m n = true) : m = n := Nat.eq_of_beq_eq_true h
mutual
theorem Ct : ∀ (a b : SV), Ds a b = true -> a = b
 | .agg x, b, h => by
  cases b <;> first | (cases h; done) | skip
  rw [jM x _ h]
 | .tup x, b, h => by
  cases b <;> first | (cases h; done) | skip
  rw [jM x _ h]
 | .vp t x, b, h => by
  cases b <;> first | (cases h; done) | skip
  have h : (Nat.beq t _ && kh x _) = true := h
  rw [Bool.and_eq_true] at h
  rw [nb h.1, jM x _ h.2]
 | .no, b, h => by cases b <;> first | rfl | cases h
 | .undef, b, h => by cases b <;> first | rfl | cases h
 | .nil, b, h => by cases b <;> first | rfl | cases h
 | .nos, b, h => by cases b <;> first | rfl | cases h
 | .nilp, b, h => by cases b <;> first | rfl | cases h
 | .nilfn, b, h => by cases b <;> first | rfl | cases h
 | .nili, b, h => by cases b <;> first | rfl | cases h
 | .int k n, b, h => by
  cases b <;> first | (cases h; done) | skip
  have h : (decide (k = _) && decide (n = _)) = true := h
  rw [Bool.and_eq_true] at h
  rw [of_decide_eq_true h.1, of_decide_eq_true h.2]
 | .bool x, b, h => by
  cases b <;> first | (cases h; done) | skip
  have h : (x == _) = true := h
  rw [eq_of_beq h]
 | .str x, b, h => by
  cases b <;> first | (cases h; done) | skip
  have h : decide (x = _) = true := h
  rw [of_decide_eq_true h]
 | .ro e l st, b, h => by
  cases b <;> first | (cases h; done) | skip
  have h : (Nat.beq e _ && (iW l _ && (st == _))) = true := h
  simp only [Bool.and_eq_true] at h
  rw [nb h.1, gX _ _ h.2.1, eq_of_beq h.2.2]
 | .fr e l st, b, h => by
  cases b <;> first | (cases h; done) | skip
  have h : (Nat.beq e _ && (iW l _ && (st == _))) = true := h
  simp only [Bool.and_eq_true] at h
  rw [nb h.1, gX _ _ h.2.1, eq_of_beq h.2.2]
 | .own t, b, h => by
  cases b <;> first | (cases h; done) | skip
  rw [nb h]
 | .vw t x y, b, h => by
  cases b <;> first | (cases h; done) | skip
  have h : (Nat.beq t _ && (decide (x = _) && decide (y = _))) = true := h
  simp only [Bool.and_eq_true] at h
  rw [nb h.1, of_decide_eq_true h.2.1, of_decide_eq_true h.2.2]
 | .ptr t x, b, h => by
  cases b <;> first | (cases h; done) | skip
  have h : (Nat.beq t _ && Nat.beq x _) = true := h
  simp only [Bool.and_eq_true] at h
  rw [nb h.1, nb h.2]
 | .el _ _ _, b, h => by cases b <;> cases h
 | .rl _ _ _ _ _, b, h => by cases b <;> cases h
 | .sdp _, b, h => by cases b <;> cases h
 | .ra _ _ _ _, b, h => by cases b <;> cases h
 | .cls _ _, b, h => by cases b <;> cases h
 | .ap t x, b, h => by
  cases b <;> first | (cases h; done) | skip
  have h : (Nat.beq t _ && Nat.beq x _) = true := h
  simp only [Bool.and_eq_true] at h
  rw [nb h.1, nb h.2]
 | .ar e n l, b, h => by
  cases b <;> first | (cases h; done) | skip
  have h : (Nat.beq e _ && (Nat.beq n _ && iW l _)) = true := h
  simp only [Bool.and_eq_true] at h
  rw [nb h.1, nb h.2.1, gX _ _ h.2.2]
 | .fn f, b, h => by
  cases b <;> first | (cases h; done) | skip
  rw [nb h]
 | .clo f t, b, h => by
  cases b <;> first | (cases h; done) | skip
  have h : (Nat.beq f _ && Nat.beq t _) = true := h
  simp only [Bool.and_eq_true] at h
  rw [nb h.1, nb h.2]
 | .mp t, b, h => by
  cases b <;> first | (cases h; done) | skip
  rw [nb h]
theorem jM : ∀ (a b : List SV), kh a b = true -> a = b
 | [], b, h => by cases b <;> first | rfl | cases h
 | x :: l, b, h => by
  cases b with
  | nil => cases h
  | cons y m =>
   have h : (Ds x y && kh l m) = true := h
   rw [Bool.and_eq_true] at h
   rw [Ct x y h.1, jM l m h.2]
end
theorem Cs (a b : Obj) (h : Dr a b = true) : a = b := by
 cases a <;> cases b <;> first | (cases h; done) | skip
 ·have h : (Nat.beq _ _ && (iW _ _ && (_ == _))) = true := h
  simp only [Bool.and_eq_true] at h
  rw [nb h.1, gX _ _ h.2.1, eq_of_beq h.2.2]
 ·have h : (Nat.beq _ _ && kh _ _) = true := h
  simp only [Bool.and_eq_true] at h
  rw [nb h.1, jM _ _ h.2]
 ·have h : (decide (_ = _) && Nat.beq _ _) = true := h
  simp only [Bool.and_eq_true] at h
  rw [of_decide_eq_true h.1, nb h.2]
 ·have h : (decide (_ = _) && (decide (_ = _) && iW _ _)) = true := h
  simp only [Bool.and_eq_true] at h
  rw [of_decide_eq_true h.1, of_decide_eq_true h.2.1, gX _ _ h.2.2]
 ·rfl
theorem vY : ∀ (a b : List (Nat × Obj)), sA a b = true -> a = b
 | [], [], _ => rfl
 | (a, x) :: l, (b, y) :: m, h => by
  have h : (Nat.beq a b && (Dr x y && sA l m)) = true := h
  simp only [Bool.and_eq_true] at h
  rw [nb h.1, Cs _ _ h.2.1, vY _ _ h.2.2]
 | [], _ :: _, h => by cases h
 | _ :: _, [], h => by cases h
theorem A5 {s t : St} (h : zc s t = true) : s = t := by
 obtain ⟨a, b, c⟩ := s
 obtain ⟨d, e, f⟩ := t
 have h : (kh a d && (sA b e && Nat.beq c f)) = true := h
 simp only [Bool.and_eq_true] at h
 rw [jM _ _ h.1, vY _ _ h.2.1, nb h.2.2]
end Go.Proofs.Ab
namespace Go.Proofs.Ab
open Go
variable {R : Type}
def Fin (P : Program) (E : Env) (ret : St -> Option R) (r : R) (b : Frame) (cs : List Frame) (m : Machine) : Prop :=
 ∃ s' a' w' todo, ret s' = some r /\ cT E s' a' w' /\ Steps P m (lone { b.at a' todo with mode := .returning } cs w')
section
variable {P : Program} {E : Env} {s : St} {a : Act} {w : World} {r : R} {C : Cfg R} {tab : bO} {ret : St -> Option R} {J : List Item -> St -> Option R} {b : Frame} {cs : List Frame} {ops : Array Oper}
theorem Fin.head {m m' : Machine} (h : step P m = .next m') (h' : Fin P E ret r b cs m') : Fin P E ret r b cs m :=
 let ⟨s', a', w', todo, h1, h2, h3⟩ := h'; ⟨s', a', w', todo, h1, h2, .head h h3⟩
theorem Fin.steps {m m' : Machine} (h : Steps P m m') (h' : Fin P E ret r b cs m') : Fin P E ret r b cs m :=
 let ⟨s', a', w', todo, h1, h2, h3⟩ := h'; ⟨s', a', w', todo, h1, h2, h.trans h3⟩
theorem pW {c : Operand} {t : Bool} (h : ev s c = .bool t) : Bk s c t = s := by
 unfold Bk; split
 ·exact tJ h
 ·rfl
theorem kz (hP : Ok P C.ty) (hE : EnvOk C tab E) (hD : ∀ g, bL P C.ty tab g (C.call g)) {id : Nat} {ops : Array Oper} {d : Bool} {k : List Item} {κ : St -> Option R} (h : cT E s a w) (hk : xY C ops d s κ = some r)
  (hn : ∀ s' a' w', κ s' = some r -> cT E s' a' w' -> Fin P E ret r b cs (lone (b.at a' k) cs w')) : Fin P E ret r b cs (lone (b.at a (.code (.region id ops d) :: k)) cs w) := by
 have hwp := oH (id := id) (Qn := fun a' w' => ∃ s', κ s' = some r /\ cT E s' a' w') hP hE hD h hk fun s' a' w' h1 h2 => ⟨s', h1, h2⟩
 obtain ⟨e, a', w', ⟨rfl, s', h1, h2⟩, harr⟩ := hwp b k cs
 exact .steps harr (hn s' a' w' h1 h2)
theorem fK {i : Nat} (hi : i < ops.size) {l : List Nat} {κ : St -> Option R} : ml C ops (i :: l) s κ = cS C false ops (ops[i]'hi) s (fun s' => ml C ops l s' κ) := by
 unfold ml
 rw [List.filterMap_cons_some (Array.getElem?_eq_getElem hi)]; rfl
theorem C6 (hP : Ok P C.ty) (hE : EnvOk C tab E) (hD : ∀ g, bL P C.ty tab g (C.call g)) (hc : yM ops = true) (h : cT E s a w) {B : St -> St -> Option R} {id : Nat}
  (hk : ml C ops [0] s (fun s0 => ml C ops [1, 2, 3] s0 fun s1 => ml C ops [2, 1, 3] s0 fun s2 => B s1 s2) = some r) :
  (Code.region id ops true).wp P (fun e a' w' => e = .normal /\ ((∃ s1 s2, B s1 s2 = some r /\ cT E s1 a' w' /\ ∃ a w, cT E s2 a w) ∨ ∃ s1 s2, B s1 s2 = some r /\ cT E s2 a' w' /\ ∃ a w, cT E s1 a w)) a w := by
 unfold yM at hc
 simp only [Bool.and_eq_true, decide_eq_true_eq] at hc
 obtain ⟨hs, c0, c1, c2, c3, c4, c5⟩ := hc
 have hs : ops.size = 4 := nb hs
 refine wp_region_any hP.mixed ?_
 generalize hQ : (fun (e : Exit) (a' : Act) (w' : World) => e = Exit.normal /\ ((∃ s1 s2, B s1 s2 = some r /\ cT E s1 a' w' /\ ∃ a w, cT E s2 a w) ∨ ∃ s1 s2, B s1 s2 = some r /\ cT E s2 a' w' /\ ∃ a w, cT E s1 a w)) = Q
 have step : ∀ (fuel : Nat) (listed : Array Bool) (rs : List Nat) {s : St} {a : Act} {w : World}, C0 ops listed = rs -> rs ≠ [] -> cT E s a w ->
   (∀ i ∈ rs, ∃ (hi : i < ops.size) (κ : St -> Option R), cS C false ops (ops[i]'hi) s κ = some r /\ ∀ s' a' w', κ s' = some r -> cT E s' a' w' -> wpAny P .any ops Q fuel (listed.setIfInBounds i true) a' w') ->
   wpAny P .any ops Q (fuel + 1) listed a w := by
  intro fuel listed rs s a w hr hne ⟨β, Rt, Ra, h⟩ hi
  have hr' : Region.ready .any ops listed = rs := hr
  refine ⟨fun h0 => absurd (hr'.symm.trans h0) hne, fun i him => ?_⟩
  rw [hr'] at him
  obtain ⟨hlt, κ, hk, hn⟩ := hi i him
  exact gf hP hE hD h (Array.getElem?_eq_getElem hlt) hk _ _ fun s' a' w' h1 h2 => hn s' a' w' h1 h2
 have last : ∀ {a : Act} {w : World}, Q .normal a w -> wpAny P .any ops Q 0 #[true, true, true, true] a w := fun h => ⟨c5, h⟩
 rw [show Array.replicate ops.size false = #[false, false, false, false] by rw [hs]; rfl, hs]
 rw [fK (by omega)] at hk
 have h : cT E s a { w with drawn := w.drawn + 1 } := by
  obtain ⟨β, Rt, Ra, h⟩ := h
  exact ⟨β, Rt, Ra, h.nZ ⟨rfl, rfl, rfl, Nat.le_refl _, fun _ _ _ => rfl⟩⟩
 refine step 3 _ _ c0 (by simp) h fun i hi => ?_
 rw [List.mem_singleton] at hi; subst hi
 refine ⟨by omega, _, hk, fun s0 a0 w0 hk0 h0 => ?_⟩
 replace hk0 : ml C ops [1, 2, 3] s0 (fun s1 => ml C ops [2, 1, 3] s0 fun s2 => B s1 s2) = some r := hk0
 have hin : ∀ l : List Nat, (∀ i ∈ l, i < 4) -> ∀ i ∈ l, i < ops.size := fun l h i hi => by rw [hs]; exact h i hi
 refine step 2 #[true, false, false, false] _ c1 (by simp) h0 fun i hi => ?_
 simp only [List.mem_cons, List.mem_nil_iff, or_false] at hi
 rcases hi with rfl | rfl
 ·rw [fK (by omega)] at hk0
  refine ⟨by omega, _, hk0, fun x1 a1 w1 hk1 h1 => ?_⟩
  refine step 1 #[true, true, false, false] _ c2 (by simp) h1 fun i hi => ?_
  rw [List.mem_singleton] at hi; subst hi
  rw [fK (by omega)] at hk1
  refine ⟨by omega, _, hk1, fun x2 a2 w2 hk2 h2 => ?_⟩
  refine step 0 #[true, true, true, false] _ c4 (by simp) h2 fun i hi => ?_
  rw [List.mem_singleton] at hi; subst hi
  rw [fK (by omega)] at hk2
  refine ⟨by omega, _, hk2, fun x3 a3 w3 hk3 h3 => last ?_⟩
  replace hk3 : ml C ops [2, 1, 3] s0 (fun s2 => B x3 s2) = some r := hk3
  obtain ⟨s2, a4, w4, hb, hr⟩ := lu hP hE hD [2, 1, 3] (hin _ (by simp)) h0 hk3
  rw [<- hQ]
  exact ⟨rfl, .inl ⟨x3, s2, hb, h3, a4, w4, hr⟩⟩
 ·obtain ⟨s1, a4, w4, hb, hr⟩ := lu hP hE hD [1, 2, 3] (hin _ (by simp)) h0 hk0
  replace hb : ml C ops [2, 1, 3] s0 (fun s2 => B s1 s2) = some r := hb
  rw [fK (by omega)] at hb
  refine ⟨by omega, _, hb, fun x1 a1 w1 hk1 h1 => ?_⟩
  refine step 1 #[true, false, true, false] _ c3 (by simp) h1 fun i hi => ?_
  rw [List.mem_singleton] at hi; subst hi
  rw [fK (by omega)] at hk1
  refine ⟨by omega, _, hk1, fun x2 a2 w2 hk2 h2 => ?_⟩
  refine step 0 #[true, true, true, false] _ c4 (by simp) h2 fun i hi => ?_
  rw [List.mem_singleton] at hi; subst hi
  rw [fK (by omega)] at hk2
  refine ⟨by omega, _, hk2, fun x3 a3 w3 hk3 h3 => last ?_⟩
  rw [<- hQ]
  exact ⟨rfl, .inr ⟨s1, x3, hk3, h3, a4, w4, hr⟩⟩
theorem nk (hP : Ok P C.ty) (hE : EnvOk C tab E) (hD : ∀ g, bL P C.ty tab g (C.call g)) : ∀ (c : Code) {k : List Item} {s : St} {a : Act} {w : World} {κ : St -> Option R}, cT E s a w -> pf C c s κ = some r ->
  (∀ s' a' w', κ s' = some r -> cT E s' a' w' -> Fin P E ret r b cs (lone (b.at a' k) cs w')) -> Fin P E ret r b cs (lone (b.at a (.code c :: k)) cs w)
 | .region id ops d, k, s, a, w, κ, h, hk, hn => by
  unfold pf at hk
  split at hk
  ·cases hk
  ·exact kz hP hE hD h hk hn
 | .seq x y, k, s, a, w, κ, h, hk, hn => by
  unfold pf at hk
  refine .head step_seq (nk hP hE hD x h hk fun s1 a1 w1 hk1 h1 => ?_)
  exact nk hP hE hD y h1 hk1 hn
 | .skip, k, s, a, w, κ, h, hk, hn => .head step_skip (hn s a w hk h)
 | .cond .., _, _, _, _, _, _, hk, _ => by cases hk
 | .block .., _, _, _, _, _, _, hk, _ => by cases hk
 | .loop .., _, _, _, _, _, _, hk, _ => by cases hk
 | .scope .., _, _, _, _, _, _, hk, _ => by cases hk
 | .exit .., _, _, _, _, _, _, hk, _ => by cases hk
 | .goto .., _, _, _, _, _, _, hk, _ => by cases hk
 | .label .., _, _, _, _, _, _, hk, _ => by cases hk
 | .ret, _, _, _, _, _, _, hk, _ => by cases hk
theorem rV (hP : Ok P C.ty) (hE : EnvOk C tab E) (hD : ∀ g, bL P C.ty tab g (C.call g)) (b : Frame) (cs : List Frame) : ∀ (c : Code) {s : St} {a : Act} {w : World} {κ : St -> Option R}, cT E s a w -> pf C c s κ = some r ->
  ∃ s', κ s' = some r /\ ∃ a w, cT E s' a w
 | .region id ops d, s, a, w, κ, h, hk => by
  unfold pf at hk
  split at hk
  ·cases hk
  ·have hwp := oH (id := id) (Qn := fun a' w' => ∃ s', κ s' = some r /\ cT E s' a' w') hP hE hD h hk fun s' a' w' h1 h2 => ⟨s', h1, h2⟩
   obtain ⟨e, a', w', ⟨_, s', h1, h2⟩, _⟩ := hwp b [] cs
   exact ⟨s', h1, a', w', h2⟩
 | .seq x y, s, a, w, κ, h, hk => by
  unfold pf at hk
  obtain ⟨s1, hk1, a1, w1, h1⟩ := rV hP hE hD b cs x h hk
  exact rV hP hE hD b cs y h1 hk1
 | .skip, s, a, w, κ, h, hk => ⟨s, hk, a, w, h⟩
 | .cond .., _, _, _, _, _, hk => by cases hk
 | .block .., _, _, _, _, _, hk => by cases hk
 | .loop .., _, _, _, _, _, hk => by cases hk
 | .scope .., _, _, _, _, _, hk => by cases hk
 | .exit .., _, _, _, _, _, hk => by cases hk
 | .goto .., _, _, _, _, _, hk => by cases hk
 | .label .., _, _, _, _, _, hk => by cases hk
 | .ret, _, _, _, _, _, hk => by cases hk
theorem yH (hP : Ok P C.ty) (hE : EnvOk C tab E) (hD : ∀ g, bL P C.ty tab g (C.call g)) {c : Operand} {x y : Code} {k : List Item} {κ : St -> Option R} (h : cT E s a w) (hk : Dc C c x y s κ = some r)
  (hn : ∀ s' a' w', κ s' = some r -> cT E s' a' w' -> Fin P E ret r b cs (lone (b.at a' k) cs w')) : Fin P E ret r b cs (lone (b.at a (.code (.cond c x y) :: k)) cs w) := by
 unfold Dc at hk
 split at hk
 ·rename_i t ht
  obtain ⟨β, Rt, Ra, h0⟩ := h
  have hc := bW h0 c
  rw [ht] at hc
  have e : a.eval c = .bool t := hc
  cases t with
  | true => exact .head (step_cond e) (nk hP hE hD x ⟨β, Rt, Ra, h0⟩ hk hn)
  | false => exact .head (step_cond e) (nk hP hE hD y ⟨β, Rt, Ra, h0⟩ hk hn)
 ·cases hk
theorem BK (hP : Ok P C.ty) (hE : EnvOk C tab E) (hD : ∀ g, bL P C.ty tab g (C.call g)) (b : Frame) (cs : List Frame) {c : Operand} {x y : Code} {κ : St -> Option R} (h : ∃ a w, cT E s a w) (hk : Dc C c x y s κ = some r) :
  ∃ s', κ s' = some r /\ ∃ a w, cT E s' a w := by
 obtain ⟨a, w, h⟩ := h
 unfold Dc at hk
 split at hk
 ·rename_i t ht
  cases t with
  | true => exact rV hP hE hD b cs x h hk
  | false => exact rV hP hE hD b cs y h hk
 ·cases hk
theorem gd {a : Act} {w : World} : ∀ (n : Nat) {k p : List Item}, lr n k = some p -> Fin P E ret r b cs (lone (b.at a p) cs w) -> Fin P E ret r b cs (lone (b.at a k) cs w)
 | 0, _, _, h, _ => by cases h
 | n + 1, k, p, h, hf => by
  unfold lr at h
  split at h
  ·exact .head step_skip (gd n h hf)
  ·exact .head step_inBlock (gd n h hf)
  ·exact .head step_inScope (gd n h hf)
  ·exact .head step_seq (gd n h hf)
  ·exact .head step_inLoop (gd n h hf)
  ·split at h
   ·rename_i k' hk'; exact .head (step_exit hk') (gd n h hf)
   ·cases h
  ·cases h; exact hf
  ·cases h
theorem sT {J : List Item -> St -> Option R} (hP : Ok P C.ty) (hE : EnvOk C tab E) (hJ : ∀ todo s a w, cT E s a w -> J todo s = some r -> Fin P E ret r b cs (lone (b.at a todo) cs w)) {p : List Item} {t1 t2 : St} {a : Act} {w : World} (hk : zC C J p t1 t2 = some r) (h : cT E t1 a w ∨ cT E t2 a w) : Fin P E ret r b cs (lone (b.at a p) cs w) := by
 unfold zC at hk
 split at hk
 ·split at hk
  ·obtain ⟨hm, hk⟩ := dw hk
   split at hk
   ·rename_i u1 u2 h1 h2
    obtain ⟨he, hk⟩ := dw hk
    have he := A5 he
    rcases h with h | h
    ·exact hJ _ _ _ _ (by rw [<- he]; exact jo hE.T hm h h1) hk
    ·exact hJ _ _ _ _ (jo hE.T hm h h2) hk
   ·cases hk
  ·cases hk
 ·cases hk
theorem BD {J : List Item -> St -> Option R} (hP : Ok P C.ty) (hE : EnvOk C tab E) (hD : ∀ g, bL P C.ty tab g (C.call g)) (hJ : ∀ todo s a w, cT E s a w -> J todo s = some r -> Fin P E ret r b cs (lone (b.at a todo) cs w)) {n id : Nat} {k : List Item} (hc : yM ops = true) (h : cT E s a w) (hk : C5 C J n ops k s = some r) :
  Fin P E ret r b cs (lone (b.at a (.code (.region id ops true) :: k)) cs w) := by
 unfold C5 at hk
 split at hk
 ·rename_i c x y k2
  split at hk
  ·rename_i p hp
   have hwp := C6 (id := id) hP hE hD hc h hk
   obtain ⟨e, a', w', ⟨rfl, hq⟩, harr⟩ := hwp b (.code (.cond c x y) :: k2) cs
   refine .steps harr ?_
   rcases hq with ⟨s1, s2, hb, h1, h2⟩ | ⟨s1, s2, hb, h2, h1⟩
   ·refine yH hP hE hD h1 hb fun t1 a1 w1 hk1 ht1 => ?_
    obtain ⟨t2, hk2, _⟩ := BK hP hE hD b cs h2 hk1
    exact gd n hp (sT hP hE hJ hk2 (.inl ht1))
   ·obtain ⟨t1, hk1, _⟩ := BK hP hE hD b cs h1 hb
    refine yH hP hE hD h2 hk1 fun t2 a2 w2 hk2 ht2 => ?_
    exact gd n hp (sT hP hE hJ hk2 (.inr ht2))
  ·cases hk
 ·cases hk
theorem mw (hP : Ok P C.ty) (hE : EnvOk C tab E) (hD : ∀ g, bL P C.ty tab g (C.call g)) (hJ : ∀ todo s a w, cT E s a w -> J todo s = some r -> Fin P E ret r b cs (lone (b.at a todo) cs w)) :
  ∀ (n : Nat) (todo : List Item) (s : St) (a : Act) (w : World), cT E s a w -> sf C J ret n todo s = some r -> Fin P E ret r b cs (lone (b.at a todo) cs w)
 | 0, _, _, _, _, _, h => by cases h
 | n + 1, todo, s, a, w, h, hk => by
  have ih := mw hP hE hD hJ n
  unfold sf at hk
  split at hk
  ·exact ⟨s, a, w, _, hk, h, .one step_end⟩
  ·exact ⟨s, a, w, _, hk, h, .one step_ret⟩
  ·exact .head step_skip (ih _ _ _ _ h hk)
  ·exact .head step_label (ih _ _ _ _ h hk)
  ·exact .head step_inBlock (ih _ _ _ _ h hk)
  ·exact .head step_inScope (ih _ _ _ _ h hk)
  ·exact .head step_seq (ih _ _ _ _ h hk)
  ·rename_i c x y k
   split at hk
   ·rename_i t ht
    obtain ⟨β, Rt, Ra, h0⟩ := h
    have hc := bW h0 c
    rw [ht] at hc
    have e : a.eval c = .bool t := hc
    cases t with
    | true =>
     simp only [cond_true] at hk
     rw [pW ht] at hk
     exact .head (step_cond e) (ih _ _ _ _ ⟨β, Rt, Ra, h0⟩ hk)
    | false =>
     simp only [cond_false] at hk
     rw [pW ht] at hk
     exact .head (step_cond e) (ih _ _ _ _ ⟨β, Rt, Ra, h0⟩ hk)
   ·cases hk
  ·exact .head step_block (ih _ _ _ _ h hk)
  ·exact .head step_loop (ih _ _ _ _ h hk)
  ·exact .head step_inLoop (ih _ _ _ _ h hk)
  ·exact .head step_scope (ih _ _ _ _ h hk)
  ·split at hk
   ·rename_i k' hk'; exact .head (step_exit hk') (ih _ _ _ _ h hk)
   ·cases hk
  ·split at hk
   ·rename_i k' hk'; exact .head (step_goto hk') (ih _ _ _ _ h hk)
   ·cases hk
  ·split at hk
   ·obtain ⟨hm, hk⟩ := dw hk
    split at hk
    ·rename_i s' hs'
     exact hJ _ _ _ _ (jo hE.T hm h hs') hk
    ·cases hk
   ·rename_i id ops d k _ hcut
    cases hd : (d && (!iU true ops.toList && yM ops)) with
    | false => rw [hd, cond_false] at hk; exact kz hP hE hD h hk fun s' a' w' h1 h2 => ih _ _ _ _ h2 h1
    | true =>
     rw [hd, cond_true] at hk
     simp only [Bool.and_eq_true] at hd
     obtain ⟨rfl, _, hc⟩ := hd
     exact BD hP hE hD hJ hc h hk
  ·cases hk
theorem uc (hP : Ok P C.ty) (hE : EnvOk C tab E) (hD : ∀ g, bL P C.ty tab g (C.call g)) (hJ : ∀ todo s a w, cT E s a w -> J todo s = some r -> Fin P E ret r b cs (lone (b.at a todo) cs w)) (n : Nat) (todo : List Item) (s : St) (a : Act) (w : World) (h : cT E s a w)
  (hk : start C J ret n todo s = some r) : Fin P E ret r b cs (lone (b.at a todo) cs w) := by
 unfold start at hk
 split at hk
 ·exact kz hP hE hD h hk fun s' a' w' h1 h2 => mw hP hE hD hJ n _ _ _ _ h2 h1
 ·cases hk
theorem nY (hP : Ok P C.ty) (hE : EnvOk C tab E) (hD : ∀ g, bL P C.ty tab g (C.call g)) (n : Nat) : ∀ (f : Nat) (todo : List Item) (s : St) (a : Act) (w : World), cT E s a w -> goto C ret n f todo s = some r -> Fin P E ret r b cs (lone (b.at a todo) cs w)
 | 0, _, _, _, _, _, h => by cases h
 | f + 1, todo, s, a, w, h, hk => uc hP hE hD (fun todo s a w h hk => nY hP hE hD n f todo s a w h hk) n todo s a w h hk
theorem gx : ∀ (n : Nat) {t : Nat} {o : Obj}, lookup t (kZ n) = some o -> t < n /\ o = .hole
 | 0, _, _, h => by cases h
 | n + 1, t, o, h => by
  simp only [kZ, lookup] at h
  cases hb : Nat.beq t n with
  | true =>
   have := Nat.eq_of_beq_eq_true hb; subst this
   rw [hb] at h; cases h; exact ⟨by omega, rfl⟩
  | false =>
   rw [hb] at h; simp only [cond_false] at h
   have := gx n h
   exact ⟨by omega, this.2⟩
theorem pT : ∀ (n : Nat) {t : Nat}, t < n -> lookup t (kZ n) = some .hole
 | 0, _, h => by omega
 | n + 1, t, h => by
  simp only [kZ, lookup]
  by_cases e : t = n
  ·subst e; simp
  ·rw [Cf e]; simp only [cond_false]; exact pT n (by omega)
def eI : List SV -> List Value -> List Nat
 | .vp _ _ :: r, .pointer (some ad) :: vs => ad.block :: eI r vs
 | .vp _ _ :: r, _ :: vs => 0 :: eI r vs
 | _ :: r, _ :: vs => eI r vs
 | _, _ => []
theorem xq (s : St) (k ty : Nat) (ls r : List SV) : fk s k (.vp ty ls :: r) = (.ptr k 0 :: (fk ((cC s ls).2.setObj k (.var ty (cC s ls).1)) (k + 1) r).1, (fk ((cC s ls).2.setObj k (.var ty (cC s ls).1)) (k + 1) r).2) := rfl
theorem xp {x : SV} (hx : ∀ ty l, x ≠ .vp ty l) (s : St) (k : Nat) (r : List SV) : fk s k (x :: r) = ((ef s x).1 :: (fk (ef s x).2 k r).1, (fk (ef s x).2 k r).2) := by
 cases x <;> first | rfl | exact absurd rfl (hx _ _)
theorem wZ {x : SV} (hx : ∀ ty l, x ≠ .vp ty l) (r : List SV) : vars (x :: r) = vars r := by
 cases x <;> first | rfl | exact absurd rfl (hx _ _)
theorem Dj {c : Cx} {x : SV} {v : Value} {bs : List Nat} (hx : ∀ ty l, x ≠ .vp ty l) (h : CV c x v bs) : vO c x v bs := by
 unfold CV at h; split at h
 ·exact absurd rfl (hx _ _)
 ·exact h
theorem tD (s : St) (x : SV) {t : Nat} (ht : t < s.next) : (ef s x).2.obj t = s.obj t := by
 rcases gj x with ⟨l, rfl⟩ | h1
 ·exact eD l s ht
 ·obtain ⟨u, _, e⟩ := gL h1 s
  rw [e]; exact eD [x] s ht
theorem iV {β : Nat -> Bl} {Rt Ra Rt' Ra' : Nat -> Prop} (hR : ∀ b, Rt' b -> Rt b) (hA : ∀ b, Ra' b -> Ra b) : ∀ (xs : List SV) (vs : List Value) (bs : List Nat) (k : Nat) {s : St} {β : Nat -> Bl}, Rel E s a w β Rt Ra -> je (CV (cc E.T w Rt' Ra')) xs vs bs -> bs.Nodup -> (∀ z ∈ bs, o3 E s w β Ra z) ->
  (∀ i, k <= i -> i < k + vars xs -> s.obj i = some .hole) -> (∀ i b, (eI xs vs)[i]? = some b -> E.pb (k + i) = b) -> k + vars xs <= 64 ->
  ∃ β', Rel E (fk s k xs).2 a w β' Rt Ra /\ (bu E s w β Rt Ra).Le (bu E (fk s k xs).2 w β' Rt Ra) /\ PW (S1 (bu E (fk s k xs).2 w β' Rt Ra)) (fk s k xs).1 vs
 | [], [], bs, k, s, β, h, _, _, _, _, _, _ => ⟨β, h, le_refl _, trivial⟩
 | x :: xs, v :: vs, bs, k, s, β, h, hc, hnd, hf, hh, hb, hk => by
  obtain ⟨b1, b2, rfl, hx, hr⟩ := hc
  rw [List.nodup_append] at hnd
  by_cases hv : ∃ ty l, x = .vp ty l
  ·obtain ⟨ty, ls, rfl⟩ := hv
   obtain ⟨b, cs, q, bs', rfl, hheap, hcat, rfl⟩ := hx
   have hvar : vars (SV.vp ty ls :: xs) = vars xs + 1 := rfl
   rw [hvar] at hh hk
   have hhole := hh k (Nat.le_refl _) (by omega)
   have hpb : (β k).b = b := by
    rw [h.pin k _ hhole (by omega)]
    exact hb 0 b rfl
   obtain ⟨nd1, nd2, nd12⟩ := hnd
   rw [List.nodup_cons] at nd1
   obtain ⟨β1, r1, le1, p1, ob1⟩ := fv hR hA ls cs.toList bs' h hcat nd1.2 (fun z hz => hf z (by simp [hz]))
   have hlt := h.lt k _ hhole
   have hhole1 : (cC s ls).2.obj k = some .hole := by rw [eD ls s hlt]; exact hhole
   have hβ1 : β1 k = β k := le1.β k ⟨_, hhole⟩
   have hb1 : (β1 k).b = b := by rw [hβ1, hpb]
   have hbf := hf b (by simp)
   obtain ⟨r2, le2⟩ := r1.toRelO.set k (.var ty (cC s ls).1) hhole1 (fun z hz => by
     simp only [bV, List.mem_singleton] at hz; rw [hz, hb1]; exact ⟨hbf.1, hbf.2.1, hbf.2.2.1⟩) (fun z hz k' o' ho' hz' => by
     simp only [bV, List.mem_singleton] at hz; rw [hz, hb1] at hz'
     rcases ob1 k' o' ho' with ⟨ho2, hβ2⟩ | hin
     ·rw [hβ2] at hz'; exact hbf.2.2.2 k' o' ho2 hz'
     ·exact nd1.1 (hin b hz')) (fun le => ⟨cs, q, by rw [hb1]; exact hheap, by rw [hb1]; exact p1.imp fun _ _ hs => hs.le le⟩)
   have r2' : Rel E ((cC s ls).2.setObj k (.var ty (cC s ls).1)) a w β1 Rt Ra := ⟨r2, r1.len, r1.defers, ff le2 r1.slots⟩
   have obs : ∀ k' o, ((cC s ls).2.setObj k (.var ty (cC s ls).1)).obj k' = some o -> (k' = k /\ bV (β1 k') o = [b]) ∨ (k' ≠ k /\ ((s.obj k' = some o /\ β1 k' = β k') ∨ ∀ z ∈ bV (β1 k') o, z ∈ bs')) := by
    intro k' o hk'
    rw [dF] at hk'; split at hk'
    ·rename_i e; subst e; rw [hhole1] at hk'; cases hk'; exact .inl ⟨rfl, by simp [bV, hb1]⟩
    ·rename_i e; exact .inr ⟨e, ob1 k' o hk'⟩
   obtain ⟨β2, r3, le3, p3⟩ := iV (β := β) hR hA xs vs b2 (k + 1) r2' hr nd2 (fun z hz => by
     obtain ⟨f1, f2, f3, f4⟩ := hf z (by simp [hz])
     refine ⟨f1, f2, f3, fun k' o hk' hz' => ?_⟩
     rcases obs k' o hk' with ⟨_, e⟩ | ⟨_, ⟨ho2, hβ2⟩ | hin⟩
     ·rw [e, List.mem_singleton] at hz'; subst hz'; exact nd12 z (by simp) z hz rfl
     ·rw [hβ2] at hz'; exact f4 k' o ho2 hz'
     ·exact nd12 z (by simp [hin z hz']) z hz rfl)
    (fun i h1 h2 => by
     have hi := hh i (by omega) (by omega)
     rw [dF, if_neg (by omega), eD ls s (h.lt i _ hi)]; exact hi)
    (fun i b' hb' => by rw [show k + 1 + i = k + (i + 1) by omega]; exact hb (i + 1) b' hb') (by omega)
   rw [xq]
   refine ⟨β2, r3, (le1.trans le2).trans le3, ?_, p3⟩
   have hD : (bu E ((cC s ls).2.setObj k (.var ty (cC s ls).1)) w β1 Rt Ra).D k := ⟨_, by rw [dF, if_pos rfl, hhole1]; rfl⟩
   refine dA ⟨le3.D k hD, ?_⟩
   have e : β2 k = β1 k := le3.β k hD
   show Value.pointer (some ⟨b, 0, none⟩) = .pointer (some ⟨(β2 k).b, 0, none⟩)
   rw [e, hb1]
  ·have hv' : ∀ ty l, x ≠ .vp ty l := fun ty l e => hv ⟨ty, l, e⟩
   rw [wZ hv'] at hh hk
   have hvb : eI (x :: xs) (v :: vs) = eI xs vs := by cases x <;> first | rfl | exact absurd rfl (hv' _ _)
   rw [hvb] at hb
   obtain ⟨β1, r1, le1, p1, ob1⟩ := jA hR hA h (Dj hv' hx) hnd.1 (fun z hz => hf z (List.mem_append_left _ hz))
   obtain ⟨β2, r2, le2, p2⟩ := iV (β := β) hR hA xs vs b2 k r1 hr hnd.2.1 (fun z hz => by
     obtain ⟨f1, f2, f3, f4⟩ := hf z (List.mem_append_right _ hz)
     refine ⟨f1, f2, f3, fun t o ho hb => ?_⟩
     rcases ob1 t o ho with ⟨ho', hβ⟩ | hin
     ·rw [hβ] at hb; exact f4 t o ho' hb
     ·exact hnd.2.2 z (hin z hb) z hz rfl)
    (fun i h1 h2 => by
     have hi := hh i h1 h2
     rw [tD s x (h.lt i _ hi)]; exact hi) hb hk
   rw [xp hv']
   exact ⟨β2, r2, le1.trans le2, p1.le le2, p2⟩
 | [], _ :: _, _, _, _, _, _, h, _, _, _, _, _ => h.elim
 | _ :: _, [], _, _, _, _, _, h, _, _, _, _, _ => h.elim
end
end Go.Proofs.Ab
