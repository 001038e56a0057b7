/- The abstract machine: a run of a function's code over data without memory, and the proof that whatever this run says is what a call does (conditions: those of each lemma). -/
import Derived.Test.YtneffefnlogkaaaGreatDoorAbB
import Derived.Laws.Sem
import Derived.Laws.Externs
import Derived.Lib.Bytealg
import Derived.Shelf.Strings.Search2
import Derived.Below
import Derived.ChangeArms
import Derived.ChangeShapes
import Derived.SizedLaws
set_option linter.unusedVariables false
set_option linter.unusedSimpArgs false
set_option maxRecDepth 4000
namespace Go.Proofs.Ab
open Go
variable {R : Type}
section
variable {P : Program} {E : Env} {s : St} {a : Act} {w : World} {β : Nat -> Bl} {Rt Ra : Nat -> Prop} {r : R} {C : Cfg R} {tab : bO}
def C2 (tmps : Array Value) : ResultVar -> Sem Value
 | .tmp t => pure (tmps.getD t undef)
 | .cell k t => do loadVar t (<- asAddr (tmps.getD k undef))
theorem vD (fn : Func) (tmps : Array Value) : results fn tmps = (do
  let vs <- fn.results.mapM (C2 tmps)
  pure (if h : vs.size = 1 then vs[0] else .tuple vs)) := rfl
theorem vC (hP : Ok P C.ty) (hE : E.T = C.ty) (h : Rel E s a w β Rt Ra) {x : ResultVar} {y : SV} (hx : Bu C s x = some y) : ∃ v, (C2 a.tmps x).run P w = .ok v w /\ S2 (bu E s w β Rt Ra) y v := by
 cases x with
 | tmp t =>
  simp only [Bu] at hx; cases hx
  exact ⟨_, rfl, h.slots t⟩
 | cell k t =>
  simp only [Bu] at hx
  split at hx
  ·rename_i T hT
   split at hx
   ·rename_i u off hk
    have hs := h.slots k
    rw [hk] at hs
    obtain ⟨_, hv⟩ : _ /\ a.tmps.getD k undef = _ := hs
    simp only [loadAt] at hx
    split at hx
    ·rename_i ty ls ho
     obtain ⟨hkn, hx⟩ := bJ hx
     obtain ⟨cs, qq, hg, hpw⟩ := h.objs u _ ho
     have hsub : PW (SL (bu E s w β Rt Ra)) (sub ls off T.sz) ((cs.toList.drop off).take T.sz) :=
      PW.imp_mem (fun z hz v hv => ji (List.all_eq_true.mp hkn z hz) hv) ((hpw.drop off).take T.sz)
     obtain ⟨v, hr, hs⟩ := ka (hP.ty t T hT) hx hsub (w := w) (p := ⟨(β u).b, off, none⟩) (fun j v hj => by
      rw [add_plain, cell_of_row w _ _ cs _ (0, 0) hg]
      rw [List.getElem?_take] at hj
      split at hj
      ·rw [List.getElem?_drop] at hj; simpa using hj
      ·cases hj)
     refine ⟨v, ?_, dh hs⟩
     simp only [Instr.loadAt, Instr.sureAddr, Sem.run_bind, Sem.run_pure, Result.andThen_ok] at hr
     show Sem.run P (do loadVar t (<- asAddr (a.tmps.getD k undef))) w = _
     rw [hv]
     simp only [asAddr, Sem.run_bind, Sem.run_pure, Result.andThen_ok]
     exact hr
    ·cases hx
   ·rename_i u n hk
    have hs := h.slots k
    rw [hk] at hs
    obtain ⟨_, g, cap, e1, hv⟩ : _ /\ ∃ g cap, (β u).v = _ /\ a.tmps.getD k undef = .pointer (some _) := hs
    simp only [loadAt] at hx
    split at hx
    ·rename_i el l st hob
     split at hx
     ·rename_i kk hkk
      obtain ⟨a1, a2, a3, D, hD, a4, a5, a6, a7⟩ := fG hkk
      obtain ⟨hb, hx⟩ := bJ hx
      cases hx
      simp only [Bool.and_eq_true] at hb
      have he := Nat.eq_of_beq_eq_true hb.1; have hll := Nat.eq_of_beq_eq_true hb.2
      subst he
      obtain ⟨T', cs, hT', hsz, hown, hrc⟩ := h.objs u _ hob
      have hT'' : C.ty T.elem = some T' := by rw [<- hE]; exact hT'
      rw [hD] at hT''; cases hT''
      rw [e1] at hown
      have hlen := hown.1
      have hnl : n = l.length := by
       rcases fh hown with ⟨hv, _⟩ | ⟨_, _, hv, _⟩
       ·cases hv
       ·cases hv; rfl
      have hsz1 : D.sz = 1 := by unfold TI.sz; rw [a4]; rfl
      have hfl : D.flat = true := by unfold TI.flat; rw [a4]; simp [a6]
      refine ⟨.agg cs.toArray, ?_, dh (dA ⟨hnl.symm, D, cs.toArray, hT', hfl, rfl, by simp [hlen], RC.flat hfl (by simpa using hrc)⟩)⟩
      have := run_loadCells_list (P := P) w ⟨g, 0, none⟩ cs (fun j v hj => by rw [add_plain, Nat.zero_add]; exact fL hown j v hj)
      rw [hlen, hsz1, Nat.mul_one, <- hnl, hll] at this
      show Sem.run P (do loadVar t (<- asAddr (a.tmps.getD k undef))) w = _
      rw [hv]
      simp only [asAddr, Sem.run_bind, Sem.run_pure, Result.andThen_ok]
      simp [loadVar, fO (hP.ty t T hT), a1, eZ (hP.ty t T hT), this]
     ·cases hx
    ·cases hx
   ·cases hx
  ·cases hx
theorem oK (hP : Ok P C.ty) (hE : E.T = C.ty) (h : Rel E s a w β Rt Ra) : ∀ (l : List ResultVar) (ys : List SV), Ag C s l = some ys -> ∃ vs : List Value, (l.mapM (C2 a.tmps)).run P w = .ok vs w /\ PW (S2 (bu E s w β Rt Ra)) ys vs
 | [], ys, hl => by cases hl; exact ⟨[], rfl, trivial⟩
 | x :: l, ys, hl => by
  simp only [Ag] at hl
  split at hl
  ·rename_i y zs h1 h2
   cases hl
   obtain ⟨v, hv, hs⟩ := vC hP hE h h1
   obtain ⟨vs, hvs, hp⟩ := oK hP hE h l zs h2
   refine ⟨v :: vs, ?_, hs, hp⟩
   rw [List.mapM_cons]
   simp only [Sem.run_bind]
   rw [hv]; simp only [Result.andThen_ok]
   rw [hvs]; rfl
  ·cases hl
theorem pd (hP : Ok P C.ty) (hE : E.T = C.ty) (h : Rel E s a w β Rt Ra) {fn : Func} {ys : List SV} (hl : Ag C s fn.results.toList = some ys) : ∃ vs : List Value, (results fn a.tmps).run P w = .ok (match vs with | [v] => v | _ => .tuple vs.toArray) w /\ PW (S2 (bu E s w β Rt Ra)) ys vs := by
 obtain ⟨vs, hvs, hp⟩ := oK hP hE h _ ys hl
 refine ⟨vs, ?_, hp⟩
 rw [vD]
 simp only [Sem.run_bind]
 rw [Array.mapM_eq_mapM_toList]
 simp only [map_eq_pure_bind, Sem.run_bind]
 rw [hvs]
 simp only [Result.andThen_ok, Sem.run_pure]
 match vs with
 | [] => rfl
 | [v] => rfl
 | _ :: _ :: _ => simp
theorem vI {x : SV} {v : Value} (hk : known x = true) (hst : yh x = true) (ht : tok x = none) (hrl : ∀ e l st i off, x ≠ .rl e l st i off) (h : SL (bu E s w β Rt Ra) x v) : CL (cc E.T w Rt Rt) x v [] := by
 refine pk ht (fun e => by subst e; cases hk) (fun e l st e' => by subst e'; cases hk) ?_
 cases x <;> simp only [SL] at h ⊢ <;> first | exact h | (cases ht; done) | skip
 case ro e l st =>
  have : st = true := hst
  subst this
  exact h.mono (fun b hq => by unfold Cx.Q at hq ⊢; rw [if_pos rfl] at hq ⊢; exact hq) (fun _ _ => rfl)
 case rl e l st i off => exact absurd rfl (hrl _ _ _ _ _)
 case cls g ts =>
  cases ts with
  | nil => exact ⟨fun t ht => (by cases ht), h.2⟩
  | cons _ _ => cases ht
 case ra e n l st => cases hk
theorem jD (h : Rel E s a w β Rt Ra) {x y : SV} {v : Value} (hx : SL (bu E s w β Rt Ra) x v) (hc : iK s x = some y) : CL (cc E.T w Rt Rt) y v ((ez [x]).flatMap (tb s β)) := by
 unfold iK at hc
 split at hc
 ·rename_i e n l
  cases hc
  refine pk rfl (by simp) (by simp) ?_
  obtain ⟨h0, D, cs, h1, h2, h3, h4, h5⟩ := hx
  exact ⟨h0, D, cs, h1, h2, h3, h4, h5.mono (fun _ hq => hq) (fun _ hq => hq.elim)⟩
 ·rename_i t
  split at hc
  ·rename_i e l ho
   cases hc
   obtain ⟨D, cs, hT, hsz, hown, hrc⟩ := h.objs t _ ho
   obtain ⟨_, hv, _, harr⟩ : _ /\ v = (β t).v /\ _ /\ (β t).arr = false := hx
   have hown : eX w (β t).arr e D.sz (β t).v l.length cs := hown
   rw [harr] at hown
   refine ⟨D, cs, hT, hv ▸ hown, ?_, ?_⟩
   ·refine hrc.mono (fun b hq => ?_) (fun _ _ => rfl)
    unfold Cx.Q at hq ⊢; rw [if_pos rfl] at hq ⊢; exact hq
   ·simp only [ez, List.flatMap_cons, List.flatMap_nil, List.append_nil, tb, ho, bV, hv]
  ·cases hc
 ·cases hc
 ·cases hc
 ·cases hc
 ·cases hc
 ·cases hc
 ·cases hc
 ·cases hc
 ·rename_i hn0 hn1 hn2 hn3 hn4 hn5 hn6 hn7 hn8
  obtain ⟨hk, rfl⟩ := lQ hc
  simp only [Bool.and_eq_true] at hk
  have ho : ez [x] = [] := by cases x <;> first | rfl | exact absurd rfl (hn1 _)
  rw [ho]
  refine vI hk.1 hk.2 ?_ hn5 hx
  cases x <;> first | rfl | exact absurd rfl (hn6 _ _) | exact absurd rfl (hn7 _ _) | exact absurd rfl (hn8 _) | exact absurd rfl (hn1 _) | exact absurd rfl (hn2 _ _ _) | exact absurd rfl (hn3 _ _) | exact absurd rfl (hn4 _ _ _) | cases hk.1
theorem mY (h : Rel E s a w β Rt Ra) : ∀ (l : List SV) (vs : List Value) (ys : List SV), PW (SL (bu E s w β Rt Ra)) l vs -> qD s l = some ys -> je (CL (cc E.T w Rt Rt)) ys vs ((ez l).flatMap (tb s β))
 | [], [], ys, _, hc => by cases hc; rfl
 | x :: l, v :: vs, ys, hp, hc => by
  unfold qD at hc
  split at hc
  ·rename_i y zs h1 h2
   cases hc
   rw [iH, List.flatMap_append]
   exact ⟨_, _, rfl, jD h hp.1 h1, mY h l vs zs hp.2 h2⟩
  ·cases hc
 | [], _ :: _, _, hp, _ => hp.elim
 | _ :: _, [], _, hp, _ => hp.elim
theorem oR (x : SV) (l ys : List SV) (hc : gl s (x :: l) = some ys) : ∃ y zs, ys = y :: zs /\ gl s l = some zs /\ ((x = .no /\ y = .no) ∨ (x = .nos /\ y = .nos) ∨ (∃ t, x = .own t /\ s.obj t = some .hole /\ y = .no) ∨ iK s x = some y) := by
 by_cases h1 : x = .no
 ·subst h1; simp only [gl] at hc
  split at hc
  ·rename_i zs h2; cases hc; exact ⟨_, _, rfl, h2, .inl ⟨rfl, rfl⟩⟩
  ·cases hc
 ·by_cases h2 : x = .nos
  ·subst h2; simp only [gl] at hc
   split at hc
   ·rename_i zs h2; cases hc; exact ⟨_, _, rfl, h2, .inr (.inl ⟨rfl, rfl⟩)⟩
   ·cases hc
  ·by_cases h3 : ∃ t, x = .own t
   ·obtain ⟨t, rfl⟩ := h3
    simp only [gl] at hc
    split at hc
    ·rename_i ho
     split at hc
     ·rename_i zs g; cases hc; exact ⟨_, _, rfl, g, .inr (.inr (.inl ⟨t, rfl, ho, rfl⟩))⟩
     ·cases hc
    ·split at hc
     ·rename_i y zs g1 g2; cases hc; exact ⟨_, _, rfl, g2, .inr (.inr (.inr g1))⟩
     ·cases hc
   ·have e : gl s (x :: l) = (match iK s x, gl s l with
     | some y, some l => some (y :: l)
     | _, _ => none) := by cases x <;> first | rfl | exact absurd rfl h1 | exact absurd rfl h2 | exact absurd ⟨_, rfl⟩ h3
    rw [e] at hc
    split at hc
    ·rename_i y zs g1 g2; cases hc; exact ⟨_, _, rfl, g2, .inr (.inr (.inr g1))⟩
    ·cases hc
theorem mX (h : Rel E s a w β Rt Ra) {b : Nat} : ∀ (l : List SV) (vs : List Value) (ys : List SV), PW (lL (bu E s w β Rt Ra) b) l vs -> gl s l = some ys -> je (yp (cc E.T w Rt Rt) b) ys vs ((ez l).flatMap (tb s β))
 | [], [], ys, _, hc => by cases hc; rfl
 | x :: l, v :: vs, ys, hp, hc => by
  obtain ⟨y, zs, rfl, h2, h3⟩ := oR x l ys hc
  rw [iH, List.flatMap_append]
  refine ⟨_, _, rfl, ?_, mX h l vs zs hp.2 h2⟩
  rcases h3 with ⟨rfl, rfl⟩ | ⟨rfl, rfl⟩ | ⟨t, rfl, ho, rfl⟩ | h3
  ·exact ⟨rfl, rfl, by simp, trivial⟩
  ·exact ⟨rfl, hp.1⟩
  ·have e : (ez [SV.own t]).flatMap (tb s β) = [] := by simp [ez, tb, ho, bV]
   rw [e]; exact ⟨rfl, rfl, by simp, trivial⟩
  ·exact nn (jD h (qU hp.1) h3) b
 | [], _ :: _, _, hp, _ => hp.elim
 | _ :: _, [], _, hp, _ => hp.elim
theorem yg (l : List SV) : iK s (.tup l) = none := rfl
theorem tZ (h : Rel E s a w β Rt Ra) {x y : SV} {v : Value} (hx : S2 (bu E s w β Rt Ra) x v) (hc : qF s x = some y) : vO (cc E.T w Rt Rt) y v ((ez (leaves x)).flatMap (tb s β)) := by
 rcases gj x with ⟨l, rfl⟩ | h1
 ·simp only [qF] at hc
  split at hc
  ·rename_i ys hl; cases hc
   obtain ⟨cs, rfl, hp⟩ := iP hx
   exact ⟨cs, rfl, mY h l _ ys hp hl⟩
  ·cases hc
 ·have e : qF s x = iK s x := by cases x <;> first | rfl | exact absurd rfl (h1 _)
  rw [e] at hc
  rw [kA h1]
  have h3 : ∀ l, x ≠ .tup l := fun l e => by subst e; rw [yg] at hc; cases hc
  exact yv (jD h (vR h1 (vS h3 hx)) hc)
theorem mW (h : Rel E s a w β Rt Ra) : ∀ (l : List SV) (vs : List Value) (ys : List SV), PW (S2 (bu E s w β Rt Ra)) l vs -> oQ s l = some ys -> je (vO (cc E.T w Rt Rt)) ys vs ((eG l).flatMap (tb s β))
 | [], [], ys, _, hc => by cases hc; rfl
 | x :: l, v :: vs, ys, hp, hc => by
  unfold oQ at hc
  split at hc
  ·rename_i y zs h1 h2
   cases hc
   rw [eG, List.flatMap_append]
   exact ⟨_, _, rfl, tZ h hp.1 h1, mW h l vs zs hp.2 h2⟩
  ·cases hc
 | [], _ :: _, _, hp, _ => hp.elim
 | _ :: _, [], _, hp, _ => hp.elim
def Bt (s : St) : List Nat -> List Nat
 | [] => []
 | k :: r => k :: (match s.obj k with
  | some (.var _ ls) => ez ls
  | _ => []) ++ Bt s r
theorem tI (s : St) : ∀ (l : List Nat), (Bt s l).Perm (l ++ ku s l)
 | [] => List.Perm.refl _
 | k :: r => by
  simp only [Bt, ku, List.cons_append]
  refine List.Perm.cons _ ?_
  refine ((tI s r).append_left _).trans ?_
  rw [<- List.append_assoc, <- List.append_assoc]
  exact List.perm_append_comm.append_right _
theorem iT (h : Rel E s a w β Rt Ra) {c0 : Cx} : ∀ (args : List SV) (vs : List Value) (bs : List Nat) (k : Nat) (back : List SV), je (CV c0) args vs bs -> (∀ i b, (eI args vs)[i]? = some b -> E.pb (k + i) = b) -> k + vars args <= 64 -> iS s (List.range' k (vars args)) = some back ->
  CB (cc E.T w Rt Rt) args vs back ((Bt s (List.range' k (vars args))).flatMap (tb s β))
 | [], [], bs, k, back, _, _, _, hb => by
  simp only [vars, List.range'_zero, iS] at hb; cases hb; exact ⟨rfl, rfl⟩
 | x :: args, v :: vs, bs, k, back, hc, hpb, hk, hb => by
  obtain ⟨b1, b2, rfl, hx, hr⟩ := hc
  by_cases hv : ∃ ty l, x = .vp ty l
  ·obtain ⟨ty, l0, rfl⟩ := hv
   have hvar : vars (SV.vp ty l0 :: args) = vars args + 1 := rfl
   rw [hvar, List.range'_succ] at hb ⊢
   rw [hvar] at hk
   obtain ⟨b, _, _, _, rfl, _, _, _⟩ := hx
   simp only [iS] at hb
   split at hb
   ·rename_i ty' ls bk ho hrest
    split at hb
    ·rename_i us hs
     cases hb
     obtain ⟨cs, q, hh, hp⟩ := h.objs k _ ho
     have eb : (β k).b = b := by
      rw [h.pin k _ ho (by omega)]; exact hpb 0 b rfl
     refine ⟨b, cs, q, _, _, rfl, by rw [<- eb]; exact hh, by rw [<- eb]; exact mX h ls _ us hp hs, ?_, iT h args vs b2 (k + 1) bk hr (fun i b' hb' => by rw [show k + 1 + i = k + (i + 1) by omega]; exact hpb (i + 1) b' hb') (by omega) hrest⟩
     simp only [Bt, ho, List.cons_append, List.flatMap_cons, List.flatMap_append]
     rw [show tb s β k = [b] by unfold tb; rw [ho]; simp [bV, eb]]
     simp
    ·cases hb
   ·cases hb
  ·have hv' : ∀ ty l, x ≠ .vp ty l := fun ty l e => hv ⟨ty, l, e⟩
   rw [wZ hv'] at hb hk ⊢
   have hvb : eI (x :: args) (v :: vs) = eI args vs := by cases x <;> first | rfl | exact absurd rfl (hv' _ _)
   rw [hvb] at hpb
   rw [pj _ hv']
   exact iT h args vs b2 k back hr hpb hk hb
 | [], _ :: _, _, _, _, h, _, _, _ => h.elim
 | _ :: _, [], _, _, _, h, _, _, _ => h.elim
theorem nq : ∀ (ps : List Nat) {back : List SV}, iS s ps = some back -> ∀ k ∈ ps, ∃ ty ls us, s.obj k = some (.var ty ls) /\ gl s ls = some us
 | [], _, _, k, hk => by cases hk
 | p :: r, back, hb, k, hk => by
  simp only [iS] at hb
  split at hb
  ·rename_i ty ls bk ho hrest
   split at hb
   ·rename_i us hs
    rcases List.mem_cons.1 hk with rfl | hk
    ·exact ⟨ty, ls, us, ho, hs⟩
    ·exact nq r hrest k hk
   ·cases hb
  ·cases hb
theorem my {x y : SV} (hc : iK s x = some y) : ∀ t ∈ ez [x], ∃ e l st, s.obj t = some (.row e l st) := by
 intro t ht
 cases x <;> simp only [ez, List.not_mem_nil] at ht
 simp only [List.mem_singleton] at ht; subst ht
 simp only [iK] at hc
 split at hc
 ·exact ⟨_, _, _, by assumption⟩
 ·cases hc
theorem qE : ∀ {l ys : List SV}, qD s l = some ys -> ∀ t ∈ ez l, ∃ e l st, s.obj t = some (.row e l st)
 | [], _, _, t, ht => by cases ht
 | x :: l, ys, hc, t, ht => by
  unfold qD at hc
  split at hc
  ·rename_i y zs h1 h2
   rw [iH] at ht
   rcases List.mem_append.1 ht with ht | ht
   ·exact my h1 t ht
   ·exact qE h2 t ht
  ·cases hc
theorem qC : ∀ {l ys : List SV}, gl s l = some ys -> ∀ t ∈ ez l, ∀ ty ls, s.obj t ≠ some (.var ty ls)
 | [], _, _, t, ht => by cases ht
 | x :: l, ys, hc, t, ht => by
  obtain ⟨y, zs, rfl, h2, h3⟩ := oR x l ys hc
  rw [iH] at ht
  rcases List.mem_append.1 ht with ht | ht
  ·rcases h3 with ⟨rfl, _⟩ | ⟨rfl, _⟩ | ⟨u, rfl, ho, _⟩ | h3
   ·cases ht
   ·cases ht
   ·simp only [ez, List.mem_singleton] at ht; subst ht
    intro ty ls e; rw [ho] at e; cases e
   ·obtain ⟨_, _, _, e1⟩ := my h3 t ht
    intro ty ls e; rw [e1] at e; cases e
  ·exact qC h2 t ht
theorem qB : ∀ {l ys : List SV}, oQ s l = some ys -> ∀ t ∈ eG l, ∃ e l st, s.obj t = some (.row e l st)
 | [], _, _, t, ht => by cases ht
 | x :: l, ys, hc, t, ht => by
  unfold oQ at hc
  split at hc
  ·rename_i y zs h1 h2
   rw [eG] at ht
   rcases List.mem_append.1 ht with ht | ht
   ·rcases gj x with ⟨l', rfl⟩ | hx
    ·simp only [qF] at h1
     split at h1
     ·rename_i hl; exact qE hl t ht
     ·cases h1
    ·have e : qF s x = iK s x := by cases x <;> first | rfl | exact absurd rfl (hx _)
     rw [e] at h1; rw [kA hx] at ht
     exact my h1 t ht
   ·exact qB h2 t ht
  ·cases hc
theorem oy : ∀ (ps : List Nat) {back : List SV}, iS s ps = some back -> ∀ t ∈ ku s ps, ∀ ty ls, s.obj t ≠ some (.var ty ls)
 | [], _, _, t, ht => by cases ht
 | p :: r, back, hb, t, ht => by
  simp only [iS] at hb
  split at hb
  ·rename_i ty ls bk ho hrest
   split at hb
   ·rename_i us hs
    simp only [ku, ho] at ht
    rcases List.mem_append.1 ht with ht | ht
    ·exact qC hs t ht
    ·exact oy r hrest t ht
   ·cases hb
  ·cases hb
end
end Go.Proofs.Ab
namespace Go.Proofs.Ab
open Go
variable {R : Type}
section
variable {P : Program} {C : Cfg R} {tab : bO} {r : R}
theorem rQ (n : Nat) : List.range n = List.range' 0 n := List.range_eq_range'
theorem enters {g : Nat} {fn : Func} {c : Code} (hf : P.funcs[g]? = some fn) (hb : fn.body = some c) (hn : (fn.name == "runtime.NumGoroutine") = false) (vs : Array Value) (w : World) : (callFunc g vs).run P w = .ok (.enter g vs) w := by
 have hn' : fn.name ≠ "runtime.NumGoroutine" := by simpa using hn
 unfold callFunc
 simp [hf, hb, hn']
theorem vE (hP : Ok P C.ty) {E : Env} (hE : E.T = C.ty) {s : St} {a : Act} {w : World} {β : Nat -> Bl} {Rt Ra : Nat -> Prop} (h : Rel E s a w β Rt Ra) {fn : Func} {args : List SV} {vs : List Value} {c0 : Cx} {bs : List Nat} {κ : List SV -> Option R} (hcat : je (CV c0) args vs bs) (hpb : ∀ i b, (eI args vs)[i]? = some b -> E.pb i = b) (hn : vars args <= 64)
  (hk : xZ C fn.results.toList (List.range (vars args)) κ s = some r) : ∃ v res v0 back b1 b2, (results fn a.tmps).run P w = .ok v w /\ κ res = some r /\ res = v0 :: back /\ CR (cc E.T w Rt Rt) v0 v b1 /\ CB (cc E.T w Rt Rt) args vs back b2 /\ (b1 ++ b2).Nodup /\ ∀ b ∈ b1 ++ b2, ¬ Ra b /\ b < w.heap.size /\ (E.w0.heap.size <= b ∨ E.W0 b) := by
 unfold xZ at hk
 split at hk
 ·rename_i ys back hres hback
  obtain ⟨hdis, hk⟩ := bJ hk
  replace hdis := eT hdis
  obtain ⟨us, hrun, hpw⟩ := pd hP hE h hres
  have hrows2 := oy _ hback
  have hvars := nq _ hback
  have hcb : CB (cc E.T w Rt Rt) args vs back ((Bt s (List.range (vars args))).flatMap (tb s β)) := by
   rw [rQ] at hback ⊢
   exact iT h args vs bs 0 back hcat (fun i b hb => by rw [Nat.zero_add]; exact hpb i b hb) (by omega) hback
  have main : ∀ zs, oQ s ys = some zs -> je (vO (cc E.T w Rt Rt)) zs us ((eG ys).flatMap (tb s β)) /\ ((eG ys).flatMap (tb s β) ++ (Bt s (List.range (vars args))).flatMap (tb s β)).Nodup /\ ∀ b ∈ (eG ys).flatMap (tb s β) ++ (Bt s (List.range (vars args))).flatMap (tb s β), ¬ Ra b /\ b < w.heap.size /\ (E.w0.heap.size <= b ∨ E.W0 b) := by
   intro zs hz
   have hrows := qB hz
   refine ⟨mW h ys us zs hpw hz, ?_, ?_⟩
   ·rw [<- List.flatMap_append]
    refine jV h.toRelO ?_
    have hp : (eG ys ++ Bt s (List.range (vars args))).Perm (List.range (vars args) ++ (eG ys ++ ku s (List.range (vars args)))) :=
     ((tI s _).append_left _).trans (by rw [<- List.append_assoc, <- List.append_assoc]; exact List.perm_append_comm.append_right _)
    rw [hp.nodup_iff, List.nodup_append]
    refine ⟨List.nodup_range, hdis, fun k hk t ht e => ?_⟩
    subst e
    obtain ⟨ty, ls, _, ho, _⟩ := hvars k hk
    rcases List.mem_append.1 ht with ht | ht
    ·obtain ⟨_, _, _, h2⟩ := hrows k ht; rw [ho] at h2; cases h2
    ·exact hrows2 k ht _ _ ho
   ·intro b hb
    rw [<- List.flatMap_append] at hb
    obtain ⟨t, _, hb⟩ := List.mem_flatMap.1 hb
    unfold tb at hb; split at hb
    ·rename_i o ho
     obtain ⟨g1, g2, g3⟩ := h.cL t o ho b hb
     exact ⟨g2, g1, g3⟩
    ·cases hb
  split at hk
  ·rename_i v0 hz
   obtain ⟨m1, m2, m3⟩ := main _ hz
   match us, m1, hrun with
   | [], m1, _ => exact m1.elim
   | _ :: _ :: _, ⟨_, _, _, _, m1⟩, _ => exact m1.elim
   | [u], ⟨b1, b2, e, m1, e2⟩, hrun =>
    have e2 : b2 = [] := e2
    subst e2; rw [List.append_nil] at e
    refine ⟨u, _, v0, back, b1, _, hrun, hk, rfl, ?_, hcb, by rw [<- e]; exact m2, by rw [<- e]; exact m3⟩
    have hnt : ∀ l, v0 ≠ .tup l := fun l e => by subst e; exact m1.2.2.2
    unfold CR; split
    ·exact absurd rfl (hnt _)
    ·exact m1
  ·rename_i zs hne hz
   obtain ⟨m1, m2, m3⟩ := main _ hz
   have hrun' : (results fn a.tmps).run P w = .ok (.tuple us.toArray) w := by
    match us, m1, hrun with
    | [], _, hrun => exact hrun
    | _ :: _ :: _, _, hrun => exact hrun
    | [u], m1, _ =>
     have := m1.len
     match zs, this, hne with
     | [z], _, hne => exact (hne z rfl).elim
   refine ⟨_, _, .tup zs, back, _, _, hrun', hk, rfl, ⟨us.toArray, rfl, by simpa using m1⟩, hcb, m2, m3⟩
  ·cases hk
 ·cases hk
theorem xr {w : World} {args : List SV} {vs : Array Value} {Rt Ra : Nat -> Prop} {bs : List Nat} (hpre : Pre C.ty tab w args vs.toList Rt Ra bs) (fn : Func) (hn : vars args <= 64) :
  cT ⟨C.ty, w, fun b => b ∈ bs, Rt, Ra, fun i => (eI args vs.toList).getD i 0⟩ (entry fn args) { tmps := vs ++ Array.replicate (fn.ntmps - vs.size) undef, defers := [] } w := by
 let E : Env := ⟨C.ty, w, fun b => b ∈ bs, Rt, Ra, fun i => (eI args vs.toList).getD i 0⟩
 have h0 : Rel E ⟨[], kZ (vars args), 64⟩ { tmps := #[], defers := [] } w (fun t => ⟨undef, E.pb t, 0, false⟩) Rt Ra := by
  refine ⟨⟨fun t o ho => ?_, fun t o ho => ?_, fun t o ho => ?_, fun t o t' o' ho _ _ => ?_, hpre.sub, hpre.rlt, Fr.refl _ w, fun _ h => h, fun _ h => h, fun b hb => .inl hb, Nat.le_refl _, fun _ _ _ _ => rfl⟩, rfl, rfl, fun i => ?_⟩
  ·obtain ⟨_, rfl⟩ := gx _ ho; trivial
  ·have := (gx _ ho).1; show t < 64; omega
  ·obtain ⟨_, rfl⟩ := gx _ ho; intro b hb; cases hb
  ·obtain ⟨_, rfl⟩ := gx _ ho; intro b hb; cases hb
  ·show S2 _ (fc [] i) _; trivial
 obtain ⟨β, h1, _, hp⟩ := iV (β := fun t => ⟨undef, E.pb t, 0, false⟩) (fun _ h => h) (fun _ h => h) args vs.toList bs 0 h0 hpre.cat hpre.nd (fun z hz => ⟨(hpre.no z hz).2, (hpre.no z hz).1, .inr hz, fun t o ho => by
   obtain ⟨_, rfl⟩ := gx _ ho; intro hb; cases hb⟩) (fun i _ h2 => pT _ (by omega)) (fun i b hb => by
   show (eI args vs.toList).getD (0 + i) 0 = b
   rw [Nat.zero_add, List.getD_eq_getElem?_getD, hb]; rfl) (by omega)
 refine ⟨β, Rt, Ra, ⟨⟨h1.objs, h1.lt, h1.cL, h1.apart, h1.sub, h1.rlt, h1.fr, h1.rt0, h1.ra0, h1.rt, h1.nx, h1.pin⟩, ?_, rfl, fun i => ?_⟩⟩
 ·have := hp.len
  simp only [Array.length_toList] at this
  simp [entry, this]
 ·have hl := hp.len
  simp only [Array.length_toList] at hl
  show S2 _ (fc (_ ++ _) i) _
  rw [wg, List.getD_eq_getElem?_getD, Array.getD_eq_getD_getElem?]
  by_cases hi : i < vs.size
  ·rw [List.getElem?_append_left (by omega), Array.getElem?_append_left hi]
   have h1 : (fk ⟨[], kZ (vars args), 64⟩ 0 args).1[i]? = some ((fk ⟨[], kZ (vars args), 64⟩ 0 args).1[i]'(by omega)) := List.getElem?_eq_getElem _
   have h2 : vs.toList[i]? = some vs[i] := by simp [hi]
   rw [h1, Array.getElem?_eq_getElem hi]
   exact dh (hp.get h1 h2)
  ·rw [List.getElem?_append_right (by omega), Array.getElem?_append_right (by omega), List.getElem?_replicate, Array.getElem?_replicate]
   rw [hl]
   split
   ·rfl
   ·trivial
theorem vH (hP : Ok P C.ty) (hD : ∀ g, bL P C.ty tab g (C.call g)) {g : Nat} {fn : Func} (hf : P.funcs[g]? = some fn) (hname : (fn.name == "runtime.NumGoroutine") = false) {n fuel : Nat} {args : List SV} {κ : List SV -> Option R} (hk : b8 C fn n fuel args κ = some r)
  {w : World} {vs : Array Value} {Rt Ra : Nat -> Prop} {bs : List Nat} (hpre : Pre C.ty tab w args vs.toList Rt Ra bs) :
  qP P g vs w fun v w' => ∃ res Rt' v0 back b1 b2, κ res = some r /\ o4 C.ty w args vs.toList Rt bs res v w' Rt' v0 back b1 b2 := by
 unfold b8 at hk
 cases hb : fn.body with
 | none => rw [hb] at hk; cases hk
 | some c =>
  rw [hb] at hk; simp only at hk
  obtain ⟨hn, hk⟩ := dw hk
  simp only [decide_eq_true_eq] at hn
  refine .inr ⟨enters hf hb hname vs w, fun cs => ?_⟩
  let E : Env := ⟨C.ty, w, fun b => b ∈ bs, Rt, Ra, fun i => (eI args vs.toList).getD i 0⟩
  have hE : EnvOk C tab E := ⟨rfl, fun b ob hob => ⟨(hpre.tab b ob hob).1, (hpre.tab b ob hob).2, fun hin => (hpre.no b hin).1 (hpre.sub b (hpre.tab b ob hob).2)⟩⟩
  have h0 := xr hpre fn hn
  let b : Frame := { (default : Frame) with fn := g, kind := .normal }
  have henter : Frame.enter P g vs .normal = b.at { tmps := vs ++ Array.replicate (fn.ntmps - vs.size) undef, defers := [] } [.code c] := by
   simp [Frame.enter, Frame.at, hf, hb, b]
  obtain ⟨s', a', w', todo, hret, ⟨β, Rt', Ra', hrel⟩, hsteps⟩ := mw (b := b) (cs := cs) (ret := xZ C fn.results.toList (List.range (vars args)) κ) hP hE hD (fun todo s a w h hk => nY hP hE hD n fuel todo s a w h hk) n _ _ _ _ h0 hk
  obtain ⟨v, res, v0, back, b1, b2, hrun, hkr, hres, hcr, hcb, hnd, hno⟩ := vE hP rfl hrel (c0 := cc C.ty w Rt Ra) hpre.cat (fun i b hb => by
   show (eI args vs.toList).getD i 0 = b
   rw [List.getD_eq_getElem?_getD, hb]; rfl) hn hret
  refine ⟨.returned v, w', _, ⟨v, rfl, res, Rt', v0, back, b1, b2, hkr, hres, hrel.fr, hcr, hcb, hnd, fun z hz => ⟨fun hr => (hno z hz).1 (hrel.sub z hr), (hno z hz).2.1, (hno z hz).2.2⟩, hrel.rt0, fun z hz => ⟨hrel.rlt z (hrel.sub z hz), hrel.rt z hz⟩⟩, by rw [henter]; exact hsteps, rfl, rfl, hrel.defers, rfl, fn, hf, hrun⟩
end
end Go.Proofs.Ab
namespace Go.Proofs.Ab
open Go
variable {P : Program}
def y' (P : Program) (g : TypeId -> List LK -> Bool) : List Field -> Nat -> List LK -> Bool
 | [], _, lv => lv.isEmpty
 | f :: fs, off, lv => match P.info? f.type with
  | some i => (f.name != "_") && Nat.beq f.offset off && Nat.ble i.size lv.length && g f.type (lv.take i.size) && y' P g fs (off + i.size) (lv.drop i.size)
  | none => false
def BL (P : Program) : Nat -> TypeId -> List LK -> Bool
 | 0, _, _ => false
 | d + 1, t, lv => match P.underlying t with
  | some (.int k) => decide (lv = [.int k])
  | some .bool => decide (lv = [.bool])
  | some .string => decide (lv = [.str])
  | some (.struct fs) => !P.stoodInHeld t && y' P (BL P d) fs.toList 0 lv
  | _ => false
theorem jw : ∀ (n : Nat) {lv : List LK} {l m : List SV} {b : Bool}, dj lv l m = some b -> ∃ b1 b2, dj (lv.take n) (l.take n) (m.take n) = some b1 /\ dj (lv.drop n) (l.drop n) (m.drop n) = some b2 /\ b = (b1 && b2)
 | 0, lv, l, m, b, h => ⟨true, b, rfl, by simpa using h, by simp⟩
 | n + 1, [], [], [], b, h => by simp only [dj] at h; cases h; exact ⟨true, true, rfl, rfl, rfl⟩
 | n + 1, k :: ks, x :: xs, y :: ys, b, h => by
  simp only [dj] at h
  split at h
  ·rename_i a c h1 h2
   cases h
   obtain ⟨b1, b2, g1, g2, rfl⟩ := jw n h2
   refine ⟨a && b1, b2, ?_, by simpa using g2, by simp [Bool.and_assoc]⟩
   simp only [List.take_succ_cons, dj, h1, g1]
  ·cases h
 | n + 1, [], _ :: _, _, _, h => by simp [dj] at h
 | n + 1, [], [], _ :: _, _, h => by simp [dj] at h
 | n + 1, _ :: _, [], _, _, h => by simp [dj] at h
 | n + 1, _ :: _, _ :: _, [], _, h => by simp [dj] at h
theorem gn : ∀ {lv : List LK} {l m : List SV} {b : Bool}, dj lv l m = some b -> l.length = lv.length /\ m.length = lv.length
 | [], [], [], _, _ => ⟨rfl, rfl⟩
 | k :: ks, x :: xs, y :: ys, b, h => by
  simp only [dj] at h
  split at h
  ·rename_i h1 h2; have := gn h2; simp [this.1, this.2]
  ·cases h
 | [], _ :: _, _, _, h => by simp [dj] at h
 | [], [], _ :: _, _, h => by simp [dj] at h
 | _ :: _, [], _, _, h => by simp [dj] at h
 | _ :: _, _ :: _, [], _, h => by simp [dj] at h
def jh (agg : Bool) (l : List SV) (v : Value) : Prop :=
 if agg = true then ∃ xs : Array Value, v = .agg xs /\ PW fN l xs.toList else PW fN l [v]
theorem oz {f : Field} {i : TypeInfo} {d : TypeDesc} (hi : P.info? f.type = some i) (hd : P.underlying f.type = some d) (hs : jg d = false -> i.size = 1) {l : List SV} {xs : Array Value} {off : Nat} (ho : f.offset = off) (hp : PW fN l (xs.toList.drop off)) (hl : i.size <= l.length) (w : World) :
  ∃ v, (part f.type xs f.offset).run P w = .ok v w /\ jh (jg d) (l.take i.size) v := by
 subst ho
 cases ha : jg d with
 | true =>
  refine ⟨.agg ((xs.toList.drop f.offset).take i.size).toArray, ?_, ?_⟩
  ·simp only [part, Sem.run_bind, jc hd, ha, Result.andThen_ok, if_true, lG hi, Sem.run_pure]
   congr 2
   apply Array.ext'
   simp [List.take_drop, Nat.add_comm]
  ·unfold jh; rw [if_pos rfl]
   exact ⟨_, rfl, by simpa using hp.take i.size⟩
 | false =>
  have h1 := hs ha
  rw [h1] at hl ⊢
  have hlen := hp.len
  have hlt : f.offset < xs.size := by
   rw [List.length_drop] at hlen; simp at hlen; omega
  refine ⟨xs[f.offset], ?_, ?_⟩
  ·have : xs[f.offset]? = some xs[f.offset] := Array.getElem?_eq_getElem hlt
   simp [part, jc hd, ha, this]
  ·unfold jh; rw [if_neg (by simp)]
   have h2 := hp.take 1
   have : (xs.toList.drop f.offset).take 1 = [xs[f.offset]] := by
    rw [List.drop_eq_getElem_cons (by simpa using hlt)]; simp
   rw [this] at h2; exact h2
theorem A4 : ∀ (d : Nat) {t : TypeId} {lv : List LK}, BL P d t lv = true -> ∃ td, P.underlying t = some td /\ (jg td = false -> lv.length = 1)
 | 0, _, _, h => by cases h
 | d + 1, t, lv, h => by
  simp only [BL] at h
  split at h
  ·rename_i e; exact ⟨_, e, fun _ => by simp at h; rw [h]; rfl⟩
  ·rename_i e; exact ⟨_, e, fun _ => by simp at h; rw [h]; rfl⟩
  ·rename_i e; exact ⟨_, e, fun _ => by simp at h; rw [h]; rfl⟩
  ·rename_i e; exact ⟨_, e, fun h => by cases h⟩
  ·cases h
theorem nL (d D : Nat) (ih : ∀ {t : TypeId} {lv : List LK}, BL P d t lv = true -> ∀ (w : World) (l m : List SV) (x y : Value) td b, P.underlying t = some td -> jh (jg td) l x -> jh (jg td) m y -> dj lv l m = some b -> (Op.equalIn D t x y).run P w = .ok b w) (xs ys : Array Value) (w : World) :
  ∀ (fs : List Field) (off : Nat) (lv : List LK), y' P (BL P d) fs off lv = true -> ∀ (l m : List SV) b, PW fN l (xs.toList.drop off) -> PW fN m (ys.toList.drop off) -> dj lv l m = some b -> (Op.eqFields D xs ys fs).run P w = .ok b w
 | [], off, lv, h, l, m, b, _, _, hb => by
  simp only [y', List.isEmpty_iff] at h; subst h
  have := gn hb
  match l, m, this with
  | [], [], _ => cases hb; rfl
 | f :: fs, off, lv, h, l, m, b, hl, hm, hb => by
  simp only [y'] at h
  split at h
  ·rename_i i hi
   simp only [Bool.and_eq_true, bne_iff_ne, ne_eq] at h
   obtain ⟨⟨⟨⟨hn, ho⟩, hs⟩, hg⟩, hr⟩ := h
   have ho := Nat.eq_of_beq_eq_true ho
   have hs := Nat.le_of_ble_eq_true hs
   have hlen := gn hb
   obtain ⟨b1, b2, g1, g2, rfl⟩ := jw i.size hb
   obtain ⟨td, hd, hone⟩ := A4 d hg
   have hone' : jg td = false -> i.size = 1 := fun ha => by have := hone ha; rw [List.length_take] at this; omega
   obtain ⟨u, hu1, hu2⟩ := oz hi hd hone' ho hl (by omega) w
   obtain ⟨v, hv1, hv2⟩ := oz hi hd hone' ho hm (by omega) w
   have he := ih hg w _ _ u v td b1 hd hu2 hv2 g1
   simp only [Op.eqFields, hn, ne_eq, not_false_eq_true, if_true, Sem.run_bind, hu1, hv1, he, Result.andThen_ok]
   cases b1 with
   | false => simp
   | true =>
    simp only [Bool.not_true, Bool.false_eq_true, if_false, Bool.true_and]
    refine nL d D ih xs ys w fs (off + i.size) _ hr _ _ b2 ?_ ?_ g2
    ·rw [<- List.drop_drop]; exact hl.drop i.size
    ·rw [<- List.drop_drop]; exact hm.drop i.size
  ·cases h
theorem pE : ∀ (d : Nat) (k : Nat) {t : TypeId} {lv : List LK}, BL P d t lv = true -> ∀ (w : World) (l m : List SV) (x y : Value) td b, P.underlying t = some td -> jh (jg td) l x -> jh (jg td) m y -> dj lv l m = some b -> (Op.equalIn (d + k) t x y).run P w = .ok b w
 | 0, _, _, _, h => by cases h
 | d + 1, k, t, lv, h => by
  intro w l m x y td b hd hl hm hb
  simp only [BL] at h
  rw [hd] at h
  rw [show d + 1 + k = (d + k) + 1 by omega]
  have basic : ∀ k1, lv = [k1] -> jg td = false -> ∃ x0 y0, l = [x0] /\ m = [y0] /\ od k1 x0 y0 = some b /\ fN x0 x /\ fN y0 y := by
   intro k1 hlv ha
   subst hlv
   rw [ha] at hl hm
   unfold jh at hl hm; rw [if_neg (by simp)] at hl hm
   have := gn hb
   match l, m, this, hb, hl, hm with
   | [x0], [y0], _, hb, hl, hm =>
    simp only [dj] at hb
    split at hb
    ·rename_i a c h1 h2
     cases h2; cases hb
     exact ⟨x0, y0, rfl, rfl, by simpa using h1, hl.1, hm.1⟩
    ·cases hb
  split at h
  ·rename_i k1 e
   simp only [Option.some.injEq] at e; subst e
   obtain ⟨x0, y0, rfl, rfl, hq, hx, hy⟩ := basic _ (by simpa using h) rfl
   cases x0 <;> cases y0 <;> simp only [od] at hq <;> try (cases hq; done)
   obtain ⟨hq1, hq2⟩ := bJ hq
   simp only [Bool.and_eq_true, decide_eq_true_eq] at hq1
   obtain ⟨rfl, rfl⟩ := hq1
   cases hq2
   simp only [fN] at hx hy; subst hx; subst hy
   exact run_equalIn_int w (d + k) t _ _ _ _ hd
  ·rename_i e
   simp only [Option.some.injEq] at e; subst e
   obtain ⟨x0, y0, rfl, rfl, hq, hx, hy⟩ := basic _ (by simpa using h) rfl
   cases x0 <;> cases y0 <;> simp only [od] at hq <;> try (cases hq; done)
   cases hq
   simp only [fN] at hx hy; subst hx; subst hy
   exact run_equalIn_bool' w (d + k) t _ _ hd
  ·rename_i e
   simp only [Option.some.injEq] at e; subst e
   obtain ⟨x0, y0, rfl, rfl, hq, hx, hy⟩ := basic _ (by simpa using h) rfl
   cases x0 <;> cases y0 <;> simp only [od] at hq <;> try (cases hq; done)
   cases hq
   simp only [fN] at hx hy; subst hx; subst hy
   rw [run_equalIn_string w (d + k) t _ _ hd, pA]
  ·rename_i fs e
   simp only [Option.some.injEq] at e; subst e
   simp only [Bool.and_eq_true, Bool.not_eq_true'] at h
   unfold jh at hl hm; rw [if_pos (show jg (.struct fs) = true from rfl)] at hl hm
   obtain ⟨xs, rfl, hl⟩ := hl
   obtain ⟨ys, rfl, hm⟩ := hm
   have hf : P.fieldsOf t = fs := by unfold Program.fieldsOf; rw [hd]
   rw [run_equalIn_agg w (d + k) t xs ys (by rw [hf]; exact hd) h.1, hf]
   exact nL d (d + k) (fun {t lv} h => pE d k h) xs ys w fs.toList 0 lv h.2 l m b (by simpa using hl) (by simpa using hm) hb
  ·cases h
def Ay : LK -> Value -> Bool
 | .int k, .int k' n => decide (k = k') && decide (n = 0)
 | .bool, .bool b => !b
 | .str, .string s => decide (s = ⟨#[]⟩)
 | .sl _, .slice none 0 0 => true
 | .ptr, .pointer none => true
 | .fn, .nilFunc => true
 | .nos, .pointer none => true
 | .ifc, .nilIface => true
 | .oth, _ => true
 | .mp _ _, _ => true
 | _, _ => false
def nl : List LK -> List Value -> Bool
 | [], [] => true
 | k :: ks, v :: vs => Ay k v && nl ks vs
 | _, _ => false
theorem ke : ∀ {ks : List LK} {vs : List Value}, nl ks vs = true -> PW zeroV ks vs
 | [], [], _ => trivial
 | k :: ks, v :: vs, h => by
  simp only [nl, Bool.and_eq_true] at h
  refine ⟨?_, ke h.2⟩
  have h1 := h.1
  unfold Ay at h1
  split at h1 <;> first
   | (simp only [Bool.and_eq_true, decide_eq_true_eq] at h1; obtain ⟨rfl, rfl⟩ := h1; rfl)
   | (simp at h1; subst h1; rfl)
   | rfl
   | trivial
   | cases h1
 | [], _ :: _, h => by cases h
 | _ :: _, [], h => by cases h
def zu : Value -> Bool
 | .agg _ => true
 | _ => false
def sB (P : Program) (sz : Nat) (p : Nat × Nat × Bool) (F : Field) : Bool :=
 Nat.beq F.offset p.1 && Nat.ble (p.1 + p.2.1) sz && (match P.info? F.type, P.underlying F.type with
  | some i, some d => Nat.beq i.size p.2.1 && (jg d == p.2.2)
  | _, _ => false)
def kU (P : Program) (sz : Nat) : List (Nat × Nat × Bool) -> List Field -> Bool
 | [], [] => true
 | p :: ps, F :: Fs => sB P sz p F && kU P sz ps Fs
 | _, _ => false
theorem jp {sz : Nat} : ∀ {ps : List (Nat × Nat × Bool)} {Fs : List Field}, kU P sz ps Fs = true -> PW (ri P sz) ps Fs
 | [], [], _ => trivial
 | p :: ps, F :: Fs, h => by
  simp only [kU, Bool.and_eq_true] at h
  refine ⟨?_, jp h.2⟩
  have h1 := h.1
  unfold sB at h1
  simp only [Bool.and_eq_true] at h1
  obtain ⟨⟨h1, h2⟩, h3⟩ := h1
  split at h3
  ·rename_i i d hi hd
   simp only [Bool.and_eq_true, beq_iff_eq] at h3
   exact ⟨Nat.eq_of_beq_eq_true h1, Nat.le_of_ble_eq_true h2, i, d, hi, Nat.eq_of_beq_eq_true h3.1, hd, h3.2⟩
  ·cases h3
 | [], _ :: _, h => by cases h
 | _ :: _, [], h => by cases h
def pV (e : Nat) : TypeDesc -> Bool
 | .slice e' => Nat.beq e e'
 | _ => false
def wl (k : IntKind) : TypeDesc -> Bool
 | .int k' => decide (k = k')
 | _ => false
def wj : TypeDesc -> Bool
 | .bool => true
 | _ => false
def wm (k e : Nat) : TypeDesc -> Bool
 | .map k' e' => Nat.beq k k' && Nat.beq e e'
 | _ => false
def zA : TypeDesc -> Bool
 | .string => true
 | _ => false
def zM (d : TypeDesc) : List LK -> Bool
 | [.int k] => wl k d
 | [.bool] => wj d
 | [.str] => zA d
 | [.mp k e] => wm k e d
 | _ => true
def wv (e : Nat) : TypeDesc -> Bool
 | .pointer e' => Nat.beq e e'
 | _ => false
def B5 (ti : TI) (d : TypeDesc) : Bool :=
 match ti.lv with
 | [.ptr] => ti.agg || Nat.beq ti.elem 0 || wv ti.elem d
 | _ => true
def oT (P : Program) (ti : TI) : TypeDesc -> Bool
 | .struct fs => kU P ti.sz ti.flds fs.toList
 | _ => false
def BJ (P : Program) (ti : TI) : TypeDesc -> Bool
 | .array n e => Nat.beq e ti.elem && (match P.info? ti.elem with
  | some i => Nat.beq (n * i.size) ti.sz
  | none => false)
 | _ => false
def rY (P : Program) (t : Nat) (ti : TI) : Bool :=
 match P.underlying t, P.info? t with
 | some d, some i => (jg d == ti.agg) && Nat.beq i.size ti.sz && Nat.beq i.bytes ti.bytes &&
   (match i.zero with
    | some z => nl ti.lv z.cells.toList && (zu z == ti.agg)
    | none => false) && Nat.ble 1 ti.sz && Nat.ble 1 ti.bytes &&
   (!ti.sl || pV ti.elem d) && (ti.agg || zM d ti.lv) && B5 ti d && (ti.flds.isEmpty || oT P ti d) &&
   (!(ti.agg && (ti.flds.isEmpty && !(Nat.beq ti.elem 0))) || BJ P ti d) && (!ti.eqs || (ti.agg && !P.eqGuardType P.depth t && BL P 20 t ti.lv))
 | _, _ => false
theorem pg {t : Nat} {ti : TI} (h : rY P t ti = true) : TyOk P t ti := by
 unfold rY at h
 split at h
 ·rename_i d i hd hi
  simp only [Bool.and_eq_true] at h
  obtain ⟨⟨⟨⟨⟨⟨⟨⟨⟨⟨⟨h1, h2⟩, h3⟩, h4⟩, h5⟩, h6⟩, h7⟩, h8⟩, hp⟩, h9⟩, hA⟩, h10⟩ := h
  have h1 : jg d = ti.agg := by simpa using h1
  split at h4
  ·rename_i z hz
   simp only [Bool.and_eq_true, beq_iff_eq] at h4
   refine ⟨⟨d, hd, h1⟩, ⟨i, z, hi, Nat.eq_of_beq_eq_true h2, Nat.eq_of_beq_eq_true h3, hz, ke h4.1, ?_⟩, Nat.le_of_ble_eq_true h5, Nat.le_of_ble_eq_true h6, fun hs => ?_, fun k ha hl => ?_, fun ha hl => ?_, fun ha hl => ?_, fun k e ha hl => ?_, fun ha hl hz => ?_, fun ha hf hz => ?_, fun hf => ?_, fun he => ?_⟩
   ·rw [<- h4.2]; unfold zu
    constructor
    ·rintro ⟨cs, rfl⟩; rfl
    ·intro hz; split at hz
     ·exact ⟨_, rfl⟩
     ·cases hz
   ·rw [hs] at h7; simp only [Bool.not_true, Bool.false_or] at h7
    unfold pV at h7; split at h7
    ·rw [hd, Nat.eq_of_beq_eq_true h7]
    ·cases h7
   ·rw [ha, hl] at h8; simp only [Bool.false_or, zM] at h8
    unfold wl at h8; split at h8
    ·simp only [decide_eq_true_eq] at h8; rw [hd, h8]
    ·cases h8
   ·rw [ha, hl] at h8; simp only [Bool.false_or, zM] at h8
    unfold wj at h8; split at h8
    ·exact hd
    ·cases h8
   ·rw [ha, hl] at h8; simp only [Bool.false_or, zM] at h8
    unfold zA at h8; split at h8
    ·exact hd
    ·cases h8
   ·rw [ha, hl] at h8; simp only [Bool.false_or, zM] at h8
    unfold wm at h8; split at h8
    ·simp only [Bool.and_eq_true] at h8
     rw [hd, Nat.eq_of_beq_eq_true h8.1, Nat.eq_of_beq_eq_true h8.2]
    ·cases h8
   ·unfold B5 at hp
    rw [hl] at hp
    simp only [ha, Bool.false_or, Bool.or_eq_true] at hp
    have hp := hp.resolve_left fun e => hz (Nat.eq_of_beq_eq_true e)
    unfold wv at hp; split at hp
    ·rw [hd, Nat.eq_of_beq_eq_true hp]
    ·cases hp
   ·have hz' : Nat.beq ti.elem 0 = false := by
     cases h : Nat.beq ti.elem 0 with
     | false => rfl
     | true => exact absurd (Nat.eq_of_beq_eq_true h) hz
    rw [ha, hf, hz'] at hA
    simp only [List.isEmpty_nil, Bool.not_false, Bool.and_self, Bool.not_true, Bool.false_or] at hA
    unfold BJ at hA; split at hA
    ·rename_i n e _
     rw [Bool.and_eq_true] at hA
     obtain ⟨q1, q2⟩ := hA
     have hee := Nat.eq_of_beq_eq_true q1
     split at q2
     ·rename_i i hi
      exact ⟨n, i, by rw [<- hee]; exact hd, hi, Nat.eq_of_beq_eq_true q2⟩
     ·cases q2
    ·cases hA
   ·have h9 : oT P ti d = true := by
     rw [Bool.or_eq_true] at h9
     exact h9.resolve_left fun e => hf (List.isEmpty_iff.1 e)
    unfold oT at h9; split at h9
    ·exact ⟨_, hd, jp h9⟩
    ·cases h9
   ·rw [he] at h10; simp only [Bool.not_true, Bool.false_or, Bool.and_eq_true, Bool.not_eq_true'] at h10
    obtain ⟨⟨ha, hg⟩, hq⟩ := h10
    refine ⟨hg, fun w l m xs ys b hl hm hb => ?_⟩
    have hd' : jg d = true := by rw [h1, ha]
    exact pE 20 9980 hq w l m _ _ d b hd (by unfold jh; rw [if_pos hd']; exact ⟨xs, rfl, hl⟩) (by unfold jh; rw [if_pos hd']; exact ⟨ys, rfl, hm⟩) hb
  ·cases h4
 ·cases h
def ae (l : List (Option TI)) (t : Nat) : Option TI := (l[t]?).getD none
def iN (P : Program) : Nat -> List (Option TI) -> Bool
 | _, [] => true
 | t, none :: r => iN P (t + 1) r
 | t, some ti :: r => rY P t ti && iN P (t + 1) r
theorem gR : ∀ {l : List (Option TI)} {t0 : Nat}, iN P t0 l = true -> ∀ (i : Nat) ti, (l[i]?).getD none = some ti -> TyOk P (t0 + i) ti
 | [], _, _, i, ti, h => by simp at h
 | none :: r, t0, hc, i, ti, h => by
  cases i with
  | zero => simp at h
  | succ i =>
   have := gR (t0 := t0 + 1) hc i ti (by simpa using h)
   rw [show t0 + (i + 1) = t0 + 1 + i by omega]; exact this
 | some x :: r, t0, hc, i, ti, h => by
  simp only [iN, Bool.and_eq_true] at hc
  cases i with
  | zero => simp at h; subst h; exact pg hc.1
  | succ i =>
   have := gR (t0 := t0 + 1) hc.2 i ti (by simpa using h)
   rw [show t0 + (i + 1) = t0 + 1 + i by omega]; exact this
theorem DK {l : List (Option TI)} (h : iN P 0 l = true) (hm : P.follows .mixedOrders = true) : Ok P (ae l) :=
 ⟨fun t ti ht => by have := gR h t ti ht; rwa [Nat.zero_add] at this, hm⟩
end Go.Proofs.Ab
namespace Go.Proofs.Ab
open Go
def ag : Nat := 4611686018427387904
def aa {R : Type} (P : Program) (T : Nat -> Option TI) (tab : bO) (g : FuncId) (args : List SV) (κ : List SV -> Option R) (o : Option R) : Prop :=
 ∀ r, o = some r -> ∀ (w : World) (vs : Array Value) (Rt Ra : Nat -> Prop) (bs : List Nat), Pre T tab w args vs.toList Rt Ra bs ->
  qP P g vs w fun v w' => ∃ res Rt' v0 back b1 b2, κ res = some r /\ o4 T w args vs.toList Rt bs res v w' Rt' v0 back b1 b2
theorem aa.none {R : Type} {P : Program} {T : Nat -> Option TI} {tab : bO} {g : FuncId} {args : List SV} {κ : List SV -> Option R} : aa P T tab g args κ none := by
 intro r h; cases h
theorem aD {R : Type} {P : Program} {T : Nat -> Option TI} {tab : bO} {g : FuncId} {sp : List SV -> (List SV -> Option R) -> Option R} (h : ∀ xs κ, aa P T tab g xs κ (sp xs κ)) : bL P T tab g sp :=
 fun args κ r hk w vs Rt Ra bs hp => h args κ r hk w vs Rt Ra bs hp
theorem vN {c : Cx} : ∀ {args : List SV} {vs : List Value}, args.length = vs.length -> (∀ x ∈ args, ∀ ty l, x ≠ .vp ty l) -> CB c args vs [] []
 | [], [], _, _ => ⟨rfl, rfl⟩
 | x :: r, v :: vs, hl, hn => by
  rw [pj c (hn x (by simp))]
  exact vN (by simpa using hl) fun y hy => hn y (by simp [hy])
 | [], _ :: _, hl, _ => by simp at hl
 | _ :: _, [], hl, _ => by simp at hl
theorem o4.plain {T : Nat -> Option TI} {tab : bO} {w : World} {args : List SV} {vs : List Value} {Rt Ra : Nat -> Prop} {bs : List Nat} {x : SV} {v : Value} (hpre : Pre T tab w args vs Rt Ra bs) (hn : ∀ x ∈ args, ∀ ty l, x ≠ .vp ty l)
  (hx : CR (cc T w Rt Rt) x v []) : o4 T w args vs Rt bs [x] v w Rt x [] [] [] :=
 ⟨rfl, Fr.refl _ w, hx, vN hpre.cat.len hn, by simp, fun b hb => by simp at hb, fun _ h => h, fun b hb => ⟨hpre.rlt b (hpre.sub b hb), .inl hb⟩⟩
theorem qX {c : Cx} {a : ByteArray} {v : Value} {bs : List Nat} (h : CV c (.str a) v bs) : v = .string a := h.2.2.2
theorem AK {c : Cx} {k : IntKind} {n : Int} {v : Value} {bs : List Nat} (h : CV c (.int k n) v bs) : v = .int k n := h.2.2.2
theorem wR {c : Cx} {k : IntKind} {n : Int} : CR c (.int k n) (.int k n) [] := ⟨rfl, rfl, by simp, rfl⟩
theorem ju {R : Type} {P : Program} {T : Nat -> Option TI} {tab : bO} {g : FuncId} {fn : Func} (hf : P.funcs[g]? = some fn) (hname : (fn.name == "runtime.NumGoroutine") = false) (hb : fn.body.isNone = true)
  (hn : Extern.findNext fn = none) (he : Extern.find fn = some Extern.BytealgIndexByte.indexByte) (a0 : ByteArray) (a1 : Int) (κ : List SV -> Option R) :
  aa P T tab g [.str a0, .int .u8 a1] κ (κ [.int .i64 (Lib.indexByte a0.data.toList a1.toNat.toUInt8)]) := by
 intro r h w vs Rt Ra bs hpre
 have hargs : vs = #[.string a0, .int .u8 a1] := by
  have hc := hpre.cat
  apply Array.ext'
  match h2 : vs.toList, hc with
  | [v0, v1], ⟨_, _, _, h0, _, _, _, h1, _⟩ => rw [qX h0, AK h1]
  | [], hc => exact hc.elim
  | [_], ⟨_, _, _, _, hc⟩ => exact hc.elim
  | _ :: _ :: _ :: _, ⟨_, _, _, _, _, _, _, _, hc⟩ => exact hc.elim
 subst hargs
 refine .inl ⟨_, w, ?_, _, Rt, _, [], [], [], h, o4.plain hpre (by simp) wR⟩
 rw [run_callFunc_extern hf hname hb hn he, Lib.run_indexByteString]; rfl
end Go.Proofs.Ab
namespace Go.Proofs.Ab
open Go
theorem o6 (w : World) (b : Nat) (cs : Array Value) (t : Nat) (fz : Nat × Nat) (v : Value) (h : w.heap[b]? = some (.cells cs t fz)) : (w.setCell ⟨b, 0, none⟩ v).heap[b]? = some (.cells (cs.setIfInBounds 0 v) t fz) := by
 unfold World.setCell
 simp [Array.getElem?_modify, h]
theorem uL (w : World) (b : Nat) (v : Value) : Fr (fun x => x = b) w (w.setCell ⟨b, 0, none⟩ v) := by
 unfold World.setCell
 refine ⟨rfl, rfl, rfl, by simp, fun x _ hn => ?_⟩
 simp only [Array.getElem?_modify]
 rw [if_neg (fun e => hn e.symm)]
inductive Dh : SV -> Prop where
 | nil : Dh .nil
 | fr (e : Nat) (l : List AV) : Dh (.fr e l true)
theorem Dh.move {T : Nat -> Option TI} {w w' : World} {Rt Ra : Nat -> Prop} {X : SV} (hX : Dh X) {v : Value} {bs : List Nat} (h : CL (cc T w Rt Ra) X v bs) (hb : ∀ b ∈ bs, w'.heap[b]? = w.heap[b]?) (hR : ∀ b, Rt b -> w'.heap[b]? = w.heap[b]?) : CL (cc T w' Rt Rt) X v bs := by
 cases hX with
 | nil => exact ⟨h.1, rfl, by simp, h.2.2.2⟩
 | fr e l =>
  obtain ⟨D, cs, h1, h2, h3, h4⟩ := h
  refine ⟨D, cs, h1, iZ h2 (fun b hbb => hb b (by rw [h4, hbb]; simp)), h3.mono (fun b hq => ?_) (fun b hq => ?_), h4⟩
  ·unfold Cx.Q at hq ⊢; rw [if_pos rfl] at hq ⊢; exact hq
  ·unfold Cx.Q at hq; rw [if_pos rfl] at hq; exact hR b hq
theorem nF {R : Type} {P : Program} {T : Nat -> Option TI} {tab : bO} {g tb : Nat} (hen : ∀ vs w, (callFunc g vs).run P w = .ok (.enter g vs) w)
  (hu : ∀ b w, w.cell? ⟨b, 0, none⟩ = some (.pointer (some ⟨b, 0, none⟩)) -> Calls P g #[.pointer (some ⟨b, 0, none⟩)] w fun e w' => e = .returned (.tuple #[]) /\ w' = w)
  (hf : ∀ b w, w.cell? ⟨b, 0, none⟩ = some (.pointer none) -> w.shape? b = some (tb, 2) -> w.frozen? ⟨b, 0, none⟩ = false -> Calls P g #[.pointer (some ⟨b, 0, none⟩)] w fun e w' => e = .returned (.tuple #[]) /\ w' = w.setCell ⟨b, 0, none⟩ (.pointer (some ⟨b, 0, none⟩)))
  {X : SV} (hX : Dh X) (κ : List SV -> Option R) : aa P T tab g [.vp tb [.nos, X]] κ (κ [.tup [], .vp tb [.nos, X]]) := by
 intro r h w vs Rt Ra bs hpre
 have hc := hpre.cat
 match hvs : vs.toList, hc with
 | [v], ⟨bs1, _, hbs, ⟨b, cs, _, bs', hv, hheap, hcat, hbs1⟩, hnil⟩ =>
  have hnil : _ = [] := hnil
  subst hnil
  rw [List.append_nil] at hbs
  subst hbs
  subst hbs1
  have hva : vs = #[.pointer (some ⟨b, 0, none⟩)] := by apply Array.ext'; rw [hvs, hv]
  subst hva
  match hcs : cs.toList, hcat with
  | [c0, c1], ⟨b1, b2, hb', ⟨hb1, h0⟩, b3, b4, hb2, h1, hb4⟩ =>
   subst hb1
   have hb4 : b4 = [] := hb4
   subst hb4
   rw [List.append_nil] at hb2
   subst hb2
   simp only [List.nil_append] at hb'
   subst hb'
   have h1 : CL (cc T w Rt Ra) X c1 bs' := by
    unfold yp at h1; split at h1
    ·cases hX
    ·exact h1
   have hcsa : cs = #[c0, c1] := by apply Array.ext'; simpa using hcs
   subst hcsa
   have hheap' : w.heap[b]? = some (.cells #[c0, c1] tb (0, 0)) := hheap
   have hnb : ¬ Ra b /\ b < w.heap.size := hpre.no b (by simp)
   have hnd := hpre.nd
   rw [List.nodup_cons] at hnd
   have hcell : w.cell? ⟨b, 0, none⟩ = some c0 := by rw [cell_of_row w b 0 _ tb (0, 0) hheap']; rfl
   have mk : ∀ w', Fr (fun x => x = b) w w' -> (∃ d0, w'.heap[b]? = some (.cells #[d0, c1] tb (0, 0)) /\ (d0 = .pointer none ∨ d0 = .pointer (some ⟨b, 0, none⟩))) ->
     o4 T w [.vp tb [.nos, X]] [.pointer (some ⟨b, 0, none⟩)] Rt (b :: bs') [.tup [], .vp tb [.nos, X]] (.tuple #[]) w' Rt (.tup []) [.vp tb [.nos, X]] [] (b :: bs') := by
    rintro w' hfr ⟨d0, hd, hd0⟩
    refine ⟨rfl, ⟨hfr.os, hfr.tape, hfr.output, hfr.size, fun x hx hn => hfr.block x hx fun e => hn (by rw [e]; simp)⟩, ⟨#[], rfl, rfl⟩, ?_, by simpa using hpre.nd, fun z hz => ?_, fun _ h => h, fun z hz => ⟨Nat.lt_of_lt_of_le (hpre.rlt z (hpre.sub z hz)) hfr.size, .inl hz⟩⟩
    ·refine ⟨b, #[d0, c1], (), bs', [], rfl, hd, ⟨[], bs', rfl, ⟨rfl, hd0⟩, bs', [], by simp, nn (hX.move h1 (fun z hz => ?_) (fun z hz => ?_)) b, rfl⟩, by simp, rfl, rfl⟩
     ·exact hfr.block z (hpre.no z (by simp [hz])).2 fun e => by subst e; exact hnd.1 hz
     ·exact hfr.block z (hpre.rlt z (hpre.sub z hz)) fun e => by subst e; exact hnb.1 (hpre.sub z hz)
    ·have := hpre.no z (by simpa using hz)
     exact ⟨fun hr => this.1 (hpre.sub z hr), Nat.lt_of_lt_of_le this.2 hfr.size, .inr (by simpa using hz)⟩
   refine .inr ⟨hen _ _, ?_⟩
   rcases h0 with rfl | rfl
   ·have hsh : w.shape? b = some (tb, 2) := by unfold World.shape?; rw [hheap']; rfl
    have hfz : w.frozen? ⟨b, 0, none⟩ = false := by unfold World.frozen?; rw [show (⟨b, 0, none⟩ : Addr).block = b from rfl, hheap']; simp
    refine (hf b w hcell hsh hfz).mono ?_
    rintro e w' ⟨rfl, rfl⟩
    exact ⟨_, rfl, _, Rt, _, _, _, _, h, hv ▸ mk _ (uL w b _) ⟨_, by rw [o6 w b _ tb (0, 0) _ hheap']; rfl, .inr rfl⟩⟩
   ·refine (hu b w hcell).mono ?_
    rintro e w' ⟨rfl, rfl⟩
    exact ⟨_, rfl, _, Rt, _, _, _, _, h, hv ▸ mk _ (Fr.refl _ _) ⟨_, hheap', .inr rfl⟩⟩
  | [], hc => exact hc.elim
  | [_], ⟨_, _, _, _, hc⟩ => exact hc.elim
  | _ :: _ :: _ :: _, ⟨_, _, _, _, _, _, _, _, hc⟩ => exact hc.elim
 | [], hc => exact hc.elim
 | _ :: _ :: _, ⟨_, _, _, _, hc⟩ => exact hc.elim
end Go.Proofs.Ab
namespace Go.Proofs.Ab
open Go
variable {R : Type} {P : Program} {T : Nat -> Option TI} {tab : bO} {g : FuncId}
theorem yN {args : List SV} {κ : List SV -> Option R} {b : Bool} {o : Option R} (h : b = true -> aa P T tab g args κ o) : aa P T tab g args κ (bB b o) := by
 cases b with
 | false => exact aa.none
 | true => exact h rfl
theorem An {w : World} {b t : Nat} {v : Value} {cs : Array Value} {fz : Nat × Nat} (hv : cs[0]? = some v) (h : w.heap[b]? = some (.cells cs t fz)) : w.cell? ⟨b, 0, none⟩ = some v := by
 rw [cell_of_row w b 0 _ t fz h]; exact hv
theorem vr (hen : ∀ vs w, (callFunc g vs).run P w = .ok (.enter g vs) w) {args : List SV} {vals : Array Value} (hn : ∀ x ∈ args, ∀ ty l, x ≠ .vp ty l)
  (hv : ∀ (w : World) (vs : Array Value) (Rt Ra : Nat -> Prop) (bs : List Nat), Pre T tab w args vs.toList Rt Ra bs -> vs = vals) (x : SV) {v : Value}
  (hc : ∀ w : World, (∀ b ob, tab b = some ob -> w.heap[b]? = some ob) -> Calls P g vals w fun e w' => e = .returned v /\ w' = w) (hx : ∀ c, CR c x v []) (κ : List SV -> Option R) : aa P T tab g args κ (κ [x]) := by
 intro r h w vs Rt Ra bs hpre
 obtain rfl := hv w vs Rt Ra bs hpre
 refine .inr ⟨hen _ _, (hc w fun b ob hb => (hpre.tab b ob hb).1).mono ?_⟩
 rintro e w' ⟨rfl, rfl⟩
 exact ⟨_, rfl, _, Rt, _, [], [], [], h, o4.plain hpre hn (hx _)⟩
theorem vJ (hen : ∀ vs w, (callFunc g vs).run P w = .ok (.enter g vs) w) (a0 a1 : ByteArray) (x : SV) {v : Value}
  (hc : ∀ w : World, (∀ b ob, tab b = some ob -> w.heap[b]? = some ob) -> Calls P g #[.string a0, .string a1] w fun e w' => e = .returned v /\ w' = w) (hx : ∀ c, CR c x v []) (κ : List SV -> Option R) : aa P T tab g [.str a0, .str a1] κ (κ [x]) := by
 refine vr hen (by simp) (fun w vs Rt Ra bs hpre => ?_) x hc hx κ
 have hc := hpre.cat
 apply Array.ext'
 match h2 : vs.toList, hc with
 | [v0, v1], ⟨_, _, _, h0, _, _, _, h1, _⟩ => rw [qX h0, qX h1]
 | [], hc => exact hc.elim
 | [_], ⟨_, _, _, _, hc⟩ => exact hc.elim
 | _ :: _ :: _ :: _, ⟨_, _, _, _, _, _, _, _, hc⟩ => exact hc.elim
end Go.Proofs.Ab
namespace Go.Proofs.Ab
open Go Go.RowKit
def te (w : World) (b : Nat) (cs : Array Value) : World :=
 { w with heap := w.heap.modify b fun
   | .cells _ t fz => .cells cs t fz
   | o => o }
def AH : List SV -> Option Bool
 | [.bool b] => some b
 | _ => none
theorem w9 {l : List SV} (h : AH l = some true) : l = [.bool true] := by
 unfold AH at h; split at h
 ·cases h; rfl
 ·cases h
theorem xM {P : Program} {T : Nat -> Option TI} {tab : bO} {g : FuncId} {args : List SV} {vals : Array Value} {o : Option Bool} (hen : ∀ vs w, (callFunc g vs).run P w = .ok (.enter g vs) w)
  (hd : aa P T tab g args AH o) (ho : o = some true) {W : World} {Rt Ra : Nat -> Prop} (hpre : Pre T tab W args vals.toList Rt Ra []) : Calls P g vals W fun e W' => e = .returned (.bool true) /\ Below W.heap.size W W' := by
 rcases hd true ho W vals Rt Ra [] hpre with ⟨v, w', hr, _⟩ | ⟨_, hc⟩
 ·rw [hen] at hr; cases hr
 ·refine hc.mono ?_
  rintro e w' ⟨v, rfl, res, Rt', v0, back, b1, b2, hk, hp⟩
  have h1 := w9 hk
  have h2 := hp.res
  rw [h1] at h2
  have hv0 : v0 = .bool true := by cases back <;> simp at h2; exact h2.symm
  have h3 := hp.r
  rw [hv0] at h3
  have h4 : v = .bool true := h3.2.2.2
  subst h4
  exact ⟨rfl, hp.fr.os, hp.fr.tape, hp.fr.output, hp.fr.size, fun k hk => hp.fr.block k hk (by simp)⟩
def Am (W : World) : bO := fun b => if b = 0 then W.heap[0]? else none
theorem Eh {T : Nat -> Option TI} {W : World} {args : List SV} {vals : List Value} {Ra : Nat -> Prop} (hc : je (CV (cc T W (fun b => b = 0) Ra)) args vals []) (h0 : 0 < W.heap.size) (hr : ∀ b, Ra b -> b < W.heap.size) (hs : Ra 0) : Pre T (Am W) W args vals (fun b => b = 0) Ra [] := by
 refine ⟨hc, by simp, by simp, fun b hb => by rw [hb]; exact hs, hr, fun b ob hb => ?_⟩
 unfold Am at hb
 split at hb
 ·rename_i e; subst e; exact ⟨hb, rfl⟩
 ·cases hb
theorem BB {W : World} {m : Int} (h : W.cell? ⟨0, 0, none⟩ = some (.int .i64 m)) : ∃ m cs t fz, Am W 0 = some (.cells cs t fz) /\ cs[0]? = some (.int .i64 m) := by
 unfold World.cell? at h
 split at h
 ·rename_i cs t fz hb
  have h' : cs[0]? = some (.int .i64 m) := by simpa using h
  exact ⟨m, cs, t, fz, by unfold Am; rw [if_pos rfl]; exact hb, h'⟩
 ·cases h
theorem wS {W : World} {m : Int} (h : W.cell? ⟨0, 0, none⟩ = some (.int .i64 m)) : 0 < W.heap.size := by
 unfold World.cell? at h
 split at h
 ·rename_i cs t fz hb; exact (Array.getElem?_eq_some_iff.1 hb).1
 ·cases h
end Go.Proofs.Ab
namespace Go.Proofs.Ab
open Go Go.RowKit
variable {H : Type} {enc : TypeId × Value -> H} {P : Program} {w w' : World} {sp : Nat -> Bool} {held : Bool}
end Go.Proofs.Ab
namespace Go.Proofs.Ab
open Go Go.RowKit
variable {H : Type} {enc : TypeId × Value -> H} {P : Program} {w w' : World} {sp : Nat -> Bool} {held : Bool}
inductive Fit (N : Nat) : AV -> Prop
 | no : Fit N .no
 | int (n : Int) : Fit N (.int n)
 | bool (b : Bool) : Fit N (.bool b)
 | str (s : ByteArray) : s.size <= N -> Fit N (.str s)
 | sl (l : List AV) : (∀ a ∈ l, Fit N a) -> Fit N (.sl l)
 | agg (l : List AV) : (∀ a ∈ l, Fit N a) -> Fit N (.agg l)
theorem Fit.s {N : Nat} {a : AV} (h : Fit N a) : a.s.size <= N := by cases h <;> first | assumption | exact Nat.zero_le _
theorem Fit.l {N : Nat} {a : AV} (h : Fit N a) : ∀ b ∈ a.l, Fit N b := by
 cases h with
 | sl l h => exact h
 | agg l h => intro b hb; cases hb
 | _ => intro b hb; cases hb
theorem Fit.fld {N : Nat} {a : AV} (h : Fit N a) (j : Nat) : Fit N (a.fld j) := by
 cases h with
 | agg l h =>
  show Fit N (l.getD j .no)
  rw [List.getD_eq_getElem?_getD]
  cases e : l[j]? with
  | none => exact .no
  | some b => exact h b (List.mem_of_getElem? e)
 | _ => exact .no
end Go.Proofs.Ab
