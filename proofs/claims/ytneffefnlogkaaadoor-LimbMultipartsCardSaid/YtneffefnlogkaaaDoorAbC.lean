/- The abstract machine: a run of a function's code over data without memory, and the proof that whatever this run says is what a call does (conditions: those of each lemma). -/
import Derived.Test.YtneffefnlogkaaaDoorAbB
import Derived.Laws.Sem
import Derived.Laws.Externs
import Derived.Lib.Bytealg
import Derived.Shelf.Strings.Search2
import Derived.Below
import Derived.ChangeArms
import Derived.ChangeShapes
import Derived.SizedLaws
import Derived.CallsIn
import Derived.ControlIn
import Derived.RangeFuncIn
import Derived.RangeFuncCalls
import Derived.TacticsIn
import Derived.RangeFuncRecord
import Derived.RangeFuncSeq
set_option linter.unusedVariables false
set_option linter.unusedSimpArgs false
set_option maxRecDepth 4000
namespace Go.Proofs.Ab
open Go
variable {R:Type}
section
variable {P:Program} {E:Env} {s:St} {a:Act} {w:World} {β : Nat->Bl} {Rt Ra:Nat->Prop} {r:R} {C:Cfg R} {tab:cb}
def Dh (tmps:Array Value):ResultVar->Sem Value
 | .tmp t=>pure (tmps.getD t undef)
 | .cell k t=>do loadVar t (<- asAddr (tmps.getD k undef))
theorem u9 (fn:Func) (tmps:Array Value):results fn tmps=(do
  let vs <- fn.results.mapM (Dh tmps)
  pure (if h:vs.size=1 then vs[0] else .tuple vs)):=rfl
theorem u7 (hP:Ok P C.ty) (hE:E.T=C.ty) (h:Rel E s a w β Rt Ra) {x:ResultVar} {y:SV} (hx:Bj C s x=some y):∃ v,(Dh a.tmps x).run P w = .ok v w/\S2 (bg E s w β Rt Ra) y v:=by
 cases x with
 | tmp t =>
  simp only [Bj] at hx;cases hx
  exact ⟨_,rfl,h.slots t⟩
 | cell k t =>
  simp only [Bj] at hx
  split at hx
  ·rename_i T hT
   split at hx
   ·rename_i u off hk
    have hs:=h.slots k
    rw [hk] at hs
    obtain ⟨_,hv⟩:_/\a.tmps.getD k undef=_:=hs
    simp only [loadAt] at hx
    split at hx
    ·rename_i ty ls ho
     obtain ⟨hkn,hx⟩:=bD hx
     obtain ⟨cs,qq,hg,hpw⟩:=h.objs u _ ho
     have hsub:PW (SL (bg E s w β Rt Ra)) (sub ls off T.sz) ((cs.toList.drop off).take T.sz) :=
      PW.imp_mem (fun z hz v hv=>ir (List.all_eq_true.mp hkn z hz) hv) ((hpw.drop off).take T.sz)
     obtain ⟨v,hr,hs⟩:=jm (hP.ty t T hT) hx hsub (w:=w) (p:=⟨(β u).b,off,none⟩) (fun j v hj=>by
      rw [add_plain,cell_of_row w _ _ cs _ (0,0) hg]
      rw [List.getElem?_take] at hj
      split at hj
      ·rw [List.getElem?_drop] at hj;simpa using hj
      ·cases hj)
     refine ⟨v,?_,cB hs⟩
     simp only [Instr.loadAt,Instr.sureAddr,Sem.run_bind,Sem.run_pure,Result.andThen_ok] at hr
     show Sem.run P (do loadVar t (<- asAddr (a.tmps.getD k undef))) w=_
     rw [hv]
     simp only [asAddr,Sem.run_bind,Sem.run_pure,Result.andThen_ok]
     exact hr
    ·cases hx
   ·rename_i u n hk
    have hs:=h.slots k
    rw [hk] at hs
    obtain ⟨_,g,cap,e1,hv⟩:_/\∃ g cap,(β u).v=_/\a.tmps.getD k undef = .pointer (some _):=hs
    simp only [loadAt] at hx
    split at hx
    ·rename_i el l st hob
     split at hx
     ·rename_i kk hkk
      obtain ⟨a1,a2,a3,D,hD,a4,a5,a6,a7⟩:=eL hkk
      obtain ⟨hb,hx⟩:=bD hx
      cases hx
      simp only [Bool.and_eq_true] at hb
      have he:=Nat.eq_of_beq_eq_true hb.1;have hll:=Nat.eq_of_beq_eq_true hb.2
      subst he
      obtain ⟨T',cs,hT',hsz,hown,hrc⟩:=h.objs u _ hob
      have hT'':C.ty T.elem=some T':=by rw [<- hE];exact hT'
      rw [hD] at hT'';cases hT''
      rw [e1] at hown
      have hlen:=hown.1
      have hnl:n=l.length:=by
       rcases eg hown with ⟨hv,_⟩|⟨_,_,hv,_⟩
       ·cases hv
       ·cases hv;rfl
      have hsz1:D.sz=1:=by unfold TI.sz;rw [a4];rfl
      have hfl:D.flat=true:=by unfold TI.flat;rw [a4];simp [a6]
      refine ⟨.agg cs.toArray,?_,cB (cL ⟨hnl.symm,D,cs.toArray,hT',hfl,rfl,by simp [hlen],RC.flat hfl (by simpa using hrc)⟩)⟩
      have:=run_loadCells_list (P:=P) w ⟨g,0,none⟩ cs (fun j v hj=>by rw [add_plain,Nat.zero_add];exact eS hown j v hj)
      rw [hlen,hsz1,Nat.mul_one,<- hnl,hll] at this
      show Sem.run P (do loadVar t (<- asAddr (a.tmps.getD k undef))) w=_
      rw [hv]
      simp only [asAddr,Sem.run_bind,Sem.run_pure,Result.andThen_ok]
      simp [loadVar,eU (hP.ty t T hT),a1,dQ (hP.ty t T hT),this]
     ·cases hx
    ·cases hx
   ·cases hx
  ·cases hx
theorem om (hP:Ok P C.ty) (hE:E.T=C.ty) (h:Rel E s a w β Rt Ra):∀ (l:List ResultVar) (ys:List SV),zR C s l=some ys->∃ vs:List Value,(l.mapM (Dh a.tmps)).run P w = .ok vs w/\PW (S2 (bg E s w β Rt Ra)) ys vs
 | [],ys,hl=>by cases hl;exact ⟨[],rfl,trivial⟩
 | x::l,ys,hl=>by
  simp only [zR] at hl
  split at hl
  ·rename_i y zs h1 h2
   cases hl
   obtain ⟨v,hv,hs⟩:=u7 hP hE h h1
   obtain ⟨vs,hvs,hp⟩:=om hP hE h l zs h2
   refine ⟨v::vs,?_,hs,hp⟩
   rw [List.mapM_cons]
   simp only [Sem.run_bind]
   rw [hv];simp only [Result.andThen_ok]
   rw [hvs];rfl
  ·cases hl
theorem oR (hP:Ok P C.ty) (hE:E.T=C.ty) (h:Rel E s a w β Rt Ra) {fn:Func} {ys:List SV} (hl:zR C s fn.results.toList=some ys):∃ vs:List Value,(results fn a.tmps).run P w = .ok (match vs with|[v]=>v|_ => .tuple vs.toArray) w/\PW (S2 (bg E s w β Rt Ra)) ys vs:=by
 obtain ⟨vs,hvs,hp⟩:=om hP hE h _ ys hl
 refine ⟨vs,?_,hp⟩
 rw [u9]
 simp only [Sem.run_bind]
 rw [Array.mapM_eq_mapM_toList]
 simp only [map_eq_pure_bind,Sem.run_bind]
 rw [hvs]
 simp only [Result.andThen_ok,Sem.run_pure]
 match vs with
 | []=>rfl
 | [v]=>rfl
 | _::_::_=>simp
theorem ve {x:SV} {v:Value} (hk:known x=true) (hst:xJ x=true) (ht:tok x=none) (hrl:∀ e l st i off,x ≠ .rl e l st i off) (h:SL (bg E s w β Rt Ra) x v):CL (cc E.T w Rt Rt) x v []:=by
 refine oZ ht (fun e=>by subst e;cases hk) (fun e l st e'=>by subst e';cases hk) ?_
 cases x <;> simp only [SL] at h ⊢ <;> first|exact h|(cases ht;done)|skip
 case ro e l st =>
  have:st=true:=hst
  subst this
  exact h.mono (fun b hq=>by unfold Cx.Q at hq ⊢;rw [if_pos rfl] at hq ⊢;exact hq) (fun _ _=>rfl)
 case rl e l st i off=>exact absurd rfl (hrl _ _ _ _ _)
 case cls g ts =>
  cases ts with
  | nil=>exact ⟨fun t ht=>(by cases ht),h.2⟩
  | cons _ _=>cases ht
 case ra e n l st=>cases hk
theorem iO (h:Rel E s a w β Rt Ra) {x y:SV} {v:Value} (hx:SL (bg E s w β Rt Ra) x v) (hc:gJ s x=some y):CL (cc E.T w Rt Rt) y v ((owns [x]).flatMap (tb s β)):=by
 unfold gJ at hc
 split at hc
 ·rename_i e n l
  cases hc
  refine oZ rfl (by simp) (by simp) ?_
  obtain ⟨h0,D,cs,h1,h2,h3,h4,h5⟩:=hx
  exact ⟨h0,D,cs,h1,h2,h3,h4,h5.mono (fun _ hq=>hq) (fun _ hq=>hq.elim)⟩
 ·rename_i t
  split at hc
  ·rename_i e l ho
   cases hc
   obtain ⟨D,cs,hT,hsz,hown,hrc⟩:=h.objs t _ ho
   obtain ⟨_,hv,_,harr⟩:_/\v=(β t).v/\_/\(β t).arr=false:=hx
   have hown:dO w (β t).arr e D.sz (β t).v l.length cs:=hown
   rw [harr] at hown
   refine ⟨D,cs,hT,hv▸hown,?_,?_⟩
   ·refine hrc.mono (fun b hq => ?_) (fun _ _=>rfl)
    unfold Cx.Q at hq ⊢;rw [if_pos rfl] at hq ⊢;exact hq
   ·simp only [owns,List.flatMap_cons,List.flatMap_nil,List.append_nil,tb,ho,bK,hv]
  ·cases hc
 ·cases hc
 ·cases hc
 ·cases hc
 ·cases hc
 ·cases hc
 ·cases hc
 ·cases hc
 ·rename_i hn0 hn1 hn2 hn3 hn4 hn5 hn6 hn7 hn8
  obtain ⟨hk,rfl⟩:=ld hc
  simp only [Bool.and_eq_true] at hk
  have ho:owns [x]=[]:=by cases x <;> first|rfl|exact absurd rfl (hn1 _)
  rw [ho]
  refine ve hk.1 hk.2 ?_ hn5 hx
  cases x <;> first|rfl|exact absurd rfl (hn6 _ _)|exact absurd rfl (hn7 _ _)|exact absurd rfl (hn8 _)|exact absurd rfl (hn1 _)|exact absurd rfl (hn2 _ _ _)|exact absurd rfl (hn3 _ _)|exact absurd rfl (hn4 _ _ _)|cases hk.1
theorem mu (h:Rel E s a w β Rt Ra):∀ (l:List SV) (vs:List Value) (ys:List SV),PW (SL (bg E s w β Rt Ra)) l vs->qh s l=some ys->ie (CL (cc E.T w Rt Rt)) ys vs ((owns l).flatMap (tb s β))
 | [],[],ys,_,hc=>by cases hc;rfl
 | x::l,v::vs,ys,hp,hc=>by
  unfold qh at hc
  split at hc
  ·rename_i y zs h1 h2
   cases hc
   rw [gF,List.flatMap_append]
   exact ⟨_,_,rfl,iO h hp.1 h1,mu h l vs zs hp.2 h2⟩
  ·cases hc
 | [],_::_,_,hp,_=>hp.elim
 | _::_,[],_,hp,_=>hp.elim
theorem oz (x:SV) (l ys:List SV) (hc:fi s (x::l)=some ys):∃ y zs,ys=y::zs/\fi s l=some zs/\((x = .no/\y = .no)∨(x = .nos/\y = .nos)∨(∃ t,x = .own t/\s.obj t=some .hole/\y = .no)∨gJ s x=some y):=by
 by_cases h1:x = .no
 ·subst h1;simp only [fi] at hc
  split at hc
  ·rename_i zs h2;cases hc;exact ⟨_,_,rfl,h2,.inl ⟨rfl,rfl⟩⟩
  ·cases hc
 ·by_cases h2:x = .nos
  ·subst h2;simp only [fi] at hc
   split at hc
   ·rename_i zs h2;cases hc;exact ⟨_,_,rfl,h2,.inr (.inl ⟨rfl,rfl⟩)⟩
   ·cases hc
  ·by_cases h3:∃ t,x = .own t
   ·obtain ⟨t,rfl⟩:=h3
    simp only [fi] at hc
    split at hc
    ·rename_i ho
     split at hc
     ·rename_i zs g;cases hc;exact ⟨_,_,rfl,g,.inr (.inr (.inl ⟨t,rfl,ho,rfl⟩))⟩
     ·cases hc
    ·split at hc
     ·rename_i y zs g1 g2;cases hc;exact ⟨_,_,rfl,g2,.inr (.inr (.inr g1))⟩
     ·cases hc
   ·have e:fi s (x::l)=(match gJ s x,fi s l with
     | some y,some l=>some (y::l)
     | _,_=>none):=by cases x <;> first|rfl|exact absurd rfl h1|exact absurd rfl h2|exact absurd ⟨_,rfl⟩ h3
    rw [e] at hc
    split at hc
    ·rename_i y zs g1 g2;cases hc;exact ⟨_,_,rfl,g2,.inr (.inr (.inr g1))⟩
    ·cases hc
theorem mr (h:Rel E s a w β Rt Ra) {b:Nat}:∀ (l:List SV) (vs:List Value) (ys:List SV),PW (jP (bg E s w β Rt Ra) b) l vs->fi s l=some ys->ie (xP (cc E.T w Rt Rt) b) ys vs ((owns l).flatMap (tb s β))
 | [],[],ys,_,hc=>by cases hc;rfl
 | x::l,v::vs,ys,hp,hc=>by
  obtain ⟨y,zs,rfl,h2,h3⟩:=oz x l ys hc
  rw [gF,List.flatMap_append]
  refine ⟨_,_,rfl,?_,mr h l vs zs hp.2 h2⟩
  rcases h3 with ⟨rfl,rfl⟩|⟨rfl,rfl⟩|⟨t,rfl,ho,rfl⟩|h3
  ·exact ⟨rfl,rfl,by simp,trivial⟩
  ·exact ⟨rfl,hp.1⟩
  ·have e:(owns [SV.own t]).flatMap (tb s β)=[]:=by simp [owns,tb,ho,bK]
   rw [e];exact ⟨rfl,rfl,by simp,trivial⟩
  ·exact mV (iO h (qA hp.1) h3) b
 | [],_::_,_,hp,_=>hp.elim
 | _::_,[],_,hp,_=>hp.elim
theorem xG (l:List SV):gJ s (.tup l)=none:=rfl
theorem tz (h:Rel E s a w β Rt Ra) {x y:SV} {v:Value} (hx:S2 (bg E s w β Rt Ra) x v) (hc:qj s x=some y):vk (cc E.T w Rt Rt) y v ((owns (leaves x)).flatMap (tb s β)):=by
 rcases fh x with ⟨l,rfl⟩|h1
 ·simp only [qj] at hc
  split at hc
  ·rename_i ys hl;cases hc
   obtain ⟨cs,rfl,hp⟩:=gO hx
   exact ⟨cs,rfl,mu h l _ ys hp hl⟩
  ·cases hc
 ·have e:qj s x=gJ s x:=by cases x <;> first|rfl|exact absurd rfl (h1 _)
  rw [e] at hc
  rw [jK h1]
  have h3:∀ l,x ≠ .tup l:=fun l e=>by subst e;rw [xG] at hc;cases hc
  exact xW (iO h (vm h1 (vn h3 hx)) hc)
theorem mq (h:Rel E s a w β Rt Ra):∀ (l:List SV) (vs:List Value) (ys:List SV),PW (S2 (bg E s w β Rt Ra)) l vs->oy s l=some ys->ie (vk (cc E.T w Rt Rt)) ys vs ((dz l).flatMap (tb s β))
 | [],[],ys,_,hc=>by cases hc;rfl
 | x::l,v::vs,ys,hp,hc=>by
  unfold oy at hc
  split at hc
  ·rename_i y zs h1 h2
   cases hc
   rw [dz,List.flatMap_append]
   exact ⟨_,_,rfl,tz h hp.1 h1,mq h l vs zs hp.2 h2⟩
  ·cases hc
 | [],_::_,_,hp,_=>hp.elim
 | _::_,[],_,hp,_=>hp.elim
def Bh (s:St):List Nat->List Nat
 | []=>[]
 | k::r=>k::(match s.obj k with
  | some (.var _ ls)=>owns ls
  | _=>[])++Bh s r
theorem tj (s:St):∀ (l:List Nat),(Bh s l).Perm (l++jE s l)
 | []=>List.Perm.refl _
 | k::r=>by
  simp only [Bh,jE,List.cons_append]
  refine List.Perm.cons _ ?_
  refine ((tj s r).append_left _).trans ?_
  rw [<- List.append_assoc,<- List.append_assoc]
  exact List.perm_append_comm.append_right _
theorem gR (h:Rel E s a w β Rt Ra) {c0:Cx}:∀ (args:List SV) (vs:List Value) (bs:List Nat) (k:Nat) (back:List SV),ie (CV c0) args vs bs->(∀ i b,(dm args vs)[i]? = some b->E.pb (k+i)=b)->k+vars args<=64->gQ s (List.range' k (vars args))=some back ->
  CB (cc E.T w Rt Rt) args vs back ((Bh s (List.range' k (vars args))).flatMap (tb s β))
 | [],[],bs,k,back,_,_,_,hb=>by
  simp only [vars,List.range'_zero,gQ] at hb;cases hb;exact ⟨rfl,rfl⟩
 | x::args,v::vs,bs,k,back,hc,hpb,hk,hb=>by
  obtain ⟨b1,b2,rfl,hx,hr⟩:=hc
  by_cases hv:∃ ty l,x = .vp ty l
  ·obtain ⟨ty,l0,rfl⟩:=hv
   have hvar:vars (SV.vp ty l0::args)=vars args+1:=rfl
   rw [hvar,List.range'_succ] at hb ⊢
   rw [hvar] at hk
   obtain ⟨b,_,_,_,rfl,_,_,_⟩:=hx
   simp only [gQ] at hb
   split at hb
   ·rename_i ty' ls bk ho hrest
    split at hb
    ·rename_i us hs
     cases hb
     obtain ⟨cs,q,hh,hp⟩:=h.objs k _ ho
     have eb:(β k).b=b:=by
      rw [h.pin k _ ho (by omega)];exact hpb 0 b rfl
     refine ⟨b,cs,q,_,_,rfl,by rw [<- eb];exact hh,by rw [<- eb];exact mr h ls _ us hp hs,?_,gR h args vs b2 (k+1) bk hr (fun i b' hb'=>by rw [show k+1+i=k+(i+1) by omega];exact hpb (i+1) b' hb') (by omega) hrest⟩
     simp only [Bh,ho,List.cons_append,List.flatMap_cons,List.flatMap_append]
     rw [show tb s β k=[b] by unfold tb;rw [ho];simp [bK,eb]]
     simp
    ·cases hb
   ·cases hb
  ·have hv':∀ ty l,x ≠ .vp ty l:=fun ty l e=>hv ⟨ty,l,e⟩
   rw [wv hv'] at hb hk ⊢
   have hvb:dm (x::args) (v::vs)=dm args vs:=by cases x <;> first|rfl|exact absurd rfl (hv' _ _)
   rw [hvb] at hpb
   rw [oY _ hv']
   exact gR h args vs b2 k back hr hpb hk hb
 | [],_::_,_,_,_,h,_,_,_=>h.elim
 | _::_,[],_,_,_,h,_,_,_=>h.elim
theorem mZ:∀ (ps:List Nat) {back:List SV},gQ s ps=some back->∀ k∈ps,∃ ty ls us,s.obj k=some (.var ty ls)/\fi s ls=some us
 | [],_,_,k,hk=>by cases hk
 | p::r,back,hb,k,hk=>by
  simp only [gQ] at hb
  split at hb
  ·rename_i ty ls bk ho hrest
   split at hb
   ·rename_i us hs
    rcases List.mem_cons.1 hk with rfl|hk
    ·exact ⟨ty,ls,us,ho,hs⟩
    ·exact mZ r hrest k hk
   ·cases hb
  ·cases hb
theorem lO {x y:SV} (hc:gJ s x=some y):∀ t∈owns [x],∃ e l st,s.obj t=some (.row e l st):=by
 intro t ht
 cases x <;> simp only [owns,List.not_mem_nil] at ht
 simp only [List.mem_singleton] at ht;subst ht
 simp only [gJ] at hc
 split at hc
 ·exact ⟨_,_,_,by assumption⟩
 ·cases hc
theorem qi:∀ {l ys:List SV},qh s l=some ys->∀ t∈owns l,∃ e l st,s.obj t=some (.row e l st)
 | [],_,_,t,ht=>by cases ht
 | x::l,ys,hc,t,ht=>by
  unfold qh at hc
  split at hc
  ·rename_i y zs h1 h2
   rw [gF] at ht
   rcases List.mem_append.1 ht with ht|ht
   ·exact lO h1 t ht
   ·exact qi h2 t ht
  ·cases hc
theorem qg:∀ {l ys:List SV},fi s l=some ys->∀ t∈owns l,∀ ty ls,s.obj t≠some (.var ty ls)
 | [],_,_,t,ht=>by cases ht
 | x::l,ys,hc,t,ht=>by
  obtain ⟨y,zs,rfl,h2,h3⟩:=oz x l ys hc
  rw [gF] at ht
  rcases List.mem_append.1 ht with ht|ht
  ·rcases h3 with ⟨rfl,_⟩|⟨rfl,_⟩|⟨u,rfl,ho,_⟩|h3
   ·cases ht
   ·cases ht
   ·simp only [owns,List.mem_singleton] at ht;subst ht
    intro ty ls e;rw [ho] at e;cases e
   ·obtain ⟨_,_,_,e1⟩:=lO h3 t ht
    intro ty ls e;rw [e1] at e;cases e
  ·exact qg h2 t ht
theorem qf:∀ {l ys:List SV},oy s l=some ys->∀ t∈dz l,∃ e l st,s.obj t=some (.row e l st)
 | [],_,_,t,ht=>by cases ht
 | x::l,ys,hc,t,ht=>by
  unfold oy at hc
  split at hc
  ·rename_i y zs h1 h2
   rw [dz] at ht
   rcases List.mem_append.1 ht with ht|ht
   ·rcases fh x with ⟨l',rfl⟩|hx
    ·simp only [qj] at h1
     split at h1
     ·rename_i hl;exact qi hl t ht
     ·cases h1
    ·have e:qj s x=gJ s x:=by cases x <;> first|rfl|exact absurd rfl (hx _)
     rw [e] at h1;rw [jK hx] at ht
     exact lO h1 t ht
   ·exact qf h2 t ht
  ·cases hc
theorem nZ:∀ (ps:List Nat) {back:List SV},gQ s ps=some back->∀ t∈jE s ps,∀ ty ls,s.obj t≠some (.var ty ls)
 | [],_,_,t,ht=>by cases ht
 | p::r,back,hb,t,ht=>by
  simp only [gQ] at hb
  split at hb
  ·rename_i ty ls bk ho hrest
   split at hb
   ·rename_i us hs
    simp only [jE,ho] at ht
    rcases List.mem_append.1 ht with ht|ht
    ·exact qg hs t ht
    ·exact nZ r hrest t ht
   ·cases hb
  ·cases hb
end
end Go.Proofs.Ab
namespace Go.Proofs.Ab
open Go
variable {R:Type}
section
variable {P:Program} {C:Cfg R} {tab:cb} {r:R}
theorem rq (n:Nat):List.range n=List.range' 0 n:=List.range_eq_range'
theorem enters {g:Nat} {fn:Func} {c:Code} (hf:P.funcs[g]? = some fn) (hb:fn.body=some c) (hn:(fn.name == "runtime.NumGoroutine")=false) (vs:Array Value) (w:World):(callFunc g vs).run P w = .ok (.enter g vs) w:=by
 have hn':fn.name ≠ "runtime.NumGoroutine" := by simpa using hn
 unfold callFunc
 simp [hf,hb,hn']
theorem oq (hP:Ok P C.ty) {E:Env} (hE:E.T=C.ty) {s:St} {a:Act} {w:World} {β : Nat->Bl} {Rt Ra:Nat->Prop} (h:Rel E s a w β Rt Ra) {fn:Func} {args:List SV} {vs:List Value} {c0:Cx} {bs:List Nat} {κ : List SV->Option R} (hcat:ie (CV c0) args vs bs) (hpb:∀ i b,(dm args vs)[i]? = some b->E.pb i=b) (hn:vars args<=64)
  (hk:oS C fn.results.toList (List.range (vars args)) κ s=some r):∃ v res v0 back b1 b2,(results fn a.tmps).run P w = .ok v w/\κ res=some r/\res=v0::back/\CR (cc E.T w Rt Rt) v0 v b1/\CB (cc E.T w Rt Rt) args vs back b2/\(b1++b2).Nodup/\∀ b∈b1++b2,¬ Ra b/\b<w.heap.size/\(E.w0.heap.size<=b∨E.W0 b):=by
 unfold oS at hk
 split at hk
 ·rename_i ys back hres hback
  obtain ⟨hdis,hk⟩:=bD hk
  replace hdis:=dL hdis
  obtain ⟨us,hrun,hpw⟩:=oR hP hE h hres
  have hrows2:=nZ _ hback
  have hvars:=mZ _ hback
  have hcb:CB (cc E.T w Rt Rt) args vs back ((Bh s (List.range (vars args))).flatMap (tb s β)):=by
   rw [rq] at hback ⊢
   exact gR h args vs bs 0 back hcat (fun i b hb=>by rw [Nat.zero_add];exact hpb i b hb) (by omega) hback
  have main:∀ zs,oy s ys=some zs->ie (vk (cc E.T w Rt Rt)) zs us ((dz ys).flatMap (tb s β))/\((dz ys).flatMap (tb s β)++(Bh s (List.range (vars args))).flatMap (tb s β)).Nodup/\∀ b∈(dz ys).flatMap (tb s β)++(Bh s (List.range (vars args))).flatMap (tb s β),¬ Ra b/\b<w.heap.size/\(E.w0.heap.size<=b∨E.W0 b):=by
   intro zs hz
   have hrows:=qf hz
   refine ⟨mq h ys us zs hpw hz,?_,?_⟩
   ·rw [<- List.flatMap_append]
    refine jc h.toRelO ?_
    have hp:(dz ys++Bh s (List.range (vars args))).Perm (List.range (vars args)++(dz ys++jE s (List.range (vars args)))) :=
     ((tj s _).append_left _).trans (by rw [<- List.append_assoc,<- List.append_assoc];exact List.perm_append_comm.append_right _)
    rw [hp.nodup_iff,List.nodup_append]
    refine ⟨List.nodup_range,hdis,fun k hk t ht e => ?_⟩
    subst e
    obtain ⟨ty,ls,_,ho,_⟩:=hvars k hk
    rcases List.mem_append.1 ht with ht|ht
    ·obtain ⟨_,_,_,h2⟩:=hrows k ht;rw [ho] at h2;cases h2
    ·exact hrows2 k ht _ _ ho
   ·intro b hb
    rw [<- List.flatMap_append] at hb
    obtain ⟨t,_,hb⟩:=List.mem_flatMap.1 hb
    unfold tb at hb;split at hb
    ·rename_i o ho
     obtain ⟨g1,g2,g3⟩:=h.cx t o ho b hb
     exact ⟨g2,g1,g3⟩
    ·cases hb
  split at hk
  ·rename_i v0 hz
   obtain ⟨m1,m2,m3⟩:=main _ hz
   match us,m1,hrun with
   | [],m1,_=>exact m1.elim
   | _::_::_,⟨_,_,_,_,m1⟩,_=>exact m1.elim
   | [u],⟨b1,b2,e,m1,e2⟩,hrun =>
    have e2:b2=[]:=e2
    subst e2;rw [List.append_nil] at e
    refine ⟨u,_,v0,back,b1,_,hrun,hk,rfl,?_,hcb,by rw [<- e];exact m2,by rw [<- e];exact m3⟩
    have hnt:∀ l,v0 ≠ .tup l:=fun l e=>by subst e;exact m1.2.2.2
    unfold CR;split
    ·exact absurd rfl (hnt _)
    ·exact m1
  ·rename_i zs hne hz
   obtain ⟨m1,m2,m3⟩:=main _ hz
   have hrun':(results fn a.tmps).run P w = .ok (.tuple us.toArray) w:=by
    match us,m1,hrun with
    | [],_,hrun=>exact hrun
    | _::_::_,_,hrun=>exact hrun
    | [u],m1,_ =>
     have:=m1.len
     match zs,this,hne with
     | [z],_,hne=>exact (hne z rfl).elim
   refine ⟨_,_,.tup zs,back,_,_,hrun',hk,rfl,⟨us.toArray,rfl,by simpa using m1⟩,hcb,m2,m3⟩
  ·cases hk
 ·cases hk
theorem pi {w:World} {args:List SV} {vs:Array Value} {Rt Ra:Nat->Prop} {bs:List Nat} (hpre:Pre C.ty tab w args vs.toList Rt Ra bs) (fn:Func) (hn:vars args<=64) :
  ci ⟨C.ty,w,fun b=>b∈bs,Rt,Ra,fun i=>(dm args vs.toList).getD i 0⟩ (entry fn args) { tmps:=vs++Array.replicate (fn.ntmps-vs.size) undef,defers:=[] } w:=by
 let E:Env:=⟨C.ty,w,fun b=>b∈bs,Rt,Ra,fun i=>(dm args vs.toList).getD i 0⟩
 have h0:Rel E ⟨[],kn (vars args),64⟩ { tmps := #[],defers:=[] } w (fun t=>⟨undef,E.pb t,0,false⟩) Rt Ra:=by
  refine ⟨⟨fun t o ho => ?_,fun t o ho => ?_,fun t o ho => ?_,fun t o t' o' ho _ _ => ?_,hpre.sub,hpre.rlt,Fr.refl _ w,fun _ h=>h,fun _ h=>h,fun b hb => .inl hb,Nat.le_refl _,fun _ _ _ _=>rfl⟩,rfl,rfl,fun i => ?_⟩
  ·obtain ⟨_,rfl⟩:=fv _ ho;trivial
  ·have:=(fv _ ho).1;show t<64;omega
  ·obtain ⟨_,rfl⟩:=fv _ ho;intro b hb;cases hb
  ·obtain ⟨_,rfl⟩:=fv _ ho;intro b hb;cases hb
  ·show S2 _ (dE [] i) _;trivial
 obtain ⟨β,h1,_,hp⟩:=gU (β := fun t=>⟨undef,E.pb t,0,false⟩) (fun _ h=>h) (fun _ h=>h) args vs.toList bs 0 h0 hpre.cat hpre.nd (fun z hz=>⟨(hpre.no z hz).2,(hpre.no z hz).1,.inr hz,fun t o ho=>by
   obtain ⟨_,rfl⟩:=fv _ ho;intro hb;cases hb⟩) (fun i _ h2=>pF _ (by omega)) (fun i b hb=>by
   show (dm args vs.toList).getD (0+i) 0=b
   rw [Nat.zero_add,List.getD_eq_getElem?_getD,hb];rfl) (by omega)
 refine ⟨β,Rt,Ra,⟨⟨h1.objs,h1.lt,h1.cx,h1.apart,h1.sub,h1.rlt,h1.fr,h1.rt0,h1.ra0,h1.rt,h1.nx,h1.pin⟩,?_,rfl,fun i => ?_⟩⟩
 ·have:=hp.len
  simp only [Array.length_toList] at this
  simp [entry,this]
 ·have hl:=hp.len
  simp only [Array.length_toList] at hl
  show S2 _ (dE (_++_) i) _
  rw [qM,List.getD_eq_getElem?_getD,Array.getD_eq_getD_getElem?]
  by_cases hi:i<vs.size
  ·rw [List.getElem?_append_left (by omega),Array.getElem?_append_left hi]
   have h1:(er ⟨[],kn (vars args),64⟩ 0 args).1[i]? = some ((er ⟨[],kn (vars args),64⟩ 0 args).1[i]'(by omega)):=List.getElem?_eq_getElem _
   have h2:vs.toList[i]? = some vs[i]:=by simp [hi]
   rw [h1,Array.getElem?_eq_getElem hi]
   exact cB (hp.get h1 h2)
  ·rw [List.getElem?_append_right (by omega),Array.getElem?_append_right (by omega),List.getElem?_replicate,Array.getElem?_replicate]
   rw [hl]
   split
   ·rfl
   ·trivial
theorem vb (hP:Ok P C.ty) (hD:∀ g,bR P C.ty tab g (C.call g)) {g:Nat} {fn:Func} (hf:P.funcs[g]? = some fn) (hname:(fn.name == "runtime.NumGoroutine")=false) {n fuel:Nat} {args:List SV} {κ : List SV->Option R} (hk:cv C fn n fuel args κ = some r)
  {w:World} {vs:Array Value} {Rt Ra:Nat->Prop} {bs:List Nat} (hpre:Pre C.ty tab w args vs.toList Rt Ra bs) :
  mD P g vs w fun v w'=>∃ res Rt' v0 back b1 b2,κ res=some r/\kW C.ty w args vs.toList Rt bs res v w' Rt' v0 back b1 b2:=by
 unfold cv at hk
 cases hb:fn.body with
 | none=>rw [hb] at hk;cases hk
 | some c =>
  rw [hb] at hk;simp only at hk
  obtain ⟨hn,hk⟩:=b8 hk
  simp only [decide_eq_true_eq] at hn
  refine .inr ⟨enters hf hb hname vs w,fun cs => ?_⟩
  let E:Env:=⟨C.ty,w,fun b=>b∈bs,Rt,Ra,fun i=>(dm args vs.toList).getD i 0⟩
  have hE:cS C tab E:=⟨rfl,fun b ob hob=>⟨(hpre.tab b ob hob).1,(hpre.tab b ob hob).2,fun hin=>(hpre.no b hin).1 (hpre.sub b (hpre.tab b ob hob).2)⟩⟩
  have h0:=pi hpre fn hn
  let b:Frame:={ (default:Frame) with fn:=g,kind := .normal }
  have henter:Frame.enter P g vs .normal=b.at { tmps:=vs++Array.replicate (fn.ntmps-vs.size) undef,defers:=[] } [.code c]:=by
   simp [Frame.enter,Frame.at,hf,hb,b]
  obtain ⟨s',a',w',todo,hret,⟨β,Rt',Ra',hrel⟩,hsteps⟩:=lN (b:=b) (cs:=cs) (ret:=oS C fn.results.toList (List.range (vars args)) κ) hP hE hD (fun todo s a w h hk=>nH hP hE hD n fuel todo s a w h hk) n _ _ _ _ h0 hk
  obtain ⟨v,res,v0,back,b1,b2,hrun,hkr,hres,hcr,hcb,hnd,hno⟩:=oq hP rfl hrel (c0:=cc C.ty w Rt Ra) hpre.cat (fun i b hb=>by
   show (dm args vs.toList).getD i 0=b
   rw [List.getD_eq_getElem?_getD,hb];rfl) hn hret
  refine ⟨.returned v,w',_,⟨v,rfl,res,Rt',v0,back,b1,b2,hkr,hres,hrel.fr,hcr,hcb,hnd,fun z hz=>⟨fun hr=>(hno z hz).1 (hrel.sub z hr),(hno z hz).2.1,(hno z hz).2.2⟩,hrel.rt0,fun z hz=>⟨hrel.rlt z (hrel.sub z hz),hrel.rt z hz⟩⟩,by rw [henter];exact hsteps,rfl,rfl,hrel.defers,rfl,fn,hf,hrun⟩
end
end Go.Proofs.Ab
namespace Go.Proofs.Ab
open Go
variable {P:Program}
def yG (P:Program) (g:TypeId->List LK->Bool):List Field->Nat->List LK->Bool
 | [],_,lv=>lv.isEmpty
 | f::fs,off,lv=>match P.info? f.type with
  | some i=>(f.name != "_")&&Nat.beq f.offset off&&Nat.ble i.size lv.length&&g f.type (lv.take i.size)&&yG P g fs (off+i.size) (lv.drop i.size)
  | none=>false
def BL (P:Program):Nat->TypeId->List LK->Bool
 | 0,_,_=>false
 | d+1,t,lv=>match P.underlying t with
  | some (.int k)=>decide (lv=[.int k])
  | some .bool=>decide (lv=[.bool])
  | some .string=>decide (lv=[.str])
  | some (.struct fs) => !P.stoodInHeld t&&yG P (BL P d) fs.toList 0 lv
  | _=>false
theorem iH:∀ (n:Nat) {lv:List LK} {l m:List SV} {b:Bool},cC lv l m=some b->∃ b1 b2,cC (lv.take n) (l.take n) (m.take n)=some b1/\cC (lv.drop n) (l.drop n) (m.drop n)=some b2/\b=(b1&&b2)
 | 0,lv,l,m,b,h=>⟨true,b,rfl,by simpa using h,by simp⟩
 | n+1,[],[],[],b,h=>by simp only [cC] at h;cases h;exact ⟨true,true,rfl,rfl,rfl⟩
 | n+1,k::ks,x::xs,y::ys,b,h=>by
  simp only [cC] at h
  split at h
  ·rename_i a c h1 h2
   cases h
   obtain ⟨b1,b2,g1,g2,rfl⟩:=iH n h2
   refine ⟨a&&b1,b2,?_,by simpa using g2,by simp [Bool.and_assoc]⟩
   simp only [List.take_succ_cons,cC,h1,g1]
  ·cases h
 | n+1,[],_::_,_,_,h=>by simp [cC] at h
 | n+1,[],[],_::_,_,h=>by simp [cC] at h
 | n+1,_::_,[],_,_,h=>by simp [cC] at h
 | n+1,_::_,_::_,[],_,h=>by simp [cC] at h
theorem fk:∀ {lv:List LK} {l m:List SV} {b:Bool},cC lv l m=some b->l.length=lv.length/\m.length=lv.length
 | [],[],[],_,_=>⟨rfl,rfl⟩
 | k::ks,x::xs,y::ys,b,h=>by
  simp only [cC] at h
  split at h
  ·rename_i h1 h2;have:=fk h2;simp [this.1,this.2]
  ·cases h
 | [],_::_,_,_,h=>by simp [cC] at h
 | [],[],_::_,_,h=>by simp [cC] at h
 | _::_,[],_,_,h=>by simp [cC] at h
 | _::_,_::_,[],_,h=>by simp [cC] at h
def io (agg:Bool) (l:List SV) (v:Value):Prop :=
 if agg=true then ∃ xs:Array Value,v = .agg xs/\PW eT l xs.toList else PW eT l [v]
theorem n0 {f:Field} {i:TypeInfo} {d:TypeDesc} (hi:P.info? f.type=some i) (hd:P.underlying f.type=some d) (hs:il d=false->i.size=1) {l:List SV} {xs:Array Value} {off:Nat} (ho:f.offset=off) (hp:PW eT l (xs.toList.drop off)) (hl:i.size<=l.length) (w:World) :
  ∃ v,(part f.type xs f.offset).run P w = .ok v w/\io (il d) (l.take i.size) v:=by
 subst ho
 cases ha:il d with
 | true =>
  refine ⟨.agg ((xs.toList.drop f.offset).take i.size).toArray,?_,?_⟩
  ·simp only [part,Sem.run_bind,ia hd,ha,Result.andThen_ok,if_true,kN hi,Sem.run_pure]
   congr 2
   apply Array.ext'
   simp [List.take_drop,Nat.add_comm]
  ·unfold io;rw [if_pos rfl]
   exact ⟨_,rfl,by simpa using hp.take i.size⟩
 | false =>
  have h1:=hs ha
  rw [h1] at hl ⊢
  have hlen:=hp.len
  have hlt:f.offset<xs.size:=by
   rw [List.length_drop] at hlen;simp at hlen;omega
  refine ⟨xs[f.offset],?_,?_⟩
  ·have:xs[f.offset]? = some xs[f.offset]:=Array.getElem?_eq_getElem hlt
   simp [part,ia hd,ha,this]
  ·unfold io;rw [if_neg (by simp)]
   have h2:=hp.take 1
   have:(xs.toList.drop f.offset).take 1=[xs[f.offset]]:=by
    rw [List.drop_eq_getElem_cons (by simpa using hlt)];simp
   rw [this] at h2;exact h2
theorem AH:∀ (d:Nat) {t:TypeId} {lv:List LK},BL P d t lv=true->∃ td,P.underlying t=some td/\(il td=false->lv.length=1)
 | 0,_,_,h=>by cases h
 | d+1,t,lv,h=>by
  simp only [BL] at h
  split at h
  ·rename_i e;exact ⟨_,e,fun _=>by simp at h;rw [h];rfl⟩
  ·rename_i e;exact ⟨_,e,fun _=>by simp at h;rw [h];rfl⟩
  ·rename_i e;exact ⟨_,e,fun _=>by simp at h;rw [h];rfl⟩
  ·rename_i e;exact ⟨_,e,fun h=>by cases h⟩
  ·cases h
theorem ns (d D:Nat) (ih:∀ {t:TypeId} {lv:List LK},BL P d t lv=true->∀ (w:World) (l m:List SV) (x y:Value) td b,P.underlying t=some td->io (il td) l x->io (il td) m y->cC lv l m=some b->(Op.equalIn D t x y).run P w = .ok b w) (xs ys:Array Value) (w:World) :
  ∀ (fs:List Field) (off:Nat) (lv:List LK),yG P (BL P d) fs off lv=true->∀ (l m:List SV) b,PW eT l (xs.toList.drop off)->PW eT m (ys.toList.drop off)->cC lv l m=some b->(Op.eqFields D xs ys fs).run P w = .ok b w
 | [],off,lv,h,l,m,b,_,_,hb=>by
  simp only [yG,List.isEmpty_iff] at h;subst h
  have:=fk hb
  match l,m,this with
  | [],[],_=>cases hb;rfl
 | f::fs,off,lv,h,l,m,b,hl,hm,hb=>by
  simp only [yG] at h
  split at h
  ·rename_i i hi
   simp only [Bool.and_eq_true,bne_iff_ne,ne_eq] at h
   obtain ⟨⟨⟨⟨hn,ho⟩,hs⟩,hg⟩,hr⟩:=h
   have ho:=Nat.eq_of_beq_eq_true ho
   have hs:=Nat.le_of_ble_eq_true hs
   have hlen:=fk hb
   obtain ⟨b1,b2,g1,g2,rfl⟩:=iH i.size hb
   obtain ⟨td,hd,hone⟩:=AH d hg
   have hone':il td=false->i.size=1:=fun ha=>by have:=hone ha;rw [List.length_take] at this;omega
   obtain ⟨u,hu1,hu2⟩:=n0 hi hd hone' ho hl (by omega) w
   obtain ⟨v,hv1,hv2⟩:=n0 hi hd hone' ho hm (by omega) w
   have he:=ih hg w _ _ u v td b1 hd hu2 hv2 g1
   simp only [Op.eqFields,hn,ne_eq,not_false_eq_true,if_true,Sem.run_bind,hu1,hv1,he,Result.andThen_ok]
   cases b1 with
   | false=>simp
   | true =>
    simp only [Bool.not_true,Bool.false_eq_true,if_false,Bool.true_and]
    refine ns d D ih xs ys w fs (off+i.size) _ hr _ _ b2 ?_ ?_ g2
    ·rw [<- List.drop_drop];exact hl.drop i.size
    ·rw [<- List.drop_drop];exact hm.drop i.size
  ·cases h
theorem pj:∀ (d:Nat) (k:Nat) {t:TypeId} {lv:List LK},BL P d t lv=true->∀ (w:World) (l m:List SV) (x y:Value) td b,P.underlying t=some td->io (il td) l x->io (il td) m y->cC lv l m=some b->(Op.equalIn (d+k) t x y).run P w = .ok b w
 | 0,_,_,_,h=>by cases h
 | d+1,k,t,lv,h=>by
  intro w l m x y td b hd hl hm hb
  simp only [BL] at h
  rw [hd] at h
  rw [show d+1+k=(d+k)+1 by omega]
  have basic:∀ k1,lv=[k1]->il td=false->∃ x0 y0,l=[x0]/\m=[y0]/\nR k1 x0 y0=some b/\eT x0 x/\eT y0 y:=by
   intro k1 hlv ha
   subst hlv
   rw [ha] at hl hm
   unfold io at hl hm;rw [if_neg (by simp)] at hl hm
   have:=fk hb
   match l,m,this,hb,hl,hm with
   | [x0],[y0],_,hb,hl,hm =>
    simp only [cC] at hb
    split at hb
    ·rename_i a c h1 h2
     cases h2;cases hb
     exact ⟨x0,y0,rfl,rfl,by simpa using h1,hl.1,hm.1⟩
    ·cases hb
  split at h
  ·rename_i k1 e
   simp only [Option.some.injEq] at e;subst e
   obtain ⟨x0,y0,rfl,rfl,hq,hx,hy⟩:=basic _ (by simpa using h) rfl
   cases x0 <;> cases y0 <;> simp only [nR] at hq <;> try (cases hq;done)
   obtain ⟨hq1,hq2⟩:=bD hq
   simp only [Bool.and_eq_true,decide_eq_true_eq] at hq1
   obtain ⟨rfl,rfl⟩:=hq1
   cases hq2
   simp only [eT] at hx hy;subst hx;subst hy
   exact run_equalIn_int w (d+k) t _ _ _ _ hd
  ·rename_i e
   simp only [Option.some.injEq] at e;subst e
   obtain ⟨x0,y0,rfl,rfl,hq,hx,hy⟩:=basic _ (by simpa using h) rfl
   cases x0 <;> cases y0 <;> simp only [nR] at hq <;> try (cases hq;done)
   cases hq
   simp only [eT] at hx hy;subst hx;subst hy
   exact run_equalIn_bool' w (d+k) t _ _ hd
  ·rename_i e
   simp only [Option.some.injEq] at e;subst e
   obtain ⟨x0,y0,rfl,rfl,hq,hx,hy⟩:=basic _ (by simpa using h) rfl
   cases x0 <;> cases y0 <;> simp only [nR] at hq <;> try (cases hq;done)
   cases hq
   simp only [eT] at hx hy;subst hx;subst hy
   rw [run_equalIn_string w (d+k) t _ _ hd,pa]
  ·rename_i fs e
   simp only [Option.some.injEq] at e;subst e
   simp only [Bool.and_eq_true,Bool.not_eq_true'] at h
   unfold io at hl hm;rw [if_pos (show il (.struct fs)=true from rfl)] at hl hm
   obtain ⟨xs,rfl,hl⟩:=hl
   obtain ⟨ys,rfl,hm⟩:=hm
   have hf:P.fieldsOf t=fs:=by unfold Program.fieldsOf;rw [hd]
   rw [run_equalIn_agg w (d+k) t xs ys (by rw [hf];exact hd) h.1,hf]
   exact ns d (d+k) (fun {t lv} h=>pj d k h) xs ys w fs.toList 0 lv h.2 l m b (by simpa using hl) (by simpa using hm) hb
  ·cases h
def Ak:LK->Value->Bool
 | .int k,.int k' n=>decide (k=k')&&decide (n=0)
 | .bool,.bool b => !b
 | .str,.string s=>decide (s=⟨#[]⟩)
 | .sl _,.slice none 0 0=>true
 | .ptr,.pointer none=>true
 | .fn,.nilFunc=>true
 | .nos,.pointer none=>true
 | .ifc,.nilIface=>true
 | .oth,_=>true
 | .mp _ _,_=>true
 | _,_=>false
def mU:List LK->List Value->Bool
 | [],[]=>true
 | k::ks,v::vs=>Ak k v&&mU ks vs
 | _,_=>false
theorem jr:∀ {ks:List LK} {vs:List Value},mU ks vs=true->PW zeroV ks vs
 | [],[],_=>trivial
 | k::ks,v::vs,h=>by
  simp only [mU,Bool.and_eq_true] at h
  refine ⟨?_,jr h.2⟩
  have h1:=h.1
  unfold Ak at h1
  split at h1 <;> first
   | (simp only [Bool.and_eq_true,decide_eq_true_eq] at h1;obtain ⟨rfl,rfl⟩:=h1;rfl)
   | (simp at h1;subst h1;rfl)
   | rfl
   | trivial
   | cases h1
 | [],_::_,h=>by cases h
 | _::_,[],h=>by cases h
def zb:Value->Bool
 | .agg _=>true
 | _=>false
def se (P:Program) (sz:Nat) (p:Nat × Nat × Bool) (F:Field):Bool :=
 Nat.beq F.offset p.1&&Nat.ble (p.1+p.2.1) sz&&(match P.info? F.type,P.underlying F.type with
  | some i,some d=>Nat.beq i.size p.2.1&&(il d == p.2.2)
  | _,_=>false)
def kh (P:Program) (sz:Nat):List (Nat × Nat × Bool)->List Field->Bool
 | [],[]=>true
 | p::ps,F::Fs=>se P sz p F&&kh P sz ps Fs
 | _,_=>false
theorem iB {sz:Nat}:∀ {ps:List (Nat × Nat × Bool)} {Fs:List Field},kh P sz ps Fs=true->PW (qL P sz) ps Fs
 | [],[],_=>trivial
 | p::ps,F::Fs,h=>by
  simp only [kh,Bool.and_eq_true] at h
  refine ⟨?_,iB h.2⟩
  have h1:=h.1
  unfold se at h1
  simp only [Bool.and_eq_true] at h1
  obtain ⟨⟨h1,h2⟩,h3⟩:=h1
  split at h3
  ·rename_i i d hi hd
   simp only [Bool.and_eq_true,beq_iff_eq] at h3
   exact ⟨Nat.eq_of_beq_eq_true h1,Nat.le_of_ble_eq_true h2,i,d,hi,Nat.eq_of_beq_eq_true h3.1,hd,h3.2⟩
  ·cases h3
 | [],_::_,h=>by cases h
 | _::_,[],h=>by cases h
def pG (e:Nat):TypeDesc->Bool
 | .slice e'=>Nat.beq e e'
 | _=>false
def vM (k:IntKind):TypeDesc->Bool
 | .int k'=>decide (k=k')
 | _=>false
def vK:TypeDesc->Bool
 | .bool=>true
 | _=>false
def vN (k e:Nat):TypeDesc->Bool
 | .map k' e'=>Nat.beq k k'&&Nat.beq e e'
 | _=>false
def zf:TypeDesc->Bool
 | .string=>true
 | _=>false
def zw (d:TypeDesc):List LK->Bool
 | [.int k]=>vM k d
 | [.bool]=>vK d
 | [.str]=>zf d
 | [.mp k e]=>vN k e d
 | _=>true
def vR (e:Nat):TypeDesc->Bool
 | .pointer e'=>Nat.beq e e'
 | _=>false
def B0 (ti:TI) (d:TypeDesc):Bool :=
 match ti.lv with
 | [.ptr]=>ti.agg||Nat.beq ti.elem 0||vR ti.elem d
 | _=>true
def oC (P:Program) (ti:TI):TypeDesc->Bool
 | .struct fs=>kh P ti.sz ti.flds fs.toList
 | _=>false
def BG (P:Program) (ti:TI):TypeDesc->Bool
 | .array n e=>Nat.beq e ti.elem&&(match P.info? ti.elem with
  | some i=>Nat.beq (n*i.size) ti.sz
  | none=>false)
 | _=>false
def rG (P:Program) (t:Nat) (ti:TI):Bool :=
 match P.underlying t,P.info? t with
 | some d,some i=>(il d == ti.agg)&&Nat.beq i.size ti.sz&&Nat.beq i.bytes ti.bytes &&
   (match i.zero with
    | some z=>mU ti.lv z.cells.toList&&(zb z == ti.agg)
    | none=>false)&&Nat.ble 1 ti.sz&&Nat.ble 1 ti.bytes &&
   (!ti.sl||pG ti.elem d)&&(ti.agg||zw d ti.lv)&&B0 ti d&&(ti.flds.isEmpty||oC P ti d) &&
   (!(ti.agg&&(ti.flds.isEmpty && !(Nat.beq ti.elem 0)))||BG P ti d)&&(!ti.eqs||(ti.agg && !P.eqGuardType P.depth t&&BL P 20 t ti.lv))
 | _,_=>false
theorem oV {t:Nat} {ti:TI} (h:rG P t ti=true):TyOk P t ti:=by
 unfold rG at h
 split at h
 ·rename_i d i hd hi
  simp only [Bool.and_eq_true] at h
  obtain ⟨⟨⟨⟨⟨⟨⟨⟨⟨⟨⟨h1,h2⟩,h3⟩,h4⟩,h5⟩,h6⟩,h7⟩,h8⟩,hp⟩,h9⟩,hA⟩,h10⟩:=h
  have h1:il d=ti.agg:=by simpa using h1
  split at h4
  ·rename_i z hz
   simp only [Bool.and_eq_true,beq_iff_eq] at h4
   refine ⟨⟨d,hd,h1⟩,⟨i,z,hi,Nat.eq_of_beq_eq_true h2,Nat.eq_of_beq_eq_true h3,hz,jr h4.1,?_⟩,Nat.le_of_ble_eq_true h5,Nat.le_of_ble_eq_true h6,fun hs => ?_,fun k ha hl => ?_,fun ha hl => ?_,fun ha hl => ?_,fun k e ha hl => ?_,fun ha hl hz => ?_,fun ha hf hz => ?_,fun hf => ?_,fun he => ?_⟩
   ·rw [<- h4.2];unfold zb
    constructor
    ·rintro ⟨cs,rfl⟩;rfl
    ·intro hz;split at hz
     ·exact ⟨_,rfl⟩
     ·cases hz
   ·rw [hs] at h7;simp only [Bool.not_true,Bool.false_or] at h7
    unfold pG at h7;split at h7
    ·rw [hd,Nat.eq_of_beq_eq_true h7]
    ·cases h7
   ·rw [ha,hl] at h8;simp only [Bool.false_or,zw] at h8
    unfold vM at h8;split at h8
    ·simp only [decide_eq_true_eq] at h8;rw [hd,h8]
    ·cases h8
   ·rw [ha,hl] at h8;simp only [Bool.false_or,zw] at h8
    unfold vK at h8;split at h8
    ·exact hd
    ·cases h8
   ·rw [ha,hl] at h8;simp only [Bool.false_or,zw] at h8
    unfold zf at h8;split at h8
    ·exact hd
    ·cases h8
   ·rw [ha,hl] at h8;simp only [Bool.false_or,zw] at h8
    unfold vN at h8;split at h8
    ·simp only [Bool.and_eq_true] at h8
     rw [hd,Nat.eq_of_beq_eq_true h8.1,Nat.eq_of_beq_eq_true h8.2]
    ·cases h8
   ·unfold B0 at hp
    rw [hl] at hp
    simp only [ha,Bool.false_or,Bool.or_eq_true] at hp
    have hp:=hp.resolve_left fun e=>hz (Nat.eq_of_beq_eq_true e)
    unfold vR at hp;split at hp
    ·rw [hd,Nat.eq_of_beq_eq_true hp]
    ·cases hp
   ·have hz':Nat.beq ti.elem 0=false:=by
     cases h:Nat.beq ti.elem 0 with
     | false=>rfl
     | true=>exact absurd (Nat.eq_of_beq_eq_true h) hz
    rw [ha,hf,hz'] at hA
    simp only [List.isEmpty_nil,Bool.not_false,Bool.and_self,Bool.not_true,Bool.false_or] at hA
    unfold BG at hA;split at hA
    ·rename_i n e _
     rw [Bool.and_eq_true] at hA
     obtain ⟨q1,q2⟩:=hA
     have hee:=Nat.eq_of_beq_eq_true q1
     split at q2
     ·rename_i i hi
      exact ⟨n,i,by rw [<- hee];exact hd,hi,Nat.eq_of_beq_eq_true q2⟩
     ·cases q2
    ·cases hA
   ·have h9:oC P ti d=true:=by
     rw [Bool.or_eq_true] at h9
     exact h9.resolve_left fun e=>hf (List.isEmpty_iff.1 e)
    unfold oC at h9;split at h9
    ·exact ⟨_,hd,iB h9⟩
    ·cases h9
   ·rw [he] at h10;simp only [Bool.not_true,Bool.false_or,Bool.and_eq_true,Bool.not_eq_true'] at h10
    obtain ⟨⟨ha,hg⟩,hq⟩:=h10
    refine ⟨hg,fun w l m xs ys b hl hm hb => ?_⟩
    have hd':il d=true:=by rw [h1,ha]
    exact pj 20 9980 hq w l m _ _ d b hd (by unfold io;rw [if_pos hd'];exact ⟨xs,rfl,hl⟩) (by unfold io;rw [if_pos hd'];exact ⟨ys,rfl,hm⟩) hb
  ·cases h4
 ·cases h
def al (l:List (Option TI)) (t:Nat):Option TI:=(l[t]?).getD none
def gM (P:Program):Nat->List (Option TI)->Bool
 | _,[]=>true
 | t,none::r=>gM P (t+1) r
 | t,some ti::r=>rG P t ti&&gM P (t+1) r
theorem fN:∀ {l:List (Option TI)} {t0:Nat},gM P t0 l=true->∀ (i:Nat) ti,(l[i]?).getD none=some ti->TyOk P (t0+i) ti
 | [],_,_,i,ti,h=>by simp at h
 | none::r,t0,hc,i,ti,h=>by
  cases i with
  | zero=>simp at h
  | succ i =>
   have:=fN (t0:=t0+1) hc i ti (by simpa using h)
   rw [show t0+(i+1)=t0+1+i by omega];exact this
 | some x::r,t0,hc,i,ti,h=>by
  simp only [gM,Bool.and_eq_true] at hc
  cases i with
  | zero=>simp at h;subst h;exact oV hc.1
  | succ i =>
   have:=fN (t0:=t0+1) hc.2 i ti (by simpa using h)
   rw [show t0+(i+1)=t0+1+i by omega];exact this
theorem El {l:List (Option TI)} (h:gM P 0 l=true) (hm:P.follows .mixedOrders=true):Ok P (al l) :=
 ⟨fun t ti ht=>by have:=fN h t ti ht;rwa [Nat.zero_add] at this,hm⟩
end Go.Proofs.Ab
namespace Go.Proofs.Ab
open Go
def aH:Nat:=4611686018427387904
def aa {R:Type} (P:Program) (T:Nat->Option TI) (tab:cb) (g:FuncId) (args:List SV) (κ : List SV->Option R) (o:Option R):Prop :=
 ∀ r,o=some r->∀ (w:World) (vs:Array Value) (Rt Ra:Nat->Prop) (bs:List Nat),Pre T tab w args vs.toList Rt Ra bs ->
  mD P g vs w fun v w'=>∃ res Rt' v0 back b1 b2,κ res=some r/\kW T w args vs.toList Rt bs res v w' Rt' v0 back b1 b2
theorem aa.none {R:Type} {P:Program} {T:Nat->Option TI} {tab:cb} {g:FuncId} {args:List SV} {κ : List SV->Option R}:aa P T tab g args κ none:=by
 intro r h;cases h
theorem aY {R:Type} {P:Program} {T:Nat->Option TI} {tab:cb} {g:FuncId} {sp:List SV->(List SV->Option R)->Option R} (h:∀ xs κ,aa P T tab g xs κ (sp xs κ)):bR P T tab g sp :=
 fun args κ r hk w vs Rt Ra bs hp=>h args κ r hk w vs Rt Ra bs hp
theorem vj {c:Cx}:∀ {args:List SV} {vs:List Value},args.length=vs.length->(∀ x∈args,∀ ty l,x ≠ .vp ty l)->CB c args vs [] []
 | [],[],_,_=>⟨rfl,rfl⟩
 | x::r,v::vs,hl,hn=>by
  rw [oY c (hn x (by simp))]
  exact vj (by simpa using hl) fun y hy=>hn y (by simp [hy])
 | [],_::_,hl,_=>by simp at hl
 | _::_,[],hl,_=>by simp at hl
theorem kW.plain {T:Nat->Option TI} {tab:cb} {w:World} {args:List SV} {vs:List Value} {Rt Ra:Nat->Prop} {bs:List Nat} {x:SV} {v:Value} (hpre:Pre T tab w args vs Rt Ra bs) (hn:∀ x∈args,∀ ty l,x ≠ .vp ty l)
  (hx:CR (cc T w Rt Rt) x v []):kW T w args vs Rt bs [x] v w Rt x [] [] [] :=
 ⟨rfl,Fr.refl _ w,hx,vj hpre.cat.len hn,by simp,fun b hb=>by simp at hb,fun _ h=>h,fun b hb=>⟨hpre.rlt b (hpre.sub b hb),.inl hb⟩⟩
theorem qD {c:Cx} {a:ByteArray} {v:Value} {bs:List Nat} (h:CV c (.str a) v bs):v = .string a:=h.2.2.2
theorem Av {c:Cx} {k:IntKind} {n:Int} {v:Value} {bs:List Nat} (h:CV c (.int k n) v bs):v = .int k n:=h.2.2.2
theorem wl {c:Cx} {k:IntKind} {n:Int}:CR c (.int k n) (.int k n) []:=⟨rfl,rfl,by simp,rfl⟩
theorem iF {R:Type} {P:Program} {T:Nat->Option TI} {tab:cb} {g:FuncId} {fn:Func} (hf:P.funcs[g]? = some fn) (hname:(fn.name == "runtime.NumGoroutine")=false) (hb:fn.body.isNone=true)
  (hn:Extern.findNext fn=none) (he:Extern.find fn=some Extern.BytealgIndexByte.indexByte) (a0:ByteArray) (a1:Int) (κ : List SV->Option R) :
  aa P T tab g [.str a0,.int .u8 a1] κ (κ [.int .i64 (Lib.indexByte a0.data.toList a1.toNat.toUInt8)]):=by
 intro r h w vs Rt Ra bs hpre
 have hargs:vs = #[.string a0,.int .u8 a1]:=by
  have hc:=hpre.cat
  apply Array.ext'
  match h2:vs.toList,hc with
  | [v0,v1],⟨_,_,_,h0,_,_,_,h1,_⟩=>rw [qD h0,Av h1]
  | [],hc=>exact hc.elim
  | [_],⟨_,_,_,_,hc⟩=>exact hc.elim
  | _::_::_::_,⟨_,_,_,_,_,_,_,_,hc⟩=>exact hc.elim
 subst hargs
 refine .inl ⟨_,w,?_,_,Rt,_,[],[],[],h,kW.plain hpre (by simp) wl⟩
 rw [run_callFunc_extern hf hname hb hn he,Lib.run_indexByteString];rfl
end Go.Proofs.Ab
namespace Go.Proofs.Ab
open Go
theorem oO (w:World) (b:Nat) (cs:Array Value) (t:Nat) (fz:Nat × Nat) (v:Value) (h:w.heap[b]? = some (.cells cs t fz)):(w.setCell ⟨b,0,none⟩ v).heap[b]? = some (.cells (cs.setIfInBounds 0 v) t fz):=by
 unfold World.setCell
 simp [Array.getElem?_modify,h]
theorem jB (w:World) (b:Nat) (v:Value):Fr (fun x=>x=b) w (w.setCell ⟨b,0,none⟩ v):=by
 unfold World.setCell
 refine ⟨rfl,rfl,rfl,by simp,fun x _ hn => ?_⟩
 simp only [Array.getElem?_modify]
 rw [if_neg (fun e=>hn e.symm)]
inductive DK:SV->Prop where
 | nil:DK .nil
 | fr (e:Nat) (l:List AV):DK (.fr e l true)
theorem DK.move {T:Nat->Option TI} {w w':World} {Rt Ra:Nat->Prop} {X:SV} (hX:DK X) {v:Value} {bs:List Nat} (h:CL (cc T w Rt Ra) X v bs) (hb:∀ b∈bs,w'.heap[b]? = w.heap[b]?) (hR:∀ b,Rt b->w'.heap[b]? = w.heap[b]?):CL (cc T w' Rt Rt) X v bs:=by
 cases hX with
 | nil=>exact ⟨h.1,rfl,by simp,h.2.2.2⟩
 | fr e l =>
  obtain ⟨D,cs,h1,h2,h3,h4⟩:=h
  refine ⟨D,cs,h1,hH h2 (fun b hbb=>hb b (by rw [h4,hbb];simp)),h3.mono (fun b hq => ?_) (fun b hq => ?_),h4⟩
  ·unfold Cx.Q at hq ⊢;rw [if_pos rfl] at hq ⊢;exact hq
  ·unfold Cx.Q at hq;rw [if_pos rfl] at hq;exact hR b hq
theorem nl {R:Type} {P:Program} {T:Nat->Option TI} {tab:cb} {g tb:Nat} (hen:∀ vs w,(callFunc g vs).run P w = .ok (.enter g vs) w)
  (hu:∀ b w,w.cell? ⟨b,0,none⟩=some (.pointer (some ⟨b,0,none⟩))->Calls P g #[.pointer (some ⟨b,0,none⟩)] w fun e w'=>e = .returned (.tuple #[])/\w'=w)
  (hf:∀ b w,w.cell? ⟨b,0,none⟩=some (.pointer none)->w.shape? b=some (tb,2)->w.frozen? ⟨b,0,none⟩=false->Calls P g #[.pointer (some ⟨b,0,none⟩)] w fun e w'=>e = .returned (.tuple #[])/\w'=w.setCell ⟨b,0,none⟩ (.pointer (some ⟨b,0,none⟩)))
  {X:SV} (hX:DK X) (κ : List SV->Option R):aa P T tab g [.vp tb [.nos,X]] κ (κ [.tup [],.vp tb [.nos,X]]):=by
 intro r h w vs Rt Ra bs hpre
 have hc:=hpre.cat
 match hvs:vs.toList,hc with
 | [v],⟨bs1,_,hbs,⟨b,cs,_,bs',hv,hheap,hcat,hbs1⟩,hnil⟩ =>
  have hnil:_=[]:=hnil
  subst hnil
  rw [List.append_nil] at hbs
  subst hbs
  subst hbs1
  have hva:vs = #[.pointer (some ⟨b,0,none⟩)]:=by apply Array.ext';rw [hvs,hv]
  subst hva
  match hcs:cs.toList,hcat with
  | [c0,c1],⟨b1,b2,hb',⟨hb1,h0⟩,b3,b4,hb2,h1,hb4⟩ =>
   subst hb1
   have hb4:b4=[]:=hb4
   subst hb4
   rw [List.append_nil] at hb2
   subst hb2
   simp only [List.nil_append] at hb'
   subst hb'
   have h1:CL (cc T w Rt Ra) X c1 bs':=by
    unfold xP at h1;split at h1
    ·cases hX
    ·exact h1
   have hcsa:cs = #[c0,c1]:=by apply Array.ext';simpa using hcs
   subst hcsa
   have hheap':w.heap[b]? = some (.cells #[c0,c1] tb (0,0)):=hheap
   have hnb:¬ Ra b/\b<w.heap.size:=hpre.no b (by simp)
   have hnd:=hpre.nd
   rw [List.nodup_cons] at hnd
   have hcell:w.cell? ⟨b,0,none⟩=some c0:=by rw [cell_of_row w b 0 _ tb (0,0) hheap'];rfl
   have mk:∀ w',Fr (fun x=>x=b) w w'->(∃ d0,w'.heap[b]? = some (.cells #[d0,c1] tb (0,0))/\(d0 = .pointer none∨d0 = .pointer (some ⟨b,0,none⟩))) ->
     kW T w [.vp tb [.nos,X]] [.pointer (some ⟨b,0,none⟩)] Rt (b::bs') [.tup [],.vp tb [.nos,X]] (.tuple #[]) w' Rt (.tup []) [.vp tb [.nos,X]] [] (b::bs'):=by
    rintro w' hfr ⟨d0,hd,hd0⟩
    refine ⟨rfl,⟨hfr.os,hfr.tape,hfr.output,hfr.size,fun x hx hn=>hfr.block x hx fun e=>hn (by rw [e];simp)⟩,⟨#[],rfl,rfl⟩,?_,by simpa using hpre.nd,fun z hz => ?_,fun _ h=>h,fun z hz=>⟨Nat.lt_of_lt_of_le (hpre.rlt z (hpre.sub z hz)) hfr.size,.inl hz⟩⟩
    ·refine ⟨b,#[d0,c1],(),bs',[],rfl,hd,⟨[],bs',rfl,⟨rfl,hd0⟩,bs',[],by simp,mV (hX.move h1 (fun z hz => ?_) (fun z hz => ?_)) b,rfl⟩,by simp,rfl,rfl⟩
     ·exact hfr.block z (hpre.no z (by simp [hz])).2 fun e=>by subst e;exact hnd.1 hz
     ·exact hfr.block z (hpre.rlt z (hpre.sub z hz)) fun e=>by subst e;exact hnb.1 (hpre.sub z hz)
    ·have:=hpre.no z (by simpa using hz)
     exact ⟨fun hr=>this.1 (hpre.sub z hr),Nat.lt_of_lt_of_le this.2 hfr.size,.inr (by simpa using hz)⟩
   refine .inr ⟨hen _ _,?_⟩
   rcases h0 with rfl|rfl
   ·have hsh:w.shape? b=some (tb,2):=by unfold World.shape?;rw [hheap'];rfl
    have hfz:w.frozen? ⟨b,0,none⟩=false:=by unfold World.frozen?;rw [show (⟨b,0,none⟩:Addr).block=b from rfl,hheap'];simp
    refine (hf b w hcell hsh hfz).mono ?_
    rintro e w' ⟨rfl,rfl⟩
    exact ⟨_,rfl,_,Rt,_,_,_,_,h,hv▸mk _ (jB w b _) ⟨_,by rw [oO w b _ tb (0,0) _ hheap'];rfl,.inr rfl⟩⟩
   ·refine (hu b w hcell).mono ?_
    rintro e w' ⟨rfl,rfl⟩
    exact ⟨_,rfl,_,Rt,_,_,_,_,h,hv▸mk _ (Fr.refl _ _) ⟨_,hheap',.inr rfl⟩⟩
  | [],hc=>exact hc.elim
  | [_],⟨_,_,_,_,hc⟩=>exact hc.elim
  | _::_::_::_,⟨_,_,_,_,_,_,_,_,hc⟩=>exact hc.elim
 | [],hc=>exact hc.elim
 | _::_::_,⟨_,_,_,_,hc⟩=>exact hc.elim
end Go.Proofs.Ab
namespace Go.Proofs.Ab
open Go
variable {R:Type} {P:Program} {T:Nat->Option TI} {tab:cb} {g:FuncId}
theorem yz {args:List SV} {κ : List SV->Option R} {b:Bool} {o:Option R} (h:b=true->aa P T tab g args κ o):aa P T tab g args κ (bW b o):=by
 cases b with
 | false=>exact aa.none
 | true=>exact h rfl
theorem zX {w:World} {b t:Nat} {v:Value} {cs:Array Value} {fz:Nat × Nat} (hv:cs[0]? = some v) (h:w.heap[b]? = some (.cells cs t fz)):w.cell? ⟨b,0,none⟩=some v:=by
 rw [cell_of_row w b 0 _ t fz h];exact hv
theorem u4 (hen:∀ vs w,(callFunc g vs).run P w = .ok (.enter g vs) w) {args:List SV} {vals:Array Value} (hn:∀ x∈args,∀ ty l,x ≠ .vp ty l)
  (hv:∀ (w:World) (vs:Array Value) (Rt Ra:Nat->Prop) (bs:List Nat),Pre T tab w args vs.toList Rt Ra bs->vs=vals) (x:SV) {v:Value}
  (hc:∀ w:World,(∀ b ob,tab b=some ob->w.heap[b]? = some ob)->Calls P g vals w fun e w'=>e = .returned v/\w'=w) (hx:∀ c,CR c x v []) (κ : List SV->Option R):aa P T tab g args κ (κ [x]):=by
 intro r h w vs Rt Ra bs hpre
 obtain rfl:=hv w vs Rt Ra bs hpre
 refine .inr ⟨hen _ _,(hc w fun b ob hb=>(hpre.tab b ob hb).1).mono ?_⟩
 rintro e w' ⟨rfl,rfl⟩
 exact ⟨_,rfl,_,Rt,_,[],[],[],h,kW.plain hpre hn (hx _)⟩
theorem vg (hen:∀ vs w,(callFunc g vs).run P w = .ok (.enter g vs) w) (a0 a1:ByteArray) (x:SV) {v:Value}
  (hc:∀ w:World,(∀ b ob,tab b=some ob->w.heap[b]? = some ob)->Calls P g #[.string a0,.string a1] w fun e w'=>e = .returned v/\w'=w) (hx:∀ c,CR c x v []) (κ : List SV->Option R):aa P T tab g [.str a0,.str a1] κ (κ [x]):=by
 refine u4 hen (by simp) (fun w vs Rt Ra bs hpre => ?_) x hc hx κ
 have hc:=hpre.cat
 apply Array.ext'
 match h2:vs.toList,hc with
 | [v0,v1],⟨_,_,_,h0,_,_,_,h1,_⟩=>rw [qD h0,qD h1]
 | [],hc=>exact hc.elim
 | [_],⟨_,_,_,_,hc⟩=>exact hc.elim
 | _::_::_::_,⟨_,_,_,_,_,_,_,_,hc⟩=>exact hc.elim
end Go.Proofs.Ab
namespace Go.Proofs.Ab
open Go Go.RowKit
def sH (w:World) (b:Nat) (cs:Array Value):World :=
 { w with heap:=w.heap.modify b fun
   | .cells _ t fz => .cells cs t fz
   | o=>o }
def At:List SV->Option Bool
 | [.bool b]=>some b
 | _=>none
theorem wA {l:List SV} (h:At l=some true):l=[.bool true]:=by
 unfold At at h;split at h
 ·cases h;rfl
 ·cases h
theorem xj {P:Program} {T:Nat->Option TI} {tab:cb} {g:FuncId} {args:List SV} {vals:Array Value} {o:Option Bool} (hen:∀ vs w,(callFunc g vs).run P w = .ok (.enter g vs) w)
  (hd:aa P T tab g args At o) (ho:o=some true) {W:World} {Rt Ra:Nat->Prop} (hpre:Pre T tab W args vals.toList Rt Ra []):Calls P g vals W fun e W'=>e = .returned (.bool true)/\Below W.heap.size W W':=by
 rcases hd true ho W vals Rt Ra [] hpre with ⟨v,w',hr,_⟩|⟨_,hc⟩
 ·rw [hen] at hr;cases hr
 ·refine hc.mono ?_
  rintro e w' ⟨v,rfl,res,Rt',v0,back,b1,b2,hk,hp⟩
  have h1:=wA hk
  have h2:=hp.res
  rw [h1] at h2
  have hv0:v0 = .bool true:=by cases back <;> simp at h2;exact h2.symm
  have h3:=hp.r
  rw [hv0] at h3
  have h4:v = .bool true:=h3.2.2.2
  subst h4
  exact ⟨rfl,hp.fr.os,hp.fr.tape,hp.fr.output,hp.fr.size,fun k hk=>hp.fr.block k hk (by simp)⟩
def zW (W:World):cb:=fun b=>if b=0 then W.heap[0]? else none
theorem Bv {W:World} {m:Int} (h:W.cell? ⟨0,0,none⟩=some (.int .i64 m)):∃ m cs t fz,zW W 0=some (.cells cs t fz)/\cs[0]? = some (.int .i64 m):=by
 unfold World.cell? at h
 split at h
 ·rename_i cs t fz hb
  have h':cs[0]? = some (.int .i64 m):=by simpa using h
  exact ⟨m,cs,t,fz,by unfold zW;rw [if_pos rfl];exact hb,h'⟩
 ·cases h
theorem Bu {W:World} {m:Int} (h:W.cell? ⟨0,0,none⟩=some (.int .i64 m)):0<W.heap.size:=by
 unfold World.cell? at h
 split at h
 ·rename_i cs t fz hb;exact (Array.getElem?_eq_some_iff.1 hb).1
 ·cases h
end Go.Proofs.Ab
namespace Go.Proofs.Ab
open Go Go.RowKit
variable {H:Type} {enc:TypeId × Value->H} {P:Program} {w w':World} {sp:Nat->Bool} {held:Bool}
def zu (P:Program) (g:TypeId->Option (List LK)):List Field->Nat->Option (List LK)
 | [],_=>some []
 | f::r,o=>match g f.type with
  | some l=>if f.offset=o/\P.cellsOf f.type=l.length then (zu P g r (o+l.length)).map (l++·) else none
  | none=>none
def xn (P:Program):Nat->TypeId->Option (List LK)
 | 0,_=>none
 | n+1,t=>match P.underlying t with
  | some .bool=>some [.bool]
  | some (.int k)=>some [.int k]
  | some .string=>some [.str]
  | some (.slice e)=>some [.sl e]
  | some (.struct fs)=>(zu P (xn P n) fs.toList 0).bind fun l=>if P.cellsOf t=l.length then some l else none
  | _=>none
def pB (P:Program):Nat->TypeId->Bool
 | 0,_=>false
 | n+1,t=>match P.underlying t with
  | some .bool=>true
  | some (.int _)=>true
  | some .string=>true
  | some (.slice e)=>decide (0<P.cellsOf e)&&pB P n e
  | some (.struct fs)=>fs.toList.all fun f=>pB P n f.type
  | _=>false
def yE (P:Program) (T:Nat->Option TI):Nat->TypeId->Bool
 | 0,_=>false
 | d+1,e=>match T e with
  | some E=>decide (xn P 20 e=some E.lv)&&(decide (P.cellsOf e=E.sz)&&((E.agg||decide (E.sz=1))&&E.lv.all fun k=>match k with
   | .sl e'=>yE P T d e'
   | .int _=>true
   | .bool=>true
   | .str=>true
   | _=>false))
  | none=>false
def zo (enc:TypeId × Value->H) (P:Program) (w:World) (sp:Nat->Bool) (held:Bool) (k:LK) (v:Value):Prop :=
 match k with
 | .int k=>∃ n,v = .int k n
 | .bool=>∃ b,v = .bool b
 | .str=>∃ s,v = .string s
 | .sl e=>∃ t n x,P.underlying t=some (.slice e)/\DataW.trod enc P w 0 sp held n t [v]=some x
 | _=>False
theorem vX:∀ (m:Nat) {t:TypeId} {lv:List LK} {n:Nat} {cs:List Value} {x:DataW H × List MemPlace},xn P m t=some lv->DataW.trod enc P w 0 sp held n t cs=some x->PW (zo enc P w sp held) lv cs
 | 0,t,lv,n,cs,x,h,_=>by rw [xn] at h;cases h
 | m+1,t,lv,n,cs,x,h,hx=>by
  rw [xn] at h
  split at h
  ·rename_i hu
   cases h
   obtain ⟨b,rfl,_⟩:=DataW.trod_bool hu hx
   exact ⟨⟨b,rfl⟩,trivial⟩
  ·rename_i k hu
   cases h
   obtain ⟨b,rfl,_⟩:=DataW.trod_int hu hx
   exact ⟨⟨b,rfl⟩,trivial⟩
  ·rename_i hu
   cases h
   obtain ⟨b,rfl,_⟩:=DataW.trod_string hu hx
   exact ⟨⟨b,rfl⟩,trivial⟩
  ·rename_i e hu
   cases h
   rcases DataW.trod_slice hu hx with ⟨rfl,_⟩|⟨a,len,cap,elems,rest,n',_,rfl,_⟩
   ·exact ⟨⟨t,n,x,hu,hx⟩,trivial⟩
   ·exact ⟨⟨t,n,x,hu,hx⟩,trivial⟩
  ·rename_i fs hu
   obtain ⟨xs,n',_,_,hcs,hxs,hf⟩:=DataW.trod_struct hu hx
   rw [Option.bind_eq_some_iff] at h
   obtain ⟨l,hl,h⟩:=h
   split at h
   ·rename_i hsz
    cases h
    have key:∀ (r:List Field) (i o:Nat) (lr:List LK),fs.toList.drop i=r->zu P (xn P m) r o=some lr->PW (zo enc P w sp held) lr ((cs.drop o).take lr.length):=by
     intro r
     induction r with
     | nil=>intro i o lr _ h;rw [zu] at h;cases h;simp [PW]
     | cons f r ih =>
      intro i o lr hd h
      rw [zu] at h
      split at h
      ·rename_i lf hlf
       split at h
       ·rename_i ho
        obtain ⟨ho1,ho2⟩:=ho
        rw [Option.map_eq_some_iff] at h
        obtain ⟨lr',h1,rfl⟩:=h
        have hfi:fs[i]? = some f:=by
         have h0:(fs.toList.drop i)[0]? = some f:=by rw [hd];rfl
         rw [List.getElem?_drop,Nat.add_zero,Array.getElem?_toList] at h0
         exact h0
        have hi:=(Array.getElem?_eq_some_iff.1 hfi).1
        have hy:=hf i f hfi
        rw [List.getElem?_eq_getElem (by omega),ho1,ho2] at hy
        have p1:=vX m hlf hy
        have p2:=ih (i+1) (o+lf.length) lr' (by rw [<- List.drop_drop,hd];rfl) h1
        have:=PW.append p1 p2
        rw [List.length_append]
        have e:(cs.drop o).take (lf.length+lr'.length)=(cs.drop o).take lf.length++(cs.drop (o+lf.length)).take lr'.length:=by
         rw [List.take_add,List.drop_drop]
        rw [e];exact this
       ·cases h
      ·cases h
    have:=key fs.toList 0 0 _ rfl hl
    rw [List.drop_zero,List.take_of_length_le (by omega)] at this
    exact this
   ·cases h
  ·cases h
theorem k9 {base n:Nat} {a:Addr} {cs:List Value} (h:w.cells? base a n=some cs):cs.length=n/\∀ i,i<n->w.cell? (a.add i)=cs[i]? := by
 obtain ⟨_,h2,h3⟩:=World.cells?_some h
 exact ⟨h2,h3⟩
theorem qH {a:Addr} {v:Value} (h:w.cell? a=some v):a.block<w.heap.size:=by
 rcases Nat.lt_or_ge a.block w.heap.size with h1|h1
 ·exact h1
 ·exfalso
  unfold World.cell? at h
  rw [Array.getElem?_eq_none h1] at h
  cases h
open Classical in
theorem tw {T:Nat->Option TI}:∀ (d:Nat) {e t:TypeId} {n:Nat} {v:Value} {x:DataW H × List MemPlace},yE P T d e=true->P.underlying t=some (.slice e)->DataW.trod enc P w 0 sp held n t [v]=some x ->
  ∃ l:List AV,cU T w (fun b=>b<w.heap.size) (.sl e) v (.sl l)
 | 0,e,t,n,v,x,hd,_,_=>by rw [yE] at hd;cases hd
 | d+1,e,t,n,v,x,hd,hu,hx=>by
  rw [yE] at hd
  split at hd
  ·rename_i E hE
   simp only [Bool.and_eq_true,decide_eq_true_eq,Bool.or_eq_true,List.all_eq_true] at hd
   obtain ⟨hlv,hsz,hag,hks⟩:=hd
   rcases DataW.trod_slice hu hx with ⟨hcs,_⟩|⟨a,len,cap,elems,rest,n',_,hcs,_,_,hlc,hcm,hel,hels,_,_⟩
   ·cases hcs
    exact ⟨[],.slnil e _ rfl⟩
   ·cases hcs
    have cell:∀ (i j:Nat) k,i<len->E.lv[j]? = some k->∃ u,w.cell? (a.add (i*E.sz+j))=some u/\∃ b:AV,cU T w (fun b=>b<w.heap.size) k u b:=by
     intro i j k hi hk
     have h1:=hels i hi
     rw [List.getElem?_eq_getElem (by omega),Option.bind_eq_some_iff] at h1
     obtain ⟨csi,h2,h3⟩:=h1
     obtain ⟨h4,h5⟩:=k9 h2
     have hj:j<E.lv.length:=(List.getElem?_eq_some_iff.1 hk).1
     have hj':j<csi.length:=by rw [h4,hsz];exact hj
     have h6:=h5 j (by rw [hsz];exact hj)
     rw [add_add,List.getElem?_eq_getElem hj',hsz] at h6
     refine ⟨_,h6,?_⟩
     have h7:=(vX 20 hlv h3).get hk (List.getElem?_eq_getElem hj')
     have h8:=hks k (List.mem_of_getElem? hk)
     generalize csi[j]=u at h7
     cases k with
     | int k=>obtain ⟨m,rfl⟩:=h7;exact ⟨.int m,.int k (.int m)⟩
     | bool=>obtain ⟨b,rfl⟩:=h7;exact ⟨.bool b,.bool (.bool b)⟩
     | str=>obtain ⟨s,rfl⟩:=h7;exact ⟨.str s,.str (.str s)⟩
     | sl e' =>
      obtain ⟨t',m,y,h9,h10⟩:=h7
      obtain ⟨l,hl⟩:=tw d h8 h9 h10
      exact ⟨.sl l,hl⟩
     | ptr=>exact h7.elim
     | fn=>exact h7.elim
     | nos=>exact h7.elim
     | ifc=>exact h7.elim
     | oth=>exact h7.elim
     | mp _ _=>exact h7.elim
    have pick:∃ f:Nat->Nat->AV,∀ (i j:Nat) k,i<len->E.lv[j]? = some k->∀ u,w.cell? (a.add (i*E.sz+j))=some u->cU T w (fun b=>b<w.heap.size) k u (f i j):=by
     refine ⟨fun i j=>if h:∃ b:AV,∀ k u,E.lv[j]? = some k->w.cell? (a.add (i*E.sz+j))=some u->cU T w (fun b=>b<w.heap.size) k u b then Classical.choose h else .no,?_⟩
     intro i j k hi hk u hu'
     have h:∃ b:AV,∀ k u,E.lv[j]? = some k->w.cell? (a.add (i*E.sz+j))=some u->cU T w (fun b=>b<w.heap.size) k u b:=by
      obtain ⟨u0,h1,b,h2⟩:=cell i j k hi hk
      refine ⟨b,fun k' u' hk' hu2 => ?_⟩
      rw [hk] at hk';cases hk'
      rw [h1] at hu2;cases hu2
      exact h2
     simp only
     rw [dif_pos h]
     exact Classical.choose_spec h k u hk hu'
    obtain ⟨f,hf⟩:=pick
    let l:List AV:=(List.range len).map fun i=>bif E.agg then .agg ((List.range E.sz).map (f i)) else f i 0
    have hll:l.length=len:=by simp [l]
    let cs:List Value:=(List.range (len*E.sz)).map fun m=>(w.cell? (a.add m)).getD undef
    have hcl:cs.length=len*E.sz:=by simp [cs]
    have hspl:∀ m,m<len*E.sz->∃ i j k,i<len/\E.lv[j]? = some k/\m=i*E.sz+j:=by
     intro m hm
     have hp:0<E.sz:=by
      rcases Nat.eq_zero_or_pos E.sz with h|h
      ·rw [h,Nat.mul_zero] at hm;omega
      ·exact h
     refine ⟨m / E.sz,m % E.sz,E.lv[m % E.sz]'(Nat.mod_lt _ hp),?_,List.getElem?_eq_getElem _,?_⟩
     ·rw [Nat.div_lt_iff_lt_mul hp];exact hm
     ·rw [Nat.mul_comm];exact (Nat.div_add_mod m E.sz).symm
    have hcv:∀ (m:Nat) u,cs[m]? = some u->m<len*E.sz/\w.cell? (a.add m)=some u:=by
     intro m u hmu
     have hm:m<len*E.sz:=by rw [<- hcl];exact (List.getElem?_eq_some_iff.1 hmu).1
     refine ⟨hm,?_⟩
     obtain ⟨i,j,k,hi,hk,rfl⟩:=hspl m hm
     obtain ⟨u0,h1,_⟩:=cell i j k hi hk
     have:cs[i*E.sz+j]? = some u0:=by
      simp only [cs,List.getElem?_map,List.getElem?_range hm,Option.map_some,h1,Option.getD_some]
     rw [this] at hmu;cases hmu;exact h1
    refine ⟨l,.sl e E a len cap (.sl l) cs hE hll.symm hlc hcm hcl (fun m u hmu => ?_) (fun i j k hi hk u hu' => ?_)⟩
    ·have:=(hcv m u hmu).2
     refine ⟨?_,this⟩
     have h1:=qH this
     rwa [de] at h1
    ·have h1:=(hcv _ u hu').2
     have h2:=hf i j k hi hk u h1
     have hj:j<E.sz:=(List.getElem?_eq_some_iff.1 hk).1
     have hli:l.getD i .no=bif E.agg then .agg ((List.range E.sz).map (f i)) else f i 0:=by
      rw [List.getD_eq_getElem?_getD]
      simp only [l,List.getElem?_map,List.getElem?_range hi,Option.map_some,Option.getD_some]
     have hl':lf E.agg ((AV.sl l).l.getD i .no) j=f i j:=by
      rw [show (AV.sl l).l=l from rfl,hli]
      cases hagg:E.agg with
      | true =>
       show AV.fld (.agg ((List.range E.sz).map (f i))) j=_
       unfold AV.fld
       simp [List.getD_eq_getElem?_getD,List.getElem?_map,List.getElem?_range hj]
      | false =>
       rw [hagg] at hag
       have:E.sz=1:=by simpa using hag
       have:j=0:=by omega
       subst this;rfl
     rw [hl'];exact h2
  ·cases hd
theorem xv {T:Nat->Option TI} {r:Reach} {b0:Nat} {t e:TypeId} {v:Value} {d:DataW H} {ps:List MemPlace} (m:Nat) (hd:yE P T m e=true) (ht:P.underlying t=some (.slice e)) (hval:Value.okWide P w r b0 t v) (h:DataW.Trod enc P w 0 sp held t v d ps) :
  ∃ l:List AV,cU T w (fun b=>b<w.heap.size) (.sl e) v (.sl l):=by
 obtain ⟨fuel,hf⟩:=h
 have hc:v.cells.toList=[v]:=by
  unfold Value.okWide at hval
  rw [ht] at hval
  simp only [Cell.okWide,ht,Cell.ok] at hval
  cases v <;> first|rfl|exact hval.elim
 rw [hc] at hf
 exact tw m hd ht hf
theorem fb {α β : Type} {f g : α -> Option β}:∀ {l:List α},(∀ x∈l,f x=g x)->l.mapM f=l.mapM g
 | [],_=>rfl
 | a::l,h=>by
  rw [List.mapM_cons,List.mapM_cons,h a (by simp),fb (fun x hx=>h x (by simp [hx]))]
theorem uJ {a:Addr} {v:Value} (hb:Below w.heap.size w w') (h:w.cell? a=some v):w'.cell? a=some v:=by
 rw [hb.cell (qH h)];exact h
theorem sG {base n:Nat} {a:Addr} {cs:List Value} (hb:Below w.heap.size w w') (h:w.cells? base a n=some cs):w'.cells? base a n=some cs:=by
 obtain ⟨h1,h2⟩:=k9 h
 unfold World.cells? at h ⊢
 split
 ·rename_i hle
  rw [if_pos hle] at h
  rw [<- h]
  refine fb fun i hi => ?_
  have hi':=List.mem_range.1 hi
  have:=h2 i hi'
  rw [List.getElem?_eq_getElem (by omega)] at this
  rw [this,uJ hb this]
 ·rename_i hle
  rw [if_neg hle] at h;cases h
theorem jM (hb:Below w.heap.size w w'):∀ (m:Nat) {t:TypeId} {n:Nat} {cs:List Value} {x:DataW H × List MemPlace},pB P m t=true->DataW.trod enc P w 0 (fun _=>true) held n t cs=some x ->
  DataW.trod enc P w' 0 (fun b=>decide (b<w.heap.size)) held n t cs=some x
 | 0,t,n,cs,x,hg,_=>by rw [pB] at hg;cases hg
 | m+1,t,0,cs,x,hg,h=>by rw [DataW.trod] at h;cases h
 | m+1,t,n+1,cs,x,hg,h=>by
  rw [pB] at hg
  split at hg
  ·rename_i hu
   obtain ⟨b,rfl,rfl⟩:=DataW.trod_bool hu h
   simp [DataW.trod,hu]
  ·rename_i k hu
   obtain ⟨b,rfl,rfl,hw⟩:=DataW.trod_int hu h
   simp [DataW.trod,hu,hw]
  ·rename_i hu
   obtain ⟨b,rfl,rfl,hw⟩:=DataW.trod_string hu h
   simp [DataW.trod,hu,hw]
  ·rename_i e hu
   rcases DataW.trod_slice hu h with ⟨rfl,rfl⟩|⟨a,len,cap,elems,rest,n',hn',rfl,rfl,h0,h1,h2,h3,h4,h5,_⟩
   ·simp [DataW.trod,hu]
   ·cases hn'
    simp only [Bool.and_eq_true,decide_eq_true_eq] at hg
    have hel:∀ i y,(w.cells? 0 (a.add (i*P.cellsOf e)) (P.cellsOf e)).bind (DataW.trod enc P w 0 (fun _=>true) held n e)=some y ->
      (w'.cells? 0 (a.add (i*P.cellsOf e)) (P.cellsOf e)).bind (DataW.trod enc P w' 0 (fun b=>decide (b<w.heap.size)) held n e)=some y:=by
     intro i y hy
     rw [Option.bind_eq_some_iff] at hy ⊢
     obtain ⟨cs,h6,h7⟩:=hy
     exact ⟨cs,sG hb h6,jM hb m hg.2 h7⟩
    obtain ⟨h5a,h5b⟩:=h5 rfl
    have e1:(List.range len).mapM (fun i=>(w'.cells? 0 (a.add (i*P.cellsOf e)) (P.cellsOf e)).bind (DataW.trod enc P w' 0 (fun b=>decide (b<w.heap.size)) held n e))
      = (List.range len).mapM (fun i=>(w.cells? 0 (a.add (i*P.cellsOf e)) (P.cellsOf e)).bind (DataW.trod enc P w 0 (fun _=>true) held n e)):=by
     refine fb fun i hi => ?_
     have hi':=List.mem_range.1 hi
     have:=h4 i hi'
     rw [List.getElem?_eq_getElem (by omega)] at this
     rw [this,hel i _ this]
    have e2:(if (decide (a.block<w.heap.size))=true then (List.range (cap-len)).mapM (fun j=>(w'.cells? 0 (a.add ((len+j)*P.cellsOf e)) (P.cellsOf e)).bind (DataW.trod enc P w' 0 (fun b=>decide (b<w.heap.size)) held n e)) else some [])
      = (List.range (cap-len)).mapM (fun j=>(w.cells? 0 (a.add ((len+j)*P.cellsOf e)) (P.cellsOf e)).bind (DataW.trod enc P w 0 (fun _=>true) held n e)):=by
     have e3:(List.range (cap-len)).mapM (fun j=>(w'.cells? 0 (a.add ((len+j)*P.cellsOf e)) (P.cellsOf e)).bind (DataW.trod enc P w' 0 (fun b=>decide (b<w.heap.size)) held n e))
       = (List.range (cap-len)).mapM (fun j=>(w.cells? 0 (a.add ((len+j)*P.cellsOf e)) (P.cellsOf e)).bind (DataW.trod enc P w 0 (fun _=>true) held n e)):=by
      refine fb fun j hj => ?_
      have hj':=List.mem_range.1 hj
      have:=h5b j hj'
      rw [List.getElem?_eq_getElem (by omega)] at this
      rw [this,hel _ _ this]
     rcases Nat.eq_zero_or_pos (cap-len) with hz|hz
     ·rw [hz]
      split
      ·rfl
      ·rfl
     ·have h6:=h5b 0 hz
      rw [List.getElem?_eq_getElem (by omega),Option.bind_eq_some_iff] at h6
      obtain ⟨cs,h7,_⟩:=h6
      obtain ⟨h8,h9⟩:=k9 h7
      have h10:=h9 0 hg.1
      rw [List.getElem?_eq_getElem (by omega)] at h10
      have h11:=qH h10
      rw [de,de] at h11
      rw [if_pos (by simpa using h11)]
      exact e3
    unfold DataW.trod at h ⊢
    rw [hu] at h ⊢
    simp only at h ⊢
    rw [if_pos ⟨h0,h1,h2⟩] at h ⊢
    rw [e1,e2]
    simpa using h
  ·rename_i fs hu
   unfold DataW.trod at h ⊢
   rw [hu] at h ⊢
   simp only at h ⊢
   split at h
   ·rename_i hl
    rw [if_pos hl]
    rw [<- h]
    congr 1
    rw [Option.map_eq_some_iff] at h
    obtain ⟨xs,hxs,_⟩:=h
    refine fb fun f hf => ?_
    obtain ⟨i,hi⟩:=List.getElem?_of_mem hf
    have h1:=mapM_some_get hxs i f hi
    have h2:=mapM_some_length hxs
    have hlt:=(List.getElem?_eq_some_iff.1 hi).1
    rw [List.getElem?_eq_getElem (by omega)] at h1
    rw [h1]
    rw [List.all_eq_true] at hg
    exact jM hb m (hg f hf) h1
   ·cases h
  ·cases hg
theorem vd (hb:Below w.heap.size w w') {m:Nat} {t:TypeId} {v:Value} {d:DataW H} {ps:List MemPlace} (hg:pB P m t=true) (h:DataW.Trod enc P w 0 (fun _=>true) held t v d ps) :
  DataW.Trod enc P w' 0 (fun b=>decide (b<w.heap.size)) held t v d ps:=by
 obtain ⟨n,hn⟩:=h
 exact ⟨n,jM hb m hg hn⟩
theorem Fb {T:Nat->Option TI} {W:World} {args:List SV} {vals:List Value} (hc:ie (CV (cc T W (fun b=>b<W.heap.size) (fun b=>b<W.heap.size))) args vals []) (h0:0<W.heap.size):Pre T (zW W) W args vals (fun b=>b<W.heap.size) (fun b=>b<W.heap.size) []:=by
 refine ⟨hc,by simp,by simp,fun b hb=>hb,fun b hb=>hb,fun b ob hb => ?_⟩
 unfold zW at hb
 split at hb
 ·rename_i e;subst e;exact ⟨hb,h0⟩
 ·cases hb
theorem AE {T:Nat->Option TI} {W:World} {e:Nat} {v:Value} {l:List AV} (h:cU T W (fun b=>b<W.heap.size) (.sl e) v (.sl l)):CV (cc T W (fun b=>b<W.heap.size) (fun b=>b<W.heap.size)) (.ro e l true) v [] :=
 ⟨rfl,rfl,by simp,h⟩
end Go.Proofs.Ab
namespace Go.Proofs.Ab
open Go Go.RowKit
variable {H:Type} {enc:TypeId × Value->H} {P:Program} {w w':World} {sp:Nat->Bool} {held:Bool}
inductive Fit (N:Nat):AV->Prop
 | no:Fit N .no
 | int (n:Int):Fit N (.int n)
 | bool (b:Bool):Fit N (.bool b)
 | str (s:ByteArray):s.size<=N->Fit N (.str s)
 | sl (l:List AV):(∀ a∈l,Fit N a)->Fit N (.sl l)
 | agg (l:List AV):(∀ a∈l,Fit N a)->Fit N (.agg l)
theorem Fit.s {N:Nat} {a:AV} (h:Fit N a):a.s.size<=N:=by cases h <;> first|assumption|exact Nat.zero_le _
theorem Fit.l {N:Nat} {a:AV} (h:Fit N a):∀ b∈a.l,Fit N b:=by
 cases h with
 | sl l h=>exact h
 | agg l h=>intro b hb;cases hb
 | _=>intro b hb;cases hb
theorem Fit.fld {N:Nat} {a:AV} (h:Fit N a) (j:Nat):Fit N (a.fld j):=by
 cases h with
 | agg l h =>
  show Fit N (l.getD j .no)
  rw [List.getD_eq_getElem?_getD]
  cases e:l[j]? with
  | none=>exact .no
  | some b=>exact h b (List.mem_of_getElem? e)
 | _=>exact .no
end Go.Proofs.Ab
namespace Go.Proofs.Ab
open Go Go.RowKit
variable {R:Type}
section
variable {P:Program} {ops:Array Oper} {Qn:Act->World->Prop}
def Qd (Qn:Act->World->Prop):Exit->Act->World->Prop:=fun e a w=>e = .normal/\Qn a w/\a.defers=[]
theorem qz:¬ LetsOut (Qd Qn):=fun ⟨_,_,h,_⟩=>by cases h
theorem cV (a:Act) (d:Option Nat) (v:Value):(a.put d v).defers=a.defers:=by cases d <;> rfl
theorem mw:∀ (l:List Nat) (a:Act) (w:World),wpOps P ops (Qd Qn) l a w->a.defers=[]
 | [],a,w,h=>h.2.2
 | i::l,a,w,h=>by
  have ih:=fun a w=>mw l a w
  simp only [wpOps] at h
  split at h
  ·exact ih _ _ h
  ·rename_i o ho
   split at h
   ·rcases h with h|h
    ·unfold Oper.wp at h
     cases hrun:(execOp a.eval o).run P w with
     | ok x w' =>
      rw [hrun] at h
      cases x <;> simp only [Oper.upon] at h
      case value v=>have:=ih _ _ h;rwa [cV] at this
      case skip=>have:=ih _ _ h;rwa [cV] at this
      case defer d=>have:=ih _ _ h;rw [cV] at this;cases this
      case enter f args =>
       obtain ⟨e,w',fr,hR,_⟩:=h []
       cases e with
       | returned v=>have:=ih _ _ hR;rwa [cV] at this
       | panicked c=>exact absurd hR.1 (by simp)
       | outgrown=>exact absurd hR qz
      case row row args =>
       obtain ⟨v,w',hR,_⟩:=h default []
       have:=ih _ _ hR;rwa [cV] at this
     | halt x w' =>
      rw [hrun] at h
      cases x <;> simp only [Oper.upon] at h
      all_goals exact absurd h.1 (by simp)
    ·exact absurd h.2 qz
   ·have:=ih _ _ h;rwa [cV] at this
def Kp (ds:List Nat) (a0 a:Act):Prop:=a.tmps.size=a0.tmps.size/\∀ i,i ∉ ds->a.tmps.getD i undef=a0.tmps.getD i undef
theorem Kp.refl (ds:List Nat) (a:Act):Kp ds a a:=⟨rfl,fun _ _=>rfl⟩
theorem Kp.put {ds:List Nat} {a0 a:Act} (h:Kp ds a0 a) {d:Option Nat} (hd:∀ i,d=some i->i∈ds) (v:Value):Kp ds a0 (a.put d v):=by
 cases d with
 | none=>exact h
 | some k =>
  refine ⟨by show (a.tmps.setIfInBounds k v).size=_;rw [Array.size_setIfInBounds];exact h.1,fun i hi => ?_⟩
  have hne:k≠i:=fun e=>hi (e▸hd k rfl)
  show (a.tmps.setIfInBounds k v).getD i undef=_
  rw [<- h.2 i hi]
  simp only [Array.getD_eq_getD_getElem?,Array.getElem?_setIfInBounds]
  rw [if_neg hne]
theorem zC {F:Fence} {n:Nat} (hfn:∀ f,F.fn f) (hd:F.depth=none) (hC:∀ {n f args w} {R:Ending->World->Prop},Calls P f args w R->CallsIn F n P f args w R) (hR:∀ {n row args w} {R:Value->World->Prop},Rows P row args w R->RowsIn F n P row args w R)
  (hnd:∀ o∈ops.toList,∀ c,o.op ≠ .defer c) (d:List Deferred) {ds:List Nat} (hds:∀ o∈ops.toList,∀ i,o.dst=some i->i∈ds) {a0:Act}:∀ (l:List Nat) (a:Act) (w:World),Kp ds a0 a->wpOps P ops (Qd Qn) l a w ->
  wpOpsIn F n P ops (fun e a' w'=>e = .normal/\Qn { a' with defers:=[] } w'/\a'.defers=d/\Kp ds a0 a') l { a with defers:=d } w
 | [],a,w,hk,h=>by
  obtain ⟨h1,h2,h3⟩:=h
  refine ⟨rfl,?_,rfl,hk⟩
  have:({ ({ a with defers:=d }:Act) with defers:=[] }:Act)=a:=by cases a;simp only at h3;rw [h3]
  rw [this];exact h2
 | i::l,a,w,hk,h=>by
  have ih:=fun a w=>zC (n:=n) hfn hd hC hR hnd d hds (a0:=a0) l a w
  have hput:∀ (a:Act) (o:Option Nat) (v:Value),({ a with defers:=d }:Act).put o v={ a.put o v with defers:=d }:=fun a o v=>by cases o <;> rfl
  simp only [wpOps] at h
  simp only [wpOpsIn]
  split at h
  ·rename_i ho;rw [ho];exact ih _ _ hk h
  ·rename_i o ho
   rw [ho]
   have hmem:o∈ops.toList:=Array.mem_toList_iff.2 (Array.mem_of_getElem? ho)
   simp only
   split at h
   ·rename_i hw
    rw [if_pos hw]
    rcases h with h|h
    ·refine ⟨fun f _=>hfn f,?_⟩
     have hsem:o.semAt F.round ({ a with defers:=d }:Act).eval=execOp a.eval o:=by
      cases F.round with
      | none=>rfl
      | some r=>exact Oper.semAt_some r _ _ (hnd o hmem)
     rw [hsem]
     unfold Oper.wp at h
     cases hrun:(execOp a.eval o).run P w with
     | ok x w' =>
      rw [hrun] at h
      cases x <;> simp only [Oper.upon] at h
      case value v=>simp only [Oper.uponIn];rw [hput];exact ih _ _ (hk.put (hds o hmem) _) h
      case skip=>simp only [Oper.uponIn];rw [hput];exact ih _ _ (hk.put (hds o hmem) _) h
      case defer d' =>
       have:=mw _ _ _ h
       rw [cV] at this;cases this
      case enter f args =>
       simp only [Oper.uponIn]
       refine ⟨fun h=>(by rw [hd] at h;cases h),hC (h.mono fun e w2 hR => ?_)⟩
       cases e with
       | returned v=>simp only at hR ⊢;rw [hput];exact ih _ _ (hk.put (hds o hmem) _) hR
       | panicked c=>exact absurd hR.1 (by simp)
       | outgrown=>exact absurd hR qz
      case row row args =>
       simp only [Oper.uponIn]
       refine ⟨fun h=>(by rw [hd] at h;cases h),hR (h.mono fun v w2 hR => ?_)⟩
       rw [hput];exact ih _ _ (hk.put (hds o hmem) _) hR
     | halt x w' =>
      rw [hrun] at h
      cases x <;> simp only [Oper.upon] at h
      all_goals exact absurd h.1 (by simp)
    ·exact absurd h.2 qz
   ·rename_i hw
    rw [if_neg hw]
    refine ⟨fun f _=>hfn f,?_⟩
    rw [hput];exact ih _ _ (hk.put (hds o hmem) _) h
end
end Go.Proofs.Ab
namespace Go.Proofs.Ab
noncomputable section
open Go Go.RowKit
variable {R:Type}
def vL (o:Oper):Bool:=match o.op with
 | .defer _=>true
 | _=>false
def tX (id:Nat):Exit->Exit
 | .exit i=>if i=id then .normal else .exit i
 | e=>e
def tH (κ : Exit->St->Option R) (f:St->Option R):Exit->St->Option R
 | .normal,s=>f s
 | .exit i,s=>κ (.exit i) s
 | .ret,s=>κ .ret s
 | _,_=>none
def cK (C:Cfg R):Code->St->(Exit->St->Option R)->Option R
 | .region _ ops d,s,κ => bif d||ops.toList.any vL then none else dD C false ops ops.toList s (κ .normal)
 | .seq x y,s,κ => cK C x s (tH κ fun s1=>cK C y s1 κ)
 | .skip,s,κ => κ .normal s
 | .cond c x y,s,κ => match ev s c with
  | .bool t=>bif t then cK C x s κ else cK C y s κ
  | _=>none
 | .block id c,s,κ => cK C c s fun e s1=>κ (tX id e) s1
 | .exit id,s,κ => κ (.exit id) s
 | .ret,s,κ => κ .ret s
 | _,_,_=>none
section
variable {P:Program} {E:Env} {C:Cfg R} {tab:cb} {r:R} {F:Fence} {n:Nat}
def jf:Code->List Nat
 | .region _ ops _=>ops.toList.filterMap (·.dst)
 | .seq x y=>jf x++jf y
 | .cond _ x y=>jf x++jf y
 | .block _ c=>jf c
 | _=>[]
def Qx (E:Env) (κ : Exit->St->Option R) (r:R) (d:List Deferred) (ds:List Nat) (a0:Act):Exit->Act->World->Prop:=fun e a' w'=>∃ s',κ e s'=some r/\ci E s' { a' with defers:=[] } w'/\a'.defers=d/\Kp ds a0 a'
theorem m9 (hP:Ok P C.ty) (hE:cS C tab E) (hD:∀ g,bR P C.ty tab g (C.call g)) (hfn:∀ f,F.fn f) (hd:F.depth=none) (hC:∀ {n f args w} {R:Ending->World->Prop},Calls P f args w R->CallsIn F n P f args w R) (hR:∀ {n row args w} {R:Value->World->Prop},Rows P row args w R->RowsIn F n P row args w R) (d:List Deferred) {ds:List Nat} {a0:Act} :
  ∀ (c:Code) {s:St} {a:Act} {w:World} {κ : Exit->St->Option R},(∀ i∈jf c,i∈ds)->ci E s { a with defers:=[] } w->a.defers=d->Kp ds a0 a->cK C c s κ = some r->c.wpIn F n P (Qx E κ r d ds a0) a w
 | .region id ops dr,s,a,w,κ,hq,h,ha,hkp,hk=>by
  unfold cK at hk
  obtain ⟨h1,hk2⟩:=jv hk
  clear hk
  rw [Bool.or_eq_false_iff] at h1
  obtain ⟨rfl,h1⟩:=h1
  have hnd:∀ o∈ops.toList,∀ c,o.op ≠ .defer c:=fun o ho c e=>by
   rw [List.any_eq_false] at h1
   exact h1 o ho (by unfold vL;rw [e])
  have hops:=jD (Q:=Qd fun a w=>∃ s',κ .normal s'=some r/\ci E s' a w) hP hE hD (fun s' a' w' h1 h2=>⟨rfl,⟨s',h1,h2⟩,let ⟨_,_,_,h⟩:=h2;h.defers⟩) ops.toList 0 (by simp) h hk2
  have:=zC (n:=n) hfn hd hC hR hnd d (ds:=ds) (fun o ho i e=>hq i (by unfold jf;rw [List.mem_filterMap];exact ⟨o,ho,e⟩)) (a0:=a0) _ { a with defers:=[] } _ hkp hops
  have ea:({ ({ a with defers:=[] }:Act) with defers:=d }:Act)=a:=by cases a;simp only at ha;rw [<- ha]
  rw [ea] at this
  refine wpIn_mono (wpIn_region ?_) (Q:=fun e a' w'=>e = .normal/\(∃ s',κ .normal s'=some r/\ci E s' { a' with defers:=[] } w')/\a'.defers=d/\Kp ds a0 a') fun e a' w' h => ?_
  ·rw [List.range_eq_range',show ops.size=ops.toList.length by simp];exact this
  ·obtain ⟨rfl,⟨s',h1,h2⟩,h3⟩:=h
   exact ⟨s',h1,h2,h3⟩
 | .seq x y,s,a,w,κ,hq,h,ha,hkp,hk=>by
  unfold cK at hk
  refine wpIn_seq (wpIn_mono (m9 hP hE hD hfn hd hC hR d x (fun i hi=>hq i (by unfold jf;simp [hi])) h ha hkp hk) fun e a' w' hq2 => ?_)
  obtain ⟨s',h1,h2,h3,h4⟩:=hq2
  cases e with
  | normal=>exact m9 hP hE hD hfn hd hC hR d y (fun i hi=>hq i (by unfold jf;simp [hi])) h2 h3 h4 h1
  | exit i=>exact ⟨s',h1,h2,h3,h4⟩
  | ret=>exact ⟨s',h1,h2,h3,h4⟩
  | _=>cases h1
 | .skip,s,a,w,κ,_,h,ha,hkp,hk=>wpIn_skip ⟨s,hk,h,ha,hkp⟩
 | .cond c x y,s,a,w,κ,hq,h,ha,hkp,hk=>by
  unfold cK at hk
  split at hk
  ·rename_i t ht
   obtain ⟨β,Rt,Ra,h0⟩:=h
   have hc:=bH h0 c
   rw [ht] at hc
   have e:a.eval c = .bool t:=hc
   refine wpIn_cond e ?_
   cases t with
   | true=>exact m9 hP hE hD hfn hd hC hR d x (fun i hi=>hq i (by unfold jf;simp [hi])) ⟨β,Rt,Ra,h0⟩ ha hkp hk
   | false=>exact m9 hP hE hD hfn hd hC hR d y (fun i hi=>hq i (by unfold jf;simp [hi])) ⟨β,Rt,Ra,h0⟩ ha hkp hk
  ·cases hk
 | .block id c,s,a,w,κ,hq,h,ha,hkp,hk=>by
  unfold cK at hk
  refine wpIn_block (wpIn_mono (m9 hP hE hD hfn hd hC hR d c (fun i hi=>hq i (by unfold jf;exact hi)) h ha hkp hk) fun e a' w' hq2 => ?_)
  obtain ⟨s',h1,h2,h3⟩:=hq2
  cases e with
  | exit i =>
   change κ (if i=id then .normal else .exit i) s'=some r at h1
   show if i=id then Qx E κ r d ds a0 .normal a' w' else Qx E κ r d ds a0 (.exit i) a' w'
   by_cases hi:i=id
   ·rw [if_pos hi] at h1 ⊢;exact ⟨s',h1,h2,h3⟩
   ·rw [if_neg hi] at h1 ⊢;exact ⟨s',h1,h2,h3⟩
  | _=>exact ⟨s',h1,h2,h3⟩
 | .exit id,s,a,w,κ,_,h,ha,hkp,hk=>wpIn_exit ⟨s,hk,h,ha,hkp⟩
 | .ret,s,a,w,κ,_,h,ha,hkp,hk=>wpIn_ret ⟨s,hk,h,ha,hkp⟩
 | .loop ..,_,_,_,_,_,_,_,_,hk=>by cases hk
 | .scope ..,_,_,_,_,_,_,_,_,hk=>by cases hk
 | .goto ..,_,_,_,_,_,_,_,_,hk=>by cases hk
 | .label ..,_,_,_,_,_,_,_,_,hk=>by cases hk
 | .rangeFunc ..,_,_,_,_,_,_,_,_,hk=>by cases hk
 | .refuse ..,_,_,_,_,_,_,_,_,hk=>by cases hk
end
end
end Go.Proofs.Ab
namespace Go.Proofs.Ab
noncomputable section
open Go Go.RowKit
variable {R:Type}
section
variable {P:Program} {E:Env} {C:Cfg R} {tab:cb} {s s':St} {a a':Act} {w w':World} {β β':Nat->Bl} {Rt Ra Rt' Ra':Nat->Prop}
def EL (E:Env) (s:St) (w:World) (β : Nat->Bl) (Rt Ra:Nat->Prop):Env:=⟨E.T,w,fun b=>∃ t o,s.obj t=some o/\b∈bK (β t) o,Rt,Ra,E.pb⟩
theorem Rel.re (h:Rel E s a w β Rt Ra):Rel (EL E s w β Rt Ra) s a w β Rt Ra :=
 ⟨⟨h.objs,h.lt,fun t o ho b hb=>⟨(h.cx t o ho b hb).1,(h.cx t o ho b hb).2.1,.inr ⟨t,o,ho,hb⟩⟩,h.apart,h.sub,h.rlt,Fr.refl _ _,fun _ h=>h,fun _ h=>h,fun _ h => .inl h,h.nx,h.pin⟩,h.len,h.defers,h.slots⟩
theorem cS.re (hE:cS C tab E) (h:Rel E s a w β Rt Ra):cS C tab (EL E s w β Rt Ra) :=
 ⟨hE.T,fun b ob hob=>by
  obtain ⟨g1,g2,g3⟩:=hE.tab b ob hob
  have hlt:b<E.w0.heap.size:=(Array.getElem?_eq_some_iff.1 g1).1
  refine ⟨(h.fr.block b hlt g3).trans g1,h.rt0 b g2,?_⟩
  rintro ⟨t,o,ho,hb⟩
  exact (h.cx t o ho b hb).2.1 (h.sub b (h.rt0 b g2))⟩
theorem Rel.Fi (h:Rel E s a w β Rt Ra) (h':Rel (EL E s w β Rt Ra) s' a' w' β' Rt' Ra'):Rel E s' a' w' β' Rt' Ra' :=
 ⟨⟨h'.objs,h'.lt,fun t o ho b hb=>by
   obtain ⟨g1,g2,g3⟩:=h'.cx t o ho b hb
   refine ⟨g1,g2,?_⟩
   rcases g3 with g3|⟨t',o',ho',hb'⟩
   ·exact .inl (Nat.le_trans h.fr.size g3)
   ·exact (h.cx t' o' ho' b hb').2.2,
  h'.apart,h'.sub,h'.rlt,h.fr.trans h'.fr (fun b hb=>by obtain ⟨t',o',ho',hb'⟩:=hb;exact (h.cx t' o' ho' b hb').2.2),fun b hb=>h'.rt0 b (h.rt0 b hb),fun b hb=>h'.ra0 b (h.ra0 b hb),
  fun b hb=>by
   rcases h'.rt b hb with g|g|⟨t',o',ho',hb'⟩
   ·exact h.rt b g
   ·exact .inr (.inl (Nat.le_trans h.fr.size g))
   ·exact .inr (h.cx t' o' ho' b hb').2.2,h'.nx,h'.pin⟩,h'.len,h'.defers,h'.slots⟩
def wK:SV->Bool
 | .ro _ _ st=>st
 | .rl _ _ st _ _=>st
 | .ra _ _ _ st=>st
 | _=>true
def Cj:SV->Bool
 | .agg l=>l.all wK
 | .tup _=>false
 | x=>wK x
def DR:Obj->Bool
 | .row _ _ st=>st
 | .var _ l=>l.all wK
 | _=>true
def mz (s:St):Bool:=s.slots.all Cj&&s.objs.all fun p=>DR p.2
theorem Ca {c c':Cx} (hT:c'.T=c.T) (hw:c'.w=c.w) (hRt:c'.Rt=c.Rt) (hβ : c'.β = c.β) (hD:c'.D=c.D) {x:SV} {v:Value} (hx:wK x=true) (h:SL c x v):SL c' x v:=by
 have hQ:c'.Q true=c.Q true:=by funext b;unfold Cx.Q;rw [if_pos rfl,if_pos rfl,hRt]
 cases x <;> simp only [SL] at h ⊢ <;> try (first|exact h|(rw [hD,hβ];exact h)|(rw [hD];exact h))
 case ro e l st=>obtain rfl:st=true:=hx;rw [hT,hw,hQ];exact h
 case rl e l st i off=>obtain rfl:st=true:=hx;rw [hT,hw,hQ];exact h
 case ra e n l st=>obtain rfl:st=true:=hx;rw [hT,hw,hQ];exact h
 case ar e n l=>rw [hT,hw];exact h
theorem rN {c:Cx} {x:SV} {v:Value} (h1:∀ l,x ≠ .agg l) (h2:∀ l,x ≠ .tup l):S2 c x v ↔ SL c x v:=by
 cases x <;> first|exact Iff.rfl|exact absurd rfl (h1 _)|exact absurd rfl (h2 _)
theorem nU:∀ {l:List (Nat × Obj)} {t:Nat} {o:Obj},lookup t l=some o->∃ k,(k,o)∈l
 | [],_,_,h=>by cases h
 | (k,x)::l,t,o,h=>by
  unfold lookup at h
  cases hb:Nat.beq t k with
  | true=>rw [hb] at h;cases h;exact ⟨k,by simp⟩
  | false =>
   rw [hb] at h
   obtain ⟨j,hj⟩:=nU h
   exact ⟨j,by simp [hj]⟩
theorem yB (h:mz s=true) {t:Nat} {o:Obj} (ho:s.obj t=some o):DR o=true:=by
 unfold mz at h
 rw [Bool.and_eq_true,List.all_eq_true,List.all_eq_true] at h
 obtain ⟨k,hk⟩:=nU ho
 exact h.2 _ hk
theorem yA (h:mz s=true) (i:Nat):Cj (s.get i)=true:=by
 unfold mz at h
 rw [Bool.and_eq_true,List.all_eq_true,List.all_eq_true] at h
 show Cj (dE s.slots i)=true
 by_cases hi:i<s.slots.length
 ·rw [qM,List.getD_eq_getElem?_getD,List.getElem?_eq_getElem hi];exact h.1 _ (List.getElem_mem _)
 ·rw [qN hi];rfl
theorem Rel.shrink (h:Rel E s a w β Rt Ra) (hc:mz s=true):Rel E s a w β Rt (fun b=>Rt b∨E.Ra0 b):=by
 have one:∀ {x:SV} {v:Value},wK x=true->SL (bg E s w β Rt Ra) x v->SL (bg E s w β Rt fun b=>Rt b∨E.Ra0 b) x v:=fun {x v} hx hv=>Ca (c:=bg E s w β Rt Ra) (c':=bg E s w β Rt fun b=>Rt b∨E.Ra0 b) rfl rfl rfl rfl rfl hx hv
 refine ⟨⟨fun t o ho => ?_,h.lt,fun t o ho b hb=>⟨(h.cx t o ho b hb).1,fun hr=>(h.cx t o ho b hb).2.1 (hr.elim (h.sub b) (h.ra0 b)),(h.cx t o ho b hb).2.2⟩,h.apart,fun b hb => .inl hb,fun b hb=>h.rlt b (hb.elim (h.sub b) (h.ra0 b)),h.fr,h.rt0,fun b hb => .inr hb,h.rt,h.nx,h.pin⟩,h.len,h.defers,fun i => ?_⟩
 ·have hcl:=yB hc ho
  have h0:=h.objs t o ho
  cases o with
  | row e l st =>
   obtain rfl:st=true:=hcl
   exact h0
  | var ty ls =>
   obtain ⟨cs,u,h1,h2⟩:=h0
   refine ⟨cs,u,h1,PW.imp_mem (fun x hx v hv => ?_) h2⟩
   have hx1:wK x=true:=List.all_eq_true.1 hcl x hx
   unfold jP at hv ⊢
   split
   ·exact hv
   ·rename_i hn;split at hv
    ·exact absurd rfl (by assumption)
    ·exact one hx1 hv
  | sit _ _=>exact h0
  | mp _ _ _=>exact h0
  | hole=>trivial
 ·have hcl:=yA hc i
  have h0:=h.slots i
  generalize s.get i=x at hcl h0
  generalize a.tmps.getD i undef=v at h0
  cases x
  case agg l =>
   obtain ⟨cs,e,hp⟩:=h0
   exact ⟨cs,e,PW.imp_mem (fun x hx v hv=>one (List.all_eq_true.1 hcl x hx) hv) hp⟩
  case tup l=>cases hcl
  all_goals exact (rN (by simp) (by simp)).2 (one hcl ((rN (by simp) (by simp)).1 h0))
def kU (ds:List Nat):Nat->List SV->List SV
 | _,[]=>[]
 | i,x::r=>(bif ds.any (Nat.beq i) then .no else x)::kU ds (i+1) r
def im (ds:List Nat) (s:St):St:=⟨kU ds 0 s.slots,s.objs,s.next⟩
theorem qv (ds:List Nat):∀ (l:List SV) (i:Nat),(kU ds i l).length=l.length
 | [],_=>rfl
 | _::r,i=>by simp [kU,qv ds r]
theorem qu (ds:List Nat):∀ (l:List SV) (i j:Nat),dE (kU ds i l) j = .no∨((i+j) ∉ ds/\dE (kU ds i l) j=dE l j)
 | [],i,j => .inl rfl
 | x::r,i,0=>by
  show (bif ds.any (Nat.beq i) then SV.no else x) = .no∨_
  cases hb:ds.any (Nat.beq i) with
  | true=>exact .inl rfl
  | false =>
   refine .inr ⟨fun hm => ?_,by show (bif ds.any (Nat.beq i) then SV.no else x)=x;rw [hb];rfl⟩
   rw [List.any_eq_false] at hb
   exact hb i hm (Nat.beq_refl i)
 | x::r,i,j+1=>by
  have:=qu ds r (i+1) j
  rw [show i+1+j=i+(j+1) by omega] at this
  exact this
theorem Rel.im (h:Rel E s a' w β Rt Ra) {ds:List Nat} (hk:Kp ds a a') (ha:a.defers=[]):Rel E (im ds s) a w β Rt Ra :=
 ⟨⟨h.objs,h.lt,h.cx,h.apart,h.sub,h.rlt,h.fr,h.rt0,h.ra0,h.rt,h.nx,h.pin⟩,by show (kU ds 0 s.slots).length=_;rw [qv,h.len];exact hk.1,ha,fun i=>by
  rcases qu ds s.slots 0 i with e|⟨hn,e⟩
  ·show S2 _ (dE (kU ds 0 s.slots) i) _
   rw [e];trivial
  ·show S2 _ (dE (kU ds 0 s.slots) i) _
   rw [e,<- hk.2 i (by rwa [Nat.zero_add] at hn)]
   exact h.slots i⟩
end
end
end Go.Proofs.Ab
namespace Go.Proofs.Ab
noncomputable section
open Go Go.RowKit
variable {R:Type}
structure lR where
 x0:Operand
 d1:Nat
 d2:Nat
 g:Nat
 sep:ByteArray
 b:Nat
 p:Nat
 assign:Code
 body:Code
instance:Inhabited lR:=⟨⟨.tmp 0,0,0,0,⟨#[]⟩,0,0,.skip,.skip⟩⟩
def lR.ds (i:lR):List Nat:=i.p::(jf i.assign++jf i.body)
def E' (i:lR) (κn:St->Option R) (κ : Exit->St->Option R):Exit->St->Option R
 | .normal,s=>bW (mz (im i.ds s)) (κn (im i.ds s))
 | .ret,s=>bW (mz (im i.ds s)) (κ .ret (im i.ds s))
 | .exit j,s=>bW (mz (im i.ds s)) (κ (.exit j) (im i.ds s))
 | _,_=>none
def E7 (C:Cfg R) (i:lR) (κ : Exit->St->Option R):Exit->St->Option R
 | .normal,s=>bW (mz s) (cK C i.body s κ)
 | _,_=>none
def lH (C:Cfg R) (i:lR) (κn:St->Option R) (κ : Exit->St->Option R) (s:St) (piece:ByteArray):Option R :=
 cK C i.assign (s.put (some i.p) (.str piece)) (E7 C i (E' i κn κ))
def F3:SV->SV->Bool
 | .int k _,.int k' _=>decide (k=k')
 | .bool _,.bool _=>true
 | .str _,.str _=>true
 | .ro e _ st,.ro e' _ st'=>Nat.beq e e'&&(st == st')
 | x,y=>DC x y
def FD:List SV->List SV->Bool
 | [],[]=>true
 | x::l,y::m=>F3 x y&&FD l m
 | _,_=>false
def F2:Obj->Obj->Bool
 | .var t l,.var u m=>Nat.beq t u&&FD l m
 | o,o'=>DB o o'
def Ew:List (Nat × Obj)->List (Nat × Obj)->Bool
 | [],[]=>true
 | (a,x)::l,(b,y)::m=>Nat.beq a b&&(F2 x y&&Ew l m)
 | _,_=>false
def Cb (f:Int->Option R):List SV->Option R
 | [.int .i64 n]=>f n
 | _=>none
def EK (C:Cfg R) (ix:Nat) (i:lR) (κ : Exit->St->Option R) (J:ByteArray->St->Option R) (rest:ByteArray) (s:St):Option R :=
 C.call ix [.str rest,.str i.sep] (Cb fun n =>
  bif decide (n<0) then lH C i (fun s2=>bW (Ew s.objs s2.objs) (κ .normal s2)) κ s rest else
  bW (decide (n+1<=(rest.size:Int))) (lH C i (fun s2=>bW (Ew s.objs s2.objs) (J (rest.extract (n.toNat+1) rest.size) s2)) κ s (rest.extract 0 n.toNat)))
def Ap (C:Cfg R) (ix:Nat) (i:lR) (κ : Exit->St->Option R):Nat->ByteArray->St->Option R
 | 0,_,_=>none
 | f+1,rest,s=>EK C ix i κ (Ap C ix i κ f) rest s
section
variable {P:Program} {E:Env} {C:Cfg R} {tab:cb} {r:R} {s s':St} {a a':Act} {w w':World} {β β':Nat->Bl} {Rt Ra Rt' Ra':Nat->Prop}
def Fo (E:Env) (s:St) (w:World) (β : Nat->Bl) (Rt:Nat->Prop) (b:Nat):Prop:=b<w.heap.size/\¬ Rt b/\¬ E.Ra0 b/\(E.w0.heap.size<=b∨E.W0 b)/\∀ t o,s.obj t=some o->b ∉ bK (β t) o
theorem Fo.world {b:Nat} (h:Fo E s w β Rt b) (hs:w.heap.size<=w'.heap.size):Fo E s w' β Rt b:=⟨Nat.lt_of_lt_of_le h.1 hs,h.2⟩
theorem iV (w:World) (l:Nat) (o:Go.Obj):Fr (fun x=>x=l) w (w.putObj l o) :=
 ⟨rfl,rfl,rfl,by simp,fun b _ hb=>World.putObj_heap_other hb⟩
theorem gm {b:Nat} (h:w'.heap[b]? = w.heap[b]?):w'.cell? ⟨b,0,none⟩=w.cell? ⟨b,0,none⟩:=by unfold World.cell?;simp only [h]
theorem sg {b:Nat} (h:w'.heap[b]? = w.heap[b]?):w'.frozen? ⟨b,0,none⟩=w.frozen? ⟨b,0,none⟩:=by unfold World.frozen?;simp only [h]
def eD (bP bS bV:Nat) (sep rest:ByteArray) (W:World):Prop :=
 W.cell? ⟨bS,0,none⟩=some (.string rest)/\W.cell? ⟨bP,0,none⟩=some (.string sep)/\W.cell? ⟨bV,0,none⟩=some (.int .i64 0)/\W.frozen? ⟨bS,0,none⟩=false
theorem eD.heap {bP bS bV:Nat} {sep rest:ByteArray} (h:eD bP bS bV sep rest w) (h1:w'.heap[bS]? = w.heap[bS]?) (h2:w'.heap[bP]? = w.heap[bP]?) (h3:w'.heap[bV]? = w.heap[bV]?):eD bP bS bV sep rest w' :=
 ⟨(gm h1).trans h.1,(gm h2).trans h.2.1,(gm h3).trans h.2.2.1,(sg h1).trans h.2.2.2⟩
theorem eD.set {bP bS bV:Nat} {sep rest:ByteArray} (h:eD bP bS bV sep rest w) (n1:bP≠bS) (n2:bV≠bS) (rest':ByteArray):eD bP bS bV sep rest' (w.setCell ⟨bS,0,none⟩ (.string rest')):=by
 obtain ⟨h1,h2,h3,h4⟩:=h
 refine ⟨World.cell?_setCell_same' _ _ _ (by rw [h1];rfl),(gm (Below.heap_setCell _ _ _ _ n1)).trans h2,(gm (Below.heap_setCell _ _ _ _ n2)).trans h3,?_⟩
 rw [World.frozen?_setCell];exact h4
theorem yv {F:Fence} {n:Nat} (hP:Ok P C.ty) (hE:cS C tab E) (hD:∀ g,bR P C.ty tab g (C.call g)) (hfn:∀ f,F.fn f) (hd:F.depth=none) (hC:∀ {n f args w} {R:Ending->World->Prop},Calls P f args w R->CallsIn F n P f args w R) (hR:∀ {n row args w} {R:Value->World->Prop},Rows P row args w R->RowsIn F n P row args w R) (d:List Deferred) {ds:List Nat} {a0:Act}
  (c:Code) {κ : Exit->St->Option R} (hds:∀ i∈jf c,i∈ds) (h:Rel E s { a with defers:=[] } w β Rt Ra) (ha:a.defers=d) (hkp:Kp ds a0 a) (hk:cK C c s κ = some r) :
  c.wpIn F n P (fun e a' w'=>∃ s' β' Rt' Ra',κ e s'=some r/\Rel E s' { a' with defers:=[] } w' β' Rt' Ra'/\a'.defers=d/\Kp ds a0 a'/\w.heap.size<=w'.heap.size/\∀ b,Fo E s w β Rt b->w'.heap[b]? = w.heap[b]? /\ Fo E s' w' β' Rt' b) a w:=by
 refine wpIn_mono (m9 (E:=EL E s w β Rt Ra) (tab:=tab) hP (hE.re h) hD hfn hd hC hR d c hds ⟨β,Rt,Ra,h.re⟩ ha hkp hk) fun e a' w' hq => ?_
 obtain ⟨s',h1,⟨β',Rt',Ra',h2⟩,h3,h4⟩:=hq
 refine ⟨s',β',Rt',Ra',h1,h.Fi h2,h3,h4,h2.fr.size,fun b hb=>⟨h2.fr.block b hb.1 ?_,Nat.lt_of_lt_of_le hb.1 h2.fr.size,fun hr => ?_,hb.2.2.1,hb.2.2.2.1,fun t o ho hbb => ?_⟩⟩
 ·rintro ⟨t,o,ho,hbb⟩;exact hb.2.2.2.2 t o ho hbb
 ·rcases h2.rt b hr with g|g|⟨t,o,ho,hbb⟩
  ·exact hb.2.1 g
  ·have:=hb.1;have:w.heap.size<=b:=g;omega
  ·exact hb.2.2.2.2 t o ho hbb
 ·rcases (h2.cx t o ho b hbb).2.2 with g|⟨t',o',ho',hbb'⟩
  ·have:=hb.1;have:w.heap.size<=b:=g;omega
  ·exact hb.2.2.2.2 t' o' ho' hbb'
end
end
end Go.Proofs.Ab
namespace Go.Proofs.Ab
noncomputable section
open Go Go.RowKit
variable {R:Type}
theorem fQ {P:Program} {n:Nat} {f:FuncId} {args:Array Value} {w:World} {R:Ending->World->Prop} (h:Calls P f args w R):CallsIn Fence.wide n P f args w R:=callsIn_wide.2 h
theorem jd {P:Program} {n:Nat} {row:String} {args:Array Value} {w:World} {R:Value->World->Prop} (h:Rows P row args w R):RowsIn Fence.wide n P row args w R :=
 fun c cs _=>let ⟨v,w',r,s⟩:=h c cs;⟨v,w',r,stepsIn_wide.2 s⟩
def hY (fn:FuncId) (a:Act) (i:lR) (D:Nat) (st:LoopState) (pe:Option Code):Loop:={ state:=st,pending:=pe,fn,tmps:=a.tmps,params := #[i.p],assign:=i.assign,body:=i.body,defers:=D }
section
variable {P:Program} {E:Env} {C:Cfg R} {tab:cb} {r:R} {s s':St} {a a':Act} {w w':World} {β β':Nat->Bl} {Rt Ra Rt' Ra':Nat->Prop}
structure iq where
 bS:Nat
 bP:Nat
 bV:Nat
 D:Nat
 L:Nat
 n1:bP≠bS
 n2:bV≠bS
 n3:D≠bS
 n4:L≠bS
 n5:bS≠L
 n6:bP≠L
 n7:bV≠L
 n8:D≠L
def iq.all (p:iq):List Nat:=[p.bS,p.bP,p.bV,p.D,p.L]
def oJ (E:Env) (p:iq) (a:Act) (f:St->Option R) (r:R) (W:World):Prop :=
 W.heap[p.D]? = some (.deferred (some []))/\∃ s β Rt Ra,f s=some r/\Rel E s a W β Rt Ra/\(∀ b,Ra b->Rt b∨E.Ra0 b)/\∀ b∈p.all,Fo E s W β Rt b
def Fj (E:Env) (p:iq) (a:Act) (fn:FuncId) (i:lR) (rest:ByteArray) (f:St->Option R) (r:R) (W:World):Prop :=
 eD p.bP p.bS p.bV i.sep rest W/\W.heap[p.L]? = some (.loop (hY fn a i p.D .ready none))/\oJ E p a f r W
def DO (E:Env) (p:iq) (a:Act) (fn:FuncId) (i:lR) (κ : Exit->St->Option R) (r:R) (W:World):Prop :=
 (W.heap[p.L]? = some (.loop (hY fn a i p.D .done (some .ret)))/\oJ E p a (κ .ret) r W)∨∃ j,W.heap[p.L]? = some (.loop (hY fn a i p.D .done (some (.exit j))))/\oJ E p a (κ (.exit j)) r W
theorem iu {p:iq} {i:lR} {a1:Act} (ha:a.defers=[]) (hrel:Rel E s' { a1 with defers:=[] } w' β' Rt' Ra') (hk:Kp i.ds a a1) (hc:mz (im i.ds s')=true) (hfo:∀ b∈p.all,Fo E s' w' β' Rt' b) (hD:w'.heap[p.D]? = some (.deferred (some []))) {f:St->Option R} (hf:f (im i.ds s')=some r) (o:Go.Obj) :
  oJ E p a f r (w'.putObj p.L o):=by
 have h1:Rel E (im i.ds s') a w' β' Rt' Ra':=hrel.im (a:=a) hk ha
 have h2:=h1.shrink hc
 have hL:=hfo p.L (by simp [iq.all])
 have h3:=h2.world (iV w' p.L o) fun b hb=>by
  subst hb
  exact ⟨fun h=>h.elim hL.2.1 hL.2.2.1,hL.2.2.2.1,hL.2.2.2.2⟩
 exact ⟨(World.putObj_heap_other p.n8).trans hD,im i.ds s',β',Rt',_,hf,h3,fun b hb=>hb,fun b hb=>(hfo b hb).world (by simp)⟩
theorem mj (hP:Ok P C.ty) (hE:cS C tab E) (hD:∀ g,bR P C.ty tab g (C.call g)) (p:iq) (i:lR) (fn:FuncId) (rest piece:ByteArray) {κn:St->Option R} {κ : Exit->St->Option R} (ha:a.defers=[])
  (hc:eD p.bP p.bS p.bV i.sep rest w) (hL:w.heap[p.L]? = some (.loop (hY fn a i p.D .ready none))) (hs:oJ E p a (fun s=>lH C i κn κ s piece) r w) (m:Nat) :
  YieldAt Fence.wide m P p.L #[.string piece] w fun e W2=>(e = .returned (.bool false)/\DO E p a fn i κ r W2)∨(e = .returned (.bool true)/\Fj E p a fn i rest κn r W2):=by
 obtain ⟨hDf,s,β,Rt,Ra,hk,hrel,hRa,hfo⟩:=hs
 refine ⟨_,_,_,_,run_yield hL (by rfl),roundIn_of_wpIn trivial ?_⟩
 have hfn:∀ f,(Fence.wide.inRound p.L).fn f:=fun _=>trivial
 have ep:({ tmps:=((hY fn a i p.D .ready none).params.zip #[Value.string piece]).foldl (fun tmps x=>tmps.setIfInBounds x.1 x.2) (hY fn a i p.D .ready none).tmps,defers:=[] }:Act)=a.put (some i.p) (.string piece):=by
  cases a;cases ha;simp [hY,Act.put]
 have h0:Rel E (s.put (some i.p) (.str piece)) (a.put (some i.p) (.string piece)) w β Rt Ra:=hrel.put (some i.p) (v := .string piece) rfl
 have hk0:Kp i.ds a (a.put (some i.p) (.string piece)):=(Kp.refl i.ds a).put (fun j e=>by cases e;simp [lR.ds]) _
 have hd0:(a.put (some i.p) (.string piece)).defers=[]:=by rw [cV];exact ha
 have hx:({ a.put (some i.p) (.string piece) with defers:=[] }:Act)=a.put (some i.p) (.string piece):=by rw [<- hd0]
 unfold lH at hk
 have hasg:=yv (F:=Fence.wide.inRound p.L) (n:=m) hP hE hD hfn rfl (fun h=>CallsIn.inRound _ (fQ h)) (fun h=>jd h) [] (ds:=i.ds) (a0:=a) i.assign (fun j hj=>by simp [lR.ds,hj]) (by rw [hx];exact h0) hd0 hk0 hk
 rw [ep]
 refine wpIn_mono hasg fun e a1 w1 hq => ?_
 obtain ⟨s1,β1,Rt1,Ra1,k1,r1,d1,kp1,sz1,fo1⟩:=hq
 cases e with
 | normal =>
  obtain ⟨hcl,k1⟩:=b8 k1
  have e1:({ a1 with defers:=[] }:Act)=a1:=by rw [<- d1]
  rw [e1] at r1
  have hfo1:∀ b∈p.all,w1.heap[b]? = w.heap[b]? /\ Fo E s1 w1 β1 Rt1 b:=fun b hb=>fo1 b (hfo b hb)
  have hL1:w1.heap[p.L]? = some (.loop (hY fn a i p.D .ready none)):=(hfo1 p.L (by simp [iq.all])).1.trans hL
  refine ⟨_,run_beginRound hL1 rfl,?_⟩
  have hLf:=(hfo1 p.L (by simp [iq.all])).2
  have r2:=(r1.shrink hcl).world (iV w1 p.L (.loop { hY fn a i p.D .ready none with state := .busy })) fun b hb=>by
   subst hb
   exact ⟨fun h=>h.elim hLf.2.1 hLf.2.2.1,hLf.2.2.2.1,hLf.2.2.2.2⟩
  have hbody:=yv (F:=Fence.wide.inRound p.L) (n:=m) hP hE hD hfn rfl (fun h=>CallsIn.inRound _ (fQ h)) (fun h=>jd h) [] (ds:=i.ds) (a0:=a) i.body (fun j hj=>by simp [lR.ds,hj]) (by rw [e1];exact r2) d1 kp1 k1
  refine wpIn_mono hbody fun e a2 w2 hq => ?_
  obtain ⟨s2,β2,Rt2,Ra2,k2,r2,d2,kp2,sz2,fo2⟩:=hq
  have hfo2:∀ b∈p.all,w2.heap[b]? = (w1.putObj p.L (.loop { hY fn a i p.D .ready none with state := .busy })).heap[b]? /\ Fo E s2 w2 β2 Rt2 b:=fun b hb=>fo2 b ((hfo1 b hb).2.world (by simp))
  have hLb:w2.heap[p.L]? = some (.loop { hY fn a i p.D .ready none with state := .busy }):=(hfo2 p.L (by simp [iq.all])).1.trans (World.putObj_heap_same hLf.1)
  have hD2:w2.heap[p.D]? = some (.deferred (some [])):=((hfo2 p.D (by simp [iq.all])).1.trans (World.putObj_heap_other p.n8)).trans ((hfo1 p.D (by simp [iq.all])).1.trans hDf)
  have hold:∀ b∈p.all,b≠p.L->w2.heap[b]? = w.heap[b]? := fun b hb hn=>((hfo2 b hb).1.trans (World.putObj_heap_other hn)).trans (hfo1 b hb).1
  have hall:∀ b∈p.all,Fo E s2 w2 β2 Rt2 b:=fun b hb=>(hfo2 b hb).2
  have hlt:p.L<w2.heap.size:=(hall p.L (by simp [iq.all])).1
  cases e with
  | normal =>
   obtain ⟨hc2,k2⟩:=b8 k2
   refine ⟨_,_,run_endRound none hLb,.inr ⟨rfl,?_,?_,iu ha r2 kp2 hc2 hall hD2 k2 _⟩⟩
   ·exact hc.heap ((World.putObj_heap_other p.n5).trans (hold _ (by simp [iq.all]) p.n5)) ((World.putObj_heap_other p.n6).trans (hold _ (by simp [iq.all]) p.n6)) ((World.putObj_heap_other p.n7).trans (hold _ (by simp [iq.all]) p.n7))
   ·exact World.putObj_heap_same hlt
  | ret =>
   obtain ⟨hc2,k2⟩:=b8 k2
   exact ⟨_,_,run_endRound (some .ret) hLb,.inl ⟨rfl,.inl ⟨World.putObj_heap_same hlt,iu ha r2 kp2 hc2 hall hD2 k2 _⟩⟩⟩
  | exit j =>
   obtain ⟨hc2,k2⟩:=b8 k2
   exact ⟨_,_,run_endRound (some (.exit j)) hLb,.inl ⟨rfl,.inr ⟨j,World.putObj_heap_same hlt,iu ha r2 kp2 hc2 hall hD2 k2 _⟩⟩⟩
  | goto l=>cases k2
  | panic c=>cases k2
  | outgrown=>cases k2
 | _=>cases k1
end
end
end Go.Proofs.Ab
namespace Go.Proofs.Ab
noncomputable section
open Go Go.RowKit
variable {R:Type}
def yg (P:Program) (ix l bP bS bV:Nat) (sep:ByteArray) (Good:ByteArray->World->Prop) (Out:World->Prop):Prop :=
 ∀ rest W,Good rest W->rest.size<281474976710656/\eD bP bS bV sep rest W/\Calls P ix #[.string rest,.string sep] W fun e W1=>∃ i:Int,e = .returned (.int .i64 i)/\eD bP bS bV sep rest W1 /\
  ((i<0/\∀ m,YieldAt Fence.wide m P l #[.string rest] W1 fun e W2=>(∃ b,e = .returned (.bool b))/\Out W2) ∨
   (0<=i/\i+1<=rest.size/\∀ m,YieldAt Fence.wide m P l #[.string (rest.extract 0 i.toNat)] W1 fun e W2=>(e = .returned (.bool false)/\Out W2) ∨
    (e = .returned (.bool true)/\eD bP bS bV sep rest W2/\Good (rest.extract (i.toNat+1) rest.size) (W2.setCell ⟨bS,0,none⟩ (.string (rest.extract (i.toNat+1) rest.size))))))
def xZ (P:Program) (ix it:Nat) (sep:ByteArray):Prop :=
 ∀ (l bP bS bV:Nat) (Good:ByteArray->World->Prop) (Out:World->Prop),yg P ix l bP bS bV sep Good Out->∀ rest W,Good rest W ->
  CallsIn Fence.wide 5 P it #[.func (.yield l) #[] #[],.pointer (some ⟨bP,0,none⟩),.pointer (some ⟨bS,0,none⟩),.pointer (some ⟨bV,0,none⟩)] W fun e W'=>(∃ v,e = .returned v)/\Out W'
section
variable {P:Program} {E:Env} {C:Cfg R} {tab:cb} {r:R} {s s':St} {a a':Act} {w w':World} {β β':Nat->Bl} {Rt Ra Rt' Ra':Nat->Prop}
theorem oJ.ig {p:iq} {f:St->Option R} (h:oJ E p a f r w) (hg:jh w w') (hD:w'.heap[p.D]? = w.heap[p.D]?):oJ E p a f r w':=by
 obtain ⟨h1,s,β,Rt,Ra,h2,h3,h4,h5⟩:=h
 exact ⟨hD.trans h1,s,β,Rt,Ra,h2,h3.ig hg,h4,fun b hb=>(h5 b hb).world hg.size⟩
theorem oJ.imp {p:iq} {f g:St->Option R} (h:oJ E p a f r w) (hi:∀ s,f s=some r->g s=some r):oJ E p a g r w:=by
 obtain ⟨h1,s,β,Rt,Ra,h2,h3⟩:=h
 exact ⟨h1,s,β,Rt,Ra,hi _ h2,h3⟩
def BE (E:Env) (C:Cfg R) (ix:Nat) (i:lR) (κ : Exit->St->Option R) (p:iq) (a:Act) (fn:FuncId) (r:R) (rest:ByteArray) (W:World):Prop :=
 rest.size<281474976710656/\∃ f,Fj E p a fn i rest (Ap C ix i κ f rest) r W
def ER (E:Env) (i:lR) (κ : Exit->St->Option R) (p:iq) (a:Act) (fn:FuncId) (r:R) (W:World):Prop :=
 (W.heap[p.L]? = some (.loop (hY fn a i p.D .ready none))/\oJ E p a (κ .normal) r W)∨DO E p a fn i κ r W
theorem wz {f:Int->Option R} {res:List SV} (h:Cb f res=some r):∃ n,res=[.int .i64 n]/\f n=some r:=by
 unfold Cb at h
 split at h
 ·exact ⟨_,rfl,h⟩
 ·cases h
theorem Bs (hP:Ok P C.ty) (hE:cS C tab E) (hD:∀ g,bR P C.ty tab g (C.call g)) {ix:Nat} (hix:∀ vs w,(callFunc ix vs).run P w = .ok (.enter ix vs) w) (p:iq) (i:lR) (fn:FuncId) {κ : Exit->St->Option R} (ha:a.defers=[]) :
  yg P ix p.L p.bP p.bS p.bV i.sep (BE E C ix i κ p a fn r) (ER E i κ p a fn r):=by
 rintro rest W ⟨hsz,f,hc,hL,hst⟩
 refine ⟨hsz,hc,?_⟩
 obtain ⟨hDf,s,β,Rt,Ra,hk,hrel,hRa,hfo⟩:=id hst
 cases f with
 | zero=>cases hk
 | succ f =>
  have hk:EK C ix i κ (Ap C ix i κ f) rest s=some r:=hk
  unfold EK at hk
  have hpre:Pre C.ty tab W [.str rest,.str i.sep] (#[Value.string rest,Value.string i.sep]:Array Value).toList Rt Rt [] :=
   ⟨⟨[],[],rfl,⟨rfl,rfl,by simp,rfl⟩,[],[],rfl,⟨rfl,rfl,by simp,rfl⟩,rfl⟩,List.nodup_nil,fun b hb=>(by cases hb),fun _ h=>h,fun b hb=>hrel.rlt b (hrel.sub b hb),fun b ob hob=>by
    obtain ⟨g1,g2,g3⟩:=hE.tab b ob hob
    exact ⟨(hrel.fr.block b (Array.getElem?_eq_some_iff.1 g1).1 g3).trans g1,hrel.rt0 b g2⟩⟩
  rcases hD ix _ _ r hk W #[.string rest,.string i.sep] Rt Rt [] hpre with ⟨v,w',hrun,_⟩|⟨_,hcalls⟩
  ·rw [hix] at hrun;cases hrun
  ·refine hcalls.mono fun e W1 hq => ?_
   obtain ⟨v,rfl,res,Rt',v0,back,b1,b2,hκ,hpost⟩:=hq
   obtain ⟨n,hres,hκ⟩:=wz hκ
   rw [hpost.res] at hres
   cases hres
   have hv:v = .int .i64 n:=hpost.r.2.2.2
   have hg:jh W W1:=⟨hpost.fr.os,hpost.fr.tape,hpost.fr.output,hpost.fr.size,fun b hb _=>hpost.fr.block b hb (by simp)⟩
   have hsame:∀ b∈p.all,W1.heap[b]? = W.heap[b]? := fun b hb=>hg.block b (hfo b hb).1 (fun h=>h)
   have hc1:eD p.bP p.bS p.bV i.sep rest W1:=hc.heap (hsame _ (by simp [iq.all])) (hsame _ (by simp [iq.all])) (hsame _ (by simp [iq.all]))
   have hL1:W1.heap[p.L]? = some (.loop (hY fn a i p.D .ready none)):=(hsame _ (by simp [iq.all])).trans hL
   have stn:∀ {f:St->Option R},f s=some r->oJ E p a f r W1:=fun hf=>oJ.ig ⟨hDf,s,β,Rt,Ra,hf,hrel,hRa,hfo⟩ hg (hsame _ (by simp [iq.all]))
   refine ⟨n,by rw [hv],hc1,?_⟩
   by_cases hn:n<0
   ·rw [decide_eq_true hn,cond_true] at hκ
    refine .inl ⟨hn,fun m => ?_⟩
    obtain ⟨f1,t1,as1,bo1,y1,y2⟩:=mj hP hE hD p i fn rest rest ha hc1 hL1 (stn (f:=fun s1=>lH C i (fun s2=>bW (Ew s.objs s2.objs) (κ .normal s2)) κ s1 rest) hκ) m
    refine ⟨f1,t1,as1,bo1,y1,y2.mono fun e W2 hq => ?_⟩
    rcases hq with ⟨rfl,ho⟩|⟨rfl,hc2,hL2,hs2⟩
    ·exact ⟨⟨_,rfl⟩,.inr ho⟩
    ·exact ⟨⟨_,rfl⟩,.inl ⟨hL2,hs2.imp fun _ h=>(b8 h).2⟩⟩
   ·rw [decide_eq_false hn,cond_false] at hκ
    obtain ⟨hle,hκ⟩:=b8 hκ
    have hle:=of_decide_eq_true hle
    refine .inr ⟨by omega,hle,fun m => ?_⟩
    obtain ⟨f1,t1,as1,bo1,y1,y2⟩:=mj hP hE hD p i fn rest (rest.extract 0 n.toNat) ha hc1 hL1 (stn (f:=fun s1=>lH C i (fun s2=>bW (Ew s.objs s2.objs) (Ap C ix i κ f (rest.extract (n.toNat+1) rest.size) s2)) κ s1 (rest.extract 0 n.toNat)) hκ) m
    refine ⟨f1,t1,as1,bo1,y1,y2.mono fun e W2 hq => ?_⟩
    rcases hq with ⟨rfl,ho⟩|⟨rfl,hc2,hL2,hs2⟩
    ·exact .inl ⟨rfl,.inr ho⟩
    ·refine .inr ⟨rfl,hc2,by rw [ByteArray.size_extract];omega,f,hc2.set p.n1 p.n2 _,(Below.heap_setCell _ _ _ _ p.n4).trans hL2,?_⟩
     obtain ⟨hD2,s2,β2,Rt2,Ra2,hk2,hrel2,hRa2,hfo2⟩:=hs2.imp fun _ h=>(b8 h).2
     have hbS:=hfo2 p.bS (by simp [iq.all])
     refine ⟨(Below.heap_setCell _ _ _ _ p.n3).trans hD2,s2,β2,Rt2,Ra2,hk2,hrel2.world (jB W2 p.bS _) fun b hb => ?_,hRa2,fun b hb=>(hfo2 b hb).world (jB W2 p.bS _).size⟩
     subst hb
     exact ⟨fun h=>(hRa2 _ h).elim hbS.2.1 hbS.2.2.1,hbS.2.2.2.1,hbS.2.2.2.2⟩
end
end
end Go.Proofs.Ab
namespace Go.Proofs.Ab
noncomputable section
open Go Go.RowKit
variable {R:Type}
section
variable {P:Program} {E:Env} {C:Cfg R} {tab:cb} {r:R} {s s':St} {a a':Act} {w w':World} {β β':Nat->Bl} {Rt Ra Rt' Ra':Nat->Prop}
theorem oJ.putObj {p:iq} {f:St->Option R} (h:oJ E p a f r w) (o:Go.Obj):oJ E p a f r (w.putObj p.L o):=by
 obtain ⟨h1,s,β,Rt,Ra,h2,h3,h4,h5⟩:=h
 have hL:=h5 p.L (by simp [iq.all])
 refine ⟨(World.putObj_heap_other p.n8).trans h1,s,β,Rt,Ra,h2,h3.world (iV w p.L o) fun b hb => ?_,h4,fun b hb=>(h5 b hb).world (by simp)⟩
 subst hb
 exact ⟨fun h=>(h4 _ h).elim hL.2.1 hL.2.2.1,hL.2.2.2.1,hL.2.2.2.2⟩
def Qr (E:Env) (a:Act) (κ : Exit->St->Option R) (r:R):Exit->Act->World->Prop:=fun e a' w'=>∃ p:iq,a'={ a with defers:=[{ target := .collected p.D,args := #[] }] }/\oJ E p a (κ e) r w'
theorem zJ (hP:Ok P C.ty) (hE:cS C tab E) (hD:∀ g,bR P C.ty tab g (C.call g)) {ix it:Nat} (hix:∀ vs w,(callFunc ix vs).run P w = .ok (.enter ix vs) w) (hit:∀ vs w,(callFunc it vs).run P w = .ok (.enter it vs) w) (i:lR) (hiter:xZ P ix it i.sep) {κ : Exit->St->Option R} (ha:a.defers=[])
  {d bP bS bV:Nat} (hd:a.eval (.tmp d) = .func (.func it) #[] #[.pointer (some ⟨bP,0,none⟩),.pointer (some ⟨bS,0,none⟩),.pointer (some ⟨bV,0,none⟩)]) (n1:bP≠bS) (n2:bV≠bS) {rest:ByteArray} (hsz:rest.size<281474976710656) (hc:eD bP bS bV i.sep rest w)
  (hrel:Rel E s a w β Rt Ra) (hRa:∀ b,Ra b->Rt b∨E.Ra0 b) (hfo:∀ b∈[bS,bP,bV],Fo E s w β Rt b) {f:Nat} (hk:Ap C ix i κ f rest s=some r) :
  (Code.rangeFunc (.tmp d) #[i.p] i.assign i.body).wpIn Fence.wide 6 P (Qr E a κ r) a w:=by
 refine wpIn_rangeFunc fun fn _ => ?_
 have b1:=(hfo bS (by simp)).1
 have b2:=(hfo bP (by simp)).1
 have b3:=(hfo bV (by simp)).1
 let p:iq:=⟨bS,bP,bV,w.heap.size,w.heap.size+1,n1,n2,by omega,by omega,by omega,by omega,by omega,by omega⟩
 let W1:World:=(w.alloc (.deferred (some []))).alloc (.loop (hY fn a i w.heap.size .ready none))
 have hg:jh w W1:=⟨rfl,rfl,rfl,by simp [W1];omega,fun b hb _=>by
  show ((w.heap.push _).push _)[b]? = _
  rw [Array.getElem?_push,if_neg (by simp;omega),Array.getElem?_push,if_neg (by omega)]⟩
 have hL1:W1.heap[w.heap.size+1]? = some (.loop (hY fn a i w.heap.size .ready none)):=by
  have:=World.alloc_heap_new (w.alloc (.deferred (some []))) (.loop (hY fn a i w.heap.size .ready none));rwa [World.size_alloc] at this
 have hD1:W1.heap[w.heap.size]? = some (.deferred (some [])):=(Below.heap_alloc _ _ _ (by simp)).trans (World.alloc_heap_new w _)
 have hnew:∀ b,w.heap.size<=b->b<W1.heap.size->Fo E s W1 β Rt b:=fun b hb hl=>⟨hl,fun hr=>by have:=hrel.rlt b (hrel.sub b hr);omega,fun hr=>by have:=hrel.rlt b (hrel.ra0 b hr);omega,.inl (Nat.le_trans hrel.fr.size hb),fun t o ho hbb=>by have:=(hrel.cx t o ho b hbb).1;omega⟩
 have hall:∀ b∈p.all,Fo E s W1 β Rt b:=by
  intro b hb
  simp only [iq.all,List.mem_cons,List.mem_nil_iff,or_false] at hb
  rcases hb with rfl|rfl|rfl|rfl|rfl
  ·exact (hfo _ (by simp [p])).world hg.size
  ·exact (hfo _ (by simp [p])).world hg.size
  ·exact (hfo _ (by simp [p])).world hg.size
  ·exact hnew _ (Nat.le_refl _) (by simp [W1,p];omega)
  ·exact hnew _ (Nat.le_succ _) (by simp [W1,p])
 have hst:oJ E p a (Ap C ix i κ f rest) r W1:=⟨hD1,s,β,Rt,Ra,hk,hrel.ig hg,hRa,hall⟩
 have hgood:BE E C ix i κ p a fn r rest W1:=⟨hsz,f,hc.heap (hg.block _ b1 (fun h=>h)) (hg.block _ b2 (fun h=>h)) (hg.block _ b3 (fun h=>h)),hL1,hst⟩
 refine ⟨w.heap.size+1,[{ target := .collected w.heap.size,args := #[] }],W1,{ target := .fn (.func it) #[.pointer (some ⟨bP,0,none⟩),.pointer (some ⟨bS,0,none⟩),.pointer (some ⟨bV,0,none⟩)],args := #[.func (.yield (w.heap.size+1)) #[] #[]] },W1,it,
  #[.func (.yield (w.heap.size+1)) #[] #[]] ++ #[.pointer (some ⟨bP,0,none⟩),.pointer (some ⟨bS,0,none⟩),.pointer (some ⟨bV,0,none⟩)],W1,run_enterLoop_outer _ _ _ _ _,?_,fun _ _=>trivial,?_,fun h=>(by cases h),?_⟩
 ·simp only [resolve,hd]
  simp [go_sem]
 ·simp [invoke,go_sem,hit]
 ·refine (hiter (w.heap.size+1) bP bS bV _ _ (Bs hP hE hD hix p i fn ha) rest W1 hgood).mono ?_
  rintro e W2 ⟨⟨v,rfl⟩,hout⟩
  have ea:({ a with defers:=[({ target := .collected w.heap.size,args := #[] }:Deferred)]++a.defers }:Act)={ a with defers:=[{ target := .collected p.D,args := #[] }] }:=by rw [ha];rfl
  rcases hout with ⟨hl,hs⟩|⟨hl,hs⟩|⟨j,hl,hs⟩
  ·exact ⟨none,_,run_endLoop hl (by simp [hY]),p,ea,hs.putObj _⟩
  ·exact ⟨some .ret,_,run_endLoop hl (by simp [hY]),wpIn_ret ⟨p,ea,hs.putObj _⟩⟩
  ·exact ⟨some (.exit j),_,run_endLoop hl (by simp [hY]),wpIn_exit ⟨p,ea,hs.putObj _⟩⟩
end
end
end Go.Proofs.Ab
namespace Go.Proofs.Ab
noncomputable section
open Go Go.RowKit
variable {R:Type}
def xH:Code->Code->Option lR
 | .region _ ⟨[o1,o2]⟩ false,.block b (.rangeFunc (.tmp d) ⟨[p]⟩ assign body)=>match o1.op,o1.dst,o1.guard,o2.op,o2.dst,o2.guard with
  | .move x0,some d1,none,.call c,some d2,none=>match c.callee,c.args with
   | .value (.func g),⟨[.tmp t,.const (.string sep)]⟩=>bif Nat.beq t d1&&(Nat.beq d2 d && !Nat.beq d1 d2) then some ⟨x0,d1,d2,g,sep,b,p,assign,body⟩ else none
   | _,_=>none
  | _,_,_,_,_,_=>none
 | _,_=>none
theorem Br {x y:Code} {i:lR} (h:xH x y=some i):∃ id o1 o2 c,x = .region id #[o1,o2] false/\o1.op = .move i.x0/\o1.dst=some i.d1/\o1.guard=none/\o2.op = .call c/\o2.dst=some i.d2/\o2.guard=none/\c.callee = .value (.func i.g)/\c.args = #[.tmp i.d1,.const (.string i.sep)]/\i.d1≠i.d2/\y = .block i.b (.rangeFunc (.tmp i.d2) #[i.p] i.assign i.body):=by
 unfold xH at h
 split at h
 ·split at h
  ·split at h
   ·obtain ⟨hb,h⟩:=j9 h
    cases h
    simp only [Bool.and_eq_true,Bool.not_eq_true'] at hb
    obtain ⟨h1,h2,h3⟩:=hb
    obtain rfl:=Nat.eq_of_beq_eq_true h1
    obtain rfl:=Nat.eq_of_beq_eq_true h2
    exact ⟨_,_,_,_,rfl,by assumption,by assumption,by assumption,by assumption,by assumption,by assumption,by assumption,by assumption,fun e=>(by replace e:_=_:=e;simp only at e;rw [e,Nat.beq_refl] at h3;cases h3),rfl⟩
   ·cases h
  ·cases h
 ·cases h
structure SpF where
 g:Nat
 ix:Nat
 fuel:Nat
 sep:ByteArray
def Fg (C:Cfg R) (F:SpF) (i:lR) (s:St) (κ : Exit->St->Option R):Option R :=
 match ev s i.x0 with
 | .str S=>bif Nat.beq i.g F.g&&(decide (i.sep=F.sep)&&(decide (i.d1<s.slots.length)&&(decide (i.d2<s.slots.length)&&mz (im i.ds ((s.put (some i.d1) (.str S)).put (some i.d2) .no)))))
  then bW (decide (S.size<281474976710656)) (Ap C F.ix i (fun e s1=>κ (tX i.b e) s1) F.fuel S (im i.ds ((s.put (some i.d1) (.str S)).put (some i.d2) .no))) else none
 | _=>none
def Cr (κ : Exit->St->Option R):Exit->St->Option R:=fun e s=>bW (mz s) (κ e s)
def gK (C:Cfg R) (F:SpF):Code->St->(Exit->St->Option R)->Option R
 | .seq x z,s,κ => match (match x with
   | .seq p q=>xH p q
   | _=>none) with
  | some i=>Fg C F i s (tH κ fun s1=>cK C z s1 (Cr κ))
  | none=>cK C x s (tH κ fun s1=>gK C F z s1 κ)
 | c,s,κ => cK C c s κ
def Ex:Code->Option lR
 | .seq x z=>match (match x with
   | .seq p q=>xH p q
   | _=>none) with
  | some i=>some i
  | none=>Ex z
 | _=>none
def FF:Code->Option Code
 | .seq x z=>match (match x with
   | .seq p q=>xH p q
   | _=>none) with
  | some _=>some z
  | none=>FF z
 | _=>none
section
variable {P:Program} {E:Env} {C:Cfg R} {tab:cb} {r:R} {s s':St} {a a':Act} {w w':World} {β β':Nat->Bl} {Rt Ra Rt' Ra':Nat->Prop}
def vo (P:Program) (g it:Nat):Prop:=∀ (s sep:ByteArray) (w:World),Calls P g #[.string s,.string sep] w fun e w' =>
 e = .returned (.func (.func it) #[] #[.pointer (some ⟨w.heap.size+1,0,none⟩),.pointer (some ⟨w.heap.size,0,none⟩),.pointer (some ⟨w.heap.size+2,0,none⟩)]) /\
 ∃ ts ti,w'=((w.alloc (.cells #[.string s] ts)).alloc (.cells #[.string sep] ts)).alloc (.cells #[.int .i64 0] ti)
theorem eval_put {d:Nat} (h:d<a.tmps.size) (v:Value):(a.put (some d) v).eval (.tmp d)=v:=by
 show (a.tmps.setIfInBounds d v).getD d undef=v
 simp [Array.getD_eq_getD_getElem?,Array.getElem?_setIfInBounds,h]
theorem rC {g it:Nat} (hsp:vo P g it) (hge:∀ vs w,(callFunc g vs).run P w = .ok (.enter g vs) w) {id:Nat} {o1 o2:Oper} {c:Call} {x0:Operand} {d1 d2:Nat} {sep S:ByteArray} (h1:o1.op = .move x0) (h2:o1.dst=some d1) (h3:o1.guard=none) (h4:o2.op = .call c) (h5:o2.dst=some d2) (h6:o2.guard=none)
  (h7:c.callee = .value (.func g)) (h8:c.args = #[.tmp d1,.const (.string sep)]) (hv:a.eval x0 = .string S) (hd1:d1<a.tmps.size) :
  (Code.region id #[o1,o2] false).wpIn Fence.wide 6 P (fun e a' w'=>e = .normal/\a'=(a.put (some d1) (.string S)).put (some d2) (.func (.func it) #[] #[.pointer (some ⟨w.heap.size+1,0,none⟩),.pointer (some ⟨w.heap.size,0,none⟩),.pointer (some ⟨w.heap.size+2,0,none⟩)]) /\
   ∃ ts ti,w'=((w.alloc (.cells #[.string S] ts)).alloc (.cells #[.string sep] ts)).alloc (.cells #[.int .i64 0] ti)) a w:=by
 refine wpIn_region ?_
 show wpOpsIn _ _ _ _ _ [0,1] a w
 have hw:∀ (o:Oper) (f:Nat->Option Bool),o.guard=none->Region.wanted o f=true:=fun o f h=>by unfold Region.wanted;rw [h]
 have g0:(#[o1,o2]:Array Oper)[0]? = some o1:=rfl
 have g1:(#[o1,o2]:Array Oper)[1]? = some o2:=rfl
 simp only [wpOpsIn,g0,g1,hw _ _ h3,hw _ _ h6,if_true]
 refine ⟨fun _ _=>trivial,?_⟩
 show o1.uponIn _ _ _ _ _ _ ((execOp a.eval o1).run P w)
 rw [show (execOp a.eval o1).run P w = .ok (.value (a.eval x0)) w by unfold execOp;rw [h1];rfl,Oper.uponIn_value,hv,h2]
 refine ⟨fun _ _=>trivial,?_⟩
 show o2.uponIn _ _ _ _ _ _ ((execOp (a.put (some d1) (.string S)).eval o2).run P w)
 rw [ou h4 h7 rfl,h8,hge,Oper.uponIn_enter]
 refine ⟨fun h=>(by cases h),fQ ?_⟩
 have hargs:(#[Operand.tmp d1,.const (.string sep)]:Array Operand).map (a.put (some d1) (.string S)).eval = #[.string S,.string sep]:=by
  have:=eval_put hd1 (.string S)
  rw [show ∀ f:Operand->Value,(#[Operand.tmp d1,.const (.string sep)]:Array Operand).map f = #[f (.tmp d1),f (.const (.string sep))] from fun f=>by simp,this];rfl
 rw [hargs]
 refine (hsp S sep w).mono fun e w' hq => ?_
 obtain ⟨rfl,ts,ti,rfl⟩:=hq
 rw [h5]
 exact ⟨trivial,rfl,ts,ti,rfl⟩
end
end
end Go.Proofs.Ab
namespace Go.Proofs.Ab
noncomputable section
open Go Go.RowKit
variable {R:Type}
section
variable {P:Program} {E:Env} {C:Cfg R} {tab:cb} {r:R} {s s':St} {a a':Act} {w w':World} {β β':Nat->Bl} {Rt Ra Rt' Ra':Nat->Prop}
structure SpOk (P:Program) (F:SpF) (it:Nat):Prop where
 ge:∀ vs w,(callFunc F.g vs).run P w = .ok (.enter F.g vs) w
 ixe:∀ vs w,(callFunc F.ix vs).run P w = .ok (.enter F.ix vs) w
 ite:∀ vs w,(callFunc it vs).run P w = .ok (.enter it vs) w
 split:vo P F.g it
 iter:xZ P F.ix it F.sep
theorem Dl (hP:Ok P C.ty) (hE:cS C tab E) (hD:∀ g,bR P C.ty tab g (C.call g)) {F:SpF} {it:Nat} (hF:SpOk P F it) {x y:Code} {i:lR} (hs:xH x y=some i) (hrel:Rel E s a w β Rt Ra) {κ : Exit->St->Option R} (hk:Fg C F i s κ = some r) :
  (Code.seq x y).wpIn Fence.wide 6 P (fun e a' w'=>∃ (a1:Act) (p:iq),a1.defers=[]/\a'={ a1 with defers:=[{ target := .collected p.D,args := #[] }] }/\oJ E p a1 (κ e) r w') a w:=by
 obtain ⟨id,o1,o2,c,rfl,h1,h2,h3,h4,h5,h6,h7,h8,hne,rfl⟩:=Br hs
 unfold Fg at hk
 split at hk
 ·rename_i S hS
  obtain ⟨hc,hk⟩:=j9 hk
  obtain ⟨hsz,hk⟩:=b8 hk
  simp only [Bool.and_eq_true,decide_eq_true_eq] at hc hsz
  obtain ⟨hg,hsep,hd1,hd2,hcl⟩:=hc
  have hg:=Nat.eq_of_beq_eq_true hg
  have hv:a.eval i.x0 = .string S:=by have:=bH hrel i.x0;rw [hS] at this;exact this
  rw [hg] at h7
  have ha:a.defers=[]:=hrel.defers
  refine wpIn_seq (wpIn_mono (rC hF.split hF.ge h1 h2 h3 h4 h5 h6 h7 h8 hv (by rw [<- hrel.len];exact hd1)) fun e a1 w1 hq => ?_)
  obtain ⟨rfl,rfl,ts,ti,rfl⟩:=hq
  generalize hw3:((w.alloc (.cells #[.string S] ts)).alloc (.cells #[.string i.sep] ts)).alloc (.cells #[.int .i64 0] ti)=w3
  have sz:w3.heap.size=w.heap.size+3:=by rw [<- hw3];simp
  have old:∀ b,b<w.heap.size->w3.heap[b]? = w.heap[b]? := fun b hb=>by
   rw [<- hw3]
   show (((w.heap.push _).push _).push _)[b]? = _
   rw [Array.getElem?_push,if_neg (by simp;omega),Array.getElem?_push,if_neg (by simp;omega),Array.getElem?_push,if_neg (by omega)]
  have c0:w3.heap[w.heap.size]? = some (.cells #[.string S] ts):=by
   rw [<- hw3];show (((w.heap.push _).push _).push _)[w.heap.size]? = _
   rw [Array.getElem?_push,if_neg (by simp;omega),Array.getElem?_push,if_neg (by simp),Array.getElem?_push,if_pos rfl]
  have c1:w3.heap[w.heap.size+1]? = some (.cells #[.string i.sep] ts):=by
   rw [<- hw3];show (((w.heap.push _).push _).push _)[w.heap.size+1]? = _
   rw [Array.getElem?_push,if_neg (by simp),Array.getElem?_push,if_pos (by simp)]
  have c2:w3.heap[w.heap.size+2]? = some (.cells #[.int .i64 0] ti):=by
   rw [<- hw3];show (((w.heap.push _).push _).push _)[w.heap.size+2]? = _
   rw [Array.getElem?_push,if_pos (by simp)]
  have hgr:jh w w3:=⟨by rw [<- hw3];rfl,by rw [<- hw3];rfl,by rw [<- hw3];rfl,by omega,fun b hb _=>old b hb⟩
  have r1:=((hrel.ig hgr).put (some i.d1) (x := .str S) (v := .string S) rfl).put (some i.d2) (x := .no) (v := .func (.func it) #[] #[.pointer (some ⟨w.heap.size+1,0,none⟩),.pointer (some ⟨w.heap.size,0,none⟩),.pointer (some ⟨w.heap.size+2,0,none⟩)]) trivial
  have r2:=(r1.im (a:=_) (ds:=i.ds) (Kp.refl _ _) r1.defers).shrink hcl
  have fo:∀ b,w.heap.size<=b->b<w3.heap.size->Fo E (im i.ds ((s.put (some i.d1) (.str S)).put (some i.d2) .no)) w3 β Rt b:=fun b hb hl =>
   ⟨hl,fun hr=>by have:=hrel.rlt b (hrel.sub b hr);omega,fun hr=>by have:=hrel.rlt b (hrel.ra0 b hr);omega,.inl (Nat.le_trans hrel.fr.size hb),fun t o ho hbb=>by
    have:=(hrel.cx t o (by rwa [show (im i.ds ((s.put (some i.d1) (.str S)).put (some i.d2) .no)).obj t=((s.put (some i.d1) (.str S)).put (some i.d2) .no).obj t from rfl,fm,fm] at ho) b hbb).1
    omega⟩
  have hdv:((a.put (some i.d1) (.string S)).put (some i.d2) (.func (.func it) #[] #[.pointer (some ⟨w.heap.size+1,0,none⟩),.pointer (some ⟨w.heap.size,0,none⟩),.pointer (some ⟨w.heap.size+2,0,none⟩)])).eval (.tmp i.d2) = .func (.func it) #[] #[.pointer (some ⟨w.heap.size+1,0,none⟩),.pointer (some ⟨w.heap.size,0,none⟩),.pointer (some ⟨w.heap.size+2,0,none⟩)] :=
   eval_put (by show i.d2<(a.tmps.setIfInBounds _ _).size;rw [Array.size_setIfInBounds,<- hrel.len];exact hd2) _
  have hcell:eD (w.heap.size+1) w.heap.size (w.heap.size+2) i.sep S w3:=by
   refine ⟨?_,?_,?_,?_⟩
   ·unfold World.cell?;simp only [c0];rfl
   ·unfold World.cell?;simp only [c1];rfl
   ·unfold World.cell?;simp only [c2];rfl
   ·unfold World.frozen?;simp only [c0];rfl
  refine wpIn_block (wpIn_mono (zJ (ix:=F.ix) (it:=it) hP hE hD hF.ixe hF.ite i (by rw [hsep];exact hF.iter) r2.defers hdv (by omega) (by omega) hsz hcell r2 (fun b hb=>hb) (fun b hb => ?_) hk) fun e a' w' hq => ?_)
  ·simp only [List.mem_cons,List.mem_nil_iff,or_false] at hb
   rcases hb with rfl|rfl|rfl
   ·exact fo _ (by omega) (by omega)
   ·exact fo _ (by omega) (by omega)
   ·exact fo _ (by omega) (by omega)
  ·obtain ⟨p,ea,hst⟩:=hq
   cases e with
   | exit j =>
    show if j=i.b then _ else _
    by_cases hj:j=i.b
    ·rw [if_pos hj]
     have:oJ E p _ (fun s1=>κ (tX i.b (.exit j)) s1) r w':=hst
     rw [show tX i.b (.exit j) = .normal from (by show (if j=i.b then Exit.normal else .exit j)=_;rw [if_pos hj])] at this
     exact ⟨_,p,r2.defers,ea,this⟩
    ·rw [if_neg hj]
     have:oJ E p _ (fun s1=>κ (tX i.b (.exit j)) s1) r w':=hst
     rw [show tX i.b (.exit j) = .exit j from (by show (if j=i.b then Exit.normal else .exit j)=_;rw [if_neg hj])] at this
     exact ⟨_,p,r2.defers,ea,this⟩
   | _=>exact ⟨_,p,r2.defers,ea,hst⟩
 ·cases hk
def Qg (E:Env) (κ : Exit->St->Option R) (r:R):Exit->Act->World->Prop:=fun e a' w'=>∃ s',κ e s'=some r/\∃ β Rt Ra,Rel E s' { a' with defers:=[] } w' β Rt Ra /\
 (a'.defers=[]∨∃ D,a'.defers=[{ target := .collected D,args := #[] }]/\w'.heap[D]? = some (.deferred (some []))/\¬ Ra D/\(E.w0.heap.size<=D∨E.W0 D)/\∀ t o,s'.obj t=some o->D ∉ bK (β t) o)
theorem mW {κ : Exit->St->Option R} {ds:List Nat} {a0:Act} {e:Exit} (h:Qx E κ r [] ds a0 e a' w'):Qg E κ r e a' w':=by
 obtain ⟨s',h1,⟨β,Rt,Ra,h2⟩,h3,_⟩:=h
 exact ⟨s',h1,β,Rt,Ra,h2,.inl h3⟩
theorem DX (hP:Ok P C.ty) (hE:cS C tab E) (hD:∀ g,bR P C.ty tab g (C.call g)) {F:SpF} {it:Nat} (hF:SpOk P F it):∀ (c:Code) {s:St} {a:Act} {w:World} {κ : Exit->St->Option R},ci E s a w->gK C F c s κ = some r->c.wpIn Fence.wide 6 P (Qg E κ r) a w:=by
 have plain:∀ (c:Code) {s:St} {a:Act} {w:World} {κ : Exit->St->Option R},ci E s a w->cK C c s κ = some r->c.wpIn Fence.wide 6 P (Qx E κ r [] (jf c) a) a w:=fun c s a w κ h hk=>by
  have hd:a.defers=[]:=let ⟨_,_,_,h⟩:=h;h.defers
  have ea:({ a with defers:=[] }:Act)=a:=by rw [<- hd]
  exact m9 (F:=Fence.wide) hP hE hD (fun _=>trivial) rfl (fun h=>fQ h) (fun h=>jd h) [] c (fun _ h=>h) (by rw [ea];exact h) hd (Kp.refl _ _) hk
 intro c
 induction c with
 | seq x z ihx ihz =>
  intro s a w κ h hk
  unfold gK at hk
  split at hk
  ·rename_i i hi
   split at hi
   ·rename_i p q
    obtain ⟨β,Rt,Ra,h0⟩:=h
    refine wpIn_seq (wpIn_mono (Dl hP hE hD hF hi h0 hk) fun e a1 w1 hq => ?_)
    obtain ⟨a2,p,ha2,rfl,hst⟩:=hq
    obtain ⟨hDf,s1,β1,Rt1,Ra1,hk1,r1,hRa1,hfo1⟩:=hst
    have hDfo:=hfo1 p.D (by simp [iq.all])
    have ea2:({ ({ a2 with defers:=[{ target := .collected p.D,args := #[] }] }:Act) with defers:=[] }:Act)=a2:=by rw [<- ha2]
    have other:∀ e,tH κ (fun s1=>cK C z s1 (Cr κ)) e s1=some r->e ≠ .normal->Qg E κ r e { a2 with defers:=[{ target := .collected p.D,args := #[] }] } w1:=by
     intro e hk1 hne
     have hk2:κ e s1=some r:=by cases e <;> first|exact absurd rfl hne|exact hk1|cases hk1
     exact ⟨s1,hk2,β1,Rt1,Ra1,by rw [ea2];exact r1,.inr ⟨p.D,rfl,hDf,fun h=>(hRa1 _ h).elim hDfo.2.1 hDfo.2.2.1,hDfo.2.2.2.1,hDfo.2.2.2.2⟩⟩
    cases e with
    | normal =>
     have hz:=yv (F:=Fence.wide) (n:=6) (a:={ a2 with defers:=[{ target := .collected p.D,args := #[] }] }) hP hE hD (fun _=>trivial) rfl (fun h=>fQ h) (fun h=>jd h) [{ target := .collected p.D,args := #[] }] z (fun _ h=>h) (by rw [ea2];exact r1) rfl (Kp.refl _ _) hk1
     refine wpIn_mono hz fun e a3 w3 hq => ?_
     obtain ⟨s3,β3,Rt3,Ra3,k3,r3,d3,_,_,fo3⟩:=hq
     obtain ⟨hc3,k3⟩:=b8 k3
     obtain ⟨hh,hf3⟩:=fo3 p.D hDfo
     exact ⟨s3,k3,β3,Rt3,_,r3.shrink hc3,.inr ⟨p.D,d3,hh.trans hDf,fun h=>h.elim hf3.2.1 hf3.2.2.1,hf3.2.2.2.1,hf3.2.2.2.2⟩⟩
    | _=>exact other _ hk1 (by simp)
   ·cases hi
  ·refine wpIn_seq (wpIn_mono (plain x h hk) fun e a1 w1 hq => ?_)
   cases e with
   | normal =>
    obtain ⟨s1,k1,h1,d1,_⟩:=hq
    have ea:({ a1 with defers:=[] }:Act)=a1:=by rw [<- d1]
    exact ihz (by rw [<- ea];exact h1) k1
   | exit j=>obtain ⟨s1,k1,h1⟩:=hq;exact mW ⟨s1,k1,h1⟩
   | ret=>obtain ⟨s1,k1,h1⟩:=hq;exact mW ⟨s1,k1,h1⟩
   | _=>obtain ⟨s1,k1,_⟩:=hq;cases k1
 | _ =>
  intro s a w κ h hk
  exact wpIn_mono (plain _ h hk) fun e a' w' hq=>mW hq
def Di (C:Cfg R) (f:Func) (n:Nat) (κ : List SV->Option R):Exit->St->Option R
 | .normal,s=>oS C f.results.toList (List.range n) κ s
 | .ret,s=>oS C f.results.toList (List.range n) κ s
 | _,_=>none
def Bm (C:Cfg R) (F:SpF) (f:Func) (args:List SV) (κ : List SV->Option R):Option R :=
 match f.body with
 | some c=>bW (decide (vars args<=64)) (gK C F c (entry f args) (Di C f (vars args) κ))
 | none=>none
theorem vc (hP:Ok P C.ty) (hD:∀ g,bR P C.ty tab g (C.call g)) {F:SpF} {it:Nat} (hF:SpOk P F it) {g:Nat} {fn:Func} (hf:P.funcs[g]? = some fn) (hname:(fn.name == "runtime.NumGoroutine")=false) {args:List SV} {κ : List SV->Option R} (hk:Bm C F fn args κ = some r)
  {w:World} {vs:Array Value} {Rt Ra:Nat->Prop} {bs:List Nat} (hpre:Pre C.ty tab w args vs.toList Rt Ra bs) :
  mD P g vs w fun v w'=>∃ res Rt' v0 back b1 b2,κ res=some r/\kW C.ty w args vs.toList Rt bs res v w' Rt' v0 back b1 b2:=by
 unfold Bm at hk
 cases hb:fn.body with
 | none=>rw [hb] at hk;cases hk
 | some c =>
  rw [hb] at hk;simp only at hk
  obtain ⟨hn,hk⟩:=b8 hk
  simp only [decide_eq_true_eq] at hn
  refine .inr ⟨enters hf hb hname vs w,?_⟩
  let E:Env:=⟨C.ty,w,fun b=>b∈bs,Rt,Ra,fun i=>(dm args vs.toList).getD i 0⟩
  have hE:cS C tab E:=⟨rfl,fun b ob hob=>⟨(hpre.tab b ob hob).1,(hpre.tab b ob hob).2,fun hin=>(hpre.no b hin).1 (hpre.sub b (hpre.tab b ob hob).2)⟩⟩
  have h0:=pi hpre fn hn
  refine callsIn_wide.1 (callsIn_of_wp_marks (F:=Fence.wide) (n:=6) hf hb trivial (wpIn_mono (DX hP hE hD hF c h0 hk) fun e a' w' hq => ?_) rfl)
  obtain ⟨s',hret,β,Rt',Ra',hrel,hd⟩:=hq
  have fin:∀ (w2:World) (hrel2:Rel E s' { a' with defers:=[] } w2 β Rt' Ra'),oS C fn.results.toList (List.range (vars args)) κ s'=some r->LeavesInM Fence.wide 6 P fn a'.tmps (fun e w'=>∃ v,e = .returned v/\∃ res Rt' v0 back b1 b2,κ res=some r/\kW C.ty w args vs.toList Rt bs res v w' Rt' v0 back b1 b2) [] .returning w2:=by
   intro w2 hrel2 hret
   obtain ⟨v,res,v0,back,b1,b2,hrun,hkr,hres,hcr,hcb,hnd,hno⟩:=oq hP rfl hrel2 (c0:=cc C.ty w Rt Ra) hpre.cat (fun i b hb=>by
    show (dm args vs.toList).getD i 0=b
    rw [List.getD_eq_getElem?_getD,hb];rfl) hn hret
   exact ⟨v,hrun,v,rfl,res,Rt',v0,back,b1,b2,hkr,hres,hrel2.fr,hcr,hcb,hnd,fun z hz=>⟨fun hr=>(hno z hz).1 (hrel2.sub z hr),(hno z hz).2.1,(hno z hz).2.2⟩,hrel2.rt0,fun z hz=>⟨hrel2.rlt z (hrel2.sub z hz),hrel2.rt z hz⟩⟩
  have go:oS C fn.results.toList (List.range (vars args)) κ s'=some r->LeavesInM Fence.wide 6 P fn a'.tmps (fun e w'=>∃ v,e = .returned v/\∃ res Rt' v0 back b1 b2,κ res=some r/\kW C.ty w args vs.toList Rt bs res v w' Rt' v0 back b1 b2) a'.defers .returning w':=by
   intro hret
   rcases hd with hd|⟨D,hd,hDf,hDR,hDE,hDo⟩
   ·rw [hd];exact fin w' hrel hret
   ·rw [hd]
    refine ⟨by simp,.inl ⟨_,_,rfl,run_takeDeferred hDf,fin _ (hrel.world (iV w' D _) fun b hb => ?_) hret⟩⟩
    subst hb;exact ⟨hDR,hDE,hDo⟩
  cases e with
  | normal=>exact go hret
  | ret=>exact go hret
  | _=>cases hret
theorem rZ (hP:Ok P C.ty) (hD:∀ g,bR P C.ty tab g (C.call g)) {F:SpF} {it:Nat} (hF:SpOk P F it) {g:Nat} {fn:Func} (hf:P.funcs[g]? = some fn) (hname:(fn.name == "runtime.NumGoroutine")=false) {xs:List SV} {κ : List SV->Option R} {X:Option R} (h:Bm C F fn xs κ = X):aa P C.ty tab g xs κ X:=by
 intro r e w vs Rt Ra bs hpre
 exact vc hP hD hF hf hname (h.trans e) hpre
end
end
end Go.Proofs.Ab
