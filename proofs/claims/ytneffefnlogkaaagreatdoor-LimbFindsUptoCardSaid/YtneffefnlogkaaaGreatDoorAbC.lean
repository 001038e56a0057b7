/- The abstract machine: a run of a function's code over data without memory, and the proof that whatever this run says is what a call does (conditions: those of each lemma). -/
import Derived.Test.YtneffefnlogkaaaGreatDoorAbB
import Derived.Laws.Sem
import Derived.Laws.Externs
import Derived.Lib.Bytealg
import Derived.Shelf.Strings.Search2
import Derived.Below
import Derived.ChangeArms
import Derived.ChangeShapes
import Derived.SizedLaws
import Derived.CallsIn
import Derived.ControlIn
import Derived.RangeFuncIn
import Derived.RangeFuncCalls
import Derived.TacticsIn
import Derived.RangeFuncRecord
import Derived.RangeFuncSeq
set_option linter.unusedVariables false
set_option linter.unusedSimpArgs false
set_option maxRecDepth 4000
namespace Go.Proofs.Ab
open Go
variable {R:Type}
section
variable {P:Program} {E:Env} {s:St} {a:Act} {w:World} {β : Nat->Bl} {Rt Ra:Nat->Prop} {r:R} {C:Cfg R} {tab:bZ}
def FN (tmps:Array Value):ResultVar->Sem Value
 | .tmp t=>pure (tmps.getD t undef)
 | .cell k t=>do loadVar t (<- asAddr (tmps.getD k undef))
theorem xH (fn:Func) (tmps:Array Value):results fn tmps=(do
  let vs <- fn.results.mapM (FN tmps)
  pure (if h:vs.size=1 then vs[0] else .tuple vs)):=rfl
theorem xG (hP:Ok P C.ty) (hE:E.T=C.ty) (h:Rel E s a w β Rt Ra) {x:ResultVar} {y:SV} (f:DZ C s x=some y):∃ v,(FN a.tmps x).run P w = .ok v w/\S2 (bG E s w β Rt Ra) y v:=by
 cases x with
 | tmp t =>
  simp only [DZ] at f;cases f
  exact ⟨_,rfl,h.slots t⟩
 | cell k t =>
  simp only [DZ] at f
  split at f
  ·rename_i T hT
   split at f
   ·rename_i u off hk
    have N:=h.slots k
    rw [hk] at N
    obtain ⟨_,A⟩:_/\a.tmps.getD k undef=_:=N
    simp only [loadAt] at f
    split at f
    ·rename_i ty ls ho
     obtain ⟨ad,f⟩:=bY f
     obtain ⟨cs,qq,hg,ae⟩:=h.objs u _ ho
     have U:PW (SL (bG E s w β Rt Ra)) (sub ls off T.sz) ((cs.toList.drop off).take T.sz) :=
      PW.imp_mem (fun z hz v A=>jJ (List.all_eq_true.mp ad z hz) A) ((ae.drop off).take T.sz)
     obtain ⟨v,hr,N⟩:=kJ (hP.ty t T hT) f U (w:=w) (p:=⟨(β u).b,off,none⟩) (fun j v O=>by
      rw [add_plain,cell_of_row w _ _ cs _ (0,0) hg]
      rw [List.getElem?_take] at O
      split at O
      ·rw [List.getElem?_drop] at O;simpa using O
      ·cases O)
     refine ⟨v,?_,dy N⟩
     simp only [Instr.loadAt,Instr.sureAddr,Sem.run_bind,Sem.run_pure,Result.andThen_ok] at hr
     show Sem.run P (do loadVar t (<- asAddr (a.tmps.getD k undef))) w=_
     rw [A]
     simp only [asAddr,Sem.run_bind,Sem.run_pure,Result.andThen_ok]
     exact hr
    ·cases f
   ·rename_i u n hk
    have N:=h.slots k
    rw [hk] at N
    obtain ⟨_,g,cap,e1,A⟩:_/\∃ g cap,(β u).v=_/\a.tmps.getD k undef = .pointer (some _):=N
    simp only [loadAt] at f
    split at f
    ·rename_i el l st ap
     split at f
     ·rename_i kk ar
      obtain ⟨a1,a2,a3,D,hD,a4,a5,a6,a7⟩:=fX ar
      obtain ⟨hb,f⟩:=bY f
      cases f
      simp only [Bool.and_eq_true] at hb
      have he:=Nat.eq_of_beq_eq_true hb.1;have ax:=Nat.eq_of_beq_eq_true hb.2
      subst he
      obtain ⟨T',cs,V,bb,m,a8⟩:=h.objs u _ ap
      have M:C.ty T.elem=some T':=by rw [<- hE];exact V
      rw [hD] at M;cases M
      rw [e1] at m
      have hlen:=m.1
      have W:n=l.length:=by
       rcases fG m with ⟨A,_⟩|⟨_,_,A,_⟩
       ·cases A
       ·cases A;rfl
      have X:D.sz=1:=by unfold TI.sz;rw [a4];rfl
      have Y:D.flat=true:=by unfold TI.flat;rw [a4];simp [a6]
      refine ⟨.agg cs.toArray,?_,dy (dO ⟨W.symm,D,cs.toArray,V,Y,rfl,by simp [hlen],RC.flat Y (by simpa using a8)⟩)⟩
      have:=run_loadCells_list (P:=P) w ⟨g,0,none⟩ cs (fun j v O=>by rw [add_plain,Nat.zero_add];exact gf m j v O)
      rw [hlen,X,Nat.mul_one,<- W,ax] at this
      show Sem.run P (do loadVar t (<- asAddr (a.tmps.getD k undef))) w=_
      rw [A]
      simp only [asAddr,Sem.run_bind,Sem.run_pure,Result.andThen_ok]
      simp [loadVar,gi (hP.ty t T hT),a1,fq (hP.ty t T hT),this]
     ·cases f
    ·cases f
   ·cases f
  ·cases f
theorem pX (u:Ok P C.ty) (z:E.T=C.ty) (h:Rel E s a w β Rt Ra):∀ (l:List ResultVar) (j:List SV),CE C s l=some j->∃ vs:List Value,(l.mapM (FN a.tmps)).run P w = .ok vs w/\PW (S2 (bG E s w β Rt Ra)) j vs
 | [],j,f=>by cases f;exact ⟨[],rfl,trivial⟩
 | x::l,j,f=>by
  simp only [CE] at f
  split at f
  ·rename_i y A M N
   cases f
   obtain ⟨v,O,U⟩:=xG u z h M
   obtain ⟨vs,m,V⟩:=pX u z h l A N
   refine ⟨v::vs,?_,U,V⟩
   rw [List.mapM_cons]
   simp only [Sem.run_bind]
   rw [O];simp only [Result.andThen_ok]
   rw [m];rfl
  ·cases f
theorem qC (m:Ok P C.ty) (u:E.T=C.ty) (h:Rel E s a w β Rt Ra) {fn:Func} {f:List SV} (z:CE C s fn.results.toList=some f):∃ vs:List Value,(results fn a.tmps).run P w = .ok (match vs with|[v]=>v|_ => .tuple vs.toArray) w/\PW (S2 (bG E s w β Rt Ra)) f vs:=by
 obtain ⟨vs,j,A⟩:=pX m u h _ f z
 refine ⟨vs,?_,A⟩
 rw [xH]
 simp only [Sem.run_bind]
 rw [Array.mapM_eq_mapM_toList]
 simp only [map_eq_pure_bind,Sem.run_bind]
 rw [j]
 simp only [Result.andThen_ok,Sem.run_pure]
 match vs with
 | []=>rfl
 | [v]=>rfl
 | _::_::_=>simp
theorem xM {x:SV} {v:Value} (j:known x=true) (m:AC x=true) (f:tok x=none) (u:∀ e l st i off,x ≠ .rl e l st i off) (h:SL (bG E s w β Rt Ra) x v):CL (cc E.T w Rt Rt) x v []:=by
 refine qK f (fun e=>by subst e;cases j) (fun e l st A=>by subst A;cases j) ?_
 cases x <;> simp only [SL] at h ⊢ <;> first|exact h|(cases f;done)|skip
 case ro e l st =>
  have:st=true:=m
  subst this
  exact h.mono (fun b z=>by unfold Cx.Q at z ⊢;rw [if_pos rfl] at z ⊢;exact z) (fun _ _=>rfl)
 case rl e l st i off=>exact absurd rfl (u _ _ _ _ _)
 case cls g M =>
  cases M with
  | nil=>exact ⟨fun t f=>(by cases f),h.2⟩
  | cons _ _=>cases f
 case ra e n l st=>cases j
theorem kd (h:Rel E s a w β Rt Ra) {x y:SV} {v:Value} (N:SL (bG E s w β Rt Ra) x v) (f:jh s x=some y):CL (cc E.T w Rt Rt) y v ((owns [x]).flatMap (tb s β)):=by
 unfold jh at f
 split at f
 ·rename_i e n l
  cases f
  refine qK rfl (by simp) (by simp) ?_
  obtain ⟨h0,D,cs,h1,h2,h3,h4,h5⟩:=N
  exact ⟨h0,D,cs,h1,h2,h3,h4,h5.mono (fun _ m=>m) (fun _ m=>m.elim)⟩
 ·rename_i t
  split at f
  ·rename_i e l A
   cases f
   obtain ⟨D,cs,hT,ap,j,O⟩:=h.objs t _ A
   obtain ⟨_,hv,_,u⟩:_/\v=(β t).v/\_/\(β t).arr=false:=N
   have j:fm w (β t).arr e D.sz (β t).v l.length cs:=j
   rw [u] at j
   refine ⟨D,cs,hT,hv▸j,?_,?_⟩
   ·refine O.mono (fun b m => ?_) (fun _ _=>rfl)
    unfold Cx.Q at m ⊢;rw [if_pos rfl] at m ⊢;exact m
   ·simp only [owns,List.flatMap_cons,List.flatMap_nil,List.append_nil,tb,A,ci,hv]
  ·cases f
 ·cases f
 ·cases f
 ·cases f
 ·cases f
 ·cases f
 ·cases f
 ·cases f
 ·rename_i ar z U V W X Y ad ae
  obtain ⟨M,rfl⟩:=mO f
  simp only [Bool.and_eq_true] at M
  have A:owns [x]=[]:=by cases x <;> first|rfl|exact absurd rfl (z _)
  rw [A]
  refine xM M.1 M.2 ?_ X N
  cases x <;> first|rfl|exact absurd rfl (Y _ _)|exact absurd rfl (ad _ _)|exact absurd rfl (ae _)|exact absurd rfl (z _)|exact absurd rfl (U _ _ _)|exact absurd rfl (V _ _)|exact absurd rfl (W _ _ _)|cases M.1
theorem nZ (h:Rel E s a w β Rt Ra):∀ (l:List SV) (vs:List Value) (m:List SV),PW (SL (bG E s w β Rt Ra)) l vs->sv s l=some m->jB (CL (cc E.T w Rt Rt)) m vs ((owns l).flatMap (tb s β))
 | [],[],m,_,f=>by cases f;rfl
 | x::l,v::vs,m,j,f=>by
  unfold sv at f
  split at f
  ·rename_i y u z A
   cases f
   rw [je,List.flatMap_append]
   exact ⟨_,_,rfl,kd h j.1 z,nZ h l vs u j.2 A⟩
  ·cases f
 | [],_::_,_,j,_=>j.elim
 | _::_,[],_,j,_=>j.elim
theorem qd (x:SV) (l u:List SV) (f:gH s (x::l)=some u):∃ y j,u=y::j/\gH s l=some j/\((x = .no/\y = .no)∨(x = .nos/\y = .nos)∨(∃ t,x = .own t/\s.obj t=some .hole/\y = .no)∨jh s x=some y):=by
 by_cases z:x = .no
 ·subst z;simp only [gH] at f
  split at f
  ·rename_i j m;cases f;exact ⟨_,_,rfl,m,.inl ⟨rfl,rfl⟩⟩
  ·cases f
 ·by_cases m:x = .nos
  ·subst m;simp only [gH] at f
   split at f
   ·rename_i j m;cases f;exact ⟨_,_,rfl,m,.inr (.inl ⟨rfl,rfl⟩)⟩
   ·cases f
  ·by_cases A:∃ t,x = .own t
   ·obtain ⟨t,rfl⟩:=A
    simp only [gH] at f
    split at f
    ·rename_i M
     split at f
     ·rename_i j g;cases f;exact ⟨_,_,rfl,g,.inr (.inr (.inl ⟨t,rfl,M,rfl⟩))⟩
     ·cases f
    ·split at f
     ·rename_i y j g1 g2;cases f;exact ⟨_,_,rfl,g2,.inr (.inr (.inr g1))⟩
     ·cases f
   ·have e:gH s (x::l)=(match jh s x,gH s l with
     | some y,some l=>some (y::l)
     | _,_=>none):=by cases x <;> first|rfl|exact absurd rfl z|exact absurd rfl m|exact absurd ⟨_,rfl⟩ A
    rw [e] at f
    split at f
    ·rename_i y j g1 g2;cases f;exact ⟨_,_,rfl,g2,.inr (.inr (.inr g1))⟩
    ·cases f
theorem nY (h:Rel E s a w β Rt Ra) {b:Nat}:∀ (l:List SV) (vs:List Value) (j:List SV),PW (lz (bG E s w β Rt Ra) b) l vs->gH s l=some j->jB (AJ (cc E.T w Rt Rt) b) j vs ((owns l).flatMap (tb s β))
 | [],[],j,_,m=>by cases m;rfl
 | x::l,v::vs,j,f,m=>by
  obtain ⟨y,z,rfl,A,u⟩:=qd x l j m
  rw [je,List.flatMap_append]
  refine ⟨_,_,rfl,?_,nY h l vs z f.2 A⟩
  rcases u with ⟨rfl,rfl⟩|⟨rfl,rfl⟩|⟨t,rfl,M,rfl⟩|u
  ·exact ⟨rfl,rfl,by simp,trivial⟩
  ·exact ⟨rfl,f.1⟩
  ·have e:(owns [SV.own t]).flatMap (tb s β)=[]:=by simp [owns,tb,M,ci]
   rw [e];exact ⟨rfl,rfl,by simp,trivial⟩
  ·exact oB (kd h (sR f.1) u) b
 | [],_::_,_,f,_=>f.elim
 | _::_,[],_,f,_=>f.elim
theorem AA (l:List SV):jh s (.tup l)=none:=rfl
theorem vV (h:Rel E s a w β Rt Ra) {x y:SV} {v:Value} (m:S2 (bG E s w β Rt Ra) x v) (f:sy s x=some y):xU (cc E.T w Rt Rt) y v ((owns (leaves x)).flatMap (tb s β)):=by
 rcases gF x with ⟨l,rfl⟩|j
 ·simp only [sy] at f
  split at f
  ·rename_i u z;cases f
   obtain ⟨cs,rfl,A⟩:=jm m
   exact ⟨cs,rfl,nZ h l _ u A z⟩
  ·cases f
 ·have e:sy s x=jh s x:=by cases x <;> first|rfl|exact absurd rfl (j _)
  rw [e] at f
  rw [lu j]
  have M:∀ l,x ≠ .tup l:=fun l e=>by subst e;rw [AA] at f;cases f
  exact AR (kd h (xX j (xY M m)) f)
theorem nX (h:Rel E s a w β Rt Ra):∀ (l:List SV) (vs:List Value) (m:List SV),PW (S2 (bG E s w β Rt Ra)) l vs->qc s l=some m->jB (xU (cc E.T w Rt Rt)) m vs ((eX l).flatMap (tb s β))
 | [],[],m,_,f=>by cases f;rfl
 | x::l,v::vs,m,j,f=>by
  unfold qc at f
  split at f
  ·rename_i y u z A
   cases f
   rw [eX,List.flatMap_append]
   exact ⟨_,_,rfl,vV h j.1 z,nX h l vs u j.2 A⟩
  ·cases f
 | [],_::_,_,j,_=>j.elim
 | _::_,[],_,j,_=>j.elim
def DV (s:St):List Nat->List Nat
 | []=>[]
 | k::r=>k::(match s.obj k with
  | some (.var _ f)=>owns f
  | _=>[])++DV s r
theorem vD (s:St):∀ (l:List Nat),(DV s l).Perm (l++lk s l)
 | []=>List.Perm.refl _
 | k::r=>by
  simp only [DV,lk,List.cons_append]
  refine List.Perm.cons _ ?_
  refine ((vD s r).append_left _).trans ?_
  rw [<- List.append_assoc,<- List.append_assoc]
  exact List.perm_append_comm.append_right _
theorem jq (h:Rel E s a w β Rt Ra) {c0:Cx}:∀ (args:List SV) (vs:List Value) (bs:List Nat) (k:Nat) (back:List SV),jB (CV c0) args vs bs->(∀ i b,(eL args vs)[i]? = some b->E.pb (k+i)=b)->k+vars args<=64->jp s (List.range' k (vars args))=some back ->
  CB (cc E.T w Rt Rt) args vs back ((DV s (List.range' k (vars args))).flatMap (tb s β))
 | [],[],bs,k,back,_,_,_,f=>by
  simp only [vars,List.range'_zero,jp] at f;cases f;exact ⟨rfl,rfl⟩
 | x::args,v::vs,bs,k,back,Y,j,M,f=>by
  obtain ⟨b1,V,rfl,hx,W⟩:=Y
  by_cases X:∃ ty l,x = .vp ty l
  ·obtain ⟨ty,l0,rfl⟩:=X
   have m:vars (SV.vp ty l0::args)=vars args+1:=rfl
   rw [m,List.range'_succ] at f ⊢
   rw [m] at M
   obtain ⟨b,_,_,_,rfl,_,_,_⟩:=hx
   simp only [jp] at f
   split at f
   ·rename_i ad ls bk A u
    split at f
    ·rename_i us hs
     cases f
     obtain ⟨cs,q,hh,hp⟩:=h.objs k _ A
     have N:(β k).b=b:=by
      rw [h.pin k _ A (by omega)];exact j 0 b rfl
     refine ⟨b,cs,q,_,_,rfl,by rw [<- N];exact hh,by rw [<- N];exact nY h ls _ us hp hs,?_,jq h args vs V (k+1) bk W (fun i b' O=>by rw [show k+1+i=k+(i+1) by omega];exact j (i+1) b' O) (by omega) u⟩
     simp only [DV,A,List.cons_append,List.flatMap_cons,List.flatMap_append]
     rw [show tb s β k=[b] by unfold tb;rw [A];simp [ci,N]]
     simp
    ·cases f
   ·cases f
  ·have z:∀ ty l,x ≠ .vp ty l:=fun ty l e=>X ⟨ty,l,e⟩
   rw [zf z] at f M ⊢
   have U:eL (x::args) (v::vs)=eL args vs:=by cases x <;> first|rfl|exact absurd rfl (z _ _)
   rw [U] at j
   rw [qJ _ z]
   exact jq h args vs V k back W j M f
 | [],_::_,_,_,_,h,_,_,_=>h.elim
 | _::_,[],_,_,_,h,_,_,_=>h.elim
theorem oF:∀ (ps:List Nat) {back:List SV},jp s ps=some back->∀ k∈ps,∃ ty u z,s.obj k=some (.var ty u)/\gH s u=some z
 | [],_,_,k,j=>by cases j
 | p::r,back,m,k,j=>by
  simp only [jp] at m
  split at m
  ·rename_i ty u N A f
   split at m
   ·rename_i z M
    rcases List.mem_cons.1 j with rfl|j
    ·exact ⟨ty,u,z,A,M⟩
    ·exact oF r f k j
   ·cases m
  ·cases m
theorem nu {x y:SV} (f:jh s x=some y):∀ t∈owns [x],∃ e l st,s.obj t=some (.row e l st):=by
 intro t j
 cases x <;> simp only [owns,List.not_mem_nil] at j
 simp only [List.mem_singleton] at j;subst j
 simp only [jh] at f
 split at f
 ·exact ⟨_,_,_,by assumption⟩
 ·cases f
theorem sw:∀ {l m:List SV},sv s l=some m->∀ t∈owns l,∃ e l st,s.obj t=some (.row e l st)
 | [],_,_,t,f=>by cases f
 | x::l,m,j,t,f=>by
  unfold sv at j
  split at j
  ·rename_i y A u z
   rw [je] at f
   rcases List.mem_append.1 f with f|f
   ·exact nu u t f
   ·exact sw z t f
  ·cases j
theorem su:∀ {l j:List SV},gH s l=some j->∀ t∈owns l,∀ ty m,s.obj t≠some (.var ty m)
 | [],_,_,t,f=>by cases f
 | x::l,j,A,t,f=>by
  obtain ⟨y,U,rfl,M,z⟩:=qd x l j A
  rw [je] at f
  rcases List.mem_append.1 f with f|f
  ·rcases z with ⟨rfl,_⟩|⟨rfl,_⟩|⟨u,rfl,N,_⟩|z
   ·cases f
   ·cases f
   ·simp only [owns,List.mem_singleton] at f;subst f
    intro ty m e;rw [N] at e;cases e
   ·obtain ⟨_,_,_,O⟩:=nu z t f
    intro ty m e;rw [O] at e;cases e
  ·exact su M t f
theorem sr:∀ {l u:List SV},qc s l=some u->∀ t∈eX l,∃ e l st,s.obj t=some (.row e l st)
 | [],_,_,t,f=>by cases f
 | x::l,u,m,t,f=>by
  unfold qc at m
  split at m
  ·rename_i y N j A
   rw [eX] at f
   rcases List.mem_append.1 f with f|f
   ·rcases gF x with ⟨l',rfl⟩|z
    ·simp only [sy] at j
     split at j
     ·rename_i M;exact sw M t f
     ·cases j
    ·have e:sy s x=jh s x:=by cases x <;> first|rfl|exact absurd rfl (z _)
     rw [e] at j;rw [lu z] at f
     exact nu j t f
   ·exact sr A t f
  ·cases m
theorem pK:∀ (ps:List Nat) {back:List SV},jp s ps=some back->∀ t∈lk s ps,∀ ty u,s.obj t≠some (.var ty u)
 | [],_,_,t,f=>by cases f
 | p::r,back,m,t,f=>by
  simp only [jp] at m
  split at m
  ·rename_i ty u M z j
   split at m
   ·rename_i N A
    simp only [lk,z] at f
    rcases List.mem_append.1 f with f|f
    ·exact su A t f
    ·exact pK r j t f
   ·cases m
  ·cases m
end
end Go.Proofs.Ab
namespace Go.Proofs.Ab
open Go
variable {R:Type}
section
variable {P:Program} {C:Cfg R} {tab:bZ} {r:R}
theorem tS (n:Nat):List.range n=List.range' 0 n:=List.range_eq_range'
theorem enters {g:Nat} {fn:Func} {c:Code} (hf:P.funcs[g]? = some fn) (hb:fn.body=some c) (hn:(fn.name == "runtime.NumGoroutine")=false) (vs:Array Value) (w:World):(callFunc g vs).run P w = .ok (.enter g vs) w:=by
 have hn':fn.name ≠ "runtime.NumGoroutine" := by simpa using hn
 unfold callFunc
 simp [hf,hb,hn']
theorem pZ (hP:Ok P C.ty) {E:Env} (hE:E.T=C.ty) {s:St} {a:Act} {w:World} {β : Nat->Bl} {Rt Ra:Nat->Prop} (h:Rel E s a w β Rt Ra) {fn:Func} {args:List SV} {vs:List Value} {c0:Cx} {bs:List Nat} {κ : List SV->Option R} (ae:jB (CV c0) args vs bs) (ax:∀ i b,(eL args vs)[i]? = some b->E.pb i=b) (hn:vars args<=64)
  (A:qD C fn.results.toList (List.range (vars args)) κ s=some r):∃ v res v0 back b1 b2,(results fn a.tmps).run P w = .ok v w/\κ res=some r/\res=v0::back/\CR (cc E.T w Rt Rt) v0 v b1/\CB (cc E.T w Rt Rt) args vs back b2/\(b1++b2).Nodup/\∀ b∈b1++b2,¬ Ra b/\b<w.heap.size/\(E.w0.heap.size<=b∨E.W0 b):=by
 unfold qD at A
 split at A
 ·rename_i U back ap j
  obtain ⟨M,A⟩:=bY A
  replace M:=fg M
  obtain ⟨us,f,a1⟩:=qC hP hE h ap
  have N:=pK _ j
  have V:=oF _ j
  have ar:CB (cc E.T w Rt Rt) args vs back ((DV s (List.range (vars args))).flatMap (tb s β)):=by
   rw [tS] at j ⊢
   exact jq h args vs bs 0 back ae (fun i b O=>by rw [Nat.zero_add];exact ax i b O) (by omega) j
  have main:∀ W,qc s U=some W->jB (xU (cc E.T w Rt Rt)) W us ((eX U).flatMap (tb s β))/\((eX U).flatMap (tb s β)++(DV s (List.range (vars args))).flatMap (tb s β)).Nodup/\∀ b∈(eX U).flatMap (tb s β)++(DV s (List.range (vars args))).flatMap (tb s β),¬ Ra b/\b<w.heap.size/\(E.w0.heap.size<=b∨E.W0 b):=by
   intro W hz
   have X:=sr hz
   refine ⟨nX h U us W a1 hz,?_,?_⟩
   ·rw [<- List.flatMap_append]
    refine kz h.toRelO ?_
    have hp:(eX U++DV s (List.range (vars args))).Perm (List.range (vars args)++(eX U++lk s (List.range (vars args)))) :=
     ((vD s _).append_left _).trans (by rw [<- List.append_assoc,<- List.append_assoc];exact List.perm_append_comm.append_right _)
    rw [hp.nodup_iff,List.nodup_append]
    refine ⟨List.nodup_range,M,fun k A t ht e => ?_⟩
    subst e
    obtain ⟨ty,ls,_,ho,_⟩:=V k A
    rcases List.mem_append.1 ht with ht|ht
    ·obtain ⟨_,_,_,h2⟩:=X k ht;rw [ho] at h2;cases h2
    ·exact N k ht _ _ ho
   ·intro b O
    rw [<- List.flatMap_append] at O
    obtain ⟨t,_,O⟩:=List.mem_flatMap.1 O
    unfold tb at O;split at O
    ·rename_i o ho
     obtain ⟨g1,g2,g3⟩:=h.c9 t o ho b O
     exact ⟨g2,g1,g3⟩
    ·cases O
  split at A
  ·rename_i v0 hz
   obtain ⟨m,m2,m3⟩:=main _ hz
   match us,m,f with
   | [],m,_=>exact m.elim
   | _::_::_,⟨_,_,_,_,m⟩,_=>exact m.elim
   | [u],⟨b1,b2,e,m,e2⟩,f =>
    have e2:b2=[]:=e2
    subst e2;rw [List.append_nil] at e
    refine ⟨u,_,v0,back,b1,_,f,A,rfl,?_,ar,by rw [<- e];exact m2,by rw [<- e];exact m3⟩
    have a6:∀ l,v0 ≠ .tup l:=fun l e=>by subst e;exact m.2.2.2
    unfold CR;split
    ·exact absurd rfl (a6 _)
    ·exact m
  ·rename_i W Y hz
   obtain ⟨m,m2,m3⟩:=main _ hz
   have ad:(results fn a.tmps).run P w = .ok (.tuple us.toArray) w:=by
    match us,m,f with
    | [],_,f=>exact f
    | _::_::_,_,f=>exact f
    | [u],m,_ =>
     have:=m.len
     match W,this,Y with
     | [z],_,Y=>exact (Y z rfl).elim
   refine ⟨_,_,.tup W,back,_,_,ad,A,rfl,⟨us.toArray,rfl,by simpa using m⟩,ar,m2,m3⟩
  ·cases A
 ·cases A
theorem qZ {w:World} {args:List SV} {vs:Array Value} {Rt Ra:Nat->Prop} {bs:List Nat} (f:Pre C.ty tab w args vs.toList Rt Ra bs) (fn:Func) (W:vars args<=64) :
  dd ⟨C.ty,w,fun b=>b∈bs,Rt,Ra,fun i=>(eL args vs.toList).getD i 0⟩ (entry fn args) { tmps:=vs++Array.replicate (fn.ntmps-vs.size) undef,defers:=[] } w:=by
 let E:Env:=⟨C.ty,w,fun b=>b∈bs,Rt,Ra,fun i=>(eL args vs.toList).getD i 0⟩
 have V:Rel E ⟨[],lY (vars args),64⟩ { tmps := #[],defers:=[] } w (fun t=>⟨undef,E.pb t,0,false⟩) Rt Ra:=by
  refine ⟨⟨fun t o m => ?_,fun t o m => ?_,fun t o m => ?_,fun t o X Y m _ _ => ?_,f.sub,f.rlt,Fr.refl _ w,fun _ h=>h,fun _ h=>h,fun b u => .inl u,Nat.le_refl _,fun _ _ _ _=>rfl⟩,rfl,rfl,fun i => ?_⟩
  ·obtain ⟨_,rfl⟩:=gR _ m;trivial
  ·have:=(gR _ m).1;show t<64;omega
  ·obtain ⟨_,rfl⟩:=gR _ m;intro b u;cases u
  ·obtain ⟨_,rfl⟩:=gR _ m;intro b u;cases u
  ·show S2 _ (e6 [] i) _;trivial
 obtain ⟨β,j,_,A⟩:=js (β := fun t=>⟨undef,E.pb t,0,false⟩) (fun _ h=>h) (fun _ h=>h) args vs.toList bs 0 V f.cat f.nd (fun z M=>⟨(f.no z M).2,(f.no z M).1,.inr M,fun t o m=>by
   obtain ⟨_,rfl⟩:=gR _ m;intro u;cases u⟩) (fun i _ O=>rB _ (by omega)) (fun i b u=>by
   show (eL args vs.toList).getD (0+i) 0=b
   rw [Nat.zero_add,List.getD_eq_getElem?_getD,u];rfl) (by omega)
 refine ⟨β,Rt,Ra,⟨⟨j.objs,j.lt,j.c9,j.apart,j.sub,j.rlt,j.fr,j.rt0,j.ra0,j.rt,j.nx,j.pin⟩,?_,rfl,fun i => ?_⟩⟩
 ·have:=A.len
  simp only [Array.length_toList] at this
  simp [entry,this]
 ·have U:=A.len
  simp only [Array.length_toList] at U
  show S2 _ (e6 (_++_) i) _
  rw [tk,List.getD_eq_getElem?_getD,Array.getD_eq_getD_getElem?]
  by_cases N:i<vs.size
  ·rw [List.getElem?_append_left (by omega),Array.getElem?_append_left N]
   have j:(fI ⟨[],lY (vars args),64⟩ 0 args).1[i]? = some ((fI ⟨[],lY (vars args),64⟩ 0 args).1[i]'(by omega)):=List.getElem?_eq_getElem _
   have O:vs.toList[i]? = some vs[i]:=by simp [N]
   rw [j,Array.getElem?_eq_getElem N]
   exact dy (A.get j O)
  ·rw [List.getElem?_append_right (by omega),Array.getElem?_append_right (by omega),List.getElem?_replicate,Array.getElem?_replicate]
   rw [U]
   split
   ·rfl
   ·trivial
theorem xK (hP:Ok P C.ty) (hD:∀ g,bM P C.ty tab g (C.call g)) {g:Nat} {fn:Func} (hf:P.funcs[g]? = some fn) (hname:(fn.name == "runtime.NumGoroutine")=false) {n fuel:Nat} {args:List SV} {κ : List SV->Option R} (hk:cr C fn n fuel args κ = some r)
  {w:World} {vs:Array Value} {Rt Ra:Nat->Prop} {bs:List Nat} (hpre:Pre C.ty tab w args vs.toList Rt Ra bs) :
  oq P g vs w fun v w'=>∃ res Rt' v0 back b1 b2,κ res=some r/\mK C.ty w args vs.toList Rt bs res v w' Rt' v0 back b1 b2:=by
 unfold cr at hk
 cases hb:fn.body with
 | none=>rw [hb] at hk;cases hk
 | some c =>
  rw [hb] at hk;simp only at hk
  obtain ⟨hn,hk⟩:=cX hk
  simp only [decide_eq_true_eq] at hn
  refine .inr ⟨enters hf hb hname vs w,fun cs => ?_⟩
  let E:Env:=⟨C.ty,w,fun b=>b∈bs,Rt,Ra,fun i=>(eL args vs.toList).getD i 0⟩
  have hE:dY C tab E:=⟨rfl,fun b ob hob=>⟨(hpre.tab b ob hob).1,(hpre.tab b ob hob).2,fun hin=>(hpre.no b hin).1 (hpre.sub b (hpre.tab b ob hob).2)⟩⟩
  have h0:=qZ hpre fn hn
  let b:Frame:={ (default:Frame) with fn:=g,kind := .normal }
  have henter:Frame.enter P g vs .normal=b.at { tmps:=vs++Array.replicate (fn.ntmps-vs.size) undef,defers:=[] } [.code c]:=by
   simp [Frame.enter,Frame.at,hf,hb,b]
  obtain ⟨s',a',w',todo,hret,⟨β,Rt',Ra',hrel⟩,hsteps⟩:=nt (b:=b) (cs:=cs) (ret:=qD C fn.results.toList (List.range (vars args)) κ) hP hE hD (fun todo s a w h hk=>pk hP hE hD n fuel todo s a w h hk) n _ _ _ _ h0 hk
  obtain ⟨v,res,v0,back,b1,b2,hrun,hkr,hres,hcr,hcb,hnd,hno⟩:=pZ hP rfl hrel (c0:=cc C.ty w Rt Ra) hpre.cat (fun i b hb=>by
   show (eL args vs.toList).getD i 0=b
   rw [List.getD_eq_getElem?_getD,hb];rfl) hn hret
  refine ⟨.returned v,w',_,⟨v,rfl,res,Rt',v0,back,b1,b2,hkr,hres,hrel.fr,hcr,hcb,hnd,fun z hz=>⟨fun hr=>(hno z hz).1 (hrel.sub z hr),(hno z hz).2.1,(hno z hz).2.2⟩,hrel.rt0,fun z hz=>⟨hrel.rlt z (hrel.sub z hz),hrel.rt z hz⟩⟩,by rw [henter];exact hsteps,rfl,rfl,hrel.defers,rfl,fn,hf,hrun⟩
end
end Go.Proofs.Ab
namespace Go.Proofs.Ab
open Go
variable {P:Program}
def Bv (P:Program) (g:TypeId->List LK->Bool):List Field->Nat->List LK->Bool
 | [],_,lv=>lv.isEmpty
 | f::fs,off,lv=>match P.info? f.type with
  | some i=>(f.name != "_")&&Nat.beq f.offset off&&Nat.ble i.size lv.length&&g f.type (lv.take i.size)&&Bv P g fs (off+i.size) (lv.drop i.size)
  | none=>false
def En (P:Program):Nat->TypeId->List LK->Bool
 | 0,_,_=>false
 | d+1,t,lv=>match P.underlying t with
  | some (.int k)=>decide (lv=[.int k])
  | some .bool=>decide (lv=[.bool])
  | some .string=>decide (lv=[.str])
  | some (.struct f) => !P.stoodInHeld t&&Bv P (En P d) f.toList 0 lv
  | _=>false
theorem jX:∀ (n:Nat) {lv:List LK} {l m:List SV} {b:Bool},dA lv l m=some b->∃ f j,dA (lv.take n) (l.take n) (m.take n)=some f/\dA (lv.drop n) (l.drop n) (m.drop n)=some j/\b=(f&&j)
 | 0,lv,l,m,b,h=>⟨true,b,rfl,by simpa using h,by simp⟩
 | n+1,[],[],[],b,h=>by simp only [dA] at h;cases h;exact ⟨true,true,rfl,rfl,rfl⟩
 | n+1,k::A,x::xs,y::M,b,h=>by
  simp only [dA] at h
  split at h
  ·rename_i a c u z
   cases h
   obtain ⟨f,j,g1,g2,rfl⟩:=jX n z
   refine ⟨a&&f,j,?_,by simpa using g2,by simp [Bool.and_assoc]⟩
   simp only [List.take_succ_cons,dA,u,g1]
  ·cases h
 | n+1,[],_::_,_,_,h=>by simp [dA] at h
 | n+1,[],[],_::_,_,h=>by simp [dA] at h
 | n+1,_::_,[],_,_,h=>by simp [dA] at h
 | n+1,_::_,_::_,[],_,h=>by simp [dA] at h
theorem gL:∀ {lv:List LK} {l m:List SV} {b:Bool},dA lv l m=some b->l.length=lv.length/\m.length=lv.length
 | [],[],[],_,_=>⟨rfl,rfl⟩
 | k::j,x::xs,y::u,b,h=>by
  simp only [dA] at h
  split at h
  ·rename_i z f;have:=gL f;simp [this.1,this.2]
  ·cases h
 | [],_::_,_,_,h=>by simp [dA] at h
 | [],[],_::_,_,h=>by simp [dA] at h
 | _::_,[],_,_,h=>by simp [dA] at h
 | _::_,_::_,[],_,h=>by simp [dA] at h
def jH (agg:Bool) (l:List SV) (v:Value):Prop :=
 if agg=true then ∃ xs:Array Value,v = .agg xs/\PW gh l xs.toList else PW gh l [v]
theorem pM {f:Field} {i:TypeInfo} {d:TypeDesc} (M:P.info? f.type=some i) (z:P.underlying f.type=some d) (N:jF d=false->i.size=1) {l:List SV} {xs:Array Value} {off:Nat} (O:f.offset=off) (m:PW gh l (xs.toList.drop off)) (U:i.size<=l.length) (w:World) :
  ∃ v,(part f.type xs f.offset).run P w = .ok v w/\jH (jF d) (l.take i.size) v:=by
 subst O
 cases u:jF d with
 | true =>
  refine ⟨.agg ((xs.toList.drop f.offset).take i.size).toArray,?_,?_⟩
  ·simp only [part,Sem.run_bind,jz z,u,Result.andThen_ok,if_true,mC M,Sem.run_pure]
   congr 2
   apply Array.ext'
   simp [List.take_drop,Nat.add_comm]
  ·unfold jH;rw [if_pos rfl]
   exact ⟨_,rfl,by simpa using m.take i.size⟩
 | false =>
  have V:=N u
  rw [V] at U ⊢
  have hlen:=m.len
  have j:f.offset<xs.size:=by
   rw [List.length_drop] at hlen;simp at hlen;omega
  refine ⟨xs[f.offset],?_,?_⟩
  ·have:xs[f.offset]? = some xs[f.offset]:=Array.getElem?_eq_getElem j
   simp [part,jz z,u,this]
  ·unfold jH;rw [if_neg (by simp)]
   have A:=m.take 1
   have:(xs.toList.drop f.offset).take 1=[xs[f.offset]]:=by
    rw [List.drop_eq_getElem_cons (by simpa using j)];simp
   rw [this] at A;exact A
theorem Dv:∀ (d:Nat) {t:TypeId} {lv:List LK},En P d t lv=true->∃ f,P.underlying t=some f/\(jF f=false->lv.length=1)
 | 0,_,_,h=>by cases h
 | d+1,t,lv,h=>by
  simp only [En] at h
  split at h
  ·rename_i e;exact ⟨_,e,fun _=>by simp at h;rw [h];rfl⟩
  ·rename_i e;exact ⟨_,e,fun _=>by simp at h;rw [h];rfl⟩
  ·rename_i e;exact ⟨_,e,fun _=>by simp at h;rw [h];rfl⟩
  ·rename_i e;exact ⟨_,e,fun h=>by cases h⟩
  ·cases h
theorem o4 (d D:Nat) (ih:∀ {t:TypeId} {lv:List LK},En P d t lv=true->∀ (w:World) (l m:List SV) (x y:Value) z b,P.underlying t=some z->jH (jF z) l x->jH (jF z) m y->dA lv l m=some b->(Op.equalIn D t x y).run P w = .ok b w) (xs U:Array Value) (w:World) :
  ∀ (N:List Field) (off:Nat) (lv:List LK),Bv P (En P d) N off lv=true->∀ (l m:List SV) b,PW gh l (xs.toList.drop off)->PW gh m (U.toList.drop off)->dA lv l m=some b->(Op.eqFields D xs U N).run P w = .ok b w
 | [],off,lv,h,l,m,b,_,_,A=>by
  simp only [Bv,List.isEmpty_iff] at h;subst h
  have:=gL A
  match l,m,this with
  | [],[],_=>cases A;rfl
 | f::N,off,lv,h,l,m,b,hl,hm,A=>by
  simp only [Bv] at h
  split at h
  ·rename_i i hi
   simp only [Bool.and_eq_true,bne_iff_ne,ne_eq] at h
   obtain ⟨⟨⟨⟨hn,O⟩,hs⟩,hg⟩,hr⟩:=h
   have O:=Nat.eq_of_beq_eq_true O
   have hs:=Nat.le_of_ble_eq_true hs
   have hlen:=gL A
   obtain ⟨b1,b2,g1,g2,rfl⟩:=jX i.size A
   obtain ⟨z,V,M⟩:=Dv d hg
   have j:jF z=false->i.size=1:=fun ha=>by have:=M ha;rw [List.length_take] at this;omega
   obtain ⟨u,W,X⟩:=pM hi V j O hl (by omega) w
   obtain ⟨v,Y,ad⟩:=pM hi V j O hm (by omega) w
   have he:=ih hg w _ _ u v z b1 V X ad g1
   simp only [Op.eqFields,hn,ne_eq,not_false_eq_true,if_true,Sem.run_bind,W,Y,he,Result.andThen_ok]
   cases b1 with
   | false=>simp
   | true =>
    simp only [Bool.not_true,Bool.false_eq_true,if_false,Bool.true_and]
    refine o4 d D ih xs U w N (off+i.size) _ hr _ _ b2 ?_ ?_ g2
    ·rw [<- List.drop_drop];exact hl.drop i.size
    ·rw [<- List.drop_drop];exact hm.drop i.size
  ·cases h
theorem rb:∀ (d:Nat) (k:Nat) {t:TypeId} {lv:List LK},En P d t lv=true->∀ (w:World) (l m:List SV) (x y:Value) N b,P.underlying t=some N->jH (jF N) l x->jH (jF N) m y->dA lv l m=some b->(Op.equalIn (d+k) t x y).run P w = .ok b w
 | 0,_,_,_,h=>by cases h
 | d+1,k,t,lv,h=>by
  intro w l m x y N b M f hm z
  simp only [En] at h
  rw [M] at h
  rw [show d+1+k=(d+k)+1 by omega]
  have basic:∀ k1,lv=[k1]->jF N=false->∃ x0 j,l=[x0]/\m=[j]/\py k1 x0 j=some b/\gh x0 x/\gh j y:=by
   intro k1 U ha
   subst U
   rw [ha] at f hm
   unfold jH at f hm;rw [if_neg (by simp)] at f hm
   have:=gL z
   match l,m,this,z,f,hm with
   | [x0],[j],_,z,f,hm =>
    simp only [dA] at z
    split at z
    ·rename_i a c h1 h2
     cases h2;cases z
     exact ⟨x0,j,rfl,rfl,by simpa using h1,f.1,hm.1⟩
    ·cases z
  split at h
  ·rename_i k1 e
   simp only [Option.some.injEq] at e;subst e
   obtain ⟨x0,j,rfl,rfl,u,A,hy⟩:=basic _ (by simpa using h) rfl
   cases x0 <;> cases j <;> simp only [py] at u <;> try (cases u;done)
   obtain ⟨O,V⟩:=bY u
   simp only [Bool.and_eq_true,decide_eq_true_eq] at O
   obtain ⟨rfl,rfl⟩:=O
   cases V
   simp only [gh] at A hy;subst A;subst hy
   exact run_equalIn_int w (d+k) t _ _ _ _ M
  ·rename_i e
   simp only [Option.some.injEq] at e;subst e
   obtain ⟨x0,j,rfl,rfl,u,A,hy⟩:=basic _ (by simpa using h) rfl
   cases x0 <;> cases j <;> simp only [py] at u <;> try (cases u;done)
   cases u
   simp only [gh] at A hy;subst A;subst hy
   exact run_equalIn_bool' w (d+k) t _ _ M
  ·rename_i e
   simp only [Option.some.injEq] at e;subst e
   obtain ⟨x0,j,rfl,rfl,u,A,hy⟩:=basic _ (by simpa using h) rfl
   cases x0 <;> cases j <;> simp only [py] at u <;> try (cases u;done)
   cases u
   simp only [gh] at A hy;subst A;subst hy
   rw [run_equalIn_string w (d+k) t _ _ M,qU]
  ·rename_i W e
   simp only [Option.some.injEq] at e;subst e
   simp only [Bool.and_eq_true,Bool.not_eq_true'] at h
   unfold jH at f hm;rw [if_pos (show jF (.struct W)=true from rfl)] at f hm
   obtain ⟨xs,rfl,f⟩:=f
   obtain ⟨X,rfl,hm⟩:=hm
   have Y:P.fieldsOf t=W:=by unfold Program.fieldsOf;rw [M]
   rw [run_equalIn_agg w (d+k) t xs X (by rw [Y];exact M) h.1,Y]
   exact o4 d (d+k) (fun {t lv} h=>rb d k h) xs X w W.toList 0 lv h.2 l m b (by simpa using f) (by simpa using hm) z
  ·cases h
def C0:LK->Value->Bool
 | .int k,.int f n=>decide (k=f)&&decide (n=0)
 | .bool,.bool b => !b
 | .str,.string s=>decide (s=⟨#[]⟩)
 | .sl _,.slice none 0 0=>true
 | .ptr,.pointer none=>true
 | .fn,.nilFunc=>true
 | .nos,.pointer none=>true
 | .ifc,.nilIface=>true
 | .oth,_=>true
 | .mp _ _,_=>true
 | _,_=>false
def oA:List LK->List Value->Bool
 | [],[]=>true
 | k::f,v::vs=>C0 k v&&oA f vs
 | _,_=>false
theorem kO:∀ {j:List LK} {vs:List Value},oA j vs=true->PW zeroV j vs
 | [],[],_=>trivial
 | k::j,v::vs,h=>by
  simp only [oA,Bool.and_eq_true] at h
  refine ⟨?_,kO h.2⟩
  have f:=h.1
  unfold C0 at f
  split at f <;> first
   | (simp only [Bool.and_eq_true,decide_eq_true_eq] at f;obtain ⟨rfl,rfl⟩:=f;rfl)
   | (simp at f;subst f;rfl)
   | rfl
   | trivial
   | cases f
 | [],_::_,h=>by cases h
 | _::_,[],h=>by cases h
def BT:Value->Bool
 | .agg _=>true
 | _=>false
def uG (P:Program) (sz:Nat) (p:Nat × Nat × Bool) (F:Field):Bool :=
 Nat.beq F.offset p.1&&Nat.ble (p.1+p.2.1) sz&&(match P.info? F.type,P.underlying F.type with
  | some i,some d=>Nat.beq i.size p.2.1&&(jF d == p.2.2)
  | _,_=>false)
def lT (P:Program) (sz:Nat):List (Nat × Nat × Bool)->List Field->Bool
 | [],[]=>true
 | p::ps,F::f=>uG P sz p F&&lT P sz ps f
 | _,_=>false
theorem jR {sz:Nat}:∀ {ps:List (Nat × Nat × Bool)} {m:List Field},lT P sz ps m=true->PW (tg P sz) ps m
 | [],[],_=>trivial
 | p::ps,F::m,h=>by
  simp only [lT,Bool.and_eq_true] at h
  refine ⟨?_,jR h.2⟩
  have f:=h.1
  unfold uG at f
  simp only [Bool.and_eq_true] at f
  obtain ⟨⟨f,u⟩,j⟩:=f
  split at j
  ·rename_i i d z A
   simp only [Bool.and_eq_true,beq_iff_eq] at j
   exact ⟨Nat.eq_of_beq_eq_true f,Nat.le_of_ble_eq_true u,i,d,z,Nat.eq_of_beq_eq_true j.1,A,j.2⟩
  ·cases j
 | [],_::_,h=>by cases h
 | _::_,[],h=>by cases h
def rD (e:Nat):TypeDesc->Bool
 | .slice f=>Nat.beq e f
 | _=>false
def yt (k:IntKind):TypeDesc->Bool
 | .int f=>decide (k=f)
 | _=>false
def yq:TypeDesc->Bool
 | .bool=>true
 | _=>false
def yu (k e:Nat):TypeDesc->Bool
 | .map f j=>Nat.beq k f&&Nat.beq e j
 | _=>false
def B0:TypeDesc->Bool
 | .string=>true
 | _=>false
def Cb (d:TypeDesc):List LK->Bool
 | [.int k]=>yt k d
 | [.bool]=>yq d
 | [.str]=>B0 d
 | [.mp k e]=>yu k e d
 | _=>true
def yy (e:Nat):TypeDesc->Bool
 | .pointer f=>Nat.beq e f
 | _=>false
def EE (f:TI) (d:TypeDesc):Bool :=
 match f.lv with
 | [.ptr]=>f.agg||Nat.beq f.elem 0||yy f.elem d
 | _=>true
def qi (P:Program) (f:TI):TypeDesc->Bool
 | .struct j=>lT P f.sz f.flds j.toList
 | _=>false
def Ek (P:Program) (f:TI):TypeDesc->Bool
 | .array n e=>Nat.beq e f.elem&&(match P.info? f.elem with
  | some i=>Nat.beq (n*i.size) f.sz
  | none=>false)
 | _=>false
def ud (P:Program) (t:Nat) (f:TI):Bool :=
 match P.underlying t,P.info? t with
 | some d,some i=>(jF d == f.agg)&&Nat.beq i.size f.sz&&Nat.beq i.bytes f.bytes &&
   (match i.zero with
    | some z=>oA f.lv z.cells.toList&&(BT z == f.agg)
    | none=>false)&&Nat.ble 1 f.sz&&Nat.ble 1 f.bytes &&
   (!f.sl||rD f.elem d)&&(f.agg||Cb d f.lv)&&EE f d&&(f.flds.isEmpty||qi P f d) &&
   (!(f.agg&&(f.flds.isEmpty && !(Nat.beq f.elem 0)))||Ek P f d)&&(!f.eqs||(f.agg && !P.eqGuardType P.depth t&&En P 20 t f.lv))
 | _,_=>false
theorem qG {t:Nat} {W:TI} (h:ud P t W=true):TyOk P t W:=by
 unfold ud at h
 split at h
 ·rename_i d i A hi
  simp only [Bool.and_eq_true] at h
  obtain ⟨⟨⟨⟨⟨⟨⟨⟨⟨⟨⟨h1,h2⟩,h3⟩,Y⟩,h5⟩,h6⟩,X⟩,f⟩,M⟩,O⟩,U⟩,V⟩:=h
  have h1:jF d=W.agg:=by simpa using h1
  split at Y
  ·rename_i z N
   simp only [Bool.and_eq_true,beq_iff_eq] at Y
   refine ⟨⟨d,A,h1⟩,⟨i,z,hi,Nat.eq_of_beq_eq_true h2,Nat.eq_of_beq_eq_true h3,N,kO Y.1,?_⟩,Nat.le_of_ble_eq_true h5,Nat.le_of_ble_eq_true h6,fun hs => ?_,fun k j u => ?_,fun j u => ?_,fun j u => ?_,fun k e j u => ?_,fun j u N => ?_,fun j hf N => ?_,fun hf => ?_,fun he => ?_⟩
   ·rw [<- Y.2];unfold BT
    constructor
    ·rintro ⟨cs,rfl⟩;rfl
    ·intro N;split at N
     ·exact ⟨_,rfl⟩
     ·cases N
   ·rw [hs] at X;simp only [Bool.not_true,Bool.false_or] at X
    unfold rD at X;split at X
    ·rw [A,Nat.eq_of_beq_eq_true X]
    ·cases X
   ·rw [j,u] at f;simp only [Bool.false_or,Cb] at f
    unfold yt at f;split at f
    ·simp only [decide_eq_true_eq] at f;rw [A,f]
    ·cases f
   ·rw [j,u] at f;simp only [Bool.false_or,Cb] at f
    unfold yq at f;split at f
    ·exact A
    ·cases f
   ·rw [j,u] at f;simp only [Bool.false_or,Cb] at f
    unfold B0 at f;split at f
    ·exact A
    ·cases f
   ·rw [j,u] at f;simp only [Bool.false_or,Cb] at f
    unfold yu at f;split at f
    ·simp only [Bool.and_eq_true] at f
     rw [A,Nat.eq_of_beq_eq_true f.1,Nat.eq_of_beq_eq_true f.2]
    ·cases f
   ·unfold EE at M
    rw [u] at M
    simp only [j,Bool.false_or,Bool.or_eq_true] at M
    have M:=M.resolve_left fun e=>N (Nat.eq_of_beq_eq_true e)
    unfold yy at M;split at M
    ·rw [A,Nat.eq_of_beq_eq_true M]
    ·cases M
   ·have ae:Nat.beq W.elem 0=false:=by
     cases h:Nat.beq W.elem 0 with
     | false=>rfl
     | true=>exact absurd (Nat.eq_of_beq_eq_true h) N
    rw [j,hf,ae] at U
    simp only [List.isEmpty_nil,Bool.not_false,Bool.and_self,Bool.not_true,Bool.false_or] at U
    unfold Ek at U;split at U
    ·rename_i n e _
     rw [Bool.and_eq_true] at U
     obtain ⟨q1,q2⟩:=U
     have ap:=Nat.eq_of_beq_eq_true q1
     split at q2
     ·rename_i i hi
      exact ⟨n,i,by rw [<- ap];exact A,hi,Nat.eq_of_beq_eq_true q2⟩
     ·cases q2
    ·cases U
   ·have O:qi P W d=true:=by
     rw [Bool.or_eq_true] at O
     exact O.resolve_left fun e=>hf (List.isEmpty_iff.1 e)
    unfold qi at O;split at O
    ·exact ⟨_,A,jR O⟩
    ·cases O
   ·rw [he] at V;simp only [Bool.not_true,Bool.false_or,Bool.and_eq_true,Bool.not_eq_true'] at V
    obtain ⟨⟨j,hg⟩,hq⟩:=V
    refine ⟨hg,fun w l m xs ys b u hm hb => ?_⟩
    have ad:jF d=true:=by rw [h1,j]
    exact rb 20 9980 hq w l m _ _ d b A (by unfold jH;rw [if_pos ad];exact ⟨xs,rfl,u⟩) (by unfold jH;rw [if_pos ad];exact ⟨ys,rfl,hm⟩) hb
  ·cases Y
 ·cases h
def af (l:List (Option TI)) (t:Nat):Option TI:=(l[t]?).getD none
def jk (P:Program):Nat->List (Option TI)->Bool
 | _,[]=>true
 | t,none::r=>jk P (t+1) r
 | t,some f::r=>ud P t f&&jk P (t+1) r
theorem ik:∀ {l:List (Option TI)} {t0:Nat},jk P t0 l=true->∀ (i:Nat) f,(l[i]?).getD none=some f->TyOk P (t0+i) f
 | [],_,_,i,f,h=>by simp at h
 | none::r,t0,j,i,f,h=>by
  cases i with
  | zero=>simp at h
  | succ i =>
   have:=ik (t0:=t0+1) j i f (by simpa using h)
   rw [show t0+(i+1)=t0+1+i by omega];exact this
 | some x::r,t0,j,i,f,h=>by
  simp only [jk,Bool.and_eq_true] at j
  cases i with
  | zero=>simp at h;subst h;exact qG j.1
  | succ i =>
   have:=ik (t0:=t0+1) j.2 i f (by simpa using h)
   rw [show t0+(i+1)=t0+1+i by omega];exact this
theorem GN {l:List (Option TI)} (h:jk P 0 l=true) (hm:P.follows .mixedOrders=true):Ok P (af l) :=
 ⟨fun t f j=>by have:=ik h t f j;rwa [Nat.zero_add] at this,hm⟩
end Go.Proofs.Ab
namespace Go.Proofs.Ab
open Go
def ag:Nat:=4611686018427387904
def aa {R:Type} (P:Program) (T:Nat->Option TI) (tab:bZ) (g:FuncId) (args:List SV) (κ : List SV->Option R) (o:Option R):Prop :=
 ∀ r,o=some r->∀ (w:World) (vs:Array Value) (Rt Ra:Nat->Prop) (bs:List Nat),Pre T tab w args vs.toList Rt Ra bs ->
  oq P g vs w fun v w'=>∃ res Rt' v0 back f j,κ res=some r/\mK T w args vs.toList Rt bs res v w' Rt' v0 back f j
theorem aa.none {R:Type} {P:Program} {T:Nat->Option TI} {tab:bZ} {g:FuncId} {args:List SV} {κ : List SV->Option R}:aa P T tab g args κ none:=by
 intro r h;cases h
theorem aF {R:Type} {P:Program} {T:Nat->Option TI} {tab:bZ} {g:FuncId} {sp:List SV->(List SV->Option R)->Option R} (h:∀ xs κ,aa P T tab g xs κ (sp xs κ)):bM P T tab g sp :=
 fun args κ r f w vs Rt Ra bs j=>h args κ r f w vs Rt Ra bs j
theorem xT {c:Cx}:∀ {args:List SV} {vs:List Value},args.length=vs.length->(∀ x∈args,∀ ty l,x ≠ .vp ty l)->CB c args vs [] []
 | [],[],_,_=>⟨rfl,rfl⟩
 | x::r,v::vs,f,j=>by
  rw [qJ c (j x (by simp))]
  exact xT (by simpa using f) fun y hy=>j y (by simp [hy])
 | [],_::_,f,_=>by simp at f
 | _::_,[],f,_=>by simp at f
theorem mK.plain {T:Nat->Option TI} {tab:bZ} {w:World} {args:List SV} {vs:List Value} {Rt Ra:Nat->Prop} {bs:List Nat} {x:SV} {v:Value} (f:Pre T tab w args vs Rt Ra bs) (m:∀ x∈args,∀ ty l,x ≠ .vp ty l)
  (u:CR (cc T w Rt Rt) x v []):mK T w args vs Rt bs [x] v w Rt x [] [] [] :=
 ⟨rfl,Fr.refl _ w,u,xT f.cat.len m,by simp,fun b j=>by simp at j,fun _ h=>h,fun b j=>⟨f.rlt b (f.sub b j),.inl j⟩⟩
theorem sV {c:Cx} {a:ByteArray} {v:Value} {bs:List Nat} (h:CV c (.str a) v bs):v = .string a:=h.2.2.2
theorem Dc {c:Cx} {k:IntKind} {n:Int} {v:Value} {bs:List Nat} (h:CV c (.int k n) v bs):v = .int k n:=h.2.2.2
theorem yW {c:Cx} {k:IntKind} {n:Int}:CR c (.int k n) (.int k n) []:=⟨rfl,rfl,by simp,rfl⟩
theorem jV {R:Type} {P:Program} {T:Nat->Option TI} {tab:bZ} {g:FuncId} {fn:Func} (hf:P.funcs[g]? = some fn) (hname:(fn.name == "runtime.NumGoroutine")=false) (hb:fn.body.isNone=true)
  (hn:Extern.findNext fn=none) (he:Extern.find fn=some Extern.BytealgIndexByte.indexByte) (a0:ByteArray) (a1:Int) (κ : List SV->Option R) :
  aa P T tab g [.str a0,.int .u8 a1] κ (κ [.int .i64 (Lib.indexByte a0.data.toList a1.toNat.toUInt8)]):=by
 intro r h w vs Rt Ra bs hpre
 have hargs:vs = #[.string a0,.int .u8 a1]:=by
  have hc:=hpre.cat
  apply Array.ext'
  match h2:vs.toList,hc with
  | [v0,v1],⟨_,_,_,h0,_,_,_,h1,_⟩=>rw [sV h0,Dc h1]
  | [],hc=>exact hc.elim
  | [_],⟨_,_,_,_,hc⟩=>exact hc.elim
  | _::_::_::_,⟨_,_,_,_,_,_,_,_,hc⟩=>exact hc.elim
 subst hargs
 refine .inl ⟨_,w,?_,_,Rt,_,[],[],[],h,mK.plain hpre (by simp) yW⟩
 rw [run_callFunc_extern hf hname hb hn he,Lib.run_indexByteString];rfl
end Go.Proofs.Ab
namespace Go.Proofs.Ab
open Go
theorem qx (w:World) (b:Nat) (cs:Array Value) (t:Nat) (f:Nat × Nat) (v:Value) (h:w.heap[b]? = some (.cells cs t f)):(w.setCell ⟨b,0,none⟩ v).heap[b]? = some (.cells (cs.setIfInBounds 0 v) t f):=by
 unfold World.setCell
 simp [Array.getElem?_modify,h]
theorem kX (w:World) (b:Nat) (v:Value):Fr (fun x=>x=b) w (w.setCell ⟨b,0,none⟩ v):=by
 unfold World.setCell
 refine ⟨rfl,rfl,rfl,by simp,fun x _ f => ?_⟩
 simp only [Array.getElem?_modify]
 rw [if_neg (fun e=>f e.symm)]
inductive F':SV->Prop where
 | nil:F' .nil
 | fr (e:Nat) (l:List AV):F' (.fr e l true)
theorem F'.move {T:Nat->Option TI} {w w':World} {Rt Ra:Nat->Prop} {X:SV} (u:F' X) {v:Value} {bs:List Nat} (h:CL (cc T w Rt Ra) X v bs) (z:∀ b∈bs,w'.heap[b]? = w.heap[b]?) (A:∀ b,Rt b->w'.heap[b]? = w.heap[b]?):CL (cc T w' Rt Rt) X v bs:=by
 cases u with
 | nil=>exact ⟨h.1,rfl,by simp,h.2.2.2⟩
 | fr e l =>
  obtain ⟨D,cs,M,N,O,m⟩:=h
  refine ⟨D,cs,M,jw N (fun b j=>z b (by rw [m,j];simp)),O.mono (fun b f => ?_) (fun b f => ?_),m⟩
  ·unfold Cx.Q at f ⊢;rw [if_pos rfl] at f ⊢;exact f
  ·unfold Cx.Q at f;rw [if_pos rfl] at f;exact A b f
theorem oW {R:Type} {P:Program} {T:Nat->Option TI} {tab:bZ} {g tb:Nat} (a1:∀ vs w,(callFunc g vs).run P w = .ok (.enter g vs) w)
  (hu:∀ b w,w.cell? ⟨b,0,none⟩=some (.pointer (some ⟨b,0,none⟩))->Calls P g #[.pointer (some ⟨b,0,none⟩)] w fun e w'=>e = .returned (.tuple #[])/\w'=w)
  (hf:∀ b w,w.cell? ⟨b,0,none⟩=some (.pointer none)->w.shape? b=some (tb,2)->w.frozen? ⟨b,0,none⟩=false->Calls P g #[.pointer (some ⟨b,0,none⟩)] w fun e w'=>e = .returned (.tuple #[])/\w'=w.setCell ⟨b,0,none⟩ (.pointer (some ⟨b,0,none⟩)))
  {X:SV} (hX:F' X) (κ : List SV->Option R):aa P T tab g [.vp tb [.nos,X]] κ (κ [.tup [],.vp tb [.nos,X]]):=by
 intro r h w vs Rt Ra bs f
 have A:=f.cat
 match a6:vs.toList,A with
 | [v],⟨bS,_,W,⟨b,cs,_,u,hv,U,Y,ad⟩,M⟩ =>
  have M:_=[]:=M
  subst M
  rw [List.append_nil] at W
  subst W
  subst ad
  have a7:vs = #[.pointer (some ⟨b,0,none⟩)]:=by apply Array.ext';rw [a6,hv]
  subst a7
  match a8:cs.toList,Y with
  | [c0,c1],⟨b1,b2,ae,⟨bb,h0⟩,b3,b4,ap,h1,V⟩ =>
   subst bb
   have V:b4=[]:=V
   subst V
   rw [List.append_nil] at ap
   subst ap
   simp only [List.nil_append] at ae
   subst ae
   have h1:CL (cc T w Rt Ra) X c1 u:=by
    unfold AJ at h1;split at h1
    ·cases hX
    ·exact h1
   have ar:cs = #[c0,c1]:=by apply Array.ext';simpa using a8
   subst ar
   have j:w.heap[b]? = some (.cells #[c0,c1] tb (0,0)):=U
   have be:¬ Ra b/\b<w.heap.size:=f.no b (by simp)
   have ax:=f.nd
   rw [List.nodup_cons] at ax
   have N:w.cell? ⟨b,0,none⟩=some c0:=by rw [cell_of_row w b 0 _ tb (0,0) j];rfl
   have mk:∀ w',Fr (fun x=>x=b) w w'->(∃ d0,w'.heap[b]? = some (.cells #[d0,c1] tb (0,0))/\(d0 = .pointer none∨d0 = .pointer (some ⟨b,0,none⟩))) ->
     mK T w [.vp tb [.nos,X]] [.pointer (some ⟨b,0,none⟩)] Rt (b::u) [.tup [],.vp tb [.nos,X]] (.tuple #[]) w' Rt (.tup []) [.vp tb [.nos,X]] [] (b::u):=by
    rintro w' m ⟨d0,hd,bk⟩
    refine ⟨rfl,⟨m.os,m.tape,m.output,m.size,fun x hx hn=>m.block x hx fun e=>hn (by rw [e];simp)⟩,⟨#[],rfl,rfl⟩,?_,by simpa using f.nd,fun z O => ?_,fun _ h=>h,fun z O=>⟨Nat.lt_of_lt_of_le (f.rlt z (f.sub z O)) m.size,.inl O⟩⟩
    ·refine ⟨b,#[d0,c1],(),u,[],rfl,hd,⟨[],u,rfl,⟨rfl,bk⟩,u,[],by simp,oB (hX.move h1 (fun z O => ?_) (fun z O => ?_)) b,rfl⟩,by simp,rfl,rfl⟩
     ·exact m.block z (f.no z (by simp [O])).2 fun e=>by subst e;exact ax.1 O
     ·exact m.block z (f.rlt z (f.sub z O)) fun e=>by subst e;exact be.1 (f.sub z O)
    ·have:=f.no z (by simpa using O)
     exact ⟨fun hr=>this.1 (f.sub z hr),Nat.lt_of_lt_of_le this.2 m.size,.inr (by simpa using O)⟩
   refine .inr ⟨a1 _ _,?_⟩
   rcases h0 with rfl|rfl
   ·have bx:w.shape? b=some (tb,2):=by unfold World.shape?;rw [j];rfl
    have bP:w.frozen? ⟨b,0,none⟩=false:=by unfold World.frozen?;rw [show (⟨b,0,none⟩:Addr).block=b from rfl,j];simp
    refine (hf b w N bx bP).mono ?_
    rintro e w' ⟨rfl,rfl⟩
    exact ⟨_,rfl,_,Rt,_,_,_,_,h,hv▸mk _ (kX w b _) ⟨_,by rw [qx w b _ tb (0,0) _ j];rfl,.inr rfl⟩⟩
   ·refine (hu b w N).mono ?_
    rintro e w' ⟨rfl,rfl⟩
    exact ⟨_,rfl,_,Rt,_,_,_,_,h,hv▸mk _ (Fr.refl _ _) ⟨_,j,.inr rfl⟩⟩
  | [],A=>exact A.elim
  | [_],⟨_,_,_,_,A⟩=>exact A.elim
  | _::_::_::_,⟨_,_,_,_,_,_,_,_,A⟩=>exact A.elim
 | [],A=>exact A.elim
 | _::_::_,⟨_,_,_,_,A⟩=>exact A.elim
end Go.Proofs.Ab
namespace Go.Proofs.Ab
open Go
variable {R:Type} {P:Program} {T:Nat->Option TI} {tab:bZ} {g:FuncId}
theorem Bg {args:List SV} {κ : List SV->Option R} {b:Bool} {o:Option R} (h:b=true->aa P T tab g args κ o):aa P T tab g args κ (bF b o):=by
 cases b with
 | false=>exact aa.none
 | true=>exact h rfl
theorem CO {w:World} {b t:Nat} {v:Value} {cs:Array Value} {f:Nat × Nat} (j:cs[0]? = some v) (h:w.heap[b]? = some (.cells cs t f)):w.cell? ⟨b,0,none⟩=some v:=by
 rw [cell_of_row w b 0 _ t f h];exact j
theorem xz (j:∀ vs w,(callFunc g vs).run P w = .ok (.enter g vs) w) {args:List SV} {vals:Array Value} (m:∀ x∈args,∀ ty l,x ≠ .vp ty l)
  (u:∀ (w:World) (vs:Array Value) (Rt Ra:Nat->Prop) (bs:List Nat),Pre T tab w args vs.toList Rt Ra bs->vs=vals) (x:SV) {v:Value}
  (z:∀ w:World,(∀ b ob,tab b=some ob->w.heap[b]? = some ob)->Calls P g vals w fun e w'=>e = .returned v/\w'=w) (A:∀ c,CR c x v []) (κ : List SV->Option R):aa P T tab g args κ (κ [x]):=by
 intro r h w vs Rt Ra bs f
 obtain rfl:=u w vs Rt Ra bs f
 refine .inr ⟨j _ _,(z w fun b ob M=>(f.tab b ob M).1).mono ?_⟩
 rintro e w' ⟨rfl,rfl⟩
 exact ⟨_,rfl,_,Rt,_,[],[],[],h,mK.plain f m (A _)⟩
theorem xP (m:∀ vs w,(callFunc g vs).run P w = .ok (.enter g vs) w) (a0 a1:ByteArray) (x:SV) {v:Value}
  (f:∀ w:World,(∀ b ob,tab b=some ob->w.heap[b]? = some ob)->Calls P g #[.string a0,.string a1] w fun e w'=>e = .returned v/\w'=w) (u:∀ c,CR c x v []) (κ : List SV->Option R):aa P T tab g [.str a0,.str a1] κ (κ [x]):=by
 refine xz m (by simp) (fun w vs Rt Ra bs j => ?_) x f u κ
 have f:=j.cat
 apply Array.ext'
 match M:vs.toList,f with
 | [v0,v1],⟨_,_,_,z,_,_,_,A,_⟩=>rw [sV z,sV A]
 | [],f=>exact f.elim
 | [_],⟨_,_,_,_,f⟩=>exact f.elim
 | _::_::_::_,⟨_,_,_,_,_,_,_,_,f⟩=>exact f.elim
end Go.Proofs.Ab
namespace Go.Proofs.Ab
open Go Go.RowKit
def va (w:World) (b:Nat) (cs:Array Value):World :=
 { w with heap:=w.heap.modify b fun
   | .cells _ t f => .cells cs t f
   | o=>o }
def Da:List SV->Option Bool
 | [.bool b]=>some b
 | _=>none
theorem zo {l:List SV} (h:Da l=some true):l=[.bool true]:=by
 unfold Da at h;split at h
 ·cases h;rfl
 ·cases h
theorem Ad {P:Program} {T:Nat->Option TI} {tab:bZ} {g:FuncId} {args:List SV} {vals:Array Value} {o:Option Bool} (m:∀ vs w,(callFunc g vs).run P w = .ok (.enter g vs) w)
  (O:aa P T tab g args Da o) (U:o=some true) {W:World} {Rt Ra:Nat->Prop} (j:Pre T tab W args vals.toList Rt Ra []):Calls P g vals W fun e V=>e = .returned (.bool true)/\Below W.heap.size W V:=by
 rcases O true U W vals Rt Ra [] j with ⟨v,w',M,_⟩|⟨_,X⟩
 ·rw [m] at M;cases M
 ·refine X.mono ?_
  rintro e w' ⟨v,rfl,res,Rt',v0,back,b1,b2,u,f⟩
  have Y:=zo u
  have z:=f.res
  rw [Y] at z
  have A:v0 = .bool true:=by cases back <;> simp at z;exact z.symm
  have N:=f.r
  rw [A] at N
  have h4:v = .bool true:=N.2.2.2
  subst h4
  exact ⟨rfl,f.fr.os,f.fr.tape,f.fr.output,f.fr.size,fun k u=>f.fr.block k u (by simp)⟩
def CN (W:World):bZ:=fun b=>if b=0 then W.heap[0]? else none
theorem HD {T:Nat->Option TI} {W:World} {args:List SV} {vals:List Value} {Ra:Nat->Prop} (j:jB (CV (cc T W (fun b=>b=0) Ra)) args vals []) (z:0<W.heap.size) (m:∀ b,Ra b->b<W.heap.size) (u:Ra 0):Pre T (CN W) W args vals (fun b=>b=0) Ra []:=by
 refine ⟨j,by simp,by simp,fun b f=>by rw [f];exact u,m,fun b ob f => ?_⟩
 unfold CN at f
 split at f
 ·rename_i e;subst e;exact ⟨f,rfl⟩
 ·cases f
theorem D9 {W:World} {m:Int} (h:W.cell? ⟨0,0,none⟩=some (.int .i64 m)):∃ m cs t f,CN W 0=some (.cells cs t f)/\cs[0]? = some (.int .i64 m):=by
 unfold World.cell? at h
 split at h
 ·rename_i cs t f j
  have u:cs[0]? = some (.int .i64 m):=by simpa using h
  exact ⟨m,cs,t,f,by unfold CN;rw [if_pos rfl];exact j,u⟩
 ·cases h
theorem yZ {W:World} {m:Int} (h:W.cell? ⟨0,0,none⟩=some (.int .i64 m)):0<W.heap.size:=by
 unfold World.cell? at h
 split at h
 ·rename_i cs t j f;exact (Array.getElem?_eq_some_iff.1 f).1
 ·cases h
end Go.Proofs.Ab
namespace Go.Proofs.Ab
open Go Go.RowKit
variable {H:Type} {enc:TypeId × Value->H} {P:Program} {w w':World} {sp:Nat->Bool} {held:Bool}
end Go.Proofs.Ab
namespace Go.Proofs.Ab
open Go Go.RowKit
variable {H:Type} {enc:TypeId × Value->H} {P:Program} {w w':World} {sp:Nat->Bool} {held:Bool}
inductive Fit (N:Nat):AV->Prop
 | no:Fit N .no
 | int (n:Int):Fit N (.int n)
 | bool (b:Bool):Fit N (.bool b)
 | str (s:ByteArray):s.size<=N->Fit N (.str s)
 | sl (l:List AV):(∀ a∈l,Fit N a)->Fit N (.sl l)
 | agg (l:List AV):(∀ a∈l,Fit N a)->Fit N (.agg l)
theorem Fit.s {N:Nat} {a:AV} (h:Fit N a):a.s.size<=N:=by cases h <;> first|assumption|exact Nat.zero_le _
theorem Fit.l {N:Nat} {a:AV} (h:Fit N a):∀ b∈a.l,Fit N b:=by
 cases h with
 | sl l h=>exact h
 | agg l h=>intro b f;cases f
 | _=>intro b f;cases f
theorem Fit.fld {N:Nat} {a:AV} (h:Fit N a) (j:Nat):Fit N (a.fld j):=by
 cases h with
 | agg l h =>
  show Fit N (l.getD j .no)
  rw [List.getD_eq_getElem?_getD]
  cases e:l[j]? with
  | none=>exact .no
  | some b=>exact h b (List.mem_of_getElem? e)
 | _=>exact .no
end Go.Proofs.Ab
namespace Go.Proofs.Ab
open Go Go.RowKit
variable {R:Type}
section
variable {P:Program} {ops:Array Oper} {Qn:Act->World->Prop}
def Qd (Qn:Act->World->Prop):Exit->Act->World->Prop:=fun e a w=>e = .normal/\Qn a w/\a.defers=[]
theorem sQ:¬ LetsOut (Qd Qn):=fun ⟨_,_,h,_⟩=>by cases h
theorem ec (a:Act) (d:Option Nat) (v:Value):(a.put d v).defers=a.defers:=by cases d <;> rfl
theorem n0:∀ (l:List Nat) (a:Act) (w:World),wpOps P ops (Qd Qn) l a w->a.defers=[]
 | [],a,w,h=>h.2.2
 | i::l,a,w,h=>by
  have m:=fun a w=>n0 l a w
  simp only [wpOps] at h
  split at h
  ·exact m _ _ h
  ·rename_i o z
   split at h
   ·rcases h with h|h
    ·unfold Oper.wp at h
     cases j:(execOp a.eval o).run P w with
     | ok x w' =>
      rw [j] at h
      cases x <;> simp only [Oper.upon] at h
      case value v=>have:=m _ _ h;rwa [ec] at this
      case skip=>have:=m _ _ h;rwa [ec] at this
      case defer d=>have:=m _ _ h;rw [ec] at this;cases this
      case enter f args =>
       obtain ⟨e,w',fr,u,_⟩:=h []
       cases e with
       | returned v=>have:=m _ _ u;rwa [ec] at this
       | panicked c=>exact absurd u.1 (by simp)
       | outgrown=>exact absurd u sQ
      case row row args =>
       obtain ⟨v,w',u,_⟩:=h default []
       have:=m _ _ u;rwa [ec] at this
     | halt x w' =>
      rw [j] at h
      cases x <;> simp only [Oper.upon] at h
      all_goals exact absurd h.1 (by simp)
    ·exact absurd h.2 sQ
   ·have:=m _ _ h;rwa [ec] at this
def Kp (ds:List Nat) (a0 a:Act):Prop:=a.tmps.size=a0.tmps.size/\∀ i,i ∉ ds->a.tmps.getD i undef=a0.tmps.getD i undef
theorem Kp.refl (ds:List Nat) (a:Act):Kp ds a a:=⟨rfl,fun _ _=>rfl⟩
theorem Kp.put {ds:List Nat} {a0 a:Act} (h:Kp ds a0 a) {d:Option Nat} (m:∀ i,d=some i->i∈ds) (v:Value):Kp ds a0 (a.put d v):=by
 cases d with
 | none=>exact h
 | some k =>
  refine ⟨by show (a.tmps.setIfInBounds k v).size=_;rw [Array.size_setIfInBounds];exact h.1,fun i j => ?_⟩
  have f:k≠i:=fun e=>j (e▸m k rfl)
  show (a.tmps.setIfInBounds k v).getD i undef=_
  rw [<- h.2 i j]
  simp only [Array.getD_eq_getD_getElem?,Array.getElem?_setIfInBounds]
  rw [if_neg f]
theorem Cn {F:Fence} {n:Nat} (N:∀ f,F.fn f) (X:F.depth=none) (Y:∀ {n f args w} {R:Ending->World->Prop},Calls P f args w R->CallsIn F n P f args w R) (z:∀ {n row args w} {R:Value->World->Prop},Rows P row args w R->RowsIn F n P row args w R)
  (U:∀ o∈ops.toList,∀ c,o.op ≠ .defer c) (d:List Deferred) {ds:List Nat} (u:∀ o∈ops.toList,∀ i,o.dst=some i->i∈ds) {a0:Act}:∀ (l:List Nat) (a:Act) (w:World),Kp ds a0 a->wpOps P ops (Qd Qn) l a w ->
  wpOpsIn F n P ops (fun e a' w'=>e = .normal/\Qn { a' with defers:=[] } w'/\a'.defers=d/\Kp ds a0 a') l { a with defers:=d } w
 | [],a,w,A,h=>by
  obtain ⟨h1,h2,h3⟩:=h
  refine ⟨rfl,?_,rfl,A⟩
  have:({ ({ a with defers:=d }:Act) with defers:=[] }:Act)=a:=by cases a;simp only at h3;rw [h3]
  rw [this];exact h2
 | i::l,a,w,A,h=>by
  have O:=fun a w=>Cn (n:=n) N X Y z U d u (a0:=a0) l a w
  have m:∀ (a:Act) (o:Option Nat) (v:Value),({ a with defers:=d }:Act).put o v={ a.put o v with defers:=d }:=fun a o v=>by cases o <;> rfl
  simp only [wpOps] at h
  simp only [wpOpsIn]
  split at h
  ·rename_i W;rw [W];exact O _ _ A h
  ·rename_i o W
   rw [W]
   have j:o∈ops.toList:=Array.mem_toList_iff.2 (Array.mem_of_getElem? W)
   simp only
   split at h
   ·rename_i hw
    rw [if_pos hw]
    rcases h with h|h
    ·refine ⟨fun f _=>N f,?_⟩
     have V:o.semAt F.round ({ a with defers:=d }:Act).eval=execOp a.eval o:=by
      cases F.round with
      | none=>rfl
      | some r=>exact Oper.semAt_some r _ _ (U o j)
     rw [V]
     unfold Oper.wp at h
     cases M:(execOp a.eval o).run P w with
     | ok x w' =>
      rw [M] at h
      cases x <;> simp only [Oper.upon] at h
      case value v=>simp only [Oper.uponIn];rw [m];exact O _ _ (A.put (u o j) _) h
      case skip=>simp only [Oper.uponIn];rw [m];exact O _ _ (A.put (u o j) _) h
      case defer d' =>
       have:=n0 _ _ _ h
       rw [ec] at this;cases this
      case enter f args =>
       simp only [Oper.uponIn]
       refine ⟨fun h=>(by rw [X] at h;cases h),Y (h.mono fun e w2 z => ?_)⟩
       cases e with
       | returned v=>simp only at z ⊢;rw [m];exact O _ _ (A.put (u o j) _) z
       | panicked c=>exact absurd z.1 (by simp)
       | outgrown=>exact absurd z sQ
      case row row args =>
       simp only [Oper.uponIn]
       refine ⟨fun h=>(by rw [X] at h;cases h),z (h.mono fun v w2 z => ?_)⟩
       rw [m];exact O _ _ (A.put (u o j) _) z
     | halt x w' =>
      rw [M] at h
      cases x <;> simp only [Oper.upon] at h
      all_goals exact absurd h.1 (by simp)
    ·exact absurd h.2 sQ
   ·rename_i hw
    rw [if_neg hw]
    refine ⟨fun f _=>N f,?_⟩
    rw [m];exact O _ _ (A.put (u o j) _) h
end
end Go.Proofs.Ab
namespace Go.Proofs.Ab
noncomputable section
open Go Go.RowKit
variable {R:Type}
def yr (o:Oper):Bool:=match o.op with
 | .defer _=>true
 | _=>false
def wD (id:Nat):Exit->Exit
 | .exit i=>if i=id then .normal else .exit i
 | e=>e
def wb (κ : Exit->St->Option R) (f:St->Option R):Exit->St->Option R
 | .normal,s=>f s
 | .exit i,s=>κ (.exit i) s
 | .ret,s=>κ .ret s
 | _,_=>none
def cK (C:Cfg R):Code->St->(Exit->St->Option R)->Option R
 | .region _ ops d,s,κ => bif d||ops.toList.any yr then none else eZ C false ops ops.toList s (κ .normal)
 | .seq x y,s,κ => cK C x s (wb κ fun s1=>cK C y s1 κ)
 | .skip,s,κ => κ .normal s
 | .cond c x y,s,κ => match ev s c with
  | .bool t=>bif t then cK C x s κ else cK C y s κ
  | _=>none
 | .block id c,s,κ => cK C c s fun e s1=>κ (wD id e) s1
 | .exit id,s,κ => κ (.exit id) s
 | .ret,s,κ => κ .ret s
 | _,_,_=>none
section
variable {P:Program} {E:Env} {C:Cfg R} {tab:bZ} {r:R} {F:Fence} {n:Nat}
def kB:Code->List Nat
 | .region _ ops _=>ops.toList.filterMap (·.dst)
 | .seq x y=>kB x++kB y
 | .cond _ x y=>kB x++kB y
 | .block _ c=>kB c
 | _=>[]
def Qx (E:Env) (κ : Exit->St->Option R) (r:R) (d:List Deferred) (ds:List Nat) (a0:Act):Exit->Act->World->Prop:=fun e a' w'=>∃ s',κ e s'=some r/\dd E s' { a' with defers:=[] } w'/\a'.defers=d/\Kp ds a0 a'
theorem oP (W:Ok P C.ty) (X:dY C tab E) (Y:∀ g,bM P C.ty tab g (C.call g)) (A:∀ f,F.fn f) (hd:F.depth=none) (hC:∀ {n f args w} {R:Ending->World->Prop},Calls P f args w R->CallsIn F n P f args w R) (hR:∀ {n row args w} {R:Value->World->Prop},Rows P row args w R->RowsIn F n P row args w R) (d:List Deferred) {ds:List Nat} {a0:Act} :
  ∀ (c:Code) {s:St} {a:Act} {w:World} {κ : Exit->St->Option R},(∀ i∈kB c,i∈ds)->dd E s { a with defers:=[] } w->a.defers=d->Kp ds a0 a->cK C c s κ = some r->c.wpIn F n P (Qx E κ r d ds a0) a w
 | .region id ops dr,s,a,w,κ,O,h,z,m,j=>by
  unfold cK at j
  obtain ⟨u,ae⟩:=kQ j
  clear j
  rw [Bool.or_eq_false_iff] at u
  obtain ⟨rfl,u⟩:=u
  have ap:∀ o∈ops.toList,∀ c,o.op ≠ .defer c:=fun o ho c e=>by
   rw [List.any_eq_false] at u
   exact u o ho (by unfold yr;rw [e])
  have ad:=lj (Q:=Qd fun a w=>∃ s',κ .normal s'=some r/\dd E s' a w) W X Y (fun s' a' w' u M=>⟨rfl,⟨s',u,M⟩,let ⟨_,_,_,h⟩:=M;h.defers⟩) ops.toList 0 (by simp) h ae
  have:=Cn (n:=n) A hd hC hR ap d (ds:=ds) (fun o ho i e=>O i (by unfold kB;rw [List.mem_filterMap];exact ⟨o,ho,e⟩)) (a0:=a0) _ { a with defers:=[] } _ m ad
  have ea:({ ({ a with defers:=[] }:Act) with defers:=d }:Act)=a:=by cases a;simp only at z;rw [<- z]
  rw [ea] at this
  refine wpIn_mono (wpIn_region ?_) (Q:=fun e a' w'=>e = .normal/\(∃ s',κ .normal s'=some r/\dd E s' { a' with defers:=[] } w')/\a'.defers=d/\Kp ds a0 a') fun e a' w' h => ?_
  ·rw [List.range_eq_range',show ops.size=ops.toList.length by simp];exact this
  ·obtain ⟨rfl,⟨s',u,M⟩,U⟩:=h
   exact ⟨s',u,M,U⟩
 | .seq x y,s,a,w,κ,O,h,z,m,j=>by
  unfold cK at j
  refine wpIn_seq (wpIn_mono (oP W X Y A hd hC hR d x (fun i N=>O i (by unfold kB;simp [N])) h z m j) fun e a' w' V => ?_)
  obtain ⟨s',u,M,U,h4⟩:=V
  cases e with
  | normal=>exact oP W X Y A hd hC hR d y (fun i N=>O i (by unfold kB;simp [N])) M U h4 u
  | exit i=>exact ⟨s',u,M,U,h4⟩
  | ret=>exact ⟨s',u,M,U,h4⟩
  | _=>cases u
 | .skip,s,a,w,κ,_,h,z,m,j=>wpIn_skip ⟨s,j,h,z,m⟩
 | .cond c x y,s,a,w,κ,O,h,z,m,j=>by
  unfold cK at j
  split at j
  ·rename_i t ht
   obtain ⟨β,Rt,Ra,h0⟩:=h
   have hc:=b9 h0 c
   rw [ht] at hc
   have e:a.eval c = .bool t:=hc
   refine wpIn_cond e ?_
   cases t with
   | true=>exact oP W X Y A hd hC hR d x (fun i N=>O i (by unfold kB;simp [N])) ⟨β,Rt,Ra,h0⟩ z m j
   | false=>exact oP W X Y A hd hC hR d y (fun i N=>O i (by unfold kB;simp [N])) ⟨β,Rt,Ra,h0⟩ z m j
  ·cases j
 | .block id c,s,a,w,κ,O,h,z,m,j=>by
  unfold cK at j
  refine wpIn_block (wpIn_mono (oP W X Y A hd hC hR d c (fun i N=>O i (by unfold kB;exact N)) h z m j) fun e a' w' V => ?_)
  obtain ⟨s',u,M,U⟩:=V
  cases e with
  | exit i =>
   change κ (if i=id then .normal else .exit i) s'=some r at u
   show if i=id then Qx E κ r d ds a0 .normal a' w' else Qx E κ r d ds a0 (.exit i) a' w'
   by_cases N:i=id
   ·rw [if_pos N] at u ⊢;exact ⟨s',u,M,U⟩
   ·rw [if_neg N] at u ⊢;exact ⟨s',u,M,U⟩
  | _=>exact ⟨s',u,M,U⟩
 | .exit id,s,a,w,κ,_,h,z,m,j=>wpIn_exit ⟨s,j,h,z,m⟩
 | .ret,s,a,w,κ,_,h,z,m,j=>wpIn_ret ⟨s,j,h,z,m⟩
 | .loop ..,_,_,_,_,_,_,_,_,j=>by cases j
 | .scope ..,_,_,_,_,_,_,_,_,j=>by cases j
 | .goto ..,_,_,_,_,_,_,_,_,j=>by cases j
 | .label ..,_,_,_,_,_,_,_,_,j=>by cases j
 | .rangeFunc ..,_,_,_,_,_,_,_,_,j=>by cases j
 | .refuse ..,_,_,_,_,_,_,_,_,j=>by cases j
end
end
end Go.Proofs.Ab
namespace Go.Proofs.Ab
noncomputable section
open Go Go.RowKit
variable {R:Type}
section
variable {P:Program} {E:Env} {C:Cfg R} {tab:bZ} {s s':St} {a a':Act} {w w':World} {β β':Nat->Bl} {Rt Ra Rt' Ra':Nat->Prop}
def Hb (E:Env) (s:St) (w:World) (β : Nat->Bl) (Rt Ra:Nat->Prop):Env:=⟨E.T,w,fun b=>∃ t o,s.obj t=some o/\b∈ci (β t) o,Rt,Ra,E.pb⟩
theorem Rel.re (h:Rel E s a w β Rt Ra):Rel (Hb E s w β Rt Ra) s a w β Rt Ra :=
 ⟨⟨h.objs,h.lt,fun t o f b j=>⟨(h.c9 t o f b j).1,(h.c9 t o f b j).2.1,.inr ⟨t,o,f,j⟩⟩,h.apart,h.sub,h.rlt,Fr.refl _ _,fun _ h=>h,fun _ h=>h,fun _ h => .inl h,h.nx,h.pin⟩,h.len,h.defers,h.slots⟩
theorem dY.re (m:dY C tab E) (h:Rel E s a w β Rt Ra):dY C tab (Hb E s w β Rt Ra) :=
 ⟨m.T,fun b ob f=>by
  obtain ⟨g1,g2,g3⟩:=m.tab b ob f
  have j:b<E.w0.heap.size:=(Array.getElem?_eq_some_iff.1 g1).1
  refine ⟨(h.fr.block b j g3).trans g1,h.rt0 b g2,?_⟩
  rintro ⟨t,o,u,z⟩
  exact (h.c9 t o u b z).2.1 (h.sub b (h.rt0 b g2))⟩
theorem Rel.HN (h:Rel E s a w β Rt Ra) (f:Rel (Hb E s w β Rt Ra) s' a' w' β' Rt' Ra'):Rel E s' a' w' β' Rt' Ra' :=
 ⟨⟨f.objs,f.lt,fun t o M b u=>by
   obtain ⟨g1,g2,g3⟩:=f.c9 t o M b u
   refine ⟨g1,g2,?_⟩
   rcases g3 with g3|⟨z,A,j,m⟩
   ·exact .inl (Nat.le_trans h.fr.size g3)
   ·exact (h.c9 z A j b m).2.2,
  f.apart,f.sub,f.rlt,h.fr.trans f.fr (fun b u=>by obtain ⟨z,A,j,m⟩:=u;exact (h.c9 z A j b m).2.2),fun b u=>f.rt0 b (h.rt0 b u),fun b u=>f.ra0 b (h.ra0 b u),
  fun b u=>by
   rcases f.rt b u with g|g|⟨z,A,j,m⟩
   ·exact h.rt b g
   ·exact .inr (.inl (Nat.le_trans h.fr.size g))
   ·exact .inr (h.c9 z A j b m).2.2,f.nx,f.pin⟩,f.len,f.defers,f.slots⟩
def zz:SV->Bool
 | .ro _ _ st=>st
 | .rl _ _ st _ _=>st
 | .ra _ _ _ st=>st
 | _=>true
def EX:SV->Bool
 | .agg l=>l.all zz
 | .tup _=>false
 | x=>zz x
def Gi:Obj->Bool
 | .row _ _ st=>st
 | .var _ l=>l.all zz
 | _=>true
def oc (s:St):Bool:=s.slots.all EX&&s.objs.all fun p=>Gi p.2
theorem ER {c c':Cx} (f:c'.T=c.T) (hw:c'.w=c.w) (j:c'.Rt=c.Rt) (m:c'.β = c.β) (A:c'.D=c.D) {x:SV} {v:Value} (u:zz x=true) (h:SL c x v):SL c' x v:=by
 have z:c'.Q true=c.Q true:=by funext b;unfold Cx.Q;rw [if_pos rfl,if_pos rfl,j]
 cases x <;> simp only [SL] at h ⊢ <;> try (first|exact h|(rw [A,m];exact h)|(rw [A];exact h))
 case ro e l st=>obtain rfl:st=true:=u;rw [f,hw,z];exact h
 case rl e l st i off=>obtain rfl:st=true:=u;rw [f,hw,z];exact h
 case ra e n l st=>obtain rfl:st=true:=u;rw [f,hw,z];exact h
 case ar e n l=>rw [f,hw];exact h
theorem ul {c:Cx} {x:SV} {v:Value} (f:∀ l,x ≠ .agg l) (j:∀ l,x ≠ .tup l):S2 c x v ↔ SL c x v:=by
 cases x <;> first|exact Iff.rfl|exact absurd rfl (f _)|exact absurd rfl (j _)
theorem pF:∀ {l:List (Nat × Obj)} {t:Nat} {o:Obj},lookup t l=some o->∃ k,(k,o)∈l
 | [],_,_,h=>by cases h
 | (k,x)::l,t,o,h=>by
  unfold lookup at h
  cases f:Nat.beq t k with
  | true=>rw [f] at h;cases h;exact ⟨k,by simp⟩
  | false =>
   rw [f] at h
   obtain ⟨j,m⟩:=pF h
   exact ⟨j,by simp [m]⟩
theorem Bi (h:oc s=true) {t:Nat} {o:Obj} (f:s.obj t=some o):Gi o=true:=by
 unfold oc at h
 rw [Bool.and_eq_true,List.all_eq_true,List.all_eq_true] at h
 obtain ⟨k,j⟩:=pF f
 exact h.2 _ j
theorem Bh (h:oc s=true) (i:Nat):EX (s.get i)=true:=by
 unfold oc at h
 rw [Bool.and_eq_true,List.all_eq_true,List.all_eq_true] at h
 show EX (e6 s.slots i)=true
 by_cases f:i<s.slots.length
 ·rw [tk,List.getD_eq_getElem?_getD,List.getElem?_eq_getElem f];exact h.1 _ (List.getElem_mem _)
 ·rw [tl f];rfl
theorem Rel.shrink (h:Rel E s a w β Rt Ra) (O:oc s=true):Rel E s a w β Rt (fun b=>Rt b∨E.Ra0 b):=by
 have one:∀ {x:SV} {v:Value},zz x=true->SL (bG E s w β Rt Ra) x v->SL (bG E s w β Rt fun b=>Rt b∨E.Ra0 b) x v:=fun {x v} M z=>ER (c:=bG E s w β Rt Ra) (c':=bG E s w β Rt fun b=>Rt b∨E.Ra0 b) rfl rfl rfl rfl rfl M z
 refine ⟨⟨fun t o A => ?_,h.lt,fun t o A b j=>⟨(h.c9 t o A b j).1,fun U=>(h.c9 t o A b j).2.1 (U.elim (h.sub b) (h.ra0 b)),(h.c9 t o A b j).2.2⟩,h.apart,fun b j => .inl j,fun b j=>h.rlt b (j.elim (h.sub b) (h.ra0 b)),h.fr,h.rt0,fun b j => .inr j,h.rt,h.nx,h.pin⟩,h.len,h.defers,fun i => ?_⟩
 ·have f:=Bi O A
  have m:=h.objs t o A
  cases o with
  | row e l st =>
   obtain rfl:st=true:=f
   exact m
  | var ty Y =>
   obtain ⟨cs,u,V,W⟩:=m
   refine ⟨cs,u,V,PW.imp_mem (fun x M v z => ?_) W⟩
   have N:zz x=true:=List.all_eq_true.1 f x M
   unfold lz at z ⊢
   split
   ·exact z
   ·rename_i hn;split at z
    ·exact absurd rfl (by assumption)
    ·exact one N z
  | sit _ _=>exact m
  | mp _ _ _=>exact m
  | hole=>trivial
 ·have f:=Bh O i
  have m:=h.slots i
  generalize s.get i=x at f m
  generalize a.tmps.getD i undef=v at m
  cases x
  case agg l =>
   obtain ⟨cs,e,X⟩:=m
   exact ⟨cs,e,PW.imp_mem (fun x M v z=>one (List.all_eq_true.1 f x M) z) X⟩
  case tup l=>cases f
  all_goals exact (ul (by simp) (by simp)).2 (one f ((ul (by simp) (by simp)).1 m))
def mJ (ds:List Nat):Nat->List SV->List SV
 | _,[]=>[]
 | i,x::r=>(bif ds.any (Nat.beq i) then .no else x)::mJ ds (i+1) r
def jG (ds:List Nat) (s:St):St:=⟨mJ ds 0 s.slots,s.objs,s.next⟩
theorem sK (ds:List Nat):∀ (l:List SV) (i:Nat),(mJ ds i l).length=l.length
 | [],_=>rfl
 | _::r,i=>by simp [mJ,sK ds r]
theorem sJ (ds:List Nat):∀ (l:List SV) (i j:Nat),e6 (mJ ds i l) j = .no∨((i+j) ∉ ds/\e6 (mJ ds i l) j=e6 l j)
 | [],i,j => .inl rfl
 | x::r,i,0=>by
  show (bif ds.any (Nat.beq i) then SV.no else x) = .no∨_
  cases f:ds.any (Nat.beq i) with
  | true=>exact .inl rfl
  | false =>
   refine .inr ⟨fun hm => ?_,by show (bif ds.any (Nat.beq i) then SV.no else x)=x;rw [f];rfl⟩
   rw [List.any_eq_false] at f
   exact f i hm (Nat.beq_refl i)
 | x::r,i,j+1=>by
  have:=sJ ds r (i+1) j
  rw [show i+1+j=i+(j+1) by omega] at this
  exact this
theorem Rel.jG (h:Rel E s a' w β Rt Ra) {ds:List Nat} (f:Kp ds a a') (j:a.defers=[]):Rel E (jG ds s) a w β Rt Ra :=
 ⟨⟨h.objs,h.lt,h.c9,h.apart,h.sub,h.rlt,h.fr,h.rt0,h.ra0,h.rt,h.nx,h.pin⟩,by show (mJ ds 0 s.slots).length=_;rw [sK,h.len];exact f.1,j,fun i=>by
  rcases sJ ds s.slots 0 i with e|⟨m,e⟩
  ·show S2 _ (e6 (mJ ds 0 s.slots) i) _
   rw [e];trivial
  ·show S2 _ (e6 (mJ ds 0 s.slots) i) _
   rw [e,<- f.2 i (by rwa [Nat.zero_add] at m)]
   exact h.slots i⟩
end
end
end Go.Proofs.Ab
namespace Go.Proofs.Ab
noncomputable section
open Go Go.RowKit
variable {R:Type}
structure nw where
 x0:Operand
 d1:Nat
 d2:Nat
 g:Nat
 sep:ByteArray
 b:Nat
 p:Nat
 assign:Code
 body:Code
instance:Inhabited nw:=⟨⟨.tmp 0,0,0,0,⟨#[]⟩,0,0,.skip,.skip⟩⟩
def nw.ds (i:nw):List Nat:=i.p::(kB i.assign++kB i.body)
def HB (i:nw) (f:St->Option R) (κ : Exit->St->Option R):Exit->St->Option R
 | .normal,s=>bF (oc (jG i.ds s)) (f (jG i.ds s))
 | .ret,s=>bF (oc (jG i.ds s)) (κ .ret (jG i.ds s))
 | .exit j,s=>bF (oc (jG i.ds s)) (κ (.exit j) (jG i.ds s))
 | _,_=>none
def Hz (C:Cfg R) (i:nw) (κ : Exit->St->Option R):Exit->St->Option R
 | .normal,s=>bF (oc s) (cK C i.body s κ)
 | _,_=>none
def ni (C:Cfg R) (i:nw) (f:St->Option R) (κ : Exit->St->Option R) (s:St) (piece:ByteArray):Option R :=
 cK C i.assign (s.put (some i.p) (.str piece)) (Hz C i (HB i f κ))
def Iv:SV->SV->Bool
 | .int k _,.int f _=>decide (k=f)
 | .bool _,.bool _=>true
 | .str _,.str _=>true
 | .ro e _ st,.ro j _ st'=>Nat.beq e j&&(st == st')
 | x,y=>F5 x y
def H5:List SV->List SV->Bool
 | [],[]=>true
 | x::l,y::m=>Iv x y&&H5 l m
 | _,_=>false
def Iu:Obj->Obj->Bool
 | .var t l,.var u m=>Nat.beq t u&&H5 l m
 | o,f=>F4 o f
def GX:List (Nat × Obj)->List (Nat × Obj)->Bool
 | [],[]=>true
 | (a,x)::l,(b,y)::m=>Nat.beq a b&&(Iu x y&&GX l m)
 | _,_=>false
def ES (f:Int->Option R):List SV->Option R
 | [.int .i64 n]=>f n
 | _=>none
def Ha (C:Cfg R) (ix:Nat) (i:nw) (κ : Exit->St->Option R) (J:ByteArray->St->Option R) (rest:ByteArray) (s:St):Option R :=
 C.call ix [.str rest,.str i.sep] (ES fun n =>
  bif decide (n<0) then ni C i (fun s2=>bF (GX s.objs s2.objs) (κ .normal s2)) κ s rest else
  bF (decide (n+1<=(rest.size:Int))) (ni C i (fun s2=>bF (GX s.objs s2.objs) (J (rest.extract (n.toNat+1) rest.size) s2)) κ s (rest.extract 0 n.toNat)))
def C7 (C:Cfg R) (ix:Nat) (i:nw) (κ : Exit->St->Option R):Nat->ByteArray->St->Option R
 | 0,_,_=>none
 | f+1,rest,s=>Ha C ix i κ (C7 C ix i κ f) rest s
section
variable {P:Program} {E:Env} {C:Cfg R} {tab:bZ} {r:R} {s s':St} {a a':Act} {w w':World} {β β':Nat->Bl} {Rt Ra Rt' Ra':Nat->Prop}
def Fo (E:Env) (s:St) (w:World) (β : Nat->Bl) (Rt:Nat->Prop) (b:Nat):Prop:=b<w.heap.size/\¬ Rt b/\¬ E.Ra0 b/\(E.w0.heap.size<=b∨E.W0 b)/\∀ t o,s.obj t=some o->b ∉ ci (β t) o
theorem Fo.world {b:Nat} (h:Fo E s w β Rt b) (f:w.heap.size<=w'.heap.size):Fo E s w' β Rt b:=⟨Nat.lt_of_lt_of_le h.1 f,h.2⟩
theorem kp (w:World) (l:Nat) (o:Go.Obj):Fr (fun x=>x=l) w (w.putObj l o) :=
 ⟨rfl,rfl,rfl,by simp,fun b _ f=>World.putObj_heap_other f⟩
theorem iP {b:Nat} (h:w'.heap[b]? = w.heap[b]?):w'.cell? ⟨b,0,none⟩=w.cell? ⟨b,0,none⟩:=by unfold World.cell?;simp only [h]
theorem uI {b:Nat} (h:w'.heap[b]? = w.heap[b]?):w'.frozen? ⟨b,0,none⟩=w.frozen? ⟨b,0,none⟩:=by unfold World.frozen?;simp only [h]
def fQ (bP bS bV:Nat) (sep rest:ByteArray) (W:World):Prop :=
 W.cell? ⟨bS,0,none⟩=some (.string rest)/\W.cell? ⟨bP,0,none⟩=some (.string sep)/\W.cell? ⟨bV,0,none⟩=some (.int .i64 0)/\W.frozen? ⟨bS,0,none⟩=false
theorem fQ.heap {bP bS bV:Nat} {sep rest:ByteArray} (h:fQ bP bS bV sep rest w) (f:w'.heap[bS]? = w.heap[bS]?) (j:w'.heap[bP]? = w.heap[bP]?) (m:w'.heap[bV]? = w.heap[bV]?):fQ bP bS bV sep rest w' :=
 ⟨(iP f).trans h.1,(iP j).trans h.2.1,(iP m).trans h.2.2.1,(uI f).trans h.2.2.2⟩
theorem fQ.set {bP bS bV:Nat} {sep rest:ByteArray} (h:fQ bP bS bV sep rest w) (n1:bP≠bS) (n2:bV≠bS) (f:ByteArray):fQ bP bS bV sep f (w.setCell ⟨bS,0,none⟩ (.string f)):=by
 obtain ⟨j,m,u,z⟩:=h
 refine ⟨World.cell?_setCell_same' _ _ _ (by rw [j];rfl),(iP (Below.heap_setCell _ _ _ _ n1)).trans m,(iP (Below.heap_setCell _ _ _ _ n2)).trans u,?_⟩
 rw [World.frozen?_setCell];exact z
theorem Bb {F:Fence} {n:Nat} (V:Ok P C.ty) (W:dY C tab E) (X:∀ g,bM P C.ty tab g (C.call g)) (M:∀ f,F.fn f) (Y:F.depth=none) (hC:∀ {n f args w} {R:Ending->World->Prop},Calls P f args w R->CallsIn F n P f args w R) (hR:∀ {n row args w} {R:Value->World->Prop},Rows P row args w R->RowsIn F n P row args w R) (d:List Deferred) {ds:List Nat} {a0:Act}
  (c:Code) {κ : Exit->St->Option R} (N:∀ i∈kB c,i∈ds) (h:Rel E s { a with defers:=[] } w β Rt Ra) (ha:a.defers=d) (O:Kp ds a0 a) (hk:cK C c s κ = some r) :
  c.wpIn F n P (fun e a' w'=>∃ s' β' Rt' Ra',κ e s'=some r/\Rel E s' { a' with defers:=[] } w' β' Rt' Ra'/\a'.defers=d/\Kp ds a0 a'/\w.heap.size<=w'.heap.size/\∀ b,Fo E s w β Rt b->w'.heap[b]? = w.heap[b]? /\ Fo E s' w' β' Rt' b) a w:=by
 refine wpIn_mono (oP (E:=Hb E s w β Rt Ra) (tab:=tab) V (W.re h) X M Y hC hR d c N ⟨β,Rt,Ra,h.re⟩ ha O hk) fun e a' w' hq => ?_
 obtain ⟨s',h1,⟨β',Rt',Ra',u⟩,h3,h4⟩:=hq
 refine ⟨s',β',Rt',Ra',h1,h.HN u,h3,h4,u.fr.size,fun b m=>⟨u.fr.block b m.1 ?_,Nat.lt_of_lt_of_le m.1 u.fr.size,fun hr => ?_,m.2.2.1,m.2.2.2.1,fun t o z j => ?_⟩⟩
 ·rintro ⟨t,o,z,j⟩;exact m.2.2.2.2 t o z j
 ·rcases u.rt b hr with g|g|⟨t,o,z,j⟩
  ·exact m.2.1 g
  ·have:=m.1;have:w.heap.size<=b:=g;omega
  ·exact m.2.2.2.2 t o z j
 ·rcases (u.c9 t o z b j).2.2 with g|⟨t',o',U,A⟩
  ·have:=m.1;have:w.heap.size<=b:=g;omega
  ·exact m.2.2.2.2 t' o' U A
end
end
end Go.Proofs.Ab
namespace Go.Proofs.Ab
noncomputable section
open Go Go.RowKit
variable {R:Type}
theorem io {P:Program} {n:Nat} {f:FuncId} {args:Array Value} {w:World} {R:Ending->World->Prop} (h:Calls P f args w R):CallsIn Fence.wide n P f args w R:=callsIn_wide.2 h
theorem kA {P:Program} {n:Nat} {row:String} {args:Array Value} {w:World} {R:Value->World->Prop} (h:Rows P row args w R):RowsIn Fence.wide n P row args w R :=
 fun c cs _=>let ⟨v,w',r,s⟩:=h c cs;⟨v,w',r,stepsIn_wide.2 s⟩
def jx (fn:FuncId) (a:Act) (i:nw) (D:Nat) (st:LoopState) (f:Option Code):Loop:={ state:=st,pending:=f,fn,tmps:=a.tmps,params := #[i.p],assign:=i.assign,body:=i.body,defers:=D }
section
variable {P:Program} {E:Env} {C:Cfg R} {tab:bZ} {r:R} {s s':St} {a a':Act} {w w':World} {β β':Nat->Bl} {Rt Ra Rt' Ra':Nat->Prop}
structure jI where
 bS:Nat
 bP:Nat
 bV:Nat
 D:Nat
 L:Nat
 n1:bP≠bS
 n2:bV≠bS
 n3:D≠bS
 n4:L≠bS
 n5:bS≠L
 n6:bP≠L
 n7:bV≠L
 n8:D≠L
def jI.all (p:jI):List Nat:=[p.bS,p.bP,p.bV,p.D,p.L]
def qp (E:Env) (p:jI) (a:Act) (f:St->Option R) (r:R) (W:World):Prop :=
 W.heap[p.D]? = some (.deferred (some []))/\∃ s β Rt Ra,f s=some r/\Rel E s a W β Rt Ra/\(∀ b,Ra b->Rt b∨E.Ra0 b)/\∀ b∈p.all,Fo E s W β Rt b
def HO (E:Env) (p:jI) (a:Act) (fn:FuncId) (i:nw) (rest:ByteArray) (f:St->Option R) (r:R) (W:World):Prop :=
 fQ p.bP p.bS p.bV i.sep rest W/\W.heap[p.L]? = some (.loop (jx fn a i p.D .ready none))/\qp E p a f r W
def Gf (E:Env) (p:jI) (a:Act) (fn:FuncId) (i:nw) (κ : Exit->St->Option R) (r:R) (W:World):Prop :=
 (W.heap[p.L]? = some (.loop (jx fn a i p.D .done (some .ret)))/\qp E p a (κ .ret) r W)∨∃ j,W.heap[p.L]? = some (.loop (jx fn a i p.D .done (some (.exit j))))/\qp E p a (κ (.exit j)) r W
theorem jK {p:jI} {i:nw} {a1:Act} (A:a.defers=[]) (j:Rel E s' { a1 with defers:=[] } w' β' Rt' Ra') (M:Kp i.ds a a1) (N:oc (jG i.ds s')=true) (m:∀ b∈p.all,Fo E s' w' β' Rt' b) (O:w'.heap[p.D]? = some (.deferred (some []))) {f:St->Option R} (U:f (jG i.ds s')=some r) (o:Go.Obj) :
  qp E p a f r (w'.putObj p.L o):=by
 have V:Rel E (jG i.ds s') a w' β' Rt' Ra':=j.jG (a:=a) M A
 have W:=V.shrink N
 have z:=m p.L (by simp [jI.all])
 have X:=W.world (kp w' p.L o) fun b u=>by
  subst u
  exact ⟨fun h=>h.elim z.2.1 z.2.2.1,z.2.2.2.1,z.2.2.2.2⟩
 exact ⟨(World.putObj_heap_other p.n8).trans O,jG i.ds s',β',Rt',_,U,X,fun b u=>u,fun b u=>(m b u).world (by simp)⟩
theorem nS (hP:Ok P C.ty) (hE:dY C tab E) (hD:∀ g,bM P C.ty tab g (C.call g)) (p:jI) (i:nw) (fn:FuncId) (rest piece:ByteArray) {ae:St->Option R} {κ : Exit->St->Option R} (ha:a.defers=[])
  (hc:fQ p.bP p.bS p.bV i.sep rest w) (hL:w.heap[p.L]? = some (.loop (jx fn a i p.D .ready none))) (hs:qp E p a (fun s=>ni C i ae κ s piece) r w) (m:Nat) :
  YieldAt Fence.wide m P p.L #[.string piece] w fun e W2=>(e = .returned (.bool false)/\Gf E p a fn i κ r W2)∨(e = .returned (.bool true)/\HO E p a fn i rest ae r W2):=by
 obtain ⟨bb,s,β,Rt,Ra,hk,ap,b5,be⟩:=hs
 refine ⟨_,_,_,_,run_yield hL (by rfl),roundIn_of_wpIn trivial ?_⟩
 have ar:∀ f,(Fence.wide.inRound p.L).fn f:=fun _=>trivial
 have ep:({ tmps:=((jx fn a i p.D .ready none).params.zip #[Value.string piece]).foldl (fun tmps x=>tmps.setIfInBounds x.1 x.2) (jx fn a i p.D .ready none).tmps,defers:=[] }:Act)=a.put (some i.p) (.string piece):=by
  cases a;cases ha;simp [jx,Act.put]
 have h0:Rel E (s.put (some i.p) (.str piece)) (a.put (some i.p) (.string piece)) w β Rt Ra:=ap.put (some i.p) (v := .string piece) rfl
 have bk:Kp i.ds a (a.put (some i.p) (.string piece)):=(Kp.refl i.ds a).put (fun j e=>by cases e;simp [nw.ds]) _
 have ax:(a.put (some i.p) (.string piece)).defers=[]:=by rw [ec];exact ha
 have hx:({ a.put (some i.p) (.string piece) with defers:=[] }:Act)=a.put (some i.p) (.string piece):=by rw [<- ax]
 unfold ni at hk
 have a6:=Bb (F:=Fence.wide.inRound p.L) (n:=m) hP hE hD ar rfl (fun h=>CallsIn.inRound _ (io h)) (fun h=>kA h) [] (ds:=i.ds) (a0:=a) i.assign (fun j hj=>by simp [nw.ds,hj]) (by rw [hx];exact h0) ax bk hk
 rw [ep]
 refine wpIn_mono a6 fun e a1 w1 hq => ?_
 obtain ⟨s1,bs,bx,b',k1,r1,d1,b0,ca,b1⟩:=hq
 cases e with
 | normal =>
  obtain ⟨b2,k1⟩:=cX k1
  have e1:({ a1 with defers:=[] }:Act)=a1:=by rw [<- d1]
  rw [e1] at r1
  have u:∀ b∈p.all,w1.heap[b]? = w.heap[b]? /\ Fo E s1 w1 bs bx b:=fun b O=>b1 b (be b O)
  have b3:w1.heap[p.L]? = some (.loop (jx fn a i p.D .ready none)):=(u p.L (by simp [jI.all])).1.trans hL
  refine ⟨_,run_beginRound b3 rfl,?_⟩
  have M:=(u p.L (by simp [jI.all])).2
  have r2:=(r1.shrink b2).world (kp w1 p.L (.loop { jx fn a i p.D .ready none with state := .busy })) fun b O=>by
   subst O
   exact ⟨fun h=>h.elim M.2.1 M.2.2.1,M.2.2.2.1,M.2.2.2.2⟩
  have U:=Bb (F:=Fence.wide.inRound p.L) (n:=m) hP hE hD ar rfl (fun h=>CallsIn.inRound _ (io h)) (fun h=>kA h) [] (ds:=i.ds) (a0:=a) i.body (fun j hj=>by simp [nw.ds,hj]) (by rw [e1];exact r2) d1 b0 k1
  refine wpIn_mono U fun e a2 V hq => ?_
  obtain ⟨s2,a7,a8,cl,k2,r2,d2,W,cp,b4⟩:=hq
  have z:∀ b∈p.all,V.heap[b]? = (w1.putObj p.L (.loop { jx fn a i p.D .ready none with state := .busy })).heap[b]? /\ Fo E s2 V a7 a8 b:=fun b O=>b4 b ((u b O).2.world (by simp))
  have X:V.heap[p.L]? = some (.loop { jx fn a i p.D .ready none with state := .busy }):=(z p.L (by simp [jI.all])).1.trans (World.putObj_heap_same M.1)
  have Y:V.heap[p.D]? = some (.deferred (some [])):=((z p.D (by simp [jI.all])).1.trans (World.putObj_heap_other p.n8)).trans ((u p.D (by simp [jI.all])).1.trans bb)
  have hold:∀ b∈p.all,b≠p.L->V.heap[b]? = w.heap[b]? := fun b O hn=>((z b O).1.trans (World.putObj_heap_other hn)).trans (u b O).1
  have A:∀ b∈p.all,Fo E s2 V a7 a8 b:=fun b O=>(z b O).2
  have ad:p.L<V.heap.size:=(A p.L (by simp [jI.all])).1
  cases e with
  | normal =>
   obtain ⟨N,k2⟩:=cX k2
   refine ⟨_,_,run_endRound none X,.inr ⟨rfl,?_,?_,jK ha r2 W N A Y k2 _⟩⟩
   ·exact hc.heap ((World.putObj_heap_other p.n5).trans (hold _ (by simp [jI.all]) p.n5)) ((World.putObj_heap_other p.n6).trans (hold _ (by simp [jI.all]) p.n6)) ((World.putObj_heap_other p.n7).trans (hold _ (by simp [jI.all]) p.n7))
   ·exact World.putObj_heap_same ad
  | ret =>
   obtain ⟨N,k2⟩:=cX k2
   exact ⟨_,_,run_endRound (some .ret) X,.inl ⟨rfl,.inl ⟨World.putObj_heap_same ad,jK ha r2 W N A Y k2 _⟩⟩⟩
  | exit j =>
   obtain ⟨N,k2⟩:=cX k2
   exact ⟨_,_,run_endRound (some (.exit j)) X,.inl ⟨rfl,.inr ⟨j,World.putObj_heap_same ad,jK ha r2 W N A Y k2 _⟩⟩⟩
  | goto l=>cases k2
  | panic c=>cases k2
  | outgrown=>cases k2
 | _=>cases k1
end
end
end Go.Proofs.Ab
namespace Go.Proofs.Ab
noncomputable section
open Go Go.RowKit
variable {R:Type}
def A1 (P:Program) (ix l bP bS bV:Nat) (sep:ByteArray) (Good:ByteArray->World->Prop) (Out:World->Prop):Prop :=
 ∀ rest W,Good rest W->rest.size<281474976710656/\fQ bP bS bV sep rest W/\Calls P ix #[.string rest,.string sep] W fun e j=>∃ i:Int,e = .returned (.int .i64 i)/\fQ bP bS bV sep rest j /\
  ((i<0/\∀ m,YieldAt Fence.wide m P l #[.string rest] j fun e f=>(∃ b,e = .returned (.bool b))/\Out f) ∨
   (0<=i/\i+1<=rest.size/\∀ m,YieldAt Fence.wide m P l #[.string (rest.extract 0 i.toNat)] j fun e f=>(e = .returned (.bool false)/\Out f) ∨
    (e = .returned (.bool true)/\fQ bP bS bV sep rest f/\Good (rest.extract (i.toNat+1) rest.size) (f.setCell ⟨bS,0,none⟩ (.string (rest.extract (i.toNat+1) rest.size))))))
def AX (P:Program) (ix it:Nat) (sep:ByteArray):Prop :=
 ∀ (l bP bS bV:Nat) (Good:ByteArray->World->Prop) (Out:World->Prop),A1 P ix l bP bS bV sep Good Out->∀ rest W,Good rest W ->
  CallsIn Fence.wide 5 P it #[.func (.yield l) #[] #[],.pointer (some ⟨bP,0,none⟩),.pointer (some ⟨bS,0,none⟩),.pointer (some ⟨bV,0,none⟩)] W fun e f=>(∃ v,e = .returned v)/\Out f
section
variable {P:Program} {E:Env} {C:Cfg R} {tab:bZ} {r:R} {s s':St} {a a':Act} {w w':World} {β β':Nat->Bl} {Rt Ra Rt' Ra':Nat->Prop}
theorem qp.jD {p:jI} {f:St->Option R} (h:qp E p a f r w) (j:kD w w') (m:w'.heap[p.D]? = w.heap[p.D]?):qp E p a f r w':=by
 obtain ⟨u,s,β,Rt,Ra,z,A,M,N⟩:=h
 exact ⟨m.trans u,s,β,Rt,Ra,z,A.jD j,M,fun b O=>(N b O).world j.size⟩
theorem qp.imp {p:jI} {f g:St->Option R} (h:qp E p a f r w) (j:∀ s,f s=some r->g s=some r):qp E p a g r w:=by
 obtain ⟨m,s,β,Rt,Ra,u,z⟩:=h
 exact ⟨m,s,β,Rt,Ra,j _ u,z⟩
def Ef (E:Env) (C:Cfg R) (ix:Nat) (i:nw) (κ : Exit->St->Option R) (p:jI) (a:Act) (fn:FuncId) (r:R) (rest:ByteArray) (W:World):Prop :=
 rest.size<281474976710656/\∃ f,HO E p a fn i rest (C7 C ix i κ f rest) r W
def Hg (E:Env) (i:nw) (κ : Exit->St->Option R) (p:jI) (a:Act) (fn:FuncId) (r:R) (W:World):Prop :=
 (W.heap[p.L]? = some (.loop (jx fn a i p.D .ready none))/\qp E p a (κ .normal) r W)∨Gf E p a fn i κ r W
theorem zn {f:Int->Option R} {res:List SV} (h:ES f res=some r):∃ n,res=[.int .i64 n]/\f n=some r:=by
 unfold ES at h
 split at h
 ·exact ⟨_,rfl,h⟩
 ·cases h
theorem D7 (hP:Ok P C.ty) (hE:dY C tab E) (hD:∀ g,bM P C.ty tab g (C.call g)) {ix:Nat} (bk:∀ vs w,(callFunc ix vs).run P w = .ok (.enter ix vs) w) (p:jI) (i:nw) (fn:FuncId) {κ : Exit->St->Option R} (ha:a.defers=[]) :
  A1 P ix p.L p.bP p.bS p.bV i.sep (Ef E C ix i κ p a fn r) (Hg E i κ p a fn r):=by
 rintro rest W ⟨bs,f,hc,hL,bx⟩
 refine ⟨bs,hc,?_⟩
 obtain ⟨b0,s,β,Rt,Ra,hk,z,b3,a7⟩:=id bx
 cases f with
 | zero=>cases hk
 | succ f =>
  have hk:Ha C ix i κ (C7 C ix i κ f) rest s=some r:=hk
  unfold Ha at hk
  have a8:Pre C.ty tab W [.str rest,.str i.sep] (#[Value.string rest,Value.string i.sep]:Array Value).toList Rt Rt [] :=
   ⟨⟨[],[],rfl,⟨rfl,rfl,by simp,rfl⟩,[],[],rfl,⟨rfl,rfl,by simp,rfl⟩,rfl⟩,List.nodup_nil,fun b M=>(by cases M),fun _ h=>h,fun b M=>z.rlt b (z.sub b M),fun b ob b4=>by
    obtain ⟨g1,g2,g3⟩:=hE.tab b ob b4
    exact ⟨(z.fr.block b (Array.getElem?_eq_some_iff.1 g1).1 g3).trans g1,z.rt0 b g2⟩⟩
  rcases hD ix _ _ r hk W #[.string rest,.string i.sep] Rt Rt [] a8 with ⟨v,w',U,_⟩|⟨_,N⟩
  ·rw [bk] at U;cases U
  ·refine N.mono fun e W1 hq => ?_
   obtain ⟨v,rfl,res,Rt',v0,back,b1,b2,A,j⟩:=hq
   obtain ⟨n,V,A⟩:=zn A
   rw [j.res] at V
   cases V
   have hv:v = .int .i64 n:=j.r.2.2.2
   have hg:kD W W1:=⟨j.fr.os,j.fr.tape,j.fr.output,j.fr.size,fun b M _=>j.fr.block b M (by simp)⟩
   have u:∀ b∈p.all,W1.heap[b]? = W.heap[b]? := fun b M=>hg.block b (a7 b M).1 (fun h=>h)
   have ad:fQ p.bP p.bS p.bV i.sep rest W1:=hc.heap (u _ (by simp [jI.all])) (u _ (by simp [jI.all])) (u _ (by simp [jI.all]))
   have bb:W1.heap[p.L]? = some (.loop (jx fn a i p.D .ready none)):=(u _ (by simp [jI.all])).trans hL
   have be:∀ {f:St->Option R},f s=some r->qp E p a f r W1:=fun hf=>qp.jD ⟨b0,s,β,Rt,Ra,hf,z,b3,a7⟩ hg (u _ (by simp [jI.all]))
   refine ⟨n,by rw [hv],ad,?_⟩
   by_cases hn:n<0
   ·rw [decide_eq_true hn,cond_true] at A
    refine .inl ⟨hn,fun m => ?_⟩
    obtain ⟨f1,t1,ae,ap,y1,y2⟩:=nS hP hE hD p i fn rest rest ha ad bb (be (f:=fun s1=>ni C i (fun s2=>bF (GX s.objs s2.objs) (κ .normal s2)) κ s1 rest) A) m
    refine ⟨f1,t1,ae,ap,y1,y2.mono fun e W2 hq => ?_⟩
    rcases hq with ⟨rfl,ho⟩|⟨rfl,ar,ax,a1⟩
    ·exact ⟨⟨_,rfl⟩,.inr ho⟩
    ·exact ⟨⟨_,rfl⟩,.inl ⟨ax,a1.imp fun _ h=>(cX h).2⟩⟩
   ·rw [decide_eq_false hn,cond_false] at A
    obtain ⟨hle,A⟩:=cX A
    have hle:=of_decide_eq_true hle
    refine .inr ⟨by omega,hle,fun m => ?_⟩
    obtain ⟨f1,t1,ae,ap,y1,y2⟩:=nS hP hE hD p i fn rest (rest.extract 0 n.toNat) ha ad bb (be (f:=fun s1=>ni C i (fun s2=>bF (GX s.objs s2.objs) (C7 C ix i κ f (rest.extract (n.toNat+1) rest.size) s2)) κ s1 (rest.extract 0 n.toNat)) A) m
    refine ⟨f1,t1,ae,ap,y1,y2.mono fun e W2 hq => ?_⟩
    rcases hq with ⟨rfl,ho⟩|⟨rfl,ar,ax,a1⟩
    ·exact .inl ⟨rfl,.inr ho⟩
    ·refine .inr ⟨rfl,ar,by rw [ByteArray.size_extract];omega,f,ar.set p.n1 p.n2 _,(Below.heap_setCell _ _ _ _ p.n4).trans ax,?_⟩
     obtain ⟨b5,s2,b',ca,cl,cp,a6,X,Y⟩:=a1.imp fun _ h=>(cX h).2
     have O:=Y p.bS (by simp [jI.all])
     refine ⟨(Below.heap_setCell _ _ _ _ p.n3).trans b5,s2,b',ca,cl,cp,a6.world (kX W2 p.bS _) fun b M => ?_,X,fun b M=>(Y b M).world (kX W2 p.bS _).size⟩
     subst M
     exact ⟨fun h=>(X _ h).elim O.2.1 O.2.2.1,O.2.2.2.1,O.2.2.2.2⟩
end
end
end Go.Proofs.Ab
namespace Go.Proofs.Ab
noncomputable section
open Go Go.RowKit
variable {R:Type}
section
variable {P:Program} {E:Env} {C:Cfg R} {tab:bZ} {r:R} {s s':St} {a a':Act} {w w':World} {β β':Nat->Bl} {Rt Ra Rt' Ra':Nat->Prop}
theorem qp.putObj {p:jI} {f:St->Option R} (h:qp E p a f r w) (o:Go.Obj):qp E p a f r (w.putObj p.L o):=by
 obtain ⟨A,s,β,Rt,Ra,M,N,u,z⟩:=h
 have j:=z p.L (by simp [jI.all])
 refine ⟨(World.putObj_heap_other p.n8).trans A,s,β,Rt,Ra,M,N.world (kp w p.L o) fun b m => ?_,u,fun b m=>(z b m).world (by simp)⟩
 subst m
 exact ⟨fun h=>(u _ h).elim j.2.1 j.2.2.1,j.2.2.2.1,j.2.2.2.2⟩
def Qr (E:Env) (a:Act) (κ : Exit->St->Option R) (r:R):Exit->Act->World->Prop:=fun e a' w'=>∃ p:jI,a'={ a with defers:=[{ target := .collected p.D,args := #[] }] }/\qp E p a (κ e) r w'
theorem Cw (hP:Ok P C.ty) (hE:dY C tab E) (hD:∀ g,bM P C.ty tab g (C.call g)) {ix it:Nat} (ad:∀ vs w,(callFunc ix vs).run P w = .ok (.enter ix vs) w) (hit:∀ vs w,(callFunc it vs).run P w = .ok (.enter it vs) w) (i:nw) (M:AX P ix it i.sep) {κ : Exit->St->Option R} (ha:a.defers=[])
  {d bP bS bV:Nat} (hd:a.eval (.tmp d) = .func (.func it) #[] #[.pointer (some ⟨bP,0,none⟩),.pointer (some ⟨bS,0,none⟩),.pointer (some ⟨bV,0,none⟩)]) (n1:bP≠bS) (n2:bV≠bS) {rest:ByteArray} (ae:rest.size<281474976710656) (hc:fQ bP bS bV i.sep rest w)
  (m:Rel E s a w β Rt Ra) (ap:∀ b,Ra b->Rt b∨E.Ra0 b) (z:∀ b∈[bS,bP,bV],Fo E s w β Rt b) {f:Nat} (hk:C7 C ix i κ f rest s=some r) :
  (Code.rangeFunc (.tmp d) #[i.p] i.assign i.body).wpIn Fence.wide 6 P (Qr E a κ r) a w:=by
 refine wpIn_rangeFunc fun fn _ => ?_
 have b1:=(z bS (by simp)).1
 have b2:=(z bP (by simp)).1
 have b3:=(z bV (by simp)).1
 let p:jI:=⟨bS,bP,bV,w.heap.size,w.heap.size+1,n1,n2,by omega,by omega,by omega,by omega,by omega,by omega⟩
 let u:World:=(w.alloc (.deferred (some []))).alloc (.loop (jx fn a i w.heap.size .ready none))
 have N:kD w u:=⟨rfl,rfl,rfl,by simp [u];omega,fun b V _=>by
  show ((w.heap.push _).push _)[b]? = _
  rw [Array.getElem?_push,if_neg (by simp;omega),Array.getElem?_push,if_neg (by omega)]⟩
 have ar:u.heap[w.heap.size+1]? = some (.loop (jx fn a i w.heap.size .ready none)):=by
  have:=World.alloc_heap_new (w.alloc (.deferred (some []))) (.loop (jx fn a i w.heap.size .ready none));rwa [World.size_alloc] at this
 have ax:u.heap[w.heap.size]? = some (.deferred (some [])):=(Below.heap_alloc _ _ _ (by simp)).trans (World.alloc_heap_new w _)
 have A:∀ b,w.heap.size<=b->b<u.heap.size->Fo E s u β Rt b:=fun b V O=>⟨O,fun hr=>by have:=m.rlt b (m.sub b hr);omega,fun hr=>by have:=m.rlt b (m.ra0 b hr);omega,.inl (Nat.le_trans m.fr.size V),fun t o ho a1=>by have:=(m.c9 t o ho b a1).1;omega⟩
 have W:∀ b∈p.all,Fo E s u β Rt b:=by
  intro b V
  simp only [jI.all,List.mem_cons,List.mem_nil_iff,or_false] at V
  rcases V with rfl|rfl|rfl|rfl|rfl
  ·exact (z _ (by simp [p])).world N.size
  ·exact (z _ (by simp [p])).world N.size
  ·exact (z _ (by simp [p])).world N.size
  ·exact A _ (Nat.le_refl _) (by simp [u,p];omega)
  ·exact A _ (Nat.le_succ _) (by simp [u,p])
 have a6:qp E p a (C7 C ix i κ f rest) r u:=⟨ax,s,β,Rt,Ra,hk,m.jD N,ap,W⟩
 have U:Ef E C ix i κ p a fn r rest u:=⟨ae,f,hc.heap (N.block _ b1 (fun h=>h)) (N.block _ b2 (fun h=>h)) (N.block _ b3 (fun h=>h)),ar,a6⟩
 refine ⟨w.heap.size+1,[{ target := .collected w.heap.size,args := #[] }],u,{ target := .fn (.func it) #[.pointer (some ⟨bP,0,none⟩),.pointer (some ⟨bS,0,none⟩),.pointer (some ⟨bV,0,none⟩)],args := #[.func (.yield (w.heap.size+1)) #[] #[]] },u,it,
  #[.func (.yield (w.heap.size+1)) #[] #[]] ++ #[.pointer (some ⟨bP,0,none⟩),.pointer (some ⟨bS,0,none⟩),.pointer (some ⟨bV,0,none⟩)],u,run_enterLoop_outer _ _ _ _ _,?_,fun _ _=>trivial,?_,fun h=>(by cases h),?_⟩
 ·simp only [resolve,hd]
  simp [go_sem]
 ·simp [invoke,go_sem,hit]
 ·refine (M (w.heap.size+1) bP bS bV _ _ (D7 hP hE hD ad p i fn ha) rest u U).mono ?_
  rintro e W2 ⟨⟨v,rfl⟩,X⟩
  have ea:({ a with defers:=[({ target := .collected w.heap.size,args := #[] }:Deferred)]++a.defers }:Act)={ a with defers:=[{ target := .collected p.D,args := #[] }] }:=by rw [ha];rfl
  rcases X with ⟨O,Y⟩|⟨O,Y⟩|⟨j,O,Y⟩
  ·exact ⟨none,_,run_endLoop O (by simp [jx]),p,ea,Y.putObj _⟩
  ·exact ⟨some .ret,_,run_endLoop O (by simp [jx]),wpIn_ret ⟨p,ea,Y.putObj _⟩⟩
  ·exact ⟨some (.exit j),_,run_endLoop O (by simp [jx]),wpIn_exit ⟨p,ea,Y.putObj _⟩⟩
end
end
end Go.Proofs.Ab
namespace Go.Proofs.Ab
noncomputable section
open Go Go.RowKit
variable {R:Type}
def AB:Code->Code->Option nw
 | .region _ ⟨[f,j]⟩ false,.block b (.rangeFunc (.tmp d) ⟨[p]⟩ assign body)=>match f.op,f.dst,f.guard,j.op,j.dst,j.guard with
  | .move x0,some d1,none,.call c,some d2,none=>match c.callee,c.args with
   | .value (.func g),⟨[.tmp t,.const (.string sep)]⟩=>bif Nat.beq t d1&&(Nat.beq d2 d && !Nat.beq d1 d2) then some ⟨x0,d1,d2,g,sep,b,p,assign,body⟩ else none
   | _,_=>none
  | _,_,_,_,_,_=>none
 | _,_=>none
theorem D6 {x y:Code} {i:nw} (h:AB x y=some i):∃ id f j c,x = .region id #[f,j] false/\f.op = .move i.x0/\f.dst=some i.d1/\f.guard=none/\j.op = .call c/\j.dst=some i.d2/\j.guard=none/\c.callee = .value (.func i.g)/\c.args = #[.tmp i.d1,.const (.string i.sep)]/\i.d1≠i.d2/\y = .block i.b (.rangeFunc (.tmp i.d2) #[i.p] i.assign i.body):=by
 unfold AB at h
 split at h
 ·split at h
  ·split at h
   ·obtain ⟨m,h⟩:=lJ h
    cases h
    simp only [Bool.and_eq_true,Bool.not_eq_true'] at m
    obtain ⟨z,A,u⟩:=m
    obtain rfl:=Nat.eq_of_beq_eq_true z
    obtain rfl:=Nat.eq_of_beq_eq_true A
    exact ⟨_,_,_,_,rfl,by assumption,by assumption,by assumption,by assumption,by assumption,by assumption,by assumption,by assumption,fun e=>(by replace e:_=_:=e;simp only at e;rw [e,Nat.beq_refl] at u;cases u),rfl⟩
   ·cases h
  ·cases h
 ·cases h
structure SpF where
 g:Nat
 ix:Nat
 fuel:Nat
 sep:ByteArray
def HL (C:Cfg R) (F:SpF) (i:nw) (s:St) (κ : Exit->St->Option R):Option R :=
 match ev s i.x0 with
 | .str S=>bif Nat.beq i.g F.g&&(decide (i.sep=F.sep)&&(decide (i.d1<s.slots.length)&&(decide (i.d2<s.slots.length)&&oc (jG i.ds ((s.put (some i.d1) (.str S)).put (some i.d2) .no)))))
  then bF (decide (S.size<281474976710656)) (C7 C F.ix i (fun e s1=>κ (wD i.b e) s1) F.fuel S (jG i.ds ((s.put (some i.d1) (.str S)).put (some i.d2) .no))) else none
 | _=>none
def E9 (κ : Exit->St->Option R):Exit->St->Option R:=fun e s=>bF (oc s) (κ e s)
def gK (C:Cfg R) (F:SpF):Code->St->(Exit->St->Option R)->Option R
 | .seq x z,s,κ => match (match x with
   | .seq p q=>AB p q
   | _=>none) with
  | some i=>HL C F i s (wb κ fun s1=>cK C z s1 (E9 κ))
  | none=>cK C x s (wb κ fun s1=>gK C F z s1 κ)
 | c,s,κ => cK C c s κ
def GY:Code->Option nw
 | .seq x z=>match (match x with
   | .seq p q=>AB p q
   | _=>none) with
  | some i=>some i
  | none=>GY z
 | _=>none
def H6:Code->Option Code
 | .seq x z=>match (match x with
   | .seq p q=>AB p q
   | _=>none) with
  | some _=>some z
  | none=>H6 z
 | _=>none
section
variable {P:Program} {E:Env} {C:Cfg R} {tab:bZ} {r:R} {s s':St} {a a':Act} {w w':World} {β β':Nat->Bl} {Rt Ra Rt' Ra':Nat->Prop}
def xZ (P:Program) (g it:Nat):Prop:=∀ (s sep:ByteArray) (w:World),Calls P g #[.string s,.string sep] w fun e w' =>
 e = .returned (.func (.func it) #[] #[.pointer (some ⟨w.heap.size+1,0,none⟩),.pointer (some ⟨w.heap.size,0,none⟩),.pointer (some ⟨w.heap.size+2,0,none⟩)]) /\
 ∃ f j,w'=((w.alloc (.cells #[.string s] f)).alloc (.cells #[.string sep] f)).alloc (.cells #[.int .i64 0] j)
theorem eval_put {d:Nat} (h:d<a.tmps.size) (v:Value):(a.put (some d) v).eval (.tmp d)=v:=by
 show (a.tmps.setIfInBounds d v).getD d undef=v
 simp [Array.getD_eq_getD_getElem?,Array.getElem?_setIfInBounds,h]
theorem tZ {g it:Nat} (A:xZ P g it) (M:∀ vs w,(callFunc g vs).run P w = .ok (.enter g vs) w) {id:Nat} {j m:Oper} {c:Call} {x0:Operand} {d1 d2:Nat} {sep S:ByteArray} (U:j.op = .move x0) (V:j.dst=some d1) (W:j.guard=none) (X:m.op = .call c) (Y:m.dst=some d2) (h6:m.guard=none)
  (h7:c.callee = .value (.func g)) (h8:c.args = #[.tmp d1,.const (.string sep)]) (hv:a.eval x0 = .string S) (N:d1<a.tmps.size) :
  (Code.region id #[j,m] false).wpIn Fence.wide 6 P (fun e a' w'=>e = .normal/\a'=(a.put (some d1) (.string S)).put (some d2) (.func (.func it) #[] #[.pointer (some ⟨w.heap.size+1,0,none⟩),.pointer (some ⟨w.heap.size,0,none⟩),.pointer (some ⟨w.heap.size+2,0,none⟩)]) /\
   ∃ z O,w'=((w.alloc (.cells #[.string S] z)).alloc (.cells #[.string sep] z)).alloc (.cells #[.int .i64 0] O)) a w:=by
 refine wpIn_region ?_
 show wpOpsIn _ _ _ _ _ [0,1] a w
 have hw:∀ (o:Oper) (f:Nat->Option Bool),o.guard=none->Region.wanted o f=true:=fun o f h=>by unfold Region.wanted;rw [h]
 have g0:(#[j,m]:Array Oper)[0]? = some j:=rfl
 have g1:(#[j,m]:Array Oper)[1]? = some m:=rfl
 simp only [wpOpsIn,g0,g1,hw _ _ W,hw _ _ h6,if_true]
 refine ⟨fun _ _=>trivial,?_⟩
 show j.uponIn _ _ _ _ _ _ ((execOp a.eval j).run P w)
 rw [show (execOp a.eval j).run P w = .ok (.value (a.eval x0)) w by unfold execOp;rw [U];rfl,Oper.uponIn_value,hv,V]
 refine ⟨fun _ _=>trivial,?_⟩
 show m.uponIn _ _ _ _ _ _ ((execOp (a.put (some d1) (.string S)).eval m).run P w)
 rw [p7 X h7 rfl,h8,M,Oper.uponIn_enter]
 refine ⟨fun h=>(by cases h),io ?_⟩
 have u:(#[Operand.tmp d1,.const (.string sep)]:Array Operand).map (a.put (some d1) (.string S)).eval = #[.string S,.string sep]:=by
  have:=eval_put N (.string S)
  rw [show ∀ f:Operand->Value,(#[Operand.tmp d1,.const (.string sep)]:Array Operand).map f = #[f (.tmp d1),f (.const (.string sep))] from fun f=>by simp,this];rfl
 rw [u]
 refine (A S sep w).mono fun e w' hq => ?_
 obtain ⟨rfl,z,O,rfl⟩:=hq
 rw [Y]
 exact ⟨trivial,rfl,z,O,rfl⟩
end
end
end Go.Proofs.Ab
namespace Go.Proofs.Ab
noncomputable section
open Go Go.RowKit
variable {R:Type}
section
variable {P:Program} {E:Env} {C:Cfg R} {tab:bZ} {r:R} {s s':St} {a a':Act} {w w':World} {β β':Nat->Bl} {Rt Ra Rt' Ra':Nat->Prop}
structure SpOk (P:Program) (F:SpF) (it:Nat):Prop where
 ge:∀ vs w,(callFunc F.g vs).run P w = .ok (.enter F.g vs) w
 ixe:∀ vs w,(callFunc F.ix vs).run P w = .ok (.enter F.ix vs) w
 ite:∀ vs w,(callFunc it vs).run P w = .ok (.enter it vs) w
 split:xZ P F.g it
 iter:AX P F.ix it F.sep
theorem FR (hP:Ok P C.ty) (hE:dY C tab E) (hD:∀ g,bM P C.ty tab g (C.call g)) {F:SpF} {it:Nat} (O:SpOk P F it) {x y:Code} {i:nw} (hs:AB x y=some i) (f:Rel E s a w β Rt Ra) {κ : Exit->St->Option R} (A:HL C F i s κ = some r) :
  (Code.seq x y).wpIn Fence.wide 6 P (fun e a' w'=>∃ (a1:Act) (p:jI),a1.defers=[]/\a'={ a1 with defers:=[{ target := .collected p.D,args := #[] }] }/\qp E p a1 (κ e) r w') a w:=by
 obtain ⟨id,o1,o2,c,rfl,h1,h2,h3,h4,h5,h6,h7,h8,a7,rfl⟩:=D6 hs
 unfold HL at A
 split at A
 ·rename_i S hS
  obtain ⟨hc,A⟩:=lJ A
  obtain ⟨U,A⟩:=cX A
  simp only [Bool.and_eq_true,decide_eq_true_eq] at hc U
  obtain ⟨hg,V,ad,ae,ap⟩:=hc
  have hg:=Nat.eq_of_beq_eq_true hg
  have hv:a.eval i.x0 = .string S:=by have:=b9 f i.x0;rw [hS] at this;exact this
  rw [hg] at h7
  have ha:a.defers=[]:=f.defers
  refine wpIn_seq (wpIn_mono (tZ O.split O.ge h1 h2 h3 h4 h5 h6 h7 h8 hv (by rw [<- f.len];exact ad)) fun e a1 w1 hq => ?_)
  obtain ⟨rfl,rfl,X,ti,rfl⟩:=hq
  generalize m:((w.alloc (.cells #[.string S] X)).alloc (.cells #[.string i.sep] X)).alloc (.cells #[.int .i64 0] ti)=u
  have sz:u.heap.size=w.heap.size+3:=by rw [<- m];simp
  have old:∀ b,b<w.heap.size->u.heap[b]? = w.heap[b]? := fun b z=>by
   rw [<- m]
   show (((w.heap.push _).push _).push _)[b]? = _
   rw [Array.getElem?_push,if_neg (by simp;omega),Array.getElem?_push,if_neg (by simp;omega),Array.getElem?_push,if_neg (by omega)]
  have c0:u.heap[w.heap.size]? = some (.cells #[.string S] X):=by
   rw [<- m];show (((w.heap.push _).push _).push _)[w.heap.size]? = _
   rw [Array.getElem?_push,if_neg (by simp;omega),Array.getElem?_push,if_neg (by simp),Array.getElem?_push,if_pos rfl]
  have c1:u.heap[w.heap.size+1]? = some (.cells #[.string i.sep] X):=by
   rw [<- m];show (((w.heap.push _).push _).push _)[w.heap.size+1]? = _
   rw [Array.getElem?_push,if_neg (by simp),Array.getElem?_push,if_pos (by simp)]
  have c2:u.heap[w.heap.size+2]? = some (.cells #[.int .i64 0] ti):=by
   rw [<- m];show (((w.heap.push _).push _).push _)[w.heap.size+2]? = _
   rw [Array.getElem?_push,if_pos (by simp)]
  have ar:kD w u:=⟨by rw [<- m];rfl,by rw [<- m];rfl,by rw [<- m];rfl,by omega,fun b z _=>old b z⟩
  have r1:=((f.jD ar).put (some i.d1) (x := .str S) (v := .string S) rfl).put (some i.d2) (x := .no) (v := .func (.func it) #[] #[.pointer (some ⟨w.heap.size+1,0,none⟩),.pointer (some ⟨w.heap.size,0,none⟩),.pointer (some ⟨w.heap.size+2,0,none⟩)]) trivial
  have W:=(r1.jG (a:=_) (ds:=i.ds) (Kp.refl _ _) r1.defers).shrink ap
  have fo:∀ b,w.heap.size<=b->b<u.heap.size->Fo E (jG i.ds ((s.put (some i.d1) (.str S)).put (some i.d2) .no)) u β Rt b:=fun b z hl =>
   ⟨hl,fun hr=>by have:=f.rlt b (f.sub b hr);omega,fun hr=>by have:=f.rlt b (f.ra0 b hr);omega,.inl (Nat.le_trans f.fr.size z),fun t o ho ax=>by
    have:=(f.c9 t o (by rwa [show (jG i.ds ((s.put (some i.d1) (.str S)).put (some i.d2) .no)).obj t=((s.put (some i.d1) (.str S)).put (some i.d2) .no).obj t from rfl,gO,gO] at ho) b ax).1
    omega⟩
  have a6:((a.put (some i.d1) (.string S)).put (some i.d2) (.func (.func it) #[] #[.pointer (some ⟨w.heap.size+1,0,none⟩),.pointer (some ⟨w.heap.size,0,none⟩),.pointer (some ⟨w.heap.size+2,0,none⟩)])).eval (.tmp i.d2) = .func (.func it) #[] #[.pointer (some ⟨w.heap.size+1,0,none⟩),.pointer (some ⟨w.heap.size,0,none⟩),.pointer (some ⟨w.heap.size+2,0,none⟩)] :=
   eval_put (by show i.d2<(a.tmps.setIfInBounds _ _).size;rw [Array.size_setIfInBounds,<- f.len];exact ae) _
  have M:fQ (w.heap.size+1) w.heap.size (w.heap.size+2) i.sep S u:=by
   refine ⟨?_,?_,?_,?_⟩
   ·unfold World.cell?;simp only [c0];rfl
   ·unfold World.cell?;simp only [c1];rfl
   ·unfold World.cell?;simp only [c2];rfl
   ·unfold World.frozen?;simp only [c0];rfl
  refine wpIn_block (wpIn_mono (Cw (ix:=F.ix) (it:=it) hP hE hD O.ixe O.ite i (by rw [V];exact O.iter) W.defers a6 (by omega) (by omega) U M W (fun b z=>z) (fun b z => ?_) A) fun e a' w' hq => ?_)
  ·simp only [List.mem_cons,List.mem_nil_iff,or_false] at z
   rcases z with rfl|rfl|rfl
   ·exact fo _ (by omega) (by omega)
   ·exact fo _ (by omega) (by omega)
   ·exact fo _ (by omega) (by omega)
  ·obtain ⟨p,ea,N⟩:=hq
   cases e with
   | exit j =>
    show if j=i.b then _ else _
    by_cases Y:j=i.b
    ·rw [if_pos Y]
     have:qp E p _ (fun s1=>κ (wD i.b (.exit j)) s1) r w':=N
     rw [show wD i.b (.exit j) = .normal from (by show (if j=i.b then Exit.normal else .exit j)=_;rw [if_pos Y])] at this
     exact ⟨_,p,W.defers,ea,this⟩
    ·rw [if_neg Y]
     have:qp E p _ (fun s1=>κ (wD i.b (.exit j)) s1) r w':=N
     rw [show wD i.b (.exit j) = .exit j from (by show (if j=i.b then Exit.normal else .exit j)=_;rw [if_neg Y])] at this
     exact ⟨_,p,W.defers,ea,this⟩
   | _=>exact ⟨_,p,W.defers,ea,N⟩
 ·cases A
def Qg (E:Env) (κ : Exit->St->Option R) (r:R):Exit->Act->World->Prop:=fun e a' w'=>∃ s',κ e s'=some r/\∃ β Rt Ra,Rel E s' { a' with defers:=[] } w' β Rt Ra /\
 (a'.defers=[]∨∃ D,a'.defers=[{ target := .collected D,args := #[] }]/\w'.heap[D]? = some (.deferred (some []))/\¬ Ra D/\(E.w0.heap.size<=D∨E.W0 D)/\∀ t o,s'.obj t=some o->D ∉ ci (β t) o)
theorem oC {κ : Exit->St->Option R} {ds:List Nat} {a0:Act} {e:Exit} (h:Qx E κ r [] ds a0 e a' w'):Qg E κ r e a' w':=by
 obtain ⟨s',f,⟨β,Rt,Ra,j⟩,m,_⟩:=h
 exact ⟨s',f,β,Rt,Ra,j,.inl m⟩
theorem Gp (X:Ok P C.ty) (Y:dY C tab E) (hD:∀ g,bM P C.ty tab g (C.call g)) {F:SpF} {it:Nat} (hF:SpOk P F it):∀ (c:Code) {s:St} {a:Act} {w:World} {κ : Exit->St->Option R},dd E s a w->gK C F c s κ = some r->c.wpIn Fence.wide 6 P (Qg E κ r) a w:=by
 have plain:∀ (c:Code) {s:St} {a:Act} {w:World} {κ : Exit->St->Option R},dd E s a w->cK C c s κ = some r->c.wpIn Fence.wide 6 P (Qx E κ r [] (kB c) a) a w:=fun c s a w κ h M=>by
  have hd:a.defers=[]:=let ⟨_,_,_,h⟩:=h;h.defers
  have ea:({ a with defers:=[] }:Act)=a:=by rw [<- hd]
  exact oP (F:=Fence.wide) X Y hD (fun _=>trivial) rfl (fun h=>io h) (fun h=>kA h) [] c (fun _ h=>h) (by rw [ea];exact h) hd (Kp.refl _ _) M
 intro c
 induction c with
 | seq x z bx ad =>
  intro s a w κ h M
  unfold gK at M
  split at M
  ·rename_i i hi
   split at hi
   ·rename_i p q
    obtain ⟨β,Rt,Ra,h0⟩:=h
    refine wpIn_seq (wpIn_mono (FR X Y hD hF hi h0 M) fun e a1 w1 u => ?_)
    obtain ⟨a2,p,ae,rfl,ap⟩:=u
    obtain ⟨N,s1,ar,ax,a6,m,r1,O,U⟩:=ap
    have f:=U p.D (by simp [jI.all])
    have V:({ ({ a2 with defers:=[{ target := .collected p.D,args := #[] }] }:Act) with defers:=[] }:Act)=a2:=by rw [<- ae]
    have other:∀ e,wb κ (fun s1=>cK C z s1 (E9 κ)) e s1=some r->e ≠ .normal->Qg E κ r e { a2 with defers:=[{ target := .collected p.D,args := #[] }] } w1:=by
     intro e m a7
     have a8:κ e s1=some r:=by cases e <;> first|exact absurd rfl a7|exact m|cases m
     exact ⟨s1,a8,ar,ax,a6,by rw [V];exact r1,.inr ⟨p.D,rfl,N,fun h=>(O _ h).elim f.2.1 f.2.2.1,f.2.2.2.1,f.2.2.2.2⟩⟩
    cases e with
    | normal =>
     have hz:=Bb (F:=Fence.wide) (n:=6) (a:={ a2 with defers:=[{ target := .collected p.D,args := #[] }] }) X Y hD (fun _=>trivial) rfl (fun h=>io h) (fun h=>kA h) [{ target := .collected p.D,args := #[] }] z (fun _ h=>h) (by rw [V];exact r1) rfl (Kp.refl _ _) m
     refine wpIn_mono hz fun e a3 w3 u => ?_
     obtain ⟨s3,bb,be,bP,k3,r3,d3,_,_,bk⟩:=u
     obtain ⟨bs,k3⟩:=cX k3
     obtain ⟨hh,A⟩:=bk p.D f
     exact ⟨s3,k3,bb,be,_,r3.shrink bs,.inr ⟨p.D,d3,hh.trans N,fun h=>h.elim A.2.1 A.2.2.1,A.2.2.2.1,A.2.2.2.2⟩⟩
    | _=>exact other _ m (by simp)
   ·cases hi
  ·refine wpIn_seq (wpIn_mono (plain x h M) fun e a1 w1 u => ?_)
   cases e with
   | normal =>
    obtain ⟨s1,k1,W,d1,_⟩:=u
    have ea:({ a1 with defers:=[] }:Act)=a1:=by rw [<- d1]
    exact ad (by rw [<- ea];exact W) k1
   | exit j=>obtain ⟨s1,k1,W⟩:=u;exact oC ⟨s1,k1,W⟩
   | ret=>obtain ⟨s1,k1,W⟩:=u;exact oC ⟨s1,k1,W⟩
   | _=>obtain ⟨s1,k1,_⟩:=u;cases k1
 | _ =>
  intro s a w κ h M
  exact wpIn_mono (plain _ h M) fun e a' w' u=>oC u
def FO (C:Cfg R) (f:Func) (n:Nat) (κ : List SV->Option R):Exit->St->Option R
 | .normal,s=>qD C f.results.toList (List.range n) κ s
 | .ret,s=>qD C f.results.toList (List.range n) κ s
 | _,_=>none
def D1 (C:Cfg R) (F:SpF) (f:Func) (args:List SV) (κ : List SV->Option R):Option R :=
 match f.body with
 | some c=>bF (decide (vars args<=64)) (gK C F c (entry f args) (FO C f (vars args) κ))
 | none=>none
theorem xL (hP:Ok P C.ty) (hD:∀ g,bM P C.ty tab g (C.call g)) {F:SpF} {it:Nat} (hF:SpOk P F it) {g:Nat} {fn:Func} (hf:P.funcs[g]? = some fn) (hname:(fn.name == "runtime.NumGoroutine")=false) {args:List SV} {κ : List SV->Option R} (hk:D1 C F fn args κ = some r)
  {w:World} {vs:Array Value} {Rt Ra:Nat->Prop} {bs:List Nat} (hpre:Pre C.ty tab w args vs.toList Rt Ra bs) :
  oq P g vs w fun v w'=>∃ res Rt' v0 back b1 b2,κ res=some r/\mK C.ty w args vs.toList Rt bs res v w' Rt' v0 back b1 b2:=by
 unfold D1 at hk
 cases hb:fn.body with
 | none=>rw [hb] at hk;cases hk
 | some c =>
  rw [hb] at hk;simp only at hk
  obtain ⟨hn,hk⟩:=cX hk
  simp only [decide_eq_true_eq] at hn
  refine .inr ⟨enters hf hb hname vs w,?_⟩
  let E:Env:=⟨C.ty,w,fun b=>b∈bs,Rt,Ra,fun i=>(eL args vs.toList).getD i 0⟩
  have hE:dY C tab E:=⟨rfl,fun b ob hob=>⟨(hpre.tab b ob hob).1,(hpre.tab b ob hob).2,fun hin=>(hpre.no b hin).1 (hpre.sub b (hpre.tab b ob hob).2)⟩⟩
  have h0:=qZ hpre fn hn
  refine callsIn_wide.1 (callsIn_of_wp_marks (F:=Fence.wide) (n:=6) hf hb trivial (wpIn_mono (Gp hP hE hD hF c h0 hk) fun e a' w' hq => ?_) rfl)
  obtain ⟨s',hret,β,Rt',Ra',hrel,hd⟩:=hq
  have fin:∀ (w2:World) (hrel2:Rel E s' { a' with defers:=[] } w2 β Rt' Ra'),qD C fn.results.toList (List.range (vars args)) κ s'=some r->LeavesInM Fence.wide 6 P fn a'.tmps (fun e w'=>∃ v,e = .returned v/\∃ res Rt' v0 back b1 b2,κ res=some r/\mK C.ty w args vs.toList Rt bs res v w' Rt' v0 back b1 b2) [] .returning w2:=by
   intro w2 hrel2 hret
   obtain ⟨v,res,v0,back,b1,b2,hrun,hkr,hres,hcr,hcb,hnd,hno⟩:=pZ hP rfl hrel2 (c0:=cc C.ty w Rt Ra) hpre.cat (fun i b hb=>by
    show (eL args vs.toList).getD i 0=b
    rw [List.getD_eq_getElem?_getD,hb];rfl) hn hret
   exact ⟨v,hrun,v,rfl,res,Rt',v0,back,b1,b2,hkr,hres,hrel2.fr,hcr,hcb,hnd,fun z hz=>⟨fun hr=>(hno z hz).1 (hrel2.sub z hr),(hno z hz).2.1,(hno z hz).2.2⟩,hrel2.rt0,fun z hz=>⟨hrel2.rlt z (hrel2.sub z hz),hrel2.rt z hz⟩⟩
  have go:qD C fn.results.toList (List.range (vars args)) κ s'=some r->LeavesInM Fence.wide 6 P fn a'.tmps (fun e w'=>∃ v,e = .returned v/\∃ res Rt' v0 back b1 b2,κ res=some r/\mK C.ty w args vs.toList Rt bs res v w' Rt' v0 back b1 b2) a'.defers .returning w':=by
   intro hret
   rcases hd with hd|⟨D,hd,hDf,hDR,hDE,hDo⟩
   ·rw [hd];exact fin w' hrel hret
   ·rw [hd]
    refine ⟨by simp,.inl ⟨_,_,rfl,run_takeDeferred hDf,fin _ (hrel.world (kp w' D _) fun b hb => ?_) hret⟩⟩
    subst hb;exact ⟨hDR,hDE,hDo⟩
  cases e with
  | normal=>exact go hret
  | ret=>exact go hret
  | _=>cases hret
theorem uC (hP:Ok P C.ty) (hD:∀ g,bM P C.ty tab g (C.call g)) {F:SpF} {it:Nat} (hF:SpOk P F it) {g:Nat} {fn:Func} (hf:P.funcs[g]? = some fn) (hname:(fn.name == "runtime.NumGoroutine")=false) {xs:List SV} {κ : List SV->Option R} {X:Option R} (h:D1 C F fn xs κ = X):aa P C.ty tab g xs κ X:=by
 intro r e w vs Rt Ra bs hpre
 exact xL hP hD hF hf hname (h.trans e) hpre
end
end
end Go.Proofs.Ab
