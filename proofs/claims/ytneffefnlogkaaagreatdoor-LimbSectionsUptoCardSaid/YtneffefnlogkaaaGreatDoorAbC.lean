/- The abstract machine: a run of a function's code over data without memory, and the proof that whatever this run says is what a call does (conditions: those of each lemma). -/
import Derived.Test.YtneffefnlogkaaaGreatDoorAbB
import Derived.Laws.Sem
import Derived.Laws.Externs
import Derived.Lib.Bytealg
import Derived.Shelf.Strings.Search2
import Derived.Below
import Derived.ChangeArms
import Derived.ChangeShapes
import Derived.SizedLaws
import Derived.CallsIn
import Derived.ControlIn
import Derived.RangeFuncIn
import Derived.RangeFuncCalls
import Derived.TacticsIn
import Derived.RangeFuncRecord
import Derived.RangeFuncSeq
set_option linter.unusedVariables false
set_option linter.unusedSimpArgs false
set_option maxRecDepth 4000
open List (all_eq_true mapM_cons append_nil flatMap_append append_assoc mem_cons mem_append drop_drop mem_range)
namespace Go.Proofs.Ab
open Go
variable {R:Type}
section
variable {P:Program} {E:Env} {s:St} {a:Act} {w:World} {β:Nat->Bl} {Rt Ra:Nat->Prop} {r:R} {C:Cfg R} {tab:cg}
def Hb (tmps:Array Value):ResultVar->Sem Value
 | .tmp t=>pure (tmps.getD t undef)
 | .cell k t=>do loadVar t (<- asAddr (tmps.getD k undef))
theorem yG (fn:Func) (tmps:Array Value):results fn tmps=(do
  let vs <- fn.results.mapM (Hb tmps)
  pure (if h:vs.size=1 then vs[0] else .tuple vs)):=rfl
theorem yF (hP:Ok P C.ty) (hE:E.T=C.ty) (h:Rel E s a w β Rt Ra) {x:ResultVar} {y:SV} (f:Fh C s x=some y):∃ v,(Hb a.tmps x).run P w = .ok v w/\S2 (bI E s w β Rt Ra) y v:=by
 cases x with
 | tmp t =>
  simp only [Fh] at f;cases f
  exact ⟨_,rfl,h.slots t⟩
 | cell k t =>
  simp only [Fh] at f
  split at f
  ·rename_i T hT
   split at f
   ·rename_i u off hk
    have N:=h.slots k
    rw [hk] at N
    obtain ⟨_,A⟩:_/\a.tmps.getD k undef=_:=N
    simp only [loadAt] at f
    split at f
    ·rename_i ty ls ho
     obtain ⟨ad,f⟩:=cf f
     obtain ⟨cs,qq,hg,ae⟩:=h.objs u _ ho
     have U:PW (SL (bI E s w β Rt Ra)) (sub ls off T.sz) ((cs.toList.drop off).take T.sz):=
      PW.imp_mem (fun z hz v A=>jW (List.all_eq_true.mp ad z hz) A) ((ae.drop off).take T.sz)
     obtain ⟨v,hr,N⟩:=lc (hP.ty t T hT) f U (w:=w) (p:=⟨(β u).b,off,none⟩) (fun j v O=>by
      rw [add_plain,cell_of_row w _ _ cs _ (0,0) hg]
      rw [List.getElem?_take] at O
      split at O
      ·rw [List.getElem?_drop] at O;simpa using O
      ·cases O)
     refine ⟨v,?_,dC N⟩
     simp only [Instr.loadAt,Instr.sureAddr,Sem.run_bind,Sem.run_pure,Result.andThen_ok] at hr
     show Sem.run P (do loadVar t (<- asAddr (a.tmps.getD k undef))) w=_
     rw [A]
     simp only [asAddr,Sem.run_bind,Sem.run_pure,Result.andThen_ok]
     exact hr
    ·cases f
   ·rename_i u n hk
    have N:=h.slots k
    rw [hk] at N
    obtain ⟨_,g,cap,e1,A⟩:_/\∃ g cap,(β u).v=_/\a.tmps.getD k undef = .pointer (some _):=N
    simp only [loadAt] at f
    split at f
    ·rename_i el l st ap
     split at f
     ·rename_i kk ar
      obtain ⟨a1,a2,a3,D,hD,a4,a5,a6,a7⟩:=gf ar
      obtain ⟨hb,f⟩:=cf f
      cases f
      simp only [Bool.and_eq_true] at hb
      have he:=Nat.eq_of_beq_eq_true hb.1;have ax:=Nat.eq_of_beq_eq_true hb.2
      subst he
      obtain ⟨T',cs,V,bb,m,a8⟩:=h.objs u _ ap
      have M:C.ty T.elem=some T':=by rw [<- hE];exact V
      rw [hD] at M;cases M
      rw [e1] at m
      have hlen:=m.1
      have W:n=l.length:=by
       rcases fK m with ⟨A,_⟩|⟨_,_,A,_⟩
       ·cases A
       ·cases A;rfl
      have X:D.sz=1:=by unfold TI.sz;rw [a4];rfl
      have Y:D.flat=true:=by unfold TI.flat;rw [a4];simp [a6]
      refine ⟨.agg cs.toArray,?_,dC (dR ⟨W.symm,D,cs.toArray,V,Y,rfl,by simp [hlen],RC.flat Y (by simpa using a8)⟩)⟩
      have:=run_loadCells_list (P:=P) w ⟨g,0,none⟩ cs (fun j v O=>by rw [add_plain,Nat.zero_add];exact gm m j v O)
      rw [hlen,X,Nat.mul_one,<- W,ax] at this
      show Sem.run P (do loadVar t (<- asAddr (a.tmps.getD k undef))) w=_
      rw [A]
      simp only [asAddr,Sem.run_bind,Sem.run_pure,Result.andThen_ok]
      simp [loadVar,gq (hP.ty t T hT),a1,fA (hP.ty t T hT),this]
     ·cases f
    ·cases f
   ·cases f
  ·cases f
theorem qH (u:Ok P C.ty) (z:E.T=C.ty) (h:Rel E s a w β Rt Ra):∀ (l:List ResultVar) (j:List SV),DS C s l=some j->∃ vs:List Value,(l.mapM (Hb a.tmps)).run P w = .ok vs w/\PW (S2 (bI E s w β Rt Ra)) j vs
 | [],j,f=>by cases f;exact ⟨[],rfl,trivial⟩
 | x::l,j,f=>by
  simp only [DS] at f
  split at f
  ·rename_i y A M N
   cases f
   obtain ⟨v,O,U⟩:=yF u z h M
   obtain ⟨vs,m,V⟩:=qH u z h l A N
   refine ⟨v::vs,?_,U,V⟩
   rw [mapM_cons]
   simp only [Sem.run_bind]
   rw [O];simp only [Result.andThen_ok]
   rw [m];rfl
  ·cases f
theorem rC (m:Ok P C.ty) (u:E.T=C.ty) (h:Rel E s a w β Rt Ra) {fn:Func} {f:List SV} (z:DS C s fn.results.toList=some f):∃ vs:List Value,(results fn a.tmps).run P w = .ok (match vs with|[v]=>v|_ => .tuple vs.toArray) w/\PW (S2 (bI E s w β Rt Ra)) f vs:=by
 obtain ⟨vs,j,A⟩:=qH m u h _ f z
 refine ⟨vs,?_,A⟩
 rw [yG]
 simp only [Sem.run_bind]
 rw [Array.mapM_eq_mapM_toList]
 simp only [map_eq_pure_bind,Sem.run_bind]
 rw [j]
 simp only [Result.andThen_ok,Sem.run_pure]
 match vs with
 | []=>rfl
 | [v]=>rfl
 | _::_::_=>simp
theorem yN {x:SV} {v:Value} (j:known x=true) (m:BB x=true) (f:tok x=none) (u:∀ e l st i off,x ≠ .rl e l st i off) (h:SL (bI E s w β Rt Ra) x v):CL (cc E.T w Rt Rt) x v []:=by
 refine rL f (fun e=>by subst e;cases j) (fun e l st A=>by subst A;cases j) ?_
 cases x <;> simp only [SL] at h ⊢ <;> first|exact h|(cases f;done)|skip
 case ro e l st =>
  have:st=true:=m
  subst this
  exact h.mono (fun b z=>by unfold Cx.Q at z ⊢;rw [if_pos rfl] at z ⊢;exact z) (fun _ _=>rfl)
 case rl e l st i off=>exact absurd rfl (u _ _ _ _ _)
 case cls g M =>
  cases M with
  | nil=>exact ⟨fun t f=>(by cases f),h.2⟩
  | cons _ _=>cases f
 case ra e n l st=>cases j
theorem kr (h:Rel E s a w β Rt Ra) {x y:SV} {v:Value} (N:SL (bI E s w β Rt Ra) x v) (f:js s x=some y):CL (cc E.T w Rt Rt) y v ((owns [x]).flatMap (tb s β)):=by
 unfold js at f
 split at f
 ·rename_i e n l
  cases f
  refine rL rfl (by simp) (by simp) ?_
  obtain ⟨h0,D,cs,h1,h2,h3,h4,h5⟩:=N
  exact ⟨h0,D,cs,h1,h2,h3,h4,h5.mono (fun _ m=>m) (fun _ m=>m.elim)⟩
 ·rename_i t
  split at f
  ·rename_i e l A
   cases f
   obtain ⟨D,cs,hT,ap,j,O⟩:=h.objs t _ A
   obtain ⟨_,hv,_,u⟩:_/\v=(β t).v/\_/\(β t).arr=false:=N
   have j:fx w (β t).arr e D.sz (β t).v l.length cs:=j
   rw [u] at j
   refine ⟨D,cs,hT,hv▸j,?_,?_⟩
   ·refine O.mono (fun b m => ?_) (fun _ _=>rfl)
    unfold Cx.Q at m ⊢;rw [if_pos rfl] at m ⊢;exact m
   ·simp only [owns,List.flatMap_cons,List.flatMap_nil,append_nil,tb,A,cu,hv]
  ·cases f
 ·cases f
 ·cases f
 ·cases f
 ·cases f
 ·cases f
 ·cases f
 ·cases f
 ·rename_i ar z U V W X Y ad ae
  obtain ⟨M,rfl⟩:=nh f
  simp only [Bool.and_eq_true] at M
  have A:owns [x]=[]:=by cases x <;> first|rfl|exact absurd rfl (z _)
  rw [A]
  refine yN M.1 M.2 ?_ X N
  cases x <;> first|rfl|exact absurd rfl (Y _ _)|exact absurd rfl (ad _ _)|exact absurd rfl (ae _)|exact absurd rfl (z _)|exact absurd rfl (U _ _ _)|exact absurd rfl (V _ _)|exact absurd rfl (W _ _ _)|cases M.1
theorem oJ (h:Rel E s a w β Rt Ra):∀ (l:List SV) (vs:List Value) (m:List SV),PW (SL (bI E s w β Rt Ra)) l vs->tp s l=some m->jM (CL (cc E.T w Rt Rt)) m vs ((owns l).flatMap (tb s β))
 | [],[],m,_,f=>by cases f;rfl
 | x::l,v::vs,m,j,f=>by
  unfold tp at f
  split at f
  ·rename_i y u z A
   cases f
   rw [jp,flatMap_append]
   exact ⟨_,_,rfl,kr h j.1 z,oJ h l vs u j.2 A⟩
  ·cases f
 | [],_::_,_,j,_=>j.elim
 | _::_,[],_,j,_=>j.elim
theorem qS (x:SV) (l u:List SV) (f:gU s (x::l)=some u):∃ y j,u=y::j/\gU s l=some j/\((x = .no/\y = .no)∨(x = .nos/\y = .nos)∨(∃ t,x = .own t/\s.obj t=some .hole/\y = .no)∨js s x=some y):=by
 by_cases z:x = .no
 ·subst z;simp only [gU] at f
  split at f
  ·rename_i j m;cases f;exact ⟨_,_,rfl,m,.inl ⟨rfl,rfl⟩⟩
  ·cases f
 ·by_cases m:x = .nos
  ·subst m;simp only [gU] at f
   split at f
   ·rename_i j m;cases f;exact ⟨_,_,rfl,m,.inr (.inl ⟨rfl,rfl⟩)⟩
   ·cases f
  ·by_cases A:∃ t,x = .own t
   ·obtain ⟨t,rfl⟩:=A
    simp only [gU] at f
    split at f
    ·rename_i M
     split at f
     ·rename_i j g;cases f;exact ⟨_,_,rfl,g,.inr (.inr (.inl ⟨t,rfl,M,rfl⟩))⟩
     ·cases f
    ·split at f
     ·rename_i y j g1 g2;cases f;exact ⟨_,_,rfl,g2,.inr (.inr (.inr g1))⟩
     ·cases f
   ·have e:gU s (x::l)=(match js s x,gU s l with
     | some y,some l=>some (y::l)
     | _,_=>none):=by cases x <;> first|rfl|exact absurd rfl z|exact absurd rfl m|exact absurd ⟨_,rfl⟩ A
    rw [e] at f
    split at f
    ·rename_i y j g1 g2;cases f;exact ⟨_,_,rfl,g2,.inr (.inr (.inr g1))⟩
    ·cases f
theorem oI (h:Rel E s a w β Rt Ra) {b:Nat}:∀ (l:List SV) (vs:List Value) (j:List SV),PW (lS (bI E s w β Rt Ra) b) l vs->gU s l=some j->jM (BH (cc E.T w Rt Rt) b) j vs ((owns l).flatMap (tb s β))
 | [],[],j,_,m=>by cases m;rfl
 | x::l,v::vs,j,f,m=>by
  obtain ⟨y,z,rfl,A,u⟩:=qS x l j m
  rw [jp,flatMap_append]
  refine ⟨_,_,rfl,?_,oI h l vs z f.2 A⟩
  rcases u with ⟨rfl,rfl⟩|⟨rfl,rfl⟩|⟨t,rfl,M,rfl⟩|u
  ·exact ⟨rfl,rfl,by simp,trivial⟩
  ·exact ⟨rfl,f.1⟩
  ·have e:(owns [SV.own t]).flatMap (tb s β)=[]:=by simp [owns,tb,M,cu]
   rw [e];exact ⟨rfl,rfl,by simp,trivial⟩
  ·exact pf (kr h (tO f.1) u) b
 | [],_::_,_,f,_=>f.elim
 | _::_,[],_,f,_=>f.elim
theorem Bx (l:List SV):js s (.tup l)=none:=rfl
theorem wU (h:Rel E s a w β Rt Ra) {x y:SV} {v:Value} (m:S2 (bI E s w β Rt Ra) x v) (f:tu s x=some y):yW (cc E.T w Rt Rt) y v ((owns (leaves x)).flatMap (tb s β)):=by
 rcases gS x with ⟨l,rfl⟩|j
 ·simp only [tu] at f
  split at f
  ·rename_i u z;cases f
   obtain ⟨cs,rfl,A⟩:=jx m
   exact ⟨cs,rfl,oJ h l _ u A z⟩
  ·cases f
 ·have e:tu s x=js s x:=by cases x <;> first|rfl|exact absurd rfl (j _)
  rw [e] at f
  rw [lN j]
  have M:∀ l,x ≠ .tup l:=fun l e=>by subst e;rw [Bx] at f;cases f
  exact BQ (kr h (za j (zb M m)) f)
theorem oH (h:Rel E s a w β Rt Ra):∀ (l:List SV) (vs:List Value) (m:List SV),PW (S2 (bI E s w β Rt Ra)) l vs->qR s l=some m->jM (yW (cc E.T w Rt Rt)) m vs ((e7 l).flatMap (tb s β))
 | [],[],m,_,f=>by cases f;rfl
 | x::l,v::vs,m,j,f=>by
  unfold qR at f
  split at f
  ·rename_i y u z A
   cases f
   rw [e7,flatMap_append]
   exact ⟨_,_,rfl,wU h j.1 z,oH h l vs u j.2 A⟩
  ·cases f
 | [],_::_,_,j,_=>j.elim
 | _::_,[],_,j,_=>j.elim
def Fb (s:St):List Nat->List Nat
 | []=>[]
 | k::r=>k::(match s.obj k with
  | some (.var _ f)=>owns f
  | _=>[])++Fb s r
theorem wB (s:St):∀ (l:List Nat),(Fb s l).Perm (l++lG s l)
 | []=>List.Perm.refl _
 | k::r=>by
  simp only [Fb,lG,List.cons_append]
  refine List.Perm.cons _ ?_
  refine ((wB s r).append_left _).trans ?_
  rw [<- append_assoc,<- append_assoc]
  exact List.perm_append_comm.append_right _
theorem jB (h:Rel E s a w β Rt Ra) {c0:Cx}:∀ (args:List SV) (vs:List Value) (bs:List Nat) (k:Nat) (back:List SV),jM (CV c0) args vs bs->(∀ i b,(eQ args vs)[i]? = some b->E.pb (k+i)=b)->k+vars args<=64->jA s (List.range' k (vars args))=some back ->
  CB (cc E.T w Rt Rt) args vs back ((Fb s (List.range' k (vars args))).flatMap (tb s β))
 | [],[],bs,k,back,_,_,_,f=>by
  simp only [vars,List.range'_zero,jA] at f;cases f;exact ⟨rfl,rfl⟩
 | x::args,v::vs,bs,k,back,Y,j,M,f=>by
  obtain ⟨b1,V,rfl,hx,W⟩:=Y
  by_cases X:∃ ty l,x = .vp ty l
  ·obtain ⟨ty,l0,rfl⟩:=X
   have m:vars (SV.vp ty l0::args)=vars args+1:=rfl
   rw [m,List.range'_succ] at f ⊢
   rw [m] at M
   obtain ⟨b,_,_,_,rfl,_,_,_⟩:=hx
   simp only [jA] at f
   split at f
   ·rename_i ad ls bk A u
    split at f
    ·rename_i us hs
     cases f
     obtain ⟨cs,q,hh,hp⟩:=h.objs k _ A
     have N:(β k).b=b:=by
      rw [h.pin k _ A (by omega)];exact j 0 b rfl
     refine ⟨b,cs,q,_,_,rfl,by rw [<- N];exact hh,by rw [<- N];exact oI h ls _ us hp hs,?_,jB h args vs V (k+1) bk W (fun i b' O=>by rw [show k+1+i=k+(i+1) by omega];exact j (i+1) b' O) (by omega) u⟩
     simp only [Fb,A,List.cons_append,List.flatMap_cons,flatMap_append]
     rw [show tb s β k=[b] by unfold tb;rw [A];simp [cu,N]]
     simp
    ·cases f
   ·cases f
  ·have z:∀ ty l,x ≠ .vp ty l:=fun ty l e=>X ⟨ty,l,e⟩
   rw [Al z] at f M ⊢
   have U:eQ (x::args) (v::vs)=eQ args vs:=by cases x <;> first|rfl|exact absurd rfl (z _ _)
   rw [U] at j
   rw [rJ _ z]
   exact jB h args vs V k back W j M f
 | [],_::_,_,_,_,h,_,_,_=>h.elim
 | _::_,[],_,_,_,h,_,_,_=>h.elim
theorem pj:∀ (ps:List Nat) {back:List SV},jA s ps=some back->∀ k∈ps,∃ ty u z,s.obj k=some (.var ty u)/\gU s u=some z
 | [],_,_,k,j=>by cases j
 | p::r,back,m,k,j=>by
  simp only [jA] at m
  split at m
  ·rename_i ty u N A f
   split at m
   ·rename_i z M
    rcases List.mem_cons.1 j with rfl|j
    ·exact ⟨ty,u,z,A,M⟩
    ·exact pj r f k j
   ·cases m
  ·cases m
theorem nZ {x y:SV} (f:js s x=some y):∀ t∈owns [x],∃ e l st,s.obj t=some (.row e l st):=by
 intro t j
 cases x <;> simp only [owns,List.not_mem_nil] at j
 simp only [List.mem_singleton] at j;subst j
 simp only [js] at f
 split at f
 ·exact ⟨_,_,_,by assumption⟩
 ·cases f
theorem tq:∀ {l m:List SV},tp s l=some m->∀ t∈owns l,∃ e l st,s.obj t=some (.row e l st)
 | [],_,_,t,f=>by cases f
 | x::l,m,j,t,f=>by
  unfold tp at j
  split at j
  ·rename_i y A u z
   rw [jp] at f
   rcases List.mem_append.1 f with f|f
   ·exact nZ u t f
   ·exact tq z t f
  ·cases j
theorem tn:∀ {l j:List SV},gU s l=some j->∀ t∈owns l,∀ ty m,s.obj t≠some (.var ty m)
 | [],_,_,t,f=>by cases f
 | x::l,j,A,t,f=>by
  obtain ⟨y,U,rfl,M,z⟩:=qS x l j A
  rw [jp] at f
  rcases List.mem_append.1 f with f|f
  ·rcases z with ⟨rfl,_⟩|⟨rfl,_⟩|⟨u,rfl,N,_⟩|z
   ·cases f
   ·cases f
   ·simp only [owns,List.mem_singleton] at f;subst f
    intro ty m e;rw [N] at e;cases e
   ·obtain ⟨_,_,_,O⟩:=nZ z t f
    intro ty m e;rw [O] at e;cases e
  ·exact tn M t f
theorem tm:∀ {l u:List SV},qR s l=some u->∀ t∈e7 l,∃ e l st,s.obj t=some (.row e l st)
 | [],_,_,t,f=>by cases f
 | x::l,u,m,t,f=>by
  unfold qR at m
  split at m
  ·rename_i y N j A
   rw [e7] at f
   rcases List.mem_append.1 f with f|f
   ·rcases gS x with ⟨l',rfl⟩|z
    ·simp only [tu] at j
     split at j
     ·rename_i M;exact tq M t f
     ·cases j
    ·have e:tu s x=js s x:=by cases x <;> first|rfl|exact absurd rfl (z _)
     rw [e] at j;rw [lN z] at f
     exact nZ j t f
   ·exact tm A t f
  ·cases m
theorem qu:∀ (ps:List Nat) {back:List SV},jA s ps=some back->∀ t∈lG s ps,∀ ty u,s.obj t≠some (.var ty u)
 | [],_,_,t,f=>by cases f
 | p::r,back,m,t,f=>by
  simp only [jA] at m
  split at m
  ·rename_i ty u M z j
   split at m
   ·rename_i N A
    simp only [lG,z] at f
    rcases List.mem_append.1 f with f|f
    ·exact tn A t f
    ·exact qu r j t f
   ·cases m
  ·cases m
end
end Go.Proofs.Ab
namespace Go.Proofs.Ab
open Go
variable {R:Type}
section
variable {P:Program} {C:Cfg R} {tab:cg} {r:R}
theorem uL (n:Nat):List.range n=List.range' 0 n:=List.range_eq_range'
theorem enters {g:Nat} {fn:Func} {c:Code} (hf:P.funcs[g]? = some fn) (hb:fn.body=some c) (hn:(fn.name == "runtime.NumGoroutine")=false) (vs:Array Value) (w:World):(callFunc g vs).run P w = .ok (.enter g vs) w:=by
 have hn':fn.name ≠ "runtime.NumGoroutine" := by simpa using hn
 unfold callFunc
 simp [hf,hb,hn']
theorem qJ (hP:Ok P C.ty) {E:Env} (hE:E.T=C.ty) {s:St} {a:Act} {w:World} {β:Nat->Bl} {Rt Ra:Nat->Prop} (h:Rel E s a w β Rt Ra) {fn:Func} {args:List SV} {vs:List Value} {c0:Cx} {bs:List Nat} {κ:List SV->Option R} (ae:jM (CV c0) args vs bs) (ax:∀ i b,(eQ args vs)[i]? = some b->E.pb i=b) (hn:vars args<=64)
  (A:rD C fn.results.toList (List.range (vars args)) κ s=some r):∃ v res v0 back b1 b2,(results fn a.tmps).run P w = .ok v w/\κ res=some r/\res=v0::back/\CR (cc E.T w Rt Rt) v0 v b1/\CB (cc E.T w Rt Rt) args vs back b2/\(b1++b2).Nodup/\∀ b∈b1++b2,¬ Ra b/\b<w.heap.size/\(E.w0.heap.size<=b∨E.W0 b):=by
 unfold rD at A
 split at A
 ·rename_i U back ap j
  obtain ⟨M,A⟩:=cf A
  replace M:=fp M
  obtain ⟨us,f,a1⟩:=rC hP hE h ap
  have N:=qu _ j
  have V:=pj _ j
  have ar:CB (cc E.T w Rt Rt) args vs back ((Fb s (List.range (vars args))).flatMap (tb s β)):=by
   rw [uL] at j ⊢
   exact jB h args vs bs 0 back ae (fun i b O=>by rw [Nat.zero_add];exact ax i b O) (by omega) j
  have main:∀ W,qR s U=some W->jM (yW (cc E.T w Rt Rt)) W us ((e7 U).flatMap (tb s β))/\((e7 U).flatMap (tb s β)++(Fb s (List.range (vars args))).flatMap (tb s β)).Nodup/\∀ b∈(e7 U).flatMap (tb s β)++(Fb s (List.range (vars args))).flatMap (tb s β),¬ Ra b/\b<w.heap.size/\(E.w0.heap.size<=b∨E.W0 b):=by
   intro W hz
   have X:=tm hz
   refine ⟨oH h U us W a1 hz,?_,?_⟩
   ·rw [<- flatMap_append]
    refine kQ h.toRelO ?_
    have hp:(e7 U++Fb s (List.range (vars args))).Perm (List.range (vars args)++(e7 U++lG s (List.range (vars args)))):=
     ((wB s _).append_left _).trans (by rw [<- append_assoc,<- append_assoc];exact List.perm_append_comm.append_right _)
    rw [hp.nodup_iff,List.nodup_append]
    refine ⟨List.nodup_range,M,fun k A t ht e => ?_⟩
    subst e
    obtain ⟨ty,ls,_,ho,_⟩:=V k A
    rcases List.mem_append.1 ht with ht|ht
    ·obtain ⟨_,_,_,h2⟩:=X k ht;rw [ho] at h2;cases h2
    ·exact N k ht _ _ ho
   ·intro b O
    rw [<- flatMap_append] at O
    obtain ⟨t,_,O⟩:=List.mem_flatMap.1 O
    unfold tb at O;split at O
    ·rename_i o ho
     obtain ⟨g1,g2,g3⟩:=h.dc t o ho b O
     exact ⟨g2,g1,g3⟩
    ·cases O
  split at A
  ·rename_i v0 hz
   obtain ⟨m,m2,m3⟩:=main _ hz
   match us,m,f with
   | [],m,_=>exact m.elim
   | _::_::_,⟨_,_,_,_,m⟩,_=>exact m.elim
   | [u],⟨b1,b2,e,m,e2⟩,f =>
    have e2:b2=[]:=e2
    subst e2;rw [append_nil] at e
    refine ⟨u,_,v0,back,b1,_,f,A,rfl,?_,ar,by rw [<- e];exact m2,by rw [<- e];exact m3⟩
    have a6:∀ l,v0 ≠ .tup l:=fun l e=>by subst e;exact m.2.2.2
    unfold CR;split
    ·exact absurd rfl (a6 _)
    ·exact m
  ·rename_i W Y hz
   obtain ⟨m,m2,m3⟩:=main _ hz
   have ad:(results fn a.tmps).run P w = .ok (.tuple us.toArray) w:=by
    match us,m,f with
    | [],_,f=>exact f
    | _::_::_,_,f=>exact f
    | [u],m,_ =>
     have:=m.len
     match W,this,Y with
     | [z],_,Y=>exact (Y z rfl).elim
   refine ⟨_,_,.tup W,back,_,_,ad,A,rfl,⟨us.toArray,rfl,by simpa using m⟩,ar,m2,m3⟩
  ·cases A
 ·cases A
theorem sa {w:World} {args:List SV} {vs:Array Value} {Rt Ra:Nat->Prop} {bs:List Nat} (f:Pre C.ty tab w args vs.toList Rt Ra bs) (fn:Func) (W:vars args<=64) :
  dj ⟨C.ty,w,fun b=>b∈bs,Rt,Ra,fun i=>(eQ args vs.toList).getD i 0⟩ (entry fn args) { tmps:=vs++Array.replicate (fn.ntmps-vs.size) undef,defers:=[] } w:=by
 let E:Env:=⟨C.ty,w,fun b=>b∈bs,Rt,Ra,fun i=>(eQ args vs.toList).getD i 0⟩
 have V:Rel E ⟨[],mw (vars args),64⟩ { tmps := #[],defers:=[] } w (fun t=>⟨undef,E.pb t,0,false⟩) Rt Ra:=by
  refine ⟨⟨fun t o m => ?_,fun t o m => ?_,fun t o m => ?_,fun t o X Y m _ _ => ?_,f.sub,f.rlt,Fr.refl _ w,fun _ h=>h,fun _ h=>h,fun b u => .inl u,Nat.le_refl _,fun _ _ _ _=>rfl⟩,rfl,rfl,fun i => ?_⟩
  ·obtain ⟨_,rfl⟩:=hY _ m;trivial
  ·have:=(hY _ m).1;show t<64;omega
  ·obtain ⟨_,rfl⟩:=hY _ m;intro b u;cases u
  ·obtain ⟨_,rfl⟩:=hY _ m;intro b u;cases u
  ·show S2 _ (fc [] i) _;trivial
 obtain ⟨β,j,_,A⟩:=jD (β:=fun t=>⟨undef,E.pb t,0,false⟩) (fun _ h=>h) (fun _ h=>h) args vs.toList bs 0 V f.cat f.nd (fun z M=>⟨(f.no z M).2,(f.no z M).1,.inr M,fun t o m=>by
   obtain ⟨_,rfl⟩:=hY _ m;intro u;cases u⟩) (fun i _ O=>su _ (by omega)) (fun i b u=>by
   show (eQ args vs.toList).getD (0+i) 0=b
   rw [Nat.zero_add,List.getD_eq_getElem?_getD,u];rfl) (by omega)
 refine ⟨β,Rt,Ra,⟨⟨j.objs,j.lt,j.dc,j.apart,j.sub,j.rlt,j.fr,j.rt0,j.ra0,j.rt,j.nx,j.pin⟩,?_,rfl,fun i => ?_⟩⟩
 ·have:=A.len
  simp only [Array.length_toList] at this
  simp [entry,this]
 ·have U:=A.len
  simp only [Array.length_toList] at U
  show S2 _ (fc (_++_) i) _
  rw [ud,List.getD_eq_getElem?_getD,Array.getD_eq_getD_getElem?]
  by_cases N:i<vs.size
  ·rw [List.getElem?_append_left (by omega),Array.getElem?_append_left N]
   have j:(fM ⟨[],mw (vars args),64⟩ 0 args).1[i]? = some ((fM ⟨[],mw (vars args),64⟩ 0 args).1[i]'(by omega)):=List.getElem?_eq_getElem _
   have O:vs.toList[i]? = some vs[i]:=by simp [N]
   rw [j,Array.getElem?_eq_getElem N]
   exact dC (A.get j O)
  ·rw [List.getElem?_append_right (by omega),Array.getElem?_append_right (by omega),List.getElem?_replicate,Array.getElem?_replicate]
   rw [U]
   split
   ·rfl
   ·trivial
theorem yJ (hP:Ok P C.ty) (hD:∀ g,bT P C.ty tab g (C.call g)) {g:Nat} {fn:Func} (hf:P.funcs[g]? = some fn) (hname:(fn.name == "runtime.NumGoroutine")=false) {n fuel:Nat} {args:List SV} {κ:List SV->Option R} (hk:cA C fn n fuel args κ=some r)
  {w:World} {vs:Array Value} {Rt Ra:Nat->Prop} {bs:List Nat} (hpre:Pre C.ty tab w args vs.toList Rt Ra bs) :
  oY P g vs w fun v w'=>∃ res Rt' v0 back b1 b2,κ res=some r/\m9 C.ty w args vs.toList Rt bs res v w' Rt' v0 back b1 b2:=by
 unfold cA at hk
 cases hb:fn.body with
 | none=>rw [hb] at hk;cases hk
 | some c =>
  rw [hb] at hk;simp only at hk
  obtain ⟨hn,hk⟩:=c9 hk
  simp only [decide_eq_true_eq] at hn
  refine .inr ⟨enters hf hb hname vs w,fun cs => ?_⟩
  let E:Env:=⟨C.ty,w,fun b=>b∈bs,Rt,Ra,fun i=>(eQ args vs.toList).getD i 0⟩
  have hE:ee C tab E:=⟨rfl,fun b ob hob=>⟨(hpre.tab b ob hob).1,(hpre.tab b ob hob).2,fun hin=>(hpre.no b hin).1 (hpre.sub b (hpre.tab b ob hob).2)⟩⟩
  have h0:=sa hpre fn hn
  let b:Frame:={ (default:Frame) with fn:=g,kind := .normal }
  have henter:Frame.enter P g vs .normal=b.at { tmps:=vs++Array.replicate (fn.ntmps-vs.size) undef,defers:=[] } [.code c]:=by
   simp [Frame.enter,Frame.at,hf,hb,b]
  obtain ⟨s',a',w',todo,hret,⟨β,Rt',Ra',hrel⟩,hsteps⟩:=nY (b:=b) (cs:=cs) (ret:=rD C fn.results.toList (List.range (vars args)) κ) hP hE hD (fun todo s a w h hk=>p6 hP hE hD n fuel todo s a w h hk) n _ _ _ _ h0 hk
  obtain ⟨v,res,v0,back,b1,b2,hrun,hkr,hres,hcr,hcb,hnd,hno⟩:=qJ hP rfl hrel (c0:=cc C.ty w Rt Ra) hpre.cat (fun i b hb=>by
   show (eQ args vs.toList).getD i 0=b
   rw [List.getD_eq_getElem?_getD,hb];rfl) hn hret
  refine ⟨.returned v,w',_,⟨v,rfl,res,Rt',v0,back,b1,b2,hkr,hres,hrel.fr,hcr,hcb,hnd,fun z hz=>⟨fun hr=>(hno z hz).1 (hrel.sub z hr),(hno z hz).2.1,(hno z hz).2.2⟩,hrel.rt0,fun z hz=>⟨hrel.rlt z (hrel.sub z hz),hrel.rt z hz⟩⟩,by rw [henter];exact hsteps,rfl,rfl,hrel.defers,rfl,fn,hf,hrun⟩
end
end Go.Proofs.Ab
namespace Go.Proofs.Ab
open Go
variable {P:Program}
def Cy (P:Program) (g:TypeId->List LK->Bool):List Field->Nat->List LK->Bool
 | [],_,lv=>lv.isEmpty
 | f::fs,off,lv=>match P.info? f.type with
  | some i=>(f.name != "_")&&Nat.beq f.offset off&&Nat.ble i.size lv.length&&g f.type (lv.take i.size)&&Cy P g fs (off+i.size) (lv.drop i.size)
  | none=>false
def FM (P:Program):Nat->TypeId->List LK->Bool
 | 0,_,_=>false
 | d+1,t,lv=>match P.underlying t with
  | some (.int k)=>decide (lv=[.int k])
  | some .bool=>decide (lv=[.bool])
  | some .string=>decide (lv=[.str])
  | some (.struct f) => !P.stoodInHeld t&&Cy P (FM P d) f.toList 0 lv
  | _=>false
theorem kj:∀ (n:Nat) {lv:List LK} {l m:List SV} {b:Bool},dD lv l m=some b->∃ f j,dD (lv.take n) (l.take n) (m.take n)=some f/\dD (lv.drop n) (l.drop n) (m.drop n)=some j/\b=(f&&j)
 | 0,lv,l,m,b,h=>⟨true,b,rfl,by simpa using h,by simp⟩
 | n+1,[],[],[],b,h=>by simp only [dD] at h;cases h;exact ⟨true,true,rfl,rfl,rfl⟩
 | n+1,k::A,x::xs,y::M,b,h=>by
  simp only [dD] at h
  split at h
  ·rename_i a c u z
   cases h
   obtain ⟨f,j,g1,g2,rfl⟩:=kj n z
   refine ⟨a&&f,j,?_,by simpa using g2,by simp [Bool.and_assoc]⟩
   simp only [List.take_succ_cons,dD,u,g1]
  ·cases h
 | n+1,[],_::_,_,_,h=>by simp [dD] at h
 | n+1,[],[],_::_,_,h=>by simp [dD] at h
 | n+1,_::_,[],_,_,h=>by simp [dD] at h
 | n+1,_::_,_::_,[],_,h=>by simp [dD] at h
theorem gX:∀ {lv:List LK} {l m:List SV} {b:Bool},dD lv l m=some b->l.length=lv.length/\m.length=lv.length
 | [],[],[],_,_=>⟨rfl,rfl⟩
 | k::j,x::xs,y::u,b,h=>by
  simp only [dD] at h
  split at h
  ·rename_i z f;have:=gX f;simp [this.1,this.2]
  ·cases h
 | [],_::_,_,_,h=>by simp [dD] at h
 | [],[],_::_,_,h=>by simp [dD] at h
 | _::_,[],_,_,h=>by simp [dD] at h
 | _::_,_::_,[],_,h=>by simp [dD] at h
def jU (agg:Bool) (l:List SV) (v:Value):Prop:=
 if agg=true then ∃ xs:Array Value,v = .agg xs/\PW gp l xs.toList else PW gp l [v]
theorem qv {f:Field} {i:TypeInfo} {d:TypeDesc} (M:P.info? f.type=some i) (z:P.underlying f.type=some d) (N:jQ d=false->i.size=1) {l:List SV} {xs:Array Value} {off:Nat} (O:f.offset=off) (m:PW gp l (xs.toList.drop off)) (U:i.size<=l.length) (w:World) :
  ∃ v,(part f.type xs f.offset).run P w = .ok v w/\jU (jQ d) (l.take i.size) v:=by
 subst O
 cases u:jQ d with
 | true =>
  refine ⟨.agg ((xs.toList.drop f.offset).take i.size).toArray,?_,?_⟩
  ·simp only [part,Sem.run_bind,jK z,u,Result.andThen_ok,if_true,mY M,Sem.run_pure]
   congr 2
   apply Array.ext'
   simp [List.take_drop,Nat.add_comm]
  ·unfold jU;rw [if_pos rfl]
   exact ⟨_,rfl,by simpa using m.take i.size⟩
 | false =>
  have V:=N u
  rw [V] at U ⊢
  have hlen:=m.len
  have j:f.offset<xs.size:=by
   rw [List.length_drop] at hlen;simp at hlen;omega
  refine ⟨xs[f.offset],?_,?_⟩
  ·have:xs[f.offset]? = some xs[f.offset]:=Array.getElem?_eq_getElem j
   simp [part,jK z,u,this]
  ·unfold jU;rw [if_neg (by simp)]
   have A:=m.take 1
   have:(xs.toList.drop f.offset).take 1=[xs[f.offset]]:=by
    rw [List.drop_eq_getElem_cons (by simpa using j)];simp
   rw [this] at A;exact A
theorem EL:∀ (d:Nat) {t:TypeId} {lv:List LK},FM P d t lv=true->∃ f,P.underlying t=some f/\(jQ f=false->lv.length=1)
 | 0,_,_,h=>by cases h
 | d+1,t,lv,h=>by
  simp only [FM] at h
  split at h
  ·rename_i e;exact ⟨_,e,fun _=>by simp at h;rw [h];rfl⟩
  ·rename_i e;exact ⟨_,e,fun _=>by simp at h;rw [h];rfl⟩
  ·rename_i e;exact ⟨_,e,fun _=>by simp at h;rw [h];rfl⟩
  ·rename_i e;exact ⟨_,e,fun h=>by cases h⟩
  ·cases h
theorem pM (d D:Nat) (ih:∀ {t:TypeId} {lv:List LK},FM P d t lv=true->∀ (w:World) (l m:List SV) (x y:Value) z b,P.underlying t=some z->jU (jQ z) l x->jU (jQ z) m y->dD lv l m=some b->(Op.equalIn D t x y).run P w = .ok b w) (xs U:Array Value) (w:World) :
  ∀ (N:List Field) (off:Nat) (lv:List LK),Cy P (FM P d) N off lv=true->∀ (l m:List SV) b,PW gp l (xs.toList.drop off)->PW gp m (U.toList.drop off)->dD lv l m=some b->(Op.eqFields D xs U N).run P w = .ok b w
 | [],off,lv,h,l,m,b,_,_,A=>by
  simp only [Cy,List.isEmpty_iff] at h;subst h
  have:=gX A
  match l,m,this with
  | [],[],_=>cases A;rfl
 | f::N,off,lv,h,l,m,b,hl,hm,A=>by
  simp only [Cy] at h
  split at h
  ·rename_i i hi
   simp only [Bool.and_eq_true,bne_iff_ne,ne_eq] at h
   obtain ⟨⟨⟨⟨hn,O⟩,hs⟩,hg⟩,hr⟩:=h
   have O:=Nat.eq_of_beq_eq_true O
   have hs:=Nat.le_of_ble_eq_true hs
   have hlen:=gX A
   obtain ⟨b1,b2,g1,g2,rfl⟩:=kj i.size A
   obtain ⟨z,V,M⟩:=EL d hg
   have j:jQ z=false->i.size=1:=fun ha=>by have:=M ha;rw [List.length_take] at this;omega
   obtain ⟨u,W,X⟩:=qv hi V j O hl (by omega) w
   obtain ⟨v,Y,ad⟩:=qv hi V j O hm (by omega) w
   have he:=ih hg w _ _ u v z b1 V X ad g1
   simp only [Op.eqFields,hn,ne_eq,not_false_eq_true,if_true,Sem.run_bind,W,Y,he,Result.andThen_ok]
   cases b1 with
   | false=>simp
   | true =>
    simp only [Bool.not_true,Bool.false_eq_true,if_false,Bool.true_and]
    refine pM d D ih xs U w N (off+i.size) _ hr _ _ b2 ?_ ?_ g2
    ·rw [<- drop_drop];exact hl.drop i.size
    ·rw [<- drop_drop];exact hm.drop i.size
  ·cases h
theorem sb:∀ (d:Nat) (k:Nat) {t:TypeId} {lv:List LK},FM P d t lv=true->∀ (w:World) (l m:List SV) (x y:Value) N b,P.underlying t=some N->jU (jQ N) l x->jU (jQ N) m y->dD lv l m=some b->(Op.equalIn (d+k) t x y).run P w = .ok b w
 | 0,_,_,_,h=>by cases h
 | d+1,k,t,lv,h=>by
  intro w l m x y N b M f hm z
  simp only [FM] at h
  rw [M] at h
  rw [show d+1+k=(d+k)+1 by omega]
  have basic:∀ k1,lv=[k1]->jQ N=false->∃ x0 j,l=[x0]/\m=[j]/\qh k1 x0 j=some b/\gp x0 x/\gp j y:=by
   intro k1 U ha
   subst U
   rw [ha] at f hm
   unfold jU at f hm;rw [if_neg (by simp)] at f hm
   have:=gX z
   match l,m,this,z,f,hm with
   | [x0],[j],_,z,f,hm =>
    simp only [dD] at z
    split at z
    ·rename_i a c h1 h2
     cases h2;cases z
     exact ⟨x0,j,rfl,rfl,by simpa using h1,f.1,hm.1⟩
    ·cases z
  split at h
  ·rename_i k1 e
   simp only [Option.some.injEq] at e;subst e
   obtain ⟨x0,j,rfl,rfl,u,A,hy⟩:=basic _ (by simpa using h) rfl
   cases x0 <;> cases j <;> simp only [qh] at u <;> try (cases u;done)
   obtain ⟨O,V⟩:=cf u
   simp only [Bool.and_eq_true,decide_eq_true_eq] at O
   obtain ⟨rfl,rfl⟩:=O
   cases V
   simp only [gp] at A hy;subst A;subst hy
   exact run_equalIn_int w (d+k) t _ _ _ _ M
  ·rename_i e
   simp only [Option.some.injEq] at e;subst e
   obtain ⟨x0,j,rfl,rfl,u,A,hy⟩:=basic _ (by simpa using h) rfl
   cases x0 <;> cases j <;> simp only [qh] at u <;> try (cases u;done)
   cases u
   simp only [gp] at A hy;subst A;subst hy
   exact run_equalIn_bool' w (d+k) t _ _ M
  ·rename_i e
   simp only [Option.some.injEq] at e;subst e
   obtain ⟨x0,j,rfl,rfl,u,A,hy⟩:=basic _ (by simpa using h) rfl
   cases x0 <;> cases j <;> simp only [qh] at u <;> try (cases u;done)
   cases u
   simp only [gp] at A hy;subst A;subst hy
   rw [run_equalIn_string w (d+k) t _ _ M,rV]
  ·rename_i W e
   simp only [Option.some.injEq] at e;subst e
   simp only [Bool.and_eq_true,Bool.not_eq_true'] at h
   unfold jU at f hm;rw [if_pos (show jQ (.struct W)=true from rfl)] at f hm
   obtain ⟨xs,rfl,f⟩:=f
   obtain ⟨X,rfl,hm⟩:=hm
   have Y:P.fieldsOf t=W:=by unfold Program.fieldsOf;rw [M]
   rw [run_equalIn_agg w (d+k) t xs X (by rw [Y];exact M) h.1,Y]
   exact pM d (d+k) (fun {t lv} h=>sb d k h) xs X w W.toList 0 lv h.2 l m b (by simpa using f) (by simpa using hm) z
  ·cases h
def Ed:LK->Value->Bool
 | .int k,.int f n=>decide (k=f)&&decide (n=0)
 | .bool,.bool b => !b
 | .str,.string s=>decide (s=⟨#[]⟩)
 | .sl _,.slice none 0 0=>true
 | .ptr,.pointer none=>true
 | .fn,.nilFunc=>true
 | .nos,.pointer none=>true
 | .ifc,.nilIface=>true
 | .oth,_=>true
 | .mp _ _,_=>true
 | _,_=>false
def pd:List LK->List Value->Bool
 | [],[]=>true
 | k::f,v::vs=>Ed k v&&pd f vs
 | _,_=>false
theorem lj:∀ {j:List LK} {vs:List Value},pd j vs=true->PW zeroV j vs
 | [],[],_=>trivial
 | k::j,v::vs,h=>by
  simp only [pd,Bool.and_eq_true] at h
  refine ⟨?_,lj h.2⟩
  have f:=h.1
  unfold Ed at f
  split at f <;> first
   | (simp only [Bool.and_eq_true,decide_eq_true_eq] at f;obtain ⟨rfl,rfl⟩:=f;rfl)
   | (simp at f;subst f;rfl)
   | rfl
   | trivial
   | cases f
 | [],_::_,h=>by cases h
 | _::_,[],h=>by cases h
def CY:Value->Bool
 | .agg _=>true
 | _=>false
def vu (P:Program) (sz:Nat) (p:Nat × Nat × Bool) (F:Field):Bool:=
 Nat.beq F.offset p.1&&Nat.ble (p.1+p.2.1) sz&&(match P.info? F.type,P.underlying F.type with
  | some i,some d=>Nat.beq i.size p.2.1&&(jQ d == p.2.2)
  | _,_=>false)
def ml (P:Program) (sz:Nat):List (Nat × Nat × Bool)->List Field->Bool
 | [],[]=>true
 | p::ps,F::f=>vu P sz p F&&ml P sz ps f
 | _,_=>false
theorem kc {sz:Nat}:∀ {ps:List (Nat × Nat × Bool)} {m:List Field},ml P sz ps m=true->PW (ua P sz) ps m
 | [],[],_=>trivial
 | p::ps,F::m,h=>by
  simp only [ml,Bool.and_eq_true] at h
  refine ⟨?_,kc h.2⟩
  have f:=h.1
  unfold vu at f
  simp only [Bool.and_eq_true] at f
  obtain ⟨⟨f,u⟩,j⟩:=f
  split at j
  ·rename_i i d z A
   simp only [Bool.and_eq_true,beq_iff_eq] at j
   exact ⟨Nat.eq_of_beq_eq_true f,Nat.le_of_ble_eq_true u,i,d,z,Nat.eq_of_beq_eq_true j.1,A,j.2⟩
  ·cases j
 | [],_::_,h=>by cases h
 | _::_,[],h=>by cases h
def sv (e:Nat):TypeDesc->Bool
 | .slice f=>Nat.beq e f
 | _=>false
def zw (k:IntKind):TypeDesc->Bool
 | .int f=>decide (k=f)
 | _=>false
def zt:TypeDesc->Bool
 | .bool=>true
 | _=>false
def zx (k e:Nat):TypeDesc->Bool
 | .map f j=>Nat.beq k f&&Nat.beq e j
 | _=>false
def C5:TypeDesc->Bool
 | .string=>true
 | _=>false
def Dm (d:TypeDesc):List LK->Bool
 | [.int k]=>zw k d
 | [.bool]=>zt d
 | [.str]=>C5 d
 | [.mp k e]=>zx k e d
 | _=>true
def zB (e:Nat):TypeDesc->Bool
 | .pointer f=>Nat.beq e f
 | _=>false
def F6 (f:TI) (d:TypeDesc):Bool:=
 match f.lv with
 | [.ptr]=>f.agg||Nat.beq f.elem 0||zB f.elem d
 | _=>true
def qX (P:Program) (f:TI):TypeDesc->Bool
 | .struct j=>ml P f.sz f.flds j.toList
 | _=>false
def FJ (P:Program) (f:TI):TypeDesc->Bool
 | .array n e=>Nat.beq e f.elem&&(match P.info? f.elem with
  | some i=>Nat.beq (n*i.size) f.sz
  | none=>false)
 | _=>false
def uW (P:Program) (t:Nat) (f:TI):Bool:=
 match P.underlying t,P.info? t with
 | some d,some i=>(jQ d == f.agg)&&Nat.beq i.size f.sz&&Nat.beq i.bytes f.bytes &&
   (match i.zero with
    | some z=>pd f.lv z.cells.toList&&(CY z == f.agg)
    | none=>false)&&Nat.ble 1 f.sz&&Nat.ble 1 f.bytes &&
   (!f.sl||sv f.elem d)&&(f.agg||Dm d f.lv)&&F6 f d&&(f.flds.isEmpty||qX P f d) &&
   (!(f.agg&&(f.flds.isEmpty && !(Nat.beq f.elem 0)))||FJ P f d)&&(!f.eqs||(f.agg && !P.eqGuardType P.depth t&&FM P 20 t f.lv))
 | _,_=>false
theorem rG {t:Nat} {W:TI} (h:uW P t W=true):TyOk P t W:=by
 unfold uW at h
 split at h
 ·rename_i d i A hi
  simp only [Bool.and_eq_true] at h
  obtain ⟨⟨⟨⟨⟨⟨⟨⟨⟨⟨⟨h1,h2⟩,h3⟩,Y⟩,h5⟩,h6⟩,X⟩,f⟩,M⟩,O⟩,U⟩,V⟩:=h
  have h1:jQ d=W.agg:=by simpa using h1
  split at Y
  ·rename_i z N
   simp only [Bool.and_eq_true,beq_iff_eq] at Y
   refine ⟨⟨d,A,h1⟩,⟨i,z,hi,Nat.eq_of_beq_eq_true h2,Nat.eq_of_beq_eq_true h3,N,lj Y.1,?_⟩,Nat.le_of_ble_eq_true h5,Nat.le_of_ble_eq_true h6,fun hs => ?_,fun k j u => ?_,fun j u => ?_,fun j u => ?_,fun k e j u => ?_,fun j u N => ?_,fun j hf N => ?_,fun hf => ?_,fun he => ?_⟩
   ·rw [<- Y.2];unfold CY
    constructor
    ·rintro ⟨cs,rfl⟩;rfl
    ·intro N;split at N
     ·exact ⟨_,rfl⟩
     ·cases N
   ·rw [hs] at X;simp only [Bool.not_true,Bool.false_or] at X
    unfold sv at X;split at X
    ·rw [A,Nat.eq_of_beq_eq_true X]
    ·cases X
   ·rw [j,u] at f;simp only [Bool.false_or,Dm] at f
    unfold zw at f;split at f
    ·simp only [decide_eq_true_eq] at f;rw [A,f]
    ·cases f
   ·rw [j,u] at f;simp only [Bool.false_or,Dm] at f
    unfold zt at f;split at f
    ·exact A
    ·cases f
   ·rw [j,u] at f;simp only [Bool.false_or,Dm] at f
    unfold C5 at f;split at f
    ·exact A
    ·cases f
   ·rw [j,u] at f;simp only [Bool.false_or,Dm] at f
    unfold zx at f;split at f
    ·simp only [Bool.and_eq_true] at f
     rw [A,Nat.eq_of_beq_eq_true f.1,Nat.eq_of_beq_eq_true f.2]
    ·cases f
   ·unfold F6 at M
    rw [u] at M
    simp only [j,Bool.false_or,Bool.or_eq_true] at M
    have M:=M.resolve_left fun e=>N (Nat.eq_of_beq_eq_true e)
    unfold zB at M;split at M
    ·rw [A,Nat.eq_of_beq_eq_true M]
    ·cases M
   ·have ae:Nat.beq W.elem 0=false:=by
     cases h:Nat.beq W.elem 0 with
     | false=>rfl
     | true=>exact absurd (Nat.eq_of_beq_eq_true h) N
    rw [j,hf,ae] at U
    simp only [List.isEmpty_nil,Bool.not_false,Bool.and_self,Bool.not_true,Bool.false_or] at U
    unfold FJ at U;split at U
    ·rename_i n e _
     rw [Bool.and_eq_true] at U
     obtain ⟨q1,q2⟩:=U
     have ap:=Nat.eq_of_beq_eq_true q1
     split at q2
     ·rename_i i hi
      exact ⟨n,i,by rw [<- ap];exact A,hi,Nat.eq_of_beq_eq_true q2⟩
     ·cases q2
    ·cases U
   ·have O:qX P W d=true:=by
     rw [Bool.or_eq_true] at O
     exact O.resolve_left fun e=>hf (List.isEmpty_iff.1 e)
    unfold qX at O;split at O
    ·exact ⟨_,A,kc O⟩
    ·cases O
   ·rw [he] at V;simp only [Bool.not_true,Bool.false_or,Bool.and_eq_true,Bool.not_eq_true'] at V
    obtain ⟨⟨j,hg⟩,hq⟩:=V
    refine ⟨hg,fun w l m xs ys b u hm hb => ?_⟩
    have ad:jQ d=true:=by rw [h1,j]
    exact sb 20 9980 hq w l m _ _ d b A (by unfold jU;rw [if_pos ad];exact ⟨xs,rfl,u⟩) (by unfold jU;rw [if_pos ad];exact ⟨ys,rfl,hm⟩) hb
  ·cases Y
 ·cases h
def ag (l:List (Option TI)) (t:Nat):Option TI:=(l[t]?).getD none
def jv (P:Program):Nat->List (Option TI)->Bool
 | _,[]=>true
 | t,none::r=>jv P (t+1) r
 | t,some f::r=>uW P t f&&jv P (t+1) r
theorem iz:∀ {l:List (Option TI)} {t0:Nat},jv P t0 l=true->∀ (i:Nat) f,(l[i]?).getD none=some f->TyOk P (t0+i) f
 | [],_,_,i,f,h=>by simp at h
 | none::r,t0,j,i,f,h=>by
  cases i with
  | zero=>simp at h
  | succ i =>
   have:=iz (t0:=t0+1) j i f (by simpa using h)
   rw [show t0+(i+1)=t0+1+i by omega];exact this
 | some x::r,t0,j,i,f,h=>by
  simp only [jv,Bool.and_eq_true] at j
  cases i with
  | zero=>simp at h;subst h;exact rG j.1
  | succ i =>
   have:=iz (t0:=t0+1) j.2 i f (by simpa using h)
   rw [show t0+(i+1)=t0+1+i by omega];exact this
theorem H4 {l:List (Option TI)} (h:jv P 0 l=true) (hm:P.follows .mixedOrders=true):Ok P (ag l):=
 ⟨fun t f j=>by have:=iz h t f j;rwa [Nat.zero_add] at this,hm⟩
end Go.Proofs.Ab
namespace Go.Proofs.Ab
open Go
def ah:Nat:=4611686018427387904
def aa {R:Type} (P:Program) (T:Nat->Option TI) (tab:cg) (g:FuncId) (args:List SV) (κ:List SV->Option R) (o:Option R):Prop:=
 ∀ r,o=some r->∀ (w:World) (vs:Array Value) (Rt Ra:Nat->Prop) (bs:List Nat),Pre T tab w args vs.toList Rt Ra bs ->
  oY P g vs w fun v w'=>∃ res Rt' v0 back f j,κ res=some r/\m9 T w args vs.toList Rt bs res v w' Rt' v0 back f j
theorem aa.none {R:Type} {P:Program} {T:Nat->Option TI} {tab:cg} {g:FuncId} {args:List SV} {κ:List SV->Option R}:aa P T tab g args κ none:=by
 intro r h;cases h
theorem aI {R:Type} {P:Program} {T:Nat->Option TI} {tab:cg} {g:FuncId} {sp:List SV->(List SV->Option R)->Option R} (h:∀ xs κ,aa P T tab g xs κ (sp xs κ)):bT P T tab g sp:=
 fun args κ r f w vs Rt Ra bs j=>h args κ r f w vs Rt Ra bs j
theorem yV {c:Cx}:∀ {args:List SV} {vs:List Value},args.length=vs.length->(∀ x∈args,∀ ty l,x ≠ .vp ty l)->CB c args vs [] []
 | [],[],_,_=>⟨rfl,rfl⟩
 | x::r,v::vs,f,j=>by
  rw [rJ c (j x (by simp))]
  exact yV (by simpa using f) fun y hy=>j y (by simp [hy])
 | [],_::_,f,_=>by simp at f
 | _::_,[],f,_=>by simp at f
theorem m9.plain {T:Nat->Option TI} {tab:cg} {w:World} {args:List SV} {vs:List Value} {Rt Ra:Nat->Prop} {bs:List Nat} {x:SV} {v:Value} (f:Pre T tab w args vs Rt Ra bs) (m:∀ x∈args,∀ ty l,x ≠ .vp ty l)
  (u:CR (cc T w Rt Rt) x v []):m9 T w args vs Rt bs [x] v w Rt x [] [] []:=
 ⟨rfl,Fr.refl _ w,u,yV f.cat.len m,by simp,fun b j=>by simp at j,fun _ h=>h,fun b j=>⟨f.rlt b (f.sub b j),.inl j⟩⟩
theorem tR {c:Cx} {a:ByteArray} {v:Value} {bs:List Nat} (h:CV c (.str a) v bs):v = .string a:=h.2.2.2
theorem Er {c:Cx} {k:IntKind} {n:Int} {v:Value} {bs:List Nat} (h:CV c (.int k n) v bs):v = .int k n:=h.2.2.2
theorem z6 {c:Cx} {k:IntKind} {n:Int}:CR c (.int k n) (.int k n) []:=⟨rfl,rfl,by simp,rfl⟩
theorem kg {R:Type} {P:Program} {T:Nat->Option TI} {tab:cg} {g:FuncId} {fn:Func} (hf:P.funcs[g]? = some fn) (hname:(fn.name == "runtime.NumGoroutine")=false) (hb:fn.body.isNone=true)
  (hn:Extern.findNext fn=none) (he:Extern.find fn=some Extern.BytealgIndexByte.indexByte) (a0:ByteArray) (a1:Int) (κ:List SV->Option R) :
  aa P T tab g [.str a0,.int .u8 a1] κ (κ [.int .i64 (Lib.indexByte a0.data.toList a1.toNat.toUInt8)]):=by
 intro r h w vs Rt Ra bs hpre
 have hargs:vs = #[.string a0,.int .u8 a1]:=by
  have hc:=hpre.cat
  apply Array.ext'
  match h2:vs.toList,hc with
  | [v0,v1],⟨_,_,_,h0,_,_,_,h1,_⟩=>rw [tR h0,Er h1]
  | [],hc=>exact hc.elim
  | [_],⟨_,_,_,_,hc⟩=>exact hc.elim
  | _::_::_::_,⟨_,_,_,_,_,_,_,_,hc⟩=>exact hc.elim
 subst hargs
 refine .inl ⟨_,w,?_,_,Rt,_,[],[],[],h,m9.plain hpre (by simp) z6⟩
 rw [run_callFunc_extern hf hname hb hn he,Lib.run_indexByteString];rfl
end Go.Proofs.Ab
namespace Go.Proofs.Ab
open Go
theorem ru (w:World) (b:Nat) (cs:Array Value) (t:Nat) (f:Nat × Nat) (v:Value) (h:w.heap[b]? = some (.cells cs t f)):(w.setCell ⟨b,0,none⟩ v).heap[b]? = some (.cells (cs.setIfInBounds 0 v) t f):=by
 unfold World.setCell
 simp [Array.getElem?_modify,h]
theorem ly (w:World) (b:Nat) (v:Value):Fr (fun x=>x=b) w (w.setCell ⟨b,0,none⟩ v):=by
 unfold World.setCell
 refine ⟨rfl,rfl,rfl,by simp,fun x _ f => ?_⟩
 simp only [Array.getElem?_modify]
 rw [if_neg (fun e=>f e.symm)]
inductive Hw:SV->Prop where
 | nil:Hw .nil
 | fr (e:Nat) (l:List AV):Hw (.fr e l true)
theorem Hw.move {T:Nat->Option TI} {w w':World} {Rt Ra:Nat->Prop} {X:SV} (u:Hw X) {v:Value} {bs:List Nat} (h:CL (cc T w Rt Ra) X v bs) (z:∀ b∈bs,w'.heap[b]? = w.heap[b]?) (A:∀ b,Rt b->w'.heap[b]? = w.heap[b]?):CL (cc T w' Rt Rt) X v bs:=by
 cases u with
 | nil=>exact ⟨h.1,rfl,by simp,h.2.2.2⟩
 | fr e l =>
  obtain ⟨D,cs,M,N,O,m⟩:=h
  refine ⟨D,cs,M,jH N (fun b j=>z b (by rw [m,j];simp)),O.mono (fun b f => ?_) (fun b f => ?_),m⟩
  ·unfold Cx.Q at f ⊢;rw [if_pos rfl] at f ⊢;exact f
  ·unfold Cx.Q at f;rw [if_pos rfl] at f;exact A b f
theorem pF {R:Type} {P:Program} {T:Nat->Option TI} {tab:cg} {g tb:Nat} (a1:∀ vs w,(callFunc g vs).run P w = .ok (.enter g vs) w)
  (hu:∀ b w,w.cell? ⟨b,0,none⟩=some (.pointer (some ⟨b,0,none⟩))->Calls P g #[.pointer (some ⟨b,0,none⟩)] w fun e w'=>e = .returned (.tuple #[])/\w'=w)
  (hf:∀ b w,w.cell? ⟨b,0,none⟩=some (.pointer none)->w.shape? b=some (tb,2)->w.frozen? ⟨b,0,none⟩=false->Calls P g #[.pointer (some ⟨b,0,none⟩)] w fun e w'=>e = .returned (.tuple #[])/\w'=w.setCell ⟨b,0,none⟩ (.pointer (some ⟨b,0,none⟩)))
  {X:SV} (hX:Hw X) (κ:List SV->Option R):aa P T tab g [.vp tb [.nos,X]] κ (κ [.tup [],.vp tb [.nos,X]]):=by
 intro r h w vs Rt Ra bs f
 have A:=f.cat
 match a6:vs.toList,A with
 | [v],⟨bS,_,W,⟨b,cs,_,u,hv,U,Y,ad⟩,M⟩ =>
  have M:_=[]:=M
  subst M
  rw [append_nil] at W
  subst W
  subst ad
  have a7:vs = #[.pointer (some ⟨b,0,none⟩)]:=by apply Array.ext';rw [a6,hv]
  subst a7
  match a8:cs.toList,Y with
  | [c0,c1],⟨b1,b2,ae,⟨bb,h0⟩,b3,b4,ap,h1,V⟩ =>
   subst bb
   have V:b4=[]:=V
   subst V
   rw [append_nil] at ap
   subst ap
   simp only [List.nil_append] at ae
   subst ae
   have h1:CL (cc T w Rt Ra) X c1 u:=by
    unfold BH at h1;split at h1
    ·cases hX
    ·exact h1
   have ar:cs = #[c0,c1]:=by apply Array.ext';simpa using a8
   subst ar
   have j:w.heap[b]? = some (.cells #[c0,c1] tb (0,0)):=U
   have be:¬ Ra b/\b<w.heap.size:=f.no b (by simp)
   have ax:=f.nd
   rw [List.nodup_cons] at ax
   have N:w.cell? ⟨b,0,none⟩=some c0:=by rw [cell_of_row w b 0 _ tb (0,0) j];rfl
   have mk:∀ w',Fr (fun x=>x=b) w w'->(∃ d0,w'.heap[b]? = some (.cells #[d0,c1] tb (0,0))/\(d0 = .pointer none∨d0 = .pointer (some ⟨b,0,none⟩))) ->
     m9 T w [.vp tb [.nos,X]] [.pointer (some ⟨b,0,none⟩)] Rt (b::u) [.tup [],.vp tb [.nos,X]] (.tuple #[]) w' Rt (.tup []) [.vp tb [.nos,X]] [] (b::u):=by
    rintro w' m ⟨d0,hd,bk⟩
    refine ⟨rfl,⟨m.os,m.tape,m.output,m.size,fun x hx hn=>m.block x hx fun e=>hn (by rw [e];simp)⟩,⟨#[],rfl,rfl⟩,?_,by simpa using f.nd,fun z O => ?_,fun _ h=>h,fun z O=>⟨Nat.lt_of_lt_of_le (f.rlt z (f.sub z O)) m.size,.inl O⟩⟩
    ·refine ⟨b,#[d0,c1],(),u,[],rfl,hd,⟨[],u,rfl,⟨rfl,bk⟩,u,[],by simp,pf (hX.move h1 (fun z O => ?_) (fun z O => ?_)) b,rfl⟩,by simp,rfl,rfl⟩
     ·exact m.block z (f.no z (by simp [O])).2 fun e=>by subst e;exact ax.1 O
     ·exact m.block z (f.rlt z (f.sub z O)) fun e=>by subst e;exact be.1 (f.sub z O)
    ·have:=f.no z (by simpa using O)
     exact ⟨fun hr=>this.1 (f.sub z hr),Nat.lt_of_lt_of_le this.2 m.size,.inr (by simpa using O)⟩
   refine .inr ⟨a1 _ _,?_⟩
   rcases h0 with rfl|rfl
   ·have bx:w.shape? b=some (tb,2):=by unfold World.shape?;rw [j];rfl
    have bP:w.frozen? ⟨b,0,none⟩=false:=by unfold World.frozen?;rw [show (⟨b,0,none⟩:Addr).block=b from rfl,j];simp
    refine (hf b w N bx bP).mono ?_
    rintro e w' ⟨rfl,rfl⟩
    exact ⟨_,rfl,_,Rt,_,_,_,_,h,hv▸mk _ (ly w b _) ⟨_,by rw [ru w b _ tb (0,0) _ j];rfl,.inr rfl⟩⟩
   ·refine (hu b w N).mono ?_
    rintro e w' ⟨rfl,rfl⟩
    exact ⟨_,rfl,_,Rt,_,_,_,_,h,hv▸mk _ (Fr.refl _ _) ⟨_,j,.inr rfl⟩⟩
  | [],A=>exact A.elim
  | [_],⟨_,_,_,_,A⟩=>exact A.elim
  | _::_::_::_,⟨_,_,_,_,_,_,_,_,A⟩=>exact A.elim
 | [],A=>exact A.elim
 | _::_::_,⟨_,_,_,_,A⟩=>exact A.elim
end Go.Proofs.Ab
namespace Go.Proofs.Ab
open Go
variable {R:Type} {P:Program} {T:Nat->Option TI} {tab:cg} {g:FuncId}
theorem Ci {args:List SV} {κ:List SV->Option R} {b:Bool} {o:Option R} (h:b=true->aa P T tab g args κ o):aa P T tab g args κ (bo b o):=by
 cases b with
 | false=>exact aa.none
 | true=>exact h rfl
theorem D3 {w:World} {b t:Nat} {v:Value} {cs:Array Value} {f:Nat × Nat} (j:cs[0]? = some v) (h:w.heap[b]? = some (.cells cs t f)):w.cell? ⟨b,0,none⟩=some v:=by
 rw [cell_of_row w b 0 _ t f h];exact j
theorem yy (j:∀ vs w,(callFunc g vs).run P w = .ok (.enter g vs) w) {args:List SV} {vals:Array Value} (m:∀ x∈args,∀ ty l,x ≠ .vp ty l)
  (u:∀ (w:World) (vs:Array Value) (Rt Ra:Nat->Prop) (bs:List Nat),Pre T tab w args vs.toList Rt Ra bs->vs=vals) (x:SV) {v:Value}
  (z:∀ w:World,(∀ b ob,tab b=some ob->w.heap[b]? = some ob)->Calls P g vals w fun e w'=>e = .returned v/\w'=w) (A:∀ c,CR c x v []) (κ:List SV->Option R):aa P T tab g args κ (κ [x]):=by
 intro r h w vs Rt Ra bs f
 obtain rfl:=u w vs Rt Ra bs f
 refine .inr ⟨j _ _,(z w fun b ob M=>(f.tab b ob M).1).mono ?_⟩
 rintro e w' ⟨rfl,rfl⟩
 exact ⟨_,rfl,_,Rt,_,[],[],[],h,m9.plain f m (A _)⟩
theorem yQ (m:∀ vs w,(callFunc g vs).run P w = .ok (.enter g vs) w) (a0 a1:ByteArray) (x:SV) {v:Value}
  (f:∀ w:World,(∀ b ob,tab b=some ob->w.heap[b]? = some ob)->Calls P g #[.string a0,.string a1] w fun e w'=>e = .returned v/\w'=w) (u:∀ c,CR c x v []) (κ:List SV->Option R):aa P T tab g [.str a0,.str a1] κ (κ [x]):=by
 refine yy m (by simp) (fun w vs Rt Ra bs j => ?_) x f u κ
 have f:=j.cat
 apply Array.ext'
 match M:vs.toList,f with
 | [v0,v1],⟨_,_,_,z,_,_,_,A,_⟩=>rw [tR z,tR A]
 | [],f=>exact f.elim
 | [_],⟨_,_,_,_,f⟩=>exact f.elim
 | _::_::_::_,⟨_,_,_,_,_,_,_,_,f⟩=>exact f.elim
end Go.Proofs.Ab
namespace Go.Proofs.Ab
open Go Go.RowKit
def vX (w:World) (b:Nat) (cs:Array Value):World:=
 { w with heap:=w.heap.modify b fun
   | .cells _ t f => .cells cs t f
   | o=>o }
def Eo:List SV->Option Bool
 | [.bool b]=>some b
 | _=>none
theorem Au {l:List SV} (h:Eo l=some true):l=[.bool true]:=by
 unfold Eo at h;split at h
 ·cases h;rfl
 ·cases h
theorem A7 {P:Program} {T:Nat->Option TI} {tab:cg} {g:FuncId} {args:List SV} {vals:Array Value} {o:Option Bool} (m:∀ vs w,(callFunc g vs).run P w = .ok (.enter g vs) w)
  (O:aa P T tab g args Eo o) (U:o=some true) {W:World} {Rt Ra:Nat->Prop} (j:Pre T tab W args vals.toList Rt Ra []):Calls P g vals W fun e V=>e = .returned (.bool true)/\Below W.heap.size W V:=by
 rcases O true U W vals Rt Ra [] j with ⟨v,w',M,_⟩|⟨_,X⟩
 ·rw [m] at M;cases M
 ·refine X.mono ?_
  rintro e w' ⟨v,rfl,res,Rt',v0,back,b1,b2,u,f⟩
  have Y:=Au u
  have z:=f.res
  rw [Y] at z
  have A:v0 = .bool true:=by cases back <;> simp at z;exact z.symm
  have N:=f.r
  rw [A] at N
  have h4:v = .bool true:=N.2.2.2
  subst h4
  exact ⟨rfl,f.fr.os,f.fr.tape,f.fr.output,f.fr.size,fun k u=>f.fr.block k u (by simp)⟩
def D1 (W:World):cg:=fun b=>if b=0 then W.heap[0]? else none
theorem Fy {W:World} {m:Int} (h:W.cell? ⟨0,0,none⟩=some (.int .i64 m)):∃ m cs t f,D1 W 0=some (.cells cs t f)/\cs[0]? = some (.int .i64 m):=by
 unfold World.cell? at h
 split at h
 ·rename_i cs t f j
  have u:cs[0]? = some (.int .i64 m):=by simpa using h
  exact ⟨m,cs,t,f,by unfold D1;rw [if_pos rfl];exact j,u⟩
 ·cases h
theorem Fx {W:World} {m:Int} (h:W.cell? ⟨0,0,none⟩=some (.int .i64 m)):0<W.heap.size:=by
 unfold World.cell? at h
 split at h
 ·rename_i cs t j f;exact (Array.getElem?_eq_some_iff.1 f).1
 ·cases h
end Go.Proofs.Ab
namespace Go.Proofs.Ab
open Go Go.RowKit
variable {H:Type} {enc:TypeId × Value->H} {P:Program} {w w':World} {sp:Nat->Bool} {held:Bool}
def Dl (P:Program) (g:TypeId->Option (List LK)):List Field->Nat->Option (List LK)
 | [],_=>some []
 | f::r,o=>match g f.type with
  | some l=>if f.offset=o/\P.cellsOf f.type=l.length then (Dl P g r (o+l.length)).map (l++·) else none
  | none=>none
def Ba (P:Program):Nat->TypeId->Option (List LK)
 | 0,_=>none
 | n+1,t=>match P.underlying t with
  | some .bool=>some [.bool]
  | some (.int k)=>some [.int k]
  | some .string=>some [.str]
  | some (.slice e)=>some [.sl e]
  | some (.struct f)=>(Dl P (Ba P n) f.toList 0).bind fun l=>if P.cellsOf t=l.length then some l else none
  | _=>none
def so (P:Program):Nat->TypeId->Bool
 | 0,_=>false
 | n+1,t=>match P.underlying t with
  | some .bool=>true
  | some (.int _)=>true
  | some .string=>true
  | some (.slice e)=>decide (0<P.cellsOf e)&&so P n e
  | some (.struct j)=>j.toList.all fun f=>so P n f.type
  | _=>false
def Cu (P:Program) (T:Nat->Option TI):Nat->TypeId->Bool
 | 0,_=>false
 | d+1,e=>match T e with
  | some E=>decide (Ba P 20 e=some E.lv)&&(decide (P.cellsOf e=E.sz)&&((E.agg||decide (E.sz=1))&&E.lv.all fun k=>match k with
   | .sl f=>Cu P T d f
   | .int _=>true
   | .bool=>true
   | .str=>true
   | _=>false))
  | none=>false
theorem nf {base n:Nat} {a:Addr} {cs:List Value} (h:w.cells? base a n=some cs):cs.length=n/\∀ i,i<n->w.cell? (a.add i)=cs[i]? := by
 obtain ⟨_,f,j⟩:=World.cells?_some h
 exact ⟨f,j⟩
theorem tX {a:Addr} {v:Value} (h:w.cell? a=some v):a.block<w.heap.size:=by
 rcases Nat.lt_or_ge a.block w.heap.size with f|f
 ·exact f
 ·exfalso
  unfold World.cell? at h
  rw [Array.getElem?_eq_none f] at h
  cases h
theorem gJ {α β:Type} {f g : α -> Option β}:∀ {l:List α},(∀ x∈l,f x=g x)->l.mapM f=l.mapM g
 | [],_=>rfl
 | a::l,h=>by
  rw [mapM_cons,mapM_cons,h a (by simp),gJ (fun x j=>h x (by simp [j]))]
theorem yd {a:Addr} {v:Value} (f:Below w.heap.size w w') (h:w.cell? a=some v):w'.cell? a=some v:=by
 rw [f.cell (tX h)];exact h
theorem vW {base n:Nat} {a:Addr} {cs:List Value} (j:Below w.heap.size w w') (h:w.cells? base a n=some cs):w'.cells? base a n=some cs:=by
 obtain ⟨z,m⟩:=nf h
 unfold World.cells? at h ⊢
 split
 ·rename_i hle
  rw [if_pos hle] at h
  rw [<- h]
  refine gJ fun i u => ?_
  have f:=List.mem_range.1 u
  have:=m i f
  rw [List.getElem?_eq_getElem (by omega)] at this
  rw [this,yd j this]
 ·rename_i hle
  rw [if_neg hle] at h;cases h
theorem lQ (X:Below w.heap.size w w'):∀ (m:Nat) {t:TypeId} {n:Nat} {cs:List Value} {x:DataW H × List MemPlace},so P m t=true->DataW.trod enc P w 0 (fun _=>true) held n t cs=some x ->
  DataW.trod enc P w' 0 (fun b=>decide (b<w.heap.size)) held n t cs=some x
 | 0,t,n,cs,x,u,_=>by rw [so] at u;cases u
 | m+1,t,0,cs,x,u,h=>by rw [DataW.trod] at h;cases h
 | m+1,t,n+1,cs,x,u,h=>by
  rw [so] at u
  split at u
  ·rename_i hu
   obtain ⟨b,rfl,rfl⟩:=DataW.trod_bool hu h
   simp [DataW.trod,hu]
  ·rename_i k hu
   obtain ⟨b,rfl,rfl,hw⟩:=DataW.trod_int hu h
   simp [DataW.trod,hu,hw]
  ·rename_i hu
   obtain ⟨b,rfl,rfl,hw⟩:=DataW.trod_string hu h
   simp [DataW.trod,hu,hw]
  ·rename_i e hu
   rcases DataW.trod_slice hu h with ⟨rfl,rfl⟩|⟨a,len,cap,elems,rest,n',Y,rfl,rfl,h0,z,h2,h3,h4,h5,_⟩
   ·simp [DataW.trod,hu]
   ·cases Y
    simp only [Bool.and_eq_true,decide_eq_true_eq] at u
    have A:∀ i y,(w.cells? 0 (a.add (i*P.cellsOf e)) (P.cellsOf e)).bind (DataW.trod enc P w 0 (fun _=>true) held n e)=some y ->
      (w'.cells? 0 (a.add (i*P.cellsOf e)) (P.cellsOf e)).bind (DataW.trod enc P w' 0 (fun b=>decide (b<w.heap.size)) held n e)=some y:=by
     intro i y hy
     rw [Option.bind_eq_some_iff] at hy ⊢
     obtain ⟨cs,V,h7⟩:=hy
     exact ⟨cs,vW X V,lQ X m u.2 h7⟩
    obtain ⟨ap,M⟩:=h5 rfl
    have e1:(List.range len).mapM (fun i=>(w'.cells? 0 (a.add (i*P.cellsOf e)) (P.cellsOf e)).bind (DataW.trod enc P w' 0 (fun b=>decide (b<w.heap.size)) held n e))
      = (List.range len).mapM (fun i=>(w.cells? 0 (a.add (i*P.cellsOf e)) (P.cellsOf e)).bind (DataW.trod enc P w 0 (fun _=>true) held n e)):=by
     refine gJ fun i W => ?_
     have ad:=List.mem_range.1 W
     have:=h4 i ad
     rw [List.getElem?_eq_getElem (by omega)] at this
     rw [this,A i _ this]
    have e2:(if (decide (a.block<w.heap.size))=true then (List.range (cap-len)).mapM (fun j=>(w'.cells? 0 (a.add ((len+j)*P.cellsOf e)) (P.cellsOf e)).bind (DataW.trod enc P w' 0 (fun b=>decide (b<w.heap.size)) held n e)) else some [])
      = (List.range (cap-len)).mapM (fun j=>(w.cells? 0 (a.add ((len+j)*P.cellsOf e)) (P.cellsOf e)).bind (DataW.trod enc P w 0 (fun _=>true) held n e)):=by
     have e3:(List.range (cap-len)).mapM (fun j=>(w'.cells? 0 (a.add ((len+j)*P.cellsOf e)) (P.cellsOf e)).bind (DataW.trod enc P w' 0 (fun b=>decide (b<w.heap.size)) held n e))
       = (List.range (cap-len)).mapM (fun j=>(w.cells? 0 (a.add ((len+j)*P.cellsOf e)) (P.cellsOf e)).bind (DataW.trod enc P w 0 (fun _=>true) held n e)):=by
      refine gJ fun j hj => ?_
      have ae:=List.mem_range.1 hj
      have:=M j ae
      rw [List.getElem?_eq_getElem (by omega)] at this
      rw [this,A _ _ this]
     rcases Nat.eq_zero_or_pos (cap-len) with hz|hz
     ·rw [hz]
      split
      ·rfl
      ·rfl
     ·have V:=M 0 hz
      rw [List.getElem?_eq_getElem (by omega),Option.bind_eq_some_iff] at V
      obtain ⟨cs,h7,_⟩:=V
      obtain ⟨h8,h9⟩:=nf h7
      have N:=h9 0 u.1
      rw [List.getElem?_eq_getElem (by omega)] at N
      have O:=tX N
      rw [eK,eK] at O
      rw [if_pos (by simpa using O)]
      exact e3
    unfold DataW.trod at h ⊢
    rw [hu] at h ⊢
    simp only at h ⊢
    rw [if_pos ⟨h0,z,h2⟩] at h ⊢
    rw [e1,e2]
    simpa using h
  ·rename_i fs hu
   unfold DataW.trod at h ⊢
   rw [hu] at h ⊢
   simp only at h ⊢
   split at h
   ·rename_i hl
    rw [if_pos hl]
    rw [<- h]
    congr 1
    rw [Option.map_eq_some_iff] at h
    obtain ⟨xs,U,_⟩:=h
    refine gJ fun f hf => ?_
    obtain ⟨i,W⟩:=List.getElem?_of_mem hf
    have z:=mapM_some_get U i f W
    have h2:=mapM_some_length U
    have ar:=(List.getElem?_eq_some_iff.1 W).1
    rw [List.getElem?_eq_getElem (by omega)] at z
    rw [z]
    rw [all_eq_true] at u
    exact lQ X m (u f hf) z
   ·cases h
  ·cases u
theorem yM (f:Below w.heap.size w w') {m:Nat} {t:TypeId} {v:Value} {d:DataW H} {ps:List MemPlace} (j:so P m t=true) (h:DataW.Trod enc P w 0 (fun _=>true) held t v d ps) :
  DataW.Trod enc P w' 0 (fun b=>decide (b<w.heap.size)) held t v d ps:=by
 obtain ⟨n,u⟩:=h
 exact ⟨n,lQ f m j u⟩
theorem I3 {T:Nat->Option TI} {W:World} {args:List SV} {vals:List Value} (j:jM (CV (cc T W (fun b=>b<W.heap.size) (fun b=>b<W.heap.size))) args vals []) (m:0<W.heap.size):Pre T (D1 W) W args vals (fun b=>b<W.heap.size) (fun b=>b<W.heap.size) []:=by
 refine ⟨j,by simp,by simp,fun b f=>f,fun b f=>f,fun b ob f => ?_⟩
 unfold D1 at f
 split at f
 ·rename_i e;subst e;exact ⟨f,m⟩
 ·cases f
theorem Ey {T:Nat->Option TI} {W:World} {e:Nat} {v:Value} {l:List AV} (h:ej T W (fun b=>b<W.heap.size) (.sl e) v (.sl l)):CV (cc T W (fun b=>b<W.heap.size) (fun b=>b<W.heap.size)) (.ro e l true) v []:=
 ⟨rfl,rfl,by simp,h⟩
end Go.Proofs.Ab
namespace Go.Proofs.Ab
open Go Go.RowKit
variable {H:Type} {enc:TypeId × Value->H} {P:Program} {w w':World} {sp:Nat->Bool} {held:Bool}
inductive Fit (N:Nat):AV->Prop
 | no:Fit N .no
 | int (n:Int):Fit N (.int n)
 | bool (b:Bool):Fit N (.bool b)
 | str (s:ByteArray):s.size<=N->Fit N (.str s)
 | sl (l:List AV):(∀ a∈l,Fit N a)->Fit N (.sl l)
 | agg (l:List AV):(∀ a∈l,Fit N a)->Fit N (.agg l)
theorem Fit.s {N:Nat} {a:AV} (h:Fit N a):a.s.size<=N:=by cases h <;> first|assumption|exact Nat.zero_le _
theorem Fit.l {N:Nat} {a:AV} (h:Fit N a):∀ b∈a.l,Fit N b:=by
 cases h with
 | sl l h=>exact h
 | agg l h=>intro b f;cases f
 | _=>intro b f;cases f
theorem Fit.fld {N:Nat} {a:AV} (h:Fit N a) (j:Nat):Fit N (a.fld j):=by
 cases h with
 | agg l h =>
  show Fit N (l.getD j .no)
  rw [List.getD_eq_getElem?_getD]
  cases e:l[j]? with
  | none=>exact .no
  | some b=>exact h b (List.mem_of_getElem? e)
 | _=>exact .no
def Df (enc:TypeId × Value->H) (P:Program) (w:World) (sp:Nat->Bool) (held:Bool) (N:Nat) (k:LK) (v:Value):Prop:=
 match k with
 | .int k=>∃ n,v = .int k n
 | .bool=>∃ b,v = .bool b
 | .str=>∃ s:ByteArray,v = .string s/\s.size<=N
 | .sl e=>∃ t n x,P.underlying t=some (.slice e)/\DataW.trod enc P w 0 sp held n t [v]=some x/\∀ m∈x.1.weights P t,m<=N
 | _=>False
theorem zJ {N:Nat}:∀ (m:Nat) {t:TypeId} {lv:List LK} {n:Nat} {cs:List Value} {x:DataW H × List MemPlace},Ba P m t=some lv->DataW.trod enc P w 0 sp held n t cs=some x->(∀ m∈x.1.weights P t,m<=N)->PW (Df enc P w sp held N) lv cs
 | 0,t,lv,n,cs,x,h,_,_=>by rw [Ba] at h;cases h
 | m+1,t,lv,n,cs,x,h,u,M=>by
  rw [Ba] at h
  split at h
  ·rename_i hu
   cases h
   obtain ⟨b,rfl,_⟩:=DataW.trod_bool hu u
   exact ⟨⟨b,rfl⟩,trivial⟩
  ·rename_i k hu
   cases h
   obtain ⟨b,rfl,_⟩:=DataW.trod_int hu u
   exact ⟨⟨b,rfl⟩,trivial⟩
  ·rename_i hu
   cases h
   obtain ⟨b,rfl,rfl,_⟩:=DataW.trod_string hu u
   refine ⟨⟨b,rfl,?_⟩,trivial⟩
   have:=M b.data.toList.length (by simp [DataW.weights])
   rw [Array.length_toList] at this
   exact this
  ·rename_i e hu
   cases h
   rcases DataW.trod_slice hu u with ⟨rfl,_⟩|⟨a,len,cap,elems,rest,n',_,rfl,_⟩
   ·exact ⟨⟨t,n,x,hu,u,M⟩,trivial⟩
   ·exact ⟨⟨t,n,x,hu,u,M⟩,trivial⟩
  ·rename_i O hu
   obtain ⟨xs,n',_,V,ap,ar,hf⟩:=DataW.trod_struct hu u
   rw [V] at M
   have W:∀ m∈DataW.weightsEach P (O.toList.map (·.type)) (xs.map (·.1)),m<=N:=by
    simpa [DataW.weights,hu] using M
   rw [Option.bind_eq_some_iff] at h
   obtain ⟨l,hl,h⟩:=h
   split at h
   ·rename_i ax
    cases h
    have key:∀ (r:List Field) (i o:Nat) (U:List LK),O.toList.drop i=r->Dl P (Ba P m) r o=some U->PW (Df enc P w sp held N) U ((cs.drop o).take U.length):=by
     intro r
     induction r with
     | nil=>intro i o U _ h;rw [Dl] at h;cases h;simp [PW]
     | cons f r ih =>
      intro i o U hd h
      rw [Dl] at h
      split at h
      ·rename_i lf X
       split at h
       ·rename_i ho
        obtain ⟨Y,ad⟩:=ho
        rw [Option.map_eq_some_iff] at h
        obtain ⟨z,h1,rfl⟩:=h
        have A:O[i]? = some f:=by
         have h0:(O.toList.drop i)[0]? = some f:=by rw [hd];rfl
         rw [List.getElem?_drop,Nat.add_zero,Array.getElem?_toList] at h0
         exact h0
        have hi:=(Array.getElem?_eq_some_iff.1 A).1
        have hy:=hf i f A
        rw [List.getElem?_eq_getElem (by omega),Y,ad] at hy
        have ae:∀ k∈(xs[i]'(by omega)).1.weights P f.type,k<=N:=by
         intro k hk
         refine W k (DataW.weights_mem_each (j:=i) (t:=f.type) (d:=(xs[i]'(by omega)).1) ?_ ?_ k hk)
         ·rw [List.getElem?_map,Array.getElem?_toList,A];rfl
         ·rw [List.getElem?_map,List.getElem?_eq_getElem (by omega)];rfl
        have p1:=zJ m X hy ae
        have p2:=ih (i+1) (o+lf.length) z (by rw [<- drop_drop,hd];rfl) h1
        have:=PW.append p1 p2
        rw [List.length_append]
        have e:(cs.drop o).take (lf.length+z.length)=(cs.drop o).take lf.length++(cs.drop (o+lf.length)).take z.length:=by
         rw [List.take_add,drop_drop]
        rw [e];exact this
       ·cases h
      ·cases h
    have:=key O.toList 0 0 _ rfl hl
    rw [List.drop_zero,List.take_of_length_le (by omega)] at this
    exact this
   ·cases h
  ·cases h
theorem uZ {e:TypeId} {elems:List (DataW H)} {i:Nat} {d:DataW H} (h:elems[i]? = some d):∀ m∈d.weights P e,m∈DataW.weightsAll P e elems:=by
 induction elems generalizing i with
 | nil=>simp at h
 | cons x r f =>
  intro m hm
  rw [DataW.weightsAll,mem_append]
  cases i with
  | zero=>simp at h;subst h;exact .inl hm
  | succ i=>exact .inr (f (by simpa using h) m hm)
open Classical in
theorem zZ {T:Nat->Option TI} {N:Nat}:∀ (d:Nat) {e t:TypeId} {n:Nat} {v:Value} {x:DataW H × List MemPlace},Cu P T d e=true->P.underlying t=some (.slice e)->DataW.trod enc P w 0 sp held n t [v]=some x->(∀ m∈x.1.weights P t,m<=N) ->
  ∃ l:List AV,ej T w (fun b=>b<w.heap.size) (.sl e) v (.sl l)/\∀ a∈l,Fit N a
 | 0,e,t,n,v,x,V,_,_,_=>by rw [Cu] at V;cases V
 | d+1,e,t,n,v,x,V,hu,hx,hN=>by
  rw [Cu] at V
  split at V
  ·rename_i E hE
   simp only [Bool.and_eq_true,decide_eq_true_eq,Bool.or_eq_true,all_eq_true] at V
   obtain ⟨bk,X,ae,bs⟩:=V
   rcases DataW.trod_slice hu hx with ⟨Y,_⟩|⟨a,len,cap,elems,rest,n',_,Y,bx,_,bP,bS,b5,ap,_,_⟩
   ·cases Y
    exact ⟨[],.slnil e _ rfl,by simp⟩
   ·cases Y
    have bV:∀ (i:Nat) (A:i<elems.length),∀ m∈(elems[i]).1.weights P e,m<=N:=by
     intro i A m hm
     refine hN m ?_
     rw [bx]
     have:=uZ (P:=P) (e:=e) (elems:=elems.map (·.1)) (i:=i) (d:=(elems[i]).1) (by rw [List.getElem?_map,List.getElem?_eq_getElem A];rfl) m hm
     simp only [DataW.weights,hu,mem_cons,mem_append]
     exact .inr (.inl this)
    have cell:∀ (i j:Nat) k,i<len->E.lv[j]? = some k->∃ u,w.cell? (a.add (i*E.sz+j))=some u/\∃ b:AV,ej T w (fun b=>b<w.heap.size) k u b/\Fit N b:=by
     intro i j k A z
     have M:=ap i A
     rw [List.getElem?_eq_getElem (by omega),Option.bind_eq_some_iff] at M
     obtain ⟨ar,h2,h3⟩:=M
     obtain ⟨h4,h5⟩:=nf h2
     have hj:j<E.lv.length:=(List.getElem?_eq_some_iff.1 z).1
     have ax:j<ar.length:=by rw [h4,X];exact hj
     have h6:=h5 j (by rw [X];exact hj)
     rw [add_add,List.getElem?_eq_getElem ax,X] at h6
     refine ⟨_,h6,?_⟩
     have O:=(zJ 20 bk h3 (bV i (by omega))).get z (List.getElem?_eq_getElem ax)
     have h8:=bs k (List.mem_of_getElem? z)
     generalize ar[j]=u at O
     cases k with
     | int k=>obtain ⟨m,rfl⟩:=O;exact ⟨.int m,.int k (.int m),.int m⟩
     | bool=>obtain ⟨b,rfl⟩:=O;exact ⟨.bool b,.bool (.bool b),.bool b⟩
     | str=>obtain ⟨s,rfl,hs⟩:=O;exact ⟨.str s,.str (.str s),.str s hs⟩
     | sl e' =>
      obtain ⟨t',m,y,h9,b0,b1⟩:=O
      obtain ⟨l,hl,hf⟩:=zZ d h8 h9 b0 b1
      exact ⟨.sl l,hl,.sl l hf⟩
     | ptr=>exact O.elim
     | fn=>exact O.elim
     | nos=>exact O.elim
     | ifc=>exact O.elim
     | oth=>exact O.elim
     | mp _ _=>exact O.elim
    have pick:∃ f:Nat->Nat->AV,(∀ i j,Fit N (f i j))/\∀ (i j:Nat) k,i<len->E.lv[j]? = some k->∀ u,w.cell? (a.add (i*E.sz+j))=some u->ej T w (fun b=>b<w.heap.size) k u (f i j):=by
     refine ⟨fun i j=>if h:∃ b:AV,Fit N b/\∀ k u,E.lv[j]? = some k->w.cell? (a.add (i*E.sz+j))=some u->ej T w (fun b=>b<w.heap.size) k u b then Classical.choose h else .no,fun i j => ?_,?_⟩
     ·simp only
      split
      ·rename_i h;exact (Classical.choose_spec h).1
      ·exact .no
     intro i j k A z u ad
     have h:∃ b:AV,Fit N b/\∀ k u,E.lv[j]? = some k->w.cell? (a.add (i*E.sz+j))=some u->ej T w (fun b=>b<w.heap.size) k u b:=by
      obtain ⟨u0,M,b,h2,h3⟩:=cell i j k A z
      refine ⟨b,h3,fun k' u' a1 a6 => ?_⟩
      rw [z] at a1;cases a1
      rw [M] at a6;cases a6
      exact h2
     simp only
     rw [dif_pos h]
     exact (Classical.choose_spec h).2 k u z ad
    obtain ⟨f,W,hf⟩:=pick
    let l:List AV:=(List.range len).map fun i=>bif E.agg then .agg ((List.range E.sz).map (f i)) else f i 0
    have b2:l.length=len:=by simp [l]
    let cs:List Value:=(List.range (len*E.sz)).map fun m=>(w.cell? (a.add m)).getD undef
    have a7:cs.length=len*E.sz:=by simp [cs]
    have a8:∀ m,m<len*E.sz->∃ i j k,i<len/\E.lv[j]? = some k/\m=i*E.sz+j:=by
     intro m hm
     have hp:0<E.sz:=by
      rcases Nat.eq_zero_or_pos E.sz with h|h
      ·rw [h,Nat.mul_zero] at hm;omega
      ·exact h
     refine ⟨m / E.sz,m % E.sz,E.lv[m % E.sz]'(Nat.mod_lt _ hp),?_,List.getElem?_eq_getElem _,?_⟩
     ·rw [Nat.div_lt_iff_lt_mul hp];exact hm
     ·rw [Nat.mul_comm];exact (Nat.div_add_mod m E.sz).symm
    have bb:∀ (m:Nat) u,cs[m]? = some u->m<len*E.sz/\w.cell? (a.add m)=some u:=by
     intro m u U
     have hm:m<len*E.sz:=by rw [<- a7];exact (List.getElem?_eq_some_iff.1 U).1
     refine ⟨hm,?_⟩
     obtain ⟨i,j,k,A,z,rfl⟩:=a8 m hm
     obtain ⟨u0,M,_⟩:=cell i j k A z
     have:cs[i*E.sz+j]? = some u0:=by
      simp only [cs,List.getElem?_map,List.getElem?_range hm,Option.map_some,M,Option.getD_some]
     rw [this] at U;cases U;exact M
    refine ⟨l,.sl e E a len cap (.sl l) cs hE b2.symm bP bS a7 (fun m u U => ?_) (fun i j k A z u ad => ?_),?_⟩
    ·have:=(bb m u U).2
     refine ⟨?_,this⟩
     have M:=tX this
     rwa [eK] at M
    ·have M:=(bb _ u ad).2
     have h2:=hf i j k A z u M
     have hj:j<E.sz:=(List.getElem?_eq_some_iff.1 z).1
     have b3:l.getD i .no=bif E.agg then .agg ((List.range E.sz).map (f i)) else f i 0:=by
      rw [List.getD_eq_getElem?_getD]
      simp only [l,List.getElem?_map,List.getElem?_range A,Option.map_some,Option.getD_some]
     have b4:lf E.agg ((AV.sl l).l.getD i .no) j=f i j:=by
      rw [show (AV.sl l).l=l from rfl,b3]
      cases be:E.agg with
      | true =>
       show AV.fld (.agg ((List.range E.sz).map (f i))) j=_
       unfold AV.fld
       simp [List.getD_eq_getElem?_getD,List.getElem?_map,List.getElem?_range hj]
      | false =>
       rw [be] at ae
       have:E.sz=1:=by simpa using ae
       have:j=0:=by omega
       subst this;rfl
     rw [b4];exact h2
    ·intro b hb
     simp only [l,List.mem_map] at hb
     obtain ⟨i,_,rfl⟩:=hb
     cases E.agg with
     | false=>exact W i 0
     | true =>
      refine .agg _ fun c hc => ?_
      obtain ⟨j,_,rfl⟩:=List.mem_map.1 hc
      exact W i j
  ·cases V
theorem Dy {T:Nat->Option TI} {r:Reach} {z N:Nat} {t e:TypeId} {v:Value} {d:DataW H} {ps:List MemPlace} (m:Nat) (A:Cu P T m e=true) (j:P.underlying t=some (.slice e)) (f:Value.okWide P w r z t v) (h:DataW.Trod enc P w 0 sp held t v d ps) (M:∀ n∈d.weights P t,n<=N) :
  ∃ l:List AV,ej T w (fun b=>b<w.heap.size) (.sl e) v (.sl l)/\∀ a∈l,Fit N a:=by
 obtain ⟨fuel,u⟩:=h
 have O:v.cells.toList=[v]:=by
  unfold Value.okWide at f
  rw [j] at f
  simp only [Cell.okWide,j,Cell.ok] at f
  cases v <;> first|rfl|exact f.elim
 rw [O] at u
 exact zZ m A j u M
theorem yU {f:List TypeId} {ds:List (DataW H)} (h:(DataW.weightsEach P f ds).all (· <= reachBytes)=true) {j:Nat} {t:TypeId} {d:DataW H} (m:f[j]? = some t) (u:ds[j]? = some d):∀ n∈d.weights P t,n<=140737488351232:=by
 intro n z
 have A:=DataW.weights_mem_each m u n z
 rw [all_eq_true] at h
 have:=of_decide_eq_true (h n A)
 exact this
end Go.Proofs.Ab
namespace Go.Proofs.Ab
open Go Go.RowKit
variable {R:Type}
section
variable {P:Program} {ops:Array Oper} {Qn:Act->World->Prop}
def Qd (Qn:Act->World->Prop):Exit->Act->World->Prop:=fun e a w=>e = .normal/\Qn a w/\a.defers=[]
theorem tN:¬ LetsOut (Qd Qn):=fun ⟨_,_,h,_⟩=>by cases h
theorem eo (a:Act) (d:Option Nat) (v:Value):(a.put d v).defers=a.defers:=by cases d <;> rfl
theorem oL:∀ (l:List Nat) (a:Act) (w:World),wpOps P ops (Qd Qn) l a w->a.defers=[]
 | [],a,w,h=>h.2.2
 | i::l,a,w,h=>by
  have m:=fun a w=>oL l a w
  simp only [wpOps] at h
  split at h
  ·exact m _ _ h
  ·rename_i o z
   split at h
   ·rcases h with h|h
    ·unfold Oper.wp at h
     cases j:(execOp a.eval o).run P w with
     | ok x w' =>
      rw [j] at h
      cases x <;> simp only [Oper.upon] at h
      case value v=>have:=m _ _ h;rwa [eo] at this
      case skip=>have:=m _ _ h;rwa [eo] at this
      case defer d=>have:=m _ _ h;rw [eo] at this;cases this
      case enter f args =>
       obtain ⟨e,w',fr,u,_⟩:=h []
       cases e with
       | returned v=>have:=m _ _ u;rwa [eo] at this
       | panicked c=>exact absurd u.1 (by simp)
       | outgrown=>exact absurd u tN
      case row row args =>
       obtain ⟨v,w',u,_⟩:=h default []
       have:=m _ _ u;rwa [eo] at this
     | halt x w' =>
      rw [j] at h
      cases x <;> simp only [Oper.upon] at h
      all_goals exact absurd h.1 (by simp)
    ·exact absurd h.2 tN
   ·have:=m _ _ h;rwa [eo] at this
def Kp (ds:List Nat) (a0 a:Act):Prop:=a.tmps.size=a0.tmps.size/\∀ i,i ∉ ds->a.tmps.getD i undef=a0.tmps.getD i undef
theorem Kp.refl (ds:List Nat) (a:Act):Kp ds a a:=⟨rfl,fun _ _=>rfl⟩
theorem Kp.put {ds:List Nat} {a0 a:Act} (h:Kp ds a0 a) {d:Option Nat} (m:∀ i,d=some i->i∈ds) (v:Value):Kp ds a0 (a.put d v):=by
 cases d with
 | none=>exact h
 | some k =>
  refine ⟨by show (a.tmps.setIfInBounds k v).size=_;rw [Array.size_setIfInBounds];exact h.1,fun i j => ?_⟩
  have f:k≠i:=fun e=>j (e▸m k rfl)
  show (a.tmps.setIfInBounds k v).getD i undef=_
  rw [<- h.2 i j]
  simp only [Array.getD_eq_getD_getElem?,Array.getElem?_setIfInBounds]
  rw [if_neg f]
theorem Dz {F:Fence} {n:Nat} (N:∀ f,F.fn f) (X:F.depth=none) (Y:∀ {n f args w} {R:Ending->World->Prop},Calls P f args w R->CallsIn F n P f args w R) (z:∀ {n row args w} {R:Value->World->Prop},Rows P row args w R->RowsIn F n P row args w R)
  (U:∀ o∈ops.toList,∀ c,o.op ≠ .defer c) (d:List Deferred) {ds:List Nat} (u:∀ o∈ops.toList,∀ i,o.dst=some i->i∈ds) {a0:Act}:∀ (l:List Nat) (a:Act) (w:World),Kp ds a0 a->wpOps P ops (Qd Qn) l a w ->
  wpOpsIn F n P ops (fun e a' w'=>e = .normal/\Qn { a' with defers:=[] } w'/\a'.defers=d/\Kp ds a0 a') l { a with defers:=d } w
 | [],a,w,A,h=>by
  obtain ⟨h1,h2,h3⟩:=h
  refine ⟨rfl,?_,rfl,A⟩
  have:({ ({ a with defers:=d }:Act) with defers:=[] }:Act)=a:=by cases a;simp only at h3;rw [h3]
  rw [this];exact h2
 | i::l,a,w,A,h=>by
  have O:=fun a w=>Dz (n:=n) N X Y z U d u (a0:=a0) l a w
  have m:∀ (a:Act) (o:Option Nat) (v:Value),({ a with defers:=d }:Act).put o v={ a.put o v with defers:=d }:=fun a o v=>by cases o <;> rfl
  simp only [wpOps] at h
  simp only [wpOpsIn]
  split at h
  ·rename_i W;rw [W];exact O _ _ A h
  ·rename_i o W
   rw [W]
   have j:o∈ops.toList:=Array.mem_toList_iff.2 (Array.mem_of_getElem? W)
   simp only
   split at h
   ·rename_i hw
    rw [if_pos hw]
    rcases h with h|h
    ·refine ⟨fun f _=>N f,?_⟩
     have V:o.semAt F.round ({ a with defers:=d }:Act).eval=execOp a.eval o:=by
      cases F.round with
      | none=>rfl
      | some r=>exact Oper.semAt_some r _ _ (U o j)
     rw [V]
     unfold Oper.wp at h
     cases M:(execOp a.eval o).run P w with
     | ok x w' =>
      rw [M] at h
      cases x <;> simp only [Oper.upon] at h
      case value v=>simp only [Oper.uponIn];rw [m];exact O _ _ (A.put (u o j) _) h
      case skip=>simp only [Oper.uponIn];rw [m];exact O _ _ (A.put (u o j) _) h
      case defer d' =>
       have:=oL _ _ _ h
       rw [eo] at this;cases this
      case enter f args =>
       simp only [Oper.uponIn]
       refine ⟨fun h=>(by rw [X] at h;cases h),Y (h.mono fun e w2 z => ?_)⟩
       cases e with
       | returned v=>simp only at z ⊢;rw [m];exact O _ _ (A.put (u o j) _) z
       | panicked c=>exact absurd z.1 (by simp)
       | outgrown=>exact absurd z tN
      case row row args =>
       simp only [Oper.uponIn]
       refine ⟨fun h=>(by rw [X] at h;cases h),z (h.mono fun v w2 z => ?_)⟩
       rw [m];exact O _ _ (A.put (u o j) _) z
     | halt x w' =>
      rw [M] at h
      cases x <;> simp only [Oper.upon] at h
      all_goals exact absurd h.1 (by simp)
    ·exact absurd h.2 tN
   ·rename_i hw
    rw [if_neg hw]
    refine ⟨fun f _=>N f,?_⟩
    rw [m];exact O _ _ (A.put (u o j) _) h
end
end Go.Proofs.Ab
namespace Go.Proofs.Ab
noncomputable section
open Go Go.RowKit
variable {R:Type}
def zu (o:Oper):Bool:=match o.op with
 | .defer _=>true
 | _=>false
def xx (id:Nat):Exit->Exit
 | .exit i=>if i=id then .normal else .exit i
 | e=>e
def w7 (κ:Exit->St->Option R) (f:St->Option R):Exit->St->Option R
 | .normal,s=>f s
 | .exit i,s=>κ (.exit i) s
 | .ret,s=>κ .ret s
 | _,_=>none
def cK (C:Cfg R):Code->St->(Exit->St->Option R)->Option R
 | .region _ ops d,s,κ=>bif d||ops.toList.any zu then none else e9 C false ops ops.toList s (κ .normal)
 | .seq x y,s,κ=>cK C x s (w7 κ fun s1=>cK C y s1 κ)
 | .skip,s,κ=>κ .normal s
 | .cond c x y,s,κ=>match ev s c with
  | .bool t=>bif t then cK C x s κ else cK C y s κ
  | _=>none
 | .block id c,s,κ=>cK C c s fun e s1=>κ (xx id e) s1
 | .exit id,s,κ=>κ (.exit id) s
 | .ret,s,κ=>κ .ret s
 | _,_,_=>none
section
variable {P:Program} {E:Env} {C:Cfg R} {tab:cg} {r:R} {F:Fence} {n:Nat}
def kT:Code->List Nat
 | .region _ ops _=>ops.toList.filterMap (·.dst)
 | .seq x y=>kT x++kT y
 | .cond _ x y=>kT x++kT y
 | .block _ c=>kT c
 | _=>[]
def Qx (E:Env) (κ:Exit->St->Option R) (r:R) (d:List Deferred) (ds:List Nat) (a0:Act):Exit->Act->World->Prop:=fun e a' w'=>∃ s',κ e s'=some r/\dj E s' { a' with defers:=[] } w'/\a'.defers=d/\Kp ds a0 a'
theorem py (W:Ok P C.ty) (X:ee C tab E) (Y:∀ g,bT P C.ty tab g (C.call g)) (A:∀ f,F.fn f) (hd:F.depth=none) (hC:∀ {n f args w} {R:Ending->World->Prop},Calls P f args w R->CallsIn F n P f args w R) (hR:∀ {n row args w} {R:Value->World->Prop},Rows P row args w R->RowsIn F n P row args w R) (d:List Deferred) {ds:List Nat} {a0:Act} :
  ∀ (c:Code) {s:St} {a:Act} {w:World} {κ:Exit->St->Option R},(∀ i∈kT c,i∈ds)->dj E s { a with defers:=[] } w->a.defers=d->Kp ds a0 a->cK C c s κ=some r->c.wpIn F n P (Qx E κ r d ds a0) a w
 | .region id ops dr,s,a,w,κ,O,h,z,m,j=>by
  unfold cK at j
  obtain ⟨u,ae⟩:=ll j
  clear j
  rw [Bool.or_eq_false_iff] at u
  obtain ⟨rfl,u⟩:=u
  have ap:∀ o∈ops.toList,∀ c,o.op ≠ .defer c:=fun o ho c e=>by
   rw [List.any_eq_false] at u
   exact u o ho (by unfold zu;rw [e])
  have ad:=lF (Q:=Qd fun a w=>∃ s',κ .normal s'=some r/\dj E s' a w) W X Y (fun s' a' w' u M=>⟨rfl,⟨s',u,M⟩,let ⟨_,_,_,h⟩:=M;h.defers⟩) ops.toList 0 (by simp) h ae
  have:=Dz (n:=n) A hd hC hR ap d (ds:=ds) (fun o ho i e=>O i (by unfold kT;rw [List.mem_filterMap];exact ⟨o,ho,e⟩)) (a0:=a0) _ { a with defers:=[] } _ m ad
  have ea:({ ({ a with defers:=[] }:Act) with defers:=d }:Act)=a:=by cases a;simp only at z;rw [<- z]
  rw [ea] at this
  refine wpIn_mono (wpIn_region ?_) (Q:=fun e a' w'=>e = .normal/\(∃ s',κ .normal s'=some r/\dj E s' { a' with defers:=[] } w')/\a'.defers=d/\Kp ds a0 a') fun e a' w' h => ?_
  ·rw [List.range_eq_range',show ops.size=ops.toList.length by simp];exact this
  ·obtain ⟨rfl,⟨s',u,M⟩,U⟩:=h
   exact ⟨s',u,M,U⟩
 | .seq x y,s,a,w,κ,O,h,z,m,j=>by
  unfold cK at j
  refine wpIn_seq (wpIn_mono (py W X Y A hd hC hR d x (fun i N=>O i (by unfold kT;simp [N])) h z m j) fun e a' w' V => ?_)
  obtain ⟨s',u,M,U,h4⟩:=V
  cases e with
  | normal=>exact py W X Y A hd hC hR d y (fun i N=>O i (by unfold kT;simp [N])) M U h4 u
  | exit i=>exact ⟨s',u,M,U,h4⟩
  | ret=>exact ⟨s',u,M,U,h4⟩
  | _=>cases u
 | .skip,s,a,w,κ,_,h,z,m,j=>wpIn_skip ⟨s,j,h,z,m⟩
 | .cond c x y,s,a,w,κ,O,h,z,m,j=>by
  unfold cK at j
  split at j
  ·rename_i t ht
   obtain ⟨β,Rt,Ra,h0⟩:=h
   have hc:=ck h0 c
   rw [ht] at hc
   have e:a.eval c = .bool t:=hc
   refine wpIn_cond e ?_
   cases t with
   | true=>exact py W X Y A hd hC hR d x (fun i N=>O i (by unfold kT;simp [N])) ⟨β,Rt,Ra,h0⟩ z m j
   | false=>exact py W X Y A hd hC hR d y (fun i N=>O i (by unfold kT;simp [N])) ⟨β,Rt,Ra,h0⟩ z m j
  ·cases j
 | .block id c,s,a,w,κ,O,h,z,m,j=>by
  unfold cK at j
  refine wpIn_block (wpIn_mono (py W X Y A hd hC hR d c (fun i N=>O i (by unfold kT;exact N)) h z m j) fun e a' w' V => ?_)
  obtain ⟨s',u,M,U⟩:=V
  cases e with
  | exit i =>
   change κ (if i=id then .normal else .exit i) s'=some r at u
   show if i=id then Qx E κ r d ds a0 .normal a' w' else Qx E κ r d ds a0 (.exit i) a' w'
   by_cases N:i=id
   ·rw [if_pos N] at u ⊢;exact ⟨s',u,M,U⟩
   ·rw [if_neg N] at u ⊢;exact ⟨s',u,M,U⟩
  | _=>exact ⟨s',u,M,U⟩
 | .exit id,s,a,w,κ,_,h,z,m,j=>wpIn_exit ⟨s,j,h,z,m⟩
 | .ret,s,a,w,κ,_,h,z,m,j=>wpIn_ret ⟨s,j,h,z,m⟩
 | .loop ..,_,_,_,_,_,_,_,_,j=>by cases j
 | .scope ..,_,_,_,_,_,_,_,_,j=>by cases j
 | .goto ..,_,_,_,_,_,_,_,_,j=>by cases j
 | .label ..,_,_,_,_,_,_,_,_,j=>by cases j
 | .rangeFunc ..,_,_,_,_,_,_,_,_,j=>by cases j
 | .refuse ..,_,_,_,_,_,_,_,_,j=>by cases j
end
end
end Go.Proofs.Ab
namespace Go.Proofs.Ab
noncomputable section
open Go Go.RowKit
variable {R:Type}
section
variable {P:Program} {E:Env} {C:Cfg R} {tab:cg} {s s':St} {a a':Act} {w w':World} {β β':Nat->Bl} {Rt Ra Rt' Ra':Nat->Prop}
def It (E:Env) (s:St) (w:World) (β:Nat->Bl) (Rt Ra:Nat->Prop):Env:=⟨E.T,w,fun b=>∃ t o,s.obj t=some o/\b∈cu (β t) o,Rt,Ra,E.pb⟩
theorem Rel.re (h:Rel E s a w β Rt Ra):Rel (It E s w β Rt Ra) s a w β Rt Ra:=
 ⟨⟨h.objs,h.lt,fun t o f b j=>⟨(h.dc t o f b j).1,(h.dc t o f b j).2.1,.inr ⟨t,o,f,j⟩⟩,h.apart,h.sub,h.rlt,Fr.refl _ _,fun _ h=>h,fun _ h=>h,fun _ h => .inl h,h.nx,h.pin⟩,h.len,h.defers,h.slots⟩
theorem ee.re (m:ee C tab E) (h:Rel E s a w β Rt Ra):ee C tab (It E s w β Rt Ra):=
 ⟨m.T,fun b ob f=>by
  obtain ⟨g1,g2,g3⟩:=m.tab b ob f
  have j:b<E.w0.heap.size:=(Array.getElem?_eq_some_iff.1 g1).1
  refine ⟨(h.fr.block b j g3).trans g1,h.rt0 b g2,?_⟩
  rintro ⟨t,o,u,z⟩
  exact (h.dc t o u b z).2.1 (h.sub b (h.rt0 b g2))⟩
theorem Rel.Jd (h:Rel E s a w β Rt Ra) (f:Rel (It E s w β Rt Ra) s' a' w' β' Rt' Ra'):Rel E s' a' w' β' Rt' Ra':=
 ⟨⟨f.objs,f.lt,fun t o M b u=>by
   obtain ⟨g1,g2,g3⟩:=f.dc t o M b u
   refine ⟨g1,g2,?_⟩
   rcases g3 with g3|⟨z,A,j,m⟩
   ·exact .inl (Nat.le_trans h.fr.size g3)
   ·exact (h.dc z A j b m).2.2,
  f.apart,f.sub,f.rlt,h.fr.trans f.fr (fun b u=>by obtain ⟨z,A,j,m⟩:=u;exact (h.dc z A j b m).2.2),fun b u=>f.rt0 b (h.rt0 b u),fun b u=>f.ra0 b (h.ra0 b u),
  fun b u=>by
   rcases f.rt b u with g|g|⟨z,A,j,m⟩
   ·exact h.rt b g
   ·exact .inr (.inl (Nat.le_trans h.fr.size g))
   ·exact .inr (h.dc z A j b m).2.2,f.nx,f.pin⟩,f.len,f.defers,f.slots⟩
def AD:SV->Bool
 | .ro _ _ st=>st
 | .rl _ _ st _ _=>st
 | .ra _ _ _ st=>st
 | _=>true
def Gp:SV->Bool
 | .agg l=>l.all AD
 | .tup _=>false
 | x=>AD x
def HD:Obj->Bool
 | .row _ _ st=>st
 | .var _ l=>l.all AD
 | _=>true
def oP (s:St):Bool:=s.slots.all Gp&&s.objs.all fun p=>HD p.2
theorem Gj {c c':Cx} (f:c'.T=c.T) (hw:c'.w=c.w) (j:c'.Rt=c.Rt) (m:c'.β=c.β) (A:c'.D=c.D) {x:SV} {v:Value} (u:AD x=true) (h:SL c x v):SL c' x v:=by
 have z:c'.Q true=c.Q true:=by funext b;unfold Cx.Q;rw [if_pos rfl,if_pos rfl,j]
 cases x <;> simp only [SL] at h ⊢ <;> try (first|exact h|(rw [A,m];exact h)|(rw [A];exact h))
 case ro e l st=>obtain rfl:st=true:=u;rw [f,hw,z];exact h
 case rl e l st i off=>obtain rfl:st=true:=u;rw [f,hw,z];exact h
 case ra e n l st=>obtain rfl:st=true:=u;rw [f,hw,z];exact h
 case ar e n l=>rw [f,hw];exact h
theorem va {c:Cx} {x:SV} {v:Value} (f:∀ l,x ≠ .agg l) (j:∀ l,x ≠ .tup l):S2 c x v ↔ SL c x v:=by
 cases x <;> first|exact Iff.rfl|exact absurd rfl (f _)|exact absurd rfl (j _)
theorem qn:∀ {l:List (Nat × Obj)} {t:Nat} {o:Obj},lookup t l=some o->∃ k,(k,o)∈l
 | [],_,_,h=>by cases h
 | (k,x)::l,t,o,h=>by
  unfold lookup at h
  cases f:Nat.beq t k with
  | true=>rw [f] at h;cases h;exact ⟨k,by simp⟩
  | false =>
   rw [f] at h
   obtain ⟨j,m⟩:=qn h
   exact ⟨j,by simp [m]⟩
theorem Ck (h:oP s=true) {t:Nat} {o:Obj} (f:s.obj t=some o):HD o=true:=by
 unfold oP at h
 rw [Bool.and_eq_true,all_eq_true,all_eq_true] at h
 obtain ⟨k,j⟩:=qn f
 exact h.2 _ j
theorem Cj (h:oP s=true) (i:Nat):Gp (s.get i)=true:=by
 unfold oP at h
 rw [Bool.and_eq_true,all_eq_true,all_eq_true] at h
 show Gp (fc s.slots i)=true
 by_cases f:i<s.slots.length
 ·rw [ud,List.getD_eq_getElem?_getD,List.getElem?_eq_getElem f];exact h.1 _ (List.getElem_mem _)
 ·rw [ue f];rfl
theorem Rel.shrink (h:Rel E s a w β Rt Ra) (O:oP s=true):Rel E s a w β Rt (fun b=>Rt b∨E.Ra0 b):=by
 have one:∀ {x:SV} {v:Value},AD x=true->SL (bI E s w β Rt Ra) x v->SL (bI E s w β Rt fun b=>Rt b∨E.Ra0 b) x v:=fun {x v} M z=>Gj (c:=bI E s w β Rt Ra) (c':=bI E s w β Rt fun b=>Rt b∨E.Ra0 b) rfl rfl rfl rfl rfl M z
 refine ⟨⟨fun t o A => ?_,h.lt,fun t o A b j=>⟨(h.dc t o A b j).1,fun U=>(h.dc t o A b j).2.1 (U.elim (h.sub b) (h.ra0 b)),(h.dc t o A b j).2.2⟩,h.apart,fun b j => .inl j,fun b j=>h.rlt b (j.elim (h.sub b) (h.ra0 b)),h.fr,h.rt0,fun b j => .inr j,h.rt,h.nx,h.pin⟩,h.len,h.defers,fun i => ?_⟩
 ·have f:=Ck O A
  have m:=h.objs t o A
  cases o with
  | row e l st =>
   obtain rfl:st=true:=f
   exact m
  | var ty Y =>
   obtain ⟨cs,u,V,W⟩:=m
   refine ⟨cs,u,V,PW.imp_mem (fun x M v z => ?_) W⟩
   have N:AD x=true:=List.all_eq_true.1 f x M
   unfold lS at z ⊢
   split
   ·exact z
   ·rename_i hn;split at z
    ·exact absurd rfl (by assumption)
    ·exact one N z
  | sit _ _=>exact m
  | mp _ _ _=>exact m
  | hole=>trivial
 ·have f:=Cj O i
  have m:=h.slots i
  generalize s.get i=x at f m
  generalize a.tmps.getD i undef=v at m
  cases x
  case agg l =>
   obtain ⟨cs,e,X⟩:=m
   exact ⟨cs,e,PW.imp_mem (fun x M v z=>one (List.all_eq_true.1 f x M) z) X⟩
  case tup l=>cases f
  all_goals exact (va (by simp) (by simp)).2 (one f ((va (by simp) (by simp)).1 m))
def m8 (ds:List Nat):Nat->List SV->List SV
 | _,[]=>[]
 | i,x::r=>(bif ds.any (Nat.beq i) then .no else x)::m8 ds (i+1) r
def jT (ds:List Nat) (s:St):St:=⟨m8 ds 0 s.slots,s.objs,s.next⟩
theorem tH (ds:List Nat):∀ (l:List SV) (i:Nat),(m8 ds i l).length=l.length
 | [],_=>rfl
 | _::r,i=>by simp [m8,tH ds r]
theorem tG (ds:List Nat):∀ (l:List SV) (i j:Nat),fc (m8 ds i l) j = .no∨((i+j) ∉ ds/\fc (m8 ds i l) j=fc l j)
 | [],i,j => .inl rfl
 | x::r,i,0=>by
  show (bif ds.any (Nat.beq i) then SV.no else x) = .no∨_
  cases f:ds.any (Nat.beq i) with
  | true=>exact .inl rfl
  | false =>
   refine .inr ⟨fun hm => ?_,by show (bif ds.any (Nat.beq i) then SV.no else x)=x;rw [f];rfl⟩
   rw [List.any_eq_false] at f
   exact f i hm (Nat.beq_refl i)
 | x::r,i,j+1=>by
  have:=tG ds r (i+1) j
  rw [show i+1+j=i+(j+1) by omega] at this
  exact this
theorem Rel.jT (h:Rel E s a' w β Rt Ra) {ds:List Nat} (f:Kp ds a a') (j:a.defers=[]):Rel E (jT ds s) a w β Rt Ra:=
 ⟨⟨h.objs,h.lt,h.dc,h.apart,h.sub,h.rlt,h.fr,h.rt0,h.ra0,h.rt,h.nx,h.pin⟩,by show (m8 ds 0 s.slots).length=_;rw [tH,h.len];exact f.1,j,fun i=>by
  rcases tG ds s.slots 0 i with e|⟨m,e⟩
  ·show S2 _ (fc (m8 ds 0 s.slots) i) _
   rw [e];trivial
  ·show S2 _ (fc (m8 ds 0 s.slots) i) _
   rw [e,<- f.2 i (by rwa [Nat.zero_add] at m)]
   exact h.slots i⟩
end
end
end Go.Proofs.Ab
namespace Go.Proofs.Ab
noncomputable section
open Go Go.RowKit
variable {R:Type}
structure n9 where
 x0:Operand
 d1:Nat
 d2:Nat
 g:Nat
 sep:ByteArray
 b:Nat
 p:Nat
 assign:Code
 body:Code
instance:Inhabited n9:=⟨⟨.tmp 0,0,0,0,⟨#[]⟩,0,0,.skip,.skip⟩⟩
def n9.ds (i:n9):List Nat:=i.p::(kT i.assign++kT i.body)
def I1 (i:n9) (f:St->Option R) (κ:Exit->St->Option R):Exit->St->Option R
 | .normal,s=>bo (oP (jT i.ds s)) (f (jT i.ds s))
 | .ret,s=>bo (oP (jT i.ds s)) (κ .ret (jT i.ds s))
 | .exit j,s=>bo (oP (jT i.ds s)) (κ (.exit j) (jT i.ds s))
 | _,_=>none
def IY (C:Cfg R) (i:n9) (κ:Exit->St->Option R):Exit->St->Option R
 | .normal,s=>bo (oP s) (cK C i.body s κ)
 | _,_=>none
def nQ (C:Cfg R) (i:n9) (f:St->Option R) (κ:Exit->St->Option R) (s:St) (piece:ByteArray):Option R:=
 cK C i.assign (s.put (some i.p) (.str piece)) (IY C i (I1 i f κ))
def JP:SV->SV->Bool
 | .int k _,.int f _=>decide (k=f)
 | .bool _,.bool _=>true
 | .str _,.str _=>true
 | .ro e _ st,.ro j _ st'=>Nat.beq e j&&(st == st')
 | x,y=>Hq x y
def Js:List SV->List SV->Bool
 | [],[]=>true
 | x::l,y::m=>JP x y&&Js l m
 | _,_=>false
def JO:Obj->Obj->Bool
 | .var t l,.var u m=>Nat.beq t u&&Js l m
 | o,f=>Hp o f
def Ie:List (Nat × Obj)->List (Nat × Obj)->Bool
 | [],[]=>true
 | (a,x)::l,(b,y)::m=>Nat.beq a b&&(JO x y&&Ie l m)
 | _,_=>false
def Gk (f:Int->Option R):List SV->Option R
 | [.int .i64 n]=>f n
 | _=>none
def Is (C:Cfg R) (ix:Nat) (i:n9) (κ:Exit->St->Option R) (J:ByteArray->St->Option R) (rest:ByteArray) (s:St):Option R:=
 C.call ix [.str rest,.str i.sep] (Gk fun n =>
  bif decide (n<0) then nQ C i (fun s2=>bo (Ie s.objs s2.objs) (κ .normal s2)) κ s rest else
  bo (decide (n+1<=(rest.size:Int))) (nQ C i (fun s2=>bo (Ie s.objs s2.objs) (J (rest.extract (n.toNat+1) rest.size) s2)) κ s (rest.extract 0 n.toNat)))
def Ej (C:Cfg R) (ix:Nat) (i:n9) (κ:Exit->St->Option R):Nat->ByteArray->St->Option R
 | 0,_,_=>none
 | f+1,rest,s=>Is C ix i κ (Ej C ix i κ f) rest s
section
variable {P:Program} {E:Env} {C:Cfg R} {tab:cg} {r:R} {s s':St} {a a':Act} {w w':World} {β β':Nat->Bl} {Rt Ra Rt' Ra':Nat->Prop}
def Fo (E:Env) (s:St) (w:World) (β:Nat->Bl) (Rt:Nat->Prop) (b:Nat):Prop:=b<w.heap.size/\¬ Rt b/\¬ E.Ra0 b/\(E.w0.heap.size<=b∨E.W0 b)/\∀ t o,s.obj t=some o->b ∉ cu (β t) o
theorem Fo.world {b:Nat} (h:Fo E s w β Rt b) (f:w.heap.size<=w'.heap.size):Fo E s w' β Rt b:=⟨Nat.lt_of_lt_of_le h.1 f,h.2⟩
theorem kD (w:World) (l:Nat) (o:Go.Obj):Fr (fun x=>x=l) w (w.putObj l o):=
 ⟨rfl,rfl,rfl,by simp,fun b _ f=>World.putObj_heap_other f⟩
theorem ja {b:Nat} (h:w'.heap[b]? = w.heap[b]?):w'.cell? ⟨b,0,none⟩=w.cell? ⟨b,0,none⟩:=by unfold World.cell?;simp only [h]
theorem vy {b:Nat} (h:w'.heap[b]? = w.heap[b]?):w'.frozen? ⟨b,0,none⟩=w.frozen? ⟨b,0,none⟩:=by unfold World.frozen?;simp only [h]
def fV (bP bS bV:Nat) (sep rest:ByteArray) (W:World):Prop:=
 W.cell? ⟨bS,0,none⟩=some (.string rest)/\W.cell? ⟨bP,0,none⟩=some (.string sep)/\W.cell? ⟨bV,0,none⟩=some (.int .i64 0)/\W.frozen? ⟨bS,0,none⟩=false
theorem fV.heap {bP bS bV:Nat} {sep rest:ByteArray} (h:fV bP bS bV sep rest w) (f:w'.heap[bS]? = w.heap[bS]?) (j:w'.heap[bP]? = w.heap[bP]?) (m:w'.heap[bV]? = w.heap[bV]?):fV bP bS bV sep rest w':=
 ⟨(ja f).trans h.1,(ja j).trans h.2.1,(ja m).trans h.2.2.1,(vy f).trans h.2.2.2⟩
theorem fV.set {bP bS bV:Nat} {sep rest:ByteArray} (h:fV bP bS bV sep rest w) (n1:bP≠bS) (n2:bV≠bS) (f:ByteArray):fV bP bS bV sep f (w.setCell ⟨bS,0,none⟩ (.string f)):=by
 obtain ⟨j,m,u,z⟩:=h
 refine ⟨World.cell?_setCell_same' _ _ _ (by rw [j];rfl),(ja (Below.heap_setCell _ _ _ _ n1)).trans m,(ja (Below.heap_setCell _ _ _ _ n2)).trans u,?_⟩
 rw [World.frozen?_setCell];exact z
theorem Cd {F:Fence} {n:Nat} (V:Ok P C.ty) (W:ee C tab E) (X:∀ g,bT P C.ty tab g (C.call g)) (M:∀ f,F.fn f) (Y:F.depth=none) (hC:∀ {n f args w} {R:Ending->World->Prop},Calls P f args w R->CallsIn F n P f args w R) (hR:∀ {n row args w} {R:Value->World->Prop},Rows P row args w R->RowsIn F n P row args w R) (d:List Deferred) {ds:List Nat} {a0:Act}
  (c:Code) {κ:Exit->St->Option R} (N:∀ i∈kT c,i∈ds) (h:Rel E s { a with defers:=[] } w β Rt Ra) (ha:a.defers=d) (O:Kp ds a0 a) (hk:cK C c s κ=some r) :
  c.wpIn F n P (fun e a' w'=>∃ s' β' Rt' Ra',κ e s'=some r/\Rel E s' { a' with defers:=[] } w' β' Rt' Ra'/\a'.defers=d/\Kp ds a0 a'/\w.heap.size<=w'.heap.size/\∀ b,Fo E s w β Rt b->w'.heap[b]? = w.heap[b]? /\ Fo E s' w' β' Rt' b) a w:=by
 refine wpIn_mono (py (E:=It E s w β Rt Ra) (tab:=tab) V (W.re h) X M Y hC hR d c N ⟨β,Rt,Ra,h.re⟩ ha O hk) fun e a' w' hq => ?_
 obtain ⟨s',h1,⟨β',Rt',Ra',u⟩,h3,h4⟩:=hq
 refine ⟨s',β',Rt',Ra',h1,h.Jd u,h3,h4,u.fr.size,fun b m=>⟨u.fr.block b m.1 ?_,Nat.lt_of_lt_of_le m.1 u.fr.size,fun hr => ?_,m.2.2.1,m.2.2.2.1,fun t o z j => ?_⟩⟩
 ·rintro ⟨t,o,z,j⟩;exact m.2.2.2.2 t o z j
 ·rcases u.rt b hr with g|g|⟨t,o,z,j⟩
  ·exact m.2.1 g
  ·have:=m.1;have:w.heap.size<=b:=g;omega
  ·exact m.2.2.2.2 t o z j
 ·rcases (u.dc t o z b j).2.2 with g|⟨t',o',U,A⟩
  ·have:=m.1;have:w.heap.size<=b:=g;omega
  ·exact m.2.2.2.2 t' o' U A
end
end
end Go.Proofs.Ab
namespace Go.Proofs.Ab
noncomputable section
open Go Go.RowKit
variable {R:Type}
theorem iC {P:Program} {n:Nat} {f:FuncId} {args:Array Value} {w:World} {R:Ending->World->Prop} (h:Calls P f args w R):CallsIn Fence.wide n P f args w R:=callsIn_wide.2 h
theorem kS {P:Program} {n:Nat} {row:String} {args:Array Value} {w:World} {R:Value->World->Prop} (h:Rows P row args w R):RowsIn Fence.wide n P row args w R:=
 fun c cs _=>let ⟨v,w',r,s⟩:=h c cs;⟨v,w',r,stepsIn_wide.2 s⟩
def jI (fn:FuncId) (a:Act) (i:n9) (D:Nat) (st:LoopState) (f:Option Code):Loop:={ state:=st,pending:=f,fn,tmps:=a.tmps,params := #[i.p],assign:=i.assign,body:=i.body,defers:=D }
section
variable {P:Program} {E:Env} {C:Cfg R} {tab:cg} {r:R} {s s':St} {a a':Act} {w w':World} {β β':Nat->Bl} {Rt Ra Rt' Ra':Nat->Prop}
structure jV where
 bS:Nat
 bP:Nat
 bV:Nat
 D:Nat
 L:Nat
 n1:bP≠bS
 n2:bV≠bS
 n3:D≠bS
 n4:L≠bS
 n5:bS≠L
 n6:bP≠L
 n7:bV≠L
 n8:D≠L
def jV.all (p:jV):List Nat:=[p.bS,p.bP,p.bV,p.D,p.L]
def rk (E:Env) (p:jV) (a:Act) (f:St->Option R) (r:R) (W:World):Prop:=
 W.heap[p.D]? = some (.deferred (some []))/\∃ s β Rt Ra,f s=some r/\Rel E s a W β Rt Ra/\(∀ b,Ra b->Rt b∨E.Ra0 b)/\∀ b∈p.all,Fo E s W β Rt b
def Je (E:Env) (p:jV) (a:Act) (fn:FuncId) (i:n9) (rest:ByteArray) (f:St->Option R) (r:R) (W:World):Prop:=
 fV p.bP p.bS p.bV i.sep rest W/\W.heap[p.L]? = some (.loop (jI fn a i p.D .ready none))/\rk E p a f r W
def HC (E:Env) (p:jV) (a:Act) (fn:FuncId) (i:n9) (κ:Exit->St->Option R) (r:R) (W:World):Prop:=
 (W.heap[p.L]? = some (.loop (jI fn a i p.D .done (some .ret)))/\rk E p a (κ .ret) r W)∨∃ j,W.heap[p.L]? = some (.loop (jI fn a i p.D .done (some (.exit j))))/\rk E p a (κ (.exit j)) r W
theorem jX {p:jV} {i:n9} {a1:Act} (A:a.defers=[]) (j:Rel E s' { a1 with defers:=[] } w' β' Rt' Ra') (M:Kp i.ds a a1) (N:oP (jT i.ds s')=true) (m:∀ b∈p.all,Fo E s' w' β' Rt' b) (O:w'.heap[p.D]? = some (.deferred (some []))) {f:St->Option R} (U:f (jT i.ds s')=some r) (o:Go.Obj) :
  rk E p a f r (w'.putObj p.L o):=by
 have V:Rel E (jT i.ds s') a w' β' Rt' Ra':=j.jT (a:=a) M A
 have W:=V.shrink N
 have z:=m p.L (by simp [jV.all])
 have X:=W.world (kD w' p.L o) fun b u=>by
  subst u
  exact ⟨fun h=>h.elim z.2.1 z.2.2.1,z.2.2.2.1,z.2.2.2.2⟩
 exact ⟨(World.putObj_heap_other p.n8).trans O,jT i.ds s',β',Rt',_,U,X,fun b u=>u,fun b u=>(m b u).world (by simp)⟩
theorem oB (hP:Ok P C.ty) (hE:ee C tab E) (hD:∀ g,bT P C.ty tab g (C.call g)) (p:jV) (i:n9) (fn:FuncId) (rest piece:ByteArray) {ae:St->Option R} {κ:Exit->St->Option R} (ha:a.defers=[])
  (hc:fV p.bP p.bS p.bV i.sep rest w) (hL:w.heap[p.L]? = some (.loop (jI fn a i p.D .ready none))) (hs:rk E p a (fun s=>nQ C i ae κ s piece) r w) (m:Nat) :
  YieldAt Fence.wide m P p.L #[.string piece] w fun e W2=>(e = .returned (.bool false)/\HC E p a fn i κ r W2)∨(e = .returned (.bool true)/\Je E p a fn i rest ae r W2):=by
 obtain ⟨bb,s,β,Rt,Ra,hk,ap,b5,be⟩:=hs
 refine ⟨_,_,_,_,run_yield hL (by rfl),roundIn_of_wpIn trivial ?_⟩
 have ar:∀ f,(Fence.wide.inRound p.L).fn f:=fun _=>trivial
 have ep:({ tmps:=((jI fn a i p.D .ready none).params.zip #[Value.string piece]).foldl (fun tmps x=>tmps.setIfInBounds x.1 x.2) (jI fn a i p.D .ready none).tmps,defers:=[] }:Act)=a.put (some i.p) (.string piece):=by
  cases a;cases ha;simp [jI,Act.put]
 have h0:Rel E (s.put (some i.p) (.str piece)) (a.put (some i.p) (.string piece)) w β Rt Ra:=ap.put (some i.p) (v := .string piece) rfl
 have bk:Kp i.ds a (a.put (some i.p) (.string piece)):=(Kp.refl i.ds a).put (fun j e=>by cases e;simp [n9.ds]) _
 have ax:(a.put (some i.p) (.string piece)).defers=[]:=by rw [eo];exact ha
 have hx:({ a.put (some i.p) (.string piece) with defers:=[] }:Act)=a.put (some i.p) (.string piece):=by rw [<- ax]
 unfold nQ at hk
 have a6:=Cd (F:=Fence.wide.inRound p.L) (n:=m) hP hE hD ar rfl (fun h=>CallsIn.inRound _ (iC h)) (fun h=>kS h) [] (ds:=i.ds) (a0:=a) i.assign (fun j hj=>by simp [n9.ds,hj]) (by rw [hx];exact h0) ax bk hk
 rw [ep]
 refine wpIn_mono a6 fun e a1 w1 hq => ?_
 obtain ⟨s1,bs,bx,b',k1,r1,d1,b0,ca,b1⟩:=hq
 cases e with
 | normal =>
  obtain ⟨b2,k1⟩:=c9 k1
  have e1:({ a1 with defers:=[] }:Act)=a1:=by rw [<- d1]
  rw [e1] at r1
  have u:∀ b∈p.all,w1.heap[b]? = w.heap[b]? /\ Fo E s1 w1 bs bx b:=fun b O=>b1 b (be b O)
  have b3:w1.heap[p.L]? = some (.loop (jI fn a i p.D .ready none)):=(u p.L (by simp [jV.all])).1.trans hL
  refine ⟨_,run_beginRound b3 rfl,?_⟩
  have M:=(u p.L (by simp [jV.all])).2
  have r2:=(r1.shrink b2).world (kD w1 p.L (.loop { jI fn a i p.D .ready none with state := .busy })) fun b O=>by
   subst O
   exact ⟨fun h=>h.elim M.2.1 M.2.2.1,M.2.2.2.1,M.2.2.2.2⟩
  have U:=Cd (F:=Fence.wide.inRound p.L) (n:=m) hP hE hD ar rfl (fun h=>CallsIn.inRound _ (iC h)) (fun h=>kS h) [] (ds:=i.ds) (a0:=a) i.body (fun j hj=>by simp [n9.ds,hj]) (by rw [e1];exact r2) d1 b0 k1
  refine wpIn_mono U fun e a2 V hq => ?_
  obtain ⟨s2,a7,a8,cl,k2,r2,d2,W,cp,b4⟩:=hq
  have z:∀ b∈p.all,V.heap[b]? = (w1.putObj p.L (.loop { jI fn a i p.D .ready none with state := .busy })).heap[b]? /\ Fo E s2 V a7 a8 b:=fun b O=>b4 b ((u b O).2.world (by simp))
  have X:V.heap[p.L]? = some (.loop { jI fn a i p.D .ready none with state := .busy }):=(z p.L (by simp [jV.all])).1.trans (World.putObj_heap_same M.1)
  have Y:V.heap[p.D]? = some (.deferred (some [])):=((z p.D (by simp [jV.all])).1.trans (World.putObj_heap_other p.n8)).trans ((u p.D (by simp [jV.all])).1.trans bb)
  have hold:∀ b∈p.all,b≠p.L->V.heap[b]? = w.heap[b]? := fun b O hn=>((z b O).1.trans (World.putObj_heap_other hn)).trans (u b O).1
  have A:∀ b∈p.all,Fo E s2 V a7 a8 b:=fun b O=>(z b O).2
  have ad:p.L<V.heap.size:=(A p.L (by simp [jV.all])).1
  cases e with
  | normal =>
   obtain ⟨N,k2⟩:=c9 k2
   refine ⟨_,_,run_endRound none X,.inr ⟨rfl,?_,?_,jX ha r2 W N A Y k2 _⟩⟩
   ·exact hc.heap ((World.putObj_heap_other p.n5).trans (hold _ (by simp [jV.all]) p.n5)) ((World.putObj_heap_other p.n6).trans (hold _ (by simp [jV.all]) p.n6)) ((World.putObj_heap_other p.n7).trans (hold _ (by simp [jV.all]) p.n7))
   ·exact World.putObj_heap_same ad
  | ret =>
   obtain ⟨N,k2⟩:=c9 k2
   exact ⟨_,_,run_endRound (some .ret) X,.inl ⟨rfl,.inl ⟨World.putObj_heap_same ad,jX ha r2 W N A Y k2 _⟩⟩⟩
  | exit j =>
   obtain ⟨N,k2⟩:=c9 k2
   exact ⟨_,_,run_endRound (some (.exit j)) X,.inl ⟨rfl,.inr ⟨j,World.putObj_heap_same ad,jX ha r2 W N A Y k2 _⟩⟩⟩
  | goto l=>cases k2
  | panic c=>cases k2
  | outgrown=>cases k2
 | _=>cases k1
end
end
end Go.Proofs.Ab
namespace Go.Proofs.Ab
noncomputable section
open Go Go.RowKit
variable {R:Type}
def BZ (P:Program) (ix l bP bS bV:Nat) (sep:ByteArray) (Good:ByteArray->World->Prop) (Out:World->Prop):Prop:=
 ∀ rest W,Good rest W->rest.size<281474976710656/\fV bP bS bV sep rest W/\Calls P ix #[.string rest,.string sep] W fun e j=>∃ i:Int,e = .returned (.int .i64 i)/\fV bP bS bV sep rest j /\
  ((i<0/\∀ m,YieldAt Fence.wide m P l #[.string rest] j fun e f=>(∃ b,e = .returned (.bool b))/\Out f) ∨
   (0<=i/\i+1<=rest.size/\∀ m,YieldAt Fence.wide m P l #[.string (rest.extract 0 i.toNat)] j fun e f=>(e = .returned (.bool false)/\Out f) ∨
    (e = .returned (.bool true)/\fV bP bS bV sep rest f/\Good (rest.extract (i.toNat+1) rest.size) (f.setCell ⟨bS,0,none⟩ (.string (rest.extract (i.toNat+1) rest.size))))))
def BT (P:Program) (ix it:Nat) (sep:ByteArray):Prop:=
 ∀ (l bP bS bV:Nat) (Good:ByteArray->World->Prop) (Out:World->Prop),BZ P ix l bP bS bV sep Good Out->∀ rest W,Good rest W ->
  CallsIn Fence.wide 5 P it #[.func (.yield l) #[] #[],.pointer (some ⟨bP,0,none⟩),.pointer (some ⟨bS,0,none⟩),.pointer (some ⟨bV,0,none⟩)] W fun e f=>(∃ v,e = .returned v)/\Out f
section
variable {P:Program} {E:Env} {C:Cfg R} {tab:cg} {r:R} {s s':St} {a a':Act} {w w':World} {β β':Nat->Bl} {Rt Ra Rt' Ra':Nat->Prop}
theorem rk.jO {p:jV} {f:St->Option R} (h:rk E p a f r w) (j:kV w w') (m:w'.heap[p.D]? = w.heap[p.D]?):rk E p a f r w':=by
 obtain ⟨u,s,β,Rt,Ra,z,A,M,N⟩:=h
 exact ⟨m.trans u,s,β,Rt,Ra,z,A.jO j,M,fun b O=>(N b O).world j.size⟩
theorem rk.imp {p:jV} {f g:St->Option R} (h:rk E p a f r w) (j:∀ s,f s=some r->g s=some r):rk E p a g r w:=by
 obtain ⟨m,s,β,Rt,Ra,u,z⟩:=h
 exact ⟨m,s,β,Rt,Ra,j _ u,z⟩
def FF (E:Env) (C:Cfg R) (ix:Nat) (i:n9) (κ:Exit->St->Option R) (p:jV) (a:Act) (fn:FuncId) (r:R) (rest:ByteArray) (W:World):Prop:=
 rest.size<281474976710656/\∃ f,Je E p a fn i rest (Ej C ix i κ f rest) r W
def Iz (E:Env) (i:n9) (κ:Exit->St->Option R) (p:jV) (a:Act) (fn:FuncId) (r:R) (W:World):Prop:=
 (W.heap[p.L]? = some (.loop (jI fn a i p.D .ready none))/\rk E p a (κ .normal) r W)∨HC E p a fn i κ r W
theorem At {f:Int->Option R} {res:List SV} (h:Gk f res=some r):∃ n,res=[.int .i64 n]/\f n=some r:=by
 unfold Gk at h
 split at h
 ·exact ⟨_,rfl,h⟩
 ·cases h
theorem Fv (hP:Ok P C.ty) (hE:ee C tab E) (hD:∀ g,bT P C.ty tab g (C.call g)) {ix:Nat} (bk:∀ vs w,(callFunc ix vs).run P w = .ok (.enter ix vs) w) (p:jV) (i:n9) (fn:FuncId) {κ:Exit->St->Option R} (ha:a.defers=[]) :
  BZ P ix p.L p.bP p.bS p.bV i.sep (FF E C ix i κ p a fn r) (Iz E i κ p a fn r):=by
 rintro rest W ⟨bs,f,hc,hL,bx⟩
 refine ⟨bs,hc,?_⟩
 obtain ⟨b0,s,β,Rt,Ra,hk,z,b3,a7⟩:=id bx
 cases f with
 | zero=>cases hk
 | succ f =>
  have hk:Is C ix i κ (Ej C ix i κ f) rest s=some r:=hk
  unfold Is at hk
  have a8:Pre C.ty tab W [.str rest,.str i.sep] (#[Value.string rest,Value.string i.sep]:Array Value).toList Rt Rt []:=
   ⟨⟨[],[],rfl,⟨rfl,rfl,by simp,rfl⟩,[],[],rfl,⟨rfl,rfl,by simp,rfl⟩,rfl⟩,List.nodup_nil,fun b M=>(by cases M),fun _ h=>h,fun b M=>z.rlt b (z.sub b M),fun b ob b4=>by
    obtain ⟨g1,g2,g3⟩:=hE.tab b ob b4
    exact ⟨(z.fr.block b (Array.getElem?_eq_some_iff.1 g1).1 g3).trans g1,z.rt0 b g2⟩⟩
  rcases hD ix _ _ r hk W #[.string rest,.string i.sep] Rt Rt [] a8 with ⟨v,w',U,_⟩|⟨_,N⟩
  ·rw [bk] at U;cases U
  ·refine N.mono fun e W1 hq => ?_
   obtain ⟨v,rfl,res,Rt',v0,back,b1,b2,A,j⟩:=hq
   obtain ⟨n,V,A⟩:=At A
   rw [j.res] at V
   cases V
   have hv:v = .int .i64 n:=j.r.2.2.2
   have hg:kV W W1:=⟨j.fr.os,j.fr.tape,j.fr.output,j.fr.size,fun b M _=>j.fr.block b M (by simp)⟩
   have u:∀ b∈p.all,W1.heap[b]? = W.heap[b]? := fun b M=>hg.block b (a7 b M).1 (fun h=>h)
   have ad:fV p.bP p.bS p.bV i.sep rest W1:=hc.heap (u _ (by simp [jV.all])) (u _ (by simp [jV.all])) (u _ (by simp [jV.all]))
   have bb:W1.heap[p.L]? = some (.loop (jI fn a i p.D .ready none)):=(u _ (by simp [jV.all])).trans hL
   have be:∀ {f:St->Option R},f s=some r->rk E p a f r W1:=fun hf=>rk.jO ⟨b0,s,β,Rt,Ra,hf,z,b3,a7⟩ hg (u _ (by simp [jV.all]))
   refine ⟨n,by rw [hv],ad,?_⟩
   by_cases hn:n<0
   ·rw [decide_eq_true hn,cond_true] at A
    refine .inl ⟨hn,fun m => ?_⟩
    obtain ⟨f1,t1,ae,ap,y1,y2⟩:=oB hP hE hD p i fn rest rest ha ad bb (be (f:=fun s1=>nQ C i (fun s2=>bo (Ie s.objs s2.objs) (κ .normal s2)) κ s1 rest) A) m
    refine ⟨f1,t1,ae,ap,y1,y2.mono fun e W2 hq => ?_⟩
    rcases hq with ⟨rfl,ho⟩|⟨rfl,ar,ax,a1⟩
    ·exact ⟨⟨_,rfl⟩,.inr ho⟩
    ·exact ⟨⟨_,rfl⟩,.inl ⟨ax,a1.imp fun _ h=>(c9 h).2⟩⟩
   ·rw [decide_eq_false hn,cond_false] at A
    obtain ⟨hle,A⟩:=c9 A
    have hle:=of_decide_eq_true hle
    refine .inr ⟨by omega,hle,fun m => ?_⟩
    obtain ⟨f1,t1,ae,ap,y1,y2⟩:=oB hP hE hD p i fn rest (rest.extract 0 n.toNat) ha ad bb (be (f:=fun s1=>nQ C i (fun s2=>bo (Ie s.objs s2.objs) (Ej C ix i κ f (rest.extract (n.toNat+1) rest.size) s2)) κ s1 (rest.extract 0 n.toNat)) A) m
    refine ⟨f1,t1,ae,ap,y1,y2.mono fun e W2 hq => ?_⟩
    rcases hq with ⟨rfl,ho⟩|⟨rfl,ar,ax,a1⟩
    ·exact .inl ⟨rfl,.inr ho⟩
    ·refine .inr ⟨rfl,ar,by rw [ByteArray.size_extract];omega,f,ar.set p.n1 p.n2 _,(Below.heap_setCell _ _ _ _ p.n4).trans ax,?_⟩
     obtain ⟨b5,s2,b',ca,cl,cp,a6,X,Y⟩:=a1.imp fun _ h=>(c9 h).2
     have O:=Y p.bS (by simp [jV.all])
     refine ⟨(Below.heap_setCell _ _ _ _ p.n3).trans b5,s2,b',ca,cl,cp,a6.world (ly W2 p.bS _) fun b M => ?_,X,fun b M=>(Y b M).world (ly W2 p.bS _).size⟩
     subst M
     exact ⟨fun h=>(X _ h).elim O.2.1 O.2.2.1,O.2.2.2.1,O.2.2.2.2⟩
end
end
end Go.Proofs.Ab
namespace Go.Proofs.Ab
noncomputable section
open Go Go.RowKit
variable {R:Type}
section
variable {P:Program} {E:Env} {C:Cfg R} {tab:cg} {r:R} {s s':St} {a a':Act} {w w':World} {β β':Nat->Bl} {Rt Ra Rt' Ra':Nat->Prop}
theorem rk.putObj {p:jV} {f:St->Option R} (h:rk E p a f r w) (o:Go.Obj):rk E p a f r (w.putObj p.L o):=by
 obtain ⟨A,s,β,Rt,Ra,M,N,u,z⟩:=h
 have j:=z p.L (by simp [jV.all])
 refine ⟨(World.putObj_heap_other p.n8).trans A,s,β,Rt,Ra,M,N.world (kD w p.L o) fun b m => ?_,u,fun b m=>(z b m).world (by simp)⟩
 subst m
 exact ⟨fun h=>(u _ h).elim j.2.1 j.2.2.1,j.2.2.2.1,j.2.2.2.2⟩
def Qr (E:Env) (a:Act) (κ:Exit->St->Option R) (r:R):Exit->Act->World->Prop:=fun e a' w'=>∃ p:jV,a'={ a with defers:=[{ target := .collected p.D,args := #[] }] }/\rk E p a (κ e) r w'
theorem DN (hP:Ok P C.ty) (hE:ee C tab E) (hD:∀ g,bT P C.ty tab g (C.call g)) {ix it:Nat} (ad:∀ vs w,(callFunc ix vs).run P w = .ok (.enter ix vs) w) (hit:∀ vs w,(callFunc it vs).run P w = .ok (.enter it vs) w) (i:n9) (M:BT P ix it i.sep) {κ:Exit->St->Option R} (ha:a.defers=[])
  {d bP bS bV:Nat} (hd:a.eval (.tmp d) = .func (.func it) #[] #[.pointer (some ⟨bP,0,none⟩),.pointer (some ⟨bS,0,none⟩),.pointer (some ⟨bV,0,none⟩)]) (n1:bP≠bS) (n2:bV≠bS) {rest:ByteArray} (ae:rest.size<281474976710656) (hc:fV bP bS bV i.sep rest w)
  (m:Rel E s a w β Rt Ra) (ap:∀ b,Ra b->Rt b∨E.Ra0 b) (z:∀ b∈[bS,bP,bV],Fo E s w β Rt b) {f:Nat} (hk:Ej C ix i κ f rest s=some r) :
  (Code.rangeFunc (.tmp d) #[i.p] i.assign i.body).wpIn Fence.wide 6 P (Qr E a κ r) a w:=by
 refine wpIn_rangeFunc fun fn _ => ?_
 have b1:=(z bS (by simp)).1
 have b2:=(z bP (by simp)).1
 have b3:=(z bV (by simp)).1
 let p:jV:=⟨bS,bP,bV,w.heap.size,w.heap.size+1,n1,n2,by omega,by omega,by omega,by omega,by omega,by omega⟩
 let u:World:=(w.alloc (.deferred (some []))).alloc (.loop (jI fn a i w.heap.size .ready none))
 have N:kV w u:=⟨rfl,rfl,rfl,by simp [u];omega,fun b V _=>by
  show ((w.heap.push _).push _)[b]? = _
  rw [Array.getElem?_push,if_neg (by simp;omega),Array.getElem?_push,if_neg (by omega)]⟩
 have ar:u.heap[w.heap.size+1]? = some (.loop (jI fn a i w.heap.size .ready none)):=by
  have:=World.alloc_heap_new (w.alloc (.deferred (some []))) (.loop (jI fn a i w.heap.size .ready none));rwa [World.size_alloc] at this
 have ax:u.heap[w.heap.size]? = some (.deferred (some [])):=(Below.heap_alloc _ _ _ (by simp)).trans (World.alloc_heap_new w _)
 have A:∀ b,w.heap.size<=b->b<u.heap.size->Fo E s u β Rt b:=fun b V O=>⟨O,fun hr=>by have:=m.rlt b (m.sub b hr);omega,fun hr=>by have:=m.rlt b (m.ra0 b hr);omega,.inl (Nat.le_trans m.fr.size V),fun t o ho a1=>by have:=(m.dc t o ho b a1).1;omega⟩
 have W:∀ b∈p.all,Fo E s u β Rt b:=by
  intro b V
  simp only [jV.all,mem_cons,List.mem_nil_iff,or_false] at V
  rcases V with rfl|rfl|rfl|rfl|rfl
  ·exact (z _ (by simp [p])).world N.size
  ·exact (z _ (by simp [p])).world N.size
  ·exact (z _ (by simp [p])).world N.size
  ·exact A _ (Nat.le_refl _) (by simp [u,p];omega)
  ·exact A _ (Nat.le_succ _) (by simp [u,p])
 have a6:rk E p a (Ej C ix i κ f rest) r u:=⟨ax,s,β,Rt,Ra,hk,m.jO N,ap,W⟩
 have U:FF E C ix i κ p a fn r rest u:=⟨ae,f,hc.heap (N.block _ b1 (fun h=>h)) (N.block _ b2 (fun h=>h)) (N.block _ b3 (fun h=>h)),ar,a6⟩
 refine ⟨w.heap.size+1,[{ target := .collected w.heap.size,args := #[] }],u,{ target := .fn (.func it) #[.pointer (some ⟨bP,0,none⟩),.pointer (some ⟨bS,0,none⟩),.pointer (some ⟨bV,0,none⟩)],args := #[.func (.yield (w.heap.size+1)) #[] #[]] },u,it,
  #[.func (.yield (w.heap.size+1)) #[] #[]] ++ #[.pointer (some ⟨bP,0,none⟩),.pointer (some ⟨bS,0,none⟩),.pointer (some ⟨bV,0,none⟩)],u,run_enterLoop_outer _ _ _ _ _,?_,fun _ _=>trivial,?_,fun h=>(by cases h),?_⟩
 ·simp only [resolve,hd]
  simp [go_sem]
 ·simp [invoke,go_sem,hit]
 ·refine (M (w.heap.size+1) bP bS bV _ _ (Fv hP hE hD ad p i fn ha) rest u U).mono ?_
  rintro e W2 ⟨⟨v,rfl⟩,X⟩
  have ea:({ a with defers:=[({ target := .collected w.heap.size,args := #[] }:Deferred)]++a.defers }:Act)={ a with defers:=[{ target := .collected p.D,args := #[] }] }:=by rw [ha];rfl
  rcases X with ⟨O,Y⟩|⟨O,Y⟩|⟨j,O,Y⟩
  ·exact ⟨none,_,run_endLoop O (by simp [jI]),p,ea,Y.putObj _⟩
  ·exact ⟨some .ret,_,run_endLoop O (by simp [jI]),wpIn_ret ⟨p,ea,Y.putObj _⟩⟩
  ·exact ⟨some (.exit j),_,run_endLoop O (by simp [jI]),wpIn_exit ⟨p,ea,Y.putObj _⟩⟩
end
end
end Go.Proofs.Ab
namespace Go.Proofs.Ab
noncomputable section
open Go Go.RowKit
variable {R:Type}
def Bz:Code->Code->Option n9
 | .region _ ⟨[f,j]⟩ false,.block b (.rangeFunc (.tmp d) ⟨[p]⟩ assign body)=>match f.op,f.dst,f.guard,j.op,j.dst,j.guard with
  | .move x0,some d1,none,.call c,some d2,none=>match c.callee,c.args with
   | .value (.func g),⟨[.tmp t,.const (.string sep)]⟩=>bif Nat.beq t d1&&(Nat.beq d2 d && !Nat.beq d1 d2) then some ⟨x0,d1,d2,g,sep,b,p,assign,body⟩ else none
   | _,_=>none
  | _,_,_,_,_,_=>none
 | _,_=>none
theorem Fu {x y:Code} {i:n9} (h:Bz x y=some i):∃ id f j c,x = .region id #[f,j] false/\f.op = .move i.x0/\f.dst=some i.d1/\f.guard=none/\j.op = .call c/\j.dst=some i.d2/\j.guard=none/\c.callee = .value (.func i.g)/\c.args = #[.tmp i.d1,.const (.string i.sep)]/\i.d1≠i.d2/\y = .block i.b (.rangeFunc (.tmp i.d2) #[i.p] i.assign i.body):=by
 unfold Bz at h
 split at h
 ·split at h
  ·split at h
   ·obtain ⟨m,h⟩:=l9 h
    cases h
    simp only [Bool.and_eq_true,Bool.not_eq_true'] at m
    obtain ⟨z,A,u⟩:=m
    obtain rfl:=Nat.eq_of_beq_eq_true z
    obtain rfl:=Nat.eq_of_beq_eq_true A
    exact ⟨_,_,_,_,rfl,by assumption,by assumption,by assumption,by assumption,by assumption,by assumption,by assumption,by assumption,fun e=>(by replace e:_=_:=e;simp only at e;rw [e,Nat.beq_refl] at u;cases u),rfl⟩
   ·cases h
  ·cases h
 ·cases h
structure SpF where
 g:Nat
 ix:Nat
 fuel:Nat
 sep:ByteArray
def Jb (C:Cfg R) (F:SpF) (i:n9) (s:St) (κ:Exit->St->Option R):Option R:=
 match ev s i.x0 with
 | .str S=>bif Nat.beq i.g F.g&&(decide (i.sep=F.sep)&&(decide (i.d1<s.slots.length)&&(decide (i.d2<s.slots.length)&&oP (jT i.ds ((s.put (some i.d1) (.str S)).put (some i.d2) .no)))))
  then bo (decide (S.size<281474976710656)) (Ej C F.ix i (fun e s1=>κ (xx i.b e) s1) F.fuel S (jT i.ds ((s.put (some i.d1) (.str S)).put (some i.d2) .no))) else none
 | _=>none
def GB (κ:Exit->St->Option R):Exit->St->Option R:=fun e s=>bo (oP s) (κ e s)
def gK (C:Cfg R) (F:SpF):Code->St->(Exit->St->Option R)->Option R
 | .seq x z,s,κ=>match (match x with
   | .seq p q=>Bz p q
   | _=>none) with
  | some i=>Jb C F i s (w7 κ fun s1=>cK C z s1 (GB κ))
  | none=>cK C x s (w7 κ fun s1=>gK C F z s1 κ)
 | c,s,κ=>cK C c s κ
def Ig:Code->Option n9
 | .seq x z=>match (match x with
   | .seq p q=>Bz p q
   | _=>none) with
  | some i=>some i
  | none=>Ig z
 | _=>none
def Jt:Code->Option Code
 | .seq x z=>match (match x with
   | .seq p q=>Bz p q
   | _=>none) with
  | some _=>some z
  | none=>Jt z
 | _=>none
section
variable {P:Program} {E:Env} {C:Cfg R} {tab:cg} {r:R} {s s':St} {a a':Act} {w w':World} {β β':Nat->Bl} {Rt Ra Rt' Ra':Nat->Prop}
def zc (P:Program) (g it:Nat):Prop:=∀ (s sep:ByteArray) (w:World),Calls P g #[.string s,.string sep] w fun e w' =>
 e = .returned (.func (.func it) #[] #[.pointer (some ⟨w.heap.size+1,0,none⟩),.pointer (some ⟨w.heap.size,0,none⟩),.pointer (some ⟨w.heap.size+2,0,none⟩)]) /\
 ∃ f j,w'=((w.alloc (.cells #[.string s] f)).alloc (.cells #[.string sep] f)).alloc (.cells #[.int .i64 0] j)
theorem eval_put {d:Nat} (h:d<a.tmps.size) (v:Value):(a.put (some d) v).eval (.tmp d)=v:=by
 show (a.tmps.setIfInBounds d v).getD d undef=v
 simp [Array.getD_eq_getD_getElem?,Array.getElem?_setIfInBounds,h]
theorem uS {g it:Nat} (A:zc P g it) (M:∀ vs w,(callFunc g vs).run P w = .ok (.enter g vs) w) {id:Nat} {j m:Oper} {c:Call} {x0:Operand} {d1 d2:Nat} {sep S:ByteArray} (U:j.op = .move x0) (V:j.dst=some d1) (W:j.guard=none) (X:m.op = .call c) (Y:m.dst=some d2) (h6:m.guard=none)
  (h7:c.callee = .value (.func g)) (h8:c.args = #[.tmp d1,.const (.string sep)]) (hv:a.eval x0 = .string S) (N:d1<a.tmps.size) :
  (Code.region id #[j,m] false).wpIn Fence.wide 6 P (fun e a' w'=>e = .normal/\a'=(a.put (some d1) (.string S)).put (some d2) (.func (.func it) #[] #[.pointer (some ⟨w.heap.size+1,0,none⟩),.pointer (some ⟨w.heap.size,0,none⟩),.pointer (some ⟨w.heap.size+2,0,none⟩)]) /\
   ∃ z O,w'=((w.alloc (.cells #[.string S] z)).alloc (.cells #[.string sep] z)).alloc (.cells #[.int .i64 0] O)) a w:=by
 refine wpIn_region ?_
 show wpOpsIn _ _ _ _ _ [0,1] a w
 have hw:∀ (o:Oper) (f:Nat->Option Bool),o.guard=none->Region.wanted o f=true:=fun o f h=>by unfold Region.wanted;rw [h]
 have g0:(#[j,m]:Array Oper)[0]? = some j:=rfl
 have g1:(#[j,m]:Array Oper)[1]? = some m:=rfl
 simp only [wpOpsIn,g0,g1,hw _ _ W,hw _ _ h6,if_true]
 refine ⟨fun _ _=>trivial,?_⟩
 show j.uponIn _ _ _ _ _ _ ((execOp a.eval j).run P w)
 rw [show (execOp a.eval j).run P w = .ok (.value (a.eval x0)) w by unfold execOp;rw [U];rfl,Oper.uponIn_value,hv,V]
 refine ⟨fun _ _=>trivial,?_⟩
 show m.uponIn _ _ _ _ _ _ ((execOp (a.put (some d1) (.string S)).eval m).run P w)
 rw [qN X h7 rfl,h8,M,Oper.uponIn_enter]
 refine ⟨fun h=>(by cases h),iC ?_⟩
 have u:(#[Operand.tmp d1,.const (.string sep)]:Array Operand).map (a.put (some d1) (.string S)).eval = #[.string S,.string sep]:=by
  have:=eval_put N (.string S)
  rw [show ∀ f:Operand->Value,(#[Operand.tmp d1,.const (.string sep)]:Array Operand).map f = #[f (.tmp d1),f (.const (.string sep))] from fun f=>by simp,this];rfl
 rw [u]
 refine (A S sep w).mono fun e w' hq => ?_
 obtain ⟨rfl,z,O,rfl⟩:=hq
 rw [Y]
 exact ⟨trivial,rfl,z,O,rfl⟩
end
end
end Go.Proofs.Ab
namespace Go.Proofs.Ab
noncomputable section
open Go Go.RowKit
variable {R:Type}
section
variable {P:Program} {E:Env} {C:Cfg R} {tab:cg} {r:R} {s s':St} {a a':Act} {w w':World} {β β':Nat->Bl} {Rt Ra Rt' Ra':Nat->Prop}
structure SpOk (P:Program) (F:SpF) (it:Nat):Prop where
 ge:∀ vs w,(callFunc F.g vs).run P w = .ok (.enter F.g vs) w
 ixe:∀ vs w,(callFunc F.ix vs).run P w = .ok (.enter F.ix vs) w
 ite:∀ vs w,(callFunc it vs).run P w = .ok (.enter it vs) w
 split:zc P F.g it
 iter:BT P F.ix it F.sep
theorem Hj (hP:Ok P C.ty) (hE:ee C tab E) (hD:∀ g,bT P C.ty tab g (C.call g)) {F:SpF} {it:Nat} (O:SpOk P F it) {x y:Code} {i:n9} (hs:Bz x y=some i) (f:Rel E s a w β Rt Ra) {κ:Exit->St->Option R} (A:Jb C F i s κ=some r) :
  (Code.seq x y).wpIn Fence.wide 6 P (fun e a' w'=>∃ (a1:Act) (p:jV),a1.defers=[]/\a'={ a1 with defers:=[{ target := .collected p.D,args := #[] }] }/\rk E p a1 (κ e) r w') a w:=by
 obtain ⟨id,o1,o2,c,rfl,h1,h2,h3,h4,h5,h6,h7,h8,a7,rfl⟩:=Fu hs
 unfold Jb at A
 split at A
 ·rename_i S hS
  obtain ⟨hc,A⟩:=l9 A
  obtain ⟨U,A⟩:=c9 A
  simp only [Bool.and_eq_true,decide_eq_true_eq] at hc U
  obtain ⟨hg,V,ad,ae,ap⟩:=hc
  have hg:=Nat.eq_of_beq_eq_true hg
  have hv:a.eval i.x0 = .string S:=by have:=ck f i.x0;rw [hS] at this;exact this
  rw [hg] at h7
  have ha:a.defers=[]:=f.defers
  refine wpIn_seq (wpIn_mono (uS O.split O.ge h1 h2 h3 h4 h5 h6 h7 h8 hv (by rw [<- f.len];exact ad)) fun e a1 w1 hq => ?_)
  obtain ⟨rfl,rfl,X,ti,rfl⟩:=hq
  generalize m:((w.alloc (.cells #[.string S] X)).alloc (.cells #[.string i.sep] X)).alloc (.cells #[.int .i64 0] ti)=u
  have sz:u.heap.size=w.heap.size+3:=by rw [<- m];simp
  have old:∀ b,b<w.heap.size->u.heap[b]? = w.heap[b]? := fun b z=>by
   rw [<- m]
   show (((w.heap.push _).push _).push _)[b]? = _
   rw [Array.getElem?_push,if_neg (by simp;omega),Array.getElem?_push,if_neg (by simp;omega),Array.getElem?_push,if_neg (by omega)]
  have c0:u.heap[w.heap.size]? = some (.cells #[.string S] X):=by
   rw [<- m];show (((w.heap.push _).push _).push _)[w.heap.size]? = _
   rw [Array.getElem?_push,if_neg (by simp;omega),Array.getElem?_push,if_neg (by simp),Array.getElem?_push,if_pos rfl]
  have c1:u.heap[w.heap.size+1]? = some (.cells #[.string i.sep] X):=by
   rw [<- m];show (((w.heap.push _).push _).push _)[w.heap.size+1]? = _
   rw [Array.getElem?_push,if_neg (by simp),Array.getElem?_push,if_pos (by simp)]
  have c2:u.heap[w.heap.size+2]? = some (.cells #[.int .i64 0] ti):=by
   rw [<- m];show (((w.heap.push _).push _).push _)[w.heap.size+2]? = _
   rw [Array.getElem?_push,if_pos (by simp)]
  have ar:kV w u:=⟨by rw [<- m];rfl,by rw [<- m];rfl,by rw [<- m];rfl,by omega,fun b z _=>old b z⟩
  have r1:=((f.jO ar).put (some i.d1) (x := .str S) (v := .string S) rfl).put (some i.d2) (x := .no) (v := .func (.func it) #[] #[.pointer (some ⟨w.heap.size+1,0,none⟩),.pointer (some ⟨w.heap.size,0,none⟩),.pointer (some ⟨w.heap.size+2,0,none⟩)]) trivial
  have W:=(r1.jT (a:=_) (ds:=i.ds) (Kp.refl _ _) r1.defers).shrink ap
  have fo:∀ b,w.heap.size<=b->b<u.heap.size->Fo E (jT i.ds ((s.put (some i.d1) (.str S)).put (some i.d2) .no)) u β Rt b:=fun b z hl =>
   ⟨hl,fun hr=>by have:=f.rlt b (f.sub b hr);omega,fun hr=>by have:=f.rlt b (f.ra0 b hr);omega,.inl (Nat.le_trans f.fr.size z),fun t o ho ax=>by
    have:=(f.dc t o (by rwa [show (jT i.ds ((s.put (some i.d1) (.str S)).put (some i.d2) .no)).obj t=((s.put (some i.d1) (.str S)).put (some i.d2) .no).obj t from rfl,hG,hG] at ho) b ax).1
    omega⟩
  have a6:((a.put (some i.d1) (.string S)).put (some i.d2) (.func (.func it) #[] #[.pointer (some ⟨w.heap.size+1,0,none⟩),.pointer (some ⟨w.heap.size,0,none⟩),.pointer (some ⟨w.heap.size+2,0,none⟩)])).eval (.tmp i.d2) = .func (.func it) #[] #[.pointer (some ⟨w.heap.size+1,0,none⟩),.pointer (some ⟨w.heap.size,0,none⟩),.pointer (some ⟨w.heap.size+2,0,none⟩)]:=
   eval_put (by show i.d2<(a.tmps.setIfInBounds _ _).size;rw [Array.size_setIfInBounds,<- f.len];exact ae) _
  have M:fV (w.heap.size+1) w.heap.size (w.heap.size+2) i.sep S u:=by
   refine ⟨?_,?_,?_,?_⟩
   ·unfold World.cell?;simp only [c0];rfl
   ·unfold World.cell?;simp only [c1];rfl
   ·unfold World.cell?;simp only [c2];rfl
   ·unfold World.frozen?;simp only [c0];rfl
  refine wpIn_block (wpIn_mono (DN (ix:=F.ix) (it:=it) hP hE hD O.ixe O.ite i (by rw [V];exact O.iter) W.defers a6 (by omega) (by omega) U M W (fun b z=>z) (fun b z => ?_) A) fun e a' w' hq => ?_)
  ·simp only [mem_cons,List.mem_nil_iff,or_false] at z
   rcases z with rfl|rfl|rfl
   ·exact fo _ (by omega) (by omega)
   ·exact fo _ (by omega) (by omega)
   ·exact fo _ (by omega) (by omega)
  ·obtain ⟨p,ea,N⟩:=hq
   cases e with
   | exit j =>
    show if j=i.b then _ else _
    by_cases Y:j=i.b
    ·rw [if_pos Y]
     have:rk E p _ (fun s1=>κ (xx i.b (.exit j)) s1) r w':=N
     rw [show xx i.b (.exit j) = .normal from (by show (if j=i.b then Exit.normal else .exit j)=_;rw [if_pos Y])] at this
     exact ⟨_,p,W.defers,ea,this⟩
    ·rw [if_neg Y]
     have:rk E p _ (fun s1=>κ (xx i.b (.exit j)) s1) r w':=N
     rw [show xx i.b (.exit j) = .exit j from (by show (if j=i.b then Exit.normal else .exit j)=_;rw [if_neg Y])] at this
     exact ⟨_,p,W.defers,ea,this⟩
   | _=>exact ⟨_,p,W.defers,ea,N⟩
 ·cases A
def Qg (E:Env) (κ:Exit->St->Option R) (r:R):Exit->Act->World->Prop:=fun e a' w'=>∃ s',κ e s'=some r/\∃ β Rt Ra,Rel E s' { a' with defers:=[] } w' β Rt Ra /\
 (a'.defers=[]∨∃ D,a'.defers=[{ target := .collected D,args := #[] }]/\w'.heap[D]? = some (.deferred (some []))/\¬ Ra D/\(E.w0.heap.size<=D∨E.W0 D)/\∀ t o,s'.obj t=some o->D ∉ cu (β t) o)
theorem pg {κ:Exit->St->Option R} {ds:List Nat} {a0:Act} {e:Exit} (h:Qx E κ r [] ds a0 e a' w'):Qg E κ r e a' w':=by
 obtain ⟨s',f,⟨β,Rt,Ra,j⟩,m,_⟩:=h
 exact ⟨s',f,β,Rt,Ra,j,.inl m⟩
theorem HJ (X:Ok P C.ty) (Y:ee C tab E) (hD:∀ g,bT P C.ty tab g (C.call g)) {F:SpF} {it:Nat} (hF:SpOk P F it):∀ (c:Code) {s:St} {a:Act} {w:World} {κ:Exit->St->Option R},dj E s a w->gK C F c s κ=some r->c.wpIn Fence.wide 6 P (Qg E κ r) a w:=by
 have plain:∀ (c:Code) {s:St} {a:Act} {w:World} {κ:Exit->St->Option R},dj E s a w->cK C c s κ=some r->c.wpIn Fence.wide 6 P (Qx E κ r [] (kT c) a) a w:=fun c s a w κ h M=>by
  have hd:a.defers=[]:=let ⟨_,_,_,h⟩:=h;h.defers
  have ea:({ a with defers:=[] }:Act)=a:=by rw [<- hd]
  exact py (F:=Fence.wide) X Y hD (fun _=>trivial) rfl (fun h=>iC h) (fun h=>kS h) [] c (fun _ h=>h) (by rw [ea];exact h) hd (Kp.refl _ _) M
 intro c
 induction c with
 | seq x z bx ad =>
  intro s a w κ h M
  unfold gK at M
  split at M
  ·rename_i i hi
   split at hi
   ·rename_i p q
    obtain ⟨β,Rt,Ra,h0⟩:=h
    refine wpIn_seq (wpIn_mono (Hj X Y hD hF hi h0 M) fun e a1 w1 u => ?_)
    obtain ⟨a2,p,ae,rfl,ap⟩:=u
    obtain ⟨N,s1,ar,ax,a6,m,r1,O,U⟩:=ap
    have f:=U p.D (by simp [jV.all])
    have V:({ ({ a2 with defers:=[{ target := .collected p.D,args := #[] }] }:Act) with defers:=[] }:Act)=a2:=by rw [<- ae]
    have other:∀ e,w7 κ (fun s1=>cK C z s1 (GB κ)) e s1=some r->e ≠ .normal->Qg E κ r e { a2 with defers:=[{ target := .collected p.D,args := #[] }] } w1:=by
     intro e m a7
     have a8:κ e s1=some r:=by cases e <;> first|exact absurd rfl a7|exact m|cases m
     exact ⟨s1,a8,ar,ax,a6,by rw [V];exact r1,.inr ⟨p.D,rfl,N,fun h=>(O _ h).elim f.2.1 f.2.2.1,f.2.2.2.1,f.2.2.2.2⟩⟩
    cases e with
    | normal =>
     have hz:=Cd (F:=Fence.wide) (n:=6) (a:={ a2 with defers:=[{ target := .collected p.D,args := #[] }] }) X Y hD (fun _=>trivial) rfl (fun h=>iC h) (fun h=>kS h) [{ target := .collected p.D,args := #[] }] z (fun _ h=>h) (by rw [V];exact r1) rfl (Kp.refl _ _) m
     refine wpIn_mono hz fun e a3 w3 u => ?_
     obtain ⟨s3,bb,be,bP,k3,r3,d3,_,_,bk⟩:=u
     obtain ⟨bs,k3⟩:=c9 k3
     obtain ⟨hh,A⟩:=bk p.D f
     exact ⟨s3,k3,bb,be,_,r3.shrink bs,.inr ⟨p.D,d3,hh.trans N,fun h=>h.elim A.2.1 A.2.2.1,A.2.2.2.1,A.2.2.2.2⟩⟩
    | _=>exact other _ m (by simp)
   ·cases hi
  ·refine wpIn_seq (wpIn_mono (plain x h M) fun e a1 w1 u => ?_)
   cases e with
   | normal =>
    obtain ⟨s1,k1,W,d1,_⟩:=u
    have ea:({ a1 with defers:=[] }:Act)=a1:=by rw [<- d1]
    exact ad (by rw [<- ea];exact W) k1
   | exit j=>obtain ⟨s1,k1,W⟩:=u;exact pg ⟨s1,k1,W⟩
   | ret=>obtain ⟨s1,k1,W⟩:=u;exact pg ⟨s1,k1,W⟩
   | _=>obtain ⟨s1,k1,_⟩:=u;cases k1
 | _ =>
  intro s a w κ h M
  exact wpIn_mono (plain _ h M) fun e a' w' u=>pg u
def Hc (C:Cfg R) (f:Func) (n:Nat) (κ:List SV->Option R):Exit->St->Option R
 | .normal,s=>rD C f.results.toList (List.range n) κ s
 | .ret,s=>rD C f.results.toList (List.range n) κ s
 | _,_=>none
def Fj (C:Cfg R) (F:SpF) (f:Func) (args:List SV) (κ:List SV->Option R):Option R:=
 match f.body with
 | some c=>bo (decide (vars args<=64)) (gK C F c (entry f args) (Hc C f (vars args) κ))
 | none=>none
theorem yK (hP:Ok P C.ty) (hD:∀ g,bT P C.ty tab g (C.call g)) {F:SpF} {it:Nat} (hF:SpOk P F it) {g:Nat} {fn:Func} (hf:P.funcs[g]? = some fn) (hname:(fn.name == "runtime.NumGoroutine")=false) {args:List SV} {κ:List SV->Option R} (hk:Fj C F fn args κ=some r)
  {w:World} {vs:Array Value} {Rt Ra:Nat->Prop} {bs:List Nat} (hpre:Pre C.ty tab w args vs.toList Rt Ra bs) :
  oY P g vs w fun v w'=>∃ res Rt' v0 back b1 b2,κ res=some r/\m9 C.ty w args vs.toList Rt bs res v w' Rt' v0 back b1 b2:=by
 unfold Fj at hk
 cases hb:fn.body with
 | none=>rw [hb] at hk;cases hk
 | some c =>
  rw [hb] at hk;simp only at hk
  obtain ⟨hn,hk⟩:=c9 hk
  simp only [decide_eq_true_eq] at hn
  refine .inr ⟨enters hf hb hname vs w,?_⟩
  let E:Env:=⟨C.ty,w,fun b=>b∈bs,Rt,Ra,fun i=>(eQ args vs.toList).getD i 0⟩
  have hE:ee C tab E:=⟨rfl,fun b ob hob=>⟨(hpre.tab b ob hob).1,(hpre.tab b ob hob).2,fun hin=>(hpre.no b hin).1 (hpre.sub b (hpre.tab b ob hob).2)⟩⟩
  have h0:=sa hpre fn hn
  refine callsIn_wide.1 (callsIn_of_wp_marks (F:=Fence.wide) (n:=6) hf hb trivial (wpIn_mono (HJ hP hE hD hF c h0 hk) fun e a' w' hq => ?_) rfl)
  obtain ⟨s',hret,β,Rt',Ra',hrel,hd⟩:=hq
  have fin:∀ (w2:World) (hrel2:Rel E s' { a' with defers:=[] } w2 β Rt' Ra'),rD C fn.results.toList (List.range (vars args)) κ s'=some r->LeavesInM Fence.wide 6 P fn a'.tmps (fun e w'=>∃ v,e = .returned v/\∃ res Rt' v0 back b1 b2,κ res=some r/\m9 C.ty w args vs.toList Rt bs res v w' Rt' v0 back b1 b2) [] .returning w2:=by
   intro w2 hrel2 hret
   obtain ⟨v,res,v0,back,b1,b2,hrun,hkr,hres,hcr,hcb,hnd,hno⟩:=qJ hP rfl hrel2 (c0:=cc C.ty w Rt Ra) hpre.cat (fun i b hb=>by
    show (eQ args vs.toList).getD i 0=b
    rw [List.getD_eq_getElem?_getD,hb];rfl) hn hret
   exact ⟨v,hrun,v,rfl,res,Rt',v0,back,b1,b2,hkr,hres,hrel2.fr,hcr,hcb,hnd,fun z hz=>⟨fun hr=>(hno z hz).1 (hrel2.sub z hr),(hno z hz).2.1,(hno z hz).2.2⟩,hrel2.rt0,fun z hz=>⟨hrel2.rlt z (hrel2.sub z hz),hrel2.rt z hz⟩⟩
  have go:rD C fn.results.toList (List.range (vars args)) κ s'=some r->LeavesInM Fence.wide 6 P fn a'.tmps (fun e w'=>∃ v,e = .returned v/\∃ res Rt' v0 back b1 b2,κ res=some r/\m9 C.ty w args vs.toList Rt bs res v w' Rt' v0 back b1 b2) a'.defers .returning w':=by
   intro hret
   rcases hd with hd|⟨D,hd,hDf,hDR,hDE,hDo⟩
   ·rw [hd];exact fin w' hrel hret
   ·rw [hd]
    refine ⟨by simp,.inl ⟨_,_,rfl,run_takeDeferred hDf,fin _ (hrel.world (kD w' D _) fun b hb => ?_) hret⟩⟩
    subst hb;exact ⟨hDR,hDE,hDo⟩
  cases e with
  | normal=>exact go hret
  | ret=>exact go hret
  | _=>cases hret
theorem vn (hP:Ok P C.ty) (hD:∀ g,bT P C.ty tab g (C.call g)) {F:SpF} {it:Nat} (hF:SpOk P F it) {g:Nat} {fn:Func} (hf:P.funcs[g]? = some fn) (hname:(fn.name == "runtime.NumGoroutine")=false) {xs:List SV} {κ:List SV->Option R} {X:Option R} (h:Fj C F fn xs κ=X):aa P C.ty tab g xs κ X:=by
 intro r e w vs Rt Ra bs hpre
 exact yK hP hD hF hf hname (h.trans e) hpre
end
end
end Go.Proofs.Ab
