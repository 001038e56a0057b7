/- The abstract machine: a run of a function's code over data without memory, and the proof that whatever this run says is what a call does (conditions: those of each lemma). -/
import Derived.Test.YtneffefnlogkaaaGreatDoorAbA
import Derived.Lib.UnsafeStr
import Derived.Lib.ConvBytes
import Derived.Laws.BytesString
import Derived.Scope
set_option linter.unusedVariables false
set_option linter.unusedSimpArgs false
set_option maxRecDepth 4000
namespace Go.Proofs.Ab
open Go
variable {R:Type}
def CL (c:Cx) (x:SV) (v:Value) (bs:List Nat):Prop :=
 match x with
 | .fr e l st=>∃ E cs,c.T e=some E/\fm c.w false e E.sz v l.length cs/\RC c.T c.w (c.Q st) E l cs/\bs=v.ownBlock.toList
 | x=>bs=[]/\tok x=none/\x ≠ .nos/\SL c x v
def AJ (c:Cx) (b:Nat) (x:SV) (v:Value) (bs:List Nat):Prop :=
 match x with
 | .nos=>bs=[]/\(v = .pointer none∨v = .pointer (some ⟨b,0,none⟩))
 | x=>CL c x v bs
def jB (S:SV->Value->List Nat->Prop):List SV->List Value->List Nat->Prop
 | [],[],bs=>bs=[]
 | x::xs,v::vs,bs=>∃ f j,bs=f++j/\S x v f/\jB S xs vs j
 | _,_,_=>False
def xU (c:Cx) (x:SV) (v:Value) (bs:List Nat):Prop :=
 match x with
 | .agg l=>∃ cs:Array Value,v = .agg cs/\jB (CL c) l cs.toList bs
 | x=>CL c x v bs
def CV (c:Cx) (x:SV) (v:Value) (bs:List Nat):Prop :=
 match x with
 | .vp ty j=>∃ (b:Nat) (cs:Array Value) (_:Unit) (f:List Nat),v = .pointer (some ⟨b,0,none⟩)/\c.w.heap[b]? = some (.cells cs ty (0,0))/\jB (AJ c b) j cs.toList f/\bs=b::f
 | x=>xU c x v bs
def CR (c:Cx) (x:SV) (v:Value) (bs:List Nat):Prop :=
 match x with
 | .tup l=>∃ f:Array Value,v = .tuple f/\jB (xU c) l f.toList bs
 | x=>xU c x v bs
def CB (c:Cx):List SV->List Value->List SV->List Nat->Prop
 | [],[],u,bs=>u=[]/\bs=[]
 | x::r,v::vs,u,bs =>
  match x with
  | .vp _ _=>match u with
   | .vp ty m::z=>∃ (b:Nat) (cs:Array Value) (_:Unit) (f j:List Nat),v = .pointer (some ⟨b,0,none⟩)/\c.w.heap[b]? = some (.cells cs ty (0,0))/\jB (AJ c b) m cs.toList f/\bs=b::f++j/\CB c r vs z j
   | _=>False
  | _=>CB c r vs u bs
 | _,_,_,_=>False
def cc (T:Nat->Option TI) (w:World) (Rt Ra:Nat->Prop):Cx:=⟨T,w,Rt,Ra,fun _=>⟨undef,0,0,false⟩,fun _=>False⟩
abbrev bZ:=Nat->Option Go.Obj
structure Pre (T:Nat->Option TI) (tab:bZ) (w:World) (args:List SV) (vs:List Value) (Rt Ra:Nat->Prop) (bs:List Nat):Prop where
 cat:jB (CV (cc T w Rt Ra)) args vs bs
 nd:bs.Nodup
 no:∀ b∈bs,¬ Ra b/\b<w.heap.size
 sub:∀ b,Rt b->Ra b
 rlt:∀ b,Ra b->b<w.heap.size
 tab:∀ b ob,tab b=some ob->w.heap[b]? = some ob/\Rt b
structure mK (T:Nat->Option TI) (w:World) (args:List SV) (vs:List Value) (Rt:Nat->Prop) (bs:List Nat) (res:List SV) (v:Value) (w':World) (Rt':Nat->Prop) (v0:SV) (back:List SV) (b1 b2:List Nat):Prop where
 res:res=v0::back
 fr:Fr (fun b=>b∈bs) w w'
 r:CR (cc T w' Rt' Rt') v0 v b1
 b:CB (cc T w' Rt' Rt') args vs back b2
 nd:(b1++b2).Nodup
 no:∀ b∈b1++b2,¬ Rt' b/\b<w'.heap.size/\(w.heap.size<=b∨b∈bs)
 le:∀ b,Rt b->Rt' b
 lt:∀ b,Rt' b->b<w'.heap.size/\(Rt b∨w.heap.size<=b∨b∈bs)
def oq (P:Program) (g:FuncId) (vs:Array Value) (w:World) (Q:Value->World->Prop):Prop :=
 (∃ v w',(callFunc g vs).run P w = .ok (.value v) w'/\Q v w')∨((callFunc g vs).run P w = .ok (.enter g vs) w/\Calls P g vs w fun e w'=>∃ v,e = .returned v/\Q v w')
def bM (P:Program) (T:Nat->Option TI) (tab:bZ) (g:FuncId) (sp:List SV->(List SV->Option R)->Option R):Prop :=
 ∀ (args:List SV) (κ : List SV->Option R) (r:R),sp args κ = some r->∀ (w:World) (vs:Array Value) (Rt Ra:Nat->Prop) (bs:List Nat),Pre T tab w args vs.toList Rt Ra bs ->
  oq P g vs w fun v w'=>∃ res Rt' v0 back f j,κ res=some r/\mK T w args vs.toList Rt bs res v w' Rt' v0 back f j
section
variable {E:Env} {s:St} {a:Act} {w w':World} {β : Nat->Bl} {Rt Ra:Nat->Prop}
theorem jB.len {S:SV->Value->List Nat->Prop}:∀ {l:List SV} {vs:List Value} {bs:List Nat},jB S l vs bs->l.length=vs.length
 | [],[],_,_=>rfl
 | _::_,_::_,_,⟨_,_,_,_,h⟩=>by simp [jB.len h]
 | [],_::_,_,h=>h.elim
 | _::_,[],_,h=>h.elim
theorem Rel.more (h:Rel E s a w β Rt Ra) {Rt':Nat->Prop} (hle:∀ b,Rt b->Rt' b) (A:∀ b,Rt' b->¬ Rt b->b<w.heap.size/\(E.w0.heap.size<=b∨E.W0 b)/\∀ t o,s.obj t=some o->b ∉ ci (β t) o) :
  Rel E s a w β Rt' (fun b=>Ra b∨Rt' b)/\(bG E s w β Rt Ra).Le (bG E s w β Rt' (fun b=>Ra b∨Rt' b)):=by
 have le:(bG E s w β Rt Ra).Le (bG E s w β Rt' (fun b=>Ra b∨Rt' b)):=by
  refine ⟨rfl,fun st b z => ?_,fun _ _ _=>rfl,fun _ h=>h,fun _ _=>rfl⟩
  unfold Cx.Q at z ⊢;split at z
  ·rename_i e;rw [if_pos e];exact hle b z
  ·rename_i e;rw [if_neg e];exact .inl z
 refine ⟨⟨⟨fun t o m=>(h.objs t o m).le le (fun _ _=>rfl),h.lt,fun t o m b f=>⟨(h.c9 t o m b f).1,?_,(h.c9 t o m b f).2.2⟩,h.apart,fun b f => .inr f,?_,h.fr,fun b f=>hle b (h.rt0 b f),fun b f => .inl (h.ra0 b f),fun b f => ?_,h.nx,h.pin⟩,h.len,h.defers,fD le h.slots⟩,le⟩
 ·rintro (u|u)
  ·exact (h.c9 t o m b f).2.1 u
  ·by_cases j:Rt b
   ·exact (h.c9 t o m b f).2.1 (h.sub b j)
   ·exact (A b u j).2.2 t o m f
 ·rintro b (u|u)
  ·exact h.rlt b u
  ·by_cases j:Rt b
   ·exact h.rlt b (h.sub b j)
   ·exact (A b u j).1
 ·by_cases j:Rt b
  ·exact h.rt b j
  ·exact .inr (A b f j).2.1
def qv (E:Env) (s:St) (w:World) (β : Nat->Bl) (Ra:Nat->Prop) (b:Nat):Prop:=b<w.heap.size/\¬ Ra b/\(E.w0.heap.size<=b∨E.W0 b)/\∀ t o,s.obj t=some o->b ∉ ci (β t) o
theorem mN {c c':Cx} (f:c'.T=c.T) (hw:c'.w=c.w) (z:∀ st b,c.Q st b->c'.Q st b) {x:SV} {v:Value} (O:tok x=none) (h:SL c x v):SL c' x v:=by
 cases x <;> simp only [SL] at h ⊢ <;> first|exact h|(cases O;done)|skip
 case ro e l st=>rw [f,hw];exact h.mono (z st) (fun _ _=>rfl)
 case cls g Y =>
  cases Y with
  | nil=>exact ⟨fun t O=>(by cases O),h.2⟩
  | cons _ _=>cases O
 case ar e n l =>
  obtain ⟨U,D,cs,A,M,N,h4,h5⟩:=h
  exact ⟨U,D,cs,by rw [f];exact A,M,N,h4,by rw [f];exact h5.mono (fun _ m=>m) (fun _ m=>m.elim)⟩
 case ra e n l st =>
  obtain ⟨U,D,p,A,M,N⟩:=h
  refine ⟨U,D,p,by rw [f];exact A,M,fun i j k hi V => ?_⟩
  obtain ⟨u,m,W,X⟩:=N i j k hi V
  exact ⟨u,z st _ m,by rw [hw];exact W,by rw [f,hw];exact X.mono (z st) (fun _ _=>rfl)⟩
 case rl e l st i off =>
  obtain ⟨D,p,A,M,N⟩:=h
  refine ⟨D,p,by rw [f];exact A,M,fun j k V => ?_⟩
  obtain ⟨u,m,W,X⟩:=N j k V
  exact ⟨u,z st _ m,by rw [hw];exact W,by rw [f,hw];exact X.mono (z st) (fun _ _=>rfl)⟩
theorem Ak {Rt' Ra':Nat->Prop} (h:Rel E s a w β Rt Ra) (X:∀ b,Rt' b->Rt b) (Y:∀ b,Ra' b->Ra b) {b:Nat} {x:SV} {v:Value} {bs:List Nat} (m:AJ (cc E.T w Rt' Ra') b x v bs) (M:∀ z∈bs,qv E s w β Ra z) :
  (∃ e l st,x = .fr e l st/\∃ β',Rel E (s.new (.row e l st)) a w β' Rt Ra/\(bG E s w β Rt Ra).Le (bG E (s.new (.row e l st)) w β' Rt Ra)/\lz (bG E (s.new (.row e l st)) w β' Rt Ra) b (.own s.next) v/\∀ t o,(s.new (.row e l st)).obj t=some o->(s.obj t=some o /\ β' t = β t)∨∀ z∈ci (β' t) o,z∈bs) ∨
  ((∀ e l st,x ≠ .fr e l st)/\lz (bG E s w β Rt Ra) b x v):=by
 have W:∀ st z,(cc E.T w Rt' Ra').Q st z->(bG E s w β Rt Ra).Q st z:=by
  intro st z A
  unfold Cx.Q at A ⊢;split at A
  ·rename_i e;rw [if_pos e];exact X z A
  ·rename_i e;rw [if_neg e];exact Y z A
 by_cases u:∃ e l st,x = .fr e l st
 ·obtain ⟨e,l,st,rfl⟩:=u
  obtain ⟨D,cs,hT,j,U,rfl⟩:=m
  have N:∀ z∈ci ⟨v,0,D.sz,false⟩ (.row e l st),z∈v.ownBlock.toList:=fun z f=>f
  obtain ⟨h2,le⟩:=h.toRelO.add (.row e l st) ⟨v,0,D.sz,false⟩ (fun z f=>⟨(M z (N z f)).1,(M z (N z f)).2.1,(M z (N z f)).2.2.1⟩) (fun z f t o' V=>(M z (N z f)).2.2.2 t o' V)
   (fun le=>⟨D,cs,hT,rfl,j,U.mono (fun z A=>le.Q st z (W st z A)) (fun _ _=>rfl)⟩)
  refine .inl ⟨e,l,st,rfl,_,⟨h2,h.len,h.defers,fD le h.slots⟩,le,⟨⟨_,by rw [fF,if_pos rfl]⟩,?_,nQ j,?_⟩,fun t o O => ?_⟩
  ·show v=(fc β s.next ⟨v,0,D.sz,false⟩ s.next).v
   unfold fc;rw [if_pos rfl]
  ·show (fc β s.next ⟨v,0,D.sz,false⟩ s.next).arr=false
   unfold fc;rw [if_pos rfl]
  ·rw [fF] at O
   split at O
   ·rename_i e;subst e;cases O
    refine .inr fun z f => ?_
    unfold fc at f;rw [if_pos rfl] at f;exact f
   ·rename_i e;exact .inl ⟨O,if_neg e⟩
 ·refine .inr ⟨fun e l st e'=>u ⟨e,l,st,e'⟩,?_⟩
  unfold AJ at m
  split at m
  ·exact m.2
  ·rename_i hn
   unfold CL at m
   split at m
   ·exact absurd ⟨_,_,_,rfl⟩ u
   ·obtain ⟨_,ht,_,hs⟩:=m
    have:=mN (c:=cc E.T w Rt' Ra') (c':=bG E s w β Rt Ra) rfl rfl W ht hs
    unfold lz;split
    ·exact absurd rfl hn
    ·exact this
theorem gv (s:St) (e:Nat) (l:List AV) (st:Bool) (r:List SV):cY s (.fr e l st::r)=(.own s.next::(cY (s.new (.row e l st)) r).1,(cY (s.new (.row e l st)) r).2):=rfl
theorem hZ (s:St) (x:SV) (r:List SV) (f:∀ e l st,x ≠ .fr e l st):cY s (x::r)=(x::(cY s r).1,(cY s r).2):=by
 cases x <;> first|rfl|exact absurd rfl (f _ _ _)
theorem fN {Rt' Ra':Nat->Prop} (hR:∀ b,Rt' b->Rt b) (hA:∀ b,Ra' b->Ra b) {b:Nat}:∀ (A:List SV) (cs:List Value) (bs:List Nat) {s:St} {β : Nat->Bl},Rel E s a w β Rt Ra->jB (AJ (cc E.T w Rt' Ra') b) A cs bs->bs.Nodup->(∀ z∈bs,qv E s w β Ra z) ->
  ∃ β',Rel E (cY s A).2 a w β' Rt Ra/\(bG E s w β Rt Ra).Le (bG E (cY s A).2 w β' Rt Ra)/\PW (lz (bG E (cY s A).2 w β' Rt Ra) b) (cY s A).1 cs/\∀ t o,(cY s A).2.obj t=some o->(s.obj t=some o /\ β' t = β t)∨∀ z∈ci (β' t) o,z∈bs
 | [],[],bs,s,β,h,hc,_,_=>⟨β,h,⟨rfl,fun _ _ h=>h,fun _ _ _=>rfl,fun _ h=>h,fun _ _=>rfl⟩,trivial,fun t o U => .inl ⟨U,rfl⟩⟩
 | x::A,v::cs,bs,s,β,h,hc,M,hf=>by
  obtain ⟨b1,b2,rfl,hx,hr⟩:=hc
  rw [List.nodup_append] at M
  rcases Ak h hR hA hx (fun z j=>hf z (List.mem_append_left _ j)) with ⟨e,l,st,rfl,ax,h1,ae,V,O⟩|⟨ap,V⟩
  ·rw [gv]
   obtain ⟨W,h2,m,X,u⟩:=fN hR hA A cs b2 h1 hr M.2.1 (fun z j=>by
    obtain ⟨f1,f2,f3,f4⟩:=hf z (List.mem_append_right _ j)
    refine ⟨f1,f2,f3,fun t o U hb => ?_⟩
    rcases O t o U with ⟨Y,N⟩|f
    ·rw [N] at hb;exact f4 t o Y hb
    ·exact M.2.2 z (f z hb) z j rfl)
   refine ⟨W,h2,ae.trans m,⟨V.le m,X⟩,fun t o U => ?_⟩
   rcases u t o U with ⟨Y,N⟩|f
   ·rcases O t o Y with ⟨ar,ad⟩|f
    ·exact .inl ⟨ar,N.trans ad⟩
    ·exact .inr fun z j=>List.mem_append_left _ (f z (by rw [<- N];exact j))
   ·exact .inr fun z j=>List.mem_append_right _ (f z j)
  ·rw [hZ s x A ap]
   obtain ⟨W,h2,m,X,u⟩:=fN hR hA A cs b2 h hr M.2.1 (fun z j=>hf z (List.mem_append_right _ j))
   exact ⟨W,h2,m,⟨V.le m,X⟩,fun t o U=>(u t o U).imp id fun f z j=>List.mem_append_right _ (f z j)⟩
 | [],_::_,_,_,_,_,h,_,_=>h.elim
 | _::_,[],_,_,_,_,h,_,_=>h.elim
end
end Go.Proofs.Ab
namespace Go.Proofs.Ab
open Go
variable {R:Type}
theorem vU {c:Cx} {Q':Nat->Prop} {e:Nat} {D:TI} {l:List AV} {cs:List Value} {st:Bool} {v:Value} (U:c.T e=some D) {arr:Bool} (z:fm c.w arr e D.sz v l.length cs) (A:RC c.T c.w (c.Q st) D l cs)
  (V:∀ b∈v.ownBlock.toList,Q' b) (W:∀ b,c.Q st b->Q' b):eE c.T c.w Q' (.sl e) v (.sl l):=by
 obtain ⟨hlen,u⟩:=z
 rcases u with ⟨u,X⟩|⟨g,cap,M,q,Y,u,_,hg,_,N,O,ad,f⟩
 ·rw [u];exact .slnil e _ (List.eq_nil_of_length_eq_zero X)
 ·rw [u]
  refine .sl e D ⟨g,0,none⟩ _ cap (.sl l) cs U rfl N O hlen (fun j v m=>⟨V g (by simp [u,Value.ownBlock]),?_⟩) (fun i j k hi hk v m=>(A i j k hi hk v m).mono W (fun _ _=>rfl))
  rw [add_plain]
  show c.w.cell? ⟨g,0+j,none⟩=some v
  rw [Nat.zero_add,cell_of_row c.w g j M q Y hg]
  rw [<- f] at m
  rw [List.getElem?_take] at m
  split at m
  ·simpa using m
  ·cases m
theorem qK {c:Cx} {x:SV} {v:Value} (f:tok x=none) (j:x ≠ .nos) (m:∀ e l st,x ≠ .fr e l st) (h:SL c x v):CL c x v []:=by
 unfold CL;split
 ·exact absurd rfl (m _ _ _)
 ·exact ⟨rfl,f,j,h⟩
theorem EK {c:Cx} {b:Nat} {x:SV} {v:Value} {bs:List Nat} (f:x ≠ .nos) (h:CL c x v bs):AJ c b x v bs:=by
 unfold AJ;split
 ·exact absurd rfl f
 ·exact h
theorem oB {c:Cx} {x:SV} {v:Value} {bs:List Nat} (h:CL c x v bs) (b:Nat):AJ c b x v bs:=by
 refine EK (fun e => ?_) h
 subst e;exact h.2.2.1 rfl
theorem sR {c:Cx} {b:Nat} {x:SV} {v:Value} (h:lz c b x v):SL c x v:=by
 unfold lz at h;split at h
 ·trivial
 ·exact h
theorem mO {b:Bool} {x y:SV} (h:(bif b then some x else none)=some y):b=true/\x=y:=by
 cases b
 ·cases h
 ·exact ⟨rfl,Option.some.inj h⟩
section
variable {E:Env} {s:St} {a:Act} {w w':World} {β : Nat->Bl} {Rt Ra:Nat->Prop}
theorem nU {Ra':Nat->Prop} (j:∀ b,Ra b->Ra' b) {x:SV} {v:Value} (m:known x=true) (u:tok x=none) (h:SL (bG E s w β Rt Ra) x v):CL (cc E.T w Rt Ra') x v []:=by
 refine qK u (fun e=>by subst e;cases m) (fun e l st z=>by subst z;cases m) (mN (c:=bG E s w β Rt Ra) (c':=cc E.T w Rt Ra') rfl rfl (fun st b f => ?_) u h)
 unfold Cx.Q at f ⊢;split at f
 ·rename_i e;rw [if_pos e];exact f
 ·rename_i e;rw [if_neg e];exact j b f
theorem HQ {Ra':Nat->Prop} (f:∀ b,Rt b->Ra b) (j:∀ b,Ra b->Ra' b) (st:Bool) (b:Nat) (h:(bG E s w β Rt Ra).Q st b):(cc E.T w Rt Ra').Q false b:=by
 unfold Cx.Q at h ⊢;rw [if_neg (by decide)]
 split at h
 ·exact j b (f b h)
 ·exact j b h
theorem lF {Ra':Nat->Prop} (h:Rel E s a w β Rt Ra) (u:∀ b,Ra b->Ra' b) {x y:SV} {v:Value} (hS:∀ t∈jg [x],∀ o,s.obj t=some o->∀ b∈ci (β t) o,Ra' b) (hx:SL (bG E s w β Rt Ra) x v) (m:fY s x=some y):CL (cc E.T w Rt Ra') y v []:=by
 unfold fY at m
 split at m
 ·rename_i e n l st
  cases m
  refine qK rfl (by simp) (by simp) (mN (c:=bG E s w β Rt Ra) (c':=cc E.T w Rt Ra') rfl rfl (fun st b hq => ?_) rfl hx)
  unfold Cx.Q at hq ⊢;split at hq
  ·rename_i e;rw [if_pos e];exact hq
  ·rename_i e;rw [if_neg e];exact u b hq
 ·rename_i t
  split at m
  ·rename_i e l st V
   cases m
   obtain ⟨D,cs,W,X,f,M⟩:=h.objs t _ V
   obtain ⟨_,N,_⟩:=hx
   refine qK rfl (by simp) (by simp) ?_
   show eE _ _ _ _ _ _
   rw [N]
   exact vU (c:=bG E s w β Rt Ra) W f M (fun b hb=>by
    unfold Cx.Q;rw [if_neg (by decide)];exact hS t (by simp [jg]) _ V b hb) (HQ h.sub u st)
  ·cases m
 ·rename_i t O U
  split at m
  ·rename_i e l st V
   cases m
   obtain ⟨D,cs,W,X,f,M⟩:=h.objs t _ V
   obtain ⟨hd,g0,g1,N⟩:=hx
   refine qK rfl (by simp) (by simp) ?_
   show eE _ _ _ _ _ _
   have z:=vU (c:=bG E s w β Rt Ra) (Q':=(cc E.T w Rt Ra').Q false) W f M (fun b hb=>by
    unfold Cx.Q;rw [if_neg (by decide)];exact hS t (by simp [jg]) _ V b hb) (HQ h.sub u st)
   rcases N with ⟨Y,hh,N⟩|⟨g,n,cap,ad,Y,g2,N,ax⟩
   ·rw [N]
    refine .slnil e _ (List.eq_nil_of_length_eq_zero ?_)
    simp only [AV.l,jP,List.length_drop,List.length_take];omega
   ·have ae:(β t).v = .slice (some ⟨g,0,none⟩) n cap:=Y
    rw [ae] at f z
    have hn:n=l.length/\n<=cap/\cap<=maxLen:=by
     rcases fG f with ⟨h',_⟩|⟨_,_,h',h1,h2⟩
     ·cases h'
     ·cases h';exact ⟨rfl,h1,h2⟩
    obtain ⟨hn,bx,bP⟩:=hn
    subst hn
    have hlen:=tD l O U g0 g1 (by omega)
    rw [N]
    by_cases a1:O<U
    ·have ap:ad=⟨g,O.toNat*(β t).sz,none⟩:=ax a1
     have A:=eE.cut g0 g1 (by omega) W z
     rw [if_neg (by omega),add_plain,Nat.zero_add] at A
     have ar:(β t).sz=D.sz:=X
     rw [ap,ar,show (U-O).toNat=U.toNat-O.toNat by omega]
     exact A
    ·have h0:(jP l O U).length=0:=by rw [hlen];omega
     refine .sl e D ad _ _ _ [] W (by simp only [AV.l];rw [h0];omega) (by omega) (by omega) (by rw [show (U-O).toNat=0 by omega];simp) (fun j v hj=>by simp at hj) (fun i j k bS=>by omega)
  ·cases m
 ·cases m
 ·cases m
 ·cases m
 ·cases m
 ·cases m
 ·cases m
 ·rename_i a6 a7 a8 bb _ be bk bs
  obtain ⟨hk,rfl⟩:=mO m
  refine nU u hk ?_ hx
  cases x <;> first|rfl|exact absurd rfl (be _ _)|exact absurd rfl (bk _ _)|exact absurd rfl (bs _)|exact absurd rfl (a6 _)|exact absurd rfl (a7 _ _ _)|exact absurd rfl (a8 _ _)|exact absurd rfl (bb _ _ _)|cases hk
theorem qa (x:SV) (r:List SV) (t:Nat):t∈jg (x::r) ↔ t∈jg [x]∨t∈jg r:=by
 cases x <;> simp [jg]
theorem lH {Ra':Nat->Prop} (h:Rel E s a w β Rt Ra) (m:∀ b,Ra b->Ra' b):∀ (l:List SV) (vs:List Value) (u:List SV),(∀ t∈jg l,∀ o,s.obj t=some o->∀ b∈ci (β t) o,Ra' b)->PW (SL (bG E s w β Rt Ra)) l vs->gE s l=some u->jB (CL (cc E.T w Rt Ra')) u vs []
 | [],[],u,_,_,f=>by cases f;rfl
 | x::l,v::vs,u,A,j,f=>by
  unfold gE at f
  split at f
  ·rename_i y M N O
   cases f
   exact ⟨[],[],rfl,lF h m (fun t z=>A t ((qa x l t).2 (.inl z))) j.1 N,lH h m l vs M (fun t z=>A t ((qa x l t).2 (.inr z))) j.2 O⟩
  ·cases f
 | [],_::_,_,_,j,_=>j.elim
 | _::_,[],_,_,j,_=>j.elim
def tb (s:St) (β : Nat->Bl) (t:Nat):List Nat :=
 match s.obj t with
 | some o=>ci (β t) o
 | none=>[]
theorem nD {Ra':Nat->Prop} (h:Rel E s a w β Rt Ra) (m:∀ b,Ra b->Ra' b) {b:Nat} {x y:SV} {v:Value} (N:lz (bG E s w β Rt Ra) b x v) (f:lU s x=some y):AJ (cc E.T w Rt Ra') b y v ((owns [x]).flatMap (tb s β)):=by
 unfold lU at f
 split at f
 ·rename_i t
  split at f
  ·rename_i e l st A
   cases f
   obtain ⟨D,cs,hT,ap,j,O⟩:=h.objs t _ A
   obtain ⟨_,hv,_,u⟩:_/\v=(β t).v/\_/\(β t).arr=false:=N
   have j:fm w (β t).arr e D.sz (β t).v l.length cs:=j
   rw [u] at j
   refine ⟨D,cs,hT,hv▸j,?_,?_⟩
   ·refine O.mono (fun b M => ?_) (fun _ _=>rfl)
    unfold Cx.Q at M ⊢;split at M
    ·rename_i e;rw [if_pos e];exact M
    ·rename_i e;rw [if_neg e];exact m b M
   ·simp only [owns,List.flatMap_cons,List.flatMap_nil,List.append_nil,tb,A,ci,hv]
  ·cases f
 ·cases f;exact ⟨rfl,rfl,by simp,trivial⟩
 ·cases f;exact ⟨rfl,N⟩
 ·cases f
 ·cases f
 ·cases f
 ·cases f
 ·cases f
 ·cases f
 ·cases f
 ·rename_i z ar ae U V W ax X Y ad
  obtain ⟨hk,rfl⟩:=mO f
  have hs:SL (bG E s w β Rt Ra) x v:=sR N
  have A:owns [x]=[]:=by cases x <;> first|rfl|exact absurd rfl (z _)
  rw [A]
  refine oB (nU m hk ?_ hs) b
  cases x <;> first|rfl|exact absurd rfl (X _ _)|exact absurd rfl (Y _ _)|exact absurd rfl (ad _)|exact absurd rfl (z _)|exact absurd rfl (U _ _ _)|exact absurd rfl (V _ _)|exact absurd rfl (W _ _ _)|cases hk
theorem je (x:SV) (r:List SV):owns (x::r)=owns [x]++owns r:=by
 cases x <;> simp [owns]
theorem nE {Ra':Nat->Prop} (h:Rel E s a w β Rt Ra) (m:∀ b,Ra b->Ra' b) {b:Nat}:∀ (l:List SV) (vs:List Value) (u:List SV),PW (lz (bG E s w β Rt Ra) b) l vs->iV s l=some u->jB (AJ (cc E.T w Rt Ra') b) u vs ((owns l).flatMap (tb s β))
 | [],[],u,_,f=>by cases f;rfl
 | x::l,v::vs,u,j,f=>by
  unfold iV at f
  split at f
  ·rename_i y z A M
   cases f
   rw [je,List.flatMap_append]
   exact ⟨_,_,rfl,nD h m j.1 A,nE h m l vs z j.2 M⟩
  ·cases f
 | [],_::_,_,j,_=>j.elim
 | _::_,[],_,j,_=>j.elim
end
end Go.Proofs.Ab
namespace Go.Proofs.Ab
open Go
variable {R:Type}
section
variable {E:Env} {s:St} {a:Act} {w w':World} {β : Nat->Bl} {Rt Ra:Nat->Prop}
theorem lu {x:SV} (f:∀ l,x ≠ .agg l):leaves x=[x]:=by
 cases x <;> first|rfl|exact absurd rfl (f _)
theorem wG (l:List SV):fY s (.tup l)=none:=rfl
theorem oS (t off:Nat):fY s (.ptr t off)=none:=rfl
theorem ur {x:SV} (f:∀ l,x ≠ .agg l) (j:∀ t off,x ≠ .ptr t off):fB s x=fY s x:=by
 cases x <;> first|rfl|exact absurd rfl (f _)|exact absurd rfl (j _ _)
def Shape (x c:SV):Prop:=(∃ t,x = .ptr t 0/\∃ ty l,c = .vp ty l)∨((∀ t o,x ≠ .ptr t o)/\∀ ty l,c ≠ .vp ty l)
theorem EL {c:Cx} {x:SV} {v:Value} {bs:List Nat} (f:∀ ty l,x ≠ .vp ty l) (h:xU c x v bs):CV c x v bs:=by
 unfold CV;split
 ·exact absurd rfl (f _ _)
 ·exact h
theorem AR {c:Cx} {x:SV} {v:Value} {bs:List Nat} (h:CL c x v bs):xU c x v bs:=by
 unfold xU;split
 ·exact h.2.2.2.elim
 ·exact h
theorem Ga {c:Cx} {ty:Nat} {l:List SV} {v:Value} {bs:List Nat} (h:CL c (.vp ty l) v bs):False:=h.2.2.2
theorem tv {x:SV} (f:∀ t o,x ≠ .ptr t o) (r:List SV):iH s (x::r)=iH s r:=by
 cases x <;> first|rfl|exact absurd rfl (f _ _)
theorem BQ (x:SV) (r:List SV):iH s (x::r)=iH s [x]++iH s r:=by
 cases x <;> simp [iH]
theorem tc {Ra':Nat->Prop} (h:Rel E s a w β Rt Ra) (j:∀ b,Ra b->Ra' b) {x y:SV} {v:Value} (u:∀ t∈jg (leaves x),∀ o,s.obj t=some o->∀ b∈ci (β t) o,Ra' b) (z:S2 (bG E s w β Rt Ra) x v) (f:fB s x=some y):CV (cc E.T w Rt Ra') y v ((iH s [x]).flatMap (tb s β))/\Shape x y:=by
 rcases gF x with ⟨l,rfl⟩|A
 ·simp only [fB] at f
  split at f
  ·rename_i M N;cases f
   obtain ⟨cs,rfl,O⟩:=jm z
   exact ⟨⟨cs,rfl,lH h j l _ M u O N⟩,.inr ⟨by simp,by simp⟩⟩
  ·cases f
 ·by_cases U:∃ t off,x = .ptr t off
  ·obtain ⟨t,off,rfl⟩:=U
   unfold fB at f
   split at f
   ·cases ‹SV.ptr _ _=SV.agg _›
   ·rename_i t' e
    cases e
    split at f
    ·rename_i ty X V
     split at f
     ·rename_i M N;cases f
      obtain ⟨cs,q,Y,O⟩:=h.objs t _ V
      obtain ⟨_,hv⟩:_/\v=_:=z
      refine ⟨⟨(β t).b,cs,q,_,hv,Y,nE h j X _ M O N,?_⟩,.inl ⟨t,rfl,_,_,rfl⟩⟩
      simp only [iH,V,List.flatMap_cons,List.append_nil,tb,ci];rfl
     ·cases f
    ·cases f
   ·rw [oS] at f;cases f
  ·have m:∀ t off,x ≠ .ptr t off:=fun t off e=>U ⟨t,off,e⟩
   rw [ur A m] at f
   rw [lu A] at u
   have h3:∀ l,x ≠ .tup l:=fun l e=>by subst e;rw [wG] at f;cases f
   have:=lF h j u (xX A (xY h3 z)) f
   have W:∀ ty l,y ≠ .vp ty l:=fun ty l e=>by subst e;exact Ga this
   rw [tv m]
   exact ⟨EL W (AR this),.inr ⟨m,W⟩⟩
theorem lG {Ra':Nat->Prop} (h:Rel E s a w β Rt Ra) (m:∀ b,Ra b->Ra' b):∀ (l:List SV) (vs:List Value) (u:List SV),(∀ t∈seen l,∀ o,s.obj t=some o->∀ b∈ci (β t) o,Ra' b)->PW (S2 (bG E s w β Rt Ra)) l vs->eP s l=some u ->
  jB (CV (cc E.T w Rt Ra')) u vs ((iH s l).flatMap (tb s β))/\PW Shape l u
 | [],[],u,_,_,f=>by cases f;exact ⟨rfl,trivial⟩
 | x::l,v::vs,u,A,j,f=>by
  unfold eP at f
  split at f
  ·rename_i y M N O
   cases f
   obtain ⟨g1,g2⟩:=tc h m (fun t z=>A t (List.mem_append_left _ z)) j.1 N
   obtain ⟨g3,g4⟩:=lG h m l vs M (fun t z=>A t (List.mem_append_right _ z)) j.2 O
   rw [BQ,List.flatMap_append]
   exact ⟨⟨_,_,rfl,g1,g3⟩,g2,g4⟩
  ·cases f
 | [],_::_,_,_,j,_=>j.elim
 | _::_,[],_,_,j,_=>j.elim
theorem fg:∀ {l:List Nat},distinct l=true->l.Nodup
 | [],_=>List.nodup_nil
 | x::r,h=>by
  simp only [distinct,Bool.and_eq_true,Bool.not_eq_true',List.any_eq_false] at h
  refine List.nodup_cons.2 ⟨fun f => ?_,fg h.2⟩
  exact h.1 x f (Nat.beq_refl x)
theorem po (s:St):∀ (l:List SV),(iH s l).Perm (given l++cn s l)
 | []=>List.Perm.refl _
 | x::r=>by
  by_cases j:∃ t o,x = .ptr t o
  ·obtain ⟨t,o,rfl⟩:=j
   simp only [iH,given,cn,List.cons_append]
   refine List.Perm.cons _ ?_
   exact ((po s r).append_left _).trans (by
    rw [<- List.append_assoc,<- List.append_assoc]
    exact List.perm_append_comm.append_right _)
  ·have f:∀ t o,x ≠ .ptr t o:=fun t o e=>j ⟨t,o,e⟩
   rw [tv f]
   have m:given (x::r)=given r:=by cases x <;> first|rfl|exact absurd rfl (f _ _)
   have u:cn s (x::r)=cn s r:=by cases x <;> first|rfl|exact absurd rfl (f _ _)
   rw [m,u];exact po s r
theorem CP (t:Nat):(tb s β t).Nodup:=by
 unfold tb;split
 ·rename_i o _
  cases o with
  | row e l st=>simp only [ci];cases (β t).v.ownBlock <;> simp
  | var ty f=>simp [ci]
  | sit b p=>simp [ci]
  | mp k e l=>simp [ci]
  | hole=>simp [ci]
 ·exact List.nodup_nil
theorem wa (h:RelO E s w β Rt Ra) {t m:Nat} (z:t≠m):∀ b∈tb s β t,b ∉ tb s β m:=by
 intro b j f
 unfold tb at j f
 split at j
 ·rename_i o A
  split at f
  ·rename_i M u;exact h.apart t o m M A u z b j f
  ·cases f
 ·cases j
theorem kz (h:RelO E s w β Rt Ra):∀ {l:List Nat},l.Nodup->(l.flatMap (tb s β)).Nodup
 | [],_=>List.nodup_nil
 | t::r,f=>by
  rw [List.nodup_cons] at f
  rw [List.flatMap_cons,List.nodup_append]
  refine ⟨CP t,kz h f.2,fun x m y hy e => ?_⟩
  subst e
  obtain ⟨u,j,hy⟩:=List.mem_flatMap.1 hy
  exact wa h (fun e=>by subst e;exact f.1 j) x m hy
theorem nc:∀ (f:List Nat) {s:St},Rel E s a w β Rt Ra->Rel E (fC f s) a w β Rt Ra
 | [],_,h=>h
 | t::r,_,h=>nc r (h.B' t)
theorem Ca {s:St} {t k:Nat} {o:Obj} (h:((s.kill t).drop t).obj k=some o):k≠t/\∃ f,s.obj k=some f/\∀ bl,ci bl o=ci bl f:=by
 obtain ⟨m,f,j,rfl⟩:=eT h
 exact ⟨m,f,j,fun bl=>gw bl f _⟩
theorem xm {s:St} {t k:Nat} {o:Obj} (f:k≠t) (h:s.obj k=some o):∃ j,((s.kill t).drop t).obj k=some j:=by
 rw [oZ,if_neg f,St.kill,tH,h];exact ⟨_,rfl⟩
theorem na:∀ (j:List Nat) {s:St} {k:Nat} {o:Obj},(fC j s).obj k=some o->k ∉ j/\∃ m,s.obj k=some m/\∀ bl,ci bl o=ci bl m
 | [],_,_,o,h=>⟨by simp,o,h,fun _=>rfl⟩
 | t::r,s,k,o,h=>by
  obtain ⟨u,U,z,A⟩:=na r h
  obtain ⟨f,M,N,O⟩:=Ca z
  exact ⟨by simp [u,f],M,N,fun bl=>(A bl).trans (O bl)⟩
theorem nJ:∀ (j:List Nat) {s:St} {k:Nat} {o:Obj},k ∉ j->s.obj k=some o->∃ m,(fC j s).obj k=some m
 | [],_,_,o,_,h=>⟨o,h⟩
 | t::r,s,k,o,f,h=>by
  simp only [List.mem_cons,not_or] at f
  obtain ⟨z,u⟩:=xm f.1 h
  exact nJ r f.2 u
theorem m4:∀ (m:List Nat) {s:St} {k:Nat},(fT m s).obj k=if k∈m then (s.obj k).map (fun _ => .hole) else s.obj k
 | [],_,_=>by simp [fT]
 | t::r,s,k=>by
  unfold fT;rw [m4 r,dT]
  by_cases f:k∈r <;> by_cases j:k=t
  ·subst j;simp [f,Function.comp_def]
  ·simp [f,j]
  ·subst j;simp [f]
  ·simp [f,j]
theorem Rel.hole (h:Rel E s a w β Rt Ra) (t:Nat):Rel E (s.setObj t .hole) a w β Rt Ra :=
 ⟨(h.toRelO.hole t).1,h.len,h.defers,fD (h.toRelO.hole t).2 h.slots⟩
theorem rA:∀ (f:List Nat) {s:St},Rel E s a w β Rt Ra->Rel E (fT f s) a w β Rt Ra
 | [],_,h=>h
 | t::r,_,h=>rA r (h.hole t)
theorem le_refl (c:Cx):c.Le c:=⟨rfl,fun _ _ h=>h,fun _ _ _=>rfl,fun _ h=>h,fun _ _=>rfl⟩
theorem eU:∀ (m:List SV) (s:St) {t:Nat},t<s.next->(cY s m).2.obj t=s.obj t
 | [],_,_,_=>rfl
 | x::r,s,t,f=>by
  by_cases j:∃ e l st,x = .fr e l st
  ·obtain ⟨e,l,st,rfl⟩:=j
   rw [gv]
   refine (eU r (s.new (.row e l st)) (Nat.lt_succ_of_lt f)).trans ?_
   rw [fF,if_neg (Nat.ne_of_lt f)]
  ·rw [hZ s x r fun e l st u=>j ⟨e,l,st,u⟩];exact eU r s f
def Hd (s:St) (β : Nat->Bl) (x:SV) (v:Value):Prop:=∀ t off,x = .ptr t off->v = .pointer (some ⟨(β t).b,off,none⟩)/\s.obj t=some .hole
theorem mM (s:St) (t off:Nat) (r:List SV) (ty:Nat) (f u:List SV):fe s (.ptr t off::r) (.vp ty f::u)=fe ((cY s f).2.setObj t (.var ty (cY s f).1)) r u:=rfl
theorem jN (s:St) {x:SV} (f:∀ t o,x ≠ .ptr t o) (r u:List SV):fe s (x::r) u=fe s r u:=by
 cases x <;> first|rfl|exact absurd rfl (f _ _)
theorem qJ (c:Cx) {x:SV} (f:∀ ty l,x ≠ .vp ty l) (r:List SV) (v:Value) (vs:List Value) (u:List SV) (bs:List Nat):CB c (x::r) (v::vs) u bs=CB c r vs u bs:=by
 cases x <;> first|rfl|exact absurd rfl (f _ _)
theorem uN {x:SV} (f:∀ t o,x ≠ .ptr t o) (r:List SV):given (x::r)=given r:=by
 cases x <;> first|rfl|exact absurd rfl (f _ _)
theorem mY {t off:Nat}:∀ {xs:List SV},SV.ptr t off∈xs->t∈given xs
 | [],h=>by cases h
 | y::f,h=>by
  rcases List.mem_cons.1 h with rfl|h
  ·simp [given]
  ·have:=mY h
   cases y <;> simp [given,this]
theorem jO {Rt':Nat->Prop} (hR:∀ b,Rt' b->Rt b):∀ (xs cs:List SV) (vs:List Value) (back:List SV) (bs:List Nat) {s s2:St} {β : Nat->Bl},Rel E s a w β Rt Ra->PW Shape xs cs->CB (cc E.T w Rt' Rt') cs vs back bs->bs.Nodup->(∀ z∈bs,qv E s w β Ra z) ->
  PW (Hd s β) xs vs->(given xs).Nodup->fe s xs back=some s2 ->
  ∃ β',Rel E s2 a w β' Rt Ra/\∀ t o,s2.obj t=some o->(s.obj t=some o /\ β' t = β t)∨∀ z∈ci (β' t) o,z∈bs
 | [],[],[],back,bs,s,s2,β,h,_,V,_,_,_,_,hb=>by
  obtain ⟨rfl,rfl⟩:=V
  cases hb
  exact ⟨β,h,fun t o ho => .inl ⟨ho,rfl⟩⟩
 | x::xs,c::cs,v::vs,back,bs,s,s2,β,h,ad,V,ae,hf,hh,hg,hb=>by
  rcases ad.1 with ⟨t,rfl,ct,l0,rfl⟩|⟨h1,h2⟩
  ·simp only [CB] at V
   split at V
   ·rename_i ty W u'
    obtain ⟨b,ax,q,b1,b2,hv,ap,a1,rfl,ar⟩:=V
    obtain ⟨X,u⟩:=hh.1 t 0 rfl
    have eb:b=(β t).b:=by rw [hv] at X;simpa using X
    rw [mM] at hb
    rw [List.cons_append,List.nodup_cons,List.nodup_append] at ae
    obtain ⟨nb,bP,bS,a6⟩:=ae
    obtain ⟨A,r1,a7,p1,a8⟩:=fN hR (fun b hb=>h.sub b (hR b hb)) W ax.toList b1 h a1 bP (fun z m=>hf z (by simp [m]))
    have bV:=h.lt t _ u
    have N:(cY s W).2.obj t=some .hole:=by rw [eU W s bV];exact u
    have bb:A t = β t:=a7.β t ⟨_,u⟩
    have O:(A t).b=b:=by rw [bb,eb]
    have Y:=hf b (by simp)
    obtain ⟨r2,b0⟩:=r1.toRelO.set t (.var ty (cY s W).1) N (fun z m=>by
      simp only [ci,List.mem_singleton] at m;rw [m,O];exact ⟨Y.1,Y.2.1,Y.2.2.1⟩) (fun z m k o' b3 j=>by
      simp only [ci,List.mem_singleton] at m;rw [m,O] at j
      rcases a8 k o' b3 with ⟨U,f⟩|M
      ·rw [f] at j;exact Y.2.2.2 k o' U j
      ·exact nb (List.mem_append_left _ (M b j))) (fun le=>⟨ax,q,by rw [O];exact ap,by rw [O];exact p1.imp fun _ _ hs=>hs.le le⟩)
    have b4:Rel E ((cY s W).2.setObj t (.var ty (cY s W).1)) a w A Rt Ra:=⟨r2,r1.len,r1.defers,fD b0 r1.slots⟩
    rw [show given (SV.ptr t 0::xs)=t::given xs from rfl,List.nodup_cons] at hg
    have be:∀ k o,((cY s W).2.setObj t (.var ty (cY s W).1)).obj k=some o->(k=t/\ci (A k) o=[b])∨(k≠t/\((s.obj k=some o/\A k = β k)∨∀ z∈ci (A k) o,z∈b1)):=by
     intro k o hk
     rw [dT] at hk;split at hk
     ·rename_i e;subst e;rw [N] at hk;cases hk;exact .inl ⟨rfl,by simp [ci,O]⟩
     ·rename_i e;exact .inr ⟨e,a8 k o hk⟩
    obtain ⟨b5,r3,b'⟩:=jO hR xs cs vs u' b2 b4 ad.2 ar bS (fun z m=>by
      obtain ⟨f1,f2,f3,f4⟩:=hf z (by simp [m])
      refine ⟨f1,f2,f3,fun k o hk j => ?_⟩
      rcases be k o hk with ⟨_,e⟩|⟨_,⟨U,f⟩|M⟩
      ·rw [e,List.mem_singleton] at j;subst j;exact nb (List.mem_append_right _ m)
      ·rw [f] at j;exact f4 k o U j
      ·exact a6 z (M z j) z m rfl)
     (by
      refine hh.2.imp_mem fun y hy v' X t' bk e => ?_
      subst e
      obtain ⟨g1,g2⟩:=X t' bk rfl
      have ca:t'≠t:=fun e=>by subst e;exact hg.1 (mY hy)
      have cl:A t' = β t':=a7.β t' ⟨_,g2⟩
      exact ⟨by rw [cl];exact g1,by rw [dT,if_neg ca,eU W s (h.lt t' _ g2)];exact g2⟩)
     hg.2 hb
    refine ⟨b5,r3,fun k o hk => ?_⟩
    rcases b' k o hk with ⟨U,f⟩|M
    ·rcases be k o U with ⟨_,e⟩|⟨_,⟨cp,bx⟩|M⟩
     ·exact .inr fun z m=>by rw [f,e,List.mem_singleton] at m;subst m;simp
     ·exact .inl ⟨cp,f.trans bx⟩
     ·exact .inr fun z m=>by rw [f] at m;simp [M z m]
    ·exact .inr fun z m=>by simp [M z m]
   ·exact V.elim
  ·rw [jN s h1] at hb
   rw [qJ _ h2] at V
   rw [uN h1] at hg
   exact jO hR xs cs vs back bs h ad.2 V ae hf hh.2 hg hb
 | [],[],_::_,_,_,_,_,_,_,_,V,_,_,_,_,_=>V.elim
 | [],_::_,_,_,_,_,_,_,_,hs,_,_,_,_,_,_=>hs.elim
 | _::_,[],_,_,_,_,_,_,_,hs,_,_,_,_,_,_=>hs.elim
 | _::_,_::_,[],_,_,_,_,_,_,_,_,_,_,hh,_,_=>hh.elim
theorem jB.imp {S f:SV->Value->List Nat->Prop} (j:∀ x v bs,S x v bs->f x v bs):∀ {l:List SV} {vs:List Value} {bs:List Nat},jB S l vs bs->jB f l vs bs
 | [],[],_,h=>h
 | _::_,_::_,_,⟨m,u,e,z,A⟩=>⟨m,u,e,j _ _ _ z,jB.imp j A⟩
 | [],_::_,_,h=>h.elim
 | _::_,[],_,h=>h.elim
theorem ia {v:SV} (m:∀ l,v ≠ .agg l) (s:St):∃ u,(cY s [v]).1=[u]/\eH s v=(u,(cY s [v]).2):=by
 by_cases j:∃ e l st,v = .fr e l st
 ·obtain ⟨e,l,st,rfl⟩:=j
  exact ⟨.own s.next,rfl,rfl⟩
 ·have f:∀ e l st,v ≠ .fr e l st:=fun e l st z=>j ⟨e,l,st,z⟩
  refine ⟨v,by rw [hZ s v [] f];rfl,?_⟩
  cases v <;> first|rfl|exact absurd rfl (f _ _ _)|exact absurd rfl (m _)
theorem ka {Rt' Ra':Nat->Prop} (N:∀ b,Rt' b->Rt b) (O:∀ b,Ra' b->Ra b) {x:SV} {v:Value} {bs:List Nat} (h:Rel E s a w β Rt Ra) (j:xU (cc E.T w Rt' Ra') x v bs) (f:bs.Nodup) (U:∀ z∈bs,qv E s w β Ra z) :
  ∃ β',Rel E (eH s x).2 a w β' Rt Ra/\(bG E s w β Rt Ra).Le (bG E (eH s x).2 w β' Rt Ra)/\S1 (bG E (eH s x).2 w β' Rt Ra) (eH s x).1 v/\∀ t o,(eH s x).2.obj t=some o->(s.obj t=some o /\ β' t = β t)∨∀ z∈ci (β' t) o,z∈bs:=by
 rcases gF x with ⟨l,rfl⟩|V
 ·obtain ⟨cs,rfl,W⟩:=j
  obtain ⟨β',r,le,p,ob⟩:=fN (b:=0) N O l cs.toList bs h (W.imp fun _ _ _ X=>oB X 0) f U
  exact ⟨β',r,le,⟨cs,rfl,p.imp fun _ _=>sR⟩,ob⟩
 ·have m:CL (cc E.T w Rt' Ra') x v bs:=by
   unfold xU at j;split at j
   ·exact absurd rfl (V _)
   ·exact j
  obtain ⟨β',r,le,p,ob⟩:=fN (b:=0) N O [x] [v] bs h ⟨bs,[],by simp,oB m 0,rfl⟩ f U
  obtain ⟨u,A,M⟩:=ia V s
  rw [M]
  rw [A] at p
  exact ⟨β',r,le,dO (sR p.1),ob⟩
theorem nP {Rt':Nat->Prop} (A:∀ b,Rt' b->Rt b):∀ (xs:List SV) (vs:List Value) (bs:List Nat) {s:St} {β : Nat->Bl},Rel E s a w β Rt Ra->jB (xU (cc E.T w Rt' Rt')) xs vs bs->bs.Nodup->(∀ z∈bs,qv E s w β Ra z) ->
  ∃ β',Rel E (fA s xs).2 a w β' Rt Ra/\(bG E s w β Rt Ra).Le (bG E (fA s xs).2 w β' Rt Ra)/\PW (S1 (bG E (fA s xs).2 w β' Rt Ra)) (fA s xs).1 vs
 | [],[],bs,s,β,h,X,_,_=>⟨β,h,le_refl _,trivial⟩
 | x::xs,v::vs,bs,s,β,h,X,f,Y=>by
  obtain ⟨b1,b2,rfl,hx,hr⟩:=X
  rw [List.nodup_append] at f
  obtain ⟨ad,r1,M,p1,N⟩:=ka A (fun b j=>h.sub b (A b j)) h hx f.1 (fun z u=>Y z (List.mem_append_left _ u))
  obtain ⟨O,r2,m,p2⟩:=nP A xs vs b2 r1 hr f.2.1 (fun z u=>by
   obtain ⟨f1,f2,f3,f4⟩:=Y z (List.mem_append_right _ u)
   refine ⟨f1,f2,f3,fun t o ho j => ?_⟩
   rcases N t o ho with ⟨U,V⟩|W
   ·rw [V] at j;exact f4 t o U j
   ·exact f.2.2 z (W z j) z u rfl)
  exact ⟨O,r2,M.trans m,p1.le m,p2⟩
 | [],_::_,_,_,_,_,h,_,_=>h.elim
 | _::_,[],_,_,_,_,h,_,_=>h.elim
end
end Go.Proofs.Ab
namespace Go.Proofs.Ab
open Go
variable {R:Type}
structure dY (C:Cfg R) (tab:bZ) (E:Env):Prop where
 T:E.T=C.ty
 tab:∀ b ob,tab b=some ob->E.w0.heap[b]? = some ob/\E.Rt0 b/\¬ E.W0 b
section
variable {P:Program} {E:Env} {o:Oper} {s:St} {a:Act} {w:World} {β : Nat->Bl} {Rt Ra:Nat->Prop} {κ : St->Option R} {r:R} {C:Cfg R} {tab:bZ}
theorem p7 {c:Call} {f:Operand} {g:Nat} (j:o.op = .call c) (m:c.callee = .value f) (u:a.eval f = .func (.func g) #[] #[]):(execOp a.eval o).run P w=(callFunc g (c.args.map a.eval)).run P w:=by
 unfold execOp;rw [j]
 simp only [resolve,m,u,Deferred.ofValue,Sem.run_bind,Sem.run_pure,Result.andThen_ok,invoke]
 simp
theorem nr {c:Call} {f:Operand} {g:Nat} {p:Array Value} (j:o.op = .call c) (m:c.callee = .value f) (u:a.eval f = .func (.func g) #[] p):(execOp a.eval o).run P w=(callFunc g (c.args.map a.eval++p)).run P w:=by
 unfold execOp;rw [j]
 simp only [resolve,m,u,Deferred.ofValue,Sem.run_bind,Sem.run_pure,Result.andThen_ok,invoke]
 simp
theorem ju (h:Rel E s a w β Rt Ra):∀ (xs:List Operand),PW (S2 (bG E s w β Rt Ra)) (xs.map (ev s)) (xs.map a.eval)
 | []=>trivial
 | x::r=>⟨b9 h x,ju h r⟩
theorem DD {t:Nat} {xs m:List SV} (h:eP s xs=some m) (f:t∈given xs):∃ ty N,s.obj t=some (.var ty N):=by
 induction xs generalizing m with
 | nil=>cases f
 | cons x xs u =>
  unfold eP at h
  split at h
  ·rename_i y U j z
   by_cases A:∃ M o,x = .ptr M o
   ·obtain ⟨M,o,rfl⟩:=A
    rcases List.mem_cons.1 f with rfl|f
    ·unfold fB at j
     split at j
     ·cases ‹SV.ptr _ _=SV.agg _›
     ·rename_i O e;cases e
      split at j
      ·exact ⟨_,_,by assumption⟩
      ·cases j
     ·rw [oS] at j;cases j
    ·exact u z f
   ·rw [uN (fun t o e=>A ⟨t,o,e⟩)] at f;exact u z f
  ·cases h
theorem uK (f:List Nat) (h:Rel E s a w β Rt Ra):∃ β' Rt' Ra',Rel E (fZ f s) a w β' Rt' Ra':=dd.fZ f ⟨β,Rt,Ra,h⟩
theorem wx {xs:List SV} {vs:List Value} {cs back:List SV} {b1 b2:List Nat} {w':World} {v0:SV} {v:Value} {res:List SV} {Rt':Nat->Prop} {s2:St}
  {bx:List Nat} (a7:∀ b∈bx,qv E s w β Ra b) (h:Rel E s a w β Rt Ra) (hp:PW (S2 (bG E s w β Rt Ra)) xs vs) (a8:eP s xs=some cs) (bb:(iH s xs).Nodup)
  (f:mK E.T w cs vs Rt ((iH s xs).flatMap (tb s β)++bx) res v w' Rt' v0 back b1 b2) (be:PW Shape xs cs) (u:fe (fT (given xs) (fC (cn s xs) s)) xs back=some s2) :
  (∃ l,v0 = .tup l/\∃ ax:Array Value,v = .tuple ax/\∃ U V W,Rel E (fA s2 l).2 a w' U V W/\PW (S1 (bG E (fA s2 l).2 w' U V W)) (fA s2 l).1 ax.toList) ∨
  ((∀ l,v0 ≠ .tup l)/\∃ U V W,Rel E (eH s2 v0).2 a w' U V W/\S1 (bG E (eH s2 v0).2 w' U V W) (eH s2 v0).1 v):=by
 have X:=po s xs
 have hn:=X.nodup bb
 rw [List.nodup_append] at hn
 -- blocks that were handed over
 have N:∀ b∈(iH s xs).flatMap (tb s β)++bx,b<w.heap.size/\¬ Ra b/\(E.w0.heap.size<=b∨E.W0 b)/\((∃ t∈iH s xs,b∈tb s β t)∨∀ t o,s.obj t=some o->b ∉ ci (β t) o):=by
  intro b u
  rcases List.mem_append.1 u with u|u
  ·obtain ⟨t,ht,u⟩:=List.mem_flatMap.1 u
   have bk:=u
   unfold tb at u;split at u
   ·rename_i o m;exact ⟨(h.c9 t o m b u).1,(h.c9 t o m b u).2.1,(h.c9 t o m b u).2.2,.inl ⟨t,ht,bk⟩⟩
   ·cases u
  ·obtain ⟨f1,f2,f3,f4⟩:=a7 b u
   exact ⟨f1,f2,f3,.inr f4⟩
 have h1:Rel E (fT (given xs) (fC (cn s xs) s)) a w β Rt Ra:=rA _ (nc _ h)
 -- what objects there are now
 have Y:∀ t o,(fT (given xs) (fC (cn s xs) s)).obj t=some o->∀ b∈ci (β t) o,b ∉ (iH s xs).flatMap (tb s β)++bx/\b<w.heap.size:=by
  intro t o m b j
  refine ⟨fun ad => ?_,(h1.c9 t o m b j).1⟩
  obtain ⟨_,_,_,ap⟩:=N b ad
  rw [m4] at m
  split at m
  ·rename_i hg
   cases hx:(fC (cn s xs) s).obj t with
   | none=>rw [hx] at m;cases m
   | some o'=>rw [hx] at m;cases m;cases j
  ·rename_i hg
   obtain ⟨bs,o',O,e⟩:=na _ m
   rw [e] at j
   rcases ap with ⟨t',bP,bS⟩|ap
   ·have:t≠t':=fun e=>by
     subst e
     have:=(X.mem_iff (a:=t)).1 bP
     rcases List.mem_append.1 this with h|h
     ·exact hg h
     ·exact bs h
    refine wa h.toRelO this b ?_ bS
    unfold tb;rw [O];exact j
   ·exact ap t o' O j
 have h2:Rel E (fT (given xs) (fC (cn s xs) s)) a w' β Rt Ra:=h1.world f.fr fun b u=>⟨(N b u).2.1,(N b u).2.2.1,fun t o m j=>(Y t o m b j).1 u⟩
 obtain ⟨h3,_⟩:=h2.more f.le fun b u a1=>by
  obtain ⟨g1,g2⟩:=f.lt b u
  refine ⟨g1,?_,fun t o m j => ?_⟩
  ·rcases g2 with g2|g2|g2
   ·exact absurd g2 a1
   ·exact .inl (Nat.le_trans h.fr.size g2)
   ·exact (N b g2).2.2.1
  ·rcases g2 with g2|g2|g2
   ·exact a1 g2
   ·have:=(Y t o m b j).2;omega
   ·exact (Y t o m b j).1 g2
 have ae:∀ z∈b1++b2,qv E (fT (given xs) (fC (cn s xs) s)) w' β (fun b=>Ra b∨Rt' b) z:=by
  intro z hz
  obtain ⟨g1,g2,g3⟩:=f.no z hz
  refine ⟨g2,?_,?_,fun t o m j => ?_⟩
  ·rintro (hr|hr)
   ·rcases g3 with g3|g3
    ·have:=h.rlt z hr;omega
    ·exact (N z g3).2.1 hr
   ·exact g1 hr
  ·rcases g3 with g3|g3
   ·exact .inl (Nat.le_trans h.fr.size g3)
   ·exact (N z g3).2.2.1
  ·rcases g3 with g3|g3
   ·have:=(Y t o m z j).2;omega
   ·exact (Y t o m z j).1 g3
 have A:=f.nd
 rw [List.nodup_append] at A
 obtain ⟨bV,h4,b0⟩:=jO (fun _ h=>h) xs cs vs back b2 h3 be f.b A.2.1 (fun z hz=>ae z (List.mem_append_right _ hz))
  (by
   refine hp.imp_mem fun x hx v hv t off e => ?_
   subst e
   obtain ⟨_,hv⟩:_/\v=_:=hv
   refine ⟨hv,?_⟩
   have hg:=mY hx
   obtain ⟨ty,ls,m⟩:=DD a8 hg
   obtain ⟨o',O⟩:=nJ (cn s xs) (fun ad=>hn.2.2 t hg t ad rfl) m
   rw [m4,if_pos hg,O];rfl)
  hn.1 u
 have M:∀ z∈b1,qv E s2 w' bV (fun b=>Ra b∨Rt' b) z:=by
  intro z hz
  obtain ⟨f1,f2,f3,f4⟩:=ae z (List.mem_append_left _ hz)
  refine ⟨f1,f2,f3,fun t o m j => ?_⟩
  rcases b0 t o m with ⟨O,b3⟩|ad
  ·rw [b3] at j;exact f4 t o O j
  ·exact A.2.2 z hz z (ad z j) rfl
 rcases pJ v0 with ⟨l,rfl⟩|hv
 ·obtain ⟨us,b4,a6⟩:=f.r
  obtain ⟨ar,h5,_,p5⟩:=nP (fun _ h=>h) l us.toList b1 h4 a6 A.1 M
  exact .inl ⟨l,rfl,us,b4,ar,_,_,h5,p5⟩
 ·have hr:xU (cc E.T w' Rt' Rt') v0 v b1:=by
   have:=f.r
   unfold CR at this;split at this
   ·exact absurd rfl (hv _)
   ·exact this
  obtain ⟨ar,h5,_,p5,_⟩:=ka (fun _ h=>h) (fun _ h => .inr h) h4 hr A.1 M
  exact .inr ⟨hv,ar,_,_,h5,p5⟩
theorem lJ {A:Type} {b:Bool} {k:Option A} {r:A} (h:(bif b then k else none)=some r):b=true/\k=some r:=by
 cases b with
 | true=>exact ⟨rfl,h⟩
 | false=>cases h
theorem kQ {A:Type} {b:Bool} {k:Option A} {r:A} (h:(bif b then none else k)=some r):b=false/\k=some r:=by
 cases b with
 | false=>exact ⟨rfl,h⟩
 | true=>cases h
theorem jB.more {S:SV->Value->List Nat->Prop}:∀ {l:List SV} {vs:List Value} {bs:List Nat} {ex:List SV} {exv:List Value},jB S l vs bs->PW (fun x v=>S x v []) ex exv->jB S (l++ex) (vs++exv) bs
 | [],[],_,[],[],h,_=>h
 | [],[],bs,x::ex,v::exv,h,f=>by
  have h:bs=[]:=h
  subst h
  exact ⟨[],[],rfl,f.1,jB.more (l:=[]) (vs:=[]) (bs:=[]) rfl f.2⟩
 | x::l,v::vs,_,_,_,⟨j,m,e,u,z⟩,f=>⟨j,m,e,u,z.more f⟩
 | [],[],_,[],_::_,_,f=>f.elim
 | [],[],_,_::_,[],_,f=>f.elim
 | [],_::_,_,_,_,h,_=>h.elim
 | _::_,[],_,_,_,h,_=>h.elim
theorem jB.join {S:SV->Value->List Nat->Prop}:∀ {l:List SV} {vs:List Value} {bs:List Nat} {ex:List SV} {exv:List Value} {bx:List Nat},jB S l vs bs->jB S ex exv bx->jB S (l++ex) (vs++exv) (bs++bx)
 | [],[],_,_,_,_,h,f=>by
  have h:_=[]:=h
  subst h
  exact f
 | x::l,v::vs,_,_,_,bx,⟨j,m,e,u,z⟩,f=>⟨j,m++bx,by rw [e,List.append_assoc],u,z.join f⟩
 | [],_::_,_,_,_,_,h,_=>h.elim
 | _::_,[],_,_,_,_,h,_=>h.elim
theorem jB.none {S:SV->Value->List Nat->Prop}:∀ {l:List SV} {vs:List Value},PW (fun x v=>S x v []) l vs->jB S l vs []
 | [],[],_=>rfl
 | _::_,_::_,h=>⟨[],[],rfl,h.1,jB.none h.2⟩
 | [],_::_,h=>h.elim
 | _::_,[],h=>h.elim
theorem sL {c:Cx} {ex:List SV} (hex:∀ x∈ex,∀ ty l,x ≠ .vp ty l):∀ {cs:List SV} {vs:List Value} {exv:List Value} {u:List SV} {bs:List Nat},cs.length=vs.length->ex.length=exv.length->CB c (cs++ex) (vs++exv) u bs->CB c cs vs u bs
 | [],[],exv,u,bs,hl,he,h=>by
  replace h:CB c ex exv u bs:=h
  clear hl
  induction ex generalizing exv with
  | nil=>cases exv with
   | nil=>exact h
   | cons _ _=>simp at he
  | cons x ex ih=>cases exv with
   | nil=>simp at he
   | cons v exv =>
    rw [qJ c (hex x (by simp))] at h
    exact ih (fun y hy=>hex y (by simp [hy])) exv (by simpa using he) h
 | x::cs,v::vs,exv,u,bs,hl,he,h=>by
  by_cases hx:∃ ty l,x = .vp ty l
  ·obtain ⟨ty,l,rfl⟩:=hx
   cases u with
   | nil=>exact h.elim
   | cons y u =>
    cases y <;> first
     | (obtain ⟨b, cs', i, b1, b2, h1, h2, h3, h4, h5⟩ := h
        exact ⟨b,cs',i,b1,b2,h1,h2,h3,h4,sL hex (by simpa using hl) he h5⟩)
     | exact h.elim
  ·have hn:∀ ty l,x ≠ .vp ty l:=fun ty l e=>hx ⟨ty,l,e⟩
   rw [qJ c hn]
   rw [List.cons_append,List.cons_append,qJ c hn] at h
   exact sL hex (by simpa using hl) he h
 | [],_::_,_,_,_,hl,_,_=>by simp at hl
 | _::_,[],_,_,_,hl,_,_=>by simp at hl
theorem wT {q:Bool} (hE:dY C tab E) (hD:∀ g,bM P C.ty tab g (C.call g)) {s0:St} {A:Nat->Bl} {Rt0 Ra0:Nat->Prop} (N:Rel E s0 a w A Rt0 Ra0) {fz:List Nat} {g:Nat} {xs ex:List SV} {vals:Array Value} {vx exv:List Value} {bx:List Nat} (b0:bx.Nodup) (ap:∀ b∈bx,qv E s0 w A Ra0 b) (O:vals.toList=vx++exv)
  (ar:(execOp a.eval o).run P w=(callFunc g vals).run P w) (hp:PW (S2 (bG E s0 w A Rt0 Ra0)) xs vx)
  (hex:jB (CV (cc E.T w Rt0 fun b=>Ra0 b∨∃ t o,s0.obj t=some o/\t ∉ iH s0 xs/\b∈ci (A t) o)) ex exv bx) (bb:∀ x∈ex,∀ ty l,x ≠ .vp ty l)
  (hk:lE C q fz s0 o.dst g xs ex κ = some r):eB P E o a w κ r:=by
 unfold lE at hk
 simp only at hk
 cases z:((q && !(fz.isEmpty&&(cn s0 xs).isEmpty)) || !distinct (iH s0 xs)||(seen xs).any (fun t=>(iH s0 xs).any (Nat.beq t))) with
 | true=>rw [z] at hk;cases hk
 | false =>
  rw [z] at hk;simp only [cond_false] at hk
  simp only [Bool.or_eq_false_iff,Bool.not_eq_false'] at z
  obtain ⟨⟨_,be⟩,U⟩:=z
  have bk:=fg be
  split at hk
  ·cases hk
  ·rename_i cs bs
   let Ra':Nat->Prop:=fun b=>Ra0 b∨∃ t o,s0.obj t=some o/\t ∉ iH s0 xs/\b∈ci (A t) o
   obtain ⟨ae,b3⟩:=lG (Ra':=Ra') N (fun b j => .inl j) xs _ cs (fun t ht o' M b j=>by
    refine .inr ⟨t,o',M,fun b4 => ?_,j⟩
    rw [List.any_eq_false] at U
    have:=U t ht
    rw [Bool.not_eq_true,List.any_eq_false] at this
    exact this t b4 (Nat.beq_refl t)) hp bs
   have bP:cs.length=vx.length:=ae.len
   have bS:Pre C.ty tab w (cs++ex) vals.toList Rt0 Ra' ((iH s0 xs).flatMap (tb s0 A)++bx):=by
    refine ⟨by rw [<- hE.T,O];exact ae.join hex,List.nodup_append.2 ⟨kz N.toRelO bk,b0,fun b j b' b5 e => ?_⟩,fun b j => ?_,fun b j => .inl (N.sub b j),fun b j => ?_,fun b ob ca => ?_⟩
    ·subst e
     obtain ⟨t,ht,j⟩:=List.mem_flatMap.1 j
     unfold tb at j;split at j
     ·rename_i o' M
      exact (ap b b5).2.2.2 t o' M j
     ·cases j
    ·rcases List.mem_append.1 j with j|j
     ·obtain ⟨t,ht,j⟩:=List.mem_flatMap.1 j
      have c':=j
      unfold tb at j;split at j
      ·rename_i o' M
       refine ⟨?_,(N.c9 t o' M b j).1⟩
       rintro (hr|⟨t',o2,V,cl,W⟩)
       ·exact (N.c9 t o' M b j).2.1 hr
       ·exact N.apart t o' t' o2 M V (fun e=>by subst e;exact cl ht) b j W
      ·cases j
     ·obtain ⟨f1,f2,_,f4⟩:=ap b j
      refine ⟨?_,f1⟩
      rintro (hr|⟨t',o2,V,_,W⟩)
      ·exact f2 hr
      ·exact f4 t' o2 V W
    ·rcases j with hr|⟨t',o2,V,_,W⟩
     ·exact N.rlt b hr
     ·exact (N.c9 t' o2 V b W).1
    ·obtain ⟨g1,g2,g3⟩:=hE.tab b ob ca
     refine ⟨?_,N.rt0 b g2⟩
     have cp:b<E.w0.heap.size:=(Array.getElem?_eq_some_iff.1 g1).1
     rw [N.fr.block b cp g3];exact g1
   have bV:=hD g (cs++ex) _ r hk w vals Rt0 Ra' _ bS
   intro next Q X
   have fin:∀ v w',(∃ res Rt' v0 back b1 b2,(match res with
     | []=>none
     | v::back=>match fe (fT (given xs) (fC (cn s0 xs) s0)) xs back with
      | none=>none
      | some s2=>match v with
       | .tup l=>match fA s2 l with
        | (us,s3)=>κ (s3.put o.dst (.tup us))
       | v=>match eH s2 v with
        | (u,s3)=>κ (s3.put o.dst u))=some r/\mK C.ty w (cs++ex) vals.toList Rt0 ((iH s0 xs).flatMap (tb s0 A)++bx) res v w' Rt' v0 back b1 b2)->next (a.put o.dst v) w':=by
    rintro v w' ⟨res,Rt',v0,back,b1,b2,m,f⟩
    rw [f.res] at m
    simp only at m
    split at m
    ·cases m
    ·rename_i s2 ct
     have j:=wx ap N hp bs bk (by
      rw [<- hE.T] at f
      exact ⟨f.res,f.fr,f.r,sL bb bP hex.len (by have:=f.b;rw [O] at this;exact this),f.nd,f.no,f.le,f.lt⟩) b3 ct
     rcases j with ⟨l,rfl,us,rfl,ax,a1,a6,hr,a7⟩|⟨hv,ax,a1,a6,hr,a7⟩
     ·simp only at m
      exact X _ _ _ m ⟨ax,a1,a6,hr.put o.dst ⟨us,rfl,a7⟩⟩
     ·split at m
      ·exact absurd rfl (hv _)
      ·exact X _ _ _ m ⟨ax,a1,a6,hr.put o.dst (dy a7)⟩
   unfold Oper.wp
   rw [ar]
   rcases bV with ⟨v,w',Y,hq⟩|⟨Y,ad⟩
   ·rw [Y];exact fin v w' hq
   ·rw [Y,Oper.upon_enter]
    intro c0
    obtain ⟨e,w',fr,⟨v,he,hq⟩,a8⟩:=ad c0
    subst he
    exact ⟨_,w',fr,fin v w' hq,a8⟩
theorem wS {q:Bool} (m:dY C tab E) (u:∀ g,bM P C.ty tab g (C.call g)) {s0:St} {j:Nat->Bl} {Rt0 Ra0:Nat->Prop} (z:Rel E s0 a w j Rt0 Ra0) {A:List Nat} {g:Nat} {xs:List SV} {vals:Array Value}
  (f:(execOp a.eval o).run P w=(callFunc g vals).run P w) (M:PW (S2 (bG E s0 w j Rt0 Ra0)) xs vals.toList) (N:oQ C q A s0 o.dst g xs κ = some r):eB P E o a w κ r :=
 wT (ex:=[]) (exv:=[]) (bx:=[]) m u z List.nodup_nil (by simp) (List.append_nil _).symm f M rfl (by simp) N
theorem vR (hE:E.T=C.ty) {s0:St} {f:Nat->Bl} {Rt0 Ra0:Nat->Prop} (h0:Rel E s0 a w f Rt0 Ra0) {t:Nat} {x:SV} (A:CC C s0 t=some x) {Ra':Nat->Prop} (O:∀ b,Ra0 b->Ra' b) (U:∀ o,s0.obj t=some o->∀ b∈ci (f t) o,Ra' b) :
  CV (cc E.T w Rt0 Ra') x (.pointer (some ⟨(f t).b,0,none⟩)) []/\∀ ty l,x ≠ .vp ty l:=by
 unfold CC at A
 split at A
 ·rename_i ty ls V
  split at A
  ·rename_i T hT
   split at A
   ·rename_i y hw
    split at A
    ·rename_i d st u
     cases A
     refine ⟨⟨rfl,rfl,by simp,?_⟩,by simp⟩
     obtain ⟨cs,_,hg,ae⟩:=h0.objs t _ V
     have M:(leaves y).all known=true:=by
      unfold kS at u
      cases hf:fitAll T.lv (leaves y) with
      | true=>exact gJ hf
      | false=>rw [hf] at u;cases u
     have ap:leaves y=ls∨(T.agg=false/\ls=[y]):=by
      unfold whole at hw
      obtain ⟨_,hw⟩:=lJ hw
      cases m:T.agg with
      | true=>rw [m,cond_true] at hw;cases hw;exact .inl rfl
      | false =>
       rw [m,cond_false] at hw
       split at hw
       ·cases hw;exact .inr ⟨rfl,rfl⟩
       ·cases hw
     have W:T.agg=false->leaves y=[y]:=fun m=>by
      unfold kS at u
      obtain ⟨_,u⟩:=lJ u
      rw [m,cond_false] at u
      cases y <;> first|rfl|cases u
     have N:leaves y=ls:=ap.elim id fun ⟨h1,h2⟩=>by rw [W h1,h2]
     rw [N] at M
     have X:PW (SL (bG E s0 w f Rt0 Ra0)) ls cs.toList:=PW.imp_mem (fun z hz v hv=>jJ (List.all_eq_true.mp M z hz) hv) ae
     have Y:∃ v:Value,v.cells=cs/\S1 (bG E s0 w f Rt0 Ra0) y v:=by
      obtain ⟨_,h⟩:=iG hw X
      rcases h with ⟨_,h⟩|⟨m,v,e,h⟩
      ·exact ⟨.agg cs,rfl,by simpa using h⟩
      ·refine ⟨v,?_,h⟩
       have hy:known y=true:=by
        have:=W m
        rw [<- N,this] at M
        simpa using M
       have ar:v.cells.toList=[v]:=by
        have h2:SL (bG E s0 w f Rt0 Ra0) y v:=by
         cases y <;> first|exact h|cases hy
        rw [qW (kr hy h2)]
       apply Array.ext'
       rw [ar,e]
     obtain ⟨v,hv,ax⟩:=Y
     obtain ⟨_,ad⟩:=lK (c:=bG E s0 w f Rt0 Ra0) h0.sub u (dy ax)
     refine ⟨T,⟨(f t).b,0,none⟩,by show E.T _=_;rw [hE];exact hT,rfl,fun j k hk => ?_⟩
     rw [Nat.zero_add] at hk
     have hlen:T.lv.length=cs.size:=by
      unfold kS at u
      obtain ⟨hf,_⟩:=lJ u
      rw [(gQ hf).len,N,X.len];simp
     have hj:j<cs.size:=by rw [<- hlen];exact (List.getElem?_eq_some_iff.mp hk).1
     refine ⟨cs[j],U _ V _ (by simp [ci]),?_,?_⟩
     ·show World.cell? w _=_
      rw [add_plain,cell_of_row w _ _ cs _ (0,0) hg]
      simp [hj]
     ·rw [Nat.zero_add]
      refine (ad j k hk cs[j] (by rw [hv];simp [hj])).mono (fun b hb => ?_) (fun _ _=>rfl)
      show Ra' b
      refine O b ?_
      unfold Cx.Q at hb
      split at hb
      ·exact h0.sub b hb
      ·exact hb
    ·cases A
   ·cases A
  ·cases A
 ·cases A
theorem yR (c:Cx):∀ (f:List Nat),(∀ t∈f,c.D t)->PW (S2 c) (f.map fun t => .ptr t 0) (f.map fun t=>Value.pointer (some ⟨(c.β t).b,0,none⟩))
 | [],_=>trivial
 | t::f,h=>⟨⟨h t (by simp),rfl⟩,yR c f fun u hu=>h u (by simp [hu])⟩
theorem BJ {q:Bool} (V:dY C tab E) (X:∀ g,bM P C.ty tab g (C.call g)) (h:Rel E s a w β Rt Ra) {c:Call} {f:Operand} (N:o.op = .call c) (Y:c.callee = .value f) {g:Nat} (j:ya C q s o.dst f g c.args.toList κ = some r):eB P E o a w κ r:=by
  unfold ya at j
  cases q with
  | true=>cases j
  | false =>
   simp only [cond_false] at j
   obtain ⟨ad,Rt0,Ra0,z⟩:=uK (kE C s g c.args.toList) h
   have u:=b9 z f
   split at j
   ·rename_i A t' M
    rw [M] at u
    obtain ⟨hd,W⟩:_/\a.eval f=_:=u
    cases m:Nat.beq A g with
    | false=>rw [m] at j;cases j
    | true =>
     rw [m,cond_true] at j
     obtain rfl:A=g:=Nat.eq_of_beq_eq_true m
     cases O:C.wO A with
     | false =>
      rw [O,cond_false] at j
      refine wS V X z (nr N Y W) ?_ j
      rw [Array.toList_append,Array.toList_map]
      exact PW.append (ju z c.args.toList) ⟨⟨hd,rfl⟩,trivial⟩
     | true =>
      rw [O,cond_true] at j
      obtain ⟨U,j⟩:=kQ j
      split at j
      ·rename_i x hx
       obtain ⟨h1,h2⟩:=vR V.T z hx (Ra':=fun b=>_∨∃ t o,(fZ (kE C s A c.args.toList) s).obj t=some o/\t ∉ iH (fZ (kE C s A c.args.toList) s) (c.args.toList.map (ev (fZ (kE C s A c.args.toList) s)))/\b∈ci (ad t) o) (fun b m => .inl m) (fun o N b m => .inr ⟨t',o,N,fun ae=>by
        rw [List.any_eq_false] at U
        exact U t' ae (Nat.beq_refl t'),m⟩)
       refine wT (ex:=[x]) (exv:=[.pointer (some ⟨_,0,none⟩)]) (bx:=[]) V X z List.nodup_nil (by simp) (by rw [Array.toList_append,Array.toList_map];rfl) (nr N Y W) (ju z c.args.toList) ⟨[],[],rfl,h1,rfl⟩ (by simpa using h2) j
      ·cases j
   ·rename_i A ts M
    rw [M] at u
    obtain ⟨hd,W⟩:_/\a.eval f=_:=u
    obtain ⟨m,j⟩:=lJ j
    simp only [Bool.and_eq_true] at m
    obtain rfl:A=g:=Nat.eq_of_beq_eq_true m.1
    refine wS V X z (nr N Y W) ?_ j
    rw [Array.toList_append,Array.toList_map]
    exact PW.append (ju z c.args.toList) (yR _ ts hd)
   ·cases j
theorem wR {q:Bool} (z:dY C tab E) (A:∀ g,bM P C.ty tab g (C.call g)) (h:Rel E s a w β Rt Ra) {c:Call} {f:Operand} (M:o.op = .call c) (N:c.callee = .value f) {g:Nat} (j:a.eval f = .func (.func g) #[] #[])
  (m:ir C q s o.dst g c.args.toList κ = some r):eB P E o a w κ r:=by
 unfold ir at m
 obtain ⟨O,Rt0,Ra0,u⟩:=uK (kE C s g c.args.toList) h
 exact wS z A u (p7 M N j) (by rw [Array.toList_map];exact ju u c.args.toList) m
theorem Fg (V:dY C tab E) (W:∀ g,bM P C.ty tab g (C.call g)) (h:Rel E s a w β Rt Ra) {c:Call} {f:Operand} (X:o.op = .call c) (Y:c.callee = .value f) {g:Nat} (u:a.eval f = .func (.func g) #[] #[])
  (m:Bd C s o.dst g c.args.toList κ = some r):eB P E o a w κ r:=by
 unfold Bd at m
 split at m
 ·rename_i y rr A
  have z:c.args.toList=rr.reverse++[y]:=by
   have:=congrArg List.reverse A
   simpa using this
  split at m
  ·rename_i t ht
   split at m
   ·rename_i e l st j
    have h1:Rel E (fC [t] s) a w β Rt Ra:=nc _ h
    have hy:S2 (bG E s w β Rt Ra) (.own t) (a.eval y):=ht▸b9 h y
    have M:=nD (Ra':=fun b=>Ra b∨∃ N o',(fC [t] s).obj N=some o'/\N ∉ iH (fC [t] s) (rr.reverse.map (ev (fC [t] s)))/\b∈ci (β N) o') h (fun b U => .inl U) (b:=0) (x := .own t) (y := .fr e l st) hy
     (by simp only [lU,j])
    have ad:(owns [SV.own t]).flatMap (tb s β)=ci (β t) (.row e l st):=by
     simp only [owns,List.flatMap_cons,List.flatMap_nil,List.append_nil,tb,j]
    rw [ad] at M
    refine wT (ex:=[.fr e l st]) (exv:=[a.eval y]) (bx:=ci (β t) (.row e l st)) V W h1 ?_ (fun b U => ?_) (by rw [Array.toList_map,z,List.map_append];rfl) (p7 X Y u) (ju h1 rr.reverse) ⟨_,[],(List.append_nil _).symm,M,rfl⟩ (by simp) m
    ·have:=kz h.toRelO (l:=[t]) (by simp)
     simpa [tb,j] using this
    ·obtain ⟨g1,g2,g3⟩:=h.c9 t _ j b U
     refine ⟨g1,g2,g3,fun N o' ae O => ?_⟩
     obtain ⟨hn,o2,ap,e2⟩:=na _ ae
     rw [e2] at O
     exact h.apart t _ N o2 j ap (fun e=>hn (by simp [e])) b U O
   ·cases m
  ·exact wR V W h X Y u m
 ·exact wR V W h X Y u m
theorem zM {q:Bool} (A:dY C tab E) (M:∀ g,bM P C.ty tab g (C.call g)) (h:Rel E s a w β Rt Ra) {c:Call} {f:Operand} (m:o.op = .call c) (u:c.callee = .value f) (j:eF C q o s κ = some r):eB P E o a w κ r:=by
 unfold eF at j;rw [m] at j;simp only [u] at j
 have N:=b9 h f
 split at j
 ·rename_i g O
  rw [O] at N
  have z:a.eval f = .func (.func g) #[] #[]:=N
  cases hm:C.mv g with
  | true =>
   rw [hm,cond_true] at j
   exact Fg A M h m u z (kQ j).2
  | false =>
   rw [hm,cond_false] at j
   exact wR A M h m u z j
 ·exact BJ A M h m u j
 ·exact BJ A M h m u j
 ·cases j
end
end Go.Proofs.Ab
namespace Go.Proofs.Ab
open Go
variable {R:Type}
section
variable {P:Program} {E:Env} {o:Oper} {s:St} {a:Act} {w:World} {β : Nat->Bl} {Rt Ra:Nat->Prop} {κ : St->Option R} {r:R} {C:Cfg R}
theorem rP {t:Nat} {k e:LK} (h:Cc C t=some (k,e)):∃ T K V j m,C.ty t=some T/\T.agg=false/\T.lv=[.mp j m]/\C.ty j=some K/\C.ty m=some V/\K.agg=false/\V.agg=false/\K.lv=[k]/\V.lv=[e]/\k.flat=true/\e.flat=true:=by
 unfold Cc at h
 split at h
 ·rename_i T M
  obtain ⟨u,h⟩:=kQ h
  split at h
  ·rename_i j m z
   split at h
   ·rename_i K V N O
    obtain ⟨f,h⟩:=kQ h
    simp only [Bool.or_eq_false_iff] at f
    split at h
    ·rename_i W X U he
     obtain ⟨A,h⟩:=lJ h
     simp only [Bool.and_eq_true] at A
     cases h
     exact ⟨T,K,V,j,m,M,u,z,N,O,f.1,f.2,U,he,A.1,A.2⟩
    ·cases h
   ·cases h
  ·cases h
 ·cases h
theorem bytes_beq (x y:ByteArray):(x == y)=decide (x=y):=by
 obtain ⟨x⟩:=x
 obtain ⟨y⟩:=y
 show (x == y)=_
 rw [Bool.eq_iff_iff]
 simp
def iR:LK->TypeDesc
 | .int k => .int k
 | .bool => .bool
 | _ => .string
theorem zc (f:Ok P C.ty) {t:Nat} {T:TI} {k:LK} (m:C.ty t=some T) (u:T.agg=false) (z:T.lv=[k]) (A:k.flat=true) (M:∀ j e,k ≠ .mp j e):P.underlying t=some (iR k):=by
 cases k <;> first|(cases A;done)|skip
 ·exact (f.ty t T m).int _ u z
 ·exact (f.ty t T m).bool u z
 ·exact (f.ty t T m).str u z
theorem yj {k:LK} (f:k.flat=true):∀ j e,k ≠ .mp j e:=fun j e h=>by subst h;cases f
theorem AW {c:Cx} {k:LK} (j:k.flat=true) {x:SV} {v:Value} (f:fits k x=true) (h:S2 c x v):FV k v (dC x):=by
 cases k <;> cases x <;> simp only [fits] at f <;> first|(cases f;done)|(cases j;done)|skip
 ·simp only [decide_eq_true_eq] at f;subst f;exact h
 ·exact h
 ·exact h
theorem AU {c:Cx} {k:LK} (f:k.flat=true) {v:Value} {a:AV} (h:FV k v a):S2 c (eta true k a) v:=by
 cases k <;> first|(cases f;done)|exact h
theorem C8 {k:LK} (f:k.flat=true) {v:Value} (h:zeroV k v):FV k v .no:=by
 cases k <;> first|(cases f;done)|exact h
theorem D3 {k:LK} (m:k.flat=true) {v u:Value} {x y:AV} (f:FV k v x) (j:FV k u y):Instr.sameNow (iR k) v u=some (oh k x y)/\(oh k x y=true->Instr.sameBits 10000 u v=true):=by
 cases k <;> first|(cases m;done)|skip
 ·have f:v=_:=f;have j:u=_:=j
  subst f;subst j
  refine ⟨?_,fun h => ?_⟩
  ·simp only [Instr.sameNow,iR,oh,if_true,Option.some.injEq]
   rw [Bool.eq_iff_iff];simp
  ·simp only [oh,decide_eq_true_eq] at h
   simp [Instr.sameBits,h]
 ·have f:v=_:=f;have j:u=_:=j
  subst f;subst j
  refine ⟨by simp [Instr.sameNow,iR,oh],fun h => ?_⟩
  simp only [oh,beq_iff_eq] at h
  simp [Instr.sameBits,h]
 ·have f:v=_:=f;have j:u=_:=j
  subst f;subst j
  refine ⟨?_,fun h => ?_⟩
  ·simp only [Instr.sameNow,iR,oh,bytes_beq]
  ·simp only [oh,decide_eq_true_eq] at h
   simp [Instr.sameBits,h,bytes_beq]
abbrev EV (k e:LK) (a:AV) (f:MapEntry):Prop:=FV k f.key (a.fld 0)/\FV e f.val (a.fld 1)
theorem kW {k e:LK} (X:k.flat=true) {v:Value} {x:AV} (A:FV k v x):∀ {l:List AV} {es:List MapEntry} (i:Nat),PW (EV k e) l es ->
  (Instr.findNow (iR k) v es i=some none/\iA k x l=none/\∀ z,gz k x z l=l++[.agg [x,z]]) ∨
  ∃ j u f a,Instr.findNow (iR k) v es i=some (some (i+j,u))/\iA k x l=some a/\FV e u a/\es[j]? = some f/\Instr.sameBits 10000 f.key v=true /\
   ∀ z m,FV e m z->PW (EV k e) (gz k x z l) (es.modify j fun f=>{ f with key:=v,val:=m })
 | [],[],i,_ => .inl ⟨rfl,rfl,fun _=>rfl⟩
 | y::l,f::es,i,h=>by
  obtain ⟨M,Y⟩:=D3 X A h.1.1
  cases hm:oh k x (y.fld 0) with
  | true =>
   refine .inr ⟨0,f.val,f,y.fld 1,?_,?_,h.1.2,rfl,Y hm,fun z m N => ?_⟩
   ·simp only [Instr.findNow,M,hm,Nat.add_zero]
   ·simp only [iA,hm,cond_true]
   ·simp only [gz,hm,cond_true,List.modify_zero_cons]
    exact ⟨⟨A,N⟩,h.2⟩
  | false =>
   rcases kW X A (i+1) h.2 with ⟨O,U,V⟩|⟨j,u,W,a,O,U,V,h4,h5,h6⟩
   ·refine .inl ⟨?_,?_,fun z => ?_⟩
    ·simp only [Instr.findNow,M,hm,O]
    ·simp only [iA,hm,cond_false,U]
    ·simp only [gz,hm,cond_false,V,List.cons_append]
   ·refine .inr ⟨j+1,u,W,a,?_,?_,V,by simpa using h4,h5,fun z m N => ?_⟩
    ·simp only [Instr.findNow,M,hm,O];congr 3;omega
    ·simp only [iA,hm,cond_false,U]
    ·simp only [gz,hm,cond_false,List.modify_succ_cons]
     exact ⟨h.1,h6 z m N⟩
 | [],_::_,_,h=>h.elim
 | _::_,[],_,h=>h.elim
theorem run_checkKey {k:LK} {j:Nat} (m:k.flat=true) (hu:P.underlying j=some (iR k)) {v:Value} {x:AV} (f:FV k v x) (b:Bool) (w:World):(Instr.checkKey b 10000 j v).run P w = .ok () w:=by
 show (Instr.checkKey b (9999+1) j v).run P w=_
 unfold Instr.checkKey
 simp only [Sem.run_bind,run_underlying hu,Result.andThen_ok]
 cases k <;> first|(cases m;done)|skip
 ·have f:v=_:=f
  subst f;simp [iR]
 ·have f:v=_:=f
  subst f;simp [iR]
 ·have f:v=_:=f
  subst f;simp [iR]
theorem run_findKey {k:LK} {f:Nat} (hu:P.underlying f=some (iR k)) {v:Value} {es:List MapEntry} {z:Option (Nat × Value)} (h:Instr.findNow (iR k) v es 0=some z) (w:World):(Instr.findKey f v es).run P w = .ok z w:=by
 unfold Instr.findKey
 simp only [Sem.run_bind,run_underlying hu,Result.andThen_ok,h,Sem.run_pure]
theorem tq {q:Bool} (M:Ok P C.ty) (h:Rel E s a w β Rt Ra) {t:Nat} (j:o.op = .makeMap t none) (f:eF C q o s κ = some r):eB P E o a w κ r:=by
 unfold eF at f;rw [j] at f;simp only at f
 obtain ⟨_,f⟩:=kQ f
 split at f
 ·rename_i k e hm
  intro next Q u
  have z:=fM w (.map #[] 0)
  refine eD (v := .map (some w.heap.size)) (w':=w.alloc (.map #[] 0)) ?_ (u _ _ _ f ?_)
  ·unfold execOp;rw [j]
   simp [Instr.makeMap]
  ·have A:=h.new z (.mp k e []) ⟨undef,w.heap.size,0,false⟩ (fun b m=>by simp [ci] at m;subst m;simp) (fun _=>⟨#[],0,heap_alloc_new w _,trivial⟩)
   refine ⟨_,_,_,A.put o.dst (x := .mp s.next) (dy (dO ⟨⟨_,by rw [fF,if_pos rfl]⟩,?_⟩))⟩
   show _=Value.map (some (fc β s.next ⟨undef,w.heap.size,0,false⟩ s.next).b)
   unfold fc;rw [if_pos rfl]
 ·cases f
theorem CI {t:Nat} {T:TI} {k:LK} (u:TyOk P t T) (A:T.agg=false) (M:T.lv=[k]) (w:World):∃ z,(zeroValue t).run P w = .ok z w/\zeroV k z:=by
 obtain ⟨i,z,N,_,_,O,f,j⟩:=u.info
 have m:∀ cs,z ≠ .agg cs:=fun cs e=>by
  have:=j.1 ⟨cs,e⟩;rw [A] at this;cases this
 refine ⟨z,?_,?_⟩
 ·unfold zeroValue
  simp [typeInfo,N,O,Sem.run]
 ·rw [M] at f
  have:z.cells.toList=[z]:=by cases z <;> first|rfl|exact absurd rfl (m _)
  rw [this] at f;exact f.1
theorem uR {q:Bool} (hP:Ok P C.ty) (h:Rel E s a w β Rt Ra) {t:Nat} {x i:Operand} {ok:Bool} (ho:o.op = .lookup t x i ok) (M:eF C q o s κ = some r):eB P E o a w κ r:=by
 unfold eF at M;rw [ho] at M;simp only at M
 have hx:=b9 h x
 have hi:=b9 h i
 split at M
 ·rename_i k e m hm ex
  rw [ex] at hx
  obtain ⟨hd,W⟩:_/\a.eval x = .map (some (β m).b):=hx
  obtain ⟨T,K,V,kt,et,hT,ap,ar,hK,hV,ax,a1,a6,a7,A,N⟩:=rP hm
  split at M
  ·rename_i k' e' l a8
   obtain ⟨hc,O⟩:=lJ M
   clear M
   simp only [Bool.and_eq_true,decide_eq_true_eq] at hc
   obtain ⟨⟨rfl,rfl⟩,X⟩:=hc
   obtain ⟨es,cl,hg,bb⟩:∃ es clock,w.heap[(β m).b]? = some (.map es clock)/\PW (EV k e) l es.toList:=h.objs m _ a8
   have Y:=AW A X hi
   have hu:=zc hP hK ax a6 A (yj A)
   have ad:P.underlying t=some (.map kt et):=(hP.ty t T hT).map _ _ ap ar
   have ae:=run_checkKey A hu Y es.isEmpty w
   obtain ⟨z,hz,be⟩:=CI (hP.ty et V hV) a1 a7 w
   have main:∃ v b,(Instr.lookup t (a.eval x) (a.eval i) ok).run P w = .ok (if ok then .tuple #[v,.bool b] else v) w/\FV e v (iB k (dC (ev s i)) l)/\b=rS k (dC (ev s i)) l:=by
    rcases kW A Y 0 bb with ⟨h1,h2,_⟩|⟨j,u,en,y,h1,h2,h3,_⟩
    ·refine ⟨z,false,?_,?_,?_⟩
     ·unfold Instr.lookup
      rw [W]
      simp [run_underlying ad,getObj,Sem.run,hg,ae,run_findKey hu h1,hz]
     ·unfold iB;rw [h2];exact C8 N be
     ·unfold rS;rw [h2];rfl
    ·refine ⟨u,true,?_,?_,?_⟩
     ·unfold Instr.lookup
      rw [W]
      simp [run_underlying ad,getObj,Sem.run,hg,ae,run_findKey hu h1]
     ·unfold iB;rw [h2];exact h3
     ·unfold rS;rw [h2];rfl
   obtain ⟨v,b,f,U,rfl⟩:=main
   cases ok with
   | true =>
    rw [cond_true] at O
    refine eG h (x := .tup [eta true e (iB k (dC (ev s i)) l),.bool (rS k (dC (ev s i)) l)]) (v := .tuple #[v,.bool (rS k (dC (ev s i)) l)]) ⟨_,rfl,⟨?_,rfl,trivial⟩⟩ ?_ O
    ·have:=AU (c:=bG E s w β Rt Ra) N U
     revert this
     cases e <;> first|(cases N;done)|exact id
    ·unfold execOp;rw [ho];simp only [Bool.false_eq_true,if_true,if_false] at f;simp [f]
   | false =>
    rw [cond_false] at O
    refine eG h (x:=eta true e _) (v:=v) (AU N U) ?_ O
    unfold execOp;rw [ho];simp only [Bool.false_eq_true,if_true,if_false] at f;simp [f]
  ·cases M
 ·cases M
theorem ph {q:Bool} (hP:Ok P C.ty) (h:Rel E s a w β Rt Ra) {t:Nat} {x i v:Operand} (ho:o.op = .mapUpdate t x i v) (f:eF C q o s κ = some r):eB P E o a w κ r:=by
 unfold eF at f;rw [ho] at f;simp only at f
 obtain ⟨_,f⟩:=kQ f
 have hx:=b9 h x
 have hi:=b9 h i
 have hv:=b9 h v
 split at f
 ·rename_i k e m hm ex
  rw [ex] at hx
  obtain ⟨hd,X⟩:_/\a.eval x = .map (some (β m).b):=hx
  obtain ⟨T,K,V,kt,et,hT,a7,a8,hK,hV,bb,bP,be,bS,A,bk⟩:=rP hm
  split at f
  ·rename_i k' e' l Y
   obtain ⟨hc,bs⟩:=lJ f
   clear f
   simp only [Bool.and_eq_true,decide_eq_true_eq] at hc
   obtain ⟨⟨rfl,rfl⟩,ad,U⟩:=hc
   obtain ⟨es,cl,hg,ae⟩:∃ es clock,w.heap[(β m).b]? = some (.map es clock)/\PW (EV k e) l es.toList:=h.objs m _ Y
   have W:=AW A ad hi
   have O:=AW bk U hv
   have hu:=zc hP hK bb be A (yj A)
   have ap:P.underlying t=some (.map kt et):=(hP.ty t T hT).map _ _ a7 a8
   have ar:=run_checkKey A hu W false w
   have main:∃ M N,(Instr.mapUpdate t (a.eval x) (a.eval i) (a.eval v)).run P w = .ok () { w with heap:=w.heap.setIfInBounds (β m).b (.map M N) }/\PW (EV k e) (gz k (dC (ev s i)) (dC (ev s v)) l) M.toList:=by
    rcases kW A W 0 ae with ⟨h1,h2,h3⟩|⟨j,u,en,y,h1,h2,h3,h4,h5,h6⟩
    ·refine ⟨es.push { key:=a.eval i,val:=a.eval v,born:=cl },cl+1,?_,?_⟩
     ·unfold Instr.mapUpdate
      rw [X]
      simp [run_underlying ap,getObj,setObj,Sem.run,hg,ar,run_findKey hu h1]
     ·rw [h3]
      simpa using PW.append (l':=[.agg [dC (ev s i),dC (ev s v)]]) (m':=[{ key:=a.eval i,val:=a.eval v,born:=cl }]) ae ⟨⟨W,O⟩,trivial⟩
    ·have bx:es[j]? = some en:=by simpa using h4
     refine ⟨es.modify j fun en=>{ en with key:=a.eval i,val:=a.eval v },cl,?_,?_⟩
     ·unfold Instr.mapUpdate
      rw [X]
      simp [run_underlying ap,getObj,setObj,Sem.run,hg,ar,run_findKey hu h1,Instr.keyThatStays,bx,h5]
     ·rw [Array.toList_modify]
      exact h6 _ _ O
   obtain ⟨M,N,ax,a1⟩:=main
   intro next Q hn
   let w':World:={ w with heap:=w.heap.setIfInBounds (β m).b (.map M N) }
   refine wp_skip (v:=undef) rfl (w':=w') ?_ (hn _ _ _ bs ?_)
   ·unfold execOp;rw [ho]
    simp [ax,w']
   ·have a6:(β m).b<w.heap.size:=(Array.getElem?_eq_some_iff.mp hg).1
    have h2:=h.iq (w':=w') Y (.mp k e (gz k (dC (ev s i)) (dC (ev s v)) l)) ⟨rfl,rfl,rfl,by simp [w'],fun z _ hz=>by
     have:(β m).b≠z:=fun e=>hz (by simp [ci,e])
     simp [w',Array.getElem?_setIfInBounds,this]⟩ (fun z hz=>hz) (fun _=>⟨M,N,by
     show w'.heap[(β m).b]? = _
     simp [w',Array.getElem?_setIfInBounds,a6],a1⟩)
    exact ⟨_,_,_,h2.put o.dst (x := .undef) (dy (dO rfl))⟩
  ·cases f
 ·cases f
end
end Go.Proofs.Ab
namespace Go.Proofs.Ab
open Go
variable {R:Type}
theorem bY {α : Type} {b:Bool} {k:Option α} {r : α} (h:(bif b then k else none)=some r):b=true/\k=some r:=by
 cases b
 ·cases h
 ·exact ⟨rfl,h⟩
theorem fH {α : Type} {b:Bool} {k:Option α} {r : α} (h:(bif b then none else k)=some r):b=false/\k=some r:=by
 cases b
 ·exact ⟨rfl,h⟩
 ·cases h
theorem zI (w:World) (g n:Nat):Fr (fun b=>b=g) w (w.freeze ⟨g,0,none⟩ n):=by
 unfold World.freeze
 split
 ·exact Fr.refl _ w
 ·refine ⟨rfl,rfl,rfl,by simp,fun b _ f => ?_⟩
  simp only [Array.getElem?_modify]
  rw [if_neg (fun e=>f e.symm)]
section
variable {P:Program} {E:Env} {o:Oper} {s:St} {a:Act} {w:World} {β : Nat->Bl} {Rt Ra:Nat->Prop} {κ : St->Option R} {r:R} {C:Cfg R} {tab:bZ}
theorem uX {t:Nat} {T:TI} (f:Ok P C.ty) (j:C.ty t=some T) (h:yx T=true):P.underlying t=some (.pointer T.elem):=by
 simp only [yx,Bool.and_eq_true,Bool.not_eq_true',decide_eq_true_eq] at h
 exact (f.ty t T j).ptr h.1.1 h.1.2 fun e=>by rw [e] at h;simp at h
theorem pi {q:Bool} (hP:Ok P C.ty) (h:Rel E s a w β Rt Ra) {c:Call} (ho:o.op = .call c) (hb:c.callee = .builtin .unsafeSliceData) {x:Operand} (hx:c.args.toList=[x]) (m:dR C q s o.dst .unsafeSliceData c.args.toList c.argTypes.toList o.type κ = some r):eB P E o a w κ r:=by
 rw [hx] at m;unfold dR at m;simp only at m
 have X:=b9 h x
 have z:∀ (v u:Value) (w':World),a.eval x=v->(Builtin.unsafeSliceData_ c.argTypes o.type #[v]).run P w = .ok u w'->(execOp a.eval o).run P w = .ok (.value u) w':=by
  intro v u w' e Y
  rw [fP ho hb,uo hx]
  simp only [builtin,List.map_toArray,List.map_cons,List.map_nil,e,Sem.run_bind,Y];rfl
 unfold ic at m
 split at m
 ·rename_i e;rw [e] at X
  have ex:a.eval x = .slice none 0 0:=X
  exact cf h (x := .nilp) (v := .pointer none) rfl (z _ _ _ ex (Lib.run_unsafeSliceData_nil w c.argTypes o.type 0 0)) m
 ·rename_i t e
  rw [e] at X
  obtain ⟨hd,hv,_,A⟩:_/\a.eval x=_/\_/\(β t).arr=false:=X
  split at m
  ·rename_i el l st T ad hT
   obtain ⟨hp,m⟩:=bY m
   obtain ⟨D,cs,hD,a7,U,a8⟩:=h.objs t _ ad
   have N:a.eval x=(β t).v:=hv
   obtain ⟨_,ae⟩:=U
   rcases ae with ⟨j,hn⟩|⟨g,cap,ap,q',fz,j,ar,hg,bb,be,bk,_⟩
   ·refine cf h (x := .sdp t) (v := .pointer none) ⟨hd,none,rfl,fun g n cap M => ?_,A⟩ (z _ _ _ (N.trans j) (Lib.run_unsafeSliceData_nil w c.argTypes o.type 0 0)) m
    have f:(β t).v=_:=M
    rw [j] at f;cases f
   ·by_cases V:cap=0
    ·subst V
     have ax:q'=el:=ar A
     have a1:w.shape? g=some (el,ap.size):=by
      have a6:w.heap[g]? = _:=hg
      unfold World.shape?;rw [a6,ax]
     have Y:=Lib.run_unsafeSliceData_zero (P:=P) w c.argTypes o.type T.elem (uX hP hT hp) ⟨g,0,none⟩ l.length _ a1
     intro next Q O
     refine eD (z _ _ _ (N.trans j) Y) (O _ _ _ m ⟨β,Rt,Ra,(h.jD (fM w _)).put o.dst (dy (dO ⟨hd,_,rfl,fun g' n W M hn => ?_,A⟩))⟩)
     have f:(β t).v=_:=M
     rw [j] at f;cases f;omega
    ·refine cf h (x := .sdp t) (v := .pointer (some ⟨g,0,none⟩)) ⟨hd,_,rfl,fun g' n W M _ => ?_,A⟩ (z _ _ _ (N.trans j) (Lib.run_unsafeSliceData_row w c.argTypes o.type _ _ _ V)) m
     have f:(β t).v=_:=M
     rw [j] at f;cases f;rfl
  ·cases m
 ·cases m
theorem byte_back {n:Int} (h:(decide (0<=n)&&decide (n<256))=true):((UInt8.ofNat n.toNat).toNat:Int)=n:=by
 simp only [Bool.and_eq_true,decide_eq_true_eq] at h
 have:(UInt8.ofNat n.toNat).toNat=n.toNat % 256:=by simp
 rw [this];omega
theorem lV {q:Bool} (hP:Ok P C.ty) (hE:E.T=C.ty) (h:Rel E s a w β Rt Ra) {c:Call} (ho:o.op = .call c) (hb:c.callee = .builtin .unsafeString) {x y:Operand} (hx:c.args.toList=[x,y]) (f:dR C q s o.dst .unsafeString c.args.toList c.argTypes.toList o.type κ = some r):eB P E o a w κ r:=by
 rw [hx] at f;unfold dR at f;simp only at f
 have hc:=b9 h x
 have M:=b9 h y
 unfold ub at f
 split at f
 ·rename_i pt it b1
  have b2:c.argTypes = #[pt,it]:=by apply Array.ext';simpa using b1
  have N:∀ (v v2 u:Value) (w':World),a.eval x=v->a.eval y=v2->(Builtin.unsafeString_ #[pt,it] o.type #[v,v2]).run P w = .ok u w'->(execOp a.eval o).run P w = .ok (.value u) w':=by
   intro v v2 u w' e e2 hr
   rw [fP ho hb,lB hx,b2]
   simp only [builtin,List.map_toArray,List.map_cons,List.map_nil,e,e2,Sem.run_bind,hr];rfl
  split at f
  ·rename_i k n e1 e2
   rw [e1] at hc;rw [e2] at M
   obtain ⟨O,f⟩:=bY f
   obtain ⟨hn,f⟩:=cX f
   simp only [decide_eq_true_eq] at O hn
   subst O;subst hn
   exact cf h (x := .str ⟨#[]⟩) (v := .string .empty) rfl (N _ _ _ _ (show a.eval x = .pointer none from hc) (e9 M) (Lib.run_unsafeString_none (P:=P) w pt it o.type none)) f
  ·rename_i t k n e1 e2
   rw [e1] at hc;rw [e2] at M
   obtain ⟨O,f⟩:=bY f
   simp only [decide_eq_true_eq] at O
   subst O
   split at f
   ·rename_i el l st U
    split at f
    ·rename_i B T hB hT
     obtain ⟨_,b3⟩:=bY f
     obtain ⟨V,b4⟩:=bY b3
     simp only [Bool.and_eq_true] at V
     obtain ⟨ad,b5,a1⟩:=V
     obtain ⟨hn,b'⟩:=cX b4
     obtain ⟨be,bk⟩:=cX b'
     replace hn:=of_decide_eq_true hn
     subst hn
     have a1:=Nat.eq_of_beq_eq_true a1
     simp only [isByte,Bool.and_eq_true,Bool.not_eq_true',decide_eq_true_eq] at ad
     obtain ⟨hd,p,hp,ca,bs⟩:_/\∃ p,a.eval x = .pointer p/\_/\(β t).arr=false:=hc
     obtain ⟨D,cs,hD,ei,ax,cl⟩:=h.objs t _ U
     have cp:D=B:=by have h':E.T el=some D:=hD;rw [hE,hB] at h';cases h';rfl
     subst cp
     have A:D.sz=1:=by unfold TI.sz;rw [ad.2];rfl
     have hh:=h.hole t
     by_cases hl:l=[]
     ·subst hl
      exact fun next Q m=>eD (N _ _ _ _ hp (e9 M) (Lib.run_unsafeString_none (P:=P) w pt it o.type p)) (m _ _ _ bk ⟨β,Rt,Ra,hh.put o.dst (dy (dO (x := .str (fE [])) (v := .string .empty) rfl))⟩)
     ·have W:=ax
      obtain ⟨hlen,ct⟩:=ax
      rcases ct with ⟨_,hn⟩|⟨g,cap,bx,q',fz,a6,c0,hg,ek,en,ep,c',_⟩
      ·exact absurd (List.eq_nil_of_length_eq_zero hn) hl
      ·have bP:(β t).v=_:=a6
       have dg:=ca g l.length cap a6 (by intro e;exact hl (List.eq_nil_of_length_eq_zero e))
       subst dg
       have dr:q'=el:=c0 bs
       have d':w.shape? g=some (el,bx.size):=by
        have ea:w.heap[g]? = _:=hg
        unfold World.shape?;rw [ea,dr]
       let lb:List UInt8:=l.map fun a=>UInt8.ofNat a.i.toNat
       have ae:lb.length=l.length:=List.length_map ..
       have ap:P.cellsOf el=1:=by
        obtain ⟨i,z,hi,hs,_⟩:=(hP.ty el D hB).info
        unfold Program.cellsOf;rw [hi];simp [hs,A]
       have hr:=Lib.run_unsafeString_row (P:=P) w pt it o.type el (by rw [<- a1];exact uX hP hT b5) ap g bx.size d' lb (by simpa [lb] using hl) (by rw [ae,c',A];omega) (by rw [ae];have:maxLen=9223372036854775807:=rfl;omega) (fun j x hj=>by
        have X:j<l.length:=by rw [<- ae];exact (List.getElem?_eq_some_iff.1 hj).1
        rw [a6] at W
        have eb:∃ v,cs[j]? = some v:=⟨_,List.getElem?_eq_getElem (by rw [hlen,A];omega)⟩
        obtain ⟨v,hv⟩:=eb
        have bS:=cl j 0 (.int .u8) X (by rw [ad.2];rfl) v (by rw [A];simpa using hv)
        have bV:v = .int .u8 (lf D.agg (l.getD j .no) 0).i:=by cases bS;rfl
        rw [ad.1] at bV
        rw [add_plain,Nat.zero_add]
        have a7:=gf W j v hv
        have ar:w.cell? ⟨g,j,none⟩=some v:=a7
        rw [ar,bV]
        have hx:x=UInt8.ofNat (l.getD j .no).i.toNat:=by
         have a8:(l.map fun a=>UInt8.ofNat a.i.toNat)[j]? = some x:=hj
         rw [List.getElem?_map] at a8
         rw [List.getElem?_eq_getElem X] at a8
         rw [List.getD_eq_getElem?_getD,List.getElem?_eq_getElem X]
         simpa using a8.symm
        rw [hx,byte_back]
        ·rfl
        ·have:=List.all_eq_true.1 be (l[j]) (List.getElem_mem X)
         rw [List.getD_eq_getElem?_getD,List.getElem?_eq_getElem X]
         exact this)
       rw [ae] at hr
       have bb:g∈ci (β t) (.row el l st):=by simp [ci,bP,Value.ownBlock]
       have hw:=hh.world (zI w g l.length) fun b ed=>by
        subst ed
        refine ⟨(h.c9 t _ U b bb).2.1,(h.c9 t _ U b bb).2.2,fun t' o' Y b0 => ?_⟩
        rw [dT] at Y;split at Y
        ·rename_i e;subst e;rw [U] at Y;cases Y;cases b0
        ·rename_i e;exact h.apart t _ t' o' U Y (Ne.symm e) b bb b0
       exact fun next Q m=>eD (N _ _ _ _ hp (e9 M) hr) (m _ _ _ bk ⟨β,Rt,Ra,hw.put o.dst (dy (dO (x := .str (fE l)) (v := .string ⟨lb.toArray⟩) rfl))⟩)
    ·cases f
   ·cases f
  ·cases f
 ·cases f
end
end Go.Proofs.Ab
namespace Go.Proofs.Ab
open Go
variable {R:Type}
theorem foldl_push:∀ (l:List AV) (s:ByteArray),(l.map (·.i)).foldl (fun r n=>r.push (UInt8.ofNat n.toNat)) s=⟨s.data++(l.map fun a=>UInt8.ofNat a.i.toNat).toArray⟩
 | [],s=>by simp
 | a::l,s=>by
  simp only [List.map_cons,List.foldl_cons]
  rw [foldl_push l]
  apply ByteArray.ext
  simp [ByteArray.push]
theorem CM (l:List AV):(l.map (·.i)).foldl (fun r n=>r.push (UInt8.ofNat n.toNat)) ByteArray.empty=fE l:=by
 rw [foldl_push];unfold fE;apply ByteArray.ext;simp [ByteArray.empty,ByteArray.emptyWithCapacity];rfl
theorem m6 {P:Program} {T:Nat->Option TI} (f:Ok P T) {e:Nat} {D:TI} (j:T e=some D) (h:isByte D=true):P.underlying e=some (.int .u8)/\D.agg=false/\D.lv=[.int .u8]/\D.sz=1:=by
 simp only [isByte,Bool.and_eq_true,Bool.not_eq_true',decide_eq_true_eq] at h
 exact ⟨(f.ty e D j).int _ h.1 h.2,h.1,h.2,by unfold TI.sz;rw [h.2];rfl⟩
section
variable {P:Program} {E:Env} {o:Oper} {s:St} {a:Act} {w:World} {β : Nat->Bl} {Rt Ra:Nat->Prop} {κ : St->Option R} {r:R} {C:Cfg R} {tab:bZ}
theorem Cy {T:Nat->Option TI} {w:World} {Q:Nat->Prop} {D:TI} {l:List AV} {cs:List Value} (h:RC T w Q D l cs) (z:cs.length=l.length*D.sz) (A:D.agg=false) (M:D.lv=[.int .u8]) (j:D.sz=1):cs=(l.map (·.i)).map (Value.int .u8):=by
 apply List.ext_getElem?
 intro i
 rw [List.map_map,List.getElem?_map]
 by_cases m:i<l.length
 ·have f:i<cs.length:=by rw [z,j];omega
  rw [List.getElem?_eq_getElem f,List.getElem?_eq_getElem m]
  have u:=h i 0 (.int .u8) m (by rw [M];rfl) cs[i] (by rw [j,Nat.mul_one,Nat.add_zero];exact List.getElem?_eq_getElem f)
  rw [A] at u
  have N:cs[i]=Value.int .u8 (l.getD i .no).i:=by
   generalize cs[i]=v at u
   cases u;rfl
  rw [N,List.getD_eq_getElem?_getD,List.getElem?_eq_getElem m];rfl
 ·rw [List.getElem?_eq_none (by rw [z,j];omega),List.getElem?_eq_none (by omega)];rfl
theorem oV (m:Ok P C.ty) (hE:E.T=C.ty) (h:Rel E s a w β Rt Ra) {f t e:Nat} {F T D:TI} (hF:C.ty f=some F) (hT:C.ty t=some T) (u:T.agg=false) (z:F.sl=true) (A:F.elem=e) (W:C.ty e=some D) (M:isByte D=true) (N:T.lv=[.str])
  {x:SV} {v:Value} (hx:S2 (bG E s w β Rt Ra) x v) (O:∀ b,x ≠ .str b) {l:List AV} {st:Bool} (ht:mG s e D x=some (l,st)):(convert f t v).run P w = .ok (.string (fE l)) w:=by
 obtain ⟨X,b2,b3,Y⟩:=m6 m W M
 obtain ⟨cs,h1,h2,_,h3⟩:=sD hE h W hx O ht
 have U:=(m.ty f F hF).slice z
 rw [A] at U
 have hd:=(m.ty t T hT).str u N
 rcases h3 with ⟨rfl,rfl⟩|⟨ad,c,rfl,hc⟩
 ·rw [run_convert_bytes_string w f t e _ _ _ U X hd];rfl
 ·rw [run_convert_bytes_string w f t e _ _ _ U X hd]
  have V:=Cy h2 h1 b2 b3 Y
  have j:=run_loadCells_list (P:=P) w ad cs hc
  rw [h1,Y,Nat.mul_one,V] at j
  rw [run_bytesToString w ad l.length c (l.map (·.i)) j,CM]
theorem vo {w:World} {g q:Nat} {f:Array Value} {m:Nat × Nat} (u:w.heap[g]? = some (.cells f q m)):(markStringish (⟨g,0,none⟩:Addr)).run P w = .ok () (w.freeze ⟨g,f.size,none⟩ 1):=by
 have j:w.shape? g=some (q,f.size):=by unfold World.shape?;rw [u]
 unfold markStringish
 simp [j]
theorem zJ {w:World} {g q:Nat} {f:Array Value} {j:Nat × Nat} (u:w.heap[g]? = some (.cells f q j)) (m:j=(0,0)∨j=(f.size,f.size+1)):(w.freeze ⟨g,f.size,none⟩ 1).heap[g]? = some (.cells f q (f.size,f.size+1)):=by
 unfold World.freeze
 rw [if_neg (by decide)]
 simp only [Array.getElem?_modify,if_true,u,Option.map_some]
 rcases m with rfl|rfl
 ·simp
 ·simp
theorem zN (X:Ok P C.ty) (hE:E.T=C.ty) (h:Rel E s a w β Rt Ra) {f t:Nat} {x:Operand} (ho:o.op = .convert f t x) {F T:TI} (hF:C.ty f=some F) (hT:C.ty t=some T) (be:F.agg=false) (Y:T.agg=false) (m:qX C s o.dst f t F T (ev s x) κ = some r):eB P E o a w κ r:=by
 have hc:=b9 h x
 have A:∀ (v:Value) (w':World),(convert f t (a.eval x)).run P w = .ok v w'->(execOp a.eval o).run P w = .ok (.value v) w':=by
  intro v w' hr
  unfold execOp;rw [ho]
  simp only [Sem.run_bind,hr];rfl
 unfold qX at m
 split at m
 ·rename_i b e
  rw [e] at hc
  have ex:=jn hc
  obtain ⟨u,m⟩:=bY m
  simp only [Bool.and_eq_true,decide_eq_true_eq] at u
  split at m
  ·rename_i D N
   obtain ⟨ad,m⟩:=bY m
   obtain ⟨b1,b2,b3,b4⟩:=m6 X N ad
   obtain ⟨bk,m⟩:=np m
   have hb:b.size<=140737488355328:=by omega
   have hr:=Lib.run_convert_string_bytes (P:=P) w f t T.elem b ((X.ty f F hF).str be u.2) ((X.ty t T hT).slice u.1) b1
   have hg:kD w (Lib.bytesWorld w T.elem b):=by
    refine ⟨?_,?_,?_,by rw [Lib.bytesWorld_size];omega,fun j hj _=>Lib.bytesWorld_at_old w T.elem b j hj⟩
    all_goals (unfold Lib.bytesWorld World.freeze;rw [if_neg (by decide)];rfl)
   let cap:=grownCap w b.size 0 T.elem
   have bs:b.size<=cap:=grownCap_ge w b.size 0 T.elem
   have ae:(Lib.bytesCells w T.elem b).size=cap:=by
    have:b.data.size=b.size:=rfl
    simp [Lib.bytesCells];omega
   have M:fm (Lib.bytesWorld w T.elem b) false T.elem D.sz (.slice (some ⟨w.heap.size,0,none⟩) b.size cap) (fv b).length (b.data.toList.map fun x=>Value.int .u8 x.toNat):=by
    refine ⟨by rw [ff,b4,List.length_map,Nat.mul_one];rfl,.inr ⟨w.heap.size,cap,Lib.bytesCells w T.elem b,T.elem,_,by rw [ff],fun _=>rfl,Lib.bytesWorld_at_new w T.elem b,.inr rfl,by rw [ff];exact bs,grownCap_le_maxLen w b.size 0 T.elem (by have:maxLen=9223372036854775807:=rfl;omega),by rw [ae,b4,Nat.mul_one],?_⟩⟩
    rw [ff,b4,Nat.mul_one]
    have hl:(b.data.toList.map fun x=>Value.int .u8 x.toNat).length=b.size:=by rw [List.length_map];rfl
    rw [<- hl]
    unfold Lib.bytesCells
    rw [Array.toList_append,Array.toList_map]
    exact List.take_left
   intro next Q hn
   refine eD (A _ _ (by rw [ex];exact hr)) (hn _ _ _ m ?_)
   refine (h.jD hg).sT (by rw [hE];exact N) M ?_ (fun z hz => ?_) o.dst
   ·intro i j k hi O v U
    rw [b3] at O
    cases j with
    | succ j=>simp at O
    | zero =>
     simp only [List.getElem?_cons_zero,Option.some.injEq] at O;subst O
     rw [b4,Nat.mul_one,Nat.add_zero,List.getElem?_map] at U
     cases ap:b.data.toList[i]? with
     | none=>rw [ap] at U;cases U
     | some xb =>
      rw [ap] at U;simp only [Option.map_some,Option.some.injEq] at U;subst U
      have:lf D.agg ((fv b).getD i .no) 0 = .int xb.toNat:=by
       unfold lf;rw [b2];simp only [cond_false]
       unfold fv
       rw [List.getD_eq_getElem?_getD,List.getElem?_map,ap];rfl
      rw [this];exact .int .u8 (.int xb.toNat)
   ·have bx:z=w.heap.size:=by simpa [Value.ownBlock,eq_comm] using hz
    subst bx
    exact ⟨fun hr=>Nat.lt_irrefl _ (h.rlt _ hr),.inl h.fr.size,fun t o' bP bS=>Nat.lt_irrefl _ (h.c9 t o' bP _ bS).1⟩
  ·cases m
 ·rename_i k e
  split at m
  ·rename_i el l st V
   split at m
   ·rename_i D N
    obtain ⟨u,m⟩:=bY m
    simp only [Bool.and_eq_true] at u
    have W:=Nat.eq_of_beq_eq_true u.2.1
    by_cases ar:T.lv=[.str]
    ·simp only [ar,decide_true,cond_true] at m
     have:=oV X hE h hF hT Y u.1 W N u.2.2 ar hc (by rw [e];intro b hb;cases hb) (l:=l) (st:=D.flat||st) (by rw [e];unfold mG;simp [yD,V])
     exact cf h (x := .str (fE l)) rfl (A _ _ this) m
    ·simp only [ar,decide_false,cond_false] at m
     obtain ⟨ax,bV⟩:=bY m
     obtain ⟨b0,b5⟩:=cX bV
     have ax:=Nat.eq_of_beq_eq_true ax
     subst ax
     obtain ⟨b1,b2,b3,b4⟩:=m6 X N u.2.2
     have hs:=(X.ty f F hF).slice u.1
     rw [W] at hs
     rw [e] at hc
     obtain ⟨hd,U,b',a8⟩:_/\a.eval x=(β k).v/\_/\(β k).arr=false:=hc
     obtain ⟨D',cs,ca,cl,M,cp⟩:=h.objs k _ V
     have M:fm w (β k).arr el D'.sz (β k).v l.length cs:=M
     obtain ⟨ct,c0⟩:=M
     rcases c0 with ⟨_,c'⟩|⟨g,cap,a1,q',fz,a6,dg,hg,dr,d',ea,eb,a7⟩
     ·have:=List.eq_nil_of_length_eq_zero c';subst this;cases b0
     ·have hr:(convert f f (a.eval x)).run P w = .ok (a.eval x) (w.freeze ⟨g,a1.size,none⟩ 1):=by
       rw [U,a6]
       simp [convert,run_underlying hs,run_underlying b1,vo hg]
      have ed:g∈ci (β k) (.row el l st):=by simp [ci,a6,Value.ownBlock]
      have ei:Fr (fun b=>b∈ci (β k) (.row el l st)) w (w.freeze ⟨g,a1.size,none⟩ 1):=by
       unfold World.freeze
       rw [if_neg (by decide)]
       refine ⟨rfl,rfl,rfl,by simp,fun b _ hn => ?_⟩
       simp only [Array.getElem?_modify]
       rw [if_neg (fun e=>hn (by rw [<- e];exact ed))]
      have h2:=h.iq V (.row el l st) ei (fun b hb=>hb) (fun le=>by
       refine ⟨D',cs,ca,cl,⟨ct,.inr ⟨g,cap,a1,q',_,a6,dg,zJ hg dr,.inr rfl,d',ea,eb,a7⟩⟩,?_⟩
       exact cp.mono (fun b hq=>le.Q _ b hq) (fun b hq=>le.w _ b hq))
      intro next Q hn
      refine eD (A _ _ hr) (hn _ _ _ b5 ⟨_,_,_,h2.put o.dst (x := .own k) (dy (dO ⟨?_,U,b',a8⟩))⟩)
      show ∃ o',(s.setObj k (.row el l st)).obj k=some o'
      rw [dT,if_pos rfl,V];exact ⟨_,rfl⟩
   ·cases m
  ·cases m
 ·rename_i e
  obtain ⟨u,m⟩:=bY m
  simp only [Bool.and_eq_true,decide_eq_true_eq] at u
  split at m
  ·rename_i D N
   obtain ⟨ad,m⟩:=bY m
   have:=oV X hE h hF hT Y u.1 rfl N ad u.2 hc (by rw [e];intro b hb;cases hb) (l:=[]) (st:=true) (by rw [e];rfl)
   exact cf h (x := .str ⟨#[]⟩) rfl (A _ _ this) m
  ·cases m
 ·rename_i bb en ek
  split at m
  ·rename_i el l st hl
   split at m
   ·rename_i D N
    obtain ⟨u,m⟩:=bY m
    simp only [Bool.and_eq_true,decide_eq_true_eq] at u
    have W:=Nat.eq_of_beq_eq_true u.2.1
    have:=oV X hE h hF hT Y u.1 W N u.2.2.1 u.2.2.2 hc bb (l:=l) (st:=D.flat||st) (by
     unfold mG
     split
     ·exact absurd ‹_› ek
     ·exact absurd ‹_› (bb _)
     ·rw [hl];simp)
    exact cf h (x := .str (fE l)) rfl (A _ _ this) m
   ·cases m
  ·cases m
end
end Go.Proofs.Ab
namespace Go.Proofs.Ab
open Go
variable {R:Type}
section
variable {P:Program} {E:Env} {o:Oper} {s:St} {a:Act} {w:World} {β : Nat->Bl} {Rt Ra:Nat->Prop} {κ : St->Option R} {r:R} {C:Cfg R} {tab:bZ}
theorem tm {q:Bool} (z:Ok P C.ty) (M:dY C tab E) (h:Rel E s a w β Rt Ra) {c:Call} {b:Builtin} (m:o.op = .call c) (u:c.callee = .builtin b) (A:dR C q s o.dst b c.args.toList c.argTypes.toList o.type κ = some r):eB P E o a w κ r:=by
 have f:=A
 unfold dR at A
 split at A
 ·rename_i x j;exact BL z h m u j f
 ·rename_i x y j;exact uQ z M.T h m u j f
 ·rename_i x y j;exact BN h m u j f
 ·rename_i x y j;exact BM h m u j f
 ·rename_i x j;exact pi z h m u j f
 ·rename_i x y j;exact lV z M.T h m u j f
 ·cases A
theorem nV {c:Cx}:∀ {xs:List SV} {vs:List Value} {j:List Nat},PW (S2 c) xs vs->yQ xs=some j->(∀ t∈j,c.D t)/\vs=j.map fun t => .pointer (some ⟨(c.β t).b,0,none⟩)
 | [],[],_,_,h=>by cases h;exact ⟨fun t m=>(by cases m),rfl⟩
 | x::xs,v::vs,j,f,h=>by
  unfold yQ at h
  split at h
  ·rename_i e;cases e
  ·rename_i t U e
   cases e
   split at h
   ·rename_i l z
    cases h
    obtain ⟨A,M⟩:=nV f.2 z
    obtain ⟨N,O⟩:c.D t/\v=_:=f.1
    refine ⟨fun u hu => ?_,?_⟩
    ·rcases List.mem_cons.1 hu with rfl|hu
     ·exact N
     ·exact A u hu
    ·rw [List.map_cons,<- M,O]
   ·cases h
  ·cases h
 | [],_::_,_,f,_=>f.elim
 | _::_,[],_,f,_=>f.elim
theorem qy {q:Bool} (h:Rel E s a w β Rt Ra) {g:Nat} {first captured:Array Operand} (A:o.op = .makeFunc (.func g) first captured) (f:eF C q o s κ = some r):eB P E o a w κ r:=by
 unfold eF at f;rw [A] at f;simp only at f
 cases q with
 | true=>cases f
 | false =>
 simp only [cond_false] at f
 cases m:first.isEmpty with
 | false=>rw [m] at f;cases f
 | true =>
  rw [m,cond_true] at f
  have u:first = #[]:=by simpa using m
  split at f
  ·rename_i j
   have z:captured = #[]:=by simpa using j
   refine eG (v := .func (.func g) #[] #[]) h (show S2 _ (.fn g) _ from rfl) ?_ f
   unfold execOp;rw [A,u,z];simp [Instr.makeFunc]
  ·rename_i x j
   have z:captured = #[x]:=by
    apply Array.ext';exact j
   split at f
   ·rename_i t O
    have M:=b9 h x
    rw [O] at M
    obtain ⟨U,M⟩:_/\a.eval x=_:=M
    refine eG (v := .func (.func g) #[] #[a.eval x]) h (show S2 _ (.clo g t) _ from ⟨U,by rw [M]⟩) ?_ f
    unfold execOp;rw [A,u,z];simp [Instr.makeFunc]
   ·cases f
  ·split at f
   ·rename_i V N
    obtain ⟨W,X⟩:=nV (ju h captured.toList) N
    refine eG (v := .func (.func g) #[] (captured.map a.eval)) h (show S2 _ (.cls g V) _ from ⟨W,?_⟩) ?_ f
    ·congr 1
     apply Array.ext'
     rw [Array.toList_map];simpa using X
    ·unfold execOp;rw [A,u];simp [Instr.makeFunc]
   ·cases f
theorem rW {q:Bool} (m:Ok P C.ty) (z:dY C tab E) (O:∀ g,bM P C.ty tab g (C.call g)) (h:Rel E s a w β Rt Ra) (u:eF C q o s κ = some r):eB P E o a w κ r:=by
 have j:=u
 unfold eF at u
 split at u
 ·exact rq h (.inl ‹_›) u
 ·exact rq h (.inr ‹_›) u
 ·exact zQ h ‹_› j
 ·exact wU m z.T h ‹_› j
 ·exact BK h ‹_› j
 ·exact wW m h ‹_› j
 ·exact oe m z.T h ‹_› j
 ·exact zO m z.T h ‹_› j
 ·exact w6 m z.T h ‹_› j
 ·exact qz h ‹_› j
 ·exact qy h ‹_› j
 ·exact tq m h ‹_› j
 ·exact uR m h ‹_› j
 ·exact ph m h ‹_› j
 ·exact wV m h ‹_› j
 ·exact zR h ‹_› j
 ·exact tn m h ‹_› (fun F T U V A M u=>zN m z.T h ‹_› U V A M u) j
 ·exact w5 m z.T h ‹_› j
 ·exact pf m h ‹_› j
 ·exact wX m h ‹_› j
 ·exact pg m z.T h ‹_› j
 ·exact wY m z.T h ‹_› j
 ·exact tp h ‹_› j
 ·exact wZ m h ‹_› j
 ·exact zP h ‹_› j
 ·rename_i c N
  split at u
  ·rename_i b W;exact tm m z h N W u
  ·rename_i f X;exact zM z O h N X j
  ·cases u
 ·cases u
end
end Go.Proofs.Ab
namespace Go.Proofs.Ab
open Go
variable {R:Type}
section
variable {P:Program} {E:Env} {o:Oper} {s:St} {a:Act} {w:World} {β : Nat->Bl} {Rt Ra:Nat->Prop} {κ : St->Option R} {r:R} {C:Cfg R} {tab:bZ} {ops:Array Oper}
def xV (P:Program) (E:Env) (ops:Array Oper) (i:Nat) (a:Act) (w:World) (κ : St->Option R) (r:R):Prop :=
 ∀ (K:Act->World->Prop) (Q:Exit->Act->World->Prop),(∀ s' a' w',κ s'=some r->dd E s' a' w'->K a' w')->wpOp P ops Q i K a w
theorem Ay (l:List SV) (d:Nat):gP l d (e6 l d)=l:=by
 induction l generalizing d with
 | nil=>rfl
 | cons x r f=>cases d with
  | zero=>rfl
  | succ d=>simp [gP,e6,f]
theorem vE {d:Nat} {x:SV} (h:s.get d=x):s.put (some d) x=s:=by
 subst h;show (⟨gP s.slots d (e6 s.slots d),s.objs,s.next⟩:St)=s
 rw [Ay]
theorem ew {q:Bool} (o:Oper) (s:St) (κ : St->Option R):dk C q ops o s κ =
  match o.guard with
  | none=>eF C q o s κ
  | some (j,want)=>match w7 ops j with
   | none=>none
   | some d=>match s.get d with
    | .undef=>κ (s.put o.dst .undef)
    | .bool t=>if t=want then eF C q o s κ else κ (s.put o.dst .undef)
    | _=>none:=by
 unfold dk
 cases o.guard with
 | none=>rfl
 | some g =>
  obtain ⟨j,want⟩:=g
  simp only
  cases w7 ops j with
  | none=>rfl
  | some d =>
   simp only
   cases f:s.get d <;> try rfl
   rename_i t
   cases want <;> cases t <;> simp [vE f]
theorem uM (h:Rel E s a w β Rt Ra) {d:Nat} (f:s.get d ≠ .no):d<a.tmps.size:=by
 rw [<- h.len]
 refine Decidable.byContradiction fun j=>f ?_
 exact tl j
theorem ug (h:Rel E s a w β Rt Ra) {j d:Nat} {t:Bool} (u:w7 ops j=some d) (z:s.get d = .bool t):yielded ops a.tmps j=some t:=by
 have A:=h.slots d
 rw [z] at A
 have m:=ov A
 have f:=uM h (d:=d) (by rw [z];simp)
 unfold yielded
 unfold w7 at u
 rw [u]
 simp only [Option.bind_some]
 rw [Array.getD_eq_getD_getElem?,Array.getElem?_eq_getElem f] at m
 rw [Array.getElem?_eq_getElem f]
 simp only [Option.getD_some] at m
 rw [m]
theorem qI (h:Rel E s a w β Rt Ra) {j d:Nat} (u:w7 ops j=some d) (z:s.get d = .undef):yielded ops a.tmps j=none:=by
 have A:=h.slots d
 rw [z] at A
 have m:a.tmps.getD d undef=undef:=A
 have f:=uM h (d:=d) (by rw [z];simp)
 unfold yielded
 unfold w7 at u
 rw [u]
 simp only [Option.bind_some]
 rw [Array.getD_eq_getD_getElem?,Array.getElem?_eq_getElem f] at m
 rw [Array.getElem?_eq_getElem f]
 simp only [Option.getD_some] at m
 rw [m];rfl
theorem uP {i:Nat} (f:ops[i]? = some o) (hw:Region.wanted o (yielded ops a.tmps)=true) (h:eB P E o a w κ r):xV P E ops i a w κ r:=by
 intro K Q j
 unfold wpOp;rw [f];simp only [hw,if_true]
 exact .inl (h K Q j)
theorem pd {i:Nat} (f:ops[i]? = some o) (hw:Region.wanted o (yielded ops a.tmps)=false) (h:Rel E s a w β Rt Ra) (j:κ (s.put o.dst .undef)=some r):xV P E ops i a w κ r:=by
 intro K Q m
 unfold wpOp;rw [f];simp only [hw,Bool.false_eq_true,if_false]
 exact m _ _ _ j ⟨β,Rt,Ra,h.put o.dst (x := .undef) (v:=undef) rfl⟩
theorem gB {q:Bool} (z:Ok P C.ty) (A:dY C tab E) (M:∀ g,bM P C.ty tab g (C.call g)) (h:Rel E s a w β Rt Ra) {i:Nat} (u:ops[i]? = some o) (f:dk C q ops o s κ = some r):xV P E ops i a w κ r:=by
 rw [ew] at f
 split at f
 ·rename_i m
  exact uP u (by unfold Region.wanted;rw [m]) (rW z A M h f)
 ·rename_i j want m
  split at f
  ·cases f
  ·rename_i d N
   split at f
   ·rename_i hu
    exact pd u (by unfold Region.wanted;rw [m];simp [qI h N hu]) h f
   ·rename_i t hu
    have hy:=ug h N hu
    split at f
    ·rename_i e
     exact uP u (by unfold Region.wanted;rw [m];simp [hy,e]) (rW z A M h f)
    ·rename_i e
     exact pd u (by unfold Region.wanted;rw [m];simp [hy,e]) h f
   ·cases f
theorem uO {i:Nat} (h:xV P E ops i a w κ r):∃ s' a' w',κ s'=some r/\dd E s' a' w':=by
 have f:=h (fun a' w'=>∃ s',κ s'=some r/\dd E s' a' w') (fun _ _ _=>False) fun s' a' w' j m=>⟨s',j,m⟩
 unfold wpOp at f
 split at f
 ·obtain ⟨s',g1,g2⟩:=f;exact ⟨s',_,_,g1,g2⟩
 ·split at f
  ·rcases f with f|f
   ·unfold Oper.wp at f
    generalize (execOp a.eval _).run P w=u at f
    cases u with
    | ok n w' =>
     cases n <;> simp only [Oper.upon] at f
     case value=>obtain ⟨s',g1,g2⟩:=f;exact ⟨s',_,_,g1,g2⟩
     case skip=>obtain ⟨s',g1,g2⟩:=f;exact ⟨s',_,_,g1,g2⟩
     case defer=>obtain ⟨s',g1,g2⟩:=f;exact ⟨s',_,_,g1,g2⟩
     case enter =>
      obtain ⟨e,z,fr,g,_⟩:=f []
      cases e with
      | returned v=>obtain ⟨s',g1,g2⟩:=g;exact ⟨s',_,_,g1,g2⟩
      | panicked c=>exact g.elim
      | outgrown=>obtain ⟨_,_,A⟩:=g;exact A.elim
     case row =>
      obtain ⟨v,z,g,_⟩:=f (Frame.enter P 0 #[] .normal) []
      obtain ⟨s',g1,g2⟩:=g;exact ⟨s',_,_,g1,g2⟩
    | halt x w'=>cases x <;> simp only [Oper.upon] at f
   ·exact f.2.elim fun _ h=>h.elim fun _ h=>h.elim
  ·obtain ⟨s',g1,g2⟩:=f;exact ⟨s',_,_,g1,g2⟩
theorem lj {q:Bool} (z:Ok P C.ty) (A:dY C tab E) (M:∀ g,bM P C.ty tab g (C.call g)) {Q:Exit->Act->World->Prop} (N:∀ s' a' w',κ s'=some r->dd E s' a' w'->Q .normal a' w') :
  ∀ (l:List Oper) (n:Nat) {s:St} {a:Act} {w:World},ops.toList.drop n=l->dd E s a w->eZ C q ops l s κ = some r->wpOps P ops Q (List.range' n l.length) a w
 | [],n,s,a,w,_,h,f=>by
  simp only [List.length_nil,List.range'_zero,wpOps];exact N s a w f h
 | o::l,n,s,a,w,O,⟨β,Rt,Ra,h⟩,f=>by
  have U:ops[n]? = some o:=by
   have:=congrArg (·[0]?) O
   simpa using this
  have j:ops.toList.drop (n+1)=l:=by
   rw [<- List.drop_drop,O];rfl
  simp only [List.length_cons,List.range'_succ]
  rw [wpOps_cons]
  refine gB z A M h U f _ _ fun s' a' w' m u => ?_
  exact lj z A M N l (n+1) j u m
theorem mn {q:Bool} (A:Ok P C.ty) (M:dY C tab E) (N:∀ g,bM P C.ty tab g (C.call g)):∀ (l:List Nat) {s:St} {a:Act} {w:World} {κ : St->Option R},(∀ i∈l,i<ops.size)->dd E s a w->eZ C q ops (l.filterMap (ops[·]?)) s κ = some r->∃ s' a' w',κ s'=some r/\dd E s' a' w'
 | [],s,a,w,κ,_,h,f=>⟨s,a,w,f,h⟩
 | i::l,s,a,w,κ,m,⟨β,Rt,Ra,h⟩,f=>by
  have O:ops[i]? = some (ops[i]'(m i (by simp))):=Array.getElem?_eq_getElem (m i (by simp))
  rw [List.filterMap_cons_some (by exact O)] at f
  obtain ⟨s',a',w',u,z⟩:=uO (gB A M N h O f)
  exact mn A M N l (fun j U=>m j (by simp [U])) z u
end
end Go.Proofs.Ab
namespace Go.Proofs.Ab
open Go
variable {R:Type}
section
variable {o:Oper} {s s':St} {C:Cfg R} {K K':St->Option R}
theorem U0 {lt:Bool} (M:cls lt o=0) (f:∀ x∈o.op.operands,ev s' x=ev s x) (z:∀ u,K (s.put o.dst u)=K' (s'.put o.dst u)):eF C true o s K=eF C true o s' K':=by
 unfold eF cls at *
 split at M <;> rename_i j <;> try (cases M;done)
 ·rename_i x;have m:=f x (by rw [j];simp [Op.operands]);simp only [j,m,z,cond_true]
 ·rename_i x;have m:=f x (by rw [j];simp [Op.operands]);simp only [j,m,z,cond_true]
 ·rename_i c x y
  have m:=f c (by rw [j];simp [Op.operands]);have N:=f x (by rw [j];simp [Op.operands]);have O:=f y (by rw [j];simp [Op.operands])
  simp only [j,m,N,O,z]
 ·rename_i x;have m:=f x (by rw [j];simp [Op.operands]);simp only [j,m,z,cond_true]
 ·rename_i x;have m:=f x (by rw [j];simp [Op.operands]);simp only [j,m,z,cond_true]
 ·rename_i x _;have m:=f x (by rw [j];simp [Op.operands]);simp only [j,m,z,cond_true]
 ·rename_i x _;have m:=f x (by rw [j];simp [Op.operands]);simp only [j,m,z,cond_true]
 ·rename_i x y
  have m:=f x (by rw [j];simp [Op.operands]);have N:=f y (by rw [j];simp [Op.operands])
  simp only [j,m,N,z]
 ·rename_i x _;have m:=f x (by rw [j];simp [Op.operands]);simp only [j,m,z,cond_true]
 ·rename_i x y _
  have m:=f x (by rw [j];simp [Op.operands]);have N:=f y (by rw [j];simp [Op.operands])
  simp only [j,m,N,z]
 ·rename_i t ps
  have m:ps.toList.map (fun p=>(p.1,ev s' p.2))=ps.toList.map (fun p=>(p.1,ev s p.2)) :=
   List.map_congr_left fun p U=>by rw [f p.2 (by rw [j];simp [Op.operands];exact ⟨p.1,by simpa using U⟩)]
  simp only [j,m,z,cond_true]
 ·rename_i c
  split at M <;> rename_i A <;> try (first|(cases M;done)|(exfalso;revert M;cases lt <;> intro M <;> cases M;done))
  all_goals
   have m:∀ x∈c.args.toList,ev s' x=ev s x:=fun x V=>f x (by rw [j];simp [Op.operands,Call.operands,A];simpa using V)
   simp only [j,A]
   unfold dR
   generalize c.args.toList=l at m
   generalize c.argTypes.toList=W
   match l,m with
   | [],_=>rfl
   | [x],_=>rfl
   | [x,y],m=>simp only [m x (by simp),m y (by simp),z]
   | _::_::_::_,_=>rfl
theorem vm (C:Cfg R) (T:TI) (v:SV) (h:∀ k,tok v=some k->s'.obj k=s.obj k):loadAt C s' T v=loadAt C s T v:=by
 cases v <;> try rfl
 case ptr t off=>simp only [loadAt,h t rfl]
 case el t i off=>simp only [loadAt,h t rfl]
 case ap t n=>simp only [loadAt,h t rfl]
theorem rM (v:SV) (h:∀ k,tok v=some k->s'.obj k=s.obj k):me s' v=me s v:=by
 cases v <;> try rfl
 case own t=>simp only [me,h t rfl]
theorem U1 {lt:Bool} (hc:cls lt o<=1) (hev:∀ x∈o.op.operands,ev s' x=ev s x) (hsame:∀ x∈o.op.operands,∀ k,tok (ev s x)=some k->s'.obj k=s.obj k) (hK:∀ u,K (s.put o.dst u)=K' (s'.put o.dst u)):eF C true o s K=eF C true o s' K':=by
 by_cases h0:cls lt o=0
 ·exact U0 h0 hev hK
 have hc1:cls lt o=1:=by omega
 unfold eF
 unfold cls at hc1
 split at hc1 <;> rename_i ho <;> try (cases hc1;done)
 ·rename_i t x
  have h1:=hev x (by rw [ho];simp [Op.operands])
  have h2:=hsame x (by rw [ho];simp [Op.operands])
  simp only [ho,h1,vm C _ _ h2,hK]
 ·rename_i t x i
  have h1:=hev x (by rw [ho];simp [Op.operands])
  have h2:=hsame x (by rw [ho];simp [Op.operands])
  have h3:=hev i (by rw [ho];simp [Op.operands])
  simp only [ho,h1,h3]
  cases C.ty t with
  | none=>rfl
  | some S =>
   simp only
   generalize S.sl=b
   cases b <;> simp only [hK,Bool.not_true,Bool.not_false,cond_true,cond_false] <;> cases hx:ev s x <;> rw [hx] at h2 <;> first
    | (simp only [h2 _ rfl];done)
    | (cases oE C S <;> cases C.ty S.elem <;> cases ev s i <;> first|rfl|simp only [h2 _ rfl])
 ·rename_i ty x lo hi mx
  cases mx with
  | some m=>simp only [ho]
  | none =>
   have h1:=hev x (by rw [ho];simp [Op.operands])
   have h2:=hsame x (by rw [ho];simp [Op.operands])
   have hl:=rM (s:=s) (s':=s') _ h2
   simp only [ho,h1]
   have hb:bounds s' (ev s x) lo hi=bounds s (ev s x) lo hi:=by
    unfold bounds
    rw [hl]
    cases me s (ev s x) with
    | none=>rfl
    | some z =>
     cases lo with
     | none=>cases hi with
      | none=>rfl
      | some b=>simp only [hev b (by rw [ho];simp [Op.operands])]
     | some b=>cases hi with
      | none=>simp only [hev b (by rw [ho];simp [Op.operands])]
      | some d=>simp only [hev b (by rw [ho];simp [Op.operands]),hev d (by rw [ho];simp [Op.operands])]
   simp only [hb,hK]
   cases hx:ev s x <;> rw [hx] at h2 <;> first
    | rfl
    | simp only [h2 _ rfl]
 ·rename_i f t x
  have h1:=hev x (by rw [ho];simp [Op.operands])
  have h2:=hsame x (by rw [ho];simp [Op.operands])
  simp only [ho,h1]
  cases C.ty f with
  | none=>rfl
  | some F=>cases C.ty t with
   | none=>rfl
   | some T =>
    simp only
    cases !(!F.agg && !T.agg) with
    | true=>rfl
    | false =>
     simp only [cond_false]
     split <;> first|exact hK _|exact vF (fun k hk=>h2 k (by rw [hk];rfl)) hK
 ·rename_i c
  split at hc1 <;> rename_i hcal <;> try (first|(cases hc1;done)|(exfalso;revert hc1;cases lt <;> intro hc1 <;> cases hc1;done))
  all_goals
   have h1:∀ x∈c.args.toList,ev s' x=ev s x:=fun x hx=>hev x (by rw [ho];simp [Op.operands,Call.operands,hcal];simpa using hx)
   have h2:∀ x∈c.args.toList,∀ k,tok (ev s x)=some k->s'.obj k=s.obj k:=fun x hx=>hsame x (by rw [ho];simp [Op.operands,Call.operands,hcal];simpa using hx)
   simp only [ho,hcal]
   unfold dR
   generalize c.args.toList=l at h1 h2
   generalize c.argTypes.toList=ts
   match l,h1,h2 with
   | [],_,_=>rfl
   | [x],h1,h2 =>
    have a1:=h1 x (by simp)
    have a2:=h2 x (by simp)
    first
     | simp only [a1,rM _ a2,hK];done
     | (simp only [a1, ic]
        cases hx:ev s x <;> first
         | (rw [hx] at a2;simp only [a2 _ rfl,hK];done)
         | (simp only [hK];done)
         | rfl)
   | [_,_],_,_=>rfl
   | _::_::_::_,_,_=>rfl
end
end Go.Proofs.Ab
namespace Go.Proofs.Ab
open Go
variable {R:Type}
theorem jc:∀ (u:List SV) (ob:List (Nat × Obj)) (n:Nat),∃ j f n',∀ a,cY ⟨a,ob,n⟩ u=(j,⟨a,f,n'⟩)
 | [],ob,n=>⟨[],ob,n,fun _=>rfl⟩
 | x::r,ob,n=>by
  by_cases m:∃ e l st,x = .fr e l st
  ·obtain ⟨e,l,st,rfl⟩:=m
   obtain ⟨j,f,n',h⟩:=jc r ((n,.row e l st)::ob) (n+1)
   refine ⟨.own n::j,f,n',fun a => ?_⟩
   rw [gv]
   show (SV.own n::(cY ⟨a,(n,.row e l st)::ob,n+1⟩ r).1,(cY ⟨a,(n,.row e l st)::ob,n+1⟩ r).2)=_
   rw [h a]
  ·obtain ⟨j,f,n',h⟩:=jc r ob n
   refine ⟨x::j,f,n',fun a => ?_⟩
   rw [hZ _ x r fun e l st z=>m ⟨e,l,st,z⟩,h a]
theorem kx (x:SV) (ob:List (Nat × Obj)) (n:Nat):∃ u f n',∀ a,eH ⟨a,ob,n⟩ x=(u,⟨a,f,n'⟩):=by
 rcases gF x with ⟨l,rfl⟩|m
 ·obtain ⟨z,f,n',h⟩:=jc l ob n
  exact ⟨.agg z,f,n',fun a=>by simp only [eH,h a]⟩
 ·obtain ⟨z,f,n',h⟩:=jc [x] ob n
  obtain ⟨u,hu,_⟩:=ia m ⟨[],ob,n⟩
  rw [h []] at hu
  refine ⟨u,f,n',fun a => ?_⟩
  obtain ⟨A,j,e⟩:=ia m ⟨a,ob,n⟩
  rw [h a] at j e
  simp only at hu j e
  rw [hu] at j;cases j
  exact e
theorem ng:∀ (xs:List SV) (ob:List (Nat × Obj)) (n:Nat),∃ f j n',∀ a,fA ⟨a,ob,n⟩ xs=(f,⟨a,j,n'⟩)
 | [],ob,n=>⟨[],ob,n,fun _=>rfl⟩
 | x::r,ob,n=>by
  obtain ⟨u,m,n1,A⟩:=kx x ob n
  obtain ⟨f,z,n2,M⟩:=ng r m n1
  exact ⟨u::f,z,n2,fun a=>by simp only [fA,A a,M a]⟩
theorem kj:∀ (xs back:List SV) (ob:List (Nat × Obj)) (n:Nat),(∀ a,fe ⟨a,ob,n⟩ xs back=none)∨∃ f n',∀ a,fe ⟨a,ob,n⟩ xs back=some ⟨a,f,n'⟩
 | [],[],ob,n => .inr ⟨ob,n,fun _=>rfl⟩
 | [],_::_,_,_ => .inl fun _=>rfl
 | x::r,u,ob,n=>by
  by_cases N:∃ t o,x = .ptr t o
  ·obtain ⟨t,o,rfl⟩:=N
   cases u with
   | nil=>exact .inl fun _=>rfl
   | cons y u =>
    by_cases hy:∃ ty m,y = .vp ty m
    ·obtain ⟨ty,m,rfl⟩:=hy
     obtain ⟨U,z,n1,O⟩:=jc m ob n
     rcases kj r u (z.map fun p=>bif Nat.beq t p.1 then (p.1,.var ty U) else p) n1 with A|⟨M,n2,A⟩
     ·refine .inl fun a => ?_
      rw [mM,O a];exact A a
     ·refine .inr ⟨M,n2,fun a => ?_⟩
      rw [mM,O a];exact A a
    ·refine .inl fun a => ?_
     cases y <;> first|rfl|exact absurd ⟨_,_,rfl⟩ hy
  ·have j:∀ t o,x ≠ .ptr t o:=fun t o e=>N ⟨t,o,e⟩
   rcases kj r u ob n with h|⟨f,n',h⟩
   ·exact .inl fun a=>by rw [jN _ j];exact h a
   ·exact .inr ⟨f,n',fun a=>by rw [jN _ j];exact h a⟩
theorem ry:∀ (j:List Nat) (ob:List (Nat × Obj)) (n:Nat),∃ f,∀ a,fT j ⟨a,ob,n⟩=⟨a,f,n⟩
 | [],ob,n=>⟨ob,fun _=>rfl⟩
 | t::r,ob,n=>by
  obtain ⟨f,h⟩:=ry r (ob.map fun p=>bif Nat.beq t p.1 then (p.1,.hole) else p) n
  exact ⟨f,fun a=>h a⟩
section
variable {a b:List SV} {ob:List (Nat × Obj)} {n:Nat}
theorem oR (x:SV):fY ⟨a,ob,n⟩ x=fY ⟨b,ob,n⟩ x:=by cases x <;> rfl
theorem zL (x:SV):lU ⟨a,ob,n⟩ x=lU ⟨b,ob,n⟩ x:=by cases x <;> rfl
theorem oU:∀ (l:List SV),gE ⟨a,ob,n⟩ l=gE ⟨b,ob,n⟩ l
 | []=>rfl
 | x::r=>by simp only [gE,oR (a:=a) (b:=b) x,oU r]
theorem rn:∀ (l:List SV),iV ⟨a,ob,n⟩ l=iV ⟨b,ob,n⟩ l
 | []=>rfl
 | x::r=>by simp only [iV,zL (a:=a) (b:=b) x,rn r]
theorem wH (x:SV):fB ⟨a,ob,n⟩ x=fB ⟨b,ob,n⟩ x:=by
 unfold fB
 split
 ·rw [oU (a:=a) (b:=b)]
 ·show (match St.obj ⟨b,ob,n⟩ _ with
   | some (.var ty f)=>match iV ⟨a,ob,n⟩ f with
    | some l=>some (SV.vp ty l)
    | none=>none
   | _=>none)=_
  simp only [rn (a:=a) (b:=b)]
  rfl
 ·exact oR _
theorem kP:∀ (l:List SV),eP ⟨a,ob,n⟩ l=eP ⟨b,ob,n⟩ l
 | []=>rfl
 | x::r=>by simp only [eP,wH (a:=a) (b:=b) x,kP r]
theorem ow:∀ (l:List SV),iH ⟨a,ob,n⟩ l=iH ⟨b,ob,n⟩ l
 | []=>rfl
 | x::r=>by
  by_cases f:∃ t o,x = .ptr t o
  ·obtain ⟨t,o,rfl⟩:=f
   simp only [iH,ow r];rfl
  ·rw [tv (fun t o e=>f ⟨t,o,e⟩),tv (fun t o e=>f ⟨t,o,e⟩),ow r]
theorem gn:∀ (l:List SV),cn ⟨a,ob,n⟩ l=cn ⟨b,ob,n⟩ l
 | []=>rfl
 | x::r=>by
  by_cases f:∃ t o,x = .ptr t o
  ·obtain ⟨t,o,rfl⟩:=f
   simp only [cn,gn r];rfl
  ·have j:∀ s:St,cn s (x::r)=cn s r:=by
    intro s;cases x <;> first|rfl|exact absurd ⟨_,_,rfl⟩ f
   rw [j,j,gn r]
end
section
variable {C:Cfg R} {K K':St->Option R}
theorem zx {d:Option Nat} {g:Nat} {xs:List Operand} {sl sl':List SV} {ob:List (Nat × Obj)} {n:Nat} (A:∀ x∈xs,ev ⟨sl',ob,n⟩ x=ev ⟨sl,ob,n⟩ x)
  (V:∀ u f n',K ((⟨sl,f,n'⟩:St).put d u)=K' ((⟨sl',f,n'⟩:St).put d u)):ir C true ⟨sl,ob,n⟩ d g xs K=ir C true ⟨sl',ob,n⟩ d g xs K':=by
 have he:xs.map (ev ⟨sl',ob,n⟩)=xs.map (ev ⟨sl,ob,n⟩):=List.map_congr_left A
 unfold ir kE oQ lE
 simp only [List.append_nil]
 simp only [he]
 generalize Y:(bif C.wO g then eX (xs.map (ev ⟨sl,ob,n⟩))++qO (xs.map (ev ⟨sl,ob,n⟩)) else [])=fz
 cases fz with
 | cons t ts=>simp
 | nil =>
  simp only [fZ,he]
  generalize xs.map (ev ⟨sl,ob,n⟩)=vs
  rw [ow (a:=sl') (b:=sl),gn (a:=sl') (b:=sl),kP (a:=sl') (b:=sl)]
  generalize W:((true && !(([]:List Nat).isEmpty&&(cn ⟨sl,ob,n⟩ vs).isEmpty)) || !distinct (iH ⟨sl,ob,n⟩ vs)||(seen vs).any fun t=>(iH ⟨sl,ob,n⟩ vs).any (Nat.beq t))=M
  cases M with
  | true=>rfl
  | false =>
   simp only [cond_false]
   cases eP ⟨sl,ob,n⟩ vs with
   | none=>rfl
   | some cs =>
    simp only
    have N:cn ⟨sl,ob,n⟩ vs=[]:=by
     cases hg:cn ⟨sl,ob,n⟩ vs with
     | nil=>rfl
     | cons t ts=>rw [hg] at W;simp at W
    rw [N]
    refine congrArg (C.call g cs) (funext fun res => ?_)
    cases res with
    | nil=>rfl
    | cons v back =>
     simp only [fC]
     obtain ⟨O,X⟩:=ry (given vs) ob n
     rw [X sl,X sl']
     rcases kj vs back O n with j|⟨m,n2,j⟩
     ·rw [j sl,j sl']
     ·rw [j sl,j sl']
      simp only
      rcases pJ v with ⟨l,rfl⟩|hv
      ·obtain ⟨us,U,n3,z⟩:=ng l m n2
       simp only [z sl,z sl']
       exact V _ _ _
      ·obtain ⟨u,U,n3,z⟩:=kx v m n2
       cases v <;> first
        | exact absurd rfl (hv _)
        | (simp only [z sl,z sl'];exact V _ _ _)
def Nm (ob:List (Nat × Obj)) (n:Nat):Prop:=∀ t o,lookup t ob=some o->t<n
def ou (ob f:List (Nat × Obj)):Prop:=∀ t o,lookup t ob=some o->lookup t f=some o
def AM (C:Cfg R):Prop:=∀ g xs κ,kF xs=true->C.call g xs κ = none
theorem ou.refl (ob:List (Nat × Obj)):ou ob ob:=fun _ _ h=>h
theorem ou.trans {a b c:List (Nat × Obj)} (h:ou a b) (f:ou b c):ou a c:=fun t o j=>f t o (h t o j)
theorem yf {ob:List (Nat × Obj)} {n:Nat} (h:Nm ob n) (o:Obj):ou ob ((n,o)::ob)/\Nm ((n,o)::ob) (n+1):=by
 refine ⟨fun t x f => ?_,fun t x f => ?_⟩
 ·have:=h t x f
  unfold lookup
  cases j:Nat.beq t n with
  | true=>have:=Nat.eq_of_beq_eq_true j;omega
  | false=>exact f
 ·unfold lookup at f
  cases j:Nat.beq t n with
  | true=>have:=Nat.eq_of_beq_eq_true j;omega
  | false=>rw [j] at f;have:=h t x f;omega
theorem kw:∀ (f:List SV) (ob:List (Nat × Obj)) (n:Nat),Nm ob n->∀ a,ou ob (cY ⟨a,ob,n⟩ f).2.objs/\Nm (cY ⟨a,ob,n⟩ f).2.objs (cY ⟨a,ob,n⟩ f).2.next
 | [],ob,n,h,a=>⟨ou.refl _,h⟩
 | x::r,ob,n,h,a=>by
  by_cases j:∃ e l st,x = .fr e l st
  ·obtain ⟨e,l,st,rfl⟩:=j
   rw [gv]
   obtain ⟨m,u⟩:=yf h (.row e l st)
   obtain ⟨z,A⟩:=kw r _ _ u a
   exact ⟨m.trans z,A⟩
  ·rw [hZ _ x r fun e l st M=>j ⟨e,l,st,M⟩]
   exact kw r ob n h a
theorem sa (x:SV) (ob:List (Nat × Obj)) (n:Nat) (h:Nm ob n) (a:List SV):ou ob (eH ⟨a,ob,n⟩ x).2.objs/\Nm (eH ⟨a,ob,n⟩ x).2.objs (eH ⟨a,ob,n⟩ x).2.next:=by
 rcases gF x with ⟨l,rfl⟩|f
 ·exact kw l ob n h a
 ·obtain ⟨u,hu,e⟩:=ia f ⟨a,ob,n⟩
  rw [e]
  exact kw [x] ob n h a
theorem rY:∀ (xs:List SV) (ob:List (Nat × Obj)) (n:Nat),Nm ob n->∀ a,ou ob (fA ⟨a,ob,n⟩ xs).2.objs/\Nm (fA ⟨a,ob,n⟩ xs).2.objs (fA ⟨a,ob,n⟩ xs).2.next
 | [],ob,n,h,a=>⟨ou.refl _,h⟩
 | x::r,ob,n,h,a=>by
  obtain ⟨u,f,n1,j⟩:=kx x ob n
  obtain ⟨m,z⟩:=sa x ob n h a
  rw [j a] at m z
  obtain ⟨A,M⟩:=rY r f n1 z a
  simp only [fA,j a]
  exact ⟨m.trans A,M⟩
theorem wI {s:St} {t o:Nat} {y:SV} (h:fB s (.ptr t o)=some y):∃ ty f,y = .vp ty f:=by
 cases o with
 | zero =>
  simp only [fB] at h
  split at h
  ·split at h
   ·cases h;exact ⟨_,_,rfl⟩
   ·cases h
  ·cases h
 | succ o=>simp [fB,fY] at h
theorem oT {s:St}:∀ {vs cs:List SV},eP s vs=some cs->kF cs=false->∀ x∈vs,∀ t o,x ≠ .ptr t o
 | [],_,_,_,x,f,_,_=>by cases f
 | v::vs,cs,h,j,x,f,t,o=>by
  unfold eP at h
  split at h
  ·rename_i y l u z
   cases h
   have m:kF l=false:=by
    cases y <;> first|exact j|(cases j)
   rcases List.mem_cons.1 f with rfl|f
   ·intro e;subst e
    obtain ⟨ty,A,rfl⟩:=wI u
    cases j
   ·exact oT z m x f t o
  ·cases h
theorem rp:∀ {vs:List SV},(∀ x∈vs,∀ t o,x ≠ .ptr t o)->given vs=[]
 | [],_=>rfl
 | x::r,h=>by
  have f:given r=[]:=rp fun y (hy:y∈r)=>h y (List.mem_cons_of_mem _ hy)
  cases x <;> first|exact f|exact absurd rfl (h _ List.mem_cons_self _ _)
theorem qQ:∀ {vs:List SV} {s s2:St} {back:List SV},(∀ x∈vs,∀ t o,x ≠ .ptr t o)->fe s vs back=some s2->s2=s
 | [],s,s2,[],_,h=>by simp only [fe,Option.some.injEq] at h;exact h.symm
 | [],s,s2,_::_,_,h=>by simp [fe] at h
 | x::r,s,s2,back,f,h=>by
  rw [jN _ (f x (by simp))] at h
  exact qQ (fun y hy=>f y (by simp [hy])) h
theorem uq (Y:AM C) {d:Option Nat} {g:Nat} {xs:List Operand} {sl sl':List SV} {ob:List (Nat × Obj)} {n:Nat} (O:∀ x∈xs,ev ⟨sl',ob,n⟩ x=ev ⟨sl,ob,n⟩ x)
  (hK:∀ u j n',(Nm ob n->ou ob j/\Nm j n')->K ((⟨sl,j,n'⟩:St).put d u)=K' ((⟨sl',j,n'⟩:St).put d u)):ir C true ⟨sl,ob,n⟩ d g xs K=ir C true ⟨sl',ob,n⟩ d g xs K':=by
 have he:xs.map (ev ⟨sl',ob,n⟩)=xs.map (ev ⟨sl,ob,n⟩):=List.map_congr_left O
 unfold ir kE oQ lE
 simp only [List.append_nil]
 simp only [he]
 generalize ad:(bif C.wO g then eX (xs.map (ev ⟨sl,ob,n⟩))++qO (xs.map (ev ⟨sl,ob,n⟩)) else [])=fz
 cases fz with
 | cons t ts=>simp
 | nil =>
  simp only [fZ,he]
  generalize xs.map (ev ⟨sl,ob,n⟩)=vs
  rw [ow (a:=sl') (b:=sl),gn (a:=sl') (b:=sl),kP (a:=sl') (b:=sl)]
  generalize hc:((true && !(([]:List Nat).isEmpty&&(cn ⟨sl,ob,n⟩ vs).isEmpty)) || !distinct (iH ⟨sl,ob,n⟩ vs)||(seen vs).any fun t=>(iH ⟨sl,ob,n⟩ vs).any (Nat.beq t))=U
  cases U with
  | true=>rfl
  | false =>
   simp only [cond_false]
   cases V:eP ⟨sl,ob,n⟩ vs with
   | none=>rfl
   | some cs =>
    simp only
    by_cases M:kF cs=true
    ·rw [Y g cs _ M,Y g cs _ M]
    have N:=oT V (by simpa using M)
    have W:cn ⟨sl,ob,n⟩ vs=[]:=by
     cases hg:cn ⟨sl,ob,n⟩ vs with
     | nil=>rfl
     | cons t ts=>rw [hg] at hc;simp at hc
    rw [W,rp N]
    refine congrArg (C.call g cs) (funext fun res => ?_)
    cases res with
    | nil=>rfl
    | cons v back =>
     simp only [fC,fT]
     rcases kj vs back ob n with A|⟨f,n2,A⟩
     ·rw [A sl,A sl']
     ·have e2:=qQ N (A sl)
      have:f=ob/\n2=n:=by
       have:=congrArg St.objs e2;have:=congrArg St.next e2;exact ⟨by assumption,by assumption⟩
      obtain ⟨rfl,rfl⟩:=this
      rw [A sl,A sl']
      simp only
      rcases pJ v with ⟨l,rfl⟩|M
      ·obtain ⟨us,m,n3,z⟩:=ng l f n2
       simp only [z sl,z sl']
       refine hK _ _ _ fun X => ?_
       have:=rY l f n2 X sl
       rw [z sl] at this;exact this
      ·obtain ⟨u,m,n3,z⟩:=kx v f n2
       have hx:Nm f n2->ou f m/\Nm m n3:=fun X=>by
        have:=sa v f n2 X sl
        rw [z sl] at this;exact this
       cases v <;> first
        | exact absurd rfl (M _)
        | (simp only [z sl,z sl'];exact hK _ _ _ hx)
end
end Go.Proofs.Ab
namespace Go.Proofs.Ab
open Go
variable {R:Type}
section
variable {o:Oper} {sl sl':List SV} {ob:List (Nat × Obj)} {n:Nat} {C:Cfg R} {K K':St->Option R}
theorem xj (C:Cfg R) (T:TI) (v:SV):loadAt C ⟨sl',ob,n⟩ T v=loadAt C ⟨sl,ob,n⟩ T v:=rfl
theorem ve (v:SV):me ⟨sl',ob,n⟩ v=me ⟨sl,ob,n⟩ v:=rfl
theorem gu (k:Nat):(⟨sl',ob,n⟩:St).obj k=(⟨sl,ob,n⟩:St).obj k:=rfl
theorem AE (e:Nat) (T:TI) (v:SV):mG ⟨sl',ob,n⟩ e T v=mG ⟨sl,ob,n⟩ e T v:=rfl
theorem uJ {s:St}:fZ [] s=s:=rfl
theorem Dz {ob:List (Nat × Obj)} {n k:Nat} (u:lookup k ob=none) (m:k<n) (h:Nm ob n) (o:Obj):ou ob (ob++[(k,o)])/\Nm (ob++[(k,o)]) n:=by
 refine ⟨fun t x f=>by rw [hY,f],fun t x f => ?_⟩
 rw [hY] at f
 cases e:lookup t ob with
 | some y=>exact h t y e
 | none =>
  rw [e] at f
  by_cases j:t=k
  ·subst j;exact m
  ·simp [j] at f
theorem rQ {d:Option Nat} {x:Obj} {f:Nat->SV} (m:∀ (x:Obj) u,K (((⟨sl,ob,n⟩:St).new x).put d u)=K' (((⟨sl',ob,n⟩:St).new x).put d u))
  (z:∀ k (x:Obj) u,lookup k ob=none->k<n->K (((⟨sl,ob,n⟩:St).newAt k x).put d u)=K' (((⟨sl',ob,n⟩:St).newAt k x).put d u)):j' C ⟨sl,ob,n⟩ d x f K=j' C ⟨sl',ob,n⟩ d x f K':=by
 unfold j'
 cases Nat.beq C.base 0 with
 | true=>exact m _ _
 | false =>
  simp only [cond_false]
  show (bif ((⟨sl,ob,n⟩:St).obj (C.base+d.getD 0)).isNone&&(Nat.blt (C.base+d.getD 0) n&&Nat.ble 64 C.base) then _ else none)=(bif ((⟨sl',ob,n⟩:St).obj (C.base+d.getD 0)).isNone&&(Nat.blt (C.base+d.getD 0) n&&Nat.ble 64 C.base) then _ else none)
  rw [gu (sl:=sl) (sl':=sl')]
  cases j:(((⟨sl,ob,n⟩:St).obj (C.base+d.getD 0)).isNone&&(Nat.blt (C.base+d.getD 0) n&&Nat.ble 64 C.base)) with
  | false=>rfl
  | true =>
   simp only [Bool.and_eq_true,Option.isNone_iff_eq_none,Nat.blt_eq] at j
   exact z _ _ _ j.1 j.2.1
theorem U2 {lt:Bool} (ae:lt=true->AM C) (A:∀ x∈o.op.operands,ev ⟨sl',ob,n⟩ x=ev ⟨sl,ob,n⟩ x)
  (hK:∀ u N n',(cls lt o<=1->N=ob/\n'=n)->(cls lt o<=2->Nm ob n->ou ob N/\Nm N n')->K ((⟨sl,N,n'⟩:St).put o.dst u)=K' ((⟨sl',N,n'⟩:St).put o.dst u)):eF C true o ⟨sl,ob,n⟩ K=eF C true o ⟨sl',ob,n⟩ K':=by
 have O:∀ u,K ((⟨sl,ob,n⟩:St).put o.dst u)=K' ((⟨sl',ob,n⟩:St).put o.dst u):=fun u=>hK u ob n (fun _=>⟨rfl,rfl⟩) (fun _ h=>⟨ou.refl _,h⟩)
 by_cases hc:cls lt o=0
 ·exact U0 hc A O
 have X:∀ (Y:cls lt o=3) u N n',K ((⟨sl,N,n'⟩:St).put o.dst u)=K' ((⟨sl',N,n'⟩:St).put o.dst u):=fun Y u N n'=>hK u N n' (fun h=>by omega) (fun h=>by omega)
 have V:∀ (Y:cls lt o=2) (x:Obj) u,K (((⟨sl,ob,n⟩:St).new x).put o.dst u)=K' (((⟨sl',ob,n⟩:St).new x).put o.dst u):=fun Y x u=>hK u _ _ (fun h=>by omega) (fun _ h=>yf h x)
 cases j:o.op <;> (try (exfalso;apply hc;unfold cls;rw [j];done)) <;> (try (unfold eF;simp only [j];done))
 case makeMap t rr=>unfold eF;simp only [j];cases rr <;> rfl
 case mapUpdate t m i v=>unfold eF;simp only [j];rfl
 case lookup t x i ok =>
  have M:=A x (by rw [j];simp [Op.operands])
  have W:=A i (by rw [j];simp [Op.operands])
  unfold eF;simp only [j,M,W,gu (sl:=sl) (sl':=sl'),O]
 case makeFunc fn first captured =>
  unfold eF;simp only [j]
  cases fn <;> rfl
 case alloc t =>
  replace V:=V (by unfold cls;rw [j])
  have hA:∀ k (x:Obj) u,lookup k ob=none->k<n->K (((⟨sl,ob,n⟩:St).newAt k x).put o.dst u)=K' (((⟨sl',ob,n⟩:St).newAt k x).put o.dst u):=fun k x u hk hl=>hK u _ _ (fun h=>by rw [show cls lt o=2 by unfold cls;rw [j]] at h;omega) (fun _ h=>Dz hk hl h x)
  unfold eF;simp only [j]
  cases C.ty t with
  | none=>rfl
  | some T =>
   simp only
   cases oE C T with
   | some k=>exact rQ V hA
   | none =>
    simp only
    cases (T.lv.map kf).all stands with
    | true=>simp only [cond_true];exact rQ V hA
    | false=>rfl
 case box t x =>
  replace V:=V (by unfold cls;rw [j])
  have M:=A x (by rw [j];simp [Op.operands])
  unfold eF;simp only [j,M]
  cases C.ty t with
  | none=>rfl
  | some T=>simp only;generalize (Nat.beq (leaves (ev ⟨sl,ob,n⟩ x)).length T.sz&&(leaves (ev ⟨sl,ob,n⟩ x)).all known)=c;cases c with|true=>exact V _ _|false=>rfl
 case buildSlice t m ps =>
  replace V:=V (by unfold cls;rw [j])
  have M:∀ p∈ps.toList,ev ⟨sl',ob,n⟩ p.2=ev ⟨sl,ob,n⟩ p.2:=fun p hp=>A p.2 (by rw [j];simp [Op.operands];exact ⟨p.1,by simpa using hp⟩)
  unfold eF;simp only [j]
  cases C.ty t with
  | none=>rfl
  | some S =>
   simp only
   cases S.sl with
   | false=>rfl
   | true =>
    simp only [Bool.not_true,cond_false]
    cases C.ty S.elem with
    | none=>rfl
    | some T =>
     simp only
     have e1:(ps.toList.flatMap fun p=>owns (leaves (ev ⟨sl',ob,n⟩ p.2)))=ps.toList.flatMap fun p=>owns (leaves (ev ⟨sl,ob,n⟩ p.2)):=by
      simp only [List.flatMap_def];rw [List.map_congr_left fun p hp=>by rw [M p hp]]
     rw [e1]
     generalize (ps.toList.flatMap fun p=>owns (leaves (ev ⟨sl,ob,n⟩ p.2)))=fz
     cases fz with
     | cons x r=>rfl
     | nil =>
      simp only [uJ,List.isEmpty_nil,Bool.not_true,Bool.and_false,cond_false]
      rw [List.map_congr_left M]
      cases rowOf T (ps.toList.map fun p=>ev ⟨sl,ob,n⟩ p.2) with
      | none=>rfl
      | some p =>
       obtain ⟨l,st⟩:=p
       simp only
       generalize (Nat.beq l.length m&&decide (ps.toList.map (·.1)=List.range m)&&decide (m*T.sz<=1000000))=c
       cases c with|true=>exact V _ _|false=>rfl
 case load t x =>
  have M:=A x (by rw [j];simp [Op.operands])
  unfold eF;simp only [j,M,xj (sl:=sl) (sl':=sl'),O]
 case store t x v =>
  replace X:=X (by unfold cls;rw [j])
  have M:=A x (by rw [j];simp [Op.operands])
  have W:=A v (by rw [j];simp [Op.operands])
  unfold eF;simp only [j,M,W]
  cases C.ty t with
  | none=>rfl
  | some T =>
   simp only
   generalize hx:ev ⟨sl,ob,n⟩ x=ax at *
   cases ax <;> try rfl
   case ptr k off =>
    simp only [gu (sl:=sl) (sl':=sl')]
    cases (⟨sl,ob,n⟩:St).obj k with
    | none=>rfl
    | some z =>
     cases z <;> try rfl
     rename_i ty ls
     simp only
     generalize (Nat.beq (leaves (ev ⟨sl,ob,n⟩ v)).length T.sz&&(leaves (ev ⟨sl,ob,n⟩ v)).all known&&decide (off+T.sz<=ls.length))=c
     cases c with|true=>exact X _ _ _|false=>rfl
   case el k i off =>
    simp only
    generalize owns (leaves (ev ⟨sl,ob,n⟩ v))=fz
    cases fz with
    | cons y r=>rfl
    | nil =>
     simp only [uJ,List.isEmpty_nil,Bool.not_true,Bool.and_false,cond_false,hx,M,W,gu (sl:=sl) (sl':=sl')]
     cases (⟨sl,ob,n⟩:St).obj k with
     | none=>rfl
     | some z =>
      cases z <;> try rfl
      rename_i e l st
      simp only
      cases C.ty e with
      | none=>rfl
      | some D =>
       simp only
       generalize (Nat.beq (leaves (ev ⟨sl,ob,n⟩ v)).length T.sz&&decide (off+T.sz<=D.sz)&&fitAll ((D.lv.drop off).take T.sz) (leaves (ev ⟨sl,ob,n⟩ v)))=c
       cases c with|true=>exact X _ _ _|false=>rfl
   case ap k n' =>
    simp only [gu (sl:=sl) (sl':=sl')]
    cases (⟨sl,ob,n⟩:St).obj k with
    | none=>rfl
    | some z =>
     cases z <;> try rfl
     rename_i e l st
     cases oE C T with
     | none=>rfl
     | some kk =>
      simp only
      generalize (Nat.beq e T.elem&&Nat.beq n' T.sz)=c
      cases c with
      | false=>rfl
      | true =>
       simp only [cond_true]
       generalize ev ⟨sl,ob,n⟩ v=y
       cases y <;> try rfl
       ·rename_i vs
        simp only
        cases fitAll T.lv vs with|true=>exact X _ _ _|false=>rfl
       ·rename_i e' m' l'
        simp only
        generalize (Nat.beq e' e&&Nat.beq m' T.sz)=c
        cases c with|true=>exact X _ _ _|false=>rfl
 case convert f t x =>
  have M:=A x (by rw [j];simp [Op.operands])
  unfold eF;simp only [j,M]
  cases C.ty f with
  | none=>rfl
  | some F=>cases C.ty t with
   | none=>rfl
   | some T =>
    simp only
    cases !(!F.agg && !T.agg) with
    | true=>rfl
    | false =>
     simp only [cond_false]
     split <;> first|exact O _|exact vF (fun k _=>gu k) O
 case indexAddr t x i =>
  have M:=A x (by rw [j];simp [Op.operands])
  have W:=A i (by rw [j];simp [Op.operands])
  unfold eF;simp only [j,M,W,gu (sl:=sl) (sl':=sl'),O]
 case slice t x lo hi mx =>
  cases mx with
  | some m=>unfold eF;simp only [j]
  | none =>
   have M:=A x (by rw [j];simp [Op.operands])
   have hb:bounds ⟨sl',ob,n⟩ (ev ⟨sl,ob,n⟩ x) lo hi=bounds ⟨sl,ob,n⟩ (ev ⟨sl,ob,n⟩ x) lo hi:=by
    unfold bounds
    rw [ve (sl:=sl) (sl':=sl')]
    cases me ⟨sl,ob,n⟩ (ev ⟨sl,ob,n⟩ x) with
    | none=>rfl
    | some z =>
     cases lo with
     | none=>cases hi with
      | none=>rfl
      | some b=>simp only [A b (by rw [j];simp [Op.operands])]
     | some b=>cases hi with
      | none=>simp only [A b (by rw [j];simp [Op.operands])]
      | some d=>simp only [A b (by rw [j];simp [Op.operands]),A d (by rw [j];simp [Op.operands])]
   unfold eF;simp only [j,M,hb,gu (sl:=sl) (sl':=sl'),O]
 case range t x =>
  replace V:=V (by unfold cls;rw [j])
  have M:=A x (by rw [j];simp [Op.operands])
  unfold eF;simp only [j,M]
  cases C.ty t with
  | none=>rfl
  | some T =>
   generalize ev ⟨sl,ob,n⟩ x=y
   cases y <;> try rfl
   simp only
   cases l9 T with
   | false=>rfl
   | true=>exact V _ _
 case next x b=>cases b <;> unfold eF <;> simp only [j] <;> rfl
 case call c =>
  unfold eF;simp only [j]
  cases U:c.callee with
  | invoke x m=>rfl
  | value f =>
   have M:=A f (by rw [j];simp [Op.operands,Call.operands,U])
   simp only [M]
   generalize ev ⟨sl,ob,n⟩ f=y
   cases y <;> try rfl
   rename_i g
   dsimp only
   cases C.mv g with
   | true=>rfl
   | false =>
   simp only [cond_false]
   cases lt with
   | true=>exact uq (ae rfl) (fun x hx=>A x (by rw [j];simp [Op.operands,Call.operands,U];exact .inr (by simpa using hx))) fun u N n' h=>hK u N n' (fun ad=>by unfold cls at ad;simp [j,U] at ad) (fun _=>h)
   | false =>
    replace X:=X (by unfold cls;simp only [j,U];rfl)
    exact zx (fun x hx=>A x (by rw [j];simp [Op.operands,Call.operands,U];exact .inr (by simpa using hx))) X
  | builtin b =>
   simp only
   have M:∀ x∈c.args.toList,ev ⟨sl',ob,n⟩ x=ev ⟨sl,ob,n⟩ x:=fun x hx=>A x (by rw [j];simp [Op.operands,Call.operands,U];simpa using hx)
   unfold dR
   generalize c.args.toList=l at M
   generalize c.argTypes.toList=ts
   match l,M with
   | [],_=>cases b <;> rfl
   | [x],M =>
    have a1:=M x (by simp)
    cases b <;> try rfl
    case len=>simp only [a1,ve (sl:=sl) (sl':=sl'),O]
    case unsafeSliceData=>simp only [a1,ic,gu (sl:=sl) (sl':=sl'),O]
   | [x,y],M =>
    have a1:=M x (by simp);have a2:=M y (by simp)
    cases b <;> try rfl
    case append =>
     simp only [a1,a2]
     split
     ·unfold sU
      simp only [AE (sl:=sl) (sl':=sl'),cond_true]
     ·rfl
    case max=>simp only [a1,a2,O]
    case min=>simp only [a1,a2,O]
    case unsafeString =>
     replace X:=X (by unfold cls;simp only [j,U])
     have h3:∀ k u,K (((⟨sl,ob,n⟩:St).setObj k .hole).put o.dst u)=K' (((⟨sl',ob,n⟩:St).setObj k .hole).put o.dst u):=fun k u=>X u _ _
     simp only [a1,a2,ub,gu (sl:=sl) (sl':=sl'),O,h3]
   | _::_::_::_,_=>cases b <;> rfl
end
end Go.Proofs.Ab
namespace Go.Proofs.Ab
open Go
variable {R:Type}
section
variable {o:Oper} {s:St} {C:Cfg R} {K:St->Option R} {q:Bool} {r:R}
theorem A4 {op:BinOp} {k:IntKind} {x y:Int} {κ : SV->Option R} (h:zq op k x y κ = some r):∃ v,∀ f:SV->Option R,zq op k x y f=f v:=by
 cases op <;> simp only [zq] at h ⊢ <;> first
  | exact ⟨_,fun _=>rfl⟩
  | (obtain ⟨j,_⟩:=cX h;exact ⟨_,fun f=>by rw [j];rfl⟩)
  | cases h
theorem D5 {op:BinOp} {k:IntKind} {x y:Int} {κ : SV->Option R} (h:FQ op k x y κ = some r):∃ v,∀ f:SV->Option R,FQ op k x y f=f v:=by
 cases op <;> simp only [FQ] at h ⊢ <;> first
  | exact ⟨_,fun _=>rfl⟩
  | (obtain ⟨j,_⟩:=cX h;exact ⟨_,fun f=>by rw [j];rfl⟩)
  | cases h
theorem A5 {op:BinOp} {x y:ByteArray} {κ : SV->Option R} (h:wA op x y κ = some r):∃ v,∀ f:SV->Option R,wA op x y f=f v:=by
 cases op <;> simp only [wA] at h ⊢ <;> first
  | exact ⟨_,fun _=>rfl⟩
  | (obtain ⟨j,_⟩:=cX h;exact ⟨_,fun f=>by rw [j];rfl⟩)
  | cases h
theorem A6 {m:Nat} {lv:List LK} {op:BinOp} {x y:SV} {κ : SV->Option R} (h:zr m lv op x y κ = some r):∃ v,∀ f:SV->Option R,zr m lv op x y f=f v:=by
 unfold zr at h ⊢
 split at h
 ·rename_i k a A b
  cases u:BZ op with
  | true =>
   rw [u] at h;simp only [cond_true] at h ⊢
   exact D5 h
  | false =>
   rw [u] at h;simp only [cond_false] at h ⊢
   obtain ⟨j,h⟩:=bY h
   rw [j];exact A4 h
 ·exact A5 h
 ·obtain ⟨j,h⟩:=bY h
  simp only [j,cond_true]
  split at h
  ·exact ⟨_,fun _=>rfl⟩
  ·exact ⟨_,fun _=>rfl⟩
  ·cases h
 ·obtain ⟨j,h⟩:=bY h
  simp only [j,cond_true]
  split at h
  ·rename_i z;exact ⟨_,fun _=>rfl⟩
  ·rename_i z;exact ⟨_,fun _=>rfl⟩
  ·cases h
 ·cases h
theorem Ec {op:UnOp} {x:SV} {κ : SV->Option R} (h:F9 op x κ = some r):∃ v,∀ f:SV->Option R,F9 op x f=f v:=by
 unfold F9 at h ⊢
 split at h
 ·exact ⟨_,fun _=>rfl⟩
 ·exact ⟨_,fun _=>rfl⟩
 ·cases h
theorem fh {i n:Int} {k:Option R} (h:dS i n k=some r):(decide (0<=i)&&decide (i<n))=true/\k=some r:=cX h
theorem kZ {a b n:Int} {k:Option R} (h:hG a b n k=some r):(decide (0<=a)&&(decide (a<=b)&&decide (b<=n)))=true/\k=some r:=cX h
theorem dP {b:Bool} (h:b=true) (k:Option R):bF b k=k:=by rw [h];rfl
theorem pN {agg:Bool} {sz:Nat} {i:Int} {κ : SV->Option R}:∀ {n:Nat} {l:List SV} {j:Nat},ll agg sz n l j i κ = some r->∃ v,∀ f:SV->Option R,ll agg sz n l j i f=f v
 | 0,_,_,h=>by cases h
 | n+1,l,j,h=>by
  unfold ll at h ⊢
  cases m:(i == (j:Int)) with
  | true =>
   rw [m] at h;simp only [cond_true] at h ⊢
   split at h
   ·rename_i v u;exact ⟨v,fun _=>rfl⟩
   ·cases h
  | false =>
   rw [m] at h;simp only [cond_false] at h ⊢
   exact pN h
theorem yN {lt:Bool} (hc:cls lt o<=1) (h:eF C true o s K=some r):∃ u,∀ K':St->Option R,eF C true o s K'=K' (s.put o.dst u):=by
 unfold eF at h ⊢
 cases ho:o.op <;> (try (exfalso;revert hc;unfold cls;rw [ho];simp;done)) <;> simp only [ho] at h ⊢
 case move x=>exact ⟨_,fun _=>rfl⟩
 case assign x=>exact ⟨_,fun _=>rfl⟩
 case pick c x y =>
  split at h
  ·rename_i t ht
   cases t with
   | true=>exact ⟨ev s x,fun _=>rfl⟩
   | false=>exact ⟨ev s y,fun _=>rfl⟩
  ·cases h
 case build t ps =>
  split at h
  ·rename_i T N
   by_cases hc:(T.agg&&(T.flds.isEmpty && !(Nat.beq T.elem 0)))=true
   ·simp only [N,hc,cond_true] at h ⊢
    split at h
    ·rename_i D hD
     split at h
     ·rename_i l Y;exact ⟨_,fun K'=>by first|rfl|simp only [hD,Y]⟩
     ·cases h
    ·cases h
   have ap:(T.agg&&(T.flds.isEmpty && !(Nat.beq T.elem 0)))=false:=by simpa using hc
   simp only [N,ap,cond_false] at h ⊢
   split at h
   ·rename_i l Y
    obtain ⟨M,h⟩:=bY h
    exact ⟨_,fun K'=>by first|rfl|(simp only [N,Y,M,cond_true];rfl)|simp only [N,Y,M,cond_true]⟩
   ·cases h
  ·cases h
 case load t x =>
  split at h
  ·rename_i T N
   split at h
   ·rename_i v hv;exact ⟨_,fun K'=>by first|rfl|(simp only [N,hv];rfl)|simp only [N,hv]⟩
   ·cases h
  ·cases h
 case nilCheck x =>
  split at h
  ·rename_i t n hx;exact ⟨_,fun K'=>by first|rfl|(simp only [hx];rfl)|simp only [hx]⟩
  ·rename_i e n l st hx;exact ⟨_,fun K'=>by first|rfl|(simp only [hx];rfl)|simp only [hx]⟩
  ·rename_i t off hx;exact ⟨_,fun K'=>by first|rfl|(simp only [hx];rfl)|simp only [hx]⟩
  ·rename_i t i off hx;exact ⟨_,fun K'=>by first|rfl|(simp only [hx];rfl)|simp only [hx]⟩
  ·rename_i e l st i off hx;exact ⟨_,fun K'=>by first|rfl|(simp only [hx];rfl)|simp only [hx]⟩
  ·cases h
 case binOp op t x y u =>
  cases hn:tA op (ev s x) (ev s y) with
  | true=>rw [hn] at h;cases h
  | false=>rw [hn] at h;obtain ⟨v,hv⟩:=A6 h;exact ⟨v,fun K'=>hv _⟩
 case unOp op t x =>
  obtain ⟨v,hv⟩:=Ec h;exact ⟨v,fun K'=>hv _⟩
 case convert f t x =>
  split at h
  ·rename_i F T hF N
   obtain ⟨M,h⟩:=fH h
   split at h
   ·rename_i z A W;exact ⟨_,fun K'=>by first|rfl|(simp only [M,cond_false,hF,N,z,A,W];rfl)|simp only [M,cond_false,hF,N,z,A,W]⟩
   ·rename_i z A W;exact ⟨_,fun K'=>by first|rfl|(simp only [M,cond_false,hF,N,z,A,W];rfl)|simp only [M,cond_false,hF,N,z,A,W]⟩
   ·rename_i z A W;exact ⟨_,fun K'=>by first|rfl|(simp only [M,cond_false,hF,N,z,A,W];rfl)|simp only [M,cond_false,hF,N,z,A,W]⟩
   ·simp only [cond_true] at h
    obtain ⟨u,hu⟩:=Cq h
    refine ⟨u,fun K' => ?_⟩
    simp only [M,cond_false]
    exact hu K'
  ·cases h
 case slice t x lo hi mx =>
  cases mx with
  | some m=>cases h
  | none =>
   simp only at h ⊢
   split at h
   ·rename_i T a b N hb
    obtain ⟨M,h⟩:=fH h
    split at h
    ·rename_i bs e
     rw [e] at M
     obtain ⟨U,h⟩:=kZ h
     exact ⟨_,fun K'=>by first|rfl|(simp only [N,hb,M,cond_false,e,hG,dP U];rfl)|simp only [N,hb,M,cond_false,e,hG,dP U]⟩
    ·rename_i el l st e
     rw [e] at M
     obtain ⟨O,h⟩:=bY h
     obtain ⟨U,h⟩:=kZ h
     exact ⟨_,fun K'=>by first|rfl|(simp only [N,hb,M,O,cond_true,cond_false,e,hG,dP U];rfl)|simp only [N,hb,M,O,cond_true,cond_false,e,hG,dP U]⟩
    ·rename_i k e
     rw [e] at M
     split at h
     ·rename_i el l st V
      obtain ⟨O,h⟩:=bY h
      obtain ⟨U,h⟩:=kZ h
      exact ⟨_,fun K'=>by first|rfl|(simp only [N,hb,M,O,V,cond_true,cond_false,e,hG,dP U];rfl)|simp only [N,hb,M,O,V,cond_true,cond_false,e,hG,dP U]⟩
     ·cases h
    ·cases h
   ·cases h
 case fieldAddr st x f =>
  split at h
  ·rename_i T N
   split at h
   ·rename_i z A
    obtain ⟨M,h⟩:=fH h
    exact ⟨_,fun K'=>by first|rfl|(simp only [N,z,A,M,cond_false];rfl)|simp only [N,z,A,M,cond_false]⟩
   ·rename_i z A
    obtain ⟨M,h⟩:=fH h
    exact ⟨_,fun K'=>by first|rfl|(simp only [N,z,A,M,cond_false];rfl)|simp only [N,z,A,M,cond_false]⟩
   ·rename_i z A
    obtain ⟨M,h⟩:=fH h
    exact ⟨_,fun K'=>by first|rfl|(simp only [N,z,A,M,cond_false];rfl)|simp only [N,z,A,M,cond_false]⟩
   ·cases h
  ·cases h
 case field st x f =>
  split at h
  ·rename_i T N
   split at h
   ·rename_i z A
    split at h
    ·rename_i v hv
     obtain ⟨M,h⟩:=bY h
     exact ⟨_,fun K'=>by first|rfl|(simp only [N,z,A,hv,M,cond_true];rfl)|simp only [N,z,A,hv,M,cond_true]⟩
    ·cases h
   ·cases h
  ·cases h
 case indexAddr t x i =>
  split at h
  ·rename_i S hS
   by_cases ad:S.sl=false
   ·simp only [hS,ad,Bool.not_false,cond_true] at h ⊢
    split at h
    ·rename_i z A W
     split at h
     ·rename_i el l st V
      obtain ⟨O,h⟩:=bY h
      obtain ⟨U,h⟩:=fh h
      exact ⟨_,fun K'=>by first|rfl|(simp only [z,A,W,V,O,cond_true,dS,dP U];rfl)|simp only [z,A,W,V,O,cond_true,dS,dP U]⟩
     ·cases h
    ·rename_i z A W
     obtain ⟨O,h⟩:=bY h
     obtain ⟨U,h⟩:=fh h
     exact ⟨_,fun K'=>by first|rfl|(simp only [z,A,W,O,cond_true,dS,dP U];rfl)|simp only [z,A,W,O,cond_true,dS,dP U]⟩
    ·cases h
   have M:(!S.sl)=false:=by simpa using ad
   simp only [M,cond_false] at h
   split at h
   ·rename_i T k j N hj
    split at h
    ·rename_i tt e
     split at h
     ·rename_i el l st V
      obtain ⟨O,h⟩:=bY h
      obtain ⟨U,h⟩:=fh h
      exact ⟨_,fun K'=>by first|rfl|(simp only [hS,M,cond_false,N,hj,e,V,O,cond_true,dS,dP U];rfl)|simp only [hS,M,cond_false,N,hj,e,V,O,cond_true,dS,dP U]⟩
     ·cases h
    ·rename_i tt lo hi e
     split at h
     ·rename_i el l st V
      obtain ⟨O,h⟩:=bY h
      obtain ⟨U,h⟩:=fh h
      exact ⟨_,fun K'=>by first|rfl|(simp only [hS,M,cond_false,N,hj,e,V,O,cond_true,dS,dP U];rfl)|simp only [hS,M,cond_false,N,hj,e,V,O,cond_true,dS,dP U]⟩
     ·cases h
    ·rename_i el l st e
     obtain ⟨O,h⟩:=bY h
     obtain ⟨U,h⟩:=fh h
     exact ⟨_,fun K'=>by first|rfl|(simp only [hS,M,cond_false,N,hj,e,O,cond_true,dS,dP U];rfl)|simp only [hS,M,cond_false,N,hj,e,O,cond_true,dS,dP U]⟩
    ·cases h
   ·cases h
  ·cases h
 case index t x i =>
  split at h
  ·rename_i z A W
   obtain ⟨O,h⟩:=bY h
   obtain ⟨U,h⟩:=fh h
   exact ⟨_,fun K'=>by first|rfl|(simp only [z,A,W,O,cond_true,dS,dP U];rfl)|simp only [z,A,W,O,cond_true,dS,dP U]⟩
  ·rename_i z A W
   split at h
   ·rename_i k hk
    obtain ⟨O,h⟩:=bY h
    obtain ⟨U,h⟩:=fh h
    exact ⟨_,fun K'=>by first|rfl|(simp only [z,A,W,hk,O,cond_true,dS,dP U];rfl)|simp only [z,A,W,hk,O,cond_true,dS,dP U]⟩
   ·cases h
  ·rename_i z A W
   obtain ⟨M,h⟩:=bY h
   split at h
   ·rename_i D hD
    obtain ⟨O,h⟩:=bY h
    obtain ⟨v,hv⟩:=pN h
    exact ⟨v,fun K'=>by simp only [z,A,W,M,hD,O,cond_true,hv]⟩
   ·cases h
  ·cases h
 case extract x j =>
  split at h
  ·rename_i e
   obtain ⟨O,h⟩:=bY h
   exact ⟨_,fun K'=>by first|rfl|(simp only [e,O,cond_true];rfl)|simp only [e,O,cond_true]⟩
  ·cases h
 case call c =>
  cases X:c.callee with
  | invoke x m=>rw [X] at h;cases h
  | value f=>exfalso;revert hc;unfold cls;cases lt <;> simp [ho,X]
  | builtin b =>
   rw [X] at h;simp only at h ⊢
   unfold dR at h ⊢
   split at h
   ·rename_i x Y
    split at h
    ·rename_i t ts ae
     split at h
     ·rename_i z A
      obtain ⟨O,h⟩:=bY h
      exact ⟨_,fun K'=>by first|rfl|(simp only [Y,ae,z,A,O,cond_true];rfl)|simp only [Y,ae,z,A,O,cond_true]⟩
     ·cases h
    ·cases h
   ·exfalso;revert hc;unfold cls;simp [ho,X]
   ·rename_i Y
    split at h
    ·rename_i z A;exact ⟨_,fun K'=>by first|rfl|(simp only [Y,z,A];rfl)|simp only [Y,z,A]⟩
    ·cases h
   ·rename_i Y
    split at h
    ·rename_i z A;exact ⟨_,fun K'=>by first|rfl|(simp only [Y,z,A];rfl)|simp only [Y,z,A]⟩
    ·cases h
   ·rename_i x Y
    unfold ic at h ⊢
    split at h
    ·rename_i e;exact ⟨_,fun K'=>by first|rfl|(simp only [e];rfl)|simp only [e]⟩
    ·rename_i t e
     split at h
     ·rename_i z A
      obtain ⟨O,h⟩:=bY h
      exact ⟨_,fun K'=>by first|rfl|(simp only [e,z,A,O,cond_true];rfl)|simp only [e,z,A,O,cond_true]⟩
     ·cases h
    ·cases h
   ·exfalso;revert hc;unfold cls;simp [ho,X]
   ·cases h
end
end Go.Proofs.Ab
namespace Go.Proofs.Ab
open Go
variable {R:Type}
theorem Ax (l:List SV) {i j:Nat} (h:i≠j) (u v:SV):gP (gP l i u) j v=gP (gP l j v) i u:=by
 induction l generalizing i j with
 | nil=>rfl
 | cons x r f =>
  cases i with
  | zero=>cases j with
   | zero=>exact absurd rfl h
   | succ j=>rfl
  | succ i=>cases j with
   | zero=>rfl
   | succ j=>simp only [gP];rw [f (by omega)]
theorem put_comm (s:St) {d f:Option Nat} (h:∀ x,d=some x->f≠some x) (u v:SV):(s.put d u).put f v=(s.put f v).put d u:=by
 cases d with
 | none=>rfl
 | some i=>cases f with
  | none=>rfl
  | some j =>
   have:i≠j:=fun e=>h i rfl (by rw [e])
   simp only [St.put];rw [Ax _ this]
section
variable {ops:Array Oper} {o x y:Oper} {s s':St} {sl sl':List SV} {ob:List (Nat × Obj)} {n:Nat} {C:Cfg R} {K K':St->Option R} {r:R}
theorem vn {t:Nat} (h:Operand.tmp t∈o.op.operands):t∈looks ops.toList o:=by
 unfold looks
 refine List.mem_append_left _ (List.mem_filterMap.2 ⟨.tmp t,by simpa using h,rfl⟩)
theorem iy {j d:Nat} {b:Bool} (h:o.guard=some (j,b)) (f:w7 ops j=some d):d∈looks ops.toList o:=by
 unfold looks
 refine List.mem_append_right _ ?_
 rw [h];unfold w7 at f
 simp [f]
theorem BD (h:∀ t∈looks ops.toList o,s'.get t=s.get t):∀ x∈o.op.operands,ev s' x=ev s x:=by
 intro x f
 cases x with
 | tmp t=>exact h t (vn f)
 | const v=>unfold ev;split <;> first|rfl|contradiction
 | _=>rfl
theorem V2 {lt:Bool} (m:lt=true->AM C) (h:∀ t∈looks ops.toList o,e6 sl' t=e6 sl t)
  (z:∀ u f n',(cls lt o<=1->f=ob/\n'=n)->(cls lt o<=2->Nm ob n->ou ob f/\Nm f n')->K ((⟨sl,f,n'⟩:St).put o.dst u)=K' ((⟨sl',f,n'⟩:St).put o.dst u)):dk C true ops o ⟨sl,ob,n⟩ K=dk C true ops o ⟨sl',ob,n⟩ K':=by
 have hu:=U2 (C:=C) m (BD (s:=⟨sl,ob,n⟩) (s':=⟨sl',ob,n⟩) h) z
 rw [ew,ew]
 cases A:o.guard with
 | none=>exact hu
 | some g =>
  obtain ⟨j,want⟩:=g
  simp only
  cases M:w7 ops j with
  | none=>rfl
  | some d =>
   have e:(⟨sl',ob,n⟩:St).get d=(⟨sl,ob,n⟩:St).get d:=h d (iy A M)
   simp only [e]
   cases (⟨sl,ob,n⟩:St).get d <;> try rfl
   ·exact z _ _ _ (fun _=>⟨rfl,rfl⟩) (fun _ h=>⟨ou.refl _,h⟩)
   ·simp only
    split
    ·exact hu
    ·exact z _ _ _ (fun _=>⟨rfl,rfl⟩) (fun _ h=>⟨ou.refl _,h⟩)
theorem V0 {lt:Bool} (m:cls lt o=0) (h:∀ t∈looks ops.toList o,s'.get t=s.get t) (f:∀ u,K (s.put o.dst u)=K' (s'.put o.dst u)):dk C true ops o s K=dk C true ops o s' K':=by
 have hu:=U0 (C:=C) m (BD h) f
 rw [ew,ew]
 cases z:o.guard with
 | none=>exact hu
 | some g =>
  obtain ⟨j,want⟩:=g
  simp only
  cases A:w7 ops j with
  | none=>rfl
  | some d =>
   have e:s'.get d=s.get d:=h d (iy z A)
   simp only [e]
   cases s.get d <;> try rfl
   ·exact f _
   ·simp only
    split
    ·exact hu
    ·exact f _
def Ee (C:Cfg R) (ops:Array Oper) (o:Oper) (s:St) (u:SV):Prop:=∀ K:St->Option R,dk C true ops o s K=K (s.put o.dst u)
theorem V1 {lt:Bool} (A:cls lt o<=1) (h:∀ t∈looks ops.toList o,s'.get t=s.get t) (f:∀ t∈looks ops.toList o,∀ k,tok (s.get t)=some k->s'.obj k=s.obj k) (z:∀ u,K (s.put o.dst u)=K' (s'.put o.dst u)):dk C true ops o s K=dk C true ops o s' K':=by
 have hu:=U1 (C:=C) A (BD h) (fun x M k m=>by
  cases x with
  | tmp t=>exact f t (vn M) k m
  | const v=>exfalso;unfold ev at m;split at m <;> simp_all [tok]
  | _=>cases m) z
 rw [ew,ew]
 cases N:o.guard with
 | none=>exact hu
 | some g =>
  obtain ⟨j,want⟩:=g
  simp only
  cases O:w7 ops j with
  | none=>rfl
  | some d =>
   have e:s'.get d=s.get d:=h d (iy N O)
   simp only [e]
   cases s.get d <;> try rfl
   ·exact z _
   ·simp only
    split
    ·exact hu
    ·exact z _
theorem nv {lt:Bool} (f:cls lt o<=1) (h:dk C true ops o s K=some r):∃ u,Ee C ops o s u:=by
 unfold Ee
 rw [ew] at h
 simp only [ew]
 cases m:o.guard with
 | none=>rw [m] at h;exact yN f h
 | some g =>
  obtain ⟨j,want⟩:=g
  rw [m] at h;simp only at h ⊢
  cases z:w7 ops j with
  | none=>rw [z] at h;cases h
  | some d =>
   rw [z] at h;simp only at h ⊢
   cases A:s.get d <;> rw [A] at h <;> try (cases h;done)
   ·exact ⟨_,fun _=>rfl⟩
   ·simp only at h ⊢
    rename_i t
    by_cases e:t=want
    ·simp only [e,if_true] at h ⊢;exact yN f h
    ·simp only [e,if_false] at h ⊢;exact ⟨_,fun _=>rfl⟩
structure uh (ops:Array Oper) (x y:Oper):Prop where
 xl:∀ d,x.dst=some d->d ∉ looks ops.toList y
 yl:∀ d,y.dst=some d->d ∉ looks ops.toList x
 ne:∀ d,x.dst=some d->y.dst≠some d
theorem uh.symm (h:uh ops x y):uh ops y x:=⟨h.yl,h.xl,fun d f j=>h.ne d j f⟩
theorem apart_spec {lt:Bool} (h:apart lt ops.toList x y=true):uh ops x y/\(cls lt x=0∨cls lt y=0∨(cls lt x<=1/\cls lt y<=2)∨(cls lt x<=2/\cls lt y<=1)):=by
 unfold apart at h
 simp only [Bool.and_eq_true,Bool.or_eq_true] at h
 obtain ⟨⟨f,m⟩,z⟩:=h
 refine ⟨⟨fun d u j => ?_,fun d u j => ?_,fun d u hy => ?_⟩,?_⟩
 ·rw [u] at m
  simp only [Bool.and_eq_true,Bool.not_eq_true',List.any_eq_false] at m
  exact m.1 d j (Nat.beq_refl d)
 ·rw [u] at z
  simp only [Bool.not_eq_true',List.any_eq_false] at z
  exact z d j (Nat.beq_refl d)
 ·rw [u] at m
  simp only [Bool.and_eq_true,Bool.not_eq_true',List.any_eq_false] at m
  exact m.2 d (by rw [hy];simp) (Nat.beq_refl d)
 ·rcases f with ((f|f)|f)|f
  ·exact .inl (Nat.eq_of_beq_eq_true f)
  ·exact .inr (.inl (Nat.eq_of_beq_eq_true f))
  ·exact .inr (.inr (.inl ⟨Nat.le_of_ble_eq_true f.1,Nat.le_of_ble_eq_true f.2⟩))
  ·exact .inr (.inr (.inr ⟨Nat.le_of_ble_eq_true f.1,Nat.le_of_ble_eq_true f.2⟩))
theorem gZ {d:Option Nat} {v:SV} {t:Nat} (h:d≠some t):(s.put d v).get t=s.get t:=by
 cases d with
 | none=>rfl
 | some d =>
  simp only [St.put,St.get,rm]
  rw [if_neg]
  rintro ⟨e,_⟩;exact h (by rw [e])
theorem frame {lt:Bool} (j:lt=true->AM C) (m:∀ u f n',(cls lt o<=1->f=s.objs/\n'=s.next)->(cls lt o<=2->Nm s.objs s.next->ou s.objs f/\Nm f n')->K ((⟨s.slots,f,n'⟩:St).put o.dst u)=K' ((⟨s.slots,f,n'⟩:St).put o.dst u)):dk C true ops o s K=dk C true ops o s K' :=
 V2 (sl:=s.slots) (sl':=s.slots) (ob:=s.objs) (n:=s.next) j (fun _ _=>rfl) m
theorem FG (s:St) (d:Option Nat) (v:SV):s.put d v=⟨(s.put d v).slots,s.objs,s.next⟩:=by cases d <;> rfl
theorem pH (s:St) (ob:List (Nat × Obj)) (n:Nat) (d:Option Nat) (v:SV):(⟨(s.put d v).slots,ob,n⟩:St)=(⟨s.slots,ob,n⟩:St).put d v:=by cases d <;> rfl
theorem jj {lt:Bool} (f:lt=true->AM C) (h:uh ops x y) (v:SV):dk C true ops x (s.put y.dst v) K=dk C true ops x s (fun s1=>K (s1.put y.dst v)):=by
 rw [FG s y.dst v]
 refine (V2 (sl:=s.slots) (sl':=(s.put y.dst v).slots) (ob:=s.objs) (n:=s.next) f (fun t j => ?_) (fun u m n' _ _ => ?_)).symm
 ·exact gZ (s:=s) (fun e=>h.yl t e j)
 ·rw [pH,put_comm _ (fun d z=>h.ne d z)]
def Tk (ops:Array Oper) (y:Oper) (s:St):Prop:=∀ t∈looks ops.toList y,∀ k,tok (s.get t)=some k->∃ o,s.obj k=some o
theorem Tk.after (h:uh ops x y) (z:Tk ops y s) {f:List (Nat × Obj)} {n':Nat} (he:ou s.objs f) (v:SV):Tk ops y ((⟨s.slots,f,n'⟩:St).put x.dst v)/\(∀ t∈looks ops.toList y,((⟨s.slots,f,n'⟩:St).put x.dst v).get t=s.get t)/\∀ t∈looks ops.toList y,∀ k,tok (s.get t)=some k->((⟨s.slots,f,n'⟩:St).put x.dst v).obj k=s.obj k:=by
 have m:∀ t∈looks ops.toList y,((⟨s.slots,f,n'⟩:St).put x.dst v).get t=s.get t:=fun t z=>gZ (s:=⟨s.slots,f,n'⟩) (fun e=>h.xl t e z)
 have objs:∀ k,((⟨s.slots,f,n'⟩:St).put x.dst v).obj k=lookup k f:=fun k=>by
  cases x.dst <;> rfl
 have same:∀ t∈looks ops.toList y,∀ k,tok (s.get t)=some k->((⟨s.slots,f,n'⟩:St).put x.dst v).obj k=s.obj k:=fun t j k u=>by
  obtain ⟨o,A⟩:=z t j k u
  rw [objs,A];exact he k o A
 refine ⟨fun t j k u => ?_,m,same⟩
 rw [m t j] at u
 rw [same t j k u];exact z t j k u
theorem qY {lt:Bool} (h:uh ops x y) (A:cls lt y<=1) (M:Tk ops y s) {u v:SV} (z:Ee C ops y s u) {f:List (Nat × Obj)} {n':Nat} (he:ou s.objs f):Ee C ops y ((⟨s.slots,f,n'⟩:St).put x.dst v) u:=by
 intro K
 obtain ⟨_,j,same⟩:=M.after (n':=n') h he v
 have key:∀ m,(fun s2:St=>K ((⟨s2.slots,f,n'⟩:St).put x.dst v)) (s.put y.dst m)=K (((⟨s.slots,f,n'⟩:St).put x.dst v).put y.dst m):=by
  intro m
  show K ((⟨(s.put y.dst m).slots,f,n'⟩:St).put x.dst v)=_
  rw [pH,put_comm _ (fun d z=>h.symm.ne d z)]
 exact ((V1 (C:=C) A j same key).symm.trans (z (fun s2:St=>K ((⟨s2.slots,f,n'⟩:St).put x.dst v)))).trans (key u)
theorem xt {lt:Bool} (h:uh ops x y) (u:cls lt y<=1) (z:Tk ops y s) {v:SV} (m:∀ K:St->Option R,dk C true ops y s K=none) {f:List (Nat × Obj)} {n':Nat} (he:ou s.objs f):∀ K:St->Option R,dk C true ops y ((⟨s.slots,f,n'⟩:St).put x.dst v) K=none:=by
 intro K
 obtain ⟨_,j,same⟩:=z.after (n':=n') h he v
 refine (V1 (C:=C) (K:=fun s2:St=>K ((⟨s2.slots,f,n'⟩:St).put x.dst v)) u j same fun A => ?_).symm.trans (m _)
 show K ((⟨(s.put y.dst A).slots,f,n'⟩:St).put x.dst v)=_
 rw [pH,put_comm _ (fun d m=>h.symm.ne d m)]
theorem my (s:St) (d:Option Nat) (v:SV):(s.put d v).objs=s.objs/\(s.put d v).next=s.next:=by cases d <;> exact ⟨rfl,rfl⟩
theorem Ew {lt:Bool} (f:lt=true->AM C) (O:cls lt y<=1) {u:SV} {j:List Oper} {κ : St->Option R}:∀ (xs:List Oper) {s:St},(∀ x∈xs,uh ops x y/\cls lt x<=2)->Tk ops y s->Nm s.objs s.next->Ee C ops y s u->eZ C true ops (xs++y::j) s κ = eZ C true ops (xs++j) (s.put y.dst u) κ
 | [],s,_,_,_,m=>m _
 | x::xs,s,U,V,X,m=>by
  obtain ⟨A,M⟩:=U x (by simp)
  show dk C true ops x s (fun s1=>eZ C true ops (xs++y::j) s1 κ)=dk C true ops x (s.put y.dst u) (fun s1=>eZ C true ops (xs++j) s1 κ)
  rw [jj f A]
  refine frame f fun v Y n' ho N => ?_
  obtain ⟨W,h2⟩:=N M X
  exact Ew f O xs (fun z hz=>U z (by simp [hz])) (V.after A W v).1 (by rw [(my _ _ _).1,(my _ _ _).2];exact h2) (qY A O V m W)
theorem Ez {lt:Bool} (f:lt=true->AM C) (A:cls lt y<=1) {V:List Oper} {κ : St->Option R}:∀ (xs:List Oper) {s:St},(∀ x∈xs,uh ops x y/\cls lt x<=2)->Tk ops y s->Nm s.objs s.next->(∀ K:St->Option R,dk C true ops y s K=none)->eZ C true ops (xs++y::V) s κ = eZ C true ops xs s (fun _=>none)
 | [],s,_,_,_,j=>j _
 | x::xs,s,M,N,W,j=>by
  obtain ⟨O,m⟩:=M x (by simp)
  refine frame f fun v X n' ho u => ?_
  obtain ⟨U,Y⟩:=u m W
  exact Ez f A xs (fun z hz=>M z (by simp [hz])) (N.after O U v).1 (by rw [(my _ _ _).1,(my _ _ _).2];exact Y) (xt O A N j U)
theorem oY {lt:Bool} (h:uh ops x y) (A:cls lt y=0) {u v:SV} (z:Ee C ops y s u) {f:List (Nat × Obj)} {n':Nat}:Ee C ops y ((⟨s.slots,f,n'⟩:St).put x.dst v) u:=by
 intro K
 have j:∀ t∈looks ops.toList y,((⟨s.slots,f,n'⟩:St).put x.dst v).get t=s.get t:=fun t M=>gZ (s:=⟨s.slots,f,n'⟩) (fun e=>h.xl t e M)
 have key:∀ m,(fun s2:St=>K ((⟨s2.slots,f,n'⟩:St).put x.dst v)) (s.put y.dst m)=K (((⟨s.slots,f,n'⟩:St).put x.dst v).put y.dst m):=by
  intro m
  show K ((⟨(s.put y.dst m).slots,f,n'⟩:St).put x.dst v)=_
  rw [pH,put_comm _ (fun d z=>h.symm.ne d z)]
 exact ((V0 (C:=C) A j key).symm.trans (z (fun s2:St=>K ((⟨s2.slots,f,n'⟩:St).put x.dst v)))).trans (key u)
theorem vt {lt:Bool} (h:uh ops x y) (m:cls lt y=0) {v:SV} (j:∀ K:St->Option R,dk C true ops y s K=none) {f:List (Nat × Obj)} {n':Nat}:∀ K:St->Option R,dk C true ops y ((⟨s.slots,f,n'⟩:St).put x.dst v) K=none:=by
 intro K
 refine Eq.trans ?_ (j (fun s2:St=>K ((⟨s2.slots,f,n'⟩:St).put x.dst v)))
 refine (V0 (s:=s) (lt:=lt) m (fun t u=>gZ (s:=⟨s.slots,f,n'⟩) (fun e=>h.xl t e u)) fun z => ?_).symm
 show K ((⟨(s.put y.dst z).slots,f,n'⟩:St).put x.dst v)=_
 rw [pH,put_comm _ (fun d j=>h.symm.ne d j)]
theorem Ev {lt:Bool} (f:lt=true->AM C) (A:cls lt y=0) {u:SV} {j:List Oper} {κ : St->Option R}:∀ (xs:List Oper) {s:St},(∀ x∈xs,uh ops x y)->Ee C ops y s u->eZ C true ops (xs++y::j) s κ = eZ C true ops (xs++j) (s.put y.dst u) κ
 | [],s,_,m=>m _
 | x::xs,s,M,m=>by
  have N:=M x (by simp)
  show dk C true ops x s (fun s1=>eZ C true ops (xs++y::j) s1 κ)=dk C true ops x (s.put y.dst u) (fun s1=>eZ C true ops (xs++j) s1 κ)
  rw [jj f N]
  exact frame f fun v O n' _ _=>Ev f A xs (fun z U=>M z (by simp [U])) (oY N A m)
theorem Ey {lt:Bool} (f:lt=true->AM C) (m:cls lt y=0) {A:List Oper} {κ : St->Option R}:∀ (xs:List Oper) {s:St},(∀ x∈xs,uh ops x y)->(∀ K:St->Option R,dk C true ops y s K=none)->eZ C true ops (xs++y::A) s κ = eZ C true ops xs s (fun _=>none)
 | [],s,_,j=>j _
 | x::xs,s,u,j=>by
  have M:=u x (by simp)
  exact frame f fun v N n' _ _=>Ey f m xs (fun z O=>u z (by simp [O])) (vt M m j)
end
end Go.Proofs.Ab
namespace Go.Proofs.Ab
open Go
variable {R:Type}
section
variable {s s':St} {C:Cfg R} {K K':St->Option R} {k:Nat} {o:Obj}
def Fk (k:Nat) (s:St):Prop:=s.obj k=none/\k<s.next
theorem yM {j:Nat} (h:j≠k):(s.newAt k o).obj j=s.obj j:=by
 show lookup j (s.objs++[(k,o)])=lookup j s.objs
 rw [hY]
 cases lookup j s.objs with
 | some x=>rfl
 | none=>simp [h]
theorem DT (x:Obj):(s.newAt k o).new x=(s.new x).newAt k o:=rfl
theorem FC (h:Fk k s) (x:Obj):Fk k (s.new x):=⟨by rw [fF,if_neg (Nat.ne_of_lt h.2)];exact h.1,Nat.lt_succ_of_lt h.2⟩
theorem qb {t:Nat} (h:t≠k) (x:Obj):(s.newAt k o).setObj t x=(s.setObj t x).newAt k o:=by
 unfold St.setObj St.newAt
 have f:Nat.beq t k=false:=by
  cases f:Nat.beq t k with
  | true=>exact absurd (Nat.eq_of_beq_eq_true f) h
  | false=>rfl
 simp [f]
theorem kK (t j:Nat) (x:Obj):∀ (l:List (Nat × Obj)),lookup j l=none->lookup j (l.map fun p=>bif Nat.beq t p.1 then (p.1,x) else p)=none
 | [],_=>rfl
 | (a,b)::r,h=>by
  simp only [lookup] at h
  simp only [List.map]
  cases f:Nat.beq j a with
  | true=>rw [f] at h;cases h
  | false =>
   rw [f] at h
   cases Nat.beq t a <;> simp only [cond_true,cond_false,lookup,f] <;> exact kK t j x r h
theorem sq {t:Nat} (h:Fk k s) (x:Obj):Fk k (s.setObj t x):=⟨kK t k x s.objs h.1,h.2⟩
theorem ny {x:SV} (h:∀ k,tok x=some k->s'.obj k=s.obj k):fY s' x=fY s x:=by
 cases x <;> first
  | rfl
  | (simp only [fY,h _ rfl];done)
theorem wQ {x:SV} (h:∀ k,tok x=some k->s'.obj k=s.obj k):lU s' x=lU s x:=by
 cases x <;> first
  | rfl
  | (simp only [lU,h _ rfl];done)
theorem nA:∀ {l:List SV},(∀ x∈l,∀ k,tok x=some k->s'.obj k=s.obj k)->gE s' l=gE s l
 | [],_=>rfl
 | x::r,h=>by
  have f:gE s' r=gE s r:=nA fun y (hy:y∈r)=>h y (List.mem_cons_of_mem _ hy)
  simp only [gE,ny (h x List.mem_cons_self),f]
theorem pc:∀ {l:List SV},(∀ x∈l,∀ k,tok x=some k->s'.obj k=s.obj k)->iV s' l=iV s l
 | [],_=>rfl
 | x::r,h=>by
  have f:iV s' r=iV s r:=pc fun y (hy:y∈r)=>h y (List.mem_cons_of_mem _ hy)
  simp only [iV,wQ (h x List.mem_cons_self),f]
def G4 (s:St):Prop:=∀ t ty f,s.obj t=some (.var ty f)->∀ z∈f,∀ j,tok z=some j->∃ x,s.obj j=some x
theorem uu (A:∀ t ty f,s.obj t=some (.var ty f)->∀ z∈f,∀ j,tok z=some j->s'.obj j=s.obj j) {x:SV} (h:∀ y∈leaves x,∀ k,tok y=some k->s'.obj k=s.obj k):fB s' x=fB s x:=by
 rcases gF x with ⟨l,rfl⟩|m
 ·simp only [fB,nA (s:=s) (s':=s') (l:=l) h]
 ·have u:=ny (s:=s) (s':=s') (x:=x) (fun k M=>h x (by cases x <;> first|exact List.mem_singleton.2 rfl|exact absurd rfl (m _)) k M)
  cases x with
  | ptr t off =>
   cases off with
   | succ n=>exact u
   | zero =>
    have N:=h (.ptr t 0) (List.mem_singleton.2 rfl) t rfl
    simp only [fB,N]
    split
    ·rename_i ty f e
     rw [pc (A t ty f e)]
    ·rfl
  | agg l=>exact absurd rfl (m _)
  | _=>exact u
theorem nz (f:∀ t ty m,s.obj t=some (.var ty m)->∀ z∈m,∀ j,tok z=some j->s'.obj j=s.obj j):∀ {l:List SV},(∀ x∈l,∀ y∈leaves x,∀ k,tok y=some k->s'.obj k=s.obj k)->eP s' l=eP s l
 | [],_=>rfl
 | x::r,h=>by
  have u:eP s' r=eP s r:=nz f fun y (hy:y∈r)=>h y (List.mem_cons_of_mem _ hy)
  simp only [eP,uu f (h x List.mem_cons_self),u]
theorem jS:∀ {l:List SV},(∀ x∈l,∀ y∈leaves x,∀ k,tok y=some k->s'.obj k=s.obj k)->cn s' l=cn s l
 | [],_=>rfl
 | x::r,h=>by
  have f:cn s' r=cn s r:=jS fun y (hy:y∈r)=>h y (List.mem_cons_of_mem _ hy)
  cases x with
  | ptr t off=>simp only [cn,h _ List.mem_cons_self _ (List.mem_singleton.2 rfl) t rfl,f]
  | _=>exact f
theorem uS:∀ {l:List SV},(∀ x∈l,∀ y∈leaves x,∀ k,tok y=some k->s'.obj k=s.obj k)->iH s' l=iH s l
 | [],_=>rfl
 | x::r,h=>by
  have f:iH s' r=iH s r:=uS fun y (hy:y∈r)=>h y (List.mem_cons_of_mem _ hy)
  cases x with
  | ptr t off=>simp only [iH,h _ List.mem_cons_self _ (List.mem_singleton.2 rfl) t rfl,f]
  | _=>exact f
theorem jd:∀ (l:List SV) (s:St),Fk k s->cY (s.newAt k o) l=((cY s l).1,(cY s l).2.newAt k o)/\Fk k (cY s l).2/\(cY s l).2.slots=s.slots
 | [],s,h=>⟨rfl,h,rfl⟩
 | x::r,s,h=>by
  have f:cY (s.newAt k o) (x::r)=((cY s (x::r)).1,(cY s (x::r)).2.newAt k o)/\Fk k (cY s (x::r)).2/\(cY s (x::r)).2.slots=s.slots∨∃ e l st,x = .fr e l st:=by
   obtain ⟨j,m,u⟩:=jd r s h
   cases x <;> first
    | exact .inr ⟨_,_,_,rfl⟩
    | (refine .inl ⟨?_,m,u⟩;simp only [cY,j])
  rcases f with f|⟨e,l,st,rfl⟩
  ·exact f
  ·obtain ⟨j,m,u⟩:=jd r (s.new (.row e l st)) (FC h _)
   refine ⟨?_,m,u⟩
   simp only [cY,DT,j]
   rfl
theorem rZ (x:SV) (s:St) (h:Fk k s):eH (s.newAt k o) x=((eH s x).1,(eH s x).2.newAt k o)/\Fk k (eH s x).2/\(eH s x).2.slots=s.slots:=by
 rcases gF x with ⟨l,rfl⟩|z
 ·obtain ⟨m,f,j⟩:=jd (o:=o) l s h
  exact ⟨by simp only [eH,m],f,j⟩
 ·obtain ⟨m,f,j⟩:=jd (o:=o) [x] s h
  have e:∀ s:St,eH s x=(match cY s [x] with|([u],s')=>(u,s')|(_,s')=>(.no,s')):=by
   intro s;cases x <;> first|rfl|exact absurd rfl (z _)
  rw [e,e,m]
  cases A:cY s [x] with
  | mk vs s1 =>
   rw [A] at f j
   match vs with
   | []=>exact ⟨rfl,f,j⟩
   | [u]=>exact ⟨rfl,f,j⟩
   | _::_::_=>exact ⟨rfl,f,j⟩
theorem rX:∀ (l:List SV) (s:St),Fk k s->fA (s.newAt k o) l=((fA s l).1,(fA s l).2.newAt k o)/\Fk k (fA s l).2/\(fA s l).2.slots=s.slots
 | [],s,h=>⟨rfl,h,rfl⟩
 | x::r,s,h=>by
  obtain ⟨f,j,m⟩:=rZ (o:=o) x s h
  obtain ⟨g1,g2,g3⟩:=rX r _ j
  refine ⟨?_,g2,g3.trans m⟩
  simp only [fA,f,g1]
theorem rz:∀ (l:List Nat) (s:St),k ∉ l->Fk k s->fT l (s.newAt k o)=(fT l s).newAt k o/\Fk k (fT l s)/\(fT l s).slots=s.slots
 | [],s,_,h=>⟨rfl,h,rfl⟩
 | t::r,s,f,h=>by
  obtain ⟨j,m,u⟩:=rz r (s.setObj t .hole) (fun z=>f (List.mem_cons_of_mem _ z)) (sq h _)
  exact ⟨by simp only [fT,qb (s:=s) (o:=o) (fun e:t=k=>f (by rw [e];exact List.mem_cons_self)) .hole,j],m,u⟩
theorem mL:∀ (vs back:List SV) (s:St),(∀ t off,.ptr t off∈vs->t≠k)->Fk k s ->
  (fe s vs back=none/\fe (s.newAt k o) vs back=none)∨∃ s2,fe s vs back=some s2/\fe (s.newAt k o) vs back=some (s2.newAt k o)/\Fk k s2/\s2.slots=s.slots
 | [],[],s,_,h => .inr ⟨s,rfl,rfl,h,rfl⟩
 | [],_::_,s,_,_ => .inl ⟨rfl,rfl⟩
 | x::r,back,s,m,h=>by
  by_cases A:∃ t off,x = .ptr t off
  ·obtain ⟨t,off,rfl⟩:=A
   have M:t≠k:=m t off List.mem_cons_self
   match back with
   | []=>exact .inl ⟨rfl,rfl⟩
   | y::u =>
    by_cases hy:∃ ty f,y = .vp ty f
    ·obtain ⟨ty,f,rfl⟩:=hy
     obtain ⟨N,O,U⟩:=jd (o:=o) f s h
     have j:=mL r u ((cY s f).2.setObj t (.var ty (cY s f).1)) (fun t off hm=>m t off (List.mem_cons_of_mem _ hm)) (sq O _)
     rw [<- qb (s:=(cY s f).2) (o:=o) M] at j
     simp only [fe,N]
     rcases j with j|⟨s2,g1,g2,g3,g4⟩
     ·exact .inl j
     ·exact .inr ⟨s2,g1,g2,g3,g4.trans U⟩
    ·have e:∀ s:St,fe s (.ptr t off::r) (y::u)=none:=by
      intro s;cases y <;> first|rfl|exact absurd ⟨_,_,rfl⟩ hy
     exact .inl ⟨e _,e _⟩
  ·have z:∀ t o,x ≠ .ptr t o:=fun t o e=>A ⟨t,o,e⟩
   have e:∀ (s:St),fe s (x::r) back=fe s r back:=fun s=>jN _ z _ _
   rw [e,e]
   exact mL r back s (fun t off hm=>m t off (List.mem_cons_of_mem _ hm)) h
theorem mZ {t:Nat}:∀ {l:List SV},t∈given l->∃ off,.ptr t off∈l
 | x::r,h=>by
  by_cases m:∃ u off,x = .ptr u off
  ·obtain ⟨u,off,rfl⟩:=m
   simp only [given,List.mem_cons] at h
   rcases h with rfl|h
   ·exact ⟨off,List.mem_cons_self⟩
   ·obtain ⟨f,j⟩:=mZ h;exact ⟨f,List.mem_cons_of_mem _ j⟩
  ·have e:given (x::r)=given r:=by cases x <;> first|rfl|exact absurd ⟨_,_,rfl⟩ m
   rw [e] at h
   obtain ⟨f,j⟩:=mZ h;exact ⟨f,List.mem_cons_of_mem _ j⟩
theorem zy (hf:Fk k s) (ht:G4 s) {d:Option Nat} {g:Nat} {xs:List Operand}
  (O:∀ x∈xs,∀ y∈leaves (ev s x),∀ j,tok y=some j->∃ x,s.obj j=some x) (hK:∀ (s1:St) u,Fk k s1->s1.slots=s.slots->K ((s1.newAt k o).put d u)=K' (s1.put d u)):ir C true (s.newAt k o) d g xs K=ir C true s d g xs K':=by
 have he:xs.map (ev (s.newAt k o))=xs.map (ev s):=rfl
 have m:∀ j x,s.obj j=some x->j≠k:=fun j x N e=>by subst e;rw [hf.1] at N;cases N
 unfold ir kE oQ
 simp only [he]
 generalize (bif C.wO g then eX (xs.map (ev s))++qO (xs.map (ev s)) else [])=fz
 cases fz with
 | cons t ts=>unfold lE;simp
 | nil =>
  simp only [fZ,he]
  have f:∀ x∈xs.map (ev s),∀ y∈leaves x,∀ j,tok y=some j->(s.newAt k o).obj j=s.obj j:=fun x A y hy j N=>by
   obtain ⟨z,U,rfl⟩:=List.mem_map.1 A
   obtain ⟨x,A⟩:=O z U y hy j N
   exact yM (m j x A)
  have M:∀ t off,SV.ptr t off∈xs.map (ev s)->t≠k:=fun t off hm=>by
   obtain ⟨z,U,e⟩:=List.mem_map.1 hm
   obtain ⟨x,A⟩:=O z U (.ptr t off) (by rw [e];exact List.mem_singleton.2 rfl) t rfl
   exact m t x A
  generalize xs.map (ev s)=vs at f M
  have W:∀ t ty V,s.obj t=some (.var ty V)->∀ z∈V,∀ j,tok z=some j->(s.newAt k o).obj j=s.obj j:=fun t ty V e z U j N=>by
   obtain ⟨x,A⟩:=ht t ty V e z U j N
   exact yM (m j x A)
  unfold lE
  simp only [List.append_nil,uS f,jS f,nz W f]
  generalize ad:cn s vs=gr
  cases gr with
  | cons t ts=>simp
  | nil =>
   generalize ((true && !(([]:List Nat).isEmpty&&([]:List Nat).isEmpty)) || !distinct (iH s vs)||(seen vs).any fun t=>(iH s vs).any (Nat.beq t))=c
   cases c with
   | true=>rfl
   | false =>
    simp only [cond_false]
    cases eP s vs with
    | none=>rfl
    | some cs =>
     simp only [fC]
     congr 1
     funext res
     cases res with
     | nil=>rfl
     | cons v back =>
      simp only
      obtain ⟨a1,a2,a3⟩:=rz (o:=o) (given vs) s (fun hi=>by
       obtain ⟨off,hm⟩:=mZ hi
       exact M k off hm rfl) hf
      rw [a1]
      rcases mL (o:=o) vs back _ M a2 with ⟨X,Y⟩|⟨s2,X,Y,b3,b4⟩
      ·rw [X,Y]
      ·rw [X,Y]
       simp only
       rcases pJ v with ⟨l,rfl⟩|W
       ·obtain ⟨c1,c2,c3⟩:=rX (o:=o) l s2 b3
        simp only [c1]
        exact hK _ _ c2 (c3.trans (b4.trans a3))
       ·obtain ⟨c1,c2,c3⟩:=rZ (o:=o) v s2 b3
        cases v <;> first
         | exact absurd rfl (W _)
         | (simp only [c1];exact hK _ _ c2 (c3.trans (b4.trans a3)))
end
section
variable {ops:Array Oper} {o x y:Oper} {s s':St} {C:Cfg R} {K K':St->Option R} {r:R}
def Hh (s:St):Prop:=∀ t,∀ z∈leaves (s.get t),∀ k,tok z=some k->∃ o,s.obj k=some o
theorem AD {k:Nat} {b:Obj} (hy:l8 o=true) (N:Fk k s) (V:Hh s) (W:G4 s) (O:∀ (s1:St) u,Fk k s1->s1.slots=s.slots->K ((s1.newAt k b).put o.dst u)=K' (s1.put o.dst u)):dk C true ops o (s.newAt k b) K=dk C true ops o s K':=by
 have hu:eF C true o (s.newAt k b) K=eF C true o s K':=by
  unfold l8 at hy
  split at hy
  ·rename_i c X
   split at hy
   ·rename_i f A
    unfold eF;simp only [X,A]
    rw [show ev (s.newAt k b) f=ev s f from rfl]
    cases ev s f <;> try rfl
    rename_i g
    dsimp only
    cases C.mv g with
    | true=>rfl
    | false =>
    simp only [cond_false]
    refine zy N W (fun x hx z m j M => ?_) O
    cases x with
    | tmp t=>exact V t z m j M
    | const v =>
     exfalso
     have Y:∀ v:Value,tok (Fc v)=none:=fun v=>by unfold Fc;split <;> rfl
     by_cases U:∃ cs,v = .agg cs
     ·obtain ⟨cs,rfl⟩:=U
      have m:z∈cs.toList.map Fc:=m
      obtain ⟨u,_,rfl⟩:=List.mem_map.1 m
      rw [Y] at M;cases M
     ·unfold ev at m
      split at m <;> first|(exact U ⟨_,by assumption⟩)|simp_all [leaves,tok]
    | func f=>simp [ev,leaves] at m;subst m;cases M
    | _=>simp [ev,leaves] at m;subst m;cases M
   ·cases hy
  ·cases hy
 rw [ew,ew]
 cases hg:o.guard with
 | none=>exact hu
 | some g =>
  obtain ⟨j,want⟩:=g
  simp only
  cases hd:w7 ops j with
  | none=>rfl
  | some d =>
   simp only [show (s.newAt k b).get d=s.get d from rfl]
   cases s.get d <;> try rfl
   ·exact O s _ N rfl
   ·simp only
    split
    ·exact hu
    ·exact O s _ N rfl
theorem zm (V:gx o=true) (X:Nat.beq C.base 0=false) (h:dk C true ops o s K=some r) :
  (∃ k b u,Fk k s/\∀ (s1:St) (K:St->Option R),Fk k s1->(∀ t∈looks ops.toList o,s1.get t=s.get t)->dk C true ops o s1 K=K ((s1.newAt k b).put o.dst u)) ∨
  ∃ u,∀ (s1:St) (K:St->Option R),(∀ t∈looks ops.toList o,s1.get t=s.get t)->dk C true ops o s1 K=K (s1.put o.dst u):=by
 have M:∀ {r:R} {K:St->Option R} {b:Obj} {f:Nat->SV},j' C s o.dst b f K=some r->∃ k u,Fk k s/\∀ (s1:St) (K:St->Option R),Fk k s1->j' C s1 o.dst b f K=K ((s1.newAt k b).put o.dst u):=by
  intro r K b f h
  unfold j' at h
  rw [X,cond_false] at h
  obtain ⟨O,_⟩:=bY h
  simp only [Bool.and_eq_true,Option.isNone_iff_eq_none,Nat.blt_eq] at O
  refine ⟨_,f (C.base+o.dst.getD 0),⟨O.1,O.2.1⟩,fun s1 K z => ?_⟩
  unfold j'
  have h1:(s1.obj (C.base+o.dst.getD 0)).isNone=true:=by rw [z.1];rfl
  have h2:Nat.blt (C.base+o.dst.getD 0) s1.next=true:=by rw [Nat.blt_eq];exact z.2
  rw [X,cond_false,h1,h2,O.2.2];rfl
 have N:∀ {r:R} {K:St->Option R},eF C true o s K=some r->∃ k b u,Fk k s/\∀ (s1:St) (K:St->Option R),Fk k s1->eF C true o s1 K=K ((s1.newAt k b).put o.dst u):=by
  intro r K h
  unfold gx at V
  split at V
  ·rename_i t Y
   unfold eF at h
   simp only [Y] at h
   unfold eF
   simp only [Y]
   cases hT:C.ty t with
   | none=>rw [hT] at h;cases h
   | some T =>
    rw [hT] at h;simp only at h ⊢
    cases ha:oE C T with
    | some j =>
     rw [ha] at h;simp only at h ⊢
     obtain ⟨k,u,g1,g2⟩:=M h
     exact ⟨k,_,u,g1,g2⟩
    | none =>
     rw [ha] at h;simp only at h ⊢
     obtain ⟨h0,h⟩:=bY h
     simp only [h0,cond_true]
     obtain ⟨k,u,g1,g2⟩:=M h
     exact ⟨k,_,u,g1,g2⟩
  ·cases V
 rw [ew] at h
 cases m:o.guard with
 | none =>
  rw [m] at h
  obtain ⟨k,b,u,g1,g2⟩:=N h
  exact .inl ⟨k,b,u,g1,fun s1 K z _=>by rw [ew,m];exact g2 s1 K z⟩
 | some g =>
  obtain ⟨j,want⟩:=g
  rw [m] at h;simp only at h
  cases A:w7 ops j with
  | none=>rw [A] at h;cases h
  | some d =>
   rw [A] at h;simp only at h
   have W:d∈looks ops.toList o:=iy m A
   cases U:s.get d <;> rw [U] at h <;> try (cases h;done)
   ·exact .inr ⟨.undef,fun s1 K he=>by rw [ew,m];simp only [A,he d W,U]⟩
   ·simp only at h
    rename_i t
    by_cases e:t=want
    ·rw [if_pos e] at h
     obtain ⟨k,b,u,g1,g2⟩:=N h
     exact .inl ⟨k,b,u,g1,fun s1 K z he=>by rw [ew,m];simp only [A,he d W,U,e,if_true];exact g2 s1 K z⟩
    ·rw [if_neg e] at h
     exact .inr ⟨.undef,fun s1 K he=>by rw [ew,m];simp only [A,he d W,U,e,if_false]⟩
theorem zA {lt:Bool} (h:gx o=true):cls lt o=2:=by
 unfold gx at h
 unfold cls
 split at h
 ·rename_i e;rw [e]
 ·cases h
theorem yJ {lt:Bool} (j:lt=true->AM C) {m:List Oper} {κ : St->Option R} (f:St->Prop) (hg:∀ (x:Oper) (s:St),f s->Tk ops x s/\Nm s.objs s.next/\Hh s/\G4 s):∀ (xs:List Oper) {s:St},(∀ x∈xs,uh ops x y/\((cls lt x=0∨(cls lt x<=1/\cls lt y<=2))∨(gx x=true/\l8 y=true/\Nat.beq C.base 0=false))) ->
  (∀ x∈xs,∀ (s:St) (u:SV) A n',f s->(∀ K:St->Option R,dk C true ops x s K=K ((⟨s.slots,A,n'⟩:St).put x.dst u))->f ((⟨s.slots,A,n'⟩:St).put x.dst u))->f s->eZ C true ops (xs++y::m) s κ = some r->eZ C true ops (y::(xs++m)) s κ = some r
 | [],s,_,_,_,h=>h
 | x::xs,s,ha,X,M,h=>by
  obtain ⟨Y,W⟩:=ha x (by simp)
  rcases W with W|⟨ad,ae,hb⟩
  ·obtain ⟨u,V⟩:=nv (lt:=lt) (by rcases W with W|W <;> omega) (show dk C true ops x s (fun s1=>eZ C true ops (xs++y::m) s1 κ)=some r from h)
   have h1:eZ C true ops (xs++y::m) (s.put x.dst u) κ = some r:=by rw [<- V (fun s1=>eZ C true ops (xs++y::m) s1 κ)];exact h
   have h2:=yJ j f hg xs (fun z N=>ha z (by simp [N])) (fun z N=>X z (by simp [N])) (X x (by simp) s u s.objs s.next M V) h1
   rw [<- h2]
   show dk C true ops y s (fun s1=>dk C true ops x s1 (fun s2=>eZ C true ops (xs++m) s2 κ))=dk C true ops y (s.put x.dst u) (fun s1=>eZ C true ops (xs++m) s1 κ)
   rw [jj j Y.symm]
   refine frame j fun v A n' _ ap => ?_
   rcases W with W|⟨ar,ax⟩
   ·exact oY Y.symm W V _
   ·obtain ⟨ht,hn,_⟩:=hg x s M
    exact qY Y.symm ar ht V (ap ax hn).1 _
  ·have O:∀ (s1:St) (v:SV),s1.slots=s.slots->∀ t∈looks ops.toList x,(s1.put y.dst v).get t=s.get t:=fun s1 v e t ht=>by
    rw [gZ (s:=s1) (fun e=>Y.yl t e ht)]
    unfold St.get;rw [e]
   rcases zm ad hb (show dk C true ops x s (fun s1=>eZ C true ops (xs++y::m) s1 κ)=some r from h) with ⟨k,b,u,hf,V⟩|⟨u,V⟩
   ·obtain ⟨_,_,a1,a6⟩:=hg x s M
    have U:∀ K:St->Option R,dk C true ops x s K=K ((⟨s.slots,s.objs++[(k,b)],s.next⟩:St).put x.dst u):=fun K=>V s K hf fun _ _=>rfl
    have h1:eZ C true ops (xs++y::m) ((⟨s.slots,s.objs++[(k,b)],s.next⟩:St).put x.dst u) κ = some r:=by rw [<- U (fun s1=>eZ C true ops (xs++y::m) s1 κ)];exact h
    have h2:=yJ j f hg xs (fun z N=>ha z (by simp [N])) (fun z N=>X z (by simp [N])) (X x (by simp) s u _ _ M U) h1
    rw [<- h2]
    show dk C true ops y s (fun s1=>dk C true ops x s1 (fun s2=>eZ C true ops (xs++m) s2 κ))=dk C true ops y ((s.newAt k b).put x.dst u) (fun s1=>eZ C true ops (xs++m) s1 κ)
    rw [jj j Y.symm]
    refine (AD ae hf a1 a6 fun s1 v hk he => ?_).symm
    have a7:Fk k (s1.put y.dst v):=by cases y.dst <;> exact hk
    rw [V _ _ a7 (O s1 v he)]
    congr 2
    cases y.dst <;> rfl
   ·have U:∀ K:St->Option R,dk C true ops x s K=K (s.put x.dst u):=fun K=>V s K fun _ _=>rfl
    have h1:eZ C true ops (xs++y::m) (s.put x.dst u) κ = some r:=by rw [<- U (fun s1=>eZ C true ops (xs++y::m) s1 κ)];exact h
    have h2:=yJ j f hg xs (fun z N=>ha z (by simp [N])) (fun z N=>X z (by simp [N])) (X x (by simp) s u s.objs s.next M U) h1
    rw [<- h2]
    show dk C true ops y s (fun s1=>dk C true ops x s1 (fun s2=>eZ C true ops (xs++m) s2 κ))=dk C true ops y (s.put x.dst u) (fun s1=>eZ C true ops (xs++m) s1 κ)
    rw [jj j Y.symm]
    refine frame j fun v A n' _ _ => ?_
    exact V _ _ (O ⟨s.slots,A,n'⟩ v rfl)
end
end Go.Proofs.Ab
namespace Go.Proofs.Ab
open Go
variable {R:Type}
def iI (acc:List Nat) (o:Oper):Nat:=o.after.toList.foldl (fun m e=>bif Region.binds .any e then m ||| 2 ^ e.on ||| acc.getD e.on 0 else m) 0
theorem lp (l:List Oper) (acc:List Nat):l.foldl (fun acc o=>acc++[iI acc o]) acc=l.foldl (fun acc o=>acc++[o.after.toList.foldl (fun m e=>bif Region.binds .any e then m ||| 2 ^ e.on ||| acc.getD e.on 0 else m) 0]) acc:=rfl
theorem lq:∀ (l:List Oper) (acc:List Nat),∃ M,l.foldl (fun acc o=>acc++[iI acc o]) acc=acc++M/\M.length=l.length/\∀ i o,l[i]? = some o->M[i]? = some (iI (acc++M.take i) o)
 | [],acc=>⟨[],by simp,rfl,fun i o h=>by simp at h⟩
 | x::l,acc=>by
  obtain ⟨M,f,j,m⟩:=lq l (acc++[iI acc x])
  refine ⟨iI acc x::M,?_,by simp [j],fun i o h => ?_⟩
  ·rw [List.foldl_cons,f];simp
  ·cases i with
   | zero=>simp at h;subst h;simp
   | succ i =>
    have:=m i o (by simpa using h)
    simpa using this
theorem nj (acc:List Nat) (j:Nat):∀ (l:List Edge) (m:Nat),(l.foldl (fun m e=>bif Region.binds .any e then m ||| 2 ^ e.on ||| acc.getD e.on 0 else m) m).testBit j=true ↔ m.testBit j=true∨∃ e∈l,Region.binds .any e=true/\(j=e.on∨(acc.getD e.on 0).testBit j=true)
 | [],m=>by simp
 | e::l,m=>by
  rw [List.foldl_cons,nj acc j l]
  cases f:Region.binds .any e with
  | false=>simp [f]
  | true =>
   simp only [cond_true,Nat.testBit_or,Bool.or_eq_true,Nat.testBit_two_pow,decide_eq_true_eq,List.mem_cons,exists_eq_or_imp,f,true_and]
   constructor
   ·rintro (((h|h)|h)|h)
    ·exact .inl h
    ·exact .inr (.inl (.inl h.symm))
    ·exact .inr (.inl (.inr h))
    ·exact .inr (.inr h)
   ·rintro (h|(h|h)|h)
    ·exact .inl (.inl (.inl h))
    ·exact .inl (.inl (.inr h.symm))
    ·exact .inl (.inr h)
    ·exact .inr h
theorem lP (lt:Bool) (ops:List Oper) (o:Oper) (m:Nat):∀ (l:List Oper) (j:Nat),lO lt ops o m j l=true->∀ k x,l[k]? = some x->m.testBit (j+k)=true∨apart lt ops x o=true
 | [],_,_,k,x,h=>by simp at h
 | y::l,j,h,k,x,f=>by
  simp only [lO,Bool.and_eq_true,Bool.or_eq_true] at h
  cases k with
  | zero=>simp at f;subst f;exact h.1
  | succ k =>
   have:=lP lt ops o m l (j+1) h.2 k x (by simpa using f)
   rw [show j+(k+1)=j+1+k by omega];exact this
theorem lM (lt:Bool) (ops:List Oper):∀ (l:List Oper) (M:List Nat) (i:Nat),lL lt ops i l M=true->∀ k o,l[k]? = some o->∃ m,M[k]? = some m/\m<2 ^ (i+k)/\lO lt ops o m 0 (ops.take (i+k))=true
 | [],_,_,_,k,o,h=>by simp at h
 | x::l,[],_,h,_,_,_=>by simp [lL] at h
 | x::l,m::M,i,h,k,o,f=>by
  simp only [lL,Bool.and_eq_true,decide_eq_true_eq] at h
  cases k with
  | zero=>simp at f;subst f;exact ⟨m,rfl,h.1,h.2.1⟩
  | succ k =>
   obtain ⟨m',j,u,z⟩:=lM lt ops l M (i+1) h.2.2 k o (by simpa using f)
   rw [show i+(k+1)=i+1+k by omega]
   exact ⟨m',by simpa using j,u,z⟩
theorem uD {lt:Bool} {ops:Array Oper} (h:jr lt ops.toList=true):∃ M:List Nat,M=eV ops.toList/\M.length=ops.size/\∀ i o,ops[i]? = some o ->
  (∀ j,(M.getD i 0).testBit j=true->j<i/\∃ e∈o.after.toList,Region.binds .any e=true/\(j=e.on∨(M.getD e.on 0).testBit j=true)) /\
  (∀ e∈o.after.toList,Region.binds .any e=true->(M.getD i 0).testBit e.on=true) /\
  ∀ j x,j<i->ops[j]? = some x->(M.getD i 0).testBit j=true∨apart lt ops.toList x o=true:=by
 unfold jr eV at h
 obtain ⟨M,N,U,O⟩:=lq ops.toList []
 rw [<- lp,N] at h
 simp only [List.nil_append] at h O
 refine ⟨M,by unfold eV;rw [<- lp,N];rfl,by simpa using U,fun i o V => ?_⟩
 have f:ops.toList[i]? = some o:=by simpa using V
 obtain ⟨m,g1,g2,g3⟩:=lM lt ops.toList ops.toList M 0 h i o f
 have hm:=O i o f
 rw [g1] at hm
 have z:m=iI (M.take i) o:=by simpa using hm
 have W:M.getD i 0=m:=by rw [List.getD_eq_getElem?_getD,g1];rfl
 rw [Nat.zero_add] at g2 g3
 rw [W]
 have bits:∀ j,m.testBit j=true ↔ ∃ e∈o.after.toList,Region.binds .any e=true/\(j=e.on∨((M.take i).getD e.on 0).testBit j=true):=by
  intro j;rw [z,iI,nj];simp
 refine ⟨fun j u=>⟨?_,?_⟩,fun e he A=>(bits e.on).2 ⟨e,he,A,.inl rfl⟩,fun j x u X => ?_⟩
 ·refine Decidable.byContradiction fun Y => ?_
  have:=Nat.testBit_lt_two_pow (Nat.lt_of_lt_of_le g2 (Nat.pow_le_pow_right (by decide) (Nat.le_of_not_lt Y)))
  rw [this] at u;cases u
 ·obtain ⟨e,he,A,h⟩:=(bits j).1 u
  refine ⟨e,he,A,h.imp id fun h => ?_⟩
  rw [List.getD_eq_getElem?_getD,List.getElem?_take] at h
  split at h
  ·rw [List.getD_eq_getElem?_getD];exact h
  ·simp at h
 ·have:=lP lt ops.toList o m _ 0 g3 j x (by rw [List.getElem?_take,if_pos u];simpa using X)
  rwa [Nat.zero_add] at this
def kh (ops:Array Oper) (M:List Nat):Prop:=M.length=ops.size/\∀ i o,ops[i]? = some o ->
  (∀ j,(M.getD i 0).testBit j=true->j<i/\∃ e∈o.after.toList,Region.binds .any e=true/\(j=e.on∨(M.getD e.on 0).testBit j=true)) /\
  (∀ e∈o.after.toList,Region.binds .any e=true->(M.getD i 0).testBit e.on=true)
theorem lD:∀ (l:List Nat) (i:Nat),bounded i l=true->∀ k m,l[k]? = some m->m<2 ^ (i+k)
 | [],_,_,k,m,h=>by simp at h
 | x::l,i,h,k,m,f=>by
  simp only [bounded,Bool.and_eq_true,decide_eq_true_eq] at h
  cases k with
  | zero=>simp at f;subst f;exact h.1
  | succ k =>
   have:=lD l (i+1) h.2 k m (by simpa using f)
   rw [show i+(k+1)=i+1+k by omega];exact this
theorem Cp {ops:Array Oper} (h:bounded 0 (eV ops.toList)=true):kh ops (eV ops.toList):=by
 have f:=lD _ _ h
 clear h
 revert f
 obtain ⟨M,A,N,z⟩:=lq ops.toList []
 have e:eV ops.toList=M:=by unfold eV;rw [<- lp,A];rfl
 rw [e]
 intro f
 simp only [List.nil_append] at z
 refine ⟨by simpa using N,fun i o O => ?_⟩
 have m:ops.toList[i]? = some o:=by simpa using O
 have hm:=z i o m
 have g2:=f i _ hm
 have U:M.getD i 0=iI (M.take i) o:=by rw [List.getD_eq_getElem?_getD,hm];rfl
 rw [Nat.zero_add] at g2
 rw [U]
 have bits:∀ j,(iI (M.take i) o).testBit j=true ↔ ∃ e∈o.after.toList,Region.binds .any e=true/\(j=e.on∨((M.take i).getD e.on 0).testBit j=true):=by
  intro j;rw [iI,nj];simp
 refine ⟨fun j u=>⟨?_,?_⟩,fun e he f=>(bits e.on).2 ⟨e,he,f,.inl rfl⟩⟩
 ·refine Decidable.byContradiction fun V => ?_
  have:=Nat.testBit_lt_two_pow (Nat.lt_of_lt_of_le g2 (Nat.pow_le_pow_right (by decide) (Nat.le_of_not_lt V)))
  rw [this] at u;cases u
 ·obtain ⟨e,he,f,h⟩:=(bits j).1 u
  refine ⟨e,he,f,h.imp id fun h => ?_⟩
  rw [List.getD_eq_getElem?_getD,List.getElem?_take] at h
  split at h
  ·rw [List.getD_eq_getElem?_getD];exact h
  ·simp at h
def HP (C:Cfg R) (lt:Bool) (ops:Array Oper) (x y:Oper):Prop :=
 uh ops x y/\((cls lt x=0∨cls lt y=0∨(cls lt x<=1/\cls lt y<=2)∨(cls lt x<=2/\cls lt y<=1))∨(gx x=true/\l8 y=true/\Nat.beq C.base 0=false))
def qM (C:Cfg R) (lt:Bool) (ops:Array Oper) (M T:List Nat) (ord:List Nat):Prop:=(∀ i,i∈ord ↔ i<ops.size/\i ∉ T) /\
 ord.Pairwise fun j i=>j≠i/\(M.getD j 0).testBit i=false/\∀ x o,ops[j]? = some x->ops[i]? = some o->(M.getD i 0).testBit j=true∨HP C lt ops x o
theorem sc {C:Cfg R} {lt:Bool} {ops:Array Oper} (h:jr lt ops.toList=true):kh ops (eV ops.toList)/\qM C lt ops (eV ops.toList) [] (List.range ops.size):=by
 obtain ⟨M,e,A,f⟩:=uD h
 rw [<- e]
 refine ⟨⟨A,fun i o m=>⟨(f i o m).1,(f i o m).2.1⟩⟩,fun i=>by rw [List.mem_range];simp,?_⟩
 have:=List.pairwise_lt_range (n:=ops.size)
 refine this.imp_of_mem fun {j i} N m u=>⟨by omega,?_,fun x o O U=>((f i o U).2.2 j x u O).imp id fun V => ?_⟩
 ·cases W:(M.getD j 0).testBit i with
  | false=>rfl
  | true =>
   have z:=List.mem_range.1 N
   have:=((f j _ (Array.getElem?_eq_getElem z)).1 i W).1
   omega
 ·obtain ⟨g1,g2⟩:=apart_spec V
  exact ⟨g1,.inl g2⟩
theorem qP {ops:Array Oper} {x y:Oper} (h:Db ops.toList x y=true):uh ops x y:=by
 unfold Db at h
 simp only [Bool.and_eq_true] at h
 obtain ⟨j,u⟩:=h
 refine ⟨fun d m f => ?_,fun d m f => ?_,fun d m hy => ?_⟩
 ·rw [m] at j
  simp only [Bool.and_eq_true,Bool.not_eq_true',List.any_eq_false] at j
  exact j.1 d f (Nat.beq_refl d)
 ·rw [m] at u
  simp only [Bool.not_eq_true',List.any_eq_false] at u
  exact u d f (Nat.beq_refl d)
 ·rw [m] at j
  simp only [Bool.and_eq_true,Bool.not_eq_true',List.any_eq_false] at j
  exact j.2 d (by rw [hy];simp) (Nat.beq_refl d)
theorem mq (lt:Bool) (ops:List Oper) (f:List Nat):∀ (l:List Nat),oy lt ops f l=true->l.Pairwise fun j i=>xw lt ops f j i=true
 | [],_ => .nil
 | j::r,h=>by
  simp only [oy,Bool.and_eq_true,List.all_eq_true] at h
  exact .cons h.1 (mq lt ops f r h.2)
theorem sb {C:Cfg R} {lt:Bool} {ops:Array Oper} (M:Nat.beq C.base 0=false) (h:lN lt ops.toList=true):kh ops (eV ops.toList)/\qM C lt ops (eV ops.toList) [] (vv ops.toList (eV ops.toList)):=by
 unfold lN at h
 rw [Bool.and_eq_true] at h
 refine ⟨Cp h.1,fun i => ?_,(mq _ _ _ _ h.2).imp fun {j i} m => ?_⟩
 ·unfold vv
  rw [List.mem_append,List.mem_filter,List.mem_filter,List.mem_range]
  cases wK ops.toList (eV ops.toList) i <;> simp
 ·unfold xw at m
  simp only [Bool.and_eq_true,Bool.not_eq_true',Bool.or_eq_true] at m
  obtain ⟨A,N,f⟩:=m
  refine ⟨fun e=>by (subst e;rw [Nat.beq_refl] at A;cases A),N,fun x o O U=>f.imp id fun f => ?_⟩
  have u:ops.toList[j]? = some x:=by simpa using O
  have z:ops.toList[i]? = some o:=by simpa using U
  rw [u,z] at f
  simp only [Bool.or_eq_true,Bool.and_eq_true] at f
  rcases f with f|⟨⟨V,W⟩,X⟩
  ·obtain ⟨g1,g2⟩:=apart_spec f
   exact ⟨g1,.inl g2⟩
  ·exact ⟨qP X,.inr ⟨V,W,M⟩⟩
section
variable {P:Program} {E:Env} {s:St} {a:Act} {w:World} {κ : St->Option R} {r:R} {C:Cfg R} {tab:bZ} {ops:Array Oper}
def ej (ord:List Nat) (listed:Array Bool):List Nat:=ord.filter fun i => !listed.getD i true
theorem fp {ord:List Nat} {i:Nat} {listed:Array Bool}:i∈ej ord listed ↔ i∈ord/\listed.getD i true=false:=by
 unfold ej;rw [List.mem_filter];simp
theorem pY {ord:List Nat} {i:Nat} {listed:Array Bool} (m:ord.Pairwise (· ≠ ·)) (M:i<listed.size) {xs u:List Nat} (h:ej ord listed=xs++i::u):ej ord (listed.setIfInBounds i true)=xs++u:=by
 have N:ej ord (listed.setIfInBounds i true)=(ej ord listed).filter (fun j=>decide (j≠i)):=by
  unfold ej
  rw [List.filter_filter]
  refine List.filter_congr fun j f => ?_
  rw [Array.getD_eq_getD_getElem?,Array.getD_eq_getD_getElem?,Array.getElem?_setIfInBounds]
  by_cases e:i=j
  ·subst e;simp [M]
  ·rw [if_neg e];simp [Ne.symm e]
 have z:(ej ord listed).Pairwise (· ≠ ·):=List.Pairwise.filter _ m
 rw [N,h,List.filter_append,List.filter_cons]
 rw [h,List.pairwise_append] at z
 obtain ⟨p1,A,O⟩:=z
 rw [List.pairwise_cons] at A
 rw [if_neg (by simp)]
 congr 1
 ·refine List.filter_eq_self.2 fun j f => ?_
  have:=O j f i (by simp);simpa using this
 ·refine List.filter_eq_self.2 fun j f => ?_
  have:=A.1 j f;simpa using Ne.symm this
theorem zH (ops:Array Oper) (xs f:List Nat):(xs++f).filterMap (ops[·]?)=xs.filterMap (ops[·]?)++f.filterMap (ops[·]?):=List.filterMap_append
theorem ox {T:List Nat} {j:Nat}:F7 T j=true ↔ j∈T:=by
 unfold F7
 rw [List.any_eq_true]
 exact ⟨fun ⟨t,f,m⟩=>Nat.eq_of_beq_eq_true m▸f,fun h=>⟨j,h,Nat.beq_refl j⟩⟩
theorem nT {f T:List Nat} {i j:Nat} (h:mr f T i=true) (m:j<i) (u:j ∉ T):(f.getD i 0).testBit j=true:=by
 unfold mr at h
 rw [Bool.and_eq_true,List.all_eq_true] at h
 have:=h.1 j (List.mem_range.2 m)
 rw [Bool.or_eq_true] at this
 exact this.resolve_left fun h=>u (ox.1 h)
theorem mu {f T:List Nat} {i j:Nat} (h:mr f T i=true) (z:i<j) (m:j<f.length) (u:j ∉ T):(f.getD j 0).testBit i=true:=by
 unfold mr at h
 rw [Bool.and_eq_true,List.all_eq_true,List.all_eq_true] at h
 have:=h.2 j (List.mem_range.2 m)
 rw [Bool.or_eq_true,Bool.or_eq_true] at this
 rcases this with h|h|h
 ·have:=Nat.le_of_ble_eq_true h;omega
 ·exact absurd (ox.1 h) u
 ·exact h
theorem nf {f T:List Nat} {r:List Nat}:∀ (xs:List Nat) {s:St},(∀ j∈xs,j<ops.size/\mr f T j=false)->jb C ops f T (xs++r) s κ = eZ C true ops (xs.filterMap (ops[·]?)) s (fun s'=>jb C ops f T r s' κ)
 | [],s,_=>rfl
 | j::xs,s,h=>by
  obtain ⟨u,z⟩:=h j (by simp)
  have m:ops[j]? = some ops[j]:=Array.getElem?_eq_getElem u
  rw [List.filterMap_cons_some (by exact m)]
  show jb C ops f T (j::(xs++r)) s κ = dk C true ops ops[j] s (fun s'=>eZ C true ops (xs.filterMap (ops[·]?)) s' (fun s'=>jb C ops f T r s' κ))
  simp only [jb,m,z,Bool.not_false]
  congr 1
  funext s'
  exact nf xs fun k A=>h k (by simp [A])
theorem vW {c:Cx} {x:SV} {v:Value} {k:Nat} (h:S2 c x v) (f:tok x=some k):c.D k:=by
 cases x <;> simp only [tok] at f <;> try (cases f;done)
 case cls g j =>
  cases j with
  | nil=>cases f
  | cons u m=>simp only [List.head?_cons,Option.some.injEq] at f;subst f;exact h.1 u (by simp)
 all_goals
  simp only [Option.some.injEq] at f;subst f
  exact h.1
theorem A0 {c:Cx} {x:SV} {v:Value} {k:Nat} (h:SL c x v) (f:tok x=some k):c.D k:=by
 cases x <;> simp only [tok] at f <;> try (cases f;done)
 case cls g j =>
  cases j with
  | nil=>cases f
  | cons u m=>simp only [List.head?_cons,Option.some.injEq] at f;subst f;exact h.1 u (by simp)
 all_goals
  simp only [Option.some.injEq] at f;subst f
  exact h.1
theorem wu {A B:Type} {S:A->B->Prop}:∀ {l:List A} {m:List B},PW S l m->∀ x∈l,∃ y,S x y
 | [],_,_,x,f=>by cases f
 | a::l,b::m,h,x,f=>by
  rcases List.mem_cons.1 f with rfl|f
  ·exact ⟨b,h.1⟩
  ·exact wu h.2 x f
 | _::_,[],h,_,_=>h.elim
theorem B8 {c:Cx} {x z:SV} {v:Value} {k:Nat} (h:S2 c x v) (f:z∈leaves x) (j:tok z=some k):c.D k:=by
 rcases gF x with ⟨l,rfl⟩|m
 ·obtain ⟨cs,rfl,A⟩:=jm h
  obtain ⟨u,hu⟩:=wu A z f
  exact A0 hu j
 ·have:z=x:=by
   have M:leaves x=[x]:=by cases x <;> first|rfl|exact absurd rfl (m _)
   rw [M] at f;simpa using f
  subst this
  exact vW h j
theorem CX (hP:Ok P C.ty) (hE:dY C tab E) (hD:∀ g,bM P C.ty tab g (C.call g)) {lt:Bool} (be:lt=true->AM C) {M T ord:List Nat} (d':kh ops M) (b5:qM C lt ops M T ord) {Q:Exit->Act->World->Prop} (hQ:∀ s' a' w',κ s'=some r->dd E s' a' w'->Q .normal a' w') :
  ∀ (fuel:Nat) (listed:Array Bool) {s:St} {a:Act} {w:World},(∀ j∈T,listed.getD j true=true)->listed.size=ops.size->(∀ i,i<ops.size->listed.getD i false=true->∀ j,(M.getD i 0).testBit j=true->listed.getD j false=true) ->
   (ej ord listed).length=fuel->dd E s a w->jb C ops M T (ej ord listed) s κ = some r->wpAny P .any ops Q fuel listed a w:=by
 obtain ⟨ep,hM⟩:=d'
 obtain ⟨A,b1⟩:=b5
 have b':ord.Pairwise (· ≠ ·):=b1.imp fun h=>h.1
 intro fuel
 induction fuel with
 | zero =>
  intro listed s a w hT hs hinv hl hr hk
  have a7:∀ j,listed.getD j true=false->j ∉ T:=fun j f ht=>by rw [hT j ht] at f;cases f
  have h0:ej ord listed=[]:=List.eq_nil_of_length_eq_zero hl
  refine ⟨?_,?_⟩
  ·unfold Region.ready
   refine List.filter_eq_nil_iff.2 fun i hi => ?_
   have:i ∉ ej ord listed:=by rw [h0];simp
   rw [fp,A] at this
   have m:=List.mem_range.1 hi
   have:listed.getD i true=true:=by
    cases hv:listed.getD i true with
    | true=>rfl
    | false=>exact absurd ⟨⟨m,a7 i hv⟩,hv⟩ this
   rw [this];simp
  ·rw [h0] at hk;exact hQ s a w hk hr
 | succ fuel ih =>
  intro listed s a w hT hs hinv hl hr hk
  have a7:∀ j,listed.getD j true=false->j ∉ T:=fun j f ht=>by rw [hT j ht] at f;cases f
  refine ⟨fun ca => ?_,fun i hi => ?_⟩
  ·exfalso
   cases ap:ej ord listed with
   | nil=>rw [ap] at hl;simp at hl
   | cons i ys =>
    have ea:i∈ej ord listed:=by rw [ap];simp
    obtain ⟨m,a8⟩:=fp.1 ea
    have m:=((A i).1 m).1
    have:i∈Region.ready .any ops listed:=by
     unfold Region.ready
     rw [List.mem_filter]
     refine ⟨List.mem_range.2 m,?_⟩
     rw [a8,Array.getElem?_eq_getElem m]
     simp only [Bool.not_false,Option.map_some,Option.getD_some,Bool.true_and]
     rw [<- Array.all_toList,List.all_eq_true]
     intro e he
     simp only [Bool.or_eq_true,Bool.not_eq_true']
     cases hb:Region.binds .any e with
     | false=>exact .inl rfl
     | true =>
      right
      obtain ⟨m1,m2⟩:=hM i _ (Array.getElem?_eq_getElem m)
      have en:=(m1 _ (m2 e he hb)).1
      have ax:e.on ∉ ej ord listed:=fun cl=>by
       have hp:(ej ord listed).Pairwise _:=List.Pairwise.filter _ b1
       rw [ap] at cl hp
       rcases List.mem_cons.1 cl with e1|h1
       ·omega
       ·have:=((List.pairwise_cons.1 hp).1 _ h1).2.1
        rw [m2 e he hb] at this;cases this
      have X:e.on<listed.size:=by omega
      rw [fp,A] at ax
      rw [Array.getD_eq_getD_getElem?,Array.getElem?_eq_getElem X] at ax ⊢
      simp only [Option.getD_some] at ax ⊢
      cases hv:listed[e.on] with
      | true=>rfl
      | false=>exact absurd ⟨⟨by omega,a7 _ (by rw [Array.getD_eq_getD_getElem?,Array.getElem?_eq_getElem X];exact hv)⟩,hv⟩ ax
    rw [ca] at this;cases this
  ·have et:=hi
   unfold Region.ready at hi
   rw [List.mem_filter] at hi
   obtain ⟨m,hi⟩:=hi
   have m:=List.mem_range.1 m
   simp only [Bool.and_eq_true,Bool.not_eq_true'] at hi
   obtain ⟨a8,N⟩:=hi
   have bb:ops[i]? = some ops[i]:=Array.getElem?_eq_getElem m
   rw [bb] at N
   simp only [Option.map_some,Option.getD_some] at N
   rw [<- Array.all_toList,List.all_eq_true] at N
   obtain ⟨m1,m2⟩:=hM i _ bb
   have ad:∀ j,(M.getD i 0).testBit j=true->listed.getD j false=true:=by
    intro j f
    obtain ⟨_,e,he,hb,h⟩:=m1 j f
    have bk:listed.getD e.on false=true:=by
     have:=N e he
     simpa [hb] using this
    rcases h with rfl|h
    ·exact bk
    ·have:=(m1 e.on (m2 e he hb)).1
     exact hinv e.on (by omega) bk j h
   obtain ⟨xs,ys,W⟩:=List.append_of_mem (fp.2 ⟨(A i).2 ⟨m,a7 i a8⟩,a8⟩)
   have hp:(ej ord listed).Pairwise _:=List.Pairwise.filter _ b1
   rw [W,List.pairwise_append] at hp
   have cp:∀ x∈xs.filterMap (ops[·]?),HP C lt ops x ops[i]:=by
    intro x hx
    obtain ⟨j,f,bP⟩:=List.mem_filterMap.1 hx
    have bS:=hp.2.2 j f i (by simp)
    have ey:j<ops.size:=(Array.getElem?_eq_some_iff.1 bP).1
    refine (bS.2.2 x _ bP bb).resolve_left fun hb => ?_
    have h1:=ad j hb
    have h2:=(fp.1 (show j∈ej ord listed by rw [W];simp [f])).2
    have X:j<listed.size:=by omega
    rw [Array.getD_eq_getD_getElem?,Array.getElem?_eq_getElem X] at h1 h2
    simp only [Option.getD_some] at h1 h2
    rw [h1] at h2;cases h2
   have Y:∀ j∈xs,(j≠i/\(M.getD j 0).testBit i=false)/\j<ops.size/\listed.getD j false=false:=by
    intro j f
    have h2:=fp.1 (show j∈ej ord listed by rw [W];simp [f])
    have bS:=hp.2.2 j f i (by simp)
    refine ⟨⟨bS.1,bS.2.1⟩,((A j).1 h2.1).1,?_⟩
    have X:j<listed.size:=by rw [hs];exact ((A j).1 h2.1).1
    have h3:=h2.2
    rw [Array.getD_eq_getD_getElem?,Array.getElem?_eq_getElem X] at h3 ⊢
    exact h3
   have a6:∀ j∈xs,mr M T j=false:=by
    intro j f
    obtain ⟨h1,h2,h3⟩:=Y j f
    cases ar:mr M T j with
    | false=>rfl
    | true =>
     rcases Nat.lt_or_gt_of_ne h1.1 with O|O
     ·have:=ad j (mu ar O (by omega) (a7 i a8))
      rw [h3] at this;cases this
     ·have:=nT ar O (a7 i a8)
      rw [h1.2] at this;cases this
   have ct:∀ s':St,jb C ops M T (ej ord (listed.setIfInBounds i true)) s' κ = eZ C true ops (xs.filterMap (ops[·]?)) s' (fun s2=>jb C ops M T ys s2 κ):=by
    intro s'
    rw [pY b' (by omega) W]
    exact nf xs fun j f=>⟨(Y j f).2.1,a6 j f⟩
   have ae:∃ q,dk C q ops ops[i] s (fun s'=>jb C ops M T (ej ord (listed.setIfInBounds i true)) s' κ)=some r:=by
    simp only [ct]
    cases ar:mr M T i with
    | true =>
     have eb:xs=[]:=by
      cases xs with
      | nil=>rfl
      | cons j xs =>
       obtain ⟨h1,h2,h3⟩:=Y j (by simp)
       rcases Nat.lt_or_gt_of_ne h1.1 with O|O
       ·have:=ad j (nT ar O ((A j).1 (fp.1 (show j∈ej ord listed by rw [W];simp)).1).2)
        rw [h3] at this;cases this
       ·have:=mu ar O (by omega) ((A j).1 (fp.1 (show j∈ej ord listed by rw [W];simp)).1).2
        rw [h1.2] at this;cases this
     subst eb
     rw [W] at hk
     simp only [List.nil_append,jb,bb,ar,Bool.not_true] at hk
     exact ⟨false,hk⟩
    | false =>
     refine ⟨true,?_⟩
     have U:jb C ops M T ((xs++[i])++ys) s κ = some r:=by rw [List.append_assoc];rw [W] at hk;exact hk
     rw [nf (xs++[i]) (fun j f=>by
      rcases List.mem_append.1 f with f|f
      ·exact ⟨(Y j f).2.1,a6 j f⟩
      ·simp only [List.mem_singleton] at f;subst f;exact ⟨m,ar⟩)] at U
     rw [zH,List.filterMap_cons_some bb,List.filterMap_nil] at U
     show eZ C true ops (ops[i]::xs.filterMap (ops[·]?)) s (fun s2=>jb C ops M T ys s2 κ)=some r
     have c0:eZ C true ops (ops[i]::(xs.filterMap (ops[·]?)++[])) s (fun s2=>jb C ops M T ys s2 κ)=some r:=by
      have bV:=fun x hx=>cp x hx
      have bs:∀ (x:Oper) (s:St),(∃ a w,dd E s a w)->Tk ops x s/\Nm s.objs s.next/\Hh s/\G4 s:=by
       rintro x s ⟨a,w,β,Rt,Ra,h⟩
       refine ⟨fun t _ k hk=>vW (h.slots t) hk,fun t o ho=>h.lt t o ho,fun t z hz k hk=>B8 (h.slots t) hz hk,fun t ty ls ho z hz j f => ?_⟩
       obtain ⟨cs,_,_,hp⟩:=h.objs t _ ho
       obtain ⟨u,hu⟩:=wu hp z hz
       have hn:z ≠ .nos:=fun e=>by subst e;cases f
       have ed:SL (bG E s w β Rt Ra) z u:=by
        unfold lz at hu;split at hu
        ·exact absurd rfl hn
        ·exact hu
       exact A0 ed f
      by_cases hc:cls lt ops[i]=0
      ·by_cases hn:∀ K:St->Option R,dk C true ops ops[i] s K=none
       ·rw [Ey be hc _ (fun x hx=>(bV x hx).1) hn] at U
        obtain ⟨_,_,_,bx,_⟩:=mn hP hE hD xs (fun j f=>(Y j f).2.1) hr U
        cases bx
       ·have hn:∃ K,dk C true ops ops[i] s K≠none:=Classical.not_forall.1 hn
        obtain ⟨K,hK⟩:=hn
        obtain ⟨r0,b2⟩:=Option.ne_none_iff_exists'.1 hK
        obtain ⟨u,V⟩:=nv (lt:=lt) (by omega) b2
        rw [Ev be hc _ (fun x hx=>(bV x hx).1) V] at U
        rw [<- U];exact V _
      ·by_cases b3:cls lt ops[i]<=1
       ·have c':∀ x∈xs.filterMap (ops[·]?),uh ops x ops[i]/\cls lt x<=2:=fun x hx=>by
         obtain ⟨g1,g2⟩:=bV x hx
         refine ⟨g1,?_⟩
         rcases g2 with g2|⟨g2,_⟩
         ·omega
         ·rw [zA g2];exact Nat.le_refl _
        obtain ⟨ht,dg,_⟩:=bs ops[i] s ⟨a,w,hr⟩
        by_cases hn:∀ K:St->Option R,dk C true ops ops[i] s K=none
        ·rw [Ez be b3 _ c' ht dg hn] at U
         obtain ⟨_,_,_,bx,_⟩:=mn hP hE hD xs (fun j f=>(Y j f).2.1) hr U
         cases bx
        ·have hn:∃ K,dk C true ops ops[i] s K≠none:=Classical.not_forall.1 hn
         obtain ⟨K,hK⟩:=hn
         obtain ⟨r0,b2⟩:=Option.ne_none_iff_exists'.1 hK
         obtain ⟨u,V⟩:=nv (lt:=lt) b3 b2
         rw [Ew be b3 _ c' ht dg V] at U
         rw [<- U];exact V _
       ·refine yJ be (fun s=>∃ a w,dd E s a w) bs _ (fun x hx => ?_) (fun x hx s1 u ei n' => ?_) ⟨a,w,hr⟩ U
        ·obtain ⟨g1,g2⟩:=bV x hx
         exact ⟨g1,g2.imp (fun g2=>by omega) id⟩
        ·rintro ⟨a1,w1,e0,e2,e3,h1⟩ V
         obtain ⟨j,f,bP⟩:=List.mem_filterMap.1 hx
         have hex:∃ s' a' w',(fun s2:St=>@ite _ (s2=(⟨s1.slots,ei,n'⟩:St).put x.dst u) (Classical.propDecidable _) (some r) none) s'=some r/\dd E s' a' w' :=
          uO (gB hP hE hD h1 bP ((V _).trans (by simp)))
         obtain ⟨s',a',w',he,b4⟩:=hex
         simp only at he
         split at he
         ·rename_i e;subst e;exact ⟨a',w',b4⟩
         ·cases he
     rwa [List.append_nil] at c0
   obtain ⟨q,ae⟩:=ae
   obtain ⟨β,Rt,Ra,h⟩:=hr
   refine gB hP hE hD h bb ae _ _ fun s' a' w' ek b4 => ?_
   refine ih (listed.setIfInBounds i true) (fun j f => ?_) (by simpa using hs) (fun i' dr b0 j f => ?_) ?_ b4 ek
   ·have:=hT j f
    rw [Array.getD_eq_getD_getElem?] at this ⊢
    rw [Array.getElem?_setIfInBounds]
    split
    ·split <;> rfl
    ·exact this
   ·have get:∀ k,(listed.setIfInBounds i true).getD k false=true ↔ k=i∨listed.getD k false=true:=by
     intro k
     rw [Array.getD_eq_getD_getElem?,Array.getD_eq_getD_getElem?,Array.getElem?_setIfInBounds]
     by_cases e:i=k
     ·subst e;simp [hs,m]
     ·rw [if_neg e];simp [Ne.symm e]
    rw [get] at b0 ⊢
    right
    rcases b0 with rfl|b0
    ·exact ad j f
    ·exact hinv i' dr b0 j f
   ·rw [pY b' (by omega) W]
    rw [W] at hl
    simp at hl ⊢;omega
theorem DU {lt:Bool} {M T ord:List Nat} (h:qM C lt ops M [] ord):qM C lt ops M T (mo T ord):=by
 refine ⟨fun i => ?_,List.Pairwise.filter _ h.2⟩
 unfold mo
 rw [List.mem_filter,h.1 i]
 simp only [Bool.not_eq_true',List.mem_nil_iff,not_false_eq_true,and_true]
 constructor
 ·rintro ⟨j,f⟩;exact ⟨j,fun m=>by rw [ox.2 m] at f;cases f⟩
 ·rintro ⟨j,f⟩
  refine ⟨j,?_⟩
  cases u:F7 T i with
  | false=>rfl
  | true=>exact absurd (ox.1 u) f
theorem xQ {f:List Nat} {i:Nat} (h:i∈v8 ops f):rV ops=true/\i<ops.size/\f.getD i 1=0/\uH ops i=true:=by
 unfold v8 at h
 cases j:rV ops with
 | false=>rw [j] at h;cases h
 | true =>
  rw [j,cond_true,List.mem_filter] at h
  simp only [Bool.and_eq_true] at h
  exact ⟨rfl,List.mem_range.1 h.1,Nat.eq_of_beq_eq_true h.2.1,h.2.2⟩
theorem qk {Qn:Act->World->Prop} {M:List Nat} (N:kh ops M):∀ (T:List Nat) (fuel:Nat) (listed:Array Bool) {s:St} {a:Act} {w:World},T.Nodup->(∀ i∈T,rV ops=true/\i<ops.size/\M.getD i 1=0/\uH ops i=true)->(∀ i∈T,listed.getD i true=false)->listed.size=ops.size->dd E s a w ->
  (∀ a',dd E (ly ops T s) a' w->wpAny P .any ops (fun e a w=>e = .normal/\Qn a w) fuel (T.foldl (fun l i=>l.setIfInBounds i true) listed) a' w) ->
  wpAny P .any ops (fun e a w=>e = .normal/\Qn a w) (fuel+T.length) listed a w
 | [],fuel,listed,s,a,w,_,_,_,_,h,hn=>hn a h
 | i::T,fuel,listed,s,a,w,ae,hT,hl,hs,⟨β,Rt,Ra,h⟩,hn=>by
  obtain ⟨X,O,U,f⟩:=hT i (by simp)
  have A:=List.nodup_cons.1 ae
  have z:ops[i]? = some ops[i]:=Array.getElem?_eq_getElem O
  unfold uH at f
  rw [z] at f
  simp only [Bool.and_eq_true] at f
  obtain ⟨u,Y⟩:=f
  unfold Gq at u
  rw [Bool.and_eq_true,Option.isNone_iff_eq_none] at u
  obtain ⟨u,hg⟩:=u
  obtain ⟨x,hx⟩:∃ x,ops[i].op = .move x:=by
   split at u
   ·rename_i x e;exact ⟨x,e⟩
   ·cases u
  have ap:ly ops (i::T) s=ly ops T (s.put ops[i].dst (ev s x)):=by
   show ly ops T _=_
   rw [z];simp only [hx]
  have hy:Yields P ops ops[i] (a.eval x) a := .inl ⟨by unfold Region.wanted;rw [hg],fun w=>by unfold execOp;rw [hx];rfl⟩
  have hlen:fuel+(i::T).length=(fuel+T.length)+1:=by simp;omega
  rw [hlen]
  refine wpAny_first z (fun j o cs b ho e => ?_) (fun c a w hq=>by cases hq.1) _ _ _ _ (fun j oj V ar a7 ax => ?_) ?_ hy ?_
  ·have:=List.all_eq_true.1 X o (by have:=Array.mem_of_getElem? ho;simpa using this)
   rw [e] at this;cases this
  ·rw [List.all_eq_true] at Y
   have m:=Y j (List.mem_range.2 (Array.getElem?_eq_some_iff.1 V).1)
   rw [V] at m
   simp only [Bool.or_eq_true] at m
   rcases m with m|m|m
   ·exact absurd (Nat.eq_of_beq_eq_true m) ar
   ·obtain ⟨e,he,hb⟩:=List.any_eq_true.1 m
    rw [Bool.and_eq_true] at hb
    exact absurd (Nat.eq_of_beq_eq_true hb.2) (ax e (by simpa using he) hb.1)
   ·have W:=qP m
    unfold Oper.apart
    have ad:∀ o:Oper,o.looksAt ops=looks ops.toList o:=fun o=>by
     unfold Oper.looksAt looks
     congr 1
     cases o.guard with
     | none=>rfl
     | some g=>obtain ⟨g,t⟩:=g;simp
    rw [ad,ad,Bool.and_eq_true]
    refine ⟨?_,?_⟩
    ·cases hd:ops[i].dst with
     | none=>rfl
     | some d =>
      have g1:=W.xl d hd
      have g2:=W.ne d hd
      simp [g1,g2]
    ·cases hd:oj.dst with
     | none=>rfl
     | some d =>
      have g1:=W.yl d hd
      simp [g1]
  ·unfold Region.ready
   rw [List.mem_filter]
   refine ⟨List.mem_range.2 O,?_⟩
   rw [hl i (by simp),z]
   simp only [Bool.not_false,Option.map_some,Option.getD_some,Bool.true_and]
   rw [<- Array.all_toList,List.all_eq_true]
   intro e he
   simp only [Bool.or_eq_true,Bool.not_eq_true']
   left
   cases hb:Region.binds .any e with
   | false=>rfl
   | true =>
    have m:=(N.2 i _ z).2 e he hb
    have a1:i<M.length:=by rw [N.1];exact O
    rw [List.getD_eq_getElem?_getD,List.getElem?_eq_getElem a1] at U m
    simp only [Option.getD_some] at U m
    rw [U] at m;simp at m
  ·refine qk N T fuel _ (s:=s.put ops[i].dst (ev s x)) A.2 (fun j V=>hT j (by simp [V])) (fun j V => ?_) (by simpa using hs) ⟨β,Rt,Ra,h.put _ (b9 h x)⟩ (fun a' h' => ?_)
   ·have:=hl j (by simp [V])
    have a6:i≠j:=fun e=>A.1 (e▸V)
    rw [Array.getD_eq_getD_getElem?,Array.getElem?_setIfInBounds,if_neg a6,<- Array.getD_eq_getD_getElem?];exact this
   ·exact hn a' (by rw [ap];exact h')
theorem pU (hP:Ok P C.ty) (N:dY C tab E) (hD:∀ g,bM P C.ty tab g (C.call g)) {id:Nat} {dr:Bool} (h:dd E s a w) (m:As C ops dr s κ = some r) {Qn:Act->World->Prop} (hQ:∀ s' a' w',κ s'=some r->dd E s' a' w'->Qn a' w'):(Code.region id ops dr).wp P (fun e a w=>e = .normal/\Qn a w) a w:=by
 have ae:∀ s' a' w',κ s'=some r->dd E s' a' w'->(fun (e:Exit) a w=>e = .normal/\Qn a w) .normal a' w':=fun s' a' w' O M=>⟨rfl,hQ s' a' w' O M⟩
 cases dr with
 | false =>
  refine wp_region ?_
  rw [List.range_eq_range',show ops.size=ops.toList.length by simp]
  exact lj hP N hD ae ops.toList 0 (by simp) h m
 | true =>
  refine wp_region_any hP.mixed ?_
  unfold As at m
  simp only [cond_true] at m
  have hx:dd E s a { w with drawn:=w.drawn+1 }:=by
   obtain ⟨β,Rt,Ra,h⟩:=h
   exact ⟨β,Rt,Ra,h.jD ⟨rfl,rfl,rfl,Nat.le_refl _,fun _ _ _=>rfl⟩⟩
  have main:∀ (T:List Nat) (s:St),T.Nodup->(∀ i∈T,rV ops=true/\i<ops.size/\(eV ops.toList).getD i 1=0/\uH ops i=true)->dd E s a { w with drawn:=w.drawn+1 }->FM C ops (eV ops.toList) T (ly ops T s) κ = some r->wpAny P .any ops (fun e a w=>e = .normal/\Qn a w) ops.size (Array.replicate ops.size false) a { w with drawn:=w.drawn+1 }:=by
   intro T s ap hT h m
   have any:∀ (z:Cfg R) (lt:Bool) (ord:List Nat),(lt=true->AM z)->(∀ g,bM P z.ty tab g (z.call g))->Ok P z.ty->dY z tab E->kh ops (eV ops.toList)->qM z lt ops (eV ops.toList) [] ord->(L:St->St)->(∀ s a w,dd E s a w->dd E (L s) a w)->jb z ops (eV ops.toList) T (mo T ord) (L (ly ops T s)) κ = some r->wpAny P .any ops (fun e a w=>e = .normal/\Qn a w) ops.size (Array.replicate ops.size false) a { w with drawn:=w.drawn+1 }:=by
    intro z lt ord a6 a7 a8 bb W ar L hL m
    have f:=DU (T:=T) ar
    have X:ops.size=(mo T ord).length+T.length:=by
     have hp:(mo T ord++T).Perm (List.range ops.size):=by
      refine (List.perm_ext_iff_of_nodup ?_ List.nodup_range).2 fun i => ?_
      ·rw [List.nodup_append]
       refine ⟨f.2.imp fun h=>h.1,ap,fun x hx y hy e => ?_⟩
       subst e
       exact ((f.1 x).1 hx).2 hy
      ·rw [List.mem_append,f.1,List.mem_range]
       constructor
       ·rintro (h|h)
        ·exact h.1
        ·exact (hT i h).2.1
       ·intro h
        by_cases ht:i∈T
        ·exact .inr ht
        ·exact .inl ⟨h,ht⟩
     have:=hp.length_eq
     simpa using this.symm
    have U:∀ (T:List Nat) (l:Array Bool) (j:Nat),(T.foldl (fun l i=>l.setIfInBounds i true) l).size=l.size/\∀ b,(T.foldl (fun l i=>l.setIfInBounds i true) l).getD j b=if j∈T/\j<l.size then true else l.getD j b:=by
     intro T
     induction T with
     | nil=>intro l j;simp
     | cons t T ih =>
      intro l j
      obtain ⟨O,M⟩:=ih (l.setIfInBounds t true) j
      refine ⟨by rw [List.foldl_cons,O];simp,fun b => ?_⟩
      rw [List.foldl_cons,M]
      simp only [Array.size_setIfInBounds,List.mem_cons]
      by_cases h3:j<l.size
      ·by_cases h4:j∈T
       ·simp [h3,h4]
       ·rw [Array.getD_eq_getD_getElem?,Array.getElem?_setIfInBounds]
        by_cases h5:t=j
        ·subst h5;simp [h3]
        ·rw [if_neg h5,<- Array.getD_eq_getD_getElem?]
         have:¬ j=t:=fun e=>h5 e.symm
         simp [h4,this]
      ·have:(l.setIfInBounds t true).getD j b=l.getD j b:=by
        rw [Array.getD_eq_getD_getElem?,Array.getD_eq_getD_getElem?]
        simp [h3]
       simp [h3,this]
    rw [X]
    refine qk W T _ _ ap hT (fun i Y => ?_) (by simp;exact X.symm) h fun a' h' => ?_
    ·have:=(hT i Y).2.1
     rw [Array.getD_eq_getD_getElem?,Array.getElem?_replicate,if_pos (by omega)];rfl
    ·obtain ⟨g1,_⟩:=U T (Array.replicate ((mo T ord).length+T.length) false) 0
     have g2:=fun j=>(U T (Array.replicate ((mo T ord).length+T.length) false) j).2
     have A:ej (mo T ord) (T.foldl (fun l i=>l.setIfInBounds i true) (Array.replicate ((mo T ord).length+T.length) false))=mo T ord:=by
      unfold ej
      refine List.filter_eq_self.2 fun i Y => ?_
      obtain ⟨O,M⟩:=(f.1 i).1 Y
      rw [g2,if_neg (fun h=>M h.1),Array.getD_eq_getD_getElem?,Array.getElem?_replicate,if_pos (by omega)];rfl
     refine CX a8 bb a7 a6 W f ae _ _ (fun j hj => ?_) (by rw [g1];simp;exact X.symm) (fun i Y hl j hj => ?_) (by rw [A]) (hL _ _ _ h') (by rw [A];exact m)
     ·rw [g2]
      split
      ·rfl
      ·rename_i hn
       have:=(hT j hj).2.1
       exact absurd ⟨hj,by rw [Array.size_replicate];omega⟩ hn
     ·rw [g2] at hl
      split at hl
      ·rename_i bk
       exfalso
       have ad:=(hT i bk.1).2.2.1
       have bs:i<(eV ops.toList).length:=by rw [W.1];exact Y
       rw [List.getD_eq_getElem?_getD,List.getElem?_eq_getElem bs] at ad hj
       simp only [Option.getD_some] at ad hj
       rw [ad] at hj;simp at hj
      ·rw [Array.getD_eq_getD_getElem?,Array.getElem?_replicate] at hl
       split at hl <;> cases hl
   unfold FM at m
   cases h0:jr false ops.toList with
   | true =>
    rw [h0] at m
    obtain ⟨g1,g2⟩:=sc (C:=C) h0
    exact any C false _ (fun h=>by cases h) hD hP N g1 g2 (fun s=>s) (fun _ _ _ h=>h) m
   | false =>
    rw [h0,cond_false] at m
    cases O:jr true ops.toList with
    | true =>
     rw [O,cond_true] at m
     obtain ⟨g1,g2⟩:=sc (C:=m8 C) O
     refine any (m8 C) true _ (fun _ g xs κ hv => ?_) (fun g => ?_) hP ⟨N.1,N.2⟩ g1 g2 (fun s=>s) (fun _ _ _ h=>h) m
     ·show (bif kF xs then none else C.call g xs κ)=none
      rw [hv];rfl
     ·intro args κ r' u
      have u:(bif kF args then none else C.call g args κ)=some r':=u
      exact hD g args κ r' (fH u).2
    | false =>
     rw [O,cond_false] at m
     generalize ax:ly ops T s=s1 at m
     by_cases a1:s1.next=0
     ·-- a state with no names laid by: it cannot be
      exfalso
      have bx:∀ (s:St) (d:Option Nat) (v:SV),(s.put d v).next=s.next:=fun s d v=>by cases d <;> rfl
      have bP:∀ (T:List Nat) (s:St),(ly ops T s).next=s.next:=by
       intro T
       induction T with
       | nil=>intro s;rfl
       | cons t T ih =>
        intro s
        show (ly ops T _).next=_
        rw [ih]
        split
        ·split
         ·exact (bx _ _ _)
         ·rfl
        ·rfl
      obtain ⟨β,Rt,Ra,h⟩:=h
      have:=h.nx
      rw [<- ax,bP] at a1
      omega
     ·have hb:∀ z:Cfg R,Nat.beq (oG z s1.next).base 0=false:=fun z=>by
       show Nat.beq s1.next 0=false
       cases hb:Nat.beq s1.next 0 with
       | false=>rfl
       | true=>exact absurd (Nat.eq_of_beq_eq_true hb) a1
      have V:∀ s a w,dd E s a w->dd E (vb s) a w:=by
       rintro s a w ⟨β,Rt,Ra,h⟩
       exact ⟨β,Rt,Ra,⟨⟨h.objs,fun t o ho=>Nat.lt_of_lt_of_le (h.lt t o ho) (Nat.le_add_right _ _),h.c9,h.apart,h.sub,h.rlt,h.fr,h.rt0,h.ra0,h.rt,Nat.le_trans h.nx (Nat.le_add_right _ _),h.pin⟩,h.len,h.defers,h.slots⟩⟩
      subst ax
      cases M:lN false ops.toList with
      | true =>
       rw [M,cond_true] at m
       obtain ⟨g1,g2⟩:=sb (C:=oG C (ly ops T s).next) (hb _) M
       exact any (oG C (ly ops T s).next) false _ (fun h=>by cases h) hD hP ⟨N.1,N.2⟩ g1 g2 vb V m
      | false =>
       rw [M,cond_false] at m
       obtain ⟨hd,m⟩:=cX m
       obtain ⟨g1,g2⟩:=sb (C:=oG (m8 C) (ly ops T s).next) (hb _) hd
       refine any (oG (m8 C) (ly ops T s).next) true _ (fun _ g xs κ hv => ?_) (fun g => ?_) hP ⟨N.1,N.2⟩ g1 g2 vb V m
       ·show (bif kF xs then none else C.call g xs κ)=none
        rw [hv];rfl
       ·intro args κ r' u
        have u:(bif kF args then none else C.call g args κ)=some r':=u
        exact hD g args κ r' (fH u).2
  refine main _ s ?_ (fun i Y=>xQ Y) hx m
  unfold v8
  cases rV ops with
  | true=>exact List.Pairwise.filter _ List.nodup_range
  | false=>exact List.nodup_nil
end
end Go.Proofs.Ab
namespace Go.Proofs.Ab
open Go
variable {R:Type}
section
variable {E:Env} {s:St} {a:Act} {w:World} {β : Nat->Bl} {Rt Ra:Nat->Prop} {C:Cfg R}
theorem lA (a:Act) (i:Nat):a.put (some i) (a.tmps.getD i undef)=a:=by
 have:a.tmps.setIfInBounds i (a.tmps.getD i undef)=a.tmps:=by
  apply Array.ext
  ·simp
  ·intro j m f
   rw [Array.getElem_setIfInBounds]
   split
   ·rename_i e;subst e;simp [Array.getD_eq_getD_getElem?,f]
   ·rfl
 show { a with tmps:=a.tmps.setIfInBounds i (a.tmps.getD i undef) }=a
 rw [this]
theorem sP {α : Type} {S:SV -> α -> Prop}:∀ {l:List SV} {m:List α} (j:Nat) {x:SV},PW S l m->(∀ v,S (e6 l j) v->S x v)->PW S (gP l j x) m
 | [],[],_,_,h,_=>h
 | _::_,_::_,0,_,h,f=>⟨f _ h.1,h.2⟩
 | _::_,_::_,j+1,_,h,f=>⟨h.1,sP j h.2 f⟩
 | [],_::_,_,_,h,_=>h.elim
 | _::_,[],_,_,h,_=>h.elim
theorem Rel.xr (h:Rel E s a w β Rt Ra) {e:Nat} (m:∃ T,E.T e=some T):∃ β',Rel E (s.new (.row e [] true)) a w β' Rt Ra/\(bG E s w β Rt Ra).Le (bG E (s.new (.row e [] true)) w β' Rt Ra)/\(β' s.next).v = .slice none 0 0/\(β' s.next).arr=false:=by
 obtain ⟨T,m⟩:=m
 have f:fm w false e T.sz (.slice none 0 0) ([]:List AV).length []:=⟨by simp,.inl ⟨rfl,rfl⟩⟩
 obtain ⟨z,le⟩:=h.toRelO.add (.row e [] true) ⟨.slice none 0 0,0,T.sz,false⟩ (fun b u=>by simp [ci,Value.ownBlock] at u) (fun b u=>by simp [ci,Value.ownBlock] at u)
  (fun le=>⟨T,[],m,rfl,f,fun i j k A=>by simp at A⟩)
 refine ⟨_,⟨z,h.len,h.defers,fD le h.slots⟩,le,?_⟩
 unfold fc;rw [if_pos rfl];exact ⟨rfl,rfl⟩
theorem vq {i j m:Nat} (Y:E.T=C.ty) (hm:xp C (j,m)=true) (h:dd E s a w):dd E (Cd i j m s) a w:=by
 unfold Cd
 split
 ·exact h
 ·split
  ·split
   ·exact dd.fZ _ h
   ·exact h
  ·exact dd.fZ _ h
  ·exact dd.fZ _ h
 ·rename_i e
  have V:∃ T,E.T e=some T:=by
   rw [Y];exact Option.isSome_iff_exists.1 hm
  obtain ⟨β,Rt,Ra,h⟩:=h
  split
  ·rename_i t off U
   split
   ·rename_i ty ls X
    split
    ·rename_i W
     obtain ⟨β',A,le,M,f⟩:=h.xr V
     have N:(s.new (.row e [] true)).obj t=some (.var ty ls):=by rw [fF,if_neg (Nat.ne_of_lt (h.lt t _ X))];exact X
     refine ⟨β',Rt,Ra,A.iq (w':=w) N _ (Fr.refl _ w) (fun b hb=>hb) fun O => ?_⟩
     obtain ⟨cs,q,g1,g2⟩:=A.objs t _ N
     refine ⟨cs,q,g1,sP j (g2.imp fun _ _ z=>z.le O) fun v z => ?_⟩
     rw [W] at z
     have u:v = .slice none 0 0:=z
     refine ⟨O.D _ ⟨_,by rw [fF,if_pos rfl]⟩,?_,by rw [u];rfl,f⟩
     rw [u];exact M.symm
    ·exact ⟨β,Rt,Ra,h⟩
   ·exact ⟨β,Rt,Ra,h⟩
  ·rename_i U
   obtain ⟨β',A,le,M,f⟩:=h.xr V
   have z:=h.slots i
   rw [U] at z
   have u:a.tmps.getD i undef = .slice none 0 0:=z
   have:=A.put (some i) (x := .own s.next) (v:=a.tmps.getD i undef) (dy (dO ⟨⟨_,by rw [fF,if_pos rfl]⟩,by rw [u];exact M.symm,by rw [u];rfl,f⟩))
   rw [lA] at this
   exact ⟨_,_,_,this⟩
  ·rename_i l U
   split
   ·rename_i W
    obtain ⟨β',A,le,M,f⟩:=h.xr V
    have z:=(h.slots i).le le
    rw [U] at z
    obtain ⟨cs,e1,e2⟩:=jm z
    have:=A.put (some i) (x := .agg (gP l j (.own s.next))) (v:=a.tmps.getD i undef) (dy ⟨cs,e1,sP j e2 fun v z=>by
     rw [W] at z
     have u:v = .slice none 0 0:=z
     exact ⟨⟨_,by rw [fF,if_pos rfl]⟩,by rw [u];exact M.symm,by rw [u];rfl,f⟩⟩)
    rw [lA] at this
    exact ⟨_,_,_,this⟩
   ·exact ⟨β,Rt,Ra,h⟩
  ·exact ⟨β,Rt,Ra,h⟩
theorem nM {i:Nat} (f:E.T=C.ty):∀ (l:List (Nat × Nat)) {s:St},l.all (xp C)=true->dd E s a w->dd E (Ce i l s) a w
 | [],_,_,h=>h
 | (j,m)::r,s,hm,h=>by
  simp only [List.all_cons,Bool.and_eq_true] at hm
  exact nM f r hm.2 (vq f hm.1 h)
theorem nN (f:E.T=C.ty):∀ (l:List (Nat × List (Nat × Nat))) {s:St},uz C l=true->dd E s a w->dd E (yI l s) a w
 | [],_,_,h=>h
 | (i,l)::r,s,hm,h=>by
  simp only [uz,List.all_cons,Bool.and_eq_true] at hm
  exact nN f r hm.2 (nM f l hm.1 h)
theorem iz:∀ (n i:Nat) (l:List (Nat × SV)) (k:Nat),e6 (fw n i l) k = .no∨∃ v,(i+k,v)∈l/\e6 (fw n i l) k=v
 | 0,_,_,_ => .inl (by simp [fw,e6])
 | n+1,i,[],k=>by
  cases k with
  | zero=>exact .inl rfl
  | succ k =>
   rcases iz n (i+1) [] k with h|⟨v,h,_⟩
   ·exact .inl h
   ·cases h
 | n+1,i,(j,v)::r,k=>by
  simp only [fw]
  cases f:Nat.beq i j with
  | true =>
   have:=Nat.eq_of_beq_eq_true f;subst this
   simp only [cond_true]
   cases k with
   | zero=>exact .inr ⟨v,by simp,rfl⟩
   | succ k =>
    rcases iz n (i+1) r k with h|⟨u,h,e⟩
    ·exact .inl h
    ·exact .inr ⟨u,by rw [show i+(k+1)=i+1+k by omega];simp [h],e⟩
  | false =>
   simp only [cond_false]
   cases k with
   | zero=>exact .inl rfl
   | succ k =>
    rcases iz n (i+1) ((j,v)::r) k with h|⟨u,h,e⟩
    ·exact .inl h
    ·exact .inr ⟨u,by rw [show i+(k+1)=i+1+k by omega];exact h,e⟩
theorem jZ:∀ (n i:Nat) (l:List (Nat × SV)),(fw n i l).length=n
 | 0,_,_=>rfl
 | n+1,i,[]=>by simp [fw,jZ n]
 | n+1,i,(j,v)::r=>by
  simp only [fw]
  cases Nat.beq i j <;> simp [jZ n]
theorem qV (n:Nat):Nat.beq n n=true:=Nat.beq_refl n
theorem ET {m n:Nat} (h:m≠n):Nat.beq m n=false:=by
 cases f:Nat.beq m n with
 | false=>rfl
 | true=>exact absurd (Nat.eq_of_beq_eq_true f) h
theorem mU:∀ (j:List (Nat × Nat)) {t u:Nat},iw t j=some u->(t,u)∈j
 | [],_,_,h=>by cases h
 | (a,b)::r,t,u,h=>by
  simp only [iw] at h
  cases f:Nat.beq a t with
  | true =>
   have:=Nat.eq_of_beq_eq_true f;subst this
   rw [f] at h;cases h;simp
  | false=>rw [f] at h;simp only [cond_false] at h;exact List.mem_cons_of_mem _ (mU r h)
theorem Ai {m:List (Nat × Nat)} (h:(m.map (·.1)).Nodup) {t u z:Nat} (A:(t,u)∈m) (M:(t,z)∈m):u=z:=by
 induction m with
 | nil=>cases A
 | cons p r N =>
  simp only [List.map_cons,List.nodup_cons] at h
  rcases List.mem_cons.1 A with rfl|f <;> rcases List.mem_cons.1 M with e|j
  ·cases e;rfl
  ·exact absurd (List.mem_map.2 ⟨_,j,rfl⟩) h.1
  ·subst e;exact absurd (List.mem_map.2 ⟨_,f,rfl⟩) h.1
  ·exact N h.2 f j
theorem Aj {m:List (Nat × Nat)} (h:(m.map (·.2)).Nodup) {t z u:Nat} (A:(t,u)∈m) (M:(z,u)∈m):t=z:=by
 induction m with
 | nil=>cases A
 | cons p r N =>
  simp only [List.map_cons,List.nodup_cons] at h
  rcases List.mem_cons.1 A with rfl|f <;> rcases List.mem_cons.1 M with e|j
  ·cases e;rfl
  ·exact absurd (List.mem_map.2 ⟨_,j,rfl⟩) h.1
  ·subst e;exact absurd (List.mem_map.2 ⟨_,f,rfl⟩) h.1
  ·exact N h.2 f j
theorem pW (objs:List (Nat × Obj)) (f:List (Nat × Nat)):∀ (N:List (Nat × Nat)) {u:Nat} {o:Obj},lookup u (pV objs f N)=some o->∃ t j,(t,u)∈N/\lookup t objs=some j/\o=j.map (yV f)
 | [],_,_,h=>by cases h
 | (x,y)::r,u,o,h=>by
  simp only [pV] at h
  split at h
  ·rename_i j m
   simp only [lookup] at h
   cases z:Nat.beq u y with
   | true =>
    have:=Nat.eq_of_beq_eq_true z;subst this
    rw [z] at h;cases h;exact ⟨x,j,by simp,m,rfl⟩
   | false =>
    rw [z] at h;simp only [cond_false] at h
    obtain ⟨t,j,A,M⟩:=pW objs f r h
    exact ⟨t,j,by simp [A],M⟩
  ·obtain ⟨t,j,A,M⟩:=pW objs f r h
   exact ⟨t,j,by simp [A],M⟩
theorem vS (objs:List (Nat × Obj)) (f:List (Nat × Nat)):∀ (m:List (Nat × Nat)) {t u:Nat} {o:Obj},(t,u)∈m->lookup t objs=some o->∃ j,lookup u (pV objs f m)=some j
 | [],_,_,_,h,_=>by cases h
 | (x,y)::r,t,u,o,h,z=>by
  simp only [pV]
  rcases List.mem_cons.1 h with e|M
  ·cases e
   rw [z];simp only [lookup,qV,cond_true];exact ⟨_,rfl⟩
  ·obtain ⟨j,A⟩:=vS objs f r M z
   split
   ·simp only [lookup]
    cases Nat.beq u y with
    | true=>exact ⟨_,rfl⟩
    | false=>exact ⟨j,A⟩
   ·exact ⟨j,A⟩
theorem qT (n:Nat):∀ {j:List (Nat × Nat)},below n j=true->∀ {t u:Nat},(t,u)∈j->u<n
 | [],_,_,_,h=>by cases h
 | (x,y)::r,f,t,u,h=>by
  simp only [below,Bool.and_eq_true,decide_eq_true_eq] at f
  rcases List.mem_cons.1 h with e|m
  ·cases e;exact f.1
  ·exact qT n f.2 m
theorem pO:∀ {j:List (Nat × Nat)},pinned j=true->∀ {t u:Nat},(t,u)∈j->64<=u∨t=u
 | [],_,_,_,h=>by cases h
 | (x,y)::r,f,t,u,h=>by
  simp only [pinned,Bool.and_eq_true,Bool.or_eq_true] at f
  rcases List.mem_cons.1 h with e|m
  ·cases e;exact f.1.imp Nat.le_of_ble_eq_true Nat.eq_of_beq_eq_true
  ·exact pO f.2 m
def qm (f:List (Nat × Nat)) (u:Nat):Nat:=(iw u (f.map fun p=>(p.2,p.1))).getD 0
theorem rj:∀ {f:List (Nat × Nat)} {t u:Nat},(t,u)∈f->∃ v,iw t f=some v
 | [],_,_,h=>by cases h
 | (x,y)::r,t,u,h=>by
  simp only [iw]
  cases j:Nat.beq x t with
  | true=>exact ⟨y,rfl⟩
  | false =>
   rcases List.mem_cons.1 h with e|m
   ·cases e;rw [qV] at j;cases j
   ·exact rj m
theorem sI {f:List (Nat × Nat)} (h:(f.map (·.2)).Nodup) {t u:Nat} (hm:(t,u)∈f):qm f u=t:=by
 have j:(u,t)∈f.map fun p=>(p.2,p.1):=List.mem_map.2 ⟨_,hm,rfl⟩
 obtain ⟨v,m⟩:=rj j
 unfold qm;rw [m]
 obtain ⟨p,z,e⟩:=List.mem_map.1 (mU _ m)
 obtain ⟨x,y⟩:=p
 simp only [Prod.mk.injEq] at e
 obtain ⟨rfl,rfl⟩:=e
 exact Aj h z hm
theorem vT (f:List (Nat × Nat)) (x:SV) (h:yV f x = .nos):x = .nos:=by
 cases x <;> simp only [yV] at h <;> first|rfl|(cases h;done)|(split at h <;> cases h)
theorem jQ {h:List (Nat × List (Nat × Nat))} (hE:E.T=C.ty) (hm:uz C h=true) {s':St} (m:dd E s a w) (hc:uA h s=some s'):dd E s' a w:=by
 obtain ⟨β,Rt,Ra,m⟩:=nN hE h hm m
 unfold uA at hc
 simp only at hc
 generalize yI h s=s1 at m hc
 generalize tM s1 h (pins s1.objs) = ρ at hc
 obtain ⟨O,e⟩:=bY hc
 simp only [Bool.and_eq_true] at O
 obtain ⟨⟨d1,d2⟩,ad,ae⟩:=O
 replace d1:=fg d1
 replace d2:=fg d2
 cases e
 let β':Nat->Bl:=fun u => β (qm ρ u)
 have j:∀ u o,(⟨er s1.slots.length (h.map (pw s1 ρ)),pV s1.objs ρ ρ,eo⟩:St).obj u=some o->∃ t M,(t,u) ∈ ρ /\ s1.obj t=some M/\o=M.map (yV ρ) /\ β' u = β t:=by
  intro u o N
  obtain ⟨t,M,V,W,h3⟩:=pW s1.objs ρ ρ N
  exact ⟨t,M,V,W,h3,by show β (qm ρ u) = β t;rw [sI d2 V]⟩
 have f:∀ {t u},iw t ρ = some u->(∃ o,s1.obj t=some o)->(∃ o,(⟨er s1.slots.length (h.map (pw s1 ρ)),pV s1.objs ρ ρ,eo⟩:St).obj u=some o) /\ β' u = β t:=by
  intro t u hf ⟨o,N⟩
  have hm:=mU ρ hf
  exact ⟨vS s1.objs ρ ρ hm N,by show β (qm ρ u) = β t;rw [sI d2 hm]⟩
 have hf:∀ x v,SL (bG E s1 w β Rt Ra) x v->SL (bG E ⟨er s1.slots.length (h.map (pw s1 ρ)),pV s1.objs ρ ρ,eo⟩ w β' Rt Ra) (yV ρ x) v:=by
  intro x v A
  cases x <;> try exact A
  case own t =>
   simp only [yV]
   split
   ·rename_i u hu
    obtain ⟨g1,g2⟩:=f hu A.1
    exact ⟨g1,by show v=(β' u).v/\_/\(β' u).arr=false;rw [g2];exact A.2⟩
   ·trivial
  case vw t lo hi =>
   simp only [yV]
   split
   ·rename_i u hu
    obtain ⟨g1,g2⟩:=f hu A.1
    refine ⟨g1,?_⟩
    have U:=A.2
    simp only [bG] at U ⊢
    rw [g2];exact U
   ·trivial
  case ptr t off =>
   simp only [yV]
   split
   ·rename_i u hu
    obtain ⟨g1,g2⟩:=f hu A.1
    exact ⟨g1,by show v = .pointer (some ⟨(β' u).b,off,none⟩);rw [g2];exact A.2⟩
   ·trivial
  case mp t =>
   simp only [yV]
   split
   ·rename_i u hu
    obtain ⟨g1,g2⟩:=f hu A.1
    exact ⟨g1,by show v = .map (some (β' u).b);rw [g2];exact A.2⟩
   ·trivial
  case cls g X =>
   simp only [yV]
   split
   ·rename_i Y ax
    have ar:∀ (X Y:List Nat),yh ρ X=some Y->(∀ t∈X,∃ o,s1.obj t=some o)->(∀ u∈Y,∃ o,(⟨er s1.slots.length (h.map (pw s1 ρ)),pV s1.objs ρ ρ,eo⟩:St).obj u=some o)/\(Y.map fun u=>Value.pointer (some ⟨(β' u).b,0,none⟩))=X.map fun t => .pointer (some ⟨(β t).b,0,none⟩):=by
     intro X
     induction X with
     | nil=>intro Y hu _;cases hu;exact ⟨fun u hu=>(by cases hu),rfl⟩
     | cons t X ih =>
      intro Y hu hd
      unfold yh at hu
      split at hu
      ·rename_i u l a1 hl
       cases hu
       obtain ⟨g1,g2⟩:=f a1 (hd t (by simp))
       obtain ⟨g3,g4⟩:=ih l hl (fun t ht=>hd t (by simp [ht]))
       refine ⟨fun z hz => ?_,?_⟩
       ·rcases List.mem_cons.1 hz with rfl|hz
        ·exact g1
        ·exact g3 z hz
       ·rw [List.map_cons,List.map_cons,g2,g4]
      ·cases hu
    obtain ⟨g1,g2⟩:=ar X Y ax A.1
    exact ⟨g1,A.2.trans (by rw [show (X.map fun t=>Value.pointer (some ⟨((bG E s1 w β Rt Ra).β t).b,0,none⟩))=Y.map fun u=>Value.pointer (some ⟨(β' u).b,0,none⟩) from g2.symm];rfl)⟩
   ·trivial
  case clo g t =>
   simp only [yV]
   split
   ·rename_i u hu
    obtain ⟨g1,g2⟩:=f hu A.1
    exact ⟨g1,by show v = .func (.func g) #[] #[.pointer (some ⟨(β' u).b,0,none⟩)];rw [g2];exact A.2⟩
   ·trivial
  case ap t n =>
   simp only [yV]
   split
   ·rename_i u hu
    obtain ⟨g1,g2⟩:=f hu A.1
    refine ⟨g1,?_⟩
    have U:=A.2
    simp only [bG] at U ⊢
    rw [g2];exact U
   ·trivial
  case el t i off=>trivial
  case sdp t=>trivial
  case rl e l st i off=>trivial
 refine ⟨β',Rt,Ra,⟨⟨fun u o N => ?_,fun u o N => ?_,fun u o N => ?_,fun u o u' M N a6 hn => ?_,m.sub,m.rlt,m.fr,m.rt0,m.ra0,m.rt,(show 64<=100000 by omega),fun u o N a7 => ?_⟩,?_,m.defers,fun i => ?_⟩⟩
 ·obtain ⟨t,M,V,W,rfl,e⟩:=j u o N
  rw [e]
  exact (m.objs t M W).map hf rfl (vT ρ) rfl (fun _ _ h=>h) (fun _ _ _=>rfl) (fun _ _=>rfl)
 ·obtain ⟨t,M,V,_⟩:=j u o N
  exact qT eo ad V
 ·obtain ⟨t,M,V,W,rfl,e⟩:=j u o N
  rw [e,gw];exact m.c9 t M W
 ·obtain ⟨t,o1,V,W,rfl,e⟩:=j u o N
  obtain ⟨t',a8,bb,be,rfl,e'⟩:=j u' M a6
  rw [e,e',gw,gw]
  exact m.apart t o1 t' a8 W be fun e=>by subst e;exact hn (Ai d1 V bb)
 ·obtain ⟨t,M,V,W,rfl,e⟩:=j u o N
  rcases pO ae V with h3|h3
  ·omega
  ·subst h3;rw [e];exact m.pin t M W a7
 ·show (fw _ _ _).length=_
  rw [jZ];exact m.len
 ·show S2 _ (e6 (fw _ _ _) i) _
  rcases iz s1.slots.length 0 (h.map (pw s1 ρ)) i with e|⟨v,hv,e⟩
  ·rw [e];trivial
  ·rw [e]
   obtain ⟨p,hp,e2⟩:=List.mem_map.1 hv
   unfold pw at e2
   simp only [Prod.mk.injEq,Nat.zero_add] at e2
   obtain ⟨rfl,rfl⟩:=e2
   exact AZ hf (m.slots _)
end
end Go.Proofs.Ab
namespace Go.Proofs.Ab
open Go
variable {R:Type}
mutual
theorem E':∀ (a b:AV),Gl a b=true->a=b
 | .no,b,h=>by cases b <;> first|rfl|cases h
 | .int x,b,h=>by
  cases b <;> first|(cases h;done)|skip
  have h:decide (x=_)=true:=h
  rw [of_decide_eq_true h]
 | .bool x,b,h=>by
  cases b <;> first|(cases h;done)|skip
  have h:(x == _)=true:=h
  rw [eq_of_beq h]
 | .str x,b,h=>by
  cases b <;> first|(cases h;done)|skip
  have h:decide (x=_)=true:=h
  rw [of_decide_eq_true h]
 | .sl x,b,h=>by
  cases b <;> first|(cases h;done)|skip
  rw [iu x _ h]
 | .agg x,b,h=>by
  cases b <;> first|(cases h;done)|skip
  rw [iu x _ h]
theorem iu:∀ (a b:List AV),jt a b=true->a=b
 | [],b,h=>by cases b <;> first|rfl|cases h
 | x::l,b,h=>by
  cases b with
  | nil=>cases h
  | cons y m =>
   have h:(Gl x y&&jt l m)=true:=h
   rw [Bool.and_eq_true] at h
   rw [E' x y h.1,iu l m h.2]
end
theorem nb {m n:Nat} (h:Nat.beq m n=true):m=n:=Nat.eq_of_beq_eq_true h
mutual
theorem Fb:∀ (a b:SV),F5 a b=true->a=b
 | .agg x,b,h=>by
  cases b <;> first|(cases h;done)|skip
  rw [ko x _ h]
 | .tup x,b,h=>by
  cases b <;> first|(cases h;done)|skip
  rw [ko x _ h]
 | .vp t x,b,h=>by
  cases b <;> first|(cases h;done)|skip
  have h:(Nat.beq t _&&kT x _)=true:=h
  rw [Bool.and_eq_true] at h
  rw [nb h.1,ko x _ h.2]
 | .no,b,h=>by cases b <;> first|rfl|cases h
 | .undef,b,h=>by cases b <;> first|rfl|cases h
 | .nil,b,h=>by cases b <;> first|rfl|cases h
 | .nos,b,h=>by cases b <;> first|rfl|cases h
 | .nilp,b,h=>by cases b <;> first|rfl|cases h
 | .nilfn,b,h=>by cases b <;> first|rfl|cases h
 | .nili,b,h=>by cases b <;> first|rfl|cases h
 | .int k n,b,h=>by
  cases b <;> first|(cases h;done)|skip
  have h:(decide (k=_)&&decide (n=_))=true:=h
  rw [Bool.and_eq_true] at h
  rw [of_decide_eq_true h.1,of_decide_eq_true h.2]
 | .bool x,b,h=>by
  cases b <;> first|(cases h;done)|skip
  have h:(x == _)=true:=h
  rw [eq_of_beq h]
 | .str x,b,h=>by
  cases b <;> first|(cases h;done)|skip
  have h:decide (x=_)=true:=h
  rw [of_decide_eq_true h]
 | .ro e l st,b,h=>by
  cases b <;> first|(cases h;done)|skip
  have h:(Nat.beq e _&&(jt l _&&(st == _)))=true:=h
  simp only [Bool.and_eq_true] at h
  rw [nb h.1,iu _ _ h.2.1,eq_of_beq h.2.2]
 | .fr e l st,b,h=>by
  cases b <;> first|(cases h;done)|skip
  have h:(Nat.beq e _&&(jt l _&&(st == _)))=true:=h
  simp only [Bool.and_eq_true] at h
  rw [nb h.1,iu _ _ h.2.1,eq_of_beq h.2.2]
 | .own t,b,h=>by
  cases b <;> first|(cases h;done)|skip
  rw [nb h]
 | .vw t x y,b,h=>by
  cases b <;> first|(cases h;done)|skip
  have h:(Nat.beq t _&&(decide (x=_)&&decide (y=_)))=true:=h
  simp only [Bool.and_eq_true] at h
  rw [nb h.1,of_decide_eq_true h.2.1,of_decide_eq_true h.2.2]
 | .ptr t x,b,h=>by
  cases b <;> first|(cases h;done)|skip
  have h:(Nat.beq t _&&Nat.beq x _)=true:=h
  simp only [Bool.and_eq_true] at h
  rw [nb h.1,nb h.2]
 | .el _ _ _,b,h=>by cases b <;> cases h
 | .rl _ _ _ _ _,b,h=>by cases b <;> cases h
 | .sdp _,b,h=>by cases b <;> cases h
 | .ra _ _ _ _,b,h=>by cases b <;> cases h
 | .cls _ _,b,h=>by cases b <;> cases h
 | .ap t x,b,h=>by
  cases b <;> first|(cases h;done)|skip
  have h:(Nat.beq t _&&Nat.beq x _)=true:=h
  simp only [Bool.and_eq_true] at h
  rw [nb h.1,nb h.2]
 | .ar e n l,b,h=>by
  cases b <;> first|(cases h;done)|skip
  have h:(Nat.beq e _&&(Nat.beq n _&&jt l _))=true:=h
  simp only [Bool.and_eq_true] at h
  rw [nb h.1,nb h.2.1,iu _ _ h.2.2]
 | .fn f,b,h=>by
  cases b <;> first|(cases h;done)|skip
  rw [nb h]
 | .clo f t,b,h=>by
  cases b <;> first|(cases h;done)|skip
  have h:(Nat.beq f _&&Nat.beq t _)=true:=h
  simp only [Bool.and_eq_true] at h
  rw [nb h.1,nb h.2]
 | .mp t,b,h=>by
  cases b <;> first|(cases h;done)|skip
  rw [nb h]
theorem ko:∀ (a b:List SV),kT a b=true->a=b
 | [],b,h=>by cases b <;> first|rfl|cases h
 | x::l,b,h=>by
  cases b with
  | nil=>cases h
  | cons y m =>
   have h:(F5 x y&&kT l m)=true:=h
   rw [Bool.and_eq_true] at h
   rw [Fb x y h.1,ko l m h.2]
end
theorem Fa (a b:Obj) (h:F4 a b=true):a=b:=by
 cases a <;> cases b <;> first|(cases h;done)|skip
 ·have h:(Nat.beq _ _&&(jt _ _&&(_ == _)))=true:=h
  simp only [Bool.and_eq_true] at h
  rw [nb h.1,iu _ _ h.2.1,eq_of_beq h.2.2]
 ·have h:(Nat.beq _ _&&kT _ _)=true:=h
  simp only [Bool.and_eq_true] at h
  rw [nb h.1,ko _ _ h.2]
 ·have h:(decide (_=_)&&Nat.beq _ _)=true:=h
  simp only [Bool.and_eq_true] at h
  rw [of_decide_eq_true h.1,nb h.2]
 ·have h:(decide (_=_)&&(decide (_=_)&&jt _ _))=true:=h
  simp only [Bool.and_eq_true] at h
  rw [of_decide_eq_true h.1,of_decide_eq_true h.2.1,iu _ _ h.2.2]
 ·rfl
theorem ye:∀ (a b:List (Nat × Obj)),uF a b=true->a=b
 | [],[],_=>rfl
 | (a,x)::l,(b,y)::m,h=>by
  have h:(Nat.beq a b&&(F4 x y&&uF l m))=true:=h
  simp only [Bool.and_eq_true] at h
  rw [nb h.1,Fa _ _ h.2.1,ye _ _ h.2.2]
 | [],_::_,h=>by cases h
 | _::_,[],h=>by cases h
theorem Dw {s t:St} (h:Bz s t=true):s=t:=by
 obtain ⟨a,b,c⟩:=s
 obtain ⟨d,e,f⟩:=t
 have h:(kT a d&&(uF b e&&Nat.beq c f))=true:=h
 simp only [Bool.and_eq_true] at h
 rw [ko _ _ h.1,ye _ _ h.2.1,nb h.2.2]
end Go.Proofs.Ab
namespace Go.Proofs.Ab
open Go
variable {R:Type}
def Fin (P:Program) (E:Env) (ret:St->Option R) (r:R) (b:Frame) (cs:List Frame) (m:Machine):Prop :=
 ∃ s' a' w' todo,ret s'=some r/\dd E s' a' w'/\Steps P m (lone { b.at a' todo with mode := .returning } cs w')
section
variable {P:Program} {E:Env} {s:St} {a:Act} {w:World} {r:R} {C:Cfg R} {tab:bZ} {ret:St->Option R} {J:List Item->St->Option R} {b:Frame} {cs:List Frame} {ops:Array Oper}
theorem Fin.head {m m':Machine} (h:step P m = .next m') (f:Fin P E ret r b cs m'):Fin P E ret r b cs m :=
 let ⟨s',a',w',todo,h1,h2,h3⟩:=f;⟨s',a',w',todo,h1,h2,.head h h3⟩
theorem Fin.steps {m m':Machine} (h:Steps P m m') (f:Fin P E ret r b cs m'):Fin P E ret r b cs m :=
 let ⟨s',a',w',todo,h1,h2,h3⟩:=f;⟨s',a',w',todo,h1,h2,h.trans h3⟩
theorem rF {c:Operand} {t:Bool} (h:ev s c = .bool t):DO s c t=s:=by
 unfold DO;split
 ·exact vE h
 ·rfl
theorem lr (z:Ok P C.ty) (A:dY C tab E) (M:∀ g,bM P C.ty tab g (C.call g)) {id:Nat} {ops:Array Oper} {d:Bool} {k:List Item} {κ : St->Option R} (h:dd E s a w) (N:As C ops d s κ = some r)
  (O:∀ s' a' w',κ s'=some r->dd E s' a' w'->Fin P E ret r b cs (lone (b.at a' k) cs w')):Fin P E ret r b cs (lone (b.at a (.code (.region id ops d)::k)) cs w):=by
 have j:=pU (id:=id) (Qn:=fun a' w'=>∃ s',κ s'=some r/\dd E s' a' w') z A M h N fun s' a' w' m u=>⟨s',m,u⟩
 obtain ⟨e,a',w',⟨rfl,s',m,u⟩,f⟩:=j b k cs
 exact .steps f (O s' a' w' m u)
theorem gd {i:Nat} (f:i<ops.size) {l:List Nat} {κ : St->Option R}:nh C ops (i::l) s κ = dk C false ops (ops[i]'f) s (fun s'=>nh C ops l s' κ):=by
 unfold nh
 rw [List.filterMap_cons_some (Array.getElem?_eq_getElem f)];rfl
theorem FU (hP:Ok P C.ty) (hE:dY C tab E) (hD:∀ g,bM P C.ty tab g (C.call g)) (hc:Bf ops=true) (h:dd E s a w) {B:St->St->Option R} {id:Nat}
  (hk:nh C ops [0] s (fun s0=>nh C ops [1,2,3] s0 fun s1=>nh C ops [2,1,3] s0 fun s2=>B s1 s2)=some r) :
  (Code.region id ops true).wp P (fun e a' w'=>e = .normal/\((∃ s1 s2,B s1 s2=some r/\dd E s1 a' w'/\∃ a w,dd E s2 a w)∨∃ s1 s2,B s1 s2=some r/\dd E s2 a' w'/\∃ a w,dd E s1 a w)) a w:=by
 unfold Bf at hc
 simp only [Bool.and_eq_true,decide_eq_true_eq] at hc
 obtain ⟨M,c0,c1,c2,c3,c4,c5⟩:=hc
 have M:ops.size=4:=nb M
 refine wp_region_any hP.mixed ?_
 generalize hQ:(fun (e:Exit) (a':Act) (w':World)=>e=Exit.normal/\((∃ s1 s2,B s1 s2=some r/\dd E s1 a' w'/\∃ a w,dd E s2 a w)∨∃ s1 s2,B s1 s2=some r/\dd E s2 a' w'/\∃ a w,dd E s1 a w))=Q
 have step:∀ (fuel:Nat) (listed:Array Bool) (N:List Nat) {s:St} {a:Act} {w:World},FL ops listed=N->N≠[]->dd E s a w ->
   (∀ i∈N,∃ (f:i<ops.size) (κ : St->Option R),dk C false ops (ops[i]'f) s κ = some r/\∀ s' a' w',κ s'=some r->dd E s' a' w'->wpAny P .any ops Q fuel (listed.setIfInBounds i true) a' w') ->
   wpAny P .any ops Q (fuel+1) listed a w:=by
  intro fuel listed N s a w O ae ⟨β,Rt,Ra,h⟩ f
  have U:Region.ready .any ops listed=N:=O
  refine ⟨fun V=>absurd (U.symm.trans V) ae,fun i W => ?_⟩
  rw [U] at W
  obtain ⟨ap,κ,hk,hn⟩:=f i W
  exact gB hP hE hD h (Array.getElem?_eq_getElem ap) hk _ _ fun s' a' w' X Y=>hn s' a' w' X Y
 have last:∀ {a:Act} {w:World},Q .normal a w->wpAny P .any ops Q 0 #[true,true,true,true] a w:=fun h=>⟨c5,h⟩
 rw [show Array.replicate ops.size false = #[false,false,false,false] by rw [M];rfl,M]
 rw [gd (by omega)] at hk
 have h:dd E s a { w with drawn:=w.drawn+1 }:=by
  obtain ⟨β,Rt,Ra,h⟩:=h
  exact ⟨β,Rt,Ra,h.jD ⟨rfl,rfl,rfl,Nat.le_refl _,fun _ _ _=>rfl⟩⟩
 refine step 3 _ _ c0 (by simp) h fun i f => ?_
 rw [List.mem_singleton] at f;subst f
 refine ⟨by omega,_,hk,fun s0 a0 w0 j V => ?_⟩
 replace j:nh C ops [1,2,3] s0 (fun s1=>nh C ops [2,1,3] s0 fun s2=>B s1 s2)=some r:=j
 have ad:∀ l:List Nat,(∀ i∈l,i<4)->∀ i∈l,i<ops.size:=fun l h i f=>by rw [M];exact h i f
 refine step 2 #[true,false,false,false] _ c1 (by simp) V fun i f => ?_
 simp only [List.mem_cons,List.mem_nil_iff,or_false] at f
 rcases f with rfl|rfl
 ·rw [gd (by omega)] at j
  refine ⟨by omega,_,j,fun x1 a1 w1 m X => ?_⟩
  refine step 1 #[true,true,false,false] _ c2 (by simp) X fun i f => ?_
  rw [List.mem_singleton] at f;subst f
  rw [gd (by omega)] at m
  refine ⟨by omega,_,m,fun x2 a2 w2 u Y => ?_⟩
  refine step 0 #[true,true,true,false] _ c4 (by simp) Y fun i f => ?_
  rw [List.mem_singleton] at f;subst f
  rw [gd (by omega)] at u
  refine ⟨by omega,_,u,fun x3 a3 w3 z h3=>last ?_⟩
  replace z:nh C ops [2,1,3] s0 (fun s2=>B x3 s2)=some r:=z
  obtain ⟨s2,a4,w4,A,O⟩:=mn hP hE hD [2,1,3] (ad _ (by simp)) V z
  rw [<- hQ]
  exact ⟨rfl,.inl ⟨x3,s2,A,h3,a4,w4,O⟩⟩
 ·obtain ⟨s1,a4,w4,A,O⟩:=mn hP hE hD [1,2,3] (ad _ (by simp)) V j
  replace A:nh C ops [2,1,3] s0 (fun s2=>B s1 s2)=some r:=A
  rw [gd (by omega)] at A
  refine ⟨by omega,_,A,fun x1 a1 w1 m X => ?_⟩
  refine step 1 #[true,false,true,false] _ c3 (by simp) X fun i f => ?_
  rw [List.mem_singleton] at f;subst f
  rw [gd (by omega)] at m
  refine ⟨by omega,_,m,fun x2 a2 w2 u Y => ?_⟩
  refine step 0 #[true,true,true,false] _ c4 (by simp) Y fun i f => ?_
  rw [List.mem_singleton] at f;subst f
  rw [gd (by omega)] at u
  refine ⟨by omega,_,u,fun x3 a3 w3 z h3=>last ?_⟩
  rw [<- hQ]
  exact ⟨rfl,.inr ⟨s1,x3,z,h3,a4,w4,O⟩⟩
theorem oz (m:Ok P C.ty) (u:dY C tab E) (z:∀ g,bM P C.ty tab g (C.call g)):∀ (c:Code) {k:List Item} {s:St} {a:Act} {w:World} {κ : St->Option R},dd E s a w->qF C c s κ = some r ->
  (∀ s' a' w',κ s'=some r->dd E s' a' w'->Fin P E ret r b cs (lone (b.at a' k) cs w'))->Fin P E ret r b cs (lone (b.at a (.code c::k)) cs w)
 | .region id ops d,k,s,a,w,κ,h,f,j=>by
  unfold qF at f
  split at f
  ·cases f
  ·exact lr m u z h f j
 | .seq x y,k,s,a,w,κ,h,f,j=>by
  unfold qF at f
  refine .head step_seq (oz m u z x h f fun s1 a1 w1 A M => ?_)
  exact oz m u z y M A j
 | .skip,k,s,a,w,κ,h,f,j => .head step_skip (j s a w f h)
 | .cond ..,_,_,_,_,_,_,f,_=>by cases f
 | .block ..,_,_,_,_,_,_,f,_=>by cases f
 | .loop ..,_,_,_,_,_,_,f,_=>by cases f
 | .scope ..,_,_,_,_,_,_,f,_=>by cases f
 | .exit ..,_,_,_,_,_,_,f,_=>by cases f
 | .goto ..,_,_,_,_,_,_,f,_=>by cases f
 | .label ..,_,_,_,_,_,_,f,_=>by cases f
 | .ret,_,_,_,_,_,_,f,_=>by cases f
theorem ua (m:Ok P C.ty) (u:dY C tab E) (z:∀ g,bM P C.ty tab g (C.call g)) (b:Frame) (cs:List Frame):∀ (c:Code) {s:St} {a:Act} {w:World} {κ : St->Option R},dd E s a w->qF C c s κ = some r ->
  ∃ s',κ s'=some r/\∃ a w,dd E s' a w
 | .region id ops d,s,a,w,κ,h,f=>by
  unfold qF at f
  split at f
  ·cases f
  ·have A:=pU (id:=id) (Qn:=fun a' w'=>∃ s',κ s'=some r/\dd E s' a' w') m u z h f fun s' a' w' j M=>⟨s',j,M⟩
   obtain ⟨e,a',w',⟨_,s',j,M⟩,_⟩:=A b [] cs
   exact ⟨s',j,a',w',M⟩
 | .seq x y,s,a,w,κ,h,f=>by
  unfold qF at f
  obtain ⟨s1,N,a1,w1,j⟩:=ua m u z b cs x h f
  exact ua m u z b cs y j N
 | .skip,s,a,w,κ,h,f=>⟨s,f,a,w,h⟩
 | .cond ..,_,_,_,_,_,f=>by cases f
 | .block ..,_,_,_,_,_,f=>by cases f
 | .loop ..,_,_,_,_,_,f=>by cases f
 | .scope ..,_,_,_,_,_,f=>by cases f
 | .exit ..,_,_,_,_,_,f=>by cases f
 | .goto ..,_,_,_,_,_,f=>by cases f
 | .label ..,_,_,_,_,_,f=>by cases f
 | .ret,_,_,_,_,_,f=>by cases f
theorem A9 (m:Ok P C.ty) (u:dY C tab E) (z:∀ g,bM P C.ty tab g (C.call g)) {c:Operand} {x y:Code} {k:List Item} {κ : St->Option R} (h:dd E s a w) (f:F3 C c x y s κ = some r)
  (A:∀ s' a' w',κ s'=some r->dd E s' a' w'->Fin P E ret r b cs (lone (b.at a' k) cs w')):Fin P E ret r b cs (lone (b.at a (.code (.cond c x y)::k)) cs w):=by
 unfold F3 at f
 split at f
 ·rename_i t N
  obtain ⟨β,Rt,Ra,j⟩:=h
  have M:=b9 j c
  rw [N] at M
  have e:a.eval c = .bool t:=M
  cases t with
  | true=>exact .head (step_cond e) (oz m u z x ⟨β,Rt,Ra,j⟩ f A)
  | false=>exact .head (step_cond e) (oz m u z y ⟨β,Rt,Ra,j⟩ f A)
 ·cases f
theorem Em (j:Ok P C.ty) (m:dY C tab E) (u:∀ g,bM P C.ty tab g (C.call g)) (b:Frame) (cs:List Frame) {c:Operand} {x y:Code} {κ : St->Option R} (h:∃ a w,dd E s a w) (f:F3 C c x y s κ = some r) :
  ∃ s',κ s'=some r/\∃ a w,dd E s' a w:=by
 obtain ⟨a,w,h⟩:=h
 unfold F3 at f
 split at f
 ·rename_i t z
  cases t with
  | true=>exact ua j m u b cs x h f
  | false=>exact ua j m u b cs y h f
 ·cases f
theorem gA {a:Act} {w:World}:∀ (n:Nat) {k p:List Item},mm n k=some p->Fin P E ret r b cs (lone (b.at a p) cs w)->Fin P E ret r b cs (lone (b.at a k) cs w)
 | 0,_,_,h,_=>by cases h
 | n+1,k,p,h,f=>by
  unfold mm at h
  split at h
  ·exact .head step_skip (gA n h f)
  ·exact .head step_inBlock (gA n h f)
  ·exact .head step_inScope (gA n h f)
  ·exact .head step_seq (gA n h f)
  ·exact .head step_inLoop (gA n h f)
  ·split at h
   ·rename_i m j;exact .head (step_exit j) (gA n h f)
   ·cases h
  ·cases h;exact f
  ·cases h
theorem uY {J:List Item->St->Option R} (A:Ok P C.ty) (j:dY C tab E) (m:∀ todo s a w,dd E s a w->J todo s=some r->Fin P E ret r b cs (lone (b.at a todo) cs w)) {p:List Item} {t1 t2:St} {a:Act} {w:World} (f:B2 C J p t1 t2=some r) (h:dd E t1 a w∨dd E t2 a w):Fin P E ret r b cs (lone (b.at a p) cs w):=by
 unfold B2 at f
 split at f
 ·split at f
  ·obtain ⟨hm,f⟩:=cX f
   split at f
   ·rename_i M N u z
    obtain ⟨he,f⟩:=cX f
    have he:=Dw he
    rcases h with h|h
    ·exact m _ _ _ _ (by rw [<- he];exact jQ j.T hm h u) f
    ·exact m _ _ _ _ (jQ j.T hm h z) f
   ·cases f
  ·cases f
 ·cases f
theorem Eb {J:List Item->St->Option R} (f:Ok P C.ty) (j:dY C tab E) (A:∀ g,bM P C.ty tab g (C.call g)) (Y:∀ todo s a w,dd E s a w->J todo s=some r->Fin P E ret r b cs (lone (b.at a todo) cs w)) {n id:Nat} {k:List Item} (hc:Bf ops=true) (h:dd E s a w) (z:FT C J n ops k s=some r) :
  Fin P E ret r b cs (lone (b.at a (.code (.region id ops true)::k)) cs w):=by
 unfold FT at z
 split at z
 ·rename_i c x y k2
  split at z
  ·rename_i p hp
   have N:=FU (id:=id) f j A hc h z
   obtain ⟨e,a',w',⟨rfl,hq⟩,M⟩:=N b (.code (.cond c x y)::k2) cs
   refine .steps M ?_
   rcases hq with ⟨s1,s2,O,U,V⟩|⟨s1,s2,O,V,U⟩
   ·refine A9 f j A U O fun t1 a1 w1 m W => ?_
    obtain ⟨t2,u,_⟩:=Em f j A b cs V m
    exact gA n hp (uY f j Y u (.inl W))
   ·obtain ⟨t1,m,_⟩:=Em f j A b cs U O
    refine A9 f j A V m fun t2 a2 w2 u X => ?_
    exact gA n hp (uY f j Y u (.inr X))
  ·cases z
 ·cases z
theorem nt (M:Ok P C.ty) (u:dY C tab E) (N:∀ g,bM P C.ty tab g (C.call g)) (O:∀ todo s a w,dd E s a w->J todo s=some r->Fin P E ret r b cs (lone (b.at a todo) cs w)) :
  ∀ (n:Nat) (todo:List Item) (s:St) (a:Act) (w:World),dd E s a w->uk C J ret n todo s=some r->Fin P E ret r b cs (lone (b.at a todo) cs w)
 | 0,_,_,_,_,_,h=>by cases h
 | n+1,todo,s,a,w,h,f=>by
  have j:=nt M u N O n
  unfold uk at f
  split at f
  ·exact ⟨s,a,w,_,f,h,.one step_end⟩
  ·exact ⟨s,a,w,_,f,h,.one step_ret⟩
  ·exact .head step_skip (j _ _ _ _ h f)
  ·exact .head step_label (j _ _ _ _ h f)
  ·exact .head step_inBlock (j _ _ _ _ h f)
  ·exact .head step_inScope (j _ _ _ _ h f)
  ·exact .head step_seq (j _ _ _ _ h f)
  ·rename_i c x y k
   split at f
   ·rename_i t U
    obtain ⟨β,Rt,Ra,V⟩:=h
    have z:=b9 V c
    rw [U] at z
    have e:a.eval c = .bool t:=z
    cases t with
    | true =>
     simp only [cond_true] at f
     rw [rF U] at f
     exact .head (step_cond e) (j _ _ _ _ ⟨β,Rt,Ra,V⟩ f)
    | false =>
     simp only [cond_false] at f
     rw [rF U] at f
     exact .head (step_cond e) (j _ _ _ _ ⟨β,Rt,Ra,V⟩ f)
   ·cases f
  ·exact .head step_block (j _ _ _ _ h f)
  ·exact .head step_loop (j _ _ _ _ h f)
  ·exact .head step_inLoop (j _ _ _ _ h f)
  ·exact .head step_scope (j _ _ _ _ h f)
  ·split at f
   ·rename_i Y m;exact .head (step_exit m) (j _ _ _ _ h f)
   ·cases f
  ·split at f
   ·rename_i Y m;exact .head (step_goto m) (j _ _ _ _ h f)
   ·cases f
  ·split at f
   ·obtain ⟨hm,f⟩:=cX f
    split at f
    ·rename_i s' W
     exact O _ _ _ _ (jQ u.T hm h W) f
    ·cases f
   ·rename_i id ops d k _ X
    cases A:(d&&(!jr true ops.toList&&Bf ops)) with
    | false=>rw [A,cond_false] at f;exact lr M u N h f fun s' a' w' h1 h2=>j _ _ _ _ h2 h1
    | true =>
     rw [A,cond_true] at f
     simp only [Bool.and_eq_true] at A
     obtain ⟨rfl,_,z⟩:=A
     exact Eb M u N O z h f
  ·cases f
theorem vZ (j:Ok P C.ty) (m:dY C tab E) (u:∀ g,bM P C.ty tab g (C.call g)) (z:∀ todo s a w,dd E s a w->J todo s=some r->Fin P E ret r b cs (lone (b.at a todo) cs w)) (n:Nat) (todo:List Item) (s:St) (a:Act) (w:World) (h:dd E s a w)
  (f:start C J ret n todo s=some r):Fin P E ret r b cs (lone (b.at a todo) cs w):=by
 unfold start at f
 split at f
 ·exact lr j m u h f fun s' a' w' A M=>nt j m u z n _ _ _ _ M A
 ·cases f
theorem pk (m:Ok P C.ty) (u:dY C tab E) (z:∀ g,bM P C.ty tab g (C.call g)) (n:Nat):∀ (f:Nat) (todo:List Item) (s:St) (a:Act) (w:World),dd E s a w->goto C ret n f todo s=some r->Fin P E ret r b cs (lone (b.at a todo) cs w)
 | 0,_,_,_,_,_,h=>by cases h
 | f+1,todo,s,a,w,h,j=>vZ m u z (fun todo s a w h j=>pk m u z n f todo s a w h j) n todo s a w h j
theorem gR:∀ (n:Nat) {t:Nat} {o:Obj},lookup t (lY n)=some o->t<n/\o = .hole
 | 0,_,_,h=>by cases h
 | n+1,t,o,h=>by
  simp only [lY,lookup] at h
  cases f:Nat.beq t n with
  | true =>
   have:=Nat.eq_of_beq_eq_true f;subst this
   rw [f] at h;cases h;exact ⟨by omega,rfl⟩
  | false =>
   rw [f] at h;simp only [cond_false] at h
   have:=gR n h
   exact ⟨by omega,this.2⟩
theorem rB:∀ (n:Nat) {t:Nat},t<n->lookup t (lY n)=some .hole
 | 0,_,h=>by omega
 | n+1,t,h=>by
  simp only [lY,lookup]
  by_cases e:t=n
  ·subst e;simp
  ·rw [ET e];simp only [cond_false];exact rB n (by omega)
def eL:List SV->List Value->List Nat
 | .vp _ _::r,.pointer (some f)::vs=>f.block::eL r vs
 | .vp _ _::r,_::vs=>0::eL r vs
 | _::r,_::vs=>eL r vs
 | _,_=>[]
theorem zF (s:St) (k ty:Nat) (f r:List SV):fI s k (.vp ty f::r)=(.ptr k 0::(fI ((cY s f).2.setObj k (.var ty (cY s f).1)) (k+1) r).1,(fI ((cY s f).2.setObj k (.var ty (cY s f).1)) (k+1) r).2):=rfl
theorem zE {x:SV} (f:∀ ty l,x ≠ .vp ty l) (s:St) (k:Nat) (r:List SV):fI s k (x::r)=((eH s x).1::(fI (eH s x).2 k r).1,(fI (eH s x).2 k r).2):=by
 cases x <;> first|rfl|exact absurd rfl (f _ _)
theorem zf {x:SV} (f:∀ ty l,x ≠ .vp ty l) (r:List SV):vars (x::r)=vars r:=by
 cases x <;> first|rfl|exact absurd rfl (f _ _)
theorem Gb {c:Cx} {x:SV} {v:Value} {bs:List Nat} (f:∀ ty l,x ≠ .vp ty l) (h:CV c x v bs):xU c x v bs:=by
 unfold CV at h;split at h
 ·exact absurd rfl (f _ _)
 ·exact h
theorem vu (s:St) (x:SV) {t:Nat} (f:t<s.next):(eH s x).2.obj t=s.obj t:=by
 rcases gF x with ⟨l,rfl⟩|j
 ·exact eU l s f
 ·obtain ⟨u,_,e⟩:=ia j s
  rw [e];exact eU [x] s f
theorem js {β : Nat->Bl} {Rt Ra Rt' Ra':Nat->Prop} (hR:∀ b,Rt' b->Rt b) (hA:∀ b,Ra' b->Ra b):∀ (xs:List SV) (vs:List Value) (bs:List Nat) (k:Nat) {s:St} {β : Nat->Bl},Rel E s a w β Rt Ra->jB (CV (cc E.T w Rt' Ra')) xs vs bs->bs.Nodup->(∀ z∈bs,qv E s w β Ra z) ->
  (∀ i,k<=i->i<k+vars xs->s.obj i=some .hole)->(∀ i b,(eL xs vs)[i]? = some b->E.pb (k+i)=b)->k+vars xs<=64 ->
  ∃ β',Rel E (fI s k xs).2 a w β' Rt Ra/\(bG E s w β Rt Ra).Le (bG E (fI s k xs).2 w β' Rt Ra)/\PW (S1 (bG E (fI s k xs).2 w β' Rt Ra)) (fI s k xs).1 vs
 | [],[],bs,k,s,β,h,_,_,_,_,_,_=>⟨β,h,le_refl _,trivial⟩
 | x::xs,v::vs,bs,k,s,β,h,hc,V,hf,hh,hb,hk=>by
  obtain ⟨b1,b2,rfl,hx,hr⟩:=hc
  rw [List.nodup_append] at V
  by_cases hv:∃ ty l,x = .vp ty l
  ·obtain ⟨ty,U,rfl⟩:=hv
   obtain ⟨b,cs,q,bk,rfl,a6,bx,rfl⟩:=hx
   have bP:vars (SV.vp ty U::xs)=vars xs+1:=rfl
   rw [bP] at hh hk
   have j:=hh k (Nat.le_refl _) (by omega)
   have bV:(β k).b=b:=by
    rw [h.pin k _ j (by omega)]
    exact hb 0 b rfl
   obtain ⟨a7,b0,a1⟩:=V
   rw [List.nodup_cons] at a7
   obtain ⟨m,r1,ae,p1,ap⟩:=fN hR hA U cs.toList bk h bx a7.2 (fun z A=>hf z (by simp [A]))
   have b3:=h.lt k _ j
   have u:(cY s U).2.obj k=some .hole:=by rw [eU U s b3];exact j
   have bS:m k = β k:=ae.β k ⟨_,j⟩
   have O:(m k).b=b:=by rw [bS,bV]
   have ar:=hf b (by simp)
   obtain ⟨r2,W⟩:=r1.toRelO.set k (.var ty (cY s U).1) u (fun z A=>by
     simp only [ci,List.mem_singleton] at A;rw [A,O];exact ⟨ar.1,ar.2.1,ar.2.2.1⟩) (fun z A M o' a8 f=>by
     simp only [ci,List.mem_singleton] at A;rw [A,O] at f
     rcases ap M o' a8 with ⟨bb,X⟩|Y
     ·rw [X] at f;exact ar.2.2.2 M o' bb f
     ·exact a7.1 (Y b f)) (fun le=>⟨cs,q,by rw [O];exact a6,by rw [O];exact p1.imp fun _ _ hs=>hs.le le⟩)
   have b4:Rel E ((cY s U).2.setObj k (.var ty (cY s U).1)) a w m Rt Ra:=⟨r2,r1.len,r1.defers,fD W r1.slots⟩
   have b5:∀ M o,((cY s U).2.setObj k (.var ty (cY s U).1)).obj M=some o->(M=k/\ci (m M) o=[b])∨(M≠k/\((s.obj M=some o/\m M = β M)∨∀ z∈ci (m M) o,z∈bk)):=by
    intro M o N
    rw [dT] at N;split at N
    ·rename_i e;subst e;rw [u] at N;cases N;exact .inl ⟨rfl,by simp [ci,O]⟩
    ·rename_i e;exact .inr ⟨e,ap M o N⟩
   obtain ⟨ad,r3,be,p3⟩:=js (β := β) hR hA xs vs b2 (k+1) b4 hr b0 (fun z A=>by
     obtain ⟨f1,f2,f3,f4⟩:=hf z (by simp [A])
     refine ⟨f1,f2,f3,fun M o N f => ?_⟩
     rcases b5 M o N with ⟨_,e⟩|⟨_,⟨bb,X⟩|Y⟩
     ·rw [e,List.mem_singleton] at f;subst f;exact a1 z (by simp) z A rfl
     ·rw [X] at f;exact f4 M o bb f
     ·exact a1 z (by simp [Y z f]) z A rfl)
    (fun i h1 h2=>by
     have hi:=hh i (by omega) (by omega)
     rw [dT,if_neg (by omega),eU U s (h.lt i _ hi)];exact hi)
    (fun i b' ca=>by rw [show k+1+i=k+(i+1) by omega];exact hb (i+1) b' ca) (by omega)
   rw [zF]
   refine ⟨ad,r3,(ae.trans W).trans be,?_,p3⟩
   have hD:(bG E ((cY s U).2.setObj k (.var ty (cY s U).1)) w m Rt Ra).D k:=⟨_,by rw [dT,if_pos rfl,u];rfl⟩
   refine dO ⟨be.D k hD,?_⟩
   have e:ad k=m k:=be.β k hD
   show Value.pointer (some ⟨b,0,none⟩) = .pointer (some ⟨(ad k).b,0,none⟩)
   rw [e,O]
  ·have ax:∀ ty l,x ≠ .vp ty l:=fun ty l e=>hv ⟨ty,l,e⟩
   rw [zf ax] at hh hk
   have cl:eL (x::xs) (v::vs)=eL xs vs:=by cases x <;> first|rfl|exact absurd rfl (ax _ _)
   rw [cl] at hb
   obtain ⟨m,r1,ae,p1,ap⟩:=ka hR hA h (Gb ax hx) V.1 (fun z A=>hf z (List.mem_append_left _ A))
   obtain ⟨ad,r2,W,p2⟩:=js (β := β) hR hA xs vs b2 k r1 hr V.2.1 (fun z A=>by
     obtain ⟨f1,f2,f3,f4⟩:=hf z (List.mem_append_right _ A)
     refine ⟨f1,f2,f3,fun t o ho hb => ?_⟩
     rcases ap t o ho with ⟨a8,cp⟩|Y
     ·rw [cp] at hb;exact f4 t o a8 hb
     ·exact V.2.2 z (Y z hb) z A rfl)
    (fun i h1 h2=>by
     have hi:=hh i h1 h2
     rw [vu s x (h.lt i _ hi)];exact hi) hb hk
   rw [zE ax]
   exact ⟨ad,r2,ae.trans W,p1.le W,p2⟩
 | [],_::_,_,_,_,_,_,h,_,_,_,_,_=>h.elim
 | _::_,[],_,_,_,_,_,h,_,_,_,_,_=>h.elim
end
end Go.Proofs.Ab
