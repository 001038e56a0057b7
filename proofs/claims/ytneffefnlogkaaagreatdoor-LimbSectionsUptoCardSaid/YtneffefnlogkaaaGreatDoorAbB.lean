/- The abstract machine: a run of a function's code over data without memory, and the proof that whatever this run says is what a call does (conditions: those of each lemma). -/
import Derived.Test.YtneffefnlogkaaaGreatDoorAbA
import Derived.Lib.UnsafeStr
import Derived.Lib.ConvBytes
import Derived.Laws.BytesString
import Derived.Scope
set_option linter.unusedVariables false
set_option linter.unusedSimpArgs false
set_option maxRecDepth 4000
open List (nodup_append mem_append_left mem_append_right eq_nil_of_length_eq_zero flatMap_cons append_nil nodup_nil any_eq_false nodup_cons cons_append append_assoc mem_flatMap mem_cons mem_singleton mem_append all_eq_true map_cons length_map foldl_cons map_congr_left mem_cons_of_mem mem_cons_self mem_filterMap nil_append mem_range mem_filter all_cons)
namespace Go.Proofs.Ab
open Go
variable {R:Type}
def CL (c:Cx) (x:SV) (v:Value) (bs:List Nat):Prop:=
 match x with
 | .fr e l st=>∃ E cs,c.T e=some E/\fx c.w false e E.sz v l.length cs/\RC c.T c.w (c.Q st) E l cs/\bs=v.ownBlock.toList
 | x=>bs=[]/\tok x=none/\x ≠ .nos/\SL c x v
def BH (c:Cx) (b:Nat) (x:SV) (v:Value) (bs:List Nat):Prop:=
 match x with
 | .nos=>bs=[]/\(v = .pointer none∨v = .pointer (some ⟨b,0,none⟩))
 | x=>CL c x v bs
def jM (S:SV->Value->List Nat->Prop):List SV->List Value->List Nat->Prop
 | [],[],bs=>bs=[]
 | x::xs,v::vs,bs=>∃ f j,bs=f++j/\S x v f/\jM S xs vs j
 | _,_,_=>False
def yW (c:Cx) (x:SV) (v:Value) (bs:List Nat):Prop:=
 match x with
 | .agg l=>∃ cs:Array Value,v = .agg cs/\jM (CL c) l cs.toList bs
 | x=>CL c x v bs
def CV (c:Cx) (x:SV) (v:Value) (bs:List Nat):Prop:=
 match x with
 | .vp ty j=>∃ (b:Nat) (cs:Array Value) (_:Unit) (f:List Nat),v = .pointer (some ⟨b,0,none⟩)/\c.w.heap[b]? = some (.cells cs ty (0,0))/\jM (BH c b) j cs.toList f/\bs=b::f
 | x=>yW c x v bs
def CR (c:Cx) (x:SV) (v:Value) (bs:List Nat):Prop:=
 match x with
 | .tup l=>∃ f:Array Value,v = .tuple f/\jM (yW c) l f.toList bs
 | x=>yW c x v bs
def CB (c:Cx):List SV->List Value->List SV->List Nat->Prop
 | [],[],u,bs=>u=[]/\bs=[]
 | x::r,v::vs,u,bs =>
  match x with
  | .vp _ _=>match u with
   | .vp ty m::z=>∃ (b:Nat) (cs:Array Value) (_:Unit) (f j:List Nat),v = .pointer (some ⟨b,0,none⟩)/\c.w.heap[b]? = some (.cells cs ty (0,0))/\jM (BH c b) m cs.toList f/\bs=b::f++j/\CB c r vs z j
   | _=>False
  | _=>CB c r vs u bs
 | _,_,_,_=>False
def cc (T:Nat->Option TI) (w:World) (Rt Ra:Nat->Prop):Cx:=⟨T,w,Rt,Ra,fun _=>⟨undef,0,0,false⟩,fun _=>False⟩
abbrev cg:=Nat->Option Go.Obj
structure Pre (T:Nat->Option TI) (tab:cg) (w:World) (args:List SV) (vs:List Value) (Rt Ra:Nat->Prop) (bs:List Nat):Prop where
 cat:jM (CV (cc T w Rt Ra)) args vs bs
 nd:bs.Nodup
 no:∀ b∈bs,¬ Ra b/\b<w.heap.size
 sub:∀ b,Rt b->Ra b
 rlt:∀ b,Ra b->b<w.heap.size
 tab:∀ b ob,tab b=some ob->w.heap[b]? = some ob/\Rt b
structure m9 (T:Nat->Option TI) (w:World) (args:List SV) (vs:List Value) (Rt:Nat->Prop) (bs:List Nat) (res:List SV) (v:Value) (w':World) (Rt':Nat->Prop) (v0:SV) (back:List SV) (b1 b2:List Nat):Prop where
 res:res=v0::back
 fr:Fr (fun b=>b∈bs) w w'
 r:CR (cc T w' Rt' Rt') v0 v b1
 b:CB (cc T w' Rt' Rt') args vs back b2
 nd:(b1++b2).Nodup
 no:∀ b∈b1++b2,¬ Rt' b/\b<w'.heap.size/\(w.heap.size<=b∨b∈bs)
 le:∀ b,Rt b->Rt' b
 lt:∀ b,Rt' b->b<w'.heap.size/\(Rt b∨w.heap.size<=b∨b∈bs)
def oY (P:Program) (g:FuncId) (vs:Array Value) (w:World) (Q:Value->World->Prop):Prop:=
 (∃ v w',(callFunc g vs).run P w = .ok (.value v) w'/\Q v w')∨((callFunc g vs).run P w = .ok (.enter g vs) w/\Calls P g vs w fun e w'=>∃ v,e = .returned v/\Q v w')
def bT (P:Program) (T:Nat->Option TI) (tab:cg) (g:FuncId) (sp:List SV->(List SV->Option R)->Option R):Prop:=
 ∀ (args:List SV) (κ:List SV->Option R) (r:R),sp args κ=some r->∀ (w:World) (vs:Array Value) (Rt Ra:Nat->Prop) (bs:List Nat),Pre T tab w args vs.toList Rt Ra bs ->
  oY P g vs w fun v w'=>∃ res Rt' v0 back f j,κ res=some r/\m9 T w args vs.toList Rt bs res v w' Rt' v0 back f j
section
variable {E:Env} {s:St} {a:Act} {w w':World} {β:Nat->Bl} {Rt Ra:Nat->Prop}
theorem jM.len {S:SV->Value->List Nat->Prop}:∀ {l:List SV} {vs:List Value} {bs:List Nat},jM S l vs bs->l.length=vs.length
 | [],[],_,_=>rfl
 | _::_,_::_,_,⟨_,_,_,_,h⟩=>by simp [jM.len h]
 | [],_::_,_,h=>h.elim
 | _::_,[],_,h=>h.elim
theorem Rel.more (h:Rel E s a w β Rt Ra) {Rt':Nat->Prop} (hle:∀ b,Rt b->Rt' b) (A:∀ b,Rt' b->¬ Rt b->b<w.heap.size/\(E.w0.heap.size<=b∨E.W0 b)/\∀ t o,s.obj t=some o->b ∉ cu (β t) o) :
  Rel E s a w β Rt' (fun b=>Ra b∨Rt' b)/\(bI E s w β Rt Ra).Le (bI E s w β Rt' (fun b=>Ra b∨Rt' b)):=by
 have le:(bI E s w β Rt Ra).Le (bI E s w β Rt' (fun b=>Ra b∨Rt' b)):=by
  refine ⟨rfl,fun st b z => ?_,fun _ _ _=>rfl,fun _ h=>h,fun _ _=>rfl⟩
  unfold Cx.Q at z ⊢;split at z
  ·rename_i e;rw [if_pos e];exact hle b z
  ·rename_i e;rw [if_neg e];exact .inl z
 refine ⟨⟨⟨fun t o m=>(h.objs t o m).le le (fun _ _=>rfl),h.lt,fun t o m b f=>⟨(h.dc t o m b f).1,?_,(h.dc t o m b f).2.2⟩,h.apart,fun b f => .inr f,?_,h.fr,fun b f=>hle b (h.rt0 b f),fun b f => .inl (h.ra0 b f),fun b f => ?_,h.nx,h.pin⟩,h.len,h.defers,fH le h.slots⟩,le⟩
 ·rintro (u|u)
  ·exact (h.dc t o m b f).2.1 u
  ·by_cases j:Rt b
   ·exact (h.dc t o m b f).2.1 (h.sub b j)
   ·exact (A b u j).2.2 t o m f
 ·rintro b (u|u)
  ·exact h.rlt b u
  ·by_cases j:Rt b
   ·exact h.rlt b (h.sub b j)
   ·exact (A b u j).1
 ·by_cases j:Rt b
  ·exact h.rt b j
  ·exact .inr (A b f j).2.1
def rp (E:Env) (s:St) (w:World) (β:Nat->Bl) (Ra:Nat->Prop) (b:Nat):Prop:=b<w.heap.size/\¬ Ra b/\(E.w0.heap.size<=b∨E.W0 b)/\∀ t o,s.obj t=some o->b ∉ cu (β t) o
theorem ng {c c':Cx} (f:c'.T=c.T) (hw:c'.w=c.w) (z:∀ st b,c.Q st b->c'.Q st b) {x:SV} {v:Value} (O:tok x=none) (h:SL c x v):SL c' x v:=by
 cases x <;> simp only [SL] at h ⊢ <;> first|exact h|(cases O;done)|skip
 case ro e l st=>rw [f,hw];exact h.mono (z st) (fun _ _=>rfl)
 case cls g Y =>
  cases Y with
  | nil=>exact ⟨fun t O=>(by cases O),h.2⟩
  | cons _ _=>cases O
 case ar e n l =>
  obtain ⟨U,D,cs,A,M,N,h4,h5⟩:=h
  exact ⟨U,D,cs,by rw [f];exact A,M,N,h4,by rw [f];exact h5.mono (fun _ m=>m) (fun _ m=>m.elim)⟩
 case ra e n l st =>
  obtain ⟨U,D,p,A,M,N⟩:=h
  refine ⟨U,D,p,by rw [f];exact A,M,fun i j k hi V => ?_⟩
  obtain ⟨u,m,W,X⟩:=N i j k hi V
  exact ⟨u,z st _ m,by rw [hw];exact W,by rw [f,hw];exact X.mono (z st) (fun _ _=>rfl)⟩
 case rl e l st i off =>
  obtain ⟨D,p,A,M,N⟩:=h
  refine ⟨D,p,by rw [f];exact A,M,fun j k V => ?_⟩
  obtain ⟨u,m,W,X⟩:=N j k V
  exact ⟨u,z st _ m,by rw [hw];exact W,by rw [f,hw];exact X.mono (z st) (fun _ _=>rfl)⟩
theorem Be {Rt' Ra':Nat->Prop} (h:Rel E s a w β Rt Ra) (X:∀ b,Rt' b->Rt b) (Y:∀ b,Ra' b->Ra b) {b:Nat} {x:SV} {v:Value} {bs:List Nat} (m:BH (cc E.T w Rt' Ra') b x v bs) (M:∀ z∈bs,rp E s w β Ra z) :
  (∃ e l st,x = .fr e l st/\∃ β',Rel E (s.new (.row e l st)) a w β' Rt Ra/\(bI E s w β Rt Ra).Le (bI E (s.new (.row e l st)) w β' Rt Ra)/\lS (bI E (s.new (.row e l st)) w β' Rt Ra) b (.own s.next) v/\∀ t o,(s.new (.row e l st)).obj t=some o->(s.obj t=some o /\ β' t = β t)∨∀ z∈cu (β' t) o,z∈bs) ∨
  ((∀ e l st,x ≠ .fr e l st)/\lS (bI E s w β Rt Ra) b x v):=by
 have W:∀ st z,(cc E.T w Rt' Ra').Q st z->(bI E s w β Rt Ra).Q st z:=by
  intro st z A
  unfold Cx.Q at A ⊢;split at A
  ·rename_i e;rw [if_pos e];exact X z A
  ·rename_i e;rw [if_neg e];exact Y z A
 by_cases u:∃ e l st,x = .fr e l st
 ·obtain ⟨e,l,st,rfl⟩:=u
  obtain ⟨D,cs,hT,j,U,rfl⟩:=m
  have N:∀ z∈cu ⟨v,0,D.sz,false⟩ (.row e l st),z∈v.ownBlock.toList:=fun z f=>f
  obtain ⟨h2,le⟩:=h.toRelO.add (.row e l st) ⟨v,0,D.sz,false⟩ (fun z f=>⟨(M z (N z f)).1,(M z (N z f)).2.1,(M z (N z f)).2.2.1⟩) (fun z f t o' V=>(M z (N z f)).2.2.2 t o' V)
   (fun le=>⟨D,cs,hT,rfl,j,U.mono (fun z A=>le.Q st z (W st z A)) (fun _ _=>rfl)⟩)
  refine .inl ⟨e,l,st,rfl,_,⟨h2,h.len,h.defers,fH le h.slots⟩,le,⟨⟨_,by rw [fJ,if_pos rfl]⟩,?_,oz j,?_⟩,fun t o O => ?_⟩
  ·show v=(fj β s.next ⟨v,0,D.sz,false⟩ s.next).v
   unfold fj;rw [if_pos rfl]
  ·show (fj β s.next ⟨v,0,D.sz,false⟩ s.next).arr=false
   unfold fj;rw [if_pos rfl]
  ·rw [fJ] at O
   split at O
   ·rename_i e;subst e;cases O
    refine .inr fun z f => ?_
    unfold fj at f;rw [if_pos rfl] at f;exact f
   ·rename_i e;exact .inl ⟨O,if_neg e⟩
 ·refine .inr ⟨fun e l st e'=>u ⟨e,l,st,e'⟩,?_⟩
  unfold BH at m
  split at m
  ·exact m.2
  ·rename_i hn
   unfold CL at m
   split at m
   ·exact absurd ⟨_,_,_,rfl⟩ u
   ·obtain ⟨_,ht,_,hs⟩:=m
    have:=ng (c:=cc E.T w Rt' Ra') (c':=bI E s w β Rt Ra) rfl rfl W ht hs
    unfold lS;split
    ·exact absurd rfl hn
    ·exact this
theorem gD (s:St) (e:Nat) (l:List AV) (st:Bool) (r:List SV):da s (.fr e l st::r)=(.own s.next::(da (s.new (.row e l st)) r).1,(da (s.new (.row e l st)) r).2):=rfl
theorem io (s:St) (x:SV) (r:List SV) (f:∀ e l st,x ≠ .fr e l st):da s (x::r)=(x::(da s r).1,(da s r).2):=by
 cases x <;> first|rfl|exact absurd rfl (f _ _ _)
theorem fR {Rt' Ra':Nat->Prop} (hR:∀ b,Rt' b->Rt b) (hA:∀ b,Ra' b->Ra b) {b:Nat}:∀ (A:List SV) (cs:List Value) (bs:List Nat) {s:St} {β:Nat->Bl},Rel E s a w β Rt Ra->jM (BH (cc E.T w Rt' Ra') b) A cs bs->bs.Nodup->(∀ z∈bs,rp E s w β Ra z) ->
  ∃ β',Rel E (da s A).2 a w β' Rt Ra/\(bI E s w β Rt Ra).Le (bI E (da s A).2 w β' Rt Ra)/\PW (lS (bI E (da s A).2 w β' Rt Ra) b) (da s A).1 cs/\∀ t o,(da s A).2.obj t=some o->(s.obj t=some o /\ β' t = β t)∨∀ z∈cu (β' t) o,z∈bs
 | [],[],bs,s,β,h,hc,_,_=>⟨β,h,⟨rfl,fun _ _ h=>h,fun _ _ _=>rfl,fun _ h=>h,fun _ _=>rfl⟩,trivial,fun t o U => .inl ⟨U,rfl⟩⟩
 | x::A,v::cs,bs,s,β,h,hc,M,hf=>by
  obtain ⟨b1,b2,rfl,hx,hr⟩:=hc
  rw [nodup_append] at M
  rcases Be h hR hA hx (fun z j=>hf z (mem_append_left _ j)) with ⟨e,l,st,rfl,ax,h1,ae,V,O⟩|⟨ap,V⟩
  ·rw [gD]
   obtain ⟨W,h2,m,X,u⟩:=fR hR hA A cs b2 h1 hr M.2.1 (fun z j=>by
    obtain ⟨f1,f2,f3,f4⟩:=hf z (mem_append_right _ j)
    refine ⟨f1,f2,f3,fun t o U hb => ?_⟩
    rcases O t o U with ⟨Y,N⟩|f
    ·rw [N] at hb;exact f4 t o Y hb
    ·exact M.2.2 z (f z hb) z j rfl)
   refine ⟨W,h2,ae.trans m,⟨V.le m,X⟩,fun t o U => ?_⟩
   rcases u t o U with ⟨Y,N⟩|f
   ·rcases O t o Y with ⟨ar,ad⟩|f
    ·exact .inl ⟨ar,N.trans ad⟩
    ·exact .inr fun z j=>mem_append_left _ (f z (by rw [<- N];exact j))
   ·exact .inr fun z j=>mem_append_right _ (f z j)
  ·rw [io s x A ap]
   obtain ⟨W,h2,m,X,u⟩:=fR hR hA A cs b2 h hr M.2.1 (fun z j=>hf z (mem_append_right _ j))
   exact ⟨W,h2,m,⟨V.le m,X⟩,fun t o U=>(u t o U).imp id fun f z j=>mem_append_right _ (f z j)⟩
 | [],_::_,_,_,_,_,h,_,_=>h.elim
 | _::_,[],_,_,_,_,h,_,_=>h.elim
end
end Go.Proofs.Ab
namespace Go.Proofs.Ab
open Go
variable {R:Type}
theorem wS {c:Cx} {Q':Nat->Prop} {e:Nat} {D:TI} {l:List AV} {cs:List Value} {st:Bool} {v:Value} (U:c.T e=some D) {arr:Bool} (z:fx c.w arr e D.sz v l.length cs) (A:RC c.T c.w (c.Q st) D l cs)
  (V:∀ b∈v.ownBlock.toList,Q' b) (W:∀ b,c.Q st b->Q' b):ej c.T c.w Q' (.sl e) v (.sl l):=by
 obtain ⟨hlen,u⟩:=z
 rcases u with ⟨u,X⟩|⟨g,cap,M,q,Y,u,_,hg,_,N,O,ad,f⟩
 ·rw [u];exact .slnil e _ (eq_nil_of_length_eq_zero X)
 ·rw [u]
  refine .sl e D ⟨g,0,none⟩ _ cap (.sl l) cs U rfl N O hlen (fun j v m=>⟨V g (by simp [u,Value.ownBlock]),?_⟩) (fun i j k hi hk v m=>(A i j k hi hk v m).mono W (fun _ _=>rfl))
  rw [add_plain]
  show c.w.cell? ⟨g,0+j,none⟩=some v
  rw [Nat.zero_add,cell_of_row c.w g j M q Y hg]
  rw [<- f] at m
  rw [List.getElem?_take] at m
  split at m
  ·simpa using m
  ·cases m
theorem rL {c:Cx} {x:SV} {v:Value} (f:tok x=none) (j:x ≠ .nos) (m:∀ e l st,x ≠ .fr e l st) (h:SL c x v):CL c x v []:=by
 unfold CL;split
 ·exact absurd rfl (m _ _ _)
 ·exact ⟨rfl,f,j,h⟩
theorem Gc {c:Cx} {b:Nat} {x:SV} {v:Value} {bs:List Nat} (f:x ≠ .nos) (h:CL c x v bs):BH c b x v bs:=by
 unfold BH;split
 ·exact absurd rfl f
 ·exact h
theorem pf {c:Cx} {x:SV} {v:Value} {bs:List Nat} (h:CL c x v bs) (b:Nat):BH c b x v bs:=by
 refine Gc (fun e => ?_) h
 subst e;exact h.2.2.1 rfl
theorem tO {c:Cx} {b:Nat} {x:SV} {v:Value} (h:lS c b x v):SL c x v:=by
 unfold lS at h;split at h
 ·trivial
 ·exact h
theorem nh {b:Bool} {x y:SV} (h:(bif b then some x else none)=some y):b=true/\x=y:=by
 cases b
 ·cases h
 ·exact ⟨rfl,Option.some.inj h⟩
section
variable {E:Env} {s:St} {a:Act} {w w':World} {β:Nat->Bl} {Rt Ra:Nat->Prop}
theorem oE {Ra':Nat->Prop} (j:∀ b,Ra b->Ra' b) {x:SV} {v:Value} (m:known x=true) (u:tok x=none) (h:SL (bI E s w β Rt Ra) x v):CL (cc E.T w Rt Ra') x v []:=by
 refine rL u (fun e=>by subst e;cases m) (fun e l st z=>by subst z;cases m) (ng (c:=bI E s w β Rt Ra) (c':=cc E.T w Rt Ra') rfl rfl (fun st b f => ?_) u h)
 unfold Cx.Q at f ⊢;split at f
 ·rename_i e;rw [if_pos e];exact f
 ·rename_i e;rw [if_neg e];exact j b f
theorem Jg {Ra':Nat->Prop} (f:∀ b,Rt b->Ra b) (j:∀ b,Ra b->Ra' b) (st:Bool) (b:Nat) (h:(bI E s w β Rt Ra).Q st b):(cc E.T w Rt Ra').Q false b:=by
 unfold Cx.Q at h ⊢;rw [if_neg (by decide)]
 split at h
 ·exact j b (f b h)
 ·exact j b h
theorem lX {Ra':Nat->Prop} (h:Rel E s a w β Rt Ra) (u:∀ b,Ra b->Ra' b) {x y:SV} {v:Value} (hS:∀ t∈jr [x],∀ o,s.obj t=some o->∀ b∈cu (β t) o,Ra' b) (hx:SL (bI E s w β Rt Ra) x v) (m:gg s x=some y):CL (cc E.T w Rt Ra') y v []:=by
 unfold gg at m
 split at m
 ·rename_i e n l st
  cases m
  refine rL rfl (by simp) (by simp) (ng (c:=bI E s w β Rt Ra) (c':=cc E.T w Rt Ra') rfl rfl (fun st b hq => ?_) rfl hx)
  unfold Cx.Q at hq ⊢;split at hq
  ·rename_i e;rw [if_pos e];exact hq
  ·rename_i e;rw [if_neg e];exact u b hq
 ·rename_i t
  split at m
  ·rename_i e l st V
   cases m
   obtain ⟨D,cs,W,X,f,M⟩:=h.objs t _ V
   obtain ⟨_,N,_⟩:=hx
   refine rL rfl (by simp) (by simp) ?_
   show ej _ _ _ _ _ _
   rw [N]
   exact wS (c:=bI E s w β Rt Ra) W f M (fun b hb=>by
    unfold Cx.Q;rw [if_neg (by decide)];exact hS t (by simp [jr]) _ V b hb) (Jg h.sub u st)
  ·cases m
 ·rename_i t O U
  split at m
  ·rename_i e l st V
   cases m
   obtain ⟨D,cs,W,X,f,M⟩:=h.objs t _ V
   obtain ⟨hd,g0,g1,N⟩:=hx
   refine rL rfl (by simp) (by simp) ?_
   show ej _ _ _ _ _ _
   have z:=wS (c:=bI E s w β Rt Ra) (Q':=(cc E.T w Rt Ra').Q false) W f M (fun b hb=>by
    unfold Cx.Q;rw [if_neg (by decide)];exact hS t (by simp [jr]) _ V b hb) (Jg h.sub u st)
   rcases N with ⟨Y,hh,N⟩|⟨g,n,cap,ad,Y,g2,N,ax⟩
   ·rw [N]
    refine .slnil e _ (eq_nil_of_length_eq_zero ?_)
    simp only [AV.l,iF,List.length_drop,List.length_take];omega
   ·have ae:(β t).v = .slice (some ⟨g,0,none⟩) n cap:=Y
    rw [ae] at f z
    have hn:n=l.length/\n<=cap/\cap<=maxLen:=by
     rcases fK f with ⟨h',_⟩|⟨_,_,h',h1,h2⟩
     ·cases h'
     ·cases h';exact ⟨rfl,h1,h2⟩
    obtain ⟨hn,bx,bP⟩:=hn
    subst hn
    have hlen:=uw l O U g0 g1 (by omega)
    rw [N]
    by_cases a1:O<U
    ·have ap:ad=⟨g,O.toNat*(β t).sz,none⟩:=ax a1
     have A:=ej.cut g0 g1 (by omega) W z
     rw [if_neg (by omega),add_plain,Nat.zero_add] at A
     have ar:(β t).sz=D.sz:=X
     rw [ap,ar,show (U-O).toNat=U.toNat-O.toNat by omega]
     exact A
    ·have h0:(iF l O U).length=0:=by rw [hlen];omega
     refine .sl e D ad _ _ _ [] W (by simp only [AV.l];rw [h0];omega) (by omega) (by omega) (by rw [show (U-O).toNat=0 by omega];simp) (fun j v hj=>by simp at hj) (fun i j k bS=>by omega)
  ·cases m
 ·cases m
 ·cases m
 ·cases m
 ·cases m
 ·cases m
 ·cases m
 ·rename_i a6 a7 a8 bb _ be bk bs
  obtain ⟨hk,rfl⟩:=nh m
  refine oE u hk ?_ hx
  cases x <;> first|rfl|exact absurd rfl (be _ _)|exact absurd rfl (bk _ _)|exact absurd rfl (bs _)|exact absurd rfl (a6 _)|exact absurd rfl (a7 _ _ _)|exact absurd rfl (a8 _ _)|exact absurd rfl (bb _ _ _)|cases hk
theorem qP (x:SV) (r:List SV) (t:Nat):t∈jr (x::r) ↔ t∈jr [x]∨t∈jr r:=by
 cases x <;> simp [jr]
theorem lZ {Ra':Nat->Prop} (h:Rel E s a w β Rt Ra) (m:∀ b,Ra b->Ra' b):∀ (l:List SV) (vs:List Value) (u:List SV),(∀ t∈jr l,∀ o,s.obj t=some o->∀ b∈cu (β t) o,Ra' b)->PW (SL (bI E s w β Rt Ra)) l vs->gQ s l=some u->jM (CL (cc E.T w Rt Ra')) u vs []
 | [],[],u,_,_,f=>by cases f;rfl
 | x::l,v::vs,u,A,j,f=>by
  unfold gQ at f
  split at f
  ·rename_i y M N O
   cases f
   exact ⟨[],[],rfl,lX h m (fun t z=>A t ((qP x l t).2 (.inl z))) j.1 N,lZ h m l vs M (fun t z=>A t ((qP x l t).2 (.inr z))) j.2 O⟩
  ·cases f
 | [],_::_,_,_,j,_=>j.elim
 | _::_,[],_,_,j,_=>j.elim
def tb (s:St) (β:Nat->Bl) (t:Nat):List Nat:=
 match s.obj t with
 | some o=>cu (β t) o
 | none=>[]
theorem ol {Ra':Nat->Prop} (h:Rel E s a w β Rt Ra) (m:∀ b,Ra b->Ra' b) {b:Nat} {x y:SV} {v:Value} (N:lS (bI E s w β Rt Ra) b x v) (f:mn s x=some y):BH (cc E.T w Rt Ra') b y v ((owns [x]).flatMap (tb s β)):=by
 unfold mn at f
 split at f
 ·rename_i t
  split at f
  ·rename_i e l st A
   cases f
   obtain ⟨D,cs,hT,ap,j,O⟩:=h.objs t _ A
   obtain ⟨_,hv,_,u⟩:_/\v=(β t).v/\_/\(β t).arr=false:=N
   have j:fx w (β t).arr e D.sz (β t).v l.length cs:=j
   rw [u] at j
   refine ⟨D,cs,hT,hv▸j,?_,?_⟩
   ·refine O.mono (fun b M => ?_) (fun _ _=>rfl)
    unfold Cx.Q at M ⊢;split at M
    ·rename_i e;rw [if_pos e];exact M
    ·rename_i e;rw [if_neg e];exact m b M
   ·simp only [owns,flatMap_cons,List.flatMap_nil,append_nil,tb,A,cu,hv]
  ·cases f
 ·cases f;exact ⟨rfl,rfl,by simp,trivial⟩
 ·cases f;exact ⟨rfl,N⟩
 ·cases f
 ·cases f
 ·cases f
 ·cases f
 ·cases f
 ·cases f
 ·cases f
 ·rename_i z ar ae U V W ax X Y ad
  obtain ⟨hk,rfl⟩:=nh f
  have hs:SL (bI E s w β Rt Ra) x v:=tO N
  have A:owns [x]=[]:=by cases x <;> first|rfl|exact absurd rfl (z _)
  rw [A]
  refine pf (oE m hk ?_ hs) b
  cases x <;> first|rfl|exact absurd rfl (X _ _)|exact absurd rfl (Y _ _)|exact absurd rfl (ad _)|exact absurd rfl (z _)|exact absurd rfl (U _ _ _)|exact absurd rfl (V _ _)|exact absurd rfl (W _ _ _)|cases hk
theorem jp (x:SV) (r:List SV):owns (x::r)=owns [x]++owns r:=by
 cases x <;> simp [owns]
theorem om {Ra':Nat->Prop} (h:Rel E s a w β Rt Ra) (m:∀ b,Ra b->Ra' b) {b:Nat}:∀ (l:List SV) (vs:List Value) (u:List SV),PW (lS (bI E s w β Rt Ra) b) l vs->jg s l=some u->jM (BH (cc E.T w Rt Ra') b) u vs ((owns l).flatMap (tb s β))
 | [],[],u,_,f=>by cases f;rfl
 | x::l,v::vs,u,j,f=>by
  unfold jg at f
  split at f
  ·rename_i y z A M
   cases f
   rw [jp,List.flatMap_append]
   exact ⟨_,_,rfl,ol h m j.1 A,om h m l vs z j.2 M⟩
  ·cases f
 | [],_::_,_,j,_=>j.elim
 | _::_,[],_,j,_=>j.elim
end
end Go.Proofs.Ab
namespace Go.Proofs.Ab
open Go
variable {R:Type}
section
variable {E:Env} {s:St} {a:Act} {w w':World} {β:Nat->Bl} {Rt Ra:Nat->Prop}
theorem lN {x:SV} (f:∀ l,x ≠ .agg l):leaves x=[x]:=by
 cases x <;> first|rfl|exact absurd rfl (f _)
theorem xB (l:List SV):gg s (.tup l)=none:=rfl
theorem pB (t off:Nat):gg s (.ptr t off)=none:=rfl
theorem ve {x:SV} (f:∀ l,x ≠ .agg l) (j:∀ t off,x ≠ .ptr t off):fE s x=gg s x:=by
 cases x <;> first|rfl|exact absurd rfl (f _)|exact absurd rfl (j _ _)
def Shape (x c:SV):Prop:=(∃ t,x = .ptr t 0/\∃ ty l,c = .vp ty l)∨((∀ t o,x ≠ .ptr t o)/\∀ ty l,c ≠ .vp ty l)
theorem Gd {c:Cx} {x:SV} {v:Value} {bs:List Nat} (f:∀ ty l,x ≠ .vp ty l) (h:yW c x v bs):CV c x v bs:=by
 unfold CV;split
 ·exact absurd rfl (f _ _)
 ·exact h
theorem BQ {c:Cx} {x:SV} {v:Value} {bs:List Nat} (h:CL c x v bs):yW c x v bs:=by
 unfold yW;split
 ·exact h.2.2.2.elim
 ·exact h
theorem Hx {c:Cx} {ty:Nat} {l:List SV} {v:Value} {bs:List Nat} (h:CL c (.vp ty l) v bs):False:=h.2.2.2
theorem uk {x:SV} (f:∀ t o,x ≠ .ptr t o) (r:List SV):iT s (x::r)=iT s r:=by
 cases x <;> first|rfl|exact absurd rfl (f _ _)
theorem CU (x:SV) (r:List SV):iT s (x::r)=iT s [x]++iT s r:=by
 cases x <;> simp [iT]
theorem tY {Ra':Nat->Prop} (h:Rel E s a w β Rt Ra) (j:∀ b,Ra b->Ra' b) {x y:SV} {v:Value} (u:∀ t∈jr (leaves x),∀ o,s.obj t=some o->∀ b∈cu (β t) o,Ra' b) (z:S2 (bI E s w β Rt Ra) x v) (f:fE s x=some y):CV (cc E.T w Rt Ra') y v ((iT s [x]).flatMap (tb s β))/\Shape x y:=by
 rcases gS x with ⟨l,rfl⟩|A
 ·simp only [fE] at f
  split at f
  ·rename_i M N;cases f
   obtain ⟨cs,rfl,O⟩:=jx z
   exact ⟨⟨cs,rfl,lZ h j l _ M u O N⟩,.inr ⟨by simp,by simp⟩⟩
  ·cases f
 ·by_cases U:∃ t off,x = .ptr t off
  ·obtain ⟨t,off,rfl⟩:=U
   unfold fE at f
   split at f
   ·cases ‹SV.ptr _ _=SV.agg _›
   ·rename_i t' e
    cases e
    split at f
    ·rename_i ty X V
     split at f
     ·rename_i M N;cases f
      obtain ⟨cs,q,Y,O⟩:=h.objs t _ V
      obtain ⟨_,hv⟩:_/\v=_:=z
      refine ⟨⟨(β t).b,cs,q,_,hv,Y,om h j X _ M O N,?_⟩,.inl ⟨t,rfl,_,_,rfl⟩⟩
      simp only [iT,V,flatMap_cons,append_nil,tb,cu];rfl
     ·cases f
    ·cases f
   ·rw [pB] at f;cases f
  ·have m:∀ t off,x ≠ .ptr t off:=fun t off e=>U ⟨t,off,e⟩
   rw [ve A m] at f
   rw [lN A] at u
   have h3:∀ l,x ≠ .tup l:=fun l e=>by subst e;rw [xB] at f;cases f
   have:=lX h j u (za A (zb h3 z)) f
   have W:∀ ty l,y ≠ .vp ty l:=fun ty l e=>by subst e;exact Hx this
   rw [uk m]
   exact ⟨Gd W (BQ this),.inr ⟨m,W⟩⟩
theorem lY {Ra':Nat->Prop} (h:Rel E s a w β Rt Ra) (m:∀ b,Ra b->Ra' b):∀ (l:List SV) (vs:List Value) (u:List SV),(∀ t∈seen l,∀ o,s.obj t=some o->∀ b∈cu (β t) o,Ra' b)->PW (S2 (bI E s w β Rt Ra)) l vs->eU s l=some u ->
  jM (CV (cc E.T w Rt Ra')) u vs ((iT s l).flatMap (tb s β))/\PW Shape l u
 | [],[],u,_,_,f=>by cases f;exact ⟨rfl,trivial⟩
 | x::l,v::vs,u,A,j,f=>by
  unfold eU at f
  split at f
  ·rename_i y M N O
   cases f
   obtain ⟨g1,g2⟩:=tY h m (fun t z=>A t (mem_append_left _ z)) j.1 N
   obtain ⟨g3,g4⟩:=lY h m l vs M (fun t z=>A t (mem_append_right _ z)) j.2 O
   rw [CU,List.flatMap_append]
   exact ⟨⟨_,_,rfl,g1,g3⟩,g2,g4⟩
  ·cases f
 | [],_::_,_,_,j,_=>j.elim
 | _::_,[],_,_,j,_=>j.elim
theorem fp:∀ {l:List Nat},distinct l=true->l.Nodup
 | [],_=>nodup_nil
 | x::r,h=>by
  simp only [distinct,Bool.and_eq_true,Bool.not_eq_true',any_eq_false] at h
  refine List.nodup_cons.2 ⟨fun f => ?_,fp h.2⟩
  exact h.1 x f (Nat.beq_refl x)
theorem p7 (s:St):∀ (l:List SV),(iT s l).Perm (given l++cy s l)
 | []=>List.Perm.refl _
 | x::r=>by
  by_cases j:∃ t o,x = .ptr t o
  ·obtain ⟨t,o,rfl⟩:=j
   simp only [iT,given,cy,cons_append]
   refine List.Perm.cons _ ?_
   exact ((p7 s r).append_left _).trans (by
    rw [<- append_assoc,<- append_assoc]
    exact List.perm_append_comm.append_right _)
  ·have f:∀ t o,x ≠ .ptr t o:=fun t o e=>j ⟨t,o,e⟩
   rw [uk f]
   have m:given (x::r)=given r:=by cases x <;> first|rfl|exact absurd rfl (f _ _)
   have u:cy s (x::r)=cy s r:=by cases x <;> first|rfl|exact absurd rfl (f _ _)
   rw [m,u];exact p7 s r
theorem D4 (t:Nat):(tb s β t).Nodup:=by
 unfold tb;split
 ·rename_i o _
  cases o with
  | row e l st=>simp only [cu];cases (β t).v.ownBlock <;> simp
  | var ty f=>simp [cu]
  | sit b p=>simp [cu]
  | mp k e l=>simp [cu]
  | hole=>simp [cu]
 ·exact nodup_nil
theorem w6 (h:RelO E s w β Rt Ra) {t m:Nat} (z:t≠m):∀ b∈tb s β t,b ∉ tb s β m:=by
 intro b j f
 unfold tb at j f
 split at j
 ·rename_i o A
  split at f
  ·rename_i M u;exact h.apart t o m M A u z b j f
  ·cases f
 ·cases j
theorem kQ (h:RelO E s w β Rt Ra):∀ {l:List Nat},l.Nodup->(l.flatMap (tb s β)).Nodup
 | [],_=>nodup_nil
 | t::r,f=>by
  rw [nodup_cons] at f
  rw [flatMap_cons,nodup_append]
  refine ⟨D4 t,kQ h f.2,fun x m y hy e => ?_⟩
  subst e
  obtain ⟨u,j,hy⟩:=List.mem_flatMap.1 hy
  exact w6 h (fun e=>by subst e;exact f.1 j) x m hy
theorem nM:∀ (f:List Nat) {s:St},Rel E s a w β Rt Ra->Rel E (fG f s) a w β Rt Ra
 | [],_,h=>h
 | t::r,_,h=>nM r (h.Dj t)
theorem Dk {s:St} {t k:Nat} {o:Obj} (h:((s.kill t).drop t).obj k=some o):k≠t/\∃ f,s.obj k=some f/\∀ bl,cu bl o=cu bl f:=by
 obtain ⟨m,f,j,rfl⟩:=eX h
 exact ⟨m,f,j,fun bl=>gE bl f _⟩
theorem yi {s:St} {t k:Nat} {o:Obj} (f:k≠t) (h:s.obj k=some o):∃ j,((s.kill t).drop t).obj k=some j:=by
 rw [pI,if_neg f,St.kill,uz,h];exact ⟨_,rfl⟩
theorem nL:∀ (j:List Nat) {s:St} {k:Nat} {o:Obj},(fG j s).obj k=some o->k ∉ j/\∃ m,s.obj k=some m/\∀ bl,cu bl o=cu bl m
 | [],_,_,o,h=>⟨by simp,o,h,fun _=>rfl⟩
 | t::r,s,k,o,h=>by
  obtain ⟨u,U,z,A⟩:=nL r h
  obtain ⟨f,M,N,O⟩:=Dk z
  exact ⟨by simp [u,f],M,N,fun bl=>(A bl).trans (O bl)⟩
theorem ot:∀ (j:List Nat) {s:St} {k:Nat} {o:Obj},k ∉ j->s.obj k=some o->∃ m,(fG j s).obj k=some m
 | [],_,_,o,_,h=>⟨o,h⟩
 | t::r,s,k,o,f,h=>by
  simp only [mem_cons,not_or] at f
  obtain ⟨z,u⟩:=yi f.1 h
  exact ot r f.2 u
theorem nC:∀ (m:List Nat) {s:St} {k:Nat},(fZ m s).obj k=if k∈m then (s.obj k).map (fun _ => .hole) else s.obj k
 | [],_,_=>by simp [fZ]
 | t::r,s,k=>by
  unfold fZ;rw [nC r,dX]
  by_cases f:k∈r <;> by_cases j:k=t
  ·subst j;simp [f,Function.comp_def]
  ·simp [f,j]
  ·subst j;simp [f]
  ·simp [f,j]
theorem Rel.hole (h:Rel E s a w β Rt Ra) (t:Nat):Rel E (s.setObj t .hole) a w β Rt Ra:=
 ⟨(h.toRelO.hole t).1,h.len,h.defers,fH (h.toRelO.hole t).2 h.slots⟩
theorem ss:∀ (f:List Nat) {s:St},Rel E s a w β Rt Ra->Rel E (fZ f s) a w β Rt Ra
 | [],_,h=>h
 | t::r,_,h=>ss r (h.hole t)
theorem le_refl (c:Cx):c.Le c:=⟨rfl,fun _ _ h=>h,fun _ _ _=>rfl,fun _ h=>h,fun _ _=>rfl⟩
theorem eY:∀ (m:List SV) (s:St) {t:Nat},t<s.next->(da s m).2.obj t=s.obj t
 | [],_,_,_=>rfl
 | x::r,s,t,f=>by
  by_cases j:∃ e l st,x = .fr e l st
  ·obtain ⟨e,l,st,rfl⟩:=j
   rw [gD]
   refine (eY r (s.new (.row e l st)) (Nat.lt_succ_of_lt f)).trans ?_
   rw [fJ,if_neg (Nat.ne_of_lt f)]
  ·rw [io s x r fun e l st u=>j ⟨e,l,st,u⟩];exact eY r s f
def Iw (s:St) (β:Nat->Bl) (x:SV) (v:Value):Prop:=∀ t off,x = .ptr t off->v = .pointer (some ⟨(β t).b,off,none⟩)/\s.obj t=some .hole
theorem nc (s:St) (t off:Nat) (r:List SV) (ty:Nat) (f u:List SV):fk s (.ptr t off::r) (.vp ty f::u)=fk ((da s f).2.setObj t (.var ty (da s f).1)) r u:=rfl
theorem j' (s:St) {x:SV} (f:∀ t o,x ≠ .ptr t o) (r u:List SV):fk s (x::r) u=fk s r u:=by
 cases x <;> first|rfl|exact absurd rfl (f _ _)
theorem rJ (c:Cx) {x:SV} (f:∀ ty l,x ≠ .vp ty l) (r:List SV) (v:Value) (vs:List Value) (u:List SV) (bs:List Nat):CB c (x::r) (v::vs) u bs=CB c r vs u bs:=by
 cases x <;> first|rfl|exact absurd rfl (f _ _)
theorem vD {x:SV} (f:∀ t o,x ≠ .ptr t o) (r:List SV):given (x::r)=given r:=by
 cases x <;> first|rfl|exact absurd rfl (f _ _)
theorem ny {t off:Nat}:∀ {xs:List SV},SV.ptr t off∈xs->t∈given xs
 | [],h=>by cases h
 | y::f,h=>by
  rcases List.mem_cons.1 h with rfl|h
  ·simp [given]
  ·have:=ny h
   cases y <;> simp [given,this]
theorem ka {Rt':Nat->Prop} (hR:∀ b,Rt' b->Rt b):∀ (xs cs:List SV) (vs:List Value) (back:List SV) (bs:List Nat) {s s2:St} {β:Nat->Bl},Rel E s a w β Rt Ra->PW Shape xs cs->CB (cc E.T w Rt' Rt') cs vs back bs->bs.Nodup->(∀ z∈bs,rp E s w β Ra z) ->
  PW (Iw s β) xs vs->(given xs).Nodup->fk s xs back=some s2 ->
  ∃ β',Rel E s2 a w β' Rt Ra/\∀ t o,s2.obj t=some o->(s.obj t=some o /\ β' t = β t)∨∀ z∈cu (β' t) o,z∈bs
 | [],[],[],back,bs,s,s2,β,h,_,V,_,_,_,_,hb=>by
  obtain ⟨rfl,rfl⟩:=V
  cases hb
  exact ⟨β,h,fun t o ho => .inl ⟨ho,rfl⟩⟩
 | x::xs,c::cs,v::vs,back,bs,s,s2,β,h,ad,V,ae,hf,hh,hg,hb=>by
  rcases ad.1 with ⟨t,rfl,ct,l0,rfl⟩|⟨h1,h2⟩
  ·simp only [CB] at V
   split at V
   ·rename_i ty W u'
    obtain ⟨b,ax,q,b1,b2,hv,ap,a1,rfl,ar⟩:=V
    obtain ⟨X,u⟩:=hh.1 t 0 rfl
    have eb:b=(β t).b:=by rw [hv] at X;simpa using X
    rw [nc] at hb
    rw [cons_append,nodup_cons,nodup_append] at ae
    obtain ⟨nb,bP,bS,a6⟩:=ae
    obtain ⟨A,r1,a7,p1,a8⟩:=fR hR (fun b hb=>h.sub b (hR b hb)) W ax.toList b1 h a1 bP (fun z m=>hf z (by simp [m]))
    have bV:=h.lt t _ u
    have N:(da s W).2.obj t=some .hole:=by rw [eY W s bV];exact u
    have bb:A t = β t:=a7.β t ⟨_,u⟩
    have O:(A t).b=b:=by rw [bb,eb]
    have Y:=hf b (by simp)
    obtain ⟨r2,b0⟩:=r1.toRelO.set t (.var ty (da s W).1) N (fun z m=>by
      simp only [cu,mem_singleton] at m;rw [m,O];exact ⟨Y.1,Y.2.1,Y.2.2.1⟩) (fun z m k o' b3 j=>by
      simp only [cu,mem_singleton] at m;rw [m,O] at j
      rcases a8 k o' b3 with ⟨U,f⟩|M
      ·rw [f] at j;exact Y.2.2.2 k o' U j
      ·exact nb (mem_append_left _ (M b j))) (fun le=>⟨ax,q,by rw [O];exact ap,by rw [O];exact p1.imp fun _ _ hs=>hs.le le⟩)
    have b4:Rel E ((da s W).2.setObj t (.var ty (da s W).1)) a w A Rt Ra:=⟨r2,r1.len,r1.defers,fH b0 r1.slots⟩
    rw [show given (SV.ptr t 0::xs)=t::given xs from rfl,nodup_cons] at hg
    have be:∀ k o,((da s W).2.setObj t (.var ty (da s W).1)).obj k=some o->(k=t/\cu (A k) o=[b])∨(k≠t/\((s.obj k=some o/\A k = β k)∨∀ z∈cu (A k) o,z∈b1)):=by
     intro k o hk
     rw [dX] at hk;split at hk
     ·rename_i e;subst e;rw [N] at hk;cases hk;exact .inl ⟨rfl,by simp [cu,O]⟩
     ·rename_i e;exact .inr ⟨e,a8 k o hk⟩
    obtain ⟨b5,r3,b'⟩:=ka hR xs cs vs u' b2 b4 ad.2 ar bS (fun z m=>by
      obtain ⟨f1,f2,f3,f4⟩:=hf z (by simp [m])
      refine ⟨f1,f2,f3,fun k o hk j => ?_⟩
      rcases be k o hk with ⟨_,e⟩|⟨_,⟨U,f⟩|M⟩
      ·rw [e,mem_singleton] at j;subst j;exact nb (mem_append_right _ m)
      ·rw [f] at j;exact f4 k o U j
      ·exact a6 z (M z j) z m rfl)
     (by
      refine hh.2.imp_mem fun y hy v' X t' bk e => ?_
      subst e
      obtain ⟨g1,g2⟩:=X t' bk rfl
      have ca:t'≠t:=fun e=>by subst e;exact hg.1 (ny hy)
      have cl:A t' = β t':=a7.β t' ⟨_,g2⟩
      exact ⟨by rw [cl];exact g1,by rw [dX,if_neg ca,eY W s (h.lt t' _ g2)];exact g2⟩)
     hg.2 hb
    refine ⟨b5,r3,fun k o hk => ?_⟩
    rcases b' k o hk with ⟨U,f⟩|M
    ·rcases be k o U with ⟨_,e⟩|⟨_,⟨cp,bx⟩|M⟩
     ·exact .inr fun z m=>by rw [f,e,mem_singleton] at m;subst m;simp
     ·exact .inl ⟨cp,f.trans bx⟩
     ·exact .inr fun z m=>by rw [f] at m;simp [M z m]
    ·exact .inr fun z m=>by simp [M z m]
   ·exact V.elim
  ·rw [j' s h1] at hb
   rw [rJ _ h2] at V
   rw [vD h1] at hg
   exact ka hR xs cs vs back bs h ad.2 V ae hf hh.2 hg hb
 | [],[],_::_,_,_,_,_,_,_,_,V,_,_,_,_,_=>V.elim
 | [],_::_,_,_,_,_,_,_,_,hs,_,_,_,_,_,_=>hs.elim
 | _::_,[],_,_,_,_,_,_,_,hs,_,_,_,_,_,_=>hs.elim
 | _::_,_::_,[],_,_,_,_,_,_,_,_,_,_,hh,_,_=>hh.elim
theorem jM.imp {S f:SV->Value->List Nat->Prop} (j:∀ x v bs,S x v bs->f x v bs):∀ {l:List SV} {vs:List Value} {bs:List Nat},jM S l vs bs->jM f l vs bs
 | [],[],_,h=>h
 | _::_,_::_,_,⟨m,u,e,z,A⟩=>⟨m,u,e,j _ _ _ z,jM.imp j A⟩
 | [],_::_,_,h=>h.elim
 | _::_,[],_,h=>h.elim
theorem iq {v:SV} (m:∀ l,v ≠ .agg l) (s:St):∃ u,(da s [v]).1=[u]/\eN s v=(u,(da s [v]).2):=by
 by_cases j:∃ e l st,v = .fr e l st
 ·obtain ⟨e,l,st,rfl⟩:=j
  exact ⟨.own s.next,rfl,rfl⟩
 ·have f:∀ e l st,v ≠ .fr e l st:=fun e l st z=>j ⟨e,l,st,z⟩
  refine ⟨v,by rw [io s v [] f];rfl,?_⟩
  cases v <;> first|rfl|exact absurd rfl (f _ _ _)|exact absurd rfl (m _)
theorem ko {Rt' Ra':Nat->Prop} (N:∀ b,Rt' b->Rt b) (O:∀ b,Ra' b->Ra b) {x:SV} {v:Value} {bs:List Nat} (h:Rel E s a w β Rt Ra) (j:yW (cc E.T w Rt' Ra') x v bs) (f:bs.Nodup) (U:∀ z∈bs,rp E s w β Ra z) :
  ∃ β',Rel E (eN s x).2 a w β' Rt Ra/\(bI E s w β Rt Ra).Le (bI E (eN s x).2 w β' Rt Ra)/\S1 (bI E (eN s x).2 w β' Rt Ra) (eN s x).1 v/\∀ t o,(eN s x).2.obj t=some o->(s.obj t=some o /\ β' t = β t)∨∀ z∈cu (β' t) o,z∈bs:=by
 rcases gS x with ⟨l,rfl⟩|V
 ·obtain ⟨cs,rfl,W⟩:=j
  obtain ⟨β',r,le,p,ob⟩:=fR (b:=0) N O l cs.toList bs h (W.imp fun _ _ _ X=>pf X 0) f U
  exact ⟨β',r,le,⟨cs,rfl,p.imp fun _ _=>tO⟩,ob⟩
 ·have m:CL (cc E.T w Rt' Ra') x v bs:=by
   unfold yW at j;split at j
   ·exact absurd rfl (V _)
   ·exact j
  obtain ⟨β',r,le,p,ob⟩:=fR (b:=0) N O [x] [v] bs h ⟨bs,[],by simp,pf m 0,rfl⟩ f U
  obtain ⟨u,A,M⟩:=iq V s
  rw [M]
  rw [A] at p
  exact ⟨β',r,le,dR (tO p.1),ob⟩
theorem oy {Rt':Nat->Prop} (A:∀ b,Rt' b->Rt b):∀ (xs:List SV) (vs:List Value) (bs:List Nat) {s:St} {β:Nat->Bl},Rel E s a w β Rt Ra->jM (yW (cc E.T w Rt' Rt')) xs vs bs->bs.Nodup->(∀ z∈bs,rp E s w β Ra z) ->
  ∃ β',Rel E (fD s xs).2 a w β' Rt Ra/\(bI E s w β Rt Ra).Le (bI E (fD s xs).2 w β' Rt Ra)/\PW (S1 (bI E (fD s xs).2 w β' Rt Ra)) (fD s xs).1 vs
 | [],[],bs,s,β,h,X,_,_=>⟨β,h,le_refl _,trivial⟩
 | x::xs,v::vs,bs,s,β,h,X,f,Y=>by
  obtain ⟨b1,b2,rfl,hx,hr⟩:=X
  rw [nodup_append] at f
  obtain ⟨ad,r1,M,p1,N⟩:=ko A (fun b j=>h.sub b (A b j)) h hx f.1 (fun z u=>Y z (mem_append_left _ u))
  obtain ⟨O,r2,m,p2⟩:=oy A xs vs b2 r1 hr f.2.1 (fun z u=>by
   obtain ⟨f1,f2,f3,f4⟩:=Y z (mem_append_right _ u)
   refine ⟨f1,f2,f3,fun t o ho j => ?_⟩
   rcases N t o ho with ⟨U,V⟩|W
   ·rw [V] at j;exact f4 t o U j
   ·exact f.2.2 z (W z j) z u rfl)
  exact ⟨O,r2,M.trans m,p1.le m,p2⟩
 | [],_::_,_,_,_,_,h,_,_=>h.elim
 | _::_,[],_,_,_,_,h,_,_=>h.elim
end
end Go.Proofs.Ab
namespace Go.Proofs.Ab
open Go
variable {R:Type}
structure ee (C:Cfg R) (tab:cg) (E:Env):Prop where
 T:E.T=C.ty
 tab:∀ b ob,tab b=some ob->E.w0.heap[b]? = some ob/\E.Rt0 b/\¬ E.W0 b
section
variable {P:Program} {E:Env} {o:Oper} {s:St} {a:Act} {w:World} {β:Nat->Bl} {Rt Ra:Nat->Prop} {κ:St->Option R} {r:R} {C:Cfg R} {tab:cg}
theorem qN {c:Call} {f:Operand} {g:Nat} (j:o.op = .call c) (m:c.callee = .value f) (u:a.eval f = .func (.func g) #[] #[]):(execOp a.eval o).run P w=(callFunc g (c.args.map a.eval)).run P w:=by
 unfold execOp;rw [j]
 simp only [resolve,m,u,Deferred.ofValue,Sem.run_bind,Sem.run_pure,Result.andThen_ok,invoke]
 simp
theorem nW {c:Call} {f:Operand} {g:Nat} {p:Array Value} (j:o.op = .call c) (m:c.callee = .value f) (u:a.eval f = .func (.func g) #[] p):(execOp a.eval o).run P w=(callFunc g (c.args.map a.eval++p)).run P w:=by
 unfold execOp;rw [j]
 simp only [resolve,m,u,Deferred.ofValue,Sem.run_bind,Sem.run_pure,Result.andThen_ok,invoke]
 simp
theorem jF (h:Rel E s a w β Rt Ra):∀ (xs:List Operand),PW (S2 (bI E s w β Rt Ra)) (xs.map (ev s)) (xs.map a.eval)
 | []=>trivial
 | x::r=>⟨ck h x,jF h r⟩
theorem ES {t:Nat} {xs m:List SV} (h:eU s xs=some m) (f:t∈given xs):∃ ty N,s.obj t=some (.var ty N):=by
 induction xs generalizing m with
 | nil=>cases f
 | cons x xs u =>
  unfold eU at h
  split at h
  ·rename_i y U j z
   by_cases A:∃ M o,x = .ptr M o
   ·obtain ⟨M,o,rfl⟩:=A
    rcases List.mem_cons.1 f with rfl|f
    ·unfold fE at j
     split at j
     ·cases ‹SV.ptr _ _=SV.agg _›
     ·rename_i O e;cases e
      split at j
      ·exact ⟨_,_,by assumption⟩
      ·cases j
     ·rw [pB] at j;cases j
    ·exact u z f
   ·rw [vD (fun t o e=>A ⟨t,o,e⟩)] at f;exact u z f
  ·cases h
theorem vA (f:List Nat) (h:Rel E s a w β Rt Ra):∃ β' Rt' Ra',Rel E (gi f s) a w β' Rt' Ra':=dj.gi f ⟨β,Rt,Ra,h⟩
theorem xq {xs:List SV} {vs:List Value} {cs back:List SV} {b1 b2:List Nat} {w':World} {v0:SV} {v:Value} {res:List SV} {Rt':Nat->Prop} {s2:St}
  {bx:List Nat} (a7:∀ b∈bx,rp E s w β Ra b) (h:Rel E s a w β Rt Ra) (hp:PW (S2 (bI E s w β Rt Ra)) xs vs) (a8:eU s xs=some cs) (bb:(iT s xs).Nodup)
  (f:m9 E.T w cs vs Rt ((iT s xs).flatMap (tb s β)++bx) res v w' Rt' v0 back b1 b2) (be:PW Shape xs cs) (u:fk (fZ (given xs) (fG (cy s xs) s)) xs back=some s2) :
  (∃ l,v0 = .tup l/\∃ ax:Array Value,v = .tuple ax/\∃ U V W,Rel E (fD s2 l).2 a w' U V W/\PW (S1 (bI E (fD s2 l).2 w' U V W)) (fD s2 l).1 ax.toList) ∨
  ((∀ l,v0 ≠ .tup l)/\∃ U V W,Rel E (eN s2 v0).2 a w' U V W/\S1 (bI E (eN s2 v0).2 w' U V W) (eN s2 v0).1 v):=by
 have X:=p7 s xs
 have hn:=X.nodup bb
 rw [nodup_append] at hn
 -- blocks that were handed over
 have N:∀ b∈(iT s xs).flatMap (tb s β)++bx,b<w.heap.size/\¬ Ra b/\(E.w0.heap.size<=b∨E.W0 b)/\((∃ t∈iT s xs,b∈tb s β t)∨∀ t o,s.obj t=some o->b ∉ cu (β t) o):=by
  intro b u
  rcases List.mem_append.1 u with u|u
  ·obtain ⟨t,ht,u⟩:=List.mem_flatMap.1 u
   have bk:=u
   unfold tb at u;split at u
   ·rename_i o m;exact ⟨(h.dc t o m b u).1,(h.dc t o m b u).2.1,(h.dc t o m b u).2.2,.inl ⟨t,ht,bk⟩⟩
   ·cases u
  ·obtain ⟨f1,f2,f3,f4⟩:=a7 b u
   exact ⟨f1,f2,f3,.inr f4⟩
 have h1:Rel E (fZ (given xs) (fG (cy s xs) s)) a w β Rt Ra:=ss _ (nM _ h)
 -- what objects there are now
 have Y:∀ t o,(fZ (given xs) (fG (cy s xs) s)).obj t=some o->∀ b∈cu (β t) o,b ∉ (iT s xs).flatMap (tb s β)++bx/\b<w.heap.size:=by
  intro t o m b j
  refine ⟨fun ad => ?_,(h1.dc t o m b j).1⟩
  obtain ⟨_,_,_,ap⟩:=N b ad
  rw [nC] at m
  split at m
  ·rename_i hg
   cases hx:(fG (cy s xs) s).obj t with
   | none=>rw [hx] at m;cases m
   | some o'=>rw [hx] at m;cases m;cases j
  ·rename_i hg
   obtain ⟨bs,o',O,e⟩:=nL _ m
   rw [e] at j
   rcases ap with ⟨t',bP,bS⟩|ap
   ·have:t≠t':=fun e=>by
     subst e
     have:=(X.mem_iff (a:=t)).1 bP
     rcases List.mem_append.1 this with h|h
     ·exact hg h
     ·exact bs h
    refine w6 h.toRelO this b ?_ bS
    unfold tb;rw [O];exact j
   ·exact ap t o' O j
 have h2:Rel E (fZ (given xs) (fG (cy s xs) s)) a w' β Rt Ra:=h1.world f.fr fun b u=>⟨(N b u).2.1,(N b u).2.2.1,fun t o m j=>(Y t o m b j).1 u⟩
 obtain ⟨h3,_⟩:=h2.more f.le fun b u a1=>by
  obtain ⟨g1,g2⟩:=f.lt b u
  refine ⟨g1,?_,fun t o m j => ?_⟩
  ·rcases g2 with g2|g2|g2
   ·exact absurd g2 a1
   ·exact .inl (Nat.le_trans h.fr.size g2)
   ·exact (N b g2).2.2.1
  ·rcases g2 with g2|g2|g2
   ·exact a1 g2
   ·have:=(Y t o m b j).2;omega
   ·exact (Y t o m b j).1 g2
 have ae:∀ z∈b1++b2,rp E (fZ (given xs) (fG (cy s xs) s)) w' β (fun b=>Ra b∨Rt' b) z:=by
  intro z hz
  obtain ⟨g1,g2,g3⟩:=f.no z hz
  refine ⟨g2,?_,?_,fun t o m j => ?_⟩
  ·rintro (hr|hr)
   ·rcases g3 with g3|g3
    ·have:=h.rlt z hr;omega
    ·exact (N z g3).2.1 hr
   ·exact g1 hr
  ·rcases g3 with g3|g3
   ·exact .inl (Nat.le_trans h.fr.size g3)
   ·exact (N z g3).2.2.1
  ·rcases g3 with g3|g3
   ·have:=(Y t o m z j).2;omega
   ·exact (Y t o m z j).1 g3
 have A:=f.nd
 rw [nodup_append] at A
 obtain ⟨bV,h4,b0⟩:=ka (fun _ h=>h) xs cs vs back b2 h3 be f.b A.2.1 (fun z hz=>ae z (mem_append_right _ hz))
  (by
   refine hp.imp_mem fun x hx v hv t off e => ?_
   subst e
   obtain ⟨_,hv⟩:_/\v=_:=hv
   refine ⟨hv,?_⟩
   have hg:=ny hx
   obtain ⟨ty,ls,m⟩:=ES a8 hg
   obtain ⟨o',O⟩:=ot (cy s xs) (fun ad=>hn.2.2 t hg t ad rfl) m
   rw [nC,if_pos hg,O];rfl)
  hn.1 u
 have M:∀ z∈b1,rp E s2 w' bV (fun b=>Ra b∨Rt' b) z:=by
  intro z hz
  obtain ⟨f1,f2,f3,f4⟩:=ae z (mem_append_left _ hz)
  refine ⟨f1,f2,f3,fun t o m j => ?_⟩
  rcases b0 t o m with ⟨O,b3⟩|ad
  ·rw [b3] at j;exact f4 t o O j
  ·exact A.2.2 z hz z (ad z j) rfl
 rcases qt v0 with ⟨l,rfl⟩|hv
 ·obtain ⟨us,b4,a6⟩:=f.r
  obtain ⟨ar,h5,_,p5⟩:=oy (fun _ h=>h) l us.toList b1 h4 a6 A.1 M
  exact .inl ⟨l,rfl,us,b4,ar,_,_,h5,p5⟩
 ·have hr:yW (cc E.T w' Rt' Rt') v0 v b1:=by
   have:=f.r
   unfold CR at this;split at this
   ·exact absurd rfl (hv _)
   ·exact this
  obtain ⟨ar,h5,_,p5,_⟩:=ko (fun _ h=>h) (fun _ h => .inr h) h4 hr A.1 M
  exact .inr ⟨hv,ar,_,_,h5,p5⟩
theorem l9 {A:Type} {b:Bool} {k:Option A} {r:A} (h:(bif b then k else none)=some r):b=true/\k=some r:=by
 cases b with
 | true=>exact ⟨rfl,h⟩
 | false=>cases h
theorem ll {A:Type} {b:Bool} {k:Option A} {r:A} (h:(bif b then none else k)=some r):b=false/\k=some r:=by
 cases b with
 | false=>exact ⟨rfl,h⟩
 | true=>cases h
theorem jM.more {S:SV->Value->List Nat->Prop}:∀ {l:List SV} {vs:List Value} {bs:List Nat} {ex:List SV} {exv:List Value},jM S l vs bs->PW (fun x v=>S x v []) ex exv->jM S (l++ex) (vs++exv) bs
 | [],[],_,[],[],h,_=>h
 | [],[],bs,x::ex,v::exv,h,f=>by
  have h:bs=[]:=h
  subst h
  exact ⟨[],[],rfl,f.1,jM.more (l:=[]) (vs:=[]) (bs:=[]) rfl f.2⟩
 | x::l,v::vs,_,_,_,⟨j,m,e,u,z⟩,f=>⟨j,m,e,u,z.more f⟩
 | [],[],_,[],_::_,_,f=>f.elim
 | [],[],_,_::_,[],_,f=>f.elim
 | [],_::_,_,_,_,h,_=>h.elim
 | _::_,[],_,_,_,h,_=>h.elim
theorem jM.join {S:SV->Value->List Nat->Prop}:∀ {l:List SV} {vs:List Value} {bs:List Nat} {ex:List SV} {exv:List Value} {bx:List Nat},jM S l vs bs->jM S ex exv bx->jM S (l++ex) (vs++exv) (bs++bx)
 | [],[],_,_,_,_,h,f=>by
  have h:_=[]:=h
  subst h
  exact f
 | x::l,v::vs,_,_,_,bx,⟨j,m,e,u,z⟩,f=>⟨j,m++bx,by rw [e,append_assoc],u,z.join f⟩
 | [],_::_,_,_,_,_,h,_=>h.elim
 | _::_,[],_,_,_,_,h,_=>h.elim
theorem jM.none {S:SV->Value->List Nat->Prop}:∀ {l:List SV} {vs:List Value},PW (fun x v=>S x v []) l vs->jM S l vs []
 | [],[],_=>rfl
 | _::_,_::_,h=>⟨[],[],rfl,h.1,jM.none h.2⟩
 | [],_::_,h=>h.elim
 | _::_,[],h=>h.elim
theorem tI {c:Cx} {ex:List SV} (hex:∀ x∈ex,∀ ty l,x ≠ .vp ty l):∀ {cs:List SV} {vs:List Value} {exv:List Value} {u:List SV} {bs:List Nat},cs.length=vs.length->ex.length=exv.length->CB c (cs++ex) (vs++exv) u bs->CB c cs vs u bs
 | [],[],exv,u,bs,hl,he,h=>by
  replace h:CB c ex exv u bs:=h
  clear hl
  induction ex generalizing exv with
  | nil=>cases exv with
   | nil=>exact h
   | cons _ _=>simp at he
  | cons x ex ih=>cases exv with
   | nil=>simp at he
   | cons v exv =>
    rw [rJ c (hex x (by simp))] at h
    exact ih (fun y hy=>hex y (by simp [hy])) exv (by simpa using he) h
 | x::cs,v::vs,exv,u,bs,hl,he,h=>by
  by_cases hx:∃ ty l,x = .vp ty l
  ·obtain ⟨ty,l,rfl⟩:=hx
   cases u with
   | nil=>exact h.elim
   | cons y u =>
    cases y <;> first
     | (obtain ⟨b, cs', i, b1, b2, h1, h2, h3, h4, h5⟩ := h
        exact ⟨b,cs',i,b1,b2,h1,h2,h3,h4,tI hex (by simpa using hl) he h5⟩)
     | exact h.elim
  ·have hn:∀ ty l,x ≠ .vp ty l:=fun ty l e=>hx ⟨ty,l,e⟩
   rw [rJ c hn]
   rw [cons_append,cons_append,rJ c hn] at h
   exact tI hex (by simpa using hl) he h
 | [],_::_,_,_,_,hl,_,_=>by simp at hl
 | _::_,[],_,_,_,hl,_,_=>by simp at hl
theorem xO {q:Bool} (hE:ee C tab E) (hD:∀ g,bT P C.ty tab g (C.call g)) {s0:St} {A:Nat->Bl} {Rt0 Ra0:Nat->Prop} (N:Rel E s0 a w A Rt0 Ra0) {fz:List Nat} {g:Nat} {xs ex:List SV} {vals:Array Value} {vx exv:List Value} {bx:List Nat} (b0:bx.Nodup) (ap:∀ b∈bx,rp E s0 w A Ra0 b) (O:vals.toList=vx++exv)
  (ar:(execOp a.eval o).run P w=(callFunc g vals).run P w) (hp:PW (S2 (bI E s0 w A Rt0 Ra0)) xs vx)
  (hex:jM (CV (cc E.T w Rt0 fun b=>Ra0 b∨∃ t o,s0.obj t=some o/\t ∉ iT s0 xs/\b∈cu (A t) o)) ex exv bx) (bb:∀ x∈ex,∀ ty l,x ≠ .vp ty l)
  (hk:lW C q fz s0 o.dst g xs ex κ=some r):eG P E o a w κ r:=by
 unfold lW at hk
 simp only at hk
 cases z:((q && !(fz.isEmpty&&(cy s0 xs).isEmpty)) || !distinct (iT s0 xs)||(seen xs).any (fun t=>(iT s0 xs).any (Nat.beq t))) with
 | true=>rw [z] at hk;cases hk
 | false =>
  rw [z] at hk;simp only [cond_false] at hk
  simp only [Bool.or_eq_false_iff,Bool.not_eq_false'] at z
  obtain ⟨⟨_,be⟩,U⟩:=z
  have bk:=fp be
  split at hk
  ·cases hk
  ·rename_i cs bs
   let Ra':Nat->Prop:=fun b=>Ra0 b∨∃ t o,s0.obj t=some o/\t ∉ iT s0 xs/\b∈cu (A t) o
   obtain ⟨ae,b3⟩:=lY (Ra':=Ra') N (fun b j => .inl j) xs _ cs (fun t ht o' M b j=>by
    refine .inr ⟨t,o',M,fun b4 => ?_,j⟩
    rw [any_eq_false] at U
    have:=U t ht
    rw [Bool.not_eq_true,any_eq_false] at this
    exact this t b4 (Nat.beq_refl t)) hp bs
   have bP:cs.length=vx.length:=ae.len
   have bS:Pre C.ty tab w (cs++ex) vals.toList Rt0 Ra' ((iT s0 xs).flatMap (tb s0 A)++bx):=by
    refine ⟨by rw [<- hE.T,O];exact ae.join hex,List.nodup_append.2 ⟨kQ N.toRelO bk,b0,fun b j b' b5 e => ?_⟩,fun b j => ?_,fun b j => .inl (N.sub b j),fun b j => ?_,fun b ob ca => ?_⟩
    ·subst e
     obtain ⟨t,ht,j⟩:=List.mem_flatMap.1 j
     unfold tb at j;split at j
     ·rename_i o' M
      exact (ap b b5).2.2.2 t o' M j
     ·cases j
    ·rcases List.mem_append.1 j with j|j
     ·obtain ⟨t,ht,j⟩:=List.mem_flatMap.1 j
      have c':=j
      unfold tb at j;split at j
      ·rename_i o' M
       refine ⟨?_,(N.dc t o' M b j).1⟩
       rintro (hr|⟨t',o2,V,cl,W⟩)
       ·exact (N.dc t o' M b j).2.1 hr
       ·exact N.apart t o' t' o2 M V (fun e=>by subst e;exact cl ht) b j W
      ·cases j
     ·obtain ⟨f1,f2,_,f4⟩:=ap b j
      refine ⟨?_,f1⟩
      rintro (hr|⟨t',o2,V,_,W⟩)
      ·exact f2 hr
      ·exact f4 t' o2 V W
    ·rcases j with hr|⟨t',o2,V,_,W⟩
     ·exact N.rlt b hr
     ·exact (N.dc t' o2 V b W).1
    ·obtain ⟨g1,g2,g3⟩:=hE.tab b ob ca
     refine ⟨?_,N.rt0 b g2⟩
     have cp:b<E.w0.heap.size:=(Array.getElem?_eq_some_iff.1 g1).1
     rw [N.fr.block b cp g3];exact g1
   have bV:=hD g (cs++ex) _ r hk w vals Rt0 Ra' _ bS
   intro next Q X
   have fin:∀ v w',(∃ res Rt' v0 back b1 b2,(match res with
     | []=>none
     | v::back=>match fk (fZ (given xs) (fG (cy s0 xs) s0)) xs back with
      | none=>none
      | some s2=>match v with
       | .tup l=>match fD s2 l with
        | (us,s3)=>κ (s3.put o.dst (.tup us))
       | v=>match eN s2 v with
        | (u,s3)=>κ (s3.put o.dst u))=some r/\m9 C.ty w (cs++ex) vals.toList Rt0 ((iT s0 xs).flatMap (tb s0 A)++bx) res v w' Rt' v0 back b1 b2)->next (a.put o.dst v) w':=by
    rintro v w' ⟨res,Rt',v0,back,b1,b2,m,f⟩
    rw [f.res] at m
    simp only at m
    split at m
    ·cases m
    ·rename_i s2 ct
     have j:=xq ap N hp bs bk (by
      rw [<- hE.T] at f
      exact ⟨f.res,f.fr,f.r,tI bb bP hex.len (by have:=f.b;rw [O] at this;exact this),f.nd,f.no,f.le,f.lt⟩) b3 ct
     rcases j with ⟨l,rfl,us,rfl,ax,a1,a6,hr,a7⟩|⟨hv,ax,a1,a6,hr,a7⟩
     ·simp only at m
      exact X _ _ _ m ⟨ax,a1,a6,hr.put o.dst ⟨us,rfl,a7⟩⟩
     ·split at m
      ·exact absurd rfl (hv _)
      ·exact X _ _ _ m ⟨ax,a1,a6,hr.put o.dst (dC a7)⟩
   unfold Oper.wp
   rw [ar]
   rcases bV with ⟨v,w',Y,hq⟩|⟨Y,ad⟩
   ·rw [Y];exact fin v w' hq
   ·rw [Y,Oper.upon_enter]
    intro c0
    obtain ⟨e,w',fr,⟨v,he,hq⟩,a8⟩:=ad c0
    subst he
    exact ⟨_,w',fr,fin v w' hq,a8⟩
theorem xN {q:Bool} (m:ee C tab E) (u:∀ g,bT P C.ty tab g (C.call g)) {s0:St} {j:Nat->Bl} {Rt0 Ra0:Nat->Prop} (z:Rel E s0 a w j Rt0 Ra0) {A:List Nat} {g:Nat} {xs:List SV} {vals:Array Value}
  (f:(execOp a.eval o).run P w=(callFunc g vals).run P w) (M:PW (S2 (bI E s0 w j Rt0 Ra0)) xs vals.toList) (N:pz C q A s0 o.dst g xs κ=some r):eG P E o a w κ r:=
 xO (ex:=[]) (exv:=[]) (bx:=[]) m u z nodup_nil (by simp) (append_nil _).symm f M rfl (by simp) N
theorem wP (hE:E.T=C.ty) {s0:St} {f:Nat->Bl} {Rt0 Ra0:Nat->Prop} (h0:Rel E s0 a w f Rt0 Ra0) {t:Nat} {x:SV} (A:DQ C s0 t=some x) {Ra':Nat->Prop} (O:∀ b,Ra0 b->Ra' b) (U:∀ o,s0.obj t=some o->∀ b∈cu (f t) o,Ra' b) :
  CV (cc E.T w Rt0 Ra') x (.pointer (some ⟨(f t).b,0,none⟩)) []/\∀ ty l,x ≠ .vp ty l:=by
 unfold DQ at A
 split at A
 ·rename_i ty ls V
  split at A
  ·rename_i T hT
   split at A
   ·rename_i y hw
    split at A
    ·rename_i d st u
     cases A
     refine ⟨⟨rfl,rfl,by simp,?_⟩,by simp⟩
     obtain ⟨cs,_,hg,ae⟩:=h0.objs t _ V
     have M:(leaves y).all known=true:=by
      unfold lm at u
      cases hf:fitAll T.lv (leaves y) with
      | true=>exact gW hf
      | false=>rw [hf] at u;cases u
     have ap:leaves y=ls∨(T.agg=false/\ls=[y]):=by
      unfold whole at hw
      obtain ⟨_,hw⟩:=l9 hw
      cases m:T.agg with
      | true=>rw [m,cond_true] at hw;cases hw;exact .inl rfl
      | false =>
       rw [m,cond_false] at hw
       split at hw
       ·cases hw;exact .inr ⟨rfl,rfl⟩
       ·cases hw
     have W:T.agg=false->leaves y=[y]:=fun m=>by
      unfold lm at u
      obtain ⟨_,u⟩:=l9 u
      rw [m,cond_false] at u
      cases y <;> first|rfl|cases u
     have N:leaves y=ls:=ap.elim id fun ⟨h1,h2⟩=>by rw [W h1,h2]
     rw [N] at M
     have X:PW (SL (bI E s0 w f Rt0 Ra0)) ls cs.toList:=PW.imp_mem (fun z hz v hv=>jW (List.all_eq_true.mp M z hz) hv) ae
     have Y:∃ v:Value,v.cells=cs/\S1 (bI E s0 w f Rt0 Ra0) y v:=by
      obtain ⟨_,h⟩:=iS hw X
      rcases h with ⟨_,h⟩|⟨m,v,e,h⟩
      ·exact ⟨.agg cs,rfl,by simpa using h⟩
      ·refine ⟨v,?_,h⟩
       have hy:known y=true:=by
        have:=W m
        rw [<- N,this] at M
        simpa using M
       have ar:v.cells.toList=[v]:=by
        have h2:SL (bI E s0 w f Rt0 Ra0) y v:=by
         cases y <;> first|exact h|cases hy
        rw [rX (kG hy h2)]
       apply Array.ext'
       rw [ar,e]
     obtain ⟨v,hv,ax⟩:=Y
     obtain ⟨_,ad⟩:=ma (c:=bI E s0 w f Rt0 Ra0) h0.sub u (dC ax)
     refine ⟨T,⟨(f t).b,0,none⟩,by show E.T _=_;rw [hE];exact hT,rfl,fun j k hk => ?_⟩
     rw [Nat.zero_add] at hk
     have hlen:T.lv.length=cs.size:=by
      unfold lm at u
      obtain ⟨hf,_⟩:=l9 u
      rw [(hI hf).len,N,X.len];simp
     have hj:j<cs.size:=by rw [<- hlen];exact (List.getElem?_eq_some_iff.mp hk).1
     refine ⟨cs[j],U _ V _ (by simp [cu]),?_,?_⟩
     ·show World.cell? w _=_
      rw [add_plain,cell_of_row w _ _ cs _ (0,0) hg]
      simp [hj]
     ·rw [Nat.zero_add]
      refine (ad j k hk cs[j] (by rw [hv];simp [hj])).mono (fun b hb => ?_) (fun _ _=>rfl)
      show Ra' b
      refine O b ?_
      unfold Cx.Q at hb
      split at hb
      ·exact h0.sub b hb
      ·exact hb
    ·cases A
   ·cases A
  ·cases A
 ·cases A
theorem zV (c:Cx):∀ (f:List Nat),(∀ t∈f,c.D t)->PW (S2 c) (f.map fun t => .ptr t 0) (f.map fun t=>Value.pointer (some ⟨(c.β t).b,0,none⟩))
 | [],_=>trivial
 | t::f,h=>⟨⟨h t (by simp),rfl⟩,zV c f fun u hu=>h u (by simp [hu])⟩
theorem CM {q:Bool} (V:ee C tab E) (X:∀ g,bT P C.ty tab g (C.call g)) (h:Rel E s a w β Rt Ra) {c:Call} {f:Operand} (N:o.op = .call c) (Y:c.callee = .value f) {g:Nat} (j:zd C q s o.dst f g c.args.toList κ=some r):eG P E o a w κ r:=by
  unfold zd at j
  cases q with
  | true=>cases j
  | false =>
   simp only [cond_false] at j
   obtain ⟨ad,Rt0,Ra0,z⟩:=vA (kW C s g c.args.toList) h
   have u:=ck z f
   split at j
   ·rename_i A t' M
    rw [M] at u
    obtain ⟨hd,W⟩:_/\a.eval f=_:=u
    cases m:Nat.beq A g with
    | false=>rw [m] at j;cases j
    | true =>
     rw [m,cond_true] at j
     obtain rfl:A=g:=Nat.eq_of_beq_eq_true m
     cases O:C.xJ A with
     | false =>
      rw [O,cond_false] at j
      refine xN V X z (nW N Y W) ?_ j
      rw [Array.toList_append,Array.toList_map]
      exact PW.append (jF z c.args.toList) ⟨⟨hd,rfl⟩,trivial⟩
     | true =>
      rw [O,cond_true] at j
      obtain ⟨U,j⟩:=ll j
      split at j
      ·rename_i x hx
       obtain ⟨h1,h2⟩:=wP V.T z hx (Ra':=fun b=>_∨∃ t o,(gi (kW C s A c.args.toList) s).obj t=some o/\t ∉ iT (gi (kW C s A c.args.toList) s) (c.args.toList.map (ev (gi (kW C s A c.args.toList) s)))/\b∈cu (ad t) o) (fun b m => .inl m) (fun o N b m => .inr ⟨t',o,N,fun ae=>by
        rw [any_eq_false] at U
        exact U t' ae (Nat.beq_refl t'),m⟩)
       refine xO (ex:=[x]) (exv:=[.pointer (some ⟨_,0,none⟩)]) (bx:=[]) V X z nodup_nil (by simp) (by rw [Array.toList_append,Array.toList_map];rfl) (nW N Y W) (jF z c.args.toList) ⟨[],[],rfl,h1,rfl⟩ (by simpa using h2) j
      ·cases j
   ·rename_i A ts M
    rw [M] at u
    obtain ⟨hd,W⟩:_/\a.eval f=_:=u
    obtain ⟨m,j⟩:=l9 j
    simp only [Bool.and_eq_true] at m
    obtain rfl:A=g:=Nat.eq_of_beq_eq_true m.1
    refine xN V X z (nW N Y W) ?_ j
    rw [Array.toList_append,Array.toList_map]
    exact PW.append (jF z c.args.toList) (zV _ ts hd)
   ·cases j
theorem xM {q:Bool} (z:ee C tab E) (A:∀ g,bT P C.ty tab g (C.call g)) (h:Rel E s a w β Rt Ra) {c:Call} {f:Operand} (M:o.op = .call c) (N:c.callee = .value f) {g:Nat} (j:a.eval f = .func (.func g) #[] #[])
  (m:iG C q s o.dst g c.args.toList κ=some r):eG P E o a w κ r:=by
 unfold iG at m
 obtain ⟨O,Rt0,Ra0,u⟩:=vA (kW C s g c.args.toList) h
 exact xN z A u (qN M N j) (by rw [Array.toList_map];exact jF u c.args.toList) m
theorem GJ (V:ee C tab E) (W:∀ g,bT P C.ty tab g (C.call g)) (h:Rel E s a w β Rt Ra) {c:Call} {f:Operand} (X:o.op = .call c) (Y:c.callee = .value f) {g:Nat} (u:a.eval f = .func (.func g) #[] #[])
  (m:Cf C s o.dst g c.args.toList κ=some r):eG P E o a w κ r:=by
 unfold Cf at m
 split at m
 ·rename_i y rr A
  have z:c.args.toList=rr.reverse++[y]:=by
   have:=congrArg List.reverse A
   simpa using this
  split at m
  ·rename_i t ht
   split at m
   ·rename_i e l st j
    have h1:Rel E (fG [t] s) a w β Rt Ra:=nM _ h
    have hy:S2 (bI E s w β Rt Ra) (.own t) (a.eval y):=ht▸ck h y
    have M:=ol (Ra':=fun b=>Ra b∨∃ N o',(fG [t] s).obj N=some o'/\N ∉ iT (fG [t] s) (rr.reverse.map (ev (fG [t] s)))/\b∈cu (β N) o') h (fun b U => .inl U) (b:=0) (x := .own t) (y := .fr e l st) hy
     (by simp only [mn,j])
    have ad:(owns [SV.own t]).flatMap (tb s β)=cu (β t) (.row e l st):=by
     simp only [owns,flatMap_cons,List.flatMap_nil,append_nil,tb,j]
    rw [ad] at M
    refine xO (ex:=[.fr e l st]) (exv:=[a.eval y]) (bx:=cu (β t) (.row e l st)) V W h1 ?_ (fun b U => ?_) (by rw [Array.toList_map,z,List.map_append];rfl) (qN X Y u) (jF h1 rr.reverse) ⟨_,[],(append_nil _).symm,M,rfl⟩ (by simp) m
    ·have:=kQ h.toRelO (l:=[t]) (by simp)
     simpa [tb,j] using this
    ·obtain ⟨g1,g2,g3⟩:=h.dc t _ j b U
     refine ⟨g1,g2,g3,fun N o' ae O => ?_⟩
     obtain ⟨hn,o2,ap,e2⟩:=nL _ ae
     rw [e2] at O
     exact h.apart t _ N o2 j ap (fun e=>hn (by simp [e])) b U O
   ·cases m
  ·exact xM V W h X Y u m
 ·exact xM V W h X Y u m
theorem AR {q:Bool} (A:ee C tab E) (M:∀ g,bT P C.ty tab g (C.call g)) (h:Rel E s a w β Rt Ra) {c:Call} {f:Operand} (m:o.op = .call c) (u:c.callee = .value f) (j:eL C q o s κ=some r):eG P E o a w κ r:=by
 unfold eL at j;rw [m] at j;simp only [u] at j
 have N:=ck h f
 split at j
 ·rename_i g O
  rw [O] at N
  have z:a.eval f = .func (.func g) #[] #[]:=N
  cases hm:C.mv g with
  | true =>
   rw [hm,cond_true] at j
   exact GJ A M h m u z (ll j).2
  | false =>
   rw [hm,cond_false] at j
   exact xM A M h m u z j
 ·exact CM A M h m u j
 ·exact CM A M h m u j
 ·cases j
end
end Go.Proofs.Ab
namespace Go.Proofs.Ab
open Go
variable {R:Type}
section
variable {P:Program} {E:Env} {o:Oper} {s:St} {a:Act} {w:World} {β:Nat->Bl} {Rt Ra:Nat->Prop} {κ:St->Option R} {r:R} {C:Cfg R}
theorem sJ {t:Nat} {k e:LK} (h:Dn C t=some (k,e)):∃ T K V j m,C.ty t=some T/\T.agg=false/\T.lv=[.mp j m]/\C.ty j=some K/\C.ty m=some V/\K.agg=false/\V.agg=false/\K.lv=[k]/\V.lv=[e]/\k.flat=true/\e.flat=true:=by
 unfold Dn at h
 split at h
 ·rename_i T M
  obtain ⟨u,h⟩:=ll h
  split at h
  ·rename_i j m z
   split at h
   ·rename_i K V N O
    obtain ⟨f,h⟩:=ll h
    simp only [Bool.or_eq_false_iff] at f
    split at h
    ·rename_i W X U he
     obtain ⟨A,h⟩:=l9 h
     simp only [Bool.and_eq_true] at A
     cases h
     exact ⟨T,K,V,j,m,M,u,z,N,O,f.1,f.2,U,he,A.1,A.2⟩
    ·cases h
   ·cases h
  ·cases h
 ·cases h
theorem bytes_beq (x y:ByteArray):(x == y)=decide (x=y):=by
 obtain ⟨x⟩:=x
 obtain ⟨y⟩:=y
 show (x == y)=_
 rw [Bool.eq_iff_iff]
 simp
def jc:LK->TypeDesc
 | .int k => .int k
 | .bool => .bool
 | _ => .string
theorem Ai (f:Ok P C.ty) {t:Nat} {T:TI} {k:LK} (m:C.ty t=some T) (u:T.agg=false) (z:T.lv=[k]) (A:k.flat=true) (M:∀ j e,k ≠ .mp j e):P.underlying t=some (jc k):=by
 cases k <;> first|(cases A;done)|skip
 ·exact (f.ty t T m).int _ u z
 ·exact (f.ty t T m).bool u z
 ·exact (f.ty t T m).str u z
theorem zm {k:LK} (f:k.flat=true):∀ j e,k ≠ .mp j e:=fun j e h=>by subst h;cases f
theorem BS {c:Cx} {k:LK} (j:k.flat=true) {x:SV} {v:Value} (f:fits k x=true) (h:S2 c x v):FV k v (dG x):=by
 cases k <;> cases x <;> simp only [fits] at f <;> first|(cases f;done)|(cases j;done)|skip
 ·simp only [decide_eq_true_eq] at f;subst f;exact h
 ·exact h
 ·exact h
theorem BR {c:Cx} {k:LK} (f:k.flat=true) {v:Value} {a:AV} (h:FV k v a):S2 c (eta true k a) v:=by
 cases k <;> first|(cases f;done)|exact h
theorem El {k:LK} (f:k.flat=true) {v:Value} (h:zeroV k v):FV k v .no:=by
 cases k <;> first|(cases f;done)|exact h
theorem Fp {k:LK} (m:k.flat=true) {v u:Value} {x y:AV} (f:FV k v x) (j:FV k u y):Instr.sameNow (jc k) v u=some (oT k x y)/\(oT k x y=true->Instr.sameBits 10000 u v=true):=by
 cases k <;> first|(cases m;done)|skip
 ·have f:v=_:=f;have j:u=_:=j
  subst f;subst j
  refine ⟨?_,fun h => ?_⟩
  ·simp only [Instr.sameNow,jc,oT,if_true,Option.some.injEq]
   rw [Bool.eq_iff_iff];simp
  ·simp only [oT,decide_eq_true_eq] at h
   simp [Instr.sameBits,h]
 ·have f:v=_:=f;have j:u=_:=j
  subst f;subst j
  refine ⟨by simp [Instr.sameNow,jc,oT],fun h => ?_⟩
  simp only [oT,beq_iff_eq] at h
  simp [Instr.sameBits,h]
 ·have f:v=_:=f;have j:u=_:=j
  subst f;subst j
  refine ⟨?_,fun h => ?_⟩
  ·simp only [Instr.sameNow,jc,oT,bytes_beq]
  ·simp only [oT,decide_eq_true_eq] at h
   simp [Instr.sameBits,h,bytes_beq]
abbrev EV (k e:LK) (a:AV) (f:MapEntry):Prop:=FV k f.key (a.fld 0)/\FV e f.val (a.fld 1)
theorem lx {k e:LK} (X:k.flat=true) {v:Value} {x:AV} (A:FV k v x):∀ {l:List AV} {es:List MapEntry} (i:Nat),PW (EV k e) l es ->
  (Instr.findNow (jc k) v es i=some none/\iM k x l=none/\∀ z,gL k x z l=l++[.agg [x,z]]) ∨
  ∃ j u f a,Instr.findNow (jc k) v es i=some (some (i+j,u))/\iM k x l=some a/\FV e u a/\es[j]? = some f/\Instr.sameBits 10000 f.key v=true /\
   ∀ z m,FV e m z->PW (EV k e) (gL k x z l) (es.modify j fun f=>{ f with key:=v,val:=m })
 | [],[],i,_ => .inl ⟨rfl,rfl,fun _=>rfl⟩
 | y::l,f::es,i,h=>by
  obtain ⟨M,Y⟩:=Fp X A h.1.1
  cases hm:oT k x (y.fld 0) with
  | true =>
   refine .inr ⟨0,f.val,f,y.fld 1,?_,?_,h.1.2,rfl,Y hm,fun z m N => ?_⟩
   ·simp only [Instr.findNow,M,hm,Nat.add_zero]
   ·simp only [iM,hm,cond_true]
   ·simp only [gL,hm,cond_true,List.modify_zero_cons]
    exact ⟨⟨A,N⟩,h.2⟩
  | false =>
   rcases lx X A (i+1) h.2 with ⟨O,U,V⟩|⟨j,u,W,a,O,U,V,h4,h5,h6⟩
   ·refine .inl ⟨?_,?_,fun z => ?_⟩
    ·simp only [Instr.findNow,M,hm,O]
    ·simp only [iM,hm,cond_false,U]
    ·simp only [gL,hm,cond_false,V,cons_append]
   ·refine .inr ⟨j+1,u,W,a,?_,?_,V,by simpa using h4,h5,fun z m N => ?_⟩
    ·simp only [Instr.findNow,M,hm,O];congr 3;omega
    ·simp only [iM,hm,cond_false,U]
    ·simp only [gL,hm,cond_false,List.modify_succ_cons]
     exact ⟨h.1,h6 z m N⟩
 | [],_::_,_,h=>h.elim
 | _::_,[],_,h=>h.elim
theorem run_checkKey {k:LK} {j:Nat} (m:k.flat=true) (hu:P.underlying j=some (jc k)) {v:Value} {x:AV} (f:FV k v x) (b:Bool) (w:World):(Instr.checkKey b 10000 j v).run P w = .ok () w:=by
 show (Instr.checkKey b (9999+1) j v).run P w=_
 unfold Instr.checkKey
 simp only [Sem.run_bind,run_underlying hu,Result.andThen_ok]
 cases k <;> first|(cases m;done)|skip
 ·have f:v=_:=f
  subst f;simp [jc]
 ·have f:v=_:=f
  subst f;simp [jc]
 ·have f:v=_:=f
  subst f;simp [jc]
theorem run_findKey {k:LK} {f:Nat} (hu:P.underlying f=some (jc k)) {v:Value} {es:List MapEntry} {z:Option (Nat × Value)} (h:Instr.findNow (jc k) v es 0=some z) (w:World):(Instr.findKey f v es).run P w = .ok z w:=by
 unfold Instr.findKey
 simp only [Sem.run_bind,run_underlying hu,Result.andThen_ok,h,Sem.run_pure]
theorem ui {q:Bool} (M:Ok P C.ty) (h:Rel E s a w β Rt Ra) {t:Nat} (j:o.op = .makeMap t none) (f:eL C q o s κ=some r):eG P E o a w κ r:=by
 unfold eL at f;rw [j] at f;simp only at f
 obtain ⟨_,f⟩:=ll f
 split at f
 ·rename_i k e hm
  intro next Q u
  have z:=fQ w (.map #[] 0)
  refine eI (v := .map (some w.heap.size)) (w':=w.alloc (.map #[] 0)) ?_ (u _ _ _ f ?_)
  ·unfold execOp;rw [j]
   simp [Instr.makeMap]
  ·have A:=h.new z (.mp k e []) ⟨undef,w.heap.size,0,false⟩ (fun b m=>by simp [cu] at m;subst m;simp) (fun _=>⟨#[],0,heap_alloc_new w _,trivial⟩)
   refine ⟨_,_,_,A.put o.dst (x := .mp s.next) (dC (dR ⟨⟨_,by rw [fJ,if_pos rfl]⟩,?_⟩))⟩
   show _=Value.map (some (fj β s.next ⟨undef,w.heap.size,0,false⟩ s.next).b)
   unfold fj;rw [if_pos rfl]
 ·cases f
theorem DY {t:Nat} {T:TI} {k:LK} (u:TyOk P t T) (A:T.agg=false) (M:T.lv=[k]) (w:World):∃ z,(zeroValue t).run P w = .ok z w/\zeroV k z:=by
 obtain ⟨i,z,N,_,_,O,f,j⟩:=u.info
 have m:∀ cs,z ≠ .agg cs:=fun cs e=>by
  have:=j.1 ⟨cs,e⟩;rw [A] at this;cases this
 refine ⟨z,?_,?_⟩
 ·unfold zeroValue
  simp [typeInfo,N,O,Sem.run]
 ·rw [M] at f
  have:z.cells.toList=[z]:=by cases z <;> first|rfl|exact absurd rfl (m _)
  rw [this] at f;exact f.1
theorem vH {q:Bool} (hP:Ok P C.ty) (h:Rel E s a w β Rt Ra) {t:Nat} {x i:Operand} {ok:Bool} (ho:o.op = .lookup t x i ok) (M:eL C q o s κ=some r):eG P E o a w κ r:=by
 unfold eL at M;rw [ho] at M;simp only at M
 have hx:=ck h x
 have hi:=ck h i
 split at M
 ·rename_i k e m hm ex
  rw [ex] at hx
  obtain ⟨hd,W⟩:_/\a.eval x = .map (some (β m).b):=hx
  obtain ⟨T,K,V,kt,et,hT,ap,ar,hK,hV,ax,a1,a6,a7,A,N⟩:=sJ hm
  split at M
  ·rename_i k' e' l a8
   obtain ⟨hc,O⟩:=l9 M
   clear M
   simp only [Bool.and_eq_true,decide_eq_true_eq] at hc
   obtain ⟨⟨rfl,rfl⟩,X⟩:=hc
   obtain ⟨es,cl,hg,bb⟩:∃ es clock,w.heap[(β m).b]? = some (.map es clock)/\PW (EV k e) l es.toList:=h.objs m _ a8
   have Y:=BS A X hi
   have hu:=Ai hP hK ax a6 A (zm A)
   have ad:P.underlying t=some (.map kt et):=(hP.ty t T hT).map _ _ ap ar
   have ae:=run_checkKey A hu Y es.isEmpty w
   obtain ⟨z,hz,be⟩:=DY (hP.ty et V hV) a1 a7 w
   have main:∃ v b,(Instr.lookup t (a.eval x) (a.eval i) ok).run P w = .ok (if ok then .tuple #[v,.bool b] else v) w/\FV e v (iN k (dG (ev s i)) l)/\b=sM k (dG (ev s i)) l:=by
    rcases lx A Y 0 bb with ⟨h1,h2,_⟩|⟨j,u,en,y,h1,h2,h3,_⟩
    ·refine ⟨z,false,?_,?_,?_⟩
     ·unfold Instr.lookup
      rw [W]
      simp [run_underlying ad,getObj,Sem.run,hg,ae,run_findKey hu h1,hz]
     ·unfold iN;rw [h2];exact El N be
     ·unfold sM;rw [h2];rfl
    ·refine ⟨u,true,?_,?_,?_⟩
     ·unfold Instr.lookup
      rw [W]
      simp [run_underlying ad,getObj,Sem.run,hg,ae,run_findKey hu h1]
     ·unfold iN;rw [h2];exact h3
     ·unfold sM;rw [h2];rfl
   obtain ⟨v,b,f,U,rfl⟩:=main
   cases ok with
   | true =>
    rw [cond_true] at O
    refine eM h (x := .tup [eta true e (iN k (dG (ev s i)) l),.bool (sM k (dG (ev s i)) l)]) (v := .tuple #[v,.bool (sM k (dG (ev s i)) l)]) ⟨_,rfl,⟨?_,rfl,trivial⟩⟩ ?_ O
    ·have:=BR (c:=bI E s w β Rt Ra) N U
     revert this
     cases e <;> first|(cases N;done)|exact id
    ·unfold execOp;rw [ho];simp only [Bool.false_eq_true,if_true,if_false] at f;simp [f]
   | false =>
    rw [cond_false] at O
    refine eM h (x:=eta true e _) (v:=v) (BR N U) ?_ O
    unfold execOp;rw [ho];simp only [Bool.false_eq_true,if_true,if_false] at f;simp [f]
  ·cases M
 ·cases M
theorem pX {q:Bool} (hP:Ok P C.ty) (h:Rel E s a w β Rt Ra) {t:Nat} {x i v:Operand} (ho:o.op = .mapUpdate t x i v) (f:eL C q o s κ=some r):eG P E o a w κ r:=by
 unfold eL at f;rw [ho] at f;simp only at f
 obtain ⟨_,f⟩:=ll f
 have hx:=ck h x
 have hi:=ck h i
 have hv:=ck h v
 split at f
 ·rename_i k e m hm ex
  rw [ex] at hx
  obtain ⟨hd,X⟩:_/\a.eval x = .map (some (β m).b):=hx
  obtain ⟨T,K,V,kt,et,hT,a7,a8,hK,hV,bb,bP,be,bS,A,bk⟩:=sJ hm
  split at f
  ·rename_i k' e' l Y
   obtain ⟨hc,bs⟩:=l9 f
   clear f
   simp only [Bool.and_eq_true,decide_eq_true_eq] at hc
   obtain ⟨⟨rfl,rfl⟩,ad,U⟩:=hc
   obtain ⟨es,cl,hg,ae⟩:∃ es clock,w.heap[(β m).b]? = some (.map es clock)/\PW (EV k e) l es.toList:=h.objs m _ Y
   have W:=BS A ad hi
   have O:=BS bk U hv
   have hu:=Ai hP hK bb be A (zm A)
   have ap:P.underlying t=some (.map kt et):=(hP.ty t T hT).map _ _ a7 a8
   have ar:=run_checkKey A hu W false w
   have main:∃ M N,(Instr.mapUpdate t (a.eval x) (a.eval i) (a.eval v)).run P w = .ok () { w with heap:=w.heap.setIfInBounds (β m).b (.map M N) }/\PW (EV k e) (gL k (dG (ev s i)) (dG (ev s v)) l) M.toList:=by
    rcases lx A W 0 ae with ⟨h1,h2,h3⟩|⟨j,u,en,y,h1,h2,h3,h4,h5,h6⟩
    ·refine ⟨es.push { key:=a.eval i,val:=a.eval v,born:=cl },cl+1,?_,?_⟩
     ·unfold Instr.mapUpdate
      rw [X]
      simp [run_underlying ap,getObj,setObj,Sem.run,hg,ar,run_findKey hu h1]
     ·rw [h3]
      simpa using PW.append (l':=[.agg [dG (ev s i),dG (ev s v)]]) (m':=[{ key:=a.eval i,val:=a.eval v,born:=cl }]) ae ⟨⟨W,O⟩,trivial⟩
    ·have bx:es[j]? = some en:=by simpa using h4
     refine ⟨es.modify j fun en=>{ en with key:=a.eval i,val:=a.eval v },cl,?_,?_⟩
     ·unfold Instr.mapUpdate
      rw [X]
      simp [run_underlying ap,getObj,setObj,Sem.run,hg,ar,run_findKey hu h1,Instr.keyThatStays,bx,h5]
     ·rw [Array.toList_modify]
      exact h6 _ _ O
   obtain ⟨M,N,ax,a1⟩:=main
   intro next Q hn
   let w':World:={ w with heap:=w.heap.setIfInBounds (β m).b (.map M N) }
   refine wp_skip (v:=undef) rfl (w':=w') ?_ (hn _ _ _ bs ?_)
   ·unfold execOp;rw [ho]
    simp [ax,w']
   ·have a6:(β m).b<w.heap.size:=(Array.getElem?_eq_some_iff.mp hg).1
    have h2:=h.iD (w':=w') Y (.mp k e (gL k (dG (ev s i)) (dG (ev s v)) l)) ⟨rfl,rfl,rfl,by simp [w'],fun z _ hz=>by
     have:(β m).b≠z:=fun e=>hz (by simp [cu,e])
     simp [w',Array.getElem?_setIfInBounds,this]⟩ (fun z hz=>hz) (fun _=>⟨M,N,by
     show w'.heap[(β m).b]? = _
     simp [w',Array.getElem?_setIfInBounds,a6],a1⟩)
    exact ⟨_,_,_,h2.put o.dst (x := .undef) (dC (dR rfl))⟩
  ·cases f
 ·cases f
end
end Go.Proofs.Ab
namespace Go.Proofs.Ab
open Go
variable {R:Type}
theorem cf {α : Type} {b:Bool} {k:Option α} {r : α} (h:(bif b then k else none)=some r):b=true/\k=some r:=by
 cases b
 ·cases h
 ·exact ⟨rfl,h⟩
theorem fL {α : Type} {b:Bool} {k:Option α} {r : α} (h:(bif b then none else k)=some r):b=false/\k=some r:=by
 cases b
 ·exact ⟨rfl,h⟩
 ·cases h
theorem AN (w:World) (g n:Nat):Fr (fun b=>b=g) w (w.freeze ⟨g,0,none⟩ n):=by
 unfold World.freeze
 split
 ·exact Fr.refl _ w
 ·refine ⟨rfl,rfl,rfl,by simp,fun b _ f => ?_⟩
  simp only [Array.getElem?_modify]
  rw [if_neg (fun e=>f e.symm)]
section
variable {P:Program} {E:Env} {o:Oper} {s:St} {a:Act} {w:World} {β:Nat->Bl} {Rt Ra:Nat->Prop} {κ:St->Option R} {r:R} {C:Cfg R} {tab:cg}
theorem vM {t:Nat} {T:TI} (f:Ok P C.ty) (j:C.ty t=some T) (h:zA T=true):P.underlying t=some (.pointer T.elem):=by
 simp only [zA,Bool.and_eq_true,Bool.not_eq_true',decide_eq_true_eq] at h
 exact (f.ty t T j).ptr h.1.1 h.1.2 fun e=>by rw [e] at h;simp at h
theorem pY {q:Bool} (hP:Ok P C.ty) (h:Rel E s a w β Rt Ra) {c:Call} (ho:o.op = .call c) (hb:c.callee = .builtin .unsafeSliceData) {x:Operand} (hx:c.args.toList=[x]) (m:dV C q s o.dst .unsafeSliceData c.args.toList c.argTypes.toList o.type κ=some r):eG P E o a w κ r:=by
 rw [hx] at m;unfold dV at m;simp only at m
 have X:=ck h x
 have z:∀ (v u:Value) (w':World),a.eval x=v->(Builtin.unsafeSliceData_ c.argTypes o.type #[v]).run P w = .ok u w'->(execOp a.eval o).run P w = .ok (.value u) w':=by
  intro v u w' e Y
  rw [fU ho hb,vc hx]
  simp only [builtin,List.map_toArray,map_cons,List.map_nil,e,Sem.run_bind,Y];rfl
 unfold iu at m
 split at m
 ·rename_i e;rw [e] at X
  have ex:a.eval x = .slice none 0 0:=X
  exact cq h (x := .nilp) (v := .pointer none) rfl (z _ _ _ ex (Lib.run_unsafeSliceData_nil w c.argTypes o.type 0 0)) m
 ·rename_i t e
  rw [e] at X
  obtain ⟨hd,hv,_,A⟩:_/\a.eval x=_/\_/\(β t).arr=false:=X
  split at m
  ·rename_i el l st T ad hT
   obtain ⟨hp,m⟩:=cf m
   obtain ⟨D,cs,hD,a7,U,a8⟩:=h.objs t _ ad
   have N:a.eval x=(β t).v:=hv
   obtain ⟨_,ae⟩:=U
   rcases ae with ⟨j,hn⟩|⟨g,cap,ap,q',fz,j,ar,hg,bb,be,bk,_⟩
   ·refine cq h (x := .sdp t) (v := .pointer none) ⟨hd,none,rfl,fun g n cap M => ?_,A⟩ (z _ _ _ (N.trans j) (Lib.run_unsafeSliceData_nil w c.argTypes o.type 0 0)) m
    have f:(β t).v=_:=M
    rw [j] at f;cases f
   ·by_cases V:cap=0
    ·subst V
     have ax:q'=el:=ar A
     have a1:w.shape? g=some (el,ap.size):=by
      have a6:w.heap[g]? = _:=hg
      unfold World.shape?;rw [a6,ax]
     have Y:=Lib.run_unsafeSliceData_zero (P:=P) w c.argTypes o.type T.elem (vM hP hT hp) ⟨g,0,none⟩ l.length _ a1
     intro next Q O
     refine eI (z _ _ _ (N.trans j) Y) (O _ _ _ m ⟨β,Rt,Ra,(h.jO (fQ w _)).put o.dst (dC (dR ⟨hd,_,rfl,fun g' n W M hn => ?_,A⟩))⟩)
     have f:(β t).v=_:=M
     rw [j] at f;cases f;omega
    ·refine cq h (x := .sdp t) (v := .pointer (some ⟨g,0,none⟩)) ⟨hd,_,rfl,fun g' n W M _ => ?_,A⟩ (z _ _ _ (N.trans j) (Lib.run_unsafeSliceData_row w c.argTypes o.type _ _ _ V)) m
     have f:(β t).v=_:=M
     rw [j] at f;cases f;rfl
  ·cases m
 ·cases m
theorem byte_back {n:Int} (h:(decide (0<=n)&&decide (n<256))=true):((UInt8.ofNat n.toNat).toNat:Int)=n:=by
 simp only [Bool.and_eq_true,decide_eq_true_eq] at h
 have:(UInt8.ofNat n.toNat).toNat=n.toNat % 256:=by simp
 rw [this];omega
theorem mo {q:Bool} (hP:Ok P C.ty) (hE:E.T=C.ty) (h:Rel E s a w β Rt Ra) {c:Call} (ho:o.op = .call c) (hb:c.callee = .builtin .unsafeString) {x y:Operand} (hx:c.args.toList=[x,y]) (f:dV C q s o.dst .unsafeString c.args.toList c.argTypes.toList o.type κ=some r):eG P E o a w κ r:=by
 rw [hx] at f;unfold dV at f;simp only at f
 have hc:=ck h x
 have M:=ck h y
 unfold uU at f
 split at f
 ·rename_i pt it b1
  have b2:c.argTypes = #[pt,it]:=by apply Array.ext';simpa using b1
  have N:∀ (v v2 u:Value) (w':World),a.eval x=v->a.eval y=v2->(Builtin.unsafeString_ #[pt,it] o.type #[v,v2]).run P w = .ok u w'->(execOp a.eval o).run P w = .ok (.value u) w':=by
   intro v v2 u w' e e2 hr
   rw [fU ho hb,lU hx,b2]
   simp only [builtin,List.map_toArray,map_cons,List.map_nil,e,e2,Sem.run_bind,hr];rfl
  split at f
  ·rename_i k n e1 e2
   rw [e1] at hc;rw [e2] at M
   obtain ⟨O,f⟩:=cf f
   obtain ⟨hn,f⟩:=c9 f
   simp only [decide_eq_true_eq] at O hn
   subst O;subst hn
   exact cq h (x := .str ⟨#[]⟩) (v := .string .empty) rfl (N _ _ _ _ (show a.eval x = .pointer none from hc) (fg M) (Lib.run_unsafeString_none (P:=P) w pt it o.type none)) f
  ·rename_i t k n e1 e2
   rw [e1] at hc;rw [e2] at M
   obtain ⟨O,f⟩:=cf f
   simp only [decide_eq_true_eq] at O
   subst O
   split at f
   ·rename_i el l st U
    split at f
    ·rename_i B T hB hT
     obtain ⟨_,b3⟩:=cf f
     obtain ⟨V,b4⟩:=cf b3
     simp only [Bool.and_eq_true] at V
     obtain ⟨ad,b5,a1⟩:=V
     obtain ⟨hn,b'⟩:=c9 b4
     obtain ⟨be,bk⟩:=c9 b'
     replace hn:=of_decide_eq_true hn
     subst hn
     have a1:=Nat.eq_of_beq_eq_true a1
     simp only [isByte,Bool.and_eq_true,Bool.not_eq_true',decide_eq_true_eq] at ad
     obtain ⟨hd,p,hp,ca,bs⟩:_/\∃ p,a.eval x = .pointer p/\_/\(β t).arr=false:=hc
     obtain ⟨D,cs,hD,ei,ax,cl⟩:=h.objs t _ U
     have cp:D=B:=by have h':E.T el=some D:=hD;rw [hE,hB] at h';cases h';rfl
     subst cp
     have A:D.sz=1:=by unfold TI.sz;rw [ad.2];rfl
     have hh:=h.hole t
     by_cases hl:l=[]
     ·subst hl
      exact fun next Q m=>eI (N _ _ _ _ hp (fg M) (Lib.run_unsafeString_none (P:=P) w pt it o.type p)) (m _ _ _ bk ⟨β,Rt,Ra,hh.put o.dst (dC (dR (x := .str (fI [])) (v := .string .empty) rfl))⟩)
     ·have W:=ax
      obtain ⟨hlen,ct⟩:=ax
      rcases ct with ⟨_,hn⟩|⟨g,cap,bx,q',fz,a6,c0,hg,ek,en,ep,c',_⟩
      ·exact absurd (eq_nil_of_length_eq_zero hn) hl
      ·have bP:(β t).v=_:=a6
       have dg:=ca g l.length cap a6 (by intro e;exact hl (eq_nil_of_length_eq_zero e))
       subst dg
       have dr:q'=el:=c0 bs
       have d':w.shape? g=some (el,bx.size):=by
        have ea:w.heap[g]? = _:=hg
        unfold World.shape?;rw [ea,dr]
       let lb:List UInt8:=l.map fun a=>UInt8.ofNat a.i.toNat
       have ae:lb.length=l.length:=length_map ..
       have ap:P.cellsOf el=1:=by
        obtain ⟨i,z,hi,hs,_⟩:=(hP.ty el D hB).info
        unfold Program.cellsOf;rw [hi];simp [hs,A]
       have hr:=Lib.run_unsafeString_row (P:=P) w pt it o.type el (by rw [<- a1];exact vM hP hT b5) ap g bx.size d' lb (by simpa [lb] using hl) (by rw [ae,c',A];omega) (by rw [ae];have:maxLen=9223372036854775807:=rfl;omega) (fun j x hj=>by
        have X:j<l.length:=by rw [<- ae];exact (List.getElem?_eq_some_iff.1 hj).1
        rw [a6] at W
        have eb:∃ v,cs[j]? = some v:=⟨_,List.getElem?_eq_getElem (by rw [hlen,A];omega)⟩
        obtain ⟨v,hv⟩:=eb
        have bS:=cl j 0 (.int .u8) X (by rw [ad.2];rfl) v (by rw [A];simpa using hv)
        have bV:v = .int .u8 (lf D.agg (l.getD j .no) 0).i:=by cases bS;rfl
        rw [ad.1] at bV
        rw [add_plain,Nat.zero_add]
        have a7:=gm W j v hv
        have ar:w.cell? ⟨g,j,none⟩=some v:=a7
        rw [ar,bV]
        have hx:x=UInt8.ofNat (l.getD j .no).i.toNat:=by
         have a8:(l.map fun a=>UInt8.ofNat a.i.toNat)[j]? = some x:=hj
         rw [List.getElem?_map] at a8
         rw [List.getElem?_eq_getElem X] at a8
         rw [List.getD_eq_getElem?_getD,List.getElem?_eq_getElem X]
         simpa using a8.symm
        rw [hx,byte_back]
        ·rfl
        ·have:=List.all_eq_true.1 be (l[j]) (List.getElem_mem X)
         rw [List.getD_eq_getElem?_getD,List.getElem?_eq_getElem X]
         exact this)
       rw [ae] at hr
       have bb:g∈cu (β t) (.row el l st):=by simp [cu,bP,Value.ownBlock]
       have hw:=hh.world (AN w g l.length) fun b ed=>by
        subst ed
        refine ⟨(h.dc t _ U b bb).2.1,(h.dc t _ U b bb).2.2,fun t' o' Y b0 => ?_⟩
        rw [dX] at Y;split at Y
        ·rename_i e;subst e;rw [U] at Y;cases Y;cases b0
        ·rename_i e;exact h.apart t _ t' o' U Y (Ne.symm e) b bb b0
       exact fun next Q m=>eI (N _ _ _ _ hp (fg M) hr) (m _ _ _ bk ⟨β,Rt,Ra,hw.put o.dst (dC (dR (x := .str (fI l)) (v := .string ⟨lb.toArray⟩) rfl))⟩)
    ·cases f
   ·cases f
  ·cases f
 ·cases f
end
end Go.Proofs.Ab
namespace Go.Proofs.Ab
open Go
variable {R:Type}
theorem foldl_push:∀ (l:List AV) (s:ByteArray),(l.map (·.i)).foldl (fun r n=>r.push (UInt8.ofNat n.toNat)) s=⟨s.data++(l.map fun a=>UInt8.ofNat a.i.toNat).toArray⟩
 | [],s=>by simp
 | a::l,s=>by
  simp only [map_cons,foldl_cons]
  rw [foldl_push l]
  apply ByteArray.ext
  simp [ByteArray.push]
theorem D0 (l:List AV):(l.map (·.i)).foldl (fun r n=>r.push (UInt8.ofNat n.toNat)) ByteArray.empty=fI l:=by
 rw [foldl_push];unfold fI;apply ByteArray.ext;simp [ByteArray.empty,ByteArray.emptyWithCapacity];rfl
theorem nD {P:Program} {T:Nat->Option TI} (f:Ok P T) {e:Nat} {D:TI} (j:T e=some D) (h:isByte D=true):P.underlying e=some (.int .u8)/\D.agg=false/\D.lv=[.int .u8]/\D.sz=1:=by
 simp only [isByte,Bool.and_eq_true,Bool.not_eq_true',decide_eq_true_eq] at h
 exact ⟨(f.ty e D j).int _ h.1 h.2,h.1,h.2,by unfold TI.sz;rw [h.2];rfl⟩
section
variable {P:Program} {E:Env} {o:Oper} {s:St} {a:Act} {w:World} {β:Nat->Bl} {Rt Ra:Nat->Prop} {κ:St->Option R} {r:R} {C:Cfg R} {tab:cg}
theorem DO {T:Nat->Option TI} {w:World} {Q:Nat->Prop} {D:TI} {l:List AV} {cs:List Value} (h:RC T w Q D l cs) (z:cs.length=l.length*D.sz) (A:D.agg=false) (M:D.lv=[.int .u8]) (j:D.sz=1):cs=(l.map (·.i)).map (Value.int .u8):=by
 apply List.ext_getElem?
 intro i
 rw [List.map_map,List.getElem?_map]
 by_cases m:i<l.length
 ·have f:i<cs.length:=by rw [z,j];omega
  rw [List.getElem?_eq_getElem f,List.getElem?_eq_getElem m]
  have u:=h i 0 (.int .u8) m (by rw [M];rfl) cs[i] (by rw [j,Nat.mul_one,Nat.add_zero];exact List.getElem?_eq_getElem f)
  rw [A] at u
  have N:cs[i]=Value.int .u8 (l.getD i .no).i:=by
   generalize cs[i]=v at u
   cases u;rfl
  rw [N,List.getD_eq_getElem?_getD,List.getElem?_eq_getElem m];rfl
 ·rw [List.getElem?_eq_none (by rw [z,j];omega),List.getElem?_eq_none (by omega)];rfl
theorem pE (m:Ok P C.ty) (hE:E.T=C.ty) (h:Rel E s a w β Rt Ra) {f t e:Nat} {F T D:TI} (hF:C.ty f=some F) (hT:C.ty t=some T) (u:T.agg=false) (z:F.sl=true) (A:F.elem=e) (W:C.ty e=some D) (M:isByte D=true) (N:T.lv=[.str])
  {x:SV} {v:Value} (hx:S2 (bI E s w β Rt Ra) x v) (O:∀ b,x ≠ .str b) {l:List AV} {st:Bool} (ht:m5 s e D x=some (l,st)):(convert f t v).run P w = .ok (.string (fI l)) w:=by
 obtain ⟨X,b2,b3,Y⟩:=nD m W M
 obtain ⟨cs,h1,h2,_,h3⟩:=tz hE h W hx O ht
 have U:=(m.ty f F hF).slice z
 rw [A] at U
 have hd:=(m.ty t T hT).str u N
 rcases h3 with ⟨rfl,rfl⟩|⟨ad,c,rfl,hc⟩
 ·rw [run_convert_bytes_string w f t e _ _ _ U X hd];rfl
 ·rw [run_convert_bytes_string w f t e _ _ _ U X hd]
  have V:=DO h2 h1 b2 b3 Y
  have j:=run_loadCells_list (P:=P) w ad cs hc
  rw [h1,Y,Nat.mul_one,V] at j
  rw [run_bytesToString w ad l.length c (l.map (·.i)) j,D0]
theorem wl {w:World} {g q:Nat} {f:Array Value} {m:Nat × Nat} (u:w.heap[g]? = some (.cells f q m)):(markStringish (⟨g,0,none⟩:Addr)).run P w = .ok () (w.freeze ⟨g,f.size,none⟩ 1):=by
 have j:w.shape? g=some (q,f.size):=by unfold World.shape?;rw [u]
 unfold markStringish
 simp [j]
theorem AO {w:World} {g q:Nat} {f:Array Value} {j:Nat × Nat} (u:w.heap[g]? = some (.cells f q j)) (m:j=(0,0)∨j=(f.size,f.size+1)):(w.freeze ⟨g,f.size,none⟩ 1).heap[g]? = some (.cells f q (f.size,f.size+1)):=by
 unfold World.freeze
 rw [if_neg (by decide)]
 simp only [Array.getElem?_modify,if_true,u,Option.map_some]
 rcases m with rfl|rfl
 ·simp
 ·simp
theorem AU (X:Ok P C.ty) (hE:E.T=C.ty) (h:Rel E s a w β Rt Ra) {f t:Nat} {x:Operand} (ho:o.op = .convert f t x) {F T:TI} (hF:C.ty f=some F) (hT:C.ty t=some T) (be:F.agg=false) (Y:T.agg=false) (m:rY C s o.dst f t F T (ev s x) κ=some r):eG P E o a w κ r:=by
 have hc:=ck h x
 have A:∀ (v:Value) (w':World),(convert f t (a.eval x)).run P w = .ok v w'->(execOp a.eval o).run P w = .ok (.value v) w':=by
  intro v w' hr
  unfold execOp;rw [ho]
  simp only [Sem.run_bind,hr];rfl
 unfold rY at m
 split at m
 ·rename_i b e
  rw [e] at hc
  have ex:=jy hc
  obtain ⟨u,m⟩:=cf m
  simp only [Bool.and_eq_true,decide_eq_true_eq] at u
  split at m
  ·rename_i D N
   obtain ⟨ad,m⟩:=cf m
   obtain ⟨b1,b2,b3,b4⟩:=nD X N ad
   obtain ⟨bk,m⟩:=nU m
   have hb:b.size<=140737488355328:=by omega
   have hr:=Lib.run_convert_string_bytes (P:=P) w f t T.elem b ((X.ty f F hF).str be u.2) ((X.ty t T hT).slice u.1) b1
   have hg:kV w (Lib.bytesWorld w T.elem b):=by
    refine ⟨?_,?_,?_,by rw [Lib.bytesWorld_size];omega,fun j hj _=>Lib.bytesWorld_at_old w T.elem b j hj⟩
    all_goals (unfold Lib.bytesWorld World.freeze;rw [if_neg (by decide)];rfl)
   let cap:=grownCap w b.size 0 T.elem
   have bs:b.size<=cap:=grownCap_ge w b.size 0 T.elem
   have ae:(Lib.bytesCells w T.elem b).size=cap:=by
    have:b.data.size=b.size:=rfl
    simp [Lib.bytesCells];omega
   have M:fx (Lib.bytesWorld w T.elem b) false T.elem D.sz (.slice (some ⟨w.heap.size,0,none⟩) b.size cap) (eh b).length (b.data.toList.map fun x=>Value.int .u8 x.toNat):=by
    refine ⟨by rw [fm,b4,length_map,Nat.mul_one];rfl,.inr ⟨w.heap.size,cap,Lib.bytesCells w T.elem b,T.elem,_,by rw [fm],fun _=>rfl,Lib.bytesWorld_at_new w T.elem b,.inr rfl,by rw [fm];exact bs,grownCap_le_maxLen w b.size 0 T.elem (by have:maxLen=9223372036854775807:=rfl;omega),by rw [ae,b4,Nat.mul_one],?_⟩⟩
    rw [fm,b4,Nat.mul_one]
    have hl:(b.data.toList.map fun x=>Value.int .u8 x.toNat).length=b.size:=by rw [length_map];rfl
    rw [<- hl]
    unfold Lib.bytesCells
    rw [Array.toList_append,Array.toList_map]
    exact List.take_left
   intro next Q hn
   refine eI (A _ _ (by rw [ex];exact hr)) (hn _ _ _ m ?_)
   refine (h.jO hg).tP (by rw [hE];exact N) M ?_ (fun z hz => ?_) o.dst
   ·intro i j k hi O v U
    rw [b3] at O
    cases j with
    | succ j=>simp at O
    | zero =>
     simp only [List.getElem?_cons_zero,Option.some.injEq] at O;subst O
     rw [b4,Nat.mul_one,Nat.add_zero,List.getElem?_map] at U
     cases ap:b.data.toList[i]? with
     | none=>rw [ap] at U;cases U
     | some xb =>
      rw [ap] at U;simp only [Option.map_some,Option.some.injEq] at U;subst U
      have:lf D.agg ((eh b).getD i .no) 0 = .int xb.toNat:=by
       unfold lf;rw [b2];simp only [cond_false]
       unfold eh
       rw [List.getD_eq_getElem?_getD,List.getElem?_map,ap];rfl
      rw [this];exact .int .u8 (.int xb.toNat)
   ·have bx:z=w.heap.size:=by simpa [Value.ownBlock,eq_comm] using hz
    subst bx
    exact ⟨fun hr=>Nat.lt_irrefl _ (h.rlt _ hr),.inl h.fr.size,fun t o' bP bS=>Nat.lt_irrefl _ (h.dc t o' bP _ bS).1⟩
  ·cases m
 ·rename_i k e
  split at m
  ·rename_i el l st V
   split at m
   ·rename_i D N
    obtain ⟨u,m⟩:=cf m
    simp only [Bool.and_eq_true] at u
    have W:=Nat.eq_of_beq_eq_true u.2.1
    by_cases ar:T.lv=[.str]
    ·simp only [ar,decide_true,cond_true] at m
     have:=pE X hE h hF hT Y u.1 W N u.2.2 ar hc (by rw [e];intro b hb;cases hb) (l:=l) (st:=D.flat||st) (by rw [e];unfold m5;simp [zG,V])
     exact cq h (x := .str (fI l)) rfl (A _ _ this) m
    ·simp only [ar,decide_false,cond_false] at m
     obtain ⟨ax,bV⟩:=cf m
     obtain ⟨b0,b5⟩:=c9 bV
     have ax:=Nat.eq_of_beq_eq_true ax
     subst ax
     obtain ⟨b1,b2,b3,b4⟩:=nD X N u.2.2
     have hs:=(X.ty f F hF).slice u.1
     rw [W] at hs
     rw [e] at hc
     obtain ⟨hd,U,b',a8⟩:_/\a.eval x=(β k).v/\_/\(β k).arr=false:=hc
     obtain ⟨D',cs,ca,cl,M,cp⟩:=h.objs k _ V
     have M:fx w (β k).arr el D'.sz (β k).v l.length cs:=M
     obtain ⟨ct,c0⟩:=M
     rcases c0 with ⟨_,c'⟩|⟨g,cap,a1,q',fz,a6,dg,hg,dr,d',ea,eb,a7⟩
     ·have:=eq_nil_of_length_eq_zero c';subst this;cases b0
     ·have hr:(convert f f (a.eval x)).run P w = .ok (a.eval x) (w.freeze ⟨g,a1.size,none⟩ 1):=by
       rw [U,a6]
       simp [convert,run_underlying hs,run_underlying b1,wl hg]
      have ed:g∈cu (β k) (.row el l st):=by simp [cu,a6,Value.ownBlock]
      have ei:Fr (fun b=>b∈cu (β k) (.row el l st)) w (w.freeze ⟨g,a1.size,none⟩ 1):=by
       unfold World.freeze
       rw [if_neg (by decide)]
       refine ⟨rfl,rfl,rfl,by simp,fun b _ hn => ?_⟩
       simp only [Array.getElem?_modify]
       rw [if_neg (fun e=>hn (by rw [<- e];exact ed))]
      have h2:=h.iD V (.row el l st) ei (fun b hb=>hb) (fun le=>by
       refine ⟨D',cs,ca,cl,⟨ct,.inr ⟨g,cap,a1,q',_,a6,dg,AO hg dr,.inr rfl,d',ea,eb,a7⟩⟩,?_⟩
       exact cp.mono (fun b hq=>le.Q _ b hq) (fun b hq=>le.w _ b hq))
      intro next Q hn
      refine eI (A _ _ hr) (hn _ _ _ b5 ⟨_,_,_,h2.put o.dst (x := .own k) (dC (dR ⟨?_,U,b',a8⟩))⟩)
      show ∃ o',(s.setObj k (.row el l st)).obj k=some o'
      rw [dX,if_pos rfl,V];exact ⟨_,rfl⟩
   ·cases m
  ·cases m
 ·rename_i e
  obtain ⟨u,m⟩:=cf m
  simp only [Bool.and_eq_true,decide_eq_true_eq] at u
  split at m
  ·rename_i D N
   obtain ⟨ad,m⟩:=cf m
   have:=pE X hE h hF hT Y u.1 rfl N ad u.2 hc (by rw [e];intro b hb;cases hb) (l:=[]) (st:=true) (by rw [e];rfl)
   exact cq h (x := .str ⟨#[]⟩) rfl (A _ _ this) m
  ·cases m
 ·rename_i bb en ek
  split at m
  ·rename_i el l st hl
   split at m
   ·rename_i D N
    obtain ⟨u,m⟩:=cf m
    simp only [Bool.and_eq_true,decide_eq_true_eq] at u
    have W:=Nat.eq_of_beq_eq_true u.2.1
    have:=pE X hE h hF hT Y u.1 W N u.2.2.1 u.2.2.2 hc bb (l:=l) (st:=D.flat||st) (by
     unfold m5
     split
     ·exact absurd ‹_› ek
     ·exact absurd ‹_› (bb _)
     ·rw [hl];simp)
    exact cq h (x := .str (fI l)) rfl (A _ _ this) m
   ·cases m
  ·cases m
end
end Go.Proofs.Ab
namespace Go.Proofs.Ab
open Go
variable {R:Type}
section
variable {P:Program} {E:Env} {o:Oper} {s:St} {a:Act} {w:World} {β:Nat->Bl} {Rt Ra:Nat->Prop} {κ:St->Option R} {r:R} {C:Cfg R} {tab:cg}
theorem uf {q:Bool} (z:Ok P C.ty) (M:ee C tab E) (h:Rel E s a w β Rt Ra) {c:Call} {b:Builtin} (m:o.op = .call c) (u:c.callee = .builtin b) (A:dV C q s o.dst b c.args.toList c.argTypes.toList o.type κ=some r):eG P E o a w κ r:=by
 have f:=A
 unfold dV at A
 split at A
 ·rename_i x j;exact CO z h m u j f
 ·rename_i x y j;exact vG z M.T h m u j f
 ·rename_i x y j;exact CQ h m u j f
 ·rename_i x y j;exact CP h m u j f
 ·rename_i x j;exact pY z h m u j f
 ·rename_i x y j;exact mo z M.T h m u j f
 ·cases A
theorem oF {c:Cx}:∀ {xs:List SV} {vs:List Value} {j:List Nat},PW (S2 c) xs vs->zU xs=some j->(∀ t∈j,c.D t)/\vs=j.map fun t => .pointer (some ⟨(c.β t).b,0,none⟩)
 | [],[],_,_,h=>by cases h;exact ⟨fun t m=>(by cases m),rfl⟩
 | x::xs,v::vs,j,f,h=>by
  unfold zU at h
  split at h
  ·rename_i e;cases e
  ·rename_i t U e
   cases e
   split at h
   ·rename_i l z
    cases h
    obtain ⟨A,M⟩:=oF f.2 z
    obtain ⟨N,O⟩:c.D t/\v=_:=f.1
    refine ⟨fun u hu => ?_,?_⟩
    ·rcases List.mem_cons.1 hu with rfl|hu
     ·exact N
     ·exact A u hu
    ·rw [map_cons,<- M,O]
   ·cases h
  ·cases h
 | [],_::_,_,f,_=>f.elim
 | _::_,[],_,f,_=>f.elim
theorem ry {q:Bool} (h:Rel E s a w β Rt Ra) {g:Nat} {first captured:Array Operand} (A:o.op = .makeFunc (.func g) first captured) (f:eL C q o s κ=some r):eG P E o a w κ r:=by
 unfold eL at f;rw [A] at f;simp only at f
 cases q with
 | true=>cases f
 | false =>
 simp only [cond_false] at f
 cases m:first.isEmpty with
 | false=>rw [m] at f;cases f
 | true =>
  rw [m,cond_true] at f
  have u:first = #[]:=by simpa using m
  split at f
  ·rename_i j
   have z:captured = #[]:=by simpa using j
   refine eM (v := .func (.func g) #[] #[]) h (show S2 _ (.fn g) _ from rfl) ?_ f
   unfold execOp;rw [A,u,z];simp [Instr.makeFunc]
  ·rename_i x j
   have z:captured = #[x]:=by
    apply Array.ext';exact j
   split at f
   ·rename_i t O
    have M:=ck h x
    rw [O] at M
    obtain ⟨U,M⟩:_/\a.eval x=_:=M
    refine eM (v := .func (.func g) #[] #[a.eval x]) h (show S2 _ (.clo g t) _ from ⟨U,by rw [M]⟩) ?_ f
    unfold execOp;rw [A,u,z];simp [Instr.makeFunc]
   ·cases f
  ·split at f
   ·rename_i V N
    obtain ⟨W,X⟩:=oF (jF h captured.toList) N
    refine eM (v := .func (.func g) #[] (captured.map a.eval)) h (show S2 _ (.cls g V) _ from ⟨W,?_⟩) ?_ f
    ·congr 1
     apply Array.ext'
     rw [Array.toList_map];simpa using X
    ·unfold execOp;rw [A,u];simp [Instr.makeFunc]
   ·cases f
theorem sQ {q:Bool} (m:Ok P C.ty) (z:ee C tab E) (O:∀ g,bT P C.ty tab g (C.call g)) (h:Rel E s a w β Rt Ra) (u:eL C q o s κ=some r):eG P E o a w κ r:=by
 have j:=u
 unfold eL at u
 split at u
 ·exact sn h (.inl ‹_›) u
 ·exact sn h (.inr ‹_›) u
 ·exact AY h ‹_› j
 ·exact xP m z.T h ‹_› j
 ·exact CN h ‹_› j
 ·exact xR m h ‹_› j
 ·exact oR m z.T h ‹_› j
 ·exact AW m z.T h ‹_› j
 ·exact xW m z.T h ‹_› j
 ·exact rz h ‹_› j
 ·exact ry h ‹_› j
 ·exact ui m h ‹_› j
 ·exact vH m h ‹_› j
 ·exact pX m h ‹_› j
 ·exact xQ m h ‹_› j
 ·exact AZ h ‹_› j
 ·exact ug m h ‹_› (fun F T U V A M u=>AU m z.T h ‹_› U V A M u) j
 ·exact xV m z.T h ‹_› j
 ·exact pV m h ‹_› j
 ·exact xS m h ‹_› j
 ·exact pW m z.T h ‹_› j
 ·exact xT m z.T h ‹_› j
 ·exact uh h ‹_› j
 ·exact xU m h ‹_› j
 ·exact AX h ‹_› j
 ·rename_i c N
  split at u
  ·rename_i b W;exact uf m z h N W u
  ·rename_i f X;exact AR z O h N X j
  ·cases u
 ·cases u
end
end Go.Proofs.Ab
namespace Go.Proofs.Ab
open Go
variable {R:Type}
section
variable {P:Program} {E:Env} {o:Oper} {s:St} {a:Act} {w:World} {β:Nat->Bl} {Rt Ra:Nat->Prop} {κ:St->Option R} {r:R} {C:Cfg R} {tab:cg} {ops:Array Oper}
def yY (P:Program) (E:Env) (ops:Array Oper) (i:Nat) (a:Act) (w:World) (κ:St->Option R) (r:R):Prop:=
 ∀ (K:Act->World->Prop) (Q:Exit->Act->World->Prop),(∀ s' a' w',κ s'=some r->dj E s' a' w'->K a' w')->wpOp P ops Q i K a w
theorem Bv (l:List SV) (d:Nat):hH l d (fc l d)=l:=by
 induction l generalizing d with
 | nil=>rfl
 | cons x r f=>cases d with
  | zero=>rfl
  | succ d=>simp [hH,fc,f]
theorem wC {d:Nat} {x:SV} (h:s.get d=x):s.put (some d) x=s:=by
 subst h;show (⟨hH s.slots d (fc s.slots d),s.objs,s.next⟩:St)=s
 rw [Bv]
theorem eC {q:Bool} (o:Oper) (s:St) (κ:St->Option R):dq C q ops o s κ =
  match o.guard with
  | none=>eL C q o s κ
  | some (j,want)=>match xX ops j with
   | none=>none
   | some d=>match s.get d with
    | .undef=>κ (s.put o.dst .undef)
    | .bool t=>if t=want then eL C q o s κ else κ (s.put o.dst .undef)
    | _=>none:=by
 unfold dq
 cases o.guard with
 | none=>rfl
 | some g =>
  obtain ⟨j,want⟩:=g
  simp only
  cases xX ops j with
  | none=>rfl
  | some d =>
   simp only
   cases f:s.get d <;> try rfl
   rename_i t
   cases want <;> cases t <;> simp [wC f]
theorem vC (h:Rel E s a w β Rt Ra) {d:Nat} (f:s.get d ≠ .no):d<a.tmps.size:=by
 rw [<- h.len]
 refine Decidable.byContradiction fun j=>f ?_
 exact ue j
theorem u3 (h:Rel E s a w β Rt Ra) {j d:Nat} {t:Bool} (u:xX ops j=some d) (z:s.get d = .bool t):yielded ops a.tmps j=some t:=by
 have A:=h.slots d
 rw [z] at A
 have m:=o3 A
 have f:=vC h (d:=d) (by rw [z];simp)
 unfold yielded
 unfold xX at u
 rw [u]
 simp only [Option.bind_some]
 rw [Array.getD_eq_getD_getElem?,Array.getElem?_eq_getElem f] at m
 rw [Array.getElem?_eq_getElem f]
 simp only [Option.getD_some] at m
 rw [m]
theorem rI (h:Rel E s a w β Rt Ra) {j d:Nat} (u:xX ops j=some d) (z:s.get d = .undef):yielded ops a.tmps j=none:=by
 have A:=h.slots d
 rw [z] at A
 have m:a.tmps.getD d undef=undef:=A
 have f:=vC h (d:=d) (by rw [z];simp)
 unfold yielded
 unfold xX at u
 rw [u]
 simp only [Option.bind_some]
 rw [Array.getD_eq_getD_getElem?,Array.getElem?_eq_getElem f] at m
 rw [Array.getElem?_eq_getElem f]
 simp only [Option.getD_some] at m
 rw [m];rfl
theorem vF {i:Nat} (f:ops[i]? = some o) (hw:Region.wanted o (yielded ops a.tmps)=true) (h:eG P E o a w κ r):yY P E ops i a w κ r:=by
 intro K Q j
 unfold wpOp;rw [f];simp only [hw,if_true]
 exact .inl (h K Q j)
theorem pU {i:Nat} (f:ops[i]? = some o) (hw:Region.wanted o (yielded ops a.tmps)=false) (h:Rel E s a w β Rt Ra) (j:κ (s.put o.dst .undef)=some r):yY P E ops i a w κ r:=by
 intro K Q m
 unfold wpOp;rw [f];simp only [hw,Bool.false_eq_true,if_false]
 exact m _ _ _ j ⟨β,Rt,Ra,h.put o.dst (x := .undef) (v:=undef) rfl⟩
theorem gN {q:Bool} (z:Ok P C.ty) (A:ee C tab E) (M:∀ g,bT P C.ty tab g (C.call g)) (h:Rel E s a w β Rt Ra) {i:Nat} (u:ops[i]? = some o) (f:dq C q ops o s κ=some r):yY P E ops i a w κ r:=by
 rw [eC] at f
 split at f
 ·rename_i m
  exact vF u (by unfold Region.wanted;rw [m]) (sQ z A M h f)
 ·rename_i j want m
  split at f
  ·cases f
  ·rename_i d N
   split at f
   ·rename_i hu
    exact pU u (by unfold Region.wanted;rw [m];simp [rI h N hu]) h f
   ·rename_i t hu
    have hy:=u3 h N hu
    split at f
    ·rename_i e
     exact vF u (by unfold Region.wanted;rw [m];simp [hy,e]) (sQ z A M h f)
    ·rename_i e
     exact pU u (by unfold Region.wanted;rw [m];simp [hy,e]) h f
   ·cases f
theorem vE {i:Nat} (h:yY P E ops i a w κ r):∃ s' a' w',κ s'=some r/\dj E s' a' w':=by
 have f:=h (fun a' w'=>∃ s',κ s'=some r/\dj E s' a' w') (fun _ _ _=>False) fun s' a' w' j m=>⟨s',j,m⟩
 unfold wpOp at f
 split at f
 ·obtain ⟨s',g1,g2⟩:=f;exact ⟨s',_,_,g1,g2⟩
 ·split at f
  ·rcases f with f|f
   ·unfold Oper.wp at f
    generalize (execOp a.eval _).run P w=u at f
    cases u with
    | ok n w' =>
     cases n <;> simp only [Oper.upon] at f
     case value=>obtain ⟨s',g1,g2⟩:=f;exact ⟨s',_,_,g1,g2⟩
     case skip=>obtain ⟨s',g1,g2⟩:=f;exact ⟨s',_,_,g1,g2⟩
     case defer=>obtain ⟨s',g1,g2⟩:=f;exact ⟨s',_,_,g1,g2⟩
     case enter =>
      obtain ⟨e,z,fr,g,_⟩:=f []
      cases e with
      | returned v=>obtain ⟨s',g1,g2⟩:=g;exact ⟨s',_,_,g1,g2⟩
      | panicked c=>exact g.elim
      | outgrown=>obtain ⟨_,_,A⟩:=g;exact A.elim
     case row =>
      obtain ⟨v,z,g,_⟩:=f (Frame.enter P 0 #[] .normal) []
      obtain ⟨s',g1,g2⟩:=g;exact ⟨s',_,_,g1,g2⟩
    | halt x w'=>cases x <;> simp only [Oper.upon] at f
   ·exact f.2.elim fun _ h=>h.elim fun _ h=>h.elim
  ·obtain ⟨s',g1,g2⟩:=f;exact ⟨s',_,_,g1,g2⟩
theorem lF {q:Bool} (z:Ok P C.ty) (A:ee C tab E) (M:∀ g,bT P C.ty tab g (C.call g)) {Q:Exit->Act->World->Prop} (N:∀ s' a' w',κ s'=some r->dj E s' a' w'->Q .normal a' w') :
  ∀ (l:List Oper) (n:Nat) {s:St} {a:Act} {w:World},ops.toList.drop n=l->dj E s a w->e9 C q ops l s κ=some r->wpOps P ops Q (List.range' n l.length) a w
 | [],n,s,a,w,_,h,f=>by
  simp only [List.length_nil,List.range'_zero,wpOps];exact N s a w f h
 | o::l,n,s,a,w,O,⟨β,Rt,Ra,h⟩,f=>by
  have U:ops[n]? = some o:=by
   have:=congrArg (·[0]?) O
   simpa using this
  have j:ops.toList.drop (n+1)=l:=by
   rw [<- List.drop_drop,O];rfl
  simp only [List.length_cons,List.range'_succ]
  rw [wpOps_cons]
  refine gN z A M h U f _ _ fun s' a' w' m u => ?_
  exact lF z A M N l (n+1) j u m
theorem mM {q:Bool} (A:Ok P C.ty) (M:ee C tab E) (N:∀ g,bT P C.ty tab g (C.call g)):∀ (l:List Nat) {s:St} {a:Act} {w:World} {κ:St->Option R},(∀ i∈l,i<ops.size)->dj E s a w->e9 C q ops (l.filterMap (ops[·]?)) s κ=some r->∃ s' a' w',κ s'=some r/\dj E s' a' w'
 | [],s,a,w,κ,_,h,f=>⟨s,a,w,f,h⟩
 | i::l,s,a,w,κ,m,⟨β,Rt,Ra,h⟩,f=>by
  have O:ops[i]? = some (ops[i]'(m i (by simp))):=Array.getElem?_eq_getElem (m i (by simp))
  rw [List.filterMap_cons_some (by exact O)] at f
  obtain ⟨s',a',w',u,z⟩:=vE (gN A M N h O f)
  exact mM A M N l (fun j U=>m j (by simp [U])) z u
end
end Go.Proofs.Ab
namespace Go.Proofs.Ab
open Go
variable {R:Type}
section
variable {o:Oper} {s s':St} {C:Cfg R} {K K':St->Option R}
theorem U0 {lt:Bool} (M:cls lt o=0) (f:∀ x∈o.op.operands,ev s' x=ev s x) (z:∀ u,K (s.put o.dst u)=K' (s'.put o.dst u)):eL C true o s K=eL C true o s' K':=by
 unfold eL cls at *
 split at M <;> rename_i j <;> try (cases M;done)
 ·rename_i x;have m:=f x (by rw [j];simp [Op.operands]);simp only [j,m,z,cond_true]
 ·rename_i x;have m:=f x (by rw [j];simp [Op.operands]);simp only [j,m,z,cond_true]
 ·rename_i c x y
  have m:=f c (by rw [j];simp [Op.operands]);have N:=f x (by rw [j];simp [Op.operands]);have O:=f y (by rw [j];simp [Op.operands])
  simp only [j,m,N,O,z]
 ·rename_i x;have m:=f x (by rw [j];simp [Op.operands]);simp only [j,m,z,cond_true]
 ·rename_i x;have m:=f x (by rw [j];simp [Op.operands]);simp only [j,m,z,cond_true]
 ·rename_i x _;have m:=f x (by rw [j];simp [Op.operands]);simp only [j,m,z,cond_true]
 ·rename_i x _;have m:=f x (by rw [j];simp [Op.operands]);simp only [j,m,z,cond_true]
 ·rename_i x y
  have m:=f x (by rw [j];simp [Op.operands]);have N:=f y (by rw [j];simp [Op.operands])
  simp only [j,m,N,z]
 ·rename_i x _;have m:=f x (by rw [j];simp [Op.operands]);simp only [j,m,z,cond_true]
 ·rename_i x y _
  have m:=f x (by rw [j];simp [Op.operands]);have N:=f y (by rw [j];simp [Op.operands])
  simp only [j,m,N,z]
 ·rename_i t ps
  have m:ps.toList.map (fun p=>(p.1,ev s' p.2))=ps.toList.map (fun p=>(p.1,ev s p.2)):=
   map_congr_left fun p U=>by rw [f p.2 (by rw [j];simp [Op.operands];exact ⟨p.1,by simpa using U⟩)]
  simp only [j,m,z,cond_true]
 ·rename_i c
  split at M <;> rename_i A <;> try (first|(cases M;done)|(exfalso;revert M;cases lt <;> intro M <;> cases M;done))
  all_goals
   have m:∀ x∈c.args.toList,ev s' x=ev s x:=fun x V=>f x (by rw [j];simp [Op.operands,Call.operands,A];simpa using V)
   simp only [j,A]
   unfold dV
   generalize c.args.toList=l at m
   generalize c.argTypes.toList=W
   match l,m with
   | [],_=>rfl
   | [x],_=>rfl
   | [x,y],m=>simp only [m x (by simp),m y (by simp),z]
   | _::_::_::_,_=>rfl
theorem wj (C:Cfg R) (T:TI) (v:SV) (h:∀ k,tok v=some k->s'.obj k=s.obj k):loadAt C s' T v=loadAt C s T v:=by
 cases v <;> try rfl
 case ptr t off=>simp only [loadAt,h t rfl]
 case el t i off=>simp only [loadAt,h t rfl]
 case ap t n=>simp only [loadAt,h t rfl]
theorem sG (v:SV) (h:∀ k,tok v=some k->s'.obj k=s.obj k):mE s' v=mE s v:=by
 cases v <;> try rfl
 case own t=>simp only [mE,h t rfl]
theorem U1 {lt:Bool} (hc:cls lt o<=1) (hev:∀ x∈o.op.operands,ev s' x=ev s x) (hsame:∀ x∈o.op.operands,∀ k,tok (ev s x)=some k->s'.obj k=s.obj k) (hK:∀ u,K (s.put o.dst u)=K' (s'.put o.dst u)):eL C true o s K=eL C true o s' K':=by
 by_cases h0:cls lt o=0
 ·exact U0 h0 hev hK
 have hc1:cls lt o=1:=by omega
 unfold eL
 unfold cls at hc1
 split at hc1 <;> rename_i ho <;> try (cases hc1;done)
 ·rename_i t x
  have h1:=hev x (by rw [ho];simp [Op.operands])
  have h2:=hsame x (by rw [ho];simp [Op.operands])
  simp only [ho,h1,wj C _ _ h2,hK]
 ·rename_i t x i
  have h1:=hev x (by rw [ho];simp [Op.operands])
  have h2:=hsame x (by rw [ho];simp [Op.operands])
  have h3:=hev i (by rw [ho];simp [Op.operands])
  simp only [ho,h1,h3]
  cases C.ty t with
  | none=>rfl
  | some S =>
   simp only
   generalize S.sl=b
   cases b <;> simp only [hK,Bool.not_true,Bool.not_false,cond_true,cond_false] <;> cases hx:ev s x <;> rw [hx] at h2 <;> first
    | (simp only [h2 _ rfl];done)
    | (cases ph C S <;> cases C.ty S.elem <;> cases ev s i <;> first|rfl|simp only [h2 _ rfl])
 ·rename_i ty x lo hi mx
  cases mx with
  | some m=>simp only [ho]
  | none =>
   have h1:=hev x (by rw [ho];simp [Op.operands])
   have h2:=hsame x (by rw [ho];simp [Op.operands])
   have hl:=sG (s:=s) (s':=s') _ h2
   simp only [ho,h1]
   have hb:bounds s' (ev s x) lo hi=bounds s (ev s x) lo hi:=by
    unfold bounds
    rw [hl]
    cases mE s (ev s x) with
    | none=>rfl
    | some z =>
     cases lo with
     | none=>cases hi with
      | none=>rfl
      | some b=>simp only [hev b (by rw [ho];simp [Op.operands])]
     | some b=>cases hi with
      | none=>simp only [hev b (by rw [ho];simp [Op.operands])]
      | some d=>simp only [hev b (by rw [ho];simp [Op.operands]),hev d (by rw [ho];simp [Op.operands])]
   simp only [hb,hK]
   cases hx:ev s x <;> rw [hx] at h2 <;> first
    | rfl
    | simp only [h2 _ rfl]
 ·rename_i f t x
  have h1:=hev x (by rw [ho];simp [Op.operands])
  have h2:=hsame x (by rw [ho];simp [Op.operands])
  simp only [ho,h1]
  cases C.ty f with
  | none=>rfl
  | some F=>cases C.ty t with
   | none=>rfl
   | some T =>
    simp only
    cases !(!F.agg && !T.agg) with
    | true=>rfl
    | false =>
     simp only [cond_false]
     split <;> first|exact hK _|exact wD (fun k hk=>h2 k (by rw [hk];rfl)) hK
 ·rename_i c
  split at hc1 <;> rename_i hcal <;> try (first|(cases hc1;done)|(exfalso;revert hc1;cases lt <;> intro hc1 <;> cases hc1;done))
  all_goals
   have h1:∀ x∈c.args.toList,ev s' x=ev s x:=fun x hx=>hev x (by rw [ho];simp [Op.operands,Call.operands,hcal];simpa using hx)
   have h2:∀ x∈c.args.toList,∀ k,tok (ev s x)=some k->s'.obj k=s.obj k:=fun x hx=>hsame x (by rw [ho];simp [Op.operands,Call.operands,hcal];simpa using hx)
   simp only [ho,hcal]
   unfold dV
   generalize c.args.toList=l at h1 h2
   generalize c.argTypes.toList=ts
   match l,h1,h2 with
   | [],_,_=>rfl
   | [x],h1,h2 =>
    have a1:=h1 x (by simp)
    have a2:=h2 x (by simp)
    first
     | simp only [a1,sG _ a2,hK];done
     | (simp only [a1, iu]
        cases hx:ev s x <;> first
         | (rw [hx] at a2;simp only [a2 _ rfl,hK];done)
         | (simp only [hK];done)
         | rfl)
   | [_,_],_,_=>rfl
   | _::_::_::_,_,_=>rfl
end
end Go.Proofs.Ab
namespace Go.Proofs.Ab
open Go
variable {R:Type}
theorem jn:∀ (u:List SV) (ob:List (Nat × Obj)) (n:Nat),∃ j f n',∀ a,da ⟨a,ob,n⟩ u=(j,⟨a,f,n'⟩)
 | [],ob,n=>⟨[],ob,n,fun _=>rfl⟩
 | x::r,ob,n=>by
  by_cases m:∃ e l st,x = .fr e l st
  ·obtain ⟨e,l,st,rfl⟩:=m
   obtain ⟨j,f,n',h⟩:=jn r ((n,.row e l st)::ob) (n+1)
   refine ⟨.own n::j,f,n',fun a => ?_⟩
   rw [gD]
   show (SV.own n::(da ⟨a,(n,.row e l st)::ob,n+1⟩ r).1,(da ⟨a,(n,.row e l st)::ob,n+1⟩ r).2)=_
   rw [h a]
  ·obtain ⟨j,f,n',h⟩:=jn r ob n
   refine ⟨x::j,f,n',fun a => ?_⟩
   rw [io _ x r fun e l st z=>m ⟨e,l,st,z⟩,h a]
theorem kM (x:SV) (ob:List (Nat × Obj)) (n:Nat):∃ u f n',∀ a,eN ⟨a,ob,n⟩ x=(u,⟨a,f,n'⟩):=by
 rcases gS x with ⟨l,rfl⟩|m
 ·obtain ⟨z,f,n',h⟩:=jn l ob n
  exact ⟨.agg z,f,n',fun a=>by simp only [eN,h a]⟩
 ·obtain ⟨z,f,n',h⟩:=jn [x] ob n
  obtain ⟨u,hu,_⟩:=iq m ⟨[],ob,n⟩
  rw [h []] at hu
  refine ⟨u,f,n',fun a => ?_⟩
  obtain ⟨A,j,e⟩:=iq m ⟨a,ob,n⟩
  rw [h a] at j e
  simp only at hu j e
  rw [hu] at j;cases j
  exact e
theorem nO:∀ (xs:List SV) (ob:List (Nat × Obj)) (n:Nat),∃ f j n',∀ a,fD ⟨a,ob,n⟩ xs=(f,⟨a,j,n'⟩)
 | [],ob,n=>⟨[],ob,n,fun _=>rfl⟩
 | x::r,ob,n=>by
  obtain ⟨u,m,n1,A⟩:=kM x ob n
  obtain ⟨f,z,n2,M⟩:=nO r m n1
  exact ⟨u::f,z,n2,fun a=>by simp only [fD,A a,M a]⟩
theorem ky:∀ (xs back:List SV) (ob:List (Nat × Obj)) (n:Nat),(∀ a,fk ⟨a,ob,n⟩ xs back=none)∨∃ f n',∀ a,fk ⟨a,ob,n⟩ xs back=some ⟨a,f,n'⟩
 | [],[],ob,n => .inr ⟨ob,n,fun _=>rfl⟩
 | [],_::_,_,_ => .inl fun _=>rfl
 | x::r,u,ob,n=>by
  by_cases N:∃ t o,x = .ptr t o
  ·obtain ⟨t,o,rfl⟩:=N
   cases u with
   | nil=>exact .inl fun _=>rfl
   | cons y u =>
    by_cases hy:∃ ty m,y = .vp ty m
    ·obtain ⟨ty,m,rfl⟩:=hy
     obtain ⟨U,z,n1,O⟩:=jn m ob n
     rcases ky r u (z.map fun p=>bif Nat.beq t p.1 then (p.1,.var ty U) else p) n1 with A|⟨M,n2,A⟩
     ·refine .inl fun a => ?_
      rw [nc,O a];exact A a
     ·refine .inr ⟨M,n2,fun a => ?_⟩
      rw [nc,O a];exact A a
    ·refine .inl fun a => ?_
     cases y <;> first|rfl|exact absurd ⟨_,_,rfl⟩ hy
  ·have j:∀ t o,x ≠ .ptr t o:=fun t o e=>N ⟨t,o,e⟩
   rcases ky r u ob n with h|⟨f,n',h⟩
   ·exact .inl fun a=>by rw [j' _ j];exact h a
   ·exact .inr ⟨f,n',fun a=>by rw [j' _ j];exact h a⟩
theorem sq:∀ (j:List Nat) (ob:List (Nat × Obj)) (n:Nat),∃ f,∀ a,fZ j ⟨a,ob,n⟩=⟨a,f,n⟩
 | [],ob,n=>⟨ob,fun _=>rfl⟩
 | t::r,ob,n=>by
  obtain ⟨f,h⟩:=sq r (ob.map fun p=>bif Nat.beq t p.1 then (p.1,.hole) else p) n
  exact ⟨f,fun a=>h a⟩
section
variable {a b:List SV} {ob:List (Nat × Obj)} {n:Nat}
theorem pA (x:SV):gg ⟨a,ob,n⟩ x=gg ⟨b,ob,n⟩ x:=by cases x <;> rfl
theorem AQ (x:SV):mn ⟨a,ob,n⟩ x=mn ⟨b,ob,n⟩ x:=by cases x <;> rfl
theorem pD:∀ (l:List SV),gQ ⟨a,ob,n⟩ l=gQ ⟨b,ob,n⟩ l
 | []=>rfl
 | x::r=>by simp only [gQ,pA (a:=a) (b:=b) x,pD r]
theorem sk:∀ (l:List SV),jg ⟨a,ob,n⟩ l=jg ⟨b,ob,n⟩ l
 | []=>rfl
 | x::r=>by simp only [jg,AQ (a:=a) (b:=b) x,sk r]
theorem xC (x:SV):fE ⟨a,ob,n⟩ x=fE ⟨b,ob,n⟩ x:=by
 unfold fE
 split
 ·rw [pD (a:=a) (b:=b)]
 ·show (match St.obj ⟨b,ob,n⟩ _ with
   | some (.var ty f)=>match jg ⟨a,ob,n⟩ f with
    | some l=>some (SV.vp ty l)
    | none=>none
   | _=>none)=_
  simp only [sk (a:=a) (b:=b)]
  rfl
 ·exact pA _
theorem lk:∀ (l:List SV),eU ⟨a,ob,n⟩ l=eU ⟨b,ob,n⟩ l
 | []=>rfl
 | x::r=>by simp only [eU,xC (a:=a) (b:=b) x,lk r]
theorem o5:∀ (l:List SV),iT ⟨a,ob,n⟩ l=iT ⟨b,ob,n⟩ l
 | []=>rfl
 | x::r=>by
  by_cases f:∃ t o,x = .ptr t o
  ·obtain ⟨t,o,rfl⟩:=f
   simp only [iT,o5 r];rfl
  ·rw [uk (fun t o e=>f ⟨t,o,e⟩),uk (fun t o e=>f ⟨t,o,e⟩),o5 r]
theorem gA:∀ (l:List SV),cy ⟨a,ob,n⟩ l=cy ⟨b,ob,n⟩ l
 | []=>rfl
 | x::r=>by
  by_cases f:∃ t o,x = .ptr t o
  ·obtain ⟨t,o,rfl⟩:=f
   simp only [cy,gA r];rfl
  ·have j:∀ s:St,cy s (x::r)=cy s r:=by
    intro s;cases x <;> first|rfl|exact absurd ⟨_,_,rfl⟩ f
   rw [j,j,gA r]
end
section
variable {C:Cfg R} {K K':St->Option R}
theorem AB {d:Option Nat} {g:Nat} {xs:List Operand} {sl sl':List SV} {ob:List (Nat × Obj)} {n:Nat} (A:∀ x∈xs,ev ⟨sl',ob,n⟩ x=ev ⟨sl,ob,n⟩ x)
  (V:∀ u f n',K ((⟨sl,f,n'⟩:St).put d u)=K' ((⟨sl',f,n'⟩:St).put d u)):iG C true ⟨sl,ob,n⟩ d g xs K=iG C true ⟨sl',ob,n⟩ d g xs K':=by
 have he:xs.map (ev ⟨sl',ob,n⟩)=xs.map (ev ⟨sl,ob,n⟩):=map_congr_left A
 unfold iG kW pz lW
 simp only [append_nil]
 simp only [he]
 generalize Y:(bif C.xJ g then e7 (xs.map (ev ⟨sl,ob,n⟩))++rP (xs.map (ev ⟨sl,ob,n⟩)) else [])=fz
 cases fz with
 | cons t ts=>simp
 | nil =>
  simp only [gi,he]
  generalize xs.map (ev ⟨sl,ob,n⟩)=vs
  rw [o5 (a:=sl') (b:=sl),gA (a:=sl') (b:=sl),lk (a:=sl') (b:=sl)]
  generalize W:((true && !(([]:List Nat).isEmpty&&(cy ⟨sl,ob,n⟩ vs).isEmpty)) || !distinct (iT ⟨sl,ob,n⟩ vs)||(seen vs).any fun t=>(iT ⟨sl,ob,n⟩ vs).any (Nat.beq t))=M
  cases M with
  | true=>rfl
  | false =>
   simp only [cond_false]
   cases eU ⟨sl,ob,n⟩ vs with
   | none=>rfl
   | some cs =>
    simp only
    have N:cy ⟨sl,ob,n⟩ vs=[]:=by
     cases hg:cy ⟨sl,ob,n⟩ vs with
     | nil=>rfl
     | cons t ts=>rw [hg] at W;simp at W
    rw [N]
    refine congrArg (C.call g cs) (funext fun res => ?_)
    cases res with
    | nil=>rfl
    | cons v back =>
     simp only [fG]
     obtain ⟨O,X⟩:=sq (given vs) ob n
     rw [X sl,X sl']
     rcases ky vs back O n with j|⟨m,n2,j⟩
     ·rw [j sl,j sl']
     ·rw [j sl,j sl']
      simp only
      rcases qt v with ⟨l,rfl⟩|hv
      ·obtain ⟨us,U,n3,z⟩:=nO l m n2
       simp only [z sl,z sl']
       exact V _ _ _
      ·obtain ⟨u,U,n3,z⟩:=kM v m n2
       cases v <;> first
        | exact absurd rfl (hv _)
        | (simp only [z sl,z sl'];exact V _ _ _)
def Nm (ob:List (Nat × Obj)) (n:Nat):Prop:=∀ t o,lookup t ob=some o->t<n
def o0 (ob f:List (Nat × Obj)):Prop:=∀ t o,lookup t ob=some o->lookup t f=some o
def BK (C:Cfg R):Prop:=∀ g xs κ,kX xs=true->C.call g xs κ=none
theorem o0.refl (ob:List (Nat × Obj)):o0 ob ob:=fun _ _ h=>h
theorem o0.trans {a b c:List (Nat × Obj)} (h:o0 a b) (f:o0 b c):o0 a c:=fun t o j=>f t o (h t o j)
theorem zh {ob:List (Nat × Obj)} {n:Nat} (h:Nm ob n) (o:Obj):o0 ob ((n,o)::ob)/\Nm ((n,o)::ob) (n+1):=by
 refine ⟨fun t x f => ?_,fun t x f => ?_⟩
 ·have:=h t x f
  unfold lookup
  cases j:Nat.beq t n with
  | true=>have:=Nat.eq_of_beq_eq_true j;omega
  | false=>exact f
 ·unfold lookup at f
  cases j:Nat.beq t n with
  | true=>have:=Nat.eq_of_beq_eq_true j;omega
  | false=>rw [j] at f;have:=h t x f;omega
theorem kK:∀ (f:List SV) (ob:List (Nat × Obj)) (n:Nat),Nm ob n->∀ a,o0 ob (da ⟨a,ob,n⟩ f).2.objs/\Nm (da ⟨a,ob,n⟩ f).2.objs (da ⟨a,ob,n⟩ f).2.next
 | [],ob,n,h,a=>⟨o0.refl _,h⟩
 | x::r,ob,n,h,a=>by
  by_cases j:∃ e l st,x = .fr e l st
  ·obtain ⟨e,l,st,rfl⟩:=j
   rw [gD]
   obtain ⟨m,u⟩:=zh h (.row e l st)
   obtain ⟨z,A⟩:=kK r _ _ u a
   exact ⟨m.trans z,A⟩
  ·rw [io _ x r fun e l st M=>j ⟨e,l,st,M⟩]
   exact kK r ob n h a
theorem sU (x:SV) (ob:List (Nat × Obj)) (n:Nat) (h:Nm ob n) (a:List SV):o0 ob (eN ⟨a,ob,n⟩ x).2.objs/\Nm (eN ⟨a,ob,n⟩ x).2.objs (eN ⟨a,ob,n⟩ x).2.next:=by
 rcases gS x with ⟨l,rfl⟩|f
 ·exact kK l ob n h a
 ·obtain ⟨u,hu,e⟩:=iq f ⟨a,ob,n⟩
  rw [e]
  exact kK [x] ob n h a
theorem sS:∀ (xs:List SV) (ob:List (Nat × Obj)) (n:Nat),Nm ob n->∀ a,o0 ob (fD ⟨a,ob,n⟩ xs).2.objs/\Nm (fD ⟨a,ob,n⟩ xs).2.objs (fD ⟨a,ob,n⟩ xs).2.next
 | [],ob,n,h,a=>⟨o0.refl _,h⟩
 | x::r,ob,n,h,a=>by
  obtain ⟨u,f,n1,j⟩:=kM x ob n
  obtain ⟨m,z⟩:=sU x ob n h a
  rw [j a] at m z
  obtain ⟨A,M⟩:=sS r f n1 z a
  simp only [fD,j a]
  exact ⟨m.trans A,M⟩
theorem xD {s:St} {t o:Nat} {y:SV} (h:fE s (.ptr t o)=some y):∃ ty f,y = .vp ty f:=by
 cases o with
 | zero =>
  simp only [fE] at h
  split at h
  ·split at h
   ·cases h;exact ⟨_,_,rfl⟩
   ·cases h
  ·cases h
 | succ o=>simp [fE,gg] at h
theorem pC {s:St}:∀ {vs cs:List SV},eU s vs=some cs->kX cs=false->∀ x∈vs,∀ t o,x ≠ .ptr t o
 | [],_,_,_,x,f,_,_=>by cases f
 | v::vs,cs,h,j,x,f,t,o=>by
  unfold eU at h
  split at h
  ·rename_i y l u z
   cases h
   have m:kX l=false:=by
    cases y <;> first|exact j|(cases j)
   rcases List.mem_cons.1 f with rfl|f
   ·intro e;subst e
    obtain ⟨ty,A,rfl⟩:=xD u
    cases j
   ·exact pC z m x f t o
  ·cases h
theorem sm:∀ {vs:List SV},(∀ x∈vs,∀ t o,x ≠ .ptr t o)->given vs=[]
 | [],_=>rfl
 | x::r,h=>by
  have f:given r=[]:=sm fun y (hy:y∈r)=>h y (mem_cons_of_mem _ hy)
  cases x <;> first|exact f|exact absurd rfl (h _ mem_cons_self _ _)
theorem rR:∀ {vs:List SV} {s s2:St} {back:List SV},(∀ x∈vs,∀ t o,x ≠ .ptr t o)->fk s vs back=some s2->s2=s
 | [],s,s2,[],_,h=>by simp only [fk,Option.some.injEq] at h;exact h.symm
 | [],s,s2,_::_,_,h=>by simp [fk] at h
 | x::r,s,s2,back,f,h=>by
  rw [j' _ (f x (by simp))] at h
  exact rR (fun y hy=>f y (by simp [hy])) h
theorem vd (Y:BK C) {d:Option Nat} {g:Nat} {xs:List Operand} {sl sl':List SV} {ob:List (Nat × Obj)} {n:Nat} (O:∀ x∈xs,ev ⟨sl',ob,n⟩ x=ev ⟨sl,ob,n⟩ x)
  (hK:∀ u j n',(Nm ob n->o0 ob j/\Nm j n')->K ((⟨sl,j,n'⟩:St).put d u)=K' ((⟨sl',j,n'⟩:St).put d u)):iG C true ⟨sl,ob,n⟩ d g xs K=iG C true ⟨sl',ob,n⟩ d g xs K':=by
 have he:xs.map (ev ⟨sl',ob,n⟩)=xs.map (ev ⟨sl,ob,n⟩):=map_congr_left O
 unfold iG kW pz lW
 simp only [append_nil]
 simp only [he]
 generalize ad:(bif C.xJ g then e7 (xs.map (ev ⟨sl,ob,n⟩))++rP (xs.map (ev ⟨sl,ob,n⟩)) else [])=fz
 cases fz with
 | cons t ts=>simp
 | nil =>
  simp only [gi,he]
  generalize xs.map (ev ⟨sl,ob,n⟩)=vs
  rw [o5 (a:=sl') (b:=sl),gA (a:=sl') (b:=sl),lk (a:=sl') (b:=sl)]
  generalize hc:((true && !(([]:List Nat).isEmpty&&(cy ⟨sl,ob,n⟩ vs).isEmpty)) || !distinct (iT ⟨sl,ob,n⟩ vs)||(seen vs).any fun t=>(iT ⟨sl,ob,n⟩ vs).any (Nat.beq t))=U
  cases U with
  | true=>rfl
  | false =>
   simp only [cond_false]
   cases V:eU ⟨sl,ob,n⟩ vs with
   | none=>rfl
   | some cs =>
    simp only
    by_cases M:kX cs=true
    ·rw [Y g cs _ M,Y g cs _ M]
    have N:=pC V (by simpa using M)
    have W:cy ⟨sl,ob,n⟩ vs=[]:=by
     cases hg:cy ⟨sl,ob,n⟩ vs with
     | nil=>rfl
     | cons t ts=>rw [hg] at hc;simp at hc
    rw [W,sm N]
    refine congrArg (C.call g cs) (funext fun res => ?_)
    cases res with
    | nil=>rfl
    | cons v back =>
     simp only [fG,fZ]
     rcases ky vs back ob n with A|⟨f,n2,A⟩
     ·rw [A sl,A sl']
     ·have e2:=rR N (A sl)
      have:f=ob/\n2=n:=by
       have:=congrArg St.objs e2;have:=congrArg St.next e2;exact ⟨by assumption,by assumption⟩
      obtain ⟨rfl,rfl⟩:=this
      rw [A sl,A sl']
      simp only
      rcases qt v with ⟨l,rfl⟩|M
      ·obtain ⟨us,m,n3,z⟩:=nO l f n2
       simp only [z sl,z sl']
       refine hK _ _ _ fun X => ?_
       have:=sS l f n2 X sl
       rw [z sl] at this;exact this
      ·obtain ⟨u,m,n3,z⟩:=kM v f n2
       have hx:Nm f n2->o0 f m/\Nm m n3:=fun X=>by
        have:=sU v f n2 X sl
        rw [z sl] at this;exact this
       cases v <;> first
        | exact absurd rfl (M _)
        | (simp only [z sl,z sl'];exact hK _ _ _ hx)
end
end Go.Proofs.Ab
namespace Go.Proofs.Ab
open Go
variable {R:Type}
section
variable {o:Oper} {sl sl':List SV} {ob:List (Nat × Obj)} {n:Nat} {C:Cfg R} {K K':St->Option R}
theorem yg (C:Cfg R) (T:TI) (v:SV):loadAt C ⟨sl',ob,n⟩ T v=loadAt C ⟨sl,ob,n⟩ T v:=rfl
theorem v8 (v:SV):mE ⟨sl',ob,n⟩ v=mE ⟨sl,ob,n⟩ v:=rfl
theorem gC (k:Nat):(⟨sl',ob,n⟩:St).obj k=(⟨sl,ob,n⟩:St).obj k:=rfl
theorem BD (e:Nat) (T:TI) (v:SV):m5 ⟨sl',ob,n⟩ e T v=m5 ⟨sl,ob,n⟩ e T v:=rfl
theorem vz {s:St}:gi [] s=s:=rfl
theorem EP {ob:List (Nat × Obj)} {n k:Nat} (u:lookup k ob=none) (m:k<n) (h:Nm ob n) (o:Obj):o0 ob (ob++[(k,o)])/\Nm (ob++[(k,o)]) n:=by
 refine ⟨fun t x f=>by rw [im,f],fun t x f => ?_⟩
 rw [im] at f
 cases e:lookup t ob with
 | some y=>exact h t y e
 | none =>
  rw [e] at f
  by_cases j:t=k
  ·subst j;exact m
  ·simp [j] at f
theorem sK {d:Option Nat} {x:Obj} {f:Nat->SV} (m:∀ (x:Obj) u,K (((⟨sl,ob,n⟩:St).new x).put d u)=K' (((⟨sl',ob,n⟩:St).new x).put d u))
  (z:∀ k (x:Obj) u,lookup k ob=none->k<n->K (((⟨sl,ob,n⟩:St).newAt k x).put d u)=K' (((⟨sl',ob,n⟩:St).newAt k x).put d u)):kn C ⟨sl,ob,n⟩ d x f K=kn C ⟨sl',ob,n⟩ d x f K':=by
 unfold kn
 cases Nat.beq C.base 0 with
 | true=>exact m _ _
 | false =>
  simp only [cond_false]
  show (bif ((⟨sl,ob,n⟩:St).obj (C.base+d.getD 0)).isNone&&(Nat.blt (C.base+d.getD 0) n&&Nat.ble 64 C.base) then _ else none)=(bif ((⟨sl',ob,n⟩:St).obj (C.base+d.getD 0)).isNone&&(Nat.blt (C.base+d.getD 0) n&&Nat.ble 64 C.base) then _ else none)
  rw [gC (sl:=sl) (sl':=sl')]
  cases j:(((⟨sl,ob,n⟩:St).obj (C.base+d.getD 0)).isNone&&(Nat.blt (C.base+d.getD 0) n&&Nat.ble 64 C.base)) with
  | false=>rfl
  | true =>
   simp only [Bool.and_eq_true,Option.isNone_iff_eq_none,Nat.blt_eq] at j
   exact z _ _ _ j.1 j.2.1
theorem U2 {lt:Bool} (ae:lt=true->BK C) (A:∀ x∈o.op.operands,ev ⟨sl',ob,n⟩ x=ev ⟨sl,ob,n⟩ x)
  (hK:∀ u N n',(cls lt o<=1->N=ob/\n'=n)->(cls lt o<=2->Nm ob n->o0 ob N/\Nm N n')->K ((⟨sl,N,n'⟩:St).put o.dst u)=K' ((⟨sl',N,n'⟩:St).put o.dst u)):eL C true o ⟨sl,ob,n⟩ K=eL C true o ⟨sl',ob,n⟩ K':=by
 have O:∀ u,K ((⟨sl,ob,n⟩:St).put o.dst u)=K' ((⟨sl',ob,n⟩:St).put o.dst u):=fun u=>hK u ob n (fun _=>⟨rfl,rfl⟩) (fun _ h=>⟨o0.refl _,h⟩)
 by_cases hc:cls lt o=0
 ·exact U0 hc A O
 have X:∀ (Y:cls lt o=3) u N n',K ((⟨sl,N,n'⟩:St).put o.dst u)=K' ((⟨sl',N,n'⟩:St).put o.dst u):=fun Y u N n'=>hK u N n' (fun h=>by omega) (fun h=>by omega)
 have V:∀ (Y:cls lt o=2) (x:Obj) u,K (((⟨sl,ob,n⟩:St).new x).put o.dst u)=K' (((⟨sl',ob,n⟩:St).new x).put o.dst u):=fun Y x u=>hK u _ _ (fun h=>by omega) (fun _ h=>zh h x)
 cases j:o.op <;> (try (exfalso;apply hc;unfold cls;rw [j];done)) <;> (try (unfold eL;simp only [j];done))
 case makeMap t rr=>unfold eL;simp only [j];cases rr <;> rfl
 case mapUpdate t m i v=>unfold eL;simp only [j];rfl
 case lookup t x i ok =>
  have M:=A x (by rw [j];simp [Op.operands])
  have W:=A i (by rw [j];simp [Op.operands])
  unfold eL;simp only [j,M,W,gC (sl:=sl) (sl':=sl'),O]
 case makeFunc fn first captured =>
  unfold eL;simp only [j]
  cases fn <;> rfl
 case alloc t =>
  replace V:=V (by unfold cls;rw [j])
  have hA:∀ k (x:Obj) u,lookup k ob=none->k<n->K (((⟨sl,ob,n⟩:St).newAt k x).put o.dst u)=K' (((⟨sl',ob,n⟩:St).newAt k x).put o.dst u):=fun k x u hk hl=>hK u _ _ (fun h=>by rw [show cls lt o=2 by unfold cls;rw [j]] at h;omega) (fun _ h=>EP hk hl h x)
  unfold eL;simp only [j]
  cases C.ty t with
  | none=>rfl
  | some T =>
   simp only
   cases ph C T with
   | some k=>exact sK V hA
   | none =>
    simp only
    cases (T.lv.map kv).all stands with
    | true=>simp only [cond_true];exact sK V hA
    | false=>rfl
 case box t x =>
  replace V:=V (by unfold cls;rw [j])
  have M:=A x (by rw [j];simp [Op.operands])
  unfold eL;simp only [j,M]
  cases C.ty t with
  | none=>rfl
  | some T=>simp only;generalize (Nat.beq (leaves (ev ⟨sl,ob,n⟩ x)).length T.sz&&(leaves (ev ⟨sl,ob,n⟩ x)).all known)=c;cases c with|true=>exact V _ _|false=>rfl
 case buildSlice t m ps =>
  replace V:=V (by unfold cls;rw [j])
  have M:∀ p∈ps.toList,ev ⟨sl',ob,n⟩ p.2=ev ⟨sl,ob,n⟩ p.2:=fun p hp=>A p.2 (by rw [j];simp [Op.operands];exact ⟨p.1,by simpa using hp⟩)
  unfold eL;simp only [j]
  cases C.ty t with
  | none=>rfl
  | some S =>
   simp only
   cases S.sl with
   | false=>rfl
   | true =>
    simp only [Bool.not_true,cond_false]
    cases C.ty S.elem with
    | none=>rfl
    | some T =>
     simp only
     have e1:(ps.toList.flatMap fun p=>owns (leaves (ev ⟨sl',ob,n⟩ p.2)))=ps.toList.flatMap fun p=>owns (leaves (ev ⟨sl,ob,n⟩ p.2)):=by
      simp only [List.flatMap_def];rw [map_congr_left fun p hp=>by rw [M p hp]]
     rw [e1]
     generalize (ps.toList.flatMap fun p=>owns (leaves (ev ⟨sl,ob,n⟩ p.2)))=fz
     cases fz with
     | cons x r=>rfl
     | nil =>
      simp only [vz,List.isEmpty_nil,Bool.not_true,Bool.and_false,cond_false]
      rw [map_congr_left M]
      cases rowOf T (ps.toList.map fun p=>ev ⟨sl,ob,n⟩ p.2) with
      | none=>rfl
      | some p =>
       obtain ⟨l,st⟩:=p
       simp only
       generalize (Nat.beq l.length m&&decide (ps.toList.map (·.1)=List.range m)&&decide (m*T.sz<=1000000))=c
       cases c with|true=>exact V _ _|false=>rfl
 case load t x =>
  have M:=A x (by rw [j];simp [Op.operands])
  unfold eL;simp only [j,M,yg (sl:=sl) (sl':=sl'),O]
 case store t x v =>
  replace X:=X (by unfold cls;rw [j])
  have M:=A x (by rw [j];simp [Op.operands])
  have W:=A v (by rw [j];simp [Op.operands])
  unfold eL;simp only [j,M,W]
  cases C.ty t with
  | none=>rfl
  | some T =>
   simp only
   generalize hx:ev ⟨sl,ob,n⟩ x=ax at *
   cases ax <;> try rfl
   case ptr k off =>
    simp only [gC (sl:=sl) (sl':=sl')]
    cases (⟨sl,ob,n⟩:St).obj k with
    | none=>rfl
    | some z =>
     cases z <;> try rfl
     rename_i ty ls
     simp only
     generalize (Nat.beq (leaves (ev ⟨sl,ob,n⟩ v)).length T.sz&&(leaves (ev ⟨sl,ob,n⟩ v)).all known&&decide (off+T.sz<=ls.length))=c
     cases c with|true=>exact X _ _ _|false=>rfl
   case el k i off =>
    simp only
    generalize owns (leaves (ev ⟨sl,ob,n⟩ v))=fz
    cases fz with
    | cons y r=>rfl
    | nil =>
     simp only [vz,List.isEmpty_nil,Bool.not_true,Bool.and_false,cond_false,hx,M,W,gC (sl:=sl) (sl':=sl')]
     cases (⟨sl,ob,n⟩:St).obj k with
     | none=>rfl
     | some z =>
      cases z <;> try rfl
      rename_i e l st
      simp only
      cases C.ty e with
      | none=>rfl
      | some D =>
       simp only
       generalize (Nat.beq (leaves (ev ⟨sl,ob,n⟩ v)).length T.sz&&decide (off+T.sz<=D.sz)&&fitAll ((D.lv.drop off).take T.sz) (leaves (ev ⟨sl,ob,n⟩ v)))=c
       cases c with|true=>exact X _ _ _|false=>rfl
   case ap k n' =>
    simp only [gC (sl:=sl) (sl':=sl')]
    cases (⟨sl,ob,n⟩:St).obj k with
    | none=>rfl
    | some z =>
     cases z <;> try rfl
     rename_i e l st
     cases ph C T with
     | none=>rfl
     | some kk =>
      simp only
      generalize (Nat.beq e T.elem&&Nat.beq n' T.sz)=c
      cases c with
      | false=>rfl
      | true =>
       simp only [cond_true]
       generalize ev ⟨sl,ob,n⟩ v=y
       cases y <;> try rfl
       ·rename_i vs
        simp only
        cases fitAll T.lv vs with|true=>exact X _ _ _|false=>rfl
       ·rename_i e' m' l'
        simp only
        generalize (Nat.beq e' e&&Nat.beq m' T.sz)=c
        cases c with|true=>exact X _ _ _|false=>rfl
 case convert f t x =>
  have M:=A x (by rw [j];simp [Op.operands])
  unfold eL;simp only [j,M]
  cases C.ty f with
  | none=>rfl
  | some F=>cases C.ty t with
   | none=>rfl
   | some T =>
    simp only
    cases !(!F.agg && !T.agg) with
    | true=>rfl
    | false =>
     simp only [cond_false]
     split <;> first|exact O _|exact wD (fun k _=>gC k) O
 case indexAddr t x i =>
  have M:=A x (by rw [j];simp [Op.operands])
  have W:=A i (by rw [j];simp [Op.operands])
  unfold eL;simp only [j,M,W,gC (sl:=sl) (sl':=sl'),O]
 case slice t x lo hi mx =>
  cases mx with
  | some m=>unfold eL;simp only [j]
  | none =>
   have M:=A x (by rw [j];simp [Op.operands])
   have hb:bounds ⟨sl',ob,n⟩ (ev ⟨sl,ob,n⟩ x) lo hi=bounds ⟨sl,ob,n⟩ (ev ⟨sl,ob,n⟩ x) lo hi:=by
    unfold bounds
    rw [v8 (sl:=sl) (sl':=sl')]
    cases mE ⟨sl,ob,n⟩ (ev ⟨sl,ob,n⟩ x) with
    | none=>rfl
    | some z =>
     cases lo with
     | none=>cases hi with
      | none=>rfl
      | some b=>simp only [A b (by rw [j];simp [Op.operands])]
     | some b=>cases hi with
      | none=>simp only [A b (by rw [j];simp [Op.operands])]
      | some d=>simp only [A b (by rw [j];simp [Op.operands]),A d (by rw [j];simp [Op.operands])]
   unfold eL;simp only [j,M,hb,gC (sl:=sl) (sl':=sl'),O]
 case range t x =>
  replace V:=V (by unfold cls;rw [j])
  have M:=A x (by rw [j];simp [Op.operands])
  unfold eL;simp only [j,M]
  cases C.ty t with
  | none=>rfl
  | some T =>
   generalize ev ⟨sl,ob,n⟩ x=y
   cases y <;> try rfl
   simp only
   cases mA T with
   | false=>rfl
   | true=>exact V _ _
 case next x b=>cases b <;> unfold eL <;> simp only [j] <;> rfl
 case call c =>
  unfold eL;simp only [j]
  cases U:c.callee with
  | invoke x m=>rfl
  | value f =>
   have M:=A f (by rw [j];simp [Op.operands,Call.operands,U])
   simp only [M]
   generalize ev ⟨sl,ob,n⟩ f=y
   cases y <;> try rfl
   rename_i g
   dsimp only
   cases C.mv g with
   | true=>rfl
   | false =>
   simp only [cond_false]
   cases lt with
   | true=>exact vd (ae rfl) (fun x hx=>A x (by rw [j];simp [Op.operands,Call.operands,U];exact .inr (by simpa using hx))) fun u N n' h=>hK u N n' (fun ad=>by unfold cls at ad;simp [j,U] at ad) (fun _=>h)
   | false =>
    replace X:=X (by unfold cls;simp only [j,U];rfl)
    exact AB (fun x hx=>A x (by rw [j];simp [Op.operands,Call.operands,U];exact .inr (by simpa using hx))) X
  | builtin b =>
   simp only
   have M:∀ x∈c.args.toList,ev ⟨sl',ob,n⟩ x=ev ⟨sl,ob,n⟩ x:=fun x hx=>A x (by rw [j];simp [Op.operands,Call.operands,U];simpa using hx)
   unfold dV
   generalize c.args.toList=l at M
   generalize c.argTypes.toList=ts
   match l,M with
   | [],_=>cases b <;> rfl
   | [x],M =>
    have a1:=M x (by simp)
    cases b <;> try rfl
    case len=>simp only [a1,v8 (sl:=sl) (sl':=sl'),O]
    case unsafeSliceData=>simp only [a1,iu,gC (sl:=sl) (sl':=sl'),O]
   | [x,y],M =>
    have a1:=M x (by simp);have a2:=M y (by simp)
    cases b <;> try rfl
    case append =>
     simp only [a1,a2]
     split
     ·unfold tQ
      simp only [BD (sl:=sl) (sl':=sl'),cond_true]
     ·rfl
    case max=>simp only [a1,a2,O]
    case min=>simp only [a1,a2,O]
    case unsafeString =>
     replace X:=X (by unfold cls;simp only [j,U])
     have h3:∀ k u,K (((⟨sl,ob,n⟩:St).setObj k .hole).put o.dst u)=K' (((⟨sl',ob,n⟩:St).setObj k .hole).put o.dst u):=fun k u=>X u _ _
     simp only [a1,a2,uU,gC (sl:=sl) (sl':=sl'),O,h3]
   | _::_::_::_,_=>cases b <;> rfl
end
end Go.Proofs.Ab
namespace Go.Proofs.Ab
open Go
variable {R:Type}
section
variable {o:Oper} {s:St} {C:Cfg R} {K:St->Option R} {q:Bool} {r:R}
theorem B3 {op:BinOp} {k:IntKind} {x y:Int} {κ:SV->Option R} (h:Aw op k x y κ=some r):∃ v,∀ f:SV->Option R,Aw op k x y f=f v:=by
 cases op <;> simp only [Aw] at h ⊢ <;> first
  | exact ⟨_,fun _=>rfl⟩
  | (obtain ⟨j,_⟩:=c9 h;exact ⟨_,fun f=>by rw [j];rfl⟩)
  | cases h
theorem Ft {op:BinOp} {k:IntKind} {x y:Int} {κ:SV->Option R} (h:Hi op k x y κ=some r):∃ v,∀ f:SV->Option R,Hi op k x y f=f v:=by
 cases op <;> simp only [Hi] at h ⊢ <;> first
  | exact ⟨_,fun _=>rfl⟩
  | (obtain ⟨j,_⟩:=c9 h;exact ⟨_,fun f=>by rw [j];rfl⟩)
  | cases h
theorem B4 {op:BinOp} {x y:ByteArray} {κ:SV->Option R} (h:xu op x y κ=some r):∃ v,∀ f:SV->Option R,xu op x y f=f v:=by
 cases op <;> simp only [xu] at h ⊢ <;> first
  | exact ⟨_,fun _=>rfl⟩
  | (obtain ⟨j,_⟩:=c9 h;exact ⟨_,fun f=>by rw [j];rfl⟩)
  | cases h
theorem B5 {m:Nat} {lv:List LK} {op:BinOp} {x y:SV} {κ:SV->Option R} (h:Ax m lv op x y κ=some r):∃ v,∀ f:SV->Option R,Ax m lv op x y f=f v:=by
 unfold Ax at h ⊢
 split at h
 ·rename_i k a A b
  cases u:C4 op with
  | true =>
   rw [u] at h;simp only [cond_true] at h ⊢
   exact Ft h
  | false =>
   rw [u] at h;simp only [cond_false] at h ⊢
   obtain ⟨j,h⟩:=cf h
   rw [j];exact B3 h
 ·exact B4 h
 ·obtain ⟨j,h⟩:=cf h
  simp only [j,cond_true]
  split at h
  ·exact ⟨_,fun _=>rfl⟩
  ·exact ⟨_,fun _=>rfl⟩
  ·cases h
 ·obtain ⟨j,h⟩:=cf h
  simp only [j,cond_true]
  split at h
  ·rename_i z;exact ⟨_,fun _=>rfl⟩
  ·rename_i z;exact ⟨_,fun _=>rfl⟩
  ·cases h
 ·cases h
theorem FD {op:UnOp} {x:SV} {κ:SV->Option R} (h:Hu op x κ=some r):∃ v,∀ f:SV->Option R,Hu op x f=f v:=by
 unfold Hu at h ⊢
 split at h
 ·exact ⟨_,fun _=>rfl⟩
 ·exact ⟨_,fun _=>rfl⟩
 ·cases h
theorem fq {i n:Int} {k:Option R} (h:dW i n k=some r):(decide (0<=i)&&decide (i<n))=true/\k=some r:=c9 h
theorem lA {a b n:Int} {k:Option R} (h:ij a b n k=some r):(decide (0<=a)&&(decide (a<=b)&&decide (b<=n)))=true/\k=some r:=c9 h
theorem dS {b:Bool} (h:b=true) (k:Option R):bo b k=k:=by rw [h];rfl
theorem qx {agg:Bool} {sz:Nat} {i:Int} {κ:SV->Option R}:∀ {n:Nat} {l:List SV} {j:Nat},lH agg sz n l j i κ=some r->∃ v,∀ f:SV->Option R,lH agg sz n l j i f=f v
 | 0,_,_,h=>by cases h
 | n+1,l,j,h=>by
  unfold lH at h ⊢
  cases m:(i == (j:Int)) with
  | true =>
   rw [m] at h;simp only [cond_true] at h ⊢
   split at h
   ·rename_i v u;exact ⟨v,fun _=>rfl⟩
   ·cases h
  | false =>
   rw [m] at h;simp only [cond_false] at h ⊢
   exact qx h
theorem zR {lt:Bool} (hc:cls lt o<=1) (h:eL C true o s K=some r):∃ u,∀ K':St->Option R,eL C true o s K'=K' (s.put o.dst u):=by
 unfold eL at h ⊢
 cases ho:o.op <;> (try (exfalso;revert hc;unfold cls;rw [ho];simp;done)) <;> simp only [ho] at h ⊢
 case move x=>exact ⟨_,fun _=>rfl⟩
 case assign x=>exact ⟨_,fun _=>rfl⟩
 case pick c x y =>
  split at h
  ·rename_i t ht
   cases t with
   | true=>exact ⟨ev s x,fun _=>rfl⟩
   | false=>exact ⟨ev s y,fun _=>rfl⟩
  ·cases h
 case build t ps =>
  split at h
  ·rename_i T N
   by_cases hc:(T.agg&&(T.flds.isEmpty && !(Nat.beq T.elem 0)))=true
   ·simp only [N,hc,cond_true] at h ⊢
    split at h
    ·rename_i D hD
     split at h
     ·rename_i l Y;exact ⟨_,fun K'=>by first|rfl|simp only [hD,Y]⟩
     ·cases h
    ·cases h
   have ap:(T.agg&&(T.flds.isEmpty && !(Nat.beq T.elem 0)))=false:=by simpa using hc
   simp only [N,ap,cond_false] at h ⊢
   split at h
   ·rename_i l Y
    obtain ⟨M,h⟩:=cf h
    exact ⟨_,fun K'=>by first|rfl|(simp only [N,Y,M,cond_true];rfl)|simp only [N,Y,M,cond_true]⟩
   ·cases h
  ·cases h
 case load t x =>
  split at h
  ·rename_i T N
   split at h
   ·rename_i v hv;exact ⟨_,fun K'=>by first|rfl|(simp only [N,hv];rfl)|simp only [N,hv]⟩
   ·cases h
  ·cases h
 case nilCheck x =>
  split at h
  ·rename_i t n hx;exact ⟨_,fun K'=>by first|rfl|(simp only [hx];rfl)|simp only [hx]⟩
  ·rename_i e n l st hx;exact ⟨_,fun K'=>by first|rfl|(simp only [hx];rfl)|simp only [hx]⟩
  ·rename_i t off hx;exact ⟨_,fun K'=>by first|rfl|(simp only [hx];rfl)|simp only [hx]⟩
  ·rename_i t i off hx;exact ⟨_,fun K'=>by first|rfl|(simp only [hx];rfl)|simp only [hx]⟩
  ·rename_i e l st i off hx;exact ⟨_,fun K'=>by first|rfl|(simp only [hx];rfl)|simp only [hx]⟩
  ·cases h
 case binOp op t x y u =>
  cases hn:ur op (ev s x) (ev s y) with
  | true=>rw [hn] at h;cases h
  | false=>rw [hn] at h;obtain ⟨v,hv⟩:=B5 h;exact ⟨v,fun K'=>hv _⟩
 case unOp op t x =>
  obtain ⟨v,hv⟩:=FD h;exact ⟨v,fun K'=>hv _⟩
 case convert f t x =>
  split at h
  ·rename_i F T hF N
   obtain ⟨M,h⟩:=fL h
   split at h
   ·rename_i z A W;exact ⟨_,fun K'=>by first|rfl|(simp only [M,cond_false,hF,N,z,A,W];rfl)|simp only [M,cond_false,hF,N,z,A,W]⟩
   ·rename_i z A W;exact ⟨_,fun K'=>by first|rfl|(simp only [M,cond_false,hF,N,z,A,W];rfl)|simp only [M,cond_false,hF,N,z,A,W]⟩
   ·rename_i z A W;exact ⟨_,fun K'=>by first|rfl|(simp only [M,cond_false,hF,N,z,A,W];rfl)|simp only [M,cond_false,hF,N,z,A,W]⟩
   ·simp only [cond_true] at h
    obtain ⟨u,hu⟩:=DF h
    refine ⟨u,fun K' => ?_⟩
    simp only [M,cond_false]
    exact hu K'
  ·cases h
 case slice t x lo hi mx =>
  cases mx with
  | some m=>cases h
  | none =>
   simp only at h ⊢
   split at h
   ·rename_i T a b N hb
    obtain ⟨M,h⟩:=fL h
    split at h
    ·rename_i bs e
     rw [e] at M
     obtain ⟨U,h⟩:=lA h
     exact ⟨_,fun K'=>by first|rfl|(simp only [N,hb,M,cond_false,e,ij,dS U];rfl)|simp only [N,hb,M,cond_false,e,ij,dS U]⟩
    ·rename_i el l st e
     rw [e] at M
     obtain ⟨O,h⟩:=cf h
     obtain ⟨U,h⟩:=lA h
     exact ⟨_,fun K'=>by first|rfl|(simp only [N,hb,M,O,cond_true,cond_false,e,ij,dS U];rfl)|simp only [N,hb,M,O,cond_true,cond_false,e,ij,dS U]⟩
    ·rename_i k e
     rw [e] at M
     split at h
     ·rename_i el l st V
      obtain ⟨O,h⟩:=cf h
      obtain ⟨U,h⟩:=lA h
      exact ⟨_,fun K'=>by first|rfl|(simp only [N,hb,M,O,V,cond_true,cond_false,e,ij,dS U];rfl)|simp only [N,hb,M,O,V,cond_true,cond_false,e,ij,dS U]⟩
     ·cases h
    ·cases h
   ·cases h
 case fieldAddr st x f =>
  split at h
  ·rename_i T N
   split at h
   ·rename_i z A
    obtain ⟨M,h⟩:=fL h
    exact ⟨_,fun K'=>by first|rfl|(simp only [N,z,A,M,cond_false];rfl)|simp only [N,z,A,M,cond_false]⟩
   ·rename_i z A
    obtain ⟨M,h⟩:=fL h
    exact ⟨_,fun K'=>by first|rfl|(simp only [N,z,A,M,cond_false];rfl)|simp only [N,z,A,M,cond_false]⟩
   ·rename_i z A
    obtain ⟨M,h⟩:=fL h
    exact ⟨_,fun K'=>by first|rfl|(simp only [N,z,A,M,cond_false];rfl)|simp only [N,z,A,M,cond_false]⟩
   ·cases h
  ·cases h
 case field st x f =>
  split at h
  ·rename_i T N
   split at h
   ·rename_i z A
    split at h
    ·rename_i v hv
     obtain ⟨M,h⟩:=cf h
     exact ⟨_,fun K'=>by first|rfl|(simp only [N,z,A,hv,M,cond_true];rfl)|simp only [N,z,A,hv,M,cond_true]⟩
    ·cases h
   ·cases h
  ·cases h
 case indexAddr t x i =>
  split at h
  ·rename_i S hS
   by_cases ad:S.sl=false
   ·simp only [hS,ad,Bool.not_false,cond_true] at h ⊢
    split at h
    ·rename_i z A W
     split at h
     ·rename_i el l st V
      obtain ⟨O,h⟩:=cf h
      obtain ⟨U,h⟩:=fq h
      exact ⟨_,fun K'=>by first|rfl|(simp only [z,A,W,V,O,cond_true,dW,dS U];rfl)|simp only [z,A,W,V,O,cond_true,dW,dS U]⟩
     ·cases h
    ·rename_i z A W
     obtain ⟨O,h⟩:=cf h
     obtain ⟨U,h⟩:=fq h
     exact ⟨_,fun K'=>by first|rfl|(simp only [z,A,W,O,cond_true,dW,dS U];rfl)|simp only [z,A,W,O,cond_true,dW,dS U]⟩
    ·cases h
   have M:(!S.sl)=false:=by simpa using ad
   simp only [M,cond_false] at h
   split at h
   ·rename_i T k j N hj
    split at h
    ·rename_i tt e
     split at h
     ·rename_i el l st V
      obtain ⟨O,h⟩:=cf h
      obtain ⟨U,h⟩:=fq h
      exact ⟨_,fun K'=>by first|rfl|(simp only [hS,M,cond_false,N,hj,e,V,O,cond_true,dW,dS U];rfl)|simp only [hS,M,cond_false,N,hj,e,V,O,cond_true,dW,dS U]⟩
     ·cases h
    ·rename_i tt lo hi e
     split at h
     ·rename_i el l st V
      obtain ⟨O,h⟩:=cf h
      obtain ⟨U,h⟩:=fq h
      exact ⟨_,fun K'=>by first|rfl|(simp only [hS,M,cond_false,N,hj,e,V,O,cond_true,dW,dS U];rfl)|simp only [hS,M,cond_false,N,hj,e,V,O,cond_true,dW,dS U]⟩
     ·cases h
    ·rename_i el l st e
     obtain ⟨O,h⟩:=cf h
     obtain ⟨U,h⟩:=fq h
     exact ⟨_,fun K'=>by first|rfl|(simp only [hS,M,cond_false,N,hj,e,O,cond_true,dW,dS U];rfl)|simp only [hS,M,cond_false,N,hj,e,O,cond_true,dW,dS U]⟩
    ·cases h
   ·cases h
  ·cases h
 case index t x i =>
  split at h
  ·rename_i z A W
   obtain ⟨O,h⟩:=cf h
   obtain ⟨U,h⟩:=fq h
   exact ⟨_,fun K'=>by first|rfl|(simp only [z,A,W,O,cond_true,dW,dS U];rfl)|simp only [z,A,W,O,cond_true,dW,dS U]⟩
  ·rename_i z A W
   split at h
   ·rename_i k hk
    obtain ⟨O,h⟩:=cf h
    obtain ⟨U,h⟩:=fq h
    exact ⟨_,fun K'=>by first|rfl|(simp only [z,A,W,hk,O,cond_true,dW,dS U];rfl)|simp only [z,A,W,hk,O,cond_true,dW,dS U]⟩
   ·cases h
  ·rename_i z A W
   obtain ⟨M,h⟩:=cf h
   split at h
   ·rename_i D hD
    obtain ⟨O,h⟩:=cf h
    obtain ⟨v,hv⟩:=qx h
    exact ⟨v,fun K'=>by simp only [z,A,W,M,hD,O,cond_true,hv]⟩
   ·cases h
  ·cases h
 case extract x j =>
  split at h
  ·rename_i e
   obtain ⟨O,h⟩:=cf h
   exact ⟨_,fun K'=>by first|rfl|(simp only [e,O,cond_true];rfl)|simp only [e,O,cond_true]⟩
  ·cases h
 case call c =>
  cases X:c.callee with
  | invoke x m=>rw [X] at h;cases h
  | value f=>exfalso;revert hc;unfold cls;cases lt <;> simp [ho,X]
  | builtin b =>
   rw [X] at h;simp only at h ⊢
   unfold dV at h ⊢
   split at h
   ·rename_i x Y
    split at h
    ·rename_i t ts ae
     split at h
     ·rename_i z A
      obtain ⟨O,h⟩:=cf h
      exact ⟨_,fun K'=>by first|rfl|(simp only [Y,ae,z,A,O,cond_true];rfl)|simp only [Y,ae,z,A,O,cond_true]⟩
     ·cases h
    ·cases h
   ·exfalso;revert hc;unfold cls;simp [ho,X]
   ·rename_i Y
    split at h
    ·rename_i z A;exact ⟨_,fun K'=>by first|rfl|(simp only [Y,z,A];rfl)|simp only [Y,z,A]⟩
    ·cases h
   ·rename_i Y
    split at h
    ·rename_i z A;exact ⟨_,fun K'=>by first|rfl|(simp only [Y,z,A];rfl)|simp only [Y,z,A]⟩
    ·cases h
   ·rename_i x Y
    unfold iu at h ⊢
    split at h
    ·rename_i e;exact ⟨_,fun K'=>by first|rfl|(simp only [e];rfl)|simp only [e]⟩
    ·rename_i t e
     split at h
     ·rename_i z A
      obtain ⟨O,h⟩:=cf h
      exact ⟨_,fun K'=>by first|rfl|(simp only [e,z,A,O,cond_true];rfl)|simp only [e,z,A,O,cond_true]⟩
     ·cases h
    ·cases h
   ·exfalso;revert hc;unfold cls;simp [ho,X]
   ·cases h
end
end Go.Proofs.Ab
namespace Go.Proofs.Ab
open Go
variable {R:Type}
theorem Bu (l:List SV) {i j:Nat} (h:i≠j) (u v:SV):hH (hH l i u) j v=hH (hH l j v) i u:=by
 induction l generalizing i j with
 | nil=>rfl
 | cons x r f =>
  cases i with
  | zero=>cases j with
   | zero=>exact absurd rfl h
   | succ j=>rfl
  | succ i=>cases j with
   | zero=>rfl
   | succ j=>simp only [hH];rw [f (by omega)]
theorem put_comm (s:St) {d f:Option Nat} (h:∀ x,d=some x->f≠some x) (u v:SV):(s.put d u).put f v=(s.put f v).put d u:=by
 cases d with
 | none=>rfl
 | some i=>cases f with
  | none=>rfl
  | some j =>
   have:i≠j:=fun e=>h i rfl (by rw [e])
   simp only [St.put];rw [Bu _ this]
section
variable {ops:Array Oper} {o x y:Oper} {s s':St} {sl sl':List SV} {ob:List (Nat × Obj)} {n:Nat} {C:Cfg R} {K K':St->Option R} {r:R}
theorem wk {t:Nat} (h:Operand.tmp t∈o.op.operands):t∈looks ops.toList o:=by
 unfold looks
 refine mem_append_left _ (List.mem_filterMap.2 ⟨.tmp t,by simpa using h,rfl⟩)
theorem iK {j d:Nat} {b:Bool} (h:o.guard=some (j,b)) (f:xX ops j=some d):d∈looks ops.toList o:=by
 unfold looks
 refine mem_append_right _ ?_
 rw [h];unfold xX at f
 simp [f]
theorem CF (h:∀ t∈looks ops.toList o,s'.get t=s.get t):∀ x∈o.op.operands,ev s' x=ev s x:=by
 intro x f
 cases x with
 | tmp t=>exact h t (wk f)
 | const v=>unfold ev;split <;> first|rfl|contradiction
 | _=>rfl
theorem V2 {lt:Bool} (m:lt=true->BK C) (h:∀ t∈looks ops.toList o,fc sl' t=fc sl t)
  (z:∀ u f n',(cls lt o<=1->f=ob/\n'=n)->(cls lt o<=2->Nm ob n->o0 ob f/\Nm f n')->K ((⟨sl,f,n'⟩:St).put o.dst u)=K' ((⟨sl',f,n'⟩:St).put o.dst u)):dq C true ops o ⟨sl,ob,n⟩ K=dq C true ops o ⟨sl',ob,n⟩ K':=by
 have hu:=U2 (C:=C) m (CF (s:=⟨sl,ob,n⟩) (s':=⟨sl',ob,n⟩) h) z
 rw [eC,eC]
 cases A:o.guard with
 | none=>exact hu
 | some g =>
  obtain ⟨j,want⟩:=g
  simp only
  cases M:xX ops j with
  | none=>rfl
  | some d =>
   have e:(⟨sl',ob,n⟩:St).get d=(⟨sl,ob,n⟩:St).get d:=h d (iK A M)
   simp only [e]
   cases (⟨sl,ob,n⟩:St).get d <;> try rfl
   ·exact z _ _ _ (fun _=>⟨rfl,rfl⟩) (fun _ h=>⟨o0.refl _,h⟩)
   ·simp only
    split
    ·exact hu
    ·exact z _ _ _ (fun _=>⟨rfl,rfl⟩) (fun _ h=>⟨o0.refl _,h⟩)
theorem V0 {lt:Bool} (m:cls lt o=0) (h:∀ t∈looks ops.toList o,s'.get t=s.get t) (f:∀ u,K (s.put o.dst u)=K' (s'.put o.dst u)):dq C true ops o s K=dq C true ops o s' K':=by
 have hu:=U0 (C:=C) m (CF h) f
 rw [eC,eC]
 cases z:o.guard with
 | none=>exact hu
 | some g =>
  obtain ⟨j,want⟩:=g
  simp only
  cases A:xX ops j with
  | none=>rfl
  | some d =>
   have e:s'.get d=s.get d:=h d (iK z A)
   simp only [e]
   cases s.get d <;> try rfl
   ·exact f _
   ·simp only
    split
    ·exact hu
    ·exact f _
def FE (C:Cfg R) (ops:Array Oper) (o:Oper) (s:St) (u:SV):Prop:=∀ K:St->Option R,dq C true ops o s K=K (s.put o.dst u)
theorem V1 {lt:Bool} (A:cls lt o<=1) (h:∀ t∈looks ops.toList o,s'.get t=s.get t) (f:∀ t∈looks ops.toList o,∀ k,tok (s.get t)=some k->s'.obj k=s.obj k) (z:∀ u,K (s.put o.dst u)=K' (s'.put o.dst u)):dq C true ops o s K=dq C true ops o s' K':=by
 have hu:=U1 (C:=C) A (CF h) (fun x M k m=>by
  cases x with
  | tmp t=>exact f t (wk M) k m
  | const v=>exfalso;unfold ev at m;split at m <;> simp_all [tok]
  | _=>cases m) z
 rw [eC,eC]
 cases N:o.guard with
 | none=>exact hu
 | some g =>
  obtain ⟨j,want⟩:=g
  simp only
  cases O:xX ops j with
  | none=>rfl
  | some d =>
   have e:s'.get d=s.get d:=h d (iK N O)
   simp only [e]
   cases s.get d <;> try rfl
   ·exact z _
   ·simp only
    split
    ·exact hu
    ·exact z _
theorem n0 {lt:Bool} (f:cls lt o<=1) (h:dq C true ops o s K=some r):∃ u,FE C ops o s u:=by
 unfold FE
 rw [eC] at h
 simp only [eC]
 cases m:o.guard with
 | none=>rw [m] at h;exact zR f h
 | some g =>
  obtain ⟨j,want⟩:=g
  rw [m] at h;simp only at h ⊢
  cases z:xX ops j with
  | none=>rw [z] at h;cases h
  | some d =>
   rw [z] at h;simp only at h ⊢
   cases A:s.get d <;> rw [A] at h <;> try (cases h;done)
   ·exact ⟨_,fun _=>rfl⟩
   ·simp only at h ⊢
    rename_i t
    by_cases e:t=want
    ·simp only [e,if_true] at h ⊢;exact zR f h
    ·simp only [e,if_false] at h ⊢;exact ⟨_,fun _=>rfl⟩
structure u4 (ops:Array Oper) (x y:Oper):Prop where
 xl:∀ d,x.dst=some d->d ∉ looks ops.toList y
 yl:∀ d,y.dst=some d->d ∉ looks ops.toList x
 ne:∀ d,x.dst=some d->y.dst≠some d
theorem u4.symm (h:u4 ops x y):u4 ops y x:=⟨h.yl,h.xl,fun d f j=>h.ne d j f⟩
theorem apart_spec {lt:Bool} (h:apart lt ops.toList x y=true):u4 ops x y/\(cls lt x=0∨cls lt y=0∨(cls lt x<=1/\cls lt y<=2)∨(cls lt x<=2/\cls lt y<=1)):=by
 unfold apart at h
 simp only [Bool.and_eq_true,Bool.or_eq_true] at h
 obtain ⟨⟨f,m⟩,z⟩:=h
 refine ⟨⟨fun d u j => ?_,fun d u j => ?_,fun d u hy => ?_⟩,?_⟩
 ·rw [u] at m
  simp only [Bool.and_eq_true,Bool.not_eq_true',any_eq_false] at m
  exact m.1 d j (Nat.beq_refl d)
 ·rw [u] at z
  simp only [Bool.not_eq_true',any_eq_false] at z
  exact z d j (Nat.beq_refl d)
 ·rw [u] at m
  simp only [Bool.and_eq_true,Bool.not_eq_true',any_eq_false] at m
  exact m.2 d (by rw [hy];simp) (Nat.beq_refl d)
 ·rcases f with ((f|f)|f)|f
  ·exact .inl (Nat.eq_of_beq_eq_true f)
  ·exact .inr (.inl (Nat.eq_of_beq_eq_true f))
  ·exact .inr (.inr (.inl ⟨Nat.le_of_ble_eq_true f.1,Nat.le_of_ble_eq_true f.2⟩))
  ·exact .inr (.inr (.inr ⟨Nat.le_of_ble_eq_true f.1,Nat.le_of_ble_eq_true f.2⟩))
theorem ig {d:Option Nat} {v:SV} {t:Nat} (h:d≠some t):(s.put d v).get t=s.get t:=by
 cases d with
 | none=>rfl
 | some d =>
  simp only [St.put,St.get,sj]
  rw [if_neg]
  rintro ⟨e,_⟩;exact h (by rw [e])
theorem frame {lt:Bool} (j:lt=true->BK C) (m:∀ u f n',(cls lt o<=1->f=s.objs/\n'=s.next)->(cls lt o<=2->Nm s.objs s.next->o0 s.objs f/\Nm f n')->K ((⟨s.slots,f,n'⟩:St).put o.dst u)=K' ((⟨s.slots,f,n'⟩:St).put o.dst u)):dq C true ops o s K=dq C true ops o s K':=
 V2 (sl:=s.slots) (sl':=s.slots) (ob:=s.objs) (n:=s.next) j (fun _ _=>rfl) m
theorem G5 (s:St) (d:Option Nat) (v:SV):s.put d v=⟨(s.put d v).slots,s.objs,s.next⟩:=by cases d <;> rfl
theorem qp (s:St) (ob:List (Nat × Obj)) (n:Nat) (d:Option Nat) (v:SV):(⟨(s.put d v).slots,ob,n⟩:St)=(⟨s.slots,ob,n⟩:St).put d v:=by cases d <;> rfl
theorem ju {lt:Bool} (f:lt=true->BK C) (h:u4 ops x y) (v:SV):dq C true ops x (s.put y.dst v) K=dq C true ops x s (fun s1=>K (s1.put y.dst v)):=by
 rw [G5 s y.dst v]
 refine (V2 (sl:=s.slots) (sl':=(s.put y.dst v).slots) (ob:=s.objs) (n:=s.next) f (fun t j => ?_) (fun u m n' _ _ => ?_)).symm
 ·exact ig (s:=s) (fun e=>h.yl t e j)
 ·rw [qp,put_comm _ (fun d z=>h.ne d z)]
def Tk (ops:Array Oper) (y:Oper) (s:St):Prop:=∀ t∈looks ops.toList y,∀ k,tok (s.get t)=some k->∃ o,s.obj k=some o
theorem Tk.after (h:u4 ops x y) (z:Tk ops y s) {f:List (Nat × Obj)} {n':Nat} (he:o0 s.objs f) (v:SV):Tk ops y ((⟨s.slots,f,n'⟩:St).put x.dst v)/\(∀ t∈looks ops.toList y,((⟨s.slots,f,n'⟩:St).put x.dst v).get t=s.get t)/\∀ t∈looks ops.toList y,∀ k,tok (s.get t)=some k->((⟨s.slots,f,n'⟩:St).put x.dst v).obj k=s.obj k:=by
 have m:∀ t∈looks ops.toList y,((⟨s.slots,f,n'⟩:St).put x.dst v).get t=s.get t:=fun t z=>ig (s:=⟨s.slots,f,n'⟩) (fun e=>h.xl t e z)
 have objs:∀ k,((⟨s.slots,f,n'⟩:St).put x.dst v).obj k=lookup k f:=fun k=>by
  cases x.dst <;> rfl
 have same:∀ t∈looks ops.toList y,∀ k,tok (s.get t)=some k->((⟨s.slots,f,n'⟩:St).put x.dst v).obj k=s.obj k:=fun t j k u=>by
  obtain ⟨o,A⟩:=z t j k u
  rw [objs,A];exact he k o A
 refine ⟨fun t j k u => ?_,m,same⟩
 rw [m t j] at u
 rw [same t j k u];exact z t j k u
theorem rZ {lt:Bool} (h:u4 ops x y) (A:cls lt y<=1) (M:Tk ops y s) {u v:SV} (z:FE C ops y s u) {f:List (Nat × Obj)} {n':Nat} (he:o0 s.objs f):FE C ops y ((⟨s.slots,f,n'⟩:St).put x.dst v) u:=by
 intro K
 obtain ⟨_,j,same⟩:=M.after (n':=n') h he v
 have key:∀ m,(fun s2:St=>K ((⟨s2.slots,f,n'⟩:St).put x.dst v)) (s.put y.dst m)=K (((⟨s.slots,f,n'⟩:St).put x.dst v).put y.dst m):=by
  intro m
  show K ((⟨(s.put y.dst m).slots,f,n'⟩:St).put x.dst v)=_
  rw [qp,put_comm _ (fun d z=>h.symm.ne d z)]
 exact ((V1 (C:=C) A j same key).symm.trans (z (fun s2:St=>K ((⟨s2.slots,f,n'⟩:St).put x.dst v)))).trans (key u)
theorem yp {lt:Bool} (h:u4 ops x y) (u:cls lt y<=1) (z:Tk ops y s) {v:SV} (m:∀ K:St->Option R,dq C true ops y s K=none) {f:List (Nat × Obj)} {n':Nat} (he:o0 s.objs f):∀ K:St->Option R,dq C true ops y ((⟨s.slots,f,n'⟩:St).put x.dst v) K=none:=by
 intro K
 obtain ⟨_,j,same⟩:=z.after (n':=n') h he v
 refine (V1 (C:=C) (K:=fun s2:St=>K ((⟨s2.slots,f,n'⟩:St).put x.dst v)) u j same fun A => ?_).symm.trans (m _)
 show K ((⟨(s.put y.dst A).slots,f,n'⟩:St).put x.dst v)=_
 rw [qp,put_comm _ (fun d m=>h.symm.ne d m)]
theorem mT (s:St) (d:Option Nat) (v:SV):(s.put d v).objs=s.objs/\(s.put d v).next=s.next:=by cases d <;> exact ⟨rfl,rfl⟩
theorem FX {lt:Bool} (f:lt=true->BK C) (O:cls lt y<=1) {u:SV} {j:List Oper} {κ:St->Option R}:∀ (xs:List Oper) {s:St},(∀ x∈xs,u4 ops x y/\cls lt x<=2)->Tk ops y s->Nm s.objs s.next->FE C ops y s u->e9 C true ops (xs++y::j) s κ=e9 C true ops (xs++j) (s.put y.dst u) κ
 | [],s,_,_,_,m=>m _
 | x::xs,s,U,V,X,m=>by
  obtain ⟨A,M⟩:=U x (by simp)
  show dq C true ops x s (fun s1=>e9 C true ops (xs++y::j) s1 κ)=dq C true ops x (s.put y.dst u) (fun s1=>e9 C true ops (xs++j) s1 κ)
  rw [ju f A]
  refine frame f fun v Y n' ho N => ?_
  obtain ⟨W,h2⟩:=N M X
  exact FX f O xs (fun z hz=>U z (by simp [hz])) (V.after A W v).1 (by rw [(mT _ _ _).1,(mT _ _ _).2];exact h2) (rZ A O V m W)
theorem F1 {lt:Bool} (f:lt=true->BK C) (A:cls lt y<=1) {V:List Oper} {κ:St->Option R}:∀ (xs:List Oper) {s:St},(∀ x∈xs,u4 ops x y/\cls lt x<=2)->Tk ops y s->Nm s.objs s.next->(∀ K:St->Option R,dq C true ops y s K=none)->e9 C true ops (xs++y::V) s κ=e9 C true ops xs s (fun _=>none)
 | [],s,_,_,_,j=>j _
 | x::xs,s,M,N,W,j=>by
  obtain ⟨O,m⟩:=M x (by simp)
  refine frame f fun v X n' ho u => ?_
  obtain ⟨U,Y⟩:=u m W
  exact F1 f A xs (fun z hz=>M z (by simp [hz])) (N.after O U v).1 (by rw [(mT _ _ _).1,(mT _ _ _).2];exact Y) (yp O A N j U)
theorem pH {lt:Bool} (h:u4 ops x y) (A:cls lt y=0) {u v:SV} (z:FE C ops y s u) {f:List (Nat × Obj)} {n':Nat}:FE C ops y ((⟨s.slots,f,n'⟩:St).put x.dst v) u:=by
 intro K
 have j:∀ t∈looks ops.toList y,((⟨s.slots,f,n'⟩:St).put x.dst v).get t=s.get t:=fun t M=>ig (s:=⟨s.slots,f,n'⟩) (fun e=>h.xl t e M)
 have key:∀ m,(fun s2:St=>K ((⟨s2.slots,f,n'⟩:St).put x.dst v)) (s.put y.dst m)=K (((⟨s.slots,f,n'⟩:St).put x.dst v).put y.dst m):=by
  intro m
  show K ((⟨(s.put y.dst m).slots,f,n'⟩:St).put x.dst v)=_
  rw [qp,put_comm _ (fun d z=>h.symm.ne d z)]
 exact ((V0 (C:=C) A j key).symm.trans (z (fun s2:St=>K ((⟨s2.slots,f,n'⟩:St).put x.dst v)))).trans (key u)
theorem wq {lt:Bool} (h:u4 ops x y) (m:cls lt y=0) {v:SV} (j:∀ K:St->Option R,dq C true ops y s K=none) {f:List (Nat × Obj)} {n':Nat}:∀ K:St->Option R,dq C true ops y ((⟨s.slots,f,n'⟩:St).put x.dst v) K=none:=by
 intro K
 refine Eq.trans ?_ (j (fun s2:St=>K ((⟨s2.slots,f,n'⟩:St).put x.dst v)))
 refine (V0 (s:=s) (lt:=lt) m (fun t u=>ig (s:=⟨s.slots,f,n'⟩) (fun e=>h.xl t e u)) fun z => ?_).symm
 show K ((⟨(s.put y.dst z).slots,f,n'⟩:St).put x.dst v)=_
 rw [qp,put_comm _ (fun d j=>h.symm.ne d j)]
theorem FW {lt:Bool} (f:lt=true->BK C) (A:cls lt y=0) {u:SV} {j:List Oper} {κ:St->Option R}:∀ (xs:List Oper) {s:St},(∀ x∈xs,u4 ops x y)->FE C ops y s u->e9 C true ops (xs++y::j) s κ=e9 C true ops (xs++j) (s.put y.dst u) κ
 | [],s,_,m=>m _
 | x::xs,s,M,m=>by
  have N:=M x (by simp)
  show dq C true ops x s (fun s1=>e9 C true ops (xs++y::j) s1 κ)=dq C true ops x (s.put y.dst u) (fun s1=>e9 C true ops (xs++j) s1 κ)
  rw [ju f N]
  exact frame f fun v O n' _ _=>FW f A xs (fun z U=>M z (by simp [U])) (pH N A m)
theorem FZ {lt:Bool} (f:lt=true->BK C) (m:cls lt y=0) {A:List Oper} {κ:St->Option R}:∀ (xs:List Oper) {s:St},(∀ x∈xs,u4 ops x y)->(∀ K:St->Option R,dq C true ops y s K=none)->e9 C true ops (xs++y::A) s κ=e9 C true ops xs s (fun _=>none)
 | [],s,_,j=>j _
 | x::xs,s,u,j=>by
  have M:=u x (by simp)
  exact frame f fun v N n' _ _=>FZ f m xs (fun z O=>u z (by simp [O])) (wq M m j)
end
end Go.Proofs.Ab
namespace Go.Proofs.Ab
open Go
variable {R:Type}
section
variable {s s':St} {C:Cfg R} {K K':St->Option R} {k:Nat} {o:Obj}
def Fk (k:Nat) (s:St):Prop:=s.obj k=none/\k<s.next
theorem zQ {j:Nat} (h:j≠k):(s.newAt k o).obj j=s.obj j:=by
 show lookup j (s.objs++[(k,o)])=lookup j s.objs
 rw [im]
 cases lookup j s.objs with
 | some x=>rfl
 | none=>simp [h]
theorem E9 (x:Obj):(s.newAt k o).new x=(s.new x).newAt k o:=rfl
theorem GY (h:Fk k s) (x:Obj):Fk k (s.new x):=⟨by rw [fJ,if_neg (Nat.ne_of_lt h.2)];exact h.1,Nat.lt_succ_of_lt h.2⟩
theorem qQ {t:Nat} (h:t≠k) (x:Obj):(s.newAt k o).setObj t x=(s.setObj t x).newAt k o:=by
 unfold St.setObj St.newAt
 have f:Nat.beq t k=false:=by
  cases f:Nat.beq t k with
  | true=>exact absurd (Nat.eq_of_beq_eq_true f) h
  | false=>rfl
 simp [f]
theorem ld (t j:Nat) (x:Obj):∀ (l:List (Nat × Obj)),lookup j l=none->lookup j (l.map fun p=>bif Nat.beq t p.1 then (p.1,x) else p)=none
 | [],_=>rfl
 | (a,b)::r,h=>by
  simp only [lookup] at h
  simp only [List.map]
  cases f:Nat.beq j a with
  | true=>rw [f] at h;cases h
  | false =>
   rw [f] at h
   cases Nat.beq t a <;> simp only [cond_true,cond_false,lookup,f] <;> exact ld t j x r h
theorem tl {t:Nat} (h:Fk k s) (x:Obj):Fk k (s.setObj t x):=⟨ld t k x s.objs h.1,h.2⟩
theorem oa {x:SV} (h:∀ k,tok x=some k->s'.obj k=s.obj k):gg s' x=gg s x:=by
 cases x <;> first
  | rfl
  | (simp only [gg,h _ rfl];done)
theorem xL {x:SV} (h:∀ k,tok x=some k->s'.obj k=s.obj k):mn s' x=mn s x:=by
 cases x <;> first
  | rfl
  | (simp only [mn,h _ rfl];done)
theorem od:∀ {l:List SV},(∀ x∈l,∀ k,tok x=some k->s'.obj k=s.obj k)->gQ s' l=gQ s l
 | [],_=>rfl
 | x::r,h=>by
  have f:gQ s' r=gQ s r:=od fun y (hy:y∈r)=>h y (mem_cons_of_mem _ hy)
  simp only [gQ,oa (h x mem_cons_self),f]
theorem pT:∀ {l:List SV},(∀ x∈l,∀ k,tok x=some k->s'.obj k=s.obj k)->jg s' l=jg s l
 | [],_=>rfl
 | x::r,h=>by
  have f:jg s' r=jg s r:=pT fun y (hy:y∈r)=>h y (mem_cons_of_mem _ hy)
  simp only [jg,xL (h x mem_cons_self),f]
def Il (s:St):Prop:=∀ t ty f,s.obj t=some (.var ty f)->∀ z∈f,∀ j,tok z=some j->∃ x,s.obj j=some x
theorem vf (A:∀ t ty f,s.obj t=some (.var ty f)->∀ z∈f,∀ j,tok z=some j->s'.obj j=s.obj j) {x:SV} (h:∀ y∈leaves x,∀ k,tok y=some k->s'.obj k=s.obj k):fE s' x=fE s x:=by
 rcases gS x with ⟨l,rfl⟩|m
 ·simp only [fE,od (s:=s) (s':=s') (l:=l) h]
 ·have u:=oa (s:=s) (s':=s') (x:=x) (fun k M=>h x (by cases x <;> first|exact List.mem_singleton.2 rfl|exact absurd rfl (m _)) k M)
  cases x with
  | ptr t off =>
   cases off with
   | succ n=>exact u
   | zero =>
    have N:=h (.ptr t 0) (List.mem_singleton.2 rfl) t rfl
    simp only [fE,N]
    split
    ·rename_i ty f e
     rw [pT (A t ty f e)]
    ·rfl
  | agg l=>exact absurd rfl (m _)
  | _=>exact u
theorem oc (f:∀ t ty m,s.obj t=some (.var ty m)->∀ z∈m,∀ j,tok z=some j->s'.obj j=s.obj j):∀ {l:List SV},(∀ x∈l,∀ y∈leaves x,∀ k,tok y=some k->s'.obj k=s.obj k)->eU s' l=eU s l
 | [],_=>rfl
 | x::r,h=>by
  have u:eU s' r=eU s r:=oc f fun y (hy:y∈r)=>h y (mem_cons_of_mem _ hy)
  simp only [eU,vf f (h x mem_cons_self),u]
theorem ke:∀ {l:List SV},(∀ x∈l,∀ y∈leaves x,∀ k,tok y=some k->s'.obj k=s.obj k)->cy s' l=cy s l
 | [],_=>rfl
 | x::r,h=>by
  have f:cy s' r=cy s r:=ke fun y (hy:y∈r)=>h y (mem_cons_of_mem _ hy)
  cases x with
  | ptr t off=>simp only [cy,h _ mem_cons_self _ (List.mem_singleton.2 rfl) t rfl,f]
  | _=>exact f
theorem vI:∀ {l:List SV},(∀ x∈l,∀ y∈leaves x,∀ k,tok y=some k->s'.obj k=s.obj k)->iT s' l=iT s l
 | [],_=>rfl
 | x::r,h=>by
  have f:iT s' r=iT s r:=vI fun y (hy:y∈r)=>h y (mem_cons_of_mem _ hy)
  cases x with
  | ptr t off=>simp only [iT,h _ mem_cons_self _ (List.mem_singleton.2 rfl) t rfl,f]
  | _=>exact f
theorem jo:∀ (l:List SV) (s:St),Fk k s->da (s.newAt k o) l=((da s l).1,(da s l).2.newAt k o)/\Fk k (da s l).2/\(da s l).2.slots=s.slots
 | [],s,h=>⟨rfl,h,rfl⟩
 | x::r,s,h=>by
  have f:da (s.newAt k o) (x::r)=((da s (x::r)).1,(da s (x::r)).2.newAt k o)/\Fk k (da s (x::r)).2/\(da s (x::r)).2.slots=s.slots∨∃ e l st,x = .fr e l st:=by
   obtain ⟨j,m,u⟩:=jo r s h
   cases x <;> first
    | exact .inr ⟨_,_,_,rfl⟩
    | (refine .inl ⟨?_,m,u⟩;simp only [da,j])
  rcases f with f|⟨e,l,st,rfl⟩
  ·exact f
  ·obtain ⟨j,m,u⟩:=jo r (s.new (.row e l st)) (GY h _)
   refine ⟨?_,m,u⟩
   simp only [da,E9,j]
   rfl
theorem sT (x:SV) (s:St) (h:Fk k s):eN (s.newAt k o) x=((eN s x).1,(eN s x).2.newAt k o)/\Fk k (eN s x).2/\(eN s x).2.slots=s.slots:=by
 rcases gS x with ⟨l,rfl⟩|z
 ·obtain ⟨m,f,j⟩:=jo (o:=o) l s h
  exact ⟨by simp only [eN,m],f,j⟩
 ·obtain ⟨m,f,j⟩:=jo (o:=o) [x] s h
  have e:∀ s:St,eN s x=(match da s [x] with|([u],s')=>(u,s')|(_,s')=>(.no,s')):=by
   intro s;cases x <;> first|rfl|exact absurd rfl (z _)
  rw [e,e,m]
  cases A:da s [x] with
  | mk vs s1 =>
   rw [A] at f j
   match vs with
   | []=>exact ⟨rfl,f,j⟩
   | [u]=>exact ⟨rfl,f,j⟩
   | _::_::_=>exact ⟨rfl,f,j⟩
theorem sR:∀ (l:List SV) (s:St),Fk k s->fD (s.newAt k o) l=((fD s l).1,(fD s l).2.newAt k o)/\Fk k (fD s l).2/\(fD s l).2.slots=s.slots
 | [],s,h=>⟨rfl,h,rfl⟩
 | x::r,s,h=>by
  obtain ⟨f,j,m⟩:=sT (o:=o) x s h
  obtain ⟨g1,g2,g3⟩:=sR r _ j
  refine ⟨?_,g2,g3.trans m⟩
  simp only [fD,f,g1]
theorem sr:∀ (l:List Nat) (s:St),k ∉ l->Fk k s->fZ l (s.newAt k o)=(fZ l s).newAt k o/\Fk k (fZ l s)/\(fZ l s).slots=s.slots
 | [],s,_,h=>⟨rfl,h,rfl⟩
 | t::r,s,f,h=>by
  obtain ⟨j,m,u⟩:=sr r (s.setObj t .hole) (fun z=>f (mem_cons_of_mem _ z)) (tl h _)
  exact ⟨by simp only [fZ,qQ (s:=s) (o:=o) (fun e:t=k=>f (by rw [e];exact mem_cons_self)) .hole,j],m,u⟩
theorem na:∀ (vs back:List SV) (s:St),(∀ t off,.ptr t off∈vs->t≠k)->Fk k s ->
  (fk s vs back=none/\fk (s.newAt k o) vs back=none)∨∃ s2,fk s vs back=some s2/\fk (s.newAt k o) vs back=some (s2.newAt k o)/\Fk k s2/\s2.slots=s.slots
 | [],[],s,_,h => .inr ⟨s,rfl,rfl,h,rfl⟩
 | [],_::_,s,_,_ => .inl ⟨rfl,rfl⟩
 | x::r,back,s,m,h=>by
  by_cases A:∃ t off,x = .ptr t off
  ·obtain ⟨t,off,rfl⟩:=A
   have M:t≠k:=m t off mem_cons_self
   match back with
   | []=>exact .inl ⟨rfl,rfl⟩
   | y::u =>
    by_cases hy:∃ ty f,y = .vp ty f
    ·obtain ⟨ty,f,rfl⟩:=hy
     obtain ⟨N,O,U⟩:=jo (o:=o) f s h
     have j:=na r u ((da s f).2.setObj t (.var ty (da s f).1)) (fun t off hm=>m t off (mem_cons_of_mem _ hm)) (tl O _)
     rw [<- qQ (s:=(da s f).2) (o:=o) M] at j
     simp only [fk,N]
     rcases j with j|⟨s2,g1,g2,g3,g4⟩
     ·exact .inl j
     ·exact .inr ⟨s2,g1,g2,g3,g4.trans U⟩
    ·have e:∀ s:St,fk s (.ptr t off::r) (y::u)=none:=by
      intro s;cases y <;> first|rfl|exact absurd ⟨_,_,rfl⟩ hy
     exact .inl ⟨e _,e _⟩
  ·have z:∀ t o,x ≠ .ptr t o:=fun t o e=>A ⟨t,o,e⟩
   have e:∀ (s:St),fk s (x::r) back=fk s r back:=fun s=>j' _ z _ _
   rw [e,e]
   exact na r back s (fun t off hm=>m t off (mem_cons_of_mem _ hm)) h
theorem nz {t:Nat}:∀ {l:List SV},t∈given l->∃ off,.ptr t off∈l
 | x::r,h=>by
  by_cases m:∃ u off,x = .ptr u off
  ·obtain ⟨u,off,rfl⟩:=m
   simp only [given,mem_cons] at h
   rcases h with rfl|h
   ·exact ⟨off,mem_cons_self⟩
   ·obtain ⟨f,j⟩:=nz h;exact ⟨f,mem_cons_of_mem _ j⟩
  ·have e:given (x::r)=given r:=by cases x <;> first|rfl|exact absurd ⟨_,_,rfl⟩ m
   rw [e] at h
   obtain ⟨f,j⟩:=nz h;exact ⟨f,mem_cons_of_mem _ j⟩
theorem AC (hf:Fk k s) (ht:Il s) {d:Option Nat} {g:Nat} {xs:List Operand}
  (O:∀ x∈xs,∀ y∈leaves (ev s x),∀ j,tok y=some j->∃ x,s.obj j=some x) (hK:∀ (s1:St) u,Fk k s1->s1.slots=s.slots->K ((s1.newAt k o).put d u)=K' (s1.put d u)):iG C true (s.newAt k o) d g xs K=iG C true s d g xs K':=by
 have he:xs.map (ev (s.newAt k o))=xs.map (ev s):=rfl
 have m:∀ j x,s.obj j=some x->j≠k:=fun j x N e=>by subst e;rw [hf.1] at N;cases N
 unfold iG kW pz
 simp only [he]
 generalize (bif C.xJ g then e7 (xs.map (ev s))++rP (xs.map (ev s)) else [])=fz
 cases fz with
 | cons t ts=>unfold lW;simp
 | nil =>
  simp only [gi,he]
  have f:∀ x∈xs.map (ev s),∀ y∈leaves x,∀ j,tok y=some j->(s.newAt k o).obj j=s.obj j:=fun x A y hy j N=>by
   obtain ⟨z,U,rfl⟩:=List.mem_map.1 A
   obtain ⟨x,A⟩:=O z U y hy j N
   exact zQ (m j x A)
  have M:∀ t off,SV.ptr t off∈xs.map (ev s)->t≠k:=fun t off hm=>by
   obtain ⟨z,U,e⟩:=List.mem_map.1 hm
   obtain ⟨x,A⟩:=O z U (.ptr t off) (by rw [e];exact List.mem_singleton.2 rfl) t rfl
   exact m t x A
  generalize xs.map (ev s)=vs at f M
  have W:∀ t ty V,s.obj t=some (.var ty V)->∀ z∈V,∀ j,tok z=some j->(s.newAt k o).obj j=s.obj j:=fun t ty V e z U j N=>by
   obtain ⟨x,A⟩:=ht t ty V e z U j N
   exact zQ (m j x A)
  unfold lW
  simp only [append_nil,vI f,ke f,oc W f]
  generalize ad:cy s vs=gr
  cases gr with
  | cons t ts=>simp
  | nil =>
   generalize ((true && !(([]:List Nat).isEmpty&&([]:List Nat).isEmpty)) || !distinct (iT s vs)||(seen vs).any fun t=>(iT s vs).any (Nat.beq t))=c
   cases c with
   | true=>rfl
   | false =>
    simp only [cond_false]
    cases eU s vs with
    | none=>rfl
    | some cs =>
     simp only [fG]
     congr 1
     funext res
     cases res with
     | nil=>rfl
     | cons v back =>
      simp only
      obtain ⟨a1,a2,a3⟩:=sr (o:=o) (given vs) s (fun hi=>by
       obtain ⟨off,hm⟩:=nz hi
       exact M k off hm rfl) hf
      rw [a1]
      rcases na (o:=o) vs back _ M a2 with ⟨X,Y⟩|⟨s2,X,Y,b3,b4⟩
      ·rw [X,Y]
      ·rw [X,Y]
       simp only
       rcases qt v with ⟨l,rfl⟩|W
       ·obtain ⟨c1,c2,c3⟩:=sR (o:=o) l s2 b3
        simp only [c1]
        exact hK _ _ c2 (c3.trans (b4.trans a3))
       ·obtain ⟨c1,c2,c3⟩:=sT (o:=o) v s2 b3
        cases v <;> first
         | exact absurd rfl (W _)
         | (simp only [c1];exact hK _ _ c2 (c3.trans (b4.trans a3)))
end
section
variable {ops:Array Oper} {o x y:Oper} {s s':St} {C:Cfg R} {K K':St->Option R} {r:R}
def IA (s:St):Prop:=∀ t,∀ z∈leaves (s.get t),∀ k,tok z=some k->∃ o,s.obj k=some o
theorem BC {k:Nat} {b:Obj} (hy:mz o=true) (N:Fk k s) (V:IA s) (W:Il s) (O:∀ (s1:St) u,Fk k s1->s1.slots=s.slots->K ((s1.newAt k b).put o.dst u)=K' (s1.put o.dst u)):dq C true ops o (s.newAt k b) K=dq C true ops o s K':=by
 have hu:eL C true o (s.newAt k b) K=eL C true o s K':=by
  unfold mz at hy
  split at hy
  ·rename_i c X
   split at hy
   ·rename_i f A
    unfold eL;simp only [X,A]
    rw [show ev (s.newAt k b) f=ev s f from rfl]
    cases ev s f <;> try rfl
    rename_i g
    dsimp only
    cases C.mv g with
    | true=>rfl
    | false =>
    simp only [cond_false]
    refine AC N W (fun x hx z m j M => ?_) O
    cases x with
    | tmp t=>exact V t z m j M
    | const v =>
     exfalso
     have Y:∀ v:Value,tok (GG v)=none:=fun v=>by unfold GG;split <;> rfl
     by_cases U:∃ cs,v = .agg cs
     ·obtain ⟨cs,rfl⟩:=U
      have m:z∈cs.toList.map GG:=m
      obtain ⟨u,_,rfl⟩:=List.mem_map.1 m
      rw [Y] at M;cases M
     ·unfold ev at m
      split at m <;> first|(exact U ⟨_,by assumption⟩)|simp_all [leaves,tok]
    | func f=>simp [ev,leaves] at m;subst m;cases M
    | _=>simp [ev,leaves] at m;subst m;cases M
   ·cases hy
  ·cases hy
 rw [eC,eC]
 cases hg:o.guard with
 | none=>exact hu
 | some g =>
  obtain ⟨j,want⟩:=g
  simp only
  cases hd:xX ops j with
  | none=>rfl
  | some d =>
   simp only [show (s.newAt k b).get d=s.get d from rfl]
   cases s.get d <;> try rfl
   ·exact O s _ N rfl
   ·simp only
    split
    ·exact hu
    ·exact O s _ N rfl
theorem As (V:gG o=true) (X:Nat.beq C.base 0=false) (h:dq C true ops o s K=some r) :
  (∃ k b u,Fk k s/\∀ (s1:St) (K:St->Option R),Fk k s1->(∀ t∈looks ops.toList o,s1.get t=s.get t)->dq C true ops o s1 K=K ((s1.newAt k b).put o.dst u)) ∨
  ∃ u,∀ (s1:St) (K:St->Option R),(∀ t∈looks ops.toList o,s1.get t=s.get t)->dq C true ops o s1 K=K (s1.put o.dst u):=by
 have M:∀ {r:R} {K:St->Option R} {b:Obj} {f:Nat->SV},kn C s o.dst b f K=some r->∃ k u,Fk k s/\∀ (s1:St) (K:St->Option R),Fk k s1->kn C s1 o.dst b f K=K ((s1.newAt k b).put o.dst u):=by
  intro r K b f h
  unfold kn at h
  rw [X,cond_false] at h
  obtain ⟨O,_⟩:=cf h
  simp only [Bool.and_eq_true,Option.isNone_iff_eq_none,Nat.blt_eq] at O
  refine ⟨_,f (C.base+o.dst.getD 0),⟨O.1,O.2.1⟩,fun s1 K z => ?_⟩
  unfold kn
  have h1:(s1.obj (C.base+o.dst.getD 0)).isNone=true:=by rw [z.1];rfl
  have h2:Nat.blt (C.base+o.dst.getD 0) s1.next=true:=by rw [Nat.blt_eq];exact z.2
  rw [X,cond_false,h1,h2,O.2.2];rfl
 have N:∀ {r:R} {K:St->Option R},eL C true o s K=some r->∃ k b u,Fk k s/\∀ (s1:St) (K:St->Option R),Fk k s1->eL C true o s1 K=K ((s1.newAt k b).put o.dst u):=by
  intro r K h
  unfold gG at V
  split at V
  ·rename_i t Y
   unfold eL at h
   simp only [Y] at h
   unfold eL
   simp only [Y]
   cases hT:C.ty t with
   | none=>rw [hT] at h;cases h
   | some T =>
    rw [hT] at h;simp only at h ⊢
    cases ha:ph C T with
    | some j =>
     rw [ha] at h;simp only at h ⊢
     obtain ⟨k,u,g1,g2⟩:=M h
     exact ⟨k,_,u,g1,g2⟩
    | none =>
     rw [ha] at h;simp only at h ⊢
     obtain ⟨h0,h⟩:=cf h
     simp only [h0,cond_true]
     obtain ⟨k,u,g1,g2⟩:=M h
     exact ⟨k,_,u,g1,g2⟩
  ·cases V
 rw [eC] at h
 cases m:o.guard with
 | none =>
  rw [m] at h
  obtain ⟨k,b,u,g1,g2⟩:=N h
  exact .inl ⟨k,b,u,g1,fun s1 K z _=>by rw [eC,m];exact g2 s1 K z⟩
 | some g =>
  obtain ⟨j,want⟩:=g
  rw [m] at h;simp only at h
  cases A:xX ops j with
  | none=>rw [A] at h;cases h
  | some d =>
   rw [A] at h;simp only at h
   have W:d∈looks ops.toList o:=iK m A
   cases U:s.get d <;> rw [U] at h <;> try (cases h;done)
   ·exact .inr ⟨.undef,fun s1 K he=>by rw [eC,m];simp only [A,he d W,U]⟩
   ·simp only at h
    rename_i t
    by_cases e:t=want
    ·rw [if_pos e] at h
     obtain ⟨k,b,u,g1,g2⟩:=N h
     exact .inl ⟨k,b,u,g1,fun s1 K z he=>by rw [eC,m];simp only [A,he d W,U,e,if_true];exact g2 s1 K z⟩
    ·rw [if_neg e] at h
     exact .inr ⟨.undef,fun s1 K he=>by rw [eC,m];simp only [A,he d W,U,e,if_false]⟩
theorem AE {lt:Bool} (h:gG o=true):cls lt o=2:=by
 unfold gG at h
 unfold cls
 split at h
 ·rename_i e;rw [e]
 ·cases h
theorem zN {lt:Bool} (j:lt=true->BK C) {m:List Oper} {κ:St->Option R} (f:St->Prop) (hg:∀ (x:Oper) (s:St),f s->Tk ops x s/\Nm s.objs s.next/\IA s/\Il s):∀ (xs:List Oper) {s:St},(∀ x∈xs,u4 ops x y/\((cls lt x=0∨(cls lt x<=1/\cls lt y<=2))∨(gG x=true/\mz y=true/\Nat.beq C.base 0=false))) ->
  (∀ x∈xs,∀ (s:St) (u:SV) A n',f s->(∀ K:St->Option R,dq C true ops x s K=K ((⟨s.slots,A,n'⟩:St).put x.dst u))->f ((⟨s.slots,A,n'⟩:St).put x.dst u))->f s->e9 C true ops (xs++y::m) s κ=some r->e9 C true ops (y::(xs++m)) s κ=some r
 | [],s,_,_,_,h=>h
 | x::xs,s,ha,X,M,h=>by
  obtain ⟨Y,W⟩:=ha x (by simp)
  rcases W with W|⟨ad,ae,hb⟩
  ·obtain ⟨u,V⟩:=n0 (lt:=lt) (by rcases W with W|W <;> omega) (show dq C true ops x s (fun s1=>e9 C true ops (xs++y::m) s1 κ)=some r from h)
   have h1:e9 C true ops (xs++y::m) (s.put x.dst u) κ=some r:=by rw [<- V (fun s1=>e9 C true ops (xs++y::m) s1 κ)];exact h
   have h2:=zN j f hg xs (fun z N=>ha z (by simp [N])) (fun z N=>X z (by simp [N])) (X x (by simp) s u s.objs s.next M V) h1
   rw [<- h2]
   show dq C true ops y s (fun s1=>dq C true ops x s1 (fun s2=>e9 C true ops (xs++m) s2 κ))=dq C true ops y (s.put x.dst u) (fun s1=>e9 C true ops (xs++m) s1 κ)
   rw [ju j Y.symm]
   refine frame j fun v A n' _ ap => ?_
   rcases W with W|⟨ar,ax⟩
   ·exact pH Y.symm W V _
   ·obtain ⟨ht,hn,_⟩:=hg x s M
    exact rZ Y.symm ar ht V (ap ax hn).1 _
  ·have O:∀ (s1:St) (v:SV),s1.slots=s.slots->∀ t∈looks ops.toList x,(s1.put y.dst v).get t=s.get t:=fun s1 v e t ht=>by
    rw [ig (s:=s1) (fun e=>Y.yl t e ht)]
    unfold St.get;rw [e]
   rcases As ad hb (show dq C true ops x s (fun s1=>e9 C true ops (xs++y::m) s1 κ)=some r from h) with ⟨k,b,u,hf,V⟩|⟨u,V⟩
   ·obtain ⟨_,_,a1,a6⟩:=hg x s M
    have U:∀ K:St->Option R,dq C true ops x s K=K ((⟨s.slots,s.objs++[(k,b)],s.next⟩:St).put x.dst u):=fun K=>V s K hf fun _ _=>rfl
    have h1:e9 C true ops (xs++y::m) ((⟨s.slots,s.objs++[(k,b)],s.next⟩:St).put x.dst u) κ=some r:=by rw [<- U (fun s1=>e9 C true ops (xs++y::m) s1 κ)];exact h
    have h2:=zN j f hg xs (fun z N=>ha z (by simp [N])) (fun z N=>X z (by simp [N])) (X x (by simp) s u _ _ M U) h1
    rw [<- h2]
    show dq C true ops y s (fun s1=>dq C true ops x s1 (fun s2=>e9 C true ops (xs++m) s2 κ))=dq C true ops y ((s.newAt k b).put x.dst u) (fun s1=>e9 C true ops (xs++m) s1 κ)
    rw [ju j Y.symm]
    refine (BC ae hf a1 a6 fun s1 v hk he => ?_).symm
    have a7:Fk k (s1.put y.dst v):=by cases y.dst <;> exact hk
    rw [V _ _ a7 (O s1 v he)]
    congr 2
    cases y.dst <;> rfl
   ·have U:∀ K:St->Option R,dq C true ops x s K=K (s.put x.dst u):=fun K=>V s K fun _ _=>rfl
    have h1:e9 C true ops (xs++y::m) (s.put x.dst u) κ=some r:=by rw [<- U (fun s1=>e9 C true ops (xs++y::m) s1 κ)];exact h
    have h2:=zN j f hg xs (fun z N=>ha z (by simp [N])) (fun z N=>X z (by simp [N])) (X x (by simp) s u s.objs s.next M U) h1
    rw [<- h2]
    show dq C true ops y s (fun s1=>dq C true ops x s1 (fun s2=>e9 C true ops (xs++m) s2 κ))=dq C true ops y (s.put x.dst u) (fun s1=>e9 C true ops (xs++m) s1 κ)
    rw [ju j Y.symm]
    refine frame j fun v A n' _ _ => ?_
    exact V _ _ (O ⟨s.slots,A,n'⟩ v rfl)
end
end Go.Proofs.Ab
namespace Go.Proofs.Ab
open Go
variable {R:Type}
def iU (acc:List Nat) (o:Oper):Nat:=o.after.toList.foldl (fun m e=>bif Region.binds .any e then m ||| 2 ^ e.on ||| acc.getD e.on 0 else m) 0
theorem lJ (l:List Oper) (acc:List Nat):l.foldl (fun acc o=>acc++[iU acc o]) acc=l.foldl (fun acc o=>acc++[o.after.toList.foldl (fun m e=>bif Region.binds .any e then m ||| 2 ^ e.on ||| acc.getD e.on 0 else m) 0]) acc:=rfl
theorem lK:∀ (l:List Oper) (acc:List Nat),∃ M,l.foldl (fun acc o=>acc++[iU acc o]) acc=acc++M/\M.length=l.length/\∀ i o,l[i]? = some o->M[i]? = some (iU (acc++M.take i) o)
 | [],acc=>⟨[],by simp,rfl,fun i o h=>by simp at h⟩
 | x::l,acc=>by
  obtain ⟨M,f,j,m⟩:=lK l (acc++[iU acc x])
  refine ⟨iU acc x::M,?_,by simp [j],fun i o h => ?_⟩
  ·rw [foldl_cons,f];simp
  ·cases i with
   | zero=>simp at h;subst h;simp
   | succ i =>
    have:=m i o (by simpa using h)
    simpa using this
theorem nR (acc:List Nat) (j:Nat):∀ (l:List Edge) (m:Nat),(l.foldl (fun m e=>bif Region.binds .any e then m ||| 2 ^ e.on ||| acc.getD e.on 0 else m) m).testBit j=true ↔ m.testBit j=true∨∃ e∈l,Region.binds .any e=true/\(j=e.on∨(acc.getD e.on 0).testBit j=true)
 | [],m=>by simp
 | e::l,m=>by
  rw [foldl_cons,nR acc j l]
  cases f:Region.binds .any e with
  | false=>simp [f]
  | true =>
   simp only [cond_true,Nat.testBit_or,Bool.or_eq_true,Nat.testBit_two_pow,decide_eq_true_eq,mem_cons,exists_eq_or_imp,f,true_and]
   constructor
   ·rintro (((h|h)|h)|h)
    ·exact .inl h
    ·exact .inr (.inl (.inl h.symm))
    ·exact .inr (.inl (.inr h))
    ·exact .inr (.inr h)
   ·rintro (h|(h|h)|h)
    ·exact .inl (.inl (.inl h))
    ·exact .inl (.inl (.inr h.symm))
    ·exact .inl (.inr h)
    ·exact .inr h
theorem mg (lt:Bool) (ops:List Oper) (o:Oper) (m:Nat):∀ (l:List Oper) (j:Nat),mf lt ops o m j l=true->∀ k x,l[k]? = some x->m.testBit (j+k)=true∨apart lt ops x o=true
 | [],_,_,k,x,h=>by simp at h
 | y::l,j,h,k,x,f=>by
  simp only [mf,Bool.and_eq_true,Bool.or_eq_true] at h
  cases k with
  | zero=>simp at f;subst f;exact h.1
  | succ k =>
   have:=mg lt ops o m l (j+1) h.2 k x (by simpa using f)
   rw [show j+(k+1)=j+1+k by omega];exact this
theorem mc (lt:Bool) (ops:List Oper):∀ (l:List Oper) (M:List Nat) (i:Nat),mb lt ops i l M=true->∀ k o,l[k]? = some o->∃ m,M[k]? = some m/\m<2 ^ (i+k)/\mf lt ops o m 0 (ops.take (i+k))=true
 | [],_,_,_,k,o,h=>by simp at h
 | x::l,[],_,h,_,_,_=>by simp [mb] at h
 | x::l,m::M,i,h,k,o,f=>by
  simp only [mb,Bool.and_eq_true,decide_eq_true_eq] at h
  cases k with
  | zero=>simp at f;subst f;exact ⟨m,rfl,h.1,h.2.1⟩
  | succ k =>
   obtain ⟨m',j,u,z⟩:=mc lt ops l M (i+1) h.2.2 k o (by simpa using f)
   rw [show i+(k+1)=i+1+k by omega]
   exact ⟨m',by simpa using j,u,z⟩
theorem vo {lt:Bool} {ops:Array Oper} (h:jC lt ops.toList=true):∃ M:List Nat,M=eZ ops.toList/\M.length=ops.size/\∀ i o,ops[i]? = some o ->
  (∀ j,(M.getD i 0).testBit j=true->j<i/\∃ e∈o.after.toList,Region.binds .any e=true/\(j=e.on∨(M.getD e.on 0).testBit j=true)) /\
  (∀ e∈o.after.toList,Region.binds .any e=true->(M.getD i 0).testBit e.on=true) /\
  ∀ j x,j<i->ops[j]? = some x->(M.getD i 0).testBit j=true∨apart lt ops.toList x o=true:=by
 unfold jC eZ at h
 obtain ⟨M,N,U,O⟩:=lK ops.toList []
 rw [<- lJ,N] at h
 simp only [nil_append] at h O
 refine ⟨M,by unfold eZ;rw [<- lJ,N];rfl,by simpa using U,fun i o V => ?_⟩
 have f:ops.toList[i]? = some o:=by simpa using V
 obtain ⟨m,g1,g2,g3⟩:=mc lt ops.toList ops.toList M 0 h i o f
 have hm:=O i o f
 rw [g1] at hm
 have z:m=iU (M.take i) o:=by simpa using hm
 have W:M.getD i 0=m:=by rw [List.getD_eq_getElem?_getD,g1];rfl
 rw [Nat.zero_add] at g2 g3
 rw [W]
 have bits:∀ j,m.testBit j=true ↔ ∃ e∈o.after.toList,Region.binds .any e=true/\(j=e.on∨((M.take i).getD e.on 0).testBit j=true):=by
  intro j;rw [z,iU,nR];simp
 refine ⟨fun j u=>⟨?_,?_⟩,fun e he A=>(bits e.on).2 ⟨e,he,A,.inl rfl⟩,fun j x u X => ?_⟩
 ·refine Decidable.byContradiction fun Y => ?_
  have:=Nat.testBit_lt_two_pow (Nat.lt_of_lt_of_le g2 (Nat.pow_le_pow_right (by decide) (Nat.le_of_not_lt Y)))
  rw [this] at u;cases u
 ·obtain ⟨e,he,A,h⟩:=(bits j).1 u
  refine ⟨e,he,A,h.imp id fun h => ?_⟩
  rw [List.getD_eq_getElem?_getD,List.getElem?_take] at h
  split at h
  ·rw [List.getD_eq_getElem?_getD];exact h
  ·simp at h
 ·have:=mg lt ops.toList o m _ 0 g3 j x (by rw [List.getElem?_take,if_pos u];simpa using X)
  rwa [Nat.zero_add] at this
def kx (ops:Array Oper) (M:List Nat):Prop:=M.length=ops.size/\∀ i o,ops[i]? = some o ->
  (∀ j,(M.getD i 0).testBit j=true->j<i/\∃ e∈o.after.toList,Region.binds .any e=true/\(j=e.on∨(M.getD e.on 0).testBit j=true)) /\
  (∀ e∈o.after.toList,Region.binds .any e=true->(M.getD i 0).testBit e.on=true)
theorem lV:∀ (l:List Nat) (i:Nat),bounded i l=true->∀ k m,l[k]? = some m->m<2 ^ (i+k)
 | [],_,_,k,m,h=>by simp at h
 | x::l,i,h,k,m,f=>by
  simp only [bounded,Bool.and_eq_true,decide_eq_true_eq] at h
  cases k with
  | zero=>simp at f;subst f;exact h.1
  | succ k =>
   have:=lV l (i+1) h.2 k m (by simpa using f)
   rw [show i+(k+1)=i+1+k by omega];exact this
theorem DE {ops:Array Oper} (h:bounded 0 (eZ ops.toList)=true):kx ops (eZ ops.toList):=by
 have f:=lV _ _ h
 clear h
 revert f
 obtain ⟨M,A,N,z⟩:=lK ops.toList []
 have e:eZ ops.toList=M:=by unfold eZ;rw [<- lJ,A];rfl
 rw [e]
 intro f
 simp only [nil_append] at z
 refine ⟨by simpa using N,fun i o O => ?_⟩
 have m:ops.toList[i]? = some o:=by simpa using O
 have hm:=z i o m
 have g2:=f i _ hm
 have U:M.getD i 0=iU (M.take i) o:=by rw [List.getD_eq_getElem?_getD,hm];rfl
 rw [Nat.zero_add] at g2
 rw [U]
 have bits:∀ j,(iU (M.take i) o).testBit j=true ↔ ∃ e∈o.after.toList,Region.binds .any e=true/\(j=e.on∨((M.take i).getD e.on 0).testBit j=true):=by
  intro j;rw [iU,nR];simp
 refine ⟨fun j u=>⟨?_,?_⟩,fun e he f=>(bits e.on).2 ⟨e,he,f,.inl rfl⟩⟩
 ·refine Decidable.byContradiction fun V => ?_
  have:=Nat.testBit_lt_two_pow (Nat.lt_of_lt_of_le g2 (Nat.pow_le_pow_right (by decide) (Nat.le_of_not_lt V)))
  rw [this] at u;cases u
 ·obtain ⟨e,he,f,h⟩:=(bits j).1 u
  refine ⟨e,he,f,h.imp id fun h => ?_⟩
  rw [List.getD_eq_getElem?_getD,List.getElem?_take] at h
  split at h
  ·rw [List.getD_eq_getElem?_getD];exact h
  ·simp at h
def Jf (C:Cfg R) (lt:Bool) (ops:Array Oper) (x y:Oper):Prop:=
 u4 ops x y/\((cls lt x=0∨cls lt y=0∨(cls lt x<=1/\cls lt y<=2)∨(cls lt x<=2/\cls lt y<=1))∨(gG x=true/\mz y=true/\Nat.beq C.base 0=false))
def rM (C:Cfg R) (lt:Bool) (ops:Array Oper) (M T:List Nat) (ord:List Nat):Prop:=(∀ i,i∈ord ↔ i<ops.size/\i ∉ T) /\
 ord.Pairwise fun j i=>j≠i/\(M.getD j 0).testBit i=false/\∀ x o,ops[j]? = some x->ops[i]? = some o->(M.getD i 0).testBit j=true∨Jf C lt ops x o
theorem sW {C:Cfg R} {lt:Bool} {ops:Array Oper} (h:jC lt ops.toList=true):kx ops (eZ ops.toList)/\rM C lt ops (eZ ops.toList) [] (List.range ops.size):=by
 obtain ⟨M,e,A,f⟩:=vo h
 rw [<- e]
 refine ⟨⟨A,fun i o m=>⟨(f i o m).1,(f i o m).2.1⟩⟩,fun i=>by rw [mem_range];simp,?_⟩
 have:=List.pairwise_lt_range (n:=ops.size)
 refine this.imp_of_mem fun {j i} N m u=>⟨by omega,?_,fun x o O U=>((f i o U).2.2 j x u O).imp id fun V => ?_⟩
 ·cases W:(M.getD j 0).testBit i with
  | false=>rfl
  | true =>
   have z:=List.mem_range.1 N
   have:=((f j _ (Array.getElem?_eq_getElem z)).1 i W).1
   omega
 ·obtain ⟨g1,g2⟩:=apart_spec V
  exact ⟨g1,.inl g2⟩
theorem rQ {ops:Array Oper} {x y:Oper} (h:Ep ops.toList x y=true):u4 ops x y:=by
 unfold Ep at h
 simp only [Bool.and_eq_true] at h
 obtain ⟨j,u⟩:=h
 refine ⟨fun d m f => ?_,fun d m f => ?_,fun d m hy => ?_⟩
 ·rw [m] at j
  simp only [Bool.and_eq_true,Bool.not_eq_true',any_eq_false] at j
  exact j.1 d f (Nat.beq_refl d)
 ·rw [m] at u
  simp only [Bool.not_eq_true',any_eq_false] at u
  exact u d f (Nat.beq_refl d)
 ·rw [m] at j
  simp only [Bool.and_eq_true,Bool.not_eq_true',any_eq_false] at j
  exact j.2 d (by rw [hy];simp) (Nat.beq_refl d)
theorem mP (lt:Bool) (ops:List Oper) (f:List Nat):∀ (l:List Nat),o8 lt ops f l=true->l.Pairwise fun j i=>yu lt ops f j i=true
 | [],_ => .nil
 | j::r,h=>by
  simp only [o8,Bool.and_eq_true,all_eq_true] at h
  exact .cons h.1 (mP lt ops f r h.2)
theorem sV {C:Cfg R} {lt:Bool} {ops:Array Oper} (M:Nat.beq C.base 0=false) (h:me lt ops.toList=true):kx ops (eZ ops.toList)/\rM C lt ops (eZ ops.toList) [] (wv ops.toList (eZ ops.toList)):=by
 unfold me at h
 rw [Bool.and_eq_true] at h
 refine ⟨DE h.1,fun i => ?_,(mP _ _ _ _ h.2).imp fun {j i} m => ?_⟩
 ·unfold wv
  rw [mem_append,mem_filter,mem_filter,mem_range]
  cases xF ops.toList (eZ ops.toList) i <;> simp
 ·unfold yu at m
  simp only [Bool.and_eq_true,Bool.not_eq_true',Bool.or_eq_true] at m
  obtain ⟨A,N,f⟩:=m
  refine ⟨fun e=>by (subst e;rw [Nat.beq_refl] at A;cases A),N,fun x o O U=>f.imp id fun f => ?_⟩
  have u:ops.toList[j]? = some x:=by simpa using O
  have z:ops.toList[i]? = some o:=by simpa using U
  rw [u,z] at f
  simp only [Bool.or_eq_true,Bool.and_eq_true] at f
  rcases f with f|⟨⟨V,W⟩,X⟩
  ·obtain ⟨g1,g2⟩:=apart_spec f
   exact ⟨g1,.inl g2⟩
  ·exact ⟨rQ X,.inr ⟨V,W,M⟩⟩
section
variable {P:Program} {E:Env} {s:St} {a:Act} {w:World} {κ:St->Option R} {r:R} {C:Cfg R} {tab:cg} {ops:Array Oper}
def ew (ord:List Nat) (listed:Array Bool):List Nat:=ord.filter fun i => !listed.getD i true
theorem fy {ord:List Nat} {i:Nat} {listed:Array Bool}:i∈ew ord listed ↔ i∈ord/\listed.getD i true=false:=by
 unfold ew;rw [mem_filter];simp
theorem qI {ord:List Nat} {i:Nat} {listed:Array Bool} (m:ord.Pairwise (· ≠ ·)) (M:i<listed.size) {xs u:List Nat} (h:ew ord listed=xs++i::u):ew ord (listed.setIfInBounds i true)=xs++u:=by
 have N:ew ord (listed.setIfInBounds i true)=(ew ord listed).filter (fun j=>decide (j≠i)):=by
  unfold ew
  rw [List.filter_filter]
  refine List.filter_congr fun j f => ?_
  rw [Array.getD_eq_getD_getElem?,Array.getD_eq_getD_getElem?,Array.getElem?_setIfInBounds]
  by_cases e:i=j
  ·subst e;simp [M]
  ·rw [if_neg e];simp [Ne.symm e]
 have z:(ew ord listed).Pairwise (· ≠ ·):=List.Pairwise.filter _ m
 rw [N,h,List.filter_append,List.filter_cons]
 rw [h,List.pairwise_append] at z
 obtain ⟨p1,A,O⟩:=z
 rw [List.pairwise_cons] at A
 rw [if_neg (by simp)]
 congr 1
 ·refine List.filter_eq_self.2 fun j f => ?_
  have:=O j f i (by simp);simpa using this
 ·refine List.filter_eq_self.2 fun j f => ?_
  have:=A.1 j f;simpa using Ne.symm this
theorem AM (ops:Array Oper) (xs f:List Nat):(xs++f).filterMap (ops[·]?)=xs.filterMap (ops[·]?)++f.filterMap (ops[·]?):=List.filterMap_append
theorem o6 {T:List Nat} {j:Nat}:Hs T j=true ↔ j∈T:=by
 unfold Hs
 rw [List.any_eq_true]
 exact ⟨fun ⟨t,f,m⟩=>Nat.eq_of_beq_eq_true m▸f,fun h=>⟨j,h,Nat.beq_refl j⟩⟩
theorem oC {f T:List Nat} {i j:Nat} (h:mQ f T i=true) (m:j<i) (u:j ∉ T):(f.getD i 0).testBit j=true:=by
 unfold mQ at h
 rw [Bool.and_eq_true,all_eq_true] at h
 have:=h.1 j (List.mem_range.2 m)
 rw [Bool.or_eq_true] at this
 exact this.resolve_left fun h=>u (o6.1 h)
theorem mR {f T:List Nat} {i j:Nat} (h:mQ f T i=true) (z:i<j) (m:j<f.length) (u:j ∉ T):(f.getD j 0).testBit i=true:=by
 unfold mQ at h
 rw [Bool.and_eq_true,all_eq_true,all_eq_true] at h
 have:=h.2 j (List.mem_range.2 m)
 rw [Bool.or_eq_true,Bool.or_eq_true] at this
 rcases this with h|h|h
 ·have:=Nat.le_of_ble_eq_true h;omega
 ·exact absurd (o6.1 h) u
 ·exact h
theorem nN {f T:List Nat} {r:List Nat}:∀ (xs:List Nat) {s:St},(∀ j∈xs,j<ops.size/\mQ f T j=false)->jm C ops f T (xs++r) s κ=e9 C true ops (xs.filterMap (ops[·]?)) s (fun s'=>jm C ops f T r s' κ)
 | [],s,_=>rfl
 | j::xs,s,h=>by
  obtain ⟨u,z⟩:=h j (by simp)
  have m:ops[j]? = some ops[j]:=Array.getElem?_eq_getElem u
  rw [List.filterMap_cons_some (by exact m)]
  show jm C ops f T (j::(xs++r)) s κ=dq C true ops ops[j] s (fun s'=>e9 C true ops (xs.filterMap (ops[·]?)) s' (fun s'=>jm C ops f T r s' κ))
  simp only [jm,m,z,Bool.not_false]
  congr 1
  funext s'
  exact nN xs fun k A=>h k (by simp [A])
theorem wV {c:Cx} {x:SV} {v:Value} {k:Nat} (h:S2 c x v) (f:tok x=some k):c.D k:=by
 cases x <;> simp only [tok] at f <;> try (cases f;done)
 case cls g j =>
  cases j with
  | nil=>cases f
  | cons u m=>simp only [List.head?_cons,Option.some.injEq] at f;subst f;exact h.1 u (by simp)
 all_goals
  simp only [Option.some.injEq] at f;subst f
  exact h.1
theorem BX {c:Cx} {x:SV} {v:Value} {k:Nat} (h:SL c x v) (f:tok x=some k):c.D k:=by
 cases x <;> simp only [tok] at f <;> try (cases f;done)
 case cls g j =>
  cases j with
  | nil=>cases f
  | cons u m=>simp only [List.head?_cons,Option.some.injEq] at f;subst f;exact h.1 u (by simp)
 all_goals
  simp only [Option.some.injEq] at f;subst f
  exact h.1
theorem xm {A B:Type} {S:A->B->Prop}:∀ {l:List A} {m:List B},PW S l m->∀ x∈l,∃ y,S x y
 | [],_,_,x,f=>by cases f
 | a::l,b::m,h,x,f=>by
  rcases List.mem_cons.1 f with rfl|f
  ·exact ⟨b,h.1⟩
  ·exact xm h.2 x f
 | _::_,[],h,_,_=>h.elim
theorem Dg {c:Cx} {x z:SV} {v:Value} {k:Nat} (h:S2 c x v) (f:z∈leaves x) (j:tok z=some k):c.D k:=by
 rcases gS x with ⟨l,rfl⟩|m
 ·obtain ⟨cs,rfl,A⟩:=jx h
  obtain ⟨u,hu⟩:=xm A z f
  exact BX hu j
 ·have:z=x:=by
   have M:leaves x=[x]:=by cases x <;> first|rfl|exact absurd rfl (m _)
   rw [M] at f;simpa using f
  subst this
  exact wV h j
theorem Ea (hP:Ok P C.ty) (hE:ee C tab E) (hD:∀ g,bT P C.ty tab g (C.call g)) {lt:Bool} (be:lt=true->BK C) {M T ord:List Nat} (d':kx ops M) (b5:rM C lt ops M T ord) {Q:Exit->Act->World->Prop} (hQ:∀ s' a' w',κ s'=some r->dj E s' a' w'->Q .normal a' w') :
  ∀ (fuel:Nat) (listed:Array Bool) {s:St} {a:Act} {w:World},(∀ j∈T,listed.getD j true=true)->listed.size=ops.size->(∀ i,i<ops.size->listed.getD i false=true->∀ j,(M.getD i 0).testBit j=true->listed.getD j false=true) ->
   (ew ord listed).length=fuel->dj E s a w->jm C ops M T (ew ord listed) s κ=some r->wpAny P .any ops Q fuel listed a w:=by
 obtain ⟨ep,hM⟩:=d'
 obtain ⟨A,b1⟩:=b5
 have b':ord.Pairwise (· ≠ ·):=b1.imp fun h=>h.1
 intro fuel
 induction fuel with
 | zero =>
  intro listed s a w hT hs hinv hl hr hk
  have a7:∀ j,listed.getD j true=false->j ∉ T:=fun j f ht=>by rw [hT j ht] at f;cases f
  have h0:ew ord listed=[]:=eq_nil_of_length_eq_zero hl
  refine ⟨?_,?_⟩
  ·unfold Region.ready
   refine List.filter_eq_nil_iff.2 fun i hi => ?_
   have:i ∉ ew ord listed:=by rw [h0];simp
   rw [fy,A] at this
   have m:=List.mem_range.1 hi
   have:listed.getD i true=true:=by
    cases hv:listed.getD i true with
    | true=>rfl
    | false=>exact absurd ⟨⟨m,a7 i hv⟩,hv⟩ this
   rw [this];simp
  ·rw [h0] at hk;exact hQ s a w hk hr
 | succ fuel ih =>
  intro listed s a w hT hs hinv hl hr hk
  have a7:∀ j,listed.getD j true=false->j ∉ T:=fun j f ht=>by rw [hT j ht] at f;cases f
  refine ⟨fun ca => ?_,fun i hi => ?_⟩
  ·exfalso
   cases ap:ew ord listed with
   | nil=>rw [ap] at hl;simp at hl
   | cons i ys =>
    have ea:i∈ew ord listed:=by rw [ap];simp
    obtain ⟨m,a8⟩:=fy.1 ea
    have m:=((A i).1 m).1
    have:i∈Region.ready .any ops listed:=by
     unfold Region.ready
     rw [mem_filter]
     refine ⟨List.mem_range.2 m,?_⟩
     rw [a8,Array.getElem?_eq_getElem m]
     simp only [Bool.not_false,Option.map_some,Option.getD_some,Bool.true_and]
     rw [<- Array.all_toList,all_eq_true]
     intro e he
     simp only [Bool.or_eq_true,Bool.not_eq_true']
     cases hb:Region.binds .any e with
     | false=>exact .inl rfl
     | true =>
      right
      obtain ⟨m1,m2⟩:=hM i _ (Array.getElem?_eq_getElem m)
      have en:=(m1 _ (m2 e he hb)).1
      have ax:e.on ∉ ew ord listed:=fun cl=>by
       have hp:(ew ord listed).Pairwise _:=List.Pairwise.filter _ b1
       rw [ap] at cl hp
       rcases List.mem_cons.1 cl with e1|h1
       ·omega
       ·have:=((List.pairwise_cons.1 hp).1 _ h1).2.1
        rw [m2 e he hb] at this;cases this
      have X:e.on<listed.size:=by omega
      rw [fy,A] at ax
      rw [Array.getD_eq_getD_getElem?,Array.getElem?_eq_getElem X] at ax ⊢
      simp only [Option.getD_some] at ax ⊢
      cases hv:listed[e.on] with
      | true=>rfl
      | false=>exact absurd ⟨⟨by omega,a7 _ (by rw [Array.getD_eq_getD_getElem?,Array.getElem?_eq_getElem X];exact hv)⟩,hv⟩ ax
    rw [ca] at this;cases this
  ·have et:=hi
   unfold Region.ready at hi
   rw [mem_filter] at hi
   obtain ⟨m,hi⟩:=hi
   have m:=List.mem_range.1 m
   simp only [Bool.and_eq_true,Bool.not_eq_true'] at hi
   obtain ⟨a8,N⟩:=hi
   have bb:ops[i]? = some ops[i]:=Array.getElem?_eq_getElem m
   rw [bb] at N
   simp only [Option.map_some,Option.getD_some] at N
   rw [<- Array.all_toList,all_eq_true] at N
   obtain ⟨m1,m2⟩:=hM i _ bb
   have ad:∀ j,(M.getD i 0).testBit j=true->listed.getD j false=true:=by
    intro j f
    obtain ⟨_,e,he,hb,h⟩:=m1 j f
    have bk:listed.getD e.on false=true:=by
     have:=N e he
     simpa [hb] using this
    rcases h with rfl|h
    ·exact bk
    ·have:=(m1 e.on (m2 e he hb)).1
     exact hinv e.on (by omega) bk j h
   obtain ⟨xs,ys,W⟩:=List.append_of_mem (fy.2 ⟨(A i).2 ⟨m,a7 i a8⟩,a8⟩)
   have hp:(ew ord listed).Pairwise _:=List.Pairwise.filter _ b1
   rw [W,List.pairwise_append] at hp
   have cp:∀ x∈xs.filterMap (ops[·]?),Jf C lt ops x ops[i]:=by
    intro x hx
    obtain ⟨j,f,bP⟩:=List.mem_filterMap.1 hx
    have bS:=hp.2.2 j f i (by simp)
    have ey:j<ops.size:=(Array.getElem?_eq_some_iff.1 bP).1
    refine (bS.2.2 x _ bP bb).resolve_left fun hb => ?_
    have h1:=ad j hb
    have h2:=(fy.1 (show j∈ew ord listed by rw [W];simp [f])).2
    have X:j<listed.size:=by omega
    rw [Array.getD_eq_getD_getElem?,Array.getElem?_eq_getElem X] at h1 h2
    simp only [Option.getD_some] at h1 h2
    rw [h1] at h2;cases h2
   have Y:∀ j∈xs,(j≠i/\(M.getD j 0).testBit i=false)/\j<ops.size/\listed.getD j false=false:=by
    intro j f
    have h2:=fy.1 (show j∈ew ord listed by rw [W];simp [f])
    have bS:=hp.2.2 j f i (by simp)
    refine ⟨⟨bS.1,bS.2.1⟩,((A j).1 h2.1).1,?_⟩
    have X:j<listed.size:=by rw [hs];exact ((A j).1 h2.1).1
    have h3:=h2.2
    rw [Array.getD_eq_getD_getElem?,Array.getElem?_eq_getElem X] at h3 ⊢
    exact h3
   have a6:∀ j∈xs,mQ M T j=false:=by
    intro j f
    obtain ⟨h1,h2,h3⟩:=Y j f
    cases ar:mQ M T j with
    | false=>rfl
    | true =>
     rcases Nat.lt_or_gt_of_ne h1.1 with O|O
     ·have:=ad j (mR ar O (by omega) (a7 i a8))
      rw [h3] at this;cases this
     ·have:=oC ar O (a7 i a8)
      rw [h1.2] at this;cases this
   have ct:∀ s':St,jm C ops M T (ew ord (listed.setIfInBounds i true)) s' κ=e9 C true ops (xs.filterMap (ops[·]?)) s' (fun s2=>jm C ops M T ys s2 κ):=by
    intro s'
    rw [qI b' (by omega) W]
    exact nN xs fun j f=>⟨(Y j f).2.1,a6 j f⟩
   have ae:∃ q,dq C q ops ops[i] s (fun s'=>jm C ops M T (ew ord (listed.setIfInBounds i true)) s' κ)=some r:=by
    simp only [ct]
    cases ar:mQ M T i with
    | true =>
     have eb:xs=[]:=by
      cases xs with
      | nil=>rfl
      | cons j xs =>
       obtain ⟨h1,h2,h3⟩:=Y j (by simp)
       rcases Nat.lt_or_gt_of_ne h1.1 with O|O
       ·have:=ad j (oC ar O ((A j).1 (fy.1 (show j∈ew ord listed by rw [W];simp)).1).2)
        rw [h3] at this;cases this
       ·have:=mR ar O (by omega) ((A j).1 (fy.1 (show j∈ew ord listed by rw [W];simp)).1).2
        rw [h1.2] at this;cases this
     subst eb
     rw [W] at hk
     simp only [nil_append,jm,bb,ar,Bool.not_true] at hk
     exact ⟨false,hk⟩
    | false =>
     refine ⟨true,?_⟩
     have U:jm C ops M T ((xs++[i])++ys) s κ=some r:=by rw [append_assoc];rw [W] at hk;exact hk
     rw [nN (xs++[i]) (fun j f=>by
      rcases List.mem_append.1 f with f|f
      ·exact ⟨(Y j f).2.1,a6 j f⟩
      ·simp only [mem_singleton] at f;subst f;exact ⟨m,ar⟩)] at U
     rw [AM,List.filterMap_cons_some bb,List.filterMap_nil] at U
     show e9 C true ops (ops[i]::xs.filterMap (ops[·]?)) s (fun s2=>jm C ops M T ys s2 κ)=some r
     have c0:e9 C true ops (ops[i]::(xs.filterMap (ops[·]?)++[])) s (fun s2=>jm C ops M T ys s2 κ)=some r:=by
      have bV:=fun x hx=>cp x hx
      have bs:∀ (x:Oper) (s:St),(∃ a w,dj E s a w)->Tk ops x s/\Nm s.objs s.next/\IA s/\Il s:=by
       rintro x s ⟨a,w,β,Rt,Ra,h⟩
       refine ⟨fun t _ k hk=>wV (h.slots t) hk,fun t o ho=>h.lt t o ho,fun t z hz k hk=>Dg (h.slots t) hz hk,fun t ty ls ho z hz j f => ?_⟩
       obtain ⟨cs,_,_,hp⟩:=h.objs t _ ho
       obtain ⟨u,hu⟩:=xm hp z hz
       have hn:z ≠ .nos:=fun e=>by subst e;cases f
       have ed:SL (bI E s w β Rt Ra) z u:=by
        unfold lS at hu;split at hu
        ·exact absurd rfl hn
        ·exact hu
       exact BX ed f
      by_cases hc:cls lt ops[i]=0
      ·by_cases hn:∀ K:St->Option R,dq C true ops ops[i] s K=none
       ·rw [FZ be hc _ (fun x hx=>(bV x hx).1) hn] at U
        obtain ⟨_,_,_,bx,_⟩:=mM hP hE hD xs (fun j f=>(Y j f).2.1) hr U
        cases bx
       ·have hn:∃ K,dq C true ops ops[i] s K≠none:=Classical.not_forall.1 hn
        obtain ⟨K,hK⟩:=hn
        obtain ⟨r0,b2⟩:=Option.ne_none_iff_exists'.1 hK
        obtain ⟨u,V⟩:=n0 (lt:=lt) (by omega) b2
        rw [FW be hc _ (fun x hx=>(bV x hx).1) V] at U
        rw [<- U];exact V _
      ·by_cases b3:cls lt ops[i]<=1
       ·have c':∀ x∈xs.filterMap (ops[·]?),u4 ops x ops[i]/\cls lt x<=2:=fun x hx=>by
         obtain ⟨g1,g2⟩:=bV x hx
         refine ⟨g1,?_⟩
         rcases g2 with g2|⟨g2,_⟩
         ·omega
         ·rw [AE g2];exact Nat.le_refl _
        obtain ⟨ht,dg,_⟩:=bs ops[i] s ⟨a,w,hr⟩
        by_cases hn:∀ K:St->Option R,dq C true ops ops[i] s K=none
        ·rw [F1 be b3 _ c' ht dg hn] at U
         obtain ⟨_,_,_,bx,_⟩:=mM hP hE hD xs (fun j f=>(Y j f).2.1) hr U
         cases bx
        ·have hn:∃ K,dq C true ops ops[i] s K≠none:=Classical.not_forall.1 hn
         obtain ⟨K,hK⟩:=hn
         obtain ⟨r0,b2⟩:=Option.ne_none_iff_exists'.1 hK
         obtain ⟨u,V⟩:=n0 (lt:=lt) b3 b2
         rw [FX be b3 _ c' ht dg V] at U
         rw [<- U];exact V _
       ·refine zN be (fun s=>∃ a w,dj E s a w) bs _ (fun x hx => ?_) (fun x hx s1 u ei n' => ?_) ⟨a,w,hr⟩ U
        ·obtain ⟨g1,g2⟩:=bV x hx
         exact ⟨g1,g2.imp (fun g2=>by omega) id⟩
        ·rintro ⟨a1,w1,e0,e2,e3,h1⟩ V
         obtain ⟨j,f,bP⟩:=List.mem_filterMap.1 hx
         have hex:∃ s' a' w',(fun s2:St=>@ite _ (s2=(⟨s1.slots,ei,n'⟩:St).put x.dst u) (Classical.propDecidable _) (some r) none) s'=some r/\dj E s' a' w':=
          vE (gN hP hE hD h1 bP ((V _).trans (by simp)))
         obtain ⟨s',a',w',he,b4⟩:=hex
         simp only at he
         split at he
         ·rename_i e;subst e;exact ⟨a',w',b4⟩
         ·cases he
     rwa [append_nil] at c0
   obtain ⟨q,ae⟩:=ae
   obtain ⟨β,Rt,Ra,h⟩:=hr
   refine gN hP hE hD h bb ae _ _ fun s' a' w' ek b4 => ?_
   refine ih (listed.setIfInBounds i true) (fun j f => ?_) (by simpa using hs) (fun i' dr b0 j f => ?_) ?_ b4 ek
   ·have:=hT j f
    rw [Array.getD_eq_getD_getElem?] at this ⊢
    rw [Array.getElem?_setIfInBounds]
    split
    ·split <;> rfl
    ·exact this
   ·have get:∀ k,(listed.setIfInBounds i true).getD k false=true ↔ k=i∨listed.getD k false=true:=by
     intro k
     rw [Array.getD_eq_getD_getElem?,Array.getD_eq_getD_getElem?,Array.getElem?_setIfInBounds]
     by_cases e:i=k
     ·subst e;simp [hs,m]
     ·rw [if_neg e];simp [Ne.symm e]
    rw [get] at b0 ⊢
    right
    rcases b0 with rfl|b0
    ·exact ad j f
    ·exact hinv i' dr b0 j f
   ·rw [qI b' (by omega) W]
    rw [W] at hl
    simp at hl ⊢;omega
theorem E' {lt:Bool} {M T ord:List Nat} (h:rM C lt ops M [] ord):rM C lt ops M T (mN T ord):=by
 refine ⟨fun i => ?_,List.Pairwise.filter _ h.2⟩
 unfold mN
 rw [mem_filter,h.1 i]
 simp only [Bool.not_eq_true',List.mem_nil_iff,not_false_eq_true,and_true]
 constructor
 ·rintro ⟨j,f⟩;exact ⟨j,fun m=>by rw [o6.2 m] at f;cases f⟩
 ·rintro ⟨j,f⟩
  refine ⟨j,?_⟩
  cases u:Hs T i with
  | false=>rfl
  | true=>exact absurd (o6.1 u) f
theorem yR {f:List Nat} {i:Nat} (h:i∈w5 ops f):sP ops=true/\i<ops.size/\f.getD i 1=0/\vv ops i=true:=by
 unfold w5 at h
 cases j:sP ops with
 | false=>rw [j] at h;cases h
 | true =>
  rw [j,cond_true,mem_filter] at h
  simp only [Bool.and_eq_true] at h
  exact ⟨rfl,List.mem_range.1 h.1,Nat.eq_of_beq_eq_true h.2.1,h.2.2⟩
theorem qZ {Qn:Act->World->Prop} {M:List Nat} (N:kx ops M):∀ (T:List Nat) (fuel:Nat) (listed:Array Bool) {s:St} {a:Act} {w:World},T.Nodup->(∀ i∈T,sP ops=true/\i<ops.size/\M.getD i 1=0/\vv ops i=true)->(∀ i∈T,listed.getD i true=false)->listed.size=ops.size->dj E s a w ->
  (∀ a',dj E (lP ops T s) a' w->wpAny P .any ops (fun e a w=>e = .normal/\Qn a w) fuel (T.foldl (fun l i=>l.setIfInBounds i true) listed) a' w) ->
  wpAny P .any ops (fun e a w=>e = .normal/\Qn a w) (fuel+T.length) listed a w
 | [],fuel,listed,s,a,w,_,_,_,_,h,hn=>hn a h
 | i::T,fuel,listed,s,a,w,ae,hT,hl,hs,⟨β,Rt,Ra,h⟩,hn=>by
  obtain ⟨X,O,U,f⟩:=hT i (by simp)
  have A:=List.nodup_cons.1 ae
  have z:ops[i]? = some ops[i]:=Array.getElem?_eq_getElem O
  unfold vv at f
  rw [z] at f
  simp only [Bool.and_eq_true] at f
  obtain ⟨u,Y⟩:=f
  unfold HK at u
  rw [Bool.and_eq_true,Option.isNone_iff_eq_none] at u
  obtain ⟨u,hg⟩:=u
  obtain ⟨x,hx⟩:∃ x,ops[i].op = .move x:=by
   split at u
   ·rename_i x e;exact ⟨x,e⟩
   ·cases u
  have ap:lP ops (i::T) s=lP ops T (s.put ops[i].dst (ev s x)):=by
   show lP ops T _=_
   rw [z];simp only [hx]
  have hy:Yields P ops ops[i] (a.eval x) a := .inl ⟨by unfold Region.wanted;rw [hg],fun w=>by unfold execOp;rw [hx];rfl⟩
  have hlen:fuel+(i::T).length=(fuel+T.length)+1:=by simp;omega
  rw [hlen]
  refine wpAny_first z (fun j o cs b ho e => ?_) (fun c a w hq=>by cases hq.1) _ _ _ _ (fun j oj V ar a7 ax => ?_) ?_ hy ?_
  ·have:=List.all_eq_true.1 X o (by have:=Array.mem_of_getElem? ho;simpa using this)
   rw [e] at this;cases this
  ·rw [all_eq_true] at Y
   have m:=Y j (List.mem_range.2 (Array.getElem?_eq_some_iff.1 V).1)
   rw [V] at m
   simp only [Bool.or_eq_true] at m
   rcases m with m|m|m
   ·exact absurd (Nat.eq_of_beq_eq_true m) ar
   ·obtain ⟨e,he,hb⟩:=List.any_eq_true.1 m
    rw [Bool.and_eq_true] at hb
    exact absurd (Nat.eq_of_beq_eq_true hb.2) (ax e (by simpa using he) hb.1)
   ·have W:=rQ m
    unfold Oper.apart
    have ad:∀ o:Oper,o.looksAt ops=looks ops.toList o:=fun o=>by
     unfold Oper.looksAt looks
     congr 1
     cases o.guard with
     | none=>rfl
     | some g=>obtain ⟨g,t⟩:=g;simp
    rw [ad,ad,Bool.and_eq_true]
    refine ⟨?_,?_⟩
    ·cases hd:ops[i].dst with
     | none=>rfl
     | some d =>
      have g1:=W.xl d hd
      have g2:=W.ne d hd
      simp [g1,g2]
    ·cases hd:oj.dst with
     | none=>rfl
     | some d =>
      have g1:=W.yl d hd
      simp [g1]
  ·unfold Region.ready
   rw [mem_filter]
   refine ⟨List.mem_range.2 O,?_⟩
   rw [hl i (by simp),z]
   simp only [Bool.not_false,Option.map_some,Option.getD_some,Bool.true_and]
   rw [<- Array.all_toList,all_eq_true]
   intro e he
   simp only [Bool.or_eq_true,Bool.not_eq_true']
   left
   cases hb:Region.binds .any e with
   | false=>rfl
   | true =>
    have m:=(N.2 i _ z).2 e he hb
    have a1:i<M.length:=by rw [N.1];exact O
    rw [List.getD_eq_getElem?_getD,List.getElem?_eq_getElem a1] at U m
    simp only [Option.getD_some] at U m
    rw [U] at m;simp at m
  ·refine qZ N T fuel _ (s:=s.put ops[i].dst (ev s x)) A.2 (fun j V=>hT j (by simp [V])) (fun j V => ?_) (by simpa using hs) ⟨β,Rt,Ra,h.put _ (ck h x)⟩ (fun a' h' => ?_)
   ·have:=hl j (by simp [V])
    have a6:i≠j:=fun e=>A.1 (e▸V)
    rw [Array.getD_eq_getD_getElem?,Array.getElem?_setIfInBounds,if_neg a6,<- Array.getD_eq_getD_getElem?];exact this
   ·exact hn a' (by rw [ap];exact h')
theorem qE (hP:Ok P C.ty) (N:ee C tab E) (hD:∀ g,bT P C.ty tab g (C.call g)) {id:Nat} {dr:Bool} (h:dj E s a w) (m:Bo C ops dr s κ=some r) {Qn:Act->World->Prop} (hQ:∀ s' a' w',κ s'=some r->dj E s' a' w'->Qn a' w'):(Code.region id ops dr).wp P (fun e a w=>e = .normal/\Qn a w) a w:=by
 have ae:∀ s' a' w',κ s'=some r->dj E s' a' w'->(fun (e:Exit) a w=>e = .normal/\Qn a w) .normal a' w':=fun s' a' w' O M=>⟨rfl,hQ s' a' w' O M⟩
 cases dr with
 | false =>
  refine wp_region ?_
  rw [List.range_eq_range',show ops.size=ops.toList.length by simp]
  exact lF hP N hD ae ops.toList 0 (by simp) h m
 | true =>
  refine wp_region_any hP.mixed ?_
  unfold Bo at m
  simp only [cond_true] at m
  have hx:dj E s a { w with drawn:=w.drawn+1 }:=by
   obtain ⟨β,Rt,Ra,h⟩:=h
   exact ⟨β,Rt,Ra,h.jO ⟨rfl,rfl,rfl,Nat.le_refl _,fun _ _ _=>rfl⟩⟩
  have main:∀ (T:List Nat) (s:St),T.Nodup->(∀ i∈T,sP ops=true/\i<ops.size/\(eZ ops.toList).getD i 1=0/\vv ops i=true)->dj E s a { w with drawn:=w.drawn+1 }->Ha C ops (eZ ops.toList) T (lP ops T s) κ=some r->wpAny P .any ops (fun e a w=>e = .normal/\Qn a w) ops.size (Array.replicate ops.size false) a { w with drawn:=w.drawn+1 }:=by
   intro T s ap hT h m
   have any:∀ (z:Cfg R) (lt:Bool) (ord:List Nat),(lt=true->BK z)->(∀ g,bT P z.ty tab g (z.call g))->Ok P z.ty->ee z tab E->kx ops (eZ ops.toList)->rM z lt ops (eZ ops.toList) [] ord->(L:St->St)->(∀ s a w,dj E s a w->dj E (L s) a w)->jm z ops (eZ ops.toList) T (mN T ord) (L (lP ops T s)) κ=some r->wpAny P .any ops (fun e a w=>e = .normal/\Qn a w) ops.size (Array.replicate ops.size false) a { w with drawn:=w.drawn+1 }:=by
    intro z lt ord a6 a7 a8 bb W ar L hL m
    have f:=E' (T:=T) ar
    have X:ops.size=(mN T ord).length+T.length:=by
     have hp:(mN T ord++T).Perm (List.range ops.size):=by
      refine (List.perm_ext_iff_of_nodup ?_ List.nodup_range).2 fun i => ?_
      ·rw [nodup_append]
       refine ⟨f.2.imp fun h=>h.1,ap,fun x hx y hy e => ?_⟩
       subst e
       exact ((f.1 x).1 hx).2 hy
      ·rw [mem_append,f.1,mem_range]
       constructor
       ·rintro (h|h)
        ·exact h.1
        ·exact (hT i h).2.1
       ·intro h
        by_cases ht:i∈T
        ·exact .inr ht
        ·exact .inl ⟨h,ht⟩
     have:=hp.length_eq
     simpa using this.symm
    have U:∀ (T:List Nat) (l:Array Bool) (j:Nat),(T.foldl (fun l i=>l.setIfInBounds i true) l).size=l.size/\∀ b,(T.foldl (fun l i=>l.setIfInBounds i true) l).getD j b=if j∈T/\j<l.size then true else l.getD j b:=by
     intro T
     induction T with
     | nil=>intro l j;simp
     | cons t T ih =>
      intro l j
      obtain ⟨O,M⟩:=ih (l.setIfInBounds t true) j
      refine ⟨by rw [foldl_cons,O];simp,fun b => ?_⟩
      rw [foldl_cons,M]
      simp only [Array.size_setIfInBounds,mem_cons]
      by_cases h3:j<l.size
      ·by_cases h4:j∈T
       ·simp [h3,h4]
       ·rw [Array.getD_eq_getD_getElem?,Array.getElem?_setIfInBounds]
        by_cases h5:t=j
        ·subst h5;simp [h3]
        ·rw [if_neg h5,<- Array.getD_eq_getD_getElem?]
         have:¬ j=t:=fun e=>h5 e.symm
         simp [h4,this]
      ·have:(l.setIfInBounds t true).getD j b=l.getD j b:=by
        rw [Array.getD_eq_getD_getElem?,Array.getD_eq_getD_getElem?]
        simp [h3]
       simp [h3,this]
    rw [X]
    refine qZ W T _ _ ap hT (fun i Y => ?_) (by simp;exact X.symm) h fun a' h' => ?_
    ·have:=(hT i Y).2.1
     rw [Array.getD_eq_getD_getElem?,Array.getElem?_replicate,if_pos (by omega)];rfl
    ·obtain ⟨g1,_⟩:=U T (Array.replicate ((mN T ord).length+T.length) false) 0
     have g2:=fun j=>(U T (Array.replicate ((mN T ord).length+T.length) false) j).2
     have A:ew (mN T ord) (T.foldl (fun l i=>l.setIfInBounds i true) (Array.replicate ((mN T ord).length+T.length) false))=mN T ord:=by
      unfold ew
      refine List.filter_eq_self.2 fun i Y => ?_
      obtain ⟨O,M⟩:=(f.1 i).1 Y
      rw [g2,if_neg (fun h=>M h.1),Array.getD_eq_getD_getElem?,Array.getElem?_replicate,if_pos (by omega)];rfl
     refine Ea a8 bb a7 a6 W f ae _ _ (fun j hj => ?_) (by rw [g1];simp;exact X.symm) (fun i Y hl j hj => ?_) (by rw [A]) (hL _ _ _ h') (by rw [A];exact m)
     ·rw [g2]
      split
      ·rfl
      ·rename_i hn
       have:=(hT j hj).2.1
       exact absurd ⟨hj,by rw [Array.size_replicate];omega⟩ hn
     ·rw [g2] at hl
      split at hl
      ·rename_i bk
       exfalso
       have ad:=(hT i bk.1).2.2.1
       have bs:i<(eZ ops.toList).length:=by rw [W.1];exact Y
       rw [List.getD_eq_getElem?_getD,List.getElem?_eq_getElem bs] at ad hj
       simp only [Option.getD_some] at ad hj
       rw [ad] at hj;simp at hj
      ·rw [Array.getD_eq_getD_getElem?,Array.getElem?_replicate] at hl
       split at hl <;> cases hl
   unfold Ha at m
   cases h0:jC false ops.toList with
   | true =>
    rw [h0] at m
    obtain ⟨g1,g2⟩:=sW (C:=C) h0
    exact any C false _ (fun h=>by cases h) hD hP N g1 g2 (fun s=>s) (fun _ _ _ h=>h) m
   | false =>
    rw [h0,cond_false] at m
    cases O:jC true ops.toList with
    | true =>
     rw [O,cond_true] at m
     obtain ⟨g1,g2⟩:=sW (C:=nH C) O
     refine any (nH C) true _ (fun _ g xs κ hv => ?_) (fun g => ?_) hP ⟨N.1,N.2⟩ g1 g2 (fun s=>s) (fun _ _ _ h=>h) m
     ·show (bif kX xs then none else C.call g xs κ)=none
      rw [hv];rfl
     ·intro args κ r' u
      have u:(bif kX args then none else C.call g args κ)=some r':=u
      exact hD g args κ r' (fL u).2
    | false =>
     rw [O,cond_false] at m
     generalize ax:lP ops T s=s1 at m
     by_cases a1:s1.next=0
     ·-- a state with no names laid by: it cannot be
      exfalso
      have bx:∀ (s:St) (d:Option Nat) (v:SV),(s.put d v).next=s.next:=fun s d v=>by cases d <;> rfl
      have bP:∀ (T:List Nat) (s:St),(lP ops T s).next=s.next:=by
       intro T
       induction T with
       | nil=>intro s;rfl
       | cons t T ih =>
        intro s
        show (lP ops T _).next=_
        rw [ih]
        split
        ·split
         ·exact (bx _ _ _)
         ·rfl
        ·rfl
      obtain ⟨β,Rt,Ra,h⟩:=h
      have:=h.nx
      rw [<- ax,bP] at a1
      omega
     ·have hb:∀ z:Cfg R,Nat.beq (po z s1.next).base 0=false:=fun z=>by
       show Nat.beq s1.next 0=false
       cases hb:Nat.beq s1.next 0 with
       | false=>rfl
       | true=>exact absurd (Nat.eq_of_beq_eq_true hb) a1
      have V:∀ s a w,dj E s a w->dj E (vY s) a w:=by
       rintro s a w ⟨β,Rt,Ra,h⟩
       exact ⟨β,Rt,Ra,⟨⟨h.objs,fun t o ho=>Nat.lt_of_lt_of_le (h.lt t o ho) (Nat.le_add_right _ _),h.dc,h.apart,h.sub,h.rlt,h.fr,h.rt0,h.ra0,h.rt,Nat.le_trans h.nx (Nat.le_add_right _ _),h.pin⟩,h.len,h.defers,h.slots⟩⟩
      subst ax
      cases M:me false ops.toList with
      | true =>
       rw [M,cond_true] at m
       obtain ⟨g1,g2⟩:=sV (C:=po C (lP ops T s).next) (hb _) M
       exact any (po C (lP ops T s).next) false _ (fun h=>by cases h) hD hP ⟨N.1,N.2⟩ g1 g2 vY V m
      | false =>
       rw [M,cond_false] at m
       obtain ⟨hd,m⟩:=c9 m
       obtain ⟨g1,g2⟩:=sV (C:=po (nH C) (lP ops T s).next) (hb _) hd
       refine any (po (nH C) (lP ops T s).next) true _ (fun _ g xs κ hv => ?_) (fun g => ?_) hP ⟨N.1,N.2⟩ g1 g2 vY V m
       ·show (bif kX xs then none else C.call g xs κ)=none
        rw [hv];rfl
       ·intro args κ r' u
        have u:(bif kX args then none else C.call g args κ)=some r':=u
        exact hD g args κ r' (fL u).2
  refine main _ s ?_ (fun i Y=>yR Y) hx m
  unfold w5
  cases sP ops with
  | true=>exact List.Pairwise.filter _ List.nodup_range
  | false=>exact nodup_nil
end
end Go.Proofs.Ab
namespace Go.Proofs.Ab
open Go
variable {R:Type}
section
variable {E:Env} {s:St} {a:Act} {w:World} {β:Nat->Bl} {Rt Ra:Nat->Prop} {C:Cfg R}
theorem lT (a:Act) (i:Nat):a.put (some i) (a.tmps.getD i undef)=a:=by
 have:a.tmps.setIfInBounds i (a.tmps.getD i undef)=a.tmps:=by
  apply Array.ext
  ·simp
  ·intro j m f
   rw [Array.getElem_setIfInBounds]
   split
   ·rename_i e;subst e;simp [Array.getD_eq_getD_getElem?,f]
   ·rfl
 show { a with tmps:=a.tmps.setIfInBounds i (a.tmps.getD i undef) }=a
 rw [this]
theorem tM {α : Type} {S:SV -> α -> Prop}:∀ {l:List SV} {m:List α} (j:Nat) {x:SV},PW S l m->(∀ v,S (fc l j) v->S x v)->PW S (hH l j x) m
 | [],[],_,_,h,_=>h
 | _::_,_::_,0,_,h,f=>⟨f _ h.1,h.2⟩
 | _::_,_::_,j+1,_,h,f=>⟨h.1,tM j h.2 f⟩
 | [],_::_,_,_,h,_=>h.elim
 | _::_,[],_,_,h,_=>h.elim
theorem Rel.yn (h:Rel E s a w β Rt Ra) {e:Nat} (m:∃ T,E.T e=some T):∃ β',Rel E (s.new (.row e [] true)) a w β' Rt Ra/\(bI E s w β Rt Ra).Le (bI E (s.new (.row e [] true)) w β' Rt Ra)/\(β' s.next).v = .slice none 0 0/\(β' s.next).arr=false:=by
 obtain ⟨T,m⟩:=m
 have f:fx w false e T.sz (.slice none 0 0) ([]:List AV).length []:=⟨by simp,.inl ⟨rfl,rfl⟩⟩
 obtain ⟨z,le⟩:=h.toRelO.add (.row e [] true) ⟨.slice none 0 0,0,T.sz,false⟩ (fun b u=>by simp [cu,Value.ownBlock] at u) (fun b u=>by simp [cu,Value.ownBlock] at u)
  (fun le=>⟨T,[],m,rfl,f,fun i j k A=>by simp at A⟩)
 refine ⟨_,⟨z,h.len,h.defers,fH le h.slots⟩,le,?_⟩
 unfold fj;rw [if_pos rfl];exact ⟨rfl,rfl⟩
theorem wm {i j m:Nat} (Y:E.T=C.ty) (hm:yk C (j,m)=true) (h:dj E s a w):dj E (Dp i j m s) a w:=by
 unfold Dp
 split
 ·exact h
 ·split
  ·split
   ·exact dj.gi _ h
   ·exact h
  ·exact dj.gi _ h
  ·exact dj.gi _ h
 ·rename_i e
  have V:∃ T,E.T e=some T:=by
   rw [Y];exact Option.isSome_iff_exists.1 hm
  obtain ⟨β,Rt,Ra,h⟩:=h
  split
  ·rename_i t off U
   split
   ·rename_i ty ls X
    split
    ·rename_i W
     obtain ⟨β',A,le,M,f⟩:=h.yn V
     have N:(s.new (.row e [] true)).obj t=some (.var ty ls):=by rw [fJ,if_neg (Nat.ne_of_lt (h.lt t _ X))];exact X
     refine ⟨β',Rt,Ra,A.iD (w':=w) N _ (Fr.refl _ w) (fun b hb=>hb) fun O => ?_⟩
     obtain ⟨cs,q,g1,g2⟩:=A.objs t _ N
     refine ⟨cs,q,g1,tM j (g2.imp fun _ _ z=>z.le O) fun v z => ?_⟩
     rw [W] at z
     have u:v = .slice none 0 0:=z
     refine ⟨O.D _ ⟨_,by rw [fJ,if_pos rfl]⟩,?_,by rw [u];rfl,f⟩
     rw [u];exact M.symm
    ·exact ⟨β,Rt,Ra,h⟩
   ·exact ⟨β,Rt,Ra,h⟩
  ·rename_i U
   obtain ⟨β',A,le,M,f⟩:=h.yn V
   have z:=h.slots i
   rw [U] at z
   have u:a.tmps.getD i undef = .slice none 0 0:=z
   have:=A.put (some i) (x := .own s.next) (v:=a.tmps.getD i undef) (dC (dR ⟨⟨_,by rw [fJ,if_pos rfl]⟩,by rw [u];exact M.symm,by rw [u];rfl,f⟩))
   rw [lT] at this
   exact ⟨_,_,_,this⟩
  ·rename_i l U
   split
   ·rename_i W
    obtain ⟨β',A,le,M,f⟩:=h.yn V
    have z:=(h.slots i).le le
    rw [U] at z
    obtain ⟨cs,e1,e2⟩:=jx z
    have:=A.put (some i) (x := .agg (hH l j (.own s.next))) (v:=a.tmps.getD i undef) (dC ⟨cs,e1,tM j e2 fun v z=>by
     rw [W] at z
     have u:v = .slice none 0 0:=z
     exact ⟨⟨_,by rw [fJ,if_pos rfl]⟩,by rw [u];exact M.symm,by rw [u];rfl,f⟩⟩)
    rw [lT] at this
    exact ⟨_,_,_,this⟩
   ·exact ⟨β,Rt,Ra,h⟩
  ·exact ⟨β,Rt,Ra,h⟩
theorem ov {i:Nat} (f:E.T=C.ty):∀ (l:List (Nat × Nat)) {s:St},l.all (yk C)=true->dj E s a w->dj E (Dq i l s) a w
 | [],_,_,h=>h
 | (j,m)::r,s,hm,h=>by
  simp only [all_cons,Bool.and_eq_true] at hm
  exact ov f r hm.2 (wm f hm.1 h)
theorem ow (f:E.T=C.ty):∀ (l:List (Nat × List (Nat × Nat))) {s:St},vk C l=true->dj E s a w->dj E (zM l s) a w
 | [],_,_,h=>h
 | (i,l)::r,s,hm,h=>by
  simp only [vk,all_cons,Bool.and_eq_true] at hm
  exact ow f r hm.2 (ov f l hm.1 h)
theorem iL:∀ (n i:Nat) (l:List (Nat × SV)) (k:Nat),fc (fB n i l) k = .no∨∃ v,(i+k,v)∈l/\fc (fB n i l) k=v
 | 0,_,_,_ => .inl (by simp [fB,fc])
 | n+1,i,[],k=>by
  cases k with
  | zero=>exact .inl rfl
  | succ k =>
   rcases iL n (i+1) [] k with h|⟨v,h,_⟩
   ·exact .inl h
   ·cases h
 | n+1,i,(j,v)::r,k=>by
  simp only [fB]
  cases f:Nat.beq i j with
  | true =>
   have:=Nat.eq_of_beq_eq_true f;subst this
   simp only [cond_true]
   cases k with
   | zero=>exact .inr ⟨v,by simp,rfl⟩
   | succ k =>
    rcases iL n (i+1) r k with h|⟨u,h,e⟩
    ·exact .inl h
    ·exact .inr ⟨u,by rw [show i+(k+1)=i+1+k by omega];simp [h],e⟩
  | false =>
   simp only [cond_false]
   cases k with
   | zero=>exact .inl rfl
   | succ k =>
    rcases iL n (i+1) ((j,v)::r) k with h|⟨u,h,e⟩
    ·exact .inl h
    ·exact .inr ⟨u,by rw [show i+(k+1)=i+1+k by omega];exact h,e⟩
theorem km:∀ (n i:Nat) (l:List (Nat × SV)),(fB n i l).length=n
 | 0,_,_=>rfl
 | n+1,i,[]=>by simp [fB,km n]
 | n+1,i,(j,v)::r=>by
  simp only [fB]
  cases Nat.beq i j <;> simp [km n]
theorem rW (n:Nat):Nat.beq n n=true:=Nat.beq_refl n
theorem Gl {m n:Nat} (h:m≠n):Nat.beq m n=false:=by
 cases f:Nat.beq m n with
 | false=>rfl
 | true=>exact absurd (Nat.eq_of_beq_eq_true f) h
theorem nr:∀ (j:List (Nat × Nat)) {t u:Nat},iI t j=some u->(t,u)∈j
 | [],_,_,h=>by cases h
 | (a,b)::r,t,u,h=>by
  simp only [iI] at h
  cases f:Nat.beq a t with
  | true =>
   have:=Nat.eq_of_beq_eq_true f;subst this
   rw [f] at h;cases h;simp
  | false=>rw [f] at h;simp only [cond_false] at h;exact mem_cons_of_mem _ (nr r h)
theorem Bc {m:List (Nat × Nat)} (h:(m.map (·.1)).Nodup) {t u z:Nat} (A:(t,u)∈m) (M:(t,z)∈m):u=z:=by
 induction m with
 | nil=>cases A
 | cons p r N =>
  simp only [map_cons,nodup_cons] at h
  rcases List.mem_cons.1 A with rfl|f <;> rcases List.mem_cons.1 M with e|j
  ·cases e;rfl
  ·exact absurd (List.mem_map.2 ⟨_,j,rfl⟩) h.1
  ·subst e;exact absurd (List.mem_map.2 ⟨_,f,rfl⟩) h.1
  ·exact N h.2 f j
theorem Bd {m:List (Nat × Nat)} (h:(m.map (·.2)).Nodup) {t z u:Nat} (A:(t,u)∈m) (M:(z,u)∈m):t=z:=by
 induction m with
 | nil=>cases A
 | cons p r N =>
  simp only [map_cons,nodup_cons] at h
  rcases List.mem_cons.1 A with rfl|f <;> rcases List.mem_cons.1 M with e|j
  ·cases e;rfl
  ·exact absurd (List.mem_map.2 ⟨_,j,rfl⟩) h.1
  ·subst e;exact absurd (List.mem_map.2 ⟨_,f,rfl⟩) h.1
  ·exact N h.2 f j
theorem qG (objs:List (Nat × Obj)) (f:List (Nat × Nat)):∀ (N:List (Nat × Nat)) {u:Nat} {o:Obj},lookup u (qF objs f N)=some o->∃ t j,(t,u)∈N/\lookup t objs=some j/\o=j.map (zY f)
 | [],_,_,h=>by cases h
 | (x,y)::r,u,o,h=>by
  simp only [qF] at h
  split at h
  ·rename_i j m
   simp only [lookup] at h
   cases z:Nat.beq u y with
   | true =>
    have:=Nat.eq_of_beq_eq_true z;subst this
    rw [z] at h;cases h;exact ⟨x,j,by simp,m,rfl⟩
   | false =>
    rw [z] at h;simp only [cond_false] at h
    obtain ⟨t,j,A,M⟩:=qG objs f r h
    exact ⟨t,j,by simp [A],M⟩
  ·obtain ⟨t,j,A,M⟩:=qG objs f r h
   exact ⟨t,j,by simp [A],M⟩
theorem wQ (objs:List (Nat × Obj)) (f:List (Nat × Nat)):∀ (m:List (Nat × Nat)) {t u:Nat} {o:Obj},(t,u)∈m->lookup t objs=some o->∃ j,lookup u (qF objs f m)=some j
 | [],_,_,_,h,_=>by cases h
 | (x,y)::r,t,u,o,h,z=>by
  simp only [qF]
  rcases List.mem_cons.1 h with e|M
  ·cases e
   rw [z];simp only [lookup,rW,cond_true];exact ⟨_,rfl⟩
  ·obtain ⟨j,A⟩:=wQ objs f r M z
   split
   ·simp only [lookup]
    cases Nat.beq u y with
    | true=>exact ⟨_,rfl⟩
    | false=>exact ⟨j,A⟩
   ·exact ⟨j,A⟩
theorem rU (n:Nat):∀ {j:List (Nat × Nat)},below n j=true->∀ {t u:Nat},(t,u)∈j->u<n
 | [],_,_,_,h=>by cases h
 | (x,y)::r,f,t,u,h=>by
  simp only [below,Bool.and_eq_true,decide_eq_true_eq] at f
  rcases List.mem_cons.1 h with e|m
  ·cases e;exact f.1
  ·exact rU n f.2 m
theorem qy:∀ {j:List (Nat × Nat)},pinned j=true->∀ {t u:Nat},(t,u)∈j->64<=u∨t=u
 | [],_,_,_,h=>by cases h
 | (x,y)::r,f,t,u,h=>by
  simp only [pinned,Bool.and_eq_true,Bool.or_eq_true] at f
  rcases List.mem_cons.1 h with e|m
  ·cases e;exact f.1.imp Nat.le_of_ble_eq_true Nat.eq_of_beq_eq_true
  ·exact qy f.2 m
def rf (f:List (Nat × Nat)) (u:Nat):Nat:=(iI u (f.map fun p=>(p.2,p.1))).getD 0
theorem sg:∀ {f:List (Nat × Nat)} {t u:Nat},(t,u)∈f->∃ v,iI t f=some v
 | [],_,_,h=>by cases h
 | (x,y)::r,t,u,h=>by
  simp only [iI]
  cases j:Nat.beq x t with
  | true=>exact ⟨y,rfl⟩
  | false =>
   rcases List.mem_cons.1 h with e|m
   ·cases e;rw [rW] at j;cases j
   ·exact sg m
theorem tF {f:List (Nat × Nat)} (h:(f.map (·.2)).Nodup) {t u:Nat} (hm:(t,u)∈f):rf f u=t:=by
 have j:(u,t)∈f.map fun p=>(p.2,p.1):=List.mem_map.2 ⟨_,hm,rfl⟩
 obtain ⟨v,m⟩:=sg j
 unfold rf;rw [m]
 obtain ⟨p,z,e⟩:=List.mem_map.1 (nr _ m)
 obtain ⟨x,y⟩:=p
 simp only [Prod.mk.injEq] at e
 obtain ⟨rfl,rfl⟩:=e
 exact Bd h z hm
theorem wR (f:List (Nat × Nat)) (x:SV) (h:zY f x = .nos):x = .nos:=by
 cases x <;> simp only [zY] at h <;> first|rfl|(cases h;done)|(split at h <;> cases h)
theorem kb {h:List (Nat × List (Nat × Nat))} (hE:E.T=C.ty) (hm:vk C h=true) {s':St} (m:dj E s a w) (hc:vl h s=some s'):dj E s' a w:=by
 obtain ⟨β,Rt,Ra,m⟩:=ow hE h hm m
 unfold vl at hc
 simp only at hc
 generalize zM h s=s1 at m hc
 generalize uE s1 h (pins s1.objs) = ρ at hc
 obtain ⟨O,e⟩:=cf hc
 simp only [Bool.and_eq_true] at O
 obtain ⟨⟨d1,d2⟩,ad,ae⟩:=O
 replace d1:=fp d1
 replace d2:=fp d2
 cases e
 let β':Nat->Bl:=fun u => β (rf ρ u)
 have j:∀ u o,(⟨eA s1.slots.length (h.map (qf s1 ρ)),qF s1.objs ρ ρ,ez⟩:St).obj u=some o->∃ t M,(t,u) ∈ ρ /\ s1.obj t=some M/\o=M.map (zY ρ) /\ β' u = β t:=by
  intro u o N
  obtain ⟨t,M,V,W,h3⟩:=qG s1.objs ρ ρ N
  exact ⟨t,M,V,W,h3,by show β (rf ρ u) = β t;rw [tF d2 V]⟩
 have f:∀ {t u},iI t ρ = some u->(∃ o,s1.obj t=some o)->(∃ o,(⟨eA s1.slots.length (h.map (qf s1 ρ)),qF s1.objs ρ ρ,ez⟩:St).obj u=some o) /\ β' u = β t:=by
  intro t u hf ⟨o,N⟩
  have hm:=nr ρ hf
  exact ⟨wQ s1.objs ρ ρ hm N,by show β (rf ρ u) = β t;rw [tF d2 hm]⟩
 have hf:∀ x v,SL (bI E s1 w β Rt Ra) x v->SL (bI E ⟨eA s1.slots.length (h.map (qf s1 ρ)),qF s1.objs ρ ρ,ez⟩ w β' Rt Ra) (zY ρ x) v:=by
  intro x v A
  cases x <;> try exact A
  case own t =>
   simp only [zY]
   split
   ·rename_i u hu
    obtain ⟨g1,g2⟩:=f hu A.1
    exact ⟨g1,by show v=(β' u).v/\_/\(β' u).arr=false;rw [g2];exact A.2⟩
   ·trivial
  case vw t lo hi =>
   simp only [zY]
   split
   ·rename_i u hu
    obtain ⟨g1,g2⟩:=f hu A.1
    refine ⟨g1,?_⟩
    have U:=A.2
    simp only [bI] at U ⊢
    rw [g2];exact U
   ·trivial
  case ptr t off =>
   simp only [zY]
   split
   ·rename_i u hu
    obtain ⟨g1,g2⟩:=f hu A.1
    exact ⟨g1,by show v = .pointer (some ⟨(β' u).b,off,none⟩);rw [g2];exact A.2⟩
   ·trivial
  case mp t =>
   simp only [zY]
   split
   ·rename_i u hu
    obtain ⟨g1,g2⟩:=f hu A.1
    exact ⟨g1,by show v = .map (some (β' u).b);rw [g2];exact A.2⟩
   ·trivial
  case cls g X =>
   simp only [zY]
   split
   ·rename_i Y ax
    have ar:∀ (X Y:List Nat),zk ρ X=some Y->(∀ t∈X,∃ o,s1.obj t=some o)->(∀ u∈Y,∃ o,(⟨eA s1.slots.length (h.map (qf s1 ρ)),qF s1.objs ρ ρ,ez⟩:St).obj u=some o)/\(Y.map fun u=>Value.pointer (some ⟨(β' u).b,0,none⟩))=X.map fun t => .pointer (some ⟨(β t).b,0,none⟩):=by
     intro X
     induction X with
     | nil=>intro Y hu _;cases hu;exact ⟨fun u hu=>(by cases hu),rfl⟩
     | cons t X ih =>
      intro Y hu hd
      unfold zk at hu
      split at hu
      ·rename_i u l a1 hl
       cases hu
       obtain ⟨g1,g2⟩:=f a1 (hd t (by simp))
       obtain ⟨g3,g4⟩:=ih l hl (fun t ht=>hd t (by simp [ht]))
       refine ⟨fun z hz => ?_,?_⟩
       ·rcases List.mem_cons.1 hz with rfl|hz
        ·exact g1
        ·exact g3 z hz
       ·rw [map_cons,map_cons,g2,g4]
      ·cases hu
    obtain ⟨g1,g2⟩:=ar X Y ax A.1
    exact ⟨g1,A.2.trans (by rw [show (X.map fun t=>Value.pointer (some ⟨((bI E s1 w β Rt Ra).β t).b,0,none⟩))=Y.map fun u=>Value.pointer (some ⟨(β' u).b,0,none⟩) from g2.symm];rfl)⟩
   ·trivial
  case clo g t =>
   simp only [zY]
   split
   ·rename_i u hu
    obtain ⟨g1,g2⟩:=f hu A.1
    exact ⟨g1,by show v = .func (.func g) #[] #[.pointer (some ⟨(β' u).b,0,none⟩)];rw [g2];exact A.2⟩
   ·trivial
  case ap t n =>
   simp only [zY]
   split
   ·rename_i u hu
    obtain ⟨g1,g2⟩:=f hu A.1
    refine ⟨g1,?_⟩
    have U:=A.2
    simp only [bI] at U ⊢
    rw [g2];exact U
   ·trivial
  case el t i off=>trivial
  case sdp t=>trivial
  case rl e l st i off=>trivial
 refine ⟨β',Rt,Ra,⟨⟨fun u o N => ?_,fun u o N => ?_,fun u o N => ?_,fun u o u' M N a6 hn => ?_,m.sub,m.rlt,m.fr,m.rt0,m.ra0,m.rt,(show 64<=100000 by omega),fun u o N a7 => ?_⟩,?_,m.defers,fun i => ?_⟩⟩
 ·obtain ⟨t,M,V,W,rfl,e⟩:=j u o N
  rw [e]
  exact (m.objs t M W).map hf rfl (wR ρ) rfl (fun _ _ h=>h) (fun _ _ _=>rfl) (fun _ _=>rfl)
 ·obtain ⟨t,M,V,_⟩:=j u o N
  exact rU ez ad V
 ·obtain ⟨t,M,V,W,rfl,e⟩:=j u o N
  rw [e,gE];exact m.dc t M W
 ·obtain ⟨t,o1,V,W,rfl,e⟩:=j u o N
  obtain ⟨t',a8,bb,be,rfl,e'⟩:=j u' M a6
  rw [e,e',gE,gE]
  exact m.apart t o1 t' a8 W be fun e=>by subst e;exact hn (Bc d1 V bb)
 ·obtain ⟨t,M,V,W,rfl,e⟩:=j u o N
  rcases qy ae V with h3|h3
  ·omega
  ·subst h3;rw [e];exact m.pin t M W a7
 ·show (fB _ _ _).length=_
  rw [km];exact m.len
 ·show S2 _ (fc (fB _ _ _) i) _
  rcases iL s1.slots.length 0 (h.map (qf s1 ρ)) i with e|⟨v,hv,e⟩
  ·rw [e];trivial
  ·rw [e]
   obtain ⟨p,hp,e2⟩:=List.mem_map.1 hv
   unfold qf at e2
   simp only [Prod.mk.injEq,Nat.zero_add] at e2
   obtain ⟨rfl,rfl⟩:=e2
   exact BW hf (m.slots _)
end
end Go.Proofs.Ab
namespace Go.Proofs.Ab
open Go
variable {R:Type}
mutual
theorem GC:∀ (a b:AV),HE a b=true->a=b
 | .no,b,h=>by cases b <;> first|rfl|cases h
 | .int x,b,h=>by
  cases b <;> first|(cases h;done)|skip
  have h:decide (x=_)=true:=h
  rw [of_decide_eq_true h]
 | .bool x,b,h=>by
  cases b <;> first|(cases h;done)|skip
  have h:(x == _)=true:=h
  rw [eq_of_beq h]
 | .str x,b,h=>by
  cases b <;> first|(cases h;done)|skip
  have h:decide (x=_)=true:=h
  rw [of_decide_eq_true h]
 | .sl x,b,h=>by
  cases b <;> first|(cases h;done)|skip
  rw [iH x _ h]
 | .agg x,b,h=>by
  cases b <;> first|(cases h;done)|skip
  rw [iH x _ h]
theorem iH:∀ (a b:List AV),jE a b=true->a=b
 | [],b,h=>by cases b <;> first|rfl|cases h
 | x::l,b,h=>by
  cases b with
  | nil=>cases h
  | cons y m =>
   have h:(HE x y&&jE l m)=true:=h
   rw [Bool.and_eq_true] at h
   rw [GC x y h.1,iH l m h.2]
end
theorem nb {m n:Nat} (h:Nat.beq m n=true):m=n:=Nat.eq_of_beq_eq_true h
mutual
theorem GF:∀ (a b:SV),Hq a b=true->a=b
 | .agg x,b,h=>by
  cases b <;> first|(cases h;done)|skip
  rw [kC x _ h]
 | .tup x,b,h=>by
  cases b <;> first|(cases h;done)|skip
  rw [kC x _ h]
 | .vp t x,b,h=>by
  cases b <;> first|(cases h;done)|skip
  have h:(Nat.beq t _&&lp x _)=true:=h
  rw [Bool.and_eq_true] at h
  rw [nb h.1,kC x _ h.2]
 | .no,b,h=>by cases b <;> first|rfl|cases h
 | .undef,b,h=>by cases b <;> first|rfl|cases h
 | .nil,b,h=>by cases b <;> first|rfl|cases h
 | .nos,b,h=>by cases b <;> first|rfl|cases h
 | .nilp,b,h=>by cases b <;> first|rfl|cases h
 | .nilfn,b,h=>by cases b <;> first|rfl|cases h
 | .nili,b,h=>by cases b <;> first|rfl|cases h
 | .int k n,b,h=>by
  cases b <;> first|(cases h;done)|skip
  have h:(decide (k=_)&&decide (n=_))=true:=h
  rw [Bool.and_eq_true] at h
  rw [of_decide_eq_true h.1,of_decide_eq_true h.2]
 | .bool x,b,h=>by
  cases b <;> first|(cases h;done)|skip
  have h:(x == _)=true:=h
  rw [eq_of_beq h]
 | .str x,b,h=>by
  cases b <;> first|(cases h;done)|skip
  have h:decide (x=_)=true:=h
  rw [of_decide_eq_true h]
 | .ro e l st,b,h=>by
  cases b <;> first|(cases h;done)|skip
  have h:(Nat.beq e _&&(jE l _&&(st == _)))=true:=h
  simp only [Bool.and_eq_true] at h
  rw [nb h.1,iH _ _ h.2.1,eq_of_beq h.2.2]
 | .fr e l st,b,h=>by
  cases b <;> first|(cases h;done)|skip
  have h:(Nat.beq e _&&(jE l _&&(st == _)))=true:=h
  simp only [Bool.and_eq_true] at h
  rw [nb h.1,iH _ _ h.2.1,eq_of_beq h.2.2]
 | .own t,b,h=>by
  cases b <;> first|(cases h;done)|skip
  rw [nb h]
 | .vw t x y,b,h=>by
  cases b <;> first|(cases h;done)|skip
  have h:(Nat.beq t _&&(decide (x=_)&&decide (y=_)))=true:=h
  simp only [Bool.and_eq_true] at h
  rw [nb h.1,of_decide_eq_true h.2.1,of_decide_eq_true h.2.2]
 | .ptr t x,b,h=>by
  cases b <;> first|(cases h;done)|skip
  have h:(Nat.beq t _&&Nat.beq x _)=true:=h
  simp only [Bool.and_eq_true] at h
  rw [nb h.1,nb h.2]
 | .el _ _ _,b,h=>by cases b <;> cases h
 | .rl _ _ _ _ _,b,h=>by cases b <;> cases h
 | .sdp _,b,h=>by cases b <;> cases h
 | .ra _ _ _ _,b,h=>by cases b <;> cases h
 | .cls _ _,b,h=>by cases b <;> cases h
 | .ap t x,b,h=>by
  cases b <;> first|(cases h;done)|skip
  have h:(Nat.beq t _&&Nat.beq x _)=true:=h
  simp only [Bool.and_eq_true] at h
  rw [nb h.1,nb h.2]
 | .ar e n l,b,h=>by
  cases b <;> first|(cases h;done)|skip
  have h:(Nat.beq e _&&(Nat.beq n _&&jE l _))=true:=h
  simp only [Bool.and_eq_true] at h
  rw [nb h.1,nb h.2.1,iH _ _ h.2.2]
 | .fn f,b,h=>by
  cases b <;> first|(cases h;done)|skip
  rw [nb h]
 | .clo f t,b,h=>by
  cases b <;> first|(cases h;done)|skip
  have h:(Nat.beq f _&&Nat.beq t _)=true:=h
  simp only [Bool.and_eq_true] at h
  rw [nb h.1,nb h.2]
 | .mp t,b,h=>by
  cases b <;> first|(cases h;done)|skip
  rw [nb h]
theorem kC:∀ (a b:List SV),lp a b=true->a=b
 | [],b,h=>by cases b <;> first|rfl|cases h
 | x::l,b,h=>by
  cases b with
  | nil=>cases h
  | cons y m =>
   have h:(Hq x y&&lp l m)=true:=h
   rw [Bool.and_eq_true] at h
   rw [GF x y h.1,kC l m h.2]
end
theorem GD (a b:Obj) (h:Hp a b=true):a=b:=by
 cases a <;> cases b <;> first|(cases h;done)|skip
 ·have h:(Nat.beq _ _&&(jE _ _&&(_ == _)))=true:=h
  simp only [Bool.and_eq_true] at h
  rw [nb h.1,iH _ _ h.2.1,eq_of_beq h.2.2]
 ·have h:(Nat.beq _ _&&lp _ _)=true:=h
  simp only [Bool.and_eq_true] at h
  rw [nb h.1,kC _ _ h.2]
 ·have h:(decide (_=_)&&Nat.beq _ _)=true:=h
  simp only [Bool.and_eq_true] at h
  rw [of_decide_eq_true h.1,nb h.2]
 ·have h:(decide (_=_)&&(decide (_=_)&&jE _ _))=true:=h
  simp only [Bool.and_eq_true] at h
  rw [of_decide_eq_true h.1,of_decide_eq_true h.2.1,iH _ _ h.2.2]
 ·rfl
theorem zg:∀ (a b:List (Nat × Obj)),vt a b=true->a=b
 | [],[],_=>rfl
 | (a,x)::l,(b,y)::m,h=>by
  have h:(Nat.beq a b&&(Hp x y&&vt l m))=true:=h
  simp only [Bool.and_eq_true] at h
  rw [nb h.1,GD _ _ h.2.1,zg _ _ h.2.2]
 | [],_::_,h=>by cases h
 | _::_,[],h=>by cases h
theorem EM {s t:St} (h:CC s t=true):s=t:=by
 obtain ⟨a,b,c⟩:=s
 obtain ⟨d,e,f⟩:=t
 have h:(lp a d&&(vt b e&&Nat.beq c f))=true:=h
 simp only [Bool.and_eq_true] at h
 rw [kC _ _ h.1,zg _ _ h.2.1,nb h.2.2]
end Go.Proofs.Ab
namespace Go.Proofs.Ab
open Go
variable {R:Type}
def Fin (P:Program) (E:Env) (ret:St->Option R) (r:R) (b:Frame) (cs:List Frame) (m:Machine):Prop:=
 ∃ s' a' w' todo,ret s'=some r/\dj E s' a' w'/\Steps P m (lone { b.at a' todo with mode := .returning } cs w')
section
variable {P:Program} {E:Env} {s:St} {a:Act} {w:World} {r:R} {C:Cfg R} {tab:cg} {ret:St->Option R} {J:List Item->St->Option R} {b:Frame} {cs:List Frame} {ops:Array Oper}
theorem Fin.head {m m':Machine} (h:step P m = .next m') (f:Fin P E ret r b cs m'):Fin P E ret r b cs m:=
 let ⟨s',a',w',todo,h1,h2,h3⟩:=f;⟨s',a',w',todo,h1,h2,.head h h3⟩
theorem Fin.steps {m m':Machine} (h:Steps P m m') (f:Fin P E ret r b cs m'):Fin P E ret r b cs m:=
 let ⟨s',a',w',todo,h1,h2,h3⟩:=f;⟨s',a',w',todo,h1,h2,h.trans h3⟩
theorem sy {c:Operand} {t:Bool} (h:ev s c = .bool t):E4 s c t=s:=by
 unfold E4;split
 ·exact wC h
 ·rfl
theorem lL (z:Ok P C.ty) (A:ee C tab E) (M:∀ g,bT P C.ty tab g (C.call g)) {id:Nat} {ops:Array Oper} {d:Bool} {k:List Item} {κ:St->Option R} (h:dj E s a w) (N:Bo C ops d s κ=some r)
  (O:∀ s' a' w',κ s'=some r->dj E s' a' w'->Fin P E ret r b cs (lone (b.at a' k) cs w')):Fin P E ret r b cs (lone (b.at a (.code (.region id ops d)::k)) cs w):=by
 have j:=qE (id:=id) (Qn:=fun a' w'=>∃ s',κ s'=some r/\dj E s' a' w') z A M h N fun s' a' w' m u=>⟨s',m,u⟩
 obtain ⟨e,a',w',⟨rfl,s',m,u⟩,f⟩:=j b k cs
 exact .steps f (O s' a' w' m u)
theorem gl {i:Nat} (f:i<ops.size) {l:List Nat} {κ:St->Option R}:nP C ops (i::l) s κ=dq C false ops (ops[i]'f) s (fun s'=>nP C ops l s' κ):=by
 unfold nP
 rw [List.filterMap_cons_some (Array.getElem?_eq_getElem f)];rfl
theorem Hl (hP:Ok P C.ty) (hE:ee C tab E) (hD:∀ g,bT P C.ty tab g (C.call g)) (hc:Ch ops=true) (h:dj E s a w) {B:St->St->Option R} {id:Nat}
  (hk:nP C ops [0] s (fun s0=>nP C ops [1,2,3] s0 fun s1=>nP C ops [2,1,3] s0 fun s2=>B s1 s2)=some r) :
  (Code.region id ops true).wp P (fun e a' w'=>e = .normal/\((∃ s1 s2,B s1 s2=some r/\dj E s1 a' w'/\∃ a w,dj E s2 a w)∨∃ s1 s2,B s1 s2=some r/\dj E s2 a' w'/\∃ a w,dj E s1 a w)) a w:=by
 unfold Ch at hc
 simp only [Bool.and_eq_true,decide_eq_true_eq] at hc
 obtain ⟨M,c0,c1,c2,c3,c4,c5⟩:=hc
 have M:ops.size=4:=nb M
 refine wp_region_any hP.mixed ?_
 generalize hQ:(fun (e:Exit) (a':Act) (w':World)=>e=Exit.normal/\((∃ s1 s2,B s1 s2=some r/\dj E s1 a' w'/\∃ a w,dj E s2 a w)∨∃ s1 s2,B s1 s2=some r/\dj E s2 a' w'/\∃ a w,dj E s1 a w))=Q
 have step:∀ (fuel:Nat) (listed:Array Bool) (N:List Nat) {s:St} {a:Act} {w:World},G' ops listed=N->N≠[]->dj E s a w ->
   (∀ i∈N,∃ (f:i<ops.size) (κ:St->Option R),dq C false ops (ops[i]'f) s κ=some r/\∀ s' a' w',κ s'=some r->dj E s' a' w'->wpAny P .any ops Q fuel (listed.setIfInBounds i true) a' w') ->
   wpAny P .any ops Q (fuel+1) listed a w:=by
  intro fuel listed N s a w O ae ⟨β,Rt,Ra,h⟩ f
  have U:Region.ready .any ops listed=N:=O
  refine ⟨fun V=>absurd (U.symm.trans V) ae,fun i W => ?_⟩
  rw [U] at W
  obtain ⟨ap,κ,hk,hn⟩:=f i W
  exact gN hP hE hD h (Array.getElem?_eq_getElem ap) hk _ _ fun s' a' w' X Y=>hn s' a' w' X Y
 have last:∀ {a:Act} {w:World},Q .normal a w->wpAny P .any ops Q 0 #[true,true,true,true] a w:=fun h=>⟨c5,h⟩
 rw [show Array.replicate ops.size false = #[false,false,false,false] by rw [M];rfl,M]
 rw [gl (by omega)] at hk
 have h:dj E s a { w with drawn:=w.drawn+1 }:=by
  obtain ⟨β,Rt,Ra,h⟩:=h
  exact ⟨β,Rt,Ra,h.jO ⟨rfl,rfl,rfl,Nat.le_refl _,fun _ _ _=>rfl⟩⟩
 refine step 3 _ _ c0 (by simp) h fun i f => ?_
 rw [mem_singleton] at f;subst f
 refine ⟨by omega,_,hk,fun s0 a0 w0 j V => ?_⟩
 replace j:nP C ops [1,2,3] s0 (fun s1=>nP C ops [2,1,3] s0 fun s2=>B s1 s2)=some r:=j
 have ad:∀ l:List Nat,(∀ i∈l,i<4)->∀ i∈l,i<ops.size:=fun l h i f=>by rw [M];exact h i f
 refine step 2 #[true,false,false,false] _ c1 (by simp) V fun i f => ?_
 simp only [mem_cons,List.mem_nil_iff,or_false] at f
 rcases f with rfl|rfl
 ·rw [gl (by omega)] at j
  refine ⟨by omega,_,j,fun x1 a1 w1 m X => ?_⟩
  refine step 1 #[true,true,false,false] _ c2 (by simp) X fun i f => ?_
  rw [mem_singleton] at f;subst f
  rw [gl (by omega)] at m
  refine ⟨by omega,_,m,fun x2 a2 w2 u Y => ?_⟩
  refine step 0 #[true,true,true,false] _ c4 (by simp) Y fun i f => ?_
  rw [mem_singleton] at f;subst f
  rw [gl (by omega)] at u
  refine ⟨by omega,_,u,fun x3 a3 w3 z h3=>last ?_⟩
  replace z:nP C ops [2,1,3] s0 (fun s2=>B x3 s2)=some r:=z
  obtain ⟨s2,a4,w4,A,O⟩:=mM hP hE hD [2,1,3] (ad _ (by simp)) V z
  rw [<- hQ]
  exact ⟨rfl,.inl ⟨x3,s2,A,h3,a4,w4,O⟩⟩
 ·obtain ⟨s1,a4,w4,A,O⟩:=mM hP hE hD [1,2,3] (ad _ (by simp)) V j
  replace A:nP C ops [2,1,3] s0 (fun s2=>B s1 s2)=some r:=A
  rw [gl (by omega)] at A
  refine ⟨by omega,_,A,fun x1 a1 w1 m X => ?_⟩
  refine step 1 #[true,false,true,false] _ c3 (by simp) X fun i f => ?_
  rw [mem_singleton] at f;subst f
  rw [gl (by omega)] at m
  refine ⟨by omega,_,m,fun x2 a2 w2 u Y => ?_⟩
  refine step 0 #[true,true,true,false] _ c4 (by simp) Y fun i f => ?_
  rw [mem_singleton] at f;subst f
  rw [gl (by omega)] at u
  refine ⟨by omega,_,u,fun x3 a3 w3 z h3=>last ?_⟩
  rw [<- hQ]
  exact ⟨rfl,.inr ⟨s1,x3,z,h3,a4,w4,O⟩⟩
theorem pc (m:Ok P C.ty) (u:ee C tab E) (z:∀ g,bT P C.ty tab g (C.call g)):∀ (c:Code) {k:List Item} {s:St} {a:Act} {w:World} {κ:St->Option R},dj E s a w->rF C c s κ=some r ->
  (∀ s' a' w',κ s'=some r->dj E s' a' w'->Fin P E ret r b cs (lone (b.at a' k) cs w'))->Fin P E ret r b cs (lone (b.at a (.code c::k)) cs w)
 | .region id ops d,k,s,a,w,κ,h,f,j=>by
  unfold rF at f
  split at f
  ·cases f
  ·exact lL m u z h f j
 | .seq x y,k,s,a,w,κ,h,f,j=>by
  unfold rF at f
  refine .head step_seq (pc m u z x h f fun s1 a1 w1 A M => ?_)
  exact pc m u z y M A j
 | .skip,k,s,a,w,κ,h,f,j => .head step_skip (j s a w f h)
 | .cond ..,_,_,_,_,_,_,f,_=>by cases f
 | .block ..,_,_,_,_,_,_,f,_=>by cases f
 | .loop ..,_,_,_,_,_,_,f,_=>by cases f
 | .scope ..,_,_,_,_,_,_,f,_=>by cases f
 | .exit ..,_,_,_,_,_,_,f,_=>by cases f
 | .goto ..,_,_,_,_,_,_,f,_=>by cases f
 | .label ..,_,_,_,_,_,_,f,_=>by cases f
 | .ret,_,_,_,_,_,_,f,_=>by cases f
theorem uT (m:Ok P C.ty) (u:ee C tab E) (z:∀ g,bT P C.ty tab g (C.call g)) (b:Frame) (cs:List Frame):∀ (c:Code) {s:St} {a:Act} {w:World} {κ:St->Option R},dj E s a w->rF C c s κ=some r ->
  ∃ s',κ s'=some r/\∃ a w,dj E s' a w
 | .region id ops d,s,a,w,κ,h,f=>by
  unfold rF at f
  split at f
  ·cases f
  ·have A:=qE (id:=id) (Qn:=fun a' w'=>∃ s',κ s'=some r/\dj E s' a' w') m u z h f fun s' a' w' j M=>⟨s',j,M⟩
   obtain ⟨e,a',w',⟨_,s',j,M⟩,_⟩:=A b [] cs
   exact ⟨s',j,a',w',M⟩
 | .seq x y,s,a,w,κ,h,f=>by
  unfold rF at f
  obtain ⟨s1,N,a1,w1,j⟩:=uT m u z b cs x h f
  exact uT m u z b cs y j N
 | .skip,s,a,w,κ,h,f=>⟨s,f,a,w,h⟩
 | .cond ..,_,_,_,_,_,f=>by cases f
 | .block ..,_,_,_,_,_,f=>by cases f
 | .loop ..,_,_,_,_,_,f=>by cases f
 | .scope ..,_,_,_,_,_,f=>by cases f
 | .exit ..,_,_,_,_,_,f=>by cases f
 | .goto ..,_,_,_,_,_,f=>by cases f
 | .label ..,_,_,_,_,_,f=>by cases f
 | .ret,_,_,_,_,_,f=>by cases f
theorem Ca (m:Ok P C.ty) (u:ee C tab E) (z:∀ g,bT P C.ty tab g (C.call g)) {c:Operand} {x y:Code} {k:List Item} {κ:St->Option R} (h:dj E s a w) (f:Ho C c x y s κ=some r)
  (A:∀ s' a' w',κ s'=some r->dj E s' a' w'->Fin P E ret r b cs (lone (b.at a' k) cs w')):Fin P E ret r b cs (lone (b.at a (.code (.cond c x y)::k)) cs w):=by
 unfold Ho at f
 split at f
 ·rename_i t N
  obtain ⟨β,Rt,Ra,j⟩:=h
  have M:=ck j c
  rw [N] at M
  have e:a.eval c = .bool t:=M
  cases t with
  | true=>exact .head (step_cond e) (pc m u z x ⟨β,Rt,Ra,j⟩ f A)
  | false=>exact .head (step_cond e) (pc m u z y ⟨β,Rt,Ra,j⟩ f A)
 ·cases f
theorem FL (j:Ok P C.ty) (m:ee C tab E) (u:∀ g,bT P C.ty tab g (C.call g)) (b:Frame) (cs:List Frame) {c:Operand} {x y:Code} {κ:St->Option R} (h:∃ a w,dj E s a w) (f:Ho C c x y s κ=some r) :
  ∃ s',κ s'=some r/\∃ a w,dj E s' a w:=by
 obtain ⟨a,w,h⟩:=h
 unfold Ho at f
 split at f
 ·rename_i t z
  cases t with
  | true=>exact uT j m u b cs x h f
  | false=>exact uT j m u b cs y h f
 ·cases f
theorem gM {a:Act} {w:World}:∀ (n:Nat) {k p:List Item},mL n k=some p->Fin P E ret r b cs (lone (b.at a p) cs w)->Fin P E ret r b cs (lone (b.at a k) cs w)
 | 0,_,_,h,_=>by cases h
 | n+1,k,p,h,f=>by
  unfold mL at h
  split at h
  ·exact .head step_skip (gM n h f)
  ·exact .head step_inBlock (gM n h f)
  ·exact .head step_inScope (gM n h f)
  ·exact .head step_seq (gM n h f)
  ·exact .head step_inLoop (gM n h f)
  ·split at h
   ·rename_i m j;exact .head (step_exit j) (gM n h f)
   ·cases h
  ·cases h;exact f
  ·cases h
theorem vN {J:List Item->St->Option R} (A:Ok P C.ty) (j:ee C tab E) (m:∀ todo s a w,dj E s a w->J todo s=some r->Fin P E ret r b cs (lone (b.at a todo) cs w)) {p:List Item} {t1 t2:St} {a:Act} {w:World} (f:C7 C J p t1 t2=some r) (h:dj E t1 a w∨dj E t2 a w):Fin P E ret r b cs (lone (b.at a p) cs w):=by
 unfold C7 at f
 split at f
 ·split at f
  ·obtain ⟨hm,f⟩:=c9 f
   split at f
   ·rename_i M N u z
    obtain ⟨he,f⟩:=c9 f
    have he:=EM he
    rcases h with h|h
    ·exact m _ _ _ _ (by rw [<- he];exact kb j.T hm h u) f
    ·exact m _ _ _ _ (kb j.T hm h z) f
   ·cases f
  ·cases f
 ·cases f
theorem FC {J:List Item->St->Option R} (f:Ok P C.ty) (j:ee C tab E) (A:∀ g,bT P C.ty tab g (C.call g)) (Y:∀ todo s a w,dj E s a w->J todo s=some r->Fin P E ret r b cs (lone (b.at a todo) cs w)) {n id:Nat} {k:List Item} (hc:Ch ops=true) (h:dj E s a w) (z:Hk C J n ops k s=some r) :
  Fin P E ret r b cs (lone (b.at a (.code (.region id ops true)::k)) cs w):=by
 unfold Hk at z
 split at z
 ·rename_i c x y k2
  split at z
  ·rename_i p hp
   have N:=Hl (id:=id) f j A hc h z
   obtain ⟨e,a',w',⟨rfl,hq⟩,M⟩:=N b (.code (.cond c x y)::k2) cs
   refine .steps M ?_
   rcases hq with ⟨s1,s2,O,U,V⟩|⟨s1,s2,O,V,U⟩
   ·refine Ca f j A U O fun t1 a1 w1 m W => ?_
    obtain ⟨t2,u,_⟩:=FL f j A b cs V m
    exact gM n hp (vN f j Y u (.inl W))
   ·obtain ⟨t1,m,_⟩:=FL f j A b cs U O
    refine Ca f j A V m fun t2 a2 w2 u X => ?_
    exact gM n hp (vN f j Y u (.inr X))
  ·cases z
 ·cases z
theorem nY (M:Ok P C.ty) (u:ee C tab E) (N:∀ g,bT P C.ty tab g (C.call g)) (O:∀ todo s a w,dj E s a w->J todo s=some r->Fin P E ret r b cs (lone (b.at a todo) cs w)) :
  ∀ (n:Nat) (todo:List Item) (s:St) (a:Act) (w:World),dj E s a w->u9 C J ret n todo s=some r->Fin P E ret r b cs (lone (b.at a todo) cs w)
 | 0,_,_,_,_,_,h=>by cases h
 | n+1,todo,s,a,w,h,f=>by
  have j:=nY M u N O n
  unfold u9 at f
  split at f
  ·exact ⟨s,a,w,_,f,h,.one step_end⟩
  ·exact ⟨s,a,w,_,f,h,.one step_ret⟩
  ·exact .head step_skip (j _ _ _ _ h f)
  ·exact .head step_label (j _ _ _ _ h f)
  ·exact .head step_inBlock (j _ _ _ _ h f)
  ·exact .head step_inScope (j _ _ _ _ h f)
  ·exact .head step_seq (j _ _ _ _ h f)
  ·rename_i c x y k
   split at f
   ·rename_i t U
    obtain ⟨β,Rt,Ra,V⟩:=h
    have z:=ck V c
    rw [U] at z
    have e:a.eval c = .bool t:=z
    cases t with
    | true =>
     simp only [cond_true] at f
     rw [sy U] at f
     exact .head (step_cond e) (j _ _ _ _ ⟨β,Rt,Ra,V⟩ f)
    | false =>
     simp only [cond_false] at f
     rw [sy U] at f
     exact .head (step_cond e) (j _ _ _ _ ⟨β,Rt,Ra,V⟩ f)
   ·cases f
  ·exact .head step_block (j _ _ _ _ h f)
  ·exact .head step_loop (j _ _ _ _ h f)
  ·exact .head step_inLoop (j _ _ _ _ h f)
  ·exact .head step_scope (j _ _ _ _ h f)
  ·split at f
   ·rename_i Y m;exact .head (step_exit m) (j _ _ _ _ h f)
   ·cases f
  ·split at f
   ·rename_i Y m;exact .head (step_goto m) (j _ _ _ _ h f)
   ·cases f
  ·split at f
   ·obtain ⟨hm,f⟩:=c9 f
    split at f
    ·rename_i s' W
     exact O _ _ _ _ (kb u.T hm h W) f
    ·cases f
   ·rename_i id ops d k _ X
    cases A:(d&&(!jC true ops.toList&&Ch ops)) with
    | false=>rw [A,cond_false] at f;exact lL M u N h f fun s' a' w' h1 h2=>j _ _ _ _ h2 h1
    | true =>
     rw [A,cond_true] at f
     simp only [Bool.and_eq_true] at A
     obtain ⟨rfl,_,z⟩:=A
     exact FC M u N O z h f
  ·cases f
theorem wY (j:Ok P C.ty) (m:ee C tab E) (u:∀ g,bT P C.ty tab g (C.call g)) (z:∀ todo s a w,dj E s a w->J todo s=some r->Fin P E ret r b cs (lone (b.at a todo) cs w)) (n:Nat) (todo:List Item) (s:St) (a:Act) (w:World) (h:dj E s a w)
  (f:start C J ret n todo s=some r):Fin P E ret r b cs (lone (b.at a todo) cs w):=by
 unfold start at f
 split at f
 ·exact lL j m u h f fun s' a' w' A M=>nY j m u z n _ _ _ _ M A
 ·cases f
theorem p6 (m:Ok P C.ty) (u:ee C tab E) (z:∀ g,bT P C.ty tab g (C.call g)) (n:Nat):∀ (f:Nat) (todo:List Item) (s:St) (a:Act) (w:World),dj E s a w->goto C ret n f todo s=some r->Fin P E ret r b cs (lone (b.at a todo) cs w)
 | 0,_,_,_,_,_,h=>by cases h
 | f+1,todo,s,a,w,h,j=>wY m u z (fun todo s a w h j=>p6 m u z n f todo s a w h j) n todo s a w h j
theorem hY:∀ (n:Nat) {t:Nat} {o:Obj},lookup t (mw n)=some o->t<n/\o = .hole
 | 0,_,_,h=>by cases h
 | n+1,t,o,h=>by
  simp only [mw,lookup] at h
  cases f:Nat.beq t n with
  | true =>
   have:=Nat.eq_of_beq_eq_true f;subst this
   rw [f] at h;cases h;exact ⟨by omega,rfl⟩
  | false =>
   rw [f] at h;simp only [cond_false] at h
   have:=hY n h
   exact ⟨by omega,this.2⟩
theorem su:∀ (n:Nat) {t:Nat},t<n->lookup t (mw n)=some .hole
 | 0,_,h=>by omega
 | n+1,t,h=>by
  simp only [mw,lookup]
  by_cases e:t=n
  ·subst e;simp
  ·rw [Gl e];simp only [cond_false];exact su n (by omega)
def eQ:List SV->List Value->List Nat
 | .vp _ _::r,.pointer (some f)::vs=>f.block::eQ r vs
 | .vp _ _::r,_::vs=>0::eQ r vs
 | _::r,_::vs=>eQ r vs
 | _,_=>[]
theorem AK (s:St) (k ty:Nat) (f r:List SV):fM s k (.vp ty f::r)=(.ptr k 0::(fM ((da s f).2.setObj k (.var ty (da s f).1)) (k+1) r).1,(fM ((da s f).2.setObj k (.var ty (da s f).1)) (k+1) r).2):=rfl
theorem AJ {x:SV} (f:∀ ty l,x ≠ .vp ty l) (s:St) (k:Nat) (r:List SV):fM s k (x::r)=((eN s x).1::(fM (eN s x).2 k r).1,(fM (eN s x).2 k r).2):=by
 cases x <;> first|rfl|exact absurd rfl (f _ _)
theorem Al {x:SV} (f:∀ ty l,x ≠ .vp ty l) (r:List SV):vars (x::r)=vars r:=by
 cases x <;> first|rfl|exact absurd rfl (f _ _)
theorem Hy {c:Cx} {x:SV} {v:Value} {bs:List Nat} (f:∀ ty l,x ≠ .vp ty l) (h:CV c x v bs):yW c x v bs:=by
 unfold CV at h;split at h
 ·exact absurd rfl (f _ _)
 ·exact h
theorem wu (s:St) (x:SV) {t:Nat} (f:t<s.next):(eN s x).2.obj t=s.obj t:=by
 rcases gS x with ⟨l,rfl⟩|j
 ·exact eY l s f
 ·obtain ⟨u,_,e⟩:=iq j s
  rw [e];exact eY [x] s f
theorem jD {β:Nat->Bl} {Rt Ra Rt' Ra':Nat->Prop} (hR:∀ b,Rt' b->Rt b) (hA:∀ b,Ra' b->Ra b):∀ (xs:List SV) (vs:List Value) (bs:List Nat) (k:Nat) {s:St} {β:Nat->Bl},Rel E s a w β Rt Ra->jM (CV (cc E.T w Rt' Ra')) xs vs bs->bs.Nodup->(∀ z∈bs,rp E s w β Ra z) ->
  (∀ i,k<=i->i<k+vars xs->s.obj i=some .hole)->(∀ i b,(eQ xs vs)[i]? = some b->E.pb (k+i)=b)->k+vars xs<=64 ->
  ∃ β',Rel E (fM s k xs).2 a w β' Rt Ra/\(bI E s w β Rt Ra).Le (bI E (fM s k xs).2 w β' Rt Ra)/\PW (S1 (bI E (fM s k xs).2 w β' Rt Ra)) (fM s k xs).1 vs
 | [],[],bs,k,s,β,h,_,_,_,_,_,_=>⟨β,h,le_refl _,trivial⟩
 | x::xs,v::vs,bs,k,s,β,h,hc,V,hf,hh,hb,hk=>by
  obtain ⟨b1,b2,rfl,hx,hr⟩:=hc
  rw [nodup_append] at V
  by_cases hv:∃ ty l,x = .vp ty l
  ·obtain ⟨ty,U,rfl⟩:=hv
   obtain ⟨b,cs,q,bk,rfl,a6,bx,rfl⟩:=hx
   have bP:vars (SV.vp ty U::xs)=vars xs+1:=rfl
   rw [bP] at hh hk
   have j:=hh k (Nat.le_refl _) (by omega)
   have bV:(β k).b=b:=by
    rw [h.pin k _ j (by omega)]
    exact hb 0 b rfl
   obtain ⟨a7,b0,a1⟩:=V
   rw [nodup_cons] at a7
   obtain ⟨m,r1,ae,p1,ap⟩:=fR hR hA U cs.toList bk h bx a7.2 (fun z A=>hf z (by simp [A]))
   have b3:=h.lt k _ j
   have u:(da s U).2.obj k=some .hole:=by rw [eY U s b3];exact j
   have bS:m k = β k:=ae.β k ⟨_,j⟩
   have O:(m k).b=b:=by rw [bS,bV]
   have ar:=hf b (by simp)
   obtain ⟨r2,W⟩:=r1.toRelO.set k (.var ty (da s U).1) u (fun z A=>by
     simp only [cu,mem_singleton] at A;rw [A,O];exact ⟨ar.1,ar.2.1,ar.2.2.1⟩) (fun z A M o' a8 f=>by
     simp only [cu,mem_singleton] at A;rw [A,O] at f
     rcases ap M o' a8 with ⟨bb,X⟩|Y
     ·rw [X] at f;exact ar.2.2.2 M o' bb f
     ·exact a7.1 (Y b f)) (fun le=>⟨cs,q,by rw [O];exact a6,by rw [O];exact p1.imp fun _ _ hs=>hs.le le⟩)
   have b4:Rel E ((da s U).2.setObj k (.var ty (da s U).1)) a w m Rt Ra:=⟨r2,r1.len,r1.defers,fH W r1.slots⟩
   have b5:∀ M o,((da s U).2.setObj k (.var ty (da s U).1)).obj M=some o->(M=k/\cu (m M) o=[b])∨(M≠k/\((s.obj M=some o/\m M = β M)∨∀ z∈cu (m M) o,z∈bk)):=by
    intro M o N
    rw [dX] at N;split at N
    ·rename_i e;subst e;rw [u] at N;cases N;exact .inl ⟨rfl,by simp [cu,O]⟩
    ·rename_i e;exact .inr ⟨e,ap M o N⟩
   obtain ⟨ad,r3,be,p3⟩:=jD (β := β) hR hA xs vs b2 (k+1) b4 hr b0 (fun z A=>by
     obtain ⟨f1,f2,f3,f4⟩:=hf z (by simp [A])
     refine ⟨f1,f2,f3,fun M o N f => ?_⟩
     rcases b5 M o N with ⟨_,e⟩|⟨_,⟨bb,X⟩|Y⟩
     ·rw [e,mem_singleton] at f;subst f;exact a1 z (by simp) z A rfl
     ·rw [X] at f;exact f4 M o bb f
     ·exact a1 z (by simp [Y z f]) z A rfl)
    (fun i h1 h2=>by
     have hi:=hh i (by omega) (by omega)
     rw [dX,if_neg (by omega),eY U s (h.lt i _ hi)];exact hi)
    (fun i b' ca=>by rw [show k+1+i=k+(i+1) by omega];exact hb (i+1) b' ca) (by omega)
   rw [AK]
   refine ⟨ad,r3,(ae.trans W).trans be,?_,p3⟩
   have hD:(bI E ((da s U).2.setObj k (.var ty (da s U).1)) w m Rt Ra).D k:=⟨_,by rw [dX,if_pos rfl,u];rfl⟩
   refine dR ⟨be.D k hD,?_⟩
   have e:ad k=m k:=be.β k hD
   show Value.pointer (some ⟨b,0,none⟩) = .pointer (some ⟨(ad k).b,0,none⟩)
   rw [e,O]
  ·have ax:∀ ty l,x ≠ .vp ty l:=fun ty l e=>hv ⟨ty,l,e⟩
   rw [Al ax] at hh hk
   have cl:eQ (x::xs) (v::vs)=eQ xs vs:=by cases x <;> first|rfl|exact absurd rfl (ax _ _)
   rw [cl] at hb
   obtain ⟨m,r1,ae,p1,ap⟩:=ko hR hA h (Hy ax hx) V.1 (fun z A=>hf z (mem_append_left _ A))
   obtain ⟨ad,r2,W,p2⟩:=jD (β := β) hR hA xs vs b2 k r1 hr V.2.1 (fun z A=>by
     obtain ⟨f1,f2,f3,f4⟩:=hf z (mem_append_right _ A)
     refine ⟨f1,f2,f3,fun t o ho hb => ?_⟩
     rcases ap t o ho with ⟨a8,cp⟩|Y
     ·rw [cp] at hb;exact f4 t o a8 hb
     ·exact V.2.2 z (Y z hb) z A rfl)
    (fun i h1 h2=>by
     have hi:=hh i h1 h2
     rw [wu s x (h.lt i _ hi)];exact hi) hb hk
   rw [AJ ax]
   exact ⟨ad,r2,ae.trans W,p1.le W,p2⟩
 | [],_::_,_,_,_,_,_,h,_,_,_,_,_=>h.elim
 | _::_,[],_,_,_,_,_,h,_,_,_,_,_=>h.elim
end
end Go.Proofs.Ab
