/- The abstract machine: a run of a function's code over data without memory, and the proof that whatever this run says is what a call does (conditions: those of each lemma). -/
import Derived.Test.YtneffefnlogkaaaDoorAbA
import Derived.Lib.UnsafeStr
import Derived.Lib.ConvBytes
import Derived.Laws.BytesString
import Derived.Scope
set_option linter.unusedVariables false
set_option linter.unusedSimpArgs false
set_option maxRecDepth 4000
namespace Go.Proofs.Ab
open Go
variable {R:Type}
def CL (c:Cx) (x:SV) (v:Value) (bs:List Nat):Prop :=
 match x with
 | .fr e l st=>∃ E cs,c.T e=some E/\dO c.w false e E.sz v l.length cs/\RC c.T c.w (c.Q st) E l cs/\bs=v.ownBlock.toList
 | x=>bs=[]/\tok x=none/\x ≠ .nos/\SL c x v
def xP (c:Cx) (b:Nat) (x:SV) (v:Value) (bs:List Nat):Prop :=
 match x with
 | .nos=>bs=[]/\(v = .pointer none∨v = .pointer (some ⟨b,0,none⟩))
 | x=>CL c x v bs
def ie (S:SV->Value->List Nat->Prop):List SV->List Value->List Nat->Prop
 | [],[],bs=>bs=[]
 | x::xs,v::vs,bs=>∃ b1 b2,bs=b1++b2/\S x v b1/\ie S xs vs b2
 | _,_,_=>False
def vk (c:Cx) (x:SV) (v:Value) (bs:List Nat):Prop :=
 match x with
 | .agg l=>∃ cs:Array Value,v = .agg cs/\ie (CL c) l cs.toList bs
 | x=>CL c x v bs
def CV (c:Cx) (x:SV) (v:Value) (bs:List Nat):Prop :=
 match x with
 | .vp ty ls=>∃ (b:Nat) (cs:Array Value) (_:Unit) (bs':List Nat),v = .pointer (some ⟨b,0,none⟩)/\c.w.heap[b]? = some (.cells cs ty (0,0))/\ie (xP c b) ls cs.toList bs'/\bs=b::bs'
 | x=>vk c x v bs
def CR (c:Cx) (x:SV) (v:Value) (bs:List Nat):Prop :=
 match x with
 | .tup l=>∃ us:Array Value,v = .tuple us/\ie (vk c) l us.toList bs
 | x=>vk c x v bs
def CB (c:Cx):List SV->List Value->List SV->List Nat->Prop
 | [],[],u,bs=>u=[]/\bs=[]
 | x::r,v::vs,u,bs =>
  match x with
  | .vp _ _=>match u with
   | .vp ty ls::u'=>∃ (b:Nat) (cs:Array Value) (_:Unit) (b1 b2:List Nat),v = .pointer (some ⟨b,0,none⟩)/\c.w.heap[b]? = some (.cells cs ty (0,0))/\ie (xP c b) ls cs.toList b1/\bs=b::b1++b2/\CB c r vs u' b2
   | _=>False
  | _=>CB c r vs u bs
 | _,_,_,_=>False
def cc (T:Nat->Option TI) (w:World) (Rt Ra:Nat->Prop):Cx:=⟨T,w,Rt,Ra,fun _=>⟨undef,0,0,false⟩,fun _=>False⟩
abbrev cb:=Nat->Option Go.Obj
structure Pre (T:Nat->Option TI) (tab:cb) (w:World) (args:List SV) (vs:List Value) (Rt Ra:Nat->Prop) (bs:List Nat):Prop where
 cat:ie (CV (cc T w Rt Ra)) args vs bs
 nd:bs.Nodup
 no:∀ b∈bs,¬ Ra b/\b<w.heap.size
 sub:∀ b,Rt b->Ra b
 rlt:∀ b,Ra b->b<w.heap.size
 tab:∀ b ob,tab b=some ob->w.heap[b]? = some ob/\Rt b
structure kW (T:Nat->Option TI) (w:World) (args:List SV) (vs:List Value) (Rt:Nat->Prop) (bs:List Nat) (res:List SV) (v:Value) (w':World) (Rt':Nat->Prop) (v0:SV) (back:List SV) (b1 b2:List Nat):Prop where
 res:res=v0::back
 fr:Fr (fun b=>b∈bs) w w'
 r:CR (cc T w' Rt' Rt') v0 v b1
 b:CB (cc T w' Rt' Rt') args vs back b2
 nd:(b1++b2).Nodup
 no:∀ b∈b1++b2,¬ Rt' b/\b<w'.heap.size/\(w.heap.size<=b∨b∈bs)
 le:∀ b,Rt b->Rt' b
 lt:∀ b,Rt' b->b<w'.heap.size/\(Rt b∨w.heap.size<=b∨b∈bs)
def mD (P:Program) (g:FuncId) (vs:Array Value) (w:World) (Q:Value->World->Prop):Prop :=
 (∃ v w',(callFunc g vs).run P w = .ok (.value v) w'/\Q v w')∨((callFunc g vs).run P w = .ok (.enter g vs) w/\Calls P g vs w fun e w'=>∃ v,e = .returned v/\Q v w')
def bR (P:Program) (T:Nat->Option TI) (tab:cb) (g:FuncId) (sp:List SV->(List SV->Option R)->Option R):Prop :=
 ∀ (args:List SV) (κ : List SV->Option R) (r:R),sp args κ = some r->∀ (w:World) (vs:Array Value) (Rt Ra:Nat->Prop) (bs:List Nat),Pre T tab w args vs.toList Rt Ra bs ->
  mD P g vs w fun v w'=>∃ res Rt' v0 back b1 b2,κ res=some r/\kW T w args vs.toList Rt bs res v w' Rt' v0 back b1 b2
section
variable {E:Env} {s:St} {a:Act} {w w':World} {β : Nat->Bl} {Rt Ra:Nat->Prop}
theorem ie.len {S:SV->Value->List Nat->Prop}:∀ {l:List SV} {vs:List Value} {bs:List Nat},ie S l vs bs->l.length=vs.length
 | [],[],_,_=>rfl
 | _::_,_::_,_,⟨_,_,_,_,h⟩=>by simp [ie.len h]
 | [],_::_,_,h=>h.elim
 | _::_,[],_,h=>h.elim
theorem Rel.more (h:Rel E s a w β Rt Ra) {Rt':Nat->Prop} (hle:∀ b,Rt b->Rt' b) (hX:∀ b,Rt' b->¬ Rt b->b<w.heap.size/\(E.w0.heap.size<=b∨E.W0 b)/\∀ t o,s.obj t=some o->b ∉ bK (β t) o) :
  Rel E s a w β Rt' (fun b=>Ra b∨Rt' b)/\(bg E s w β Rt Ra).Le (bg E s w β Rt' (fun b=>Ra b∨Rt' b)):=by
 have le:(bg E s w β Rt Ra).Le (bg E s w β Rt' (fun b=>Ra b∨Rt' b)):=by
  refine ⟨rfl,fun st b hq => ?_,fun _ _ _=>rfl,fun _ h=>h,fun _ _=>rfl⟩
  unfold Cx.Q at hq ⊢;split at hq
  ·rename_i e;rw [if_pos e];exact hle b hq
  ·rename_i e;rw [if_neg e];exact .inl hq
 refine ⟨⟨⟨fun t o ho=>(h.objs t o ho).le le (fun _ _=>rfl),h.lt,fun t o ho b hb=>⟨(h.cx t o ho b hb).1,?_,(h.cx t o ho b hb).2.2⟩,h.apart,fun b hb => .inr hb,?_,h.fr,fun b hb=>hle b (h.rt0 b hb),fun b hb => .inl (h.ra0 b hb),fun b hb => ?_,h.nx,h.pin⟩,h.len,h.defers,ec le h.slots⟩,le⟩
 ·rintro (hr|hr)
  ·exact (h.cx t o ho b hb).2.1 hr
  ·by_cases hc:Rt b
   ·exact (h.cx t o ho b hb).2.1 (h.sub b hc)
   ·exact (hX b hr hc).2.2 t o ho hb
 ·rintro b (hr|hr)
  ·exact h.rlt b hr
  ·by_cases hc:Rt b
   ·exact h.rlt b (h.sub b hc)
   ·exact (hX b hr hc).1
 ·by_cases hc:Rt b
  ·exact h.rt b hc
  ·exact .inr (hX b hb hc).2.1
def oM (E:Env) (s:St) (w:World) (β : Nat->Bl) (Ra:Nat->Prop) (b:Nat):Prop:=b<w.heap.size/\¬ Ra b/\(E.w0.heap.size<=b∨E.W0 b)/\∀ t o,s.obj t=some o->b ∉ bK (β t) o
theorem la {c c':Cx} (hT:c'.T=c.T) (hw:c'.w=c.w) (hQ:∀ st b,c.Q st b->c'.Q st b) {x:SV} {v:Value} (ht:tok x=none) (h:SL c x v):SL c' x v:=by
 cases x <;> simp only [SL] at h ⊢ <;> first|exact h|(cases ht;done)|skip
 case ro e l st=>rw [hT,hw];exact h.mono (hQ st) (fun _ _=>rfl)
 case cls g ts =>
  cases ts with
  | nil=>exact ⟨fun t ht=>(by cases ht),h.2⟩
  | cons _ _=>cases ht
 case ar e n l =>
  obtain ⟨h0,D,cs,h1,h2,h3,h4,h5⟩:=h
  exact ⟨h0,D,cs,by rw [hT];exact h1,h2,h3,h4,by rw [hT];exact h5.mono (fun _ hq=>hq) (fun _ hq=>hq.elim)⟩
 case ra e n l st =>
  obtain ⟨h0,D,p,h1,h2,h3⟩:=h
  refine ⟨h0,D,p,by rw [hT];exact h1,h2,fun i j k hi hk => ?_⟩
  obtain ⟨u,hq,hc,hr⟩:=h3 i j k hi hk
  exact ⟨u,hQ st _ hq,by rw [hw];exact hc,by rw [hT,hw];exact hr.mono (hQ st) (fun _ _=>rfl)⟩
 case rl e l st i off =>
  obtain ⟨D,p,h1,h2,h3⟩:=h
  refine ⟨D,p,by rw [hT];exact h1,h2,fun j k hk => ?_⟩
  obtain ⟨u,hq,hc,hr⟩:=h3 j k hk
  exact ⟨u,hQ st _ hq,by rw [hw];exact hc,by rw [hT,hw];exact hr.mono (hQ st) (fun _ _=>rfl)⟩
theorem xu {Rt' Ra':Nat->Prop} (h:Rel E s a w β Rt Ra) (hR:∀ b,Rt' b->Rt b) (hA:∀ b,Ra' b->Ra b) {b:Nat} {x:SV} {v:Value} {bs:List Nat} (hx:xP (cc E.T w Rt' Ra') b x v bs) (hf:∀ z∈bs,oM E s w β Ra z) :
  (∃ e l st,x = .fr e l st/\∃ β',Rel E (s.new (.row e l st)) a w β' Rt Ra/\(bg E s w β Rt Ra).Le (bg E (s.new (.row e l st)) w β' Rt Ra)/\jP (bg E (s.new (.row e l st)) w β' Rt Ra) b (.own s.next) v/\∀ t o,(s.new (.row e l st)).obj t=some o->(s.obj t=some o /\ β' t = β t)∨∀ z∈bK (β' t) o,z∈bs) ∨
  ((∀ e l st,x ≠ .fr e l st)/\jP (bg E s w β Rt Ra) b x v):=by
 have hQ:∀ st z,(cc E.T w Rt' Ra').Q st z->(bg E s w β Rt Ra).Q st z:=by
  intro st z hq
  unfold Cx.Q at hq ⊢;split at hq
  ·rename_i e;rw [if_pos e];exact hR z hq
  ·rename_i e;rw [if_neg e];exact hA z hq
 by_cases hfr:∃ e l st,x = .fr e l st
 ·obtain ⟨e,l,st,rfl⟩:=hfr
  obtain ⟨D,cs,hT,hown,hrc,rfl⟩:=hx
  have hb:∀ z∈bK ⟨v,0,D.sz,false⟩ (.row e l st),z∈v.ownBlock.toList:=fun z hz=>hz
  obtain ⟨h2,le⟩:=h.toRelO.add (.row e l st) ⟨v,0,D.sz,false⟩ (fun z hz=>⟨(hf z (hb z hz)).1,(hf z (hb z hz)).2.1,(hf z (hb z hz)).2.2.1⟩) (fun z hz t o' ho'=>(hf z (hb z hz)).2.2.2 t o' ho')
   (fun le=>⟨D,cs,hT,rfl,hown,hrc.mono (fun z hq=>le.Q st z (hQ st z hq)) (fun _ _=>rfl)⟩)
  refine .inl ⟨e,l,st,rfl,_,⟨h2,h.len,h.defers,ec le h.slots⟩,le,⟨⟨_,by rw [ef,if_pos rfl]⟩,?_,mh hown,?_⟩,fun t o ho => ?_⟩
  ·show v=(dH β s.next ⟨v,0,D.sz,false⟩ s.next).v
   unfold dH;rw [if_pos rfl]
  ·show (dH β s.next ⟨v,0,D.sz,false⟩ s.next).arr=false
   unfold dH;rw [if_pos rfl]
  ·rw [ef] at ho
   split at ho
   ·rename_i e;subst e;cases ho
    refine .inr fun z hz => ?_
    unfold dH at hz;rw [if_pos rfl] at hz;exact hz
   ·rename_i e;exact .inl ⟨ho,if_neg e⟩
 ·refine .inr ⟨fun e l st e'=>hfr ⟨e,l,st,e'⟩,?_⟩
  unfold xP at hx
  split at hx
  ·exact hx.2
  ·rename_i hn
   unfold CL at hx
   split at hx
   ·exact absurd ⟨_,_,_,rfl⟩ hfr
   ·obtain ⟨_,ht,_,hs⟩:=hx
    have:=la (c:=cc E.T w Rt' Ra') (c':=bg E s w β Rt Ra) rfl rfl hQ ht hs
    unfold jP;split
    ·exact absurd rfl hn
    ·exact this
theorem e6 (s:St) (e:Nat) (l:List AV) (st:Bool) (r:List SV):b9 s (.fr e l st::r)=(.own s.next::(b9 (s.new (.row e l st)) r).1,(b9 (s.new (.row e l st)) r).2):=rfl
theorem fH (s:St) (x:SV) (r:List SV) (hx:∀ e l st,x ≠ .fr e l st):b9 s (x::r)=(x::(b9 s r).1,(b9 s r).2):=by
 cases x <;> first|rfl|exact absurd rfl (hx _ _ _)
theorem ez {Rt' Ra':Nat->Prop} (hR:∀ b,Rt' b->Rt b) (hA:∀ b,Ra' b->Ra b) {b:Nat}:∀ (ls:List SV) (cs:List Value) (bs:List Nat) {s:St} {β : Nat->Bl},Rel E s a w β Rt Ra->ie (xP (cc E.T w Rt' Ra') b) ls cs bs->bs.Nodup->(∀ z∈bs,oM E s w β Ra z) ->
  ∃ β',Rel E (b9 s ls).2 a w β' Rt Ra/\(bg E s w β Rt Ra).Le (bg E (b9 s ls).2 w β' Rt Ra)/\PW (jP (bg E (b9 s ls).2 w β' Rt Ra) b) (b9 s ls).1 cs/\∀ t o,(b9 s ls).2.obj t=some o->(s.obj t=some o /\ β' t = β t)∨∀ z∈bK (β' t) o,z∈bs
 | [],[],bs,s,β,h,hc,_,_=>⟨β,h,⟨rfl,fun _ _ h=>h,fun _ _ _=>rfl,fun _ h=>h,fun _ _=>rfl⟩,trivial,fun t o ho => .inl ⟨ho,rfl⟩⟩
 | x::ls,v::cs,bs,s,β,h,hc,hnd,hf=>by
  obtain ⟨b1,b2,rfl,hx,hr⟩:=hc
  rw [List.nodup_append] at hnd
  rcases xu h hR hA hx (fun z hz=>hf z (List.mem_append_left _ hz)) with ⟨e,l,st,rfl,β1,h1,le1,hs1,hob1⟩|⟨hne,hs1⟩
  ·rw [e6]
   obtain ⟨β2,h2,le2,hp2,hob2⟩:=ez hR hA ls cs b2 h1 hr hnd.2.1 (fun z hz=>by
    obtain ⟨f1,f2,f3,f4⟩:=hf z (List.mem_append_right _ hz)
    refine ⟨f1,f2,f3,fun t o ho hb => ?_⟩
    rcases hob1 t o ho with ⟨ho',hβ⟩|hin
    ·rw [hβ] at hb;exact f4 t o ho' hb
    ·exact hnd.2.2 z (hin z hb) z hz rfl)
   refine ⟨β2,h2,le1.trans le2,⟨hs1.le le2,hp2⟩,fun t o ho => ?_⟩
   rcases hob2 t o ho with ⟨ho',hβ⟩|hin
   ·rcases hob1 t o ho' with ⟨ho2,hβ2⟩|hin
    ·exact .inl ⟨ho2,hβ.trans hβ2⟩
    ·exact .inr fun z hz=>List.mem_append_left _ (hin z (by rw [<- hβ];exact hz))
   ·exact .inr fun z hz=>List.mem_append_right _ (hin z hz)
  ·rw [fH s x ls hne]
   obtain ⟨β2,h2,le2,hp2,hob2⟩:=ez hR hA ls cs b2 h hr hnd.2.1 (fun z hz=>hf z (List.mem_append_right _ hz))
   exact ⟨β2,h2,le2,⟨hs1.le le2,hp2⟩,fun t o ho=>(hob2 t o ho).imp id fun hin z hz=>List.mem_append_right _ (hin z hz)⟩
 | [],_::_,_,_,_,_,h,_,_=>h.elim
 | _::_,[],_,_,_,_,h,_,_=>h.elim
end
end Go.Proofs.Ab
namespace Go.Proofs.Ab
open Go
variable {R:Type}
theorem tx {c:Cx} {Q':Nat->Prop} {e:Nat} {D:TI} {l:List AV} {cs:List Value} {st:Bool} {v:Value} (hT:c.T e=some D) {arr:Bool} (hown:dO c.w arr e D.sz v l.length cs) (hrc:RC c.T c.w (c.Q st) D l cs)
  (hb:∀ b∈v.ownBlock.toList,Q' b) (hQ:∀ b,c.Q st b->Q' b):cU c.T c.w Q' (.sl e) v (.sl l):=by
 obtain ⟨hlen,hv⟩:=hown
 rcases hv with ⟨hv,hn⟩|⟨g,cap,cur,q,fz,hv,_,hg,_,hnc,hcm,hcs,htake⟩
 ·rw [hv];exact .slnil e _ (List.eq_nil_of_length_eq_zero hn)
 ·rw [hv]
  refine .sl e D ⟨g,0,none⟩ _ cap (.sl l) cs hT rfl hnc hcm hlen (fun j v hj=>⟨hb g (by simp [hv,Value.ownBlock]),?_⟩) (fun i j k hi hk v hj=>(hrc i j k hi hk v hj).mono hQ (fun _ _=>rfl))
  rw [add_plain]
  show c.w.cell? ⟨g,0+j,none⟩=some v
  rw [Nat.zero_add,cell_of_row c.w g j cur q fz hg]
  rw [<- htake] at hj
  rw [List.getElem?_take] at hj
  split at hj
  ·simpa using hj
  ·cases hj
theorem oZ {c:Cx} {x:SV} {v:Value} (ht:tok x=none) (hn:x ≠ .nos) (hf:∀ e l st,x ≠ .fr e l st) (h:SL c x v):CL c x v []:=by
 unfold CL;split
 ·exact absurd rfl (hf _ _ _)
 ·exact ⟨rfl,ht,hn,h⟩
theorem B1 {c:Cx} {b:Nat} {x:SV} {v:Value} {bs:List Nat} (hn:x ≠ .nos) (h:CL c x v bs):xP c b x v bs:=by
 unfold xP;split
 ·exact absurd rfl hn
 ·exact h
theorem mV {c:Cx} {x:SV} {v:Value} {bs:List Nat} (h:CL c x v bs) (b:Nat):xP c b x v bs:=by
 refine B1 (fun e => ?_) h
 subst e;exact h.2.2.1 rfl
theorem qA {c:Cx} {b:Nat} {x:SV} {v:Value} (h:jP c b x v):SL c x v:=by
 unfold jP at h;split at h
 ·trivial
 ·exact h
theorem ld {b:Bool} {x y:SV} (h:(bif b then some x else none)=some y):b=true/\x=y:=by
 cases b
 ·cases h
 ·exact ⟨rfl,Option.some.inj h⟩
section
variable {E:Env} {s:St} {a:Act} {w w':World} {β : Nat->Bl} {Rt Ra:Nat->Prop}
theorem mm {Ra':Nat->Prop} (hRa:∀ b,Ra b->Ra' b) {x:SV} {v:Value} (hk:known x=true) (ht:tok x=none) (h:SL (bg E s w β Rt Ra) x v):CL (cc E.T w Rt Ra') x v []:=by
 refine oZ ht (fun e=>by subst e;cases hk) (fun e l st e'=>by subst e';cases hk) (la (c:=bg E s w β Rt Ra) (c':=cc E.T w Rt Ra') rfl rfl (fun st b hq => ?_) ht h)
 unfold Cx.Q at hq ⊢;split at hq
 ·rename_i e;rw [if_pos e];exact hq
 ·rename_i e;rw [if_neg e];exact hRa b hq
theorem Fp {Ra':Nat->Prop} (hsub:∀ b,Rt b->Ra b) (hRa:∀ b,Ra b->Ra' b) (st:Bool) (b:Nat) (h:(bg E s w β Rt Ra).Q st b):(cc E.T w Rt Ra').Q false b:=by
 unfold Cx.Q at h ⊢;rw [if_neg (by decide)]
 split at h
 ·exact hRa b (hsub b h)
 ·exact hRa b h
theorem jW {Ra':Nat->Prop} (h:Rel E s a w β Rt Ra) (hRa:∀ b,Ra b->Ra' b) {x y:SV} {v:Value} (hS:∀ t∈gH [x],∀ o,s.obj t=some o->∀ b∈bK (β t) o,Ra' b) (hx:SL (bg E s w β Rt Ra) x v) (hc:eN s x=some y):CL (cc E.T w Rt Ra') y v []:=by
 unfold eN at hc
 split at hc
 ·rename_i e n l st
  cases hc
  refine oZ rfl (by simp) (by simp) (la (c:=bg E s w β Rt Ra) (c':=cc E.T w Rt Ra') rfl rfl (fun st b hq => ?_) rfl hx)
  unfold Cx.Q at hq ⊢;split at hq
  ·rename_i e;rw [if_pos e];exact hq
  ·rename_i e;rw [if_neg e];exact hRa b hq
 ·rename_i t
  split at hc
  ·rename_i e l st ho
   cases hc
   obtain ⟨D,cs,hT,hsz,hown,hrc⟩:=h.objs t _ ho
   obtain ⟨_,hv,_⟩:=hx
   refine oZ rfl (by simp) (by simp) ?_
   show cU _ _ _ _ _ _
   rw [hv]
   exact tx (c:=bg E s w β Rt Ra) hT hown hrc (fun b hb=>by
    unfold Cx.Q;rw [if_neg (by decide)];exact hS t (by simp [gH]) _ ho b hb) (Fp h.sub hRa st)
  ·cases hc
 ·rename_i t lo hi
  split at hc
  ·rename_i e l st ho
   cases hc
   obtain ⟨D,cs,hT,hsz,hown,hrc⟩:=h.objs t _ ho
   obtain ⟨hd,g0,g1,hv⟩:=hx
   refine oZ rfl (by simp) (by simp) ?_
   show cU _ _ _ _ _ _
   have hrow:=tx (c:=bg E s w β Rt Ra) (Q':=(cc E.T w Rt Ra').Q false) hT hown hrc (fun b hb=>by
    unfold Cx.Q;rw [if_neg (by decide)];exact hS t (by simp [gH]) _ ho b hb) (Fp h.sub hRa st)
   rcases hv with ⟨hv0,hh,hv⟩|⟨g,n,cap,ad,hv0,g2,hv,had⟩
   ·rw [hv]
    refine .slnil e _ (List.eq_nil_of_length_eq_zero ?_)
    simp only [AV.l,iz,List.length_drop,List.length_take];omega
   ·have hv0':(β t).v = .slice (some ⟨g,0,none⟩) n cap:=hv0
    rw [hv0'] at hown hrow
    have hn:n=l.length/\n<=cap/\cap<=maxLen:=by
     rcases eg hown with ⟨h',_⟩|⟨_,_,h',h1,h2⟩
     ·cases h'
     ·cases h';exact ⟨rfl,h1,h2⟩
    obtain ⟨hn,hcap,hmax⟩:=hn
    subst hn
    have hlen:=qY l lo hi g0 g1 (by omega)
    rw [hv]
    by_cases hlt:lo<hi
    ·have had':ad=⟨g,lo.toNat*(β t).sz,none⟩:=had hlt
     have hcut:=cU.cut g0 g1 (by omega) hT hrow
     rw [if_neg (by omega),add_plain,Nat.zero_add] at hcut
     have hsz':(β t).sz=D.sz:=hsz
     rw [had',hsz',show (hi-lo).toNat=hi.toNat-lo.toNat by omega]
     exact hcut
    ·have h0:(iz l lo hi).length=0:=by rw [hlen];omega
     refine .sl e D ad _ _ _ [] hT (by simp only [AV.l];rw [h0];omega) (by omega) (by omega) (by rw [show (hi-lo).toNat=0 by omega];simp) (fun j v hj=>by simp at hj) (fun i j k hi'=>by omega)
  ·cases hc
 ·cases hc
 ·cases hc
 ·cases hc
 ·cases hc
 ·cases hc
 ·cases hc
 ·rename_i hn1 hn2 hn3 hn4 _ hn6 hn7 hn8
  obtain ⟨hk,rfl⟩:=ld hc
  refine mm hRa hk ?_ hx
  cases x <;> first|rfl|exact absurd rfl (hn6 _ _)|exact absurd rfl (hn7 _ _)|exact absurd rfl (hn8 _)|exact absurd rfl (hn1 _)|exact absurd rfl (hn2 _ _ _)|exact absurd rfl (hn3 _ _)|exact absurd rfl (hn4 _ _ _)|cases hk
theorem ow (x:SV) (r:List SV) (t:Nat):t∈gH (x::r) ↔ t∈gH [x]∨t∈gH r:=by
 cases x <;> simp [gH]
theorem jY {Ra':Nat->Prop} (h:Rel E s a w β Rt Ra) (hRa:∀ b,Ra b->Ra' b):∀ (l:List SV) (vs:List Value) (ys:List SV),(∀ t∈gH l,∀ o,s.obj t=some o->∀ b∈bK (β t) o,Ra' b)->PW (SL (bg E s w β Rt Ra)) l vs->fg s l=some ys->ie (CL (cc E.T w Rt Ra')) ys vs []
 | [],[],ys,_,_,hc=>by cases hc;rfl
 | x::l,v::vs,ys,hS,hp,hc=>by
  unfold fg at hc
  split at hc
  ·rename_i y zs h1 h2
   cases hc
   exact ⟨[],[],rfl,jW h hRa (fun t ht=>hS t ((ow x l t).2 (.inl ht))) hp.1 h1,jY h hRa l vs zs (fun t ht=>hS t ((ow x l t).2 (.inr ht))) hp.2 h2⟩
  ·cases hc
 | [],_::_,_,_,hp,_=>hp.elim
 | _::_,[],_,_,hp,_=>hp.elim
def tb (s:St) (β : Nat->Bl) (t:Nat):List Nat :=
 match s.obj t with
 | some o=>bK (β t) o
 | none=>[]
theorem l5 {Ra':Nat->Prop} (h:Rel E s a w β Rt Ra) (hRa:∀ b,Ra b->Ra' b) {b:Nat} {x y:SV} {v:Value} (hx:jP (bg E s w β Rt Ra) b x v) (hc:kj s x=some y):xP (cc E.T w Rt Ra') b y v ((owns [x]).flatMap (tb s β)):=by
 unfold kj at hc
 split at hc
 ·rename_i t
  split at hc
  ·rename_i e l st ho
   cases hc
   obtain ⟨D,cs,hT,hsz,hown,hrc⟩:=h.objs t _ ho
   obtain ⟨_,hv,_,harr⟩:_/\v=(β t).v/\_/\(β t).arr=false:=hx
   have hown:dO w (β t).arr e D.sz (β t).v l.length cs:=hown
   rw [harr] at hown
   refine ⟨D,cs,hT,hv▸hown,?_,?_⟩
   ·refine hrc.mono (fun b hq => ?_) (fun _ _=>rfl)
    unfold Cx.Q at hq ⊢;split at hq
    ·rename_i e;rw [if_pos e];exact hq
    ·rename_i e;rw [if_neg e];exact hRa b hq
   ·simp only [owns,List.flatMap_cons,List.flatMap_nil,List.append_nil,tb,ho,bK,hv]
  ·cases hc
 ·cases hc;exact ⟨rfl,rfl,by simp,trivial⟩
 ·cases hc;exact ⟨rfl,hx⟩
 ·cases hc
 ·cases hc
 ·cases hc
 ·cases hc
 ·cases hc
 ·cases hc
 ·cases hc
 ·rename_i hn1 hn0 hn00 hn2 hn3 hn4 hn5 hn6 hn7 hn8
  obtain ⟨hk,rfl⟩:=ld hc
  have hs:SL (bg E s w β Rt Ra) x v:=qA hx
  have ho:owns [x]=[]:=by cases x <;> first|rfl|exact absurd rfl (hn1 _)
  rw [ho]
  refine mV (mm hRa hk ?_ hs) b
  cases x <;> first|rfl|exact absurd rfl (hn6 _ _)|exact absurd rfl (hn7 _ _)|exact absurd rfl (hn8 _)|exact absurd rfl (hn1 _)|exact absurd rfl (hn2 _ _ _)|exact absurd rfl (hn3 _ _)|exact absurd rfl (hn4 _ _ _)|cases hk
theorem gF (x:SV) (r:List SV):owns (x::r)=owns [x]++owns r:=by
 cases x <;> simp [owns]
theorem l6 {Ra':Nat->Prop} (h:Rel E s a w β Rt Ra) (hRa:∀ b,Ra b->Ra' b) {b:Nat}:∀ (l:List SV) (vs:List Value) (ys:List SV),PW (jP (bg E s w β Rt Ra) b) l vs->gx s l=some ys->ie (xP (cc E.T w Rt Ra') b) ys vs ((owns l).flatMap (tb s β))
 | [],[],ys,_,hc=>by cases hc;rfl
 | x::l,v::vs,ys,hp,hc=>by
  unfold gx at hc
  split at hc
  ·rename_i y zs h1 h2
   cases hc
   rw [gF,List.flatMap_append]
   exact ⟨_,_,rfl,l5 h hRa hp.1 h1,l6 h hRa l vs zs hp.2 h2⟩
  ·cases hc
 | [],_::_,_,hp,_=>hp.elim
 | _::_,[],_,hp,_=>hp.elim
end
end Go.Proofs.Ab
namespace Go.Proofs.Ab
open Go
variable {R:Type}
section
variable {E:Env} {s:St} {a:Act} {w w':World} {β : Nat->Bl} {Rt Ra:Nat->Prop}
theorem jK {x:SV} (hx:∀ l,x ≠ .agg l):leaves x=[x]:=by
 cases x <;> first|rfl|exact absurd rfl (hx _)
theorem ua (l:List SV):eN s (.tup l)=none:=rfl
theorem nh (t off:Nat):eN s (.ptr t off)=none:=rfl
theorem rT {x:SV} (h1:∀ l,x ≠ .agg l) (h2:∀ t off,x ≠ .ptr t off):dU s x=eN s x:=by
 cases x <;> first|rfl|exact absurd rfl (h1 _)|exact absurd rfl (h2 _ _)
def Shape (x c:SV):Prop:=(∃ t,x = .ptr t 0/\∃ ty l,c = .vp ty l)∨((∀ t o,x ≠ .ptr t o)/\∀ ty l,c ≠ .vp ty l)
theorem B2 {c:Cx} {x:SV} {v:Value} {bs:List Nat} (hx:∀ ty l,x ≠ .vp ty l) (h:vk c x v bs):CV c x v bs:=by
 unfold CV;split
 ·exact absurd rfl (hx _ _)
 ·exact h
theorem xW {c:Cx} {x:SV} {v:Value} {bs:List Nat} (h:CL c x v bs):vk c x v bs:=by
 unfold vk;split
 ·exact h.2.2.2.elim
 ·exact h
theorem DL {c:Cx} {ty:Nat} {l:List SV} {v:Value} {bs:List Nat} (h:CL c (.vp ty l) v bs):False:=h.2.2.2
theorem qT {x:SV} (hx:∀ t o,x ≠ .ptr t o) (r:List SV):gg s (x::r)=gg s r:=by
 cases x <;> first|rfl|exact absurd rfl (hx _ _)
theorem yZ (x:SV) (r:List SV):gg s (x::r)=gg s [x]++gg s r:=by
 cases x <;> simp [gg]
theorem qJ {Ra':Nat->Prop} (h:Rel E s a w β Rt Ra) (hRa:∀ b,Ra b->Ra' b) {x y:SV} {v:Value} (hS:∀ t∈gH (leaves x),∀ o,s.obj t=some o->∀ b∈bK (β t) o,Ra' b) (hx:S2 (bg E s w β Rt Ra) x v) (hc:dU s x=some y):CV (cc E.T w Rt Ra') y v ((gg s [x]).flatMap (tb s β))/\Shape x y:=by
 rcases fh x with ⟨l,rfl⟩|h1
 ·simp only [dU] at hc
  split at hc
  ·rename_i ys hl;cases hc
   obtain ⟨cs,rfl,hp⟩:=gO hx
   exact ⟨⟨cs,rfl,jY h hRa l _ ys hS hp hl⟩,.inr ⟨by simp,by simp⟩⟩
  ·cases hc
 ·by_cases h2:∃ t off,x = .ptr t off
  ·obtain ⟨t,off,rfl⟩:=h2
   unfold dU at hc
   split at hc
   ·cases ‹SV.ptr _ _=SV.agg _›
   ·rename_i t' e
    cases e
    split at hc
    ·rename_i ty ls ho
     split at hc
     ·rename_i ys hl;cases hc
      obtain ⟨cs,q,hh,hp⟩:=h.objs t _ ho
      obtain ⟨_,hv⟩:_/\v=_:=hx
      refine ⟨⟨(β t).b,cs,q,_,hv,hh,l6 h hRa ls _ ys hp hl,?_⟩,.inl ⟨t,rfl,_,_,rfl⟩⟩
      simp only [gg,ho,List.flatMap_cons,List.append_nil,tb,bK];rfl
     ·cases hc
    ·cases hc
   ·rw [nh] at hc;cases hc
  ·have h2':∀ t off,x ≠ .ptr t off:=fun t off e=>h2 ⟨t,off,e⟩
   rw [rT h1 h2'] at hc
   rw [jK h1] at hS
   have h3:∀ l,x ≠ .tup l:=fun l e=>by subst e;rw [ua] at hc;cases hc
   have:=jW h hRa hS (vm h1 (vn h3 hx)) hc
   have h4:∀ ty l,y ≠ .vp ty l:=fun ty l e=>by subst e;exact DL this
   rw [qT h2']
   exact ⟨B2 h4 (xW this),.inr ⟨h2',h4⟩⟩
theorem jX {Ra':Nat->Prop} (h:Rel E s a w β Rt Ra) (hRa:∀ b,Ra b->Ra' b):∀ (l:List SV) (vs:List Value) (ys:List SV),(∀ t∈seen l,∀ o,s.obj t=some o->∀ b∈bK (β t) o,Ra' b)->PW (S2 (bg E s w β Rt Ra)) l vs->dp s l=some ys ->
  ie (CV (cc E.T w Rt Ra')) ys vs ((gg s l).flatMap (tb s β))/\PW Shape l ys
 | [],[],ys,_,_,hc=>by cases hc;exact ⟨rfl,trivial⟩
 | x::l,v::vs,ys,hS,hp,hc=>by
  unfold dp at hc
  split at hc
  ·rename_i y zs h1 h2
   cases hc
   obtain ⟨g1,g2⟩:=qJ h hRa (fun t ht=>hS t (List.mem_append_left _ ht)) hp.1 h1
   obtain ⟨g3,g4⟩:=jX h hRa l vs zs (fun t ht=>hS t (List.mem_append_right _ ht)) hp.2 h2
   rw [yZ,List.flatMap_append]
   exact ⟨⟨_,_,rfl,g1,g3⟩,g2,g4⟩
  ·cases hc
 | [],_::_,_,_,hp,_=>hp.elim
 | _::_,[],_,_,hp,_=>hp.elim
theorem dL:∀ {l:List Nat},distinct l=true->l.Nodup
 | [],_=>List.nodup_nil
 | x::r,h=>by
  simp only [distinct,Bool.and_eq_true,Bool.not_eq_true',List.any_eq_false] at h
  refine List.nodup_cons.2 ⟨fun hx => ?_,dL h.2⟩
  exact h.1 x hx (Nat.beq_refl x)
theorem nI (s:St):∀ (l:List SV),(gg s l).Perm (given l++bM s l)
 | []=>List.Perm.refl _
 | x::r=>by
  by_cases hx:∃ t o,x = .ptr t o
  ·obtain ⟨t,o,rfl⟩:=hx
   simp only [gg,given,bM,List.cons_append]
   refine List.Perm.cons _ ?_
   exact ((nI s r).append_left _).trans (by
    rw [<- List.append_assoc,<- List.append_assoc]
    exact List.perm_append_comm.append_right _)
  ·have h1:∀ t o,x ≠ .ptr t o:=fun t o e=>hx ⟨t,o,e⟩
   rw [qT h1]
   have h2:given (x::r)=given r:=by cases x <;> first|rfl|exact absurd rfl (h1 _ _)
   have h3:bM s (x::r)=bM s r:=by cases x <;> first|rfl|exact absurd rfl (h1 _ _)
   rw [h2,h3];exact nI s r
theorem zZ (t:Nat):(tb s β t).Nodup:=by
 unfold tb;split
 ·rename_i o _
  cases o with
  | row e l st=>simp only [bK];cases (β t).v.ownBlock <;> simp
  | var ty ls=>simp [bK]
  | sit b p=>simp [bK]
  | mp k e l=>simp [bK]
  | hole=>simp [bK]
 ·exact List.nodup_nil
theorem tG (h:RelO E s w β Rt Ra) {t t':Nat} (hn:t≠t'):∀ b∈tb s β t,b ∉ tb s β t':=by
 intro b hb hb'
 unfold tb at hb hb'
 split at hb
 ·rename_i o ho
  split at hb'
  ·rename_i o' ho';exact h.apart t o t' o' ho ho' hn b hb hb'
  ·cases hb'
 ·cases hb
theorem jc (h:RelO E s w β Rt Ra):∀ {l:List Nat},l.Nodup->(l.flatMap (tb s β)).Nodup
 | [],_=>List.nodup_nil
 | t::r,hn=>by
  rw [List.nodup_cons] at hn
  rw [List.flatMap_cons,List.nodup_append]
  refine ⟨zZ t,jc h hn.2,fun x hx y hy e => ?_⟩
  subst e
  obtain ⟨t',ht',hy⟩:=List.mem_flatMap.1 hy
  exact tG h (fun e=>by subst e;exact hn.1 ht') x hx hy
theorem lC:∀ (ts:List Nat) {s:St},Rel E s a w β Rt Ra->Rel E (dZ ts s) a w β Rt Ra
 | [],_,h=>h
 | t::r,_,h=>lC r (h.zr t)
theorem zt {s:St} {t k:Nat} {o:Obj} (h:((s.kill t).drop t).obj k=some o):k≠t/\∃ o',s.obj k=some o'/\∀ bl,bK bl o=bK bl o':=by
 obtain ⟨hn,o',ho',rfl⟩:=dw h
 exact ⟨hn,o',ho',fun bl=>e7 bl o' _⟩
theorem uQ {s:St} {t k:Nat} {o:Obj} (hn:k≠t) (h:s.obj k=some o):∃ o',((s.kill t).drop t).obj k=some o':=by
 rw [np,if_neg hn,St.kill,rc,h];exact ⟨_,rfl⟩
theorem lB:∀ (ts:List Nat) {s:St} {k:Nat} {o:Obj},(dZ ts s).obj k=some o->k ∉ ts/\∃ o',s.obj k=some o'/\∀ bl,bK bl o=bK bl o'
 | [],_,_,o,h=>⟨by simp,o,h,fun _=>rfl⟩
 | t::r,s,k,o,h=>by
  obtain ⟨hn,o1,h1,e1⟩:=lB r h
  obtain ⟨hn2,o2,h2,e2⟩:=zt h1
  exact ⟨by simp [hn,hn2],o2,h2,fun bl=>(e1 bl).trans (e2 bl)⟩
theorem ma:∀ (ts:List Nat) {s:St} {k:Nat} {o:Obj},k ∉ ts->s.obj k=some o->∃ o',(dZ ts s).obj k=some o'
 | [],_,_,o,_,h=>⟨o,h⟩
 | t::r,s,k,o,hn,h=>by
  simp only [List.mem_cons,not_or] at hn
  obtain ⟨o1,h1⟩:=uQ hn.1 h
  exact ma r hn.2 h1
theorem lu:∀ (ts:List Nat) {s:St} {k:Nat},(eE ts s).obj k=if k∈ts then (s.obj k).map (fun _ => .hole) else s.obj k
 | [],_,_=>by simp [eE]
 | t::r,s,k=>by
  unfold eE;rw [lu r,cQ]
  by_cases h1:k∈r <;> by_cases h2:k=t
  ·subst h2;simp [h1,Function.comp_def]
  ·simp [h1,h2]
  ·subst h2;simp [h1]
  ·simp [h1,h2]
theorem Rel.hole (h:Rel E s a w β Rt Ra) (t:Nat):Rel E (s.setObj t .hole) a w β Rt Ra :=
 ⟨(h.toRelO.hole t).1,h.len,h.defers,ec (h.toRelO.hole t).2 h.slots⟩
theorem pE:∀ (ts:List Nat) {s:St},Rel E s a w β Rt Ra->Rel E (eE ts s) a w β Rt Ra
 | [],_,h=>h
 | t::r,_,h=>pE r (h.hole t)
theorem le_refl (c:Cx):c.Le c:=⟨rfl,fun _ _ h=>h,fun _ _ _=>rfl,fun _ h=>h,fun _ _=>rfl⟩
theorem dx:∀ (ls:List SV) (s:St) {t:Nat},t<s.next->(b9 s ls).2.obj t=s.obj t
 | [],_,_,_=>rfl
 | x::r,s,t,ht=>by
  by_cases hx:∃ e l st,x = .fr e l st
  ·obtain ⟨e,l,st,rfl⟩:=hx
   rw [e6]
   refine (dx r (s.new (.row e l st)) (Nat.lt_succ_of_lt ht)).trans ?_
   rw [ef,if_neg (Nat.ne_of_lt ht)]
  ·rw [fH s x r fun e l st e'=>hx ⟨e,l,st,e'⟩];exact dx r s ht
def EN (s:St) (β : Nat->Bl) (x:SV) (v:Value):Prop:=∀ t off,x = .ptr t off->v = .pointer (some ⟨(β t).b,off,none⟩)/\s.obj t=some .hole
theorem kY (s:St) (t off:Nat) (r:List SV) (ty:Nat) (ls u:List SV):dI s (.ptr t off::r) (.vp ty ls::u)=dI ((b9 s ls).2.setObj t (.var ty (b9 s ls).1)) r u:=rfl
theorem iv (s:St) {x:SV} (hx:∀ t o,x ≠ .ptr t o) (r u:List SV):dI s (x::r) u=dI s r u:=by
 cases x <;> first|rfl|exact absurd rfl (hx _ _)
theorem oY (c:Cx) {x:SV} (hx:∀ ty l,x ≠ .vp ty l) (r:List SV) (v:Value) (vs:List Value) (u:List SV) (bs:List Nat):CB c (x::r) (v::vs) u bs=CB c r vs u bs:=by
 cases x <;> first|rfl|exact absurd rfl (hx _ _)
theorem sn {x:SV} (hx:∀ t o,x ≠ .ptr t o) (r:List SV):given (x::r)=given r:=by
 cases x <;> first|rfl|exact absurd rfl (hx _ _)
theorem lp {t off:Nat}:∀ {xs:List SV},SV.ptr t off∈xs->t∈given xs
 | [],h=>by cases h
 | y::ys,h=>by
  rcases List.mem_cons.1 h with rfl|h
  ·simp [given]
  ·have:=lp h
   cases y <;> simp [given,this]
theorem iw {Rt':Nat->Prop} (hR:∀ b,Rt' b->Rt b):∀ (xs cs:List SV) (vs:List Value) (back:List SV) (bs:List Nat) {s s2:St} {β : Nat->Bl},Rel E s a w β Rt Ra->PW Shape xs cs->CB (cc E.T w Rt' Rt') cs vs back bs->bs.Nodup->(∀ z∈bs,oM E s w β Ra z) ->
  PW (EN s β) xs vs->(given xs).Nodup->dI s xs back=some s2 ->
  ∃ β',Rel E s2 a w β' Rt Ra/\∀ t o,s2.obj t=some o->(s.obj t=some o /\ β' t = β t)∨∀ z∈bK (β' t) o,z∈bs
 | [],[],[],back,bs,s,s2,β,h,_,hc,_,_,_,_,hb=>by
  obtain ⟨rfl,rfl⟩:=hc
  cases hb
  exact ⟨β,h,fun t o ho => .inl ⟨ho,rfl⟩⟩
 | x::xs,c::cs,v::vs,back,bs,s,s2,β,h,hsh,hc,hnd,hf,hh,hg,hb=>by
  rcases hsh.1 with ⟨t,rfl,ty0,l0,rfl⟩|⟨h1,h2⟩
  ·simp only [CB] at hc
   split at hc
   ·rename_i ty ls u'
    obtain ⟨b,cs',q,b1,b2,hv,hheap,hcat,rfl,hrest⟩:=hc
    obtain ⟨hv',hhole⟩:=hh.1 t 0 rfl
    have eb:b=(β t).b:=by rw [hv] at hv';simpa using hv'
    rw [kY] at hb
    rw [List.cons_append,List.nodup_cons,List.nodup_append] at hnd
    obtain ⟨nb,nd1,nd2,nd12⟩:=hnd
    obtain ⟨β1,r1,le1,p1,ob1⟩:=ez hR (fun b hb=>h.sub b (hR b hb)) ls cs'.toList b1 h hcat nd1 (fun z hz=>hf z (by simp [hz]))
    have hlt:=h.lt t _ hhole
    have hhole1:(b9 s ls).2.obj t=some .hole:=by rw [dx ls s hlt];exact hhole
    have hβ1 : β1 t = β t:=le1.β t ⟨_,hhole⟩
    have hb1:(β1 t).b=b:=by rw [hβ1,eb]
    have hbf:=hf b (by simp)
    obtain ⟨r2,le2⟩:=r1.toRelO.set t (.var ty (b9 s ls).1) hhole1 (fun z hz=>by
      simp only [bK,List.mem_singleton] at hz;rw [hz,hb1];exact ⟨hbf.1,hbf.2.1,hbf.2.2.1⟩) (fun z hz k o' ho' hz'=>by
      simp only [bK,List.mem_singleton] at hz;rw [hz,hb1] at hz'
      rcases ob1 k o' ho' with ⟨ho2,hβ2⟩|hin
      ·rw [hβ2] at hz';exact hbf.2.2.2 k o' ho2 hz'
      ·exact nb (List.mem_append_left _ (hin b hz'))) (fun le=>⟨cs',q,by rw [hb1];exact hheap,by rw [hb1];exact p1.imp fun _ _ hs=>hs.le le⟩)
    have r2':Rel E ((b9 s ls).2.setObj t (.var ty (b9 s ls).1)) a w β1 Rt Ra:=⟨r2,r1.len,r1.defers,ec le2 r1.slots⟩
    rw [show given (SV.ptr t 0::xs)=t::given xs from rfl,List.nodup_cons] at hg
    have obs:∀ k o,((b9 s ls).2.setObj t (.var ty (b9 s ls).1)).obj k=some o->(k=t/\bK (β1 k) o=[b])∨(k≠t/\((s.obj k=some o /\ β1 k = β k)∨∀ z∈bK (β1 k) o,z∈b1)):=by
     intro k o hk
     rw [cQ] at hk;split at hk
     ·rename_i e;subst e;rw [hhole1] at hk;cases hk;exact .inl ⟨rfl,by simp [bK,hb1]⟩
     ·rename_i e;exact .inr ⟨e,ob1 k o hk⟩
    obtain ⟨β2,r3,ob3⟩:=iw hR xs cs vs u' b2 r2' hsh.2 hrest nd2 (fun z hz=>by
      obtain ⟨f1,f2,f3,f4⟩:=hf z (by simp [hz])
      refine ⟨f1,f2,f3,fun k o hk hz' => ?_⟩
      rcases obs k o hk with ⟨_,e⟩|⟨_,⟨ho2,hβ2⟩|hin⟩
      ·rw [e,List.mem_singleton] at hz';subst hz';exact nb (List.mem_append_right _ hz)
      ·rw [hβ2] at hz';exact f4 k o ho2 hz'
      ·exact nd12 z (hin z hz') z hz rfl)
     (by
      refine hh.2.imp_mem fun y hy v' hv' t' off' e => ?_
      subst e
      obtain ⟨g1,g2⟩:=hv' t' off' rfl
      have hne:t'≠t:=fun e=>by subst e;exact hg.1 (lp hy)
      have eβ : β1 t' = β t':=le1.β t' ⟨_,g2⟩
      exact ⟨by rw [eβ];exact g1,by rw [cQ,if_neg hne,dx ls s (h.lt t' _ g2)];exact g2⟩)
     hg.2 hb
    refine ⟨β2,r3,fun k o hk => ?_⟩
    rcases ob3 k o hk with ⟨ho2,hβ2⟩|hin
    ·rcases obs k o ho2 with ⟨_,e⟩|⟨_,⟨ho3,hβ3⟩|hin⟩
     ·exact .inr fun z hz=>by rw [hβ2,e,List.mem_singleton] at hz;subst hz;simp
     ·exact .inl ⟨ho3,hβ2.trans hβ3⟩
     ·exact .inr fun z hz=>by rw [hβ2] at hz;simp [hin z hz]
    ·exact .inr fun z hz=>by simp [hin z hz]
   ·exact hc.elim
  ·rw [iv s h1] at hb
   rw [oY _ h2] at hc
   rw [sn h1] at hg
   exact iw hR xs cs vs back bs h hsh.2 hc hnd hf hh.2 hg hb
 | [],[],_::_,_,_,_,_,_,_,_,hc,_,_,_,_,_=>hc.elim
 | [],_::_,_,_,_,_,_,_,_,hs,_,_,_,_,_,_=>hs.elim
 | _::_,[],_,_,_,_,_,_,_,hs,_,_,_,_,_,_=>hs.elim
 | _::_,_::_,[],_,_,_,_,_,_,_,_,_,_,hh,_,_=>hh.elim
theorem ie.imp {S S':SV->Value->List Nat->Prop} (hS:∀ x v bs,S x v bs->S' x v bs):∀ {l:List SV} {vs:List Value} {bs:List Nat},ie S l vs bs->ie S' l vs bs
 | [],[],_,h=>h
 | _::_,_::_,_,⟨b1,b2,e,h1,h2⟩=>⟨b1,b2,e,hS _ _ _ h1,ie.imp hS h2⟩
 | [],_::_,_,h=>h.elim
 | _::_,[],_,h=>h.elim
theorem fI {v:SV} (hv:∀ l,v ≠ .agg l) (s:St):∃ u,(b9 s [v]).1=[u]/\di s v=(u,(b9 s [v]).2):=by
 by_cases hx:∃ e l st,v = .fr e l st
 ·obtain ⟨e,l,st,rfl⟩:=hx
  exact ⟨.own s.next,rfl,rfl⟩
 ·have hx':∀ e l st,v ≠ .fr e l st:=fun e l st e'=>hx ⟨e,l,st,e'⟩
  refine ⟨v,by rw [fH s v [] hx'];rfl,?_⟩
  cases v <;> first|rfl|exact absurd rfl (hx' _ _ _)|exact absurd rfl (hv _)
theorem iM {Rt' Ra':Nat->Prop} (hR:∀ b,Rt' b->Rt b) (hA:∀ b,Ra' b->Ra b) {x:SV} {v:Value} {bs:List Nat} (h:Rel E s a w β Rt Ra) (hx:vk (cc E.T w Rt' Ra') x v bs) (hnd:bs.Nodup) (hf:∀ z∈bs,oM E s w β Ra z) :
  ∃ β',Rel E (di s x).2 a w β' Rt Ra/\(bg E s w β Rt Ra).Le (bg E (di s x).2 w β' Rt Ra)/\S1 (bg E (di s x).2 w β' Rt Ra) (di s x).1 v/\∀ t o,(di s x).2.obj t=some o->(s.obj t=some o /\ β' t = β t)∨∀ z∈bK (β' t) o,z∈bs:=by
 rcases fh x with ⟨l,rfl⟩|h1
 ·obtain ⟨cs,rfl,hc⟩:=hx
  obtain ⟨β',r,le,p,ob⟩:=ez (b:=0) hR hA l cs.toList bs h (hc.imp fun _ _ _ hq=>mV hq 0) hnd hf
  exact ⟨β',r,le,⟨cs,rfl,p.imp fun _ _=>qA⟩,ob⟩
 ·have hcl:CL (cc E.T w Rt' Ra') x v bs:=by
   unfold vk at hx;split at hx
   ·exact absurd rfl (h1 _)
   ·exact hx
  obtain ⟨β',r,le,p,ob⟩:=ez (b:=0) hR hA [x] [v] bs h ⟨bs,[],by simp,mV hcl 0,rfl⟩ hnd hf
  obtain ⟨u,hu1,hu2⟩:=fI h1 s
  rw [hu2]
  rw [hu1] at p
  exact ⟨β',r,le,cL (qA p.1),ob⟩
theorem mg {Rt':Nat->Prop} (hR:∀ b,Rt' b->Rt b):∀ (xs:List SV) (vs:List Value) (bs:List Nat) {s:St} {β : Nat->Bl},Rel E s a w β Rt Ra->ie (vk (cc E.T w Rt' Rt')) xs vs bs->bs.Nodup->(∀ z∈bs,oM E s w β Ra z) ->
  ∃ β',Rel E (dT s xs).2 a w β' Rt Ra/\(bg E s w β Rt Ra).Le (bg E (dT s xs).2 w β' Rt Ra)/\PW (S1 (bg E (dT s xs).2 w β' Rt Ra)) (dT s xs).1 vs
 | [],[],bs,s,β,h,hc,_,_=>⟨β,h,le_refl _,trivial⟩
 | x::xs,v::vs,bs,s,β,h,hc,hnd,hf=>by
  obtain ⟨b1,b2,rfl,hx,hr⟩:=hc
  rw [List.nodup_append] at hnd
  obtain ⟨β1,r1,le1,p1,ob1⟩:=iM hR (fun b hb=>h.sub b (hR b hb)) h hx hnd.1 (fun z hz=>hf z (List.mem_append_left _ hz))
  obtain ⟨β2,r2,le2,p2⟩:=mg hR xs vs b2 r1 hr hnd.2.1 (fun z hz=>by
   obtain ⟨f1,f2,f3,f4⟩:=hf z (List.mem_append_right _ hz)
   refine ⟨f1,f2,f3,fun t o ho hb => ?_⟩
   rcases ob1 t o ho with ⟨ho',hβ⟩|hin
   ·rw [hβ] at hb;exact f4 t o ho' hb
   ·exact hnd.2.2 z (hin z hb) z hz rfl)
  exact ⟨β2,r2,le1.trans le2,p1.le le2,p2⟩
 | [],_::_,_,_,_,_,h,_,_=>h.elim
 | _::_,[],_,_,_,_,h,_,_=>h.elim
end
end Go.Proofs.Ab
namespace Go.Proofs.Ab
open Go
variable {R:Type}
structure cS (C:Cfg R) (tab:cb) (E:Env):Prop where
 T:E.T=C.ty
 tab:∀ b ob,tab b=some ob->E.w0.heap[b]? = some ob/\E.Rt0 b/\¬ E.W0 b
section
variable {P:Program} {E:Env} {o:Oper} {s:St} {a:Act} {w:World} {β : Nat->Bl} {Rt Ra:Nat->Prop} {κ : St->Option R} {r:R} {C:Cfg R} {tab:cb}
theorem ou {c:Call} {f:Operand} {g:Nat} (ho:o.op = .call c) (hc:c.callee = .value f) (hf:a.eval f = .func (.func g) #[] #[]):(execOp a.eval o).run P w=(callFunc g (c.args.map a.eval)).run P w:=by
 unfold execOp;rw [ho]
 simp only [resolve,hc,hf,Deferred.ofValue,Sem.run_bind,Sem.run_pure,Result.andThen_ok,invoke]
 simp
theorem lL {c:Call} {f:Operand} {g:Nat} {p:Array Value} (ho:o.op = .call c) (hc:c.callee = .value f) (hf:a.eval f = .func (.func g) #[] p):(execOp a.eval o).run P w=(callFunc g (c.args.map a.eval++p)).run P w:=by
 unfold execOp;rw [ho]
 simp only [resolve,hc,hf,Deferred.ofValue,Sem.run_bind,Sem.run_pure,Result.andThen_ok,invoke]
 simp
theorem gX (h:Rel E s a w β Rt Ra):∀ (xs:List Operand),PW (S2 (bg E s w β Rt Ra)) (xs.map (ev s)) (xs.map a.eval)
 | []=>trivial
 | x::r=>⟨bH h x,gX h r⟩
theorem AP {t:Nat} {xs ys:List SV} (h:dp s xs=some ys) (ht:t∈given xs):∃ ty ls,s.obj t=some (.var ty ls):=by
 induction xs generalizing ys with
 | nil=>cases ht
 | cons x xs ih =>
  unfold dp at h
  split at h
  ·rename_i y zs h1 h2
   by_cases hx:∃ t' o,x = .ptr t' o
   ·obtain ⟨t',o,rfl⟩:=hx
    rcases List.mem_cons.1 ht with rfl|ht
    ·unfold dU at h1
     split at h1
     ·cases ‹SV.ptr _ _=SV.agg _›
     ·rename_i t'' e;cases e
      split at h1
      ·exact ⟨_,_,by assumption⟩
      ·cases h1
     ·rw [nh] at h1;cases h1
    ·exact ih h2 ht
   ·rw [sn (fun t o e=>hx ⟨t,o,e⟩)] at ht;exact ih h2 ht
  ·cases h
theorem sj (ts:List Nat) (h:Rel E s a w β Rt Ra):∃ β' Rt' Ra',Rel E (eO ts s) a w β' Rt' Ra':=ci.eO ts ⟨β,Rt,Ra,h⟩
theorem tQ {xs:List SV} {vs:List Value} {cs back:List SV} {b1 b2:List Nat} {w':World} {v0:SV} {v:Value} {res:List SV} {Rt':Nat->Prop} {s2:St}
  {bx:List Nat} (hfx:∀ b∈bx,oM E s w β Ra b) (h:Rel E s a w β Rt Ra) (hp:PW (S2 (bg E s w β Rt Ra)) xs vs) (hcl:dp s xs=some cs) (hnd:(gg s xs).Nodup)
  (hpost:kW E.T w cs vs Rt ((gg s xs).flatMap (tb s β)++bx) res v w' Rt' v0 back b1 b2) (hsh:PW Shape xs cs) (hb:dI (eE (given xs) (dZ (bM s xs) s)) xs back=some s2) :
  (∃ l,v0 = .tup l/\∃ vs':Array Value,v = .tuple vs'/\∃ β2 Rt2 Ra2,Rel E (dT s2 l).2 a w' β2 Rt2 Ra2/\PW (S1 (bg E (dT s2 l).2 w' β2 Rt2 Ra2)) (dT s2 l).1 vs'.toList) ∨
  ((∀ l,v0 ≠ .tup l)/\∃ β2 Rt2 Ra2,Rel E (di s2 v0).2 a w' β2 Rt2 Ra2/\S1 (bg E (di s2 v0).2 w' β2 Rt2 Ra2) (di s2 v0).1 v):=by
 have hperm:=nI s xs
 have hn:=hperm.nodup hnd
 rw [List.nodup_append] at hn
 -- blocks that were handed over
 have hbs:∀ b∈(gg s xs).flatMap (tb s β)++bx,b<w.heap.size/\¬ Ra b/\(E.w0.heap.size<=b∨E.W0 b)/\((∃ t∈gg s xs,b∈tb s β t)∨∀ t o,s.obj t=some o->b ∉ bK (β t) o):=by
  intro b hb
  rcases List.mem_append.1 hb with hb|hb
  ·obtain ⟨t,ht,hb⟩:=List.mem_flatMap.1 hb
   have hb0:=hb
   unfold tb at hb;split at hb
   ·rename_i o ho;exact ⟨(h.cx t o ho b hb).1,(h.cx t o ho b hb).2.1,(h.cx t o ho b hb).2.2,.inl ⟨t,ht,hb0⟩⟩
   ·cases hb
  ·obtain ⟨f1,f2,f3,f4⟩:=hfx b hb
   exact ⟨f1,f2,f3,.inr f4⟩
 have h1:Rel E (eE (given xs) (dZ (bM s xs) s)) a w β Rt Ra:=pE _ (lC _ h)
 -- what objects there are now
 have hob:∀ t o,(eE (given xs) (dZ (bM s xs) s)).obj t=some o->∀ b∈bK (β t) o,b ∉ (gg s xs).flatMap (tb s β)++bx/\b<w.heap.size:=by
  intro t o ho b hbb
  refine ⟨fun hin => ?_,(h1.cx t o ho b hbb).1⟩
  obtain ⟨_,_,_,hor⟩:=hbs b hin
  rw [lu] at ho
  split at ho
  ·rename_i hg
   cases hx:(dZ (bM s xs) s).obj t with
   | none=>rw [hx] at ho;cases ho
   | some o'=>rw [hx] at ho;cases ho;cases hbb
  ·rename_i hg
   obtain ⟨hg2,o',ho',e⟩:=lB _ ho
   rw [e] at hbb
   rcases hor with ⟨t',ht',hb'⟩|hor
   ·have:t≠t':=fun e=>by
     subst e
     have:=(hperm.mem_iff (a:=t)).1 ht'
     rcases List.mem_append.1 this with h|h
     ·exact hg h
     ·exact hg2 h
    refine tG h.toRelO this b ?_ hb'
    unfold tb;rw [ho'];exact hbb
   ·exact hor t o' ho' hbb
 have h2:Rel E (eE (given xs) (dZ (bM s xs) s)) a w' β Rt Ra:=h1.world hpost.fr fun b hb=>⟨(hbs b hb).2.1,(hbs b hb).2.2.1,fun t o ho hbb=>(hob t o ho b hbb).1 hb⟩
 obtain ⟨h3,_⟩:=h2.more hpost.le fun b hb hnb=>by
  obtain ⟨g1,g2⟩:=hpost.lt b hb
  refine ⟨g1,?_,fun t o ho hbb => ?_⟩
  ·rcases g2 with g2|g2|g2
   ·exact absurd g2 hnb
   ·exact .inl (Nat.le_trans h.fr.size g2)
   ·exact (hbs b g2).2.2.1
  ·rcases g2 with g2|g2|g2
   ·exact hnb g2
   ·have:=(hob t o ho b hbb).2;omega
   ·exact (hob t o ho b hbb).1 g2
 have hfree:∀ z∈b1++b2,oM E (eE (given xs) (dZ (bM s xs) s)) w' β (fun b=>Ra b∨Rt' b) z:=by
  intro z hz
  obtain ⟨g1,g2,g3⟩:=hpost.no z hz
  refine ⟨g2,?_,?_,fun t o ho hbb => ?_⟩
  ·rintro (hr|hr)
   ·rcases g3 with g3|g3
    ·have:=h.rlt z hr;omega
    ·exact (hbs z g3).2.1 hr
   ·exact g1 hr
  ·rcases g3 with g3|g3
   ·exact .inl (Nat.le_trans h.fr.size g3)
   ·exact (hbs z g3).2.2.1
  ·rcases g3 with g3|g3
   ·have:=(hob t o ho z hbb).2;omega
   ·exact (hob t o ho z hbb).1 g3
 have hnd2:=hpost.nd
 rw [List.nodup_append] at hnd2
 obtain ⟨β4,h4,ob4⟩:=iw (fun _ h=>h) xs cs vs back b2 h3 hsh hpost.b hnd2.2.1 (fun z hz=>hfree z (List.mem_append_right _ hz))
  (by
   refine hp.imp_mem fun x hx v hv t off e => ?_
   subst e
   obtain ⟨_,hv⟩:_/\v=_:=hv
   refine ⟨hv,?_⟩
   have hg:=lp hx
   obtain ⟨ty,ls,ho⟩:=AP hcl hg
   obtain ⟨o',ho'⟩:=ma (bM s xs) (fun hin=>hn.2.2 t hg t hin rfl) ho
   rw [lu,if_pos hg,ho'];rfl)
  hn.1 hb
 have hfree2:∀ z∈b1,oM E s2 w' β4 (fun b=>Ra b∨Rt' b) z:=by
  intro z hz
  obtain ⟨f1,f2,f3,f4⟩:=hfree z (List.mem_append_left _ hz)
  refine ⟨f1,f2,f3,fun t o ho hbb => ?_⟩
  rcases ob4 t o ho with ⟨ho',hβ⟩|hin
  ·rw [hβ] at hbb;exact f4 t o ho' hbb
  ·exact hnd2.2.2 z hz z (hin z hbb) rfl
 rcases nY v0 with ⟨l,rfl⟩|hv
 ·obtain ⟨us,hus,hcat⟩:=hpost.r
  obtain ⟨β5,h5,_,p5⟩:=mg (fun _ h=>h) l us.toList b1 h4 hcat hnd2.1 hfree2
  exact .inl ⟨l,rfl,us,hus,β5,_,_,h5,p5⟩
 ·have hr:vk (cc E.T w' Rt' Rt') v0 v b1:=by
   have:=hpost.r
   unfold CR at this;split at this
   ·exact absurd rfl (hv _)
   ·exact this
  obtain ⟨β5,h5,_,p5,_⟩:=iM (fun _ h=>h) (fun _ h => .inr h) h4 hr hnd2.1 hfree2
  exact .inr ⟨hv,β5,_,_,h5,p5⟩
theorem j9 {A:Type} {b:Bool} {k:Option A} {r:A} (h:(bif b then k else none)=some r):b=true/\k=some r:=by
 cases b with
 | true=>exact ⟨rfl,h⟩
 | false=>cases h
theorem jv {A:Type} {b:Bool} {k:Option A} {r:A} (h:(bif b then none else k)=some r):b=false/\k=some r:=by
 cases b with
 | false=>exact ⟨rfl,h⟩
 | true=>cases h
theorem ie.more {S:SV->Value->List Nat->Prop}:∀ {l:List SV} {vs:List Value} {bs:List Nat} {ex:List SV} {exv:List Value},ie S l vs bs->PW (fun x v=>S x v []) ex exv->ie S (l++ex) (vs++exv) bs
 | [],[],_,[],[],h,_=>h
 | [],[],bs,x::ex,v::exv,h,hx=>by
  have h:bs=[]:=h
  subst h
  exact ⟨[],[],rfl,hx.1,ie.more (l:=[]) (vs:=[]) (bs:=[]) rfl hx.2⟩
 | x::l,v::vs,_,_,_,⟨b1,b2,e,h1,h2⟩,hx=>⟨b1,b2,e,h1,h2.more hx⟩
 | [],[],_,[],_::_,_,hx=>hx.elim
 | [],[],_,_::_,[],_,hx=>hx.elim
 | [],_::_,_,_,_,h,_=>h.elim
 | _::_,[],_,_,_,h,_=>h.elim
theorem ie.join {S:SV->Value->List Nat->Prop}:∀ {l:List SV} {vs:List Value} {bs:List Nat} {ex:List SV} {exv:List Value} {bx:List Nat},ie S l vs bs->ie S ex exv bx->ie S (l++ex) (vs++exv) (bs++bx)
 | [],[],_,_,_,_,h,hx=>by
  have h:_=[]:=h
  subst h
  exact hx
 | x::l,v::vs,_,_,_,bx,⟨b1,b2,e,h1,h2⟩,hx=>⟨b1,b2++bx,by rw [e,List.append_assoc],h1,h2.join hx⟩
 | [],_::_,_,_,_,_,h,_=>h.elim
 | _::_,[],_,_,_,_,h,_=>h.elim
theorem ie.none {S:SV->Value->List Nat->Prop}:∀ {l:List SV} {vs:List Value},PW (fun x v=>S x v []) l vs->ie S l vs []
 | [],[],_=>rfl
 | _::_,_::_,h=>⟨[],[],rfl,h.1,ie.none h.2⟩
 | [],_::_,h=>h.elim
 | _::_,[],h=>h.elim
theorem qx {c:Cx} {ex:List SV} (hex:∀ x∈ex,∀ ty l,x ≠ .vp ty l):∀ {cs:List SV} {vs:List Value} {exv:List Value} {u:List SV} {bs:List Nat},cs.length=vs.length->ex.length=exv.length->CB c (cs++ex) (vs++exv) u bs->CB c cs vs u bs
 | [],[],exv,u,bs,hl,he,h=>by
  replace h:CB c ex exv u bs:=h
  clear hl
  induction ex generalizing exv with
  | nil=>cases exv with
   | nil=>exact h
   | cons _ _=>simp at he
  | cons x ex ih=>cases exv with
   | nil=>simp at he
   | cons v exv =>
    rw [oY c (hex x (by simp))] at h
    exact ih (fun y hy=>hex y (by simp [hy])) exv (by simpa using he) h
 | x::cs,v::vs,exv,u,bs,hl,he,h=>by
  by_cases hx:∃ ty l,x = .vp ty l
  ·obtain ⟨ty,l,rfl⟩:=hx
   cases u with
   | nil=>exact h.elim
   | cons y u =>
    cases y <;> first
     | (obtain ⟨b, cs', i, b1, b2, h1, h2, h3, h4, h5⟩ := h
        exact ⟨b,cs',i,b1,b2,h1,h2,h3,h4,qx hex (by simpa using hl) he h5⟩)
     | exact h.elim
  ·have hn:∀ ty l,x ≠ .vp ty l:=fun ty l e=>hx ⟨ty,l,e⟩
   rw [oY c hn]
   rw [List.cons_append,List.cons_append,oY c hn] at h
   exact qx hex (by simpa using hl) he h
 | [],_::_,_,_,_,hl,_,_=>by simp at hl
 | _::_,[],_,_,_,hl,_,_=>by simp at hl
theorem uo {q:Bool} (hE:cS C tab E) (hD:∀ g,bR P C.ty tab g (C.call g)) {s0:St} {β0:Nat->Bl} {Rt0 Ra0:Nat->Prop} (h0:Rel E s0 a w β0 Rt0 Ra0) {fz:List Nat} {g:Nat} {xs ex:List SV} {vals:Array Value} {vx exv:List Value} {bx:List Nat} (hbx:bx.Nodup) (hfx:∀ b∈bx,oM E s0 w β0 Ra0 b) (hvals:vals.toList=vx++exv)
  (hrun0:(execOp a.eval o).run P w=(callFunc g vals).run P w) (hp:PW (S2 (bg E s0 w β0 Rt0 Ra0)) xs vx)
  (hex:ie (CV (cc E.T w Rt0 fun b=>Ra0 b∨∃ t o,s0.obj t=some o/\t ∉ gg s0 xs/\b∈bK (β0 t) o)) ex exv bx) (hexn:∀ x∈ex,∀ ty l,x ≠ .vp ty l)
  (hk:jU C q fz s0 o.dst g xs ex κ = some r):db P E o a w κ r:=by
 unfold jU at hk
 simp only at hk
 cases hcond:((q && !(fz.isEmpty&&(bM s0 xs).isEmpty)) || !distinct (gg s0 xs)||(seen xs).any (fun t=>(gg s0 xs).any (Nat.beq t))) with
 | true=>rw [hcond] at hk;cases hk
 | false =>
  rw [hcond] at hk;simp only [cond_false] at hk
  simp only [Bool.or_eq_false_iff,Bool.not_eq_false'] at hcond
  obtain ⟨⟨_,hdis⟩,hseen⟩:=hcond
  have hnd:=dL hdis
  split at hk
  ·cases hk
  ·rename_i cs hcl
   let Ra':Nat->Prop:=fun b=>Ra0 b∨∃ t o,s0.obj t=some o/\t ∉ gg s0 xs/\b∈bK (β0 t) o
   obtain ⟨hcat,hsh⟩:=jX (Ra':=Ra') h0 (fun b hb => .inl hb) xs _ cs (fun t ht o' ho' b hb=>by
    refine .inr ⟨t,o',ho',fun hin => ?_,hb⟩
    rw [List.any_eq_false] at hseen
    have:=hseen t ht
    rw [Bool.not_eq_true,List.any_eq_false] at this
    exact this t hin (Nat.beq_refl t)) hp hcl
   have hcl2:cs.length=vx.length:=hcat.len
   have hpre:Pre C.ty tab w (cs++ex) vals.toList Rt0 Ra' ((gg s0 xs).flatMap (tb s0 β0)++bx):=by
    refine ⟨by rw [<- hE.T,hvals];exact hcat.join hex,List.nodup_append.2 ⟨jc h0.toRelO hnd,hbx,fun b hb b' hb' e => ?_⟩,fun b hb => ?_,fun b hb => .inl (h0.sub b hb),fun b hb => ?_,fun b ob hob => ?_⟩
    ·subst e
     obtain ⟨t,ht,hb⟩:=List.mem_flatMap.1 hb
     unfold tb at hb;split at hb
     ·rename_i o' ho'
      exact (hfx b hb').2.2.2 t o' ho' hb
     ·cases hb
    ·rcases List.mem_append.1 hb with hb|hb
     ·obtain ⟨t,ht,hb⟩:=List.mem_flatMap.1 hb
      have hb0:=hb
      unfold tb at hb;split at hb
      ·rename_i o' ho'
       refine ⟨?_,(h0.cx t o' ho' b hb).1⟩
       rintro (hr|⟨t',o2,ho2,hn2,hb2⟩)
       ·exact (h0.cx t o' ho' b hb).2.1 hr
       ·exact h0.apart t o' t' o2 ho' ho2 (fun e=>by subst e;exact hn2 ht) b hb hb2
      ·cases hb
     ·obtain ⟨f1,f2,_,f4⟩:=hfx b hb
      refine ⟨?_,f1⟩
      rintro (hr|⟨t',o2,ho2,_,hb2⟩)
      ·exact f2 hr
      ·exact f4 t' o2 ho2 hb2
    ·rcases hb with hr|⟨t',o2,ho2,_,hb2⟩
     ·exact h0.rlt b hr
     ·exact (h0.cx t' o2 ho2 b hb2).1
    ·obtain ⟨g1,g2,g3⟩:=hE.tab b ob hob
     refine ⟨?_,h0.rt0 b g2⟩
     have hlt:b<E.w0.heap.size:=(Array.getElem?_eq_some_iff.1 g1).1
     rw [h0.fr.block b hlt g3];exact g1
   have hans:=hD g (cs++ex) _ r hk w vals Rt0 Ra' _ hpre
   intro next Q hnext
   have fin:∀ v w',(∃ res Rt' v0 back b1 b2,(match res with
     | []=>none
     | v::back=>match dI (eE (given xs) (dZ (bM s0 xs) s0)) xs back with
      | none=>none
      | some s2=>match v with
       | .tup l=>match dT s2 l with
        | (us,s3)=>κ (s3.put o.dst (.tup us))
       | v=>match di s2 v with
        | (u,s3)=>κ (s3.put o.dst u))=some r/\kW C.ty w (cs++ex) vals.toList Rt0 ((gg s0 xs).flatMap (tb s0 β0)++bx) res v w' Rt' v0 back b1 b2)->next (a.put o.dst v) w':=by
    rintro v w' ⟨res,Rt',v0,back,b1,b2,hres,hpost⟩
    rw [hpost.res] at hres
    simp only at hres
    split at hres
    ·cases hres
    ·rename_i s2 hs2
     have hb:=tQ hfx h0 hp hcl hnd (by
      rw [<- hE.T] at hpost
      exact ⟨hpost.res,hpost.fr,hpost.r,qx hexn hcl2 hex.len (by have:=hpost.b;rw [hvals] at this;exact this),hpost.nd,hpost.no,hpost.le,hpost.lt⟩) hsh hs2
     rcases hb with ⟨l,rfl,us,rfl,β2,Rt2,Ra2,hr,hpw⟩|⟨hv,β2,Rt2,Ra2,hr,hpw⟩
     ·simp only at hres
      exact hnext _ _ _ hres ⟨β2,Rt2,Ra2,hr.put o.dst ⟨us,rfl,hpw⟩⟩
     ·split at hres
      ·exact absurd rfl (hv _)
      ·exact hnext _ _ _ hres ⟨β2,Rt2,Ra2,hr.put o.dst (cB hpw)⟩
   unfold Oper.wp
   rw [hrun0]
   rcases hans with ⟨v,w',hrun,hq⟩|⟨hrun,hcalls⟩
   ·rw [hrun];exact fin v w' hq
   ·rw [hrun,Oper.upon_enter]
    intro cs'
    obtain ⟨e,w',fr,⟨v,he,hq⟩,hrest⟩:=hcalls cs'
    subst he
    exact ⟨_,w',fr,fin v w' hq,hrest⟩
theorem um {q:Bool} (hE:cS C tab E) (hD:∀ g,bR P C.ty tab g (C.call g)) {s0:St} {β0:Nat->Bl} {Rt0 Ra0:Nat->Prop} (h0:Rel E s0 a w β0 Rt0 Ra0) {fz:List Nat} {g:Nat} {xs:List SV} {vals:Array Value}
  (hrun0:(execOp a.eval o).run P w=(callFunc g vals).run P w) (hp:PW (S2 (bg E s0 w β0 Rt0 Ra0)) xs vals.toList) (hk:na C q fz s0 o.dst g xs κ = some r):db P E o a w κ r :=
 uo (ex:=[]) (exv:=[]) (bx:=[]) hE hD h0 List.nodup_nil (by simp) (List.append_nil _).symm hrun0 hp rfl (by simp) hk
theorem tq (hE:E.T=C.ty) {s0:St} {β0:Nat->Bl} {Rt0 Ra0:Nat->Prop} (h0:Rel E s0 a w β0 Rt0 Ra0) {t:Nat} {x:SV} (hx:zQ C s0 t=some x) {Ra':Nat->Prop} (hsub:∀ b,Ra0 b->Ra' b) (hmem:∀ o,s0.obj t=some o->∀ b∈bK (β0 t) o,Ra' b) :
  CV (cc E.T w Rt0 Ra') x (.pointer (some ⟨(β0 t).b,0,none⟩)) []/\∀ ty l,x ≠ .vp ty l:=by
 unfold zQ at hx
 split at hx
 ·rename_i ty ls hob
  split at hx
  ·rename_i T hT
   split at hx
   ·rename_i y hw
    split at hx
    ·rename_i d st hd
     cases hx
     refine ⟨⟨rfl,rfl,by simp,?_⟩,by simp⟩
     obtain ⟨cs,_,hg,hpw⟩:=h0.objs t _ hob
     have hkn:(leaves y).all known=true:=by
      unfold jw at hd
      cases hf:fitAll T.lv (leaves y) with
      | true=>exact fj hf
      | false=>rw [hf] at hd;cases hd
     have hyl:leaves y=ls∨(T.agg=false/\ls=[y]):=by
      unfold whole at hw
      obtain ⟨_,hw⟩:=j9 hw
      cases hag:T.agg with
      | true=>rw [hag,cond_true] at hw;cases hw;exact .inl rfl
      | false =>
       rw [hag,cond_false] at hw
       split at hw
       ·cases hw;exact .inr ⟨rfl,rfl⟩
       ·cases hw
     have hne:T.agg=false->leaves y=[y]:=fun hag=>by
      unfold jw at hd
      obtain ⟨_,hd⟩:=j9 hd
      rw [hag,cond_false] at hd
      cases y <;> first|rfl|cases hd
     have hls:leaves y=ls:=hyl.elim id fun ⟨h1,h2⟩=>by rw [hne h1,h2]
     rw [hls] at hkn
     have hsl:PW (SL (bg E s0 w β0 Rt0 Ra0)) ls cs.toList:=PW.imp_mem (fun z hz v hv=>ir (List.all_eq_true.mp hkn z hz) hv) hpw
     have hdat:∃ v:Value,v.cells=cs/\S1 (bg E s0 w β0 Rt0 Ra0) y v:=by
      obtain ⟨_,h⟩:=gd hw hsl
      rcases h with ⟨_,h⟩|⟨hag,v,e,h⟩
      ·exact ⟨.agg cs,rfl,by simpa using h⟩
      ·refine ⟨v,?_,h⟩
       have hy:known y=true:=by
        have:=hne hag
        rw [<- hls,this] at hkn
        simpa using hkn
       have hc1:v.cells.toList=[v]:=by
        have h2:SL (bg E s0 w β0 Rt0 Ra0) y v:=by
         cases y <;> first|exact h|cases hy
        rw [pd (iX hy h2)]
       apply Array.ext'
       rw [hc1,e]
     obtain ⟨v,hv,hs1⟩:=hdat
     obtain ⟨_,hrep⟩:=j' (c:=bg E s0 w β0 Rt0 Ra0) h0.sub hd (cB hs1)
     refine ⟨T,⟨(β0 t).b,0,none⟩,by show E.T _=_;rw [hE];exact hT,rfl,fun j k hk => ?_⟩
     rw [Nat.zero_add] at hk
     have hlen:T.lv.length=cs.size:=by
      unfold jw at hd
      obtain ⟨hf,_⟩:=j9 hd
      rw [(ft hf).len,hls,hsl.len];simp
     have hj:j<cs.size:=by rw [<- hlen];exact (List.getElem?_eq_some_iff.mp hk).1
     refine ⟨cs[j],hmem _ hob _ (by simp [bK]),?_,?_⟩
     ·show World.cell? w _=_
      rw [add_plain,cell_of_row w _ _ cs _ (0,0) hg]
      simp [hj]
     ·rw [Nat.zero_add]
      refine (hrep j k hk cs[j] (by rw [hv];simp [hj])).mono (fun b hb => ?_) (fun _ _=>rfl)
      show Ra' b
      refine hsub b ?_
      unfold Cx.Q at hb
      split at hb
      ·exact h0.sub b hb
      ·exact hb
    ·cases hx
   ·cases hx
  ·cases hx
 ·cases hx
theorem wg (c:Cx):∀ (ts:List Nat),(∀ t∈ts,c.D t)->PW (S2 c) (ts.map fun t => .ptr t 0) (ts.map fun t=>Value.pointer (some ⟨(c.β t).b,0,none⟩))
 | [],_=>trivial
 | t::ts,h=>⟨⟨h t (by simp),rfl⟩,wg c ts fun u hu=>h u (by simp [hu])⟩
theorem yS {q:Bool} (hE:cS C tab E) (hD:∀ g,bR P C.ty tab g (C.call g)) (h:Rel E s a w β Rt Ra) {c:Call} {f:Operand} (ho:o.op = .call c) (hc:c.callee = .value f) {g:Nat} (hk:vu C q s o.dst f g c.args.toList κ = some r):db P E o a w κ r:=by
  unfold vu at hk
  cases q with
  | true=>cases hk
  | false =>
   simp only [cond_false] at hk
   obtain ⟨β0,Rt0,Ra0,h0⟩:=sj (ji C s g c.args.toList) h
   have hf0:=bH h0 f
   split at hk
   ·rename_i g' t' hg'
    rw [hg'] at hf0
    obtain ⟨hd,hv⟩:_/\a.eval f=_:=hf0
    cases hb:Nat.beq g' g with
    | false=>rw [hb] at hk;cases hk
    | true =>
     rw [hb,cond_true] at hk
     obtain rfl:g'=g:=Nat.eq_of_beq_eq_true hb
     cases hfr:C.uj g' with
     | false =>
      rw [hfr,cond_false] at hk
      refine um hE hD h0 (lL ho hc hv) ?_ hk
      rw [Array.toList_append,Array.toList_map]
      exact PW.append (gX h0 c.args.toList) ⟨⟨hd,rfl⟩,trivial⟩
     | true =>
      rw [hfr,cond_true] at hk
      obtain ⟨hng,hk⟩:=jv hk
      split at hk
      ·rename_i x hx
       obtain ⟨h1,h2⟩:=tq hE.T h0 hx (Ra':=fun b=>_∨∃ t o,(eO (ji C s g' c.args.toList) s).obj t=some o/\t ∉ gg (eO (ji C s g' c.args.toList) s) (c.args.toList.map (ev (eO (ji C s g' c.args.toList) s)))/\b∈bK (β0 t) o) (fun b hb => .inl hb) (fun o ho b hb => .inr ⟨t',o,ho,fun hin=>by
        rw [List.any_eq_false] at hng
        exact hng t' hin (Nat.beq_refl t'),hb⟩)
       refine uo (ex:=[x]) (exv:=[.pointer (some ⟨_,0,none⟩)]) (bx:=[]) hE hD h0 List.nodup_nil (by simp) (by rw [Array.toList_append,Array.toList_map];rfl) (lL ho hc hv) (gX h0 c.args.toList) ⟨[],[],rfl,h1,rfl⟩ (by simpa using h2) hk
      ·cases hk
   ·rename_i g' ts hg'
    rw [hg'] at hf0
    obtain ⟨hd,hv⟩:_/\a.eval f=_:=hf0
    obtain ⟨hb,hk⟩:=j9 hk
    simp only [Bool.and_eq_true] at hb
    obtain rfl:g'=g:=Nat.eq_of_beq_eq_true hb.1
    refine um hE hD h0 (lL ho hc hv) ?_ hk
    rw [Array.toList_append,Array.toList_map]
    exact PW.append (gX h0 c.args.toList) (wg _ ts hd)
   ·cases hk
theorem ul {q:Bool} (hE:cS C tab E) (hD:∀ g,bR P C.ty tab g (C.call g)) (h:Rel E s a w β Rt Ra) {c:Call} {f:Operand} (ho:o.op = .call c) (hc:c.callee = .value f) {g:Nat} (hf':a.eval f = .func (.func g) #[] #[])
  (hk:fT C q s o.dst g c.args.toList κ = some r):db P E o a w κ r:=by
 unfold fT at hk
 obtain ⟨β0,Rt0,Ra0,h0⟩:=sj (ji C s g c.args.toList) h
 exact um hE hD h0 (ou ho hc hf') (by rw [Array.toList_map];exact gX h0 c.args.toList) hk
theorem CC (hE:cS C tab E) (hD:∀ g,bR P C.ty tab g (C.call g)) (h:Rel E s a w β Rt Ra) {c:Call} {f:Operand} (ho:o.op = .call c) (hc:c.callee = .value f) {g:Nat} (hf':a.eval f = .func (.func g) #[] #[])
  (hk:yw C s o.dst g c.args.toList κ = some r):db P E o a w κ r:=by
 unfold yw at hk
 split at hk
 ·rename_i y rr hrev
  have hargs:c.args.toList=rr.reverse++[y]:=by
   have:=congrArg List.reverse hrev
   simpa using this
  split at hk
  ·rename_i t ht
   split at hk
   ·rename_i e l st hob
    have h1:Rel E (dZ [t] s) a w β Rt Ra:=lC _ h
    have hy:S2 (bg E s w β Rt Ra) (.own t) (a.eval y):=ht▸bH h y
    have hgv:=l5 (Ra':=fun b=>Ra b∨∃ t' o',(dZ [t] s).obj t'=some o'/\t' ∉ gg (dZ [t] s) (rr.reverse.map (ev (dZ [t] s)))/\b∈bK (β t') o') h (fun b hb => .inl hb) (b:=0) (x := .own t) (y := .fr e l st) hy
     (by simp only [kj,hob])
    have hbk:(owns [SV.own t]).flatMap (tb s β)=bK (β t) (.row e l st):=by
     simp only [owns,List.flatMap_cons,List.flatMap_nil,List.append_nil,tb,hob]
    rw [hbk] at hgv
    refine uo (ex:=[.fr e l st]) (exv:=[a.eval y]) (bx:=bK (β t) (.row e l st)) hE hD h1 ?_ (fun b hb => ?_) (by rw [Array.toList_map,hargs,List.map_append];rfl) (ou ho hc hf') (gX h1 rr.reverse) ⟨_,[],(List.append_nil _).symm,hgv,rfl⟩ (by simp) hk
    ·have:=jc h.toRelO (l:=[t]) (by simp)
     simpa [tb,hob] using this
    ·obtain ⟨g1,g2,g3⟩:=h.cx t _ hob b hb
     refine ⟨g1,g2,g3,fun t' o' ho' hbb => ?_⟩
     obtain ⟨hn,o2,ho2,e2⟩:=lB _ ho'
     rw [e2] at hbb
     exact h.apart t _ t' o2 hob ho2 (fun e=>hn (by simp [e])) b hb hbb
   ·cases hk
  ·exact ul hE hD h ho hc hf' hk
 ·exact ul hE hD h ho hc hf' hk
theorem wV {q:Bool} (hE:cS C tab E) (hD:∀ g,bR P C.ty tab g (C.call g)) (h:Rel E s a w β Rt Ra) {c:Call} {f:Operand} (ho:o.op = .call c) (hc:c.callee = .value f) (hk:df C q o s κ = some r):db P E o a w κ r:=by
 unfold df at hk;rw [ho] at hk;simp only [hc] at hk
 have hf:=bH h f
 split at hk
 ·rename_i g hg
  rw [hg] at hf
  have hf':a.eval f = .func (.func g) #[] #[]:=hf
  cases hm:C.mv g with
  | true =>
   rw [hm,cond_true] at hk
   exact CC hE hD h ho hc hf' (jv hk).2
  | false =>
   rw [hm,cond_false] at hk
   exact ul hE hD h ho hc hf' hk
 ·exact yS hE hD h ho hc hk
 ·exact yS hE hD h ho hc hk
 ·cases hk
end
end Go.Proofs.Ab
namespace Go.Proofs.Ab
open Go
variable {R:Type}
section
variable {P:Program} {E:Env} {o:Oper} {s:St} {a:Act} {w:World} {β : Nat->Bl} {Rt Ra:Nat->Prop} {κ : St->Option R} {r:R} {C:Cfg R}
theorem pQ {t:Nat} {k e:LK} (h:zy C t=some (k,e)):∃ T K V kt et,C.ty t=some T/\T.agg=false/\T.lv=[.mp kt et]/\C.ty kt=some K/\C.ty et=some V/\K.agg=false/\V.agg=false/\K.lv=[k]/\V.lv=[e]/\k.flat=true/\e.flat=true:=by
 unfold zy at h
 split at h
 ·rename_i T hT
  obtain ⟨hTa,h⟩:=jv h
  split at h
  ·rename_i kt et hlv
   split at h
   ·rename_i K V hK hV
    obtain ⟨hKV,h⟩:=jv h
    simp only [Bool.or_eq_false_iff] at hKV
    split at h
    ·rename_i k' e' hk he
     obtain ⟨hf,h⟩:=j9 h
     simp only [Bool.and_eq_true] at hf
     cases h
     exact ⟨T,K,V,kt,et,hT,hTa,hlv,hK,hV,hKV.1,hKV.2,hk,he,hf.1,hf.2⟩
    ·cases h
   ·cases h
  ·cases h
 ·cases h
theorem bytes_beq (x y:ByteArray):(x == y)=decide (x=y):=by
 obtain ⟨x⟩:=x
 obtain ⟨y⟩:=y
 show (x == y)=_
 rw [Bool.eq_iff_iff]
 simp
def gq:LK->TypeDesc
 | .int k => .int k
 | .bool => .bool
 | _ => .string
theorem wo (hP:Ok P C.ty) {t:Nat} {T:TI} {k:LK} (hT:C.ty t=some T) (ha:T.agg=false) (hl:T.lv=[k]) (hf:k.flat=true) (hn:∀ j e,k ≠ .mp j e):P.underlying t=some (gq k):=by
 cases k <;> first|(cases hf;done)|skip
 ·exact (hP.ty t T hT).int _ ha hl
 ·exact (hP.ty t T hT).bool ha hl
 ·exact (hP.ty t T hT).str ha hl
theorem vF {k:LK} (hf:k.flat=true):∀ j e,k ≠ .mp j e:=fun j e h=>by subst h;cases hf
theorem xY {c:Cx} {k:LK} (hk:k.flat=true) {x:SV} {v:Value} (hf:fits k x=true) (h:S2 c x v):FV k v (cG x):=by
 cases k <;> cases x <;> simp only [fits] at hf <;> first|(cases hf;done)|(cases hk;done)|skip
 ·simp only [decide_eq_true_eq] at hf;subst hf;exact h
 ·exact h
 ·exact h
theorem xX {c:Cx} {k:LK} (hk:k.flat=true) {v:Value} {a:AV} (h:FV k v a):S2 c (eta true k a) v:=by
 cases k <;> first|(cases hk;done)|exact h
theorem Aq {k:LK} (hk:k.flat=true) {v:Value} (h:zeroV k v):FV k v .no:=by
 cases k <;> first|(cases hk;done)|exact h
theorem Bn {k:LK} (hk:k.flat=true) {v u:Value} {x y:AV} (h1:FV k v x) (h2:FV k u y):Instr.sameNow (gq k) v u=some (mC k x y)/\(mC k x y=true->Instr.sameBits 10000 u v=true):=by
 cases k <;> first|(cases hk;done)|skip
 ·have h1:v=_:=h1;have h2:u=_:=h2
  subst h1;subst h2
  refine ⟨?_,fun h => ?_⟩
  ·simp only [Instr.sameNow,gq,mC,if_true,Option.some.injEq]
   rw [Bool.eq_iff_iff];simp
  ·simp only [mC,decide_eq_true_eq] at h
   simp [Instr.sameBits,h]
 ·have h1:v=_:=h1;have h2:u=_:=h2
  subst h1;subst h2
  refine ⟨by simp [Instr.sameNow,gq,mC],fun h => ?_⟩
  simp only [mC,beq_iff_eq] at h
  simp [Instr.sameBits,h]
 ·have h1:v=_:=h1;have h2:u=_:=h2
  subst h1;subst h2
  refine ⟨?_,fun h => ?_⟩
  ·simp only [Instr.sameNow,gq,mC,bytes_beq]
  ·simp only [mC,decide_eq_true_eq] at h
   simp [Instr.sameBits,h,bytes_beq]
abbrev EV (k e:LK) (a:AV) (en:MapEntry):Prop:=FV k en.key (a.fld 0)/\FV e en.val (a.fld 1)
theorem jA {k e:LK} (hk:k.flat=true) {v:Value} {x:AV} (hv:FV k v x):∀ {l:List AV} {es:List MapEntry} (i:Nat),PW (EV k e) l es ->
  (Instr.findNow (gq k) v es i=some none/\fZ k x l=none/\∀ z,fc k x z l=l++[.agg [x,z]]) ∨
  ∃ j u en a,Instr.findNow (gq k) v es i=some (some (i+j,u))/\fZ k x l=some a/\FV e u a/\es[j]? = some en/\Instr.sameBits 10000 en.key v=true /\
   ∀ z zv,FV e zv z->PW (EV k e) (fc k x z l) (es.modify j fun en=>{ en with key:=v,val:=zv })
 | [],[],i,_ => .inl ⟨rfl,rfl,fun _=>rfl⟩
 | y::l,en::es,i,h=>by
  obtain ⟨hs,hb⟩:=Bn hk hv h.1.1
  cases hm:mC k x (y.fld 0) with
  | true =>
   refine .inr ⟨0,en.val,en,y.fld 1,?_,?_,h.1.2,rfl,hb hm,fun z zv hz => ?_⟩
   ·simp only [Instr.findNow,hs,hm,Nat.add_zero]
   ·simp only [fZ,hm,cond_true]
   ·simp only [fc,hm,cond_true,List.modify_zero_cons]
    exact ⟨⟨hv,hz⟩,h.2⟩
  | false =>
   rcases jA hk hv (i+1) h.2 with ⟨h1,h2,h3⟩|⟨j,u,en',a,h1,h2,h3,h4,h5,h6⟩
   ·refine .inl ⟨?_,?_,fun z => ?_⟩
    ·simp only [Instr.findNow,hs,hm,h1]
    ·simp only [fZ,hm,cond_false,h2]
    ·simp only [fc,hm,cond_false,h3,List.cons_append]
   ·refine .inr ⟨j+1,u,en',a,?_,?_,h3,by simpa using h4,h5,fun z zv hz => ?_⟩
    ·simp only [Instr.findNow,hs,hm,h1];congr 3;omega
    ·simp only [fZ,hm,cond_false,h2]
    ·simp only [fc,hm,cond_false,List.modify_succ_cons]
     exact ⟨h.1,h6 z zv hz⟩
 | [],_::_,_,h=>h.elim
 | _::_,[],_,h=>h.elim
theorem run_checkKey {k:LK} {kt:Nat} (hk:k.flat=true) (hu:P.underlying kt=some (gq k)) {v:Value} {x:AV} (hv:FV k v x) (b:Bool) (w:World):(Instr.checkKey b 10000 kt v).run P w = .ok () w:=by
 show (Instr.checkKey b (9999+1) kt v).run P w=_
 unfold Instr.checkKey
 simp only [Sem.run_bind,run_underlying hu,Result.andThen_ok]
 cases k <;> first|(cases hk;done)|skip
 ·have hv:v=_:=hv
  subst hv;simp [gq]
 ·have hv:v=_:=hv
  subst hv;simp [gq]
 ·have hv:v=_:=hv
  subst hv;simp [gq]
theorem run_findKey {k:LK} {kt:Nat} (hu:P.underlying kt=some (gq k)) {v:Value} {es:List MapEntry} {z:Option (Nat × Value)} (h:Instr.findNow (gq k) v es 0=some z) (w:World):(Instr.findKey kt v es).run P w = .ok z w:=by
 unfold Instr.findKey
 simp only [Sem.run_bind,run_underlying hu,Result.andThen_ok,h,Sem.run_pure]
theorem qR {q:Bool} (hP:Ok P C.ty) (h:Rel E s a w β Rt Ra) {t:Nat} (ho:o.op = .makeMap t none) (hk:df C q o s κ = some r):db P E o a w κ r:=by
 unfold df at hk;rw [ho] at hk;simp only at hk
 obtain ⟨_,hk⟩:=jv hk
 split at hk
 ·rename_i k e hm
  intro next Q hn
  have hg:=ew w (.map #[] 0)
  refine dc (v := .map (some w.heap.size)) (w':=w.alloc (.map #[] 0)) ?_ (hn _ _ _ hk ?_)
  ·unfold execOp;rw [ho]
   simp [Instr.makeMap]
  ·have h2:=h.new hg (.mp k e []) ⟨undef,w.heap.size,0,false⟩ (fun b hb=>by simp [bK] at hb;subst hb;simp) (fun _=>⟨#[],0,heap_alloc_new w _,trivial⟩)
   refine ⟨_,_,_,h2.put o.dst (x := .mp s.next) (cB (cL ⟨⟨_,by rw [ef,if_pos rfl]⟩,?_⟩))⟩
   show _=Value.map (some (dH β s.next ⟨undef,w.heap.size,0,false⟩ s.next).b)
   unfold dH;rw [if_pos rfl]
 ·cases hk
theorem zS {t:Nat} {T:TI} {k:LK} (hT:TyOk P t T) (ha:T.agg=false) (hl:T.lv=[k]) (w:World):∃ z,(zeroValue t).run P w = .ok z w/\zeroV k z:=by
 obtain ⟨i,z,hi,_,_,hz,hpw,hag⟩:=hT.info
 have hna:∀ cs,z ≠ .agg cs:=fun cs e=>by
  have:=hag.1 ⟨cs,e⟩;rw [ha] at this;cases this
 refine ⟨z,?_,?_⟩
 ·unfold zeroValue
  simp [typeInfo,hi,hz,Sem.run]
 ·rw [hl] at hpw
  have:z.cells.toList=[z]:=by cases z <;> first|rfl|exact absurd rfl (hna _)
  rw [this] at hpw;exact hpw.1
theorem ss {q:Bool} (hP:Ok P C.ty) (h:Rel E s a w β Rt Ra) {t:Nat} {x i:Operand} {ok:Bool} (ho:o.op = .lookup t x i ok) (hk:df C q o s κ = some r):db P E o a w κ r:=by
 unfold df at hk;rw [ho] at hk;simp only at hk
 have hx:=bH h x
 have hi:=bH h i
 split at hk
 ·rename_i k e m hm ex
  rw [ex] at hx
  obtain ⟨hd,hev⟩:_/\a.eval x = .map (some (β m).b):=hx
  obtain ⟨T,K,V,kt,et,hT,hTa,hTl,hK,hV,hKa,hVa,hKl,hVl,hkf,hef⟩:=pQ hm
  split at hk
  ·rename_i k' e' l hob
   obtain ⟨hc,hk2⟩:=j9 hk
   clear hk
   simp only [Bool.and_eq_true,decide_eq_true_eq] at hc
   obtain ⟨⟨rfl,rfl⟩,hfit⟩:=hc
   obtain ⟨es,cl,hg,hpw⟩:∃ es clock,w.heap[(β m).b]? = some (.map es clock)/\PW (EV k e) l es.toList:=h.objs m _ hob
   have hfv:=xY hkf hfit hi
   have hu:=wo hP hK hKa hKl hkf (vF hkf)
   have hut:P.underlying t=some (.map kt et):=(hP.ty t T hT).map _ _ hTa hTl
   have hck:=run_checkKey hkf hu hfv es.isEmpty w
   obtain ⟨z,hz,hzz⟩:=zS (hP.ty et V hV) hVa hVl w
   have main:∃ v b,(Instr.lookup t (a.eval x) (a.eval i) ok).run P w = .ok (if ok then .tuple #[v,.bool b] else v) w/\FV e v (f' k (cG (ev s i)) l)/\b=pT k (cG (ev s i)) l:=by
    rcases jA hkf hfv 0 hpw with ⟨h1,h2,_⟩|⟨j,u,en,y,h1,h2,h3,_⟩
    ·refine ⟨z,false,?_,?_,?_⟩
     ·unfold Instr.lookup
      rw [hev]
      simp [run_underlying hut,getObj,Sem.run,hg,hck,run_findKey hu h1,hz]
     ·unfold f';rw [h2];exact Aq hef hzz
     ·unfold pT;rw [h2];rfl
    ·refine ⟨u,true,?_,?_,?_⟩
     ·unfold Instr.lookup
      rw [hev]
      simp [run_underlying hut,getObj,Sem.run,hg,hck,run_findKey hu h1]
     ·unfold f';rw [h2];exact h3
     ·unfold pT;rw [h2];rfl
   obtain ⟨v,b,hrun,hfv2,rfl⟩:=main
   cases ok with
   | true =>
    rw [cond_true] at hk2
    refine dh h (x := .tup [eta true e (f' k (cG (ev s i)) l),.bool (pT k (cG (ev s i)) l)]) (v := .tuple #[v,.bool (pT k (cG (ev s i)) l)]) ⟨_,rfl,⟨?_,rfl,trivial⟩⟩ ?_ hk2
    ·have:=xX (c:=bg E s w β Rt Ra) hef hfv2
     revert this
     cases e <;> first|(cases hef;done)|exact id
    ·unfold execOp;rw [ho];simp only [Bool.false_eq_true,if_true,if_false] at hrun;simp [hrun]
   | false =>
    rw [cond_false] at hk2
    refine dh h (x:=eta true e _) (v:=v) (xX hef hfv2) ?_ hk2
    unfold execOp;rw [ho];simp only [Bool.false_eq_true,if_true,if_false] at hrun;simp [hrun]
  ·cases hk
 ·cases hk
theorem nE {q:Bool} (hP:Ok P C.ty) (h:Rel E s a w β Rt Ra) {t:Nat} {x i v:Operand} (ho:o.op = .mapUpdate t x i v) (hk:df C q o s κ = some r):db P E o a w κ r:=by
 unfold df at hk;rw [ho] at hk;simp only at hk
 obtain ⟨_,hk⟩:=jv hk
 have hx:=bH h x
 have hi:=bH h i
 have hv:=bH h v
 split at hk
 ·rename_i k e m hm ex
  rw [ex] at hx
  obtain ⟨hd,hev⟩:_/\a.eval x = .map (some (β m).b):=hx
  obtain ⟨T,K,V,kt,et,hT,hTa,hTl,hK,hV,hKa,hVa,hKl,hVl,hkf,hef⟩:=pQ hm
  split at hk
  ·rename_i k' e' l hob
   obtain ⟨hc,hk2⟩:=j9 hk
   clear hk
   simp only [Bool.and_eq_true,decide_eq_true_eq] at hc
   obtain ⟨⟨rfl,rfl⟩,hfit,hfit2⟩:=hc
   obtain ⟨es,cl,hg,hpw⟩:∃ es clock,w.heap[(β m).b]? = some (.map es clock)/\PW (EV k e) l es.toList:=h.objs m _ hob
   have hfv:=xY hkf hfit hi
   have hfv2:=xY hef hfit2 hv
   have hu:=wo hP hK hKa hKl hkf (vF hkf)
   have hut:P.underlying t=some (.map kt et):=(hP.ty t T hT).map _ _ hTa hTl
   have hck:=run_checkKey hkf hu hfv false w
   have main:∃ es' cl',(Instr.mapUpdate t (a.eval x) (a.eval i) (a.eval v)).run P w = .ok () { w with heap:=w.heap.setIfInBounds (β m).b (.map es' cl') }/\PW (EV k e) (fc k (cG (ev s i)) (cG (ev s v)) l) es'.toList:=by
    rcases jA hkf hfv 0 hpw with ⟨h1,h2,h3⟩|⟨j,u,en,y,h1,h2,h3,h4,h5,h6⟩
    ·refine ⟨es.push { key:=a.eval i,val:=a.eval v,born:=cl },cl+1,?_,?_⟩
     ·unfold Instr.mapUpdate
      rw [hev]
      simp [run_underlying hut,getObj,setObj,Sem.run,hg,hck,run_findKey hu h1]
     ·rw [h3]
      simpa using PW.append (l':=[.agg [cG (ev s i),cG (ev s v)]]) (m':=[{ key:=a.eval i,val:=a.eval v,born:=cl }]) hpw ⟨⟨hfv,hfv2⟩,trivial⟩
    ·have h4':es[j]? = some en:=by simpa using h4
     refine ⟨es.modify j fun en=>{ en with key:=a.eval i,val:=a.eval v },cl,?_,?_⟩
     ·unfold Instr.mapUpdate
      rw [hev]
      simp [run_underlying hut,getObj,setObj,Sem.run,hg,hck,run_findKey hu h1,Instr.keyThatStays,h4',h5]
     ·rw [Array.toList_modify]
      exact h6 _ _ hfv2
   obtain ⟨es',cl',hrun,hpw'⟩:=main
   intro next Q hn
   let w':World:={ w with heap:=w.heap.setIfInBounds (β m).b (.map es' cl') }
   refine wp_skip (v:=undef) rfl (w':=w') ?_ (hn _ _ _ hk2 ?_)
   ·unfold execOp;rw [ho]
    simp [hrun,w']
   ·have hlt2:(β m).b<w.heap.size:=(Array.getElem?_eq_some_iff.mp hg).1
    have h2:=h.fR (w':=w') hob (.mp k e (fc k (cG (ev s i)) (cG (ev s v)) l)) ⟨rfl,rfl,rfl,by simp [w'],fun z _ hz=>by
     have:(β m).b≠z:=fun e=>hz (by simp [bK,e])
     simp [w',Array.getElem?_setIfInBounds,this]⟩ (fun z hz=>hz) (fun _=>⟨es',cl',by
     show w'.heap[(β m).b]? = _
     simp [w',Array.getElem?_setIfInBounds,hlt2],hpw'⟩)
    exact ⟨_,_,_,h2.put o.dst (x := .undef) (cB (cL rfl))⟩
  ·cases hk
 ·cases hk
end
end Go.Proofs.Ab
namespace Go.Proofs.Ab
open Go
variable {R:Type}
theorem bD {α : Type} {b:Bool} {k:Option α} {r : α} (h:(bif b then k else none)=some r):b=true/\k=some r:=by
 cases b
 ·cases h
 ·exact ⟨rfl,h⟩
theorem eo {α : Type} {b:Bool} {k:Option α} {r : α} (h:(bif b then none else k)=some r):b=false/\k=some r:=by
 cases b
 ·exact ⟨rfl,h⟩
 ·cases h
theorem wQ (w:World) (g n:Nat):Fr (fun b=>b=g) w (w.freeze ⟨g,0,none⟩ n):=by
 unfold World.freeze
 split
 ·exact Fr.refl _ w
 ·refine ⟨rfl,rfl,rfl,by simp,fun b _ hn => ?_⟩
  simp only [Array.getElem?_modify]
  rw [if_neg (fun e=>hn e.symm)]
section
variable {P:Program} {E:Env} {o:Oper} {s:St} {a:Act} {w:World} {β : Nat->Bl} {Rt Ra:Nat->Prop} {κ : St->Option R} {r:R} {C:Cfg R} {tab:cb}
theorem sw {t:Nat} {T:TI} (hP:Ok P C.ty) (hT:C.ty t=some T) (h:vQ T=true):P.underlying t=some (.pointer T.elem):=by
 simp only [vQ,Bool.and_eq_true,Bool.not_eq_true',decide_eq_true_eq] at h
 exact (hP.ty t T hT).ptr h.1.1 h.1.2 fun e=>by rw [e] at h;simp at h
theorem nF {q:Bool} (hP:Ok P C.ty) (h:Rel E s a w β Rt Ra) {c:Call} (ho:o.op = .call c) (hb:c.callee = .builtin .unsafeSliceData) {x:Operand} (hx:c.args.toList=[x]) (hk:cN C q s o.dst .unsafeSliceData c.args.toList c.argTypes.toList o.type κ = some r):db P E o a w κ r:=by
 rw [hx] at hk;unfold cN at hk;simp only at hk
 have hc:=bH h x
 have hrun:∀ (v u:Value) (w':World),a.eval x=v->(Builtin.unsafeSliceData_ c.argTypes o.type #[v]).run P w = .ok u w'->(execOp a.eval o).run P w = .ok (.value u) w':=by
  intro v u w' e hr
  rw [eB ho hb,rO hx]
  simp only [builtin,List.map_toArray,List.map_cons,List.map_nil,e,Sem.run_bind,hr];rfl
 unfold fK at hk
 split at hk
 ·rename_i e;rw [e] at hc
  have ex:a.eval x = .slice none 0 0:=hc
  exact bJ h (x := .nilp) (v := .pointer none) rfl (hrun _ _ _ ex (Lib.run_unsafeSliceData_nil w c.argTypes o.type 0 0)) hk
 ·rename_i t e
  rw [e] at hc
  obtain ⟨hd,hv,_,harr⟩:_/\a.eval x=_/\_/\(β t).arr=false:=hc
  split at hk
  ·rename_i el l st T hob hT
   obtain ⟨hp,hk⟩:=bD hk
   obtain ⟨D,cs,hD,hsz,hown,hrc⟩:=h.objs t _ hob
   have hv':a.eval x=(β t).v:=hv
   obtain ⟨_,hor⟩:=hown
   rcases hor with ⟨hv0,hn⟩|⟨g,cap,cur,q',fz,hv0,hq',hg,hfz,hnc,hcm,_⟩
   ·refine bJ h (x := .sdp t) (v := .pointer none) ⟨hd,none,rfl,fun g n cap hgv => ?_,harr⟩ (hrun _ _ _ (hv'.trans hv0) (Lib.run_unsafeSliceData_nil w c.argTypes o.type 0 0)) hk
    have hgv':(β t).v=_:=hgv
    rw [hv0] at hgv';cases hgv'
   ·by_cases hc0:cap=0
    ·subst hc0
     have hqe:q'=el:=hq' harr
     have hsh:w.shape? g=some (el,cur.size):=by
      have hg':w.heap[g]? = _:=hg
      unfold World.shape?;rw [hg',hqe]
     have hr:=Lib.run_unsafeSliceData_zero (P:=P) w c.argTypes o.type T.elem (sw hP hT hp) ⟨g,0,none⟩ l.length _ hsh
     intro next Q hnext
     refine dc (hrun _ _ _ (hv'.trans hv0) hr) (hnext _ _ _ hk ⟨β,Rt,Ra,(h.ig (ew w _)).put o.dst (cB (cL ⟨hd,_,rfl,fun g' n cap' hgv hn => ?_,harr⟩))⟩)
     have hgv':(β t).v=_:=hgv
     rw [hv0] at hgv';cases hgv';omega
    ·refine bJ h (x := .sdp t) (v := .pointer (some ⟨g,0,none⟩)) ⟨hd,_,rfl,fun g' n cap' hgv _ => ?_,harr⟩ (hrun _ _ _ (hv'.trans hv0) (Lib.run_unsafeSliceData_row w c.argTypes o.type _ _ _ hc0)) hk
     have hgv':(β t).v=_:=hgv
     rw [hv0] at hgv';cases hgv';rfl
  ·cases hk
 ·cases hk
theorem byte_back {n:Int} (h:(decide (0<=n)&&decide (n<256))=true):((UInt8.ofNat n.toNat).toNat:Int)=n:=by
 simp only [Bool.and_eq_true,decide_eq_true_eq] at h
 have:(UInt8.ofNat n.toNat).toNat=n.toNat % 256:=by simp
 rw [this];omega
theorem kl {q:Bool} (hP:Ok P C.ty) (hE:E.T=C.ty) (h:Rel E s a w β Rt Ra) {c:Call} (ho:o.op = .call c) (hb:c.callee = .builtin .unsafeString) {x y:Operand} (hx:c.args.toList=[x,y]) (hk:cN C q s o.dst .unsafeString c.args.toList c.argTypes.toList o.type κ = some r):db P E o a w κ r:=by
 rw [hx] at hk;unfold cN at hk;simp only at hk
 have hc:=bH h x
 have hc2:=bH h y
 unfold rE at hk
 split at hk
 ·rename_i pt it hts
  have hat:c.argTypes = #[pt,it]:=by apply Array.ext';simpa using hts
  have hrun:∀ (v v2 u:Value) (w':World),a.eval x=v->a.eval y=v2->(Builtin.unsafeString_ #[pt,it] o.type #[v,v2]).run P w = .ok u w'->(execOp a.eval o).run P w = .ok (.value u) w':=by
   intro v v2 u w' e e2 hr
   rw [eB ho hb,jR hx,hat]
   simp only [builtin,List.map_toArray,List.map_cons,List.map_nil,e,e2,Sem.run_bind,hr];rfl
  split at hk
  ·rename_i k n e1 e2
   rw [e1] at hc;rw [e2] at hc2
   obtain ⟨hk0,hk⟩:=bD hk
   obtain ⟨hn,hk⟩:=b8 hk
   simp only [decide_eq_true_eq] at hk0 hn
   subst hk0;subst hn
   exact bJ h (x := .str ⟨#[]⟩) (v := .string .empty) rfl (hrun _ _ _ _ (show a.eval x = .pointer none from hc) (dF hc2) (Lib.run_unsafeString_none (P:=P) w pt it o.type none)) hk
  ·rename_i t k n e1 e2
   rw [e1] at hc;rw [e2] at hc2
   obtain ⟨hk0,hk⟩:=bD hk
   simp only [decide_eq_true_eq] at hk0
   subst hk0
   split at hk
   ·rename_i el l st hob
    split at hk
    ·rename_i B T hB hT
     obtain ⟨_,hk1⟩:=bD hk
     obtain ⟨hcond,hk2⟩:=bD hk1
     simp only [Bool.and_eq_true] at hcond
     obtain ⟨hby,hpt,hel⟩:=hcond
     obtain ⟨hn,hk3⟩:=b8 hk2
     obtain ⟨hall,hkf⟩:=b8 hk3
     replace hn:=of_decide_eq_true hn
     subst hn
     have hel:=Nat.eq_of_beq_eq_true hel
     simp only [isByte,Bool.and_eq_true,Bool.not_eq_true',decide_eq_true_eq] at hby
     obtain ⟨hd,p,hp,hpg,harr⟩:_/\∃ p,a.eval x = .pointer p/\_/\(β t).arr=false:=hc
     obtain ⟨D,cs,hD,hsz,hown,hrc⟩:=h.objs t _ hob
     have hDB:D=B:=by have h':E.T el=some D:=hD;rw [hE,hB] at h';cases h';rfl
     subst hDB
     have hsz1:D.sz=1:=by unfold TI.sz;rw [hby.2];rfl
     have hh:=h.hole t
     by_cases hl:l=[]
     ·subst hl
      exact fun next Q hnext=>dc (hrun _ _ _ _ hp (dF hc2) (Lib.run_unsafeString_none (P:=P) w pt it o.type p)) (hnext _ _ _ hkf ⟨β,Rt,Ra,hh.put o.dst (cB (cL (x := .str (cY [])) (v := .string .empty) rfl))⟩)
     ·have hown0:=hown
      obtain ⟨hlen,hor⟩:=hown
      rcases hor with ⟨_,hn⟩|⟨g,cap,cur,q',fz,hv0,hq',hg,hfz,hnc,hcm,hcs,_⟩
      ·exact absurd (List.eq_nil_of_length_eq_zero hn) hl
      ·have hv0':(β t).v=_:=hv0
       have hpe:=hpg g l.length cap hv0 (by intro e;exact hl (List.eq_nil_of_length_eq_zero e))
       subst hpe
       have hqe:q'=el:=hq' harr
       have hsh:w.shape? g=some (el,cur.size):=by
        have hg':w.heap[g]? = _:=hg
        unfold World.shape?;rw [hg',hqe]
       let lb:List UInt8:=l.map fun a=>UInt8.ofNat a.i.toNat
       have hlb:lb.length=l.length:=List.length_map ..
       have hcells:P.cellsOf el=1:=by
        obtain ⟨i,z,hi,hs,_⟩:=(hP.ty el D hB).info
        unfold Program.cellsOf;rw [hi];simp [hs,hsz1]
       have hr:=Lib.run_unsafeString_row (P:=P) w pt it o.type el (by rw [<- hel];exact sw hP hT hpt) hcells g cur.size hsh lb (by simpa [lb] using hl) (by rw [hlb,hcs,hsz1];omega) (by rw [hlb];have:maxLen=9223372036854775807:=rfl;omega) (fun j x hj=>by
        have hj':j<l.length:=by rw [<- hlb];exact (List.getElem?_eq_some_iff.1 hj).1
        rw [hv0] at hown0
        have hcj:∃ v,cs[j]? = some v:=⟨_,List.getElem?_eq_getElem (by rw [hlen,hsz1];omega)⟩
        obtain ⟨v,hv⟩:=hcj
        have hrep:=hrc j 0 (.int .u8) hj' (by rw [hby.2];rfl) v (by rw [hsz1];simpa using hv)
        have hvi:v = .int .u8 (lf D.agg (l.getD j .no) 0).i:=by cases hrep;rfl
        rw [hby.1] at hvi
        rw [add_plain,Nat.zero_add]
        have hcell:=eS hown0 j v hv
        have hcell':w.cell? ⟨g,j,none⟩=some v:=hcell
        rw [hcell',hvi]
        have hx:x=UInt8.ofNat (l.getD j .no).i.toNat:=by
         have hj2:(l.map fun a=>UInt8.ofNat a.i.toNat)[j]? = some x:=hj
         rw [List.getElem?_map] at hj2
         rw [List.getElem?_eq_getElem hj'] at hj2
         rw [List.getD_eq_getElem?_getD,List.getElem?_eq_getElem hj']
         simpa using hj2.symm
        rw [hx,byte_back]
        ·rfl
        ·have:=List.all_eq_true.1 hall (l[j]) (List.getElem_mem hj')
         rw [List.getD_eq_getElem?_getD,List.getElem?_eq_getElem hj']
         exact this)
       rw [hlb] at hr
       have hgb:g∈bK (β t) (.row el l st):=by simp [bK,hv0',Value.ownBlock]
       have hw:=hh.world (wQ w g l.length) fun b hbg=>by
        subst hbg
        refine ⟨(h.cx t _ hob b hgb).2.1,(h.cx t _ hob b hgb).2.2,fun t' o' ho' hb' => ?_⟩
        rw [cQ] at ho';split at ho'
        ·rename_i e;subst e;rw [hob] at ho';cases ho';cases hb'
        ·rename_i e;exact h.apart t _ t' o' hob ho' (Ne.symm e) b hgb hb'
       exact fun next Q hnext=>dc (hrun _ _ _ _ hp (dF hc2) hr) (hnext _ _ _ hkf ⟨β,Rt,Ra,hw.put o.dst (cB (cL (x := .str (cY l)) (v := .string ⟨lb.toArray⟩) rfl))⟩)
    ·cases hk
   ·cases hk
  ·cases hk
 ·cases hk
end
end Go.Proofs.Ab
namespace Go.Proofs.Ab
open Go
variable {R:Type}
theorem foldl_push:∀ (l:List AV) (s:ByteArray),(l.map (·.i)).foldl (fun r n=>r.push (UInt8.ofNat n.toNat)) s=⟨s.data++(l.map fun a=>UInt8.ofNat a.i.toNat).toArray⟩
 | [],s=>by simp
 | a::l,s=>by
  simp only [List.map_cons,List.foldl_cons]
  rw [foldl_push l]
  apply ByteArray.ext
  simp [ByteArray.push]
theorem zV (l:List AV):(l.map (·.i)).foldl (fun r n=>r.push (UInt8.ofNat n.toNat)) ByteArray.empty=cY l:=by
 rw [foldl_push];unfold cY;apply ByteArray.ext;simp [ByteArray.empty,ByteArray.emptyWithCapacity];rfl
theorem lx {P:Program} {T:Nat->Option TI} (hP:Ok P T) {e:Nat} {D:TI} (hD:T e=some D) (h:isByte D=true):P.underlying e=some (.int .u8)/\D.agg=false/\D.lv=[.int .u8]/\D.sz=1:=by
 simp only [isByte,Bool.and_eq_true,Bool.not_eq_true',decide_eq_true_eq] at h
 exact ⟨(hP.ty e D hD).int _ h.1 h.2,h.1,h.2,by unfold TI.sz;rw [h.2];rfl⟩
section
variable {P:Program} {E:Env} {o:Oper} {s:St} {a:Act} {w:World} {β : Nat->Bl} {Rt Ra:Nat->Prop} {κ : St->Option R} {r:R} {C:Cfg R} {tab:cb}
theorem zK {T:Nat->Option TI} {w:World} {Q:Nat->Prop} {D:TI} {l:List AV} {cs:List Value} (h:RC T w Q D l cs) (hl:cs.length=l.length*D.sz) (h1:D.agg=false) (h2:D.lv=[.int .u8]) (h3:D.sz=1):cs=(l.map (·.i)).map (Value.int .u8):=by
 apply List.ext_getElem?
 intro i
 rw [List.map_map,List.getElem?_map]
 by_cases hi:i<l.length
 ·have hlt:i<cs.length:=by rw [hl,h3];omega
  rw [List.getElem?_eq_getElem hlt,List.getElem?_eq_getElem hi]
  have hr:=h i 0 (.int .u8) hi (by rw [h2];rfl) cs[i] (by rw [h3,Nat.mul_one,Nat.add_zero];exact List.getElem?_eq_getElem hlt)
  rw [h1] at hr
  have hv:cs[i]=Value.int .u8 (l.getD i .no).i:=by
   generalize cs[i]=v at hr
   cases hr;rfl
  rw [hv,List.getD_eq_getElem?_getD,List.getElem?_eq_getElem hi];rfl
 ·rw [List.getElem?_eq_none (by rw [hl,h3];omega),List.getElem?_eq_none (by omega)];rfl
theorem nk (hP:Ok P C.ty) (hE:E.T=C.ty) (h:Rel E s a w β Rt Ra) {f t e:Nat} {F T D:TI} (hF:C.ty f=some F) (hT:C.ty t=some T) (hTa:T.agg=false) (hsl:F.sl=true) (hel:F.elem=e) (hD:C.ty e=some D) (hby:isByte D=true) (hlv:T.lv=[.str])
  {x:SV} {v:Value} (hx:S2 (bg E s w β Rt Ra) x v) (hns:∀ b,x ≠ .str b) {l:List AV} {st:Bool} (ht:kT s e D x=some (l,st)):(convert f t v).run P w = .ok (.string (cY l)) w:=by
 obtain ⟨b1,b2,b3,b4⟩:=lx hP hD hby
 obtain ⟨cs,h1,h2,_,h3⟩:=qm hE h hD hx hns ht
 have hs:=(hP.ty f F hF).slice hsl
 rw [hel] at hs
 have hd:=(hP.ty t T hT).str hTa hlv
 rcases h3 with ⟨rfl,rfl⟩|⟨ad,c,rfl,hc⟩
 ·rw [run_convert_bytes_string w f t e _ _ _ hs b1 hd];rfl
 ·rw [run_convert_bytes_string w f t e _ _ _ hs b1 hd]
  have hcs:=zK h2 h1 b2 b3 b4
  have hld:=run_loadCells_list (P:=P) w ad cs hc
  rw [h1,b4,Nat.mul_one,hcs] at hld
  rw [run_bytesToString w ad l.length c (l.map (·.i)) hld,zV]
theorem sV {w:World} {g q:Nat} {cur:Array Value} {fz:Nat × Nat} (hg:w.heap[g]? = some (.cells cur q fz)):(markStringish (⟨g,0,none⟩:Addr)).run P w = .ok () (w.freeze ⟨g,cur.size,none⟩ 1):=by
 have hsh:w.shape? g=some (q,cur.size):=by unfold World.shape?;rw [hg]
 unfold markStringish
 simp [hsh]
theorem wR {w:World} {g q:Nat} {cur:Array Value} {fz:Nat × Nat} (hg:w.heap[g]? = some (.cells cur q fz)) (hfz:fz=(0,0)∨fz=(cur.size,cur.size+1)):(w.freeze ⟨g,cur.size,none⟩ 1).heap[g]? = some (.cells cur q (cur.size,cur.size+1)):=by
 unfold World.freeze
 rw [if_neg (by decide)]
 simp only [Array.getElem?_modify,if_true,hg,Option.map_some]
 rcases hfz with rfl|rfl
 ·simp
 ·simp
theorem wW (hP:Ok P C.ty) (hE:E.T=C.ty) (h:Rel E s a w β Rt Ra) {f t:Nat} {x:Operand} (ho:o.op = .convert f t x) {F T:TI} (hF:C.ty f=some F) (hT:C.ty t=some T) (hFa:F.agg=false) (hTa:T.agg=false) (hk:pf C s o.dst f t F T (ev s x) κ = some r):db P E o a w κ r:=by
 have hc:=bH h x
 have hrun:∀ (v:Value) (w':World),(convert f t (a.eval x)).run P w = .ok v w'->(execOp a.eval o).run P w = .ok (.value v) w':=by
  intro v w' hr
  unfold execOp;rw [ho]
  simp only [Sem.run_bind,hr];rfl
 unfold pf at hk
 split at hk
 ·rename_i b e
  rw [e] at hc
  have ex:=gP hc
  obtain ⟨h1,hk⟩:=bD hk
  simp only [Bool.and_eq_true,decide_eq_true_eq] at h1
  split at hk
  ·rename_i D hD
   obtain ⟨hby,hk⟩:=bD hk
   obtain ⟨b1,b2,b3,b4⟩:=lx hP hD hby
   obtain ⟨hroom,hk⟩:=lJ hk
   have hb:b.size<=140737488355328:=by omega
   have hr:=Lib.run_convert_string_bytes (P:=P) w f t T.elem b ((hP.ty f F hF).str hFa h1.2) ((hP.ty t T hT).slice h1.1) b1
   have hg:jh w (Lib.bytesWorld w T.elem b):=by
    refine ⟨?_,?_,?_,by rw [Lib.bytesWorld_size];omega,fun j hj _=>Lib.bytesWorld_at_old w T.elem b j hj⟩
    all_goals (unfold Lib.bytesWorld World.freeze;rw [if_neg (by decide)];rfl)
   let cap:=grownCap w b.size 0 T.elem
   have hge:b.size<=cap:=grownCap_ge w b.size 0 T.elem
   have hsize:(Lib.bytesCells w T.elem b).size=cap:=by
    have:b.data.size=b.size:=rfl
    simp [Lib.bytesCells];omega
   have hown:dO (Lib.bytesWorld w T.elem b) false T.elem D.sz (.slice (some ⟨w.heap.size,0,none⟩) b.size cap) (dB b).length (b.data.toList.map fun x=>Value.int .u8 x.toNat):=by
    refine ⟨by rw [dJ,b4,List.length_map,Nat.mul_one];rfl,.inr ⟨w.heap.size,cap,Lib.bytesCells w T.elem b,T.elem,_,by rw [dJ],fun _=>rfl,Lib.bytesWorld_at_new w T.elem b,.inr rfl,by rw [dJ];exact hge,grownCap_le_maxLen w b.size 0 T.elem (by have:maxLen=9223372036854775807:=rfl;omega),by rw [hsize,b4,Nat.mul_one],?_⟩⟩
    rw [dJ,b4,Nat.mul_one]
    have hl:(b.data.toList.map fun x=>Value.int .u8 x.toNat).length=b.size:=by rw [List.length_map];rfl
    rw [<- hl]
    unfold Lib.bytesCells
    rw [Array.toList_append,Array.toList_map]
    exact List.take_left
   intro next Q hn
   refine dc (hrun _ _ (by rw [ex];exact hr)) (hn _ _ _ hk ?_)
   refine (h.ig hg).qB (by rw [hE];exact hD) hown ?_ (fun z hz => ?_) o.dst
   ·intro i j k hi hk' v hv
    rw [b3] at hk'
    cases j with
    | succ j=>simp at hk'
    | zero =>
     simp only [List.getElem?_cons_zero,Option.some.injEq] at hk';subst hk'
     rw [b4,Nat.mul_one,Nat.add_zero,List.getElem?_map] at hv
     cases hbi:b.data.toList[i]? with
     | none=>rw [hbi] at hv;cases hv
     | some xb =>
      rw [hbi] at hv;simp only [Option.map_some,Option.some.injEq] at hv;subst hv
      have:lf D.agg ((dB b).getD i .no) 0 = .int xb.toNat:=by
       unfold lf;rw [b2];simp only [cond_false]
       unfold dB
       rw [List.getD_eq_getElem?_getD,List.getElem?_map,hbi];rfl
      rw [this];exact .int .u8 (.int xb.toNat)
   ·have hz':z=w.heap.size:=by simpa [Value.ownBlock,eq_comm] using hz
    subst hz'
    exact ⟨fun hr=>Nat.lt_irrefl _ (h.rlt _ hr),.inl h.fr.size,fun t o' ho' hbb=>Nat.lt_irrefl _ (h.cx t o' ho' _ hbb).1⟩
  ·cases hk
 ·rename_i k e
  split at hk
  ·rename_i el l st hob
   split at hk
   ·rename_i D hD
    obtain ⟨h1,hk⟩:=bD hk
    simp only [Bool.and_eq_true] at h1
    have hel:=Nat.eq_of_beq_eq_true h1.2.1
    by_cases hlv:T.lv=[.str]
    ·simp only [hlv,decide_true,cond_true] at hk
     have:=nk hP hE h hF hT hTa h1.1 hel hD h1.2.2 hlv hc (by rw [e];intro b hb;cases hb) (l:=l) (st:=D.flat||st) (by rw [e];unfold kT;simp [vU,hob])
     exact bJ h (x := .str (cY l)) rfl (hrun _ _ this) hk
    ·simp only [hlv,decide_false,cond_false] at hk
     obtain ⟨hft,hk1⟩:=bD hk
     obtain ⟨hne,hk2⟩:=b8 hk1
     have hft:=Nat.eq_of_beq_eq_true hft
     subst hft
     obtain ⟨b1,b2,b3,b4⟩:=lx hP hD h1.2.2
     have hs:=(hP.ty f F hF).slice h1.1
     rw [hel] at hs
     rw [e] at hc
     obtain ⟨hd,hv,h1c,harr⟩:_/\a.eval x=(β k).v/\_/\(β k).arr=false:=hc
     obtain ⟨D',cs,hT',hsz,hown,hrc⟩:=h.objs k _ hob
     have hown:dO w (β k).arr el D'.sz (β k).v l.length cs:=hown
     obtain ⟨hcl,hor⟩:=hown
     rcases hor with ⟨_,hn0⟩|⟨g,cap,cur,q',fz,hv0,hq',hg,hfz,hnc,hcm,hcs,htake⟩
     ·have:=List.eq_nil_of_length_eq_zero hn0;subst this;cases hne
     ·have hr:(convert f f (a.eval x)).run P w = .ok (a.eval x) (w.freeze ⟨g,cur.size,none⟩ 1):=by
       rw [hv,hv0]
       simp [convert,run_underlying hs,run_underlying b1,sV hg]
      have hgb:g∈bK (β k) (.row el l st):=by simp [bK,hv0,Value.ownBlock]
      have hfr:Fr (fun b=>b∈bK (β k) (.row el l st)) w (w.freeze ⟨g,cur.size,none⟩ 1):=by
       unfold World.freeze
       rw [if_neg (by decide)]
       refine ⟨rfl,rfl,rfl,by simp,fun b _ hn => ?_⟩
       simp only [Array.getElem?_modify]
       rw [if_neg (fun e=>hn (by rw [<- e];exact hgb))]
      have h2:=h.fR hob (.row el l st) hfr (fun b hb=>hb) (fun le=>by
       refine ⟨D',cs,hT',hsz,⟨hcl,.inr ⟨g,cap,cur,q',_,hv0,hq',wR hg hfz,.inr rfl,hnc,hcm,hcs,htake⟩⟩,?_⟩
       exact hrc.mono (fun b hq=>le.Q _ b hq) (fun b hq=>le.w _ b hq))
      intro next Q hn
      refine dc (hrun _ _ hr) (hn _ _ _ hk2 ⟨_,_,_,h2.put o.dst (x := .own k) (cB (cL ⟨?_,hv,h1c,harr⟩))⟩)
      show ∃ o',(s.setObj k (.row el l st)).obj k=some o'
      rw [cQ,if_pos rfl,hob];exact ⟨_,rfl⟩
   ·cases hk
  ·cases hk
 ·rename_i e
  obtain ⟨h1,hk⟩:=bD hk
  simp only [Bool.and_eq_true,decide_eq_true_eq] at h1
  split at hk
  ·rename_i D hD
   obtain ⟨hby,hk⟩:=bD hk
   have:=nk hP hE h hF hT hTa h1.1 rfl hD hby h1.2 hc (by rw [e];intro b hb;cases hb) (l:=[]) (st:=true) (by rw [e];rfl)
   exact bJ h (x := .str ⟨#[]⟩) rfl (hrun _ _ this) hk
  ·cases hk
 ·rename_i hn1 hn2 hn3
  split at hk
  ·rename_i el l st hl
   split at hk
   ·rename_i D hD
    obtain ⟨h1,hk⟩:=bD hk
    simp only [Bool.and_eq_true,decide_eq_true_eq] at h1
    have hel:=Nat.eq_of_beq_eq_true h1.2.1
    have:=nk hP hE h hF hT hTa h1.1 hel hD h1.2.2.1 h1.2.2.2 hc hn1 (l:=l) (st:=D.flat||st) (by
     unfold kT
     split
     ·exact absurd ‹_› hn3
     ·exact absurd ‹_› (hn1 _)
     ·rw [hl];simp)
    exact bJ h (x := .str (cY l)) rfl (hrun _ _ this) hk
   ·cases hk
  ·cases hk
end
end Go.Proofs.Ab
namespace Go.Proofs.Ab
open Go
variable {R:Type}
section
variable {P:Program} {E:Env} {o:Oper} {s:St} {a:Act} {w:World} {β : Nat->Bl} {Rt Ra:Nat->Prop} {κ : St->Option R} {r:R} {C:Cfg R} {tab:cb}
theorem qO {q:Bool} (hP:Ok P C.ty) (hE:cS C tab E) (h:Rel E s a w β Rt Ra) {c:Call} {b:Builtin} (ho:o.op = .call c) (hc:c.callee = .builtin b) (hk:cN C q s o.dst b c.args.toList c.argTypes.toList o.type κ = some r):db P E o a w κ r:=by
 have hk0:=hk
 unfold cN at hk
 split at hk
 ·rename_i x hx;exact yU hP h ho hc hx hk0
 ·rename_i x y hx;exact sr hP hE.T h ho hc hx hk0
 ·rename_i x y hx;exact yW h ho hc hx hk0
 ·rename_i x y hx;exact yV h ho hc hx hk0
 ·rename_i x hx;exact nF hP h ho hc hx hk0
 ·rename_i x y hx;exact kl hP hE.T h ho hc hx hk0
 ·cases hk
theorem mo {c:Cx}:∀ {xs:List SV} {vs:List Value} {ts:List Nat},PW (S2 c) xs vs->we xs=some ts->(∀ t∈ts,c.D t)/\vs=ts.map fun t => .pointer (some ⟨(c.β t).b,0,none⟩)
 | [],[],_,_,h=>by cases h;exact ⟨fun t ht=>(by cases ht),rfl⟩
 | x::xs,v::vs,ts,hp,h=>by
  unfold we at h
  split at h
  ·rename_i e;cases e
  ·rename_i t r' e
   cases e
   split at h
   ·rename_i l hl
    cases h
    obtain ⟨h1,h2⟩:=mo hp.2 hl
    obtain ⟨hd,hv⟩:c.D t/\v=_:=hp.1
    refine ⟨fun u hu => ?_,?_⟩
    ·rcases List.mem_cons.1 hu with rfl|hu
     ·exact hd
     ·exact h1 u hu
    ·rw [List.map_cons,<- h2,hv]
   ·cases h
  ·cases h
 | [],_::_,_,hp,_=>hp.elim
 | _::_,[],_,hp,_=>hp.elim
theorem oP {q:Bool} (h:Rel E s a w β Rt Ra) {g:Nat} {first captured:Array Operand} (ho:o.op = .makeFunc (.func g) first captured) (hk:df C q o s κ = some r):db P E o a w κ r:=by
 unfold df at hk;rw [ho] at hk;simp only at hk
 cases q with
 | true=>cases hk
 | false =>
 simp only [cond_false] at hk
 cases hfe:first.isEmpty with
 | false=>rw [hfe] at hk;cases hk
 | true =>
  rw [hfe,cond_true] at hk
  have hf0:first = #[]:=by simpa using hfe
  split at hk
  ·rename_i hcap
   have hc0:captured = #[]:=by simpa using hcap
   refine dh (v := .func (.func g) #[] #[]) h (show S2 _ (.fn g) _ from rfl) ?_ hk
   unfold execOp;rw [ho,hf0,hc0];simp [Instr.makeFunc]
  ·rename_i x hcap
   have hc0:captured = #[x]:=by
    apply Array.ext';exact hcap
   split at hk
   ·rename_i t hx
    have hv:=bH h x
    rw [hx] at hv
    obtain ⟨hd,hv⟩:_/\a.eval x=_:=hv
    refine dh (v := .func (.func g) #[] #[a.eval x]) h (show S2 _ (.clo g t) _ from ⟨hd,by rw [hv]⟩) ?_ hk
    unfold execOp;rw [ho,hf0,hc0];simp [Instr.makeFunc]
   ·cases hk
  ·split at hk
   ·rename_i ts hts
    obtain ⟨h1,h2⟩:=mo (gX h captured.toList) hts
    refine dh (v := .func (.func g) #[] (captured.map a.eval)) h (show S2 _ (.cls g ts) _ from ⟨h1,?_⟩) ?_ hk
    ·congr 1
     apply Array.ext'
     rw [Array.toList_map];simpa using h2
    ·unfold execOp;rw [ho,hf0];simp [Instr.makeFunc]
   ·cases hk
theorem pX {q:Bool} (hP:Ok P C.ty) (hE:cS C tab E) (hD:∀ g,bR P C.ty tab g (C.call g)) (h:Rel E s a w β Rt Ra) (hk:df C q o s κ = some r):db P E o a w κ r:=by
 have hk0:=hk
 unfold df at hk
 split at hk
 ·exact pA h (.inl ‹_›) hk
 ·exact pA h (.inr ‹_›) hk
 ·exact wZ h ‹_› hk0
 ·exact uq hP hE.T h ‹_› hk0
 ·exact yT h ‹_› hk0
 ·exact uu hP h ‹_› hk0
 ·exact mB hP hE.T h ‹_› hk0
 ·exact wX hP hE.T h ‹_› hk0
 ·exact uz hP hE.T h ‹_› hk0
 ·exact oQ h ‹_› hk0
 ·exact oP h ‹_› hk0
 ·exact qR hP h ‹_› hk0
 ·exact ss hP h ‹_› hk0
 ·exact nE hP h ‹_› hk0
 ·exact ur hP h ‹_› hk0
 ·exact w5 h ‹_› hk0
 ·exact qP hP h ‹_› (fun F T hF hT hFa hTa hk=>wW hP hE.T h ‹_› hF hT hFa hTa hk) hk0
 ·exact uy hP hE.T h ‹_› hk0
 ·exact nC hP h ‹_› hk0
 ·exact uv hP h ‹_› hk0
 ·exact nD hP hE.T h ‹_› hk0
 ·exact uw hP hE.T h ‹_› hk0
 ·exact qQ h ‹_› hk0
 ·exact ux hP h ‹_› hk0
 ·exact wY h ‹_› hk0
 ·rename_i c ho
  split at hk
  ·rename_i b hb;exact qO hP hE h ho hb hk
  ·rename_i f hf;exact wV hE hD h ho hf hk0
  ·cases hk
 ·cases hk
end
end Go.Proofs.Ab
namespace Go.Proofs.Ab
open Go
variable {R:Type}
section
variable {P:Program} {E:Env} {o:Oper} {s:St} {a:Act} {w:World} {β : Nat->Bl} {Rt Ra:Nat->Prop} {κ : St->Option R} {r:R} {C:Cfg R} {tab:cb} {ops:Array Oper}
def vl (P:Program) (E:Env) (ops:Array Oper) (i:Nat) (a:Act) (w:World) (κ : St->Option R) (r:R):Prop :=
 ∀ (K:Act->World->Prop) (Q:Exit->Act->World->Prop),(∀ s' a' w',κ s'=some r->ci E s' a' w'->K a' w')->wpOp P ops Q i K a w
theorem xE (l:List SV) (d:Nat):fp l d (dE l d)=l:=by
 induction l generalizing d with
 | nil=>rfl
 | cons x r ih=>cases d with
  | zero=>rfl
  | succ d=>simp [fp,dE,ih]
theorem tk {d:Nat} {x:SV} (h:s.get d=x):s.put (some d) x=s:=by
 subst h;show (⟨fp s.slots d (dE s.slots d),s.objs,s.next⟩:St)=s
 rw [xE]
theorem c9 {q:Bool} (o:Oper) (s:St) (κ : St->Option R):cq C q ops o s κ =
  match o.guard with
  | none=>df C q o s κ
  | some (j,want)=>match uA ops j with
   | none=>none
   | some d=>match s.get d with
    | .undef=>κ (s.put o.dst .undef)
    | .bool t=>if t=want then df C q o s κ else κ (s.put o.dst .undef)
    | _=>none:=by
 unfold cq
 cases o.guard with
 | none=>rfl
 | some g =>
  obtain ⟨j,want⟩:=g
  simp only
  cases uA ops j with
  | none=>rfl
  | some d =>
   simp only
   cases hd:s.get d <;> try rfl
   rename_i t
   cases want <;> cases t <;> simp [tk hd]
theorem sm (h:Rel E s a w β Rt Ra) {d:Nat} (hd:s.get d ≠ .no):d<a.tmps.size:=by
 rw [<- h.len]
 refine Decidable.byContradiction fun hn=>hd ?_
 exact qN hn
theorem rI (h:Rel E s a w β Rt Ra) {j d:Nat} {t:Bool} (hj:uA ops j=some d) (hd:s.get d = .bool t):yielded ops a.tmps j=some t:=by
 have hs:=h.slots d
 rw [hd] at hs
 have hv:=mG hs
 have hlt:=sm h (d:=d) (by rw [hd];simp)
 unfold yielded
 unfold uA at hj
 rw [hj]
 simp only [Option.bind_some]
 rw [Array.getD_eq_getD_getElem?,Array.getElem?_eq_getElem hlt] at hv
 rw [Array.getElem?_eq_getElem hlt]
 simp only [Option.getD_some] at hv
 rw [hv]
theorem oX (h:Rel E s a w β Rt Ra) {j d:Nat} (hj:uA ops j=some d) (hd:s.get d = .undef):yielded ops a.tmps j=none:=by
 have hs:=h.slots d
 rw [hd] at hs
 have hv:a.tmps.getD d undef=undef:=hs
 have hlt:=sm h (d:=d) (by rw [hd];simp)
 unfold yielded
 unfold uA at hj
 rw [hj]
 simp only [Option.bind_some]
 rw [Array.getD_eq_getD_getElem?,Array.getElem?_eq_getElem hlt] at hv
 rw [Array.getElem?_eq_getElem hlt]
 simp only [Option.getD_some] at hv
 rw [hv];rfl
theorem sq {i:Nat} (hi:ops[i]? = some o) (hw:Region.wanted o (yielded ops a.tmps)=true) (h:db P E o a w κ r):vl P E ops i a w κ r:=by
 intro K Q hK
 unfold wpOp;rw [hi];simp only [hw,if_true]
 exact .inl (h K Q hK)
theorem nB {i:Nat} (hi:ops[i]? = some o) (hw:Region.wanted o (yielded ops a.tmps)=false) (h:Rel E s a w β Rt Ra) (hk:κ (s.put o.dst .undef)=some r):vl P E ops i a w κ r:=by
 intro K Q hK
 unfold wpOp;rw [hi];simp only [hw,Bool.false_eq_true,if_false]
 exact hK _ _ _ hk ⟨β,Rt,Ra,h.put o.dst (x := .undef) (v:=undef) rfl⟩
theorem ff {q:Bool} (hP:Ok P C.ty) (hE:cS C tab E) (hD:∀ g,bR P C.ty tab g (C.call g)) (h:Rel E s a w β Rt Ra) {i:Nat} (hi:ops[i]? = some o) (hk:cq C q ops o s κ = some r):vl P E ops i a w κ r:=by
 rw [c9] at hk
 split at hk
 ·rename_i hg
  exact sq hi (by unfold Region.wanted;rw [hg]) (pX hP hE hD h hk)
 ·rename_i j want hg
  split at hk
  ·cases hk
  ·rename_i d hd
   split at hk
   ·rename_i hu
    exact nB hi (by unfold Region.wanted;rw [hg];simp [oX h hd hu]) h hk
   ·rename_i t hu
    have hy:=rI h hd hu
    split at hk
    ·rename_i e
     exact sq hi (by unfold Region.wanted;rw [hg];simp [hy,e]) (pX hP hE hD h hk)
    ·rename_i e
     exact nB hi (by unfold Region.wanted;rw [hg];simp [hy,e]) h hk
   ·cases hk
theorem so {i:Nat} (h:vl P E ops i a w κ r):∃ s' a' w',κ s'=some r/\ci E s' a' w':=by
 have h1:=h (fun a' w'=>∃ s',κ s'=some r/\ci E s' a' w') (fun _ _ _=>False) fun s' a' w' hk hr=>⟨s',hk,hr⟩
 unfold wpOp at h1
 split at h1
 ·obtain ⟨s',g1,g2⟩:=h1;exact ⟨s',_,_,g1,g2⟩
 ·split at h1
  ·rcases h1 with h1|h1
   ·unfold Oper.wp at h1
    generalize (execOp a.eval _).run P w=rr at h1
    cases rr with
    | ok n w' =>
     cases n <;> simp only [Oper.upon] at h1
     case value=>obtain ⟨s',g1,g2⟩:=h1;exact ⟨s',_,_,g1,g2⟩
     case skip=>obtain ⟨s',g1,g2⟩:=h1;exact ⟨s',_,_,g1,g2⟩
     case defer=>obtain ⟨s',g1,g2⟩:=h1;exact ⟨s',_,_,g1,g2⟩
     case enter =>
      obtain ⟨e,w2,fr,g,_⟩:=h1 []
      cases e with
      | returned v=>obtain ⟨s',g1,g2⟩:=g;exact ⟨s',_,_,g1,g2⟩
      | panicked c=>exact g.elim
      | outgrown=>obtain ⟨_,_,hq⟩:=g;exact hq.elim
     case row =>
      obtain ⟨v,w2,g,_⟩:=h1 (Frame.enter P 0 #[] .normal) []
      obtain ⟨s',g1,g2⟩:=g;exact ⟨s',_,_,g1,g2⟩
    | halt x w'=>cases x <;> simp only [Oper.upon] at h1
   ·exact h1.2.elim fun _ h=>h.elim fun _ h=>h.elim
  ·obtain ⟨s',g1,g2⟩:=h1;exact ⟨s',_,_,g1,g2⟩
theorem jD {q:Bool} (hP:Ok P C.ty) (hE:cS C tab E) (hD:∀ g,bR P C.ty tab g (C.call g)) {Q:Exit->Act->World->Prop} (hQ:∀ s' a' w',κ s'=some r->ci E s' a' w'->Q .normal a' w') :
  ∀ (l:List Oper) (n:Nat) {s:St} {a:Act} {w:World},ops.toList.drop n=l->ci E s a w->dD C q ops l s κ = some r->wpOps P ops Q (List.range' n l.length) a w
 | [],n,s,a,w,_,h,hk=>by
  simp only [List.length_nil,List.range'_zero,wpOps];exact hQ s a w hk h
 | o::l,n,s,a,w,hl,⟨β,Rt,Ra,h⟩,hk=>by
  have hi:ops[n]? = some o:=by
   have:=congrArg (·[0]?) hl
   simpa using this
  have hl':ops.toList.drop (n+1)=l:=by
   rw [<- List.drop_drop,hl];rfl
  simp only [List.length_cons,List.range'_succ]
  rw [wpOps_cons]
  refine ff hP hE hD h hi hk _ _ fun s' a' w' hk' hr' => ?_
  exact jD hP hE hD hQ l (n+1) hl' hr' hk'
theorem kF {q:Bool} (hP:Ok P C.ty) (hE:cS C tab E) (hD:∀ g,bR P C.ty tab g (C.call g)):∀ (l:List Nat) {s:St} {a:Act} {w:World} {κ : St->Option R},(∀ i∈l,i<ops.size)->ci E s a w->dD C q ops (l.filterMap (ops[·]?)) s κ = some r->∃ s' a' w',κ s'=some r/\ci E s' a' w'
 | [],s,a,w,κ,_,h,hk=>⟨s,a,w,hk,h⟩
 | i::l,s,a,w,κ,hl,⟨β,Rt,Ra,h⟩,hk=>by
  have hi:ops[i]? = some (ops[i]'(hl i (by simp))):=Array.getElem?_eq_getElem (hl i (by simp))
  rw [List.filterMap_cons_some (by exact hi)] at hk
  obtain ⟨s',a',w',hk',hr'⟩:=so (ff hP hE hD h hi hk)
  exact kF hP hE hD l (fun j hj=>hl j (by simp [hj])) hr' hk'
end
end Go.Proofs.Ab
namespace Go.Proofs.Ab
open Go
variable {R:Type}
section
variable {o:Oper} {s s':St} {C:Cfg R} {K K':St->Option R}
theorem U0 {lt:Bool} (hc:cls lt o=0) (hev:∀ x∈o.op.operands,ev s' x=ev s x) (hK:∀ u,K (s.put o.dst u)=K' (s'.put o.dst u)):df C true o s K=df C true o s' K':=by
 unfold df cls at *
 split at hc <;> rename_i ho <;> try (cases hc;done)
 ·rename_i x;have h1:=hev x (by rw [ho];simp [Op.operands]);simp only [ho,h1,hK,cond_true]
 ·rename_i x;have h1:=hev x (by rw [ho];simp [Op.operands]);simp only [ho,h1,hK,cond_true]
 ·rename_i c x y
  have h1:=hev c (by rw [ho];simp [Op.operands]);have h2:=hev x (by rw [ho];simp [Op.operands]);have h3:=hev y (by rw [ho];simp [Op.operands])
  simp only [ho,h1,h2,h3,hK]
 ·rename_i x;have h1:=hev x (by rw [ho];simp [Op.operands]);simp only [ho,h1,hK,cond_true]
 ·rename_i x;have h1:=hev x (by rw [ho];simp [Op.operands]);simp only [ho,h1,hK,cond_true]
 ·rename_i x _;have h1:=hev x (by rw [ho];simp [Op.operands]);simp only [ho,h1,hK,cond_true]
 ·rename_i x _;have h1:=hev x (by rw [ho];simp [Op.operands]);simp only [ho,h1,hK,cond_true]
 ·rename_i x y
  have h1:=hev x (by rw [ho];simp [Op.operands]);have h2:=hev y (by rw [ho];simp [Op.operands])
  simp only [ho,h1,h2,hK]
 ·rename_i x _;have h1:=hev x (by rw [ho];simp [Op.operands]);simp only [ho,h1,hK,cond_true]
 ·rename_i x y _
  have h1:=hev x (by rw [ho];simp [Op.operands]);have h2:=hev y (by rw [ho];simp [Op.operands])
  simp only [ho,h1,h2,hK]
 ·rename_i t ps
  have h1:ps.toList.map (fun p=>(p.1,ev s' p.2))=ps.toList.map (fun p=>(p.1,ev s p.2)) :=
   List.map_congr_left fun p hp=>by rw [hev p.2 (by rw [ho];simp [Op.operands];exact ⟨p.1,by simpa using hp⟩)]
  simp only [ho,h1,hK,cond_true]
 ·rename_i c
  split at hc <;> rename_i hcal <;> try (first|(cases hc;done)|(exfalso;revert hc;cases lt <;> intro hc <;> cases hc;done))
  all_goals
   have h1:∀ x∈c.args.toList,ev s' x=ev s x:=fun x hx=>hev x (by rw [ho];simp [Op.operands,Call.operands,hcal];simpa using hx)
   simp only [ho,hcal]
   unfold cN
   generalize c.args.toList=l at h1
   generalize c.argTypes.toList=ts
   match l,h1 with
   | [],_=>rfl
   | [x],_=>rfl
   | [x,y],h1=>simp only [h1 x (by simp),h1 y (by simp),hK]
   | _::_::_::_,_=>rfl
theorem sR (C:Cfg R) (T:TI) (v:SV) (h:∀ k,tok v=some k->s'.obj k=s.obj k):loadAt C s' T v=loadAt C s T v:=by
 cases v <;> try rfl
 case ptr t off=>simp only [loadAt,h t rfl]
 case el t i off=>simp only [loadAt,h t rfl]
 case ap t n=>simp only [loadAt,h t rfl]
theorem pM (v:SV) (h:∀ k,tok v=some k->s'.obj k=s.obj k):kv s' v=kv s v:=by
 cases v <;> try rfl
 case own t=>simp only [kv,h t rfl]
theorem U1 {lt:Bool} (hc:cls lt o<=1) (hev:∀ x∈o.op.operands,ev s' x=ev s x) (hsame:∀ x∈o.op.operands,∀ k,tok (ev s x)=some k->s'.obj k=s.obj k) (hK:∀ u,K (s.put o.dst u)=K' (s'.put o.dst u)):df C true o s K=df C true o s' K':=by
 by_cases h0:cls lt o=0
 ·exact U0 h0 hev hK
 have hc1:cls lt o=1:=by omega
 unfold df
 unfold cls at hc1
 split at hc1 <;> rename_i ho <;> try (cases hc1;done)
 ·rename_i t x
  have h1:=hev x (by rw [ho];simp [Op.operands])
  have h2:=hsame x (by rw [ho];simp [Op.operands])
  simp only [ho,h1,sR C _ _ h2,hK]
 ·rename_i t x i
  have h1:=hev x (by rw [ho];simp [Op.operands])
  have h2:=hsame x (by rw [ho];simp [Op.operands])
  have h3:=hev i (by rw [ho];simp [Op.operands])
  simp only [ho,h1,h3]
  cases C.ty t with
  | none=>rfl
  | some S =>
   simp only
   generalize S.sl=b
   cases b <;> simp only [hK,Bool.not_true,Bool.not_false,cond_true,cond_false] <;> cases hx:ev s x <;> rw [hx] at h2 <;> first
    | (simp only [h2 _ rfl];done)
    | (cases mY C S <;> cases C.ty S.elem <;> cases ev s i <;> first|rfl|simp only [h2 _ rfl])
 ·rename_i ty x lo hi mx
  cases mx with
  | some m=>simp only [ho]
  | none =>
   have h1:=hev x (by rw [ho];simp [Op.operands])
   have h2:=hsame x (by rw [ho];simp [Op.operands])
   have hl:=pM (s:=s) (s':=s') _ h2
   simp only [ho,h1]
   have hb:bounds s' (ev s x) lo hi=bounds s (ev s x) lo hi:=by
    unfold bounds
    rw [hl]
    cases kv s (ev s x) with
    | none=>rfl
    | some z =>
     cases lo with
     | none=>cases hi with
      | none=>rfl
      | some b=>simp only [hev b (by rw [ho];simp [Op.operands])]
     | some b=>cases hi with
      | none=>simp only [hev b (by rw [ho];simp [Op.operands])]
      | some d=>simp only [hev b (by rw [ho];simp [Op.operands]),hev d (by rw [ho];simp [Op.operands])]
   simp only [hb,hK]
   cases hx:ev s x <;> rw [hx] at h2 <;> first
    | rfl
    | simp only [h2 _ rfl]
 ·rename_i f t x
  have h1:=hev x (by rw [ho];simp [Op.operands])
  have h2:=hsame x (by rw [ho];simp [Op.operands])
  simp only [ho,h1]
  cases C.ty f with
  | none=>rfl
  | some F=>cases C.ty t with
   | none=>rfl
   | some T =>
    simp only
    cases !(!F.agg && !T.agg) with
    | true=>rfl
    | false =>
     simp only [cond_false]
     split <;> first|exact hK _|exact tn (fun k hk=>h2 k (by rw [hk];rfl)) hK
 ·rename_i c
  split at hc1 <;> rename_i hcal <;> try (first|(cases hc1;done)|(exfalso;revert hc1;cases lt <;> intro hc1 <;> cases hc1;done))
  all_goals
   have h1:∀ x∈c.args.toList,ev s' x=ev s x:=fun x hx=>hev x (by rw [ho];simp [Op.operands,Call.operands,hcal];simpa using hx)
   have h2:∀ x∈c.args.toList,∀ k,tok (ev s x)=some k->s'.obj k=s.obj k:=fun x hx=>hsame x (by rw [ho];simp [Op.operands,Call.operands,hcal];simpa using hx)
   simp only [ho,hcal]
   unfold cN
   generalize c.args.toList=l at h1 h2
   generalize c.argTypes.toList=ts
   match l,h1,h2 with
   | [],_,_=>rfl
   | [x],h1,h2 =>
    have a1:=h1 x (by simp)
    have a2:=h2 x (by simp)
    first
     | simp only [a1,pM _ a2,hK];done
     | (simp only [a1, fK]
        cases hx:ev s x <;> first
         | (rw [hx] at a2;simp only [a2 _ rfl,hK];done)
         | (simp only [hK];done)
         | rfl)
   | [_,_],_,_=>rfl
   | _::_::_::_,_,_=>rfl
end
end Go.Proofs.Ab
namespace Go.Proofs.Ab
open Go
variable {R:Type}
theorem gD:∀ (ls:List SV) (ob:List (Nat × Obj)) (n:Nat),∃ us ob' n',∀ a,b9 ⟨a,ob,n⟩ ls=(us,⟨a,ob',n'⟩)
 | [],ob,n=>⟨[],ob,n,fun _=>rfl⟩
 | x::r,ob,n=>by
  by_cases hx:∃ e l st,x = .fr e l st
  ·obtain ⟨e,l,st,rfl⟩:=hx
   obtain ⟨us,ob',n',h⟩:=gD r ((n,.row e l st)::ob) (n+1)
   refine ⟨.own n::us,ob',n',fun a => ?_⟩
   rw [e6]
   show (SV.own n::(b9 ⟨a,(n,.row e l st)::ob,n+1⟩ r).1,(b9 ⟨a,(n,.row e l st)::ob,n+1⟩ r).2)=_
   rw [h a]
  ·obtain ⟨us,ob',n',h⟩:=gD r ob n
   refine ⟨x::us,ob',n',fun a => ?_⟩
   rw [fH _ x r fun e l st e'=>hx ⟨e,l,st,e'⟩,h a]
theorem jb (x:SV) (ob:List (Nat × Obj)) (n:Nat):∃ u ob' n',∀ a,di ⟨a,ob,n⟩ x=(u,⟨a,ob',n'⟩):=by
 rcases fh x with ⟨l,rfl⟩|h1
 ·obtain ⟨us,ob',n',h⟩:=gD l ob n
  exact ⟨.agg us,ob',n',fun a=>by simp only [di,h a]⟩
 ·obtain ⟨us,ob',n',h⟩:=gD [x] ob n
  obtain ⟨u,hu,_⟩:=fI h1 ⟨[],ob,n⟩
  rw [h []] at hu
  refine ⟨u,ob',n',fun a => ?_⟩
  obtain ⟨u',hu',e⟩:=fI h1 ⟨a,ob,n⟩
  rw [h a] at hu' e
  simp only at hu hu' e
  rw [hu] at hu';cases hu'
  exact e
theorem lE:∀ (xs:List SV) (ob:List (Nat × Obj)) (n:Nat),∃ us ob' n',∀ a,dT ⟨a,ob,n⟩ xs=(us,⟨a,ob',n'⟩)
 | [],ob,n=>⟨[],ob,n,fun _=>rfl⟩
 | x::r,ob,n=>by
  obtain ⟨u,ob1,n1,h1⟩:=jb x ob n
  obtain ⟨us,ob2,n2,h2⟩:=lE r ob1 n1
  exact ⟨u::us,ob2,n2,fun a=>by simp only [dT,h1 a,h2 a]⟩
theorem iT:∀ (xs back:List SV) (ob:List (Nat × Obj)) (n:Nat),(∀ a,dI ⟨a,ob,n⟩ xs back=none)∨∃ ob' n',∀ a,dI ⟨a,ob,n⟩ xs back=some ⟨a,ob',n'⟩
 | [],[],ob,n => .inr ⟨ob,n,fun _=>rfl⟩
 | [],_::_,_,_ => .inl fun _=>rfl
 | x::r,u,ob,n=>by
  by_cases hx:∃ t o,x = .ptr t o
  ·obtain ⟨t,o,rfl⟩:=hx
   cases u with
   | nil=>exact .inl fun _=>rfl
   | cons y u =>
    by_cases hy:∃ ty ls,y = .vp ty ls
    ·obtain ⟨ty,ls,rfl⟩:=hy
     obtain ⟨us,ob1,n1,h1⟩:=gD ls ob n
     rcases iT r u (ob1.map fun p=>bif Nat.beq t p.1 then (p.1,.var ty us) else p) n1 with h2|⟨ob2,n2,h2⟩
     ·refine .inl fun a => ?_
      rw [kY,h1 a];exact h2 a
     ·refine .inr ⟨ob2,n2,fun a => ?_⟩
      rw [kY,h1 a];exact h2 a
    ·refine .inl fun a => ?_
     cases y <;> first|rfl|exact absurd ⟨_,_,rfl⟩ hy
  ·have hx':∀ t o,x ≠ .ptr t o:=fun t o e=>hx ⟨t,o,e⟩
   rcases iT r u ob n with h|⟨ob',n',h⟩
   ·exact .inl fun a=>by rw [iv _ hx'];exact h a
   ·exact .inr ⟨ob',n',fun a=>by rw [iv _ hx'];exact h a⟩
theorem pC:∀ (ts:List Nat) (ob:List (Nat × Obj)) (n:Nat),∃ ob',∀ a,eE ts ⟨a,ob,n⟩=⟨a,ob',n⟩
 | [],ob,n=>⟨ob,fun _=>rfl⟩
 | t::r,ob,n=>by
  obtain ⟨ob',h⟩:=pC r (ob.map fun p=>bif Nat.beq t p.1 then (p.1,.hole) else p) n
  exact ⟨ob',fun a=>h a⟩
section
variable {a b:List SV} {ob:List (Nat × Obj)} {n:Nat}
theorem ng (x:SV):eN ⟨a,ob,n⟩ x=eN ⟨b,ob,n⟩ x:=by cases x <;> rfl
theorem wU (x:SV):kj ⟨a,ob,n⟩ x=kj ⟨b,ob,n⟩ x:=by cases x <;> rfl
theorem nj:∀ (l:List SV),fg ⟨a,ob,n⟩ l=fg ⟨b,ob,n⟩ l
 | []=>rfl
 | x::r=>by simp only [fg,ng (a:=a) (b:=b) x,nj r]
theorem py:∀ (l:List SV),gx ⟨a,ob,n⟩ l=gx ⟨b,ob,n⟩ l
 | []=>rfl
 | x::r=>by simp only [gx,wU (a:=a) (b:=b) x,py r]
theorem ub (x:SV):dU ⟨a,ob,n⟩ x=dU ⟨b,ob,n⟩ x:=by
 unfold dU
 split
 ·rw [nj (a:=a) (b:=b)]
 ·show (match St.obj ⟨b,ob,n⟩ _ with
   | some (.var ty ls)=>match gx ⟨a,ob,n⟩ ls with
    | some l=>some (SV.vp ty l)
    | none=>none
   | _=>none)=_
  simp only [py (a:=a) (b:=b)]
  rfl
 ·exact ng _
theorem jt:∀ (l:List SV),dp ⟨a,ob,n⟩ l=dp ⟨b,ob,n⟩ l
 | []=>rfl
 | x::r=>by simp only [dp,ub (a:=a) (b:=b) x,jt r]
theorem mM:∀ (l:List SV),gg ⟨a,ob,n⟩ l=gg ⟨b,ob,n⟩ l
 | []=>rfl
 | x::r=>by
  by_cases hx:∃ t o,x = .ptr t o
  ·obtain ⟨t,o,rfl⟩:=hx
   simp only [gg,mM r];rfl
  ·rw [qT (fun t o e=>hx ⟨t,o,e⟩),qT (fun t o e=>hx ⟨t,o,e⟩),mM r]
theorem eX:∀ (l:List SV),bM ⟨a,ob,n⟩ l=bM ⟨b,ob,n⟩ l
 | []=>rfl
 | x::r=>by
  by_cases hx:∃ t o,x = .ptr t o
  ·obtain ⟨t,o,rfl⟩:=hx
   simp only [bM,eX r];rfl
  ·have h1:∀ s:St,bM s (x::r)=bM s r:=by
    intro s;cases x <;> first|rfl|exact absurd ⟨_,_,rfl⟩ hx
   rw [h1,h1,eX r]
end
section
variable {C:Cfg R} {K K':St->Option R}
theorem wH {d:Option Nat} {g:Nat} {xs:List Operand} {sl sl':List SV} {ob:List (Nat × Obj)} {n:Nat} (hev:∀ x∈xs,ev ⟨sl',ob,n⟩ x=ev ⟨sl,ob,n⟩ x)
  (hK:∀ u ob' n',K ((⟨sl,ob',n'⟩:St).put d u)=K' ((⟨sl',ob',n'⟩:St).put d u)):fT C true ⟨sl,ob,n⟩ d g xs K=fT C true ⟨sl',ob,n⟩ d g xs K':=by
 have he:xs.map (ev ⟨sl',ob,n⟩)=xs.map (ev ⟨sl,ob,n⟩):=List.map_congr_left hev
 unfold fT ji na jU
 simp only [List.append_nil]
 simp only [he]
 generalize hfz:(bif C.uj g then dz (xs.map (ev ⟨sl,ob,n⟩))++o4 (xs.map (ev ⟨sl,ob,n⟩)) else [])=fz
 cases fz with
 | cons t ts=>simp
 | nil =>
  simp only [eO,he]
  generalize xs.map (ev ⟨sl,ob,n⟩)=vs
  rw [mM (a:=sl') (b:=sl),eX (a:=sl') (b:=sl),jt (a:=sl') (b:=sl)]
  generalize hc:((true && !(([]:List Nat).isEmpty&&(bM ⟨sl,ob,n⟩ vs).isEmpty)) || !distinct (gg ⟨sl,ob,n⟩ vs)||(seen vs).any fun t=>(gg ⟨sl,ob,n⟩ vs).any (Nat.beq t))=cnd
  cases cnd with
  | true=>rfl
  | false =>
   simp only [cond_false]
   cases dp ⟨sl,ob,n⟩ vs with
   | none=>rfl
   | some cs =>
    simp only
    have hgr:bM ⟨sl,ob,n⟩ vs=[]:=by
     cases hg:bM ⟨sl,ob,n⟩ vs with
     | nil=>rfl
     | cons t ts=>rw [hg] at hc;simp at hc
    rw [hgr]
    refine congrArg (C.call g cs) (funext fun res => ?_)
    cases res with
    | nil=>rfl
    | cons v back =>
     simp only [dZ]
     obtain ⟨ob1,h1⟩:=pC (given vs) ob n
     rw [h1 sl,h1 sl']
     rcases iT vs back ob1 n with h2|⟨ob2,n2,h2⟩
     ·rw [h2 sl,h2 sl']
     ·rw [h2 sl,h2 sl']
      simp only
      rcases nY v with ⟨l,rfl⟩|hv
      ·obtain ⟨us,ob3,n3,h3⟩:=lE l ob2 n2
       simp only [h3 sl,h3 sl']
       exact hK _ _ _
      ·obtain ⟨u,ob3,n3,h3⟩:=jb v ob2 n2
       cases v <;> first
        | exact absurd rfl (hv _)
        | (simp only [h3 sl,h3 sl'];exact hK _ _ _)
def Nm (ob:List (Nat × Obj)) (n:Nat):Prop:=∀ t o,lookup t ob=some o->t<n
def mF (ob ob':List (Nat × Obj)):Prop:=∀ t o,lookup t ob=some o->lookup t ob'=some o
def xQ (C:Cfg R):Prop:=∀ g xs κ,jj xs=true->C.call g xs κ = none
theorem mF.refl (ob:List (Nat × Obj)):mF ob ob:=fun _ _ h=>h
theorem mF.trans {a b c:List (Nat × Obj)} (h:mF a b) (h':mF b c):mF a c:=fun t o ho=>h' t o (h t o ho)
theorem vA {ob:List (Nat × Obj)} {n:Nat} (h:Nm ob n) (o:Obj):mF ob ((n,o)::ob)/\Nm ((n,o)::ob) (n+1):=by
 refine ⟨fun t x ht => ?_,fun t x ht => ?_⟩
 ·have:=h t x ht
  unfold lookup
  cases hb:Nat.beq t n with
  | true=>have:=Nat.eq_of_beq_eq_true hb;omega
  | false=>exact ht
 ·unfold lookup at ht
  cases hb:Nat.beq t n with
  | true=>have:=Nat.eq_of_beq_eq_true hb;omega
  | false=>rw [hb] at ht;have:=h t x ht;omega
theorem ja:∀ (ls:List SV) (ob:List (Nat × Obj)) (n:Nat),Nm ob n->∀ a,mF ob (b9 ⟨a,ob,n⟩ ls).2.objs/\Nm (b9 ⟨a,ob,n⟩ ls).2.objs (b9 ⟨a,ob,n⟩ ls).2.next
 | [],ob,n,h,a=>⟨mF.refl _,h⟩
 | x::r,ob,n,h,a=>by
  by_cases hx:∃ e l st,x = .fr e l st
  ·obtain ⟨e,l,st,rfl⟩:=hx
   rw [e6]
   obtain ⟨h1,h2⟩:=vA h (.row e l st)
   obtain ⟨h3,h4⟩:=ja r _ _ h2 a
   exact ⟨h1.trans h3,h4⟩
  ·rw [fH _ x r fun e l st e'=>hx ⟨e,l,st,e'⟩]
   exact ja r ob n h a
theorem p7 (x:SV) (ob:List (Nat × Obj)) (n:Nat) (h:Nm ob n) (a:List SV):mF ob (di ⟨a,ob,n⟩ x).2.objs/\Nm (di ⟨a,ob,n⟩ x).2.objs (di ⟨a,ob,n⟩ x).2.next:=by
 rcases fh x with ⟨l,rfl⟩|h1
 ·exact ja l ob n h a
 ·obtain ⟨u,hu,e⟩:=fI h1 ⟨a,ob,n⟩
  rw [e]
  exact ja [x] ob n h a
theorem pZ:∀ (xs:List SV) (ob:List (Nat × Obj)) (n:Nat),Nm ob n->∀ a,mF ob (dT ⟨a,ob,n⟩ xs).2.objs/\Nm (dT ⟨a,ob,n⟩ xs).2.objs (dT ⟨a,ob,n⟩ xs).2.next
 | [],ob,n,h,a=>⟨mF.refl _,h⟩
 | x::r,ob,n,h,a=>by
  obtain ⟨u,ob1,n1,h1⟩:=jb x ob n
  obtain ⟨h2,h3⟩:=p7 x ob n h a
  rw [h1 a] at h2 h3
  obtain ⟨h4,h5⟩:=pZ r ob1 n1 h3 a
  simp only [dT,h1 a]
  exact ⟨h2.trans h4,h5⟩
theorem uc {s:St} {t o:Nat} {y:SV} (h:dU s (.ptr t o)=some y):∃ ty ls,y = .vp ty ls:=by
 cases o with
 | zero =>
  simp only [dU] at h
  split at h
  ·split at h
   ·cases h;exact ⟨_,_,rfl⟩
   ·cases h
  ·cases h
 | succ o=>simp [dU,eN] at h
theorem ni {s:St}:∀ {vs cs:List SV},dp s vs=some cs->jj cs=false->∀ x∈vs,∀ t o,x ≠ .ptr t o
 | [],_,_,_,x,hx,_,_=>by cases hx
 | v::vs,cs,h,hv,x,hx,t,o=>by
  unfold dp at h
  split at h
  ·rename_i y l h1 h2
   cases h
   have hvl:jj l=false:=by
    cases y <;> first|exact hv|(cases hv)
   rcases List.mem_cons.1 hx with rfl|hx
   ·intro e;subst e
    obtain ⟨ty,ls,rfl⟩:=uc h1
    cases hv
   ·exact ni h2 hvl x hx t o
  ·cases h
theorem pz:∀ {vs:List SV},(∀ x∈vs,∀ t o,x ≠ .ptr t o)->given vs=[]
 | [],_=>rfl
 | x::r,h=>by
  have h1:given r=[]:=pz fun y (hy:y∈r)=>h y (List.mem_cons_of_mem _ hy)
  cases x <;> first|exact h1|exact absurd rfl (h _ List.mem_cons_self _ _)
theorem o6:∀ {vs:List SV} {s s2:St} {back:List SV},(∀ x∈vs,∀ t o,x ≠ .ptr t o)->dI s vs back=some s2->s2=s
 | [],s,s2,[],_,h=>by simp only [dI,Option.some.injEq] at h;exact h.symm
 | [],s,s2,_::_,_,h=>by simp [dI] at h
 | x::r,s,s2,back,hx,h=>by
  rw [iv _ (hx x (by simp))] at h
  exact o6 (fun y hy=>hx y (by simp [hy])) h
theorem rS (hL:xQ C) {d:Option Nat} {g:Nat} {xs:List Operand} {sl sl':List SV} {ob:List (Nat × Obj)} {n:Nat} (hev:∀ x∈xs,ev ⟨sl',ob,n⟩ x=ev ⟨sl,ob,n⟩ x)
  (hK:∀ u ob' n',(Nm ob n->mF ob ob'/\Nm ob' n')->K ((⟨sl,ob',n'⟩:St).put d u)=K' ((⟨sl',ob',n'⟩:St).put d u)):fT C true ⟨sl,ob,n⟩ d g xs K=fT C true ⟨sl',ob,n⟩ d g xs K':=by
 have he:xs.map (ev ⟨sl',ob,n⟩)=xs.map (ev ⟨sl,ob,n⟩):=List.map_congr_left hev
 unfold fT ji na jU
 simp only [List.append_nil]
 simp only [he]
 generalize hfz:(bif C.uj g then dz (xs.map (ev ⟨sl,ob,n⟩))++o4 (xs.map (ev ⟨sl,ob,n⟩)) else [])=fz
 cases fz with
 | cons t ts=>simp
 | nil =>
  simp only [eO,he]
  generalize xs.map (ev ⟨sl,ob,n⟩)=vs
  rw [mM (a:=sl') (b:=sl),eX (a:=sl') (b:=sl),jt (a:=sl') (b:=sl)]
  generalize hc:((true && !(([]:List Nat).isEmpty&&(bM ⟨sl,ob,n⟩ vs).isEmpty)) || !distinct (gg ⟨sl,ob,n⟩ vs)||(seen vs).any fun t=>(gg ⟨sl,ob,n⟩ vs).any (Nat.beq t))=cnd
  cases cnd with
  | true=>rfl
  | false =>
   simp only [cond_false]
   cases hcl:dp ⟨sl,ob,n⟩ vs with
   | none=>rfl
   | some cs =>
    simp only
    by_cases hv:jj cs=true
    ·rw [hL g cs _ hv,hL g cs _ hv]
    have hno:=ni hcl (by simpa using hv)
    have hgr:bM ⟨sl,ob,n⟩ vs=[]:=by
     cases hg:bM ⟨sl,ob,n⟩ vs with
     | nil=>rfl
     | cons t ts=>rw [hg] at hc;simp at hc
    rw [hgr,pz hno]
    refine congrArg (C.call g cs) (funext fun res => ?_)
    cases res with
    | nil=>rfl
    | cons v back =>
     simp only [dZ,eE]
     rcases iT vs back ob n with h2|⟨ob2,n2,h2⟩
     ·rw [h2 sl,h2 sl']
     ·have e2:=o6 hno (h2 sl)
      have:ob2=ob/\n2=n:=by
       have:=congrArg St.objs e2;have:=congrArg St.next e2;exact ⟨by assumption,by assumption⟩
      obtain ⟨rfl,rfl⟩:=this
      rw [h2 sl,h2 sl']
      simp only
      rcases nY v with ⟨l,rfl⟩|hv
      ·obtain ⟨us,ob3,n3,h3⟩:=lE l ob2 n2
       simp only [h3 sl,h3 sl']
       refine hK _ _ _ fun hn => ?_
       have:=pZ l ob2 n2 hn sl
       rw [h3 sl] at this;exact this
      ·obtain ⟨u,ob3,n3,h3⟩:=jb v ob2 n2
       have hx:Nm ob2 n2->mF ob2 ob3/\Nm ob3 n3:=fun hn=>by
        have:=p7 v ob2 n2 hn sl
        rw [h3 sl] at this;exact this
       cases v <;> first
        | exact absurd rfl (hv _)
        | (simp only [h3 sl,h3 sl'];exact hK _ _ _ hx)
end
end Go.Proofs.Ab
namespace Go.Proofs.Ab
open Go
variable {R:Type}
section
variable {o:Oper} {sl sl':List SV} {ob:List (Nat × Obj)} {n:Nat} {C:Cfg R} {K K':St->Option R}
theorem uO (C:Cfg R) (T:TI) (v:SV):loadAt C ⟨sl',ob,n⟩ T v=loadAt C ⟨sl,ob,n⟩ T v:=rfl
theorem sL (v:SV):kv ⟨sl',ob,n⟩ v=kv ⟨sl,ob,n⟩ v:=rfl
theorem eZ (k:Nat):(⟨sl',ob,n⟩:St).obj k=(⟨sl,ob,n⟩:St).obj k:=rfl
theorem xL (e:Nat) (T:TI) (v:SV):kT ⟨sl',ob,n⟩ e T v=kT ⟨sl,ob,n⟩ e T v:=rfl
theorem si {s:St}:eO [] s=s:=rfl
theorem AM {ob:List (Nat × Obj)} {n k:Nat} (hk:lookup k ob=none) (hl:k<n) (h:Nm ob n) (o:Obj):mF ob (ob++[(k,o)])/\Nm (ob++[(k,o)]) n:=by
 refine ⟨fun t x hx=>by rw [fG,hx],fun t x hx => ?_⟩
 rw [fG] at hx
 cases e:lookup t ob with
 | some y=>exact h t y e
 | none =>
  rw [e] at hx
  by_cases et:t=k
  ·subst et;exact hl
  ·simp [et] at hx
theorem pR {d:Option Nat} {x:Obj} {f:Nat->SV} (hN:∀ (x:Obj) u,K (((⟨sl,ob,n⟩:St).new x).put d u)=K' (((⟨sl',ob,n⟩:St).new x).put d u))
  (hA:∀ k (x:Obj) u,lookup k ob=none->k<n->K (((⟨sl,ob,n⟩:St).newAt k x).put d u)=K' (((⟨sl',ob,n⟩:St).newAt k x).put d u)):iL C ⟨sl,ob,n⟩ d x f K=iL C ⟨sl',ob,n⟩ d x f K':=by
 unfold iL
 cases Nat.beq C.base 0 with
 | true=>exact hN _ _
 | false =>
  simp only [cond_false]
  show (bif ((⟨sl,ob,n⟩:St).obj (C.base+d.getD 0)).isNone&&(Nat.blt (C.base+d.getD 0) n&&Nat.ble 64 C.base) then _ else none)=(bif ((⟨sl',ob,n⟩:St).obj (C.base+d.getD 0)).isNone&&(Nat.blt (C.base+d.getD 0) n&&Nat.ble 64 C.base) then _ else none)
  rw [eZ (sl:=sl) (sl':=sl')]
  cases hc:(((⟨sl,ob,n⟩:St).obj (C.base+d.getD 0)).isNone&&(Nat.blt (C.base+d.getD 0) n&&Nat.ble 64 C.base)) with
  | false=>rfl
  | true =>
   simp only [Bool.and_eq_true,Option.isNone_iff_eq_none,Nat.blt_eq] at hc
   exact hA _ _ _ hc.1 hc.2.1
theorem U2 {lt:Bool} (hLt:lt=true->xQ C) (hev:∀ x∈o.op.operands,ev ⟨sl',ob,n⟩ x=ev ⟨sl,ob,n⟩ x)
  (hK:∀ u ob' n',(cls lt o<=1->ob'=ob/\n'=n)->(cls lt o<=2->Nm ob n->mF ob ob'/\Nm ob' n')->K ((⟨sl,ob',n'⟩:St).put o.dst u)=K' ((⟨sl',ob',n'⟩:St).put o.dst u)):df C true o ⟨sl,ob,n⟩ K=df C true o ⟨sl',ob,n⟩ K':=by
 have hK0:∀ u,K ((⟨sl,ob,n⟩:St).put o.dst u)=K' ((⟨sl',ob,n⟩:St).put o.dst u):=fun u=>hK u ob n (fun _=>⟨rfl,rfl⟩) (fun _ h=>⟨mF.refl _,h⟩)
 by_cases hc:cls lt o=0
 ·exact U0 hc hev hK0
 have h2:∀ (hcl:cls lt o=3) u ob' n',K ((⟨sl,ob',n'⟩:St).put o.dst u)=K' ((⟨sl',ob',n'⟩:St).put o.dst u):=fun hcl u ob' n'=>hK u ob' n' (fun h=>by omega) (fun h=>by omega)
 have hN:∀ (hcl:cls lt o=2) (x:Obj) u,K (((⟨sl,ob,n⟩:St).new x).put o.dst u)=K' (((⟨sl',ob,n⟩:St).new x).put o.dst u):=fun hcl x u=>hK u _ _ (fun h=>by omega) (fun _ h=>vA h x)
 cases ho:o.op <;> (try (exfalso;apply hc;unfold cls;rw [ho];done)) <;> (try (unfold df;simp only [ho];done))
 case makeMap t rr=>unfold df;simp only [ho];cases rr <;> rfl
 case mapUpdate t m i v=>unfold df;simp only [ho];rfl
 case lookup t x i ok =>
  have h1:=hev x (by rw [ho];simp [Op.operands])
  have h1':=hev i (by rw [ho];simp [Op.operands])
  unfold df;simp only [ho,h1,h1',eZ (sl:=sl) (sl':=sl'),hK0]
 case makeFunc fn first captured =>
  unfold df;simp only [ho]
  cases fn <;> rfl
 case alloc t =>
  replace hN:=hN (by unfold cls;rw [ho])
  have hA:∀ k (x:Obj) u,lookup k ob=none->k<n->K (((⟨sl,ob,n⟩:St).newAt k x).put o.dst u)=K' (((⟨sl',ob,n⟩:St).newAt k x).put o.dst u):=fun k x u hk hl=>hK u _ _ (fun h=>by rw [show cls lt o=2 by unfold cls;rw [ho]] at h;omega) (fun _ h=>AM hk hl h x)
  unfold df;simp only [ho]
  cases C.ty t with
  | none=>rfl
  | some T =>
   simp only
   cases mY C T with
   | some k=>exact pR hN hA
   | none =>
    simp only
    cases (T.lv.map iQ).all stands with
    | true=>simp only [cond_true];exact pR hN hA
    | false=>rfl
 case box t x =>
  replace hN:=hN (by unfold cls;rw [ho])
  have h1:=hev x (by rw [ho];simp [Op.operands])
  unfold df;simp only [ho,h1]
  cases C.ty t with
  | none=>rfl
  | some T=>simp only;generalize (Nat.beq (leaves (ev ⟨sl,ob,n⟩ x)).length T.sz&&(leaves (ev ⟨sl,ob,n⟩ x)).all known)=c;cases c with|true=>exact hN _ _|false=>rfl
 case buildSlice t m ps =>
  replace hN:=hN (by unfold cls;rw [ho])
  have h1:∀ p∈ps.toList,ev ⟨sl',ob,n⟩ p.2=ev ⟨sl,ob,n⟩ p.2:=fun p hp=>hev p.2 (by rw [ho];simp [Op.operands];exact ⟨p.1,by simpa using hp⟩)
  unfold df;simp only [ho]
  cases C.ty t with
  | none=>rfl
  | some S =>
   simp only
   cases S.sl with
   | false=>rfl
   | true =>
    simp only [Bool.not_true,cond_false]
    cases C.ty S.elem with
    | none=>rfl
    | some T =>
     simp only
     have e1:(ps.toList.flatMap fun p=>owns (leaves (ev ⟨sl',ob,n⟩ p.2)))=ps.toList.flatMap fun p=>owns (leaves (ev ⟨sl,ob,n⟩ p.2)):=by
      simp only [List.flatMap_def];rw [List.map_congr_left fun p hp=>by rw [h1 p hp]]
     rw [e1]
     generalize (ps.toList.flatMap fun p=>owns (leaves (ev ⟨sl,ob,n⟩ p.2)))=fz
     cases fz with
     | cons x r=>rfl
     | nil =>
      simp only [si,List.isEmpty_nil,Bool.not_true,Bool.and_false,cond_false]
      rw [List.map_congr_left h1]
      cases rowOf T (ps.toList.map fun p=>ev ⟨sl,ob,n⟩ p.2) with
      | none=>rfl
      | some p =>
       obtain ⟨l,st⟩:=p
       simp only
       generalize (Nat.beq l.length m&&decide (ps.toList.map (·.1)=List.range m)&&decide (m*T.sz<=1000000))=c
       cases c with|true=>exact hN _ _|false=>rfl
 case load t x =>
  have h1:=hev x (by rw [ho];simp [Op.operands])
  unfold df;simp only [ho,h1,uO (sl:=sl) (sl':=sl'),hK0]
 case store t x v =>
  replace h2:=h2 (by unfold cls;rw [ho])
  have h1:=hev x (by rw [ho];simp [Op.operands])
  have h1':=hev v (by rw [ho];simp [Op.operands])
  unfold df;simp only [ho,h1,h1']
  cases C.ty t with
  | none=>rfl
  | some T =>
   simp only
   generalize hx:ev ⟨sl,ob,n⟩ x=ax at *
   cases ax <;> try rfl
   case ptr k off =>
    simp only [eZ (sl:=sl) (sl':=sl')]
    cases (⟨sl,ob,n⟩:St).obj k with
    | none=>rfl
    | some z =>
     cases z <;> try rfl
     rename_i ty ls
     simp only
     generalize (Nat.beq (leaves (ev ⟨sl,ob,n⟩ v)).length T.sz&&(leaves (ev ⟨sl,ob,n⟩ v)).all known&&decide (off+T.sz<=ls.length))=c
     cases c with|true=>exact h2 _ _ _|false=>rfl
   case el k i off =>
    simp only
    generalize owns (leaves (ev ⟨sl,ob,n⟩ v))=fz
    cases fz with
    | cons y r=>rfl
    | nil =>
     simp only [si,List.isEmpty_nil,Bool.not_true,Bool.and_false,cond_false,hx,h1,h1',eZ (sl:=sl) (sl':=sl')]
     cases (⟨sl,ob,n⟩:St).obj k with
     | none=>rfl
     | some z =>
      cases z <;> try rfl
      rename_i e l st
      simp only
      cases C.ty e with
      | none=>rfl
      | some D =>
       simp only
       generalize (Nat.beq (leaves (ev ⟨sl,ob,n⟩ v)).length T.sz&&decide (off+T.sz<=D.sz)&&fitAll ((D.lv.drop off).take T.sz) (leaves (ev ⟨sl,ob,n⟩ v)))=c
       cases c with|true=>exact h2 _ _ _|false=>rfl
   case ap k n' =>
    simp only [eZ (sl:=sl) (sl':=sl')]
    cases (⟨sl,ob,n⟩:St).obj k with
    | none=>rfl
    | some z =>
     cases z <;> try rfl
     rename_i e l st
     cases mY C T with
     | none=>rfl
     | some kk =>
      simp only
      generalize (Nat.beq e T.elem&&Nat.beq n' T.sz)=c
      cases c with
      | false=>rfl
      | true =>
       simp only [cond_true]
       generalize ev ⟨sl,ob,n⟩ v=y
       cases y <;> try rfl
       ·rename_i vs
        simp only
        cases fitAll T.lv vs with|true=>exact h2 _ _ _|false=>rfl
       ·rename_i e' m' l'
        simp only
        generalize (Nat.beq e' e&&Nat.beq m' T.sz)=c
        cases c with|true=>exact h2 _ _ _|false=>rfl
 case convert f t x =>
  have h1:=hev x (by rw [ho];simp [Op.operands])
  unfold df;simp only [ho,h1]
  cases C.ty f with
  | none=>rfl
  | some F=>cases C.ty t with
   | none=>rfl
   | some T =>
    simp only
    cases !(!F.agg && !T.agg) with
    | true=>rfl
    | false =>
     simp only [cond_false]
     split <;> first|exact hK0 _|exact tn (fun k _=>eZ k) hK0
 case indexAddr t x i =>
  have h1:=hev x (by rw [ho];simp [Op.operands])
  have h1':=hev i (by rw [ho];simp [Op.operands])
  unfold df;simp only [ho,h1,h1',eZ (sl:=sl) (sl':=sl'),hK0]
 case slice t x lo hi mx =>
  cases mx with
  | some m=>unfold df;simp only [ho]
  | none =>
   have h1:=hev x (by rw [ho];simp [Op.operands])
   have hb:bounds ⟨sl',ob,n⟩ (ev ⟨sl,ob,n⟩ x) lo hi=bounds ⟨sl,ob,n⟩ (ev ⟨sl,ob,n⟩ x) lo hi:=by
    unfold bounds
    rw [sL (sl:=sl) (sl':=sl')]
    cases kv ⟨sl,ob,n⟩ (ev ⟨sl,ob,n⟩ x) with
    | none=>rfl
    | some z =>
     cases lo with
     | none=>cases hi with
      | none=>rfl
      | some b=>simp only [hev b (by rw [ho];simp [Op.operands])]
     | some b=>cases hi with
      | none=>simp only [hev b (by rw [ho];simp [Op.operands])]
      | some d=>simp only [hev b (by rw [ho];simp [Op.operands]),hev d (by rw [ho];simp [Op.operands])]
   unfold df;simp only [ho,h1,hb,eZ (sl:=sl) (sl':=sl'),hK0]
 case range t x =>
  replace hN:=hN (by unfold cls;rw [ho])
  have h1:=hev x (by rw [ho];simp [Op.operands])
  unfold df;simp only [ho,h1]
  cases C.ty t with
  | none=>rfl
  | some T =>
   generalize ev ⟨sl,ob,n⟩ x=y
   cases y <;> try rfl
   simp only
   cases kq T with
   | false=>rfl
   | true=>exact hN _ _
 case next x b=>cases b <;> unfold df <;> simp only [ho] <;> rfl
 case call c =>
  unfold df;simp only [ho]
  cases hcal:c.callee with
  | invoke x m=>rfl
  | value f =>
   have h1:=hev f (by rw [ho];simp [Op.operands,Call.operands,hcal])
   simp only [h1]
   generalize ev ⟨sl,ob,n⟩ f=y
   cases y <;> try rfl
   rename_i g
   dsimp only
   cases C.mv g with
   | true=>rfl
   | false =>
   simp only [cond_false]
   cases lt with
   | true=>exact rS (hLt rfl) (fun x hx=>hev x (by rw [ho];simp [Op.operands,Call.operands,hcal];exact .inr (by simpa using hx))) fun u ob' n' h=>hK u ob' n' (fun hc1=>by unfold cls at hc1;simp [ho,hcal] at hc1) (fun _=>h)
   | false =>
    replace h2:=h2 (by unfold cls;simp only [ho,hcal];rfl)
    exact wH (fun x hx=>hev x (by rw [ho];simp [Op.operands,Call.operands,hcal];exact .inr (by simpa using hx))) h2
  | builtin b =>
   simp only
   have h1:∀ x∈c.args.toList,ev ⟨sl',ob,n⟩ x=ev ⟨sl,ob,n⟩ x:=fun x hx=>hev x (by rw [ho];simp [Op.operands,Call.operands,hcal];simpa using hx)
   unfold cN
   generalize c.args.toList=l at h1
   generalize c.argTypes.toList=ts
   match l,h1 with
   | [],_=>cases b <;> rfl
   | [x],h1 =>
    have a1:=h1 x (by simp)
    cases b <;> try rfl
    case len=>simp only [a1,sL (sl:=sl) (sl':=sl'),hK0]
    case unsafeSliceData=>simp only [a1,fK,eZ (sl:=sl) (sl':=sl'),hK0]
   | [x,y],h1 =>
    have a1:=h1 x (by simp);have a2:=h1 y (by simp)
    cases b <;> try rfl
    case append =>
     simp only [a1,a2]
     split
     ·unfold qC
      simp only [xL (sl:=sl) (sl':=sl'),cond_true]
     ·rfl
    case max=>simp only [a1,a2,hK0]
    case min=>simp only [a1,a2,hK0]
    case unsafeString =>
     replace h2:=h2 (by unfold cls;simp only [ho,hcal])
     have h3:∀ k u,K (((⟨sl,ob,n⟩:St).setObj k .hole).put o.dst u)=K' (((⟨sl',ob,n⟩:St).setObj k .hole).put o.dst u):=fun k u=>h2 u _ _
     simp only [a1,a2,rE,eZ (sl:=sl) (sl':=sl'),hK0,h3]
   | _::_::_::_,_=>cases b <;> rfl
end
end Go.Proofs.Ab
namespace Go.Proofs.Ab
open Go
variable {R:Type}
section
variable {o:Oper} {s:St} {C:Cfg R} {K:St->Option R} {q:Bool} {r:R}
theorem yj {op:BinOp} {k:IntKind} {x y:Int} {κ : SV->Option R} (h:wC op k x y κ = some r):∃ v,∀ κ':SV->Option R,wC op k x y κ'=κ' v:=by
 cases op <;> simp only [wC] at h ⊢ <;> first
  | exact ⟨_,fun _=>rfl⟩
  | (obtain ⟨h0,_⟩:=b8 h;exact ⟨_,fun κ'=>by rw [h0];rfl⟩)
  | cases h
theorem Bp {op:BinOp} {k:IntKind} {x y:Int} {κ : SV->Option R} (h:Dk op k x y κ = some r):∃ v,∀ κ':SV->Option R,Dk op k x y κ'=κ' v:=by
 cases op <;> simp only [Dk] at h ⊢ <;> first
  | exact ⟨_,fun _=>rfl⟩
  | (obtain ⟨h0,_⟩:=b8 h;exact ⟨_,fun κ'=>by rw [h0];rfl⟩)
  | cases h
theorem yk {op:BinOp} {x y:ByteArray} {κ : SV->Option R} (h:tU op x y κ = some r):∃ v,∀ κ':SV->Option R,tU op x y κ'=κ' v:=by
 cases op <;> simp only [tU] at h ⊢ <;> first
  | exact ⟨_,fun _=>rfl⟩
  | (obtain ⟨h0,_⟩:=b8 h;exact ⟨_,fun κ'=>by rw [h0];rfl⟩)
  | cases h
theorem ym {ek:Nat} {lv:List LK} {op:BinOp} {x y:SV} {κ : SV->Option R} (h:wD ek lv op x y κ = some r):∃ v,∀ κ':SV->Option R,wD ek lv op x y κ'=κ' v:=by
 unfold wD at h ⊢
 split at h
 ·rename_i k a k' b
  cases hs:ze op with
  | true =>
   rw [hs] at h;simp only [cond_true] at h ⊢
   exact Bp h
  | false =>
   rw [hs] at h;simp only [cond_false] at h ⊢
   obtain ⟨h0,h⟩:=bD h
   rw [h0];exact yj h
 ·exact yk h
 ·obtain ⟨h0,h⟩:=bD h
  simp only [h0,cond_true]
  split at h
  ·exact ⟨_,fun _=>rfl⟩
  ·exact ⟨_,fun _=>rfl⟩
  ·cases h
 ·obtain ⟨h0,h⟩:=bD h
  simp only [h0,cond_true]
  split at h
  ·rename_i hc;exact ⟨_,fun _=>rfl⟩
  ·rename_i hc;exact ⟨_,fun _=>rfl⟩
  ·cases h
 ·cases h
theorem Bz {op:UnOp} {x:SV} {κ : SV->Option R} (h:DI op x κ = some r):∃ v,∀ κ':SV->Option R,DI op x κ'=κ' v:=by
 unfold DI at h ⊢
 split at h
 ·exact ⟨_,fun _=>rfl⟩
 ·exact ⟨_,fun _=>rfl⟩
 ·cases h
theorem dM {i n:Int} {k:Option R} (h:cO i n k=some r):(decide (0<=i)&&decide (i<n))=true/\k=some r:=b8 h
theorem jC {a b n:Int} {k:Option R} (h:fC a b n k=some r):(decide (0<=a)&&(decide (a<=b)&&decide (b<=n)))=true/\k=some r:=b8 h
theorem cM {b:Bool} (h:b=true) (k:Option R):bW b k=k:=by rw [h];rfl
theorem n9 {agg:Bool} {sz:Nat} {i:Int} {κ : SV->Option R}:∀ {n:Nat} {l:List SV} {j:Nat},jF agg sz n l j i κ = some r->∃ v,∀ κ':SV->Option R,jF agg sz n l j i κ'=κ' v
 | 0,_,_,h=>by cases h
 | n+1,l,j,h=>by
  unfold jF at h ⊢
  cases hc:(i == (j:Int)) with
  | true =>
   rw [hc] at h;simp only [cond_true] at h ⊢
   split at h
   ·rename_i v hv;exact ⟨v,fun _=>rfl⟩
   ·cases h
  | false =>
   rw [hc] at h;simp only [cond_false] at h ⊢
   exact n9 h
theorem wc {lt:Bool} (hc:cls lt o<=1) (h:df C true o s K=some r):∃ u,∀ K':St->Option R,df C true o s K'=K' (s.put o.dst u):=by
 unfold df at h ⊢
 cases ho:o.op <;> (try (exfalso;revert hc;unfold cls;rw [ho];simp;done)) <;> simp only [ho] at h ⊢
 case move x=>exact ⟨_,fun _=>rfl⟩
 case assign x=>exact ⟨_,fun _=>rfl⟩
 case pick c x y =>
  split at h
  ·rename_i t ht
   cases t with
   | true=>exact ⟨ev s x,fun _=>rfl⟩
   | false=>exact ⟨ev s y,fun _=>rfl⟩
  ·cases h
 case build t ps =>
  split at h
  ·rename_i T hT
   by_cases hc:(T.agg&&(T.flds.isEmpty && !(Nat.beq T.elem 0)))=true
   ·simp only [hT,hc,cond_true] at h ⊢
    split at h
    ·rename_i D hD
     split at h
     ·rename_i l hl;exact ⟨_,fun K'=>by first|rfl|simp only [hD,hl]⟩
     ·cases h
    ·cases h
   have hc':(T.agg&&(T.flds.isEmpty && !(Nat.beq T.elem 0)))=false:=by simpa using hc
   simp only [hT,hc',cond_false] at h ⊢
   split at h
   ·rename_i l hl
    obtain ⟨h0,h⟩:=bD h
    exact ⟨_,fun K'=>by first|rfl|(simp only [hT,hl,h0,cond_true];rfl)|simp only [hT,hl,h0,cond_true]⟩
   ·cases h
  ·cases h
 case load t x =>
  split at h
  ·rename_i T hT
   split at h
   ·rename_i v hv;exact ⟨_,fun K'=>by first|rfl|(simp only [hT,hv];rfl)|simp only [hT,hv]⟩
   ·cases h
  ·cases h
 case nilCheck x =>
  split at h
  ·rename_i t n hx;exact ⟨_,fun K'=>by first|rfl|(simp only [hx];rfl)|simp only [hx]⟩
  ·rename_i e n l st hx;exact ⟨_,fun K'=>by first|rfl|(simp only [hx];rfl)|simp only [hx]⟩
  ·rename_i t off hx;exact ⟨_,fun K'=>by first|rfl|(simp only [hx];rfl)|simp only [hx]⟩
  ·rename_i t i off hx;exact ⟨_,fun K'=>by first|rfl|(simp only [hx];rfl)|simp only [hx]⟩
  ·rename_i e l st i off hx;exact ⟨_,fun K'=>by first|rfl|(simp only [hx];rfl)|simp only [hx]⟩
  ·cases h
 case binOp op t x y u =>
  cases hn:qV op (ev s x) (ev s y) with
  | true=>rw [hn] at h;cases h
  | false=>rw [hn] at h;obtain ⟨v,hv⟩:=ym h;exact ⟨v,fun K'=>hv _⟩
 case unOp op t x =>
  obtain ⟨v,hv⟩:=Bz h;exact ⟨v,fun K'=>hv _⟩
 case convert f t x =>
  split at h
  ·rename_i F T hF hT
   obtain ⟨h0,h⟩:=eo h
   split at h
   ·rename_i e1 e2 e3;exact ⟨_,fun K'=>by first|rfl|(simp only [h0,cond_false,hF,hT,e1,e2,e3];rfl)|simp only [h0,cond_false,hF,hT,e1,e2,e3]⟩
   ·rename_i e1 e2 e3;exact ⟨_,fun K'=>by first|rfl|(simp only [h0,cond_false,hF,hT,e1,e2,e3];rfl)|simp only [h0,cond_false,hF,hT,e1,e2,e3]⟩
   ·rename_i e1 e2 e3;exact ⟨_,fun K'=>by first|rfl|(simp only [h0,cond_false,hF,hT,e1,e2,e3];rfl)|simp only [h0,cond_false,hF,hT,e1,e2,e3]⟩
   ·simp only [cond_true] at h
    obtain ⟨u,hu⟩:=zG h
    refine ⟨u,fun K' => ?_⟩
    simp only [h0,cond_false]
    exact hu K'
  ·cases h
 case slice t x lo hi mx =>
  cases mx with
  | some m=>cases h
  | none =>
   simp only at h ⊢
   split at h
   ·rename_i T a b hT hb
    obtain ⟨h0,h⟩:=eo h
    split at h
    ·rename_i bs e
     rw [e] at h0
     obtain ⟨h1,h⟩:=jC h
     exact ⟨_,fun K'=>by first|rfl|(simp only [hT,hb,h0,cond_false,e,fC,cM h1];rfl)|simp only [hT,hb,h0,cond_false,e,fC,cM h1]⟩
    ·rename_i el l st e
     rw [e] at h0
     obtain ⟨h2,h⟩:=bD h
     obtain ⟨h1,h⟩:=jC h
     exact ⟨_,fun K'=>by first|rfl|(simp only [hT,hb,h0,h2,cond_true,cond_false,e,fC,cM h1];rfl)|simp only [hT,hb,h0,h2,cond_true,cond_false,e,fC,cM h1]⟩
    ·rename_i k e
     rw [e] at h0
     split at h
     ·rename_i el l st hob
      obtain ⟨h2,h⟩:=bD h
      obtain ⟨h1,h⟩:=jC h
      exact ⟨_,fun K'=>by first|rfl|(simp only [hT,hb,h0,h2,hob,cond_true,cond_false,e,fC,cM h1];rfl)|simp only [hT,hb,h0,h2,hob,cond_true,cond_false,e,fC,cM h1]⟩
     ·cases h
    ·cases h
   ·cases h
 case fieldAddr st x f =>
  split at h
  ·rename_i T hT
   split at h
   ·rename_i e1 e2
    obtain ⟨h0,h⟩:=eo h
    exact ⟨_,fun K'=>by first|rfl|(simp only [hT,e1,e2,h0,cond_false];rfl)|simp only [hT,e1,e2,h0,cond_false]⟩
   ·rename_i e1 e2
    obtain ⟨h0,h⟩:=eo h
    exact ⟨_,fun K'=>by first|rfl|(simp only [hT,e1,e2,h0,cond_false];rfl)|simp only [hT,e1,e2,h0,cond_false]⟩
   ·rename_i e1 e2
    obtain ⟨h0,h⟩:=eo h
    exact ⟨_,fun K'=>by first|rfl|(simp only [hT,e1,e2,h0,cond_false];rfl)|simp only [hT,e1,e2,h0,cond_false]⟩
   ·cases h
  ·cases h
 case field st x f =>
  split at h
  ·rename_i T hT
   split at h
   ·rename_i e1 e2
    split at h
    ·rename_i v hv
     obtain ⟨h0,h⟩:=bD h
     exact ⟨_,fun K'=>by first|rfl|(simp only [hT,e1,e2,hv,h0,cond_true];rfl)|simp only [hT,e1,e2,hv,h0,cond_true]⟩
    ·cases h
   ·cases h
  ·cases h
 case indexAddr t x i =>
  split at h
  ·rename_i S hS
   by_cases hsl:S.sl=false
   ·simp only [hS,hsl,Bool.not_false,cond_true] at h ⊢
    split at h
    ·rename_i e1 e2 e3
     split at h
     ·rename_i el l st hob
      obtain ⟨h2,h⟩:=bD h
      obtain ⟨h1,h⟩:=dM h
      exact ⟨_,fun K'=>by first|rfl|(simp only [e1,e2,e3,hob,h2,cond_true,cO,cM h1];rfl)|simp only [e1,e2,e3,hob,h2,cond_true,cO,cM h1]⟩
     ·cases h
    ·rename_i e1 e2 e3
     obtain ⟨h2,h⟩:=bD h
     obtain ⟨h1,h⟩:=dM h
     exact ⟨_,fun K'=>by first|rfl|(simp only [e1,e2,e3,h2,cond_true,cO,cM h1];rfl)|simp only [e1,e2,e3,h2,cond_true,cO,cM h1]⟩
    ·cases h
   have h0:(!S.sl)=false:=by simpa using hsl
   simp only [h0,cond_false] at h
   split at h
   ·rename_i T k j hT hj
    split at h
    ·rename_i tt e
     split at h
     ·rename_i el l st hob
      obtain ⟨h2,h⟩:=bD h
      obtain ⟨h1,h⟩:=dM h
      exact ⟨_,fun K'=>by first|rfl|(simp only [hS,h0,cond_false,hT,hj,e,hob,h2,cond_true,cO,cM h1];rfl)|simp only [hS,h0,cond_false,hT,hj,e,hob,h2,cond_true,cO,cM h1]⟩
     ·cases h
    ·rename_i tt lo hi e
     split at h
     ·rename_i el l st hob
      obtain ⟨h2,h⟩:=bD h
      obtain ⟨h1,h⟩:=dM h
      exact ⟨_,fun K'=>by first|rfl|(simp only [hS,h0,cond_false,hT,hj,e,hob,h2,cond_true,cO,cM h1];rfl)|simp only [hS,h0,cond_false,hT,hj,e,hob,h2,cond_true,cO,cM h1]⟩
     ·cases h
    ·rename_i el l st e
     obtain ⟨h2,h⟩:=bD h
     obtain ⟨h1,h⟩:=dM h
     exact ⟨_,fun K'=>by first|rfl|(simp only [hS,h0,cond_false,hT,hj,e,h2,cond_true,cO,cM h1];rfl)|simp only [hS,h0,cond_false,hT,hj,e,h2,cond_true,cO,cM h1]⟩
    ·cases h
   ·cases h
  ·cases h
 case index t x i =>
  split at h
  ·rename_i e1 e2 e3
   obtain ⟨h2,h⟩:=bD h
   obtain ⟨h1,h⟩:=dM h
   exact ⟨_,fun K'=>by first|rfl|(simp only [e1,e2,e3,h2,cond_true,cO,cM h1];rfl)|simp only [e1,e2,e3,h2,cond_true,cO,cM h1]⟩
  ·rename_i e1 e2 e3
   split at h
   ·rename_i k hk
    obtain ⟨h2,h⟩:=bD h
    obtain ⟨h1,h⟩:=dM h
    exact ⟨_,fun K'=>by first|rfl|(simp only [e1,e2,e3,hk,h2,cond_true,cO,cM h1];rfl)|simp only [e1,e2,e3,hk,h2,cond_true,cO,cM h1]⟩
   ·cases h
  ·rename_i e1 e2 e3
   obtain ⟨h0,h⟩:=bD h
   split at h
   ·rename_i D hD
    obtain ⟨h2,h⟩:=bD h
    obtain ⟨v,hv⟩:=n9 h
    exact ⟨v,fun K'=>by simp only [e1,e2,e3,h0,hD,h2,cond_true,hv]⟩
   ·cases h
  ·cases h
 case extract x j =>
  split at h
  ·rename_i e
   obtain ⟨h2,h⟩:=bD h
   exact ⟨_,fun K'=>by first|rfl|(simp only [e,h2,cond_true];rfl)|simp only [e,h2,cond_true]⟩
  ·cases h
 case call c =>
  cases hcal:c.callee with
  | invoke x m=>rw [hcal] at h;cases h
  | value f=>exfalso;revert hc;unfold cls;cases lt <;> simp [ho,hcal]
  | builtin b =>
   rw [hcal] at h;simp only at h ⊢
   unfold cN at h ⊢
   split at h
   ·rename_i x hl
    split at h
    ·rename_i t ts hts
     split at h
     ·rename_i e1 e2
      obtain ⟨h2,h⟩:=bD h
      exact ⟨_,fun K'=>by first|rfl|(simp only [hl,hts,e1,e2,h2,cond_true];rfl)|simp only [hl,hts,e1,e2,h2,cond_true]⟩
     ·cases h
    ·cases h
   ·exfalso;revert hc;unfold cls;simp [ho,hcal]
   ·rename_i hl
    split at h
    ·rename_i e1 e2;exact ⟨_,fun K'=>by first|rfl|(simp only [hl,e1,e2];rfl)|simp only [hl,e1,e2]⟩
    ·cases h
   ·rename_i hl
    split at h
    ·rename_i e1 e2;exact ⟨_,fun K'=>by first|rfl|(simp only [hl,e1,e2];rfl)|simp only [hl,e1,e2]⟩
    ·cases h
   ·rename_i x hl
    unfold fK at h ⊢
    split at h
    ·rename_i e;exact ⟨_,fun K'=>by first|rfl|(simp only [e];rfl)|simp only [e]⟩
    ·rename_i t e
     split at h
     ·rename_i e1 e2
      obtain ⟨h2,h⟩:=bD h
      exact ⟨_,fun K'=>by first|rfl|(simp only [e,e1,e2,h2,cond_true];rfl)|simp only [e,e1,e2,h2,cond_true]⟩
     ·cases h
    ·cases h
   ·exfalso;revert hc;unfold cls;simp [ho,hcal]
   ·cases h
end
end Go.Proofs.Ab
namespace Go.Proofs.Ab
open Go
variable {R:Type}
theorem xD (l:List SV) {i j:Nat} (h:i≠j) (u v:SV):fp (fp l i u) j v=fp (fp l j v) i u:=by
 induction l generalizing i j with
 | nil=>rfl
 | cons x r ih =>
  cases i with
  | zero=>cases j with
   | zero=>exact absurd rfl h
   | succ j=>rfl
  | succ i=>cases j with
   | zero=>rfl
   | succ j=>simp only [fp];rw [ih (by omega)]
theorem put_comm (s:St) {d d':Option Nat} (h:∀ x,d=some x->d'≠some x) (u v:SV):(s.put d u).put d' v=(s.put d' v).put d u:=by
 cases d with
 | none=>rfl
 | some i=>cases d' with
  | none=>rfl
  | some j =>
   have:i≠j:=fun e=>h i rfl (by rw [e])
   simp only [St.put];rw [xD _ this]
section
variable {ops:Array Oper} {o x y:Oper} {s s':St} {sl sl':List SV} {ob:List (Nat × Obj)} {n:Nat} {C:Cfg R} {K K':St->Option R} {r:R}
theorem sS {t:Nat} (h:Operand.tmp t∈o.op.operands):t∈looks ops.toList o:=by
 unfold looks
 refine List.mem_append_left _ (List.mem_filterMap.2 ⟨.tmp t,by simpa using h,rfl⟩)
theorem fX {j d:Nat} {b:Bool} (h:o.guard=some (j,b)) (hd:uA ops j=some d):d∈looks ops.toList o:=by
 unfold looks
 refine List.mem_append_right _ ?_
 rw [h];unfold uA at hd
 simp [hd]
theorem yM (h:∀ t∈looks ops.toList o,s'.get t=s.get t):∀ x∈o.op.operands,ev s' x=ev s x:=by
 intro x hx
 cases x with
 | tmp t=>exact h t (sS hx)
 | const v=>unfold ev;split <;> first|rfl|contradiction
 | _=>rfl
theorem V2 {lt:Bool} (hLt:lt=true->xQ C) (h:∀ t∈looks ops.toList o,dE sl' t=dE sl t)
  (hK:∀ u ob' n',(cls lt o<=1->ob'=ob/\n'=n)->(cls lt o<=2->Nm ob n->mF ob ob'/\Nm ob' n')->K ((⟨sl,ob',n'⟩:St).put o.dst u)=K' ((⟨sl',ob',n'⟩:St).put o.dst u)):cq C true ops o ⟨sl,ob,n⟩ K=cq C true ops o ⟨sl',ob,n⟩ K':=by
 have hu:=U2 (C:=C) hLt (yM (s:=⟨sl,ob,n⟩) (s':=⟨sl',ob,n⟩) h) hK
 rw [c9,c9]
 cases hg:o.guard with
 | none=>exact hu
 | some g =>
  obtain ⟨j,want⟩:=g
  simp only
  cases hd:uA ops j with
  | none=>rfl
  | some d =>
   have e:(⟨sl',ob,n⟩:St).get d=(⟨sl,ob,n⟩:St).get d:=h d (fX hg hd)
   simp only [e]
   cases (⟨sl,ob,n⟩:St).get d <;> try rfl
   ·exact hK _ _ _ (fun _=>⟨rfl,rfl⟩) (fun _ h=>⟨mF.refl _,h⟩)
   ·simp only
    split
    ·exact hu
    ·exact hK _ _ _ (fun _=>⟨rfl,rfl⟩) (fun _ h=>⟨mF.refl _,h⟩)
theorem V0 {lt:Bool} (hc:cls lt o=0) (h:∀ t∈looks ops.toList o,s'.get t=s.get t) (hK:∀ u,K (s.put o.dst u)=K' (s'.put o.dst u)):cq C true ops o s K=cq C true ops o s' K':=by
 have hu:=U0 (C:=C) hc (yM h) hK
 rw [c9,c9]
 cases hg:o.guard with
 | none=>exact hu
 | some g =>
  obtain ⟨j,want⟩:=g
  simp only
  cases hd:uA ops j with
  | none=>rfl
  | some d =>
   have e:s'.get d=s.get d:=h d (fX hg hd)
   simp only [e]
   cases s.get d <;> try rfl
   ·exact hK _
   ·simp only
    split
    ·exact hu
    ·exact hK _
def BD (C:Cfg R) (ops:Array Oper) (o:Oper) (s:St) (u:SV):Prop:=∀ K:St->Option R,cq C true ops o s K=K (s.put o.dst u)
theorem V1 {lt:Bool} (hc:cls lt o<=1) (h:∀ t∈looks ops.toList o,s'.get t=s.get t) (hsame:∀ t∈looks ops.toList o,∀ k,tok (s.get t)=some k->s'.obj k=s.obj k) (hK:∀ u,K (s.put o.dst u)=K' (s'.put o.dst u)):cq C true ops o s K=cq C true ops o s' K':=by
 have hu:=U1 (C:=C) hc (yM h) (fun x hx k hk=>by
  cases x with
  | tmp t=>exact hsame t (sS hx) k hk
  | const v=>exfalso;unfold ev at hk;split at hk <;> simp_all [tok]
  | _=>cases hk) hK
 rw [c9,c9]
 cases hg:o.guard with
 | none=>exact hu
 | some g =>
  obtain ⟨j,want⟩:=g
  simp only
  cases hd:uA ops j with
  | none=>rfl
  | some d =>
   have e:s'.get d=s.get d:=h d (fX hg hd)
   simp only [e]
   cases s.get d <;> try rfl
   ·exact hK _
   ·simp only
    split
    ·exact hu
    ·exact hK _
theorem lP {lt:Bool} (hc:cls lt o<=1) (h:cq C true ops o s K=some r):∃ u,BD C ops o s u:=by
 unfold BD
 rw [c9] at h
 simp only [c9]
 cases hg:o.guard with
 | none=>rw [hg] at h;exact wc hc h
 | some g =>
  obtain ⟨j,want⟩:=g
  rw [hg] at h;simp only at h ⊢
  cases hd:uA ops j with
  | none=>rw [hd] at h;cases h
  | some d =>
   rw [hd] at h;simp only at h ⊢
   cases hv:s.get d <;> rw [hv] at h <;> try (cases h;done)
   ·exact ⟨_,fun _=>rfl⟩
   ·simp only at h ⊢
    rename_i t
    by_cases e:t=want
    ·simp only [e,if_true] at h ⊢;exact wc hc h
    ·simp only [e,if_false] at h ⊢;exact ⟨_,fun _=>rfl⟩
structure rJ (ops:Array Oper) (x y:Oper):Prop where
 xl:∀ d,x.dst=some d->d ∉ looks ops.toList y
 yl:∀ d,y.dst=some d->d ∉ looks ops.toList x
 ne:∀ d,x.dst=some d->y.dst≠some d
theorem rJ.symm (h:rJ ops x y):rJ ops y x:=⟨h.yl,h.xl,fun d h1 h2=>h.ne d h2 h1⟩
theorem apart_spec {lt:Bool} (h:apart lt ops.toList x y=true):rJ ops x y/\(cls lt x=0∨cls lt y=0∨(cls lt x<=1/\cls lt y<=2)∨(cls lt x<=2/\cls lt y<=1)):=by
 unfold apart at h
 simp only [Bool.and_eq_true,Bool.or_eq_true] at h
 obtain ⟨⟨h1,h2⟩,h3⟩:=h
 refine ⟨⟨fun d hd hin => ?_,fun d hd hin => ?_,fun d hd hy => ?_⟩,?_⟩
 ·rw [hd] at h2
  simp only [Bool.and_eq_true,Bool.not_eq_true',List.any_eq_false] at h2
  exact h2.1 d hin (Nat.beq_refl d)
 ·rw [hd] at h3
  simp only [Bool.not_eq_true',List.any_eq_false] at h3
  exact h3 d hin (Nat.beq_refl d)
 ·rw [hd] at h2
  simp only [Bool.and_eq_true,Bool.not_eq_true',List.any_eq_false] at h2
  exact h2.2 d (by rw [hy];simp) (Nat.beq_refl d)
 ·rcases h1 with ((h1|h1)|h1)|h1
  ·exact .inl (Nat.eq_of_beq_eq_true h1)
  ·exact .inr (.inl (Nat.eq_of_beq_eq_true h1))
  ·exact .inr (.inr (.inl ⟨Nat.le_of_ble_eq_true h1.1,Nat.le_of_ble_eq_true h1.2⟩))
  ·exact .inr (.inr (.inr ⟨Nat.le_of_ble_eq_true h1.1,Nat.le_of_ble_eq_true h1.2⟩))
theorem fB {d:Option Nat} {v:SV} {t:Nat} (h:d≠some t):(s.put d v).get t=s.get t:=by
 cases d with
 | none=>rfl
 | some d =>
  simp only [St.put,St.get,px]
  rw [if_neg]
  rintro ⟨e,_⟩;exact h (by rw [e])
theorem frame {lt:Bool} (hLt:lt=true->xQ C) (hK:∀ u ob' n',(cls lt o<=1->ob'=s.objs/\n'=s.next)->(cls lt o<=2->Nm s.objs s.next->mF s.objs ob'/\Nm ob' n')->K ((⟨s.slots,ob',n'⟩:St).put o.dst u)=K' ((⟨s.slots,ob',n'⟩:St).put o.dst u)):cq C true ops o s K=cq C true ops o s K' :=
 V2 (sl:=s.slots) (sl':=s.slots) (ob:=s.objs) (n:=s.next) hLt (fun _ _=>rfl) hK
theorem Db (s:St) (d:Option Nat) (v:SV):s.put d v=⟨(s.put d v).slots,s.objs,s.next⟩:=by cases d <;> rfl
theorem nW (s:St) (ob:List (Nat × Obj)) (n:Nat) (d:Option Nat) (v:SV):(⟨(s.put d v).slots,ob,n⟩:St)=(⟨s.slots,ob,n⟩:St).put d v:=by cases d <;> rfl
theorem gL {lt:Bool} (hLt:lt=true->xQ C) (h:rJ ops x y) (v:SV):cq C true ops x (s.put y.dst v) K=cq C true ops x s (fun s1=>K (s1.put y.dst v)):=by
 rw [Db s y.dst v]
 refine (V2 (sl:=s.slots) (sl':=(s.put y.dst v).slots) (ob:=s.objs) (n:=s.next) hLt (fun t ht => ?_) (fun u ob' n' _ _ => ?_)).symm
 ·exact fB (s:=s) (fun e=>h.yl t e ht)
 ·rw [nW,put_comm _ (fun d hd=>h.ne d hd)]
def Tk (ops:Array Oper) (y:Oper) (s:St):Prop:=∀ t∈looks ops.toList y,∀ k,tok (s.get t)=some k->∃ o,s.obj k=some o
theorem Tk.after (h:rJ ops x y) (ht:Tk ops y s) {ob':List (Nat × Obj)} {n':Nat} (he:mF s.objs ob') (v:SV):Tk ops y ((⟨s.slots,ob',n'⟩:St).put x.dst v)/\(∀ t∈looks ops.toList y,((⟨s.slots,ob',n'⟩:St).put x.dst v).get t=s.get t)/\∀ t∈looks ops.toList y,∀ k,tok (s.get t)=some k->((⟨s.slots,ob',n'⟩:St).put x.dst v).obj k=s.obj k:=by
 have gets:∀ t∈looks ops.toList y,((⟨s.slots,ob',n'⟩:St).put x.dst v).get t=s.get t:=fun t ht=>fB (s:=⟨s.slots,ob',n'⟩) (fun e=>h.xl t e ht)
 have objs:∀ k,((⟨s.slots,ob',n'⟩:St).put x.dst v).obj k=lookup k ob':=fun k=>by
  cases x.dst <;> rfl
 have same:∀ t∈looks ops.toList y,∀ k,tok (s.get t)=some k->((⟨s.slots,ob',n'⟩:St).put x.dst v).obj k=s.obj k:=fun t htl k hk=>by
  obtain ⟨o,ho⟩:=ht t htl k hk
  rw [objs,ho];exact he k o ho
 refine ⟨fun t htl k hk => ?_,gets,same⟩
 rw [gets t htl] at hk
 rw [same t htl k hk];exact ht t htl k hk
theorem ph {lt:Bool} (h:rJ ops x y) (hc:cls lt y<=1) (ht:Tk ops y s) {u v:SV} (hd:BD C ops y s u) {ob':List (Nat × Obj)} {n':Nat} (he:mF s.objs ob'):BD C ops y ((⟨s.slots,ob',n'⟩:St).put x.dst v) u:=by
 intro K
 obtain ⟨_,gets,same⟩:=ht.after (n':=n') h he v
 have key:∀ u',(fun s2:St=>K ((⟨s2.slots,ob',n'⟩:St).put x.dst v)) (s.put y.dst u')=K (((⟨s.slots,ob',n'⟩:St).put x.dst v).put y.dst u'):=by
  intro u'
  show K ((⟨(s.put y.dst u').slots,ob',n'⟩:St).put x.dst v)=_
  rw [nW,put_comm _ (fun d hd=>h.symm.ne d hd)]
 exact ((V1 (C:=C) hc gets same key).symm.trans (hd (fun s2:St=>K ((⟨s2.slots,ob',n'⟩:St).put x.dst v)))).trans (key u)
theorem uX {lt:Bool} (h:rJ ops x y) (hc:cls lt y<=1) (ht:Tk ops y s) {v:SV} (hd:∀ K:St->Option R,cq C true ops y s K=none) {ob':List (Nat × Obj)} {n':Nat} (he:mF s.objs ob'):∀ K:St->Option R,cq C true ops y ((⟨s.slots,ob',n'⟩:St).put x.dst v) K=none:=by
 intro K
 obtain ⟨_,gets,same⟩:=ht.after (n':=n') h he v
 refine (V1 (C:=C) (K:=fun s2:St=>K ((⟨s2.slots,ob',n'⟩:St).put x.dst v)) hc gets same fun u' => ?_).symm.trans (hd _)
 show K ((⟨(s.put y.dst u').slots,ob',n'⟩:St).put x.dst v)=_
 rw [nW,put_comm _ (fun d hd=>h.symm.ne d hd)]
theorem kK (s:St) (d:Option Nat) (v:SV):(s.put d v).objs=s.objs/\(s.put d v).next=s.next:=by cases d <;> exact ⟨rfl,rfl⟩
theorem BU {lt:Bool} (hLt:lt=true->xQ C) (hc:cls lt y<=1) {u:SV} {ys:List Oper} {κ : St->Option R}:∀ (xs:List Oper) {s:St},(∀ x∈xs,rJ ops x y/\cls lt x<=2)->Tk ops y s->Nm s.objs s.next->BD C ops y s u->dD C true ops (xs++y::ys) s κ = dD C true ops (xs++ys) (s.put y.dst u) κ
 | [],s,_,_,_,hd=>hd _
 | x::xs,s,ha,ht,hn,hd=>by
  obtain ⟨hx,hcx⟩:=ha x (by simp)
  show cq C true ops x s (fun s1=>dD C true ops (xs++y::ys) s1 κ)=cq C true ops x (s.put y.dst u) (fun s1=>dD C true ops (xs++ys) s1 κ)
  rw [gL hLt hx]
  refine frame hLt fun v ob' n' ho ho2 => ?_
  obtain ⟨h1,h2⟩:=ho2 hcx hn
  exact BU hLt hc xs (fun z hz=>ha z (by simp [hz])) (ht.after hx h1 v).1 (by rw [(kK _ _ _).1,(kK _ _ _).2];exact h2) (ph hx hc ht hd h1)
theorem BX {lt:Bool} (hLt:lt=true->xQ C) (hc:cls lt y<=1) {ys:List Oper} {κ : St->Option R}:∀ (xs:List Oper) {s:St},(∀ x∈xs,rJ ops x y/\cls lt x<=2)->Tk ops y s->Nm s.objs s.next->(∀ K:St->Option R,cq C true ops y s K=none)->dD C true ops (xs++y::ys) s κ = dD C true ops xs s (fun _=>none)
 | [],s,_,_,_,hd=>hd _
 | x::xs,s,ha,ht,hn,hd=>by
  obtain ⟨hx,hcx⟩:=ha x (by simp)
  refine frame hLt fun v ob' n' ho ho2 => ?_
  obtain ⟨h1,h2⟩:=ho2 hcx hn
  exact BX hLt hc xs (fun z hz=>ha z (by simp [hz])) (ht.after hx h1 v).1 (by rw [(kK _ _ _).1,(kK _ _ _).2];exact h2) (uX hx hc ht hd h1)
theorem nn {lt:Bool} (h:rJ ops x y) (hc:cls lt y=0) {u v:SV} (hd:BD C ops y s u) {ob':List (Nat × Obj)} {n':Nat}:BD C ops y ((⟨s.slots,ob',n'⟩:St).put x.dst v) u:=by
 intro K
 have gets:∀ t∈looks ops.toList y,((⟨s.slots,ob',n'⟩:St).put x.dst v).get t=s.get t:=fun t ht=>fB (s:=⟨s.slots,ob',n'⟩) (fun e=>h.xl t e ht)
 have key:∀ u',(fun s2:St=>K ((⟨s2.slots,ob',n'⟩:St).put x.dst v)) (s.put y.dst u')=K (((⟨s.slots,ob',n'⟩:St).put x.dst v).put y.dst u'):=by
  intro u'
  show K ((⟨(s.put y.dst u').slots,ob',n'⟩:St).put x.dst v)=_
  rw [nW,put_comm _ (fun d hd=>h.symm.ne d hd)]
 exact ((V0 (C:=C) hc gets key).symm.trans (hd (fun s2:St=>K ((⟨s2.slots,ob',n'⟩:St).put x.dst v)))).trans (key u)
theorem ta {lt:Bool} (h:rJ ops x y) (hc:cls lt y=0) {v:SV} (hd:∀ K:St->Option R,cq C true ops y s K=none) {ob':List (Nat × Obj)} {n':Nat}:∀ K:St->Option R,cq C true ops y ((⟨s.slots,ob',n'⟩:St).put x.dst v) K=none:=by
 intro K
 refine Eq.trans ?_ (hd (fun s2:St=>K ((⟨s2.slots,ob',n'⟩:St).put x.dst v)))
 refine (V0 (s:=s) (lt:=lt) hc (fun t ht=>fB (s:=⟨s.slots,ob',n'⟩) (fun e=>h.xl t e ht)) fun u' => ?_).symm
 show K ((⟨(s.put y.dst u').slots,ob',n'⟩:St).put x.dst v)=_
 rw [nW,put_comm _ (fun d hd=>h.symm.ne d hd)]
theorem BT {lt:Bool} (hLt:lt=true->xQ C) (hc:cls lt y=0) {u:SV} {ys:List Oper} {κ : St->Option R}:∀ (xs:List Oper) {s:St},(∀ x∈xs,rJ ops x y)->BD C ops y s u->dD C true ops (xs++y::ys) s κ = dD C true ops (xs++ys) (s.put y.dst u) κ
 | [],s,_,hd=>hd _
 | x::xs,s,ha,hd=>by
  have hx:=ha x (by simp)
  show cq C true ops x s (fun s1=>dD C true ops (xs++y::ys) s1 κ)=cq C true ops x (s.put y.dst u) (fun s1=>dD C true ops (xs++ys) s1 κ)
  rw [gL hLt hx]
  exact frame hLt fun v ob' n' _ _=>BT hLt hc xs (fun z hz=>ha z (by simp [hz])) (nn hx hc hd)
theorem BW {lt:Bool} (hLt:lt=true->xQ C) (hc:cls lt y=0) {ys:List Oper} {κ : St->Option R}:∀ (xs:List Oper) {s:St},(∀ x∈xs,rJ ops x y)->(∀ K:St->Option R,cq C true ops y s K=none)->dD C true ops (xs++y::ys) s κ = dD C true ops xs s (fun _=>none)
 | [],s,_,hd=>hd _
 | x::xs,s,ha,hd=>by
  have hx:=ha x (by simp)
  exact frame hLt fun v ob' n' _ _=>BW hLt hc xs (fun z hz=>ha z (by simp [hz])) (ta hx hc hd)
end
end Go.Proofs.Ab
namespace Go.Proofs.Ab
open Go
variable {R:Type}
section
variable {s s':St} {C:Cfg R} {K K':St->Option R} {k:Nat} {o:Obj}
def Fk (k:Nat) (s:St):Prop:=s.obj k=none/\k<s.next
theorem wb {j:Nat} (h:j≠k):(s.newAt k o).obj j=s.obj j:=by
 show lookup j (s.objs++[(k,o)])=lookup j s.objs
 rw [fG]
 cases lookup j s.objs with
 | some x=>rfl
 | none=>simp [h]
theorem Bb (x:Obj):(s.newAt k o).new x=(s.new x).newAt k o:=rfl
theorem C1 (h:Fk k s) (x:Obj):Fk k (s.new x):=⟨by rw [ef,if_neg (Nat.ne_of_lt h.2)];exact h.1,Nat.lt_succ_of_lt h.2⟩
theorem ox {t:Nat} (h:t≠k) (x:Obj):(s.newAt k o).setObj t x=(s.setObj t x).newAt k o:=by
 unfold St.setObj St.newAt
 have hb:Nat.beq t k=false:=by
  cases hb:Nat.beq t k with
  | true=>exact absurd (Nat.eq_of_beq_eq_true hb) h
  | false=>rfl
 simp [hb]
theorem jn (t j:Nat) (x:Obj):∀ (l:List (Nat × Obj)),lookup j l=none->lookup j (l.map fun p=>bif Nat.beq t p.1 then (p.1,x) else p)=none
 | [],_=>rfl
 | (a,b)::r,h=>by
  simp only [lookup] at h
  simp only [List.map]
  cases hb:Nat.beq j a with
  | true=>rw [hb] at h;cases h
  | false =>
   rw [hb] at h
   cases Nat.beq t a <;> simp only [cond_true,cond_false,lookup,hb] <;> exact jn t j x r h
theorem qe {t:Nat} (h:Fk k s) (x:Obj):Fk k (s.setObj t x):=⟨jn t k x s.objs h.1,h.2⟩
theorem lS {x:SV} (h:∀ k,tok x=some k->s'.obj k=s.obj k):eN s' x=eN s x:=by
 cases x <;> first
  | rfl
  | (simp only [eN,h _ rfl];done)
theorem uk {x:SV} (h:∀ k,tok x=some k->s'.obj k=s.obj k):kj s' x=kj s x:=by
 cases x <;> first
  | rfl
  | (simp only [kj,h _ rfl];done)
theorem lV:∀ {l:List SV},(∀ x∈l,∀ k,tok x=some k->s'.obj k=s.obj k)->fg s' l=fg s l
 | [],_=>rfl
 | x::r,h=>by
  have h2:fg s' r=fg s r:=lV fun y (hy:y∈r)=>h y (List.mem_cons_of_mem _ hy)
  simp only [fg,lS (h x List.mem_cons_self),h2]
theorem nA:∀ {l:List SV},(∀ x∈l,∀ k,tok x=some k->s'.obj k=s.obj k)->gx s' l=gx s l
 | [],_=>rfl
 | x::r,h=>by
  have h2:gx s' r=gx s r:=nA fun y (hy:y∈r)=>h y (List.mem_cons_of_mem _ hy)
  simp only [gx,uk (h x List.mem_cons_self),h2]
def EB (s:St):Prop:=∀ t ty ls,s.obj t=some (.var ty ls)->∀ z∈ls,∀ j,tok z=some j->∃ x,s.obj j=some x
theorem rU (hv:∀ t ty ls,s.obj t=some (.var ty ls)->∀ z∈ls,∀ j,tok z=some j->s'.obj j=s.obj j) {x:SV} (h:∀ y∈leaves x,∀ k,tok y=some k->s'.obj k=s.obj k):dU s' x=dU s x:=by
 rcases fh x with ⟨l,rfl⟩|hn
 ·simp only [dU,lV (s:=s) (s':=s') (l:=l) h]
 ·have h1:=lS (s:=s) (s':=s') (x:=x) (fun k hk=>h x (by cases x <;> first|exact List.mem_singleton.2 rfl|exact absurd rfl (hn _)) k hk)
  cases x with
  | ptr t off =>
   cases off with
   | succ n=>exact h1
   | zero =>
    have ho:=h (.ptr t 0) (List.mem_singleton.2 rfl) t rfl
    simp only [dU,ho]
    split
    ·rename_i ty ls e
     rw [nA (hv t ty ls e)]
    ·rfl
  | agg l=>exact absurd rfl (hn _)
  | _=>exact h1
theorem lT (hv:∀ t ty ls,s.obj t=some (.var ty ls)->∀ z∈ls,∀ j,tok z=some j->s'.obj j=s.obj j):∀ {l:List SV},(∀ x∈l,∀ y∈leaves x,∀ k,tok y=some k->s'.obj k=s.obj k)->dp s' l=dp s l
 | [],_=>rfl
 | x::r,h=>by
  have h2:dp s' r=dp s r:=lT hv fun y (hy:y∈r)=>h y (List.mem_cons_of_mem _ hy)
  simp only [dp,rU hv (h x List.mem_cons_self),h2]
theorem iC:∀ {l:List SV},(∀ x∈l,∀ y∈leaves x,∀ k,tok y=some k->s'.obj k=s.obj k)->bM s' l=bM s l
 | [],_=>rfl
 | x::r,h=>by
  have h2:bM s' r=bM s r:=iC fun y (hy:y∈r)=>h y (List.mem_cons_of_mem _ hy)
  cases x with
  | ptr t off=>simp only [bM,h _ List.mem_cons_self _ (List.mem_singleton.2 rfl) t rfl,h2]
  | _=>exact h2
theorem su:∀ {l:List SV},(∀ x∈l,∀ y∈leaves x,∀ k,tok y=some k->s'.obj k=s.obj k)->gg s' l=gg s l
 | [],_=>rfl
 | x::r,h=>by
  have h2:gg s' r=gg s r:=su fun y (hy:y∈r)=>h y (List.mem_cons_of_mem _ hy)
  cases x with
  | ptr t off=>simp only [gg,h _ List.mem_cons_self _ (List.mem_singleton.2 rfl) t rfl,h2]
  | _=>exact h2
theorem gE:∀ (l:List SV) (s:St),Fk k s->b9 (s.newAt k o) l=((b9 s l).1,(b9 s l).2.newAt k o)/\Fk k (b9 s l).2/\(b9 s l).2.slots=s.slots
 | [],s,h=>⟨rfl,h,rfl⟩
 | x::r,s,h=>by
  have gen:b9 (s.newAt k o) (x::r)=((b9 s (x::r)).1,(b9 s (x::r)).2.newAt k o)/\Fk k (b9 s (x::r)).2/\(b9 s (x::r)).2.slots=s.slots∨∃ e l st,x = .fr e l st:=by
   obtain ⟨h1,h2,h3⟩:=gE r s h
   cases x <;> first
    | exact .inr ⟨_,_,_,rfl⟩
    | (refine .inl ⟨?_,h2,h3⟩;simp only [b9,h1])
  rcases gen with gen|⟨e,l,st,rfl⟩
  ·exact gen
  ·obtain ⟨h1,h2,h3⟩:=gE r (s.new (.row e l st)) (C1 h _)
   refine ⟨?_,h2,h3⟩
   simp only [b9,Bb,h1]
   rfl
theorem p6 (x:SV) (s:St) (h:Fk k s):di (s.newAt k o) x=((di s x).1,(di s x).2.newAt k o)/\Fk k (di s x).2/\(di s x).2.slots=s.slots:=by
 rcases fh x with ⟨l,rfl⟩|hn
 ·obtain ⟨h1,h2,h3⟩:=gE (o:=o) l s h
  exact ⟨by simp only [di,h1],h2,h3⟩
 ·obtain ⟨h1,h2,h3⟩:=gE (o:=o) [x] s h
  have e:∀ s:St,di s x=(match b9 s [x] with|([u],s')=>(u,s')|(_,s')=>(.no,s')):=by
   intro s;cases x <;> first|rfl|exact absurd rfl (hn _)
  rw [e,e,h1]
  cases hl:b9 s [x] with
  | mk vs s1 =>
   rw [hl] at h2 h3
   match vs with
   | []=>exact ⟨rfl,h2,h3⟩
   | [u]=>exact ⟨rfl,h2,h3⟩
   | _::_::_=>exact ⟨rfl,h2,h3⟩
theorem pY:∀ (l:List SV) (s:St),Fk k s->dT (s.newAt k o) l=((dT s l).1,(dT s l).2.newAt k o)/\Fk k (dT s l).2/\(dT s l).2.slots=s.slots
 | [],s,h=>⟨rfl,h,rfl⟩
 | x::r,s,h=>by
  obtain ⟨h1,h2,h3⟩:=p6 (o:=o) x s h
  obtain ⟨g1,g2,g3⟩:=pY r _ h2
  refine ⟨?_,g2,g3.trans h3⟩
  simp only [dT,h1,g1]
theorem pD:∀ (l:List Nat) (s:St),k ∉ l->Fk k s->eE l (s.newAt k o)=(eE l s).newAt k o/\Fk k (eE l s)/\(eE l s).slots=s.slots
 | [],s,_,h=>⟨rfl,h,rfl⟩
 | t::r,s,hk,h=>by
  obtain ⟨h1,h2,h3⟩:=pD r (s.setObj t .hole) (fun hi=>hk (List.mem_cons_of_mem _ hi)) (qe h _)
  exact ⟨by simp only [eE,ox (s:=s) (o:=o) (fun e:t=k=>hk (by rw [e];exact List.mem_cons_self)) .hole,h1],h2,h3⟩
theorem kX:∀ (vs back:List SV) (s:St),(∀ t off,.ptr t off∈vs->t≠k)->Fk k s ->
  (dI s vs back=none/\dI (s.newAt k o) vs back=none)∨∃ s2,dI s vs back=some s2/\dI (s.newAt k o) vs back=some (s2.newAt k o)/\Fk k s2/\s2.slots=s.slots
 | [],[],s,_,h => .inr ⟨s,rfl,rfl,h,rfl⟩
 | [],_::_,s,_,_ => .inl ⟨rfl,rfl⟩
 | x::r,back,s,hk,h=>by
  by_cases hx:∃ t off,x = .ptr t off
  ·obtain ⟨t,off,rfl⟩:=hx
   have ht:t≠k:=hk t off List.mem_cons_self
   match back with
   | []=>exact .inl ⟨rfl,rfl⟩
   | y::u =>
    by_cases hy:∃ ty ls,y = .vp ty ls
    ·obtain ⟨ty,ls,rfl⟩:=hy
     obtain ⟨h1,h2,h3⟩:=gE (o:=o) ls s h
     have ih:=kX r u ((b9 s ls).2.setObj t (.var ty (b9 s ls).1)) (fun t off hm=>hk t off (List.mem_cons_of_mem _ hm)) (qe h2 _)
     rw [<- ox (s:=(b9 s ls).2) (o:=o) ht] at ih
     simp only [dI,h1]
     rcases ih with ih|⟨s2,g1,g2,g3,g4⟩
     ·exact .inl ih
     ·exact .inr ⟨s2,g1,g2,g3,g4.trans h3⟩
    ·have e:∀ s:St,dI s (.ptr t off::r) (y::u)=none:=by
      intro s;cases y <;> first|rfl|exact absurd ⟨_,_,rfl⟩ hy
     exact .inl ⟨e _,e _⟩
  ·have hx':∀ t o,x ≠ .ptr t o:=fun t o e=>hx ⟨t,o,e⟩
   have e:∀ (s:St),dI s (x::r) back=dI s r back:=fun s=>iv _ hx' _ _
   rw [e,e]
   exact kX r back s (fun t off hm=>hk t off (List.mem_cons_of_mem _ hm)) h
theorem lq {t:Nat}:∀ {l:List SV},t∈given l->∃ off,.ptr t off∈l
 | x::r,h=>by
  by_cases hx:∃ u off,x = .ptr u off
  ·obtain ⟨u,off,rfl⟩:=hx
   simp only [given,List.mem_cons] at h
   rcases h with rfl|h
   ·exact ⟨off,List.mem_cons_self⟩
   ·obtain ⟨o',ho⟩:=lq h;exact ⟨o',List.mem_cons_of_mem _ ho⟩
  ·have e:given (x::r)=given r:=by cases x <;> first|rfl|exact absurd ⟨_,_,rfl⟩ hx
   rw [e] at h
   obtain ⟨o',ho⟩:=lq h;exact ⟨o',List.mem_cons_of_mem _ ho⟩
theorem wI (hf:Fk k s) (ht:EB s) {d:Option Nat} {g:Nat} {xs:List Operand}
  (hob:∀ x∈xs,∀ y∈leaves (ev s x),∀ j,tok y=some j->∃ x,s.obj j=some x) (hK:∀ (s1:St) u,Fk k s1->s1.slots=s.slots->K ((s1.newAt k o).put d u)=K' (s1.put d u)):fT C true (s.newAt k o) d g xs K=fT C true s d g xs K':=by
 have he:xs.map (ev (s.newAt k o))=xs.map (ev s):=rfl
 have hne:∀ j x,s.obj j=some x->j≠k:=fun j x hj e=>by subst e;rw [hf.1] at hj;cases hj
 unfold fT ji na
 simp only [he]
 generalize (bif C.uj g then dz (xs.map (ev s))++o4 (xs.map (ev s)) else [])=fz
 cases fz with
 | cons t ts=>unfold jU;simp
 | nil =>
  simp only [eO,he]
  have hob':∀ x∈xs.map (ev s),∀ y∈leaves x,∀ j,tok y=some j->(s.newAt k o).obj j=s.obj j:=fun x hx y hy j hj=>by
   obtain ⟨z,hz,rfl⟩:=List.mem_map.1 hx
   obtain ⟨x,hx⟩:=hob z hz y hy j hj
   exact wb (hne j x hx)
  have hpk:∀ t off,SV.ptr t off∈xs.map (ev s)->t≠k:=fun t off hm=>by
   obtain ⟨z,hz,e⟩:=List.mem_map.1 hm
   obtain ⟨x,hx⟩:=hob z hz (.ptr t off) (by rw [e];exact List.mem_singleton.2 rfl) t rfl
   exact hne t x hx
  generalize xs.map (ev s)=vs at hob' hpk
  have hv:∀ t ty ls,s.obj t=some (.var ty ls)->∀ z∈ls,∀ j,tok z=some j->(s.newAt k o).obj j=s.obj j:=fun t ty ls e z hz j hj=>by
   obtain ⟨x,hx⟩:=ht t ty ls e z hz j hj
   exact wb (hne j x hx)
  unfold jU
  simp only [List.append_nil,su hob',iC hob',lT hv hob']
  generalize hgr:bM s vs=gr
  cases gr with
  | cons t ts=>simp
  | nil =>
   generalize ((true && !(([]:List Nat).isEmpty&&([]:List Nat).isEmpty)) || !distinct (gg s vs)||(seen vs).any fun t=>(gg s vs).any (Nat.beq t))=c
   cases c with
   | true=>rfl
   | false =>
    simp only [cond_false]
    cases dp s vs with
    | none=>rfl
    | some cs =>
     simp only [dZ]
     congr 1
     funext res
     cases res with
     | nil=>rfl
     | cons v back =>
      simp only
      obtain ⟨a1,a2,a3⟩:=pD (o:=o) (given vs) s (fun hi=>by
       obtain ⟨off,hm⟩:=lq hi
       exact hpk k off hm rfl) hf
      rw [a1]
      rcases kX (o:=o) vs back _ hpk a2 with ⟨b1,b2⟩|⟨s2,b1,b2,b3,b4⟩
      ·rw [b1,b2]
      ·rw [b1,b2]
       simp only
       rcases nY v with ⟨l,rfl⟩|hv
       ·obtain ⟨c1,c2,c3⟩:=pY (o:=o) l s2 b3
        simp only [c1]
        exact hK _ _ c2 (c3.trans (b4.trans a3))
       ·obtain ⟨c1,c2,c3⟩:=p6 (o:=o) v s2 b3
        cases v <;> first
         | exact absurd rfl (hv _)
         | (simp only [c1];exact hK _ _ c2 (c3.trans (b4.trans a3)))
end
section
variable {ops:Array Oper} {o x y:Oper} {s s':St} {C:Cfg R} {K K':St->Option R} {r:R}
def ES (s:St):Prop:=∀ t,∀ z∈leaves (s.get t),∀ k,tok z=some k->∃ o,s.obj k=some o
theorem xK {k:Nat} {b:Obj} (hy:kp o=true) (hf:Fk k s) (h2:ES s) (h3:EB s) (hK:∀ (s1:St) u,Fk k s1->s1.slots=s.slots->K ((s1.newAt k b).put o.dst u)=K' (s1.put o.dst u)):cq C true ops o (s.newAt k b) K=cq C true ops o s K':=by
 have hu:df C true o (s.newAt k b) K=df C true o s K':=by
  unfold kp at hy
  split at hy
  ·rename_i c ho
   split at hy
   ·rename_i f hcal
    unfold df;simp only [ho,hcal]
    rw [show ev (s.newAt k b) f=ev s f from rfl]
    cases ev s f <;> try rfl
    rename_i g
    dsimp only
    cases C.mv g with
    | true=>rfl
    | false =>
    simp only [cond_false]
    refine wI hf h3 (fun x hx z hz j hj => ?_) hK
    cases x with
    | tmp t=>exact h2 t z hz j hj
    | const v =>
     exfalso
     have hn:∀ v:Value,tok (Cv v)=none:=fun v=>by unfold Cv;split <;> rfl
     by_cases ha:∃ cs,v = .agg cs
     ·obtain ⟨cs,rfl⟩:=ha
      have hz:z∈cs.toList.map Cv:=hz
      obtain ⟨u,_,rfl⟩:=List.mem_map.1 hz
      rw [hn] at hj;cases hj
     ·unfold ev at hz
      split at hz <;> first|(exact ha ⟨_,by assumption⟩)|simp_all [leaves,tok]
    | func f=>simp [ev,leaves] at hz;subst hz;cases hj
    | _=>simp [ev,leaves] at hz;subst hz;cases hj
   ·cases hy
  ·cases hy
 rw [c9,c9]
 cases hg:o.guard with
 | none=>exact hu
 | some g =>
  obtain ⟨j,want⟩:=g
  simp only
  cases hd:uA ops j with
  | none=>rfl
  | some d =>
   simp only [show (s.newAt k b).get d=s.get d from rfl]
   cases s.get d <;> try rfl
   ·exact hK s _ hf rfl
   ·simp only
    split
    ·exact hu
    ·exact hK s _ hf rfl
theorem wy (hx:e9 o=true) (hb:Nat.beq C.base 0=false) (h:cq C true ops o s K=some r) :
  (∃ k b u,Fk k s/\∀ (s1:St) (K:St->Option R),Fk k s1->(∀ t∈looks ops.toList o,s1.get t=s.get t)->cq C true ops o s1 K=K ((s1.newAt k b).put o.dst u)) ∨
  ∃ u,∀ (s1:St) (K:St->Option R),(∀ t∈looks ops.toList o,s1.get t=s.get t)->cq C true ops o s1 K=K (s1.put o.dst u):=by
 have hmk:∀ {r:R} {K:St->Option R} {b:Obj} {f:Nat->SV},iL C s o.dst b f K=some r->∃ k u,Fk k s/\∀ (s1:St) (K:St->Option R),Fk k s1->iL C s1 o.dst b f K=K ((s1.newAt k b).put o.dst u):=by
  intro r K b f h
  unfold iL at h
  rw [hb,cond_false] at h
  obtain ⟨hc,_⟩:=bD h
  simp only [Bool.and_eq_true,Option.isNone_iff_eq_none,Nat.blt_eq] at hc
  refine ⟨_,f (C.base+o.dst.getD 0),⟨hc.1,hc.2.1⟩,fun s1 K hk => ?_⟩
  unfold iL
  have h1:(s1.obj (C.base+o.dst.getD 0)).isNone=true:=by rw [hk.1];rfl
  have h2:Nat.blt (C.base+o.dst.getD 0) s1.next=true:=by rw [Nat.blt_eq];exact hk.2
  rw [hb,cond_false,h1,h2,hc.2.2];rfl
 have hop:∀ {r:R} {K:St->Option R},df C true o s K=some r->∃ k b u,Fk k s/\∀ (s1:St) (K:St->Option R),Fk k s1->df C true o s1 K=K ((s1.newAt k b).put o.dst u):=by
  intro r K h
  unfold e9 at hx
  split at hx
  ·rename_i t ho
   unfold df at h
   simp only [ho] at h
   unfold df
   simp only [ho]
   cases hT:C.ty t with
   | none=>rw [hT] at h;cases h
   | some T =>
    rw [hT] at h;simp only at h ⊢
    cases ha:mY C T with
    | some j =>
     rw [ha] at h;simp only at h ⊢
     obtain ⟨k,u,g1,g2⟩:=hmk h
     exact ⟨k,_,u,g1,g2⟩
    | none =>
     rw [ha] at h;simp only at h ⊢
     obtain ⟨h0,h⟩:=bD h
     simp only [h0,cond_true]
     obtain ⟨k,u,g1,g2⟩:=hmk h
     exact ⟨k,_,u,g1,g2⟩
  ·cases hx
 rw [c9] at h
 cases hg:o.guard with
 | none =>
  rw [hg] at h
  obtain ⟨k,b,u,g1,g2⟩:=hop h
  exact .inl ⟨k,b,u,g1,fun s1 K hk _=>by rw [c9,hg];exact g2 s1 K hk⟩
 | some g =>
  obtain ⟨j,want⟩:=g
  rw [hg] at h;simp only at h
  cases hd:uA ops j with
  | none=>rw [hd] at h;cases h
  | some d =>
   rw [hd] at h;simp only at h
   have hl:d∈looks ops.toList o:=fX hg hd
   cases hv:s.get d <;> rw [hv] at h <;> try (cases h;done)
   ·exact .inr ⟨.undef,fun s1 K he=>by rw [c9,hg];simp only [hd,he d hl,hv]⟩
   ·simp only at h
    rename_i t
    by_cases e:t=want
    ·rw [if_pos e] at h
     obtain ⟨k,b,u,g1,g2⟩:=hop h
     exact .inl ⟨k,b,u,g1,fun s1 K hk he=>by rw [c9,hg];simp only [hd,he d hl,hv,e,if_true];exact g2 s1 K hk⟩
    ·rw [if_neg e] at h
     exact .inr ⟨.undef,fun s1 K he=>by rw [c9,hg];simp only [hd,he d hl,hv,e,if_false]⟩
theorem wL {lt:Bool} (h:e9 o=true):cls lt o=2:=by
 unfold e9 at h
 unfold cls
 split at h
 ·rename_i e;rw [e]
 ·cases h
theorem v8 {lt:Bool} (hLt:lt=true->xQ C) {ys:List Oper} {κ : St->Option R} (good:St->Prop) (hg:∀ (x:Oper) (s:St),good s->Tk ops x s/\Nm s.objs s.next/\ES s/\EB s):∀ (xs:List Oper) {s:St},(∀ x∈xs,rJ ops x y/\((cls lt x=0∨(cls lt x<=1/\cls lt y<=2))∨(e9 x=true/\kp y=true/\Nat.beq C.base 0=false))) ->
  (∀ x∈xs,∀ (s:St) (u:SV) ob' n',good s->(∀ K:St->Option R,cq C true ops x s K=K ((⟨s.slots,ob',n'⟩:St).put x.dst u))->good ((⟨s.slots,ob',n'⟩:St).put x.dst u))->good s->dD C true ops (xs++y::ys) s κ = some r->dD C true ops (y::(xs++ys)) s κ = some r
 | [],s,_,_,_,h=>h
 | x::xs,s,ha,hs,hgs,h=>by
  obtain ⟨hx,hl⟩:=ha x (by simp)
  rcases hl with hl|⟨hxa,hyc,hb⟩
  ·obtain ⟨u,hd⟩:=lP (lt:=lt) (by rcases hl with hl|hl <;> omega) (show cq C true ops x s (fun s1=>dD C true ops (xs++y::ys) s1 κ)=some r from h)
   have h1:dD C true ops (xs++y::ys) (s.put x.dst u) κ = some r:=by rw [<- hd (fun s1=>dD C true ops (xs++y::ys) s1 κ)];exact h
   have h2:=v8 hLt good hg xs (fun z hz=>ha z (by simp [hz])) (fun z hz=>hs z (by simp [hz])) (hs x (by simp) s u s.objs s.next hgs hd) h1
   rw [<- h2]
   show cq C true ops y s (fun s1=>cq C true ops x s1 (fun s2=>dD C true ops (xs++ys) s2 κ))=cq C true ops y (s.put x.dst u) (fun s1=>dD C true ops (xs++ys) s1 κ)
   rw [gL hLt hx.symm]
   refine frame hLt fun v ob' n' _ ho2 => ?_
   rcases hl with hl|⟨hl1,hl2⟩
   ·exact nn hx.symm hl hd _
   ·obtain ⟨ht,hn,_⟩:=hg x s hgs
    exact ph hx.symm hl1 ht hd (ho2 hl2 hn).1 _
  ·have hlook:∀ (s1:St) (v:SV),s1.slots=s.slots->∀ t∈looks ops.toList x,(s1.put y.dst v).get t=s.get t:=fun s1 v e t ht=>by
    rw [fB (s:=s1) (fun e=>hx.yl t e ht)]
    unfold St.get;rw [e]
   rcases wy hxa hb (show cq C true ops x s (fun s1=>dD C true ops (xs++y::ys) s1 κ)=some r from h) with ⟨k,b,u,hf,hd⟩|⟨u,hd⟩
   ·obtain ⟨_,_,ht2,ht3⟩:=hg x s hgs
    have hd0:∀ K:St->Option R,cq C true ops x s K=K ((⟨s.slots,s.objs++[(k,b)],s.next⟩:St).put x.dst u):=fun K=>hd s K hf fun _ _=>rfl
    have h1:dD C true ops (xs++y::ys) ((⟨s.slots,s.objs++[(k,b)],s.next⟩:St).put x.dst u) κ = some r:=by rw [<- hd0 (fun s1=>dD C true ops (xs++y::ys) s1 κ)];exact h
    have h2:=v8 hLt good hg xs (fun z hz=>ha z (by simp [hz])) (fun z hz=>hs z (by simp [hz])) (hs x (by simp) s u _ _ hgs hd0) h1
    rw [<- h2]
    show cq C true ops y s (fun s1=>cq C true ops x s1 (fun s2=>dD C true ops (xs++ys) s2 κ))=cq C true ops y ((s.newAt k b).put x.dst u) (fun s1=>dD C true ops (xs++ys) s1 κ)
    rw [gL hLt hx.symm]
    refine (xK hyc hf ht2 ht3 fun s1 v hk he => ?_).symm
    have hk':Fk k (s1.put y.dst v):=by cases y.dst <;> exact hk
    rw [hd _ _ hk' (hlook s1 v he)]
    congr 2
    cases y.dst <;> rfl
   ·have hd0:∀ K:St->Option R,cq C true ops x s K=K (s.put x.dst u):=fun K=>hd s K fun _ _=>rfl
    have h1:dD C true ops (xs++y::ys) (s.put x.dst u) κ = some r:=by rw [<- hd0 (fun s1=>dD C true ops (xs++y::ys) s1 κ)];exact h
    have h2:=v8 hLt good hg xs (fun z hz=>ha z (by simp [hz])) (fun z hz=>hs z (by simp [hz])) (hs x (by simp) s u s.objs s.next hgs hd0) h1
    rw [<- h2]
    show cq C true ops y s (fun s1=>cq C true ops x s1 (fun s2=>dD C true ops (xs++ys) s2 κ))=cq C true ops y (s.put x.dst u) (fun s1=>dD C true ops (xs++ys) s1 κ)
    rw [gL hLt hx.symm]
    refine frame hLt fun v ob' n' _ _ => ?_
    exact hd _ _ (hlook ⟨s.slots,ob',n'⟩ v rfl)
end
end Go.Proofs.Ab
namespace Go.Proofs.Ab
open Go
variable {R:Type}
def gi (acc:List Nat) (o:Oper):Nat:=o.after.toList.foldl (fun m e=>bif Region.binds .any e then m ||| 2 ^ e.on ||| acc.getD e.on 0 else m) 0
theorem jG (l:List Oper) (acc:List Nat):l.foldl (fun acc o=>acc++[gi acc o]) acc=l.foldl (fun acc o=>acc++[o.after.toList.foldl (fun m e=>bif Region.binds .any e then m ||| 2 ^ e.on ||| acc.getD e.on 0 else m) 0]) acc:=rfl
theorem jH:∀ (l:List Oper) (acc:List Nat),∃ M,l.foldl (fun acc o=>acc++[gi acc o]) acc=acc++M/\M.length=l.length/\∀ i o,l[i]? = some o->M[i]? = some (gi (acc++M.take i) o)
 | [],acc=>⟨[],by simp,rfl,fun i o h=>by simp at h⟩
 | x::l,acc=>by
  obtain ⟨M,h1,h2,h3⟩:=jH l (acc++[gi acc x])
  refine ⟨gi acc x::M,?_,by simp [h2],fun i o h => ?_⟩
  ·rw [List.foldl_cons,h1];simp
  ·cases i with
   | zero=>simp at h;subst h;simp
   | succ i =>
    have:=h3 i o (by simpa using h)
    simpa using this
theorem lI (acc:List Nat) (j:Nat):∀ (l:List Edge) (m:Nat),(l.foldl (fun m e=>bif Region.binds .any e then m ||| 2 ^ e.on ||| acc.getD e.on 0 else m) m).testBit j=true ↔ m.testBit j=true∨∃ e∈l,Region.binds .any e=true/\(j=e.on∨(acc.getD e.on 0).testBit j=true)
 | [],m=>by simp
 | e::l,m=>by
  rw [List.foldl_cons,lI acc j l]
  cases hb:Region.binds .any e with
  | false=>simp [hb]
  | true =>
   simp only [cond_true,Nat.testBit_or,Bool.or_eq_true,Nat.testBit_two_pow,decide_eq_true_eq,List.mem_cons,exists_eq_or_imp,hb,true_and]
   constructor
   ·rintro (((h|h)|h)|h)
    ·exact .inl h
    ·exact .inr (.inl (.inl h.symm))
    ·exact .inr (.inl (.inr h))
    ·exact .inr (.inr h)
   ·rintro (h|(h|h)|h)
    ·exact .inl (.inl (.inl h))
    ·exact .inl (.inl (.inr h.symm))
    ·exact .inl (.inr h)
    ·exact .inr h
theorem ke (lt:Bool) (ops:List Oper) (o:Oper) (m:Nat):∀ (l:List Oper) (j:Nat),kd lt ops o m j l=true->∀ k x,l[k]? = some x->m.testBit (j+k)=true∨apart lt ops x o=true
 | [],_,_,k,x,h=>by simp at h
 | y::l,j,h,k,x,hk=>by
  simp only [kd,Bool.and_eq_true,Bool.or_eq_true] at h
  cases k with
  | zero=>simp at hk;subst hk;exact h.1
  | succ k =>
   have:=ke lt ops o m l (j+1) h.2 k x (by simpa using hk)
   rw [show j+(k+1)=j+1+k by omega];exact this
theorem kb (lt:Bool) (ops:List Oper):∀ (l:List Oper) (M:List Nat) (i:Nat),ka lt ops i l M=true->∀ k o,l[k]? = some o->∃ m,M[k]? = some m/\m<2 ^ (i+k)/\kd lt ops o m 0 (ops.take (i+k))=true
 | [],_,_,_,k,o,h=>by simp at h
 | x::l,[],_,h,_,_,_=>by simp [ka] at h
 | x::l,m::M,i,h,k,o,hk=>by
  simp only [ka,Bool.and_eq_true,decide_eq_true_eq] at h
  cases k with
  | zero=>simp at hk;subst hk;exact ⟨m,rfl,h.1,h.2.1⟩
  | succ k =>
   obtain ⟨m',h1,h2,h3⟩:=kb lt ops l M (i+1) h.2.2 k o (by simpa using hk)
   rw [show i+(k+1)=i+1+k by omega]
   exact ⟨m',by simpa using h1,h2,h3⟩
theorem sa {lt:Bool} {ops:Array Oper} (h:gT lt ops.toList=true):∃ M:List Nat,M=dy ops.toList/\M.length=ops.size/\∀ i o,ops[i]? = some o ->
  (∀ j,(M.getD i 0).testBit j=true->j<i/\∃ e∈o.after.toList,Region.binds .any e=true/\(j=e.on∨(M.getD e.on 0).testBit j=true)) /\
  (∀ e∈o.after.toList,Region.binds .any e=true->(M.getD i 0).testBit e.on=true) /\
  ∀ j x,j<i->ops[j]? = some x->(M.getD i 0).testBit j=true∨apart lt ops.toList x o=true:=by
 unfold gT dy at h
 obtain ⟨M,h1,h2,h3⟩:=jH ops.toList []
 rw [<- jG,h1] at h
 simp only [List.nil_append] at h h3
 refine ⟨M,by unfold dy;rw [<- jG,h1];rfl,by simpa using h2,fun i o hi => ?_⟩
 have hi':ops.toList[i]? = some o:=by simpa using hi
 obtain ⟨m,g1,g2,g3⟩:=kb lt ops.toList ops.toList M 0 h i o hi'
 have hm:=h3 i o hi'
 rw [g1] at hm
 have hm':m=gi (M.take i) o:=by simpa using hm
 have hg:M.getD i 0=m:=by rw [List.getD_eq_getElem?_getD,g1];rfl
 rw [Nat.zero_add] at g2 g3
 rw [hg]
 have bits:∀ j,m.testBit j=true ↔ ∃ e∈o.after.toList,Region.binds .any e=true/\(j=e.on∨((M.take i).getD e.on 0).testBit j=true):=by
  intro j;rw [hm',gi,lI];simp
 refine ⟨fun j hj=>⟨?_,?_⟩,fun e he hb=>(bits e.on).2 ⟨e,he,hb,.inl rfl⟩,fun j x hj hx => ?_⟩
 ·refine Decidable.byContradiction fun hn => ?_
  have:=Nat.testBit_lt_two_pow (Nat.lt_of_lt_of_le g2 (Nat.pow_le_pow_right (by decide) (Nat.le_of_not_lt hn)))
  rw [this] at hj;cases hj
 ·obtain ⟨e,he,hb,h⟩:=(bits j).1 hj
  refine ⟨e,he,hb,h.imp id fun h => ?_⟩
  rw [List.getD_eq_getElem?_getD,List.getElem?_take] at h
  split at h
  ·rw [List.getD_eq_getElem?_getD];exact h
  ·simp at h
 ·have:=ke lt ops.toList o m _ 0 g3 j x (by rw [List.getElem?_take,if_pos hj];simpa using hx)
  rwa [Nat.zero_add] at this
def iS (ops:Array Oper) (M:List Nat):Prop:=M.length=ops.size/\∀ i o,ops[i]? = some o ->
  (∀ j,(M.getD i 0).testBit j=true->j<i/\∃ e∈o.after.toList,Region.binds .any e=true/\(j=e.on∨(M.getD e.on 0).testBit j=true)) /\
  (∀ e∈o.after.toList,Region.binds .any e=true->(M.getD i 0).testBit e.on=true)
theorem jT:∀ (l:List Nat) (i:Nat),bounded i l=true->∀ k m,l[k]? = some m->m<2 ^ (i+k)
 | [],_,_,k,m,h=>by simp at h
 | x::l,i,h,k,m,hk=>by
  simp only [bounded,Bool.and_eq_true,decide_eq_true_eq] at h
  cases k with
  | zero=>simp at hk;subst hk;exact h.1
  | succ k =>
   have:=jT l (i+1) h.2 k m (by simpa using hk)
   rw [show i+(k+1)=i+1+k by omega];exact this
theorem zE {ops:Array Oper} (h:bounded 0 (dy ops.toList)=true):iS ops (dy ops.toList):=by
 have hb:=jT _ _ h
 clear h
 revert hb
 obtain ⟨M,h1,h2,h3⟩:=jH ops.toList []
 have e:dy ops.toList=M:=by unfold dy;rw [<- jG,h1];rfl
 rw [e]
 intro hb
 simp only [List.nil_append] at h3
 refine ⟨by simpa using h2,fun i o hi => ?_⟩
 have hi':ops.toList[i]? = some o:=by simpa using hi
 have hm:=h3 i o hi'
 have g2:=hb i _ hm
 have hg:M.getD i 0=gi (M.take i) o:=by rw [List.getD_eq_getElem?_getD,hm];rfl
 rw [Nat.zero_add] at g2
 rw [hg]
 have bits:∀ j,(gi (M.take i) o).testBit j=true ↔ ∃ e∈o.after.toList,Region.binds .any e=true/\(j=e.on∨((M.take i).getD e.on 0).testBit j=true):=by
  intro j;rw [gi,lI];simp
 refine ⟨fun j hj=>⟨?_,?_⟩,fun e he hb=>(bits e.on).2 ⟨e,he,hb,.inl rfl⟩⟩
 ·refine Decidable.byContradiction fun hn => ?_
  have:=Nat.testBit_lt_two_pow (Nat.lt_of_lt_of_le g2 (Nat.pow_le_pow_right (by decide) (Nat.le_of_not_lt hn)))
  rw [this] at hj;cases hj
 ·obtain ⟨e,he,hb,h⟩:=(bits j).1 hj
  refine ⟨e,he,hb,h.imp id fun h => ?_⟩
  rw [List.getD_eq_getElem?_getD,List.getElem?_take] at h
  split at h
  ·rw [List.getD_eq_getElem?_getD];exact h
  ·simp at h
def Fm (C:Cfg R) (lt:Bool) (ops:Array Oper) (x y:Oper):Prop :=
 rJ ops x y/\((cls lt x=0∨cls lt y=0∨(cls lt x<=1/\cls lt y<=2)∨(cls lt x<=2/\cls lt y<=1))∨(e9 x=true/\kp y=true/\Nat.beq C.base 0=false))
def o0 (C:Cfg R) (lt:Bool) (ops:Array Oper) (M T:List Nat) (ord:List Nat):Prop:=(∀ i,i∈ord ↔ i<ops.size/\i ∉ T) /\
 ord.Pairwise fun j i=>j≠i/\(M.getD j 0).testBit i=false/\∀ x o,ops[j]? = some x->ops[i]? = some o->(M.getD i 0).testBit j=true∨Fm C lt ops x o
theorem p9 {C:Cfg R} {lt:Bool} {ops:Array Oper} (h:gT lt ops.toList=true):iS ops (dy ops.toList)/\o0 C lt ops (dy ops.toList) [] (List.range ops.size):=by
 obtain ⟨M,e,h1,h2⟩:=sa h
 rw [<- e]
 refine ⟨⟨h1,fun i o hi=>⟨(h2 i o hi).1,(h2 i o hi).2.1⟩⟩,fun i=>by rw [List.mem_range];simp,?_⟩
 have:=List.pairwise_lt_range (n:=ops.size)
 refine this.imp_of_mem fun {j i} hj hi hlt=>⟨by omega,?_,fun x o hx ho=>((h2 i o ho).2.2 j x hlt hx).imp id fun ha => ?_⟩
 ·cases hb:(M.getD j 0).testBit i with
  | false=>rfl
  | true =>
   have hj':=List.mem_range.1 hj
   have:=((h2 j _ (Array.getElem?_eq_getElem hj')).1 i hb).1
   omega
 ·obtain ⟨g1,g2⟩:=apart_spec ha
  exact ⟨g1,.inl g2⟩
theorem o5 {ops:Array Oper} {x y:Oper} (h:Au ops.toList x y=true):rJ ops x y:=by
 unfold Au at h
 simp only [Bool.and_eq_true] at h
 obtain ⟨h2,h3⟩:=h
 refine ⟨fun d hd hin => ?_,fun d hd hin => ?_,fun d hd hy => ?_⟩
 ·rw [hd] at h2
  simp only [Bool.and_eq_true,Bool.not_eq_true',List.any_eq_false] at h2
  exact h2.1 d hin (Nat.beq_refl d)
 ·rw [hd] at h3
  simp only [Bool.not_eq_true',List.any_eq_false] at h3
  exact h3 d hin (Nat.beq_refl d)
 ·rw [hd] at h2
  simp only [Bool.and_eq_true,Bool.not_eq_true',List.any_eq_false] at h2
  exact h2.2 d (by rw [hy];simp) (Nat.beq_refl d)
theorem kH (lt:Bool) (ops:List Oper) (ms:List Nat):∀ (l:List Nat),mR lt ops ms l=true->l.Pairwise fun j i=>uZ lt ops ms j i=true
 | [],_ => .nil
 | j::r,h=>by
  simp only [mR,Bool.and_eq_true,List.all_eq_true] at h
  exact .cons h.1 (kH lt ops ms r h.2)
theorem p8 {C:Cfg R} {lt:Bool} {ops:Array Oper} (hL:Nat.beq C.base 0=false) (h:kc lt ops.toList=true):iS ops (dy ops.toList)/\o0 C lt ops (dy ops.toList) [] (te ops.toList (dy ops.toList)):=by
 unfold kc at h
 rw [Bool.and_eq_true] at h
 refine ⟨zE h.1,fun i => ?_,(kH _ _ _ _ h.2).imp fun {j i} hp => ?_⟩
 ·unfold te
  rw [List.mem_append,List.mem_filter,List.mem_filter,List.mem_range]
  cases ug ops.toList (dy ops.toList) i <;> simp
 ·unfold uZ at hp
  simp only [Bool.and_eq_true,Bool.not_eq_true',Bool.or_eq_true] at hp
  obtain ⟨h1,h2,h3⟩:=hp
  refine ⟨fun e=>by (subst e;rw [Nat.beq_refl] at h1;cases h1),h2,fun x o hx ho=>h3.imp id fun h3 => ?_⟩
  have hx':ops.toList[j]? = some x:=by simpa using hx
  have ho':ops.toList[i]? = some o:=by simpa using ho
  rw [hx',ho'] at h3
  simp only [Bool.or_eq_true,Bool.and_eq_true] at h3
  rcases h3 with h3|⟨⟨ha,hc⟩,hb⟩
  ·obtain ⟨g1,g2⟩:=apart_spec h3
   exact ⟨g1,.inl g2⟩
  ·exact ⟨o5 hb,.inr ⟨ha,hc,hL⟩⟩
section
variable {P:Program} {E:Env} {s:St} {a:Act} {w:World} {κ : St->Option R} {r:R} {C:Cfg R} {tab:cb} {ops:Array Oper}
def cZ (ord:List Nat) (listed:Array Bool):List Nat:=ord.filter fun i => !listed.getD i true
theorem dP {ord:List Nat} {i:Nat} {listed:Array Bool}:i∈cZ ord listed ↔ i∈ord/\listed.getD i true=false:=by
 unfold cZ;rw [List.mem_filter];simp
theorem oo {ord:List Nat} {i:Nat} {listed:Array Bool} (hnd:ord.Pairwise (· ≠ ·)) (hi:i<listed.size) {xs ys:List Nat} (h:cZ ord listed=xs++i::ys):cZ ord (listed.setIfInBounds i true)=xs++ys:=by
 have h1:cZ ord (listed.setIfInBounds i true)=(cZ ord listed).filter (fun j=>decide (j≠i)):=by
  unfold cZ
  rw [List.filter_filter]
  refine List.filter_congr fun j hj => ?_
  rw [Array.getD_eq_getD_getElem?,Array.getD_eq_getD_getElem?,Array.getElem?_setIfInBounds]
  by_cases e:i=j
  ·subst e;simp [hi]
  ·rw [if_neg e];simp [Ne.symm e]
 have hp:(cZ ord listed).Pairwise (· ≠ ·):=List.Pairwise.filter _ hnd
 rw [h1,h,List.filter_append,List.filter_cons]
 rw [h,List.pairwise_append] at hp
 obtain ⟨p1,p2,p3⟩:=hp
 rw [List.pairwise_cons] at p2
 rw [if_neg (by simp)]
 congr 1
 ·refine List.filter_eq_self.2 fun j hj => ?_
  have:=p3 j hj i (by simp);simpa using this
 ·refine List.filter_eq_self.2 fun j hj => ?_
  have:=p2.1 j hj;simpa using Ne.symm this
theorem wP (ops:Array Oper) (xs ys:List Nat):(xs++ys).filterMap (ops[·]?)=xs.filterMap (ops[·]?)++ys.filterMap (ops[·]?):=List.filterMap_append
theorem mO {T:List Nat} {j:Nat}:DD T j=true ↔ j∈T:=by
 unfold DD
 rw [List.any_eq_true]
 exact ⟨fun ⟨t,h1,h2⟩=>Nat.eq_of_beq_eq_true h2▸h1,fun h=>⟨j,h,Nat.beq_refl j⟩⟩
theorem ml {ms T:List Nat} {i j:Nat} (h:kI ms T i=true) (hj:j<i) (ht:j ∉ T):(ms.getD i 0).testBit j=true:=by
 unfold kI at h
 rw [Bool.and_eq_true,List.all_eq_true] at h
 have:=h.1 j (List.mem_range.2 hj)
 rw [Bool.or_eq_true] at this
 exact this.resolve_left fun h=>ht (mO.1 h)
theorem kJ {ms T:List Nat} {i j:Nat} (h:kI ms T i=true) (hj:i<j) (hl:j<ms.length) (ht:j ∉ T):(ms.getD j 0).testBit i=true:=by
 unfold kI at h
 rw [Bool.and_eq_true,List.all_eq_true,List.all_eq_true] at h
 have:=h.2 j (List.mem_range.2 hl)
 rw [Bool.or_eq_true,Bool.or_eq_true] at this
 rcases this with h|h|h
 ·have:=Nat.le_of_ble_eq_true h;omega
 ·exact absurd (mO.1 h) ht
 ·exact h
theorem lD {ms T:List Nat} {r:List Nat}:∀ (xs:List Nat) {s:St},(∀ j∈xs,j<ops.size/\kI ms T j=false)->gB C ops ms T (xs++r) s κ = dD C true ops (xs.filterMap (ops[·]?)) s (fun s'=>gB C ops ms T r s' κ)
 | [],s,_=>rfl
 | j::xs,s,h=>by
  obtain ⟨h1,h2⟩:=h j (by simp)
  have hj:ops[j]? = some ops[j]:=Array.getElem?_eq_getElem h1
  rw [List.filterMap_cons_some (by exact hj)]
  show gB C ops ms T (j::(xs++r)) s κ = cq C true ops ops[j] s (fun s'=>dD C true ops (xs.filterMap (ops[·]?)) s' (fun s'=>gB C ops ms T r s' κ))
  simp only [gB,hj,h2,Bool.not_false]
  congr 1
  funext s'
  exact lD xs fun k hk=>h k (by simp [hk])
theorem tA {c:Cx} {x:SV} {v:Value} {k:Nat} (h:S2 c x v) (hk:tok x=some k):c.D k:=by
 cases x <;> simp only [tok] at hk <;> try (cases hk;done)
 case cls g ts =>
  cases ts with
  | nil=>cases hk
  | cons u us=>simp only [List.head?_cons,Option.some.injEq] at hk;subst hk;exact h.1 u (by simp)
 all_goals
  simp only [Option.some.injEq] at hk;subst hk
  exact h.1
theorem yf {c:Cx} {x:SV} {v:Value} {k:Nat} (h:SL c x v) (hk:tok x=some k):c.D k:=by
 cases x <;> simp only [tok] at hk <;> try (cases hk;done)
 case cls g ts =>
  cases ts with
  | nil=>cases hk
  | cons u us=>simp only [List.head?_cons,Option.some.injEq] at hk;subst hk;exact h.1 u (by simp)
 all_goals
  simp only [Option.some.injEq] at hk;subst hk
  exact h.1
theorem tN {A B:Type} {S:A->B->Prop}:∀ {l:List A} {m:List B},PW S l m->∀ x∈l,∃ y,S x y
 | [],_,_,x,hx=>by cases hx
 | a::l,b::m,h,x,hx=>by
  rcases List.mem_cons.1 hx with rfl|hx
  ·exact ⟨b,h.1⟩
  ·exact tN h.2 x hx
 | _::_,[],h,_,_=>h.elim
theorem zp {c:Cx} {x z:SV} {v:Value} {k:Nat} (h:S2 c x v) (hz:z∈leaves x) (hk:tok z=some k):c.D k:=by
 rcases fh x with ⟨l,rfl⟩|hn
 ·obtain ⟨cs,rfl,hp⟩:=gO h
  obtain ⟨u,hu⟩:=tN hp z hz
  exact yf hu hk
 ·have:z=x:=by
   have hl:leaves x=[x]:=by cases x <;> first|rfl|exact absurd rfl (hn _)
   rw [hl] at hz;simpa using hz
  subst this
  exact tA h hk
theorem Ah (hP:Ok P C.ty) (hE:cS C tab E) (hD:∀ g,bR P C.ty tab g (C.call g)) {lt:Bool} (hLt:lt=true->xQ C) {M T ord:List Nat} (hpo:iS ops M) (hord:o0 C lt ops M T ord) {Q:Exit->Act->World->Prop} (hQ:∀ s' a' w',κ s'=some r->ci E s' a' w'->Q .normal a' w') :
  ∀ (fuel:Nat) (listed:Array Bool) {s:St} {a:Act} {w:World},(∀ j∈T,listed.getD j true=true)->listed.size=ops.size->(∀ i,i<ops.size->listed.getD i false=true->∀ j,(M.getD i 0).testBit j=true->listed.getD j false=true) ->
   (cZ ord listed).length=fuel->ci E s a w->gB C ops M T (cZ ord listed) s κ = some r->wpAny P .any ops Q fuel listed a w:=by
 obtain ⟨hMl,hM⟩:=hpo
 obtain ⟨hmem,hpw⟩:=hord
 have hnd:ord.Pairwise (· ≠ ·):=hpw.imp fun h=>h.1
 intro fuel
 induction fuel with
 | zero =>
  intro listed s a w hT hs hinv hl hr hk
  have hnT:∀ j,listed.getD j true=false->j ∉ T:=fun j hj ht=>by rw [hT j ht] at hj;cases hj
  have h0:cZ ord listed=[]:=List.eq_nil_of_length_eq_zero hl
  refine ⟨?_,?_⟩
  ·unfold Region.ready
   refine List.filter_eq_nil_iff.2 fun i hi => ?_
   have:i ∉ cZ ord listed:=by rw [h0];simp
   rw [dP,hmem] at this
   have hlt:=List.mem_range.1 hi
   have:listed.getD i true=true:=by
    cases hv:listed.getD i true with
    | true=>rfl
    | false=>exact absurd ⟨⟨hlt,hnT i hv⟩,hv⟩ this
   rw [this];simp
  ·rw [h0] at hk;exact hQ s a w hk hr
 | succ fuel ih =>
  intro listed s a w hT hs hinv hl hr hk
  have hnT:∀ j,listed.getD j true=false->j ∉ T:=fun j hj ht=>by rw [hT j ht] at hj;cases hj
  refine ⟨fun hnil => ?_,fun i hi => ?_⟩
  ·exfalso
   cases hrest:cZ ord listed with
   | nil=>rw [hrest] at hl;simp at hl
   | cons i ys =>
    have him:i∈cZ ord listed:=by rw [hrest];simp
    obtain ⟨hlt,hun⟩:=dP.1 him
    have hlt:=((hmem i).1 hlt).1
    have:i∈Region.ready .any ops listed:=by
     unfold Region.ready
     rw [List.mem_filter]
     refine ⟨List.mem_range.2 hlt,?_⟩
     rw [hun,Array.getElem?_eq_getElem hlt]
     simp only [Bool.not_false,Option.map_some,Option.getD_some,Bool.true_and]
     rw [<- Array.all_toList,List.all_eq_true]
     intro e he
     simp only [Bool.or_eq_true,Bool.not_eq_true']
     cases hb:Region.binds .any e with
     | false=>exact .inl rfl
     | true =>
      right
      obtain ⟨m1,m2⟩:=hM i _ (Array.getElem?_eq_getElem hlt)
      have hlt2:=(m1 _ (m2 e he hb)).1
      have hnot:e.on ∉ cZ ord listed:=fun hin=>by
       have hp:(cZ ord listed).Pairwise _:=List.Pairwise.filter _ hpw
       rw [hrest] at hin hp
       rcases List.mem_cons.1 hin with e1|h1
       ·omega
       ·have:=((List.pairwise_cons.1 hp).1 _ h1).2.1
        rw [m2 e he hb] at this;cases this
      have hlt3:e.on<listed.size:=by omega
      rw [dP,hmem] at hnot
      rw [Array.getD_eq_getD_getElem?,Array.getElem?_eq_getElem hlt3] at hnot ⊢
      simp only [Option.getD_some] at hnot ⊢
      cases hv:listed[e.on] with
      | true=>rfl
      | false=>exact absurd ⟨⟨by omega,hnT _ (by rw [Array.getD_eq_getD_getElem?,Array.getElem?_eq_getElem hlt3];exact hv)⟩,hv⟩ hnot
    rw [hnil] at this;cases this
  ·have hi0:=hi
   unfold Region.ready at hi
   rw [List.mem_filter] at hi
   obtain ⟨hlt,hi⟩:=hi
   have hlt:=List.mem_range.1 hlt
   simp only [Bool.and_eq_true,Bool.not_eq_true'] at hi
   obtain ⟨hun,hafter⟩:=hi
   have hio:ops[i]? = some ops[i]:=Array.getElem?_eq_getElem hlt
   rw [hio] at hafter
   simp only [Option.map_some,Option.getD_some] at hafter
   rw [<- Array.all_toList,List.all_eq_true] at hafter
   obtain ⟨m1,m2⟩:=hM i _ hio
   have hbits:∀ j,(M.getD i 0).testBit j=true->listed.getD j false=true:=by
    intro j hj
    obtain ⟨_,e,he,hb,h⟩:=m1 j hj
    have hlist:listed.getD e.on false=true:=by
     have:=hafter e he
     simpa [hb] using this
    rcases h with rfl|h
    ·exact hlist
    ·have:=(m1 e.on (m2 e he hb)).1
     exact hinv e.on (by omega) hlist j h
   obtain ⟨xs,ys,hxy⟩:=List.append_of_mem (dP.2 ⟨(hmem i).2 ⟨hlt,hnT i hun⟩,hun⟩)
   have hp:(cZ ord listed).Pairwise _:=List.Pairwise.filter _ hpw
   rw [hxy,List.pairwise_append] at hp
   have hapt:∀ x∈xs.filterMap (ops[·]?),Fm C lt ops x ops[i]:=by
    intro x hx
    obtain ⟨j,hj,hjx⟩:=List.mem_filterMap.1 hx
    have hji:=hp.2.2 j hj i (by simp)
    have hjs:j<ops.size:=(Array.getElem?_eq_some_iff.1 hjx).1
    refine (hji.2.2 x _ hjx hio).resolve_left fun hb => ?_
    have h1:=hbits j hb
    have h2:=(dP.1 (show j∈cZ ord listed by rw [hxy];simp [hj])).2
    have hlt3:j<listed.size:=by omega
    rw [Array.getD_eq_getD_getElem?,Array.getElem?_eq_getElem hlt3] at h1 h2
    simp only [Option.getD_some] at h1 h2
    rw [h1] at h2;cases h2
   have hunl:∀ j∈xs,(j≠i/\(M.getD j 0).testBit i=false)/\j<ops.size/\listed.getD j false=false:=by
    intro j hj
    have h2:=dP.1 (show j∈cZ ord listed by rw [hxy];simp [hj])
    have hji:=hp.2.2 j hj i (by simp)
    refine ⟨⟨hji.1,hji.2.1⟩,((hmem j).1 h2.1).1,?_⟩
    have hlt3:j<listed.size:=by rw [hs];exact ((hmem j).1 h2.1).1
    have h3:=h2.2
    rw [Array.getD_eq_getD_getElem?,Array.getElem?_eq_getElem hlt3] at h3 ⊢
    exact h3
   have hnopin:∀ j∈xs,kI M T j=false:=by
    intro j hj
    obtain ⟨h1,h2,h3⟩:=hunl j hj
    cases hpn:kI M T j with
    | false=>rfl
    | true =>
     rcases Nat.lt_or_gt_of_ne h1.1 with hlt1|hlt1
     ·have:=hbits j (kJ hpn hlt1 (by omega) (hnT i hun))
      rw [h3] at this;cases this
     ·have:=ml hpn hlt1 (hnT i hun)
      rw [h1.2] at this;cases this
   have hnew:∀ s':St,gB C ops M T (cZ ord (listed.setIfInBounds i true)) s' κ = dD C true ops (xs.filterMap (ops[·]?)) s' (fun s2=>gB C ops M T ys s2 κ):=by
    intro s'
    rw [oo hnd (by omega) hxy]
    exact lD xs fun j hj=>⟨(hunl j hj).2.1,hnopin j hj⟩
   have hfront:∃ q,cq C q ops ops[i] s (fun s'=>gB C ops M T (cZ ord (listed.setIfInBounds i true)) s' κ)=some r:=by
    simp only [hnew]
    cases hpn:kI M T i with
    | true =>
     have hx0:xs=[]:=by
      cases xs with
      | nil=>rfl
      | cons j xs =>
       obtain ⟨h1,h2,h3⟩:=hunl j (by simp)
       rcases Nat.lt_or_gt_of_ne h1.1 with hlt1|hlt1
       ·have:=hbits j (ml hpn hlt1 ((hmem j).1 (dP.1 (show j∈cZ ord listed by rw [hxy];simp)).1).2)
        rw [h3] at this;cases this
       ·have:=kJ hpn hlt1 (by omega) ((hmem j).1 (dP.1 (show j∈cZ ord listed by rw [hxy];simp)).1).2
        rw [h1.2] at this;cases this
     subst hx0
     rw [hxy] at hk
     simp only [List.nil_append,gB,hio,hpn,Bool.not_true] at hk
     exact ⟨false,hk⟩
    | false =>
     refine ⟨true,?_⟩
     have hk2:gB C ops M T ((xs++[i])++ys) s κ = some r:=by rw [List.append_assoc];rw [hxy] at hk;exact hk
     rw [lD (xs++[i]) (fun j hj=>by
      rcases List.mem_append.1 hj with hj|hj
      ·exact ⟨(hunl j hj).2.1,hnopin j hj⟩
      ·simp only [List.mem_singleton] at hj;subst hj;exact ⟨hlt,hpn⟩)] at hk2
     rw [wP,List.filterMap_cons_some hio,List.filterMap_nil] at hk2
     show dD C true ops (ops[i]::xs.filterMap (ops[·]?)) s (fun s2=>gB C ops M T ys s2 κ)=some r
     have hend:dD C true ops (ops[i]::(xs.filterMap (ops[·]?)++[])) s (fun s2=>gB C ops M T ys s2 κ)=some r:=by
      have hxs:=fun x hx=>hapt x hx
      have hgood:∀ (x:Oper) (s:St),(∃ a w,ci E s a w)->Tk ops x s/\Nm s.objs s.next/\ES s/\EB s:=by
       rintro x s ⟨a,w,β,Rt,Ra,h⟩
       refine ⟨fun t _ k hk=>tA (h.slots t) hk,fun t o ho=>h.lt t o ho,fun t z hz k hk=>zp (h.slots t) hz hk,fun t ty ls ho z hz j hj => ?_⟩
       obtain ⟨cs,_,_,hp⟩:=h.objs t _ ho
       obtain ⟨u,hu⟩:=tN hp z hz
       have hn:z ≠ .nos:=fun e=>by subst e;cases hj
       have hu':SL (bg E s w β Rt Ra) z u:=by
        unfold jP at hu;split at hu
        ·exact absurd rfl hn
        ·exact hu
       exact yf hu' hj
      by_cases hc:cls lt ops[i]=0
      ·by_cases hn:∀ K:St->Option R,cq C true ops ops[i] s K=none
       ·rw [BW hLt hc _ (fun x hx=>(hxs x hx).1) hn] at hk2
        obtain ⟨_,_,_,hbad,_⟩:=kF hP hE hD xs (fun j hj=>(hunl j hj).2.1) hr hk2
        cases hbad
       ·have hn:∃ K,cq C true ops ops[i] s K≠none:=Classical.not_forall.1 hn
        obtain ⟨K,hK⟩:=hn
        obtain ⟨r0,hr0⟩:=Option.ne_none_iff_exists'.1 hK
        obtain ⟨u,hdet⟩:=lP (lt:=lt) (by omega) hr0
        rw [BT hLt hc _ (fun x hx=>(hxs x hx).1) hdet] at hk2
        rw [<- hk2];exact hdet _
      ·by_cases hc1:cls lt ops[i]<=1
       ·have hx2:∀ x∈xs.filterMap (ops[·]?),rJ ops x ops[i]/\cls lt x<=2:=fun x hx=>by
         obtain ⟨g1,g2⟩:=hxs x hx
         refine ⟨g1,?_⟩
         rcases g2 with g2|⟨g2,_⟩
         ·omega
         ·rw [wL g2];exact Nat.le_refl _
        obtain ⟨ht,hnm,_⟩:=hgood ops[i] s ⟨a,w,hr⟩
        by_cases hn:∀ K:St->Option R,cq C true ops ops[i] s K=none
        ·rw [BX hLt hc1 _ hx2 ht hnm hn] at hk2
         obtain ⟨_,_,_,hbad,_⟩:=kF hP hE hD xs (fun j hj=>(hunl j hj).2.1) hr hk2
         cases hbad
        ·have hn:∃ K,cq C true ops ops[i] s K≠none:=Classical.not_forall.1 hn
         obtain ⟨K,hK⟩:=hn
         obtain ⟨r0,hr0⟩:=Option.ne_none_iff_exists'.1 hK
         obtain ⟨u,hdet⟩:=lP (lt:=lt) hc1 hr0
         rw [BU hLt hc1 _ hx2 ht hnm hdet] at hk2
         rw [<- hk2];exact hdet _
       ·refine v8 hLt (fun s=>∃ a w,ci E s a w) hgood _ (fun x hx => ?_) (fun x hx s1 u ob' n' => ?_) ⟨a,w,hr⟩ hk2
        ·obtain ⟨g1,g2⟩:=hxs x hx
         exact ⟨g1,g2.imp (fun g2=>by omega) id⟩
        ·rintro ⟨a1,w1,β1,Rt1,Ra1,h1⟩ hdet
         obtain ⟨j,hj,hjx⟩:=List.mem_filterMap.1 hx
         have hex:∃ s' a' w',(fun s2:St=>@ite _ (s2=(⟨s1.slots,ob',n'⟩:St).put x.dst u) (Classical.propDecidable _) (some r) none) s'=some r/\ci E s' a' w' :=
          so (ff hP hE hD h1 hjx ((hdet _).trans (by simp)))
         obtain ⟨s',a',w',he,hr'⟩:=hex
         simp only at he
         split at he
         ·rename_i e;subst e;exact ⟨a',w',hr'⟩
         ·cases he
     rwa [List.append_nil] at hend
   obtain ⟨q,hfront⟩:=hfront
   obtain ⟨β,Rt,Ra,h⟩:=hr
   refine ff hP hE hD h hio hfront _ _ fun s' a' w' hk' hr' => ?_
   refine ih (listed.setIfInBounds i true) (fun j hj => ?_) (by simpa using hs) (fun i' hlt' hi' j hj => ?_) ?_ hr' hk'
   ·have:=hT j hj
    rw [Array.getD_eq_getD_getElem?] at this ⊢
    rw [Array.getElem?_setIfInBounds]
    split
    ·split <;> rfl
    ·exact this
   ·have get:∀ k,(listed.setIfInBounds i true).getD k false=true ↔ k=i∨listed.getD k false=true:=by
     intro k
     rw [Array.getD_eq_getD_getElem?,Array.getD_eq_getD_getElem?,Array.getElem?_setIfInBounds]
     by_cases e:i=k
     ·subst e;simp [hs,hlt]
     ·rw [if_neg e];simp [Ne.symm e]
    rw [get] at hi' ⊢
    right
    rcases hi' with rfl|hi'
    ·exact hbits j hj
    ·exact hinv i' hlt' hi' j hj
   ·rw [oo hnd (by omega) hxy]
    rw [hxy] at hl
    simp at hl ⊢;omega
theorem Bd {lt:Bool} {M T ord:List Nat} (h:o0 C lt ops M [] ord):o0 C lt ops M T (kG T ord):=by
 refine ⟨fun i => ?_,List.Pairwise.filter _ h.2⟩
 unfold kG
 rw [List.mem_filter,h.1 i]
 simp only [Bool.not_eq_true',List.mem_nil_iff,not_false_eq_true,and_true]
 constructor
 ·rintro ⟨h1,h2⟩;exact ⟨h1,fun ht=>by rw [mO.2 ht] at h2;cases h2⟩
 ·rintro ⟨h1,h2⟩
  refine ⟨h1,?_⟩
  cases hb:DD T i with
  | false=>rfl
  | true=>exact absurd (mO.1 hb) h2
theorem vh {ms:List Nat} {i:Nat} (h:i∈tF ops ms):pW ops=true/\i<ops.size/\ms.getD i 1=0/\sf ops i=true:=by
 unfold tF at h
 cases hn:pW ops with
 | false=>rw [hn] at h;cases h
 | true =>
  rw [hn,cond_true,List.mem_filter] at h
  simp only [Bool.and_eq_true] at h
  exact ⟨rfl,List.mem_range.1 h.1,Nat.eq_of_beq_eq_true h.2.1,h.2.2⟩
theorem oD {Qn:Act->World->Prop} {M:List Nat} (hpo:iS ops M):∀ (T:List Nat) (fuel:Nat) (listed:Array Bool) {s:St} {a:Act} {w:World},T.Nodup->(∀ i∈T,pW ops=true/\i<ops.size/\M.getD i 1=0/\sf ops i=true)->(∀ i∈T,listed.getD i true=false)->listed.size=ops.size->ci E s a w ->
  (∀ a',ci E (jL ops T s) a' w->wpAny P .any ops (fun e a w=>e = .normal/\Qn a w) fuel (T.foldl (fun l i=>l.setIfInBounds i true) listed) a' w) ->
  wpAny P .any ops (fun e a w=>e = .normal/\Qn a w) (fuel+T.length) listed a w
 | [],fuel,listed,s,a,w,_,_,_,_,h,hn=>hn a h
 | i::T,fuel,listed,s,a,w,hnd,hT,hl,hs,⟨β,Rt,Ra,h⟩,hn=>by
  obtain ⟨hsel,hlt,hm0,hfree⟩:=hT i (by simp)
  have hnd':=List.nodup_cons.1 hnd
  have hio:ops[i]? = some ops[i]:=Array.getElem?_eq_getElem hlt
  unfold sf at hfree
  rw [hio] at hfree
  simp only [Bool.and_eq_true] at hfree
  obtain ⟨hmv,hfr⟩:=hfree
  unfold D1 at hmv
  rw [Bool.and_eq_true,Option.isNone_iff_eq_none] at hmv
  obtain ⟨hmv,hg⟩:=hmv
  obtain ⟨x,hx⟩:∃ x,ops[i].op = .move x:=by
   split at hmv
   ·rename_i x e;exact ⟨x,e⟩
   ·cases hmv
  have hst:jL ops (i::T) s=jL ops T (s.put ops[i].dst (ev s x)):=by
   show jL ops T _=_
   rw [hio];simp only [hx]
  have hy:Yields P ops ops[i] (a.eval x) a := .inl ⟨by unfold Region.wanted;rw [hg],fun w=>by unfold execOp;rw [hx];rfl⟩
  have hlen:fuel+(i::T).length=(fuel+T.length)+1:=by simp;omega
  rw [hlen]
  refine wpAny_first hio (fun j o cs b ho e => ?_) (fun c a w hq=>by cases hq.1) _ _ _ _ (fun j oj hj hji hun hno => ?_) ?_ hy ?_
  ·have:=List.all_eq_true.1 hsel o (by have:=Array.mem_of_getElem? ho;simpa using this)
   rw [e] at this;cases this
  ·rw [List.all_eq_true] at hfr
   have h1:=hfr j (List.mem_range.2 (Array.getElem?_eq_some_iff.1 hj).1)
   rw [hj] at h1
   simp only [Bool.or_eq_true] at h1
   rcases h1 with h1|h1|h1
   ·exact absurd (Nat.eq_of_beq_eq_true h1) hji
   ·obtain ⟨e,he,hb⟩:=List.any_eq_true.1 h1
    rw [Bool.and_eq_true] at hb
    exact absurd (Nat.eq_of_beq_eq_true hb.2) (hno e (by simpa using he) hb.1)
   ·have hap:=o5 h1
    unfold Oper.apart
    have hla:∀ o:Oper,o.looksAt ops=looks ops.toList o:=fun o=>by
     unfold Oper.looksAt looks
     congr 1
     cases o.guard with
     | none=>rfl
     | some g=>obtain ⟨g,t⟩:=g;simp
    rw [hla,hla,Bool.and_eq_true]
    refine ⟨?_,?_⟩
    ·cases hd:ops[i].dst with
     | none=>rfl
     | some d =>
      have g1:=hap.xl d hd
      have g2:=hap.ne d hd
      simp [g1,g2]
    ·cases hd:oj.dst with
     | none=>rfl
     | some d =>
      have g1:=hap.yl d hd
      simp [g1]
  ·unfold Region.ready
   rw [List.mem_filter]
   refine ⟨List.mem_range.2 hlt,?_⟩
   rw [hl i (by simp),hio]
   simp only [Bool.not_false,Option.map_some,Option.getD_some,Bool.true_and]
   rw [<- Array.all_toList,List.all_eq_true]
   intro e he
   simp only [Bool.or_eq_true,Bool.not_eq_true']
   left
   cases hb:Region.binds .any e with
   | false=>rfl
   | true =>
    have h1:=(hpo.2 i _ hio).2 e he hb
    have hi':i<M.length:=by rw [hpo.1];exact hlt
    rw [List.getD_eq_getElem?_getD,List.getElem?_eq_getElem hi'] at hm0 h1
    simp only [Option.getD_some] at hm0 h1
    rw [hm0] at h1;simp at h1
  ·refine oD hpo T fuel _ (s:=s.put ops[i].dst (ev s x)) hnd'.2 (fun j hj=>hT j (by simp [hj])) (fun j hj => ?_) (by simpa using hs) ⟨β,Rt,Ra,h.put _ (bH h x)⟩ (fun a' h' => ?_)
   ·have:=hl j (by simp [hj])
    have hne:i≠j:=fun e=>hnd'.1 (e▸hj)
    rw [Array.getD_eq_getD_getElem?,Array.getElem?_setIfInBounds,if_neg hne,<- Array.getD_eq_getD_getElem?];exact this
   ·exact hn a' (by rw [hst];exact h')
theorem og (hP:Ok P C.ty) (hE:cS C tab E) (hD:∀ g,bR P C.ty tab g (C.call g)) {id:Nat} {dr:Bool} (h:ci E s a w) (hk:xz C ops dr s κ = some r) {Qn:Act->World->Prop} (hQ:∀ s' a' w',κ s'=some r->ci E s' a' w'->Qn a' w'):(Code.region id ops dr).wp P (fun e a w=>e = .normal/\Qn a w) a w:=by
 have hQ':∀ s' a' w',κ s'=some r->ci E s' a' w'->(fun (e:Exit) a w=>e = .normal/\Qn a w) .normal a' w':=fun s' a' w' h1 h2=>⟨rfl,hQ s' a' w' h1 h2⟩
 cases dr with
 | false =>
  refine wp_region ?_
  rw [List.range_eq_range',show ops.size=ops.toList.length by simp]
  exact jD hP hE hD hQ' ops.toList 0 (by simp) h hk
 | true =>
  refine wp_region_any hP.mixed ?_
  unfold xz at hk
  simp only [cond_true] at hk
  have hx:ci E s a { w with drawn:=w.drawn+1 }:=by
   obtain ⟨β,Rt,Ra,h⟩:=h
   exact ⟨β,Rt,Ra,h.ig ⟨rfl,rfl,rfl,Nat.le_refl _,fun _ _ _=>rfl⟩⟩
  have main:∀ (T:List Nat) (s:St),T.Nodup->(∀ i∈T,pW ops=true/\i<ops.size/\(dy ops.toList).getD i 1=0/\sf ops i=true)->ci E s a { w with drawn:=w.drawn+1 }->Dg C ops (dy ops.toList) T (jL ops T s) κ = some r->wpAny P .any ops (fun e a w=>e = .normal/\Qn a w) ops.size (Array.replicate ops.size false) a { w with drawn:=w.drawn+1 }:=by
   intro T s hnd hT h hk
   have any:∀ (C':Cfg R) (lt:Bool) (ord:List Nat),(lt=true->xQ C')->(∀ g,bR P C'.ty tab g (C'.call g))->Ok P C'.ty->cS C' tab E->iS ops (dy ops.toList)->o0 C' lt ops (dy ops.toList) [] ord->(L:St->St)->(∀ s a w,ci E s a w->ci E (L s) a w)->gB C' ops (dy ops.toList) T (kG T ord) (L (jL ops T s)) κ = some r->wpAny P .any ops (fun e a w=>e = .normal/\Qn a w) ops.size (Array.replicate ops.size false) a { w with drawn:=w.drawn+1 }:=by
    intro C' lt ord hLt hD' hP' hE' hpo hord L hL hk
    have hord':=Bd (T:=T) hord
    have hsz:ops.size=(kG T ord).length+T.length:=by
     have hp:(kG T ord++T).Perm (List.range ops.size):=by
      refine (List.perm_ext_iff_of_nodup ?_ List.nodup_range).2 fun i => ?_
      ·rw [List.nodup_append]
       refine ⟨hord'.2.imp fun h=>h.1,hnd,fun x hx y hy e => ?_⟩
       subst e
       exact ((hord'.1 x).1 hx).2 hy
      ·rw [List.mem_append,hord'.1,List.mem_range]
       constructor
       ·rintro (h|h)
        ·exact h.1
        ·exact (hT i h).2.1
       ·intro h
        by_cases ht:i∈T
        ·exact .inr ht
        ·exact .inl ⟨h,ht⟩
     have:=hp.length_eq
     simpa using this.symm
    have hget:∀ (T:List Nat) (l:Array Bool) (j:Nat),(T.foldl (fun l i=>l.setIfInBounds i true) l).size=l.size/\∀ b,(T.foldl (fun l i=>l.setIfInBounds i true) l).getD j b=if j∈T/\j<l.size then true else l.getD j b:=by
     intro T
     induction T with
     | nil=>intro l j;simp
     | cons t T ih =>
      intro l j
      obtain ⟨h1,h2⟩:=ih (l.setIfInBounds t true) j
      refine ⟨by rw [List.foldl_cons,h1];simp,fun b => ?_⟩
      rw [List.foldl_cons,h2]
      simp only [Array.size_setIfInBounds,List.mem_cons]
      by_cases h3:j<l.size
      ·by_cases h4:j∈T
       ·simp [h3,h4]
       ·rw [Array.getD_eq_getD_getElem?,Array.getElem?_setIfInBounds]
        by_cases h5:t=j
        ·subst h5;simp [h3]
        ·rw [if_neg h5,<- Array.getD_eq_getD_getElem?]
         have:¬ j=t:=fun e=>h5 e.symm
         simp [h4,this]
      ·have:(l.setIfInBounds t true).getD j b=l.getD j b:=by
        rw [Array.getD_eq_getD_getElem?,Array.getD_eq_getD_getElem?]
        simp [h3]
       simp [h3,this]
    rw [hsz]
    refine oD hpo T _ _ hnd hT (fun i hi => ?_) (by simp;exact hsz.symm) h fun a' h' => ?_
    ·have:=(hT i hi).2.1
     rw [Array.getD_eq_getD_getElem?,Array.getElem?_replicate,if_pos (by omega)];rfl
    ·obtain ⟨g1,_⟩:=hget T (Array.replicate ((kG T ord).length+T.length) false) 0
     have g2:=fun j=>(hget T (Array.replicate ((kG T ord).length+T.length) false) j).2
     have hrest:cZ (kG T ord) (T.foldl (fun l i=>l.setIfInBounds i true) (Array.replicate ((kG T ord).length+T.length) false))=kG T ord:=by
      unfold cZ
      refine List.filter_eq_self.2 fun i hi => ?_
      obtain ⟨h1,h2⟩:=(hord'.1 i).1 hi
      rw [g2,if_neg (fun h=>h2 h.1),Array.getD_eq_getD_getElem?,Array.getElem?_replicate,if_pos (by omega)];rfl
     refine Ah hP' hE' hD' hLt hpo hord' hQ' _ _ (fun j hj => ?_) (by rw [g1];simp;exact hsz.symm) (fun i hi hl j hj => ?_) (by rw [hrest]) (hL _ _ _ h') (by rw [hrest];exact hk)
     ·rw [g2]
      split
      ·rfl
      ·rename_i hn
       have:=(hT j hj).2.1
       exact absurd ⟨hj,by rw [Array.size_replicate];omega⟩ hn
     ·rw [g2] at hl
      split at hl
      ·rename_i hi2
       exfalso
       have hm0:=(hT i hi2.1).2.2.1
       have hi':i<(dy ops.toList).length:=by rw [hpo.1];exact hi
       rw [List.getD_eq_getElem?_getD,List.getElem?_eq_getElem hi'] at hm0 hj
       simp only [Option.getD_some] at hm0 hj
       rw [hm0] at hj;simp at hj
      ·rw [Array.getD_eq_getD_getElem?,Array.getElem?_replicate] at hl
       split at hl <;> cases hl
   unfold Dg at hk
   cases h0:gT false ops.toList with
   | true =>
    rw [h0] at hk
    obtain ⟨g1,g2⟩:=p9 (C:=C) h0
    exact any C false _ (fun h=>by cases h) hD hP hE g1 g2 (fun s=>s) (fun _ _ _ h=>h) hk
   | false =>
    rw [h0,cond_false] at hk
    cases h1:gT true ops.toList with
    | true =>
     rw [h1,cond_true] at hk
     obtain ⟨g1,g2⟩:=p9 (C:=lz C) h1
     refine any (lz C) true _ (fun _ g xs κ hv => ?_) (fun g => ?_) hP ⟨hE.1,hE.2⟩ g1 g2 (fun s=>s) (fun _ _ _ h=>h) hk
     ·show (bif jj xs then none else C.call g xs κ)=none
      rw [hv];rfl
     ·intro args κ r' hk'
      have hk':(bif jj args then none else C.call g args κ)=some r':=hk'
      exact hD g args κ r' (eo hk').2
    | false =>
     rw [h1,cond_false] at hk
     generalize hs':jL ops T s=s1 at hk
     by_cases hnx:s1.next=0
     ·-- a state with no names laid by: it cannot be
      exfalso
      have hpn:∀ (s:St) (d:Option Nat) (v:SV),(s.put d v).next=s.next:=fun s d v=>by cases d <;> rfl
      have hts:∀ (T:List Nat) (s:St),(jL ops T s).next=s.next:=by
       intro T
       induction T with
       | nil=>intro s;rfl
       | cons t T ih =>
        intro s
        show (jL ops T _).next=_
        rw [ih]
        split
        ·split
         ·exact (hpn _ _ _)
         ·rfl
        ·rfl
      obtain ⟨β,Rt,Ra,h⟩:=h
      have:=h.nx
      rw [<- hs',hts] at hnx
      omega
     ·have hb:∀ C':Cfg R,Nat.beq (m0 C' s1.next).base 0=false:=fun C'=>by
       show Nat.beq s1.next 0=false
       cases hb:Nat.beq s1.next 0 with
       | false=>rfl
       | true=>exact absurd (Nat.eq_of_beq_eq_true hb) hnx
      have hlay:∀ s a w,ci E s a w->ci E (sI s) a w:=by
       rintro s a w ⟨β,Rt,Ra,h⟩
       exact ⟨β,Rt,Ra,⟨⟨h.objs,fun t o ho=>Nat.lt_of_lt_of_le (h.lt t o ho) (Nat.le_add_right _ _),h.cx,h.apart,h.sub,h.rlt,h.fr,h.rt0,h.ra0,h.rt,Nat.le_trans h.nx (Nat.le_add_right _ _),h.pin⟩,h.len,h.defers,h.slots⟩⟩
      subst hs'
      cases h2:kc false ops.toList with
      | true =>
       rw [h2,cond_true] at hk
       obtain ⟨g1,g2⟩:=p8 (C:=m0 C (jL ops T s).next) (hb _) h2
       exact any (m0 C (jL ops T s).next) false _ (fun h=>by cases h) hD hP ⟨hE.1,hE.2⟩ g1 g2 sI hlay hk
      | false =>
       rw [h2,cond_false] at hk
       obtain ⟨hd,hk⟩:=b8 hk
       obtain ⟨g1,g2⟩:=p8 (C:=m0 (lz C) (jL ops T s).next) (hb _) hd
       refine any (m0 (lz C) (jL ops T s).next) true _ (fun _ g xs κ hv => ?_) (fun g => ?_) hP ⟨hE.1,hE.2⟩ g1 g2 sI hlay hk
       ·show (bif jj xs then none else C.call g xs κ)=none
        rw [hv];rfl
       ·intro args κ r' hk'
        have hk':(bif jj args then none else C.call g args κ)=some r':=hk'
        exact hD g args κ r' (eo hk').2
  refine main _ s ?_ (fun i hi=>vh hi) hx hk
  unfold tF
  cases pW ops with
  | true=>exact List.Pairwise.filter _ List.nodup_range
  | false=>exact List.nodup_nil
end
end Go.Proofs.Ab
namespace Go.Proofs.Ab
open Go
variable {R:Type}
section
variable {E:Env} {s:St} {a:Act} {w:World} {β : Nat->Bl} {Rt Ra:Nat->Prop} {C:Cfg R}
theorem jQ (a:Act) (i:Nat):a.put (some i) (a.tmps.getD i undef)=a:=by
 have:a.tmps.setIfInBounds i (a.tmps.getD i undef)=a.tmps:=by
  apply Array.ext
  ·simp
  ·intro j h1 h2
   rw [Array.getElem_setIfInBounds]
   split
   ·rename_i e;subst e;simp [Array.getD_eq_getD_getElem?,h2]
   ·rfl
 show { a with tmps:=a.tmps.setIfInBounds i (a.tmps.getD i undef) }=a
 rw [this]
theorem qy {α : Type} {S:SV -> α -> Prop}:∀ {l:List SV} {m:List α} (j:Nat) {x:SV},PW S l m->(∀ v,S (dE l j) v->S x v)->PW S (fp l j x) m
 | [],[],_,_,h,_=>h
 | _::_,_::_,0,_,h,hx=>⟨hx _ h.1,h.2⟩
 | _::_,_::_,j+1,_,h,hx=>⟨h.1,qy j h.2 hx⟩
 | [],_::_,_,_,h,_=>h.elim
 | _::_,[],_,_,h,_=>h.elim
theorem Rel.uV (h:Rel E s a w β Rt Ra) {e:Nat} (hT:∃ T,E.T e=some T):∃ β',Rel E (s.new (.row e [] true)) a w β' Rt Ra/\(bg E s w β Rt Ra).Le (bg E (s.new (.row e [] true)) w β' Rt Ra)/\(β' s.next).v = .slice none 0 0/\(β' s.next).arr=false:=by
 obtain ⟨T,hT⟩:=hT
 have hown:dO w false e T.sz (.slice none 0 0) ([]:List AV).length []:=⟨by simp,.inl ⟨rfl,rfl⟩⟩
 obtain ⟨h2,le⟩:=h.toRelO.add (.row e [] true) ⟨.slice none 0 0,0,T.sz,false⟩ (fun b hb=>by simp [bK,Value.ownBlock] at hb) (fun b hb=>by simp [bK,Value.ownBlock] at hb)
  (fun le=>⟨T,[],hT,rfl,hown,fun i j k hi=>by simp at hi⟩)
 refine ⟨_,⟨h2,h.len,h.defers,ec le h.slots⟩,le,?_⟩
 unfold dH;rw [if_pos rfl];exact ⟨rfl,rfl⟩
theorem sY {i j m:Nat} (hE:E.T=C.ty) (hm:uU C (j,m)=true) (h:ci E s a w):ci E (zz i j m s) a w:=by
 unfold zz
 split
 ·exact h
 ·split
  ·split
   ·exact ci.eO _ h
   ·exact h
  ·exact ci.eO _ h
  ·exact ci.eO _ h
 ·rename_i e
  have hT:∃ T,E.T e=some T:=by
   rw [hE];exact Option.isSome_iff_exists.1 hm
  obtain ⟨β,Rt,Ra,h⟩:=h
  split
  ·rename_i t off hi
   split
   ·rename_i ty ls ho
    split
    ·rename_i hn
     obtain ⟨β',h',le,hv,harr⟩:=h.uV hT
     have ho':(s.new (.row e [] true)).obj t=some (.var ty ls):=by rw [ef,if_neg (Nat.ne_of_lt (h.lt t _ ho))];exact ho
     refine ⟨β',Rt,Ra,h'.fR (w':=w) ho' _ (Fr.refl _ w) (fun b hb=>hb) fun le2 => ?_⟩
     obtain ⟨cs,q,g1,g2⟩:=h'.objs t _ ho'
     refine ⟨cs,q,g1,qy j (g2.imp fun _ _ hs=>hs.le le2) fun v hs => ?_⟩
     rw [hn] at hs
     have hv2:v = .slice none 0 0:=hs
     refine ⟨le2.D _ ⟨_,by rw [ef,if_pos rfl]⟩,?_,by rw [hv2];rfl,harr⟩
     rw [hv2];exact hv.symm
    ·exact ⟨β,Rt,Ra,h⟩
   ·exact ⟨β,Rt,Ra,h⟩
  ·rename_i hi
   obtain ⟨β',h',le,hv,harr⟩:=h.uV hT
   have hs:=h.slots i
   rw [hi] at hs
   have hv2:a.tmps.getD i undef = .slice none 0 0:=hs
   have:=h'.put (some i) (x := .own s.next) (v:=a.tmps.getD i undef) (cB (cL ⟨⟨_,by rw [ef,if_pos rfl]⟩,by rw [hv2];exact hv.symm,by rw [hv2];rfl,harr⟩))
   rw [jQ] at this
   exact ⟨_,_,_,this⟩
  ·rename_i l hi
   split
   ·rename_i hn
    obtain ⟨β',h',le,hv,harr⟩:=h.uV hT
    have hs:=(h.slots i).le le
    rw [hi] at hs
    obtain ⟨cs,e1,e2⟩:=gO hs
    have:=h'.put (some i) (x := .agg (fp l j (.own s.next))) (v:=a.tmps.getD i undef) (cB ⟨cs,e1,qy j e2 fun v hs=>by
     rw [hn] at hs
     have hv2:v = .slice none 0 0:=hs
     exact ⟨⟨_,by rw [ef,if_pos rfl]⟩,by rw [hv2];exact hv.symm,by rw [hv2];rfl,harr⟩⟩)
    rw [jQ] at this
    exact ⟨_,_,_,this⟩
   ·exact ⟨β,Rt,Ra,h⟩
  ·exact ⟨β,Rt,Ra,h⟩
theorem mc {i:Nat} (hE:E.T=C.ty):∀ (l:List (Nat × Nat)) {s:St},l.all (uU C)=true->ci E s a w->ci E (zA i l s) a w
 | [],_,_,h=>h
 | (j,m)::r,s,hm,h=>by
  simp only [List.all_cons,Bool.and_eq_true] at hm
  exact mc hE r hm.2 (sY hE hm.1 h)
theorem me (hE:E.T=C.ty):∀ (l:List (Nat × List (Nat × Nat))) {s:St},rW C l=true->ci E s a w->ci E (v7 l s) a w
 | [],_,_,h=>h
 | (i,l)::r,s,hm,h=>by
  simp only [rW,List.all_cons,Bool.and_eq_true] at hm
  exact me hE r hm.2 (mc hE l hm.1 h)
theorem fY:∀ (n i:Nat) (l:List (Nat × SV)) (k:Nat),dE (dS n i l) k = .no∨∃ v,(i+k,v)∈l/\dE (dS n i l) k=v
 | 0,_,_,_ => .inl (by simp [dS,dE])
 | n+1,i,[],k=>by
  cases k with
  | zero=>exact .inl rfl
  | succ k =>
   rcases fY n (i+1) [] k with h|⟨v,h,_⟩
   ·exact .inl h
   ·cases h
 | n+1,i,(j,v)::r,k=>by
  simp only [dS]
  cases hb:Nat.beq i j with
  | true =>
   have:=Nat.eq_of_beq_eq_true hb;subst this
   simp only [cond_true]
   cases k with
   | zero=>exact .inr ⟨v,by simp,rfl⟩
   | succ k =>
    rcases fY n (i+1) r k with h|⟨u,h,e⟩
    ·exact .inl h
    ·exact .inr ⟨u,by rw [show i+(k+1)=i+1+k by omega];simp [h],e⟩
  | false =>
   simp only [cond_false]
   cases k with
   | zero=>exact .inl rfl
   | succ k =>
    rcases fY n (i+1) ((j,v)::r) k with h|⟨u,h,e⟩
    ·exact .inl h
    ·exact .inr ⟨u,by rw [show i+(k+1)=i+1+k by omega];exact h,e⟩
theorem iK:∀ (n i:Nat) (l:List (Nat × SV)),(dS n i l).length=n
 | 0,_,_=>rfl
 | n+1,i,[]=>by simp [dS,iK n]
 | n+1,i,(j,v)::r=>by
  simp only [dS]
  cases Nat.beq i j <;> simp [iK n]
theorem pc (n:Nat):Nat.beq n n=true:=Nat.beq_refl n
theorem Cf {m n:Nat} (h:m≠n):Nat.beq m n=false:=by
 cases hb:Nat.beq m n with
 | false=>rfl
 | true=>exact absurd (Nat.eq_of_beq_eq_true hb) h
theorem ll:∀ (ρ : List (Nat × Nat)) {t u:Nat},fW t ρ = some u->(t,u) ∈ ρ
 | [],_,_,h=>by cases h
 | (a,b)::r,t,u,h=>by
  simp only [fW] at h
  cases hb:Nat.beq a t with
  | true =>
   have:=Nat.eq_of_beq_eq_true hb;subst this
   rw [hb] at h;cases h;simp
  | false=>rw [hb] at h;simp only [cond_false] at h;exact List.mem_cons_of_mem _ (ll r h)
theorem xr {ρ : List (Nat × Nat)} (h:(ρ.map (·.1)).Nodup) {t u u':Nat} (h1:(t,u) ∈ ρ) (h2:(t,u') ∈ ρ):u=u':=by
 induction ρ with
 | nil=>cases h1
 | cons p r ih =>
  simp only [List.map_cons,List.nodup_cons] at h
  rcases List.mem_cons.1 h1 with rfl|h1' <;> rcases List.mem_cons.1 h2 with e|h2'
  ·cases e;rfl
  ·exact absurd (List.mem_map.2 ⟨_,h2',rfl⟩) h.1
  ·subst e;exact absurd (List.mem_map.2 ⟨_,h1',rfl⟩) h.1
  ·exact ih h.2 h1' h2'
theorem xt {ρ : List (Nat × Nat)} (h:(ρ.map (·.2)).Nodup) {t t' u:Nat} (h1:(t,u) ∈ ρ) (h2:(t',u) ∈ ρ):t=t':=by
 induction ρ with
 | nil=>cases h1
 | cons p r ih =>
  simp only [List.map_cons,List.nodup_cons] at h
  rcases List.mem_cons.1 h1 with rfl|h1' <;> rcases List.mem_cons.1 h2 with e|h2'
  ·cases e;rfl
  ·exact absurd (List.mem_map.2 ⟨_,h2',rfl⟩) h.1
  ·subst e;exact absurd (List.mem_map.2 ⟨_,h1',rfl⟩) h.1
  ·exact ih h.2 h1' h2'
theorem ol (objs:List (Nat × Obj)) (ρ0:List (Nat × Nat)):∀ (ρ : List (Nat × Nat)) {u:Nat} {o:Obj},lookup u (oh objs ρ0 ρ)=some o->∃ t o',(t,u) ∈ ρ /\ lookup t objs=some o'/\o=o'.map (wk ρ0)
 | [],_,_,h=>by cases h
 | (x,y)::r,u,o,h=>by
  simp only [oh] at h
  split at h
  ·rename_i o' ho'
   simp only [lookup] at h
   cases hb:Nat.beq u y with
   | true =>
    have:=Nat.eq_of_beq_eq_true hb;subst this
    rw [hb] at h;cases h;exact ⟨x,o',by simp,ho',rfl⟩
   | false =>
    rw [hb] at h;simp only [cond_false] at h
    obtain ⟨t,o',h1,h2⟩:=ol objs ρ0 r h
    exact ⟨t,o',by simp [h1],h2⟩
  ·obtain ⟨t,o',h1,h2⟩:=ol objs ρ0 r h
   exact ⟨t,o',by simp [h1],h2⟩
theorem tu (objs:List (Nat × Obj)) (ρ0:List (Nat × Nat)):∀ (ρ : List (Nat × Nat)) {t u:Nat} {o:Obj},(t,u) ∈ ρ -> lookup t objs=some o->∃ o',lookup u (oh objs ρ0 ρ)=some o'
 | [],_,_,_,h,_=>by cases h
 | (x,y)::r,t,u,o,h,ho=>by
  simp only [oh]
  rcases List.mem_cons.1 h with e|h'
  ·cases e
   rw [ho];simp only [lookup,pc,cond_true];exact ⟨_,rfl⟩
  ·obtain ⟨o',h2⟩:=tu objs ρ0 r h' ho
   split
   ·simp only [lookup]
    cases Nat.beq u y with
    | true=>exact ⟨_,rfl⟩
    | false=>exact ⟨o',h2⟩
   ·exact ⟨o',h2⟩
theorem o9 (n:Nat):∀ {ρ : List (Nat × Nat)},below n ρ = true->∀ {t u:Nat},(t,u) ∈ ρ -> u<n
 | [],_,_,_,h=>by cases h
 | (x,y)::r,hb,t,u,h=>by
  simp only [below,Bool.and_eq_true,decide_eq_true_eq] at hb
  rcases List.mem_cons.1 h with e|h'
  ·cases e;exact hb.1
  ·exact o9 n hb.2 h'
theorem oa:∀ {ρ : List (Nat × Nat)},pinned ρ = true->∀ {t u:Nat},(t,u) ∈ ρ -> 64<=u∨t=u
 | [],_,_,_,h=>by cases h
 | (x,y)::r,hb,t,u,h=>by
  simp only [pinned,Bool.and_eq_true,Bool.or_eq_true] at hb
  rcases List.mem_cons.1 h with e|h'
  ·cases e;exact hb.1.imp Nat.le_of_ble_eq_true Nat.eq_of_beq_eq_true
  ·exact oa hb.2 h'
def oG (ρ : List (Nat × Nat)) (u:Nat):Nat:=(fW u (ρ.map fun p=>(p.2,p.1))).getD 0
theorem pu:∀ {ρ : List (Nat × Nat)} {t u:Nat},(t,u) ∈ ρ -> ∃ v,fW t ρ = some v
 | [],_,_,h=>by cases h
 | (x,y)::r,t,u,h=>by
  simp only [fW]
  cases hb:Nat.beq x t with
  | true=>exact ⟨y,rfl⟩
  | false =>
   rcases List.mem_cons.1 h with e|h'
   ·cases e;rw [pc] at hb;cases hb
   ·exact pu h'
theorem qt {ρ : List (Nat × Nat)} (h:(ρ.map (·.2)).Nodup) {t u:Nat} (hm:(t,u) ∈ ρ):oG ρ u=t:=by
 have hm':(u,t) ∈ ρ.map fun p=>(p.2,p.1):=List.mem_map.2 ⟨_,hm,rfl⟩
 obtain ⟨v,hv⟩:=pu hm'
 unfold oG;rw [hv]
 obtain ⟨p,hp,e⟩:=List.mem_map.1 (ll _ hv)
 obtain ⟨x,y⟩:=p
 simp only [Prod.mk.injEq] at e
 obtain ⟨rfl,rfl⟩:=e
 exact xt h hp hm
theorem tv (ρ : List (Nat × Nat)) (x:SV) (h:wk ρ x = .nos):x = .nos:=by
 cases x <;> simp only [wk] at h <;> first|rfl|(cases h;done)|(split at h <;> cases h)
theorem iA {h:List (Nat × List (Nat × Nat))} (hE:E.T=C.ty) (hm:rW C h=true) {s':St} (hr:ci E s a w) (hc:rX h s=some s'):ci E s' a w:=by
 obtain ⟨β,Rt,Ra,hr⟩:=me hE h hm hr
 unfold rX at hc
 simp only at hc
 generalize v7 h s=s1 at hr hc
 generalize ri s1 h (pins s1.objs) = ρ at hc
 obtain ⟨hcond,e⟩:=bD hc
 simp only [Bool.and_eq_true] at hcond
 obtain ⟨⟨d1,d2⟩,hbel,hpin⟩:=hcond
 replace d1:=dL d1
 replace d2:=dL d2
 cases e
 let β':Nat->Bl:=fun u => β (oG ρ u)
 have hobj:∀ u o,(⟨eJ s1.slots.length (h.map (nP s1 ρ)),oh s1.objs ρ ρ,eH⟩:St).obj u=some o->∃ t o',(t,u) ∈ ρ /\ s1.obj t=some o'/\o=o'.map (wk ρ) /\ β' u = β t:=by
  intro u o ho
  obtain ⟨t,o',h1,h2,h3⟩:=ol s1.objs ρ ρ ho
  exact ⟨t,o',h1,h2,h3,by show β (oG ρ u) = β t;rw [qt d2 h1]⟩
 have htok:∀ {t u},fW t ρ = some u->(∃ o,s1.obj t=some o)->(∃ o,(⟨eJ s1.slots.length (h.map (nP s1 ρ)),oh s1.objs ρ ρ,eH⟩:St).obj u=some o) /\ β' u = β t:=by
  intro t u hf ⟨o,ho⟩
  have hm:=ll ρ hf
  exact ⟨tu s1.objs ρ ρ hm ho,by show β (oG ρ u) = β t;rw [qt d2 hm]⟩
 have hf:∀ x v,SL (bg E s1 w β Rt Ra) x v->SL (bg E ⟨eJ s1.slots.length (h.map (nP s1 ρ)),oh s1.objs ρ ρ,eH⟩ w β' Rt Ra) (wk ρ x) v:=by
  intro x v hx
  cases x <;> try exact hx
  case own t =>
   simp only [wk]
   split
   ·rename_i u hu
    obtain ⟨g1,g2⟩:=htok hu hx.1
    exact ⟨g1,by show v=(β' u).v/\_/\(β' u).arr=false;rw [g2];exact hx.2⟩
   ·trivial
  case vw t lo hi =>
   simp only [wk]
   split
   ·rename_i u hu
    obtain ⟨g1,g2⟩:=htok hu hx.1
    refine ⟨g1,?_⟩
    have hx2:=hx.2
    simp only [bg] at hx2 ⊢
    rw [g2];exact hx2
   ·trivial
  case ptr t off =>
   simp only [wk]
   split
   ·rename_i u hu
    obtain ⟨g1,g2⟩:=htok hu hx.1
    exact ⟨g1,by show v = .pointer (some ⟨(β' u).b,off,none⟩);rw [g2];exact hx.2⟩
   ·trivial
  case mp t =>
   simp only [wk]
   split
   ·rename_i u hu
    obtain ⟨g1,g2⟩:=htok hu hx.1
    exact ⟨g1,by show v = .map (some (β' u).b);rw [g2];exact hx.2⟩
   ·trivial
  case cls g ts =>
   simp only [wk]
   split
   ·rename_i us hus
    have hall:∀ (ts us:List Nat),vC ρ ts=some us->(∀ t∈ts,∃ o,s1.obj t=some o)->(∀ u∈us,∃ o,(⟨eJ s1.slots.length (h.map (nP s1 ρ)),oh s1.objs ρ ρ,eH⟩:St).obj u=some o)/\(us.map fun u=>Value.pointer (some ⟨(β' u).b,0,none⟩))=ts.map fun t => .pointer (some ⟨(β t).b,0,none⟩):=by
     intro ts
     induction ts with
     | nil=>intro us hu _;cases hu;exact ⟨fun u hu=>(by cases hu),rfl⟩
     | cons t ts ih =>
      intro us hu hd
      unfold vC at hu
      split at hu
      ·rename_i u l hu1 hl
       cases hu
       obtain ⟨g1,g2⟩:=htok hu1 (hd t (by simp))
       obtain ⟨g3,g4⟩:=ih l hl (fun t ht=>hd t (by simp [ht]))
       refine ⟨fun z hz => ?_,?_⟩
       ·rcases List.mem_cons.1 hz with rfl|hz
        ·exact g1
        ·exact g3 z hz
       ·rw [List.map_cons,List.map_cons,g2,g4]
      ·cases hu
    obtain ⟨g1,g2⟩:=hall ts us hus hx.1
    exact ⟨g1,hx.2.trans (by rw [show (ts.map fun t=>Value.pointer (some ⟨((bg E s1 w β Rt Ra).β t).b,0,none⟩))=us.map fun u=>Value.pointer (some ⟨(β' u).b,0,none⟩) from g2.symm];rfl)⟩
   ·trivial
  case clo g t =>
   simp only [wk]
   split
   ·rename_i u hu
    obtain ⟨g1,g2⟩:=htok hu hx.1
    exact ⟨g1,by show v = .func (.func g) #[] #[.pointer (some ⟨(β' u).b,0,none⟩)];rw [g2];exact hx.2⟩
   ·trivial
  case ap t n =>
   simp only [wk]
   split
   ·rename_i u hu
    obtain ⟨g1,g2⟩:=htok hu hx.1
    refine ⟨g1,?_⟩
    have hx2:=hx.2
    simp only [bg] at hx2 ⊢
    rw [g2];exact hx2
   ·trivial
  case el t i off=>trivial
  case sdp t=>trivial
  case rl e l st i off=>trivial
 refine ⟨β',Rt,Ra,⟨⟨fun u o ho => ?_,fun u o ho => ?_,fun u o ho => ?_,fun u o u' o' ho ho' hn => ?_,hr.sub,hr.rlt,hr.fr,hr.rt0,hr.ra0,hr.rt,(show 64<=100000 by omega),fun u o ho hlt => ?_⟩,?_,hr.defers,fun i => ?_⟩⟩
 ·obtain ⟨t,o',h1,h2,rfl,e⟩:=hobj u o ho
  rw [e]
  exact (hr.objs t o' h2).map hf rfl (tv ρ) rfl (fun _ _ h=>h) (fun _ _ _=>rfl) (fun _ _=>rfl)
 ·obtain ⟨t,o',h1,_⟩:=hobj u o ho
  exact o9 eH hbel h1
 ·obtain ⟨t,o',h1,h2,rfl,e⟩:=hobj u o ho
  rw [e,e7];exact hr.cx t o' h2
 ·obtain ⟨t,o1,h1,h2,rfl,e⟩:=hobj u o ho
  obtain ⟨t',o1',h1',h2',rfl,e'⟩:=hobj u' o' ho'
  rw [e,e',e7,e7]
  exact hr.apart t o1 t' o1' h2 h2' fun e=>by subst e;exact hn (xr d1 h1 h1')
 ·obtain ⟨t,o',h1,h2,rfl,e⟩:=hobj u o ho
  rcases oa hpin h1 with h3|h3
  ·omega
  ·subst h3;rw [e];exact hr.pin t o' h2 hlt
 ·show (dS _ _ _).length=_
  rw [iK];exact hr.len
 ·show S2 _ (dE (dS _ _ _) i) _
  rcases fY s1.slots.length 0 (h.map (nP s1 ρ)) i with e|⟨v,hv,e⟩
  ·rw [e];trivial
  ·rw [e]
   obtain ⟨p,hp,e2⟩:=List.mem_map.1 hv
   unfold nP at e2
   simp only [Prod.mk.injEq,Nat.zero_add] at e2
   obtain ⟨rfl,rfl⟩:=e2
   exact ye hf (hr.slots _)
end
end Go.Proofs.Ab
namespace Go.Proofs.Ab
open Go
variable {R:Type}
mutual
theorem Cs:∀ (a b:AV),DV a b=true->a=b
 | .no,b,h=>by cases b <;> first|rfl|cases h
 | .int x,b,h=>by
  cases b <;> first|(cases h;done)|skip
  have h:decide (x=_)=true:=h
  rw [of_decide_eq_true h]
 | .bool x,b,h=>by
  cases b <;> first|(cases h;done)|skip
  have h:(x == _)=true:=h
  rw [eq_of_beq h]
 | .str x,b,h=>by
  cases b <;> first|(cases h;done)|skip
  have h:decide (x=_)=true:=h
  rw [of_decide_eq_true h]
 | .sl x,b,h=>by
  cases b <;> first|(cases h;done)|skip
  rw [fV x _ h]
 | .agg x,b,h=>by
  cases b <;> first|(cases h;done)|skip
  rw [fV x _ h]
theorem fV:∀ (a b:List AV),gW a b=true->a=b
 | [],b,h=>by cases b <;> first|rfl|cases h
 | x::l,b,h=>by
  cases b with
  | nil=>cases h
  | cons y m =>
   have h:(DV x y&&gW l m)=true:=h
   rw [Bool.and_eq_true] at h
   rw [Cs x y h.1,fV l m h.2]
end
theorem nb {m n:Nat} (h:Nat.beq m n=true):m=n:=Nat.eq_of_beq_eq_true h
mutual
theorem Cu:∀ (a b:SV),DC a b=true->a=b
 | .agg x,b,h=>by
  cases b <;> first|(cases h;done)|skip
  rw [iU x _ h]
 | .tup x,b,h=>by
  cases b <;> first|(cases h;done)|skip
  rw [iU x _ h]
 | .vp t x,b,h=>by
  cases b <;> first|(cases h;done)|skip
  have h:(Nat.beq t _&&jx x _)=true:=h
  rw [Bool.and_eq_true] at h
  rw [nb h.1,iU x _ h.2]
 | .no,b,h=>by cases b <;> first|rfl|cases h
 | .undef,b,h=>by cases b <;> first|rfl|cases h
 | .nil,b,h=>by cases b <;> first|rfl|cases h
 | .nos,b,h=>by cases b <;> first|rfl|cases h
 | .nilp,b,h=>by cases b <;> first|rfl|cases h
 | .nilfn,b,h=>by cases b <;> first|rfl|cases h
 | .nili,b,h=>by cases b <;> first|rfl|cases h
 | .int k n,b,h=>by
  cases b <;> first|(cases h;done)|skip
  have h:(decide (k=_)&&decide (n=_))=true:=h
  rw [Bool.and_eq_true] at h
  rw [of_decide_eq_true h.1,of_decide_eq_true h.2]
 | .bool x,b,h=>by
  cases b <;> first|(cases h;done)|skip
  have h:(x == _)=true:=h
  rw [eq_of_beq h]
 | .str x,b,h=>by
  cases b <;> first|(cases h;done)|skip
  have h:decide (x=_)=true:=h
  rw [of_decide_eq_true h]
 | .ro e l st,b,h=>by
  cases b <;> first|(cases h;done)|skip
  have h:(Nat.beq e _&&(gW l _&&(st == _)))=true:=h
  simp only [Bool.and_eq_true] at h
  rw [nb h.1,fV _ _ h.2.1,eq_of_beq h.2.2]
 | .fr e l st,b,h=>by
  cases b <;> first|(cases h;done)|skip
  have h:(Nat.beq e _&&(gW l _&&(st == _)))=true:=h
  simp only [Bool.and_eq_true] at h
  rw [nb h.1,fV _ _ h.2.1,eq_of_beq h.2.2]
 | .own t,b,h=>by
  cases b <;> first|(cases h;done)|skip
  rw [nb h]
 | .vw t x y,b,h=>by
  cases b <;> first|(cases h;done)|skip
  have h:(Nat.beq t _&&(decide (x=_)&&decide (y=_)))=true:=h
  simp only [Bool.and_eq_true] at h
  rw [nb h.1,of_decide_eq_true h.2.1,of_decide_eq_true h.2.2]
 | .ptr t x,b,h=>by
  cases b <;> first|(cases h;done)|skip
  have h:(Nat.beq t _&&Nat.beq x _)=true:=h
  simp only [Bool.and_eq_true] at h
  rw [nb h.1,nb h.2]
 | .el _ _ _,b,h=>by cases b <;> cases h
 | .rl _ _ _ _ _,b,h=>by cases b <;> cases h
 | .sdp _,b,h=>by cases b <;> cases h
 | .ra _ _ _ _,b,h=>by cases b <;> cases h
 | .cls _ _,b,h=>by cases b <;> cases h
 | .ap t x,b,h=>by
  cases b <;> first|(cases h;done)|skip
  have h:(Nat.beq t _&&Nat.beq x _)=true:=h
  simp only [Bool.and_eq_true] at h
  rw [nb h.1,nb h.2]
 | .ar e n l,b,h=>by
  cases b <;> first|(cases h;done)|skip
  have h:(Nat.beq e _&&(Nat.beq n _&&gW l _))=true:=h
  simp only [Bool.and_eq_true] at h
  rw [nb h.1,nb h.2.1,fV _ _ h.2.2]
 | .fn f,b,h=>by
  cases b <;> first|(cases h;done)|skip
  rw [nb h]
 | .clo f t,b,h=>by
  cases b <;> first|(cases h;done)|skip
  have h:(Nat.beq f _&&Nat.beq t _)=true:=h
  simp only [Bool.and_eq_true] at h
  rw [nb h.1,nb h.2]
 | .mp t,b,h=>by
  cases b <;> first|(cases h;done)|skip
  rw [nb h]
theorem iU:∀ (a b:List SV),jx a b=true->a=b
 | [],b,h=>by cases b <;> first|rfl|cases h
 | x::l,b,h=>by
  cases b with
  | nil=>cases h
  | cons y m =>
   have h:(DC x y&&jx l m)=true:=h
   rw [Bool.and_eq_true] at h
   rw [Cu x y h.1,iU l m h.2]
end
theorem Ct (a b:Obj) (h:DB a b=true):a=b:=by
 cases a <;> cases b <;> first|(cases h;done)|skip
 ·have h:(Nat.beq _ _&&(gW _ _&&(_ == _)))=true:=h
  simp only [Bool.and_eq_true] at h
  rw [nb h.1,fV _ _ h.2.1,eq_of_beq h.2.2]
 ·have h:(Nat.beq _ _&&jx _ _)=true:=h
  simp only [Bool.and_eq_true] at h
  rw [nb h.1,iU _ _ h.2]
 ·have h:(decide (_=_)&&Nat.beq _ _)=true:=h
  simp only [Bool.and_eq_true] at h
  rw [of_decide_eq_true h.1,nb h.2]
 ·have h:(decide (_=_)&&(decide (_=_)&&gW _ _))=true:=h
  simp only [Bool.and_eq_true] at h
  rw [of_decide_eq_true h.1,of_decide_eq_true h.2.1,fV _ _ h.2.2]
 ·rfl
theorem vz:∀ (a b:List (Nat × Obj)),sd a b=true->a=b
 | [],[],_=>rfl
 | (a,x)::l,(b,y)::m,h=>by
  have h:(Nat.beq a b&&(DB x y&&sd l m))=true:=h
  simp only [Bool.and_eq_true] at h
  rw [nb h.1,Ct _ _ h.2.1,vz _ _ h.2.2]
 | [],_::_,h=>by cases h
 | _::_,[],h=>by cases h
theorem AJ {s t:St} (h:yJ s t=true):s=t:=by
 obtain ⟨a,b,c⟩:=s
 obtain ⟨d,e,f⟩:=t
 have h:(jx a d&&(sd b e&&Nat.beq c f))=true:=h
 simp only [Bool.and_eq_true] at h
 rw [iU _ _ h.1,vz _ _ h.2.1,nb h.2.2]
end Go.Proofs.Ab
namespace Go.Proofs.Ab
open Go
variable {R:Type}
def Fin (P:Program) (E:Env) (ret:St->Option R) (r:R) (b:Frame) (cs:List Frame) (m:Machine):Prop :=
 ∃ s' a' w' todo,ret s'=some r/\ci E s' a' w'/\Steps P m (lone { b.at a' todo with mode := .returning } cs w')
section
variable {P:Program} {E:Env} {s:St} {a:Act} {w:World} {r:R} {C:Cfg R} {tab:cb} {ret:St->Option R} {J:List Item->St->Option R} {b:Frame} {cs:List Frame} {ops:Array Oper}
theorem Fin.head {m m':Machine} (h:step P m = .next m') (h':Fin P E ret r b cs m'):Fin P E ret r b cs m :=
 let ⟨s',a',w',todo,h1,h2,h3⟩:=h';⟨s',a',w',todo,h1,h2,.head h h3⟩
theorem Fin.steps {m m':Machine} (h:Steps P m m') (h':Fin P E ret r b cs m'):Fin P E ret r b cs m :=
 let ⟨s',a',w',todo,h1,h2,h3⟩:=h';⟨s',a',w',todo,h1,h2,h.trans h3⟩
theorem pH {c:Operand} {t:Bool} (h:ev s c = .bool t):A4 s c t=s:=by
 unfold A4;split
 ·exact tk h
 ·rfl
theorem jJ (hP:Ok P C.ty) (hE:cS C tab E) (hD:∀ g,bR P C.ty tab g (C.call g)) {id:Nat} {ops:Array Oper} {d:Bool} {k:List Item} {κ : St->Option R} (h:ci E s a w) (hk:xz C ops d s κ = some r)
  (hn:∀ s' a' w',κ s'=some r->ci E s' a' w'->Fin P E ret r b cs (lone (b.at a' k) cs w')):Fin P E ret r b cs (lone (b.at a (.code (.region id ops d)::k)) cs w):=by
 have hwp:=og (id:=id) (Qn:=fun a' w'=>∃ s',κ s'=some r/\ci E s' a' w') hP hE hD h hk fun s' a' w' h1 h2=>⟨s',h1,h2⟩
 obtain ⟨e,a',w',⟨rfl,s',h1,h2⟩,harr⟩:=hwp b k cs
 exact .steps harr (hn s' a' w' h1 h2)
theorem eR {i:Nat} (hi:i<ops.size) {l:List Nat} {κ : St->Option R}:lF C ops (i::l) s κ = cq C false ops (ops[i]'hi) s (fun s'=>lF C ops l s' κ):=by
 unfold lF
 rw [List.filterMap_cons_some (Array.getElem?_eq_getElem hi)];rfl
theorem Dn (hP:Ok P C.ty) (hE:cS C tab E) (hD:∀ g,bR P C.ty tab g (C.call g)) (hc:yy ops=true) (h:ci E s a w) {B:St->St->Option R} {id:Nat}
  (hk:lF C ops [0] s (fun s0=>lF C ops [1,2,3] s0 fun s1=>lF C ops [2,1,3] s0 fun s2=>B s1 s2)=some r) :
  (Code.region id ops true).wp P (fun e a' w'=>e = .normal/\((∃ s1 s2,B s1 s2=some r/\ci E s1 a' w'/\∃ a w,ci E s2 a w)∨∃ s1 s2,B s1 s2=some r/\ci E s2 a' w'/\∃ a w,ci E s1 a w)) a w:=by
 unfold yy at hc
 simp only [Bool.and_eq_true,decide_eq_true_eq] at hc
 obtain ⟨hs,c0,c1,c2,c3,c4,c5⟩:=hc
 have hs:ops.size=4:=nb hs
 refine wp_region_any hP.mixed ?_
 generalize hQ:(fun (e:Exit) (a':Act) (w':World)=>e=Exit.normal/\((∃ s1 s2,B s1 s2=some r/\ci E s1 a' w'/\∃ a w,ci E s2 a w)∨∃ s1 s2,B s1 s2=some r/\ci E s2 a' w'/\∃ a w,ci E s1 a w))=Q
 have step:∀ (fuel:Nat) (listed:Array Bool) (rs:List Nat) {s:St} {a:Act} {w:World},Df ops listed=rs->rs≠[]->ci E s a w ->
   (∀ i∈rs,∃ (hi:i<ops.size) (κ : St->Option R),cq C false ops (ops[i]'hi) s κ = some r/\∀ s' a' w',κ s'=some r->ci E s' a' w'->wpAny P .any ops Q fuel (listed.setIfInBounds i true) a' w') ->
   wpAny P .any ops Q (fuel+1) listed a w:=by
  intro fuel listed rs s a w hr hne ⟨β,Rt,Ra,h⟩ hi
  have hr':Region.ready .any ops listed=rs:=hr
  refine ⟨fun h0=>absurd (hr'.symm.trans h0) hne,fun i him => ?_⟩
  rw [hr'] at him
  obtain ⟨hlt,κ,hk,hn⟩:=hi i him
  exact ff hP hE hD h (Array.getElem?_eq_getElem hlt) hk _ _ fun s' a' w' h1 h2=>hn s' a' w' h1 h2
 have last:∀ {a:Act} {w:World},Q .normal a w->wpAny P .any ops Q 0 #[true,true,true,true] a w:=fun h=>⟨c5,h⟩
 rw [show Array.replicate ops.size false = #[false,false,false,false] by rw [hs];rfl,hs]
 rw [eR (by omega)] at hk
 have h:ci E s a { w with drawn:=w.drawn+1 }:=by
  obtain ⟨β,Rt,Ra,h⟩:=h
  exact ⟨β,Rt,Ra,h.ig ⟨rfl,rfl,rfl,Nat.le_refl _,fun _ _ _=>rfl⟩⟩
 refine step 3 _ _ c0 (by simp) h fun i hi => ?_
 rw [List.mem_singleton] at hi;subst hi
 refine ⟨by omega,_,hk,fun s0 a0 w0 hk0 h0 => ?_⟩
 replace hk0:lF C ops [1,2,3] s0 (fun s1=>lF C ops [2,1,3] s0 fun s2=>B s1 s2)=some r:=hk0
 have hin:∀ l:List Nat,(∀ i∈l,i<4)->∀ i∈l,i<ops.size:=fun l h i hi=>by rw [hs];exact h i hi
 refine step 2 #[true,false,false,false] _ c1 (by simp) h0 fun i hi => ?_
 simp only [List.mem_cons,List.mem_nil_iff,or_false] at hi
 rcases hi with rfl|rfl
 ·rw [eR (by omega)] at hk0
  refine ⟨by omega,_,hk0,fun x1 a1 w1 hk1 h1 => ?_⟩
  refine step 1 #[true,true,false,false] _ c2 (by simp) h1 fun i hi => ?_
  rw [List.mem_singleton] at hi;subst hi
  rw [eR (by omega)] at hk1
  refine ⟨by omega,_,hk1,fun x2 a2 w2 hk2 h2 => ?_⟩
  refine step 0 #[true,true,true,false] _ c4 (by simp) h2 fun i hi => ?_
  rw [List.mem_singleton] at hi;subst hi
  rw [eR (by omega)] at hk2
  refine ⟨by omega,_,hk2,fun x3 a3 w3 hk3 h3=>last ?_⟩
  replace hk3:lF C ops [2,1,3] s0 (fun s2=>B x3 s2)=some r:=hk3
  obtain ⟨s2,a4,w4,hb,hr⟩:=kF hP hE hD [2,1,3] (hin _ (by simp)) h0 hk3
  rw [<- hQ]
  exact ⟨rfl,.inl ⟨x3,s2,hb,h3,a4,w4,hr⟩⟩
 ·obtain ⟨s1,a4,w4,hb,hr⟩:=kF hP hE hD [1,2,3] (hin _ (by simp)) h0 hk0
  replace hb:lF C ops [2,1,3] s0 (fun s2=>B s1 s2)=some r:=hb
  rw [eR (by omega)] at hb
  refine ⟨by omega,_,hb,fun x1 a1 w1 hk1 h1 => ?_⟩
  refine step 1 #[true,false,true,false] _ c3 (by simp) h1 fun i hi => ?_
  rw [List.mem_singleton] at hi;subst hi
  rw [eR (by omega)] at hk1
  refine ⟨by omega,_,hk1,fun x2 a2 w2 hk2 h2 => ?_⟩
  refine step 0 #[true,true,true,false] _ c4 (by simp) h2 fun i hi => ?_
  rw [List.mem_singleton] at hi;subst hi
  rw [eR (by omega)] at hk2
  refine ⟨by omega,_,hk2,fun x3 a3 w3 hk3 h3=>last ?_⟩
  rw [<- hQ]
  exact ⟨rfl,.inr ⟨s1,x3,hk3,h3,a4,w4,hr⟩⟩
theorem mT (hP:Ok P C.ty) (hE:cS C tab E) (hD:∀ g,bR P C.ty tab g (C.call g)):∀ (c:Code) {k:List Item} {s:St} {a:Act} {w:World} {κ : St->Option R},ci E s a w->oU C c s κ = some r ->
  (∀ s' a' w',κ s'=some r->ci E s' a' w'->Fin P E ret r b cs (lone (b.at a' k) cs w'))->Fin P E ret r b cs (lone (b.at a (.code c::k)) cs w)
 | .region id ops d,k,s,a,w,κ,h,hk,hn=>by
  unfold oU at hk
  split at hk
  ·cases hk
  ·exact jJ hP hE hD h hk hn
 | .seq x y,k,s,a,w,κ,h,hk,hn=>by
  unfold oU at hk
  refine .head step_seq (mT hP hE hD x h hk fun s1 a1 w1 hk1 h1 => ?_)
  exact mT hP hE hD y h1 hk1 hn
 | .skip,k,s,a,w,κ,h,hk,hn => .head step_skip (hn s a w hk h)
 | .cond ..,_,_,_,_,_,_,hk,_=>by cases hk
 | .block ..,_,_,_,_,_,_,hk,_=>by cases hk
 | .loop ..,_,_,_,_,_,_,hk,_=>by cases hk
 | .scope ..,_,_,_,_,_,_,hk,_=>by cases hk
 | .exit ..,_,_,_,_,_,_,hk,_=>by cases hk
 | .goto ..,_,_,_,_,_,_,hk,_=>by cases hk
 | .label ..,_,_,_,_,_,_,hk,_=>by cases hk
 | .ret,_,_,_,_,_,_,hk,_=>by cases hk
theorem rD (hP:Ok P C.ty) (hE:cS C tab E) (hD:∀ g,bR P C.ty tab g (C.call g)) (b:Frame) (cs:List Frame):∀ (c:Code) {s:St} {a:Act} {w:World} {κ : St->Option R},ci E s a w->oU C c s κ = some r ->
  ∃ s',κ s'=some r/\∃ a w,ci E s' a w
 | .region id ops d,s,a,w,κ,h,hk=>by
  unfold oU at hk
  split at hk
  ·cases hk
  ·have hwp:=og (id:=id) (Qn:=fun a' w'=>∃ s',κ s'=some r/\ci E s' a' w') hP hE hD h hk fun s' a' w' h1 h2=>⟨s',h1,h2⟩
   obtain ⟨e,a',w',⟨_,s',h1,h2⟩,_⟩:=hwp b [] cs
   exact ⟨s',h1,a',w',h2⟩
 | .seq x y,s,a,w,κ,h,hk=>by
  unfold oU at hk
  obtain ⟨s1,hk1,a1,w1,h1⟩:=rD hP hE hD b cs x h hk
  exact rD hP hE hD b cs y h1 hk1
 | .skip,s,a,w,κ,h,hk=>⟨s,hk,a,w,h⟩
 | .cond ..,_,_,_,_,_,hk=>by cases hk
 | .block ..,_,_,_,_,_,hk=>by cases hk
 | .loop ..,_,_,_,_,_,hk=>by cases hk
 | .scope ..,_,_,_,_,_,hk=>by cases hk
 | .exit ..,_,_,_,_,_,hk=>by cases hk
 | .goto ..,_,_,_,_,_,hk=>by cases hk
 | .label ..,_,_,_,_,_,hk=>by cases hk
 | .ret,_,_,_,_,_,hk=>by cases hk
theorem yu (hP:Ok P C.ty) (hE:cS C tab E) (hD:∀ g,bR P C.ty tab g (C.call g)) {c:Operand} {x y:Code} {k:List Item} {κ : St->Option R} (h:ci E s a w) (hk:DA C c x y s κ = some r)
  (hn:∀ s' a' w',κ s'=some r->ci E s' a' w'->Fin P E ret r b cs (lone (b.at a' k) cs w')):Fin P E ret r b cs (lone (b.at a (.code (.cond c x y)::k)) cs w):=by
 unfold DA at hk
 split at hk
 ·rename_i t ht
  obtain ⟨β,Rt,Ra,h0⟩:=h
  have hc:=bH h0 c
  rw [ht] at hc
  have e:a.eval c = .bool t:=hc
  cases t with
  | true=>exact .head (step_cond e) (mT hP hE hD x ⟨β,Rt,Ra,h0⟩ hk hn)
  | false=>exact .head (step_cond e) (mT hP hE hD y ⟨β,Rt,Ra,h0⟩ hk hn)
 ·cases hk
theorem BH (hP:Ok P C.ty) (hE:cS C tab E) (hD:∀ g,bR P C.ty tab g (C.call g)) (b:Frame) (cs:List Frame) {c:Operand} {x y:Code} {κ : St->Option R} (h:∃ a w,ci E s a w) (hk:DA C c x y s κ = some r) :
  ∃ s',κ s'=some r/\∃ a w,ci E s' a w:=by
 obtain ⟨a,w,h⟩:=h
 unfold DA at hk
 split at hk
 ·rename_i t ht
  cases t with
  | true=>exact rD hP hE hD b cs x h hk
  | false=>exact rD hP hE hD b cs y h hk
 ·cases hk
theorem fe {a:Act} {w:World}:∀ (n:Nat) {k p:List Item},kE n k=some p->Fin P E ret r b cs (lone (b.at a p) cs w)->Fin P E ret r b cs (lone (b.at a k) cs w)
 | 0,_,_,h,_=>by cases h
 | n+1,k,p,h,hf=>by
  unfold kE at h
  split at h
  ·exact .head step_skip (fe n h hf)
  ·exact .head step_inBlock (fe n h hf)
  ·exact .head step_inScope (fe n h hf)
  ·exact .head step_seq (fe n h hf)
  ·exact .head step_inLoop (fe n h hf)
  ·split at h
   ·rename_i k' hk';exact .head (step_exit hk') (fe n h hf)
   ·cases h
  ·cases h;exact hf
  ·cases h
theorem sy {J:List Item->St->Option R} (hP:Ok P C.ty) (hE:cS C tab E) (hJ:∀ todo s a w,ci E s a w->J todo s=some r->Fin P E ret r b cs (lone (b.at a todo) cs w)) {p:List Item} {t1 t2:St} {a:Act} {w:World} (hk:zi C J p t1 t2=some r) (h:ci E t1 a w∨ci E t2 a w):Fin P E ret r b cs (lone (b.at a p) cs w):=by
 unfold zi at hk
 split at hk
 ·split at hk
  ·obtain ⟨hm,hk⟩:=b8 hk
   split at hk
   ·rename_i u1 u2 h1 h2
    obtain ⟨he,hk⟩:=b8 hk
    have he:=AJ he
    rcases h with h|h
    ·exact hJ _ _ _ _ (by rw [<- he];exact iA hE.T hm h h1) hk
    ·exact hJ _ _ _ _ (iA hE.T hm h h2) hk
   ·cases hk
  ·cases hk
 ·cases hk
theorem Bx {J:List Item->St->Option R} (hP:Ok P C.ty) (hE:cS C tab E) (hD:∀ g,bR P C.ty tab g (C.call g)) (hJ:∀ todo s a w,ci E s a w->J todo s=some r->Fin P E ret r b cs (lone (b.at a todo) cs w)) {n id:Nat} {k:List Item} (hc:yy ops=true) (h:ci E s a w) (hk:Dm C J n ops k s=some r) :
  Fin P E ret r b cs (lone (b.at a (.code (.region id ops true)::k)) cs w):=by
 unfold Dm at hk
 split at hk
 ·rename_i c x y k2
  split at hk
  ·rename_i p hp
   have hwp:=Dn (id:=id) hP hE hD hc h hk
   obtain ⟨e,a',w',⟨rfl,hq⟩,harr⟩:=hwp b (.code (.cond c x y)::k2) cs
   refine .steps harr ?_
   rcases hq with ⟨s1,s2,hb,h1,h2⟩|⟨s1,s2,hb,h2,h1⟩
   ·refine yu hP hE hD h1 hb fun t1 a1 w1 hk1 ht1 => ?_
    obtain ⟨t2,hk2,_⟩:=BH hP hE hD b cs h2 hk1
    exact fe n hp (sy hP hE hJ hk2 (.inl ht1))
   ·obtain ⟨t1,hk1,_⟩:=BH hP hE hD b cs h1 hb
    refine yu hP hE hD h2 hk1 fun t2 a2 w2 hk2 ht2 => ?_
    exact fe n hp (sy hP hE hJ hk2 (.inr ht2))
  ·cases hk
 ·cases hk
theorem lN (hP:Ok P C.ty) (hE:cS C tab E) (hD:∀ g,bR P C.ty tab g (C.call g)) (hJ:∀ todo s a w,ci E s a w->J todo s=some r->Fin P E ret r b cs (lone (b.at a todo) cs w)) :
  ∀ (n:Nat) (todo:List Item) (s:St) (a:Act) (w:World),ci E s a w->rM C J ret n todo s=some r->Fin P E ret r b cs (lone (b.at a todo) cs w)
 | 0,_,_,_,_,_,h=>by cases h
 | n+1,todo,s,a,w,h,hk=>by
  have ih:=lN hP hE hD hJ n
  unfold rM at hk
  split at hk
  ·exact ⟨s,a,w,_,hk,h,.one step_end⟩
  ·exact ⟨s,a,w,_,hk,h,.one step_ret⟩
  ·exact .head step_skip (ih _ _ _ _ h hk)
  ·exact .head step_label (ih _ _ _ _ h hk)
  ·exact .head step_inBlock (ih _ _ _ _ h hk)
  ·exact .head step_inScope (ih _ _ _ _ h hk)
  ·exact .head step_seq (ih _ _ _ _ h hk)
  ·rename_i c x y k
   split at hk
   ·rename_i t ht
    obtain ⟨β,Rt,Ra,h0⟩:=h
    have hc:=bH h0 c
    rw [ht] at hc
    have e:a.eval c = .bool t:=hc
    cases t with
    | true =>
     simp only [cond_true] at hk
     rw [pH ht] at hk
     exact .head (step_cond e) (ih _ _ _ _ ⟨β,Rt,Ra,h0⟩ hk)
    | false =>
     simp only [cond_false] at hk
     rw [pH ht] at hk
     exact .head (step_cond e) (ih _ _ _ _ ⟨β,Rt,Ra,h0⟩ hk)
   ·cases hk
  ·exact .head step_block (ih _ _ _ _ h hk)
  ·exact .head step_loop (ih _ _ _ _ h hk)
  ·exact .head step_inLoop (ih _ _ _ _ h hk)
  ·exact .head step_scope (ih _ _ _ _ h hk)
  ·split at hk
   ·rename_i k' hk';exact .head (step_exit hk') (ih _ _ _ _ h hk)
   ·cases hk
  ·split at hk
   ·rename_i k' hk';exact .head (step_goto hk') (ih _ _ _ _ h hk)
   ·cases hk
  ·split at hk
   ·obtain ⟨hm,hk⟩:=b8 hk
    split at hk
    ·rename_i s' hs'
     exact hJ _ _ _ _ (iA hE.T hm h hs') hk
    ·cases hk
   ·rename_i id ops d k _ hcut
    cases hd:(d&&(!gT true ops.toList&&yy ops)) with
    | false=>rw [hd,cond_false] at hk;exact jJ hP hE hD h hk fun s' a' w' h1 h2=>ih _ _ _ _ h2 h1
    | true =>
     rw [hd,cond_true] at hk
     simp only [Bool.and_eq_true] at hd
     obtain ⟨rfl,_,hc⟩:=hd
     exact Bx hP hE hD hJ hc h hk
  ·cases hk
theorem tB (hP:Ok P C.ty) (hE:cS C tab E) (hD:∀ g,bR P C.ty tab g (C.call g)) (hJ:∀ todo s a w,ci E s a w->J todo s=some r->Fin P E ret r b cs (lone (b.at a todo) cs w)) (n:Nat) (todo:List Item) (s:St) (a:Act) (w:World) (h:ci E s a w)
  (hk:start C J ret n todo s=some r):Fin P E ret r b cs (lone (b.at a todo) cs w):=by
 unfold start at hk
 split at hk
 ·exact jJ hP hE hD h hk fun s' a' w' h1 h2=>lN hP hE hD hJ n _ _ _ _ h2 h1
 ·cases hk
theorem nH (hP:Ok P C.ty) (hE:cS C tab E) (hD:∀ g,bR P C.ty tab g (C.call g)) (n:Nat):∀ (f:Nat) (todo:List Item) (s:St) (a:Act) (w:World),ci E s a w->goto C ret n f todo s=some r->Fin P E ret r b cs (lone (b.at a todo) cs w)
 | 0,_,_,_,_,_,h=>by cases h
 | f+1,todo,s,a,w,h,hk=>tB hP hE hD (fun todo s a w h hk=>nH hP hE hD n f todo s a w h hk) n todo s a w h hk
theorem fv:∀ (n:Nat) {t:Nat} {o:Obj},lookup t (kn n)=some o->t<n/\o = .hole
 | 0,_,_,h=>by cases h
 | n+1,t,o,h=>by
  simp only [kn,lookup] at h
  cases hb:Nat.beq t n with
  | true =>
   have:=Nat.eq_of_beq_eq_true hb;subst this
   rw [hb] at h;cases h;exact ⟨by omega,rfl⟩
  | false =>
   rw [hb] at h;simp only [cond_false] at h
   have:=fv n h
   exact ⟨by omega,this.2⟩
theorem pF:∀ (n:Nat) {t:Nat},t<n->lookup t (kn n)=some .hole
 | 0,_,h=>by omega
 | n+1,t,h=>by
  simp only [kn,lookup]
  by_cases e:t=n
  ·subst e;simp
  ·rw [Cf e];simp only [cond_false];exact pF n (by omega)
def dm:List SV->List Value->List Nat
 | .vp _ _::r,.pointer (some ad)::vs=>ad.block::dm r vs
 | .vp _ _::r,_::vs=>0::dm r vs
 | _::r,_::vs=>dm r vs
 | _,_=>[]
theorem wN (s:St) (k ty:Nat) (ls r:List SV):er s k (.vp ty ls::r)=(.ptr k 0::(er ((b9 s ls).2.setObj k (.var ty (b9 s ls).1)) (k+1) r).1,(er ((b9 s ls).2.setObj k (.var ty (b9 s ls).1)) (k+1) r).2):=rfl
theorem wM {x:SV} (hx:∀ ty l,x ≠ .vp ty l) (s:St) (k:Nat) (r:List SV):er s k (x::r)=((di s x).1::(er (di s x).2 k r).1,(er (di s x).2 k r).2):=by
 cases x <;> first|rfl|exact absurd rfl (hx _ _)
theorem wv {x:SV} (hx:∀ ty l,x ≠ .vp ty l) (r:List SV):vars (x::r)=vars r:=by
 cases x <;> first|rfl|exact absurd rfl (hx _ _)
theorem DM {c:Cx} {x:SV} {v:Value} {bs:List Nat} (hx:∀ ty l,x ≠ .vp ty l) (h:CV c x v bs):vk c x v bs:=by
 unfold CV at h;split at h
 ·exact absurd rfl (hx _ _)
 ·exact h
theorem tc (s:St) (x:SV) {t:Nat} (ht:t<s.next):(di s x).2.obj t=s.obj t:=by
 rcases fh x with ⟨l,rfl⟩|h1
 ·exact dx l s ht
 ·obtain ⟨u,_,e⟩:=fI h1 s
  rw [e];exact dx [x] s ht
theorem gU {β : Nat->Bl} {Rt Ra Rt' Ra':Nat->Prop} (hR:∀ b,Rt' b->Rt b) (hA:∀ b,Ra' b->Ra b):∀ (xs:List SV) (vs:List Value) (bs:List Nat) (k:Nat) {s:St} {β : Nat->Bl},Rel E s a w β Rt Ra->ie (CV (cc E.T w Rt' Ra')) xs vs bs->bs.Nodup->(∀ z∈bs,oM E s w β Ra z) ->
  (∀ i,k<=i->i<k+vars xs->s.obj i=some .hole)->(∀ i b,(dm xs vs)[i]? = some b->E.pb (k+i)=b)->k+vars xs<=64 ->
  ∃ β',Rel E (er s k xs).2 a w β' Rt Ra/\(bg E s w β Rt Ra).Le (bg E (er s k xs).2 w β' Rt Ra)/\PW (S1 (bg E (er s k xs).2 w β' Rt Ra)) (er s k xs).1 vs
 | [],[],bs,k,s,β,h,_,_,_,_,_,_=>⟨β,h,le_refl _,trivial⟩
 | x::xs,v::vs,bs,k,s,β,h,hc,hnd,hf,hh,hb,hk=>by
  obtain ⟨b1,b2,rfl,hx,hr⟩:=hc
  rw [List.nodup_append] at hnd
  by_cases hv:∃ ty l,x = .vp ty l
  ·obtain ⟨ty,ls,rfl⟩:=hv
   obtain ⟨b,cs,q,bs',rfl,hheap,hcat,rfl⟩:=hx
   have hvar:vars (SV.vp ty ls::xs)=vars xs+1:=rfl
   rw [hvar] at hh hk
   have hhole:=hh k (Nat.le_refl _) (by omega)
   have hpb:(β k).b=b:=by
    rw [h.pin k _ hhole (by omega)]
    exact hb 0 b rfl
   obtain ⟨nd1,nd2,nd12⟩:=hnd
   rw [List.nodup_cons] at nd1
   obtain ⟨β1,r1,le1,p1,ob1⟩:=ez hR hA ls cs.toList bs' h hcat nd1.2 (fun z hz=>hf z (by simp [hz]))
   have hlt:=h.lt k _ hhole
   have hhole1:(b9 s ls).2.obj k=some .hole:=by rw [dx ls s hlt];exact hhole
   have hβ1 : β1 k = β k:=le1.β k ⟨_,hhole⟩
   have hb1:(β1 k).b=b:=by rw [hβ1,hpb]
   have hbf:=hf b (by simp)
   obtain ⟨r2,le2⟩:=r1.toRelO.set k (.var ty (b9 s ls).1) hhole1 (fun z hz=>by
     simp only [bK,List.mem_singleton] at hz;rw [hz,hb1];exact ⟨hbf.1,hbf.2.1,hbf.2.2.1⟩) (fun z hz k' o' ho' hz'=>by
     simp only [bK,List.mem_singleton] at hz;rw [hz,hb1] at hz'
     rcases ob1 k' o' ho' with ⟨ho2,hβ2⟩|hin
     ·rw [hβ2] at hz';exact hbf.2.2.2 k' o' ho2 hz'
     ·exact nd1.1 (hin b hz')) (fun le=>⟨cs,q,by rw [hb1];exact hheap,by rw [hb1];exact p1.imp fun _ _ hs=>hs.le le⟩)
   have r2':Rel E ((b9 s ls).2.setObj k (.var ty (b9 s ls).1)) a w β1 Rt Ra:=⟨r2,r1.len,r1.defers,ec le2 r1.slots⟩
   have obs:∀ k' o,((b9 s ls).2.setObj k (.var ty (b9 s ls).1)).obj k'=some o->(k'=k/\bK (β1 k') o=[b])∨(k'≠k/\((s.obj k'=some o /\ β1 k' = β k')∨∀ z∈bK (β1 k') o,z∈bs')):=by
    intro k' o hk'
    rw [cQ] at hk';split at hk'
    ·rename_i e;subst e;rw [hhole1] at hk';cases hk';exact .inl ⟨rfl,by simp [bK,hb1]⟩
    ·rename_i e;exact .inr ⟨e,ob1 k' o hk'⟩
   obtain ⟨β2,r3,le3,p3⟩:=gU (β := β) hR hA xs vs b2 (k+1) r2' hr nd2 (fun z hz=>by
     obtain ⟨f1,f2,f3,f4⟩:=hf z (by simp [hz])
     refine ⟨f1,f2,f3,fun k' o hk' hz' => ?_⟩
     rcases obs k' o hk' with ⟨_,e⟩|⟨_,⟨ho2,hβ2⟩|hin⟩
     ·rw [e,List.mem_singleton] at hz';subst hz';exact nd12 z (by simp) z hz rfl
     ·rw [hβ2] at hz';exact f4 k' o ho2 hz'
     ·exact nd12 z (by simp [hin z hz']) z hz rfl)
    (fun i h1 h2=>by
     have hi:=hh i (by omega) (by omega)
     rw [cQ,if_neg (by omega),dx ls s (h.lt i _ hi)];exact hi)
    (fun i b' hb'=>by rw [show k+1+i=k+(i+1) by omega];exact hb (i+1) b' hb') (by omega)
   rw [wN]
   refine ⟨β2,r3,(le1.trans le2).trans le3,?_,p3⟩
   have hD:(bg E ((b9 s ls).2.setObj k (.var ty (b9 s ls).1)) w β1 Rt Ra).D k:=⟨_,by rw [cQ,if_pos rfl,hhole1];rfl⟩
   refine cL ⟨le3.D k hD,?_⟩
   have e : β2 k = β1 k:=le3.β k hD
   show Value.pointer (some ⟨b,0,none⟩) = .pointer (some ⟨(β2 k).b,0,none⟩)
   rw [e,hb1]
  ·have hv':∀ ty l,x ≠ .vp ty l:=fun ty l e=>hv ⟨ty,l,e⟩
   rw [wv hv'] at hh hk
   have hvb:dm (x::xs) (v::vs)=dm xs vs:=by cases x <;> first|rfl|exact absurd rfl (hv' _ _)
   rw [hvb] at hb
   obtain ⟨β1,r1,le1,p1,ob1⟩:=iM hR hA h (DM hv' hx) hnd.1 (fun z hz=>hf z (List.mem_append_left _ hz))
   obtain ⟨β2,r2,le2,p2⟩:=gU (β := β) hR hA xs vs b2 k r1 hr hnd.2.1 (fun z hz=>by
     obtain ⟨f1,f2,f3,f4⟩:=hf z (List.mem_append_right _ hz)
     refine ⟨f1,f2,f3,fun t o ho hb => ?_⟩
     rcases ob1 t o ho with ⟨ho',hβ⟩|hin
     ·rw [hβ] at hb;exact f4 t o ho' hb
     ·exact hnd.2.2 z (hin z hb) z hz rfl)
    (fun i h1 h2=>by
     have hi:=hh i h1 h2
     rw [tc s x (h.lt i _ hi)];exact hi) hb hk
   rw [wM hv']
   exact ⟨β2,r2,le1.trans le2,p1.le le2,p2⟩
 | [],_::_,_,_,_,_,_,h,_,_,_,_,_=>h.elim
 | _::_,[],_,_,_,_,_,h,_,_,_,_,_=>h.elim
end
end Go.Proofs.Ab
