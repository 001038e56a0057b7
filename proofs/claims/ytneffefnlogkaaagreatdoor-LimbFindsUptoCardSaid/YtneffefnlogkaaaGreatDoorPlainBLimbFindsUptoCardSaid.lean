/- The plain functions of program and document say the same (conditions: those of each lemma). -/
import Derived.Test.YtneffefnlogkaaaGreatDoorPlainALimbFindsUptoCardSaid
import Derived.Test.YtneffefnlogkaaaGreatDoorText
import Derived.KernelRfl
set_option linter.unusedVariables false
set_option linter.unusedSimpArgs false
set_option maxRecDepth 4000
namespace Go.Proofs.Ab
open Go
variable {R:Type}
mutual
theorem Bu:∀ (a:AV),Gl a a=true
 | .no=>rfl
 | .int x=>by show decide (x=x)=true;simp
 | .bool x=>by show (x == x)=true;simp
 | .str x=>by show decide (x=x)=true;simp
 | .sl x=>iT x
 | .agg x=>iT x
theorem iT:∀ (a:LA),jt a a=true
 | []=>rfl
 | x::l=>by show (Gl x x&&jt l l)=true;rw [Bu x,iT l];rfl
end
def BP:SV->Bool
 | .no | .undef | .int _ _ | .bool _ | .str _ | .nil | .ro _ _ _ | .own _ | .ptr _ _=>true
 | _=>false
theorem Bx {x:SV} (h:BP x=true):F5 x x=true:=by
 cases x <;> first|rfl|(cases h;done)|skip
 ·show (decide (_=_)&&decide (_=_))=true;simp
 ·show (_ == _)=true;simp
 ·show decide (_=_)=true;simp
 ·show (Nat.beq _ _&&(jt _ _&&(_ == _)))=true;rw [Nat.beq_refl,iT];simp
 ·show Nat.beq _ _=true;rw [Nat.beq_refl]
 ·show (Nat.beq _ _&&Nat.beq _ _)=true;rw [Nat.beq_refl,Nat.beq_refl];rfl
def pj:List SV->Bool
 | []=>true
 | x::l=>bif BP x then pj l else false
theorem mR:∀ {l:List SV},pj l=true->kT l l=true
 | [],_=>rfl
 | x::l,h=>by
  rw [pj] at h
  cases f:BP x with
  | false=>rw [f] at h;cases h
  | true =>
   rw [f,cond_true] at h
   show (F5 x x&&kT l l)=true
   rw [Bx f,mR h];rfl
def BO:Obj->Bool
 | .row _ _ _=>true
 | .var _ l=>pj l
 | _=>false
def tu:List (Nat × Obj)->Bool
 | []=>true
 | (_,o)::l=>bif BO o then tu l else false
theorem Bw {o:Obj} (h:BO o=true):F4 o o=true:=by
 cases o <;> first|(cases h;done)|skip
 ·show (Nat.beq _ _&&(jt _ _&&(_ == _)))=true;rw [Nat.beq_refl,iT];simp
 ·show (Nat.beq _ _&&kT _ _)=true
  rw [Nat.beq_refl,mR h];rfl
theorem rc:∀ {l:List (Nat × Obj)},tu l=true->uF l l=true
 | [],_=>rfl
 | (n,o)::l,h=>by
  rw [tu] at h
  cases f:BO o with
  | false=>rw [f] at h;cases h
  | true =>
   rw [f,cond_true] at h
   show (Nat.beq n n&&(F4 o o&&uF l l))=true
   rw [Nat.beq_refl,Bw f,rc h];rfl
theorem zG {s:St} (f:pj s.slots=true) (j:tu s.objs=true):Bz s s=true:=by
 show (kT s.slots s.slots&&(uF s.objs s.objs&&Nat.beq s.next s.next))=true
 rw [mR f,rc j,Nat.beq_refl];rfl
theorem Aw (l:LA) (x y:AV):eA (l++[x]) (l.length:Int) y=l++[y]:=iF l x y [] l.length rfl
def ab (y:LV) (k:LA):AV := .agg [.str (B y.p),.str (B y.v.ty),.str (B y.v.sub),.sl (y.v.ps.map bn),.bool y.v.i0,.str (B y.v.i1),.bool y.v.a0,.str (B y.v.a1),.bool (dm y.v.c1),.str (B y.v.c1),.bool (dm y.v.p1),.str (B y.v.p1),.sl (y.v.pp.map bn),.sl (bw y.v.lg),.bool y.v.w0,.str (B y.v.w1),.int (y.a:Int),.int (y.b:Int),.int (y.c:Int),.int (y.d:Int),.int (y.e:Int),.sl k]
def Hj:List UInt8:=[97,112,112,108,105,99,97,116,105,111,110]
def HA:List UInt8:=[111,99,116,101,116,45,115,116,114,101,97,109]
def uB:List UInt8:=[100,105,103,101,115,116]
def ga (x:LV):LV:={ x with v:={ x.v with ty:=Hj,sub:=HA,ps:=[] } }
def eM (x:LV):Bool:=decide (x.v.ty=qB)&&decide (x.v.sub=uB)
def cC (w:List UInt8) (x:LV) (em:Bool):LV :=
 if em then (if x.v.ty=nL then { x with e:=ez (dF w x) } else if dG x=true∨x.v.ty=qB then ga x else x)
 else (if dG x then { x with e:=ez (dF w x) } else x)
def lx (w:List UInt8) (q:Nat × Nat):List UInt8:=(w.take q.2).drop q.1
def ee (w:List UInt8) (q:Nat × Nat) (p:List UInt8) (f:Bool):LV where
 p:=p
 v:=zS (kG (lx w q)) f
 a:=q.1
 b:=q.1+(kG (lx w q)).length
 c:=q.1+(kG (lx w q)).length
 d:=q.2
 e:=0
def cE (rec:LV->Nat->LV × LA × Nat) (w:List UInt8) (j:Nat->List UInt8) (m:Bool):Nat->LA->Nat->List (Nat × Nat)->LA × Nat
 | _,acc,f,[]=>(acc,f)
 | i,acc,f,q::r=>cE rec w j m (i+1) (acc++[ab (rec (ee w q (j (i+1)) m) f).1 (rec (ee w q (j (i+1)) m) f).2.1]) (rec (ee w q (j (i+1)) m) f).2.2 r
def cV (w:List UInt8):Nat->LV->Nat->Bool->Nat->LV × LA × Nat
 | 0,x,_,_,f=>(x,[],f)
 | n+1,x,deep,is,f =>
  if deep<5/\f+(fV w x).length<=16 then
   (cC w x (cE (fun y c=>cV w n y (deep+1) (dG x) c) w (cZ x is) (eM x) 0 [] (f+(fV w x).length) (fV w x)).1.isEmpty,
    cE (fun y c=>cV w n y (deep+1) (dG x) c) w (cZ x is) (eM x) 0 [] (f+(fV w x).length) (fV w x))
  else (cC w x true,[],f)
def Cl (w:List UInt8) (x:LV):Prop:=x.c<=x.d/\x.d<=w.length/\qH x.v.ps/\x.v.ps.length<=12
theorem ji {w:List UInt8} {q:Nat × Nat} (f:q.1<=q.2) (j:q.2<=w.length):(lx w q).length=q.2-q.1:=by
 unfold lx;rw [List.length_drop,List.length_take];omega
theorem lc {w:List UInt8} {q:Nat × Nat} (u:q.1<=q.2) (f:q.2<=w.length) (p:List UInt8) (j:Bool):Cl w (ee w q p j):=by
 have z:=ji u f
 have A:=tx (lx w q)
 have m:=wk (kG (lx w q)) j
 refine ⟨?_,f,m.1,m.2⟩
 show q.1+(kG (lx w q)).length<=q.2
 omega
theorem xx {w:List UInt8} {x:LV} (hw:w.length<=200000) (h:Cl w x):∀ q∈fV w x,q.1<=q.2/\q.2<=w.length:=by
 obtain ⟨j,m,_,_⟩:=h
 have u:(dF w x).length=x.d-x.c:=by unfold dF;rw [List.length_drop,List.length_take];omega
 intro q f
 unfold fV at f
 split at f
 ·split at f
  ·rw [List.mem_singleton] at f
   subst f
   exact ⟨j,m⟩
  ·cases f
 ·split at f
  ·obtain ⟨p,z,rfl⟩:=List.mem_map.1 f
   have:=tQ (gl x.v.ps) (dF w x) (by omega) _ none (dF w x) (Nat.le_refl _) (List.suffix_refl _) (fun k e=>by cases e) p z
   simp only
   omega
  ·cases f
theorem u0 {rec:LV->Nat->LV × LA × Nat} {w:List UInt8} (j:∀ y c,c<=16->(rec y c).2.2<=16) (m:Nat->List UInt8) (u:Bool):∀ (r:List (Nat × Nat)) (i:Nat) (acc:LA) (f:Nat),f<=16->(cE rec w m u i acc f r).2<=16
 | [],_,_,f,h=>h
 | q::r,i,acc,f,h=>by
  rw [cE]
  exact u0 j m u r _ _ _ (j _ _ h)
theorem xv (w:List UInt8):∀ (n:Nat) (x:LV) (deep:Nat) (is:Bool) (f:Nat),f<=16->(cV w n x deep is f).2.2<=16
 | 0,_,_,_,_,h=>h
 | n+1,x,deep,is,f,h=>by
  rw [cV]
  split
  ·rename_i c
   exact u0 (fun y c h=>xv w n y _ _ c h) _ _ _ _ _ _ c.2
  ·exact h
theorem mb {rec:LV->Nat->LV × LA × Nat} {w:List UInt8} (j:Nat->List UInt8) (m:Bool):∀ (r:List (Nat × Nat)) (i:Nat) (acc:LA) (f:Nat),(cE rec w j m i acc f r).1.length=acc.length+r.length
 | [],_,_,f=>rfl
 | q::r,i,acc,f=>by
  rw [cE,mb j m r]
  simp;omega
theorem yP (x:LV) (is:Bool) (k:Nat):(cZ x is k).length<=x.p.length+3:=by
 have:=ue x.p k
 unfold cZ
 split
 ·split <;> omega
 ·omega
theorem yA (M:ak.F R) {w:List UInt8} {x:LV} (N:Cl w x) (hw:w.length<=200000) (j:Nat) (m:BA->Int->BA->BA->BA->LA->Bool->BA->Bool->BA->Bool->BA->Bool->BA->LA->LA->Bool->BA->Int->Int->Int->Int->Int->LA->Option R) (u:BA->Int->BA->BA->BA->Bool->BA->Bool->BA->Bool->BA->Bool->BA->LA->LA->Bool->BA->Int->Int->Int->Int->Int->LA->Option R) (A:∀ (z:LV) (c:Int) (k:LA),u (B w) c (B z.p) (B z.v.ty) (B z.v.sub) z.v.i0 (B z.v.i1) z.v.a0 (B z.v.a1) (dm z.v.c1) (B z.v.c1) (dm z.v.p1) (B z.v.p1) (z.v.pp.map bn) (bw z.v.lg) z.v.w0 (B z.v.w1) (z.a:Int) (z.b:Int) (z.c:Int) (z.d:Int) (z.e:Int) k=m (B w) c (B z.p) (B z.v.ty) (B z.v.sub) ([]:LA) z.v.i0 (B z.v.i1) z.v.a0 (B z.v.a1) (dm z.v.c1) (B z.v.c1) (dm z.v.p1) (B z.v.p1) (z.v.pp.map bn) (bw z.v.lg) z.v.w0 (B z.v.w1) (z.a:Int) (z.b:Int) (z.c:Int) (z.d:Int) (z.e:Int) k) (f:Nat) (k:LA) :
  ak.n9 aE aD bN aA bX aC M m u (f+1) (B x.p) (B x.v.ty) (B x.v.sub) (x.v.ps.map bn) x.v.i0 (B x.v.i1) x.v.a0 (B x.v.a1) (dm x.v.c1) (B x.v.c1) (dm x.v.p1) (B x.v.p1) (x.v.pp.map bn) (bw x.v.lg) x.v.w0 (B x.v.w1) (x.a:Int) (x.b:Int) (x.c:Int) (x.d:Int) (x.e:Int) k (B w) (j:Int)=m (B w) (j:Int) (B (cC w x k.isEmpty).p) (B (cC w x k.isEmpty).v.ty) (B (cC w x k.isEmpty).v.sub) ((cC w x k.isEmpty).v.ps.map bn) (cC w x k.isEmpty).v.i0 (B (cC w x k.isEmpty).v.i1) (cC w x k.isEmpty).v.a0 (B (cC w x k.isEmpty).v.a1) (dm (cC w x k.isEmpty).v.c1) (B (cC w x k.isEmpty).v.c1) (dm (cC w x k.isEmpty).v.p1) (B (cC w x k.isEmpty).v.p1) ((cC w x k.isEmpty).v.pp.map bn) (bw (cC w x k.isEmpty).v.lg) (cC w x k.isEmpty).v.w0 (B (cC w x k.isEmpty).v.w1) ((cC w x k.isEmpty).a:Int) ((cC w x k.isEmpty).b:Int) ((cC w x k.isEmpty).c:Int) ((cC w x k.isEmpty).d:Int) ((cC w x k.isEmpty).e:Int) k:=by
 obtain ⟨U,V,_,_⟩:=N
 have hm:∀ a b:List UInt8,decide (B a=B b)=decide (a=b):=fun a b=>decide_eq_decide.2 eg
 have O:(dF w x).length=x.d-x.c:=by unfold dF;rw [List.length_drop,List.length_take];omega
 rw [ak.n9,ak.t15,av,ac (by omega),av,ac (by omega),ac (by rw [iK];omega),Int.toNat_natCast,Int.toNat_natCast,df]
 show bN (B (dF w x)) _ _=_
 rw [Ii _ (by omega),Es]
 cases k with
 | cons a k =>
  rw [al (by simp only [List.length_cons];omega)]
  have:cC w x (a::k).isEmpty=if dG x then { x with e:=ez (dF w x) } else x:=rfl
  rw [this]
  cases dG x with
  | true=>rfl
  | false=>rfl
 | nil =>
  rw [ai (by simp)]
  have:cC w x ([]:LA).isEmpty=(if x.v.ty=nL then { x with e:=ez (dF w x) } else if dG x=true∨x.v.ty=qB then ga x else x):=rfl
  rw [this,show (⟨#[116,101,120,116]⟩:BA)=B nL from rfl,hm]
  by_cases c1:x.v.ty=nL
  ·rw [decide_eq_true c1,cond_true,if_pos c1]
  ·rw [decide_eq_false c1,cond_false,if_neg c1,Es,show (⟨#[109,117,108,116,105,112,97,114,116]⟩:BA)=B qB from rfl,hm]
   have off:=A (ga x) (j:Int) []
   cases c2:dG x with
   | true=>rw [cond_true,if_pos (.inl rfl)];exact off
   | false =>
    rw [cond_false]
    by_cases c3:x.v.ty=qB
    ·rw [decide_eq_true c3,cond_true,if_pos (.inr c3)];exact off
    ·rw [decide_eq_false c3,cond_false,if_neg (fun h=>h.elim (fun h=>by cases h) c3)]
theorem u7 (O:ak.F R) {w:List UInt8} {x:LV} (hx:Cl w x) (hw:w.length<=200000) (hp:x.p.length<=1000) (deep:Nat) (ad:deep<=100) (ins:Bool) (rec:LV->Nat->LV × LA × Nat) (U:∀ y c,c<=16->(rec y c).2.2<=16)
  (M:∀ (y:LV) (j:Nat) (m:BA->Int->BA->BA->BA->LA->Bool->BA->Bool->BA->Bool->BA->Bool->BA->LA->LA->Bool->BA->Int->Int->Int->Int->Int->LA->Option R) (u:BA->Int->BA->BA->BA->Bool->BA->Bool->BA->Bool->BA->Bool->BA->LA->LA->Bool->BA->Int->Int->Int->Int->Int->LA->Option R),Cl w y->y.p.length<=x.p.length+3->j<=16->(∀ (z:LV) (c:Int) (k:LA),u (B w) c (B z.p) (B z.v.ty) (B z.v.sub) z.v.i0 (B z.v.i1) z.v.a0 (B z.v.a1) (dm z.v.c1) (B z.v.c1) (dm z.v.p1) (B z.v.p1) (z.v.pp.map bn) (bw z.v.lg) z.v.w0 (B z.v.w1) (z.a:Int) (z.b:Int) (z.c:Int) (z.d:Int) (z.e:Int) k=m (B w) c (B z.p) (B z.v.ty) (B z.v.sub) ([]:LA) z.v.i0 (B z.v.i1) z.v.a0 (B z.v.a1) (dm z.v.c1) (B z.v.c1) (dm z.v.p1) (B z.v.p1) (z.v.pp.map bn) (bw z.v.lg) z.v.w0 (B z.v.w1) (z.a:Int) (z.b:Int) (z.c:Int) (z.d:Int) (z.e:Int) k)->O (B w) (j:Int) (B y.p) (B y.v.ty) (B y.v.sub) (y.v.ps.map bn) y.v.i0 (B y.v.i1) y.v.a0 (B y.v.a1) (dm y.v.c1) (B y.v.c1) (dm y.v.p1) (B y.v.p1) (y.v.pp.map bn) (bw y.v.lg) y.v.w0 (B y.v.w1) (y.a:Int) (y.b:Int) (y.c:Int) (y.d:Int) (y.e:Int) ((deep+1:Nat):Int) (dG x) m u=m (B w) ((rec y j).2.2:Int) (B (rec y j).1.p) (B (rec y j).1.v.ty) (B (rec y j).1.v.sub) ((rec y j).1.v.ps.map bn) (rec y j).1.v.i0 (B (rec y j).1.v.i1) (rec y j).1.v.a0 (B (rec y j).1.v.a1) (dm (rec y j).1.v.c1) (B (rec y j).1.v.c1) (dm (rec y j).1.v.p1) (B (rec y j).1.v.p1) ((rec y j).1.v.pp.map bn) (bw (rec y j).1.v.lg) (rec y j).1.v.w0 (B (rec y j).1.v.w1) ((rec y j).1.a:Int) ((rec y j).1.b:Int) ((rec y j).1.c:Int) ((rec y j).1.d:Int) ((rec y j).1.e:Int) (rec y j).2.1)
  (m:BA->Int->BA->BA->BA->LA->Bool->BA->Bool->BA->Bool->BA->Bool->BA->LA->LA->Bool->BA->Int->Int->Int->Int->Int->LA->Option R) (u:BA->Int->BA->BA->BA->Bool->BA->Bool->BA->Bool->BA->Bool->BA->LA->LA->Bool->BA->Int->Int->Int->Int->Int->LA->Option R) (V:∀ (z:LV) (c:Int) (k:LA),u (B w) c (B z.p) (B z.v.ty) (B z.v.sub) z.v.i0 (B z.v.i1) z.v.a0 (B z.v.a1) (dm z.v.c1) (B z.v.c1) (dm z.v.p1) (B z.v.p1) (z.v.pp.map bn) (bw z.v.lg) z.v.w0 (B z.v.w1) (z.a:Int) (z.b:Int) (z.c:Int) (z.d:Int) (z.e:Int) k=m (B w) c (B z.p) (B z.v.ty) (B z.v.sub) ([]:LA) z.v.i0 (B z.v.i1) z.v.a0 (B z.v.a1) (dm z.v.c1) (B z.v.c1) (dm z.v.p1) (B z.v.p1) (z.v.pp.map bn) (bw z.v.lg) z.v.w0 (B z.v.w1) (z.a:Int) (z.b:Int) (z.c:Int) (z.d:Int) (z.e:Int) k) (P:List (Nat × Nat)) (hP:P.length<=16) (W:∀ q∈P,q.1<=q.2/\q.2<=w.length) :
  ∀ (r d:List (Nat × Nat)) (acc:LA) (j f:Nat),d++r=P->acc.length=d.length->j<=16->3*r.length+2<=f ->
  (ak.M5 aE aD bN aA bX aC O m u f).1 (deep:Int) ins (P.length:Int) (d.length:Int) (B x.p) (B x.v.ty) (B x.v.sub) (x.v.ps.map bn) x.v.i0 (B x.v.i1) x.v.a0 (B x.v.a1) (dm x.v.c1) (B x.v.c1) (dm x.v.p1) (B x.v.p1) (x.v.pp.map bn) (bw x.v.lg) x.v.w0 (B x.v.w1) (x.a:Int) (x.b:Int) (x.c:Int) (x.d:Int) (x.e:Int) (B w) (j:Int) acc (P.map (fJ 0))=m (B w) ((cE rec w (cZ x (ins||decide (deep=0))) (eM x) d.length acc j r).2:Int) (B (cC w x (cE rec w (cZ x (ins||decide (deep=0))) (eM x) d.length acc j r).1.isEmpty).p) (B (cC w x (cE rec w (cZ x (ins||decide (deep=0))) (eM x) d.length acc j r).1.isEmpty).v.ty) (B (cC w x (cE rec w (cZ x (ins||decide (deep=0))) (eM x) d.length acc j r).1.isEmpty).v.sub) ((cC w x (cE rec w (cZ x (ins||decide (deep=0))) (eM x) d.length acc j r).1.isEmpty).v.ps.map bn) (cC w x (cE rec w (cZ x (ins||decide (deep=0))) (eM x) d.length acc j r).1.isEmpty).v.i0 (B (cC w x (cE rec w (cZ x (ins||decide (deep=0))) (eM x) d.length acc j r).1.isEmpty).v.i1) (cC w x (cE rec w (cZ x (ins||decide (deep=0))) (eM x) d.length acc j r).1.isEmpty).v.a0 (B (cC w x (cE rec w (cZ x (ins||decide (deep=0))) (eM x) d.length acc j r).1.isEmpty).v.a1) (dm (cC w x (cE rec w (cZ x (ins||decide (deep=0))) (eM x) d.length acc j r).1.isEmpty).v.c1) (B (cC w x (cE rec w (cZ x (ins||decide (deep=0))) (eM x) d.length acc j r).1.isEmpty).v.c1) (dm (cC w x (cE rec w (cZ x (ins||decide (deep=0))) (eM x) d.length acc j r).1.isEmpty).v.p1) (B (cC w x (cE rec w (cZ x (ins||decide (deep=0))) (eM x) d.length acc j r).1.isEmpty).v.p1) ((cC w x (cE rec w (cZ x (ins||decide (deep=0))) (eM x) d.length acc j r).1.isEmpty).v.pp.map bn) (bw (cC w x (cE rec w (cZ x (ins||decide (deep=0))) (eM x) d.length acc j r).1.isEmpty).v.lg) (cC w x (cE rec w (cZ x (ins||decide (deep=0))) (eM x) d.length acc j r).1.isEmpty).v.w0 (B (cC w x (cE rec w (cZ x (ins||decide (deep=0))) (eM x) d.length acc j r).1.isEmpty).v.w1) ((cC w x (cE rec w (cZ x (ins||decide (deep=0))) (eM x) d.length acc j r).1.isEmpty).a:Int) ((cC w x (cE rec w (cZ x (ins||decide (deep=0))) (eM x) d.length acc j r).1.isEmpty).b:Int) ((cC w x (cE rec w (cZ x (ins||decide (deep=0))) (eM x) d.length acc j r).1.isEmpty).c:Int) ((cC w x (cE rec w (cZ x (ins||decide (deep=0))) (eM x) d.length acc j r).1.isEmpty).d:Int) ((cC w x (cE rec w (cZ x (ins||decide (deep=0))) (eM x) d.length acc j r).1.isEmpty).e:Int) (cE rec w (cZ x (ins||decide (deep=0))) (eM x) d.length acc j r).1
 | [],d,acc,j,f,N,ha,hc,hf=>by
  obtain ⟨g,rfl⟩:∃ g,f=g+2:=⟨f-2,by omega⟩
  rw [List.append_nil] at N
  rw [ak.M5]
  simp only
  rw [ak.t5,N,ai (by omega)]
  exact yA O hx hw j m u V g acc
 | q::r,d,acc,j,f,N,ha,hc,hf=>by
  simp only [List.length_cons] at hf
  obtain ⟨g,rfl⟩:∃ g,f=g+3:=⟨f-3,by omega⟩
  have hm:∀ a b:List UInt8,decide (B a=B b)=decide (a=b):=fun a b=>decide_eq_decide.2 eg
  have hlen:d.length+r.length+1=P.length:=by rw [<- N];simp;omega
  have hq:q∈P:=by rw [<- N];simp
  obtain ⟨q1,q2⟩:=W q hq
  have X:bf (P.map (fJ 0)) (d.length:Int)=fJ 0 q:=eh (by rw [List.getElem?_map,<- N];simp)
  have ae:(P.map (fJ 0)).length=P.length:=List.length_map ..
  have f0:((fJ 0 q).fld 0).i=(q.1:Int):=by show ((0+q.1:Nat):Int)=_;rw [Nat.zero_add]
  have f1:((fJ 0 q).fld 1).i=(q.2:Int):=by show ((0+q.2:Nat):Int)=_;rw [Nat.zero_add]
  have Y:=ji q1 q2
  have w1:IntKind.wrap .i64 ((d.length:Int)+1)=((d.length+1:Nat):Int):=wrap_i64 (by omega) (by omega)
  have w2:IntKind.wrap .i64 ((deep:Int)+1)=((deep+1:Nat):Int):=wrap_i64 (by omega) (by omega)
  have A:=fun (dg:Bool)=>Et (R:=R) (w:=w) (s:=lx w q) (F:=q.1) (by rw [Y,show q.1+(q.2-q.1)=q.2 by omega];rfl) (by omega) hw (j:Int) dg
  rw [Y,show q.1+(q.2-q.1)=q.2 by omega] at A
  have body:(ak.M5 aE aD bN aA bX aC O m u (g+2)).2.1 (deep:Int) ins (d.length:Int) (P.length:Int) (d.length:Int) (B x.p) (B x.v.ty) (B x.v.sub) (x.v.ps.map bn) x.v.i0 (B x.v.i1) x.v.a0 (B x.v.a1) (dm x.v.c1) (B x.v.c1) (dm x.v.p1) (B x.v.p1) (x.v.pp.map bn) (bw x.v.lg) x.v.w0 (B x.v.w1) (x.a:Int) (x.b:Int) (x.c:Int) (x.d:Int) (x.e:Int) (B w) (j:Int) acc (B []) (B (ee w q (cZ x (ins||decide (deep=0)) (d.length+1)) (eM x)).v.ty) (B (ee w q (cZ x (ins||decide (deep=0)) (d.length+1)) (eM x)).v.sub) ((ee w q (cZ x (ins||decide (deep=0)) (d.length+1)) (eM x)).v.ps.map bn) (ee w q (cZ x (ins||decide (deep=0)) (d.length+1)) (eM x)).v.i0 (B (ee w q (cZ x (ins||decide (deep=0)) (d.length+1)) (eM x)).v.i1) (ee w q (cZ x (ins||decide (deep=0)) (d.length+1)) (eM x)).v.a0 (B (ee w q (cZ x (ins||decide (deep=0)) (d.length+1)) (eM x)).v.a1) (dm (ee w q (cZ x (ins||decide (deep=0)) (d.length+1)) (eM x)).v.c1) (B (ee w q (cZ x (ins||decide (deep=0)) (d.length+1)) (eM x)).v.c1) (dm (ee w q (cZ x (ins||decide (deep=0)) (d.length+1)) (eM x)).v.p1) (B (ee w q (cZ x (ins||decide (deep=0)) (d.length+1)) (eM x)).v.p1) ((ee w q (cZ x (ins||decide (deep=0)) (d.length+1)) (eM x)).v.pp.map bn) (bw (ee w q (cZ x (ins||decide (deep=0)) (d.length+1)) (eM x)).v.lg) (ee w q (cZ x (ins||decide (deep=0)) (d.length+1)) (eM x)).v.w0 (B (ee w q (cZ x (ins||decide (deep=0)) (d.length+1)) (eM x)).v.w1) ((ee w q (cZ x (ins||decide (deep=0)) (d.length+1)) (eM x)).a:Int) ((ee w q (cZ x (ins||decide (deep=0)) (d.length+1)) (eM x)).b:Int) ((ee w q (cZ x (ins||decide (deep=0)) (d.length+1)) (eM x)).c:Int) ((ee w q (cZ x (ins||decide (deep=0)) (d.length+1)) (eM x)).d:Int) ((ee w q (cZ x (ins||decide (deep=0)) (d.length+1)) (eM x)).e:Int) (P.map (fJ 0))=m (B w) ((cE rec w (cZ x (ins||decide (deep=0))) (eM x) d.length acc j (q::r)).2:Int) (B (cC w x (cE rec w (cZ x (ins||decide (deep=0))) (eM x) d.length acc j (q::r)).1.isEmpty).p) (B (cC w x (cE rec w (cZ x (ins||decide (deep=0))) (eM x) d.length acc j (q::r)).1.isEmpty).v.ty) (B (cC w x (cE rec w (cZ x (ins||decide (deep=0))) (eM x) d.length acc j (q::r)).1.isEmpty).v.sub) ((cC w x (cE rec w (cZ x (ins||decide (deep=0))) (eM x) d.length acc j (q::r)).1.isEmpty).v.ps.map bn) (cC w x (cE rec w (cZ x (ins||decide (deep=0))) (eM x) d.length acc j (q::r)).1.isEmpty).v.i0 (B (cC w x (cE rec w (cZ x (ins||decide (deep=0))) (eM x) d.length acc j (q::r)).1.isEmpty).v.i1) (cC w x (cE rec w (cZ x (ins||decide (deep=0))) (eM x) d.length acc j (q::r)).1.isEmpty).v.a0 (B (cC w x (cE rec w (cZ x (ins||decide (deep=0))) (eM x) d.length acc j (q::r)).1.isEmpty).v.a1) (dm (cC w x (cE rec w (cZ x (ins||decide (deep=0))) (eM x) d.length acc j (q::r)).1.isEmpty).v.c1) (B (cC w x (cE rec w (cZ x (ins||decide (deep=0))) (eM x) d.length acc j (q::r)).1.isEmpty).v.c1) (dm (cC w x (cE rec w (cZ x (ins||decide (deep=0))) (eM x) d.length acc j (q::r)).1.isEmpty).v.p1) (B (cC w x (cE rec w (cZ x (ins||decide (deep=0))) (eM x) d.length acc j (q::r)).1.isEmpty).v.p1) ((cC w x (cE rec w (cZ x (ins||decide (deep=0))) (eM x) d.length acc j (q::r)).1.isEmpty).v.pp.map bn) (bw (cC w x (cE rec w (cZ x (ins||decide (deep=0))) (eM x) d.length acc j (q::r)).1.isEmpty).v.lg) (cC w x (cE rec w (cZ x (ins||decide (deep=0))) (eM x) d.length acc j (q::r)).1.isEmpty).v.w0 (B (cC w x (cE rec w (cZ x (ins||decide (deep=0))) (eM x) d.length acc j (q::r)).1.isEmpty).v.w1) ((cC w x (cE rec w (cZ x (ins||decide (deep=0))) (eM x) d.length acc j (q::r)).1.isEmpty).a:Int) ((cC w x (cE rec w (cZ x (ins||decide (deep=0))) (eM x) d.length acc j (q::r)).1.isEmpty).b:Int) ((cC w x (cE rec w (cZ x (ins||decide (deep=0))) (eM x) d.length acc j (q::r)).1.isEmpty).c:Int) ((cC w x (cE rec w (cZ x (ins||decide (deep=0))) (eM x) d.length acc j (q::r)).1.isEmpty).d:Int) ((cC w x (cE rec w (cZ x (ins||decide (deep=0))) (eM x) d.length acc j (q::r)).1.isEmpty).e:Int) (cE rec w (cZ x (ins||decide (deep=0))) (eM x) d.length acc j (q::r)).1:=by
   have ap:=yP x (ins||decide (deep=0)) (d.length+1)
   rw [cE,ak.M5]
   simp only
   rw [ak.t8,w1,w2,Hy x (by omega) acc deep ins (d.length+1) (by omega) (by omega),Er]
   refine (M (ee w q (cZ x (ins||decide (deep=0)) (d.length+1)) (eM x)) j _ _ (lc q1 q2 _ _) ap hc (fun z c k=>rfl)).trans ?_
   rw [ac (by omega),ac (by omega),av,ac (by omega),ac (by simp only [List.length_append,List.length_cons,List.length_nil];omega),Aw,zG,EW,ak.M5]
   ·simp only
    rw [ak.t14,w1]
    have:=u7 O hx hw hp deep ad ins rec U M m u V P hP W r (d++[q]) (acc++[ab (rec (ee w q (cZ x (ins||decide (deep=0)) (d.length+1)) (eM x)) j).1 (rec (ee w q (cZ x (ins||decide (deep=0)) (d.length+1)) (eM x)) j).2.1]) (rec (ee w q (cZ x (ins||decide (deep=0)) (d.length+1)) (eM x)) j).2.2 g (by rw [List.append_assoc];exact N) (by simp [ha]) (U _ _ hc) (by omega)
    rw [show (d++[q]).length=d.length+1 by simp] at this
    exact this
   ·rfl
   ·rfl
  rw [ak.M5]
  simp only
  rw [ak.t5,ae,al (by omega),av,ac (by omega),ac (by omega),X,f0,f1,A,A,show (⟨#[109,117,108,116,105,112,97,114,116]⟩:BA)=B qB from rfl,show (⟨#[100,105,103,101,115,116]⟩:BA)=B uB from rfl,hm,hm]
  unfold eM at body ⊢
  by_cases c1:x.v.ty=qB
  ·rw [decide_eq_true c1,Bool.true_and] at body
   rw [decide_eq_true c1,cond_true,Bool.true_and]
   exact body
  ·rw [decide_eq_false c1,Bool.false_and] at body
   rw [decide_eq_false c1,cond_false,Bool.false_and]
   exact body
theorem HV {w:List UInt8} (hw:w.length<=200000):∀ (n A:Nat) (x:LV) (deep:Nat) (ins:Bool) (j:Nat) (m:BA->Int->BA->BA->BA->LA->Bool->BA->Bool->BA->Bool->BA->Bool->BA->LA->LA->Bool->BA->Int->Int->Int->Int->Int->LA->Option R) (u:BA->Int->BA->BA->BA->Bool->BA->Bool->BA->Bool->BA->Bool->BA->LA->LA->Bool->BA->Int->Int->Int->Int->Int->LA->Option R),Cl w x->x.p.length+3*n<=1000->deep+n=6->1<=n->n<=A->j<=16->(∀ (z:LV) (c:Int) (k:LA),u (B w) c (B z.p) (B z.v.ty) (B z.v.sub) z.v.i0 (B z.v.i1) z.v.a0 (B z.v.a1) (dm z.v.c1) (B z.v.c1) (dm z.v.p1) (B z.v.p1) (z.v.pp.map bn) (bw z.v.lg) z.v.w0 (B z.v.w1) (z.a:Int) (z.b:Int) (z.c:Int) (z.d:Int) (z.e:Int) k=m (B w) c (B z.p) (B z.v.ty) (B z.v.sub) ([]:LA) z.v.i0 (B z.v.i1) z.v.a0 (B z.v.a1) (dm z.v.c1) (B z.v.c1) (dm z.v.p1) (B z.v.p1) (z.v.pp.map bn) (bw z.v.lg) z.v.w0 (B z.v.w1) (z.a:Int) (z.b:Int) (z.c:Int) (z.d:Int) (z.e:Int) k) ->
  ak.R A (B w) (j:Int) (B x.p) (B x.v.ty) (B x.v.sub) (x.v.ps.map bn) x.v.i0 (B x.v.i1) x.v.a0 (B x.v.a1) (dm x.v.c1) (B x.v.c1) (dm x.v.p1) (B x.v.p1) (x.v.pp.map bn) (bw x.v.lg) x.v.w0 (B x.v.w1) (x.a:Int) (x.b:Int) (x.c:Int) (x.d:Int) (x.e:Int) (deep:Int) ins m u=m (B w) ((cV w n x deep (ins||decide (deep=0)) j).2.2:Int) (B (cV w n x deep (ins||decide (deep=0)) j).1.p) (B (cV w n x deep (ins||decide (deep=0)) j).1.v.ty) (B (cV w n x deep (ins||decide (deep=0)) j).1.v.sub) ((cV w n x deep (ins||decide (deep=0)) j).1.v.ps.map bn) (cV w n x deep (ins||decide (deep=0)) j).1.v.i0 (B (cV w n x deep (ins||decide (deep=0)) j).1.v.i1) (cV w n x deep (ins||decide (deep=0)) j).1.v.a0 (B (cV w n x deep (ins||decide (deep=0)) j).1.v.a1) (dm (cV w n x deep (ins||decide (deep=0)) j).1.v.c1) (B (cV w n x deep (ins||decide (deep=0)) j).1.v.c1) (dm (cV w n x deep (ins||decide (deep=0)) j).1.v.p1) (B (cV w n x deep (ins||decide (deep=0)) j).1.v.p1) ((cV w n x deep (ins||decide (deep=0)) j).1.v.pp.map bn) (bw (cV w n x deep (ins||decide (deep=0)) j).1.v.lg) (cV w n x deep (ins||decide (deep=0)) j).1.v.w0 (B (cV w n x deep (ins||decide (deep=0)) j).1.v.w1) ((cV w n x deep (ins||decide (deep=0)) j).1.a:Int) ((cV w n x deep (ins||decide (deep=0)) j).1.b:Int) ((cV w n x deep (ins||decide (deep=0)) j).1.c:Int) ((cV w n x deep (ins||decide (deep=0)) j).1.d:Int) ((cV w n x deep (ins||decide (deep=0)) j).1.e:Int) (cV w n x deep (ins||decide (deep=0)) j).2.1
 | 0,_,_,_,_,_,_,_,_,_,_,h,_,_,_=>by omega
 | _+1,0,_,_,_,_,_,_,_,_,_,_,h,_,_=>by omega
 | n+1,A+1,x,deep,ins,j,m,u,N,hp,hn,_,ad,hc,O=>by
  rw [ak.R,ak.B]
  have key:∀ f,1000<=f->ak.e aE aD bN aA bX aC (ak.R A) (B w) (j:Int) (B x.p) (B x.v.ty) (B x.v.sub) (x.v.ps.map bn) x.v.i0 (B x.v.i1) x.v.a0 (B x.v.a1) (dm x.v.c1) (B x.v.c1) (dm x.v.p1) (B x.v.p1) (x.v.pp.map bn) (bw x.v.lg) x.v.w0 (B x.v.w1) (x.a:Int) (x.b:Int) (x.c:Int) (x.d:Int) (x.e:Int) (deep:Int) ins (ak.L2 aE aD bN aA bX aC (ak.R A) m u (f+1)) (ak.L5 aE aD bN aA bX aC (ak.R A) m u (f+1)) (ak.L8 aE aD bN aA bX aC (ak.R A) m u (f+1)) (ak.sO aE aD bN aA bX aC (ak.R A) m u (f+1)) (ak.n9 aE aD bN aA bX aC (ak.R A) m u (f+1)) m u=m (B w) ((cV w (n+1) x deep (ins||decide (deep=0)) j).2.2:Int) (B (cV w (n+1) x deep (ins||decide (deep=0)) j).1.p) (B (cV w (n+1) x deep (ins||decide (deep=0)) j).1.v.ty) (B (cV w (n+1) x deep (ins||decide (deep=0)) j).1.v.sub) ((cV w (n+1) x deep (ins||decide (deep=0)) j).1.v.ps.map bn) (cV w (n+1) x deep (ins||decide (deep=0)) j).1.v.i0 (B (cV w (n+1) x deep (ins||decide (deep=0)) j).1.v.i1) (cV w (n+1) x deep (ins||decide (deep=0)) j).1.v.a0 (B (cV w (n+1) x deep (ins||decide (deep=0)) j).1.v.a1) (dm (cV w (n+1) x deep (ins||decide (deep=0)) j).1.v.c1) (B (cV w (n+1) x deep (ins||decide (deep=0)) j).1.v.c1) (dm (cV w (n+1) x deep (ins||decide (deep=0)) j).1.v.p1) (B (cV w (n+1) x deep (ins||decide (deep=0)) j).1.v.p1) ((cV w (n+1) x deep (ins||decide (deep=0)) j).1.v.pp.map bn) (bw (cV w (n+1) x deep (ins||decide (deep=0)) j).1.v.lg) (cV w (n+1) x deep (ins||decide (deep=0)) j).1.v.w0 (B (cV w (n+1) x deep (ins||decide (deep=0)) j).1.v.w1) ((cV w (n+1) x deep (ins||decide (deep=0)) j).1.a:Int) ((cV w (n+1) x deep (ins||decide (deep=0)) j).1.b:Int) ((cV w (n+1) x deep (ins||decide (deep=0)) j).1.c:Int) ((cV w (n+1) x deep (ins||decide (deep=0)) j).1.d:Int) ((cV w (n+1) x deep (ins||decide (deep=0)) j).1.e:Int) (cV w (n+1) x deep (ins||decide (deep=0)) j).2.1:=by
   intro f hf
   obtain ⟨W,X,Y,h4⟩:=N
   have N:Cl w x:=⟨W,X,Y,h4⟩
   have U:((fV w x).map (fJ 0)).length=(fV w x).length:=List.length_map ..
   have ae:(fV w x).length<=1000000:=by
    have ap:(dF w x).length=x.d-x.c:=by unfold dF;rw [List.length_drop,List.length_take];omega
    unfold fV
    split
    ·split <;> simp
    ·split
     ·have:=mw (gl x.v.ps) (dF w x) _ none (dF w x) (Nat.le_refl _)
      rw [List.length_map];omega
     ·simp
   rw [ak.e]
   refine (Ik W X hw Y (by omega) (j:Int) _ _ (by rfl)).trans ?_
   rw [ak.L2,ak.t2,U,wrap_i64 (by omega) (by omega)]
   rw [cV]
   have M:=yA (ak.R A) N hw j m u O (f-1) []
   rw [show f-1+1=f by omega] at M
   by_cases c1:deep<5
   ·rw [al (by omega)]
    by_cases c2:j+(fV w x).length<=16
    ·rw [al (by omega),if_pos ⟨c1,c2⟩]
     have hl:=u7 (ak.R A) N hw (by omega) deep (by omega) ins (fun y c=>cV w n y (deep+1) (dG x) c) (fun y c h=>xv w n y _ _ c h)
      (fun y j m u hy ar V hk=>by
       have:=HV hw n A y (deep+1) (dG x) j m u hy (by omega) (by omega) (by omega) (by omega) V hk
       rw [decide_eq_false (show ¬ deep+1=0 by omega),Bool.or_false] at this
       exact this)
      m u O (fV w x) (by omega) (xx hw N) (fV w x) [] [] (j+(fV w x).length) f rfl rfl c2 (by omega)
     exact hl
    ·rw [ai (by omega),if_neg (fun h=>c2 h.2)]
     exact M
   ·rw [ai (by omega),if_neg (fun h=>c1 h.1)]
    exact M
  exact key (ag-1) (by unfold ag;omega)
theorem mT (w:List UInt8) (x:LV) (em:Bool):(cC w x em).a=x.a/\(cC w x em).b=x.b/\(cC w x em).c=x.c/\(cC w x em).d=x.d:=by
 unfold cC ga
 split
 ·split
  ·exact ⟨rfl,rfl,rfl,rfl⟩
  ·split <;> exact ⟨rfl,rfl,rfl,rfl⟩
 ·split <;> exact ⟨rfl,rfl,rfl,rfl⟩
theorem DS {w:List UInt8} {x:LV} (h:dG x=true):fV w x=[]∨fV w x=[(x.c,x.d)]:=by
 unfold fV
 rw [if_pos h]
 split
 ·exact .inr rfl
 ·exact .inl rfl
theorem Cf {x:LV} (h:dG x=true):x.v.ty=gG:=by
 unfold dG at h
 rw [Bool.and_eq_true] at h
 exact of_decide_eq_true h.1
theorem vM (RF:au.F R) {w:List UInt8} {x:LV} (hw:w.length<=200000) (hp:x.p.length<=1000) (deep:Nat) (ad:deep<=100) (N:dG x=false) (O:x.v.ty=qB) (is:Bool) (rec:LV->Nat->LV × LA × Nat) (U:∀ y c,c<=16->(rec y c).2.2<=16)
  (u:∀ (y:LV) (j:Nat) (m:BA->BA->BA->LA->Bool->BA->Bool->BA->Bool->BA->Bool->BA->LA->LA->Bool->BA->Int->Int->Int->Int->Int->LA->Int->Option R),Cl w y->y.p.length<=x.p.length+3->j<=16->RF (B w) (B y.p) (B y.v.ty) (B y.v.sub) (y.v.ps.map bn) y.v.i0 (B y.v.i1) y.v.a0 (B y.v.a1) (dm y.v.c1) (B y.v.c1) (dm y.v.p1) (B y.v.p1) (y.v.pp.map bn) (bw y.v.lg) y.v.w0 (B y.v.w1) (y.a:Int) (y.b:Int) (y.c:Int) (y.d:Int) (y.e:Int) ((deep+1:Nat):Int) false (j:Int) m=m (B (rec y j).1.p) (B (rec y j).1.v.ty) (B (rec y j).1.v.sub) ((rec y j).1.v.ps.map bn) (rec y j).1.v.i0 (B (rec y j).1.v.i1) (rec y j).1.v.a0 (B (rec y j).1.v.a1) (dm (rec y j).1.v.c1) (B (rec y j).1.v.c1) (dm (rec y j).1.v.p1) (B (rec y j).1.v.p1) ((rec y j).1.v.pp.map bn) (bw (rec y j).1.v.lg) (rec y j).1.v.w0 (B (rec y j).1.v.w1) ((rec y j).1.a:Int) ((rec y j).1.b:Int) ((rec y j).1.c:Int) ((rec y j).1.d:Int) ((rec y j).1.e:Int) (rec y j).2.1 ((rec y j).2.2:Int))
  (m:BA->BA->BA->LA->Bool->BA->Bool->BA->Bool->BA->Bool->BA->LA->LA->Bool->BA->Int->Int->Int->Int->Int->LA->Int->Option R) (P:List (Nat × Nat)) (hP:P.length<=16) (V:∀ q∈P,q.1<=q.2/\q.2<=w.length) :
  ∀ (r d:List (Nat × Nat)) (acc:LA) (j f:Nat),d++r=P->acc.length=d.length->j<=16->r.length+2<=f ->
  au.Eh bH aS br aY RF m f (B w) (deep:Int) (j:Int) (d.length:Int) (B x.p) (B x.v.ty) (B x.v.sub) (x.v.ps.map bn) x.v.i0 (B x.v.i1) x.v.a0 (B x.v.a1) (dm x.v.c1) (B x.v.c1) (dm x.v.p1) (B x.v.p1) (x.v.pp.map bn) (bw x.v.lg) x.v.w0 (B x.v.w1) (x.a:Int) (x.b:Int) (x.c:Int) (x.d:Int) (x.e:Int) acc (⟨#[]⟩:BA) (⟨#[]⟩:BA) (⟨#[]⟩:BA) false (⟨#[]⟩:BA) false (⟨#[]⟩:BA) false (⟨#[]⟩:BA) false (⟨#[]⟩:BA) false (⟨#[]⟩:BA) 0 0 0 0 0 (P.map (fJ 0))=m (B x.p) (B x.v.ty) (B x.v.sub) (x.v.ps.map bn) x.v.i0 (B x.v.i1) x.v.a0 (B x.v.a1) (dm x.v.c1) (B x.v.c1) (dm x.v.p1) (B x.v.p1) (x.v.pp.map bn) (bw x.v.lg) x.v.w0 (B x.v.w1) (x.a:Int) (x.b:Int) (x.c:Int) (x.d:Int) (x.e:Int) (cE rec w (cZ x is) (eM x) d.length acc j r).1 ((cE rec w (cZ x is) (eM x) d.length acc j r).2:Int)
 | [],d,acc,j,f,A,ha,hc,hf=>by
  obtain ⟨g,rfl⟩:∃ g,f=g+2:=⟨f-2,by omega⟩
  rw [List.append_nil] at A
  have M:(P.map (fJ 0)).length=P.length:=List.length_map ..
  rw [au.Eh,au.t22,M,A,ai (by omega)]
  rfl
 | q::r,d,acc,j,f,A,ha,hc,hf=>by
  simp only [List.length_cons] at hf
  obtain ⟨g,rfl⟩:∃ g,f=g+1:=⟨f-1,by omega⟩
  have hm:∀ a b:List UInt8,decide (B a=B b)=decide (a=b):=fun a b=>decide_eq_decide.2 eg
  have hlen:d.length+r.length+1=P.length:=by rw [<- A];simp;omega
  have hq:q∈P:=by rw [<- A];simp
  obtain ⟨q1,q2⟩:=V q hq
  have W:bf (P.map (fJ 0)) (d.length:Int)=fJ 0 q:=eh (by rw [List.getElem?_map,<- A];simp)
  have M:(P.map (fJ 0)).length=P.length:=List.length_map ..
  have f0:((fJ 0 q).fld 0).i=(q.1:Int):=by show ((0+q.1:Nat):Int)=_;rw [Nat.zero_add]
  have f1:((fJ 0 q).fld 1).i=(q.2:Int):=by show ((0+q.2:Nat):Int)=_;rw [Nat.zero_add]
  have X:=ji q1 q2
  have w1:IntKind.wrap .i64 ((d.length:Int)+1)=((d.length+1:Nat):Int):=wrap_i64 (by omega) (by omega)
  have w2:IntKind.wrap .i64 ((deep:Int)+1)=((deep+1:Nat):Int):=wrap_i64 (by omega) (by omega)
  have z:=fun (p:BA) (dg:Bool)=>Cu (R:=R) (w:=w) (s:=lx w q) (F:=q.1) (by rw [X,show q.1+(q.2-q.1)=q.2 by omega];rfl) (by omega) hw p dg
  rw [X,show q.1+(q.2-q.1)=q.2 by omega] at z
  have ae:=ue x.p (d.length+1)
  have ap:cZ x is (d.length+1)=xS x.p (d.length+1):=by unfold cZ;rw [if_neg (by rw [N];decide)]
  have Y:eM x=decide (x.v.sub=uB):=by unfold eM;rw [decide_eq_true O,Bool.true_and]
  rw [au.Eh,au.t22,M,al (by omega),av,ac (by omega),ac (by omega),W,f0,f1,w1,w2,GR _ (by omega) _ (by omega) (by omega),show (⟨#[100,105,103,101,115,116]⟩:BA)=B uB from rfl,hm,z]
  rw [cE,ap,Y]
  refine (u (ee w q (xS x.p (d.length+1)) (decide (x.v.sub=uB))) j _ (lc q1 q2 _ _) ae hc).trans ?_
  rw [ac (by omega)]
  have:=vM RF hw hp deep ad N O is rec U u m P hP V r (d++[q]) (acc++[ab (rec (ee w q (xS x.p (d.length+1)) (decide (x.v.sub=uB))) j).1 (rec (ee w q (xS x.p (d.length+1)) (decide (x.v.sub=uB))) j).2.1]) (rec (ee w q (xS x.p (d.length+1)) (decide (x.v.sub=uB))) j).2.2 g (by rw [List.append_assoc];exact A) (by simp [ha]) (U _ _ hc) (by omega)
  rw [show (d++[q]).length=d.length+1 by simp] at this
  rw [Y] at this
  exact this
theorem B4 {rec:LV->Nat->LV × LA × Nat} {w:List UInt8} (f:Nat->List UInt8) (m:Bool) (r:List (Nat × Nat)) (j:Nat) (h:r≠[]):(cE rec w f m 0 [] j r).1.isEmpty=false:=by
 have:=mb (rec:=rec) (w:=w) f m r 0 [] j
 cases r with
 | nil=>exact absurd rfl h
 | cons q r =>
  cases e:(cE rec w f m 0 [] j (q::r)).1 with
  | nil=>rw [e] at this;simp at this
  | cons a l=>rfl
theorem u3 (rec:LV->Nat->LV × LA × Nat) (w:List UInt8) (f:Nat->List UInt8) (m:Bool) (j:Nat) (q:Nat × Nat):cE rec w f m 0 [] j [q]=([ab (rec (ee w q (f 1) m) j).1 (rec (ee w q (f 1) m) j).2.1],(rec (ee w q (f 1) m) j).2.2):=rfl
theorem HJ {w:List UInt8} (hw:w.length<=200000):∀ (n z:Nat) (x:LV) (deep:Nat) (is:Bool) (j:Nat) (m:BA->BA->BA->LA->Bool->BA->Bool->BA->Bool->BA->Bool->BA->LA->LA->Bool->BA->Int->Int->Int->Int->Int->LA->Int->Option R),Cl w x->x.p.length+3*n<=1000->deep+n=6->1<=n->n<=z->j<=16 ->
  au.R z (B w) (B x.p) (B x.v.ty) (B x.v.sub) (x.v.ps.map bn) x.v.i0 (B x.v.i1) x.v.a0 (B x.v.a1) (dm x.v.c1) (B x.v.c1) (dm x.v.p1) (B x.v.p1) (x.v.pp.map bn) (bw x.v.lg) x.v.w0 (B x.v.w1) (x.a:Int) (x.b:Int) (x.c:Int) (x.d:Int) (x.e:Int) (deep:Int) is (j:Int) m=m (B (cV w n x deep is j).1.p) (B (cV w n x deep is j).1.v.ty) (B (cV w n x deep is j).1.v.sub) ((cV w n x deep is j).1.v.ps.map bn) (cV w n x deep is j).1.v.i0 (B (cV w n x deep is j).1.v.i1) (cV w n x deep is j).1.v.a0 (B (cV w n x deep is j).1.v.a1) (dm (cV w n x deep is j).1.v.c1) (B (cV w n x deep is j).1.v.c1) (dm (cV w n x deep is j).1.v.p1) (B (cV w n x deep is j).1.v.p1) ((cV w n x deep is j).1.v.pp.map bn) (bw (cV w n x deep is j).1.v.lg) (cV w n x deep is j).1.v.w0 (B (cV w n x deep is j).1.v.w1) ((cV w n x deep is j).1.a:Int) ((cV w n x deep is j).1.b:Int) ((cV w n x deep is j).1.c:Int) ((cV w n x deep is j).1.d:Int) ((cV w n x deep is j).1.e:Int) (cV w n x deep is j).2.1 ((cV w n x deep is j).2.2:Int)
 | 0,_,_,_,_,_,_,_,_,_,h,_,_=>by omega
 | _+1,0,_,_,_,_,_,_,_,_,_,h,_=>by omega
 | n+1,z+1,x,deep,is,j,m,hx,hp,hn,_,bs,hc=>by
  obtain ⟨h1,h2,h3,h4⟩:=hx
  have hx:Cl w x:=⟨h1,h2,h3,h4⟩
  have hm:∀ a b:List UInt8,decide (B a=B b)=decide (a=b):=fun a b=>decide_eq_decide.2 eg
  have bx:(dF w x).length=x.d-x.c:=by unfold dF;rw [List.length_drop,List.length_take];omega
  have ax:((fV w x).map (fJ 0)).length=(fV w x).length:=List.length_map ..
  have bP:(fV w x).length<=1000000:=by
   unfold fV
   split
   ·split <;> simp
   ·split
    ·have:=mw (gl x.v.ps) (dF w x) _ none (dF w x) (Nat.le_refl _)
     rw [List.length_map];omega
    ·simp
  have M:∀ κ : Int->Option R,(bF ((decide ((0:Int)<=(x.c:Int)))&&((decide ((x.c:Int)<=(x.d:Int)))&&(decide ((x.d:Int)<=((B w).size:Int))))) (bH ((B w).extract ((x.c:Int)).toNat ((x.d:Int)).toNat) κ))=κ (ez (dF w x):Int):=fun κ => by
   rw [av,ac (by omega),av,ac (by omega),ac (by rw [iK];omega),Int.toNat_natCast,Int.toNat_natCast,df]
   exact Iq (dF w x) (by omega) κ
  rw [au.R,au.B]
  -- behind the lines of a text
  have j7:∀ f,1000<=f->(x.v.ty=qB∨dG x=true)->au.L7 bH aS br aY (au.R z) m f (B w) (deep:Int) is (j:Int) (dG x) (B x.p) (B x.v.ty) (B x.v.sub) (x.v.ps.map bn) x.v.i0 (B x.v.i1) x.v.a0 (B x.v.a1) (dm x.v.c1) (B x.v.c1) (dm x.v.p1) (B x.v.p1) (x.v.pp.map bn) (bw x.v.lg) x.v.w0 (B x.v.w1) (x.a:Int) (x.b:Int) (x.c:Int) (x.d:Int) (x.e:Int) (⟨#[]⟩:BA) (⟨#[]⟩:BA) (⟨#[]⟩:BA) false (⟨#[]⟩:BA) false (⟨#[]⟩:BA) false (⟨#[]⟩:BA) false (⟨#[]⟩:BA) false (⟨#[]⟩:BA) 0 0 0 0 0 ((fV w x).map (fJ 0))=m (B (cV w (n+1) x deep is j).1.p) (B (cV w (n+1) x deep is j).1.v.ty) (B (cV w (n+1) x deep is j).1.v.sub) ((cV w (n+1) x deep is j).1.v.ps.map bn) (cV w (n+1) x deep is j).1.v.i0 (B (cV w (n+1) x deep is j).1.v.i1) (cV w (n+1) x deep is j).1.v.a0 (B (cV w (n+1) x deep is j).1.v.a1) (dm (cV w (n+1) x deep is j).1.v.c1) (B (cV w (n+1) x deep is j).1.v.c1) (dm (cV w (n+1) x deep is j).1.v.p1) (B (cV w (n+1) x deep is j).1.v.p1) ((cV w (n+1) x deep is j).1.v.pp.map bn) (bw (cV w (n+1) x deep is j).1.v.lg) (cV w (n+1) x deep is j).1.v.w0 (B (cV w (n+1) x deep is j).1.v.w1) ((cV w (n+1) x deep is j).1.a:Int) ((cV w (n+1) x deep is j).1.b:Int) ((cV w (n+1) x deep is j).1.c:Int) ((cV w (n+1) x deep is j).1.d:Int) ((cV w (n+1) x deep is j).1.e:Int) (cV w (n+1) x deep is j).2.1 ((cV w (n+1) x deep is j).2.2:Int):=by
   intro f hf N
   obtain ⟨g,rfl⟩:∃ g,f=g+4:=⟨f-4,by omega⟩
   have a6:x.v.ty≠nL:=by
    rcases N with h|h
    ·rw [h];decide
    ·rw [Cf h];decide
   have A:cC w x true=ga x:=by
    unfold cC
    rw [if_pos rfl,if_neg a6,if_pos N.symm]
   have off:m (B (ga x).p) (B (ga x).v.ty) (B (ga x).v.sub) ((ga x).v.ps.map bn) (ga x).v.i0 (B (ga x).v.i1) (ga x).v.a0 (B (ga x).v.a1) (dm (ga x).v.c1) (B (ga x).v.c1) (dm (ga x).v.p1) (B (ga x).v.p1) ((ga x).v.pp.map bn) (bw (ga x).v.lg) (ga x).v.w0 (B (ga x).v.w1) ((ga x).a:Int) ((ga x).b:Int) ((ga x).c:Int) ((ga x).d:Int) ((ga x).e:Int) [] (j:Int)=m (B (cC w x true).p) (B (cC w x true).v.ty) (B (cC w x true).v.sub) ((cC w x true).v.ps.map bn) (cC w x true).v.i0 (B (cC w x true).v.i1) (cC w x true).v.a0 (B (cC w x true).v.a1) (dm (cC w x true).v.c1) (B (cC w x true).v.c1) (dm (cC w x true).v.p1) (B (cC w x true).v.p1) ((cC w x true).v.pp.map bn) (bw (cC w x true).v.lg) (cC w x true).v.w0 (B (cC w x true).v.w1) ((cC w x true).a:Int) ((cC w x true).b:Int) ((cC w x true).c:Int) ((cC w x true).d:Int) ((cC w x true).e:Int) [] (j:Int):=by rw [A]
   rw [au.L7,au.t7,ax,cV]
   by_cases c0:fV w x=[]
   ·have ct:(fV w x).length=0:=by rw [c0];rfl
    rw [fS (by omega),cond_true]
    by_cases c1:deep<5/\j+(fV w x).length<=16
    ·rw [if_pos c1,c0]
     exact off
    ·rw [if_neg c1]
     exact off
   ·have ct:(fV w x).length≠0:=fun h=>c0 (List.eq_nil_of_length_eq_zero h)
    rw [fR (by omega),cond_false]
    by_cases c1:deep<5
    ·rw [ai (by omega),wrap_i64 (by omega) (by omega)]
     by_cases c2:j+(fV w x).length<=16
     ·rw [ai (by omega),if_pos ⟨c1,c2⟩]
      have U:∀ y c,c<=16->(cV w n y (deep+1) (dG x) c).2.2<=16:=fun y c h=>xv w n y _ _ c h
      have a7:=B4 (rec:=fun y c=>cV w n y (deep+1) (dG x) c) (w:=w) (cZ x is) (eM x) (fV w x) (j+(fV w x).length) c0
      have V:cC w x false=if dG x then { x with e:=ez (dF w x) } else x:=rfl
      have a8:((j:Int)+((fV w x).length:Int))=((j+(fV w x).length:Nat):Int):=by omega
      simp only [a7]
      rw [V,a8]
      cases u:dG x with
      | false =>
       rw [cond_false,if_neg (by decide)]
       have bb:x.v.ty=qB:=N.resolve_right (by rw [u];decide)
       rw [u] at U
       exact vM (au.R z) hw (by omega) deep (by omega) u bb is (fun y c=>cV w n y (deep+1) false c) U
        (fun y j m hy bS be=>HJ hw n z y (deep+1) false j m hy (by omega) (by omega) (by omega) (by omega) be)
        m (fV w x) (by omega) (xx hw hx) (fV w x) [] [] (j+(fV w x).length) (g+3) rfl rfl c2 (by omega)
      | true =>
       have ad:fV w x=[(x.c,x.d)]:=(DS u).resolve_left c0
       have bk:eM x=false:=by unfold eM;rw [Cf u];rfl
       rw [ad] at c2 ⊢
       rw [cond_true,if_pos rfl,M,bk]
       rw [u] at U
       have W:=ji (q:=(x.c,x.d)) h1 h2
       have O:=fun (p:BA) (dg:Bool)=>Cu (R:=R) (w:=w) (s:=lx w (x.c,x.d)) (F:=x.c) (by rw [W];show (w.take (x.c+(x.d-x.c))).drop x.c=_;rw [show x.c+(x.d-x.c)=x.d by omega];rfl) (by rw [W];show x.c+(x.d-x.c)<=_;omega) hw p dg
       rw [W,show x.c+((x.c,x.d).2-(x.c,x.d).1)=x.d by show x.c+(x.d-x.c)=x.d;omega] at O
       have w2:IntKind.wrap .i64 ((deep:Int)+1)=((deep+1:Nat):Int):=wrap_i64 (by omega) (by omega)
       have f0:((bf ([(x.c,x.d)].map (fJ 0)) 0).fld 0).i=(x.c:Int):=by show ((0+x.c:Nat):Int)=_;rw [Nat.zero_add]
       have f1:((bf ([(x.c,x.d)].map (fJ 0)) 0).fld 1).i=(x.d:Int):=by show ((0+x.d:Nat):Int)=_;rw [Nat.zero_add]
       have bV:=ue x.p 1
       have ae:∀ p:List UInt8,p.length<=x.p.length+3->au.zk bH aS br aY (au.R z) m (g+3) (B w) (deep:Int) ((j+[(x.c,x.d)].length:Nat):Int) (B p) (B x.p) (B x.v.ty) (B x.v.sub) (x.v.ps.map bn) x.v.i0 (B x.v.i1) x.v.a0 (B x.v.a1) (dm x.v.c1) (B x.v.c1) (dm x.v.p1) (B x.v.p1) (x.v.pp.map bn) (bw x.v.lg) x.v.w0 (B x.v.w1) (x.a:Int) (x.b:Int) (x.c:Int) (x.d:Int) (ez (dF w x):Int) (⟨#[]⟩:BA) (⟨#[]⟩:BA) (⟨#[]⟩:BA) false (⟨#[]⟩:BA) false (⟨#[]⟩:BA) false (⟨#[]⟩:BA) false (⟨#[]⟩:BA) false (⟨#[]⟩:BA) 0 0 0 0 0 ([(x.c,x.d)].map (fJ 0))=m (B x.p) (B x.v.ty) (B x.v.sub) (x.v.ps.map bn) x.v.i0 (B x.v.i1) x.v.a0 (B x.v.a1) (dm x.v.c1) (B x.v.c1) (dm x.v.p1) (B x.v.p1) (x.v.pp.map bn) (bw x.v.lg) x.v.w0 (B x.v.w1) (x.a:Int) (x.b:Int) (x.c:Int) (x.d:Int) (ez (dF w x):Int) [ab (cV w n (ee w (x.c,x.d) p false) (deep+1) true (j+[(x.c,x.d)].length)).1 (cV w n (ee w (x.c,x.d) p false) (deep+1) true (j+[(x.c,x.d)].length)).2.1] ((cV w n (ee w (x.c,x.d) p false) (deep+1) true (j+[(x.c,x.d)].length)).2.2:Int):=by
        intro p b0
        rw [au.zk,au.t18,ac (by simp),f0,f1,w2,O]
        refine (HJ hw n z (ee w (x.c,x.d) p false) (deep+1) true (j+[(x.c,x.d)].length) _ (lc h1 h2 _ _) (by show p.length+_<=_;omega) (by omega) (by omega) (by omega) c2).trans ?_
        rfl
       cases is with
       | true =>
        rw [cond_true]
        have hu:=GR (R:=R) x.p (by omega) 1 (by omega) (by omega)
        refine (hu _).trans ?_
        refine (ae (xS x.p 1) (by omega)).trans ?_
        have X:cZ x true 1=xS x.p 1:=by unfold cZ;rw [if_pos u,if_pos rfl]
        rw [u3,X]
       | false =>
        rw [cond_false]
        refine (ae x.p (by omega)).trans ?_
        have X:cZ x false 1=x.p:=by unfold cZ;rw [if_pos u,if_neg (by decide)]
        rw [u3,X]
     ·rw [al (by omega),if_neg (fun h=>c2 h.2)]
      exact off
    ·rw [al (by omega),if_neg (fun h=>c1 h.1)]
     exact off
  have ap:∀ (f:Nat),1000<=f->(x.v.ty=qB∨dG x=true)->aS (B w) (B x.p) (B x.v.ty) (B x.v.sub) (x.v.ps.map bn) x.v.i0 (B x.v.i1) x.v.a0 (B x.v.a1) (dm x.v.c1) (B x.v.c1) (dm x.v.p1) (B x.v.p1) (x.v.pp.map bn) (bw x.v.lg) x.v.w0 (B x.v.w1) (x.a:Int) (x.b:Int) (x.c:Int) (x.d:Int) (x.e:Int) (au.L7 bH aS br aY (au.R z) m f (B w) (deep:Int) is (j:Int) (dG x) (B x.p) (B x.v.ty) (B x.v.sub) (x.v.ps.map bn) x.v.i0 (B x.v.i1) x.v.a0 (B x.v.a1) (dm x.v.c1) (B x.v.c1) (dm x.v.p1) (B x.v.p1) (x.v.pp.map bn) (bw x.v.lg) x.v.w0 (B x.v.w1) (x.a:Int) (x.b:Int) (x.c:Int) (x.d:Int) (x.e:Int) (⟨#[]⟩:BA) (⟨#[]⟩:BA) (⟨#[]⟩:BA) false (⟨#[]⟩:BA) false (⟨#[]⟩:BA) false (⟨#[]⟩:BA) false (⟨#[]⟩:BA) false (⟨#[]⟩:BA) 0 0 0 0 0 []) (fun r=>au.L7 bH aS br aY (au.R z) m f (B w) (deep:Int) is (j:Int) (dG x) (B x.p) (B x.v.ty) (B x.v.sub) (x.v.ps.map bn) x.v.i0 (B x.v.i1) x.v.a0 (B x.v.a1) (dm x.v.c1) (B x.v.c1) (dm x.v.p1) (B x.v.p1) (x.v.pp.map bn) (bw x.v.lg) x.v.w0 (B x.v.w1) (x.a:Int) (x.b:Int) (x.c:Int) (x.d:Int) (x.e:Int) (⟨#[]⟩:BA) (⟨#[]⟩:BA) (⟨#[]⟩:BA) false (⟨#[]⟩:BA) false (⟨#[]⟩:BA) false (⟨#[]⟩:BA) false (⟨#[]⟩:BA) false (⟨#[]⟩:BA) 0 0 0 0 0 r)=m (B (cV w (n+1) x deep is j).1.p) (B (cV w (n+1) x deep is j).1.v.ty) (B (cV w (n+1) x deep is j).1.v.sub) ((cV w (n+1) x deep is j).1.v.ps.map bn) (cV w (n+1) x deep is j).1.v.i0 (B (cV w (n+1) x deep is j).1.v.i1) (cV w (n+1) x deep is j).1.v.a0 (B (cV w (n+1) x deep is j).1.v.a1) (dm (cV w (n+1) x deep is j).1.v.c1) (B (cV w (n+1) x deep is j).1.v.c1) (dm (cV w (n+1) x deep is j).1.v.p1) (B (cV w (n+1) x deep is j).1.v.p1) ((cV w (n+1) x deep is j).1.v.pp.map bn) (bw (cV w (n+1) x deep is j).1.v.lg) (cV w (n+1) x deep is j).1.v.w0 (B (cV w (n+1) x deep is j).1.v.w1) ((cV w (n+1) x deep is j).1.a:Int) ((cV w (n+1) x deep is j).1.b:Int) ((cV w (n+1) x deep is j).1.c:Int) ((cV w (n+1) x deep is j).1.d:Int) ((cV w (n+1) x deep is j).1.e:Int) (cV w (n+1) x deep is j).2.1 ((cV w (n+1) x deep is j).2.2:Int):=by
   intro f hf N
   refine (Ir h1 h2 hw (by omega) _ _ rfl).trans ?_
   exact j7 f hf N
  have key:∀ f,2000<=f->au.L2 bH aS br aY (au.R z) m f (B w) (deep:Int) is (j:Int) (dG x) (B x.p) (B x.v.ty) (B x.v.sub) (x.v.ps.map bn) x.v.i0 (B x.v.i1) x.v.a0 (B x.v.a1) (dm x.v.c1) (B x.v.c1) (dm x.v.p1) (B x.v.p1) (x.v.pp.map bn) (bw x.v.lg) x.v.w0 (B x.v.w1) (x.a:Int) (x.b:Int) (x.c:Int) (x.d:Int) (x.e:Int) (⟨#[]⟩:BA) (⟨#[]⟩:BA) (⟨#[]⟩:BA) false (⟨#[]⟩:BA) false (⟨#[]⟩:BA) false (⟨#[]⟩:BA) false (⟨#[]⟩:BA) false (⟨#[]⟩:BA) 0 0 0 0 0=m (B (cV w (n+1) x deep is j).1.p) (B (cV w (n+1) x deep is j).1.v.ty) (B (cV w (n+1) x deep is j).1.v.sub) ((cV w (n+1) x deep is j).1.v.ps.map bn) (cV w (n+1) x deep is j).1.v.i0 (B (cV w (n+1) x deep is j).1.v.i1) (cV w (n+1) x deep is j).1.v.a0 (B (cV w (n+1) x deep is j).1.v.a1) (dm (cV w (n+1) x deep is j).1.v.c1) (B (cV w (n+1) x deep is j).1.v.c1) (dm (cV w (n+1) x deep is j).1.v.p1) (B (cV w (n+1) x deep is j).1.v.p1) ((cV w (n+1) x deep is j).1.v.pp.map bn) (bw (cV w (n+1) x deep is j).1.v.lg) (cV w (n+1) x deep is j).1.v.w0 (B (cV w (n+1) x deep is j).1.v.w1) ((cV w (n+1) x deep is j).1.a:Int) ((cV w (n+1) x deep is j).1.b:Int) ((cV w (n+1) x deep is j).1.c:Int) ((cV w (n+1) x deep is j).1.d:Int) ((cV w (n+1) x deep is j).1.e:Int) (cV w (n+1) x deep is j).2.1 ((cV w (n+1) x deep is j).2.2:Int):=by
   intro f hf
   obtain ⟨g,rfl⟩:∃ g,f=g+3:=⟨f-3,by omega⟩
   rw [au.L2,au.t2,show (⟨#[116,101,120,116]⟩:BA)=B nL from rfl,hm]
   have plain:x.v.ty≠qB->dG x=false->(cV w (n+1) x deep is j).1=cC w x true/\(cV w (n+1) x deep is j).2.1=[]/\(cV w (n+1) x deep is j).2.2=j:=by
    intro Y e2
    have c0:fV w x=[]:=by
     unfold fV
     rw [if_neg (by rw [e2];decide),if_neg (fun h=>Y h.1)]
    rw [cV]
    by_cases c1:deep<5/\j+(fV w x).length<=16
    ·rw [if_pos c1,c0]
     exact ⟨rfl,rfl,rfl⟩
    ·rw [if_neg c1]
     exact ⟨rfl,rfl,rfl⟩
   by_cases c1:x.v.ty=nL
   ·have Y:x.v.ty≠qB:=by rw [c1];decide
    have e2:dG x=false:=by unfold dG;rw [c1];rfl
    obtain ⟨p1,p2,p3⟩:=plain Y e2
    have A:cC w x true={ x with e:=ez (dF w x) }:=by unfold cC;rw [if_pos rfl,if_pos c1]
    rw [decide_eq_true c1,cond_true,M,au.L4,au.t4,show (⟨#[109,117,108,116,105,112,97,114,116]⟩:BA)=B qB from rfl,hm,decide_eq_false Y,Bool.not_false,cond_true,e2,Bool.not_false,cond_true,p1,p2,p3,A]
    rfl
   ·rw [decide_eq_false c1,cond_false,au.L4,au.t4,show (⟨#[109,117,108,116,105,112,97,114,116]⟩:BA)=B qB from rfl,hm]
    by_cases c2:x.v.ty=qB
    ·rw [decide_eq_true c2,Bool.not_true,cond_false]
     exact ap (g+1) (by omega) (.inl c2)
    ·rw [decide_eq_false c2,Bool.not_false,cond_true]
     cases u:dG x with
     | true =>
      rw [Bool.not_true,cond_false]
      have:=ap (g+1) (by omega) (.inr u)
      rw [u] at this
      exact this
     | false =>
      obtain ⟨p1,p2,p3⟩:=plain c2 u
      have A:cC w x true=x:=by unfold cC;rw [if_pos rfl,if_neg c1,if_neg (fun h=>h.elim (fun h=>by rw [u] at h;cases h) c2)]
      rw [Bool.not_false,cond_true,p1,p2,p3,A]
      rfl
  have ar:∀ f,2000<=f->au.e bH aS br aY (au.R z) (B w) (B x.p) (B x.v.ty) (B x.v.sub) (x.v.ps.map bn) x.v.i0 (B x.v.i1) x.v.a0 (B x.v.a1) (dm x.v.c1) (B x.v.c1) (dm x.v.p1) (B x.v.p1) (x.v.pp.map bn) (bw x.v.lg) x.v.w0 (B x.v.w1) (x.a:Int) (x.b:Int) (x.c:Int) (x.d:Int) (x.e:Int) (deep:Int) is (j:Int) (au.L2 bH aS br aY (au.R z) m f) (au.L4 bH aS br aY (au.R z) m f) (au.L5 bH aS br aY (au.R z) m f) (au.L7 bH aS br aY (au.R z) m f) (au.sN bH aS br aY (au.R z) m f) (au.zk bH aS br aY (au.R z) m f) (au.AL bH aS br aY (au.R z) m f) (au.Eh bH aS br aY (au.R z) m f) (au.G3 bH aS br aY (au.R z) m f) m=m (B (cV w (n+1) x deep is j).1.p) (B (cV w (n+1) x deep is j).1.v.ty) (B (cV w (n+1) x deep is j).1.v.sub) ((cV w (n+1) x deep is j).1.v.ps.map bn) (cV w (n+1) x deep is j).1.v.i0 (B (cV w (n+1) x deep is j).1.v.i1) (cV w (n+1) x deep is j).1.v.a0 (B (cV w (n+1) x deep is j).1.v.a1) (dm (cV w (n+1) x deep is j).1.v.c1) (B (cV w (n+1) x deep is j).1.v.c1) (dm (cV w (n+1) x deep is j).1.v.p1) (B (cV w (n+1) x deep is j).1.v.p1) ((cV w (n+1) x deep is j).1.v.pp.map bn) (bw (cV w (n+1) x deep is j).1.v.lg) (cV w (n+1) x deep is j).1.v.w0 (B (cV w (n+1) x deep is j).1.v.w1) ((cV w (n+1) x deep is j).1.a:Int) ((cV w (n+1) x deep is j).1.b:Int) ((cV w (n+1) x deep is j).1.c:Int) ((cV w (n+1) x deep is j).1.d:Int) ((cV w (n+1) x deep is j).1.e:Int) (cV w (n+1) x deep is j).2.1 ((cV w (n+1) x deep is j).2.2:Int):=by
   intro f hf
   have:=key f hf
   rw [au.e,show (⟨#[109,101,115,115,97,103,101]⟩:BA)=B gG from rfl,show (⟨#[114,102,99,56,50,50]⟩:BA)=B ml from rfl,hm,hm]
   unfold dG at this
   cases Y:decide (x.v.ty=gG) with
   | true=>rw [Y,Bool.true_and] at this;rw [cond_true];exact this
   | false=>rw [Y,Bool.false_and] at this;rw [cond_false];exact this
  exact ar ag (by unfold ag;omega)
theorem known6_holds (κ : Bool->Option R):cm κ = κ true:=by kernel_rfl
def FW:Nat->LA->Prop
 | 0,k=>k=[]
 | n+1,k=>k.length<=1000/\∀ a∈k,(a.fld 3).l.length<=1000/\(a.fld 12).l.length<=1000/\(a.fld 13).l.length<=1000/\FW n (a.fld 21).l
theorem Ed:∀ {n:Nat} {k:LA},FW n k->k.length<=1000
 | 0,k,h=>by rw [show k=[] from h];simp
 | n+1,k,h=>h.1
def FX (x:LV):Prop:=x.v.ps.length<=12/\x.v.pp.length<=12/\x.v.lg.length<=12
theorem yC:∀ (n:Nat) (a:List (List UInt8)) (r:List UInt8),a.length<=12->(yB n a r).length<=12
 | 0,a,r,h=>by rw [yB];exact h
 | n+1,a,r,h=>by
  rw [yB.eq_def]
  simp only
  split
  ·split
   ·exact h
   ·split
    ·simp;omega
    ·split
     ·exact yC n _ _ (by simp;omega)
     ·simp;omega
  ·exact h
theorem B3 (w:List UInt8) (q:Nat × Nat) (p:List UInt8) (f:Bool):FX (ee w q p f):=by
 refine ⟨(wk _ f).2,?_,yC _ [] _ (by simp)⟩
 show (if _ then ([]:List Pm) else vB _).length<=12
 split
 ·simp
 ·exact (mI _ [] _ trivial (by simp)).2
theorem BE {w:List UInt8} {x:LV} (em:Bool) (h:FX x):FX (cC w x em):=by
 unfold cC
 split
 ·split
  ·exact h
  ·split
   ·exact ⟨by show ([]:List Pm).length<=12;simp,h.2.1,h.2.2⟩
   ·exact h
 ·split
  ·exact h
  ·exact h
def cF (w:List UInt8):LV × LA × Nat:=cV w 6 (ee w (0,w.length) [] false) 0 true 0
theorem Fy (w:List UInt8) (hw:w.length<=200000) (κ : BA->BA->BA->LA->Bool->BA->Bool->BA->Bool->BA->Bool->BA->LA->LA->Bool->BA->Int->Int->Int->Int->Int->LA->Option R):bu (B w) κ = κ (B (cF w).1.p) (B (cF w).1.v.ty) (B (cF w).1.v.sub) ((cF w).1.v.ps.map bn) (cF w).1.v.i0 (B (cF w).1.v.i1) (cF w).1.v.a0 (B (cF w).1.v.a1) (dm (cF w).1.v.c1) (B (cF w).1.v.c1) (dm (cF w).1.v.p1) (B (cF w).1.v.p1) ((cF w).1.v.pp.map bn) (bw (cF w).1.v.lg) (cF w).1.v.w0 (B (cF w).1.v.w1) ((cF w).1.a:Int) ((cF w).1.b:Int) ((cF w).1.c:Int) ((cF w).1.d:Int) ((cF w).1.e:Int) (cF w).2.1:=by
 have key:∀ f,bu.e aD ak (B w) (bu.L4 aD ak κ (f+1)) κ = κ (B (cF w).1.p) (B (cF w).1.v.ty) (B (cF w).1.v.sub) ((cF w).1.v.ps.map bn) (cF w).1.v.i0 (B (cF w).1.v.i1) (cF w).1.v.a0 (B (cF w).1.v.a1) (dm (cF w).1.v.c1) (B (cF w).1.v.c1) (dm (cF w).1.v.p1) (B (cF w).1.v.p1) ((cF w).1.v.pp.map bn) (bw (cF w).1.v.lg) (cF w).1.v.w0 (B (cF w).1.v.w1) ((cF w).1.a:Int) ((cF w).1.b:Int) ((cF w).1.c:Int) ((cF w).1.d:Int) ((cF w).1.e:Int) (cF w).2.1:=by
  intro f
  have j:(lx w (0,w.length)).length=w.length:=ji (q:=(0,w.length)) (Nat.zero_le _) (Nat.le_refl _)
  have A:=Et (R:=R) (w:=w) (s:=lx w (0,w.length)) (F:=0) (by rw [Nat.zero_add,j];rfl) (by omega) hw 0 false
  rw [j,Nat.zero_add] at A
  unfold bu.e
  rw [iK]
  refine (A _).trans ?_
  have M:=fun m u=>HV (R:=R) hw 6 ag (ee w (0,w.length) [] false) 0 false 0 m u (lc (Nat.zero_le _) (Nat.le_refl _) _ _) (by show 0+3*6<=1000;omega) rfl (by omega) (by unfold ag;omega) (by omega)
  unfold oa ak
  refine (M _ _ ?_).trans ?_
  ·intro z c k;rfl
  ·rw [bu.L4,bu.t4];rfl
 exact key (ag-1)
theorem FI (w:List UInt8) (hw:w.length<=200000) (κ : BA->BA->BA->LA->Bool->BA->Bool->BA->Bool->BA->Bool->BA->LA->LA->Bool->BA->Int->Int->Int->Int->Int->LA->Option R):b7 (B w) κ = κ (B (cF w).1.p) (B (cF w).1.v.ty) (B (cF w).1.v.sub) ((cF w).1.v.ps.map bn) (cF w).1.v.i0 (B (cF w).1.v.i1) (cF w).1.v.a0 (B (cF w).1.v.a1) (dm (cF w).1.v.c1) (B (cF w).1.v.c1) (dm (cF w).1.v.p1) (B (cF w).1.v.p1) ((cF w).1.v.pp.map bn) (bw (cF w).1.v.lg) (cF w).1.v.w0 (B (cF w).1.v.w1) ((cF w).1.a:Int) ((cF w).1.b:Int) ((cF w).1.c:Int) ((cF w).1.d:Int) ((cF w).1.e:Int) (cF w).2.1:=by
 have f:(lx w (0,w.length)).length=w.length:=ji (q:=(0,w.length)) (Nat.zero_le _) (Nat.le_refl _)
 have m:=Cu (R:=R) (w:=w) (s:=lx w (0,w.length)) (F:=0) (by rw [Nat.zero_add,f];rfl) (by omega) hw (B []) false
 rw [f,Nat.zero_add] at m
 unfold b7 b7.e
 rw [iK]
 refine (m _).trans ?_
 have u:=fun j=>HJ (R:=R) hw 6 ag (ee w (0,w.length) [] false) 0 true 0 j (lc (Nat.zero_le _) (Nat.le_refl _) _ _) (by show 0+3*6<=1000;omega) rfl (by omega) (by unfold ag;omega) (by omega)
 unfold oa au
 exact u _
theorem la {a b:Int} (h:a≠b):(a == b)=false:=beq_eq_false_iff_ne.2 h
theorem m5 {a b:Int} (h:a=b):(a == b)=true:=beq_iff_eq.2 h
def G6 (N:Nat) (y:LV):Prop:=y.a<=y.b/\y.b=y.c/\y.c<=y.d/\y.d<=N
def Gw (N:Nat):Nat->LV->LA->Prop
 | 0,y,k=>G6 N y/\y.p.length<=100/\k=[]
 | n+1,y,k=>G6 N y/\y.p.length+3*(n+1)<=100/\k.length<=16/\(dG y=true->k≠[]->∃ f k0 r,k=ab f k0::r/\f.a=y.c/\f.d=y.d/\Gw N n f k0)/\∀ v∈k,∃ f k0,v=ab f k0/\Gw N n f k0
theorem Gw.pl {N:Nat}:∀ {n:Nat} {y:LV} {k:LA},Gw N n y k->G6 N y
 | 0,_,_,h=>h.1
 | _+1,_,_,h=>h.1
theorem Gw.HC {N:Nat}:∀ {n:Nat} {y:LV} {k:LA},Gw N n y k->y.p.length<=100
 | 0,_,_,h=>h.2.1
 | _+1,_,_,h=>by have:=h.2.1;omega
theorem Gw.Ht {N:Nat}:∀ {n:Nat} {y:LV} {k:LA},Gw N n y k->k.length<=16
 | 0,_,_,h=>by rw [h.2.2];simp
 | _+1,_,_,h=>h.2.2.1
theorem Gw.zW {N:Nat}:∀ {n:Nat} {y:LV} {k:LA},Gw N n y k->∀ v∈k,∃ m f k0,n=m+1/\v=ab f k0/\Gw N m f k0
 | 0,_,_,h,v,j=>by rw [h.2.2] at j;cases j
 | m+1,_,_,h,v,j=>by obtain ⟨f,k0,u,z⟩:=h.2.2.2.2 v j;exact ⟨m,f,k0,rfl,u,z⟩
theorem Gw.HW {N:Nat}:∀ {n:Nat} {y:LV} {k:LA},Gw N n y k->dG y=true->k≠[]->∃ m f k0 r,n=m+1/\k=ab f k0::r/\f.a=y.c/\f.d=y.d/\Gw N m f k0
 | 0,_,_,h,_,j=>absurd h.2.2 j
 | m+1,_,_,h,hm,j=>by obtain ⟨f,k0,r,u,z,A,M⟩:=h.2.2.2.1 hm j;exact ⟨m,f,k0,r,rfl,u,z,A,M⟩
theorem Eo (w:List UInt8) (x:LV) (em:Bool):(cC w x em).p=x.p:=by
 unfold cC ga
 split
 ·split
  ·rfl
  ·split <;> rfl
 ·split <;> rfl
theorem EB (w:List UInt8) (n:Nat) (x:LV) (deep:Nat) (is:Bool) (f:Nat):(cV w n x deep is f).1.a=x.a/\(cV w n x deep is f).1.d=x.d:=by
 cases n with
 | zero=>exact ⟨rfl,rfl⟩
 | succ n =>
  rw [cV]
  split
  ·exact ⟨(mT w x _).1,(mT w x _).2.2.2⟩
  ·exact ⟨(mT w x _).1,(mT w x _).2.2.2⟩
theorem uZ {P:AV->Prop} {rec:LV->Nat->LV × LA × Nat} {w:List UInt8} {j:Nat->List UInt8} {z:Bool} (f:∀ q i c,q.1<=q.2->q.2<=w.length->P (ab (rec (ee w q (j i) z) c).1 (rec (ee w q (j i) z) c).2.1)):∀ (r:List (Nat × Nat)) (i:Nat) (acc:LA) (m:Nat),(∀ v∈acc,P v)->(∀ q∈r,q.1<=q.2/\q.2<=w.length)->∀ v∈(cE rec w j z i acc m r).1,P v
 | [],_,_,_,h,_=>h
 | q::r,i,acc,m,h,A=>by
  rw [cE]
  refine uZ f r _ _ _ (fun v M => ?_) fun p N=>A p (by simp [N])
  rcases List.mem_append.1 M with u|u
  ·exact h v u
  ·rw [List.mem_singleton] at u;subst u
   exact f q (i+1) m (A q (by simp)).1 (A q (by simp)).2
theorem EA {w:List UInt8} (hw:w.length<=200000):∀ (n:Nat) (x:LV) (deep:Nat) (is:Bool) (f:Nat),Cl w x->x.b=x.c->x.a<=x.c->x.p.length+3*n<=100->Gw w.length n (cV w n x deep is f).1 (cV w n x deep is f).2.1
 | 0,x,deep,is,f,u,A,O,U=>⟨⟨(show x.a<=x.b by rw [A];exact O),A,u.1,u.2.1⟩,(show x.p.length<=100 by omega),rfl⟩
 | n+1,x,deep,is,f,u,A,O,U=>by
  have pl:∀ em,G6 w.length (cC w x em):=fun em=>by
   obtain ⟨p1,V,M,N⟩:=mT w x em
   exact ⟨by rw [p1,V,A];exact O,by rw [V,M,A],by rw [M,N];exact u.1,by rw [N];exact u.2.1⟩
  rw [cV]
  split
  ·rename_i c
   have j:=xx hw u
   have zW:∀ (q:Nat × Nat) (i cc:Nat),q.1<=q.2->q.2<=w.length->Gw w.length n (cV w n (ee w q (cZ x is i) (eM x)) (deep+1) (dG x) cc).1 (cV w n (ee w q (cZ x is i) (eM x)) (deep+1) (dG x) cc).2.1:=fun q i cc W X=>by
    refine EA hw n _ _ _ _ (lc W X _ _) rfl (Nat.le_add_right _ _) ?_
    have:=yP x is i
    show (cZ x is i).length+3*n<=100
    omega
   have hlen:=mb (rec:=fun y c=>cV w n y (deep+1) (dG x) c) (w:=w) (cZ x is) (eM x) (fV w x) 0 [] (f+(fV w x).length)
   refine ⟨pl _,by rw [Eo];exact U,(by simp only [List.length_nil] at hlen;show (cE _ _ _ _ _ _ _ _).1.length<=16;omega),fun hm z => ?_,uZ (P:=fun v=>∃ y0 k0,v=ab y0 k0/\Gw w.length n y0 k0) (fun q i cc W X=>⟨_,_,rfl,zW q i cc W X⟩) _ _ _ _ (fun v Y=>(by cases Y)) j⟩
   generalize m:cE (fun y c=>cV w n y (deep+1) (dG x) c) w (cZ x is) (eM x) 0 [] (f+(fV w x).length) (fV w x)=K at hm z ⊢
   have ad:K.1.isEmpty=false:=by cases h:K.1 with
    | nil=>exact absurd h z
    | cons a l=>rfl
   rw [ad] at hm ⊢
   have ae:dG x=true:=by
    have:dG (cC w x false)=dG x:=by
     show dG (if dG x then { x with e:=ez (dF w x) } else x)=_
     split <;> rfl
    rw [<- this];exact hm
   obtain ⟨p1,V,M,N⟩:=mT w x false
   rw [M,N]
   unfold fV at m j
   rw [if_pos ae] at m j
   split at m
   ·rename_i ap
    rw [if_pos ap] at j
    have hq:=j (x.c,x.d) (by simp)
    rw [cE,cE,List.nil_append] at m
    refine ⟨(cV w n (ee w (x.c,x.d) (cZ x is (0+1)) (eM x)) (deep+1) (dG x) (f+[(x.c,x.d)].length)).1,(cV w n (ee w (x.c,x.d) (cZ x is (0+1)) (eM x)) (deep+1) (dG x) (f+[(x.c,x.d)].length)).2.1,[],by rw [<- m],(EB ..).1,(EB ..).2,zW (x.c,x.d) (0+1) _ hq.1 hq.2⟩
   ·rw [cE] at m;rw [<- m] at z;exact absurd rfl z
  ·exact ⟨pl _,by rw [Eo];exact U,by simp,fun _ z=>absurd rfl z,fun v Y=>(by cases Y)⟩
def HE (at' p:List UInt8):List UInt8:=if p=[] then at' else at'++46::p
def Iw (F:Nat) (at':List UInt8) (y:LV):LV:={ y with p:=HE at' y.p,a:=y.a+F,b:=y.b+F,c:=y.c+F,d:=y.d+F }
def G2 (w v:List UInt8) (F:Nat):Prop:=∃ z,w.drop F=v++z
theorem G2.slice {w v:List UInt8} {F:Nat} (h:G2 w v F) {a b:Nat} (f:b<=v.length):(w.take (b+F)).drop (a+F)=(v.take b).drop a:=by
 obtain ⟨z,j⟩:=h
 have m:(w.take (b+F)).drop F=v.take b:=by
  rw [List.drop_take,j,show b+F-F=b by omega,List.take_append_of_le_length f]
 rw [show a+F=F+a by omega,<- List.drop_drop,m]
theorem G2.body {w v:List UInt8} {F:Nat} (h:G2 w v F) {x:LV} (f:x.d<=v.length) (at':List UInt8):dF w (Iw F at' x)=dF v x:=h.slice f
def c2:List UInt8:=[13,10]
def c4:List UInt8:=[13,10,13,10]
def Gk (c:List UInt8):Bool:=decide (c.drop (c.length-2)=[13,10])
def GL:List (List UInt8)->Prop
 | []=>True
 | [c]=>c≠[]
 | c::d::r=>c≠[]/\Gk c=true/\GL (d::r)
theorem GL.tail {c:List UInt8} {r:List (List UInt8)} (h:GL (c::r)):c≠[]/\(r≠[]->Gk c=true)/\GL r:=by
 cases r with
 | nil=>exact ⟨h,fun e=>absurd rfl e,trivial⟩
 | cons d t=>exact ⟨h.1,fun _=>h.2.1,h.2.2⟩
def C4 (v:AV):Bool:=bif decide ((v.fld 1).s=(⟨#[109,101,115,115,97,103,101]⟩:BA)) then decide ((v.fld 2).s=(⟨#[114,102,99,56,50,50]⟩:BA)) else false
def Ap (v:AV) (ins:Bool) (m:Int):Option (AV × Bool) :=
 if (v.fld 1).s=(⟨#[109,117,108,116,105,112,97,114,116]⟩:BA)/\((v.fld 21).l.length:Int)>0 then (if m<1∨m>((v.fld 21).l.length:Int) then none else some (bf (v.fld 21).l (m-1),true)) else some (v,ins&&(m == 1))
def Aq (v:AV) (ins:Bool) (m:Int):Option (AV × Bool):=if ins=false/\C4 v=true/\((v.fld 21).l.length:Int)>0 then Ap (bf (v.fld 21).l 0) true m else Ap v ins m
def HX:Option (AV × Bool)->Option AV
 | some (u,true)=>some u
 | _=>none
def oo (v:AV) (ins:Bool) (m:Int):Option AV:=if m=0 then none else HX (Aq v ins m)
def GQ (f:BA->BA->BA->Bool->BA->Bool->BA->Bool->BA->Bool->BA->Bool->BA->Int->Int->Int->Int->Int->Bool->Option R) (j:BA->BA->BA->LA->Bool->BA->Bool->BA->Bool->BA->Bool->BA->LA->LA->Bool->BA->Int->Int->Int->Int->Int->LA->Bool->Option R):Option (AV × Bool)->Option R
 | none=>f (⟨#[]⟩:BA) (⟨#[]⟩:BA) (⟨#[]⟩:BA) false (⟨#[]⟩:BA) false (⟨#[]⟩:BA) false (⟨#[]⟩:BA) false (⟨#[]⟩:BA) false (⟨#[]⟩:BA) 0 0 0 0 0 false
 | some (u,ok)=>j (u.fld 0).s (u.fld 1).s (u.fld 2).s (u.fld 3).l (u.fld 4).b (u.fld 5).s (u.fld 6).b (u.fld 7).s (u.fld 8).b (u.fld 9).s (u.fld 10).b (u.fld 11).s (u.fld 12).l (u.fld 13).l (u.fld 14).b (u.fld 15).s (u.fld 16).i (u.fld 17).i (u.fld 18).i (u.fld 19).i (u.fld 20).i (u.fld 21).l ok
def Hk (f:BA->BA->BA->Bool->BA->Bool->BA->Bool->BA->Bool->BA->Bool->BA->Int->Int->Int->Int->Int->Bool->Option R) (j:BA->BA->BA->LA->Bool->BA->Bool->BA->Bool->BA->Bool->BA->LA->LA->Bool->BA->Int->Int->Int->Int->Int->LA->Option R):Option AV->Option R
 | none=>f (⟨#[]⟩:BA) (⟨#[]⟩:BA) (⟨#[]⟩:BA) false (⟨#[]⟩:BA) false (⟨#[]⟩:BA) false (⟨#[]⟩:BA) false (⟨#[]⟩:BA) false (⟨#[]⟩:BA) 0 0 0 0 0 false
 | some u=>j (u.fld 0).s (u.fld 1).s (u.fld 2).s (u.fld 3).l (u.fld 4).b (u.fld 5).s (u.fld 6).b (u.fld 7).s (u.fld 8).b (u.fld 9).s (u.fld 10).b (u.fld 11).s (u.fld 12).l (u.fld 13).l (u.fld 14).b (u.fld 15).s (u.fld 16).i (u.fld 17).i (u.fld 18).i (u.fld 19).i (u.fld 20).i (u.fld 21).l
theorem GA (v:AV) (κ : Bool->BA->BA->BA->LA->Bool->BA->Bool->BA->Bool->BA->Bool->BA->LA->LA->Bool->BA->Int->Int->Int->Int->Int->LA->Option R):aA (v.fld 0).s (v.fld 1).s (v.fld 2).s (v.fld 3).l (v.fld 4).b (v.fld 5).s (v.fld 6).b (v.fld 7).s (v.fld 8).b (v.fld 9).s (v.fld 10).b (v.fld 11).s (v.fld 12).l (v.fld 13).l (v.fld 14).b (v.fld 15).s (v.fld 16).i (v.fld 17).i (v.fld 18).i (v.fld 19).i (v.fld 20).i (v.fld 21).l κ = κ (C4 v) (v.fld 0).s (v.fld 1).s (v.fld 2).s (v.fld 3).l (v.fld 4).b (v.fld 5).s (v.fld 6).b (v.fld 7).s (v.fld 8).b (v.fld 9).s (v.fld 10).b (v.fld 11).s (v.fld 12).l (v.fld 13).l (v.fld 14).b (v.fld 15).s (v.fld 16).i (v.fld 17).i (v.fld 18).i (v.fld 19).i (v.fld 20).i (v.fld 21).l:=by
 unfold aA aA.e C4
 cases decide ((v.fld 1).s=(⟨#[109,101,115,115,97,103,101]⟩:BA)) with
 | true=>rfl
 | false=>rfl
theorem tU (v:AV) (ins:Bool) (m:Int) (hm:0<=m) (u:m<=100000000000) (j:BA->BA->BA->Bool->BA->Bool->BA->Bool->BA->Bool->BA->Bool->BA->Int->Int->Int->Int->Int->Bool->Option R) (f:BA->BA->BA->LA->Bool->BA->Bool->BA->Bool->BA->Bool->BA->LA->LA->Bool->BA->Int->Int->Int->Int->Int->LA->Bool->Option R):bI.t3 j f ins m (v.fld 0).s (v.fld 1).s (v.fld 2).s (v.fld 3).l (v.fld 4).b (v.fld 5).s (v.fld 6).b (v.fld 7).s (v.fld 8).b (v.fld 9).s (v.fld 10).b (v.fld 11).s (v.fld 12).l (v.fld 13).l (v.fld 14).b (v.fld 15).s (v.fld 16).i (v.fld 17).i (v.fld 18).i (v.fld 19).i (v.fld 20).i (v.fld 21).l (⟨#[]⟩:BA) (⟨#[]⟩:BA) (⟨#[]⟩:BA) false (⟨#[]⟩:BA) false (⟨#[]⟩:BA) false (⟨#[]⟩:BA) false (⟨#[]⟩:BA) false (⟨#[]⟩:BA) 0 0 0 0 0=GQ j f (Ap v ins m):=by
 have rest:(bif ins then f (v.fld 0).s (v.fld 1).s (v.fld 2).s (v.fld 3).l (v.fld 4).b (v.fld 5).s (v.fld 6).b (v.fld 7).s (v.fld 8).b (v.fld 9).s (v.fld 10).b (v.fld 11).s (v.fld 12).l (v.fld 13).l (v.fld 14).b (v.fld 15).s (v.fld 16).i (v.fld 17).i (v.fld 18).i (v.fld 19).i (v.fld 20).i (v.fld 21).l (m == 1) else f (v.fld 0).s (v.fld 1).s (v.fld 2).s (v.fld 3).l (v.fld 4).b (v.fld 5).s (v.fld 6).b (v.fld 7).s (v.fld 8).b (v.fld 9).s (v.fld 10).b (v.fld 11).s (v.fld 12).l (v.fld 13).l (v.fld 14).b (v.fld 15).s (v.fld 16).i (v.fld 17).i (v.fld 18).i (v.fld 19).i (v.fld 20).i (v.fld 21).l false)=f (v.fld 0).s (v.fld 1).s (v.fld 2).s (v.fld 3).l (v.fld 4).b (v.fld 5).s (v.fld 6).b (v.fld 7).s (v.fld 8).b (v.fld 9).s (v.fld 10).b (v.fld 11).s (v.fld 12).l (v.fld 13).l (v.fld 14).b (v.fld 15).s (v.fld 16).i (v.fld 17).i (v.fld 18).i (v.fld 19).i (v.fld 20).i (v.fld 21).l (ins&&(m == 1)):=by cases ins <;> rfl
 rw [bI.t3]
 unfold Ap
 by_cases c1:(v.fld 1).s=(⟨#[109,117,108,116,105,112,97,114,116]⟩:BA)
 ·by_cases c2:((v.fld 21).l.length:Int)>0
  ·rw [if_pos ⟨c1,c2⟩,al c1,al c2]
   by_cases c3:m<1
   ·rw [al c3,if_pos (.inl c3)];rfl
   ·by_cases c4:m>((v.fld 21).l.length:Int)
    ·rw [ai c3,al c4,if_pos (.inr c4)];rfl
    ·have hw:IntKind.wrap .i64 (m-1)=m-1:=wrap_i64 (by omega) (by omega)
     rw [ai c3,ai c4,if_neg (fun e=>e.elim c3 c4),hw,av,ac (by omega),ac (by omega)];rfl
  ·rw [if_neg (fun e=>c2 e.2),al c1,ai c2];exact rest
 ·rw [if_neg (fun e=>c1 e.1),ai c1];exact rest
theorem yU:∀ (z:Nat) (v:AV) (ins:Bool) (m:Int),(ins=false->2<=z)->1<=z->0<=m->m<=100000000000->∀ (f:BA->BA->BA->Bool->BA->Bool->BA->Bool->BA->Bool->BA->Bool->BA->Int->Int->Int->Int->Int->Bool->Option R) (j:BA->BA->BA->LA->Bool->BA->Bool->BA->Bool->BA->Bool->BA->LA->LA->Bool->BA->Int->Int->Int->Int->Int->LA->Bool->Option R),bI.R z (v.fld 0).s (v.fld 1).s (v.fld 2).s (v.fld 3).l (v.fld 4).b (v.fld 5).s (v.fld 6).b (v.fld 7).s (v.fld 8).b (v.fld 9).s (v.fld 10).b (v.fld 11).s (v.fld 12).l (v.fld 13).l (v.fld 14).b (v.fld 15).s (v.fld 16).i (v.fld 17).i (v.fld 18).i (v.fld 19).i (v.fld 20).i (v.fld 21).l ins m f j=GQ f j (Aq v ins m)
 | 0,_,_,_,_,h,_,_=>by omega
 | z+1,v,ins,m,U,_,hm,u=>fun f j=>by
  have M:bI.L3 aA (bI.R z) f j ag=bI.t3 f j:=rfl
  rw [bI.R,bI.B,bI.e]
  unfold Aq
  cases ins with
  | true =>
   rw [if_neg (fun e=>by cases e.1)]
   refine (cond_false _ _).trans ?_
   rw [M];exact tU v true m hm u f j
  | false =>
   refine (cond_true _ _).trans ?_
   refine (GA v _).trans ?_
   cases O:C4 v with
   | false =>
    rw [cond_false,M,if_neg (fun e=>by cases e.2.1)];exact tU v false m hm u f j
   | true =>
    rw [cond_true]
    by_cases A:((v.fld 21).l.length:Int)>0
    ·rw [if_pos ⟨rfl,rfl,A⟩,al A,ac A]
     have N:=yU z (bf (v.fld 21).l 0) true m (fun h=>by cases h) (by have:=U rfl;omega) hm u f j
     unfold Aq at N
     rw [if_neg (fun e=>by cases e.1)] at N
     exact N
    ·rw [if_neg (fun e=>A e.2.2),ai A,M];exact tU v false m hm u f j
theorem HR (v:AV) (ins:Bool) (p:BA) {n:Int} (z:0<=n) (A:n<=100000000000) (f:∀ κ : Int->Option R,cb p κ = κ n) (j:BA->BA->BA->Bool->BA->Bool->BA->Bool->BA->Bool->BA->Bool->BA->Int->Int->Int->Int->Int->Bool->Option R) (m:BA->BA->BA->LA->Bool->BA->Bool->BA->Bool->BA->Bool->BA->LA->LA->Bool->BA->Int->Int->Int->Int->Int->LA->Option R):dt.b cb bI j m p (v.fld 0).s (v.fld 1).s (v.fld 2).s (v.fld 3).l (v.fld 4).b (v.fld 5).s (v.fld 6).b (v.fld 7).s (v.fld 8).b (v.fld 9).s (v.fld 10).b (v.fld 11).s (v.fld 12).l (v.fld 13).l (v.fld 14).b (v.fld 15).s (v.fld 16).i (v.fld 17).i (v.fld 18).i (v.fld 19).i (v.fld 20).i (v.fld 21).l ins=Hk j m (oo v ins n):=by
 unfold dt.b oo
 rw [f]
 by_cases c:n=0
 ·rw [m5 c,cond_true,if_pos c];rfl
 ·rw [la c,cond_false,if_neg c]
  refine (yU (R:=R) ag v ins n (fun _=>by unfold ag;omega) (by unfold ag;omega) z A _ _).trans ?_
  rcases Aq v ins n with _|⟨u,ok⟩
  ·rfl
  ·cases ok <;> rfl
theorem zU (p:BA) (κ : Int->Option R):aL p (⟨#[46]⟩:BA) κ = κ (Lib.index (bl p) [46]):=by
 unfold aL aL.e dZ
 rw [ac (.inr rfl)];rfl
theorem EO (v:AV) (q:BA) (f:Nat) (ins:Bool) (p:BA) (j:BA->BA->BA->Bool->BA->Bool->BA->Bool->BA->Bool->BA->Bool->BA->Int->Int->Int->Int->Int->Bool->Option R) (m:BA->BA->BA->LA->Bool->BA->Bool->BA->Bool->BA->Bool->BA->LA->LA->Bool->BA->Int->Int->Int->Int->Int->LA->Bool->Option R):dt.L cb bI aL j m q (f+1) ins p (v.fld 0).s (v.fld 1).s (v.fld 2).s (v.fld 3).l (v.fld 4).b (v.fld 5).s (v.fld 6).b (v.fld 7).s (v.fld 8).b (v.fld 9).s (v.fld 10).b (v.fld 11).s (v.fld 12).l (v.fld 13).l (v.fld 14).b (v.fld 15).s (v.fld 16).i (v.fld 17).i (v.fld 18).i (v.fld 19).i (v.fld 20).i (v.fld 21).l=(bif decide (Lib.index (bl p) [46]<0) then dt.b cb bI j (fun y0 y1 y2 y3 y4 y5 y6 y7 y8 y9 u z A M N O U V W X Y ad=>m q y1 y2 y3 y4 y5 y6 y7 y8 y9 u z A M N O U V W X Y ad true) p (v.fld 0).s (v.fld 1).s (v.fld 2).s (v.fld 3).l (v.fld 4).b (v.fld 5).s (v.fld 6).b (v.fld 7).s (v.fld 8).b (v.fld 9).s (v.fld 10).b (v.fld 11).s (v.fld 12).l (v.fld 13).l (v.fld 14).b (v.fld 15).s (v.fld 16).i (v.fld 17).i (v.fld 18).i (v.fld 19).i (v.fld 20).i (v.fld 21).l ins else bF (decide (Lib.index (bl p) [46]+1<=(p.size:Int))) (dt.b cb bI j (dt.L cb bI aL j m q f false (p.extract ((Lib.index (bl p) [46]).toNat+1) p.size)) (p.extract 0 (Lib.index (bl p) [46]).toNat) (v.fld 0).s (v.fld 1).s (v.fld 2).s (v.fld 3).l (v.fld 4).b (v.fld 5).s (v.fld 6).b (v.fld 7).s (v.fld 8).b (v.fld 9).s (v.fld 10).b (v.fld 11).s (v.fld 12).l (v.fld 13).l (v.fld 14).b (v.fld 15).s (v.fld 16).i (v.fld 17).i (v.fld 18).i (v.fld 19).i (v.fld 20).i (v.fld 21).l ins)):=by
 rw [dt.L];unfold dt.t
 exact zU p _
theorem Fe (v:AV) (q:BA) (m:q≠⟨#[]⟩) (u:q.size<281474976710656) (f:BA->BA->BA->Bool->BA->Bool->BA->Bool->BA->Bool->BA->Bool->BA->Int->Int->Int->Int->Int->Bool->Option R) (j:BA->BA->BA->LA->Bool->BA->Bool->BA->Bool->BA->Bool->BA->LA->LA->Bool->BA->Int->Int->Int->Int->Int->LA->Bool->Option R):dt (v.fld 0).s (v.fld 1).s (v.fld 2).s (v.fld 3).l (v.fld 4).b (v.fld 5).s (v.fld 6).b (v.fld 7).s (v.fld 8).b (v.fld 9).s (v.fld 10).b (v.fld 11).s (v.fld 12).l (v.fld 13).l (v.fld 14).b (v.fld 15).s (v.fld 16).i (v.fld 17).i (v.fld 18).i (v.fld 19).i (v.fld 20).i (v.fld 21).l q f j=dt.L cb bI aL f j q ag true q (v.fld 0).s (v.fld 1).s (v.fld 2).s (v.fld 3).l (v.fld 4).b (v.fld 5).s (v.fld 6).b (v.fld 7).s (v.fld 8).b (v.fld 9).s (v.fld 10).b (v.fld 11).s (v.fld 12).l (v.fld 13).l (v.fld 14).b (v.fld 15).s (v.fld 16).i (v.fld 17).i (v.fld 18).i (v.fld 19).i (v.fld 20).i (v.fld 21).l:=by
 unfold dt
 rw [ai m,ac u]
theorem Gh {a b:Int} (h:a≠b):(a != b)=true:=bne_iff_ne.2 h
theorem Gg {a b:Int} (h:a=b):(a != b)=false:=by rw [h];simp
def kC (c:UInt8):Bool:=decide (48<=c.toNat)&&decide (c.toNat<=57)
theorem BU {c:UInt8} (f:48<=c.toNat) (j:c.toNat<=57):kC c=true:=by unfold kC;rw [decide_eq_true f,decide_eq_true j];rfl
theorem tz {c:UInt8} (h:¬ (48<=c.toNat/\c.toNat<=57)):kC c=false:=by
 unfold kC
 by_cases f:48<=c.toNat
 ·rw [decide_eq_false (fun j=>h ⟨f,j⟩),Bool.and_false]
 ·rw [decide_eq_false f];rfl
theorem GM {c:UInt8} (h:c≠48):c.toNat≠48:=fun e=>h (UInt8.toNat_inj.1 e)
def qu:Nat->Bool->List UInt8->Nat
 | x,_,[]=>x
 | x,st,c::t=>if kC c=false then 0 else if c=48/\st=true then 0 else if x>4294967295 then 0 else qu (x*10+(c.toNat-48)) false t
theorem yd (x:Nat) (f:x<=4294967295) {c:UInt8} (j:48<=c.toNat) (m:c.toNat<=57):IntKind.wrap .i64 ((IntKind.wrap .i64 ((x:Int)*10))+(IntKind.wrap .i64 (IntKind.wrap .u8 ((c.toNat:Int)-48))))=((x*10+(c.toNat-48):Nat):Int):=by
 rw [wrap_i64 (x:=(x:Int)*10) (by omega) (by omega),wrap_u8 (by omega) (by omega),wrap_i64 (x:=(c.toNat:Int)-48) (by omega) (by omega),wrap_i64 (by omega) (by omega)]
 omega
theorem rJ (s:List UInt8) (u:s.length<=281474976710656) (κ : Int->Option R):∀ (f i x:Nat),s.length<i+f->i<=s.length->x<=100000000000 ->
  cb.L3 κ f (B s) (x:Int) ((B s).size:Int) (i:Int)=κ ((qu x (decide (i=0)) (s.drop i):Nat):Int)
 | 0,i,x,h,z,_=>by omega
 | f+1,i,x,h,z,W=>by
  have A:(B s).size=s.length:=cj s
  rw [cb.L3,cb.t3]
  by_cases M:i<s.length
  ·obtain ⟨c,r,j⟩:=lQ M
   have N:=(cP j).1
   have O:=(cP j).2.2
   have U:∀ x:Nat,x<=100000000000->cb.L3 κ f (B s) (x:Int) ((B s).size:Int) ((i+1:Nat):Int)=κ ((qu x false r:Nat):Int):=fun x V=>by
    have:=rJ s u κ f (i+1) x (by omega) (by omega) V
    rw [O,decide_eq_false (by omega:¬ i+1=0)] at this;exact this
   rw [al (by omega),av,ac (by omega),ac (by omega),oN N,j,qu]
   by_cases c1:(c.toNat:Int)<48
   ·rw [al c1,if_pos (tz (by omega))];rfl
   ·rw [ai c1,av,ac (by omega),ac (by omega)]
    by_cases c2:(c.toNat:Int)>57
    ·rw [al c2,if_pos (tz (by omega))];rfl
    ·have m:kC c=true:=BU (by omega) (by omega)
     rw [ai c2,if_neg (by rw [m];decide),wrap_i64 (x:=(i:Int)+1) (by omega) (by omega)]
     have go:(bif decide ((x:Int)>(4294967295:Int)) then κ 0 else bF ((decide ((0:Int)<=(i:Int)))&&(decide ((i:Int)<((B s).size:Int)))) (cb.L3 κ f (B s) (IntKind.wrap .i64 ((IntKind.wrap .i64 ((x:Int)*10))+(IntKind.wrap .i64 (IntKind.wrap .u8 ((c.toNat:Int)-48))))) ((B s).size:Int) ((i:Int)+1)))=κ (((if x>4294967295 then 0 else qu (x*10+(c.toNat-48)) false r):Nat):Int):=by
      by_cases c3:x>4294967295
      ·rw [al (by omega),if_pos c3];rfl
      ·rw [ai (by omega),if_neg c3,av,ac (by omega),ac (by omega),yd x (by omega) (by omega) (by omega)]
       exact U (x*10+(c.toNat-48)) (by omega)
     by_cases c4:i=0
     ·rw [m5 (by omega),cond_true,av,ac (by omega),ac (by omega),jC c 48 48 rfl,decide_eq_true c4]
      by_cases c5:c=48
      ·rw [show (c == 48)=true from beq_iff_eq.2 c5,cond_true,if_pos ⟨c5,rfl⟩];rfl
      ·rw [show (c == 48)=false from beq_eq_false_iff_ne.2 c5,cond_false,if_neg (fun e=>c5 e.1)];exact go
     ·rw [la (by omega),cond_false,decide_eq_false c4,if_neg (fun e=>by cases e.2)];exact go
  ·rw [ai (by omega),List.drop_of_length_le (by omega),qu]
theorem Hx (s:List UInt8) (f:s.length<=281474976710656) (κ : Int->Option R):cb (B s) κ = κ ((qu 0 true s:Nat):Int):=by
 have j:(B s).size=s.length:=cj s
 exact rJ s f κ ag 0 0 (by unfold ag;omega) (by omega) (by omega)
theorem Ci:∀ (s:List UInt8) (x:Nat) (st:Bool),x<=100000000000->qu x st s<=100000000000
 | [],x,st,h=>h
 | c::t,x,st,h=>by
  rw [qu]
  split
  ·omega
  ·rename_i f
   split
   ·omega
   ·split
    ·omega
    ·rename_i j
     refine Ci t _ _ ?_
     have:c.toNat<=57:=by
      have f:kC c=true:=by simpa using f
      unfold kC at f;simp at f;omega
     omega
def nG:Nat->Bool->List UInt8->List Nat->Option (List Nat)
 | n,st,[],acc=>if st=true then none else some (acc++[n])
 | n,st,c::t,acc=>if c≠46 then (if kC c=false then none else if c=48/\st=true then none else nG (min (n*10+(c.toNat-48)) 1000000) false t acc) else if st=true then none else nG 0 true t (acc++[n])
def nI (n:Nat):AV := .int (n:Int)
def nK (f:Bool->Option R) (j:LA->Bool->Option R):Option (List Nat)->Option R
 | none=>f false
 | some l=>j (l.map nI) true
theorem nl (s:List UInt8) (N:s.length<=10000000) (m:Bool->Option R) (u:LA->Bool->Option R):∀ (f i n j:Nat) (acc:List Nat),i<=s.length->s.length+2<=i+f->j<=i->acc.length<=i->n<=1000000 ->
  aI.L5 m u f (B s) (n:Int) (j:Int) (i:Int) (acc.map nI)=nK m u (nG n (decide (i=j)) (s.drop i) acc)
 | 0,i,_,_,_,_,_,_,_,_=>by omega
 | f+1,i,n,j,acc,Y,h2,h3,h4,h5=>by
  have U:(B s).size=s.length:=cj s
  have V:(acc.map nI).length=acc.length:=List.length_map _
  have z:acc.map nI++[AV.int (n:Int)]=(acc++[n]).map nI:=by rw [List.map_append];rfl
  have hw:IntKind.wrap .i64 ((i:Int)+1)=((i+1:Nat):Int):=wrap_i64 (by omega) (by omega)
  rw [aI.L5,aI.t5,al (by omega),hw]
  by_cases W:i<s.length
  ·obtain ⟨c,r,A⟩:=lQ W
   have X:=(cP A).1
   have O:=(cP A).2.2
   rw [al (by omega),av,ac (by omega),ac (by omega),oN X,A,nG,show ((c.toNat:Int) != 46)=(c != 46) from by unfold bne;rw [jC c 46 46 rfl]]
   by_cases c0:c=46
   ·rw [show (c != 46)=false by rw [c0];rfl,cond_false,if_neg (fun e=>e c0)]
    by_cases c1:i=j
    ·rw [m5 (by omega),cond_true,decide_eq_true c1,if_pos rfl];rfl
    ·rw [la (by omega),cond_false,decide_eq_false c1,if_neg (by decide),ac (by omega),z]
     have:=nl s N m u f (i+1) 0 (i+1) (acc++[n]) (by omega) (by omega) (by omega) (by simp;omega) (by omega)
     rw [O,decide_eq_true rfl] at this
     exact this
   ·rw [show (c != 46)=true from bne_iff_ne.2 c0,cond_true,if_pos c0,av,ac (by omega),ac (by omega)]
    by_cases c1:(c.toNat:Int)<48
    ·rw [al c1,if_pos (tz (by omega))];rfl
    ·rw [ai c1]
     by_cases c2:(c.toNat:Int)>57
     ·rw [al c2,if_pos (tz (by omega))];rfl
     ·have M:kC c=true:=BU (by omega) (by omega)
      have hm:min2 ((n*10+(c.toNat-48):Nat):Int) 1000000=((min (n*10+(c.toNat-48)) 1000000:Nat):Int):=by rw [tI];omega
      rw [ai c2,if_neg (by rw [M];decide),yd n (by omega) (by omega) (by omega),hm]
      have next:=nl s N m u f (i+1) (min (n*10+(c.toNat-48)) 1000000) j acc (by omega) (by omega) (by omega) (by omega) (by omega)
      rw [O,decide_eq_false (by omega:¬ i+1=j)] at next
      rw [jC c 48 48 rfl]
      by_cases c5:c=48
      ·rw [show (c == 48)=true from beq_iff_eq.2 c5,cond_true]
       by_cases c6:i=j
       ·rw [m5 (by omega),cond_true,decide_eq_true c6,if_pos ⟨c5,rfl⟩];rfl
       ·rw [la (by omega),cond_false,decide_eq_false c6,if_neg (fun e=>by cases e.2)];exact next
      ·rw [show (c == 48)=false from beq_eq_false_iff_ne.2 c5,cond_false,if_neg (fun e=>c5 e.1)];exact next
  ·rw [ai (by omega),List.drop_of_length_le (by omega),nG]
   by_cases c1:i=j
   ·rw [m5 (by omega),cond_true,decide_eq_true c1,if_pos rfl];rfl
   ·rw [la (by omega),cond_false,decide_eq_false c1,if_neg (by decide),ac (by omega),z]
    obtain ⟨f,rfl⟩:∃ g,f=g+1:=⟨f-1,by omega⟩
    rw [aI.L5,aI.t5,ai (by omega)];rfl
theorem HI (s:List UInt8) (m:s.length<=10000000) (f:Bool->Option R) (j:LA->Bool->Option R):aI (B s) f j=nK f j (nG 0 true s []) :=
 nl s m f j ag 0 0 0 [] (by omega) (by unfold ag;omega) (by omega) (by simp) (by omega)
def jl:List UInt8->List UInt8 × Option (List UInt8)
 | []=>([],none)
 | c::t=>if c=46 then ([],some t) else (c::(jl t).1,(jl t).2)
theorem yp:∀ p:List UInt8,Lib.index p [46]=match (jl p).2 with
  | none => -1
  | some _=>((jl p).1.length:Int)
 | []=>rfl
 | c::t=>by
  rw [fi,jl]
  by_cases h:c=46
  ·subst h
   rw [if_pos (by simp [List.isPrefixOf]),if_pos rfl];rfl
  ·have f:([46]:List UInt8).isPrefixOf (c::t)=false:=by simp [List.isPrefixOf,Ne.symm h]
   rw [f,if_neg h,yp t,if_neg (by decide)]
   cases (jl t).2 with
   | none=>rfl
   | some r =>
    show (if (((jl t).1.length:Int) == -1)=true then (-1:Int) else ((jl t).1.length:Int)+1)=(((c::(jl t).1).length:Nat):Int)
    rw [if_neg (by rw [la (by omega)];decide)];simp
theorem qe:∀ {p r:List UInt8},(jl p).2=some r->p=(jl p).1++46::r
 | [],r,h=>by cases h
 | c::t,r,h=>by
  rw [jl] at h ⊢
  by_cases e:c=46
  ·rw [if_pos e] at h ⊢;cases h;rw [e];rfl
  ·rw [if_neg e] at h ⊢
   have:=qe (p:=t) h
   show c::t=c::((jl t).1++46::r)
   rw [<- this]
theorem vX:∀ {p:List UInt8},(jl p).2=none->(jl p).1=p
 | [],_=>rfl
 | c::t,h=>by
  rw [jl] at h ⊢
  by_cases e:c=46
  ·rw [if_pos e] at h;cases h
  ·rw [if_neg e] at h ⊢
   show c::(jl t).1=c::t
   rw [vX h]
def cN:Nat->Bool->List UInt8->Option Nat
 | n,st,[]=>if st=true then none else some n
 | n,st,c::t=>if kC c=false then none else if c=48/\st=true then none else cN (min (n*10+(c.toNat-48)) 1000000) false t
theorem Cg:∀ (p:List UInt8) (n:Nat) (st:Bool) (acc:List Nat),nG n st p acc=match (jl p).2 with
  | none=>(cN n st (jl p).1).map fun m=>acc++[m]
  | some r=>(cN n st (jl p).1).bind fun m=>nG 0 true r (acc++[m])
 | [],n,st,acc=>by rw [nG];show _=(cN n st []).map _;rw [cN];split <;> rfl
 | c::t,n,st,acc=>by
  rw [nG,jl]
  by_cases h:c=46
  ·rw [if_neg (fun e=>e h),if_pos h]
   show _=(cN n st []).bind _
   rw [cN];split <;> rfl
  ·rw [if_pos h,if_neg h]
   have f:=fun n st=>Cg t n st acc
   cases j:(jl t).2 with
   | none =>
    simp only [j] at f
    show _=(cN n st (c::(jl t).1)).map _
    rw [cN]
    split
    ·rfl
    ·split
     ·rfl
     ·exact f _ _
   | some r =>
    simp only [j] at f
    show _=(cN n st (c::(jl t).1)).bind _
    rw [cN]
    split
    ·rfl
    ·split
     ·rfl
     ·exact f _ _
theorem Bc:∀ (a:List UInt8) (m:Nat),cN 1000000 false a=some m->m=1000000
 | [],m,h=>by rw [cN,if_neg (by decide)] at h;cases h;rfl
 | c::t,m,h=>by
  rw [cN] at h
  split at h
  ·cases h
  ·split at h
   ·cases h
   ·rw [show min (1000000*10+(c.toNat-48)) 1000000=1000000 by omega] at h
    exact Bc t m h
theorem yL:∀ (a:List UInt8) (x n:Nat) (st:Bool),n=min x 1000000->(st=true->x=0)->(st=false->1<=x) ->
  (cN n st a=none/\qu x st a=0)∨(cN n st a=some 1000000/\(qu x st a=0∨1000000<=qu x st a))∨(cN n st a=some (qu x st a)/\1<=qu x st a/\qu x st a<1000000)
 | [],x,n,st,u,A,z=>by
  rw [cN,qu]
  cases st with
  | true=>exact .inl ⟨rfl,A rfl⟩
  | false =>
   have:=z rfl
   rw [if_neg (by decide)]
   by_cases c:1000000<=x
   ·exact .inr (.inl ⟨by rw [u];congr 1;omega,.inr c⟩)
   ·exact .inr (.inr ⟨by rw [u];congr 1;omega,by omega,by omega⟩)
 | c::t,x,n,st,u,A,z=>by
  rw [cN,qu]
  by_cases f:kC c=false
  ·rw [if_pos f,if_pos f];exact .inl ⟨rfl,rfl⟩
  ·rw [if_neg f,if_neg f]
   by_cases j:c=48/\st=true
   ·rw [if_pos j,if_pos j];exact .inl ⟨rfl,rfl⟩
   ·rw [if_neg j,if_neg j]
    have O:48<=c.toNat/\c.toNat<=57:=by
     have:kC c=true:=by simpa using f
     unfold kC at this;simpa using this
    by_cases M:x>4294967295
    ·rw [if_pos M,show min (n*10+(c.toNat-48)) 1000000=1000000 by omega]
     cases N:cN 1000000 false t with
     | none=>exact .inl ⟨rfl,rfl⟩
     | some m=>rw [Bc t m N];exact .inr (.inl ⟨rfl,.inl rfl⟩)
    ·rw [if_neg M]
     refine yL t _ _ false ?_ (fun h=>by cases h) (fun _ => ?_)
     ·omega
     ·cases st with
      | false=>have:=z rfl;omega
      | true =>
       have:c.toNat≠48:=GM fun h=>j ⟨h,rfl⟩
       omega
def xO (v:AV) (is:Bool):AV × Bool:=if (v.fld 1).s=(⟨#[109,101,115,115,97,103,101]⟩:BA)/\((v.fld 21).l.length:Int)>0/\is=false then (bf (v.fld 21).l 0,true) else (v,is)
def qh (w:AV) (is:Bool) (n:Nat):Option AV:=if (w.fld 1).s=(⟨#[109,117,108,116,105,112,97,114,116]⟩:BA)/\((w.fld 21).l.length:Int)>0 then (if (n:Int)>((w.fld 21).l.length:Int) then none else some (bf (w.fld 21).l ((n:Int)-1))) else if is=true/\n=1 then some w else none
def mF (v:AV) (is:Bool) (n:Nat):Option AV:=qh (xO v is).1 (xO v is).2 n
def qs:AV->Bool->List Nat->Option AV
 | v,_,[]=>some v
 | v,is,n::r=>(mF v is n).bind fun u=>qs u false r
def sS (f:BA->BA->BA->LA->Bool->BA->Bool->BA->Bool->BA->Bool->BA->LA->LA->Bool->BA->Int->Int->Int->Int->Int->LA->Bool->Option R) (j:BA->BA->BA->Bool->BA->Bool->BA->Bool->BA->Bool->BA->Bool->BA->Int->Int->Int->Int->Int->Bool->Option R) (pl:BA):Option AV->Option R
 | none=>j (⟨#[]⟩:BA) (⟨#[]⟩:BA) (⟨#[]⟩:BA) false (⟨#[]⟩:BA) false (⟨#[]⟩:BA) false (⟨#[]⟩:BA) false (⟨#[]⟩:BA) false (⟨#[]⟩:BA) 0 0 0 0 0 false
 | some u=>f pl (u.fld 1).s (u.fld 2).s (u.fld 3).l (u.fld 4).b (u.fld 5).s (u.fld 6).b (u.fld 7).s (u.fld 8).b (u.fld 9).s (u.fld 10).b (u.fld 11).s (u.fld 12).l (u.fld 13).l (u.fld 14).b (u.fld 15).s (u.fld 16).i (u.fld 17).i (u.fld 18).i (u.fld 19).i (u.fld 20).i (u.fld 21).l true
theorem vG (j:BA->BA->BA->LA->Bool->BA->Bool->BA->Bool->BA->Bool->BA->LA->LA->Bool->BA->Int->Int->Int->Int->Int->LA->Bool->Option R) (m:BA->BA->BA->Bool->BA->Bool->BA->Bool->BA->Bool->BA->Bool->BA->Int->Int->Int->Int->Int->Bool->Option R) (pl:BA) (z:List Nat) (hn:z.length<=20000000) (h1:∀ n∈z,1<=n/\n<=1000000) (j0:BA) (j1:BA) (j2:BA) (j3:Bool) (j4:BA) (j5:Bool) (j6:BA) (j7:Bool) (j8:BA) (j9:Bool) (A:BA) (M:Bool) (N:BA) (O:Int) (U:Int) (V:Int) (W:Int) (X:Int) :
  ∀ (r d:List Nat) (f:Nat) (v:AV) (is:Bool),d++r=z->5*r.length<f->bR.L8 aI j m f pl is (d.length:Int) (v.fld 0).s (v.fld 1).s (v.fld 2).s (v.fld 3).l (v.fld 4).b (v.fld 5).s (v.fld 6).b (v.fld 7).s (v.fld 8).b (v.fld 9).s (v.fld 10).b (v.fld 11).s (v.fld 12).l (v.fld 13).l (v.fld 14).b (v.fld 15).s (v.fld 16).i (v.fld 17).i (v.fld 18).i (v.fld 19).i (v.fld 20).i (v.fld 21).l j0 j1 j2 j3 j4 j5 j6 j7 j8 j9 A M N O U V W X (z.map nI)=sS j m pl (qs v is r)
 | _,_,0,_,_,_,h=>by omega
 | [],d,f+1,v,is,hd,_=>by
  rw [List.append_nil] at hd
  have e:bR.L8 (R:=R) aI j m (f+1)=bR.t8 (bR.sO aI j m f) j:=rfl
  rw [e,bR.t8,List.length_map,<- hd,ai (by omega)]
  rfl
 | n::r,d,f0,v,is,hd,hf=>by
  obtain ⟨f,rfl⟩:∃ g,f0=g+5:=⟨f0-5,by simp only [List.length_cons] at hf;omega⟩
  have hl:d.length+r.length+1=z.length:=by rw [<- hd];simp;omega
  have hg:bf (z.map nI) (d.length:Int)=nI n:=eh (by rw [List.getElem?_map,<- hd];simp)
  obtain ⟨n1,n2⟩:=h1 n (by rw [<- hd];simp)
  have ih:∀ (g:Nat) (u:AV),5*r.length<g->bR.L8 aI j m g pl false ((d.length+1:Nat):Int) (u.fld 0).s (u.fld 1).s (u.fld 2).s (u.fld 3).l (u.fld 4).b (u.fld 5).s (u.fld 6).b (u.fld 7).s (u.fld 8).b (u.fld 9).s (u.fld 10).b (u.fld 11).s (u.fld 12).l (u.fld 13).l (u.fld 14).b (u.fld 15).s (u.fld 16).i (u.fld 17).i (u.fld 18).i (u.fld 19).i (u.fld 20).i (u.fld 21).l j0 j1 j2 j3 j4 j5 j6 j7 j8 j9 A M N O U V W X (z.map nI)=sS j m pl (qs u false r):=fun g u hg=>by
   have:=vG j m pl z hn h1 j0 j1 j2 j3 j4 j5 j6 j7 j8 j9 A M N O U V W X r (d++[n]) g u false (by rw [List.append_assoc];exact hd) hg
   rw [show (d++[n]).length=d.length+1 by simp] at this
   exact this
  have hw:IntKind.wrap .i64 ((d.length:Int)+1)=((d.length+1:Nat):Int):=wrap_i64 (by omega) (by omega)
  have next:∀ (g:Nat) (u:AV),5*r.length<g->bR.AL aI j m (g+2) pl (d.length:Int) (u.fld 0).s (u.fld 1).s (u.fld 2).s (u.fld 3).l (u.fld 4).b (u.fld 5).s (u.fld 6).b (u.fld 7).s (u.fld 8).b (u.fld 9).s (u.fld 10).b (u.fld 11).s (u.fld 12).l (u.fld 13).l (u.fld 14).b (u.fld 15).s (u.fld 16).i (u.fld 17).i (u.fld 18).i (u.fld 19).i (u.fld 20).i (u.fld 21).l j0 j1 j2 j3 j4 j5 j6 j7 j8 j9 A M N O U V W X (z.map nI)=sS j m pl (qs u false r):=fun g u hg=>by
   have e1:bR.AL (R:=R) aI j m (g+2)=bR.t20 (bR.L9 aI j m (g+1)):=rfl
   have e2:bR.L9 (R:=R) aI j m (g+1)=bR.t9 (bR.L8 aI j m g):=rfl
   rw [e1,bR.t20,e2,bR.t9,hw]
   exact ih g u hg
  have ad:∀ (w:AV) (Y:Bool),bR.sO aI j m (f+4) pl Y (d.length:Int) (n:Int) (w.fld 0).s (w.fld 1).s (w.fld 2).s (w.fld 3).l (w.fld 4).b (w.fld 5).s (w.fld 6).b (w.fld 7).s (w.fld 8).b (w.fld 9).s (w.fld 10).b (w.fld 11).s (w.fld 12).l (w.fld 13).l (w.fld 14).b (w.fld 15).s (w.fld 16).i (w.fld 17).i (w.fld 18).i (w.fld 19).i (w.fld 20).i (w.fld 21).l j0 j1 j2 j3 j4 j5 j6 j7 j8 j9 A M N O U V W X (z.map nI)=sS j m pl ((qh w Y n).bind fun u=>qs u false r):=fun w Y=>by
   have e1:bR.sO (R:=R) aI j m (f+4)=bR.t14 (bR.zk aI j m (f+3)) (bR.AL aI j m (f+3)) m:=rfl
   have e2:bR.zk (R:=R) aI j m (f+3)=bR.t18 (bR.AL aI j m (f+2)) m:=rfl
   have side:bR.zk aI j m (f+3) pl Y (d.length:Int) (n:Int) (w.fld 0).s (w.fld 1).s (w.fld 2).s (w.fld 3).l (w.fld 4).b (w.fld 5).s (w.fld 6).b (w.fld 7).s (w.fld 8).b (w.fld 9).s (w.fld 10).b (w.fld 11).s (w.fld 12).l (w.fld 13).l (w.fld 14).b (w.fld 15).s (w.fld 16).i (w.fld 17).i (w.fld 18).i (w.fld 19).i (w.fld 20).i (w.fld 21).l j0 j1 j2 j3 j4 j5 j6 j7 j8 j9 A M N O U V W X (z.map nI)=sS j m pl ((if Y=true/\n=1 then some w else none:Option AV).bind fun u=>qs u false r):=by
    rw [e2,bR.t18]
    cases Y with
    | false=>rw [Bool.not_false,cond_true,if_neg (fun e=>by cases e.1)];rfl
    | true =>
     rw [Bool.not_true,cond_false]
     by_cases c:n=1
     ·rw [Gg (by omega),cond_false,if_pos ⟨rfl,c⟩]
      exact next f w (by simp only [List.length_cons] at hf;omega)
     ·rw [Gh (by omega),cond_true,if_neg (fun e=>c e.2)];rfl
   rw [e1,bR.t14]
   unfold qh
   by_cases c1:(w.fld 1).s=(⟨#[109,117,108,116,105,112,97,114,116]⟩:BA)
   ·rw [al c1]
    by_cases c2:((w.fld 21).l.length:Int)>0
    ·rw [al c2,if_pos ⟨c1,c2⟩]
     by_cases c3:(n:Int)>((w.fld 21).l.length:Int)
     ·rw [al c3,if_pos c3];rfl
     ·rw [ai c3,if_neg c3,wrap_i64 (x:=(n:Int)-1) (by omega) (by omega),av,ac (by omega),ac (by omega)]
      exact next (f+1) (bf (w.fld 21).l ((n:Int)-1)) (by simp only [List.length_cons] at hf;omega)
    ·rw [ai c2,if_neg (fun e=>c2 e.2)];exact side
   ·rw [ai c1,if_neg (fun e=>c1 e.1)];exact side
  have e:bR.L8 (R:=R) aI j m (f+5)=bR.t8 (bR.sO aI j m (f+4)) j:=rfl
  rw [e,bR.t8,List.length_map,al (by omega),av,ac (by omega),ac (by omega),hg,show (nI n).i=(n:Int) from rfl,qs]
  unfold mF xO
  by_cases c1:(v.fld 1).s=(⟨#[109,101,115,115,97,103,101]⟩:BA)
  ·rw [al c1]
   by_cases c2:((v.fld 21).l.length:Int)>0
   ·rw [al c2]
    cases is with
    | false =>
     rw [Bool.not_false,cond_true,ac c2,if_pos ⟨c1,c2,rfl⟩]
     exact ad (bf (v.fld 21).l 0) true
    | true=>rw [Bool.not_true,cond_false,if_neg (fun e=>by cases e.2.2)];exact ad v true
   ·rw [ai c2,if_neg (fun e=>c2 e.2.1)];exact ad v is
  ·rw [ai c1,if_neg (fun e=>c1 e.1)];exact ad v is
theorem tL:∀ (p:List UInt8) (n:Nat) (st:Bool) (acc l:List Nat),n<=1000000->(st=false->1<=n)->(∀ m∈acc,1<=m/\m<=1000000)->nG n st p acc=some l->∀ m∈l,1<=m/\m<=1000000
 | [],n,st,acc,l,u,f,j,h=>by
  rw [nG] at h
  split at h
  ·cases h
  ·rename_i c;cases h
   intro m hm
   rcases List.mem_append.1 hm with hm|hm
   ·exact j m hm
   ·rw [List.mem_singleton] at hm;subst hm;exact ⟨f (by simpa using c),u⟩
 | c::t,n,st,acc,l,u,f,j,h=>by
  rw [nG] at h
  split at h
  ·split at h
   ·cases h
   ·rename_i z
    split at h
    ·cases h
    ·rename_i c1
     have A:48<=c.toNat/\c.toNat<=57:=by
      have:kC c=true:=by simpa using z
      unfold kC at this;simpa using this
     refine tL t _ _ acc l (by omega) (fun _ => ?_) j h
     cases st with
     | false=>have:=f rfl;omega
     | true =>
      have:c.toNat≠48:=GM fun h=>c1 ⟨h,rfl⟩
      omega
  ·split at h
   ·cases h
   ·rename_i c1
    refine tL t 0 true (acc++[n]) l (by omega) (fun h=>by cases h) (fun m hm => ?_) h
    rcases List.mem_append.1 hm with hm|hm
    ·exact j m hm
    ·rw [List.mem_singleton] at hm;subst hm;exact ⟨f (by simpa using c1),u⟩
theorem xq:∀ (p:List UInt8) (n:Nat) (st:Bool) (acc l:List Nat),nG n st p acc=some l->l.length<=acc.length+p.length+1
 | [],n,st,acc,l,h=>by
  rw [nG] at h
  split at h
  ·cases h
  ·cases h;simp
 | c::t,n,st,acc,l,h=>by
  rw [nG] at h
  split at h
  ·split at h
   ·cases h
   ·split at h
    ·cases h
    ·have:=xq t _ _ _ _ h
     simp only [List.length_cons];omega
  ·split at h
   ·cases h
   ·have:=xq t _ _ _ _ h
    simp only [List.length_append,List.length_cons,List.length_nil] at this ⊢;omega
theorem Il (v:AV) (p:List UInt8) (M:p.length<=10000000) (N:p≠[]) (u:BA->BA->BA->LA->Bool->BA->Bool->BA->Bool->BA->Bool->BA->LA->LA->Bool->BA->Int->Int->Int->Int->Int->LA->Bool->Option R) (j:BA->BA->BA->Bool->BA->Bool->BA->Bool->BA->Bool->BA->Bool->BA->Int->Int->Int->Int->Int->Bool->Option R):bR (v.fld 0).s (v.fld 1).s (v.fld 2).s (v.fld 3).l (v.fld 4).b (v.fld 5).s (v.fld 6).b (v.fld 7).s (v.fld 8).b (v.fld 9).s (v.fld 10).b (v.fld 11).s (v.fld 12).l (v.fld 13).l (v.fld 14).b (v.fld 15).s (v.fld 16).i (v.fld 17).i (v.fld 18).i (v.fld 19).i (v.fld 20).i (v.fld 21).l (B p) u j=sS u j (B p) ((nG 0 true p []).bind (qs v true)):=by
 have z:¬ B p=(⟨#[]⟩:BA):=fun e=>N (by have:=congrArg bl e;rw [lC] at this;exact this)
 obtain ⟨f,A⟩:∃ g,ag=g+1:=⟨ag-1,by unfold ag;omega⟩
 have O:100000000<f:=by unfold ag at A;omega
 unfold bR bR.e
 rw [ai z,HI p M,A]
 have e:bR.L4 (R:=R) aI u j (f+1)=bR.t4 (bR.L8 aI u j f) j:=rfl
 cases h:nG 0 true p [] with
 | none =>
  show bR.L4 aI u j (f+1) (B p) false _ _ _ _ _ _ _ _ _ _ _ _ _ _ _ _ _ _ _ _ _ _ _ _ _ _ _ _ _ _ _ _ _ _ _ _ _ _ _ _ _=_
  rw [e,bR.t4,Bool.not_false,cond_true];rfl
 | some l =>
  have U:=xq p 0 true [] l h
  have hm:=tL p 0 true [] l (by omega) (fun h=>by cases h) (fun m hm=>by cases hm) h
  show bR.L4 aI u j (f+1) (B p) true _ _ _ _ _ _ _ _ _ _ _ _ _ _ _ _ _ _ _ _ _ _ _ _ _ _ _ _ _ _ _ _ _ _ _ _ _ _ _ _ _=_
  rw [e,bR.t4,Bool.not_true,cond_false]
  simp only [List.length_nil] at U
  exact vG u j (B p) l (by omega) hm (⟨#[]⟩:BA) (⟨#[]⟩:BA) (⟨#[]⟩:BA) false (⟨#[]⟩:BA) false (⟨#[]⟩:BA) false (⟨#[]⟩:BA) false (⟨#[]⟩:BA) false (⟨#[]⟩:BA) 0 0 0 0 0 l [] f v true rfl (by omega)
def wN:Nat->AV->Bool->List UInt8->Option AV
 | 0,_,_,_=>none
 | f+1,v,ins,p=>match (jl p).2 with
  | none=>oo v ins ((qu 0 true (jl p).1:Nat):Int)
  | some r=>(oo v ins ((qu 0 true (jl p).1:Nat):Int)).bind fun u=>wN f u false r
theorem Gz (m:BA->BA->BA->Bool->BA->Bool->BA->Bool->BA->Bool->BA->Bool->BA->Int->Int->Int->Int->Int->Bool->Option R) (z:BA->BA->BA->LA->Bool->BA->Bool->BA->Bool->BA->Bool->BA->LA->LA->Bool->BA->Int->Int->Int->Int->Int->LA->Bool->Option R) (q:BA):∀ (f:Nat) (v:AV) (ins:Bool) (p:List UInt8),p.length<f->p.length<=10000000 ->
  dt.L cb bI aL m z q f ins (B p) (v.fld 0).s (v.fld 1).s (v.fld 2).s (v.fld 3).l (v.fld 4).b (v.fld 5).s (v.fld 6).b (v.fld 7).s (v.fld 8).b (v.fld 9).s (v.fld 10).b (v.fld 11).s (v.fld 12).l (v.fld 13).l (v.fld 14).b (v.fld 15).s (v.fld 16).i (v.fld 17).i (v.fld 18).i (v.fld 19).i (v.fld 20).i (v.fld 21).l=sS z m q (wN f v ins p)
 | 0,_,_,_,h,_=>by omega
 | f+1,v,ins,p,h,N=>by
  have W:=cj p
  have j:=fun (a:List UInt8) (X:a.length<=10000000)=>Hx (R:=R) a (by omega)
  have hle:=fun (a:List UInt8)=>Ci a 0 true (by omega)
  rw [EO,lC,yp,wN]
  cases M:(jl p).2 with
  | none =>
   have hle:=hle p
   simp only
   rw [al (by decide),HR v ins (B p) (by omega) (by omega) (j p N),vX M]
   cases oo v ins ((qu 0 true p:Nat):Int) <;> rfl
  | some r =>
   have e:=qe M
   have O:=congrArg List.length e
   rw [List.length_append,List.length_cons] at O
   have hle:=hle (jl p).1
   simp only
   have U:(B p).extract 0 (((jl p).1.length:Int)).toNat=B (jl p).1:=by
    have A:=@List.take_left UInt8 (jl p).1 (46::r)
    rw [<- e] at A
    rw [df,Int.toNat_natCast]
    exact congrArg B A
   have V:(B p).extract ((((jl p).1.length:Int)).toNat+1) (B p).size=B r:=by
    have A:=@List.drop_left UInt8 (jl p).1 (46::r)
    rw [<- e] at A
    rw [df,cj,List.take_length,Int.toNat_natCast,<- List.drop_drop,A]
    rfl
   rw [ai (by omega),ac (by omega),U,V,HR v ins (B (jl p).1) (by omega) (by omega) (j _ (by omega))]
   cases oo v ins ((qu 0 true (jl p).1:Nat):Int) with
   | none=>rfl
   | some u=>exact Gz m z q f u false r (by omega) (by omega)
theorem Gy (v:AV) (p:List UInt8) (u:p.length<=10000000) (z:p≠[]) (f:BA->BA->BA->Bool->BA->Bool->BA->Bool->BA->Bool->BA->Bool->BA->Int->Int->Int->Int->Int->Bool->Option R) (j:BA->BA->BA->LA->Bool->BA->Bool->BA->Bool->BA->Bool->BA->LA->LA->Bool->BA->Int->Int->Int->Int->Int->LA->Bool->Option R):dt (v.fld 0).s (v.fld 1).s (v.fld 2).s (v.fld 3).l (v.fld 4).b (v.fld 5).s (v.fld 6).b (v.fld 7).s (v.fld 8).b (v.fld 9).s (v.fld 10).b (v.fld 11).s (v.fld 12).l (v.fld 13).l (v.fld 14).b (v.fld 15).s (v.fld 16).i (v.fld 17).i (v.fld 18).i (v.fld 19).i (v.fld 20).i (v.fld 21).l (B p) f j=sS j f (B p) (wN ag v true p):=by
 have m:B p≠⟨#[]⟩:=fun e=>z (by have:=congrArg bl e;rw [lC] at this;exact this)
 rw [Fe v (B p) m (by rw [cj];omega)]
 exact Gz f j (B p) ag v true p (by unfold ag;omega) u
def Wf:Nat->AV->Prop
 | 0,v=>(v.fld 21).l=[]
 | n+1,v=>(v.fld 21).l.length<=1000/\((v.fld 1).s=(⟨#[109,101,115,115,97,103,101]⟩:BA)->(v.fld 21).l≠[]->C4 v=true)/\∀ u∈(v.fld 21).l,Wf n u
theorem Wf.len:∀ {n:Nat} {v:AV},Wf n v->(v.fld 21).l.length<=1000
 | 0,v,h=>by rw [show (v.fld 21).l=[] from h];simp
 | _+1,_,h=>h.1
theorem Wf.zW:∀ {n:Nat} {v u:AV},Wf n v->u∈(v.fld 21).l->∃ m,Wf m u
 | 0,v,u,h,hu=>by rw [show (v.fld 21).l=[] from h] at hu;cases hu
 | n+1,_,_,h,hu=>⟨n,h.2.2 _ hu⟩
theorem Wf.HW:∀ {n:Nat} {v:AV},Wf n v->(v.fld 1).s=(⟨#[109,101,115,115,97,103,101]⟩:BA)->(v.fld 21).l≠[]->C4 v=true
 | 0,v,h,_,f=>absurd h f
 | _+1,_,h,j,f=>h.2.1 j f
theorem pT {l:LA} {i:Int} (f:0<=i) (m:i<(l.length:Int)):bf l i∈l:=by
 obtain ⟨j,rfl⟩:∃ j:Nat,i=(j:Int):=⟨i.toNat,by omega⟩
 rw [eh (List.getElem?_eq_getElem (by omega:j<l.length))]
 exact List.getElem_mem _
theorem yY {n m:Nat} {w u:AV} {is:Bool} (h:Wf n w) (hm:1<=m) (e:qh w is m=some u):∃ k,Wf k u:=by
 unfold qh at e
 split at e
 ·split at e
  ·cases e
  ·cases e;exact h.zW (pT (by omega) (by omega))
 ·split at e
  ·cases e;exact ⟨n,h⟩
  ·cases e
theorem D8 {n m:Nat} {v u:AV} {is:Bool} (h:Wf n v) (hm:1<=m) (e:mF v is m=some u):∃ k,Wf k u:=by
 unfold mF xO at e
 split at e
 ·rename_i c
  obtain ⟨k,f⟩:=h.zW (pT (l:=(v.fld 21).l) (i:=0) (by omega) (by omega))
  exact yY f hm e
 ·exact yY h hm e
theorem CK {n m:Nat} {v:AV} {is:Bool} (h:Wf n v) (hm:1<=m):oo v is (m:Int)=mF v is m:=by
 have re:∀ (w:AV) (is:Bool),HX (Ap w is (m:Int))=qh w is m:=fun w is=>by
  unfold Ap qh
  by_cases c1:(w.fld 1).s=(⟨#[109,117,108,116,105,112,97,114,116]⟩:BA)/\((w.fld 21).l.length:Int)>0
  ·rw [if_pos c1,if_pos c1]
   by_cases c2:(m:Int)>((w.fld 21).l.length:Int)
   ·rw [if_pos (.inr c2),if_pos c2];rfl
   ·rw [if_neg (fun e=>e.elim (fun e=>by omega) c2),if_neg c2];rfl
  ·rw [if_neg c1,if_neg c1]
   cases is with
   | false=>rw [if_neg (fun e=>by cases e.1)];rfl
   | true =>
    by_cases c2:m=1
    ·rw [if_pos ⟨rfl,c2⟩,m5 (by omega)];rfl
    ·rw [if_neg (fun e=>c2 e.2),la (by omega)];rfl
 unfold oo Aq mF xO
 rw [if_neg (by omega)]
 by_cases c:is=false/\C4 v=true/\((v.fld 21).l.length:Int)>0
 ·have c1:(v.fld 1).s=(⟨#[109,101,115,115,97,103,101]⟩:BA):=by
   have:=c.2.1
   unfold C4 at this
   by_cases e:(v.fld 1).s=(⟨#[109,101,115,115,97,103,101]⟩:BA)
   ·exact e
   ·rw [ai e] at this;cases this
  rw [if_pos c,if_pos ⟨c1,c.2.2,c.1⟩];exact re _ _
 ·rw [if_neg c,if_neg (fun e=>c ⟨e.2.2,h.HW e.1 (fun f=>by have:=e.2.1;rw [f] at this;simp at this),e.2.1⟩)];exact re _ _
theorem v7 {n m:Nat} {v:AV} {is:Bool} (h:Wf n v) (hm:1000000<=m):mF v is m=none:=by
 have re:∀ (k:Nat) (w:AV) (is:Bool),Wf k w->qh w is m=none:=fun k w is hw=>by
  unfold qh
  have:=hw.len
  split
  ·rw [if_pos (by omega)]
  ·rw [if_neg (by omega)]
 unfold mF xO
 split
 ·rename_i c
  obtain ⟨k,f⟩:=h.zW (pT (l:=(v.fld 21).l) (i:=0) (by omega) (by omega))
  exact re k _ _ f
 ·exact re n _ _ h
theorem tK:∀ (p:List UInt8) (n:Nat) (st:Bool) (acc:List Nat),nG n st p acc=(nG n st p []).map (acc++·)
 | [],n,st,acc=>by rw [nG,nG];split <;> simp
 | c::t,n,st,acc=>by
  rw [nG,nG]
  split
  ·split
   ·rfl
   ·split
    ·rfl
    ·exact tK t _ _ acc
  ·split
   ·rfl
   ·rw [tK t 0 true (acc++[n]),tK t 0 true ([]++[n])]
    cases nG 0 true t [] with
    | none=>rfl
    | some l=>simp
theorem BF:∀ (f n:Nat) (p:List UInt8) (v:AV) (ins:Bool),p.length<f->Wf n v->wN f v ins p=(nG 0 true p []).bind (qs v ins)
 | 0,_,_,_,_,h,_=>by omega
 | f+1,n,p,v,ins,h,A=>by
  rw [wN,Cg]
  have z:=yL (jl p).1 0 0 true rfl (fun _=>rfl) (fun h=>by cases h)
  generalize V:qu 0 true (jl p).1=g at *
  generalize W:cN 0 true (jl p).1=o at *
  have key:(o=none/\oo v ins (g:Int)=none)∨∃ m,o=some m/\1<=m/\oo v ins (g:Int)=mF v ins m:=by
   rcases z with ⟨z,j⟩|⟨z,j⟩|⟨z,j,X⟩
   ·exact .inl ⟨z,by rw [j];unfold oo;exact if_pos rfl⟩
   ·refine .inr ⟨1000000,z,by omega,?_⟩
    rw [v7 A (Nat.le_refl _)]
    rcases j with j|j
    ·rw [j];unfold oo;exact if_pos rfl
    ·rw [CK A (by omega),v7 A j]
   ·exact .inr ⟨g,z,j,CK A j⟩
  cases N:(jl p).2 with
  | none =>
   simp only
   rcases key with ⟨k1,k2⟩|⟨m,k1,_,k2⟩
   ·rw [k1,k2];rfl
   ·rw [k1,k2]
    show mF v ins m=qs v ins ([]++[m])
    rw [List.nil_append,qs]
    cases mF v ins m <;> rfl
  | some r =>
   have O:=congrArg List.length (qe N)
   rw [List.length_append,List.length_cons] at O
   simp only
   rcases key with ⟨k1,k2⟩|⟨m,k1,k3,k2⟩
   ·rw [k1,k2];rfl
   ·rw [k1,k2]
    show _=(nG 0 true r ([]++[m])).bind (qs v ins)
    rw [tK r 0 true ([]++[m])]
    cases M:mF v ins m with
    | none =>
     cases nG 0 true r [] with
     | none=>rfl
     | some l=>show none=qs v ins (([]++[m])++l);rw [List.nil_append];show none=qs v ins (m::l);rw [qs,M];rfl
    | some u =>
     obtain ⟨k,U⟩:=D8 A k3 M
     show wN f u false r=_
     rw [BF f k r u false (by omega) U]
     cases nG 0 true r [] with
     | none=>rfl
     | some l=>show qs u false l=qs v ins (m::l);rw [qs,M];rfl
def bq:Nat->Nat
 | 0=>3
 | n+1=>3+16*bq n
def ie (l:LA):Prop:=∀ v∈l,v.s.size<=1000
theorem ie.H8 {a b:LA} (h:ie a) (f:ie b):ie (a++b):=fun v j=>(List.mem_append.1 j).elim (h v) (f v)
theorem vA (c1:aR.F R) {M:Nat} (y:LV) (u:LA) (N:u.length<=16) (V:M<=1000000000)
  (m:∀ v∈u,∃ j k0,v=ab j k0/\∃ l:LA,l.length<=M/\ie l/\∀ κ : LA->Option R,c1 (B j.p) (B j.v.ty) (B j.v.sub) (j.v.ps.map bn) j.v.i0 (B j.v.i1) j.v.a0 (B j.v.a1) (dm j.v.c1) (B j.v.c1) (dm j.v.p1) (B j.v.p1) (j.v.pp.map bn) (bw j.v.lg) j.v.w0 (B j.v.w1) (j.a:Int) (j.b:Int) (j.c:Int) (j.d:Int) (j.e:Int) k0 κ = κ l) :
  ∀ (r d acc:LA),d++r=u->ie acc->acc.length<=3+d.length*M->∃ l:LA,l.length<=acc.length+r.length*M/\ie l/\∀ (κ : LA->Option R) (f:Nat),r.length<f->aR.L5 c1 κ f (d.length:Int) (B y.p) (B y.v.ty) (B y.v.sub) (y.v.ps.map bn) y.v.i0 (B y.v.i1) y.v.a0 (B y.v.a1) (dm y.v.c1) (B y.v.c1) (dm y.v.p1) (B y.v.p1) (y.v.pp.map bn) (bw y.v.lg) y.v.w0 (B y.v.w1) (y.a:Int) (y.b:Int) (y.c:Int) (y.d:Int) (y.e:Int) u acc=κ l
 | [],d,acc,z,O,_=>by
  refine ⟨acc,by simp,O,fun κ f U => ?_⟩
  obtain ⟨g,rfl⟩:∃ g,f=g+1:=⟨f-1,by simp only [List.length_nil] at U;omega⟩
  rw [List.append_nil] at z
  rw [aR.L5,aR.t5,z,ai (by omega)]
 | v::r,d,acc,z,O,ha=>by
  have hlen:d.length+r.length+1=u.length:=by rw [<- z];simp;omega
  obtain ⟨j,k0,rfl,W,g1,g2,g3⟩:=m v (by rw [<- z];simp)
  have X:d.length*M<=16*M:=Nat.mul_le_mul_right _ (by omega)
  obtain ⟨Y,e1,e2,e3⟩:=vA c1 y u N V m r (d++[ab j k0]) (acc++W) (by rw [List.append_assoc];exact z) (O.H8 g2) (by simp only [List.length_append,List.length_cons,List.length_nil,Nat.succ_mul,Nat.zero_add];omega)
  refine ⟨Y,by simp only [List.length_append,List.length_cons,Nat.succ_mul] at e1 ⊢;omega,e2,fun κ f U => ?_⟩
  simp only [List.length_cons] at U
  obtain ⟨g,rfl⟩:∃ g,f=g+1:=⟨f-1,by omega⟩
  have A:bf u (d.length:Int)=ab j k0:=eh (by rw [<- z];simp)
  rw [aR.L5,aR.t5,al (by omega),av,ac (by omega),ac (by omega),A]
  refine (g3 _).trans ?_
  rw [ac (by omega),wrap_i64 (by omega) (by omega)]
  have:=e3 κ g (by omega)
  rw [show (d++[ab j k0]).length=d.length+1 by simp] at this
  exact this
theorem El (n:Nat) (h:n<=6):bq n<=100000000:=by
 rcases n with _|_|_|_|_|_|_|n
 all_goals first|decide|omega
theorem ED {N:Nat}:∀ (n fu:Nat) (y:LV) (k:LA),n<fu->n<=6->Gw N n y k->∃ l:LA,l.length<=bq n/\ie l/\∀ κ : LA->Option R,aR.R fu (B y.p) (B y.v.ty) (B y.v.sub) (y.v.ps.map bn) y.v.i0 (B y.v.i1) y.v.a0 (B y.v.a1) (dm y.v.c1) (B y.v.c1) (dm y.v.p1) (B y.v.p1) (y.v.pp.map bn) (bw y.v.lg) y.v.w0 (B y.v.w1) (y.a:Int) (y.b:Int) (y.c:Int) (y.d:Int) (y.e:Int) k κ = κ l
 | _,0,_,_,h,_,_=>by omega
 | n,fu+1,y,k,hf,hn,h=>by
  have hp:=h.HC
  have hsz:(B y.p).size<=100:=by rw [cj];exact hp
  have go:∃ M,M<=100000000/\3+16*M<=max 3 (bq n)+16*(if n=0 then M else 0)/\∀ v∈k,∃ y0 k0,v=ab y0 k0/\∃ l:LA,l.length<=M/\ie l/\∀ κ : LA->Option R,aR.R fu (B y0.p) (B y0.v.ty) (B y0.v.sub) (y0.v.ps.map bn) y0.v.i0 (B y0.v.i1) y0.v.a0 (B y0.v.a1) (dm y0.v.c1) (B y0.v.c1) (dm y0.v.p1) (B y0.v.p1) (y0.v.pp.map bn) (bw y0.v.lg) y0.v.w0 (B y0.v.w1) (y0.a:Int) (y0.b:Int) (y0.c:Int) (y0.d:Int) (y0.e:Int) k0 κ = κ l:=by
   cases n with
   | zero=>exact ⟨0,by omega,by simp [bq],fun v hv=>by rw [h.2.2] at hv;cases hv⟩
   | succ n =>
    refine ⟨bq n,El n (by omega),(by simp [bq] <;> omega),fun v hv => ?_⟩
    obtain ⟨y0,k0,e,hg⟩:=h.2.2.2.2 v hv
    exact ⟨y0,k0,e,ED n fu y0 k0 (by omega) (by omega) hg⟩
  obtain ⟨M,hM,hM2,hrec⟩:=go
  have hkl:=h.Ht
  have fin:∀ acc:LA,acc.length<=3->ie acc->∃ l:LA,l.length<=bq n/\ie l/\∀ κ : LA->Option R,aR.L5 (aR.R fu) κ ag 0 (B y.p) (B y.v.ty) (B y.v.sub) (y.v.ps.map bn) y.v.i0 (B y.v.i1) y.v.a0 (B y.v.a1) (dm y.v.c1) (B y.v.c1) (dm y.v.p1) (B y.v.p1) (y.v.pp.map bn) (bw y.v.lg) y.v.w0 (B y.v.w1) (y.a:Int) (y.b:Int) (y.c:Int) (y.d:Int) (y.e:Int) k acc=κ l:=fun acc h3 hs=>by
   obtain ⟨l,g1,g2,g3⟩:=vA (aR.R fu) y k hkl (by omega) hrec k [] acc rfl hs (by simpa using h3)
   refine ⟨l,?_,g2,fun κ => g3 κ ag (by unfold ag;omega)⟩
   have hkm:k.length*M<=16*M:=Nat.mul_le_mul_right _ hkl
   cases n with
   | zero=>rw [h.2.2] at g1;simp only [List.length_nil,Nat.zero_mul] at g1;rw [bq];omega
   | succ n => simp only [Nat.succ_ne_zero, if_false] at hM2; have : 3 <= bq (n + 1) := by rw [bq]; omega
               omega
  have chk0:(B y.p).size+(⟨#[46,49]⟩:BA).size<=9223372036854775807:=by have:(⟨#[46,49]⟩:BA).size=2:=rfl;omega
  by_cases c:B y.p=⟨#[]⟩
  ·obtain ⟨l,g1,g2,g3⟩:=fin [AV.str (⟨#[49]⟩:BA),AV.str (⟨#[49,46,49]⟩:BA),AV.str (⟨#[50]⟩:BA)] (by simp) (fun v hv=>by
    simp only [List.mem_cons,List.mem_nil_iff,or_false] at hv
    rcases hv with rfl|rfl|rfl
    ·show (⟨#[49]⟩:BA).size<=1000;decide
    ·show (⟨#[49,46,49]⟩:BA).size<=1000;decide
    ·show (⟨#[50]⟩:BA).size<=1000;decide)
   refine ⟨l,g1,g2,fun κ => ?_⟩
   rw [aR.R,aR.B,aR.e,ac chk0,al c];exact g3 κ
  ·obtain ⟨l,g1,g2,g3⟩:=fin [AV.str (B y.p),AV.str (B y.p++(⟨#[46,49]⟩:BA))] (by simp) (fun v hv=>by
    simp only [List.mem_cons,List.mem_nil_iff,or_false] at hv
    rcases hv with rfl|rfl
    ·show (B y.p).size<=1000;omega
    ·show (B y.p++(⟨#[46,49]⟩:BA)).size<=1000
     rw [ByteArray.size_append];have:(⟨#[46,49]⟩:BA).size=2:=rfl;omega)
   refine ⟨l,g1,g2,fun κ => ?_⟩
   rw [aR.R,aR.B,aR.e,ac chk0,ai c];exact g3 κ
theorem pL (l:LA) (m:l.length<=1000000) (κ : Bool->Option R):∀ (f i:Nat),i<=l.length->l.length<i+f->cx.L4 κ f l l (i:Int)=κ true
 | 0,i,u,z=>by omega
 | f+1,i,u,z=>by
  rw [cx.L4,cx.t4]
  by_cases h:i<l.length
  ·have j:IntKind.wrap .i64 ((i:Int)+1)=((i+1:Nat):Int):=wrap_i64 (by omega) (by omega)
   rw [al (by omega),av,ac (by omega),ac (by omega),av,ac (by omega),ac (by omega),j,decide_eq_true (rfl:((bf l (i:Int)).fld 0).s=_),decide_eq_true (rfl:((bf l (i:Int)).fld 1).s=_)]
   exact pL l m κ f (i+1) (by omega) (by omega)
  ·rw [ai (by omega)]
theorem vy (l:LA) (j:l.length<=1000000) (κ : Bool->Option R):cx l l κ = κ true:=by
 have key:∀ f,l.length<f->cx.e l l (cx.L4 κ f) κ = κ true:=by
  intro f h
  unfold cx.e
  rw [sZ rfl]
  exact pL l j κ f 0 (by omega) (by omega)
 exact key ag (by unfold ag;omega)
theorem ql (l:LA) (m:l.length<=1000000) (κ : Bool->Option R):∀ (f i:Nat),i<=l.length->l.length<i+f->cU.L4 κ f l l (i:Int)=κ true
 | 0,i,u,z=>by omega
 | f+1,i,u,z=>by
  rw [cU.L4,cU.t4]
  by_cases h:i<l.length
  ·have j:IntKind.wrap .i64 ((i:Int)+1)=((i+1:Nat):Int):=wrap_i64 (by omega) (by omega)
   rw [al (by omega),av,ac (by omega),ac (by omega),av,ac (by omega),ac (by omega),j,decide_eq_true (rfl:(bf l (i:Int)).s=_)]
   exact ql l m κ f (i+1) (by omega) (by omega)
  ·rw [ai (by omega)]
theorem CT (l:LA) (j:l.length<=1000000) (κ : Bool->Option R):cU l l κ = κ true:=by
 have key:∀ f,l.length<f->cU.e l l (cU.L4 κ f) κ = κ true:=by
  intro f h
  unfold cU.e
  rw [sZ rfl]
  exact ql l j κ f 0 (by omega) (by omega)
 exact key ag (by unfold ag;omega)
theorem p9 (C:bz.F R) (k:LA) (z:k.length<=1000) (m:∀ a∈k,∀ κ : Bool->Option R,C (a.fld 0).s (a.fld 1).s (a.fld 2).s (a.fld 3).l (a.fld 4).b (a.fld 5).s (a.fld 6).b (a.fld 7).s (a.fld 8).b (a.fld 9).s (a.fld 10).b (a.fld 11).s (a.fld 12).l (a.fld 13).l (a.fld 14).b (a.fld 15).s (a.fld 16).i (a.fld 17).i (a.fld 18).i (a.fld 19).i (a.fld 20).i (a.fld 21).l (a.fld 0).s (a.fld 1).s (a.fld 2).s (a.fld 3).l (a.fld 4).b (a.fld 5).s (a.fld 6).b (a.fld 7).s (a.fld 8).b (a.fld 9).s (a.fld 10).b (a.fld 11).s (a.fld 12).l (a.fld 13).l (a.fld 14).b (a.fld 15).s (a.fld 16).i (a.fld 17).i (a.fld 18).i (a.fld 19).i (a.fld 20).i (a.fld 21).l κ = κ true) (g0:BA) (g1:BA) (g2:BA) (g3:LA) (g4:Bool) (g5:BA) (g6:Bool) (g7:BA) (g8:Bool) (g9:BA) (g10:Bool) (g11:BA) (g12:LA) (g13:LA) (g14:Bool) (g15:BA) (g16:Int) (g17:Int) (g18:Int) (g19:Int) (g20:Int) (κ : Bool->Option R):∀ (f i:Nat),i<=k.length->k.length<i+f ->
  bz.L6 cx cU C κ f (i:Int) g0 g1 g2 g3 g4 g5 g6 g7 g8 g9 g10 g11 g12 g13 g14 g15 g16 g17 g18 g19 g20 k g0 g1 g2 g3 g4 g5 g6 g7 g8 g9 g10 g11 g12 g13 g14 g15 g16 g17 g18 g19 g20 k=κ true
 | 0,i,A,M=>by omega
 | f+1,i,A,M=>by
  rw [bz.L6,bz.t6]
  by_cases h:i<k.length
  ·have j:IntKind.wrap .i64 ((i:Int)+1)=((i+1:Nat):Int):=wrap_i64 (by omega) (by omega)
   obtain ⟨a,r,N⟩:=lQ h
   have u:=(cP N).1
   have O:a∈k:=List.mem_of_getElem? u
   rw [al (by omega),av,ac (by omega),ac (by omega),av,ac (by omega),ac (by omega),eh u,m a O,Bool.not_true,cond_false,j]
   exact p9 C k z m g0 g1 g2 g3 g4 g5 g6 g7 g8 g9 g10 g11 g12 g13 g14 g15 g16 g17 g18 g19 g20 κ f (i+1) (by omega) (by omega)
  ·rw [ai (by omega)]
theorem CJ:∀ (n j:Nat) (g0:BA) (g1:BA) (g2:BA) (g3:LA) (g4:Bool) (g5:BA) (g6:Bool) (g7:BA) (g8:Bool) (g9:BA) (g10:Bool) (g11:BA) (g12:LA) (g13:LA) (g14:Bool) (g15:BA) (g16:Int) (g17:Int) (g18:Int) (g19:Int) (g20:Int) (k:LA) (κ : Bool->Option R),g3.length<=1000->g12.length<=1000->g13.length<=1000->FW n k->n<j->bz.R j g0 g1 g2 g3 g4 g5 g6 g7 g8 g9 g10 g11 g12 g13 g14 g15 g16 g17 g18 g19 g20 k g0 g1 g2 g3 g4 g5 g6 g7 g8 g9 g10 g11 g12 g13 g14 g15 g16 g17 g18 g19 g20 k κ = κ true
 | n,0,g0,g1,g2,g3,g4,g5,g6,g7,g8,g9,g10,g11,g12,g13,g14,g15,g16,g17,g18,g19,g20,k,κ,_,_,_,_,h=>by omega
 | n,j+1,g0,g1,g2,g3,g4,g5,g6,g7,g8,g9,g10,g11,g12,g13,g14,g15,g16,g17,g18,g19,g20,k,κ,h3,z,A,m,hn=>by
  have M:=Ed m
  rw [bz.R,bz.B]
  have key:∀ f,2000<f->bz.e cx cU (bz.R j) g0 g1 g2 g3 g4 g5 g6 g7 g8 g9 g10 g11 g12 g13 g14 g15 g16 g17 g18 g19 g20 k g0 g1 g2 g3 g4 g5 g6 g7 g8 g9 g10 g11 g12 g13 g14 g15 g16 g17 g18 g19 g20 k (bz.L6 cx cU (bz.R j) κ f) κ = κ true:=by
   intro f hf
   rw [bz.e]
   have N:∀ b:Bool,(b == b)=true:=fun b=>by cases b <;> rfl
   have O:∀ i:Int,(i == i)=true:=fun i=>fS rfl
   have U:∀ s:BA,decide (s=s)=true:=fun s=>decide_eq_true rfl
   have V:∀ i:Int,(i != i)=false:=fun i=>sZ rfl
   simp only [N,O,U,V,Bool.and_true,Bool.not_true,cond_false]
   rw [vy _ (by omega),Bool.not_true,cond_false,vy _ (by omega),Bool.not_true,cond_false,CT _ (by omega),Bool.not_true,cond_false]
   refine p9 (bz.R j) k M (fun a u κ => ?_) g0 g1 g2 g3 g4 g5 g6 g7 g8 g9 g10 g11 g12 g13 g14 g15 g16 g17 g18 g19 g20 κ f 0 (by omega) (by omega)
   cases n with
   | zero=>rw [show k=[] from m] at u;cases u
   | succ n =>
    obtain ⟨W,X,Y,e4⟩:=m.2 a u
    exact CJ n j (a.fld 0).s (a.fld 1).s (a.fld 2).s (a.fld 3).l (a.fld 4).b (a.fld 5).s (a.fld 6).b (a.fld 7).s (a.fld 8).b (a.fld 9).s (a.fld 10).b (a.fld 11).s (a.fld 12).l (a.fld 13).l (a.fld 14).b (a.fld 15).s (a.fld 16).i (a.fld 17).i (a.fld 18).i (a.fld 19).i (a.fld 20).i (a.fld 21).l κ W X Y e4 (by omega)
  exact key ag (by unfold ag;omega)
theorem Br (l:LA) (m:l.length<=1000) (f:LA->Option R) (j:Option R) (h:j=f []):cu l f j=f l:=by
 unfold cu cu.e
 rw [ac (by omega),List.nil_append]
 by_cases c:(0:Int)<(l.length:Int)
 ·rw [al c]
 ·rw [ai c,show l=[] from List.eq_nil_of_length_eq_zero (by omega),h,oL]
theorem EY (l:LA) (m:l.length<=1000) (f:LA->Option R) (j:Option R) (h:j=f []):ay l f j=f l:=by
 unfold ay ay.e
 rw [ac (by omega),List.nil_append]
 by_cases c:(0:Int)<(l.length:Int)
 ·rw [al c]
 ·rw [ai c,show l=[] from List.eq_nil_of_length_eq_zero (by omega),h,oL]
theorem yc (c3:bi.F R) (u:BA->BA->BA->LA->Bool->BA->Bool->BA->Bool->BA->Bool->BA->LA->LA->Bool->BA->Int->Int->Int->Int->Int->Option R) (m:BA->BA->BA->LA->Bool->BA->Bool->BA->Bool->BA->Bool->BA->LA->LA->Bool->BA->Int->Int->Int->Int->Int->LA->Option R) (z:LA) (bs:z.length<=1000) (A:∀ v∈z,∃ j k0,v=ab j k0/\∀ (u:BA->BA->BA->LA->Bool->BA->Bool->BA->Bool->BA->Bool->BA->LA->LA->Bool->BA->Int->Int->Int->Int->Int->Option R) (m:BA->BA->BA->LA->Bool->BA->Bool->BA->Bool->BA->Bool->BA->LA->LA->Bool->BA->Int->Int->Int->Int->Int->LA->Option R),c3 ((ab j k0).fld 0).s ((ab j k0).fld 1).s ((ab j k0).fld 2).s ((ab j k0).fld 3).l ((ab j k0).fld 4).b ((ab j k0).fld 5).s ((ab j k0).fld 6).b ((ab j k0).fld 7).s ((ab j k0).fld 8).b ((ab j k0).fld 9).s ((ab j k0).fld 10).b ((ab j k0).fld 11).s ((ab j k0).fld 12).l ((ab j k0).fld 13).l ((ab j k0).fld 14).b ((ab j k0).fld 15).s ((ab j k0).fld 16).i ((ab j k0).fld 17).i ((ab j k0).fld 18).i ((ab j k0).fld 19).i ((ab j k0).fld 20).i ((ab j k0).fld 21).l u m=m ((ab j k0).fld 0).s ((ab j k0).fld 1).s ((ab j k0).fld 2).s ((ab j k0).fld 3).l ((ab j k0).fld 4).b ((ab j k0).fld 5).s ((ab j k0).fld 6).b ((ab j k0).fld 7).s ((ab j k0).fld 8).b ((ab j k0).fld 9).s ((ab j k0).fld 10).b ((ab j k0).fld 11).s ((ab j k0).fld 12).l ((ab j k0).fld 13).l ((ab j k0).fld 14).b ((ab j k0).fld 15).s ((ab j k0).fld 16).i ((ab j k0).fld 17).i ((ab j k0).fld 18).i ((ab j k0).fld 19).i ((ab j k0).fld 20).i ((ab j k0).fld 21).l) (a0:BA) (a1:BA) (a2:BA) (a4:Bool) (a5:BA) (a6:Bool) (a7:BA) (a8:Bool) (a9:BA) (M:Bool) (N:BA) (O:Bool) (U:BA) (V:Int) (W:Int) (X:Int) (Y:Int) (a20:Int) (k' ps pp lg:LA) (z0:BA) (z1:BA) (z2:BA) (z4:Bool) (z5:BA) (z6:Bool) (z7:BA) (z8:Bool) (z9:BA) (ad:Bool) (ae:BA) (ap:Bool) (ar:BA) (ax:Int) (bb:Int) (be:Int) (bk:Int) (z20:Int) :
  ∀ (r d:LA) (f:Nat),d++r=z->r.length<f->bi.L6 cu ay c3 u m f z (z.length:Int) (d.length:Int) a0 a1 a2 a4 a5 a6 a7 a8 a9 M N O U V W X Y a20 k' ps pp lg z0 z1 z2 z4 z5 z6 z7 z8 z9 ad ae ap ar ax bb be bk z20 d=m a0 a1 a2 ps a4 a5 a6 a7 a8 a9 M N pp lg O U V W X Y a20 z
 | _,_,0,_,h=>by omega
 | [],d,f+1,hd,_=>by
  rw [List.append_nil] at hd
  rw [bi.L6,bi.t6,<- hd,ai (by omega)]
 | v::r,d,f+1,hd,hf=>by
  have hl:d.length+r.length+1=z.length:=by rw [<- hd];simp;omega
  obtain ⟨j,k0,rfl,hv⟩:=A v (by rw [<- hd];simp)
  have hg:bf z (d.length:Int)=ab j k0:=eh (by rw [<- hd];simp)
  rw [bi.L6,bi.t6,al (by omega),av,ac (by omega),ac (by omega),hg,hv,ac (by omega),wrap_i64 (x:=(d.length:Int)+1) (by omega) (by omega)]
  have ih:=yc c3 u m z bs A a0 a1 a2 a4 a5 a6 a7 a8 a9 M N O U V W X Y a20 k' ps pp lg z0 z1 z2 z4 z5 z6 z7 z8 z9 ad ae ap ar ax bb be bk z20 r (d++[ab j k0]) f (by rw [List.append_assoc];exact hd) (by simp only [List.length_cons] at hf;omega)
  rw [show (d++[ab j k0]).length=d.length+1 by simp] at ih
  exact ih
def oD:Nat->LV->LA->Prop
 | 0,y,k=>FX y/\k=[]
 | n+1,y,k=>FX y/\k.length<=1000/\(y.v.ty=gG->k≠[]->dG y=true)/\∀ v∈k,∃ f k0,v=ab f k0/\oD n f k0
theorem oD.wf:∀ {n:Nat} {y:LV} {k:LA},oD n y k->FX y
 | 0,_,_,h=>h.1
 | _+1,_,_,h=>h.1
theorem oD.len:∀ {n:Nat} {y:LV} {k:LA},oD n y k->k.length<=1000
 | 0,_,_,h=>by rw [h.2];simp
 | _+1,_,_,h=>h.2.1
theorem oD.zW:∀ {n:Nat} {y:LV} {k:LA},oD n y k->∀ v∈k,∃ m f k0,n=m+1/\v=ab f k0/\oD m f k0
 | 0,_,_,h,v,j=>by rw [h.2] at j;cases j
 | m+1,_,_,h,v,j=>by obtain ⟨f,k0,u,z⟩:=h.2.2.2 v j;exact ⟨m,f,k0,rfl,u,z⟩
theorem DG (y:LV) (k:LA):C4 (ab y k)=dG y:=by
 have hm:∀ a b:List UInt8,decide (B a=B b)=decide (a=b):=fun a b=>decide_eq_decide.2 eg
 unfold C4 dG
 rw [show ((ab y k).fld 1).s=B y.v.ty from rfl,show ((ab y k).fld 2).s=B y.v.sub from rfl,show (⟨#[109,101,115,115,97,103,101]⟩:BA)=B gG from rfl,show (⟨#[114,102,99,56,50,50]⟩:BA)=B ml from rfl,hm,hm]
 cases decide (y.v.ty=gG) <;> rfl
theorem oD.Wf:∀ {n:Nat} {y:LV} {k:LA},oD n y k->Go.Proofs.Ab.Wf n (ab y k)
 | 0,_,_,h=>h.2
 | n+1,y,k,h=>⟨h.2.1,fun f j=>by rw [DG];exact h.2.2.1 (eg.1 f) j,fun u hu=>by
   obtain ⟨z,k0,rfl,m⟩:=h.2.2.2 u hu
   exact m.Wf⟩
theorem oD.FW:∀ {n:Nat} {y:LV} {k:LA},oD n y k->Go.Proofs.Ab.FW n k
 | 0,_,_,h=>h.2
 | n+1,y,k,h=>⟨h.2.1,fun a j=>by
   obtain ⟨m,k0,rfl,f⟩:=h.2.2.2 a j
   obtain ⟨u,z,A⟩:=f.wf
   refine ⟨?_,?_,?_,f.FW⟩
   ·show (List.map bn _).length<=1000
    rw [List.length_map];omega
   ·show (List.map bn _).length<=1000
    rw [List.length_map];omega
   ·show (bw _).length<=1000
    rw [eR];omega⟩
theorem Gj:∀ (n z:Nat) (y:LV) (k:LA),n<z->oD n y k->∀ (u:BA->BA->BA->LA->Bool->BA->Bool->BA->Bool->BA->Bool->BA->LA->LA->Bool->BA->Int->Int->Int->Int->Int->Option R) (j:BA->BA->BA->LA->Bool->BA->Bool->BA->Bool->BA->Bool->BA->LA->LA->Bool->BA->Int->Int->Int->Int->Int->LA->Option R),bi.R z ((ab y k).fld 0).s ((ab y k).fld 1).s ((ab y k).fld 2).s ((ab y k).fld 3).l ((ab y k).fld 4).b ((ab y k).fld 5).s ((ab y k).fld 6).b ((ab y k).fld 7).s ((ab y k).fld 8).b ((ab y k).fld 9).s ((ab y k).fld 10).b ((ab y k).fld 11).s ((ab y k).fld 12).l ((ab y k).fld 13).l ((ab y k).fld 14).b ((ab y k).fld 15).s ((ab y k).fld 16).i ((ab y k).fld 17).i ((ab y k).fld 18).i ((ab y k).fld 19).i ((ab y k).fld 20).i ((ab y k).fld 21).l u j=j ((ab y k).fld 0).s ((ab y k).fld 1).s ((ab y k).fld 2).s ((ab y k).fld 3).l ((ab y k).fld 4).b ((ab y k).fld 5).s ((ab y k).fld 6).b ((ab y k).fld 7).s ((ab y k).fld 8).b ((ab y k).fld 9).s ((ab y k).fld 10).b ((ab y k).fld 11).s ((ab y k).fld 12).l ((ab y k).fld 13).l ((ab y k).fld 14).b ((ab y k).fld 15).s ((ab y k).fld 16).i ((ab y k).fld 17).i ((ab y k).fld 18).i ((ab y k).fld 19).i ((ab y k).fld 20).i ((ab y k).fld 21).l
 | n,0,_,_,h,_=>by omega
 | n,z+1,y,k,h,A=>fun u j=>by
  obtain ⟨V,W,X⟩:=A.wf
  obtain ⟨f,M⟩:∃ g,ag=g+1:=⟨ag-1,by unfold ag;omega⟩
  have hlen:=A.len
  rw [bi.R,bi.B,bi.e,Br _ (by show (List.map bn _).length<=1000;rw [List.length_map];omega) _ _ rfl,Br _ (by show (List.map bn _).length<=1000;rw [List.length_map];omega) _ _ rfl,M,bi.L3,bi.t3,EY _ (by show (bw _).length<=1000;rw [eR];omega) _ _ rfl]
  exact yc (bi.R z) u j k hlen (fun v O=>by
   obtain ⟨m,N,k0,rfl,e,U⟩:=A.zW v O
   exact ⟨N,k0,e,Gj m z N k0 (by omega) U⟩) _ _ _ _ _ _ _ _ _ _ _ _ _ _ _ _ _ _ _ _ _ _ _ _ _ _ _ _ _ _ _ _ _ _ _ _ _ _ _ _ k [] f rfl (by unfold ag at M;omega)
def Ei (n:Nat) (v:AV):Prop:=∃ m y k,m<=n/\v=ab y k/\oD m y k
theorem Ei.zW {n:Nat} {v u:AV} (h:Ei n v) (hu:u∈(v.fld 21).l):Ei n u:=by
 obtain ⟨m,y,k,hm,rfl,f⟩:=h
 obtain ⟨m',j,k0,rfl,e,z⟩:=f.zW u hu
 exact ⟨m',j,k0,by omega,e,z⟩
theorem yX {n m:Nat} {w u:AV} {is:Bool} (h:Ei n w) (hm:1<=m) (e:qh w is m=some u):Ei n u:=by
 unfold qh at e
 split at e
 ·split at e
  ·cases e
  ·cases e;exact h.zW (pT (by omega) (by omega))
 ·split at e
  ·cases e;exact h
  ·cases e
theorem A2 {n:Nat}:∀ {l:List Nat} {v u:AV} {is:Bool},Ei n v->(∀ m∈l,1<=m)->qs v is l=some u->Ei n u
 | [],v,u,is,h,_,e=>by rw [qs] at e;cases e;exact h
 | m::l,v,u,is,h,hm,e=>by
  rw [qs] at e
  cases f:mF v is m with
  | none=>rw [f] at e;cases e
  | some x =>
   rw [f] at e
   refine A2 (v:=x) ?_ (fun m j=>hm m (by simp [j])) e
   unfold mF xO at f
   split at f
   ·exact yX (h.zW (pT (i:=0) (by omega) (by omega))) (hm m (by simp)) f
   ·exact yX h (hm m (by simp)) f
def zY:LV:=⟨[],⟨[],[],[],false,[],false,[],[],[],[],[],false,[]⟩,0,0,0,0,0⟩
theorem G1:oD 0 zY []:=⟨⟨by decide,by decide,by decide⟩,rfl⟩
theorem Dg {n:Nat} {f:LV} {k0:LA} (h:oD n f k0) (hn:n<=100) (p:List UInt8) (hp:p.length<=10000000):∃ (ok:Bool) (m:Nat) (y:LV) (k:LA),m<=n/\oD m y k /\
  (∀ K:Bool->BA->BA->BA->LA->Bool->BA->Bool->BA->Bool->BA->Bool->BA->LA->LA->Bool->BA->Int->Int->Int->Int->Int->LA->Option R,dh ((ab f k0).fld 0).s ((ab f k0).fld 1).s ((ab f k0).fld 2).s ((ab f k0).fld 3).l ((ab f k0).fld 4).b ((ab f k0).fld 5).s ((ab f k0).fld 6).b ((ab f k0).fld 7).s ((ab f k0).fld 8).b ((ab f k0).fld 9).s ((ab f k0).fld 10).b ((ab f k0).fld 11).s ((ab f k0).fld 12).l ((ab f k0).fld 13).l ((ab f k0).fld 14).b ((ab f k0).fld 15).s ((ab f k0).fld 16).i ((ab f k0).fld 17).i ((ab f k0).fld 18).i ((ab f k0).fld 19).i ((ab f k0).fld 20).i ((ab f k0).fld 21).l (B p) (fun x0 x1 x2 x4 x5 x6 x7 x8 x9 j z A M N O U V W b=>K b x0 x1 x2 [] x4 x5 x6 x7 x8 x9 j z [] [] A M N O U V W []) (fun x0 x1 x2 x3 x4 x5 x6 x7 x8 x9 j z ad ae A M N O U V W b=>K b x0 x1 x2 x3 x4 x5 x6 x7 x8 x9 j z ad ae A M N O U V W []) (fun x0 x1 x2 x3 x4 x5 x6 x7 x8 x9 j z ad ae A M N O U V W ap b=>K b x0 x1 x2 x3 x4 x5 x6 x7 x8 x9 j z ad ae A M N O U V W ap)=K ok ((ab y k).fld 0).s ((ab y k).fld 1).s ((ab y k).fld 2).s ((ab y k).fld 3).l ((ab y k).fld 4).b ((ab y k).fld 5).s ((ab y k).fld 6).b ((ab y k).fld 7).s ((ab y k).fld 8).b ((ab y k).fld 9).s ((ab y k).fld 10).b ((ab y k).fld 11).s ((ab y k).fld 12).l ((ab y k).fld 13).l ((ab y k).fld 14).b ((ab y k).fld 15).s ((ab y k).fld 16).i ((ab y k).fld 17).i ((ab y k).fld 18).i ((ab y k).fld 19).i ((ab y k).fld 20).i ((ab y k).fld 21).l) /\
  ∀ K:Bool->BA->BA->BA->LA->Bool->BA->Bool->BA->Bool->BA->Bool->BA->LA->LA->Bool->BA->Int->Int->Int->Int->Int->LA->Option R,bR ((ab f k0).fld 0).s ((ab f k0).fld 1).s ((ab f k0).fld 2).s ((ab f k0).fld 3).l ((ab f k0).fld 4).b ((ab f k0).fld 5).s ((ab f k0).fld 6).b ((ab f k0).fld 7).s ((ab f k0).fld 8).b ((ab f k0).fld 9).s ((ab f k0).fld 10).b ((ab f k0).fld 11).s ((ab f k0).fld 12).l ((ab f k0).fld 13).l ((ab f k0).fld 14).b ((ab f k0).fld 15).s ((ab f k0).fld 16).i ((ab f k0).fld 17).i ((ab f k0).fld 18).i ((ab f k0).fld 19).i ((ab f k0).fld 20).i ((ab f k0).fld 21).l (B p) (fun x0 x1 x2 x3 x4 x5 x6 x7 x8 x9 j z ad ae A M N O U V W ap b=>K b x0 x1 x2 x3 x4 x5 x6 x7 x8 x9 j z ad ae A M N O U V W ap) (fun x0 x1 x2 x4 x5 x6 x7 x8 x9 j z A M N O U V W b=>K b x0 x1 x2 [] x4 x5 x6 x7 x8 x9 j z [] [] A M N O U V W [])=K ok ((ab y k).fld 0).s ((ab y k).fld 1).s ((ab y k).fld 2).s ((ab y k).fld 3).l ((ab y k).fld 4).b ((ab y k).fld 5).s ((ab y k).fld 6).b ((ab y k).fld 7).s ((ab y k).fld 8).b ((ab y k).fld 9).s ((ab y k).fld 10).b ((ab y k).fld 11).s ((ab y k).fld 12).l ((ab y k).fld 13).l ((ab y k).fld 14).b ((ab y k).fld 15).s ((ab y k).fld 16).i ((ab y k).fld 17).i ((ab y k).fld 18).i ((ab y k).fld 19).i ((ab y k).fld 20).i ((ab y k).fld 21).l:=by
 have hu:∀ (m:Nat) (y:LV) (k:LA),m<=n->oD m y k->∀ (Y:BA->BA->BA->LA->Bool->BA->Bool->BA->Bool->BA->Bool->BA->LA->LA->Bool->BA->Int->Int->Int->Int->Int->Option R) (X:BA->BA->BA->LA->Bool->BA->Bool->BA->Bool->BA->Bool->BA->LA->LA->Bool->BA->Int->Int->Int->Int->Int->LA->Option R),bi ((ab y k).fld 0).s ((ab y k).fld 1).s ((ab y k).fld 2).s ((ab y k).fld 3).l ((ab y k).fld 4).b ((ab y k).fld 5).s ((ab y k).fld 6).b ((ab y k).fld 7).s ((ab y k).fld 8).b ((ab y k).fld 9).s ((ab y k).fld 10).b ((ab y k).fld 11).s ((ab y k).fld 12).l ((ab y k).fld 13).l ((ab y k).fld 14).b ((ab y k).fld 15).s ((ab y k).fld 16).i ((ab y k).fld 17).i ((ab y k).fld 18).i ((ab y k).fld 19).i ((ab y k).fld 20).i ((ab y k).fld 21).l Y X=X ((ab y k).fld 0).s ((ab y k).fld 1).s ((ab y k).fld 2).s ((ab y k).fld 3).l ((ab y k).fld 4).b ((ab y k).fld 5).s ((ab y k).fld 6).b ((ab y k).fld 7).s ((ab y k).fld 8).b ((ab y k).fld 9).s ((ab y k).fld 10).b ((ab y k).fld 11).s ((ab y k).fld 12).l ((ab y k).fld 13).l ((ab y k).fld 14).b ((ab y k).fld 15).s ((ab y k).fld 16).i ((ab y k).fld 17).i ((ab y k).fld 18).i ((ab y k).fld 19).i ((ab y k).fld 20).i ((ab y k).fld 21).l:=fun m y k hm ht Y X=>Gj m ag y k (by unfold ag;omega) ht Y X
 by_cases c:p=[]
 ·subst c
  refine ⟨true,n,f,k0,Nat.le_refl _,h,fun K => ?_,fun K => ?_⟩
  ·unfold dh dh.e dt
   rw [al (show B []=(⟨#[]⟩:BA) from rfl)]
   simp only [Bool.not_true,cond_false]
   exact hu n f k0 (Nat.le_refl _) h _ _
  ·unfold bR bR.e
   rw [al (show B []=(⟨#[]⟩:BA) from rfl)]
 ·have ax:=BF ag n p (ab f k0) true (by unfold ag;omega) h.Wf
  have hr:=fun Y X=>Il (R:=R) (ab f k0) p hp c Y X
  have hl:=fun Y X=>Gy (R:=R) (ab f k0) p hp c Y X
  rw [ax] at hl
  cases ho:(nG 0 true p []).bind (qs (ab f k0) true) with
  | none =>
   rw [ho] at hr hl
   refine ⟨false,0,zY,[],Nat.zero_le _,G1,fun K => ?_,fun K=>(hr _ _).trans rfl⟩
   unfold dh dh.e
   refine (hl _ _).trans ?_
   rfl
  | some u =>
   rw [ho] at hr hl
   have a1:Ei n u:=by
    cases hg:nG 0 true p [] with
    | none=>rw [hg] at ho;cases ho
    | some l =>
     rw [hg] at ho
     exact A2 ⟨n,f,k0,Nat.le_refl _,rfl,h⟩ (fun m hm=>(tL p 0 true [] l (by omega) (fun h=>by cases h) (fun m hm=>by cases hm) hg m hm).1) ho
   obtain ⟨m,y,k,hm,rfl,ht⟩:=a1
   have ar:oD m { y with p:=p } k:=by
    cases m with
    | zero=>exact ht
    | succ m=>exact ht
   refine ⟨true,m,{ y with p:=p },k,hm,ar,fun K => ?_,fun K=>(hr _ _).trans rfl⟩
   unfold dh dh.e
   refine (hl _ _).trans ?_
   simp only [sS,Bool.not_true,cond_false]
   exact hu m { y with p:=p } k hm ar _ _
theorem rE {P:AV->Prop} {rec:LV->Nat->LV × LA × Nat} {w:List UInt8} {j:Nat->List UInt8} {z:Bool} (f:∀ q i c,P (ab (rec (ee w q (j i) z) c).1 (rec (ee w q (j i) z) c).2.1)):∀ (r:List (Nat × Nat)) (i:Nat) (acc:LA) (m:Nat),(∀ v∈acc,P v)->∀ v∈(cE rec w j z i acc m r).1,P v
 | [],_,_,_,h=>h
 | q::r,i,acc,m,h=>by
  rw [cE]
  refine rE f r _ _ _ (fun v A => ?_)
  rcases List.mem_append.1 A with u|u
  ·exact h v u
  ·rw [List.mem_singleton] at u;subst u;exact f q (i+1) m
theorem EC (w:List UInt8):∀ (n:Nat) (x:LV) (deep:Nat) (is:Bool) (f:Nat),FX x->oD n (cV w n x deep is f).1 (cV w n x deep is f).2.1
 | 0,x,_,_,_,h=>⟨h,rfl⟩
 | n+1,x,deep,is,f,h=>by
  rw [cV]
  split
  ·rename_i c
   have hlen:=mb (rec:=fun y c=>cV w n y (deep+1) (dG x) c) (w:=w) (cZ x is) (eM x) (fV w x) 0 [] (f+(fV w x).length)
   refine ⟨BE _ h,(by simp only [List.length_nil] at hlen;show (cE _ _ _ _ _ _ _ _).1.length<=1000;omega),fun hm j => ?_,rE (P:=fun v=>∃ N k0,v=ab N k0/\oD n N k0) (fun q i cc=>⟨_,_,rfl,EC w n _ _ _ _ (B3 _ _ _ _)⟩) _ _ _ _ (fun v m=>(by cases m))⟩
   generalize O:cE (fun y c=>cV w n y (deep+1) (dG x) c) w (cZ x is) (eM x) 0 [] (f+(fV w x).length) (fV w x)=K at hm j ⊢
   have u:K.1.isEmpty=false:=by cases h:K.1 with
    | nil=>exact absurd h j
    | cons a l=>rfl
   rw [u] at hm ⊢
   have m:∀ z:LV,(cC w z false).v=z.v:=fun z=>by
    show (if dG z then { z with e:=ez (dF w z) } else z).v=z.v
    split <;> rfl
   have A:dG (cC w x false)=dG x:=by unfold dG;rw [m]
   rw [m] at hm
   rw [A]
   cases M:dG x with
   | true=>rfl
   | false =>
    have:fV w x=[]:=by unfold fV;rw [M,if_neg (by decide),if_neg (fun e=>by have:=e.1;rw [hm] at this;revert this;decide)]
    rw [this,cE] at O
    rw [<- O] at j;exact absurd rfl j
  ·exact ⟨BE _ h,by simp,fun _ j=>absurd rfl j,fun v m=>(by cases m)⟩
theorem o5 {j:LV} {k0:LA} {n:Nat} (h:oD n j k0) (hn:n<=6) (κ : Bool->Option R) (all:LA) (ha:all.length<=1000000000) (hs:∀ u∈all,u.s.size<=10000000) :
  ∀ (r d:LA) (f:Nat),d++r=all->3*r.length<f->bp.EN cm bu b7 aR dh bR bz κ f (d.length:Int) ((ab j k0).fld 0).s ((ab j k0).fld 1).s ((ab j k0).fld 2).s ((ab j k0).fld 3).l ((ab j k0).fld 4).b ((ab j k0).fld 5).s ((ab j k0).fld 6).b ((ab j k0).fld 7).s ((ab j k0).fld 8).b ((ab j k0).fld 9).s ((ab j k0).fld 10).b ((ab j k0).fld 11).s ((ab j k0).fld 12).l ((ab j k0).fld 13).l ((ab j k0).fld 14).b ((ab j k0).fld 15).s ((ab j k0).fld 16).i ((ab j k0).fld 17).i ((ab j k0).fld 18).i ((ab j k0).fld 19).i ((ab j k0).fld 20).i ((ab j k0).fld 21).l ((ab j k0).fld 0).s ((ab j k0).fld 1).s ((ab j k0).fld 2).s ((ab j k0).fld 3).l ((ab j k0).fld 4).b ((ab j k0).fld 5).s ((ab j k0).fld 6).b ((ab j k0).fld 7).s ((ab j k0).fld 8).b ((ab j k0).fld 9).s ((ab j k0).fld 10).b ((ab j k0).fld 11).s ((ab j k0).fld 12).l ((ab j k0).fld 13).l ((ab j k0).fld 14).b ((ab j k0).fld 15).s ((ab j k0).fld 16).i ((ab j k0).fld 17).i ((ab j k0).fld 18).i ((ab j k0).fld 19).i ((ab j k0).fld 20).i ((ab j k0).fld 21).l all=κ true
 | _,_,0,_,h=>by omega
 | [],d,f+1,z,_=>by
  rw [List.append_nil] at z
  have e:bp.EN (R:=R) cm bu b7 aR dh bR bz κ (f+1)=bp.t10 dh (bp.wq cm bu b7 aR dh bR bz κ f) κ := rfl
  rw [e,bp.t10,<- z,ai (by omega)]
 | u::r,d,f0,z,hf=>by
  obtain ⟨f,rfl⟩:∃ g,f0=g+3:=⟨f0-3,by simp only [List.length_cons] at hf;omega⟩
  have hl:d.length+r.length+1=all.length:=by rw [<- z];simp;omega
  have hg:bf all (d.length:Int)=u:=eh (by rw [<- z];simp)
  have hz:=hs u (by rw [<- z];simp)
  obtain ⟨ok,m,y,k,hm,ht,p1,p2⟩:=Dg (R:=R) h (by omega) (bl u.s) (by rw [<- fx];exact hz)
  rw [iL] at p1 p2
  have ih:=o5 h hn κ all ha hs r (d++[u]) f (by rw [List.append_assoc];exact z) (by simp only [List.length_cons] at hf;omega)
  rw [show (d++[u]).length=d.length+1 by simp] at ih
  have e1:bp.EN (R:=R) cm bu b7 aR dh bR bz κ (f+3)=bp.t10 dh (bp.wq cm bu b7 aR dh bR bz κ (f+2)) κ := rfl
  have e2:bp.wq (R:=R) cm bu b7 aR dh bR bz κ (f+2)=bp.t13 bR (bp.sO cm bu b7 aR dh bR bz κ (f+1)):=rfl
  have e3:bp.sO (R:=R) cm bu b7 aR dh bR bz κ (f+1)=bp.t14 bz (bp.EN cm bu b7 aR dh bR bz κ f) κ := rfl
  rw [e1,bp.t10,al (by omega),av,ac (by omega),ac (by omega),hg]
  refine (p1 (fun b x0 x1 x2 x3 x4 x5 x6 x7 x8 x9 A M N O U V W X Y ad ae ap=>bp.wq cm bu b7 aR dh bR bz κ (f+2) (d.length:Int) b ((ab j k0).fld 0).s ((ab j k0).fld 1).s ((ab j k0).fld 2).s ((ab j k0).fld 3).l ((ab j k0).fld 4).b ((ab j k0).fld 5).s ((ab j k0).fld 6).b ((ab j k0).fld 7).s ((ab j k0).fld 8).b ((ab j k0).fld 9).s ((ab j k0).fld 10).b ((ab j k0).fld 11).s ((ab j k0).fld 12).l ((ab j k0).fld 13).l ((ab j k0).fld 14).b ((ab j k0).fld 15).s ((ab j k0).fld 16).i ((ab j k0).fld 17).i ((ab j k0).fld 18).i ((ab j k0).fld 19).i ((ab j k0).fld 20).i ((ab j k0).fld 21).l ((ab j k0).fld 0).s ((ab j k0).fld 1).s ((ab j k0).fld 2).s ((ab j k0).fld 3).l ((ab j k0).fld 4).b ((ab j k0).fld 5).s ((ab j k0).fld 6).b ((ab j k0).fld 7).s ((ab j k0).fld 8).b ((ab j k0).fld 9).s ((ab j k0).fld 10).b ((ab j k0).fld 11).s ((ab j k0).fld 12).l ((ab j k0).fld 13).l ((ab j k0).fld 14).b ((ab j k0).fld 15).s ((ab j k0).fld 16).i ((ab j k0).fld 17).i ((ab j k0).fld 18).i ((ab j k0).fld 19).i ((ab j k0).fld 20).i ((ab j k0).fld 21).l all x0 x1 x2 x4 x5 x6 x7 x8 x9 A M U V W X Y ad ae x3 N O ap)).trans ?_
  rw [e2,bp.t13,av,ac (by omega),ac (by omega),hg]
  refine (p2 (fun b x0 x1 x2 x3 x4 x5 x6 x7 x8 x9 A M N O U V W X Y ad ae ap=>bp.sO cm bu b7 aR dh bR bz κ (f+1) (d.length:Int) ok b ((ab j k0).fld 0).s ((ab j k0).fld 1).s ((ab j k0).fld 2).s ((ab j k0).fld 3).l ((ab j k0).fld 4).b ((ab j k0).fld 5).s ((ab j k0).fld 6).b ((ab j k0).fld 7).s ((ab j k0).fld 8).b ((ab j k0).fld 9).s ((ab j k0).fld 10).b ((ab j k0).fld 11).s ((ab j k0).fld 12).l ((ab j k0).fld 13).l ((ab j k0).fld 14).b ((ab j k0).fld 15).s ((ab j k0).fld 16).i ((ab j k0).fld 17).i ((ab j k0).fld 18).i ((ab j k0).fld 19).i ((ab j k0).fld 20).i ((ab j k0).fld 21).l ((ab j k0).fld 0).s ((ab j k0).fld 1).s ((ab j k0).fld 2).s ((ab j k0).fld 3).l ((ab j k0).fld 4).b ((ab j k0).fld 5).s ((ab j k0).fld 6).b ((ab j k0).fld 7).s ((ab j k0).fld 8).b ((ab j k0).fld 9).s ((ab j k0).fld 10).b ((ab j k0).fld 11).s ((ab j k0).fld 12).l ((ab j k0).fld 13).l ((ab j k0).fld 14).b ((ab j k0).fld 15).s ((ab j k0).fld 16).i ((ab j k0).fld 17).i ((ab j k0).fld 18).i ((ab j k0).fld 19).i ((ab j k0).fld 20).i ((ab j k0).fld 21).l all ((ab y k).fld 0).s ((ab y k).fld 1).s ((ab y k).fld 2).s ((ab y k).fld 4).b ((ab y k).fld 5).s ((ab y k).fld 6).b ((ab y k).fld 7).s ((ab y k).fld 8).b ((ab y k).fld 9).s ((ab y k).fld 10).b ((ab y k).fld 11).s ((ab y k).fld 14).b ((ab y k).fld 15).s ((ab y k).fld 16).i ((ab y k).fld 17).i ((ab y k).fld 18).i ((ab y k).fld 19).i ((ab y k).fld 20).i ((ab y k).fld 3).l ((ab y k).fld 12).l ((ab y k).fld 13).l ((ab y k).fld 21).l x0 x1 x2 x3 x4 x5 x6 x7 x8 x9 A M N O U V W X Y ad ae ap)).trans ?_
  rw [e3,bp.t14,show (ok == ok)=true by cases ok <;> rfl,Bool.not_true,cond_false]
  obtain ⟨w1,w2,w3⟩:=ht.wf
  refine (CJ m ag _ _ _ _ _ _ _ _ _ _ _ _ _ _ _ _ _ _ _ _ _ k _ ?_ ?_ ?_ ht.FW (by unfold ag;omega)).trans ?_
  ·show (List.map bn _).length<=1000
   rw [List.length_map];omega
  ·show (List.map bn _).length<=1000
   rw [List.length_map];omega
  ·show (bw _).length<=1000
   rw [eR];omega
  ·rw [Bool.not_true,cond_false,wrap_i64 (x:=(d.length:Int)+1) (by omega) (by omega)]
   exact ih
theorem pB (a0 a1:BA) (z:a1.size<=10000000) (κ : Bool->Option R):bp a0 a1 κ = κ true:=by
 unfold bp bp.e
 rw [known6_holds,Bool.not_true,cond_false]
 by_cases h:(a0.size:Int)>20000
 ·rw [al h]
 ·have f:(bl a0).length<=200000:=by have:=fx a0;omega
  rw [ai h,<- iL a0]
  refine (Fy _ f _).trans ((FI _ f _).trans ?_)
  have j:Gw (bl a0).length 6 (cF (bl a0)).1 (cF (bl a0)).2.1:=EA (w:=bl a0) f 6 (ee (bl a0) (0,(bl a0).length) [] false) 0 true 0 (lc (Nat.zero_le _) (Nat.le_refl _) _ _) rfl (Nat.le_add_right _ _) (by show 0+3*6<=100;omega)
  have m:oD 6 (cF (bl a0)).1 (cF (bl a0)).2.1:=EC (bl a0) 6 (ee (bl a0) (0,(bl a0).length) [] false) 0 true 0 (B3 _ _ _ _)
  obtain ⟨l,g1,g2,g3⟩:=ED (R:=R) 6 ag (cF (bl a0)).1 (cF (bl a0)).2.1 (by unfold ag;omega) (by omega) j
  have A:=El 6 (by omega)
  refine (g3 _).trans ?_
  rw [ac (by omega)]
  refine o5 m (by omega) κ (l++[AV.str a1,AV.str (⟨#[]⟩:BA)]) (by simp;omega) (fun u hu => ?_) (l++[AV.str a1,AV.str (⟨#[]⟩:BA)]) [] ag rfl (by unfold ag;simp;omega)
  rcases List.mem_append.1 hu with hu|hu
  ·have:=g2 u hu;omega
  ·simp only [List.mem_cons,List.mem_nil_iff,or_false] at hu
   rcases hu with rfl|rfl
   ·exact z
   ·show 0<=_;omega
end Go.Proofs.Ab
