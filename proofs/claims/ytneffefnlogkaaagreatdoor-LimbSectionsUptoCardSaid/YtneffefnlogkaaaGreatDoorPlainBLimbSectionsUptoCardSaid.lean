/- The plain functions of program and document say the same (conditions: those of each lemma). -/
import Derived.Test.YtneffefnlogkaaaGreatDoorPlainALimbSectionsUptoCardSaid
import Derived.KernelRfl
import Derived.Test.YtneffefnlogkaaaGreatDoorText
set_option linter.unusedVariables false
set_option linter.unusedSimpArgs false
set_option maxRecDepth 4000
open List (length_cons length_append take_length drop_drop drop_left length_nil append_assoc length_drop length_take mem_singleton append_nil length_map mem_append nil_append map_cons mem_cons drop_zero mem_nil_iff)
open Go.IntKind (wrap)
namespace Go.Proofs.Ab
open Go
variable {R:Type}
def eE:List Y2->Nat
 | []=>0
 | c::t=>(if c=13/\t.head? = some 10 then 1 else 0)+eE t
theorem vr:∀ (r:List Y2),eE r=match (fv r).2 with
  | none=>0
  | some u=>1+eE u
 | []=>rfl
 | c::t=>by
  by_cases e:c=13/\t.head? = some 10
  ·have j:=e
   obtain ⟨rfl,f⟩:=e
   rw [nA f,gj,eE,if_pos ⟨rfl,rfl⟩,eE,if_neg (by simp)]
   simp only;omega
  ·rw [fw e,eE,if_neg e,vr t,Nat.zero_add]
theorem qA (s:List Y2) (m:s.length<=1000000) (κ:Int->Y1 R):∀ (f:Nat) (r:List Y2) (n:Nat),r <:+ s->r.length<f->n+r.length<=1000000->bJ.L3 κ f (B s) (n:Int) (pl s r)=κ ((n+eE r:Nat):Int)
 | 0,r,n,_,z,_=>by omega
 | f+1,r,n,h,z,A=>by
  rw [bJ.L3,bJ.t3,iW]
  cases r with
  | nil=>rw [dL,wrap_i64 (by omega) (by omega),af (by omega)];rfl
  | cons c t =>
   have M:=eO h
   have N:=eB (s:=s) (r:=c::t)
   have j:=dZ h
   simp only [length_cons] at z A
   rw [gn h m]
   cases t with
   | nil =>
    rw [dL,af (by omega)]
    have:eE [c]=0:=by simp [eE]
    rw [this];rfl
   | cons d u =>
    have g1:=eO j
    have g2:=eB (s:=s) (r:=d::u)
    rw [ai g1,aq,ab N.1,ab M,eT h]
    have hw:wrap .i64 ((n:Int)+1)=((n+1:Nat):Int):=wrap_i64 (by omega) (by omega)
    have go:¬ (c=13/\d=10)->bJ.L3 κ f (B s) (n:Int) (pl s (d::u))=κ ((n+eE (c::d::u):Nat):Int):=fun e=>by
     rw [qA s m κ f (d::u) n j (by omega) (by omega)]
     have:eE (c::d::u)=eE (d::u):=by
      rw [eE.eq_def (c::d::u)]
      simp only
      rw [if_neg (by simpa using e),Nat.zero_add]
     rw [this]
    by_cases c1:c=13
    ·rw [jz 13 rfl c1,cond_true,aq,ab g2.1,ab g1,eT j]
     by_cases c2:d=10
     ·rw [jz 10 rfl c2,cond_true,hw,qA s m κ f (d::u) (n+1) j (by omega) (by omega)]
      have:eE (c::d::u)=1+eE (d::u):=by
       rw [eE.eq_def (c::d::u)]
       simp only
       rw [if_pos ⟨c1,by simp [c2]⟩]
      rw [this]
      congr 2;omega
     ·rw [iX 10 rfl c2,cond_false]
      exact go (fun e=>c2 e.2)
    ·rw [iX 13 rfl c1,cond_false]
     exact go (fun e=>c1 e.1)
theorem JK (s:List Y2) (j:s.length<=900000) (κ:Int->Y1 R):bJ (B s) κ=κ (eE s:Int):=by
 have key:∀ f,1000000<f->bJ.e (B s) (bJ.L3 κ f) κ=κ (eE s:Int):=fun f m=>by
  have:=qA s (by omega) κ f s 0 (List.suffix_refl _) (by omega) (by omega)
  rw [kp,Nat.zero_add] at this
  exact this
 exact key ah (by unfold ah;omega)
theorem vR (κ:Int->Y1 R):∀ (f:Nat) (r:List Y2) (n:Nat),r.length<f->n+r.length<=1000000->bX.L6 aV aO κ f (B r) (⟨#[13,10]⟩:BA) (n:Int)=κ ((n+eE r:Nat):Int)
 | 0,r,n,A,_=>by omega
 | f+1,r,n,A,O=>by
  have m:(((⟨#[13,10]⟩:BA).size:Nat):Int)=2:=rfl
  rw [bX.L6,bX.t6,show (⟨#[13,10]⟩:BA)=B [13,10] from rfl,qc r _ (by omega),nJ,vr]
  rw [show B [13,10]=(⟨#[13,10]⟩:BA) from rfl,m]
  cases e:(fv r).2 with
  | none=>simp only;rw [gy rfl];rfl
  | some u =>
   have j:=kl e
   have M:(fv r).1.length+2+u.length=r.length:=by
    have:=congrArg List.length j
    simp only [length_append,length_cons] at this;omega
   have w1:wrap .i64 (((fv r).1.length:Int)+2)=(((fv r).1.length+2:Nat):Int):=wrap_i64 (by omega) (by omega)
   have N:wrap .i64 ((n:Int)+1)=((n+1:Nat):Int):=wrap_i64 (by omega) (by omega)
   simp only
   rw [fY (by omega),cond_false,w1,N,iW,aq,ab (by omega),aq,ab (by omega),ab (by omega),Int.toNat_natCast,Int.toNat_natCast,dh,take_length]
   have:r.drop ((fv r).1.length+2)=u:=by
    have z:((fv r).1++13::10::u).drop ((fv r).1.length+2)=u:=by rw [<- drop_drop,drop_left];rfl
    rw [<- j] at z
    exact z
   rw [this,vR κ f u (n+1) (by omega) (by omega)]
   congr 2;omega
theorem JD (s:List Y2) (j:s.length<=900000) (κ:Int->Y1 R):bX (B s) (⟨#[13,10]⟩:BA) κ=κ (eE s:Int):=by
 have key:∀ f,1000000<f->bX.e aV aO (B s) (⟨#[13,10]⟩:BA) (bX.L6 aV aO κ f) κ=κ (eE s:Int):=fun f m=>by
  have:=vR κ f s 0 (by omega) (by omega)
  rw [Nat.zero_add] at this
  exact this
 exact key ah (by unfold ah;omega)
def AH (k:Nat):List Y2:=if k<10 then [UInt8.ofNat (48+k)] else [49,UInt8.ofNat (38+k)]
theorem GK (κ:BA->Y1 R):cH 1 κ=κ (⟨#[49]⟩:BA):=by kernel_rfl
theorem Gr (κ:BA->Y1 R):bp 1 κ=κ (⟨#[49]⟩:BA):=by kernel_rfl
theorem GM (κ:BA->Y1 R):cH 2 κ=κ (⟨#[50]⟩:BA):=by kernel_rfl
theorem Gs (κ:BA->Y1 R):bp 2 κ=κ (⟨#[50]⟩:BA):=by kernel_rfl
theorem GN (κ:BA->Y1 R):cH 3 κ=κ (⟨#[51]⟩:BA):=by kernel_rfl
theorem Gt (κ:BA->Y1 R):bp 3 κ=κ (⟨#[51]⟩:BA):=by kernel_rfl
theorem GO (κ:BA->Y1 R):cH 4 κ=κ (⟨#[52]⟩:BA):=by kernel_rfl
theorem Gu (κ:BA->Y1 R):bp 4 κ=κ (⟨#[52]⟩:BA):=by kernel_rfl
theorem GP (κ:BA->Y1 R):cH 5 κ=κ (⟨#[53]⟩:BA):=by kernel_rfl
theorem Gv (κ:BA->Y1 R):bp 5 κ=κ (⟨#[53]⟩:BA):=by kernel_rfl
theorem GQ (κ:BA->Y1 R):cH 6 κ=κ (⟨#[54]⟩:BA):=by kernel_rfl
theorem Gx (κ:BA->Y1 R):bp 6 κ=κ (⟨#[54]⟩:BA):=by kernel_rfl
theorem GR (κ:BA->Y1 R):cH 7 κ=κ (⟨#[55]⟩:BA):=by kernel_rfl
theorem Gy (κ:BA->Y1 R):bp 7 κ=κ (⟨#[55]⟩:BA):=by kernel_rfl
theorem GS (κ:BA->Y1 R):cH 8 κ=κ (⟨#[56]⟩:BA):=by kernel_rfl
theorem Gz (κ:BA->Y1 R):bp 8 κ=κ (⟨#[56]⟩:BA):=by kernel_rfl
theorem GU (κ:BA->Y1 R):cH 9 κ=κ (⟨#[57]⟩:BA):=by kernel_rfl
theorem GA (κ:BA->Y1 R):bp 9 κ=κ (⟨#[57]⟩:BA):=by kernel_rfl
theorem EX (κ:BA->Y1 R):cH 10 κ=κ (⟨#[49,48]⟩:BA):=by kernel_rfl
theorem EA (κ:BA->Y1 R):bp 10 κ=κ (⟨#[49,48]⟩:BA):=by kernel_rfl
theorem EY (κ:BA->Y1 R):cH 11 κ=κ (⟨#[49,49]⟩:BA):=by kernel_rfl
theorem EB (κ:BA->Y1 R):bp 11 κ=κ (⟨#[49,49]⟩:BA):=by kernel_rfl
theorem EZ (κ:BA->Y1 R):cH 12 κ=κ (⟨#[49,50]⟩:BA):=by kernel_rfl
theorem EC (κ:BA->Y1 R):bp 12 κ=κ (⟨#[49,50]⟩:BA):=by kernel_rfl
theorem E0 (κ:BA->Y1 R):cH 13 κ=κ (⟨#[49,51]⟩:BA):=by kernel_rfl
theorem ED (κ:BA->Y1 R):bp 13 κ=κ (⟨#[49,51]⟩:BA):=by kernel_rfl
theorem E1 (κ:BA->Y1 R):cH 14 κ=κ (⟨#[49,52]⟩:BA):=by kernel_rfl
theorem EE (κ:BA->Y1 R):bp 14 κ=κ (⟨#[49,52]⟩:BA):=by kernel_rfl
theorem E2 (κ:BA->Y1 R):cH 15 κ=κ (⟨#[49,53]⟩:BA):=by kernel_rfl
theorem EF (κ:BA->Y1 R):bp 15 κ=κ (⟨#[49,53]⟩:BA):=by kernel_rfl
theorem E3 (κ:BA->Y1 R):cH 16 κ=κ (⟨#[49,54]⟩:BA):=by kernel_rfl
theorem EG (κ:BA->Y1 R):bp 16 κ=κ (⟨#[49,54]⟩:BA):=by kernel_rfl
theorem C6 (κ:BA->Y1 R):∀ k:Nat,1<=k->k<=16->cH (k:Int) κ=κ (B (AH k))
 | 0,h,_=>by omega
 | 1,_,_=>GK κ
 | 2,_,_=>GM κ
 | 3,_,_=>GN κ
 | 4,_,_=>GO κ
 | 5,_,_=>GP κ
 | 6,_,_=>GQ κ
 | 7,_,_=>GR κ
 | 8,_,_=>GS κ
 | 9,_,_=>GU κ
 | 10,_,_=>EX κ
 | 11,_,_=>EY κ
 | 12,_,_=>EZ κ
 | 13,_,_=>E0 κ
 | 14,_,_=>E1 κ
 | 15,_,_=>E2 κ
 | 16,_,_=>E3 κ
 | k+17,_,h=>by omega
theorem Cv (κ:BA->Y1 R):∀ k:Nat,1<=k->k<=16->bp (k:Int) κ=κ (B (AH k))
 | 0,h,_=>by omega
 | 1,_,_=>Gr κ
 | 2,_,_=>Gs κ
 | 3,_,_=>Gt κ
 | 4,_,_=>Gu κ
 | 5,_,_=>Gv κ
 | 6,_,_=>Gx κ
 | 7,_,_=>Gy κ
 | 8,_,_=>Gz κ
 | 9,_,_=>GA κ
 | 10,_,_=>EA κ
 | 11,_,_=>EB κ
 | 12,_,_=>EC κ
 | 13,_,_=>ED κ
 | 14,_,_=>EE κ
 | 15,_,_=>EF κ
 | 16,_,_=>EG κ
 | k+17,_,h=>by omega
theorem pG (k:Nat):(AH k).length<=2:=by unfold AH;split <;> simp
def yT (p:List Y2) (k:Nat):List Y2:=if p=[] then AH k else p++46::AH k
theorem uX (p:List Y2) (k:Nat):(yT p k).length<=p.length+3:=by
 have:=pG k
 unfold yT
 split
 ·omega
 ·simp;omega
theorem H9 (p:List Y2) (m:p.length<=1000000) (k:Nat) (f:1<=k) (j:k<=16) (κ:BA->Y1 R):bt (B p) (k:Int) κ=κ (B (yT p k)):=by
 have:=pG k
 unfold bt bt.e yT
 rw [dU,EJ]
 by_cases c:p=[]
 ·rw [decide_eq_true c,cond_true,if_pos c,Cv _ k f j]
 ·rw [decide_eq_false c,cond_false,if_neg c,show (⟨#[46]⟩:BA)=B [46] from rfl,b6,b6,ab (by simp only [length_cons,length_nil];omega),Cv _ k f j,fX,b6,b6,ab (by simp only [length_append,length_cons,length_nil];omega),fX,append_assoc];rfl
def db (x:LV) (is:Y3) (k:Nat):List Y2:=if dI x then (if is then yT x.p k else x.p) else yT x.p k
theorem FP (x:LV) (k:LA) (κ:Y3->BA->BA->BA->LA->T0 R):aD (B x.p) (B x.v.ty) (B x.v.sub) (x.v.ps.map bw) x.v.i0 (B x.v.i1) x.v.a0 (B x.v.a1) (du x.v.c1) (B x.v.c1) (du x.v.p1) (B x.v.p1) (x.v.pp.map bw) (bH x.v.lg) x.v.w0 (B x.v.w1) (x.a:Int) (x.b:Int) (x.c:Int) (x.d:Int) (x.e:Int) k κ=κ (dI x) (B x.p) (B x.v.ty) (B x.v.sub) (x.v.ps.map bw) x.v.i0 (B x.v.i1) x.v.a0 (B x.v.a1) (du x.v.c1) (B x.v.c1) (du x.v.p1) (B x.v.p1) (x.v.pp.map bw) (bH x.v.lg) x.v.w0 (B x.v.w1) (x.a:Int) (x.b:Int) (x.c:Int) (x.d:Int) (x.e:Int) k:=by
 have hm:∀ a b:List Y2,decide (B a=B b)=decide (a=b):=fun a b=>decide_eq_decide.2 eg
 unfold aD aD.e
 rw [show (⟨#[109,101,115,115,97,103,101]⟩:BA)=B gT from rfl,show (⟨#[114,102,99,56,50,50]⟩:BA)=B mK from rfl,hm,hm]
 unfold dI
 cases decide (x.v.ty=gT) with
 | true=>rw [cond_true,Bool.true_and]
 | false=>rw [cond_false,Bool.false_and]
theorem FQ (x:LV) (k:LA) (κ:Y3->BA->BA->BA->LA->T0 R):an (B x.p) (B x.v.ty) (B x.v.sub) (x.v.ps.map bw) x.v.i0 (B x.v.i1) x.v.a0 (B x.v.a1) (du x.v.c1) (B x.v.c1) (du x.v.p1) (B x.v.p1) (x.v.pp.map bw) (bH x.v.lg) x.v.w0 (B x.v.w1) (x.a:Int) (x.b:Int) (x.c:Int) (x.d:Int) (x.e:Int) k κ=κ (dI x) (B x.p) (B x.v.ty) (B x.v.sub) (x.v.ps.map bw) x.v.i0 (B x.v.i1) x.v.a0 (B x.v.a1) (du x.v.c1) (B x.v.c1) (du x.v.p1) (B x.v.p1) (x.v.pp.map bw) (bH x.v.lg) x.v.w0 (B x.v.w1) (x.a:Int) (x.b:Int) (x.c:Int) (x.d:Int) (x.e:Int) k:=by
 have hm:∀ a b:List Y2,decide (B a=B b)=decide (a=b):=fun a b=>decide_eq_decide.2 eg
 unfold an an.e
 rw [show (⟨#[109,101,115,115,97,103,101]⟩:BA)=B gT from rfl,show (⟨#[114,102,99,56,50,50]⟩:BA)=B mK from rfl,hm,hm]
 unfold dI
 cases decide (x.v.ty=gT) with
 | true=>rw [cond_true,Bool.true_and]
 | false=>rw [cond_false,Bool.false_and]
theorem IW (x:LV) (z:x.p.length<=1000000) (l:LA) (deep:Nat) (ins:Y3) (k:Nat) (m:1<=k) (u:k<=16) (κ:BA->BA->BA->BA->LA->T0 R) :
  cd (B x.p) (B x.v.ty) (B x.v.sub) (x.v.ps.map bw) x.v.i0 (B x.v.i1) x.v.a0 (B x.v.a1) (du x.v.c1) (B x.v.c1) (du x.v.p1) (B x.v.p1) (x.v.pp.map bw) (bH x.v.lg) x.v.w0 (B x.v.w1) (x.a:Int) (x.b:Int) (x.c:Int) (x.d:Int) (x.e:Int) l (deep:Int) ins (k:Int) κ=κ (B (db x (ins||decide (deep=0)) k)) (B x.p) (B x.v.ty) (B x.v.sub) (x.v.ps.map bw) x.v.i0 (B x.v.i1) x.v.a0 (B x.v.a1) (du x.v.c1) (B x.v.c1) (du x.v.p1) (B x.v.p1) (x.v.pp.map bw) (bH x.v.lg) x.v.w0 (B x.v.w1) (x.a:Int) (x.b:Int) (x.c:Int) (x.d:Int) (x.e:Int) l:=by
 have A:=pG k
 have low:∀ κ:BA->Y1 R,(bif decide (B x.p=⟨#[]⟩) then cH (k:Int) κ else (bo (decide ((B x.p).size+(⟨#[46]⟩:BA).size<=9223372036854775807)) (cH (k:Int) (fun r=>(bo (decide ((B x.p++(⟨#[46]⟩:BA)).size+r.size<=9223372036854775807)) (κ ((B x.p++(⟨#[46]⟩:BA))++r)))))))=κ (B (yT x.p k)):=by
  intro κ
  unfold yT
  rw [dU,EJ]
  by_cases c:x.p=[]
  ·rw [decide_eq_true c,cond_true,if_pos c,C6 _ k m u]
  ·rw [decide_eq_false c,cond_false,if_neg c,show (⟨#[46]⟩:BA)=B [46] from rfl,b6,b6,ab (by simp only [length_cons,length_nil];omega),C6 _ k m u,fX,b6,b6,ab (by simp only [length_append,length_cons,length_nil];omega),fX,append_assoc];rfl
 unfold cd cd.e
 rw [FP]
 unfold db
 have f:=low (fun y=>κ y (B x.p) (B x.v.ty) (B x.v.sub) (x.v.ps.map bw) x.v.i0 (B x.v.i1) x.v.a0 (B x.v.a1) (du x.v.c1) (B x.v.c1) (du x.v.p1) (B x.v.p1) (x.v.pp.map bw) (bH x.v.lg) x.v.w0 (B x.v.w1) (x.a:Int) (x.b:Int) (x.c:Int) (x.d:Int) (x.e:Int) l)
 cases hm:dI x with
 | false =>
  rw [cond_false,if_neg (by decide)]
  exact f
 | true =>
  rw [cond_true,if_pos rfl]
  by_cases j:deep=0
  ·rw [af (by omega),decide_eq_true j,Bool.or_true,if_pos rfl]
   exact f
  ·rw [ai (by omega),decide_eq_false j,Bool.or_false]
   cases ins with
   | false=>rw [Bool.not_false,cond_true,if_neg (by decide)]
   | true =>
    rw [Bool.not_true,cond_false,if_pos rfl]
    exact f
mutual
theorem Cw:∀ (a:AV),HE a a=true
 | .no=>rfl
 | .int x=>by show decide (x=x)=true;simp
 | .bool x=>by show (x == x)=true;simp
 | .str x=>by show decide (x=x)=true;simp
 | .sl x=>je x
 | .agg x=>je x
theorem je:∀ (a:LA),jE a a=true
 | []=>rfl
 | x::l=>by show (HE x x&&jE l l)=true;rw [Cw x,je l];rfl
end
def CT:SV->Y3
 | .no | .undef | .int _ _ | .bool _ | .str _ | .nil | .ro _ _ _ | .own _ | .ptr _ _=>true
 | _=>false
theorem CA {x:SV} (h:CT x=true):Hq x x=true:=by
 cases x <;> first|rfl|(cases h;done)|skip
 ·show (decide (_=_)&&decide (_=_))=true;simp
 ·show (_ == _)=true;simp
 ·show decide (_=_)=true;simp
 ·show (Nat.beq _ _&&(jE _ _&&(_ == _)))=true;rw [Nat.beq_refl,je];simp
 ·show Nat.beq _ _=true;rw [Nat.beq_refl]
 ·show (Nat.beq _ _&&Nat.beq _ _)=true;rw [Nat.beq_refl,Nat.beq_refl];rfl
def pZ:List SV->Y3
 | []=>true
 | x::l=>bif CT x then pZ l else false
theorem nl:∀ {l:List SV},pZ l=true->lp l l=true
 | [],_=>rfl
 | x::l,h=>by
  rw [pZ] at h
  cases f:CT x with
  | false=>rw [f] at h;cases h
  | true =>
   rw [f,cond_true] at h
   show (Hq x x&&lp l l)=true
   rw [CA f,nl h];rfl
def CS:Obj->Y3
 | .row _ _ _=>true
 | .var _ l=>pZ l
 | _=>false
def uj:List (Nat × Obj)->Y3
 | []=>true
 | (_,o)::l=>bif CS o then uj l else false
theorem Cz {o:Obj} (h:CS o=true):Hp o o=true:=by
 cases o <;> first|(cases h;done)|skip
 ·show (Nat.beq _ _&&(jE _ _&&(_ == _)))=true;rw [Nat.beq_refl,je];simp
 ·show (Nat.beq _ _&&lp _ _)=true
  rw [Nat.beq_refl,nl h];rfl
theorem sc:∀ {l:List (Nat × Obj)},uj l=true->vt l l=true
 | [],_=>rfl
 | (n,o)::l,h=>by
  rw [uj] at h
  cases f:CS o with
  | false=>rw [f] at h;cases h
  | true =>
   rw [f,cond_true] at h
   show (Nat.beq n n&&(Hp o o&&vt l l))=true
   rw [Nat.beq_refl,Cz f,sc h];rfl
theorem AL {s:St} (f:pZ s.slots=true) (j:uj s.objs=true):CC s s=true:=by
 show (lp s.slots s.slots&&(vt s.objs s.objs&&Nat.beq s.next s.next))=true
 rw [nl f,sc j,Nat.beq_refl];rfl
theorem Bt (l:LA) (x y:AV):eF (l++[x]) (l.length:Int) y=l++[y]:=iR l x y [] l.length rfl
def ac (y:LV) (k:LA):AV := .agg [.str (B y.p),.str (B y.v.ty),.str (B y.v.sub),.sl (y.v.ps.map bw),.bool y.v.i0,.str (B y.v.i1),.bool y.v.a0,.str (B y.v.a1),.bool (du y.v.c1),.str (B y.v.c1),.bool (du y.v.p1),.str (B y.v.p1),.sl (y.v.pp.map bw),.sl (bH y.v.lg),.bool y.v.w0,.str (B y.v.w1),.int (y.a:Int),.int (y.b:Int),.int (y.c:Int),.int (y.d:Int),.int (y.e:Int),.sl k]
def IC:List Y2:=[97,112,112,108,105,99,97,116,105,111,110]
def I0:List Y2:=[111,99,116,101,116,45,115,116,114,101,97,109]
def vm:List Y2:=[100,105,103,101,115,116]
def gk (x:LV):LV:={ x with v:={ x.v with ty:=IC,sub:=I0,ps:=[] } }
def eR (x:LV):Y3:=decide (x.v.ty=rB)&&decide (x.v.sub=vm)
def cI (w:List Y2) (x:LV) (em:Y3):LV:=
 if em then (if x.v.ty=ou then { x with e:=eE (dH w x) } else if dI x=true∨x.v.ty=rB then gk x else x)
 else (if dI x then { x with e:=eE (dH w x) } else x)
def lO (w:List Y2) (q:Nat × Nat):List Y2:=(w.take q.2).drop q.1
def er (w:List Y2) (q:Nat × Nat) (p:List Y2) (f:Y3):LV where
 p:=p
 v:=A0 (kY (lO w q)) f
 a:=q.1
 b:=q.1+(kY (lO w q)).length
 c:=q.1+(kY (lO w q)).length
 d:=q.2
 e:=0
def cM (rec:LV->Nat->LV × LA × Nat) (w:List Y2) (j:Nat->List Y2) (m:Y3):Nat->LA->Nat->List (Nat × Nat)->LA × Nat
 | _,acc,f,[]=>(acc,f)
 | i,acc,f,q::r=>cM rec w j m (i+1) (acc++[ac (rec (er w q (j (i+1)) m) f).1 (rec (er w q (j (i+1)) m) f).2.1]) (rec (er w q (j (i+1)) m) f).2.2 r
def cZ (w:List Y2):Nat->LV->Nat->Y3->Nat->LV × LA × Nat
 | 0,x,_,_,f=>(x,[],f)
 | n+1,x,deep,is,f =>
  if deep<5/\f+(gd w x).length<=16 then
   (cI w x (cM (fun y c=>cZ w n y (deep+1) (dI x) c) w (db x is) (eR x) 0 [] (f+(gd w x).length) (gd w x)).1.isEmpty,
    cM (fun y c=>cZ w n y (deep+1) (dI x) c) w (db x is) (eR x) 0 [] (f+(gd w x).length) (gd w x))
  else (cI w x true,[],f)
def Dw (w:List Y2) (x:LV):Prop:=x.c<=x.d/\x.d<=w.length/\rH x.v.ps/\x.v.ps.length<=12
theorem jt {w:List Y2} {q:Nat × Nat} (f:q.1<=q.2) (j:q.2<=w.length):(lO w q).length=q.2-q.1:=by
 unfold lO;rw [length_drop,length_take];omega
theorem lB {w:List Y2} {q:Nat × Nat} (u:q.1<=q.2) (f:q.2<=w.length) (p:List Y2) (j:Y3):Dw w (er w q p j):=by
 have z:=jt u f
 have A:=uo (lO w q)
 have m:=xg (kY (lO w q)) j
 refine ⟨?_,f,m.1,m.2⟩
 show q.1+(kY (lO w q)).length<=q.2
 omega
theorem yv {w:List Y2} {x:LV} (hw:w.length<=200000) (h:Dw w x):∀ q∈gd w x,q.1<=q.2/\q.2<=w.length:=by
 obtain ⟨j,m,_,_⟩:=h
 have u:(dH w x).length=x.d-x.c:=by unfold dH;rw [length_drop,length_take];omega
 intro q f
 unfold gd at f
 split at f
 ·split at f
  ·rw [mem_singleton] at f
   subst f
   exact ⟨j,m⟩
  ·cases f
 ·split at f
  ·obtain ⟨p,z,rfl⟩:=List.mem_map.1 f
   have:=uJ (gx x.v.ps) (dH w x) (by omega) _ none (dH w x) (Nat.le_refl _) (List.suffix_refl _) (fun k e=>by cases e) p z
   simp only
   omega
  ·cases f
theorem vP {rec:LV->Nat->LV × LA × Nat} {w:List Y2} (j:∀ y c,c<=16->(rec y c).2.2<=16) (m:Nat->List Y2) (u:Y3):∀ (r:List (Nat × Nat)) (i:Nat) (acc:LA) (f:Nat),f<=16->(cM rec w m u i acc f r).2<=16
 | [],_,_,f,h=>h
 | q::r,i,acc,f,h=>by
  rw [cM]
  exact vP j m u r _ _ _ (j _ _ h)
theorem yr (w:List Y2):∀ (n:Nat) (x:LV) (deep:Nat) (is:Y3) (f:Nat),f<=16->(cZ w n x deep is f).2.2<=16
 | 0,_,_,_,_,h=>h
 | n+1,x,deep,is,f,h=>by
  rw [cZ]
  split
  ·rename_i c
   exact vP (fun y c h=>yr w n y _ _ c h) _ _ _ _ _ _ c.2
  ·exact h
theorem mC {rec:LV->Nat->LV × LA × Nat} {w:List Y2} (j:Nat->List Y2) (m:Y3):∀ (r:List (Nat × Nat)) (i:Nat) (acc:LA) (f:Nat),(cM rec w j m i acc f r).1.length=acc.length+r.length
 | [],_,_,f=>rfl
 | q::r,i,acc,f=>by
  rw [cM,mC j m r]
  simp;omega
theorem zT (x:LV) (is:Y3) (k:Nat):(db x is k).length<=x.p.length+3:=by
 have:=uX x.p k
 unfold db
 split
 ·split <;> omega
 ·omega
theorem zD (M:al.F R) {w:List Y2} {x:LV} (N:Dw w x) (hw:w.length<=200000) (j:Nat) (m:BA->Int->BA->BA->BA->LA->T0 R) (u:BA->Int->BA->BA->BA->T0 R) (A:∀ (z:LV) (c:Int) (k:LA),u (B w) c (B z.p) (B z.v.ty) (B z.v.sub) z.v.i0 (B z.v.i1) z.v.a0 (B z.v.a1) (du z.v.c1) (B z.v.c1) (du z.v.p1) (B z.v.p1) (z.v.pp.map bw) (bH z.v.lg) z.v.w0 (B z.v.w1) (z.a:Int) (z.b:Int) (z.c:Int) (z.d:Int) (z.e:Int) k=m (B w) c (B z.p) (B z.v.ty) (B z.v.sub) ([]:LA) z.v.i0 (B z.v.i1) z.v.a0 (B z.v.a1) (du z.v.c1) (B z.v.c1) (du z.v.p1) (B z.v.p1) (z.v.pp.map bw) (bH z.v.lg) z.v.w0 (B z.v.w1) (z.a:Int) (z.b:Int) (z.c:Int) (z.d:Int) (z.e:Int) k) (f:Nat) (k:LA) :
  al.oM aH aE bX an cd aD M m u (f+1) (B x.p) (B x.v.ty) (B x.v.sub) (x.v.ps.map bw) x.v.i0 (B x.v.i1) x.v.a0 (B x.v.a1) (du x.v.c1) (B x.v.c1) (du x.v.p1) (B x.v.p1) (x.v.pp.map bw) (bH x.v.lg) x.v.w0 (B x.v.w1) (x.a:Int) (x.b:Int) (x.c:Int) (x.d:Int) (x.e:Int) k (B w) (j:Int)=m (B w) (j:Int) (B (cI w x k.isEmpty).p) (B (cI w x k.isEmpty).v.ty) (B (cI w x k.isEmpty).v.sub) ((cI w x k.isEmpty).v.ps.map bw) (cI w x k.isEmpty).v.i0 (B (cI w x k.isEmpty).v.i1) (cI w x k.isEmpty).v.a0 (B (cI w x k.isEmpty).v.a1) (du (cI w x k.isEmpty).v.c1) (B (cI w x k.isEmpty).v.c1) (du (cI w x k.isEmpty).v.p1) (B (cI w x k.isEmpty).v.p1) ((cI w x k.isEmpty).v.pp.map bw) (bH (cI w x k.isEmpty).v.lg) (cI w x k.isEmpty).v.w0 (B (cI w x k.isEmpty).v.w1) ((cI w x k.isEmpty).a:Int) ((cI w x k.isEmpty).b:Int) ((cI w x k.isEmpty).c:Int) ((cI w x k.isEmpty).d:Int) ((cI w x k.isEmpty).e:Int) k:=by
 obtain ⟨U,V,_,_⟩:=N
 have hm:∀ a b:List Y2,decide (B a=B b)=decide (a=b):=fun a b=>decide_eq_decide.2 eg
 have O:(dH w x).length=x.d-x.c:=by unfold dH;rw [length_drop,length_take];omega
 rw [al.oM,al.t15,aq,ab (by omega),aq,ab (by omega),ab (by rw [iW];omega),Int.toNat_natCast,Int.toNat_natCast,dh]
 show bX (B (dH w x)) _ _=_
 rw [JD _ (by omega),FQ]
 cases k with
 | cons a k =>
  rw [ai (by simp only [length_cons];omega)]
  have:cI w x (a::k).isEmpty=if dI x then { x with e:=eE (dH w x) } else x:=rfl
  rw [this]
  cases dI x with
  | true=>rfl
  | false=>rfl
 | nil =>
  rw [af (by simp)]
  have:cI w x ([]:LA).isEmpty=(if x.v.ty=ou then { x with e:=eE (dH w x) } else if dI x=true∨x.v.ty=rB then gk x else x):=rfl
  rw [this,show (⟨#[116,101,120,116]⟩:BA)=B ou from rfl,hm]
  by_cases c1:x.v.ty=ou
  ·rw [decide_eq_true c1,cond_true,if_pos c1]
  ·rw [decide_eq_false c1,cond_false,if_neg c1,FQ,show (⟨#[109,117,108,116,105,112,97,114,116]⟩:BA)=B rB from rfl,hm]
   have off:=A (gk x) (j:Int) []
   cases c2:dI x with
   | true=>rw [cond_true,if_pos (.inl rfl)];exact off
   | false =>
    rw [cond_false]
    by_cases c3:x.v.ty=rB
    ·rw [decide_eq_true c3,cond_true,if_pos (.inr c3)];exact off
    ·rw [decide_eq_false c3,cond_false,if_neg (fun h=>h.elim (fun h=>by cases h) c3)]
theorem vU (O:al.F R) {w:List Y2} {x:LV} (hx:Dw w x) (hw:w.length<=200000) (hp:x.p.length<=1000) (deep:Nat) (ad:deep<=100) (ins:Y3) (rec:LV->Nat->LV × LA × Nat) (U:∀ y c,c<=16->(rec y c).2.2<=16)
  (M:∀ (y:LV) (j:Nat) (m:BA->Int->BA->BA->BA->LA->T0 R) (u:BA->Int->BA->BA->BA->T0 R),Dw w y->y.p.length<=x.p.length+3->j<=16->(∀ (z:LV) (c:Int) (k:LA),u (B w) c (B z.p) (B z.v.ty) (B z.v.sub) z.v.i0 (B z.v.i1) z.v.a0 (B z.v.a1) (du z.v.c1) (B z.v.c1) (du z.v.p1) (B z.v.p1) (z.v.pp.map bw) (bH z.v.lg) z.v.w0 (B z.v.w1) (z.a:Int) (z.b:Int) (z.c:Int) (z.d:Int) (z.e:Int) k=m (B w) c (B z.p) (B z.v.ty) (B z.v.sub) ([]:LA) z.v.i0 (B z.v.i1) z.v.a0 (B z.v.a1) (du z.v.c1) (B z.v.c1) (du z.v.p1) (B z.v.p1) (z.v.pp.map bw) (bH z.v.lg) z.v.w0 (B z.v.w1) (z.a:Int) (z.b:Int) (z.c:Int) (z.d:Int) (z.e:Int) k)->O (B w) (j:Int) (B y.p) (B y.v.ty) (B y.v.sub) (y.v.ps.map bw) y.v.i0 (B y.v.i1) y.v.a0 (B y.v.a1) (du y.v.c1) (B y.v.c1) (du y.v.p1) (B y.v.p1) (y.v.pp.map bw) (bH y.v.lg) y.v.w0 (B y.v.w1) (y.a:Int) (y.b:Int) (y.c:Int) (y.d:Int) (y.e:Int) ((deep+1:Nat):Int) (dI x) m u=m (B w) ((rec y j).2.2:Int) (B (rec y j).1.p) (B (rec y j).1.v.ty) (B (rec y j).1.v.sub) ((rec y j).1.v.ps.map bw) (rec y j).1.v.i0 (B (rec y j).1.v.i1) (rec y j).1.v.a0 (B (rec y j).1.v.a1) (du (rec y j).1.v.c1) (B (rec y j).1.v.c1) (du (rec y j).1.v.p1) (B (rec y j).1.v.p1) ((rec y j).1.v.pp.map bw) (bH (rec y j).1.v.lg) (rec y j).1.v.w0 (B (rec y j).1.v.w1) ((rec y j).1.a:Int) ((rec y j).1.b:Int) ((rec y j).1.c:Int) ((rec y j).1.d:Int) ((rec y j).1.e:Int) (rec y j).2.1)
  (m:BA->Int->BA->BA->BA->LA->T0 R) (u:BA->Int->BA->BA->BA->T0 R) (V:∀ (z:LV) (c:Int) (k:LA),u (B w) c (B z.p) (B z.v.ty) (B z.v.sub) z.v.i0 (B z.v.i1) z.v.a0 (B z.v.a1) (du z.v.c1) (B z.v.c1) (du z.v.p1) (B z.v.p1) (z.v.pp.map bw) (bH z.v.lg) z.v.w0 (B z.v.w1) (z.a:Int) (z.b:Int) (z.c:Int) (z.d:Int) (z.e:Int) k=m (B w) c (B z.p) (B z.v.ty) (B z.v.sub) ([]:LA) z.v.i0 (B z.v.i1) z.v.a0 (B z.v.a1) (du z.v.c1) (B z.v.c1) (du z.v.p1) (B z.v.p1) (z.v.pp.map bw) (bH z.v.lg) z.v.w0 (B z.v.w1) (z.a:Int) (z.b:Int) (z.c:Int) (z.d:Int) (z.e:Int) k) (P:List (Nat × Nat)) (hP:P.length<=16) (W:∀ q∈P,q.1<=q.2/\q.2<=w.length) :
  ∀ (r d:List (Nat × Nat)) (acc:LA) (j f:Nat),d++r=P->acc.length=d.length->j<=16->3*r.length+2<=f ->
  (al.M5 aH aE bX an cd aD O m u f).1 (deep:Int) ins (P.length:Int) (d.length:Int) (B x.p) (B x.v.ty) (B x.v.sub) (x.v.ps.map bw) x.v.i0 (B x.v.i1) x.v.a0 (B x.v.a1) (du x.v.c1) (B x.v.c1) (du x.v.p1) (B x.v.p1) (x.v.pp.map bw) (bH x.v.lg) x.v.w0 (B x.v.w1) (x.a:Int) (x.b:Int) (x.c:Int) (x.d:Int) (x.e:Int) (B w) (j:Int) acc (P.map (fN 0))=m (B w) ((cM rec w (db x (ins||decide (deep=0))) (eR x) d.length acc j r).2:Int) (B (cI w x (cM rec w (db x (ins||decide (deep=0))) (eR x) d.length acc j r).1.isEmpty).p) (B (cI w x (cM rec w (db x (ins||decide (deep=0))) (eR x) d.length acc j r).1.isEmpty).v.ty) (B (cI w x (cM rec w (db x (ins||decide (deep=0))) (eR x) d.length acc j r).1.isEmpty).v.sub) ((cI w x (cM rec w (db x (ins||decide (deep=0))) (eR x) d.length acc j r).1.isEmpty).v.ps.map bw) (cI w x (cM rec w (db x (ins||decide (deep=0))) (eR x) d.length acc j r).1.isEmpty).v.i0 (B (cI w x (cM rec w (db x (ins||decide (deep=0))) (eR x) d.length acc j r).1.isEmpty).v.i1) (cI w x (cM rec w (db x (ins||decide (deep=0))) (eR x) d.length acc j r).1.isEmpty).v.a0 (B (cI w x (cM rec w (db x (ins||decide (deep=0))) (eR x) d.length acc j r).1.isEmpty).v.a1) (du (cI w x (cM rec w (db x (ins||decide (deep=0))) (eR x) d.length acc j r).1.isEmpty).v.c1) (B (cI w x (cM rec w (db x (ins||decide (deep=0))) (eR x) d.length acc j r).1.isEmpty).v.c1) (du (cI w x (cM rec w (db x (ins||decide (deep=0))) (eR x) d.length acc j r).1.isEmpty).v.p1) (B (cI w x (cM rec w (db x (ins||decide (deep=0))) (eR x) d.length acc j r).1.isEmpty).v.p1) ((cI w x (cM rec w (db x (ins||decide (deep=0))) (eR x) d.length acc j r).1.isEmpty).v.pp.map bw) (bH (cI w x (cM rec w (db x (ins||decide (deep=0))) (eR x) d.length acc j r).1.isEmpty).v.lg) (cI w x (cM rec w (db x (ins||decide (deep=0))) (eR x) d.length acc j r).1.isEmpty).v.w0 (B (cI w x (cM rec w (db x (ins||decide (deep=0))) (eR x) d.length acc j r).1.isEmpty).v.w1) ((cI w x (cM rec w (db x (ins||decide (deep=0))) (eR x) d.length acc j r).1.isEmpty).a:Int) ((cI w x (cM rec w (db x (ins||decide (deep=0))) (eR x) d.length acc j r).1.isEmpty).b:Int) ((cI w x (cM rec w (db x (ins||decide (deep=0))) (eR x) d.length acc j r).1.isEmpty).c:Int) ((cI w x (cM rec w (db x (ins||decide (deep=0))) (eR x) d.length acc j r).1.isEmpty).d:Int) ((cI w x (cM rec w (db x (ins||decide (deep=0))) (eR x) d.length acc j r).1.isEmpty).e:Int) (cM rec w (db x (ins||decide (deep=0))) (eR x) d.length acc j r).1
 | [],d,acc,j,f,N,ha,hc,hf=>by
  obtain ⟨g,rfl⟩:∃ g,f=g+2:=⟨f-2,by omega⟩
  rw [append_nil] at N
  rw [al.M5]
  simp only
  rw [al.t5,N,af (by omega)]
  exact zD O hx hw j m u V g acc
 | q::r,d,acc,j,f,N,ha,hc,hf=>by
  simp only [length_cons] at hf
  obtain ⟨g,rfl⟩:∃ g,f=g+3:=⟨f-3,by omega⟩
  have hm:∀ a b:List Y2,decide (B a=B b)=decide (a=b):=fun a b=>decide_eq_decide.2 eg
  have hlen:d.length+r.length+1=P.length:=by rw [<- N];simp;omega
  have hq:q∈P:=by rw [<- N];simp
  obtain ⟨q1,q2⟩:=W q hq
  have X:bi (P.map (fN 0)) (d.length:Int)=fN 0 q:=eD (by rw [List.getElem?_map,<- N];simp)
  have ae:(P.map (fN 0)).length=P.length:=length_map ..
  have f0:((fN 0 q).fld 0).i=(q.1:Int):=by show ((0+q.1:Nat):Int)=_;rw [Nat.zero_add]
  have f1:((fN 0 q).fld 1).i=(q.2:Int):=by show ((0+q.2:Nat):Int)=_;rw [Nat.zero_add]
  have Y:=jt q1 q2
  have w1:wrap .i64 ((d.length:Int)+1)=((d.length+1:Nat):Int):=wrap_i64 (by omega) (by omega)
  have w2:wrap .i64 ((deep:Int)+1)=((deep+1:Nat):Int):=wrap_i64 (by omega) (by omega)
  have A:=fun (dg:Y3)=>FR (R:=R) (w:=w) (s:=lO w q) (F:=q.1) (by rw [Y,show q.1+(q.2-q.1)=q.2 by omega];rfl) (by omega) hw (j:Int) dg
  rw [Y,show q.1+(q.2-q.1)=q.2 by omega] at A
  have body:(al.M5 aH aE bX an cd aD O m u (g+2)).2.1 (deep:Int) ins (d.length:Int) (P.length:Int) (d.length:Int) (B x.p) (B x.v.ty) (B x.v.sub) (x.v.ps.map bw) x.v.i0 (B x.v.i1) x.v.a0 (B x.v.a1) (du x.v.c1) (B x.v.c1) (du x.v.p1) (B x.v.p1) (x.v.pp.map bw) (bH x.v.lg) x.v.w0 (B x.v.w1) (x.a:Int) (x.b:Int) (x.c:Int) (x.d:Int) (x.e:Int) (B w) (j:Int) acc (B []) (B (er w q (db x (ins||decide (deep=0)) (d.length+1)) (eR x)).v.ty) (B (er w q (db x (ins||decide (deep=0)) (d.length+1)) (eR x)).v.sub) ((er w q (db x (ins||decide (deep=0)) (d.length+1)) (eR x)).v.ps.map bw) (er w q (db x (ins||decide (deep=0)) (d.length+1)) (eR x)).v.i0 (B (er w q (db x (ins||decide (deep=0)) (d.length+1)) (eR x)).v.i1) (er w q (db x (ins||decide (deep=0)) (d.length+1)) (eR x)).v.a0 (B (er w q (db x (ins||decide (deep=0)) (d.length+1)) (eR x)).v.a1) (du (er w q (db x (ins||decide (deep=0)) (d.length+1)) (eR x)).v.c1) (B (er w q (db x (ins||decide (deep=0)) (d.length+1)) (eR x)).v.c1) (du (er w q (db x (ins||decide (deep=0)) (d.length+1)) (eR x)).v.p1) (B (er w q (db x (ins||decide (deep=0)) (d.length+1)) (eR x)).v.p1) ((er w q (db x (ins||decide (deep=0)) (d.length+1)) (eR x)).v.pp.map bw) (bH (er w q (db x (ins||decide (deep=0)) (d.length+1)) (eR x)).v.lg) (er w q (db x (ins||decide (deep=0)) (d.length+1)) (eR x)).v.w0 (B (er w q (db x (ins||decide (deep=0)) (d.length+1)) (eR x)).v.w1) ((er w q (db x (ins||decide (deep=0)) (d.length+1)) (eR x)).a:Int) ((er w q (db x (ins||decide (deep=0)) (d.length+1)) (eR x)).b:Int) ((er w q (db x (ins||decide (deep=0)) (d.length+1)) (eR x)).c:Int) ((er w q (db x (ins||decide (deep=0)) (d.length+1)) (eR x)).d:Int) ((er w q (db x (ins||decide (deep=0)) (d.length+1)) (eR x)).e:Int) (P.map (fN 0))=m (B w) ((cM rec w (db x (ins||decide (deep=0))) (eR x) d.length acc j (q::r)).2:Int) (B (cI w x (cM rec w (db x (ins||decide (deep=0))) (eR x) d.length acc j (q::r)).1.isEmpty).p) (B (cI w x (cM rec w (db x (ins||decide (deep=0))) (eR x) d.length acc j (q::r)).1.isEmpty).v.ty) (B (cI w x (cM rec w (db x (ins||decide (deep=0))) (eR x) d.length acc j (q::r)).1.isEmpty).v.sub) ((cI w x (cM rec w (db x (ins||decide (deep=0))) (eR x) d.length acc j (q::r)).1.isEmpty).v.ps.map bw) (cI w x (cM rec w (db x (ins||decide (deep=0))) (eR x) d.length acc j (q::r)).1.isEmpty).v.i0 (B (cI w x (cM rec w (db x (ins||decide (deep=0))) (eR x) d.length acc j (q::r)).1.isEmpty).v.i1) (cI w x (cM rec w (db x (ins||decide (deep=0))) (eR x) d.length acc j (q::r)).1.isEmpty).v.a0 (B (cI w x (cM rec w (db x (ins||decide (deep=0))) (eR x) d.length acc j (q::r)).1.isEmpty).v.a1) (du (cI w x (cM rec w (db x (ins||decide (deep=0))) (eR x) d.length acc j (q::r)).1.isEmpty).v.c1) (B (cI w x (cM rec w (db x (ins||decide (deep=0))) (eR x) d.length acc j (q::r)).1.isEmpty).v.c1) (du (cI w x (cM rec w (db x (ins||decide (deep=0))) (eR x) d.length acc j (q::r)).1.isEmpty).v.p1) (B (cI w x (cM rec w (db x (ins||decide (deep=0))) (eR x) d.length acc j (q::r)).1.isEmpty).v.p1) ((cI w x (cM rec w (db x (ins||decide (deep=0))) (eR x) d.length acc j (q::r)).1.isEmpty).v.pp.map bw) (bH (cI w x (cM rec w (db x (ins||decide (deep=0))) (eR x) d.length acc j (q::r)).1.isEmpty).v.lg) (cI w x (cM rec w (db x (ins||decide (deep=0))) (eR x) d.length acc j (q::r)).1.isEmpty).v.w0 (B (cI w x (cM rec w (db x (ins||decide (deep=0))) (eR x) d.length acc j (q::r)).1.isEmpty).v.w1) ((cI w x (cM rec w (db x (ins||decide (deep=0))) (eR x) d.length acc j (q::r)).1.isEmpty).a:Int) ((cI w x (cM rec w (db x (ins||decide (deep=0))) (eR x) d.length acc j (q::r)).1.isEmpty).b:Int) ((cI w x (cM rec w (db x (ins||decide (deep=0))) (eR x) d.length acc j (q::r)).1.isEmpty).c:Int) ((cI w x (cM rec w (db x (ins||decide (deep=0))) (eR x) d.length acc j (q::r)).1.isEmpty).d:Int) ((cI w x (cM rec w (db x (ins||decide (deep=0))) (eR x) d.length acc j (q::r)).1.isEmpty).e:Int) (cM rec w (db x (ins||decide (deep=0))) (eR x) d.length acc j (q::r)).1:=by
   have ap:=zT x (ins||decide (deep=0)) (d.length+1)
   rw [cM,al.M5]
   simp only
   rw [al.t8,w1,w2,IW x (by omega) acc deep ins (d.length+1) (by omega) (by omega),FP]
   refine (M (er w q (db x (ins||decide (deep=0)) (d.length+1)) (eR x)) j _ _ (lB q1 q2 _ _) ap hc (fun z c k=>rfl)).trans ?_
   rw [ab (by omega),ab (by omega),aq,ab (by omega),ab (by simp only [length_append,length_cons,length_nil];omega),Bt,AL,Gn,al.M5]
   ·simp only
    rw [al.t14,w1]
    have:=vU O hx hw hp deep ad ins rec U M m u V P hP W r (d++[q]) (acc++[ac (rec (er w q (db x (ins||decide (deep=0)) (d.length+1)) (eR x)) j).1 (rec (er w q (db x (ins||decide (deep=0)) (d.length+1)) (eR x)) j).2.1]) (rec (er w q (db x (ins||decide (deep=0)) (d.length+1)) (eR x)) j).2.2 g (by rw [append_assoc];exact N) (by simp [ha]) (U _ _ hc) (by omega)
    rw [show (d++[q]).length=d.length+1 by simp] at this
    exact this
   ·rfl
   ·rfl
  rw [al.M5]
  simp only
  rw [al.t5,ae,ai (by omega),aq,ab (by omega),ab (by omega),X,f0,f1,A,A,show (⟨#[109,117,108,116,105,112,97,114,116]⟩:BA)=B rB from rfl,show (⟨#[100,105,103,101,115,116]⟩:BA)=B vm from rfl,hm,hm]
  unfold eR at body ⊢
  by_cases c1:x.v.ty=rB
  ·rw [decide_eq_true c1,Bool.true_and] at body
   rw [decide_eq_true c1,cond_true,Bool.true_and]
   exact body
  ·rw [decide_eq_false c1,Bool.false_and] at body
   rw [decide_eq_false c1,cond_false,Bool.false_and]
   exact body
theorem Jl {w:List Y2} (hw:w.length<=200000):∀ (n A:Nat) (x:LV) (deep:Nat) (ins:Y3) (j:Nat) (m:BA->Int->BA->BA->BA->LA->T0 R) (u:BA->Int->BA->BA->BA->T0 R),Dw w x->x.p.length+3*n<=1000->deep+n=6->1<=n->n<=A->j<=16->(∀ (z:LV) (c:Int) (k:LA),u (B w) c (B z.p) (B z.v.ty) (B z.v.sub) z.v.i0 (B z.v.i1) z.v.a0 (B z.v.a1) (du z.v.c1) (B z.v.c1) (du z.v.p1) (B z.v.p1) (z.v.pp.map bw) (bH z.v.lg) z.v.w0 (B z.v.w1) (z.a:Int) (z.b:Int) (z.c:Int) (z.d:Int) (z.e:Int) k=m (B w) c (B z.p) (B z.v.ty) (B z.v.sub) ([]:LA) z.v.i0 (B z.v.i1) z.v.a0 (B z.v.a1) (du z.v.c1) (B z.v.c1) (du z.v.p1) (B z.v.p1) (z.v.pp.map bw) (bH z.v.lg) z.v.w0 (B z.v.w1) (z.a:Int) (z.b:Int) (z.c:Int) (z.d:Int) (z.e:Int) k) ->
  al.R A (B w) (j:Int) (B x.p) (B x.v.ty) (B x.v.sub) (x.v.ps.map bw) x.v.i0 (B x.v.i1) x.v.a0 (B x.v.a1) (du x.v.c1) (B x.v.c1) (du x.v.p1) (B x.v.p1) (x.v.pp.map bw) (bH x.v.lg) x.v.w0 (B x.v.w1) (x.a:Int) (x.b:Int) (x.c:Int) (x.d:Int) (x.e:Int) (deep:Int) ins m u=m (B w) ((cZ w n x deep (ins||decide (deep=0)) j).2.2:Int) (B (cZ w n x deep (ins||decide (deep=0)) j).1.p) (B (cZ w n x deep (ins||decide (deep=0)) j).1.v.ty) (B (cZ w n x deep (ins||decide (deep=0)) j).1.v.sub) ((cZ w n x deep (ins||decide (deep=0)) j).1.v.ps.map bw) (cZ w n x deep (ins||decide (deep=0)) j).1.v.i0 (B (cZ w n x deep (ins||decide (deep=0)) j).1.v.i1) (cZ w n x deep (ins||decide (deep=0)) j).1.v.a0 (B (cZ w n x deep (ins||decide (deep=0)) j).1.v.a1) (du (cZ w n x deep (ins||decide (deep=0)) j).1.v.c1) (B (cZ w n x deep (ins||decide (deep=0)) j).1.v.c1) (du (cZ w n x deep (ins||decide (deep=0)) j).1.v.p1) (B (cZ w n x deep (ins||decide (deep=0)) j).1.v.p1) ((cZ w n x deep (ins||decide (deep=0)) j).1.v.pp.map bw) (bH (cZ w n x deep (ins||decide (deep=0)) j).1.v.lg) (cZ w n x deep (ins||decide (deep=0)) j).1.v.w0 (B (cZ w n x deep (ins||decide (deep=0)) j).1.v.w1) ((cZ w n x deep (ins||decide (deep=0)) j).1.a:Int) ((cZ w n x deep (ins||decide (deep=0)) j).1.b:Int) ((cZ w n x deep (ins||decide (deep=0)) j).1.c:Int) ((cZ w n x deep (ins||decide (deep=0)) j).1.d:Int) ((cZ w n x deep (ins||decide (deep=0)) j).1.e:Int) (cZ w n x deep (ins||decide (deep=0)) j).2.1
 | 0,_,_,_,_,_,_,_,_,_,_,h,_,_,_=>by omega
 | _+1,0,_,_,_,_,_,_,_,_,_,_,h,_,_=>by omega
 | n+1,A+1,x,deep,ins,j,m,u,N,hp,hn,_,ad,hc,O=>by
  rw [al.R,al.B]
  have key:∀ f,1000<=f->al.e aH aE bX an cd aD (al.R A) (B w) (j:Int) (B x.p) (B x.v.ty) (B x.v.sub) (x.v.ps.map bw) x.v.i0 (B x.v.i1) x.v.a0 (B x.v.a1) (du x.v.c1) (B x.v.c1) (du x.v.p1) (B x.v.p1) (x.v.pp.map bw) (bH x.v.lg) x.v.w0 (B x.v.w1) (x.a:Int) (x.b:Int) (x.c:Int) (x.d:Int) (x.e:Int) (deep:Int) ins (al.L2 aH aE bX an cd aD (al.R A) m u (f+1)) (al.L5 aH aE bX an cd aD (al.R A) m u (f+1)) (al.L8 aH aE bX an cd aD (al.R A) m u (f+1)) (al.BI aH aE bX an cd aD (al.R A) m u (f+1)) (al.oM aH aE bX an cd aD (al.R A) m u (f+1)) m u=m (B w) ((cZ w (n+1) x deep (ins||decide (deep=0)) j).2.2:Int) (B (cZ w (n+1) x deep (ins||decide (deep=0)) j).1.p) (B (cZ w (n+1) x deep (ins||decide (deep=0)) j).1.v.ty) (B (cZ w (n+1) x deep (ins||decide (deep=0)) j).1.v.sub) ((cZ w (n+1) x deep (ins||decide (deep=0)) j).1.v.ps.map bw) (cZ w (n+1) x deep (ins||decide (deep=0)) j).1.v.i0 (B (cZ w (n+1) x deep (ins||decide (deep=0)) j).1.v.i1) (cZ w (n+1) x deep (ins||decide (deep=0)) j).1.v.a0 (B (cZ w (n+1) x deep (ins||decide (deep=0)) j).1.v.a1) (du (cZ w (n+1) x deep (ins||decide (deep=0)) j).1.v.c1) (B (cZ w (n+1) x deep (ins||decide (deep=0)) j).1.v.c1) (du (cZ w (n+1) x deep (ins||decide (deep=0)) j).1.v.p1) (B (cZ w (n+1) x deep (ins||decide (deep=0)) j).1.v.p1) ((cZ w (n+1) x deep (ins||decide (deep=0)) j).1.v.pp.map bw) (bH (cZ w (n+1) x deep (ins||decide (deep=0)) j).1.v.lg) (cZ w (n+1) x deep (ins||decide (deep=0)) j).1.v.w0 (B (cZ w (n+1) x deep (ins||decide (deep=0)) j).1.v.w1) ((cZ w (n+1) x deep (ins||decide (deep=0)) j).1.a:Int) ((cZ w (n+1) x deep (ins||decide (deep=0)) j).1.b:Int) ((cZ w (n+1) x deep (ins||decide (deep=0)) j).1.c:Int) ((cZ w (n+1) x deep (ins||decide (deep=0)) j).1.d:Int) ((cZ w (n+1) x deep (ins||decide (deep=0)) j).1.e:Int) (cZ w (n+1) x deep (ins||decide (deep=0)) j).2.1:=by
   intro f hf
   obtain ⟨W,X,Y,h4⟩:=N
   have N:Dw w x:=⟨W,X,Y,h4⟩
   have U:((gd w x).map (fN 0)).length=(gd w x).length:=length_map ..
   have ae:(gd w x).length<=1000000:=by
    have ap:(dH w x).length=x.d-x.c:=by unfold dH;rw [length_drop,length_take];omega
    unfold gd
    split
    ·split <;> simp
    ·split
     ·have:=mS (gx x.v.ps) (dH w x) _ none (dH w x) (Nat.le_refl _)
      rw [length_map];omega
     ·simp
   rw [al.e]
   refine (JF W X hw Y (by omega) (j:Int) _ _ (by rfl)).trans ?_
   rw [al.L2,al.t2,U,wrap_i64 (by omega) (by omega)]
   rw [cZ]
   have M:=zD (al.R A) N hw j m u O (f-1) []
   rw [show f-1+1=f by omega] at M
   by_cases c1:deep<5
   ·rw [ai (by omega)]
    by_cases c2:j+(gd w x).length<=16
    ·rw [ai (by omega),if_pos ⟨c1,c2⟩]
     have hl:=vU (al.R A) N hw (by omega) deep (by omega) ins (fun y c=>cZ w n y (deep+1) (dI x) c) (fun y c h=>yr w n y _ _ c h)
      (fun y j m u hy ar V hk=>by
       have:=Jl hw n A y (deep+1) (dI x) j m u hy (by omega) (by omega) (by omega) (by omega) V hk
       rw [decide_eq_false (show ¬ deep+1=0 by omega),Bool.or_false] at this
       exact this)
      m u O (gd w x) (by omega) (yv hw N) (gd w x) [] [] (j+(gd w x).length) f rfl rfl c2 (by omega)
     exact hl
    ·rw [af (by omega),if_neg (fun h=>c2 h.2)]
     exact M
   ·rw [af (by omega),if_neg (fun h=>c1 h.1)]
    exact M
  exact key (ah-1) (by unfold ah;omega)
theorem nq (w:List Y2) (x:LV) (em:Y3):(cI w x em).a=x.a/\(cI w x em).b=x.b/\(cI w x em).c=x.c/\(cI w x em).d=x.d:=by
 unfold cI gk
 split
 ·split
  ·exact ⟨rfl,rfl,rfl,rfl⟩
  ·split <;> exact ⟨rfl,rfl,rfl,rfl⟩
 ·split <;> exact ⟨rfl,rfl,rfl,rfl⟩
theorem E8 {w:List Y2} {x:LV} (h:dI x=true):gd w x=[]∨gd w x=[(x.c,x.d)]:=by
 unfold gd
 rw [if_pos h]
 split
 ·exact .inr rfl
 ·exact .inl rfl
theorem Dr {x:LV} (h:dI x=true):x.v.ty=gT:=by
 unfold dI at h
 rw [Bool.and_eq_true] at h
 exact of_decide_eq_true h.1
theorem wK (RF:aw.F R) {w:List Y2} {x:LV} (hw:w.length<=200000) (hp:x.p.length<=1000) (deep:Nat) (ad:deep<=100) (N:dI x=false) (O:x.v.ty=rB) (is:Y3) (rec:LV->Nat->LV × LA × Nat) (U:∀ y c,c<=16->(rec y c).2.2<=16)
  (u:∀ (y:LV) (j:Nat) (m:T7 R),Dw w y->y.p.length<=x.p.length+3->j<=16->RF (B w) (B y.p) (B y.v.ty) (B y.v.sub) (y.v.ps.map bw) y.v.i0 (B y.v.i1) y.v.a0 (B y.v.a1) (du y.v.c1) (B y.v.c1) (du y.v.p1) (B y.v.p1) (y.v.pp.map bw) (bH y.v.lg) y.v.w0 (B y.v.w1) (y.a:Int) (y.b:Int) (y.c:Int) (y.d:Int) (y.e:Int) ((deep+1:Nat):Int) false (j:Int) m=m (B (rec y j).1.p) (B (rec y j).1.v.ty) (B (rec y j).1.v.sub) ((rec y j).1.v.ps.map bw) (rec y j).1.v.i0 (B (rec y j).1.v.i1) (rec y j).1.v.a0 (B (rec y j).1.v.a1) (du (rec y j).1.v.c1) (B (rec y j).1.v.c1) (du (rec y j).1.v.p1) (B (rec y j).1.v.p1) ((rec y j).1.v.pp.map bw) (bH (rec y j).1.v.lg) (rec y j).1.v.w0 (B (rec y j).1.v.w1) ((rec y j).1.a:Int) ((rec y j).1.b:Int) ((rec y j).1.c:Int) ((rec y j).1.d:Int) ((rec y j).1.e:Int) (rec y j).2.1 ((rec y j).2.2:Int))
  (m:T7 R) (P:List (Nat × Nat)) (hP:P.length<=16) (V:∀ q∈P,q.1<=q.2/\q.2<=w.length) :
  ∀ (r d:List (Nat × Nat)) (acc:LA) (j f:Nat),d++r=P->acc.length=d.length->j<=16->r.length+2<=f ->
  aw.FH bJ aU bt aZ RF m f (B w) (deep:Int) (j:Int) (d.length:Int) (B x.p) (B x.v.ty) (B x.v.sub) (x.v.ps.map bw) x.v.i0 (B x.v.i1) x.v.a0 (B x.v.a1) (du x.v.c1) (B x.v.c1) (du x.v.p1) (B x.v.p1) (x.v.pp.map bw) (bH x.v.lg) x.v.w0 (B x.v.w1) (x.a:Int) (x.b:Int) (x.c:Int) (x.d:Int) (x.e:Int) acc (⟨#[]⟩:BA) (⟨#[]⟩:BA) (⟨#[]⟩:BA) false (⟨#[]⟩:BA) false (⟨#[]⟩:BA) false (⟨#[]⟩:BA) false (⟨#[]⟩:BA) false (⟨#[]⟩:BA) 0 0 0 0 0 (P.map (fN 0))=m (B x.p) (B x.v.ty) (B x.v.sub) (x.v.ps.map bw) x.v.i0 (B x.v.i1) x.v.a0 (B x.v.a1) (du x.v.c1) (B x.v.c1) (du x.v.p1) (B x.v.p1) (x.v.pp.map bw) (bH x.v.lg) x.v.w0 (B x.v.w1) (x.a:Int) (x.b:Int) (x.c:Int) (x.d:Int) (x.e:Int) (cM rec w (db x is) (eR x) d.length acc j r).1 ((cM rec w (db x is) (eR x) d.length acc j r).2:Int)
 | [],d,acc,j,f,A,ha,hc,hf=>by
  obtain ⟨g,rfl⟩:∃ g,f=g+2:=⟨f-2,by omega⟩
  rw [append_nil] at A
  have M:(P.map (fN 0)).length=P.length:=length_map ..
  rw [aw.FH,aw.t22,M,A,af (by omega)]
  rfl
 | q::r,d,acc,j,f,A,ha,hc,hf=>by
  simp only [length_cons] at hf
  obtain ⟨g,rfl⟩:∃ g,f=g+1:=⟨f-1,by omega⟩
  have hm:∀ a b:List Y2,decide (B a=B b)=decide (a=b):=fun a b=>decide_eq_decide.2 eg
  have hlen:d.length+r.length+1=P.length:=by rw [<- A];simp;omega
  have hq:q∈P:=by rw [<- A];simp
  obtain ⟨q1,q2⟩:=V q hq
  have W:bi (P.map (fN 0)) (d.length:Int)=fN 0 q:=eD (by rw [List.getElem?_map,<- A];simp)
  have M:(P.map (fN 0)).length=P.length:=length_map ..
  have f0:((fN 0 q).fld 0).i=(q.1:Int):=by show ((0+q.1:Nat):Int)=_;rw [Nat.zero_add]
  have f1:((fN 0 q).fld 1).i=(q.2:Int):=by show ((0+q.2:Nat):Int)=_;rw [Nat.zero_add]
  have X:=jt q1 q2
  have w1:wrap .i64 ((d.length:Int)+1)=((d.length+1:Nat):Int):=wrap_i64 (by omega) (by omega)
  have w2:wrap .i64 ((deep:Int)+1)=((deep+1:Nat):Int):=wrap_i64 (by omega) (by omega)
  have z:=fun (p:BA) (dg:Y3)=>DJ (R:=R) (w:=w) (s:=lO w q) (F:=q.1) (by rw [X,show q.1+(q.2-q.1)=q.2 by omega];rfl) (by omega) hw p dg
  rw [X,show q.1+(q.2-q.1)=q.2 by omega] at z
  have ae:=uX x.p (d.length+1)
  have ap:db x is (d.length+1)=yT x.p (d.length+1):=by unfold db;rw [if_neg (by rw [N];decide)]
  have Y:eR x=decide (x.v.sub=vm):=by unfold eR;rw [decide_eq_true O,Bool.true_and]
  rw [aw.FH,aw.t22,M,ai (by omega),aq,ab (by omega),ab (by omega),W,f0,f1,w1,w2,H9 _ (by omega) _ (by omega) (by omega),show (⟨#[100,105,103,101,115,116]⟩:BA)=B vm from rfl,hm,z]
  rw [cM,ap,Y]
  refine (u (er w q (yT x.p (d.length+1)) (decide (x.v.sub=vm))) j _ (lB q1 q2 _ _) ae hc).trans ?_
  rw [ab (by omega)]
  have:=wK RF hw hp deep ad N O is rec U u m P hP V r (d++[q]) (acc++[ac (rec (er w q (yT x.p (d.length+1)) (decide (x.v.sub=vm))) j).1 (rec (er w q (yT x.p (d.length+1)) (decide (x.v.sub=vm))) j).2.1]) (rec (er w q (yT x.p (d.length+1)) (decide (x.v.sub=vm))) j).2.2 g (by rw [append_assoc];exact A) (by simp [ha]) (U _ _ hc) (by omega)
  rw [show (d++[q]).length=d.length+1 by simp] at this
  rw [Y] at this
  exact this
theorem C9 {rec:LV->Nat->LV × LA × Nat} {w:List Y2} (f:Nat->List Y2) (m:Y3) (r:List (Nat × Nat)) (j:Nat) (h:r≠[]):(cM rec w f m 0 [] j r).1.isEmpty=false:=by
 have:=mC (rec:=rec) (w:=w) f m r 0 [] j
 cases r with
 | nil=>exact absurd rfl h
 | cons q r =>
  cases e:(cM rec w f m 0 [] j (q::r)).1 with
  | nil=>rw [e] at this;simp at this
  | cons a l=>rfl
theorem vQ (rec:LV->Nat->LV × LA × Nat) (w:List Y2) (f:Nat->List Y2) (m:Y3) (j:Nat) (q:Nat × Nat):cM rec w f m 0 [] j [q]=([ac (rec (er w q (f 1) m) j).1 (rec (er w q (f 1) m) j).2.1],(rec (er w q (f 1) m) j).2.2):=rfl
theorem I9 {w:List Y2} (hw:w.length<=200000):∀ (n z:Nat) (x:LV) (deep:Nat) (is:Y3) (j:Nat) (m:T7 R),Dw w x->x.p.length+3*n<=1000->deep+n=6->1<=n->n<=z->j<=16 ->
  aw.R z (B w) (B x.p) (B x.v.ty) (B x.v.sub) (x.v.ps.map bw) x.v.i0 (B x.v.i1) x.v.a0 (B x.v.a1) (du x.v.c1) (B x.v.c1) (du x.v.p1) (B x.v.p1) (x.v.pp.map bw) (bH x.v.lg) x.v.w0 (B x.v.w1) (x.a:Int) (x.b:Int) (x.c:Int) (x.d:Int) (x.e:Int) (deep:Int) is (j:Int) m=m (B (cZ w n x deep is j).1.p) (B (cZ w n x deep is j).1.v.ty) (B (cZ w n x deep is j).1.v.sub) ((cZ w n x deep is j).1.v.ps.map bw) (cZ w n x deep is j).1.v.i0 (B (cZ w n x deep is j).1.v.i1) (cZ w n x deep is j).1.v.a0 (B (cZ w n x deep is j).1.v.a1) (du (cZ w n x deep is j).1.v.c1) (B (cZ w n x deep is j).1.v.c1) (du (cZ w n x deep is j).1.v.p1) (B (cZ w n x deep is j).1.v.p1) ((cZ w n x deep is j).1.v.pp.map bw) (bH (cZ w n x deep is j).1.v.lg) (cZ w n x deep is j).1.v.w0 (B (cZ w n x deep is j).1.v.w1) ((cZ w n x deep is j).1.a:Int) ((cZ w n x deep is j).1.b:Int) ((cZ w n x deep is j).1.c:Int) ((cZ w n x deep is j).1.d:Int) ((cZ w n x deep is j).1.e:Int) (cZ w n x deep is j).2.1 ((cZ w n x deep is j).2.2:Int)
 | 0,_,_,_,_,_,_,_,_,_,h,_,_=>by omega
 | _+1,0,_,_,_,_,_,_,_,_,_,h,_=>by omega
 | n+1,z+1,x,deep,is,j,m,hx,hp,hn,_,bs,hc=>by
  obtain ⟨h1,h2,h3,h4⟩:=hx
  have hx:Dw w x:=⟨h1,h2,h3,h4⟩
  have hm:∀ a b:List Y2,decide (B a=B b)=decide (a=b):=fun a b=>decide_eq_decide.2 eg
  have bx:(dH w x).length=x.d-x.c:=by unfold dH;rw [length_drop,length_take];omega
  have ax:((gd w x).map (fN 0)).length=(gd w x).length:=length_map ..
  have bP:(gd w x).length<=1000000:=by
   unfold gd
   split
   ·split <;> simp
   ·split
    ·have:=mS (gx x.v.ps) (dH w x) _ none (dH w x) (Nat.le_refl _)
     rw [length_map];omega
    ·simp
  have M:∀ κ:Int->Y1 R,(bo ((decide ((0:Int)<=(x.c:Int)))&&((decide ((x.c:Int)<=(x.d:Int)))&&(decide ((x.d:Int)<=((B w).size:Int))))) (bJ ((B w).extract ((x.c:Int)).toNat ((x.d:Int)).toNat) κ))=κ (eE (dH w x):Int):=fun κ=>by
   rw [aq,ab (by omega),aq,ab (by omega),ab (by rw [iW];omega),Int.toNat_natCast,Int.toNat_natCast,dh]
   exact JK (dH w x) (by omega) κ
  rw [aw.R,aw.B]
  -- behind the lines of a text
  have j7:∀ f,1000<=f->(x.v.ty=rB∨dI x=true)->aw.L7 bJ aU bt aZ (aw.R z) m f (B w) (deep:Int) is (j:Int) (dI x) (B x.p) (B x.v.ty) (B x.v.sub) (x.v.ps.map bw) x.v.i0 (B x.v.i1) x.v.a0 (B x.v.a1) (du x.v.c1) (B x.v.c1) (du x.v.p1) (B x.v.p1) (x.v.pp.map bw) (bH x.v.lg) x.v.w0 (B x.v.w1) (x.a:Int) (x.b:Int) (x.c:Int) (x.d:Int) (x.e:Int) (⟨#[]⟩:BA) (⟨#[]⟩:BA) (⟨#[]⟩:BA) false (⟨#[]⟩:BA) false (⟨#[]⟩:BA) false (⟨#[]⟩:BA) false (⟨#[]⟩:BA) false (⟨#[]⟩:BA) 0 0 0 0 0 ((gd w x).map (fN 0))=m (B (cZ w (n+1) x deep is j).1.p) (B (cZ w (n+1) x deep is j).1.v.ty) (B (cZ w (n+1) x deep is j).1.v.sub) ((cZ w (n+1) x deep is j).1.v.ps.map bw) (cZ w (n+1) x deep is j).1.v.i0 (B (cZ w (n+1) x deep is j).1.v.i1) (cZ w (n+1) x deep is j).1.v.a0 (B (cZ w (n+1) x deep is j).1.v.a1) (du (cZ w (n+1) x deep is j).1.v.c1) (B (cZ w (n+1) x deep is j).1.v.c1) (du (cZ w (n+1) x deep is j).1.v.p1) (B (cZ w (n+1) x deep is j).1.v.p1) ((cZ w (n+1) x deep is j).1.v.pp.map bw) (bH (cZ w (n+1) x deep is j).1.v.lg) (cZ w (n+1) x deep is j).1.v.w0 (B (cZ w (n+1) x deep is j).1.v.w1) ((cZ w (n+1) x deep is j).1.a:Int) ((cZ w (n+1) x deep is j).1.b:Int) ((cZ w (n+1) x deep is j).1.c:Int) ((cZ w (n+1) x deep is j).1.d:Int) ((cZ w (n+1) x deep is j).1.e:Int) (cZ w (n+1) x deep is j).2.1 ((cZ w (n+1) x deep is j).2.2:Int):=by
   intro f hf N
   obtain ⟨g,rfl⟩:∃ g,f=g+4:=⟨f-4,by omega⟩
   have a6:x.v.ty≠ou:=by
    rcases N with h|h
    ·rw [h];decide
    ·rw [Dr h];decide
   have A:cI w x true=gk x:=by
    unfold cI
    rw [if_pos rfl,if_neg a6,if_pos N.symm]
   have off:m (B (gk x).p) (B (gk x).v.ty) (B (gk x).v.sub) ((gk x).v.ps.map bw) (gk x).v.i0 (B (gk x).v.i1) (gk x).v.a0 (B (gk x).v.a1) (du (gk x).v.c1) (B (gk x).v.c1) (du (gk x).v.p1) (B (gk x).v.p1) ((gk x).v.pp.map bw) (bH (gk x).v.lg) (gk x).v.w0 (B (gk x).v.w1) ((gk x).a:Int) ((gk x).b:Int) ((gk x).c:Int) ((gk x).d:Int) ((gk x).e:Int) [] (j:Int)=m (B (cI w x true).p) (B (cI w x true).v.ty) (B (cI w x true).v.sub) ((cI w x true).v.ps.map bw) (cI w x true).v.i0 (B (cI w x true).v.i1) (cI w x true).v.a0 (B (cI w x true).v.a1) (du (cI w x true).v.c1) (B (cI w x true).v.c1) (du (cI w x true).v.p1) (B (cI w x true).v.p1) ((cI w x true).v.pp.map bw) (bH (cI w x true).v.lg) (cI w x true).v.w0 (B (cI w x true).v.w1) ((cI w x true).a:Int) ((cI w x true).b:Int) ((cI w x true).c:Int) ((cI w x true).d:Int) ((cI w x true).e:Int) [] (j:Int):=by rw [A]
   rw [aw.L7,aw.t7,ax,cZ]
   by_cases c0:gd w x=[]
   ·have ct:(gd w x).length=0:=by rw [c0];rfl
    rw [gy (by omega),cond_true]
    by_cases c1:deep<5/\j+(gd w x).length<=16
    ·rw [if_pos c1,c0]
     exact off
    ·rw [if_neg c1]
     exact off
   ·have ct:(gd w x).length≠0:=fun h=>c0 (List.eq_nil_of_length_eq_zero h)
    rw [fY (by omega),cond_false]
    by_cases c1:deep<5
    ·rw [af (by omega),wrap_i64 (by omega) (by omega)]
     by_cases c2:j+(gd w x).length<=16
     ·rw [af (by omega),if_pos ⟨c1,c2⟩]
      have U:∀ y c,c<=16->(cZ w n y (deep+1) (dI x) c).2.2<=16:=fun y c h=>yr w n y _ _ c h
      have a7:=C9 (rec:=fun y c=>cZ w n y (deep+1) (dI x) c) (w:=w) (db x is) (eR x) (gd w x) (j+(gd w x).length) c0
      have V:cI w x false=if dI x then { x with e:=eE (dH w x) } else x:=rfl
      have a8:((j:Int)+((gd w x).length:Int))=((j+(gd w x).length:Nat):Int):=by omega
      simp only [a7]
      rw [V,a8]
      cases u:dI x with
      | false =>
       rw [cond_false,if_neg (by decide)]
       have bb:x.v.ty=rB:=N.resolve_right (by rw [u];decide)
       rw [u] at U
       exact wK (aw.R z) hw (by omega) deep (by omega) u bb is (fun y c=>cZ w n y (deep+1) false c) U
        (fun y j m hy bS be=>I9 hw n z y (deep+1) false j m hy (by omega) (by omega) (by omega) (by omega) be)
        m (gd w x) (by omega) (yv hw hx) (gd w x) [] [] (j+(gd w x).length) (g+3) rfl rfl c2 (by omega)
      | true =>
       have ad:gd w x=[(x.c,x.d)]:=(E8 u).resolve_left c0
       have bk:eR x=false:=by unfold eR;rw [Dr u];rfl
       rw [ad] at c2 ⊢
       rw [cond_true,if_pos rfl,M,bk]
       rw [u] at U
       have W:=jt (q:=(x.c,x.d)) h1 h2
       have O:=fun (p:BA) (dg:Y3)=>DJ (R:=R) (w:=w) (s:=lO w (x.c,x.d)) (F:=x.c) (by rw [W];show (w.take (x.c+(x.d-x.c))).drop x.c=_;rw [show x.c+(x.d-x.c)=x.d by omega];rfl) (by rw [W];show x.c+(x.d-x.c)<=_;omega) hw p dg
       rw [W,show x.c+((x.c,x.d).2-(x.c,x.d).1)=x.d by show x.c+(x.d-x.c)=x.d;omega] at O
       have w2:wrap .i64 ((deep:Int)+1)=((deep+1:Nat):Int):=wrap_i64 (by omega) (by omega)
       have f0:((bi ([(x.c,x.d)].map (fN 0)) 0).fld 0).i=(x.c:Int):=by show ((0+x.c:Nat):Int)=_;rw [Nat.zero_add]
       have f1:((bi ([(x.c,x.d)].map (fN 0)) 0).fld 1).i=(x.d:Int):=by show ((0+x.d:Nat):Int)=_;rw [Nat.zero_add]
       have bV:=uX x.p 1
       have ae:∀ p:List Y2,p.length<=x.p.length+3->aw.rj bJ aU bt aZ (aw.R z) m (g+3) (B w) (deep:Int) ((j+[(x.c,x.d)].length:Nat):Int) (B p) (B x.p) (B x.v.ty) (B x.v.sub) (x.v.ps.map bw) x.v.i0 (B x.v.i1) x.v.a0 (B x.v.a1) (du x.v.c1) (B x.v.c1) (du x.v.p1) (B x.v.p1) (x.v.pp.map bw) (bH x.v.lg) x.v.w0 (B x.v.w1) (x.a:Int) (x.b:Int) (x.c:Int) (x.d:Int) (eE (dH w x):Int) (⟨#[]⟩:BA) (⟨#[]⟩:BA) (⟨#[]⟩:BA) false (⟨#[]⟩:BA) false (⟨#[]⟩:BA) false (⟨#[]⟩:BA) false (⟨#[]⟩:BA) false (⟨#[]⟩:BA) 0 0 0 0 0 ([(x.c,x.d)].map (fN 0))=m (B x.p) (B x.v.ty) (B x.v.sub) (x.v.ps.map bw) x.v.i0 (B x.v.i1) x.v.a0 (B x.v.a1) (du x.v.c1) (B x.v.c1) (du x.v.p1) (B x.v.p1) (x.v.pp.map bw) (bH x.v.lg) x.v.w0 (B x.v.w1) (x.a:Int) (x.b:Int) (x.c:Int) (x.d:Int) (eE (dH w x):Int) [ac (cZ w n (er w (x.c,x.d) p false) (deep+1) true (j+[(x.c,x.d)].length)).1 (cZ w n (er w (x.c,x.d) p false) (deep+1) true (j+[(x.c,x.d)].length)).2.1] ((cZ w n (er w (x.c,x.d) p false) (deep+1) true (j+[(x.c,x.d)].length)).2.2:Int):=by
        intro p b0
        rw [aw.rj,aw.t18,ab (by simp),f0,f1,w2,O]
        refine (I9 hw n z (er w (x.c,x.d) p false) (deep+1) true (j+[(x.c,x.d)].length) _ (lB h1 h2 _ _) (by show p.length+_<=_;omega) (by omega) (by omega) (by omega) c2).trans ?_
        rfl
       cases is with
       | true =>
        rw [cond_true]
        have hu:=H9 (R:=R) x.p (by omega) 1 (by omega) (by omega)
        refine (hu _).trans ?_
        refine (ae (yT x.p 1) (by omega)).trans ?_
        have X:db x true 1=yT x.p 1:=by unfold db;rw [if_pos u,if_pos rfl]
        rw [vQ,X]
       | false =>
        rw [cond_false]
        refine (ae x.p (by omega)).trans ?_
        have X:db x false 1=x.p:=by unfold db;rw [if_pos u,if_neg (by decide)]
        rw [vQ,X]
     ·rw [ai (by omega),if_neg (fun h=>c2 h.2)]
      exact off
    ·rw [ai (by omega),if_neg (fun h=>c1 h.1)]
     exact off
  have ap:∀ (f:Nat),1000<=f->(x.v.ty=rB∨dI x=true)->aU (B w) (B x.p) (B x.v.ty) (B x.v.sub) (x.v.ps.map bw) x.v.i0 (B x.v.i1) x.v.a0 (B x.v.a1) (du x.v.c1) (B x.v.c1) (du x.v.p1) (B x.v.p1) (x.v.pp.map bw) (bH x.v.lg) x.v.w0 (B x.v.w1) (x.a:Int) (x.b:Int) (x.c:Int) (x.d:Int) (x.e:Int) (aw.L7 bJ aU bt aZ (aw.R z) m f (B w) (deep:Int) is (j:Int) (dI x) (B x.p) (B x.v.ty) (B x.v.sub) (x.v.ps.map bw) x.v.i0 (B x.v.i1) x.v.a0 (B x.v.a1) (du x.v.c1) (B x.v.c1) (du x.v.p1) (B x.v.p1) (x.v.pp.map bw) (bH x.v.lg) x.v.w0 (B x.v.w1) (x.a:Int) (x.b:Int) (x.c:Int) (x.d:Int) (x.e:Int) (⟨#[]⟩:BA) (⟨#[]⟩:BA) (⟨#[]⟩:BA) false (⟨#[]⟩:BA) false (⟨#[]⟩:BA) false (⟨#[]⟩:BA) false (⟨#[]⟩:BA) false (⟨#[]⟩:BA) 0 0 0 0 0 []) (fun r=>aw.L7 bJ aU bt aZ (aw.R z) m f (B w) (deep:Int) is (j:Int) (dI x) (B x.p) (B x.v.ty) (B x.v.sub) (x.v.ps.map bw) x.v.i0 (B x.v.i1) x.v.a0 (B x.v.a1) (du x.v.c1) (B x.v.c1) (du x.v.p1) (B x.v.p1) (x.v.pp.map bw) (bH x.v.lg) x.v.w0 (B x.v.w1) (x.a:Int) (x.b:Int) (x.c:Int) (x.d:Int) (x.e:Int) (⟨#[]⟩:BA) (⟨#[]⟩:BA) (⟨#[]⟩:BA) false (⟨#[]⟩:BA) false (⟨#[]⟩:BA) false (⟨#[]⟩:BA) false (⟨#[]⟩:BA) false (⟨#[]⟩:BA) 0 0 0 0 0 r)=m (B (cZ w (n+1) x deep is j).1.p) (B (cZ w (n+1) x deep is j).1.v.ty) (B (cZ w (n+1) x deep is j).1.v.sub) ((cZ w (n+1) x deep is j).1.v.ps.map bw) (cZ w (n+1) x deep is j).1.v.i0 (B (cZ w (n+1) x deep is j).1.v.i1) (cZ w (n+1) x deep is j).1.v.a0 (B (cZ w (n+1) x deep is j).1.v.a1) (du (cZ w (n+1) x deep is j).1.v.c1) (B (cZ w (n+1) x deep is j).1.v.c1) (du (cZ w (n+1) x deep is j).1.v.p1) (B (cZ w (n+1) x deep is j).1.v.p1) ((cZ w (n+1) x deep is j).1.v.pp.map bw) (bH (cZ w (n+1) x deep is j).1.v.lg) (cZ w (n+1) x deep is j).1.v.w0 (B (cZ w (n+1) x deep is j).1.v.w1) ((cZ w (n+1) x deep is j).1.a:Int) ((cZ w (n+1) x deep is j).1.b:Int) ((cZ w (n+1) x deep is j).1.c:Int) ((cZ w (n+1) x deep is j).1.d:Int) ((cZ w (n+1) x deep is j).1.e:Int) (cZ w (n+1) x deep is j).2.1 ((cZ w (n+1) x deep is j).2.2:Int):=by
   intro f hf N
   refine (JL h1 h2 hw (by omega) _ _ rfl).trans ?_
   exact j7 f hf N
  have key:∀ f,2000<=f->aw.L2 bJ aU bt aZ (aw.R z) m f (B w) (deep:Int) is (j:Int) (dI x) (B x.p) (B x.v.ty) (B x.v.sub) (x.v.ps.map bw) x.v.i0 (B x.v.i1) x.v.a0 (B x.v.a1) (du x.v.c1) (B x.v.c1) (du x.v.p1) (B x.v.p1) (x.v.pp.map bw) (bH x.v.lg) x.v.w0 (B x.v.w1) (x.a:Int) (x.b:Int) (x.c:Int) (x.d:Int) (x.e:Int) (⟨#[]⟩:BA) (⟨#[]⟩:BA) (⟨#[]⟩:BA) false (⟨#[]⟩:BA) false (⟨#[]⟩:BA) false (⟨#[]⟩:BA) false (⟨#[]⟩:BA) false (⟨#[]⟩:BA) 0 0 0 0 0=m (B (cZ w (n+1) x deep is j).1.p) (B (cZ w (n+1) x deep is j).1.v.ty) (B (cZ w (n+1) x deep is j).1.v.sub) ((cZ w (n+1) x deep is j).1.v.ps.map bw) (cZ w (n+1) x deep is j).1.v.i0 (B (cZ w (n+1) x deep is j).1.v.i1) (cZ w (n+1) x deep is j).1.v.a0 (B (cZ w (n+1) x deep is j).1.v.a1) (du (cZ w (n+1) x deep is j).1.v.c1) (B (cZ w (n+1) x deep is j).1.v.c1) (du (cZ w (n+1) x deep is j).1.v.p1) (B (cZ w (n+1) x deep is j).1.v.p1) ((cZ w (n+1) x deep is j).1.v.pp.map bw) (bH (cZ w (n+1) x deep is j).1.v.lg) (cZ w (n+1) x deep is j).1.v.w0 (B (cZ w (n+1) x deep is j).1.v.w1) ((cZ w (n+1) x deep is j).1.a:Int) ((cZ w (n+1) x deep is j).1.b:Int) ((cZ w (n+1) x deep is j).1.c:Int) ((cZ w (n+1) x deep is j).1.d:Int) ((cZ w (n+1) x deep is j).1.e:Int) (cZ w (n+1) x deep is j).2.1 ((cZ w (n+1) x deep is j).2.2:Int):=by
   intro f hf
   obtain ⟨g,rfl⟩:∃ g,f=g+3:=⟨f-3,by omega⟩
   rw [aw.L2,aw.t2,show (⟨#[116,101,120,116]⟩:BA)=B ou from rfl,hm]
   have plain:x.v.ty≠rB->dI x=false->(cZ w (n+1) x deep is j).1=cI w x true/\(cZ w (n+1) x deep is j).2.1=[]/\(cZ w (n+1) x deep is j).2.2=j:=by
    intro Y e2
    have c0:gd w x=[]:=by
     unfold gd
     rw [if_neg (by rw [e2];decide),if_neg (fun h=>Y h.1)]
    rw [cZ]
    by_cases c1:deep<5/\j+(gd w x).length<=16
    ·rw [if_pos c1,c0]
     exact ⟨rfl,rfl,rfl⟩
    ·rw [if_neg c1]
     exact ⟨rfl,rfl,rfl⟩
   by_cases c1:x.v.ty=ou
   ·have Y:x.v.ty≠rB:=by rw [c1];decide
    have e2:dI x=false:=by unfold dI;rw [c1];rfl
    obtain ⟨p1,p2,p3⟩:=plain Y e2
    have A:cI w x true={ x with e:=eE (dH w x) }:=by unfold cI;rw [if_pos rfl,if_pos c1]
    rw [decide_eq_true c1,cond_true,M,aw.L4,aw.t4,show (⟨#[109,117,108,116,105,112,97,114,116]⟩:BA)=B rB from rfl,hm,decide_eq_false Y,Bool.not_false,cond_true,e2,Bool.not_false,cond_true,p1,p2,p3,A]
    rfl
   ·rw [decide_eq_false c1,cond_false,aw.L4,aw.t4,show (⟨#[109,117,108,116,105,112,97,114,116]⟩:BA)=B rB from rfl,hm]
    by_cases c2:x.v.ty=rB
    ·rw [decide_eq_true c2,Bool.not_true,cond_false]
     exact ap (g+1) (by omega) (.inl c2)
    ·rw [decide_eq_false c2,Bool.not_false,cond_true]
     cases u:dI x with
     | true =>
      rw [Bool.not_true,cond_false]
      have:=ap (g+1) (by omega) (.inr u)
      rw [u] at this
      exact this
     | false =>
      obtain ⟨p1,p2,p3⟩:=plain c2 u
      have A:cI w x true=x:=by unfold cI;rw [if_pos rfl,if_neg c1,if_neg (fun h=>h.elim (fun h=>by rw [u] at h;cases h) c2)]
      rw [Bool.not_false,cond_true,p1,p2,p3,A]
      rfl
  have ar:∀ f,2000<=f->aw.e bJ aU bt aZ (aw.R z) (B w) (B x.p) (B x.v.ty) (B x.v.sub) (x.v.ps.map bw) x.v.i0 (B x.v.i1) x.v.a0 (B x.v.a1) (du x.v.c1) (B x.v.c1) (du x.v.p1) (B x.v.p1) (x.v.pp.map bw) (bH x.v.lg) x.v.w0 (B x.v.w1) (x.a:Int) (x.b:Int) (x.c:Int) (x.d:Int) (x.e:Int) (deep:Int) is (j:Int) (aw.L2 bJ aU bt aZ (aw.R z) m f) (aw.L4 bJ aU bt aZ (aw.R z) m f) (aw.L5 bJ aU bt aZ (aw.R z) m f) (aw.L7 bJ aU bt aZ (aw.R z) m f) (aw.tL bJ aU bt aZ (aw.R z) m f) (aw.rj bJ aU bt aZ (aw.R z) m f) (aw.BJ bJ aU bt aZ (aw.R z) m f) (aw.FH bJ aU bt aZ (aw.R z) m f) (aw.Ik bJ aU bt aZ (aw.R z) m f) m=m (B (cZ w (n+1) x deep is j).1.p) (B (cZ w (n+1) x deep is j).1.v.ty) (B (cZ w (n+1) x deep is j).1.v.sub) ((cZ w (n+1) x deep is j).1.v.ps.map bw) (cZ w (n+1) x deep is j).1.v.i0 (B (cZ w (n+1) x deep is j).1.v.i1) (cZ w (n+1) x deep is j).1.v.a0 (B (cZ w (n+1) x deep is j).1.v.a1) (du (cZ w (n+1) x deep is j).1.v.c1) (B (cZ w (n+1) x deep is j).1.v.c1) (du (cZ w (n+1) x deep is j).1.v.p1) (B (cZ w (n+1) x deep is j).1.v.p1) ((cZ w (n+1) x deep is j).1.v.pp.map bw) (bH (cZ w (n+1) x deep is j).1.v.lg) (cZ w (n+1) x deep is j).1.v.w0 (B (cZ w (n+1) x deep is j).1.v.w1) ((cZ w (n+1) x deep is j).1.a:Int) ((cZ w (n+1) x deep is j).1.b:Int) ((cZ w (n+1) x deep is j).1.c:Int) ((cZ w (n+1) x deep is j).1.d:Int) ((cZ w (n+1) x deep is j).1.e:Int) (cZ w (n+1) x deep is j).2.1 ((cZ w (n+1) x deep is j).2.2:Int):=by
   intro f hf
   have:=key f hf
   rw [aw.e,show (⟨#[109,101,115,115,97,103,101]⟩:BA)=B gT from rfl,show (⟨#[114,102,99,56,50,50]⟩:BA)=B mK from rfl,hm,hm]
   unfold dI at this
   cases Y:decide (x.v.ty=gT) with
   | true=>rw [Y,Bool.true_and] at this;rw [cond_true];exact this
   | false=>rw [Y,Bool.false_and] at this;rw [cond_false];exact this
  exact ar ah (by unfold ah;omega)
theorem known6_holds (κ:Y3->Y1 R):b8 κ=κ true:=by kernel_rfl
def Hv (x:LV):Prop:=x.v.ps.length<=12/\x.v.pp.length<=12/\x.v.lg.length<=12
theorem zF:∀ (n:Nat) (a:List (List Y2)) (r:List Y2),a.length<=12->(zE n a r).length<=12
 | 0,a,r,h=>by rw [zE];exact h
 | n+1,a,r,h=>by
  rw [zE.eq_def]
  simp only
  split
  ·split
   ·exact h
   ·split
    ·simp;omega
    ·split
     ·exact zF n _ _ (by simp;omega)
     ·simp;omega
  ·exact h
theorem C8 (w:List Y2) (q:Nat × Nat) (p:List Y2) (f:Y3):Hv (er w q p f):=by
 refine ⟨(xg _ f).2,?_,zF _ [] _ (by simp)⟩
 show (if _ then ([]:List Pm) else wz _).length<=12
 split
 ·simp
 ·exact (m7 _ [] _ trivial (by simp)).2
theorem CG {w:List Y2} {x:LV} (em:Y3) (h:Hv x):Hv (cI w x em):=by
 unfold cI
 split
 ·split
  ·exact h
  ·split
   ·exact ⟨by show ([]:List Pm).length<=12;simp,h.2.1,h.2.2⟩
   ·exact h
 ·split
  ·exact h
  ·exact h
def cO (w:List Y2):LV × LA × Nat:=cZ w 6 (er w (0,w.length) [] false) 0 true 0
theorem GW (w:List Y2) (hw:w.length<=200000) (κ:BA->BA->BA->LA->T0 R):bh (B w) κ=κ (B (cO w).1.p) (B (cO w).1.v.ty) (B (cO w).1.v.sub) ((cO w).1.v.ps.map bw) (cO w).1.v.i0 (B (cO w).1.v.i1) (cO w).1.v.a0 (B (cO w).1.v.a1) (du (cO w).1.v.c1) (B (cO w).1.v.c1) (du (cO w).1.v.p1) (B (cO w).1.v.p1) ((cO w).1.v.pp.map bw) (bH (cO w).1.v.lg) (cO w).1.v.w0 (B (cO w).1.v.w1) ((cO w).1.a:Int) ((cO w).1.b:Int) ((cO w).1.c:Int) ((cO w).1.d:Int) ((cO w).1.e:Int) (cO w).2.1:=by
 have key:∀ f,bh.e aE al (B w) (bh.L4 aE al κ (f+1)) κ=κ (B (cO w).1.p) (B (cO w).1.v.ty) (B (cO w).1.v.sub) ((cO w).1.v.ps.map bw) (cO w).1.v.i0 (B (cO w).1.v.i1) (cO w).1.v.a0 (B (cO w).1.v.a1) (du (cO w).1.v.c1) (B (cO w).1.v.c1) (du (cO w).1.v.p1) (B (cO w).1.v.p1) ((cO w).1.v.pp.map bw) (bH (cO w).1.v.lg) (cO w).1.v.w0 (B (cO w).1.v.w1) ((cO w).1.a:Int) ((cO w).1.b:Int) ((cO w).1.c:Int) ((cO w).1.d:Int) ((cO w).1.e:Int) (cO w).2.1:=by
  intro f
  have j:(lO w (0,w.length)).length=w.length:=jt (q:=(0,w.length)) (Nat.zero_le _) (Nat.le_refl _)
  have A:=FR (R:=R) (w:=w) (s:=lO w (0,w.length)) (F:=0) (by rw [Nat.zero_add,j];rfl) (by omega) hw 0 false
  rw [j,Nat.zero_add] at A
  unfold bh.e
  rw [iW]
  refine (A _).trans ?_
  have M:=fun m u=>Jl (R:=R) hw 6 ah (er w (0,w.length) [] false) 0 false 0 m u (lB (Nat.zero_le _) (Nat.le_refl _) _ _) (by show 0+3*6<=1000;omega) rfl (by omega) (by unfold ah;omega) (by omega)
  unfold oO al
  refine (M _ _ ?_).trans ?_
  ·intro z c k;rfl
  ·rw [bh.L4,bh.t4];rfl
 exact key (ah-1)
theorem G8 (w:List Y2) (hw:w.length<=200000) (κ:BA->BA->BA->LA->T0 R):bO (B w) κ=κ (B (cO w).1.p) (B (cO w).1.v.ty) (B (cO w).1.v.sub) ((cO w).1.v.ps.map bw) (cO w).1.v.i0 (B (cO w).1.v.i1) (cO w).1.v.a0 (B (cO w).1.v.a1) (du (cO w).1.v.c1) (B (cO w).1.v.c1) (du (cO w).1.v.p1) (B (cO w).1.v.p1) ((cO w).1.v.pp.map bw) (bH (cO w).1.v.lg) (cO w).1.v.w0 (B (cO w).1.v.w1) ((cO w).1.a:Int) ((cO w).1.b:Int) ((cO w).1.c:Int) ((cO w).1.d:Int) ((cO w).1.e:Int) (cO w).2.1:=by
 have f:(lO w (0,w.length)).length=w.length:=jt (q:=(0,w.length)) (Nat.zero_le _) (Nat.le_refl _)
 have m:=DJ (R:=R) (w:=w) (s:=lO w (0,w.length)) (F:=0) (by rw [Nat.zero_add,f];rfl) (by omega) hw (B []) false
 rw [f,Nat.zero_add] at m
 unfold bO bO.e
 rw [iW]
 refine (m _).trans ?_
 have u:=fun j=>I9 (R:=R) hw 6 ah (er w (0,w.length) [] false) 0 true 0 j (lB (Nat.zero_le _) (Nat.le_refl _) _ _) (by show 0+3*6<=1000;omega) rfl (by omega) (by unfold ah;omega) (by omega)
 unfold oO aw
 exact u _
theorem eJ {a b:Int} (h:a≠b):(a == b)=false:=beq_eq_false_iff_ne.2 h
theorem eS {a b:Int} (h:a=b):(a == b)=true:=beq_iff_eq.2 h
def Io (N:Nat) (y:LV):Prop:=y.a<=y.b/\y.b=y.c/\y.c<=y.d/\y.d<=N
def Gw (N:Nat):Nat->LV->LA->Prop
 | 0,y,k=>Io N y/\y.p.length<=100/\k=[]
 | n+1,y,k=>Io N y/\y.p.length+3*(n+1)<=100/\k.length<=16/\(dI y=true->k≠[]->∃ f k0 r,k=ac f k0::r/\f.a=y.c/\f.d=y.d/\Gw N n f k0)/\∀ v∈k,∃ f k0,v=ac f k0/\Gw N n f k0
theorem Gw.pl {N:Nat}:∀ {n:Nat} {y:LV} {k:LA},Gw N n y k->Io N y
 | 0,_,_,h=>h.1
 | _+1,_,_,h=>h.1
theorem Gw.I2 {N:Nat}:∀ {n:Nat} {y:LV} {k:LA},Gw N n y k->y.p.length<=100
 | 0,_,_,h=>h.2.1
 | _+1,_,_,h=>by have:=h.2.1;omega
theorem Gw.IP {N:Nat}:∀ {n:Nat} {y:LV} {k:LA},Gw N n y k->k.length<=16
 | 0,_,_,h=>by rw [h.2.2];simp
 | _+1,_,_,h=>h.2.2.1
theorem Gw.BL {N:Nat}:∀ {n:Nat} {y:LV} {k:LA},Gw N n y k->∀ v∈k,∃ m f k0,n=m+1/\v=ac f k0/\Gw N m f k0
 | 0,_,_,h,v,j=>by rw [h.2.2] at j;cases j
 | m+1,_,_,h,v,j=>by obtain ⟨f,k0,u,z⟩:=h.2.2.2.2 v j;exact ⟨m,f,k0,rfl,u,z⟩
theorem Gw.IZ {N:Nat}:∀ {n:Nat} {y:LV} {k:LA},Gw N n y k->dI y=true->k≠[]->∃ m f k0 r,n=m+1/\k=ac f k0::r/\f.a=y.c/\f.d=y.d/\Gw N m f k0
 | 0,_,_,h,_,j=>absurd h.2.2 j
 | m+1,_,_,h,hm,j=>by obtain ⟨f,k0,r,u,z,A,M⟩:=h.2.2.2.1 hm j;exact ⟨m,f,k0,r,rfl,u,z,A,M⟩
theorem FN (w:List Y2) (x:LV) (em:Y3):(cI w x em).p=x.p:=by
 unfold cI gk
 split
 ·split
  ·rfl
  ·split <;> rfl
 ·split <;> rfl
theorem F3 (w:List Y2) (n:Nat) (x:LV) (deep:Nat) (is:Y3) (f:Nat):(cZ w n x deep is f).1.a=x.a/\(cZ w n x deep is f).1.d=x.d:=by
 cases n with
 | zero=>exact ⟨rfl,rfl⟩
 | succ n =>
  rw [cZ]
  split
  ·exact ⟨(nq w x _).1,(nq w x _).2.2.2⟩
  ·exact ⟨(nq w x _).1,(nq w x _).2.2.2⟩
theorem vO {P:AV->Prop} {rec:LV->Nat->LV × LA × Nat} {w:List Y2} {j:Nat->List Y2} {z:Y3} (f:∀ q i c,q.1<=q.2->q.2<=w.length->P (ac (rec (er w q (j i) z) c).1 (rec (er w q (j i) z) c).2.1)):∀ (r:List (Nat × Nat)) (i:Nat) (acc:LA) (m:Nat),(∀ v∈acc,P v)->(∀ q∈r,q.1<=q.2/\q.2<=w.length)->∀ v∈(cM rec w j z i acc m r).1,P v
 | [],_,_,_,h,_=>h
 | q::r,i,acc,m,h,A=>by
  rw [cM]
  refine vO f r _ _ _ (fun v M => ?_) fun p N=>A p (by simp [N])
  rcases List.mem_append.1 M with u|u
  ·exact h v u
  ·rw [mem_singleton] at u;subst u
   exact f q (i+1) m (A q (by simp)).1 (A q (by simp)).2
theorem F2 {w:List Y2} (hw:w.length<=200000):∀ (n:Nat) (x:LV) (deep:Nat) (is:Y3) (f:Nat),Dw w x->x.b=x.c->x.a<=x.c->x.p.length+3*n<=100->Gw w.length n (cZ w n x deep is f).1 (cZ w n x deep is f).2.1
 | 0,x,deep,is,f,u,A,O,U=>⟨⟨(show x.a<=x.b by rw [A];exact O),A,u.1,u.2.1⟩,(show x.p.length<=100 by omega),rfl⟩
 | n+1,x,deep,is,f,u,A,O,U=>by
  have pl:∀ em,Io w.length (cI w x em):=fun em=>by
   obtain ⟨p1,V,M,N⟩:=nq w x em
   exact ⟨by rw [p1,V,A];exact O,by rw [V,M,A],by rw [M,N];exact u.1,by rw [N];exact u.2.1⟩
  rw [cZ]
  split
  ·rename_i c
   have j:=yv hw u
   have BL:∀ (q:Nat × Nat) (i cc:Nat),q.1<=q.2->q.2<=w.length->Gw w.length n (cZ w n (er w q (db x is i) (eR x)) (deep+1) (dI x) cc).1 (cZ w n (er w q (db x is i) (eR x)) (deep+1) (dI x) cc).2.1:=fun q i cc W X=>by
    refine F2 hw n _ _ _ _ (lB W X _ _) rfl (Nat.le_add_right _ _) ?_
    have:=zT x is i
    show (db x is i).length+3*n<=100
    omega
   have hlen:=mC (rec:=fun y c=>cZ w n y (deep+1) (dI x) c) (w:=w) (db x is) (eR x) (gd w x) 0 [] (f+(gd w x).length)
   refine ⟨pl _,by rw [FN];exact U,(by simp only [length_nil] at hlen;show (cM _ _ _ _ _ _ _ _).1.length<=16;omega),fun hm z => ?_,vO (P:=fun v=>∃ y0 k0,v=ac y0 k0/\Gw w.length n y0 k0) (fun q i cc W X=>⟨_,_,rfl,BL q i cc W X⟩) _ _ _ _ (fun v Y=>(by cases Y)) j⟩
   generalize m:cM (fun y c=>cZ w n y (deep+1) (dI x) c) w (db x is) (eR x) 0 [] (f+(gd w x).length) (gd w x)=K at hm z ⊢
   have ad:K.1.isEmpty=false:=by cases h:K.1 with
    | nil=>exact absurd h z
    | cons a l=>rfl
   rw [ad] at hm ⊢
   have ae:dI x=true:=by
    have:dI (cI w x false)=dI x:=by
     show dI (if dI x then { x with e:=eE (dH w x) } else x)=_
     split <;> rfl
    rw [<- this];exact hm
   obtain ⟨p1,V,M,N⟩:=nq w x false
   rw [M,N]
   unfold gd at m j
   rw [if_pos ae] at m j
   split at m
   ·rename_i ap
    rw [if_pos ap] at j
    have hq:=j (x.c,x.d) (by simp)
    rw [cM,cM,nil_append] at m
    refine ⟨(cZ w n (er w (x.c,x.d) (db x is (0+1)) (eR x)) (deep+1) (dI x) (f+[(x.c,x.d)].length)).1,(cZ w n (er w (x.c,x.d) (db x is (0+1)) (eR x)) (deep+1) (dI x) (f+[(x.c,x.d)].length)).2.1,[],by rw [<- m],(F3 ..).1,(F3 ..).2,BL (x.c,x.d) (0+1) _ hq.1 hq.2⟩
   ·rw [cM] at m;rw [<- m] at z;exact absurd rfl z
  ·exact ⟨pl _,by rw [FN];exact U,by simp,fun _ z=>absurd rfl z,fun v Y=>(by cases Y)⟩
def I4 (at' p:List Y2):List Y2:=if p=[] then at' else at'++46::p
def JQ (F:Nat) (at':List Y2) (y:LV):LV:={ y with p:=I4 at' y.p,a:=y.a+F,b:=y.b+F,c:=y.c+F,d:=y.d+F }
def Ij (w v:List Y2) (F:Nat):Prop:=∃ z,w.drop F=v++z
theorem Ij.slice {w v:List Y2} {F:Nat} (h:Ij w v F) {a b:Nat} (f:b<=v.length):(w.take (b+F)).drop (a+F)=(v.take b).drop a:=by
 obtain ⟨z,j⟩:=h
 have m:(w.take (b+F)).drop F=v.take b:=by
  rw [List.drop_take,j,show b+F-F=b by omega,List.take_append_of_le_length f]
 rw [show a+F=F+a by omega,<- drop_drop,m]
theorem Ij.body {w v:List Y2} {F:Nat} (h:Ij w v F) {x:LV} (f:x.d<=v.length) (at':List Y2):dH w (JQ F at' x)=dH v x:=h.slice f
theorem um (s p:List Y2) (f:s.length<=1000000) (j:p.length<=1000000) (κ:Y3->Y1 R):bN (B s) (B p) κ=κ (decide (s.drop (s.length-p.length)=p)):=by
 unfold bN bN.e
 simp only [b6]
 by_cases h:p.length<=s.length
 ·have hw:wrap .i64 ((s.length:Int)-(p.length:Int))=((s.length-p.length:Nat):Int):=by rw [wrap_i64 (by omega) (by omega)];omega
  rw [ai (by omega)]
  simp only [hw,dh,Int.toNat_natCast,take_length,eg]
  rw [aq,ab (by omega),aq,ab (by omega),ab (by omega)]
 ·rw [af (by omega)]
  congr 1
  symm;rw [decide_eq_false_iff_not]
  intro e;have:=congrArg List.length e
  rw [length_drop] at this;omega
theorem yL (s p:List Y2) (f:s.length<=1000000) (j:p.length<=1000000) (κ:Y3->Y1 R):bG (B s) (B p) κ=κ (decide (s.drop (s.length-p.length)=p)):=um s p f j κ
def c2:List Y2:=[13,10]
def c4:List Y2:=[13,10,13,10]
def gR (c:List Y2):Y3:=decide (c.drop (c.length-2)=[13,10])
def nj (c:List Y2):List Y2:=bif gR c then c else c++[13,10]
theorem og (x y:List Y2) (m:gR x=true) (hy:y≠[]):gR (x++y)=gR y:=by
 unfold gR at m ⊢
 have f:=of_decide_eq_true m
 have z:2<=x.length:=by
  have:=congrArg List.length f
  rw [length_drop] at this;simp at this;omega
 match y,hy with
 | [c],_ =>
  have e:(x++[c]).drop ((x++[c]).length-2)=[10,c]:=by
   have j:(x++[c]).length-2=x.length-1:=by simp
   rw [j,List.drop_append_of_le_length (by omega),show x.length-1=(x.length-2)+1 by omega,<- drop_drop,f];rfl
  rw [e]
  have u:([c]:List Y2).drop ([c].length-2)=[c]:=rfl
  rw [u,decide_eq_false (by simp),decide_eq_false (by simp)]
 | c::d::r,_ =>
  have j:(x++c::d::r).length-2=x.length+((c::d::r).length-2):=by simp only [length_append,length_cons];omega
  rw [j,<- drop_drop,drop_left]
theorem oK:∀ (l:List Y2),ln l<l.length->gR (l.take (ln l))=true
 | [],h=>by simp at h
 | c::r,h=>by
  by_cases e:c=13/\r.head? = some 10
  ·obtain ⟨rfl,m⟩:=e
   cases r with
   | nil=>cases m
   | cons d r=>cases m;rw [kI];rfl
  ·rw [o7 c r e] at h ⊢
   have j:=oK r (by simp only [length_cons] at h;omega)
   rw [show (c::r).take (1+ln r)=c::r.take (ln r) by rw [Nat.add_comm];rfl]
   revert j
   generalize r.take (ln r)=x
   unfold gR
   intro j
   have f:=of_decide_eq_true j
   have u:=congrArg List.length f
   rw [length_drop] at u
   simp only [length_cons,length_nil] at u
   apply decide_eq_true
   rw [show (c::x).length-2=(x.length-2)+1 by simp only [length_cons];omega]
   exact f
abbrev Rw:=List Y2 × List Y2 × Y3 × Y3
theorem EK (c:List Y2) (f:c.length<=1000000) (κ:Y3->Y1 R):bG (B c) (⟨#[13,10]⟩:BA) κ=κ (gR c):=yL c [13,10] f (by decide) κ
def Iu (f:List Rw):Nat:=(f.map fun r=>r.1.length+2).sum
theorem w8 (r:Rw) (f:List Rw):Iu (r::f)=r.1.length+2+Iu f:=rfl
theorem Fi {f:List Rw} {i:Nat} {r:Rw} (h:f[i]? = some r):bi (f.map ec) (i:Int)=ec r:=eD (by rw [List.getElem?_map,h];rfl)
theorem nV:∀ (fld:Y3) (f:List Y2) (l:List (List Y2)),(dK fld f l).map (fun r=>r.1)=l
 | fld,f,[]=>rfl
 | fld,f,c::r=>by
  unfold dK
  cases dl (c.headD 0) with
  | true=>simp only [cond_true,map_cons];rw [nV]
  | false=>simp only [cond_false,map_cons];rw [nV]
theorem FA (f:List Rw):Iu f=total (f.map fun r=>r.1)+2*f.length:=by
 induction f with
 | nil=>rfl
 | cons r t j=>rw [w8,j,map_cons,length_cons];simp only [total];omega
theorem gh (c:List Y2):(fresh c).2.2=c:=by
 unfold fresh
 cases eV c <;> rfl
theorem kE:∀ (u:List (List Y2)) (m:Option Fl) (n:Nat),(∀ x,m=some x->x.2.2.length+total u<=n)->total u<=n->∀ x∈cQ m u,x.2.2.length<=n
 | [],none,n,h,j,x,f=>by rw [cQ] at f;cases f
 | [],some y,n,h,j,x,f=>by
  rw [cQ,mem_singleton] at f;subst f
  have:=h x rfl;simp only [total] at this;omega
 | c::r,none,n,h,j,x,f=>by
  rw [cQ] at f
  refine kE r _ n ?_ (by simp only [total] at j;omega) x f
  intro y e;cases e
  simp only [total] at j
  rw [gh];omega
 | c::r,some y,n,h,j,x,f=>by
  have hy:=h y rfl
  simp only [total] at j hy
  rw [cQ] at f
  have M:=gh c
  cases A:dl (c.headD 0) with
  | true =>
   rw [A,cond_true] at f
   refine kE r _ n ?_ (by omega) x f
   intro z e;cases e
   have:(ext y c).2.2.length=y.2.2.length+c.length:=by unfold ext;simp
   omega
  | false =>
   rw [A,cond_false,mem_cons] at f
   rcases f with rfl|f
   ·omega
   ·refine kE r _ n ?_ (by omega) x f
    intro z e;cases e;rw [M];omega
def oN (f:List Y2) (j:LA):Y3:=j.any fun a=>decide (dT f=dT (bl a.s))
theorem rO (f:List Y2) (a:AV) (r:LA):oN f (a::r)=(decide (dT f=dT (bl a.s))||oN f r):=by unfold oN;rw [List.any_cons]
def yt (f:Y3) (j:LA) (r:Rw):Y3:=(r.2.2.2&&oN r.2.1 j) == f
def qK (f:Y3) (j:LA) (r:Rw):List Y2:=bif yt f j r then [] else nj r.1
def oD (f:Y3) (j:LA) (m:List Rw):List Y2:=(m.map (qK f j)).flatten
def oU (f:Y3) (j:LA) (x:Fl):Y3:=(decide (x.1≠[])&&oN x.1 j) == f
def mm (f:Y3) (j:LA) (x:Fl):List Y2:=bif oU f j x then [] else nj x.2.2
def BM (f:Y3) (j:LA) (l:List Fl):List Y2:=(l.map (mm f j)).flatten
def GL:List (List Y2)->Prop
 | []=>True
 | [c]=>c≠[]
 | c::d::r=>c≠[]/\gR c=true/\GL (d::r)
theorem GL.tail {c:List Y2} {r:List (List Y2)} (h:GL (c::r)):c≠[]/\(r≠[]->gR c=true)/\GL r:=by
 cases r with
 | nil=>exact ⟨h,fun e=>absurd rfl e,trivial⟩
 | cons d t=>exact ⟨h.1,fun _=>h.2.1,h.2.2⟩
theorem vq (x y:List Y2) (f:gR x=true) (hy:y≠[]):nj (x++y)=x++nj y:=by
 unfold nj
 rw [og x y f hy]
 cases gR y <;> simp
theorem pL {x:List Y2} (f:gR x=true):nj x=x:=by unfold nj;rw [f];rfl
theorem lM (fld:Y3) (f c:List Y2) (r:List (List Y2)):dK fld f (c::r)=bif dl (c.headD 0) then (c,f,false,fld)::dK fld f r else (c,fC c,eV c,eV c)::dK (eV c) (fC c) r:=rfl
theorem p9 (x:Fl) (c:List Y2) (r:List (List Y2)):cQ (some x) (c::r)=bif dl (c.headD 0) then cQ (some (ext x c)) r else x::cQ (some (fresh c)) r:=rfl
theorem pP (c:List Y2):(decide ((fresh c).1≠[])=eV c)/\(eV c=true->(fresh c).1=fC c):=by
 unfold fresh
 cases h:eV c with
 | false=>exact ⟨by simp,fun e=>by cases e⟩
 | true=>exact ⟨by simp only [cond_true];exact decide_eq_true (C2 h),fun _=>rfl⟩
theorem mO (f:Y3) (j:LA) (x:Fl) (c:List Y2) (b fld:Y3) (m:List Y2) (u:decide (x.1≠[])=fld) (z:fld=true->x.1=m):yt f j (c,m,b,fld)=oU f j x:=by
 unfold yt oU
 rw [u]
 cases fld with
 | false=>rfl
 | true=>rw [z rfl]
theorem kN (f:Y3) (j:LA):∀ (M:List (List Y2)) (x:Fl) (fld:Y3) (m:List Y2),GL M->(M=[]∨gR x.2.2=true)->decide (x.1≠[])=fld->(fld=true->x.1=m) ->
  BM f j (cQ (some x) M)=mm f j x++oD f j (dK fld m M)
 | [],x,fld,m,V,u,N,O=>by simp [cQ,BM,dK,oD]
 | c::r,x,fld,m,V,u,N,O=>by
  obtain ⟨g1,g2,g3⟩:=V.tail
  have U:gR x.2.2=true:=by
   rcases u with u|u
   ·cases u
   ·exact u
  rw [p9,lM]
  cases hb:dl (c.headD 0) with
  | true =>
   simp only [cond_true]
   have he:r=[]∨gR (ext x c).2.2=true:=by
    by_cases z:r=[]
    ·exact .inl z
    ·refine .inr ?_
     show gR (x.2.2++c)=true
     rw [og _ _ U g1];exact g2 z
   rw [kN f j r (ext x c) fld m g3 he N O]
   have W:oU f j (ext x c)=oU f j x:=rfl
   have A:oD f j ((c,m,false,fld)::dK fld m r)=qK f j (c,m,false,fld)++oD f j (dK fld m r):=by unfold oD;simp
   rw [A,<- append_assoc]
   congr 1
   unfold mm qK
   rw [W,mO f j x c false fld m N O]
   cases oU f j x with
   | true=>rfl
   | false =>
    simp only [cond_false]
    show nj (x.2.2++c)=_
    rw [vq _ _ U g1,pL U]
  | false =>
   simp only [cond_false]
   obtain ⟨f1,f2⟩:=pP c
   have he:r=[]∨gR (fresh c).2.2=true:=by
    rw [gh]
    by_cases z:r=[]
    ·exact .inl z
    ·exact .inr (g2 z)
   have X:=kN f j r (fresh c) (eV c) (fC c) g3 he f1 f2
   have Y:BM f j (x::cQ (some (fresh c)) r)=mm f j x++BM f j (cQ (some (fresh c)) r):=by unfold BM;simp
   have h6:oD f j ((c,fC c,eV c,eV c)::dK (eV c) (fC c) r)=qK f j (c,fC c,eV c,eV c)++oD f j (dK (eV c) (fC c) r):=by unfold oD;simp
   rw [Y,X,h6]
   congr 2
   unfold mm qK
   rw [mO f j (fresh c) c (eV c) (eV c) (fC c) f1 f2,gh]
theorem DB (f:Y3) (j:LA) (m:List (List Y2)) (h:GL m):BM f j (cQ none m)=oD f j (dK false [] m):=by
 cases m with
 | nil=>rfl
 | cons c r =>
  obtain ⟨g1,g2,g3⟩:=h.tail
  obtain ⟨f1,f2⟩:=pP c
  have he:r=[]∨gR (fresh c).2.2=true:=by
   rw [gh]
   by_cases A:r=[]
   ·exact .inl A
   ·exact .inr (g2 A)
  have e:cQ none (c::r)=cQ (some (fresh c)) r:=rfl
  rw [e,lM]
  cases M:dl (c.headD 0) with
  | true =>
   have N:eV c=false:=by
    cases c with
    | nil=>exact absurd rfl g1
    | cons a t=>exact nE M
   rw [N] at f1 f2
   simp only [cond_true]
   have u:=kN f j r (fresh c) false [] g3 he f1 (fun e=>by cases e)
   have z:oD f j ((c,[],false,false)::dK false [] r)=qK f j (c,[],false,false)++oD f j (dK false [] r):=by unfold oD;simp
   rw [u,z]
   congr 1
   unfold mm qK
   rw [mO f j (fresh c) c false false [] f1 (fun e=>by cases e),gh]
  | false =>
   simp only [cond_false]
   have u:=kN f j r (fresh c) (eV c) (fC c) g3 he f1 f2
   have z:oD f j ((c,fC c,eV c,eV c)::dK (eV c) (fC c) r)=qK f j (c,fC c,eV c,eV c)++oD f j (dK (eV c) (fC c) r):=by unfold oD;simp
   rw [u,z]
   congr 1
   unfold mm qK
   rw [mO f j (fresh c) c (eV c) (eV c) (fC c) f1 f2,gh]
theorem yX:∀ (n:Nat) (h:List Y2),h.length<=n->GL (dF h)
 | n,[],j=>by rw [nB];trivial
 | 0,c::r,j=>by simp at j
 | n+1,c::r,j=>by
  cases u:List.isPrefixOf [13,10] (c::r) with
  | true=>rw [qb u];trivial
  | false =>
   have z:=Di c r
   have hle:=FU (c::r)
   have A:=yX n ((c::r).drop (ln (c::r))) (by rw [length_drop];omega)
   have f:(c::r).take (ln (c::r))≠[]:=by
    intro e;have:=congrArg List.length e;rw [length_take] at this;simp only [length_nil,length_cons] at this hle;omega
   rw [qa u]
   cases m:dF ((c::r).drop (ln (c::r))) with
   | nil=>exact f
   | cons d t =>
    rw [m] at A
    refine ⟨f,oK (c::r) ?_,A⟩
    rcases Nat.lt_or_ge (ln (c::r)) (c::r).length with h|h
    ·exact h
    ·rw [List.drop_eq_nil_of_le h,nB] at m;cases m
theorem yw (f:Y3) (j:LA) (h:List Y2):BM f j (cQ none (dF h))=oD f j (dK false [] (dF h)):=DB f j _ (yX _ h (Nat.le_refl _))
theorem B1 (c:List Y2):((fb c).length == c.length) = !gR c:=by
 unfold fb gR
 by_cases h:c.drop (c.length-2)=[13,10]
 ·have f:=congrArg List.length h
  rw [length_drop] at f
  simp only [length_cons,length_nil] at f
  rw [if_pos h,decide_eq_true h,length_take]
  simp;omega
 ·rw [if_neg h,decide_eq_false h];simp
abbrev Fa (κ:BA->Y1 R) (f:Nat):=cJ.L3 bA aA av cv bG κ f
abbrev G4 (κ:BA->Y1 R) (f:Nat):=cJ.L7 bA aA av cv bG κ f
theorem DC (κ:BA->Y1 R) (f:Nat) (x0:Y3) (j:LA) (m u:Int) (z A:LA):Fa κ (f+1) x0 j m u z A=cJ.t3 aA av (G4 κ f) κ x0 j m u z A:=by
 try unfold Fa
 try unfold G4
 try unfold cJ.L3
 try unfold cJ.L7
 rw [cJ.M3]
theorem DD (κ:BA->Y1 R) (f:Nat) (x0:Y3) (A:LA) (M:Y3) (N O:Int) (U:LA) (V W:Int) (X:LA) (Y j:BA) (m u:Y3) (z:LA):G4 κ (f+1) x0 A M N O U V W X Y j m u z
  = cJ.t7 aA cv bG (Fa κ f) (G4 κ f) x0 A M N O U V W X Y j m u z:=by
 try unfold Fa
 try unfold G4
 try unfold cJ.L3
 try unfold cJ.L7
 rw [cJ.M3]
theorem wy (u:Y3) (j:LA) (ad:j.length<=1000) (hf:∀ a∈j,Fit NB a) (n i:Nat) (acc:LA) (r:Rw) (hr:r.2.1.length<=NB) (N:LA) (κ:BA->Y1 R) (X:Y1 R) (g:Nat)
  (hX:∀ Y,g<=Y->(bif yt u j r then Fa κ Y u j (n:Int) (wrap .i64 ((i:Int)+1)) acc N else (aA acc (B r.1) (fun _ z=>(bG (B r.1) (⟨#[13,10]⟩:BA) (fun O=>(bif (!O) then (aA z (⟨#[13,10]⟩:BA) (fun _ U=>(Fa κ Y u j (n:Int) (wrap .i64 ((i:Int)+1)) U N))) else (Fa κ Y u j (n:Int) (wrap .i64 ((i:Int)+1)) z N)))))))=X) :
  ∀ (m k f:Nat) (b:Y3),j.length<=k+m->k<=j.length->(b||(r.2.2.2&&oN r.2.1 (j.drop k)))=(r.2.2.2&&oN r.2.1 j)->g+m+1<=f ->
   G4 κ f u j b (n:Int) (i:Int) j (j.length:Int) (k:Int) acc (B r.1) (B r.2.1) r.2.2.1 r.2.2.2 N=X
 | m,k,0,b,h1,h2,A,h4=>by omega
 | m,k,f+1,b,h1,h2,A,h4=>by
  rw [DD,cJ.t7]
  have ae:wrap .i64 ((k:Int)+1)=((k+1:Nat):Int):=wrap_i64 (by omega) (by omega)
  cases V:j.drop k with
  | nil =>
   have:=drop_nil V
   rw [V] at A
   have hb:(b == u)=yt u j r:=by
    unfold yt;rw [<- A];unfold oN;simp
   rw [af (by omega),hb]
   exact hX f (by omega)
  | cons a t =>
   obtain ⟨g1,g2,g3⟩:=cG V
   have ha:=hf a (List.mem_of_getElem? g1)
   rw [V,rO] at A
   obtain ⟨m',rfl⟩:∃ m',m=m'+1:=⟨m-1,by omega⟩
   have M:=fun b' h=>wy u j ad hf n i acc r hr N κ X g hX m' (k+1) f b' (by omega) (by omega) h (by omega)
   rw [g3] at M
   rw [ai (by omega),aq,ab (by omega),ab (by omega),ae]
   cases b with
   | true =>
    simp only [cond_true]
    exact M true (by simpa using A)
   | false =>
    simp only [cond_false]
    cases W:r.2.2.2 with
    | false =>
     simp only [cond_false]
     rw [W] at M A
     exact M false (by simp)
    | true =>
     simp only [cond_true]
     rw [W] at M A
     rw [mW V,Db _ _ (by rw [b6];exact hr) ha.s,jR]
     exact M _ (by simpa using A)
theorem pa (z:Y3) (u:LA) (A:u.length<=1000) (O:∀ a∈u,Fit NB a) (j:List Rw) (W:j.length<=1000000) (M:∀ r∈j,r.2.1.length<=NB) (κ:BA->Y1 R):∀ (m i f:Nat) (acc:List Y2),j.length<=i+m->i<=j.length->2000*m+1<=f->acc.length+Iu (j.drop i)<=1000000 ->
  Fa κ f z u (j.length:Int) (i:Int) (dz acc) (j.map ec)=κ (B (acc++oD z u (j.drop i)++[13,10]))
 | m,i,0,acc,h1,h2,h3,U=>by omega
 | m,i,f+1,acc,h1,h2,h3,U=>by
  rw [DC,cJ.t3]
  have ae:=fF acc
  have ap:(j.map ec).length=j.length:=length_map ..
  have X:wrap .i64 ((i:Int)+1)=((i+1:Nat):Int):=wrap_i64 (by omega) (by omega)
  cases V:j.drop i with
  | nil =>
   have:=drop_nil V
   rw [V] at U
   rw [af (by omega),show ((⟨#[13,10]⟩:BA))=B [13,10] from rfl,lR _ _ _ (by rw [fF,b6];simp at U ⊢;omega),xA,iJ,pi]
   unfold oD
   simp
  | cons r t =>
   obtain ⟨g1,g2,g3⟩:=cG V
   obtain ⟨m',rfl⟩:∃ m',m=m'+1:=⟨m-1,by omega⟩
   rw [V,w8] at U
   have Y:oD z u (r::t)=qK z u r++oD z u t:=by unfold oD;simp
   rw [ai (by omega),aq,ab (by omega),ab (by omega),Fi g1]
   rw [show ((ec r).fld 0).s=B r.1 from rfl,show ((ec r).fld 1).s=B r.2.1 from rfl,show ((ec r).fld 2).b=r.2.2.1 from rfl,show ((ec r).fld 3).b=r.2.2.2 from rfl]
   refine wy z u A O j.length i (dz acc) r (M r (List.mem_of_getElem? g1)) (j.map ec) κ _ (2000*m'+1) (fun f' N => ?_) u.length 0 f false (by omega) (by omega) (by simp) (by omega)
   rw [X,Y]
   unfold qK
   cases yt z u r with
   | true =>
    simp only [cond_true]
    have:=pa z u A O j W M κ m' (i+1) f' acc (by omega) (by omega) N (by rw [g3];omega)
    rw [g3] at this
    rw [this];simp
   | false =>
    simp only [cond_false]
    rw [lR _ _ _ (by rw [fF,b6];omega),xA,iJ,EK r.1 (by omega)]
    cases he:gR r.1 with
    | true =>
     have:=pa z u A O j W M κ m' (i+1) f' (acc++r.1) (by omega) (by omega) N (by rw [g3,length_append];omega)
     rw [g3] at this
     simp only [Bool.not_true,cond_false]
     rw [this,pL he];simp
    | false =>
     have ad:nj r.1=r.1++[13,10]:=by unfold nj;rw [he];rfl
     have:=pa z u A O j W M κ m' (i+1) f' (acc++r.1++[13,10]) (by omega) (by omega) N (by rw [g3,length_append,length_append];simp;omega)
     rw [g3] at this
     simp only [Bool.not_false,cond_true]
     rw [show ((⟨#[13,10]⟩:BA))=B [13,10] from rfl,lR _ _ _ (by rw [fF,b6,length_append];simp;omega),xA,iJ,this,ad];simp
theorem qL:∀ (fld:Y3) (j:List Y2) (l:List (List Y2)) (N:Nat),j.length<=N->total l<=N->∀ r∈dK fld j l,r.2.1.length<=N
 | fld,j,[],N,m,u,r,f=>by rw [dK] at f;cases f
 | fld,j,c::t,N,m,u,r,f=>by
  simp only [total] at u
  rw [lM] at f
  cases z:dl (c.headD 0) with
  | true =>
   rw [z,cond_true] at f
   rcases List.mem_cons.1 f with h|h
   ·rw [h];exact m
   ·exact qL fld j t N m (by omega) r h
  | false =>
   rw [z,cond_false] at f
   have:=uF c
   rcases List.mem_cons.1 f with h|h
   ·rw [h];show (fC c).length<=N;omega
   ·exact qL _ _ t N (by omega) (by omega) r h
theorem Da (m:Y3) (j:LA) (u:j.length<=1000) (z:∀ a∈j,Fit NB a) (h:List Y2) (U:h.length<=200000) (κ:BA->Y1 R):cJ (B h) m j κ=κ (B (oD m j (dK false [] (dF h))++[13,10])):=by
 have V:=kF h
 have W:=gF h
 have X:=kP false [] (dF h)
 have A:=FA (dK false [] (dF h))
 rw [nV] at A
 have M:=qL false [] (dF h) 200000 (by simp) (by omega)
 have key:∀ f,2000*300000<f->cJ.e bA aA av cv bG (B h) m j (Fa κ f) (G4 κ f) κ=κ (B (oD m j (dK false [] (dF h))++[13,10])):=by
  intro f N
  unfold cJ.e
  rw [z7 h (by omega),length_map]
  have:=pa m j u z (dK false [] (dF h)) (by omega) (fun r O=>by have:=M r O;unfold NB;omega) κ (dK false [] (dF h)).length 0 f [] (by omega) (by omega) (by omega) (by simp only [length_nil,drop_zero];omega)
  rw [drop_zero,nil_append] at this
  exact this
 exact key ah (by unfold ah;omega)
def xj (v:AV):Y3:=bif decide ((v.fld 1).s=(⟨#[109,101,115,115,97,103,101]⟩:BA)) then decide ((v.fld 2).s=(⟨#[114,102,99,56,50,50]⟩:BA)) else false
def Bk (v:AV) (ins:Y3) (m:Int):Option (AV × Y3):=
 if (v.fld 1).s=(⟨#[109,117,108,116,105,112,97,114,116]⟩:BA)/\((v.fld 21).l.length:Int)>0 then (if m<1∨m>((v.fld 21).l.length:Int) then none else some (bi (v.fld 21).l (m-1),true)) else some (v,ins&&(m == 1))
def Bm (v:AV) (ins:Y3) (m:Int):Option (AV × Y3):=if ins=false/\xj v=true/\((v.fld 21).l.length:Int)>0 then Bk (bi (v.fld 21).l 0) true m else Bk v ins m
def Jm:Option (AV × Y3)->Option AV
 | some (u,true)=>some u
 | _=>none
def oX (v:AV) (ins:Y3) (m:Int):Option AV:=if m=0 then none else Jm (Bm v ins m)
def H8 (f:T1 R) (j:T2 R):Option (AV × Y3)->Y1 R
 | none=>f (⟨#[]⟩:BA) (⟨#[]⟩:BA) (⟨#[]⟩:BA) false (⟨#[]⟩:BA) false (⟨#[]⟩:BA) false (⟨#[]⟩:BA) false (⟨#[]⟩:BA) false (⟨#[]⟩:BA) 0 0 0 0 0 false
 | some (u,ok)=>j (u.fld 0).s (u.fld 1).s (u.fld 2).s (u.fld 3).l (u.fld 4).b (u.fld 5).s (u.fld 6).b (u.fld 7).s (u.fld 8).b (u.fld 9).s (u.fld 10).b (u.fld 11).s (u.fld 12).l (u.fld 13).l (u.fld 14).b (u.fld 15).s (u.fld 16).i (u.fld 17).i (u.fld 18).i (u.fld 19).i (u.fld 20).i (u.fld 21).l ok
def ID (f:T1 R) (j:BA->BA->BA->LA->T0 R):Option AV->Y1 R
 | none=>f (⟨#[]⟩:BA) (⟨#[]⟩:BA) (⟨#[]⟩:BA) false (⟨#[]⟩:BA) false (⟨#[]⟩:BA) false (⟨#[]⟩:BA) false (⟨#[]⟩:BA) false (⟨#[]⟩:BA) 0 0 0 0 0 false
 | some u=>j (u.fld 0).s (u.fld 1).s (u.fld 2).s (u.fld 3).l (u.fld 4).b (u.fld 5).s (u.fld 6).b (u.fld 7).s (u.fld 8).b (u.fld 9).s (u.fld 10).b (u.fld 11).s (u.fld 12).l (u.fld 13).l (u.fld 14).b (u.fld 15).s (u.fld 16).i (u.fld 17).i (u.fld 18).i (u.fld 19).i (u.fld 20).i (u.fld 21).l
theorem HT (v:AV) (κ:Y3->BA->BA->BA->LA->T0 R):an (v.fld 0).s (v.fld 1).s (v.fld 2).s (v.fld 3).l (v.fld 4).b (v.fld 5).s (v.fld 6).b (v.fld 7).s (v.fld 8).b (v.fld 9).s (v.fld 10).b (v.fld 11).s (v.fld 12).l (v.fld 13).l (v.fld 14).b (v.fld 15).s (v.fld 16).i (v.fld 17).i (v.fld 18).i (v.fld 19).i (v.fld 20).i (v.fld 21).l κ=κ (xj v) (v.fld 0).s (v.fld 1).s (v.fld 2).s (v.fld 3).l (v.fld 4).b (v.fld 5).s (v.fld 6).b (v.fld 7).s (v.fld 8).b (v.fld 9).s (v.fld 10).b (v.fld 11).s (v.fld 12).l (v.fld 13).l (v.fld 14).b (v.fld 15).s (v.fld 16).i (v.fld 17).i (v.fld 18).i (v.fld 19).i (v.fld 20).i (v.fld 21).l:=by
 unfold an an.e xj
 cases decide ((v.fld 1).s=(⟨#[109,101,115,115,97,103,101]⟩:BA)) with
 | true=>rfl
 | false=>rfl
theorem uN (v:AV) (ins:Y3) (m:Int) (hm:0<=m) (u:m<=100000000000) (j:T1 R) (f:T2 R):bK.t3 j f ins m (v.fld 0).s (v.fld 1).s (v.fld 2).s (v.fld 3).l (v.fld 4).b (v.fld 5).s (v.fld 6).b (v.fld 7).s (v.fld 8).b (v.fld 9).s (v.fld 10).b (v.fld 11).s (v.fld 12).l (v.fld 13).l (v.fld 14).b (v.fld 15).s (v.fld 16).i (v.fld 17).i (v.fld 18).i (v.fld 19).i (v.fld 20).i (v.fld 21).l (⟨#[]⟩:BA) (⟨#[]⟩:BA) (⟨#[]⟩:BA) false (⟨#[]⟩:BA) false (⟨#[]⟩:BA) false (⟨#[]⟩:BA) false (⟨#[]⟩:BA) false (⟨#[]⟩:BA) 0 0 0 0 0=H8 j f (Bk v ins m):=by
 have rest:(bif ins then f (v.fld 0).s (v.fld 1).s (v.fld 2).s (v.fld 3).l (v.fld 4).b (v.fld 5).s (v.fld 6).b (v.fld 7).s (v.fld 8).b (v.fld 9).s (v.fld 10).b (v.fld 11).s (v.fld 12).l (v.fld 13).l (v.fld 14).b (v.fld 15).s (v.fld 16).i (v.fld 17).i (v.fld 18).i (v.fld 19).i (v.fld 20).i (v.fld 21).l (m == 1) else f (v.fld 0).s (v.fld 1).s (v.fld 2).s (v.fld 3).l (v.fld 4).b (v.fld 5).s (v.fld 6).b (v.fld 7).s (v.fld 8).b (v.fld 9).s (v.fld 10).b (v.fld 11).s (v.fld 12).l (v.fld 13).l (v.fld 14).b (v.fld 15).s (v.fld 16).i (v.fld 17).i (v.fld 18).i (v.fld 19).i (v.fld 20).i (v.fld 21).l false)=f (v.fld 0).s (v.fld 1).s (v.fld 2).s (v.fld 3).l (v.fld 4).b (v.fld 5).s (v.fld 6).b (v.fld 7).s (v.fld 8).b (v.fld 9).s (v.fld 10).b (v.fld 11).s (v.fld 12).l (v.fld 13).l (v.fld 14).b (v.fld 15).s (v.fld 16).i (v.fld 17).i (v.fld 18).i (v.fld 19).i (v.fld 20).i (v.fld 21).l (ins&&(m == 1)):=by cases ins <;> rfl
 rw [bK.t3]
 unfold Bk
 by_cases c1:(v.fld 1).s=(⟨#[109,117,108,116,105,112,97,114,116]⟩:BA)
 ·by_cases c2:((v.fld 21).l.length:Int)>0
  ·rw [if_pos ⟨c1,c2⟩,ai c1,ai c2]
   by_cases c3:m<1
   ·rw [ai c3,if_pos (.inl c3)];rfl
   ·by_cases c4:m>((v.fld 21).l.length:Int)
    ·rw [af c3,ai c4,if_pos (.inr c4)];rfl
    ·have hw:wrap .i64 (m-1)=m-1:=wrap_i64 (by omega) (by omega)
     rw [af c3,af c4,if_neg (fun e=>e.elim c3 c4),hw,aq,ab (by omega),ab (by omega)];rfl
  ·rw [if_neg (fun e=>c2 e.2),ai c1,af c2];exact rest
 ·rw [if_neg (fun e=>c1 e.1),af c1];exact rest
theorem zX:∀ (z:Nat) (v:AV) (ins:Y3) (m:Int),(ins=false->2<=z)->1<=z->0<=m->m<=100000000000->∀ (f:T1 R) (j:T2 R),bK.R z (v.fld 0).s (v.fld 1).s (v.fld 2).s (v.fld 3).l (v.fld 4).b (v.fld 5).s (v.fld 6).b (v.fld 7).s (v.fld 8).b (v.fld 9).s (v.fld 10).b (v.fld 11).s (v.fld 12).l (v.fld 13).l (v.fld 14).b (v.fld 15).s (v.fld 16).i (v.fld 17).i (v.fld 18).i (v.fld 19).i (v.fld 20).i (v.fld 21).l ins m f j=H8 f j (Bm v ins m)
 | 0,_,_,_,_,h,_,_=>by omega
 | z+1,v,ins,m,U,_,hm,u=>fun f j=>by
  have M:bK.L3 an (bK.R z) f j ah=bK.t3 f j:=rfl
  rw [bK.R,bK.B,bK.e]
  unfold Bm
  cases ins with
  | true =>
   rw [if_neg (fun e=>by cases e.1)]
   refine (cond_false _ _).trans ?_
   rw [M];exact uN v true m hm u f j
  | false =>
   refine (cond_true _ _).trans ?_
   refine (HT v _).trans ?_
   cases O:xj v with
   | false =>
    rw [cond_false,M,if_neg (fun e=>by cases e.2.1)];exact uN v false m hm u f j
   | true =>
    rw [cond_true]
    by_cases A:((v.fld 21).l.length:Int)>0
    ·rw [if_pos ⟨rfl,rfl,A⟩,ai A,ab A]
     have N:=zX z (bi (v.fld 21).l 0) true m (fun h=>by cases h) (by have:=U rfl;omega) hm u f j
     unfold Bm at N
     rw [if_neg (fun e=>by cases e.1)] at N
     exact N
    ·rw [if_neg (fun e=>A e.2.2),af A,M];exact uN v false m hm u f j
theorem Jh (v:AV) (ins:Y3) (p:BA) {n:Int} (z:0<=n) (A:n<=100000000000) (f:∀ κ:Int->Y1 R,cm p κ=κ n) (j:T1 R) (m:BA->BA->BA->LA->T0 R):dm.b cm bK j m p (v.fld 0).s (v.fld 1).s (v.fld 2).s (v.fld 3).l (v.fld 4).b (v.fld 5).s (v.fld 6).b (v.fld 7).s (v.fld 8).b (v.fld 9).s (v.fld 10).b (v.fld 11).s (v.fld 12).l (v.fld 13).l (v.fld 14).b (v.fld 15).s (v.fld 16).i (v.fld 17).i (v.fld 18).i (v.fld 19).i (v.fld 20).i (v.fld 21).l ins=ID j m (oX v ins n):=by
 unfold dm.b oX
 rw [f]
 by_cases c:n=0
 ·rw [eS c,cond_true,if_pos c];rfl
 ·rw [eJ c,cond_false,if_neg c]
  refine (zX (R:=R) ah v ins n (fun _=>by unfold ah;omega) (by unfold ah;omega) z A _ _).trans ?_
  rcases Bm v ins n with _|⟨u,ok⟩
  ·rfl
  ·cases ok <;> rfl
theorem A1 (p:BA) (κ:Int->Y1 R):aO p (⟨#[46]⟩:BA) κ=κ (Lib.index (bl p) [46]):=by
 unfold aO aO.e ef
 rw [ab (.inr rfl)];rfl
theorem Gf (v:AV) (q:BA) (f:Nat) (ins:Y3) (p:BA) (j:T1 R) (m:T2 R):dm.L cm bK aO j m q (f+1) ins p (v.fld 0).s (v.fld 1).s (v.fld 2).s (v.fld 3).l (v.fld 4).b (v.fld 5).s (v.fld 6).b (v.fld 7).s (v.fld 8).b (v.fld 9).s (v.fld 10).b (v.fld 11).s (v.fld 12).l (v.fld 13).l (v.fld 14).b (v.fld 15).s (v.fld 16).i (v.fld 17).i (v.fld 18).i (v.fld 19).i (v.fld 20).i (v.fld 21).l=(bif decide (Lib.index (bl p) [46]<0) then dm.b cm bK j (fun y0 y1 y2 y3 y4 y5 y6 y7 y8 y9 u z A M N O U V W X Y ad=>m q y1 y2 y3 y4 y5 y6 y7 y8 y9 u z A M N O U V W X Y ad true) p (v.fld 0).s (v.fld 1).s (v.fld 2).s (v.fld 3).l (v.fld 4).b (v.fld 5).s (v.fld 6).b (v.fld 7).s (v.fld 8).b (v.fld 9).s (v.fld 10).b (v.fld 11).s (v.fld 12).l (v.fld 13).l (v.fld 14).b (v.fld 15).s (v.fld 16).i (v.fld 17).i (v.fld 18).i (v.fld 19).i (v.fld 20).i (v.fld 21).l ins else bo (decide (Lib.index (bl p) [46]+1<=(p.size:Int))) (dm.b cm bK j (dm.L cm bK aO j m q f false (p.extract ((Lib.index (bl p) [46]).toNat+1) p.size)) (p.extract 0 (Lib.index (bl p) [46]).toNat) (v.fld 0).s (v.fld 1).s (v.fld 2).s (v.fld 3).l (v.fld 4).b (v.fld 5).s (v.fld 6).b (v.fld 7).s (v.fld 8).b (v.fld 9).s (v.fld 10).b (v.fld 11).s (v.fld 12).l (v.fld 13).l (v.fld 14).b (v.fld 15).s (v.fld 16).i (v.fld 17).i (v.fld 18).i (v.fld 19).i (v.fld 20).i (v.fld 21).l ins)):=by
 rw [dm.L];unfold dm.t
 exact A1 p _
theorem GH (v:AV) (q:BA) (m:q≠⟨#[]⟩) (u:q.size<281474976710656) (f:T1 R) (j:T2 R):dm (v.fld 0).s (v.fld 1).s (v.fld 2).s (v.fld 3).l (v.fld 4).b (v.fld 5).s (v.fld 6).b (v.fld 7).s (v.fld 8).b (v.fld 9).s (v.fld 10).b (v.fld 11).s (v.fld 12).l (v.fld 13).l (v.fld 14).b (v.fld 15).s (v.fld 16).i (v.fld 17).i (v.fld 18).i (v.fld 19).i (v.fld 20).i (v.fld 21).l q f j=dm.L cm bK aO f j q ah true q (v.fld 0).s (v.fld 1).s (v.fld 2).s (v.fld 3).l (v.fld 4).b (v.fld 5).s (v.fld 6).b (v.fld 7).s (v.fld 8).b (v.fld 9).s (v.fld 10).b (v.fld 11).s (v.fld 12).l (v.fld 13).l (v.fld 14).b (v.fld 15).s (v.fld 16).i (v.fld 17).i (v.fld 18).i (v.fld 19).i (v.fld 20).i (v.fld 21).l:=by
 unfold dm
 rw [af m,ab u]
def gv (f:BA) (a b:Int):BA × Y3:=if a<0∨b<a∨b>(f.size:Int) then (⟨#[]⟩,false) else (f.extract a.toNat b.toNat,true)
theorem rb (f:BA) (a b:Int) (κ:BA->Y3->Y1 R):dB f a b κ=κ (gv f a b).1 (gv f a b).2:=by
 unfold dB dB.e gv
 by_cases c1:a<0
 ·rw [ai c1,if_pos (.inl c1)]
 ·by_cases c2:b<a
  ·rw [af c1,ai c2,if_pos (.inr (.inl c2))]
  ·by_cases c3:b>(f.size:Int)
   ·rw [af c1,af c2,ai c3,if_pos (.inr (.inr c3))]
   ·rw [af c1,af c2,af c3,if_neg (fun e=>e.elim c1 fun e=>e.elim c2 c3),aq,ab (by omega),aq,ab (by omega),ab (by omega)]
theorem tA (f:BA) (a b:Int):(gv f a b).1.size<=f.size:=by
 unfold gv
 split
 ·exact Nat.zero_le _
 ·rw [ByteArray.size_extract];omega
theorem B9 {a b:Int} (h:a≠b):(a != b)=true:=bne_iff_ne.2 h
theorem B8 {a b:Int} (h:a=b):(a != b)=false:=by rw [h];simp
def kU (c:Y2):Y3:=decide (48<=c.toNat)&&decide (c.toNat<=57)
theorem CZ {c:Y2} (f:48<=c.toNat) (j:c.toNat<=57):kU c=true:=by unfold kU;rw [decide_eq_true f,decide_eq_true j];rfl
theorem uq {c:Y2} (h:¬ (48<=c.toNat/\c.toNat<=57)):kU c=false:=by
 unfold kU
 by_cases f:48<=c.toNat
 ·rw [decide_eq_false (fun j=>h ⟨f,j⟩),Bool.and_false]
 ·rw [decide_eq_false f];rfl
theorem H3 {c:Y2} (h:c≠48):c.toNat≠48:=fun e=>h (UInt8.toNat_inj.1 e)
def rn:Nat->Y3->List Y2->Nat
 | x,_,[]=>x
 | x,st,c::t=>if kU c=false then 0 else if c=48/\st=true then 0 else if x>4294967295 then 0 else rn (x*10+(c.toNat-48)) false t
theorem zf (x:Nat) (f:x<=4294967295) {c:Y2} (j:48<=c.toNat) (m:c.toNat<=57):wrap .i64 ((wrap .i64 ((x:Int)*10))+(wrap .i64 (wrap .u8 ((c.toNat:Int)-48))))=((x*10+(c.toNat-48):Nat):Int):=by
 rw [wrap_i64 (x:=(x:Int)*10) (by omega) (by omega),wrap_u8 (by omega) (by omega),wrap_i64 (x:=(c.toNat:Int)-48) (by omega) (by omega),wrap_i64 (by omega) (by omega)]
 omega
theorem sD (s:List Y2) (u:s.length<=281474976710656) (κ:Int->Y1 R):∀ (f i x:Nat),s.length<i+f->i<=s.length->x<=100000000000 ->
  cm.L3 κ f (B s) (x:Int) ((B s).size:Int) (i:Int)=κ ((rn x (decide (i=0)) (s.drop i):Nat):Int)
 | 0,i,x,h,z,_=>by omega
 | f+1,i,x,h,z,W=>by
  have A:(B s).size=s.length:=b6 s
  rw [cm.L3,cm.t3]
  by_cases M:i<s.length
  ·obtain ⟨c,r,j⟩:=mh M
   have N:=(cG j).1
   have O:=(cG j).2.2
   have U:∀ x:Nat,x<=100000000000->cm.L3 κ f (B s) (x:Int) ((B s).size:Int) ((i+1:Nat):Int)=κ ((rn x false r:Nat):Int):=fun x V=>by
    have:=sD s u κ f (i+1) x (by omega) (by omega) V
    rw [O,decide_eq_false (by omega:¬ i+1=0)] at this;exact this
   rw [ai (by omega),aq,ab (by omega),ab (by omega),pw N,j,rn]
   by_cases c1:(c.toNat:Int)<48
   ·rw [ai c1,if_pos (uq (by omega))];rfl
   ·rw [af c1,aq,ab (by omega),ab (by omega)]
    by_cases c2:(c.toNat:Int)>57
    ·rw [ai c2,if_pos (uq (by omega))];rfl
    ·have m:kU c=true:=CZ (by omega) (by omega)
     rw [af c2,if_neg (by rw [m];decide),wrap_i64 (x:=(i:Int)+1) (by omega) (by omega)]
     have go:(bif decide ((x:Int)>(4294967295:Int)) then κ 0 else bo ((decide ((0:Int)<=(i:Int)))&&(decide ((i:Int)<((B s).size:Int)))) (cm.L3 κ f (B s) (wrap .i64 ((wrap .i64 ((x:Int)*10))+(wrap .i64 (wrap .u8 ((c.toNat:Int)-48))))) ((B s).size:Int) ((i:Int)+1)))=κ (((if x>4294967295 then 0 else rn (x*10+(c.toNat-48)) false r):Nat):Int):=by
      by_cases c3:x>4294967295
      ·rw [ai (by omega),if_pos c3];rfl
      ·rw [af (by omega),if_neg c3,aq,ab (by omega),ab (by omega),zf x (by omega) (by omega) (by omega)]
       exact U (x*10+(c.toNat-48)) (by omega)
     by_cases c4:i=0
     ·rw [eS (by omega),cond_true,aq,ab (by omega),ab (by omega),jN c 48 48 rfl,decide_eq_true c4]
      by_cases c5:c=48
      ·rw [show (c == 48)=true from beq_iff_eq.2 c5,cond_true,if_pos ⟨c5,rfl⟩];rfl
      ·rw [show (c == 48)=false from beq_eq_false_iff_ne.2 c5,cond_false,if_neg (fun e=>c5 e.1)];exact go
     ·rw [eJ (by omega),cond_false,decide_eq_false c4,if_neg (fun e=>by cases e.2)];exact go
  ·rw [af (by omega),List.drop_of_length_le (by omega),rn]
theorem IV (s:List Y2) (f:s.length<=281474976710656) (κ:Int->Y1 R):cm (B s) κ=κ ((rn 0 true s:Nat):Int):=by
 have j:(B s).size=s.length:=b6 s
 exact sD s f κ ah 0 0 (by unfold ah;omega) (by omega) (by omega)
theorem Du:∀ (s:List Y2) (x:Nat) (st:Y3),x<=100000000000->rn x st s<=100000000000
 | [],x,st,h=>h
 | c::t,x,st,h=>by
  rw [rn]
  split
  ·omega
  ·rename_i f
   split
   ·omega
   ·split
    ·omega
    ·rename_i j
     refine Du t _ _ ?_
     have:c.toNat<=57:=by
      have f:kU c=true:=by simpa using f
      unfold kU at f;simp at f;omega
     omega
def nG:Nat->Y3->List Y2->List Nat->Option (List Nat)
 | n,st,[],acc=>if st=true then none else some (acc++[n])
 | n,st,c::t,acc=>if c≠46 then (if kU c=false then none else if c=48/\st=true then none else nG (min (n*10+(c.toNat-48)) 1000000) false t acc) else if st=true then none else nG 0 true t (acc++[n])
def nI (n:Nat):AV := .int (n:Int)
def nK (f:Y3->Y1 R) (j:LA->Y3->Y1 R):Option (List Nat)->Y1 R
 | none=>f false
 | some l=>j (l.map nI) true
theorem nT (s:List Y2) (N:s.length<=10000000) (m:Y3->Y1 R) (u:LA->Y3->Y1 R):∀ (f i n j:Nat) (acc:List Nat),i<=s.length->s.length+2<=i+f->j<=i->acc.length<=i->n<=1000000 ->
  aK.L5 m u f (B s) (n:Int) (j:Int) (i:Int) (acc.map nI)=nK m u (nG n (decide (i=j)) (s.drop i) acc)
 | 0,i,_,_,_,_,_,_,_,_=>by omega
 | f+1,i,n,j,acc,Y,h2,h3,h4,h5=>by
  have U:(B s).size=s.length:=b6 s
  have V:(acc.map nI).length=acc.length:=length_map _
  have z:acc.map nI++[AV.int (n:Int)]=(acc++[n]).map nI:=by rw [List.map_append];rfl
  have hw:wrap .i64 ((i:Int)+1)=((i+1:Nat):Int):=wrap_i64 (by omega) (by omega)
  rw [aK.L5,aK.t5,ai (by omega),hw]
  by_cases W:i<s.length
  ·obtain ⟨c,r,A⟩:=mh W
   have X:=(cG A).1
   have O:=(cG A).2.2
   rw [ai (by omega),aq,ab (by omega),ab (by omega),pw X,A,nG,show ((c.toNat:Int) != 46)=(c != 46) from by unfold bne;rw [jN c 46 46 rfl]]
   by_cases c0:c=46
   ·rw [show (c != 46)=false by rw [c0];rfl,cond_false,if_neg (fun e=>e c0)]
    by_cases c1:i=j
    ·rw [eS (by omega),cond_true,decide_eq_true c1,if_pos rfl];rfl
    ·rw [eJ (by omega),cond_false,decide_eq_false c1,if_neg (by decide),ab (by omega),z]
     have:=nT s N m u f (i+1) 0 (i+1) (acc++[n]) (by omega) (by omega) (by omega) (by simp;omega) (by omega)
     rw [O,decide_eq_true rfl] at this
     exact this
   ·rw [show (c != 46)=true from bne_iff_ne.2 c0,cond_true,if_pos c0,aq,ab (by omega),ab (by omega)]
    by_cases c1:(c.toNat:Int)<48
    ·rw [ai c1,if_pos (uq (by omega))];rfl
    ·rw [af c1]
     by_cases c2:(c.toNat:Int)>57
     ·rw [ai c2,if_pos (uq (by omega))];rfl
     ·have M:kU c=true:=CZ (by omega) (by omega)
      have hm:min2 ((n*10+(c.toNat-48):Nat):Int) 1000000=((min (n*10+(c.toNat-48)) 1000000:Nat):Int):=by rw [uA];omega
      rw [af c2,if_neg (by rw [M];decide),zf n (by omega) (by omega) (by omega),hm]
      have next:=nT s N m u f (i+1) (min (n*10+(c.toNat-48)) 1000000) j acc (by omega) (by omega) (by omega) (by omega) (by omega)
      rw [O,decide_eq_false (by omega:¬ i+1=j)] at next
      rw [jN c 48 48 rfl]
      by_cases c5:c=48
      ·rw [show (c == 48)=true from beq_iff_eq.2 c5,cond_true]
       by_cases c6:i=j
       ·rw [eS (by omega),cond_true,decide_eq_true c6,if_pos ⟨c5,rfl⟩];rfl
       ·rw [eJ (by omega),cond_false,decide_eq_false c6,if_neg (fun e=>by cases e.2)];exact next
      ·rw [show (c == 48)=false from beq_eq_false_iff_ne.2 c5,cond_false,if_neg (fun e=>c5 e.1)];exact next
  ·rw [af (by omega),List.drop_of_length_le (by omega),nG]
   by_cases c1:i=j
   ·rw [eS (by omega),cond_true,decide_eq_true c1,if_pos rfl];rfl
   ·rw [eJ (by omega),cond_false,decide_eq_false c1,if_neg (by decide),ab (by omega),z]
    obtain ⟨f,rfl⟩:∃ g,f=g+1:=⟨f-1,by omega⟩
    rw [aK.L5,aK.t5,af (by omega)];rfl
theorem I8 (s:List Y2) (m:s.length<=10000000) (f:Y3->Y1 R) (j:LA->Y3->Y1 R):aK (B s) f j=nK f j (nG 0 true s []):=
 nT s m f j ah 0 0 0 [] (by omega) (by unfold ah;omega) (by omega) (by simp) (by omega)
def jw:List Y2->List Y2 × Option (List Y2)
 | []=>([],none)
 | c::t=>if c=46 then ([],some t) else (c::(jw t).1,(jw t).2)
theorem zr:∀ p:List Y2,Lib.index p [46]=match (jw p).2 with
  | none => -1
  | some _=>((jw p).1.length:Int)
 | []=>rfl
 | c::t=>by
  rw [ft,jw]
  by_cases h:c=46
  ·subst h
   rw [if_pos (by simp [List.isPrefixOf]),if_pos rfl];rfl
  ·have f:([46]:List Y2).isPrefixOf (c::t)=false:=by simp [List.isPrefixOf,Ne.symm h]
   rw [f,if_neg h,zr t,if_neg (by decide)]
   cases (jw t).2 with
   | none=>rfl
   | some r =>
    show (if (((jw t).1.length:Int) == -1)=true then (-1:Int) else ((jw t).1.length:Int)+1)=(((c::(jw t).1).length:Nat):Int)
    rw [if_neg (by rw [eJ (by omega)];decide)];simp
theorem qT:∀ {p r:List Y2},(jw p).2=some r->p=(jw p).1++46::r
 | [],r,h=>by cases h
 | c::t,r,h=>by
  rw [jw] at h ⊢
  by_cases e:c=46
  ·rw [if_pos e] at h ⊢;cases h;rw [e];rfl
  ·rw [if_neg e] at h ⊢
   have:=qT (p:=t) h
   show c::t=c::((jw t).1++46::r)
   rw [<- this]
theorem wW:∀ {p:List Y2},(jw p).2=none->(jw p).1=p
 | [],_=>rfl
 | c::t,h=>by
  rw [jw] at h ⊢
  by_cases e:c=46
  ·rw [if_pos e] at h;cases h
  ·rw [if_neg e] at h ⊢
   show c::(jw t).1=c::t
   rw [wW h]
def cN:Nat->Y3->List Y2->Option Nat
 | n,st,[]=>if st=true then none else some n
 | n,st,c::t=>if kU c=false then none else if c=48/\st=true then none else cN (min (n*10+(c.toNat-48)) 1000000) false t
theorem Ds:∀ (p:List Y2) (n:Nat) (st:Y3) (acc:List Nat),nG n st p acc=match (jw p).2 with
  | none=>(cN n st (jw p).1).map fun m=>acc++[m]
  | some r=>(cN n st (jw p).1).bind fun m=>nG 0 true r (acc++[m])
 | [],n,st,acc=>by rw [nG];show _=(cN n st []).map _;rw [cN];split <;> rfl
 | c::t,n,st,acc=>by
  rw [nG,jw]
  by_cases h:c=46
  ·rw [if_neg (fun e=>e h),if_pos h]
   show _=(cN n st []).bind _
   rw [cN];split <;> rfl
  ·rw [if_pos h,if_neg h]
   have f:=fun n st=>Ds t n st acc
   cases j:(jw t).2 with
   | none =>
    simp only [j] at f
    show _=(cN n st (c::(jw t).1)).map _
    rw [cN]
    split
    ·rfl
    ·split
     ·rfl
     ·exact f _ _
   | some r =>
    simp only [j] at f
    show _=(cN n st (c::(jw t).1)).bind _
    rw [cN]
    split
    ·rfl
    ·split
     ·rfl
     ·exact f _ _
theorem Ce:∀ (a:List Y2) (m:Nat),cN 1000000 false a=some m->m=1000000
 | [],m,h=>by rw [cN,if_neg (by decide)] at h;cases h;rfl
 | c::t,m,h=>by
  rw [cN] at h
  split at h
  ·cases h
  ·split at h
   ·cases h
   ·rw [show min (1000000*10+(c.toNat-48)) 1000000=1000000 by omega] at h
    exact Ce t m h
theorem zP:∀ (a:List Y2) (x n:Nat) (st:Y3),n=min x 1000000->(st=true->x=0)->(st=false->1<=x) ->
  (cN n st a=none/\rn x st a=0)∨(cN n st a=some 1000000/\(rn x st a=0∨1000000<=rn x st a))∨(cN n st a=some (rn x st a)/\1<=rn x st a/\rn x st a<1000000)
 | [],x,n,st,u,A,z=>by
  rw [cN,rn]
  cases st with
  | true=>exact .inl ⟨rfl,A rfl⟩
  | false =>
   have:=z rfl
   rw [if_neg (by decide)]
   by_cases c:1000000<=x
   ·exact .inr (.inl ⟨by rw [u];congr 1;omega,.inr c⟩)
   ·exact .inr (.inr ⟨by rw [u];congr 1;omega,by omega,by omega⟩)
 | c::t,x,n,st,u,A,z=>by
  rw [cN,rn]
  by_cases f:kU c=false
  ·rw [if_pos f,if_pos f];exact .inl ⟨rfl,rfl⟩
  ·rw [if_neg f,if_neg f]
   by_cases j:c=48/\st=true
   ·rw [if_pos j,if_pos j];exact .inl ⟨rfl,rfl⟩
   ·rw [if_neg j,if_neg j]
    have O:48<=c.toNat/\c.toNat<=57:=by
     have:kU c=true:=by simpa using f
     unfold kU at this;simpa using this
    by_cases M:x>4294967295
    ·rw [if_pos M,show min (n*10+(c.toNat-48)) 1000000=1000000 by omega]
     cases N:cN 1000000 false t with
     | none=>exact .inl ⟨rfl,rfl⟩
     | some m=>rw [Ce t m N];exact .inr (.inl ⟨rfl,.inl rfl⟩)
    ·rw [if_neg M]
     refine zP t _ _ false ?_ (fun h=>by cases h) (fun _ => ?_)
     ·omega
     ·cases st with
      | false=>have:=z rfl;omega
      | true =>
       have:c.toNat≠48:=H3 fun h=>j ⟨h,rfl⟩
       omega
def yP (v:AV) (is:Y3):AV × Y3:=if (v.fld 1).s=(⟨#[109,101,115,115,97,103,101]⟩:BA)/\((v.fld 21).l.length:Int)>0/\is=false then (bi (v.fld 21).l 0,true) else (v,is)
def qW (w:AV) (is:Y3) (n:Nat):Option AV:=if (w.fld 1).s=(⟨#[109,117,108,116,105,112,97,114,116]⟩:BA)/\((w.fld 21).l.length:Int)>0 then (if (n:Int)>((w.fld 21).l.length:Int) then none else some (bi (w.fld 21).l ((n:Int)-1))) else if is=true/\n=1 then some w else none
def m4 (v:AV) (is:Y3) (n:Nat):Option AV:=qW (yP v is).1 (yP v is).2 n
def o4:AV->Y3->List Nat->Option AV
 | v,_,[]=>some v
 | v,is,n::r=>(m4 v is n).bind fun u=>o4 u false r
def rq (f:T2 R) (j:T1 R) (pl:BA):Option AV->Y1 R
 | none=>j (⟨#[]⟩:BA) (⟨#[]⟩:BA) (⟨#[]⟩:BA) false (⟨#[]⟩:BA) false (⟨#[]⟩:BA) false (⟨#[]⟩:BA) false (⟨#[]⟩:BA) false (⟨#[]⟩:BA) 0 0 0 0 0 false
 | some u=>f pl (u.fld 1).s (u.fld 2).s (u.fld 3).l (u.fld 4).b (u.fld 5).s (u.fld 6).b (u.fld 7).s (u.fld 8).b (u.fld 9).s (u.fld 10).b (u.fld 11).s (u.fld 12).l (u.fld 13).l (u.fld 14).b (u.fld 15).s (u.fld 16).i (u.fld 17).i (u.fld 18).i (u.fld 19).i (u.fld 20).i (u.fld 21).l true
theorem wE (j:T2 R) (m:T1 R) (pl:BA) (z:List Nat) (hn:z.length<=20000000) (h1:∀ n∈z,1<=n/\n<=1000000) (j0:BA) (j1:BA) (j2:BA) (j3:Y3) (j4:BA) (j5:Y3) (j6:BA) (j7:Y3) (j8:BA) (j9:Y3) (A:BA) (M:Y3) (N:BA) (O:Int) (U:Int) (V:Int) (W:Int) (X:Int) :
  ∀ (r d:List Nat) (f:Nat) (v:AV) (is:Y3),d++r=z->5*r.length<f->cR.L8 aK j m f pl is (d.length:Int) (v.fld 0).s (v.fld 1).s (v.fld 2).s (v.fld 3).l (v.fld 4).b (v.fld 5).s (v.fld 6).b (v.fld 7).s (v.fld 8).b (v.fld 9).s (v.fld 10).b (v.fld 11).s (v.fld 12).l (v.fld 13).l (v.fld 14).b (v.fld 15).s (v.fld 16).i (v.fld 17).i (v.fld 18).i (v.fld 19).i (v.fld 20).i (v.fld 21).l j0 j1 j2 j3 j4 j5 j6 j7 j8 j9 A M N O U V W X (z.map nI)=rq j m pl (o4 v is r)
 | _,_,0,_,_,_,h=>by omega
 | [],d,f+1,v,is,hd,_=>by
  rw [append_nil] at hd
  have e:cR.L8 (R:=R) aK j m (f+1)=cR.t8 (cR.BI aK j m f) j:=rfl
  rw [e,cR.t8,length_map,<- hd,af (by omega)]
  rfl
 | n::r,d,f0,v,is,hd,hf=>by
  obtain ⟨f,rfl⟩:∃ g,f0=g+5:=⟨f0-5,by simp only [length_cons] at hf;omega⟩
  have hl:d.length+r.length+1=z.length:=by rw [<- hd];simp;omega
  have hg:bi (z.map nI) (d.length:Int)=nI n:=eD (by rw [List.getElem?_map,<- hd];simp)
  obtain ⟨n1,n2⟩:=h1 n (by rw [<- hd];simp)
  have ih:∀ (g:Nat) (u:AV),5*r.length<g->cR.L8 aK j m g pl false ((d.length+1:Nat):Int) (u.fld 0).s (u.fld 1).s (u.fld 2).s (u.fld 3).l (u.fld 4).b (u.fld 5).s (u.fld 6).b (u.fld 7).s (u.fld 8).b (u.fld 9).s (u.fld 10).b (u.fld 11).s (u.fld 12).l (u.fld 13).l (u.fld 14).b (u.fld 15).s (u.fld 16).i (u.fld 17).i (u.fld 18).i (u.fld 19).i (u.fld 20).i (u.fld 21).l j0 j1 j2 j3 j4 j5 j6 j7 j8 j9 A M N O U V W X (z.map nI)=rq j m pl (o4 u false r):=fun g u hg=>by
   have:=wE j m pl z hn h1 j0 j1 j2 j3 j4 j5 j6 j7 j8 j9 A M N O U V W X r (d++[n]) g u false (by rw [append_assoc];exact hd) hg
   rw [show (d++[n]).length=d.length+1 by simp] at this
   exact this
  have hw:wrap .i64 ((d.length:Int)+1)=((d.length+1:Nat):Int):=wrap_i64 (by omega) (by omega)
  have next:∀ (g:Nat) (u:AV),5*r.length<g->cR.BJ aK j m (g+2) pl (d.length:Int) (u.fld 0).s (u.fld 1).s (u.fld 2).s (u.fld 3).l (u.fld 4).b (u.fld 5).s (u.fld 6).b (u.fld 7).s (u.fld 8).b (u.fld 9).s (u.fld 10).b (u.fld 11).s (u.fld 12).l (u.fld 13).l (u.fld 14).b (u.fld 15).s (u.fld 16).i (u.fld 17).i (u.fld 18).i (u.fld 19).i (u.fld 20).i (u.fld 21).l j0 j1 j2 j3 j4 j5 j6 j7 j8 j9 A M N O U V W X (z.map nI)=rq j m pl (o4 u false r):=fun g u hg=>by
   have e1:cR.BJ (R:=R) aK j m (g+2)=cR.t20 (cR.L9 aK j m (g+1)):=rfl
   have e2:cR.L9 (R:=R) aK j m (g+1)=cR.t9 (cR.L8 aK j m g):=rfl
   rw [e1,cR.t20,e2,cR.t9,hw]
   exact ih g u hg
  have ad:∀ (w:AV) (Y:Y3),cR.BI aK j m (f+4) pl Y (d.length:Int) (n:Int) (w.fld 0).s (w.fld 1).s (w.fld 2).s (w.fld 3).l (w.fld 4).b (w.fld 5).s (w.fld 6).b (w.fld 7).s (w.fld 8).b (w.fld 9).s (w.fld 10).b (w.fld 11).s (w.fld 12).l (w.fld 13).l (w.fld 14).b (w.fld 15).s (w.fld 16).i (w.fld 17).i (w.fld 18).i (w.fld 19).i (w.fld 20).i (w.fld 21).l j0 j1 j2 j3 j4 j5 j6 j7 j8 j9 A M N O U V W X (z.map nI)=rq j m pl ((qW w Y n).bind fun u=>o4 u false r):=fun w Y=>by
   have e1:cR.BI (R:=R) aK j m (f+4)=cR.t14 (cR.rj aK j m (f+3)) (cR.BJ aK j m (f+3)) m:=rfl
   have e2:cR.rj (R:=R) aK j m (f+3)=cR.t18 (cR.BJ aK j m (f+2)) m:=rfl
   have side:cR.rj aK j m (f+3) pl Y (d.length:Int) (n:Int) (w.fld 0).s (w.fld 1).s (w.fld 2).s (w.fld 3).l (w.fld 4).b (w.fld 5).s (w.fld 6).b (w.fld 7).s (w.fld 8).b (w.fld 9).s (w.fld 10).b (w.fld 11).s (w.fld 12).l (w.fld 13).l (w.fld 14).b (w.fld 15).s (w.fld 16).i (w.fld 17).i (w.fld 18).i (w.fld 19).i (w.fld 20).i (w.fld 21).l j0 j1 j2 j3 j4 j5 j6 j7 j8 j9 A M N O U V W X (z.map nI)=rq j m pl ((if Y=true/\n=1 then some w else none:Option AV).bind fun u=>o4 u false r):=by
    rw [e2,cR.t18]
    cases Y with
    | false=>rw [Bool.not_false,cond_true,if_neg (fun e=>by cases e.1)];rfl
    | true =>
     rw [Bool.not_true,cond_false]
     by_cases c:n=1
     ·rw [B8 (by omega),cond_false,if_pos ⟨rfl,c⟩]
      exact next f w (by simp only [length_cons] at hf;omega)
     ·rw [B9 (by omega),cond_true,if_neg (fun e=>c e.2)];rfl
   rw [e1,cR.t14]
   unfold qW
   by_cases c1:(w.fld 1).s=(⟨#[109,117,108,116,105,112,97,114,116]⟩:BA)
   ·rw [ai c1]
    by_cases c2:((w.fld 21).l.length:Int)>0
    ·rw [ai c2,if_pos ⟨c1,c2⟩]
     by_cases c3:(n:Int)>((w.fld 21).l.length:Int)
     ·rw [ai c3,if_pos c3];rfl
     ·rw [af c3,if_neg c3,wrap_i64 (x:=(n:Int)-1) (by omega) (by omega),aq,ab (by omega),ab (by omega)]
      exact next (f+1) (bi (w.fld 21).l ((n:Int)-1)) (by simp only [length_cons] at hf;omega)
    ·rw [af c2,if_neg (fun e=>c2 e.2)];exact side
   ·rw [af c1,if_neg (fun e=>c1 e.1)];exact side
  have e:cR.L8 (R:=R) aK j m (f+5)=cR.t8 (cR.BI aK j m (f+4)) j:=rfl
  rw [e,cR.t8,length_map,ai (by omega),aq,ab (by omega),ab (by omega),hg,show (nI n).i=(n:Int) from rfl,o4]
  unfold m4 yP
  by_cases c1:(v.fld 1).s=(⟨#[109,101,115,115,97,103,101]⟩:BA)
  ·rw [ai c1]
   by_cases c2:((v.fld 21).l.length:Int)>0
   ·rw [ai c2]
    cases is with
    | false =>
     rw [Bool.not_false,cond_true,ab c2,if_pos ⟨c1,c2,rfl⟩]
     exact ad (bi (v.fld 21).l 0) true
    | true=>rw [Bool.not_true,cond_false,if_neg (fun e=>by cases e.2.2)];exact ad v true
   ·rw [af c2,if_neg (fun e=>c2 e.2.1)];exact ad v is
  ·rw [af c1,if_neg (fun e=>c1 e.1)];exact ad v is
theorem uD:∀ (p:List Y2) (n:Nat) (st:Y3) (acc l:List Nat),n<=1000000->(st=false->1<=n)->(∀ m∈acc,1<=m/\m<=1000000)->nG n st p acc=some l->∀ m∈l,1<=m/\m<=1000000
 | [],n,st,acc,l,u,f,j,h=>by
  rw [nG] at h
  split at h
  ·cases h
  ·rename_i c;cases h
   intro m hm
   rcases List.mem_append.1 hm with hm|hm
   ·exact j m hm
   ·rw [mem_singleton] at hm;subst hm;exact ⟨f (by simpa using c),u⟩
 | c::t,n,st,acc,l,u,f,j,h=>by
  rw [nG] at h
  split at h
  ·split at h
   ·cases h
   ·rename_i z
    split at h
    ·cases h
    ·rename_i c1
     have A:48<=c.toNat/\c.toNat<=57:=by
      have:kU c=true:=by simpa using z
      unfold kU at this;simpa using this
     refine uD t _ _ acc l (by omega) (fun _ => ?_) j h
     cases st with
     | false=>have:=f rfl;omega
     | true =>
      have:c.toNat≠48:=H3 fun h=>c1 ⟨h,rfl⟩
      omega
  ·split at h
   ·cases h
   ·rename_i c1
    refine uD t 0 true (acc++[n]) l (by omega) (fun h=>by cases h) (fun m hm => ?_) h
    rcases List.mem_append.1 hm with hm|hm
    ·exact j m hm
    ·rw [mem_singleton] at hm;subst hm;exact ⟨f (by simpa using c1),u⟩
theorem ym:∀ (p:List Y2) (n:Nat) (st:Y3) (acc l:List Nat),nG n st p acc=some l->l.length<=acc.length+p.length+1
 | [],n,st,acc,l,h=>by
  rw [nG] at h
  split at h
  ·cases h
  ·cases h;simp
 | c::t,n,st,acc,l,h=>by
  rw [nG] at h
  split at h
  ·split at h
   ·cases h
   ·split at h
    ·cases h
    ·have:=ym t _ _ _ _ h
     simp only [length_cons];omega
  ·split at h
   ·cases h
   ·have:=ym t _ _ _ _ h
    simp only [length_append,length_cons,length_nil] at this ⊢;omega
theorem JG (v:AV) (p:List Y2) (M:p.length<=10000000) (N:p≠[]) (u:T2 R) (j:T1 R):cR (v.fld 0).s (v.fld 1).s (v.fld 2).s (v.fld 3).l (v.fld 4).b (v.fld 5).s (v.fld 6).b (v.fld 7).s (v.fld 8).b (v.fld 9).s (v.fld 10).b (v.fld 11).s (v.fld 12).l (v.fld 13).l (v.fld 14).b (v.fld 15).s (v.fld 16).i (v.fld 17).i (v.fld 18).i (v.fld 19).i (v.fld 20).i (v.fld 21).l (B p) u j=rq u j (B p) ((nG 0 true p []).bind (o4 v true)):=by
 have z:¬ B p=(⟨#[]⟩:BA):=fun e=>N (by have:=congrArg bl e;rw [jR] at this;exact this)
 obtain ⟨f,A⟩:∃ g,ah=g+1:=⟨ah-1,by unfold ah;omega⟩
 have O:100000000<f:=by unfold ah at A;omega
 unfold cR cR.e
 rw [af z,I8 p M,A]
 have e:cR.L4 (R:=R) aK u j (f+1)=cR.t4 (cR.L8 aK u j f) j:=rfl
 cases h:nG 0 true p [] with
 | none =>
  show cR.L4 aK u j (f+1) (B p) false _ _ _ _ _ _ _ _ _ _ _ _ _ _ _ _ _ _ _ _ _ _ _ _ _ _ _ _ _ _ _ _ _ _ _ _ _ _ _ _ _=_
  rw [e,cR.t4,Bool.not_false,cond_true];rfl
 | some l =>
  have U:=ym p 0 true [] l h
  have hm:=uD p 0 true [] l (by omega) (fun h=>by cases h) (fun m hm=>by cases hm) h
  show cR.L4 aK u j (f+1) (B p) true _ _ _ _ _ _ _ _ _ _ _ _ _ _ _ _ _ _ _ _ _ _ _ _ _ _ _ _ _ _ _ _ _ _ _ _ _ _ _ _ _=_
  rw [e,cR.t4,Bool.not_true,cond_false]
  simp only [length_nil] at U
  exact wE u j (B p) l (by omega) hm (⟨#[]⟩:BA) (⟨#[]⟩:BA) (⟨#[]⟩:BA) false (⟨#[]⟩:BA) false (⟨#[]⟩:BA) false (⟨#[]⟩:BA) false (⟨#[]⟩:BA) false (⟨#[]⟩:BA) 0 0 0 0 0 l [] f v true rfl (by omega)
def xI:Nat->AV->Y3->List Y2->Option AV
 | 0,_,_,_=>none
 | f+1,v,ins,p=>match (jw p).2 with
  | none=>oX v ins ((rn 0 true (jw p).1:Nat):Int)
  | some r=>(oX v ins ((rn 0 true (jw p).1:Nat):Int)).bind fun u=>xI f u false r
theorem HS (m:T1 R) (z:T2 R) (q:BA):∀ (f:Nat) (v:AV) (ins:Y3) (p:List Y2),p.length<f->p.length<=10000000 ->
  dm.L cm bK aO m z q f ins (B p) (v.fld 0).s (v.fld 1).s (v.fld 2).s (v.fld 3).l (v.fld 4).b (v.fld 5).s (v.fld 6).b (v.fld 7).s (v.fld 8).b (v.fld 9).s (v.fld 10).b (v.fld 11).s (v.fld 12).l (v.fld 13).l (v.fld 14).b (v.fld 15).s (v.fld 16).i (v.fld 17).i (v.fld 18).i (v.fld 19).i (v.fld 20).i (v.fld 21).l=rq z m q (xI f v ins p)
 | 0,_,_,_,h,_=>by omega
 | f+1,v,ins,p,h,N=>by
  have W:=b6 p
  have j:=fun (a:List Y2) (X:a.length<=10000000)=>IV (R:=R) a (by omega)
  have hle:=fun (a:List Y2)=>Du a 0 true (by omega)
  rw [Gf,jR,zr,xI]
  cases M:(jw p).2 with
  | none =>
   have hle:=hle p
   simp only
   rw [ai (by decide),Jh v ins (B p) (by omega) (by omega) (j p N),wW M]
   cases oX v ins ((rn 0 true p:Nat):Int) <;> rfl
  | some r =>
   have e:=qT M
   have O:=congrArg List.length e
   rw [length_append,length_cons] at O
   have hle:=hle (jw p).1
   simp only
   have U:(B p).extract 0 (((jw p).1.length:Int)).toNat=B (jw p).1:=by
    have A:=@List.take_left Y2 (jw p).1 (46::r)
    rw [<- e] at A
    rw [dh,Int.toNat_natCast]
    exact congrArg B A
   have V:(B p).extract ((((jw p).1.length:Int)).toNat+1) (B p).size=B r:=by
    have A:=@drop_left Y2 (jw p).1 (46::r)
    rw [<- e] at A
    rw [dh,b6,take_length,Int.toNat_natCast,<- drop_drop,A]
    rfl
   rw [af (by omega),ab (by omega),U,V,Jh v ins (B (jw p).1) (by omega) (by omega) (j _ (by omega))]
   cases oX v ins ((rn 0 true (jw p).1:Nat):Int) with
   | none=>rfl
   | some u=>exact HS m z q f u false r (by omega) (by omega)
theorem HR (v:AV) (p:List Y2) (u:p.length<=10000000) (z:p≠[]) (f:T1 R) (j:T2 R):dm (v.fld 0).s (v.fld 1).s (v.fld 2).s (v.fld 3).l (v.fld 4).b (v.fld 5).s (v.fld 6).b (v.fld 7).s (v.fld 8).b (v.fld 9).s (v.fld 10).b (v.fld 11).s (v.fld 12).l (v.fld 13).l (v.fld 14).b (v.fld 15).s (v.fld 16).i (v.fld 17).i (v.fld 18).i (v.fld 19).i (v.fld 20).i (v.fld 21).l (B p) f j=rq j f (B p) (xI ah v true p):=by
 have m:B p≠⟨#[]⟩:=fun e=>z (by have:=congrArg bl e;rw [jR] at this;exact this)
 rw [GH v (B p) m (by rw [b6];omega)]
 exact HS f j (B p) ah v true p (by unfold ah;omega) u
def Wf:Nat->AV->Prop
 | 0,v=>(v.fld 21).l=[]
 | n+1,v=>(v.fld 21).l.length<=1000/\((v.fld 1).s=(⟨#[109,101,115,115,97,103,101]⟩:BA)->(v.fld 21).l≠[]->xj v=true)/\∀ u∈(v.fld 21).l,Wf n u
theorem Wf.len:∀ {n:Nat} {v:AV},Wf n v->(v.fld 21).l.length<=1000
 | 0,v,h=>by rw [show (v.fld 21).l=[] from h];simp
 | _+1,_,h=>h.1
theorem Wf.BL:∀ {n:Nat} {v u:AV},Wf n v->u∈(v.fld 21).l->∃ m,Wf m u
 | 0,v,u,h,hu=>by rw [show (v.fld 21).l=[] from h] at hu;cases hu
 | n+1,_,_,h,hu=>⟨n,h.2.2 _ hu⟩
theorem Wf.IZ:∀ {n:Nat} {v:AV},Wf n v->(v.fld 1).s=(⟨#[109,101,115,115,97,103,101]⟩:BA)->(v.fld 21).l≠[]->xj v=true
 | 0,v,h,_,f=>absurd h f
 | _+1,_,h,j,f=>h.2.1 j f
theorem qD {l:LA} {i:Int} (f:0<=i) (m:i<(l.length:Int)):bi l i∈l:=by
 obtain ⟨j,rfl⟩:∃ j:Nat,i=(j:Int):=⟨i.toNat,by omega⟩
 rw [eD (List.getElem?_eq_getElem (by omega:j<l.length))]
 exact List.getElem_mem _
theorem Ac {n m:Nat} {w u:AV} {is:Y3} (h:Wf n w) (hm:1<=m) (e:qW w is m=some u):∃ k,Wf k u:=by
 unfold qW at e
 split at e
 ·split at e
  ·cases e
  ·cases e;exact h.BL (qD (by omega) (by omega))
 ·split at e
  ·cases e;exact ⟨n,h⟩
  ·cases e
theorem Fw {n m:Nat} {v u:AV} {is:Y3} (h:Wf n v) (hm:1<=m) (e:m4 v is m=some u):∃ k,Wf k u:=by
 unfold m4 yP at e
 split at e
 ·rename_i c
  obtain ⟨k,f⟩:=h.BL (qD (l:=(v.fld 21).l) (i:=0) (by omega) (by omega))
  exact Ac f hm e
 ·exact Ac h hm e
theorem DZ {n m:Nat} {v:AV} {is:Y3} (h:Wf n v) (hm:1<=m):oX v is (m:Int)=m4 v is m:=by
 have re:∀ (w:AV) (is:Y3),Jm (Bk w is (m:Int))=qW w is m:=fun w is=>by
  unfold Bk qW
  by_cases c1:(w.fld 1).s=(⟨#[109,117,108,116,105,112,97,114,116]⟩:BA)/\((w.fld 21).l.length:Int)>0
  ·rw [if_pos c1,if_pos c1]
   by_cases c2:(m:Int)>((w.fld 21).l.length:Int)
   ·rw [if_pos (.inr c2),if_pos c2];rfl
   ·rw [if_neg (fun e=>e.elim (fun e=>by omega) c2),if_neg c2];rfl
  ·rw [if_neg c1,if_neg c1]
   cases is with
   | false=>rw [if_neg (fun e=>by cases e.1)];rfl
   | true =>
    by_cases c2:m=1
    ·rw [if_pos ⟨rfl,c2⟩,eS (by omega)];rfl
    ·rw [if_neg (fun e=>c2 e.2),eJ (by omega)];rfl
 unfold oX Bm m4 yP
 rw [if_neg (by omega)]
 by_cases c:is=false/\xj v=true/\((v.fld 21).l.length:Int)>0
 ·have c1:(v.fld 1).s=(⟨#[109,101,115,115,97,103,101]⟩:BA):=by
   have:=c.2.1
   unfold xj at this
   by_cases e:(v.fld 1).s=(⟨#[109,101,115,115,97,103,101]⟩:BA)
   ·exact e
   ·rw [af e] at this;cases this
  rw [if_pos c,if_pos ⟨c1,c.2.2,c.1⟩];exact re _ _
 ·rw [if_neg c,if_neg (fun e=>c ⟨e.2.2,h.IZ e.1 (fun f=>by have:=e.2.1;rw [f] at this;simp at this),e.2.1⟩)];exact re _ _
theorem wZ {n m:Nat} {v:AV} {is:Y3} (h:Wf n v) (hm:1000000<=m):m4 v is m=none:=by
 have re:∀ (k:Nat) (w:AV) (is:Y3),Wf k w->qW w is m=none:=fun k w is hw=>by
  unfold qW
  have:=hw.len
  split
  ·rw [if_pos (by omega)]
  ·rw [if_neg (by omega)]
 unfold m4 yP
 split
 ·rename_i c
  obtain ⟨k,f⟩:=h.BL (qD (l:=(v.fld 21).l) (i:=0) (by omega) (by omega))
  exact re k _ _ f
 ·exact re n _ _ h
theorem uC:∀ (p:List Y2) (n:Nat) (st:Y3) (acc:List Nat),nG n st p acc=(nG n st p []).map (acc++·)
 | [],n,st,acc=>by rw [nG,nG];split <;> simp
 | c::t,n,st,acc=>by
  rw [nG,nG]
  split
  ·split
   ·rfl
   ·split
    ·rfl
    ·exact uC t _ _ acc
  ·split
   ·rfl
   ·rw [uC t 0 true (acc++[n]),uC t 0 true ([]++[n])]
    cases nG 0 true t [] with
    | none=>rfl
    | some l=>simp
theorem CH:∀ (f n:Nat) (p:List Y2) (v:AV) (ins:Y3),p.length<f->Wf n v->xI f v ins p=(nG 0 true p []).bind (o4 v ins)
 | 0,_,_,_,_,h,_=>by omega
 | f+1,n,p,v,ins,h,A=>by
  rw [xI,Ds]
  have z:=zP (jw p).1 0 0 true rfl (fun _=>rfl) (fun h=>by cases h)
  generalize V:rn 0 true (jw p).1=g at *
  generalize W:cN 0 true (jw p).1=o at *
  have key:(o=none/\oX v ins (g:Int)=none)∨∃ m,o=some m/\1<=m/\oX v ins (g:Int)=m4 v ins m:=by
   rcases z with ⟨z,j⟩|⟨z,j⟩|⟨z,j,X⟩
   ·exact .inl ⟨z,by rw [j];unfold oX;exact if_pos rfl⟩
   ·refine .inr ⟨1000000,z,by omega,?_⟩
    rw [wZ A (Nat.le_refl _)]
    rcases j with j|j
    ·rw [j];unfold oX;exact if_pos rfl
    ·rw [DZ A (by omega),wZ A j]
   ·exact .inr ⟨g,z,j,DZ A j⟩
  cases N:(jw p).2 with
  | none =>
   simp only
   rcases key with ⟨k1,k2⟩|⟨m,k1,_,k2⟩
   ·rw [k1,k2];rfl
   ·rw [k1,k2]
    show m4 v ins m=o4 v ins ([]++[m])
    rw [nil_append,o4]
    cases m4 v ins m <;> rfl
  | some r =>
   have O:=congrArg List.length (qT N)
   rw [length_append,length_cons] at O
   simp only
   rcases key with ⟨k1,k2⟩|⟨m,k1,k3,k2⟩
   ·rw [k1,k2];rfl
   ·rw [k1,k2]
    show _=(nG 0 true r ([]++[m])).bind (o4 v ins)
    rw [uC r 0 true ([]++[m])]
    cases M:m4 v ins m with
    | none =>
     cases nG 0 true r [] with
     | none=>rfl
     | some l=>show none=o4 v ins (([]++[m])++l);rw [nil_append];show none=o4 v ins (m::l);rw [o4,M];rfl
    | some u =>
     obtain ⟨k,U⟩:=Fw A k3 M
     show xI f u false r=_
     rw [CH f k r u false (by omega) U]
     cases nG 0 true r [] with
     | none=>rfl
     | some l=>show o4 u false l=o4 v ins (m::l);rw [o4,M];rfl
def bq:Nat->Nat
 | 0=>3
 | n+1=>3+16*bq n
def iv (l:LA):Prop:=∀ v∈l,v.s.size<=1000
theorem iv.Jv {a b:LA} (h:iv a) (f:iv b):iv (a++b):=fun v j=>(List.mem_append.1 j).elim (h v) (f v)
theorem wx (c1:aM.F R) {M:Nat} (y:LV) (u:LA) (N:u.length<=16) (V:M<=1000000000)
  (m:∀ v∈u,∃ j k0,v=ac j k0/\∃ l:LA,l.length<=M/\iv l/\∀ κ:LA->Y1 R,c1 (B j.p) (B j.v.ty) (B j.v.sub) (j.v.ps.map bw) j.v.i0 (B j.v.i1) j.v.a0 (B j.v.a1) (du j.v.c1) (B j.v.c1) (du j.v.p1) (B j.v.p1) (j.v.pp.map bw) (bH j.v.lg) j.v.w0 (B j.v.w1) (j.a:Int) (j.b:Int) (j.c:Int) (j.d:Int) (j.e:Int) k0 κ=κ l) :
  ∀ (r d acc:LA),d++r=u->iv acc->acc.length<=3+d.length*M->∃ l:LA,l.length<=acc.length+r.length*M/\iv l/\∀ (κ:LA->Y1 R) (f:Nat),r.length<f->aM.L5 c1 κ f (d.length:Int) (B y.p) (B y.v.ty) (B y.v.sub) (y.v.ps.map bw) y.v.i0 (B y.v.i1) y.v.a0 (B y.v.a1) (du y.v.c1) (B y.v.c1) (du y.v.p1) (B y.v.p1) (y.v.pp.map bw) (bH y.v.lg) y.v.w0 (B y.v.w1) (y.a:Int) (y.b:Int) (y.c:Int) (y.d:Int) (y.e:Int) u acc=κ l
 | [],d,acc,z,O,_=>by
  refine ⟨acc,by simp,O,fun κ f U => ?_⟩
  obtain ⟨g,rfl⟩:∃ g,f=g+1:=⟨f-1,by simp only [length_nil] at U;omega⟩
  rw [append_nil] at z
  rw [aM.L5,aM.t5,z,af (by omega)]
 | v::r,d,acc,z,O,ha=>by
  have hlen:d.length+r.length+1=u.length:=by rw [<- z];simp;omega
  obtain ⟨j,k0,rfl,W,g1,g2,g3⟩:=m v (by rw [<- z];simp)
  have X:d.length*M<=16*M:=Nat.mul_le_mul_right _ (by omega)
  obtain ⟨Y,e1,e2,e3⟩:=wx c1 y u N V m r (d++[ac j k0]) (acc++W) (by rw [append_assoc];exact z) (O.Jv g2) (by simp only [length_append,length_cons,length_nil,Nat.succ_mul,Nat.zero_add];omega)
  refine ⟨Y,by simp only [length_append,length_cons,Nat.succ_mul] at e1 ⊢;omega,e2,fun κ f U => ?_⟩
  simp only [length_cons] at U
  obtain ⟨g,rfl⟩:∃ g,f=g+1:=⟨f-1,by omega⟩
  have A:bi u (d.length:Int)=ac j k0:=eD (by rw [<- z];simp)
  rw [aM.L5,aM.t5,ai (by omega),aq,ab (by omega),ab (by omega),A]
  refine (g3 _).trans ?_
  rw [ab (by omega),wrap_i64 (by omega) (by omega)]
  have:=e3 κ g (by omega)
  rw [show (d++[ac j k0]).length=d.length+1 by simp] at this
  exact this
theorem FK (n:Nat) (h:n<=6):bq n<=100000000:=by
 rcases n with _|_|_|_|_|_|_|n
 all_goals first|decide|omega
theorem F5 {N:Nat}:∀ (n fu:Nat) (y:LV) (k:LA),n<fu->n<=6->Gw N n y k->∃ l:LA,l.length<=bq n/\iv l/\∀ κ:LA->Y1 R,aM.R fu (B y.p) (B y.v.ty) (B y.v.sub) (y.v.ps.map bw) y.v.i0 (B y.v.i1) y.v.a0 (B y.v.a1) (du y.v.c1) (B y.v.c1) (du y.v.p1) (B y.v.p1) (y.v.pp.map bw) (bH y.v.lg) y.v.w0 (B y.v.w1) (y.a:Int) (y.b:Int) (y.c:Int) (y.d:Int) (y.e:Int) k κ=κ l
 | _,0,_,_,h,_,_=>by omega
 | n,fu+1,y,k,hf,hn,h=>by
  have hp:=h.I2
  have hsz:(B y.p).size<=100:=by rw [b6];exact hp
  have go:∃ M,M<=100000000/\3+16*M<=max 3 (bq n)+16*(if n=0 then M else 0)/\∀ v∈k,∃ y0 k0,v=ac y0 k0/\∃ l:LA,l.length<=M/\iv l/\∀ κ:LA->Y1 R,aM.R fu (B y0.p) (B y0.v.ty) (B y0.v.sub) (y0.v.ps.map bw) y0.v.i0 (B y0.v.i1) y0.v.a0 (B y0.v.a1) (du y0.v.c1) (B y0.v.c1) (du y0.v.p1) (B y0.v.p1) (y0.v.pp.map bw) (bH y0.v.lg) y0.v.w0 (B y0.v.w1) (y0.a:Int) (y0.b:Int) (y0.c:Int) (y0.d:Int) (y0.e:Int) k0 κ=κ l:=by
   cases n with
   | zero=>exact ⟨0,by omega,by simp [bq],fun v hv=>by rw [h.2.2] at hv;cases hv⟩
   | succ n =>
    refine ⟨bq n,FK n (by omega),(by simp [bq] <;> omega),fun v hv => ?_⟩
    obtain ⟨y0,k0,e,hg⟩:=h.2.2.2.2 v hv
    exact ⟨y0,k0,e,F5 n fu y0 k0 (by omega) (by omega) hg⟩
  obtain ⟨M,hM,hM2,hrec⟩:=go
  have hkl:=h.IP
  have fin:∀ acc:LA,acc.length<=3->iv acc->∃ l:LA,l.length<=bq n/\iv l/\∀ κ:LA->Y1 R,aM.L5 (aM.R fu) κ ah 0 (B y.p) (B y.v.ty) (B y.v.sub) (y.v.ps.map bw) y.v.i0 (B y.v.i1) y.v.a0 (B y.v.a1) (du y.v.c1) (B y.v.c1) (du y.v.p1) (B y.v.p1) (y.v.pp.map bw) (bH y.v.lg) y.v.w0 (B y.v.w1) (y.a:Int) (y.b:Int) (y.c:Int) (y.d:Int) (y.e:Int) k acc=κ l:=fun acc h3 hs=>by
   obtain ⟨l,g1,g2,g3⟩:=wx (aM.R fu) y k hkl (by omega) hrec k [] acc rfl hs (by simpa using h3)
   refine ⟨l,?_,g2,fun κ=>g3 κ ah (by unfold ah;omega)⟩
   have hkm:k.length*M<=16*M:=Nat.mul_le_mul_right _ hkl
   cases n with
   | zero=>rw [h.2.2] at g1;simp only [length_nil,Nat.zero_mul] at g1;rw [bq];omega
   | succ n => simp only [Nat.succ_ne_zero, if_false] at hM2; have : 3 <= bq (n + 1) := by rw [bq]; omega
               omega
  have chk0:(B y.p).size+(⟨#[46,49]⟩:BA).size<=9223372036854775807:=by have:(⟨#[46,49]⟩:BA).size=2:=rfl;omega
  by_cases c:B y.p=⟨#[]⟩
  ·obtain ⟨l,g1,g2,g3⟩:=fin [AV.str (⟨#[49]⟩:BA),AV.str (⟨#[49,46,49]⟩:BA),AV.str (⟨#[50]⟩:BA)] (by simp) (fun v hv=>by
    simp only [mem_cons,mem_nil_iff,or_false] at hv
    rcases hv with rfl|rfl|rfl
    ·show (⟨#[49]⟩:BA).size<=1000;decide
    ·show (⟨#[49,46,49]⟩:BA).size<=1000;decide
    ·show (⟨#[50]⟩:BA).size<=1000;decide)
   refine ⟨l,g1,g2,fun κ => ?_⟩
   rw [aM.R,aM.B,aM.e,ab chk0,ai c];exact g3 κ
  ·obtain ⟨l,g1,g2,g3⟩:=fin [AV.str (B y.p),AV.str (B y.p++(⟨#[46,49]⟩:BA))] (by simp) (fun v hv=>by
    simp only [mem_cons,mem_nil_iff,or_false] at hv
    rcases hv with rfl|rfl
    ·show (B y.p).size<=1000;omega
    ·show (B y.p++(⟨#[46,49]⟩:BA)).size<=1000
     rw [ByteArray.size_append];have:(⟨#[46,49]⟩:BA).size=2:=rfl;omega)
   refine ⟨l,g1,g2,fun κ => ?_⟩
   rw [aM.R,aM.B,aM.e,ab chk0,af c];exact g3 κ
theorem rc (l:LA) (m:l.length<=1000000) (κ:Y3->Y1 R):∀ (f i:Nat),i<=l.length->l.length<i+f->bz.L4 κ f l l (i:Int)=κ true
 | 0,i,u,z=>by omega
 | f+1,i,u,z=>by
  rw [bz.L4,bz.t4]
  by_cases h:i<l.length
  ·have j:wrap .i64 ((i:Int)+1)=((i+1:Nat):Int):=wrap_i64 (by omega) (by omega)
   rw [ai (by omega),aq,ab (by omega),ab (by omega),aq,ab (by omega),ab (by omega),j,decide_eq_true (rfl:(bi l (i:Int)).s=_)]
   exact rc l m κ f (i+1) (by omega) (by omega)
  ·rw [af (by omega)]
theorem D7 (l:LA) (j:l.length<=1000000) (κ:Y3->Y1 R):bz l l κ=κ true:=by
 have key:∀ f,l.length<f->bz.e l l (bz.L4 κ f) κ=κ true:=by
  intro f h
  unfold bz.e
  rw [Ev rfl]
  exact rc l j κ f 0 (by omega) (by omega)
 exact key ah (by unfold ah;omega)
def xp:Nat->LV->LA->Prop
 | 0,y,k=>Hv y/\k=[]
 | n+1,y,k=>Hv y/\k.length<=1000/\(y.v.ty=gT->k≠[]->dI y=true)/\∀ v∈k,∃ f k0,v=ac f k0/\xp n f k0
theorem xp.len:∀ {n:Nat} {y:LV} {k:LA},xp n y k->k.length<=1000
 | 0,_,_,h=>by rw [h.2];simp
 | _+1,_,_,h=>h.2.1
theorem xp.BL:∀ {n:Nat} {y:LV} {k:LA},xp n y k->∀ v∈k,∃ m f k0,n=m+1/\v=ac f k0/\xp m f k0
 | 0,_,_,h,v,j=>by rw [h.2] at j;cases j
 | m+1,_,_,h,v,j=>by obtain ⟨f,k0,u,z⟩:=h.2.2.2 v j;exact ⟨m,f,k0,rfl,u,z⟩
theorem EW (y:LV) (k:LA):xj (ac y k)=dI y:=by
 have hm:∀ a b:List Y2,decide (B a=B b)=decide (a=b):=fun a b=>decide_eq_decide.2 eg
 unfold xj dI
 rw [show ((ac y k).fld 1).s=B y.v.ty from rfl,show ((ac y k).fld 2).s=B y.v.sub from rfl,show (⟨#[109,101,115,115,97,103,101]⟩:BA)=B gT from rfl,show (⟨#[114,102,99,56,50,50]⟩:BA)=B mK from rfl,hm,hm]
 cases decide (y.v.ty=gT) <;> rfl
theorem xp.Wf:∀ {n:Nat} {y:LV} {k:LA},xp n y k->Go.Proofs.Ab.Wf n (ac y k)
 | 0,_,_,h=>h.2
 | n+1,y,k,h=>⟨h.2.1,fun f j=>by rw [EW];exact h.2.2.1 (eg.1 f) j,fun u hu=>by
   obtain ⟨z,k0,rfl,m⟩:=h.2.2.2 u hu
   exact m.Wf⟩
def En (n:Nat) (v:AV):Prop:=∃ m y k,m<=n/\v=ac y k/\xp m y k
theorem En.BL {n:Nat} {v u:AV} (h:En n v) (hu:u∈(v.fld 21).l):En n u:=by
 obtain ⟨m,y,k,hm,rfl,f⟩:=h
 obtain ⟨m',j,k0,rfl,e,z⟩:=f.BL u hu
 exact ⟨m',j,k0,by omega,e,z⟩
theorem Aa {n m:Nat} {w u:AV} {is:Y3} (h:En n w) (hm:1<=m) (e:qW w is m=some u):En n u:=by
 unfold qW at e
 split at e
 ·split at e
  ·cases e
  ·cases e;exact h.BL (qD (by omega) (by omega))
 ·split at e
  ·cases e;exact h
  ·cases e
theorem B0 {n:Nat}:∀ {l:List Nat} {v u:AV} {is:Y3},En n v->(∀ m∈l,1<=m)->o4 v is l=some u->En n u
 | [],v,u,is,h,_,e=>by rw [o4] at e;cases e;exact h
 | m::l,v,u,is,h,hm,e=>by
  rw [o4] at e
  cases f:m4 v is m with
  | none=>rw [f] at e;cases e
  | some x =>
   rw [f] at e
   refine B0 (v:=x) ?_ (fun m j=>hm m (by simp [j])) e
   unfold m4 yP at f
   split at f
   ·exact Aa (h.BL (qD (i:=0) (by omega) (by omega))) (hm m (by simp)) f
   ·exact Aa h (hm m (by simp)) f
theorem sw {P:AV->Prop} {rec:LV->Nat->LV × LA × Nat} {w:List Y2} {j:Nat->List Y2} {z:Y3} (f:∀ q i c,P (ac (rec (er w q (j i) z) c).1 (rec (er w q (j i) z) c).2.1)):∀ (r:List (Nat × Nat)) (i:Nat) (acc:LA) (m:Nat),(∀ v∈acc,P v)->∀ v∈(cM rec w j z i acc m r).1,P v
 | [],_,_,_,h=>h
 | q::r,i,acc,m,h=>by
  rw [cM]
  refine sw f r _ _ _ (fun v A => ?_)
  rcases List.mem_append.1 A with u|u
  ·exact h v u
  ·rw [mem_singleton] at u;subst u;exact f q (i+1) m
theorem F4 (w:List Y2):∀ (n:Nat) (x:LV) (deep:Nat) (is:Y3) (f:Nat),Hv x->xp n (cZ w n x deep is f).1 (cZ w n x deep is f).2.1
 | 0,x,_,_,_,h=>⟨h,rfl⟩
 | n+1,x,deep,is,f,h=>by
  rw [cZ]
  split
  ·rename_i c
   have hlen:=mC (rec:=fun y c=>cZ w n y (deep+1) (dI x) c) (w:=w) (db x is) (eR x) (gd w x) 0 [] (f+(gd w x).length)
   refine ⟨CG _ h,(by simp only [length_nil] at hlen;show (cM _ _ _ _ _ _ _ _).1.length<=1000;omega),fun hm j => ?_,sw (P:=fun v=>∃ N k0,v=ac N k0/\xp n N k0) (fun q i cc=>⟨_,_,rfl,F4 w n _ _ _ _ (C8 _ _ _ _)⟩) _ _ _ _ (fun v m=>(by cases m))⟩
   generalize O:cM (fun y c=>cZ w n y (deep+1) (dI x) c) w (db x is) (eR x) 0 [] (f+(gd w x).length) (gd w x)=K at hm j ⊢
   have u:K.1.isEmpty=false:=by cases h:K.1 with
    | nil=>exact absurd h j
    | cons a l=>rfl
   rw [u] at hm ⊢
   have m:∀ z:LV,(cI w z false).v=z.v:=fun z=>by
    show (if dI z then { z with e:=eE (dH w z) } else z).v=z.v
    split <;> rfl
   have A:dI (cI w x false)=dI x:=by unfold dI;rw [m]
   rw [m] at hm
   rw [A]
   cases M:dI x with
   | true=>rfl
   | false =>
    have:gd w x=[]:=by unfold gd;rw [M,if_neg (by decide),if_neg (fun e=>by have:=e.1;rw [hm] at this;revert this;decide)]
    rw [this,cM] at O
    rw [<- O] at j;exact absurd rfl j
  ·exact ⟨CG _ h,by simp,fun _ j=>absurd rfl j,fun v m=>(by cases m)⟩
abbrev Ek (κ:BA->Y1 R) (f:Nat):=dd.L4 bW cw bU κ f
abbrev He (κ:BA->Y1 R) (f:Nat):=dd.L8 bW cw bU κ f
theorem DW (κ:BA->Y1 R) (f:Nat) (x0:Y3) (j:LA) (m:BA) (u:Int) (z:LA):Ek κ (f+1) x0 j m u z=dd.t4 (He κ f) κ x0 j m u z:=by
 try unfold Ek
 try unfold He
 try unfold dd.L4
 try unfold dd.L8
 rw [dd.M4]
theorem DX (κ:BA->Y1 R) (f:Nat) (x0:Y3) (j:LA) (m:BA) (u:Int) (z:Y3) (A:Int) (M:LA):He κ (f+1) x0 j m u z A M=dd.t8 cw bU (Ek κ f) (He κ f) x0 j m u z A M:=by
 try unfold Ek
 try unfold He
 try unfold dd.L4
 try unfold dd.L8
 rw [dd.M4]
theorem wT (A:Y3) (u:LA) (ad:u.length<=1000) (hf:∀ a∈u,Fit NB a) (M:List Fl) (i:Nat) (x:Fl) (hx:M[i]? = some x) (V:x.1.length<=NB) (hi:M.length<=1000000) (acc:List Y2) (ha:acc.length<=1000000000000) (hr:x.2.2.length<=1000000) (κ:BA->Y1 R) (X:Y1 R) (g:Nat)
  (hX:∀ f',g<=f'->Ek κ f' A u (B (acc++mm A u x)) ((i+1:Nat):Int) (M.map gP)=X) :
  ∀ (m k f:Nat) (b:Y3),u.length<=k+m->k<=u.length->(b||(decide (x.1≠[])&&oN x.1 (u.drop k)))=(decide (x.1≠[])&&oN x.1 u)->g+m+1<=f ->
   He κ f A u (B acc) (i:Int) b (k:Int) (M.map gP)=X
 | m,k,0,b,h1,h2,O,h4=>by omega
 | m,k,f+1,b,h1,h2,O,h4=>by
  have a8:=(List.getElem?_eq_some_iff.1 hx).1
  have ae:(M.map gP).length=M.length:=length_map ..
  have ap:wrap .i64 ((k:Int)+1)=((k+1:Nat):Int):=wrap_i64 (by omega) (by omega)
  have ar:wrap .i64 ((i:Int)+1)=((i+1:Nat):Int):=wrap_i64 (by omega) (by omega)
  rw [DX,dd.t8,zj hx,HF,HH,dU,show ((⟨#[13,10]⟩:BA))=B [13,10] from rfl]
  simp only [eg,b6,ae,ap,ar,fX,length_append,length_cons,length_nil]
  cases W:u.drop k with
  | nil =>
   have:=drop_nil W
   rw [W] at O
   have hb:(decide (x.1≠[])&&oN x.1 u)=b:=by rw [<- O];unfold oN;simp
   have N:oU A u x=(b == A):=by unfold oU;rw [hb]
   have put:oU A u x=false->(bo ((decide ((0:Int)<=(i:Int)))&&(decide ((i:Int)<(M.length:Int)))) (bo (decide (acc.length+x.2.2.length<=9223372036854775807)) (bo ((decide ((0:Int)<=(i:Int)))&&(decide ((i:Int)<(M.length:Int)))) (bU (B x.2.2) (fun Y=>(bo ((decide ((0:Int)<=(i:Int)))&&(decide ((i:Int)<(M.length:Int)))) (bif ((Y.size:Int) == (x.2.2.length:Int)) then (bo (decide (acc.length+x.2.2.length+(0+1+1)<=9223372036854775807)) (Ek κ f A u (B (acc++x.2.2++[13,10])) ((i+1:Nat):Int) (M.map gP))) else (Ek κ f A u (B (acc++x.2.2)) ((i+1:Nat):Int) (M.map gP)))))))))=X:=by
    intro U
    rw [aq,ab (by omega),ab (by omega),ab (by omega),aq,ab (by omega),ab (by omega),tS x.2.2 (by omega),aq,ab (by omega),ab (by omega),b6]
    have ax:(((fb x.2.2).length:Int) == (x.2.2.length:Int)) = !gR x.2.2:=by
     rw [<- B1]
     rw [Bool.eq_iff_iff]
     simp only [beq_iff_eq]
     omega
    rw [ax]
    have j:=hX f (by omega)
    unfold mm at j
    rw [U] at j
    simp only [cond_false] at j
    cases he:gR x.2.2 with
    | true =>
     rw [pL he] at j
     simp only [Bool.not_true,cond_false]
     exact j
    | false =>
     have a1:nj x.2.2=x.2.2++[13,10]:=by unfold nj;rw [he];rfl
     rw [a1,<- append_assoc] at j
     simp only [Bool.not_false,cond_true]
     rw [ab (by omega)]
     exact j
   have skip:oU A u x=true->Ek κ f A u (B acc) ((i+1:Nat):Int) (M.map gP)=X:=by
    intro U
    have j:=hX f (by omega)
    unfold mm at j
    rw [U,cond_true,append_nil] at j
    exact j
   rw [af (by omega),aq,ab (by omega),ab (by omega)]
   by_cases z:x.1=[]
   ·rw [decide_eq_true z]
    have a6:b=false:=by rw [<- hb];simp [z]
    rw [a6] at N
    simp only [cond_true,Bool.not_true,cond_false]
    cases A with
    | false=>exact skip (by rw [N];rfl)
    | true =>
     simp only [Bool.not_true,cond_false]
     rw [aq,ab (by omega),ab (by omega)]
     exact put (by rw [N];rfl)
   ·rw [decide_eq_false z]
    simp only [cond_false,Bool.not_false,cond_true]
    rw [aq,ab (by omega),ab (by omega),<- N]
    cases U:oU A u x with
    | true=>exact skip U
    | false=>exact put U
  | cons a t =>
   obtain ⟨g1,g2,g3⟩:=cG W
   have a7:=hf a (List.mem_of_getElem? g1)
   rw [W,rO] at O
   obtain ⟨m',rfl⟩:∃ m',m=m'+1:=⟨m-1,by omega⟩
   have ih:=fun b' h=>wT A u ad hf M i x hx V hi acc ha hr κ X g hX m' (k+1) f b' (by omega) (by omega) h (by omega)
   rw [g3] at ih
   rw [ai (by omega)]
   cases b with
   | true =>
    simp only [cond_true]
    exact ih true (by simpa using O)
   | false =>
    simp only [cond_false]
    rw [aq,ab (by omega),ab (by omega)]
    by_cases z:x.1=[]
    ·rw [decide_eq_true z]
     simp only [Bool.not_true,cond_false]
     exact ih false (by simp [z])
    ·rw [decide_eq_false z]
     simp only [Bool.not_false,cond_true]
     rw [aq,ab (by omega),ab (by omega),aq,ab (by omega),ab (by omega),mW W,DM _ _ (by rw [b6];exact V) a7.s,jR]
     exact ih _ (by simpa [z] using O)
theorem z8 (z:Y3) (j:LA) (A:j.length<=1000) (W:∀ a∈j,Fit NB a) (u:List Fl) (Y:u.length<=300000) (M:∀ x∈u,x.1.length<=NB/\x.2.2.length<=200000) (κ:BA->Y1 R):∀ (m i f:Nat) (acc:List Y2),u.length<=i+m->i<=u.length->2000*m+1<=f->acc.length<=200002*i ->
  Ek κ f z j (B acc) (i:Int) (u.map gP)=κ (B (acc++BM z j (u.drop i)++[13,10]))
 | m,i,0,acc,h1,h2,h3,h4=>by omega
 | m,i,f+1,acc,h1,h2,h3,h4=>by
  have N:(u.map gP).length=u.length:=length_map ..
  rw [DW,dd.t4,N]
  cases X:u.drop i with
  | nil =>
   have:=drop_nil X
   rw [af (by omega),show ((⟨#[13,10]⟩:BA))=B [13,10] from rfl,b6,b6,ab (by simp only [length_cons,length_nil];omega),fX]
   unfold BM
   simp
  | cons x t =>
   obtain ⟨g1,g2,g3⟩:=cG X
   obtain ⟨m',rfl⟩:∃ m',m=m'+1:=⟨m-1,by omega⟩
   obtain ⟨O,ad⟩:=M x (List.mem_of_getElem? g1)
   have U:BM z j (x::t)=mm z j x++BM z j t:=by unfold BM;simp
   have ae:(mm z j x).length<=200002:=by
    unfold mm
    cases oU z j x with
    | true=>simp
    | false =>
     simp only [cond_false]
     unfold nj
     cases gR x.2.2 <;> simp <;> omega
   rw [ai (by omega)]
   refine wT z j A W u i x g1 O (by omega) acc (by omega) (by omega) κ _ (2000*m'+1) (fun f' V => ?_) j.length 0 f false (by omega) (by omega) (by simp) (by omega)
   have:=z8 z j A W u Y M κ m' (i+1) f' (acc++mm z j x) (by omega) (by omega) V (by rw [length_append];omega)
   rw [g3] at this
   rw [this,U];simp
theorem mu:∀ (M:List (List Y2)) (j:Option Fl) (N:Nat),(∀ x,j=some x->x.1.length<=N)->total M<=N->∀ x∈cQ j M,x.1.length<=N
 | [],none,N,h,u,x,f=>by rw [cQ] at f;cases f
 | [],some y,N,h,u,x,f=>by rw [cQ,mem_singleton] at f;subst f;exact h x rfl
 | c::r,j,N,h,u,x,f=>by
  simp only [total] at u
  have m:(fresh c).1.length<=N:=by
   have:=uF c
   unfold fresh
   cases eV c with
   | false=>simp
   | true=>show (fC c).length<=N;omega
  cases j with
  | none =>
   have e:cQ none (c::r)=cQ (some (fresh c)) r:=rfl
   rw [e] at f
   exact mu r _ N (by intro y e;cases e;exact m) (by omega) x f
  | some y =>
   rw [p9] at f
   cases O:dl (c.headD 0) with
   | true =>
    rw [O,cond_true] at f
    exact mu r _ N (by intro z e;cases e;exact h y rfl) (by omega) x f
   | false =>
    rw [O,cond_false] at f
    rcases List.mem_cons.1 f with A|A
    ·rw [A];exact h y rfl
    ·exact mu r _ N (by intro z e;cases e;exact m) (by omega) x A
theorem DL (m:Y3) (j:LA) (u:j.length<=1000) (A:∀ a∈j,Fit NB a) (h:List Y2) (M:h.length<=200000) (κ:BA->Y1 R):dd (B h) m j κ=κ (B (oD m j (dK false [] (dF h))++[13,10])):=by
 have W:=kF h
 have X:=gF h
 have N:=jh (dF h) none
 have O:=mu (dF h) none 200000 (by intro x e;cases e) (by omega)
 have U:=kE (dF h) none 200000 (by intro x e;cases e) (by omega)
 simp only [Option.toList_none,length_nil] at N
 have key:∀ f,2000*300000<f->dd.e bW cw bU (B h) m j (Ek κ f) (He κ f) κ=κ (B (oD m j (dK false [] (dF h))++[13,10])):=by
  intro f V
  unfold dd.e
  rw [head_eq h M,dU,<- yw]
  have:=z8 m j u A (cQ none (dF h)) (by omega) (fun x z=>⟨by have:=O x z;unfold NB;omega,U x z⟩) κ (cQ none (dF h)).length 0 f [] (by omega) (by omega) (by omega) (by simp)
  rw [drop_zero,nil_append] at this
  exact this
 exact key ah (by unfold ah;omega)
def H5 (f:Y3) (j:LA) (h:BA):BA:=B (oD f j (dK false [] (dF (bl h)))++[13,10])
def jS (f:BA) (m:LA) (o:AV) (j:Int):BA × Y3:=
 if j=1 then gv f (o.fld 16).i (o.fld 17).i else if j=4 then gv f (o.fld 18).i (o.fld 19).i
 else if j=2∨j=3 then (if (gv f (o.fld 16).i (o.fld 17).i).2=true then (H5 (j == 3) m (gv f (o.fld 16).i (o.fld 17).i).1,true) else ((⟨#[]⟩:BA),false)) else ((⟨#[]⟩:BA),false)
def Hg (f:BA) (m:LA) (u:AV) (j:Int):BA × Y3:=
 if j=0 then gv f (u.fld 18).i (u.fld 19).i else if j=5 then gv f (u.fld 16).i (u.fld 17).i
 else if xj u=true/\((u.fld 21).l.length:Int)>0 then jS f m (bi (u.fld 21).l 0) j else ((⟨#[]⟩:BA),false)
def Hh (f:BA) (m:LA) (u:AV) (j:Int):BA × Y3:=if j=0 then (f,true) else jS f m u j
def Bs (f:BA) (j:LA) (v:AV) (p:List Y2) (m:Int):BA × Y3:=
 if p=[] then Hh f j v m else match (nG 0 true p []).bind (o4 v true) with
  | none=>((⟨#[]⟩:BA),false)
  | some u=>Hg f j u m
theorem Fz {f:BA} {a b:Int} (h:(gv f a b).2=false):gv f a b=((⟨#[]⟩:BA),false):=by
 unfold gv at h ⊢
 split
 ·rfl
 ·rename_i c;rw [if_neg c] at h;cases h
theorem G3 (j:Y3) (f:LA) (m:f.length<=1000) (u:∀ a∈f,Fit NB a) (h:BA) (z:h.size<=200000) (κ:BA->Y1 R):cJ h j f κ=κ (H5 j f h):=by
 have:=Da (R:=R) j f m u (bl h) (by rw [<- fa];exact z) κ
 rw [iE] at this
 exact this
theorem Hd (j:Y3) (f:LA) (m:f.length<=1000) (u:∀ a∈f,Fit NB a) (h:BA) (z:h.size<=200000) (κ:BA->Y1 R):dd h j f κ=κ (H5 j f h):=by
 have:=DL (R:=R) j f m u (bl h) (by rw [<- fa];exact z) κ
 rw [iE] at this
 exact this
theorem Ae (f q:BA) (m:LA) (N:m.length<=1000) (O:∀ a∈m,Fit NB a) (W:f.size<=200000) (u o:AV) (j:Int) (x0 x:BA) (κ:BA->Y3->Y1 R):aW.t10 dB cJ κ f j q j m x0 (u.fld 1).s (u.fld 2).s (u.fld 3).l (u.fld 4).b (u.fld 5).s (u.fld 6).b (u.fld 7).s (u.fld 8).b (u.fld 9).s (u.fld 10).b (u.fld 11).s (u.fld 12).l (u.fld 13).l (u.fld 14).b (u.fld 15).s (u.fld 16).i (u.fld 17).i (u.fld 18).i (u.fld 19).i (u.fld 20).i (u.fld 21).l x (o.fld 1).s (o.fld 2).s (o.fld 3).l (o.fld 4).b (o.fld 5).s (o.fld 6).b (o.fld 7).s (o.fld 8).b (o.fld 9).s (o.fld 10).b (o.fld 11).s (o.fld 12).l (o.fld 13).l (o.fld 14).b (o.fld 15).s (o.fld 16).i (o.fld 17).i (o.fld 18).i (o.fld 19).i (o.fld 20).i (o.fld 21).l
  = κ (if j=0 then (if q=(⟨#[]⟩:BA) then (f,true) else gv f (u.fld 18).i (u.fld 19).i) else if j=5 then (if q=(⟨#[]⟩:BA) then ((⟨#[]⟩:BA),false) else gv f (u.fld 16).i (u.fld 17).i) else jS f m o j).1 (if j=0 then (if q=(⟨#[]⟩:BA) then (f,true) else gv f (u.fld 18).i (u.fld 19).i) else if j=5 then (if q=(⟨#[]⟩:BA) then ((⟨#[]⟩:BA),false) else gv f (u.fld 16).i (u.fld 17).i) else jS f m o j).2:=by
 have A:(dB f (o.fld 16).i (o.fld 17).i (fun r b=>(bif (!b) then (κ (⟨#[]⟩:BA) false) else (cJ r (j == 3) m (fun U=>(κ U true))))))=κ (if (gv f (o.fld 16).i (o.fld 17).i).2=true then (H5 (j == 3) m (gv f (o.fld 16).i (o.fld 17).i).1,true) else ((⟨#[]⟩:BA),false)).1 (if (gv f (o.fld 16).i (o.fld 17).i).2=true then (H5 (j == 3) m (gv f (o.fld 16).i (o.fld 17).i).1,true) else ((⟨#[]⟩:BA),false)).2:=by
  rw [rb]
  have M:=tA f (o.fld 16).i (o.fld 17).i
  rcases V:gv f (o.fld 16).i (o.fld 17).i with ⟨h,b⟩
  rw [V] at M
  cases b with
  | false=>rfl
  | true=>exact G3 _ m N O h (by show h.size<=_;simp only at M;omega) _
 rw [aW.t10]
 unfold jS
 by_cases k0:j=0
 ·rw [eS k0,cond_true,if_pos k0]
  by_cases z:q=(⟨#[]⟩:BA)
  ·rw [ai z,if_pos z]
  ·rw [af z,if_neg z,rb]
 ·rw [eJ k0,cond_false,if_neg k0]
  by_cases k1:j=1
  ·rw [eS k1,cond_true,if_neg (by omega),if_pos k1,rb]
  ·rw [eJ k1,cond_false]
   by_cases k4:j=4
   ·rw [eS k4,cond_true,if_neg (by omega),if_neg k1,if_pos k4,rb]
   ·rw [eJ k4,cond_false]
    by_cases k2:j=2
    ·rw [eS k2,cond_true,if_neg (by omega),if_neg k1,if_neg k4,if_pos (.inl k2)];exact A
    ·rw [eJ k2,cond_false]
     by_cases k3:j=3
     ·rw [if_neg (by omega),if_neg k1,if_neg k4,if_pos (.inr k3)];rw [eS k3] at A ⊢;rw [cond_true];exact A
     ·rw [eJ k3,cond_false]
      by_cases k5:j=5
      ·rw [eS k5,cond_true,if_pos k5]
       by_cases z:q=(⟨#[]⟩:BA)
       ·rw [decide_eq_true z,Bool.not_true,cond_false,if_pos z]
       ·rw [decide_eq_false z,Bool.not_false,cond_true,if_neg z,rb]
      ·rw [eJ k5,cond_false,if_neg k5,if_neg k1,if_neg k4,if_neg (fun e=>e.elim k2 k3)]
theorem IX (f:BA) (M:f.size<=200000) (m:LA) (N:m.length<=1000) (O:∀ a∈m,Fit NB a) {n:Nat} {v:AV} (Y:Wf n v) (p:List Y2) (hp:p.length<=10000000) (j:Int) (κ:BA->Y3->Y1 R) :
  aW f (v.fld 0).s (v.fld 1).s (v.fld 2).s (v.fld 3).l (v.fld 4).b (v.fld 5).s (v.fld 6).b (v.fld 7).s (v.fld 8).b (v.fld 9).s (v.fld 10).b (v.fld 11).s (v.fld 12).l (v.fld 13).l (v.fld 14).b (v.fld 15).s (v.fld 16).i (v.fld 17).i (v.fld 18).i (v.fld 19).i (v.fld 20).i (v.fld 21).l (B p) j m κ=κ (Bs f m v p j).1 (Bs f m v p j).2:=by
 have hL:aW.Ap dm ci an dB cJ κ ah=aW.t10 dB cJ κ:=rfl
 unfold aW aW.e Bs
 rw [hL]
 by_cases c:p=[]
 ·subst c
  unfold dm Hh
  rw [ai (show B []=(⟨#[]⟩:BA) from rfl),if_pos rfl]
  simp only [Bool.not_true,cond_false]
  rw [decide_eq_true (show B []=(⟨#[]⟩:BA) from rfl),Bool.not_true,cond_false]
  refine (Ae f (B []) m N O M v v j _ _ κ).trans ?_
  by_cases k0:j=0
  ·rw [if_pos k0,if_pos k0,if_pos (show B []=(⟨#[]⟩:BA) from rfl)]
  ·by_cases k5:j=5
   ·have z:jS f m v j=((⟨#[]⟩:BA),false):=by unfold jS;rw [if_neg (by omega),if_neg (by omega),if_neg (by omega)]
    rw [if_neg k0,if_neg k0,if_pos k5,if_pos (show B []=(⟨#[]⟩:BA) from rfl),z]
   ·rw [if_neg k0,if_neg k0,if_neg k5]
 ·have U:B p≠(⟨#[]⟩:BA):=fun e=>c (by have:=congrArg bl e;rw [jR] at this;exact this)
  have A:=fun V W=>HR (R:=R) v p hp c V W
  rw [CH ah n p v true (by unfold ah;omega) Y] at A
  rw [if_neg c]
  cases X:(nG 0 true p []).bind (o4 v true) with
  | none =>
   rw [X] at A
   refine (A _ _).trans ?_
   rfl
  | some u =>
   rw [X] at A
   refine (A _ _).trans ?_
   simp only [rq,Bool.not_true,cond_false]
   rw [decide_eq_false U,Bool.not_false,cond_true]
   unfold Hg
   by_cases k0:j=0
   ·rw [B8 k0,cond_false,if_pos k0]
    refine (Ae f (B p) m N O M u u j _ _ κ).trans ?_
    rw [if_pos k0,if_neg U]
   ·rw [B9 k0,cond_true,if_neg k0]
    by_cases k5:j=5
    ·rw [B8 k5,cond_false,if_pos k5]
     refine (Ae f (B p) m N O M u u j _ _ κ).trans ?_
     rw [if_neg k0,if_pos k5,if_neg U]
    ·rw [B9 k5,cond_true,if_neg k5]
     have hi:∀ κ:Y3->BA->BA->BA->LA->T0 R,an (B p) (u.fld 1).s (u.fld 2).s (u.fld 3).l (u.fld 4).b (u.fld 5).s (u.fld 6).b (u.fld 7).s (u.fld 8).b (u.fld 9).s (u.fld 10).b (u.fld 11).s (u.fld 12).l (u.fld 13).l (u.fld 14).b (u.fld 15).s (u.fld 16).i (u.fld 17).i (u.fld 18).i (u.fld 19).i (u.fld 20).i (u.fld 21).l κ=κ (xj u) (B p) (u.fld 1).s (u.fld 2).s (u.fld 3).l (u.fld 4).b (u.fld 5).s (u.fld 6).b (u.fld 7).s (u.fld 8).b (u.fld 9).s (u.fld 10).b (u.fld 11).s (u.fld 12).l (u.fld 13).l (u.fld 14).b (u.fld 15).s (u.fld 16).i (u.fld 17).i (u.fld 18).i (u.fld 19).i (u.fld 20).i (u.fld 21).l:=by
      intro κ
      unfold an an.e xj
      cases decide ((u.fld 1).s=(⟨#[109,101,115,115,97,103,101]⟩:BA)) with
      | true=>rfl
      | false=>rfl
     refine (hi _).trans ?_
     cases xj u with
     | false=>rw [Bool.not_false,cond_true,if_neg (fun e=>by cases e.1)]
     | true =>
      rw [Bool.not_true,cond_false]
      by_cases z:((u.fld 21).l.length:Int)>0
      ·rw [eJ (by show ((u.fld 21).l.length:Int)≠0;omega),cond_false,ab z,if_pos ⟨rfl,z⟩]
       refine (Ae f (B p) m N O M u (bi (u.fld 21).l 0) j _ _ κ).trans ?_
       rw [if_neg k0,if_neg k5]
      ·rw [eS (by show ((u.fld 21).l.length:Int)=0;omega),cond_true,if_neg (fun e=>z e.2)]
theorem o9 (f:BA) (a b:Int) (κ:BA->Y3->Y1 R):dJ f a b κ=κ (gv f a b).1 (gv f a b).2:=by
 unfold dJ dJ.e gv
 by_cases c1:a<0
 ·rw [ai c1,if_pos (.inl c1)]
 ·by_cases c2:b<a
  ·rw [af c1,ai c2,if_pos (.inr (.inl c2))]
  ·by_cases c3:b>(f.size:Int)
   ·rw [af c1,af c2,ai c3,if_pos (.inr (.inr c3))]
   ·rw [af c1,af c2,af c3,if_neg (fun e=>e.elim c1 fun e=>e.elim c2 c3),aq,ab (by omega),aq,ab (by omega),ab (by omega)]
theorem rK (f:BA) (m:LA) (A:m.length<=1000) (M:∀ a∈m,Fit NB a) (U:f.size<=200000) (o:AV) (j:Int) (V:¬ j<1) (W:¬ j>4) (κ:BA->Y3->Y1 R) :
  (bif (j == 4) then (dJ f (o.fld 18).i (o.fld 19).i (fun r b=>(κ r b))) else (dJ f (o.fld 16).i (o.fld 17).i (fun r b=>(bif (!b) then (κ r b) else (bif (j == 1) then (κ r b) else (dd r (j == 3) m (fun N=>(κ N true))))))))=κ (jS f m o j).1 (jS f m o j).2:=by
 unfold jS
 by_cases k4:j=4
 ·rw [eS k4,cond_true,if_neg (by omega),if_pos k4,o9]
 ·rw [eJ k4,cond_false,o9]
  have z:=tA f (o.fld 16).i (o.fld 17).i
  have u:=@Fz f (o.fld 16).i (o.fld 17).i
  rcases O:gv f (o.fld 16).i (o.fld 17).i with ⟨h,b⟩
  rw [O] at z u
  by_cases k1:j=1
  ·rw [if_pos k1]
   cases b with
   | false=>rfl
   | true=>simp only [Bool.not_true,cond_false];rw [eS k1,cond_true]
  ·rw [if_neg k1,if_neg k4,if_pos (by omega)]
   cases b with
   | false =>
    have:=u rfl
    simp only [Bool.not_false,cond_true]
    rw [if_neg (by decide)]
    cases this;rfl
   | true =>
    simp only [Bool.not_true,cond_false]
    rw [eJ k1,cond_false,if_pos trivial]
    exact Hd _ m A M h (by show h.size<=_;simp only at z;omega) _
theorem I' (f:BA) (hr:f.size<=200000) (z:LA) (hn:z.length<=1000) (hf:∀ a∈z,Fit NB a) {n:Nat} {v:AV} (hv:En n v) (p:List Y2) (hp:p.length<=10000000) (j:Int) (κ:BA->Y3->Y1 R) :
  bd f (v.fld 0).s (v.fld 1).s (v.fld 2).s (v.fld 3).l (v.fld 4).b (v.fld 5).s (v.fld 6).b (v.fld 7).s (v.fld 8).b (v.fld 9).s (v.fld 10).b (v.fld 11).s (v.fld 12).l (v.fld 13).l (v.fld 14).b (v.fld 15).s (v.fld 16).i (v.fld 17).i (v.fld 18).i (v.fld 19).i (v.fld 20).i (v.fld 21).l (B p) j z κ=κ (Bs f z v p j).1 (Bs f z v p j).2:=by
 unfold bd bd.e Bs
 by_cases c:p=[]
 ·subst c
  unfold cR cR.e Hh
  rw [ai (show B []=(⟨#[]⟩:BA) from rfl),if_pos rfl]
  simp only [Bool.not_true,cond_false]
  rw [ai (show B []=(⟨#[]⟩:BA) from rfl)]
  by_cases k0:j=0
  ·rw [eS k0,cond_true,if_pos k0]
  ·rw [eJ k0,cond_false,cond_false,if_neg k0]
   by_cases k5:j=5
   ·have O:jS f z v j=((⟨#[]⟩:BA),false):=by unfold jS;rw [if_neg (by omega),if_neg (by omega),if_neg (by omega)]
    rw [eS k5,cond_true,ai (show B []=(⟨#[]⟩:BA) from rfl),O]
   ·rw [eJ k5,cond_false]
    by_cases A:j<1
    ·have O:jS f z v j=((⟨#[]⟩:BA),false):=by unfold jS;rw [if_neg (by omega),if_neg (by omega),if_neg (by omega)]
     rw [ai A,O]
    ·rw [af A]
     by_cases M:j>4
     ·have O:jS f z v j=((⟨#[]⟩:BA),false):=by unfold jS;rw [if_neg (by omega),if_neg (by omega),if_neg (by omega)]
      rw [ai M,O]
     ·rw [af M,decide_eq_true (show B []=(⟨#[]⟩:BA) from rfl),Bool.not_true,cond_false]
      exact rK f z hn hf hr v j A M κ
 ·have W:B p≠(⟨#[]⟩:BA):=fun e=>c (by have:=congrArg bl e;rw [jR] at this;exact this)
  have V:=fun X Y=>JG (R:=R) v p hp c X Y
  rw [if_neg c]
  cases N:(nG 0 true p []).bind (o4 v true) with
  | none =>
   rw [N] at V
   refine (V _ _).trans ?_
   rfl
  | some u =>
   rw [N] at V
   have ad:En n u:=by
    cases hg:nG 0 true p [] with
    | none=>rw [hg] at N;cases N
    | some l =>
     rw [hg] at N
     exact B0 hv (fun m hm=>(uD p 0 true [] l (by omega) (fun h=>by cases h) (fun m hm=>by cases hm) hg m hm).1) N
   obtain ⟨m,y,k,hm,rfl,ht⟩:=ad
   have hw:=ht.Wf
   refine (V _ _).trans ?_
   simp only [rq,Bool.not_true,cond_false]
   rw [af W]
   unfold Hg
   by_cases k0:j=0
   ·rw [eS k0,cond_true,if_pos k0,o9]
   ·rw [eJ k0,cond_false,if_neg k0]
    by_cases k5:j=5
    ·rw [eS k5,cond_true,if_pos k5,af W,o9]
    ·rw [eJ k5,cond_false,if_neg k5]
     have U:∀ o:AV,j<1∨j>4->jS f z o j=((⟨#[]⟩:BA),false):=fun o h=>by unfold jS;rw [if_neg (by omega),if_neg (by omega),if_neg (by omega)]
     by_cases A:j<1
     ·rw [ai A]
      split
      ·rw [U _ (.inl A)]
      ·rfl
     ·rw [af A]
      by_cases M:j>4
      ·rw [ai M]
       split
       ·rw [U _ (.inr M)]
       ·rfl
      ·rw [af M,decide_eq_false W,Bool.not_false,cond_true]
       by_cases c1:((ac y k).fld 1).s=(⟨#[109,101,115,115,97,103,101]⟩:BA)
       ·rw [decide_eq_true c1,Bool.not_true,cond_false]
        by_cases c2:(((ac y k).fld 21).l.length:Int)>0
        ·rw [eJ (by omega),cond_false,ab c2,if_pos ⟨hw.IZ c1 (fun e=>by rw [e] at c2;simp at c2),c2⟩]
         exact rK f z hn hf hr _ j A M κ
        ·rw [eS (by omega),cond_true,if_neg (fun e=>c2 e.2)]
       ·have ae:xj (ac y k)=false:=by unfold xj;rw [af c1]
        rw [decide_eq_false c1,Bool.not_false,cond_true,if_neg (fun e=>by rw [ae] at e;cases e.1)]
theorem Cs (f:LA) (x:AV):iF (([]++f)++[x]) 0 (f.length:Int)=f:=by
 unfold iF
 rw [nil_append,Int.toNat_natCast,List.take_left];rfl
theorem Fg (f:LA) (x:AV):bi (([]++f)++[x]) (f.length:Int)=x:=eD (by simp)
theorem Ii {j:LV} {k0:LA} {n:Nat} (h:xp n j k0) (hn:n<=6) (κ:Y3->Y1 R) (m oth:BA) (M:m.size<=200000) (W:oth.size<=200000) (X:Int) (z:LA) (hl:z.length<=64) (Y:∀ a∈z,Fit NB a) (all:LA) (i:Nat) (hi:i<all.length) (ha:all.length<=1000000000) (hs:∀ u∈all,u.s.size<=10000000) (k O:Int) (h0 : -1<=k) (h7:k<=7) (f:Nat)
  (hJ:aG.u6 b8 bh bO aM aW bz bd κ f m oth X z (i:Int) (k+1) ((ac j k0).fld 0).s ((ac j k0).fld 1).s ((ac j k0).fld 2).s ((ac j k0).fld 3).l ((ac j k0).fld 4).b ((ac j k0).fld 5).s ((ac j k0).fld 6).b ((ac j k0).fld 7).s ((ac j k0).fld 8).b ((ac j k0).fld 9).s ((ac j k0).fld 10).b ((ac j k0).fld 11).s ((ac j k0).fld 12).l ((ac j k0).fld 13).l ((ac j k0).fld 14).b ((ac j k0).fld 15).s ((ac j k0).fld 16).i ((ac j k0).fld 17).i ((ac j k0).fld 18).i ((ac j k0).fld 19).i ((ac j k0).fld 20).i ((ac j k0).fld 21).l ((ac j k0).fld 0).s ((ac j k0).fld 1).s ((ac j k0).fld 2).s ((ac j k0).fld 3).l ((ac j k0).fld 4).b ((ac j k0).fld 5).s ((ac j k0).fld 6).b ((ac j k0).fld 7).s ((ac j k0).fld 8).b ((ac j k0).fld 9).s ((ac j k0).fld 10).b ((ac j k0).fld 11).s ((ac j k0).fld 12).l ((ac j k0).fld 13).l ((ac j k0).fld 14).b ((ac j k0).fld 15).s ((ac j k0).fld 16).i ((ac j k0).fld 17).i ((ac j k0).fld 18).i ((ac j k0).fld 19).i ((ac j k0).fld 20).i ((ac j k0).fld 21).l all=κ true):aG.rj b8 bh bO aM aW bz bd κ (f+1) m oth X z (i:Int) k O ((ac j k0).fld 0).s ((ac j k0).fld 1).s ((ac j k0).fld 2).s ((ac j k0).fld 3).l ((ac j k0).fld 4).b ((ac j k0).fld 5).s ((ac j k0).fld 6).b ((ac j k0).fld 7).s ((ac j k0).fld 8).b ((ac j k0).fld 9).s ((ac j k0).fld 10).b ((ac j k0).fld 11).s ((ac j k0).fld 12).l ((ac j k0).fld 13).l ((ac j k0).fld 14).b ((ac j k0).fld 15).s ((ac j k0).fld 16).i ((ac j k0).fld 17).i ((ac j k0).fld 18).i ((ac j k0).fld 19).i ((ac j k0).fld 20).i ((ac j k0).fld 21).l ((ac j k0).fld 0).s ((ac j k0).fld 1).s ((ac j k0).fld 2).s ((ac j k0).fld 3).l ((ac j k0).fld 4).b ((ac j k0).fld 5).s ((ac j k0).fld 6).b ((ac j k0).fld 7).s ((ac j k0).fld 8).b ((ac j k0).fld 9).s ((ac j k0).fld 10).b ((ac j k0).fld 11).s ((ac j k0).fld 12).l ((ac j k0).fld 13).l ((ac j k0).fld 14).b ((ac j k0).fld 15).s ((ac j k0).fld 16).i ((ac j k0).fld 17).i ((ac j k0).fld 18).i ((ac j k0).fld 19).i ((ac j k0).fld 20).i ((ac j k0).fld 21).l all=κ true:=by
 obtain ⟨u,r,hd⟩:=mh hi
 have hg:bi all (i:Int)=u:=mW hd
 have hu:=hs u (List.mem_of_getElem? (cG hd).1)
 have N:(bl u.s).length<=10000000:=by rw [<- fa];exact hu
 have e:aG.rj (R:=R) b8 bh bO aM aW bz bd κ (f+1)=aG.t18 aW bz bd (aG.u6 b8 bh bO aM aW bz bd κ f) κ:=rfl
 have U:=fun m M κ=>IX (R:=R) m M z (by omega) Y h.Wf (bl u.s) N O κ
 have V:=fun m M κ=>I' (R:=R) m M z (by omega) Y (v:=ac j k0) ⟨n,j,k0,Nat.le_refl _,rfl,h⟩ (bl u.s) N O κ
 have hlen:(([]++z)++[AV.str (⟨#[114,111,111,109]⟩:BA)]).length=z.length+1:=by simp
 have A:(([]:LA)++z).length=z.length:=by simp
 rw [iE] at U V
 rw [e,aG.t18,hlen,A,ab (by omega),ab (by omega),aq,ab (by omega),ab (by omega),hg,aq,ab (by omega),ab (by omega),Cs]
 refine (U m M _).trans ?_
 refine (U oth W _).trans ?_
 rw [aq,ab (by omega),ab (by omega)]
 refine (D7 z (by omega) _).trans ?_
 rw [Bool.not_true,cond_false,aq,ab (by omega),ab (by omega),Fg,show (AV.str (⟨#[114,111,111,109]⟩:BA)).s=(⟨#[114,111,111,109]⟩:BA) from rfl,decide_eq_true rfl,Bool.not_true,cond_false,aq,ab (by omega),ab (by omega)]
 refine (V m M _).trans ?_
 rw [aq,ab (by omega),ab (by omega)]
 refine (V oth W _).trans ?_
 have bb:∀ b:Y3,(!(b == b))=false:=fun b=>by cases b <;> rfl
 rw [decide_eq_true rfl,Bool.not_true,cond_false,bb,cond_false,decide_eq_true rfl,Bool.not_true,cond_false,bb,cond_false,wrap_i64 (x:=k+1) (by omega) (by omega)]
 exact hJ
theorem Gb {m:LV} {k0:LA} {n:Nat} (h:xp n m k0) (U:n<=6) (κ:Y3->Y1 R) (z oth:BA) (V:z.size<=200000) (W:oth.size<=200000) (M:Int) (A:LA) (X:A.length<=64) (Y:∀ a∈A,Fit NB a) (all:LA) (i:Nat) (hi:i<all.length) (ha:all.length<=1000000000) (hs:∀ u∈all,u.s.size<=10000000) (G:Nat)
  (hJ:∀ g,G<=g->aG.Ap b8 bh bO aM aW bz bd κ g z oth M A ((i+1:Nat):Int) ((ac m k0).fld 0).s ((ac m k0).fld 1).s ((ac m k0).fld 2).s ((ac m k0).fld 3).l ((ac m k0).fld 4).b ((ac m k0).fld 5).s ((ac m k0).fld 6).b ((ac m k0).fld 7).s ((ac m k0).fld 8).b ((ac m k0).fld 9).s ((ac m k0).fld 10).b ((ac m k0).fld 11).s ((ac m k0).fld 12).l ((ac m k0).fld 13).l ((ac m k0).fld 14).b ((ac m k0).fld 15).s ((ac m k0).fld 16).i ((ac m k0).fld 17).i ((ac m k0).fld 18).i ((ac m k0).fld 19).i ((ac m k0).fld 20).i ((ac m k0).fld 21).l ((ac m k0).fld 0).s ((ac m k0).fld 1).s ((ac m k0).fld 2).s ((ac m k0).fld 3).l ((ac m k0).fld 4).b ((ac m k0).fld 5).s ((ac m k0).fld 6).b ((ac m k0).fld 7).s ((ac m k0).fld 8).b ((ac m k0).fld 9).s ((ac m k0).fld 10).b ((ac m k0).fld 11).s ((ac m k0).fld 12).l ((ac m k0).fld 13).l ((ac m k0).fld 14).b ((ac m k0).fld 15).s ((ac m k0).fld 16).i ((ac m k0).fld 17).i ((ac m k0).fld 18).i ((ac m k0).fld 19).i ((ac m k0).fld 20).i ((ac m k0).fld 21).l all=κ true):∀ (j f:Nat),j<=9->2*j+1+G<=f->aG.u6 b8 bh bO aM aW bz bd κ f z oth M A (i:Int) (8-(j:Int)) ((ac m k0).fld 0).s ((ac m k0).fld 1).s ((ac m k0).fld 2).s ((ac m k0).fld 3).l ((ac m k0).fld 4).b ((ac m k0).fld 5).s ((ac m k0).fld 6).b ((ac m k0).fld 7).s ((ac m k0).fld 8).b ((ac m k0).fld 9).s ((ac m k0).fld 10).b ((ac m k0).fld 11).s ((ac m k0).fld 12).l ((ac m k0).fld 13).l ((ac m k0).fld 14).b ((ac m k0).fld 15).s ((ac m k0).fld 16).i ((ac m k0).fld 17).i ((ac m k0).fld 18).i ((ac m k0).fld 19).i ((ac m k0).fld 20).i ((ac m k0).fld 21).l ((ac m k0).fld 0).s ((ac m k0).fld 1).s ((ac m k0).fld 2).s ((ac m k0).fld 3).l ((ac m k0).fld 4).b ((ac m k0).fld 5).s ((ac m k0).fld 6).b ((ac m k0).fld 7).s ((ac m k0).fld 8).b ((ac m k0).fld 9).s ((ac m k0).fld 10).b ((ac m k0).fld 11).s ((ac m k0).fld 12).l ((ac m k0).fld 13).l ((ac m k0).fld 14).b ((ac m k0).fld 15).s ((ac m k0).fld 16).i ((ac m k0).fld 17).i ((ac m k0).fld 18).i ((ac m k0).fld 19).i ((ac m k0).fld 20).i ((ac m k0).fld 21).l all=κ true
 | 0,f,_,N=>by
  obtain ⟨f,rfl⟩:∃ g,f=g+1:=⟨f-1,by omega⟩
  have e:aG.u6 (R:=R) b8 bh bO aM aW bz bd κ (f+1)=aG.t13 (aG.Ap b8 bh bO aM aW bz bd κ f) (aG.rj b8 bh bO aM aW bz bd κ f):=rfl
  rw [e,aG.t13,af (by omega),wrap_i64 (x:=(i:Int)+1) (by omega) (by omega)]
  exact hJ f (by omega)
 | j+1,f,hj,N=>by
  obtain ⟨f,rfl⟩:∃ g,f=g+2:=⟨f-2,by omega⟩
  have e:aG.u6 (R:=R) b8 bh bO aM aW bz bd κ (f+2)=aG.t13 (aG.Ap b8 bh bO aM aW bz bd κ (f+1)) (aG.rj b8 bh bO aM aW bz bd κ (f+1)):=rfl
  have ih:=Gb h U κ z oth V W M A X Y all i hi ha hs G hJ j f (by omega) (by omega)
  have hk:(8:Int)-((j+1:Nat):Int)+1=8-(j:Int):=by omega
  have go:∀ O,aG.rj b8 bh bO aM aW bz bd κ (f+1) z oth M A (i:Int) (8-((j+1:Nat):Int)) O ((ac m k0).fld 0).s ((ac m k0).fld 1).s ((ac m k0).fld 2).s ((ac m k0).fld 3).l ((ac m k0).fld 4).b ((ac m k0).fld 5).s ((ac m k0).fld 6).b ((ac m k0).fld 7).s ((ac m k0).fld 8).b ((ac m k0).fld 9).s ((ac m k0).fld 10).b ((ac m k0).fld 11).s ((ac m k0).fld 12).l ((ac m k0).fld 13).l ((ac m k0).fld 14).b ((ac m k0).fld 15).s ((ac m k0).fld 16).i ((ac m k0).fld 17).i ((ac m k0).fld 18).i ((ac m k0).fld 19).i ((ac m k0).fld 20).i ((ac m k0).fld 21).l ((ac m k0).fld 0).s ((ac m k0).fld 1).s ((ac m k0).fld 2).s ((ac m k0).fld 3).l ((ac m k0).fld 4).b ((ac m k0).fld 5).s ((ac m k0).fld 6).b ((ac m k0).fld 7).s ((ac m k0).fld 8).b ((ac m k0).fld 9).s ((ac m k0).fld 10).b ((ac m k0).fld 11).s ((ac m k0).fld 12).l ((ac m k0).fld 13).l ((ac m k0).fld 14).b ((ac m k0).fld 15).s ((ac m k0).fld 16).i ((ac m k0).fld 17).i ((ac m k0).fld 18).i ((ac m k0).fld 19).i ((ac m k0).fld 20).i ((ac m k0).fld 21).l all=κ true:=fun O=>by
   refine Ii h U κ z oth V W M A X Y all i hi ha hs _ O (by omega) (by omega) f ?_
   rw [hk];exact ih
  rw [e,aG.t13,ai (by omega)]
  by_cases c:(8:Int)-((j+1:Nat):Int)=7
  ·rw [eS c,cond_true];exact go M
  ·rw [eJ c,cond_false];exact go _
theorem Ad {m:LV} {k0:LA} {n:Nat} (h:xp n m k0) (O:n<=6) (κ:Y3->Y1 R) (z oth:BA) (U:z.size<=200000) (V:oth.size<=200000) (N:Int) (A:LA) (W:A.length<=64) (X:∀ a∈A,Fit NB a) (all:LA) (Y:all.length<=1000000000) (hs:∀ u∈all,u.s.size<=10000000) :
  ∀ (j i f:Nat),j+i=31->30*j<f->aG.Ap b8 bh bO aM aW bz bd κ f z oth N A (i:Int) ((ac m k0).fld 0).s ((ac m k0).fld 1).s ((ac m k0).fld 2).s ((ac m k0).fld 3).l ((ac m k0).fld 4).b ((ac m k0).fld 5).s ((ac m k0).fld 6).b ((ac m k0).fld 7).s ((ac m k0).fld 8).b ((ac m k0).fld 9).s ((ac m k0).fld 10).b ((ac m k0).fld 11).s ((ac m k0).fld 12).l ((ac m k0).fld 13).l ((ac m k0).fld 14).b ((ac m k0).fld 15).s ((ac m k0).fld 16).i ((ac m k0).fld 17).i ((ac m k0).fld 18).i ((ac m k0).fld 19).i ((ac m k0).fld 20).i ((ac m k0).fld 21).l ((ac m k0).fld 0).s ((ac m k0).fld 1).s ((ac m k0).fld 2).s ((ac m k0).fld 3).l ((ac m k0).fld 4).b ((ac m k0).fld 5).s ((ac m k0).fld 6).b ((ac m k0).fld 7).s ((ac m k0).fld 8).b ((ac m k0).fld 9).s ((ac m k0).fld 10).b ((ac m k0).fld 11).s ((ac m k0).fld 12).l ((ac m k0).fld 13).l ((ac m k0).fld 14).b ((ac m k0).fld 15).s ((ac m k0).fld 16).i ((ac m k0).fld 17).i ((ac m k0).fld 18).i ((ac m k0).fld 19).i ((ac m k0).fld 20).i ((ac m k0).fld 21).l all=κ true
 | _,_,0,_,M=>by omega
 | 0,i,f+1,hj,M=>by
  have e:aG.Ap (R:=R) b8 bh bO aM aW bz bd κ (f+1)=aG.t10 (aG.u6 b8 bh bO aM aW bz bd κ f) κ:=rfl
  rw [e,aG.t10]
  by_cases c:i<all.length
  ·rw [ai (by omega),af (by omega)]
  ·rw [af (by omega)]
 | j+1,i,f+1,hj,M=>by
  have e:aG.Ap (R:=R) b8 bh bO aM aW bz bd κ (f+1)=aG.t10 (aG.u6 b8 bh bO aM aW bz bd κ f) κ:=rfl
  rw [e,aG.t10]
  by_cases c:i<all.length
  ·rw [ai (by omega)]
   by_cases c2:i<30
   ·rw [ai (by omega)]
    exact Gb h O κ z oth U V N A W X all i c Y hs (30*j+1) (fun g hg=>Ad h O κ z oth U V N A W X all Y hs j (i+1) g (by omega) (by omega)) 9 f (by omega) (by omega)
   ·rw [af (by omega)]
  ·rw [af (by omega)]
theorem mH (a0 a1 a2:BA) (a3:Int) (a4:LA) (M:a2.size<=10000000) (N:∀ a∈a4,Fit NB a) (κ:Y3->Y1 R):aG a0 a1 a2 a3 a4 κ=κ true:=by
 unfold aG aG.e
 rw [known6_holds,Bool.not_true,cond_false]
 by_cases h:(a0.size:Int)>20000
 ·rw [ai h]
 ·rw [af h]
  by_cases z:(a1.size:Int)>20000
  ·rw [ai z]
  ·rw [af z]
   by_cases A:(a4.length:Int)>64
   ·rw [ai A]
   ·rw [af A]
    have f:(bl a0).length<=200000:=by have:=fa a0;omega
    rw [<- iE a0]
    refine (GW _ f _).trans ((G8 _ f _).trans ?_)
    have j:Gw (bl a0).length 6 (cO (bl a0)).1 (cO (bl a0)).2.1:=F2 (w:=bl a0) f 6 (er (bl a0) (0,(bl a0).length) [] false) 0 true 0 (lB (Nat.zero_le _) (Nat.le_refl _) _ _) rfl (Nat.le_add_right _ _) (by show 0+3*6<=100;omega)
    have m:xp 6 (cO (bl a0)).1 (cO (bl a0)).2.1:=F4 (bl a0) 6 (er (bl a0) (0,(bl a0).length) [] false) 0 true 0 (C8 _ _ _ _)
    obtain ⟨l,g1,g2,g3⟩:=F5 (R:=R) 6 ah (cO (bl a0)).1 (cO (bl a0)).2.1 (by unfold ah;omega) (by omega) j
    have O:=FK 6 (by omega)
    refine (g3 _).trans ?_
    rw [ab (by omega)]
    refine Ad m (by omega) κ (B (bl a0)) a1 (by rw [b6];omega) (by omega) a3 a4 (by omega) N (l++[AV.str a2,AV.str (⟨#[]⟩:BA)]) (by simp;omega) (fun u hu => ?_) 31 0 ah (by omega) (by unfold ah;omega)
    rcases List.mem_append.1 hu with hu|hu
    ·have:=g2 u hu;omega
    ·simp only [mem_cons,mem_nil_iff,or_false] at hu
     rcases hu with rfl|rfl
     ·exact M
     ·show 0<=_;omega
end Go.Proofs.Ab
