/- The plain functions of program and document say the same (conditions: those of each lemma). -/
import Derived.Test.YtneffefnlogkaaaDoorPlainALimbMultipartsCardSaid
set_option linter.unusedVariables false
set_option linter.unusedSimpArgs false
set_option maxRecDepth 4000
namespace Go.Proofs.Ab
open Go
variable {R:Type}
theorem Cg (c d:UInt8) (x:Int) (h:x=(d.toNat:Int)):((c.toNat:Int) != x)=(c != d):=by rw [h,rR]
def Ek (c:UInt8):Bool:=c != 45&&(c != 13&&c != 10)
def tZ (l:List UInt8):List UInt8:=(l.take 300).filter Ek
theorem qI (l:List UInt8) (κ : BA->Option R):∀ (f i:Nat) (acc:List UInt8),acc.length<=i->i<=300->300<i+f ->
  aK.L3 κ f (B l) (i:Int) (cI acc)=κ (B (acc++((l.take 300).drop i).filter Ek))
 | 0,i,acc,h1,h2,h3=>by omega
 | f+1,i,acc,h1,h2,h3=>by
  have hlen:(cI acc).length=acc.length:=by unfold cI;rw [List.length_map]
  rw [aK.L3,aK.t3]
  by_cases g1:i<l.length
  ·by_cases g2:i<300
   ·obtain ⟨c,r,hd⟩:=vy (l:=l.take 300) (i:=i) (by rw [List.length_take];omega)
    have hc:=(cW hd).1
    have hn:=(cW hd).2.2
    have hcl:l[i]? = some c:=by rw [List.getElem?_take_of_lt g2] at hc;exact hc
    have ih0:=qI l κ f (i+1) acc (by omega) (by omega) (by omega)
    have ih1:=qI l κ f (i+1) (acc++[c]) (by simp;omega) (by omega) (by omega)
    rw [hn] at ih0 ih1
    have hw:IntKind.wrap .i64 ((i:Int)+1)=((i+1:Nat):Int):=wrap_i64 (by omega) (by omega)
    have ek:bW ((decide ((0:Int)<=(i:Int)))&&(decide ((i:Int)<((B l).size:Int))))=(id:Option R->Option R):=by
     funext k;rw [bq,au (by omega),au (by rw [bu];omega)];rfl
    rw [aS (by rw [bu];omega),aS (by omega),ek,AA hcl,Cg c 45 45 rfl,Cg c 13 13 rfl,Cg c 10 10 rfl,hd,hw,List.filter_cons]
    simp only [id]
    unfold Ek at ih0 ih1 ⊢
    have e1:cI acc++[AV.int (c.toNat:Int)]=cI (acc++[c]):=by unfold cI;rw [List.map_append];rfl
    cases (c != 45) with
    | false=>exact ih0
    | true =>
     cases (c != 13) with
     | false=>exact ih0
     | true =>
      cases (c != 10) with
      | false=>exact ih0
      | true =>
       simp only [cond_true,Bool.and_self,if_true]
       rw [au (by rw [hlen];omega),e1,ih1,List.append_assoc];rfl
   ·rw [aS (by rw [bu];omega),aO (by omega),List.drop_of_length_le (by rw [List.length_take];omega)]
    rw [fL];simp
  ·rw [aO (by rw [bu];omega),List.drop_of_length_le (by rw [List.length_take];omega),fL];simp
theorem jV (s:BA) (κ : BA->Option R):aK s κ = κ (B (tZ (bl s))):=by
 have:=qI (bl s) κ aH 0 [] (by simp) (by omega) (by unfold aH;omega)
 exact this
theorem BI (l:List UInt8):wJ (tZ l):=fun c hc=>by
 have:=(List.mem_filter.1 hc).2
 unfold Ek at this
 simp only [Bool.and_eq_true,bne_iff_ne] at this
 exact this
theorem nf (l:List UInt8):(tZ l).length<=300:=by
 have:=List.length_filter_le Ek (l.take 300)
 have h:(l.take 300).length<=300:=by rw [List.length_take];omega
 unfold tZ;omega
def DG (c:UInt8):Bool:=(decide (97<=c.toNat)&&decide (c.toNat<=122))||(decide (48<=c.toNat)&&decide (c.toNat<=57))
theorem wi (l:List UInt8) (hl:l.length<=1000) (κ : Bool->Option R):∀ (f i:Nat),i<=l.length->l.length<i+f->aP.L2 κ f (B l) (i:Int)=κ ((l.drop i).all DG)
 | 0,i,h1,h2=>by omega
 | f+1,i,h1,h2=>by
  rw [aP.L2,aP.t2]
  by_cases g:i<l.length
  ·obtain ⟨c,r,hd⟩:=vy g
   have hc:=(cW hd).1
   have hn:=(cW hd).2.2
   have ih:=wi l hl κ f (i+1) (by omega) (by omega)
   rw [hn] at ih
   have hw:IntKind.wrap .i64 ((i:Int)+1)=((i+1:Nat):Int):=wrap_i64 (by omega) (by omega)
   rw [aS (by rw [bu];omega),bq,au (by omega),au (by rw [bu];omega),AA hc,hd,hw,ih,List.all_cons]
   unfold DG
   by_cases a1:(c.toNat:Int)<97
   ·rw [aS a1,decide_eq_false (by omega:¬ 97<=c.toNat),Bool.false_and,Bool.false_or]
    by_cases a2:(c.toNat:Int)<48
    ·rw [aS a2,decide_eq_false (by omega:¬ 48<=c.toNat)];rfl
    ·rw [aO a2,decide_eq_true (by omega:48<=c.toNat)]
     by_cases a3:(c.toNat:Int)>57
     ·rw [aS a3,decide_eq_false (by omega:¬ c.toNat<=57)];rfl
     ·rw [aO a3,decide_eq_true (by omega:c.toNat<=57)];rfl
   ·rw [aO a1,decide_eq_true (by omega:97<=c.toNat)]
    by_cases a2:(c.toNat:Int)>122
    ·rw [aS a2,decide_eq_false (by omega:¬ c.toNat<=122),aO (by omega),aS (by omega),decide_eq_false (by omega:¬ c.toNat<=57),Bool.and_false,Bool.and_false];rfl
    ·rw [aO a2,decide_eq_true (by omega:c.toNat<=122)];rfl
  ·rw [aO (by rw [bu];omega),List.drop_of_length_le (by omega)];rfl
theorem zH (l:List UInt8) (hl:l.length<=1000) (κ : Bool->Option R):aP (B l) κ = κ (l.all DG):=wi l hl κ aH 0 (by omega) (by unfold aH;omega)
theorem Dd {l:List UInt8} (h:l.all DG=true):wh l:=fun c hc=>by
 have:=List.all_eq_true.1 h c hc
 unfold DG at this
 simpa using this
theorem tE (w:List UInt8) {a b:Nat} (h1:a<=b) (h2:b<=w.length):lQ (B w) (a:Int) (b:Int)=(B (dX w (a,b)),true):=by
 unfold lQ
 rw [bu,if_neg (by omega),Int.toNat_natCast,Int.toNat_natCast,da];rfl
theorem Ej:∀ (i:Nat),i<9->∀ κ : Int->Option R,bX (B [UInt8.ofNat (49+i)]) κ = κ ((i+1:Nat):Int)
 | 0,_=>fun κ => by kernel_rfl
 | 1,_=>fun κ => by kernel_rfl
 | 2,_=>fun κ => by kernel_rfl
 | 3,_=>fun κ => by kernel_rfl
 | 4,_=>fun κ => by kernel_rfl
 | 5,_=>fun κ => by kernel_rfl
 | 6,_=>fun κ => by kernel_rfl
 | 7,_=>fun κ => by kernel_rfl
 | 8,_=>fun κ => by kernel_rfl
 | n+9,h=>by omega
theorem E9 (k:Nat) (h:k<256):(UInt8.ofNat k).toNat=k:=by rw [UInt8.toNat_ofNat'];omega
theorem yP {y:LV} {K:LA} (hty:y.v.ty=rL) {i:Nat} (h9:i<9) (hi:i<K.length) (hK:K.length<=1000):∀ (κ0:BA->BA->BA->Bool->BA->Bool->BA->Bool->BA->Bool->BA->Bool->BA->Int->Int->Int->Int->Int->Bool->Option R) (κ1:BA->BA->BA->LA->Bool->BA->Bool->BA->Bool->BA->Bool->BA->LA->LA->Bool->BA->Int->Int->Int->Int->Int->LA->Bool->Option R),ck ((aM y K).fld 0).s ((aM y K).fld 1).s ((aM y K).fld 2).s ((aM y K).fld 3).l ((aM y K).fld 4).b ((aM y K).fld 5).s ((aM y K).fld 6).b ((aM y K).fld 7).s ((aM y K).fld 8).b ((aM y K).fld 9).s ((aM y K).fld 10).b ((aM y K).fld 11).s ((aM y K).fld 12).l ((aM y K).fld 13).l ((aM y K).fld 14).b ((aM y K).fld 15).s ((aM y K).fld 16).i ((aM y K).fld 17).i ((aM y K).fld 18).i ((aM y K).fld 19).i ((aM y K).fld 20).i ((aM y K).fld 21).l (B [UInt8.ofNat (49+i)]) κ0 κ1=κ1 (B [UInt8.ofNat (49+i)]) ((bZ K (i:Int)).fld 1).s ((bZ K (i:Int)).fld 2).s ((bZ K (i:Int)).fld 3).l ((bZ K (i:Int)).fld 4).b ((bZ K (i:Int)).fld 5).s ((bZ K (i:Int)).fld 6).b ((bZ K (i:Int)).fld 7).s ((bZ K (i:Int)).fld 8).b ((bZ K (i:Int)).fld 9).s ((bZ K (i:Int)).fld 10).b ((bZ K (i:Int)).fld 11).s ((bZ K (i:Int)).fld 12).l ((bZ K (i:Int)).fld 13).l ((bZ K (i:Int)).fld 14).b ((bZ K (i:Int)).fld 15).s ((bZ K (i:Int)).fld 16).i ((bZ K (i:Int)).fld 17).i ((bZ K (i:Int)).fld 18).i ((bZ K (i:Int)).fld 19).i ((bZ K (i:Int)).fld 20).i ((bZ K (i:Int)).fld 21).l true:=fun κ0 κ1=>by
 obtain ⟨f,hf⟩:∃ f,aH=f+1:=⟨aH-1,by unfold aH;omega⟩
 have hc:UInt8.ofNat (49+i)≠46:=fun e=>by have:=congrArg UInt8.toNat e;rw [E9 _ (by omega)] at this;change 49+i=46 at this;omega
 have g3:Bt (aM y K) true ((i+1:Nat):Int)=some (bZ K (i:Int)):=by
  unfold Bt xy zM
  rw [if_neg (by omega),if_neg (fun e=>by cases e.1),if_pos ⟨congrArg B hty,by show (K.length:Int)>0;omega⟩,if_neg (by show ¬ (((i+1:Nat):Int)<1∨((i+1:Nat):Int)>(K.length:Int));omega),show ((i+1:Nat):Int)-1=(i:Int) by omega]
  rfl
 rw [Cw (aM y K) (B [UInt8.ofNat (49+i)]) (fun e=>by have:=congrArg ByteArray.size e;rw [bu] at this;cases this) (by rw [bu];simp only [List.length_cons,List.length_nil];omega),hf,B8,kZ,CD _ hc,aS (by decide),FH (aM y K) true _ (by omega) (by omega) (Ej i h9),g3]
 rfl
theorem C0 (raw:BA) (v u:AV) (q:BA) (hq:q≠⟨#[]⟩) (hf:∀ (κ0:BA->BA->BA->Bool->BA->Bool->BA->Bool->BA->Bool->BA->Bool->BA->Int->Int->Int->Int->Int->Bool->Option R) (κ1:BA->BA->BA->LA->Bool->BA->Bool->BA->Bool->BA->Bool->BA->LA->LA->Bool->BA->Int->Int->Int->Int->Int->LA->Bool->Option R),ck (v.fld 0).s (v.fld 1).s (v.fld 2).s (v.fld 3).l (v.fld 4).b (v.fld 5).s (v.fld 6).b (v.fld 7).s (v.fld 8).b (v.fld 9).s (v.fld 10).b (v.fld 11).s (v.fld 12).l (v.fld 13).l (v.fld 14).b (v.fld 15).s (v.fld 16).i (v.fld 17).i (v.fld 18).i (v.fld 19).i (v.fld 20).i (v.fld 21).l q κ0 κ1=κ1 q (u.fld 1).s (u.fld 2).s (u.fld 3).l (u.fld 4).b (u.fld 5).s (u.fld 6).b (u.fld 7).s (u.fld 8).b (u.fld 9).s (u.fld 10).b (u.fld 11).s (u.fld 12).l (u.fld 13).l (u.fld 14).b (u.fld 15).s (u.fld 16).i (u.fld 17).i (u.fld 18).i (u.fld 19).i (u.fld 20).i (u.fld 21).l true) (κ : BA->Bool->Option R):ao raw (v.fld 0).s (v.fld 1).s (v.fld 2).s (v.fld 3).l (v.fld 4).b (v.fld 5).s (v.fld 6).b (v.fld 7).s (v.fld 8).b (v.fld 9).s (v.fld 10).b (v.fld 11).s (v.fld 12).l (v.fld 13).l (v.fld 14).b (v.fld 15).s (v.fld 16).i (v.fld 17).i (v.fld 18).i (v.fld 19).i (v.fld 20).i (v.fld 21).l q 5 κ = κ (lQ raw (u.fld 16).i (u.fld 17).i).1 (lQ raw (u.fld 16).i (u.fld 17).i).2:=by
 have hL:ao.tM ck bC af cA cF κ aH=ao.t10 cA cF κ := rfl
 unfold ao ao.e
 refine (hf _ _).trans ?_
 rw [Bool.not_true,cond_false,decide_eq_false hq,Bool.not_false,cond_true,DP (by decide),cond_true,yr rfl,cond_false,hL,ao.t10,iE (by decide),cond_false,iE (by decide),cond_false,iE (by decide),cond_false,iE (by decide),cond_false,iE (by decide),cond_false,nK rfl,cond_true,decide_eq_false hq,Bool.not_false,cond_true,zY]
theorem vr (cl:Bool) (p:Pt) (r:List Pt):∀ d:List Pt,(xR cl (d++p::r))[d.length]? = some (p.1,if r.isEmpty && !cl then p.2++[13,10] else p.2)
 | []=>rfl
 | x::d=>by
  rw [List.cons_append,xR]
  exact vr cl p r d
theorem ya {w:List UInt8}:∀ {j:Nat} {K:LA} {P:List Pt},KP w j K P->∀ (i:Nat) (x:Pt),P[i]? = some x->∃ v,K[i]? = some v/\EO w (j+i) v x
 | _,[],[],_,i,x,h=>by cases i <;> cases h
 | _,_::_,_::_,g,0,x,h=>by cases h;exact ⟨_,rfl,g.1⟩
 | j,_::_,_::_,g,i+1,x,h=>by
  obtain ⟨v,e,hv⟩:=ya g.2 i x h
  exact ⟨v,e,by rw [show j+(i+1)=j+1+i by omega];exact hv⟩
 | _,[],_::_,g,_,_,_=>g.elim
 | _,_::_,[],g,_,_,_=>g.elim
theorem vv (k i:Nat) (h:k+i<256):cY [AV.int (IntKind.wrap .u8 (IntKind.wrap .i64 ((k:Int)+(i:Int))))]=B [UInt8.ofNat (k+i)]:=by
 rw [wrap_i64 (by omega) (by omega),wrap_u8 (by omega) (by omega)]
 have:[AV.int ((k:Int)+(i:Int))]=cI [UInt8.ofNat (k+i)]:=by
  unfold cI;rw [List.map_cons,E9 _ h];rfl
 rw [this,fL]
theorem BK (i:Nat) (h:48+i<256):cY [AV.int (IntKind.wrap .u8 (IntKind.wrap .i64 (48+(i:Int))))]=B [UInt8.ofNat (48+i)]:=vv 48 i h
theorem DS (i:Nat) (h:49+i<256):cY [AV.int (IntKind.wrap .u8 (IntKind.wrap .i64 (49+(i:Int))))]=B [UInt8.ofNat (49+i)]:=vv 49 i h
theorem EX:∀ (i:Nat),i<9->mA (i+1)=[UInt8.ofNat (49+i)]:=fun i h=>by unfold mA;rw [if_pos (by omega)];congr 2;omega
theorem wa {w:List UInt8} {y:LV} {K:LA} {P:List Pt} {cl:Bool} (hty:y.v.ty=rL) (hK:KP w 0 K (xR cl P)) (h9:P.length<=9) (hP:∀ (i:Nat) (p:Pt),P[i]? = some p->p.1=UInt8.ofNat (48+i)) (hlen:∀ p∈P,p.2.length<=1000) (κ : Bool->Option R) :
  ∀ (r d:List Pt) (f:Nat),d++r=P->3*r.length<f->ab.Ar aV aK aP aG ao κ f cl (B w) (d.length:Int) (P.map fun p=>AV.str (B p.2)) ((aM y K).fld 0).s ((aM y K).fld 1).s ((aM y K).fld 2).s ((aM y K).fld 3).l ((aM y K).fld 4).b ((aM y K).fld 5).s ((aM y K).fld 6).b ((aM y K).fld 7).s ((aM y K).fld 8).b ((aM y K).fld 9).s ((aM y K).fld 10).b ((aM y K).fld 11).s ((aM y K).fld 12).l ((aM y K).fld 13).l ((aM y K).fld 14).b ((aM y K).fld 15).s ((aM y K).fld 16).i ((aM y K).fld 17).i ((aM y K).fld 18).i ((aM y K).fld 19).i ((aM y K).fld 20).i ((aM y K).fld 21).l=κ true
 | [],d,0,_,h=>by omega
 | [],d,f+1,hd,_=>by
  rw [List.append_nil] at hd
  have e:ab.Ar (R:=R) aV aK aP aG ao κ (f+1)=ab.t23 ao (ab.B7 aV aK aP aG ao κ f) κ := rfl
  rw [e,ab.t23,List.length_map,<- hd,aO (by omega)]
 | p::r,d,f0,hd,hf=>by
  obtain ⟨f,rfl⟩:∃ g,f0=g+3:=⟨f0-3,by simp only [List.length_cons] at hf;omega⟩
  have hl:d.length+r.length+1=P.length:=by rw [<- hd];simp;omega
  have hKl:K.length=P.length:=by rw [tL hK,mH]
  have hp1:p.1=UInt8.ofNat (48+d.length):=hP d.length p (by rw [<- hd];simp)
  have hpl:=hlen p (by rw [<- hd];simp)
  obtain ⟨v,ev,hv⟩:=ya hK d.length (p.1,if r.isEmpty && !cl then p.2++[13,10] else p.2) (by rw [<- hd];exact vr cl p r d)
  rw [Nat.zero_add] at hv
  obtain ⟨z,rfl,z1,z2,z3,z4,z5,z6,z7,z8,z9,z10⟩:=hv
  have hrd:bZ K (d.length:Int)=aM z []:=eh ev
  have hrx:bZ (P.map fun p=>AV.str (B p.2)) (d.length:Int)=AV.str (B p.2):=eh (by rw [List.getElem?_map,<- hd];simp)
  have hfk:=yP (R:=R) (y:=y) (K:=K) hty (i:=d.length) (by omega) (by omega) (by omega)
  rw [hrd] at hfk
  have hq:B [UInt8.ofNat (49+d.length)]≠⟨#[]⟩:=fun e=>by have:=congrArg ByteArray.size e;rw [bu] at this;cases this
  have s0:=fun κ => BC (R:=R) (B w) (aM y K) (aM z []) _ hq hfk κ
  have s5:=fun κ => C0 (R:=R) (B w) (aM y K) (aM z []) _ hq hfk κ
  have hz10:dX w (z.c,z.d)=if r.isEmpty && !cl then p.2++[13,10] else p.2:=z10
  obtain ⟨u,hu⟩:∃ u,u=if r.isEmpty && !cl then p.2++[13,10] else p.2:=⟨_,rfl⟩
  have t0:lQ (B w) ((aM z []).fld 18).i ((aM z []).fld 19).i=(B u,true):=by
   show lQ (B w) (z.c:Int) (z.d:Int)=_
   rw [tE w z7 z8,hz10,hu]
  have t5:lQ (B w) ((aM z []).fld 16).i ((aM z []).fld 17).i=(B (js p.1),true):=by
   show lQ (B w) (z.a:Int) (z.b:Int)=_
   rw [tE w z5 (by omega),z9]
  have hz1:((aM z []).fld 0).s=B [UInt8.ofNat (49+d.length)]:=by show B z.p=_;rw [z1,EX _ (by omega)]
  have hz2:((aM z []).fld 1).s=(⟨#[116,101,120,116]⟩:BA):=by show B z.v.ty=_;rw [z2];rfl
  have hz3:((aM z []).fld 4).b=true:=z3
  have hz4:((aM z []).fld 5).s=B [UInt8.ofNat (48+d.length)]:=by
   show B z.v.i1=_
   rw [z4];exact congrArg (fun c=>B [c]) hp1
  have ih:=wa hty hK h9 hP hlen κ r (d++[p]) f (by rw [List.append_assoc];exact hd) (by simp only [List.length_cons] at hf;omega)
  rw [show (d++[p]).length=d.length+1 by simp] at ih
  have hw1:IntKind.wrap .i64 ((d.length:Int)+1)=((d.length+1:Nat):Int):=wrap_i64 (by omega) (by omega)
  have fin:ab.Dx aV aK aP aG ao κ (f+1) cl (B w) (d.length:Int) (B [UInt8.ofNat (49+d.length)]) (B u) true (B (js p.1)) true (B u) (P.map fun p=>AV.str (B p.2)) ((aM y K).fld 0).s ((aM y K).fld 1).s ((aM y K).fld 2).s ((aM y K).fld 3).l ((aM y K).fld 4).b ((aM y K).fld 5).s ((aM y K).fld 6).b ((aM y K).fld 7).s ((aM y K).fld 8).b ((aM y K).fld 9).s ((aM y K).fld 10).b ((aM y K).fld 11).s ((aM y K).fld 12).l ((aM y K).fld 13).l ((aM y K).fld 14).b ((aM y K).fld 15).s ((aM y K).fld 16).i ((aM y K).fld 17).i ((aM y K).fld 18).i ((aM y K).fld 19).i ((aM y K).fld 20).i ((aM y K).fld 21).l=κ true:=by
   have e:ab.Dx (R:=R) aV aK aP aG ao κ (f+1)=ab.t32 (ab.Ar aV aK aP aG ao κ f) κ := rfl
   have e1:(⟨#[67,111,110,116,101,110,116,45,73,100,58,32]⟩:BA)++B [UInt8.ofNat (48+d.length)]=B (sU++58::[32,UInt8.ofNat (48+d.length)]):=by
    show B (sU++[58,32])++B [UInt8.ofNat (48+d.length)]=_
    rw [ct,List.append_assoc];rfl
   have e2:B (sU++58::[32,UInt8.ofNat (48+d.length)])++(⟨#[13,10,13,10]⟩:BA)=B (js p.1):=by rw [hp1];exact ct _ dK
   rw [e,ab.t32,Bool.not_true,cond_false,cond_false,decide_eq_true (rfl:B u=B u),Bool.not_true,cond_false,BK d.length (by omega),au (by rw [bu];show 12+1<=_;omega),e1,au (by rw [bu];show 13+4<=_;omega),e2,decide_eq_true rfl,Bool.not_true,cond_false]
   rw [show ((aM y K).fld 21).l=K from rfl,bq,au (by omega),au (by omega),hrd,hz1,decide_eq_true rfl,Bool.not_true,cond_false,bq,au (by omega),au (by omega),hz2,decide_eq_true rfl,Bool.not_true,cond_false,bq,au (by omega),au (by omega),hz3,hz4,decide_eq_true rfl,show (!((true == true)&&(true&&true)))=false from rfl,cond_false,hw1]
   exact ih
  have mid:∀ x8:Bool,x8=(r.isEmpty && !cl)->ab.B7 aV aK aP aG ao κ (f+2) cl (B w) (d.length:Int) (B [UInt8.ofNat (49+d.length)]) (B u) true (B (js p.1)) true x8 (P.map fun p=>AV.str (B p.2)) ((aM y K).fld 0).s ((aM y K).fld 1).s ((aM y K).fld 2).s ((aM y K).fld 3).l ((aM y K).fld 4).b ((aM y K).fld 5).s ((aM y K).fld 6).b ((aM y K).fld 7).s ((aM y K).fld 8).b ((aM y K).fld 9).s ((aM y K).fld 10).b ((aM y K).fld 11).s ((aM y K).fld 12).l ((aM y K).fld 13).l ((aM y K).fld 14).b ((aM y K).fld 15).s ((aM y K).fld 16).i ((aM y K).fld 17).i ((aM y K).fld 18).i ((aM y K).fld 19).i ((aM y K).fld 20).i ((aM y K).fld 21).l=κ true:=fun x8 hx=>by
   have e:ab.B7 (R:=R) aV aK aP aG ao κ (f+2)=ab.t29 (ab.Dx aV aK aP aG ao κ (f+1)):=rfl
   rw [e,ab.t29,List.length_map,bq,au (by omega),au (by omega),hrx,show (AV.str (B p.2)).s=B p.2 from rfl]
   cases x8 with
   | true =>
    rw [<- hx,if_pos rfl] at hu
    have e2:B p.2++(⟨#[13,10]⟩:BA)=B u:=by rw [hu];exact ct p.2 [13,10]
    rw [cond_true,au (by rw [bu];show p.2.length+2<=_;omega),e2]
    exact fin
   | false =>
    rw [<- hx,if_neg (by decide)] at hu
    rw [cond_false,<- hu]
    exact fin
  have e:ab.Ar (R:=R) aV aK aP aG ao κ (f+3)=ab.t23 ao (ab.B7 aV aK aP aG ao κ (f+2)) κ := rfl
  rw [e,ab.t23,List.length_map,aS (by omega),DS d.length (by omega)]
  refine (s0 _).trans ?_
  rw [t0]
  refine (s5 _).trans ?_
  rw [t5,wrap_i64 (x:=(P.length:Int)-1) (by omega) (by omega)]
  cases r with
  | nil =>
   rw [nK (by simp only [List.length_nil] at hl;omega),cond_true]
   exact mid _ (by cases cl <;> rfl)
  | cons p2 r =>
   rw [iE (by simp only [List.length_cons] at hl;omega),cond_false]
   exact mid _ rfl
def jO:Nat->LA->List Pt
 | _,[]=>[]
 | i,a::r=>(UInt8.ofNat (48+i),tZ (bl a.s))::jO (i+1) r
theorem sX (a:AV):∀ (d:LA) (i:Nat),jO i (d++[a])=jO i d++[(UInt8.ofNat (48+(i+d.length)),tZ (bl a.s))]
 | [],_=>rfl
 | x::d,i=>by rw [List.cons_append,jO,sX a d (i+1),jO,List.cons_append,List.length_cons,show i+1+d.length=i+(d.length+1) by omega]
theorem iZ:∀ (d:LA) (i:Nat),(jO i d).length=d.length
 | [],_=>rfl
 | x::d,i=>by rw [jO,List.length_cons,List.length_cons,iZ d]
theorem mP:∀ (d:LA) (i k:Nat) (p:Pt),(jO i d)[k]? = some p->p.1=UInt8.ofNat (48+(i+k))/\wJ p.2/\p.2.length<=300
 | [],_,k,p,h=>by cases k <;> cases h
 | x::d,i,0,p,h=>by cases h;exact ⟨rfl,BI _,nf _⟩
 | x::d,i,k+1,p,h=>by
  have:=mP d (i+1) k p h
  rw [show i+(k+1)=i+1+k by omega];exact this
theorem gp (b:List UInt8) (d:UInt8) (t rest:List UInt8):chunk b d t rest=chunk b d t []++rest:=by unfold chunk;simp
theorem rf (b Z:List UInt8):∀ P:List Pt,gN b Z P=gN b [] P++Z
 | []=>rfl
 | p::r=>by rw [gN,gN,rf b Z r,gp,gp b p.1 p.2 (gN b [] r),List.append_assoc]
theorem sZ (b:List UInt8) (p:Pt):∀ P:List Pt,gN b [] (P++[p])=gN b [] P++chunk b p.1 p.2 []
 | []=>rfl
 | q::r=>by rw [List.cons_append,gN,gN,sZ b p r,gp,gp b q.1 q.2 (gN b [] r),List.append_assoc]
theorem mQ {b:List UInt8} (hb:b.length<=100):∀ {P:List Pt},(∀ p∈P,p.2.length<=300)->(gN b [] P).length<=500*P.length
 | [],_=>by simp [gN]
 | p::r,h=>by
  have h1:=mQ hb (P:=r) fun q hq=>h q (by simp [hq])
  have h2:=h p (by simp)
  rw [gN,gp,List.length_append,List.length_cons]
  have:(chunk b p.1 p.2 []).length=b.length+p.2.length+25:=by unfold chunk sU;simp;omega
  omega
theorem yi (all:LA) (bh:BA) (cl:Bool) (b pre:List UInt8) (hb:b.length<=100) (hpre:pre.length<=1000) (κ : Bool->Option R)
  (hJ:∀ f,1000<=f->ab.je aV aK aP aG ao κ f bh cl (B b) (B (pre++gN b [] (jO 0 (all.take 9)))) ((jO 0 (all.take 9)).map fun p=>AV.str (B p.2))=κ true) :
  ∀ (r d:LA) (f:Nat),d++r=all->d.length<=9->1010<=f+d.length->ab.tM aV aK aP aG ao κ f all bh cl (B b) (B (pre++gN b [] (jO 0 d))) (d.length:Int) ((jO 0 d).map fun p=>AV.str (B p.2))=κ true
 | r,d,0,_,_,h=>by omega
 | [],d,f+1,hd,h9,hf=>by
  rw [List.append_nil] at hd
  have e:ab.tM (R:=R) aV aK aP aG ao κ (f+1)=ab.t10 aK (ab.tM aV aK aP aG ao κ f) (ab.je aV aK aP aG ao κ f):=rfl
  rw [e,ab.t10,<- hd,aO (by omega)]
  have:=hJ f (by omega)
  rw [<- hd,List.take_of_length_le h9] at this
  exact this
 | a::r,d,f+1,hd,h9,hf=>by
  have hl:d.length+r.length+1=all.length:=by rw [<- hd];simp;omega
  have e:ab.tM (R:=R) aV aK aP aG ao κ (f+1)=ab.t10 aK (ab.tM aV aK aP aG ao κ f) (ab.je aV aK aP aG ao κ f):=rfl
  rw [e,ab.t10,aS (by omega)]
  by_cases c:d.length=9
  ·rw [aO (by omega)]
   have:=hJ f (by omega)
   rw [show all.take 9=d by rw [<- hd,<- c,List.take_left]] at this
   exact this
  ·have hg:bZ all (d.length:Int)=a:=eh (by rw [<- hd];simp)
   have hm:((jO 0 d).map fun p=>AV.str (B p.2)).length=d.length:=by rw [List.length_map,iZ]
   obtain ⟨W,hW⟩:∃ W,W=pre++gN b [] (jO 0 d):=⟨_,rfl⟩
   obtain ⟨t,ht⟩:∃ t,t=tZ (bl a.s):=⟨_,rfl⟩
   obtain ⟨dg,hdg⟩:∃ dg,dg=[UInt8.ofNat (48+d.length)]:=⟨_,rfl⟩
   have lt:=nf (bl a.s)
   rw [<- ht] at lt
   have ldg:dg.length=1:=by rw [hdg];rfl
   have lW:W.length<=6000:=by
    have:=mQ hb (P:=jO 0 d) fun p hp=>by
     obtain ⟨k,hk⟩:=List.getElem?_of_mem hp
     exact (mP d 0 k p hk).2.2
    rw [iZ] at this
    rw [hW,List.length_append];omega
   obtain ⟨W1,hW1⟩:∃ W1,W1=W++[45,45]:=⟨_,rfl⟩
   have lW1:W1.length=W.length+2:=by rw [hW1,List.length_append];rfl
   have eW1:B W++(⟨#[45,45]⟩:BA)=B W1:=by rw [hW1];exact ct W [45,45]
   have zW1:(B W).size+((⟨#[45,45]⟩:BA)).size<=9223372036854775807:=by rw [bu];show W.length+2<=_;omega
   obtain ⟨W2,hW2⟩:∃ W2,W2=W1++b:=⟨_,rfl⟩
   have lW2:W2.length=W1.length+b.length:=by rw [hW2,List.length_append]
   have eW2:B W1++B b=B W2:=by rw [hW2];exact ct W1 b
   have zW2:(B W1).size+(B b).size<=9223372036854775807:=by rw [bu];rw [bu];omega
   obtain ⟨W3,hW3⟩:∃ W3,W3=W2++[32,9,13,10,67,111,110,116,101,110,116,45,73,100,58,32]:=⟨_,rfl⟩
   have lW3:W3.length=W2.length+16:=by rw [hW3,List.length_append];rfl
   have eW3:B W2++(⟨#[32,9,13,10,67,111,110,116,101,110,116,45,73,100,58,32]⟩:BA)=B W3:=by rw [hW3];exact ct W2 [32,9,13,10,67,111,110,116,101,110,116,45,73,100,58,32]
   have zW3:(B W2).size+((⟨#[32,9,13,10,67,111,110,116,101,110,116,45,73,100,58,32]⟩:BA)).size<=9223372036854775807:=by rw [bu];show W2.length+16<=_;omega
   obtain ⟨W4,hW4⟩:∃ W4,W4=W3++dg:=⟨_,rfl⟩
   have lW4:W4.length=W3.length+dg.length:=by rw [hW4,List.length_append]
   have eW4:B W3++B dg=B W4:=by rw [hW4];exact ct W3 dg
   have zW4:(B W3).size+(B dg).size<=9223372036854775807:=by rw [bu];rw [bu];omega
   obtain ⟨W5,hW5⟩:∃ W5,W5=W4++[13,10,13,10]:=⟨_,rfl⟩
   have lW5:W5.length=W4.length+4:=by rw [hW5,List.length_append];rfl
   have eW5:B W4++(⟨#[13,10,13,10]⟩:BA)=B W5:=by rw [hW5];exact ct W4 [13,10,13,10]
   have zW5:(B W4).size+((⟨#[13,10,13,10]⟩:BA)).size<=9223372036854775807:=by rw [bu];show W4.length+4<=_;omega
   obtain ⟨W6,hW6⟩:∃ W6,W6=W5++t:=⟨_,rfl⟩
   have lW6:W6.length=W5.length+t.length:=by rw [hW6,List.length_append]
   have eW6:B W5++B t=B W6:=by rw [hW6];exact ct W5 t
   have zW6:(B W5).size+(B t).size<=9223372036854775807:=by rw [bu];rw [bu];omega
   obtain ⟨W7,hW7⟩:∃ W7,W7=W6++[13,10]:=⟨_,rfl⟩
   have lW7:W7.length=W6.length+2:=by rw [hW7,List.length_append];rfl
   have eW7:B W6++(⟨#[13,10]⟩:BA)=B W7:=by rw [hW7];exact ct W6 [13,10]
   have zW7:(B W6).size+((⟨#[13,10]⟩:BA)).size<=9223372036854775807:=by rw [bu];show W6.length+2<=_;omega
   rw [aS (by omega),bq,au (by omega),au (by omega),hg,jV,<- ht,hm,au (by omega),<- hW,BK d.length (by omega),<- hdg,au zW1,eW1,au zW2,eW2,au zW3,eW3,au zW4,eW4,au zW5,eW5,au zW6,eW6,au zW7,eW7,wrap_i64 (x:=(d.length:Int)+1) (by omega) (by omega)]
   have ih:=yi all bh cl b pre hb hpre κ hJ r (d++[a]) f (by rw [List.append_assoc];exact hd) (by simp;omega) (by simp;omega)
   rw [sX,sZ,List.map_append,show (d++[a]).length=d.length+1 by simp,Nat.zero_add] at ih
   rw [show pre++(gN b [] (jO 0 d)++chunk b (UInt8.ofNat (48+d.length)) (tZ (bl a.s)) [])=W7 by
    rw [hW7,hW6,hW5,hW4,hW3,hW2,hW1,hW,hdg,ht]
    unfold chunk sU;simp] at ih
   rw [ht]
   exact ih
def C5:List UInt8:=[13,10,13,10,110,111,32,112,97,114,116]
theorem zh {b ah Z:List UInt8} {cl:Bool} (hb:wh b) (b1:1<=b.length) (b2:b.length<=60) (hZ:EE b Z cl) (hZl:Z.length<=1000) (ha:wJ ah) (hal:ah.length<=300) (l:LA) (h9:l.length<=9) (h0:l≠[]) (κ : Bool->Option R) (f:Nat) (hf:100<=f) :
  ab.Dw aV aK aP aG ao κ f cl (B (kC b++(ah++13::10::gN b Z (jO 0 l)))) ((jO 0 l).map fun p=>AV.str (B p.2))=κ true:=by
 obtain ⟨f,rfl⟩:∃ g,f=g+1:=⟨f-1,by omega⟩
 have e:ab.Dw (R:=R) aV aK aP aG ao κ (f+1)=ab.t19 aG (ab.Ar aV aK aP aG ao κ f) κ := rfl
 obtain ⟨a,l2,rfl⟩:∃ a l2,l=a::l2:=by
  cases l with
  | nil=>exact absurd rfl h0
  | cons a l2=>exact ⟨a,l2,rfl⟩
 have hget:∀ (k:Nat) (p:Pt),(jO 0 (a::l2))[k]? = some p->p.1=UInt8.ofNat (48+k)/\wJ p.2/\p.2.length<=300:=fun k p h=>by
  have:=mP _ 0 k p h
  rw [Nat.zero_add] at this;exact this
 have hPl:=iZ (a::l2) 0
 have hm:∀ p∈jO 0 (a::l2),gS p.1/\wJ p.2:=fun p hp=>by
  obtain ⟨k,hk⟩:=List.getElem?_of_mem hp
  have hkl:k<(jO 0 (a::l2)).length:=(List.getElem?_eq_some_iff.1 hk).1
  have:=hget k p hk
  refine ⟨?_,this.2.1⟩
  unfold gS
  rw [this.1,E9 _ (by omega)];omega
 have hm3:∀ p∈jO 0 (a::l2),p.2.length<=300:=fun p hp=>by
  obtain ⟨k,hk⟩:=List.getElem?_of_mem hp
  exact (hget k p hk).2.2
 obtain ⟨w,hw⟩:∃ w,w=kC b++(ah++13::10::gN b Z (jO 0 (a::l2))):=⟨_,rfl⟩
 have hlw:w.length<=200000:=by
  have h1:=mQ (b:=b) (by omega) hm3
  have h2:(kC b).length<=b.length+100:=by unfold kC fS uS Am DE dK;simp only [List.length_append,List.length_cons,List.length_nil];omega
  rw [hw,rf]
  simp only [List.length_append,List.length_cons]
  omega
 rw [jO] at hm hm3 hw hPl hget ⊢
 obtain ⟨y,K,n,ht,hty,hsub,hK⟩:=Bw hb b1 (by omega) hZ ha hm (by omega) hw
 rw [<- hw,e,ab.t19]
 refine (CW w hlw _).trans ?_
 rw [ht]
 dsimp only
 rw [hty,hsub,decide_eq_true (show B rL=(⟨#[109,117,108,116,105,112,97,114,116]⟩:BA) from rfl),Bool.not_true,cond_false,decide_eq_true (show B xp=(⟨#[109,105,120,101,100]⟩:BA) from rfl),Bool.not_true,cond_false]
 have hKl:=tL hK
 rw [mH] at hKl
 rw [List.length_map,yr (by omega),cond_false]
 have:=wa (R:=R) hty hK (by omega) (fun i p h=>(hget i p h).1) (fun p hp=>by have:=hm3 p hp;omega) κ _ [] f rfl (by omega)
 rw [<- hty,<- hsub]
 exact this
theorem BO (all:LA) (a1 a2:BA) (cl:Bool) {b:List UInt8} (hb:wh b) (b1:1<=b.length) (b2:b.length<=60) (κ : Bool->Option R) :
  ab.L7 aV aK aP aG ao κ aH all a1 a2 cl (B b)=κ true:=by
 obtain ⟨f,hf⟩:∃ g,aH=g+1:=⟨aH-1,by unfold aH;omega⟩
 have hfl:2000<=f:=by unfold aH at hf;omega
 rw [hf]
 have e:ab.L7 (R:=R) aV aK aP aG ao κ (f+1)=ab.t7 aK (ab.tM aV aK aP aG ao κ f):=rfl
 obtain ⟨W,hW⟩:∃ W:List UInt8,W=[83,117,98,106,101,99,116,58,32,120,13,10,67,111,110,116,101,110,116,45,84,121,112,101,58,32,77,117,108,116,105,112,97,114,116,47,77,105,120,101,100,32,59,32,66,111,117,110,100,97,114,121,61,34]:=⟨_,rfl⟩
 have hW0:(⟨#[83,117,98,106,101,99,116,58,32,120,13,10,67,111,110,116,101,110,116,45,84,121,112,101,58,32,77,117,108,116,105,112,97,114,116,47,77,105,120,101,100,32,59,32,66,111,117,110,100,97,114,121,61,34]⟩:BA)=B W:=by rw [hW];rfl
 have lW:W.length=54:=by rw [hW];rfl
 obtain ⟨ah,hah⟩:∃ ah,ah=tZ (bl a1):=⟨_,rfl⟩
 have lah:=nf (bl a1)
 have cah:=BI (bl a1)
 rw [<- hah] at lah cah
 obtain ⟨V1,hV1⟩:∃ V1,V1=W++b:=⟨_,rfl⟩
 have lV1:V1.length=W.length+b.length:=by rw [hV1,List.length_append]
 have eV1:B W++B b=B V1:=by rw [hV1];exact ct W b
 have zV1:(B W).size+(B b).size<=9223372036854775807:=by rw [bu];rw [bu];omega
 obtain ⟨V2,hV2⟩:∃ V2,V2=V1++[34,13,10,13,10]:=⟨_,rfl⟩
 have lV2:V2.length=V1.length+5:=by rw [hV2,List.length_append];rfl
 have eV2:B V1++(⟨#[34,13,10,13,10]⟩:BA)=B V2:=by rw [hV2];exact ct V1 [34,13,10,13,10]
 have zV2:(B V1).size+((⟨#[34,13,10,13,10]⟩:BA)).size<=9223372036854775807:=by rw [bu];show V1.length+5<=_;omega
 obtain ⟨V3,hV3⟩:∃ V3,V3=V2++ah:=⟨_,rfl⟩
 have lV3:V3.length=V2.length+ah.length:=by rw [hV3,List.length_append]
 have eV3:B V2++B ah=B V3:=by rw [hV3];exact ct V2 ah
 have zV3:(B V2).size+(B ah).size<=9223372036854775807:=by rw [bu];rw [bu];omega
 obtain ⟨V4,hV4⟩:∃ V4,V4=V3++[13,10]:=⟨_,rfl⟩
 have lV4:V4.length=V3.length+2:=by rw [hV4,List.length_append];rfl
 have eV4:B V3++(⟨#[13,10]⟩:BA)=B V4:=by rw [hV4];exact ct V3 [13,10]
 have zV4:(B V3).size+((⟨#[13,10]⟩:BA)).size<=9223372036854775807:=by rw [bu];show V3.length+2<=_;omega
 rw [e,ab.t7,hW0,au zV1,eV1,au zV2,eV2,jV,<- hah,au zV3,eV3,au zV4,eV4]
 have hV:V4=(kC b++(ah++[13,10])):=by
  rw [hV4,hV3,hV2,hV1,hW]
  unfold kC fS uS Am DE dK;simp
 have key:=fun hJ=>yi (R:=R) all a2 cl b V4 (by omega) (by omega) κ hJ all [] f rfl (by simp) (by simp;omega)
 rw [jO,gN,List.append_nil] at key
 refine key (fun g hg => ?_)
 obtain ⟨g,rfl⟩:∃ h,g=h+1:=⟨g-1,by omega⟩
 have e:ab.je (R:=R) aV aK aP aG ao κ (g+1)=ab.t15 aK (ab.Dw aV aK aP aG ao κ g) κ := rfl
 have hl9:(all.take 9).length<=9:=by rw [List.length_take];omega
 generalize all.take 9=l at *
 rw [e,ab.t15,List.length_map,iZ]
 by_cases h0:l=[]
 ·have hz:((l.length:Nat):Int)=0:=by rw [h0];rfl
  rw [nK hz,cond_true]
 ·have hpos:l.length≠0:=fun e=>h0 (List.length_eq_zero_iff.1 e)
  rw [iE (by omega),cond_false]
  cases cl with
  | false =>
   rw [cond_false]
   have:=zh (R:=R) (Z:=[]) (cl:=false) hb b1 b2 rfl (by simp) cah lah l hl9 h0 κ g (by omega)
   rw [hV,show (kC b++(ah++[13,10]))++gN b [] (jO 0 l)=kC b++(ah++13::10::gN b [] (jO 0 l)) by simp]
   exact this
  | true =>
   rw [cond_true]
   obtain ⟨bh,hbh⟩:∃ bh,bh=tZ (bl a2):=⟨_,rfl⟩
   have lbh:=nf (bl a2)
   rw [<- hbh] at lbh
   obtain ⟨U,hU⟩:∃ U,U=V4++gN b [] (jO 0 l):=⟨_,rfl⟩
   have lU:U.length<=10000:=by
    have:=mQ (b:=b) (by omega) (P:=jO 0 l) fun p hp=>by
     obtain ⟨k,hk⟩:=List.getElem?_of_mem hp
     exact (mP l 0 k p hk).2.2
    rw [iZ] at this
    rw [hU,List.length_append];omega
   obtain ⟨U1,hU1⟩:∃ U1,U1=U++[45,45]:=⟨_,rfl⟩
   have lU1:U1.length=U.length+2:=by rw [hU1,List.length_append];rfl
   have eU1:B U++(⟨#[45,45]⟩:BA)=B U1:=by rw [hU1];exact ct U [45,45]
   have zU1:(B U).size+((⟨#[45,45]⟩:BA)).size<=9223372036854775807:=by rw [bu];show U.length+2<=_;omega
   obtain ⟨U2,hU2⟩:∃ U2,U2=U1++b:=⟨_,rfl⟩
   have lU2:U2.length=U1.length+b.length:=by rw [hU2,List.length_append]
   have eU2:B U1++B b=B U2:=by rw [hU2];exact ct U1 b
   have zU2:(B U1).size+(B b).size<=9223372036854775807:=by rw [bu];rw [bu];omega
   obtain ⟨U3,hU3⟩:∃ U3,U3=U2++[45,45,13,10]:=⟨_,rfl⟩
   have lU3:U3.length=U2.length+4:=by rw [hU3,List.length_append];rfl
   have eU3:B U2++(⟨#[45,45,13,10]⟩:BA)=B U3:=by rw [hU3];exact ct U2 [45,45,13,10]
   have zU3:(B U2).size+((⟨#[45,45,13,10]⟩:BA)).size<=9223372036854775807:=by rw [bu];show U2.length+4<=_;omega
   obtain ⟨U4,hU4⟩:∃ U4,U4=U3++bh:=⟨_,rfl⟩
   have lU4:U4.length=U3.length+bh.length:=by rw [hU4,List.length_append]
   have eU4:B U3++B bh=B U4:=by rw [hU4];exact ct U3 bh
   have zU4:(B U3).size+(B bh).size<=9223372036854775807:=by rw [bu];rw [bu];omega
   obtain ⟨U5,hU5⟩:∃ U5,U5=U4++[13,10,45,45]:=⟨_,rfl⟩
   have lU5:U5.length=U4.length+4:=by rw [hU5,List.length_append];rfl
   have eU5:B U4++(⟨#[13,10,45,45]⟩:BA)=B U5:=by rw [hU5];exact ct U4 [13,10,45,45]
   have zU5:(B U4).size+((⟨#[13,10,45,45]⟩:BA)).size<=9223372036854775807:=by rw [bu];show U4.length+4<=_;omega
   obtain ⟨U6,hU6⟩:∃ U6,U6=U5++b:=⟨_,rfl⟩
   have lU6:U6.length=U5.length+b.length:=by rw [hU6,List.length_append]
   have eU6:B U5++B b=B U6:=by rw [hU6];exact ct U5 b
   have zU6:(B U5).size+(B b).size<=9223372036854775807:=by rw [bu];rw [bu];omega
   obtain ⟨U7,hU7⟩:∃ U7,U7=U6++[13,10,13,10,110,111,32,112,97,114,116]:=⟨_,rfl⟩
   have lU7:U7.length=U6.length+11:=by rw [hU7,List.length_append];rfl
   have eU7:B U6++(⟨#[13,10,13,10,110,111,32,112,97,114,116]⟩:BA)=B U7:=by rw [hU7];exact ct U6 [13,10,13,10,110,111,32,112,97,114,116]
   have zU7:(B U6).size+((⟨#[13,10,13,10,110,111,32,112,97,114,116]⟩:BA)).size<=9223372036854775807:=by rw [bu];show U6.length+11<=_;omega
   rw [<- hU,au zU1,eU1,au zU2,eU2,au zU3,eU3,jV,<- hbh,au zU4,eU4,au zU5,eU5,au zU6,eU6,au zU7,eU7]
   obtain ⟨Z,hZ⟩:∃ Z,Z=(45::45::(b++[45,45]))++13::10::(bh++([13,10,45,45]++(b++C5))):=⟨_,rfl⟩
   have lZ:Z.length<=1000:=by rw [hZ];unfold C5;simp;omega
   have:=zh (R:=R) (Z:=Z) (cl:=true) hb b1 b2 (show ∃ u,Z=(45::45::(b++[45,45]))++13::10::u from ⟨_,hZ⟩) lZ cah lah l hl9 h0 κ g (by omega)
   rw [show U7=kC b++(ah++13::10::gN b Z (jO 0 l)) by
    rw [hU7,hU6,hU5,hU4,hU3,hU2,hU1,hU,hV,rf b Z,hZ]
    unfold C5;simp]
   exact this
theorem jg (a0:LA) (a1 a2 a3:BA) (a4:Bool) (κ : Bool->Option R):ab a0 a1 a2 a3 a4 κ = κ true:=by
 unfold ab ab.e
 rw [known6_holds,Bool.not_true,cond_false,jV]
 have lc:=nf (bl a3)
 have e1:(⟨#[98]⟩:BA)++B (tZ (bl a3))=B (98::tZ (bl a3)):=ct [98] _
 have q1:wh [98]:=fun c hc=>by rw [List.mem_singleton] at hc;subst hc;left;decide
 have one:=BO (R:=R) a0 a1 a2 a4 q1 (by decide) (by decide) κ
 rw [au (by rw [bu];show 1+(tZ (bl a3)).length<=_;omega),e1,bu]
 by_cases c:(((98::tZ (bl a3)).length:Nat):Int)>60
 ·rw [aS c];exact one
 ·rw [aO c,zH _ (by simp only [List.length_cons];omega)]
  cases hq:(98::tZ (bl a3)).all DG with
  | false=>rw [Bool.not_false,cond_true];exact one
  | true=>rw [Bool.not_true,cond_false];exact BO a0 a1 a2 a4 (Dd hq) (by simp) (by omega) κ
end Go.Proofs.Ab
