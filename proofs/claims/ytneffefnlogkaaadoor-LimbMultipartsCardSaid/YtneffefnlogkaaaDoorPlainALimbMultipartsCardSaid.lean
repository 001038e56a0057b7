/- The plain functions of program and document say the same (conditions: those of each lemma). -/
import Derived.Test.YtneffefnlogkaaaDoorAbC
import Derived.IntWalk
import Derived.Test.YtneffefnlogkaaaDoorText
import Derived.Lib.IndexLaws
import Derived.KernelRfl
set_option linter.unusedVariables false
set_option linter.unusedSimpArgs false
set_option maxRecDepth 4000
namespace Go.Proofs.Ab
open Go
variable {R:Type}
theorem au {p:Prop} [Decidable p] {k:Option R} (h:p):bW (decide p) k=k:=by rw [decide_eq_true h];rfl
theorem bq {a b:Bool} {k:Option R}:bW (a&&b) k=bW a (bW b k):=by cases a <;> rfl
theorem Ci {k:Option R}:bW true k=k:=rfl
theorem aS {α : Type} {p:Prop} [Decidable p] {x y : α} (h:p):(bif decide p then x else y)=x:=by rw [decide_eq_true h];rfl
theorem aO {α : Type} {p:Prop} [Decidable p] {x y : α} (h:¬ p):(bif decide p then x else y)=y:=by rw [decide_eq_false h];rfl
theorem mJ {x y:Int} (h:x=y):(x == y)=true:=by simp [h]
theorem mI {x y:Int} (h:x≠y):(x == y)=false:=by simp [h]
theorem wrap_i64 {x:Int} (h1 : -9223372036854775808<=x) (h2:x<9223372036854775808):IntKind.wrap .i64 x=x:=IntWalk.i64_in x ⟨h1,by omega⟩
theorem wrap_u8 {x:Int} (h1:0<=x) (h2:x<256):IntKind.wrap .u8 x=x:=by rw [IntKind.wrap_u8];omega
def bl (s:BA):List UInt8:=s.data.toList
def B (l:List UInt8):BA:=⟨l.toArray⟩
theorem kZ (l:List UInt8):bl (B l)=l:=rfl
theorem oL (s:BA):B (bl s)=s:=rfl
theorem ib (s:BA):s.size=(bl s).length:=by unfold bl;rw [Array.length_toList];rfl
theorem bu (l:List UInt8):(B l).size=l.length:=by rw [ib,kZ]
theorem yp {a b:BA} (h:bl a=bl b):a=b:=by rw [<- oL a,h,oL]
theorem eI {a b:List UInt8}:B a=B b ↔ a=b:=⟨fun h=>by rw [<- kZ a,h,kZ],fun h=>by rw [h]⟩
theorem eM (s:BA) (i j:Nat):bl (s.extract i j)=((bl s).take j).drop i:=by
 unfold bl;rw [ByteArray.data_extract,Array.toList_extract];simp [List.extract,List.drop_take]
theorem da (l:List UInt8) (i j:Nat):(B l).extract i j=B ((l.take j).drop i):=yp (by rw [eM,kZ,kZ])
theorem wF (a b:BA):bl (a++b)=bl a++bl b:=by unfold bl;simp
theorem ct (a b:List UInt8):B a++B b=B (a++b):=yp (by rw [wF];rfl)
theorem dR:(⟨#[]⟩:BA)=B []:=rfl
theorem Az {s:BA} {i:Nat} {c:UInt8} (h:(bl s)[i]? = some c):ed s (i:Int)=c.toNat:=by
 obtain ⟨hlt,hv⟩:=List.getElem?_eq_some_iff.1 h
 have hlt':i<s.size:=by rw [ib];exact hlt
 unfold ed
 simp only [Int.toNat_natCast]
 rw [dif_pos hlt']
 congr 2
theorem cW {α : Type} {l:List α} {i:Nat} {c : α} {r:List α} (h:l.drop i=c::r):l[i]? = some c/\i<l.length/\l.drop (i+1)=r:=by
 have h0:(l.drop i)[0]? = some c:=by rw [h];rfl
 rw [List.getElem?_drop,Nat.add_zero] at h0
 refine ⟨h0,(List.getElem?_eq_some_iff.1 h0).1,?_⟩
 rw [<- List.drop_drop,h];rfl
theorem drop_nil {α : Type} {l:List α} {i:Nat} (h:l.drop i=[]):l.length<=i:=by simpa using h
theorem vy {α : Type} {l:List α} {i:Nat} (h:i<l.length):∃ c r,l.drop i=c::r:=by
 cases hd:l.drop i with
 | nil=>have:=drop_nil hd;omega
 | cons c r=>exact ⟨c,r,rfl⟩
theorem gl {α : Type} {l:List α} {i:Nat} {c : α} (h:l[i]? = some c):l.take (i+1)=l.take i++[c]:=by
 rw [List.take_add_one,h];rfl
theorem m8 (c d:UInt8):((c.toNat:Int) == (d.toNat:Int))=(c == d):=by
 rw [Bool.eq_iff_iff];simp only [beq_iff_eq,Int.natCast_inj,<- UInt8.toNat_inj]
theorem rR (c d:UInt8):((c.toNat:Int) != (d.toNat:Int))=(c != d):=by
 unfold bne;rw [m8]
theorem mL (c:UInt8):c.toNat<256:=by have:=c.toNat_lt;omega
theorem Ei {i:Nat}:((i:Int)+1)=((i+1:Nat):Int):=rfl
theorem dN (b:UInt8) (l sub:List UInt8):Lib.index (b::l) sub=if sub.isPrefixOf (b::l) then 0 else if Lib.index l sub == -1 then -1 else Lib.index l sub+1:=rfl
theorem nM:∀ (s sub:List UInt8),Lib.index s sub ≠ -1->Lib.index s sub+sub.length<=s.length
 | [],sub,h=>by
  cases sub with
  | nil=>simp [Lib.index]
  | cons a t=>exact absurd rfl h
 | b::l,sub,h=>by
  rw [dN] at h ⊢
  split at h
  ·rename_i hp
   rw [if_pos hp]
   have:=(List.isPrefixOf_iff_prefix.1 hp).length_le
   omega
  ·rename_i hp
   rw [if_neg hp]
   split at h
   ·exact absurd rfl h
   ·rename_i hi
    have hi':Lib.index l sub ≠ -1:=by simpa using hi
    have:=nM l sub hi'
    rw [if_neg hi]
    simp only [List.length_cons];omega
theorem eh {l:LA} {i:Nat} {a:AV} (h:l[i]? = some a):bZ l (i:Int)=a:=by
 unfold bZ;rw [Int.toNat_natCast,List.getD_eq_getElem?_getD,h];rfl
theorem zO {l:LA} {i:Nat} {a:AV} {r:LA} (h:l.drop i=a::r):bZ l (i:Int)=a:=eh (cW h).1
theorem AA {l:List UInt8} {i:Nat} {c:UInt8} (h:l[i]? = some c):ed (B l) (i:Int)=c.toNat:=Az (s:=B l) h
theorem rQ (c:UInt8) (d:UInt8) (x:Int) (h:x=(d.toNat:Int)):((c.toNat:Int) == x)=(c == d):=by rw [h,m8]
theorem DQ (c:UInt8) (d:UInt8) (x:Int) (h:x=(d.toNat:Int)):((c.toNat:Int) != x)=(c != d):=by rw [h,rR]
def cg (l:List (List UInt8)):LA:=l.map fun x => .str (B x)
theorem xA (l:List (List UInt8)):(cg l).length=l.length:=by unfold cg;simp
theorem ry (l m:List (List UInt8)):cg (l++m)=cg l++cg m:=by unfold cg;simp
theorem zP (xs:LA) (a:AV):bZ (xs++[a]) (xs.length:Int)=a:=eh (by simp)
theorem zN (xs:LA) (a:AV) (r:LA) (n:Nat) (h:xs.length=n):bZ (xs++a::r) (n:Int)=a:=eh (by subst h;simp)
theorem kO (xs:LA) (a b:AV) (r:LA) (n:Nat) (h:xs.length=n):dW (xs++a::r) (n:Int) b=xs++b::r:=by
 subst h;unfold dW;simp
theorem mn {l p:List UInt8}:p.isPrefixOf l=decide (l.take p.length=p):=by
 rw [Bool.eq_iff_iff,List.isPrefixOf_iff_prefix,List.prefix_iff_eq_take,decide_eq_true_eq,eq_comm]
theorem km (a:BA) (p:List UInt8) (κ : Bool->Option R):aU a (B p) κ = κ (p.isPrefixOf (bl a)):=by
 have hsz:=ib a
 unfold aU aU.e bw bw.e
 simp only [bu]
 by_cases h:p.length<=(bl a).length
 ·simp (disch:=omega) only [aS,bq,au]
  congr 1
  rw [mn]
  congr 1
  rw [<- oL (a.extract _ _),eM,eI]
  simp
 ·simp (disch:=omega) only [aO]
  congr 1
  rw [mn]
  symm;rw [decide_eq_false_iff_not]
  intro e;have:=congrArg List.length e;simp at this;omega
theorem nL (l p:List UInt8) (hs:l.length<=1000000) (κ : Int->Option R):aE (B l) (B p) κ = κ (Lib.index l p):=by
 unfold aE aE.e cT
 have:=bu l
 simp (disch:=omega) only [au]
 rfl
theorem nJ (l p:List UInt8) (κ : Bool->Option R):aU (B l) (B p) κ = κ (p.isPrefixOf l):=km (B l) p κ
theorem jp {p:UInt8->Bool} {l:List UInt8} {k:Nat} (h:k<(l.takeWhile p).length):∃ c,l[k]? = some c/\p c=true:=by
 obtain ⟨t,ht⟩:=List.takeWhile_prefix p (l:=l)
 refine ⟨(l.takeWhile p)[k],?_,List.all_eq_true.1 List.all_takeWhile _ (List.getElem_mem h)⟩
 have:=List.getElem?_append_left (l₂:=t) h
 rw [ht] at this
 rw [this,List.getElem?_eq_getElem h]
theorem ko {l:List UInt8} {c:UInt8} {o:Nat} (h:l[o]? = some c) (hn:∀ k,k<o->l[k]? ≠ some c):Lib.indexByte l c=o:=by
 have hge:=Lib.indexByte_ge l c
 by_cases e:Lib.indexByte l c = -1
 ·exact absurd h (Lib.indexByte_none e o)
 ·obtain ⟨m,hm⟩:∃ m:Nat,Lib.indexByte l c=m:=⟨(Lib.indexByte l c).toNat,by omega⟩
  obtain ⟨h1,h2⟩:=Lib.indexByte_some hm
  rcases Nat.lt_trichotomy m o with hlt|heq|hgt
  ·exact absurd h1 (hn m hlt)
  ·rw [hm,heq]
  ·exact absurd h (h2 o hgt)
theorem nq {p:UInt8->Bool}:∀ {l:List UInt8},l.dropWhile p=[] ↔ ∀ a∈l,p a=true
 | []=>by simp
 | c::r=>by
  rw [List.dropWhile_cons]
  cases h:p c with
  | true=>simp [h,nq (l:=r)]
  | false=>simp [h]
theorem wx {p:UInt8->Bool} (h:(List.range 256).all (fun n=>p (UInt8.ofNat n))=true) (c:UInt8):p c=true:=by
 have:=List.all_eq_true.1 h c.toNat (List.mem_range.2 (mL c))
 rwa [UInt8.ofNat_toNat] at this
theorem Dj (l:List UInt8) (c:UInt8) (κ : Int->Option R):av (B l) (c.toNat:Int) κ = κ (Lib.indexByte l c):=by
 show κ (Lib.indexByte l ((c.toNat:Int).toNat.toUInt8))=_
 rw [Int.toNat_natCast]
 show κ (Lib.indexByte l (UInt8.ofNat c.toNat))=_
 rw [UInt8.ofNat_toNat]
def cI (t:List UInt8):LA:=t.map fun b=>AV.int (b.toNat:Int)
theorem nN (t:List UInt8):(cI t).length=t.length:=by unfold cI;simp
theorem sv (t u:List UInt8):cI t++cI u=cI (t++u):=by unfold cI;simp
theorem xc (t:List UInt8) (c:UInt8):cI t++[AV.int (c.toNat:Int)]=cI (t++[c]):=sv t [c]
theorem fL (t:List UInt8):cY (cI t)=B t:=by
 unfold cY cI B
 congr 2
 rw [List.map_map]
 conv=>rhs;rw [<- List.map_id t]
 apply List.map_congr_left
 intro b hb
 show UInt8.ofNat ((b.toNat:Int).toNat)=b
 rw [Int.toNat_natCast,UInt8.ofNat_toNat]
theorem AW (t:List UInt8):List.all (cI t) m7=true:=by
 unfold cI
 rw [List.all_map,List.all_eq_true]
 intro b hb
 have:=mL b
 show m7 (AV.int (b.toNat:Int))=true
 unfold m7
 show (decide (0<=(b.toNat:Int))&&decide ((b.toNat:Int)<256))=true
 rw [decide_eq_true (by omega),decide_eq_true (by omega)];rfl
theorem AB (t:List UInt8):dB (B t)=cI t:=rfl
theorem Ag (l:LA) (a:Int) (κ : LA->Option R) (h:l.length<=1000000000):aJ l a κ = κ (l++[AV.int a]):=by
 show bW (decide ((l.length+1)*1<=140737488355328)) (κ (l++[AV.int a]))=_
 rw [au (by omega)]
theorem tP (t:List UInt8) (κ : BA->Option R):aq (cI t) κ = κ (B t):=by
 unfold aq aq.e
 rw [au rfl,AW,fL];rfl
def uR (c:UInt8):UInt8:=if 65<=c.toNat/\c.toNat<=90 then UInt8.ofNat (c.toNat+32) else c
def dq (l:List UInt8):List UInt8:=l.map uR
theorem A9 {c:UInt8} (h1:65<=c.toNat) (h2:c.toNat<=90):((uR c).toNat:Int)=(c.toNat:Int)+32:=by
 unfold uR
 rw [if_pos ⟨h1,h2⟩]
 simp;omega
theorem vV {c:UInt8} (h:¬ (65<=c.toNat/\c.toNat<=90)):uR c=c:=by unfold uR;rw [if_neg h]
theorem sT (l:List UInt8):(dq l).length=l.length:=by unfold dq;simp
theorem za {l:List UInt8} {i:Nat} {c:UInt8} (h:l[i]? = some c):(bZ (cI l) (i:Int)).i=(c.toNat:Int):=by
 rw [eh (a := .int (c.toNat:Int)) (by unfold cI;rw [List.getElem?_map,h];rfl)];rfl
theorem ints_set (a:List UInt8) (c d:UInt8) (r:List UInt8) (n:Nat) (h:a.length=n):dW (cI (a++c::r)) (n:Int) (.int (d.toNat:Int))=cI (a++d::r):=by
 unfold cI
 rw [List.map_append,List.map_cons,kO _ _ _ _ n (by rw [List.length_map];exact h)]
 simp
theorem mf (l:List UInt8) (hs:l.length<=140737488355327) (κ : BA->Option R):∀ (f i:Nat),i<=l.length->l.length<i+f ->
  bn.L3 κ f (l.length:Int) (i:Int) (cI (dq (l.take i)++l.drop i))=κ (B (dq l))
 | 0,i,h1,h2=>by omega
 | f+1,i,h1,h2=>by
  rw [bn.L3,bn.t3]
  have hla:(dq (l.take i)).length=i:=by rw [sT,List.length_take];omega
  have hll:(cI (dq (l.take i)++l.drop i)).length=l.length:=by rw [nN,List.length_append,hla,List.length_drop];omega
  simp only [hll,fL]
  cases hd:l.drop i with
  | nil =>
   have:=drop_nil hd
   rw [aO (by omega),List.append_nil,List.take_of_length_le (by omega)]
  | cons c r =>
   obtain ⟨g1,g2,g3⟩:=cW hd
   have hw1:IntKind.wrap .i64 ((i:Int)+1)=((i+1:Nat):Int):=wrap_i64 (by omega) (by omega)
   have hg:(bZ (cI (dq (l.take i)++c::r)) (i:Int)).i=(c.toNat:Int):=za (by rw [List.getElem?_append_right (by omega),hla];simp)
   simp only [hg,hw1]
   simp (disch:=omega) only [aS,bq,au]
   have hn:=mf l hs κ f (i+1) (by omega) (by omega)
   rw [g3] at hn
   have ht:dq (l.take (i+1))++r=dq (l.take i)++uR c::r:=by rw [gl g1];unfold dq;simp
   rw [ht] at hn
   by_cases h1':65<=c.toNat
   ·by_cases h2':c.toNat<=90
    ·have hu:=A9 h1' h2'
     have hlt:=mL c
     have hw:IntKind.wrap .u8 ((IntKind.wrap .u8 ((c.toNat:Int)+97))-65)=((uR c).toNat:Int):=by
      rw [wrap_u8 (x:=(c.toNat:Int)+97) (by omega) (by omega),wrap_u8 (by omega) (by omega),hu];omega
     rw [aS (by omega),aS (by omega),hw,ints_set _ _ _ _ _ hla]
     exact hn
    ·rw [vV (by omega)] at hn
     rw [aS (by omega),aO (by omega)]
     exact hn
   ·rw [vV (by omega)] at hn
    rw [aO (by omega)]
    exact hn
theorem fA (l:List UInt8) (hs:l.length<=140737488355327) (κ : BA->Option R):bn (B l) κ = κ (B (dq l)):=by
 have key:∀ f,l.length<f->bn.e (B l) (bn.L3 κ f) κ = κ (B (dq l)):=by
  intro f hf
  unfold bn.e
  rw [bu,au (by omega),AB,nN]
  exact mf l hs κ f 0 (by omega) (by omega)
 exact key aH (by unfold aH;omega)
def pl (s r:List UInt8):Int:=((s.length-r.length:Nat):Int)
theorem gh (s:List UInt8):pl s []=(s.length:Int):=rfl
theorem jo {s r:List UInt8}:0<=pl s r/\pl s r<=(s.length:Int):=by unfold pl;omega
theorem ej {s r:List UInt8} (h:r <:+ s):r.length<=s.length:=h.length_le
theorem tC {s r:List UInt8} (h:r <:+ s):s.drop (s.length-r.length)=r:=by
 obtain ⟨p,rfl⟩:=h
 simp
theorem fM {s t:List UInt8} {c:UInt8} (h:c::t <:+ s):t <:+ s:=(List.suffix_cons c t).trans h
theorem Be {s t:List UInt8} {c:UInt8} (h:c::t <:+ s):pl s t=pl s (c::t)+1:=by
 have:=ej h
 simp only [List.length_cons] at this
 unfold pl
 simp only [List.length_cons]
 omega
theorem od {s t:List UInt8} {c:UInt8} (h:c::t <:+ s):pl s (c::t)<(s.length:Int):=by
 have:=ej h
 simp only [List.length_cons] at this
 unfold pl
 simp only [List.length_cons]
 omega
theorem oc {s t:List UInt8} {c:UInt8} (h:c::t <:+ s):ed (B s) (pl s (c::t))=(c.toNat:Int):=by
 unfold pl
 refine AA ?_
 have:=tC h
 exact (cW this).1
theorem rn {s t:List UInt8} {c:UInt8} (h:c::t <:+ s) (hs:s.length<=1000000):IntKind.wrap .i64 (pl s (c::t)+1)=pl s t:=by
 have h1:=jo (s:=s) (r:=c::t)
 rw [Be h]
 exact wrap_i64 (by omega) (by omega)
theorem u3 (s:List UInt8):pl s s=0:=by unfold pl;omega
theorem tD (s:List UInt8):((B s).size:Int)=(s.length:Int):=by rw [bu]
theorem Ax {c d:UInt8} (x:Int) (h:x=(d.toNat:Int)) (hn:c≠d):((c.toNat:Int) == x)=false:=by rw [rQ c d x h];simpa using hn
theorem Aw {c d:UInt8} (x:Int) (h:x=(d.toNat:Int)) (hn:c=d):((c.toNat:Int) == x)=true:=by rw [rQ c d x h];simpa using hn
def ju:Nat->List UInt8->List UInt8
 | _,[]=>[]
 | d,c::t=>if c=92 then (match t with
   | []=>[]
   | _::u=>ju d u) else if c=40 then ju (d+1) t else if c=41 then (if d=1 then t else ju (d-1) t) else ju d t
theorem jZ:∀ (n:Nat) (d:Nat) (r:List UInt8),r.length<=n->ju d r <:+ r
 | _,d,[],_=>by rw [ju];exact List.suffix_refl _
 | 0,d,c::t,h=>by simp at h
 | n+1,d,c::t,h=>by
  simp only [List.length_cons,Nat.add_le_add_iff_right] at h
  rw [ju.eq_def]
  simp only
  split
  ·split
   ·exact List.nil_suffix
   ·rename_i u
    simp only [List.length_cons] at h
    exact ((jZ n d u (by omega)).trans (List.suffix_cons _ _)).trans (List.suffix_cons _ _)
  ·split
   ·exact (jZ n (d+1) t h).trans (List.suffix_cons _ _)
   ·split
    ·split
     ·exact List.suffix_cons _ _
     ·exact (jZ n (d-1) t h).trans (List.suffix_cons _ _)
    ·exact (jZ n d t h).trans (List.suffix_cons _ _)
theorem ud (d:Nat) (r:List UInt8):ju d r <:+ r:=jZ _ d r (Nat.le_refl _)
theorem qK (d:Nat) (r:List UInt8):(ju d r).length<=r.length:=(ud d r).length_le
theorem Ck (d:Nat) (x:UInt8) (u:List UInt8):ju d (92::x::u)=ju d u:=by rw [ju.eq_def];rfl
theorem AD (d:Nat):ju d [92]=[]:=by rw [ju.eq_def];rfl
theorem Cm (d:Nat) (t:List UInt8):ju d (40::t)=ju (d+1) t:=by rw [ju.eq_def];rfl
theorem Cl (d:Nat) (t:List UInt8):ju d (41::t)=if d=1 then t else ju (d-1) t:=by rw [ju.eq_def];rfl
theorem Cn (d:Nat) {c:UInt8} (t:List UInt8) (h1:c≠92) (h2:c≠40) (h3:c≠41):ju d (c::t)=ju d t:=by rw [ju.eq_def];simp [h1,h2,h3]
def cx:List UInt8->List UInt8
 | []=>[]
 | c::t=>if c=32∨c=9 then cx t else if c=40 then cx (ju 1 t) else c::t
termination_by l=>l.length
decreasing_by
 all_goals simp_wf
 all_goals have:=qK 1 t
 all_goals omega
theorem mK:cx []=[]:=by rw [cx]
theorem m5 {c:UInt8} (t:List UInt8) (h:c=32∨c=9):cx (c::t)=cx t:=by rw [cx,if_pos h]
theorem yq (t:List UInt8):cx (40::t)=cx (ju 1 t):=by rw [cx,if_neg (by decide),if_pos rfl]
theorem gf {c:UInt8} (t:List UInt8) (h1:c≠32) (h2:c≠9) (h3:c≠40):cx (c::t)=c::t:=by rw [cx,if_neg (by simp [h1,h2]),if_neg h3]
theorem qF:∀ (n:Nat) (r:List UInt8),r.length<=n->cx r <:+ r
 | _,[],_=>by rw [mK];exact List.suffix_refl _
 | 0,c::t,h=>by simp at h
 | n+1,c::t,h=>by
  simp only [List.length_cons,Nat.add_le_add_iff_right] at h
  by_cases h1:c=32∨c=9
  ·rw [m5 t h1];exact (qF n t h).trans (List.suffix_cons _ _)
  ·by_cases h2:c=40
   ·subst h2
    rw [yq]
    exact ((qF n (ju 1 t) (Nat.le_trans (qK 1 t) h)).trans (ud 1 t)).trans (List.suffix_cons _ _)
   ·rw [gf t (fun e=>h1 (.inl e)) (fun e=>h1 (.inr e)) h2];exact List.suffix_refl _
theorem dA (r:List UInt8):cx r <:+ r:=qF _ r (Nat.le_refl _)
theorem D8 (s r:List UInt8) (h:r <:+ s) (κ : Int->BA->Int->Option R):bd (B s) (pl s r) κ = κ (match r with|[]=>0|c::_=>(c.toNat:Int)) (B s) (pl s r):=by
 unfold bd bd.e
 cases r with
 | nil=>rw [tD,gh,aO (by omega)]
 | cons c t =>
  have h1:=od h
  have h2:=jo (s:=s) (r:=c::t)
  rw [tD,aS h1,bq,au h2.1,au h1,oc h]
theorem gy (s:List UInt8) (hs:s.length<=1000000) (κ : BA->Int->Option R):∀ (f d:Nat) (r:List UInt8),r <:+ s->1<=d->d+r.length<=2000000->r.length+1<f->aF.L1 κ f (d:Int) (B s) (pl s r)=κ (B s) (pl s (ju d r))
 | 0,d,r,_,_,_,hf=>by omega
 | f+1,d,r,h,hd,hdl,hf=>by
  rw [aF.L1,aF.t1,tD]
  cases r with
  | nil=>rw [gh,aO (by omega),ju,gh]
  | cons c t =>
   have h1:=od h
   have h2:=jo (s:=s) (r:=c::t)
   have ht:=fM h
   simp only [List.length_cons] at hf hdl
   rw [aS h1,bq,au h2.1,au h1,oc h,rn h hs]
   by_cases c1:c=92
   ·rw [Aw 92 rfl c1,cond_true]
    subst c1
    cases t with
    | nil =>
     rw [AD,gh]
     cases f with
     | zero=>simp at hf
     | succ f =>
      have hw:IntKind.wrap .i64 ((s.length:Int)+1)=(s.length:Int)+1:=wrap_i64 (by omega) (by omega)
      rw [hw,aF.L1,aF.t1,tD,aO (by omega)]
    | cons x u =>
     simp only [List.length_cons] at hf hdl
     rw [rn ht hs,Ck]
     exact gy s hs κ f d u (fM ht) hd (by omega) (by omega)
   ·rw [Ax 92 rfl c1,cond_false]
    by_cases c2:c=40
    ·subst c2
     rw [Aw 40 rfl rfl,cond_true,Cm,show IntKind.wrap .i64 ((d:Int)+1)=((d+1:Nat):Int) from wrap_i64 (by omega) (by omega)]
     exact gy s hs κ f (d+1) t ht (by omega) (by omega) (by omega)
    ·rw [Ax 40 rfl c2,cond_false]
     by_cases c3:c=41
     ·subst c3
      rw [Aw 41 rfl rfl,cond_true,Cl,show IntKind.wrap .i64 ((d:Int)-1)=((d-1:Nat):Int) by rw [wrap_i64 (by omega) (by omega)];omega]
      by_cases c4:d=1
      ·rw [if_pos c4,mJ (by omega),cond_true]
      ·rw [if_neg c4,mI (by omega),cond_false]
       exact gy s hs κ f (d-1) t ht (by omega) (by omega) (by omega)
     ·rw [Ax 41 rfl c3,cond_false,Cn d t c1 c2 c3]
      exact gy s hs κ f d t ht hd (by omega) (by omega)
theorem E3 (s t:List UInt8) (hs:s.length<=1000000) (h:40::t <:+ s) (κ : BA->Int->Option R):aF (B s) (pl s (40::t)) κ = κ (B s) (pl s (ju 1 t)):=by
 have hl:=ej h
 simp only [List.length_cons] at hl
 have key:∀ f,3000000<f->aF.e (B s) (pl s (40::t)) (aF.L1 κ (f+1)) κ = κ (B s) (pl s (ju 1 t)):=by
  intro f hf
  have h1:=od h
  have h2:=jo (s:=s) (r:=40::t)
  unfold aF.e
  rw [aF.L1,aF.t1,tD,aS h1,bq,au h2.1,au h1,oc h,rn h hs,Ax (d:=92) 92 rfl (by decide),cond_false,Aw 40 rfl rfl,cond_true,show IntKind.wrap .i64 ((0:Int)+1)=((1:Nat):Int) from wrap_i64 (by omega) (by omega)]
  exact gy s hs κ f 1 t (fM h) (by omega) (by omega) (by omega)
 exact key (aH-1) (by unfold aH;omega)
theorem iY (s:List UInt8) (hs:s.length<=1000000) (κ : BA->Int->Option R):∀ (f:Nat) (r:List UInt8),r <:+ s->r.length<f->ac.L0 bd aF κ f (B s) (pl s r)=κ (B s) (pl s (cx r))
 | 0,r,_,hf=>by omega
 | f+1,r,h,hf=>by
  rw [ac.L0,ac.t0,D8 s r h]
  cases r with
  | nil=>rw [mK];rfl
  | cons c t =>
   have ht:=fM h
   simp only [List.length_cons] at hf
   by_cases c1:c=32
   ·rw [Aw 32 rfl c1,cond_true,rn h hs,m5 t (.inl c1)]
    exact iY s hs κ f t ht (by omega)
   ·rw [Ax 32 rfl c1,cond_false]
    by_cases c2:c=9
    ·rw [Aw 9 rfl c2,cond_true,rn h hs,m5 t (.inr c2)]
     exact iY s hs κ f t ht (by omega)
    ·rw [Ax 9 rfl c2,cond_false]
     by_cases c3:c=40
     ·subst c3
      have:=qK 1 t
      rw [Aw 40 rfl rfl,cond_true,E3 s t hs h,yq]
      exact iY s hs κ f (ju 1 t) ((ud 1 t).trans ht) (by omega)
     ·rw [Ax 40 rfl c3,cond_false,gf t c1 c2 c3]
theorem qX (s r:List UInt8) (hs:s.length<=1000000) (h:r <:+ s) (κ : BA->Int->Option R):ac (B s) (pl s r) κ = κ (B s) (pl s (cx r)):=by
 have key:∀ f,1000000<f->ac.e bd aF (B s) (pl s r) (ac.L0 bd aF κ f) κ = κ (B s) (pl s (cx r)) :=
  fun f hf=>iY s hs κ f r h (by have:=ej h;omega)
 exact key aH (by unfold aH;omega)
theorem gz (s r:List UInt8) (d:UInt8) (hs:s.length<=1000000) (h:r <:+ s) (κ : Bool->BA->Int->Option R):ag (B s) (pl s r) (d.toNat:Int) κ = (match r with
  | []=>κ false (B s) (pl s [])
  | c::t=>if c=d then κ true (B s) (pl s t) else κ false (B s) (pl s (c::t))):=by
 unfold ag ag.e
 cases r with
 | nil=>rw [tD,gh,aO (by omega)]
 | cons c t =>
  have h1:=od h
  have h2:=jo (s:=s) (r:=c::t)
  rw [tD,aS h1,bq,au h2.1,au h1,oc h,rn h hs,m8]
  show _=if c=d then κ true (B s) (pl s t) else κ false (B s) (pl s (c::t))
  by_cases e:c=d
  ·subst e;simp
  ·rw [show (c == d)=false by simpa using e,if_neg e];rfl
def Ao:List UInt8:=[40,41,60,62,64,44,59,58,92,34,47,91,93,63,61]
def xT (c:UInt8):Bool:=decide (32<c.toNat)&&(decide (c.toNat<127) && !Ao.any (· == c))
theorem C4 (c:UInt8):decide (Lib.indexByte Ao c>=0)=Ao.any (· == c):=by
 have:=wx (p:=fun c=>decide (Lib.indexByte Ao c>=0) == Ao.any (· == c)) (by kernel_rfl) c
 simpa using this
theorem xg (c:UInt8) (hc:c.toNat<127) (κ : Bool->Option R):aZ (B Ao) (IntKind.wrap .i32 (c.toNat:Int)) κ = κ (Ao.any (· == c)):=by
 have hw:IntKind.wrap .i32 (c.toNat:Int)=(c.toNat:Int):=by rw [IntKind.wrap_i32];omega
 unfold aZ aZ.e bQ bQ.e
 rw [hw,aS (by omega),aS (by omega),wrap_u8 (by omega) (by omega),Dj]
 show κ (decide (Lib.indexByte Ao c>=0))=_
 rw [C4]
def dt (r:List UInt8):List UInt8:=r.takeWhile xT
def eC (r:List UInt8):List UInt8:=r.dropWhile xT
theorem qn (r:List UInt8):dt r++eC r=r:=List.takeWhile_append_dropWhile
theorem fq (r:List UInt8):eC r <:+ r:=List.dropWhile_suffix _
theorem iP (r:List UInt8):(dt r).length+(eC r).length=r.length:=by
 have:=congrArg List.length (qn r);simpa using this
theorem Aa {c:UInt8} {t:List UInt8} (h:xT c=true):dt (c::t)=c::dt t/\eC (c::t)=eC t:=by unfold dt eC;simp [h]
theorem oE {c:UInt8} {t:List UInt8} (h:xT c=false):dt (c::t)=[]/\eC (c::t)=c::t:=by unfold dt eC;simp [h]
theorem AN {s r0 w r:List UInt8} (h:r0 <:+ s) (e:r0=w++r):(B s).extract (pl s r0).toNat (pl s r).toNat=B w:=by
 obtain ⟨p,rfl⟩:=h
 subst e
 rw [da]
 congr 1
 unfold pl
 simp only [Int.toNat_natCast,List.length_append]
 rw [show p.length+(w.length+r.length)-r.length=p.length+w.length by omega,show p.length+(w.length+r.length)-(w.length+r.length)=p.length by omega]
 rw [<- List.append_assoc,List.take_append_of_le_length (by simp),List.take_of_length_le (by simp)]
 simp
theorem Bf {s r0 r:List UInt8} (h:r.length<=r0.length):pl s r0<=pl s r:=by unfold pl;omega
theorem pL (s r0:List UInt8) (hs:s.length<=1000000) (h0:r0 <:+ s) (κ : BA->BA->Int->Option R):∀ (f:Nat) (w r:List UInt8),r0=w++r->r.length<f ->
  ak.L2 aZ κ f (pl s r0) (B s) (pl s r)=κ (B (w++dt r)) (B s) (pl s (eC r))
 | 0,w,r,_,hf=>by omega
 | f+1,w,r,e,hf=>by
  have hr:r <:+ s:=(by rw [e];exact List.suffix_append _ _:r <:+ r0).trans h0
  have hm:pl s r0<=pl s r:=Bf (by rw [e];simp)
  have fin:bW (decide ((0:Int)<=pl s r0)&&(decide (pl s r0<=pl s r)&&decide (pl s r<=((B s).size:Int)))) (κ ((B s).extract (pl s r0).toNat (pl s r).toNat) (B s) (pl s r))=κ (B w) (B s) (pl s r):=by
   rw [tD,bq,au jo.1,bq,au hm,au jo.2,AN h0 e]
  rw [ak.L2,ak.t2,fin,tD]
  cases r with
  | nil=>rw [gh,aO (by omega)];show _=κ (B (w++[])) _ (pl s []);rw [List.append_nil,gh]
  | cons c t =>
   have h1:=od hr
   have h2:=jo (s:=s) (r:=c::t)
   simp only [List.length_cons] at hf
   rw [aS h1,bq,au h2.1,au h1,oc hr,rn hr hs]
   by_cases g1:32<c.toNat
   ·rw [aS (by omega),bq,au h2.1,au h1]
    by_cases g2:c.toNat<127
    ·rw [aS (by omega),bq,au h2.1,au h1]
     show aZ (B Ao) _ _=_
     rw [xg c g2]
     cases g3:Ao.any (· == c) with
     | false =>
      have hk:xT c=true:=by unfold xT;rw [decide_eq_true g1,decide_eq_true g2,g3];rfl
      obtain ⟨q1,q2⟩:=Aa (t:=t) hk
      rw [q1,q2]
      have:=pL s r0 hs h0 κ f (w++[c]) t (by rw [e];simp) (by omega)
      rw [List.append_assoc] at this
      exact this
     | true =>
      have hk:xT c=false:=by unfold xT;rw [g3];simp
      obtain ⟨q1,q2⟩:=oE (t:=t) hk
      rw [q1,q2,List.append_nil];rfl
    ·have hk:xT c=false:=by unfold xT;rw [decide_eq_false g2];simp
     obtain ⟨q1,q2⟩:=oE (t:=t) hk
     rw [aO (by omega),q1,q2,List.append_nil]
   ·have hk:xT c=false:=by unfold xT;rw [decide_eq_false g1];simp
    obtain ⟨q1,q2⟩:=oE (t:=t) hk
    rw [aO (by omega),q1,q2,List.append_nil]
theorem xi (s r:List UInt8) (hs:s.length<=1000000) (h:r <:+ s) (κ : BA->BA->Int->Option R):ak (B s) (pl s r) κ = κ (B (dt r)) (B s) (pl s (eC r)):=by
 have key:∀ f,1000000<f->ak.e aZ (B s) (pl s r) (ak.L2 aZ κ f) κ = κ (B (dt r)) (B s) (pl s (eC r)) :=
  fun f hf=>pL s r hs h κ f [] r rfl (by have:=ej h;omega)
 exact key aH (by unfold aH;omega)
def qw:List UInt8->List UInt8->Option (List UInt8 × List UInt8)
 | _,[]=>none
 | a,c::t=>if c=34 then some (a,t) else if c=92 then (match t with
   | []=>none
   | x::u=>qw (a++[x]) u) else qw (a++[c]) t
theorem zI:∀ (n:Nat) (a r:List UInt8),r.length<=n->∀ v r',qw a r=some (v,r')->r' <:+ r/\v.length<=a.length+r.length
 | _,a,[],_,v,r',h=>by rw [qw] at h;cases h
 | 0,a,c::t,h,_,_,_=>by simp at h
 | n+1,a,c::t,hn,v,r',h=>by
  simp only [List.length_cons,Nat.add_le_add_iff_right] at hn
  rw [qw.eq_def] at h
  simp only at h
  split at h
  ·cases h;exact ⟨List.suffix_cons _ _,by omega⟩
  ·split at h
   ·split at h
    ·cases h
    ·rename_i x u
     simp only [List.length_cons] at hn
     obtain ⟨g1,g2⟩:=zI n _ u (by omega) v r' h
     refine ⟨(g1.trans (List.suffix_cons _ _)).trans (List.suffix_cons _ _),?_⟩
     simp only [List.length_append,List.length_cons,List.length_nil] at g2 ⊢;omega
   ·obtain ⟨g1,g2⟩:=zI n _ t hn v r' h
    refine ⟨g1.trans (List.suffix_cons _ _),?_⟩
    simp only [List.length_append,List.length_cons,List.length_nil] at g2 ⊢;omega
def xV (r:List UInt8):Option (List UInt8 × List UInt8) :=
 match r with
 | []=>none
 | c::t=>if c=34 then qw [] t else if dt (c::t)=[] then none else some (dt (c::t),eC (c::t))
theorem Dp {r v r':List UInt8} (h:xV r=some (v,r')):r' <:+ r/\v.length<=r.length:=by
 cases r with
 | nil=>cases h
 | cons c t =>
  simp only [xV] at h
  split at h
  ·obtain ⟨g1,g2⟩:=zI _ [] t (Nat.le_refl _) v r' h
   exact ⟨g1.trans (List.suffix_cons _ _),by simp at g2 ⊢;omega⟩
  ·split at h
   ·cases h
   ·cases h
    have:=iP (c::t)
    exact ⟨fq _,by omega⟩
theorem ED (s:List UInt8) (hs:s.length<=1000000) (κ : BA->Bool->BA->Int->Option R):∀ (f:Nat) (a r:List UInt8),r <:+ s->a.length+r.length<=2000000->r.length<f ->
  bf.L5 ag ak aq aJ κ f (B s) (pl s r) (cI a)=match qw a r with
   | some (v,r')=>κ (B v) true (B s) (pl s r')
   | none=>κ (B []) false (B s) (pl s [])
 | 0,a,r,_,_,hf=>by omega
 | f+1,a,r,h,ha,hf=>by
  rw [bf.L5,bf.t5,tD,dR]
  cases r with
  | nil=>rw [gh,aO (by omega),qw]
  | cons c t =>
   have h1:=od h
   have h2:=jo (s:=s) (r:=c::t)
   have ht:=fM h
   simp only [List.length_cons] at hf ha
   have hw:∀ (d:UInt8) (κ : LA->Option R),aJ (cI a) (d.toNat:Int) κ = κ (cI (a++[d])):=fun d κ => by
    rw [Ag _ _ _ (by rw [nN];omega),xc]
   rw [aS h1,bq,au h2.1,au h1,oc h,rn h hs,qw.eq_def]
   by_cases c1:c=34
   ·rw [Aw 34 rfl c1,cond_true,tP];simp only [c1,if_true]
   ·rw [Ax 34 rfl c1,cond_false]
    simp only [c1,if_false]
    by_cases c2:c=92
    ·subst c2
     rw [Aw 92 rfl rfl,cond_true]
     simp only [if_true]
     cases t with
     | nil =>
      rw [gh,aO (by omega),hw]
      have:=ED s hs κ f (a++[92]) [] List.nil_suffix (by simp;omega) (by simp at hf ⊢;omega)
      rw [qw,gh] at this
      exact this
     | cons x u =>
      have h3:=od ht
      have h4:=jo (s:=s) (r:=x::u)
      rw [aS h3,bq,au h4.1,au h3,oc ht,rn ht hs,hw]
      simp only [List.length_cons] at hf ha
      exact ED s hs κ f (a++[x]) u (fM ht) (by simp;omega) (by omega)
    ·rw [Ax 92 rfl c2,cond_false]
     simp only [c2,if_false]
     rw [hw]
     exact ED s hs κ f (a++[c]) t ht (by simp;omega) (by omega)
def Ai (r:List UInt8):List UInt8 :=
 match r with
 | []=>[]
 | c::t=>if c=34 then [] else c::t
theorem Eb (s r : List UInt8) (hs : s.length <= 1000000) (h : r <:+ s) (κ : BA -> Bool -> BA -> Int -> Option R) : bf (B s) (pl s r) κ = match xV r with
      | some (v,r')=>κ (B v) true (B s) (pl s r')
      | none=>κ (B []) false (B s) (pl s (Ai r)):=by
 have key:∀ f,1000000<f->bf.e ag ak aq aJ (B s) (pl s r) (bf.L5 ag ak aq aJ κ f) κ = match xV r with
   | some (v,r')=>κ (B v) true (B s) (pl s r')
   | none=>κ (B []) false (B s) (pl s (Ai r)):=by
  intro f hf
  unfold bf.e
  have hl:=ej h
  rw [show (34:Int)=((34:UInt8).toNat:Int) from rfl,gz s r 34 hs h]
  cases r with
  | nil =>
   simp only [Bool.not_false,cond_true]
   rw [xi s [] hs h,dR]
   have:decide (B (dt [])=B [])=true:=by simp [dt]
   rw [this];rfl
  | cons c t =>
   have ht:=fM h
   simp only [List.length_cons] at hl
   by_cases c1:c=34
   ·simp only [c1,if_true,Bool.not_true,cond_false,xV,Ai]
    exact ED s hs κ f [] t ht (by simp;omega) (by omega)
   ·simp only [c1,if_false,Bool.not_false,cond_true,xV,Ai]
    rw [xi s _ hs h,dR]
    by_cases c2:dt (c::t)=[]
    ·rw [if_pos c2]
     have h3:=qn (c::t)
     rw [c2,List.nil_append] at h3
     rw [h3,c2];simp
    ·rw [if_neg c2]
     have:decide (B (dt (c::t))=B [])=false:=decide_eq_false fun e=>c2 (eI.1 e)
     rw [this];rfl
 exact key aH (by unfold aH;omega)
abbrev Pm:=List UInt8 × List UInt8
def cf (p:Pm):AV := .agg [.str (B p.1),.str (B p.2)]
def zD (r:List UInt8):Option (List UInt8 × List UInt8 × List UInt8) :=
 match cx r with
 | []=>none
 | c::t=>if c=59 then (if dq (dt (cx t))=[] then none else match cx (eC (cx t)) with
   | []=>none
   | c2::t2=>if c2=61 then (match xV (cx t2) with
    | some (v,r')=>some (dq (dt (cx t)),v,r')
    | none=>none) else none) else none
theorem C8 {r n v r':List UInt8} (h:zD r=some (n,v,r')):r' <:+ r/\r'.length<r.length:=by
 unfold zD at h
 have h0:=dA r
 split at h
 ·cases h
 ·rename_i c t e
  rw [e] at h0
  split at h
  ·split at h
   ·cases h
   ·split at h
    ·cases h
    ·rename_i c2 t2 e2
     split at h
     ·split at h
      ·rename_i v' r'' e3
       cases h
       obtain ⟨g1,g2⟩:=Dp e3
       have h1:t2 <:+ t:=by
        have:=(dA (eC (cx t))).trans ((fq (cx t)).trans (dA t))
        rw [e2] at this
        exact (List.suffix_cons _ _).trans this
       have h2:r' <:+ t:=(g1.trans (dA t2)).trans h1
       have h3:=h0.length_le
       simp only [List.length_cons] at h3
       exact ⟨h2.trans ((List.suffix_cons _ _).trans h0),by have:=h2.length_le;omega⟩
      ·cases h
     ·cases h
  ·cases h
theorem A' {l:List UInt8}:dq l=[] ↔ l=[]:=by
 constructor
 ·intro h;have:=congrArg List.length h;rw [sT] at this;exact List.eq_nil_of_length_eq_zero (by simpa using this)
 ·rintro rfl;rfl
theorem pg (l:List UInt8):decide (B l=B [])=decide (l=[]):=decide_eq_decide.2 eI
theorem CU (s r:List UInt8) (hs:s.length<=1000000) (h:r <:+ s):match zD r with
  | some (n,v,r')=>∀ κ : BA->BA->Bool->BA->Int->Option R,aQ (B s) (pl s r) κ = κ (B n) (B v) true (B s) (pl s r')
  | none=>∃ (n v:BA) (p:Int),∀ κ : BA->BA->Bool->BA->Int->Option R,aQ (B s) (pl s r) κ = κ n v false (B s) p:=by
 have b1:=(dA r).trans h
 have step:∀ κ : BA->BA->Bool->BA->Int->Option R,aQ (B s) (pl s r) κ = ag (B s) (pl s (cx r)) 59 (fun r134 r135 r136=>(bif (!r134) then (κ (⟨#[]⟩:BA) (⟨#[]⟩:BA) false r135 r136) else (ac r135 r136 (fun r137 r138=>(ak r137 r138 (fun r139 r140 r141=>(bn r139 (fun r142=>(ac r140 r141 (fun r143 r144=>(bif (decide (r142=(⟨#[]⟩:BA))) then (κ (⟨#[]⟩:BA) (⟨#[]⟩:BA) false r143 r144) else (ag r143 r144 61 (fun r145 r146 r147=>(bif (!r145) then (κ (⟨#[]⟩:BA) (⟨#[]⟩:BA) false r146 r147) else (ac r146 r147 (fun r148 r149=>(bf r148 r149 (fun r169 r170 r171 r172=>(κ r142 r169 r170 r171 r172))))))))))))))))))):=fun κ => by
  unfold aQ aQ.e
  rw [qX s r hs h]
 unfold zD
 cases e:cx r with
 | nil =>
  refine ⟨B [],B [],pl s [],fun κ => ?_⟩
  rw [step,e,show (59:Int)=((59:UInt8).toNat:Int) from rfl,gz s [] 59 hs List.nil_suffix]
  rfl
 | cons c t =>
  rw [e] at b1
  have ht:=fM b1
  by_cases c1:c=59
  ·have b2:=(dA t).trans ht
   have b3:=(fq (cx t)).trans b2
   have b4:=(dA (eC (cx t))).trans b3
   have hll:(dt (cx t)).length<=1000000:=by have:=iP (cx t);have:=b2.length_le;omega
   have step2:∀ κ : BA->BA->Bool->BA->Int->Option R,aQ (B s) (pl s r) κ = bif decide (dq (dt (cx t))=[]) then κ (B []) (B []) false (B s) (pl s (cx (eC (cx t)))) else (ag (B s) (pl s (cx (eC (cx t)))) 61 (fun r145 r146 r147=>(bif (!r145) then (κ (⟨#[]⟩:BA) (⟨#[]⟩:BA) false r146 r147) else (ac r146 r147 (fun r148 r149=>(bf r148 r149 (fun r169 r170 r171 r172=>(κ (B (dq (dt (cx t)))) r169 r170 r171 r172)))))))):=fun κ => by
    rw [step,e,show (59:Int)=((59:UInt8).toNat:Int) from rfl,gz s (c::t) 59 hs b1]
    simp only [c1,if_true,Bool.not_true,cond_false]
    rw [qX s t hs ht,xi s _ hs b2,fA _ (by omega),qX s _ hs b3,dR,pg]
   simp only [c1,if_true]
   by_cases c2:dq (dt (cx t))=[]
   ·rw [if_pos c2]
    exact ⟨B [],B [],_,fun κ => by rw [step2,decide_eq_true c2,cond_true]⟩
   ·rw [if_neg c2]
    cases e2:cx (eC (cx t)) with
    | nil =>
     refine ⟨B [],B [],pl s [],fun κ => ?_⟩
     rw [step2,decide_eq_false c2,cond_false,e2,show (61:Int)=((61:UInt8).toNat:Int) from rfl,gz s [] 61 hs List.nil_suffix]
     rfl
    | cons d u =>
     rw [e2] at b4
     have hu:=fM b4
     by_cases c3:d=61
     ·simp only [c3,if_true]
      have b5:=(dA u).trans hu
      have step3:∀ κ : BA->BA->Bool->BA->Int->Option R,aQ (B s) (pl s r) κ = match xV (cx u) with
        | some (v,r')=>κ (B (dq (dt (cx t)))) (B v) true (B s) (pl s r')
        | none=>κ (B (dq (dt (cx t)))) (B []) false (B s) (pl s (Ai (cx u))):=fun κ => by
       rw [step2,decide_eq_false c2,cond_false,e2,show (61:Int)=((61:UInt8).toNat:Int) from rfl,gz s (d::u) 61 hs b4]
       simp only [c3,if_true,Bool.not_true,cond_false]
       rw [qX s u hs hu,Eb s _ hs b5]
       try (cases xV (cx u) <;> rfl)
      cases e3:xV (cx u) with
      | none=>exact ⟨_,_,_,fun κ => by rw [step3,e3]⟩
      | some p=>obtain ⟨v,r'⟩:=p;exact fun κ => by rw [step3,e3]
     ·simp only [c3,if_false]
      refine ⟨B [],B [],pl s (d::u),fun κ => ?_⟩
      rw [step2,decide_eq_false c2,cond_false,e2,show (61:Int)=((61:UInt8).toNat:Int) from rfl,gz s (d::u) 61 hs b4]
      simp only [c3,if_false]
      rfl
  ·simp only [c1,if_false]
   refine ⟨B [],B [],pl s (c::t),fun κ => ?_⟩
   rw [step,e,show (59:Int)=((59:UInt8).toNat:Int) from rfl,gz s (c::t) 59 hs b1]
   simp only [c1,if_false]
   rfl
def xS:Nat->List Pm->List UInt8->List Pm
 | 0,a,_=>a
 | n+1,a,r=>if a.length<12 then (match zD r with
   | none=>a
   | some (m,v,r')=>xS n (if a.any (fun p=>p.1 == m) then a else a++[(m,v)]) r') else a
def xw (r:List UInt8):List Pm:=xS (r.length+1) [] r
theorem rh (a:BA) (x:AV):mC .str (.str a) x=decide (a=x.s):=rfl
theorem pS (a b:BA) (v:AV):∀ (l:LA),fZ .str (.str a) (fc .str (.str b) v l)=if a=b then some v else fZ .str (.str a) l
 | []=>by
  simp only [fc,fZ,rh]
  show (bif decide (a=b) then some v else none)=_
  by_cases e:a=b <;> simp [e]
 | x::l=>by
  simp only [fc,rh]
  by_cases e:b=(x.fld 0).s
  ·rw [decide_eq_true e,cond_true]
   simp only [fZ,rh]
   show (bif decide (a=b) then some v else fZ .str (.str a) l)=_
   by_cases e2:a=b
   ·simp [e2]
   ·rw [decide_eq_false e2,cond_false,if_neg e2,decide_eq_false (by rw [<- e];exact e2),cond_false]
  ·rw [decide_eq_false e,cond_false]
   simp only [fZ,rh]
   by_cases e2:a=(x.fld 0).s
   ·rw [decide_eq_true e2,cond_true,cond_true,if_neg (fun e3=>e (by rw [<- e3];exact e2))]
   ·rw [decide_eq_false e2,cond_false,cond_false]
    exact pS a b v l
theorem pU (a b:BA) (v:AV) (l:LA):f' .str (.str a) (fc .str (.str b) v l)=if a=b then v else f' .str (.str a) l:=by
 unfold f';rw [pS]
 by_cases e:a=b <;> simp [e]
def Seen (k:Nat) (a:List Pm) (m:LA):Prop:=∀ n:List UInt8,∃ c:Nat,(f' .str (.str (B n)) m).i=(c:Int)/\c<=k/\(c=0 ↔ ∀ p∈a,p.1≠n)
theorem u5 {a:List Pm} {n:List UInt8}:a.any (fun p=>p.1 == n)=false ↔ ∀ p∈a,p.1≠n:=by
 rw [List.any_eq_false]
 constructor
 ·intro h p hp e;exact h p hp (by simp [e])
 ·intro h p hp;simpa using h p hp
theorem pK (s:List UInt8) (hs:s.length<=1000000):∀ (n f k:Nat) (a:List Pm) (r:List UInt8) (m:LA),r <:+ s->r.length<n->n<f->k+n<=2000000->Seen k a m->∃ p:Int,∀ κ : LA->BA->Int->Option R,
  aD.L3 aQ κ f (B s) (pl s r) (a.map cf) m=κ ((xS n a r).map cf) (B s) p
 | 0,f,k,a,r,m,_,hn,_,_,_=>by omega
 | n+1,0,k,a,r,m,_,_,hf,_,_=>by omega
 | n+1,f+1,k,a,r,m,h,hn,hf,hk,hm=>by
  have hla:(a.map cf).length=a.length:=List.length_map ..
  by_cases h12:a.length<12
  ·have hp:=CU (R:=R) s r hs h
   cases e:zD r with
   | none =>
    rw [e] at hp
    obtain ⟨x,v,p,hp⟩:=hp
    refine ⟨p,fun κ => ?_⟩
    rw [aD.L3,aD.t3,hla,aS (by omega),hp,xS,if_pos h12,e]
    rfl
   | some q =>
    obtain ⟨x,v,r'⟩:=q
    rw [e] at hp
    replace hp:∀ κ : BA->BA->Bool->BA->Int->Option R,aQ (B s) (pl s r) κ = κ (B x) (B v) true (B s) (pl s r'):=hp
    obtain ⟨g1,g2⟩:=C8 e
    obtain ⟨c,hc,hck,hc0⟩:=hm x
    have hw:IntKind.wrap .i64 ((c:Int)+1)=((c+1:Nat):Int):=wrap_i64 (by omega) (by omega)
    have hseen:Seen (k+1) (if a.any (fun p=>p.1 == x) then a else a++[(x,v)]) (fc .str (.str (B x)) (.int (((c+1:Nat):Int))) m):=by
     intro y
     rw [pU]
     by_cases ey:y=x
     ·subst ey
      rw [if_pos rfl]
      refine ⟨c+1,rfl,by omega,fun hz=>by omega,fun hz => ?_⟩
      exfalso
      cases ha:a.any (fun p=>p.1 == y) with
      | true =>
       rw [ha] at hz
       have:=u5.2 hz
       rw [if_pos rfl,ha] at this;cases this
      | false =>
       rw [ha] at hz
       exact hz (y,v) (by simp) rfl
     ·rw [if_neg (fun e=>ey (eI.1 e))]
      obtain ⟨c',h1,h2,h3⟩:=hm y
      refine ⟨c',h1,by omega,h3.trans ?_⟩
      cases ha:a.any (fun p=>p.1 == x) with
      | true=>simp
      | false =>
       simp only [Bool.false_eq_true,if_false]
       constructor
       ·intro g p hp
        rcases List.mem_append.1 hp with hp|hp
        ·exact g p hp
        ·rw [List.mem_singleton] at hp;subst hp;exact fun e=>ey e.symm
       ·exact fun g p hp=>g p (List.mem_append.2 (.inl hp))
    obtain ⟨p,hih⟩:=pK s hs n f (k+1) _ r' _ (g1.trans h) (by omega) (by omega) (by omega) hseen
    refine ⟨p,fun κ => ?_⟩
    rw [aD.L3,aD.t3,hla,aS (by omega),hp,xS,if_pos h12,e]
    simp only [Bool.not_true,cond_false]
    rw [hc,hw,pU,if_pos rfl]
    show (bif (((c+1:Nat):Int) == 1) then _ else _)=_
    rw [<- hih κ]
    cases ha:a.any (fun p=>p.1 == x) with
    | true =>
     have:c≠0:=fun e0=>by have:=u5.2 (hc0.1 e0);rw [ha] at this;cases this
     rw [mI (by omega),cond_false];rfl
    | false =>
     have:c=0:=hc0.2 (u5.1 ha)
     rw [mJ (by omega),cond_true,au (by omega)]
     simp only [Bool.false_eq_true,if_false,List.map_append,List.map_cons,List.map_nil]
     rfl
  ·refine ⟨pl s r,fun κ => ?_⟩
   rw [aD.L3,aD.t3,hla,aO (by omega),xS,if_neg h12]
theorem D9 (s r:List UInt8) (hs:s.length<=1000000) (h:r <:+ s):∃ p:Int,∀ κ : LA->BA->Int->Option R,aD (B s) (pl s r) κ = κ ((xw r).map cf) (B s) p:=by
 have key:∀ f,1000002<f->∃ p:Int,∀ κ : LA->BA->Int->Option R,aD.e aQ (B s) (pl s r) (aD.L3 aQ κ f) κ = κ ((xw r).map cf) (B s) p :=
  fun f hf=>pK s hs (r.length+1) f 0 [] r [] h (by omega) (by have:=ej h;omega) (by have:=ej h;omega) (fun n=>⟨0,rfl,Nat.le_refl _,⟨fun _ p hp=>absurd hp (by simp),fun _=>rfl⟩⟩)
 exact key aH (by unfold aH;omega)
def cR:List UInt8->List UInt8->List (List UInt8)
 | cur,[]=>if cur=[] then [] else [cur]
 | cur,13::10::r=>(cur++[13,10])::cR [] r
 | cur,c::r=>cR (cur++[c]) r
theorem l9 (cur r:List UInt8):cR cur (13::10::r)=(cur++[13,10])::cR [] r:=by rw [cR]
theorem sP (cur:List UInt8) (c:UInt8) (r:List UInt8) (h:¬ (c=13/\r.head? = some 10)):cR cur (c::r)=cR (cur++[c]) r:=by
 rw [cR]
 rintro r' rfl rfl;exact h ⟨rfl,rfl⟩
def total:List (List UInt8)->Nat
 | []=>0
 | x::r=>x.length+total r
theorem ky (cur s:List UInt8):total (cR cur s)=cur.length+s.length:=by
 fun_induction cR cur s with
 | case1=>simp [total]
 | case2 cur h=>simp [total]
 | case3 cur r ih=>simp [total,ih];omega
 | case4 cur c r h ih=>simp [ih];omega
theorem uM (s:List UInt8):(cR [] s).length<=s.length:=by
 have ht:=ky [] s
 simp only [List.length_nil,Nat.zero_add] at ht
 rw [<- ht]
 have:∀ (cur t:List UInt8),(cR cur t).length<=total (cR cur t):=by
  intro cur t
  fun_induction cR cur t with
  | case1=>simp
  | case2 cur h => have : cur.length ≠ 0 := by simpa using h
                   simp [total];omega
  | case3 cur r ih=>simp [total];omega
  | case4 cur c r h ih=>exact ih
 exact this _ _
def c8 (c:UInt8):Bool:=c == 32||c == 9
def iG (c:UInt8):Bool:=decide (32<c.toNat)&&(decide (c.toNat<127)&&c != 58)
def gC (c:List UInt8):List UInt8:=c.takeWhile iG
def jS (c:List UInt8):Nat:=(gC c).length+((c.drop (gC c).length).takeWhile c8).length
def fw (c:List UInt8):Bool:=decide (gC c≠[])&&(c[jS c]? == some 58)
theorem nO (c:UInt8) (κ : Bool->Option R):aR (c.toNat:Int) κ = κ (c8 c):=by
 unfold aR aR.e
 rw [rQ c 32 32 rfl,rQ c 9 9 rfl]
 unfold c8
 cases (c == 32) <;> rfl
theorem tS (c n:List UInt8) (i:Nat) (κ : BA->Bool->Option R) :
  (bif (!decide (B n=(⟨#[]⟩:BA))) then (bif (decide ((i:Int)<((B c).size:Int))) then (bW ((decide ((0:Int)<=(i:Int)))&&(decide ((i:Int)<((B c).size:Int)))) (κ (B n) ((ed (B c) (i:Int)) == 58))) else (κ (B n) false)) else (κ (B n) false))
   = κ (B n) (decide (n≠[])&&(c[i]? == some 58)):=by
 simp only [bu,dR,eI]
 by_cases hn:n=[]
 ·subst hn;rfl
 ·simp only [hn,decide_false,Bool.not_false,cond_true,ne_eq,not_false_eq_true,decide_true,Bool.true_and]
  by_cases hi:i<c.length
  ·simp (disch:=omega) only [aS,bq,au]
   rw [AA (List.getElem?_eq_getElem hi),rQ _ 58 58 rfl,List.getElem?_eq_getElem hi]
   rfl
  ·simp (disch:=omega) only [aO]
   rw [List.getElem?_eq_none (by omega)];rfl
theorem o8 (c n:List UInt8) (hs:c.length<=1000000) (κ : BA->Bool->Option R):∀ (f i:Nat),i<=c.length->c.length<i+f ->
  bt.L5 aR κ f (B c) (i:Int) (B n)=κ (B n) (decide (n≠[])&&(c[i+((c.drop i).takeWhile c8).length]? == some 58))
 | 0,i,h1,h2=>by omega
 | f+1,i,h1,h2=>by
  rw [bt.L5,bt.t5]
  simp only [tS]
  simp only [bu]
  cases hd:c.drop i with
  | nil =>
   have:=drop_nil hd
   simp (disch:=omega) only [aO]
   rfl
  | cons b r =>
   obtain ⟨g1,g2,g3⟩:=cW hd
   simp (disch:=omega) only [aS,bq,au,AA g1,nO,wrap_i64]
   rw [List.takeWhile_cons]
   cases hb:c8 b with
   | false=>rfl
   | true =>
    simp only [cond_true,Ei,if_true,List.length_cons]
    rw [o8 c n hs κ f (i+1) (by omega) (by omega),g3]
    congr 4;omega
theorem vP (c:UInt8):iG c=(decide ((c.toNat:Int)>32)&&(decide ((c.toNat:Int)<127)&&((c.toNat:Int) != 58))):=by
 rw [DQ c 58 58 rfl];unfold iG
 congr 1
 ·rw [decide_eq_decide];omega
 ·congr 1
  rw [decide_eq_decide];omega
theorem o7 (c:List UInt8) (hs:c.length<=1000000) (κ : BA->Bool->Option R):∀ (f i:Nat),i<=c.length->2*c.length+2<i+f->c.take i=(c.take i).takeWhile iG ->
  bt.L2 aR κ f (B c) (i:Int)=κ (B (gC c)) (fw c)
 | 0,i,h1,h2,h3=>by omega
 | f+1,i,h1,h2,h3=>by
  have fin:gC c=c.take i->bt.L5 aR κ f (B c) (i:Int) ((B c).extract ((0:Int)).toNat ((i:Int)).toNat)=κ (B (gC c)) (fw c):=by
   intro hn
   rw [da]
   simp only [Int.toNat_zero,List.drop_zero,Int.toNat_natCast]
   rw [o8 c _ hs κ f i h1 (by omega),hn]
   unfold fw jS
   have hl:(c.take i).length=i:=by simp;omega
   rw [hn,hl]
  rw [bt.L2,bt.t2]
  have hsplit:gC c=c.take i++(c.drop i).takeWhile iG:=by
   unfold gC
   conv=>lhs;rw [<- List.take_append_drop i c]
   rw [List.takeWhile_append_of_pos]
   rw [h3];intro a ha;exact List.all_eq_true.1 List.all_takeWhile a ha
  cases hd:c.drop i with
  | nil =>
   have:=drop_nil hd
   simp only [bu]
   simp (disch:=omega) only [aO,bq,au]
   exact fin (by rw [hsplit,hd];simp)
  | cons b r =>
   obtain ⟨g1,g2,g3⟩:=cW hd
   simp only [bu]
   simp (disch:=omega) only [aS,bq,au,AA g1,wrap_i64]
   have hb:iG b=false->gC c=c.take i:=by
    intro hb;rw [hsplit,hd,List.takeWhile_cons,hb];simp
   rw [vP] at hb
   cases e1:decide ((b.toNat:Int)>32) with
   | false=>exact fin (hb (by rw [e1];rfl))
   | true =>
    cases e2:decide ((b.toNat:Int)<127) with
    | false=>exact fin (hb (by rw [e1,e2];rfl))
    | true =>
     cases e3:((b.toNat:Int) != 58) with
     | false=>exact fin (hb (by rw [e1,e2,e3];rfl))
     | true =>
      have hb':iG b=true:=by rw [vP,e1,e2,e3];rfl
      exact o7 c hs κ f (i+1) (by omega) (by omega) (by
       rw [gl g1,List.takeWhile_append_of_pos (by rw [h3];intro a ha;exact List.all_eq_true.1 List.all_takeWhile a ha)]
       simp [hb'])
theorem qE (c:List UInt8) (hs:c.length<=1000000) (κ : BA->Bool->Option R) (f:Nat) (hf:2*c.length+2<f) :
  bt.e aR (B c) (bt.L2 aR κ f) (bt.L5 aR κ f) κ = κ (B (gC c)) (fw c) :=
 o7 c hs κ f 0 (by omega) (by omega) (by simp)
theorem wB (c:List UInt8) (hs:c.length<=1000000) (κ : BA->Bool->Option R):bt (B c) κ = κ (B (gC c)) (fw c) :=
 qE c hs κ aH (by unfold aH;omega)
def ln:List UInt8->Nat
 | []=>0
 | 13::10::_=>2
 | _::r=>1+ln r
theorem kz (r:List UInt8):ln (13::10::r)=2:=by rw [ln]
theorem qZ (c:UInt8) (r:List UInt8) (h:¬ (c=13/\r.head? = some 10)):ln (c::r)=1+ln r:=by
 rw [ln]
 rintro r' rfl rfl;exact h ⟨rfl,rfl⟩
theorem Ee (l:List UInt8):ln l<=l.length:=by
 fun_induction ln l with
 | case1=>simp
 | case2=>simp
 | case3 c r h ih=>simp;omega
theorem CZ (c:UInt8) (r:List UInt8):0<ln (c::r):=by
 by_cases h:c=13/\r.head? = some 10
 ·obtain ⟨rfl,h2⟩:=h
  cases r with
  | nil=>simp at h2
  | cons d r=>simp at h2;subst h2;rw [kz];omega
 ·rw [qZ _ _ h];omega
theorem xm (cur l:List UInt8):cR cur l=if cur++l=[] then [] else (cur++l.take (ln l))::cR [] (l.drop (ln l)):=by
 fun_induction cR cur l with
 | case1=>simp
 | case2 cur h=>simp [h,ln,cR]
 | case3 cur r ih=>simp [kz]
 | case4 cur c r h ih =>
  rw [ih,qZ c r (by rintro ⟨rfl,h2⟩;cases r with|nil=>simp at h2|cons d r=>simp at h2;subst h2;exact h r rfl rfl)]
  simp [Nat.add_comm 1]
theorem l8 (c:UInt8) (r:List UInt8):cR [] (c::r)=(c::r).take (ln (c::r))::cR [] ((c::r).drop (ln (c::r))):=by
 rw [xm,if_neg (by simp)];rfl
theorem eY (l:List UInt8):List.isPrefixOf [13,10] l=true ↔ ∃ r,l=13::10::r:=by
 rw [List.isPrefixOf_iff_prefix]
 exact ⟨fun ⟨t,h⟩=>⟨t,h.symm⟩,fun ⟨t,h⟩=>⟨t,h.symm⟩⟩
theorem rV (c:UInt8) (r:List UInt8):List.isPrefixOf [13,10] (c::r)=true ↔ (c=13/\r.head? = some 10):=by
 rw [eY]
 constructor
 ·rintro ⟨t,h⟩;cases h;exact ⟨rfl,rfl⟩
 ·rintro ⟨rfl,h⟩
  cases r with
  | nil=>simp at h
  | cons d r=>simp at h;subst h;exact ⟨r,rfl⟩
theorem sQ:∀ l:List UInt8,(Lib.index l [13,10] = -1/\ln l=l.length)∨(0<=Lib.index l [13,10]/\(ln l:Int)=Lib.index l [13,10]+2)
 | []=>Or.inl ⟨rfl,rfl⟩
 | c::r=>by
  by_cases h:c=13/\r.head? = some 10
  ·have hp:=(rV c r).2 h
   obtain ⟨r',hr⟩:=(eY _).1 hp
   rw [dN,if_pos hp,hr,kz]
   exact Or.inr ⟨by omega,by omega⟩
  ·have hp:¬ List.isPrefixOf [13,10] (c::r)=true:=fun e=>h ((rV c r).1 e)
   rw [dN,if_neg hp,qZ c r h]
   rcases sQ r with ⟨e1,e2⟩|⟨e1,e2⟩
   ·rw [e1];exact Or.inl ⟨rfl,by simp [e2];omega⟩
   ·have:(Lib.index r [13,10] == -1)=false:=by simp;omega
    rw [this]
    exact Or.inr ⟨by simp;omega,by simp;omega⟩
theorem q9 (l:List UInt8):l.take (ln l)=[13,10] ↔ List.isPrefixOf [13,10] l=true:=by
 rw [eY]
 constructor
 ·intro h
  refine ⟨l.drop (ln l),?_⟩
  conv=>lhs;rw [<- List.take_append_drop (ln l) l,h]
  rfl
 ·rintro ⟨r,rfl⟩;rw [kz];rfl
def du (l:List UInt8):List (List UInt8):=(cR [] l).takeWhile fun x=>x != [13,10]
theorem w7:du []=[]:=by unfold du;rw [cR];rfl
theorem uD {l:List UInt8} (h:List.isPrefixOf [13,10] l=true):du l=[]:=by
 obtain ⟨r,rfl⟩:=(eY l).1 h
 unfold du;rw [l8,kz];simp
theorem uC {c:UInt8} {r:List UInt8} (h:List.isPrefixOf [13,10] (c::r)=false):du (c::r)=(c::r).take (ln (c::r))::du ((c::r).drop (ln (c::r))):=by
 unfold du;rw [l8,List.takeWhile_cons]
 have:((c::r).take (ln (c::r)) != [13,10])=true:=by
  rw [bne_iff_ne];intro e;rw [q9,h] at e;cases e
 rw [this];simp
def eK:Bool->List UInt8->List (List UInt8)->List (List UInt8 × List UInt8 × Bool × Bool)
 | _,_,[]=>[]
 | fld,nm,c::r=>bif c8 (c.headD 0) then (c,nm,false,fld)::eK fld nm r else (c,gC c,fw c,fw c)::eK (fw c) (gC c) r
def dj (x:List UInt8 × List UInt8 × Bool × Bool):AV := .agg [.str (B x.1),.str (B x.2.1),.bool x.2.2.1,.bool x.2.2.2]
theorem rz (κ : LA->Option R):∀ (f:Nat) (h:List UInt8) (fld:Bool) (nm:List UInt8) (acc:List (List UInt8 × List UInt8 × Bool × Bool)),h.length<f->acc.length+h.length<=1000000 ->
  bj.L3 aU aE aR bt κ f (B h) fld (B nm) (acc.map dj)=κ ((acc++eK fld nm (du h)).map dj)
 | 0,h,fld,nm,acc,h1,h2=>by omega
 | f+1,h,fld,nm,acc,h1,h2=>by
  rw [bj.L3,bj.t3]
  rw [show (⟨#[13,10]⟩:BA)=B [13,10] from rfl,dR]
  simp only [eI,nJ,nL h [13,10] (by omega)]
  cases h with
  | nil=>rw [w7];simp [eK]
  | cons c r =>
   simp only [reduceCtorEq,decide_false,Bool.not_false,cond_true]
   cases hp:List.isPrefixOf [13,10] (c::r) with
   | true=>rw [uD hp];simp [eK]
   | false =>
    rw [uC hp]
    have hle:=Ee (c::r)
    have hpos:=CZ c r
    have key:∀ (n:Int),n=(ln (c::r):Int) ->
      (bW ((decide ((0:Int)<=n))&&(decide (n<=((B (c::r)).size:Int)))) (bW (decide ((0:Int)<((B (c::r)).size:Int))) (aR (ed (B (c::r)) 0) (fun r11=>(bif (!r11) then (bt ((B (c::r)).extract ((0:Int)).toNat (n).toNat) (fun r12 r13=>(bW (decide (((acc.map dj).length+1)*40<=140737488355328)) (bW ((decide ((0:Int)<=n))&&((decide (n<=((B (c::r)).size:Int)))&&(decide (((B (c::r)).size:Int)<=((B (c::r)).size:Int))))) (bj.L3 aU aE aR bt κ f ((B (c::r)).extract (n).toNat (((B (c::r)).size:Int)).toNat) r13 r12 ((acc.map dj)++[AV.agg [AV.str ((B (c::r)).extract ((0:Int)).toNat (n).toNat),AV.str r12,AV.bool r13,AV.bool r13]])))))) else (bW (decide (((acc.map dj).length+1)*40<=140737488355328)) (bW ((decide ((0:Int)<=n))&&((decide (n<=((B (c::r)).size:Int)))&&(decide (((B (c::r)).size:Int)<=((B (c::r)).size:Int))))) (bj.L3 aU aE aR bt κ f ((B (c::r)).extract (n).toNat (((B (c::r)).size:Int)).toNat) fld (B nm) ((acc.map dj)++[AV.agg [AV.str ((B (c::r)).extract ((0:Int)).toNat (n).toNat),AV.str (B nm),AV.bool false,AV.bool fld]])))))))))
      = κ ((acc++eK fld nm ((c::r).take (ln (c::r))::du ((c::r).drop (ln (c::r))))).map dj):=by
     intro n hn
     subst hn
     have hb:ed (B (c::r)) 0=c.toNat:=AA (i:=0) rfl
     have hlen:(c::r).length=r.length+1:=rfl
     simp only [bu,List.length_map,hb,nO]
     simp (disch:=omega) only [bq,au]
     simp only [da,Int.toNat_natCast,Int.toNat_zero,List.drop_zero,List.take_length]
     rw [eK]
     have hd:((c::r).take (ln (c::r))).headD 0=c:=by
      obtain ⟨m,hm⟩:∃ m,ln (c::r)=m+1:=⟨ln (c::r)-1,by omega⟩
      rw [hm];rfl
     rw [hd]
     have hdl:((c::r).drop (ln (c::r))).length<f:=by rw [List.length_drop];omega
     cases hbl:c8 c with
     | true =>
      simp only [Bool.not_true,cond_false,cond_true]
      rw [show (acc.map dj)++[AV.agg [AV.str (B ((c::r).take (ln (c::r)))),AV.str (B nm),AV.bool false,AV.bool fld]]=(acc++[((c::r).take (ln (c::r)),nm,false,fld)]).map dj by simp [dj]]
      rw [rz κ f _ fld nm _ hdl (by simp;omega)]
      simp
     | false =>
      simp only [Bool.not_false,cond_false,cond_true]
      rw [wB _ (by rw [List.length_take];omega)]
      rw [show (acc.map dj)++[AV.agg [AV.str (B ((c::r).take (ln (c::r)))),AV.str (B (gC ((c::r).take (ln (c::r))))),AV.bool (fw ((c::r).take (ln (c::r)))),AV.bool (fw ((c::r).take (ln (c::r))))]]=(acc++[((c::r).take (ln (c::r)),gC ((c::r).take (ln (c::r))),fw ((c::r).take (ln (c::r))),fw ((c::r).take (ln (c::r))))]).map dj by simp [dj]]
      rw [rz κ f _ _ _ _ hdl (by simp;omega)]
      simp
    simp only [Bool.not_false,cond_true]
    rcases sQ (c::r) with ⟨e1,e2⟩|⟨e1,e2⟩
    ·rw [e1]
     rw [aO (by omega)]
     exact key _ (by rw [bu,e2])
    ·have hw:IntKind.wrap .i64 (Lib.index (c::r) [13,10]+2)=(ln (c::r):Int):=by rw [<- e2];exact wrap_i64 (by omega) (by omega)
     rw [aS (by omega)]
     exact key _ hw
theorem va (h:List UInt8) (hs:h.length<=1000000) (κ : LA->Option R) (f:Nat) (hf:h.length<f) :
  bj.e aU aE aR bt (B h) (bj.L3 aU aE aR bt κ f) κ = κ ((eK false [] (du h)).map dj) :=
 rz κ f h false [] [] hf (by simp;omega)
theorem Bk (h:List UInt8) (hs:h.length<=1000000) (κ : LA->Option R):bj (B h) κ = κ ((eK false [] (du h)).map dj) :=
 va h hs κ aH (by unfold aH;omega)
def eA (p:UInt8->Bool) (l:List UInt8):List UInt8:=(l.reverse.dropWhile p).reverse
theorem rA (p:UInt8->Bool) (l:List UInt8) (c:UInt8):eA p (l++[c])=if p c then eA p l else l++[c]:=by
 unfold eA
 rw [List.reverse_append,List.reverse_singleton,List.singleton_append,List.dropWhile_cons]
 split <;> simp
theorem xB {p:UInt8->Bool}:∀ {l:List UInt8},(∀ a∈l,p a=true)->eA p l=[]:=by
 intro l h
 unfold eA
 rw [nq.2 (by intro a ha;exact h a (List.mem_reverse.1 ha))];rfl
theorem kM {p:UInt8->Bool} (a:List UInt8) {c:UInt8} (d:List UInt8) (hc:p c=false):eA p (a++c::d)=a++eA p (c::d):=by
 unfold eA
 rw [List.reverse_append,List.reverse_cons,List.append_assoc]
 simp only [List.dropWhile_append]
 split
 ·simp [hc]
 ·simp
theorem ot {p:UInt8->Bool} {c:UInt8} (d:List UInt8) (hc:p c=false):∃ e,eA p (c::d)=c::e:=by
 refine ⟨eA p (c::d) |>.tail,?_⟩
 have:=kM (p:=p) [] (c:=c) d hc
 unfold eA at this ⊢
 rw [List.reverse_cons,List.dropWhile_append]
 split
 ·simp [hc]
 ·simp
def dl (l:List UInt8):List UInt8:=eA c8 (l.dropWhile c8)
theorem xM (p:UInt8->Bool) (l:List UInt8):(eA p l).dropWhile p=eA p (l.dropWhile p):=by
 have hs:l=l.takeWhile p++l.dropWhile p:=List.takeWhile_append_dropWhile.symm
 cases hd:l.dropWhile p with
 | nil =>
  have:∀ a∈l,p a=true:=nq.1 hd
  rw [xB this];rfl
 | cons c d =>
  have hc:p c=false:=by
   have:=List.head?_dropWhile_not p l
   rw [hd] at this;simpa using this
  conv=>lhs;rw [hs,hd,kM _ _ hc]
  obtain ⟨e,he⟩:=ot (p:=p) d hc
  rw [List.dropWhile_append_of_pos (by intro a ha;exact List.all_eq_true.1 List.all_takeWhile a ha),he,List.dropWhile_cons,hc]
  simp
theorem uI {l:List UInt8} (h:l≠[]):∃ t c,l=t++[c]:=⟨l.dropLast,l.getLast h,(List.dropLast_concat_getLast h).symm⟩
def m4:LA:=dW (dW (List.replicate 256 (AV.bool false)) 32 (AV.bool true)) 9 (AV.bool true)
theorem wE:(List.range 256).all (fun n=>(bZ m4 (n:Int)).b == c8 (UInt8.ofNat n))=true:=by kernel_rfl
theorem contains_eq (c:UInt8) (κ : Bool->Option R):ai m4 (c.toNat:Int) κ = κ (c8 c):=by
 unfold ai ai.e
 have hlt:=mL c
 simp (disch:=omega) only [bq,au]
 have:=List.all_eq_true.1 wE c.toNat (List.mem_range.2 hlt)
 rw [beq_iff_eq] at this
 rw [this,UInt8.ofNat_toNat]
theorem uT (κ : LA->Bool->Option R):bG (⟨#[32,9]⟩:BA) κ = κ m4 true:=by kernel_rfl
theorem tI (κ : BA->Option R):∀ (f:Nat) (l:List UInt8),l.length<f->l.length<=1000000->ba.L1 ai κ f (B l) m4=κ (B (eA c8 l))
 | 0,l,h,hs=>by omega
 | f+1,l,h,hs=>by
  rw [ba.L1,ba.t1]
  simp only [bu]
  by_cases hl:l=[]
  ·subst hl;rfl
  ·obtain ⟨t,c,rfl⟩:=uI hl
   have hlen:(t++[c]).length=t.length+1:=by simp
   have hw:IntKind.wrap .i64 (((t++[c]).length:Int)-1)=(t.length:Int):=by rw [hlen,wrap_i64 (by omega) (by omega)];omega
   have hg:(t++[c])[t.length]? = some c:=by simp
   simp only [hw]
   simp (disch:=omega) only [aS,bq,au,AA hg,contains_eq]
   rw [rA]
   cases hb:c8 c with
   | false=>simp
   | true =>
    simp only [Bool.not_true,cond_false,if_true,da,Int.toNat_zero,Int.toNat_natCast,List.drop_zero]
    rw [List.take_left' rfl]
    exact tI κ f t (by omega) (by omega)
theorem qo (κ : BA->Option R):∀ (f:Nat) (l:List UInt8),l.length<f->l.length<=1000000->bb.L1 ai κ f (B l) m4=κ (B (l.dropWhile c8))
 | 0,l,h,hs=>by omega
 | f+1,l,h,hs=>by
  rw [bb.L1,bb.t1]
  simp only [bu]
  cases l with
  | nil=>rfl
  | cons c r =>
   have hlen:(c::r).length=r.length+1:=rfl
   have hb:ed (B (c::r)) 0=c.toNat:=AA (i:=0) rfl
   simp (disch:=omega) only [aS,bq,au,hb,contains_eq]
   rw [List.dropWhile_cons]
   cases hbl:c8 c with
   | false=>rfl
   | true =>
    simp only [Bool.not_true,cond_false,if_true,da,Int.toNat_natCast,List.take_length]
    exact qo κ f r (by omega) (by omega)
theorem tJ (l:List UInt8) (hs:l.length<=1000000) (κ : BA->Option R) (f:Nat) (hf:l.length<f) :
  ba.e ai (B l) m4 (ba.L1 ai κ f) κ = κ (B (eA c8 l)):=tI κ f l hf hs
theorem rF (l:List UInt8) (hs:l.length<=1000000) (κ : BA->Option R) (f:Nat) (hf:l.length<f) :
  bb.e ai (B l) m4 (bb.L1 ai κ f) κ = κ (B (l.dropWhile c8)):=qo κ f l hf hs
theorem qd (p:UInt8->Bool) (l:List UInt8):(eA p l).length<=l.length:=by
 unfold eA
 rw [List.length_reverse]
 have:=(List.dropWhile_sublist p (l:=l.reverse)).length_le
 simpa using this
theorem ov (l:List UInt8) (hs:l.length<=1000000) (κ : BA->Option R):bo (B l) (⟨#[32,9]⟩:BA) κ = κ (B (dl l)):=by
 unfold bo bo.e
 rw [show decide ((⟨#[32,9]⟩:BA)=(⟨#[]⟩:BA))=false from by decide]
 simp only [uT,cond_false]
 by_cases hl:l=[]
 ·subst hl;rfl
 ·rw [decide_eq_false (show ¬ B l=(⟨#[]⟩:BA) from fun e=>hl (eI.1 e))]
  simp only [cond_false]
  rw [show (((⟨#[32,9]⟩:BA).size:Int) == 1)=false from rfl]
  simp only [cond_false,cond_true]
  have hr:=qd c8 l
  unfold ba bb
  rw [tJ l hs _ aH (by unfold aH;omega),rF _ (by omega) _ aH (by unfold aH;omega),xM]
  rfl
def dY (c:List UInt8):List UInt8:=if c.drop (c.length-2)=[13,10] then c.take (c.length-2) else c
theorem iy (c:List UInt8):(dY c).length<=c.length:=by unfold dY;split <;> simp
theorem jq (c:List UInt8) (hs:c.length<=1000000) (κ : BA->Option R):aI (B c) (⟨#[13,10]⟩:BA) κ = κ (B (dY c)):=by
 unfold aI aI.e bU bU.e bz bz.e
 rw [show (⟨#[13,10]⟩:BA)=B [13,10] from rfl]
 have h2:([13,10]:List UInt8).length=2:=rfl
 simp only [bu,h2,da,eI]
 unfold dY
 by_cases h:2<=c.length
 ·have hw:IntKind.wrap .i64 ((c.length:Int)-((2:Nat):Int))=((c.length-2:Nat):Int):=by rw [wrap_i64 (by omega) (by omega)];omega
  simp only [hw,Int.toNat_natCast]
  simp (disch:=omega) only [aS,bq,au]
  simp only [List.take_length,Int.toNat_zero,List.drop_zero]
  by_cases e:c.drop (c.length-2)=[13,10]
  ·rw [aS e,if_pos e]
  ·rw [aO e,if_neg e]
 ·have e:c.drop (c.length-2)≠[13,10]:=by intro e;have:=congrArg List.length e;rw [List.length_drop] at this;simp at this;omega
  simp (disch:=omega) only [aO,cond_false]
  rw [if_neg e]
abbrev Fl:=List UInt8 × List UInt8 × List UInt8
def vB (x:Fl):AV := .agg [.str (B x.1),.str (B x.2.1),.str (B x.2.2)]
theorem EY (x:Fl):((vB x).fld 1).s=B x.2.1:=rfl
def fresh (c:List UInt8):Fl:=bif fw c then (gC c,dY (c.drop (jS c+1)),c) else ([],[],c)
def ext (x:Fl) (c:List UInt8):Fl:=(x.1,x.2.1++dY c,x.2.2++c)
def cP:Option Fl->List (List UInt8)->List Fl
 | none,[]=>[]
 | some x,[]=>[x]
 | none,c::r=>cP (some (fresh c)) r
 | some x,c::r=>bif c8 (c.headD 0) then cP (some (ext x c)) r else x::cP (some (fresh c)) r
theorem xd {c:UInt8} {r:List UInt8} (h:c8 c=true):fw (c::r)=false:=by
 unfold fw gC
 have:iG c=false:=by
  unfold c8 at h
  rw [Bool.or_eq_true,beq_iff_eq,beq_iff_eq] at h
  rcases h with rfl|rfl <;> rfl
 rw [List.takeWhile_cons,this];simp
theorem zc {c:List UInt8} (h:fw c=true):c[jS c]? = some 58:=by
 unfold fw at h;rw [Bool.and_eq_true,beq_iff_eq] at h;exact h.2
theorem CF {c:List UInt8} (h:fw c=true):gC c≠[]:=by
 unfold fw at h;rw [Bool.and_eq_true,decide_eq_true_eq] at h;exact h.1
theorem CE {c:List UInt8} (h:fw c=true):jS c<c.length:=(List.getElem?_eq_some_iff.1 (zc h)).1
theorem C3 (c:List UInt8):(gC c).length<=c.length:=(List.takeWhile_prefix iG (l:=c)).length_le
def named (l:List Fl):List Fl:=l.filter fun x=>x.1 != []
def ik (x:Fl):Fl:=(x.1,dl x.2.1,x.2.2)
theorem iW:∀ (ls:List (List UInt8)) (cur:Option Fl) (n:Nat),(∀ x,cur=some x->x.2.1.length+total ls<=n)->total ls<=n->∀ x∈cP cur ls,x.2.1.length<=n
 | [],none,n,h,h2,x,hx=>by rw [cP] at hx;cases hx
 | [],some y,n,h,h2,x,hx=>by
  rw [cP,List.mem_singleton] at hx;subst hx
  have:=h x rfl;simp only [total] at this;omega
 | c::r,none,n,h,h2,x,hx=>by
  rw [cP] at hx
  refine iW r _ n ?_ (by simp only [total] at h2;omega) x hx
  intro y e;cases e
  simp only [total] at h2
  have:(fresh c).2.1.length<=c.length:=by
   unfold fresh
   cases fw c with
   | false=>simp
   | true=>have:=iy (c.drop (jS c+1));rw [List.length_drop] at this;show (dY _).length<=_;omega
  omega
 | c::r,some y,n,h,h2,x,hx=>by
  have hy:=h y rfl
  simp only [total] at h2 hy
  rw [cP] at hx
  have hf:(fresh c).2.1.length<=c.length:=by
   unfold fresh
   cases fw c with
   | false=>simp
   | true=>have:=iy (c.drop (jS c+1));rw [List.length_drop] at this;show (dY _).length<=_;omega
  cases hb:c8 (c.headD 0) with
  | true =>
   rw [hb,cond_true] at hx
   refine iW r _ n ?_ (by omega) x hx
   intro z e;cases e
   have:=iy c
   have:(ext y c).2.1.length=y.2.1.length+(dY c).length:=by unfold ext;simp
   omega
  | false =>
   rw [hb,cond_false,List.mem_cons] at hx
   rcases hx with rfl|hx
   ·omega
   ·refine iW r _ n ?_ (by omega) x hx
    intro z e;cases e;omega
theorem ij (p:List UInt8->Bool):∀ l:List (List UInt8),total (l.takeWhile p)<=total l
 | []=>by simp
 | c::r=>by
  rw [List.takeWhile_cons]
  have:=ij p r
  split <;> simp only [total] <;> omega
def ee (h:List UInt8):List Fl:=((named (cP none (du h))).map ik).take 64
theorem w6 (h:List UInt8):(du h).length<=h.length+1:=by
 have h1:=uM h
 have h2:(du h).length<=(cR [] h).length:=(List.takeWhile_sublist _).length_le
 omega
theorem l7 (h:List UInt8):total (du h)<=h.length:=by
 have h1:=ky [] h
 have h2:total (du h)<=total (cR [] h):=ij _ _
 simp at h1;omega
theorem oT (l:List UInt8) (κ : Int->Option R):av (B l) 58 κ = κ (Lib.indexByte l 58):=rfl
theorem lX {c:List UInt8} {k:Nat} (h:k<jS c):c[k]? ≠ some 58:=by
 unfold jS at h
 by_cases hk:k<(gC c).length
 ·obtain ⟨x,h1,h2⟩:=jp (p:=iG) hk
  rw [h1];intro e;cases e;exact absurd h2 (by decide)
 ·obtain ⟨x,h1,h2⟩:=jp (p:=c8) (l:=c.drop (gC c).length) (k:=k-(gC c).length) (by omega)
  rw [List.getElem?_drop,show (gC c).length+(k-(gC c).length)=k by omega] at h1
  rw [h1];intro e;cases e;exact absurd h2 (by decide)
theorem Ay {c:List UInt8} (h:fw c=true):Lib.indexByte (dY c) 58=(jS c:Int)/\jS c+1<=(dY c).length/\(dY c).drop (jS c+1)=dY (c.drop (jS c+1)):=by
 have h1:=zc h
 have h2:=CE h
 unfold dY
 by_cases e:c.drop (c.length-2)=[13,10]
 ·have hl:2<=c.length:=by have:=congrArg List.length e;rw [List.length_drop] at this;simp at this;omega
  have g0:c[c.length-2]? = some 13:=(cW e).1
  have g1:c[c.length-2+1]? = some 10:=(cW (cW e).2.2).1
  have hlt:jS c<c.length-2:=by
   rcases Nat.lt_trichotomy (jS c) (c.length-2) with hlt|heq|hgt
   ·exact hlt
   ·rw [heq,g0] at h1;cases h1
   ·have:jS c=c.length-2+1:=by omega
    rw [this,g1] at h1;cases h1
  rw [if_pos e]
  refine ⟨ko (by rw [List.getElem?_take,if_pos hlt,h1]) (fun k hk=>by rw [List.getElem?_take,if_pos (by omega)];exact lX hk),by rw [List.length_take];omega,?_⟩
  have hl2:(c.drop (jS c+1)).length-2=c.length-2-(jS c+1):=by rw [List.length_drop];omega
  rw [if_pos (by rw [hl2,List.drop_drop,show jS c+1+(c.length-2-(jS c+1))=c.length-2 by omega];exact e),hl2,List.drop_take]
 ·rw [if_neg e]
  refine ⟨ko h1 (fun k hk=>lX hk),h2,?_⟩
  rw [if_neg]
  intro e2
  have hl:2<=(c.drop (jS c+1)).length:=by have:=congrArg List.length e2;rw [List.length_drop] at this;simp at this ⊢;omega
  apply e
  rw [List.drop_drop] at e2
  rw [List.length_drop] at e2 hl
  rw [show jS c+1+(c.length-(jS c+1)-2)=c.length-2 by omega] at e2
  exact e2
def wT (x:Fl):AV := .agg [.str (B x.1),.str (B []),.str (B x.2.2)]
def xU (x:Fl):AV := .str (B x.2.1)
abbrev sO (κ : LA->Option R):=aT.L4 bj bo aI av κ
abbrev xk (κ : LA->Option R):=aT.L8 bj bo aI av κ
abbrev nT (κ : LA->Option R):=aT.B6 bj bo aI av κ
abbrev kw (κ : LA->Option R):=aT.je bj bo aI av κ
abbrev sN (κ : LA->Option R):=aT.Dv bj bo aI av κ
theorem pN (κ : LA->Option R) (f:Nat) (n i:Int) (a b c:LA):sO κ (f+1) n i a b c=aT.t4 (xk κ f) (kw κ f) (sN κ f) n i a b c:=by
 try unfold sO
 try unfold xk
 try unfold nT
 try unfold kw
 try unfold sN
 try unfold aT.L4
 try unfold aT.L8
 try unfold aT.B6
 try unfold aT.je
 rw [aT.M4]
theorem pO (κ : LA->Option R) (f:Nat) (n i:Int) (a b:LA) (s m:BA) (x y:Bool) (c:LA):xk κ (f+1) n i a b s m x y c=aT.t8 aI av (nT κ f) n i a b s m x y c:=by
 try unfold sO
 try unfold xk
 try unfold nT
 try unfold kw
 try unfold aT.L4
 try unfold aT.L8
 try unfold aT.B6
 try unfold aT.je
 rw [aT.M4]
theorem uL (κ : LA->Option R) (f:Nat) (w:BA) (n i:Int) (a b:LA) (s m:BA) (x y:Bool) (c:LA):nT κ (f+1) w n i a b s m x y c=aT.t13 (kw κ f) w n i a b s m x y c:=by
 try unfold sO
 try unfold xk
 try unfold nT
 try unfold kw
 try unfold aT.L4
 try unfold aT.L8
 try unfold aT.B6
 try unfold aT.je
 rw [aT.M4]
theorem gY (κ : LA->Option R) (f:Nat) (n i:Int) (a b c:LA):kw κ (f+1) n i a b c=sO κ f n (IntKind.wrap .i64 (i+1)) a b c:=by
 unfold sO kw aT.L4 aT.je
 rw [aT.M4];rfl
theorem Ec (κ : LA->Option R) (f:Nat) (txt w nm raw c:List UInt8) (n i:Int) (xs vs:LA) (m:BA) (x y:Bool) (rs:LA) (hn:xs.length<=1000000) (hv:vs.length=xs.length) (h1:raw.length+c.length<=2000000) (h2:w.length+txt.length<=2000000) :
  nT κ (f+1) (B txt) n i (xs++[wT (nm,w,raw)]) (vs++[.str (B w)]) (B c) m x y rs=kw κ f n i (xs++[wT (nm,w++txt,raw++c)]) (vs++[.str (B (w++txt))]) rs:=by
 rw [uL,aT.t13]
 have hw:∀ a:AV,IntKind.wrap .i64 (((xs++[a]).length:Int)-1)=((xs.length:Nat):Int):=by
  intro a;rw [List.length_append,List.length_singleton,wrap_i64 (by omega) (by omega)];omega
 have sl:∀ a b:AV,dW (xs++[a]) (xs.length:Int) b=xs++[b]:=fun a b=>kO _ a b [] _ rfl
 have slv:∀ a b:AV,dW (vs++[a]) (xs.length:Int) b=vs++[b]:=fun a b=>kO _ a b [] _ hv
 have rv:∀ a:AV,bZ (vs++[a]) (xs.length:Int)=a:=fun a=>zN _ a [] _ hv
 have f0:∀ a b c:AV,(AV.agg [a,b,c]).fld 0=a:=fun _ _ _=>rfl
 have f1:∀ a b c:AV,(AV.agg [a,b,c]).fld 1=b:=fun _ _ _=>rfl
 have f2:∀ a b c:AV,(AV.agg [a,b,c]).fld 2=c:=fun _ _ _=>rfl
 have fs:∀ a,(AV.str a).s=a:=fun _=>rfl
 simp only [hw,sl,slv,rv,zP,wT,f0,f1,f2,fs,ct,bu]
 simp only [List.length_append,List.length_singleton]
 simp (disch:=omega) only [bq,au]
theorem CY (κ : LA->Option R) (fs:List Fl) (hn:fs.length<=1000000) (hv:∀ x∈fs,x.2.1.length<=1000000):∀ (f i:Nat),i<=fs.length->fs.length<i+f ->
  sN κ f (fs.length:Int) (i:Int) (((fs.map ik).take i).map vB++(fs.drop i).map wT) (fs.map xU)=κ ((fs.map ik).map vB)
 | 0,i,h1,h2=>by omega
 | f+1,i,h1,h2=>by
  unfold sN
  rw [aT.Dv,aT.t17]
  have hl:(((fs.map ik).take i).map vB).length=i:=by simp;omega
  cases hd:fs.drop i with
  | nil =>
   have:=drop_nil hd
   simp (disch:=omega) only [aO,List.map_nil,List.append_nil]
   rw [List.take_of_length_le (by simp;omega)]
  | cons x r =>
   obtain ⟨g1,g2,g3⟩:=cW hd
   have hwi:IntKind.wrap .i64 ((i:Int)+1)=((i+1:Nat):Int):=wrap_i64 (by omega) (by omega)
   have hx:bZ (fs.map xU) (i:Int)=xU x:=eh (by rw [List.getElem?_map,g1];rfl)
   have hlen2:(((fs.map ik).take i).map vB++(x::r).map wT).length=fs.length:=by
    rw [List.length_append,hl,List.length_map,<- hd,List.length_drop];omega
   have f0:((wT x).fld 0) = .str (B x.1):=rfl
   have f2:((wT x).fld 2) = .str (B x.2.2):=rfl
   have fs':∀ a,(AV.str a).s=a:=fun _=>rfl
   simp only [hlen2,List.length_map,hx,xU,fs',hwi]
   rw [List.map_cons,zN _ _ _ _ hl,f0,f2]
   simp only [fs']
   simp (disch:=omega) only [aS,bq,au]
   rw [ov _ (hv x (List.mem_of_getElem? g1)),kO _ _ _ _ _ hl]
   have:=CY κ fs hn hv f (i+1) (by omega) (by omega)
   rw [g3] at this
   rw [<- this]
   have e:(fs.map ik).take (i+1)=(fs.map ik).take i++[ik x]:=gl (by rw [List.getElem?_map,g1];rfl)
   rw [e]
   simp [vB,ik,xU]
def nS:List Fl->Option Fl->List (List UInt8)->List Fl
 | d,cur,[]=>d++cur.toList
 | d,cur,c::r=>bif c8 (c.headD 0) then nS d (cur.map fun x=>ext x c) r else bif fw c then (if (d++cur.toList).length=64 then d++cur.toList else nS (d++cur.toList) (some (fresh c)) r) else nS (d++cur.toList) none r
theorem kx (κ : LA->Option R) (rs:List (List UInt8 × List UInt8 × Bool × Bool)) (hn:rs.length<=1000000):∀ (rest:List (List UInt8)) (f i:Nat) (d:List Fl) (cur:Option Fl) (nm:List UInt8),
  i<=rs.length->rs.drop i=eK cur.isSome nm rest->4*rs.length+200<4*i+f->(d++cur.toList).length<=64->total rest<=1000000->(∀ x∈d,x.2.1.length<=1000000) ->
  (∀ x,cur=some x->x.2.1.length<=x.2.2.length/\x.2.2.length+total rest<=1000000) ->
  sO κ f (rs.length:Int) (i:Int) ((d++cur.toList).map wT) ((d++cur.toList).map xU) (rs.map dj)=κ (((nS d cur rest).map ik).map vB)
 | [],f,i,d,cur,nm,hi,hd,hf,h64,ht,hv,hc=>by
  have hi2:rs.length<=i:=drop_nil (by rw [hd];rfl)
  obtain ⟨f,rfl⟩:∃ g,f=g+1:=⟨f-1,by omega⟩
  rw [pN,aT.t4]
  simp only [List.length_map]
  simp (disch:=omega) only [aO]
  rw [nS]
  exact CY κ (d++cur.toList) (by omega) (by
   intro x hx
   rw [List.mem_append] at hx
   rcases hx with hx|hx
   ·exact hv x hx
   ·cases cur with
    | none=>simp at hx
    | some y=>simp at hx;subst hx;have:=hc x rfl;omega) f 0 (by omega) (by omega)
 | c::r,f,i,d,cur,nm,hi,hd,hf,h64,ht,hv,hc=>by
  obtain ⟨f,rfl⟩:∃ g,f=g+4:=⟨f-4,by
   have:0<(rs.drop i).length:=by rw [hd,eK];cases c8 (c.headD 0) <;> simp
   rw [List.length_drop] at this;omega⟩
  have hvv:∀ x∈d++cur.toList,x.2.1.length<=1000000:=by
   intro x hx
   rw [List.mem_append] at hx
   rcases hx with hx|hx
   ·exact hv x hx
   ·cases cur with
    | none=>simp at hx
    | some y=>simp at hx;subst hx;have:=hc x rfl;omega
  have htt:total (c::r)=c.length+total r:=rfl
  have hbl:=iy c
  have hlm:(rs.map dj).length=rs.length:=List.length_map ..
  have hl1:((d++cur.toList).map wT).length=(d++cur.toList).length:=List.length_map ..
  have hl2:((d++cur.toList).map xU).length=(d++cur.toList).length:=List.length_map ..
  have hdl:d.length<=(d++cur.toList).length:=by rw [List.length_append];omega
  rw [nS,pN,aT.t4,hlm]
  cases hb:c8 (c.headD 0) with
  | true =>
   have hd':rs.drop i=(c,nm,false,cur.isSome)::eK cur.isSome nm r:=by rw [hd,eK,hb];rfl
   obtain ⟨g1,g2,g3⟩:=cW hd'
   have hwi:IntKind.wrap .i64 ((i:Int)+1)=((i+1:Nat):Int):=wrap_i64 (by omega) (by omega)
   have hrow:bZ (rs.map dj) (i:Int)=dj (c,nm,false,cur.isSome):=eh (by rw [List.getElem?_map,g1];rfl)
   have r0:((dj (c,nm,false,cur.isSome)).fld 0).s=B c:=rfl
   have r1:((dj (c,nm,false,cur.isSome)).fld 1).s=B nm:=rfl
   have r2:((dj (c,nm,false,cur.isSome)).fld 2).b=false:=rfl
   have r3:((dj (c,nm,false,cur.isSome)).fld 3).b=cur.isSome:=rfl
   simp only [hrow,r0,r1,r2,r3,cond_false]
   simp (disch:=omega) only [aS,bq,au,cond_true]
   cases cur with
   | none =>
    simp only [Option.isSome_none,Bool.not_false,cond_true,Option.map_none]
    rw [gY,hwi]
    exact kx κ rs hn r (f+2) (i+1) d none nm (by omega) g3 (by omega) h64 (by omega) hv (by intro x e;cases e)
   | some x =>
    obtain ⟨hx1,hx2⟩:=hc x rfl
    simp only [Option.isSome_some,Bool.not_true,cond_false,Option.map_some]
    rw [pO,aT.t8,jq c (by omega)]
    simp only [cond_false]
    have e1:(d++(some x).toList).map wT=d.map wT++[wT (x.1,x.2.1,x.2.2)]:=by simp
    have e2:(d++(some x).toList).map xU=d.map xU++[.str (B x.2.1)]:=by simp [xU]
    rw [e1,e2,Ec κ (f+1) (dY c) x.2.1 x.1 x.2.2 c _ _ _ _ _ _ _ _ (by rw [List.length_map];omega) (by simp) (by omega) (by omega),gY,hwi]
    have ex:(ext x c).2.2.length=x.2.2.length+c.length:=by unfold ext;simp
    have ex1:(ext x c).2.1.length=x.2.1.length+(dY c).length:=by unfold ext;simp
    have:=kx κ rs hn r f (i+1) d (some (ext x c)) nm (by omega) g3 (by omega) (by simpa using h64) (by omega) hv (by intro y e;cases e;exact ⟨by omega,by omega⟩)
    rw [<- this]
    simp [ext,xU]
  | false =>
   have hd':rs.drop i=(c,gC c,fw c,fw c)::eK (fw c) (gC c) r:=by rw [hd,eK,hb];rfl
   obtain ⟨g1,g2,g3⟩:=cW hd'
   have hwi:IntKind.wrap .i64 ((i:Int)+1)=((i+1:Nat):Int):=wrap_i64 (by omega) (by omega)
   have hrow:bZ (rs.map dj) (i:Int)=dj (c,gC c,fw c,fw c):=eh (by rw [List.getElem?_map,g1];rfl)
   have r0:((dj (c,gC c,fw c,fw c)).fld 0).s=B c:=rfl
   have r1:((dj (c,gC c,fw c,fw c)).fld 1).s=B (gC c):=rfl
   have r2:((dj (c,gC c,fw c,fw c)).fld 2).b=fw c:=rfl
   have r3:((dj (c,gC c,fw c,fw c)).fld 3).b=fw c:=rfl
   simp only [hrow,r0,r1,r2,r3,cond_false]
   simp (disch:=omega) only [aS,bq,au,cond_true]
   cases hF:fw c with
   | false =>
    simp only [Bool.not_false,cond_true,cond_false]
    rw [gY,hwi]
    rw [hF] at g3
    have:=kx κ rs hn r (f+2) (i+1) (d++cur.toList) none (gC c) (by omega) g3 (by omega) (by simpa using h64) (by omega) hvv (by intro x e;cases e)
    simpa using this
   | true =>
    rw [hF] at g3
    simp only [Bool.not_true,cond_true,cond_false,hl1]
    by_cases h6:(d++cur.toList).length=64
    ·rw [if_pos h6,mJ (by omega)]
     simp only [cond_true]
     exact CY κ (d++cur.toList) (by omega) hvv (f+3) 0 (by omega) (by omega)
    ·rw [if_neg h6,mI (by omega)]
     simp only [cond_false]
     obtain ⟨k1,k2,k3⟩:=Ay hF
     rw [pO,aT.t8,jq c (by omega)]
     have hw58:IntKind.wrap .i64 ((jS c:Int)+1)=((jS c+1:Nat):Int):=wrap_i64 (by omega) (by omega)
     simp only [cond_true,oT,k1,hw58,bu,hl1,hl2]
     simp (disch:=omega) only [bq,au]
     simp only [da,Int.toNat_natCast,List.take_length,k3]
     have e1:AV.agg [AV.str (B (gC c)),AV.str (⟨#[]⟩:BA),AV.str (⟨#[]⟩:BA)]=wT (gC c,[],[]):=rfl
     have e2:AV.str (⟨#[]⟩:BA) = .str (B []):=rfl
     have hvl:=iy (c.drop (jS c+1))
     rw [List.length_drop] at hvl
     rw [e1,e2,Ec κ (f+1) _ [] (gC c) [] c _ _ _ _ _ _ _ _ (by omega) (by simp) (by simp;omega) (by simp;omega),gY,hwi]
     have hfr:fresh c=(gC c,dY (c.drop (jS c+1)),c):=by unfold fresh;rw [hF];rfl
     have:=kx κ rs hn r f (i+1) (d++cur.toList) (some (fresh c)) (gC c) (by omega) g3 (by omega) (by rw [List.length_append];show _+1<=_;omega) (by omega) hvv
      (by intro y e;cases e;rw [hfr];exact ⟨by show (dY _).length<=c.length;omega,by show c.length+_<=_;omega⟩)
     rw [<- this,hfr]
     simp [xU]
theorem fy:∀ (rest:List (List UInt8)) (d:List Fl) (cur cur':Option Fl),(∃ x,cur=some x/\cur'=some x/\x.1≠[])∨(cur=none/\(cur'=none∨∃ y,cur'=some y/\y.1=[]))->(d++cur.toList).length<=64 ->
  nS d cur rest=(d++named (cP cur' rest)).take 64
 | [],d,cur,cur',h,h64=>by
  rcases h with ⟨x,rfl,rfl,hx⟩|⟨rfl,rfl|⟨y,rfl,hy⟩⟩
  ·rw [nS,cP];unfold named;rw [List.filter_cons];simp [hx]
   rw [List.take_of_length_le];simpa using h64
  ·rw [nS,cP];simp [named] at h64 ⊢;exact (List.take_of_length_le h64).symm
  ·rw [nS,cP];simp [named,hy] at h64 ⊢;exact (List.take_of_length_le h64).symm
 | c::r,d,cur,cur',h,h64=>by
  have hnone:cP none (c::r)=cP (some (fresh c)) r:=rfl
  have hnamed:∀ (x:Fl) (l:List Fl),x.1≠[]->named (x::l)=x::named l:=by intro x l hx;unfold named;rw [List.filter_cons];simp [hx]
  have hnam0:∀ (x:Fl) (l:List Fl),x.1=[]->named (x::l)=named l:=by intro x l hx;unfold named;rw [List.filter_cons];simp [hx]
  have hfr1:fw c=true->(fresh c).1≠[]:=by intro e;unfold fresh;rw [e];exact CF e
  have hfr0:fw c=false->(fresh c).1=[]:=by intro e;unfold fresh;rw [e];rfl
  rw [nS]
  cases hb:c8 (c.headD 0) with
  | true =>
   have hF:fw c=false:=by cases c with|nil=>cases hb|cons b t=>exact xd hb
   simp only [cond_true]
   rcases h with ⟨x,rfl,rfl,hx⟩|⟨rfl,rfl|⟨y,rfl,hy⟩⟩
   ·rw [cP,hb];simp only [cond_true]
    exact fy r d _ _ (Or.inl ⟨ext x c,rfl,rfl,hx⟩) (by simpa using h64)
   ·rw [hnone]
    exact fy r d none _ (Or.inr ⟨rfl,Or.inr ⟨_,rfl,hfr0 hF⟩⟩) h64
   ·rw [cP,hb];simp only [cond_true]
    exact fy r d none _ (Or.inr ⟨rfl,Or.inr ⟨_,rfl,hy⟩⟩) h64
  | false =>
   simp only [cond_false]
   have hh:d++named (cP cur' (c::r))=(d++cur.toList)++named (cP (some (fresh c)) r):=by
    rcases h with ⟨x,rfl,rfl,hx⟩|⟨rfl,rfl|⟨y,rfl,hy⟩⟩
    ·rw [cP,hb];simp only [cond_false];rw [hnamed _ _ hx];simp
    ·rw [hnone];simp
    ·rw [cP,hb];simp only [cond_false];rw [hnam0 _ _ hy];simp
   rw [hh]
   cases hF:fw c with
   | true =>
    simp only [cond_true]
    by_cases h6:(d++cur.toList).length=64
    ·rw [if_pos h6,List.take_append_of_le_length (by omega),List.take_of_length_le (by omega)]
    ·rw [if_neg h6]
     exact fy r _ _ _ (Or.inl ⟨_,rfl,rfl,hfr1 hF⟩) (by rw [List.length_append] at h6 ⊢;show _+1<=_;rw [List.length_append] at h64 ⊢;omega)
   | false =>
    simp only [cond_false]
    exact fy r _ none _ (Or.inr ⟨rfl,Or.inr ⟨_,rfl,hfr0 hF⟩⟩) (by simpa using h64)
theorem lK:∀ (fld:Bool) (nm:List UInt8) (l:List (List UInt8)),(eK fld nm l).length=l.length
 | _,_,[]=>rfl
 | fld,nm,c::r=>by
  rw [eK]
  cases c8 (c.headD 0) with
  | true=>simp only [cond_true,List.length_cons];rw [lK]
  | false=>simp only [cond_false,List.length_cons];rw [lK]
theorem zq (h:List UInt8) (hs:h.length<=200000) (κ : LA->Option R) (f:Nat) (hf:1000300<f) :
  aT.e bj bo aI av (B h) (sO κ f) (xk κ f) (nT κ f) (kw κ f) (sN κ f) κ = κ ((ee h).map vB):=by
 unfold aT.e
 rw [Bk h (by omega)]
 have h1:=w6 h
 have h2:=l7 h
 have hl:=lK false [] (du h)
 have:=kx κ (eK false [] (du h)) (by omega) (du h) f 0 [] none [] (by omega) rfl (by omega) (by simp) (by omega) (by simp) (by intro x e;cases e)
 rw [fy _ _ _ none (Or.inr ⟨rfl,Or.inl rfl⟩) (by simp)] at this
 simp only [List.length_map]
 refine this.trans ?_
 unfold ee
 simp [List.map_take]
theorem uG (h:List UInt8) (hs:h.length<=200000) (κ : LA->Option R):aT (B h) κ = κ ((ee h).map vB) :=
 zq h hs κ aH (by unfold aH;omega)
abbrev NB:Nat:=140737488351232
theorem CX (a b:BA) (ha:a.size<=NB) (hb:b.size<=NB) (κ : Bool->Option R):cH a b κ = κ (decide (dq (bl a)=dq (bl b))):=by
 have h1:=ib a
 have h2:=ib b
 unfold NB at ha hb
 unfold cH cH.e
 conv=>lhs;rw [<- oL a,<- oL b,fA _ (by omega),fA _ (by omega)]
 exact congrArg κ (decide_eq_decide.2 eI)
def gw (name:BA):LA->Option BA
 | []=>none
 | a::r=>if dq (bl (a.fld 0).s)=dq (bl name) then some (a.fld 1).s else gw name r
def CS (κ : Bool->BA->Option R) (o:Option BA):Option R:=κ o.isSome (o.getD (B []))
theorem De {l:LA} {i:Nat} {a:AV} {r:LA} (h:l.drop i=a::r):bZ l (i:Int)=a:=zO h
theorem pJ (name:BA) (hn:name.size<=NB) (l:LA) (hl:l.length<=1000000) (hf:∀ a∈l,Fit NB a) (κ : Bool->BA->Option R) (x4:Bool) (x5:BA):∀ (f i:Nat),i<=l.length->l.length<i+f ->
  cd.L2 cH κ f name l (l.length:Int) (i:Int) x4 x5=CS κ (gw name (l.drop i))
 | 0,i,h1,h2=>by omega
 | f+1,i,h1,h2=>by
  rw [cd.L2,cd.t2,dR]
  have hw1:IntKind.wrap .i64 ((i:Int)+1)=((i+1:Nat):Int):=wrap_i64 (by omega) (by omega)
  cases hd:l.drop i with
  | nil =>
   have:=drop_nil hd
   rw [aO (by omega)];rfl
  | cons a r =>
   obtain ⟨g1,g2,g3⟩:=cW hd
   have ha:=hf a (List.mem_of_getElem? g1)
   rw [aS (by omega),bq,au (by omega),au (by omega),De hd,CX _ _ (ha.fld 0).s hn,hw1,pJ name hn l hl hf κ x4 x5 f (i+1) (by omega) (by omega),g3,gw]
   by_cases e:dq (bl (a.fld 0).s)=dq (bl name)
   ·rw [decide_eq_true e,if_pos e];rfl
   ·rw [decide_eq_false e,if_neg e];rfl
theorem A5 (name:BA) (hn:name.size<=NB) (l:LA) (hl:l.length<=1000000) (hf:∀ a∈l,Fit NB a) (κ : Bool->BA->Option R):cd l name κ = CS κ (gw name l):=by
 have key:∀ f,l.length<f->cd.e cH l name (cd.L2 cH κ f) κ = CS κ (gw name l) :=
  fun f h=>pJ name hn l hl hf κ false _ f 0 (by omega) (by omega)
 exact key aH (by unfold aH;omega)
theorem D5 (v:List UInt8) (hs:v.length<=1000000) (κ : BA->Int->Option R):ac (B v) 0 κ = κ (B v) (pl v (cx v)):=by
 rw [<- u3 v];exact qX v v hs (List.suffix_refl v) κ
def zj (v:List UInt8):Option (List UInt8 × List UInt8 × List UInt8) :=
 if dt (cx v)=[] then none else match cx (eC (cx v)) with
  | []=>none
  | c::t=>if c=47 then (if dt (cx t)=[] then none else some (dq (dt (cx v)),dq (dt (cx t)),eC (cx t))) else none
theorem D4 {v a b r:List UInt8} (h:zj v=some (a,b,r)):r <:+ v:=by
 unfold zj at h
 split at h
 ·cases h
 ·have h0:=(dA (eC (cx v))).trans ((fq (cx v)).trans (dA v))
  split at h
  ·cases h
  ·rename_i c t e
   rw [e] at h0
   split at h
   ·split at h
    ·cases h
    ·cases h
     exact ((fq (cx t)).trans (dA t)).trans ((List.suffix_cons _ _).trans h0)
   ·cases h
theorem vW (l:List UInt8):decide (B (dq l)=B [])=decide (l=[]):=decide_eq_decide.2 (eI.trans A')
theorem D7 (v:List UInt8) (hs:v.length<=1000000):match zj v with
  | some (a,b,r)=>∀ κ : BA->BA->Bool->BA->Int->Option R,aW (B v) 0 κ = κ (B a) (B b) true (B v) (pl v r)
  | none=>∃ (a b:BA) (p:Int),∀ κ : BA->BA->Bool->BA->Int->Option R,aW (B v) 0 κ = κ a b false (B v) p:=by
 have b0:v <:+ v:=List.suffix_refl v
 have b1:=dA v
 have b2:=(fq (cx v)).trans b1
 have b3:=(dA (eC (cx v))).trans b2
 have hl1:(dt (cx v)).length<=1000000:=by have:=iP (cx v);have:=b1.length_le;omega
 have step:∀ κ : BA->BA->Bool->BA->Int->Option R,aW (B v) 0 κ = bif decide (dt (cx v)=[]) then κ (B []) (B []) false (B v) (pl v (cx (eC (cx v)))) else ag (B v) (pl v (cx (eC (cx v)))) 47 (fun r118 r119 r120=>bif (!r118) then κ (⟨#[]⟩:BA) (⟨#[]⟩:BA) false r119 r120 else ac r119 r120 (fun r121 r122=>ak r121 r122 (fun r123 r124 r125=>bn r123 (fun r126=>κ (B (dq (dt (cx v)))) r126 (!decide (r126=(⟨#[]⟩:BA))) r124 r125)))):=fun κ => by
  unfold aW aW.e
  rw [D5 v hs,xi v _ hs b1,fA _ (by omega),qX v _ hs b2,dR,vW]
 unfold zj
 by_cases c1:dt (cx v)=[]
 ·rw [if_pos c1]
  exact ⟨B [],B [],_,fun κ => by rw [step,decide_eq_true c1,cond_true]⟩
 ·rw [if_neg c1]
  cases e:cx (eC (cx v)) with
  | nil =>
   refine ⟨B [],B [],pl v [],fun κ => ?_⟩
   rw [step,decide_eq_false c1,cond_false,e,show (47:Int)=((47:UInt8).toNat:Int) from rfl,gz v [] 47 hs List.nil_suffix]
   rfl
  | cons c t =>
   rw [e] at b3
   have ht:=fM b3
   by_cases c2:c=47
   ·simp only [c2,if_true]
    have b4:=(dA t).trans ht
    have hl2:(dt (cx t)).length<=1000000:=by have:=iP (cx t);have:=b4.length_le;omega
    have step2:∀ κ : BA->BA->Bool->BA->Int->Option R,aW (B v) 0 κ = κ (B (dq (dt (cx v)))) (B (dq (dt (cx t)))) (!decide (dt (cx t)=[])) (B v) (pl v (eC (cx t))):=fun κ => by
     rw [step,decide_eq_false c1,cond_false,e,show (47:Int)=((47:UInt8).toNat:Int) from rfl,gz v (c::t) 47 hs b3]
     simp only [c2,if_true,Bool.not_true,cond_false]
     rw [qX v t hs ht,xi v _ hs b4,fA _ (by omega),dR,vW]
    by_cases c3:dt (cx t)=[]
    ·rw [if_pos c3]
     exact ⟨_,_,_,fun κ => by rw [step2,decide_eq_true c3];rfl⟩
    ·rw [if_neg c3]
     exact fun κ => by rw [step2,decide_eq_false c3];rfl
   ·simp only [c2,if_false]
    refine ⟨B [],B [],pl v (c::t),fun κ => ?_⟩
    rw [step,decide_eq_false c1,cond_false,e,show (47:Int)=((47:UInt8).toNat:Int) from rfl,gz v (c::t) 47 hs b3]
    simp only [c2,if_false]
    rfl
def mb:List UInt8:=[109,101,115,115,97,103,101]
def sW:List UInt8:=[114,102,99,56,50,50]
def kD:List UInt8:=[116,101,120,116]
def Ef:List UInt8:=[112,108,97,105,110]
def Fq:List Pm:=[([99,104,97,114,115,101,116],[117,115,45,97,115,99,105,105])]
def xe (v:List UInt8) (dg:Bool):List UInt8 × List UInt8 × List Pm :=
 match zj v with
 | some (a,b,r)=>(a,b,xw r)
 | none=>if dg then (mb,sW,[]) else (kD,Ef,Fq)
def l4 (v:List UInt8):List UInt8:=dq (dt (cx v))
def wS (v:List UInt8):List UInt8:=eC (cx v)
theorem uH (s r:List UInt8) (hs:s.length<=1000000) (h:r <:+ s) (κ : Bool->BA->BA->Int->Option R):an (B s) (pl s r) κ = κ (!decide (l4 r=[])) (B (l4 r)) (B s) (pl s (wS r)):=by
 have b1:=(dA r).trans h
 have hl1:(dt (cx r)).length<=1000000:=by have:=iP (cx r);have:=b1.length_le;omega
 unfold an an.e
 rw [qX s r hs h,xi s _ hs b1,fA _ (by omega),dR,pg]
 rfl
def BS:Nat->List (List UInt8)->List UInt8->List (List UInt8)
 | 0,a,_=>a
 | n+1,a,r=>if a.length<12 then (if l4 r=[] then a else match cx (wS r) with
   | []=>a++[l4 r]
   | c::t=>if c=44 then BS n (a++[l4 r]) t else a++[l4 r]) else a
def Ed (r:List UInt8):List (List UInt8):=BS (r.length+1) [] r
theorem BM (r:List UInt8):cx (wS r) <:+ r:=(dA _).trans ((fq _).trans (dA r))
theorem sD (s:List UInt8) (hs:s.length<=1000000):∀ (n f:Nat) (a:List (List UInt8)) (r:List UInt8),r <:+ s->r.length<n->n<f->∃ p:Int,∀ κ : LA->BA->Int->Option R,
  aB.L2 an ac ag κ f (B s) (pl s r) (cg a)=κ (cg (BS n a r)) (B s) p
 | 0,f,a,r,_,hn,_=>by omega
 | n+1,0,a,r,_,_,hf=>by omega
 | n+1,1,a,r,_,_,hf=>by omega
 | n+1,f+1+1,a,r,h,hn,hf=>by
  have hla:=xA a
  have h8:∀ (l:LA) (b:BA) (p:Int) (κ : LA->BA->Int->Option R),aB.L8 an ac ag κ (f+1) l b p=κ l b p:=fun l b p κ => rfl
  have b1:=(BM r).trans h
  have b2:wS r <:+ s:=((fq _).trans (dA r)).trans h
  by_cases h12:a.length<12
  ·by_cases c1:l4 r=[]
   ·refine ⟨pl s (wS r),fun κ => ?_⟩
    rw [aB.L2,aB.t2,hla,aS (by omega),uH s r hs h,BS,if_pos h12,if_pos c1,decide_eq_true c1]
    simp only [Bool.not_true,Bool.not_false,cond_true]
    rw [h8]
   ·have hrow:cg a++[AV.str (B (l4 r))]=cg (a++[l4 r]):=by rw [ry];rfl
    have step:∀ κ : LA->BA->Int->Option R,aB.L2 an ac ag κ (f+1+1) (B s) (pl s r) (cg a)=ag (B s) (pl s (cx (wS r))) 44 (fun r284 r285 r286=>bif (!r284) then κ (cg (a++[l4 r])) r285 r286 else aB.L2 an ac ag κ (f+1) r285 r286 (cg (a++[l4 r]))):=fun κ => by
     rw [aB.L2,aB.t2,hla,aS (by omega),uH s r hs h,decide_eq_false c1]
     simp only [Bool.not_true,Bool.not_false,cond_false]
     rw [au (by omega),qX s _ hs b2,hrow]
     simp only [h8]
    have hl:BS (n+1) a r=match cx (wS r) with
      | []=>a++[l4 r]
      | c::t=>if c=44 then BS n (a++[l4 r]) t else a++[l4 r]:=by rw [BS,if_pos h12,if_neg c1]
    rw [hl]
    cases e:cx (wS r) with
    | nil =>
     refine ⟨pl s [],fun κ => ?_⟩
     rw [step,e,show (44:Int)=((44:UInt8).toNat:Int) from rfl,gz s [] 44 hs List.nil_suffix];rfl
    | cons c t =>
     rw [e] at b1
     by_cases c2:c=44
     ·simp only [c2,if_true]
      have h3:=BM r
      rw [e] at h3
      have h4:=h3.length_le
      simp only [List.length_cons] at h4
      obtain ⟨p,hp⟩:=sD s hs n (f+1) (a++[l4 r]) t (fM b1) (by omega) (by omega)
      refine ⟨p,fun κ => ?_⟩
      rw [step,e,show (44:Int)=((44:UInt8).toNat:Int) from rfl,gz s (c::t) 44 hs b1]
      simp only [c2,if_true,Bool.not_true,cond_false]
      exact hp κ
     ·simp only [c2,if_false]
      refine ⟨pl s (c::t),fun κ => ?_⟩
      rw [step,e,show (44:Int)=((44:UInt8).toNat:Int) from rfl,gz s (c::t) 44 hs b1]
      simp only [c2,if_false];rfl
  ·refine ⟨pl s r,fun κ => ?_⟩
   rw [aB.L2,aB.t2,hla,aO (by omega),BS,if_neg h12,h8]
theorem FY (v:List UInt8) (hs:v.length<=1000000):∃ p:Int,∀ κ : LA->BA->Int->Option R,aB (B v) 0 κ = κ (cg (Ed v)) (B v) p:=by
 have key:∀ f,1000002<f->∃ p:Int,∀ κ : LA->BA->Int->Option R,aB.e an ac ag (B v) 0 (aB.L2 an ac ag κ f) (aB.L8 an ac ag κ f) κ = κ (cg (Ed v)) (B v) p:=by
  intro f hf
  have:=sD (R:=R) v hs (v.length+1) f [] v (List.suffix_refl v) (by omega) (by omega)
  rw [u3] at this
  exact this
 exact key aH (by unfold aH;omega)
def oA (s:BA) (o:Option Nat) (κ : BA->BA->Option R):Option R :=
 match o with
 | some n=>κ (B ((bl s).take n)) (B ((bl s).drop n))
 | none=>κ s (B [])
def jN:Bool->List UInt8->Option Nat
 | _,[]=>none
 | bol,13::10::r=>if bol then some 2 else (jN true r).map (2+·)
 | _,_::r=>(jN false r).map (1+·)
theorem e8 (bol:Bool) (r:List UInt8):jN bol (13::10::r)=if bol then some 2 else (jN true r).map (2+·):=by rw [jN]
theorem fD (bol:Bool) (c:UInt8) (r:List UInt8) (h:¬ (c=13/\r.head? = some 10)):jN bol (c::r)=(jN false r).map (1+·):=by
 rw [jN]
 rintro r' rfl rfl;exact h ⟨rfl,rfl⟩
theorem Em (o:Option Nat) (a b c:Nat) (h:a+b=c):(o.map (a+·)).map (b+·)=o.map (c+·):=by
 cases o with
 | none=>rfl
 | some n=>simp only [Option.map_some];congr 1;omega
theorem En (o:Option Nat):o.map (0+·)=o:=by cases o <;> simp
theorem y' (s:List UInt8):jN false s=if Lib.index s [13,10,13,10] = -1 then none else some (Lib.index s [13,10,13,10]+4).toNat:=by
 have key:∀ n (s:List UInt8),s.length<=n->jN false s=if Lib.index s [13,10,13,10] = -1 then none else some (Lib.index s [13,10,13,10]+4).toNat:=by
  intro n
  induction n with
  | zero => intro s h; have : s = [] := by cases s <;> simp_all
            subst this;rfl
  | succ n ih =>
   intro s h
   cases s with
   | nil=>rfl
   | cons c r =>
    have step:∀ r:List UInt8,r.length<=n->((jN false r).map (1+·))=if (if Lib.index r [13,10,13,10] == -1 then (-1:Int) else Lib.index r [13,10,13,10]+1) = -1 then none else some ((if Lib.index r [13,10,13,10] == -1 then (-1:Int) else Lib.index r [13,10,13,10]+1)+4).toNat:=by
     intro r hr
     rw [ih r hr]
     have:=Lib.index_ge r [13,10,13,10]
     by_cases e:Lib.index r [13,10,13,10] = -1
     ·simp [e]
     ·have e':(Lib.index r [13,10,13,10] == -1)=false:=by simp [e]
      simp only [e',Bool.false_eq_true,if_false]
      rw [if_neg e,if_neg (by omega)]
      simp only [Option.map_some];congr 1;omega
    by_cases hc:c=13/\r.head? = some 10
    ·obtain ⟨rfl,hr⟩:=hc
     cases r with
     | nil=>simp at hr
     | cons d r =>
      simp only [List.head?_cons,Option.some.injEq] at hr;subst hr
      rw [e8]
      simp only [Bool.false_eq_true,if_false]
      by_cases hp:∃ r',r=13::10::r'
      ·obtain ⟨r',rfl⟩:=hp
       rw [e8,dN]
       simp
      ·have hnp:List.isPrefixOf [13,10,13,10] (13::10::r)=false:=by
        cases hh:List.isPrefixOf [13,10,13,10] (13::10::r) with
        | false=>rfl
        | true =>
         obtain ⟨t,ht⟩:=List.isPrefixOf_iff_prefix.1 hh
         simp only [List.cons_append,List.nil_append,List.cons.injEq,true_and] at ht
         exact absurd ⟨t,ht.symm⟩ hp
       have ht:jN true r=jN false r:=by
        cases r with
        | nil=>rfl
        | cons a r =>
         have:¬ (a=13/\r.head? = some 10):=by
          rintro ⟨rfl,h2⟩
          cases r with
          | nil=>simp at h2
          | cons b r=>simp at h2;subst h2;exact hp ⟨r,rfl⟩
         rw [fD _ _ _ this,fD _ _ _ this]
       have h10:jN false (10::r)=(jN false r).map (1+·):=fD _ _ _ (by simp)
       rw [ht,<- Em _ 1 1 2 rfl,<- h10,step (10::r) (by simp at h ⊢;omega),dN 13,hnp]
       simp only [Bool.false_eq_true,if_false]
    ·rw [fD _ _ _ hc,step r (by simp at h;omega)]
     have hnp:List.isPrefixOf [13,10,13,10] (c::r)=false:=by
      cases hh:List.isPrefixOf [13,10,13,10] (c::r) with
      | false=>rfl
      | true =>
       obtain ⟨t,ht⟩:=List.isPrefixOf_iff_prefix.1 hh
       simp only [List.cons_append,List.nil_append,List.cons.injEq] at ht
       obtain ⟨rfl,rfl⟩:=ht
       exact absurd ⟨rfl,rfl⟩ hc
     rw [dN,hnp];simp only [Bool.false_eq_true,if_false]
 exact key _ s (Nat.le_refl _)
theorem zl (s:BA) (hs:(bl s).length<=1000000) (κ : BA->BA->Option R):cJ s κ = oA s (jN true (bl s)) κ := by
 have hsz:=ib s
 unfold cJ cJ.e aE aE.e cT
 rw [show (⟨#[13,10]⟩:BA)=B [13,10] from rfl,km]
 cases hp:List.isPrefixOf [13,10] (bl s) with
 | true =>
  obtain ⟨t,ht⟩:=List.isPrefixOf_iff_prefix.1 hp
  have:2<=(bl s).length:=by rw [<- ht];simp
  simp (disch:=omega) only [cond_true,bq,au]
  rw [<- ht]
  simp only [List.cons_append,List.nil_append,e8,if_true,oA]
  congr 1
  ·rw [<- oL (s.extract _ _),eM];simp
  ·rw [<- oL (s.extract _ _),eM];simp [hsz]
 | false =>
  simp (disch:=omega) only [cond_false,au]
  have hft:jN true (bl s)=jN false (bl s):=by
   cases h:bl s with
   | nil=>rfl
   | cons a r =>
    have:¬ (a=13/\r.head? = some 10):=by
     rintro ⟨rfl,h2⟩
     cases r with
     | nil=>simp at h2
     | cons b r=>simp at h2;subst h2;rw [h] at hp;simp at hp
    rw [fD _ _ _ this,fD _ _ _ this]
  rw [hft,y']
  have hge:=Lib.index_ge (bl s) [13,10,13,10]
  show (bif decide (Lib.index (bl s) [13,10,13,10]>=0) then _ else _)=_
  by_cases e:Lib.index (bl s) [13,10,13,10] = -1
  ·rw [e];rfl
  ·have hle:Lib.index (bl s) [13,10,13,10]+4<=(bl s).length:=by
    have:=nM (bl s) [13,10,13,10] e
    simpa using this
   rw [if_neg e]
   have hbl:s.data.toList=bl s:=rfl
   simp only [hbl]
   simp (disch:=omega) only [aS,wrap_i64,bq,au,oA]
   congr 1
   ·rw [<- oL (s.extract _ _),eM];rfl
   ·rw [<- oL (s.extract _ _),eM];simp [hsz]
def gk (s:BA):BA × BA :=
 match jN true (bl s) with
 | some n=>(B ((bl s).take n),B ((bl s).drop n))
 | none=>(s,B [])
theorem xI (s:BA) (κ : BA->BA->Option R):oA s (jN true (bl s)) κ = κ (gk s).1 (gk s).2:=by
 unfold oA gk;split <;> rfl
theorem xh (s:BA) (hs:(bl s).length<=1000000) (κ : BA->BA->Option R):cJ s κ = κ (gk s).1 (gk s).2:=(zl s hs κ).trans (xI s κ)
theorem vI:∀ (ls:List (List UInt8)) (cur:Option Fl) (N:Nat),(∀ x,cur=some x->x.1.length<=N)->total ls<=N->∀ x∈cP cur ls,x.1.length<=N
 | [],none,N,h,h2,x,hx=>by rw [cP] at hx;cases hx
 | [],some y,N,h,h2,x,hx=>by rw [cP,List.mem_singleton] at hx;subst hx;exact h x rfl
 | c::r,cur,N,h,h2,x,hx=>by
  simp only [total] at h2
  have hfr:(fresh c).1.length<=N:=by
   have:=C3 c
   unfold fresh
   cases fw c with
   | false=>simp
   | true=>show (gC c).length<=N;omega
  cases cur with
  | none =>
   have e:cP none (c::r)=cP (some (fresh c)) r:=rfl
   rw [e] at hx
   exact vI r _ N (by intro y e;cases e;exact hfr) (by omega) x hx
  | some y =>
   have e:cP (some y) (c::r)=bif c8 (c.headD 0) then cP (some (ext y c)) r else y::cP (some (fresh c)) r:=rfl
   rw [e] at hx
   cases hb:c8 (c.headD 0) with
   | true =>
    rw [hb,cond_true] at hx
    exact vI r _ N (by intro z e;cases e;exact h y rfl) (by omega) x hx
   | false =>
    rw [hb,cond_false] at hx
    rcases List.mem_cons.1 hx with h1|h1
    ·rw [h1];exact h y rfl
    ·exact vI r _ N (by intro z e;cases e;exact hfr) (by omega) x h1
theorem nv (c:List UInt8):(fresh c).2.2=c:=by
 unfold fresh
 cases fw c <;> rfl
theorem qU:∀ (ls:List (List UInt8)) (cur:Option Fl) (n:Nat),(∀ x,cur=some x->x.2.2.length+total ls<=n)->total ls<=n->∀ x∈cP cur ls,x.2.2.length<=n
 | [],none,n,h,h2,x,hx=>by rw [cP] at hx;cases hx
 | [],some y,n,h,h2,x,hx=>by
  rw [cP,List.mem_singleton] at hx;subst hx
  have:=h x rfl;simp only [total] at this;omega
 | c::r,none,n,h,h2,x,hx=>by
  rw [cP] at hx
  refine qU r _ n ?_ (by simp only [total] at h2;omega) x hx
  intro y e;cases e
  simp only [total] at h2
  rw [nv];omega
 | c::r,some y,n,h,h2,x,hx=>by
  have hy:=h y rfl
  simp only [total] at h2 hy
  rw [cP] at hx
  have hf:=nv c
  cases hb:c8 (c.headD 0) with
  | true =>
   rw [hb,cond_true] at hx
   refine qU r _ n ?_ (by omega) x hx
   intro z e;cases e
   have:(ext y c).2.2.length=y.2.2.length+c.length:=by unfold ext;simp
   omega
  | false =>
   rw [hb,cond_false,List.mem_cons] at hx
   rcases hx with rfl|hx
   ·omega
   ·refine qU r _ n ?_ (by omega) x hx
    intro z e;cases e;rw [hf];omega
theorem Ac (l:List UInt8):(dl l).length<=l.length:=by
 have h1:=qd c8 (l.dropWhile c8)
 have h2:=(List.dropWhile_suffix c8 (l:=l)).length_le
 unfold dl;omega
def lY (h:List UInt8):LA:=(ee h).map vB
theorem vD (h:List UInt8) (hs:h.length<=200000):(lY h).length<=64/\(∀ a∈lY h,Fit NB a)/\∀ a∈lY h,(a.fld 1).s.size<=200000:=by
 have ht:=l7 h
 refine ⟨by unfold lY;rw [List.length_map];unfold ee;rw [List.length_take];omega,fun a ha => ?_,fun a ha => ?_⟩
 all_goals
  obtain ⟨x,hx,rfl⟩:=List.mem_map.1 ha
  unfold ee at hx
  obtain ⟨y,hy,rfl⟩:=List.mem_map.1 (List.mem_of_mem_take hx)
  have hy:=(List.mem_filter.1 hy).1
  have b1:=vI (du h) none 200000 (by intro x e;cases e) (by omega) y hy
  have b2:=qU (du h) none 200000 (by intro x e;cases e) (by omega) y hy
  have b3:=iW (du h) none 200000 (by intro x e;cases e) (by omega) y hy
  have b4:=Ac y.2.1
 ·refine .agg _ fun b hb => ?_
  simp only [List.mem_cons,List.mem_nil_iff,or_false] at hb
  rcases hb with rfl|rfl|rfl
  ·exact .str _ (by rw [bu];show y.1.length<=NB;unfold NB;omega)
  ·exact .str _ (by rw [bu];show (dl y.2.1).length<=NB;unfold NB;omega)
  ·exact .str _ (by rw [bu];show y.2.2.length<=NB;unfold NB;omega)
 ·rw [EY,bu];show (dl y.2.1).length<=200000;omega
def gI (h:List UInt8) (n:BA):Bool:=(gw n (lY h)).isSome
def gV (h:List UInt8) (n:BA):List UInt8:=bl ((gw n (lY h)).getD (B []))
theorem vH {n:BA}:∀ {l:LA} {s:BA},gw n l=some s->∃ a∈l,s=(a.fld 1).s
 | [],_,h=>by cases h
 | a::r,s,h=>by
  rw [gw] at h
  split at h
  ·cases h;exact ⟨a,by simp,rfl⟩
  ·obtain ⟨b,hb,e⟩:=vH h;exact ⟨b,by simp [hb],e⟩
theorem ny {h:List UInt8} (hs:h.length<=200000) (n:BA):(gV h n).length<=200000:=by
 unfold gV
 cases hg:gw n (lY h) with
 | none=>simp [kZ]
 | some s =>
  obtain ⟨a,ha,rfl⟩:=vH hg
  have:=(vD h hs).2.2 a ha
  rw [ib] at this
  exact this
theorem sC {h:List UInt8} (hs:h.length<=200000) {n:BA} (hn:n.size<=NB) (κ : Bool->BA->Option R):cd (lY h) n κ = κ (gI h n) (B (gV h n)):=by
 obtain ⟨h1,h2,_⟩:=vD h hs
 exact A5 n hn (lY h) (by omega) h2 κ
structure HdV where
 ty:List UInt8
 sub:List UInt8
 ps:List Pm
 i0:Bool
 i1:List UInt8
 a0:Bool
 a1:List UInt8
 c1:List UInt8
 p1:List UInt8
 pp:List Pm
 lg:List (List UInt8)
 w0:Bool
 w1:List UInt8
abbrev Ez (R:Type):Type:=BA->BA->BA->LA->Bool->BA->Bool->BA->Bool->BA->Bool->BA->LA->LA->Bool->BA->Int->Int->Int->Int->Int->Option R
def dd (l:List UInt8):Bool := !decide (l=[])
def rK (h:List UInt8) (dg:Bool):HdV where
 ty:=(xe (gV h (⟨#[67,111,110,116,101,110,116,45,84,121,112,101]⟩:BA)) dg).1
 sub:=(xe (gV h (⟨#[67,111,110,116,101,110,116,45,84,121,112,101]⟩:BA)) dg).2.1
 ps:=(xe (gV h (⟨#[67,111,110,116,101,110,116,45,84,121,112,101]⟩:BA)) dg).2.2
 i0:=gI h (⟨#[67,111,110,116,101,110,116,45,73,100]⟩:BA)
 i1:=dl (gV h (⟨#[67,111,110,116,101,110,116,45,73,100]⟩:BA))
 a0:=gI h (⟨#[67,111,110,116,101,110,116,45,68,101,115,99,114,105,112,116,105,111,110]⟩:BA)
 a1:=dl (gV h (⟨#[67,111,110,116,101,110,116,45,68,101,115,99,114,105,112,116,105,111,110]⟩:BA))
 c1:=l4 (gV h (⟨#[67,111,110,116,101,110,116,45,84,114,97,110,115,102,101,114,45,69,110,99,111,100,105,110,103]⟩:BA))
 p1:=l4 (gV h (⟨#[67,111,110,116,101,110,116,45,68,105,115,112,111,115,105,116,105,111,110]⟩:BA))
 pp:=if l4 (gV h (⟨#[67,111,110,116,101,110,116,45,68,105,115,112,111,115,105,116,105,111,110]⟩:BA))=[] then [] else xw (wS (gV h (⟨#[67,111,110,116,101,110,116,45,68,105,115,112,111,115,105,116,105,111,110]⟩:BA)))
 lg:=Ed (gV h (⟨#[67,111,110,116,101,110,116,45,76,97,110,103,117,97,103,101]⟩:BA))
 w0:=gI h (⟨#[67,111,110,116,101,110,116,45,76,111,99,97,116,105,111,110]⟩:BA)
 w1:=dl (gV h (⟨#[67,111,110,116,101,110,116,45,76,111,99,97,116,105,111,110]⟩:BA))
def yh (κ : Ez R) (p:BA) (v:HdV) (a b c d e:Int):Option R :=
 κ p (B v.ty) (B v.sub) (v.ps.map cf) v.i0 (B v.i1) v.a0 (B v.a1) (dd v.c1) (B v.c1) (dd v.p1) (B v.p1) (v.pp.map cf) (cg v.lg) v.w0 (B v.w1) a b c d e
theorem uF {h:List UInt8} (hs:h.length<=200000) {n:BA} (hn:n.size<=NB) (κ : Bool->BA->Option R):cn (lY h) n κ = κ (gI h n) (B (dl (gV h n))):=by
 unfold cn cn.e
 have:=ny hs n
 rw [sC hs hn,ov _ (by omega)]
theorem DW (v:List UInt8) (hs:v.length<=1000000) (κ : Bool->BA->BA->Int->Option R):an (B v) 0 κ = κ (dd (l4 v)) (B (l4 v)) (B v) (pl v (wS v)):=by
 have:=uH v v hs (List.suffix_refl v) κ
 rw [u3] at this
 exact this
theorem Cz (v:List UInt8):wS v <:+ v:=(fq _).trans (dA v)
theorem lM {h:List UInt8} (hs:h.length<=200000) (ty sub:BA) (ps:LA) (p:BA) (a b c d e:Int) (κ : Ez R) (f:Nat) (k:Ez R)
  (hk:∀ i0 i1 a0 a1 c0 c1 p0 p1 pp w0 w1,k p ty sub ps i0 i1 a0 a1 c0 c1 p0 p1 pp [] w0 w1 a b c d e=cw.je cd aW aD an cn aB κ (f+1) (lY h) p ty sub ps i0 i1 a0 a1 c0 c1 p0 p1 pp [] w0 w1 a b c d e) :
  cd (lY h) (⟨#[67,111,110,116,101,110,116,45,84,114,97,110,115,102,101,114,45,69,110,99,111,100,105,110,103]⟩:BA) (fun r186 r187=>an r187 0 (fun r194 r195 r196 r197=>cn (lY h) (⟨#[67,111,110,116,101,110,116,45,73,100]⟩:BA) (fun r201 r202=>cn (lY h) (⟨#[67,111,110,116,101,110,116,45,68,101,115,99,114,105,112,116,105,111,110]⟩:BA) (fun r203 r204=>cn (lY h) (⟨#[67,111,110,116,101,110,116,45,76,111,99,97,116,105,111,110]⟩:BA) (fun r205 r206=>cd (lY h) (⟨#[67,111,110,116,101,110,116,45,68,105,115,112,111,115,105,116,105,111,110]⟩:BA) (fun r207 r208=>an r208 0 (fun r209 r210 r211 r212=>bif r209 then aD r211 r212 (fun r213 r214 r215=>k p ty sub ps r201 r202 r203 r204 r194 r195 r209 r210 r213 [] r205 r206 a b c d e) else k p ty sub ps r201 r202 r203 r204 r194 r195 r209 r210 [] [] r205 r206 a b c d e)))))))
  = κ p ty sub ps (gI h (⟨#[67,111,110,116,101,110,116,45,73,100]⟩:BA)) (B (dl (gV h (⟨#[67,111,110,116,101,110,116,45,73,100]⟩:BA)))) (gI h (⟨#[67,111,110,116,101,110,116,45,68,101,115,99,114,105,112,116,105,111,110]⟩:BA)) (B (dl (gV h (⟨#[67,111,110,116,101,110,116,45,68,101,115,99,114,105,112,116,105,111,110]⟩:BA)))) (dd (l4 (gV h (⟨#[67,111,110,116,101,110,116,45,84,114,97,110,115,102,101,114,45,69,110,99,111,100,105,110,103]⟩:BA)))) (B (l4 (gV h (⟨#[67,111,110,116,101,110,116,45,84,114,97,110,115,102,101,114,45,69,110,99,111,100,105,110,103]⟩:BA)))) (dd (l4 (gV h (⟨#[67,111,110,116,101,110,116,45,68,105,115,112,111,115,105,116,105,111,110]⟩:BA)))) (B (l4 (gV h (⟨#[67,111,110,116,101,110,116,45,68,105,115,112,111,115,105,116,105,111,110]⟩:BA)))) ((if l4 (gV h (⟨#[67,111,110,116,101,110,116,45,68,105,115,112,111,115,105,116,105,111,110]⟩:BA))=[] then [] else xw (wS (gV h (⟨#[67,111,110,116,101,110,116,45,68,105,115,112,111,115,105,116,105,111,110]⟩:BA)))).map cf) (cg (Ed (gV h (⟨#[67,111,110,116,101,110,116,45,76,97,110,103,117,97,103,101]⟩:BA)))) (gI h (⟨#[67,111,110,116,101,110,116,45,76,111,99,97,116,105,111,110]⟩:BA)) (B (dl (gV h (⟨#[67,111,110,116,101,110,116,45,76,111,99,97,116,105,111,110]⟩:BA)))) a b c d e:=by
 have l1:=ny hs (⟨#[67,111,110,116,101,110,116,45,84,114,97,110,115,102,101,114,45,69,110,99,111,100,105,110,103]⟩:BA)
 have l2:=ny hs (⟨#[67,111,110,116,101,110,116,45,68,105,115,112,111,115,105,116,105,111,110]⟩:BA)
 have l3:=ny hs (⟨#[67,111,110,116,101,110,116,45,76,97,110,103,117,97,103,101]⟩:BA)
 have fin:∀ i0 i1 a0 a1 c0 c1 p0 p1 pp w0 w1,k p ty sub ps i0 i1 a0 a1 c0 c1 p0 p1 pp [] w0 w1 a b c d e=κ p ty sub ps i0 i1 a0 a1 c0 c1 p0 p1 pp (cg (Ed (gV h (⟨#[67,111,110,116,101,110,116,45,76,97,110,103,117,97,103,101]⟩:BA)))) w0 w1 a b c d e:=by
  intro i0 i1 a0 a1 c0 c1 p0 p1 pp w0 w1
  rw [hk,cw.je,cw.t15,sC hs (by decide)]
  obtain ⟨q,hq⟩:=FY (R:=R) (gV h (⟨#[67,111,110,116,101,110,116,45,76,97,110,103,117,97,103,101]⟩:BA)) (by omega)
  exact hq _
 rw [sC hs (by decide),DW _ (by omega),uF hs (by decide),uF hs (by decide),uF hs (by decide),sC hs (by decide),DW _ (by omega)]
 unfold dd
 by_cases c1:l4 (gV h (⟨#[67,111,110,116,101,110,116,45,68,105,115,112,111,115,105,116,105,111,110]⟩:BA))=[]
 ·rw [decide_eq_true c1,Bool.not_true,cond_false,fin,if_pos c1];rfl
 ·rw [decide_eq_false c1,Bool.not_false,cond_true]
  obtain ⟨q,hq⟩:=D9 (R:=R) (gV h (⟨#[67,111,110,116,101,110,116,45,68,105,115,112,111,115,105,116,105,111,110]⟩:BA)) (wS (gV h (⟨#[67,111,110,116,101,110,116,45,68,105,115,112,111,115,105,116,105,111,110]⟩:BA))) (by omega) (Cz _)
  rw [hq,fin,if_neg c1]
theorem Ea {h:List UInt8} (hs:h.length<=200000) (p:BA) (s1 s2:BA) (a b c d e:Int) (dg:Bool) (x1 x2 x3 x4 x5:BA) (y1 y2 y3 y4 y5:Bool) (κ : Ez R) :
  cw p s1 s2 y1 x1 y2 x2 y3 x3 y4 x4 y5 x5 a b c d e (lY h) dg κ = yh κ p (rK h dg) a b c d e:=by
 have l1:=ny hs (⟨#[67,111,110,116,101,110,116,45,84,121,112,101]⟩:BA)
 have key:∀ f,cw.e cd aW aD an cn aB p s1 s2 y1 x1 y2 x2 y3 x3 y4 x4 y5 x5 a b c d e (lY h) dg (cw.je cd aW aD an cn aB κ (f+1)) κ = yh κ p (rK h dg) a b c d e:=by
  intro f
  unfold cw.e
  rw [sC hs (by decide)]
  have hk:=D7 (R:=R) (gV h (⟨#[67,111,110,116,101,110,116,45,84,121,112,101]⟩:BA)) (by omega)
  unfold yh rK xe
  cases e1:zj (gV h (⟨#[67,111,110,116,101,110,116,45,84,121,112,101]⟩:BA)) with
  | none =>
   rw [e1] at hk
   obtain ⟨u,v,q,hk⟩:=hk
   rw [hk,cond_false]
   cases dg with
   | true =>
    rw [cond_true]
    exact lM hs _ _ [] p a b c d e κ f (cw.je cd aW aD an cn aB κ (f+1) (lY h)) (fun _ _ _ _ _ _ _ _ _ _ _=>rfl)
   | false =>
    rw [cond_false]
    exact lM hs _ _ _ p a b c d e κ f (cw.je cd aW aD an cn aB κ (f+1) (lY h)) (fun _ _ _ _ _ _ _ _ _ _ _=>rfl)
  | some q =>
   obtain ⟨t,u,r⟩:=q
   rw [e1] at hk
   replace hk:∀ κ : BA->BA->Bool->BA->Int->Option R,aW (B (gV h (⟨#[67,111,110,116,101,110,116,45,84,121,112,101]⟩:BA))) 0 κ = κ (B t) (B u) true (B (gV h (⟨#[67,111,110,116,101,110,116,45,84,121,112,101]⟩:BA))) (pl (gV h (⟨#[67,111,110,116,101,110,116,45,84,121,112,101]⟩:BA)) r):=hk
   obtain ⟨q2,hq2⟩:=D9 (R:=R) (gV h (⟨#[67,111,110,116,101,110,116,45,84,121,112,101]⟩:BA)) r (by omega) (D4 e1)
   rw [hk,cond_true,hq2]
   exact lM hs _ _ _ p a b c d e κ f (cw.je cd aW aD an cn aB κ (f+1) (lY h)) (fun _ _ _ _ _ _ _ _ _ _ _=>rfl)
 exact key (aH-1)
def fF:List UInt8->List UInt8 × Option (List UInt8)
 | []=>([],none)
 | c::t=>if c=13/\t.head? = some 10 then ([],some t.tail) else (c::(fF t).1,(fF t).2)
def oK (r:List UInt8):List UInt8:=(fF r).2.getD []
theorem iI (t:List UInt8):fF (13::10::t)=([],some t):=by rw [fF,if_pos ⟨rfl,rfl⟩];rfl
theorem hG {c:UInt8} {t:List UInt8} (h:¬ (c=13/\t.head? = some 10)):fF (c::t)=(c::(fF t).1,(fF t).2):=by rw [fF,if_neg h]
theorem uB {t:List UInt8} (h:t.head? = some 10):t=10::t.tail:=by
 cases t with
 | nil=>cases h
 | cons c u=>simp at h;rw [h];rfl
theorem iJ:∀ {r u:List UInt8},(fF r).2=some u->r=(fF r).1++13::10::u
 | [],u,h=>by cases h
 | c::t,u,h=>by
  by_cases e:c=13/\t.head? = some 10
  ·obtain ⟨rfl,e2⟩:=e
   rw [uB e2,iI] at h ⊢
   cases h;rfl
  ·rw [hG e] at h ⊢
   have:=iJ h
   simp only [List.cons_append]
   rw [<- this]
theorem kB:∀ {r:List UInt8},(fF r).2=none->r=(fF r).1
 | [],_=>rfl
 | c::t,h=>by
  by_cases e:c=13/\t.head? = some 10
  ·obtain ⟨rfl,e2⟩:=e
   rw [uB e2,iI] at h;cases h
  ·rw [hG e] at h ⊢
   simp only
   rw [<- kB h]
theorem Da (c:UInt8) (t:List UInt8):([13,10]:List UInt8).isPrefixOf (c::t)=decide (c=13/\t.head? = some 10):=by
 cases t with
 | nil=>simp [List.isPrefixOf]
 | cons d u =>
  simp only [List.isPrefixOf,List.head?_cons,Option.some.injEq,Bool.and_true]
  rw [Bool.eq_iff_iff]
  simp only [Bool.and_eq_true,beq_iff_eq,decide_eq_true_eq]
  constructor
  ·rintro ⟨rfl,rfl⟩;exact ⟨rfl,rfl⟩
  ·rintro ⟨rfl,rfl⟩;exact ⟨rfl,rfl⟩
theorem lA:∀ (r:List UInt8),Lib.index r [13,10]=match (fF r).2 with
  | some _=>((fF r).1.length:Int)
  | none => -1
 | []=>by rfl
 | c::t=>by
  rw [dN,Da,lA t]
  by_cases e:c=13/\t.head? = some 10
  ·rw [if_pos (by simpa using e)]
   obtain ⟨rfl,e2⟩:=e
   rw [uB e2,iI];rfl
  ·rw [if_neg (by simpa using e),hG e]
   simp only
   cases h:(fF t).2 with
   | none=>rfl
   | some u =>
    simp only [List.length_cons]
    rw [if_neg (by simp)];omega
theorem rb:∀ (r:List UInt8),oK r <:+ r
 | []=>List.suffix_refl _
 | c::t=>by
  unfold oK
  by_cases e:c=13/\t.head? = some 10
  ·obtain ⟨rfl,e2⟩:=e
   rw [uB e2,iI]
   exact (List.suffix_cons _ _).trans (List.suffix_cons _ _)
  ·rw [hG e]
   exact (rb t).trans (List.suffix_cons _ _)
theorem uN (c:UInt8) (t:List UInt8):(oK (c::t)).length<=t.length:=by
 unfold oK
 by_cases e:c=13/\t.head? = some 10
 ·obtain ⟨rfl,e2⟩:=e
  rw [uB e2,iI];simp
 ·rw [hG e]
  exact (rb t).length_le
theorem A7 (r:List UInt8):(fF r).1.length<=r.length:=by
 cases h:(fF r).2 with
 | none=>have:=kB h;rw [<- this];exact Nat.le_refl _
 | some u=>have:=congrArg List.length (iJ h);simp only [List.length_append,List.length_cons] at this;omega
theorem A8 (r:List UInt8):r.take (fF r).1.length=(fF r).1:=by
 cases h:(fF r).2 with
 | none=>have:=kB h;rw [<- this];simp
 | some u => have := iJ h; conv => lhs; arg 2; rw [this]
             simp
def oN (l:List UInt8):Bool:=l.all c8
def rP (b l:List UInt8):Option Bool :=
 if (45::45::b).isPrefixOf l then
  (if ([45,45]:List UInt8).isPrefixOf (l.drop (b.length+2)) then (if oN (l.drop (b.length+2+2)) then some true else none)
   else (if oN (l.drop (b.length+2)) then some false else none))
 else none
def DT (l:List UInt8):Bool:=([45,45]:List UInt8).isPrefixOf l
theorem qp (l:List UInt8):(dl l=[]) ↔ oN l=true:=by
 unfold dl oN
 rw [List.all_eq_true]
 constructor
 ·intro h
  cases hd:l.dropWhile c8 with
  | nil=>exact nq.1 hd
  | cons c t =>
   have hc:c8 c=false:=by
    have:=List.head?_dropWhile_not c8 l
    rw [hd] at this;simpa using this
   rw [hd] at h
   obtain ⟨e,he⟩:=ot (p:=c8) t hc
   rw [he] at h;cases h
 ·intro h
  rw [nq.2 h];rfl
theorem yD (l p:List UInt8) (κ : BA->Bool->Option R):bY (B l) (B p) κ = if p.isPrefixOf l then κ (B (l.drop p.length)) true else κ (B l) false:=by
 unfold bY bY.e b6 b6.e
 have:=nJ (R:=R) l p
 unfold aU aU.e at this
 rw [this]
 cases h:p.isPrefixOf l with
 | false=>rfl
 | true =>
  have h2:p.length<=l.length:=(List.isPrefixOf_iff_prefix.1 h).length_le
  rw [bu,bu,Bool.not_true,cond_false,bq,au (by omega),bq,au (by omega),au (by omega),Int.toNat_natCast,Int.toNat_natCast,da,List.take_length]
  rfl
theorem Cq (l:List UInt8):decide (B l=B [])=decide (l=[]):=decide_eq_decide.2 eI
theorem FW (b l:List UInt8) (hb:b.length<=1000000) (hl:l.length<=1000000):match rP b l with
  | some k=>∀ κ : Bool->Bool->Option R,b7 (B l) (B b) κ = κ true k
  | none=>∃ k,∀ κ : Bool->Bool->Option R,b7 (B l) (B b) κ = κ false k:=by
 have st:∀ κ : Bool->Bool->Option R,b7 (B l) (B b) κ = if (45::45::b).isPrefixOf l then (if DT (l.drop (b.length+2)) then κ (oN (l.drop (b.length+2+2))) true else κ (oN (l.drop (b.length+2))) false) else κ false false:=by
  intro κ
  unfold b7 b7.e
  have e0:(⟨#[45,45]⟩:BA)=B [45,45]:=rfl
  have tr:∀ x:List UInt8,x.length<=1000000->∀ κ : BA->Option R,bo (B x) (⟨#[32,9]⟩:BA) κ = κ (B (dl x)):=fun x hx κ => ov x hx κ
  have tb:∀ x:List UInt8,decide (dl x=[])=oN x:=fun x=>by
   cases h:oN x with
   | true=>exact decide_eq_true ((qp x).2 h)
   | false=>exact decide_eq_false (fun e=>by rw [(qp x).1 e] at h;cases h)
  rw [e0,bu,bu,au (by simp only [List.length_cons,List.length_nil];omega),ct,yD]
  show (if (45::45::b).isPrefixOf l then _ else _)=_
  by_cases h:(45::45::b).isPrefixOf l=true
  ·rw [if_pos h,if_pos h,Bool.not_true,cond_false,yD]
   have hn:([45,45]++b).length=b.length+2:=by simp
   have hdl:(l.drop (b.length+2)).length<=1000000:=by rw [List.length_drop];omega
   rw [hn]
   unfold DT
   by_cases h2:([45,45]:List UInt8).isPrefixOf (l.drop (b.length+2))=true
   ·rw [if_pos h2,if_pos h2,tr _ (by simp only [List.length_drop];omega),dR,Cq,tb,List.drop_drop];rfl
   ·rw [if_neg h2,if_neg h2,tr _ hdl,dR,Cq,tb]
  ·rw [if_neg h,if_neg h];rfl
 unfold rP
 by_cases h:(45::45::b).isPrefixOf l=true
 ·rw [if_pos h]
  simp only [h,if_true] at st
  by_cases h2:DT (l.drop (b.length+2))=true
  ·have h3:=h2
   unfold DT at h3
   rw [if_pos h3]
   simp only [h2,if_true] at st
   cases h4:oN (l.drop (b.length+2+2)) with
   | true=>rw [if_pos rfl];rw [h4] at st;exact st
   | false=>rw [if_neg (by decide)];rw [h4] at st;exact ⟨true,st⟩
  ·have h3:=h2
   unfold DT at h3
   rw [if_neg h3]
   simp only [h2] at st
   cases h4:oN (l.drop (b.length+2)) with
   | true=>rw [if_pos rfl];rw [h4] at st;exact st
   | false=>rw [if_neg (by decide)];rw [h4] at st;exact ⟨false,st⟩
 ·rw [if_neg h]
  simp only [h] at st
  exact ⟨false,st⟩
def pn (s r:List UInt8):Nat:=s.length-r.length
theorem Ba (x y:Int):max2 x y=max x y:=by
 unfold max2
 by_cases h:x<y
 ·rw [aS h];omega
 ·rw [aO h];omega
theorem vZ (x y:Int):min2 x y=min x y:=by
 unfold min2
 by_cases h:y<x
 ·rw [aS h];omega
 ·rw [aO h];omega
def mS (F:Nat) (p:Nat × Nat):AV := .agg [.int ((F+p.1:Nat):Int),.int ((F+p.2:Nat):Int)]
def Cy (F:Nat):Option Nat->Int
 | none => -1
 | some k=>((F+k:Nat):Int)
def pv (frm:Option Nat) (e:Nat):List (Nat × Nat) :=
 match frm with
 | none=>[]
 | some k=>[(k,e)]
def jI (b s:List UInt8) (frm:Option Nat):List UInt8->List (Nat × Nat)
 | []=>pv frm s.length
 | c::t=>match rP b (fF (c::t)).1 with
  | some last=>pv (frm) (max (frm.getD 0) (pn s (c::t)-2))++(if last then [] else jI b s (some (pn s (oK (c::t)))) (oK (c::t)))
  | none=>jI b s frm (oK (c::t))
termination_by r=>r.length
decreasing_by
 all_goals simp_wf
 all_goals have:=uN c t
 all_goals omega
theorem hI (b s:List UInt8) (frm:Option Nat):jI b s frm []=pv frm s.length:=by rw [jI]
theorem vE (frm:Option Nat) (e:Nat):(pv frm e).length<=1:=by unfold pv;cases frm <;> simp
theorem vG (F:Nat) (frm:Option Nat):decide (Cy F frm>=0)=frm.isSome:=by
 cases frm with
 | none=>rfl
 | some k=>exact decide_eq_true (by show (0:Int)<=((F+k:Nat):Int);omega)
theorem u6 (b s:List UInt8) (hs:s.length<=1000000):∀ (n:Nat) (frm:Option Nat) (r:List UInt8),r.length<=n->r <:+ s->(∀ k,frm=some k->k<=s.length)->∀ p∈jI b s frm r,p.1<=p.2/\p.2<=s.length
 | n,frm,[],_,_,hk,p,hp=>by
  rw [hI] at hp
  cases frm with
  | none=>cases hp
  | some k =>
   simp only [pv,List.mem_singleton] at hp
   subst hp
   exact ⟨hk k rfl,Nat.le_refl _⟩
 | 0,_,c::t,h,_,_,_,_=>by simp at h
 | n+1,frm,c::t,h,hr,hk,p,hp=>by
  have hl:=uN c t
  have hsf:=(rb (c::t)).trans hr
  have hlen:=ej hr
  simp only [List.length_cons] at h hlen
  rw [jI] at hp
  cases e:rP b (fF (c::t)).1 with
  | none =>
   rw [e] at hp
   exact u6 b s hs n frm _ (by omega) hsf hk p hp
  | some last =>
   rw [e] at hp
   rcases List.mem_append.1 hp with h1|h1
   ·cases frm with
    | none=>cases h1
    | some k =>
     simp only [pv,List.mem_singleton] at h1
     subst h1
     have:=hk k rfl
     simp only [Option.getD_some]
     unfold pn
     exact ⟨by omega,by simp only [List.length_cons];omega⟩
   ·cases last with
    | true=>cases h1
    | false =>
     refine u6 b s hs n _ _ (by omega) hsf (fun k e => ?_) p h1
     cases e;unfold pn;omega
theorem tp {w s r:List UInt8} {F:Nat} (hw:(w.take (F+s.length)).drop F=s) (h:r <:+ s) (hF:F+s.length<=w.length) (k:Nat) (hk:k<=r.length):(B w).extract (F+pn s r) (F+pn s r+k)=B (r.take k):=by
 have hl:=ej h
 have e:s.drop (pn s r)=r:=tC h
 rw [da]
 congr 1
 have h1:w.drop F=s++w.drop (F+s.length):=by
  have:w.drop F=(w.take (F+s.length)).drop F++w.drop (F+s.length):=by
   conv=>lhs;rw [<- List.take_append_drop (F+s.length) w]
   rw [List.drop_append_of_le_length (by rw [List.length_take];omega)]
  rw [this,hw]
 rw [List.drop_take,<- List.drop_drop,h1,List.drop_append_of_le_length (by unfold pn;omega),e,show F+pn s r+k-(F+pn s r)=k by omega,List.take_append_of_le_length hk]
theorem pI (b s w:List UInt8) (F:Nat) (hw:(w.take (F+s.length)).drop F=s) (hF:F+s.length<=w.length) (hwl:w.length<=900000) (hb:b.length<=1000000) (a1 a2:Int) (κ : LA->BA->Int->Option R):∀ (f:Nat) (r:List UInt8) (frm:Option Nat) (acc:LA),r <:+ s->r.length+1<f->acc.length+r.length<=1000000->(∀ k,frm=some k->k<=s.length) ->
  bc.L4 aE b7 κ f (B b) (Cy F frm) ((F+pn s r:Nat):Int) (B w) a1 a2 ((F+s.length:Nat):Int) acc=κ (acc++(jI b s frm r).map (mS F)) (B w) a1
 | 0,r,frm,acc,_,hf,_,_=>by omega
 | f+1,r,frm,acc,hr,hf,ha,hk=>by
  have hlen:=ej hr
  have hpn:pn s r+r.length=s.length:=by unfold pn;omega
  have hll:=A7 r
  have stop:∀ (g:Nat) (frm:Option Nat) (acc:LA),acc.length<=1000000->bc.L4 aE b7 κ (g+1) (B b) (Cy F frm) ((F+s.length+1:Nat):Int) (B w) a1 a2 ((F+s.length:Nat):Int) acc=κ (acc++(pv frm s.length).map (mS F)) (B w) a1:=by
   intro g frm acc ha
   rw [bc.L4,bc.t4,aO (by omega),vG]
   cases frm with
   | none=>rw [Option.isSome_none,cond_false];simp [pv]
   | some k=>rw [Option.isSome_some,cond_true,au (by omega)];rfl
  have hnl:oK r <:+ s:=(rb r).trans hr
  have hnn:(oK r).length<=s.length:=ej hnl
  have hnx:∀ k,some (pn s (oK r))=some k->k<=s.length:=fun k e=>by cases e;unfold pn;omega
  have sub:∀ p:Nat,p<=s.length->IntKind.wrap .i64 (((F+p:Nat):Int)-2)=((F+p:Nat):Int)-2:=fun p hp=>wrap_i64 (by omega) (by omega)
  have hpc:∀ k,k<=s.length->AV.agg [AV.int (Cy F (some k)),AV.int (max2 (Cy F (some k)) (((F+pn s r:Nat):Int)-2))]=mS F (k,max ((some k).getD 0) (pn s r-2)):=fun k hk=>by
   unfold mS
   show AV.agg [AV.int ((F+k:Nat):Int),AV.int (max2 ((F+k:Nat):Int) _)]=AV.agg [AV.int ((F+k:Nat):Int),AV.int ((F+max k (pn s r-2):Nat):Int)]
   congr 3
   rw [Ba]
   congr 1
   omega
  rw [bc.L4,bc.t4,aS (by omega),tD,bq,au (by omega),bq,au (by omega),au (by omega),Int.toNat_natCast,Int.toNat_natCast,sub _ (by omega)]
  have hx:=tp hw hr hF r.length (Nat.le_refl _)
  rw [List.take_length,show F+pn s r+r.length=F+s.length by omega] at hx
  rw [hx,show (⟨#[13,10]⟩:BA)=B [13,10] from rfl,nL r _ (by omega),lA,vG]
  have hbd:=FW (R:=R) b (fF r).1 hb (by omega)
  have hlast:(if h:r=[] then True else True):=by split <;> trivial
  have run:∀ (X:Option Bool),rP b (fF r).1=X->r≠[]->jI b s frm r=match X with
    | some last=>pv (frm) (max (frm.getD 0) (pn s r-2))++(if last then [] else jI b s (some (pn s (oK r))) (oK r))
    | none=>jI b s frm (oK r):=by
   intro X hX hr0
   cases r with
   | nil=>exact absurd rfl hr0
   | cons c t=>rw [jI,hX]
  cases en:(fF r).2 with
  | some u =>
   have hsp:=iJ en
   have hul:(fF r).1.length+2+u.length=r.length:=by
    have:=congrArg List.length hsp
    simp only [List.length_append,List.length_cons] at this;omega
   have hlx:oK r=u:=by unfold oK;rw [en];rfl
   have hr0:r≠[]:=fun e=>by rw [e] at en;cases en
   have hpu:F+pn s r+(fF r).1.length+2=F+pn s u:=by
    rw [hlx] at hnn;unfold pn;omega
   have hpu':pn s u<=s.length:=by unfold pn;omega
   have w1:IntKind.wrap .i64 (((F+pn s r:Nat):Int)+((fF r).1.length:Int))=((F+pn s r+(fF r).1.length:Nat):Int):=wrap_i64 (by omega) (by omega)
   have w2:IntKind.wrap .i64 (((F+pn s r+(fF r).1.length:Nat):Int)+2)=((F+pn s u:Nat):Int):=by rw [<- hpu];exact wrap_i64 (by omega) (by omega)
   have hm:min2 ((F+pn s u:Nat):Int) ((F+s.length:Nat):Int)=Cy F (some (pn s u)):=by
    show _=((F+pn s u:Nat):Int)
    rw [vZ];omega
   have hxl:=tp hw hr hF (fF r).1.length hll
   rw [A8] at hxl
   simp only
   rw [aS (by omega),w1,w2,hm,bq,au (by omega),bq,au (by omega),au (by omega),Int.toNat_natCast,hxl]
   rw [hlx] at run hnl hnx
   have IH:=fun (frm:Option Nat) (acc:LA) (h1:acc.length+u.length<=1000000) (h2:∀ k,frm=some k->k<=s.length)=>pI b s w F hw hF hwl hb a1 a2 κ f u frm acc hnl (by omega) h1 h2
   cases e:rP b (fF r).1 with
   | none =>
    rw [e] at hbd
    obtain ⟨q,hq⟩:=hbd
    rw [hq,cond_false,run none e hr0]
    exact IH frm acc (by omega) hk
   | some last =>
    rw [e] at hbd
    replace hbd:∀ κ : Bool->Bool->Option R,b7 (B (fF r).1) (B b) κ = κ true last:=hbd
    rw [hbd,cond_true,run (some last) e hr0]
    cases frm with
    | none =>
     rw [Option.isSome_none,cond_false]
     cases last with
     | true=>rw [cond_true];simp [pv]
     | false=>rw [cond_false,IH _ acc (by omega) hnx];simp [pv]
    | some k =>
     rw [Option.isSome_some,cond_true,au (by omega),hpc k (hk k rfl)]
     cases last with
     | true=>rw [cond_true];simp [pv]
     | false=>rw [cond_false,IH _ _ (by simp only [List.length_append,List.length_cons,List.length_nil];omega) hnx];simp [pv]
  | none =>
   have hln:=kB en
   have hlx:oK r=[]:=by unfold oK;rw [en];rfl
   have w1:IntKind.wrap .i64 (((F+s.length:Nat):Int)+1)=((F+s.length+1:Nat):Int):=wrap_i64 (by omega) (by omega)
   have hps:pn s []=s.length:=rfl
   have hm:min2 ((F+s.length+1:Nat):Int) ((F+s.length:Nat):Int)=Cy F (some (pn s [])):=by
    rw [hps]
    show _=((F+s.length:Nat):Int)
    rw [vZ];omega
   simp only
   rw [aO (by omega),w1,hm,bq,au (by omega),bq,au (by omega),au (by omega)]
   rw [<- hln] at hbd
   obtain ⟨g,rfl⟩:∃ g,f=g+1:=⟨f-1,by omega⟩
   by_cases hr0:r=[]
   ·subst hr0
    have e:rP b []=none:=by
     unfold rP
     rw [if_neg (by simp [List.isPrefixOf])]
    rw [e] at hbd
    obtain ⟨q,hq⟩:=hbd
    rw [hq,cond_false,hI]
    exact stop g frm acc (by omega)
   ·rw [hlx] at run
    cases e:rP b r with
    | none =>
     rw [e] at hbd
     obtain ⟨q,hq⟩:=hbd
     rw [hq,cond_false,run none (by rw [<- hln];exact e) hr0]
     show _=κ (acc++(jI b s frm []).map (mS F)) _ _
     rw [hI]
     exact stop g frm acc (by omega)
    | some last =>
     rw [e] at hbd
     replace hbd:∀ κ : Bool->Bool->Option R,b7 (B r) (B b) κ = κ true last:=hbd
     rw [hbd,cond_true,run (some last) (by rw [<- hln];exact e) hr0]
     cases frm with
     | none =>
      rw [Option.isSome_none,cond_false]
      cases last with
      | true=>rw [cond_true];simp [pv]
      | false=>rw [cond_false,stop g _ acc (by omega),hps];simp [pv,hI]
     | some k =>
      rw [Option.isSome_some,cond_true,au (by omega),hpc k (hk k rfl)]
      cases last with
      | true=>rw [cond_true];simp [pv]
      | false =>
       have hrl:1<=r.length:=by
        cases r with
        | nil=>exact absurd rfl hr0
        | cons c t=>simp
       rw [cond_false,stop g _ _ (by simp only [List.length_append,List.length_cons,List.length_nil];omega),hps];simp [pv,hI]
theorem E4 (b s w:List UInt8) (F:Nat) (hw:(w.take (F+s.length)).drop F=s) (hF:F+s.length<=w.length) (hwl:w.length<=900000) (hb:b.length<=1000000) (a1:Int) (κ : LA->BA->Int->Option R) :
  bc (B w) a1 (F:Int) ((F+s.length:Nat):Int) (B b) κ = κ ((jI b s none s).map (mS F)) (B w) a1:=by
 have key:∀ f,1000001<f->bc.e aE b7 (B w) a1 (F:Int) ((F+s.length:Nat):Int) (B b) (bc.L4 aE b7 κ f) κ = κ ((jI b s none s).map (mS F)) (B w) a1:=fun f hf=>by
  have:=pI b s w F hw hF hwl hb a1 (F:Int) κ f s none [] (List.suffix_refl _) (by omega) (by simp;omega) (fun k e=>by cases e)
  rw [show F+pn s s=F by unfold pn;omega] at this
  exact this
 exact key aH (by unfold aH;omega)
def kV (s:List UInt8):List UInt8:=bl (gk (B s)).1
theorem AR (s:List UInt8):∃ n,kV s=s.take n:=by
 unfold kV gk
 rw [kZ]
 cases jN true s with
 | some n=>exact ⟨n,rfl⟩
 | none=>exact ⟨s.length,by rw [List.take_length];rfl⟩
theorem vJ (s:List UInt8):(kV s).length<=s.length:=by
 obtain ⟨n,h⟩:=AR s
 rw [h,List.length_take];omega
theorem BR {w s:List UInt8} {F:Nat} (hw:(w.take (F+s.length)).drop F=s) (hF:F+s.length<=w.length) (hwl:w.length<=200000) (a1:Int) (dg:Bool) (κ : BA->BA->BA->LA->Bool->BA->Bool->BA->Bool->BA->Bool->BA->LA->LA->Bool->BA->Int->Int->Int->Int->Int->BA->Int->Option R) :
  az (B w) a1 (F:Int) ((F+s.length:Nat):Int) dg κ = yh (fun a b c d e f g h i j k l m n o p q r s t u=>κ a b c d e f g h i j k l m n o p q r s t u (B w) a1) (B []) (rK (kV s) dg) (F:Int) ((F+(kV s).length:Nat):Int) ((F+(kV s).length:Nat):Int) ((F+s.length:Nat):Int) 0:=by
 have hl:=vJ s
 unfold az az.e
 rw [bq,au (by omega),bq,au (by omega),au (by rw [tD];omega),Int.toNat_natCast,Int.toNat_natCast,da,hw,xh (B s) (by rw [kZ];omega)]
 have e:(gk (B s)).1=B (kV s):=(oL _).symm
 have w1:IntKind.wrap .i64 ((F:Int)+((kV s).length:Int))=((F+(kV s).length:Nat):Int):=wrap_i64 (by omega) (by omega)
 rw [e,uG (kV s) (by omega),tD,w1]
 exact Ea (by omega) _ _ _ _ _ _ _ _ _ _ _ _ _ _ _ _ _ _ _ _
structure LV where
 p:List UInt8
 v:HdV
 a:Nat
 b:Nat
 c:Nat
 d:Nat
 e:Nat
def eP (x:LV):Bool:=decide (x.v.ty=mb)&&decide (x.v.sub=sW)
def rL:List UInt8:=[109,117,108,116,105,112,97,114,116]
def qG:List UInt8:=[98,111,117,110,100,97,114,121]
def ic:List Pm->List UInt8
 | []=>[]
 | p::r=>if p.1=qG then p.2 else ic r
def dn (w:List UInt8) (x:LV):List UInt8:=(w.take x.d).drop x.c
def BJ (x:LV):Bool := !dd x.v.c1||decide (x.v.c1=[55,98,105,116])||decide (x.v.c1=[56,98,105,116])||decide (x.v.c1=[98,105,110,97,114,121])
def lG (w:List UInt8) (x:LV):List (Nat × Nat) :=
 if eP x then (if BJ x then [(x.c,x.d)] else [])
 else if x.v.ty=rL/\1<=(ic x.v.ps).length/\(ic x.v.ps).length<=70 then (jI (ic x.v.ps) (dn w x) none (dn w x)).map fun p=>(x.c+p.1,x.c+p.2)
 else []
theorem rp (b s:List UInt8):∀ (n:Nat) (frm:Option Nat) (r:List UInt8),r.length<=n->(jI b s frm r).length<=r.length+1
 | n,frm,[],_=>by rw [hI];have:=vE frm s.length;simp;omega
 | 0,_,c::t,h=>by simp at h
 | n+1,frm,c::t,h=>by
  have hl:=uN c t
  simp only [List.length_cons] at h ⊢
  rw [jI]
  cases rP b (fF (c::t)).1 with
  | none =>
   have:=rp b s n frm (oK (c::t)) (by omega)
   simp only;omega
  | some last =>
   have h1:=vE frm (max (frm.getD 0) (pn s (c::t)-2))
   have:=rp b s n (some (pn s (oK (c::t)))) (oK (c::t)) (by omega)
   simp only [List.length_append]
   cases last with
   | true=>simp;omega
   | false=>simp;omega
def oW:List Pm->Prop
 | []=>True
 | p::r=>(∀ q∈r,q.1≠p.1)/\oW r
theorem qs:∀ {a:List Pm} {p:Pm},oW a->(∀ q∈a,q.1≠p.1)->oW (a++[p])
 | [],p,_,_=>⟨fun q hq=>(by cases hq),trivial⟩
 | x::a,p,h,h2=>by
  refine ⟨fun q hq => ?_,qs h.2 (fun q hq=>h2 q (by simp [hq]))⟩
  rcases List.mem_append.1 hq with h3|h3
  ·exact h.1 q h3
  ·rw [List.mem_singleton] at h3
   subst h3
   exact fun e=>h2 x (by simp) e.symm
theorem oF:∀ (n:Nat) (a:List Pm) (r:List UInt8),oW a->a.length<=12->oW (xS n a r)/\(xS n a r).length<=12
 | 0,a,r,h,h2=>by rw [xS];exact ⟨h,h2⟩
 | n+1,a,r,h,h2=>by
  rw [xS]
  by_cases c:a.length<12
  ·rw [if_pos c]
   cases e:zD r with
   | none=>exact ⟨h,h2⟩
   | some z =>
    obtain ⟨m,v,r'⟩:=z
    simp only
    cases e2:a.any (fun p=>p.1 == m) with
    | true=>rw [if_pos rfl];exact oF n a r' h h2
    | false =>
     rw [if_neg (by decide)]
     refine oF n _ r' (qs h fun q hq e3 => ?_) (by simp;omega)
     have:=List.any_eq_false.1 e2 q hq
     exact this (by simpa using e3)
  ·rw [if_neg c];exact ⟨h,h2⟩
theorem Ae (h:List UInt8) (dg:Bool):oW (rK h dg).ps/\(rK h dg).ps.length<=12:=by
 show oW (xe (gV h (⟨#[67,111,110,116,101,110,116,45,84,121,112,101]⟩:BA)) dg).2.2/\(xe (gV h (⟨#[67,111,110,116,101,110,116,45,84,121,112,101]⟩:BA)) dg).2.2.length<=12
 unfold xe
 cases zj (gV h (⟨#[67,111,110,116,101,110,116,45,84,121,112,101]⟩:BA)) with
 | some q=>exact oF _ [] _ trivial (by simp)
 | none =>
  cases dg with
  | true=>exact ⟨trivial,by simp⟩
  | false=>exact ⟨⟨fun q hq=>(by cases hq),trivial⟩,by show Fq.length<=12;decide⟩
theorem wu:∀ {l:List Pm},(∀ q∈l,q.1≠qG)->ic l=[]
 | [],_=>rfl
 | p::r,h=>by rw [ic,if_neg (h p (by simp))];exact wu fun q hq=>h q (by simp [hq])
theorem sF {w:List UInt8} {x:LV} (hcd:x.c<=x.d) (hd:x.d<=w.length) (hw:w.length<=200000) (a1:Int) (κ0:BA->Int->BA->BA->BA->LA->Bool->BA->Bool->BA->Bool->BA->Bool->BA->LA->LA->Bool->BA->Int->Int->Int->Int->Int->Option R) (κ1:LA->BA->Int->BA->BA->BA->LA->Bool->BA->Bool->BA->Bool->BA->Bool->BA->LA->LA->Bool->BA->Int->Int->Int->Int->Int->Option R) (l:List Pm) (hl:l.length<=1000000):∀ (f i:Nat),i<=l.length->l.length<i+f->oW (l.drop i) ->
  aA.L8 br bc κ0 κ1 f (l.map cf) (l.length:Int) (i:Int) (B x.p) (B x.v.ty) (B x.v.sub) (x.v.ps.map cf) x.v.i0 (B x.v.i1) x.v.a0 (B x.v.a1) (dd x.v.c1) (B x.v.c1) (dd x.v.p1) (B x.v.p1) (x.v.pp.map cf) (cg x.v.lg) x.v.w0 (B x.v.w1) (x.a:Int) (x.b:Int) (x.c:Int) (x.d:Int) (x.e:Int) (B w) a1=if 1<=(ic (l.drop i)).length/\(ic (l.drop i)).length<=70 then κ1 ((jI (ic (l.drop i)) (dn w x) none (dn w x)).map (mS x.c)) (B w) a1 (B x.p) (B x.v.ty) (B x.v.sub) (x.v.ps.map cf) x.v.i0 (B x.v.i1) x.v.a0 (B x.v.a1) (dd x.v.c1) (B x.v.c1) (dd x.v.p1) (B x.v.p1) (x.v.pp.map cf) (cg x.v.lg) x.v.w0 (B x.v.w1) (x.a:Int) (x.b:Int) (x.c:Int) (x.d:Int) (x.e:Int) else κ0 (B w) a1 (B x.p) (B x.v.ty) (B x.v.sub) (x.v.ps.map cf) x.v.i0 (B x.v.i1) x.v.a0 (B x.v.a1) (dd x.v.c1) (B x.v.c1) (dd x.v.p1) (B x.v.p1) (x.v.pp.map cf) (cg x.v.lg) x.v.w0 (B x.v.w1) (x.a:Int) (x.b:Int) (x.c:Int) (x.d:Int) (x.e:Int)
 | 0,i,h1,h2,_=>by omega
 | f+1,i,h1,h2,hu=>by
  have hla:(l.map cf).length=l.length:=List.length_map ..
  have hbl:(dn w x).length=x.d-x.c:=by unfold dn;rw [List.length_drop,List.length_take];omega
  rw [aA.L8,aA.t8,hla]
  have hw1:IntKind.wrap .i64 ((i:Int)+1)=((i+1:Nat):Int):=wrap_i64 (by omega) (by omega)
  cases hdr:l.drop i with
  | nil=>have:=drop_nil hdr;rw [aO (by omega),ic,if_neg (by simp)]
  | cons a r =>
   obtain ⟨g1,g2,g3⟩:=cW hdr
   rw [hdr] at hu
   have hr:bZ (l.map cf) (i:Int)=cf a:=eh (by rw [List.getElem?_map,g1];rfl)
   have e0:((cf a).fld 0).s=B a.1:=rfl
   have e1:((cf a).fld 1).s=B a.2:=rfl
   rw [aS (by omega),bq,au (by omega),au (by omega),hr,e0,e1,show (⟨#[98,111,117,110,100,97,114,121]⟩:BA)=B qG from rfl,decide_eq_decide.2 (eI (a:=a.1) (b:=qG)),hw1,sF hcd hd hw a1 κ0 κ1 l hl f (i+1) (by omega) (by omega) (by rw [g3];exact hu.2),g3,ic,tD]
   by_cases e:a.1=qG
   ·have hno:ic r=[]:=wu fun q hq e3=>hu.1 q hq (e3.trans e.symm)
    rw [decide_eq_true e,cond_true,if_pos e,hno]
    by_cases c1:a.2.length>=1
    ·rw [aS (by omega)]
     by_cases c2:a.2.length<=70
     ·rw [aS (by omega),if_pos ⟨c1,c2⟩]
      have hcut:=E4 (R:=R) a.2 (dn w x) w x.c (by rw [hbl];show _=(w.take x.d).drop x.c;rw [show x.c+(x.d-x.c)=x.d by omega]) (by omega) (by omega) (by omega) a1
      rw [hbl,show x.c+(x.d-x.c)=x.d by omega] at hcut
      rw [hcut]
     ·rw [aO (by omega),if_neg (by simp),if_neg (by omega)]
    ·rw [aO (by omega),if_neg (by simp),if_neg (by omega)]
   ·rw [decide_eq_false e,cond_false,if_neg e]
theorem E5 (x:LV) (κ : Bool->BA->BA->BA->LA->Bool->BA->Bool->BA->Bool->BA->Bool->BA->LA->LA->Bool->BA->Int->Int->Int->Int->Int->Option R):br (B x.p) (B x.v.ty) (B x.v.sub) (x.v.ps.map cf) x.v.i0 (B x.v.i1) x.v.a0 (B x.v.a1) (dd x.v.c1) (B x.v.c1) (dd x.v.p1) (B x.v.p1) (x.v.pp.map cf) (cg x.v.lg) x.v.w0 (B x.v.w1) (x.a:Int) (x.b:Int) (x.c:Int) (x.d:Int) (x.e:Int) κ = κ (eP x) (B x.p) (B x.v.ty) (B x.v.sub) (x.v.ps.map cf) x.v.i0 (B x.v.i1) x.v.a0 (B x.v.a1) (dd x.v.c1) (B x.v.c1) (dd x.v.p1) (B x.v.p1) (x.v.pp.map cf) (cg x.v.lg) x.v.w0 (B x.v.w1) (x.a:Int) (x.b:Int) (x.c:Int) (x.d:Int) (x.e:Int):=by
 have hm:∀ a b:List UInt8,decide (B a=B b)=decide (a=b):=fun a b=>decide_eq_decide.2 eI
 unfold br br.e
 rw [show (⟨#[109,101,115,115,97,103,101]⟩:BA)=B mb from rfl,show (⟨#[114,102,99,56,50,50]⟩:BA)=B sW from rfl,hm,hm]
 unfold eP
 cases decide (x.v.ty=mb) with
 | true=>rw [cond_true,Bool.true_and]
 | false=>rw [cond_false,Bool.false_and]
theorem FZ {w:List UInt8} {x:LV} (hcd:x.c<=x.d) (hd:x.d<=w.length) (hw:w.length<=200000) (hu:oW x.v.ps) (hps:x.v.ps.length<=1000000) (a1:Int) (κ0:BA->Int->BA->BA->BA->LA->Bool->BA->Bool->BA->Bool->BA->Bool->BA->LA->LA->Bool->BA->Int->Int->Int->Int->Int->Option R) (κ1:LA->BA->Int->BA->BA->BA->LA->Bool->BA->Bool->BA->Bool->BA->Bool->BA->LA->LA->Bool->BA->Int->Int->Int->Int->Int->Option R) (hκ : κ0 (B w) a1 (B x.p) (B x.v.ty) (B x.v.sub) (x.v.ps.map cf) x.v.i0 (B x.v.i1) x.v.a0 (B x.v.a1) (dd x.v.c1) (B x.v.c1) (dd x.v.p1) (B x.v.p1) (x.v.pp.map cf) (cg x.v.lg) x.v.w0 (B x.v.w1) (x.a:Int) (x.b:Int) (x.c:Int) (x.d:Int) (x.e:Int)=κ1 [] (B w) a1 (B x.p) (B x.v.ty) (B x.v.sub) (x.v.ps.map cf) x.v.i0 (B x.v.i1) x.v.a0 (B x.v.a1) (dd x.v.c1) (B x.v.c1) (dd x.v.p1) (B x.v.p1) (x.v.pp.map cf) (cg x.v.lg) x.v.w0 (B x.v.w1) (x.a:Int) (x.b:Int) (x.c:Int) (x.d:Int) (x.e:Int)) :
  aA (B w) a1 (B x.p) (B x.v.ty) (B x.v.sub) (x.v.ps.map cf) x.v.i0 (B x.v.i1) x.v.a0 (B x.v.a1) (dd x.v.c1) (B x.v.c1) (dd x.v.p1) (B x.v.p1) (x.v.pp.map cf) (cg x.v.lg) x.v.w0 (B x.v.w1) (x.a:Int) (x.b:Int) (x.c:Int) (x.d:Int) (x.e:Int) κ0 κ1=κ1 ((lG w x).map (mS 0)) (B w) a1 (B x.p) (B x.v.ty) (B x.v.sub) (x.v.ps.map cf) x.v.i0 (B x.v.i1) x.v.a0 (B x.v.a1) (dd x.v.c1) (B x.v.c1) (dd x.v.p1) (B x.v.p1) (x.v.pp.map cf) (cg x.v.lg) x.v.w0 (B x.v.w1) (x.a:Int) (x.b:Int) (x.c:Int) (x.d:Int) (x.e:Int):=by
 have hm:∀ a b:List UInt8,decide (B a=B b)=decide (a=b):=fun a b=>decide_eq_decide.2 eI
 have hla:(x.v.ps.map cf).length=x.v.ps.length:=List.length_map ..
 have key:∀ f,1000000<f->aA.e br bc (B w) a1 (B x.p) (B x.v.ty) (B x.v.sub) (x.v.ps.map cf) x.v.i0 (B x.v.i1) x.v.a0 (B x.v.a1) (dd x.v.c1) (B x.v.c1) (dd x.v.p1) (B x.v.p1) (x.v.pp.map cf) (cg x.v.lg) x.v.w0 (B x.v.w1) (x.a:Int) (x.b:Int) (x.c:Int) (x.d:Int) (x.e:Int) (aA.L8 br bc κ0 κ1 f) κ0 κ1=κ1 ((lG w x).map (mS 0)) (B w) a1 (B x.p) (B x.v.ty) (B x.v.sub) (x.v.ps.map cf) x.v.i0 (B x.v.i1) x.v.a0 (B x.v.a1) (dd x.v.c1) (B x.v.c1) (dd x.v.p1) (B x.v.p1) (x.v.pp.map cf) (cg x.v.lg) x.v.w0 (B x.v.w1) (x.a:Int) (x.b:Int) (x.c:Int) (x.d:Int) (x.e:Int):=by
  intro f hf
  unfold aA.e
  rw [E5]
  unfold lG
  cases hmsg:eP x with
  | true =>
   rw [cond_true,if_pos rfl,show (⟨#[55,98,105,116]⟩:BA)=B [55,98,105,116] from rfl,show (⟨#[56,98,105,116]⟩:BA)=B [56,98,105,116] from rfl,show (⟨#[98,105,110,97,114,121]⟩:BA)=B [98,105,110,97,114,121] from rfl,hm,hm,hm]
   have one:([(x.c,x.d)]:List (Nat × Nat)).map (mS 0)=[AV.agg [AV.int (x.c:Int),AV.int (x.d:Int)]]:=by
    show [mS 0 (x.c,x.d)]=_
    unfold mS
    rw [Nat.zero_add,Nat.zero_add]
   unfold BJ
   cases he:dd x.v.c1 with
   | false=>simp only [cond_false,Bool.not_false,Bool.true_or,if_true,one,he]
   | true =>
    rw [cond_true]
    by_cases g1:x.v.c1=[55,98,105,116]
    ·simp only [decide_eq_true g1,Bool.not_true,cond_false,Bool.false_or,Bool.true_or,if_true,one,he]
    ·by_cases g2:x.v.c1=[56,98,105,116]
     ·simp only [decide_eq_true g2,decide_eq_false g1,Bool.not_true,Bool.not_false,cond_false,cond_true,Bool.false_or,Bool.true_or,if_true,one,he]
     ·by_cases g3:x.v.c1=[98,105,110,97,114,121]
      ·simp only [decide_eq_true g3,decide_eq_false g1,decide_eq_false g2,Bool.not_true,Bool.not_false,cond_false,cond_true,Bool.false_or,if_true,one,he]
      ·rw [he] at hκ
       rw [decide_eq_false g3,decide_eq_false g1,decide_eq_false g2]
       exact hκ
  | false =>
   rw [cond_false,if_neg (by decide),show (⟨#[109,117,108,116,105,112,97,114,116]⟩:BA)=B rL from rfl,hm,hla]
   by_cases h1:x.v.ty=rL
   ·rw [decide_eq_true h1,Bool.not_true,cond_false]
    refine (sF hcd hd hw a1 κ0 κ1 x.v.ps hps f 0 (by omega) (by omega) (by rw [List.drop_zero];exact hu)).trans ?_
    rw [List.drop_zero]
    by_cases h2:1<=(ic x.v.ps).length/\(ic x.v.ps).length<=70
    ·rw [if_pos h2,if_pos ⟨h1,h2.1,h2.2⟩,List.map_map]
     congr 1
     refine List.map_congr_left fun p _ => ?_
     show mS x.c p=mS 0 (x.c+p.1,x.c+p.2)
     unfold mS
     rw [Nat.zero_add,Nat.zero_add]
    ·rw [if_neg h2,if_neg (fun h=>h2 ⟨h.2.1,h.2.2⟩)];exact hκ
   ·rw [decide_eq_false h1,Bool.not_false,cond_true,if_neg (fun h=>h1 h.1)];exact hκ
 exact key aH (by unfold aH;omega)
def fU:List UInt8->Nat
 | []=>0
 | c::t=>(if c=13/\t.head? = some 10 then 1 else 0)+fU t
theorem sc:∀ (r:List UInt8),fU r=match (fF r).2 with
  | none=>0
  | some u=>1+fU u
 | []=>rfl
 | c::t=>by
  by_cases e:c=13/\t.head? = some 10
  ·have e':=e
   obtain ⟨rfl,e2⟩:=e
   rw [uB e2,iI,fU,if_pos ⟨rfl,rfl⟩,fU,if_neg (by simp)]
   simp only;omega
  ·rw [hG e,fU,if_neg e,sc t,Nat.zero_add]
theorem sB (κ : Int->Option R):∀ (f:Nat) (r:List UInt8) (n:Nat),r.length<f->n+r.length<=1000000->bp.L6 aN aE κ f (B r) (⟨#[13,10]⟩:BA) (n:Int)=κ ((n+fU r:Nat):Int)
 | 0,r,n,hf,_=>by omega
 | f+1,r,n,hf,hn=>by
  have hsz:(((⟨#[13,10]⟩:BA).size:Nat):Int)=2:=rfl
  rw [bp.L6,bp.t6,show (⟨#[13,10]⟩:BA)=B [13,10] from rfl,nL r _ (by omega),lA,sc]
  rw [show B [13,10]=(⟨#[13,10]⟩:BA) from rfl,hsz]
  cases e:(fF r).2 with
  | none=>simp only;rw [mJ rfl];rfl
  | some u =>
   have hsp:=iJ e
   have hul:(fF r).1.length+2+u.length=r.length:=by
    have:=congrArg List.length hsp
    simp only [List.length_append,List.length_cons] at this;omega
   have w1:IntKind.wrap .i64 (((fF r).1.length:Int)+2)=(((fF r).1.length+2:Nat):Int):=wrap_i64 (by omega) (by omega)
   have w2:IntKind.wrap .i64 ((n:Int)+1)=((n+1:Nat):Int):=wrap_i64 (by omega) (by omega)
   simp only
   rw [mI (by omega),cond_false,w1,w2,tD,bq,au (by omega),bq,au (by omega),au (by omega),Int.toNat_natCast,Int.toNat_natCast,da,List.take_length]
   have:r.drop ((fF r).1.length+2)=u:=by
    have h2:((fF r).1++13::10::u).drop ((fF r).1.length+2)=u:=by rw [<- List.drop_drop,List.drop_left];rfl
    rw [<- hsp] at h2
    exact h2
   rw [this,sB κ f u (n+1) (by omega) (by omega)]
   congr 2;omega
theorem FX (s:List UInt8) (hs:s.length<=900000) (κ : Int->Option R):bp (B s) (⟨#[13,10]⟩:BA) κ = κ (fU s:Int):=by
 have key:∀ f,1000000<f->bp.e aN aE (B s) (⟨#[13,10]⟩:BA) (bp.L6 aN aE κ f) κ = κ (fU s:Int):=fun f hf=>by
  have:=sB κ f s 0 (by omega) (by omega)
  rw [Nat.zero_add] at this
  exact this
 exact key aH (by unfold aH;omega)
def mA (k:Nat):List UInt8:=if k<10 then [UInt8.ofNat (48+k)] else [49,UInt8.ofNat (38+k)]
theorem CG (κ : BA->Option R):bT 1 κ = κ (⟨#[49]⟩:BA):=by kernel_rfl
theorem CH (κ : BA->Option R):bT 2 κ = κ (⟨#[50]⟩:BA):=by kernel_rfl
theorem CI (κ : BA->Option R):bT 3 κ = κ (⟨#[51]⟩:BA):=by kernel_rfl
theorem CJ (κ : BA->Option R):bT 4 κ = κ (⟨#[52]⟩:BA):=by kernel_rfl
theorem CK (κ : BA->Option R):bT 5 κ = κ (⟨#[53]⟩:BA):=by kernel_rfl
theorem CM (κ : BA->Option R):bT 6 κ = κ (⟨#[54]⟩:BA):=by kernel_rfl
theorem CN (κ : BA->Option R):bT 7 κ = κ (⟨#[55]⟩:BA):=by kernel_rfl
theorem CO (κ : BA->Option R):bT 8 κ = κ (⟨#[56]⟩:BA):=by kernel_rfl
theorem CP (κ : BA->Option R):bT 9 κ = κ (⟨#[57]⟩:BA):=by kernel_rfl
theorem AX (κ : BA->Option R):bT 10 κ = κ (⟨#[49,48]⟩:BA):=by kernel_rfl
theorem AY (κ : BA->Option R):bT 11 κ = κ (⟨#[49,49]⟩:BA):=by kernel_rfl
theorem AZ (κ : BA->Option R):bT 12 κ = κ (⟨#[49,50]⟩:BA):=by kernel_rfl
theorem A0 (κ : BA->Option R):bT 13 κ = κ (⟨#[49,51]⟩:BA):=by kernel_rfl
theorem A1 (κ : BA->Option R):bT 14 κ = κ (⟨#[49,52]⟩:BA):=by kernel_rfl
theorem A2 (κ : BA->Option R):bT 15 κ = κ (⟨#[49,53]⟩:BA):=by kernel_rfl
theorem A3 (κ : BA->Option R):bT 16 κ = κ (⟨#[49,54]⟩:BA):=by kernel_rfl
theorem zg (κ : BA->Option R):∀ k:Nat,1<=k->k<=16->bT (k:Int) κ = κ (B (mA k))
 | 0,h,_=>by omega
 | 1,_,_=>CG κ
 | 2,_,_=>CH κ
 | 3,_,_=>CI κ
 | 4,_,_=>CJ κ
 | 5,_,_=>CK κ
 | 6,_,_=>CM κ
 | 7,_,_=>CN κ
 | 8,_,_=>CO κ
 | 9,_,_=>CP κ
 | 10,_,_=>AX κ
 | 11,_,_=>AY κ
 | 12,_,_=>AZ κ
 | 13,_,_=>A0 κ
 | 14,_,_=>A1 κ
 | 15,_,_=>A2 κ
 | 16,_,_=>A3 κ
 | k+17,_,h=>by omega
theorem rY (k:Nat):(mA k).length<=2:=by unfold mA;split <;> simp
def DJ (p:List UInt8) (k:Nat):List UInt8:=if p=[] then mA k else p++46::mA k
theorem BB (p:List UInt8) (k:Nat):(DJ p k).length<=p.length+3:=by
 have:=rY k
 unfold DJ
 split
 ·omega
 ·simp;omega
def cu (x:LV) (is:Bool) (k:Nat):List UInt8:=if eP x then (if is then DJ x.p k else x.p) else DJ x.p k
theorem BP (x:LV) (k:LA) (κ : Bool->BA->BA->BA->LA->Bool->BA->Bool->BA->Bool->BA->Bool->BA->LA->LA->Bool->BA->Int->Int->Int->Int->Int->LA->Option R):ay (B x.p) (B x.v.ty) (B x.v.sub) (x.v.ps.map cf) x.v.i0 (B x.v.i1) x.v.a0 (B x.v.a1) (dd x.v.c1) (B x.v.c1) (dd x.v.p1) (B x.v.p1) (x.v.pp.map cf) (cg x.v.lg) x.v.w0 (B x.v.w1) (x.a:Int) (x.b:Int) (x.c:Int) (x.d:Int) (x.e:Int) k κ = κ (eP x) (B x.p) (B x.v.ty) (B x.v.sub) (x.v.ps.map cf) x.v.i0 (B x.v.i1) x.v.a0 (B x.v.a1) (dd x.v.c1) (B x.v.c1) (dd x.v.p1) (B x.v.p1) (x.v.pp.map cf) (cg x.v.lg) x.v.w0 (B x.v.w1) (x.a:Int) (x.b:Int) (x.c:Int) (x.d:Int) (x.e:Int) k:=by
 have hm:∀ a b:List UInt8,decide (B a=B b)=decide (a=b):=fun a b=>decide_eq_decide.2 eI
 unfold ay ay.e
 rw [show (⟨#[109,101,115,115,97,103,101]⟩:BA)=B mb from rfl,show (⟨#[114,102,99,56,50,50]⟩:BA)=B sW from rfl,hm,hm]
 unfold eP
 cases decide (x.v.ty=mb) with
 | true=>rw [cond_true,Bool.true_and]
 | false=>rw [cond_false,Bool.false_and]
theorem BQ (x:LV) (k:LA) (κ : Bool->BA->BA->BA->LA->Bool->BA->Bool->BA->Bool->BA->Bool->BA->LA->LA->Bool->BA->Int->Int->Int->Int->Int->LA->Option R):af (B x.p) (B x.v.ty) (B x.v.sub) (x.v.ps.map cf) x.v.i0 (B x.v.i1) x.v.a0 (B x.v.a1) (dd x.v.c1) (B x.v.c1) (dd x.v.p1) (B x.v.p1) (x.v.pp.map cf) (cg x.v.lg) x.v.w0 (B x.v.w1) (x.a:Int) (x.b:Int) (x.c:Int) (x.d:Int) (x.e:Int) k κ = κ (eP x) (B x.p) (B x.v.ty) (B x.v.sub) (x.v.ps.map cf) x.v.i0 (B x.v.i1) x.v.a0 (B x.v.a1) (dd x.v.c1) (B x.v.c1) (dd x.v.p1) (B x.v.p1) (x.v.pp.map cf) (cg x.v.lg) x.v.w0 (B x.v.w1) (x.a:Int) (x.b:Int) (x.c:Int) (x.d:Int) (x.e:Int) k:=by
 have hm:∀ a b:List UInt8,decide (B a=B b)=decide (a=b):=fun a b=>decide_eq_decide.2 eI
 unfold af af.e
 rw [show (⟨#[109,101,115,115,97,103,101]⟩:BA)=B mb from rfl,show (⟨#[114,102,99,56,50,50]⟩:BA)=B sW from rfl,hm,hm]
 unfold eP
 cases decide (x.v.ty=mb) with
 | true=>rw [cond_true,Bool.true_and]
 | false=>rw [cond_false,Bool.false_and]
theorem E6 (x:LV) (hp:x.p.length<=1000000) (l:LA) (deep:Nat) (ins:Bool) (k:Nat) (h1:1<=k) (h2:k<=16) (κ : BA->BA->BA->BA->LA->Bool->BA->Bool->BA->Bool->BA->Bool->BA->LA->LA->Bool->BA->Int->Int->Int->Int->Int->LA->Option R) :
  bB (B x.p) (B x.v.ty) (B x.v.sub) (x.v.ps.map cf) x.v.i0 (B x.v.i1) x.v.a0 (B x.v.a1) (dd x.v.c1) (B x.v.c1) (dd x.v.p1) (B x.v.p1) (x.v.pp.map cf) (cg x.v.lg) x.v.w0 (B x.v.w1) (x.a:Int) (x.b:Int) (x.c:Int) (x.d:Int) (x.e:Int) l (deep:Int) ins (k:Int) κ = κ (B (cu x (ins||decide (deep=0)) k)) (B x.p) (B x.v.ty) (B x.v.sub) (x.v.ps.map cf) x.v.i0 (B x.v.i1) x.v.a0 (B x.v.a1) (dd x.v.c1) (B x.v.c1) (dd x.v.p1) (B x.v.p1) (x.v.pp.map cf) (cg x.v.lg) x.v.w0 (B x.v.w1) (x.a:Int) (x.b:Int) (x.c:Int) (x.d:Int) (x.e:Int) l:=by
 have hd:=rY k
 have low:∀ κ : BA->Option R,(bif decide (B x.p=⟨#[]⟩) then bT (k:Int) κ else (bW (decide ((B x.p).size+(⟨#[46]⟩:BA).size<=9223372036854775807)) (bT (k:Int) (fun r=>(bW (decide ((B x.p++(⟨#[46]⟩:BA)).size+r.size<=9223372036854775807)) (κ ((B x.p++(⟨#[46]⟩:BA))++r)))))))=κ (B (DJ x.p k)):=by
  intro κ
  unfold DJ
  rw [dR,Cq]
  by_cases c:x.p=[]
  ·rw [decide_eq_true c,cond_true,if_pos c,zg _ k h1 h2]
  ·rw [decide_eq_false c,cond_false,if_neg c,show (⟨#[46]⟩:BA)=B [46] from rfl,bu,bu,au (by simp only [List.length_cons,List.length_nil];omega),zg _ k h1 h2,ct,bu,bu,au (by simp only [List.length_append,List.length_cons,List.length_nil];omega),ct,List.append_assoc];rfl
 unfold bB bB.e
 rw [BP]
 unfold cu
 have low':=low (fun y=>κ y (B x.p) (B x.v.ty) (B x.v.sub) (x.v.ps.map cf) x.v.i0 (B x.v.i1) x.v.a0 (B x.v.a1) (dd x.v.c1) (B x.v.c1) (dd x.v.p1) (B x.v.p1) (x.v.pp.map cf) (cg x.v.lg) x.v.w0 (B x.v.w1) (x.a:Int) (x.b:Int) (x.c:Int) (x.d:Int) (x.e:Int) l)
 cases hm:eP x with
 | false =>
  rw [cond_false,if_neg (by decide)]
  exact low'
 | true =>
  rw [cond_true,if_pos rfl]
  by_cases hdp:deep=0
  ·rw [aO (by omega),decide_eq_true hdp,Bool.or_true,if_pos rfl]
   exact low'
  ·rw [aS (by omega),decide_eq_false hdp,Bool.or_false]
   cases ins with
   | false=>rw [Bool.not_false,cond_true,if_neg (by decide)]
   | true =>
    rw [Bool.not_true,cond_false,if_pos rfl]
    exact low'
mutual
theorem yF:∀ (a:AV),DV a a=true
 | .no=>rfl
 | .int x=>by show decide (x=x)=true;simp
 | .bool x=>by show (x == x)=true;simp
 | .str x=>by show decide (x=x)=true;simp
 | .sl x=>gv x
 | .agg x=>gv x
theorem gv:∀ (a:LA),gW a a=true
 | []=>rfl
 | x::l=>by show (DV x x&&gW l l)=true;rw [yF x,gv l];rfl
end
def yY:SV->Bool
 | .no | .undef | .int _ _ | .bool _ | .str _ | .nil | .ro _ _ _ | .own _ | .ptr _ _=>true
 | _=>false
theorem yI {x:SV} (h:yY x=true):DC x x=true:=by
 cases x <;> first|rfl|(cases h;done)|skip
 ·show (decide (_=_)&&decide (_=_))=true;simp
 ·show (_ == _)=true;simp
 ·show decide (_=_)=true;simp
 ·show (Nat.beq _ _&&(gW _ _&&(_ == _)))=true;rw [Nat.beq_refl,gv];simp
 ·show Nat.beq _ _=true;rw [Nat.beq_refl]
 ·show (Nat.beq _ _&&Nat.beq _ _)=true;rw [Nat.beq_refl,Nat.beq_refl];rfl
def nG:List SV->Bool
 | []=>true
 | x::l=>bif yY x then nG l else false
theorem lj:∀ {l:List SV},nG l=true->jx l l=true
 | [],_=>rfl
 | x::l,h=>by
  rw [nG] at h
  cases hx:yY x with
  | false=>rw [hx] at h;cases h
  | true =>
   rw [hx,cond_true] at h
   show (DC x x&&jx l l)=true
   rw [yI hx,lj h];rfl
def yX:Obj->Bool
 | .row _ _ _=>true
 | .var _ l=>nG l
 | _=>false
def qS:List (Nat × Obj)->Bool
 | []=>true
 | (_,o)::l=>bif yX o then qS l else false
theorem yH {o:Obj} (h:yX o=true):DB o o=true:=by
 cases o <;> first|(cases h;done)|skip
 ·show (Nat.beq _ _&&(gW _ _&&(_ == _)))=true;rw [Nat.beq_refl,gv];simp
 ·show (Nat.beq _ _&&jx _ _)=true
  rw [Nat.beq_refl,lj h];rfl
theorem pk:∀ {l:List (Nat × Obj)},qS l=true->sd l l=true
 | [],_=>rfl
 | (n,o)::l,h=>by
  rw [qS] at h
  cases hx:yX o with
  | false=>rw [hx] at h;cases h
  | true =>
   rw [hx,cond_true] at h
   show (Nat.beq n n&&(DB o o&&sd l l))=true
   rw [Nat.beq_refl,yH hx,pk h];rfl
theorem wO {s:St} (h1:nG s.slots=true) (h2:qS s.objs=true):yJ s s=true:=by
 show (jx s.slots s.slots&&(sd s.objs s.objs&&Nat.beq s.next s.next))=true
 rw [lj h1,pk h2,Nat.beq_refl];rfl
theorem xC (l:LA) (x y:AV):dW (l++[x]) (l.length:Int) y=l++[y]:=kO l x y [] l.length rfl
def aM (y:LV) (k:LA):AV := .agg [.str (B y.p),.str (B y.v.ty),.str (B y.v.sub),.sl (y.v.ps.map cf),.bool y.v.i0,.str (B y.v.i1),.bool y.v.a0,.str (B y.v.a1),.bool (dd y.v.c1),.str (B y.v.c1),.bool (dd y.v.p1),.str (B y.v.p1),.sl (y.v.pp.map cf),.sl (cg y.v.lg),.bool y.v.w0,.str (B y.v.w1),.int (y.a:Int),.int (y.b:Int),.int (y.c:Int),.int (y.d:Int),.int (y.e:Int),.sl k]
def EU:List UInt8:=[97,112,112,108,105,99,97,116,105,111,110]
def E8:List UInt8:=[111,99,116,101,116,45,115,116,114,101,97,109]
def Cp:List UInt8:=[100,105,103,101,115,116]
def C6 (x:LV):LV:={ x with v:={ x.v with ty:=EU,sub:=E8,ps:=[] } }
def dG (x:LV):Bool:=decide (x.v.ty=rL)&&decide (x.v.sub=Cp)
def cz (w:List UInt8) (x:LV) (em:Bool):LV :=
 if em then (if x.v.ty=kD then { x with e:=fU (dn w x) } else if eP x=true∨x.v.ty=rL then C6 x else x)
 else (if eP x then { x with e:=fU (dn w x) } else x)
def dX (w:List UInt8) (q:Nat × Nat):List UInt8:=(w.take q.2).drop q.1
def dV (w:List UInt8) (q:Nat × Nat) (p:List UInt8) (dg:Bool):LV where
 p:=p
 v:=rK (kV (dX w q)) dg
 a:=q.1
 b:=q.1+(kV (dX w q)).length
 c:=q.1+(kV (dX w q)).length
 d:=q.2
 e:=0
def cm (rec:LV->Nat->LV × LA × Nat) (w:List UInt8) (plc:Nat->List UInt8) (dg:Bool):Nat->LA->Nat->List (Nat × Nat)->LA × Nat
 | _,acc,cnt,[]=>(acc,cnt)
 | i,acc,cnt,q::r=>cm rec w plc dg (i+1) (acc++[aM (rec (dV w q (plc (i+1)) dg) cnt).1 (rec (dV w q (plc (i+1)) dg) cnt).2.1]) (rec (dV w q (plc (i+1)) dg) cnt).2.2 r
def eG (w:List UInt8):Nat->LV->Nat->Bool->Nat->LV × LA × Nat
 | 0,x,_,_,cnt=>(x,[],cnt)
 | n+1,x,deep,is,cnt =>
  if deep<5/\cnt+(lG w x).length<=16 then
   (cz w x (cm (fun y c=>eG w n y (deep+1) (eP x) c) w (cu x is) (dG x) 0 [] (cnt+(lG w x).length) (lG w x)).1.isEmpty,
    cm (fun y c=>eG w n y (deep+1) (eP x) c) w (cu x is) (dG x) 0 [] (cnt+(lG w x).length) (lG w x))
  else (cz w x true,[],cnt)
def C7 (w:List UInt8) (x:LV):Prop:=x.c<=x.d/\x.d<=w.length/\oW x.v.ps/\x.v.ps.length<=12
theorem kQ {w:List UInt8} {q:Nat × Nat} (h1:q.1<=q.2) (h2:q.2<=w.length):(dX w q).length=q.2-q.1:=by
 unfold dX;rw [List.length_drop,List.length_take];omega
theorem zk {w:List UInt8} {q:Nat × Nat} (h1:q.1<=q.2) (h2:q.2<=w.length) (p:List UInt8) (dg:Bool):C7 w (dV w q p dg):=by
 have h3:=kQ h1 h2
 have h4:=vJ (dX w q)
 have h5:=Ae (kV (dX w q)) dg
 refine ⟨?_,h2,h5.1,h5.2⟩
 show q.1+(kV (dX w q)).length<=q.2
 omega
theorem C9 {w:List UInt8} {x:LV} (hw:w.length<=200000) (h:C7 w x):∀ q∈lG w x,q.1<=q.2/\q.2<=w.length:=by
 obtain ⟨h1,h2,_,_⟩:=h
 have hbl:(dn w x).length=x.d-x.c:=by unfold dn;rw [List.length_drop,List.length_take];omega
 intro q hq
 unfold lG at hq
 split at hq
 ·split at hq
  ·rw [List.mem_singleton] at hq
   subst hq
   exact ⟨h1,h2⟩
  ·cases hq
 ·split at hq
  ·obtain ⟨p,hp,rfl⟩:=List.mem_map.1 hq
   have:=u6 (ic x.v.ps) (dn w x) (by omega) _ none (dn w x) (Nat.le_refl _) (List.suffix_refl _) (fun k e=>by cases e) p hp
   simp only
   omega
  ·cases hq
theorem sA {rec:LV->Nat->LV × LA × Nat} {w:List UInt8} (hrec:∀ y c,c<=16->(rec y c).2.2<=16) (plc:Nat->List UInt8) (dg:Bool):∀ (r:List (Nat × Nat)) (i:Nat) (acc:LA) (cnt:Nat),cnt<=16->(cm rec w plc dg i acc cnt r).2<=16
 | [],_,_,cnt,h=>h
 | q::r,i,acc,cnt,h=>by
  rw [cm]
  exact sA hrec plc dg r _ _ _ (hrec _ _ h)
theorem zB (w:List UInt8):∀ (n:Nat) (x:LV) (deep:Nat) (is:Bool) (cnt:Nat),cnt<=16->(eG w n x deep is cnt).2.2<=16
 | 0,_,_,_,_,h=>h
 | n+1,x,deep,is,cnt,h=>by
  rw [eG]
  split
  ·rename_i c
   exact sA (fun y c h=>zB w n y _ _ c h) _ _ _ _ _ _ c.2
  ·exact h
theorem Bg (x:LV) (is:Bool) (k:Nat):(cu x is k).length<=x.p.length+3:=by
 have:=BB x.p k
 unfold cu
 split
 ·split <;> omega
 ·omega
theorem vT (RF:ae.F R) {w:List UInt8} {x:LV} (hx:C7 w x) (hw:w.length<=200000) (cnt:Nat) (κ0:BA->Int->BA->BA->BA->LA->Bool->BA->Bool->BA->Bool->BA->Bool->BA->LA->LA->Bool->BA->Int->Int->Int->Int->Int->LA->Option R) (κ1:BA->Int->BA->BA->BA->Bool->BA->Bool->BA->Bool->BA->Bool->BA->LA->LA->Bool->BA->Int->Int->Int->Int->Int->LA->Option R) (hκ : ∀ (z:LV) (c:Int) (k:LA),κ1 (B w) c (B z.p) (B z.v.ty) (B z.v.sub) z.v.i0 (B z.v.i1) z.v.a0 (B z.v.a1) (dd z.v.c1) (B z.v.c1) (dd z.v.p1) (B z.v.p1) (z.v.pp.map cf) (cg z.v.lg) z.v.w0 (B z.v.w1) (z.a:Int) (z.b:Int) (z.c:Int) (z.d:Int) (z.e:Int) k=κ0 (B w) c (B z.p) (B z.v.ty) (B z.v.sub) ([]:LA) z.v.i0 (B z.v.i1) z.v.a0 (B z.v.a1) (dd z.v.c1) (B z.v.c1) (dd z.v.p1) (B z.v.p1) (z.v.pp.map cf) (cg z.v.lg) z.v.w0 (B z.v.w1) (z.a:Int) (z.b:Int) (z.c:Int) (z.d:Int) (z.e:Int) k) (f:Nat) (k:LA) :
  ae.je aA az bp af bB ay RF κ0 κ1 (f+1) (B x.p) (B x.v.ty) (B x.v.sub) (x.v.ps.map cf) x.v.i0 (B x.v.i1) x.v.a0 (B x.v.a1) (dd x.v.c1) (B x.v.c1) (dd x.v.p1) (B x.v.p1) (x.v.pp.map cf) (cg x.v.lg) x.v.w0 (B x.v.w1) (x.a:Int) (x.b:Int) (x.c:Int) (x.d:Int) (x.e:Int) k (B w) (cnt:Int)=κ0 (B w) (cnt:Int) (B (cz w x k.isEmpty).p) (B (cz w x k.isEmpty).v.ty) (B (cz w x k.isEmpty).v.sub) ((cz w x k.isEmpty).v.ps.map cf) (cz w x k.isEmpty).v.i0 (B (cz w x k.isEmpty).v.i1) (cz w x k.isEmpty).v.a0 (B (cz w x k.isEmpty).v.a1) (dd (cz w x k.isEmpty).v.c1) (B (cz w x k.isEmpty).v.c1) (dd (cz w x k.isEmpty).v.p1) (B (cz w x k.isEmpty).v.p1) ((cz w x k.isEmpty).v.pp.map cf) (cg (cz w x k.isEmpty).v.lg) (cz w x k.isEmpty).v.w0 (B (cz w x k.isEmpty).v.w1) ((cz w x k.isEmpty).a:Int) ((cz w x k.isEmpty).b:Int) ((cz w x k.isEmpty).c:Int) ((cz w x k.isEmpty).d:Int) ((cz w x k.isEmpty).e:Int) k:=by
 obtain ⟨h1,h2,_,_⟩:=hx
 have hm:∀ a b:List UInt8,decide (B a=B b)=decide (a=b):=fun a b=>decide_eq_decide.2 eI
 have hbl:(dn w x).length=x.d-x.c:=by unfold dn;rw [List.length_drop,List.length_take];omega
 rw [ae.je,ae.t15,bq,au (by omega),bq,au (by omega),au (by rw [tD];omega),Int.toNat_natCast,Int.toNat_natCast,da]
 show bp (B (dn w x)) _ _=_
 rw [FX _ (by omega),BQ]
 cases k with
 | cons a k =>
  rw [aS (by simp only [List.length_cons];omega)]
  have:cz w x (a::k).isEmpty=if eP x then { x with e:=fU (dn w x) } else x:=rfl
  rw [this]
  cases eP x with
  | true=>rfl
  | false=>rfl
 | nil =>
  rw [aO (by simp)]
  have:cz w x ([]:LA).isEmpty=(if x.v.ty=kD then { x with e:=fU (dn w x) } else if eP x=true∨x.v.ty=rL then C6 x else x):=rfl
  rw [this,show (⟨#[116,101,120,116]⟩:BA)=B kD from rfl,hm]
  by_cases c1:x.v.ty=kD
  ·rw [decide_eq_true c1,cond_true,if_pos c1]
  ·rw [decide_eq_false c1,cond_false,if_neg c1,BQ,show (⟨#[109,117,108,116,105,112,97,114,116]⟩:BA)=B rL from rfl,hm]
   have off:=hκ (C6 x) (cnt:Int) []
   cases c2:eP x with
   | true=>rw [cond_true,if_pos (.inl rfl)];exact off
   | false =>
    rw [cond_false]
    by_cases c3:x.v.ty=rL
    ·rw [decide_eq_true c3,cond_true,if_pos (.inr c3)];exact off
    ·rw [decide_eq_false c3,cond_false,if_neg (fun h=>h.elim (fun h=>by cases h) c3)]
theorem sE (RF:ae.F R) {w:List UInt8} {x:LV} (hx:C7 w x) (hw:w.length<=200000) (hp:x.p.length<=1000) (deep:Nat) (hdp:deep<=100) (ins:Bool) (rec:LV->Nat->LV × LA × Nat) (hrc:∀ y c,c<=16->(rec y c).2.2<=16)
  (hrec:∀ (y:LV) (cnt:Nat) (κ0:BA->Int->BA->BA->BA->LA->Bool->BA->Bool->BA->Bool->BA->Bool->BA->LA->LA->Bool->BA->Int->Int->Int->Int->Int->LA->Option R) (κ1:BA->Int->BA->BA->BA->Bool->BA->Bool->BA->Bool->BA->Bool->BA->LA->LA->Bool->BA->Int->Int->Int->Int->Int->LA->Option R),C7 w y->y.p.length<=x.p.length+3->cnt<=16->(∀ (z:LV) (c:Int) (k:LA),κ1 (B w) c (B z.p) (B z.v.ty) (B z.v.sub) z.v.i0 (B z.v.i1) z.v.a0 (B z.v.a1) (dd z.v.c1) (B z.v.c1) (dd z.v.p1) (B z.v.p1) (z.v.pp.map cf) (cg z.v.lg) z.v.w0 (B z.v.w1) (z.a:Int) (z.b:Int) (z.c:Int) (z.d:Int) (z.e:Int) k=κ0 (B w) c (B z.p) (B z.v.ty) (B z.v.sub) ([]:LA) z.v.i0 (B z.v.i1) z.v.a0 (B z.v.a1) (dd z.v.c1) (B z.v.c1) (dd z.v.p1) (B z.v.p1) (z.v.pp.map cf) (cg z.v.lg) z.v.w0 (B z.v.w1) (z.a:Int) (z.b:Int) (z.c:Int) (z.d:Int) (z.e:Int) k)->RF (B w) (cnt:Int) (B y.p) (B y.v.ty) (B y.v.sub) (y.v.ps.map cf) y.v.i0 (B y.v.i1) y.v.a0 (B y.v.a1) (dd y.v.c1) (B y.v.c1) (dd y.v.p1) (B y.v.p1) (y.v.pp.map cf) (cg y.v.lg) y.v.w0 (B y.v.w1) (y.a:Int) (y.b:Int) (y.c:Int) (y.d:Int) (y.e:Int) ((deep+1:Nat):Int) (eP x) κ0 κ1=κ0 (B w) ((rec y cnt).2.2:Int) (B (rec y cnt).1.p) (B (rec y cnt).1.v.ty) (B (rec y cnt).1.v.sub) ((rec y cnt).1.v.ps.map cf) (rec y cnt).1.v.i0 (B (rec y cnt).1.v.i1) (rec y cnt).1.v.a0 (B (rec y cnt).1.v.a1) (dd (rec y cnt).1.v.c1) (B (rec y cnt).1.v.c1) (dd (rec y cnt).1.v.p1) (B (rec y cnt).1.v.p1) ((rec y cnt).1.v.pp.map cf) (cg (rec y cnt).1.v.lg) (rec y cnt).1.v.w0 (B (rec y cnt).1.v.w1) ((rec y cnt).1.a:Int) ((rec y cnt).1.b:Int) ((rec y cnt).1.c:Int) ((rec y cnt).1.d:Int) ((rec y cnt).1.e:Int) (rec y cnt).2.1)
  (κ0:BA->Int->BA->BA->BA->LA->Bool->BA->Bool->BA->Bool->BA->Bool->BA->LA->LA->Bool->BA->Int->Int->Int->Int->Int->LA->Option R) (κ1:BA->Int->BA->BA->BA->Bool->BA->Bool->BA->Bool->BA->Bool->BA->LA->LA->Bool->BA->Int->Int->Int->Int->Int->LA->Option R) (hκ : ∀ (z:LV) (c:Int) (k:LA),κ1 (B w) c (B z.p) (B z.v.ty) (B z.v.sub) z.v.i0 (B z.v.i1) z.v.a0 (B z.v.a1) (dd z.v.c1) (B z.v.c1) (dd z.v.p1) (B z.v.p1) (z.v.pp.map cf) (cg z.v.lg) z.v.w0 (B z.v.w1) (z.a:Int) (z.b:Int) (z.c:Int) (z.d:Int) (z.e:Int) k=κ0 (B w) c (B z.p) (B z.v.ty) (B z.v.sub) ([]:LA) z.v.i0 (B z.v.i1) z.v.a0 (B z.v.a1) (dd z.v.c1) (B z.v.c1) (dd z.v.p1) (B z.v.p1) (z.v.pp.map cf) (cg z.v.lg) z.v.w0 (B z.v.w1) (z.a:Int) (z.b:Int) (z.c:Int) (z.d:Int) (z.e:Int) k) (P:List (Nat × Nat)) (hP:P.length<=16) (hin:∀ q∈P,q.1<=q.2/\q.2<=w.length) :
  ∀ (r d:List (Nat × Nat)) (acc:LA) (cnt f:Nat),d++r=P->acc.length=d.length->cnt<=16->3*r.length+2<=f ->
  (ae.M5 aA az bp af bB ay RF κ0 κ1 f).1 (deep:Int) ins (P.length:Int) (d.length:Int) (B x.p) (B x.v.ty) (B x.v.sub) (x.v.ps.map cf) x.v.i0 (B x.v.i1) x.v.a0 (B x.v.a1) (dd x.v.c1) (B x.v.c1) (dd x.v.p1) (B x.v.p1) (x.v.pp.map cf) (cg x.v.lg) x.v.w0 (B x.v.w1) (x.a:Int) (x.b:Int) (x.c:Int) (x.d:Int) (x.e:Int) (B w) (cnt:Int) acc (P.map (mS 0))=κ0 (B w) ((cm rec w (cu x (ins||decide (deep=0))) (dG x) d.length acc cnt r).2:Int) (B (cz w x (cm rec w (cu x (ins||decide (deep=0))) (dG x) d.length acc cnt r).1.isEmpty).p) (B (cz w x (cm rec w (cu x (ins||decide (deep=0))) (dG x) d.length acc cnt r).1.isEmpty).v.ty) (B (cz w x (cm rec w (cu x (ins||decide (deep=0))) (dG x) d.length acc cnt r).1.isEmpty).v.sub) ((cz w x (cm rec w (cu x (ins||decide (deep=0))) (dG x) d.length acc cnt r).1.isEmpty).v.ps.map cf) (cz w x (cm rec w (cu x (ins||decide (deep=0))) (dG x) d.length acc cnt r).1.isEmpty).v.i0 (B (cz w x (cm rec w (cu x (ins||decide (deep=0))) (dG x) d.length acc cnt r).1.isEmpty).v.i1) (cz w x (cm rec w (cu x (ins||decide (deep=0))) (dG x) d.length acc cnt r).1.isEmpty).v.a0 (B (cz w x (cm rec w (cu x (ins||decide (deep=0))) (dG x) d.length acc cnt r).1.isEmpty).v.a1) (dd (cz w x (cm rec w (cu x (ins||decide (deep=0))) (dG x) d.length acc cnt r).1.isEmpty).v.c1) (B (cz w x (cm rec w (cu x (ins||decide (deep=0))) (dG x) d.length acc cnt r).1.isEmpty).v.c1) (dd (cz w x (cm rec w (cu x (ins||decide (deep=0))) (dG x) d.length acc cnt r).1.isEmpty).v.p1) (B (cz w x (cm rec w (cu x (ins||decide (deep=0))) (dG x) d.length acc cnt r).1.isEmpty).v.p1) ((cz w x (cm rec w (cu x (ins||decide (deep=0))) (dG x) d.length acc cnt r).1.isEmpty).v.pp.map cf) (cg (cz w x (cm rec w (cu x (ins||decide (deep=0))) (dG x) d.length acc cnt r).1.isEmpty).v.lg) (cz w x (cm rec w (cu x (ins||decide (deep=0))) (dG x) d.length acc cnt r).1.isEmpty).v.w0 (B (cz w x (cm rec w (cu x (ins||decide (deep=0))) (dG x) d.length acc cnt r).1.isEmpty).v.w1) ((cz w x (cm rec w (cu x (ins||decide (deep=0))) (dG x) d.length acc cnt r).1.isEmpty).a:Int) ((cz w x (cm rec w (cu x (ins||decide (deep=0))) (dG x) d.length acc cnt r).1.isEmpty).b:Int) ((cz w x (cm rec w (cu x (ins||decide (deep=0))) (dG x) d.length acc cnt r).1.isEmpty).c:Int) ((cz w x (cm rec w (cu x (ins||decide (deep=0))) (dG x) d.length acc cnt r).1.isEmpty).d:Int) ((cz w x (cm rec w (cu x (ins||decide (deep=0))) (dG x) d.length acc cnt r).1.isEmpty).e:Int) (cm rec w (cu x (ins||decide (deep=0))) (dG x) d.length acc cnt r).1
 | [],d,acc,cnt,f,hd,ha,hc,hf=>by
  obtain ⟨g,rfl⟩:∃ g,f=g+2:=⟨f-2,by omega⟩
  rw [List.append_nil] at hd
  rw [ae.M5]
  simp only
  rw [ae.t5,hd,aO (by omega)]
  exact vT RF hx hw cnt κ0 κ1 hκ g acc
 | q::r,d,acc,cnt,f,hd,ha,hc,hf=>by
  simp only [List.length_cons] at hf
  obtain ⟨g,rfl⟩:∃ g,f=g+3:=⟨f-3,by omega⟩
  have hm:∀ a b:List UInt8,decide (B a=B b)=decide (a=b):=fun a b=>decide_eq_decide.2 eI
  have hlen:d.length+r.length+1=P.length:=by rw [<- hd];simp;omega
  have hq:q∈P:=by rw [<- hd];simp
  obtain ⟨q1,q2⟩:=hin q hq
  have hget:bZ (P.map (mS 0)) (d.length:Int)=mS 0 q:=eh (by rw [List.getElem?_map,<- hd];simp)
  have hpl:(P.map (mS 0)).length=P.length:=List.length_map ..
  have f0:((mS 0 q).fld 0).i=(q.1:Int):=by show ((0+q.1:Nat):Int)=_;rw [Nat.zero_add]
  have f1:((mS 0 q).fld 1).i=(q.2:Int):=by show ((0+q.2:Nat):Int)=_;rw [Nat.zero_add]
  have hsl:=kQ q1 q2
  have w1:IntKind.wrap .i64 ((d.length:Int)+1)=((d.length+1:Nat):Int):=wrap_i64 (by omega) (by omega)
  have w2:IntKind.wrap .i64 ((deep:Int)+1)=((deep+1:Nat):Int):=wrap_i64 (by omega) (by omega)
  have limb:=fun (dg:Bool)=>BR (R:=R) (w:=w) (s:=dX w q) (F:=q.1) (by rw [hsl,show q.1+(q.2-q.1)=q.2 by omega];rfl) (by omega) hw (cnt:Int) dg
  rw [hsl,show q.1+(q.2-q.1)=q.2 by omega] at limb
  have body:(ae.M5 aA az bp af bB ay RF κ0 κ1 (g+2)).2.1 (deep:Int) ins (d.length:Int) (P.length:Int) (d.length:Int) (B x.p) (B x.v.ty) (B x.v.sub) (x.v.ps.map cf) x.v.i0 (B x.v.i1) x.v.a0 (B x.v.a1) (dd x.v.c1) (B x.v.c1) (dd x.v.p1) (B x.v.p1) (x.v.pp.map cf) (cg x.v.lg) x.v.w0 (B x.v.w1) (x.a:Int) (x.b:Int) (x.c:Int) (x.d:Int) (x.e:Int) (B w) (cnt:Int) acc (B []) (B (dV w q (cu x (ins||decide (deep=0)) (d.length+1)) (dG x)).v.ty) (B (dV w q (cu x (ins||decide (deep=0)) (d.length+1)) (dG x)).v.sub) ((dV w q (cu x (ins||decide (deep=0)) (d.length+1)) (dG x)).v.ps.map cf) (dV w q (cu x (ins||decide (deep=0)) (d.length+1)) (dG x)).v.i0 (B (dV w q (cu x (ins||decide (deep=0)) (d.length+1)) (dG x)).v.i1) (dV w q (cu x (ins||decide (deep=0)) (d.length+1)) (dG x)).v.a0 (B (dV w q (cu x (ins||decide (deep=0)) (d.length+1)) (dG x)).v.a1) (dd (dV w q (cu x (ins||decide (deep=0)) (d.length+1)) (dG x)).v.c1) (B (dV w q (cu x (ins||decide (deep=0)) (d.length+1)) (dG x)).v.c1) (dd (dV w q (cu x (ins||decide (deep=0)) (d.length+1)) (dG x)).v.p1) (B (dV w q (cu x (ins||decide (deep=0)) (d.length+1)) (dG x)).v.p1) ((dV w q (cu x (ins||decide (deep=0)) (d.length+1)) (dG x)).v.pp.map cf) (cg (dV w q (cu x (ins||decide (deep=0)) (d.length+1)) (dG x)).v.lg) (dV w q (cu x (ins||decide (deep=0)) (d.length+1)) (dG x)).v.w0 (B (dV w q (cu x (ins||decide (deep=0)) (d.length+1)) (dG x)).v.w1) ((dV w q (cu x (ins||decide (deep=0)) (d.length+1)) (dG x)).a:Int) ((dV w q (cu x (ins||decide (deep=0)) (d.length+1)) (dG x)).b:Int) ((dV w q (cu x (ins||decide (deep=0)) (d.length+1)) (dG x)).c:Int) ((dV w q (cu x (ins||decide (deep=0)) (d.length+1)) (dG x)).d:Int) ((dV w q (cu x (ins||decide (deep=0)) (d.length+1)) (dG x)).e:Int) (P.map (mS 0))=κ0 (B w) ((cm rec w (cu x (ins||decide (deep=0))) (dG x) d.length acc cnt (q::r)).2:Int) (B (cz w x (cm rec w (cu x (ins||decide (deep=0))) (dG x) d.length acc cnt (q::r)).1.isEmpty).p) (B (cz w x (cm rec w (cu x (ins||decide (deep=0))) (dG x) d.length acc cnt (q::r)).1.isEmpty).v.ty) (B (cz w x (cm rec w (cu x (ins||decide (deep=0))) (dG x) d.length acc cnt (q::r)).1.isEmpty).v.sub) ((cz w x (cm rec w (cu x (ins||decide (deep=0))) (dG x) d.length acc cnt (q::r)).1.isEmpty).v.ps.map cf) (cz w x (cm rec w (cu x (ins||decide (deep=0))) (dG x) d.length acc cnt (q::r)).1.isEmpty).v.i0 (B (cz w x (cm rec w (cu x (ins||decide (deep=0))) (dG x) d.length acc cnt (q::r)).1.isEmpty).v.i1) (cz w x (cm rec w (cu x (ins||decide (deep=0))) (dG x) d.length acc cnt (q::r)).1.isEmpty).v.a0 (B (cz w x (cm rec w (cu x (ins||decide (deep=0))) (dG x) d.length acc cnt (q::r)).1.isEmpty).v.a1) (dd (cz w x (cm rec w (cu x (ins||decide (deep=0))) (dG x) d.length acc cnt (q::r)).1.isEmpty).v.c1) (B (cz w x (cm rec w (cu x (ins||decide (deep=0))) (dG x) d.length acc cnt (q::r)).1.isEmpty).v.c1) (dd (cz w x (cm rec w (cu x (ins||decide (deep=0))) (dG x) d.length acc cnt (q::r)).1.isEmpty).v.p1) (B (cz w x (cm rec w (cu x (ins||decide (deep=0))) (dG x) d.length acc cnt (q::r)).1.isEmpty).v.p1) ((cz w x (cm rec w (cu x (ins||decide (deep=0))) (dG x) d.length acc cnt (q::r)).1.isEmpty).v.pp.map cf) (cg (cz w x (cm rec w (cu x (ins||decide (deep=0))) (dG x) d.length acc cnt (q::r)).1.isEmpty).v.lg) (cz w x (cm rec w (cu x (ins||decide (deep=0))) (dG x) d.length acc cnt (q::r)).1.isEmpty).v.w0 (B (cz w x (cm rec w (cu x (ins||decide (deep=0))) (dG x) d.length acc cnt (q::r)).1.isEmpty).v.w1) ((cz w x (cm rec w (cu x (ins||decide (deep=0))) (dG x) d.length acc cnt (q::r)).1.isEmpty).a:Int) ((cz w x (cm rec w (cu x (ins||decide (deep=0))) (dG x) d.length acc cnt (q::r)).1.isEmpty).b:Int) ((cz w x (cm rec w (cu x (ins||decide (deep=0))) (dG x) d.length acc cnt (q::r)).1.isEmpty).c:Int) ((cz w x (cm rec w (cu x (ins||decide (deep=0))) (dG x) d.length acc cnt (q::r)).1.isEmpty).d:Int) ((cz w x (cm rec w (cu x (ins||decide (deep=0))) (dG x) d.length acc cnt (q::r)).1.isEmpty).e:Int) (cm rec w (cu x (ins||decide (deep=0))) (dG x) d.length acc cnt (q::r)).1:=by
   have hkz:=Bg x (ins||decide (deep=0)) (d.length+1)
   rw [cm,ae.M5]
   simp only
   rw [ae.t8,w1,w2,E6 x (by omega) acc deep ins (d.length+1) (by omega) (by omega),BP]
   refine (hrec (dV w q (cu x (ins||decide (deep=0)) (d.length+1)) (dG x)) cnt _ _ (zk q1 q2 _ _) hkz hc (fun z c k=>rfl)).trans ?_
   rw [au (by omega),au (by omega),bq,au (by omega),au (by simp only [List.length_append,List.length_cons,List.length_nil];omega),xC,wO,Ci,ae.M5]
   ·simp only
    rw [ae.t14,w1]
    have:=sE RF hx hw hp deep hdp ins rec hrc hrec κ0 κ1 hκ P hP hin r (d++[q]) (acc++[aM (rec (dV w q (cu x (ins||decide (deep=0)) (d.length+1)) (dG x)) cnt).1 (rec (dV w q (cu x (ins||decide (deep=0)) (d.length+1)) (dG x)) cnt).2.1]) (rec (dV w q (cu x (ins||decide (deep=0)) (d.length+1)) (dG x)) cnt).2.2 g (by rw [List.append_assoc];exact hd) (by simp [ha]) (hrc _ _ hc) (by omega)
    rw [show (d++[q]).length=d.length+1 by simp] at this
    exact this
   ·rfl
   ·rfl
  rw [ae.M5]
  simp only
  rw [ae.t5,hpl,aS (by omega),bq,au (by omega),au (by omega),hget,f0,f1,limb,limb,show (⟨#[109,117,108,116,105,112,97,114,116]⟩:BA)=B rL from rfl,show (⟨#[100,105,103,101,115,116]⟩:BA)=B Cp from rfl,hm,hm]
  unfold dG at body ⊢
  by_cases c1:x.v.ty=rL
  ·rw [decide_eq_true c1,Bool.true_and] at body
   rw [decide_eq_true c1,cond_true,Bool.true_and]
   exact body
  ·rw [decide_eq_false c1,Bool.false_and] at body
   rw [decide_eq_false c1,cond_false,Bool.false_and]
   exact body
theorem Fu {w:List UInt8} (hw:w.length<=200000):∀ (n fu:Nat) (x:LV) (deep:Nat) (ins:Bool) (cnt:Nat) (κ0:BA->Int->BA->BA->BA->LA->Bool->BA->Bool->BA->Bool->BA->Bool->BA->LA->LA->Bool->BA->Int->Int->Int->Int->Int->LA->Option R) (κ1:BA->Int->BA->BA->BA->Bool->BA->Bool->BA->Bool->BA->Bool->BA->LA->LA->Bool->BA->Int->Int->Int->Int->Int->LA->Option R),C7 w x->x.p.length+3*n<=1000->deep+n=6->1<=n->n<=fu->cnt<=16->(∀ (z:LV) (c:Int) (k:LA),κ1 (B w) c (B z.p) (B z.v.ty) (B z.v.sub) z.v.i0 (B z.v.i1) z.v.a0 (B z.v.a1) (dd z.v.c1) (B z.v.c1) (dd z.v.p1) (B z.v.p1) (z.v.pp.map cf) (cg z.v.lg) z.v.w0 (B z.v.w1) (z.a:Int) (z.b:Int) (z.c:Int) (z.d:Int) (z.e:Int) k=κ0 (B w) c (B z.p) (B z.v.ty) (B z.v.sub) ([]:LA) z.v.i0 (B z.v.i1) z.v.a0 (B z.v.a1) (dd z.v.c1) (B z.v.c1) (dd z.v.p1) (B z.v.p1) (z.v.pp.map cf) (cg z.v.lg) z.v.w0 (B z.v.w1) (z.a:Int) (z.b:Int) (z.c:Int) (z.d:Int) (z.e:Int) k) ->
  ae.R fu (B w) (cnt:Int) (B x.p) (B x.v.ty) (B x.v.sub) (x.v.ps.map cf) x.v.i0 (B x.v.i1) x.v.a0 (B x.v.a1) (dd x.v.c1) (B x.v.c1) (dd x.v.p1) (B x.v.p1) (x.v.pp.map cf) (cg x.v.lg) x.v.w0 (B x.v.w1) (x.a:Int) (x.b:Int) (x.c:Int) (x.d:Int) (x.e:Int) (deep:Int) ins κ0 κ1=κ0 (B w) ((eG w n x deep (ins||decide (deep=0)) cnt).2.2:Int) (B (eG w n x deep (ins||decide (deep=0)) cnt).1.p) (B (eG w n x deep (ins||decide (deep=0)) cnt).1.v.ty) (B (eG w n x deep (ins||decide (deep=0)) cnt).1.v.sub) ((eG w n x deep (ins||decide (deep=0)) cnt).1.v.ps.map cf) (eG w n x deep (ins||decide (deep=0)) cnt).1.v.i0 (B (eG w n x deep (ins||decide (deep=0)) cnt).1.v.i1) (eG w n x deep (ins||decide (deep=0)) cnt).1.v.a0 (B (eG w n x deep (ins||decide (deep=0)) cnt).1.v.a1) (dd (eG w n x deep (ins||decide (deep=0)) cnt).1.v.c1) (B (eG w n x deep (ins||decide (deep=0)) cnt).1.v.c1) (dd (eG w n x deep (ins||decide (deep=0)) cnt).1.v.p1) (B (eG w n x deep (ins||decide (deep=0)) cnt).1.v.p1) ((eG w n x deep (ins||decide (deep=0)) cnt).1.v.pp.map cf) (cg (eG w n x deep (ins||decide (deep=0)) cnt).1.v.lg) (eG w n x deep (ins||decide (deep=0)) cnt).1.v.w0 (B (eG w n x deep (ins||decide (deep=0)) cnt).1.v.w1) ((eG w n x deep (ins||decide (deep=0)) cnt).1.a:Int) ((eG w n x deep (ins||decide (deep=0)) cnt).1.b:Int) ((eG w n x deep (ins||decide (deep=0)) cnt).1.c:Int) ((eG w n x deep (ins||decide (deep=0)) cnt).1.d:Int) ((eG w n x deep (ins||decide (deep=0)) cnt).1.e:Int) (eG w n x deep (ins||decide (deep=0)) cnt).2.1
 | 0,_,_,_,_,_,_,_,_,_,_,h,_,_,_=>by omega
 | _+1,0,_,_,_,_,_,_,_,_,_,_,h,_,_=>by omega
 | n+1,fu+1,x,deep,ins,cnt,κ0,κ1,hx,hp,hn,_,hfu,hc,hκ => by
  rw [ae.R,ae.B]
  have key:∀ f,1000<=f->ae.e aA az bp af bB ay (ae.R fu) (B w) (cnt:Int) (B x.p) (B x.v.ty) (B x.v.sub) (x.v.ps.map cf) x.v.i0 (B x.v.i1) x.v.a0 (B x.v.a1) (dd x.v.c1) (B x.v.c1) (dd x.v.p1) (B x.v.p1) (x.v.pp.map cf) (cg x.v.lg) x.v.w0 (B x.v.w1) (x.a:Int) (x.b:Int) (x.c:Int) (x.d:Int) (x.e:Int) (deep:Int) ins (ae.L2 aA az bp af bB ay (ae.R fu) κ0 κ1 (f+1)) (ae.L5 aA az bp af bB ay (ae.R fu) κ0 κ1 (f+1)) (ae.L8 aA az bp af bB ay (ae.R fu) κ0 κ1 (f+1)) (ae.EA aA az bp af bB ay (ae.R fu) κ0 κ1 (f+1)) (ae.je aA az bp af bB ay (ae.R fu) κ0 κ1 (f+1)) κ0 κ1=κ0 (B w) ((eG w (n+1) x deep (ins||decide (deep=0)) cnt).2.2:Int) (B (eG w (n+1) x deep (ins||decide (deep=0)) cnt).1.p) (B (eG w (n+1) x deep (ins||decide (deep=0)) cnt).1.v.ty) (B (eG w (n+1) x deep (ins||decide (deep=0)) cnt).1.v.sub) ((eG w (n+1) x deep (ins||decide (deep=0)) cnt).1.v.ps.map cf) (eG w (n+1) x deep (ins||decide (deep=0)) cnt).1.v.i0 (B (eG w (n+1) x deep (ins||decide (deep=0)) cnt).1.v.i1) (eG w (n+1) x deep (ins||decide (deep=0)) cnt).1.v.a0 (B (eG w (n+1) x deep (ins||decide (deep=0)) cnt).1.v.a1) (dd (eG w (n+1) x deep (ins||decide (deep=0)) cnt).1.v.c1) (B (eG w (n+1) x deep (ins||decide (deep=0)) cnt).1.v.c1) (dd (eG w (n+1) x deep (ins||decide (deep=0)) cnt).1.v.p1) (B (eG w (n+1) x deep (ins||decide (deep=0)) cnt).1.v.p1) ((eG w (n+1) x deep (ins||decide (deep=0)) cnt).1.v.pp.map cf) (cg (eG w (n+1) x deep (ins||decide (deep=0)) cnt).1.v.lg) (eG w (n+1) x deep (ins||decide (deep=0)) cnt).1.v.w0 (B (eG w (n+1) x deep (ins||decide (deep=0)) cnt).1.v.w1) ((eG w (n+1) x deep (ins||decide (deep=0)) cnt).1.a:Int) ((eG w (n+1) x deep (ins||decide (deep=0)) cnt).1.b:Int) ((eG w (n+1) x deep (ins||decide (deep=0)) cnt).1.c:Int) ((eG w (n+1) x deep (ins||decide (deep=0)) cnt).1.d:Int) ((eG w (n+1) x deep (ins||decide (deep=0)) cnt).1.e:Int) (eG w (n+1) x deep (ins||decide (deep=0)) cnt).2.1:=by
   intro f hf
   obtain ⟨h1,h2,h3,h4⟩:=hx
   have hx:C7 w x:=⟨h1,h2,h3,h4⟩
   have hlp:((lG w x).map (mS 0)).length=(lG w x).length:=List.length_map ..
   have hpb:(lG w x).length<=1000000:=by
    have hbl:(dn w x).length=x.d-x.c:=by unfold dn;rw [List.length_drop,List.length_take];omega
    unfold lG
    split
    ·split <;> simp
    ·split
     ·have:=rp (ic x.v.ps) (dn w x) _ none (dn w x) (Nat.le_refl _)
      rw [List.length_map];omega
     ·simp
   rw [ae.e]
   refine (FZ h1 h2 hw h3 (by omega) (cnt:Int) _ _ (by rfl)).trans ?_
   rw [ae.L2,ae.t2,hlp,wrap_i64 (by omega) (by omega)]
   rw [eG]
   have fin0:=vT (ae.R fu) hx hw cnt κ0 κ1 hκ (f-1) []
   rw [show f-1+1=f by omega] at fin0
   by_cases c1:deep<5
   ·rw [aS (by omega)]
    by_cases c2:cnt+(lG w x).length<=16
    ·rw [aS (by omega),if_pos ⟨c1,c2⟩]
     have hl:=sE (ae.R fu) hx hw (by omega) deep (by omega) ins (fun y c=>eG w n y (deep+1) (eP x) c) (fun y c h=>zB w n y _ _ c h)
      (fun y cnt κ0 κ1 hy hyp hcn hk=>by
       have:=Fu hw n fu y (deep+1) (eP x) cnt κ0 κ1 hy (by omega) (by omega) (by omega) (by omega) hcn hk
       rw [decide_eq_false (show ¬ deep+1=0 by omega),Bool.or_false] at this
       exact this)
      κ0 κ1 hκ (lG w x) (by omega) (C9 hw hx) (lG w x) [] [] (cnt+(lG w x).length) f rfl rfl c2 (by omega)
     exact hl
    ·rw [aO (by omega),if_neg (fun h=>c2 h.2)]
     exact fin0
   ·rw [aO (by omega),if_neg (fun h=>c1 h.1)]
    exact fin0
  exact key (aH-1) (by unfold aH;omega)
theorem known6_holds (κ : Bool->Option R):aV κ = κ true:=by kernel_rfl
def cE (w:List UInt8):LV × LA × Nat:=eG w 6 (dV w (0,w.length) [] false) 0 true 0
theorem Bq (w:List UInt8):dX w (0,w.length)=w:=by unfold dX;rw [List.take_length];rfl
theorem CW (w:List UInt8) (hw:w.length<=200000) (κ : BA->BA->BA->LA->Bool->BA->Bool->BA->Bool->BA->Bool->BA->LA->LA->Bool->BA->Int->Int->Int->Int->Int->LA->Option R):aG (B w) κ = κ (B (cE w).1.p) (B (cE w).1.v.ty) (B (cE w).1.v.sub) ((cE w).1.v.ps.map cf) (cE w).1.v.i0 (B (cE w).1.v.i1) (cE w).1.v.a0 (B (cE w).1.v.a1) (dd (cE w).1.v.c1) (B (cE w).1.v.c1) (dd (cE w).1.v.p1) (B (cE w).1.v.p1) ((cE w).1.v.pp.map cf) (cg (cE w).1.v.lg) (cE w).1.v.w0 (B (cE w).1.v.w1) ((cE w).1.a:Int) ((cE w).1.b:Int) ((cE w).1.c:Int) ((cE w).1.d:Int) ((cE w).1.e:Int) (cE w).2.1:=by
 have key:∀ f,aG.e az ae (B w) (aG.L4 az ae κ (f+1)) κ = κ (B (cE w).1.p) (B (cE w).1.v.ty) (B (cE w).1.v.sub) ((cE w).1.v.ps.map cf) (cE w).1.v.i0 (B (cE w).1.v.i1) (cE w).1.v.a0 (B (cE w).1.v.a1) (dd (cE w).1.v.c1) (B (cE w).1.v.c1) (dd (cE w).1.v.p1) (B (cE w).1.v.p1) ((cE w).1.v.pp.map cf) (cg (cE w).1.v.lg) (cE w).1.v.w0 (B (cE w).1.v.w1) ((cE w).1.a:Int) ((cE w).1.b:Int) ((cE w).1.c:Int) ((cE w).1.d:Int) ((cE w).1.e:Int) (cE w).2.1:=by
  intro f
  have hsl:(dX w (0,w.length)).length=w.length:=kQ (q:=(0,w.length)) (Nat.zero_le _) (Nat.le_refl _)
  have hl:=BR (R:=R) (w:=w) (s:=dX w (0,w.length)) (F:=0) (by rw [Nat.zero_add,hsl];rfl) (by omega) hw 0 false
  rw [hsl,Nat.zero_add] at hl
  unfold aG.e
  rw [tD]
  refine (hl _).trans ?_
  have ho:=fun κ0 κ1=>Fu (R:=R) hw 6 aH (dV w (0,w.length) [] false) 0 false 0 κ0 κ1 (zk (Nat.zero_le _) (Nat.le_refl _) _ _) (by show 0+3*6<=1000;omega) rfl (by omega) (by unfold aH;omega) (by omega)
  unfold yh ae
  refine (ho _ _ ?_).trans ?_
  ·intro z c k;rfl
  ·rw [aG.L4,aG.t4];rfl
 exact key (aH-1)
theorem iE {a b:Int} (h:a≠b):(a == b)=false:=beq_eq_false_iff_ne.2 h
theorem nK {a b:Int} (h:a=b):(a == b)=true:=beq_iff_eq.2 h
def Fa (N:Nat) (y:LV):Prop:=y.a<=y.b/\y.b=y.c/\y.c<=y.d/\y.d<=N
def Gw (N:Nat):Nat->LV->LA->Prop
 | 0,y,k=>Fa N y/\y.p.length<=100/\k=[]
 | n+1,y,k=>Fa N y/\y.p.length+3*(n+1)<=100/\k.length<=16/\(eP y=true->k≠[]->∃ y0 k0 r,k=aM y0 k0::r/\y0.a=y.c/\y0.d=y.d/\Gw N n y0 k0)/\∀ v∈k,∃ y0 k0,v=aM y0 k0/\Gw N n y0 k0
theorem Gw.pl {N:Nat}:∀ {n:Nat} {y:LV} {k:LA},Gw N n y k->Fa N y
 | 0,_,_,h=>h.1
 | _+1,_,_,h=>h.1
def Fc (at' p:List UInt8):List UInt8:=if p=[] then at' else at'++46::p
def F4 (F:Nat) (at':List UInt8) (y:LV):LV:={ y with p:=Fc at' y.p,a:=y.a+F,b:=y.b+F,c:=y.c+F,d:=y.d+F }
def FE (F:Nat) (q:Nat × Nat):Nat × Nat:=(q.1+F,q.2+F)
def B3 (w v:List UInt8) (F:Nat):Prop:=∃ z,w.drop F=v++z
theorem B3.slice {w v:List UInt8} {F:Nat} (h:B3 w v F) {a b:Nat} (hb:b<=v.length):(w.take (b+F)).drop (a+F)=(v.take b).drop a:=by
 obtain ⟨z,hz⟩:=h
 have e1:(w.take (b+F)).drop F=v.take b:=by
  rw [List.drop_take,hz,show b+F-F=b by omega,List.take_append_of_le_length hb]
 rw [show a+F=F+a by omega,<- List.drop_drop,e1]
theorem B3.F5 {w v:List UInt8} {F:Nat} (h:B3 w v F) {q:Nat × Nat} (hb:q.2<=v.length):dX w (FE F q)=dX v q:=h.slice hb
theorem B3.body {w v:List UInt8} {F:Nat} (h:B3 w v F) {x:LV} (hb:x.d<=v.length) (at':List UInt8):dn w (F4 F at' x)=dn v x:=h.slice hb
def eQ (l:List UInt8):Prop:=∀ c∈l,c≠13
theorem eQ.tl {c:UInt8} {l:List UInt8} (h:eQ (c::l)):eQ l:=fun d hd=>h d (by simp [hd])
theorem mN (t:List UInt8):∀ (l:List UInt8) (b:Bool),eQ l->jN b (l++t)=(jN (b&&l.isEmpty) t).map (l.length+·)
 | [],b,_=>by
  rw [show (b&&([]:List UInt8).isEmpty)=b by cases b <;> rfl]
  show jN b t=(jN b t).map (0+·)
  rw [En]
 | c::l,b,h=>by
  rw [List.cons_append,fD _ _ _ (fun e=>h c (by simp) e.1),mN t l false h.tl,Em _ _ _ (l.length+1) rfl]
  rw [show (b&&(c::l).isEmpty)=false by cases b <;> rfl,Bool.false_and];rfl
theorem gZ (t:List UInt8):∀ (l cur:List UInt8),eQ l->cR cur (l++13::10::t)=(cur++l++[13,10])::cR [] t
 | [],cur,_=>by rw [List.nil_append,l9,List.append_nil]
 | c::l,cur,h=>by
  rw [List.cons_append,sP _ _ _ (fun e=>h c (by simp) e.1),gZ t l _ h.tl]
  simp
def dK:List UInt8:=[13,10,13,10]
theorem AQ {q:List UInt8} (hq:eQ q) (h0:q≠[]) (v:List UInt8):kV ((q++dK)++v)=q++dK:=by
 have e:jN true ((q++dK)++v)=some (q++dK).length:=by
  rw [List.append_assoc,mN _ q true hq]
  have:q.isEmpty=false:=by cases q with|nil=>exact absurd rfl h0|cons c t=>rfl
  rw [this]
  show (jN false (13::10::13::10::v)).map _=_
  rw [e8,e8]
  simp [dK]
 unfold kV gk
 rw [kZ,e]
 show bl (B _)=_
 rw [kZ,List.take_left']
 rfl
theorem AU {a q:List UInt8} (ha:eQ a) (a0:a≠[]) (hq:eQ q) (h0:q≠[]) (v:List UInt8):kV ((a++13::10::(q++dK))++v)=a++13::10::(q++dK):=by
 have e:jN true ((a++13::10::(q++dK))++v)=some (a++13::10::(q++dK)).length:=by
  rw [List.append_assoc,mN _ a true ha]
  have:q.isEmpty=false:=by cases q with|nil=>exact absurd rfl h0|cons c t=>rfl
  have:a.isEmpty=false:=by cases a with|nil=>exact absurd rfl a0|cons c t=>rfl
  rw [this]
  show (jN false (13::10::((q++dK)++v))).map _=_
  rw [e8,if_neg (by decide),List.append_assoc,mN _ q true hq,‹q.isEmpty=false›]
  show (((jN false (13::10::13::10::v)).map _).map _).map _=_
  rw [e8,e8]
  simp [dK];omega
 unfold kV gk
 rw [kZ,e]
 show bl (B _)=_
 rw [kZ,List.take_left']
 rfl
theorem pP:cR [] [13,10]=[[13,10]]:=by rw [l9,cR];rfl
theorem rj {q:List UInt8} (h0:q≠[]):(q++[13,10] != [13,10])=true:=by
 rw [bne_iff_ne];intro e
 have:=congrArg List.length e
 simp at this
 exact h0 this
theorem w8 {q:List UInt8} (hq:eQ q) (h0:q≠[]):du (q++dK)=[q++[13,10]]:=by
 unfold du dK
 rw [gZ _ q [] hq,pP,List.nil_append,List.takeWhile_cons,rj h0]
 rfl
theorem w9 {a q:List UInt8} (ha:eQ a) (a0:a≠[]) (hq:eQ q) (h0:q≠[]):du (a++13::10::(q++dK))=[a++[13,10],q++[13,10]]:=by
 unfold du dK
 rw [gZ _ a [] ha,gZ _ q [] hq,pP,List.nil_append,List.nil_append,List.takeWhile_cons,rj a0]
 show (a++[13,10])::List.takeWhile _ _=_
 rw [List.takeWhile_cons,rj h0]
 rfl
theorem tR (x:List UInt8):dY (x++[13,10])=x:=by
 unfold dY
 have e:(x++[13,10]).length-2=x.length:=by simp
 rw [e,List.drop_left,if_pos rfl,List.take_left]
theorem nu {nm:List UInt8} (h:∀ c∈nm,iG c=true) (h0:nm≠[]) (val:List UInt8):fresh (nm++58::(val++[13,10]))=(nm,val,nm++58::(val++[13,10])):=by
 have e1:gC (nm++58::(val++[13,10]))=nm:=by
  unfold gC
  rw [List.takeWhile_append_of_pos h,List.takeWhile_cons_of_neg (by decide),List.append_nil]
 have e2:jS (nm++58::(val++[13,10]))=nm.length:=by
  unfold jS
  rw [e1,List.drop_left,List.takeWhile_cons_of_neg (by decide)];rfl
 have e3:fw (nm++58::(val++[13,10]))=true:=by
  unfold fw
  rw [e1,e2,decide_eq_true h0,List.getElem?_append_right (Nat.le_refl _),Nat.sub_self];rfl
 unfold fresh
 rw [e3,cond_true,e1,e2,<- List.drop_drop,List.drop_left]
 show (nm,dY (val++[13,10]),_)=_
 rw [tR]
theorem ue {nm:List UInt8} (h:∀ c∈nm,iG c=true) (h0:nm≠[]) {val:List UInt8} (hn:eQ (nm++58::val)):ee ((nm++58::val)++dK)=[(nm,dl val,nm++58::(val++[13,10]))]:=by
 unfold ee
 rw [w8 hn (by simp),List.append_assoc,List.cons_append,cP,cP,nu h h0]
 simp [named,ik,h0]
theorem uf {nm n2:List UInt8} (h:∀ c∈nm,iG c=true) (h0:nm≠[]) {val v2:List UInt8} (hn:eQ (nm++58::val)) (h':∀ c∈n2,iG c=true) (h0':n2≠[]) (hn':eQ (n2++58::v2)) :
  ee ((nm++58::val)++13::10::((n2++58::v2)++dK))=[(nm,dl val,nm++58::(val++[13,10])),(n2,dl v2,n2++58::(v2++[13,10]))]:=by
 unfold ee
 rw [w9 hn (by simp) hn' (by simp),List.append_assoc,List.cons_append,List.append_assoc,List.cons_append,cP,cP]
 have hb:c8 ((n2++58::(v2++[13,10])).headD 0)=false:=by
  cases n2 with
  | nil=>exact absurd rfl h0'
  | cons c t =>
   have:=h' c (by simp)
   show c8 c=false
   unfold iG at this
   unfold c8
   by_cases e1:c=32
   ·subst e1;revert this;decide
   ·by_cases e2:c=9
    ·subst e2;revert this;decide
    ·simp [e1,e2]
 rw [hb,cond_false,cP,nu h h0,nu h' h0']
 simp [named,ik,h0,h0']
theorem qc (x:List UInt8) {c:UInt8} (h:c8 c=false):eA c8 (x++[c])=x++[c]:=by
 unfold eA
 rw [List.reverse_append]
 show (List.dropWhile c8 (c::x.reverse)).reverse=_
 rw [List.dropWhile_cons_of_neg (by rw [h];decide)]
 simp
theorem Ad (c:UInt8) (x:List UInt8) (d:UInt8) (hc:c8 c=false) (hd:c8 d=false):dl (32::(c::x++[d]))=c::x++[d]:=by
 unfold dl
 rw [List.dropWhile_cons_of_pos (by decide),List.cons_append,List.dropWhile_cons_of_neg (by rw [hc];decide)]
 exact qc (c::x) hd
theorem vi {d:UInt8} (hd:c8 d=false):dl [32,d]=[d]/\dl [d]=[d]:=by
 have h1:dl [d]=[d]:=by
  unfold dl
  rw [List.dropWhile_cons_of_neg (by rw [hd];decide)]
  exact qc [] hd
 refine ⟨?_,h1⟩
 unfold dl at h1 ⊢
 rw [List.dropWhile_cons_of_pos (by decide)]
 exact h1
def uS:List UInt8:=[83,117,98,106,101,99,116]
def Am:List UInt8:=[67,111,110,116,101,110,116,45,84,121,112,101]
def DE:List UInt8:=[117,108,116,105,112,97,114,116,47,77,105,120,101,100,32,59,32,66,111,117,110,100,97,114,121,61,34]
def fS (b:List UInt8):List UInt8:=77::(DE++b)++[34]
def kC (b:List UInt8):List UInt8:=(uS++58::[32,120])++13::10::((Am++58::(32::fS b))++dK)
def wh (b:List UInt8):Prop:=∀ c∈b,(97<=c.toNat/\c.toNat<=122)∨(48<=c.toNat/\c.toNat<=57)
theorem wh.ne {b:List UInt8} (h:wh b) {d:UInt8} (hd:¬ ((97<=d.toNat/\d.toNat<=122)∨(48<=d.toNat/\d.toNat<=57))):∀ c∈b,c≠d:=fun c hc e=>hd (e▸h c hc)
theorem eQ.Cc {a b:List UInt8} (h:eQ a) (h':eQ b):eQ (a++b):=fun c hc=>(List.mem_append.1 hc).elim (h c) (h' c)
theorem eF {a:List UInt8} (h:a.all (fun c=>c != 13)=true):eQ a:=fun c hc e=>by
 have:=List.all_eq_true.1 h c hc
 rw [e] at this;exact absurd this (by decide)
theorem zx {b:List UInt8} (h:wh b):eQ (Am++58::(32::fS b)):=by
 have:Am++58::(32::fS b)=(Am++58::32::77::DE)++(b++[34]):=by simp [fS,DE]
 rw [this]
 exact (eF (by decide)).Cc (eQ.Cc (h.ne (by decide)) (eF (by decide)))
theorem D0 {b:List UInt8} (h:wh b) (v:List UInt8):kV (kC b++v)=kC b:=AU (eF (by decide)) (by decide) (zx h) (by simp) v
theorem uW {a:List UInt8} (h:a.all iG=true):∀ c∈a,iG c=true:=List.all_eq_true.1 h
theorem yO {b:List UInt8} (h:wh b):∃ x y,ee (kC b)=[(uS,[120],x),(Am,fS b,y)]:=by
 have:=uf (nm:=uS) (n2:=Am) (val:=[32,120]) (v2:=32::fS b) (uW (by decide)) (by decide) (eF (by decide)) (uW (by decide)) (by decide) (zx h)
 rw [(vi (d:=120) (by decide)).1,show dl (32::fS b)=fS b from Ad 77 (DE++b) 34 (by decide) (by decide)] at this
 exact ⟨_,_,this⟩
def An:BA:=⟨#[67,111,110,116,101,110,116,45,84,121,112,101]⟩
theorem E0 {b:List UInt8} (h:wh b):gV (kC b) An=fS b:=by
 obtain ⟨x,y,e⟩:=yO h
 unfold gV lY
 rw [e]
 show bl ((gw An [vB (uS,[120],x),vB (Am,fS b,y)]).getD _)=_
 rw [gw,if_neg,gw,if_pos]
 ·rfl
 ·show dq Am=dq (bl An);rfl
 ·show ¬ dq uS=dq (bl An);decide
theorem Er:∀ (b a:List UInt8),wh b->qw a (b++[34])=some (a++b,[])
 | [],a,_=>by rw [List.nil_append,qw,if_pos rfl,List.append_nil]
 | c::t,a,h=>by
  have h1:=h.ne (d:=34) (by decide) c (by simp)
  have h2:=h.ne (d:=92) (by decide) c (by simp)
  rw [List.cons_append,qw.eq_def]
  simp only [h1,h2,if_false]
  rw [Er t _ (fun d hd=>h d (by simp [hd]))]
  simp
def xp:List UInt8:=[109,105,120,101,100]
theorem E2 {b:List UInt8} (h:wh b):xe (fS b) false=(rL,xp,[(qG,b)]):=by
 have e1:dt (cx (fS b))=[77,117,108,116,105,112,97,114,116]:=by rw [show cx (fS b)=fS b from gf _ (by decide) (by decide) (by decide)];rfl
 have e2:cx (eC (cx (fS b)))=47::([77,105,120,101,100,32,59,32,66,111,117,110,100,97,114,121,61,34]++(b++[34])):=by
  rw [show cx (fS b)=fS b from gf _ (by decide) (by decide) (by decide),show eC (fS b)=47::([77,105,120,101,100,32,59,32,66,111,117,110,100,97,114,121,61,34]++(b++[34])) by unfold fS;rw [List.cons_append,List.append_assoc];rfl]
  exact gf _ (by decide) (by decide) (by decide)
 have e3:cx ([77,105,120,101,100,32,59,32,66,111,117,110,100,97,114,121,61,34]++(b++[34]))=[77,105,120,101,100,32,59,32,66,111,117,110,100,97,114,121,61,34]++(b++[34]):=gf _ (by decide) (by decide) (by decide)
 have e4:zj (fS b)=some (rL,xp,[32,59,32,66,111,117,110,100,97,114,121,61,34]++(b++[34])):=by
  unfold zj
  rw [e1,if_neg (by decide),e2]
  simp only [if_true]
  rw [e3]
  rw [if_neg (by show ¬ [77,105,120,101,100]=([]:List UInt8);decide)]
  rfl
 unfold xe
 rw [e4]
 simp only
 have e5:zD ([32,59,32,66,111,117,110,100,97,114,121,61,34]++(b++[34]))=some (qG,b,[]):=by
  unfold zD
  rw [show cx ([32,59,32,66,111,117,110,100,97,114,121,61,34]++(b++[34]))=59::([32,66,111,117,110,100,97,114,121,61,34]++(b++[34])) from (m5 _ (.inl rfl)).trans (gf _ (by decide) (by decide) (by decide))]
  simp only [if_true]
  rw [show cx ([32,66,111,117,110,100,97,114,121,61,34]++(b++[34]))=[66,111,117,110,100,97,114,121,61,34]++(b++[34]) from (m5 _ (.inl rfl)).trans (gf _ (by decide) (by decide) (by decide))]
  rw [show dt ([66,111,117,110,100,97,114,121,61,34]++(b++[34]))=[66,111,117,110,100,97,114,121] from rfl,show eC ([66,111,117,110,100,97,114,121,61,34]++(b++[34]))=61::34::(b++[34]) from rfl]
  rw [if_neg (by decide),show cx (61::34::(b++[34]))=61::34::(b++[34]) from gf _ (by decide) (by decide) (by decide)]
  simp only [if_true]
  rw [show cx (34::(b++[34]))=34::(b++[34]) from gf _ (by decide) (by decide) (by decide)]
  rw [show xV (34::(b++[34]))=qw [] (b++[34]) by unfold xV;exact if_pos rfl,Er b [] h]
  rfl
 unfold xw
 obtain ⟨n,hn⟩:∃ n,([32,59,32,66,111,117,110,100,97,114,121,61,34]++(b++[34])).length+1=n+1+1:=⟨b.length+13,by simp⟩
 rw [hn]
 rw [xS,if_pos (by decide),e5]
 simp only [List.any_nil,Bool.false_eq_true,if_false,List.nil_append]
 rw [xS,if_pos (show ([(qG,b)]:List Pm).length<12 by show 1<12;decide),show zD []=none from by unfold zD;rw [mK]]
theorem Ev {b:List UInt8} (h:wh b):(rK (kC b) false).ty=rL/\(rK (kC b) false).sub=xp/\ic (rK (kC b) false).ps=b:=by
 have e:xe (gV (kC b) An) false=(rL,xp,[(qG,b)]):=by rw [E0 h,E2 h]
 refine ⟨congrArg (fun z=>z.1) e,congrArg (fun z=>z.2.1) e,?_⟩
 show ic (xe (gV (kC b) An) false).2.2=b
 rw [e,ic,if_pos rfl]
def sU:List UInt8:=[67,111,110,116,101,110,116,45,73,100]
def js (d:UInt8):List UInt8:=(sU++58::[32,d])++dK
def gS (d:UInt8):Prop:=48<=d.toNat/\d.toNat<=57
theorem gS.bl {d:UInt8} (h:gS d):c8 d=false:=by
 unfold c8
 have e1:d≠32:=fun e=>by subst e;revert h;unfold gS;decide
 have e2:d≠9:=fun e=>by subst e;revert h;unfold gS;decide
 simp [e1,e2]
theorem tY {d:UInt8} (h:gS d):eQ (sU++58::[32,d]):=by
 have:sU++58::[32,d]=(sU++[58,32])++[d]:=rfl
 rw [this]
 refine (eF (by decide)).Cc fun c hc e => ?_
 rw [List.mem_singleton] at hc
 subst hc;subst e;revert h;unfold gS;decide
theorem DZ {d:UInt8} (h:gS d) (v:List UInt8):kV (js d++v)=js d:=AQ (tY h) (by simp) v
theorem yN {d:UInt8} (h:gS d):∃ x,ee (js d)=[(sU,[d],x)]:=by
 have:=ue (nm:=sU) (val:=[32,d]) (uW (by decide)) (by decide) (tY h)
 rw [(vi h.bl).1] at this
 exact ⟨_,this⟩
def Eg:BA:=⟨#[67,111,110,116,101,110,116,45,73,100]⟩
theorem Eu {d:UInt8} (h:gS d):(rK (js d) false).ty=kD/\(rK (js d) false).i0=true/\(rK (js d) false).i1=[d]:=by
 obtain ⟨x,e⟩:=yN h
 have e1:gV (js d) An=[]:=by
  unfold gV lY
  rw [e]
  show bl ((gw An [vB (sU,[d],x)]).getD _)=_
  rw [gw,if_neg,gw]
  ·rfl
  ·show ¬ dq sU=dq (bl An);decide
 have e2:gw Eg (lY (js d))=some (B [d]):=by
  unfold lY
  rw [e]
  show gw Eg [vB (sU,[d],x)]=_
  rw [gw,if_pos]
  ·rfl
  ·show dq sU=dq (bl Eg);rfl
 refine ⟨?_,?_,?_⟩
 ·show (xe (gV (js d) An) false).1=_
  rw [e1]
  have:zj []=none:=by unfold zj;rw [mK];rfl
  unfold xe
  rw [this];rfl
 ·show (gw Eg (lY (js d))).isSome=true
  rw [e2];rfl
 ·have e3:∀ n,n=Eg->dl (gV (js d) n)=[d]:=fun n hn=>by
   subst hn
   unfold gV;rw [e2]
   exact (vi h.bl).2
  unfold rK
  dsimp only
  exact e3 _ rfl
def c2:List UInt8:=[13,10]
def c4:List UInt8:=[13,10,13,10]
def DU (c:List UInt8):Bool:=decide (c.drop (c.length-2)=[13,10])
def GL:List (List UInt8)->Prop
 | []=>True
 | [c]=>c≠[]
 | c::d::r=>c≠[]/\DU c=true/\GL (d::r)
theorem GL.tail {c:List UInt8} {r:List (List UInt8)} (h:GL (c::r)):c≠[]/\(r≠[]->DU c=true)/\GL r:=by
 cases r with
 | nil=>exact ⟨h,fun e=>absurd rfl e,trivial⟩
 | cons d t=>exact ⟨h.1,fun _=>h.2.1,h.2.2⟩
def EC (v:AV):Bool:=bif decide ((v.fld 1).s=(⟨#[109,101,115,115,97,103,101]⟩:BA)) then decide ((v.fld 2).s=(⟨#[114,102,99,56,50,50]⟩:BA)) else false
def zM (v:AV) (ins:Bool) (m:Int):Option (AV × Bool) :=
 if (v.fld 1).s=(⟨#[109,117,108,116,105,112,97,114,116]⟩:BA)/\((v.fld 21).l.length:Int)>0 then (if m<1∨m>((v.fld 21).l.length:Int) then none else some (bZ (v.fld 21).l (m-1),true)) else some (v,ins&&(m == 1))
def xy (v:AV) (ins:Bool) (m:Int):Option (AV × Bool):=if ins=false/\EC v=true/\((v.fld 21).l.length:Int)>0 then zM (bZ (v.fld 21).l 0) true m else zM v ins m
def F1:Option (AV × Bool)->Option AV
 | some (u,true)=>some u
 | _=>none
def Bt (v:AV) (ins:Bool) (m:Int):Option AV:=if m=0 then none else F1 (xy v ins m)
def Es (κ0:BA->BA->BA->Bool->BA->Bool->BA->Bool->BA->Bool->BA->Bool->BA->Int->Int->Int->Int->Int->Bool->Option R) (κ1:BA->BA->BA->LA->Bool->BA->Bool->BA->Bool->BA->Bool->BA->LA->LA->Bool->BA->Int->Int->Int->Int->Int->LA->Bool->Option R):Option (AV × Bool)->Option R
 | none=>κ0 (⟨#[]⟩:BA) (⟨#[]⟩:BA) (⟨#[]⟩:BA) false (⟨#[]⟩:BA) false (⟨#[]⟩:BA) false (⟨#[]⟩:BA) false (⟨#[]⟩:BA) false (⟨#[]⟩:BA) 0 0 0 0 0 false
 | some (u,ok)=>κ1 (u.fld 0).s (u.fld 1).s (u.fld 2).s (u.fld 3).l (u.fld 4).b (u.fld 5).s (u.fld 6).b (u.fld 7).s (u.fld 8).b (u.fld 9).s (u.fld 10).b (u.fld 11).s (u.fld 12).l (u.fld 13).l (u.fld 14).b (u.fld 15).s (u.fld 16).i (u.fld 17).i (u.fld 18).i (u.fld 19).i (u.fld 20).i (u.fld 21).l ok
def EW (κ0:BA->BA->BA->Bool->BA->Bool->BA->Bool->BA->Bool->BA->Bool->BA->Int->Int->Int->Int->Int->Bool->Option R) (kk:BA->BA->BA->LA->Bool->BA->Bool->BA->Bool->BA->Bool->BA->LA->LA->Bool->BA->Int->Int->Int->Int->Int->LA->Option R):Option AV->Option R
 | none=>κ0 (⟨#[]⟩:BA) (⟨#[]⟩:BA) (⟨#[]⟩:BA) false (⟨#[]⟩:BA) false (⟨#[]⟩:BA) false (⟨#[]⟩:BA) false (⟨#[]⟩:BA) false (⟨#[]⟩:BA) 0 0 0 0 0 false
 | some u=>kk (u.fld 0).s (u.fld 1).s (u.fld 2).s (u.fld 3).l (u.fld 4).b (u.fld 5).s (u.fld 6).b (u.fld 7).s (u.fld 8).b (u.fld 9).s (u.fld 10).b (u.fld 11).s (u.fld 12).l (u.fld 13).l (u.fld 14).b (u.fld 15).s (u.fld 16).i (u.fld 17).i (u.fld 18).i (u.fld 19).i (u.fld 20).i (u.fld 21).l
theorem D6 (v:AV) (κ : Bool->BA->BA->BA->LA->Bool->BA->Bool->BA->Bool->BA->Bool->BA->LA->LA->Bool->BA->Int->Int->Int->Int->Int->LA->Option R):af (v.fld 0).s (v.fld 1).s (v.fld 2).s (v.fld 3).l (v.fld 4).b (v.fld 5).s (v.fld 6).b (v.fld 7).s (v.fld 8).b (v.fld 9).s (v.fld 10).b (v.fld 11).s (v.fld 12).l (v.fld 13).l (v.fld 14).b (v.fld 15).s (v.fld 16).i (v.fld 17).i (v.fld 18).i (v.fld 19).i (v.fld 20).i (v.fld 21).l κ = κ (EC v) (v.fld 0).s (v.fld 1).s (v.fld 2).s (v.fld 3).l (v.fld 4).b (v.fld 5).s (v.fld 6).b (v.fld 7).s (v.fld 8).b (v.fld 9).s (v.fld 10).b (v.fld 11).s (v.fld 12).l (v.fld 13).l (v.fld 14).b (v.fld 15).s (v.fld 16).i (v.fld 17).i (v.fld 18).i (v.fld 19).i (v.fld 20).i (v.fld 21).l:=by
 unfold af af.e EC
 cases decide ((v.fld 1).s=(⟨#[109,101,115,115,97,103,101]⟩:BA)) with
 | true=>rfl
 | false=>rfl
theorem ru (v:AV) (ins:Bool) (m:Int) (hm:0<=m) (hm2:m<=100000000000) (κ0:BA->BA->BA->Bool->BA->Bool->BA->Bool->BA->Bool->BA->Bool->BA->Int->Int->Int->Int->Int->Bool->Option R) (κ1:BA->BA->BA->LA->Bool->BA->Bool->BA->Bool->BA->Bool->BA->LA->LA->Bool->BA->Int->Int->Int->Int->Int->LA->Bool->Option R):bm.t3 κ0 κ1 ins m (v.fld 0).s (v.fld 1).s (v.fld 2).s (v.fld 3).l (v.fld 4).b (v.fld 5).s (v.fld 6).b (v.fld 7).s (v.fld 8).b (v.fld 9).s (v.fld 10).b (v.fld 11).s (v.fld 12).l (v.fld 13).l (v.fld 14).b (v.fld 15).s (v.fld 16).i (v.fld 17).i (v.fld 18).i (v.fld 19).i (v.fld 20).i (v.fld 21).l (⟨#[]⟩:BA) (⟨#[]⟩:BA) (⟨#[]⟩:BA) false (⟨#[]⟩:BA) false (⟨#[]⟩:BA) false (⟨#[]⟩:BA) false (⟨#[]⟩:BA) false (⟨#[]⟩:BA) 0 0 0 0 0=Es κ0 κ1 (zM v ins m):=by
 have rest:(bif ins then κ1 (v.fld 0).s (v.fld 1).s (v.fld 2).s (v.fld 3).l (v.fld 4).b (v.fld 5).s (v.fld 6).b (v.fld 7).s (v.fld 8).b (v.fld 9).s (v.fld 10).b (v.fld 11).s (v.fld 12).l (v.fld 13).l (v.fld 14).b (v.fld 15).s (v.fld 16).i (v.fld 17).i (v.fld 18).i (v.fld 19).i (v.fld 20).i (v.fld 21).l (m == 1) else κ1 (v.fld 0).s (v.fld 1).s (v.fld 2).s (v.fld 3).l (v.fld 4).b (v.fld 5).s (v.fld 6).b (v.fld 7).s (v.fld 8).b (v.fld 9).s (v.fld 10).b (v.fld 11).s (v.fld 12).l (v.fld 13).l (v.fld 14).b (v.fld 15).s (v.fld 16).i (v.fld 17).i (v.fld 18).i (v.fld 19).i (v.fld 20).i (v.fld 21).l false)=κ1 (v.fld 0).s (v.fld 1).s (v.fld 2).s (v.fld 3).l (v.fld 4).b (v.fld 5).s (v.fld 6).b (v.fld 7).s (v.fld 8).b (v.fld 9).s (v.fld 10).b (v.fld 11).s (v.fld 12).l (v.fld 13).l (v.fld 14).b (v.fld 15).s (v.fld 16).i (v.fld 17).i (v.fld 18).i (v.fld 19).i (v.fld 20).i (v.fld 21).l (ins&&(m == 1)):=by cases ins <;> rfl
 rw [bm.t3]
 unfold zM
 by_cases c1:(v.fld 1).s=(⟨#[109,117,108,116,105,112,97,114,116]⟩:BA)
 ·by_cases c2:((v.fld 21).l.length:Int)>0
  ·rw [if_pos ⟨c1,c2⟩,aS c1,aS c2]
   by_cases c3:m<1
   ·rw [aS c3,if_pos (.inl c3)];rfl
   ·by_cases c4:m>((v.fld 21).l.length:Int)
    ·rw [aO c3,aS c4,if_pos (.inr c4)];rfl
    ·have hw:IntKind.wrap .i64 (m-1)=m-1:=wrap_i64 (by omega) (by omega)
     rw [aO c3,aO c4,if_neg (fun e=>e.elim c3 c4),hw,bq,au (by omega),au (by omega)];rfl
  ·rw [if_neg (fun e=>c2 e.2),aS c1,aO c2];exact rest
 ·rw [if_neg (fun e=>c1 e.1),aO c1];exact rest
theorem wj:∀ (fu:Nat) (v:AV) (ins:Bool) (m:Int),(ins=false->2<=fu)->1<=fu->0<=m->m<=100000000000->∀ (κ0:BA->BA->BA->Bool->BA->Bool->BA->Bool->BA->Bool->BA->Bool->BA->Int->Int->Int->Int->Int->Bool->Option R) (κ1:BA->BA->BA->LA->Bool->BA->Bool->BA->Bool->BA->Bool->BA->LA->LA->Bool->BA->Int->Int->Int->Int->Int->LA->Bool->Option R),bm.R fu (v.fld 0).s (v.fld 1).s (v.fld 2).s (v.fld 3).l (v.fld 4).b (v.fld 5).s (v.fld 6).b (v.fld 7).s (v.fld 8).b (v.fld 9).s (v.fld 10).b (v.fld 11).s (v.fld 12).l (v.fld 13).l (v.fld 14).b (v.fld 15).s (v.fld 16).i (v.fld 17).i (v.fld 18).i (v.fld 19).i (v.fld 20).i (v.fld 21).l ins m κ0 κ1=Es κ0 κ1 (xy v ins m)
 | 0,_,_,_,_,h,_,_=>by omega
 | fu+1,v,ins,m,h2,_,hm,hm2=>fun κ0 κ1=>by
  have hL:bm.L3 af (bm.R fu) κ0 κ1 aH=bm.t3 κ0 κ1:=rfl
  rw [bm.R,bm.B,bm.e]
  unfold xy
  cases ins with
  | true =>
   rw [if_neg (fun e=>by cases e.1)]
   refine (cond_false _ _).trans ?_
   rw [hL];exact ru v true m hm hm2 κ0 κ1
  | false =>
   refine (cond_true _ _).trans ?_
   refine (D6 v _).trans ?_
   cases hmsg:EC v with
   | false =>
    rw [cond_false,hL,if_neg (fun e=>by cases e.2.1)];exact ru v false m hm hm2 κ0 κ1
   | true =>
    rw [cond_true]
    by_cases hk:((v.fld 21).l.length:Int)>0
    ·rw [if_pos ⟨rfl,rfl,hk⟩,aS hk,au hk]
     have ih:=wj fu (bZ (v.fld 21).l 0) true m (fun h=>by cases h) (by have:=h2 rfl;omega) hm hm2 κ0 κ1
     unfold xy at ih
     rw [if_neg (fun e=>by cases e.1)] at ih
     exact ih
    ·rw [if_neg (fun e=>hk e.2.2),aO hk,hL];exact ru v false m hm hm2 κ0 κ1
theorem FH (v:AV) (ins:Bool) (p:BA) {n:Int} (h0:0<=n) (h1:n<=100000000000) (hnum:∀ κ : Int->Option R,bX p κ = κ n) (κ0:BA->BA->BA->Bool->BA->Bool->BA->Bool->BA->Bool->BA->Bool->BA->Int->Int->Int->Int->Int->Bool->Option R) (kk:BA->BA->BA->LA->Bool->BA->Bool->BA->Bool->BA->Bool->BA->LA->LA->Bool->BA->Int->Int->Int->Int->Int->LA->Option R):ck.b bX bm κ0 kk p (v.fld 0).s (v.fld 1).s (v.fld 2).s (v.fld 3).l (v.fld 4).b (v.fld 5).s (v.fld 6).b (v.fld 7).s (v.fld 8).b (v.fld 9).s (v.fld 10).b (v.fld 11).s (v.fld 12).l (v.fld 13).l (v.fld 14).b (v.fld 15).s (v.fld 16).i (v.fld 17).i (v.fld 18).i (v.fld 19).i (v.fld 20).i (v.fld 21).l ins=EW κ0 kk (Bt v ins n):=by
 unfold ck.b Bt
 rw [hnum]
 by_cases c:n=0
 ·rw [nK c,cond_true,if_pos c];rfl
 ·rw [iE c,cond_false,if_neg c]
  refine (wj (R:=R) aH v ins n (fun _=>by unfold aH;omega) (by unfold aH;omega) h0 h1 _ _).trans ?_
  rcases xy v ins n with _|⟨u,ok⟩
  ·rfl
  ·cases ok <;> rfl
theorem xa (p:BA) (κ : Int->Option R):aE p (⟨#[46]⟩:BA) κ = κ (Lib.index (bl p) [46]):=by
 unfold aE aE.e cT
 rw [au (.inr rfl)];rfl
theorem B8 (v:AV) (q:BA) (f:Nat) (ins:Bool) (p:BA) (κ0:BA->BA->BA->Bool->BA->Bool->BA->Bool->BA->Bool->BA->Bool->BA->Int->Int->Int->Int->Int->Bool->Option R) (κ1:BA->BA->BA->LA->Bool->BA->Bool->BA->Bool->BA->Bool->BA->LA->LA->Bool->BA->Int->Int->Int->Int->Int->LA->Bool->Option R):ck.L bX bm aE κ0 κ1 q (f+1) ins p (v.fld 0).s (v.fld 1).s (v.fld 2).s (v.fld 3).l (v.fld 4).b (v.fld 5).s (v.fld 6).b (v.fld 7).s (v.fld 8).b (v.fld 9).s (v.fld 10).b (v.fld 11).s (v.fld 12).l (v.fld 13).l (v.fld 14).b (v.fld 15).s (v.fld 16).i (v.fld 17).i (v.fld 18).i (v.fld 19).i (v.fld 20).i (v.fld 21).l=(bif decide (Lib.index (bl p) [46]<0) then ck.b bX bm κ0 (fun y0 y1 y2 y3 y4 y5 y6 y7 y8 y9 y10 y11 y12 y13 y14 y15 y16 y17 y18 y19 y20 y21=>κ1 q y1 y2 y3 y4 y5 y6 y7 y8 y9 y10 y11 y12 y13 y14 y15 y16 y17 y18 y19 y20 y21 true) p (v.fld 0).s (v.fld 1).s (v.fld 2).s (v.fld 3).l (v.fld 4).b (v.fld 5).s (v.fld 6).b (v.fld 7).s (v.fld 8).b (v.fld 9).s (v.fld 10).b (v.fld 11).s (v.fld 12).l (v.fld 13).l (v.fld 14).b (v.fld 15).s (v.fld 16).i (v.fld 17).i (v.fld 18).i (v.fld 19).i (v.fld 20).i (v.fld 21).l ins else bW (decide (Lib.index (bl p) [46]+1<=(p.size:Int))) (ck.b bX bm κ0 (ck.L bX bm aE κ0 κ1 q f false (p.extract ((Lib.index (bl p) [46]).toNat+1) p.size)) (p.extract 0 (Lib.index (bl p) [46]).toNat) (v.fld 0).s (v.fld 1).s (v.fld 2).s (v.fld 3).l (v.fld 4).b (v.fld 5).s (v.fld 6).b (v.fld 7).s (v.fld 8).b (v.fld 9).s (v.fld 10).b (v.fld 11).s (v.fld 12).l (v.fld 13).l (v.fld 14).b (v.fld 15).s (v.fld 16).i (v.fld 17).i (v.fld 18).i (v.fld 19).i (v.fld 20).i (v.fld 21).l ins)):=by
 rw [ck.L];unfold ck.t
 exact xa p _
theorem Cw (v:AV) (q:BA) (hq:q≠⟨#[]⟩) (hs:q.size<281474976710656) (κ0:BA->BA->BA->Bool->BA->Bool->BA->Bool->BA->Bool->BA->Bool->BA->Int->Int->Int->Int->Int->Bool->Option R) (κ1:BA->BA->BA->LA->Bool->BA->Bool->BA->Bool->BA->Bool->BA->LA->LA->Bool->BA->Int->Int->Int->Int->Int->LA->Bool->Option R):ck (v.fld 0).s (v.fld 1).s (v.fld 2).s (v.fld 3).l (v.fld 4).b (v.fld 5).s (v.fld 6).b (v.fld 7).s (v.fld 8).b (v.fld 9).s (v.fld 10).b (v.fld 11).s (v.fld 12).l (v.fld 13).l (v.fld 14).b (v.fld 15).s (v.fld 16).i (v.fld 17).i (v.fld 18).i (v.fld 19).i (v.fld 20).i (v.fld 21).l q κ0 κ1=ck.L bX bm aE κ0 κ1 q aH true q (v.fld 0).s (v.fld 1).s (v.fld 2).s (v.fld 3).l (v.fld 4).b (v.fld 5).s (v.fld 6).b (v.fld 7).s (v.fld 8).b (v.fld 9).s (v.fld 10).b (v.fld 11).s (v.fld 12).l (v.fld 13).l (v.fld 14).b (v.fld 15).s (v.fld 16).i (v.fld 17).i (v.fld 18).i (v.fld 19).i (v.fld 20).i (v.fld 21).l:=by
 unfold ck
 rw [aO hq,au hs]
def lQ (raw:BA) (a b:Int):BA × Bool:=if a<0∨b<a∨b>(raw.size:Int) then (⟨#[]⟩,false) else (raw.extract a.toNat b.toNat,true)
theorem zY (raw:BA) (a b:Int) (κ : BA->Bool->Option R):cA raw a b κ = κ (lQ raw a b).1 (lQ raw a b).2:=by
 unfold cA cA.e lQ
 by_cases c1:a<0
 ·rw [aS c1,if_pos (.inl c1)]
 ·by_cases c2:b<a
  ·rw [aO c1,aS c2,if_pos (.inr (.inl c2))]
  ·by_cases c3:b>(raw.size:Int)
   ·rw [aO c1,aO c2,aS c3,if_pos (.inr (.inr c3))]
   ·rw [aO c1,aO c2,aO c3,if_neg (fun e=>e.elim c1 fun e=>e.elim c2 c3),bq,au (by omega),bq,au (by omega),au (by omega)]
theorem DP {a b:Int} (h:a≠b):(a != b)=true:=bne_iff_ne.2 h
theorem yr {a b:Int} (h:a=b):(a != b)=false:=by rw [h];simp
theorem BC (raw:BA) (v u:AV) (q:BA) (hq:q≠⟨#[]⟩) (hf:∀ (κ0:BA->BA->BA->Bool->BA->Bool->BA->Bool->BA->Bool->BA->Bool->BA->Int->Int->Int->Int->Int->Bool->Option R) (κ1:BA->BA->BA->LA->Bool->BA->Bool->BA->Bool->BA->Bool->BA->LA->LA->Bool->BA->Int->Int->Int->Int->Int->LA->Bool->Option R),ck (v.fld 0).s (v.fld 1).s (v.fld 2).s (v.fld 3).l (v.fld 4).b (v.fld 5).s (v.fld 6).b (v.fld 7).s (v.fld 8).b (v.fld 9).s (v.fld 10).b (v.fld 11).s (v.fld 12).l (v.fld 13).l (v.fld 14).b (v.fld 15).s (v.fld 16).i (v.fld 17).i (v.fld 18).i (v.fld 19).i (v.fld 20).i (v.fld 21).l q κ0 κ1=κ1 q (u.fld 1).s (u.fld 2).s (u.fld 3).l (u.fld 4).b (u.fld 5).s (u.fld 6).b (u.fld 7).s (u.fld 8).b (u.fld 9).s (u.fld 10).b (u.fld 11).s (u.fld 12).l (u.fld 13).l (u.fld 14).b (u.fld 15).s (u.fld 16).i (u.fld 17).i (u.fld 18).i (u.fld 19).i (u.fld 20).i (u.fld 21).l true) (κ : BA->Bool->Option R):ao raw (v.fld 0).s (v.fld 1).s (v.fld 2).s (v.fld 3).l (v.fld 4).b (v.fld 5).s (v.fld 6).b (v.fld 7).s (v.fld 8).b (v.fld 9).s (v.fld 10).b (v.fld 11).s (v.fld 12).l (v.fld 13).l (v.fld 14).b (v.fld 15).s (v.fld 16).i (v.fld 17).i (v.fld 18).i (v.fld 19).i (v.fld 20).i (v.fld 21).l q 0 κ = κ (lQ raw (u.fld 18).i (u.fld 19).i).1 (lQ raw (u.fld 18).i (u.fld 19).i).2:=by
 have hL:ao.tM ck bC af cA cF κ aH=ao.t10 cA cF κ := rfl
 unfold ao ao.e
 refine (hf _ _).trans ?_
 rw [Bool.not_true,cond_false,decide_eq_false hq,Bool.not_false,cond_true,yr rfl,cond_false,hL,ao.t10,nK rfl,cond_true,aO hq,zY]
theorem yb {A B:Type} {S:A->B->Prop}:∀ {l:List A} {l':List B},PW S l l'->l'.length=l.length
 | [],[],_=>rfl
 | _::_,_::_,h=>by simp only [List.length_cons,yb h.2]
 | [],_::_,h=>h.elim
 | _::_,[],h=>h.elim
theorem CD (c:UInt8) (hc:c≠46):Lib.index [c] [46] = -1:=by
 rw [dN]
 have h1:([46]:List UInt8).isPrefixOf [c]=false:=by simp [List.isPrefixOf,Ne.symm hc]
 rw [h1];rfl
def F6:List UInt8:=[122,113,122,113,122,113]
def DF (v:List UInt8):Prop:=∀ a t,v≠a++(F6++t)
theorem kA:∀ {v e:List UInt8},(fF v).2=none->fF (v++13::10::e)=(v,some e)
 | [],e,_=>iI e
 | c::t,e,h=>by
  by_cases x:c=13/\t.head? = some 10
  ·obtain ⟨rfl,e2⟩:=x
   rw [uB e2,iI] at h;cases h
  ·rw [hG x] at h
   have e':¬ (c=13/\(t++13::10::e).head? = some 10):=fun y=>by
    cases t with
    | nil=>have:=y.2;simp at this
    | cons d t=>exact x ⟨y.1,y.2⟩
   rw [List.cons_append,hG e',kA h]
theorem gA:∀ {l:List UInt8} (u:List UInt8),(∀ c∈l,c≠13)->fF (l++13::10::u)=(l,some u):=fun {l} u h=>by
 refine kA ?_
 induction l with
 | nil=>rfl
 | cons c t ih =>
  rw [hG (fun e=>h c (by simp) e.1)]
  exact ih fun d hd=>h d (by simp [hd])
theorem gG {b s l u:List UInt8} {frm:Option Nat} {r:List UInt8} (h:fF r=(l,some u)):jI b s frm r=match rP b l with
  | some last=>pv frm (max (frm.getD 0) (pn s r-2))++(if last then [] else jI b s (some (pn s u)) u)
  | none=>jI b s frm u:=by
 cases r with
 | nil=>cases h
 | cons c t =>
  have hx:oK (c::t)=u:=by unfold oK;rw [h];rfl
  rw [jI,h,hx];try rfl
theorem DF.left {a b:List UInt8} (h:DF (a++b)):DF a:=fun x t e=>h x (t++b) (by rw [e];simp)
theorem DF.right {a b:List UInt8} (h:DF (a++b)):DF b:=fun x t e=>h (a++x) t (by rw [e];simp)
def wJ (t:List UInt8):Prop:=∀ c∈t,c≠45/\c≠13/\c≠10
theorem wJ.cr {t:List UInt8} (h:wJ t):eQ t:=fun c hc=>(h c hc).2.1
abbrev Pt:=UInt8 × List UInt8
def chunk (b:List UInt8) (d:UInt8) (t rest:List UInt8):List UInt8:=(45::45::(b++[32,9]))++13::10::((sU++58::[32,d])++13::10::([]++13::10::(t++13::10::rest)))
theorem vt (b:List UInt8) {l:List UInt8} (h:∀ c∈l,l.head? = some c->c≠45):rP b l=none:=by
 unfold rP
 cases l with
 | nil=>rfl
 | cons c t =>
  rw [if_neg]
  intro e
  obtain ⟨z,hz⟩:=List.isPrefixOf_iff_prefix.1 e
  exact h c (by simp) rfl (List.cons.inj hz).1.symm
theorem Ce (b:List UInt8):rP b (45::45::(b++[32,9]))=some false:=by
 unfold rP
 have e:(45::45::b).isPrefixOf (45::45::(b++[32,9]))=true:=List.isPrefixOf_iff_prefix.2 ⟨[32,9],rfl⟩
 have e2:(45::45::(b++[32,9])).drop (b.length+2)=[32,9]:=by
  show (b++[32,9]).drop b.length=_
  exact List.drop_left
 rw [if_pos e,e2];rfl
theorem Cd (b:List UInt8):rP b (45::45::(b++[45,45]))=some true:=by
 unfold rP
 have e:(45::45::b).isPrefixOf (45::45::(b++[45,45]))=true:=List.isPrefixOf_iff_prefix.2 ⟨[45,45],rfl⟩
 have e2:(45::45::(b++[45,45])).drop (b.length+2)=[45,45]:=by
  show (b++[45,45]).drop b.length=_
  exact List.drop_left
 have e3:(45::45::(b++[45,45])).drop (b.length+2+2)=[]:=by rw [<- List.drop_drop,e2];rfl
 rw [if_pos e,e2,e3];rfl
theorem nc (d:UInt8) (t rest:List UInt8):(sU++58::[32,d])++13::10::([]++13::10::(t++13::10::rest))=js d++(t++13::10::rest):=by
 unfold js dK;simp
theorem tg {b:List UInt8} {d:UInt8} {t rest s:List UInt8} {frm:Option Nat} (hb:eQ b) (hd:gS d) (ht:wJ t) :
  jI b s frm (chunk b d t rest)=pv frm (max (frm.getD 0) (pn s (chunk b d t rest)-2))++jI b s (some (pn s (js d++(t++13::10::rest)))) rest:=by
 have h1:∀ c∈(45::45::(b++[32,9]):List UInt8),c≠13:=fun c hc=>by
  have:(45::45::(b++[32,9]):List UInt8)=[45,45]++(b++[32,9]):=rfl
  rw [this] at hc
  exact ((eF (a:=[45,45]) (by decide)).Cc (hb.Cc (eF (a:=[32,9]) (by decide)))) c hc
 rw [<- nc]
 have e:jI b s frm (chunk b d t rest)=_:=gG (r:=chunk b d t rest) (gA _ h1)
 rw [e,Ce]
 simp only [Bool.false_eq_true,if_false]
 congr 1
 rw [gG (gA _ (tY hd)),vt _ (fun c _ hc=>by cases hc;decide)]
 simp only
 rw [gG (r:=[]++13::10::_) (gA (l:=[]) _ (by simp)),vt _ (fun c hc=>by cases hc)]
 simp only
 rw [gG (gA _ ht.cr),vt _ (fun c hc _=>(ht c hc).1)]
def gN (b Z:List UInt8):List Pt->List UInt8
 | []=>Z
 | p::r=>chunk b p.1 p.2 (gN b Z r)
def xR (cl:Bool):List Pt->List Pt
 | []=>[]
 | p::r=>(p.1,if r.isEmpty && !cl then p.2++[13,10] else p.2)::xR cl r
def EE (b Z:List UInt8) (cl:Bool):Prop:=if cl then ∃ u,Z=(45::45::(b++[45,45]))++13::10::u else Z=[]
theorem zU {s X Y:List UInt8} {k:Nat} (h:s.drop k=X++Y):dX s (k,k+X.length)=X:=by
 unfold dX
 rw [List.drop_take,h,show k+X.length-k=X.length by omega,List.take_left]
theorem sb {s Y:List UInt8} (h:Y <:+ s):s.drop (pn s Y)=Y:=by
 obtain ⟨t,rfl⟩:=h
 unfold pn
 rw [List.length_append,Nat.add_sub_cancel,List.drop_left]
def Dz (s:List UInt8) (q:Nat × Nat) (x:Pt):Prop:=q.1<=q.2/\q.2<=s.length/\dX s q=js x.1++x.2
theorem BZ {s Z:List UInt8} {k:Nat} {p:Pt} (hk:k<=s.length) (h:s.drop k=js p.1++(p.2++13::10::Z)):Dz s (k,max k (pn s Z-2)) p:=by
 have hl:=congrArg List.length h
 rw [List.length_drop,List.length_append,List.length_append] at hl
 simp only [List.length_cons] at hl
 have e:max k (pn s Z-2)=k+(js p.1++p.2).length:=by unfold pn;rw [List.length_append];omega
 rw [e]
 refine ⟨Nat.le_add_right _ _,by rw [List.length_append];show k+_<=_;omega,?_⟩
 exact zU (Y:=13::10::Z) (by rw [h,List.append_assoc])
theorem th {b Z s:List UInt8} {cl:Bool} (hb:eQ b) (hZ:EE b Z cl):∀ (r:List Pt) (p:Pt) (k:Nat),s.drop k=js p.1++(p.2++13::10::gN b Z r)->k<=s.length->(∀ x∈p::r,gS x.1/\wJ x.2) ->
  PW (Dz s) (jI b s (some k) (gN b Z r)) (xR cl (p::r))
 | [],p,k,h,hk,_=>by
  rw [gN] at h ⊢
  cases cl with
  | false =>
   rw [show Z=[] from hZ] at h ⊢
   rw [hI]
   refine ⟨⟨hk,Nat.le_refl _,?_⟩,trivial⟩
   show (s.take s.length).drop k=_
   rw [List.take_length,h];rfl
  | true =>
   have h2:=BZ hk h
   obtain ⟨u,e⟩:∃ u,Z=(45::45::(b++[45,45]))++13::10::u:=hZ
   have h1:∀ c∈(45::45::(b++[45,45]):List UInt8),c≠13:=fun c hc=>by
    have:(45::45::(b++[45,45]):List UInt8)=[45,45]++(b++[45,45]):=rfl
    rw [this] at hc
    exact ((eF (a:=[45,45]) (by decide)).Cc (hb.Cc (eF (a:=[45,45]) (by decide)))) c hc
   have e2:jI b s (some k) Z=[(k,max k (pn s Z-2))]:=by
    rw [gG (l:=45::45::(b++[45,45])) (u:=u) (by rw [e];exact gA _ h1),Cd]
    rfl
   rw [e2]
   exact ⟨h2,trivial⟩
 | p2::r,p,k,h,hk,hr=>by
  rw [gN] at h ⊢
  have g:=hr p2 (by simp)
  rw [tg hb g.1 g.2]
  have hs1:chunk b p2.1 p2.2 (gN b Z r) <:+ s:=by
   have:chunk b p2.1 p2.2 (gN b Z r) <:+ s.drop k:=⟨js p.1++(p.2++[13,10]),by rw [h];simp⟩
   exact this.trans (List.drop_suffix _ _)
  have hs2:js p2.1++(p2.2++13::10::gN b Z r) <:+ s:=by
   rw [<- nc]
   refine List.IsSuffix.trans ⟨(45::45::(b++[32,9]))++[13,10],?_⟩ hs1
   unfold chunk;simp
  refine ⟨?_,th hb hZ r p2 _ (sb hs2) (by unfold pn;omega) fun x hx=>hr x (by simp [hx])⟩
  have:=BZ hk h
  rw [show (p.1,if (p2::r).isEmpty && !cl then p.2++[13,10] else p.2)=p from rfl]
  exact this
theorem zF {b Z s ah:List UInt8} {cl:Bool} (hb:eQ b) (hZ:EE b Z cl) (ha:wJ ah) {p:Pt} {r:List Pt} (hs:s=ah++13::10::gN b Z (p::r)) (hr:∀ x∈p::r,gS x.1/\wJ x.2) :
  PW (Dz s) (jI b s none s) (xR cl (p::r)):=by
 have e1:jI b s none s=jI b s none (gN b Z (p::r)):=by
  rw [gG (r:=s) (l:=ah) (u:=gN b Z (p::r)) (by rw [hs];exact gA _ ha.cr),vt _ (fun c hc _=>(ha c hc).1)]
 have g:=hr p (by simp)
 rw [e1,gN,tg hb g.1 g.2]
 have hs2:js p.1++(p.2++13::10::gN b Z r) <:+ s:=by
  rw [<- nc]
  refine ⟨ah++13::10::((45::45::(b++[32,9]))++[13,10]),?_⟩
  rw [hs,gN];unfold chunk;simp
 exact th hb hZ r p _ (sb hs2) (by unfold pn;omega) hr
theorem Bc {w:List UInt8} {x:LV} (h:x.v.ty=kD) (n deep:Nat) (is:Bool) (cnt:Nat):eG w (n+1) x deep is cnt=(cz w x true,[],cnt):=by
 have hm:eP x=false:=by unfold eP;rw [h];rfl
 have hp:lG w x=[]:=by unfold lG;rw [hm,if_neg (by decide),if_neg (fun e=>by have:=e.1;rw [h] at this;revert this;decide)]
 rw [eG,hp]
 split
 ·rw [cm];rfl
 ·rfl
def EO (w:List UInt8) (i:Nat) (v:AV) (x:Pt):Prop:=∃ y,v=aM y []/\y.p=mA (i+1)/\y.v.ty=kD/\y.v.i0=true/\y.v.i1=[x.1]/\y.a<=y.b/\y.b=y.c/\y.c<=y.d/\y.d<=w.length/\dX w (y.a,y.b)=js x.1/\dX w (y.c,y.d)=x.2
def KP (w:List UInt8):Nat->LA->List Pt->Prop
 | _,[],[]=>True
 | i,v::k,x::r=>EO w i v x/\KP w (i+1) k r
 | _,_,_=>False
theorem CT {w:List UInt8} {q:Nat × Nat} {x:Pt} (h:Dz w q x) (hd:gS x.1) (i n cnt:Nat):∃ y,eG w (n+1) (dV w q (mA (i+1)) false) 1 false cnt=(y,[],cnt)/\EO w i (aM y []) x:=by
 obtain ⟨h1,h2,h3⟩:=h
 have e0:kV (dX w q)=js x.1:=by rw [h3];exact DZ hd x.2
 generalize hz:dV w q (mA (i+1)) false=z
 have hv:z.v=rK (js x.1) false:=by rw [<- hz];show rK (kV (dX w q)) false=_;rw [e0]
 have ha:z.a=q.1:=by rw [<- hz];rfl
 have hb:z.b=q.1+(js x.1).length:=by rw [<- hz];show q.1+(kV (dX w q)).length=_;rw [e0]
 have hc:z.c=q.1+(js x.1).length:=by rw [<- hz];show q.1+(kV (dX w q)).length=_;rw [e0]
 have hdd:z.d=q.2:=by rw [<- hz];rfl
 have hp:z.p=mA (i+1):=by rw [<- hz];rfl
 obtain ⟨s1,s2,s3⟩:=Eu hd
 have ht:z.v.ty=kD:=by rw [hv,s1]
 refine ⟨cz w z true,Bc ht n 1 false cnt,{ z with e:=fU (dn w z) },?_,hp,ht,by show z.v.i0=true;rw [hv,s2],by show z.v.i1=[x.1];rw [hv,s3],?_,?_,?_,?_,?_,?_⟩
 ·unfold cz;rw [if_pos rfl,if_pos ht]
 ·show z.a<=z.b;omega
 ·show z.b=z.c;omega
 all_goals
  have hl:=kQ (w:=w) h1 h2
  rw [h3,List.length_append] at hl
 ·show z.c<=z.d;omega
 ·show z.d<=w.length;omega
 ·show dX w (z.a,z.b)=_
  rw [ha,hb]
  refine zU (Y:=x.2++w.drop q.2) ?_
  rw [<- List.append_assoc,<- h3]
  unfold dX
  rw [List.drop_take]
  have:=(List.take_append_drop (q.2-q.1) (w.drop q.1)).symm
  rw [List.drop_drop,show q.1+(q.2-q.1)=q.2 by omega] at this
  exact this
 ·show dX w (z.c,z.d)=_
  rw [hc,hdd]
  unfold dX at h3 ⊢
  show (w.take q.2).drop (q.1+(js x.1).length)=x.2
  rw [<- List.drop_drop,h3,List.drop_left]
theorem vS {w:List UInt8} {rec:LV->Nat->LV × LA × Nat} {plc:Nat->List UInt8} (hrec:∀ y c,rec y c=eG w 5 y 1 false c) (hplc:∀ k,plc k=mA k):∀ (Q:List (Nat × Nat)) (P:List Pt) (i:Nat) (acc:LA) (cnt:Nat),PW (Dz w) Q P->(∀ x∈P,gS x.1) ->
  ∃ K,cm rec w plc false i acc cnt Q=(acc++K,cnt)/\KP w i K P
 | [],[],i,acc,cnt,_,_=>⟨[],by rw [cm,List.append_nil],trivial⟩
 | [],_::_,_,_,_,h,_=>h.elim
 | _::_,[],_,_,_,h,_=>h.elim
 | q::Q,x::P,i,acc,cnt,h,hd=>by
  obtain ⟨y,e,hy⟩:=CT h.1 (hd x (by simp)) i 4 cnt
  obtain ⟨K,e2,hK⟩:=vS hrec hplc Q P (i+1) (acc++[aM y []]) cnt h.2 fun z hz=>hd z (by simp [hz])
  refine ⟨aM y []::K,?_,hy,hK⟩
  rw [cm,hrec,hplc,e]
  show cm rec w plc false (i+1) (acc++[aM y []]) cnt Q=_
  rw [e2,List.append_assoc];rfl
theorem yc {A B C:Type} {S:A->B->Prop} {T:C->B->Prop} (f:A->C) (h:∀ a b,S a b->T (f a) b):∀ {l:List A} {l':List B},PW S l l'->PW T (l.map f) l'
 | [],[],_=>trivial
 | _::_,_::_,g=>⟨h _ _ g.1,yc f h g.2⟩
 | [],_::_,g=>g.elim
 | _::_,[],g=>g.elim
theorem mH (cl:Bool):∀ P:List Pt,(xR cl P).length=P.length
 | []=>rfl
 | p::r=>by rw [xR,List.length_cons,List.length_cons,mH cl r]
theorem vq (cl:Bool):∀ {P:List Pt},(∀ x∈P,gS x.1)->∀ x∈xR cl P,gS x.1
 | [],_,x,hx=>by cases hx
 | p::r,h,x,hx=>by
  rw [xR] at hx
  rcases List.mem_cons.1 hx with rfl|hx
  ·exact h p (by simp)
  ·exact vq cl (fun y hy=>h y (by simp [hy])) x hx
theorem tL {w:List UInt8}:∀ {i:Nat} {K:LA} {P:List Pt},KP w i K P->K.length=P.length
 | _,[],[],_=>rfl
 | _,_::_,_::_,h=>by simp only [List.length_cons,tL h.2]
 | _,[],_::_,h=>h.elim
 | _,_::_,[],h=>h.elim
theorem Bw {b Z ah:List UInt8} {cl:Bool} (hb:wh b) (b1:1<=b.length) (b2:b.length<=70) (hZ:EE b Z cl) (ha:wJ ah) {p:Pt} {r:List Pt} (hr:∀ x∈p::r,gS x.1/\wJ x.2) (hn:(p::r).length<=9) {w:List UInt8} (hw:w=kC b++(ah++13::10::gN b Z (p::r))) :
  ∃ y K n,cE w=(y,K,n)/\y.v.ty=rL/\y.v.sub=xp/\KP w 0 K (xR cl (p::r)):=by
 have hbc:eQ b:=hb.ne (by decide)
 generalize hbody:ah++13::10::gN b Z (p::r)=body at hw
 have hpt:=zF (s:=body) hbc hZ ha hbody.symm hr
 have hin:B3 w body (kC b).length:=⟨[],by rw [hw,List.drop_left,List.append_nil]⟩
 have h0:kV (dX w (0,w.length))=kC b:=by rw [Bq,hw];exact D0 hb body
 generalize hx:dV w (0,w.length) [] false=x0
 have hv:x0.v=rK (kC b) false:=by rw [<- hx];show rK (kV (dX w (0,w.length))) false=_;rw [h0]
 have hc:x0.c=(kC b).length:=by rw [<- hx];show 0+(kV (dX w (0,w.length))).length=_;rw [h0,Nat.zero_add]
 have hd:x0.d=w.length:=by rw [<- hx];rfl
 have hp:x0.p=[]:=by rw [<- hx];rfl
 obtain ⟨s1,s2,s3⟩:=Ev hb
 have hm:eP x0=false:=by unfold eP;rw [hv,s1];rfl
 have hbl:dn w x0=body:=by unfold dn;rw [hd,hc,List.take_length,hw,List.drop_left]
 have hpi:lG w x0=(jI b body none body).map fun q=>((kC b).length+q.1,(kC b).length+q.2):=by
  unfold lG
  rw [hm,if_neg (by decide),if_pos ⟨by rw [hv,s1],by rw [hv,s3];exact b1,by rw [hv,s3];exact b2⟩,hv,s3,hbl,hc]
 have hlw:w.length=(kC b).length+body.length:=by rw [hw,List.length_append]
 have hPW:PW (Dz w) (lG w x0) (xR cl (p::r)):=by
  rw [hpi]
  refine yc _ (fun q x hq => ?_) hpt
  obtain ⟨g1,g2,g3⟩:=hq
  refine ⟨by show (kC b).length+q.1<=(kC b).length+q.2;omega,by show (kC b).length+q.2<=_;omega,?_⟩
  have:=hin.F5 (q:=q) g2
  rw [<- g3,<- this]
  unfold FE
  rw [Nat.add_comm q.1,Nat.add_comm q.2]
 have hdg:dG x0=false:=by unfold dG;rw [show decide (x0.v.sub=Cp)=false from decide_eq_false (by rw [hv,s2];decide),Bool.and_false]
 have hlen:(lG w x0).length<=9:=by
  have:=yb hPW
  rw [mH] at this;omega
 obtain ⟨K,e,hK⟩:=vS (w:=w) (rec:=fun y c=>eG w 5 y (0+1) (eP x0) c) (plc:=cu x0 true) (fun y c=>by rw [hm]) (fun k=>by unfold cu;rw [hm,hp];rfl) (lG w x0) _ 0 [] (0+(lG w x0).length) hPW (vq cl fun x hx=>(hr x hx).1)
 refine ⟨x0,K,0+(lG w x0).length,?_,by rw [hv,s1],by rw [hv,s2],hK⟩
 have hne:K.isEmpty=false:=by
  cases K with
  | nil=>exact hK.elim
  | cons c t=>rfl
 unfold cE
 rw [hx,eG,if_pos ⟨by omega,by omega⟩,hdg,e,List.nil_append,hne]
 show (cz w x0 false,K,_)=_
 unfold cz
 rw [if_neg (by decide),hm];rfl
end Go.Proofs.Ab
