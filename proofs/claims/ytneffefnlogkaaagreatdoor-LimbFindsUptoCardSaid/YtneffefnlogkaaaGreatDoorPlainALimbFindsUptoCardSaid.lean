/- The plain functions of program and document say the same (conditions: those of each lemma). -/
import Derived.Test.YtneffefnlogkaaaGreatDoorAbC
import Derived.IntWalk
import Derived.Test.YtneffefnlogkaaaGreatDoorText
import Derived.Lib.IndexLaws
import Derived.KernelRfl
set_option linter.unusedVariables false
set_option linter.unusedSimpArgs false
set_option maxRecDepth 4000
namespace Go.Proofs.Ab
open Go
variable {R:Type}
theorem ac {p:Prop} [Decidable p] {k:Option R} (h:p):bF (decide p) k=k:=by rw [decide_eq_true h];rfl
theorem av {a b:Bool} {k:Option R}:bF (a&&b) k=bF a (bF b k):=by cases a <;> rfl
theorem EW {k:Option R}:bF true k=k:=rfl
theorem al {α : Type} {p:Prop} [Decidable p] {x y : α} (h:p):(bif decide p then x else y)=x:=by rw [decide_eq_true h];rfl
theorem ai {α : Type} {p:Prop} [Decidable p] {x y : α} (h:¬ p):(bif decide p then x else y)=y:=by rw [decide_eq_false h];rfl
theorem fS {x y:Int} (h:x=y):(x == y)=true:=by simp [h]
theorem fR {x y:Int} (h:x≠y):(x == y)=false:=by simp [h]
theorem sZ {x y:Int} (h:x=y):(x != y)=false:=by simp [h]
theorem wrap_i64 {x:Int} (f : -9223372036854775808<=x) (j:x<9223372036854775808):IntKind.wrap .i64 x=x:=IntWalk.i64_in x ⟨f,by omega⟩
theorem wrap_u8 {x:Int} (f:0<=x) (j:x<256):IntKind.wrap .u8 x=x:=by rw [IntKind.wrap_u8];omega
def bl (s:BA):List UInt8:=s.data.toList
def B (l:List UInt8):BA:=⟨l.toArray⟩
theorem lC (l:List UInt8):bl (B l)=l:=rfl
theorem iL (s:BA):B (bl s)=s:=rfl
theorem fx (s:BA):s.size=(bl s).length:=by unfold bl;rw [Array.length_toList];rfl
theorem cj (l:List UInt8):(B l).size=l.length:=by rw [fx,lC]
theorem A8 {a b:BA} (h:bl a=bl b):a=b:=by rw [<- iL a,h,iL]
theorem eg {a b:List UInt8}:B a=B b ↔ a=b:=⟨fun h=>by rw [<- lC a,h,lC],fun h=>by rw [h]⟩
theorem eC (s:BA) (i j:Nat):bl (s.extract i j)=((bl s).take j).drop i:=by
 unfold bl;rw [ByteArray.data_extract,Array.toList_extract];simp [List.extract,List.drop_take]
theorem df (l:List UInt8) (i j:Nat):(B l).extract i j=B ((l.take j).drop i):=A8 (by rw [eC,lC,lC])
theorem zu (a b:BA):bl (a++b)=bl a++bl b:=by unfold bl;simp
theorem gX (a b:List UInt8):B a++B b=B (a++b):=A8 (by rw [zu];rfl)
theorem dX:(⟨#[]⟩:BA)=B []:=rfl
theorem ta {s:BA} {i:Nat} {c:UInt8} (h:(bl s)[i]? = some c):dM s (i:Int)=c.toNat:=by
 obtain ⟨j,m⟩:=List.getElem?_eq_some_iff.1 h
 have f:i<s.size:=by rw [fx];exact j
 unfold dM
 simp only [Int.toNat_natCast]
 rw [dif_pos f]
 congr 2
theorem cP {α : Type} {l:List α} {i:Nat} {c : α} {r:List α} (h:l.drop i=c::r):l[i]? = some c/\i<l.length/\l.drop (i+1)=r:=by
 have f:(l.drop i)[0]? = some c:=by rw [h];rfl
 rw [List.getElem?_drop,Nat.add_zero] at f
 refine ⟨f,(List.getElem?_eq_some_iff.1 f).1,?_⟩
 rw [<- List.drop_drop,h];rfl
theorem drop_nil {α : Type} {l:List α} {i:Nat} (h:l.drop i=[]):l.length<=i:=by simpa using h
theorem lQ {α : Type} {l:List α} {i:Nat} (h:i<l.length):∃ c r,l.drop i=c::r:=by
 cases f:l.drop i with
 | nil=>have:=drop_nil f;omega
 | cons c r=>exact ⟨c,r,rfl⟩
theorem dL {α : Type} {l:List α} {i:Nat} {c : α} (h:l[i]? = some c):l.take (i+1)=l.take i++[c]:=by
 rw [List.take_add_one,h];rfl
theorem iO (c d:UInt8):((c.toNat:Int) == (d.toNat:Int))=(c == d):=by
 rw [Bool.eq_iff_iff];simp only [beq_iff_eq,Int.natCast_inj,<- UInt8.toNat_inj]
theorem Ba (c d:UInt8):((c.toNat:Int) != (d.toNat:Int))=(c != d):=by
 unfold bne;rw [iO]
theorem km (c:UInt8):c.toNat<256:=by have:=c.toNat_lt;omega
theorem Ch {i:Nat}:((i:Int)+1)=((i+1:Nat):Int):=rfl
theorem fi (b:UInt8) (l sub:List UInt8):Lib.index (b::l) sub=if sub.isPrefixOf (b::l) then 0 else if Lib.index l sub == -1 then -1 else Lib.index l sub+1:=rfl
theorem pu:∀ (s sub:List UInt8),Lib.index s sub ≠ -1->Lib.index s sub+sub.length<=s.length
 | [],sub,h=>by
  cases sub with
  | nil=>simp [Lib.index]
  | cons a t=>exact absurd rfl h
 | b::l,sub,h=>by
  rw [fi] at h ⊢
  split at h
  ·rename_i f
   rw [if_pos f]
   have:=(List.isPrefixOf_iff_prefix.1 f).length_le
   omega
  ·rename_i f
   rw [if_neg f]
   split at h
   ·exact absurd rfl h
   ·rename_i m
    have j:Lib.index l sub ≠ -1:=by simpa using m
    have:=pu l sub j
    rw [if_neg m]
    simp only [List.length_cons];omega
theorem eh {l:LA} {i:Nat} {a:AV} (h:l[i]? = some a):bf l (i:Int)=a:=by
 unfold bf;rw [Int.toNat_natCast,List.getD_eq_getElem?_getD,h];rfl
theorem CA {l:LA} {i:Nat} {a:AV} {r:LA} (h:l.drop i=a::r):bf l (i:Int)=a:=eh (cP h).1
theorem oN {l:List UInt8} {i:Nat} {c:UInt8} (h:l[i]? = some c):dM (B l) (i:Int)=c.toNat:=ta (s:=B l) h
theorem jC (c:UInt8) (d:UInt8) (x:Int) (h:x=(d.toNat:Int)):((c.toNat:Int) == x)=(c == d):=by rw [h,iO]
theorem A' (c:UInt8) (d:UInt8) (x:Int) (h:x=(d.toNat:Int)):((c.toNat:Int) != x)=(c != d):=by rw [h,Ba]
def bw (l:List (List UInt8)):LA:=l.map fun x => .str (B x)
theorem eR (l:List (List UInt8)):(bw l).length=l.length:=by unfold bw;simp
theorem fU (l m:List (List UInt8)):bw (l++m)=bw l++bw m:=by unfold bw;simp
theorem vQ {l:List (List UInt8)} {i:Nat} {x:List UInt8} (h:l[i]? = some x):(bf (bw l) (i:Int)).s=B x:=by
 rw [eh (a := .str (B x)) (by unfold bw;rw [List.getElem?_map,h];rfl)];rfl
theorem vP (xs:LA) (a:AV):bf (xs++[a]) (xs.length:Int)=a:=eh (by simp)
theorem tT (xs:LA) (a:AV) (r:LA) (n:Nat) (h:xs.length=n):bf (xs++a::r) (n:Int)=a:=eh (by subst h;simp)
theorem iF (xs:LA) (a b:AV) (r:LA) (n:Nat) (h:xs.length=n):eA (xs++a::r) (n:Int) b=xs++b::r:=by
 subst h;unfold eA;simp
theorem iD {l p:List UInt8}:p.isPrefixOf l=decide (l.take p.length=p):=by
 rw [Bool.eq_iff_iff,List.isPrefixOf_iff_prefix,List.prefix_iff_eq_take,decide_eq_true_eq,eq_comm]
theorem lW (a:BA) (p:List UInt8) (κ : Bool->Option R):ba a (B p) κ = κ (p.isPrefixOf (bl a)):=by
 have f:=fx a
 unfold ba ba.e bU bU.e
 simp only [cj]
 by_cases h:p.length<=(bl a).length
 ·simp (disch:=omega) only [al,av,ac]
  congr 1
  rw [iD]
  congr 1
  rw [<- iL (a.extract _ _),eC,eg]
  simp
 ·simp (disch:=omega) only [ai]
  congr 1
  rw [iD]
  symm;rw [decide_eq_false_iff_not]
  intro e;have:=congrArg List.length e;simp at this;omega
theorem pr (l p:List UInt8) (f:l.length<=1000000) (κ : Int->Option R):aL (B l) (B p) κ = κ (Lib.index l p):=by
 unfold aL aL.e dZ
 have:=cj l
 simp (disch:=omega) only [ac]
 rfl
theorem pq (l p:List UInt8) (κ : Bool->Option R):ba (B l) (B p) κ = κ (p.isPrefixOf l):=lW (B l) p κ
theorem kM {p:UInt8->Bool} {l:List UInt8} {k:Nat} (h:k<(l.takeWhile p).length):∃ c,l[k]? = some c/\p c=true:=by
 obtain ⟨t,f⟩:=List.takeWhile_prefix p (l:=l)
 refine ⟨(l.takeWhile p)[k],?_,List.all_eq_true.1 List.all_takeWhile _ (List.getElem_mem h)⟩
 have:=List.getElem?_append_left (l₂:=t) h
 rw [f] at this
 rw [this,List.getElem?_eq_getElem h]
theorem lZ {l:List UInt8} {c:UInt8} {o:Nat} (h:l[o]? = some c) (z:∀ k,k<o->l[k]? ≠ some c):Lib.indexByte l c=o:=by
 have A:=Lib.indexByte_ge l c
 by_cases e:Lib.indexByte l c = -1
 ·exact absurd h (Lib.indexByte_none e o)
 ·obtain ⟨m,hm⟩:∃ m:Nat,Lib.indexByte l c=m:=⟨(Lib.indexByte l c).toNat,by omega⟩
  obtain ⟨M,N⟩:=Lib.indexByte_some hm
  rcases Nat.lt_trichotomy m o with f|j|u
  ·exact absurd M (z m f)
  ·rw [hm,j]
  ·exact absurd h (N o u)
theorem o0 {p:UInt8->Bool}:∀ {l:List UInt8},l.dropWhile p=[] ↔ ∀ a∈l,p a=true
 | []=>by simp
 | c::r=>by
  rw [List.dropWhile_cons]
  cases h:p c with
  | true=>simp [h,o0 (l:=r)]
  | false=>simp [h]
theorem zl {p:UInt8->Bool} (h:(List.range 256).all (fun n=>p (UInt8.ofNat n))=true) (c:UInt8):p c=true:=by
 have:=List.all_eq_true.1 h c.toNat (List.mem_range.2 (km c))
 rwa [UInt8.ofNat_toNat] at this
theorem FP (l:List UInt8) (c:UInt8) (κ : Int->Option R):aB (B l) (c.toNat:Int) κ = κ (Lib.indexByte l c):=by
 show κ (Lib.indexByte l ((c.toNat:Int).toNat.toUInt8))=_
 rw [Int.toNat_natCast]
 show κ (Lib.indexByte l (UInt8.ofNat c.toNat))=_
 rw [UInt8.ofNat_toNat]
def dH (t:List UInt8):LA:=t.map fun b=>AV.int (b.toNat:Int)
theorem iX (t:List UInt8):(dH t).length=t.length:=by unfold dH;simp
theorem uV (t u:List UInt8):dH t++dH u=dH (t++u):=by unfold dH;simp
theorem gS (t:List UInt8) (c:UInt8):dH t++[AV.int (c.toNat:Int)]=dH (t++[c]):=uV t [c]
theorem ij (t:List UInt8):fE (dH t)=B t:=by
 unfold fE dH B
 congr 2
 rw [List.map_map]
 conv=>rhs;rw [<- List.map_id t]
 apply List.map_congr_left
 intro b f
 show UInt8.ofNat ((b.toNat:Int).toNat)=b
 rw [Int.toNat_natCast,UInt8.ofNat_toNat]
theorem DF (t:List UInt8):List.all (dH t) oO=true:=by
 unfold dH
 rw [List.all_map,List.all_eq_true]
 intro b f
 have:=km b
 show oO (AV.int (b.toNat:Int))=true
 unfold oO
 show (decide (0<=(b.toNat:Int))&&decide ((b.toNat:Int)<256))=true
 rw [decide_eq_true (by omega),decide_eq_true (by omega)];rfl
theorem Dh (t:List UInt8):fv (B t)=dH t:=rfl
theorem CW (l:LA) (a:Int) (κ : LA->Option R) (h:l.length<=1000000000):aQ l a κ = κ (l++[AV.int a]):=by
 show bF (decide ((l.length+1)*1<=140737488355328)) (κ (l++[AV.int a]))=_
 rw [ac (by omega)]
theorem ww (t:List UInt8) (κ : BA->Option R):aW (dH t) κ = κ (B t):=by
 unfold aW aW.e
 rw [ac rfl,DF,ij];rfl
def qA (c:UInt8):UInt8:=if 65<=c.toNat/\c.toNat<=90 then UInt8.ofNat (c.toNat+32) else c
def dW (l:List UInt8):List UInt8:=l.map qA
theorem tG {c:UInt8} (f:65<=c.toNat) (j:c.toNat<=90):((qA c).toNat:Int)=(c.toNat:Int)+32:=by
 unfold qA
 rw [if_pos ⟨f,j⟩]
 simp;omega
theorem kv {c:UInt8} (h:¬ (65<=c.toNat/\c.toNat<=90)):qA c=c:=by unfold qA;rw [if_neg h]
theorem ja (l:List UInt8):(dW l).length=l.length:=by unfold dW;simp
theorem BS {l:List UInt8} {i:Nat} {c:UInt8} (h:l[i]? = some c):(bf (dH l) (i:Int)).i=(c.toNat:Int):=by
 rw [eh (a := .int (c.toNat:Int)) (by unfold dH;rw [List.getElem?_map,h];rfl)];rfl
theorem ints_set (a:List UInt8) (c d:UInt8) (r:List UInt8) (n:Nat) (h:a.length=n):eA (dH (a++c::r)) (n:Int) (.int (d.toNat:Int))=dH (a++d::r):=by
 unfold dH
 rw [List.map_append,List.map_cons,iF _ _ _ _ n (by rw [List.length_map];exact h)]
 simp
theorem nO (l:List UInt8) (O:l.length<=140737488355327) (κ : BA->Option R):∀ (f i:Nat),i<=l.length->l.length<i+f ->
  bJ.L3 κ f (l.length:Int) (i:Int) (dH (dW (l.take i)++l.drop i))=κ (B (dW l))
 | 0,i,U,V=>by omega
 | f+1,i,U,V=>by
  rw [bJ.L3,bJ.t3]
  have j:(dW (l.take i)).length=i:=by rw [ja,List.length_take];omega
  have u:(dH (dW (l.take i)++l.drop i)).length=l.length:=by rw [iX,List.length_append,j,List.length_drop];omega
  simp only [u,ij]
  cases N:l.drop i with
  | nil =>
   have:=drop_nil N
   rw [ai (by omega),List.append_nil,List.take_of_length_le (by omega)]
  | cons c r =>
   obtain ⟨g1,g2,g3⟩:=cP N
   have z:IntKind.wrap .i64 ((i:Int)+1)=((i+1:Nat):Int):=wrap_i64 (by omega) (by omega)
   have W:(bf (dH (dW (l.take i)++c::r)) (i:Int)).i=(c.toNat:Int):=BS (by rw [List.getElem?_append_right (by omega),j];simp)
   simp only [W,z]
   simp (disch:=omega) only [al,av,ac]
   have m:=nO l O κ f (i+1) (by omega) (by omega)
   rw [g3] at m
   have X:dW (l.take (i+1))++r=dW (l.take i)++qA c::r:=by rw [dL g1];unfold dW;simp
   rw [X] at m
   by_cases A:65<=c.toNat
   ·by_cases M:c.toNat<=90
    ·have hu:=tG A M
     have Y:=km c
     have hw:IntKind.wrap .u8 ((IntKind.wrap .u8 ((c.toNat:Int)+97))-65)=((qA c).toNat:Int):=by
      rw [wrap_u8 (x:=(c.toNat:Int)+97) (by omega) (by omega),wrap_u8 (by omega) (by omega),hu];omega
     rw [al (by omega),al (by omega),hw,ints_set _ _ _ _ _ j]
     exact m
    ·rw [kv (by omega)] at m
     rw [al (by omega),ai (by omega)]
     exact m
   ·rw [kv (by omega)] at m
    rw [ai (by omega)]
    exact m
theorem gW (l:List UInt8) (j:l.length<=140737488355327) (κ : BA->Option R):bJ (B l) κ = κ (B (dW l)):=by
 have key:∀ f,l.length<f->bJ.e (B l) (bJ.L3 κ f) κ = κ (B (dW l)):=by
  intro f m
  unfold bJ.e
  rw [cj,ac (by omega),Dh,iX]
  exact nO l j κ f 0 (by omega) (by omega)
 exact key ag (by unfold ag;omega)
theorem nW (l:List UInt8) (N:l.length<=140737488355327) (κ : BA->Option R):∀ (f i:Nat),i<=l.length->l.length<i+f ->
  du.L3 κ f (B l) (i:Int) (dH (dW (l.take i)))=κ (B (dW l))
 | 0,i,O,U=>by omega
 | f+1,i,O,U=>by
  rw [du.L3,du.t3]
  have m:(dH (dW (l.take i))).length=i:=by rw [iX,ja,List.length_take];omega
  simp only [m,cj,ij]
  cases M:l.drop i with
  | nil =>
   have:=drop_nil M
   rw [ai (by omega),List.take_of_length_le (by omega)]
  | cons c r =>
   obtain ⟨g1,g2,g3⟩:=cP M
   have u:IntKind.wrap .i64 ((i:Int)+1)=((i+1:Nat):Int):=wrap_i64 (by omega) (by omega)
   simp only [u,oN g1]
   simp (disch:=omega) only [al,av,ac]
   have j:=nW l N κ f (i+1) (by omega) (by omega)
   have V:dW (l.take (i+1))=dW (l.take i)++[qA c]:=by rw [dL g1];unfold dW;simp
   rw [V,<- gS] at j
   by_cases z:65<=c.toNat
   ·by_cases A:c.toNat<=90
    ·have hu:=tG z A
     have W:=km c
     have hw:IntKind.wrap .u8 ((c.toNat:Int)+32)=((qA c).toNat:Int):=by rw [wrap_u8 (by omega) (by omega),hu]
     rw [al (by omega),al (by omega),hw]
     exact j
    ·rw [kv (by omega)] at j
     rw [al (by omega),ai (by omega)]
     exact j
   ·rw [kv (by omega)] at j
    rw [ai (by omega)]
    exact j
theorem sf (l:List UInt8) (j:l.length<=140737488355327) (κ : BA->Option R):du (B l) κ = κ (B (dW l)):=by
 have key:∀ f,l.length<f->du.e (B l) (du.L3 κ f) κ = κ (B (dW l)) :=
  fun f m=>nW l j κ f 0 (by omega) (by omega)
 exact key ag (by unfold ag;omega)
def pl (s r:List UInt8):Int:=((s.length-r.length:Nat):Int)
theorem dI (s:List UInt8):pl s []=(s.length:Int):=rfl
theorem eu {s r:List UInt8}:0<=pl s r/\pl s r<=(s.length:Int):=by unfold pl;omega
theorem dU {s r:List UInt8} (h:r <:+ s):r.length<=s.length:=h.length_le
theorem qj {s r:List UInt8} (h:r <:+ s):s.drop (s.length-r.length)=r:=by
 obtain ⟨p,rfl⟩:=h
 simp
theorem dV {s t:List UInt8} {c:UInt8} (h:c::t <:+ s):t <:+ s:=(List.suffix_cons c t).trans h
theorem ky {s t:List UInt8} {c:UInt8} (h:c::t <:+ s):pl s t=pl s (c::t)+1:=by
 have:=dU h
 simp only [List.length_cons] at this
 unfold pl
 simp only [List.length_cons]
 omega
theorem eI {s t:List UInt8} {c:UInt8} (h:c::t <:+ s):pl s (c::t)<(s.length:Int):=by
 have:=dU h
 simp only [List.length_cons] at this
 unfold pl
 simp only [List.length_cons]
 omega
theorem eN {s t:List UInt8} {c:UInt8} (h:c::t <:+ s):dM (B s) (pl s (c::t))=(c.toNat:Int):=by
 unfold pl
 refine oN ?_
 have:=qj h
 exact (cP this).1
theorem gg {s t:List UInt8} {c:UInt8} (h:c::t <:+ s) (f:s.length<=1000000):IntKind.wrap .i64 (pl s (c::t)+1)=pl s t:=by
 have j:=eu (s:=s) (r:=c::t)
 rw [ky h]
 exact wrap_i64 (by omega) (by omega)
theorem kb (s:List UInt8):pl s s=0:=by unfold pl;omega
theorem iK (s:List UInt8):((B s).size:Int)=(s.length:Int):=by rw [cj]
theorem iM {c d:UInt8} (x:Int) (h:x=(d.toNat:Int)) (f:c≠d):((c.toNat:Int) == x)=false:=by rw [jC c d x h];simpa using f
theorem jo {c d:UInt8} (x:Int) (h:x=(d.toNat:Int)) (f:c=d):((c.toNat:Int) == x)=true:=by rw [jC c d x h];simpa using f
def kn:Nat->List UInt8->List UInt8
 | _,[]=>[]
 | d,c::t=>if c=92 then (match t with
   | []=>[]
   | _::u=>kn d u) else if c=40 then kn (d+1) t else if c=41 then (if d=1 then t else kn (d-1) t) else kn d t
theorem lI:∀ (n:Nat) (d:Nat) (r:List UInt8),r.length<=n->kn d r <:+ r
 | _,d,[],_=>by rw [kn];exact List.suffix_refl _
 | 0,d,c::t,h=>by simp at h
 | n+1,d,c::t,h=>by
  simp only [List.length_cons,Nat.add_le_add_iff_right] at h
  rw [kn.eq_def]
  simp only
  split
  ·split
   ·exact List.nil_suffix
   ·rename_i u
    simp only [List.length_cons] at h
    exact ((lI n d u (by omega)).trans (List.suffix_cons _ _)).trans (List.suffix_cons _ _)
  ·split
   ·exact (lI n (d+1) t h).trans (List.suffix_cons _ _)
   ·split
    ·split
     ·exact List.suffix_cons _ _
     ·exact (lI n (d-1) t h).trans (List.suffix_cons _ _)
    ·exact (lI n d t h).trans (List.suffix_cons _ _)
theorem wJ (d:Nat) (r:List UInt8):kn d r <:+ r:=lI _ d r (Nat.le_refl _)
theorem te (d:Nat) (r:List UInt8):(kn d r).length<=r.length:=(wJ d r).length_le
theorem Bj (d:Nat) (x:UInt8) (u:List UInt8):kn d (92::x::u)=kn d u:=by rw [kn.eq_def];rfl
theorem yb (d:Nat):kn d [92]=[]:=by rw [kn.eq_def];rfl
theorem Bm (d:Nat) (t:List UInt8):kn d (40::t)=kn (d+1) t:=by rw [kn.eq_def];rfl
theorem Bk (d:Nat) (t:List UInt8):kn d (41::t)=if d=1 then t else kn (d-1) t:=by rw [kn.eq_def];rfl
theorem Bn (d:Nat) {c:UInt8} (t:List UInt8) (f:c≠92) (j:c≠40) (m:c≠41):kn d (c::t)=kn d t:=by rw [kn.eq_def];simp [f,j,m]
def c9:List UInt8->List UInt8
 | []=>[]
 | c::t=>if c=32∨c=9 then c9 t else if c=40 then c9 (kn 1 t) else c::t
termination_by l=>l.length
decreasing_by
 all_goals simp_wf
 all_goals have:=te 1 t
 all_goals omega
theorem kl:c9 []=[]:=by rw [c9]
theorem oJ {c:UInt8} (t:List UInt8) (h:c=32∨c=9):c9 (c::t)=c9 t:=by rw [c9,if_pos h]
theorem wE (t:List UInt8):c9 (40::t)=c9 (kn 1 t):=by rw [c9,if_neg (by decide),if_pos rfl]
theorem wF {c:UInt8} (t:List UInt8) (f:c≠32) (j:c≠9) (m:c≠40):c9 (c::t)=c::t:=by rw [c9,if_neg (by simp [f,j]),if_neg m]
theorem sX:∀ (n:Nat) (r:List UInt8),r.length<=n->c9 r <:+ r
 | _,[],_=>by rw [kl];exact List.suffix_refl _
 | 0,c::t,h=>by simp at h
 | n+1,c::t,h=>by
  simp only [List.length_cons,Nat.add_le_add_iff_right] at h
  by_cases f:c=32∨c=9
  ·rw [oJ t f];exact (sX n t h).trans (List.suffix_cons _ _)
  ·by_cases j:c=40
   ·subst j
    rw [wE]
    exact ((sX n (kn 1 t) (Nat.le_trans (te 1 t) h)).trans (wJ 1 t)).trans (List.suffix_cons _ _)
   ·rw [wF t (fun e=>f (.inl e)) (fun e=>f (.inr e)) j];exact List.suffix_refl _
theorem dJ (r:List UInt8):c9 r <:+ r:=sX _ r (Nat.le_refl _)
theorem GC (s r:List UInt8) (h:r <:+ s) (κ : Int->BA->Int->Option R):bB (B s) (pl s r) κ = κ (match r with|[]=>0|c::_=>(c.toNat:Int)) (B s) (pl s r):=by
 unfold bB bB.e
 cases r with
 | nil=>rw [iK,dI,ai (by omega)]
 | cons c t =>
  have f:=eI h
  have j:=eu (s:=s) (r:=c::t)
  rw [iK,al f,av,ac j.1,ac f,eN h]
theorem iY (s:List UInt8) (j:s.length<=1000000) (κ : BA->Int->Option R):∀ (f d:Nat) (r:List UInt8),r <:+ s->1<=d->d+r.length<=2000000->r.length+1<f->aM.L1 κ f (d:Int) (B s) (pl s r)=κ (B s) (pl s (kn d r))
 | 0,d,r,_,_,_,A=>by omega
 | f+1,d,r,h,M,m,A=>by
  rw [aM.L1,aM.t1,iK]
  cases r with
  | nil=>rw [dI,ai (by omega),kn,dI]
  | cons c t =>
   have N:=eI h
   have O:=eu (s:=s) (r:=c::t)
   have z:=dV h
   simp only [List.length_cons] at A m
   rw [al N,av,ac O.1,ac N,eN h,gg h j]
   by_cases c1:c=92
   ·rw [jo 92 rfl c1,cond_true]
    subst c1
    cases t with
    | nil =>
     rw [yb,dI]
     cases f with
     | zero=>simp at A
     | succ f =>
      have hw:IntKind.wrap .i64 ((s.length:Int)+1)=(s.length:Int)+1:=wrap_i64 (by omega) (by omega)
      rw [hw,aM.L1,aM.t1,iK,ai (by omega)]
    | cons x u =>
     simp only [List.length_cons] at A m
     rw [gg z j,Bj]
     exact iY s j κ f d u (dV z) M (by omega) (by omega)
   ·rw [iM 92 rfl c1,cond_false]
    by_cases c2:c=40
    ·subst c2
     rw [jo 40 rfl rfl,cond_true,Bm,show IntKind.wrap .i64 ((d:Int)+1)=((d+1:Nat):Int) from wrap_i64 (by omega) (by omega)]
     exact iY s j κ f (d+1) t z (by omega) (by omega) (by omega)
    ·rw [iM 40 rfl c2,cond_false]
     by_cases c3:c=41
     ·subst c3
      rw [jo 41 rfl rfl,cond_true,Bk,show IntKind.wrap .i64 ((d:Int)-1)=((d-1:Nat):Int) by rw [wrap_i64 (by omega) (by omega)];omega]
      by_cases c4:d=1
      ·rw [if_pos c4,fS (by omega),cond_true]
      ·rw [if_neg c4,fR (by omega),cond_false]
       exact iY s j κ f (d-1) t z (by omega) (by omega) (by omega)
     ·rw [iM 41 rfl c3,cond_false,Bn d t c1 c2 c3]
      exact iY s j κ f d t z M (by omega) (by omega)
theorem Hu (s t:List UInt8) (j:s.length<=1000000) (h:40::t <:+ s) (κ : BA->Int->Option R):aM (B s) (pl s (40::t)) κ = κ (B s) (pl s (kn 1 t)):=by
 have u:=dU h
 simp only [List.length_cons] at u
 have key:∀ f,3000000<f->aM.e (B s) (pl s (40::t)) (aM.L1 κ (f+1)) κ = κ (B s) (pl s (kn 1 t)):=by
  intro f A
  have m:=eI h
  have z:=eu (s:=s) (r:=40::t)
  unfold aM.e
  rw [aM.L1,aM.t1,iK,al m,av,ac z.1,ac m,eN h,gg h j,iM (d:=92) 92 rfl (by decide),cond_false,jo 40 rfl rfl,cond_true,show IntKind.wrap .i64 ((0:Int)+1)=((1:Nat):Int) from wrap_i64 (by omega) (by omega)]
  exact iY s j κ f 1 t (dV h) (by omega) (by omega) (by omega)
 exact key (ag-1) (by unfold ag;omega)
theorem ku (s:List UInt8) (j:s.length<=1000000) (κ : BA->Int->Option R):∀ (f:Nat) (r:List UInt8),r <:+ s->r.length<f->aj.L0 bB aM κ f (B s) (pl s r)=κ (B s) (pl s (c9 r))
 | 0,r,_,u=>by omega
 | f+1,r,h,u=>by
  rw [aj.L0,aj.t0,GC s r h]
  cases r with
  | nil=>rw [kl];rfl
  | cons c t =>
   have m:=dV h
   simp only [List.length_cons] at u
   by_cases c1:c=32
   ·rw [jo 32 rfl c1,cond_true,gg h j,oJ t (.inl c1)]
    exact ku s j κ f t m (by omega)
   ·rw [iM 32 rfl c1,cond_false]
    by_cases c2:c=9
    ·rw [jo 9 rfl c2,cond_true,gg h j,oJ t (.inr c2)]
     exact ku s j κ f t m (by omega)
    ·rw [iM 9 rfl c2,cond_false]
     by_cases c3:c=40
     ·subst c3
      have:=te 1 t
      rw [jo 40 rfl rfl,cond_true,Hu s t j h,wE]
      exact ku s j κ f (kn 1 t) ((wJ 1 t).trans m) (by omega)
     ·rw [iM 40 rfl c3,cond_false,wF t c1 c2 c3]
theorem tC (s r:List UInt8) (j:s.length<=1000000) (h:r <:+ s) (κ : BA->Int->Option R):aj (B s) (pl s r) κ = κ (B s) (pl s (c9 r)):=by
 have key:∀ f,1000000<f->aj.e bB aM (B s) (pl s r) (aj.L0 bB aM κ f) κ = κ (B s) (pl s (c9 r)) :=
  fun f m=>ku s j κ f r h (by have:=dU h;omega)
 exact key ag (by unfold ag;omega)
theorem iZ (s r:List UInt8) (d:UInt8) (j:s.length<=1000000) (h:r <:+ s) (κ : Bool->BA->Int->Option R):an (B s) (pl s r) (d.toNat:Int) κ = (match r with
  | []=>κ false (B s) (pl s [])
  | c::t=>if c=d then κ true (B s) (pl s t) else κ false (B s) (pl s (c::t))):=by
 unfold an an.e
 cases r with
 | nil=>rw [iK,dI,ai (by omega)]
 | cons c t =>
  have f:=eI h
  have m:=eu (s:=s) (r:=c::t)
  rw [iK,al f,av,ac m.1,ac f,eN h,gg h j,iO]
  show _=if c=d then κ true (B s) (pl s t) else κ false (B s) (pl s (c::t))
  by_cases e:c=d
  ·subst e;simp
  ·rw [show (c == d)=false by simpa using e,if_neg e];rfl
theorem Cs (κ : Int->Option R) (f:Nat) (x0:BA) (j:Int):aK.L1 κ (f+1) x0 j=aK.t1 (aK.L1 κ f) (aK.L7 κ f) κ x0 j:=by
 try unfold aK.L1
 try unfold aK.L7
 rw [aK.M1]
theorem vH (κ : Int->Option R) (f:Nat) (x0:BA) (j m:Int):aK.L7 κ (f+1) x0 j m=aK.t7 (aK.L1 κ f) (aK.L7 κ f) x0 j m:=by
 try unfold aK.L1
 try unfold aK.L7
 rw [aK.M1]
theorem nk (s:List UInt8) (M:s.length<=1000000) (κ : Int->Option R):∀ (f:Nat),
  (∀ (r:List UInt8),r <:+ s->3*r.length+2<f->aK.L1 κ f (B s) (pl s r)=κ (pl s (c9 r))) /\
  (∀ (d:Nat) (r:List UInt8),r <:+ s->1<=d->d+r.length<=2000000->3*r.length+3<f->aK.L7 κ f (B s) (pl s r) (d:Int)=κ (pl s (c9 (kn d r))))
 | 0=>⟨fun r _ h=>by omega,fun d r _ _ _ h=>by omega⟩
 | f+1=>by
  obtain ⟨z,j⟩:=nk s M κ f
  refine ⟨fun r h N => ?_,fun d r h W U N => ?_⟩
  ·rw [Cs,aK.t1,iK]
   cases r with
   | nil=>rw [dI,ai (by omega),kl,dI]
   | cons c t =>
    have A:=eI h
    have O:=eu (s:=s) (r:=c::t)
    have m:=dV h
    simp only [List.length_cons] at N
    rw [al A,av,ac O.1,ac A,eN h,gg h M,av,ac O.1,ac A]
    by_cases c1:c=32
    ·rw [jo 32 rfl c1,cond_true,oJ t (.inl c1)]
     exact z t m (by omega)
    ·rw [iM 32 rfl c1,cond_false]
     by_cases c2:c=9
     ·rw [jo 9 rfl c2,cond_true,oJ t (.inr c2)]
      exact z t m (by omega)
     ·rw [iM 9 rfl c2,cond_false]
      rw [av,ac O.1,ac A]
      unfold bne
      by_cases c3:c=40
      ·subst c3
       rw [jo 40 rfl rfl,Bool.not_true,cond_false,wE]
       cases f with
       | zero=>omega
       | succ f =>
        have V:=(nk s M κ f).2
        rw [vH,aK.t7,iK,al A,av,ac O.1,ac A,eN h,gg h M,iM (d:=92) 92 rfl (by decide),cond_false,jo 40 rfl rfl,cond_true,iM (d:=41) 41 rfl (by decide),cond_false,show IntKind.wrap .i64 ((0:Int)+1)=((1:Nat):Int) from wrap_i64 (by omega) (by omega)]
        have X:=dU h
        simp only [List.length_cons] at X
        exact V 1 t m (by omega) (by omega) (by omega)
      ·rw [iM 40 rfl c3,Bool.not_false,cond_true,wF t c1 c2 c3]
  ·rw [vH,aK.t7,iK]
   cases r with
   | nil =>
    rw [dI,ai (by omega),kn]
    exact z [] List.nil_suffix (by simp at N ⊢;omega)
   | cons c t =>
    have A:=eI h
    have O:=eu (s:=s) (r:=c::t)
    have m:=dV h
    simp only [List.length_cons] at N U
    rw [al A,av,ac O.1,ac A,eN h,gg h M]
    by_cases c1:c=92
    ·subst c1
     rw [jo 92 rfl rfl,cond_true]
     cases t with
     | nil =>
      rw [dI,ai (by omega),iM (d:=40) 40 rfl (by decide),cond_false,iM (d:=41) 41 rfl (by decide),cond_false,yb]
      have:=j d [] List.nil_suffix W (by simp;omega) (by simp at N ⊢;omega)
      rw [kn,dI] at this
      exact this
     | cons x u =>
      have Y:=eI m
      rw [al Y,gg m M,Bj]
      simp only [List.length_cons] at N U
      exact j d u (dV m) W (by omega) (by omega)
    ·rw [iM 92 rfl c1,cond_false]
     by_cases c2:c=40
     ·subst c2
      rw [jo 40 rfl rfl,cond_true,iM (d:=41) 41 rfl (by decide),cond_false,Bm,show IntKind.wrap .i64 ((d:Int)+1)=((d+1:Nat):Int) from wrap_i64 (by omega) (by omega)]
      exact j (d+1) t m (by omega) (by omega) (by omega)
     ·rw [iM 40 rfl c2,cond_false]
      by_cases c3:c=41
      ·subst c3
       rw [jo 41 rfl rfl,cond_true,Bk,show IntKind.wrap .i64 ((d:Int)-1)=((d-1:Nat):Int) by rw [wrap_i64 (by omega) (by omega)];omega]
       by_cases c4:d=1
       ·rw [if_pos c4,fS (by omega),cond_true]
        exact z t m (by omega)
       ·rw [if_neg c4,fR (by omega),cond_false]
        exact j (d-1) t m (by omega) (by omega) (by omega)
      ·rw [iM 41 rfl c3,cond_false,Bn d t c1 c2 c3]
       exact j d t m W (by omega) (by omega)
theorem om (s r:List UInt8) (j:s.length<=1000000) (h:r <:+ s) (κ : Int->Option R):aK (B s) (pl s r) κ = κ (pl s (c9 r)):=by
 have key:∀ f,4000000<f->aK.e (B s) (pl s r) (aK.L1 κ f) (aK.L7 κ f) κ = κ (pl s (c9 r)) :=
  fun f m=>(nk s j κ f).1 r h (by have:=dU h;omega)
 exact key ag (by unfold ag;omega)
theorem yz (l:List UInt8) (A:l.length<=1000000) (κ : BA->Option R):∀ (f i:Nat),i<=l.length->l.length<i+f->bc.L3 κ f (B l) (i:Int) (dH (dW (l.take i)))=κ (B (dW l))
 | 0,i,M,N=>by omega
 | f+1,i,M,N=>by
  rw [bc.L3,bc.t3,iK]
  cases z:l.drop i with
  | nil =>
   have:=drop_nil z
   rw [ai (by omega),ij,List.take_of_length_le (by omega)]
  | cons c t =>
   obtain ⟨g1,g2,_⟩:=cP z
   have j:IntKind.wrap .i64 ((i:Int)+1)=((i+1:Nat):Int):=wrap_i64 (by omega) (by omega)
   have O:=km c
   have W:(dH (dW (l.take i))).length<=1000000:=by rw [iX,ja,List.length_take];omega
   have m:∀ d:UInt8,d=qA c->dH (dW (l.take i))++[AV.int (d.toNat:Int)]=dH (dW (l.take (i+1))):=fun d e=>by
    rw [gS,dL g1]
    unfold dW;rw [List.map_append,e];rfl
   have u:=yz l A κ f (i+1) (by omega) (by omega)
   rw [al (by omega),av,ac (by omega),ac (by omega),oN g1,j,ac (by omega),ac (by omega)]
   by_cases U:65<=c.toNat
   ·rw [al (by omega)]
    by_cases V:c.toNat<=90
    ·rw [al (by omega),wrap_u8 (by omega) (by omega),<- tG U V,m _ rfl]
     exact u
    ·rw [ai (by omega),m c (kv (by omega)).symm]
     exact u
   ·rw [ai (by omega),m c (kv (by omega)).symm]
    exact u
theorem rG (l:List UInt8) (j:l.length<=1000000) (κ : BA->Option R):bc (B l) κ = κ (B (dW l)):=by
 have key:∀ f,l.length<f->bc.e (B l) (bc.L3 κ f) κ = κ (B (dW l)):=fun f h=>yz l j κ f 0 (by omega) (by omega)
 exact key ag (by unfold ag;omega)
def yK:List UInt8:=[40,41,60,62,64,44,59,58,92,34,47,91,93,63,61]
def wo (c:UInt8):Bool:=decide (32<c.toNat)&&(decide (c.toNat<127) && !yK.any (· == c))
theorem FE (c:UInt8):decide (Lib.indexByte yK c>=0)=yK.any (· == c):=by
 have:=zl (p:=fun c=>decide (Lib.indexByte yK c>=0) == yK.any (· == c)) (by kernel_rfl) c
 simpa using this
theorem zZ (c:UInt8) (f:c.toNat<127) (κ : Bool->Option R):bg (B yK) (IntKind.wrap .i32 (c.toNat:Int)) κ = κ (yK.any (· == c)):=by
 have hw:IntKind.wrap .i32 (c.toNat:Int)=(c.toNat:Int):=by rw [IntKind.wrap_i32];omega
 unfold bg bg.e cy cy.e
 rw [hw,al (by omega),al (by omega),wrap_u8 (by omega) (by omega),FP]
 show κ (decide (Lib.indexByte yK c>=0))=_
 rw [FE]
def dN (r:List UInt8):List UInt8:=r.takeWhile wo
def fa (r:List UInt8):List UInt8:=r.dropWhile wo
theorem sE (r:List UInt8):dN r++fa r=r:=List.takeWhile_append_dropWhile
theorem fb (r:List UInt8):fa r <:+ r:=List.dropWhile_suffix _
theorem e8 (r:List UInt8):(dN r).length+(fa r).length=r.length:=by
 have:=congrArg List.length (sE r);simpa using this
theorem wc {c:UInt8} {t:List UInt8} (h:wo c=true):dN (c::t)=c::dN t/\fa (c::t)=fa t:=by unfold dN fa;simp [h]
theorem ke {c:UInt8} {t:List UInt8} (h:wo c=false):dN (c::t)=[]/\fa (c::t)=c::t:=by unfold dN fa;simp [h]
theorem yg {s f w r:List UInt8} (h:f <:+ s) (e:f=w++r):(B s).extract (pl s f).toNat (pl s r).toNat=B w:=by
 obtain ⟨p,rfl⟩:=h
 subst e
 rw [df]
 congr 1
 unfold pl
 simp only [Int.toNat_natCast,List.length_append]
 rw [show p.length+(w.length+r.length)-r.length=p.length+w.length by omega,show p.length+(w.length+r.length)-(w.length+r.length)=p.length by omega]
 rw [<- List.append_assoc,List.take_append_of_le_length (by simp),List.take_of_length_le (by simp)]
 simp
theorem yO {s f r:List UInt8} (h:r.length<=f.length):pl s f<=pl s r:=by unfold pl;omega
theorem rL (s j:List UInt8) (N:s.length<=1000000) (z:j <:+ s) (κ : BA->BA->Int->Option R):∀ (f:Nat) (w r:List UInt8),j=w++r->r.length<f ->
  aw.L2 bg κ f (pl s j) (B s) (pl s r)=κ (B (w++dN r)) (B s) (pl s (fa r))
 | 0,w,r,_,O=>by omega
 | f+1,w,r,e,O=>by
  have A:r <:+ s:=(by rw [e];exact List.suffix_append _ _:r <:+ j).trans z
  have hm:pl s j<=pl s r:=yO (by rw [e];simp)
  have fin:bF (decide ((0:Int)<=pl s j)&&(decide (pl s j<=pl s r)&&decide (pl s r<=((B s).size:Int)))) (κ ((B s).extract (pl s j).toNat (pl s r).toNat) (B s) (pl s r))=κ (B w) (B s) (pl s r):=by
   rw [iK,av,ac eu.1,av,ac hm,ac eu.2,yg z e]
  rw [aw.L2,aw.t2,fin,iK]
  cases r with
  | nil=>rw [dI,ai (by omega)];show _=κ (B (w++[])) _ (pl s []);rw [List.append_nil,dI]
  | cons c t =>
   have u:=eI A
   have M:=eu (s:=s) (r:=c::t)
   simp only [List.length_cons] at O
   rw [al u,av,ac M.1,ac u,eN A,gg A N]
   by_cases g1:32<c.toNat
   ·rw [al (by omega),av,ac M.1,ac u]
    by_cases g2:c.toNat<127
    ·rw [al (by omega),av,ac M.1,ac u]
     show bg (B yK) _ _=_
     rw [zZ c g2]
     cases g3:yK.any (· == c) with
     | false =>
      have m:wo c=true:=by unfold wo;rw [decide_eq_true g1,decide_eq_true g2,g3];rfl
      obtain ⟨q1,q2⟩:=wc (t:=t) m
      rw [q1,q2]
      have:=rL s j N z κ f (w++[c]) t (by rw [e];simp) (by omega)
      rw [List.append_assoc] at this
      exact this
     | true =>
      have m:wo c=false:=by unfold wo;rw [g3];simp
      obtain ⟨q1,q2⟩:=ke (t:=t) m
      rw [q1,q2,List.append_nil];rfl
    ·have m:wo c=false:=by unfold wo;rw [decide_eq_false g2];simp
     obtain ⟨q1,q2⟩:=ke (t:=t) m
     rw [ai (by omega),q1,q2,List.append_nil]
   ·have m:wo c=false:=by unfold wo;rw [decide_eq_false g1];simp
    obtain ⟨q1,q2⟩:=ke (t:=t) m
    rw [ai (by omega),q1,q2,List.append_nil]
theorem Ac (s r:List UInt8) (j:s.length<=1000000) (h:r <:+ s) (κ : BA->BA->Int->Option R):aw (B s) (pl s r) κ = κ (B (dN r)) (B s) (pl s (fa r)):=by
 have key:∀ f,1000000<f->aw.e bg (B s) (pl s r) (aw.L2 bg κ f) κ = κ (B (dN r)) (B s) (pl s (fa r)) :=
  fun f m=>rL s r j h κ f [] r rfl (by have:=dU h;omega)
 exact key ag (by unfold ag;omega)
theorem vN (c:UInt8) (κ : Bool->Option R):∀ (f i:Nat),i<=15->15<i+f->bE.L5 κ f (c.toNat:Int) (B yK) (i:Int)=κ (!((yK.drop i).any (· == c)))
 | 0,i,u,z=>by omega
 | f+1,i,u,z=>by
  rw [bE.L5,bE.t5,iK]
  have A:yK.length=15:=rfl
  rw [A]
  cases m:yK.drop i with
  | nil =>
   have:=drop_nil m
   rw [ai (by omega)];rfl
  | cons d t =>
   obtain ⟨g1,g2,g3⟩:=cP m
   have j:IntKind.wrap .i64 ((i:Int)+1)=((i+1:Nat):Int):=wrap_i64 (by omega) (by omega)
   rw [al (by omega),av,ac (by omega),ac (by omega),oN g1,j,iO,vN c κ f (i+1) (by omega) (by omega),g3,List.any_cons]
   cases d == c <;> rfl
theorem It (c:UInt8) (κ : Bool->Option R):bE (c.toNat:Int) κ = κ (wo c):=by
 have key:∀ f,15<f->bE.e (c.toNat:Int) (bE.L5 κ f) κ = κ (wo c):=by
  intro f j
  unfold bE.e wo
  by_cases g1:32<c.toNat
  ·rw [ai (by omega)]
   by_cases g2:c.toNat<127
   ·rw [ai (by omega),decide_eq_true g1,decide_eq_true g2]
    exact vN c κ f 0 (by omega) (by omega)
   ·rw [al (by omega),decide_eq_false g2];simp
  ·rw [al (by omega),decide_eq_false g1];rfl
 exact key ag (by unfold ag;omega)
theorem si (s j:List UInt8) (z:s.length<=1000000) (m:j <:+ s) (κ : BA->Option R):∀ (f:Nat) (w r:List UInt8),j=w++r->r.length<f ->
  aO.L2 bE κ f (B s) (pl s j) (pl s r)=κ (B (w++dN r))
 | 0,w,r,_,A=>by omega
 | f+1,w,r,e,A=>by
  have u:r <:+ s:=(by rw [e];exact List.suffix_append _ _:r <:+ j).trans m
  have hm:pl s j<=pl s r:=yO (by rw [e];simp)
  have fin:bF (decide ((0:Int)<=pl s j)&&(decide (pl s j<=pl s r)&&decide (pl s r<=((B s).size:Int)))) (κ ((B s).extract (pl s j).toNat (pl s r).toNat))=κ (B w):=by
   rw [iK,av,ac eu.1,av,ac hm,ac eu.2,yg m e]
  rw [aO.L2,aO.t2,fin,iK]
  cases r with
  | nil=>rw [dI,ai (by omega)];show _=κ (B (w++[]));rw [List.append_nil]
  | cons c t =>
   have M:=eI u
   have O:=eu (s:=s) (r:=c::t)
   simp only [List.length_cons] at A
   rw [al M,av,ac O.1,ac M,eN u,gg u z,It]
   cases N:wo c with
   | true =>
    rw [cond_true,(wc (t:=t) N).1]
    have:=si s j z m κ f (w++[c]) t (by rw [e];simp) (by omega)
    rw [List.append_assoc] at this
    exact this
   | false=>rw [cond_false,(ke (t:=t) N).1,List.append_nil]
theorem xF (s r:List UInt8) (j:s.length<=1000000) (h:r <:+ s) (κ : BA->Option R):aO (B s) (pl s r) κ = κ (B (dN r)):=by
 have key:∀ f,1000000<f->aO.e bE (B s) (pl s r) (aO.L2 bE κ f) κ = κ (B (dN r)) :=
  fun f m=>si s r j h κ f [] r rfl (by have:=dU h;omega)
 exact key ag (by unfold ag;omega)
theorem lm (s r:List UInt8) (f:s.length<=1000000) (h:r <:+ s) (n:Nat) (j:n=(dN r).length):IntKind.wrap .i64 (pl s r+(n:Int))=pl s (fa r):=by
 have m:=e8 r
 have u:=dU h
 have e:pl s r+(n:Int)=pl s (fa r):=by unfold pl;omega
 rw [e]
 have:=eu (s:=s) (r:=fa r)
 exact wrap_i64 (by omega) (by omega)
def qw:List UInt8->List UInt8->Option (List UInt8 × List UInt8)
 | _,[]=>none
 | a,c::t=>if c=34 then some (a,t) else if c=92 then (match t with
   | []=>none
   | x::u=>qw (a++[x]) u) else qw (a++[c]) t
theorem Cr:∀ (n:Nat) (a r:List UInt8),r.length<=n->∀ v f,qw a r=some (v,f)->f <:+ r/\v.length<=a.length+r.length
 | _,a,[],_,v,f,h=>by rw [qw] at h;cases h
 | 0,a,c::t,h,_,_,_=>by simp at h
 | n+1,a,c::t,j,v,f,h=>by
  simp only [List.length_cons,Nat.add_le_add_iff_right] at j
  rw [qw.eq_def] at h
  simp only at h
  split at h
  ·cases h;exact ⟨List.suffix_cons _ _,by omega⟩
  ·split at h
   ·split at h
    ·cases h
    ·rename_i x u
     simp only [List.length_cons] at j
     obtain ⟨g1,g2⟩:=Cr n _ u (by omega) v f h
     refine ⟨(g1.trans (List.suffix_cons _ _)).trans (List.suffix_cons _ _),?_⟩
     simp only [List.length_append,List.length_cons,List.length_nil] at g2 ⊢;omega
   ·obtain ⟨g1,g2⟩:=Cr n _ t j v f h
    refine ⟨g1.trans (List.suffix_cons _ _),?_⟩
    simp only [List.length_append,List.length_cons,List.length_nil] at g2 ⊢;omega
def wm (r:List UInt8):Option (List UInt8 × List UInt8) :=
 match r with
 | []=>none
 | c::t=>if c=34 then qw [] t else if dN (c::t)=[] then none else some (dN (c::t),fa (c::t))
theorem FY {r v f:List UInt8} (h:wm r=some (v,f)):f <:+ r/\v.length<=r.length:=by
 cases r with
 | nil=>cases h
 | cons c t =>
  simp only [wm] at h
  split at h
  ·obtain ⟨g1,g2⟩:=Cr _ [] t (Nat.le_refl _) v f h
   exact ⟨g1.trans (List.suffix_cons _ _),by simp at g2 ⊢;omega⟩
  ·split at h
   ·cases h
   ·cases h
    have:=e8 (c::t)
    exact ⟨fb _,by omega⟩
theorem G5 (s:List UInt8) (j:s.length<=1000000) (κ : BA->Bool->BA->Int->Option R):∀ (f:Nat) (a r:List UInt8),r <:+ s->a.length+r.length<=2000000->r.length<f ->
  bC.L5 an aw aW aQ κ f (B s) (pl s r) (dH a)=match qw a r with
   | some (v,O)=>κ (B v) true (B s) (pl s O)
   | none=>κ (B []) false (B s) (pl s [])
 | 0,a,r,_,_,z=>by omega
 | f+1,a,r,h,A,z=>by
  rw [bC.L5,bC.t5,iK,dX]
  cases r with
  | nil=>rw [dI,ai (by omega),qw]
  | cons c t =>
   have M:=eI h
   have U:=eu (s:=s) (r:=c::t)
   have m:=dV h
   simp only [List.length_cons] at z A
   have hw:∀ (d:UInt8) (κ : LA->Option R),aQ (dH a) (d.toNat:Int) κ = κ (dH (a++[d])):=fun d κ => by
    rw [CW _ _ _ (by rw [iX];omega),gS]
   rw [al M,av,ac U.1,ac M,eN h,gg h j,qw.eq_def]
   by_cases c1:c=34
   ·rw [jo 34 rfl c1,cond_true,ww];simp only [c1,if_true]
   ·rw [iM 34 rfl c1,cond_false]
    simp only [c1,if_false]
    by_cases c2:c=92
    ·subst c2
     rw [jo 92 rfl rfl,cond_true]
     simp only [if_true]
     cases t with
     | nil =>
      rw [dI,ai (by omega),hw]
      have:=G5 s j κ f (a++[92]) [] List.nil_suffix (by simp;omega) (by simp at z ⊢;omega)
      rw [qw,dI] at this
      exact this
     | cons x u =>
      have N:=eI m
      have V:=eu (s:=s) (r:=x::u)
      rw [al N,av,ac V.1,ac N,eN m,gg m j,hw]
      simp only [List.length_cons] at z A
      exact G5 s j κ f (a++[x]) u (dV m) (by simp;omega) (by omega)
    ·rw [iM 92 rfl c2,cond_false]
     simp only [c2,if_false]
     rw [hw]
     exact G5 s j κ f (a++[c]) t m (by simp;omega) (by omega)
def CY (r:List UInt8):List UInt8 :=
 match r with
 | []=>[]
 | c::t=>if c=34 then [] else c::t
theorem GG (s r : List UInt8) (hs : s.length <= 1000000) (h : r <:+ s) (κ : BA -> Bool -> BA -> Int -> Option R) : bC (B s) (pl s r) κ = match wm r with
      | some (v,r')=>κ (B v) true (B s) (pl s r')
      | none=>κ (B []) false (B s) (pl s (CY r)):=by
 have key:∀ f,1000000<f->bC.e an aw aW aQ (B s) (pl s r) (bC.L5 an aw aW aQ κ f) κ = match wm r with
   | some (v,r')=>κ (B v) true (B s) (pl s r')
   | none=>κ (B []) false (B s) (pl s (CY r)):=by
  intro f hf
  unfold bC.e
  have hl:=dU h
  rw [show (34:Int)=((34:UInt8).toNat:Int) from rfl,iZ s r 34 hs h]
  cases r with
  | nil =>
   simp only [Bool.not_false,cond_true]
   rw [Ac s [] hs h,dX]
   have:decide (B (dN [])=B [])=true:=by simp [dN]
   rw [this];rfl
  | cons c t =>
   have ht:=dV h
   simp only [List.length_cons] at hl
   by_cases c1:c=34
   ·simp only [c1,if_true,Bool.not_true,cond_false,wm,CY]
    exact G5 s hs κ f [] t ht (by simp;omega) (by omega)
   ·simp only [c1,if_false,Bool.not_false,cond_true,wm,CY]
    rw [Ac s _ hs h,dX]
    by_cases c2:dN (c::t)=[]
    ·rw [if_pos c2]
     have h3:=sE (c::t)
     rw [c2,List.nil_append] at h3
     rw [h3,c2];simp
    ·rw [if_neg c2]
     have:decide (B (dN (c::t))=B [])=false:=decide_eq_false fun e=>c2 (eg.1 e)
     rw [this];rfl
 exact key ag (by unfold ag;omega)
theorem G' (s j:List UInt8) (m:s.length<=1000000) (κ : BA->Int->Bool->Option R):∀ (f:Nat) (a r:List UInt8),r <:+ s->a.length+r.length<=2000000->r.length<f ->
  cL.L8 aO κ f (B s) (pl s j) (pl s r) (dH a)=match qw a r with
   | some (v,V)=>κ (B v) (pl s V) true
   | none=>κ (B []) (pl s j) false
 | 0,a,r,_,_,M=>by omega
 | f+1,a,r,h,O,M=>by
  rw [cL.L8,cL.t8,iK,dX]
  cases r with
  | nil=>rw [dI,ai (by omega),qw]
  | cons c t =>
   have z:=eI h
   have N:=eu (s:=s) (r:=c::t)
   have A:=dV h
   simp only [List.length_cons] at M O
   have W:(dH a).length<=2000000:=by rw [iX];omega
   rw [al z,av,ac N.1,ac z,eN h,gg h m,qw.eq_def]
   by_cases c1:c=34
   ·rw [jo 34 rfl c1,cond_true,ij];simp only [c1,if_true]
   ·rw [iM 34 rfl c1,cond_false,av,ac N.1,ac z]
    simp only [c1,if_false]
    by_cases c2:c=92
    ·subst c2
     rw [jo 92 rfl rfl,cond_true]
     simp only [if_true]
     cases t with
     | nil =>
      rw [dI,ai (by omega),av,ac N.1,ac z,ac (by omega),gS]
      have:=G' s j m κ f (a++[92]) [] List.nil_suffix (by simp;omega) (by simp at M ⊢;omega)
      rw [qw,dI] at this
      exact this
     | cons x u =>
      have U:=eI A
      have X:=eu (s:=s) (r:=x::u)
      rw [al U,av,ac X.1,ac U,eN A,gg A m,ac (by omega),gS]
      simp only [List.length_cons] at M O
      exact G' s j m κ f (a++[x]) u (dV A) (by simp;omega) (by omega)
    ·rw [iM 92 rfl c2,cond_false,av,ac N.1,ac z,ac (by omega),gS]
     simp only [c2,if_false]
     exact G' s j m κ f (a++[c]) t A (by simp;omega) (by omega)
theorem EH (s r : List UInt8) (hs : s.length <= 1000000) (h : r <:+ s) (κ : BA -> Int -> Bool -> Option R) : cL (B s) (pl s r) κ = match wm r with
      | some (v,r')=>κ (B v) (pl s r') true
      | none=>κ (B []) (pl s r) false:=by
 have key:∀ f,1000000<f->cL.e aO (B s) (pl s r) (cL.L8 aO κ f) κ = match wm r with
   | some (v,r')=>κ (B v) (pl s r') true
   | none=>κ (B []) (pl s r) false:=by
  intro f hf
  unfold cL.e
  have hl:=dU h
  rw [xF s r hs h,dX,iK s]
  cases r with
  | nil =>
   have:decide (B (dN [])=B [])=true:=by simp [dN]
   rw [this,Bool.not_true,cond_false,dI,al (by omega)];rfl
  | cons c t =>
   have ht:=dV h
   have h1:=eI h
   have h2:=eu (s:=s) (r:=c::t)
   simp only [List.length_cons] at hl
   by_cases c2:dN (c::t)=[]
   ·have:decide (B (dN (c::t))=B [])=true:=decide_eq_true (eg.2 c2)
    rw [this,Bool.not_true,cond_false,ai (by omega),av,ac h2.1,ac h1,eN h,gg h hs]
    unfold bne
    by_cases c1:c=34
    ·rw [jo 34 rfl c1,Bool.not_true,cond_false]
     simp only [wm,c1,if_true]
     have:=G' s (c::t) hs κ f [] t ht (by simp;omega) (by omega)
     rw [c1] at this
     exact this
    ·rw [iM 34 rfl c1,Bool.not_false,cond_true]
     simp only [wm,c1,if_false,c2,if_true]
   ·have hb:decide (B (dN (c::t))=B [])=false:=decide_eq_false fun e=>c2 (eg.1 e)
    have c1:c≠34:=fun e=>by
     subst e
     exact c2 (ke (t:=t) (by decide)).1
    rw [hb,Bool.not_false,cond_true,lm s (c::t) hs h _ (by rw [cj])]
    simp only [wm,c1,if_false,c2]
 exact key ag (by unfold ag;omega)
abbrev Pm:=List UInt8 × List UInt8
def bn (p:Pm):AV := .agg [.str (B p.1),.str (B p.2)]
def C5 (r:List UInt8):Option (List UInt8 × List UInt8 × List UInt8) :=
 match c9 r with
 | []=>none
 | c::t=>if c=59 then (if dW (dN (c9 t))=[] then none else match c9 (fa (c9 t)) with
   | []=>none
   | c2::t2=>if c2=61 then (match wm (c9 t2) with
    | some (v,f)=>some (dW (dN (c9 t)),v,f)
    | none=>none) else none) else none
theorem Co {r n v f:List UInt8} (h:C5 r=some (n,v,f)):f <:+ r/\f.length<r.length:=by
 unfold C5 at h
 have j:=dJ r
 split at h
 ·cases h
 ·rename_i c t e
  rw [e] at j
  split at h
  ·split at h
   ·cases h
   ·split at h
    ·cases h
    ·rename_i c2 t2 u
     split at h
     ·split at h
      ·rename_i O z A
       cases h
       obtain ⟨g1,g2⟩:=FY A
       have M:t2 <:+ t:=by
        have:=(dJ (fa (c9 t))).trans ((fb (c9 t)).trans (dJ t))
        rw [u] at this
        exact (List.suffix_cons _ _).trans this
       have m:f <:+ t:=(g1.trans (dJ t2)).trans M
       have N:=j.length_le
       simp only [List.length_cons] at N
       exact ⟨m.trans ((List.suffix_cons _ _).trans j),by have:=m.length_le;omega⟩
      ·cases h
     ·cases h
  ·cases h
theorem mj {l:List UInt8}:dW l=[] ↔ l=[]:=by
 constructor
 ·intro h;have:=congrArg List.length h;rw [ja] at this;exact List.eq_nil_of_length_eq_zero (by simpa using this)
 ·rintro rfl;rfl
theorem fK (l:List UInt8):decide (B l=B [])=decide (l=[]):=decide_eq_decide.2 eg
theorem Fx (s r:List UInt8) (z:s.length<=1000000) (h:r <:+ s):match C5 r with
  | some (n,v,r')=>∀ κ : BA->BA->Bool->BA->Int->Option R,aV (B s) (pl s r) κ = κ (B n) (B v) true (B s) (pl s r')
  | none=>∃ (n v:BA) (p:Int),∀ κ : BA->BA->Bool->BA->Int->Option R,aV (B s) (pl s r) κ = κ n v false (B s) p:=by
 have b1:=(dJ r).trans h
 have step:∀ κ : BA->BA->Bool->BA->Int->Option R,aV (B s) (pl s r) κ = an (B s) (pl s (c9 r)) 59 (fun ax Y ad=>(bif (!ax) then (κ (⟨#[]⟩:BA) (⟨#[]⟩:BA) false Y ad) else (aj Y ad (fun a1 a6=>(aw a1 a6 (fun a7 a8 bb=>(bJ a7 (fun ae=>(aj a8 bb (fun ap ar=>(bif (decide (ae=(⟨#[]⟩:BA))) then (κ (⟨#[]⟩:BA) (⟨#[]⟩:BA) false ap ar) else (an ap ar 61 (fun A j m=>(bif (!A) then (κ (⟨#[]⟩:BA) (⟨#[]⟩:BA) false j m) else (aj j m (fun M N=>(bC M N (fun O U V W=>(κ ae O U V W))))))))))))))))))):=fun κ => by
  unfold aV aV.e
  rw [tC s r z h]
 unfold C5
 cases e:c9 r with
 | nil =>
  refine ⟨B [],B [],pl s [],fun κ => ?_⟩
  rw [step,e,show (59:Int)=((59:UInt8).toNat:Int) from rfl,iZ s [] 59 z List.nil_suffix]
  rfl
 | cons c t =>
  rw [e] at b1
  have ht:=dV b1
  by_cases c1:c=59
  ·have b2:=(dJ t).trans ht
   have b3:=(fb (c9 t)).trans b2
   have b4:=(dJ (fa (c9 t))).trans b3
   have be:(dN (c9 t)).length<=1000000:=by have:=e8 (c9 t);have:=b2.length_le;omega
   have f:∀ κ : BA->BA->Bool->BA->Int->Option R,aV (B s) (pl s r) κ = bif decide (dW (dN (c9 t))=[]) then κ (B []) (B []) false (B s) (pl s (c9 (fa (c9 t)))) else (an (B s) (pl s (c9 (fa (c9 t)))) 61 (fun A j m=>(bif (!A) then (κ (⟨#[]⟩:BA) (⟨#[]⟩:BA) false j m) else (aj j m (fun M N=>(bC M N (fun O U V W=>(κ (B (dW (dN (c9 t)))) O U V W)))))))):=fun κ => by
    rw [step,e,show (59:Int)=((59:UInt8).toNat:Int) from rfl,iZ s (c::t) 59 z b1]
    simp only [c1,if_true,Bool.not_true,cond_false]
    rw [tC s t z ht,Ac s _ z b2,gW _ (by omega),tC s _ z b3,dX,fK]
   simp only [c1,if_true]
   by_cases c2:dW (dN (c9 t))=[]
   ·rw [if_pos c2]
    exact ⟨B [],B [],_,fun κ => by rw [f,decide_eq_true c2,cond_true]⟩
   ·rw [if_neg c2]
    cases e2:c9 (fa (c9 t)) with
    | nil =>
     refine ⟨B [],B [],pl s [],fun κ => ?_⟩
     rw [f,decide_eq_false c2,cond_false,e2,show (61:Int)=((61:UInt8).toNat:Int) from rfl,iZ s [] 61 z List.nil_suffix]
     rfl
    | cons d u =>
     rw [e2] at b4
     have hu:=dV b4
     by_cases c3:d=61
     ·simp only [c3,if_true]
      have b5:=(dJ u).trans hu
      have X:∀ κ : BA->BA->Bool->BA->Int->Option R,aV (B s) (pl s r) κ = match wm (c9 u) with
        | some (v,r')=>κ (B (dW (dN (c9 t)))) (B v) true (B s) (pl s r')
        | none=>κ (B (dW (dN (c9 t)))) (B []) false (B s) (pl s (CY (c9 u))):=fun κ => by
       rw [f,decide_eq_false c2,cond_false,e2,show (61:Int)=((61:UInt8).toNat:Int) from rfl,iZ s (d::u) 61 z b4]
       simp only [c3,if_true,Bool.not_true,cond_false]
       rw [tC s u z hu,GG s _ z b5]
       try (cases wm (c9 u) <;> rfl)
      cases e3:wm (c9 u) with
      | none=>exact ⟨_,_,_,fun κ => by rw [X,e3]⟩
      | some p=>obtain ⟨v,r'⟩:=p;exact fun κ => by rw [X,e3]
     ·simp only [c3,if_false]
      refine ⟨B [],B [],pl s (d::u),fun κ => ?_⟩
      rw [f,decide_eq_false c2,cond_false,e2,show (61:Int)=((61:UInt8).toNat:Int) from rfl,iZ s (d::u) 61 z b4]
      simp only [c3,if_false]
      rfl
  ·simp only [c1,if_false]
   refine ⟨B [],B [],pl s (c::t),fun κ => ?_⟩
   rw [step,e,show (59:Int)=((59:UInt8).toNat:Int) from rfl,iZ s (c::t) 59 z b1]
   simp only [c1,if_false]
   rfl
def AN:Nat->List Pm->List UInt8->List Pm
 | 0,a,_=>a
 | n+1,a,r=>if a.length<12 then (match C5 r with
   | none=>a
   | some (m,v,f)=>AN n (if a.any (fun p=>p.1 == m) then a else a++[(m,v)]) f) else a
def vB (r:List UInt8):List Pm:=AN (r.length+1) [] r
theorem tJ (a:BA) (x:AV):oh .str (.str a) x=decide (a=x.s):=rfl
theorem rR (a b:BA) (v:AV):∀ (l:LA),iA .str (.str a) (gz .str (.str b) v l)=if a=b then some v else iA .str (.str a) l
 | []=>by
  simp only [gz,iA,tJ]
  show (bif decide (a=b) then some v else none)=_
  by_cases e:a=b <;> simp [e]
 | x::l=>by
  simp only [gz,tJ]
  by_cases e:b=(x.fld 0).s
  ·rw [decide_eq_true e,cond_true]
   simp only [iA,tJ]
   show (bif decide (a=b) then some v else iA .str (.str a) l)=_
   by_cases f:a=b
   ·simp [f]
   ·rw [decide_eq_false f,cond_false,if_neg f,decide_eq_false (by rw [<- e];exact f),cond_false]
  ·rw [decide_eq_false e,cond_false]
   simp only [iA,tJ]
   by_cases f:a=(x.fld 0).s
   ·rw [decide_eq_true f,cond_true,cond_true,if_neg (fun j=>e (by rw [<- j];exact f))]
   ·rw [decide_eq_false f,cond_false,cond_false]
    exact rR a b v l
theorem rT (a b:BA) (v:AV) (l:LA):iB .str (.str a) (gz .str (.str b) v l)=if a=b then v else iB .str (.str a) l:=by
 unfold iB;rw [rR]
 by_cases e:a=b <;> simp [e]
def Seen (k:Nat) (a:List Pm) (m:LA):Prop:=∀ n:List UInt8,∃ c:Nat,(iB .str (.str (B n)) m).i=(c:Int)/\c<=k/\(c=0 ↔ ∀ p∈a,p.1≠n)
theorem xA {a:List Pm} {n:List UInt8}:a.any (fun p=>p.1 == n)=false ↔ ∀ p∈a,p.1≠n:=by
 rw [List.any_eq_false]
 constructor
 ·intro h p f e;exact h p f (by simp [e])
 ·intro h p f;simpa using h p f
theorem rK (s:List UInt8) (W:s.length<=1000000):∀ (n f k:Nat) (a:List Pm) (r:List UInt8) (m:LA),r <:+ s->r.length<n->n<f->k+n<=2000000->Seen k a m->∃ p:Int,∀ κ : LA->BA->Int->Option R,
  aJ.L3 aV κ f (B s) (pl s r) (a.map bn) m=κ ((AN n a r).map bn) (B s) p
 | 0,f,k,a,r,m,_,Y,_,_,_=>by omega
 | n+1,0,k,a,r,m,_,_,hf,_,_=>by omega
 | n+1,f+1,k,a,r,m,h,Y,hf,hk,hm=>by
  have u:(a.map bn).length=a.length:=List.length_map ..
  by_cases z:a.length<12
  ·have j:=Fx (R:=R) s r W h
   cases e:C5 r with
   | none =>
    rw [e] at j
    obtain ⟨x,v,p,j⟩:=j
    refine ⟨p,fun κ => ?_⟩
    rw [aJ.L3,aJ.t3,u,al (by omega),j,AN,if_pos z,e]
    rfl
   | some q =>
    obtain ⟨x,v,X⟩:=q
    rw [e] at j
    replace j:∀ κ : BA->BA->Bool->BA->Int->Option R,aV (B s) (pl s r) κ = κ (B x) (B v) true (B s) (pl s X):=j
    obtain ⟨g1,g2⟩:=Co e
    obtain ⟨c,hc,ad,N⟩:=hm x
    have hw:IntKind.wrap .i64 ((c:Int)+1)=((c+1:Nat):Int):=wrap_i64 (by omega) (by omega)
    have A:Seen (k+1) (if a.any (fun p=>p.1 == x) then a else a++[(x,v)]) (gz .str (.str (B x)) (.int (((c+1:Nat):Int))) m):=by
     intro y
     rw [rT]
     by_cases U:y=x
     ·subst U
      rw [if_pos rfl]
      refine ⟨c+1,rfl,by omega,fun O=>by omega,fun O => ?_⟩
      exfalso
      cases M:a.any (fun p=>p.1 == y) with
      | true =>
       rw [M] at O
       have:=xA.2 O
       rw [if_pos rfl,M] at this;cases this
      | false =>
       rw [M] at O
       exact O (y,v) (by simp) rfl
     ·rw [if_neg (fun e=>U (eg.1 e))]
      obtain ⟨c',h1,h2,h3⟩:=hm y
      refine ⟨c',h1,by omega,h3.trans ?_⟩
      cases M:a.any (fun p=>p.1 == x) with
      | true=>simp
      | false =>
       simp only [Bool.false_eq_true,if_false]
       constructor
       ·intro g p j
        rcases List.mem_append.1 j with j|j
        ·exact g p j
        ·rw [List.mem_singleton] at j;subst j;exact fun e=>U e.symm
       ·exact fun g p j=>g p (List.mem_append.2 (.inl j))
    obtain ⟨p,V⟩:=rK s W n f (k+1) _ X _ (g1.trans h) (by omega) (by omega) (by omega) A
    refine ⟨p,fun κ => ?_⟩
    rw [aJ.L3,aJ.t3,u,al (by omega),j,AN,if_pos z,e]
    simp only [Bool.not_true,cond_false]
    rw [hc,hw,rT,if_pos rfl]
    show (bif (((c+1:Nat):Int) == 1) then _ else _)=_
    rw [<- V κ]
    cases M:a.any (fun p=>p.1 == x) with
    | true =>
     have:c≠0:=fun e0=>by have:=xA.2 (N.1 e0);rw [M] at this;cases this
     rw [fR (by omega),cond_false];rfl
    | false =>
     have:c=0:=N.2 (xA.1 M)
     rw [fS (by omega),cond_true,ac (by omega)]
     simp only [Bool.false_eq_true,if_false,List.map_append,List.map_cons,List.map_nil]
     rfl
  ·refine ⟨pl s r,fun κ => ?_⟩
   rw [aJ.L3,aJ.t3,u,ai (by omega),AN,if_neg z]
theorem GD (s r:List UInt8) (j:s.length<=1000000) (h:r <:+ s):∃ p:Int,∀ κ : LA->BA->Int->Option R,aJ (B s) (pl s r) κ = κ ((vB r).map bn) (B s) p:=by
 have key:∀ f,1000002<f->∃ p:Int,∀ κ : LA->BA->Int->Option R,aJ.e aV (B s) (pl s r) (aJ.L3 aV κ f) κ = κ ((vB r).map bn) (B s) p :=
  fun f u=>rK s j (r.length+1) f 0 [] r [] h (by omega) (by have:=dU h;omega) (by have:=dU h;omega) (fun n=>⟨0,rfl,Nat.le_refl _,⟨fun _ p m=>absurd m (by simp),fun _=>rfl⟩⟩)
 exact key ag (by unfold ag;omega)
abbrev FH (κ : LA->Option R) (f:Nat):=bj.L2 aK aO bc cL κ f
abbrev xE (κ : LA->Option R) (f:Nat):=bj.zj aK aO bc cL κ f
theorem Cv (κ : LA->Option R) (f:Nat) (x0:BA) (j:Int) (m:LA):FH κ (f+1) x0 j m=bj.t2 aK aO bc cL (xE κ f) κ x0 j m:=by
 try unfold FH
 try unfold xE
 try unfold bj.L2
 try unfold bj.zj
 rw [bj.M2]
theorem Ao (κ : LA->Option R) (f:Nat) (x0:BA) (j:Int) (m u:BA) (z:Bool) (A:Int) (M:LA):xE κ (f+1) x0 j m u z A M=bj.t17 (FH κ f) (xE κ f) x0 j m u z A M:=by
 try unfold FH
 try unfold xE
 try unfold bj.L2
 try unfold bj.zj
 rw [bj.M2]
theorem yT (κ : LA->Option R) (s:BA) (p:Int) (x v:List UInt8) (a:List Pm) (N:a.length<=12) (g:Nat):∀ (f i:Nat) (b:Bool),i<=a.length->a.length<i+f->b=(a.take i).any (fun p=>p.1 == x) ->
  xE κ (f+g) s p (B x) (B v) b (i:Int) (a.map bn)=FH κ (g+(i+f-a.length-1)) s p (((if a.any (fun p=>p.1 == x) then a else a++[(x,v)])).map bn)
 | 0,i,b,O,U,_=>by omega
 | f+1,i,b,O,U,u=>by
  have z:(a.map bn).length=a.length:=List.length_map ..
  have A:IntKind.wrap .i64 ((i:Int)+1)=((i+1:Nat):Int):=wrap_i64 (by omega) (by omega)
  rw [show f+1+g=(f+g)+1 by omega,Ao,bj.t17,z,A]
  by_cases h:i<a.length
  ·have M:a[i]? = some a[i]:=List.getElem?_eq_getElem h
   have V:bf (a.map bn) (i:Int)=bn a[i]:=eh (by rw [List.getElem?_map,M];rfl)
   have W:decide ((((bf (a.map bn) (i:Int)).fld 0).s)=B x)=(a[i].1 == x):=by
    rw [V]
    show decide (B a[i].1=B x)=_
    rw [Bool.eq_iff_iff,decide_eq_true_iff,eg];simp
   have j:(a.take (i+1)).any (fun p=>p.1 == x)=((a.take i).any (fun p=>p.1 == x)||(a[i].1 == x)):=by
    rw [dL M,List.any_append];simp
   rw [al (by omega),av,ac (by omega),ac (by omega),W]
   have m:=yT κ s p x v a N g f (i+1)
   have e:i+(f+1)-a.length-1=i+1+f-a.length-1:=by omega
   rw [e]
   cases b with
   | true=>rw [cond_true];exact m true (by omega) (by omega) (by rw [j,<- u];rfl)
   | false=>rw [cond_false];exact m _ (by omega) (by omega) (by rw [j,<- u];rfl)
  ·have X:i=a.length:=by omega
   subst X
   rw [List.take_length] at u
   rw [ai (by omega),u,show g+(a.length+(f+1)-a.length-1)=f+g by omega]
   cases a.any (fun p=>p.1 == x) with
   | true=>rfl
   | false =>
    simp only [Bool.not_false,cond_true]
    rw [ac (by omega)]
    simp only [Bool.false_eq_true,if_false,List.map_append,List.map_cons,List.map_nil]
    rfl
theorem sg (s:List UInt8) (m:s.length<=1000000) (κ : LA->Option R):∀ (n f:Nat) (a:List Pm) (r:List UInt8),r <:+ s->r.length<n->20*n<f->a.length<=12 ->
  FH κ f (B s) (pl s r) (a.map bn)=κ ((AN n a r).map bn)
 | 0,f,a,r,_,hn,_,_=>by omega
 | n+1,0,a,r,_,_,hf,_=>by omega
 | n+1,f+1,a,r,h,hn,hf,ha=>by
  have Y:(a.map bn).length=a.length:=List.length_map ..
  rw [Cv,bj.t2,Y,AN]
  by_cases O:a.length<12
  ·rw [if_pos O,al (by omega),om s r m h,iK,dX]
   have A:=(dJ r).trans h
   cases j:C5 r with
   | none =>
    unfold C5 at j
    cases e:c9 r with
    | nil=>rw [dI,al (by omega)]
    | cons c t =>
     rw [e] at A j
     have h1:=eI A
     have h2:=eu (s:=s) (r:=c::t)
     have U:=dV A
     simp only at j
     rw [ai (by omega),av,ac h2.1,ac h1,eN A,gg A m]
     unfold bne
     by_cases c1:c=59
     ·rw [if_pos c1] at j
      have M:=(dJ t).trans U
      have V:=(fb (c9 t)).trans M
      have z:=(dJ (fa (c9 t))).trans V
      have N:(dN (c9 t)).length<=1000000:=by have:=e8 (c9 t);have:=M.length_le;omega
      rw [jo 59 rfl c1,Bool.not_true,cond_false,om s t m U,xF s _ m M,rG _ N,lm s _ m M _ (by rw [cj,ja]),om s _ m V,fK]
      by_cases c2:dW (dN (c9 t))=[]
      ·rw [decide_eq_true c2,cond_true]
      ·rw [if_neg c2] at j
       rw [decide_eq_false c2,cond_false]
       cases W:c9 (fa (c9 t)) with
       | nil=>rw [dI,al (by omega)]
       | cons d u =>
        rw [W] at z j
        have h3:=eI z
        have h4:=eu (s:=s) (r:=d::u)
        have hu:=dV z
        simp only at j
        rw [ai (by omega),av,ac h4.1,ac h3,eN z,gg z m]
        by_cases c3:d=61
        ·rw [if_pos c3] at j
         have b5:=(dJ u).trans hu
         rw [jo 61 rfl c3,Bool.not_true,cond_false,om s u m hu,EH s _ m b5]
         cases X:wm (c9 u) with
         | none=>rfl
         | some p=>obtain ⟨v,r'⟩:=p;rw [X] at j;cases j
        ·rw [iM 61 rfl c3,Bool.not_false,cond_true]
     ·rw [iM 59 rfl c1,Bool.not_false,cond_true]
   | some q =>
    obtain ⟨x,v,r'⟩:=q
    obtain ⟨g1,g2⟩:=Co j
    unfold C5 at j
    cases e:c9 r with
    | nil=>rw [e] at j;cases j
    | cons c t =>
     rw [e] at A j
     have h1:=eI A
     have h2:=eu (s:=s) (r:=c::t)
     have U:=dV A
     simp only at j
     rw [ai (by omega),av,ac h2.1,ac h1,eN A,gg A m]
     unfold bne
     by_cases c1:c=59
     ·rw [if_pos c1] at j
      have M:=(dJ t).trans U
      have V:=(fb (c9 t)).trans M
      have z:=(dJ (fa (c9 t))).trans V
      have N:(dN (c9 t)).length<=1000000:=by have:=e8 (c9 t);have:=M.length_le;omega
      rw [jo 59 rfl c1,Bool.not_true,cond_false,om s t m U,xF s _ m M,rG _ N,lm s _ m M _ (by rw [cj,ja]),om s _ m V,fK]
      by_cases c2:dW (dN (c9 t))=[]
      ·rw [if_pos c2] at j;cases j
      ·rw [if_neg c2] at j
       rw [decide_eq_false c2,cond_false]
       cases W:c9 (fa (c9 t)) with
       | nil=>rw [W] at j;cases j
       | cons d u =>
        rw [W] at z j
        have h3:=eI z
        have h4:=eu (s:=s) (r:=d::u)
        have hu:=dV z
        simp only at j
        rw [ai (by omega),av,ac h4.1,ac h3,eN z,gg z m]
        by_cases c3:d=61
        ·rw [if_pos c3] at j
         have b5:=(dJ u).trans hu
         rw [jo 61 rfl c3,Bool.not_true,cond_false,om s u m hu,EH s _ m b5]
         cases X:wm (c9 u) with
         | none=>rw [X] at j;cases j
         | some p =>
          obtain ⟨v',ad⟩:=p
          rw [X] at j
          cases j
          simp only [Bool.not_true,cond_false]
          have hq:=yT κ (B s) (pl s r') (dW (dN (c9 t))) v a ha (f-13) 13 0 false (by omega) (by omega) (by simp)
          rw [show 13+(f-13)=f by omega] at hq
          refine hq.trans ?_
          refine sg s m κ n _ _ r' (g1.trans h) (by omega) (by omega) ?_
          split
          ·exact ha
          ·simp;omega
        ·rw [if_neg c3] at j;cases j
     ·rw [if_neg c1] at j;cases j
  ·rw [if_neg O,ai (by omega)]
theorem FJ (s r:List UInt8) (j:s.length<=1000000) (h:r <:+ s) (κ : LA->Option R):bj (B s) (pl s r) κ = κ ((vB r).map bn):=by
 have key:∀ f,30000000<f->bj.e aK aO bc cL (B s) (pl s r) (FH κ f) (xE κ f) κ = κ ((vB r).map bn) :=
  fun f m=>sg s j κ (r.length+1) f [] r h (by omega) (by have:=dU h;omega) (by simp)
 exact key ag (by unfold ag;omega)
def dl:List UInt8->List UInt8->List (List UInt8)
 | f,[]=>if f=[] then [] else [f]
 | f,13::10::r=>(f++[13,10])::dl [] r
 | f,c::r=>dl (f++[c]) r
theorem vi (f r:List UInt8):dl f (13::10::r)=(f++[13,10])::dl [] r:=by rw [dl]
theorem nH (f:List UInt8) (c:UInt8) (r:List UInt8) (h:¬ (c=13/\r.head? = some 10)):dl f (c::r)=dl (f++[c]) r:=by
 rw [dl]
 rintro j rfl rfl;exact h ⟨rfl,rfl⟩
theorem li (s:BA) (X:(bl s).length<=1000000) (κ : LA->Option R):∀ (f i k:Nat) (l:List (List UInt8)),i<=(bl s).length->k<=i->l.length<=i->(bl s).length<i+f ->
  bD.L4 κ f s (k:Int) (i:Int) (bw l)=κ (bw (l++dl (((bl s).take i).drop k) ((bl s).drop i)))
 | 0,i,k,l,Y,h2,h3,h4=>by omega
 | f+1,i,k,l,Y,h2,h3,h4=>by
  have m:=fx s
  rw [bD.L4,bD.t4]
  cases A:(bl s).drop i with
  | nil =>
   have:=drop_nil A
   have M:i=(bl s).length:=by omega
   simp (disch:=omega) only [wrap_i64,ai,al,eR]
   by_cases hk:k<i
   ·simp (disch:=first|omega|(simp only [eR];omega)) only [al,av,ac]
    congr 1
    have N:((bl s).take i).drop k≠[]:=by
     intro e;have:=congrArg List.length e;simp at this;omega
    rw [fU,dl,if_neg N]
    congr 2
    show AV.str _=AV.str (B _)
    rw [<- iL (s.extract _ _),eC]
    simp [m,M]
   ·have:k=i:=by omega
    subst this
    simp (disch:=omega) only [ai]
    rw [dl,if_pos (by simp)];simp
  | cons c r =>
   obtain ⟨g1,g2,g3⟩:=cP A
   cases r with
   | nil =>
    have M:i+1=(bl s).length:=by have:=congrArg List.length A;simp at this;omega
    simp (disch:=omega) only [wrap_i64,ai]
    simp (disch:=first|omega|(simp only [eR];omega)) only [al,av,ac]
    congr 1
    rw [nH _ _ _ (by simp),fU,dl,if_neg (by simp)]
    congr 2
    show AV.str _=AV.str (B _)
    rw [<- iL (s.extract _ _),eC]
    have:((bl s).take i).drop k++[c]=((bl s).take (i+1)).drop k:=by
     rw [dL g1,List.drop_append_of_le_length (by simp;omega)]
    rw [this]
    simp [m,M]
   | cons d r =>
    obtain ⟨k1,k2,k3⟩:=cP g3
    have O:=ta g1
    have U:=ta k1
    have u:((bl s).take i).drop k++[c]=((bl s).take (i+1)).drop k:=by
     rw [dL g1,List.drop_append_of_le_length (by simp;omega)]
    have V:((bl s).take (i+1)).drop k++[d]=((bl s).take (i+1+1)).drop k:=by
     rw [dL k1,List.drop_append_of_le_length (by simp;omega)]
    simp (disch:=omega) only [wrap_i64,al,av,ac]
    simp only [Ch,O,U]
    rw [show (13:Int)=((13:UInt8).toNat:Int) from rfl,show (10:Int)=((10:UInt8).toNat:Int) from rfl,iO,iO]
    have next:¬ (c=13/\d=10)->bD.L4 κ f s (k:Int) ((i+1:Nat):Int) (bw l)=κ (bw (l++dl (((bl s).take i).drop k) (c::d::r))):=by
     intro hn
     rw [li s X κ f (i+1) k l (by omega) (by omega) (by omega) (by omega),g3,nH _ c _ (by simpa using hn),u]
    by_cases z:c=13
    ·by_cases j:d=10
     ·subst z;subst j
      simp (disch:=first|omega|(simp only [eR];omega)) only [BEq.rfl,cond_true,av,ac,wrap_i64]
      have:=li s X κ f (i+1+1) (i+1+1) (l++[((bl s).take i).drop k++[13,10]]) (by omega) (by omega) (by simp;omega) (by omega)
      rw [k3] at this
      rw [vi,show l++(((bl s).take i).drop k++[13,10])::dl [] r=(l++[((bl s).take i).drop k++[13,10]])++dl [] r by simp]
      have he:(((bl s).take (i+1+1)).drop (i+1+1))=[]:=by simp
      rw [he] at this
      rw [<- this,fU]
      have hx:AV.str (s.extract (k:Int).toNat ((i:Int)+2).toNat)=AV.str (B (((bl s).take i).drop k++[13,10])):=by
       congr 1
       rw [show ([13,10]:List UInt8)=[13]++[10] from rfl,<- List.append_assoc,u,V,<- iL (s.extract _ _),eC]
       rfl
      rw [hx]
      rfl
     ·have W:(c == 13)=true:=by simp [z]
      have e2:(d == 10)=false:=by simp [j]
      rw [W,e2]
      exact next (fun h=>j h.2)
    ·have W:(c == 13)=false:=by simp [z]
     rw [W]
     exact next (fun h=>z h.1)
def total:List (List UInt8)->Nat
 | []=>0
 | x::r=>x.length+total r
theorem mH (l m:List (List UInt8)):total (l++m)=total l+total m:=by
 induction l with
 | nil=>simp [total]
 | cons x r f=>simp [total,f];omega
theorem gM (f s:List UInt8):total (dl f s)=f.length+s.length:=by
 fun_induction dl f s with
 | case1=>simp [total]
 | case2 f h=>simp [total]
 | case3 f r j=>simp [total,j];omega
 | case4 f c r h j=>simp [j];omega
theorem lh (s:List UInt8):(dl [] s).length<=s.length:=by
 have ht:=gM [] s
 simp only [List.length_nil,Nat.zero_add] at ht
 rw [<- ht]
 have:∀ (cur t:List UInt8),(dl cur t).length<=total (dl cur t):=by
  intro cur t
  fun_induction dl cur t with
  | case1=>simp
  | case2 cur h => have : cur.length ≠ 0 := by simpa using h
                   simp [total];omega
  | case3 cur r ih=>simp [total];omega
  | case4 cur c r h ih=>exact ih
 exact this _ _
theorem vj (s:BA) (m:(bl s).length<=1000000) (κ : LA->Option R) (f:Nat) (u:(bl s).length<f):bD.e s (bD.L4 κ f) κ = κ (bw (dl [] (bl s))):=by
 unfold bD.e
 have j:=li s m κ f 0 0 [] (Nat.zero_le _) (Nat.le_refl _) (Nat.le_refl _) (by omega)
 simp only [List.take_zero,List.drop_zero,List.nil_append] at j
 exact j
theorem sk (s:BA) (f:(bl s).length<=1000000) (κ : LA->Option R):bD s κ = κ (bw (dl [] (bl s))) :=
 vj s f κ ag (by unfold ag;omega)
def dq (c:UInt8):Bool:=c == 32||c == 9
def jW (c:UInt8):Bool:=decide (32<c.toNat)&&(decide (c.toNat<127)&&c != 58)
def gD (c:List UInt8):List UInt8:=c.takeWhile jW
def jM (c:List UInt8):Nat:=(gD c).length+((c.drop (gD c).length).takeWhile dq).length
def gp (c:List UInt8):Bool:=decide (gD c≠[])&&(c[jM c]? == some 58)
theorem pv (c:UInt8) (κ : Bool->Option R):aX (c.toNat:Int) κ = κ (dq c):=by
 unfold aX aX.e
 rw [jC c 32 32 rfl,jC c 9 9 rfl]
 unfold dq
 cases (c == 32) <;> rfl
theorem iN (c:UInt8) (κ : Bool->Option R):aP (c.toNat:Int) κ = κ (dq c):=by
 unfold aP aP.e
 rw [jC c 32 32 rfl,jC c 9 9 rfl]
 unfold dq
 cases (c == 32) <;> rfl
theorem wy (c n:List UInt8) (i:Nat) (κ : BA->Bool->Option R) :
  (bif (!decide (B n=(⟨#[]⟩:BA))) then (bif (decide ((i:Int)<((B c).size:Int))) then (bF ((decide ((0:Int)<=(i:Int)))&&(decide ((i:Int)<((B c).size:Int)))) (κ (B n) ((dM (B c) (i:Int)) == 58))) else (κ (B n) false)) else (κ (B n) false))
   = κ (B n) (decide (n≠[])&&(c[i]? == some 58)):=by
 simp only [cj,dX,eg]
 by_cases f:n=[]
 ·subst f;rfl
 ·simp only [f,decide_false,Bool.not_false,cond_true,ne_eq,not_false_eq_true,decide_true,Bool.true_and]
  by_cases j:i<c.length
  ·simp (disch:=omega) only [al,av,ac]
   rw [oN (List.getElem?_eq_getElem j),jC _ 58 58 rfl,List.getElem?_eq_getElem j]
   rfl
  ·simp (disch:=omega) only [ai]
   rw [List.getElem?_eq_none (by omega)];rfl
theorem qS (c n:List UInt8) (m:c.length<=1000000) (κ : BA->Bool->Option R):∀ (f i:Nat),i<=c.length->c.length<i+f ->
  bQ.L5 aX κ f (B c) (i:Int) (B n)=κ (B n) (decide (n≠[])&&(c[i+((c.drop i).takeWhile dq).length]? == some 58))
 | 0,i,u,z=>by omega
 | f+1,i,u,z=>by
  rw [bQ.L5,bQ.t5]
  simp only [wy]
  simp only [cj]
  cases j:c.drop i with
  | nil =>
   have:=drop_nil j
   simp (disch:=omega) only [ai]
   rfl
  | cons b r =>
   obtain ⟨g1,g2,g3⟩:=cP j
   simp (disch:=omega) only [al,av,ac,oN g1,pv,wrap_i64]
   rw [List.takeWhile_cons]
   cases A:dq b with
   | false=>rfl
   | true =>
    simp only [cond_true,Ch,if_true,List.length_cons]
    rw [qS c n m κ f (i+1) (by omega) (by omega),g3]
    congr 4;omega
theorem yw (c:UInt8):jW c=(decide ((c.toNat:Int)>32)&&(decide ((c.toNat:Int)<127)&&((c.toNat:Int) != 58))):=by
 rw [A' c 58 58 rfl];unfold jW
 congr 1
 ·rw [decide_eq_decide];omega
 ·congr 1
  rw [decide_eq_decide];omega
theorem qR (c:List UInt8) (U:c.length<=1000000) (κ : BA->Bool->Option R):∀ (f i:Nat),i<=c.length->2*c.length+2<i+f->c.take i=(c.take i).takeWhile jW ->
  bQ.L2 aX κ f (B c) (i:Int)=κ (B (gD c)) (gp c)
 | 0,i,V,Y,A=>by omega
 | f+1,i,V,Y,A=>by
  have fin:gD c=c.take i->bQ.L5 aX κ f (B c) (i:Int) ((B c).extract ((0:Int)).toNat ((i:Int)).toNat)=κ (B (gD c)) (gp c):=by
   intro W
   rw [df]
   simp only [Int.toNat_zero,List.drop_zero,Int.toNat_natCast]
   rw [qS c _ U κ f i V (by omega),W]
   unfold gp jM
   have hl:(c.take i).length=i:=by simp;omega
   rw [W,hl]
  rw [bQ.L2,bQ.t2]
  have j:gD c=c.take i++(c.drop i).takeWhile jW:=by
   unfold gD
   conv=>lhs;rw [<- List.take_append_drop i c]
   rw [List.takeWhile_append_of_pos]
   rw [A];intro a M;exact List.all_eq_true.1 List.all_takeWhile a M
  cases u:c.drop i with
  | nil =>
   have:=drop_nil u
   simp only [cj]
   simp (disch:=omega) only [ai,av,ac]
   exact fin (by rw [j,u];simp)
  | cons b r =>
   obtain ⟨g1,g2,g3⟩:=cP u
   simp only [cj]
   simp (disch:=omega) only [al,av,ac,oN g1,wrap_i64]
   have m:jW b=false->gD c=c.take i:=by
    intro m;rw [j,u,List.takeWhile_cons,m];simp
   rw [yw] at m
   cases z:decide ((b.toNat:Int)>32) with
   | false=>exact fin (m (by rw [z];rfl))
   | true =>
    cases N:decide ((b.toNat:Int)<127) with
    | false=>exact fin (m (by rw [z,N];rfl))
    | true =>
     cases X:((b.toNat:Int) != 58) with
     | false=>exact fin (m (by rw [z,N,X];rfl))
     | true =>
      have O:jW b=true:=by rw [yw,z,N,X];rfl
      exact qR c U κ f (i+1) (by omega) (by omega) (by
       rw [dL g1,List.takeWhile_append_of_pos (by rw [A];intro a M;exact List.all_eq_true.1 List.all_takeWhile a M)]
       simp [O])
theorem sW (c:List UInt8) (j:c.length<=1000000) (κ : BA->Bool->Option R) (f:Nat) (m:2*c.length+2<f) :
  bQ.e aX (B c) (bQ.L2 aX κ f) (bQ.L5 aX κ f) κ = κ (B (gD c)) (gp c) :=
 qR c j κ f 0 (by omega) (by omega) (by simp)
theorem zp (c:List UInt8) (f:c.length<=1000000) (κ : BA->Bool->Option R):bQ (B c) κ = κ (B (gD c)) (gp c) :=
 sW c f κ ag (by unfold ag;omega)
def ln:List UInt8->Nat
 | []=>0
 | 13::10::_=>2
 | _::r=>1+ln r
theorem mh (r:List UInt8):ln (13::10::r)=2:=by rw [ln]
theorem tE (c:UInt8) (r:List UInt8) (h:¬ (c=13/\r.head? = some 10)):ln (c::r)=1+ln r:=by
 rw [ln]
 rintro f rfl rfl;exact h ⟨rfl,rfl⟩
theorem GI (l:List UInt8):ln l<=l.length:=by
 fun_induction ln l with
 | case1=>simp
 | case2=>simp
 | case3 c r h f=>simp;omega
theorem FB (c:UInt8) (r:List UInt8):0<ln (c::r):=by
 by_cases h:c=13/\r.head? = some 10
 ·obtain ⟨rfl,f⟩:=h
  cases r with
  | nil=>simp at f
  | cons d r=>simp at f;subst f;rw [mh];omega
 ·rw [tE _ _ h];omega
theorem Af (f l:List UInt8):dl f l=if f++l=[] then [] else (f++l.take (ln l))::dl [] (l.drop (ln l)):=by
 fun_induction dl f l with
 | case1=>simp
 | case2 f h=>simp [h,ln,dl]
 | case3 f r m=>simp [mh]
 | case4 f c r h m =>
  rw [m,tE c r (by rintro ⟨rfl,j⟩;cases r with|nil=>simp at j|cons d r=>simp at j;subst j;exact h r rfl rfl)]
  simp [Nat.add_comm 1]
theorem nF (c:UInt8) (r:List UInt8):dl [] (c::r)=(c::r).take (ln (c::r))::dl [] ((c::r).drop (ln (c::r))):=by
 rw [Af,if_neg (by simp)];rfl
theorem gq (l:List UInt8):List.isPrefixOf [13,10] l=true ↔ ∃ r,l=13::10::r:=by
 rw [List.isPrefixOf_iff_prefix]
 exact ⟨fun ⟨t,h⟩=>⟨t,h.symm⟩,fun ⟨t,h⟩=>⟨t,h.symm⟩⟩
theorem uy (c:UInt8) (r:List UInt8):List.isPrefixOf [13,10] (c::r)=true ↔ (c=13/\r.head? = some 10):=by
 rw [gq]
 constructor
 ·rintro ⟨t,h⟩;cases h;exact ⟨rfl,rfl⟩
 ·rintro ⟨rfl,h⟩
  cases r with
  | nil=>simp at h
  | cons d r=>simp at h;subst h;exact ⟨r,rfl⟩
theorem vk:∀ l:List UInt8,(Lib.index l [13,10] = -1/\ln l=l.length)∨(0<=Lib.index l [13,10]/\(ln l:Int)=Lib.index l [13,10]+2)
 | []=>Or.inl ⟨rfl,rfl⟩
 | c::r=>by
  by_cases h:c=13/\r.head? = some 10
  ·have f:=(uy c r).2 h
   obtain ⟨z,u⟩:=(gq _).1 f
   rw [fi,if_pos f,u,mh]
   exact Or.inr ⟨by omega,by omega⟩
  ·have f:¬ List.isPrefixOf [13,10] (c::r)=true:=fun e=>h ((uy c r).1 e)
   rw [fi,if_neg f,tE c r h]
   rcases vk r with ⟨j,m⟩|⟨j,m⟩
   ·rw [j];exact Or.inl ⟨rfl,by simp [m];omega⟩
   ·have:(Lib.index r [13,10] == -1)=false:=by simp;omega
    rw [this]
    exact Or.inr ⟨by simp;omega,by simp;omega⟩
theorem tF (l:List UInt8):l.take (ln l)=[13,10] ↔ List.isPrefixOf [13,10] l=true:=by
 rw [gq]
 constructor
 ·intro h
  refine ⟨l.drop (ln l),?_⟩
  conv=>lhs;rw [<- List.take_append_drop (ln l) l,h]
  rfl
 ·rintro ⟨r,rfl⟩;rw [mh];rfl
def eQ (l:List UInt8):List (List UInt8):=(dl [] l).takeWhile fun x=>x != [13,10]
theorem zT:eQ []=[]:=by unfold eQ;rw [dl];rfl
theorem w9 {l:List UInt8} (h:List.isPrefixOf [13,10] l=true):eQ l=[]:=by
 obtain ⟨r,rfl⟩:=(gq l).1 h
 unfold eQ;rw [nF,mh];simp
theorem w8 {c:UInt8} {r:List UInt8} (h:List.isPrefixOf [13,10] (c::r)=false):eQ (c::r)=(c::r).take (ln (c::r))::eQ ((c::r).drop (ln (c::r))):=by
 unfold eQ;rw [nF,List.takeWhile_cons]
 have:((c::r).take (ln (c::r)) != [13,10])=true:=by
  rw [bne_iff_ne];intro e;rw [tF,h] at e;cases e
 rw [this];simp
def fW:Bool->List UInt8->List (List UInt8)->List (List UInt8 × List UInt8 × Bool × Bool)
 | _,_,[]=>[]
 | fld,f,c::r=>bif dq (c.headD 0) then (c,f,false,fld)::fW fld f r else (c,gD c,gp c,gp c)::fW (gp c) (gD c) r
def eJ (x:List UInt8 × List UInt8 × Bool × Bool):AV := .agg [.str (B x.1),.str (B x.2.1),.bool x.2.2.1,.bool x.2.2.2]
theorem tX (κ : LA->Option R):∀ (f:Nat) (h:List UInt8) (fld:Bool) (j:List UInt8) (acc:List (List UInt8 × List UInt8 × Bool × Bool)),h.length<f->acc.length+h.length<=1000000 ->
  cg.L3 ba aL aX bQ κ f (B h) fld (B j) (acc.map eJ)=κ ((acc++fW fld j (eQ h)).map eJ)
 | 0,h,fld,j,acc,W,X=>by omega
 | f+1,h,fld,j,acc,W,X=>by
  rw [cg.L3,cg.t3]
  rw [show (⟨#[13,10]⟩:BA)=B [13,10] from rfl,dX]
  simp only [eg,pq,pr h [13,10] (by omega)]
  cases h with
  | nil=>rw [zT];simp [fW]
  | cons c r =>
   simp only [reduceCtorEq,decide_false,Bool.not_false,cond_true]
   cases O:List.isPrefixOf [13,10] (c::r) with
   | true=>rw [w9 O];simp [fW]
   | false =>
    rw [w8 O]
    have hle:=GI (c::r)
    have U:=FB c r
    have key:∀ (n:Int),n=(ln (c::r):Int) ->
      (bF ((decide ((0:Int)<=n))&&(decide (n<=((B (c::r)).size:Int)))) (bF (decide ((0:Int)<((B (c::r)).size:Int))) (aX (dM (B (c::r)) 0) (fun M=>(bif (!M) then (bQ ((B (c::r)).extract ((0:Int)).toNat (n).toNat) (fun z u=>(bF (decide (((acc.map eJ).length+1)*40<=140737488355328)) (bF ((decide ((0:Int)<=n))&&((decide (n<=((B (c::r)).size:Int)))&&(decide (((B (c::r)).size:Int)<=((B (c::r)).size:Int))))) (cg.L3 ba aL aX bQ κ f ((B (c::r)).extract (n).toNat (((B (c::r)).size:Int)).toNat) u z ((acc.map eJ)++[AV.agg [AV.str ((B (c::r)).extract ((0:Int)).toNat (n).toNat),AV.str z,AV.bool u,AV.bool u]])))))) else (bF (decide (((acc.map eJ).length+1)*40<=140737488355328)) (bF ((decide ((0:Int)<=n))&&((decide (n<=((B (c::r)).size:Int)))&&(decide (((B (c::r)).size:Int)<=((B (c::r)).size:Int))))) (cg.L3 ba aL aX bQ κ f ((B (c::r)).extract (n).toNat (((B (c::r)).size:Int)).toNat) fld (B j) ((acc.map eJ)++[AV.agg [AV.str ((B (c::r)).extract ((0:Int)).toNat (n).toNat),AV.str (B j),AV.bool false,AV.bool fld]])))))))))
      = κ ((acc++fW fld j ((c::r).take (ln (c::r))::eQ ((c::r).drop (ln (c::r))))).map eJ):=by
     intro n Y
     subst Y
     have hb:dM (B (c::r)) 0=c.toNat:=oN (i:=0) rfl
     have hlen:(c::r).length=r.length+1:=rfl
     simp only [cj,List.length_map,hb,pv]
     simp (disch:=omega) only [av,ac]
     simp only [df,Int.toNat_natCast,Int.toNat_zero,List.drop_zero,List.take_length]
     rw [fW]
     have hd:((c::r).take (ln (c::r))).headD 0=c:=by
      obtain ⟨m,hm⟩:∃ m,ln (c::r)=m+1:=⟨ln (c::r)-1,by omega⟩
      rw [hm];rfl
     rw [hd]
     have A:((c::r).drop (ln (c::r))).length<f:=by rw [List.length_drop];omega
     cases ad:dq c with
     | true =>
      simp only [Bool.not_true,cond_false,cond_true]
      rw [show (acc.map eJ)++[AV.agg [AV.str (B ((c::r).take (ln (c::r)))),AV.str (B j),AV.bool false,AV.bool fld]]=(acc++[((c::r).take (ln (c::r)),j,false,fld)]).map eJ by simp [eJ]]
      rw [tX κ f _ fld j _ A (by simp;omega)]
      simp
     | false =>
      simp only [Bool.not_false,cond_false,cond_true]
      rw [zp _ (by rw [List.length_take];omega)]
      rw [show (acc.map eJ)++[AV.agg [AV.str (B ((c::r).take (ln (c::r)))),AV.str (B (gD ((c::r).take (ln (c::r))))),AV.bool (gp ((c::r).take (ln (c::r)))),AV.bool (gp ((c::r).take (ln (c::r))))]]=(acc++[((c::r).take (ln (c::r)),gD ((c::r).take (ln (c::r))),gp ((c::r).take (ln (c::r))),gp ((c::r).take (ln (c::r))))]).map eJ by simp [eJ]]
      rw [tX κ f _ _ _ _ A (by simp;omega)]
      simp
    simp only [Bool.not_false,cond_true]
    rcases vk (c::r) with ⟨V,N⟩|⟨V,N⟩
    ·rw [V]
     rw [ai (by omega)]
     exact key _ (by rw [cj,N])
    ·have hw:IntKind.wrap .i64 (Lib.index (c::r) [13,10]+2)=(ln (c::r):Int):=by rw [<- N];exact wrap_i64 (by omega) (by omega)
     rw [al (by omega)]
     exact key _ hw
theorem xJ (h:List UInt8) (m:h.length<=1000000) (κ : LA->Option R) (f:Nat) (j:h.length<f) :
  cg.e ba aL aX bQ (B h) (cg.L3 ba aL aX bQ κ f) κ = κ ((fW false [] (eQ h)).map eJ) :=
 tX κ f h false [] [] j (by simp;omega)
theorem D0 (h:List UInt8) (f:h.length<=1000000) (κ : LA->Option R):cg (B h) κ = κ ((fW false [] (eQ h)).map eJ) :=
 xJ h f κ ag (by unfold ag;omega)
def fO (p:UInt8->Bool) (l:List UInt8):List UInt8:=(l.reverse.dropWhile p).reverse
theorem jy (p:UInt8->Bool) (l:List UInt8) (c:UInt8):fO p (l++[c])=if p c then fO p l else l++[c]:=by
 unfold fO
 rw [List.reverse_append,List.reverse_singleton,List.singleton_append,List.dropWhile_cons]
 split <;> simp
theorem Av {p:UInt8->Bool}:∀ {l:List UInt8},(∀ a∈l,p a=true)->fO p l=[]:=by
 intro l h
 unfold fO
 rw [o0.2 (by intro a f;exact h a (List.mem_reverse.1 f))];rfl
theorem mB {p:UInt8->Bool} (a:List UInt8) {c:UInt8} (d:List UInt8) (f:p c=false):fO p (a++c::d)=a++fO p (c::d):=by
 unfold fO
 rw [List.reverse_append,List.reverse_cons,List.append_assoc]
 simp only [List.dropWhile_append]
 split
 ·simp [f]
 ·simp
theorem p6 {p:UInt8->Bool} {c:UInt8} (d:List UInt8) (f:p c=false):∃ e,fO p (c::d)=c::e:=by
 refine ⟨fO p (c::d) |>.tail,?_⟩
 have:=mB (p:=p) [] (c:=c) d f
 unfold fO at this ⊢
 rw [List.reverse_cons,List.dropWhile_append]
 split
 ·simp [f]
 ·simp
def eW (l:List UInt8):List UInt8:=fO dq (l.dropWhile dq)
theorem AF (p:UInt8->Bool) (l:List UInt8):(fO p l).dropWhile p=fO p (l.dropWhile p):=by
 have m:l=l.takeWhile p++l.dropWhile p:=List.takeWhile_append_dropWhile.symm
 cases f:l.dropWhile p with
 | nil =>
  have:∀ a∈l,p a=true:=o0.1 f
  rw [Av this];rfl
 | cons c d =>
  have j:p c=false:=by
   have:=List.head?_dropWhile_not p l
   rw [f] at this;simpa using this
  conv=>lhs;rw [m,f,mB _ _ j]
  obtain ⟨e,he⟩:=p6 (p:=p) d j
  rw [List.dropWhile_append_of_pos (by intro a u;exact List.all_eq_true.1 List.all_takeWhile a u),he,List.dropWhile_cons,j]
  simp
theorem ld {l:List UInt8} (h:l≠[]):∃ t c,l=t++[c]:=⟨l.dropLast,l.getLast h,(List.dropLast_concat_getLast h).symm⟩
theorem za (κ : BA->Option R):∀ (f:Nat) (l:List UInt8),l.length<f->l.length<=1000000->da.L3 aP κ f (B l)=κ (B (fO dq l))
 | 0,l,h,m=>by omega
 | f+1,l,h,m=>by
  rw [da.L3,da.t3]
  simp only [cj]
  by_cases j:l=[]
  ·subst j;rfl
  ·obtain ⟨t,c,rfl⟩:=ld j
   have hlen:(t++[c]).length=t.length+1:=by simp
   have hw:IntKind.wrap .i64 (((t++[c]).length:Int)-1)=(t.length:Int):=by rw [hlen,wrap_i64 (by omega) (by omega)];omega
   have u:(t++[c])[t.length]? = some c:=by simp
   simp only [hw]
   simp (disch:=omega) only [al,av,ac,oN u,iN]
   rw [jy]
   cases z:dq c with
   | false=>simp
   | true =>
    simp only [cond_true,if_true,df,Int.toNat_zero,Int.toNat_natCast,List.drop_zero]
    rw [List.take_left' rfl]
    exact za κ f t (by omega) (by omega)
theorem y' (κ : BA->Option R):∀ (f:Nat) (l:List UInt8),2*l.length+2<f->l.length<=1000000->da.L1 aP κ f (B l)=κ (B (eW l))
 | 0,l,h,j=>by omega
 | f+1,l,h,j=>by
  rw [da.L1,da.t1,za κ f l (by omega) j]
  simp only [cj]
  cases l with
  | nil=>rfl
  | cons c r =>
   have hlen:(c::r).length=r.length+1:=rfl
   have m:dM (B (c::r)) 0=c.toNat:=oN (i:=0) rfl
   simp (disch:=omega) only [al,av,ac,m,iN]
   unfold eW
   rw [List.dropWhile_cons]
   cases u:dq c with
   | false=>rfl
   | true =>
    simp only [cond_true,if_true,df,Int.toNat_natCast,List.take_length]
    exact y' κ f r (by omega) (by omega)
theorem xR (l:List UInt8) (j:l.length<=1000000) (κ : BA->Option R) (f:Nat) (m:2*l.length+2<f) :
  da.e aP (B l) (da.L1 aP κ f) (da.L3 aP κ f) κ = κ (B (eW l)):=y' κ f l m j
theorem Ea (l:List UInt8) (f:l.length<=1000000) (κ : BA->Option R):da (B l) κ = κ (B (eW l)):=xR l f κ ag (by unfold ag;omega)
def oI:LA:=eA (eA (List.replicate 256 (AV.bool false)) 32 (AV.bool true)) 9 (AV.bool true)
theorem zt:(List.range 256).all (fun n=>(bf oI (n:Int)).b == dq (UInt8.ofNat n))=true:=by kernel_rfl
theorem contains_eq (c:UInt8) (κ : Bool->Option R):ao oI (c.toNat:Int) κ = κ (dq c):=by
 unfold ao ao.e
 have f:=km c
 simp (disch:=omega) only [av,ac]
 have:=List.all_eq_true.1 zt c.toNat (List.mem_range.2 f)
 rw [beq_iff_eq] at this
 rw [this,UInt8.ofNat_toNat]
theorem xn (κ : LA->Bool->Option R):b8 (⟨#[32,9]⟩:BA) κ = κ oI true:=by kernel_rfl
theorem wi (κ : BA->Option R):∀ (f:Nat) (l:List UInt8),l.length<f->l.length<=1000000->bh.L1 ao κ f (B l) oI=κ (B (fO dq l))
 | 0,l,h,m=>by omega
 | f+1,l,h,m=>by
  rw [bh.L1,bh.t1]
  simp only [cj]
  by_cases j:l=[]
  ·subst j;rfl
  ·obtain ⟨t,c,rfl⟩:=ld j
   have hlen:(t++[c]).length=t.length+1:=by simp
   have hw:IntKind.wrap .i64 (((t++[c]).length:Int)-1)=(t.length:Int):=by rw [hlen,wrap_i64 (by omega) (by omega)];omega
   have u:(t++[c])[t.length]? = some c:=by simp
   simp only [hw]
   simp (disch:=omega) only [al,av,ac,oN u,contains_eq]
   rw [jy]
   cases z:dq c with
   | false=>simp
   | true =>
    simp only [Bool.not_true,cond_false,if_true,df,Int.toNat_zero,Int.toNat_natCast,List.drop_zero]
    rw [List.take_left' rfl]
    exact wi κ f t (by omega) (by omega)
theorem sF (κ : BA->Option R):∀ (f:Nat) (l:List UInt8),l.length<f->l.length<=1000000->bt.L1 ao κ f (B l) oI=κ (B (l.dropWhile dq))
 | 0,l,h,j=>by omega
 | f+1,l,h,j=>by
  rw [bt.L1,bt.t1]
  simp only [cj]
  cases l with
  | nil=>rfl
  | cons c r =>
   have hlen:(c::r).length=r.length+1:=rfl
   have m:dM (B (c::r)) 0=c.toNat:=oN (i:=0) rfl
   simp (disch:=omega) only [al,av,ac,m,contains_eq]
   rw [List.dropWhile_cons]
   cases u:dq c with
   | false=>rfl
   | true =>
    simp only [Bool.not_true,cond_false,if_true,df,Int.toNat_natCast,List.take_length]
    exact sF κ f r (by omega) (by omega)
theorem wj (l:List UInt8) (j:l.length<=1000000) (κ : BA->Option R) (f:Nat) (m:l.length<f) :
  bh.e ao (B l) oI (bh.L1 ao κ f) κ = κ (B (fO dq l)):=wi κ f l m j
theorem uc (l:List UInt8) (j:l.length<=1000000) (κ : BA->Option R) (f:Nat) (m:l.length<f) :
  bt.e ao (B l) oI (bt.L1 ao κ f) κ = κ (B (l.dropWhile dq)):=sF κ f l m j
theorem so (p:UInt8->Bool) (l:List UInt8):(fO p l).length<=l.length:=by
 unfold fO
 rw [List.length_reverse]
 have:=(List.dropWhile_sublist p (l:=l.reverse)).length_le
 simpa using this
theorem p8 (l:List UInt8) (j:l.length<=1000000) (κ : BA->Option R):bL (B l) (⟨#[32,9]⟩:BA) κ = κ (B (eW l)):=by
 unfold bL bL.e
 rw [show decide ((⟨#[32,9]⟩:BA)=(⟨#[]⟩:BA))=false from by decide]
 simp only [xn,cond_false]
 by_cases f:l=[]
 ·subst f;rfl
 ·rw [decide_eq_false (show ¬ B l=(⟨#[]⟩:BA) from fun e=>f (eg.1 e))]
  simp only [cond_false]
  rw [show (((⟨#[32,9]⟩:BA).size:Int) == 1)=false from rfl]
  simp only [cond_false,cond_true]
  have m:=so dq l
  unfold bh bt
  rw [wj l j _ ag (by unfold ag;omega),uc _ (by omega) _ ag (by unfold ag;omega),AF]
  rfl
def fy (c:List UInt8):List UInt8:=if c.drop (c.length-2)=[13,10] then c.take (c.length-2) else c
theorem gY (c:List UInt8):(fy c).length<=c.length:=by unfold fy;split <;> simp
theorem kN (c:List UInt8) (j:c.length<=1000000) (κ : BA->Option R):aN (B c) (⟨#[13,10]⟩:BA) κ = κ (B (fy c)):=by
 unfold aN aN.e cD cD.e cO cO.e
 rw [show (⟨#[13,10]⟩:BA)=B [13,10] from rfl]
 have f:([13,10]:List UInt8).length=2:=rfl
 simp only [cj,f,df,eg]
 unfold fy
 by_cases h:2<=c.length
 ·have hw:IntKind.wrap .i64 ((c.length:Int)-((2:Nat):Int))=((c.length-2:Nat):Int):=by rw [wrap_i64 (by omega) (by omega)];omega
  simp only [hw,Int.toNat_natCast]
  simp (disch:=omega) only [al,av,ac]
  simp only [List.take_length,Int.toNat_zero,List.drop_zero]
  by_cases e:c.drop (c.length-2)=[13,10]
  ·rw [al e,if_pos e]
  ·rw [ai e,if_neg e]
 ·have e:c.drop (c.length-2)≠[13,10]:=by intro e;have:=congrArg List.length e;rw [List.length_drop] at this;simp at this;omega
  simp (disch:=omega) only [ai,cond_false]
  rw [if_neg e]
theorem x' (c:List UInt8) (N:c.length<=1000000) (κ : BA->Option R):cW (B c) κ = κ (B (fy c)):=by
 unfold cW cW.e
 simp only [cj]
 unfold fy
 by_cases h:2<=c.length
 ·obtain ⟨x,r,z⟩:=lQ (l:=c) (i:=c.length-2) (by omega)
  obtain ⟨g1,g2,g3⟩:=cP z
  obtain ⟨y,A,hy⟩:=lQ (l:=c) (i:=c.length-2+1) (by omega)
  obtain ⟨k1,k2,k3⟩:=cP hy
  have m:A=[]:=by rw [<- k3];exact List.drop_eq_nil_of_le (by omega)
  have M:c.drop (c.length-2)=[x,y]:=by rw [z,<- g3,hy,m]
  have hw:IntKind.wrap .i64 ((c.length:Int)-2)=((c.length-2:Nat):Int):=by rw [wrap_i64 (by omega) (by omega)];omega
  have u:IntKind.wrap .i64 ((c.length:Int)-1)=((c.length-2+1:Nat):Int):=by rw [wrap_i64 (by omega) (by omega)];omega
  simp only [hw,u]
  simp (disch:=omega) only [al,av,ac,oN g1,oN k1]
  rw [jC x 13 13 rfl,jC y 10 10 rfl,M]
  simp only [df,Int.toNat_natCast,Int.toNat_zero,List.drop_zero]
  by_cases f:x=13
  ·subst f
   by_cases j:y=10
   ·subst j;simp
   ·have:(y == 10)=false:=by simp [j]
    rw [this];simp [j]
  ·have:(x == 13)=false:=by simp [f]
   rw [this];simp [f]
 ·have e:c.drop (c.length-2)≠[13,10]:=by intro e;have:=congrArg List.length e;rw [List.length_drop] at this;simp at this;omega
  simp (disch:=omega) only [ai]
  rw [if_neg e]
theorem zB (c:List UInt8) (n i:Nat) (κ : Int->Int->Option R) (m:i<=c.length) :
  (bif ((n:Int) == 0) then (κ (-1) 0) else (bif ((i:Int) == (c.length:Int)) then (κ (-1) 0) else (bF ((decide ((0:Int)<=(i:Int)))&&(decide ((i:Int)<(c.length:Int)))) (bif ((dM (B c) (i:Int)) != 58) then (κ (-1) 0) else (κ (i:Int) (n:Int))))))
   = bif (decide (n≠0)&&(c[i]? == some 58)) then κ (i:Int) (n:Int) else κ (-1) 0:=by
 by_cases j:n=0
 ·subst j;rfl
 ·rw [fR (by omega),decide_eq_true j]
  by_cases h:i=c.length
  ·subst h
   rw [fS rfl,List.getElem?_eq_none (Nat.le_refl _)];rfl
  ·rw [fR (by omega)]
   have f:i<c.length:=by omega
   simp (disch:=omega) only [cond_false,av,ac]
   rw [oN (List.getElem?_eq_getElem f),A' _ 58 58 rfl,List.getElem?_eq_getElem f]
   rw [show (some c[i] == some (58:UInt8))=(c[i] == 58) from rfl]
   unfold bne
   cases (c[i] == 58) <;> rfl
theorem uw (c:List UInt8) (n:Nat) (u:c.length<=1000000) (κ : Int->Int->Option R):∀ (f i:Nat),i<=c.length->c.length<i+f ->
  bT.L5 aP κ f (B c) (i:Int) (n:Int)=bif (decide (n≠0)&&(c[i+((c.drop i).takeWhile dq).length]? == some 58)) then κ ((i+((c.drop i).takeWhile dq).length:Nat):Int) (n:Int) else κ (-1) 0
 | 0,i,j,z=>by omega
 | f+1,i,j,z=>by
  rw [bT.L5,bT.t5]
  simp only [cj]
  simp only [zB c n i κ j]
  cases m:c.drop i with
  | nil =>
   have:=drop_nil m
   simp (disch:=omega) only [ai]
   rfl
  | cons b r =>
   obtain ⟨g1,g2,g3⟩:=cP m
   simp (disch:=omega) only [al,av,ac,oN g1,iN,wrap_i64]
   rw [List.takeWhile_cons]
   cases A:dq b with
   | false=>rfl
   | true =>
    simp only [cond_true,Ch,if_true,List.length_cons]
    rw [uw c n u κ f (i+1) (by omega) (by omega),g3]
    rw [show i+1+(List.takeWhile dq r).length=i+((List.takeWhile dq r).length+1) by omega]
theorem uW (c:UInt8):jW c=(decide ((c.toNat:Int)>=33)&&(decide ((c.toNat:Int)<=126)&&((c.toNat:Int) != 58))):=by
 rw [A' c 58 58 rfl];unfold jW
 congr 1
 ·rw [decide_eq_decide];omega
 ·congr 1
  rw [decide_eq_decide];omega
theorem uv (c:List UInt8) (U:c.length<=1000000) (κ : Int->Int->Option R):∀ (f i:Nat),i<=c.length->2*c.length+2<i+f->c.take i=(c.take i).takeWhile jW ->
  bT.L2 aP κ f (B c) (i:Int)=bif gp c then κ (jM c:Int) ((gD c).length:Int) else κ (-1) 0
 | 0,i,V,Y,A=>by omega
 | f+1,i,V,Y,A=>by
  have fin:gD c=c.take i->bT.L5 aP κ f (B c) (i:Int) (i:Int)=bif gp c then κ (jM c:Int) ((gD c).length:Int) else κ (-1) 0:=by
   intro hn
   rw [uw c _ U κ f i V (by omega)]
   have W:(gD c).length=i:=by rw [hn];simp;omega
   unfold gp jM
   rw [W]
   have:decide (gD c≠[])=decide (i≠0):=by
    rw [decide_eq_decide]
    rw [<- W];simp
   rw [this]
  rw [bT.L2,bT.t2]
  have j:gD c=c.take i++(c.drop i).takeWhile jW:=by
   unfold gD
   conv=>lhs;rw [<- List.take_append_drop i c]
   rw [List.takeWhile_append_of_pos]
   rw [A];intro a M;exact List.all_eq_true.1 List.all_takeWhile a M
  cases u:c.drop i with
  | nil =>
   have:=drop_nil u
   simp only [cj]
   simp (disch:=omega) only [ai,av,ac]
   exact fin (by rw [j,u];simp)
  | cons b r =>
   obtain ⟨g1,g2,g3⟩:=cP u
   simp only [cj]
   simp (disch:=omega) only [al,av,ac,oN g1,wrap_i64]
   have m:jW b=false->gD c=c.take i:=by
    intro m;rw [j,u,List.takeWhile_cons,m];simp
   rw [uW] at m
   cases z:decide ((b.toNat:Int)>=33) with
   | false=>exact fin (m (by rw [z];rfl))
   | true =>
    cases N:decide ((b.toNat:Int)<=126) with
    | false=>exact fin (m (by rw [z,N];rfl))
    | true =>
     cases X:((b.toNat:Int) != 58) with
     | false=>exact fin (m (by rw [z,N,X];rfl))
     | true =>
      have O:jW b=true:=by rw [uW,z,N,X];rfl
      exact uv c U κ f (i+1) (by omega) (by omega) (by
       rw [dL g1,List.takeWhile_append_of_pos (by rw [A];intro a M;exact List.all_eq_true.1 List.all_takeWhile a M)]
       simp [O])
theorem ux (c:List UInt8) (j:c.length<=1000000) (κ : Int->Int->Option R) (f:Nat) (m:2*c.length+2<f) :
  bT.e aP (B c) (bT.L2 aP κ f) (bT.L5 aP κ f) κ = bif gp c then κ (jM c:Int) ((gD c).length:Int) else κ (-1) 0 :=
 uv c j κ f 0 (by omega) (by omega) (by simp)
theorem Bp (c:List UInt8) (f:c.length<=1000000) (κ : Int->Int->Option R):bT (B c) κ = bif gp c then κ (jM c:Int) ((gD c).length:Int) else κ (-1) 0 :=
 ux c f κ ag (by unfold ag;omega)
abbrev Fl:=List UInt8 × List UInt8 × List UInt8
def iv (x:Fl):AV := .agg [.str (B x.1),.str (B x.2.1),.str (B x.2.2)]
theorem Hl (x:Fl):((iv x).fld 0).s=B x.1:=rfl
theorem Gm (x:Fl):((iv x).fld 1).s=B x.2.1:=rfl
theorem Hm (x:Fl):((iv x).fld 2).s=B x.2.2:=rfl
def fresh (c:List UInt8):Fl:=bif gp c then (gD c,fy (c.drop (jM c+1)),c) else ([],[],c)
def ext (x:Fl) (c:List UInt8):Fl:=(x.1,x.2.1++fy c,x.2.2++c)
def dz:Option Fl->List (List UInt8)->List Fl
 | none,[]=>[]
 | some x,[]=>[x]
 | none,c::r=>dz (some (fresh c)) r
 | some x,c::r=>bif dq (c.headD 0) then dz (some (ext x c)) r else x::dz (some (fresh c)) r
theorem rC {c:UInt8} {r:List UInt8} (h:dq c=true):gp (c::r)=false:=by
 unfold gp gD
 have:jW c=false:=by
  unfold dq at h
  rw [Bool.or_eq_true,beq_iff_eq,beq_iff_eq] at h
  rcases h with rfl|rfl <;> rfl
 rw [List.takeWhile_cons,this];simp
theorem BV {c:List UInt8} (h:gp c=true):c[jM c]? = some 58:=by
 unfold gp at h;rw [Bool.and_eq_true,beq_iff_eq] at h;exact h.2
theorem Fh {c:List UInt8} (h:gp c=true):gD c≠[]:=by
 unfold gp at h;rw [Bool.and_eq_true,decide_eq_true_eq] at h;exact h.1
theorem BW {c:List UInt8} (h:gp c=true):jM c<c.length:=(List.getElem?_eq_some_iff.1 (BV h)).1
theorem Ck (c:List UInt8):c.take (gD c).length=gD c:=by
 unfold gD
 have:=List.takeWhile_prefix jW (l:=c)
 exact (List.prefix_iff_eq_take.1 this).symm
theorem Cj (c:List UInt8):(gD c).length<=c.length:=(List.takeWhile_prefix jW (l:=c)).length_le
theorem Ag:∀ (cur l:List UInt8) (x:List UInt8),x∈dl cur l->x≠[]:=by
 intro cur l
 fun_induction dl cur l with
 | case1=>simp
 | case2 cur h=>simpa using h
 | case3 cur r ih => intro x hx; rw [List.mem_cons] at hx; rcases hx with rfl | hx
                     ·simp
                     ·exact ih x hx
 | case4 cur c r h ih=>exact ih
abbrev CF (κ : LA->Option R):=cI.L4 bD aP cW bT κ
abbrev Au (κ : LA->Option R):=cI.L5 bD aP cW bT κ
abbrev sm (κ : LA->Option R):=cI.sN bD aP cW bT κ
theorem At (κ : LA->Option R) (f:Nat) (i:Int) (a b:LA):CF κ (f+1) i a b=cI.t4 aP cW (Au κ f) (sm κ f) κ i a b:=rfl
theorem sn (κ : LA->Option R) (f:Nat) (i:Int) (a b:LA):Au κ (f+1) i a b=CF κ f (IntKind.wrap .i64 (i+1)) a b:=rfl
theorem xI (κ : LA->Option R) (f:Nat) (i:Int) (s:BA) (a b:LA):sm κ (f+1) i s a b=cI.t11 aP cW bT (Au κ f) i s a b:=by
 try unfold sm
 try unfold CF
 try unfold Au
 try unfold cI.sN
 try unfold cI.L4
 try unfold cI.L5
 rw [cI.M4]
theorem CH (κ : LA->Option R) (f:Nat) (i:Int) (c:List UInt8) (out u:LA) (A:c≠[]) (M:c.length<=1000000) (U:out.length<=1000000) :
  sm κ (f+1) i (B c) out u=Au κ f i (out++[iv (fresh c)]) u:=by
 rw [xI,cI.t11,Bp c M]
 obtain ⟨b,r,rfl⟩:∃ b r,c=b::r:=by cases c with|nil=>exact absurd rfl A|cons b r=>exact ⟨b,r,rfl⟩
 have z:dM (B (b::r)) 0=b.toNat:=oN (i:=0) rfl
 have hlen:(b::r).length=r.length+1:=rfl
 unfold fresh
 cases j:gp (b::r) with
 | false =>
  simp only [cond_false,cj,z,iN]
  simp (disch:=omega) only [ac,al]
  cases dq b <;> rfl
 | true =>
  have m:dq b=false:=by
   cases h:dq b with
   | false=>rfl
   | true=>rw [rC h] at j;cases j
  have N:=BW j
  have O:=Cj (b::r)
  have hw:IntKind.wrap .i64 ((jM (b::r):Int)+1)=((jM (b::r)+1:Nat):Int):=by rw [wrap_i64 (by omega) (by omega)];omega
  simp only [cond_true,cj,z,iN,m,cond_false,hw]
  simp (disch:=omega) only [av,ac,ai]
  simp only [df,Int.toNat_natCast,Int.toNat_zero,List.drop_zero,List.take_length,Ck]
  rw [x' _ (by rw [List.length_drop];omega)]
  rfl
theorem tW (κ : LA->Option R) (m:List (List UInt8)) (z:∀ x∈m,x≠[]) (hn:m.length<=1000000):∀ (f i:Nat) (done:List Fl) (j:Option Fl),i<=m.length->3*m.length+3<3*i+f->(j=none->done=[])->(done++j.toList).length<=i ->
  (∀ x,j=some x->x.2.1.length<=x.2.2.length/\x.2.2.length+total (m.drop i)<=1000000)->total (m.drop i)<=1000000 ->
  CF κ f (i:Int) ((done++j.toList).map iv) (bw m)=κ ((done++dz j ((m.drop i).takeWhile fun x=>x != [13,10])).map iv)
 | 0,i,done,j,Y,h2,M,W,X,h6=>by omega
 | 1,i,done,j,Y,h2,M,W,X,h6=>by omega
 | 2,i,done,j,Y,h2,M,W,X,h6=>by omega
 | f+3,i,done,j,Y,h2,M,W,X,h6=>by
  rw [At,cI.t4]
  have hlen:=eR m
  have a1:((done++j.toList).map iv).length=(done++j.toList).length:=List.length_map ..
  have u:∀ x:List Fl,x=dz j []->κ ((done++j.toList).map iv)=κ ((done++x).map iv):=by
   intro x N;subst N;cases j <;> rfl
  cases hd:m.drop i with
  | nil =>
   have:=drop_nil hd
   simp (disch:=omega) only [ai]
   exact u _ rfl
  | cons c r =>
   obtain ⟨g1,g2,g3⟩:=cP hd
   have hc:c≠[]:=z c (List.mem_of_getElem? g1)
   have a6:total (m.drop i)=c.length+total r:=by rw [hd];rfl
   have ad:=vQ g1
   rw [show (⟨#[13,10]⟩:BA)=B [13,10] from rfl]
   simp (disch:=omega) only [al,av,ac]
   simp only [ad,List.takeWhile_cons]
   by_cases N:c=[13,10]
   ·subst N
    rw [decide_eq_true (show B [13,10]=B [13,10] from rfl)]
    exact u _ rfl
   ·rw [decide_eq_false (show ¬ B c=B [13,10] from fun e=>N (eg.1 e))]
    have ae:(c != [13,10])=true:=by rw [bne_iff_ne];exact N
    simp only [Bool.not_false,cond_true,ae,if_true]
    obtain ⟨b,t,rfl⟩:∃ b t,c=b::t:=by cases c with|nil=>exact absurd rfl hc|cons b t=>exact ⟨b,t,rfl⟩
    have hb:dM (B (b::t)) 0=b.toNat:=oN (i:=0) rfl
    have a7:(b::t).length=t.length+1:=rfl
    have O:IntKind.wrap .i64 ((i:Int)+1)=((i+1:Nat):Int):=wrap_i64 (by omega) (by omega)
    have U:sm κ (f+2) (i:Int) (B (b::t)) ((done++j.toList).map iv) (bw m)=κ (((done++j.toList)++dz (some (fresh (b::t))) (r.takeWhile fun x=>x != [13,10])).map iv):=by
     rw [CH κ (f+1) _ (b::t) _ _ hc (by omega) (by omega),sn,O]
     have ap:(fresh (b::t)).2.2=b::t:=by unfold fresh;cases gp (b::t) <;> rfl
     have ar:(fresh (b::t)).2.1.length<=(b::t).length:=by
      unfold fresh
      cases gp (b::t) with
      | false=>simp
      | true=>have:=gY ((b::t).drop (jM (b::t)+1));rw [List.length_drop] at this;show (fy _).length<=_;omega
     have:=tW κ m z hn f (i+1) (done++j.toList) (some (fresh (b::t))) (by omega) (by omega) (by intro e;cases e) (by rw [List.length_append];show _+1<=_;omega)
      (by intro x e;cases e;rw [ap,g3];exact ⟨ar,by omega⟩) (by rw [g3];omega)
     rw [g3] at this
     rw [<- this]
     simp
    simp only [hb,iN]
    simp (disch:=omega) only [cj,ac]
    cases V:dq b with
    | false =>
     simp only [cond_false]
     rw [U]
     cases j with
     | none=>have A:=M rfl;subst A;rfl
     | some x =>
      rw [dz]
      simp only [List.headD_cons,V,cond_false,Option.toList_some,List.append_assoc,List.singleton_append]
    | true =>
     simp only [cond_true]
     cases j with
     | none =>
      have A:=M rfl
      subst A
      have hw:IntKind.wrap .i64 ((((([]:List Fl)++(none:Option Fl).toList).map iv).length:Int)-1) = -1:=by rw [wrap_i64] <;> simp
      rw [hw,ai (by omega),U]
      rfl
     | some x =>
      obtain ⟨a8,bb⟩:=X x rfl
      have ax:(done++(some x).toList).map iv=done.map iv++[iv x]:=by simp
      have be:(done++(some x).toList).length=done.length+1:=by simp
      have bk:(done.map iv).length=done.length:=List.length_map ..
      rw [ax]
      have hw:IntKind.wrap .i64 (((done.map iv++[iv x]).length:Int)-1)=(((done.map iv).length:Nat):Int):=by
       rw [List.length_append,List.length_singleton,wrap_i64 (by omega) (by omega)];omega
      have bs:=gY (b::t)
      simp only [hw]
      have sl:∀ a b:AV,eA (done.map iv++[a]) ((done.map iv).length:Int) b=done.map iv++[b]:=fun a b=>iF _ a b [] _ rfl
      have f0:∀ a b c:AV,(AV.agg [a,b,c]).fld 0=a:=fun _ _ _=>rfl
      have f1:∀ a b c:AV,(AV.agg [a,b,c]).fld 1=b:=fun _ _ _=>rfl
      have f2:∀ a b c:AV,(AV.agg [a,b,c]).fld 2=c:=fun _ _ _=>rfl
      have fs:∀ a,(AV.str a).s=a:=fun _=>rfl
      simp only [vP,sl,iv,f0,f1,f2,fs]
      simp only [List.length_append,List.length_singleton]
      rw [x' _ (by omega)]
      simp only [gX,cj]
      simp (disch:=omega) only [al,av,ac]
      rw [sn,O]
      have ex:(ext x (b::t)).2.2.length=x.2.2.length+(b::t).length:=by unfold ext;simp
      have bx:(ext x (b::t)).2.1.length=x.2.1.length+(fy (b::t)).length:=by unfold ext;simp
      have:=tW κ m z hn (f+1) (i+1) done (some (ext x (b::t))) (by omega) (by omega) (by intro e;cases e) (by simp at W ⊢;omega)
       (by intro y e;cases e;rw [g3];exact ⟨by omega,by omega⟩) (by rw [g3];omega)
      rw [g3] at this
      rw [dz]
      simp only [List.headD_cons,V,cond_true]
      rw [<- this]
      simp [iv,ext]
theorem CG (h:List UInt8) (m:h.length<=200000) (κ : LA->Option R) (f:Nat) (u:600010<f) :
  cI.e bD aP cW bT (B h) (CF κ f) (Au κ f) (sm κ f) κ = κ ((dz none (eQ h)).map iv):=by
 unfold cI.e
 rw [sk (B h) (by rw [lC];omega),lC]
 have z:=lh h
 have j:=gM [] h
 exact tW κ (dl [] h) (Ag [] h) (by omega) f 0 [] none (by omega) (by omega) (fun _=>rfl) (by simp) (by intro x e;cases e) (by simp only [List.drop_zero,j];simp;omega)
theorem head_eq (h:List UInt8) (f:h.length<=200000) (κ : LA->Option R):cI (B h) κ = κ ((dz none (eQ h)).map iv) :=
 CG h f κ ag (by unfold ag;omega)
def named (l:List Fl):List Fl:=l.filter fun x=>x.1 != []
def gC (x:Fl):Fl:=(x.1,eW x.2.1,x.2.2)
theorem DA {l:List Fl} {i:Nat} {x:Fl} (h:l[i]? = some x):bf (l.map iv) (i:Int)=iv x:=eh (by rw [List.getElem?_map,h];rfl)
theorem tR (κ : LA->Option R) (l:List Fl) (A:l.length<=1000000) (u:∀ x∈l,x.2.1.length<=1000000):∀ (f i:Nat) (acc:List Fl),i<=l.length->l.length<i+f->acc.length<=64 ->
  ch.L4 cI da κ f (i:Int) (acc.map iv) (l.map iv)=κ (((acc++(named (l.drop i)).map gC).take 64).map iv)
 | 0,i,acc,N,O,j=>by omega
 | f+1,i,acc,N,O,j=>by
  rw [ch.L4,ch.t4]
  simp only [List.length_map]
  cases M:l.drop i with
  | nil =>
   have:=drop_nil M
   simp (disch:=omega) only [ai]
   simp only [named,List.filter_nil,List.map_nil,List.append_nil]
   rw [List.take_of_length_le j]
  | cons x r =>
   obtain ⟨g1,g2,g3⟩:=cP M
   have z:IntKind.wrap .i64 ((i:Int)+1)=((i+1:Nat):Int):=wrap_i64 (by omega) (by omega)
   simp (disch:=omega) only [al,av,ac]
   simp only [DA g1,Hl,Gm,Hm,z]
   by_cases U:acc.length<64
   ·simp (disch:=omega) only [al]
    by_cases m:x.1=[]
    ·rw [decide_eq_true (show B x.1=(⟨#[]⟩:BA) by rw [m];rfl)]
     simp only [Bool.not_true,cond_false]
     rw [tR κ l A u f (i+1) acc (by omega) (by omega) j,g3]
     have:named (x::r)=named r:=by unfold named;rw [List.filter_cons];simp [m]
     rw [this]
    ·rw [decide_eq_false (show ¬ B x.1=(⟨#[]⟩:BA) from fun e=>m (eg.1 e))]
     simp only [Bool.not_false,cond_true]
     rw [Ea _ (u x (List.mem_of_getElem? g1))]
     have:=tR κ l A u f (i+1) (acc++[gC x]) (by omega) (by omega) (by simp;omega)
     rw [g3] at this
     have e:named (x::r)=x::named r:=by unfold named;rw [List.filter_cons];simp [m]
     rw [e]
     simp only [List.map_cons]
     rw [show acc++gC x::(named r).map gC=(acc++[gC x])++(named r).map gC by simp,<- this]
     simp [iv,gC]
   ·simp (disch:=omega) only [ai]
    rw [List.take_append_of_le_length (by omega),List.take_of_length_le j]
theorem iW:∀ (u:List (List UInt8)) (m:Option Fl) (n:Nat),(∀ x,m=some x->x.2.1.length+total u<=n)->total u<=n->∀ x∈dz m u,x.2.1.length<=n
 | [],none,n,h,j,x,f=>by rw [dz] at f;cases f
 | [],some y,n,h,j,x,f=>by
  rw [dz,List.mem_singleton] at f;subst f
  have:=h x rfl;simp only [total] at this;omega
 | c::r,none,n,h,j,x,f=>by
  rw [dz] at f
  refine iW r _ n ?_ (by simp only [total] at j;omega) x f
  intro y e;cases e
  simp only [total] at j
  have:(fresh c).2.1.length<=c.length:=by
   unfold fresh
   cases gp c with
   | false=>simp
   | true=>have:=gY (c.drop (jM c+1));rw [List.length_drop] at this;show (fy _).length<=_;omega
  omega
 | c::r,some y,n,h,j,x,f=>by
  have hy:=h y rfl
  simp only [total] at j hy
  rw [dz] at f
  have M:(fresh c).2.1.length<=c.length:=by
   unfold fresh
   cases gp c with
   | false=>simp
   | true=>have:=gY (c.drop (jM c+1));rw [List.length_drop] at this;show (fy _).length<=_;omega
  cases A:dq (c.headD 0) with
  | true =>
   rw [A,cond_true] at f
   refine iW r _ n ?_ (by omega) x f
   intro z e;cases e
   have:=gY c
   have:(ext y c).2.1.length=y.2.1.length+(fy c).length:=by unfold ext;simp
   omega
  | false =>
   rw [A,cond_false,List.mem_cons] at f
   rcases f with rfl|f
   ·omega
   ·refine iW r _ n ?_ (by omega) x f
    intro z e;cases e;omega
theorem kq:∀ (j:List (List UInt8)) (f:Option Fl),(dz f j).length<=f.toList.length+j.length
 | [],none=>by rw [dz];simp
 | [],some y=>by rw [dz];simp
 | c::r,none=>by rw [dz];have:=kq r (some (fresh c));simp at this ⊢;omega
 | c::r,some y=>by
  rw [dz]
  have m:=kq r (some (fresh c))
  have u:=kq r (some (ext y c))
  cases dq (c.headD 0) <;> simp at m u ⊢ <;> omega
theorem jE (p:List UInt8->Bool):∀ l:List (List UInt8),total (l.takeWhile p)<=total l
 | []=>by simp
 | c::r=>by
  rw [List.takeWhile_cons]
  have:=jE p r
  split <;> simp only [total] <;> omega
def gm (h:List UInt8):List Fl:=((named (dz none (eQ h))).map gC).take 64
theorem ru (h:List UInt8):(eQ h).length<=h.length+1:=by
 have f:=lh h
 have j:(eQ h).length<=(dl [] h).length:=(List.takeWhile_sublist _).length_le
 omega
theorem jU (h:List UInt8):total (eQ h)<=h.length:=by
 have f:=gM [] h
 have j:total (eQ h)<=total (dl [] h):=jE _ _
 simp at f;omega
theorem Ct (h:List UInt8) (j:h.length<=200000) (κ : LA->Option R) (f:Nat) (u:300010<f) :
  ch.e cI da (B h) (ch.L4 cI da κ f) κ = κ ((gm h).map iv):=by
 unfold ch.e
 rw [head_eq h j]
 have z:=ru h
 have A:=jU h
 have m:=kq (eQ h) none
 simp at m
 have:=tR κ (dz none (eQ h)) (by omega) (iW (eQ h) none 1000000 (by intro x e;cases e) (by omega)) f 0 [] (by omega) (by omega) (by simp)
 simpa [gm] using this
theorem xD (h:List UInt8) (f:h.length<=200000) (κ : LA->Option R):ch (B h) κ = κ ((gm h).map iv) :=
 Ct h f κ ag (by unfold ag;omega)
theorem qE (l:List UInt8) (κ : Int->Option R):aB (B l) 58 κ = κ (Lib.indexByte l 58):=rfl
theorem nB {c:List UInt8} {k:Nat} (h:k<jM c):c[k]? ≠ some 58:=by
 unfold jM at h
 by_cases m:k<(gD c).length
 ·obtain ⟨x,f,j⟩:=kM (p:=jW) m
  rw [f];intro e;cases e;exact absurd j (by decide)
 ·obtain ⟨x,f,j⟩:=kM (p:=dq) (l:=c.drop (gD c).length) (k:=k-(gD c).length) (by omega)
  rw [List.getElem?_drop,show (gD c).length+(k-(gD c).length)=k by omega] at f
  rw [f];intro e;cases e;exact absurd j (by decide)
theorem Dd {c:List UInt8} (h:gp c=true):Lib.indexByte (fy c) 58=(jM c:Int)/\jM c+1<=(fy c).length/\(fy c).drop (jM c+1)=fy (c.drop (jM c+1)):=by
 have j:=BV h
 have N:=BW h
 unfold fy
 by_cases e:c.drop (c.length-2)=[13,10]
 ·have M:2<=c.length:=by have:=congrArg List.length e;rw [List.length_drop] at this;simp at this;omega
  have g0:c[c.length-2]? = some 13:=(cP e).1
  have g1:c[c.length-2+1]? = some 10:=(cP (cP e).2.2).1
  have f:jM c<c.length-2:=by
   rcases Nat.lt_trichotomy (jM c) (c.length-2) with f|z|O
   ·exact f
   ·rw [z,g0] at j;cases j
   ·have:jM c=c.length-2+1:=by omega
    rw [this,g1] at j;cases j
  rw [if_pos e]
  refine ⟨lZ (by rw [List.getElem?_take,if_pos f,j]) (fun k A=>by rw [List.getElem?_take,if_pos (by omega)];exact nB A),by rw [List.length_take];omega,?_⟩
  have m:(c.drop (jM c+1)).length-2=c.length-2-(jM c+1):=by rw [List.length_drop];omega
  rw [if_pos (by rw [m,List.drop_drop,show jM c+1+(c.length-2-(jM c+1))=c.length-2 by omega];exact e),m,List.drop_take]
 ·rw [if_neg e]
  refine ⟨lZ j (fun k A=>nB A),N,?_⟩
  rw [if_neg]
  intro u
  have M:2<=(c.drop (jM c+1)).length:=by have:=congrArg List.length u;rw [List.length_drop] at this;simp at this ⊢;omega
  apply e
  rw [List.drop_drop] at u
  rw [List.length_drop] at u M
  rw [show jM c+1+(c.length-(jM c+1)-2)=c.length-2 by omega] at u
  exact u
def zK (x:Fl):AV := .agg [.str (B x.1),.str (B []),.str (B x.2.2)]
def AQ (x:Fl):AV := .str (B x.2.1)
abbrev vh (κ : LA->Option R):=aZ.L4 cg bL aN aB κ
abbrev Ae (κ : LA->Option R):=aZ.L8 cg bL aN aB κ
abbrev pA (κ : LA->Option R):=aZ.wq cg bL aN aB κ
abbrev mf (κ : LA->Option R):=aZ.n9 cg bL aN aB κ
abbrev vg (κ : LA->Option R):=aZ.zj cg bL aN aB κ
theorem rN (κ : LA->Option R) (f:Nat) (n i:Int) (a b c:LA):vh κ (f+1) n i a b c=aZ.t4 (Ae κ f) (mf κ f) (vg κ f) n i a b c:=by
 try unfold vh
 try unfold Ae
 try unfold pA
 try unfold mf
 try unfold vg
 try unfold aZ.L4
 try unfold aZ.L8
 try unfold aZ.wq
 try unfold aZ.n9
 rw [aZ.M4]
theorem rO (κ : LA->Option R) (f:Nat) (n i:Int) (a b:LA) (s m:BA) (x y:Bool) (c:LA):Ae κ (f+1) n i a b s m x y c=aZ.t8 aN aB (pA κ f) n i a b s m x y c:=by
 try unfold vh
 try unfold Ae
 try unfold pA
 try unfold mf
 try unfold aZ.L4
 try unfold aZ.L8
 try unfold aZ.wq
 try unfold aZ.n9
 rw [aZ.M4]
theorem xi (κ : LA->Option R) (f:Nat) (w:BA) (n i:Int) (a b:LA) (s m:BA) (x y:Bool) (c:LA):pA κ (f+1) w n i a b s m x y c=aZ.t13 (mf κ f) w n i a b s m x y c:=by
 try unfold vh
 try unfold Ae
 try unfold pA
 try unfold mf
 try unfold aZ.L4
 try unfold aZ.L8
 try unfold aZ.wq
 try unfold aZ.n9
 rw [aZ.M4]
theorem jv (κ : LA->Option R) (f:Nat) (n i:Int) (a b c:LA):mf κ (f+1) n i a b c=vh κ f n (IntKind.wrap .i64 (i+1)) a b c:=by
 unfold vh mf aZ.L4 aZ.n9
 rw [aZ.M4];rfl
theorem GH (κ : LA->Option R) (f:Nat) (j w A u c:List UInt8) (n i:Int) (xs vs:LA) (m:BA) (x y:Bool) (M:LA) (V:xs.length<=1000000) (N:vs.length=xs.length) (W:u.length+c.length<=2000000) (X:w.length+j.length<=2000000) :
  pA κ (f+1) (B j) n i (xs++[zK (A,w,u)]) (vs++[.str (B w)]) (B c) m x y M=mf κ f n i (xs++[zK (A,w++j,u++c)]) (vs++[.str (B (w++j))]) M:=by
 rw [xi,aZ.t13]
 have hw:∀ a:AV,IntKind.wrap .i64 (((xs++[a]).length:Int)-1)=((xs.length:Nat):Int):=by
  intro a;rw [List.length_append,List.length_singleton,wrap_i64 (by omega) (by omega)];omega
 have sl:∀ a b:AV,eA (xs++[a]) (xs.length:Int) b=xs++[b]:=fun a b=>iF _ a b [] _ rfl
 have z:∀ a b:AV,eA (vs++[a]) (xs.length:Int) b=vs++[b]:=fun a b=>iF _ a b [] _ N
 have O:∀ a:AV,bf (vs++[a]) (xs.length:Int)=a:=fun a=>tT _ a [] _ N
 have f0:∀ a b c:AV,(AV.agg [a,b,c]).fld 0=a:=fun _ _ _=>rfl
 have f1:∀ a b c:AV,(AV.agg [a,b,c]).fld 1=b:=fun _ _ _=>rfl
 have f2:∀ a b c:AV,(AV.agg [a,b,c]).fld 2=c:=fun _ _ _=>rfl
 have U:∀ a,(AV.str a).s=a:=fun _=>rfl
 simp only [hw,sl,z,O,vP,zK,f0,f1,f2,U,gX,cj]
 simp only [List.length_append,List.length_singleton]
 simp (disch:=omega) only [av,ac]
theorem FA (κ : LA->Option R) (j:List Fl) (O:j.length<=1000000) (N:∀ x∈j,x.2.1.length<=1000000):∀ (f i:Nat),i<=j.length->j.length<i+f ->
  vg κ f (j.length:Int) (i:Int) (((j.map gC).take i).map iv++(j.drop i).map zK) (j.map AQ)=κ ((j.map gC).map iv)
 | 0,i,U,V=>by omega
 | f+1,i,U,V=>by
  unfold vg
  rw [aZ.zj,aZ.t17]
  have z:(((j.map gC).take i).map iv).length=i:=by simp;omega
  cases A:j.drop i with
  | nil =>
   have:=drop_nil A
   simp (disch:=omega) only [ai,List.map_nil,List.append_nil]
   rw [List.take_of_length_le (by simp;omega)]
  | cons x r =>
   obtain ⟨g1,g2,g3⟩:=cP A
   have M:IntKind.wrap .i64 ((i:Int)+1)=((i+1:Nat):Int):=wrap_i64 (by omega) (by omega)
   have W:bf (j.map AQ) (i:Int)=AQ x:=eh (by rw [List.getElem?_map,g1];rfl)
   have m:(((j.map gC).take i).map iv++(x::r).map zK).length=j.length:=by
    rw [List.length_append,z,List.length_map,<- A,List.length_drop];omega
   have f0:((zK x).fld 0) = .str (B x.1):=rfl
   have f2:((zK x).fld 2) = .str (B x.2.2):=rfl
   have u:∀ a,(AV.str a).s=a:=fun _=>rfl
   simp only [m,List.length_map,W,AQ,u,M]
   rw [List.map_cons,tT _ _ _ _ z,f0,f2]
   simp only [u]
   simp (disch:=omega) only [al,av,ac]
   rw [p8 _ (N x (List.mem_of_getElem? g1)),iF _ _ _ _ _ z]
   have:=FA κ j O N f (i+1) (by omega) (by omega)
   rw [g3] at this
   rw [<- this]
   have e:(j.map gC).take (i+1)=(j.map gC).take i++[gC x]:=dL (by rw [List.getElem?_map,g1];rfl)
   rw [e]
   simp [iv,gC,AQ]
def pz:List Fl->Option Fl->List (List UInt8)->List Fl
 | d,f,[]=>d++f.toList
 | d,f,c::r=>bif dq (c.headD 0) then pz d (f.map fun x=>ext x c) r else bif gp c then (if (d++f.toList).length=64 then d++f.toList else pz (d++f.toList) (some (fresh c)) r) else pz (d++f.toList) none r
theorem mg (κ : LA->Option R) (m:List (List UInt8 × List UInt8 × Bool × Bool)) (hn:m.length<=1000000):∀ (rest:List (List UInt8)) (f i:Nat) (d:List Fl) (j:Option Fl) (z:List UInt8),
  i<=m.length->m.drop i=fW j.isSome z rest->4*m.length+200<4*i+f->(d++j.toList).length<=64->total rest<=1000000->(∀ x∈d,x.2.1.length<=1000000) ->
  (∀ x,j=some x->x.2.1.length<=x.2.2.length/\x.2.2.length+total rest<=1000000) ->
  vh κ f (m.length:Int) (i:Int) ((d++j.toList).map zK) ((d++j.toList).map AQ) (m.map eJ)=κ (((pz d j rest).map gC).map iv)
 | [],f,i,d,j,z,hi,V,hf,N,ht,W,hc=>by
  have ax:m.length<=i:=drop_nil (by rw [V];rfl)
  obtain ⟨f,rfl⟩:∃ g,f=g+1:=⟨f-1,by omega⟩
  rw [rN,aZ.t4]
  simp only [List.length_map]
  simp (disch:=omega) only [ai]
  rw [pz]
  exact FA κ (d++j.toList) (by omega) (by
   intro x u
   rw [List.mem_append] at u
   rcases u with u|u
   ·exact W x u
   ·cases j with
    | none=>simp at u
    | some y=>simp at u;subst u;have:=hc x rfl;omega) f 0 (by omega) (by omega)
 | c::r,f,i,d,j,z,hi,V,hf,N,ht,W,hc=>by
  obtain ⟨f,rfl⟩:∃ g,f=g+4:=⟨f-4,by
   have:0<(m.drop i).length:=by rw [V,fW];cases dq (c.headD 0) <;> simp
   rw [List.length_drop] at this;omega⟩
  have O:∀ x∈d++j.toList,x.2.1.length<=1000000:=by
   intro x u
   rw [List.mem_append] at u
   rcases u with u|u
   ·exact W x u
   ·cases j with
    | none=>simp at u
    | some y=>simp at u;subst u;have:=hc x rfl;omega
  have a1:total (c::r)=c.length+total r:=rfl
  have a6:=gY c
  have ae:(m.map eJ).length=m.length:=List.length_map ..
  have X:((d++j.toList).map zK).length=(d++j.toList).length:=List.length_map ..
  have ap:((d++j.toList).map AQ).length=(d++j.toList).length:=List.length_map ..
  have a7:d.length<=(d++j.toList).length:=by rw [List.length_append];omega
  rw [pz,rN,aZ.t4,ae]
  cases hb:dq (c.headD 0) with
  | true =>
   have U:m.drop i=(c,z,false,j.isSome)::fW j.isSome z r:=by rw [V,fW,hb];rfl
   obtain ⟨g1,g2,g3⟩:=cP U
   have A:IntKind.wrap .i64 ((i:Int)+1)=((i+1:Nat):Int):=wrap_i64 (by omega) (by omega)
   have M:bf (m.map eJ) (i:Int)=eJ (c,z,false,j.isSome):=eh (by rw [List.getElem?_map,g1];rfl)
   have r0:((eJ (c,z,false,j.isSome)).fld 0).s=B c:=rfl
   have r1:((eJ (c,z,false,j.isSome)).fld 1).s=B z:=rfl
   have r2:((eJ (c,z,false,j.isSome)).fld 2).b=false:=rfl
   have r3:((eJ (c,z,false,j.isSome)).fld 3).b=j.isSome:=rfl
   simp only [M,r0,r1,r2,r3,cond_false]
   simp (disch:=omega) only [al,av,ac,cond_true]
   cases j with
   | none =>
    simp only [Option.isSome_none,Bool.not_false,cond_true,Option.map_none]
    rw [jv,A]
    exact mg κ m hn r (f+2) (i+1) d none z (by omega) g3 (by omega) N (by omega) W (by intro x e;cases e)
   | some x =>
    obtain ⟨a8,bb⟩:=hc x rfl
    simp only [Option.isSome_some,Bool.not_true,cond_false,Option.map_some]
    rw [rO,aZ.t8,kN c (by omega)]
    simp only [cond_false]
    have e1:(d++(some x).toList).map zK=d.map zK++[zK (x.1,x.2.1,x.2.2)]:=by simp
    have e2:(d++(some x).toList).map AQ=d.map AQ++[.str (B x.2.1)]:=by simp [AQ]
    rw [e1,e2,GH κ (f+1) (fy c) x.2.1 x.1 x.2.2 c _ _ _ _ _ _ _ _ (by rw [List.length_map];omega) (by simp) (by omega) (by omega),jv,A]
    have ex:(ext x c).2.2.length=x.2.2.length+c.length:=by unfold ext;simp
    have be:(ext x c).2.1.length=x.2.1.length+(fy c).length:=by unfold ext;simp
    have:=mg κ m hn r f (i+1) d (some (ext x c)) z (by omega) g3 (by omega) (by simpa using N) (by omega) W (by intro y e;cases e;exact ⟨by omega,by omega⟩)
    rw [<- this]
    simp [ext,AQ]
  | false =>
   have U:m.drop i=(c,gD c,gp c,gp c)::fW (gp c) (gD c) r:=by rw [V,fW,hb];rfl
   obtain ⟨g1,g2,g3⟩:=cP U
   have A:IntKind.wrap .i64 ((i:Int)+1)=((i+1:Nat):Int):=wrap_i64 (by omega) (by omega)
   have M:bf (m.map eJ) (i:Int)=eJ (c,gD c,gp c,gp c):=eh (by rw [List.getElem?_map,g1];rfl)
   have r0:((eJ (c,gD c,gp c,gp c)).fld 0).s=B c:=rfl
   have r1:((eJ (c,gD c,gp c,gp c)).fld 1).s=B (gD c):=rfl
   have r2:((eJ (c,gD c,gp c,gp c)).fld 2).b=gp c:=rfl
   have r3:((eJ (c,gD c,gp c,gp c)).fld 3).b=gp c:=rfl
   simp only [M,r0,r1,r2,r3,cond_false]
   simp (disch:=omega) only [al,av,ac,cond_true]
   cases hF:gp c with
   | false =>
    simp only [Bool.not_false,cond_true,cond_false]
    rw [jv,A]
    rw [hF] at g3
    have:=mg κ m hn r (f+2) (i+1) (d++j.toList) none (gD c) (by omega) g3 (by omega) (by simpa using N) (by omega) O (by intro x e;cases e)
    simpa using this
   | true =>
    rw [hF] at g3
    simp only [Bool.not_true,cond_true,cond_false,X]
    by_cases h6:(d++j.toList).length=64
    ·rw [if_pos h6,fS (by omega)]
     simp only [cond_true]
     exact FA κ (d++j.toList) (by omega) O (f+3) 0 (by omega) (by omega)
    ·rw [if_neg h6,fR (by omega)]
     simp only [cond_false]
     obtain ⟨k1,k2,k3⟩:=Dd hF
     rw [rO,aZ.t8,kN c (by omega)]
     have Y:IntKind.wrap .i64 ((jM c:Int)+1)=((jM c+1:Nat):Int):=wrap_i64 (by omega) (by omega)
     simp only [cond_true,qE,k1,Y,cj,X,ap]
     simp (disch:=omega) only [av,ac]
     simp only [df,Int.toNat_natCast,List.take_length,k3]
     have e1:AV.agg [AV.str (B (gD c)),AV.str (⟨#[]⟩:BA),AV.str (⟨#[]⟩:BA)]=zK (gD c,[],[]):=rfl
     have e2:AV.str (⟨#[]⟩:BA) = .str (B []):=rfl
     have ar:=gY (c.drop (jM c+1))
     rw [List.length_drop] at ar
     rw [e1,e2,GH κ (f+1) _ [] (gD c) [] c _ _ _ _ _ _ _ _ (by omega) (by simp) (by simp;omega) (by simp;omega),jv,A]
     have ad:fresh c=(gD c,fy (c.drop (jM c+1)),c):=by unfold fresh;rw [hF];rfl
     have:=mg κ m hn r f (i+1) (d++j.toList) (some (fresh c)) (gD c) (by omega) g3 (by omega) (by rw [List.length_append];show _+1<=_;omega) (by omega) O
      (by intro y e;cases e;rw [ad];exact ⟨by show (fy _).length<=c.length;omega,by show c.length+_<=_;omega⟩)
     rw [<- this,ad]
     simp [AQ]
theorem gU:∀ (rest:List (List UInt8)) (d:List Fl) (m f:Option Fl),(∃ x,m=some x/\f=some x/\x.1≠[])∨(m=none/\(f=none∨∃ y,f=some y/\y.1=[]))->(d++m.toList).length<=64 ->
  pz d m rest=(d++named (dz f rest)).take 64
 | [],d,m,f,h,j=>by
  rcases h with ⟨x,rfl,rfl,z⟩|⟨rfl,rfl|⟨y,rfl,hy⟩⟩
  ·rw [pz,dz];unfold named;rw [List.filter_cons];simp [z]
   rw [List.take_of_length_le];simpa using j
  ·rw [pz,dz];simp [named] at j ⊢;exact (List.take_of_length_le j).symm
  ·rw [pz,dz];simp [named,hy] at j ⊢;exact (List.take_of_length_le j).symm
 | c::r,d,m,f,h,j=>by
  have u:dz none (c::r)=dz (some (fresh c)) r:=rfl
  have A:∀ (x:Fl) (l:List Fl),x.1≠[]->named (x::l)=x::named l:=by intro x l z;unfold named;rw [List.filter_cons];simp [z]
  have N:∀ (x:Fl) (l:List Fl),x.1=[]->named (x::l)=named l:=by intro x l z;unfold named;rw [List.filter_cons];simp [z]
  have U:gp c=true->(fresh c).1≠[]:=by intro e;unfold fresh;rw [e];exact Fh e
  have M:gp c=false->(fresh c).1=[]:=by intro e;unfold fresh;rw [e];rfl
  rw [pz]
  cases O:dq (c.headD 0) with
  | true =>
   have V:gp c=false:=by cases c with|nil=>cases O|cons b t=>exact rC O
   simp only [cond_true]
   rcases h with ⟨x,rfl,rfl,z⟩|⟨rfl,rfl|⟨y,rfl,hy⟩⟩
   ·rw [dz,O];simp only [cond_true]
    exact gU r d _ _ (Or.inl ⟨ext x c,rfl,rfl,z⟩) (by simpa using j)
   ·rw [u]
    exact gU r d none _ (Or.inr ⟨rfl,Or.inr ⟨_,rfl,M V⟩⟩) j
   ·rw [dz,O];simp only [cond_true]
    exact gU r d none _ (Or.inr ⟨rfl,Or.inr ⟨_,rfl,hy⟩⟩) j
  | false =>
   simp only [cond_false]
   have X:d++named (dz f (c::r))=(d++m.toList)++named (dz (some (fresh c)) r):=by
    rcases h with ⟨x,rfl,rfl,z⟩|⟨rfl,rfl|⟨y,rfl,hy⟩⟩
    ·rw [dz,O];simp only [cond_false];rw [A _ _ z];simp
    ·rw [u];simp
    ·rw [dz,O];simp only [cond_false];rw [N _ _ hy];simp
   rw [X]
   cases V:gp c with
   | true =>
    simp only [cond_true]
    by_cases W:(d++m.toList).length=64
    ·rw [if_pos W,List.take_append_of_le_length (by omega),List.take_of_length_le (by omega)]
    ·rw [if_neg W]
     exact gU r _ _ _ (Or.inl ⟨_,rfl,rfl,U V⟩) (by rw [List.length_append] at W ⊢;show _+1<=_;rw [List.length_append] at j ⊢;omega)
   | false =>
    simp only [cond_false]
    exact gU r _ none _ (Or.inr ⟨rfl,Or.inr ⟨_,rfl,M V⟩⟩) (by simpa using j)
theorem nq:∀ (fld:Bool) (f:List UInt8) (l:List (List UInt8)),(fW fld f l).length=l.length
 | _,_,[]=>rfl
 | fld,f,c::r=>by
  rw [fW]
  cases dq (c.headD 0) with
  | true=>simp only [cond_true,List.length_cons];rw [nq]
  | false=>simp only [cond_false,List.length_cons];rw [nq]
theorem B9 (h:List UInt8) (j:h.length<=200000) (κ : LA->Option R) (f:Nat) (m:1000300<f) :
  aZ.e cg bL aN aB (B h) (vh κ f) (Ae κ f) (pA κ f) (mf κ f) (vg κ f) κ = κ ((gm h).map iv):=by
 unfold aZ.e
 rw [D0 h (by omega)]
 have u:=ru h
 have z:=jU h
 have A:=nq false [] (eQ h)
 have:=mg κ (fW false [] (eQ h)) (by omega) (eQ h) f 0 [] none [] (by omega) rfl (by omega) (by simp) (by omega) (by simp) (by intro x e;cases e)
 rw [gU _ _ _ none (Or.inr ⟨rfl,Or.inl rfl⟩) (by simp)] at this
 simp only [List.length_map]
 refine this.trans ?_
 unfold gm
 simp [List.map_take]
theorem xf (h:List UInt8) (f:h.length<=200000) (κ : LA->Option R):aZ (B h) κ = κ ((gm h).map iv) :=
 B9 h f κ ag (by unfold ag;omega)
abbrev NB:Nat:=140737488351232
theorem Fz (a b:BA) (f:a.size<=NB) (j:b.size<=NB) (κ : Bool->Option R):dD a b κ = κ (decide (dW (bl a)=dW (bl b))):=by
 have m:=fx a
 have u:=fx b
 unfold NB at f j
 unfold dD dD.e
 conv=>lhs;rw [<- iL a,<- iL b,gW _ (by omega),gW _ (by omega)]
 exact congrArg κ (decide_eq_decide.2 eg)
theorem FK (a b:BA) (f:a.size<=NB) (j:b.size<=NB) (κ : Bool->Option R):dE a b κ = κ (decide (dW (bl a)=dW (bl b))):=by
 have m:=fx a
 have u:=fx b
 unfold NB at f j
 unfold dE dE.e
 conv=>lhs;rw [<- iL a,<- iL b,sf _ (by omega),sf _ (by omega)]
 exact congrArg κ (decide_eq_decide.2 eg)
def kY (name:BA):LA->Option BA
 | []=>none
 | a::r=>if dW (bl (a.fld 0).s)=dW (bl name) then some (a.fld 1).s else kY name r
def zV (κ : Bool->BA->Option R) (o:Option BA):Option R:=κ o.isSome (o.getD (B []))
theorem CD {l:LA} {i:Nat} {a:AV} {r:LA} (h:l.drop i=a::r):bf l (i:Int)=a:=CA h
theorem rI (name:BA) (u:name.size<=NB) (l:LA) (N:l.length<=1000000) (z:∀ a∈l,Fit NB a) (κ : Bool->BA->Option R) (A:Bool) (M:BA):∀ (f i:Nat),i<=l.length->l.length<i+f ->
  db.L2 dD κ f name l (l.length:Int) (i:Int) A M=zV κ (kY name (l.drop i))
 | 0,i,O,U=>by omega
 | f+1,i,O,U=>by
  rw [db.L2,db.t2,dX]
  have j:IntKind.wrap .i64 ((i:Int)+1)=((i+1:Nat):Int):=wrap_i64 (by omega) (by omega)
  cases m:l.drop i with
  | nil =>
   have:=drop_nil m
   rw [ai (by omega)];rfl
  | cons a r =>
   obtain ⟨g1,g2,g3⟩:=cP m
   have V:=z a (List.mem_of_getElem? g1)
   rw [al (by omega),av,ac (by omega),ac (by omega),CD m,Fz _ _ (V.fld 0).s u,j,rI name u l N z κ A M f (i+1) (by omega) (by omega),g3,kY]
   by_cases e:dW (bl (a.fld 0).s)=dW (bl name)
   ·rw [decide_eq_true e,if_pos e];rfl
   ·rw [decide_eq_false e,if_neg e];rfl
theorem DP (name:BA) (j:name.size<=NB) (l:LA) (m:l.length<=1000000) (u:∀ a∈l,Fit NB a) (κ : Bool->BA->Option R):db l name κ = zV κ (kY name l):=by
 have key:∀ f,l.length<f->db.e dD l name (db.L2 dD κ f) κ = zV κ (kY name l) :=
  fun f h=>rI name j l m u κ false _ f 0 (by omega) (by omega)
 exact key ag (by unfold ag;omega)
theorem EG (v:List UInt8) (f:v.length<=1000000) (κ : Int->Option R):aK (B v) 0 κ = κ (pl v (c9 v)):=by
 rw [<- kb v];exact om v v f (List.suffix_refl v) κ
theorem Gx (v:List UInt8) (f:v.length<=1000000) (κ : BA->Int->Option R):aj (B v) 0 κ = κ (B v) (pl v (c9 v)):=by
 rw [<- kb v];exact tC v v f (List.suffix_refl v) κ
def xd (v:List UInt8):Option (List UInt8 × List UInt8 × List UInt8) :=
 if dN (c9 v)=[] then none else match c9 (fa (c9 v)) with
  | []=>none
  | c::t=>if c=47 then (if dN (c9 t)=[] then none else some (dW (dN (c9 v)),dW (dN (c9 t)),fa (c9 t))) else none
theorem Gv {v a b r:List UInt8} (h:xd v=some (a,b,r)):r <:+ v:=by
 unfold xd at h
 split at h
 ·cases h
 ·have f:=(dJ (fa (c9 v))).trans ((fb (c9 v)).trans (dJ v))
  split at h
  ·cases h
  ·rename_i c t e
   rw [e] at f
   split at h
   ·split at h
    ·cases h
    ·cases h
     exact ((fb (c9 t)).trans (dJ t)).trans ((List.suffix_cons _ _).trans f)
   ·cases h
theorem yF (l:List UInt8):decide (B (dW l)=B [])=decide (l=[]):=decide_eq_decide.2 (eg.trans mj)
theorem GB (v:List UInt8) (j:v.length<=1000000):match xd v with
  | some (a,b,r)=>∀ κ : BA->BA->Bool->BA->Int->Option R,bd (B v) 0 κ = κ (B a) (B b) true (B v) (pl v r)
  | none=>∃ (a b:BA) (p:Int),∀ κ : BA->BA->Bool->BA->Int->Option R,bd (B v) 0 κ = κ a b false (B v) p:=by
 have b0:v <:+ v:=List.suffix_refl v
 have X:=dJ v
 have Y:=(fb (c9 v)).trans X
 have W:=(dJ (fa (c9 v))).trans Y
 have ad:(dN (c9 v)).length<=1000000:=by have:=e8 (c9 v);have:=X.length_le;omega
 have step:∀ κ : BA->BA->Bool->BA->Int->Option R,bd (B v) 0 κ = bif decide (dN (c9 v)=[]) then κ (B []) (B []) false (B v) (pl v (c9 (fa (c9 v)))) else an (B v) (pl v (c9 (fa (c9 v)))) 47 (fun A m u=>bif (!A) then κ (⟨#[]⟩:BA) (⟨#[]⟩:BA) false m u else aj m u (fun M N=>aw M N (fun O U V=>bJ O (fun z=>κ (B (dW (dN (c9 v)))) z (!decide (z=(⟨#[]⟩:BA))) U V)))):=fun κ => by
  unfold bd bd.e
  rw [Gx v j,Ac v _ j X,gW _ (by omega),tC v _ j Y,dX,yF]
 unfold xd
 by_cases c1:dN (c9 v)=[]
 ·rw [if_pos c1]
  exact ⟨B [],B [],_,fun κ => by rw [step,decide_eq_true c1,cond_true]⟩
 ·rw [if_neg c1]
  cases e:c9 (fa (c9 v)) with
  | nil =>
   refine ⟨B [],B [],pl v [],fun κ => ?_⟩
   rw [step,decide_eq_false c1,cond_false,e,show (47:Int)=((47:UInt8).toNat:Int) from rfl,iZ v [] 47 j List.nil_suffix]
   rfl
  | cons c t =>
   rw [e] at W
   have ht:=dV W
   by_cases c2:c=47
   ·simp only [c2,if_true]
    have b4:=(dJ t).trans ht
    have ae:(dN (c9 t)).length<=1000000:=by have:=e8 (c9 t);have:=b4.length_le;omega
    have f:∀ κ : BA->BA->Bool->BA->Int->Option R,bd (B v) 0 κ = κ (B (dW (dN (c9 v)))) (B (dW (dN (c9 t)))) (!decide (dN (c9 t)=[])) (B v) (pl v (fa (c9 t))):=fun κ => by
     rw [step,decide_eq_false c1,cond_false,e,show (47:Int)=((47:UInt8).toNat:Int) from rfl,iZ v (c::t) 47 j W]
     simp only [c2,if_true,Bool.not_true,cond_false]
     rw [tC v t j ht,Ac v _ j b4,gW _ (by omega),dX,yF]
    by_cases c3:dN (c9 t)=[]
    ·rw [if_pos c3]
     exact ⟨_,_,_,fun κ => by rw [f,decide_eq_true c3];rfl⟩
    ·rw [if_neg c3]
     exact fun κ => by rw [f,decide_eq_false c3];rfl
   ·simp only [c2,if_false]
    refine ⟨B [],B [],pl v (c::t),fun κ => ?_⟩
    rw [step,decide_eq_false c1,cond_false,e,show (47:Int)=((47:UInt8).toNat:Int) from rfl,iZ v (c::t) 47 j W]
    simp only [c2,if_false]
    rfl
def gG:List UInt8:=[109,101,115,115,97,103,101]
def ml:List UInt8:=[114,102,99,56,50,50]
def nL:List UInt8:=[116,101,120,116]
def GJ:List UInt8:=[112,108,97,105,110]
def HS:List Pm:=[([99,104,97,114,115,101,116],[117,115,45,97,115,99,105,105])]
def xc (v:List UInt8) (f:Bool):List UInt8 × List UInt8 × List Pm :=
 match xd v with
 | some (a,b,r)=>(a,b,vB r)
 | none=>if f then (gG,ml,[]) else (nL,GJ,HS)
theorem GP (v:List UInt8) (j:v.length<=1000000) (is m:Bool) (N:is=false->v=[]) (κ : BA->BA->LA->Option R) (u:BA->BA->Option R) (O:∀ a b,u a b=κ a b []) :
  dj is (B v) m κ u=κ (B (xc v m).1) (B (xc v m).2.1) ((xc v m).2.2.map bn):=by
 have b0:v <:+ v:=List.suffix_refl v
 have A:=dJ v
 have W:=(fb (c9 v)).trans A
 have z:=(dJ (fa (c9 v))).trans W
 have U:(dN (c9 v)).length<=1000000:=by have:=e8 (c9 v);have:=A.length_le;omega
 have f:xd v=none->(bif m then u (⟨#[109,101,115,115,97,103,101]⟩:BA) (⟨#[114,102,99,56,50,50]⟩:BA) else κ (⟨#[116,101,120,116]⟩:BA) (⟨#[112,108,97,105,110]⟩:BA) [AV.agg [AV.str (⟨#[99,104,97,114,115,101,116]⟩:BA),AV.str (⟨#[117,115,45,97,115,99,105,105]⟩:BA)]])=κ (B (xc v m).1) (B (xc v m).2.1) ((xc v m).2.2.map bn):=fun h=>by
  unfold xc
  rw [h]
  cases m with
  | true=>rw [cond_true,O];rfl
  | false=>rfl
 unfold dj dj.e
 rw [EG v j,xF v _ j A,lm v _ j A _ (by rw [cj]),om v _ j W,dX,fK,iK v]
 cases is with
 | false =>
  rw [cond_false]
  refine f ?_
  rw [N rfl]
  unfold xd
  rw [kl];rfl
 | true =>
  rw [cond_true]
  by_cases c1:dN (c9 v)=[]
  ·rw [decide_eq_true c1,Bool.not_true,cond_false]
   exact f (by unfold xd;rw [if_pos c1])
  ·rw [decide_eq_false c1,Bool.not_false,cond_true]
   cases e:c9 (fa (c9 v)) with
   | nil =>
    rw [dI,ai (by omega)]
    exact f (by unfold xd;rw [if_neg c1,e])
   | cons c t =>
    rw [e] at z
    have X:=dV z
    have Y:=eI z
    have h2:=eu (s:=v) (r:=c::t)
    rw [al Y,av,ac h2.1,ac Y,eN z,gg z j]
    by_cases c2:c=47
    ·have M:=(dJ t).trans X
     have b5:=(fb (c9 t)).trans M
     have V:(dN (c9 t)).length<=1000000:=by have:=e8 (c9 t);have:=M.length_le;omega
     rw [jo 47 rfl c2,cond_true,om v t j X,xF v _ j M,fK,lm v _ j M _ (by rw [cj])]
     by_cases c3:dN (c9 t)=[]
     ·rw [decide_eq_true c3,Bool.not_true,cond_false]
      refine f ?_
      unfold xd
      rw [if_neg c1,e]
      simp only [c2,if_true,c3]
     ·rw [decide_eq_false c3,Bool.not_false,cond_true,rG _ U,rG _ V,FJ v _ j b5]
      have:xd v=some (dW (dN (c9 v)),dW (dN (c9 t)),fa (c9 t)):=by
       unfold xd
       rw [if_neg c1,e]
       simp only [c2,if_true,c3,if_false]
      unfold xc
      rw [this]
    ·rw [iM 47 rfl c2,cond_false]
     refine f ?_
     unfold xd
     rw [if_neg c1,e]
     simp only [c2,if_false]
def iU (v:List UInt8):List UInt8:=dW (dN (c9 v))
def uj (v:List UInt8):List UInt8:=fa (c9 v)
theorem xg (s r:List UInt8) (f:s.length<=1000000) (h:r <:+ s) (κ : Bool->BA->BA->Int->Option R):az (B s) (pl s r) κ = κ (!decide (iU r=[])) (B (iU r)) (B s) (pl s (uj r)):=by
 have j:=(dJ r).trans h
 have m:(dN (c9 r)).length<=1000000:=by have:=e8 (c9 r);have:=j.length_le;omega
 unfold az az.e
 rw [tC s r f h,Ac s _ f j,gW _ (by omega),dX,fK]
 rfl
theorem pR (v:List UInt8) (f:v.length<=1000000) (is:Bool) (j:is=false->v=[]) (κ : Bool->BA->Int->Option R):cR is (B v) κ = if iU v=[] then κ false (B []) 0 else κ true (B (iU v)) (pl v (uj v)):=by
 have m:=dJ v
 have u:(dN (c9 v)).length<=1000000:=by have:=e8 (c9 v);have:=m.length_le;omega
 unfold cR cR.e
 rw [EG v f,xF v _ f m,dX,fK]
 cases is with
 | false =>
  have e:iU v=[]:=by rw [j rfl];unfold iU;rw [kl];rfl
  rw [if_pos e];rfl
 | true =>
  rw [Bool.not_true,cond_false]
  by_cases c1:dN (c9 v)=[]
  ·rw [decide_eq_true c1,cond_true,if_pos (show iU v=[] from mj.2 c1)]
  ·rw [decide_eq_false c1,cond_false,if_neg (show ¬ iU v=[] from fun e=>c1 (mj.1 e)),rG _ u,lm v _ f m _ (by rw [cj])]
   rfl
def yB:Nat->List (List UInt8)->List UInt8->List (List UInt8)
 | 0,a,_=>a
 | n+1,a,r=>if a.length<12 then (if iU r=[] then a else match c9 (uj r) with
   | []=>a++[iU r]
   | c::t=>if c=44 then yB n (a++[iU r]) t else a++[iU r]) else a
def Eu (r:List UInt8):List (List UInt8):=yB (r.length+1) [] r
theorem yk (r:List UInt8):c9 (uj r) <:+ r:=(dJ _).trans ((fb _).trans (dJ r))
theorem u6 (s:List UInt8) (u:s.length<=1000000):∀ (n f:Nat) (a:List (List UInt8)) (r:List UInt8),r <:+ s->r.length<n->n<f->∃ p:Int,∀ κ : LA->BA->Int->Option R,
  aH.L2 az aj an κ f (B s) (pl s r) (bw a)=κ (bw (yB n a r)) (B s) p
 | 0,f,a,r,_,X,_=>by omega
 | n+1,0,a,r,_,_,V=>by omega
 | n+1,1,a,r,_,_,V=>by omega
 | n+1,f+1+1,a,r,h,X,V=>by
  have z:=eR a
  have U:∀ (l:LA) (b:BA) (p:Int) (κ : LA->BA->Int->Option R),aH.L8 az aj an κ (f+1) l b p=κ l b p:=fun l b p κ => rfl
  have O:=(yk r).trans h
  have Y:uj r <:+ s:=((fb _).trans (dJ r)).trans h
  by_cases A:a.length<12
  ·by_cases c1:iU r=[]
   ·refine ⟨pl s (uj r),fun κ => ?_⟩
    rw [aH.L2,aH.t2,z,al (by omega),xg s r u h,yB,if_pos A,if_pos c1,decide_eq_true c1]
    simp only [Bool.not_true,Bool.not_false,cond_true]
    rw [U]
   ·have M:bw a++[AV.str (B (iU r))]=bw (a++[iU r]):=by rw [fU];rfl
    have step:∀ κ : LA->BA->Int->Option R,aH.L2 az aj an κ (f+1+1) (B s) (pl s r) (bw a)=an (B s) (pl s (c9 (uj r))) 44 (fun N j m=>bif (!N) then κ (bw (a++[iU r])) j m else aH.L2 az aj an κ (f+1) j m (bw (a++[iU r]))):=fun κ => by
     rw [aH.L2,aH.t2,z,al (by omega),xg s r u h,decide_eq_false c1]
     simp only [Bool.not_true,Bool.not_false,cond_false]
     rw [ac (by omega),tC s _ u Y,M]
     simp only [U]
    have hl:yB (n+1) a r=match c9 (uj r) with
      | []=>a++[iU r]
      | c::t=>if c=44 then yB n (a++[iU r]) t else a++[iU r]:=by rw [yB,if_pos A,if_neg c1]
    rw [hl]
    cases e:c9 (uj r) with
    | nil =>
     refine ⟨pl s [],fun κ => ?_⟩
     rw [step,e,show (44:Int)=((44:UInt8).toNat:Int) from rfl,iZ s [] 44 u List.nil_suffix];rfl
    | cons c t =>
     rw [e] at O
     by_cases c2:c=44
     ·simp only [c2,if_true]
      have W:=yk r
      rw [e] at W
      have h4:=W.length_le
      simp only [List.length_cons] at h4
      obtain ⟨p,hp⟩:=u6 s u n (f+1) (a++[iU r]) t (dV O) (by omega) (by omega)
      refine ⟨p,fun κ => ?_⟩
      rw [step,e,show (44:Int)=((44:UInt8).toNat:Int) from rfl,iZ s (c::t) 44 u O]
      simp only [c2,if_true,Bool.not_true,cond_false]
      exact hp κ
     ·simp only [c2,if_false]
      refine ⟨pl s (c::t),fun κ => ?_⟩
      rw [step,e,show (44:Int)=((44:UInt8).toNat:Int) from rfl,iZ s (c::t) 44 u O]
      simp only [c2,if_false];rfl
  ·refine ⟨pl s r,fun κ => ?_⟩
   rw [aH.L2,aH.t2,z,ai (by omega),yB,if_neg A,U]
theorem Ij (v:List UInt8) (j:v.length<=1000000):∃ p:Int,∀ κ : LA->BA->Int->Option R,aH (B v) 0 κ = κ (bw (Eu v)) (B v) p:=by
 have key:∀ f,1000002<f->∃ p:Int,∀ κ : LA->BA->Int->Option R,aH.e az aj an (B v) 0 (aH.L2 az aj an κ f) (aH.L8 az aj an κ f) κ = κ (bw (Eu v)) (B v) p:=by
  intro f m
  have:=u6 (R:=R) v j (v.length+1) f [] v (List.suffix_refl v) (by omega) (by omega)
  rw [kb] at this
  exact this
 exact key ag (by unfold ag;omega)
theorem vL (s:List UInt8) (m:s.length<=1000000) (κ : LA->Option R):∀ (n f:Nat) (a:List (List UInt8)) (r:List UInt8),r <:+ s->r.length<n->n<f ->
  cA.L3 aK aO bc κ f (pl s r) true (B s) (bw a)=κ (bw (yB n a r))
 | 0,f,a,r,_,U,_=>by omega
 | n+1,0,a,r,_,_,V=>by omega
 | n+1,f+1,a,r,h,U,V=>by
  have A:=eR a
  have M:=(dJ r).trans h
  have u:=(yk r).trans h
  have W:uj r <:+ s:=((fb _).trans (dJ r)).trans h
  have N:(dN (c9 r)).length<=1000000:=by have:=e8 (c9 r);have:=M.length_le;omega
  have j:bw a++[AV.str (B (iU r))]=bw (a++[iU r]):=by rw [fU];rfl
  rw [cA.L3,cA.t3,cond_true,A,yB]
  by_cases z:a.length<12
  ·rw [if_pos z,al (by omega),om s r m h,xF s _ m M,dX,fK,iK s]
   by_cases c1:dN (c9 r)=[]
   ·rw [if_pos (show iU r=[] from mj.2 c1),decide_eq_true c1,cond_true]
   ·rw [if_neg (show ¬ iU r=[] from fun e=>c1 (mj.1 e)),decide_eq_false c1,cond_false,rG _ N,ac (by omega),lm s _ m M _ (by rw [cj])]
    show aK (B s) (pl s (uj r)) _=_
    rw [om s _ m W]
    show (bif decide (pl s (c9 (uj r))>=(s.length:Int)) then κ (bw a++[AV.str (B (iU r))]) else _)=_
    rw [j]
    cases e:c9 (uj r) with
    | nil=>rw [dI,al (by omega)]
    | cons c t =>
     rw [e] at u
     have X:=eI u
     have Y:=eu (s:=s) (r:=c::t)
     have O:=yk r
     rw [e] at O
     have h4:=O.length_le
     simp only [List.length_cons] at h4
     rw [ai (by omega),av,ac Y.1,ac X,eN u,gg u m]
     unfold bne
     by_cases c2:c=44
     ·rw [jo 44 rfl c2,Bool.not_true,cond_false]
      simp only [c2,if_true]
      have:=vL s m κ n f (a++[iU r]) t (dV u) (by omega) (by omega)
      rw [<- j] at this
      exact this
     ·rw [iM 44 rfl c2,Bool.not_false,cond_true]
      simp only [c2,if_false]
      rw [<- j];rfl
  ·rw [if_neg z,ai (by omega)]
theorem G9 (v:List UInt8) (m:v.length<=1000000) (is:Bool) (j:is=false->v=[]) (κ : LA->Option R):cA is (B v) κ = κ (bw (Eu v)):=by
 have key:∀ f,1000002<f->cA.e aK aO bc is (B v) (cA.L3 aK aO bc κ f) κ = κ (bw (Eu v)):=by
  intro f u
  unfold cA.e
  cases is with
  | true =>
   have:=vL v m κ (v.length+1) f [] v (List.suffix_refl v) (by omega) (by omega)
   rw [kb] at this
   exact this
  | false =>
   rw [j rfl]
   cases f with
   | zero=>omega
   | succ f =>
    rw [cA.L3,cA.t3]
    unfold Eu yB iU
    rw [kl];rfl
 exact key ag (by unfold ag;omega)
theorem wg (κ : BA->Option R):∀ (f:Nat) (l:List UInt8),l.length<f->l.length<=1000000->dv.L3 κ f (B l)=κ (B (fO dq l))
 | 0,l,h,m=>by omega
 | f+1,l,h,m=>by
  rw [dv.L3,dv.t3]
  simp only [cj]
  by_cases j:l=[]
  ·subst j;rfl
  ·obtain ⟨t,c,rfl⟩:=ld j
   have hlen:(t++[c]).length=t.length+1:=by simp
   have hw:IntKind.wrap .i64 (((t++[c]).length:Int)-1)=(t.length:Int):=by rw [hlen,wrap_i64 (by omega) (by omega)];omega
   have u:(t++[c])[t.length]? = some c:=by simp
   simp only [hw]
   simp (disch:=omega) only [al,av,ac,oN u]
   have z:(B (t++[c])).extract (0:Int).toNat ((t.length:Int)).toNat=B t:=by
    rw [df,Int.toNat_zero,Int.toNat_natCast,List.drop_zero,List.take_left' rfl]
   rw [jy,z,wg κ f t (by omega) (by omega)]
   unfold dq
   by_cases c1:c=32
   ·rw [jo 32 rfl c1];simp [c1]
   ·rw [iM 32 rfl c1]
    by_cases c2:c=9
    ·rw [jo 9 rfl c2];simp [c2]
    ·rw [iM 9 rfl c2];simp [c1,c2]
theorem we (κ : BA->Option R):∀ (f:Nat) (l:List UInt8),2*l.length+2<f->l.length<=1000000->dv.L1 κ f (B l)=κ (B (eW l))
 | 0,l,h,j=>by omega
 | f+1,l,h,j=>by
  rw [dv.L1,dv.t1,wg κ f l (by omega) j]
  simp only [cj]
  cases l with
  | nil=>rfl
  | cons c r =>
   have hlen:(c::r).length=r.length+1:=rfl
   have m:dM (B (c::r)) 0=c.toNat:=oN (i:=0) rfl
   have u:(B (c::r)).extract (1:Int).toNat (((c::r).length:Int)).toNat=B r:=by
    rw [df,Int.toNat_natCast,List.take_length];rfl
   simp (disch:=omega) only [al,av,ac,m]
   rw [u,we κ f r (by omega) (by omega)]
   unfold eW
   rw [List.dropWhile_cons]
   unfold dq
   by_cases c1:c=32
   ·rw [jo 32 rfl c1];simp [c1]
   ·rw [iM 32 rfl c1]
    by_cases c2:c=9
    ·rw [jo 9 rfl c2];simp [c2]
    ·rw [iM 9 rfl c2];simp [c1,c2]
theorem wh (l:List UInt8) (j:l.length<=1000000) (κ : BA->Option R) (f:Nat) (m:2*l.length+2<f) :
  dv.e (B l) (dv.L1 κ f) (dv.L3 κ f) κ = κ (B (eW l)):=we κ f l m j
theorem CQ (l:List UInt8) (f:l.length<=1000000) (κ : BA->Option R):dv (B l) κ = κ (B (eW l)):=wh l f κ ag (by unfold ag;omega)
theorem xC (v:List UInt8) (j:v.length<=1000000) (is:Bool) (f:is=false->v=[]) (κ : Bool->BA->Option R):dp is (B v) κ = κ is (B (eW v)):=by
 unfold dp dp.e
 cases is with
 | true=>rw [Bool.not_true,cond_false,CQ v j]
 | false=>rw [f rfl];rfl
def cutAt:List (List UInt8)->Option Nat
 | []=>none
 | x::r=>if x=[13,10] then some x.length else (cutAt r).map (x.length+·)
def jA (s:BA) (o:Option Nat) (κ : BA->BA->Option R):Option R :=
 match o with
 | some n=>κ (B ((bl s).take n)) (B ((bl s).drop n))
 | none=>κ s (B [])
theorem qg (s:BA) (N:(bl s).length<=1000000) (l:List (List UInt8)) (A:total l=(bl s).length) (m:l.length<=1000000) (κ : BA->BA->Option R):∀ (f i:Nat),i<=l.length->l.length<i+f ->
  cG.L4 bD κ f s (total (l.take i):Nat) (i:Int) (bw l)=jA s ((cutAt (l.drop i)).map (total (l.take i)+·)) κ
 | 0,i,O,U=>by omega
 | f+1,i,O,U=>by
  have u:=fx s
  have hlen:=eR l
  rw [cG.L4,cG.t4]
  cases M:l.drop i with
  | nil =>
   have:=drop_nil M
   simp (disch:=omega) only [ai]
   rfl
  | cons x r =>
   obtain ⟨g1,g2,g3⟩:=cP M
   have j:total (l.take (i+1))=total (l.take i)+x.length:=by
    rw [dL g1,mH];simp [total]
   have V:total (l.take (i+1))+total r=(bl s).length:=by
    rw [<- A,<- g3,<- mH,List.take_append_drop]
   have W:=qg s N l A m κ f (i+1) (by omega) (by omega)
   simp (disch:=omega) only [al,av,ac,vQ g1,cj]
   have e:((total (l.take i):Nat):Int)+(x.length:Int)=((total (l.take (i+1)):Nat):Int):=by rw [j];simp
   simp only [e]
   simp (disch:=omega) only [al,av,ac,wrap_i64]
   rw [cutAt]
   by_cases z:x=[13,10]
   ·subst z
    rw [if_pos rfl,decide_eq_true (show B [13,10]=(⟨#[13,10]⟩:BA) from rfl)]
    simp only [cond_true,Option.map_some,jA]
    congr 1
    ·rw [<- iL (s.extract _ _),eC,Int.toNat_natCast,j];rfl
    ·rw [<- iL (s.extract _ _),eC,Int.toNat_natCast,j];simp [u]
   ·rw [if_neg z,decide_eq_false (by intro h;exact z (eg.1 h))]
    simp only [cond_false]
    rw [<- g3]
    refine W.trans ?_
    congr 1
    rw [j]
    cases cutAt (l.drop (i+1)) with
    | none=>rfl
    | some n=>simp only [Option.map_some];congr 1;omega
def og:Bool->List UInt8->Option Nat
 | _,[]=>none
 | f,13::10::r=>if f then some 2 else (og true r).map (2+·)
 | _,_::r=>(og false r).map (1+·)
theorem lX (f:Bool) (r:List UInt8):og f (13::10::r)=if f then some 2 else (og true r).map (2+·):=by rw [og]
theorem hH (f:Bool) (c:UInt8) (r:List UInt8) (h:¬ (c=13/\r.head? = some 10)):og f (c::r)=(og false r).map (1+·):=by
 rw [og]
 rintro j rfl rfl;exact h ⟨rfl,rfl⟩
theorem FF (o:Option Nat) (a b c:Nat) (h:a+b=c):(o.map (a+·)).map (b+·)=o.map (c+·):=by
 cases o with
 | none=>rfl
 | some n=>simp only [Option.map_some];congr 1;omega
theorem Cm (o:Option Nat):o.map (0+·)=o:=by cases o <;> simp
theorem zC (f s:List UInt8) (z:f≠[13,10]) (A:¬ (f=[13]/\s.head? = some 10)):cutAt (dl f s)=(og (decide (f=[])) s).map (f.length+·):=by
 fun_induction dl f s with
 | case1=>rfl
 | case2 f h=>rw [cutAt,if_neg z];simp [cutAt,og]
 | case3 f r j =>
  replace j:=j (by simp) (by simp)
  rw [cutAt,lX]
  by_cases h:f=[]
  ·subst h;simp
  ·rw [if_neg (by intro e;have:=congrArg List.length e;simp at this;exact h this),decide_eq_false h,j]
   simp only [List.length_append,List.length_cons,List.length_nil,decide_true,Bool.false_eq_true,if_false]
   rw [Cm,FF _ _ _ _ (show 2+f.length=f.length+(0+1+1) by omega)]
 | case4 f c r h j =>
  have u:¬ (c=13/\r.head? = some 10):=by
   rintro ⟨rfl,m⟩
   cases r with
   | nil=>simp at m
   | cons d r=>simp at m;subst m;exact h r rfl rfl
  rw [hH _ c r u,j ?_ ?_,decide_eq_false (by simp)]
  rotate_left
  ·intro e
   match f,e with
   | [x],e=>simp at e;obtain ⟨rfl,rfl⟩:=e;exact A ⟨rfl,rfl⟩
   | [],e=>simp at e
   | _::_::_,e=>simp at e
  ·rintro ⟨e,m⟩
   match f,e with
   | [],e=>simp at e;subst e;exact u ⟨rfl,m⟩
   | _::_,e=>simp at e
  rw [FF _ _ _ _ (show 1+f.length=(f++[c]).length by simp;omega)]
theorem BR (s:List UInt8):og false s=if Lib.index s [13,10,13,10] = -1 then none else some (Lib.index s [13,10,13,10]+4).toNat:=by
 have key:∀ n (s:List UInt8),s.length<=n->og false s=if Lib.index s [13,10,13,10] = -1 then none else some (Lib.index s [13,10,13,10]+4).toNat:=by
  intro n
  induction n with
  | zero => intro s h; have : s = [] := by cases s <;> simp_all
            subst this;rfl
  | succ n ih =>
   intro s h
   cases s with
   | nil=>rfl
   | cons c r =>
    have step:∀ r:List UInt8,r.length<=n->((og false r).map (1+·))=if (if Lib.index r [13,10,13,10] == -1 then (-1:Int) else Lib.index r [13,10,13,10]+1) = -1 then none else some ((if Lib.index r [13,10,13,10] == -1 then (-1:Int) else Lib.index r [13,10,13,10]+1)+4).toNat:=by
     intro r hr
     rw [ih r hr]
     have:=Lib.index_ge r [13,10,13,10]
     by_cases e:Lib.index r [13,10,13,10] = -1
     ·simp [e]
     ·have e':(Lib.index r [13,10,13,10] == -1)=false:=by simp [e]
      simp only [e',Bool.false_eq_true,if_false]
      rw [if_neg e,if_neg (by omega)]
      simp only [Option.map_some];congr 1;omega
    by_cases hc:c=13/\r.head? = some 10
    ·obtain ⟨rfl,hr⟩:=hc
     cases r with
     | nil=>simp at hr
     | cons d r =>
      simp only [List.head?_cons,Option.some.injEq] at hr;subst hr
      rw [lX]
      simp only [Bool.false_eq_true,if_false]
      by_cases hp:∃ r',r=13::10::r'
      ·obtain ⟨r',rfl⟩:=hp
       rw [lX,fi]
       simp
      ·have hnp:List.isPrefixOf [13,10,13,10] (13::10::r)=false:=by
        cases hh:List.isPrefixOf [13,10,13,10] (13::10::r) with
        | false=>rfl
        | true =>
         obtain ⟨t,ht⟩:=List.isPrefixOf_iff_prefix.1 hh
         simp only [List.cons_append,List.nil_append,List.cons.injEq,true_and] at ht
         exact absurd ⟨t,ht.symm⟩ hp
       have ht:og true r=og false r:=by
        cases r with
        | nil=>rfl
        | cons a r =>
         have:¬ (a=13/\r.head? = some 10):=by
          rintro ⟨rfl,h2⟩
          cases r with
          | nil=>simp at h2
          | cons b r=>simp at h2;subst h2;exact hp ⟨r,rfl⟩
         rw [hH _ _ _ this,hH _ _ _ this]
       have h10:og false (10::r)=(og false r).map (1+·):=hH _ _ _ (by simp)
       rw [ht,<- FF _ 1 1 2 rfl,<- h10,step (10::r) (by simp at h ⊢;omega),fi 13,hnp]
       simp only [Bool.false_eq_true,if_false]
    ·rw [hH _ _ _ hc,step r (by simp at h;omega)]
     have hnp:List.isPrefixOf [13,10,13,10] (c::r)=false:=by
      cases hh:List.isPrefixOf [13,10,13,10] (c::r) with
      | false=>rfl
      | true =>
       obtain ⟨t,ht⟩:=List.isPrefixOf_iff_prefix.1 hh
       simp only [List.cons_append,List.nil_append,List.cons.injEq] at ht
       obtain ⟨rfl,rfl⟩:=ht
       exact absurd ⟨rfl,rfl⟩ hc
     rw [fi,hnp];simp only [Bool.false_eq_true,if_false]
 exact key _ s (Nat.le_refl _)
theorem vY (s:BA) (j:(bl s).length<=1000000) (κ : BA->BA->Option R) (f:Nat) (z:(bl s).length<f):cG.e bD s (cG.L4 bD κ f) κ = jA s (og true (bl s)) κ := by
 unfold cG.e
 rw [sk s j]
 have m:=gM [] (bl s)
 simp only [List.length_nil,Nat.zero_add] at m
 have A:=lh (bl s)
 have u:=qg s j (dl [] (bl s)) m (by omega) κ f 0 (Nat.zero_le _) (by omega)
 simp only [List.take_zero,List.drop_zero,total] at u
 refine u.trans ?_
 rw [Cm,zC _ _ (by simp) (by simp),decide_eq_true rfl]
 simp only [List.length_nil,Cm]
theorem Ar (s:BA) (f:(bl s).length<=1000000) (κ : BA->BA->Option R):cG s κ = jA s (og true (bl s)) κ :=
 vY s f κ ag (by unfold ag;omega)
theorem B5 (s:BA) (N:(bl s).length<=1000000) (κ : BA->BA->Option R):dK s κ = jA s (og true (bl s)) κ := by
 have f:=fx s
 unfold dK dK.e aL aL.e dZ
 rw [show (⟨#[13,10]⟩:BA)=B [13,10] from rfl,lW]
 cases j:List.isPrefixOf [13,10] (bl s) with
 | true =>
  obtain ⟨t,A⟩:=List.isPrefixOf_iff_prefix.1 j
  have:2<=(bl s).length:=by rw [<- A];simp
  simp (disch:=omega) only [cond_true,av,ac]
  rw [<- A]
  simp only [List.cons_append,List.nil_append,lX,if_true,jA]
  congr 1
  ·rw [<- iL (s.extract _ _),eC];simp
  ·rw [<- iL (s.extract _ _),eC];simp [f]
 | false =>
  simp (disch:=omega) only [cond_false,ac]
  have m:og true (bl s)=og false (bl s):=by
   cases h:bl s with
   | nil=>rfl
   | cons a r =>
    have:¬ (a=13/\r.head? = some 10):=by
     rintro ⟨rfl,u⟩
     cases r with
     | nil=>simp at u
     | cons b r=>simp at u;subst u;rw [h] at j;simp at j
    rw [hH _ _ _ this,hH _ _ _ this]
  rw [m,BR]
  have M:=Lib.index_ge (bl s) [13,10,13,10]
  show (bif decide (Lib.index (bl s) [13,10,13,10]>=0) then _ else _)=_
  by_cases e:Lib.index (bl s) [13,10,13,10] = -1
  ·rw [e];rfl
  ·have hle:Lib.index (bl s) [13,10,13,10]+4<=(bl s).length:=by
    have:=pu (bl s) [13,10,13,10] e
    simpa using this
   rw [if_neg e]
   have z:s.data.toList=bl s:=rfl
   simp only [z]
   simp (disch:=omega) only [al,wrap_i64,av,ac,jA]
   congr 1
   ·rw [<- iL (s.extract _ _),eC];rfl
   ·rw [<- iL (s.extract _ _),eC];simp [f]
def ig (s:BA):BA × BA :=
 match og true (bl s) with
 | some n=>(B ((bl s).take n),B ((bl s).drop n))
 | none=>(s,B [])
theorem sB (s:BA) (κ : BA->BA->Option R):jA s (og true (bl s)) κ = κ (ig s).1 (ig s).2:=by
 unfold jA ig;split <;> rfl
theorem Aa (s:BA) (f:(bl s).length<=1000000) (κ : BA->BA->Option R):dK s κ = κ (ig s).1 (ig s).2:=(B5 s f κ).trans (sB s κ)
theorem tV (s:BA) (f:(bl s).length<=1000000) (κ : BA->BA->Option R):cG s κ = κ (ig s).1 (ig s).2:=(Ar s f κ).trans (sB s κ)
theorem yn:∀ (M:List (List UInt8)) (j:Option Fl) (N:Nat),(∀ x,j=some x->x.1.length<=N)->total M<=N->∀ x∈dz j M,x.1.length<=N
 | [],none,N,h,u,x,f=>by rw [dz] at f;cases f
 | [],some y,N,h,u,x,f=>by rw [dz,List.mem_singleton] at f;subst f;exact h x rfl
 | c::r,j,N,h,u,x,f=>by
  simp only [total] at u
  have m:(fresh c).1.length<=N:=by
   have:=Cj c
   unfold fresh
   cases gp c with
   | false=>simp
   | true=>show (gD c).length<=N;omega
  cases j with
  | none =>
   have e:dz none (c::r)=dz (some (fresh c)) r:=rfl
   rw [e] at f
   exact yn r _ N (by intro y e;cases e;exact m) (by omega) x f
  | some y =>
   have e:dz (some y) (c::r)=bif dq (c.headD 0) then dz (some (ext y c)) r else y::dz (some (fresh c)) r:=rfl
   rw [e] at f
   cases O:dq (c.headD 0) with
   | true =>
    rw [O,cond_true] at f
    exact yn r _ N (by intro z e;cases e;exact h y rfl) (by omega) x f
   | false =>
    rw [O,cond_false] at f
    rcases List.mem_cons.1 f with A|A
    ·rw [A];exact h y rfl
    ·exact yn r _ N (by intro z e;cases e;exact m) (by omega) x A
theorem o8 (c:List UInt8):(fresh c).2.2=c:=by
 unfold fresh
 cases gp c <;> rfl
theorem tw:∀ (u:List (List UInt8)) (m:Option Fl) (n:Nat),(∀ x,m=some x->x.2.2.length+total u<=n)->total u<=n->∀ x∈dz m u,x.2.2.length<=n
 | [],none,n,h,j,x,f=>by rw [dz] at f;cases f
 | [],some y,n,h,j,x,f=>by
  rw [dz,List.mem_singleton] at f;subst f
  have:=h x rfl;simp only [total] at this;omega
 | c::r,none,n,h,j,x,f=>by
  rw [dz] at f
  refine tw r _ n ?_ (by simp only [total] at j;omega) x f
  intro y e;cases e
  simp only [total] at j
  rw [o8];omega
 | c::r,some y,n,h,j,x,f=>by
  have hy:=h y rfl
  simp only [total] at j hy
  rw [dz] at f
  have M:=o8 c
  cases A:dq (c.headD 0) with
  | true =>
   rw [A,cond_true] at f
   refine tw r _ n ?_ (by omega) x f
   intro z e;cases e
   have:(ext y c).2.2.length=y.2.2.length+c.length:=by unfold ext;simp
   omega
  | false =>
   rw [A,cond_false,List.mem_cons] at f
   rcases f with rfl|f
   ·omega
   ·refine tw r _ n ?_ (by omega) x f
    intro z e;cases e;rw [M];omega
theorem CS (l:List UInt8):(eW l).length<=l.length:=by
 have f:=so dq (l.dropWhile dq)
 have j:=(List.dropWhile_suffix dq (l:=l)).length_le
 unfold eW;omega
def nC (h:List UInt8):LA:=(gm h).map iv
theorem th (h:List UInt8) (u:h.length<=200000):(nC h).length<=64/\(∀ a∈nC h,Fit NB a)/\∀ a∈nC h,(a.fld 1).s.size<=200000:=by
 have z:=jU h
 refine ⟨by unfold nC;rw [List.length_map];unfold gm;rw [List.length_take];omega,fun a f => ?_,fun a f => ?_⟩
 all_goals
  obtain ⟨x,j,rfl⟩:=List.mem_map.1 f
  unfold gm at j
  obtain ⟨y,hy,rfl⟩:=List.mem_map.1 (List.mem_of_mem_take j)
  have hy:=(List.mem_filter.1 hy).1
  have A:=yn (eQ h) none 200000 (by intro x e;cases e) (by omega) y hy
  have M:=tw (eQ h) none 200000 (by intro x e;cases e) (by omega) y hy
  have N:=iW (eQ h) none 200000 (by intro x e;cases e) (by omega) y hy
  have O:=CS y.2.1
 ·refine .agg _ fun b m => ?_
  simp only [List.mem_cons,List.mem_nil_iff,or_false] at m
  rcases m with rfl|rfl|rfl
  ·exact .str _ (by rw [cj];show y.1.length<=NB;unfold NB;omega)
  ·exact .str _ (by rw [cj];show (eW y.2.1).length<=NB;unfold NB;omega)
  ·exact .str _ (by rw [cj];show y.2.2.length<=NB;unfold NB;omega)
 ·rw [Gm,cj];show (eW y.2.1).length<=200000;omega
def gI (h:List UInt8) (n:BA):Bool:=(kY n (nC h)).isSome
def gV (h:List UInt8) (n:BA):List UInt8:=bl ((kY n (nC h)).getD (B []))
theorem DC {h:List UInt8} {n:BA} (e:gI h n=false):gV h n=[]:=by
 unfold gI at e;unfold gV
 cases f:kY n (nC h) with
 | none=>rfl
 | some s=>rw [f] at e;cases e
theorem ym {n:BA}:∀ {l:LA} {s:BA},kY n l=some s->∃ a∈l,s=(a.fld 1).s
 | [],_,h=>by cases h
 | a::r,s,h=>by
  rw [kY] at h
  split at h
  ·cases h;exact ⟨a,by simp,rfl⟩
  ·obtain ⟨b,f,e⟩:=ym h;exact ⟨b,by simp [f],e⟩
theorem mX {h:List UInt8} (f:h.length<=200000) (n:BA):(gV h n).length<=200000:=by
 unfold gV
 cases j:kY n (nC h) with
 | none=>simp [lC]
 | some s =>
  obtain ⟨a,m,rfl⟩:=ym j
  have:=(th h f).2.2 a m
  rw [fx] at this
  exact this
theorem u5 {h:List UInt8} (f:h.length<=200000) {n:BA} (j:n.size<=NB) (κ : Bool->BA->Option R):db (nC h) n κ = κ (gI h n) (B (gV h n)):=by
 obtain ⟨u,m,_⟩:=th h f
 exact DP n j (nC h) (by omega) m κ
theorem pS (name:BA) (u:name.size<=NB) (l:LA) (N:l.length<=1000000) (z:∀ a∈l,Fit NB a) (κ : Bool->BA->Option R) (A:Bool) (M:BA):∀ (f i:Nat),i<=l.length->l.length<i+f ->
  dw.L2 dE κ f l name (i:Int) A M=zV κ (kY name (l.drop i))
 | 0,i,O,U=>by omega
 | f+1,i,O,U=>by
  rw [dw.L2,dw.t2,dX]
  have j:IntKind.wrap .i64 ((i:Int)+1)=((i+1:Nat):Int):=wrap_i64 (by omega) (by omega)
  cases m:l.drop i with
  | nil =>
   have:=drop_nil m
   rw [ai (by omega)];rfl
  | cons a r =>
   obtain ⟨g1,g2,g3⟩:=cP m
   have V:=z a (List.mem_of_getElem? g1)
   rw [al (by omega),av,ac (by omega),ac (by omega),CD m,FK _ _ (V.fld 0).s u,j,pS name u l N z κ A M f (i+1) (by omega) (by omega),g3,kY]
   by_cases e:dW (bl (a.fld 0).s)=dW (bl name)
   ·rw [decide_eq_true e,if_pos e,cond_true,av,ac (by omega),ac (by omega)];rfl
   ·rw [decide_eq_false e,if_neg e];rfl
theorem An (name:BA) (j:name.size<=NB) (l:LA) (m:l.length<=1000000) (u:∀ a∈l,Fit NB a) (κ : Bool->BA->Option R):dw l name κ = zV κ (kY name l):=by
 have key:∀ f,l.length<f->dw.e dE l name (dw.L2 dE κ f) κ = zV κ (kY name l) :=
  fun f h=>pS name j l m u κ _ _ f 0 (by omega) (by omega)
 exact key ag (by unfold ag;omega)
theorem jf {h:List UInt8} (f:h.length<=200000) {n:BA} (j:n.size<=NB) (κ : Bool->BA->Option R):dw (nC h) n κ = κ (gI h n) (B (gV h n)):=by
 obtain ⟨u,m,_⟩:=th h f
 exact An n j (nC h) (by omega) m κ
structure HdV where
 ty:List UInt8
 sub:List UInt8
 ps:List Pm
 i0:Bool
 i1:List UInt8
 a0:Bool
 a1:List UInt8
 c1:List UInt8
 p1:List UInt8
 pp:List Pm
 lg:List (List UInt8)
 w0:Bool
 w1:List UInt8
abbrev Ge (R:Type):Type:=BA->BA->BA->LA->Bool->BA->Bool->BA->Bool->BA->Bool->BA->LA->LA->Bool->BA->Int->Int->Int->Int->Int->Option R
def dm (l:List UInt8):Bool := !decide (l=[])
def zS (h:List UInt8) (f:Bool):HdV where
 ty:=(xc (gV h (⟨#[67,111,110,116,101,110,116,45,84,121,112,101]⟩:BA)) f).1
 sub:=(xc (gV h (⟨#[67,111,110,116,101,110,116,45,84,121,112,101]⟩:BA)) f).2.1
 ps:=(xc (gV h (⟨#[67,111,110,116,101,110,116,45,84,121,112,101]⟩:BA)) f).2.2
 i0:=gI h (⟨#[67,111,110,116,101,110,116,45,73,100]⟩:BA)
 i1:=eW (gV h (⟨#[67,111,110,116,101,110,116,45,73,100]⟩:BA))
 a0:=gI h (⟨#[67,111,110,116,101,110,116,45,68,101,115,99,114,105,112,116,105,111,110]⟩:BA)
 a1:=eW (gV h (⟨#[67,111,110,116,101,110,116,45,68,101,115,99,114,105,112,116,105,111,110]⟩:BA))
 c1:=iU (gV h (⟨#[67,111,110,116,101,110,116,45,84,114,97,110,115,102,101,114,45,69,110,99,111,100,105,110,103]⟩:BA))
 p1:=iU (gV h (⟨#[67,111,110,116,101,110,116,45,68,105,115,112,111,115,105,116,105,111,110]⟩:BA))
 pp:=if iU (gV h (⟨#[67,111,110,116,101,110,116,45,68,105,115,112,111,115,105,116,105,111,110]⟩:BA))=[] then [] else vB (uj (gV h (⟨#[67,111,110,116,101,110,116,45,68,105,115,112,111,115,105,116,105,111,110]⟩:BA)))
 lg:=Eu (gV h (⟨#[67,111,110,116,101,110,116,45,76,97,110,103,117,97,103,101]⟩:BA))
 w0:=gI h (⟨#[67,111,110,116,101,110,116,45,76,111,99,97,116,105,111,110]⟩:BA)
 w1:=eW (gV h (⟨#[67,111,110,116,101,110,116,45,76,111,99,97,116,105,111,110]⟩:BA))
def oa (κ : Ge R) (p:BA) (v:HdV) (a b c d e:Int):Option R :=
 κ p (B v.ty) (B v.sub) (v.ps.map bn) v.i0 (B v.i1) v.a0 (B v.a1) (dm v.c1) (B v.c1) (dm v.p1) (B v.p1) (v.pp.map bn) (bw v.lg) v.w0 (B v.w1) a b c d e
theorem xe {h:List UInt8} (f:h.length<=200000) {n:BA} (j:n.size<=NB) (κ : Bool->BA->Option R):di (nC h) n κ = κ (gI h n) (B (eW (gV h n))):=by
 unfold di di.e
 have:=mX f n
 rw [u5 f j,p8 _ (by omega)]
theorem Gn (v:List UInt8) (f:v.length<=1000000) (κ : Bool->BA->BA->Int->Option R):az (B v) 0 κ = κ (dm (iU v)) (B (iU v)) (B v) (pl v (uj v)):=by
 have:=xg v v f (List.suffix_refl v) κ
 rw [kb] at this
 exact this
theorem wP (v:List UInt8):uj v <:+ v:=(fb _).trans (dJ v)
theorem ns {h:List UInt8} (m:h.length<=200000) (ty sub:BA) (ps:LA) (p:BA) (a b c d e:Int) (κ : Ge R) (f:Nat) (k:Ge R)
  (hk:∀ i0 i1 a0 a1 c0 c1 X p1 pp w0 w1,k p ty sub ps i0 i1 a0 a1 c0 c1 X p1 pp [] w0 w1 a b c d e=dn.n9 db bd aJ az di aH κ (f+1) (nC h) p ty sub ps i0 i1 a0 a1 c0 c1 X p1 pp [] w0 w1 a b c d e) :
  db (nC h) (⟨#[67,111,110,116,101,110,116,45,84,114,97,110,115,102,101,114,45,69,110,99,111,100,105,110,103]⟩:BA) (fun ax Y=>az Y 0 (fun u z a6 a7=>di (nC h) (⟨#[67,111,110,116,101,110,116,45,73,100]⟩:BA) (fun A M=>di (nC h) (⟨#[67,111,110,116,101,110,116,45,68,101,115,99,114,105,112,116,105,111,110]⟩:BA) (fun N O=>di (nC h) (⟨#[67,111,110,116,101,110,116,45,76,111,99,97,116,105,111,110]⟩:BA) (fun U V=>db (nC h) (⟨#[67,111,110,116,101,110,116,45,68,105,115,112,111,115,105,116,105,111,110]⟩:BA) (fun a8 ad=>az ad 0 (fun j W ae ap=>bif j then aJ ae ap (fun ar bb be=>k p ty sub ps A M N O u z j W ar [] U V a b c d e) else k p ty sub ps A M N O u z j W [] [] U V a b c d e)))))))
  = κ p ty sub ps (gI h (⟨#[67,111,110,116,101,110,116,45,73,100]⟩:BA)) (B (eW (gV h (⟨#[67,111,110,116,101,110,116,45,73,100]⟩:BA)))) (gI h (⟨#[67,111,110,116,101,110,116,45,68,101,115,99,114,105,112,116,105,111,110]⟩:BA)) (B (eW (gV h (⟨#[67,111,110,116,101,110,116,45,68,101,115,99,114,105,112,116,105,111,110]⟩:BA)))) (dm (iU (gV h (⟨#[67,111,110,116,101,110,116,45,84,114,97,110,115,102,101,114,45,69,110,99,111,100,105,110,103]⟩:BA)))) (B (iU (gV h (⟨#[67,111,110,116,101,110,116,45,84,114,97,110,115,102,101,114,45,69,110,99,111,100,105,110,103]⟩:BA)))) (dm (iU (gV h (⟨#[67,111,110,116,101,110,116,45,68,105,115,112,111,115,105,116,105,111,110]⟩:BA)))) (B (iU (gV h (⟨#[67,111,110,116,101,110,116,45,68,105,115,112,111,115,105,116,105,111,110]⟩:BA)))) ((if iU (gV h (⟨#[67,111,110,116,101,110,116,45,68,105,115,112,111,115,105,116,105,111,110]⟩:BA))=[] then [] else vB (uj (gV h (⟨#[67,111,110,116,101,110,116,45,68,105,115,112,111,115,105,116,105,111,110]⟩:BA)))).map bn) (bw (Eu (gV h (⟨#[67,111,110,116,101,110,116,45,76,97,110,103,117,97,103,101]⟩:BA)))) (gI h (⟨#[67,111,110,116,101,110,116,45,76,111,99,97,116,105,111,110]⟩:BA)) (B (eW (gV h (⟨#[67,111,110,116,101,110,116,45,76,111,99,97,116,105,111,110]⟩:BA)))) a b c d e:=by
 have l1:=mX m (⟨#[67,111,110,116,101,110,116,45,84,114,97,110,115,102,101,114,45,69,110,99,111,100,105,110,103]⟩:BA)
 have l2:=mX m (⟨#[67,111,110,116,101,110,116,45,68,105,115,112,111,115,105,116,105,111,110]⟩:BA)
 have l3:=mX m (⟨#[67,111,110,116,101,110,116,45,76,97,110,103,117,97,103,101]⟩:BA)
 have fin:∀ i0 i1 a0 a1 c0 c1 X p1 pp w0 w1,k p ty sub ps i0 i1 a0 a1 c0 c1 X p1 pp [] w0 w1 a b c d e=κ p ty sub ps i0 i1 a0 a1 c0 c1 X p1 pp (bw (Eu (gV h (⟨#[67,111,110,116,101,110,116,45,76,97,110,103,117,97,103,101]⟩:BA)))) w0 w1 a b c d e:=by
  intro i0 i1 a0 a1 c0 c1 X p1 pp w0 w1
  rw [hk,dn.n9,dn.t15,u5 m (by decide)]
  obtain ⟨q,hq⟩:=Ij (R:=R) (gV h (⟨#[67,111,110,116,101,110,116,45,76,97,110,103,117,97,103,101]⟩:BA)) (by omega)
  exact hq _
 rw [u5 m (by decide),Gn _ (by omega),xe m (by decide),xe m (by decide),xe m (by decide),u5 m (by decide),Gn _ (by omega)]
 unfold dm
 by_cases c1:iU (gV h (⟨#[67,111,110,116,101,110,116,45,68,105,115,112,111,115,105,116,105,111,110]⟩:BA))=[]
 ·rw [decide_eq_true c1,Bool.not_true,cond_false,fin,if_pos c1];rfl
 ·rw [decide_eq_false c1,Bool.not_false,cond_true]
  obtain ⟨q,hq⟩:=GD (R:=R) (gV h (⟨#[67,111,110,116,101,110,116,45,68,105,115,112,111,115,105,116,105,111,110]⟩:BA)) (uj (gV h (⟨#[67,111,110,116,101,110,116,45,68,105,115,112,111,115,105,116,105,111,110]⟩:BA))) (by omega) (wP _)
  rw [hq,fin,if_neg c1]
theorem GF {h:List UInt8} (m:h.length<=200000) (p:BA) (s1 s2:BA) (a b c d e:Int) (z:Bool) (N O U V W:BA) (X Y y3 y4 y5:Bool) (κ : Ge R) :
  dn p s1 s2 X N Y O y3 U y4 V y5 W a b c d e (nC h) z κ = oa κ p (zS h z) a b c d e:=by
 have l1:=mX m (⟨#[67,111,110,116,101,110,116,45,84,121,112,101]⟩:BA)
 have key:∀ f,dn.e db bd aJ az di aH p s1 s2 X N Y O y3 U y4 V y5 W a b c d e (nC h) z (dn.n9 db bd aJ az di aH κ (f+1)) κ = oa κ p (zS h z) a b c d e:=by
  intro f
  unfold dn.e
  rw [u5 m (by decide)]
  have j:=GB (R:=R) (gV h (⟨#[67,111,110,116,101,110,116,45,84,121,112,101]⟩:BA)) (by omega)
  unfold oa zS xc
  cases A:xd (gV h (⟨#[67,111,110,116,101,110,116,45,84,121,112,101]⟩:BA)) with
  | none =>
   rw [A] at j
   obtain ⟨u,v,q,j⟩:=j
   rw [j,cond_false]
   cases z with
   | true =>
    rw [cond_true]
    exact ns m _ _ [] p a b c d e κ f (dn.n9 db bd aJ az di aH κ (f+1) (nC h)) (fun _ _ _ _ _ _ _ _ _ _ _=>rfl)
   | false =>
    rw [cond_false]
    exact ns m _ _ _ p a b c d e κ f (dn.n9 db bd aJ az di aH κ (f+1) (nC h)) (fun _ _ _ _ _ _ _ _ _ _ _=>rfl)
  | some q =>
   obtain ⟨t,u,r⟩:=q
   rw [A] at j
   replace j:∀ κ : BA->BA->Bool->BA->Int->Option R,bd (B (gV h (⟨#[67,111,110,116,101,110,116,45,84,121,112,101]⟩:BA))) 0 κ = κ (B t) (B u) true (B (gV h (⟨#[67,111,110,116,101,110,116,45,84,121,112,101]⟩:BA))) (pl (gV h (⟨#[67,111,110,116,101,110,116,45,84,121,112,101]⟩:BA)) r):=j
   obtain ⟨q2,M⟩:=GD (R:=R) (gV h (⟨#[67,111,110,116,101,110,116,45,84,121,112,101]⟩:BA)) r (by omega) (Gv A)
   rw [j,cond_true,M]
   exact ns m _ _ _ p a b c d e κ f (dn.n9 db bd aJ az di aH κ (f+1) (nC h)) (fun _ _ _ _ _ _ _ _ _ _ _=>rfl)
 exact key (ag-1)
def fj:List UInt8->List UInt8 × Option (List UInt8)
 | []=>([],none)
 | c::t=>if c=13/\t.head? = some 10 then ([],some t.tail) else (c::(fj t).1,(fj t).2)
def gN (r:List UInt8):List UInt8:=(fj r).2.getD []
theorem f' (t:List UInt8):fj (13::10::t)=([],some t):=by rw [fj,if_pos ⟨rfl,rfl⟩];rfl
theorem fk {c:UInt8} {t:List UInt8} (h:¬ (c=13/\t.head? = some 10)):fj (c::t)=(c::(fj t).1,(fj t).2):=by rw [fj,if_neg h]
theorem m0 {t:List UInt8} (h:t.head? = some 10):t=10::t.tail:=by
 cases t with
 | nil=>cases h
 | cons c u=>simp at h;rw [h];rfl
theorem jY:∀ {r u:List UInt8},(fj r).2=some u->r=(fj r).1++13::10::u
 | [],u,h=>by cases h
 | c::t,u,h=>by
  by_cases e:c=13/\t.head? = some 10
  ·obtain ⟨rfl,f⟩:=e
   rw [m0 f,f'] at h ⊢
   cases h;rfl
  ·rw [fk e] at h ⊢
   have:=jY h
   simp only [List.cons_append]
   rw [<- this]
theorem mi:∀ {r:List UInt8},(fj r).2=none->r=(fj r).1
 | [],_=>rfl
 | c::t,h=>by
  by_cases e:c=13/\t.head? = some 10
  ·obtain ⟨rfl,f⟩:=e
   rw [m0 f,f'] at h;cases h
  ·rw [fk e] at h ⊢
   simp only
   rw [<- mi h]
theorem xB (c:UInt8) (t:List UInt8):([13,10]:List UInt8).isPrefixOf (c::t)=decide (c=13/\t.head? = some 10):=by
 cases t with
 | nil=>simp [List.isPrefixOf]
 | cons d u =>
  simp only [List.isPrefixOf,List.head?_cons,Option.some.injEq,Bool.and_true]
  rw [Bool.eq_iff_iff]
  simp only [Bool.and_eq_true,beq_iff_eq,decide_eq_true_eq]
  constructor
  ·rintro ⟨rfl,rfl⟩;exact ⟨rfl,rfl⟩
  ·rintro ⟨rfl,rfl⟩;exact ⟨rfl,rfl⟩
theorem m9:∀ (r:List UInt8),Lib.index r [13,10]=match (fj r).2 with
  | some _=>((fj r).1.length:Int)
  | none => -1
 | []=>by rfl
 | c::t=>by
  rw [fi,xB,m9 t]
  by_cases e:c=13/\t.head? = some 10
  ·rw [if_pos (by simpa using e)]
   obtain ⟨rfl,f⟩:=e
   rw [m0 f,f'];rfl
  ·rw [if_neg (by simpa using e),fk e]
   simp only
   cases h:(fj t).2 with
   | none=>rfl
   | some u =>
    simp only [List.length_cons]
    rw [if_neg (by simp)];omega
theorem pE:∀ (r:List UInt8),gN r <:+ r
 | []=>List.suffix_refl _
 | c::t=>by
  unfold gN
  by_cases e:c=13/\t.head? = some 10
  ·obtain ⟨rfl,f⟩:=e
   rw [m0 f,f']
   exact (List.suffix_cons _ _).trans (List.suffix_cons _ _)
  ·rw [fk e]
   exact (pE t).trans (List.suffix_cons _ _)
theorem pD (c:UInt8) (t:List UInt8):(gN (c::t)).length<=t.length:=by
 unfold gN
 by_cases e:c=13/\t.head? = some 10
 ·obtain ⟨rfl,f⟩:=e
  rw [m0 f,f'];simp
 ·rw [fk e]
  exact (pE t).length_le
theorem DR (r:List UInt8):(fj r).1.length<=r.length:=by
 cases h:(fj r).2 with
 | none=>have:=mi h;rw [<- this];exact Nat.le_refl _
 | some u=>have:=congrArg List.length (jY h);simp only [List.length_append,List.length_cons] at this;omega
theorem yE (r:List UInt8):r.take (fj r).1.length=(fj r).1:=by
 cases h:(fj r).2 with
 | none=>have:=mi h;rw [<- this];simp
 | some u => have := jY h; conv => lhs; arg 2; rw [this]
             simp
def e7:List UInt8->Bool
 | []=>false
 | c::t=>(c == 13&&t.head? == some 10)||e7 t
theorem uU:∀ (r:List UInt8),e7 (fj r).1=false
 | []=>rfl
 | c::t=>by
  by_cases e:c=13/\t.head? = some 10
  ·obtain ⟨rfl,f⟩:=e
   rw [m0 f,f'];rfl
  ·rw [fk e]
   simp only
   unfold e7
   rw [uU t,Bool.or_false,Bool.and_eq_false_iff]
   by_cases j:c=13
   ·right
    have f:t.head? ≠ some 10:=fun h=>e ⟨j,h⟩
    cases t with
    | nil=>rfl
    | cons d u =>
     by_cases m:d=13/\u.head? = some 10
     ·obtain ⟨rfl,z⟩:=m
      rw [m0 z,f'];rfl
     ·rw [fk m]
      simpa using f
   ·left;simpa using j
theorem uT:∀ {a b:List UInt8},e7 (a++b)=false->e7 a=false/\e7 b=false
 | [],b,h=>⟨rfl,h⟩
 | c::t,b,h=>by
  rw [List.cons_append,e7,Bool.or_eq_false_iff] at h
  obtain ⟨f,j⟩:=uT h.2
  refine ⟨?_,j⟩
  rw [e7,f,Bool.or_false]
  cases t with
  | nil=>simp
  | cons d u=>exact h.1
theorem pC:∀ {w t:List UInt8},e7 w=false->¬ (w.getLast? = some 13/\t.head? = some 10)->fj (w++t)=(w++(fj t).1,(fj t).2)
 | [],t,_,_=>rfl
 | c::w,t,h,f=>by
  rw [e7,Bool.or_eq_false_iff] at h
  have e:¬ (c=13/\(w++t).head? = some 10):=by
   rintro ⟨rfl,e⟩
   cases w with
   | nil=>exact f ⟨rfl,e⟩
   | cons d u =>
    simp at e h
    exact h.1 e
  rw [List.cons_append,fk e,pC h.2 (fun x=>f ⟨by
   have:=x.1
   cases w with
   | nil=>simp at this
   | cons d u=>rw [List.getLast?_cons_cons];exact this,x.2⟩)]
  rfl
theorem vl:∀ {w t:List UInt8},e7 w=false->w.getLast? = some 13->t.head? = some 10->(fj (w++t)).1.length<w.length
 | [],t,_,h,_=>by cases h
 | c::w,t,h,f,j=>by
  rw [e7,Bool.or_eq_false_iff] at h
  cases w with
  | nil =>
   simp at f
   rw [f,m0 j,List.singleton_append,f'];simp
  | cons d u =>
   rw [List.getLast?_cons_cons] at f
   have:=vl h.2 f j
   have e:¬ (c=13/\(d::u++t).head? = some 10):=by
    rintro ⟨rfl,e⟩
    simp at e h
    exact h.1 e
   rw [List.cons_append,fk e]
   simp only [List.length_cons] at this ⊢
   omega
def jL (l:List UInt8):Bool:=l.all dq
def oH (b l:List UInt8):Option Bool :=
 if (45::45::b).isPrefixOf l then
  (if ([45,45]:List UInt8).isPrefixOf (l.drop (b.length+2)) then (if jL (l.drop (b.length+2+2)) then some true else none)
   else (if jL (l.drop (b.length+2)) then some false else none))
 else none
def qt (l:List UInt8):Bool:=([45,45]:List UInt8).isPrefixOf l
theorem sG (l:List UInt8):(eW l=[]) ↔ jL l=true:=by
 unfold eW jL
 rw [List.all_eq_true]
 constructor
 ·intro h
  cases f:l.dropWhile dq with
  | nil=>exact o0.1 f
  | cons c t =>
   have j:dq c=false:=by
    have:=List.head?_dropWhile_not dq l
    rw [f] at this;simpa using this
   rw [f] at h
   obtain ⟨e,he⟩:=p6 (p:=dq) t j
   rw [he] at h;cases h
 ·intro h
  rw [o0.2 h];rfl
theorem Bs (l p:List UInt8) (κ : BA->Bool->Option R):cH (B l) (B p) κ = if p.isPrefixOf l then κ (B (l.drop p.length)) true else κ (B l) false:=by
 unfold cH cH.e cM cM.e
 have:=pq (R:=R) l p
 unfold ba ba.e at this
 rw [this]
 cases h:p.isPrefixOf l with
 | false=>rfl
 | true =>
  have f:p.length<=l.length:=(List.isPrefixOf_iff_prefix.1 h).length_le
  rw [cj,cj,Bool.not_true,cond_false,av,ac (by omega),av,ac (by omega),ac (by omega),Int.toNat_natCast,Int.toNat_natCast,df,List.take_length]
  rfl
theorem Du (l:List UInt8):decide (B l=B [])=decide (l=[]):=decide_eq_decide.2 eg
theorem Ih (b l:List UInt8) (O:b.length<=1000000) (U:l.length<=1000000):match oH b l with
  | some k=>∀ κ : Bool->Bool->Option R,cQ (B l) (B b) κ = κ true k
  | none=>∃ k,∀ κ : Bool->Bool->Option R,cQ (B l) (B b) κ = κ false k:=by
 have st:∀ κ : Bool->Bool->Option R,cQ (B l) (B b) κ = if (45::45::b).isPrefixOf l then (if qt (l.drop (b.length+2)) then κ (jL (l.drop (b.length+2+2))) true else κ (jL (l.drop (b.length+2))) false) else κ false false:=by
  intro κ
  unfold cQ cQ.e
  have A:(⟨#[45,45]⟩:BA)=B [45,45]:=rfl
  have z:∀ x:List UInt8,x.length<=1000000->∀ κ : BA->Option R,bL (B x) (⟨#[32,9]⟩:BA) κ = κ (B (eW x)):=fun x M κ => p8 x M κ
  have tb:∀ x:List UInt8,decide (eW x=[])=jL x:=fun x=>by
   cases h:jL x with
   | true=>exact decide_eq_true ((sG x).2 h)
   | false=>exact decide_eq_false (fun e=>by rw [(sG x).1 e] at h;cases h)
  rw [A,cj,cj,ac (by simp only [List.length_cons,List.length_nil];omega),gX,Bs]
  show (if (45::45::b).isPrefixOf l then _ else _)=_
  by_cases h:(45::45::b).isPrefixOf l=true
  ·rw [if_pos h,if_pos h,Bool.not_true,cond_false,Bs]
   have N:([45,45]++b).length=b.length+2:=by simp
   have u:(l.drop (b.length+2)).length<=1000000:=by rw [List.length_drop];omega
   rw [N]
   unfold qt
   by_cases f:([45,45]:List UInt8).isPrefixOf (l.drop (b.length+2))=true
   ·rw [if_pos f,if_pos f,z _ (by simp only [List.length_drop];omega),dX,Du,tb,List.drop_drop];rfl
   ·rw [if_neg f,if_neg f,z _ u,dX,Du,tb]
  ·rw [if_neg h,if_neg h];rfl
 unfold oH
 by_cases h:(45::45::b).isPrefixOf l=true
 ·rw [if_pos h]
  simp only [h,if_true] at st
  by_cases f:qt (l.drop (b.length+2))=true
  ·have j:=f
   unfold qt at j
   rw [if_pos j]
   simp only [f,if_true] at st
   cases m:jL (l.drop (b.length+2+2)) with
   | true=>rw [if_pos rfl];rw [m] at st;exact st
   | false=>rw [if_neg (by decide)];rw [m] at st;exact ⟨true,st⟩
  ·have j:=f
   unfold qt at j
   rw [if_neg j]
   simp only [f] at st
   cases m:jL (l.drop (b.length+2)) with
   | true=>rw [if_pos rfl];rw [m] at st;exact st
   | false=>rw [if_neg (by decide)];rw [m] at st;exact ⟨false,st⟩
 ·rw [if_neg h]
  simp only [h] at st
  exact ⟨false,st⟩
def pn (s r:List UInt8):Nat:=s.length-r.length
theorem vz (s r:List UInt8):pl s r=(pn s r:Int):=rfl
theorem xy {s r:List UInt8} (h:r <:+ s) (k:Nat):(B s).extract (pn s r) (pn s r+k)=B (r.take k):=by
 rw [df,List.drop_take,show pn s r=s.length-r.length from rfl,qj h]
 congr 2;omega
theorem tP {s r:List UInt8} (h:r <:+ s) {k:Nat} (f:k<=r.length):pn s (r.drop k)=pn s r+k:=by
 have:=dU h
 unfold pn;rw [List.length_drop];omega
def od (κ : Int->Int->Option R) (s:List UInt8) (k:Int) (u:List UInt8):Option R :=
 if u=[] then κ k (pl s []) else if ([13,10]:List UInt8).isPrefixOf u then κ k (pl s (u.drop 2)) else κ 0 0
theorem mz (s:List UInt8) (A:s.length<=1000000) (k:Int) (κ : Int->Int->Option R):∀ (f:Nat) (u:List UInt8),u <:+ s->u.length<f->bK.L9 κ f (B s) (pl s u) k=od κ s k (u.dropWhile dq)
 | 0,u,_,M=>by omega
 | f+1,u,h,M=>by
  rw [bK.L9,bK.t9,iK]
  cases u with
  | nil =>
   rw [dI,ai (by omega),fS rfl];rfl
  | cons c t =>
   have j:=eI h
   have z:=eu (s:=s) (r:=c::t)
   have m:=dV h
   simp only [List.length_cons] at M
   rw [al j,av,ac z.1,ac j,eN h,gg h A]
   by_cases c1:c=32
   ·rw [jo 32 rfl c1,cond_true,mz s A k κ f t m (by omega),List.dropWhile_cons,if_pos (by subst c1;rfl)]
   ·rw [iM 32 rfl c1,cond_false,av,ac z.1,ac j]
    by_cases c2:c=9
    ·rw [jo 9 rfl c2,cond_true,mz s A k κ f t m (by omega),List.dropWhile_cons,if_pos (by subst c2;rfl)]
    ·rw [iM 9 rfl c2,cond_false,List.dropWhile_cons,if_neg (by unfold dq;simp [c1,c2]),fR (by omega)]
     rw [cond_false]
     unfold od
     rw [if_neg (by simp),xB]
     have hw:IntKind.wrap .i64 (pl s (c::t)+2)=pl s (c::t)+2:=wrap_i64 (by omega) (by omega)
     rw [hw]
     by_cases c3:c=13
     ·cases t with
      | nil =>
       have:pl s [c]+1=(s.length:Int):=by have:=ky h;rw [dI] at this;omega
       rw [ai (by omega),if_neg (by simp)]
      | cons d v =>
       have g1:=eI m
       have g2:=eu (s:=s) (r:=d::v)
       have g3:=ky h
       have g4:=ky m
       rw [al (by omega),av,ac z.1,ac j,jo 13 rfl c3,cond_true,av,ac g2.1,ac g1,eN m]
       by_cases c4:d=10
       ·rw [jo 10 rfl c4,cond_true,if_pos (by simp [c3,c4])]
        rw [show pl s (c::d::v)+2=pl s v by omega];rfl
       ·rw [iM 10 rfl c4,cond_false,if_neg (by simp [c4])]
     ·rw [if_neg (by simp [c3])]
      by_cases c5:pl s (c::t)+2<=(s.length:Int)
      ·rw [al c5,av,ac z.1,ac j,iM 13 rfl c3,cond_false]
      ·rw [ai c5]
theorem um:∀ (u:List UInt8),(jL (fj u).1=true ↔ (u.dropWhile dq=[]∨([13,10]:List UInt8).isPrefixOf (u.dropWhile dq)=true))
  /\ (jL (fj u).1=true->gN u=(u.dropWhile dq).drop 2)
 | []=>⟨⟨fun _ => .inl rfl,fun _=>rfl⟩,fun _=>rfl⟩
 | c::t=>by
  by_cases e:c=13/\t.head? = some 10
  ·obtain ⟨rfl,f⟩:=e
   rw [m0 f]
   have j:(13::10::t.tail).dropWhile dq=13::10::t.tail:=by rw [List.dropWhile_cons,if_neg (by decide)]
   unfold gN
   rw [j,f']
   exact ⟨⟨fun _ => .inr (by simp),fun _=>rfl⟩,fun _=>rfl⟩
  ·unfold gN
   rw [fk e,List.dropWhile_cons]
   obtain ⟨i1,i2⟩:=um t
   unfold gN at i2
   unfold jL at i1 i2 ⊢
   rw [List.all_cons]
   cases m:dq c with
   | true=>rw [Bool.true_and,if_pos rfl];exact ⟨i1,i2⟩
   | false =>
    rw [Bool.false_and,if_neg (by decide)]
    refine ⟨⟨fun h=>(by cases h),fun h => ?_⟩,fun h=>(by cases h)⟩
    rcases h with h|h
    ·cases h
    ·rw [xB] at h;simp at h;exact absurd h e
theorem Ds (t:List UInt8):qt (fj t).1=qt t/\(qt t=true->(fj t).1.drop 2=(fj (t.drop 2)).1/\gN t=gN (t.drop 2)):=by
 cases t with
 | nil=>exact ⟨rfl,fun h=>by cases h⟩
 | cons c u =>
  by_cases c1:c=45
  ·have e:¬ (c=13/\u.head? = some 10):=by rintro ⟨rfl,_⟩;cases c1
   unfold gN
   rw [fk e]
   cases u with
   | nil=>exact ⟨rfl,fun h=>by simp [qt,List.isPrefixOf] at h⟩
   | cons d v =>
    by_cases c2:d=45
    ·have z:¬ (d=13/\v.head? = some 10):=by rintro ⟨rfl,_⟩;cases c2
     rw [fk z]
     subst c1 c2
     exact ⟨rfl,fun _=>⟨rfl,rfl⟩⟩
    ·have f:∀ x:List UInt8,qt (c::d::x)=false:=fun x=>by
      unfold qt;simp only [List.isPrefixOf];simp [Ne.symm c2]
     refine ⟨?_,fun h=>by rw [f] at h;cases h⟩
     rw [f]
     by_cases j:d=13/\v.head? = some 10
     ·obtain ⟨rfl,m⟩:=j
      rw [m0 m,f'];simp [qt,List.isPrefixOf]
     ·rw [fk j,f]
  ·have f:∀ x:List UInt8,qt (c::x)=false:=fun x=>by
    unfold qt;simp only [List.isPrefixOf];simp [Ne.symm c1]
   refine ⟨?_,fun h=>by rw [f] at h;cases h⟩
   rw [f]
   by_cases j:c=13/\u.head? = some 10
   ·obtain ⟨rfl,m⟩:=j
    rw [m0 m,f'];rfl
   ·rw [fk j,f]
def F8:Bool->Int
 | true=>2
 | false=>1
def C2 (κ : Int->Int->Option R) (s r:List UInt8):Option Bool->Option R
 | some k=>κ (F8 k) (pl s (gN r))
 | none=>κ 0 0
theorem Df (s b t:List UInt8) (κ : Int->Int->Option R) (N:e7 b=false) (f:¬ ((45::45::b).getLast? = some 13/\t.head? = some 10)) :
  (if qt t then od κ s 2 ((t.drop 2).dropWhile dq) else od κ s 1 (t.dropWhile dq))=C2 κ s (45::45::b++t) (oH b (fj (45::45::b++t)).1):=by
 have hw:e7 (45::45::b)=false:=by
  rw [e7,e7,N];rfl
 have z:=pC hw f
 have O:(fj (45::45::b++t)).1=45::45::b++(fj t).1:=by rw [z]
 have A:gN (45::45::b++t)=gN t:=by unfold gN;rw [z]
 have M:∀ (x:List UInt8),(45::45::b++x).drop (b.length+2)=x:=fun x=>by simp
 have j:∀ (x:List UInt8),(45::45::b++x).drop (b.length+2+2)=x.drop 2:=fun x=>by rw [<- List.drop_drop,M]
 have U:∀ (x:List UInt8),(45::45::b).isPrefixOf (45::45::b++x)=true:=fun x=>List.isPrefixOf_iff_prefix.2 (List.prefix_append _ _)
 have fin:∀ (u:List UInt8) (k:Bool),od κ s (F8 k) (u.dropWhile dq)=if jL (fj u).1 then κ (F8 k) (pl s (gN u)) else κ 0 0:=by
  intro u k
  obtain ⟨i1,i2⟩:=um u
  unfold od
  cases h:jL (fj u).1 with
  | true =>
   rw [if_pos rfl,i2 h]
   by_cases c1:u.dropWhile dq=[]
   ·rw [if_pos c1,c1];rfl
   ·rw [if_neg c1]
    rcases i1.1 h with m|m
    ·exact absurd m c1
    ·rw [if_pos m]
  | false =>
   have:¬ (u.dropWhile dq=[]∨([13,10]:List UInt8).isPrefixOf (u.dropWhile dq)=true):=fun x=>by rw [i1.2 x] at h;cases h
   rw [if_neg (fun x=>this (.inl x)),if_neg (fun x=>this (.inr x)),if_neg (by decide)]
 unfold oH
 rw [O,if_pos (U _),M,j]
 obtain ⟨d1,d2⟩:=Ds t
 show _=C2 κ s _ (if qt (fj t).1 then _ else _)
 rw [d1]
 cases V:qt t with
 | true =>
  obtain ⟨d3,d4⟩:=d2 V
  rw [if_pos rfl,if_pos rfl,d3]
  have:=fin (t.drop 2) true
  rw [show F8 true=(2:Int) from rfl] at this
  rw [this]
  cases jL (fj (t.drop 2)).1 with
  | true=>rw [if_pos rfl,if_pos rfl,C2,A,d4];rfl
  | false=>rfl
 | false =>
  rw [if_neg (by decide),if_neg (by decide)]
  have:=fin t false
  rw [show F8 false=(1:Int) from rfl] at this
  rw [this]
  cases jL (fj t).1 with
  | true=>rw [if_pos rfl,if_pos rfl,C2,A];rfl
  | false=>rfl
theorem De (s b t:List UInt8) (κ : Int->Int->Option R) (j:e7 b=false) (f:((45::45::b).getLast? = some 13/\t.head? = some 10)) :
  (if qt t then od κ s 2 ((t.drop 2).dropWhile dq) else od κ s 1 (t.dropWhile dq))=C2 κ s (45::45::b++t) (oH b (fj (45::45::b++t)).1):=by
 have hw:e7 (45::45::b)=false:=by
  rw [e7,e7,j];rfl
 have u:=vl hw f.1 f.2
 have:oH b (fj (45::45::b++t)).1=none:=by
  unfold oH
  rw [if_neg]
  intro h
  have:=(List.isPrefixOf_iff_prefix.1 h).length_le
  omega
 rw [this,m0 f.2,if_neg (by simp [qt,List.isPrefixOf])]
 have m:(10::t.tail).dropWhile dq=10::t.tail:=rfl
 unfold od
 rw [m,if_neg (by simp),if_neg (by simp [List.isPrefixOf])]
 rfl
theorem Im (s r b:List UInt8) (O:s.length<=1000000) (hb:b.length<=1000000) (h:r <:+ s) (U:e7 b=false) (κ : Int->Int->Option R):bK (B s) (pl s r) (B b) κ = C2 κ s r (oH b (fj r).1):=by
 have hr:=dU h
 have j:(45::45::b).isPrefixOf r=false->oH b (fj r).1=none:=fun e=>by
  unfold oH
  rw [if_neg]
  intro u
  have V:=List.isPrefixOf_iff_prefix.1 u
  have W:(fj r).1 <+: r:=by rw [<- yE r];exact List.take_prefix _ _
  rw [List.isPrefixOf_iff_prefix.2 (V.trans W)] at e;cases e
 have w1:IntKind.wrap .i64 (pl s r+2)=((pn s r+2:Nat):Int):=by rw [vz];exact wrap_i64 (by omega) (by unfold pn;omega)
 have X:IntKind.wrap .i64 (((pn s r+2:Nat):Int)+(b.length:Int))=((pn s r+2+b.length:Nat):Int):=wrap_i64 (by omega) (by unfold pn;omega)
 have Y:IntKind.wrap .i64 (((pn s r+2+b.length:Nat):Int)+2)=((pn s r+2+b.length+2:Nat):Int):=wrap_i64 (by omega) (by unfold pn;omega)
 have hp:pn s r=s.length-r.length:=rfl
 have key:∀ f,1000000<f->bK.e (B s) (pl s r) (B b) (bK.L9 κ f) κ = C2 κ s r (oH b (fj r).1):=by
  intro f hf
  unfold bK.e
  rw [iK,iK,w1,X,Y]
  by_cases c1:r.length<b.length+2
  ·rw [al (by omega),j (by
    cases u:(45::45::b).isPrefixOf r with
    | false=>rfl
    | true=>have:=(List.isPrefixOf_iff_prefix.1 u).length_le;simp only [List.length_cons] at this;omega)]
   rfl
  ·rw [ai (by omega),av,ac (by rw [vz];omega),av,ac (by rw [vz];omega),ac (by omega),vz,Int.toNat_natCast,Int.toNat_natCast,xy h]
   rw [show (⟨#[45,45]⟩:BA)=B [45,45] from rfl,decide_eq_decide.2 (eg (a:=r.take 2) (b:=[45,45]))]
   by_cases c2:r.take 2=[45,45]
   ·rw [decide_eq_true c2,Bool.not_true,cond_false,av,ac (by omega),av,ac (by omega),ac (by omega),Int.toNat_natCast]
    obtain ⟨m,rfl⟩:∃ m,r=45::45::m:=by
     refine ⟨r.drop 2,?_⟩
     have:=List.take_append_drop 2 r
     rw [c2] at this
     exact this.symm
    have z:m <:+ s:=dV (dV h)
    have p2:pn s (45::45::m)+2=pn s m:=by
     have:=tP h (k:=2) (by simp)
     exact this.symm
    rw [p2,xy z,decide_eq_decide.2 eg]
    by_cases c3:m.take b.length=b
    ·rw [decide_eq_true c3,Bool.not_true,cond_false]
     obtain ⟨t,rfl⟩:∃ t,m=b++t:=by
      refine ⟨m.drop b.length,?_⟩
      have:=List.take_append_drop b.length m
      rw [c3] at this
      exact this.symm
     have M:t <:+ s:=(List.suffix_append b t).trans z
     have p3:pn s (b++t)+b.length=pn s t:=by
      have:=tP z (k:=b.length) (by simp)
      rw [List.drop_left] at this
      exact this.symm
     have A:(if qt t then od κ s 2 ((t.drop 2).dropWhile dq) else od κ s 1 (t.dropWhile dq))=C2 κ s (45::45::(b++t)) (oH b (fj (45::45::(b++t))).1):=by
      by_cases N:(45::45::b).getLast? = some 13/\t.head? = some 10
      ·exact De s b t κ U N
      ·exact Df s b t κ U N
     rw [<- A,p3]
     have ad:=dU M
     have ae:pn s t=s.length-t.length:=rfl
     have one:bK.L9 κ f (B s) ((pn s t:Nat):Int) 1=od κ s 1 (t.dropWhile dq):=mz s O 1 κ f t M (by omega)
     by_cases c4:2<=t.length
     ·rw [al (by omega),av,ac (by omega),av,ac (by omega),ac (by omega),Int.toNat_natCast,xy M,decide_eq_decide.2 (eg (a:=t.take 2) (b:=[45,45])),one]
      have hd:qt t=decide (t.take 2=[45,45]):=by unfold qt;exact iD
      rw [hd]
      by_cases c5:t.take 2=[45,45]
      ·rw [decide_eq_true c5,cond_true,if_pos rfl,<- tP M c4]
       exact mz s O 2 κ f (t.drop 2) ((List.drop_suffix _ _).trans M) (by rw [List.length_drop];omega)
      ·rw [decide_eq_false c5,cond_false,if_neg (by decide)]
     ·rw [ai (by omega),one,if_neg]
      intro h5
      have:=(List.isPrefixOf_iff_prefix.1 h5).length_le
      simp at this;omega
    ·rw [decide_eq_false c3,Bool.not_false,cond_true,j]
     ·rfl
     ·cases u:(45::45::b).isPrefixOf (45::45::m) with
      | false=>rfl
      | true =>
       refine absurd ?_ c3
       simp only [List.isPrefixOf,BEq.rfl,Bool.true_and] at u
       have:=iD (l:=m) (p:=b)
       rw [this] at u
       exact of_decide_eq_true u
   ·rw [decide_eq_false c2,Bool.not_false,cond_true,j]
    ·rfl
    ·cases u:(45::45::b).isPrefixOf r with
     | false=>rfl
     | true =>
      refine absurd ?_ c2
      obtain ⟨x,hx⟩:=List.isPrefixOf_iff_prefix.1 u
      rw [<- hx];rfl
 exact key ag (by unfold ag;omega)
theorem vI (s:List UInt8) (z:s.length<=1000000) (κ : Int->Option R):∀ (f:Nat) (r:List UInt8),r <:+ s->r.length<f->cw.L2 κ f (B s) (pl s r)=κ (pl s (gN r))
 | 0,r,_,m=>by omega
 | f+1,r,h,m=>by
  rw [cw.L2,cw.t2,iK]
  cases r with
  | nil =>
   rw [dI,wrap_i64 (by omega) (by omega),ai (by omega)];rfl
  | cons c t =>
   have A:=eI h
   have M:=eu (s:=s) (r:=c::t)
   have j:=dV h
   have N:=ky h
   simp only [List.length_cons] at m
   rw [gg h z]
   cases t with
   | nil =>
    rw [dI,ai (by omega)]
    have:gN [c]=[]:=by
     unfold gN
     rw [fk (by simp)];rfl
    rw [this];rfl
   | cons d u =>
    have g1:=eI j
    have g2:=eu (s:=s) (r:=d::u)
    have g4:=ky j
    rw [al g1,av,ac M.1,ac A,eN h]
    have go:¬ (c=13/\d=10)->cw.L2 κ f (B s) (pl s (d::u))=κ (pl s (gN (c::d::u))):=fun e=>by
     rw [vI s z κ f (d::u) j (by simp only [List.length_cons] at m ⊢;omega)]
     have:gN (c::d::u)=gN (d::u):=by
      show (fj (c::d::u)).2.getD []=(fj (d::u)).2.getD []
      rw [fk (c:=c) (t:=d::u) (by simpa using e)]
     rw [this]
    by_cases c1:c=13
    ·rw [jo 13 rfl c1,cond_true,av,ac g2.1,ac g1,eN j]
     by_cases c2:d=10
     ·rw [jo 10 rfl c2,cond_true,wrap_i64 (by omega) (by omega)]
      subst c1 c2
      have:gN (13::10::u)=u:=by unfold gN;rw [f'];rfl
      rw [this]
      congr 1;omega
     ·rw [iM 10 rfl c2,cond_false]
      exact go (fun e=>c2 e.2)
    ·rw [iM 13 rfl c1,cond_false]
     exact go (fun e=>c1 e.1)
theorem Io (s r:List UInt8) (j:s.length<=1000000) (h:r <:+ s) (κ : Int->Option R):cw (B s) (pl s r) κ = κ (pl s (gN r)):=by
 have:=dU h
 have key:∀ f,1000000<f->cw.e (B s) (pl s r) (cw.L2 κ f) κ = κ (pl s (gN r)):=fun f m=>vI s j κ f r h (by omega)
 exact key ag (by unfold ag;omega)
theorem vJ (s:List UInt8) (z:s.length<=1000000) (κ : Bool->Option R):∀ (f:Nat) (r:List UInt8),r <:+ s->r.length<f->cq.L2 κ f (B s) (pl s r)=κ (e7 r)
 | 0,r,_,j=>by omega
 | f+1,r,h,j=>by
  rw [cq.L2,cq.t2,iK]
  cases r with
  | nil =>
   rw [dI,wrap_i64 (by omega) (by omega),ai (by omega)];rfl
  | cons c t =>
   have A:=eI h
   have M:=eu (s:=s) (r:=c::t)
   have m:=dV h
   simp only [List.length_cons] at j
   rw [gg h z]
   cases t with
   | nil =>
    rw [dI,ai (by omega)]
    have:e7 [c]=false:=by simp [e7]
    rw [this]
   | cons d u =>
    have g1:=eI m
    have g2:=eu (s:=s) (r:=d::u)
    rw [al g1,av,ac M.1,ac A,eN h]
    have go:¬ (c=13/\d=10)->cq.L2 κ f (B s) (pl s (d::u))=κ (e7 (c::d::u)):=fun e=>by
     rw [vJ s z κ f (d::u) m (by simp only [List.length_cons] at j ⊢;omega)]
     have:e7 (c::d::u)=e7 (d::u):=by
      rw [e7.eq_def (c::d::u)]
      have:(c == 13&&(d::u).head? == some 10)=false:=by
       rw [Bool.and_eq_false_iff]
       by_cases c1:c=13
       ·right;simp;exact fun x=>e ⟨c1,x⟩
       ·left;simpa using c1
      simp only [this,Bool.false_or]
     rw [this]
    by_cases c1:c=13
    ·rw [jo 13 rfl c1,cond_true,av,ac g2.1,ac g1,eN m]
     by_cases c2:d=10
     ·rw [jo 10 rfl c2,cond_true]
      subst c1 c2
      rfl
     ·rw [iM 10 rfl c2,cond_false]
      exact go (fun e=>c2 e.2)
    ·rw [iM 13 rfl c1,cond_false]
     exact go (fun e=>c1 e.1)
theorem Ip (s:List UInt8) (j:s.length<=1000000) (κ : Bool->Option R):cq (B s) κ = κ (e7 s):=by
 have key:∀ f,1000000<f->cq.e (B s) (cq.L2 κ f) κ = κ (e7 s):=fun f m=>by
  have:=vJ s j κ f s (List.suffix_refl _) (by omega)
  rw [kb] at this
  exact this
 exact key ag (by unfold ag;omega)
theorem yH (x y:Int):max2 x y=max x y:=by
 unfold max2
 by_cases h:x<y
 ·rw [al h];omega
 ·rw [ai h];omega
theorem tI (x y:Int):min2 x y=min x y:=by
 unfold min2
 by_cases h:y<x
 ·rw [al h];omega
 ·rw [ai h];omega
def fJ (F:Nat) (p:Nat × Nat):AV := .agg [.int ((F+p.1:Nat):Int),.int ((F+p.2:Nat):Int)]
def BG (F:Nat):Option Nat->Int
 | none => -1
 | some k=>((F+k:Nat):Int)
def o6 (f:Option Nat) (e:Nat):List (Nat × Nat) :=
 match f with
 | none=>[]
 | some k=>[(k,e)]
def ol (b s:List UInt8) (f:Option Nat):List UInt8->List (Nat × Nat)
 | []=>o6 f s.length
 | c::t=>match oH b (fj (c::t)).1 with
  | some last=>o6 (f) (max (f.getD 0) (pn s (c::t)-2))++(if last then [] else ol b s (some (pn s (gN (c::t)))) (gN (c::t)))
  | none=>ol b s f (gN (c::t))
termination_by r=>r.length
decreasing_by
 all_goals simp_wf
 all_goals have:=pD c t
 all_goals omega
theorem iE (b s:List UInt8) (f:Option Nat):ol b s f []=o6 f s.length:=by rw [ol]
theorem yi (f:Option Nat) (e:Nat):(o6 f e).length<=1:=by unfold o6;cases f <;> simp
theorem tj (F:Nat) (f:Option Nat):decide (BG F f>=0)=f.isSome:=by
 cases f with
 | none=>rfl
 | some k=>exact decide_eq_true (by show (0:Int)<=((F+k:Nat):Int);omega)
theorem tQ (b s:List UInt8) (A:s.length<=1000000):∀ (n:Nat) (f:Option Nat) (r:List UInt8),r.length<=n->r <:+ s->(∀ k,f=some k->k<=s.length)->∀ p∈ol b s f r,p.1<=p.2/\p.2<=s.length
 | n,f,[],_,_,z,p,j=>by
  rw [iE] at j
  cases f with
  | none=>cases j
  | some k =>
   simp only [o6,List.mem_singleton] at j
   subst j
   exact ⟨z k rfl,Nat.le_refl _⟩
 | 0,_,c::t,h,_,_,_,_=>by simp at h
 | n+1,f,c::t,h,M,z,p,j=>by
  have N:=pD c t
  have u:=(pE (c::t)).trans M
  have hlen:=dU M
  simp only [List.length_cons] at h hlen
  rw [ol] at j
  cases e:oH b (fj (c::t)).1 with
  | none =>
   rw [e] at j
   exact tQ b s A n f _ (by omega) u z p j
  | some last =>
   rw [e] at j
   rcases List.mem_append.1 j with m|m
   ·cases f with
    | none=>cases m
    | some k =>
     simp only [o6,List.mem_singleton] at m
     subst m
     have:=z k rfl
     simp only [Option.getD_some]
     unfold pn
     exact ⟨by omega,by simp only [List.length_cons];omega⟩
   ·cases last with
    | true=>cases m
    | false =>
     refine tQ b s A n _ _ (by omega) u (fun k e => ?_) p m
     cases e;unfold pn;omega
theorem mA (b s:List UInt8) (u:s.length<=1000000) (N:b.length<=1000000) (O:e7 b=false) (κ : LA->Option R):∀ (f:Nat) (r:List UInt8) (j:Option Nat) (acc:LA),r <:+ s->r.length<f->acc.length+r.length<=1000000->(∀ k,j=some k->k<=s.length) ->
  cJ.L4 bK cw κ f (B s) (B b) (BG 0 j) (pl s r) acc=κ (acc++(ol b s j r).map (fJ 0))
 | 0,r,j,acc,_,W,_,_=>by omega
 | f+1,r,j,acc,z,W,Y,X=>by
  rw [cJ.L4,cJ.t4,iK,tj]
  cases r with
  | nil =>
   rw [dI,ai (by omega),iE]
   cases j with
   | none=>simp [o6]
   | some k =>
    rw [Option.isSome_some,cond_true,ac (by omega)]
    show κ (acc++[AV.agg [AV.int ((0+k:Nat):Int),AV.int (s.length:Int)]])=κ (acc++[fJ 0 (k,s.length)])
    unfold fJ
    rw [Nat.zero_add,Nat.zero_add]
  | cons c t =>
   have h1:=eI z
   have hl:=pD c t
   have m:=(pE (c::t)).trans z
   have hlen:=dU z
   simp only [List.length_cons] at W Y hlen
   rw [al h1,Im s (c::t) b u N z O,ol]
   cases e:oH b (fj (c::t)).1 with
   | none =>
    rw [C2,ai (by omega),Io s (c::t) u z]
    exact mA b s u N O κ f _ j acc m (by omega) (by omega) X
   | some last =>
    rw [C2]
    have U:(F8 last)>(0:Int):=by cases last <;> decide
    rw [al U]
    have A:∀ k,some (pn s (gN (c::t)))=some k->k<=s.length:=fun k e=>by cases e;unfold pn;omega
    have M:pl s (gN (c::t))=BG 0 (some (pn s (gN (c::t)))):=by
     show ((pn s (gN (c::t)):Nat):Int)=((0+pn s (gN (c::t)):Nat):Int)
     rw [Nat.zero_add]
    cases j with
    | none =>
     rw [Option.isSome_none,cond_false]
     cases last with
     | true=>rw [fS (by rfl),cond_true];simp [o6]
     | false =>
      rw [fR (by decide),cond_false]
      have:=mA b s u N O κ f _ (some (pn s (gN (c::t)))) acc m (by omega) (by omega) A
      rw [<- M] at this
      rw [this];simp [o6]
    | some k =>
     have V:AV.agg [AV.int (BG 0 (some k)),AV.int (max2 (BG 0 (some k)) (IntKind.wrap .i64 (pl s (c::t)-2)))]=fJ 0 (k,max ((some k).getD 0) (pn s (c::t)-2)):=by
      have ad:=X k rfl
      rw [vz,wrap_i64 (by omega) (by unfold pn;omega)]
      unfold fJ
      show AV.agg [AV.int ((0+k:Nat):Int),AV.int (max2 ((0+k:Nat):Int) _)]=AV.agg [AV.int ((0+k:Nat):Int),AV.int ((0+max k (pn s (c::t)-2):Nat):Int)]
      congr 3
      rw [yH]
      congr 1
      omega
     rw [Option.isSome_some,cond_true,ac (by omega),V]
     cases last with
     | true=>rw [fS (by rfl),cond_true];simp [o6]
     | false =>
      rw [fR (by decide),cond_false]
      have:=mA b s u N O κ f _ (some (pn s (gN (c::t)))) (acc++[fJ 0 (k,max ((some k).getD 0) (pn s (c::t)-2))]) m (by omega) (by simp only [List.length_append,List.length_cons,List.length_nil];omega) A
      rw [<- M] at this
      rw [this];simp [o6]
theorem Is (b s:List UInt8) (u:s.length<=900000) (j:b.length<=1000000) (m:e7 b=false) (κ : LA->Option R):cJ (B s) (B b) κ = κ ((ol b s none s).map (fJ 0)):=by
 have key:∀ f,1000000<f->cJ.e bK cw (B s) (B b) (cJ.L4 bK cw κ f) κ = κ ((ol b s none s).map (fJ 0)):=fun f z=>by
  have:=mA b s (by omega) j m κ f s none [] (List.suffix_refl _) (by omega) (by simp;omega) (fun k e=>by cases e)
  rw [kb] at this
  exact this
 exact key ag (by unfold ag;omega)
theorem vO {w s r:List UInt8} {F:Nat} (hw:(w.take (F+s.length)).drop F=s) (h:r <:+ s) (m:F+s.length<=w.length) (k:Nat) (f:k<=r.length):(B w).extract (F+pn s r) (F+pn s r+k)=B (r.take k):=by
 have u:=dU h
 have e:s.drop (pn s r)=r:=qj h
 rw [df]
 congr 1
 have j:w.drop F=s++w.drop (F+s.length):=by
  have:w.drop F=(w.take (F+s.length)).drop F++w.drop (F+s.length):=by
   conv=>lhs;rw [<- List.take_append_drop (F+s.length) w]
   rw [List.drop_append_of_le_length (by rw [List.length_take];omega)]
  rw [this,hw]
 rw [List.drop_take,<- List.drop_drop,j,List.drop_append_of_le_length (by unfold pn;omega),e,show F+pn s r+k-(F+pn s r)=k by omega,List.take_append_of_le_length f]
theorem rH (b s w:List UInt8) (F:Nat) (hw:(w.take (F+s.length)).drop F=s) (hF:F+s.length<=w.length) (ad:w.length<=900000) (hb:b.length<=1000000) (a1 a2:Int) (κ : LA->BA->Int->Option R):∀ (f:Nat) (r:List UInt8) (j:Option Nat) (acc:LA),r <:+ s->r.length+1<f->acc.length+r.length<=1000000->(∀ k,j=some k->k<=s.length) ->
  bA.L4 aL cQ κ f (B b) (BG F j) ((F+pn s r:Nat):Int) (B w) a1 a2 ((F+s.length:Nat):Int) acc=κ (acc++(ol b s j r).map (fJ F)) (B w) a1
 | 0,r,j,acc,_,hf,_,_=>by omega
 | f+1,r,j,acc,hr,hf,ha,hk=>by
  have hlen:=dU hr
  have a8:pn s r+r.length=s.length:=by unfold pn;omega
  have ae:=DR r
  have stop:∀ (g:Nat) (j:Option Nat) (acc:LA),acc.length<=1000000->bA.L4 aL cQ κ (g+1) (B b) (BG F j) ((F+s.length+1:Nat):Int) (B w) a1 a2 ((F+s.length:Nat):Int) acc=κ (acc++(o6 j s.length).map (fJ F)) (B w) a1:=by
   intro g j acc ha
   rw [bA.L4,bA.t4,ai (by omega),tj]
   cases j with
   | none=>rw [Option.isSome_none,cond_false];simp [o6]
   | some k=>rw [Option.isSome_some,cond_true,ac (by omega)];rfl
  have M:gN r <:+ s:=(pE r).trans hr
  have ap:(gN r).length<=s.length:=dU M
  have N:∀ k,some (pn s (gN r))=some k->k<=s.length:=fun k e=>by cases e;unfold pn;omega
  have sub:∀ p:Nat,p<=s.length->IntKind.wrap .i64 (((F+p:Nat):Int)-2)=((F+p:Nat):Int)-2:=fun p hp=>wrap_i64 (by omega) (by omega)
  have W:∀ k,k<=s.length->AV.agg [AV.int (BG F (some k)),AV.int (max2 (BG F (some k)) (((F+pn s r:Nat):Int)-2))]=fJ F (k,max ((some k).getD 0) (pn s r-2)):=fun k hk=>by
   unfold fJ
   show AV.agg [AV.int ((F+k:Nat):Int),AV.int (max2 ((F+k:Nat):Int) _)]=AV.agg [AV.int ((F+k:Nat):Int),AV.int ((F+max k (pn s r-2):Nat):Int)]
   congr 3
   rw [yH]
   congr 1
   omega
  rw [bA.L4,bA.t4,al (by omega),iK,av,ac (by omega),av,ac (by omega),ac (by omega),Int.toNat_natCast,Int.toNat_natCast,sub _ (by omega)]
  have hx:=vO hw hr hF r.length (Nat.le_refl _)
  rw [List.take_length,show F+pn s r+r.length=F+s.length by omega] at hx
  rw [hx,show (⟨#[13,10]⟩:BA)=B [13,10] from rfl,pr r _ (by omega),m9,tj]
  have m:=Ih (R:=R) b (fj r).1 hb (by omega)
  have ar:(if h:r=[] then True else True):=by split <;> trivial
  have run:∀ (X:Option Bool),oH b (fj r).1=X->r≠[]->ol b s j r=match X with
    | some last=>o6 (j) (max (j.getD 0) (pn s r-2))++(if last then [] else ol b s (some (pn s (gN r))) (gN r))
    | none=>ol b s j (gN r):=by
   intro X hX z
   cases r with
   | nil=>exact absurd rfl z
   | cons c t=>rw [ol,hX]
  cases V:(fj r).2 with
  | some u =>
   have ax:=jY V
   have bb:(fj r).1.length+2+u.length=r.length:=by
    have:=congrArg List.length ax
    simp only [List.length_append,List.length_cons] at this;omega
   have A:gN r=u:=by unfold gN;rw [V];rfl
   have z:r≠[]:=fun e=>by rw [e] at V;cases V
   have a6:F+pn s r+(fj r).1.length+2=F+pn s u:=by
    rw [A] at ap;unfold pn;omega
   have a7:pn s u<=s.length:=by unfold pn;omega
   have w1:IntKind.wrap .i64 (((F+pn s r:Nat):Int)+((fj r).1.length:Int))=((F+pn s r+(fj r).1.length:Nat):Int):=wrap_i64 (by omega) (by omega)
   have w2:IntKind.wrap .i64 (((F+pn s r+(fj r).1.length:Nat):Int)+2)=((F+pn s u:Nat):Int):=by rw [<- a6];exact wrap_i64 (by omega) (by omega)
   have hm:min2 ((F+pn s u:Nat):Int) ((F+s.length:Nat):Int)=BG F (some (pn s u)):=by
    show _=((F+pn s u:Nat):Int)
    rw [tI];omega
   have Y:=vO hw hr hF (fj r).1.length ae
   rw [yE] at Y
   simp only
   rw [al (by omega),w1,w2,hm,av,ac (by omega),av,ac (by omega),ac (by omega),Int.toNat_natCast,Y]
   rw [A] at run M N
   have IH:=fun (j:Option Nat) (acc:LA) (h1:acc.length+u.length<=1000000) (h2:∀ k,j=some k->k<=s.length)=>rH b s w F hw hF ad hb a1 a2 κ f u j acc M (by omega) h1 h2
   cases e:oH b (fj r).1 with
   | none =>
    rw [e] at m
    obtain ⟨q,hq⟩:=m
    rw [hq,cond_false,run none e z]
    exact IH j acc (by omega) hk
   | some last =>
    rw [e] at m
    replace m:∀ κ : Bool->Bool->Option R,cQ (B (fj r).1) (B b) κ = κ true last:=m
    rw [m,cond_true,run (some last) e z]
    cases j with
    | none =>
     rw [Option.isSome_none,cond_false]
     cases last with
     | true=>rw [cond_true];simp [o6]
     | false=>rw [cond_false,IH _ acc (by omega) N];simp [o6]
    | some k =>
     rw [Option.isSome_some,cond_true,ac (by omega),W k (hk k rfl)]
     cases last with
     | true=>rw [cond_true];simp [o6]
     | false=>rw [cond_false,IH _ _ (by simp only [List.length_append,List.length_cons,List.length_nil];omega) N];simp [o6]
  | none =>
   have O:=mi V
   have A:gN r=[]:=by unfold gN;rw [V];rfl
   have w1:IntKind.wrap .i64 (((F+s.length:Nat):Int)+1)=((F+s.length+1:Nat):Int):=wrap_i64 (by omega) (by omega)
   have U:pn s []=s.length:=rfl
   have hm:min2 ((F+s.length+1:Nat):Int) ((F+s.length:Nat):Int)=BG F (some (pn s [])):=by
    rw [U]
    show _=((F+s.length:Nat):Int)
    rw [tI];omega
   simp only
   rw [ai (by omega),w1,hm,av,ac (by omega),av,ac (by omega),ac (by omega)]
   rw [<- O] at m
   obtain ⟨g,rfl⟩:∃ g,f=g+1:=⟨f-1,by omega⟩
   by_cases z:r=[]
   ·subst z
    have e:oH b []=none:=by
     unfold oH
     rw [if_neg (by simp [List.isPrefixOf])]
    rw [e] at m
    obtain ⟨q,hq⟩:=m
    rw [hq,cond_false,iE]
    exact stop g j acc (by omega)
   ·rw [A] at run
    cases e:oH b r with
    | none =>
     rw [e] at m
     obtain ⟨q,hq⟩:=m
     rw [hq,cond_false,run none (by rw [<- O];exact e) z]
     show _=κ (acc++(ol b s j []).map (fJ F)) _ _
     rw [iE]
     exact stop g j acc (by omega)
    | some last =>
     rw [e] at m
     replace m:∀ κ : Bool->Bool->Option R,cQ (B r) (B b) κ = κ true last:=m
     rw [m,cond_true,run (some last) (by rw [<- O];exact e) z]
     cases j with
     | none =>
      rw [Option.isSome_none,cond_false]
      cases last with
      | true=>rw [cond_true];simp [o6]
      | false=>rw [cond_false,stop g _ acc (by omega),U];simp [o6,iE]
     | some k =>
      rw [Option.isSome_some,cond_true,ac (by omega),W k (hk k rfl)]
      cases last with
      | true=>rw [cond_true];simp [o6]
      | false =>
       have be:1<=r.length:=by
        cases r with
        | nil=>exact absurd rfl z
        | cons c t=>simp
       rw [cond_false,stop g _ _ (by simp only [List.length_append,List.length_cons,List.length_nil];omega),U];simp [o6,iE]
theorem Hv (b s w:List UInt8) (F:Nat) (hw:(w.take (F+s.length)).drop F=s) (m:F+s.length<=w.length) (j:w.length<=900000) (u:b.length<=1000000) (a1:Int) (κ : LA->BA->Int->Option R) :
  bA (B w) a1 (F:Int) ((F+s.length:Nat):Int) (B b) κ = κ ((ol b s none s).map (fJ F)) (B w) a1:=by
 have key:∀ f,1000001<f->bA.e aL cQ (B w) a1 (F:Int) ((F+s.length:Nat):Int) (B b) (bA.L4 aL cQ κ f) κ = κ ((ol b s none s).map (fJ F)) (B w) a1:=fun f z=>by
  have:=rH b s w F hw m j u a1 (F:Int) κ f s none [] (List.suffix_refl _) (by omega) (by simp;omega) (fun k e=>by cases e)
  rw [show F+pn s s=F by unfold pn;omega] at this
  exact this
 exact key ag (by unfold ag;omega)
def kG (s:List UInt8):List UInt8:=bl (ig (B s)).1
theorem DE (s:List UInt8):∃ n,kG s=s.take n:=by
 unfold kG ig
 rw [lC]
 cases og true s with
 | some n=>exact ⟨n,rfl⟩
 | none=>exact ⟨s.length,by rw [List.take_length];rfl⟩
theorem tx (s:List UInt8):(kG s).length<=s.length:=by
 obtain ⟨n,h⟩:=DE s
 rw [h,List.length_take];omega
theorem mW {h:List UInt8} {n:BA}:gI h n=false->gV h n=[]:=DC
theorem Et {w s:List UInt8} {F:Nat} (hw:(w.take (F+s.length)).drop F=s) (M:F+s.length<=w.length) (A:w.length<=200000) (a1:Int) (z:Bool) (κ : BA->BA->BA->LA->Bool->BA->Bool->BA->Bool->BA->Bool->BA->LA->LA->Bool->BA->Int->Int->Int->Int->Int->BA->Int->Option R) :
  aD (B w) a1 (F:Int) ((F+s.length:Nat):Int) z κ = oa (fun a b c d e f g h i j k l m n o p q r s t u=>κ a b c d e f g h i j k l m n o p q r s t u (B w) a1) (B []) (zS (kG s) z) (F:Int) ((F+(kG s).length:Nat):Int) ((F+(kG s).length:Nat):Int) ((F+s.length:Nat):Int) 0:=by
 have N:=tx s
 unfold aD aD.e
 rw [av,ac (by omega),av,ac (by omega),ac (by rw [iK];omega),Int.toNat_natCast,Int.toNat_natCast,df,hw,Aa (B s) (by rw [lC];omega)]
 have e:(ig (B s)).1=B (kG s):=(iL _).symm
 have w1:IntKind.wrap .i64 ((F:Int)+((kG s).length:Int))=((F+(kG s).length:Nat):Int):=wrap_i64 (by omega) (by omega)
 rw [e,xf (kG s) (by omega),iK,w1]
 exact GF (by omega) _ _ _ _ _ _ _ _ _ _ _ _ _ _ _ _ _ _ _ _
theorem Cu {w s:List UInt8} {F:Nat} (hw:(w.take (F+s.length)).drop F=s) (M:F+s.length<=w.length) (A:w.length<=200000) (p:BA) (z:Bool) (κ : Ge R) :
  aY (B w) (F:Int) ((F+s.length:Nat):Int) p z κ = oa κ p (zS (kG s) z) (F:Int) ((F+(kG s).length:Nat):Int) ((F+(kG s).length:Nat):Int) ((F+s.length:Nat):Int) 0:=by
 have N:=tx s
 have j:(kG s).length<=200000:=by omega
 have key:∀ f,aY.e cG ch dw dj dp cR bj cA (B w) (F:Int) ((F+s.length:Nat):Int) p z (aY.L6 cG ch dw dj dp cR bj cA κ (f+1+1)) (aY.Eg cG ch dw dj dp cR bj cA κ (f+1+1)) κ = oa κ p (zS (kG s) z) (F:Int) ((F+(kG s).length:Nat):Int) ((F+(kG s).length:Nat):Int) ((F+s.length:Nat):Int) 0:=by
  intro f
  unfold aY.e
  rw [av,ac (by omega),av,ac (by omega),ac (by rw [iK];omega),Int.toNat_natCast,Int.toNat_natCast,df,hw,tV (B s) (by rw [lC];omega)]
  have e:(ig (B s)).1=B (kG s):=(iL _).symm
  have w1:IntKind.wrap .i64 ((F:Int)+((kG s).length:Int))=((F+(kG s).length:Nat):Int):=wrap_i64 (by omega) (by omega)
  rw [e,xD (kG s) (by omega),iK,w1]
  show dw (nC (kG s)) _ _=_
  rw [jf j (by decide)]
  have hlen:=fun n=>mX (h:=kG s) j n
  have O:=hlen (⟨#[67,111,110,116,101,110,116,45,84,121,112,101]⟩:BA)
  have U:=hlen (⟨#[67,111,110,116,101,110,116,45,73,100]⟩:BA)
  have V:=hlen (⟨#[67,111,110,116,101,110,116,45,68,101,115,99,114,105,112,116,105,111,110]⟩:BA)
  have W:=hlen (⟨#[67,111,110,116,101,110,116,45,76,111,99,97,116,105,111,110]⟩:BA)
  have X:=hlen (⟨#[67,111,110,116,101,110,116,45,84,114,97,110,115,102,101,114,45,69,110,99,111,100,105,110,103]⟩:BA)
  have Y:=hlen (⟨#[67,111,110,116,101,110,116,45,68,105,115,112,111,115,105,116,105,111,110]⟩:BA)
  have l7:=hlen (⟨#[67,111,110,116,101,110,116,45,76,97,110,103,117,97,103,101]⟩:BA)
  rw [GP _ (by omega) _ _ mW _ _ (fun _ _=>rfl)]
  rw [aY.L6,aY.t6]
  rw [show (kG s |> gm).map iv=nC (kG s) from rfl]
  rw [jf j (by decide),xC _ (by omega) _ mW,jf j (by decide),xC _ (by omega) _ mW,jf j (by decide),xC _ (by omega) _ mW,jf j (by decide),pR _ (by omega) _ mW]
  by_cases u:iU (gV (kG s) (⟨#[67,111,110,116,101,110,116,45,84,114,97,110,115,102,101,114,45,69,110,99,111,100,105,110,103]⟩:BA))=[] <;> by_cases m:iU (gV (kG s) (⟨#[67,111,110,116,101,110,116,45,68,105,115,112,111,115,105,116,105,111,110]⟩:BA))=[]
  ·rw [if_pos u,jf j (by decide),pR _ (by omega) _ mW,if_pos m,cond_false,jf j (by decide),G9 _ (by omega) _ mW,aY.Eg,aY.t16]
   unfold oa zS dm
   simp only [u,m,decide_true,Bool.not_true,Bool.not_false,if_true]
   rfl
  ·rw [if_pos u,jf j (by decide),pR _ (by omega) _ mW,if_neg m,cond_true,FJ _ _ (by omega) (wP _),jf j (by decide),G9 _ (by omega) _ mW,aY.Eg,aY.t16]
   unfold oa zS dm
   simp only [u,decide_eq_false m,if_neg m,decide_true,Bool.not_true,Bool.not_false]
  ·rw [if_neg u,jf j (by decide),pR _ (by omega) _ mW,if_pos m,cond_false,jf j (by decide),G9 _ (by omega) _ mW,aY.Eg,aY.t16]
   unfold oa zS dm
   simp only [decide_eq_false u,m,decide_true,Bool.not_true,Bool.not_false,if_true]
   rfl
  ·rw [if_neg u,jf j (by decide),pR _ (by omega) _ mW,if_neg m,cond_true,FJ _ _ (by omega) (wP _),jf j (by decide),G9 _ (by omega) _ mW,aY.Eg,aY.t16]
   unfold oa zS dm
   simp only [decide_eq_false u,decide_eq_false m,if_neg m,decide_true,Bool.not_true,Bool.not_false]
 exact key (ag-2)
structure LV where
 p:List UInt8
 v:HdV
 a:Nat
 b:Nat
 c:Nat
 d:Nat
 e:Nat
def dG (x:LV):Bool:=decide (x.v.ty=gG)&&decide (x.v.sub=ml)
def qB:List UInt8:=[109,117,108,116,105,112,97,114,116]
def sY:List UInt8:=[98,111,117,110,100,97,114,121]
def gl:List Pm->List UInt8
 | []=>[]
 | p::r=>if p.1=sY then p.2 else gl r
def dF (w:List UInt8) (x:LV):List UInt8:=(w.take x.d).drop x.c
def Bo (x:LV):Bool := !dm x.v.c1||decide (x.v.c1=[55,98,105,116])||decide (x.v.c1=[56,98,105,116])||decide (x.v.c1=[98,105,110,97,114,121])
def fV (w:List UInt8) (x:LV):List (Nat × Nat) :=
 if dG x then (if Bo x then [(x.c,x.d)] else [])
 else if x.v.ty=qB/\1<=(gl x.v.ps).length/\(gl x.v.ps).length<=70 then (ol (gl x.v.ps) (dF w x) none (dF w x)).map fun p=>(x.c+p.1,x.c+p.2)
 else []
theorem mw (b s:List UInt8):∀ (n:Nat) (f:Option Nat) (r:List UInt8),r.length<=n->(ol b s f r).length<=r.length+1
 | n,f,[],_=>by rw [iE];have:=yi f s.length;simp;omega
 | 0,_,c::t,h=>by simp at h
 | n+1,f,c::t,h=>by
  have j:=pD c t
  simp only [List.length_cons] at h ⊢
  rw [ol]
  cases oH b (fj (c::t)).1 with
  | none =>
   have:=mw b s n f (gN (c::t)) (by omega)
   simp only;omega
  | some last =>
   have m:=yi f (max (f.getD 0) (pn s (c::t)-2))
   have:=mw b s n (some (pn s (gN (c::t)))) (gN (c::t)) (by omega)
   simp only [List.length_append]
   cases last with
   | true=>simp;omega
   | false=>simp;omega
theorem A3 {b l:List UInt8} (f:e7 b=true) (j:e7 l=false):oH b l=none:=by
 unfold oH
 rw [if_neg]
 intro h
 obtain ⟨x,rfl⟩:=List.isPrefixOf_iff_prefix.1 h
 have:=(uT j).1
 rw [e7,e7,f] at this
 simp at this
theorem vC (b s:List UInt8) (f:e7 b=true):∀ (n:Nat) (r:List UInt8),r.length<=n->ol b s none r=[]
 | n,[],_=>by rw [iE];rfl
 | 0,c::t,h=>by simp at h
 | n+1,c::t,h=>by
  have j:=pD c t
  simp only [List.length_cons] at h
  rw [ol,A3 f (uU _)]
  exact vC b s f n _ (by omega)
theorem sj (l:List Pm) (z:l.length<=1000000) (κ : BA->Option R):∀ (f i:Nat),i<=l.length->l.length<i+f->cS.L2 κ f (l.map bn) (B sY) (i:Int)=κ (B (gl (l.drop i)))
 | 0,i,A,M=>by omega
 | f+1,i,A,M=>by
  have j:(l.map bn).length=l.length:=List.length_map ..
  rw [cS.L2,cS.t2,dX,j]
  have m:IntKind.wrap .i64 ((i:Int)+1)=((i+1:Nat):Int):=wrap_i64 (by omega) (by omega)
  cases u:l.drop i with
  | nil=>have:=drop_nil u;rw [ai (by omega)];rfl
  | cons a r =>
   obtain ⟨g1,g2,g3⟩:=cP u
   have N:bf (l.map bn) (i:Int)=bn a:=eh (by rw [List.getElem?_map,g1];rfl)
   have O:((bn a).fld 0).s=B a.1:=rfl
   have U:((bn a).fld 1).s=B a.2:=rfl
   rw [al (by omega),av,ac (by omega),ac (by omega),N,O,U,decide_eq_decide.2 (eg (a:=a.1) (b:=sY)),m,sj l z κ f (i+1) (by omega) (by omega),g3,gl]
   by_cases e:a.1=sY
   ·rw [decide_eq_true e,cond_true,if_pos e,av,ac (by omega),ac (by omega)]
   ·rw [decide_eq_false e,cond_false,if_neg e]
theorem HK (l:List Pm) (j:l.length<=1000000) (κ : BA->Option R):cS (l.map bn) (⟨#[98,111,117,110,100,97,114,121]⟩:BA) κ = κ (B (gl l)):=by
 have key:∀ f,l.length<f->cS.e (l.map bn) (B sY) (cS.L2 κ f) κ = κ (B (gl l)):=fun f h=>sj l j κ f 0 (by omega) (by omega)
 exact key ag (by unfold ag;omega)
theorem vK (F:Nat) (hF:F<=1000000) (y0:BA) (y1:BA) (y2:BA) (y3:LA) (y4:Bool) (y5:BA) (y6:Bool) (y7:BA) (y8:Bool) (y9:BA) (m:Bool) (u:BA) (A:LA) (M:LA) (N:Bool) (O:BA) (U:Int) (V:Int) (W:Int) (X:Int) (Y:Option R) (j:LA->Option R):∀ (f:Nat) (d r:List (Nat × Nat)),r.length<f->d.length+r.length<=1000000->(∀ p∈r,p.1<=1000000/\p.2<=1000000) ->
  aS.sN cS cq cJ Y j f (d.length:Int) y0 y1 y2 y3 y4 y5 y6 y7 y8 y9 m u A M N O U V (F:Int) W X (d.map (fJ F)++r.map (fJ 0))=j ((d++r).map (fJ F))
 | 0,d,r,hf,_,_=>by omega
 | f+1,d,[],hf,h1,h2=>by
  rw [aS.sN,aS.t11]
  have:(d.map (fJ F)++([]:List (Nat × Nat)).map (fJ 0)).length=d.length:=by simp
  rw [this,ai (by omega)]
  simp
 | f+1,d,q::r,hf,h1,h2=>by
  simp only [List.length_cons] at hf h1
  have hq:=h2 q (by simp)
  have hn:(d.map (fJ F)).length=d.length:=by simp
  have ad:IntKind.wrap .i64 ((d.length:Int)+1)=(((d++[q]).length:Nat):Int):=by
   rw [List.length_append];exact wrap_i64 (by omega) (by omega)
  have f0:((fJ 0 q).fld 0).i=(q.1:Int):=by show ((0+q.1:Nat):Int)=_;rw [Nat.zero_add]
  have f1:((fJ 0 q).fld 1).i=(q.2:Int):=by show ((0+q.2:Nat):Int)=_;rw [Nat.zero_add]
  have s0:IntKind.wrap .i64 ((q.1:Int)+(F:Int))=((F+q.1:Nat):Int):=by rw [wrap_i64 (by omega) (by omega)];omega
  have s1:IntKind.wrap .i64 ((q.2:Int)+(F:Int))=((F+q.2:Nat):Int):=by rw [wrap_i64 (by omega) (by omega)];omega
  have g0:((AV.agg [AV.int ((F+q.1:Nat):Int),AV.int (q.2:Int)]).fld 0).i=((F+q.1:Nat):Int):=rfl
  have g1:((AV.agg [AV.int ((F+q.1:Nat):Int),AV.int (q.2:Int)]).fld 1).i=(q.2:Int):=rfl
  rw [aS.sN,aS.t11,List.map_cons,tT _ _ _ _ hn,f0,f1,s0,iF _ _ _ _ _ hn,tT _ _ _ _ hn,g0,g1,s1,iF _ _ _ _ _ hn]
  have len:∀ z:AV,((d.map (fJ F)++z::r.map (fJ 0)).length:Int)=((d.length+(r.length+1):Nat):Int):=fun z=>by simp
  rw [len,len,al (by omega),av,ac (by omega),ac (by omega),av,ac (by omega),ac (by omega),av,ac (by omega),ac (by omega),av,ac (by omega),ac (by omega),ad]
  have IH:=vK F hF y0 y1 y2 y3 y4 y5 y6 y7 y8 y9 m u A M N O U V W X Y j f (d++[q]) r (by omega) (by simp;omega) (fun p hp=>h2 p (by simp [hp]))
  rw [List.append_assoc,List.singleton_append] at IH
  rw [<- IH,List.map_append,List.append_assoc]
  rfl
theorem Ir {w:List UInt8} {x:LV} (ad:x.c<=x.d) (hd:x.d<=w.length) (hw:w.length<=200000) (W:x.v.ps.length<=1000000) (j:Option R) (m:LA->Option R) (z:j=m []) :
  aS (B w) (B x.p) (B x.v.ty) (B x.v.sub) (x.v.ps.map bn) x.v.i0 (B x.v.i1) x.v.a0 (B x.v.a1) (dm x.v.c1) (B x.v.c1) (dm x.v.p1) (B x.v.p1) (x.v.pp.map bn) (bw x.v.lg) x.v.w0 (B x.v.w1) (x.a:Int) (x.b:Int) (x.c:Int) (x.d:Int) (x.e:Int) j m=m ((fV w x).map (fJ 0)):=by
 have ae:(dF w x).length=x.d-x.c:=by unfold dF;rw [List.length_drop,List.length_take];omega
 have hm:∀ a b:List UInt8,decide (B a=B b)=decide (a=b):=fun a b=>decide_eq_decide.2 eg
 have key:∀ f,1000000<f->aS.e cS cq cJ (B w) (B x.p) (B x.v.ty) (B x.v.sub) (x.v.ps.map bn) x.v.i0 (B x.v.i1) x.v.a0 (B x.v.a1) (dm x.v.c1) (B x.v.c1) (dm x.v.p1) (B x.v.p1) (x.v.pp.map bn) (bw x.v.lg) x.v.w0 (B x.v.w1) (x.a:Int) (x.b:Int) (x.c:Int) (x.d:Int) (x.e:Int) (aS.sN cS cq cJ j m f) j m=m ((fV w x).map (fJ 0)):=by
  intro f hf
  have A:dG x=false->(cS (x.v.ps.map bn) (⟨#[98,111,117,110,100,97,114,121]⟩:BA) (fun u=>(bif (!decide ((B x.v.ty)=(⟨#[109,117,108,116,105,112,97,114,116]⟩:BA))) then j else (bif (decide ((u.size:Int)<(1:Int))) then j else (bif (decide ((u.size:Int)>(70:Int))) then j else (cq u (fun O=>(bif O then j else (bF ((decide ((0:Int)<=(x.c:Int)))&&((decide ((x.c:Int)<=(x.d:Int)))&&(decide ((x.d:Int)<=((B w).size:Int))))) (cJ ((B w).extract ((x.c:Int)).toNat ((x.d:Int)).toNat) u (fun U=>(aS.sN cS cq cJ j m f 0 (B x.p) (B x.v.ty) (B x.v.sub) (x.v.ps.map bn) x.v.i0 (B x.v.i1) x.v.a0 (B x.v.a1) (dm x.v.c1) (B x.v.c1) (dm x.v.p1) (B x.v.p1) (x.v.pp.map bn) (bw x.v.lg) x.v.w0 (B x.v.w1) (x.a:Int) (x.b:Int) (x.c:Int) (x.d:Int) (x.e:Int) U))))))))))))=m ((fV w x).map (fJ 0)):=by
   intro M
   unfold fV
   rw [M,if_neg (by decide),HK _ W,iK,show (⟨#[109,117,108,116,105,112,97,114,116]⟩:BA)=B qB from rfl,hm]
   by_cases N:x.v.ty=qB
   ·rw [decide_eq_true N,Bool.not_true,cond_false]
    by_cases V:(gl x.v.ps).length<1
    ·rw [al (by omega),if_neg (by omega),z];rfl
    ·rw [ai (by omega)]
     by_cases h3:(gl x.v.ps).length>70
     ·rw [al (by omega),if_neg (by omega),z];rfl
     ·rw [ai (by omega),if_pos ⟨N,by omega,by omega⟩,Ip _ (by omega)]
      cases Y:e7 (gl x.v.ps) with
      | true =>
       rw [cond_true,vC _ _ Y _ _ (Nat.le_refl _),z];rfl
      | false =>
       rw [cond_false,av,ac (by omega),av,ac (by omega),ac (by rw [iK];omega),Int.toNat_natCast,Int.toNat_natCast,df]
       show cJ (B (dF w x)) _ _=_
       rw [Is _ _ (by omega) (by omega) Y]
       have X:=tQ (gl x.v.ps) (dF w x) (by omega) _ none (dF w x) (Nat.le_refl _) (List.suffix_refl _) (fun k e=>by cases e)
       have ap:=mw (gl x.v.ps) (dF w x) _ none (dF w x) (Nat.le_refl _)
       have:=vK x.c (by omega) (B x.p) (B x.v.ty) (B x.v.sub) (x.v.ps.map bn) x.v.i0 (B x.v.i1) x.v.a0 (B x.v.a1) (dm x.v.c1) (B x.v.c1) (dm x.v.p1) (B x.v.p1) (x.v.pp.map bn) (bw x.v.lg) x.v.w0 (B x.v.w1) (x.a:Int) (x.b:Int) (x.d:Int) (x.e:Int) j m f [] (ol (gl x.v.ps) (dF w x) none (dF w x)) (by omega) (by simp;omega) (fun p hp=>by have:=X p hp;omega)
       refine this.trans ?_
       rw [List.map_map,List.nil_append]
       congr 1
       refine List.map_congr_left fun p _ => ?_
       show fJ x.c p=fJ 0 (x.c+p.1,x.c+p.2)
       unfold fJ
       rw [Nat.zero_add,Nat.zero_add]
   ·rw [decide_eq_false N,Bool.not_false,cond_true,if_neg (fun h=>N h.1),z];rfl
  unfold aS.e
  rw [show (⟨#[109,101,115,115,97,103,101]⟩:BA)=B gG from rfl,show (⟨#[114,102,99,56,50,50]⟩:BA)=B ml from rfl,hm,hm]
  by_cases N:x.v.ty=gG
  ·rw [decide_eq_true N,cond_true]
   by_cases V:x.v.sub=ml
   ·have M:dG x=true:=by unfold dG;rw [decide_eq_true N,decide_eq_true V];rfl
    rw [decide_eq_true V,cond_true]
    unfold fV
    rw [M,if_pos rfl,show (⟨#[55,98,105,116]⟩:BA)=B [55,98,105,116] from rfl,show (⟨#[56,98,105,116]⟩:BA)=B [56,98,105,116] from rfl,show (⟨#[98,105,110,97,114,121]⟩:BA)=B [98,105,110,97,114,121] from rfl,hm,hm,hm]
    have one:([(x.c,x.d)]:List (Nat × Nat)).map (fJ 0)=[AV.agg [AV.int (x.c:Int),AV.int (x.d:Int)]]:=by
     show [fJ 0 (x.c,x.d)]=_
     unfold fJ
     rw [Nat.zero_add,Nat.zero_add]
    unfold Bo
    cases dm x.v.c1 with
    | false=>simp only [cond_false,Bool.not_false,Bool.true_or,if_true,one]
    | true =>
     rw [cond_true]
     by_cases g1:x.v.c1=[55,98,105,116]
     ·simp only [decide_eq_true g1,Bool.not_true,cond_false,Bool.false_or,Bool.true_or,if_true,one]
     ·by_cases g2:x.v.c1=[56,98,105,116]
      ·simp only [decide_eq_true g2,decide_eq_false g1,Bool.not_true,Bool.not_false,cond_false,cond_true,Bool.false_or,Bool.true_or,if_true,one]
      ·by_cases g3:x.v.c1=[98,105,110,97,114,121]
       ·simp only [decide_eq_true g3,decide_eq_false g1,decide_eq_false g2,Bool.not_true,Bool.not_false,cond_false,cond_true,Bool.false_or,if_true,one]
       ·rw [decide_eq_false g3,decide_eq_false g1,decide_eq_false g2,z];rfl
   ·rw [decide_eq_false V,cond_false]
    exact A (by unfold dG;rw [decide_eq_false V,Bool.and_false])
  ·rw [decide_eq_false N,cond_false]
   exact A (by unfold dG;rw [decide_eq_false N,Bool.false_and])
 exact key ag (by unfold ag;omega)
def qH:List Pm->Prop
 | []=>True
 | p::r=>(∀ q∈r,q.1≠p.1)/\qH r
theorem sH:∀ {a:List Pm} {p:Pm},qH a->(∀ q∈a,q.1≠p.1)->qH (a++[p])
 | [],p,_,_=>⟨fun q f=>(by cases f),trivial⟩
 | x::a,p,h,m=>by
  refine ⟨fun q f => ?_,sH h.2 (fun q f=>m q (by simp [f]))⟩
  rcases List.mem_append.1 f with j|j
  ·exact h.1 q j
  ·rw [List.mem_singleton] at j
   subst j
   exact fun e=>m x (by simp) e.symm
theorem mI:∀ (n:Nat) (a:List Pm) (r:List UInt8),qH a->a.length<=12->qH (AN n a r)/\(AN n a r).length<=12
 | 0,a,r,h,f=>by rw [AN];exact ⟨h,f⟩
 | n+1,a,r,h,f=>by
  rw [AN]
  by_cases c:a.length<12
  ·rw [if_pos c]
   cases e:C5 r with
   | none=>exact ⟨h,f⟩
   | some z =>
    obtain ⟨m,v,j⟩:=z
    simp only
    cases u:a.any (fun p=>p.1 == m) with
    | true=>rw [if_pos rfl];exact mI n a j h f
    | false =>
     rw [if_neg (by decide)]
     refine mI n _ j (sH h fun q A M => ?_) (by simp;omega)
     have:=List.any_eq_false.1 u q A
     exact this (by simpa using M)
  ·rw [if_neg c];exact ⟨h,f⟩
theorem wk (h:List UInt8) (f:Bool):qH (zS h f).ps/\(zS h f).ps.length<=12:=by
 show qH (xc (gV h (⟨#[67,111,110,116,101,110,116,45,84,121,112,101]⟩:BA)) f).2.2/\(xc (gV h (⟨#[67,111,110,116,101,110,116,45,84,121,112,101]⟩:BA)) f).2.2.length<=12
 unfold xc
 cases xd (gV h (⟨#[67,111,110,116,101,110,116,45,84,121,112,101]⟩:BA)) with
 | some q=>exact mI _ [] _ trivial (by simp)
 | none =>
  cases f with
  | true=>exact ⟨trivial,by simp⟩
  | false=>exact ⟨⟨fun q j=>(by cases j),trivial⟩,by show HS.length<=12;decide⟩
theorem ze:∀ {l:List Pm},(∀ q∈l,q.1≠sY)->gl l=[]
 | [],_=>rfl
 | p::r,h=>by rw [gl,if_neg (h p (by simp))];exact ze fun q f=>h q (by simp [f])
theorem u9 {w:List UInt8} {x:LV} (M:x.c<=x.d) (V:x.d<=w.length) (hw:w.length<=200000) (a1:Int) (m:BA->Int->BA->BA->BA->LA->Bool->BA->Bool->BA->Bool->BA->Bool->BA->LA->LA->Bool->BA->Int->Int->Int->Int->Int->Option R) (u:LA->BA->Int->BA->BA->BA->LA->Bool->BA->Bool->BA->Bool->BA->Bool->BA->LA->LA->Bool->BA->Int->Int->Int->Int->Int->Option R) (l:List Pm) (W:l.length<=1000000):∀ (f i:Nat),i<=l.length->l.length<i+f->qH (l.drop i) ->
  aE.L8 bO bA m u f (l.map bn) (l.length:Int) (i:Int) (B x.p) (B x.v.ty) (B x.v.sub) (x.v.ps.map bn) x.v.i0 (B x.v.i1) x.v.a0 (B x.v.a1) (dm x.v.c1) (B x.v.c1) (dm x.v.p1) (B x.v.p1) (x.v.pp.map bn) (bw x.v.lg) x.v.w0 (B x.v.w1) (x.a:Int) (x.b:Int) (x.c:Int) (x.d:Int) (x.e:Int) (B w) a1=if 1<=(gl (l.drop i)).length/\(gl (l.drop i)).length<=70 then u ((ol (gl (l.drop i)) (dF w x) none (dF w x)).map (fJ x.c)) (B w) a1 (B x.p) (B x.v.ty) (B x.v.sub) (x.v.ps.map bn) x.v.i0 (B x.v.i1) x.v.a0 (B x.v.a1) (dm x.v.c1) (B x.v.c1) (dm x.v.p1) (B x.v.p1) (x.v.pp.map bn) (bw x.v.lg) x.v.w0 (B x.v.w1) (x.a:Int) (x.b:Int) (x.c:Int) (x.d:Int) (x.e:Int) else m (B w) a1 (B x.p) (B x.v.ty) (B x.v.sub) (x.v.ps.map bn) x.v.i0 (B x.v.i1) x.v.a0 (B x.v.a1) (dm x.v.c1) (B x.v.c1) (dm x.v.p1) (B x.v.p1) (x.v.pp.map bn) (bw x.v.lg) x.v.w0 (B x.v.w1) (x.a:Int) (x.b:Int) (x.c:Int) (x.d:Int) (x.e:Int)
 | 0,i,X,Y,_=>by omega
 | f+1,i,X,Y,hu=>by
  have N:(l.map bn).length=l.length:=List.length_map ..
  have A:(dF w x).length=x.d-x.c:=by unfold dF;rw [List.length_drop,List.length_take];omega
  rw [aE.L8,aE.t8,N]
  have O:IntKind.wrap .i64 ((i:Int)+1)=((i+1:Nat):Int):=wrap_i64 (by omega) (by omega)
  cases z:l.drop i with
  | nil=>have:=drop_nil z;rw [ai (by omega),gl,if_neg (by simp)]
  | cons a r =>
   obtain ⟨g1,g2,g3⟩:=cP z
   rw [z] at hu
   have hr:bf (l.map bn) (i:Int)=bn a:=eh (by rw [List.getElem?_map,g1];rfl)
   have e0:((bn a).fld 0).s=B a.1:=rfl
   have e1:((bn a).fld 1).s=B a.2:=rfl
   rw [al (by omega),av,ac (by omega),ac (by omega),hr,e0,e1,show (⟨#[98,111,117,110,100,97,114,121]⟩:BA)=B sY from rfl,decide_eq_decide.2 (eg (a:=a.1) (b:=sY)),O,u9 M V hw a1 m u l W f (i+1) (by omega) (by omega) (by rw [g3];exact hu.2),g3,gl,iK]
   by_cases e:a.1=sY
   ·have U:gl r=[]:=ze fun q hq e3=>hu.1 q hq (e3.trans e.symm)
    rw [decide_eq_true e,cond_true,if_pos e,U]
    by_cases c1:a.2.length>=1
    ·rw [al (by omega)]
     by_cases c2:a.2.length<=70
     ·rw [al (by omega),if_pos ⟨c1,c2⟩]
      have j:=Hv (R:=R) a.2 (dF w x) w x.c (by rw [A];show _=(w.take x.d).drop x.c;rw [show x.c+(x.d-x.c)=x.d by omega]) (by omega) (by omega) (by omega) a1
      rw [A,show x.c+(x.d-x.c)=x.d by omega] at j
      rw [j]
     ·rw [ai (by omega),if_neg (by simp),if_neg (by omega)]
    ·rw [ai (by omega),if_neg (by simp),if_neg (by omega)]
   ·rw [decide_eq_false e,cond_false,if_neg e]
theorem Hw (x:LV) (κ : Bool->BA->BA->BA->LA->Bool->BA->Bool->BA->Bool->BA->Bool->BA->LA->LA->Bool->BA->Int->Int->Int->Int->Int->Option R):bO (B x.p) (B x.v.ty) (B x.v.sub) (x.v.ps.map bn) x.v.i0 (B x.v.i1) x.v.a0 (B x.v.a1) (dm x.v.c1) (B x.v.c1) (dm x.v.p1) (B x.v.p1) (x.v.pp.map bn) (bw x.v.lg) x.v.w0 (B x.v.w1) (x.a:Int) (x.b:Int) (x.c:Int) (x.d:Int) (x.e:Int) κ = κ (dG x) (B x.p) (B x.v.ty) (B x.v.sub) (x.v.ps.map bn) x.v.i0 (B x.v.i1) x.v.a0 (B x.v.a1) (dm x.v.c1) (B x.v.c1) (dm x.v.p1) (B x.v.p1) (x.v.pp.map bn) (bw x.v.lg) x.v.w0 (B x.v.w1) (x.a:Int) (x.b:Int) (x.c:Int) (x.d:Int) (x.e:Int):=by
 have hm:∀ a b:List UInt8,decide (B a=B b)=decide (a=b):=fun a b=>decide_eq_decide.2 eg
 unfold bO bO.e
 rw [show (⟨#[109,101,115,115,97,103,101]⟩:BA)=B gG from rfl,show (⟨#[114,102,99,56,50,50]⟩:BA)=B ml from rfl,hm,hm]
 unfold dG
 cases decide (x.v.ty=gG) with
 | true=>rw [cond_true,Bool.true_and]
 | false=>rw [cond_false,Bool.false_and]
theorem Ik {w:List UInt8} {x:LV} (M:x.c<=x.d) (V:x.d<=w.length) (hw:w.length<=200000) (hu:qH x.v.ps) (N:x.v.ps.length<=1000000) (a1:Int) (m:BA->Int->BA->BA->BA->LA->Bool->BA->Bool->BA->Bool->BA->Bool->BA->LA->LA->Bool->BA->Int->Int->Int->Int->Int->Option R) (j:LA->BA->Int->BA->BA->BA->LA->Bool->BA->Bool->BA->Bool->BA->Bool->BA->LA->LA->Bool->BA->Int->Int->Int->Int->Int->Option R) (u:m (B w) a1 (B x.p) (B x.v.ty) (B x.v.sub) (x.v.ps.map bn) x.v.i0 (B x.v.i1) x.v.a0 (B x.v.a1) (dm x.v.c1) (B x.v.c1) (dm x.v.p1) (B x.v.p1) (x.v.pp.map bn) (bw x.v.lg) x.v.w0 (B x.v.w1) (x.a:Int) (x.b:Int) (x.c:Int) (x.d:Int) (x.e:Int)=j [] (B w) a1 (B x.p) (B x.v.ty) (B x.v.sub) (x.v.ps.map bn) x.v.i0 (B x.v.i1) x.v.a0 (B x.v.a1) (dm x.v.c1) (B x.v.c1) (dm x.v.p1) (B x.v.p1) (x.v.pp.map bn) (bw x.v.lg) x.v.w0 (B x.v.w1) (x.a:Int) (x.b:Int) (x.c:Int) (x.d:Int) (x.e:Int)) :
  aE (B w) a1 (B x.p) (B x.v.ty) (B x.v.sub) (x.v.ps.map bn) x.v.i0 (B x.v.i1) x.v.a0 (B x.v.a1) (dm x.v.c1) (B x.v.c1) (dm x.v.p1) (B x.v.p1) (x.v.pp.map bn) (bw x.v.lg) x.v.w0 (B x.v.w1) (x.a:Int) (x.b:Int) (x.c:Int) (x.d:Int) (x.e:Int) m j=j ((fV w x).map (fJ 0)) (B w) a1 (B x.p) (B x.v.ty) (B x.v.sub) (x.v.ps.map bn) x.v.i0 (B x.v.i1) x.v.a0 (B x.v.a1) (dm x.v.c1) (B x.v.c1) (dm x.v.p1) (B x.v.p1) (x.v.pp.map bn) (bw x.v.lg) x.v.w0 (B x.v.w1) (x.a:Int) (x.b:Int) (x.c:Int) (x.d:Int) (x.e:Int):=by
 have hm:∀ a b:List UInt8,decide (B a=B b)=decide (a=b):=fun a b=>decide_eq_decide.2 eg
 have O:(x.v.ps.map bn).length=x.v.ps.length:=List.length_map ..
 have key:∀ f,1000000<f->aE.e bO bA (B w) a1 (B x.p) (B x.v.ty) (B x.v.sub) (x.v.ps.map bn) x.v.i0 (B x.v.i1) x.v.a0 (B x.v.a1) (dm x.v.c1) (B x.v.c1) (dm x.v.p1) (B x.v.p1) (x.v.pp.map bn) (bw x.v.lg) x.v.w0 (B x.v.w1) (x.a:Int) (x.b:Int) (x.c:Int) (x.d:Int) (x.e:Int) (aE.L8 bO bA m j f) m j=j ((fV w x).map (fJ 0)) (B w) a1 (B x.p) (B x.v.ty) (B x.v.sub) (x.v.ps.map bn) x.v.i0 (B x.v.i1) x.v.a0 (B x.v.a1) (dm x.v.c1) (B x.v.c1) (dm x.v.p1) (B x.v.p1) (x.v.pp.map bn) (bw x.v.lg) x.v.w0 (B x.v.w1) (x.a:Int) (x.b:Int) (x.c:Int) (x.d:Int) (x.e:Int):=by
  intro f W
  unfold aE.e
  rw [Hw]
  unfold fV
  cases U:dG x with
  | true =>
   rw [cond_true,if_pos rfl,show (⟨#[55,98,105,116]⟩:BA)=B [55,98,105,116] from rfl,show (⟨#[56,98,105,116]⟩:BA)=B [56,98,105,116] from rfl,show (⟨#[98,105,110,97,114,121]⟩:BA)=B [98,105,110,97,114,121] from rfl,hm,hm,hm]
   have one:([(x.c,x.d)]:List (Nat × Nat)).map (fJ 0)=[AV.agg [AV.int (x.c:Int),AV.int (x.d:Int)]]:=by
    show [fJ 0 (x.c,x.d)]=_
    unfold fJ
    rw [Nat.zero_add,Nat.zero_add]
   unfold Bo
   cases he:dm x.v.c1 with
   | false=>simp only [cond_false,Bool.not_false,Bool.true_or,if_true,one,he]
   | true =>
    rw [cond_true]
    by_cases g1:x.v.c1=[55,98,105,116]
    ·simp only [decide_eq_true g1,Bool.not_true,cond_false,Bool.false_or,Bool.true_or,if_true,one,he]
    ·by_cases g2:x.v.c1=[56,98,105,116]
     ·simp only [decide_eq_true g2,decide_eq_false g1,Bool.not_true,Bool.not_false,cond_false,cond_true,Bool.false_or,Bool.true_or,if_true,one,he]
     ·by_cases g3:x.v.c1=[98,105,110,97,114,121]
      ·simp only [decide_eq_true g3,decide_eq_false g1,decide_eq_false g2,Bool.not_true,Bool.not_false,cond_false,cond_true,Bool.false_or,if_true,one,he]
      ·rw [he] at u
       rw [decide_eq_false g3,decide_eq_false g1,decide_eq_false g2]
       exact u
  | false =>
   rw [cond_false,if_neg (by decide),show (⟨#[109,117,108,116,105,112,97,114,116]⟩:BA)=B qB from rfl,hm,O]
   by_cases A:x.v.ty=qB
   ·rw [decide_eq_true A,Bool.not_true,cond_false]
    refine (u9 M V hw a1 m j x.v.ps N f 0 (by omega) (by omega) (by rw [List.drop_zero];exact hu)).trans ?_
    rw [List.drop_zero]
    by_cases z:1<=(gl x.v.ps).length/\(gl x.v.ps).length<=70
    ·rw [if_pos z,if_pos ⟨A,z.1,z.2⟩,List.map_map]
     congr 1
     refine List.map_congr_left fun p _ => ?_
     show fJ x.c p=fJ 0 (x.c+p.1,x.c+p.2)
     unfold fJ
     rw [Nat.zero_add,Nat.zero_add]
    ·rw [if_neg z,if_neg (fun h=>z ⟨h.2.1,h.2.2⟩)];exact u
   ·rw [decide_eq_false A,Bool.not_false,cond_true,if_neg (fun h=>A h.1)];exact u
 exact key ag (by unfold ag;omega)
def ez:List UInt8->Nat
 | []=>0
 | c::t=>(if c=13/\t.head? = some 10 then 1 else 0)+ez t
theorem uE:∀ (r:List UInt8),ez r=match (fj r).2 with
  | none=>0
  | some u=>1+ez u
 | []=>rfl
 | c::t=>by
  by_cases e:c=13/\t.head? = some 10
  ·have j:=e
   obtain ⟨rfl,f⟩:=e
   rw [m0 f,f',ez,if_pos ⟨rfl,rfl⟩,ez,if_neg (by simp)]
   simp only;omega
  ·rw [fk e,ez,if_neg e,uE t,Nat.zero_add]
theorem pQ (s:List UInt8) (m:s.length<=1000000) (κ : Int->Option R):∀ (f:Nat) (r:List UInt8) (n:Nat),r <:+ s->r.length<f->n+r.length<=1000000->bH.L3 κ f (B s) (n:Int) (pl s r)=κ ((n+ez r:Nat):Int)
 | 0,r,n,_,z,_=>by omega
 | f+1,r,n,h,z,A=>by
  rw [bH.L3,bH.t3,iK]
  cases r with
  | nil=>rw [dI,wrap_i64 (by omega) (by omega),ai (by omega)];rfl
  | cons c t =>
   have M:=eI h
   have N:=eu (s:=s) (r:=c::t)
   have j:=dV h
   simp only [List.length_cons] at z A
   rw [gg h m]
   cases t with
   | nil =>
    rw [dI,ai (by omega)]
    have:ez [c]=0:=by simp [ez]
    rw [this];rfl
   | cons d u =>
    have g1:=eI j
    have g2:=eu (s:=s) (r:=d::u)
    rw [al g1,av,ac N.1,ac M,eN h]
    have hw:IntKind.wrap .i64 ((n:Int)+1)=((n+1:Nat):Int):=wrap_i64 (by omega) (by omega)
    have go:¬ (c=13/\d=10)->bH.L3 κ f (B s) (n:Int) (pl s (d::u))=κ ((n+ez (c::d::u):Nat):Int):=fun e=>by
     rw [pQ s m κ f (d::u) n j (by omega) (by omega)]
     have:ez (c::d::u)=ez (d::u):=by
      rw [ez.eq_def (c::d::u)]
      simp only
      rw [if_neg (by simpa using e),Nat.zero_add]
     rw [this]
    by_cases c1:c=13
    ·rw [jo 13 rfl c1,cond_true,av,ac g2.1,ac g1,eN j]
     by_cases c2:d=10
     ·rw [jo 10 rfl c2,cond_true,hw,pQ s m κ f (d::u) (n+1) j (by omega) (by omega)]
      have:ez (c::d::u)=1+ez (d::u):=by
       rw [ez.eq_def (c::d::u)]
       simp only
       rw [if_pos ⟨c1,by simp [c2]⟩]
      rw [this]
      congr 2;omega
     ·rw [iM 10 rfl c2,cond_false]
      exact go (fun e=>c2 e.2)
    ·rw [iM 13 rfl c1,cond_false]
     exact go (fun e=>c1 e.1)
theorem Iq (s:List UInt8) (j:s.length<=900000) (κ : Int->Option R):bH (B s) κ = κ (ez s:Int):=by
 have key:∀ f,1000000<f->bH.e (B s) (bH.L3 κ f) κ = κ (ez s:Int):=fun f m=>by
  have:=pQ s (by omega) κ f s 0 (List.suffix_refl _) (by omega) (by omega)
  rw [kb,Nat.zero_add] at this
  exact this
 exact key ag (by unfold ag;omega)
theorem u4 (κ : Int->Option R):∀ (f:Nat) (r:List UInt8) (n:Nat),r.length<f->n+r.length<=1000000->bN.L6 aU aL κ f (B r) (⟨#[13,10]⟩:BA) (n:Int)=κ ((n+ez r:Nat):Int)
 | 0,r,n,A,_=>by omega
 | f+1,r,n,A,O=>by
  have m:(((⟨#[13,10]⟩:BA).size:Nat):Int)=2:=rfl
  rw [bN.L6,bN.t6,show (⟨#[13,10]⟩:BA)=B [13,10] from rfl,pr r _ (by omega),m9,uE]
  rw [show B [13,10]=(⟨#[13,10]⟩:BA) from rfl,m]
  cases e:(fj r).2 with
  | none=>simp only;rw [fS rfl];rfl
  | some u =>
   have j:=jY e
   have M:(fj r).1.length+2+u.length=r.length:=by
    have:=congrArg List.length j
    simp only [List.length_append,List.length_cons] at this;omega
   have w1:IntKind.wrap .i64 (((fj r).1.length:Int)+2)=(((fj r).1.length+2:Nat):Int):=wrap_i64 (by omega) (by omega)
   have N:IntKind.wrap .i64 ((n:Int)+1)=((n+1:Nat):Int):=wrap_i64 (by omega) (by omega)
   simp only
   rw [fR (by omega),cond_false,w1,N,iK,av,ac (by omega),av,ac (by omega),ac (by omega),Int.toNat_natCast,Int.toNat_natCast,df,List.take_length]
   have:r.drop ((fj r).1.length+2)=u:=by
    have z:((fj r).1++13::10::u).drop ((fj r).1.length+2)=u:=by rw [<- List.drop_drop,List.drop_left];rfl
    rw [<- j] at z
    exact z
   rw [this,u4 κ f u (n+1) (by omega) (by omega)]
   congr 2;omega
theorem Ii (s:List UInt8) (j:s.length<=900000) (κ : Int->Option R):bN (B s) (⟨#[13,10]⟩:BA) κ = κ (ez s:Int):=by
 have key:∀ f,1000000<f->bN.e aU aL (B s) (⟨#[13,10]⟩:BA) (bN.L6 aU aL κ f) κ = κ (ez s:Int):=fun f m=>by
  have:=u4 κ f s 0 (by omega) (by omega)
  rw [Nat.zero_add] at this
  exact this
 exact key ag (by unfold ag;omega)
def zD (k:Nat):List UInt8:=if k<10 then [UInt8.ofNat (48+k)] else [49,UInt8.ofNat (38+k)]
theorem Fi (κ : BA->Option R):cB 1 κ = κ (⟨#[49]⟩:BA):=by kernel_rfl
theorem E0 (κ : BA->Option R):bo 1 κ = κ (⟨#[49]⟩:BA):=by kernel_rfl
theorem Fj (κ : BA->Option R):cB 2 κ = κ (⟨#[50]⟩:BA):=by kernel_rfl
theorem E1 (κ : BA->Option R):bo 2 κ = κ (⟨#[50]⟩:BA):=by kernel_rfl
theorem Fm (κ : BA->Option R):cB 3 κ = κ (⟨#[51]⟩:BA):=by kernel_rfl
theorem E2 (κ : BA->Option R):bo 3 κ = κ (⟨#[51]⟩:BA):=by kernel_rfl
theorem Fp (κ : BA->Option R):cB 4 κ = κ (⟨#[52]⟩:BA):=by kernel_rfl
theorem E3 (κ : BA->Option R):bo 4 κ = κ (⟨#[52]⟩:BA):=by kernel_rfl
theorem Fq (κ : BA->Option R):cB 5 κ = κ (⟨#[53]⟩:BA):=by kernel_rfl
theorem E4 (κ : BA->Option R):bo 5 κ = κ (⟨#[53]⟩:BA):=by kernel_rfl
theorem Ft (κ : BA->Option R):cB 6 κ = κ (⟨#[54]⟩:BA):=by kernel_rfl
theorem E5 (κ : BA->Option R):bo 6 κ = κ (⟨#[54]⟩:BA):=by kernel_rfl
theorem Fu (κ : BA->Option R):cB 7 κ = κ (⟨#[55]⟩:BA):=by kernel_rfl
theorem E6 (κ : BA->Option R):bo 7 κ = κ (⟨#[55]⟩:BA):=by kernel_rfl
theorem Fv (κ : BA->Option R):cB 8 κ = κ (⟨#[56]⟩:BA):=by kernel_rfl
theorem E7 (κ : BA->Option R):bo 8 κ = κ (⟨#[56]⟩:BA):=by kernel_rfl
theorem Fw (κ : BA->Option R):cB 9 κ = κ (⟨#[57]⟩:BA):=by kernel_rfl
theorem E8 (κ : BA->Option R):bo 9 κ = κ (⟨#[57]⟩:BA):=by kernel_rfl
theorem DH (κ : BA->Option R):cB 10 κ = κ (⟨#[49,48]⟩:BA):=by kernel_rfl
theorem Dk (κ : BA->Option R):bo 10 κ = κ (⟨#[49,48]⟩:BA):=by kernel_rfl
theorem DI (κ : BA->Option R):cB 11 κ = κ (⟨#[49,49]⟩:BA):=by kernel_rfl
theorem Dl (κ : BA->Option R):bo 11 κ = κ (⟨#[49,49]⟩:BA):=by kernel_rfl
theorem DJ (κ : BA->Option R):cB 12 κ = κ (⟨#[49,50]⟩:BA):=by kernel_rfl
theorem Dm (κ : BA->Option R):bo 12 κ = κ (⟨#[49,50]⟩:BA):=by kernel_rfl
theorem DK (κ : BA->Option R):cB 13 κ = κ (⟨#[49,51]⟩:BA):=by kernel_rfl
theorem Dn (κ : BA->Option R):bo 13 κ = κ (⟨#[49,51]⟩:BA):=by kernel_rfl
theorem DL (κ : BA->Option R):cB 14 κ = κ (⟨#[49,52]⟩:BA):=by kernel_rfl
theorem Dp (κ : BA->Option R):bo 14 κ = κ (⟨#[49,52]⟩:BA):=by kernel_rfl
theorem DM (κ : BA->Option R):cB 15 κ = κ (⟨#[49,53]⟩:BA):=by kernel_rfl
theorem Dq (κ : BA->Option R):bo 15 κ = κ (⟨#[49,53]⟩:BA):=by kernel_rfl
theorem DN (κ : BA->Option R):cB 16 κ = κ (⟨#[49,54]⟩:BA):=by kernel_rfl
theorem Dr (κ : BA->Option R):bo 16 κ = κ (⟨#[49,54]⟩:BA):=by kernel_rfl
theorem B1 (κ : BA->Option R):∀ k:Nat,1<=k->k<=16->cB (k:Int) κ = κ (B (zD k))
 | 0,h,_=>by omega
 | 1,_,_=>Fi κ
 | 2,_,_=>Fj κ
 | 3,_,_=>Fm κ
 | 4,_,_=>Fp κ
 | 5,_,_=>Fq κ
 | 6,_,_=>Ft κ
 | 7,_,_=>Fu κ
 | 8,_,_=>Fv κ
 | 9,_,_=>Fw κ
 | 10,_,_=>DH κ
 | 11,_,_=>DI κ
 | 12,_,_=>DJ κ
 | 13,_,_=>DK κ
 | 14,_,_=>DL κ
 | 15,_,_=>DM κ
 | 16,_,_=>DN κ
 | k+17,_,h=>by omega
theorem Bt (κ : BA->Option R):∀ k:Nat,1<=k->k<=16->bo (k:Int) κ = κ (B (zD k))
 | 0,h,_=>by omega
 | 1,_,_=>E0 κ
 | 2,_,_=>E1 κ
 | 3,_,_=>E2 κ
 | 4,_,_=>E3 κ
 | 5,_,_=>E4 κ
 | 6,_,_=>E5 κ
 | 7,_,_=>E6 κ
 | 8,_,_=>E7 κ
 | 9,_,_=>E8 κ
 | 10,_,_=>Dk κ
 | 11,_,_=>Dl κ
 | 12,_,_=>Dm κ
 | 13,_,_=>Dn κ
 | 14,_,_=>Dp κ
 | 15,_,_=>Dq κ
 | 16,_,_=>Dr κ
 | k+17,_,h=>by omega
theorem oX (k:Nat):(zD k).length<=2:=by unfold zD;split <;> simp
def xS (p:List UInt8) (k:Nat):List UInt8:=if p=[] then zD k else p++46::zD k
theorem ue (p:List UInt8) (k:Nat):(xS p k).length<=p.length+3:=by
 have:=oX k
 unfold xS
 split
 ·omega
 ·simp;omega
theorem GR (p:List UInt8) (m:p.length<=1000000) (k:Nat) (f:1<=k) (j:k<=16) (κ : BA->Option R):br (B p) (k:Int) κ = κ (B (xS p k)):=by
 have:=oX k
 unfold br br.e xS
 rw [dX,Du]
 by_cases c:p=[]
 ·rw [decide_eq_true c,cond_true,if_pos c,Bt _ k f j]
 ·rw [decide_eq_false c,cond_false,if_neg c,show (⟨#[46]⟩:BA)=B [46] from rfl,cj,cj,ac (by simp only [List.length_cons,List.length_nil];omega),Bt _ k f j,gX,cj,cj,ac (by simp only [List.length_append,List.length_cons,List.length_nil];omega),gX,List.append_assoc];rfl
def cZ (x:LV) (is:Bool) (k:Nat):List UInt8:=if dG x then (if is then xS x.p k else x.p) else xS x.p k
theorem Er (x:LV) (k:LA) (κ : Bool->BA->BA->BA->LA->Bool->BA->Bool->BA->Bool->BA->Bool->BA->LA->LA->Bool->BA->Int->Int->Int->Int->Int->LA->Option R):aC (B x.p) (B x.v.ty) (B x.v.sub) (x.v.ps.map bn) x.v.i0 (B x.v.i1) x.v.a0 (B x.v.a1) (dm x.v.c1) (B x.v.c1) (dm x.v.p1) (B x.v.p1) (x.v.pp.map bn) (bw x.v.lg) x.v.w0 (B x.v.w1) (x.a:Int) (x.b:Int) (x.c:Int) (x.d:Int) (x.e:Int) k κ = κ (dG x) (B x.p) (B x.v.ty) (B x.v.sub) (x.v.ps.map bn) x.v.i0 (B x.v.i1) x.v.a0 (B x.v.a1) (dm x.v.c1) (B x.v.c1) (dm x.v.p1) (B x.v.p1) (x.v.pp.map bn) (bw x.v.lg) x.v.w0 (B x.v.w1) (x.a:Int) (x.b:Int) (x.c:Int) (x.d:Int) (x.e:Int) k:=by
 have hm:∀ a b:List UInt8,decide (B a=B b)=decide (a=b):=fun a b=>decide_eq_decide.2 eg
 unfold aC aC.e
 rw [show (⟨#[109,101,115,115,97,103,101]⟩:BA)=B gG from rfl,show (⟨#[114,102,99,56,50,50]⟩:BA)=B ml from rfl,hm,hm]
 unfold dG
 cases decide (x.v.ty=gG) with
 | true=>rw [cond_true,Bool.true_and]
 | false=>rw [cond_false,Bool.false_and]
theorem Es (x:LV) (k:LA) (κ : Bool->BA->BA->BA->LA->Bool->BA->Bool->BA->Bool->BA->Bool->BA->LA->LA->Bool->BA->Int->Int->Int->Int->Int->LA->Option R):aA (B x.p) (B x.v.ty) (B x.v.sub) (x.v.ps.map bn) x.v.i0 (B x.v.i1) x.v.a0 (B x.v.a1) (dm x.v.c1) (B x.v.c1) (dm x.v.p1) (B x.v.p1) (x.v.pp.map bn) (bw x.v.lg) x.v.w0 (B x.v.w1) (x.a:Int) (x.b:Int) (x.c:Int) (x.d:Int) (x.e:Int) k κ = κ (dG x) (B x.p) (B x.v.ty) (B x.v.sub) (x.v.ps.map bn) x.v.i0 (B x.v.i1) x.v.a0 (B x.v.a1) (dm x.v.c1) (B x.v.c1) (dm x.v.p1) (B x.v.p1) (x.v.pp.map bn) (bw x.v.lg) x.v.w0 (B x.v.w1) (x.a:Int) (x.b:Int) (x.c:Int) (x.d:Int) (x.e:Int) k:=by
 have hm:∀ a b:List UInt8,decide (B a=B b)=decide (a=b):=fun a b=>decide_eq_decide.2 eg
 unfold aA aA.e
 rw [show (⟨#[109,101,115,115,97,103,101]⟩:BA)=B gG from rfl,show (⟨#[114,102,99,56,50,50]⟩:BA)=B ml from rfl,hm,hm]
 unfold dG
 cases decide (x.v.ty=gG) with
 | true=>rw [cond_true,Bool.true_and]
 | false=>rw [cond_false,Bool.false_and]
theorem Hy (x:LV) (z:x.p.length<=1000000) (l:LA) (deep:Nat) (ins:Bool) (k:Nat) (m:1<=k) (u:k<=16) (κ : BA->BA->BA->BA->LA->Bool->BA->Bool->BA->Bool->BA->Bool->BA->LA->LA->Bool->BA->Int->Int->Int->Int->Int->LA->Option R) :
  bX (B x.p) (B x.v.ty) (B x.v.sub) (x.v.ps.map bn) x.v.i0 (B x.v.i1) x.v.a0 (B x.v.a1) (dm x.v.c1) (B x.v.c1) (dm x.v.p1) (B x.v.p1) (x.v.pp.map bn) (bw x.v.lg) x.v.w0 (B x.v.w1) (x.a:Int) (x.b:Int) (x.c:Int) (x.d:Int) (x.e:Int) l (deep:Int) ins (k:Int) κ = κ (B (cZ x (ins||decide (deep=0)) k)) (B x.p) (B x.v.ty) (B x.v.sub) (x.v.ps.map bn) x.v.i0 (B x.v.i1) x.v.a0 (B x.v.a1) (dm x.v.c1) (B x.v.c1) (dm x.v.p1) (B x.v.p1) (x.v.pp.map bn) (bw x.v.lg) x.v.w0 (B x.v.w1) (x.a:Int) (x.b:Int) (x.c:Int) (x.d:Int) (x.e:Int) l:=by
 have A:=oX k
 have low:∀ κ : BA->Option R,(bif decide (B x.p=⟨#[]⟩) then cB (k:Int) κ else (bF (decide ((B x.p).size+(⟨#[46]⟩:BA).size<=9223372036854775807)) (cB (k:Int) (fun r=>(bF (decide ((B x.p++(⟨#[46]⟩:BA)).size+r.size<=9223372036854775807)) (κ ((B x.p++(⟨#[46]⟩:BA))++r)))))))=κ (B (xS x.p k)):=by
  intro κ
  unfold xS
  rw [dX,Du]
  by_cases c:x.p=[]
  ·rw [decide_eq_true c,cond_true,if_pos c,B1 _ k m u]
  ·rw [decide_eq_false c,cond_false,if_neg c,show (⟨#[46]⟩:BA)=B [46] from rfl,cj,cj,ac (by simp only [List.length_cons,List.length_nil];omega),B1 _ k m u,gX,cj,cj,ac (by simp only [List.length_append,List.length_cons,List.length_nil];omega),gX,List.append_assoc];rfl
 unfold bX bX.e
 rw [Er]
 unfold cZ
 have f:=low (fun y=>κ y (B x.p) (B x.v.ty) (B x.v.sub) (x.v.ps.map bn) x.v.i0 (B x.v.i1) x.v.a0 (B x.v.a1) (dm x.v.c1) (B x.v.c1) (dm x.v.p1) (B x.v.p1) (x.v.pp.map bn) (bw x.v.lg) x.v.w0 (B x.v.w1) (x.a:Int) (x.b:Int) (x.c:Int) (x.d:Int) (x.e:Int) l)
 cases hm:dG x with
 | false =>
  rw [cond_false,if_neg (by decide)]
  exact f
 | true =>
  rw [cond_true,if_pos rfl]
  by_cases j:deep=0
  ·rw [ai (by omega),decide_eq_true j,Bool.or_true,if_pos rfl]
   exact f
  ·rw [al (by omega),decide_eq_false j,Bool.or_false]
   cases ins with
   | false=>rw [Bool.not_false,cond_true,if_neg (by decide)]
   | true =>
    rw [Bool.not_true,cond_false,if_pos rfl]
    exact f
end Go.Proofs.Ab
