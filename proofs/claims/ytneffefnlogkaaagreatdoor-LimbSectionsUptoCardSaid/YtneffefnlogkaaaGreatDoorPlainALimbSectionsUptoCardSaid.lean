/- The plain functions of program and document say the same (conditions: those of each lemma). -/
import Derived.Test.YtneffefnlogkaaaGreatDoorAbC
import Derived.IntWalk
import Derived.Test.YtneffefnlogkaaaGreatDoorText
import Derived.Lib.IndexLaws
set_option linter.unusedVariables false
set_option linter.unusedSimpArgs false
set_option maxRecDepth 4000
open List (drop_take drop_drop isPrefixOf_iff_prefix length_cons all_eq_true all_takeWhile dropWhile_cons map_append map_cons length_map length_take length_append length_drop append_nil take_of_length_le suffix_cons suffix_refl nil_suffix append_assoc suffix_append length_nil nil_append mem_append mem_singleton take_length drop_zero takeWhile_cons take_append_drop singleton_append mem_cons length_singleton filter_cons cons_append)
open Go.IntKind (wrap)
namespace Go.Proofs.Ab
open Go
variable {R:Type}
theorem ab {p:Prop} [Decidable p] {k:Y1 R} (h:p):bo (decide p) k=k:=by rw [decide_eq_true h];rfl
theorem aq {a b:Y3} {k:Y1 R}:bo (a&&b) k=bo a (bo b k):=by cases a <;> rfl
theorem Gn {k:Y1 R}:bo true k=k:=rfl
theorem ai {α : Type} {p:Prop} [Decidable p] {x y : α} (h:p):(bif decide p then x else y)=x:=by rw [decide_eq_true h];rfl
theorem af {α : Type} {p:Prop} [Decidable p] {x y : α} (h:¬ p):(bif decide p then x else y)=y:=by rw [decide_eq_false h];rfl
theorem gy {x y:Int} (h:x=y):(x == y)=true:=by simp [h]
theorem fY {x y:Int} (h:x≠y):(x == y)=false:=by simp [h]
theorem Ev {x y:Int} (h:x=y):(x != y)=false:=by simp [h]
theorem wrap_i64 {x:Int} (f : -9223372036854775808<=x) (j:x<9223372036854775808):wrap .i64 x=x:=IntWalk.i64_in x ⟨f,by omega⟩
theorem wrap_u8 {x:Int} (f:0<=x) (j:x<256):wrap .u8 x=x:=by rw [IntKind.wrap_u8];omega
def bl (s:BA):List Y2:=s.data.toList
def B (l:List Y2):BA:=⟨l.toArray⟩
theorem jR (l:List Y2):bl (B l)=l:=rfl
theorem iE (s:BA):B (bl s)=s:=rfl
theorem fa (s:BA):s.size=(bl s).length:=by unfold bl;rw [Array.length_toList];rfl
theorem b6 (l:List Y2):(B l).size=l.length:=by rw [fa,jR]
theorem B7 {a b:BA} (h:bl a=bl b):a=b:=by rw [<- iE a,h,iE]
theorem eg {a b:List Y2}:B a=B b ↔ a=b:=⟨fun h=>by rw [<- jR a,h,jR],fun h=>by rw [h]⟩
theorem eH (s:BA) (i j:Nat):bl (s.extract i j)=((bl s).take j).drop i:=by
 unfold bl;rw [ByteArray.data_extract,Array.toList_extract];simp [List.extract,drop_take]
theorem dh (l:List Y2) (i j:Nat):(B l).extract i j=B ((l.take j).drop i):=B7 (by rw [eH,jR,jR])
theorem Az (a b:BA):bl (a++b)=bl a++bl b:=by unfold bl;simp
theorem fX (a b:List Y2):B a++B b=B (a++b):=B7 (by rw [Az];rfl)
theorem dU:(⟨#[]⟩:BA)=B []:=rfl
theorem tW {s:BA} {i:Nat} {c:Y2} (h:(bl s)[i]? = some c):dP s (i:Int)=c.toNat:=by
 obtain ⟨j,m⟩:=List.getElem?_eq_some_iff.1 h
 have f:i<s.size:=by rw [fa];exact j
 unfold dP
 simp only [Int.toNat_natCast]
 rw [dif_pos f]
 congr 2
theorem cG {α : Type} {l:List α} {i:Nat} {c : α} {r:List α} (h:l.drop i=c::r):l[i]? = some c/\i<l.length/\l.drop (i+1)=r:=by
 have f:(l.drop i)[0]? = some c:=by rw [h];rfl
 rw [List.getElem?_drop,Nat.add_zero] at f
 refine ⟨f,(List.getElem?_eq_some_iff.1 f).1,?_⟩
 rw [<- drop_drop,h];rfl
theorem drop_nil {α : Type} {l:List α} {i:Nat} (h:l.drop i=[]):l.length<=i:=by simpa using h
theorem mh {α : Type} {l:List α} {i:Nat} (h:i<l.length):∃ c r,l.drop i=c::r:=by
 cases f:l.drop i with
 | nil=>have:=drop_nil f;omega
 | cons c r=>exact ⟨c,r,rfl⟩
theorem dO {α : Type} {l:List α} {i:Nat} {c : α} (h:l[i]? = some c):l.take (i+1)=l.take i++[c]:=by
 rw [List.take_add_one,h];rfl
theorem iZ (c d:Y2):((c.toNat:Int) == (d.toNat:Int))=(c == d):=by
 rw [Bool.eq_iff_iff];simp only [beq_iff_eq,Int.natCast_inj,<- UInt8.toNat_inj]
theorem Cc (c d:Y2):((c.toNat:Int) != (d.toNat:Int))=(c != d):=by
 unfold bne;rw [iZ]
theorem kA (c:Y2):c.toNat<256:=by have:=c.toNat_lt;omega
theorem Dt {i:Nat}:((i:Int)+1)=((i+1:Nat):Int):=rfl
theorem ft (b:Y2) (l sub:List Y2):Lib.index (b::l) sub=if sub.isPrefixOf (b::l) then 0 else if Lib.index l sub == -1 then -1 else Lib.index l sub+1:=rfl
theorem qd:∀ (s sub:List Y2),Lib.index s sub ≠ -1->Lib.index s sub+sub.length<=s.length
 | [],sub,h=>by
  cases sub with
  | nil=>simp [Lib.index]
  | cons a t=>exact absurd rfl h
 | b::l,sub,h=>by
  rw [ft] at h ⊢
  split at h
  ·rename_i f
   rw [if_pos f]
   have:=(List.isPrefixOf_iff_prefix.1 f).length_le
   omega
  ·rename_i f
   rw [if_neg f]
   split at h
   ·exact absurd rfl h
   ·rename_i m
    have j:Lib.index l sub ≠ -1:=by simpa using m
    have:=qd l sub j
    rw [if_neg m]
    simp only [length_cons];omega
theorem eD {l:LA} {i:Nat} {a:AV} (h:l[i]? = some a):bi l (i:Int)=a:=by
 unfold bi;rw [Int.toNat_natCast,List.getD_eq_getElem?_getD,h];rfl
theorem mW {l:LA} {i:Nat} {a:AV} {r:LA} (h:l.drop i=a::r):bi l (i:Int)=a:=eD (cG h).1
theorem pw {l:List Y2} {i:Nat} {c:Y2} (h:l[i]? = some c):dP (B l) (i:Int)=c.toNat:=tW (s:=B l) h
theorem jN (c:Y2) (d:Y2) (x:Int) (h:x=(d.toNat:Int)):((c.toNat:Int) == x)=(c == d):=by rw [h,iZ]
theorem Cb (c:Y2) (d:Y2) (x:Int) (h:x=(d.toNat:Int)):((c.toNat:Int) != x)=(c != d):=by rw [h,Cc]
def bH (l:List (List Y2)):LA:=l.map fun x => .str (B x)
theorem fS (l:List (List Y2)):(bH l).length=l.length:=by unfold bH;simp
theorem ga (l m:List (List Y2)):bH (l++m)=bH l++bH m:=by unfold bH;simp
theorem wO {l:List (List Y2)} {i:Nat} {x:List Y2} (h:l[i]? = some x):(bi (bH l) (i:Int)).s=B x:=by
 rw [eD (a := .str (B x)) (by unfold bH;rw [List.getElem?_map,h];rfl)];rfl
theorem wN (xs:LA) (a:AV):bi (xs++[a]) (xs.length:Int)=a:=eD (by simp)
theorem uM (xs:LA) (a:AV) (r:LA) (n:Nat) (h:xs.length=n):bi (xs++a::r) (n:Int)=a:=eD (by subst h;simp)
theorem iR (xs:LA) (a b:AV) (r:LA) (n:Nat) (h:xs.length=n):eF (xs++a::r) (n:Int) b=xs++b::r:=by
 subst h;unfold eF;simp
theorem iP {l p:List Y2}:p.isPrefixOf l=decide (l.take p.length=p):=by
 rw [Bool.eq_iff_iff,isPrefixOf_iff_prefix,List.prefix_iff_eq_take,decide_eq_true_eq,eq_comm]
theorem mq (a:BA) (p:List Y2) (κ:Y3->Y1 R):bc a (B p) κ=κ (p.isPrefixOf (bl a)):=by
 have f:=fa a
 unfold bc bc.e b9 b9.e
 simp only [b6]
 by_cases h:p.length<=(bl a).length
 ·simp (disch:=omega) only [ai,aq,ab]
  congr 1
  rw [iP]
  congr 1
  rw [<- iE (a.extract _ _),eH,eg]
  simp
 ·simp (disch:=omega) only [af]
  congr 1
  rw [iP]
  symm;rw [decide_eq_false_iff_not]
  intro e;have:=congrArg List.length e;simp at this;omega
theorem qc (l p:List Y2) (f:l.length<=1000000) (κ:Int->Y1 R):aO (B l) (B p) κ=κ (Lib.index l p):=by
 unfold aO aO.e ef
 have:=b6 l
 simp (disch:=omega) only [ab]
 rfl
theorem p8 (l p:List Y2) (κ:Y3->Y1 R):bc (B l) (B p) κ=κ (p.isPrefixOf l):=mq (B l) p κ
theorem lh {p:Y2->Y3} {l:List Y2} {k:Nat} (h:k<(l.takeWhile p).length):∃ c,l[k]? = some c/\p c=true:=by
 obtain ⟨t,f⟩:=List.takeWhile_prefix p (l:=l)
 refine ⟨(l.takeWhile p)[k],?_,List.all_eq_true.1 all_takeWhile _ (List.getElem_mem h)⟩
 have:=List.getElem?_append_left (l₂:=t) h
 rw [f] at this
 rw [this,List.getElem?_eq_getElem h]
theorem my {l:List Y2} {c:Y2} {o:Nat} (h:l[o]? = some c) (z:∀ k,k<o->l[k]? ≠ some c):Lib.indexByte l c=o:=by
 have A:=Lib.indexByte_ge l c
 by_cases e:Lib.indexByte l c = -1
 ·exact absurd h (Lib.indexByte_none e o)
 ·obtain ⟨m,hm⟩:∃ m:Nat,Lib.indexByte l c=m:=⟨(Lib.indexByte l c).toNat,by omega⟩
  obtain ⟨M,N⟩:=Lib.indexByte_some hm
  rcases Nat.lt_trichotomy m o with f|j|u
  ·exact absurd M (z m f)
  ·rw [hm,j]
  ·exact absurd h (N o u)
theorem pJ {p:Y2->Y3}:∀ {l:List Y2},l.dropWhile p=[] ↔ ∀ a∈l,p a=true
 | []=>by simp
 | c::r=>by
  rw [dropWhile_cons]
  cases h:p c with
  | true=>simp [h,pJ (l:=r)]
  | false=>simp [h]
theorem Ar {p:Y2->Y3} (h:(List.range 256).all (fun n=>p (UInt8.ofNat n))=true) (c:Y2):p c=true:=by
 have:=List.all_eq_true.1 h c.toNat (List.mem_range.2 (kA c))
 rwa [UInt8.ofNat_toNat] at this
theorem Hf (l:List Y2) (c:Y2) (κ:Int->Y1 R):aC (B l) (c.toNat:Int) κ=κ (Lib.indexByte l c):=by
 show κ (Lib.indexByte l ((c.toNat:Int).toNat.toUInt8))=_
 rw [Int.toNat_natCast]
 show κ (Lib.indexByte l (UInt8.ofNat c.toNat))=_
 rw [UInt8.ofNat_toNat]
def dz (t:List Y2):LA:=t.map fun b=>AV.int (b.toNat:Int)
theorem fF (t:List Y2):(dz t).length=t.length:=by unfold dz;simp
theorem iJ (t u:List Y2):dz t++dz u=dz (t++u):=by unfold dz;simp
theorem hZ (t:List Y2) (c:Y2):dz t++[AV.int (c.toNat:Int)]=dz (t++[c]):=iJ t [c]
theorem iy (t:List Y2):fI (dz t)=B t:=by
 unfold fI dz B
 congr 2
 rw [List.map_map]
 conv=>rhs;rw [<- List.map_id t]
 apply List.map_congr_left
 intro b f
 show UInt8.ofNat ((b.toNat:Int).toNat)=b
 rw [Int.toNat_natCast,UInt8.ofNat_toNat]
theorem EU (t:List Y2):List.all (dz t) px=true:=by
 unfold dz
 rw [List.all_map,all_eq_true]
 intro b f
 have:=kA b
 show px (AV.int (b.toNat:Int))=true
 unfold px
 show (decide (0<=(b.toNat:Int))&&decide ((b.toNat:Int)<256))=true
 rw [decide_eq_true (by omega),decide_eq_true (by omega)];rfl
theorem Ew (t:List Y2):eh (B t)=dz t:=rfl
theorem D9 (l:LA) (a:Int) (κ:LA->Y1 R) (h:l.length<=1000000000):aT l a κ=κ (l++[AV.int a]):=by
 show bo (decide ((l.length+1)*1<=140737488355328)) (κ (l++[AV.int a]))=_
 rw [ab (by omega)]
theorem pi (t:List Y2) (κ:BA->Y1 R):av (dz t) κ=κ (B t):=by
 unfold av av.e
 rw [ab rfl,EU,iy];rfl
theorem xA (t:List Y2):eh (B t)=dz t:=rfl
theorem lR (l:LA) (s:BA) (κ:Int->LA->Y1 R) (h:l.length+s.size<=1000000000):aA l s κ=κ (s.size:Int) (l++eh s):=by
 show bo (decide ((l.length+(eh s).length)*1<=140737488355328)) (κ (s.size:Int) (l++eh s))=_
 have:(eh s).length=s.size:=by unfold eh;simp
 rw [ab (by omega)]
def rA (c:Y2):Y2:=if 65<=c.toNat/\c.toNat<=90 then UInt8.ofNat (c.toNat+32) else c
def dT (l:List Y2):List Y2:=l.map rA
theorem uy {c:Y2} (f:65<=c.toNat) (j:c.toNat<=90):((rA c).toNat:Int)=(c.toNat:Int)+32:=by
 unfold rA
 rw [if_pos ⟨f,j⟩]
 simp;omega
theorem kJ {c:Y2} (h:¬ (65<=c.toNat/\c.toNat<=90)):rA c=c:=by unfold rA;rw [if_neg h]
theorem jl (l:List Y2):(dT l).length=l.length:=by unfold dT;simp
theorem CX {l:List Y2} {i:Nat} {c:Y2} (h:l[i]? = some c):(bi (dz l) (i:Int)).i=(c.toNat:Int):=by
 rw [eD (a := .int (c.toNat:Int)) (by unfold dz;rw [List.getElem?_map,h];rfl)];rfl
theorem ints_set (a:List Y2) (c d:Y2) (r:List Y2) (n:Nat) (h:a.length=n):eF (dz (a++c::r)) (n:Int) (.int (d.toNat:Int))=dz (a++d::r):=by
 unfold dz
 rw [map_append,map_cons,iR _ _ _ _ n (by rw [length_map];exact h)]
 simp
theorem ox (l:List Y2) (O:l.length<=140737488355327) (κ:BA->Y1 R):∀ (f i:Nat),i<=l.length->l.length<i+f ->
  bM.L3 κ f (l.length:Int) (i:Int) (dz (dT (l.take i)++l.drop i))=κ (B (dT l))
 | 0,i,U,V=>by omega
 | f+1,i,U,V=>by
  rw [bM.L3,bM.t3]
  have j:(dT (l.take i)).length=i:=by rw [jl,length_take];omega
  have u:(dz (dT (l.take i)++l.drop i)).length=l.length:=by rw [fF,length_append,j,length_drop];omega
  simp only [u,iy]
  cases N:l.drop i with
  | nil =>
   have:=drop_nil N
   rw [af (by omega),append_nil,take_of_length_le (by omega)]
  | cons c r =>
   obtain ⟨g1,g2,g3⟩:=cG N
   have z:wrap .i64 ((i:Int)+1)=((i+1:Nat):Int):=wrap_i64 (by omega) (by omega)
   have W:(bi (dz (dT (l.take i)++c::r)) (i:Int)).i=(c.toNat:Int):=CX (by rw [List.getElem?_append_right (by omega),j];simp)
   simp only [W,z]
   simp (disch:=omega) only [ai,aq,ab]
   have m:=ox l O κ f (i+1) (by omega) (by omega)
   rw [g3] at m
   have X:dT (l.take (i+1))++r=dT (l.take i)++rA c::r:=by rw [dO g1];unfold dT;simp
   rw [X] at m
   by_cases A:65<=c.toNat
   ·by_cases M:c.toNat<=90
    ·have hu:=uy A M
     have Y:=kA c
     have hw:wrap .u8 ((wrap .u8 ((c.toNat:Int)+97))-65)=((rA c).toNat:Int):=by
      rw [wrap_u8 (x:=(c.toNat:Int)+97) (by omega) (by omega),wrap_u8 (by omega) (by omega),hu];omega
     rw [ai (by omega),ai (by omega),hw,ints_set _ _ _ _ _ j]
     exact m
    ·rw [kJ (by omega)] at m
     rw [ai (by omega),af (by omega)]
     exact m
   ·rw [kJ (by omega)] at m
    rw [af (by omega)]
    exact m
theorem ic (l:List Y2) (j:l.length<=140737488355327) (κ:BA->Y1 R):bM (B l) κ=κ (B (dT l)):=by
 have key:∀ f,l.length<f->bM.e (B l) (bM.L3 κ f) κ=κ (B (dT l)):=by
  intro f m
  unfold bM.e
  rw [b6,ab (by omega),Ew,fF]
  exact ox l j κ f 0 (by omega) (by omega)
 exact key ah (by unfold ah;omega)
theorem oG (l:List Y2) (N:l.length<=140737488355327) (κ:BA->Y1 R):∀ (f i:Nat),i<=l.length->l.length<i+f ->
  dx.L3 κ f (B l) (i:Int) (dz (dT (l.take i)))=κ (B (dT l))
 | 0,i,O,U=>by omega
 | f+1,i,O,U=>by
  rw [dx.L3,dx.t3]
  have m:(dz (dT (l.take i))).length=i:=by rw [fF,jl,length_take];omega
  simp only [m,b6,iy]
  cases M:l.drop i with
  | nil =>
   have:=drop_nil M
   rw [af (by omega),take_of_length_le (by omega)]
  | cons c r =>
   obtain ⟨g1,g2,g3⟩:=cG M
   have u:wrap .i64 ((i:Int)+1)=((i+1:Nat):Int):=wrap_i64 (by omega) (by omega)
   simp only [u,pw g1]
   simp (disch:=omega) only [ai,aq,ab]
   have j:=oG l N κ f (i+1) (by omega) (by omega)
   have V:dT (l.take (i+1))=dT (l.take i)++[rA c]:=by rw [dO g1];unfold dT;simp
   rw [V,<- hZ] at j
   by_cases z:65<=c.toNat
   ·by_cases A:c.toNat<=90
    ·have hu:=uy z A
     have W:=kA c
     have hw:wrap .u8 ((c.toNat:Int)+32)=((rA c).toNat:Int):=by rw [wrap_u8 (by omega) (by omega),hu]
     rw [ai (by omega),ai (by omega),hw]
     exact j
    ·rw [kJ (by omega)] at j
     rw [ai (by omega),af (by omega)]
     exact j
   ·rw [kJ (by omega)] at j
    rw [af (by omega)]
    exact j
theorem sZ (l:List Y2) (j:l.length<=140737488355327) (κ:BA->Y1 R):dx (B l) κ=κ (B (dT l)):=by
 have key:∀ f,l.length<f->dx.e (B l) (dx.L3 κ f) κ=κ (B (dT l)):=
  fun f m=>oG l j κ f 0 (by omega) (by omega)
 exact key ah (by unfold ah;omega)
def pl (s r:List Y2):Int:=((s.length-r.length:Nat):Int)
theorem dL (s:List Y2):pl s []=(s.length:Int):=rfl
theorem eB {s r:List Y2}:0<=pl s r/\pl s r<=(s.length:Int):=by unfold pl;omega
theorem dY {s r:List Y2} (h:r <:+ s):r.length<=s.length:=h.length_le
theorem qY {s r:List Y2} (h:r <:+ s):s.drop (s.length-r.length)=r:=by
 obtain ⟨p,rfl⟩:=h
 simp
theorem dZ {s t:List Y2} {c:Y2} (h:c::t <:+ s):t <:+ s:=(suffix_cons c t).trans h
theorem kO {s t:List Y2} {c:Y2} (h:c::t <:+ s):pl s t=pl s (c::t)+1:=by
 have:=dY h
 simp only [length_cons] at this
 unfold pl
 simp only [length_cons]
 omega
theorem eO {s t:List Y2} {c:Y2} (h:c::t <:+ s):pl s (c::t)<(s.length:Int):=by
 have:=dY h
 simp only [length_cons] at this
 unfold pl
 simp only [length_cons]
 omega
theorem eT {s t:List Y2} {c:Y2} (h:c::t <:+ s):dP (B s) (pl s (c::t))=(c.toNat:Int):=by
 unfold pl
 refine pw ?_
 have:=qY h
 exact (cG this).1
theorem gn {s t:List Y2} {c:Y2} (h:c::t <:+ s) (f:s.length<=1000000):wrap .i64 (pl s (c::t)+1)=pl s t:=by
 have j:=eB (s:=s) (r:=c::t)
 rw [kO h]
 exact wrap_i64 (by omega) (by omega)
theorem kp (s:List Y2):pl s s=0:=by unfold pl;omega
theorem iW (s:List Y2):((B s).size:Int)=(s.length:Int):=by rw [b6]
theorem iX {c d:Y2} (x:Int) (h:x=(d.toNat:Int)) (f:c≠d):((c.toNat:Int) == x)=false:=by rw [jN c d x h];simpa using f
theorem jz {c d:Y2} (x:Int) (h:x=(d.toNat:Int)) (f:c=d):((c.toNat:Int) == x)=true:=by rw [jN c d x h];simpa using f
def kB:Nat->List Y2->List Y2
 | _,[]=>[]
 | d,c::t=>if c=92 then (match t with
   | []=>[]
   | _::u=>kB d u) else if c=40 then kB (d+1) t else if c=41 then (if d=1 then t else kB (d-1) t) else kB d t
theorem l8:∀ (n:Nat) (d:Nat) (r:List Y2),r.length<=n->kB d r <:+ r
 | _,d,[],_=>by rw [kB];exact suffix_refl _
 | 0,d,c::t,h=>by simp at h
 | n+1,d,c::t,h=>by
  simp only [length_cons,Nat.add_le_add_iff_right] at h
  rw [kB.eq_def]
  simp only
  split
  ·split
   ·exact nil_suffix
   ·rename_i u
    simp only [length_cons] at h
    exact ((l8 n d u (by omega)).trans (suffix_cons _ _)).trans (suffix_cons _ _)
  ·split
   ·exact (l8 n (d+1) t h).trans (suffix_cons _ _)
   ·split
    ·split
     ·exact suffix_cons _ _
     ·exact (l8 n (d-1) t h).trans (suffix_cons _ _)
    ·exact (l8 n d t h).trans (suffix_cons _ _)
theorem xE (d:Nat) (r:List Y2):kB d r <:+ r:=l8 _ d r (Nat.le_refl _)
theorem tZ (d:Nat) (r:List Y2):(kB d r).length<=r.length:=(xE d r).length_le
theorem Cl (d:Nat) (x:Y2) (u:List Y2):kB d (92::x::u)=kB d u:=by rw [kB.eq_def];rfl
theorem ze (d:Nat):kB d [92]=[]:=by rw [kB.eq_def];rfl
theorem Cn (d:Nat) (t:List Y2):kB d (40::t)=kB (d+1) t:=by rw [kB.eq_def];rfl
theorem Cm (d:Nat) (t:List Y2):kB d (41::t)=if d=1 then t else kB (d-1) t:=by rw [kB.eq_def];rfl
theorem Co (d:Nat) {c:Y2} (t:List Y2) (f:c≠92) (j:c≠40) (m:c≠41):kB d (c::t)=kB d t:=by rw [kB.eq_def];simp [f,j,m]
def dc:List Y2->List Y2
 | []=>[]
 | c::t=>if c=32∨c=9 then dc t else if c=40 then dc (kB 1 t) else c::t
termination_by l=>l.length
decreasing_by
 all_goals simp_wf
 all_goals have:=tZ 1 t
 all_goals omega
theorem kz:dc []=[]:=by rw [dc]
theorem pu {c:Y2} (t:List Y2) (h:c=32∨c=9):dc (c::t)=dc t:=by rw [dc,if_pos h]
theorem xy (t:List Y2):dc (40::t)=dc (kB 1 t):=by rw [dc,if_neg (by decide),if_pos rfl]
theorem xz {c:Y2} (t:List Y2) (f:c≠32) (j:c≠9) (m:c≠40):dc (c::t)=c::t:=by rw [dc,if_neg (by simp [f,j]),if_neg m]
theorem tU:∀ (n:Nat) (r:List Y2),r.length<=n->dc r <:+ r
 | _,[],_=>by rw [kz];exact suffix_refl _
 | 0,c::t,h=>by simp at h
 | n+1,c::t,h=>by
  simp only [length_cons,Nat.add_le_add_iff_right] at h
  by_cases f:c=32∨c=9
  ·rw [pu t f];exact (tU n t h).trans (suffix_cons _ _)
  ·by_cases j:c=40
   ·subst j
    rw [xy]
    exact ((tU n (kB 1 t) (Nat.le_trans (tZ 1 t) h)).trans (xE 1 t)).trans (suffix_cons _ _)
   ·rw [xz t (fun e=>f (.inl e)) (fun e=>f (.inr e)) j];exact suffix_refl _
theorem dM (r:List Y2):dc r <:+ r:=tU _ r (Nat.le_refl _)
theorem HV (s r:List Y2) (h:r <:+ s) (κ:Int->BA->Int->Y1 R):bC (B s) (pl s r) κ=κ (match r with|[]=>0|c::_=>(c.toNat:Int)) (B s) (pl s r):=by
 unfold bC bC.e
 cases r with
 | nil=>rw [iW,dL,af (by omega)]
 | cons c t =>
  have f:=eO h
  have j:=eB (s:=s) (r:=c::t)
  rw [iW,ai f,aq,ab j.1,ab f,eT h]
theorem jj (s:List Y2) (j:s.length<=1000000) (κ:BA->Int->Y1 R):∀ (f d:Nat) (r:List Y2),r <:+ s->1<=d->d+r.length<=2000000->r.length+1<f->aP.L1 κ f (d:Int) (B s) (pl s r)=κ (B s) (pl s (kB d r))
 | 0,d,r,_,_,_,A=>by omega
 | f+1,d,r,h,M,m,A=>by
  rw [aP.L1,aP.t1,iW]
  cases r with
  | nil=>rw [dL,af (by omega),kB,dL]
  | cons c t =>
   have N:=eO h
   have O:=eB (s:=s) (r:=c::t)
   have z:=dZ h
   simp only [length_cons] at A m
   rw [ai N,aq,ab O.1,ab N,eT h,gn h j]
   by_cases c1:c=92
   ·rw [jz 92 rfl c1,cond_true]
    subst c1
    cases t with
    | nil =>
     rw [ze,dL]
     cases f with
     | zero=>simp at A
     | succ f =>
      have hw:wrap .i64 ((s.length:Int)+1)=(s.length:Int)+1:=wrap_i64 (by omega) (by omega)
      rw [hw,aP.L1,aP.t1,iW,af (by omega)]
    | cons x u =>
     simp only [length_cons] at A m
     rw [gn z j,Cl]
     exact jj s j κ f d u (dZ z) M (by omega) (by omega)
   ·rw [iX 92 rfl c1,cond_false]
    by_cases c2:c=40
    ·subst c2
     rw [jz 40 rfl rfl,cond_true,Cn,show wrap .i64 ((d:Int)+1)=((d+1:Nat):Int) from wrap_i64 (by omega) (by omega)]
     exact jj s j κ f (d+1) t z (by omega) (by omega) (by omega)
    ·rw [iX 40 rfl c2,cond_false]
     by_cases c3:c=41
     ·subst c3
      rw [jz 41 rfl rfl,cond_true,Cm,show wrap .i64 ((d:Int)-1)=((d-1:Nat):Int) by rw [wrap_i64 (by omega) (by omega)];omega]
      by_cases c4:d=1
      ·rw [if_pos c4,gy (by omega),cond_true]
      ·rw [if_neg c4,fY (by omega),cond_false]
       exact jj s j κ f (d-1) t z (by omega) (by omega) (by omega)
     ·rw [iX 41 rfl c3,cond_false,Co d t c1 c2 c3]
      exact jj s j κ f d t z M (by omega) (by omega)
theorem IQ (s t:List Y2) (j:s.length<=1000000) (h:40::t <:+ s) (κ:BA->Int->Y1 R):aP (B s) (pl s (40::t)) κ=κ (B s) (pl s (kB 1 t)):=by
 have u:=dY h
 simp only [length_cons] at u
 have key:∀ f,3000000<f->aP.e (B s) (pl s (40::t)) (aP.L1 κ (f+1)) κ=κ (B s) (pl s (kB 1 t)):=by
  intro f A
  have m:=eO h
  have z:=eB (s:=s) (r:=40::t)
  unfold aP.e
  rw [aP.L1,aP.t1,iW,ai m,aq,ab z.1,ab m,eT h,gn h j,iX (d:=92) 92 rfl (by decide),cond_false,jz 40 rfl rfl,cond_true,show wrap .i64 ((0:Int)+1)=((1:Nat):Int) from wrap_i64 (by omega) (by omega)]
  exact jj s j κ f 1 t (dZ h) (by omega) (by omega) (by omega)
 exact key (ah-1) (by unfold ah;omega)
theorem kH (s:List Y2) (j:s.length<=1000000) (κ:BA->Int->Y1 R):∀ (f:Nat) (r:List Y2),r <:+ s->r.length<f->ak.L0 bC aP κ f (B s) (pl s r)=κ (B s) (pl s (dc r))
 | 0,r,_,u=>by omega
 | f+1,r,h,u=>by
  rw [ak.L0,ak.t0,HV s r h]
  cases r with
  | nil=>rw [kz];rfl
  | cons c t =>
   have m:=dZ h
   simp only [length_cons] at u
   by_cases c1:c=32
   ·rw [jz 32 rfl c1,cond_true,gn h j,pu t (.inl c1)]
    exact kH s j κ f t m (by omega)
   ·rw [iX 32 rfl c1,cond_false]
    by_cases c2:c=9
    ·rw [jz 9 rfl c2,cond_true,gn h j,pu t (.inr c2)]
     exact kH s j κ f t m (by omega)
    ·rw [iX 9 rfl c2,cond_false]
     by_cases c3:c=40
     ·subst c3
      have:=tZ 1 t
      rw [jz 40 rfl rfl,cond_true,IQ s t j h,xy]
      exact kH s j κ f (kB 1 t) ((xE 1 t).trans m) (by omega)
     ·rw [iX 40 rfl c3,cond_false,xz t c1 c2 c3]
theorem uv (s r:List Y2) (j:s.length<=1000000) (h:r <:+ s) (κ:BA->Int->Y1 R):ak (B s) (pl s r) κ=κ (B s) (pl s (dc r)):=by
 have key:∀ f,1000000<f->ak.e bC aP (B s) (pl s r) (ak.L0 bC aP κ f) κ=κ (B s) (pl s (dc r)):=
  fun f m=>kH s j κ f r h (by have:=dY h;omega)
 exact key ah (by unfold ah;omega)
theorem jk (s r:List Y2) (d:Y2) (j:s.length<=1000000) (h:r <:+ s) (κ:Y3->BA->Int->Y1 R):ao (B s) (pl s r) (d.toNat:Int) κ=(match r with
  | []=>κ false (B s) (pl s [])
  | c::t=>if c=d then κ true (B s) (pl s t) else κ false (B s) (pl s (c::t))):=by
 unfold ao ao.e
 cases r with
 | nil=>rw [iW,dL,af (by omega)]
 | cons c t =>
  have f:=eO h
  have m:=eB (s:=s) (r:=c::t)
  rw [iW,ai f,aq,ab m.1,ab f,eT h,gn h j,iZ]
  show _=if c=d then κ true (B s) (pl s t) else κ false (B s) (pl s (c::t))
  by_cases e:c=d
  ·subst e;simp
  ·rw [show (c == d)=false by simpa using e,if_neg e];rfl
theorem DH (κ:Int->Y1 R) (f:Nat) (x0:BA) (j:Int):aN.L1 κ (f+1) x0 j=aN.t1 (aN.L1 κ f) (aN.L7 κ f) κ x0 j:=by
 try unfold aN.L1
 try unfold aN.L7
 rw [aN.M1]
theorem wF (κ:Int->Y1 R) (f:Nat) (x0:BA) (j m:Int):aN.L7 κ (f+1) x0 j m=aN.t7 (aN.L1 κ f) (aN.L7 κ f) x0 j m:=by
 try unfold aN.L1
 try unfold aN.L7
 rw [aN.M1]
theorem nS (s:List Y2) (M:s.length<=1000000) (κ:Int->Y1 R):∀ (f:Nat),
  (∀ (r:List Y2),r <:+ s->3*r.length+2<f->aN.L1 κ f (B s) (pl s r)=κ (pl s (dc r))) /\
  (∀ (d:Nat) (r:List Y2),r <:+ s->1<=d->d+r.length<=2000000->3*r.length+3<f->aN.L7 κ f (B s) (pl s r) (d:Int)=κ (pl s (dc (kB d r))))
 | 0=>⟨fun r _ h=>by omega,fun d r _ _ _ h=>by omega⟩
 | f+1=>by
  obtain ⟨z,j⟩:=nS s M κ f
  refine ⟨fun r h N => ?_,fun d r h W U N => ?_⟩
  ·rw [DH,aN.t1,iW]
   cases r with
   | nil=>rw [dL,af (by omega),kz,dL]
   | cons c t =>
    have A:=eO h
    have O:=eB (s:=s) (r:=c::t)
    have m:=dZ h
    simp only [length_cons] at N
    rw [ai A,aq,ab O.1,ab A,eT h,gn h M,aq,ab O.1,ab A]
    by_cases c1:c=32
    ·rw [jz 32 rfl c1,cond_true,pu t (.inl c1)]
     exact z t m (by omega)
    ·rw [iX 32 rfl c1,cond_false]
     by_cases c2:c=9
     ·rw [jz 9 rfl c2,cond_true,pu t (.inr c2)]
      exact z t m (by omega)
     ·rw [iX 9 rfl c2,cond_false]
      rw [aq,ab O.1,ab A]
      unfold bne
      by_cases c3:c=40
      ·subst c3
       rw [jz 40 rfl rfl,Bool.not_true,cond_false,xy]
       cases f with
       | zero=>omega
       | succ f =>
        have V:=(nS s M κ f).2
        rw [wF,aN.t7,iW,ai A,aq,ab O.1,ab A,eT h,gn h M,iX (d:=92) 92 rfl (by decide),cond_false,jz 40 rfl rfl,cond_true,iX (d:=41) 41 rfl (by decide),cond_false,show wrap .i64 ((0:Int)+1)=((1:Nat):Int) from wrap_i64 (by omega) (by omega)]
        have X:=dY h
        simp only [length_cons] at X
        exact V 1 t m (by omega) (by omega) (by omega)
      ·rw [iX 40 rfl c3,Bool.not_false,cond_true,xz t c1 c2 c3]
  ·rw [wF,aN.t7,iW]
   cases r with
   | nil =>
    rw [dL,af (by omega),kB]
    exact z [] nil_suffix (by simp at N ⊢;omega)
   | cons c t =>
    have A:=eO h
    have O:=eB (s:=s) (r:=c::t)
    have m:=dZ h
    simp only [length_cons] at N U
    rw [ai A,aq,ab O.1,ab A,eT h,gn h M]
    by_cases c1:c=92
    ·subst c1
     rw [jz 92 rfl rfl,cond_true]
     cases t with
     | nil =>
      rw [dL,af (by omega),iX (d:=40) 40 rfl (by decide),cond_false,iX (d:=41) 41 rfl (by decide),cond_false,ze]
      have:=j d [] nil_suffix W (by simp;omega) (by simp at N ⊢;omega)
      rw [kB,dL] at this
      exact this
     | cons x u =>
      have Y:=eO m
      rw [ai Y,gn m M,Cl]
      simp only [length_cons] at N U
      exact j d u (dZ m) W (by omega) (by omega)
    ·rw [iX 92 rfl c1,cond_false]
     by_cases c2:c=40
     ·subst c2
      rw [jz 40 rfl rfl,cond_true,iX (d:=41) 41 rfl (by decide),cond_false,Cn,show wrap .i64 ((d:Int)+1)=((d+1:Nat):Int) from wrap_i64 (by omega) (by omega)]
      exact j (d+1) t m (by omega) (by omega) (by omega)
     ·rw [iX 40 rfl c2,cond_false]
      by_cases c3:c=41
      ·subst c3
       rw [jz 41 rfl rfl,cond_true,Cm,show wrap .i64 ((d:Int)-1)=((d-1:Nat):Int) by rw [wrap_i64 (by omega) (by omega)];omega]
       by_cases c4:d=1
       ·rw [if_pos c4,gy (by omega),cond_true]
        exact z t m (by omega)
       ·rw [if_neg c4,fY (by omega),cond_false]
        exact j (d-1) t m (by omega) (by omega) (by omega)
      ·rw [iX 41 rfl c3,cond_false,Co d t c1 c2 c3]
       exact j d t m W (by omega) (by omega)
theorem oW (s r:List Y2) (j:s.length<=1000000) (h:r <:+ s) (κ:Int->Y1 R):aN (B s) (pl s r) κ=κ (pl s (dc r)):=by
 have key:∀ f,4000000<f->aN.e (B s) (pl s r) (aN.L1 κ f) (aN.L7 κ f) κ=κ (pl s (dc r)):=
  fun f m=>(nS s j κ f).1 r h (by have:=dY h;omega)
 exact key ah (by unfold ah;omega)
theorem zC (l:List Y2) (A:l.length<=1000000) (κ:BA->Y1 R):∀ (f i:Nat),i<=l.length->l.length<i+f->bf.L3 κ f (B l) (i:Int) (dz (dT (l.take i)))=κ (B (dT l))
 | 0,i,M,N=>by omega
 | f+1,i,M,N=>by
  rw [bf.L3,bf.t3,iW]
  cases z:l.drop i with
  | nil =>
   have:=drop_nil z
   rw [af (by omega),iy,take_of_length_le (by omega)]
  | cons c t =>
   obtain ⟨g1,g2,_⟩:=cG z
   have j:wrap .i64 ((i:Int)+1)=((i+1:Nat):Int):=wrap_i64 (by omega) (by omega)
   have O:=kA c
   have W:(dz (dT (l.take i))).length<=1000000:=by rw [fF,jl,length_take];omega
   have m:∀ d:Y2,d=rA c->dz (dT (l.take i))++[AV.int (d.toNat:Int)]=dz (dT (l.take (i+1))):=fun d e=>by
    rw [hZ,dO g1]
    unfold dT;rw [map_append,e];rfl
   have u:=zC l A κ f (i+1) (by omega) (by omega)
   rw [ai (by omega),aq,ab (by omega),ab (by omega),pw g1,j,ab (by omega),ab (by omega)]
   by_cases U:65<=c.toNat
   ·rw [ai (by omega)]
    by_cases V:c.toNat<=90
    ·rw [ai (by omega),wrap_u8 (by omega) (by omega),<- uy U V,m _ rfl]
     exact u
    ·rw [af (by omega),m c (kJ (by omega)).symm]
     exact u
   ·rw [af (by omega),m c (kJ (by omega)).symm]
    exact u
theorem sA (l:List Y2) (j:l.length<=1000000) (κ:BA->Y1 R):bf (B l) κ=κ (B (dT l)):=by
 have key:∀ f,l.length<f->bf.e (B l) (bf.L3 κ f) κ=κ (B (dT l)):=fun f h=>zC l j κ f 0 (by omega) (by omega)
 exact key ah (by unfold ah;omega)
def zO:List Y2:=[40,41,60,62,64,44,59,58,92,34,47,91,93,63,61]
def xk (c:Y2):Y3:=decide (32<c.toNat)&&(decide (c.toNat<127) && !zO.any (· == c))
theorem G1 (c:Y2):decide (Lib.indexByte zO c>=0)=zO.any (· == c):=by
 have:=Ar (p:=fun c=>decide (Lib.indexByte zO c>=0) == zO.any (· == c)) (by kernel_rfl) c
 simpa using this
theorem A4 (c:Y2) (f:c.toNat<127) (κ:Y3->Y1 R):bj (B zO) (wrap .i32 (c.toNat:Int)) κ=κ (zO.any (· == c)):=by
 have hw:wrap .i32 (c.toNat:Int)=(c.toNat:Int):=by rw [IntKind.wrap_i32];omega
 unfold bj bj.e cD cD.e
 rw [hw,ai (by omega),ai (by omega),wrap_u8 (by omega) (by omega),Hf]
 show κ (decide (Lib.indexByte zO c>=0))=_
 rw [G1]
def dQ (r:List Y2):List Y2:=r.takeWhile xk
def fh (r:List Y2):List Y2:=r.dropWhile xk
theorem tB (r:List Y2):dQ r++fh r=r:=List.takeWhile_append_dropWhile
theorem fi (r:List Y2):fh r <:+ r:=List.dropWhile_suffix _
theorem ff (r:List Y2):(dQ r).length+(fh r).length=r.length:=by
 have:=congrArg List.length (tB r);simpa using this
theorem w9 {c:Y2} {t:List Y2} (h:xk c=true):dQ (c::t)=c::dQ t/\fh (c::t)=fh t:=by unfold dQ fh;simp [h]
theorem ku {c:Y2} {t:List Y2} (h:xk c=false):dQ (c::t)=[]/\fh (c::t)=c::t:=by unfold dQ fh;simp [h]
theorem zi {s f w r:List Y2} (h:f <:+ s) (e:f=w++r):(B s).extract (pl s f).toNat (pl s r).toNat=B w:=by
 obtain ⟨p,rfl⟩:=h
 subst e
 rw [dh]
 congr 1
 unfold pl
 simp only [Int.toNat_natCast,length_append]
 rw [show p.length+(w.length+r.length)-r.length=p.length+w.length by omega,show p.length+(w.length+r.length)-(w.length+r.length)=p.length by omega]
 rw [<- append_assoc,List.take_append_of_le_length (by simp),take_of_length_le (by simp)]
 simp
theorem zS {s f r:List Y2} (h:r.length<=f.length):pl s f<=pl s r:=by unfold pl;omega
theorem sF (s j:List Y2) (N:s.length<=1000000) (z:j <:+ s) (κ:BA->BA->Int->Y1 R):∀ (f:Nat) (w r:List Y2),j=w++r->r.length<f ->
  az.L2 bj κ f (pl s j) (B s) (pl s r)=κ (B (w++dQ r)) (B s) (pl s (fh r))
 | 0,w,r,_,O=>by omega
 | f+1,w,r,e,O=>by
  have A:r <:+ s:=(by rw [e];exact suffix_append _ _:r <:+ j).trans z
  have hm:pl s j<=pl s r:=zS (by rw [e];simp)
  have fin:bo (decide ((0:Int)<=pl s j)&&(decide (pl s j<=pl s r)&&decide (pl s r<=((B s).size:Int)))) (κ ((B s).extract (pl s j).toNat (pl s r).toNat) (B s) (pl s r))=κ (B w) (B s) (pl s r):=by
   rw [iW,aq,ab eB.1,aq,ab hm,ab eB.2,zi z e]
  rw [az.L2,az.t2,fin,iW]
  cases r with
  | nil=>rw [dL,af (by omega)];show _=κ (B (w++[])) _ (pl s []);rw [append_nil,dL]
  | cons c t =>
   have u:=eO A
   have M:=eB (s:=s) (r:=c::t)
   simp only [length_cons] at O
   rw [ai u,aq,ab M.1,ab u,eT A,gn A N]
   by_cases g1:32<c.toNat
   ·rw [ai (by omega),aq,ab M.1,ab u]
    by_cases g2:c.toNat<127
    ·rw [ai (by omega),aq,ab M.1,ab u]
     show bj (B zO) _ _=_
     rw [A4 c g2]
     cases g3:zO.any (· == c) with
     | false =>
      have m:xk c=true:=by unfold xk;rw [decide_eq_true g1,decide_eq_true g2,g3];rfl
      obtain ⟨q1,q2⟩:=w9 (t:=t) m
      rw [q1,q2]
      have:=sF s j N z κ f (w++[c]) t (by rw [e];simp) (by omega)
      rw [append_assoc] at this
      exact this
     | true =>
      have m:xk c=false:=by unfold xk;rw [g3];simp
      obtain ⟨q1,q2⟩:=ku (t:=t) m
      rw [q1,q2,append_nil];rfl
    ·have m:xk c=false:=by unfold xk;rw [decide_eq_false g2];simp
     obtain ⟨q1,q2⟩:=ku (t:=t) m
     rw [af (by omega),q1,q2,append_nil]
   ·have m:xk c=false:=by unfold xk;rw [decide_eq_false g1];simp
    obtain ⟨q1,q2⟩:=ku (t:=t) m
    rw [af (by omega),q1,q2,append_nil]
theorem A6 (s r:List Y2) (j:s.length<=1000000) (h:r <:+ s) (κ:BA->BA->Int->Y1 R):az (B s) (pl s r) κ=κ (B (dQ r)) (B s) (pl s (fh r)):=by
 have key:∀ f,1000000<f->az.e bj (B s) (pl s r) (az.L2 bj κ f) κ=κ (B (dQ r)) (B s) (pl s (fh r)):=
  fun f m=>sF s r j h κ f [] r rfl (by have:=dY h;omega)
 exact key ah (by unfold ah;omega)
theorem wL (c:Y2) (κ:Y3->Y1 R):∀ (f i:Nat),i<=15->15<i+f->bF.L5 κ f (c.toNat:Int) (B zO) (i:Int)=κ (!((zO.drop i).any (· == c)))
 | 0,i,u,z=>by omega
 | f+1,i,u,z=>by
  rw [bF.L5,bF.t5,iW]
  have A:zO.length=15:=rfl
  rw [A]
  cases m:zO.drop i with
  | nil =>
   have:=drop_nil m
   rw [af (by omega)];rfl
  | cons d t =>
   obtain ⟨g1,g2,g3⟩:=cG m
   have j:wrap .i64 ((i:Int)+1)=((i+1:Nat):Int):=wrap_i64 (by omega) (by omega)
   rw [ai (by omega),aq,ab (by omega),ab (by omega),pw g1,j,iZ,wL c κ f (i+1) (by omega) (by omega),g3,List.any_cons]
   cases d == c <;> rfl
theorem JN (c:Y2) (κ:Y3->Y1 R):bF (c.toNat:Int) κ=κ (xk c):=by
 have key:∀ f,15<f->bF.e (c.toNat:Int) (bF.L5 κ f) κ=κ (xk c):=by
  intro f j
  unfold bF.e xk
  by_cases g1:32<c.toNat
  ·rw [af (by omega)]
   by_cases g2:c.toNat<127
   ·rw [af (by omega),decide_eq_true g1,decide_eq_true g2]
    exact wL c κ f 0 (by omega) (by omega)
   ·rw [ai (by omega),decide_eq_false g2];simp
  ·rw [ai (by omega),decide_eq_false g1];rfl
 exact key ah (by unfold ah;omega)
theorem tc (s j:List Y2) (z:s.length<=1000000) (m:j <:+ s) (κ:BA->Y1 R):∀ (f:Nat) (w r:List Y2),j=w++r->r.length<f ->
  aR.L2 bF κ f (B s) (pl s j) (pl s r)=κ (B (w++dQ r))
 | 0,w,r,_,A=>by omega
 | f+1,w,r,e,A=>by
  have u:r <:+ s:=(by rw [e];exact suffix_append _ _:r <:+ j).trans m
  have hm:pl s j<=pl s r:=zS (by rw [e];simp)
  have fin:bo (decide ((0:Int)<=pl s j)&&(decide (pl s j<=pl s r)&&decide (pl s r<=((B s).size:Int)))) (κ ((B s).extract (pl s j).toNat (pl s r).toNat))=κ (B w):=by
   rw [iW,aq,ab eB.1,aq,ab hm,ab eB.2,zi m e]
  rw [aR.L2,aR.t2,fin,iW]
  cases r with
  | nil=>rw [dL,af (by omega)];show _=κ (B (w++[]));rw [append_nil]
  | cons c t =>
   have M:=eO u
   have O:=eB (s:=s) (r:=c::t)
   simp only [length_cons] at A
   rw [ai M,aq,ab O.1,ab M,eT u,gn u z,JN]
   cases N:xk c with
   | true =>
    rw [cond_true,(w9 (t:=t) N).1]
    have:=tc s j z m κ f (w++[c]) t (by rw [e];simp) (by omega)
    rw [append_assoc] at this
    exact this
   | false=>rw [cond_false,(ku (t:=t) N).1,append_nil]
theorem yE (s r:List Y2) (j:s.length<=1000000) (h:r <:+ s) (κ:BA->Y1 R):aR (B s) (pl s r) κ=κ (B (dQ r)):=by
 have key:∀ f,1000000<f->aR.e bF (B s) (pl s r) (aR.L2 bF κ f) κ=κ (B (dQ r)):=
  fun f m=>tc s r j h κ f [] r rfl (by have:=dY h;omega)
 exact key ah (by unfold ah;omega)
theorem lI (s r:List Y2) (f:s.length<=1000000) (h:r <:+ s) (n:Nat) (j:n=(dQ r).length):wrap .i64 (pl s r+(n:Int))=pl s (fh r):=by
 have m:=ff r
 have u:=dY h
 have e:pl s r+(n:Int)=pl s (fh r):=by unfold pl;omega
 rw [e]
 have:=eB (s:=s) (r:=fh r)
 exact wrap_i64 (by omega) (by omega)
def qw:List Y2->List Y2->Option (List Y2 × List Y2)
 | _,[]=>none
 | a,c::t=>if c=34 then some (a,t) else if c=92 then (match t with
   | []=>none
   | x::u=>qw (a++[x]) u) else qw (a++[c]) t
theorem DG:∀ (n:Nat) (a r:List Y2),r.length<=n->∀ v f,qw a r=some (v,f)->f <:+ r/\v.length<=a.length+r.length
 | _,a,[],_,v,f,h=>by rw [qw] at h;cases h
 | 0,a,c::t,h,_,_,_=>by simp at h
 | n+1,a,c::t,j,v,f,h=>by
  simp only [length_cons,Nat.add_le_add_iff_right] at j
  rw [qw.eq_def] at h
  simp only at h
  split at h
  ·cases h;exact ⟨suffix_cons _ _,by omega⟩
  ·split at h
   ·split at h
    ·cases h
    ·rename_i x u
     simp only [length_cons] at j
     obtain ⟨g1,g2⟩:=DG n _ u (by omega) v f h
     refine ⟨(g1.trans (suffix_cons _ _)).trans (suffix_cons _ _),?_⟩
     simp only [length_append,length_cons,length_nil] at g2 ⊢;omega
   ·obtain ⟨g1,g2⟩:=DG n _ t j v f h
    refine ⟨g1.trans (suffix_cons _ _),?_⟩
    simp only [length_append,length_cons,length_nil] at g2 ⊢;omega
def xi (r:List Y2):Option (List Y2 × List Y2):=
 match r with
 | []=>none
 | c::t=>if c=34 then qw [] t else if dQ (c::t)=[] then none else some (dQ (c::t),fh (c::t))
theorem Hm {r v f:List Y2} (h:xi r=some (v,f)):f <:+ r/\v.length<=r.length:=by
 cases r with
 | nil=>cases h
 | cons c t =>
  simp only [xi] at h
  split at h
  ·obtain ⟨g1,g2⟩:=DG _ [] t (Nat.le_refl _) v f h
   exact ⟨g1.trans (suffix_cons _ _),by simp at g2 ⊢;omega⟩
  ·split at h
   ·cases h
   ·cases h
    have:=ff (c::t)
    exact ⟨fi _,by omega⟩
theorem Im (s:List Y2) (j:s.length<=1000000) (κ:BA->Y3->BA->Int->Y1 R):∀ (f:Nat) (a r:List Y2),r <:+ s->a.length+r.length<=2000000->r.length<f ->
  bD.L5 ao az av aT κ f (B s) (pl s r) (dz a)=match qw a r with
   | some (v,O)=>κ (B v) true (B s) (pl s O)
   | none=>κ (B []) false (B s) (pl s [])
 | 0,a,r,_,_,z=>by omega
 | f+1,a,r,h,A,z=>by
  rw [bD.L5,bD.t5,iW,dU]
  cases r with
  | nil=>rw [dL,af (by omega),qw]
  | cons c t =>
   have M:=eO h
   have U:=eB (s:=s) (r:=c::t)
   have m:=dZ h
   simp only [length_cons] at z A
   have hw:∀ (d:Y2) (κ:LA->Y1 R),aT (dz a) (d.toNat:Int) κ=κ (dz (a++[d])):=fun d κ=>by
    rw [D9 _ _ _ (by rw [fF];omega),hZ]
   rw [ai M,aq,ab U.1,ab M,eT h,gn h j,qw.eq_def]
   by_cases c1:c=34
   ·rw [jz 34 rfl c1,cond_true,pi];simp only [c1,if_true]
   ·rw [iX 34 rfl c1,cond_false]
    simp only [c1,if_false]
    by_cases c2:c=92
    ·subst c2
     rw [jz 92 rfl rfl,cond_true]
     simp only [if_true]
     cases t with
     | nil =>
      rw [dL,af (by omega),hw]
      have:=Im s j κ f (a++[92]) [] nil_suffix (by simp;omega) (by simp at z ⊢;omega)
      rw [qw,dL] at this
      exact this
     | cons x u =>
      have N:=eO m
      have V:=eB (s:=s) (r:=x::u)
      rw [ai N,aq,ab V.1,ab N,eT m,gn m j,hw]
      simp only [length_cons] at z A
      exact Im s j κ f (a++[x]) u (dZ m) (by simp;omega) (by omega)
    ·rw [iX 92 rfl c2,cond_false]
     simp only [c2,if_false]
     rw [hw]
     exact Im s j κ f (a++[c]) t m (by simp;omega) (by omega)
def Eb (r:List Y2):List Y2:=
 match r with
 | []=>[]
 | c::t=>if c=34 then [] else c::t
theorem HY (s r : List Y2) (hs : s.length <= 1000000) (h : r <:+ s) (κ : BA -> Y3 -> BA -> Int -> Y1 R) : bD (B s) (pl s r) κ = match xi r with
      | some (v,r')=>κ (B v) true (B s) (pl s r')
      | none=>κ (B []) false (B s) (pl s (Eb r)):=by
 have key:∀ f,1000000<f->bD.e ao az av aT (B s) (pl s r) (bD.L5 ao az av aT κ f) κ=match xi r with
   | some (v,r')=>κ (B v) true (B s) (pl s r')
   | none=>κ (B []) false (B s) (pl s (Eb r)):=by
  intro f hf
  unfold bD.e
  have hl:=dY h
  rw [show (34:Int)=((34:Y2).toNat:Int) from rfl,jk s r 34 hs h]
  cases r with
  | nil =>
   simp only [Bool.not_false,cond_true]
   rw [A6 s [] hs h,dU]
   have:decide (B (dQ [])=B [])=true:=by simp [dQ]
   rw [this];rfl
  | cons c t =>
   have ht:=dZ h
   simp only [length_cons] at hl
   by_cases c1:c=34
   ·simp only [c1,if_true,Bool.not_true,cond_false,xi,Eb]
    exact Im s hs κ f [] t ht (by simp;omega) (by omega)
   ·simp only [c1,if_false,Bool.not_false,cond_true,xi,Eb]
    rw [A6 s _ hs h,dU]
    by_cases c2:dQ (c::t)=[]
    ·rw [if_pos c2]
     have h3:=tB (c::t)
     rw [c2,nil_append] at h3
     rw [h3,c2];simp
    ·rw [if_neg c2]
     have:decide (B (dQ (c::t))=B [])=false:=decide_eq_false fun e=>c2 (eg.1 e)
     rw [this];rfl
 exact key ah (by unfold ah;omega)
theorem Ir (s j:List Y2) (m:s.length<=1000000) (κ:BA->Int->Y3->Y1 R):∀ (f:Nat) (a r:List Y2),r <:+ s->a.length+r.length<=2000000->r.length<f ->
  cU.L8 aR κ f (B s) (pl s j) (pl s r) (dz a)=match qw a r with
   | some (v,V)=>κ (B v) (pl s V) true
   | none=>κ (B []) (pl s j) false
 | 0,a,r,_,_,M=>by omega
 | f+1,a,r,h,O,M=>by
  rw [cU.L8,cU.t8,iW,dU]
  cases r with
  | nil=>rw [dL,af (by omega),qw]
  | cons c t =>
   have z:=eO h
   have N:=eB (s:=s) (r:=c::t)
   have A:=dZ h
   simp only [length_cons] at M O
   have W:(dz a).length<=2000000:=by rw [fF];omega
   rw [ai z,aq,ab N.1,ab z,eT h,gn h m,qw.eq_def]
   by_cases c1:c=34
   ·rw [jz 34 rfl c1,cond_true,iy];simp only [c1,if_true]
   ·rw [iX 34 rfl c1,cond_false,aq,ab N.1,ab z]
    simp only [c1,if_false]
    by_cases c2:c=92
    ·subst c2
     rw [jz 92 rfl rfl,cond_true]
     simp only [if_true]
     cases t with
     | nil =>
      rw [dL,af (by omega),aq,ab N.1,ab z,ab (by omega),hZ]
      have:=Ir s j m κ f (a++[92]) [] nil_suffix (by simp;omega) (by simp at M ⊢;omega)
      rw [qw,dL] at this
      exact this
     | cons x u =>
      have U:=eO A
      have X:=eB (s:=s) (r:=x::u)
      rw [ai U,aq,ab X.1,ab U,eT A,gn A m,ab (by omega),hZ]
      simp only [length_cons] at M O
      exact Ir s j m κ f (a++[x]) u (dZ A) (by simp;omega) (by omega)
    ·rw [iX 92 rfl c2,cond_false,aq,ab N.1,ab z,ab (by omega),hZ]
     simp only [c2,if_false]
     exact Ir s j m κ f (a++[c]) t A (by simp;omega) (by omega)
theorem F8 (s r : List Y2) (hs : s.length <= 1000000) (h : r <:+ s) (κ : BA -> Int -> Y3 -> Y1 R) : cU (B s) (pl s r) κ = match xi r with
      | some (v,r')=>κ (B v) (pl s r') true
      | none=>κ (B []) (pl s r) false:=by
 have key:∀ f,1000000<f->cU.e aR (B s) (pl s r) (cU.L8 aR κ f) κ=match xi r with
   | some (v,r')=>κ (B v) (pl s r') true
   | none=>κ (B []) (pl s r) false:=by
  intro f hf
  unfold cU.e
  have hl:=dY h
  rw [yE s r hs h,dU,iW s]
  cases r with
  | nil =>
   have:decide (B (dQ [])=B [])=true:=by simp [dQ]
   rw [this,Bool.not_true,cond_false,dL,ai (by omega)];rfl
  | cons c t =>
   have ht:=dZ h
   have h1:=eO h
   have h2:=eB (s:=s) (r:=c::t)
   simp only [length_cons] at hl
   by_cases c2:dQ (c::t)=[]
   ·have:decide (B (dQ (c::t))=B [])=true:=decide_eq_true (eg.2 c2)
    rw [this,Bool.not_true,cond_false,af (by omega),aq,ab h2.1,ab h1,eT h,gn h hs]
    unfold bne
    by_cases c1:c=34
    ·rw [jz 34 rfl c1,Bool.not_true,cond_false]
     simp only [xi,c1,if_true]
     have:=Ir s (c::t) hs κ f [] t ht (by simp;omega) (by omega)
     rw [c1] at this
     exact this
    ·rw [iX 34 rfl c1,Bool.not_false,cond_true]
     simp only [xi,c1,if_false,c2,if_true]
   ·have hb:decide (B (dQ (c::t))=B [])=false:=decide_eq_false fun e=>c2 (eg.1 e)
    have c1:c≠34:=fun e=>by
     subst e
     exact c2 (ku (t:=t) (by decide)).1
    rw [hb,Bool.not_false,cond_true,lI s (c::t) hs h _ (by rw [b6])]
    simp only [xi,c1,if_false,c2]
 exact key ah (by unfold ah;omega)
abbrev Pm:=List Y2 × List Y2
def bw (p:Pm):AV := .agg [.str (B p.1),.str (B p.2)]
def Eg (r:List Y2):Option (List Y2 × List Y2 × List Y2):=
 match dc r with
 | []=>none
 | c::t=>if c=59 then (if dT (dQ (dc t))=[] then none else match dc (fh (dc t)) with
   | []=>none
   | c2::t2=>if c2=61 then (match xi (dc t2) with
    | some (v,f)=>some (dT (dQ (dc t)),v,f)
    | none=>none) else none) else none
theorem DA {r n v f:List Y2} (h:Eg r=some (n,v,f)):f <:+ r/\f.length<r.length:=by
 unfold Eg at h
 have j:=dM r
 split at h
 ·cases h
 ·rename_i c t e
  rw [e] at j
  split at h
  ·split at h
   ·cases h
   ·split at h
    ·cases h
    ·rename_i c2 t2 u
     split at h
     ·split at h
      ·rename_i O z A
       cases h
       obtain ⟨g1,g2⟩:=Hm A
       have M:t2 <:+ t:=by
        have:=(dM (fh (dc t))).trans ((fi (dc t)).trans (dM t))
        rw [u] at this
        exact (suffix_cons _ _).trans this
       have m:f <:+ t:=(g1.trans (dM t2)).trans M
       have N:=j.length_le
       simp only [length_cons] at N
       exact ⟨m.trans ((suffix_cons _ _).trans j),by have:=m.length_le;omega⟩
      ·cases h
     ·cases h
  ·cases h
theorem mJ {l:List Y2}:dT l=[] ↔ l=[]:=by
 constructor
 ·intro h;have:=congrArg List.length h;rw [jl] at this;exact List.eq_nil_of_length_eq_zero (by simpa using this)
 ·rintro rfl;rfl
theorem fO (l:List Y2):decide (B l=B [])=decide (l=[]):=decide_eq_decide.2 eg
theorem GV (s r:List Y2) (z:s.length<=1000000) (h:r <:+ s):match Eg r with
  | some (n,v,r')=>∀ κ:BA->BA->Y3->BA->Int->Y1 R,aX (B s) (pl s r) κ=κ (B n) (B v) true (B s) (pl s r')
  | none=>∃ (n v:BA) (p:Int),∀ κ:BA->BA->Y3->BA->Int->Y1 R,aX (B s) (pl s r) κ=κ n v false (B s) p:=by
 have b1:=(dM r).trans h
 have step:∀ κ:BA->BA->Y3->BA->Int->Y1 R,aX (B s) (pl s r) κ=ao (B s) (pl s (dc r)) 59 (fun ax Y ad=>(bif (!ax) then (κ (⟨#[]⟩:BA) (⟨#[]⟩:BA) false Y ad) else (ak Y ad (fun a1 a6=>(az a1 a6 (fun a7 a8 bb=>(bM a7 (fun ae=>(ak a8 bb (fun ap ar=>(bif decide (ae=(⟨#[]⟩:BA)) then (κ (⟨#[]⟩:BA) (⟨#[]⟩:BA) false ap ar) else (ao ap ar 61 (fun A j m=>(bif (!A) then (κ (⟨#[]⟩:BA) (⟨#[]⟩:BA) false j m) else (ak j m (fun M N=>(bD M N (fun O U V W=>(κ ae O U V W))))))))))))))))))):=fun κ=>by
  unfold aX aX.e
  rw [uv s r z h]
 unfold Eg
 cases e:dc r with
 | nil =>
  refine ⟨B [],B [],pl s [],fun κ => ?_⟩
  rw [step,e,show (59:Int)=((59:Y2).toNat:Int) from rfl,jk s [] 59 z nil_suffix]
  rfl
 | cons c t =>
  rw [e] at b1
  have ht:=dZ b1
  by_cases c1:c=59
  ·have b2:=(dM t).trans ht
   have b3:=(fi (dc t)).trans b2
   have b4:=(dM (fh (dc t))).trans b3
   have be:(dQ (dc t)).length<=1000000:=by have:=ff (dc t);have:=b2.length_le;omega
   have f:∀ κ:BA->BA->Y3->BA->Int->Y1 R,aX (B s) (pl s r) κ=bif decide (dT (dQ (dc t))=[]) then κ (B []) (B []) false (B s) (pl s (dc (fh (dc t)))) else (ao (B s) (pl s (dc (fh (dc t)))) 61 (fun A j m=>(bif (!A) then (κ (⟨#[]⟩:BA) (⟨#[]⟩:BA) false j m) else (ak j m (fun M N=>(bD M N (fun O U V W=>(κ (B (dT (dQ (dc t)))) O U V W)))))))):=fun κ=>by
    rw [step,e,show (59:Int)=((59:Y2).toNat:Int) from rfl,jk s (c::t) 59 z b1]
    simp only [c1,if_true,Bool.not_true,cond_false]
    rw [uv s t z ht,A6 s _ z b2,ic _ (by omega),uv s _ z b3,dU,fO]
   simp only [c1,if_true]
   by_cases c2:dT (dQ (dc t))=[]
   ·rw [if_pos c2]
    exact ⟨B [],B [],_,fun κ=>by rw [f,decide_eq_true c2,cond_true]⟩
   ·rw [if_neg c2]
    cases e2:dc (fh (dc t)) with
    | nil =>
     refine ⟨B [],B [],pl s [],fun κ => ?_⟩
     rw [f,decide_eq_false c2,cond_false,e2,show (61:Int)=((61:Y2).toNat:Int) from rfl,jk s [] 61 z nil_suffix]
     rfl
    | cons d u =>
     rw [e2] at b4
     have hu:=dZ b4
     by_cases c3:d=61
     ·simp only [c3,if_true]
      have b5:=(dM u).trans hu
      have X:∀ κ:BA->BA->Y3->BA->Int->Y1 R,aX (B s) (pl s r) κ=match xi (dc u) with
        | some (v,r')=>κ (B (dT (dQ (dc t)))) (B v) true (B s) (pl s r')
        | none=>κ (B (dT (dQ (dc t)))) (B []) false (B s) (pl s (Eb (dc u))):=fun κ=>by
       rw [f,decide_eq_false c2,cond_false,e2,show (61:Int)=((61:Y2).toNat:Int) from rfl,jk s (d::u) 61 z b4]
       simp only [c3,if_true,Bool.not_true,cond_false]
       rw [uv s u z hu,HY s _ z b5]
       try (cases xi (dc u) <;> rfl)
      cases e3:xi (dc u) with
      | none=>exact ⟨_,_,_,fun κ=>by rw [X,e3]⟩
      | some p=>obtain ⟨v,r'⟩:=p;exact fun κ=>by rw [X,e3]
     ·simp only [c3,if_false]
      refine ⟨B [],B [],pl s (d::u),fun κ => ?_⟩
      rw [f,decide_eq_false c2,cond_false,e2,show (61:Int)=((61:Y2).toNat:Int) from rfl,jk s (d::u) 61 z b4]
      simp only [c3,if_false]
      rfl
  ·simp only [c1,if_false]
   refine ⟨B [],B [],pl s (c::t),fun κ => ?_⟩
   rw [step,e,show (59:Int)=((59:Y2).toNat:Int) from rfl,jk s (c::t) 59 z b1]
   simp only [c1,if_false]
   rfl
def BN:Nat->List Pm->List Y2->List Pm
 | 0,a,_=>a
 | n+1,a,r=>if a.length<12 then (match Eg r with
   | none=>a
   | some (m,v,f)=>BN n (if a.any (fun p=>p.1 == m) then a else a++[(m,v)]) f) else a
def wz (r:List Y2):List Pm:=BN (r.length+1) [] r
theorem uB (a:BA) (x:AV):oT .str (.str a) x=decide (a=x.s):=rfl
theorem sL (a b:BA) (v:AV):∀ (l:LA),iM .str (.str a) (gL .str (.str b) v l)=if a=b then some v else iM .str (.str a) l
 | []=>by
  simp only [gL,iM,uB]
  show (bif decide (a=b) then some v else none)=_
  by_cases e:a=b <;> simp [e]
 | x::l=>by
  simp only [gL,uB]
  by_cases e:b=(x.fld 0).s
  ·rw [decide_eq_true e,cond_true]
   simp only [iM,uB]
   show (bif decide (a=b) then some v else iM .str (.str a) l)=_
   by_cases f:a=b
   ·simp [f]
   ·rw [decide_eq_false f,cond_false,if_neg f,decide_eq_false (by rw [<- e];exact f),cond_false]
  ·rw [decide_eq_false e,cond_false]
   simp only [iM,uB]
   by_cases f:a=(x.fld 0).s
   ·rw [decide_eq_true f,cond_true,cond_true,if_neg (fun j=>e (by rw [<- j];exact f))]
   ·rw [decide_eq_false f,cond_false,cond_false]
    exact sL a b v l
theorem sN (a b:BA) (v:AV) (l:LA):iN .str (.str a) (gL .str (.str b) v l)=if a=b then v else iN .str (.str a) l:=by
 unfold iN;rw [sL]
 by_cases e:a=b <;> simp [e]
def Seen (k:Nat) (a:List Pm) (m:LA):Prop:=∀ n:List Y2,∃ c:Nat,(iN .str (.str (B n)) m).i=(c:Int)/\c<=k/\(c=0 ↔ ∀ p∈a,p.1≠n)
theorem yz {a:List Pm} {n:List Y2}:a.any (fun p=>p.1 == n)=false ↔ ∀ p∈a,p.1≠n:=by
 rw [List.any_eq_false]
 constructor
 ·intro h p f e;exact h p f (by simp [e])
 ·intro h p f;simpa using h p f
theorem sE (s:List Y2) (W:s.length<=1000000):∀ (n f k:Nat) (a:List Pm) (r:List Y2) (m:LA),r <:+ s->r.length<n->n<f->k+n<=2000000->Seen k a m->∃ p:Int,∀ κ:LA->BA->Int->Y1 R,
  aL.L3 aX κ f (B s) (pl s r) (a.map bw) m=κ ((BN n a r).map bw) (B s) p
 | 0,f,k,a,r,m,_,Y,_,_,_=>by omega
 | n+1,0,k,a,r,m,_,_,hf,_,_=>by omega
 | n+1,f+1,k,a,r,m,h,Y,hf,hk,hm=>by
  have u:(a.map bw).length=a.length:=length_map ..
  by_cases z:a.length<12
  ·have j:=GV (R:=R) s r W h
   cases e:Eg r with
   | none =>
    rw [e] at j
    obtain ⟨x,v,p,j⟩:=j
    refine ⟨p,fun κ => ?_⟩
    rw [aL.L3,aL.t3,u,ai (by omega),j,BN,if_pos z,e]
    rfl
   | some q =>
    obtain ⟨x,v,X⟩:=q
    rw [e] at j
    replace j:∀ κ:BA->BA->Y3->BA->Int->Y1 R,aX (B s) (pl s r) κ=κ (B x) (B v) true (B s) (pl s X):=j
    obtain ⟨g1,g2⟩:=DA e
    obtain ⟨c,hc,ad,N⟩:=hm x
    have hw:wrap .i64 ((c:Int)+1)=((c+1:Nat):Int):=wrap_i64 (by omega) (by omega)
    have A:Seen (k+1) (if a.any (fun p=>p.1 == x) then a else a++[(x,v)]) (gL .str (.str (B x)) (.int (((c+1:Nat):Int))) m):=by
     intro y
     rw [sN]
     by_cases U:y=x
     ·subst U
      rw [if_pos rfl]
      refine ⟨c+1,rfl,by omega,fun O=>by omega,fun O => ?_⟩
      exfalso
      cases M:a.any (fun p=>p.1 == y) with
      | true =>
       rw [M] at O
       have:=yz.2 O
       rw [if_pos rfl,M] at this;cases this
      | false =>
       rw [M] at O
       exact O (y,v) (by simp) rfl
     ·rw [if_neg (fun e=>U (eg.1 e))]
      obtain ⟨c',h1,h2,h3⟩:=hm y
      refine ⟨c',h1,by omega,h3.trans ?_⟩
      cases M:a.any (fun p=>p.1 == x) with
      | true=>simp
      | false =>
       simp only [Bool.false_eq_true,if_false]
       constructor
       ·intro g p j
        rcases List.mem_append.1 j with j|j
        ·exact g p j
        ·rw [mem_singleton] at j;subst j;exact fun e=>U e.symm
       ·exact fun g p j=>g p (List.mem_append.2 (.inl j))
    obtain ⟨p,V⟩:=sE s W n f (k+1) _ X _ (g1.trans h) (by omega) (by omega) (by omega) A
    refine ⟨p,fun κ => ?_⟩
    rw [aL.L3,aL.t3,u,ai (by omega),j,BN,if_pos z,e]
    simp only [Bool.not_true,cond_false]
    rw [hc,hw,sN,if_pos rfl]
    show (bif (((c+1:Nat):Int) == 1) then _ else _)=_
    rw [<- V κ]
    cases M:a.any (fun p=>p.1 == x) with
    | true =>
     have:c≠0:=fun e0=>by have:=yz.2 (N.1 e0);rw [M] at this;cases this
     rw [fY (by omega),cond_false];rfl
    | false =>
     have:c=0:=N.2 (yz.1 M)
     rw [gy (by omega),cond_true,ab (by omega)]
     simp only [Bool.false_eq_true,if_false,map_append,map_cons,List.map_nil]
     rfl
  ·refine ⟨pl s r,fun κ => ?_⟩
   rw [aL.L3,aL.t3,u,af (by omega),BN,if_neg z]
theorem HW (s r:List Y2) (j:s.length<=1000000) (h:r <:+ s):∃ p:Int,∀ κ:LA->BA->Int->Y1 R,aL (B s) (pl s r) κ=κ ((wz r).map bw) (B s) p:=by
 have key:∀ f,1000002<f->∃ p:Int,∀ κ:LA->BA->Int->Y1 R,aL.e aX (B s) (pl s r) (aL.L3 aX κ f) κ=κ ((wz r).map bw) (B s) p:=
  fun f u=>sE s j (r.length+1) f 0 [] r [] h (by omega) (by have:=dY h;omega) (by have:=dY h;omega) (fun n=>⟨0,rfl,Nat.le_refl _,⟨fun _ p m=>absurd m (by simp),fun _=>rfl⟩⟩)
 exact key ah (by unfold ah;omega)
abbrev G7 (κ:LA->Y1 R) (f:Nat):=bn.L2 aN aR bf cU κ f
abbrev yD (κ:LA->Y1 R) (f:Nat):=bn.Aq aN aR bf cU κ f
theorem DK (κ:LA->Y1 R) (f:Nat) (x0:BA) (j:Int) (m:LA):G7 κ (f+1) x0 j m=bn.t2 aN aR bf cU (yD κ f) κ x0 j m:=by
 try unfold G7
 try unfold yD
 try unfold bn.L2
 try unfold bn.Aq
 rw [bn.M2]
theorem Bj (κ:LA->Y1 R) (f:Nat) (x0:BA) (j:Int) (m u:BA) (z:Y3) (A:Int) (M:LA):yD κ (f+1) x0 j m u z A M=bn.t17 (G7 κ f) (yD κ f) x0 j m u z A M:=by
 try unfold G7
 try unfold yD
 try unfold bn.L2
 try unfold bn.Aq
 rw [bn.M2]
theorem zW (κ:LA->Y1 R) (s:BA) (p:Int) (x v:List Y2) (a:List Pm) (N:a.length<=12) (g:Nat):∀ (f i:Nat) (b:Y3),i<=a.length->a.length<i+f->b=(a.take i).any (fun p=>p.1 == x) ->
  yD κ (f+g) s p (B x) (B v) b (i:Int) (a.map bw)=G7 κ (g+(i+f-a.length-1)) s p (((if a.any (fun p=>p.1 == x) then a else a++[(x,v)])).map bw)
 | 0,i,b,O,U,_=>by omega
 | f+1,i,b,O,U,u=>by
  have z:(a.map bw).length=a.length:=length_map ..
  have A:wrap .i64 ((i:Int)+1)=((i+1:Nat):Int):=wrap_i64 (by omega) (by omega)
  rw [show f+1+g=(f+g)+1 by omega,Bj,bn.t17,z,A]
  by_cases h:i<a.length
  ·have M:a[i]? = some a[i]:=List.getElem?_eq_getElem h
   have V:bi (a.map bw) (i:Int)=bw a[i]:=eD (by rw [List.getElem?_map,M];rfl)
   have W:decide ((((bi (a.map bw) (i:Int)).fld 0).s)=B x)=(a[i].1 == x):=by
    rw [V]
    show decide (B a[i].1=B x)=_
    rw [Bool.eq_iff_iff,decide_eq_true_iff,eg];simp
   have j:(a.take (i+1)).any (fun p=>p.1 == x)=((a.take i).any (fun p=>p.1 == x)||(a[i].1 == x)):=by
    rw [dO M,List.any_append];simp
   rw [ai (by omega),aq,ab (by omega),ab (by omega),W]
   have m:=zW κ s p x v a N g f (i+1)
   have e:i+(f+1)-a.length-1=i+1+f-a.length-1:=by omega
   rw [e]
   cases b with
   | true=>rw [cond_true];exact m true (by omega) (by omega) (by rw [j,<- u];rfl)
   | false=>rw [cond_false];exact m _ (by omega) (by omega) (by rw [j,<- u];rfl)
  ·have X:i=a.length:=by omega
   subst X
   rw [take_length] at u
   rw [af (by omega),u,show g+(a.length+(f+1)-a.length-1)=f+g by omega]
   cases a.any (fun p=>p.1 == x) with
   | true=>rfl
   | false =>
    simp only [Bool.not_false,cond_true]
    rw [ab (by omega)]
    simp only [Bool.false_eq_true,if_false,map_append,map_cons,List.map_nil]
    rfl
theorem ta (s:List Y2) (m:s.length<=1000000) (κ:LA->Y1 R):∀ (n f:Nat) (a:List Pm) (r:List Y2),r <:+ s->r.length<n->20*n<f->a.length<=12 ->
  G7 κ f (B s) (pl s r) (a.map bw)=κ ((BN n a r).map bw)
 | 0,f,a,r,_,hn,_,_=>by omega
 | n+1,0,a,r,_,_,hf,_=>by omega
 | n+1,f+1,a,r,h,hn,hf,ha=>by
  have Y:(a.map bw).length=a.length:=length_map ..
  rw [DK,bn.t2,Y,BN]
  by_cases O:a.length<12
  ·rw [if_pos O,ai (by omega),oW s r m h,iW,dU]
   have A:=(dM r).trans h
   cases j:Eg r with
   | none =>
    unfold Eg at j
    cases e:dc r with
    | nil=>rw [dL,ai (by omega)]
    | cons c t =>
     rw [e] at A j
     have h1:=eO A
     have h2:=eB (s:=s) (r:=c::t)
     have U:=dZ A
     simp only at j
     rw [af (by omega),aq,ab h2.1,ab h1,eT A,gn A m]
     unfold bne
     by_cases c1:c=59
     ·rw [if_pos c1] at j
      have M:=(dM t).trans U
      have V:=(fi (dc t)).trans M
      have z:=(dM (fh (dc t))).trans V
      have N:(dQ (dc t)).length<=1000000:=by have:=ff (dc t);have:=M.length_le;omega
      rw [jz 59 rfl c1,Bool.not_true,cond_false,oW s t m U,yE s _ m M,sA _ N,lI s _ m M _ (by rw [b6,jl]),oW s _ m V,fO]
      by_cases c2:dT (dQ (dc t))=[]
      ·rw [decide_eq_true c2,cond_true]
      ·rw [if_neg c2] at j
       rw [decide_eq_false c2,cond_false]
       cases W:dc (fh (dc t)) with
       | nil=>rw [dL,ai (by omega)]
       | cons d u =>
        rw [W] at z j
        have h3:=eO z
        have h4:=eB (s:=s) (r:=d::u)
        have hu:=dZ z
        simp only at j
        rw [af (by omega),aq,ab h4.1,ab h3,eT z,gn z m]
        by_cases c3:d=61
        ·rw [if_pos c3] at j
         have b5:=(dM u).trans hu
         rw [jz 61 rfl c3,Bool.not_true,cond_false,oW s u m hu,F8 s _ m b5]
         cases X:xi (dc u) with
         | none=>rfl
         | some p=>obtain ⟨v,r'⟩:=p;rw [X] at j;cases j
        ·rw [iX 61 rfl c3,Bool.not_false,cond_true]
     ·rw [iX 59 rfl c1,Bool.not_false,cond_true]
   | some q =>
    obtain ⟨x,v,r'⟩:=q
    obtain ⟨g1,g2⟩:=DA j
    unfold Eg at j
    cases e:dc r with
    | nil=>rw [e] at j;cases j
    | cons c t =>
     rw [e] at A j
     have h1:=eO A
     have h2:=eB (s:=s) (r:=c::t)
     have U:=dZ A
     simp only at j
     rw [af (by omega),aq,ab h2.1,ab h1,eT A,gn A m]
     unfold bne
     by_cases c1:c=59
     ·rw [if_pos c1] at j
      have M:=(dM t).trans U
      have V:=(fi (dc t)).trans M
      have z:=(dM (fh (dc t))).trans V
      have N:(dQ (dc t)).length<=1000000:=by have:=ff (dc t);have:=M.length_le;omega
      rw [jz 59 rfl c1,Bool.not_true,cond_false,oW s t m U,yE s _ m M,sA _ N,lI s _ m M _ (by rw [b6,jl]),oW s _ m V,fO]
      by_cases c2:dT (dQ (dc t))=[]
      ·rw [if_pos c2] at j;cases j
      ·rw [if_neg c2] at j
       rw [decide_eq_false c2,cond_false]
       cases W:dc (fh (dc t)) with
       | nil=>rw [W] at j;cases j
       | cons d u =>
        rw [W] at z j
        have h3:=eO z
        have h4:=eB (s:=s) (r:=d::u)
        have hu:=dZ z
        simp only at j
        rw [af (by omega),aq,ab h4.1,ab h3,eT z,gn z m]
        by_cases c3:d=61
        ·rw [if_pos c3] at j
         have b5:=(dM u).trans hu
         rw [jz 61 rfl c3,Bool.not_true,cond_false,oW s u m hu,F8 s _ m b5]
         cases X:xi (dc u) with
         | none=>rw [X] at j;cases j
         | some p =>
          obtain ⟨v',ad⟩:=p
          rw [X] at j
          cases j
          simp only [Bool.not_true,cond_false]
          have hq:=zW κ (B s) (pl s r') (dT (dQ (dc t))) v a ha (f-13) 13 0 false (by omega) (by omega) (by simp)
          rw [show 13+(f-13)=f by omega] at hq
          refine hq.trans ?_
          refine ta s m κ n _ _ r' (g1.trans h) (by omega) (by omega) ?_
          split
          ·exact ha
          ·simp;omega
        ·rw [if_neg c3] at j;cases j
     ·rw [if_neg c1] at j;cases j
  ·rw [if_neg O,af (by omega)]
theorem G9 (s r:List Y2) (j:s.length<=1000000) (h:r <:+ s) (κ:LA->Y1 R):bn (B s) (pl s r) κ=κ ((wz r).map bw):=by
 have key:∀ f,30000000<f->bn.e aN aR bf cU (B s) (pl s r) (G7 κ f) (yD κ f) κ=κ ((wz r).map bw):=
  fun f m=>ta s j κ (r.length+1) f [] r h (by omega) (by have:=dY h;omega) (by simp)
 exact key ah (by unfold ah;omega)
def dt:List Y2->List Y2->List (List Y2)
 | f,[]=>if f=[] then [] else [f]
 | f,13::10::r=>(f++[13,10])::dt [] r
 | f,c::r=>dt (f++[c]) r
theorem we (f r:List Y2):dt f (13::10::r)=(f++[13,10])::dt [] r:=by rw [dt]
theorem oq (f:List Y2) (c:Y2) (r:List Y2) (h:¬ (c=13/\r.head? = some 10)):dt f (c::r)=dt (f++[c]) r:=by
 rw [dt]
 rintro j rfl rfl;exact h ⟨rfl,rfl⟩
theorem lE (s:BA) (X:(bl s).length<=1000000) (κ:LA->Y1 R):∀ (f i k:Nat) (l:List (List Y2)),i<=(bl s).length->k<=i->l.length<=i->(bl s).length<i+f ->
  bE.L4 κ f s (k:Int) (i:Int) (bH l)=κ (bH (l++dt (((bl s).take i).drop k) ((bl s).drop i)))
 | 0,i,k,l,Y,h2,h3,h4=>by omega
 | f+1,i,k,l,Y,h2,h3,h4=>by
  have m:=fa s
  rw [bE.L4,bE.t4]
  cases A:(bl s).drop i with
  | nil =>
   have:=drop_nil A
   have M:i=(bl s).length:=by omega
   simp (disch:=omega) only [wrap_i64,af,ai,fS]
   by_cases hk:k<i
   ·simp (disch:=first|omega|(simp only [fS];omega)) only [ai,aq,ab]
    congr 1
    have N:((bl s).take i).drop k≠[]:=by
     intro e;have:=congrArg List.length e;simp at this;omega
    rw [ga,dt,if_neg N]
    congr 2
    show AV.str _=AV.str (B _)
    rw [<- iE (s.extract _ _),eH]
    simp [m,M]
   ·have:k=i:=by omega
    subst this
    simp (disch:=omega) only [af]
    rw [dt,if_pos (by simp)];simp
  | cons c r =>
   obtain ⟨g1,g2,g3⟩:=cG A
   cases r with
   | nil =>
    have M:i+1=(bl s).length:=by have:=congrArg List.length A;simp at this;omega
    simp (disch:=omega) only [wrap_i64,af]
    simp (disch:=first|omega|(simp only [fS];omega)) only [ai,aq,ab]
    congr 1
    rw [oq _ _ _ (by simp),ga,dt,if_neg (by simp)]
    congr 2
    show AV.str _=AV.str (B _)
    rw [<- iE (s.extract _ _),eH]
    have:((bl s).take i).drop k++[c]=((bl s).take (i+1)).drop k:=by
     rw [dO g1,List.drop_append_of_le_length (by simp;omega)]
    rw [this]
    simp [m,M]
   | cons d r =>
    obtain ⟨k1,k2,k3⟩:=cG g3
    have O:=tW g1
    have U:=tW k1
    have u:((bl s).take i).drop k++[c]=((bl s).take (i+1)).drop k:=by
     rw [dO g1,List.drop_append_of_le_length (by simp;omega)]
    have V:((bl s).take (i+1)).drop k++[d]=((bl s).take (i+1+1)).drop k:=by
     rw [dO k1,List.drop_append_of_le_length (by simp;omega)]
    simp (disch:=omega) only [wrap_i64,ai,aq,ab]
    simp only [Dt,O,U]
    rw [show (13:Int)=((13:Y2).toNat:Int) from rfl,show (10:Int)=((10:Y2).toNat:Int) from rfl,iZ,iZ]
    have next:¬ (c=13/\d=10)->bE.L4 κ f s (k:Int) ((i+1:Nat):Int) (bH l)=κ (bH (l++dt (((bl s).take i).drop k) (c::d::r))):=by
     intro hn
     rw [lE s X κ f (i+1) k l (by omega) (by omega) (by omega) (by omega),g3,oq _ c _ (by simpa using hn),u]
    by_cases z:c=13
    ·by_cases j:d=10
     ·subst z;subst j
      simp (disch:=first|omega|(simp only [fS];omega)) only [BEq.rfl,cond_true,aq,ab,wrap_i64]
      have:=lE s X κ f (i+1+1) (i+1+1) (l++[((bl s).take i).drop k++[13,10]]) (by omega) (by omega) (by simp;omega) (by omega)
      rw [k3] at this
      rw [we,show l++(((bl s).take i).drop k++[13,10])::dt [] r=(l++[((bl s).take i).drop k++[13,10]])++dt [] r by simp]
      have he:(((bl s).take (i+1+1)).drop (i+1+1))=[]:=by simp
      rw [he] at this
      rw [<- this,ga]
      have hx:AV.str (s.extract (k:Int).toNat ((i:Int)+2).toNat)=AV.str (B (((bl s).take i).drop k++[13,10])):=by
       congr 1
       rw [show ([13,10]:List Y2)=[13]++[10] from rfl,<- append_assoc,u,V,<- iE (s.extract _ _),eH]
       rfl
      rw [hx]
      rfl
     ·have W:(c == 13)=true:=by simp [z]
      have e2:(d == 10)=false:=by simp [j]
      rw [W,e2]
      exact next (fun h=>j h.2)
    ·have W:(c == 13)=false:=by simp [z]
     rw [W]
     exact next (fun h=>z h.1)
def total:List (List Y2)->Nat
 | []=>0
 | x::r=>x.length+total r
theorem m6 (l m:List (List Y2)):total (l++m)=total l+total m:=by
 induction l with
 | nil=>simp [total]
 | cons x r f=>simp [total,f];omega
theorem gY (f s:List Y2):total (dt f s)=f.length+s.length:=by
 fun_induction dt f s with
 | case1=>simp [total]
 | case2 f h=>simp [total]
 | case3 f r j=>simp [total,j];omega
 | case4 f c r h j=>simp [j];omega
theorem lD (s:List Y2):(dt [] s).length<=s.length:=by
 have ht:=gY [] s
 simp only [length_nil,Nat.zero_add] at ht
 rw [<- ht]
 have:∀ (cur t:List Y2),(dt cur t).length<=total (dt cur t):=by
  intro cur t
  fun_induction dt cur t with
  | case1=>simp
  | case2 cur h => have : cur.length ≠ 0 := by simpa using h
                   simp [total];omega
  | case3 cur r ih=>simp [total];omega
  | case4 cur c r h ih=>exact ih
 exact this _ _
theorem wg (s:BA) (m:(bl s).length<=1000000) (κ:LA->Y1 R) (f:Nat) (u:(bl s).length<f):bE.e s (bE.L4 κ f) κ=κ (bH (dt [] (bl s))):=by
 unfold bE.e
 have j:=lE s m κ f 0 0 [] (Nat.zero_le _) (Nat.le_refl _) (Nat.le_refl _) (by omega)
 simp only [List.take_zero,drop_zero,nil_append] at j
 exact j
theorem tg (s:BA) (f:(bl s).length<=1000000) (κ:LA->Y1 R):bE s κ=κ (bH (dt [] (bl s))):=
 wg s f κ ah (by unfold ah;omega)
def dl (c:Y2):Y3:=c == 32||c == 9
def kh (c:Y2):Y3:=decide (32<c.toNat)&&(decide (c.toNat<127)&&c != 58)
def fC (c:List Y2):List Y2:=c.takeWhile kh
def jZ (c:List Y2):Nat:=(fC c).length+((c.drop (fC c).length).takeWhile dl).length
def eV (c:List Y2):Y3:=decide (fC c≠[])&&(c[jZ c]? == some 58)
theorem qe (c:Y2) (κ:Y3->Y1 R):aY (c.toNat:Int) κ=κ (dl c):=by
 unfold aY aY.e
 rw [jN c 32 32 rfl,jN c 9 9 rfl]
 unfold dl
 cases (c == 32) <;> rfl
theorem iY (c:Y2) (κ:Y3->Y1 R):aS (c.toNat:Int) κ=κ (dl c):=by
 unfold aS aS.e
 rw [jN c 32 32 rfl,jN c 9 9 rfl]
 unfold dl
 cases (c == 32) <;> rfl
theorem xr (c n:List Y2) (i:Nat) (κ:BA->Y3->Y1 R) :
  (bif (!decide (B n=(⟨#[]⟩:BA))) then (bif (decide ((i:Int)<((B c).size:Int))) then (bo ((decide ((0:Int)<=(i:Int)))&&(decide ((i:Int)<((B c).size:Int)))) (κ (B n) ((dP (B c) (i:Int)) == 58))) else (κ (B n) false)) else (κ (B n) false))
   = κ (B n) (decide (n≠[])&&(c[i]? == some 58)):=by
 simp only [b6,dU,eg]
 by_cases f:n=[]
 ·subst f;rfl
 ·simp only [f,decide_false,Bool.not_false,cond_true,ne_eq,not_false_eq_true,decide_true,Bool.true_and]
  by_cases j:i<c.length
  ·simp (disch:=omega) only [ai,aq,ab]
   rw [pw (List.getElem?_eq_getElem j),jN _ 58 58 rfl,List.getElem?_eq_getElem j]
   rfl
  ·simp (disch:=omega) only [af]
   rw [List.getElem?_eq_none (by omega)];rfl
theorem rT (c n:List Y2) (m:c.length<=1000000) (κ:BA->Y3->Y1 R):∀ (f i:Nat),i<=c.length->c.length<i+f ->
  bZ.L5 aY κ f (B c) (i:Int) (B n)=κ (B n) (decide (n≠[])&&(c[i+((c.drop i).takeWhile dl).length]? == some 58))
 | 0,i,u,z=>by omega
 | f+1,i,u,z=>by
  rw [bZ.L5,bZ.t5]
  simp only [xr]
  simp only [b6]
  cases j:c.drop i with
  | nil =>
   have:=drop_nil j
   simp (disch:=omega) only [af]
   rfl
  | cons b r =>
   obtain ⟨g1,g2,g3⟩:=cG j
   simp (disch:=omega) only [ai,aq,ab,pw g1,qe,wrap_i64]
   rw [takeWhile_cons]
   cases A:dl b with
   | false=>rfl
   | true =>
    simp only [cond_true,Dt,if_true,length_cons]
    rw [rT c n m κ f (i+1) (by omega) (by omega),g3]
    congr 4;omega
theorem zz (c:Y2):kh c=(decide ((c.toNat:Int)>32)&&(decide ((c.toNat:Int)<127)&&((c.toNat:Int) != 58))):=by
 rw [Cb c 58 58 rfl];unfold kh
 congr 1
 ·rw [decide_eq_decide];omega
 ·congr 1
  rw [decide_eq_decide];omega
theorem rS (c:List Y2) (U:c.length<=1000000) (κ:BA->Y3->Y1 R):∀ (f i:Nat),i<=c.length->2*c.length+2<i+f->c.take i=(c.take i).takeWhile kh ->
  bZ.L2 aY κ f (B c) (i:Int)=κ (B (fC c)) (eV c)
 | 0,i,V,Y,A=>by omega
 | f+1,i,V,Y,A=>by
  have fin:fC c=c.take i->bZ.L5 aY κ f (B c) (i:Int) ((B c).extract ((0:Int)).toNat ((i:Int)).toNat)=κ (B (fC c)) (eV c):=by
   intro W
   rw [dh]
   simp only [Int.toNat_zero,drop_zero,Int.toNat_natCast]
   rw [rT c _ U κ f i V (by omega),W]
   unfold eV jZ
   have hl:(c.take i).length=i:=by simp;omega
   rw [W,hl]
  rw [bZ.L2,bZ.t2]
  have j:fC c=c.take i++(c.drop i).takeWhile kh:=by
   unfold fC
   conv=>lhs;rw [<- take_append_drop i c]
   rw [List.takeWhile_append_of_pos]
   rw [A];intro a M;exact List.all_eq_true.1 all_takeWhile a M
  cases u:c.drop i with
  | nil =>
   have:=drop_nil u
   simp only [b6]
   simp (disch:=omega) only [af,aq,ab]
   exact fin (by rw [j,u];simp)
  | cons b r =>
   obtain ⟨g1,g2,g3⟩:=cG u
   simp only [b6]
   simp (disch:=omega) only [ai,aq,ab,pw g1,wrap_i64]
   have m:kh b=false->fC c=c.take i:=by
    intro m;rw [j,u,takeWhile_cons,m];simp
   rw [zz] at m
   cases z:decide ((b.toNat:Int)>32) with
   | false=>exact fin (m (by rw [z];rfl))
   | true =>
    cases N:decide ((b.toNat:Int)<127) with
    | false=>exact fin (m (by rw [z,N];rfl))
    | true =>
     cases X:((b.toNat:Int) != 58) with
     | false=>exact fin (m (by rw [z,N,X];rfl))
     | true =>
      have O:kh b=true:=by rw [zz,z,N,X];rfl
      exact rS c U κ f (i+1) (by omega) (by omega) (by
       rw [dO g1,List.takeWhile_append_of_pos (by rw [A];intro a M;exact List.all_eq_true.1 all_takeWhile a M)]
       simp [O])
theorem tT (c:List Y2) (j:c.length<=1000000) (κ:BA->Y3->Y1 R) (f:Nat) (m:2*c.length+2<f) :
  bZ.e aY (B c) (bZ.L2 aY κ f) (bZ.L5 aY κ f) κ=κ (B (fC c)) (eV c):=
 rS c j κ f 0 (by omega) (by omega) (by simp)
theorem Av (c:List Y2) (f:c.length<=1000000) (κ:BA->Y3->Y1 R):bZ (B c) κ=κ (B (fC c)) (eV c):=
 tT c f κ ah (by unfold ah;omega)
def ln:List Y2->Nat
 | []=>0
 | 13::10::_=>2
 | _::r=>1+ln r
theorem kI (r:List Y2):ln (13::10::r)=2:=by rw [ln]
theorem o7 (c:Y2) (r:List Y2) (h:¬ (c=13/\r.head? = some 10)):ln (c::r)=1+ln r:=by
 rw [ln]
 rintro f rfl rfl;exact h ⟨rfl,rfl⟩
theorem FU (l:List Y2):ln l<=l.length:=by
 fun_induction ln l with
 | case1=>simp
 | case2=>simp
 | case3 c r h f=>simp;omega
theorem Di (c:Y2) (r:List Y2):0<ln (c::r):=by
 by_cases h:c=13/\r.head? = some 10
 ·obtain ⟨rfl,f⟩:=h
  cases r with
  | nil=>simp at f
  | cons d r=>simp at f;subst f;rw [kI];omega
 ·rw [o7 _ _ h];omega
theorem A9 (f l:List Y2):dt f l=if f++l=[] then [] else (f++l.take (ln l))::dt [] (l.drop (ln l)):=by
 fun_induction dt f l with
 | case1=>simp
 | case2 f h=>simp [h,ln,dt]
 | case3 f r m=>simp [kI]
 | case4 f c r h m =>
  rw [m,o7 c r (by rintro ⟨rfl,j⟩;cases r with|nil=>simp at j|cons d r=>simp at j;subst j;exact h r rfl rfl)]
  simp [Nat.add_comm 1]
theorem oo (c:Y2) (r:List Y2):dt [] (c::r)=(c::r).take (ln (c::r))::dt [] ((c::r).drop (ln (c::r))):=by
 rw [A9,if_neg (by simp)];rfl
theorem gB (l:List Y2):List.isPrefixOf [13,10] l=true ↔ ∃ r,l=13::10::r:=by
 rw [isPrefixOf_iff_prefix]
 exact ⟨fun ⟨t,h⟩=>⟨t,h.symm⟩,fun ⟨t,h⟩=>⟨t,h.symm⟩⟩
theorem vj (c:Y2) (r:List Y2):List.isPrefixOf [13,10] (c::r)=true ↔ (c=13/\r.head? = some 10):=by
 rw [gB]
 constructor
 ·rintro ⟨t,h⟩;cases h;exact ⟨rfl,rfl⟩
 ·rintro ⟨rfl,h⟩
  cases r with
  | nil=>simp at h
  | cons d r=>simp at h;subst h;exact ⟨r,rfl⟩
theorem wh:∀ l:List Y2,(Lib.index l [13,10] = -1/\ln l=l.length)∨(0<=Lib.index l [13,10]/\(ln l:Int)=Lib.index l [13,10]+2)
 | []=>Or.inl ⟨rfl,rfl⟩
 | c::r=>by
  by_cases h:c=13/\r.head? = some 10
  ·have f:=(vj c r).2 h
   obtain ⟨z,u⟩:=(gB _).1 f
   rw [ft,if_pos f,u,kI]
   exact Or.inr ⟨by omega,by omega⟩
  ·have f:¬ List.isPrefixOf [13,10] (c::r)=true:=fun e=>h ((vj c r).1 e)
   rw [ft,if_neg f,o7 c r h]
   rcases wh r with ⟨j,m⟩|⟨j,m⟩
   ·rw [j];exact Or.inl ⟨rfl,by simp [m];omega⟩
   ·have:(Lib.index r [13,10] == -1)=false:=by simp;omega
    rw [this]
    exact Or.inr ⟨by simp;omega,by simp;omega⟩
theorem ux (l:List Y2):l.take (ln l)=[13,10] ↔ List.isPrefixOf [13,10] l=true:=by
 rw [gB]
 constructor
 ·intro h
  refine ⟨l.drop (ln l),?_⟩
  conv=>lhs;rw [<- take_append_drop (ln l) l,h]
  rfl
 ·rintro ⟨r,rfl⟩;rw [kI];rfl
def dF (l:List Y2):List (List Y2):=(dt [] l).takeWhile fun x=>x != [13,10]
theorem nB:dF []=[]:=by unfold dF;rw [dt];rfl
theorem qb {l:List Y2} (h:List.isPrefixOf [13,10] l=true):dF l=[]:=by
 obtain ⟨r,rfl⟩:=(gB l).1 h
 unfold dF;rw [oo,kI];simp
theorem qa {c:Y2} {r:List Y2} (h:List.isPrefixOf [13,10] (c::r)=false):dF (c::r)=(c::r).take (ln (c::r))::dF ((c::r).drop (ln (c::r))):=by
 unfold dF;rw [oo,takeWhile_cons]
 have:((c::r).take (ln (c::r)) != [13,10])=true:=by
  rw [bne_iff_ne];intro e;rw [ux,h] at e;cases e
 rw [this];simp
def dK:Y3->List Y2->List (List Y2)->List (List Y2 × List Y2 × Y3 × Y3)
 | _,_,[]=>[]
 | fld,f,c::r=>bif dl (c.headD 0) then (c,f,false,fld)::dK fld f r else (c,fC c,eV c,eV c)::dK (eV c) (fC c) r
def ec (x:List Y2 × List Y2 × Y3 × Y3):AV := .agg [.str (B x.1),.str (B x.2.1),.bool x.2.2.1,.bool x.2.2.2]
theorem uQ (κ:LA->Y1 R):∀ (f:Nat) (h:List Y2) (fld:Y3) (j:List Y2) (acc:List (List Y2 × List Y2 × Y3 × Y3)),h.length<f->acc.length+h.length<=1000000 ->
  bA.L3 bc aO aY bZ κ f (B h) fld (B j) (acc.map ec)=κ ((acc++dK fld j (dF h)).map ec)
 | 0,h,fld,j,acc,W,X=>by omega
 | f+1,h,fld,j,acc,W,X=>by
  rw [bA.L3,bA.t3]
  rw [show (⟨#[13,10]⟩:BA)=B [13,10] from rfl,dU]
  simp only [eg,p8,qc h [13,10] (by omega)]
  cases h with
  | nil=>rw [nB];simp [dK]
  | cons c r =>
   simp only [reduceCtorEq,decide_false,Bool.not_false,cond_true]
   cases O:List.isPrefixOf [13,10] (c::r) with
   | true=>rw [qb O];simp [dK]
   | false =>
    rw [qa O]
    have hle:=FU (c::r)
    have U:=Di c r
    have key:∀ (n:Int),n=(ln (c::r):Int) ->
      (bo ((decide ((0:Int)<=n))&&(decide (n<=((B (c::r)).size:Int)))) (bo (decide ((0:Int)<((B (c::r)).size:Int))) (aY (dP (B (c::r)) 0) (fun M=>(bif (!M) then (bZ ((B (c::r)).extract ((0:Int)).toNat (n).toNat) (fun z u=>(bo (decide (((acc.map ec).length+1)*40<=140737488355328)) (bo ((decide ((0:Int)<=n))&&((decide (n<=((B (c::r)).size:Int)))&&(decide (((B (c::r)).size:Int)<=((B (c::r)).size:Int))))) (bA.L3 bc aO aY bZ κ f ((B (c::r)).extract (n).toNat (((B (c::r)).size:Int)).toNat) u z ((acc.map ec)++[AV.agg [AV.str ((B (c::r)).extract ((0:Int)).toNat (n).toNat),AV.str z,AV.bool u,AV.bool u]])))))) else (bo (decide (((acc.map ec).length+1)*40<=140737488355328)) (bo ((decide ((0:Int)<=n))&&((decide (n<=((B (c::r)).size:Int)))&&(decide (((B (c::r)).size:Int)<=((B (c::r)).size:Int))))) (bA.L3 bc aO aY bZ κ f ((B (c::r)).extract (n).toNat (((B (c::r)).size:Int)).toNat) fld (B j) ((acc.map ec)++[AV.agg [AV.str ((B (c::r)).extract ((0:Int)).toNat (n).toNat),AV.str (B j),AV.bool false,AV.bool fld]])))))))))
      = κ ((acc++dK fld j ((c::r).take (ln (c::r))::dF ((c::r).drop (ln (c::r))))).map ec):=by
     intro n Y
     subst Y
     have hb:dP (B (c::r)) 0=c.toNat:=pw (i:=0) rfl
     have hlen:(c::r).length=r.length+1:=rfl
     simp only [b6,length_map,hb,qe]
     simp (disch:=omega) only [aq,ab]
     simp only [dh,Int.toNat_natCast,Int.toNat_zero,drop_zero,take_length]
     rw [dK]
     have hd:((c::r).take (ln (c::r))).headD 0=c:=by
      obtain ⟨m,hm⟩:∃ m,ln (c::r)=m+1:=⟨ln (c::r)-1,by omega⟩
      rw [hm];rfl
     rw [hd]
     have A:((c::r).drop (ln (c::r))).length<f:=by rw [length_drop];omega
     cases ad:dl c with
     | true =>
      simp only [Bool.not_true,cond_false,cond_true]
      rw [show (acc.map ec)++[AV.agg [AV.str (B ((c::r).take (ln (c::r)))),AV.str (B j),AV.bool false,AV.bool fld]]=(acc++[((c::r).take (ln (c::r)),j,false,fld)]).map ec by simp [ec]]
      rw [uQ κ f _ fld j _ A (by simp;omega)]
      simp
     | false =>
      simp only [Bool.not_false,cond_false,cond_true]
      rw [Av _ (by rw [length_take];omega)]
      rw [show (acc.map ec)++[AV.agg [AV.str (B ((c::r).take (ln (c::r)))),AV.str (B (fC ((c::r).take (ln (c::r))))),AV.bool (eV ((c::r).take (ln (c::r)))),AV.bool (eV ((c::r).take (ln (c::r))))]]=(acc++[((c::r).take (ln (c::r)),fC ((c::r).take (ln (c::r))),eV ((c::r).take (ln (c::r))),eV ((c::r).take (ln (c::r))))]).map ec by simp [ec]]
      rw [uQ κ f _ _ _ _ A (by simp;omega)]
      simp
    simp only [Bool.not_false,cond_true]
    rcases wh (c::r) with ⟨V,N⟩|⟨V,N⟩
    ·rw [V]
     rw [af (by omega)]
     exact key _ (by rw [b6,N])
    ·have hw:wrap .i64 (Lib.index (c::r) [13,10]+2)=(ln (c::r):Int):=by rw [<- N];exact wrap_i64 (by omega) (by omega)
     rw [ai (by omega)]
     exact key _ hw
theorem yI (h:List Y2) (m:h.length<=1000000) (κ:LA->Y1 R) (f:Nat) (j:h.length<f) :
  bA.e bc aO aY bZ (B h) (bA.L3 bc aO aY bZ κ f) κ=κ ((dK false [] (dF h)).map ec):=
 uQ κ f h false [] [] j (by simp;omega)
theorem z7 (h:List Y2) (f:h.length<=1000000) (κ:LA->Y1 R):bA (B h) κ=κ ((dK false [] (dF h)).map ec):=
 yI h f κ ah (by unfold ah;omega)
def fT (p:Y2->Y3) (l:List Y2):List Y2:=(l.reverse.dropWhile p).reverse
theorem jJ (p:Y2->Y3) (l:List Y2) (c:Y2):fT p (l++[c])=if p c then fT p l else l++[c]:=by
 unfold fT
 rw [List.reverse_append,List.reverse_singleton,singleton_append,dropWhile_cons]
 split <;> simp
theorem Br {p:Y2->Y3}:∀ {l:List Y2},(∀ a∈l,p a=true)->fT p l=[]:=by
 intro l h
 unfold fT
 rw [pJ.2 (by intro a f;exact h a (List.mem_reverse.1 f))];rfl
theorem mX {p:Y2->Y3} (a:List Y2) {c:Y2} (d:List Y2) (f:p c=false):fT p (a++c::d)=a++fT p (c::d):=by
 unfold fT
 rw [List.reverse_append,List.reverse_cons,append_assoc]
 simp only [List.dropWhile_append]
 split
 ·simp [f]
 ·simp
theorem qM {p:Y2->Y3} {c:Y2} (d:List Y2) (f:p c=false):∃ e,fT p (c::d)=c::e:=by
 refine ⟨fT p (c::d) |>.tail,?_⟩
 have:=mX (p:=p) [] (c:=c) d f
 unfold fT at this ⊢
 rw [List.reverse_cons,List.dropWhile_append]
 split
 ·simp [f]
 ·simp
def e6 (l:List Y2):List Y2:=fT dl (l.dropWhile dl)
theorem BE (p:Y2->Y3) (l:List Y2):(fT p l).dropWhile p=fT p (l.dropWhile p):=by
 have m:l=l.takeWhile p++l.dropWhile p:=List.takeWhile_append_dropWhile.symm
 cases f:l.dropWhile p with
 | nil =>
  have:∀ a∈l,p a=true:=pJ.1 f
  rw [Br this];rfl
 | cons c d =>
  have j:p c=false:=by
   have:=List.head?_dropWhile_not p l
   rw [f] at this;simpa using this
  conv=>lhs;rw [m,f,mX _ _ j]
  obtain ⟨e,he⟩:=qM (p:=p) d j
  rw [List.dropWhile_append_of_pos (by intro a u;exact List.all_eq_true.1 all_takeWhile a u),he,dropWhile_cons,j]
  simp
theorem lC {l:List Y2} (h:l≠[]):∃ t c,l=t++[c]:=⟨l.dropLast,l.getLast h,(List.dropLast_concat_getLast h).symm⟩
theorem Ag (κ:BA->Y1 R):∀ (f:Nat) (l:List Y2),l.length<f->l.length<=1000000->de.L3 aS κ f (B l)=κ (B (fT dl l))
 | 0,l,h,m=>by omega
 | f+1,l,h,m=>by
  rw [de.L3,de.t3]
  simp only [b6]
  by_cases j:l=[]
  ·subst j;rfl
  ·obtain ⟨t,c,rfl⟩:=lC j
   have hlen:(t++[c]).length=t.length+1:=by simp
   have hw:wrap .i64 (((t++[c]).length:Int)-1)=(t.length:Int):=by rw [hlen,wrap_i64 (by omega) (by omega)];omega
   have u:(t++[c])[t.length]? = some c:=by simp
   simp only [hw]
   simp (disch:=omega) only [ai,aq,ab,pw u,iY]
   rw [jJ]
   cases z:dl c with
   | false=>simp
   | true =>
    simp only [cond_true,if_true,dh,Int.toNat_zero,Int.toNat_natCast,drop_zero]
    rw [List.take_left' rfl]
    exact Ag κ f t (by omega) (by omega)
theorem Af (κ:BA->Y1 R):∀ (f:Nat) (l:List Y2),2*l.length+2<f->l.length<=1000000->de.L1 aS κ f (B l)=κ (B (e6 l))
 | 0,l,h,j=>by omega
 | f+1,l,h,j=>by
  rw [de.L1,de.t1,Ag κ f l (by omega) j]
  simp only [b6]
  cases l with
  | nil=>rfl
  | cons c r =>
   have hlen:(c::r).length=r.length+1:=rfl
   have m:dP (B (c::r)) 0=c.toNat:=pw (i:=0) rfl
   simp (disch:=omega) only [ai,aq,ab,m,iY]
   unfold e6
   rw [dropWhile_cons]
   cases u:dl c with
   | false=>rfl
   | true =>
    simp only [cond_true,if_true,dh,Int.toNat_natCast,take_length]
    exact Af κ f r (by omega) (by omega)
theorem yS (l:List Y2) (j:l.length<=1000000) (κ:BA->Y1 R) (f:Nat) (m:2*l.length+2<f) :
  de.e aS (B l) (de.L1 aS κ f) (de.L3 aS κ f) κ=κ (B (e6 l)):=Af κ f l m j
theorem FB (l:List Y2) (f:l.length<=1000000) (κ:BA->Y1 R):de (B l) κ=κ (B (e6 l)):=yS l f κ ah (by unfold ah;omega)
def pr:LA:=eF (eF (List.replicate 256 (AV.bool false)) 32 (AV.bool true)) 9 (AV.bool true)
theorem Ay:(List.range 256).all (fun n=>(bi pr (n:Int)).b == dl (UInt8.ofNat n))=true:=by kernel_rfl
theorem contains_eq (c:Y2) (κ:Y3->Y1 R):au pr (c.toNat:Int) κ=κ (dl c):=by
 unfold au au.e
 have f:=kA c
 simp (disch:=omega) only [aq,ab]
 have:=List.all_eq_true.1 Ay c.toNat (List.mem_range.2 f)
 rw [beq_iff_eq] at this
 rw [this,UInt8.ofNat_toNat]
theorem yj (κ:LA->Y3->Y1 R):cj (⟨#[32,9]⟩:BA) κ=κ pr true:=by kernel_rfl
theorem xe (κ:BA->Y1 R):∀ (f:Nat) (l:List Y2),l.length<f->l.length<=1000000->bm.L1 au κ f (B l) pr=κ (B (fT dl l))
 | 0,l,h,m=>by omega
 | f+1,l,h,m=>by
  rw [bm.L1,bm.t1]
  simp only [b6]
  by_cases j:l=[]
  ·subst j;rfl
  ·obtain ⟨t,c,rfl⟩:=lC j
   have hlen:(t++[c]).length=t.length+1:=by simp
   have hw:wrap .i64 (((t++[c]).length:Int)-1)=(t.length:Int):=by rw [hlen,wrap_i64 (by omega) (by omega)];omega
   have u:(t++[c])[t.length]? = some c:=by simp
   simp only [hw]
   simp (disch:=omega) only [ai,aq,ab,pw u,contains_eq]
   rw [jJ]
   cases z:dl c with
   | false=>simp
   | true =>
    simp only [Bool.not_true,cond_false,if_true,dh,Int.toNat_zero,Int.toNat_natCast,drop_zero]
    rw [List.take_left' rfl]
    exact xe κ f t (by omega) (by omega)
theorem tC (κ:BA->Y1 R):∀ (f:Nat) (l:List Y2),l.length<f->l.length<=1000000->bu.L1 au κ f (B l) pr=κ (B (l.dropWhile dl))
 | 0,l,h,j=>by omega
 | f+1,l,h,j=>by
  rw [bu.L1,bu.t1]
  simp only [b6]
  cases l with
  | nil=>rfl
  | cons c r =>
   have hlen:(c::r).length=r.length+1:=rfl
   have m:dP (B (c::r)) 0=c.toNat:=pw (i:=0) rfl
   simp (disch:=omega) only [ai,aq,ab,m,contains_eq]
   rw [dropWhile_cons]
   cases u:dl c with
   | false=>rfl
   | true =>
    simp only [Bool.not_true,cond_false,if_true,dh,Int.toNat_natCast,take_length]
    exact tC κ f r (by omega) (by omega)
theorem xf (l:List Y2) (j:l.length<=1000000) (κ:BA->Y1 R) (f:Nat) (m:l.length<f) :
  bm.e au (B l) pr (bm.L1 au κ f) κ=κ (B (fT dl l)):=xe κ f l m j
theorem uV (l:List Y2) (j:l.length<=1000000) (κ:BA->Y1 R) (f:Nat) (m:l.length<f) :
  bu.e au (B l) pr (bu.L1 au κ f) κ=κ (B (l.dropWhile dl)):=tC κ f l m j
theorem tk (p:Y2->Y3) (l:List Y2):(fT p l).length<=l.length:=by
 unfold fT
 rw [List.length_reverse]
 have:=(List.dropWhile_sublist p (l:=l.reverse)).length_le
 simpa using this
theorem qO (l:List Y2) (j:l.length<=1000000) (κ:BA->Y1 R):bR (B l) (⟨#[32,9]⟩:BA) κ=κ (B (e6 l)):=by
 unfold bR bR.e
 rw [show decide ((⟨#[32,9]⟩:BA)=(⟨#[]⟩:BA))=false from by decide]
 simp only [yj,cond_false]
 by_cases f:l=[]
 ·subst f;rfl
 ·rw [decide_eq_false (show ¬ B l=(⟨#[]⟩:BA) from fun e=>f (eg.1 e))]
  simp only [cond_false]
  rw [show (((⟨#[32,9]⟩:BA).size:Int) == 1)=false from rfl]
  simp only [cond_false,cond_true]
  have m:=tk dl l
  unfold bm bu
  rw [xf l j _ ah (by unfold ah;omega),uV _ (by omega) _ ah (by unfold ah;omega),BE]
  rfl
def fb (c:List Y2):List Y2:=if c.drop (c.length-2)=[13,10] then c.take (c.length-2) else c
theorem ie (c:List Y2):(fb c).length<=c.length:=by unfold fb;split <;> simp
theorem li (c:List Y2) (j:c.length<=1000000) (κ:BA->Y1 R):aQ (B c) (⟨#[13,10]⟩:BA) κ=κ (B (fb c)):=by
 unfold aQ aQ.e cL cL.e bN bN.e
 rw [show (⟨#[13,10]⟩:BA)=B [13,10] from rfl]
 have f:([13,10]:List Y2).length=2:=rfl
 simp only [b6,f,dh,eg]
 unfold fb
 by_cases h:2<=c.length
 ·have hw:wrap .i64 ((c.length:Int)-((2:Nat):Int))=((c.length-2:Nat):Int):=by rw [wrap_i64 (by omega) (by omega)];omega
  simp only [hw,Int.toNat_natCast]
  simp (disch:=omega) only [ai,aq,ab]
  simp only [take_length,Int.toNat_zero,drop_zero]
  by_cases e:c.drop (c.length-2)=[13,10]
  ·rw [ai e,if_pos e]
  ·rw [af e,if_neg e]
 ·have e:c.drop (c.length-2)≠[13,10]:=by intro e;have:=congrArg List.length e;rw [length_drop] at this;simp at this;omega
  simp (disch:=omega) only [af,cond_false]
  rw [if_neg e]
theorem tS (c:List Y2) (N:c.length<=1000000) (κ:BA->Y1 R):bU (B c) κ=κ (B (fb c)):=by
 unfold bU bU.e
 simp only [b6]
 unfold fb
 by_cases h:2<=c.length
 ·obtain ⟨x,r,z⟩:=mh (l:=c) (i:=c.length-2) (by omega)
  obtain ⟨g1,g2,g3⟩:=cG z
  obtain ⟨y,A,hy⟩:=mh (l:=c) (i:=c.length-2+1) (by omega)
  obtain ⟨k1,k2,k3⟩:=cG hy
  have m:A=[]:=by rw [<- k3];exact List.drop_eq_nil_of_le (by omega)
  have M:c.drop (c.length-2)=[x,y]:=by rw [z,<- g3,hy,m]
  have hw:wrap .i64 ((c.length:Int)-2)=((c.length-2:Nat):Int):=by rw [wrap_i64 (by omega) (by omega)];omega
  have u:wrap .i64 ((c.length:Int)-1)=((c.length-2+1:Nat):Int):=by rw [wrap_i64 (by omega) (by omega)];omega
  simp only [hw,u]
  simp (disch:=omega) only [ai,aq,ab,pw g1,pw k1]
  rw [jN x 13 13 rfl,jN y 10 10 rfl,M]
  simp only [dh,Int.toNat_natCast,Int.toNat_zero,drop_zero]
  by_cases f:x=13
  ·subst f
   by_cases j:y=10
   ·subst j;simp
   ·have:(y == 10)=false:=by simp [j]
    rw [this];simp [j]
  ·have:(x == 13)=false:=by simp [f]
   rw [this];simp [f]
 ·have e:c.drop (c.length-2)≠[13,10]:=by intro e;have:=congrArg List.length e;rw [length_drop] at this;simp at this;omega
  simp (disch:=omega) only [af]
  rw [if_neg e]
theorem AF (c:List Y2) (n i:Nat) (κ:Int->Int->Y1 R) (m:i<=c.length) :
  (bif ((n:Int) == 0) then (κ (-1) 0) else (bif ((i:Int) == (c.length:Int)) then (κ (-1) 0) else (bo ((decide ((0:Int)<=(i:Int)))&&(decide ((i:Int)<(c.length:Int)))) (bif ((dP (B c) (i:Int)) != 58) then (κ (-1) 0) else (κ (i:Int) (n:Int))))))
   = bif (decide (n≠0)&&(c[i]? == some 58)) then κ (i:Int) (n:Int) else κ (-1) 0:=by
 by_cases j:n=0
 ·subst j;rfl
 ·rw [fY (by omega),decide_eq_true j]
  by_cases h:i=c.length
  ·subst h
   rw [gy rfl,List.getElem?_eq_none (Nat.le_refl _)];rfl
  ·rw [fY (by omega)]
   have f:i<c.length:=by omega
   simp (disch:=omega) only [cond_false,aq,ab]
   rw [pw (List.getElem?_eq_getElem f),Cb _ 58 58 rfl,List.getElem?_eq_getElem f]
   rw [show (some c[i] == some (58:Y2))=(c[i] == 58) from rfl]
   unfold bne
   cases (c[i] == 58) <;> rfl
theorem vh (c:List Y2) (n:Nat) (u:c.length<=1000000) (κ:Int->Int->Y1 R):∀ (f i:Nat),i<=c.length->c.length<i+f ->
  b7.L5 aS κ f (B c) (i:Int) (n:Int)=bif (decide (n≠0)&&(c[i+((c.drop i).takeWhile dl).length]? == some 58)) then κ ((i+((c.drop i).takeWhile dl).length:Nat):Int) (n:Int) else κ (-1) 0
 | 0,i,j,z=>by omega
 | f+1,i,j,z=>by
  rw [b7.L5,b7.t5]
  simp only [b6]
  simp only [AF c n i κ j]
  cases m:c.drop i with
  | nil =>
   have:=drop_nil m
   simp (disch:=omega) only [af]
   rfl
  | cons b r =>
   obtain ⟨g1,g2,g3⟩:=cG m
   simp (disch:=omega) only [ai,aq,ab,pw g1,iY,wrap_i64]
   rw [takeWhile_cons]
   cases A:dl b with
   | false=>rfl
   | true =>
    simp only [cond_true,Dt,if_true,length_cons]
    rw [vh c n u κ f (i+1) (by omega) (by omega),g3]
    rw [show i+1+(List.takeWhile dl r).length=i+((List.takeWhile dl r).length+1) by omega]
theorem vL (c:Y2):kh c=(decide ((c.toNat:Int)>=33)&&(decide ((c.toNat:Int)<=126)&&((c.toNat:Int) != 58))):=by
 rw [Cb c 58 58 rfl];unfold kh
 congr 1
 ·rw [decide_eq_decide];omega
 ·congr 1
  rw [decide_eq_decide];omega
theorem vg (c:List Y2) (U:c.length<=1000000) (κ:Int->Int->Y1 R):∀ (f i:Nat),i<=c.length->2*c.length+2<i+f->c.take i=(c.take i).takeWhile kh ->
  b7.L2 aS κ f (B c) (i:Int)=bif eV c then κ (jZ c:Int) ((fC c).length:Int) else κ (-1) 0
 | 0,i,V,Y,A=>by omega
 | f+1,i,V,Y,A=>by
  have fin:fC c=c.take i->b7.L5 aS κ f (B c) (i:Int) (i:Int)=bif eV c then κ (jZ c:Int) ((fC c).length:Int) else κ (-1) 0:=by
   intro hn
   rw [vh c _ U κ f i V (by omega)]
   have W:(fC c).length=i:=by rw [hn];simp;omega
   unfold eV jZ
   rw [W]
   have:decide (fC c≠[])=decide (i≠0):=by
    rw [decide_eq_decide]
    rw [<- W];simp
   rw [this]
  rw [b7.L2,b7.t2]
  have j:fC c=c.take i++(c.drop i).takeWhile kh:=by
   unfold fC
   conv=>lhs;rw [<- take_append_drop i c]
   rw [List.takeWhile_append_of_pos]
   rw [A];intro a M;exact List.all_eq_true.1 all_takeWhile a M
  cases u:c.drop i with
  | nil =>
   have:=drop_nil u
   simp only [b6]
   simp (disch:=omega) only [af,aq,ab]
   exact fin (by rw [j,u];simp)
  | cons b r =>
   obtain ⟨g1,g2,g3⟩:=cG u
   simp only [b6]
   simp (disch:=omega) only [ai,aq,ab,pw g1,wrap_i64]
   have m:kh b=false->fC c=c.take i:=by
    intro m;rw [j,u,takeWhile_cons,m];simp
   rw [vL] at m
   cases z:decide ((b.toNat:Int)>=33) with
   | false=>exact fin (m (by rw [z];rfl))
   | true =>
    cases N:decide ((b.toNat:Int)<=126) with
    | false=>exact fin (m (by rw [z,N];rfl))
    | true =>
     cases X:((b.toNat:Int) != 58) with
     | false=>exact fin (m (by rw [z,N,X];rfl))
     | true =>
      have O:kh b=true:=by rw [vL,z,N,X];rfl
      exact vg c U κ f (i+1) (by omega) (by omega) (by
       rw [dO g1,List.takeWhile_append_of_pos (by rw [A];intro a M;exact List.all_eq_true.1 all_takeWhile a M)]
       simp [O])
theorem vi (c:List Y2) (j:c.length<=1000000) (κ:Int->Int->Y1 R) (f:Nat) (m:2*c.length+2<f) :
  b7.e aS (B c) (b7.L2 aS κ f) (b7.L5 aS κ f) κ=bif eV c then κ (jZ c:Int) ((fC c).length:Int) else κ (-1) 0:=
 vg c j κ f 0 (by omega) (by omega) (by simp)
theorem Cq (c:List Y2) (f:c.length<=1000000) (κ:Int->Int->Y1 R):b7 (B c) κ=bif eV c then κ (jZ c:Int) ((fC c).length:Int) else κ (-1) 0:=
 vi c f κ ah (by unfold ah;omega)
abbrev Fl:=List Y2 × List Y2 × List Y2
def gP (x:Fl):AV := .agg [.str (B x.1),.str (B x.2.1),.str (B x.2.2)]
theorem HF (x:Fl):((gP x).fld 0).s=B x.1:=rfl
theorem HG (x:Fl):((gP x).fld 1).s=B x.2.1:=rfl
theorem HH (x:Fl):((gP x).fld 2).s=B x.2.2:=rfl
def fresh (c:List Y2):Fl:=bif eV c then (fC c,fb (c.drop (jZ c+1)),c) else ([],[],c)
def ext (x:Fl) (c:List Y2):Fl:=(x.1,x.2.1++fb c,x.2.2++c)
def cQ:Option Fl->List (List Y2)->List Fl
 | none,[]=>[]
 | some x,[]=>[x]
 | none,c::r=>cQ (some (fresh c)) r
 | some x,c::r=>bif dl (c.headD 0) then cQ (some (ext x c)) r else x::cQ (some (fresh c)) r
theorem nE {c:Y2} {r:List Y2} (h:dl c=true):eV (c::r)=false:=by
 unfold eV fC
 have:kh c=false:=by
  unfold dl at h
  rw [Bool.or_eq_true,beq_iff_eq,beq_iff_eq] at h
  rcases h with rfl|rfl <;> rfl
 rw [takeWhile_cons,this];simp
theorem C0 {c:List Y2} (h:eV c=true):c[jZ c]? = some 58:=by
 unfold eV at h;rw [Bool.and_eq_true,beq_iff_eq] at h;exact h.2
theorem C2 {c:List Y2} (h:eV c=true):fC c≠[]:=by
 unfold eV at h;rw [Bool.and_eq_true,decide_eq_true_eq] at h;exact h.1
theorem C1 {c:List Y2} (h:eV c=true):jZ c<c.length:=(List.getElem?_eq_some_iff.1 (C0 h)).1
theorem Dv (c:List Y2):c.take (fC c).length=fC c:=by
 unfold fC
 have:=List.takeWhile_prefix kh (l:=c)
 exact (List.prefix_iff_eq_take.1 this).symm
theorem uF (c:List Y2):(fC c).length<=c.length:=(List.takeWhile_prefix kh (l:=c)).length_le
theorem A':∀ (cur l:List Y2) (x:List Y2),x∈dt cur l->x≠[]:=by
 intro cur l
 fun_induction dt cur l with
 | case1=>simp
 | case2 cur h=>simpa using h
 | case3 cur r ih => intro x hx; rw [mem_cons] at hx; rcases hx with rfl | hx
                     ·simp
                     ·exact ih x hx
 | case4 cur c r h ih=>exact ih
abbrev DT (κ:LA->Y1 R):=bW.L4 bE aS bU b7 κ
abbrev Bq (κ:LA->Y1 R):=bW.L5 bE aS bU b7 κ
abbrev th (κ:LA->Y1 R):=bW.tL bE aS bU b7 κ
theorem Bp (κ:LA->Y1 R) (f:Nat) (i:Int) (a b:LA):DT κ (f+1) i a b=bW.t4 aS bU (Bq κ f) (th κ f) κ i a b:=rfl
theorem tj (κ:LA->Y1 R) (f:Nat) (i:Int) (a b:LA):Bq κ (f+1) i a b=DT κ f (wrap .i64 (i+1)) a b:=rfl
theorem yH (κ:LA->Y1 R) (f:Nat) (i:Int) (s:BA) (a b:LA):th κ (f+1) i s a b=bW.t11 aS bU b7 (Bq κ f) i s a b:=by
 try unfold th
 try unfold DT
 try unfold Bq
 try unfold bW.tL
 try unfold bW.L4
 try unfold bW.L5
 rw [bW.M4]
theorem DV (κ:LA->Y1 R) (f:Nat) (i:Int) (c:List Y2) (out u:LA) (A:c≠[]) (M:c.length<=1000000) (U:out.length<=1000000) :
  th κ (f+1) i (B c) out u=Bq κ f i (out++[gP (fresh c)]) u:=by
 rw [yH,bW.t11,Cq c M]
 obtain ⟨b,r,rfl⟩:∃ b r,c=b::r:=by cases c with|nil=>exact absurd rfl A|cons b r=>exact ⟨b,r,rfl⟩
 have z:dP (B (b::r)) 0=b.toNat:=pw (i:=0) rfl
 have hlen:(b::r).length=r.length+1:=rfl
 unfold fresh
 cases j:eV (b::r) with
 | false =>
  simp only [cond_false,b6,z,iY]
  simp (disch:=omega) only [ab,ai]
  cases dl b <;> rfl
 | true =>
  have m:dl b=false:=by
   cases h:dl b with
   | false=>rfl
   | true=>rw [nE h] at j;cases j
  have N:=C1 j
  have O:=uF (b::r)
  have hw:wrap .i64 ((jZ (b::r):Int)+1)=((jZ (b::r)+1:Nat):Int):=by rw [wrap_i64 (by omega) (by omega)];omega
  simp only [cond_true,b6,z,iY,m,cond_false,hw]
  simp (disch:=omega) only [aq,ab,af]
  simp only [dh,Int.toNat_natCast,Int.toNat_zero,drop_zero,take_length,Dv]
  rw [tS _ (by rw [length_drop];omega)]
  rfl
theorem uP (κ:LA->Y1 R) (m:List (List Y2)) (z:∀ x∈m,x≠[]) (hn:m.length<=1000000):∀ (f i:Nat) (done:List Fl) (j:Option Fl),i<=m.length->3*m.length+3<3*i+f->(j=none->done=[])->(done++j.toList).length<=i ->
  (∀ x,j=some x->x.2.1.length<=x.2.2.length/\x.2.2.length+total (m.drop i)<=1000000)->total (m.drop i)<=1000000 ->
  DT κ f (i:Int) ((done++j.toList).map gP) (bH m)=κ ((done++cQ j ((m.drop i).takeWhile fun x=>x != [13,10])).map gP)
 | 0,i,done,j,Y,h2,M,W,X,h6=>by omega
 | 1,i,done,j,Y,h2,M,W,X,h6=>by omega
 | 2,i,done,j,Y,h2,M,W,X,h6=>by omega
 | f+3,i,done,j,Y,h2,M,W,X,h6=>by
  rw [Bp,bW.t4]
  have hlen:=fS m
  have a1:((done++j.toList).map gP).length=(done++j.toList).length:=length_map ..
  have u:∀ x:List Fl,x=cQ j []->κ ((done++j.toList).map gP)=κ ((done++x).map gP):=by
   intro x N;subst N;cases j <;> rfl
  cases hd:m.drop i with
  | nil =>
   have:=drop_nil hd
   simp (disch:=omega) only [af]
   exact u _ rfl
  | cons c r =>
   obtain ⟨g1,g2,g3⟩:=cG hd
   have hc:c≠[]:=z c (List.mem_of_getElem? g1)
   have a6:total (m.drop i)=c.length+total r:=by rw [hd];rfl
   have ad:=wO g1
   rw [show (⟨#[13,10]⟩:BA)=B [13,10] from rfl]
   simp (disch:=omega) only [ai,aq,ab]
   simp only [ad,takeWhile_cons]
   by_cases N:c=[13,10]
   ·subst N
    rw [decide_eq_true (show B [13,10]=B [13,10] from rfl)]
    exact u _ rfl
   ·rw [decide_eq_false (show ¬ B c=B [13,10] from fun e=>N (eg.1 e))]
    have ae:(c != [13,10])=true:=by rw [bne_iff_ne];exact N
    simp only [Bool.not_false,cond_true,ae,if_true]
    obtain ⟨b,t,rfl⟩:∃ b t,c=b::t:=by cases c with|nil=>exact absurd rfl hc|cons b t=>exact ⟨b,t,rfl⟩
    have hb:dP (B (b::t)) 0=b.toNat:=pw (i:=0) rfl
    have a7:(b::t).length=t.length+1:=rfl
    have O:wrap .i64 ((i:Int)+1)=((i+1:Nat):Int):=wrap_i64 (by omega) (by omega)
    have U:th κ (f+2) (i:Int) (B (b::t)) ((done++j.toList).map gP) (bH m)=κ (((done++j.toList)++cQ (some (fresh (b::t))) (r.takeWhile fun x=>x != [13,10])).map gP):=by
     rw [DV κ (f+1) _ (b::t) _ _ hc (by omega) (by omega),tj,O]
     have ap:(fresh (b::t)).2.2=b::t:=by unfold fresh;cases eV (b::t) <;> rfl
     have ar:(fresh (b::t)).2.1.length<=(b::t).length:=by
      unfold fresh
      cases eV (b::t) with
      | false=>simp
      | true=>have:=ie ((b::t).drop (jZ (b::t)+1));rw [length_drop] at this;show (fb _).length<=_;omega
     have:=uP κ m z hn f (i+1) (done++j.toList) (some (fresh (b::t))) (by omega) (by omega) (by intro e;cases e) (by rw [length_append];show _+1<=_;omega)
      (by intro x e;cases e;rw [ap,g3];exact ⟨ar,by omega⟩) (by rw [g3];omega)
     rw [g3] at this
     rw [<- this]
     simp
    simp only [hb,iY]
    simp (disch:=omega) only [b6,ab]
    cases V:dl b with
    | false =>
     simp only [cond_false]
     rw [U]
     cases j with
     | none=>have A:=M rfl;subst A;rfl
     | some x =>
      rw [cQ]
      simp only [List.headD_cons,V,cond_false,Option.toList_some,append_assoc,singleton_append]
    | true =>
     simp only [cond_true]
     cases j with
     | none =>
      have A:=M rfl
      subst A
      have hw:wrap .i64 ((((([]:List Fl)++(none:Option Fl).toList).map gP).length:Int)-1) = -1:=by rw [wrap_i64] <;> simp
      rw [hw,af (by omega),U]
      rfl
     | some x =>
      obtain ⟨a8,bb⟩:=X x rfl
      have ax:(done++(some x).toList).map gP=done.map gP++[gP x]:=by simp
      have be:(done++(some x).toList).length=done.length+1:=by simp
      have bk:(done.map gP).length=done.length:=length_map ..
      rw [ax]
      have hw:wrap .i64 (((done.map gP++[gP x]).length:Int)-1)=(((done.map gP).length:Nat):Int):=by
       rw [length_append,length_singleton,wrap_i64 (by omega) (by omega)];omega
      have bs:=ie (b::t)
      simp only [hw]
      have sl:∀ a b:AV,eF (done.map gP++[a]) ((done.map gP).length:Int) b=done.map gP++[b]:=fun a b=>iR _ a b [] _ rfl
      have f0:∀ a b c:AV,(AV.agg [a,b,c]).fld 0=a:=fun _ _ _=>rfl
      have f1:∀ a b c:AV,(AV.agg [a,b,c]).fld 1=b:=fun _ _ _=>rfl
      have f2:∀ a b c:AV,(AV.agg [a,b,c]).fld 2=c:=fun _ _ _=>rfl
      have fs:∀ a,(AV.str a).s=a:=fun _=>rfl
      simp only [wN,sl,gP,f0,f1,f2,fs]
      simp only [length_append,length_singleton]
      rw [tS _ (by omega)]
      simp only [fX,b6]
      simp (disch:=omega) only [ai,aq,ab]
      rw [tj,O]
      have ex:(ext x (b::t)).2.2.length=x.2.2.length+(b::t).length:=by unfold ext;simp
      have bx:(ext x (b::t)).2.1.length=x.2.1.length+(fb (b::t)).length:=by unfold ext;simp
      have:=uP κ m z hn (f+1) (i+1) done (some (ext x (b::t))) (by omega) (by omega) (by intro e;cases e) (by simp at W ⊢;omega)
       (by intro y e;cases e;rw [g3];exact ⟨by omega,by omega⟩) (by rw [g3];omega)
      rw [g3] at this
      rw [cQ]
      simp only [List.headD_cons,V,cond_true]
      rw [<- this]
      simp [gP,ext]
theorem DU (h:List Y2) (m:h.length<=200000) (κ:LA->Y1 R) (f:Nat) (u:600010<f) :
  bW.e bE aS bU b7 (B h) (DT κ f) (Bq κ f) (th κ f) κ=κ ((cQ none (dF h)).map gP):=by
 unfold bW.e
 rw [tg (B h) (by rw [jR];omega),jR]
 have z:=lD h
 have j:=gY [] h
 exact uP κ (dt [] h) (A' [] h) (by omega) f 0 [] none (by omega) (by omega) (fun _=>rfl) (by simp) (by intro x e;cases e) (by simp only [drop_zero,j];simp;omega)
theorem head_eq (h:List Y2) (f:h.length<=200000) (κ:LA->Y1 R):bW (B h) κ=κ ((cQ none (dF h)).map gP):=
 DU h f κ ah (by unfold ah;omega)
def named (l:List Fl):List Fl:=l.filter fun x=>x.1 != []
def gO (x:Fl):Fl:=(x.1,e6 x.2.1,x.2.2)
theorem zj {l:List Fl} {i:Nat} {x:Fl} (h:l[i]? = some x):bi (l.map gP) (i:Int)=gP x:=eD (by rw [List.getElem?_map,h];rfl)
theorem uK (κ:LA->Y1 R) (l:List Fl) (A:l.length<=1000000) (u:∀ x∈l,x.2.1.length<=1000000):∀ (f i:Nat) (acc:List Fl),i<=l.length->l.length<i+f->acc.length<=64 ->
  cr.L4 bW de κ f (i:Int) (acc.map gP) (l.map gP)=κ (((acc++(named (l.drop i)).map gO).take 64).map gP)
 | 0,i,acc,N,O,j=>by omega
 | f+1,i,acc,N,O,j=>by
  rw [cr.L4,cr.t4]
  simp only [length_map]
  cases M:l.drop i with
  | nil =>
   have:=drop_nil M
   simp (disch:=omega) only [af]
   simp only [named,List.filter_nil,List.map_nil,append_nil]
   rw [take_of_length_le j]
  | cons x r =>
   obtain ⟨g1,g2,g3⟩:=cG M
   have z:wrap .i64 ((i:Int)+1)=((i+1:Nat):Int):=wrap_i64 (by omega) (by omega)
   simp (disch:=omega) only [ai,aq,ab]
   simp only [zj g1,HF,HG,HH,z]
   by_cases U:acc.length<64
   ·simp (disch:=omega) only [ai]
    by_cases m:x.1=[]
    ·rw [decide_eq_true (show B x.1=(⟨#[]⟩:BA) by rw [m];rfl)]
     simp only [Bool.not_true,cond_false]
     rw [uK κ l A u f (i+1) acc (by omega) (by omega) j,g3]
     have:named (x::r)=named r:=by unfold named;rw [filter_cons];simp [m]
     rw [this]
    ·rw [decide_eq_false (show ¬ B x.1=(⟨#[]⟩:BA) from fun e=>m (eg.1 e))]
     simp only [Bool.not_false,cond_true]
     rw [FB _ (u x (List.mem_of_getElem? g1))]
     have:=uK κ l A u f (i+1) (acc++[gO x]) (by omega) (by omega) (by simp;omega)
     rw [g3] at this
     have e:named (x::r)=x::named r:=by unfold named;rw [filter_cons];simp [m]
     rw [e]
     simp only [map_cons]
     rw [show acc++gO x::(named r).map gO=(acc++[gO x])++(named r).map gO by simp,<- this]
     simp [gP,gO]
   ·simp (disch:=omega) only [af]
    rw [List.take_append_of_le_length (by omega),take_of_length_le j]
theorem ji:∀ (u:List (List Y2)) (m:Option Fl) (n:Nat),(∀ x,m=some x->x.2.1.length+total u<=n)->total u<=n->∀ x∈cQ m u,x.2.1.length<=n
 | [],none,n,h,j,x,f=>by rw [cQ] at f;cases f
 | [],some y,n,h,j,x,f=>by
  rw [cQ,mem_singleton] at f;subst f
  have:=h x rfl;simp only [total] at this;omega
 | c::r,none,n,h,j,x,f=>by
  rw [cQ] at f
  refine ji r _ n ?_ (by simp only [total] at j;omega) x f
  intro y e;cases e
  simp only [total] at j
  have:(fresh c).2.1.length<=c.length:=by
   unfold fresh
   cases eV c with
   | false=>simp
   | true=>have:=ie (c.drop (jZ c+1));rw [length_drop] at this;show (fb _).length<=_;omega
  omega
 | c::r,some y,n,h,j,x,f=>by
  have hy:=h y rfl
  simp only [total] at j hy
  rw [cQ] at f
  have M:(fresh c).2.1.length<=c.length:=by
   unfold fresh
   cases eV c with
   | false=>simp
   | true=>have:=ie (c.drop (jZ c+1));rw [length_drop] at this;show (fb _).length<=_;omega
  cases A:dl (c.headD 0) with
  | true =>
   rw [A,cond_true] at f
   refine ji r _ n ?_ (by omega) x f
   intro z e;cases e
   have:=ie c
   have:(ext y c).2.1.length=y.2.1.length+(fb c).length:=by unfold ext;simp
   omega
  | false =>
   rw [A,cond_false,mem_cons] at f
   rcases f with rfl|f
   ·omega
   ·refine ji r _ n ?_ (by omega) x f
    intro z e;cases e;omega
theorem jh:∀ (j:List (List Y2)) (f:Option Fl),(cQ f j).length<=f.toList.length+j.length
 | [],none=>by rw [cQ];simp
 | [],some y=>by rw [cQ];simp
 | c::r,none=>by rw [cQ];have:=jh r (some (fresh c));simp at this ⊢;omega
 | c::r,some y=>by
  rw [cQ]
  have m:=jh r (some (fresh c))
  have u:=jh r (some (ext y c))
  cases dl (c.headD 0) <;> simp at m u ⊢ <;> omega
theorem jP (p:List Y2->Y3):∀ l:List (List Y2),total (l.takeWhile p)<=total l
 | []=>by simp
 | c::r=>by
  rw [takeWhile_cons]
  have:=jP p r
  split <;> simp only [total] <;> omega
def gz (h:List Y2):List Fl:=((named (cQ none (dF h))).map gO).take 64
theorem kF (h:List Y2):(dF h).length<=h.length+1:=by
 have f:=lD h
 have j:(dF h).length<=(dt [] h).length:=(List.takeWhile_sublist _).length_le
 omega
theorem gF (h:List Y2):total (dF h)<=h.length:=by
 have f:=gY [] h
 have j:total (dF h)<=total (dt [] h):=jP _ _
 simp at f;omega
theorem DI (h:List Y2) (j:h.length<=200000) (κ:LA->Y1 R) (f:Nat) (u:300010<f) :
  cr.e bW de (B h) (cr.L4 bW de κ f) κ=κ ((gz h).map gP):=by
 unfold cr.e
 rw [head_eq h j]
 have z:=kF h
 have A:=gF h
 have m:=jh (dF h) none
 simp at m
 have:=uK κ (cQ none (dF h)) (by omega) (ji (dF h) none 1000000 (by intro x e;cases e) (by omega)) f 0 [] (by omega) (by omega) (by simp)
 simpa [gz] using this
theorem yC (h:List Y2) (f:h.length<=200000) (κ:LA->Y1 R):cr (B h) κ=κ ((gz h).map gP):=
 DI h f κ ah (by unfold ah;omega)
theorem rE (l:List Y2) (κ:Int->Y1 R):aC (B l) 58 κ=κ (Lib.indexByte l 58):=rfl
theorem oe {c:List Y2} {k:Nat} (h:k<jZ c):c[k]? ≠ some 58:=by
 unfold jZ at h
 by_cases m:k<(fC c).length
 ·obtain ⟨x,f,j⟩:=lh (p:=kh) m
  rw [f];intro e;cases e;exact absurd j (by decide)
 ·obtain ⟨x,f,j⟩:=lh (p:=dl) (l:=c.drop (fC c).length) (k:=k-(fC c).length) (by omega)
  rw [List.getElem?_drop,show (fC c).length+(k-(fC c).length)=k by omega] at f
  rw [f];intro e;cases e;exact absurd j (by decide)
theorem Es {c:List Y2} (h:eV c=true):Lib.indexByte (fb c) 58=(jZ c:Int)/\jZ c+1<=(fb c).length/\(fb c).drop (jZ c+1)=fb (c.drop (jZ c+1)):=by
 have j:=C0 h
 have N:=C1 h
 unfold fb
 by_cases e:c.drop (c.length-2)=[13,10]
 ·have M:2<=c.length:=by have:=congrArg List.length e;rw [length_drop] at this;simp at this;omega
  have g0:c[c.length-2]? = some 13:=(cG e).1
  have g1:c[c.length-2+1]? = some 10:=(cG (cG e).2.2).1
  have f:jZ c<c.length-2:=by
   rcases Nat.lt_trichotomy (jZ c) (c.length-2) with f|z|O
   ·exact f
   ·rw [z,g0] at j;cases j
   ·have:jZ c=c.length-2+1:=by omega
    rw [this,g1] at j;cases j
  rw [if_pos e]
  refine ⟨my (by rw [List.getElem?_take,if_pos f,j]) (fun k A=>by rw [List.getElem?_take,if_pos (by omega)];exact oe A),by rw [length_take];omega,?_⟩
  have m:(c.drop (jZ c+1)).length-2=c.length-2-(jZ c+1):=by rw [length_drop];omega
  rw [if_pos (by rw [m,drop_drop,show jZ c+1+(c.length-2-(jZ c+1))=c.length-2 by omega];exact e),m,drop_take]
 ·rw [if_neg e]
  refine ⟨my j (fun k A=>oe A),N,?_⟩
  rw [if_neg]
  intro u
  have M:2<=(c.drop (jZ c+1)).length:=by have:=congrArg List.length u;rw [length_drop] at this;simp at this ⊢;omega
  apply e
  rw [drop_drop] at u
  rw [length_drop] at u M
  rw [show jZ c+1+(c.length-(jZ c+1)-2)=c.length-2 by omega] at u
  exact u
def AP (x:Fl):AV := .agg [.str (B x.1),.str (B []),.str (B x.2.2)]
def BP (x:Fl):AV := .str (B x.2.1)
abbrev wc (κ:LA->Y1 R):=ba.L4 bA bR aQ aC κ
abbrev A8 (κ:LA->Y1 R):=ba.L8 bA bR aQ aC κ
abbrev qj (κ:LA->Y1 R):=ba.u6 bA bR aQ aC κ
abbrev mF (κ:LA->Y1 R):=ba.oM bA bR aQ aC κ
abbrev wb (κ:LA->Y1 R):=ba.Aq bA bR aQ aC κ
theorem sH (κ:LA->Y1 R) (f:Nat) (n i:Int) (a b c:LA):wc κ (f+1) n i a b c=ba.t4 (A8 κ f) (mF κ f) (wb κ f) n i a b c:=by
 try unfold wc
 try unfold A8
 try unfold qj
 try unfold mF
 try unfold wb
 try unfold ba.L4
 try unfold ba.L8
 try unfold ba.u6
 try unfold ba.oM
 rw [ba.M4]
theorem sI (κ:LA->Y1 R) (f:Nat) (n i:Int) (a b:LA) (s m:BA) (x y:Y3) (c:LA):A8 κ (f+1) n i a b s m x y c=ba.t8 aQ aC (qj κ f) n i a b s m x y c:=by
 try unfold wc
 try unfold A8
 try unfold qj
 try unfold mF
 try unfold ba.L4
 try unfold ba.L8
 try unfold ba.u6
 try unfold ba.oM
 rw [ba.M4]
theorem yf (κ:LA->Y1 R) (f:Nat) (w:BA) (n i:Int) (a b:LA) (s m:BA) (x y:Y3) (c:LA):qj κ (f+1) w n i a b s m x y c=ba.t13 (mF κ f) w n i a b s m x y c:=by
 try unfold wc
 try unfold A8
 try unfold qj
 try unfold mF
 try unfold ba.L4
 try unfold ba.L8
 try unfold ba.u6
 try unfold ba.oM
 rw [ba.M4]
theorem jG (κ:LA->Y1 R) (f:Nat) (n i:Int) (a b c:LA):mF κ (f+1) n i a b c=wc κ f n (wrap .i64 (i+1)) a b c:=by
 unfold wc mF ba.L4 ba.oM
 rw [ba.M4];rfl
theorem HZ (κ:LA->Y1 R) (f:Nat) (j w A u c:List Y2) (n i:Int) (xs vs:LA) (m:BA) (x y:Y3) (M:LA) (V:xs.length<=1000000) (N:vs.length=xs.length) (W:u.length+c.length<=2000000) (X:w.length+j.length<=2000000) :
  qj κ (f+1) (B j) n i (xs++[AP (A,w,u)]) (vs++[.str (B w)]) (B c) m x y M=mF κ f n i (xs++[AP (A,w++j,u++c)]) (vs++[.str (B (w++j))]) M:=by
 rw [yf,ba.t13]
 have hw:∀ a:AV,wrap .i64 (((xs++[a]).length:Int)-1)=((xs.length:Nat):Int):=by
  intro a;rw [length_append,length_singleton,wrap_i64 (by omega) (by omega)];omega
 have sl:∀ a b:AV,eF (xs++[a]) (xs.length:Int) b=xs++[b]:=fun a b=>iR _ a b [] _ rfl
 have z:∀ a b:AV,eF (vs++[a]) (xs.length:Int) b=vs++[b]:=fun a b=>iR _ a b [] _ N
 have O:∀ a:AV,bi (vs++[a]) (xs.length:Int)=a:=fun a=>uM _ a [] _ N
 have f0:∀ a b c:AV,(AV.agg [a,b,c]).fld 0=a:=fun _ _ _=>rfl
 have f1:∀ a b c:AV,(AV.agg [a,b,c]).fld 1=b:=fun _ _ _=>rfl
 have f2:∀ a b c:AV,(AV.agg [a,b,c]).fld 2=c:=fun _ _ _=>rfl
 have U:∀ a,(AV.str a).s=a:=fun _=>rfl
 simp only [hw,sl,z,O,wN,AP,f0,f1,f2,U,fX,b6]
 simp only [length_append,length_singleton]
 simp (disch:=omega) only [aq,ab]
theorem GX (κ:LA->Y1 R) (j:List Fl) (O:j.length<=1000000) (N:∀ x∈j,x.2.1.length<=1000000):∀ (f i:Nat),i<=j.length->j.length<i+f ->
  wb κ f (j.length:Int) (i:Int) (((j.map gO).take i).map gP++(j.drop i).map AP) (j.map BP)=κ ((j.map gO).map gP)
 | 0,i,U,V=>by omega
 | f+1,i,U,V=>by
  unfold wb
  rw [ba.Aq,ba.t17]
  have z:(((j.map gO).take i).map gP).length=i:=by simp;omega
  cases A:j.drop i with
  | nil =>
   have:=drop_nil A
   simp (disch:=omega) only [af,List.map_nil,append_nil]
   rw [take_of_length_le (by simp;omega)]
  | cons x r =>
   obtain ⟨g1,g2,g3⟩:=cG A
   have M:wrap .i64 ((i:Int)+1)=((i+1:Nat):Int):=wrap_i64 (by omega) (by omega)
   have W:bi (j.map BP) (i:Int)=BP x:=eD (by rw [List.getElem?_map,g1];rfl)
   have m:(((j.map gO).take i).map gP++(x::r).map AP).length=j.length:=by
    rw [length_append,z,length_map,<- A,length_drop];omega
   have f0:((AP x).fld 0) = .str (B x.1):=rfl
   have f2:((AP x).fld 2) = .str (B x.2.2):=rfl
   have u:∀ a,(AV.str a).s=a:=fun _=>rfl
   simp only [m,length_map,W,BP,u,M]
   rw [map_cons,uM _ _ _ _ z,f0,f2]
   simp only [u]
   simp (disch:=omega) only [ai,aq,ab]
   rw [qO _ (N x (List.mem_of_getElem? g1)),iR _ _ _ _ _ z]
   have:=GX κ j O N f (i+1) (by omega) (by omega)
   rw [g3] at this
   rw [<- this]
   have e:(j.map gO).take (i+1)=(j.map gO).take i++[gO x]:=dO (by rw [List.getElem?_map,g1];rfl)
   rw [e]
   simp [gP,gO,BP]
def qi:List Fl->Option Fl->List (List Y2)->List Fl
 | d,f,[]=>d++f.toList
 | d,f,c::r=>bif dl (c.headD 0) then qi d (f.map fun x=>ext x c) r else bif eV c then (if (d++f.toList).length=64 then d++f.toList else qi (d++f.toList) (some (fresh c)) r) else qi (d++f.toList) none r
theorem mG (κ:LA->Y1 R) (m:List (List Y2 × List Y2 × Y3 × Y3)) (hn:m.length<=1000000):∀ (rest:List (List Y2)) (f i:Nat) (d:List Fl) (j:Option Fl) (z:List Y2),
  i<=m.length->m.drop i=dK j.isSome z rest->4*m.length+200<4*i+f->(d++j.toList).length<=64->total rest<=1000000->(∀ x∈d,x.2.1.length<=1000000) ->
  (∀ x,j=some x->x.2.1.length<=x.2.2.length/\x.2.2.length+total rest<=1000000) ->
  wc κ f (m.length:Int) (i:Int) ((d++j.toList).map AP) ((d++j.toList).map BP) (m.map ec)=κ (((qi d j rest).map gO).map gP)
 | [],f,i,d,j,z,hi,V,hf,N,ht,W,hc=>by
  have ax:m.length<=i:=drop_nil (by rw [V];rfl)
  obtain ⟨f,rfl⟩:∃ g,f=g+1:=⟨f-1,by omega⟩
  rw [sH,ba.t4]
  simp only [length_map]
  simp (disch:=omega) only [af]
  rw [qi]
  exact GX κ (d++j.toList) (by omega) (by
   intro x u
   rw [mem_append] at u
   rcases u with u|u
   ·exact W x u
   ·cases j with
    | none=>simp at u
    | some y=>simp at u;subst u;have:=hc x rfl;omega) f 0 (by omega) (by omega)
 | c::r,f,i,d,j,z,hi,V,hf,N,ht,W,hc=>by
  obtain ⟨f,rfl⟩:∃ g,f=g+4:=⟨f-4,by
   have:0<(m.drop i).length:=by rw [V,dK];cases dl (c.headD 0) <;> simp
   rw [length_drop] at this;omega⟩
  have O:∀ x∈d++j.toList,x.2.1.length<=1000000:=by
   intro x u
   rw [mem_append] at u
   rcases u with u|u
   ·exact W x u
   ·cases j with
    | none=>simp at u
    | some y=>simp at u;subst u;have:=hc x rfl;omega
  have a1:total (c::r)=c.length+total r:=rfl
  have a6:=ie c
  have ae:(m.map ec).length=m.length:=length_map ..
  have X:((d++j.toList).map AP).length=(d++j.toList).length:=length_map ..
  have ap:((d++j.toList).map BP).length=(d++j.toList).length:=length_map ..
  have a7:d.length<=(d++j.toList).length:=by rw [length_append];omega
  rw [qi,sH,ba.t4,ae]
  cases hb:dl (c.headD 0) with
  | true =>
   have U:m.drop i=(c,z,false,j.isSome)::dK j.isSome z r:=by rw [V,dK,hb];rfl
   obtain ⟨g1,g2,g3⟩:=cG U
   have A:wrap .i64 ((i:Int)+1)=((i+1:Nat):Int):=wrap_i64 (by omega) (by omega)
   have M:bi (m.map ec) (i:Int)=ec (c,z,false,j.isSome):=eD (by rw [List.getElem?_map,g1];rfl)
   have r0:((ec (c,z,false,j.isSome)).fld 0).s=B c:=rfl
   have r1:((ec (c,z,false,j.isSome)).fld 1).s=B z:=rfl
   have r2:((ec (c,z,false,j.isSome)).fld 2).b=false:=rfl
   have r3:((ec (c,z,false,j.isSome)).fld 3).b=j.isSome:=rfl
   simp only [M,r0,r1,r2,r3,cond_false]
   simp (disch:=omega) only [ai,aq,ab,cond_true]
   cases j with
   | none =>
    simp only [Option.isSome_none,Bool.not_false,cond_true,Option.map_none]
    rw [jG,A]
    exact mG κ m hn r (f+2) (i+1) d none z (by omega) g3 (by omega) N (by omega) W (by intro x e;cases e)
   | some x =>
    obtain ⟨a8,bb⟩:=hc x rfl
    simp only [Option.isSome_some,Bool.not_true,cond_false,Option.map_some]
    rw [sI,ba.t8,li c (by omega)]
    simp only [cond_false]
    have e1:(d++(some x).toList).map AP=d.map AP++[AP (x.1,x.2.1,x.2.2)]:=by simp
    have e2:(d++(some x).toList).map BP=d.map BP++[.str (B x.2.1)]:=by simp [BP]
    rw [e1,e2,HZ κ (f+1) (fb c) x.2.1 x.1 x.2.2 c _ _ _ _ _ _ _ _ (by rw [length_map];omega) (by simp) (by omega) (by omega),jG,A]
    have ex:(ext x c).2.2.length=x.2.2.length+c.length:=by unfold ext;simp
    have be:(ext x c).2.1.length=x.2.1.length+(fb c).length:=by unfold ext;simp
    have:=mG κ m hn r f (i+1) d (some (ext x c)) z (by omega) g3 (by omega) (by simpa using N) (by omega) W (by intro y e;cases e;exact ⟨by omega,by omega⟩)
    rw [<- this]
    simp [ext,BP]
  | false =>
   have U:m.drop i=(c,fC c,eV c,eV c)::dK (eV c) (fC c) r:=by rw [V,dK,hb];rfl
   obtain ⟨g1,g2,g3⟩:=cG U
   have A:wrap .i64 ((i:Int)+1)=((i+1:Nat):Int):=wrap_i64 (by omega) (by omega)
   have M:bi (m.map ec) (i:Int)=ec (c,fC c,eV c,eV c):=eD (by rw [List.getElem?_map,g1];rfl)
   have r0:((ec (c,fC c,eV c,eV c)).fld 0).s=B c:=rfl
   have r1:((ec (c,fC c,eV c,eV c)).fld 1).s=B (fC c):=rfl
   have r2:((ec (c,fC c,eV c,eV c)).fld 2).b=eV c:=rfl
   have r3:((ec (c,fC c,eV c,eV c)).fld 3).b=eV c:=rfl
   simp only [M,r0,r1,r2,r3,cond_false]
   simp (disch:=omega) only [ai,aq,ab,cond_true]
   cases hF:eV c with
   | false =>
    simp only [Bool.not_false,cond_true,cond_false]
    rw [jG,A]
    rw [hF] at g3
    have:=mG κ m hn r (f+2) (i+1) (d++j.toList) none (fC c) (by omega) g3 (by omega) (by simpa using N) (by omega) O (by intro x e;cases e)
    simpa using this
   | true =>
    rw [hF] at g3
    simp only [Bool.not_true,cond_true,cond_false,X]
    by_cases h6:(d++j.toList).length=64
    ·rw [if_pos h6,gy (by omega)]
     simp only [cond_true]
     exact GX κ (d++j.toList) (by omega) O (f+3) 0 (by omega) (by omega)
    ·rw [if_neg h6,fY (by omega)]
     simp only [cond_false]
     obtain ⟨k1,k2,k3⟩:=Es hF
     rw [sI,ba.t8,li c (by omega)]
     have Y:wrap .i64 ((jZ c:Int)+1)=((jZ c+1:Nat):Int):=wrap_i64 (by omega) (by omega)
     simp only [cond_true,rE,k1,Y,b6,X,ap]
     simp (disch:=omega) only [aq,ab]
     simp only [dh,Int.toNat_natCast,take_length,k3]
     have e1:AV.agg [AV.str (B (fC c)),AV.str (⟨#[]⟩:BA),AV.str (⟨#[]⟩:BA)]=AP (fC c,[],[]):=rfl
     have e2:AV.str (⟨#[]⟩:BA) = .str (B []):=rfl
     have ar:=ie (c.drop (jZ c+1))
     rw [length_drop] at ar
     rw [e1,e2,HZ κ (f+1) _ [] (fC c) [] c _ _ _ _ _ _ _ _ (by omega) (by simp) (by simp;omega) (by simp;omega),jG,A]
     have ad:fresh c=(fC c,fb (c.drop (jZ c+1)),c):=by unfold fresh;rw [hF];rfl
     have:=mG κ m hn r f (i+1) (d++j.toList) (some (fresh c)) (fC c) (by omega) g3 (by omega) (by rw [length_append];show _+1<=_;omega) (by omega) O
      (by intro y e;cases e;rw [ad];exact ⟨by show (fb _).length<=c.length;omega,by show c.length+_<=_;omega⟩)
     rw [<- this,ad]
     simp [BP]
theorem ib:∀ (rest:List (List Y2)) (d:List Fl) (m f:Option Fl),(∃ x,m=some x/\f=some x/\x.1≠[])∨(m=none/\(f=none∨∃ y,f=some y/\y.1=[]))->(d++m.toList).length<=64 ->
  qi d m rest=(d++named (cQ f rest)).take 64
 | [],d,m,f,h,j=>by
  rcases h with ⟨x,rfl,rfl,z⟩|⟨rfl,rfl|⟨y,rfl,hy⟩⟩
  ·rw [qi,cQ];unfold named;rw [filter_cons];simp [z]
   rw [take_of_length_le];simpa using j
  ·rw [qi,cQ];simp [named] at j ⊢;exact (take_of_length_le j).symm
  ·rw [qi,cQ];simp [named,hy] at j ⊢;exact (take_of_length_le j).symm
 | c::r,d,m,f,h,j=>by
  have u:cQ none (c::r)=cQ (some (fresh c)) r:=rfl
  have A:∀ (x:Fl) (l:List Fl),x.1≠[]->named (x::l)=x::named l:=by intro x l z;unfold named;rw [filter_cons];simp [z]
  have N:∀ (x:Fl) (l:List Fl),x.1=[]->named (x::l)=named l:=by intro x l z;unfold named;rw [filter_cons];simp [z]
  have U:eV c=true->(fresh c).1≠[]:=by intro e;unfold fresh;rw [e];exact C2 e
  have M:eV c=false->(fresh c).1=[]:=by intro e;unfold fresh;rw [e];rfl
  rw [qi]
  cases O:dl (c.headD 0) with
  | true =>
   have V:eV c=false:=by cases c with|nil=>cases O|cons b t=>exact nE O
   simp only [cond_true]
   rcases h with ⟨x,rfl,rfl,z⟩|⟨rfl,rfl|⟨y,rfl,hy⟩⟩
   ·rw [cQ,O];simp only [cond_true]
    exact ib r d _ _ (Or.inl ⟨ext x c,rfl,rfl,z⟩) (by simpa using j)
   ·rw [u]
    exact ib r d none _ (Or.inr ⟨rfl,Or.inr ⟨_,rfl,M V⟩⟩) j
   ·rw [cQ,O];simp only [cond_true]
    exact ib r d none _ (Or.inr ⟨rfl,Or.inr ⟨_,rfl,hy⟩⟩) j
  | false =>
   simp only [cond_false]
   have X:d++named (cQ f (c::r))=(d++m.toList)++named (cQ (some (fresh c)) r):=by
    rcases h with ⟨x,rfl,rfl,z⟩|⟨rfl,rfl|⟨y,rfl,hy⟩⟩
    ·rw [cQ,O];simp only [cond_false];rw [A _ _ z];simp
    ·rw [u];simp
    ·rw [cQ,O];simp only [cond_false];rw [N _ _ hy];simp
   rw [X]
   cases V:eV c with
   | true =>
    simp only [cond_true]
    by_cases W:(d++m.toList).length=64
    ·rw [if_pos W,List.take_append_of_le_length (by omega),take_of_length_le (by omega)]
    ·rw [if_neg W]
     exact ib r _ _ _ (Or.inl ⟨_,rfl,rfl,U V⟩) (by rw [length_append] at W ⊢;show _+1<=_;rw [length_append] at j ⊢;omega)
   | false =>
    simp only [cond_false]
    exact ib r _ none _ (Or.inr ⟨rfl,Or.inr ⟨_,rfl,M V⟩⟩) (by simpa using j)
theorem kP:∀ (fld:Y3) (f:List Y2) (l:List (List Y2)),(dK fld f l).length=l.length
 | _,_,[]=>rfl
 | fld,f,c::r=>by
  rw [dK]
  cases dl (c.headD 0) with
  | true=>simp only [cond_true,length_cons];rw [kP]
  | false=>simp only [cond_false,length_cons];rw [kP]
theorem Dh (h:List Y2) (j:h.length<=200000) (κ:LA->Y1 R) (f:Nat) (m:1000300<f) :
  ba.e bA bR aQ aC (B h) (wc κ f) (A8 κ f) (qj κ f) (mF κ f) (wb κ f) κ=κ ((gz h).map gP):=by
 unfold ba.e
 rw [z7 h (by omega)]
 have u:=kF h
 have z:=gF h
 have A:=kP false [] (dF h)
 have:=mG κ (dK false [] (dF h)) (by omega) (dF h) f 0 [] none [] (by omega) rfl (by omega) (by simp) (by omega) (by simp) (by intro x e;cases e)
 rw [ib _ _ _ none (Or.inr ⟨rfl,Or.inl rfl⟩) (by simp)] at this
 simp only [length_map]
 refine this.trans ?_
 unfold gz
 simp [List.map_take]
theorem yb (h:List Y2) (f:h.length<=200000) (κ:LA->Y1 R):ba (B h) κ=κ ((gz h).map gP):=
 Dh h f κ ah (by unfold ah;omega)
abbrev NB:Nat:=140737488351232
theorem Db (a b:BA) (f:a.size<=NB) (j:b.size<=NB) (κ:Y3->Y1 R):cv a b κ=κ (decide (dT (bl a)=dT (bl b))):=by
 have m:=fa a
 have u:=fa b
 unfold NB at f j
 unfold cv cv.e
 conv=>lhs;rw [<- iE a,<- iE b,ic _ (by omega),ic _ (by omega)]
 exact congrArg κ (decide_eq_decide.2 eg)
theorem DM (a b:BA) (f:a.size<=NB) (j:b.size<=NB) (κ:Y3->Y1 R):cw a b κ=κ (decide (dT (bl a)=dT (bl b))):=by
 have m:=fa a
 have u:=fa b
 unfold NB at f j
 unfold cw cw.e
 conv=>lhs;rw [<- iE a,<- iE b,sZ _ (by omega),sZ _ (by omega)]
 exact congrArg κ (decide_eq_decide.2 eg)
def lz (name:BA):LA->Option BA
 | []=>none
 | a::r=>if dT (bl (a.fld 0).s)=dT (bl name) then some (a.fld 1).s else lz name r
def A2 (κ:Y3->BA->Y1 R) (o:Option BA):Y1 R:=κ o.isSome (o.getD (B []))
theorem DR {l:LA} {i:Nat} {a:AV} {r:LA} (h:l.drop i=a::r):bi l (i:Int)=a:=mW h
theorem sC (name:BA) (u:name.size<=NB) (l:LA) (N:l.length<=1000000) (z:∀ a∈l,Fit NB a) (κ:Y3->BA->Y1 R) (A:Y3) (M:BA):∀ (f i:Nat),i<=l.length->l.length<i+f ->
  df.L2 cv κ f name l (l.length:Int) (i:Int) A M=A2 κ (lz name (l.drop i))
 | 0,i,O,U=>by omega
 | f+1,i,O,U=>by
  rw [df.L2,df.t2,dU]
  have j:wrap .i64 ((i:Int)+1)=((i+1:Nat):Int):=wrap_i64 (by omega) (by omega)
  cases m:l.drop i with
  | nil =>
   have:=drop_nil m
   rw [af (by omega)];rfl
  | cons a r =>
   obtain ⟨g1,g2,g3⟩:=cG m
   have V:=z a (List.mem_of_getElem? g1)
   rw [ai (by omega),aq,ab (by omega),ab (by omega),DR m,Db _ _ (V.fld 0).s u,j,sC name u l N z κ A M f (i+1) (by omega) (by omega),g3,lz]
   by_cases e:dT (bl (a.fld 0).s)=dT (bl name)
   ·rw [decide_eq_true e,if_pos e];rfl
   ·rw [decide_eq_false e,if_neg e];rfl
theorem E5 (name:BA) (j:name.size<=NB) (l:LA) (m:l.length<=1000000) (u:∀ a∈l,Fit NB a) (κ:Y3->BA->Y1 R):df l name κ=A2 κ (lz name l):=by
 have key:∀ f,l.length<f->df.e cv l name (df.L2 cv κ f) κ=A2 κ (lz name l):=
  fun f h=>sC name j l m u κ false _ f 0 (by omega) (by omega)
 exact key ah (by unfold ah;omega)
theorem F7 (v:List Y2) (f:v.length<=1000000) (κ:Int->Y1 R):aN (B v) 0 κ=κ (pl v (dc v)):=by
 rw [<- kp v];exact oW v v f (suffix_refl v) κ
theorem HQ (v:List Y2) (f:v.length<=1000000) (κ:BA->Int->Y1 R):ak (B v) 0 κ=κ (B v) (pl v (dc v)):=by
 rw [<- kp v];exact uv v v f (suffix_refl v) κ
def x' (v:List Y2):Option (List Y2 × List Y2 × List Y2):=
 if dQ (dc v)=[] then none else match dc (fh (dc v)) with
  | []=>none
  | c::t=>if c=47 then (if dQ (dc t)=[] then none else some (dT (dQ (dc v)),dT (dQ (dc t)),fh (dc t))) else none
theorem HP {v a b r:List Y2} (h:x' v=some (a,b,r)):r <:+ v:=by
 unfold x' at h
 split at h
 ·cases h
 ·have f:=(dM (fh (dc v))).trans ((fi (dc v)).trans (dM v))
  split at h
  ·cases h
  ·rename_i c t e
   rw [e] at f
   split at h
   ·split at h
    ·cases h
    ·cases h
     exact ((fi (dc t)).trans (dM t)).trans ((suffix_cons _ _).trans f)
   ·cases h
theorem zI (l:List Y2):decide (B (dT l)=B [])=decide (l=[]):=decide_eq_decide.2 (eg.trans mJ)
theorem HU (v:List Y2) (j:v.length<=1000000):match x' v with
  | some (a,b,r)=>∀ κ:BA->BA->Y3->BA->Int->Y1 R,bg (B v) 0 κ=κ (B a) (B b) true (B v) (pl v r)
  | none=>∃ (a b:BA) (p:Int),∀ κ:BA->BA->Y3->BA->Int->Y1 R,bg (B v) 0 κ=κ a b false (B v) p:=by
 have b0:v <:+ v:=suffix_refl v
 have X:=dM v
 have Y:=(fi (dc v)).trans X
 have W:=(dM (fh (dc v))).trans Y
 have ad:(dQ (dc v)).length<=1000000:=by have:=ff (dc v);have:=X.length_le;omega
 have step:∀ κ:BA->BA->Y3->BA->Int->Y1 R,bg (B v) 0 κ=bif decide (dQ (dc v)=[]) then κ (B []) (B []) false (B v) (pl v (dc (fh (dc v)))) else ao (B v) (pl v (dc (fh (dc v)))) 47 (fun A m u=>bif (!A) then κ (⟨#[]⟩:BA) (⟨#[]⟩:BA) false m u else ak m u (fun M N=>az M N (fun O U V=>bM O (fun z=>κ (B (dT (dQ (dc v)))) z (!decide (z=(⟨#[]⟩:BA))) U V)))):=fun κ=>by
  unfold bg bg.e
  rw [HQ v j,A6 v _ j X,ic _ (by omega),uv v _ j Y,dU,zI]
 unfold x'
 by_cases c1:dQ (dc v)=[]
 ·rw [if_pos c1]
  exact ⟨B [],B [],_,fun κ=>by rw [step,decide_eq_true c1,cond_true]⟩
 ·rw [if_neg c1]
  cases e:dc (fh (dc v)) with
  | nil =>
   refine ⟨B [],B [],pl v [],fun κ => ?_⟩
   rw [step,decide_eq_false c1,cond_false,e,show (47:Int)=((47:Y2).toNat:Int) from rfl,jk v [] 47 j nil_suffix]
   rfl
  | cons c t =>
   rw [e] at W
   have ht:=dZ W
   by_cases c2:c=47
   ·simp only [c2,if_true]
    have b4:=(dM t).trans ht
    have ae:(dQ (dc t)).length<=1000000:=by have:=ff (dc t);have:=b4.length_le;omega
    have f:∀ κ:BA->BA->Y3->BA->Int->Y1 R,bg (B v) 0 κ=κ (B (dT (dQ (dc v)))) (B (dT (dQ (dc t)))) (!decide (dQ (dc t)=[])) (B v) (pl v (fh (dc t))):=fun κ=>by
     rw [step,decide_eq_false c1,cond_false,e,show (47:Int)=((47:Y2).toNat:Int) from rfl,jk v (c::t) 47 j W]
     simp only [c2,if_true,Bool.not_true,cond_false]
     rw [uv v t j ht,A6 v _ j b4,ic _ (by omega),dU,zI]
    by_cases c3:dQ (dc t)=[]
    ·rw [if_pos c3]
     exact ⟨_,_,_,fun κ=>by rw [f,decide_eq_true c3];rfl⟩
    ·rw [if_neg c3]
     exact fun κ=>by rw [f,decide_eq_false c3];rfl
   ·simp only [c2,if_false]
    refine ⟨B [],B [],pl v (c::t),fun κ => ?_⟩
    rw [step,decide_eq_false c1,cond_false,e,show (47:Int)=((47:Y2).toNat:Int) from rfl,jk v (c::t) 47 j W]
    simp only [c2,if_false]
    rfl
def gT:List Y2:=[109,101,115,115,97,103,101]
def mK:List Y2:=[114,102,99,56,50,50]
def ou:List Y2:=[116,101,120,116]
def H0:List Y2:=[112,108,97,105,110]
def Ji:List Pm:=[([99,104,97,114,115,101,116],[117,115,45,97,115,99,105,105])]
def xZ (v:List Y2) (f:Y3):List Y2 × List Y2 × List Pm:=
 match x' v with
 | some (a,b,r)=>(a,b,wz r)
 | none=>if f then (gT,mK,[]) else (ou,H0,Ji)
theorem H7 (v:List Y2) (j:v.length<=1000000) (is m:Y3) (N:is=false->v=[]) (κ:BA->BA->LA->Y1 R) (u:BA->BA->Y1 R) (O:∀ a b,u a b=κ a b []) :
  dp is (B v) m κ u=κ (B (xZ v m).1) (B (xZ v m).2.1) ((xZ v m).2.2.map bw):=by
 have b0:v <:+ v:=suffix_refl v
 have A:=dM v
 have W:=(fi (dc v)).trans A
 have z:=(dM (fh (dc v))).trans W
 have U:(dQ (dc v)).length<=1000000:=by have:=ff (dc v);have:=A.length_le;omega
 have f:x' v=none->(bif m then u (⟨#[109,101,115,115,97,103,101]⟩:BA) (⟨#[114,102,99,56,50,50]⟩:BA) else κ (⟨#[116,101,120,116]⟩:BA) (⟨#[112,108,97,105,110]⟩:BA) [AV.agg [AV.str (⟨#[99,104,97,114,115,101,116]⟩:BA),AV.str (⟨#[117,115,45,97,115,99,105,105]⟩:BA)]])=κ (B (xZ v m).1) (B (xZ v m).2.1) ((xZ v m).2.2.map bw):=fun h=>by
  unfold xZ
  rw [h]
  cases m with
  | true=>rw [cond_true,O];rfl
  | false=>rfl
 unfold dp dp.e
 rw [F7 v j,yE v _ j A,lI v _ j A _ (by rw [b6]),oW v _ j W,dU,fO,iW v]
 cases is with
 | false =>
  rw [cond_false]
  refine f ?_
  rw [N rfl]
  unfold x'
  rw [kz];rfl
 | true =>
  rw [cond_true]
  by_cases c1:dQ (dc v)=[]
  ·rw [decide_eq_true c1,Bool.not_true,cond_false]
   exact f (by unfold x';rw [if_pos c1])
  ·rw [decide_eq_false c1,Bool.not_false,cond_true]
   cases e:dc (fh (dc v)) with
   | nil =>
    rw [dL,af (by omega)]
    exact f (by unfold x';rw [if_neg c1,e])
   | cons c t =>
    rw [e] at z
    have X:=dZ z
    have Y:=eO z
    have h2:=eB (s:=v) (r:=c::t)
    rw [ai Y,aq,ab h2.1,ab Y,eT z,gn z j]
    by_cases c2:c=47
    ·have M:=(dM t).trans X
     have b5:=(fi (dc t)).trans M
     have V:(dQ (dc t)).length<=1000000:=by have:=ff (dc t);have:=M.length_le;omega
     rw [jz 47 rfl c2,cond_true,oW v t j X,yE v _ j M,fO,lI v _ j M _ (by rw [b6])]
     by_cases c3:dQ (dc t)=[]
     ·rw [decide_eq_true c3,Bool.not_true,cond_false]
      refine f ?_
      unfold x'
      rw [if_neg c1,e]
      simp only [c2,if_true,c3]
     ·rw [decide_eq_false c3,Bool.not_false,cond_true,sA _ U,sA _ V,G9 v _ j b5]
      have:x' v=some (dT (dQ (dc v)),dT (dQ (dc t)),fh (dc t)):=by
       unfold x'
       rw [if_neg c1,e]
       simp only [c2,if_true,c3,if_false]
      unfold xZ
      rw [this]
    ·rw [iX 47 rfl c2,cond_false]
     refine f ?_
     unfold x'
     rw [if_neg c1,e]
     simp only [c2,if_false]
def jf (v:List Y2):List Y2:=dT (dQ (dc v))
def u7 (v:List Y2):List Y2:=fh (dc v)
theorem yc (s r:List Y2) (f:s.length<=1000000) (h:r <:+ s) (κ:Y3->BA->BA->Int->Y1 R):aB (B s) (pl s r) κ=κ (!decide (jf r=[])) (B (jf r)) (B s) (pl s (u7 r)):=by
 have j:=(dM r).trans h
 have m:(dQ (dc r)).length<=1000000:=by have:=ff (dc r);have:=j.length_le;omega
 unfold aB aB.e
 rw [uv s r f h,A6 s _ f j,ic _ (by omega),dU,fO]
 rfl
theorem qB (v:List Y2) (f:v.length<=1000000) (is:Y3) (j:is=false->v=[]) (κ:Y3->BA->Int->Y1 R):cX is (B v) κ=if jf v=[] then κ false (B []) 0 else κ true (B (jf v)) (pl v (u7 v)):=by
 have m:=dM v
 have u:(dQ (dc v)).length<=1000000:=by have:=ff (dc v);have:=m.length_le;omega
 unfold cX cX.e
 rw [F7 v f,yE v _ f m,dU,fO]
 cases is with
 | false =>
  have e:jf v=[]:=by rw [j rfl];unfold jf;rw [kz];rfl
  rw [if_pos e];rfl
 | true =>
  rw [Bool.not_true,cond_false]
  by_cases c1:dQ (dc v)=[]
  ·rw [decide_eq_true c1,cond_true,if_pos (show jf v=[] from mJ.2 c1)]
  ·rw [decide_eq_false c1,cond_false,if_neg (show ¬ jf v=[] from fun e=>c1 (mJ.1 e)),sA _ u,lI v _ f m _ (by rw [b6])]
   rfl
def zE:Nat->List (List Y2)->List Y2->List (List Y2)
 | 0,a,_=>a
 | n+1,a,r=>if a.length<12 then (if jf r=[] then a else match dc (u7 r) with
   | []=>a++[jf r]
   | c::t=>if c=44 then zE n (a++[jf r]) t else a++[jf r]) else a
def FT (r:List Y2):List (List Y2):=zE (r.length+1) [] r
theorem zn (r:List Y2):dc (u7 r) <:+ r:=(dM _).trans ((fi _).trans (dM r))
theorem vT (s:List Y2) (u:s.length<=1000000):∀ (n f:Nat) (a:List (List Y2)) (r:List Y2),r <:+ s->r.length<n->n<f->∃ p:Int,∀ κ:LA->BA->Int->Y1 R,
  aJ.L2 aB ak ao κ f (B s) (pl s r) (bH a)=κ (bH (zE n a r)) (B s) p
 | 0,f,a,r,_,X,_=>by omega
 | n+1,0,a,r,_,_,V=>by omega
 | n+1,1,a,r,_,_,V=>by omega
 | n+1,f+1+1,a,r,h,X,V=>by
  have z:=fS a
  have U:∀ (l:LA) (b:BA) (p:Int) (κ:LA->BA->Int->Y1 R),aJ.L8 aB ak ao κ (f+1) l b p=κ l b p:=fun l b p κ=>rfl
  have O:=(zn r).trans h
  have Y:u7 r <:+ s:=((fi _).trans (dM r)).trans h
  by_cases A:a.length<12
  ·by_cases c1:jf r=[]
   ·refine ⟨pl s (u7 r),fun κ => ?_⟩
    rw [aJ.L2,aJ.t2,z,ai (by omega),yc s r u h,zE,if_pos A,if_pos c1,decide_eq_true c1]
    simp only [Bool.not_true,Bool.not_false,cond_true]
    rw [U]
   ·have M:bH a++[AV.str (B (jf r))]=bH (a++[jf r]):=by rw [ga];rfl
    have step:∀ κ:LA->BA->Int->Y1 R,aJ.L2 aB ak ao κ (f+1+1) (B s) (pl s r) (bH a)=ao (B s) (pl s (dc (u7 r))) 44 (fun N j m=>bif (!N) then κ (bH (a++[jf r])) j m else aJ.L2 aB ak ao κ (f+1) j m (bH (a++[jf r]))):=fun κ=>by
     rw [aJ.L2,aJ.t2,z,ai (by omega),yc s r u h,decide_eq_false c1]
     simp only [Bool.not_true,Bool.not_false,cond_false]
     rw [ab (by omega),uv s _ u Y,M]
     simp only [U]
    have hl:zE (n+1) a r=match dc (u7 r) with
      | []=>a++[jf r]
      | c::t=>if c=44 then zE n (a++[jf r]) t else a++[jf r]:=by rw [zE,if_pos A,if_neg c1]
    rw [hl]
    cases e:dc (u7 r) with
    | nil =>
     refine ⟨pl s [],fun κ => ?_⟩
     rw [step,e,show (44:Int)=((44:Y2).toNat:Int) from rfl,jk s [] 44 u nil_suffix];rfl
    | cons c t =>
     rw [e] at O
     by_cases c2:c=44
     ·simp only [c2,if_true]
      have W:=zn r
      rw [e] at W
      have h4:=W.length_le
      simp only [length_cons] at h4
      obtain ⟨p,hp⟩:=vT s u n (f+1) (a++[jf r]) t (dZ O) (by omega) (by omega)
      refine ⟨p,fun κ => ?_⟩
      rw [step,e,show (44:Int)=((44:Y2).toNat:Int) from rfl,jk s (c::t) 44 u O]
      simp only [c2,if_true,Bool.not_true,cond_false]
      exact hp κ
     ·simp only [c2,if_false]
      refine ⟨pl s (c::t),fun κ => ?_⟩
      rw [step,e,show (44:Int)=((44:Y2).toNat:Int) from rfl,jk s (c::t) 44 u O]
      simp only [c2,if_false];rfl
  ·refine ⟨pl s r,fun κ => ?_⟩
   rw [aJ.L2,aJ.t2,z,af (by omega),zE,if_neg A,U]
theorem JE (v:List Y2) (j:v.length<=1000000):∃ p:Int,∀ κ:LA->BA->Int->Y1 R,aJ (B v) 0 κ=κ (bH (FT v)) (B v) p:=by
 have key:∀ f,1000002<f->∃ p:Int,∀ κ:LA->BA->Int->Y1 R,aJ.e aB ak ao (B v) 0 (aJ.L2 aB ak ao κ f) (aJ.L8 aB ak ao κ f) κ=κ (bH (FT v)) (B v) p:=by
  intro f m
  have:=vT (R:=R) v j (v.length+1) f [] v (suffix_refl v) (by omega) (by omega)
  rw [kp] at this
  exact this
 exact key ah (by unfold ah;omega)
theorem wJ (s:List Y2) (m:s.length<=1000000) (κ:LA->Y1 R):∀ (n f:Nat) (a:List (List Y2)) (r:List Y2),r <:+ s->r.length<n->n<f ->
  cF.L3 aN aR bf κ f (pl s r) true (B s) (bH a)=κ (bH (zE n a r))
 | 0,f,a,r,_,U,_=>by omega
 | n+1,0,a,r,_,_,V=>by omega
 | n+1,f+1,a,r,h,U,V=>by
  have A:=fS a
  have M:=(dM r).trans h
  have u:=(zn r).trans h
  have W:u7 r <:+ s:=((fi _).trans (dM r)).trans h
  have N:(dQ (dc r)).length<=1000000:=by have:=ff (dc r);have:=M.length_le;omega
  have j:bH a++[AV.str (B (jf r))]=bH (a++[jf r]):=by rw [ga];rfl
  rw [cF.L3,cF.t3,cond_true,A,zE]
  by_cases z:a.length<12
  ·rw [if_pos z,ai (by omega),oW s r m h,yE s _ m M,dU,fO,iW s]
   by_cases c1:dQ (dc r)=[]
   ·rw [if_pos (show jf r=[] from mJ.2 c1),decide_eq_true c1,cond_true]
   ·rw [if_neg (show ¬ jf r=[] from fun e=>c1 (mJ.1 e)),decide_eq_false c1,cond_false,sA _ N,ab (by omega),lI s _ m M _ (by rw [b6])]
    show aN (B s) (pl s (u7 r)) _=_
    rw [oW s _ m W]
    show (bif decide (pl s (dc (u7 r))>=(s.length:Int)) then κ (bH a++[AV.str (B (jf r))]) else _)=_
    rw [j]
    cases e:dc (u7 r) with
    | nil=>rw [dL,ai (by omega)]
    | cons c t =>
     rw [e] at u
     have X:=eO u
     have Y:=eB (s:=s) (r:=c::t)
     have O:=zn r
     rw [e] at O
     have h4:=O.length_le
     simp only [length_cons] at h4
     rw [af (by omega),aq,ab Y.1,ab X,eT u,gn u m]
     unfold bne
     by_cases c2:c=44
     ·rw [jz 44 rfl c2,Bool.not_true,cond_false]
      simp only [c2,if_true]
      have:=wJ s m κ n f (a++[jf r]) t (dZ u) (by omega) (by omega)
      rw [<- j] at this
      exact this
     ·rw [iX 44 rfl c2,Bool.not_false,cond_true]
      simp only [c2,if_false]
      rw [<- j];rfl
  ·rw [if_neg z,af (by omega)]
theorem Iq (v:List Y2) (m:v.length<=1000000) (is:Y3) (j:is=false->v=[]) (κ:LA->Y1 R):cF is (B v) κ=κ (bH (FT v)):=by
 have key:∀ f,1000002<f->cF.e aN aR bf is (B v) (cF.L3 aN aR bf κ f) κ=κ (bH (FT v)):=by
  intro f u
  unfold cF.e
  cases is with
  | true =>
   have:=wJ v m κ (v.length+1) f [] v (suffix_refl v) (by omega) (by omega)
   rw [kp] at this
   exact this
  | false =>
   rw [j rfl]
   cases f with
   | zero=>omega
   | succ f =>
    rw [cF.L3,cF.t3]
    unfold FT zE jf
    rw [kz];rfl
 exact key ah (by unfold ah;omega)
theorem xc (κ:BA->Y1 R):∀ (f:Nat) (l:List Y2),l.length<f->l.length<=1000000->dy.L3 κ f (B l)=κ (B (fT dl l))
 | 0,l,h,m=>by omega
 | f+1,l,h,m=>by
  rw [dy.L3,dy.t3]
  simp only [b6]
  by_cases j:l=[]
  ·subst j;rfl
  ·obtain ⟨t,c,rfl⟩:=lC j
   have hlen:(t++[c]).length=t.length+1:=by simp
   have hw:wrap .i64 (((t++[c]).length:Int)-1)=(t.length:Int):=by rw [hlen,wrap_i64 (by omega) (by omega)];omega
   have u:(t++[c])[t.length]? = some c:=by simp
   simp only [hw]
   simp (disch:=omega) only [ai,aq,ab,pw u]
   have z:(B (t++[c])).extract (0:Int).toNat ((t.length:Int)).toNat=B t:=by
    rw [dh,Int.toNat_zero,Int.toNat_natCast,drop_zero,List.take_left' rfl]
   rw [jJ,z,xc κ f t (by omega) (by omega)]
   unfold dl
   by_cases c1:c=32
   ·rw [jz 32 rfl c1];simp [c1]
   ·rw [iX 32 rfl c1]
    by_cases c2:c=9
    ·rw [jz 9 rfl c2];simp [c2]
    ·rw [iX 9 rfl c2];simp [c1,c2]
theorem xa (κ:BA->Y1 R):∀ (f:Nat) (l:List Y2),2*l.length+2<f->l.length<=1000000->dy.L1 κ f (B l)=κ (B (e6 l))
 | 0,l,h,j=>by omega
 | f+1,l,h,j=>by
  rw [dy.L1,dy.t1,xc κ f l (by omega) j]
  simp only [b6]
  cases l with
  | nil=>rfl
  | cons c r =>
   have hlen:(c::r).length=r.length+1:=rfl
   have m:dP (B (c::r)) 0=c.toNat:=pw (i:=0) rfl
   have u:(B (c::r)).extract (1:Int).toNat (((c::r).length:Int)).toNat=B r:=by
    rw [dh,Int.toNat_natCast,take_length];rfl
   simp (disch:=omega) only [ai,aq,ab,m]
   rw [u,xa κ f r (by omega) (by omega)]
   unfold e6
   rw [dropWhile_cons]
   unfold dl
   by_cases c1:c=32
   ·rw [jz 32 rfl c1];simp [c1]
   ·rw [iX 32 rfl c1]
    by_cases c2:c=9
    ·rw [jz 9 rfl c2];simp [c2]
    ·rw [iX 9 rfl c2];simp [c1,c2]
theorem xd (l:List Y2) (j:l.length<=1000000) (κ:BA->Y1 R) (f:Nat) (m:2*l.length+2<f) :
  dy.e (B l) (dy.L1 κ f) (dy.L3 κ f) κ=κ (B (e6 l)):=xa κ f l m j
theorem D5 (l:List Y2) (f:l.length<=1000000) (κ:BA->Y1 R):dy (B l) κ=κ (B (e6 l)):=xd l f κ ah (by unfold ah;omega)
theorem yB (v:List Y2) (j:v.length<=1000000) (is:Y3) (f:is=false->v=[]) (κ:Y3->BA->Y1 R):dw is (B v) κ=κ is (B (e6 v)):=by
 unfold dw dw.e
 cases is with
 | true=>rw [Bool.not_true,cond_false,D5 v j]
 | false=>rw [f rfl];rfl
def cutAt:List (List Y2)->Option Nat
 | []=>none
 | x::r=>if x=[13,10] then some x.length else (cutAt r).map (x.length+·)
def jL (s:BA) (o:Option Nat) (κ:BA->BA->Y1 R):Y1 R:=
 match o with
 | some n=>κ (B ((bl s).take n)) (B ((bl s).drop n))
 | none=>κ s (B [])
theorem qV (s:BA) (N:(bl s).length<=1000000) (l:List (List Y2)) (A:total l=(bl s).length) (m:l.length<=1000000) (κ:BA->BA->Y1 R):∀ (f i:Nat),i<=l.length->l.length<i+f ->
  cP.L4 bE κ f s (total (l.take i):Nat) (i:Int) (bH l)=jL s ((cutAt (l.drop i)).map (total (l.take i)+·)) κ
 | 0,i,O,U=>by omega
 | f+1,i,O,U=>by
  have u:=fa s
  have hlen:=fS l
  rw [cP.L4,cP.t4]
  cases M:l.drop i with
  | nil =>
   have:=drop_nil M
   simp (disch:=omega) only [af]
   rfl
  | cons x r =>
   obtain ⟨g1,g2,g3⟩:=cG M
   have j:total (l.take (i+1))=total (l.take i)+x.length:=by
    rw [dO g1,m6];simp [total]
   have V:total (l.take (i+1))+total r=(bl s).length:=by
    rw [<- A,<- g3,<- m6,take_append_drop]
   have W:=qV s N l A m κ f (i+1) (by omega) (by omega)
   simp (disch:=omega) only [ai,aq,ab,wO g1,b6]
   have e:((total (l.take i):Nat):Int)+(x.length:Int)=((total (l.take (i+1)):Nat):Int):=by rw [j];simp
   simp only [e]
   simp (disch:=omega) only [ai,aq,ab,wrap_i64]
   rw [cutAt]
   by_cases z:x=[13,10]
   ·subst z
    rw [if_pos rfl,decide_eq_true (show B [13,10]=(⟨#[13,10]⟩:BA) from rfl)]
    simp only [cond_true,Option.map_some,jL]
    congr 1
    ·rw [<- iE (s.extract _ _),eH,Int.toNat_natCast,j];rfl
    ·rw [<- iE (s.extract _ _),eH,Int.toNat_natCast,j];simp [u]
   ·rw [if_neg z,decide_eq_false (by intro h;exact z (eg.1 h))]
    simp only [cond_false]
    rw [<- g3]
    refine W.trans ?_
    congr 1
    rw [j]
    cases cutAt (l.drop (i+1)) with
    | none=>rfl
    | some n=>simp only [Option.map_some];congr 1;omega
def oS:Y3->List Y2->Option Nat
 | _,[]=>none
 | f,13::10::r=>if f then some 2 else (oS true r).map (2+·)
 | _,_::r=>(oS false r).map (1+·)
theorem mr (f:Y3) (r:List Y2):oS f (13::10::r)=if f then some 2 else (oS true r).map (2+·):=by rw [oS]
theorem ik (f:Y3) (c:Y2) (r:List Y2) (h:¬ (c=13/\r.head? = some 10)):oS f (c::r)=(oS false r).map (1+·):=by
 rw [oS]
 rintro j rfl rfl;exact h ⟨rfl,rfl⟩
theorem G2 (o:Option Nat) (a b c:Nat) (h:a+b=c):(o.map (a+·)).map (b+·)=o.map (c+·):=by
 cases o with
 | none=>rfl
 | some n=>simp only [Option.map_some];congr 1;omega
theorem Dx (o:Option Nat):o.map (0+·)=o:=by cases o <;> simp
theorem AG (f s:List Y2) (z:f≠[13,10]) (A:¬ (f=[13]/\s.head? = some 10)):cutAt (dt f s)=(oS (decide (f=[])) s).map (f.length+·):=by
 fun_induction dt f s with
 | case1=>rfl
 | case2 f h=>rw [cutAt,if_neg z];simp [cutAt,oS]
 | case3 f r j =>
  replace j:=j (by simp) (by simp)
  rw [cutAt,mr]
  by_cases h:f=[]
  ·subst h;simp
  ·rw [if_neg (by intro e;have:=congrArg List.length e;simp at this;exact h this),decide_eq_false h,j]
   simp only [length_append,length_cons,length_nil,decide_true,Bool.false_eq_true,if_false]
   rw [Dx,G2 _ _ _ _ (show 2+f.length=f.length+(0+1+1) by omega)]
 | case4 f c r h j =>
  have u:¬ (c=13/\r.head? = some 10):=by
   rintro ⟨rfl,m⟩
   cases r with
   | nil=>simp at m
   | cons d r=>simp at m;subst m;exact h r rfl rfl
  rw [ik _ c r u,j ?_ ?_,decide_eq_false (by simp)]
  rotate_left
  ·intro e
   match f,e with
   | [x],e=>simp at e;obtain ⟨rfl,rfl⟩:=e;exact A ⟨rfl,rfl⟩
   | [],e=>simp at e
   | _::_::_,e=>simp at e
  ·rintro ⟨e,m⟩
   match f,e with
   | [],e=>simp at e;subst e;exact u ⟨rfl,m⟩
   | _::_,e=>simp at e
  rw [G2 _ _ _ _ (show 1+f.length=(f++[c]).length by simp;omega)]
theorem CW (s:List Y2):oS false s=if Lib.index s [13,10,13,10] = -1 then none else some (Lib.index s [13,10,13,10]+4).toNat:=by
 have key:∀ n (s:List Y2),s.length<=n->oS false s=if Lib.index s [13,10,13,10] = -1 then none else some (Lib.index s [13,10,13,10]+4).toNat:=by
  intro n
  induction n with
  | zero => intro s h; have : s = [] := by cases s <;> simp_all
            subst this;rfl
  | succ n ih =>
   intro s h
   cases s with
   | nil=>rfl
   | cons c r =>
    have step:∀ r:List Y2,r.length<=n->((oS false r).map (1+·))=if (if Lib.index r [13,10,13,10] == -1 then (-1:Int) else Lib.index r [13,10,13,10]+1) = -1 then none else some ((if Lib.index r [13,10,13,10] == -1 then (-1:Int) else Lib.index r [13,10,13,10]+1)+4).toNat:=by
     intro r hr
     rw [ih r hr]
     have:=Lib.index_ge r [13,10,13,10]
     by_cases e:Lib.index r [13,10,13,10] = -1
     ·simp [e]
     ·have e':(Lib.index r [13,10,13,10] == -1)=false:=by simp [e]
      simp only [e',Bool.false_eq_true,if_false]
      rw [if_neg e,if_neg (by omega)]
      simp only [Option.map_some];congr 1;omega
    by_cases hc:c=13/\r.head? = some 10
    ·obtain ⟨rfl,hr⟩:=hc
     cases r with
     | nil=>simp at hr
     | cons d r =>
      simp only [List.head?_cons,Option.some.injEq] at hr;subst hr
      rw [mr]
      simp only [Bool.false_eq_true,if_false]
      by_cases hp:∃ r',r=13::10::r'
      ·obtain ⟨r',rfl⟩:=hp
       rw [mr,ft]
       simp
      ·have hnp:List.isPrefixOf [13,10,13,10] (13::10::r)=false:=by
        cases hh:List.isPrefixOf [13,10,13,10] (13::10::r) with
        | false=>rfl
        | true =>
         obtain ⟨t,ht⟩:=List.isPrefixOf_iff_prefix.1 hh
         simp only [cons_append,nil_append,List.cons.injEq,true_and] at ht
         exact absurd ⟨t,ht.symm⟩ hp
       have ht:oS true r=oS false r:=by
        cases r with
        | nil=>rfl
        | cons a r =>
         have:¬ (a=13/\r.head? = some 10):=by
          rintro ⟨rfl,h2⟩
          cases r with
          | nil=>simp at h2
          | cons b r=>simp at h2;subst h2;exact hp ⟨r,rfl⟩
         rw [ik _ _ _ this,ik _ _ _ this]
       have h10:oS false (10::r)=(oS false r).map (1+·):=ik _ _ _ (by simp)
       rw [ht,<- G2 _ 1 1 2 rfl,<- h10,step (10::r) (by simp at h ⊢;omega),ft 13,hnp]
       simp only [Bool.false_eq_true,if_false]
    ·rw [ik _ _ _ hc,step r (by simp at h;omega)]
     have hnp:List.isPrefixOf [13,10,13,10] (c::r)=false:=by
      cases hh:List.isPrefixOf [13,10,13,10] (c::r) with
      | false=>rfl
      | true =>
       obtain ⟨t,ht⟩:=List.isPrefixOf_iff_prefix.1 hh
       simp only [cons_append,nil_append,List.cons.injEq] at ht
       obtain ⟨rfl,rfl⟩:=ht
       exact absurd ⟨rfl,rfl⟩ hc
     rw [ft,hnp];simp only [Bool.false_eq_true,if_false]
 exact key _ s (Nat.le_refl _)
theorem wX (s:BA) (j:(bl s).length<=1000000) (κ:BA->BA->Y1 R) (f:Nat) (z:(bl s).length<f):cP.e bE s (cP.L4 bE κ f) κ=jL s (oS true (bl s)) κ:=by
 unfold cP.e
 rw [tg s j]
 have m:=gY [] (bl s)
 simp only [length_nil,Nat.zero_add] at m
 have A:=lD (bl s)
 have u:=qV s j (dt [] (bl s)) m (by omega) κ f 0 (Nat.zero_le _) (by omega)
 simp only [List.take_zero,drop_zero,total] at u
 refine u.trans ?_
 rw [Dx,AG _ _ (by simp) (by simp),decide_eq_true rfl]
 simp only [length_nil,Dx]
theorem Bn (s:BA) (f:(bl s).length<=1000000) (κ:BA->BA->Y1 R):cP s κ=jL s (oS true (bl s)) κ :=
 wX s f κ ah (by unfold ah;omega)
theorem Dc (s:BA) (N:(bl s).length<=1000000) (κ:BA->BA->Y1 R):dN s κ=jL s (oS true (bl s)) κ:=by
 have f:=fa s
 unfold dN dN.e aO aO.e ef
 rw [show (⟨#[13,10]⟩:BA)=B [13,10] from rfl,mq]
 cases j:List.isPrefixOf [13,10] (bl s) with
 | true =>
  obtain ⟨t,A⟩:=List.isPrefixOf_iff_prefix.1 j
  have:2<=(bl s).length:=by rw [<- A];simp
  simp (disch:=omega) only [cond_true,aq,ab]
  rw [<- A]
  simp only [cons_append,nil_append,mr,if_true,jL]
  congr 1
  ·rw [<- iE (s.extract _ _),eH];simp
  ·rw [<- iE (s.extract _ _),eH];simp [f]
 | false =>
  simp (disch:=omega) only [cond_false,ab]
  have m:oS true (bl s)=oS false (bl s):=by
   cases h:bl s with
   | nil=>rfl
   | cons a r =>
    have:¬ (a=13/\r.head? = some 10):=by
     rintro ⟨rfl,u⟩
     cases r with
     | nil=>simp at u
     | cons b r=>simp at u;subst u;rw [h] at j;simp at j
    rw [ik _ _ _ this,ik _ _ _ this]
  rw [m,CW]
  have M:=Lib.index_ge (bl s) [13,10,13,10]
  show (bif decide (Lib.index (bl s) [13,10,13,10]>=0) then _ else _)=_
  by_cases e:Lib.index (bl s) [13,10,13,10] = -1
  ·rw [e];rfl
  ·have hle:Lib.index (bl s) [13,10,13,10]+4<=(bl s).length:=by
    have:=qd (bl s) [13,10,13,10] e
    simpa using this
   rw [if_neg e]
   have z:s.data.toList=bl s:=rfl
   simp only [z]
   simp (disch:=omega) only [ai,wrap_i64,aq,ab,jL]
   congr 1
   ·rw [<- iE (s.extract _ _),eH];rfl
   ·rw [<- iE (s.extract _ _),eH];simp [f]
def iw (s:BA):BA × BA:=
 match oS true (bl s) with
 | some n=>(B ((bl s).take n),B ((bl s).drop n))
 | none=>(s,B [])
theorem tw (s:BA) (κ:BA->BA->Y1 R):jL s (oS true (bl s)) κ=κ (iw s).1 (iw s).2:=by
 unfold jL iw;split <;> rfl
theorem A5 (s:BA) (f:(bl s).length<=1000000) (κ:BA->BA->Y1 R):dN s κ=κ (iw s).1 (iw s).2:=(Dc s f κ).trans (tw s κ)
theorem uO (s:BA) (f:(bl s).length<=1000000) (κ:BA->BA->Y1 R):cP s κ=κ (iw s).1 (iw s).2:=(Bn s f κ).trans (tw s κ)
theorem zq:∀ (M:List (List Y2)) (j:Option Fl) (N:Nat),(∀ x,j=some x->x.1.length<=N)->total M<=N->∀ x∈cQ j M,x.1.length<=N
 | [],none,N,h,u,x,f=>by rw [cQ] at f;cases f
 | [],some y,N,h,u,x,f=>by rw [cQ,mem_singleton] at f;subst f;exact h x rfl
 | c::r,j,N,h,u,x,f=>by
  simp only [total] at u
  have m:(fresh c).1.length<=N:=by
   have:=uF c
   unfold fresh
   cases eV c with
   | false=>simp
   | true=>show (fC c).length<=N;omega
  cases j with
  | none =>
   have e:cQ none (c::r)=cQ (some (fresh c)) r:=rfl
   rw [e] at f
   exact zq r _ N (by intro y e;cases e;exact m) (by omega) x f
  | some y =>
   have e:cQ (some y) (c::r)=bif dl (c.headD 0) then cQ (some (ext y c)) r else y::cQ (some (fresh c)) r:=rfl
   rw [e] at f
   cases O:dl (c.headD 0) with
   | true =>
    rw [O,cond_true] at f
    exact zq r _ N (by intro z e;cases e;exact h y rfl) (by omega) x f
   | false =>
    rw [O,cond_false] at f
    rcases List.mem_cons.1 f with A|A
    ·rw [A];exact h y rfl
    ·exact zq r _ N (by intro z e;cases e;exact m) (by omega) x A
theorem pQ (c:List Y2):(fresh c).2.2=c:=by
 unfold fresh
 cases eV c <;> rfl
theorem ul:∀ (u:List (List Y2)) (m:Option Fl) (n:Nat),(∀ x,m=some x->x.2.2.length+total u<=n)->total u<=n->∀ x∈cQ m u,x.2.2.length<=n
 | [],none,n,h,j,x,f=>by rw [cQ] at f;cases f
 | [],some y,n,h,j,x,f=>by
  rw [cQ,mem_singleton] at f;subst f
  have:=h x rfl;simp only [total] at this;omega
 | c::r,none,n,h,j,x,f=>by
  rw [cQ] at f
  refine ul r _ n ?_ (by simp only [total] at j;omega) x f
  intro y e;cases e
  simp only [total] at j
  rw [pQ];omega
 | c::r,some y,n,h,j,x,f=>by
  have hy:=h y rfl
  simp only [total] at j hy
  rw [cQ] at f
  have M:=pQ c
  cases A:dl (c.headD 0) with
  | true =>
   rw [A,cond_true] at f
   refine ul r _ n ?_ (by omega) x f
   intro z e;cases e
   have:(ext y c).2.2.length=y.2.2.length+c.length:=by unfold ext;simp
   omega
  | false =>
   rw [A,cond_false,mem_cons] at f
   rcases f with rfl|f
   ·omega
   ·refine ul r _ n ?_ (by omega) x f
    intro z e;cases e;rw [M];omega
theorem D6 (l:List Y2):(e6 l).length<=l.length:=by
 have f:=tk dl (l.dropWhile dl)
 have j:=(List.dropWhile_suffix dl (l:=l)).length_le
 unfold e6;omega
def oh (h:List Y2):LA:=(gz h).map gP
theorem ub (h:List Y2) (u:h.length<=200000):(oh h).length<=64/\(∀ a∈oh h,Fit NB a)/\∀ a∈oh h,(a.fld 1).s.size<=200000:=by
 have z:=gF h
 refine ⟨by unfold oh;rw [length_map];unfold gz;rw [length_take];omega,fun a f => ?_,fun a f => ?_⟩
 all_goals
  obtain ⟨x,j,rfl⟩:=List.mem_map.1 f
  unfold gz at j
  obtain ⟨y,hy,rfl⟩:=List.mem_map.1 (List.mem_of_mem_take j)
  have hy:=(List.mem_filter.1 hy).1
  have A:=zq (dF h) none 200000 (by intro x e;cases e) (by omega) y hy
  have M:=ul (dF h) none 200000 (by intro x e;cases e) (by omega) y hy
  have N:=ji (dF h) none 200000 (by intro x e;cases e) (by omega) y hy
  have O:=D6 y.2.1
 ·refine .agg _ fun b m => ?_
  simp only [mem_cons,List.mem_nil_iff,or_false] at m
  rcases m with rfl|rfl|rfl
  ·exact .str _ (by rw [b6];show y.1.length<=NB;unfold NB;omega)
  ·exact .str _ (by rw [b6];show (e6 y.2.1).length<=NB;unfold NB;omega)
  ·exact .str _ (by rw [b6];show y.2.2.length<=NB;unfold NB;omega)
 ·rw [HG,b6];show (e6 y.2.1).length<=200000;omega
def gI (h:List Y2) (n:BA):Y3:=(lz n (oh h)).isSome
def gV (h:List Y2) (n:BA):List Y2:=bl ((lz n (oh h)).getD (B []))
theorem ER {h:List Y2} {n:BA} (e:gI h n=false):gV h n=[]:=by
 unfold gI at e;unfold gV
 cases f:lz n (oh h) with
 | none=>rfl
 | some s=>rw [f] at e;cases e
theorem zp {n:BA}:∀ {l:LA} {s:BA},lz n l=some s->∃ a∈l,s=(a.fld 1).s
 | [],_,h=>by cases h
 | a::r,s,h=>by
  rw [lz] at h
  split at h
  ·cases h;exact ⟨a,by simp,rfl⟩
  ·obtain ⟨b,f,e⟩:=zp h;exact ⟨b,by simp [f],e⟩
theorem nw {h:List Y2} (f:h.length<=200000) (n:BA):(gV h n).length<=200000:=by
 unfold gV
 cases j:lz n (oh h) with
 | none=>simp [jR]
 | some s =>
  obtain ⟨a,m,rfl⟩:=zp j
  have:=(ub h f).2.2 a m
  rw [fa] at this
  exact this
theorem vS {h:List Y2} (f:h.length<=200000) {n:BA} (j:n.size<=NB) (κ:Y3->BA->Y1 R):df (oh h) n κ=κ (gI h n) (B (gV h n)):=by
 obtain ⟨u,m,_⟩:=ub h f
 exact E5 n j (oh h) (by omega) m κ
theorem qC (name:BA) (u:name.size<=NB) (l:LA) (N:l.length<=1000000) (z:∀ a∈l,Fit NB a) (κ:Y3->BA->Y1 R) (A:Y3) (M:BA):∀ (f i:Nat),i<=l.length->l.length<i+f ->
  dA.L2 cw κ f l name (i:Int) A M=A2 κ (lz name (l.drop i))
 | 0,i,O,U=>by omega
 | f+1,i,O,U=>by
  rw [dA.L2,dA.t2,dU]
  have j:wrap .i64 ((i:Int)+1)=((i+1:Nat):Int):=wrap_i64 (by omega) (by omega)
  cases m:l.drop i with
  | nil =>
   have:=drop_nil m
   rw [af (by omega)];rfl
  | cons a r =>
   obtain ⟨g1,g2,g3⟩:=cG m
   have V:=z a (List.mem_of_getElem? g1)
   rw [ai (by omega),aq,ab (by omega),ab (by omega),DR m,DM _ _ (V.fld 0).s u,j,qC name u l N z κ A M f (i+1) (by omega) (by omega),g3,lz]
   by_cases e:dT (bl (a.fld 0).s)=dT (bl name)
   ·rw [decide_eq_true e,if_pos e,cond_true,aq,ab (by omega),ab (by omega)];rfl
   ·rw [decide_eq_false e,if_neg e];rfl
theorem Bi (name:BA) (j:name.size<=NB) (l:LA) (m:l.length<=1000000) (u:∀ a∈l,Fit NB a) (κ:Y3->BA->Y1 R):dA l name κ=A2 κ (lz name l):=by
 have key:∀ f,l.length<f->dA.e cw l name (dA.L2 cw κ f) κ=A2 κ (lz name l):=
  fun f h=>qC name j l m u κ _ _ f 0 (by omega) (by omega)
 exact key ah (by unfold ah;omega)
theorem jq {h:List Y2} (f:h.length<=200000) {n:BA} (j:n.size<=NB) (κ:Y3->BA->Y1 R):dA (oh h) n κ=κ (gI h n) (B (gV h n)):=by
 obtain ⟨u,m,_⟩:=ub h f
 exact Bi n j (oh h) (by omega) m κ
structure HdV where
 ty:List Y2
 sub:List Y2
 ps:List Pm
 i0:Y3
 i1:List Y2
 a0:Y3
 a1:List Y2
 c1:List Y2
 p1:List Y2
 pp:List Pm
 lg:List (List Y2)
 w0:Y3
 w1:List Y2
abbrev HB (R:Type):Type:=T3 R
def du (l:List Y2):Y3 := !decide (l=[])
def A0 (h:List Y2) (f:Y3):HdV where
 ty:=(xZ (gV h (⟨#[67,111,110,116,101,110,116,45,84,121,112,101]⟩:BA)) f).1
 sub:=(xZ (gV h (⟨#[67,111,110,116,101,110,116,45,84,121,112,101]⟩:BA)) f).2.1
 ps:=(xZ (gV h (⟨#[67,111,110,116,101,110,116,45,84,121,112,101]⟩:BA)) f).2.2
 i0:=gI h (⟨#[67,111,110,116,101,110,116,45,73,100]⟩:BA)
 i1:=e6 (gV h (⟨#[67,111,110,116,101,110,116,45,73,100]⟩:BA))
 a0:=gI h (⟨#[67,111,110,116,101,110,116,45,68,101,115,99,114,105,112,116,105,111,110]⟩:BA)
 a1:=e6 (gV h (⟨#[67,111,110,116,101,110,116,45,68,101,115,99,114,105,112,116,105,111,110]⟩:BA))
 c1:=jf (gV h (⟨#[67,111,110,116,101,110,116,45,84,114,97,110,115,102,101,114,45,69,110,99,111,100,105,110,103]⟩:BA))
 p1:=jf (gV h (⟨#[67,111,110,116,101,110,116,45,68,105,115,112,111,115,105,116,105,111,110]⟩:BA))
 pp:=if jf (gV h (⟨#[67,111,110,116,101,110,116,45,68,105,115,112,111,115,105,116,105,111,110]⟩:BA))=[] then [] else wz (u7 (gV h (⟨#[67,111,110,116,101,110,116,45,68,105,115,112,111,115,105,116,105,111,110]⟩:BA)))
 lg:=FT (gV h (⟨#[67,111,110,116,101,110,116,45,76,97,110,103,117,97,103,101]⟩:BA))
 w0:=gI h (⟨#[67,111,110,116,101,110,116,45,76,111,99,97,116,105,111,110]⟩:BA)
 w1:=e6 (gV h (⟨#[67,111,110,116,101,110,116,45,76,111,99,97,116,105,111,110]⟩:BA))
def oO (κ:HB R) (p:BA) (v:HdV) (a b c d e:Int):Y1 R:=
 κ p (B v.ty) (B v.sub) (v.ps.map bw) v.i0 (B v.i1) v.a0 (B v.a1) (du v.c1) (B v.c1) (du v.p1) (B v.p1) (v.pp.map bw) (bH v.lg) v.w0 (B v.w1) a b c d e
theorem ya {h:List Y2} (f:h.length<=200000) {n:BA} (j:n.size<=NB) (κ:Y3->BA->Y1 R):dn (oh h) n κ=κ (gI h n) (B (e6 (gV h n))):=by
 unfold dn dn.e
 have:=nw f n
 rw [vS f j,qO _ (by omega)]
theorem HI (v:List Y2) (f:v.length<=1000000) (κ:Y3->BA->BA->Int->Y1 R):aB (B v) 0 κ=κ (du (jf v)) (B (jf v)) (B v) (pl v (u7 v)):=by
 have:=yc v v f (suffix_refl v) κ
 rw [kp] at this
 exact this
theorem xK (v:List Y2):u7 v <:+ v:=(fi _).trans (dM v)
theorem nX {h:List Y2} (m:h.length<=200000) (ty sub:BA) (ps:LA) (p:BA) (a b c d e:Int) (κ:HB R) (f:Nat) (k:HB R)
  (hk:∀ i0 i1 a0 a1 c0 c1 X p1 pp w0 w1,k p ty sub ps i0 i1 a0 a1 c0 c1 X p1 pp [] w0 w1 a b c d e=dv.oM df bg aL aB dn aJ κ (f+1) (oh h) p ty sub ps i0 i1 a0 a1 c0 c1 X p1 pp [] w0 w1 a b c d e) :
  df (oh h) (⟨#[67,111,110,116,101,110,116,45,84,114,97,110,115,102,101,114,45,69,110,99,111,100,105,110,103]⟩:BA) (fun ax Y=>aB Y 0 (fun u z a6 a7=>dn (oh h) (⟨#[67,111,110,116,101,110,116,45,73,100]⟩:BA) (fun A M=>dn (oh h) (⟨#[67,111,110,116,101,110,116,45,68,101,115,99,114,105,112,116,105,111,110]⟩:BA) (fun N O=>dn (oh h) (⟨#[67,111,110,116,101,110,116,45,76,111,99,97,116,105,111,110]⟩:BA) (fun U V=>df (oh h) (⟨#[67,111,110,116,101,110,116,45,68,105,115,112,111,115,105,116,105,111,110]⟩:BA) (fun a8 ad=>aB ad 0 (fun j W ae ap=>bif j then aL ae ap (fun ar bb be=>k p ty sub ps A M N O u z j W ar [] U V a b c d e) else k p ty sub ps A M N O u z j W [] [] U V a b c d e)))))))
  = κ p ty sub ps (gI h (⟨#[67,111,110,116,101,110,116,45,73,100]⟩:BA)) (B (e6 (gV h (⟨#[67,111,110,116,101,110,116,45,73,100]⟩:BA)))) (gI h (⟨#[67,111,110,116,101,110,116,45,68,101,115,99,114,105,112,116,105,111,110]⟩:BA)) (B (e6 (gV h (⟨#[67,111,110,116,101,110,116,45,68,101,115,99,114,105,112,116,105,111,110]⟩:BA)))) (du (jf (gV h (⟨#[67,111,110,116,101,110,116,45,84,114,97,110,115,102,101,114,45,69,110,99,111,100,105,110,103]⟩:BA)))) (B (jf (gV h (⟨#[67,111,110,116,101,110,116,45,84,114,97,110,115,102,101,114,45,69,110,99,111,100,105,110,103]⟩:BA)))) (du (jf (gV h (⟨#[67,111,110,116,101,110,116,45,68,105,115,112,111,115,105,116,105,111,110]⟩:BA)))) (B (jf (gV h (⟨#[67,111,110,116,101,110,116,45,68,105,115,112,111,115,105,116,105,111,110]⟩:BA)))) ((if jf (gV h (⟨#[67,111,110,116,101,110,116,45,68,105,115,112,111,115,105,116,105,111,110]⟩:BA))=[] then [] else wz (u7 (gV h (⟨#[67,111,110,116,101,110,116,45,68,105,115,112,111,115,105,116,105,111,110]⟩:BA)))).map bw) (bH (FT (gV h (⟨#[67,111,110,116,101,110,116,45,76,97,110,103,117,97,103,101]⟩:BA)))) (gI h (⟨#[67,111,110,116,101,110,116,45,76,111,99,97,116,105,111,110]⟩:BA)) (B (e6 (gV h (⟨#[67,111,110,116,101,110,116,45,76,111,99,97,116,105,111,110]⟩:BA)))) a b c d e:=by
 have l1:=nw m (⟨#[67,111,110,116,101,110,116,45,84,114,97,110,115,102,101,114,45,69,110,99,111,100,105,110,103]⟩:BA)
 have l2:=nw m (⟨#[67,111,110,116,101,110,116,45,68,105,115,112,111,115,105,116,105,111,110]⟩:BA)
 have l3:=nw m (⟨#[67,111,110,116,101,110,116,45,76,97,110,103,117,97,103,101]⟩:BA)
 have fin:∀ i0 i1 a0 a1 c0 c1 X p1 pp w0 w1,k p ty sub ps i0 i1 a0 a1 c0 c1 X p1 pp [] w0 w1 a b c d e=κ p ty sub ps i0 i1 a0 a1 c0 c1 X p1 pp (bH (FT (gV h (⟨#[67,111,110,116,101,110,116,45,76,97,110,103,117,97,103,101]⟩:BA)))) w0 w1 a b c d e:=by
  intro i0 i1 a0 a1 c0 c1 X p1 pp w0 w1
  rw [hk,dv.oM,dv.t15,vS m (by decide)]
  obtain ⟨q,hq⟩:=JE (R:=R) (gV h (⟨#[67,111,110,116,101,110,116,45,76,97,110,103,117,97,103,101]⟩:BA)) (by omega)
  exact hq _
 rw [vS m (by decide),HI _ (by omega),ya m (by decide),ya m (by decide),ya m (by decide),vS m (by decide),HI _ (by omega)]
 unfold du
 by_cases c1:jf (gV h (⟨#[67,111,110,116,101,110,116,45,68,105,115,112,111,115,105,116,105,111,110]⟩:BA))=[]
 ·rw [decide_eq_true c1,Bool.not_true,cond_false,fin,if_pos c1];rfl
 ·rw [decide_eq_false c1,Bool.not_false,cond_true]
  obtain ⟨q,hq⟩:=HW (R:=R) (gV h (⟨#[67,111,110,116,101,110,116,45,68,105,115,112,111,115,105,116,105,111,110]⟩:BA)) (u7 (gV h (⟨#[67,111,110,116,101,110,116,45,68,105,115,112,111,115,105,116,105,111,110]⟩:BA))) (by omega) (xK _)
  rw [hq,fin,if_neg c1]
theorem HX {h:List Y2} (m:h.length<=200000) (p:BA) (s1 s2:BA) (a b c d e:Int) (z:Y3) (N O U V W:BA) (X Y y3 y4 y5:Y3) (κ:HB R) :
  dv p s1 s2 X N Y O y3 U y4 V y5 W a b c d e (oh h) z κ=oO κ p (A0 h z) a b c d e:=by
 have l1:=nw m (⟨#[67,111,110,116,101,110,116,45,84,121,112,101]⟩:BA)
 have key:∀ f,dv.e df bg aL aB dn aJ p s1 s2 X N Y O y3 U y4 V y5 W a b c d e (oh h) z (dv.oM df bg aL aB dn aJ κ (f+1)) κ=oO κ p (A0 h z) a b c d e:=by
  intro f
  unfold dv.e
  rw [vS m (by decide)]
  have j:=HU (R:=R) (gV h (⟨#[67,111,110,116,101,110,116,45,84,121,112,101]⟩:BA)) (by omega)
  unfold oO A0 xZ
  cases A:x' (gV h (⟨#[67,111,110,116,101,110,116,45,84,121,112,101]⟩:BA)) with
  | none =>
   rw [A] at j
   obtain ⟨u,v,q,j⟩:=j
   rw [j,cond_false]
   cases z with
   | true =>
    rw [cond_true]
    exact nX m _ _ [] p a b c d e κ f (dv.oM df bg aL aB dn aJ κ (f+1) (oh h)) (fun _ _ _ _ _ _ _ _ _ _ _=>rfl)
   | false =>
    rw [cond_false]
    exact nX m _ _ _ p a b c d e κ f (dv.oM df bg aL aB dn aJ κ (f+1) (oh h)) (fun _ _ _ _ _ _ _ _ _ _ _=>rfl)
  | some q =>
   obtain ⟨t,u,r⟩:=q
   rw [A] at j
   replace j:∀ κ:BA->BA->Y3->BA->Int->Y1 R,bg (B (gV h (⟨#[67,111,110,116,101,110,116,45,84,121,112,101]⟩:BA))) 0 κ=κ (B t) (B u) true (B (gV h (⟨#[67,111,110,116,101,110,116,45,84,121,112,101]⟩:BA))) (pl (gV h (⟨#[67,111,110,116,101,110,116,45,84,121,112,101]⟩:BA)) r):=j
   obtain ⟨q2,M⟩:=HW (R:=R) (gV h (⟨#[67,111,110,116,101,110,116,45,84,121,112,101]⟩:BA)) r (by omega) (HP A)
   rw [j,cond_true,M]
   exact nX m _ _ _ p a b c d e κ f (dv.oM df bg aL aB dn aJ κ (f+1) (oh h)) (fun _ _ _ _ _ _ _ _ _ _ _=>rfl)
 exact key (ah-1)
def fv:List Y2->List Y2 × Option (List Y2)
 | []=>([],none)
 | c::t=>if c=13/\t.head? = some 10 then ([],some t.tail) else (c::(fv t).1,(fv t).2)
def gZ (r:List Y2):List Y2:=(fv r).2.getD []
theorem gj (t:List Y2):fv (13::10::t)=([],some t):=by rw [fv,if_pos ⟨rfl,rfl⟩];rfl
theorem fw {c:Y2} {t:List Y2} (h:¬ (c=13/\t.head? = some 10)):fv (c::t)=(c::(fv t).1,(fv t).2):=by rw [fv,if_neg h]
theorem nA {t:List Y2} (h:t.head? = some 10):t=10::t.tail:=by
 cases t with
 | nil=>cases h
 | cons c u=>simp at h;rw [h];rfl
theorem kl:∀ {r u:List Y2},(fv r).2=some u->r=(fv r).1++13::10::u
 | [],u,h=>by cases h
 | c::t,u,h=>by
  by_cases e:c=13/\t.head? = some 10
  ·obtain ⟨rfl,f⟩:=e
   rw [nA f,gj] at h ⊢
   cases h;rfl
  ·rw [fw e] at h ⊢
   have:=kl h
   simp only [cons_append]
   rw [<- this]
theorem mI:∀ {r:List Y2},(fv r).2=none->r=(fv r).1
 | [],_=>rfl
 | c::t,h=>by
  by_cases e:c=13/\t.head? = some 10
  ·obtain ⟨rfl,f⟩:=e
   rw [nA f,gj] at h;cases h
  ·rw [fw e] at h ⊢
   simp only
   rw [<- mI h]
theorem yA (c:Y2) (t:List Y2):([13,10]:List Y2).isPrefixOf (c::t)=decide (c=13/\t.head? = some 10):=by
 cases t with
 | nil=>simp [List.isPrefixOf]
 | cons d u =>
  simp only [List.isPrefixOf,List.head?_cons,Option.some.injEq,Bool.and_true]
  rw [Bool.eq_iff_iff]
  simp only [Bool.and_eq_true,beq_iff_eq,decide_eq_true_eq]
  constructor
  ·rintro ⟨rfl,rfl⟩;exact ⟨rfl,rfl⟩
  ·rintro ⟨rfl,rfl⟩;exact ⟨rfl,rfl⟩
theorem nJ:∀ (r:List Y2),Lib.index r [13,10]=match (fv r).2 with
  | some _=>((fv r).1.length:Int)
  | none => -1
 | []=>by rfl
 | c::t=>by
  rw [ft,yA,nJ t]
  by_cases e:c=13/\t.head? = some 10
  ·rw [if_pos (by simpa using e)]
   obtain ⟨rfl,f⟩:=e
   rw [nA f,gj];rfl
  ·rw [if_neg (by simpa using e),fw e]
   simp only
   cases h:(fv t).2 with
   | none=>rfl
   | some u =>
    simp only [length_cons]
    rw [if_neg (by simp)];omega
theorem qm:∀ (r:List Y2),gZ r <:+ r
 | []=>suffix_refl _
 | c::t=>by
  unfold gZ
  by_cases e:c=13/\t.head? = some 10
  ·obtain ⟨rfl,f⟩:=e
   rw [nA f,gj]
   exact (suffix_cons _ _).trans (suffix_cons _ _)
  ·rw [fw e]
   exact (qm t).trans (suffix_cons _ _)
theorem ql (c:Y2) (t:List Y2):(gZ (c::t)).length<=t.length:=by
 unfold gZ
 by_cases e:c=13/\t.head? = some 10
 ·obtain ⟨rfl,f⟩:=e
  rw [nA f,gj];simp
 ·rw [fw e]
  exact (qm t).length_le
theorem E7 (r:List Y2):(fv r).1.length<=r.length:=by
 cases h:(fv r).2 with
 | none=>have:=mI h;rw [<- this];exact Nat.le_refl _
 | some u=>have:=congrArg List.length (kl h);simp only [length_append,length_cons] at this;omega
theorem zH (r:List Y2):r.take (fv r).1.length=(fv r).1:=by
 cases h:(fv r).2 with
 | none=>have:=mI h;rw [<- this];simp
 | some u => have := kl h; conv => lhs; arg 2; rw [this]
             simp
def fe:List Y2->Y3
 | []=>false
 | c::t=>(c == 13&&t.head? == some 10)||fe t
theorem vK:∀ (r:List Y2),fe (fv r).1=false
 | []=>rfl
 | c::t=>by
  by_cases e:c=13/\t.head? = some 10
  ·obtain ⟨rfl,f⟩:=e
   rw [nA f,gj];rfl
  ·rw [fw e]
   simp only
   unfold fe
   rw [vK t,Bool.or_false,Bool.and_eq_false_iff]
   by_cases j:c=13
   ·right
    have f:t.head? ≠ some 10:=fun h=>e ⟨j,h⟩
    cases t with
    | nil=>rfl
    | cons d u =>
     by_cases m:d=13/\u.head? = some 10
     ·obtain ⟨rfl,z⟩:=m
      rw [nA z,gj];rfl
     ·rw [fw m]
      simpa using f
   ·left;simpa using j
theorem vJ:∀ {a b:List Y2},fe (a++b)=false->fe a=false/\fe b=false
 | [],b,h=>⟨rfl,h⟩
 | c::t,b,h=>by
  rw [cons_append,fe,Bool.or_eq_false_iff] at h
  obtain ⟨f,j⟩:=vJ h.2
  refine ⟨?_,j⟩
  rw [fe,f,Bool.or_false]
  cases t with
  | nil=>simp
  | cons d u=>exact h.1
theorem qk:∀ {w t:List Y2},fe w=false->¬ (w.getLast? = some 13/\t.head? = some 10)->fv (w++t)=(w++(fv t).1,(fv t).2)
 | [],t,_,_=>rfl
 | c::w,t,h,f=>by
  rw [fe,Bool.or_eq_false_iff] at h
  have e:¬ (c=13/\(w++t).head? = some 10):=by
   rintro ⟨rfl,e⟩
   cases w with
   | nil=>exact f ⟨rfl,e⟩
   | cons d u =>
    simp at e h
    exact h.1 e
  rw [cons_append,fw e,qk h.2 (fun x=>f ⟨by
   have:=x.1
   cases w with
   | nil=>simp at this
   | cons d u=>rw [List.getLast?_cons_cons];exact this,x.2⟩)]
  rfl
theorem wi:∀ {w t:List Y2},fe w=false->w.getLast? = some 13->t.head? = some 10->(fv (w++t)).1.length<w.length
 | [],t,_,h,_=>by cases h
 | c::w,t,h,f,j=>by
  rw [fe,Bool.or_eq_false_iff] at h
  cases w with
  | nil =>
   simp at f
   rw [f,nA j,singleton_append,gj];simp
  | cons d u =>
   rw [List.getLast?_cons_cons] at f
   have:=wi h.2 f j
   have e:¬ (c=13/\(d::u++t).head? = some 10):=by
    rintro ⟨rfl,e⟩
    simp at e h
    exact h.1 e
   rw [cons_append,fw e]
   simp only [length_cons] at this ⊢
   omega
def jY (l:List Y2):Y3:=l.all dl
def pq (b l:List Y2):Option Y3:=
 if (45::45::b).isPrefixOf l then
  (if ([45,45]:List Y2).isPrefixOf (l.drop (b.length+2)) then (if jY (l.drop (b.length+2+2)) then some true else none)
   else (if jY (l.drop (b.length+2)) then some false else none))
 else none
def rm (l:List Y2):Y3:=([45,45]:List Y2).isPrefixOf l
theorem tD (l:List Y2):(e6 l=[]) ↔ jY l=true:=by
 unfold e6 jY
 rw [all_eq_true]
 constructor
 ·intro h
  cases f:l.dropWhile dl with
  | nil=>exact pJ.1 f
  | cons c t =>
   have j:dl c=false:=by
    have:=List.head?_dropWhile_not dl l
    rw [f] at this;simpa using this
   rw [f] at h
   obtain ⟨e,he⟩:=qM (p:=dl) t j
   rw [he] at h;cases h
 ·intro h
  rw [pJ.2 h];rfl
theorem Ct (l p:List Y2) (κ:BA->Y3->Y1 R):cS (B l) (B p) κ=if p.isPrefixOf l then κ (B (l.drop p.length)) true else κ (B l) false:=by
 unfold cS cS.e cV cV.e
 have:=p8 (R:=R) l p
 unfold bc bc.e at this
 rw [this]
 cases h:p.isPrefixOf l with
 | false=>rfl
 | true =>
  have f:p.length<=l.length:=(List.isPrefixOf_iff_prefix.1 h).length_le
  rw [b6,b6,Bool.not_true,cond_false,aq,ab (by omega),aq,ab (by omega),ab (by omega),Int.toNat_natCast,Int.toNat_natCast,dh,take_length]
  rfl
theorem EJ (l:List Y2):decide (B l=B [])=decide (l=[]):=decide_eq_decide.2 eg
theorem JC (b l:List Y2) (O:b.length<=1000000) (U:l.length<=1000000):match pq b l with
  | some k=>∀ κ:Y3->Y3->Y1 R,cW (B l) (B b) κ=κ true k
  | none=>∃ k,∀ κ:Y3->Y3->Y1 R,cW (B l) (B b) κ=κ false k:=by
 have st:∀ κ:Y3->Y3->Y1 R,cW (B l) (B b) κ=if (45::45::b).isPrefixOf l then (if rm (l.drop (b.length+2)) then κ (jY (l.drop (b.length+2+2))) true else κ (jY (l.drop (b.length+2))) false) else κ false false:=by
  intro κ
  unfold cW cW.e
  have A:(⟨#[45,45]⟩:BA)=B [45,45]:=rfl
  have z:∀ x:List Y2,x.length<=1000000->∀ κ:BA->Y1 R,bR (B x) (⟨#[32,9]⟩:BA) κ=κ (B (e6 x)):=fun x M κ=>qO x M κ
  have tb:∀ x:List Y2,decide (e6 x=[])=jY x:=fun x=>by
   cases h:jY x with
   | true=>exact decide_eq_true ((tD x).2 h)
   | false=>exact decide_eq_false (fun e=>by rw [(tD x).1 e] at h;cases h)
  rw [A,b6,b6,ab (by simp only [length_cons,length_nil];omega),fX,Ct]
  show (if (45::45::b).isPrefixOf l then _ else _)=_
  by_cases h:(45::45::b).isPrefixOf l=true
  ·rw [if_pos h,if_pos h,Bool.not_true,cond_false,Ct]
   have N:([45,45]++b).length=b.length+2:=by simp
   have u:(l.drop (b.length+2)).length<=1000000:=by rw [length_drop];omega
   rw [N]
   unfold rm
   by_cases f:([45,45]:List Y2).isPrefixOf (l.drop (b.length+2))=true
   ·rw [if_pos f,if_pos f,z _ (by simp only [length_drop];omega),dU,EJ,tb,drop_drop];rfl
   ·rw [if_neg f,if_neg f,z _ u,dU,EJ,tb]
  ·rw [if_neg h,if_neg h];rfl
 unfold pq
 by_cases h:(45::45::b).isPrefixOf l=true
 ·rw [if_pos h]
  simp only [h,if_true] at st
  by_cases f:rm (l.drop (b.length+2))=true
  ·have j:=f
   unfold rm at j
   rw [if_pos j]
   simp only [f,if_true] at st
   cases m:jY (l.drop (b.length+2+2)) with
   | true=>rw [if_pos rfl];rw [m] at st;exact st
   | false=>rw [if_neg (by decide)];rw [m] at st;exact ⟨true,st⟩
  ·have j:=f
   unfold rm at j
   rw [if_neg j]
   simp only [f] at st
   cases m:jY (l.drop (b.length+2)) with
   | true=>rw [if_pos rfl];rw [m] at st;exact st
   | false=>rw [if_neg (by decide)];rw [m] at st;exact ⟨false,st⟩
 ·rw [if_neg h]
  simp only [h] at st
  exact ⟨false,st⟩
def pn (s r:List Y2):Nat:=s.length-r.length
theorem ww (s r:List Y2):pl s r=(pn s r:Int):=rfl
theorem yx {s r:List Y2} (h:r <:+ s) (k:Nat):(B s).extract (pn s r) (pn s r+k)=B (r.take k):=by
 rw [dh,drop_take,show pn s r=s.length-r.length from rfl,qY h]
 congr 2;omega
theorem uI {s r:List Y2} (h:r <:+ s) {k:Nat} (f:k<=r.length):pn s (r.drop k)=pn s r+k:=by
 have:=dY h
 unfold pn;rw [length_drop];omega
def oQ (κ:Int->Int->Y1 R) (s:List Y2) (k:Int) (u:List Y2):Y1 R:=
 if u=[] then κ k (pl s []) else if ([13,10]:List Y2).isPrefixOf u then κ k (pl s (u.drop 2)) else κ 0 0
theorem mU (s:List Y2) (A:s.length<=1000000) (k:Int) (κ:Int->Int->Y1 R):∀ (f:Nat) (u:List Y2),u <:+ s->u.length<f->bQ.L9 κ f (B s) (pl s u) k=oQ κ s k (u.dropWhile dl)
 | 0,u,_,M=>by omega
 | f+1,u,h,M=>by
  rw [bQ.L9,bQ.t9,iW]
  cases u with
  | nil =>
   rw [dL,af (by omega),gy rfl];rfl
  | cons c t =>
   have j:=eO h
   have z:=eB (s:=s) (r:=c::t)
   have m:=dZ h
   simp only [length_cons] at M
   rw [ai j,aq,ab z.1,ab j,eT h,gn h A]
   by_cases c1:c=32
   ·rw [jz 32 rfl c1,cond_true,mU s A k κ f t m (by omega),dropWhile_cons,if_pos (by subst c1;rfl)]
   ·rw [iX 32 rfl c1,cond_false,aq,ab z.1,ab j]
    by_cases c2:c=9
    ·rw [jz 9 rfl c2,cond_true,mU s A k κ f t m (by omega),dropWhile_cons,if_pos (by subst c2;rfl)]
    ·rw [iX 9 rfl c2,cond_false,dropWhile_cons,if_neg (by unfold dl;simp [c1,c2]),fY (by omega)]
     rw [cond_false]
     unfold oQ
     rw [if_neg (by simp),yA]
     have hw:wrap .i64 (pl s (c::t)+2)=pl s (c::t)+2:=wrap_i64 (by omega) (by omega)
     rw [hw]
     by_cases c3:c=13
     ·cases t with
      | nil =>
       have:pl s [c]+1=(s.length:Int):=by have:=kO h;rw [dL] at this;omega
       rw [af (by omega),if_neg (by simp)]
      | cons d v =>
       have g1:=eO m
       have g2:=eB (s:=s) (r:=d::v)
       have g3:=kO h
       have g4:=kO m
       rw [ai (by omega),aq,ab z.1,ab j,jz 13 rfl c3,cond_true,aq,ab g2.1,ab g1,eT m]
       by_cases c4:d=10
       ·rw [jz 10 rfl c4,cond_true,if_pos (by simp [c3,c4])]
        rw [show pl s (c::d::v)+2=pl s v by omega];rfl
       ·rw [iX 10 rfl c4,cond_false,if_neg (by simp [c4])]
     ·rw [if_neg (by simp [c3])]
      by_cases c5:pl s (c::t)+2<=(s.length:Int)
      ·rw [ai c5,aq,ab z.1,ab j,iX 13 rfl c3,cond_false]
      ·rw [af c5]
theorem vb:∀ (u:List Y2),(jY (fv u).1=true ↔ (u.dropWhile dl=[]∨([13,10]:List Y2).isPrefixOf (u.dropWhile dl)=true))
  /\ (jY (fv u).1=true->gZ u=(u.dropWhile dl).drop 2)
 | []=>⟨⟨fun _ => .inl rfl,fun _=>rfl⟩,fun _=>rfl⟩
 | c::t=>by
  by_cases e:c=13/\t.head? = some 10
  ·obtain ⟨rfl,f⟩:=e
   rw [nA f]
   have j:(13::10::t.tail).dropWhile dl=13::10::t.tail:=by rw [dropWhile_cons,if_neg (by decide)]
   unfold gZ
   rw [j,gj]
   exact ⟨⟨fun _ => .inr (by simp),fun _=>rfl⟩,fun _=>rfl⟩
  ·unfold gZ
   rw [fw e,dropWhile_cons]
   obtain ⟨i1,i2⟩:=vb t
   unfold gZ at i2
   unfold jY at i1 i2 ⊢
   rw [List.all_cons]
   cases m:dl c with
   | true=>rw [Bool.true_and,if_pos rfl];exact ⟨i1,i2⟩
   | false =>
    rw [Bool.false_and,if_neg (by decide)]
    refine ⟨⟨fun h=>(by cases h),fun h => ?_⟩,fun h=>(by cases h)⟩
    rcases h with h|h
    ·cases h
    ·rw [yA] at h;simp at h;exact absurd h e
theorem EH (t:List Y2):rm (fv t).1=rm t/\(rm t=true->(fv t).1.drop 2=(fv (t.drop 2)).1/\gZ t=gZ (t.drop 2)):=by
 cases t with
 | nil=>exact ⟨rfl,fun h=>by cases h⟩
 | cons c u =>
  by_cases c1:c=45
  ·have e:¬ (c=13/\u.head? = some 10):=by rintro ⟨rfl,_⟩;cases c1
   unfold gZ
   rw [fw e]
   cases u with
   | nil=>exact ⟨rfl,fun h=>by simp [rm,List.isPrefixOf] at h⟩
   | cons d v =>
    by_cases c2:d=45
    ·have z:¬ (d=13/\v.head? = some 10):=by rintro ⟨rfl,_⟩;cases c2
     rw [fw z]
     subst c1 c2
     exact ⟨rfl,fun _=>⟨rfl,rfl⟩⟩
    ·have f:∀ x:List Y2,rm (c::d::x)=false:=fun x=>by
      unfold rm;simp only [List.isPrefixOf];simp [Ne.symm c2]
     refine ⟨?_,fun h=>by rw [f] at h;cases h⟩
     rw [f]
     by_cases j:d=13/\v.head? = some 10
     ·obtain ⟨rfl,m⟩:=j
      rw [nA m,gj];simp [rm,List.isPrefixOf]
     ·rw [fw j,f]
  ·have f:∀ x:List Y2,rm (c::x)=false:=fun x=>by
    unfold rm;simp only [List.isPrefixOf];simp [Ne.symm c1]
   refine ⟨?_,fun h=>by rw [f] at h;cases h⟩
   rw [f]
   by_cases j:c=13/\u.head? = some 10
   ·obtain ⟨rfl,m⟩:=j
    rw [nA m,gj];rfl
   ·rw [fw j,f]
def Ht:Y3->Int
 | true=>2
 | false=>1
def Ef (κ:Int->Int->Y1 R) (s r:List Y2):Option Y3->Y1 R
 | some k=>κ (Ht k) (pl s (gZ r))
 | none=>κ 0 0
theorem Eu (s b t:List Y2) (κ:Int->Int->Y1 R) (N:fe b=false) (f:¬ ((45::45::b).getLast? = some 13/\t.head? = some 10)) :
  (if rm t then oQ κ s 2 ((t.drop 2).dropWhile dl) else oQ κ s 1 (t.dropWhile dl))=Ef κ s (45::45::b++t) (pq b (fv (45::45::b++t)).1):=by
 have hw:fe (45::45::b)=false:=by
  rw [fe,fe,N];rfl
 have z:=qk hw f
 have O:(fv (45::45::b++t)).1=45::45::b++(fv t).1:=by rw [z]
 have A:gZ (45::45::b++t)=gZ t:=by unfold gZ;rw [z]
 have M:∀ (x:List Y2),(45::45::b++x).drop (b.length+2)=x:=fun x=>by simp
 have j:∀ (x:List Y2),(45::45::b++x).drop (b.length+2+2)=x.drop 2:=fun x=>by rw [<- drop_drop,M]
 have U:∀ (x:List Y2),(45::45::b).isPrefixOf (45::45::b++x)=true:=fun x=>List.isPrefixOf_iff_prefix.2 (List.prefix_append _ _)
 have fin:∀ (u:List Y2) (k:Y3),oQ κ s (Ht k) (u.dropWhile dl)=if jY (fv u).1 then κ (Ht k) (pl s (gZ u)) else κ 0 0:=by
  intro u k
  obtain ⟨i1,i2⟩:=vb u
  unfold oQ
  cases h:jY (fv u).1 with
  | true =>
   rw [if_pos rfl,i2 h]
   by_cases c1:u.dropWhile dl=[]
   ·rw [if_pos c1,c1];rfl
   ·rw [if_neg c1]
    rcases i1.1 h with m|m
    ·exact absurd m c1
    ·rw [if_pos m]
  | false =>
   have:¬ (u.dropWhile dl=[]∨([13,10]:List Y2).isPrefixOf (u.dropWhile dl)=true):=fun x=>by rw [i1.2 x] at h;cases h
   rw [if_neg (fun x=>this (.inl x)),if_neg (fun x=>this (.inr x)),if_neg (by decide)]
 unfold pq
 rw [O,if_pos (U _),M,j]
 obtain ⟨d1,d2⟩:=EH t
 show _=Ef κ s _ (if rm (fv t).1 then _ else _)
 rw [d1]
 cases V:rm t with
 | true =>
  obtain ⟨d3,d4⟩:=d2 V
  rw [if_pos rfl,if_pos rfl,d3]
  have:=fin (t.drop 2) true
  rw [show Ht true=(2:Int) from rfl] at this
  rw [this]
  cases jY (fv (t.drop 2)).1 with
  | true=>rw [if_pos rfl,if_pos rfl,Ef,A,d4];rfl
  | false=>rfl
 | false =>
  rw [if_neg (by decide),if_neg (by decide)]
  have:=fin t false
  rw [show Ht false=(1:Int) from rfl] at this
  rw [this]
  cases jY (fv t).1 with
  | true=>rw [if_pos rfl,if_pos rfl,Ef,A];rfl
  | false=>rfl
theorem Et (s b t:List Y2) (κ:Int->Int->Y1 R) (j:fe b=false) (f:((45::45::b).getLast? = some 13/\t.head? = some 10)) :
  (if rm t then oQ κ s 2 ((t.drop 2).dropWhile dl) else oQ κ s 1 (t.dropWhile dl))=Ef κ s (45::45::b++t) (pq b (fv (45::45::b++t)).1):=by
 have hw:fe (45::45::b)=false:=by
  rw [fe,fe,j];rfl
 have u:=wi hw f.1 f.2
 have:pq b (fv (45::45::b++t)).1=none:=by
  unfold pq
  rw [if_neg]
  intro h
  have:=(List.isPrefixOf_iff_prefix.1 h).length_le
  omega
 rw [this,nA f.2,if_neg (by simp [rm,List.isPrefixOf])]
 have m:(10::t.tail).dropWhile dl=10::t.tail:=rfl
 unfold oQ
 rw [m,if_neg (by simp),if_neg (by simp [List.isPrefixOf])]
 rfl
theorem JH (s r b:List Y2) (O:s.length<=1000000) (hb:b.length<=1000000) (h:r <:+ s) (U:fe b=false) (κ:Int->Int->Y1 R):bQ (B s) (pl s r) (B b) κ=Ef κ s r (pq b (fv r).1):=by
 have hr:=dY h
 have j:(45::45::b).isPrefixOf r=false->pq b (fv r).1=none:=fun e=>by
  unfold pq
  rw [if_neg]
  intro u
  have V:=List.isPrefixOf_iff_prefix.1 u
  have W:(fv r).1 <+: r:=by rw [<- zH r];exact List.take_prefix _ _
  rw [List.isPrefixOf_iff_prefix.2 (V.trans W)] at e;cases e
 have w1:wrap .i64 (pl s r+2)=((pn s r+2:Nat):Int):=by rw [ww];exact wrap_i64 (by omega) (by unfold pn;omega)
 have X:wrap .i64 (((pn s r+2:Nat):Int)+(b.length:Int))=((pn s r+2+b.length:Nat):Int):=wrap_i64 (by omega) (by unfold pn;omega)
 have Y:wrap .i64 (((pn s r+2+b.length:Nat):Int)+2)=((pn s r+2+b.length+2:Nat):Int):=wrap_i64 (by omega) (by unfold pn;omega)
 have hp:pn s r=s.length-r.length:=rfl
 have key:∀ f,1000000<f->bQ.e (B s) (pl s r) (B b) (bQ.L9 κ f) κ=Ef κ s r (pq b (fv r).1):=by
  intro f hf
  unfold bQ.e
  rw [iW,iW,w1,X,Y]
  by_cases c1:r.length<b.length+2
  ·rw [ai (by omega),j (by
    cases u:(45::45::b).isPrefixOf r with
    | false=>rfl
    | true=>have:=(List.isPrefixOf_iff_prefix.1 u).length_le;simp only [length_cons] at this;omega)]
   rfl
  ·rw [af (by omega),aq,ab (by rw [ww];omega),aq,ab (by rw [ww];omega),ab (by omega),ww,Int.toNat_natCast,Int.toNat_natCast,yx h]
   rw [show (⟨#[45,45]⟩:BA)=B [45,45] from rfl,decide_eq_decide.2 (eg (a:=r.take 2) (b:=[45,45]))]
   by_cases c2:r.take 2=[45,45]
   ·rw [decide_eq_true c2,Bool.not_true,cond_false,aq,ab (by omega),aq,ab (by omega),ab (by omega),Int.toNat_natCast]
    obtain ⟨m,rfl⟩:∃ m,r=45::45::m:=by
     refine ⟨r.drop 2,?_⟩
     have:=take_append_drop 2 r
     rw [c2] at this
     exact this.symm
    have z:m <:+ s:=dZ (dZ h)
    have p2:pn s (45::45::m)+2=pn s m:=by
     have:=uI h (k:=2) (by simp)
     exact this.symm
    rw [p2,yx z,decide_eq_decide.2 eg]
    by_cases c3:m.take b.length=b
    ·rw [decide_eq_true c3,Bool.not_true,cond_false]
     obtain ⟨t,rfl⟩:∃ t,m=b++t:=by
      refine ⟨m.drop b.length,?_⟩
      have:=take_append_drop b.length m
      rw [c3] at this
      exact this.symm
     have M:t <:+ s:=(suffix_append b t).trans z
     have p3:pn s (b++t)+b.length=pn s t:=by
      have:=uI z (k:=b.length) (by simp)
      rw [List.drop_left] at this
      exact this.symm
     have A:(if rm t then oQ κ s 2 ((t.drop 2).dropWhile dl) else oQ κ s 1 (t.dropWhile dl))=Ef κ s (45::45::(b++t)) (pq b (fv (45::45::(b++t))).1):=by
      by_cases N:(45::45::b).getLast? = some 13/\t.head? = some 10
      ·exact Et s b t κ U N
      ·exact Eu s b t κ U N
     rw [<- A,p3]
     have ad:=dY M
     have ae:pn s t=s.length-t.length:=rfl
     have one:bQ.L9 κ f (B s) ((pn s t:Nat):Int) 1=oQ κ s 1 (t.dropWhile dl):=mU s O 1 κ f t M (by omega)
     by_cases c4:2<=t.length
     ·rw [ai (by omega),aq,ab (by omega),aq,ab (by omega),ab (by omega),Int.toNat_natCast,yx M,decide_eq_decide.2 (eg (a:=t.take 2) (b:=[45,45])),one]
      have hd:rm t=decide (t.take 2=[45,45]):=by unfold rm;exact iP
      rw [hd]
      by_cases c5:t.take 2=[45,45]
      ·rw [decide_eq_true c5,cond_true,if_pos rfl,<- uI M c4]
       exact mU s O 2 κ f (t.drop 2) ((List.drop_suffix _ _).trans M) (by rw [length_drop];omega)
      ·rw [decide_eq_false c5,cond_false,if_neg (by decide)]
     ·rw [af (by omega),one,if_neg]
      intro h5
      have:=(List.isPrefixOf_iff_prefix.1 h5).length_le
      simp at this;omega
    ·rw [decide_eq_false c3,Bool.not_false,cond_true,j]
     ·rfl
     ·cases u:(45::45::b).isPrefixOf (45::45::m) with
      | false=>rfl
      | true =>
       refine absurd ?_ c3
       simp only [List.isPrefixOf,BEq.rfl,Bool.true_and] at u
       have:=iP (l:=m) (p:=b)
       rw [this] at u
       exact of_decide_eq_true u
   ·rw [decide_eq_false c2,Bool.not_false,cond_true,j]
    ·rfl
    ·cases u:(45::45::b).isPrefixOf r with
     | false=>rfl
     | true =>
      refine absurd ?_ c2
      obtain ⟨x,hx⟩:=List.isPrefixOf_iff_prefix.1 u
      rw [<- hx];rfl
 exact key ah (by unfold ah;omega)
theorem wG (s:List Y2) (z:s.length<=1000000) (κ:Int->Y1 R):∀ (f:Nat) (r:List Y2),r <:+ s->r.length<f->cC.L2 κ f (B s) (pl s r)=κ (pl s (gZ r))
 | 0,r,_,m=>by omega
 | f+1,r,h,m=>by
  rw [cC.L2,cC.t2,iW]
  cases r with
  | nil =>
   rw [dL,wrap_i64 (by omega) (by omega),af (by omega)];rfl
  | cons c t =>
   have A:=eO h
   have M:=eB (s:=s) (r:=c::t)
   have j:=dZ h
   have N:=kO h
   simp only [length_cons] at m
   rw [gn h z]
   cases t with
   | nil =>
    rw [dL,af (by omega)]
    have:gZ [c]=[]:=by
     unfold gZ
     rw [fw (by simp)];rfl
    rw [this];rfl
   | cons d u =>
    have g1:=eO j
    have g2:=eB (s:=s) (r:=d::u)
    have g4:=kO j
    rw [ai g1,aq,ab M.1,ab A,eT h]
    have go:¬ (c=13/\d=10)->cC.L2 κ f (B s) (pl s (d::u))=κ (pl s (gZ (c::d::u))):=fun e=>by
     rw [wG s z κ f (d::u) j (by simp only [length_cons] at m ⊢;omega)]
     have:gZ (c::d::u)=gZ (d::u):=by
      show (fv (c::d::u)).2.getD []=(fv (d::u)).2.getD []
      rw [fw (c:=c) (t:=d::u) (by simpa using e)]
     rw [this]
    by_cases c1:c=13
    ·rw [jz 13 rfl c1,cond_true,aq,ab g2.1,ab g1,eT j]
     by_cases c2:d=10
     ·rw [jz 10 rfl c2,cond_true,wrap_i64 (by omega) (by omega)]
      subst c1 c2
      have:gZ (13::10::u)=u:=by unfold gZ;rw [gj];rfl
      rw [this]
      congr 1;omega
     ·rw [iX 10 rfl c2,cond_false]
      exact go (fun e=>c2 e.2)
    ·rw [iX 13 rfl c1,cond_false]
     exact go (fun e=>c1 e.1)
theorem JI (s r:List Y2) (j:s.length<=1000000) (h:r <:+ s) (κ:Int->Y1 R):cC (B s) (pl s r) κ=κ (pl s (gZ r)):=by
 have:=dY h
 have key:∀ f,1000000<f->cC.e (B s) (pl s r) (cC.L2 κ f) κ=κ (pl s (gZ r)):=fun f m=>wG s j κ f r h (by omega)
 exact key ah (by unfold ah;omega)
theorem wH (s:List Y2) (z:s.length<=1000000) (κ:Y3->Y1 R):∀ (f:Nat) (r:List Y2),r <:+ s->r.length<f->cz.L2 κ f (B s) (pl s r)=κ (fe r)
 | 0,r,_,j=>by omega
 | f+1,r,h,j=>by
  rw [cz.L2,cz.t2,iW]
  cases r with
  | nil =>
   rw [dL,wrap_i64 (by omega) (by omega),af (by omega)];rfl
  | cons c t =>
   have A:=eO h
   have M:=eB (s:=s) (r:=c::t)
   have m:=dZ h
   simp only [length_cons] at j
   rw [gn h z]
   cases t with
   | nil =>
    rw [dL,af (by omega)]
    have:fe [c]=false:=by simp [fe]
    rw [this]
   | cons d u =>
    have g1:=eO m
    have g2:=eB (s:=s) (r:=d::u)
    rw [ai g1,aq,ab M.1,ab A,eT h]
    have go:¬ (c=13/\d=10)->cz.L2 κ f (B s) (pl s (d::u))=κ (fe (c::d::u)):=fun e=>by
     rw [wH s z κ f (d::u) m (by simp only [length_cons] at j ⊢;omega)]
     have:fe (c::d::u)=fe (d::u):=by
      rw [fe.eq_def (c::d::u)]
      have:(c == 13&&(d::u).head? == some 10)=false:=by
       rw [Bool.and_eq_false_iff]
       by_cases c1:c=13
       ·right;simp;exact fun x=>e ⟨c1,x⟩
       ·left;simpa using c1
      simp only [this,Bool.false_or]
     rw [this]
    by_cases c1:c=13
    ·rw [jz 13 rfl c1,cond_true,aq,ab g2.1,ab g1,eT m]
     by_cases c2:d=10
     ·rw [jz 10 rfl c2,cond_true]
      subst c1 c2
      rfl
     ·rw [iX 10 rfl c2,cond_false]
      exact go (fun e=>c2 e.2)
    ·rw [iX 13 rfl c1,cond_false]
     exact go (fun e=>c1 e.1)
theorem JJ (s:List Y2) (j:s.length<=1000000) (κ:Y3->Y1 R):cz (B s) κ=κ (fe s):=by
 have key:∀ f,1000000<f->cz.e (B s) (cz.L2 κ f) κ=κ (fe s):=fun f m=>by
  have:=wH s j κ f s (suffix_refl _) (by omega)
  rw [kp] at this
  exact this
 exact key ah (by unfold ah;omega)
theorem zL (x y:Int):max2 x y=max x y:=by
 unfold max2
 by_cases h:x<y
 ·rw [ai h];omega
 ·rw [af h];omega
theorem uA (x y:Int):min2 x y=min x y:=by
 unfold min2
 by_cases h:y<x
 ·rw [ai h];omega
 ·rw [af h];omega
def fN (F:Nat) (p:Nat × Nat):AV := .agg [.int ((F+p.1:Nat):Int),.int ((F+p.2:Nat):Int)]
def CI (F:Nat):Option Nat->Int
 | none => -1
 | some k=>((F+k:Nat):Int)
def pN (f:Option Nat) (e:Nat):List (Nat × Nat):=
 match f with
 | none=>[]
 | some k=>[(k,e)]
def oV (b s:List Y2) (f:Option Nat):List Y2->List (Nat × Nat)
 | []=>pN f s.length
 | c::t=>match pq b (fv (c::t)).1 with
  | some last=>pN (f) (max (f.getD 0) (pn s (c::t)-2))++(if last then [] else oV b s (some (pn s (gZ (c::t)))) (gZ (c::t)))
  | none=>oV b s f (gZ (c::t))
termination_by r=>r.length
decreasing_by
 all_goals simp_wf
 all_goals have:=ql c t
 all_goals omega
theorem iQ (b s:List Y2) (f:Option Nat):oV b s f []=pN f s.length:=by rw [oV]
theorem zl (f:Option Nat) (e:Nat):(pN f e).length<=1:=by unfold pN;cases f <;> simp
theorem uc (F:Nat) (f:Option Nat):decide (CI F f>=0)=f.isSome:=by
 cases f with
 | none=>rfl
 | some k=>exact decide_eq_true (by show (0:Int)<=((F+k:Nat):Int);omega)
theorem uJ (b s:List Y2) (A:s.length<=1000000):∀ (n:Nat) (f:Option Nat) (r:List Y2),r.length<=n->r <:+ s->(∀ k,f=some k->k<=s.length)->∀ p∈oV b s f r,p.1<=p.2/\p.2<=s.length
 | n,f,[],_,_,z,p,j=>by
  rw [iQ] at j
  cases f with
  | none=>cases j
  | some k =>
   simp only [pN,mem_singleton] at j
   subst j
   exact ⟨z k rfl,Nat.le_refl _⟩
 | 0,_,c::t,h,_,_,_,_=>by simp at h
 | n+1,f,c::t,h,M,z,p,j=>by
  have N:=ql c t
  have u:=(qm (c::t)).trans M
  have hlen:=dY M
  simp only [length_cons] at h hlen
  rw [oV] at j
  cases e:pq b (fv (c::t)).1 with
  | none =>
   rw [e] at j
   exact uJ b s A n f _ (by omega) u z p j
  | some last =>
   rw [e] at j
   rcases List.mem_append.1 j with m|m
   ·cases f with
    | none=>cases m
    | some k =>
     simp only [pN,mem_singleton] at m
     subst m
     have:=z k rfl
     simp only [Option.getD_some]
     unfold pn
     exact ⟨by omega,by simp only [length_cons];omega⟩
   ·cases last with
    | true=>cases m
    | false =>
     refine uJ b s A n _ _ (by omega) u (fun k e => ?_) p m
     cases e;unfold pn;omega
theorem mV (b s:List Y2) (u:s.length<=1000000) (N:b.length<=1000000) (O:fe b=false) (κ:LA->Y1 R):∀ (f:Nat) (r:List Y2) (j:Option Nat) (acc:LA),r <:+ s->r.length<f->acc.length+r.length<=1000000->(∀ k,j=some k->k<=s.length) ->
  cT.L4 bQ cC κ f (B s) (B b) (CI 0 j) (pl s r) acc=κ (acc++(oV b s j r).map (fN 0))
 | 0,r,j,acc,_,W,_,_=>by omega
 | f+1,r,j,acc,z,W,Y,X=>by
  rw [cT.L4,cT.t4,iW,uc]
  cases r with
  | nil =>
   rw [dL,af (by omega),iQ]
   cases j with
   | none=>simp [pN]
   | some k =>
    rw [Option.isSome_some,cond_true,ab (by omega)]
    show κ (acc++[AV.agg [AV.int ((0+k:Nat):Int),AV.int (s.length:Int)]])=κ (acc++[fN 0 (k,s.length)])
    unfold fN
    rw [Nat.zero_add,Nat.zero_add]
  | cons c t =>
   have h1:=eO z
   have hl:=ql c t
   have m:=(qm (c::t)).trans z
   have hlen:=dY z
   simp only [length_cons] at W Y hlen
   rw [ai h1,JH s (c::t) b u N z O,oV]
   cases e:pq b (fv (c::t)).1 with
   | none =>
    rw [Ef,af (by omega),JI s (c::t) u z]
    exact mV b s u N O κ f _ j acc m (by omega) (by omega) X
   | some last =>
    rw [Ef]
    have U:(Ht last)>(0:Int):=by cases last <;> decide
    rw [ai U]
    have A:∀ k,some (pn s (gZ (c::t)))=some k->k<=s.length:=fun k e=>by cases e;unfold pn;omega
    have M:pl s (gZ (c::t))=CI 0 (some (pn s (gZ (c::t)))):=by
     show ((pn s (gZ (c::t)):Nat):Int)=((0+pn s (gZ (c::t)):Nat):Int)
     rw [Nat.zero_add]
    cases j with
    | none =>
     rw [Option.isSome_none,cond_false]
     cases last with
     | true=>rw [gy (by rfl),cond_true];simp [pN]
     | false =>
      rw [fY (by decide),cond_false]
      have:=mV b s u N O κ f _ (some (pn s (gZ (c::t)))) acc m (by omega) (by omega) A
      rw [<- M] at this
      rw [this];simp [pN]
    | some k =>
     have V:AV.agg [AV.int (CI 0 (some k)),AV.int (max2 (CI 0 (some k)) (wrap .i64 (pl s (c::t)-2)))]=fN 0 (k,max ((some k).getD 0) (pn s (c::t)-2)):=by
      have ad:=X k rfl
      rw [ww,wrap_i64 (by omega) (by unfold pn;omega)]
      unfold fN
      show AV.agg [AV.int ((0+k:Nat):Int),AV.int (max2 ((0+k:Nat):Int) _)]=AV.agg [AV.int ((0+k:Nat):Int),AV.int ((0+max k (pn s (c::t)-2):Nat):Int)]
      congr 3
      rw [zL]
      congr 1
      omega
     rw [Option.isSome_some,cond_true,ab (by omega),V]
     cases last with
     | true=>rw [gy (by rfl),cond_true];simp [pN]
     | false =>
      rw [fY (by decide),cond_false]
      have:=mV b s u N O κ f _ (some (pn s (gZ (c::t)))) (acc++[fN 0 (k,max ((some k).getD 0) (pn s (c::t)-2))]) m (by omega) (by simp only [length_append,length_cons,length_nil];omega) A
      rw [<- M] at this
      rw [this];simp [pN]
theorem JM (b s:List Y2) (u:s.length<=900000) (j:b.length<=1000000) (m:fe b=false) (κ:LA->Y1 R):cT (B s) (B b) κ=κ ((oV b s none s).map (fN 0)):=by
 have key:∀ f,1000000<f->cT.e bQ cC (B s) (B b) (cT.L4 bQ cC κ f) κ=κ ((oV b s none s).map (fN 0)):=fun f z=>by
  have:=mV b s (by omega) j m κ f s none [] (suffix_refl _) (by omega) (by simp;omega) (fun k e=>by cases e)
  rw [kp] at this
  exact this
 exact key ah (by unfold ah;omega)
theorem wM {w s r:List Y2} {F:Nat} (hw:(w.take (F+s.length)).drop F=s) (h:r <:+ s) (m:F+s.length<=w.length) (k:Nat) (f:k<=r.length):(B w).extract (F+pn s r) (F+pn s r+k)=B (r.take k):=by
 have u:=dY h
 have e:s.drop (pn s r)=r:=qY h
 rw [dh]
 congr 1
 have j:w.drop F=s++w.drop (F+s.length):=by
  have:w.drop F=(w.take (F+s.length)).drop F++w.drop (F+s.length):=by
   conv=>lhs;rw [<- take_append_drop (F+s.length) w]
   rw [List.drop_append_of_le_length (by rw [length_take];omega)]
  rw [this,hw]
 rw [drop_take,<- drop_drop,j,List.drop_append_of_le_length (by unfold pn;omega),e,show F+pn s r+k-(F+pn s r)=k by omega,List.take_append_of_le_length f]
theorem sB (b s w:List Y2) (F:Nat) (hw:(w.take (F+s.length)).drop F=s) (hF:F+s.length<=w.length) (ad:w.length<=900000) (hb:b.length<=1000000) (a1 a2:Int) (κ:LA->BA->Int->Y1 R):∀ (f:Nat) (r:List Y2) (j:Option Nat) (acc:LA),r <:+ s->r.length+1<f->acc.length+r.length<=1000000->(∀ k,j=some k->k<=s.length) ->
  bB.L4 aO cW κ f (B b) (CI F j) ((F+pn s r:Nat):Int) (B w) a1 a2 ((F+s.length:Nat):Int) acc=κ (acc++(oV b s j r).map (fN F)) (B w) a1
 | 0,r,j,acc,_,hf,_,_=>by omega
 | f+1,r,j,acc,hr,hf,ha,hk=>by
  have hlen:=dY hr
  have a8:pn s r+r.length=s.length:=by unfold pn;omega
  have ae:=E7 r
  have stop:∀ (g:Nat) (j:Option Nat) (acc:LA),acc.length<=1000000->bB.L4 aO cW κ (g+1) (B b) (CI F j) ((F+s.length+1:Nat):Int) (B w) a1 a2 ((F+s.length:Nat):Int) acc=κ (acc++(pN j s.length).map (fN F)) (B w) a1:=by
   intro g j acc ha
   rw [bB.L4,bB.t4,af (by omega),uc]
   cases j with
   | none=>rw [Option.isSome_none,cond_false];simp [pN]
   | some k=>rw [Option.isSome_some,cond_true,ab (by omega)];rfl
  have M:gZ r <:+ s:=(qm r).trans hr
  have ap:(gZ r).length<=s.length:=dY M
  have N:∀ k,some (pn s (gZ r))=some k->k<=s.length:=fun k e=>by cases e;unfold pn;omega
  have sub:∀ p:Nat,p<=s.length->wrap .i64 (((F+p:Nat):Int)-2)=((F+p:Nat):Int)-2:=fun p hp=>wrap_i64 (by omega) (by omega)
  have W:∀ k,k<=s.length->AV.agg [AV.int (CI F (some k)),AV.int (max2 (CI F (some k)) (((F+pn s r:Nat):Int)-2))]=fN F (k,max ((some k).getD 0) (pn s r-2)):=fun k hk=>by
   unfold fN
   show AV.agg [AV.int ((F+k:Nat):Int),AV.int (max2 ((F+k:Nat):Int) _)]=AV.agg [AV.int ((F+k:Nat):Int),AV.int ((F+max k (pn s r-2):Nat):Int)]
   congr 3
   rw [zL]
   congr 1
   omega
  rw [bB.L4,bB.t4,ai (by omega),iW,aq,ab (by omega),aq,ab (by omega),ab (by omega),Int.toNat_natCast,Int.toNat_natCast,sub _ (by omega)]
  have hx:=wM hw hr hF r.length (Nat.le_refl _)
  rw [take_length,show F+pn s r+r.length=F+s.length by omega] at hx
  rw [hx,show (⟨#[13,10]⟩:BA)=B [13,10] from rfl,qc r _ (by omega),nJ,uc]
  have m:=JC (R:=R) b (fv r).1 hb (by omega)
  have ar:(if h:r=[] then True else True):=by split <;> trivial
  have run:∀ (X:Option Y3),pq b (fv r).1=X->r≠[]->oV b s j r=match X with
    | some last=>pN (j) (max (j.getD 0) (pn s r-2))++(if last then [] else oV b s (some (pn s (gZ r))) (gZ r))
    | none=>oV b s j (gZ r):=by
   intro X hX z
   cases r with
   | nil=>exact absurd rfl z
   | cons c t=>rw [oV,hX]
  cases V:(fv r).2 with
  | some u =>
   have ax:=kl V
   have bb:(fv r).1.length+2+u.length=r.length:=by
    have:=congrArg List.length ax
    simp only [length_append,length_cons] at this;omega
   have A:gZ r=u:=by unfold gZ;rw [V];rfl
   have z:r≠[]:=fun e=>by rw [e] at V;cases V
   have a6:F+pn s r+(fv r).1.length+2=F+pn s u:=by
    rw [A] at ap;unfold pn;omega
   have a7:pn s u<=s.length:=by unfold pn;omega
   have w1:wrap .i64 (((F+pn s r:Nat):Int)+((fv r).1.length:Int))=((F+pn s r+(fv r).1.length:Nat):Int):=wrap_i64 (by omega) (by omega)
   have w2:wrap .i64 (((F+pn s r+(fv r).1.length:Nat):Int)+2)=((F+pn s u:Nat):Int):=by rw [<- a6];exact wrap_i64 (by omega) (by omega)
   have hm:min2 ((F+pn s u:Nat):Int) ((F+s.length:Nat):Int)=CI F (some (pn s u)):=by
    show _=((F+pn s u:Nat):Int)
    rw [uA];omega
   have Y:=wM hw hr hF (fv r).1.length ae
   rw [zH] at Y
   simp only
   rw [ai (by omega),w1,w2,hm,aq,ab (by omega),aq,ab (by omega),ab (by omega),Int.toNat_natCast,Y]
   rw [A] at run M N
   have IH:=fun (j:Option Nat) (acc:LA) (h1:acc.length+u.length<=1000000) (h2:∀ k,j=some k->k<=s.length)=>sB b s w F hw hF ad hb a1 a2 κ f u j acc M (by omega) h1 h2
   cases e:pq b (fv r).1 with
   | none =>
    rw [e] at m
    obtain ⟨q,hq⟩:=m
    rw [hq,cond_false,run none e z]
    exact IH j acc (by omega) hk
   | some last =>
    rw [e] at m
    replace m:∀ κ:Y3->Y3->Y1 R,cW (B (fv r).1) (B b) κ=κ true last:=m
    rw [m,cond_true,run (some last) e z]
    cases j with
    | none =>
     rw [Option.isSome_none,cond_false]
     cases last with
     | true=>rw [cond_true];simp [pN]
     | false=>rw [cond_false,IH _ acc (by omega) N];simp [pN]
    | some k =>
     rw [Option.isSome_some,cond_true,ab (by omega),W k (hk k rfl)]
     cases last with
     | true=>rw [cond_true];simp [pN]
     | false=>rw [cond_false,IH _ _ (by simp only [length_append,length_cons,length_nil];omega) N];simp [pN]
  | none =>
   have O:=mI V
   have A:gZ r=[]:=by unfold gZ;rw [V];rfl
   have w1:wrap .i64 (((F+s.length:Nat):Int)+1)=((F+s.length+1:Nat):Int):=wrap_i64 (by omega) (by omega)
   have U:pn s []=s.length:=rfl
   have hm:min2 ((F+s.length+1:Nat):Int) ((F+s.length:Nat):Int)=CI F (some (pn s [])):=by
    rw [U]
    show _=((F+s.length:Nat):Int)
    rw [uA];omega
   simp only
   rw [af (by omega),w1,hm,aq,ab (by omega),aq,ab (by omega),ab (by omega)]
   rw [<- O] at m
   obtain ⟨g,rfl⟩:∃ g,f=g+1:=⟨f-1,by omega⟩
   by_cases z:r=[]
   ·subst z
    have e:pq b []=none:=by
     unfold pq
     rw [if_neg (by simp [List.isPrefixOf])]
    rw [e] at m
    obtain ⟨q,hq⟩:=m
    rw [hq,cond_false,iQ]
    exact stop g j acc (by omega)
   ·rw [A] at run
    cases e:pq b r with
    | none =>
     rw [e] at m
     obtain ⟨q,hq⟩:=m
     rw [hq,cond_false,run none (by rw [<- O];exact e) z]
     show _=κ (acc++(oV b s j []).map (fN F)) _ _
     rw [iQ]
     exact stop g j acc (by omega)
    | some last =>
     rw [e] at m
     replace m:∀ κ:Y3->Y3->Y1 R,cW (B r) (B b) κ=κ true last:=m
     rw [m,cond_true,run (some last) (by rw [<- O];exact e) z]
     cases j with
     | none =>
      rw [Option.isSome_none,cond_false]
      cases last with
      | true=>rw [cond_true];simp [pN]
      | false=>rw [cond_false,stop g _ acc (by omega),U];simp [pN,iQ]
     | some k =>
      rw [Option.isSome_some,cond_true,ab (by omega),W k (hk k rfl)]
      cases last with
      | true=>rw [cond_true];simp [pN]
      | false =>
       have be:1<=r.length:=by
        cases r with
        | nil=>exact absurd rfl z
        | cons c t=>simp
       rw [cond_false,stop g _ _ (by simp only [length_append,length_cons,length_nil];omega),U];simp [pN,iQ]
theorem IR (b s w:List Y2) (F:Nat) (hw:(w.take (F+s.length)).drop F=s) (m:F+s.length<=w.length) (j:w.length<=900000) (u:b.length<=1000000) (a1:Int) (κ:LA->BA->Int->Y1 R) :
  bB (B w) a1 (F:Int) ((F+s.length:Nat):Int) (B b) κ=κ ((oV b s none s).map (fN F)) (B w) a1:=by
 have key:∀ f,1000001<f->bB.e aO cW (B w) a1 (F:Int) ((F+s.length:Nat):Int) (B b) (bB.L4 aO cW κ f) κ=κ ((oV b s none s).map (fN F)) (B w) a1:=fun f z=>by
  have:=sB b s w F hw m j u a1 (F:Int) κ f s none [] (suffix_refl _) (by omega) (by simp;omega) (fun k e=>by cases e)
  rw [show F+pn s s=F by unfold pn;omega] at this
  exact this
 exact key ah (by unfold ah;omega)
def kY (s:List Y2):List Y2:=bl (iw (B s)).1
theorem ET (s:List Y2):∃ n,kY s=s.take n:=by
 unfold kY iw
 rw [jR]
 cases oS true s with
 | some n=>exact ⟨n,rfl⟩
 | none=>exact ⟨s.length,by rw [take_length];rfl⟩
theorem uo (s:List Y2):(kY s).length<=s.length:=by
 obtain ⟨n,h⟩:=ET s
 rw [h,length_take];omega
theorem nv {h:List Y2} {n:BA}:gI h n=false->gV h n=[]:=ER
theorem FR {w s:List Y2} {F:Nat} (hw:(w.take (F+s.length)).drop F=s) (M:F+s.length<=w.length) (A:w.length<=200000) (a1:Int) (z:Y3) (κ:T8 R) :
  aE (B w) a1 (F:Int) ((F+s.length:Nat):Int) z κ=oO (fun a b c d e f g h i j k l m n o p q r s t u=>κ a b c d e f g h i j k l m n o p q r s t u (B w) a1) (B []) (A0 (kY s) z) (F:Int) ((F+(kY s).length:Nat):Int) ((F+(kY s).length:Nat):Int) ((F+s.length:Nat):Int) 0:=by
 have N:=uo s
 unfold aE aE.e
 rw [aq,ab (by omega),aq,ab (by omega),ab (by rw [iW];omega),Int.toNat_natCast,Int.toNat_natCast,dh,hw,A5 (B s) (by rw [jR];omega)]
 have e:(iw (B s)).1=B (kY s):=(iE _).symm
 have w1:wrap .i64 ((F:Int)+((kY s).length:Int))=((F+(kY s).length:Nat):Int):=wrap_i64 (by omega) (by omega)
 rw [e,yb (kY s) (by omega),iW,w1]
 exact HX (by omega) _ _ _ _ _ _ _ _ _ _ _ _ _ _ _ _ _ _ _ _
theorem DJ {w s:List Y2} {F:Nat} (hw:(w.take (F+s.length)).drop F=s) (M:F+s.length<=w.length) (A:w.length<=200000) (p:BA) (z:Y3) (κ:HB R) :
  aZ (B w) (F:Int) ((F+s.length:Nat):Int) p z κ=oO κ p (A0 (kY s) z) (F:Int) ((F+(kY s).length:Nat):Int) ((F+(kY s).length:Nat):Int) ((F+s.length:Nat):Int) 0:=by
 have N:=uo s
 have j:(kY s).length<=200000:=by omega
 have key:∀ f,aZ.e cP cr dA dp dw cX bn cF (B w) (F:Int) ((F+s.length:Nat):Int) p z (aZ.L6 cP cr dA dp dw cX bn cF κ (f+1+1)) (aZ.FG cP cr dA dp dw cX bn cF κ (f+1+1)) κ=oO κ p (A0 (kY s) z) (F:Int) ((F+(kY s).length:Nat):Int) ((F+(kY s).length:Nat):Int) ((F+s.length:Nat):Int) 0:=by
  intro f
  unfold aZ.e
  rw [aq,ab (by omega),aq,ab (by omega),ab (by rw [iW];omega),Int.toNat_natCast,Int.toNat_natCast,dh,hw,uO (B s) (by rw [jR];omega)]
  have e:(iw (B s)).1=B (kY s):=(iE _).symm
  have w1:wrap .i64 ((F:Int)+((kY s).length:Int))=((F+(kY s).length:Nat):Int):=wrap_i64 (by omega) (by omega)
  rw [e,yC (kY s) (by omega),iW,w1]
  show dA (oh (kY s)) _ _=_
  rw [jq j (by decide)]
  have hlen:=fun n=>nw (h:=kY s) j n
  have O:=hlen (⟨#[67,111,110,116,101,110,116,45,84,121,112,101]⟩:BA)
  have U:=hlen (⟨#[67,111,110,116,101,110,116,45,73,100]⟩:BA)
  have V:=hlen (⟨#[67,111,110,116,101,110,116,45,68,101,115,99,114,105,112,116,105,111,110]⟩:BA)
  have W:=hlen (⟨#[67,111,110,116,101,110,116,45,76,111,99,97,116,105,111,110]⟩:BA)
  have X:=hlen (⟨#[67,111,110,116,101,110,116,45,84,114,97,110,115,102,101,114,45,69,110,99,111,100,105,110,103]⟩:BA)
  have Y:=hlen (⟨#[67,111,110,116,101,110,116,45,68,105,115,112,111,115,105,116,105,111,110]⟩:BA)
  have l7:=hlen (⟨#[67,111,110,116,101,110,116,45,76,97,110,103,117,97,103,101]⟩:BA)
  rw [H7 _ (by omega) _ _ nv _ _ (fun _ _=>rfl)]
  rw [aZ.L6,aZ.t6]
  rw [show (kY s |> gz).map gP=oh (kY s) from rfl]
  rw [jq j (by decide),yB _ (by omega) _ nv,jq j (by decide),yB _ (by omega) _ nv,jq j (by decide),yB _ (by omega) _ nv,jq j (by decide),qB _ (by omega) _ nv]
  by_cases u:jf (gV (kY s) (⟨#[67,111,110,116,101,110,116,45,84,114,97,110,115,102,101,114,45,69,110,99,111,100,105,110,103]⟩:BA))=[] <;> by_cases m:jf (gV (kY s) (⟨#[67,111,110,116,101,110,116,45,68,105,115,112,111,115,105,116,105,111,110]⟩:BA))=[]
  ·rw [if_pos u,jq j (by decide),qB _ (by omega) _ nv,if_pos m,cond_false,jq j (by decide),Iq _ (by omega) _ nv,aZ.FG,aZ.t16]
   unfold oO A0 du
   simp only [u,m,decide_true,Bool.not_true,Bool.not_false,if_true]
   rfl
  ·rw [if_pos u,jq j (by decide),qB _ (by omega) _ nv,if_neg m,cond_true,G9 _ _ (by omega) (xK _),jq j (by decide),Iq _ (by omega) _ nv,aZ.FG,aZ.t16]
   unfold oO A0 du
   simp only [u,decide_eq_false m,if_neg m,decide_true,Bool.not_true,Bool.not_false]
  ·rw [if_neg u,jq j (by decide),qB _ (by omega) _ nv,if_pos m,cond_false,jq j (by decide),Iq _ (by omega) _ nv,aZ.FG,aZ.t16]
   unfold oO A0 du
   simp only [decide_eq_false u,m,decide_true,Bool.not_true,Bool.not_false,if_true]
   rfl
  ·rw [if_neg u,jq j (by decide),qB _ (by omega) _ nv,if_neg m,cond_true,G9 _ _ (by omega) (xK _),jq j (by decide),Iq _ (by omega) _ nv,aZ.FG,aZ.t16]
   unfold oO A0 du
   simp only [decide_eq_false u,decide_eq_false m,if_neg m,decide_true,Bool.not_true,Bool.not_false]
 exact key (ah-2)
structure LV where
 p:List Y2
 v:HdV
 a:Nat
 b:Nat
 c:Nat
 d:Nat
 e:Nat
def dI (x:LV):Y3:=decide (x.v.ty=gT)&&decide (x.v.sub=mK)
def rB:List Y2:=[109,117,108,116,105,112,97,114,116]
def tV:List Y2:=[98,111,117,110,100,97,114,121]
def gx:List Pm->List Y2
 | []=>[]
 | p::r=>if p.1=tV then p.2 else gx r
def dH (w:List Y2) (x:LV):List Y2:=(w.take x.d).drop x.c
def Cp (x:LV):Y3 := !du x.v.c1||decide (x.v.c1=[55,98,105,116])||decide (x.v.c1=[56,98,105,116])||decide (x.v.c1=[98,105,110,97,114,121])
def gd (w:List Y2) (x:LV):List (Nat × Nat):=
 if dI x then (if Cp x then [(x.c,x.d)] else [])
 else if x.v.ty=rB/\1<=(gx x.v.ps).length/\(gx x.v.ps).length<=70 then (oV (gx x.v.ps) (dH w x) none (dH w x)).map fun p=>(x.c+p.1,x.c+p.2)
 else []
theorem mS (b s:List Y2):∀ (n:Nat) (f:Option Nat) (r:List Y2),r.length<=n->(oV b s f r).length<=r.length+1
 | n,f,[],_=>by rw [iQ];have:=zl f s.length;simp;omega
 | 0,_,c::t,h=>by simp at h
 | n+1,f,c::t,h=>by
  have j:=ql c t
  simp only [length_cons] at h ⊢
  rw [oV]
  cases pq b (fv (c::t)).1 with
  | none =>
   have:=mS b s n f (gZ (c::t)) (by omega)
   simp only;omega
  | some last =>
   have m:=zl f (max (f.getD 0) (pn s (c::t)-2))
   have:=mS b s n (some (pn s (gZ (c::t)))) (gZ (c::t)) (by omega)
   simp only [length_append]
   cases last with
   | true=>simp;omega
   | false=>simp;omega
theorem B2 {b l:List Y2} (f:fe b=true) (j:fe l=false):pq b l=none:=by
 unfold pq
 rw [if_neg]
 intro h
 obtain ⟨x,rfl⟩:=List.isPrefixOf_iff_prefix.1 h
 have:=(vJ j).1
 rw [fe,fe,f] at this
 simp at this
theorem wA (b s:List Y2) (f:fe b=true):∀ (n:Nat) (r:List Y2),r.length<=n->oV b s none r=[]
 | n,[],_=>by rw [iQ];rfl
 | 0,c::t,h=>by simp at h
 | n+1,c::t,h=>by
  have j:=ql c t
  simp only [length_cons] at h
  rw [oV,B2 f (vK _)]
  exact wA b s f n _ (by omega)
theorem te (l:List Pm) (z:l.length<=1000000) (κ:BA->Y1 R):∀ (f i:Nat),i<=l.length->l.length<i+f->cY.L2 κ f (l.map bw) (B tV) (i:Int)=κ (B (gx (l.drop i)))
 | 0,i,A,M=>by omega
 | f+1,i,A,M=>by
  have j:(l.map bw).length=l.length:=length_map ..
  rw [cY.L2,cY.t2,dU,j]
  have m:wrap .i64 ((i:Int)+1)=((i+1:Nat):Int):=wrap_i64 (by omega) (by omega)
  cases u:l.drop i with
  | nil=>have:=drop_nil u;rw [af (by omega)];rfl
  | cons a r =>
   obtain ⟨g1,g2,g3⟩:=cG u
   have N:bi (l.map bw) (i:Int)=bw a:=eD (by rw [List.getElem?_map,g1];rfl)
   have O:((bw a).fld 0).s=B a.1:=rfl
   have U:((bw a).fld 1).s=B a.2:=rfl
   rw [ai (by omega),aq,ab (by omega),ab (by omega),N,O,U,decide_eq_decide.2 (eg (a:=a.1) (b:=tV)),m,te l z κ f (i+1) (by omega) (by omega),g3,gx]
   by_cases e:a.1=tV
   ·rw [decide_eq_true e,cond_true,if_pos e,aq,ab (by omega),ab (by omega)]
   ·rw [decide_eq_false e,cond_false,if_neg e]
theorem Ja (l:List Pm) (j:l.length<=1000000) (κ:BA->Y1 R):cY (l.map bw) (⟨#[98,111,117,110,100,97,114,121]⟩:BA) κ=κ (B (gx l)):=by
 have key:∀ f,l.length<f->cY.e (l.map bw) (B tV) (cY.L2 κ f) κ=κ (B (gx l)):=fun f h=>te l j κ f 0 (by omega) (by omega)
 exact key ah (by unfold ah;omega)
theorem wI (F:Nat) (hF:F<=1000000) (y0:BA) (y1:BA) (y2:BA) (y3:LA) (y4:Y3) (y5:BA) (y6:Y3) (y7:BA) (y8:Y3) (y9:BA) (m:Y3) (u:BA) (A:LA) (M:LA) (N:Y3) (O:BA) (U:Int) (V:Int) (W:Int) (X:Int) (Y:Y1 R) (j:LA->Y1 R):∀ (f:Nat) (d r:List (Nat × Nat)),r.length<f->d.length+r.length<=1000000->(∀ p∈r,p.1<=1000000/\p.2<=1000000) ->
  aU.tL cY cz cT Y j f (d.length:Int) y0 y1 y2 y3 y4 y5 y6 y7 y8 y9 m u A M N O U V (F:Int) W X (d.map (fN F)++r.map (fN 0))=j ((d++r).map (fN F))
 | 0,d,r,hf,_,_=>by omega
 | f+1,d,[],hf,h1,h2=>by
  rw [aU.tL,aU.t11]
  have:(d.map (fN F)++([]:List (Nat × Nat)).map (fN 0)).length=d.length:=by simp
  rw [this,af (by omega)]
  simp
 | f+1,d,q::r,hf,h1,h2=>by
  simp only [length_cons] at hf h1
  have hq:=h2 q (by simp)
  have hn:(d.map (fN F)).length=d.length:=by simp
  have ad:wrap .i64 ((d.length:Int)+1)=(((d++[q]).length:Nat):Int):=by
   rw [length_append];exact wrap_i64 (by omega) (by omega)
  have f0:((fN 0 q).fld 0).i=(q.1:Int):=by show ((0+q.1:Nat):Int)=_;rw [Nat.zero_add]
  have f1:((fN 0 q).fld 1).i=(q.2:Int):=by show ((0+q.2:Nat):Int)=_;rw [Nat.zero_add]
  have s0:wrap .i64 ((q.1:Int)+(F:Int))=((F+q.1:Nat):Int):=by rw [wrap_i64 (by omega) (by omega)];omega
  have s1:wrap .i64 ((q.2:Int)+(F:Int))=((F+q.2:Nat):Int):=by rw [wrap_i64 (by omega) (by omega)];omega
  have g0:((AV.agg [AV.int ((F+q.1:Nat):Int),AV.int (q.2:Int)]).fld 0).i=((F+q.1:Nat):Int):=rfl
  have g1:((AV.agg [AV.int ((F+q.1:Nat):Int),AV.int (q.2:Int)]).fld 1).i=(q.2:Int):=rfl
  rw [aU.tL,aU.t11,map_cons,uM _ _ _ _ hn,f0,f1,s0,iR _ _ _ _ _ hn,uM _ _ _ _ hn,g0,g1,s1,iR _ _ _ _ _ hn]
  have len:∀ z:AV,((d.map (fN F)++z::r.map (fN 0)).length:Int)=((d.length+(r.length+1):Nat):Int):=fun z=>by simp
  rw [len,len,ai (by omega),aq,ab (by omega),ab (by omega),aq,ab (by omega),ab (by omega),aq,ab (by omega),ab (by omega),aq,ab (by omega),ab (by omega),ad]
  have IH:=wI F hF y0 y1 y2 y3 y4 y5 y6 y7 y8 y9 m u A M N O U V W X Y j f (d++[q]) r (by omega) (by simp;omega) (fun p hp=>h2 p (by simp [hp]))
  rw [append_assoc,singleton_append] at IH
  rw [<- IH,map_append,append_assoc]
  rfl
theorem JL {w:List Y2} {x:LV} (ad:x.c<=x.d) (hd:x.d<=w.length) (hw:w.length<=200000) (W:x.v.ps.length<=1000000) (j:Y1 R) (m:LA->Y1 R) (z:j=m []) :
  aU (B w) (B x.p) (B x.v.ty) (B x.v.sub) (x.v.ps.map bw) x.v.i0 (B x.v.i1) x.v.a0 (B x.v.a1) (du x.v.c1) (B x.v.c1) (du x.v.p1) (B x.v.p1) (x.v.pp.map bw) (bH x.v.lg) x.v.w0 (B x.v.w1) (x.a:Int) (x.b:Int) (x.c:Int) (x.d:Int) (x.e:Int) j m=m ((gd w x).map (fN 0)):=by
 have ae:(dH w x).length=x.d-x.c:=by unfold dH;rw [length_drop,length_take];omega
 have hm:∀ a b:List Y2,decide (B a=B b)=decide (a=b):=fun a b=>decide_eq_decide.2 eg
 have key:∀ f,1000000<f->aU.e cY cz cT (B w) (B x.p) (B x.v.ty) (B x.v.sub) (x.v.ps.map bw) x.v.i0 (B x.v.i1) x.v.a0 (B x.v.a1) (du x.v.c1) (B x.v.c1) (du x.v.p1) (B x.v.p1) (x.v.pp.map bw) (bH x.v.lg) x.v.w0 (B x.v.w1) (x.a:Int) (x.b:Int) (x.c:Int) (x.d:Int) (x.e:Int) (aU.tL cY cz cT j m f) j m=m ((gd w x).map (fN 0)):=by
  intro f hf
  have A:dI x=false->(cY (x.v.ps.map bw) (⟨#[98,111,117,110,100,97,114,121]⟩:BA) (fun u=>(bif (!decide ((B x.v.ty)=(⟨#[109,117,108,116,105,112,97,114,116]⟩:BA))) then j else (bif decide ((u.size:Int)<(1:Int)) then j else (bif decide ((u.size:Int)>(70:Int)) then j else (cz u (fun O=>(bif O then j else (bo ((decide ((0:Int)<=(x.c:Int)))&&((decide ((x.c:Int)<=(x.d:Int)))&&(decide ((x.d:Int)<=((B w).size:Int))))) (cT ((B w).extract ((x.c:Int)).toNat ((x.d:Int)).toNat) u (fun U=>(aU.tL cY cz cT j m f 0 (B x.p) (B x.v.ty) (B x.v.sub) (x.v.ps.map bw) x.v.i0 (B x.v.i1) x.v.a0 (B x.v.a1) (du x.v.c1) (B x.v.c1) (du x.v.p1) (B x.v.p1) (x.v.pp.map bw) (bH x.v.lg) x.v.w0 (B x.v.w1) (x.a:Int) (x.b:Int) (x.c:Int) (x.d:Int) (x.e:Int) U))))))))))))=m ((gd w x).map (fN 0)):=by
   intro M
   unfold gd
   rw [M,if_neg (by decide),Ja _ W,iW,show (⟨#[109,117,108,116,105,112,97,114,116]⟩:BA)=B rB from rfl,hm]
   by_cases N:x.v.ty=rB
   ·rw [decide_eq_true N,Bool.not_true,cond_false]
    by_cases V:(gx x.v.ps).length<1
    ·rw [ai (by omega),if_neg (by omega),z];rfl
    ·rw [af (by omega)]
     by_cases h3:(gx x.v.ps).length>70
     ·rw [ai (by omega),if_neg (by omega),z];rfl
     ·rw [af (by omega),if_pos ⟨N,by omega,by omega⟩,JJ _ (by omega)]
      cases Y:fe (gx x.v.ps) with
      | true =>
       rw [cond_true,wA _ _ Y _ _ (Nat.le_refl _),z];rfl
      | false =>
       rw [cond_false,aq,ab (by omega),aq,ab (by omega),ab (by rw [iW];omega),Int.toNat_natCast,Int.toNat_natCast,dh]
       show cT (B (dH w x)) _ _=_
       rw [JM _ _ (by omega) (by omega) Y]
       have X:=uJ (gx x.v.ps) (dH w x) (by omega) _ none (dH w x) (Nat.le_refl _) (suffix_refl _) (fun k e=>by cases e)
       have ap:=mS (gx x.v.ps) (dH w x) _ none (dH w x) (Nat.le_refl _)
       have:=wI x.c (by omega) (B x.p) (B x.v.ty) (B x.v.sub) (x.v.ps.map bw) x.v.i0 (B x.v.i1) x.v.a0 (B x.v.a1) (du x.v.c1) (B x.v.c1) (du x.v.p1) (B x.v.p1) (x.v.pp.map bw) (bH x.v.lg) x.v.w0 (B x.v.w1) (x.a:Int) (x.b:Int) (x.d:Int) (x.e:Int) j m f [] (oV (gx x.v.ps) (dH w x) none (dH w x)) (by omega) (by simp;omega) (fun p hp=>by have:=X p hp;omega)
       refine this.trans ?_
       rw [List.map_map,nil_append]
       congr 1
       refine List.map_congr_left fun p _ => ?_
       show fN x.c p=fN 0 (x.c+p.1,x.c+p.2)
       unfold fN
       rw [Nat.zero_add,Nat.zero_add]
   ·rw [decide_eq_false N,Bool.not_false,cond_true,if_neg (fun h=>N h.1),z];rfl
  unfold aU.e
  rw [show (⟨#[109,101,115,115,97,103,101]⟩:BA)=B gT from rfl,show (⟨#[114,102,99,56,50,50]⟩:BA)=B mK from rfl,hm,hm]
  by_cases N:x.v.ty=gT
  ·rw [decide_eq_true N,cond_true]
   by_cases V:x.v.sub=mK
   ·have M:dI x=true:=by unfold dI;rw [decide_eq_true N,decide_eq_true V];rfl
    rw [decide_eq_true V,cond_true]
    unfold gd
    rw [M,if_pos rfl,show (⟨#[55,98,105,116]⟩:BA)=B [55,98,105,116] from rfl,show (⟨#[56,98,105,116]⟩:BA)=B [56,98,105,116] from rfl,show (⟨#[98,105,110,97,114,121]⟩:BA)=B [98,105,110,97,114,121] from rfl,hm,hm,hm]
    have one:([(x.c,x.d)]:List (Nat × Nat)).map (fN 0)=[AV.agg [AV.int (x.c:Int),AV.int (x.d:Int)]]:=by
     show [fN 0 (x.c,x.d)]=_
     unfold fN
     rw [Nat.zero_add,Nat.zero_add]
    unfold Cp
    cases du x.v.c1 with
    | false=>simp only [cond_false,Bool.not_false,Bool.true_or,if_true,one]
    | true =>
     rw [cond_true]
     by_cases g1:x.v.c1=[55,98,105,116]
     ·simp only [decide_eq_true g1,Bool.not_true,cond_false,Bool.false_or,Bool.true_or,if_true,one]
     ·by_cases g2:x.v.c1=[56,98,105,116]
      ·simp only [decide_eq_true g2,decide_eq_false g1,Bool.not_true,Bool.not_false,cond_false,cond_true,Bool.false_or,Bool.true_or,if_true,one]
      ·by_cases g3:x.v.c1=[98,105,110,97,114,121]
       ·simp only [decide_eq_true g3,decide_eq_false g1,decide_eq_false g2,Bool.not_true,Bool.not_false,cond_false,cond_true,Bool.false_or,if_true,one]
       ·rw [decide_eq_false g3,decide_eq_false g1,decide_eq_false g2,z];rfl
   ·rw [decide_eq_false V,cond_false]
    exact A (by unfold dI;rw [decide_eq_false V,Bool.and_false])
  ·rw [decide_eq_false N,cond_false]
   exact A (by unfold dI;rw [decide_eq_false N,Bool.false_and])
 exact key ah (by unfold ah;omega)
def rH:List Pm->Prop
 | []=>True
 | p::r=>(∀ q∈r,q.1≠p.1)/\rH r
theorem tE:∀ {a:List Pm} {p:Pm},rH a->(∀ q∈a,q.1≠p.1)->rH (a++[p])
 | [],p,_,_=>⟨fun q f=>(by cases f),trivial⟩
 | x::a,p,h,m=>by
  refine ⟨fun q f => ?_,tE h.2 (fun q f=>m q (by simp [f]))⟩
  rcases List.mem_append.1 f with j|j
  ·exact h.1 q j
  ·rw [mem_singleton] at j
   subst j
   exact fun e=>m x (by simp) e.symm
theorem m7:∀ (n:Nat) (a:List Pm) (r:List Y2),rH a->a.length<=12->rH (BN n a r)/\(BN n a r).length<=12
 | 0,a,r,h,f=>by rw [BN];exact ⟨h,f⟩
 | n+1,a,r,h,f=>by
  rw [BN]
  by_cases c:a.length<12
  ·rw [if_pos c]
   cases e:Eg r with
   | none=>exact ⟨h,f⟩
   | some z =>
    obtain ⟨m,v,j⟩:=z
    simp only
    cases u:a.any (fun p=>p.1 == m) with
    | true=>rw [if_pos rfl];exact m7 n a j h f
    | false =>
     rw [if_neg (by decide)]
     refine m7 n _ j (tE h fun q A M => ?_) (by simp;omega)
     have:=List.any_eq_false.1 u q A
     exact this (by simpa using M)
  ·rw [if_neg c];exact ⟨h,f⟩
theorem xg (h:List Y2) (f:Y3):rH (A0 h f).ps/\(A0 h f).ps.length<=12:=by
 show rH (xZ (gV h (⟨#[67,111,110,116,101,110,116,45,84,121,112,101]⟩:BA)) f).2.2/\(xZ (gV h (⟨#[67,111,110,116,101,110,116,45,84,121,112,101]⟩:BA)) f).2.2.length<=12
 unfold xZ
 cases x' (gV h (⟨#[67,111,110,116,101,110,116,45,84,121,112,101]⟩:BA)) with
 | some q=>exact m7 _ [] _ trivial (by simp)
 | none =>
  cases f with
  | true=>exact ⟨trivial,by simp⟩
  | false=>exact ⟨⟨fun q j=>(by cases j),trivial⟩,by show Ji.length<=12;decide⟩
theorem Ak:∀ {l:List Pm},(∀ q∈l,q.1≠tV)->gx l=[]
 | [],_=>rfl
 | p::r,h=>by rw [gx,if_neg (h p (by simp))];exact Ak fun q f=>h q (by simp [f])
theorem vV {w:List Y2} {x:LV} (M:x.c<=x.d) (V:x.d<=w.length) (hw:w.length<=200000) (a1:Int) (m:BA->Int->T3 R) (u:LA->BA->Int->T3 R) (l:List Pm) (W:l.length<=1000000):∀ (f i:Nat),i<=l.length->l.length<i+f->rH (l.drop i) ->
  aH.L8 bY bB m u f (l.map bw) (l.length:Int) (i:Int) (B x.p) (B x.v.ty) (B x.v.sub) (x.v.ps.map bw) x.v.i0 (B x.v.i1) x.v.a0 (B x.v.a1) (du x.v.c1) (B x.v.c1) (du x.v.p1) (B x.v.p1) (x.v.pp.map bw) (bH x.v.lg) x.v.w0 (B x.v.w1) (x.a:Int) (x.b:Int) (x.c:Int) (x.d:Int) (x.e:Int) (B w) a1=if 1<=(gx (l.drop i)).length/\(gx (l.drop i)).length<=70 then u ((oV (gx (l.drop i)) (dH w x) none (dH w x)).map (fN x.c)) (B w) a1 (B x.p) (B x.v.ty) (B x.v.sub) (x.v.ps.map bw) x.v.i0 (B x.v.i1) x.v.a0 (B x.v.a1) (du x.v.c1) (B x.v.c1) (du x.v.p1) (B x.v.p1) (x.v.pp.map bw) (bH x.v.lg) x.v.w0 (B x.v.w1) (x.a:Int) (x.b:Int) (x.c:Int) (x.d:Int) (x.e:Int) else m (B w) a1 (B x.p) (B x.v.ty) (B x.v.sub) (x.v.ps.map bw) x.v.i0 (B x.v.i1) x.v.a0 (B x.v.a1) (du x.v.c1) (B x.v.c1) (du x.v.p1) (B x.v.p1) (x.v.pp.map bw) (bH x.v.lg) x.v.w0 (B x.v.w1) (x.a:Int) (x.b:Int) (x.c:Int) (x.d:Int) (x.e:Int)
 | 0,i,X,Y,_=>by omega
 | f+1,i,X,Y,hu=>by
  have N:(l.map bw).length=l.length:=length_map ..
  have A:(dH w x).length=x.d-x.c:=by unfold dH;rw [length_drop,length_take];omega
  rw [aH.L8,aH.t8,N]
  have O:wrap .i64 ((i:Int)+1)=((i+1:Nat):Int):=wrap_i64 (by omega) (by omega)
  cases z:l.drop i with
  | nil=>have:=drop_nil z;rw [af (by omega),gx,if_neg (by simp)]
  | cons a r =>
   obtain ⟨g1,g2,g3⟩:=cG z
   rw [z] at hu
   have hr:bi (l.map bw) (i:Int)=bw a:=eD (by rw [List.getElem?_map,g1];rfl)
   have e0:((bw a).fld 0).s=B a.1:=rfl
   have e1:((bw a).fld 1).s=B a.2:=rfl
   rw [ai (by omega),aq,ab (by omega),ab (by omega),hr,e0,e1,show (⟨#[98,111,117,110,100,97,114,121]⟩:BA)=B tV from rfl,decide_eq_decide.2 (eg (a:=a.1) (b:=tV)),O,vV M V hw a1 m u l W f (i+1) (by omega) (by omega) (by rw [g3];exact hu.2),g3,gx,iW]
   by_cases e:a.1=tV
   ·have U:gx r=[]:=Ak fun q hq e3=>hu.1 q hq (e3.trans e.symm)
    rw [decide_eq_true e,cond_true,if_pos e,U]
    by_cases c1:a.2.length>=1
    ·rw [ai (by omega)]
     by_cases c2:a.2.length<=70
     ·rw [ai (by omega),if_pos ⟨c1,c2⟩]
      have j:=IR (R:=R) a.2 (dH w x) w x.c (by rw [A];show _=(w.take x.d).drop x.c;rw [show x.c+(x.d-x.c)=x.d by omega]) (by omega) (by omega) (by omega) a1
      rw [A,show x.c+(x.d-x.c)=x.d by omega] at j
      rw [j]
     ·rw [af (by omega),if_neg (by simp),if_neg (by omega)]
    ·rw [af (by omega),if_neg (by simp),if_neg (by omega)]
   ·rw [decide_eq_false e,cond_false,if_neg e]
theorem IU (x:LV) (κ:Y3->T3 R):bY (B x.p) (B x.v.ty) (B x.v.sub) (x.v.ps.map bw) x.v.i0 (B x.v.i1) x.v.a0 (B x.v.a1) (du x.v.c1) (B x.v.c1) (du x.v.p1) (B x.v.p1) (x.v.pp.map bw) (bH x.v.lg) x.v.w0 (B x.v.w1) (x.a:Int) (x.b:Int) (x.c:Int) (x.d:Int) (x.e:Int) κ=κ (dI x) (B x.p) (B x.v.ty) (B x.v.sub) (x.v.ps.map bw) x.v.i0 (B x.v.i1) x.v.a0 (B x.v.a1) (du x.v.c1) (B x.v.c1) (du x.v.p1) (B x.v.p1) (x.v.pp.map bw) (bH x.v.lg) x.v.w0 (B x.v.w1) (x.a:Int) (x.b:Int) (x.c:Int) (x.d:Int) (x.e:Int):=by
 have hm:∀ a b:List Y2,decide (B a=B b)=decide (a=b):=fun a b=>decide_eq_decide.2 eg
 unfold bY bY.e
 rw [show (⟨#[109,101,115,115,97,103,101]⟩:BA)=B gT from rfl,show (⟨#[114,102,99,56,50,50]⟩:BA)=B mK from rfl,hm,hm]
 unfold dI
 cases decide (x.v.ty=gT) with
 | true=>rw [cond_true,Bool.true_and]
 | false=>rw [cond_false,Bool.false_and]
theorem JF {w:List Y2} {x:LV} (M:x.c<=x.d) (V:x.d<=w.length) (hw:w.length<=200000) (hu:rH x.v.ps) (N:x.v.ps.length<=1000000) (a1:Int) (m:BA->Int->T3 R) (j:LA->BA->Int->T3 R) (u:m (B w) a1 (B x.p) (B x.v.ty) (B x.v.sub) (x.v.ps.map bw) x.v.i0 (B x.v.i1) x.v.a0 (B x.v.a1) (du x.v.c1) (B x.v.c1) (du x.v.p1) (B x.v.p1) (x.v.pp.map bw) (bH x.v.lg) x.v.w0 (B x.v.w1) (x.a:Int) (x.b:Int) (x.c:Int) (x.d:Int) (x.e:Int)=j [] (B w) a1 (B x.p) (B x.v.ty) (B x.v.sub) (x.v.ps.map bw) x.v.i0 (B x.v.i1) x.v.a0 (B x.v.a1) (du x.v.c1) (B x.v.c1) (du x.v.p1) (B x.v.p1) (x.v.pp.map bw) (bH x.v.lg) x.v.w0 (B x.v.w1) (x.a:Int) (x.b:Int) (x.c:Int) (x.d:Int) (x.e:Int)) :
  aH (B w) a1 (B x.p) (B x.v.ty) (B x.v.sub) (x.v.ps.map bw) x.v.i0 (B x.v.i1) x.v.a0 (B x.v.a1) (du x.v.c1) (B x.v.c1) (du x.v.p1) (B x.v.p1) (x.v.pp.map bw) (bH x.v.lg) x.v.w0 (B x.v.w1) (x.a:Int) (x.b:Int) (x.c:Int) (x.d:Int) (x.e:Int) m j=j ((gd w x).map (fN 0)) (B w) a1 (B x.p) (B x.v.ty) (B x.v.sub) (x.v.ps.map bw) x.v.i0 (B x.v.i1) x.v.a0 (B x.v.a1) (du x.v.c1) (B x.v.c1) (du x.v.p1) (B x.v.p1) (x.v.pp.map bw) (bH x.v.lg) x.v.w0 (B x.v.w1) (x.a:Int) (x.b:Int) (x.c:Int) (x.d:Int) (x.e:Int):=by
 have hm:∀ a b:List Y2,decide (B a=B b)=decide (a=b):=fun a b=>decide_eq_decide.2 eg
 have O:(x.v.ps.map bw).length=x.v.ps.length:=length_map ..
 have key:∀ f,1000000<f->aH.e bY bB (B w) a1 (B x.p) (B x.v.ty) (B x.v.sub) (x.v.ps.map bw) x.v.i0 (B x.v.i1) x.v.a0 (B x.v.a1) (du x.v.c1) (B x.v.c1) (du x.v.p1) (B x.v.p1) (x.v.pp.map bw) (bH x.v.lg) x.v.w0 (B x.v.w1) (x.a:Int) (x.b:Int) (x.c:Int) (x.d:Int) (x.e:Int) (aH.L8 bY bB m j f) m j=j ((gd w x).map (fN 0)) (B w) a1 (B x.p) (B x.v.ty) (B x.v.sub) (x.v.ps.map bw) x.v.i0 (B x.v.i1) x.v.a0 (B x.v.a1) (du x.v.c1) (B x.v.c1) (du x.v.p1) (B x.v.p1) (x.v.pp.map bw) (bH x.v.lg) x.v.w0 (B x.v.w1) (x.a:Int) (x.b:Int) (x.c:Int) (x.d:Int) (x.e:Int):=by
  intro f W
  unfold aH.e
  rw [IU]
  unfold gd
  cases U:dI x with
  | true =>
   rw [cond_true,if_pos rfl,show (⟨#[55,98,105,116]⟩:BA)=B [55,98,105,116] from rfl,show (⟨#[56,98,105,116]⟩:BA)=B [56,98,105,116] from rfl,show (⟨#[98,105,110,97,114,121]⟩:BA)=B [98,105,110,97,114,121] from rfl,hm,hm,hm]
   have one:([(x.c,x.d)]:List (Nat × Nat)).map (fN 0)=[AV.agg [AV.int (x.c:Int),AV.int (x.d:Int)]]:=by
    show [fN 0 (x.c,x.d)]=_
    unfold fN
    rw [Nat.zero_add,Nat.zero_add]
   unfold Cp
   cases he:du x.v.c1 with
   | false=>simp only [cond_false,Bool.not_false,Bool.true_or,if_true,one,he]
   | true =>
    rw [cond_true]
    by_cases g1:x.v.c1=[55,98,105,116]
    ·simp only [decide_eq_true g1,Bool.not_true,cond_false,Bool.false_or,Bool.true_or,if_true,one,he]
    ·by_cases g2:x.v.c1=[56,98,105,116]
     ·simp only [decide_eq_true g2,decide_eq_false g1,Bool.not_true,Bool.not_false,cond_false,cond_true,Bool.false_or,Bool.true_or,if_true,one,he]
     ·by_cases g3:x.v.c1=[98,105,110,97,114,121]
      ·simp only [decide_eq_true g3,decide_eq_false g1,decide_eq_false g2,Bool.not_true,Bool.not_false,cond_false,cond_true,Bool.false_or,if_true,one,he]
      ·rw [he] at u
       rw [decide_eq_false g3,decide_eq_false g1,decide_eq_false g2]
       exact u
  | false =>
   rw [cond_false,if_neg (by decide),show (⟨#[109,117,108,116,105,112,97,114,116]⟩:BA)=B rB from rfl,hm,O]
   by_cases A:x.v.ty=rB
   ·rw [decide_eq_true A,Bool.not_true,cond_false]
    refine (vV M V hw a1 m j x.v.ps N f 0 (by omega) (by omega) (by rw [drop_zero];exact hu)).trans ?_
    rw [drop_zero]
    by_cases z:1<=(gx x.v.ps).length/\(gx x.v.ps).length<=70
    ·rw [if_pos z,if_pos ⟨A,z.1,z.2⟩,List.map_map]
     congr 1
     refine List.map_congr_left fun p _ => ?_
     show fN x.c p=fN 0 (x.c+p.1,x.c+p.2)
     unfold fN
     rw [Nat.zero_add,Nat.zero_add]
    ·rw [if_neg z,if_neg (fun h=>z ⟨h.2.1,h.2.2⟩)];exact u
   ·rw [decide_eq_false A,Bool.not_false,cond_true,if_neg (fun h=>A h.1)];exact u
 exact key ah (by unfold ah;omega)
end Go.Proofs.Ab
