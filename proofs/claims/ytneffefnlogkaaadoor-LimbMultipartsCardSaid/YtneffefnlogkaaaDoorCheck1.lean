/- Each plain function is what a call of its Go function does, checked by the kernel (no condition but what its checks ask). -/
import Derived.Test.YtneffefnlogkaaaDoorSeat
import Derived.Test.YtneffefnlogkaaaDoorText
set_option linter.unusedVariables false
set_option linter.unusedSimpArgs false
set_option maxRecDepth 4000
namespace Go.Proofs.Ab
open Go Go.Proofs
set_option maxRecDepth 100000
abbrev KT (R:Type):Type:=List SV->Option R
abbrev JT (R:Type):Type:=List Item->St->Option R
noncomputable def S0 {R:Type} (C:Cfg R) (F:Func) (n:Nat) (κ : KT R) (J:JT R) (i:Nat) (s:St):Option R:=start C J (oS C F.results.toList (List.range n) κ) 10000 (placeOf F i) s
noncomputable def G0 {R:Type} (C:Cfg R) (F:Func) (n:Nat) (κ : KT R) (f:Nat) (p:List Item) (s:St):Option R:=goto C (oS C F.results.toList (List.range n) κ) 10000 f p s
theorem aw {R:Type} {P:Program} {C:Cfg R} {fn:Func} {tab:cb} (hP:Ok P C.ty) (hD:∀ g,bR P C.ty tab g (C.call g)) {g:Nat} (hf:P.funcs[g]? = some fn) (hn:(fn.name == "runtime.NumGoroutine")=false) {xs:List SV} {κ : KT R} {X:Option R} (h:cv C fn 10000 aH xs κ = X):aa P C.ty tab g xs κ X:=by
 intro r e w vs Rt Ra bs hpre
 exact vb hP hD hf hn (h.trans e) hpre
namespace bw
abbrev K0 {R:Type} (κ : KT R):Bool->Option R:=fun r0=>κ [.bool r0]
section
variable (R:Type)
def Γ (g:Nat) (xs:List SV) (κ : KT R):Option R :=
 match g with
 | _=>none
def h (n:Nat):Option (List (Nat × List (Nat × Nat))) :=
 match n with
 | _=>none
def C:Cfg R:=⟨al bN,Γ R,fun _=>false,h,0,fun _=>false⟩
theorem k (κ : KT R) (k:Nat) (a0 a1:_):cv (C R) Tryd.f59 10000 k [.str a0,.str a1] κ = bw.e a0 a1 (K0 κ):=by kernel_rfl
end
theorem aj {R:Type} (tab:cb) (ht:aL tab) (g:Nat):bR (R:=R) Tryd.prog (al bN) tab g ((C R).call g):=by
 refine aY fun xs κ => ?_
 show aa _ _ _ g xs κ (Γ R g xs κ)
 unfold Γ
 split
 ·exact aa.none
theorem aX {R:Type} (tab:cb) (ht:aL tab) (a0 a1:_) (κ : KT R):aa Tryd.prog (al bN) tab 59 [.str a0,.str a1] κ (bw a0 a1 (K0 κ)):=aw (C:=C R) (fn:=Tryd.f59) cy (aj tab ht) (by kernel_rfl) (by kernel_rfl) (by rw [k];rfl)
end bw
namespace aU
abbrev K0 {R:Type} (κ : KT R):Bool->Option R:=fun r0=>κ [.bool r0]
section
variable (R:Type) (c1:bw.F R)
def Γ (g:Nat) (xs:List SV) (κ : KT R):Option R :=
 match g with
 | 59=>(match xs with
  | [.str a0,.str a1]=>c1 a0 a1 (bw.K0 κ)
  | _=>none)
 | _=>none
def h (n:Nat):Option (List (Nat × List (Nat × Nat))) :=
 match n with
 | _=>none
def C:Cfg R:=⟨al bN,Γ R c1,fun _=>false,h,0,fun _=>false⟩
theorem k (κ : KT R) (k:Nat) (a0 a1:_):cv (C R c1) Tryd.f38 10000 k [.str a0,.str a1] κ = aU.e c1 a0 a1 (K0 κ):=by kernel_rfl
end
theorem aj {R:Type} (tab:cb) (ht:aL tab) (g:Nat):bR (R:=R) Tryd.prog (al bN) tab g ((C R bw).call g):=by
 refine aY fun xs κ => ?_
 show aa _ _ _ g xs κ (Γ R bw g xs κ)
 unfold Γ
 split
 ·split
  ·exact bw.aX tab ht _ _ κ
  ·exact aa.none
 ·exact aa.none
theorem aX {R:Type} (tab:cb) (ht:aL tab) (a0 a1:_) (κ : KT R):aa Tryd.prog (al bN) tab 38 [.str a0,.str a1] κ (aU a0 a1 (K0 κ)):=aw (C:=C R bw) (fn:=Tryd.f38) cy (aj tab ht) (by kernel_rfl) (by kernel_rfl) (by rw [k];rfl)
end aU
theorem cj.aX {R:Type} (tab:cb) (ht:aL tab) (a0:BA) (a1:Int) (κ : List SV->Option R):aa Tryd.prog (al bN) tab 86 [.str a0,.int .u8 a1] κ (cj a0 a1 (fun r0=>κ [.int .i64 r0])) :=
 iF (show Tryd.prog.funcs[86]? = some Tryd.f86 by kernel_rfl) (by kernel_rfl) (by kernel_rfl) (by kernel_rfl) (by kernel_rfl) a0 a1 κ
namespace bL
abbrev K0 {R:Type} (κ : KT R):Int->Option R:=fun r0=>κ [.int .i64 r0]
section
variable (R:Type) (c1:cj.F R)
def Γ (g:Nat) (xs:List SV) (κ : KT R):Option R :=
 match g with
 | 86=>(match xs with
  | [.str a0,.int .u8 a1]=>c1 a0 a1 (fun r0=>κ [.int .i64 r0])
  | _=>none)
 | _=>none
def h (n:Nat):Option (List (Nat × List (Nat × Nat))) :=
 match n with
 | _=>none
def C:Cfg R:=⟨al bN,Γ R c1,fun _=>false,h,0,fun _=>false⟩
theorem k (κ : KT R) (k:Nat) (a0 a1:_):cv (C R c1) Tryd.f66 10000 k [.str a0,.int .u8 a1] κ = bL.e c1 a0 a1 (K0 κ):=by kernel_rfl
end
theorem aj {R:Type} (tab:cb) (ht:aL tab) (g:Nat):bR (R:=R) Tryd.prog (al bN) tab g ((C R cj).call g):=by
 refine aY fun xs κ => ?_
 show aa _ _ _ g xs κ (Γ R cj g xs κ)
 unfold Γ
 split
 ·split
  ·exact cj.aX tab ht _ _ κ
  ·exact aa.none
 ·exact aa.none
theorem aX {R:Type} (tab:cb) (ht:aL tab) (a0 a1:_) (κ : KT R):aa Tryd.prog (al bN) tab 66 [.str a0,.int .u8 a1] κ (bL a0 a1 (K0 κ)):=aw (C:=C R cj) (fn:=Tryd.f66) cy (aj tab ht) (by kernel_rfl) (by kernel_rfl) (by rw [k];rfl)
end bL
theorem cT.one (c:UInt8):∀ l:List UInt8,Lib.index l [c]=Lib.indexByte l c
 | []=>rfl
 | b::l=>by
  rw [Lib.index,Lib.indexByte,cT.one c l]
  simp [List.isPrefixOf,Bool.beq_comm (a:=c)]
namespace cT
section
variable (R:Type) (c1:bL.F R)
def Γ (g:Nat) (xs:List SV) (κ : KT R):Option R :=
 match g with
 | 66=>(match xs with
  | [.str a0,.int .u8 a1]=>c1 a0 a1 (bL.K0 κ)
  | _=>none)
 | _=>none
def C:Cfg R:=⟨al bN,Γ R c1,fun _=>false,fun _=>none,0,fun _=>false⟩
theorem k (κ : KT R) (k:Nat) (a0:BA):cv (C R c1) Tryd.f60 10000 k [.str a0,.str ⟨#[46]⟩] κ = (bif decide ((⟨#[46]⟩:BA)=a0) then κ [.int .i64 0] else c1 a0 46 (fun r=>κ [.int .i64 r])):=by kernel_rfl
end
theorem aj {R:Type} (tab:cb) (ht:aL tab) (g:Nat):bR (R:=R) Tryd.prog (al bN) tab g ((C R bL).call g):=by
 refine aY fun xs κ => ?_
 show aa _ _ _ g xs κ (Γ R bL g xs κ)
 unfold Γ
 split
 ·split
  ·exact bL.aX tab ht _ _ κ
  ·exact aa.none
 ·exact aa.none
theorem FI {R:Type} (tab:cb) (ht:aL tab) (a0:BA) (h:¬ a0.size<4294967281) (κ : KT R):aa Tryd.prog (al bN) tab 60 [.str a0,.str ⟨#[46]⟩] κ (κ [.int .i64 (Lib.index a0.data.toList [46])]) :=
 aw (C:=C R bL) (fn:=Tryd.f60) cy (aj tab ht) (by kernel_rfl) (by kernel_rfl) (by
  have hne:¬ (⟨#[46]⟩:BA)=a0:=fun e=>by subst e;exact h (by decide)
  rw [k,decide_eq_false hne,cond_false,one];rfl)
end cT
theorem cT.aX {R:Type} (tab:cb) (ht:aL tab) (a0 a1:BA) (κ : List SV->Option R):aa Tryd.prog (al bN) tab 60 [.str a0,.str a1] κ (cT a0 a1 (fun r0=>κ [.int .i64 r0])):=by
 refine yz fun h => ?_
 by_cases h1:a0.size<4294967281
 ·obtain ⟨m,cs,t,fz,ht,hm⟩:=ht
  exact vg Tryd.call60 a0 a1 (.int .i64 _) (fun w hw=>Any.stringslite_Index Tryd.A6 a0 a1 m w h1 (zX hm (hw _ _ ht))) (fun c=>wl) κ
 ·obtain rfl:a1=⟨#[46]⟩:=(of_decide_eq_true h).resolve_left h1
  exact cT.FI tab ht a0 h1 κ
namespace aE
abbrev K0 {R:Type} (κ : KT R):Int->Option R:=fun r0=>κ [.int .i64 r0]
section
variable (R:Type) (c1:cT.F R)
def Γ (g:Nat) (xs:List SV) (κ : KT R):Option R :=
 match g with
 | 60=>(match xs with
  | [.str a0,.str a1]=>c1 a0 a1 (fun r0=>κ [.int .i64 r0])
  | _=>none)
 | _=>none
def h (n:Nat):Option (List (Nat × List (Nat × Nat))) :=
 match n with
 | _=>none
def C:Cfg R:=⟨al bN,Γ R c1,fun _=>false,h,0,fun _=>false⟩
theorem k (κ : KT R) (k:Nat) (a0 a1:_):cv (C R c1) Tryd.f39 10000 k [.str a0,.str a1] κ = aE.e c1 a0 a1 (K0 κ):=by kernel_rfl
end
theorem aj {R:Type} (tab:cb) (ht:aL tab) (g:Nat):bR (R:=R) Tryd.prog (al bN) tab g ((C R cT).call g):=by
 refine aY fun xs κ => ?_
 show aa _ _ _ g xs κ (Γ R cT g xs κ)
 unfold Γ
 split
 ·split
  ·exact cT.aX tab ht _ _ κ
  ·exact aa.none
 ·exact aa.none
theorem aX {R:Type} (tab:cb) (ht:aL tab) (a0 a1:_) (κ : KT R):aa Tryd.prog (al bN) tab 39 [.str a0,.str a1] κ (aE a0 a1 (K0 κ)):=aw (C:=C R cT) (fn:=Tryd.f39) cy (aj tab ht) (by kernel_rfl) (by kernel_rfl) (by rw [k];rfl)
end aE
namespace cJ
abbrev K0 {R:Type} (κ : KT R):BA->BA->Option R:=fun r0 r1=>κ [.tup [.str r0,.str r1]]
section
variable (R:Type) (c1:aU.F R) (c2:aE.F R)
def Γ (g:Nat) (xs:List SV) (κ : KT R):Option R :=
 match g with
 | 38=>(match xs with
  | [.str a0,.str a1]=>c1 a0 a1 (aU.K0 κ)
  | _=>none)
 | 39=>(match xs with
  | [.str a0,.str a1]=>c2 a0 a1 (aE.K0 κ)
  | _=>none)
 | _=>none
def h (n:Nat):Option (List (Nat × List (Nat × Nat))) :=
 match n with
 | _=>none
def C:Cfg R:=⟨al bN,Γ R c1 c2,fun _=>false,h,0,fun _=>false⟩
theorem k (κ : KT R) (k:Nat) (a0:_):cv (C R c1 c2) Tryd.f24 10000 k [.str a0] κ = cJ.e c1 c2 a0 (K0 κ):=by kernel_rfl
end
theorem aj {R:Type} (tab:cb) (ht:aL tab) (g:Nat):bR (R:=R) Tryd.prog (al bN) tab g ((C R aU aE).call g):=by
 refine aY fun xs κ => ?_
 show aa _ _ _ g xs κ (Γ R aU aE g xs κ)
 unfold Γ
 split
 ·split
  ·exact aU.aX tab ht _ _ κ
  ·exact aa.none
 ·split
  ·exact aE.aX tab ht _ _ κ
  ·exact aa.none
 ·exact aa.none
theorem aX {R:Type} (tab:cb) (ht:aL tab) (a0:_) (κ : KT R):aa Tryd.prog (al bN) tab 24 [.str a0] κ (cJ a0 (K0 κ)):=aw (C:=C R aU aE) (fn:=Tryd.f24) cy (aj tab ht) (by kernel_rfl) (by kernel_rfl) (by rw [k];rfl)
end cJ
namespace aR
abbrev K0 {R:Type} (κ : KT R):Bool->Option R:=fun r0=>κ [.bool r0]
section
variable (R:Type)
def Γ (g:Nat) (xs:List SV) (κ : KT R):Option R :=
 match g with
 | _=>none
def h (n:Nat):Option (List (Nat × List (Nat × Nat))) :=
 match n with
 | _=>none
def C:Cfg R:=⟨al bN,Γ R,fun _=>false,h,0,fun _=>false⟩
theorem k (κ : KT R) (k:Nat) (a0:_):cv (C R) Tryd.f54 10000 k [.int .u8 a0] κ = aR.e a0 (K0 κ):=by kernel_rfl
end
theorem aj {R:Type} (tab:cb) (ht:aL tab) (g:Nat):bR (R:=R) Tryd.prog (al bN) tab g ((C R).call g):=by
 refine aY fun xs κ => ?_
 show aa _ _ _ g xs κ (Γ R g xs κ)
 unfold Γ
 split
 ·exact aa.none
theorem aX {R:Type} (tab:cb) (ht:aL tab) (a0:_) (κ : KT R):aa Tryd.prog (al bN) tab 54 [.int .u8 a0] κ (aR a0 (K0 κ)):=aw (C:=C R) (fn:=Tryd.f54) cy (aj tab ht) (by kernel_rfl) (by kernel_rfl) (by rw [k];rfl)
end aR
namespace bt
abbrev K0 {R:Type} (κ : KT R):BA->Bool->Option R:=fun r0 r1=>κ [.tup [.str r0,.bool r1]]
section
variable (R:Type) (c1:aR.F R)
def Γ (g:Nat) (xs:List SV) (κ : KT R):Option R :=
 match g with
 | 54=>(match xs with
  | [.int .u8 a0]=>c1 a0 (aR.K0 κ)
  | _=>none)
 | _=>none
def h (n:Nat):Option (List (Nat × List (Nat × Nat))) :=
 match n with
 | 2=>some [(0,[(0,0)]),(4,[(0,0)])]
 | 5=>some [(0,[(0,0)]),(4,[(0,0)]),(5,[(0,0)])]
 | _=>none
def C:Cfg R:=⟨al bN,Γ R c1,fun _=>false,h,0,fun _=>false⟩
noncomputable def S:=S0 (C R c1) Tryd.f55 0
noncomputable def G:=G0 (C R c1) Tryd.f55 0
def s2:=fun x0 x1=>(⟨eJ 60 [(0,.str x0),(4,.int .i64 x1)],[],eH⟩:St)
def s5:=fun x0 x1 x2=>(⟨eJ 60 [(0,.str x0),(4,.int .i64 x1),(5,.str x2)],[],eH⟩:St)
noncomputable abbrev q2 {R:Type} (J:JT R):BA->Int->Option R:=fun x0 x1=>J (placeOf Tryd.f55 2) (s2 x0 x1)
noncomputable abbrev q5 {R:Type} (J:JT R):J5 R:=fun x0 x1 x2=>J (placeOf Tryd.f55 5) (s5 x0 x1 x2)
theorem k2 (J:JT R) (κ : KT R) (x0 x1:_):S R c1 κ J 2 (s2 x0 x1)=t2 (q2 J) (q5 J) x0 x1:=by kernel_rfl
theorem k5 (J:JT R) (κ : KT R) (x0 x1 x2:_):S R c1 κ J 5 (s5 x0 x1 x2)=t5 c1 (q5 J) (K0 κ) x0 x1 x2:=by kernel_rfl
theorem k (κ : KT R) (k:Nat) (a0:_):cv (C R c1) Tryd.f55 10000 k [.str a0] κ = bt.e c1 a0 (q2 (G R c1 κ k)) (q5 (G R c1 κ k)) (K0 κ):=by kernel_rfl
theorem g5 (κ : KT R):∀ (f:Nat),q5 (G R c1 κ f)=L5 c1 (K0 κ) f
 | 0=>rfl
 | f+1=>by
  funext x0 x1 x2
  show S R c1 κ (G R c1 κ f) 5 _=_
  rw [k5,g5 κ f]
  rfl
theorem g2 (κ : KT R):∀ (f:Nat),q2 (G R c1 κ f)=L2 c1 (K0 κ) f
 | 0=>rfl
 | f+1=>by
  funext x0 x1
  show S R c1 κ (G R c1 κ f) 2 _=_
  rw [k2,g2 κ f,g5 R c1 κ f]
  rfl
end
theorem aj {R:Type} (tab:cb) (ht:aL tab) (g:Nat):bR (R:=R) Tryd.prog (al bN) tab g ((C R aR).call g):=by
 refine aY fun xs κ => ?_
 show aa _ _ _ g xs κ (Γ R aR g xs κ)
 unfold Γ
 split
 ·split
  ·exact aR.aX tab ht _ κ
  ·exact aa.none
 ·exact aa.none
theorem aX {R:Type} (tab:cb) (ht:aL tab) (a0:_) (κ : KT R):aa Tryd.prog (al bN) tab 55 [.str a0] κ (bt a0 (K0 κ)):=aw (C:=C R aR) (fn:=Tryd.f55) cy (aj tab ht) (by kernel_rfl) (by kernel_rfl) (by rw [k];rw [g2 R aR κ aH,g5 R aR κ aH];rfl)
end bt
namespace bj
abbrev K0 {R:Type} (κ : KT R):LA->Option R:=fun r0=>κ [.fr 80 r0 true]
section
variable (R:Type) (c1:aU.F R) (c2:aE.F R) (c3:aR.F R) (c4:bt.F R)
def Γ (g:Nat) (xs:List SV) (κ : KT R):Option R :=
 match g with
 | 38=>(match xs with
  | [.str a0,.str a1]=>c1 a0 a1 (aU.K0 κ)
  | _=>none)
 | 39=>(match xs with
  | [.str a0,.str a1]=>c2 a0 a1 (aE.K0 κ)
  | _=>none)
 | 54=>(match xs with
  | [.int .u8 a0]=>c3 a0 (aR.K0 κ)
  | _=>none)
 | 55=>(match xs with
  | [.str a0]=>c4 a0 (bt.K0 κ)
  | _=>none)
 | _=>none
def h (n:Nat):Option (List (Nat × List (Nat × Nat))) :=
 match n with
 | 3=>some [(0,[(0,0)]),(3,[(0,82)]),(4,[(0,0)]),(5,[(0,0)])]
 | _=>none
def C:Cfg R:=⟨al bN,Γ R c1 c2 c3 c4,fun _=>false,h,0,fun _=>false⟩
noncomputable def S:=S0 (C R c1 c2 c3 c4) Tryd.f33 0
noncomputable def G:=G0 (C R c1 c2 c3 c4) Tryd.f33 0
def s3:=fun x0 x1 x2 x3=>(⟨eJ 52 [(0,.str x0),(3,.own 256),(4,.bool x1),(5,.str x2)],[(256,.row 80 x3 true)],eH⟩:St)
noncomputable abbrev q3 {R:Type} (J:JT R):J3 R:=fun x0 x1 x2 x3=>J (placeOf Tryd.f33 3) (s3 x0 x1 x2 x3)
theorem k3 (J:JT R) (κ : KT R) (x0 x1 x2 x3:_):S R c1 c2 c3 c4 κ J 3 (s3 x0 x1 x2 x3)=t3 c1 c2 c3 c4 (q3 J) (K0 κ) x0 x1 x2 x3:=by kernel_rfl
theorem k (κ : KT R) (k:Nat) (a0:_):cv (C R c1 c2 c3 c4) Tryd.f33 10000 k [.str a0] κ = bj.e c1 c2 c3 c4 a0 (q3 (G R c1 c2 c3 c4 κ k)) (K0 κ):=by kernel_rfl
theorem g3 (κ : KT R):∀ (f:Nat),q3 (G R c1 c2 c3 c4 κ f)=L3 c1 c2 c3 c4 (K0 κ) f
 | 0=>rfl
 | f+1=>by
  funext x0 x1 x2 x3
  show S R c1 c2 c3 c4 κ (G R c1 c2 c3 c4 κ f) 3 _=_
  rw [k3,g3 κ f]
  rfl
end
theorem aj {R:Type} (tab:cb) (ht:aL tab) (g:Nat):bR (R:=R) Tryd.prog (al bN) tab g ((C R aU aE aR bt).call g):=by
 refine aY fun xs κ => ?_
 show aa _ _ _ g xs κ (Γ R aU aE aR bt g xs κ)
 unfold Γ
 split
 ·split
  ·exact aU.aX tab ht _ _ κ
  ·exact aa.none
 ·split
  ·exact aE.aX tab ht _ _ κ
  ·exact aa.none
 ·split
  ·exact aR.aX tab ht _ κ
  ·exact aa.none
 ·split
  ·exact bt.aX tab ht _ κ
  ·exact aa.none
 ·exact aa.none
theorem aX {R:Type} (tab:cb) (ht:aL tab) (a0:_) (κ : KT R):aa Tryd.prog (al bN) tab 33 [.str a0] κ (bj a0 (K0 κ)):=aw (C:=C R aU aE aR bt) (fn:=Tryd.f33) cy (aj tab ht) (by kernel_rfl) (by kernel_rfl) (by rw [k];rw [g3 R aU aE aR bt κ aH];rfl)
end bj
namespace bz
abbrev K0 {R:Type} (κ : KT R):Bool->Option R:=fun r0=>κ [.bool r0]
section
variable (R:Type)
def Γ (g:Nat) (xs:List SV) (κ : KT R):Option R :=
 match g with
 | _=>none
def h (n:Nat):Option (List (Nat × List (Nat × Nat))) :=
 match n with
 | _=>none
def C:Cfg R:=⟨al bN,Γ R,fun _=>false,h,0,fun _=>false⟩
theorem k (κ : KT R) (k:Nat) (a0 a1:_):cv (C R) Tryd.f58 10000 k [.str a0,.str a1] κ = bz.e a0 a1 (K0 κ):=by kernel_rfl
end
theorem aj {R:Type} (tab:cb) (ht:aL tab) (g:Nat):bR (R:=R) Tryd.prog (al bN) tab g ((C R).call g):=by
 refine aY fun xs κ => ?_
 show aa _ _ _ g xs κ (Γ R g xs κ)
 unfold Γ
 split
 ·exact aa.none
theorem aX {R:Type} (tab:cb) (ht:aL tab) (a0 a1:_) (κ : KT R):aa Tryd.prog (al bN) tab 58 [.str a0,.str a1] κ (bz a0 a1 (K0 κ)):=aw (C:=C R) (fn:=Tryd.f58) cy (aj tab ht) (by kernel_rfl) (by kernel_rfl) (by rw [k];rfl)
end bz
namespace bU
abbrev K0 {R:Type} (κ : KT R):BA->Option R:=fun r0=>κ [.str r0]
section
variable (R:Type) (c1:bz.F R)
def Γ (g:Nat) (xs:List SV) (κ : KT R):Option R :=
 match g with
 | 58=>(match xs with
  | [.str a0,.str a1]=>c1 a0 a1 (bz.K0 κ)
  | _=>none)
 | _=>none
def h (n:Nat):Option (List (Nat × List (Nat × Nat))) :=
 match n with
 | _=>none
def C:Cfg R:=⟨al bN,Γ R c1,fun _=>false,h,0,fun _=>false⟩
theorem k (κ : KT R) (k:Nat) (a0 a1:_):cv (C R c1) Tryd.f65 10000 k [.str a0,.str a1] κ = bU.e c1 a0 a1 (K0 κ):=by kernel_rfl
end
theorem aj {R:Type} (tab:cb) (ht:aL tab) (g:Nat):bR (R:=R) Tryd.prog (al bN) tab g ((C R bz).call g):=by
 refine aY fun xs κ => ?_
 show aa _ _ _ g xs κ (Γ R bz g xs κ)
 unfold Γ
 split
 ·split
  ·exact bz.aX tab ht _ _ κ
  ·exact aa.none
 ·exact aa.none
theorem aX {R:Type} (tab:cb) (ht:aL tab) (a0 a1:_) (κ : KT R):aa Tryd.prog (al bN) tab 65 [.str a0,.str a1] κ (bU a0 a1 (K0 κ)):=aw (C:=C R bz) (fn:=Tryd.f65) cy (aj tab ht) (by kernel_rfl) (by kernel_rfl) (by rw [k];rfl)
end bU
namespace aI
abbrev K0 {R:Type} (κ : KT R):BA->Option R:=fun r0=>κ [.str r0]
section
variable (R:Type) (c1:bU.F R)
def Γ (g:Nat) (xs:List SV) (κ : KT R):Option R :=
 match g with
 | 65=>(match xs with
  | [.str a0,.str a1]=>c1 a0 a1 (bU.K0 κ)
  | _=>none)
 | _=>none
def h (n:Nat):Option (List (Nat × List (Nat × Nat))) :=
 match n with
 | _=>none
def C:Cfg R:=⟨al bN,Γ R c1,fun _=>false,h,0,fun _=>false⟩
theorem k (κ : KT R) (k:Nat) (a0 a1:_):cv (C R c1) Tryd.f46 10000 k [.str a0,.str a1] κ = aI.e c1 a0 a1 (K0 κ):=by kernel_rfl
end
theorem aj {R:Type} (tab:cb) (ht:aL tab) (g:Nat):bR (R:=R) Tryd.prog (al bN) tab g ((C R bU).call g):=by
 refine aY fun xs κ => ?_
 show aa _ _ _ g xs κ (Γ R bU g xs κ)
 unfold Γ
 split
 ·split
  ·exact bU.aX tab ht _ _ κ
  ·exact aa.none
 ·exact aa.none
theorem aX {R:Type} (tab:cb) (ht:aL tab) (a0 a1:_) (κ : KT R):aa Tryd.prog (al bN) tab 46 [.str a0,.str a1] κ (aI a0 a1 (K0 κ)):=aw (C:=C R bU) (fn:=Tryd.f46) cy (aj tab ht) (by kernel_rfl) (by kernel_rfl) (by rw [k];rfl)
end aI
namespace av
abbrev K0 {R:Type} (κ : KT R):Int->Option R:=fun r0=>κ [.int .i64 r0]
section
variable (R:Type) (c1:bL.F R)
def Γ (g:Nat) (xs:List SV) (κ : KT R):Option R :=
 match g with
 | 66=>(match xs with
  | [.str a0,.int .u8 a1]=>c1 a0 a1 (bL.K0 κ)
  | _=>none)
 | _=>none
def h (n:Nat):Option (List (Nat × List (Nat × Nat))) :=
 match n with
 | _=>none
def C:Cfg R:=⟨al bN,Γ R c1,fun _=>false,h,0,fun _=>false⟩
theorem k (κ : KT R) (k:Nat) (a0 a1:_):cv (C R c1) Tryd.f47 10000 k [.str a0,.int .u8 a1] κ = av.e c1 a0 a1 (K0 κ):=by kernel_rfl
end
theorem aj {R:Type} (tab:cb) (ht:aL tab) (g:Nat):bR (R:=R) Tryd.prog (al bN) tab g ((C R bL).call g):=by
 refine aY fun xs κ => ?_
 show aa _ _ _ g xs κ (Γ R bL g xs κ)
 unfold Γ
 split
 ·split
  ·exact bL.aX tab ht _ _ κ
  ·exact aa.none
 ·exact aa.none
theorem aX {R:Type} (tab:cb) (ht:aL tab) (a0 a1:_) (κ : KT R):aa Tryd.prog (al bN) tab 47 [.str a0,.int .u8 a1] κ (av a0 a1 (K0 κ)):=aw (C:=C R bL) (fn:=Tryd.f47) cy (aj tab ht) (by kernel_rfl) (by kernel_rfl) (by rw [k];rfl)
end av
namespace bE
abbrev K0 {R:Type} (κ : KT R):BA->Option R:=fun r0=>κ [.str r0]
section
variable (R:Type)
def Γ (g:Nat) (xs:List SV) (κ : KT R):Option R :=
 match g with
 | _=>none
def h (n:Nat):Option (List (Nat × List (Nat × Nat))) :=
 match n with
 | 1=>some [(0,[(0,0)]),(1,[(0,0)])]
 | _=>none
def C:Cfg R:=⟨al bN,Γ R,fun _=>false,h,0,fun _=>false⟩
noncomputable def S:=S0 (C R) Tryd.f68 0
noncomputable def G:=G0 (C R) Tryd.f68 0
def s1:=fun x0 x1=>(⟨eJ 23 [(0,.str x0),(1,.int .u8 x1)],[],eH⟩:St)
noncomputable abbrev q1 {R:Type} (J:JT R):BA->Int->Option R:=fun x0 x1=>J (placeOf Tryd.f68 1) (s1 x0 x1)
theorem k1 (J:JT R) (κ : KT R) (x0 x1:_):S R κ J 1 (s1 x0 x1)=t1 (q1 J) (K0 κ) x0 x1:=by kernel_rfl
theorem k (κ : KT R) (k:Nat) (a0 a1:_):cv (C R) Tryd.f68 10000 k [.str a0,.int .u8 a1] κ = bE.e a0 a1 (q1 (G R κ k)) (K0 κ):=by kernel_rfl
theorem g1 (κ : KT R):∀ (f:Nat),q1 (G R κ f)=L1 (K0 κ) f
 | 0=>rfl
 | f+1=>by
  funext x0 x1
  show S R κ (G R κ f) 1 _=_
  rw [k1,g1 κ f]
  rfl
end
theorem aj {R:Type} (tab:cb) (ht:aL tab) (g:Nat):bR (R:=R) Tryd.prog (al bN) tab g ((C R).call g):=by
 refine aY fun xs κ => ?_
 show aa _ _ _ g xs κ (Γ R g xs κ)
 unfold Γ
 split
 ·exact aa.none
theorem aX {R:Type} (tab:cb) (ht:aL tab) (a0 a1:_) (κ : KT R):aa Tryd.prog (al bN) tab 68 [.str a0,.int .u8 a1] κ (bE a0 a1 (K0 κ)):=aw (C:=C R) (fn:=Tryd.f68) cy (aj tab ht) (by kernel_rfl) (by kernel_rfl) (by rw [k];rw [g1 R κ aH];rfl)
end bE
namespace bI
abbrev K0 {R:Type} (κ : KT R):BA->Option R:=fun r0=>κ [.str r0]
section
variable (R:Type)
def Γ (g:Nat) (xs:List SV) (κ : KT R):Option R :=
 match g with
 | _=>none
def h (n:Nat):Option (List (Nat × List (Nat × Nat))) :=
 match n with
 | 1=>some [(0,[(0,0)]),(1,[(0,0)])]
 | _=>none
def C:Cfg R:=⟨al bN,Γ R,fun _=>false,h,0,fun _=>false⟩
noncomputable def S:=S0 (C R) Tryd.f67 0
noncomputable def G:=G0 (C R) Tryd.f67 0
def s1:=fun x0 x1=>(⟨eJ 17 [(0,.str x0),(1,.int .u8 x1)],[],eH⟩:St)
noncomputable abbrev q1 {R:Type} (J:JT R):BA->Int->Option R:=fun x0 x1=>J (placeOf Tryd.f67 1) (s1 x0 x1)
theorem k1 (J:JT R) (κ : KT R) (x0 x1:_):S R κ J 1 (s1 x0 x1)=t1 (q1 J) (K0 κ) x0 x1:=by kernel_rfl
theorem k (κ : KT R) (k:Nat) (a0 a1:_):cv (C R) Tryd.f67 10000 k [.str a0,.int .u8 a1] κ = bI.e a0 a1 (q1 (G R κ k)) (K0 κ):=by kernel_rfl
theorem g1 (κ : KT R):∀ (f:Nat),q1 (G R κ f)=L1 (K0 κ) f
 | 0=>rfl
 | f+1=>by
  funext x0 x1
  show S R κ (G R κ f) 1 _=_
  rw [k1,g1 κ f]
  rfl
end
theorem aj {R:Type} (tab:cb) (ht:aL tab) (g:Nat):bR (R:=R) Tryd.prog (al bN) tab g ((C R).call g):=by
 refine aY fun xs κ => ?_
 show aa _ _ _ g xs κ (Γ R g xs κ)
 unfold Γ
 split
 ·exact aa.none
theorem aX {R:Type} (tab:cb) (ht:aL tab) (a0 a1:_) (κ : KT R):aa Tryd.prog (al bN) tab 67 [.str a0,.int .u8 a1] κ (bI a0 a1 (K0 κ)):=aw (C:=C R) (fn:=Tryd.f67) cy (aj tab ht) (by kernel_rfl) (by kernel_rfl) (by rw [k];rw [g1 R κ aH];rfl)
end bI
namespace bG
abbrev K0 {R:Type} (κ : KT R):LA->Bool->Option R:=fun r0 r1=>κ [.tup [.ar 4 256 r0,.bool r1]]
section
variable (R:Type)
def Γ (g:Nat) (xs:List SV) (κ : KT R):Option R :=
 match g with
 | _=>none
def h (n:Nat):Option (List (Nat × List (Nat × Nat))) :=
 match n with
 | 2=>some [(0,[(0,0)]),(2,[(0,0)]),(4,[(0,0)])]
 | _=>none
def C:Cfg R:=⟨al bN,Γ R,fun _=>false,h,0,fun _=>false⟩
noncomputable def S:=S0 (C R) Tryd.f69 0
noncomputable def G:=G0 (C R) Tryd.f69 0
def s2:=fun x0 x1 x2=>(⟨eJ 21 [(0,.str x0),(2,.ap 192 256),(4,.int .i64 x1)],[(192,.row 4 x2 true)],eH⟩:St)
noncomputable abbrev q2 {R:Type} (J:JT R):J2 R:=fun x0 x1 x2=>J (placeOf Tryd.f69 2) (s2 x0 x1 x2)
theorem k2 (J:JT R) (κ : KT R) (x0 x1 x2:_):S R κ J 2 (s2 x0 x1 x2)=t2 (q2 J) (K0 κ) x0 x1 x2:=by kernel_rfl
theorem k (κ : KT R) (k:Nat) (a0:_):cv (C R) Tryd.f69 10000 k [.str a0] κ = bG.e a0 (q2 (G R κ k)) (K0 κ):=by kernel_rfl
theorem g2 (κ : KT R):∀ (f:Nat),q2 (G R κ f)=L2 (K0 κ) f
 | 0=>rfl
 | f+1=>by
  funext x0 x1 x2
  show S R κ (G R κ f) 2 _=_
  rw [k2,g2 κ f]
  rfl
end
theorem aj {R:Type} (tab:cb) (ht:aL tab) (g:Nat):bR (R:=R) Tryd.prog (al bN) tab g ((C R).call g):=by
 refine aY fun xs κ => ?_
 show aa _ _ _ g xs κ (Γ R g xs κ)
 unfold Γ
 split
 ·exact aa.none
theorem aX {R:Type} (tab:cb) (ht:aL tab) (a0:_) (κ : KT R):aa Tryd.prog (al bN) tab 69 [.str a0] κ (bG a0 (K0 κ)):=aw (C:=C R) (fn:=Tryd.f69) cy (aj tab ht) (by kernel_rfl) (by kernel_rfl) (by rw [k];rw [g2 R κ aH];rfl)
end bG
namespace ai
abbrev K0 {R:Type} (κ : KT R):Bool->Option R:=fun r0=>κ [.bool r0]
section
variable (R:Type)
def Γ (g:Nat) (xs:List SV) (κ : KT R):Option R :=
 match g with
 | _=>none
def h (n:Nat):Option (List (Nat × List (Nat × Nat))) :=
 match n with
 | _=>none
def C:Cfg R:=⟨al bN,Γ R,fun _=>false,h,0,fun _=>false⟩
theorem k (κ : KT R) (k:Nat) (a0 a1:_):cv (C R) Tryd.f87 10000 k [.ra 4 256 a0 true,.int .u8 a1] κ = ai.e a0 a1 (K0 κ):=by kernel_rfl
end
theorem aj {R:Type} (tab:cb) (ht:aL tab) (g:Nat):bR (R:=R) Tryd.prog (al bN) tab g ((C R).call g):=by
 refine aY fun xs κ => ?_
 show aa _ _ _ g xs κ (Γ R g xs κ)
 unfold Γ
 split
 ·exact aa.none
theorem aX {R:Type} (tab:cb) (ht:aL tab) (a0 a1:_) (κ : KT R):aa Tryd.prog (al bN) tab 87 [.ra 4 256 a0 true,.int .u8 a1] κ (ai a0 a1 (K0 κ)):=aw (C:=C R) (fn:=Tryd.f87) cy (aj tab ht) (by kernel_rfl) (by kernel_rfl) (by rw [k];rfl)
end ai
namespace ba
abbrev K0 {R:Type} (κ : KT R):BA->Option R:=fun r0=>κ [.str r0]
section
variable (R:Type) (c1:ai.F R)
def Γ (g:Nat) (xs:List SV) (κ : KT R):Option R :=
 match g with
 | 87=>(match xs with
  | [.ra 4 256 a0 true,.int .u8 a1]=>c1 a0 a1 (ai.K0 κ)
  | _=>none)
 | _=>none
def h (n:Nat):Option (List (Nat × List (Nat × Nat))) :=
 match n with
 | 1=>some [(0,[(0,0)]),(1,[(0,0)])]
 | _=>none
def C:Cfg R:=⟨al bN,Γ R c1,fun g=>Nat.beq g 87,h,0,fun _=>false⟩
noncomputable def S:=S0 (C R c1) Tryd.f71 0
noncomputable def G:=G0 (C R c1) Tryd.f71 0
def s1:=fun x0 x1=>(⟨eJ 22 [(0,.str x0),(1,.ra 4 256 x1 true)],[],eH⟩:St)
noncomputable abbrev q1 {R:Type} (J:JT R):BA->LA->Option R:=fun x0 x1=>J (placeOf Tryd.f71 1) (s1 x0 x1)
theorem k1 (J:JT R) (κ : KT R) (x0 x1:_):S R c1 κ J 1 (s1 x0 x1)=t1 c1 (q1 J) (K0 κ) x0 x1:=by kernel_rfl
theorem k (κ : KT R) (k:Nat) (a0 a1:_):cv (C R c1) Tryd.f71 10000 k [.str a0,.ra 4 256 a1 true] κ = ba.e c1 a0 a1 (q1 (G R c1 κ k)) (K0 κ):=by kernel_rfl
theorem g1 (κ : KT R):∀ (f:Nat),q1 (G R c1 κ f)=L1 c1 (K0 κ) f
 | 0=>rfl
 | f+1=>by
  funext x0 x1
  show S R c1 κ (G R c1 κ f) 1 _=_
  rw [k1,g1 κ f]
  rfl
end
theorem aj {R:Type} (tab:cb) (ht:aL tab) (g:Nat):bR (R:=R) Tryd.prog (al bN) tab g ((C R ai).call g):=by
 refine aY fun xs κ => ?_
 show aa _ _ _ g xs κ (Γ R ai g xs κ)
 unfold Γ
 split
 ·split
  ·exact ai.aX tab ht _ _ κ
  ·exact aa.none
 ·exact aa.none
theorem aX {R:Type} (tab:cb) (ht:aL tab) (a0 a1:_) (κ : KT R):aa Tryd.prog (al bN) tab 71 [.str a0,.ra 4 256 a1 true] κ (ba a0 a1 (K0 κ)):=aw (C:=C R ai) (fn:=Tryd.f71) cy (aj tab ht) (by kernel_rfl) (by kernel_rfl) (by rw [k];rw [g1 R ai κ aH];rfl)
end ba
namespace bb
abbrev K0 {R:Type} (κ : KT R):BA->Option R:=fun r0=>κ [.str r0]
section
variable (R:Type) (c1:ai.F R)
def Γ (g:Nat) (xs:List SV) (κ : KT R):Option R :=
 match g with
 | 87=>(match xs with
  | [.ra 4 256 a0 true,.int .u8 a1]=>c1 a0 a1 (ai.K0 κ)
  | _=>none)
 | _=>none
def h (n:Nat):Option (List (Nat × List (Nat × Nat))) :=
 match n with
 | 1=>some [(0,[(0,0)]),(1,[(0,0)])]
 | _=>none
def C:Cfg R:=⟨al bN,Γ R c1,fun g=>Nat.beq g 87,h,0,fun _=>false⟩
noncomputable def S:=S0 (C R c1) Tryd.f70 0
noncomputable def G:=G0 (C R c1) Tryd.f70 0
def s1:=fun x0 x1=>(⟨eJ 16 [(0,.str x0),(1,.ra 4 256 x1 true)],[],eH⟩:St)
noncomputable abbrev q1 {R:Type} (J:JT R):BA->LA->Option R:=fun x0 x1=>J (placeOf Tryd.f70 1) (s1 x0 x1)
theorem k1 (J:JT R) (κ : KT R) (x0 x1:_):S R c1 κ J 1 (s1 x0 x1)=t1 c1 (q1 J) (K0 κ) x0 x1:=by kernel_rfl
theorem k (κ : KT R) (k:Nat) (a0 a1:_):cv (C R c1) Tryd.f70 10000 k [.str a0,.ra 4 256 a1 true] κ = bb.e c1 a0 a1 (q1 (G R c1 κ k)) (K0 κ):=by kernel_rfl
theorem g1 (κ : KT R):∀ (f:Nat),q1 (G R c1 κ f)=L1 c1 (K0 κ) f
 | 0=>rfl
 | f+1=>by
  funext x0 x1
  show S R c1 κ (G R c1 κ f) 1 _=_
  rw [k1,g1 κ f]
  rfl
end
theorem aj {R:Type} (tab:cb) (ht:aL tab) (g:Nat):bR (R:=R) Tryd.prog (al bN) tab g ((C R ai).call g):=by
 refine aY fun xs κ => ?_
 show aa _ _ _ g xs κ (Γ R ai g xs κ)
 unfold Γ
 split
 ·split
  ·exact ai.aX tab ht _ _ κ
  ·exact aa.none
 ·exact aa.none
theorem aX {R:Type} (tab:cb) (ht:aL tab) (a0 a1:_) (κ : KT R):aa Tryd.prog (al bN) tab 70 [.str a0,.ra 4 256 a1 true] κ (bb a0 a1 (K0 κ)):=aw (C:=C R ai) (fn:=Tryd.f70) cy (aj tab ht) (by kernel_rfl) (by kernel_rfl) (by rw [k];rw [g1 R ai κ aH];rfl)
end bb
namespace bo
abbrev K0 {R:Type} (κ : KT R):BA->Option R:=fun r0=>κ [.str r0]
section
variable (R:Type) (c1:bE.F R) (c2:bI.F R) (c3:bG.F R) (c4:ba.F R) (c5:bb.F R)
def Γ (g:Nat) (xs:List SV) (κ : KT R):Option R :=
 match g with
 | 67=>(match xs with
  | [.str a0,.int .u8 a1]=>c2 a0 a1 (bI.K0 κ)
  | _=>none)
 | 68=>(match xs with
  | [.str a0,.int .u8 a1]=>c1 a0 a1 (bE.K0 κ)
  | _=>none)
 | 69=>(match xs with
  | [.str a0]=>c3 a0 (bG.K0 κ)
  | _=>none)
 | 70=>(match xs with
  | [.str a0,.ra 4 256 a1 true]=>c5 a0 a1 (bb.K0 κ)
  | _=>none)
 | 71=>(match xs with
  | [.str a0,.ra 4 256 a1 true]=>c4 a0 a1 (ba.K0 κ)
  | _=>none)
 | _=>none
def h (n:Nat):Option (List (Nat × List (Nat × Nat))) :=
 match n with
 | _=>none
def C:Cfg R:=⟨al bN,Γ R c1 c2 c3 c4 c5,fun g=>Nat.beq g 70||Nat.beq g 71,h,0,fun _=>false⟩
theorem k (κ : KT R) (k:Nat) (a0 a1:_):cv (C R c1 c2 c3 c4 c5) Tryd.f48 10000 k [.str a0,.str a1] κ = bo.e c1 c2 c3 c4 c5 a0 a1 (K0 κ):=by kernel_rfl
end
theorem aj {R:Type} (tab:cb) (ht:aL tab) (g:Nat):bR (R:=R) Tryd.prog (al bN) tab g ((C R bE bI bG ba bb).call g):=by
 refine aY fun xs κ => ?_
 show aa _ _ _ g xs κ (Γ R bE bI bG ba bb g xs κ)
 unfold Γ
 split
 ·split
  ·exact bI.aX tab ht _ _ κ
  ·exact aa.none
 ·split
  ·exact bE.aX tab ht _ _ κ
  ·exact aa.none
 ·split
  ·exact bG.aX tab ht _ κ
  ·exact aa.none
 ·split
  ·exact bb.aX tab ht _ _ κ
  ·exact aa.none
 ·split
  ·exact ba.aX tab ht _ _ κ
  ·exact aa.none
 ·exact aa.none
theorem aX {R:Type} (tab:cb) (ht:aL tab) (a0 a1:_) (κ : KT R):aa Tryd.prog (al bN) tab 48 [.str a0,.str a1] κ (bo a0 a1 (K0 κ)):=aw (C:=C R bE bI bG ba bb) (fn:=Tryd.f48) cy (aj tab ht) (by kernel_rfl) (by kernel_rfl) (by rw [k];rfl)
end bo
namespace aT
abbrev K0 {R:Type} (κ : KT R):LA->Option R:=fun r0=>κ [.fr 100 r0 true]
section
variable (R:Type) (c1:bj.F R) (c2:bo.F R) (c3:aI.F R) (c4:av.F R)
def Γ (g:Nat) (xs:List SV) (κ : KT R):Option R :=
 match g with
 | 33=>(match xs with
  | [.str a0]=>c1 a0 (bj.K0 κ)
  | _=>none)
 | 46=>(match xs with
  | [.str a0,.str a1]=>c3 a0 a1 (aI.K0 κ)
  | _=>none)
 | 47=>(match xs with
  | [.str a0,.int .u8 a1]=>c4 a0 a1 (av.K0 κ)
  | _=>none)
 | 48=>(match xs with
  | [.str a0,.str a1]=>c2 a0 a1 (bo.K0 κ)
  | _=>none)
 | _=>none
def h (n:Nat):Option (List (Nat × List (Nat × Nat))) :=
 match n with
 | 4=>some [(3,[(0,102)]),(4,[(0,11)]),(10,[(0,0)]),(11,[(0,0)]),(12,[(0,0)])]
 | 8=>some [(3,[(0,0)]),(4,[(0,0)]),(6,[(0,0)]),(10,[(0,0)]),(11,[(0,0)]),(12,[(0,0)])]
 | 13=>some [(3,[(0,102)]),(4,[(0,11)]),(6,[(0,0)]),(7,[(0,0)]),(10,[(0,0)]),(11,[(0,0)]),(12,[(0,0)])]
 | 15=>some [(3,[(0,102)]),(4,[(0,11)]),(10,[(0,0)]),(11,[(0,0)]),(12,[(0,0)])]
 | 17=>some [(3,[(0,0)]),(4,[(0,0)]),(72,[(0,0)]),(73,[(0,0)])]
 | _=>none
def C:Cfg R:=⟨al bN,Γ R c1 c2 c3 c4,fun _=>false,h,0,fun _=>false⟩
noncomputable def S:=S0 (C R c1 c2 c3 c4) Tryd.f26 0
noncomputable def G:=G0 (C R c1 c2 c3 c4) Tryd.f26 0
def s4:=fun x0 x1 x2 x3 x4=>(⟨eJ 87 [(3,.own 256),(4,.own 320),(10,.own 704),(11,.int .i64 x0),(12,.int .i64 x1)],[(256,.row 100 x2 true),(320,.row 9 x3 true),(704,.row 80 x4 true)],eH⟩:St)
def s8:=fun x0 x1 x2 x3 x4 x5 x6 x7 x8=>(⟨eJ 87 [(3,.own 256),(4,.own 320),(6,.ptr 511 0),(10,.own 704),(11,.int .i64 x0),(12,.int .i64 x1)],[(256,.row 100 x2 true),(320,.row 9 x3 true),(511,.var 80 [.str x4,.str x5,.bool x6,.bool x7]),(704,.row 80 x8 true)],eH⟩:St)
def Fw:=fun x0 x1 x2 x3 x4 x5 x6 x7 x8 x9=>(⟨eJ 87 [(3,.own 256),(4,.own 320),(6,.ptr 511 0),(7,.str x0),(10,.own 704),(11,.int .i64 x1),(12,.int .i64 x2)],[(256,.row 100 x3 true),(320,.row 9 x4 true),(511,.var 80 [.str x5,.str x6,.bool x7,.bool x8]),(704,.row 80 x9 true)],eH⟩:St)
def zT:=fun x0 x1 x2 x3 x4=>(⟨eJ 87 [(3,.own 256),(4,.own 320),(10,.own 704),(11,.int .i64 x0),(12,.int .i64 x1)],[(256,.row 100 x2 true),(320,.row 9 x3 true),(704,.row 80 x4 true)],eH⟩:St)
def Fx:=fun x0 x1 x2 x3=>(⟨eJ 87 [(3,.own 256),(4,.own 320),(72,.int .i64 x0),(73,.int .i64 x1)],[(256,.row 100 x2 true),(320,.row 9 x3 true)],eH⟩:St)
noncomputable abbrev q4 {R:Type} (J:JT R):J4 R:=fun x0 x1 x2 x3 x4=>J (placeOf Tryd.f26 4) (s4 x0 x1 x2 x3 x4)
noncomputable abbrev q8 {R:Type} (J:JT R):J8 R:=fun x0 x1 x2 x3 x4 x5 x6 x7 x8=>J (placeOf Tryd.f26 8) (s8 x0 x1 x2 x3 x4 x5 x6 x7 x8)
noncomputable abbrev EF {R:Type} (J:JT R):Dq R:=fun x0 x1 x2 x3 x4 x5 x6 x7 x8 x9=>J (placeOf Tryd.f26 13) (Fw x0 x1 x2 x3 x4 x5 x6 x7 x8 x9)
noncomputable abbrev tm {R:Type} (J:JT R):my R:=fun x0 x1 x2 x3 x4=>J (placeOf Tryd.f26 15) (zT x0 x1 x2 x3 x4)
noncomputable abbrev EH {R:Type} (J:JT R):Ds R:=fun x0 x1 x2 x3=>J (placeOf Tryd.f26 17) (Fx x0 x1 x2 x3)
theorem k4 (J:JT R) (κ : KT R) (x0 x1 x2 x3 x4:_):S R c1 c2 c3 c4 κ J 4 (s4 x0 x1 x2 x3 x4)=t4 (q8 J) (tm J) (EH J) x0 x1 x2 x3 x4:=by kernel_rfl
theorem k8 (J:JT R) (κ : KT R) (x0 x1 x2 x3 x4 x5 x6 x7 x8:_):S R c1 c2 c3 c4 κ J 8 (s8 x0 x1 x2 x3 x4 x5 x6 x7 x8)=t8 c3 c4 (EF J) x0 x1 x2 x3 x4 x5 x6 x7 x8:=by kernel_rfl
theorem FM (J:JT R) (κ : KT R) (x0 x1 x2 x3 x4 x5 x6 x7 x8 x9:_):S R c1 c2 c3 c4 κ J 13 (Fw x0 x1 x2 x3 x4 x5 x6 x7 x8 x9)=t13 (tm J) x0 x1 x2 x3 x4 x5 x6 x7 x8 x9:=by kernel_rfl
theorem CQ (J:JT R) (κ : KT R) (x0 x1 x2 x3 x4:_):S R c1 c2 c3 c4 κ J 15 (zT x0 x1 x2 x3 x4)=t15 (q4 J) x0 x1 x2 x3 x4:=by kernel_rfl
theorem FO (J:JT R) (κ : KT R) (x0 x1 x2 x3:_):S R c1 c2 c3 c4 κ J 17 (Fx x0 x1 x2 x3)=t17 c2 (EH J) (K0 κ) x0 x1 x2 x3:=by kernel_rfl
theorem k (κ : KT R) (k:Nat) (a0:_):cv (C R c1 c2 c3 c4) Tryd.f26 10000 k [.str a0] κ = aT.e c1 c2 c3 c4 a0 (q4 (G R c1 c2 c3 c4 κ k)) (q8 (G R c1 c2 c3 c4 κ k)) (EF (G R c1 c2 c3 c4 κ k)) (tm (G R c1 c2 c3 c4 κ k)) (EH (G R c1 c2 c3 c4 κ k)) (K0 κ):=by kernel_rfl
theorem g17 (κ : KT R):∀ (f:Nat),EH (G R c1 c2 c3 c4 κ f)=Dv c1 c2 c3 c4 (K0 κ) f
 | 0=>rfl
 | f+1=>by
  funext x0 x1 x2 x3
  show S R c1 c2 c3 c4 κ (G R c1 c2 c3 c4 κ f) 17 _=_
  rw [FO,g17 κ f]
  rfl
theorem DY (κ : KT R):∀ (f:Nat),(q4 (G R c1 c2 c3 c4 κ f)=L4 c1 c2 c3 c4 (K0 κ) f)/\(q8 (G R c1 c2 c3 c4 κ f)=L8 c1 c2 c3 c4 (K0 κ) f)/\(EF (G R c1 c2 c3 c4 κ f)=B6 c1 c2 c3 c4 (K0 κ) f)/\(tm (G R c1 c2 c3 c4 κ f)=je c1 c2 c3 c4 (K0 κ) f)
 | 0=>⟨rfl,rfl,rfl,rfl⟩
 | f+1=>by
  obtain ⟨ih0,ih1,ih2,ih3⟩:=DY κ f
  refine ⟨?_,?_,?_,?_⟩
  ·funext x0 x1 x2 x3 x4
   show S R c1 c2 c3 c4 κ (G R c1 c2 c3 c4 κ f) 4 _=_
   rw [k4,ih1,ih3,g17 R c1 c2 c3 c4 κ f]
   rfl
  ·funext x0 x1 x2 x3 x4 x5 x6 x7 x8
   show S R c1 c2 c3 c4 κ (G R c1 c2 c3 c4 κ f) 8 _=_
   rw [k8,ih2]
   rfl
  ·funext x0 x1 x2 x3 x4 x5 x6 x7 x8 x9
   show S R c1 c2 c3 c4 κ (G R c1 c2 c3 c4 κ f) 13 _=_
   rw [FM,ih3]
   rfl
  ·funext x0 x1 x2 x3 x4
   show S R c1 c2 c3 c4 κ (G R c1 c2 c3 c4 κ f) 15 _=_
   rw [CQ,ih0]
   rfl
theorem g4 (κ : KT R) (f:Nat):q4 (G R c1 c2 c3 c4 κ f)=L4 c1 c2 c3 c4 (K0 κ) f:=(DY R c1 c2 c3 c4 κ f).1
theorem g8 (κ : KT R) (f:Nat):q8 (G R c1 c2 c3 c4 κ f)=L8 c1 c2 c3 c4 (K0 κ) f:=(DY R c1 c2 c3 c4 κ f).2.1
theorem g13 (κ : KT R) (f:Nat):EF (G R c1 c2 c3 c4 κ f)=B6 c1 c2 c3 c4 (K0 κ) f:=(DY R c1 c2 c3 c4 κ f).2.2.1
theorem g15 (κ : KT R) (f:Nat):tm (G R c1 c2 c3 c4 κ f)=je c1 c2 c3 c4 (K0 κ) f:=(DY R c1 c2 c3 c4 κ f).2.2.2
end
theorem aj {R:Type} (tab:cb) (ht:aL tab) (g:Nat):bR (R:=R) Tryd.prog (al bN) tab g ((C R bj bo aI av).call g):=by
 refine aY fun xs κ => ?_
 show aa _ _ _ g xs κ (Γ R bj bo aI av g xs κ)
 unfold Γ
 split
 ·split
  ·exact bj.aX tab ht _ κ
  ·exact aa.none
 ·split
  ·exact aI.aX tab ht _ _ κ
  ·exact aa.none
 ·split
  ·exact av.aX tab ht _ _ κ
  ·exact aa.none
 ·split
  ·exact bo.aX tab ht _ _ κ
  ·exact aa.none
 ·exact aa.none
theorem aX {R:Type} (tab:cb) (ht:aL tab) (a0:_) (κ : KT R):aa Tryd.prog (al bN) tab 26 [.str a0] κ (aT a0 (K0 κ)):=aw (C:=C R bj bo aI av) (fn:=Tryd.f26) cy (aj tab ht) (by kernel_rfl) (by kernel_rfl) (by rw [k];rw [g4 R bj bo aI av κ aH,g8 R bj bo aI av κ aH,g13 R bj bo aI av κ aH,g15 R bj bo aI av κ aH,g17 R bj bo aI av κ aH];rfl)
end aT
namespace bn
abbrev K0 {R:Type} (κ : KT R):BA->Option R:=fun r0=>κ [.str r0]
section
variable (R:Type)
def Γ (g:Nat) (xs:List SV) (κ : KT R):Option R :=
 match g with
 | _=>none
def h (n:Nat):Option (List (Nat × List (Nat × Nat))) :=
 match n with
 | 3=>some [(3,[(0,0)]),(8,[(0,0)]),(9,[(0,0)]),(10,[(0,0)])]
 | _=>none
def C:Cfg R:=⟨al bN,Γ R,fun _=>false,h,0,fun _=>false⟩
noncomputable def S:=S0 (C R) Tryd.f56 0
noncomputable def G:=G0 (C R) Tryd.f56 0
def s3:=fun x0 x1 x2=>(⟨eJ 30 [(3,.own 256),(8,.own 256),(9,.int .i64 x0),(10,.int .i64 x1)],[(256,.row 5 x2 true)],eH⟩:St)
noncomputable abbrev q3 {R:Type} (J:JT R):J3 R:=fun x0 x1 x2=>J (placeOf Tryd.f56 3) (s3 x0 x1 x2)
theorem k3 (J:JT R) (κ : KT R) (x0 x1 x2:_):S R κ J 3 (s3 x0 x1 x2)=t3 (q3 J) (K0 κ) x0 x1 x2:=by kernel_rfl
theorem k (κ : KT R) (k:Nat) (a0:_):cv (C R) Tryd.f56 10000 k [.str a0] κ = bn.e a0 (q3 (G R κ k)) (K0 κ):=by kernel_rfl
theorem g3 (κ : KT R):∀ (f:Nat),q3 (G R κ f)=L3 (K0 κ) f
 | 0=>rfl
 | f+1=>by
  funext x0 x1 x2
  show S R κ (G R κ f) 3 _=_
  rw [k3,g3 κ f]
  rfl
end
theorem aj {R:Type} (tab:cb) (ht:aL tab) (g:Nat):bR (R:=R) Tryd.prog (al bN) tab g ((C R).call g):=by
 refine aY fun xs κ => ?_
 show aa _ _ _ g xs κ (Γ R g xs κ)
 unfold Γ
 split
 ·exact aa.none
theorem aX {R:Type} (tab:cb) (ht:aL tab) (a0:_) (κ : KT R):aa Tryd.prog (al bN) tab 56 [.str a0] κ (bn a0 (K0 κ)):=aw (C:=C R) (fn:=Tryd.f56) cy (aj tab ht) (by kernel_rfl) (by kernel_rfl) (by rw [k];rw [g3 R κ aH];rfl)
end bn
namespace cH
abbrev K0 {R:Type} (κ : KT R):Bool->Option R:=fun r0=>κ [.bool r0]
section
variable (R:Type) (c1:bn.F R)
def Γ (g:Nat) (xs:List SV) (κ : KT R):Option R :=
 match g with
 | 56=>(match xs with
  | [.str a0]=>c1 a0 (bn.K0 κ)
  | _=>none)
 | _=>none
def h (n:Nat):Option (List (Nat × List (Nat × Nat))) :=
 match n with
 | _=>none
def C:Cfg R:=⟨al bN,Γ R c1,fun _=>false,h,0,fun _=>false⟩
theorem k (κ : KT R) (k:Nat) (a0 a1:_):cv (C R c1) Tryd.f34 10000 k [.str a0,.str a1] κ = cH.e c1 a0 a1 (K0 κ):=by kernel_rfl
end
theorem aj {R:Type} (tab:cb) (ht:aL tab) (g:Nat):bR (R:=R) Tryd.prog (al bN) tab g ((C R bn).call g):=by
 refine aY fun xs κ => ?_
 show aa _ _ _ g xs κ (Γ R bn g xs κ)
 unfold Γ
 split
 ·split
  ·exact bn.aX tab ht _ κ
  ·exact aa.none
 ·exact aa.none
theorem aX {R:Type} (tab:cb) (ht:aL tab) (a0 a1:_) (κ : KT R):aa Tryd.prog (al bN) tab 34 [.str a0,.str a1] κ (cH a0 a1 (K0 κ)):=aw (C:=C R bn) (fn:=Tryd.f34) cy (aj tab ht) (by kernel_rfl) (by kernel_rfl) (by rw [k];rfl)
end cH
namespace cd
abbrev K0 {R:Type} (κ : KT R):Bool->BA->Option R:=fun r0 r1=>κ [.agg [.bool r0,.str r1]]
section
variable (R:Type) (c1:cH.F R)
def Γ (g:Nat) (xs:List SV) (κ : KT R):Option R :=
 match g with
 | 34=>(match xs with
  | [.str a0,.str a1]=>c1 a0 a1 (cH.K0 κ)
  | _=>none)
 | _=>none
def h (n:Nat):Option (List (Nat × List (Nat × Nat))) :=
 match n with
 | 2=>some [(1,[(0,0)]),(4,[(0,0)]),(7,[(0,0)]),(8,[(0,0)]),(9,[(0,0)])]
 | _=>none
def C:Cfg R:=⟨al bN,Γ R c1,fun _=>false,h,0,fun _=>false⟩
noncomputable def S:=S0 (C R c1) Tryd.f40 0
noncomputable def G:=G0 (C R c1) Tryd.f40 0
def s2:=fun x0 x1 x2 x3 x4 x5=>(⟨eJ 22 [(1,.str x0),(4,.ptr 383 0),(7,.ro 100 x1 false),(8,.int .i64 x2),(9,.int .i64 x3)],[(383,.var 25 [.bool x4,.str x5])],eH⟩:St)
noncomputable abbrev q2 {R:Type} (J:JT R):J2 R:=fun x0 x1 x2 x3 x4 x5=>J (placeOf Tryd.f40 2) (s2 x0 x1 x2 x3 x4 x5)
theorem k2 (J:JT R) (κ : KT R) (x0 x1 x2 x3 x4 x5:_):S R c1 κ J 2 (s2 x0 x1 x2 x3 x4 x5)=t2 c1 (q2 J) (K0 κ) x0 x1 x2 x3 x4 x5:=by kernel_rfl
theorem k (κ : KT R) (k:Nat) (a0 a1:_):cv (C R c1) Tryd.f40 10000 k [.ro 100 a0 false,.str a1] κ = cd.e c1 a0 a1 (q2 (G R c1 κ k)) (K0 κ):=by kernel_rfl
theorem g2 (κ : KT R):∀ (f:Nat),q2 (G R c1 κ f)=L2 c1 (K0 κ) f
 | 0=>rfl
 | f+1=>by
  funext x0 x1 x2 x3 x4 x5
  show S R c1 κ (G R c1 κ f) 2 _=_
  rw [k2,g2 κ f]
  rfl
end
theorem aj {R:Type} (tab:cb) (ht:aL tab) (g:Nat):bR (R:=R) Tryd.prog (al bN) tab g ((C R cH).call g):=by
 refine aY fun xs κ => ?_
 show aa _ _ _ g xs κ (Γ R cH g xs κ)
 unfold Γ
 split
 ·split
  ·exact cH.aX tab ht _ _ κ
  ·exact aa.none
 ·exact aa.none
theorem aX {R:Type} (tab:cb) (ht:aL tab) (a0 a1:_) (κ : KT R):aa Tryd.prog (al bN) tab 40 [.ro 100 a0 false,.str a1] κ (cd a0 a1 (K0 κ)):=aw (C:=C R cH) (fn:=Tryd.f40) cy (aj tab ht) (by kernel_rfl) (by kernel_rfl) (by rw [k];rw [g2 R cH κ aH];rfl)
end cd
namespace bd
abbrev K0 {R:Type} (κ : KT R):Q0 R:=fun r0 r1 r2=>κ [.int .u8 r0,.vp 90 [.str r1,.int .i64 r2]]
section
variable (R:Type)
def Γ (g:Nat) (xs:List SV) (κ : KT R):Option R :=
 match g with
 | _=>none
def h (n:Nat):Option (List (Nat × List (Nat × Nat))) :=
 match n with
 | _=>none
def C:Cfg R:=⟨al bN,Γ R,fun _=>false,h,0,fun _=>false⟩
theorem k (κ : KT R) (k:Nat) (a0 a1:_):cv (C R) Tryd.f82 10000 k [.vp 90 [.str a0,.int .i64 a1]] κ = bd.e a0 a1 (K0 κ):=by kernel_rfl
end
theorem aj {R:Type} (tab:cb) (ht:aL tab) (g:Nat):bR (R:=R) Tryd.prog (al bN) tab g ((C R).call g):=by
 refine aY fun xs κ => ?_
 show aa _ _ _ g xs κ (Γ R g xs κ)
 unfold Γ
 split
 ·exact aa.none
theorem aX {R:Type} (tab:cb) (ht:aL tab) (a0 a1:_) (κ : KT R):aa Tryd.prog (al bN) tab 82 [.vp 90 [.str a0,.int .i64 a1]] κ (bd a0 a1 (K0 κ)):=aw (C:=C R) (fn:=Tryd.f82) cy (aj tab ht) (by kernel_rfl) (by kernel_rfl) (by rw [k];rfl)
end bd
namespace aF
abbrev K0 {R:Type} (κ : KT R):BA->Int->Option R:=fun r0 r1=>κ [.tup [],.vp 90 [.str r0,.int .i64 r1]]
section
variable (R:Type)
def Γ (g:Nat) (xs:List SV) (κ : KT R):Option R :=
 match g with
 | _=>none
def h (n:Nat):Option (List (Nat × List (Nat × Nat))) :=
 match n with
 | 1=>some [(0,[(0,0)]),(2,[(0,0)])]
 | _=>none
def C:Cfg R:=⟨al bN,Γ R,fun _=>false,h,0,fun _=>false⟩
noncomputable def S:=S0 (C R) Tryd.f83 1
noncomputable def G:=G0 (C R) Tryd.f83 1
def s1:=fun x0 x1 x2=>(⟨eJ 58 [(0,.ptr 0 0),(2,.int .i64 x0)],[(0,.var 90 [.str x1,.int .i64 x2])],eH⟩:St)
noncomputable abbrev q1 {R:Type} (J:JT R):J1 R:=fun x0 x1 x2=>J (placeOf Tryd.f83 1) (s1 x0 x1 x2)
theorem k1 (J:JT R) (κ : KT R) (x0 x1 x2:_):S R κ J 1 (s1 x0 x1 x2)=t1 (q1 J) (K0 κ) x0 x1 x2:=by kernel_rfl
theorem k (κ : KT R) (k:Nat) (a0 a1:_):cv (C R) Tryd.f83 10000 k [.vp 90 [.str a0,.int .i64 a1]] κ = aF.e a0 a1 (q1 (G R κ k)) (K0 κ):=by kernel_rfl
theorem g1 (κ : KT R):∀ (f:Nat),q1 (G R κ f)=L1 (K0 κ) f
 | 0=>rfl
 | f+1=>by
  funext x0 x1 x2
  show S R κ (G R κ f) 1 _=_
  rw [k1,g1 κ f]
  rfl
end
theorem aj {R:Type} (tab:cb) (ht:aL tab) (g:Nat):bR (R:=R) Tryd.prog (al bN) tab g ((C R).call g):=by
 refine aY fun xs κ => ?_
 show aa _ _ _ g xs κ (Γ R g xs κ)
 unfold Γ
 split
 ·exact aa.none
theorem aX {R:Type} (tab:cb) (ht:aL tab) (a0 a1:_) (κ : KT R):aa Tryd.prog (al bN) tab 83 [.vp 90 [.str a0,.int .i64 a1]] κ (aF a0 a1 (K0 κ)):=aw (C:=C R) (fn:=Tryd.f83) cy (aj tab ht) (by kernel_rfl) (by kernel_rfl) (by rw [k];rw [g1 R κ aH];rfl)
end aF
namespace ac
abbrev K0 {R:Type} (κ : KT R):BA->Int->Option R:=fun r0 r1=>κ [.tup [],.vp 90 [.str r0,.int .i64 r1]]
section
variable (R:Type) (c1:bd.F R) (c2:aF.F R)
def Γ (g:Nat) (xs:List SV) (κ : KT R):Option R :=
 match g with
 | 82=>(match xs with
  | [.vp 90 [.str a0,.int .i64 a1]]=>c1 a0 a1 (bd.K0 κ)
  | _=>none)
 | 83=>(match xs with
  | [.vp 90 [.str a0,.int .i64 a1]]=>c2 a0 a1 (aF.K0 κ)
  | _=>none)
 | _=>none
def h (n:Nat):Option (List (Nat × List (Nat × Nat))) :=
 match n with
 | 0=>some [(0,[(0,0)])]
 | _=>none
def C:Cfg R:=⟨al bN,Γ R c1 c2,fun _=>false,h,0,fun _=>false⟩
noncomputable def S:=S0 (C R c1 c2) Tryd.f61 1
noncomputable def G:=G0 (C R c1 c2) Tryd.f61 1
def s0:=fun x0 x1=>(⟨eJ 18 [(0,.ptr 0 0)],[(0,.var 90 [.str x0,.int .i64 x1])],eH⟩:St)
noncomputable abbrev q0 {R:Type} (J:JT R):BA->Int->Option R:=fun x0 x1=>J (placeOf Tryd.f61 0) (s0 x0 x1)
theorem k0 (J:JT R) (κ : KT R) (x0 x1:_):S R c1 c2 κ J 0 (s0 x0 x1)=t0 c1 c2 (q0 J) (K0 κ) x0 x1:=by kernel_rfl
theorem k (κ : KT R) (k:Nat) (a0 a1:_):cv (C R c1 c2) Tryd.f61 10000 k [.vp 90 [.str a0,.int .i64 a1]] κ = ac.e c1 c2 a0 a1 (q0 (G R c1 c2 κ k)) (K0 κ):=by kernel_rfl
theorem g0 (κ : KT R):∀ (f:Nat),q0 (G R c1 c2 κ f)=L0 c1 c2 (K0 κ) f
 | 0=>rfl
 | f+1=>by
  funext x0 x1
  show S R c1 c2 κ (G R c1 c2 κ f) 0 _=_
  rw [k0,g0 κ f]
  rfl
end
theorem aj {R:Type} (tab:cb) (ht:aL tab) (g:Nat):bR (R:=R) Tryd.prog (al bN) tab g ((C R bd aF).call g):=by
 refine aY fun xs κ => ?_
 show aa _ _ _ g xs κ (Γ R bd aF g xs κ)
 unfold Γ
 split
 ·split
  ·exact bd.aX tab ht _ _ κ
  ·exact aa.none
 ·split
  ·exact aF.aX tab ht _ _ κ
  ·exact aa.none
 ·exact aa.none
theorem aX {R:Type} (tab:cb) (ht:aL tab) (a0 a1:_) (κ : KT R):aa Tryd.prog (al bN) tab 61 [.vp 90 [.str a0,.int .i64 a1]] κ (ac a0 a1 (K0 κ)):=aw (C:=C R bd aF) (fn:=Tryd.f61) cy (aj tab ht) (by kernel_rfl) (by kernel_rfl) (by rw [k];rw [g0 R bd aF κ aH];rfl)
end ac
namespace bA
abbrev K0 {R:Type} (κ : KT R):Bool->Option R:=fun r0=>κ [.bool r0]
section
variable (R:Type)
def Γ (g:Nat) (xs:List SV) (κ : KT R):Option R :=
 match g with
 | _=>none
def h (n:Nat):Option (List (Nat × List (Nat × Nat))) :=
 match n with
 | _=>none
def C:Cfg R:=⟨al bN,Γ R,fun _=>false,h,0,fun _=>false⟩
theorem k (κ : KT R) (k:Nat) (a0:_):cv (C R) Tryd.f101 10000 k [.int .i32 a0] κ = bA.e a0 (K0 κ):=by kernel_rfl
end
theorem aj {R:Type} (tab:cb) (ht:aL tab) (g:Nat):bR (R:=R) Tryd.prog (al bN) tab g ((C R).call g):=by
 refine aY fun xs κ => ?_
 show aa _ _ _ g xs κ (Γ R g xs κ)
 unfold Γ
 split
 ·exact aa.none
theorem aX {R:Type} (tab:cb) (ht:aL tab) (a0:_) (κ : KT R):aa Tryd.prog (al bN) tab 101 [.int .i32 a0] κ (bA a0 (K0 κ)):=aw (C:=C R) (fn:=Tryd.f101) cy (aj tab ht) (by kernel_rfl) (by kernel_rfl) (by rw [k];rfl)
end bA
namespace bO
abbrev K0 {R:Type} (κ : KT R):Int->Option R:=fun r0=>κ [.int .i64 r0]
section
variable (R:Type)
def Γ (g:Nat) (xs:List SV) (κ : KT R):Option R :=
 match g with
 | _=>none
def h (n:Nat):Option (List (Nat × List (Nat × Nat))) :=
 match n with
 | _=>none
def C:Cfg R:=⟨al bN,Γ R,fun _=>false,h,0,fun _=>false⟩
theorem k (κ : KT R) (k:Nat) (a0:_):cv (C R) Tryd.f80 10000 k [.int .i64 a0] κ = bO.e a0 (K0 κ):=by kernel_rfl
end
theorem aj {R:Type} (tab:cb) (ht:aL tab) (g:Nat):bR (R:=R) Tryd.prog (al bN) tab g ((C R).call g):=by
 refine aY fun xs κ => ?_
 show aa _ _ _ g xs κ (Γ R g xs κ)
 unfold Γ
 split
 ·exact aa.none
theorem aX {R:Type} (tab:cb) (ht:aL tab) (a0:_) (κ : KT R):aa Tryd.prog (al bN) tab 80 [.int .i64 a0] κ (bO a0 (K0 κ)):=aw (C:=C R) (fn:=Tryd.f80) cy (aj tab ht) (by kernel_rfl) (by kernel_rfl) (by rw [k];rfl)
end bO
namespace bQ
abbrev K0 {R:Type} (κ : KT R):Int->Option R:=fun r0=>κ [.int .i64 r0]
section
variable (R:Type) (c1:av.F R) (c2:bA.F R) (c3:bO.F R)
def Γ (g:Nat) (xs:List SV) (κ : KT R):Option R :=
 match g with
 | 47=>(match xs with
  | [.str a0,.int .u8 a1]=>c1 a0 a1 (av.K0 κ)
  | _=>none)
 | 80=>(match xs with
  | [.int .i64 a0]=>c3 a0 (bO.K0 κ)
  | _=>none)
 | 101=>(match xs with
  | [.int .i32 a0]=>c2 a0 (bA.K0 κ)
  | _=>none)
 | _=>none
def h (n:Nat):Option (List (Nat × List (Nat × Nat))) :=
 match n with
 | 5=>some [(0,[(0,0)]),(1,[(0,0)]),(7,[(0,0)]),(8,[(0,0)]),(9,[(0,0)]),(10,[(0,0)])]
 | 12=>some [(0,[(0,0)]),(1,[(0,0)]),(7,[(0,0)]),(8,[(0,0)]),(9,[(0,0)]),(10,[(0,0)]),(12,[(0,0)])]
 | 38=>some [(175,[(0,0)])]
 | _=>none
def C:Cfg R:=⟨al bN,Γ R c1 c2 c3,fun _=>false,h,0,fun _=>false⟩
noncomputable def S:=S0 (C R c1 c2 c3) Tryd.f93 0
noncomputable def G:=G0 (C R c1 c2 c3) Tryd.f93 0
def s5:=fun x0 x1 x2 x3 x4 x5=>(⟨eJ 187 [(0,.str x0),(1,.int .i32 x1),(7,.str x2),(8,.int .i64 x3),(9,.int .i64 x4),(10,.int .i64 x5)],[],eH⟩:St)
def Fv:=fun x0 x1 x2 x3 x4 x5 x6=>(⟨eJ 187 [(0,.str x0),(1,.int .i32 x1),(7,.str x2),(8,.int .i64 x3),(9,.int .i64 x4),(10,.int .i64 x5),(12,.int .i64 x6)],[],eH⟩:St)
def FC:=fun x0 x1=>(⟨eJ 187 [(175,.ptr 11327 0)],[(11327,.sit x0 x1)],eH⟩:St)
noncomputable abbrev q5 {R:Type} (J:JT R):J5 R:=fun x0 x1 x2 x3 x4 x5=>J (placeOf Tryd.f93 5) (s5 x0 x1 x2 x3 x4 x5)
noncomputable abbrev Eo {R:Type} (J:JT R):B4 R:=fun x0 x1 x2 x3 x4 x5 x6=>J (placeOf Tryd.f93 12) (Fv x0 x1 x2 x3 x4 x5 x6)
noncomputable abbrev Ff {R:Type} (J:JT R):BA->Nat->Option R:=fun x0 x1=>J (placeOf Tryd.f93 38) (FC x0 x1)
theorem k5 (J:JT R) (κ : KT R) (x0 x1 x2 x3 x4 x5:_):S R c1 c2 c3 κ J 5 (s5 x0 x1 x2 x3 x4 x5)=t5 c1 (Eo J) (K0 κ) x0 x1 x2 x3 x4 x5:=by kernel_rfl
theorem FL (J:JT R) (κ : KT R) (x0 x1 x2 x3 x4 x5 x6:_):S R c1 c2 c3 κ J 12 (Fv x0 x1 x2 x3 x4 x5 x6)=t12 c3 (q5 J) (Eo J) (K0 κ) x0 x1 x2 x3 x4 x5 x6:=by kernel_rfl
theorem FU (J:JT R) (κ : KT R) (x0 x1:_):S R c1 c2 c3 κ J 38 (FC x0 x1)=t38 (Ff J) (K0 κ) x0 x1:=by kernel_rfl
theorem k (κ : KT R) (k:Nat) (a0 a1:_):cv (C R c1 c2 c3) Tryd.f93 10000 k [.str a0,.int .i32 a1] κ = bQ.e c1 c2 c3 a0 a1 (q5 (G R c1 c2 c3 κ k)) (Eo (G R c1 c2 c3 κ k)) (Ff (G R c1 c2 c3 κ k)) (K0 κ):=by kernel_rfl
theorem BN (κ : KT R):∀ (f:Nat),(q5 (G R c1 c2 c3 κ f)=L5 c1 c2 c3 (K0 κ) f)/\(Eo (G R c1 c2 c3 κ f)=EP c1 c2 c3 (K0 κ) f)
 | 0=>⟨rfl,rfl⟩
 | f+1=>by
  obtain ⟨ih0,ih1⟩:=BN κ f
  refine ⟨?_,?_⟩
  ·funext x0 x1 x2 x3 x4 x5
   show S R c1 c2 c3 κ (G R c1 c2 c3 κ f) 5 _=_
   rw [k5,ih1]
   rfl
  ·funext x0 x1 x2 x3 x4 x5 x6
   show S R c1 c2 c3 κ (G R c1 c2 c3 κ f) 12 _=_
   rw [FL,ih0,ih1]
   rfl
theorem g5 (κ : KT R) (f:Nat):q5 (G R c1 c2 c3 κ f)=L5 c1 c2 c3 (K0 κ) f:=(BN R c1 c2 c3 κ f).1
theorem g12 (κ : KT R) (f:Nat):Eo (G R c1 c2 c3 κ f)=EP c1 c2 c3 (K0 κ) f:=(BN R c1 c2 c3 κ f).2
theorem Ft (κ : KT R):∀ (f:Nat),Ff (G R c1 c2 c3 κ f)=EQ c1 c2 c3 (K0 κ) f
 | 0=>rfl
 | f+1=>by
  funext x0 x1
  show S R c1 c2 c3 κ (G R c1 c2 c3 κ f) 38 _=_
  rw [FU,Ft κ f]
  rfl
end
theorem aj {R:Type} (tab:cb) (ht:aL tab) (g:Nat):bR (R:=R) Tryd.prog (al bN) tab g ((C R av bA bO).call g):=by
 refine aY fun xs κ => ?_
 show aa _ _ _ g xs κ (Γ R av bA bO g xs κ)
 unfold Γ
 split
 ·split
  ·exact av.aX tab ht _ _ κ
  ·exact aa.none
 ·split
  ·exact bO.aX tab ht _ κ
  ·exact aa.none
 ·split
  ·exact bA.aX tab ht _ κ
  ·exact aa.none
 ·exact aa.none
theorem aX {R:Type} (tab:cb) (ht:aL tab) (a0 a1:_) (κ : KT R):aa Tryd.prog (al bN) tab 93 [.str a0,.int .i32 a1] κ (bQ a0 a1 (K0 κ)):=aw (C:=C R av bA bO) (fn:=Tryd.f93) cy (aj tab ht) (by kernel_rfl) (by kernel_rfl) (by rw [k];rw [g5 R av bA bO κ aH,g12 R av bA bO κ aH,Ft R av bA bO κ aH];rfl)
end bQ
namespace aZ
abbrev K0 {R:Type} (κ : KT R):Bool->Option R:=fun r0=>κ [.bool r0]
section
variable (R:Type) (c1:bQ.F R)
def Γ (g:Nat) (xs:List SV) (κ : KT R):Option R :=
 match g with
 | 93=>(match xs with
  | [.str a0,.int .i32 a1]=>c1 a0 a1 (bQ.K0 κ)
  | _=>none)
 | _=>none
def h (n:Nat):Option (List (Nat × List (Nat × Nat))) :=
 match n with
 | _=>none
def C:Cfg R:=⟨al bN,Γ R c1,fun _=>false,h,0,fun _=>false⟩
theorem k (κ : KT R) (k:Nat) (a0 a1:_):cv (C R c1) Tryd.f84 10000 k [.str a0,.int .i32 a1] κ = aZ.e c1 a0 a1 (K0 κ):=by kernel_rfl
end
theorem aj {R:Type} (tab:cb) (ht:aL tab) (g:Nat):bR (R:=R) Tryd.prog (al bN) tab g ((C R bQ).call g):=by
 refine aY fun xs κ => ?_
 show aa _ _ _ g xs κ (Γ R bQ g xs κ)
 unfold Γ
 split
 ·split
  ·exact bQ.aX tab ht _ _ κ
  ·exact aa.none
 ·exact aa.none
theorem aX {R:Type} (tab:cb) (ht:aL tab) (a0 a1:_) (κ : KT R):aa Tryd.prog (al bN) tab 84 [.str a0,.int .i32 a1] κ (aZ a0 a1 (K0 κ)):=aw (C:=C R bQ) (fn:=Tryd.f84) cy (aj tab ht) (by kernel_rfl) (by kernel_rfl) (by rw [k];rfl)
end aZ
namespace ak
abbrev K0 {R:Type} (κ : KT R):Q0 R:=fun r0 r1 r2=>κ [.str r0,.vp 90 [.str r1,.int .i64 r2]]
section
variable (R:Type) (c1:aZ.F R)
def Γ (g:Nat) (xs:List SV) (κ : KT R):Option R :=
 match g with
 | 84=>(match xs with
  | [.str a0,.int .i32 a1]=>c1 a0 a1 (aZ.K0 κ)
  | _=>none)
 | _=>none
def h (n:Nat):Option (List (Nat × List (Nat × Nat))) :=
 match n with
 | 2=>some [(0,[(0,0)]),(3,[(0,0)])]
 | _=>none
def C:Cfg R:=⟨al bN,Γ R c1,fun _=>false,h,0,fun _=>false⟩
noncomputable def S:=S0 (C R c1) Tryd.f62 1
noncomputable def G:=G0 (C R c1) Tryd.f62 1
def s2:=fun x0 x1 x2=>(⟨eJ 73 [(0,.ptr 0 0),(3,.int .i64 x0)],[(0,.var 90 [.str x1,.int .i64 x2])],eH⟩:St)
noncomputable abbrev q2 {R:Type} (J:JT R):J2 R:=fun x0 x1 x2=>J (placeOf Tryd.f62 2) (s2 x0 x1 x2)
theorem k2 (J:JT R) (κ : KT R) (x0 x1 x2:_):S R c1 κ J 2 (s2 x0 x1 x2)=t2 c1 (q2 J) (K0 κ) x0 x1 x2:=by kernel_rfl
theorem k (κ : KT R) (k:Nat) (a0 a1:_):cv (C R c1) Tryd.f62 10000 k [.vp 90 [.str a0,.int .i64 a1]] κ = ak.e c1 a0 a1 (q2 (G R c1 κ k)) (K0 κ):=by kernel_rfl
theorem g2 (κ : KT R):∀ (f:Nat),q2 (G R c1 κ f)=L2 c1 (K0 κ) f
 | 0=>rfl
 | f+1=>by
  funext x0 x1 x2
  show S R c1 κ (G R c1 κ f) 2 _=_
  rw [k2,g2 κ f]
  rfl
end
theorem aj {R:Type} (tab:cb) (ht:aL tab) (g:Nat):bR (R:=R) Tryd.prog (al bN) tab g ((C R aZ).call g):=by
 refine aY fun xs κ => ?_
 show aa _ _ _ g xs κ (Γ R aZ g xs κ)
 unfold Γ
 split
 ·split
  ·exact aZ.aX tab ht _ _ κ
  ·exact aa.none
 ·exact aa.none
theorem aX {R:Type} (tab:cb) (ht:aL tab) (a0 a1:_) (κ : KT R):aa Tryd.prog (al bN) tab 62 [.vp 90 [.str a0,.int .i64 a1]] κ (ak a0 a1 (K0 κ)):=aw (C:=C R aZ) (fn:=Tryd.f62) cy (aj tab ht) (by kernel_rfl) (by kernel_rfl) (by rw [k];rw [g2 R aZ κ aH];rfl)
end ak
namespace ag
abbrev K0 {R:Type} (κ : KT R):Q0 R:=fun r0 r1 r2=>κ [.bool r0,.vp 90 [.str r1,.int .i64 r2]]
section
variable (R:Type)
def Γ (g:Nat) (xs:List SV) (κ : KT R):Option R :=
 match g with
 | _=>none
def h (n:Nat):Option (List (Nat × List (Nat × Nat))) :=
 match n with
 | _=>none
def C:Cfg R:=⟨al bN,Γ R,fun _=>false,h,0,fun _=>false⟩
theorem k (κ : KT R) (k:Nat) (a0 a1 a2:_):cv (C R) Tryd.f63 10000 k [.vp 90 [.str a0,.int .i64 a1],.int .u8 a2] κ = ag.e a0 a1 a2 (K0 κ):=by kernel_rfl
end
theorem aj {R:Type} (tab:cb) (ht:aL tab) (g:Nat):bR (R:=R) Tryd.prog (al bN) tab g ((C R).call g):=by
 refine aY fun xs κ => ?_
 show aa _ _ _ g xs κ (Γ R g xs κ)
 unfold Γ
 split
 ·exact aa.none
theorem aX {R:Type} (tab:cb) (ht:aL tab) (a0 a1 a2:_) (κ : KT R):aa Tryd.prog (al bN) tab 63 [.vp 90 [.str a0,.int .i64 a1],.int .u8 a2] κ (ag a0 a1 a2 (K0 κ)):=aw (C:=C R) (fn:=Tryd.f63) cy (aj tab ht) (by kernel_rfl) (by kernel_rfl) (by rw [k];rfl)
end ag
namespace aW
abbrev K0 {R:Type} (κ : KT R):Q0 R:=fun r0 r1 r2 r3 r4=>κ [.tup [.str r0,.str r1,.bool r2],.vp 90 [.str r3,.int .i64 r4]]
section
variable (R:Type) (c1:ac.F R) (c2:ak.F R) (c3:bn.F R) (c4:ag.F R)
def Γ (g:Nat) (xs:List SV) (κ : KT R):Option R :=
 match g with
 | 56=>(match xs with
  | [.str a0]=>c3 a0 (bn.K0 κ)
  | _=>none)
 | 61=>(match xs with
  | [.vp 90 [.str a0,.int .i64 a1]]=>c1 a0 a1 (ac.K0 κ)
  | _=>none)
 | 62=>(match xs with
  | [.vp 90 [.str a0,.int .i64 a1]]=>c2 a0 a1 (ak.K0 κ)
  | _=>none)
 | 63=>(match xs with
  | [.vp 90 [.str a0,.int .i64 a1],.int .u8 a2]=>c4 a0 a1 a2 (ag.K0 κ)
  | _=>none)
 | _=>none
def h (n:Nat):Option (List (Nat × List (Nat × Nat))) :=
 match n with
 | _=>none
def C:Cfg R:=⟨al bN,Γ R c1 c2 c3 c4,fun _=>false,h,0,fun _=>false⟩
theorem k (κ : KT R) (k:Nat) (a0 a1:_):cv (C R c1 c2 c3 c4) Tryd.f41 10000 k [.vp 90 [.str a0,.int .i64 a1]] κ = aW.e c1 c2 c3 c4 a0 a1 (K0 κ):=by kernel_rfl
end
theorem aj {R:Type} (tab:cb) (ht:aL tab) (g:Nat):bR (R:=R) Tryd.prog (al bN) tab g ((C R ac ak bn ag).call g):=by
 refine aY fun xs κ => ?_
 show aa _ _ _ g xs κ (Γ R ac ak bn ag g xs κ)
 unfold Γ
 split
 ·split
  ·exact bn.aX tab ht _ κ
  ·exact aa.none
 ·split
  ·exact ac.aX tab ht _ _ κ
  ·exact aa.none
 ·split
  ·exact ak.aX tab ht _ _ κ
  ·exact aa.none
 ·split
  ·exact ag.aX tab ht _ _ _ κ
  ·exact aa.none
 ·exact aa.none
theorem aX {R:Type} (tab:cb) (ht:aL tab) (a0 a1:_) (κ : KT R):aa Tryd.prog (al bN) tab 41 [.vp 90 [.str a0,.int .i64 a1]] κ (aW a0 a1 (K0 κ)):=aw (C:=C R ac ak bn ag) (fn:=Tryd.f41) cy (aj tab ht) (by kernel_rfl) (by kernel_rfl) (by rw [k];rfl)
end aW
namespace aq
abbrev K0 {R:Type} (κ : KT R):BA->Option R:=fun r0=>κ [.str r0,.vp 76 [.nos,.no]]
section
variable (R:Type)
def Γ (g:Nat) (xs:List SV) (κ : KT R):Option R :=
 match g with
 | _=>none
def h (n:Nat):Option (List (Nat × List (Nat × Nat))) :=
 match n with
 | _=>none
def C:Cfg R:=⟨al bN,Γ R,fun _=>false,h,0,fun _=>false⟩
theorem k (κ : KT R) (k:Nat) (a0:_):cv (C R) Tryd.f37 10000 k [.vp 76 [.nos,.fr 5 a0 true]] κ = aq.e a0 (K0 κ):=by kernel_rfl
end
theorem aj {R:Type} (tab:cb) (ht:aL tab) (g:Nat):bR (R:=R) Tryd.prog (al bN) tab g ((C R).call g):=by
 refine aY fun xs κ => ?_
 show aa _ _ _ g xs κ (Γ R g xs κ)
 unfold Γ
 split
 ·exact aa.none
theorem aX {R:Type} (tab:cb) (ht:aL tab) (a0:_) (κ : KT R):aa Tryd.prog (al bN) tab 37 [.vp 76 [.nos,.fr 5 a0 true]] κ (aq a0 (K0 κ)):=aw (C:=C R) (fn:=Tryd.f37) cy (aj tab ht) (by kernel_rfl) (by kernel_rfl) (by rw [k];rfl)
end aq
theorem bi.aX {R:Type} (tab:cb) (ht:aL tab) (a0:LA) (κ : List SV->Option R):aa Tryd.prog (al bN) tab 57 [.vp 76 [.nos,.fr 5 a0 true]] κ (bi a0 (fun r0=>κ [.tup [],.vp 76 [.nos,.fr 5 r0 true]])) :=
 nl Tryd.call57 AC yx (.fr _ _) κ
namespace aJ
abbrev K0 {R:Type} (κ : KT R):LA->Option R:=fun r0=>κ [.nili,.vp 76 [.nos,.fr 5 r0 true]]
section
variable (R:Type) (c1:bi.F R)
def Γ (g:Nat) (xs:List SV) (κ : KT R):Option R :=
 match g with
 | 57=>(match xs with
  | [.vp 76 [.nos,.fr 5 a0 true]]=>c1 a0 (fun r0=>κ [.tup [],.vp 76 [.nos,.fr 5 r0 true]])
  | _=>none)
 | _=>none
def h (n:Nat):Option (List (Nat × List (Nat × Nat))) :=
 match n with
 | _=>none
def C:Cfg R:=⟨al bN,Γ R c1,fun _=>false,h,0,fun _=>false⟩
theorem k (κ : KT R) (k:Nat) (a0 a1:_):cv (C R c1) Tryd.f94 10000 k [.vp 76 [.nos,.fr 5 a0 true],.int .u8 a1] κ = aJ.e c1 a0 a1 (K0 κ):=by kernel_rfl
end
theorem aj {R:Type} (tab:cb) (ht:aL tab) (g:Nat):bR (R:=R) Tryd.prog (al bN) tab g ((C R bi).call g):=by
 refine aY fun xs κ => ?_
 show aa _ _ _ g xs κ (Γ R bi g xs κ)
 unfold Γ
 split
 ·split
  ·exact bi.aX tab ht _ κ
  ·exact aa.none
 ·exact aa.none
theorem aX {R:Type} (tab:cb) (ht:aL tab) (a0 a1:_) (κ : KT R):aa Tryd.prog (al bN) tab 94 [.vp 76 [.nos,.fr 5 a0 true],.int .u8 a1] κ (aJ a0 a1 (K0 κ)):=aw (C:=C R bi) (fn:=Tryd.f94) cy (aj tab ht) (by kernel_rfl) (by kernel_rfl) (by rw [k];rfl)
end aJ
namespace bf
abbrev K0 {R:Type} (κ : KT R):Q0 R:=fun r0 r1 r2 r3=>κ [.tup [.str r0,.bool r1],.vp 90 [.str r2,.int .i64 r3]]
section
variable (R:Type) (c1:ag.F R) (c2:ak.F R) (c3:aq.F R) (c4:aJ.F R)
def Γ (g:Nat) (xs:List SV) (κ : KT R):Option R :=
 match g with
 | 37=>(match xs with
  | [.vp 76 [.nos,.fr 5 a0 true]]=>c3 a0 (aq.K0 κ)
  | _=>none)
 | 62=>(match xs with
  | [.vp 90 [.str a0,.int .i64 a1]]=>c2 a0 a1 (ak.K0 κ)
  | _=>none)
 | 63=>(match xs with
  | [.vp 90 [.str a0,.int .i64 a1],.int .u8 a2]=>c1 a0 a1 a2 (ag.K0 κ)
  | _=>none)
 | 94=>(match xs with
  | [.vp 76 [.nos,.fr 5 a0 true],.int .u8 a1]=>c4 a0 a1 (aJ.K0 κ)
  | _=>none)
 | _=>none
def h (n:Nat):Option (List (Nat × List (Nat × Nat))) :=
 match n with
 | 5=>some [(0,[(0,0)]),(5,[(1,7)])]
 | _=>none
def C:Cfg R:=⟨al bN,Γ R c1 c2 c3 c4,fun _=>false,h,0,fun _=>false⟩
noncomputable def S:=S0 (C R c1 c2 c3 c4) Tryd.f85 1
noncomputable def G:=G0 (C R c1 c2 c3 c4) Tryd.f85 1
def s5:=fun x0 x1 x2=>(⟨eJ 78 [(0,.ptr 0 0),(5,.ptr 447 0)],[(0,.var 90 [.str x0,.int .i64 x1]),(447,.var 76 [.nos,.own 385]),(385,.row 5 x2 true)],eH⟩:St)
noncomputable abbrev q5 {R:Type} (J:JT R):J5 R:=fun x0 x1 x2=>J (placeOf Tryd.f85 5) (s5 x0 x1 x2)
theorem k5 (J:JT R) (κ : KT R) (x0 x1 x2:_):S R c1 c2 c3 c4 κ J 5 (s5 x0 x1 x2)=t5 c3 c4 (q5 J) (K0 κ) x0 x1 x2:=by kernel_rfl
theorem k (κ : KT R) (k:Nat) (a0 a1:_):cv (C R c1 c2 c3 c4) Tryd.f85 10000 k [.vp 90 [.str a0,.int .i64 a1]] κ = bf.e c1 c2 c3 c4 a0 a1 (q5 (G R c1 c2 c3 c4 κ k)) (K0 κ):=by kernel_rfl
theorem g5 (κ : KT R):∀ (f:Nat),q5 (G R c1 c2 c3 c4 κ f)=L5 c1 c2 c3 c4 (K0 κ) f
 | 0=>rfl
 | f+1=>by
  funext x0 x1 x2
  show S R c1 c2 c3 c4 κ (G R c1 c2 c3 c4 κ f) 5 _=_
  rw [k5,g5 κ f]
  rfl
end
theorem aj {R:Type} (tab:cb) (ht:aL tab) (g:Nat):bR (R:=R) Tryd.prog (al bN) tab g ((C R ag ak aq aJ).call g):=by
 refine aY fun xs κ => ?_
 show aa _ _ _ g xs κ (Γ R ag ak aq aJ g xs κ)
 unfold Γ
 split
 ·split
  ·exact aq.aX tab ht _ κ
  ·exact aa.none
 ·split
  ·exact ak.aX tab ht _ _ κ
  ·exact aa.none
 ·split
  ·exact ag.aX tab ht _ _ _ κ
  ·exact aa.none
 ·split
  ·exact aJ.aX tab ht _ _ κ
  ·exact aa.none
 ·exact aa.none
theorem aX {R:Type} (tab:cb) (ht:aL tab) (a0 a1:_) (κ : KT R):aa Tryd.prog (al bN) tab 85 [.vp 90 [.str a0,.int .i64 a1]] κ (bf a0 a1 (K0 κ)):=aw (C:=C R ag ak aq aJ) (fn:=Tryd.f85) cy (aj tab ht) (by kernel_rfl) (by kernel_rfl) (by rw [k];rw [g5 R ag ak aq aJ κ aH];rfl)
end bf
namespace aQ
abbrev K0 {R:Type} (κ : KT R):Q0 R:=fun r0 r1 r2 r3 r4=>κ [.tup [.agg [.str r0,.str r1],.bool r2],.vp 90 [.str r3,.int .i64 r4]]
section
variable (R:Type) (c1:ac.F R) (c2:ag.F R) (c3:ak.F R) (c4:bn.F R) (c5:bf.F R)
def Γ (g:Nat) (xs:List SV) (κ : KT R):Option R :=
 match g with
 | 56=>(match xs with
  | [.str a0]=>c4 a0 (bn.K0 κ)
  | _=>none)
 | 61=>(match xs with
  | [.vp 90 [.str a0,.int .i64 a1]]=>c1 a0 a1 (ac.K0 κ)
  | _=>none)
 | 62=>(match xs with
  | [.vp 90 [.str a0,.int .i64 a1]]=>c3 a0 a1 (ak.K0 κ)
  | _=>none)
 | 63=>(match xs with
  | [.vp 90 [.str a0,.int .i64 a1],.int .u8 a2]=>c2 a0 a1 a2 (ag.K0 κ)
  | _=>none)
 | 85=>(match xs with
  | [.vp 90 [.str a0,.int .i64 a1]]=>c5 a0 a1 (bf.K0 κ)
  | _=>none)
 | _=>none
def h (n:Nat):Option (List (Nat × List (Nat × Nat))) :=
 match n with
 | _=>none
def C:Cfg R:=⟨al bN,Γ R c1 c2 c3 c4 c5,fun _=>false,h,0,fun _=>false⟩
theorem k (κ : KT R) (k:Nat) (a0 a1:_):cv (C R c1 c2 c3 c4 c5) Tryd.f64 10000 k [.vp 90 [.str a0,.int .i64 a1]] κ = aQ.e c1 c2 c3 c4 c5 a0 a1 (K0 κ):=by kernel_rfl
end
theorem aj {R:Type} (tab:cb) (ht:aL tab) (g:Nat):bR (R:=R) Tryd.prog (al bN) tab g ((C R ac ag ak bn bf).call g):=by
 refine aY fun xs κ => ?_
 show aa _ _ _ g xs κ (Γ R ac ag ak bn bf g xs κ)
 unfold Γ
 split
 ·split
  ·exact bn.aX tab ht _ κ
  ·exact aa.none
 ·split
  ·exact ac.aX tab ht _ _ κ
  ·exact aa.none
 ·split
  ·exact ak.aX tab ht _ _ κ
  ·exact aa.none
 ·split
  ·exact ag.aX tab ht _ _ _ κ
  ·exact aa.none
 ·split
  ·exact bf.aX tab ht _ _ κ
  ·exact aa.none
 ·exact aa.none
theorem aX {R:Type} (tab:cb) (ht:aL tab) (a0 a1:_) (κ : KT R):aa Tryd.prog (al bN) tab 64 [.vp 90 [.str a0,.int .i64 a1]] κ (aQ a0 a1 (K0 κ)):=aw (C:=C R ac ag ak bn bf) (fn:=Tryd.f64) cy (aj tab ht) (by kernel_rfl) (by kernel_rfl) (by rw [k];rfl)
end aQ
namespace aD
abbrev K0 {R:Type} (κ : KT R):Q0 R:=fun r0 r1 r2=>κ [.fr 95 r0 true,.vp 90 [.str r1,.int .i64 r2]]
section
variable (R:Type) (c1:aQ.F R)
def Γ (g:Nat) (xs:List SV) (κ : KT R):Option R :=
 match g with
 | 64=>(match xs with
  | [.vp 90 [.str a0,.int .i64 a1]]=>c1 a0 a1 (aQ.K0 κ)
  | _=>none)
 | _=>none
def h (n:Nat):Option (List (Nat × List (Nat × Nat))) :=
 match n with
 | 3=>some [(0,[(0,0)]),(3,[(0,97)]),(4,[(0,0)])]
 | _=>none
def C:Cfg R:=⟨al bN,Γ R c1,fun _=>false,h,0,fun _=>false⟩
noncomputable def S:=S0 (C R c1) Tryd.f42 1
noncomputable def G:=G0 (C R c1) Tryd.f42 1
def s3:=fun x0 x1 x2 x3=>(⟨eJ 33 [(0,.ptr 0 0),(3,.own 256),(4,.mp 381)],[(0,.var 90 [.str x0,.int .i64 x1]),(256,.row 95 x2 true),(381,.mp (.str) (.int .i64) x3)],eH⟩:St)
noncomputable abbrev q3 {R:Type} (J:JT R):J3 R:=fun x0 x1 x2 x3=>J (placeOf Tryd.f42 3) (s3 x0 x1 x2 x3)
theorem k3 (J:JT R) (κ : KT R) (x0 x1 x2 x3:_):S R c1 κ J 3 (s3 x0 x1 x2 x3)=t3 c1 (q3 J) (K0 κ) x0 x1 x2 x3:=by kernel_rfl
theorem k (κ : KT R) (k:Nat) (a0 a1:_):cv (C R c1) Tryd.f42 10000 k [.vp 90 [.str a0,.int .i64 a1]] κ = aD.e c1 a0 a1 (q3 (G R c1 κ k)) (K0 κ):=by kernel_rfl
theorem g3 (κ : KT R):∀ (f:Nat),q3 (G R c1 κ f)=L3 c1 (K0 κ) f
 | 0=>rfl
 | f+1=>by
  funext x0 x1 x2 x3
  show S R c1 κ (G R c1 κ f) 3 _=_
  rw [k3,g3 κ f]
  rfl
end
theorem aj {R:Type} (tab:cb) (ht:aL tab) (g:Nat):bR (R:=R) Tryd.prog (al bN) tab g ((C R aQ).call g):=by
 refine aY fun xs κ => ?_
 show aa _ _ _ g xs κ (Γ R aQ g xs κ)
 unfold Γ
 split
 ·split
  ·exact aQ.aX tab ht _ _ κ
  ·exact aa.none
 ·exact aa.none
theorem aX {R:Type} (tab:cb) (ht:aL tab) (a0 a1:_) (κ : KT R):aa Tryd.prog (al bN) tab 42 [.vp 90 [.str a0,.int .i64 a1]] κ (aD a0 a1 (K0 κ)):=aw (C:=C R aQ) (fn:=Tryd.f42) cy (aj tab ht) (by kernel_rfl) (by kernel_rfl) (by rw [k];rw [g3 R aQ κ aH];rfl)
end aD
namespace an
abbrev K0 {R:Type} (κ : KT R):Q0 R:=fun r0 r1 r2 r3=>κ [.agg [.bool r0,.str r1],.vp 90 [.str r2,.int .i64 r3]]
section
variable (R:Type) (c1:ac.F R) (c2:ak.F R) (c3:bn.F R)
def Γ (g:Nat) (xs:List SV) (κ : KT R):Option R :=
 match g with
 | 56=>(match xs with
  | [.str a0]=>c3 a0 (bn.K0 κ)
  | _=>none)
 | 61=>(match xs with
  | [.vp 90 [.str a0,.int .i64 a1]]=>c1 a0 a1 (ac.K0 κ)
  | _=>none)
 | 62=>(match xs with
  | [.vp 90 [.str a0,.int .i64 a1]]=>c2 a0 a1 (ak.K0 κ)
  | _=>none)
 | _=>none
def h (n:Nat):Option (List (Nat × List (Nat × Nat))) :=
 match n with
 | _=>none
def C:Cfg R:=⟨al bN,Γ R c1 c2 c3,fun _=>false,h,0,fun _=>false⟩
theorem k (κ : KT R) (k:Nat) (a0 a1:_):cv (C R c1 c2 c3) Tryd.f43 10000 k [.vp 90 [.str a0,.int .i64 a1]] κ = an.e c1 c2 c3 a0 a1 (K0 κ):=by kernel_rfl
end
theorem aj {R:Type} (tab:cb) (ht:aL tab) (g:Nat):bR (R:=R) Tryd.prog (al bN) tab g ((C R ac ak bn).call g):=by
 refine aY fun xs κ => ?_
 show aa _ _ _ g xs κ (Γ R ac ak bn g xs κ)
 unfold Γ
 split
 ·split
  ·exact bn.aX tab ht _ κ
  ·exact aa.none
 ·split
  ·exact ac.aX tab ht _ _ κ
  ·exact aa.none
 ·split
  ·exact ak.aX tab ht _ _ κ
  ·exact aa.none
 ·exact aa.none
theorem aX {R:Type} (tab:cb) (ht:aL tab) (a0 a1:_) (κ : KT R):aa Tryd.prog (al bN) tab 43 [.vp 90 [.str a0,.int .i64 a1]] κ (an a0 a1 (K0 κ)):=aw (C:=C R ac ak bn) (fn:=Tryd.f43) cy (aj tab ht) (by kernel_rfl) (by kernel_rfl) (by rw [k];rfl)
end an
namespace cn
abbrev K0 {R:Type} (κ : KT R):Bool->BA->Option R:=fun r0 r1=>κ [.agg [.bool r0,.str r1]]
section
variable (R:Type) (c1:cd.F R) (c2:bo.F R)
def Γ (g:Nat) (xs:List SV) (κ : KT R):Option R :=
 match g with
 | 40=>(match xs with
  | [.ro 100 a0 false,.str a1]=>c1 a0 a1 (cd.K0 κ)
  | _=>none)
 | 48=>(match xs with
  | [.str a0,.str a1]=>c2 a0 a1 (bo.K0 κ)
  | _=>none)
 | _=>none
def h (n:Nat):Option (List (Nat × List (Nat × Nat))) :=
 match n with
 | _=>none
def C:Cfg R:=⟨al bN,Γ R c1 c2,fun _=>false,h,0,fun _=>false⟩
theorem k (κ : KT R) (k:Nat) (a0 a1:_):cv (C R c1 c2) Tryd.f44 10000 k [.ro 100 a0 false,.str a1] κ = cn.e c1 c2 a0 a1 (K0 κ):=by kernel_rfl
end
theorem aj {R:Type} (tab:cb) (ht:aL tab) (g:Nat):bR (R:=R) Tryd.prog (al bN) tab g ((C R cd bo).call g):=by
 refine aY fun xs κ => ?_
 show aa _ _ _ g xs κ (Γ R cd bo g xs κ)
 unfold Γ
 split
 ·split
  ·exact cd.aX tab ht _ _ κ
  ·exact aa.none
 ·split
  ·exact bo.aX tab ht _ _ κ
  ·exact aa.none
 ·exact aa.none
theorem aX {R:Type} (tab:cb) (ht:aL tab) (a0 a1:_) (κ : KT R):aa Tryd.prog (al bN) tab 44 [.ro 100 a0 false,.str a1] κ (cn a0 a1 (K0 κ)):=aw (C:=C R cd bo) (fn:=Tryd.f44) cy (aj tab ht) (by kernel_rfl) (by kernel_rfl) (by rw [k];rfl)
end cn
namespace aB
abbrev K0 {R:Type} (κ : KT R):Q0 R:=fun r0 r1 r2=>κ [.ro 9 r0 true,.vp 90 [.str r1,.int .i64 r2]]
section
variable (R:Type) (c1:an.F R) (c2:ac.F R) (c3:ag.F R)
def Γ (g:Nat) (xs:List SV) (κ : KT R):Option R :=
 match g with
 | 43=>(match xs with
  | [.vp 90 [.str a0,.int .i64 a1]]=>c1 a0 a1 (an.K0 κ)
  | _=>none)
 | 61=>(match xs with
  | [.vp 90 [.str a0,.int .i64 a1]]=>c2 a0 a1 (ac.K0 κ)
  | _=>none)
 | 63=>(match xs with
  | [.vp 90 [.str a0,.int .i64 a1],.int .u8 a2]=>c3 a0 a1 a2 (ag.K0 κ)
  | _=>none)
 | _=>none
def h (n:Nat):Option (List (Nat × List (Nat × Nat))) :=
 match n with
 | 2=>some [(0,[(0,0)]),(3,[(0,11)])]
 | 8=>some [(0,[(0,0)]),(3,[(0,1)])]
 | _=>none
def C:Cfg R:=⟨al bN,Γ R c1 c2 c3,fun _=>false,h,0,fun _=>false⟩
noncomputable def S:=S0 (C R c1 c2 c3) Tryd.f45 1
noncomputable def G:=G0 (C R c1 c2 c3) Tryd.f45 1
def s2:=fun x0 x1 x2=>(⟨eJ 24 [(0,.ptr 0 0),(3,.own 256)],[(0,.var 90 [.str x0,.int .i64 x1]),(256,.row 9 x2 true)],eH⟩:St)
def s8:=fun x0 x1 x2=>(⟨eJ 24 [(0,.ptr 0 0),(3,.ro 9 x0 true)],[(0,.var 90 [.str x1,.int .i64 x2])],eH⟩:St)
noncomputable abbrev q2 {R:Type} (J:JT R):J2 R:=fun x0 x1 x2=>J (placeOf Tryd.f45 2) (s2 x0 x1 x2)
noncomputable abbrev q8 {R:Type} (J:JT R):J8 R:=fun x0 x1 x2=>J (placeOf Tryd.f45 8) (s8 x0 x1 x2)
theorem k2 (J:JT R) (κ : KT R) (x0 x1 x2:_):S R c1 c2 c3 κ J 2 (s2 x0 x1 x2)=t2 c1 c2 c3 (q2 J) (q8 J) x0 x1 x2:=by kernel_rfl
theorem k8 (J:JT R) (κ : KT R) (x0 x1 x2:_):S R c1 c2 c3 κ J 8 (s8 x0 x1 x2)=t8 (K0 κ) x0 x1 x2:=by kernel_rfl
theorem k (κ : KT R) (k:Nat) (a0 a1:_):cv (C R c1 c2 c3) Tryd.f45 10000 k [.vp 90 [.str a0,.int .i64 a1]] κ = aB.e c1 c2 c3 a0 a1 (q2 (G R c1 c2 c3 κ k)) (q8 (G R c1 c2 c3 κ k)) (K0 κ):=by kernel_rfl
theorem g8 (κ : KT R):∀ (f:Nat),q8 (G R c1 c2 c3 κ f)=L8 c1 c2 c3 (K0 κ) f
 | 0=>rfl
 | f+1=>by
  funext x0 x1 x2
  show S R c1 c2 c3 κ (G R c1 c2 c3 κ f) 8 _=_
  rw [k8]
  rfl
theorem g2 (κ : KT R):∀ (f:Nat),q2 (G R c1 c2 c3 κ f)=L2 c1 c2 c3 (K0 κ) f
 | 0=>rfl
 | f+1=>by
  funext x0 x1 x2
  show S R c1 c2 c3 κ (G R c1 c2 c3 κ f) 2 _=_
  rw [k2,g2 κ f,g8 R c1 c2 c3 κ f]
  rfl
end
theorem aj {R:Type} (tab:cb) (ht:aL tab) (g:Nat):bR (R:=R) Tryd.prog (al bN) tab g ((C R an ac ag).call g):=by
 refine aY fun xs κ => ?_
 show aa _ _ _ g xs κ (Γ R an ac ag g xs κ)
 unfold Γ
 split
 ·split
  ·exact an.aX tab ht _ _ κ
  ·exact aa.none
 ·split
  ·exact ac.aX tab ht _ _ κ
  ·exact aa.none
 ·split
  ·exact ag.aX tab ht _ _ _ κ
  ·exact aa.none
 ·exact aa.none
theorem aX {R:Type} (tab:cb) (ht:aL tab) (a0 a1:_) (κ : KT R):aa Tryd.prog (al bN) tab 45 [.vp 90 [.str a0,.int .i64 a1]] κ (aB a0 a1 (K0 κ)):=aw (C:=C R an ac ag) (fn:=Tryd.f45) cy (aj tab ht) (by kernel_rfl) (by kernel_rfl) (by rw [k];rw [g2 R an ac ag κ aH,g8 R an ac ag κ aH];rfl)
end aB
namespace cw
abbrev K0 {R:Type} (κ : KT R):Q0 R:=fun r0 r1 r2 r3 r4 r5 r6 r7 r8 r9 r10 r11 r12 r13 r14 r15 r16 r17 r18 r19 r20=>κ [.tup [],.vp 31 [.str r0,.str r1,.str r2,.ro 95 r3 true,.bool r4,.str r5,.bool r6,.str r7,.bool r8,.str r9,.bool r10,.str r11,.ro 95 r12 true,.ro 9 r13 true,.bool r14,.str r15,.int .i64 r16,.int .i64 r17,.int .i64 r18,.int .i64 r19,.int .i64 r20,.nil]]
section
variable (R:Type) (c1:cd.F R) (c2:aW.F R) (c3:aD.F R) (c4:an.F R) (c5:cn.F R) (c6:aB.F R)
def Γ (g:Nat) (xs:List SV) (κ : KT R):Option R :=
 match g with
 | 40=>(match xs with
  | [.ro 100 a0 false,.str a1]=>c1 a0 a1 (cd.K0 κ)
  | _=>none)
 | 41=>(match xs with
  | [.vp 90 [.str a0,.int .i64 a1]]=>c2 a0 a1 (aW.K0 κ)
  | _=>none)
 | 42=>(match xs with
  | [.vp 90 [.str a0,.int .i64 a1]]=>c3 a0 a1 (aD.K0 κ)
  | _=>none)
 | 43=>(match xs with
  | [.vp 90 [.str a0,.int .i64 a1]]=>c4 a0 a1 (an.K0 κ)
  | _=>none)
 | 44=>(match xs with
  | [.ro 100 a0 false,.str a1]=>c5 a0 a1 (cn.K0 κ)
  | _=>none)
 | 45=>(match xs with
  | [.vp 90 [.str a0,.int .i64 a1]]=>c6 a0 a1 (aB.K0 κ)
  | _=>none)
 | _=>none
def h (n:Nat):Option (List (Nat × List (Nat × Nat))) :=
 match n with
 | 15=>some [(0,[(3,97),(3,1),(12,97),(12,1),(13,11),(13,1)]),(1,[(0,0)])]
 | _=>none
def C:Cfg R:=⟨al bN,Γ R c1 c2 c3 c4 c5 c6,fun _=>false,h,0,fun _=>false⟩
noncomputable def S:=S0 (C R c1 c2 c3 c4 c5 c6) Tryd.f25 1
noncomputable def G:=G0 (C R c1 c2 c3 c4 c5 c6) Tryd.f25 1
def zT:=fun x0 x1 x2 x3 x4 x5 x6 x7 x8 x9 x10 x11 x12 x13 x14 x15 x16 x17 x18 x19 x20 x21=>(⟨eJ 108 [(0,.ptr 0 0),(1,.ro 100 x0 false)],[(0,.var 31 [.str x1,.str x2,.str x3,.ro 95 x4 true,.bool x5,.str x6,.bool x7,.str x8,.bool x9,.str x10,.bool x11,.str x12,.ro 95 x13 true,.ro 9 x14 true,.bool x15,.str x16,.int .i64 x17,.int .i64 x18,.int .i64 x19,.int .i64 x20,.int .i64 x21,.nil])],eH⟩:St)
noncomputable abbrev tm {R:Type} (J:JT R):my R:=fun x0 x1 x2 x3 x4 x5 x6 x7 x8 x9 x10 x11 x12 x13 x14 x15 x16 x17 x18 x19 x20 x21=>J (placeOf Tryd.f25 15) (zT x0 x1 x2 x3 x4 x5 x6 x7 x8 x9 x10 x11 x12 x13 x14 x15 x16 x17 x18 x19 x20 x21)
theorem CQ (J:JT R) (κ : KT R) (x0 x1 x2 x3 x4 x5 x6 x7 x8 x9 x10 x11 x12 x13 x14 x15 x16 x17 x18 x19 x20 x21:_):S R c1 c2 c3 c4 c5 c6 κ J 15 (zT x0 x1 x2 x3 x4 x5 x6 x7 x8 x9 x10 x11 x12 x13 x14 x15 x16 x17 x18 x19 x20 x21)=t15 c1 c6 (K0 κ) x0 x1 x2 x3 x4 x5 x6 x7 x8 x9 x10 x11 x12 x13 x14 x15 x16 x17 x18 x19 x20 x21:=by kernel_rfl
theorem k (κ : KT R) (k:Nat) (a0 a1 a2 a3 a4 a5 a6 a7 a8 a9 a10 a11 a12 a13 a14 a15 a16 a17 a18 a19:_):cv (C R c1 c2 c3 c4 c5 c6) Tryd.f25 10000 k [.vp 31 [.str a0,.str a1,.str a2,.nil,.bool a3,.str a4,.bool a5,.str a6,.bool a7,.str a8,.bool a9,.str a10,.nil,.nil,.bool a11,.str a12,.int .i64 a13,.int .i64 a14,.int .i64 a15,.int .i64 a16,.int .i64 a17,.nil],.ro 100 a18 false,.bool a19] κ = cw.e c1 c2 c3 c4 c5 c6 a0 a1 a2 a3 a4 a5 a6 a7 a8 a9 a10 a11 a12 a13 a14 a15 a16 a17 a18 a19 (tm (G R c1 c2 c3 c4 c5 c6 κ k)) (K0 κ):=by kernel_rfl
theorem g15 (κ : KT R):∀ (f:Nat),tm (G R c1 c2 c3 c4 c5 c6 κ f)=je c1 c2 c3 c4 c5 c6 (K0 κ) f
 | 0=>rfl
 | f+1=>by
  funext x0 x1 x2 x3 x4 x5 x6 x7 x8 x9 x10 x11 x12 x13 x14 x15 x16 x17 x18 x19 x20 x21
  show S R c1 c2 c3 c4 c5 c6 κ (G R c1 c2 c3 c4 c5 c6 κ f) 15 _=_
  rw [CQ]
  rfl
end
theorem aj {R:Type} (tab:cb) (ht:aL tab) (g:Nat):bR (R:=R) Tryd.prog (al bN) tab g ((C R cd aW aD an cn aB).call g):=by
 refine aY fun xs κ => ?_
 show aa _ _ _ g xs κ (Γ R cd aW aD an cn aB g xs κ)
 unfold Γ
 split
 ·split
  ·exact cd.aX tab ht _ _ κ
  ·exact aa.none
 ·split
  ·exact aW.aX tab ht _ _ κ
  ·exact aa.none
 ·split
  ·exact aD.aX tab ht _ _ κ
  ·exact aa.none
 ·split
  ·exact an.aX tab ht _ _ κ
  ·exact aa.none
 ·split
  ·exact cn.aX tab ht _ _ κ
  ·exact aa.none
 ·split
  ·exact aB.aX tab ht _ _ κ
  ·exact aa.none
 ·exact aa.none
theorem aX {R:Type} (tab:cb) (ht:aL tab) (a0 a1 a2 a3 a4 a5 a6 a7 a8 a9 a10 a11 a12 a13 a14 a15 a16 a17 a18 a19:_) (κ : KT R):aa Tryd.prog (al bN) tab 25 [.vp 31 [.str a0,.str a1,.str a2,.nil,.bool a3,.str a4,.bool a5,.str a6,.bool a7,.str a8,.bool a9,.str a10,.nil,.nil,.bool a11,.str a12,.int .i64 a13,.int .i64 a14,.int .i64 a15,.int .i64 a16,.int .i64 a17,.nil],.ro 100 a18 false,.bool a19] κ (cw a0 a1 a2 a3 a4 a5 a6 a7 a8 a9 a10 a11 a12 a13 a14 a15 a16 a17 a18 a19 (K0 κ)):=aw (C:=C R cd aW aD an cn aB) (fn:=Tryd.f25) cy (aj tab ht) (by kernel_rfl) (by kernel_rfl) (by rw [k];rw [g15 R cd aW aD an cn aB κ aH];rfl)
end cw
namespace az
abbrev K0 {R:Type} (κ : KT R):Q0 R:=fun r0 r1 r2 r3 r4 r5 r6 r7 r8 r9 r10 r11 r12 r13 r14 r15 r16 r17 r18 r19 r20 r21 r22=>κ [.agg [.str r0,.str r1,.str r2,.ro 95 r3 true,.bool r4,.str r5,.bool r6,.str r7,.bool r8,.str r9,.bool r10,.str r11,.ro 95 r12 true,.ro 9 r13 true,.bool r14,.str r15,.int .i64 r16,.int .i64 r17,.int .i64 r18,.int .i64 r19,.int .i64 r20,.nil],.vp 49 [.str r21,.int .i64 r22]]
section
variable (R:Type) (c1:cJ.F R) (c2:aT.F R) (c3:cw.F R)
def Γ (g:Nat) (xs:List SV) (κ : KT R):Option R :=
 match g with
 | 24=>(match xs with
  | [.str a0]=>c1 a0 (cJ.K0 κ)
  | _=>none)
 | 25=>(match xs with
  | [.vp 31 [.str a0,.str a1,.str a2,.nil,.bool a3,.str a4,.bool a5,.str a6,.bool a7,.str a8,.bool a9,.str a10,.nil,.nil,.bool a11,.str a12,.int .i64 a13,.int .i64 a14,.int .i64 a15,.int .i64 a16,.int .i64 a17,.nil],.ro 100 a18 false,.bool a19]=>c3 a0 a1 a2 a3 a4 a5 a6 a7 a8 a9 a10 a11 a12 a13 a14 a15 a16 a17 a18 a19 (cw.K0 κ)
  | _=>none)
 | 26=>(match xs with
  | [.str a0]=>c2 a0 (aT.K0 κ)
  | _=>none)
 | _=>none
def h (n:Nat):Option (List (Nat × List (Nat × Nat))) :=
 match n with
 | _=>none
def C:Cfg R:=⟨al bN,Γ R c1 c2 c3,fun _=>false,h,0,fun _=>false⟩
theorem k (κ : KT R) (k:Nat) (a0 a1 a2 a3 a4:_):cv (C R c1 c2 c3) Tryd.f15 10000 k [.vp 49 [.str a0,.int .i64 a1],.agg [.int .i64 a2,.int .i64 a3],.bool a4] κ = az.e c1 c2 c3 a0 a1 a2 a3 a4 (K0 κ):=by kernel_rfl
end
theorem aj {R:Type} (tab:cb) (ht:aL tab) (g:Nat):bR (R:=R) Tryd.prog (al bN) tab g ((C R cJ aT cw).call g):=by
 refine aY fun xs κ => ?_
 show aa _ _ _ g xs κ (Γ R cJ aT cw g xs κ)
 unfold Γ
 split
 ·split
  ·exact cJ.aX tab ht _ κ
  ·exact aa.none
 ·split
  ·exact cw.aX tab ht _ _ _ _ _ _ _ _ _ _ _ _ _ _ _ _ _ _ _ _ κ
  ·exact aa.none
 ·split
  ·exact aT.aX tab ht _ κ
  ·exact aa.none
 ·exact aa.none
theorem aX {R:Type} (tab:cb) (ht:aL tab) (a0 a1 a2 a3 a4:_) (κ : KT R):aa Tryd.prog (al bN) tab 15 [.vp 49 [.str a0,.int .i64 a1],.agg [.int .i64 a2,.int .i64 a3],.bool a4] κ (az a0 a1 a2 a3 a4 (K0 κ)):=aw (C:=C R cJ aT cw) (fn:=Tryd.f15) cy (aj tab ht) (by kernel_rfl) (by kernel_rfl) (by rw [k];rfl)
end az
namespace br
abbrev K0 {R:Type} (κ : KT R):Q0 R:=fun r0 r1 r2 r3 r4 r5 r6 r7 r8 r9 r10 r11 r12 r13 r14 r15 r16 r17 r18 r19 r20 r21=>κ [.bool r0,.vp 31 [.str r1,.str r2,.str r3,.ro 95 r4 true,.bool r5,.str r6,.bool r7,.str r8,.bool r9,.str r10,.bool r11,.str r12,.ro 95 r13 true,.ro 9 r14 true,.bool r15,.str r16,.int .i64 r17,.int .i64 r18,.int .i64 r19,.int .i64 r20,.int .i64 r21,.nil]]
section
variable (R:Type)
def Γ (g:Nat) (xs:List SV) (κ : KT R):Option R :=
 match g with
 | _=>none
def h (n:Nat):Option (List (Nat × List (Nat × Nat))) :=
 match n with
 | _=>none
def C:Cfg R:=⟨al bN,Γ R,fun _=>false,h,0,fun _=>false⟩
theorem k (κ : KT R) (k:Nat) (a0 a1 a2 a3 a4 a5 a6 a7 a8 a9 a10 a11 a12 a13 a14 a15 a16 a17 a18 a19 a20:_):cv (C R) Tryd.f21 10000 k [.vp 31 [.str a0,.str a1,.str a2,.ro 95 a3 true,.bool a4,.str a5,.bool a6,.str a7,.bool a8,.str a9,.bool a10,.str a11,.ro 95 a12 true,.ro 9 a13 true,.bool a14,.str a15,.int .i64 a16,.int .i64 a17,.int .i64 a18,.int .i64 a19,.int .i64 a20,.nil]] κ = br.e a0 a1 a2 a3 a4 a5 a6 a7 a8 a9 a10 a11 a12 a13 a14 a15 a16 a17 a18 a19 a20 (K0 κ):=by kernel_rfl
end
theorem aj {R:Type} (tab:cb) (ht:aL tab) (g:Nat):bR (R:=R) Tryd.prog (al bN) tab g ((C R).call g):=by
 refine aY fun xs κ => ?_
 show aa _ _ _ g xs κ (Γ R g xs κ)
 unfold Γ
 split
 ·exact aa.none
theorem aX {R:Type} (tab:cb) (ht:aL tab) (a0 a1 a2 a3 a4 a5 a6 a7 a8 a9 a10 a11 a12 a13 a14 a15 a16 a17 a18 a19 a20:_) (κ : KT R):aa Tryd.prog (al bN) tab 21 [.vp 31 [.str a0,.str a1,.str a2,.ro 95 a3 true,.bool a4,.str a5,.bool a6,.str a7,.bool a8,.str a9,.bool a10,.str a11,.ro 95 a12 true,.ro 9 a13 true,.bool a14,.str a15,.int .i64 a16,.int .i64 a17,.int .i64 a18,.int .i64 a19,.int .i64 a20,.nil]] κ (br a0 a1 a2 a3 a4 a5 a6 a7 a8 a9 a10 a11 a12 a13 a14 a15 a16 a17 a18 a19 a20 (K0 κ)):=aw (C:=C R) (fn:=Tryd.f21) cy (aj tab ht) (by kernel_rfl) (by kernel_rfl) (by rw [k];rfl)
end br
namespace b6
abbrev K0 {R:Type} (κ : KT R):BA->Bool->Option R:=fun r0 r1=>κ [.tup [.str r0,.bool r1]]
section
variable (R:Type) (c1:bw.F R)
def Γ (g:Nat) (xs:List SV) (κ : KT R):Option R :=
 match g with
 | 59=>(match xs with
  | [.str a0,.str a1]=>c1 a0 a1 (bw.K0 κ)
  | _=>none)
 | _=>none
def h (n:Nat):Option (List (Nat × List (Nat × Nat))) :=
 match n with
 | _=>none
def C:Cfg R:=⟨al bN,Γ R c1,fun _=>false,h,0,fun _=>false⟩
theorem k (κ : KT R) (k:Nat) (a0 a1:_):cv (C R c1) Tryd.f96 10000 k [.str a0,.str a1] κ = b6.e c1 a0 a1 (K0 κ):=by kernel_rfl
end
theorem aj {R:Type} (tab:cb) (ht:aL tab) (g:Nat):bR (R:=R) Tryd.prog (al bN) tab g ((C R bw).call g):=by
 refine aY fun xs κ => ?_
 show aa _ _ _ g xs κ (Γ R bw g xs κ)
 unfold Γ
 split
 ·split
  ·exact bw.aX tab ht _ _ κ
  ·exact aa.none
 ·exact aa.none
theorem aX {R:Type} (tab:cb) (ht:aL tab) (a0 a1:_) (κ : KT R):aa Tryd.prog (al bN) tab 96 [.str a0,.str a1] κ (b6 a0 a1 (K0 κ)):=aw (C:=C R bw) (fn:=Tryd.f96) cy (aj tab ht) (by kernel_rfl) (by kernel_rfl) (by rw [k];rfl)
end b6
namespace bY
abbrev K0 {R:Type} (κ : KT R):BA->Bool->Option R:=fun r0 r1=>κ [.tup [.str r0,.bool r1]]
section
variable (R:Type) (c1:b6.F R)
def Γ (g:Nat) (xs:List SV) (κ : KT R):Option R :=
 match g with
 | 96=>(match xs with
  | [.str a0,.str a1]=>c1 a0 a1 (b6.K0 κ)
  | _=>none)
 | _=>none
def h (n:Nat):Option (List (Nat × List (Nat × Nat))) :=
 match n with
 | _=>none
def C:Cfg R:=⟨al bN,Γ R c1,fun _=>false,h,0,fun _=>false⟩
theorem k (κ : KT R) (k:Nat) (a0 a1:_):cv (C R c1) Tryd.f89 10000 k [.str a0,.str a1] κ = bY.e c1 a0 a1 (K0 κ):=by kernel_rfl
end
theorem aj {R:Type} (tab:cb) (ht:aL tab) (g:Nat):bR (R:=R) Tryd.prog (al bN) tab g ((C R b6).call g):=by
 refine aY fun xs κ => ?_
 show aa _ _ _ g xs κ (Γ R b6 g xs κ)
 unfold Γ
 split
 ·split
  ·exact b6.aX tab ht _ _ κ
  ·exact aa.none
 ·exact aa.none
theorem aX {R:Type} (tab:cb) (ht:aL tab) (a0 a1:_) (κ : KT R):aa Tryd.prog (al bN) tab 89 [.str a0,.str a1] κ (bY a0 a1 (K0 κ)):=aw (C:=C R b6) (fn:=Tryd.f89) cy (aj tab ht) (by kernel_rfl) (by kernel_rfl) (by rw [k];rfl)
end bY
namespace b7
abbrev K0 {R:Type} (κ : KT R):Bool->Bool->Option R:=fun r0 r1=>κ [.tup [.bool r0,.bool r1]]
section
variable (R:Type) (c1:bY.F R) (c2:bo.F R)
def Γ (g:Nat) (xs:List SV) (κ : KT R):Option R :=
 match g with
 | 48=>(match xs with
  | [.str a0,.str a1]=>c2 a0 a1 (bo.K0 κ)
  | _=>none)
 | 89=>(match xs with
  | [.str a0,.str a1]=>c1 a0 a1 (bY.K0 κ)
  | _=>none)
 | _=>none
def h (n:Nat):Option (List (Nat × List (Nat × Nat))) :=
 match n with
 | _=>none
def C:Cfg R:=⟨al bN,Γ R c1 c2,fun _=>false,h,0,fun _=>false⟩
theorem k (κ : KT R) (k:Nat) (a0 a1:_):cv (C R c1 c2) Tryd.f74 10000 k [.str a0,.str a1] κ = b7.e c1 c2 a0 a1 (K0 κ):=by kernel_rfl
end
theorem aj {R:Type} (tab:cb) (ht:aL tab) (g:Nat):bR (R:=R) Tryd.prog (al bN) tab g ((C R bY bo).call g):=by
 refine aY fun xs κ => ?_
 show aa _ _ _ g xs κ (Γ R bY bo g xs κ)
 unfold Γ
 split
 ·split
  ·exact bo.aX tab ht _ _ κ
  ·exact aa.none
 ·split
  ·exact bY.aX tab ht _ _ κ
  ·exact aa.none
 ·exact aa.none
theorem aX {R:Type} (tab:cb) (ht:aL tab) (a0 a1:_) (κ : KT R):aa Tryd.prog (al bN) tab 74 [.str a0,.str a1] κ (b7 a0 a1 (K0 κ)):=aw (C:=C R bY bo) (fn:=Tryd.f74) cy (aj tab ht) (by kernel_rfl) (by kernel_rfl) (by rw [k];rfl)
end b7
namespace bc
abbrev K0 {R:Type} (κ : KT R):Q0 R:=fun r0 r1 r2=>κ [.fr 28 r0 true,.vp 49 [.str r1,.int .i64 r2]]
section
variable (R:Type) (c1:aE.F R) (c2:b7.F R)
def Γ (g:Nat) (xs:List SV) (κ : KT R):Option R :=
 match g with
 | 39=>(match xs with
  | [.str a0,.str a1]=>c1 a0 a1 (aE.K0 κ)
  | _=>none)
 | 74=>(match xs with
  | [.str a0,.str a1]=>c2 a0 a1 (b7.K0 κ)
  | _=>none)
 | _=>none
def h (n:Nat):Option (List (Nat × List (Nat × Nat))) :=
 match n with
 | 4=>some [(0,[(0,0)]),(2,[(0,0)]),(4,[(0,0)]),(7,[(0,30)]),(8,[(0,0)]),(9,[(0,0)])]
 | _=>none
def C:Cfg R:=⟨al bN,Γ R c1 c2,fun _=>false,h,0,fun _=>false⟩
noncomputable def S:=S0 (C R c1 c2) Tryd.f49 1
noncomputable def G:=G0 (C R c1 c2) Tryd.f49 1
def s4:=fun x0 x1 x2 x3 x4 x5 x6 x7=>(⟨eJ 85 [(0,.ptr 0 0),(2,.str x0),(4,.ptr 383 0),(7,.own 512),(8,.int .i64 x1),(9,.int .i64 x2)],[(0,.var 49 [.str x3,.int .i64 x4]),(383,.var 28 [.int .i64 x5,.int .i64 x6]),(512,.row 28 x7 true)],eH⟩:St)
noncomputable abbrev q4 {R:Type} (J:JT R):J4 R:=fun x0 x1 x2 x3 x4 x5 x6 x7=>J (placeOf Tryd.f49 4) (s4 x0 x1 x2 x3 x4 x5 x6 x7)
theorem k4 (J:JT R) (κ : KT R) (x0 x1 x2 x3 x4 x5 x6 x7:_):S R c1 c2 κ J 4 (s4 x0 x1 x2 x3 x4 x5 x6 x7)=t4 c1 c2 (q4 J) (K0 κ) x0 x1 x2 x3 x4 x5 x6 x7:=by kernel_rfl
theorem k (κ : KT R) (k:Nat) (a0 a1 a2 a3 a4:_):cv (C R c1 c2) Tryd.f49 10000 k [.vp 49 [.str a0,.int .i64 a1],.agg [.int .i64 a2,.int .i64 a3],.str a4] κ = bc.e c1 c2 a0 a1 a2 a3 a4 (q4 (G R c1 c2 κ k)) (K0 κ):=by kernel_rfl
theorem g4 (κ : KT R):∀ (f:Nat),q4 (G R c1 c2 κ f)=L4 c1 c2 (K0 κ) f
 | 0=>rfl
 | f+1=>by
  funext x0 x1 x2 x3 x4 x5 x6 x7
  show S R c1 c2 κ (G R c1 c2 κ f) 4 _=_
  rw [k4,g4 κ f]
  rfl
end
theorem aj {R:Type} (tab:cb) (ht:aL tab) (g:Nat):bR (R:=R) Tryd.prog (al bN) tab g ((C R aE b7).call g):=by
 refine aY fun xs κ => ?_
 show aa _ _ _ g xs κ (Γ R aE b7 g xs κ)
 unfold Γ
 split
 ·split
  ·exact aE.aX tab ht _ _ κ
  ·exact aa.none
 ·split
  ·exact b7.aX tab ht _ _ κ
  ·exact aa.none
 ·exact aa.none
theorem aX {R:Type} (tab:cb) (ht:aL tab) (a0 a1 a2 a3 a4:_) (κ : KT R):aa Tryd.prog (al bN) tab 49 [.vp 49 [.str a0,.int .i64 a1],.agg [.int .i64 a2,.int .i64 a3],.str a4] κ (bc a0 a1 a2 a3 a4 (K0 κ)):=aw (C:=C R aE b7) (fn:=Tryd.f49) cy (aj tab ht) (by kernel_rfl) (by kernel_rfl) (by rw [k];rw [g4 R aE b7 κ aH];rfl)
end bc
namespace aA
abbrev K0 {R:Type} (κ : KT R):Q0 R:=fun r0 r1 r2 r3 r4 r5 r6 r7 r8 r9 r10 r11 r12 r13 r14 r15 r16 r17 r18 r19 r20 r21 r22=>κ [.nil,.vp 49 [.str r0,.int .i64 r1],.vp 31 [.str r2,.str r3,.str r4,.ro 95 r5 true,.bool r6,.str r7,.bool r8,.str r9,.bool r10,.str r11,.bool r12,.str r13,.ro 95 r14 true,.ro 9 r15 true,.bool r16,.str r17,.int .i64 r18,.int .i64 r19,.int .i64 r20,.int .i64 r21,.int .i64 r22,.nil]]
abbrev K1 {R:Type} (κ : KT R):Q1 R:=fun r0 r1 r2 r3 r4 r5 r6 r7 r8 r9 r10 r11 r12 r13 r14 r15 r16 r17 r18 r19 r20 r21 r22 r23=>κ [.fr 28 r0 true,.vp 49 [.str r1,.int .i64 r2],.vp 31 [.str r3,.str r4,.str r5,.ro 95 r6 true,.bool r7,.str r8,.bool r9,.str r10,.bool r11,.str r12,.bool r13,.str r14,.ro 95 r15 true,.ro 9 r16 true,.bool r17,.str r18,.int .i64 r19,.int .i64 r20,.int .i64 r21,.int .i64 r22,.int .i64 r23,.nil]]
section
variable (R:Type) (c1:br.F R) (c2:bc.F R)
def Γ (g:Nat) (xs:List SV) (κ : KT R):Option R :=
 match g with
 | 21=>(match xs with
  | [.vp 31 [.str a0,.str a1,.str a2,.ro 95 a3 true,.bool a4,.str a5,.bool a6,.str a7,.bool a8,.str a9,.bool a10,.str a11,.ro 95 a12 true,.ro 9 a13 true,.bool a14,.str a15,.int .i64 a16,.int .i64 a17,.int .i64 a18,.int .i64 a19,.int .i64 a20,.nil]]=>c1 a0 a1 a2 a3 a4 a5 a6 a7 a8 a9 a10 a11 a12 a13 a14 a15 a16 a17 a18 a19 a20 (br.K0 κ)
  | _=>none)
 | 49=>(match xs with
  | [.vp 49 [.str a0,.int .i64 a1],.agg [.int .i64 a2,.int .i64 a3],.str a4]=>c2 a0 a1 a2 a3 a4 (bc.K0 κ)
  | _=>none)
 | _=>none
def h (n:Nat):Option (List (Nat × List (Nat × Nat))) :=
 match n with
 | 8=>some [(0,[(0,0)]),(1,[(0,0)]),(51,[(0,0)]),(52,[(0,0)]),(53,[(0,0)])]
 | _=>none
def C:Cfg R:=⟨al bN,Γ R c1 c2,fun _=>false,h,0,fun _=>false⟩
noncomputable def S:=S0 (C R c1 c2) Tryd.f27 2
noncomputable def G:=G0 (C R c1 c2) Tryd.f27 2
def s8:=fun x0 x1 x2 x3 x4 x5 x6 x7 x8 x9 x10 x11 x12 x13 x14 x15 x16 x17 x18 x19 x20 x21 x22 x23 x24 x25=>(⟨eJ 81 [(0,.ptr 0 0),(1,.ptr 1 0),(51,.ro 95 x0 true),(52,.int .i64 x1),(53,.int .i64 x2)],[(1,.var 31 [.str x3,.str x4,.str x5,.ro 95 x6 true,.bool x7,.str x8,.bool x9,.str x10,.bool x11,.str x12,.bool x13,.str x14,.ro 95 x15 true,.ro 9 x16 true,.bool x17,.str x18,.int .i64 x19,.int .i64 x20,.int .i64 x21,.int .i64 x22,.int .i64 x23,.nil]),(0,.var 49 [.str x24,.int .i64 x25])],eH⟩:St)
noncomputable abbrev q8 {R:Type} (J:JT R):J8 R:=fun x0 x1 x2 x3 x4 x5 x6 x7 x8 x9 x10 x11 x12 x13 x14 x15 x16 x17 x18 x19 x20 x21 x22 x23 x24 x25=>J (placeOf Tryd.f27 8) (s8 x0 x1 x2 x3 x4 x5 x6 x7 x8 x9 x10 x11 x12 x13 x14 x15 x16 x17 x18 x19 x20 x21 x22 x23 x24 x25)
theorem k8 (J:JT R) (κ : KT R) (x0 x1 x2 x3 x4 x5 x6 x7 x8 x9 x10 x11 x12 x13 x14 x15 x16 x17 x18 x19 x20 x21 x22 x23 x24 x25:_):S R c1 c2 κ J 8 (s8 x0 x1 x2 x3 x4 x5 x6 x7 x8 x9 x10 x11 x12 x13 x14 x15 x16 x17 x18 x19 x20 x21 x22 x23 x24 x25)=t8 c2 (q8 J) (K0 κ) (K1 κ) x0 x1 x2 x3 x4 x5 x6 x7 x8 x9 x10 x11 x12 x13 x14 x15 x16 x17 x18 x19 x20 x21 x22 x23 x24 x25:=by kernel_rfl
theorem k (κ : KT R) (k:Nat) (a0 a1 a2 a3 a4 a5 a6 a7 a8 a9 a10 a11 a12 a13 a14 a15 a16 a17 a18 a19 a20 a21 a22:_):cv (C R c1 c2) Tryd.f27 10000 k [.vp 49 [.str a0,.int .i64 a1],.vp 31 [.str a2,.str a3,.str a4,.ro 95 a5 true,.bool a6,.str a7,.bool a8,.str a9,.bool a10,.str a11,.bool a12,.str a13,.ro 95 a14 true,.ro 9 a15 true,.bool a16,.str a17,.int .i64 a18,.int .i64 a19,.int .i64 a20,.int .i64 a21,.int .i64 a22,.nil]] κ = aA.e c1 c2 a0 a1 a2 a3 a4 a5 a6 a7 a8 a9 a10 a11 a12 a13 a14 a15 a16 a17 a18 a19 a20 a21 a22 (q8 (G R c1 c2 κ k)) (K0 κ) (K1 κ):=by kernel_rfl
theorem g8 (κ : KT R):∀ (f:Nat),q8 (G R c1 c2 κ f)=L8 c1 c2 (K0 κ) (K1 κ) f
 | 0=>rfl
 | f+1=>by
  funext x0 x1 x2 x3 x4 x5 x6 x7 x8 x9 x10 x11 x12 x13 x14 x15 x16 x17 x18 x19 x20 x21 x22 x23 x24 x25
  show S R c1 c2 κ (G R c1 c2 κ f) 8 _=_
  rw [k8,g8 κ f]
  rfl
end
theorem aj {R:Type} (tab:cb) (ht:aL tab) (g:Nat):bR (R:=R) Tryd.prog (al bN) tab g ((C R br bc).call g):=by
 refine aY fun xs κ => ?_
 show aa _ _ _ g xs κ (Γ R br bc g xs κ)
 unfold Γ
 split
 ·split
  ·exact br.aX tab ht _ _ _ _ _ _ _ _ _ _ _ _ _ _ _ _ _ _ _ _ _ κ
  ·exact aa.none
 ·split
  ·exact bc.aX tab ht _ _ _ _ _ κ
  ·exact aa.none
 ·exact aa.none
theorem aX {R:Type} (tab:cb) (ht:aL tab) (a0 a1 a2 a3 a4 a5 a6 a7 a8 a9 a10 a11 a12 a13 a14 a15 a16 a17 a18 a19 a20 a21 a22:_) (κ : KT R):aa Tryd.prog (al bN) tab 27 [.vp 49 [.str a0,.int .i64 a1],.vp 31 [.str a2,.str a3,.str a4,.ro 95 a5 true,.bool a6,.str a7,.bool a8,.str a9,.bool a10,.str a11,.bool a12,.str a13,.ro 95 a14 true,.ro 9 a15 true,.bool a16,.str a17,.int .i64 a18,.int .i64 a19,.int .i64 a20,.int .i64 a21,.int .i64 a22,.nil]] κ (aA a0 a1 a2 a3 a4 a5 a6 a7 a8 a9 a10 a11 a12 a13 a14 a15 a16 a17 a18 a19 a20 a21 a22 (K0 κ) (K1 κ)):=aw (C:=C R br bc) (fn:=Tryd.f27) cy (aj tab ht) (by kernel_rfl) (by kernel_rfl) (by rw [k];rw [g8 R br bc κ aH];rfl)
end aA
namespace cX
abbrev K0 {R:Type} (κ : KT R):BA->Option R:=fun r0=>κ [.str r0]
section
variable (R:Type)
def Γ (g:Nat) (xs:List SV) (κ : KT R):Option R :=
 match g with
 | _=>none
def h (n:Nat):Option (List (Nat × List (Nat × Nat))) :=
 match n with
 | _=>none
def C:Cfg R:=⟨al bN,Γ R,fun _=>false,h,0,fun _=>false⟩
theorem k (κ : KT R) (k:Nat) (a0:_):cv (C R) Tryd.f97 10000 k [.int .i64 a0] κ = cX.e a0 (K0 κ):=by kernel_rfl
end
theorem aj {R:Type} (tab:cb) (ht:aL tab) (g:Nat):bR (R:=R) Tryd.prog (al bN) tab g ((C R).call g):=by
 refine aY fun xs κ => ?_
 show aa _ _ _ g xs κ (Γ R g xs κ)
 unfold Γ
 split
 ·exact aa.none
theorem aX {R:Type} (tab:cb) (ht:aL tab) (a0:_) (κ : KT R):aa Tryd.prog (al bN) tab 97 [.int .i64 a0] κ (cX a0 (K0 κ)):=aw (C:=C R) (fn:=Tryd.f97) cy (aj tab ht) (by kernel_rfl) (by kernel_rfl) (by rw [k];rfl)
end cX
namespace ch
abbrev K0 {R:Type} (κ : KT R):BA->Option R:=fun r0=>κ [.str r0]
section
variable (R:Type) (c1:cX.F R)
def Γ (g:Nat) (xs:List SV) (κ : KT R):Option R :=
 match g with
 | 97=>(match xs with
  | [.int .i64 a0]=>c1 a0 (cX.K0 κ)
  | _=>none)
 | _=>none
def h (n:Nat):Option (List (Nat × List (Nat × Nat))) :=
 match n with
 | _=>none
def C:Cfg R:=⟨al bN,Γ R c1,fun _=>false,h,0,fun _=>false⟩
theorem k (κ : KT R) (k:Nat) (a0 a1:_):cv (C R c1) Tryd.f90 10000 k [.int .i64 a0,.int .i64 a1] κ = ch.e c1 a0 a1 (K0 κ):=by kernel_rfl
end
theorem aj {R:Type} (tab:cb) (ht:aL tab) (g:Nat):bR (R:=R) Tryd.prog (al bN) tab g ((C R cX).call g):=by
 refine aY fun xs κ => ?_
 show aa _ _ _ g xs κ (Γ R cX g xs κ)
 unfold Γ
 split
 ·split
  ·exact cX.aX tab ht _ κ
  ·exact aa.none
 ·exact aa.none
theorem aX {R:Type} (tab:cb) (ht:aL tab) (a0 a1:_) (κ : KT R):aa Tryd.prog (al bN) tab 90 [.int .i64 a0,.int .i64 a1] κ (ch a0 a1 (K0 κ)):=aw (C:=C R cX) (fn:=Tryd.f90) cy (aj tab ht) (by kernel_rfl) (by kernel_rfl) (by rw [k];rfl)
end ch
namespace dk
abbrev K0 {R:Type} (κ : KT R):BA->Option R:=fun r0=>κ [.str r0]
section
variable (R:Type) (c1:ch.F R)
def Γ (g:Nat) (xs:List SV) (κ : KT R):Option R :=
 match g with
 | 90=>(match xs with
  | [.int .i64 a0,.int .i64 a1]=>c1 a0 a1 (ch.K0 κ)
  | _=>none)
 | _=>none
def h (n:Nat):Option (List (Nat × List (Nat × Nat))) :=
 match n with
 | _=>none
def C:Cfg R:=⟨al bN,Γ R c1,fun _=>false,h,0,fun _=>false⟩
theorem k (κ : KT R) (k:Nat) (a0:_):cv (C R c1) Tryd.f75 10000 k [.int .i64 a0] κ = dk.e c1 a0 (K0 κ):=by kernel_rfl
end
theorem aj {R:Type} (tab:cb) (ht:aL tab) (g:Nat):bR (R:=R) Tryd.prog (al bN) tab g ((C R ch).call g):=by
 refine aY fun xs κ => ?_
 show aa _ _ _ g xs κ (Γ R ch g xs κ)
 unfold Γ
 split
 ·split
  ·exact ch.aX tab ht _ _ κ
  ·exact aa.none
 ·exact aa.none
theorem aX {R:Type} (tab:cb) (ht:aL tab) (a0:_) (κ : KT R):aa Tryd.prog (al bN) tab 75 [.int .i64 a0] κ (dk a0 (K0 κ)):=aw (C:=C R ch) (fn:=Tryd.f75) cy (aj tab ht) (by kernel_rfl) (by kernel_rfl) (by rw [k];rfl)
end dk
namespace bT
abbrev K0 {R:Type} (κ : KT R):BA->Option R:=fun r0=>κ [.str r0]
section
variable (R:Type) (c1:dk.F R)
def Γ (g:Nat) (xs:List SV) (κ : KT R):Option R :=
 match g with
 | 75=>(match xs with
  | [.int .i64 a0]=>c1 a0 (dk.K0 κ)
  | _=>none)
 | _=>none
def h (n:Nat):Option (List (Nat × List (Nat × Nat))) :=
 match n with
 | _=>none
def C:Cfg R:=⟨al bN,Γ R c1,fun _=>false,h,0,fun _=>false⟩
theorem k (κ : KT R) (k:Nat) (a0:_):cv (C R c1) Tryd.f50 10000 k [.int .i64 a0] κ = bT.e c1 a0 (K0 κ):=by kernel_rfl
end
theorem aj {R:Type} (tab:cb) (ht:aL tab) (g:Nat):bR (R:=R) Tryd.prog (al bN) tab g ((C R dk).call g):=by
 refine aY fun xs κ => ?_
 show aa _ _ _ g xs κ (Γ R dk g xs κ)
 unfold Γ
 split
 ·split
  ·exact dk.aX tab ht _ κ
  ·exact aa.none
 ·exact aa.none
theorem aX {R:Type} (tab:cb) (ht:aL tab) (a0:_) (κ : KT R):aa Tryd.prog (al bN) tab 50 [.int .i64 a0] κ (bT a0 (K0 κ)):=aw (C:=C R dk) (fn:=Tryd.f50) cy (aj tab ht) (by kernel_rfl) (by kernel_rfl) (by rw [k];rfl)
end bT
namespace aN
abbrev K0 {R:Type} (κ : KT R):Int->Option R:=fun r0=>κ [.int .i64 r0]
section
variable (R:Type)
def Γ (g:Nat) (xs:List SV) (κ : KT R):Option R :=
 match g with
 | _=>none
def h (n:Nat):Option (List (Nat × List (Nat × Nat))) :=
 match n with
 | 2=>some [(2,[(0,0)]),(4,[(0,0)])]
 | _=>none
def C:Cfg R:=⟨al bN,Γ R,fun _=>false,h,0,fun _=>false⟩
noncomputable def S:=S0 (C R) Tryd.f51 0
noncomputable def G:=G0 (C R) Tryd.f51 0
def s2:=fun x0 x1 x2=>(⟨eJ 10 [(2,.int .i64 x0),(4,.ptr 383 0)],[(383,.sit x1 x2)],eH⟩:St)
noncomputable abbrev q2 {R:Type} (J:JT R):J2 R:=fun x0 x1 x2=>J (placeOf Tryd.f51 2) (s2 x0 x1 x2)
theorem k2 (J:JT R) (κ : KT R) (x0 x1 x2:_):S R κ J 2 (s2 x0 x1 x2)=t2 (q2 J) (K0 κ) x0 x1 x2:=by kernel_rfl
theorem k (κ : KT R) (k:Nat) (a0:_):cv (C R) Tryd.f51 10000 k [.str a0] κ = aN.e a0 (q2 (G R κ k)) (K0 κ):=by kernel_rfl
theorem g2 (κ : KT R):∀ (f:Nat),q2 (G R κ f)=L2 (K0 κ) f
 | 0=>rfl
 | f+1=>by
  funext x0 x1 x2
  show S R κ (G R κ f) 2 _=_
  rw [k2,g2 κ f]
  rfl
end
theorem aj {R:Type} (tab:cb) (ht:aL tab) (g:Nat):bR (R:=R) Tryd.prog (al bN) tab g ((C R).call g):=by
 refine aY fun xs κ => ?_
 show aa _ _ _ g xs κ (Γ R g xs κ)
 unfold Γ
 split
 ·exact aa.none
theorem aX {R:Type} (tab:cb) (ht:aL tab) (a0:_) (κ : KT R):aa Tryd.prog (al bN) tab 51 [.str a0] κ (aN a0 (K0 κ)):=aw (C:=C R) (fn:=Tryd.f51) cy (aj tab ht) (by kernel_rfl) (by kernel_rfl) (by rw [k];rw [g2 R κ aH];rfl)
end aN
end Go.Proofs.Ab
