/- Each plain function is what a call of its Go function does, checked by the kernel (no condition but what its checks ask). -/
import Derived.Test.YtneffefnlogkaaaGreatDoorSeat
import Derived.Test.YtneffefnlogkaaaGreatDoorText
set_option linter.unusedVariables false
set_option linter.unusedSimpArgs false
set_option maxRecDepth 4000
namespace Go.Proofs.Ab
open Go Go.Proofs
set_option maxRecDepth 100000
abbrev KT (R:Type):Type:=List SV->Option R
abbrev JT (R:Type):Type:=List Item->St->Option R
noncomputable def S0 {R:Type} (C:Cfg R) (F:Func) (n:Nat) (κ : KT R) (J:JT R) (i:Nat) (s:St):Option R:=start C J (qD C F.results.toList (List.range n) κ) 10000 (placeOf F i) s
noncomputable def G0 {R:Type} (C:Cfg R) (F:Func) (n:Nat) (κ : KT R) (f:Nat) (p:List Item) (s:St):Option R:=goto C (qD C F.results.toList (List.range n) κ) 10000 f p s
theorem ah {R:Type} {P:Program} {C:Cfg R} {fn:Func} {tab:bZ} (hP:Ok P C.ty) (hD:∀ g,bM P C.ty tab g (C.call g)) {g:Nat} (hf:P.funcs[g]? = some fn) (hn:(fn.name == "runtime.NumGoroutine")=false) {xs:List SV} {κ : KT R} {X:Option R} (h:cr C fn 10000 ag xs κ = X):aa P C.ty tab g xs κ X:=by
 intro r e w vs Rt Ra bs hpre
 exact xK hP hD hf hn (h.trans e) hpre
namespace bU
abbrev K0 {R:Type} (κ : KT R):Bool->Option R:=fun f=>κ [.bool f]
section
variable (R:Type)
def Γ (g:Nat) (xs:List SV) (κ : KT R):Option R :=
 match g with
 | _=>none
def h (n:Nat):Option (List (Nat × List (Nat × Nat))) :=
 match n with
 | _=>none
def C:Cfg R:=⟨af bm,Γ R,fun _=>false,h,0,fun _=>false⟩
theorem k (κ : KT R) (k:Nat) (a0 a1:_):cr (C R) Tryz.f173 10000 k [.str a0,.str a1] κ = bU.e a0 a1 (K0 κ):=by kernel_rfl
end
theorem ae {R:Type} (tab:bZ) (f:aq tab) (g:Nat):bM (R:=R) Tryz.prog (af bm) tab g ((C R).call g):=by
 refine aF fun xs κ => ?_
 show aa _ _ _ g xs κ (Γ R g xs κ)
 unfold Γ
 split
 ·exact aa.none
theorem aG {R:Type} (tab:bZ) (f:aq tab) (a0 a1:_) (κ : KT R):aa Tryz.prog (af bm) tab 173 [.str a0,.str a1] κ (bU a0 a1 (K0 κ)):=ah (C:=C R) (fn:=Tryz.f173) cz (ae tab f) (by kernel_rfl) (by kernel_rfl) (by rw [k];rfl)
end bU
namespace ba
abbrev K0 {R:Type} (κ : KT R):Bool->Option R:=fun f=>κ [.bool f]
section
variable (R:Type) (c1:bU.F R)
def Γ (g:Nat) (xs:List SV) (κ : KT R):Option R :=
 match g with
 | 173=>(match xs with
  | [.str a0,.str a1]=>c1 a0 a1 (bU.K0 κ)
  | _=>none)
 | _=>none
def h (n:Nat):Option (List (Nat × List (Nat × Nat))) :=
 match n with
 | _=>none
def C:Cfg R:=⟨af bm,Γ R c1,fun _=>false,h,0,fun _=>false⟩
theorem k (κ : KT R) (k:Nat) (a0 a1:_):cr (C R c1) Tryz.f127 10000 k [.str a0,.str a1] κ = ba.e c1 a0 a1 (K0 κ):=by kernel_rfl
end
theorem ae {R:Type} (tab:bZ) (f:aq tab) (g:Nat):bM (R:=R) Tryz.prog (af bm) tab g ((C R bU).call g):=by
 refine aF fun xs κ => ?_
 show aa _ _ _ g xs κ (Γ R bU g xs κ)
 unfold Γ
 split
 ·split
  ·exact bU.aG tab f _ _ κ
  ·exact aa.none
 ·exact aa.none
theorem aG {R:Type} (tab:bZ) (f:aq tab) (a0 a1:_) (κ : KT R):aa Tryz.prog (af bm) tab 127 [.str a0,.str a1] κ (ba a0 a1 (K0 κ)):=ah (C:=C R bU) (fn:=Tryz.f127) cz (ae tab f) (by kernel_rfl) (by kernel_rfl) (by rw [k];rfl)
end ba
theorem de.aG {R:Type} (tab:bZ) (j:aq tab) (a0:BA) (a1:Int) (κ : List SV->Option R):aa Tryz.prog (af bm) tab 192 [.str a0,.int .u8 a1] κ (de a0 a1 (fun f=>κ [.int .i64 f])) :=
 jV (show Tryz.prog.funcs[192]? = some Tryz.f192 by kernel_rfl) (by kernel_rfl) (by kernel_rfl) (by kernel_rfl) (by kernel_rfl) a0 a1 κ
namespace ck
abbrev K0 {R:Type} (κ : KT R):Int->Option R:=fun f=>κ [.int .i64 f]
section
variable (R:Type) (c1:de.F R)
def Γ (g:Nat) (xs:List SV) (κ : KT R):Option R :=
 match g with
 | 192=>(match xs with
  | [.str a0,.int .u8 a1]=>c1 a0 a1 (fun f=>κ [.int .i64 f])
  | _=>none)
 | _=>none
def h (n:Nat):Option (List (Nat × List (Nat × Nat))) :=
 match n with
 | _=>none
def C:Cfg R:=⟨af bm,Γ R c1,fun _=>false,h,0,fun _=>false⟩
theorem k (κ : KT R) (k:Nat) (a0 a1:_):cr (C R c1) Tryz.f164 10000 k [.str a0,.int .u8 a1] κ = ck.e c1 a0 a1 (K0 κ):=by kernel_rfl
end
theorem ae {R:Type} (tab:bZ) (f:aq tab) (g:Nat):bM (R:=R) Tryz.prog (af bm) tab g ((C R de).call g):=by
 refine aF fun xs κ => ?_
 show aa _ _ _ g xs κ (Γ R de g xs κ)
 unfold Γ
 split
 ·split
  ·exact de.aG tab f _ _ κ
  ·exact aa.none
 ·exact aa.none
theorem aG {R:Type} (tab:bZ) (f:aq tab) (a0 a1:_) (κ : KT R):aa Tryz.prog (af bm) tab 164 [.str a0,.int .u8 a1] κ (ck a0 a1 (K0 κ)):=ah (C:=C R de) (fn:=Tryz.f164) cz (ae tab f) (by kernel_rfl) (by kernel_rfl) (by rw [k];rfl)
end ck
theorem dZ.one (c:UInt8):∀ l:List UInt8,Lib.index l [c]=Lib.indexByte l c
 | []=>rfl
 | b::l=>by
  rw [Lib.index,Lib.indexByte,dZ.one c l]
  simp [List.isPrefixOf,Bool.beq_comm (a:=c)]
namespace dZ
section
variable (R:Type) (c1:ck.F R)
def Γ (g:Nat) (xs:List SV) (κ : KT R):Option R :=
 match g with
 | 164=>(match xs with
  | [.str a0,.int .u8 a1]=>c1 a0 a1 (ck.K0 κ)
  | _=>none)
 | _=>none
def C:Cfg R:=⟨af bm,Γ R c1,fun _=>false,fun _=>none,0,fun _=>false⟩
theorem k (κ : KT R) (k:Nat) (a0:BA):cr (C R c1) Tryz.f174 10000 k [.str a0,.str ⟨#[46]⟩] κ = (bif decide ((⟨#[46]⟩:BA)=a0) then κ [.int .i64 0] else c1 a0 46 (fun r=>κ [.int .i64 r])):=by kernel_rfl
end
theorem ae {R:Type} (tab:bZ) (f:aq tab) (g:Nat):bM (R:=R) Tryz.prog (af bm) tab g ((C R ck).call g):=by
 refine aF fun xs κ => ?_
 show aa _ _ _ g xs κ (Γ R ck g xs κ)
 unfold Γ
 split
 ·split
  ·exact ck.aG tab f _ _ κ
  ·exact aa.none
 ·exact aa.none
theorem H9 {R:Type} (tab:bZ) (j:aq tab) (a0:BA) (h:¬ a0.size<4294967281) (κ : KT R):aa Tryz.prog (af bm) tab 174 [.str a0,.str ⟨#[46]⟩] κ (κ [.int .i64 (Lib.index a0.data.toList [46])]) :=
 ah (C:=C R ck) (fn:=Tryz.f174) cz (ae tab j) (by kernel_rfl) (by kernel_rfl) (by
  have f:¬ (⟨#[46]⟩:BA)=a0:=fun e=>by subst e;exact h (by decide)
  rw [k,decide_eq_false f,cond_false,one];rfl)
end dZ
theorem dZ.aG {R:Type} (tab:bZ) (f:aq tab) (a0 a1:BA) (κ : List SV->Option R):aa Tryz.prog (af bm) tab 174 [.str a0,.str a1] κ (dZ a0 a1 (fun u=>κ [.int .i64 u])):=by
 refine Bg fun h => ?_
 by_cases j:a0.size<4294967281
 ·obtain ⟨m,cs,t,z,f,hm⟩:=f
  exact xP Tryz.call174 a0 a1 (.int .i64 _) (fun w hw=>Any.stringslite_Index Tryz.DQ a0 a1 m w j (CO hm (hw _ _ f))) (fun c=>yW) κ
 ·obtain rfl:a1=⟨#[46]⟩:=(of_decide_eq_true h).resolve_left j
  exact dZ.H9 tab f a0 j κ
namespace aL
abbrev K0 {R:Type} (κ : KT R):Int->Option R:=fun f=>κ [.int .i64 f]
section
variable (R:Type) (c1:dZ.F R)
def Γ (g:Nat) (xs:List SV) (κ : KT R):Option R :=
 match g with
 | 174=>(match xs with
  | [.str a0,.str a1]=>c1 a0 a1 (fun f=>κ [.int .i64 f])
  | _=>none)
 | _=>none
def h (n:Nat):Option (List (Nat × List (Nat × Nat))) :=
 match n with
 | _=>none
def C:Cfg R:=⟨af bm,Γ R c1,fun _=>false,h,0,fun _=>false⟩
theorem k (κ : KT R) (k:Nat) (a0 a1:_):cr (C R c1) Tryz.f128 10000 k [.str a0,.str a1] κ = aL.e c1 a0 a1 (K0 κ):=by kernel_rfl
end
theorem ae {R:Type} (tab:bZ) (f:aq tab) (g:Nat):bM (R:=R) Tryz.prog (af bm) tab g ((C R dZ).call g):=by
 refine aF fun xs κ => ?_
 show aa _ _ _ g xs κ (Γ R dZ g xs κ)
 unfold Γ
 split
 ·split
  ·exact dZ.aG tab f _ _ κ
  ·exact aa.none
 ·exact aa.none
theorem aG {R:Type} (tab:bZ) (f:aq tab) (a0 a1:_) (κ : KT R):aa Tryz.prog (af bm) tab 128 [.str a0,.str a1] κ (aL a0 a1 (K0 κ)):=ah (C:=C R dZ) (fn:=Tryz.f128) cz (ae tab f) (by kernel_rfl) (by kernel_rfl) (by rw [k];rfl)
end aL
namespace dK
abbrev K0 {R:Type} (κ : KT R):BA->BA->Option R:=fun f j=>κ [.tup [.str f,.str j]]
section
variable (R:Type) (c1:ba.F R) (c2:aL.F R)
def Γ (g:Nat) (xs:List SV) (κ : KT R):Option R :=
 match g with
 | 127=>(match xs with
  | [.str a0,.str a1]=>c1 a0 a1 (ba.K0 κ)
  | _=>none)
 | 128=>(match xs with
  | [.str a0,.str a1]=>c2 a0 a1 (aL.K0 κ)
  | _=>none)
 | _=>none
def h (n:Nat):Option (List (Nat × List (Nat × Nat))) :=
 match n with
 | _=>none
def C:Cfg R:=⟨af bm,Γ R c1 c2,fun _=>false,h,0,fun _=>false⟩
theorem k (κ : KT R) (k:Nat) (a0:_):cr (C R c1 c2) Tryz.f89 10000 k [.str a0] κ = dK.e c1 c2 a0 (K0 κ):=by kernel_rfl
end
theorem ae {R:Type} (tab:bZ) (f:aq tab) (g:Nat):bM (R:=R) Tryz.prog (af bm) tab g ((C R ba aL).call g):=by
 refine aF fun xs κ => ?_
 show aa _ _ _ g xs κ (Γ R ba aL g xs κ)
 unfold Γ
 split
 ·split
  ·exact ba.aG tab f _ _ κ
  ·exact aa.none
 ·split
  ·exact aL.aG tab f _ _ κ
  ·exact aa.none
 ·exact aa.none
theorem aG {R:Type} (tab:bZ) (f:aq tab) (a0:_) (κ : KT R):aa Tryz.prog (af bm) tab 89 [.str a0] κ (dK a0 (K0 κ)):=ah (C:=C R ba aL) (fn:=Tryz.f89) cz (ae tab f) (by kernel_rfl) (by kernel_rfl) (by rw [k];rfl)
end dK
namespace aX
abbrev K0 {R:Type} (κ : KT R):Bool->Option R:=fun f=>κ [.bool f]
section
variable (R:Type)
def Γ (g:Nat) (xs:List SV) (κ : KT R):Option R :=
 match g with
 | _=>none
def h (n:Nat):Option (List (Nat × List (Nat × Nat))) :=
 match n with
 | _=>none
def C:Cfg R:=⟨af bm,Γ R,fun _=>false,h,0,fun _=>false⟩
theorem k (κ : KT R) (k:Nat) (a0:_):cr (C R) Tryz.f149 10000 k [.int .u8 a0] κ = aX.e a0 (K0 κ):=by kernel_rfl
end
theorem ae {R:Type} (tab:bZ) (f:aq tab) (g:Nat):bM (R:=R) Tryz.prog (af bm) tab g ((C R).call g):=by
 refine aF fun xs κ => ?_
 show aa _ _ _ g xs κ (Γ R g xs κ)
 unfold Γ
 split
 ·exact aa.none
theorem aG {R:Type} (tab:bZ) (f:aq tab) (a0:_) (κ : KT R):aa Tryz.prog (af bm) tab 149 [.int .u8 a0] κ (aX a0 (K0 κ)):=ah (C:=C R) (fn:=Tryz.f149) cz (ae tab f) (by kernel_rfl) (by kernel_rfl) (by rw [k];rfl)
end aX
namespace bQ
abbrev K0 {R:Type} (κ : KT R):BA->Bool->Option R:=fun f j=>κ [.tup [.str f,.bool j]]
section
variable (R:Type) (c1:aX.F R)
def Γ (g:Nat) (xs:List SV) (κ : KT R):Option R :=
 match g with
 | 149=>(match xs with
  | [.int .u8 a0]=>c1 a0 (aX.K0 κ)
  | _=>none)
 | _=>none
def h (n:Nat):Option (List (Nat × List (Nat × Nat))) :=
 match n with
 | 2=>some [(0,[(0,0)]),(4,[(0,0)])]
 | 5=>some [(0,[(0,0)]),(4,[(0,0)]),(5,[(0,0)])]
 | _=>none
def C:Cfg R:=⟨af bm,Γ R c1,fun _=>false,h,0,fun _=>false⟩
noncomputable def S:=S0 (C R c1) Tryz.f150 0
noncomputable def G:=G0 (C R c1) Tryz.f150 0
def s2:=fun x0 f=>(⟨er 60 [(0,.str x0),(4,.int .i64 f)],[],eo⟩:St)
def s5:=fun x0 f j=>(⟨er 60 [(0,.str x0),(4,.int .i64 f),(5,.str j)],[],eo⟩:St)
noncomputable abbrev q2 {R:Type} (J:JT R):BA->Int->Option R:=fun x0 f=>J (placeOf Tryz.f150 2) (s2 x0 f)
noncomputable abbrev q5 {R:Type} (J:JT R):J5 R:=fun x0 f j=>J (placeOf Tryz.f150 5) (s5 x0 f j)
theorem k2 (J:JT R) (κ : KT R) (x0 f:_):S R c1 κ J 2 (s2 x0 f)=t2 (q2 J) (q5 J) x0 f:=by kernel_rfl
theorem k5 (J:JT R) (κ : KT R) (x0 f j:_):S R c1 κ J 5 (s5 x0 f j)=t5 c1 (q5 J) (K0 κ) x0 f j:=by kernel_rfl
theorem k (κ : KT R) (k:Nat) (a0:_):cr (C R c1) Tryz.f150 10000 k [.str a0] κ = bQ.e c1 a0 (q2 (G R c1 κ k)) (q5 (G R c1 κ k)) (K0 κ):=by kernel_rfl
theorem g5 (κ : KT R):∀ (f:Nat),q5 (G R c1 κ f)=L5 c1 (K0 κ) f
 | 0=>rfl
 | f+1=>by
  funext x0 j m
  show S R c1 κ (G R c1 κ f) 5 _=_
  rw [k5,g5 κ f]
  rfl
theorem g2 (κ : KT R):∀ (f:Nat),q2 (G R c1 κ f)=L2 c1 (K0 κ) f
 | 0=>rfl
 | f+1=>by
  funext x0 j
  show S R c1 κ (G R c1 κ f) 2 _=_
  rw [k2,g2 κ f,g5 R c1 κ f]
  rfl
end
theorem ae {R:Type} (tab:bZ) (f:aq tab) (g:Nat):bM (R:=R) Tryz.prog (af bm) tab g ((C R aX).call g):=by
 refine aF fun xs κ => ?_
 show aa _ _ _ g xs κ (Γ R aX g xs κ)
 unfold Γ
 split
 ·split
  ·exact aX.aG tab f _ κ
  ·exact aa.none
 ·exact aa.none
theorem aG {R:Type} (tab:bZ) (f:aq tab) (a0:_) (κ : KT R):aa Tryz.prog (af bm) tab 150 [.str a0] κ (bQ a0 (K0 κ)):=ah (C:=C R aX) (fn:=Tryz.f150) cz (ae tab f) (by kernel_rfl) (by kernel_rfl) (by rw [k];rw [g2 R aX κ ag,g5 R aX κ ag];rfl)
end bQ
namespace cg
abbrev K0 {R:Type} (κ : KT R):LA->Option R:=fun f=>κ [.fr 161 f true]
section
variable (R:Type) (c1:ba.F R) (c2:aL.F R) (c3:aX.F R) (c4:bQ.F R)
def Γ (g:Nat) (xs:List SV) (κ : KT R):Option R :=
 match g with
 | 127=>(match xs with
  | [.str a0,.str a1]=>c1 a0 a1 (ba.K0 κ)
  | _=>none)
 | 128=>(match xs with
  | [.str a0,.str a1]=>c2 a0 a1 (aL.K0 κ)
  | _=>none)
 | 149=>(match xs with
  | [.int .u8 a0]=>c3 a0 (aX.K0 κ)
  | _=>none)
 | 150=>(match xs with
  | [.str a0]=>c4 a0 (bQ.K0 κ)
  | _=>none)
 | _=>none
def h (n:Nat):Option (List (Nat × List (Nat × Nat))) :=
 match n with
 | 3=>some [(0,[(0,0)]),(3,[(0,163)]),(4,[(0,0)]),(5,[(0,0)])]
 | _=>none
def C:Cfg R:=⟨af bm,Γ R c1 c2 c3 c4,fun _=>false,h,0,fun _=>false⟩
noncomputable def S:=S0 (C R c1 c2 c3 c4) Tryz.f110 0
noncomputable def G:=G0 (C R c1 c2 c3 c4) Tryz.f110 0
def s3:=fun x0 f j m=>(⟨er 52 [(0,.str x0),(3,.own 256),(4,.bool f),(5,.str j)],[(256,.row 161 m true)],eo⟩:St)
noncomputable abbrev q3 {R:Type} (J:JT R):J3 R:=fun x0 f j m=>J (placeOf Tryz.f110 3) (s3 x0 f j m)
theorem k3 (J:JT R) (κ : KT R) (x0 f j m:_):S R c1 c2 c3 c4 κ J 3 (s3 x0 f j m)=t3 c1 c2 c3 c4 (q3 J) (K0 κ) x0 f j m:=by kernel_rfl
theorem k (κ : KT R) (k:Nat) (a0:_):cr (C R c1 c2 c3 c4) Tryz.f110 10000 k [.str a0] κ = cg.e c1 c2 c3 c4 a0 (q3 (G R c1 c2 c3 c4 κ k)) (K0 κ):=by kernel_rfl
theorem g3 (κ : KT R):∀ (f:Nat),q3 (G R c1 c2 c3 c4 κ f)=L3 c1 c2 c3 c4 (K0 κ) f
 | 0=>rfl
 | f+1=>by
  funext x0 j m u
  show S R c1 c2 c3 c4 κ (G R c1 c2 c3 c4 κ f) 3 _=_
  rw [k3,g3 κ f]
  rfl
end
theorem ae {R:Type} (tab:bZ) (f:aq tab) (g:Nat):bM (R:=R) Tryz.prog (af bm) tab g ((C R ba aL aX bQ).call g):=by
 refine aF fun xs κ => ?_
 show aa _ _ _ g xs κ (Γ R ba aL aX bQ g xs κ)
 unfold Γ
 split
 ·split
  ·exact ba.aG tab f _ _ κ
  ·exact aa.none
 ·split
  ·exact aL.aG tab f _ _ κ
  ·exact aa.none
 ·split
  ·exact aX.aG tab f _ κ
  ·exact aa.none
 ·split
  ·exact bQ.aG tab f _ κ
  ·exact aa.none
 ·exact aa.none
theorem aG {R:Type} (tab:bZ) (f:aq tab) (a0:_) (κ : KT R):aa Tryz.prog (af bm) tab 110 [.str a0] κ (cg a0 (K0 κ)):=ah (C:=C R ba aL aX bQ) (fn:=Tryz.f110) cz (ae tab f) (by kernel_rfl) (by kernel_rfl) (by rw [k];rw [g3 R ba aL aX bQ κ ag];rfl)
end cg
namespace cO
abbrev K0 {R:Type} (κ : KT R):Bool->Option R:=fun f=>κ [.bool f]
section
variable (R:Type)
def Γ (g:Nat) (xs:List SV) (κ : KT R):Option R :=
 match g with
 | _=>none
def h (n:Nat):Option (List (Nat × List (Nat × Nat))) :=
 match n with
 | _=>none
def C:Cfg R:=⟨af bm,Γ R,fun _=>false,h,0,fun _=>false⟩
theorem k (κ : KT R) (k:Nat) (a0 a1:_):cr (C R) Tryz.f153 10000 k [.str a0,.str a1] κ = cO.e a0 a1 (K0 κ):=by kernel_rfl
end
theorem ae {R:Type} (tab:bZ) (f:aq tab) (g:Nat):bM (R:=R) Tryz.prog (af bm) tab g ((C R).call g):=by
 refine aF fun xs κ => ?_
 show aa _ _ _ g xs κ (Γ R g xs κ)
 unfold Γ
 split
 ·exact aa.none
theorem aG {R:Type} (tab:bZ) (f:aq tab) (a0 a1:_) (κ : KT R):aa Tryz.prog (af bm) tab 153 [.str a0,.str a1] κ (cO a0 a1 (K0 κ)):=ah (C:=C R) (fn:=Tryz.f153) cz (ae tab f) (by kernel_rfl) (by kernel_rfl) (by rw [k];rfl)
end cO
namespace cD
abbrev K0 {R:Type} (κ : KT R):BA->Option R:=fun f=>κ [.str f]
section
variable (R:Type) (c1:cO.F R)
def Γ (g:Nat) (xs:List SV) (κ : KT R):Option R :=
 match g with
 | 153=>(match xs with
  | [.str a0,.str a1]=>c1 a0 a1 (cO.K0 κ)
  | _=>none)
 | _=>none
def h (n:Nat):Option (List (Nat × List (Nat × Nat))) :=
 match n with
 | _=>none
def C:Cfg R:=⟨af bm,Γ R c1,fun _=>false,h,0,fun _=>false⟩
theorem k (κ : KT R) (k:Nat) (a0 a1:_):cr (C R c1) Tryz.f163 10000 k [.str a0,.str a1] κ = cD.e c1 a0 a1 (K0 κ):=by kernel_rfl
end
theorem ae {R:Type} (tab:bZ) (f:aq tab) (g:Nat):bM (R:=R) Tryz.prog (af bm) tab g ((C R cO).call g):=by
 refine aF fun xs κ => ?_
 show aa _ _ _ g xs κ (Γ R cO g xs κ)
 unfold Γ
 split
 ·split
  ·exact cO.aG tab f _ _ κ
  ·exact aa.none
 ·exact aa.none
theorem aG {R:Type} (tab:bZ) (f:aq tab) (a0 a1:_) (κ : KT R):aa Tryz.prog (af bm) tab 163 [.str a0,.str a1] κ (cD a0 a1 (K0 κ)):=ah (C:=C R cO) (fn:=Tryz.f163) cz (ae tab f) (by kernel_rfl) (by kernel_rfl) (by rw [k];rfl)
end cD
namespace aN
abbrev K0 {R:Type} (κ : KT R):BA->Option R:=fun f=>κ [.str f]
section
variable (R:Type) (c1:cD.F R)
def Γ (g:Nat) (xs:List SV) (κ : KT R):Option R :=
 match g with
 | 163=>(match xs with
  | [.str a0,.str a1]=>c1 a0 a1 (cD.K0 κ)
  | _=>none)
 | _=>none
def h (n:Nat):Option (List (Nat × List (Nat × Nat))) :=
 match n with
 | _=>none
def C:Cfg R:=⟨af bm,Γ R c1,fun _=>false,h,0,fun _=>false⟩
theorem k (κ : KT R) (k:Nat) (a0 a1:_):cr (C R c1) Tryz.f122 10000 k [.str a0,.str a1] κ = aN.e c1 a0 a1 (K0 κ):=by kernel_rfl
end
theorem ae {R:Type} (tab:bZ) (f:aq tab) (g:Nat):bM (R:=R) Tryz.prog (af bm) tab g ((C R cD).call g):=by
 refine aF fun xs κ => ?_
 show aa _ _ _ g xs κ (Γ R cD g xs κ)
 unfold Γ
 split
 ·split
  ·exact cD.aG tab f _ _ κ
  ·exact aa.none
 ·exact aa.none
theorem aG {R:Type} (tab:bZ) (f:aq tab) (a0 a1:_) (κ : KT R):aa Tryz.prog (af bm) tab 122 [.str a0,.str a1] κ (aN a0 a1 (K0 κ)):=ah (C:=C R cD) (fn:=Tryz.f122) cz (ae tab f) (by kernel_rfl) (by kernel_rfl) (by rw [k];rfl)
end aN
namespace aB
abbrev K0 {R:Type} (κ : KT R):Int->Option R:=fun f=>κ [.int .i64 f]
section
variable (R:Type) (c1:ck.F R)
def Γ (g:Nat) (xs:List SV) (κ : KT R):Option R :=
 match g with
 | 164=>(match xs with
  | [.str a0,.int .u8 a1]=>c1 a0 a1 (ck.K0 κ)
  | _=>none)
 | _=>none
def h (n:Nat):Option (List (Nat × List (Nat × Nat))) :=
 match n with
 | _=>none
def C:Cfg R:=⟨af bm,Γ R c1,fun _=>false,h,0,fun _=>false⟩
theorem k (κ : KT R) (k:Nat) (a0 a1:_):cr (C R c1) Tryz.f123 10000 k [.str a0,.int .u8 a1] κ = aB.e c1 a0 a1 (K0 κ):=by kernel_rfl
end
theorem ae {R:Type} (tab:bZ) (f:aq tab) (g:Nat):bM (R:=R) Tryz.prog (af bm) tab g ((C R ck).call g):=by
 refine aF fun xs κ => ?_
 show aa _ _ _ g xs κ (Γ R ck g xs κ)
 unfold Γ
 split
 ·split
  ·exact ck.aG tab f _ _ κ
  ·exact aa.none
 ·exact aa.none
theorem aG {R:Type} (tab:bZ) (f:aq tab) (a0 a1:_) (κ : KT R):aa Tryz.prog (af bm) tab 123 [.str a0,.int .u8 a1] κ (aB a0 a1 (K0 κ)):=ah (C:=C R ck) (fn:=Tryz.f123) cz (ae tab f) (by kernel_rfl) (by kernel_rfl) (by rw [k];rfl)
end aB
namespace b6
abbrev K0 {R:Type} (κ : KT R):BA->Option R:=fun f=>κ [.str f]
section
variable (R:Type)
def Γ (g:Nat) (xs:List SV) (κ : KT R):Option R :=
 match g with
 | _=>none
def h (n:Nat):Option (List (Nat × List (Nat × Nat))) :=
 match n with
 | 1=>some [(0,[(0,0)]),(1,[(0,0)])]
 | _=>none
def C:Cfg R:=⟨af bm,Γ R,fun _=>false,h,0,fun _=>false⟩
noncomputable def S:=S0 (C R) Tryz.f166 0
noncomputable def G:=G0 (C R) Tryz.f166 0
def s1:=fun x0 f=>(⟨er 23 [(0,.str x0),(1,.int .u8 f)],[],eo⟩:St)
noncomputable abbrev q1 {R:Type} (J:JT R):BA->Int->Option R:=fun x0 f=>J (placeOf Tryz.f166 1) (s1 x0 f)
theorem k1 (J:JT R) (κ : KT R) (x0 f:_):S R κ J 1 (s1 x0 f)=t1 (q1 J) (K0 κ) x0 f:=by kernel_rfl
theorem k (κ : KT R) (k:Nat) (a0 a1:_):cr (C R) Tryz.f166 10000 k [.str a0,.int .u8 a1] κ = b6.e a0 a1 (q1 (G R κ k)) (K0 κ):=by kernel_rfl
theorem g1 (κ : KT R):∀ (f:Nat),q1 (G R κ f)=L1 (K0 κ) f
 | 0=>rfl
 | f+1=>by
  funext x0 j
  show S R κ (G R κ f) 1 _=_
  rw [k1,g1 κ f]
  rfl
end
theorem ae {R:Type} (tab:bZ) (f:aq tab) (g:Nat):bM (R:=R) Tryz.prog (af bm) tab g ((C R).call g):=by
 refine aF fun xs κ => ?_
 show aa _ _ _ g xs κ (Γ R g xs κ)
 unfold Γ
 split
 ·exact aa.none
theorem aG {R:Type} (tab:bZ) (f:aq tab) (a0 a1:_) (κ : KT R):aa Tryz.prog (af bm) tab 166 [.str a0,.int .u8 a1] κ (b6 a0 a1 (K0 κ)):=ah (C:=C R) (fn:=Tryz.f166) cz (ae tab f) (by kernel_rfl) (by kernel_rfl) (by rw [k];rw [g1 R κ ag];rfl)
end b6
namespace cd
abbrev K0 {R:Type} (κ : KT R):BA->Option R:=fun f=>κ [.str f]
section
variable (R:Type)
def Γ (g:Nat) (xs:List SV) (κ : KT R):Option R :=
 match g with
 | _=>none
def h (n:Nat):Option (List (Nat × List (Nat × Nat))) :=
 match n with
 | 1=>some [(0,[(0,0)]),(1,[(0,0)])]
 | _=>none
def C:Cfg R:=⟨af bm,Γ R,fun _=>false,h,0,fun _=>false⟩
noncomputable def S:=S0 (C R) Tryz.f165 0
noncomputable def G:=G0 (C R) Tryz.f165 0
def s1:=fun x0 f=>(⟨er 17 [(0,.str x0),(1,.int .u8 f)],[],eo⟩:St)
noncomputable abbrev q1 {R:Type} (J:JT R):BA->Int->Option R:=fun x0 f=>J (placeOf Tryz.f165 1) (s1 x0 f)
theorem k1 (J:JT R) (κ : KT R) (x0 f:_):S R κ J 1 (s1 x0 f)=t1 (q1 J) (K0 κ) x0 f:=by kernel_rfl
theorem k (κ : KT R) (k:Nat) (a0 a1:_):cr (C R) Tryz.f165 10000 k [.str a0,.int .u8 a1] κ = cd.e a0 a1 (q1 (G R κ k)) (K0 κ):=by kernel_rfl
theorem g1 (κ : KT R):∀ (f:Nat),q1 (G R κ f)=L1 (K0 κ) f
 | 0=>rfl
 | f+1=>by
  funext x0 j
  show S R κ (G R κ f) 1 _=_
  rw [k1,g1 κ f]
  rfl
end
theorem ae {R:Type} (tab:bZ) (f:aq tab) (g:Nat):bM (R:=R) Tryz.prog (af bm) tab g ((C R).call g):=by
 refine aF fun xs κ => ?_
 show aa _ _ _ g xs κ (Γ R g xs κ)
 unfold Γ
 split
 ·exact aa.none
theorem aG {R:Type} (tab:bZ) (f:aq tab) (a0 a1:_) (κ : KT R):aa Tryz.prog (af bm) tab 165 [.str a0,.int .u8 a1] κ (cd a0 a1 (K0 κ)):=ah (C:=C R) (fn:=Tryz.f165) cz (ae tab f) (by kernel_rfl) (by kernel_rfl) (by rw [k];rw [g1 R κ ag];rfl)
end cd
namespace b8
abbrev K0 {R:Type} (κ : KT R):LA->Bool->Option R:=fun f j=>κ [.tup [.ar 4 256 f,.bool j]]
section
variable (R:Type)
def Γ (g:Nat) (xs:List SV) (κ : KT R):Option R :=
 match g with
 | _=>none
def h (n:Nat):Option (List (Nat × List (Nat × Nat))) :=
 match n with
 | 2=>some [(0,[(0,0)]),(2,[(0,0)]),(4,[(0,0)])]
 | _=>none
def C:Cfg R:=⟨af bm,Γ R,fun _=>false,h,0,fun _=>false⟩
noncomputable def S:=S0 (C R) Tryz.f167 0
noncomputable def G:=G0 (C R) Tryz.f167 0
def s2:=fun x0 f j=>(⟨er 21 [(0,.str x0),(2,.ap 192 256),(4,.int .i64 f)],[(192,.row 4 j true)],eo⟩:St)
noncomputable abbrev q2 {R:Type} (J:JT R):J2 R:=fun x0 f j=>J (placeOf Tryz.f167 2) (s2 x0 f j)
theorem k2 (J:JT R) (κ : KT R) (x0 f j:_):S R κ J 2 (s2 x0 f j)=t2 (q2 J) (K0 κ) x0 f j:=by kernel_rfl
theorem k (κ : KT R) (k:Nat) (a0:_):cr (C R) Tryz.f167 10000 k [.str a0] κ = b8.e a0 (q2 (G R κ k)) (K0 κ):=by kernel_rfl
theorem g2 (κ : KT R):∀ (f:Nat),q2 (G R κ f)=L2 (K0 κ) f
 | 0=>rfl
 | f+1=>by
  funext x0 j m
  show S R κ (G R κ f) 2 _=_
  rw [k2,g2 κ f]
  rfl
end
theorem ae {R:Type} (tab:bZ) (f:aq tab) (g:Nat):bM (R:=R) Tryz.prog (af bm) tab g ((C R).call g):=by
 refine aF fun xs κ => ?_
 show aa _ _ _ g xs κ (Γ R g xs κ)
 unfold Γ
 split
 ·exact aa.none
theorem aG {R:Type} (tab:bZ) (f:aq tab) (a0:_) (κ : KT R):aa Tryz.prog (af bm) tab 167 [.str a0] κ (b8 a0 (K0 κ)):=ah (C:=C R) (fn:=Tryz.f167) cz (ae tab f) (by kernel_rfl) (by kernel_rfl) (by rw [k];rw [g2 R κ ag];rfl)
end b8
namespace ao
abbrev K0 {R:Type} (κ : KT R):Bool->Option R:=fun f=>κ [.bool f]
section
variable (R:Type)
def Γ (g:Nat) (xs:List SV) (κ : KT R):Option R :=
 match g with
 | _=>none
def h (n:Nat):Option (List (Nat × List (Nat × Nat))) :=
 match n with
 | _=>none
def C:Cfg R:=⟨af bm,Γ R,fun _=>false,h,0,fun _=>false⟩
theorem k (κ : KT R) (k:Nat) (a0 a1:_):cr (C R) Tryz.f193 10000 k [.ra 4 256 a0 true,.int .u8 a1] κ = ao.e a0 a1 (K0 κ):=by kernel_rfl
end
theorem ae {R:Type} (tab:bZ) (f:aq tab) (g:Nat):bM (R:=R) Tryz.prog (af bm) tab g ((C R).call g):=by
 refine aF fun xs κ => ?_
 show aa _ _ _ g xs κ (Γ R g xs κ)
 unfold Γ
 split
 ·exact aa.none
theorem aG {R:Type} (tab:bZ) (f:aq tab) (a0 a1:_) (κ : KT R):aa Tryz.prog (af bm) tab 193 [.ra 4 256 a0 true,.int .u8 a1] κ (ao a0 a1 (K0 κ)):=ah (C:=C R) (fn:=Tryz.f193) cz (ae tab f) (by kernel_rfl) (by kernel_rfl) (by rw [k];rfl)
end ao
namespace bh
abbrev K0 {R:Type} (κ : KT R):BA->Option R:=fun f=>κ [.str f]
section
variable (R:Type) (c1:ao.F R)
def Γ (g:Nat) (xs:List SV) (κ : KT R):Option R :=
 match g with
 | 193=>(match xs with
  | [.ra 4 256 a0 true,.int .u8 a1]=>c1 a0 a1 (ao.K0 κ)
  | _=>none)
 | _=>none
def h (n:Nat):Option (List (Nat × List (Nat × Nat))) :=
 match n with
 | 1=>some [(0,[(0,0)]),(1,[(0,0)])]
 | _=>none
def C:Cfg R:=⟨af bm,Γ R c1,fun g=>Nat.beq g 193,h,0,fun _=>false⟩
noncomputable def S:=S0 (C R c1) Tryz.f169 0
noncomputable def G:=G0 (C R c1) Tryz.f169 0
def s1:=fun x0 f=>(⟨er 22 [(0,.str x0),(1,.ra 4 256 f true)],[],eo⟩:St)
noncomputable abbrev q1 {R:Type} (J:JT R):BA->LA->Option R:=fun x0 f=>J (placeOf Tryz.f169 1) (s1 x0 f)
theorem k1 (J:JT R) (κ : KT R) (x0 f:_):S R c1 κ J 1 (s1 x0 f)=t1 c1 (q1 J) (K0 κ) x0 f:=by kernel_rfl
theorem k (κ : KT R) (k:Nat) (a0 a1:_):cr (C R c1) Tryz.f169 10000 k [.str a0,.ra 4 256 a1 true] κ = bh.e c1 a0 a1 (q1 (G R c1 κ k)) (K0 κ):=by kernel_rfl
theorem g1 (κ : KT R):∀ (f:Nat),q1 (G R c1 κ f)=L1 c1 (K0 κ) f
 | 0=>rfl
 | f+1=>by
  funext x0 j
  show S R c1 κ (G R c1 κ f) 1 _=_
  rw [k1,g1 κ f]
  rfl
end
theorem ae {R:Type} (tab:bZ) (f:aq tab) (g:Nat):bM (R:=R) Tryz.prog (af bm) tab g ((C R ao).call g):=by
 refine aF fun xs κ => ?_
 show aa _ _ _ g xs κ (Γ R ao g xs κ)
 unfold Γ
 split
 ·split
  ·exact ao.aG tab f _ _ κ
  ·exact aa.none
 ·exact aa.none
theorem aG {R:Type} (tab:bZ) (f:aq tab) (a0 a1:_) (κ : KT R):aa Tryz.prog (af bm) tab 169 [.str a0,.ra 4 256 a1 true] κ (bh a0 a1 (K0 κ)):=ah (C:=C R ao) (fn:=Tryz.f169) cz (ae tab f) (by kernel_rfl) (by kernel_rfl) (by rw [k];rw [g1 R ao κ ag];rfl)
end bh
namespace bt
abbrev K0 {R:Type} (κ : KT R):BA->Option R:=fun f=>κ [.str f]
section
variable (R:Type) (c1:ao.F R)
def Γ (g:Nat) (xs:List SV) (κ : KT R):Option R :=
 match g with
 | 193=>(match xs with
  | [.ra 4 256 a0 true,.int .u8 a1]=>c1 a0 a1 (ao.K0 κ)
  | _=>none)
 | _=>none
def h (n:Nat):Option (List (Nat × List (Nat × Nat))) :=
 match n with
 | 1=>some [(0,[(0,0)]),(1,[(0,0)])]
 | _=>none
def C:Cfg R:=⟨af bm,Γ R c1,fun g=>Nat.beq g 193,h,0,fun _=>false⟩
noncomputable def S:=S0 (C R c1) Tryz.f168 0
noncomputable def G:=G0 (C R c1) Tryz.f168 0
def s1:=fun x0 f=>(⟨er 16 [(0,.str x0),(1,.ra 4 256 f true)],[],eo⟩:St)
noncomputable abbrev q1 {R:Type} (J:JT R):BA->LA->Option R:=fun x0 f=>J (placeOf Tryz.f168 1) (s1 x0 f)
theorem k1 (J:JT R) (κ : KT R) (x0 f:_):S R c1 κ J 1 (s1 x0 f)=t1 c1 (q1 J) (K0 κ) x0 f:=by kernel_rfl
theorem k (κ : KT R) (k:Nat) (a0 a1:_):cr (C R c1) Tryz.f168 10000 k [.str a0,.ra 4 256 a1 true] κ = bt.e c1 a0 a1 (q1 (G R c1 κ k)) (K0 κ):=by kernel_rfl
theorem g1 (κ : KT R):∀ (f:Nat),q1 (G R c1 κ f)=L1 c1 (K0 κ) f
 | 0=>rfl
 | f+1=>by
  funext x0 j
  show S R c1 κ (G R c1 κ f) 1 _=_
  rw [k1,g1 κ f]
  rfl
end
theorem ae {R:Type} (tab:bZ) (f:aq tab) (g:Nat):bM (R:=R) Tryz.prog (af bm) tab g ((C R ao).call g):=by
 refine aF fun xs κ => ?_
 show aa _ _ _ g xs κ (Γ R ao g xs κ)
 unfold Γ
 split
 ·split
  ·exact ao.aG tab f _ _ κ
  ·exact aa.none
 ·exact aa.none
theorem aG {R:Type} (tab:bZ) (f:aq tab) (a0 a1:_) (κ : KT R):aa Tryz.prog (af bm) tab 168 [.str a0,.ra 4 256 a1 true] κ (bt a0 a1 (K0 κ)):=ah (C:=C R ao) (fn:=Tryz.f168) cz (ae tab f) (by kernel_rfl) (by kernel_rfl) (by rw [k];rw [g1 R ao κ ag];rfl)
end bt
namespace bL
abbrev K0 {R:Type} (κ : KT R):BA->Option R:=fun f=>κ [.str f]
section
variable (R:Type) (c1:b6.F R) (c2:cd.F R) (c3:b8.F R) (c4:bh.F R) (c5:bt.F R)
def Γ (g:Nat) (xs:List SV) (κ : KT R):Option R :=
 match g with
 | 165=>(match xs with
  | [.str a0,.int .u8 a1]=>c2 a0 a1 (cd.K0 κ)
  | _=>none)
 | 166=>(match xs with
  | [.str a0,.int .u8 a1]=>c1 a0 a1 (b6.K0 κ)
  | _=>none)
 | 167=>(match xs with
  | [.str a0]=>c3 a0 (b8.K0 κ)
  | _=>none)
 | 168=>(match xs with
  | [.str a0,.ra 4 256 a1 true]=>c5 a0 a1 (bt.K0 κ)
  | _=>none)
 | 169=>(match xs with
  | [.str a0,.ra 4 256 a1 true]=>c4 a0 a1 (bh.K0 κ)
  | _=>none)
 | _=>none
def h (n:Nat):Option (List (Nat × List (Nat × Nat))) :=
 match n with
 | _=>none
def C:Cfg R:=⟨af bm,Γ R c1 c2 c3 c4 c5,fun g=>Nat.beq g 168||Nat.beq g 169,h,0,fun _=>false⟩
theorem k (κ : KT R) (k:Nat) (a0 a1:_):cr (C R c1 c2 c3 c4 c5) Tryz.f124 10000 k [.str a0,.str a1] κ = bL.e c1 c2 c3 c4 c5 a0 a1 (K0 κ):=by kernel_rfl
end
theorem ae {R:Type} (tab:bZ) (f:aq tab) (g:Nat):bM (R:=R) Tryz.prog (af bm) tab g ((C R b6 cd b8 bh bt).call g):=by
 refine aF fun xs κ => ?_
 show aa _ _ _ g xs κ (Γ R b6 cd b8 bh bt g xs κ)
 unfold Γ
 split
 ·split
  ·exact cd.aG tab f _ _ κ
  ·exact aa.none
 ·split
  ·exact b6.aG tab f _ _ κ
  ·exact aa.none
 ·split
  ·exact b8.aG tab f _ κ
  ·exact aa.none
 ·split
  ·exact bt.aG tab f _ _ κ
  ·exact aa.none
 ·split
  ·exact bh.aG tab f _ _ κ
  ·exact aa.none
 ·exact aa.none
theorem aG {R:Type} (tab:bZ) (f:aq tab) (a0 a1:_) (κ : KT R):aa Tryz.prog (af bm) tab 124 [.str a0,.str a1] κ (bL a0 a1 (K0 κ)):=ah (C:=C R b6 cd b8 bh bt) (fn:=Tryz.f124) cz (ae tab f) (by kernel_rfl) (by kernel_rfl) (by rw [k];rfl)
end bL
namespace aZ
abbrev K0 {R:Type} (κ : KT R):LA->Option R:=fun f=>κ [.fr 168 f true]
section
variable (R:Type) (c1:cg.F R) (c2:bL.F R) (c3:aN.F R) (c4:aB.F R)
def Γ (g:Nat) (xs:List SV) (κ : KT R):Option R :=
 match g with
 | 110=>(match xs with
  | [.str a0]=>c1 a0 (cg.K0 κ)
  | _=>none)
 | 122=>(match xs with
  | [.str a0,.str a1]=>c3 a0 a1 (aN.K0 κ)
  | _=>none)
 | 123=>(match xs with
  | [.str a0,.int .u8 a1]=>c4 a0 a1 (aB.K0 κ)
  | _=>none)
 | 124=>(match xs with
  | [.str a0,.str a1]=>c2 a0 a1 (bL.K0 κ)
  | _=>none)
 | _=>none
def h (n:Nat):Option (List (Nat × List (Nat × Nat))) :=
 match n with
 | 4=>some [(3,[(0,170)]),(4,[(0,11)]),(10,[(0,0)]),(11,[(0,0)]),(12,[(0,0)])]
 | 8=>some [(3,[(0,0)]),(4,[(0,0)]),(6,[(0,0)]),(10,[(0,0)]),(11,[(0,0)]),(12,[(0,0)])]
 | 13=>some [(3,[(0,170)]),(4,[(0,11)]),(6,[(0,0)]),(7,[(0,0)]),(10,[(0,0)]),(11,[(0,0)]),(12,[(0,0)])]
 | 15=>some [(3,[(0,170)]),(4,[(0,11)]),(10,[(0,0)]),(11,[(0,0)]),(12,[(0,0)])]
 | 17=>some [(3,[(0,0)]),(4,[(0,0)]),(72,[(0,0)]),(73,[(0,0)])]
 | _=>none
def C:Cfg R:=⟨af bm,Γ R c1 c2 c3 c4,fun _=>false,h,0,fun _=>false⟩
noncomputable def S:=S0 (C R c1 c2 c3 c4) Tryz.f76 0
noncomputable def G:=G0 (C R c1 c2 c3 c4) Tryz.f76 0
def s4:=fun x0 f j m u=>(⟨er 87 [(3,.own 256),(4,.own 320),(10,.own 704),(11,.int .i64 x0),(12,.int .i64 f)],[(256,.row 168 j true),(320,.row 9 m true),(704,.row 161 u true)],eo⟩:St)
def s8:=fun x0 f j m u z A M N=>(⟨er 87 [(3,.own 256),(4,.own 320),(6,.ptr 511 0),(10,.own 704),(11,.int .i64 x0),(12,.int .i64 f)],[(256,.row 168 j true),(320,.row 9 m true),(511,.var 161 [.str u,.str z,.bool A,.bool M]),(704,.row 161 N true)],eo⟩:St)
def GS:=fun x0 f j m u z A M N O=>(⟨er 87 [(3,.own 256),(4,.own 320),(6,.ptr 511 0),(7,.str x0),(10,.own 704),(11,.int .i64 f),(12,.int .i64 j)],[(256,.row 168 m true),(320,.row 9 u true),(511,.var 161 [.str z,.str A,.bool M,.bool N]),(704,.row 161 O true)],eo⟩:St)
def EJ:=fun x0 f j m u=>(⟨er 87 [(3,.own 256),(4,.own 320),(10,.own 704),(11,.int .i64 x0),(12,.int .i64 f)],[(256,.row 168 j true),(320,.row 9 m true),(704,.row 161 u true)],eo⟩:St)
def GU:=fun x0 f j m=>(⟨er 87 [(3,.own 256),(4,.own 320),(72,.int .i64 x0),(73,.int .i64 f)],[(256,.row 168 j true),(320,.row 9 m true)],eo⟩:St)
noncomputable abbrev q4 {R:Type} (J:JT R):J4 R:=fun x0 f j m u=>J (placeOf Tryz.f76 4) (s4 x0 f j m u)
noncomputable abbrev q8 {R:Type} (J:JT R):J8 R:=fun x0 f j m u z A M N=>J (placeOf Tryz.f76 8) (s8 x0 f j m u z A M N)
noncomputable abbrev DW {R:Type} (J:JT R):zh R:=fun x0 f j m u z A M N O=>J (placeOf Tryz.f76 13) (GS x0 f j m u z A M N O)
noncomputable abbrev Al {R:Type} (J:JT R):sM R:=fun x0 f j m u=>J (placeOf Tryz.f76 15) (EJ x0 f j m u)
noncomputable abbrev C6 {R:Type} (J:JT R):xW R:=fun x0 f j m=>J (placeOf Tryz.f76 17) (GU x0 f j m)
theorem k4 (J:JT R) (κ : KT R) (x0 f j m u:_):S R c1 c2 c3 c4 κ J 4 (s4 x0 f j m u)=t4 (q8 J) (Al J) (C6 J) x0 f j m u:=by kernel_rfl
theorem k8 (J:JT R) (κ : KT R) (x0 f j m u z A M N:_):S R c1 c2 c3 c4 κ J 8 (s8 x0 f j m u z A M N)=t8 c3 c4 (DW J) x0 f j m u z A M N:=by kernel_rfl
theorem Hp (J:JT R) (κ : KT R) (x0 f j m u z A M N O:_):S R c1 c2 c3 c4 κ J 13 (GS x0 f j m u z A M N O)=t13 (Al J) x0 f j m u z A M N O:=by kernel_rfl
theorem Gu (J:JT R) (κ : KT R) (x0 f j m u:_):S R c1 c2 c3 c4 κ J 15 (EJ x0 f j m u)=t15 (q4 J) x0 f j m u:=by kernel_rfl
theorem Hq (J:JT R) (κ : KT R) (x0 f j m:_):S R c1 c2 c3 c4 κ J 17 (GU x0 f j m)=t17 c2 (C6 J) (K0 κ) x0 f j m:=by kernel_rfl
theorem k (κ : KT R) (k:Nat) (a0:_):cr (C R c1 c2 c3 c4) Tryz.f76 10000 k [.str a0] κ = aZ.e c1 c2 c3 c4 a0 (q4 (G R c1 c2 c3 c4 κ k)) (q8 (G R c1 c2 c3 c4 κ k)) (DW (G R c1 c2 c3 c4 κ k)) (Al (G R c1 c2 c3 c4 κ k)) (C6 (G R c1 c2 c3 c4 κ k)) (K0 κ):=by kernel_rfl
theorem g17 (κ : KT R):∀ (f:Nat),C6 (G R c1 c2 c3 c4 κ f)=zj c1 c2 c3 c4 (K0 κ) f
 | 0=>rfl
 | f+1=>by
  funext x0 j m u
  show S R c1 c2 c3 c4 κ (G R c1 c2 c3 c4 κ f) 17 _=_
  rw [Hq,g17 κ f]
  rfl
theorem C3 (κ : KT R):∀ (f:Nat),(q4 (G R c1 c2 c3 c4 κ f)=L4 c1 c2 c3 c4 (K0 κ) f)/\(q8 (G R c1 c2 c3 c4 κ f)=L8 c1 c2 c3 c4 (K0 κ) f)/\(DW (G R c1 c2 c3 c4 κ f)=wq c1 c2 c3 c4 (K0 κ) f)/\(Al (G R c1 c2 c3 c4 κ f)=n9 c1 c2 c3 c4 (K0 κ) f)
 | 0=>⟨rfl,rfl,rfl,rfl⟩
 | f+1=>by
  obtain ⟨m,u,z,j⟩:=C3 κ f
  refine ⟨?_,?_,?_,?_⟩
  ·funext x0 A M N O
   show S R c1 c2 c3 c4 κ (G R c1 c2 c3 c4 κ f) 4 _=_
   rw [k4,u,j,g17 R c1 c2 c3 c4 κ f]
   rfl
  ·funext x0 A M N O U V W X
   show S R c1 c2 c3 c4 κ (G R c1 c2 c3 c4 κ f) 8 _=_
   rw [k8,z]
   rfl
  ·funext x0 A M N O U V W X Y
   show S R c1 c2 c3 c4 κ (G R c1 c2 c3 c4 κ f) 13 _=_
   rw [Hp,j]
   rfl
  ·funext x0 A M N O
   show S R c1 c2 c3 c4 κ (G R c1 c2 c3 c4 κ f) 15 _=_
   rw [Gu,m]
   rfl
theorem g4 (κ : KT R) (f:Nat):q4 (G R c1 c2 c3 c4 κ f)=L4 c1 c2 c3 c4 (K0 κ) f:=(C3 R c1 c2 c3 c4 κ f).1
theorem g8 (κ : KT R) (f:Nat):q8 (G R c1 c2 c3 c4 κ f)=L8 c1 c2 c3 c4 (K0 κ) f:=(C3 R c1 c2 c3 c4 κ f).2.1
theorem g13 (κ : KT R) (f:Nat):DW (G R c1 c2 c3 c4 κ f)=wq c1 c2 c3 c4 (K0 κ) f:=(C3 R c1 c2 c3 c4 κ f).2.2.1
theorem g15 (κ : KT R) (f:Nat):Al (G R c1 c2 c3 c4 κ f)=n9 c1 c2 c3 c4 (K0 κ) f:=(C3 R c1 c2 c3 c4 κ f).2.2.2
end
theorem ae {R:Type} (tab:bZ) (f:aq tab) (g:Nat):bM (R:=R) Tryz.prog (af bm) tab g ((C R cg bL aN aB).call g):=by
 refine aF fun xs κ => ?_
 show aa _ _ _ g xs κ (Γ R cg bL aN aB g xs κ)
 unfold Γ
 split
 ·split
  ·exact cg.aG tab f _ κ
  ·exact aa.none
 ·split
  ·exact aN.aG tab f _ _ κ
  ·exact aa.none
 ·split
  ·exact aB.aG tab f _ _ κ
  ·exact aa.none
 ·split
  ·exact bL.aG tab f _ _ κ
  ·exact aa.none
 ·exact aa.none
theorem aG {R:Type} (tab:bZ) (f:aq tab) (a0:_) (κ : KT R):aa Tryz.prog (af bm) tab 76 [.str a0] κ (aZ a0 (K0 κ)):=ah (C:=C R cg bL aN aB) (fn:=Tryz.f76) cz (ae tab f) (by kernel_rfl) (by kernel_rfl) (by rw [k];rw [g4 R cg bL aN aB κ ag,g8 R cg bL aN aB κ ag,g13 R cg bL aN aB κ ag,g15 R cg bL aN aB κ ag,g17 R cg bL aN aB κ ag];rfl)
end aZ
namespace bJ
abbrev K0 {R:Type} (κ : KT R):BA->Option R:=fun f=>κ [.str f]
section
variable (R:Type)
def Γ (g:Nat) (xs:List SV) (κ : KT R):Option R :=
 match g with
 | _=>none
def h (n:Nat):Option (List (Nat × List (Nat × Nat))) :=
 match n with
 | 3=>some [(3,[(0,0)]),(8,[(0,0)]),(9,[(0,0)]),(10,[(0,0)])]
 | _=>none
def C:Cfg R:=⟨af bm,Γ R,fun _=>false,h,0,fun _=>false⟩
noncomputable def S:=S0 (C R) Tryz.f151 0
noncomputable def G:=G0 (C R) Tryz.f151 0
def s3:=fun x0 f j=>(⟨er 30 [(3,.own 256),(8,.own 256),(9,.int .i64 x0),(10,.int .i64 f)],[(256,.row 5 j true)],eo⟩:St)
noncomputable abbrev q3 {R:Type} (J:JT R):J3 R:=fun x0 f j=>J (placeOf Tryz.f151 3) (s3 x0 f j)
theorem k3 (J:JT R) (κ : KT R) (x0 f j:_):S R κ J 3 (s3 x0 f j)=t3 (q3 J) (K0 κ) x0 f j:=by kernel_rfl
theorem k (κ : KT R) (k:Nat) (a0:_):cr (C R) Tryz.f151 10000 k [.str a0] κ = bJ.e a0 (q3 (G R κ k)) (K0 κ):=by kernel_rfl
theorem g3 (κ : KT R):∀ (f:Nat),q3 (G R κ f)=L3 (K0 κ) f
 | 0=>rfl
 | f+1=>by
  funext x0 j m
  show S R κ (G R κ f) 3 _=_
  rw [k3,g3 κ f]
  rfl
end
theorem ae {R:Type} (tab:bZ) (f:aq tab) (g:Nat):bM (R:=R) Tryz.prog (af bm) tab g ((C R).call g):=by
 refine aF fun xs κ => ?_
 show aa _ _ _ g xs κ (Γ R g xs κ)
 unfold Γ
 split
 ·exact aa.none
theorem aG {R:Type} (tab:bZ) (f:aq tab) (a0:_) (κ : KT R):aa Tryz.prog (af bm) tab 151 [.str a0] κ (bJ a0 (K0 κ)):=ah (C:=C R) (fn:=Tryz.f151) cz (ae tab f) (by kernel_rfl) (by kernel_rfl) (by rw [k];rw [g3 R κ ag];rfl)
end bJ
namespace dD
abbrev K0 {R:Type} (κ : KT R):Bool->Option R:=fun f=>κ [.bool f]
section
variable (R:Type) (c1:bJ.F R)
def Γ (g:Nat) (xs:List SV) (κ : KT R):Option R :=
 match g with
 | 151=>(match xs with
  | [.str a0]=>c1 a0 (bJ.K0 κ)
  | _=>none)
 | _=>none
def h (n:Nat):Option (List (Nat × List (Nat × Nat))) :=
 match n with
 | _=>none
def C:Cfg R:=⟨af bm,Γ R c1,fun _=>false,h,0,fun _=>false⟩
theorem k (κ : KT R) (k:Nat) (a0 a1:_):cr (C R c1) Tryz.f111 10000 k [.str a0,.str a1] κ = dD.e c1 a0 a1 (K0 κ):=by kernel_rfl
end
theorem ae {R:Type} (tab:bZ) (f:aq tab) (g:Nat):bM (R:=R) Tryz.prog (af bm) tab g ((C R bJ).call g):=by
 refine aF fun xs κ => ?_
 show aa _ _ _ g xs κ (Γ R bJ g xs κ)
 unfold Γ
 split
 ·split
  ·exact bJ.aG tab f _ κ
  ·exact aa.none
 ·exact aa.none
theorem aG {R:Type} (tab:bZ) (f:aq tab) (a0 a1:_) (κ : KT R):aa Tryz.prog (af bm) tab 111 [.str a0,.str a1] κ (dD a0 a1 (K0 κ)):=ah (C:=C R bJ) (fn:=Tryz.f111) cz (ae tab f) (by kernel_rfl) (by kernel_rfl) (by rw [k];rfl)
end dD
namespace db
abbrev K0 {R:Type} (κ : KT R):Bool->BA->Option R:=fun f j=>κ [.agg [.bool f,.str j]]
section
variable (R:Type) (c1:dD.F R)
def Γ (g:Nat) (xs:List SV) (κ : KT R):Option R :=
 match g with
 | 111=>(match xs with
  | [.str a0,.str a1]=>c1 a0 a1 (dD.K0 κ)
  | _=>none)
 | _=>none
def h (n:Nat):Option (List (Nat × List (Nat × Nat))) :=
 match n with
 | 2=>some [(1,[(0,0)]),(4,[(0,0)]),(7,[(0,0)]),(8,[(0,0)]),(9,[(0,0)])]
 | _=>none
def C:Cfg R:=⟨af bm,Γ R c1,fun _=>false,h,0,fun _=>false⟩
noncomputable def S:=S0 (C R c1) Tryz.f120 0
noncomputable def G:=G0 (C R c1) Tryz.f120 0
def s2:=fun x0 f j m u z=>(⟨er 22 [(1,.str x0),(4,.ptr 383 0),(7,.ro 168 f false),(8,.int .i64 j),(9,.int .i64 m)],[(383,.var 26 [.bool u,.str z])],eo⟩:St)
noncomputable abbrev q2 {R:Type} (J:JT R):J2 R:=fun x0 f j m u z=>J (placeOf Tryz.f120 2) (s2 x0 f j m u z)
theorem k2 (J:JT R) (κ : KT R) (x0 f j m u z:_):S R c1 κ J 2 (s2 x0 f j m u z)=t2 c1 (q2 J) (K0 κ) x0 f j m u z:=by kernel_rfl
theorem k (κ : KT R) (k:Nat) (a0 a1:_):cr (C R c1) Tryz.f120 10000 k [.ro 168 a0 false,.str a1] κ = db.e c1 a0 a1 (q2 (G R c1 κ k)) (K0 κ):=by kernel_rfl
theorem g2 (κ : KT R):∀ (f:Nat),q2 (G R c1 κ f)=L2 c1 (K0 κ) f
 | 0=>rfl
 | f+1=>by
  funext x0 j m u z A
  show S R c1 κ (G R c1 κ f) 2 _=_
  rw [k2,g2 κ f]
  rfl
end
theorem ae {R:Type} (tab:bZ) (f:aq tab) (g:Nat):bM (R:=R) Tryz.prog (af bm) tab g ((C R dD).call g):=by
 refine aF fun xs κ => ?_
 show aa _ _ _ g xs κ (Γ R dD g xs κ)
 unfold Γ
 split
 ·split
  ·exact dD.aG tab f _ _ κ
  ·exact aa.none
 ·exact aa.none
theorem aG {R:Type} (tab:bZ) (f:aq tab) (a0 a1:_) (κ : KT R):aa Tryz.prog (af bm) tab 120 [.ro 168 a0 false,.str a1] κ (db a0 a1 (K0 κ)):=ah (C:=C R dD) (fn:=Tryz.f120) cz (ae tab f) (by kernel_rfl) (by kernel_rfl) (by rw [k];rw [g2 R dD κ ag];rfl)
end db
namespace bB
abbrev K0 {R:Type} (κ : KT R):Q0 R:=fun f j m=>κ [.int .u8 f,.vp 177 [.str j,.int .i64 m]]
section
variable (R:Type)
def Γ (g:Nat) (xs:List SV) (κ : KT R):Option R :=
 match g with
 | _=>none
def h (n:Nat):Option (List (Nat × List (Nat × Nat))) :=
 match n with
 | _=>none
def C:Cfg R:=⟨af bm,Γ R,fun _=>false,h,0,fun _=>false⟩
theorem k (κ : KT R) (k:Nat) (a0 a1:_):cr (C R) Tryz.f205 10000 k [.vp 177 [.str a0,.int .i64 a1]] κ = bB.e a0 a1 (K0 κ):=by kernel_rfl
end
theorem ae {R:Type} (tab:bZ) (f:aq tab) (g:Nat):bM (R:=R) Tryz.prog (af bm) tab g ((C R).call g):=by
 refine aF fun xs κ => ?_
 show aa _ _ _ g xs κ (Γ R g xs κ)
 unfold Γ
 split
 ·exact aa.none
theorem aG {R:Type} (tab:bZ) (f:aq tab) (a0 a1:_) (κ : KT R):aa Tryz.prog (af bm) tab 205 [.vp 177 [.str a0,.int .i64 a1]] κ (bB a0 a1 (K0 κ)):=ah (C:=C R) (fn:=Tryz.f205) cz (ae tab f) (by kernel_rfl) (by kernel_rfl) (by rw [k];rfl)
end bB
namespace aM
abbrev K0 {R:Type} (κ : KT R):BA->Int->Option R:=fun f j=>κ [.tup [],.vp 177 [.str f,.int .i64 j]]
section
variable (R:Type)
def Γ (g:Nat) (xs:List SV) (κ : KT R):Option R :=
 match g with
 | _=>none
def h (n:Nat):Option (List (Nat × List (Nat × Nat))) :=
 match n with
 | 1=>some [(0,[(0,0)]),(2,[(0,0)])]
 | _=>none
def C:Cfg R:=⟨af bm,Γ R,fun _=>false,h,0,fun _=>false⟩
noncomputable def S:=S0 (C R) Tryz.f206 1
noncomputable def G:=G0 (C R) Tryz.f206 1
def s1:=fun x0 f j=>(⟨er 58 [(0,.ptr 0 0),(2,.int .i64 x0)],[(0,.var 177 [.str f,.int .i64 j])],eo⟩:St)
noncomputable abbrev q1 {R:Type} (J:JT R):J1 R:=fun x0 f j=>J (placeOf Tryz.f206 1) (s1 x0 f j)
theorem k1 (J:JT R) (κ : KT R) (x0 f j:_):S R κ J 1 (s1 x0 f j)=t1 (q1 J) (K0 κ) x0 f j:=by kernel_rfl
theorem k (κ : KT R) (k:Nat) (a0 a1:_):cr (C R) Tryz.f206 10000 k [.vp 177 [.str a0,.int .i64 a1]] κ = aM.e a0 a1 (q1 (G R κ k)) (K0 κ):=by kernel_rfl
theorem g1 (κ : KT R):∀ (f:Nat),q1 (G R κ f)=L1 (K0 κ) f
 | 0=>rfl
 | f+1=>by
  funext x0 j m
  show S R κ (G R κ f) 1 _=_
  rw [k1,g1 κ f]
  rfl
end
theorem ae {R:Type} (tab:bZ) (f:aq tab) (g:Nat):bM (R:=R) Tryz.prog (af bm) tab g ((C R).call g):=by
 refine aF fun xs κ => ?_
 show aa _ _ _ g xs κ (Γ R g xs κ)
 unfold Γ
 split
 ·exact aa.none
theorem aG {R:Type} (tab:bZ) (f:aq tab) (a0 a1:_) (κ : KT R):aa Tryz.prog (af bm) tab 206 [.vp 177 [.str a0,.int .i64 a1]] κ (aM a0 a1 (K0 κ)):=ah (C:=C R) (fn:=Tryz.f206) cz (ae tab f) (by kernel_rfl) (by kernel_rfl) (by rw [k];rw [g1 R κ ag];rfl)
end aM
namespace aj
abbrev K0 {R:Type} (κ : KT R):BA->Int->Option R:=fun f j=>κ [.tup [],.vp 177 [.str f,.int .i64 j]]
section
variable (R:Type) (c1:bB.F R) (c2:aM.F R)
def Γ (g:Nat) (xs:List SV) (κ : KT R):Option R :=
 match g with
 | 205=>(match xs with
  | [.vp 177 [.str a0,.int .i64 a1]]=>c1 a0 a1 (bB.K0 κ)
  | _=>none)
 | 206=>(match xs with
  | [.vp 177 [.str a0,.int .i64 a1]]=>c2 a0 a1 (aM.K0 κ)
  | _=>none)
 | _=>none
def h (n:Nat):Option (List (Nat × List (Nat × Nat))) :=
 match n with
 | 0=>some [(0,[(0,0)])]
 | _=>none
def C:Cfg R:=⟨af bm,Γ R c1 c2,fun _=>false,h,0,fun _=>false⟩
noncomputable def S:=S0 (C R c1 c2) Tryz.f175 1
noncomputable def G:=G0 (C R c1 c2) Tryz.f175 1
def s0:=fun x0 f=>(⟨er 18 [(0,.ptr 0 0)],[(0,.var 177 [.str x0,.int .i64 f])],eo⟩:St)
noncomputable abbrev q0 {R:Type} (J:JT R):BA->Int->Option R:=fun x0 f=>J (placeOf Tryz.f175 0) (s0 x0 f)
theorem k0 (J:JT R) (κ : KT R) (x0 f:_):S R c1 c2 κ J 0 (s0 x0 f)=t0 c1 c2 (q0 J) (K0 κ) x0 f:=by kernel_rfl
theorem k (κ : KT R) (k:Nat) (a0 a1:_):cr (C R c1 c2) Tryz.f175 10000 k [.vp 177 [.str a0,.int .i64 a1]] κ = aj.e c1 c2 a0 a1 (q0 (G R c1 c2 κ k)) (K0 κ):=by kernel_rfl
theorem g0 (κ : KT R):∀ (f:Nat),q0 (G R c1 c2 κ f)=L0 c1 c2 (K0 κ) f
 | 0=>rfl
 | f+1=>by
  funext x0 j
  show S R c1 c2 κ (G R c1 c2 κ f) 0 _=_
  rw [k0,g0 κ f]
  rfl
end
theorem ae {R:Type} (tab:bZ) (f:aq tab) (g:Nat):bM (R:=R) Tryz.prog (af bm) tab g ((C R bB aM).call g):=by
 refine aF fun xs κ => ?_
 show aa _ _ _ g xs κ (Γ R bB aM g xs κ)
 unfold Γ
 split
 ·split
  ·exact bB.aG tab f _ _ κ
  ·exact aa.none
 ·split
  ·exact aM.aG tab f _ _ κ
  ·exact aa.none
 ·exact aa.none
theorem aG {R:Type} (tab:bZ) (f:aq tab) (a0 a1:_) (κ : KT R):aa Tryz.prog (af bm) tab 175 [.vp 177 [.str a0,.int .i64 a1]] κ (aj a0 a1 (K0 κ)):=ah (C:=C R bB aM) (fn:=Tryz.f175) cz (ae tab f) (by kernel_rfl) (by kernel_rfl) (by rw [k];rw [g0 R bB aM κ ag];rfl)
end aj
namespace bW
abbrev K0 {R:Type} (κ : KT R):Bool->Option R:=fun f=>κ [.bool f]
section
variable (R:Type)
def Γ (g:Nat) (xs:List SV) (κ : KT R):Option R :=
 match g with
 | _=>none
def h (n:Nat):Option (List (Nat × List (Nat × Nat))) :=
 match n with
 | _=>none
def C:Cfg R:=⟨af bm,Γ R,fun _=>false,h,0,fun _=>false⟩
theorem k (κ : KT R) (k:Nat) (a0:_):cr (C R) Tryz.f231 10000 k [.int .i32 a0] κ = bW.e a0 (K0 κ):=by kernel_rfl
end
theorem ae {R:Type} (tab:bZ) (f:aq tab) (g:Nat):bM (R:=R) Tryz.prog (af bm) tab g ((C R).call g):=by
 refine aF fun xs κ => ?_
 show aa _ _ _ g xs κ (Γ R g xs κ)
 unfold Γ
 split
 ·exact aa.none
theorem aG {R:Type} (tab:bZ) (f:aq tab) (a0:_) (κ : KT R):aa Tryz.prog (af bm) tab 231 [.int .i32 a0] κ (bW a0 (K0 κ)):=ah (C:=C R) (fn:=Tryz.f231) cz (ae tab f) (by kernel_rfl) (by kernel_rfl) (by rw [k];rfl)
end bW
namespace cv
abbrev K0 {R:Type} (κ : KT R):Int->Option R:=fun f=>κ [.int .i64 f]
section
variable (R:Type)
def Γ (g:Nat) (xs:List SV) (κ : KT R):Option R :=
 match g with
 | _=>none
def h (n:Nat):Option (List (Nat × List (Nat × Nat))) :=
 match n with
 | _=>none
def C:Cfg R:=⟨af bm,Γ R,fun _=>false,h,0,fun _=>false⟩
theorem k (κ : KT R) (k:Nat) (a0:_):cr (C R) Tryz.f203 10000 k [.int .i64 a0] κ = cv.e a0 (K0 κ):=by kernel_rfl
end
theorem ae {R:Type} (tab:bZ) (f:aq tab) (g:Nat):bM (R:=R) Tryz.prog (af bm) tab g ((C R).call g):=by
 refine aF fun xs κ => ?_
 show aa _ _ _ g xs κ (Γ R g xs κ)
 unfold Γ
 split
 ·exact aa.none
theorem aG {R:Type} (tab:bZ) (f:aq tab) (a0:_) (κ : KT R):aa Tryz.prog (af bm) tab 203 [.int .i64 a0] κ (cv a0 (K0 κ)):=ah (C:=C R) (fn:=Tryz.f203) cz (ae tab f) (by kernel_rfl) (by kernel_rfl) (by rw [k];rfl)
end cv
namespace cy
abbrev K0 {R:Type} (κ : KT R):Int->Option R:=fun f=>κ [.int .i64 f]
section
variable (R:Type) (c1:aB.F R) (c2:bW.F R) (c3:cv.F R)
def Γ (g:Nat) (xs:List SV) (κ : KT R):Option R :=
 match g with
 | 123=>(match xs with
  | [.str a0,.int .u8 a1]=>c1 a0 a1 (aB.K0 κ)
  | _=>none)
 | 203=>(match xs with
  | [.int .i64 a0]=>c3 a0 (cv.K0 κ)
  | _=>none)
 | 231=>(match xs with
  | [.int .i32 a0]=>c2 a0 (bW.K0 κ)
  | _=>none)
 | _=>none
def h (n:Nat):Option (List (Nat × List (Nat × Nat))) :=
 match n with
 | 5=>some [(0,[(0,0)]),(1,[(0,0)]),(7,[(0,0)]),(8,[(0,0)]),(9,[(0,0)]),(10,[(0,0)])]
 | 12=>some [(0,[(0,0)]),(1,[(0,0)]),(7,[(0,0)]),(8,[(0,0)]),(9,[(0,0)]),(10,[(0,0)]),(12,[(0,0)])]
 | 38=>some [(175,[(0,0)])]
 | _=>none
def C:Cfg R:=⟨af bm,Γ R c1 c2 c3,fun _=>false,h,0,fun _=>false⟩
noncomputable def S:=S0 (C R c1 c2 c3) Tryz.f216 0
noncomputable def G:=G0 (C R c1 c2 c3) Tryz.f216 0
def s5:=fun x0 f j m u z=>(⟨er 187 [(0,.str x0),(1,.int .i32 f),(7,.str j),(8,.int .i64 m),(9,.int .i64 u),(10,.int .i64 z)],[],eo⟩:St)
def HZ:=fun x0 f j m u z A=>(⟨er 187 [(0,.str x0),(1,.int .i32 f),(7,.str j),(8,.int .i64 m),(9,.int .i64 u),(10,.int .i64 z),(12,.int .i64 A)],[],eo⟩:St)
def H4:=fun x0 f=>(⟨er 187 [(175,.ptr 11327 0)],[(11327,.sit x0 f)],eo⟩:St)
noncomputable abbrev q5 {R:Type} (J:JT R):J5 R:=fun x0 f j m u z=>J (placeOf Tryz.f216 5) (s5 x0 f j m u z)
noncomputable abbrev GO {R:Type} (J:JT R):EM R:=fun x0 f j m u z A=>J (placeOf Tryz.f216 12) (HZ x0 f j m u z A)
noncomputable abbrev HH {R:Type} (J:JT R):BA->Nat->Option R:=fun x0 f=>J (placeOf Tryz.f216 38) (H4 x0 f)
theorem k5 (J:JT R) (κ : KT R) (x0 f j m u z:_):S R c1 c2 c3 κ J 5 (s5 x0 f j m u z)=t5 c1 (GO J) (K0 κ) x0 f j m u z:=by kernel_rfl
theorem Ia (J:JT R) (κ : KT R) (x0 f j m u z A:_):S R c1 c2 c3 κ J 12 (HZ x0 f j m u z A)=t12 c3 (q5 J) (GO J) (K0 κ) x0 f j m u z A:=by kernel_rfl
theorem Ig (J:JT R) (κ : KT R) (x0 f:_):S R c1 c2 c3 κ J 38 (H4 x0 f)=t38 (HH J) (K0 κ) x0 f:=by kernel_rfl
theorem k (κ : KT R) (k:Nat) (a0 a1:_):cr (C R c1 c2 c3) Tryz.f216 10000 k [.str a0,.int .i32 a1] κ = cy.e c1 c2 c3 a0 a1 (q5 (G R c1 c2 c3 κ k)) (GO (G R c1 c2 c3 κ k)) (HH (G R c1 c2 c3 κ k)) (K0 κ):=by kernel_rfl
theorem Ep (κ : KT R):∀ (f:Nat),(q5 (G R c1 c2 c3 κ f)=L5 c1 c2 c3 (K0 κ) f)/\(GO (G R c1 c2 c3 κ f)=He c1 c2 c3 (K0 κ) f)
 | 0=>⟨rfl,rfl⟩
 | f+1=>by
  obtain ⟨m,j⟩:=Ep κ f
  refine ⟨?_,?_⟩
  ·funext x0 u z A M N
   show S R c1 c2 c3 κ (G R c1 c2 c3 κ f) 5 _=_
   rw [k5,j]
   rfl
  ·funext x0 u z A M N O
   show S R c1 c2 c3 κ (G R c1 c2 c3 κ f) 12 _=_
   rw [Ia,m,j]
   rfl
theorem g5 (κ : KT R) (f:Nat):q5 (G R c1 c2 c3 κ f)=L5 c1 c2 c3 (K0 κ) f:=(Ep R c1 c2 c3 κ f).1
theorem g12 (κ : KT R) (f:Nat):GO (G R c1 c2 c3 κ f)=He c1 c2 c3 (K0 κ) f:=(Ep R c1 c2 c3 κ f).2
theorem HU (κ : KT R):∀ (f:Nat),HH (G R c1 c2 c3 κ f)=Hf c1 c2 c3 (K0 κ) f
 | 0=>rfl
 | f+1=>by
  funext x0 j
  show S R c1 c2 c3 κ (G R c1 c2 c3 κ f) 38 _=_
  rw [Ig,HU κ f]
  rfl
end
theorem ae {R:Type} (tab:bZ) (f:aq tab) (g:Nat):bM (R:=R) Tryz.prog (af bm) tab g ((C R aB bW cv).call g):=by
 refine aF fun xs κ => ?_
 show aa _ _ _ g xs κ (Γ R aB bW cv g xs κ)
 unfold Γ
 split
 ·split
  ·exact aB.aG tab f _ _ κ
  ·exact aa.none
 ·split
  ·exact cv.aG tab f _ κ
  ·exact aa.none
 ·split
  ·exact bW.aG tab f _ κ
  ·exact aa.none
 ·exact aa.none
theorem aG {R:Type} (tab:bZ) (f:aq tab) (a0 a1:_) (κ : KT R):aa Tryz.prog (af bm) tab 216 [.str a0,.int .i32 a1] κ (cy a0 a1 (K0 κ)):=ah (C:=C R aB bW cv) (fn:=Tryz.f216) cz (ae tab f) (by kernel_rfl) (by kernel_rfl) (by rw [k];rw [g5 R aB bW cv κ ag,g12 R aB bW cv κ ag,HU R aB bW cv κ ag];rfl)
end cy
namespace bg
abbrev K0 {R:Type} (κ : KT R):Bool->Option R:=fun f=>κ [.bool f]
section
variable (R:Type) (c1:cy.F R)
def Γ (g:Nat) (xs:List SV) (κ : KT R):Option R :=
 match g with
 | 216=>(match xs with
  | [.str a0,.int .i32 a1]=>c1 a0 a1 (cy.K0 κ)
  | _=>none)
 | _=>none
def h (n:Nat):Option (List (Nat × List (Nat × Nat))) :=
 match n with
 | _=>none
def C:Cfg R:=⟨af bm,Γ R c1,fun _=>false,h,0,fun _=>false⟩
theorem k (κ : KT R) (k:Nat) (a0 a1:_):cr (C R c1) Tryz.f194 10000 k [.str a0,.int .i32 a1] κ = bg.e c1 a0 a1 (K0 κ):=by kernel_rfl
end
theorem ae {R:Type} (tab:bZ) (f:aq tab) (g:Nat):bM (R:=R) Tryz.prog (af bm) tab g ((C R cy).call g):=by
 refine aF fun xs κ => ?_
 show aa _ _ _ g xs κ (Γ R cy g xs κ)
 unfold Γ
 split
 ·split
  ·exact cy.aG tab f _ _ κ
  ·exact aa.none
 ·exact aa.none
theorem aG {R:Type} (tab:bZ) (f:aq tab) (a0 a1:_) (κ : KT R):aa Tryz.prog (af bm) tab 194 [.str a0,.int .i32 a1] κ (bg a0 a1 (K0 κ)):=ah (C:=C R cy) (fn:=Tryz.f194) cz (ae tab f) (by kernel_rfl) (by kernel_rfl) (by rw [k];rfl)
end bg
namespace aw
abbrev K0 {R:Type} (κ : KT R):Q0 R:=fun f j m=>κ [.str f,.vp 177 [.str j,.int .i64 m]]
section
variable (R:Type) (c1:bg.F R)
def Γ (g:Nat) (xs:List SV) (κ : KT R):Option R :=
 match g with
 | 194=>(match xs with
  | [.str a0,.int .i32 a1]=>c1 a0 a1 (bg.K0 κ)
  | _=>none)
 | _=>none
def h (n:Nat):Option (List (Nat × List (Nat × Nat))) :=
 match n with
 | 2=>some [(0,[(0,0)]),(3,[(0,0)])]
 | _=>none
def C:Cfg R:=⟨af bm,Γ R c1,fun _=>false,h,0,fun _=>false⟩
noncomputable def S:=S0 (C R c1) Tryz.f176 1
noncomputable def G:=G0 (C R c1) Tryz.f176 1
def s2:=fun x0 f j=>(⟨er 73 [(0,.ptr 0 0),(3,.int .i64 x0)],[(0,.var 177 [.str f,.int .i64 j])],eo⟩:St)
noncomputable abbrev q2 {R:Type} (J:JT R):J2 R:=fun x0 f j=>J (placeOf Tryz.f176 2) (s2 x0 f j)
theorem k2 (J:JT R) (κ : KT R) (x0 f j:_):S R c1 κ J 2 (s2 x0 f j)=t2 c1 (q2 J) (K0 κ) x0 f j:=by kernel_rfl
theorem k (κ : KT R) (k:Nat) (a0 a1:_):cr (C R c1) Tryz.f176 10000 k [.vp 177 [.str a0,.int .i64 a1]] κ = aw.e c1 a0 a1 (q2 (G R c1 κ k)) (K0 κ):=by kernel_rfl
theorem g2 (κ : KT R):∀ (f:Nat),q2 (G R c1 κ f)=L2 c1 (K0 κ) f
 | 0=>rfl
 | f+1=>by
  funext x0 j m
  show S R c1 κ (G R c1 κ f) 2 _=_
  rw [k2,g2 κ f]
  rfl
end
theorem ae {R:Type} (tab:bZ) (f:aq tab) (g:Nat):bM (R:=R) Tryz.prog (af bm) tab g ((C R bg).call g):=by
 refine aF fun xs κ => ?_
 show aa _ _ _ g xs κ (Γ R bg g xs κ)
 unfold Γ
 split
 ·split
  ·exact bg.aG tab f _ _ κ
  ·exact aa.none
 ·exact aa.none
theorem aG {R:Type} (tab:bZ) (f:aq tab) (a0 a1:_) (κ : KT R):aa Tryz.prog (af bm) tab 176 [.vp 177 [.str a0,.int .i64 a1]] κ (aw a0 a1 (K0 κ)):=ah (C:=C R bg) (fn:=Tryz.f176) cz (ae tab f) (by kernel_rfl) (by kernel_rfl) (by rw [k];rw [g2 R bg κ ag];rfl)
end aw
namespace an
abbrev K0 {R:Type} (κ : KT R):Q0 R:=fun f j m=>κ [.bool f,.vp 177 [.str j,.int .i64 m]]
section
variable (R:Type)
def Γ (g:Nat) (xs:List SV) (κ : KT R):Option R :=
 match g with
 | _=>none
def h (n:Nat):Option (List (Nat × List (Nat × Nat))) :=
 match n with
 | _=>none
def C:Cfg R:=⟨af bm,Γ R,fun _=>false,h,0,fun _=>false⟩
theorem k (κ : KT R) (k:Nat) (a0 a1 a2:_):cr (C R) Tryz.f177 10000 k [.vp 177 [.str a0,.int .i64 a1],.int .u8 a2] κ = an.e a0 a1 a2 (K0 κ):=by kernel_rfl
end
theorem ae {R:Type} (tab:bZ) (f:aq tab) (g:Nat):bM (R:=R) Tryz.prog (af bm) tab g ((C R).call g):=by
 refine aF fun xs κ => ?_
 show aa _ _ _ g xs κ (Γ R g xs κ)
 unfold Γ
 split
 ·exact aa.none
theorem aG {R:Type} (tab:bZ) (f:aq tab) (a0 a1 a2:_) (κ : KT R):aa Tryz.prog (af bm) tab 177 [.vp 177 [.str a0,.int .i64 a1],.int .u8 a2] κ (an a0 a1 a2 (K0 κ)):=ah (C:=C R) (fn:=Tryz.f177) cz (ae tab f) (by kernel_rfl) (by kernel_rfl) (by rw [k];rfl)
end an
namespace bd
abbrev K0 {R:Type} (κ : KT R):Q0 R:=fun f j m u z=>κ [.tup [.str f,.str j,.bool m],.vp 177 [.str u,.int .i64 z]]
section
variable (R:Type) (c1:aj.F R) (c2:aw.F R) (c3:bJ.F R) (c4:an.F R)
def Γ (g:Nat) (xs:List SV) (κ : KT R):Option R :=
 match g with
 | 151=>(match xs with
  | [.str a0]=>c3 a0 (bJ.K0 κ)
  | _=>none)
 | 175=>(match xs with
  | [.vp 177 [.str a0,.int .i64 a1]]=>c1 a0 a1 (aj.K0 κ)
  | _=>none)
 | 176=>(match xs with
  | [.vp 177 [.str a0,.int .i64 a1]]=>c2 a0 a1 (aw.K0 κ)
  | _=>none)
 | 177=>(match xs with
  | [.vp 177 [.str a0,.int .i64 a1],.int .u8 a2]=>c4 a0 a1 a2 (an.K0 κ)
  | _=>none)
 | _=>none
def h (n:Nat):Option (List (Nat × List (Nat × Nat))) :=
 match n with
 | _=>none
def C:Cfg R:=⟨af bm,Γ R c1 c2 c3 c4,fun _=>false,h,0,fun _=>false⟩
theorem k (κ : KT R) (k:Nat) (a0 a1:_):cr (C R c1 c2 c3 c4) Tryz.f129 10000 k [.vp 177 [.str a0,.int .i64 a1]] κ = bd.e c1 c2 c3 c4 a0 a1 (K0 κ):=by kernel_rfl
end
theorem ae {R:Type} (tab:bZ) (f:aq tab) (g:Nat):bM (R:=R) Tryz.prog (af bm) tab g ((C R aj aw bJ an).call g):=by
 refine aF fun xs κ => ?_
 show aa _ _ _ g xs κ (Γ R aj aw bJ an g xs κ)
 unfold Γ
 split
 ·split
  ·exact bJ.aG tab f _ κ
  ·exact aa.none
 ·split
  ·exact aj.aG tab f _ _ κ
  ·exact aa.none
 ·split
  ·exact aw.aG tab f _ _ κ
  ·exact aa.none
 ·split
  ·exact an.aG tab f _ _ _ κ
  ·exact aa.none
 ·exact aa.none
theorem aG {R:Type} (tab:bZ) (f:aq tab) (a0 a1:_) (κ : KT R):aa Tryz.prog (af bm) tab 129 [.vp 177 [.str a0,.int .i64 a1]] κ (bd a0 a1 (K0 κ)):=ah (C:=C R aj aw bJ an) (fn:=Tryz.f129) cz (ae tab f) (by kernel_rfl) (by kernel_rfl) (by rw [k];rfl)
end bd
namespace aW
abbrev K0 {R:Type} (κ : KT R):BA->Option R:=fun f=>κ [.str f,.vp 157 [.nos,.no]]
section
variable (R:Type)
def Γ (g:Nat) (xs:List SV) (κ : KT R):Option R :=
 match g with
 | _=>none
def h (n:Nat):Option (List (Nat × List (Nat × Nat))) :=
 match n with
 | _=>none
def C:Cfg R:=⟨af bm,Γ R,fun _=>false,h,0,fun _=>false⟩
theorem k (κ : KT R) (k:Nat) (a0:_):cr (C R) Tryz.f114 10000 k [.vp 157 [.nos,.fr 5 a0 true]] κ = aW.e a0 (K0 κ):=by kernel_rfl
end
theorem ae {R:Type} (tab:bZ) (f:aq tab) (g:Nat):bM (R:=R) Tryz.prog (af bm) tab g ((C R).call g):=by
 refine aF fun xs κ => ?_
 show aa _ _ _ g xs κ (Γ R g xs κ)
 unfold Γ
 split
 ·exact aa.none
theorem aG {R:Type} (tab:bZ) (f:aq tab) (a0:_) (κ : KT R):aa Tryz.prog (af bm) tab 114 [.vp 157 [.nos,.fr 5 a0 true]] κ (aW a0 (K0 κ)):=ah (C:=C R) (fn:=Tryz.f114) cz (ae tab f) (by kernel_rfl) (by kernel_rfl) (by rw [k];rfl)
end aW
theorem cT.aG {R:Type} (tab:bZ) (j:aq tab) (a0:LA) (κ : List SV->Option R):aa Tryz.prog (af bm) tab 152 [.vp 157 [.nos,.fr 5 a0 true]] κ (cT a0 (fun f=>κ [.tup [],.vp 157 [.nos,.fr 5 f true]])) :=
 oW Tryz.call152 Di Be (.fr _ _) κ
namespace aQ
abbrev K0 {R:Type} (κ : KT R):LA->Option R:=fun f=>κ [.nili,.vp 157 [.nos,.fr 5 f true]]
section
variable (R:Type) (c1:cT.F R)
def Γ (g:Nat) (xs:List SV) (κ : KT R):Option R :=
 match g with
 | 152=>(match xs with
  | [.vp 157 [.nos,.fr 5 a0 true]]=>c1 a0 (fun f=>κ [.tup [],.vp 157 [.nos,.fr 5 f true]])
  | _=>none)
 | _=>none
def h (n:Nat):Option (List (Nat × List (Nat × Nat))) :=
 match n with
 | _=>none
def C:Cfg R:=⟨af bm,Γ R c1,fun _=>false,h,0,fun _=>false⟩
theorem k (κ : KT R) (k:Nat) (a0 a1:_):cr (C R c1) Tryz.f190 10000 k [.vp 157 [.nos,.fr 5 a0 true],.int .u8 a1] κ = aQ.e c1 a0 a1 (K0 κ):=by kernel_rfl
end
theorem ae {R:Type} (tab:bZ) (f:aq tab) (g:Nat):bM (R:=R) Tryz.prog (af bm) tab g ((C R cT).call g):=by
 refine aF fun xs κ => ?_
 show aa _ _ _ g xs κ (Γ R cT g xs κ)
 unfold Γ
 split
 ·split
  ·exact cT.aG tab f _ κ
  ·exact aa.none
 ·exact aa.none
theorem aG {R:Type} (tab:bZ) (f:aq tab) (a0 a1:_) (κ : KT R):aa Tryz.prog (af bm) tab 190 [.vp 157 [.nos,.fr 5 a0 true],.int .u8 a1] κ (aQ a0 a1 (K0 κ)):=ah (C:=C R cT) (fn:=Tryz.f190) cz (ae tab f) (by kernel_rfl) (by kernel_rfl) (by rw [k];rfl)
end aQ
namespace bC
abbrev K0 {R:Type} (κ : KT R):Q0 R:=fun f j m u=>κ [.tup [.str f,.bool j],.vp 177 [.str m,.int .i64 u]]
section
variable (R:Type) (c1:an.F R) (c2:aw.F R) (c3:aW.F R) (c4:aQ.F R)
def Γ (g:Nat) (xs:List SV) (κ : KT R):Option R :=
 match g with
 | 114=>(match xs with
  | [.vp 157 [.nos,.fr 5 a0 true]]=>c3 a0 (aW.K0 κ)
  | _=>none)
 | 176=>(match xs with
  | [.vp 177 [.str a0,.int .i64 a1]]=>c2 a0 a1 (aw.K0 κ)
  | _=>none)
 | 177=>(match xs with
  | [.vp 177 [.str a0,.int .i64 a1],.int .u8 a2]=>c1 a0 a1 a2 (an.K0 κ)
  | _=>none)
 | 190=>(match xs with
  | [.vp 157 [.nos,.fr 5 a0 true],.int .u8 a1]=>c4 a0 a1 (aQ.K0 κ)
  | _=>none)
 | _=>none
def h (n:Nat):Option (List (Nat × List (Nat × Nat))) :=
 match n with
 | 5=>some [(0,[(0,0)]),(5,[(1,7)])]
 | _=>none
def C:Cfg R:=⟨af bm,Γ R c1 c2 c3 c4,fun _=>false,h,0,fun _=>false⟩
noncomputable def S:=S0 (C R c1 c2 c3 c4) Tryz.f207 1
noncomputable def G:=G0 (C R c1 c2 c3 c4) Tryz.f207 1
def s5:=fun x0 f j=>(⟨er 78 [(0,.ptr 0 0),(5,.ptr 447 0)],[(0,.var 177 [.str x0,.int .i64 f]),(447,.var 157 [.nos,.own 385]),(385,.row 5 j true)],eo⟩:St)
noncomputable abbrev q5 {R:Type} (J:JT R):J5 R:=fun x0 f j=>J (placeOf Tryz.f207 5) (s5 x0 f j)
theorem k5 (J:JT R) (κ : KT R) (x0 f j:_):S R c1 c2 c3 c4 κ J 5 (s5 x0 f j)=t5 c3 c4 (q5 J) (K0 κ) x0 f j:=by kernel_rfl
theorem k (κ : KT R) (k:Nat) (a0 a1:_):cr (C R c1 c2 c3 c4) Tryz.f207 10000 k [.vp 177 [.str a0,.int .i64 a1]] κ = bC.e c1 c2 c3 c4 a0 a1 (q5 (G R c1 c2 c3 c4 κ k)) (K0 κ):=by kernel_rfl
theorem g5 (κ : KT R):∀ (f:Nat),q5 (G R c1 c2 c3 c4 κ f)=L5 c1 c2 c3 c4 (K0 κ) f
 | 0=>rfl
 | f+1=>by
  funext x0 j m
  show S R c1 c2 c3 c4 κ (G R c1 c2 c3 c4 κ f) 5 _=_
  rw [k5,g5 κ f]
  rfl
end
theorem ae {R:Type} (tab:bZ) (f:aq tab) (g:Nat):bM (R:=R) Tryz.prog (af bm) tab g ((C R an aw aW aQ).call g):=by
 refine aF fun xs κ => ?_
 show aa _ _ _ g xs κ (Γ R an aw aW aQ g xs κ)
 unfold Γ
 split
 ·split
  ·exact aW.aG tab f _ κ
  ·exact aa.none
 ·split
  ·exact aw.aG tab f _ _ κ
  ·exact aa.none
 ·split
  ·exact an.aG tab f _ _ _ κ
  ·exact aa.none
 ·split
  ·exact aQ.aG tab f _ _ κ
  ·exact aa.none
 ·exact aa.none
theorem aG {R:Type} (tab:bZ) (f:aq tab) (a0 a1:_) (κ : KT R):aa Tryz.prog (af bm) tab 207 [.vp 177 [.str a0,.int .i64 a1]] κ (bC a0 a1 (K0 κ)):=ah (C:=C R an aw aW aQ) (fn:=Tryz.f207) cz (ae tab f) (by kernel_rfl) (by kernel_rfl) (by rw [k];rw [g5 R an aw aW aQ κ ag];rfl)
end bC
namespace aV
abbrev K0 {R:Type} (κ : KT R):Q0 R:=fun f j m u z=>κ [.tup [.agg [.str f,.str j],.bool m],.vp 177 [.str u,.int .i64 z]]
section
variable (R:Type) (c1:aj.F R) (c2:an.F R) (c3:aw.F R) (c4:bJ.F R) (c5:bC.F R)
def Γ (g:Nat) (xs:List SV) (κ : KT R):Option R :=
 match g with
 | 151=>(match xs with
  | [.str a0]=>c4 a0 (bJ.K0 κ)
  | _=>none)
 | 175=>(match xs with
  | [.vp 177 [.str a0,.int .i64 a1]]=>c1 a0 a1 (aj.K0 κ)
  | _=>none)
 | 176=>(match xs with
  | [.vp 177 [.str a0,.int .i64 a1]]=>c3 a0 a1 (aw.K0 κ)
  | _=>none)
 | 177=>(match xs with
  | [.vp 177 [.str a0,.int .i64 a1],.int .u8 a2]=>c2 a0 a1 a2 (an.K0 κ)
  | _=>none)
 | 207=>(match xs with
  | [.vp 177 [.str a0,.int .i64 a1]]=>c5 a0 a1 (bC.K0 κ)
  | _=>none)
 | _=>none
def h (n:Nat):Option (List (Nat × List (Nat × Nat))) :=
 match n with
 | _=>none
def C:Cfg R:=⟨af bm,Γ R c1 c2 c3 c4 c5,fun _=>false,h,0,fun _=>false⟩
theorem k (κ : KT R) (k:Nat) (a0 a1:_):cr (C R c1 c2 c3 c4 c5) Tryz.f178 10000 k [.vp 177 [.str a0,.int .i64 a1]] κ = aV.e c1 c2 c3 c4 c5 a0 a1 (K0 κ):=by kernel_rfl
end
theorem ae {R:Type} (tab:bZ) (f:aq tab) (g:Nat):bM (R:=R) Tryz.prog (af bm) tab g ((C R aj an aw bJ bC).call g):=by
 refine aF fun xs κ => ?_
 show aa _ _ _ g xs κ (Γ R aj an aw bJ bC g xs κ)
 unfold Γ
 split
 ·split
  ·exact bJ.aG tab f _ κ
  ·exact aa.none
 ·split
  ·exact aj.aG tab f _ _ κ
  ·exact aa.none
 ·split
  ·exact aw.aG tab f _ _ κ
  ·exact aa.none
 ·split
  ·exact an.aG tab f _ _ _ κ
  ·exact aa.none
 ·split
  ·exact bC.aG tab f _ _ κ
  ·exact aa.none
 ·exact aa.none
theorem aG {R:Type} (tab:bZ) (f:aq tab) (a0 a1:_) (κ : KT R):aa Tryz.prog (af bm) tab 178 [.vp 177 [.str a0,.int .i64 a1]] κ (aV a0 a1 (K0 κ)):=ah (C:=C R aj an aw bJ bC) (fn:=Tryz.f178) cz (ae tab f) (by kernel_rfl) (by kernel_rfl) (by rw [k];rfl)
end aV
namespace aJ
abbrev K0 {R:Type} (κ : KT R):Q0 R:=fun f j m=>κ [.fr 129 f true,.vp 177 [.str j,.int .i64 m]]
section
variable (R:Type) (c1:aV.F R)
def Γ (g:Nat) (xs:List SV) (κ : KT R):Option R :=
 match g with
 | 178=>(match xs with
  | [.vp 177 [.str a0,.int .i64 a1]]=>c1 a0 a1 (aV.K0 κ)
  | _=>none)
 | _=>none
def h (n:Nat):Option (List (Nat × List (Nat × Nat))) :=
 match n with
 | 3=>some [(0,[(0,0)]),(3,[(0,131)]),(4,[(0,0)])]
 | _=>none
def C:Cfg R:=⟨af bm,Γ R c1,fun _=>false,h,0,fun _=>false⟩
noncomputable def S:=S0 (C R c1) Tryz.f130 1
noncomputable def G:=G0 (C R c1) Tryz.f130 1
def s3:=fun x0 f j m=>(⟨er 33 [(0,.ptr 0 0),(3,.own 256),(4,.mp 381)],[(0,.var 177 [.str x0,.int .i64 f]),(256,.row 129 j true),(381,.mp (.str) (.int .i64) m)],eo⟩:St)
noncomputable abbrev q3 {R:Type} (J:JT R):J3 R:=fun x0 f j m=>J (placeOf Tryz.f130 3) (s3 x0 f j m)
theorem k3 (J:JT R) (κ : KT R) (x0 f j m:_):S R c1 κ J 3 (s3 x0 f j m)=t3 c1 (q3 J) (K0 κ) x0 f j m:=by kernel_rfl
theorem k (κ : KT R) (k:Nat) (a0 a1:_):cr (C R c1) Tryz.f130 10000 k [.vp 177 [.str a0,.int .i64 a1]] κ = aJ.e c1 a0 a1 (q3 (G R c1 κ k)) (K0 κ):=by kernel_rfl
theorem g3 (κ : KT R):∀ (f:Nat),q3 (G R c1 κ f)=L3 c1 (K0 κ) f
 | 0=>rfl
 | f+1=>by
  funext x0 j m u
  show S R c1 κ (G R c1 κ f) 3 _=_
  rw [k3,g3 κ f]
  rfl
end
theorem ae {R:Type} (tab:bZ) (f:aq tab) (g:Nat):bM (R:=R) Tryz.prog (af bm) tab g ((C R aV).call g):=by
 refine aF fun xs κ => ?_
 show aa _ _ _ g xs κ (Γ R aV g xs κ)
 unfold Γ
 split
 ·split
  ·exact aV.aG tab f _ _ κ
  ·exact aa.none
 ·exact aa.none
theorem aG {R:Type} (tab:bZ) (f:aq tab) (a0 a1:_) (κ : KT R):aa Tryz.prog (af bm) tab 130 [.vp 177 [.str a0,.int .i64 a1]] κ (aJ a0 a1 (K0 κ)):=ah (C:=C R aV) (fn:=Tryz.f130) cz (ae tab f) (by kernel_rfl) (by kernel_rfl) (by rw [k];rw [g3 R aV κ ag];rfl)
end aJ
namespace az
abbrev K0 {R:Type} (κ : KT R):Q0 R:=fun f j m u=>κ [.agg [.bool f,.str j],.vp 177 [.str m,.int .i64 u]]
section
variable (R:Type) (c1:aj.F R) (c2:aw.F R) (c3:bJ.F R)
def Γ (g:Nat) (xs:List SV) (κ : KT R):Option R :=
 match g with
 | 151=>(match xs with
  | [.str a0]=>c3 a0 (bJ.K0 κ)
  | _=>none)
 | 175=>(match xs with
  | [.vp 177 [.str a0,.int .i64 a1]]=>c1 a0 a1 (aj.K0 κ)
  | _=>none)
 | 176=>(match xs with
  | [.vp 177 [.str a0,.int .i64 a1]]=>c2 a0 a1 (aw.K0 κ)
  | _=>none)
 | _=>none
def h (n:Nat):Option (List (Nat × List (Nat × Nat))) :=
 match n with
 | _=>none
def C:Cfg R:=⟨af bm,Γ R c1 c2 c3,fun _=>false,h,0,fun _=>false⟩
theorem k (κ : KT R) (k:Nat) (a0 a1:_):cr (C R c1 c2 c3) Tryz.f131 10000 k [.vp 177 [.str a0,.int .i64 a1]] κ = az.e c1 c2 c3 a0 a1 (K0 κ):=by kernel_rfl
end
theorem ae {R:Type} (tab:bZ) (f:aq tab) (g:Nat):bM (R:=R) Tryz.prog (af bm) tab g ((C R aj aw bJ).call g):=by
 refine aF fun xs κ => ?_
 show aa _ _ _ g xs κ (Γ R aj aw bJ g xs κ)
 unfold Γ
 split
 ·split
  ·exact bJ.aG tab f _ κ
  ·exact aa.none
 ·split
  ·exact aj.aG tab f _ _ κ
  ·exact aa.none
 ·split
  ·exact aw.aG tab f _ _ κ
  ·exact aa.none
 ·exact aa.none
theorem aG {R:Type} (tab:bZ) (f:aq tab) (a0 a1:_) (κ : KT R):aa Tryz.prog (af bm) tab 131 [.vp 177 [.str a0,.int .i64 a1]] κ (az a0 a1 (K0 κ)):=ah (C:=C R aj aw bJ) (fn:=Tryz.f131) cz (ae tab f) (by kernel_rfl) (by kernel_rfl) (by rw [k];rfl)
end az
namespace di
abbrev K0 {R:Type} (κ : KT R):Bool->BA->Option R:=fun f j=>κ [.agg [.bool f,.str j]]
section
variable (R:Type) (c1:db.F R) (c2:bL.F R)
def Γ (g:Nat) (xs:List SV) (κ : KT R):Option R :=
 match g with
 | 120=>(match xs with
  | [.ro 168 a0 false,.str a1]=>c1 a0 a1 (db.K0 κ)
  | _=>none)
 | 124=>(match xs with
  | [.str a0,.str a1]=>c2 a0 a1 (bL.K0 κ)
  | _=>none)
 | _=>none
def h (n:Nat):Option (List (Nat × List (Nat × Nat))) :=
 match n with
 | _=>none
def C:Cfg R:=⟨af bm,Γ R c1 c2,fun _=>false,h,0,fun _=>false⟩
theorem k (κ : KT R) (k:Nat) (a0 a1:_):cr (C R c1 c2) Tryz.f132 10000 k [.ro 168 a0 false,.str a1] κ = di.e c1 c2 a0 a1 (K0 κ):=by kernel_rfl
end
theorem ae {R:Type} (tab:bZ) (f:aq tab) (g:Nat):bM (R:=R) Tryz.prog (af bm) tab g ((C R db bL).call g):=by
 refine aF fun xs κ => ?_
 show aa _ _ _ g xs κ (Γ R db bL g xs κ)
 unfold Γ
 split
 ·split
  ·exact db.aG tab f _ _ κ
  ·exact aa.none
 ·split
  ·exact bL.aG tab f _ _ κ
  ·exact aa.none
 ·exact aa.none
theorem aG {R:Type} (tab:bZ) (f:aq tab) (a0 a1:_) (κ : KT R):aa Tryz.prog (af bm) tab 132 [.ro 168 a0 false,.str a1] κ (di a0 a1 (K0 κ)):=ah (C:=C R db bL) (fn:=Tryz.f132) cz (ae tab f) (by kernel_rfl) (by kernel_rfl) (by rw [k];rfl)
end di
namespace aH
abbrev K0 {R:Type} (κ : KT R):Q0 R:=fun f j m=>κ [.ro 9 f true,.vp 177 [.str j,.int .i64 m]]
section
variable (R:Type) (c1:az.F R) (c2:aj.F R) (c3:an.F R)
def Γ (g:Nat) (xs:List SV) (κ : KT R):Option R :=
 match g with
 | 131=>(match xs with
  | [.vp 177 [.str a0,.int .i64 a1]]=>c1 a0 a1 (az.K0 κ)
  | _=>none)
 | 175=>(match xs with
  | [.vp 177 [.str a0,.int .i64 a1]]=>c2 a0 a1 (aj.K0 κ)
  | _=>none)
 | 177=>(match xs with
  | [.vp 177 [.str a0,.int .i64 a1],.int .u8 a2]=>c3 a0 a1 a2 (an.K0 κ)
  | _=>none)
 | _=>none
def h (n:Nat):Option (List (Nat × List (Nat × Nat))) :=
 match n with
 | 2=>some [(0,[(0,0)]),(3,[(0,11)])]
 | 8=>some [(0,[(0,0)]),(3,[(0,1)])]
 | _=>none
def C:Cfg R:=⟨af bm,Γ R c1 c2 c3,fun _=>false,h,0,fun _=>false⟩
noncomputable def S:=S0 (C R c1 c2 c3) Tryz.f133 1
noncomputable def G:=G0 (C R c1 c2 c3) Tryz.f133 1
def s2:=fun x0 f j=>(⟨er 24 [(0,.ptr 0 0),(3,.own 256)],[(0,.var 177 [.str x0,.int .i64 f]),(256,.row 9 j true)],eo⟩:St)
def s8:=fun x0 f j=>(⟨er 24 [(0,.ptr 0 0),(3,.ro 9 x0 true)],[(0,.var 177 [.str f,.int .i64 j])],eo⟩:St)
noncomputable abbrev q2 {R:Type} (J:JT R):J2 R:=fun x0 f j=>J (placeOf Tryz.f133 2) (s2 x0 f j)
noncomputable abbrev q8 {R:Type} (J:JT R):J8 R:=fun x0 f j=>J (placeOf Tryz.f133 8) (s8 x0 f j)
theorem k2 (J:JT R) (κ : KT R) (x0 f j:_):S R c1 c2 c3 κ J 2 (s2 x0 f j)=t2 c1 c2 c3 (q2 J) (q8 J) x0 f j:=by kernel_rfl
theorem k8 (J:JT R) (κ : KT R) (x0 f j:_):S R c1 c2 c3 κ J 8 (s8 x0 f j)=t8 (K0 κ) x0 f j:=by kernel_rfl
theorem k (κ : KT R) (k:Nat) (a0 a1:_):cr (C R c1 c2 c3) Tryz.f133 10000 k [.vp 177 [.str a0,.int .i64 a1]] κ = aH.e c1 c2 c3 a0 a1 (q2 (G R c1 c2 c3 κ k)) (q8 (G R c1 c2 c3 κ k)) (K0 κ):=by kernel_rfl
theorem g8 (κ : KT R):∀ (f:Nat),q8 (G R c1 c2 c3 κ f)=L8 c1 c2 c3 (K0 κ) f
 | 0=>rfl
 | f+1=>by
  funext x0 j m
  show S R c1 c2 c3 κ (G R c1 c2 c3 κ f) 8 _=_
  rw [k8]
  rfl
theorem g2 (κ : KT R):∀ (f:Nat),q2 (G R c1 c2 c3 κ f)=L2 c1 c2 c3 (K0 κ) f
 | 0=>rfl
 | f+1=>by
  funext x0 j m
  show S R c1 c2 c3 κ (G R c1 c2 c3 κ f) 2 _=_
  rw [k2,g2 κ f,g8 R c1 c2 c3 κ f]
  rfl
end
theorem ae {R:Type} (tab:bZ) (f:aq tab) (g:Nat):bM (R:=R) Tryz.prog (af bm) tab g ((C R az aj an).call g):=by
 refine aF fun xs κ => ?_
 show aa _ _ _ g xs κ (Γ R az aj an g xs κ)
 unfold Γ
 split
 ·split
  ·exact az.aG tab f _ _ κ
  ·exact aa.none
 ·split
  ·exact aj.aG tab f _ _ κ
  ·exact aa.none
 ·split
  ·exact an.aG tab f _ _ _ κ
  ·exact aa.none
 ·exact aa.none
theorem aG {R:Type} (tab:bZ) (f:aq tab) (a0 a1:_) (κ : KT R):aa Tryz.prog (af bm) tab 133 [.vp 177 [.str a0,.int .i64 a1]] κ (aH a0 a1 (K0 κ)):=ah (C:=C R az aj an) (fn:=Tryz.f133) cz (ae tab f) (by kernel_rfl) (by kernel_rfl) (by rw [k];rw [g2 R az aj an κ ag,g8 R az aj an κ ag];rfl)
end aH
namespace dn
abbrev K0 {R:Type} (κ : KT R):Q0 R:=fun W X Y r3 r4 r5 r6 r7 r8 r9 f j m u z A M N O U V=>κ [.tup [],.vp 32 [.str W,.str X,.str Y,.ro 129 r3 true,.bool r4,.str r5,.bool r6,.str r7,.bool r8,.str r9,.bool f,.str j,.ro 129 m true,.ro 9 u true,.bool z,.str A,.int .i64 M,.int .i64 N,.int .i64 O,.int .i64 U,.int .i64 V,.nil]]
section
variable (R:Type) (c1:db.F R) (c2:bd.F R) (c3:aJ.F R) (c4:az.F R) (c5:di.F R) (c6:aH.F R)
def Γ (g:Nat) (xs:List SV) (κ : KT R):Option R :=
 match g with
 | 120=>(match xs with
  | [.ro 168 a0 false,.str a1]=>c1 a0 a1 (db.K0 κ)
  | _=>none)
 | 129=>(match xs with
  | [.vp 177 [.str a0,.int .i64 a1]]=>c2 a0 a1 (bd.K0 κ)
  | _=>none)
 | 130=>(match xs with
  | [.vp 177 [.str a0,.int .i64 a1]]=>c3 a0 a1 (aJ.K0 κ)
  | _=>none)
 | 131=>(match xs with
  | [.vp 177 [.str a0,.int .i64 a1]]=>c4 a0 a1 (az.K0 κ)
  | _=>none)
 | 132=>(match xs with
  | [.ro 168 a0 false,.str a1]=>c5 a0 a1 (di.K0 κ)
  | _=>none)
 | 133=>(match xs with
  | [.vp 177 [.str a0,.int .i64 a1]]=>c6 a0 a1 (aH.K0 κ)
  | _=>none)
 | _=>none
def h (n:Nat):Option (List (Nat × List (Nat × Nat))) :=
 match n with
 | 15=>some [(0,[(3,131),(3,1),(12,131),(12,1),(13,11),(13,1)]),(1,[(0,0)])]
 | _=>none
def C:Cfg R:=⟨af bm,Γ R c1 c2 c3 c4 c5 c6,fun _=>false,h,0,fun _=>false⟩
noncomputable def S:=S0 (C R c1 c2 c3 c4 c5 c6) Tryz.f90 1
noncomputable def G:=G0 (C R c1 c2 c3 c4 c5 c6) Tryz.f90 1
def EJ:=fun x0 X Y x3 x4 x5 x6 x7 x8 x9 f j m u z A M N O U V W=>(⟨er 108 [(0,.ptr 0 0),(1,.ro 168 x0 false)],[(0,.var 32 [.str X,.str Y,.str x3,.ro 129 x4 true,.bool x5,.str x6,.bool x7,.str x8,.bool x9,.str f,.bool j,.str m,.ro 129 u true,.ro 9 z true,.bool A,.str M,.int .i64 N,.int .i64 O,.int .i64 U,.int .i64 V,.int .i64 W,.nil])],eo⟩:St)
noncomputable abbrev Al {R:Type} (J:JT R):sM R:=fun x0 X Y x3 x4 x5 x6 x7 x8 x9 f j m u z A M N O U V W=>J (placeOf Tryz.f90 15) (EJ x0 X Y x3 x4 x5 x6 x7 x8 x9 f j m u z A M N O U V W)
theorem Gu (J:JT R) (κ : KT R) (x0 X Y x3 x4 x5 x6 x7 x8 x9 f j m u z A M N O U V W:_):S R c1 c2 c3 c4 c5 c6 κ J 15 (EJ x0 X Y x3 x4 x5 x6 x7 x8 x9 f j m u z A M N O U V W)=t15 c1 c6 (K0 κ) x0 X Y x3 x4 x5 x6 x7 x8 x9 f j m u z A M N O U V W:=by kernel_rfl
theorem k (κ : KT R) (k:Nat) (a0 a1 a2 a3 a4 a5 U V W a9 f j a12 m u z A M N O:_):cr (C R c1 c2 c3 c4 c5 c6) Tryz.f90 10000 k [.vp 32 [.str a0,.str a1,.str a2,.nil,.bool a3,.str a4,.bool a5,.str U,.bool V,.str W,.bool a9,.str f,.nil,.nil,.bool j,.str a12,.int .i64 m,.int .i64 u,.int .i64 z,.int .i64 A,.int .i64 M,.nil],.ro 168 N false,.bool O] κ = dn.e c1 c2 c3 c4 c5 c6 a0 a1 a2 a3 a4 a5 U V W a9 f j a12 m u z A M N O (Al (G R c1 c2 c3 c4 c5 c6 κ k)) (K0 κ):=by kernel_rfl
theorem g15 (κ : KT R):∀ (f:Nat),Al (G R c1 c2 c3 c4 c5 c6 κ f)=n9 c1 c2 c3 c4 c5 c6 (K0 κ) f
 | 0=>rfl
 | f+1=>by
  funext x0 Y x2 x3 x4 x5 x6 x7 x8 x9 j m u z A M N O U V W X
  show S R c1 c2 c3 c4 c5 c6 κ (G R c1 c2 c3 c4 c5 c6 κ f) 15 _=_
  rw [Gu]
  rfl
end
theorem ae {R:Type} (tab:bZ) (f:aq tab) (g:Nat):bM (R:=R) Tryz.prog (af bm) tab g ((C R db bd aJ az di aH).call g):=by
 refine aF fun xs κ => ?_
 show aa _ _ _ g xs κ (Γ R db bd aJ az di aH g xs κ)
 unfold Γ
 split
 ·split
  ·exact db.aG tab f _ _ κ
  ·exact aa.none
 ·split
  ·exact bd.aG tab f _ _ κ
  ·exact aa.none
 ·split
  ·exact aJ.aG tab f _ _ κ
  ·exact aa.none
 ·split
  ·exact az.aG tab f _ _ κ
  ·exact aa.none
 ·split
  ·exact di.aG tab f _ _ κ
  ·exact aa.none
 ·split
  ·exact aH.aG tab f _ _ κ
  ·exact aa.none
 ·exact aa.none
theorem aG {R:Type} (tab:bZ) (X:aq tab) (a0 a1 a2 a3 a4 a5 U V W a9 f j a12 m u z A M N O:_) (κ : KT R):aa Tryz.prog (af bm) tab 90 [.vp 32 [.str a0,.str a1,.str a2,.nil,.bool a3,.str a4,.bool a5,.str U,.bool V,.str W,.bool a9,.str f,.nil,.nil,.bool j,.str a12,.int .i64 m,.int .i64 u,.int .i64 z,.int .i64 A,.int .i64 M,.nil],.ro 168 N false,.bool O] κ (dn a0 a1 a2 a3 a4 a5 U V W a9 f j a12 m u z A M N O (K0 κ)):=ah (C:=C R db bd aJ az di aH) (fn:=Tryz.f90) cz (ae tab X) (by kernel_rfl) (by kernel_rfl) (by rw [k];rw [g15 R db bd aJ az di aH κ ag];rfl)
end dn
namespace aD
abbrev K0 {R:Type} (κ : KT R):Q0 R:=fun Y r1 r2 r3 r4 r5 r6 r7 r8 r9 f j m u z A M N O U V W X=>κ [.agg [.str Y,.str r1,.str r2,.ro 129 r3 true,.bool r4,.str r5,.bool r6,.str r7,.bool r8,.str r9,.bool f,.str j,.ro 129 m true,.ro 9 u true,.bool z,.str A,.int .i64 M,.int .i64 N,.int .i64 O,.int .i64 U,.int .i64 V,.nil],.vp 94 [.str W,.int .i64 X]]
section
variable (R:Type) (c1:dK.F R) (c2:aZ.F R) (c3:dn.F R)
def Γ (g:Nat) (xs:List SV) (κ : KT R):Option R :=
 match g with
 | 76=>(match xs with
  | [.str a0]=>c2 a0 (aZ.K0 κ)
  | _=>none)
 | 89=>(match xs with
  | [.str a0]=>c1 a0 (dK.K0 κ)
  | _=>none)
 | 90=>(match xs with
  | [.vp 32 [.str a0,.str a1,.str a2,.nil,.bool a3,.str a4,.bool a5,.str U,.bool V,.str W,.bool a9,.str f,.nil,.nil,.bool j,.str a12,.int .i64 m,.int .i64 u,.int .i64 z,.int .i64 A,.int .i64 M,.nil],.ro 168 N false,.bool O]=>c3 a0 a1 a2 a3 a4 a5 U V W a9 f j a12 m u z A M N O (dn.K0 κ)
  | _=>none)
 | _=>none
def h (n:Nat):Option (List (Nat × List (Nat × Nat))) :=
 match n with
 | _=>none
def C:Cfg R:=⟨af bm,Γ R c1 c2 c3,fun _=>false,h,0,fun _=>false⟩
theorem k (κ : KT R) (k:Nat) (a0 a1 a2 a3 a4:_):cr (C R c1 c2 c3) Tryz.f48 10000 k [.vp 94 [.str a0,.int .i64 a1],.agg [.int .i64 a2,.int .i64 a3],.bool a4] κ = aD.e c1 c2 c3 a0 a1 a2 a3 a4 (K0 κ):=by kernel_rfl
end
theorem ae {R:Type} (tab:bZ) (f:aq tab) (g:Nat):bM (R:=R) Tryz.prog (af bm) tab g ((C R dK aZ dn).call g):=by
 refine aF fun xs κ => ?_
 show aa _ _ _ g xs κ (Γ R dK aZ dn g xs κ)
 unfold Γ
 split
 ·split
  ·exact aZ.aG tab f _ κ
  ·exact aa.none
 ·split
  ·exact dK.aG tab f _ κ
  ·exact aa.none
 ·split
  ·exact dn.aG tab f _ _ _ _ _ _ _ _ _ _ _ _ _ _ _ _ _ _ _ _ κ
  ·exact aa.none
 ·exact aa.none
theorem aG {R:Type} (tab:bZ) (f:aq tab) (a0 a1 a2 a3 a4:_) (κ : KT R):aa Tryz.prog (af bm) tab 48 [.vp 94 [.str a0,.int .i64 a1],.agg [.int .i64 a2,.int .i64 a3],.bool a4] κ (aD a0 a1 a2 a3 a4 (K0 κ)):=ah (C:=C R dK aZ dn) (fn:=Tryz.f48) cz (ae tab f) (by kernel_rfl) (by kernel_rfl) (by rw [k];rfl)
end aD
namespace bO
abbrev K0 {R:Type} (κ : KT R):Q0 R:=fun X Y r2 r3 r4 r5 r6 r7 r8 r9 f j m u z A M N O U V W=>κ [.bool X,.vp 32 [.str Y,.str r2,.str r3,.ro 129 r4 true,.bool r5,.str r6,.bool r7,.str r8,.bool r9,.str f,.bool j,.str m,.ro 129 u true,.ro 9 z true,.bool A,.str M,.int .i64 N,.int .i64 O,.int .i64 U,.int .i64 V,.int .i64 W,.nil]]
section
variable (R:Type)
def Γ (g:Nat) (xs:List SV) (κ : KT R):Option R :=
 match g with
 | _=>none
def h (n:Nat):Option (List (Nat × List (Nat × Nat))) :=
 match n with
 | _=>none
def C:Cfg R:=⟨af bm,Γ R,fun _=>false,h,0,fun _=>false⟩
theorem k (κ : KT R) (k:Nat) (a0 a1 a2 a3 a4 a5 U V W a9 f j a12 m u z A M N O a20:_):cr (C R) Tryz.f59 10000 k [.vp 32 [.str a0,.str a1,.str a2,.ro 129 a3 true,.bool a4,.str a5,.bool U,.str V,.bool W,.str a9,.bool f,.str j,.ro 129 a12 true,.ro 9 m true,.bool u,.str z,.int .i64 A,.int .i64 M,.int .i64 N,.int .i64 O,.int .i64 a20,.nil]] κ = bO.e a0 a1 a2 a3 a4 a5 U V W a9 f j a12 m u z A M N O a20 (K0 κ):=by kernel_rfl
end
theorem ae {R:Type} (tab:bZ) (f:aq tab) (g:Nat):bM (R:=R) Tryz.prog (af bm) tab g ((C R).call g):=by
 refine aF fun xs κ => ?_
 show aa _ _ _ g xs κ (Γ R g xs κ)
 unfold Γ
 split
 ·exact aa.none
theorem aG {R:Type} (tab:bZ) (X:aq tab) (a0 a1 a2 a3 a4 a5 U V W a9 f j a12 m u z A M N O a20:_) (κ : KT R):aa Tryz.prog (af bm) tab 59 [.vp 32 [.str a0,.str a1,.str a2,.ro 129 a3 true,.bool a4,.str a5,.bool U,.str V,.bool W,.str a9,.bool f,.str j,.ro 129 a12 true,.ro 9 m true,.bool u,.str z,.int .i64 A,.int .i64 M,.int .i64 N,.int .i64 O,.int .i64 a20,.nil]] κ (bO a0 a1 a2 a3 a4 a5 U V W a9 f j a12 m u z A M N O a20 (K0 κ)):=ah (C:=C R) (fn:=Tryz.f59) cz (ae tab X) (by kernel_rfl) (by kernel_rfl) (by rw [k];rfl)
end bO
namespace cM
abbrev K0 {R:Type} (κ : KT R):BA->Bool->Option R:=fun f j=>κ [.tup [.str f,.bool j]]
section
variable (R:Type) (c1:bU.F R)
def Γ (g:Nat) (xs:List SV) (κ : KT R):Option R :=
 match g with
 | 173=>(match xs with
  | [.str a0,.str a1]=>c1 a0 a1 (bU.K0 κ)
  | _=>none)
 | _=>none
def h (n:Nat):Option (List (Nat × List (Nat × Nat))) :=
 match n with
 | _=>none
def C:Cfg R:=⟨af bm,Γ R c1,fun _=>false,h,0,fun _=>false⟩
theorem k (κ : KT R) (k:Nat) (a0 a1:_):cr (C R c1) Tryz.f225 10000 k [.str a0,.str a1] κ = cM.e c1 a0 a1 (K0 κ):=by kernel_rfl
end
theorem ae {R:Type} (tab:bZ) (f:aq tab) (g:Nat):bM (R:=R) Tryz.prog (af bm) tab g ((C R bU).call g):=by
 refine aF fun xs κ => ?_
 show aa _ _ _ g xs κ (Γ R bU g xs κ)
 unfold Γ
 split
 ·split
  ·exact bU.aG tab f _ _ κ
  ·exact aa.none
 ·exact aa.none
theorem aG {R:Type} (tab:bZ) (f:aq tab) (a0 a1:_) (κ : KT R):aa Tryz.prog (af bm) tab 225 [.str a0,.str a1] κ (cM a0 a1 (K0 κ)):=ah (C:=C R bU) (fn:=Tryz.f225) cz (ae tab f) (by kernel_rfl) (by kernel_rfl) (by rw [k];rfl)
end cM
namespace cH
abbrev K0 {R:Type} (κ : KT R):BA->Bool->Option R:=fun f j=>κ [.tup [.str f,.bool j]]
section
variable (R:Type) (c1:cM.F R)
def Γ (g:Nat) (xs:List SV) (κ : KT R):Option R :=
 match g with
 | 225=>(match xs with
  | [.str a0,.str a1]=>c1 a0 a1 (cM.K0 κ)
  | _=>none)
 | _=>none
def h (n:Nat):Option (List (Nat × List (Nat × Nat))) :=
 match n with
 | _=>none
def C:Cfg R:=⟨af bm,Γ R c1,fun _=>false,h,0,fun _=>false⟩
theorem k (κ : KT R) (k:Nat) (a0 a1:_):cr (C R c1) Tryz.f208 10000 k [.str a0,.str a1] κ = cH.e c1 a0 a1 (K0 κ):=by kernel_rfl
end
theorem ae {R:Type} (tab:bZ) (f:aq tab) (g:Nat):bM (R:=R) Tryz.prog (af bm) tab g ((C R cM).call g):=by
 refine aF fun xs κ => ?_
 show aa _ _ _ g xs κ (Γ R cM g xs κ)
 unfold Γ
 split
 ·split
  ·exact cM.aG tab f _ _ κ
  ·exact aa.none
 ·exact aa.none
theorem aG {R:Type} (tab:bZ) (f:aq tab) (a0 a1:_) (κ : KT R):aa Tryz.prog (af bm) tab 208 [.str a0,.str a1] κ (cH a0 a1 (K0 κ)):=ah (C:=C R cM) (fn:=Tryz.f208) cz (ae tab f) (by kernel_rfl) (by kernel_rfl) (by rw [k];rfl)
end cH
namespace cQ
abbrev K0 {R:Type} (κ : KT R):Bool->Bool->Option R:=fun f j=>κ [.tup [.bool f,.bool j]]
section
variable (R:Type) (c1:cH.F R) (c2:bL.F R)
def Γ (g:Nat) (xs:List SV) (κ : KT R):Option R :=
 match g with
 | 124=>(match xs with
  | [.str a0,.str a1]=>c2 a0 a1 (bL.K0 κ)
  | _=>none)
 | 208=>(match xs with
  | [.str a0,.str a1]=>c1 a0 a1 (cH.K0 κ)
  | _=>none)
 | _=>none
def h (n:Nat):Option (List (Nat × List (Nat × Nat))) :=
 match n with
 | _=>none
def C:Cfg R:=⟨af bm,Γ R c1 c2,fun _=>false,h,0,fun _=>false⟩
theorem k (κ : KT R) (k:Nat) (a0 a1:_):cr (C R c1 c2) Tryz.f179 10000 k [.str a0,.str a1] κ = cQ.e c1 c2 a0 a1 (K0 κ):=by kernel_rfl
end
theorem ae {R:Type} (tab:bZ) (f:aq tab) (g:Nat):bM (R:=R) Tryz.prog (af bm) tab g ((C R cH bL).call g):=by
 refine aF fun xs κ => ?_
 show aa _ _ _ g xs κ (Γ R cH bL g xs κ)
 unfold Γ
 split
 ·split
  ·exact bL.aG tab f _ _ κ
  ·exact aa.none
 ·split
  ·exact cH.aG tab f _ _ κ
  ·exact aa.none
 ·exact aa.none
theorem aG {R:Type} (tab:bZ) (f:aq tab) (a0 a1:_) (κ : KT R):aa Tryz.prog (af bm) tab 179 [.str a0,.str a1] κ (cQ a0 a1 (K0 κ)):=ah (C:=C R cH bL) (fn:=Tryz.f179) cz (ae tab f) (by kernel_rfl) (by kernel_rfl) (by rw [k];rfl)
end cQ
namespace bA
abbrev K0 {R:Type} (κ : KT R):Q0 R:=fun f j m=>κ [.fr 29 f true,.vp 94 [.str j,.int .i64 m]]
section
variable (R:Type) (c1:aL.F R) (c2:cQ.F R)
def Γ (g:Nat) (xs:List SV) (κ : KT R):Option R :=
 match g with
 | 128=>(match xs with
  | [.str a0,.str a1]=>c1 a0 a1 (aL.K0 κ)
  | _=>none)
 | 179=>(match xs with
  | [.str a0,.str a1]=>c2 a0 a1 (cQ.K0 κ)
  | _=>none)
 | _=>none
def h (n:Nat):Option (List (Nat × List (Nat × Nat))) :=
 match n with
 | 4=>some [(0,[(0,0)]),(2,[(0,0)]),(4,[(0,0)]),(7,[(0,31)]),(8,[(0,0)]),(9,[(0,0)])]
 | _=>none
def C:Cfg R:=⟨af bm,Γ R c1 c2,fun _=>false,h,0,fun _=>false⟩
noncomputable def S:=S0 (C R c1 c2) Tryz.f134 1
noncomputable def G:=G0 (C R c1 c2) Tryz.f134 1
def s4:=fun x0 f j m u z A M=>(⟨er 85 [(0,.ptr 0 0),(2,.str x0),(4,.ptr 383 0),(7,.own 512),(8,.int .i64 f),(9,.int .i64 j)],[(0,.var 94 [.str m,.int .i64 u]),(383,.var 29 [.int .i64 z,.int .i64 A]),(512,.row 29 M true)],eo⟩:St)
noncomputable abbrev q4 {R:Type} (J:JT R):J4 R:=fun x0 f j m u z A M=>J (placeOf Tryz.f134 4) (s4 x0 f j m u z A M)
theorem k4 (J:JT R) (κ : KT R) (x0 f j m u z A M:_):S R c1 c2 κ J 4 (s4 x0 f j m u z A M)=t4 c1 c2 (q4 J) (K0 κ) x0 f j m u z A M:=by kernel_rfl
theorem k (κ : KT R) (k:Nat) (a0 a1 a2 a3 a4:_):cr (C R c1 c2) Tryz.f134 10000 k [.vp 94 [.str a0,.int .i64 a1],.agg [.int .i64 a2,.int .i64 a3],.str a4] κ = bA.e c1 c2 a0 a1 a2 a3 a4 (q4 (G R c1 c2 κ k)) (K0 κ):=by kernel_rfl
theorem g4 (κ : KT R):∀ (f:Nat),q4 (G R c1 c2 κ f)=L4 c1 c2 (K0 κ) f
 | 0=>rfl
 | f+1=>by
  funext x0 j m u z A M N
  show S R c1 c2 κ (G R c1 c2 κ f) 4 _=_
  rw [k4,g4 κ f]
  rfl
end
theorem ae {R:Type} (tab:bZ) (f:aq tab) (g:Nat):bM (R:=R) Tryz.prog (af bm) tab g ((C R aL cQ).call g):=by
 refine aF fun xs κ => ?_
 show aa _ _ _ g xs κ (Γ R aL cQ g xs κ)
 unfold Γ
 split
 ·split
  ·exact aL.aG tab f _ _ κ
  ·exact aa.none
 ·split
  ·exact cQ.aG tab f _ _ κ
  ·exact aa.none
 ·exact aa.none
theorem aG {R:Type} (tab:bZ) (f:aq tab) (a0 a1 a2 a3 a4:_) (κ : KT R):aa Tryz.prog (af bm) tab 134 [.vp 94 [.str a0,.int .i64 a1],.agg [.int .i64 a2,.int .i64 a3],.str a4] κ (bA a0 a1 a2 a3 a4 (K0 κ)):=ah (C:=C R aL cQ) (fn:=Tryz.f134) cz (ae tab f) (by kernel_rfl) (by kernel_rfl) (by rw [k];rw [g4 R aL cQ κ ag];rfl)
end bA
namespace aE
abbrev K0 {R:Type} (κ : KT R):Q0 R:=fun Y r1 r2 r3 r4 r5 r6 r7 r8 r9 f j m u z A M N O U V W X=>κ [.nil,.vp 94 [.str Y,.int .i64 r1],.vp 32 [.str r2,.str r3,.str r4,.ro 129 r5 true,.bool r6,.str r7,.bool r8,.str r9,.bool f,.str j,.bool m,.str u,.ro 129 z true,.ro 9 A true,.bool M,.str N,.int .i64 O,.int .i64 U,.int .i64 V,.int .i64 W,.int .i64 X,.nil]]
abbrev K1 {R:Type} (κ : KT R):Q1 R:=fun r0 r1 r2 r3 r4 r5 r6 r7 r8 r9 f j m u z A M N O U V W X Y=>κ [.fr 29 r0 true,.vp 94 [.str r1,.int .i64 r2],.vp 32 [.str r3,.str r4,.str r5,.ro 129 r6 true,.bool r7,.str r8,.bool r9,.str f,.bool j,.str m,.bool u,.str z,.ro 129 A true,.ro 9 M true,.bool N,.str O,.int .i64 U,.int .i64 V,.int .i64 W,.int .i64 X,.int .i64 Y,.nil]]
section
variable (R:Type) (c1:bO.F R) (c2:bA.F R)
def Γ (g:Nat) (xs:List SV) (κ : KT R):Option R :=
 match g with
 | 59=>(match xs with
  | [.vp 32 [.str a0,.str a1,.str a2,.ro 129 a3 true,.bool a4,.str a5,.bool U,.str V,.bool W,.str a9,.bool f,.str j,.ro 129 a12 true,.ro 9 m true,.bool u,.str z,.int .i64 A,.int .i64 M,.int .i64 N,.int .i64 O,.int .i64 a20,.nil]]=>c1 a0 a1 a2 a3 a4 a5 U V W a9 f j a12 m u z A M N O a20 (bO.K0 κ)
  | _=>none)
 | 134=>(match xs with
  | [.vp 94 [.str a0,.int .i64 a1],.agg [.int .i64 a2,.int .i64 a3],.str a4]=>c2 a0 a1 a2 a3 a4 (bA.K0 κ)
  | _=>none)
 | _=>none
def h (n:Nat):Option (List (Nat × List (Nat × Nat))) :=
 match n with
 | 8=>some [(0,[(0,0)]),(1,[(0,0)]),(51,[(0,0)]),(52,[(0,0)]),(53,[(0,0)])]
 | _=>none
def C:Cfg R:=⟨af bm,Γ R c1 c2,fun _=>false,h,0,fun _=>false⟩
noncomputable def S:=S0 (C R c1 c2) Tryz.f91 2
noncomputable def G:=G0 (C R c1 c2) Tryz.f91 2
def s8:=fun x0 x1 x2 x3 x4 x5 x6 x7 x8 x9 f j m u z A M N O U V W X Y ad ae=>(⟨er 81 [(0,.ptr 0 0),(1,.ptr 1 0),(51,.ro 129 x0 true),(52,.int .i64 x1),(53,.int .i64 x2)],[(1,.var 32 [.str x3,.str x4,.str x5,.ro 129 x6 true,.bool x7,.str x8,.bool x9,.str f,.bool j,.str m,.bool u,.str z,.ro 129 A true,.ro 9 M true,.bool N,.str O,.int .i64 U,.int .i64 V,.int .i64 W,.int .i64 X,.int .i64 Y,.nil]),(0,.var 94 [.str ad,.int .i64 ae])],eo⟩:St)
noncomputable abbrev q8 {R:Type} (J:JT R):J8 R:=fun x0 x1 x2 x3 x4 x5 x6 x7 x8 x9 f j m u z A M N O U V W X Y ad ae=>J (placeOf Tryz.f91 8) (s8 x0 x1 x2 x3 x4 x5 x6 x7 x8 x9 f j m u z A M N O U V W X Y ad ae)
theorem k8 (J:JT R) (κ : KT R) (x0 x1 x2 x3 x4 x5 x6 x7 x8 x9 f j m u z A M N O U V W X Y ad ae:_):S R c1 c2 κ J 8 (s8 x0 x1 x2 x3 x4 x5 x6 x7 x8 x9 f j m u z A M N O U V W X Y ad ae)=t8 c2 (q8 J) (K0 κ) (K1 κ) x0 x1 x2 x3 x4 x5 x6 x7 x8 x9 f j m u z A M N O U V W X Y ad ae:=by kernel_rfl
theorem k (κ : KT R) (k:Nat) (a0 a1 a2 a3 a4 a5 V W X a9 f j a12 m u z A M N O a20 a21 U:_):cr (C R c1 c2) Tryz.f91 10000 k [.vp 94 [.str a0,.int .i64 a1],.vp 32 [.str a2,.str a3,.str a4,.ro 129 a5 true,.bool V,.str W,.bool X,.str a9,.bool f,.str j,.bool a12,.str m,.ro 129 u true,.ro 9 z true,.bool A,.str M,.int .i64 N,.int .i64 O,.int .i64 a20,.int .i64 a21,.int .i64 U,.nil]] κ = aE.e c1 c2 a0 a1 a2 a3 a4 a5 V W X a9 f j a12 m u z A M N O a20 a21 U (q8 (G R c1 c2 κ k)) (K0 κ) (K1 κ):=by kernel_rfl
theorem g8 (κ : KT R):∀ (f:Nat),q8 (G R c1 c2 κ f)=L8 c1 c2 (K0 κ) (K1 κ) f
 | 0=>rfl
 | f+1=>by
  funext x0 x1 x2 x3 x4 x5 x6 x7 x8 x9 j m u z A M N O U V W X Y ad ae ap
  show S R c1 c2 κ (G R c1 c2 κ f) 8 _=_
  rw [k8,g8 κ f]
  rfl
end
theorem ae {R:Type} (tab:bZ) (f:aq tab) (g:Nat):bM (R:=R) Tryz.prog (af bm) tab g ((C R bO bA).call g):=by
 refine aF fun xs κ => ?_
 show aa _ _ _ g xs κ (Γ R bO bA g xs κ)
 unfold Γ
 split
 ·split
  ·exact bO.aG tab f _ _ _ _ _ _ _ _ _ _ _ _ _ _ _ _ _ _ _ _ _ κ
  ·exact aa.none
 ·split
  ·exact bA.aG tab f _ _ _ _ _ κ
  ·exact aa.none
 ·exact aa.none
theorem aG {R:Type} (tab:bZ) (Y:aq tab) (a0 a1 a2 a3 a4 a5 V W X a9 f j a12 m u z A M N O a20 a21 U:_) (κ : KT R):aa Tryz.prog (af bm) tab 91 [.vp 94 [.str a0,.int .i64 a1],.vp 32 [.str a2,.str a3,.str a4,.ro 129 a5 true,.bool V,.str W,.bool X,.str a9,.bool f,.str j,.bool a12,.str m,.ro 129 u true,.ro 9 z true,.bool A,.str M,.int .i64 N,.int .i64 O,.int .i64 a20,.int .i64 a21,.int .i64 U,.nil]] κ (aE a0 a1 a2 a3 a4 a5 V W X a9 f j a12 m u z A M N O a20 a21 U (K0 κ) (K1 κ)):=ah (C:=C R bO bA) (fn:=Tryz.f91) cz (ae tab Y) (by kernel_rfl) (by kernel_rfl) (by rw [k];rw [g8 R bO bA κ ag];rfl)
end aE
namespace ef
abbrev K0 {R:Type} (κ : KT R):BA->Option R:=fun f=>κ [.str f]
section
variable (R:Type)
def Γ (g:Nat) (xs:List SV) (κ : KT R):Option R :=
 match g with
 | _=>none
def h (n:Nat):Option (List (Nat × List (Nat × Nat))) :=
 match n with
 | _=>none
def C:Cfg R:=⟨af bm,Γ R,fun _=>false,h,0,fun _=>false⟩
theorem k (κ : KT R) (k:Nat) (a0:_):cr (C R) Tryz.f226 10000 k [.int .i64 a0] κ = ef.e a0 (K0 κ):=by kernel_rfl
end
theorem ae {R:Type} (tab:bZ) (f:aq tab) (g:Nat):bM (R:=R) Tryz.prog (af bm) tab g ((C R).call g):=by
 refine aF fun xs κ => ?_
 show aa _ _ _ g xs κ (Γ R g xs κ)
 unfold Γ
 split
 ·exact aa.none
theorem aG {R:Type} (tab:bZ) (f:aq tab) (a0:_) (κ : KT R):aa Tryz.prog (af bm) tab 226 [.int .i64 a0] κ (ef a0 (K0 κ)):=ah (C:=C R) (fn:=Tryz.f226) cz (ae tab f) (by kernel_rfl) (by kernel_rfl) (by rw [k];rfl)
end ef
namespace dc
abbrev K0 {R:Type} (κ : KT R):BA->Option R:=fun f=>κ [.str f]
section
variable (R:Type) (c1:ef.F R)
def Γ (g:Nat) (xs:List SV) (κ : KT R):Option R :=
 match g with
 | 226=>(match xs with
  | [.int .i64 a0]=>c1 a0 (ef.K0 κ)
  | _=>none)
 | _=>none
def h (n:Nat):Option (List (Nat × List (Nat × Nat))) :=
 match n with
 | _=>none
def C:Cfg R:=⟨af bm,Γ R c1,fun _=>false,h,0,fun _=>false⟩
theorem k (κ : KT R) (k:Nat) (a0 a1:_):cr (C R c1) Tryz.f209 10000 k [.int .i64 a0,.int .i64 a1] κ = dc.e c1 a0 a1 (K0 κ):=by kernel_rfl
end
theorem ae {R:Type} (tab:bZ) (f:aq tab) (g:Nat):bM (R:=R) Tryz.prog (af bm) tab g ((C R ef).call g):=by
 refine aF fun xs κ => ?_
 show aa _ _ _ g xs κ (Γ R ef g xs κ)
 unfold Γ
 split
 ·split
  ·exact ef.aG tab f _ κ
  ·exact aa.none
 ·exact aa.none
theorem aG {R:Type} (tab:bZ) (f:aq tab) (a0 a1:_) (κ : KT R):aa Tryz.prog (af bm) tab 209 [.int .i64 a0,.int .i64 a1] κ (dc a0 a1 (K0 κ)):=ah (C:=C R ef) (fn:=Tryz.f209) cz (ae tab f) (by kernel_rfl) (by kernel_rfl) (by rw [k];rfl)
end dc
namespace eK
abbrev K0 {R:Type} (κ : KT R):BA->Option R:=fun f=>κ [.str f]
section
variable (R:Type) (c1:dc.F R)
def Γ (g:Nat) (xs:List SV) (κ : KT R):Option R :=
 match g with
 | 209=>(match xs with
  | [.int .i64 a0,.int .i64 a1]=>c1 a0 a1 (dc.K0 κ)
  | _=>none)
 | _=>none
def h (n:Nat):Option (List (Nat × List (Nat × Nat))) :=
 match n with
 | _=>none
def C:Cfg R:=⟨af bm,Γ R c1,fun _=>false,h,0,fun _=>false⟩
theorem k (κ : KT R) (k:Nat) (a0:_):cr (C R c1) Tryz.f180 10000 k [.int .i64 a0] κ = eK.e c1 a0 (K0 κ):=by kernel_rfl
end
theorem ae {R:Type} (tab:bZ) (f:aq tab) (g:Nat):bM (R:=R) Tryz.prog (af bm) tab g ((C R dc).call g):=by
 refine aF fun xs κ => ?_
 show aa _ _ _ g xs κ (Γ R dc g xs κ)
 unfold Γ
 split
 ·split
  ·exact dc.aG tab f _ _ κ
  ·exact aa.none
 ·exact aa.none
theorem aG {R:Type} (tab:bZ) (f:aq tab) (a0:_) (κ : KT R):aa Tryz.prog (af bm) tab 180 [.int .i64 a0] κ (eK a0 (K0 κ)):=ah (C:=C R dc) (fn:=Tryz.f180) cz (ae tab f) (by kernel_rfl) (by kernel_rfl) (by rw [k];rfl)
end eK
namespace cB
abbrev K0 {R:Type} (κ : KT R):BA->Option R:=fun f=>κ [.str f]
section
variable (R:Type) (c1:eK.F R)
def Γ (g:Nat) (xs:List SV) (κ : KT R):Option R :=
 match g with
 | 180=>(match xs with
  | [.int .i64 a0]=>c1 a0 (eK.K0 κ)
  | _=>none)
 | _=>none
def h (n:Nat):Option (List (Nat × List (Nat × Nat))) :=
 match n with
 | _=>none
def C:Cfg R:=⟨af bm,Γ R c1,fun _=>false,h,0,fun _=>false⟩
theorem k (κ : KT R) (k:Nat) (a0:_):cr (C R c1) Tryz.f135 10000 k [.int .i64 a0] κ = cB.e c1 a0 (K0 κ):=by kernel_rfl
end
theorem ae {R:Type} (tab:bZ) (f:aq tab) (g:Nat):bM (R:=R) Tryz.prog (af bm) tab g ((C R eK).call g):=by
 refine aF fun xs κ => ?_
 show aa _ _ _ g xs κ (Γ R eK g xs κ)
 unfold Γ
 split
 ·split
  ·exact eK.aG tab f _ κ
  ·exact aa.none
 ·exact aa.none
theorem aG {R:Type} (tab:bZ) (f:aq tab) (a0:_) (κ : KT R):aa Tryz.prog (af bm) tab 135 [.int .i64 a0] κ (cB a0 (K0 κ)):=ah (C:=C R eK) (fn:=Tryz.f135) cz (ae tab f) (by kernel_rfl) (by kernel_rfl) (by rw [k];rfl)
end cB
namespace aU
abbrev K0 {R:Type} (κ : KT R):Int->Option R:=fun f=>κ [.int .i64 f]
section
variable (R:Type)
def Γ (g:Nat) (xs:List SV) (κ : KT R):Option R :=
 match g with
 | _=>none
def h (n:Nat):Option (List (Nat × List (Nat × Nat))) :=
 match n with
 | 2=>some [(2,[(0,0)]),(4,[(0,0)])]
 | _=>none
def C:Cfg R:=⟨af bm,Γ R,fun _=>false,h,0,fun _=>false⟩
noncomputable def S:=S0 (C R) Tryz.f136 0
noncomputable def G:=G0 (C R) Tryz.f136 0
def s2:=fun x0 f j=>(⟨er 10 [(2,.int .i64 x0),(4,.ptr 383 0)],[(383,.sit f j)],eo⟩:St)
noncomputable abbrev q2 {R:Type} (J:JT R):J2 R:=fun x0 f j=>J (placeOf Tryz.f136 2) (s2 x0 f j)
theorem k2 (J:JT R) (κ : KT R) (x0 f j:_):S R κ J 2 (s2 x0 f j)=t2 (q2 J) (K0 κ) x0 f j:=by kernel_rfl
theorem k (κ : KT R) (k:Nat) (a0:_):cr (C R) Tryz.f136 10000 k [.str a0] κ = aU.e a0 (q2 (G R κ k)) (K0 κ):=by kernel_rfl
theorem g2 (κ : KT R):∀ (f:Nat),q2 (G R κ f)=L2 (K0 κ) f
 | 0=>rfl
 | f+1=>by
  funext x0 j m
  show S R κ (G R κ f) 2 _=_
  rw [k2,g2 κ f]
  rfl
end
theorem ae {R:Type} (tab:bZ) (f:aq tab) (g:Nat):bM (R:=R) Tryz.prog (af bm) tab g ((C R).call g):=by
 refine aF fun xs κ => ?_
 show aa _ _ _ g xs κ (Γ R g xs κ)
 unfold Γ
 split
 ·exact aa.none
theorem aG {R:Type} (tab:bZ) (f:aq tab) (a0:_) (κ : KT R):aa Tryz.prog (af bm) tab 136 [.str a0] κ (aU a0 (K0 κ)):=ah (C:=C R) (fn:=Tryz.f136) cz (ae tab f) (by kernel_rfl) (by kernel_rfl) (by rw [k];rw [g2 R κ ag];rfl)
end aU
end Go.Proofs.Ab
